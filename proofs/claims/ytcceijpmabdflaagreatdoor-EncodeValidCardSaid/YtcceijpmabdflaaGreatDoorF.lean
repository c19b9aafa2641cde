/- Part of the proof of EncodeValid. -/
import Derived.Test.YtcceijpmabdflaaGreatDoorE
set_option linter.all false
set_option maxRecDepth 100000
open And renaming intro->ai
open Bool renaming and_eq_false_iff->bik,and_eq_true->bN,false->I,false_eq_true->eE,not_eq_false'->fK,not_eq_true'->eH,not_false->kN,not_true->fh,or_eq_false_iff->cP,or_true->wY,true->U
open Decidable renaming decide->Q,not_not->aNS
open Go.IntKind renaming i64->dq
open Go.Proofs.Tryz renaming prog->aS
open Int renaming toNat_natCast->bh
open List renaming all_eq_true->dV,append_nil->cL,cons.injEq->kO,cons_append->zn,drop_succ_cons->nM,drop_zero->J3,ext_getElem?->aqI,flatMap_cons->Cz,flatMap_nil->RN,getElem?_append_left->xe,getElem?_cons_zero->qh,getElem?_eq_getElem->eC,getElem?_map->bj9,getElem_of_mem->ou,length->L,length_append->a6G,length_cons->bZ,length_drop->oz,length_map->bJ,length_nil->aO1,length_take->gC,map_append->dg,map_cons->ji,map_map->vA,map_nil->mU,map_set->vB,mem_append->dF,mem_cons->eW,mem_filter->jW,mem_map->dN,mem_map_of_mem->CA,mem_of_mem_take->bnL,mem_or_eq_of_mem_set->CC,mem_singleton->cE,nil_append->dW,nodup_append->xl,not_mem_nil->ql,range->aH,range_succ->qn,replicate->er,set_cons_zero->RY,set_eq_take_append_cons_drop->GP,take_length->gV,take_of_length_le->oB,take_succ_eq_append_getElem->iJ,take_zero->CE
open Nat renaming le_refl->dA,lt_or_ge->jj,zero_add->aj
open Ne renaming symm->Sa
open Option renaming bind_some->aQd,map_some->df,none->J,some->V
namespace Go.Ab
open Go Go.RowKit Go.Proofs
section
variable{ks:List Nat}{Y Y' Y1:ae}{m b:Id}{hs:List ByteArray}{h:AV}{d:Nat}{K:be}{l:List Id}
theorem Kx.gr(k:Kx ks Y Y'){e:TypeId}{z:Nat}{a:AV}{bA:List (List AV)}(g:lA Y e z a bA)(c:∀q∈aA a,q.1∉ks):lA Y' e z a bA:=by rcases g with g|⟨b,m,rfl,g⟩;exact .inl g;exact .inr ⟨b,m,rfl,k.keep _ _ (c b<|by simp[aA]) g⟩
theorem Fx.kx{Lw:List Id}(F:Fx Y Y' Lw)(c:∀q∈Lw,q.1∈ks):Kx ks Y Y':=⟨F.len,by grind [Fx.keep]⟩
theorem J7.mix(M:J7 Y1 m b hs h)(c:L Y1=L Y)(g:okI ks l m)(f:okI ks l b)(i:∀q∈aA h,okI ks l q):J7 (avs ks l Y Y1) m b hs h:=by obtain⟨o,k,s,tx,e,n,j⟩:=M.mx;obtain⟨Lw,a,T⟩:=M.tp;refine⟨⟨o,k,s,tx,e,n,?_⟩,⟨Lw,a,⟨?_,T.le,T.ok,T.ll⟩⟩,aRR c M.gh i,by grind [aPl,J7.le],M.sm,M.sb,M.sh⟩;rw[aPT c g.1,lD g.2];exact j;rw[aPT c f.1,lD f.2];exact T.bx
def J7.cut(M:J7 Y m b hs h)(f:okI ks l m)(e:okI ks l b)(g:∀q∈aA h,okI ks l q):J7 (bim ks l Y) m b hs h:=by obtain⟨n,j,s,tx,c,k,i⟩:=M.mx;obtain⟨Lw,a,T⟩:=M.tp;refine⟨⟨n,j,s,tx,c,k,?_⟩,⟨Lw,a,⟨?_,T.le,T.ok,T.ll⟩⟩,a6y M.gh g,by rw[aOr];exact M.le,M.sm,M.sb,M.sh⟩;rw[aOV f.1,lD f.2];exact i;rw[aOV e.1,lD e.2];exact T.bx
theorem J7.bA(M:J7 Y1 m b hs h)(g:okI ks l b)(i:∀q∈aA h,okI ks l q):∀p,p=m\/p=b\/p∈aA h->∀x,box Y1 p=V x->x.var=U->∀q∈x.bA,∀y∈q,okC ks l y:=by obtain⟨u,r,s,tx,o,t,n⟩:=M.mx;obtain⟨Lw,a,T⟩:=M.tp;rintro p (rfl|rfl|j) x c k q e y f;rw[n] at c;cases c;simp only[cE] at e;subst e;simp only[eW,ql,bjf] at f;rcases f with rfl|rfl|rfl|rfl|rfl|rfl|rfl|rfl;exact g;trivial;trivial;trivial;trivial;trivial;trivial;exact aQw M.gh i;rw[T.bx] at c;cases c;simp only[cE] at e;subst e;simp only[eW,ql,bjf] at f;rcases f with rfl|rfl;exact .inl rfl;trivial;exact(aNO M.gh p j x c k).elim
theorem aXR(M:J7 Y m b hs h){n:Int}(E:∀(x:Int) Y1,0<=x->(1<=n->x<n)->J7 Y1 m b hs h->Kx [14,15,16] Y Y1->K (iv x) Y1):cV 115 [.p b 0 0,iv n] Y d K:=by have o:=M.sm;have k:=M.sb;have z:okI [14,15,16] (m::b::aA h) m:=⟨by simp[o],by simp⟩;have e:okI [14,15,16] (m::b::aA h) b:=⟨by simp[k],by simp⟩;have g:∀q∈aA h,okI [14,15,16] (m::b::aA h) q:=λq j=>⟨by simp[M.sh q j],by simp[j]⟩;have c:=M.cut z e g;obtain⟨Lw,a,T⟩:=c.tp;refine aQN rfl rfl (m::b::aA h) (λx t=>?_) (λp f=>c.bA e g p<|by simpa using f) (aWF c.le T n) ?_;simp only[eW,ql,bjf] at t;rcases t with rfl|rfl;exact e;trivial;rintro r Y1 ⟨x,u,rfl,B,C,w,D,_,F⟩;have i:J7 Y1 m b hs h:=(by obtain⟨O,H,s,tx,A,N,G⟩:=c.mx;exact⟨(by grind [Fx.keep]),⟨Lw,u,w⟩,c.gh.fx F M.nb,F.len.trans c.le,M.sm,M.sb,M.sh⟩);have y:L Y1=L Y:=i.le.trans M.le.symm;exact⟨y,m::b::aA h,λp f=>i.bA e g p (by simpa using f),trivial,by grind [J7.mix,Kx.mix]⟩
theorem baZ{D:Nat}(M:J7 Y m b hs h)(T:L hs+D<=500){t n:Int}(S:t=D)(N:0<=n)(O:n<=3)(P:∀(a:AV) (l:List NA) (h':AV) Y1,lA Y1 274 11 a (l.map NA.c)->(L l:Int)<=n->(∀x∈l,shS (D+1) x)->(∀q∈aA a,q.1=30)->J7 Y1 m b hs h'->Kx [14,15,16,30] Y Y1->K a Y1):cV 194 [.p m 0 0,iv t,iv n] Y d K:=by subst S;have j:=M.sm;have i:=M.sb;have B:okI [14,15,16,30] (m::b::aA h) m:=⟨by simp[j],by simp⟩;have u:okI [14,15,16,30] (m::b::aA h) b:=⟨by simp[i],by simp⟩;have z:∀q∈aA h,okI [14,15,16,30] (m::b::aA h) q:=λq e=>⟨by simp[M.sh q e],by simp[e]⟩;have s:=M.cut B u z;refine aQN rfl rfl (m::b::aA h) (λx o=>?_) (λp f=>s.bA u z p<|by simpa using f) (bdw D s T N O) ?_;simp only[eW,ql,bjf] at o;rcases o with rfl|rfl|rfl;exact B;trivial;trivial;rintro r Y1 ⟨l,h',g1,F,G,H,k,R⟩;have g:L Y1=L Y:=k.le.trans M.le.symm;have C:okI [14,15,16,30] (m::b::(aA h'++aA r)) m:=⟨by simp[j],by simp⟩;have w:okI [14,15,16,30] (m::b::(aA h'++aA r)) b:=⟨by simp[i],by simp⟩;have A:∀q∈aA h',okI [14,15,16,30] (m::b::(aA h'++aA r)) q:=λq e=>⟨by simp[k.sh q e],by simp[e]⟩;have E:∀q∈aA r,okI [14,15,16,30] (m::b::(aA h'++aA r)) q:=λq e=>⟨by simp[(H q e).2],by simp[e]⟩;refine⟨g,m::b::(aA h'++aA r),?_,?_,P r l h' _ (aRR g g1 E) F G (by grind) (k.mix g C w A) Kx.mix⟩;intro p f x o W q e y X;simp only[eW,dF] at f;rcases f with f|f|f|f;grind [J7.bA];grind [J7.bA];grind [J7.bA];grind [aNO];have:=aQw (ks:=[14,15,16,30]) (l:=m::b::(aA h'++aA r)) g1 E;rcases g1 with⟨_,rfl⟩|⟨q,Z,rfl,_⟩<;>exact this
end
def apX{Y:ae}{e:TypeId}{z d by':Nat}{zs:List AV}{a x:AV}{bA new:List (List AV)}{K:be}(g:lA Y e z a bA)(t:lA Y e z x new)(B:L zs=z)(u:0<z)(w:d<L Y)(A:∀r∈bA,L r=z)(y:∀r∈new,L r=z)(i:(L bA+L new)*(by'+1)<=1099511627776)(s:∀c Y',lA Y' e z c (bA++new)->Fx Y Y' (aA a)->(∀b∈aA c,b∈aA a\/b.1=d)->K c Y'):eV (apA e zs by' Y d a x) K:=by have n:gL Y x=V new:=(by rcases t with⟨rfl,rfl⟩|⟨q,m,rfl,f⟩;rfl;simp[gL,f]);have o:apA e zs by' Y d a x=apA e zs by' Y d a (.l new U U):=(by have j:gL Y (.l new U U)=V new:=rfl;unfold apA;rw[n,j]);rw[o];by_cases k:new=[];subst k;have:apA e zs by' Y d a (.l [] U U)=V (a,Y):=(by unfold apA;simp only[gL];rw[lD<|by simp];rcases g with⟨_,rfl⟩|⟨q,m,rfl,f⟩;rfl;simp[f]);rw[this];exact s a Y (by simpa using g) (Fx.refl _ _) λb i=> .inl i;grind [qs,bc.p]
structure MPs(Y:ae)(m b:Id)(v1 v4:Nat)(h:AV)(ts:List aO6)(a:AV):Prop where
 M:J7 Y m b [] h
 p:box Y (4,v4)=V ⟨196,2,U,U,[[sl w6.c aNF,a]]⟩
 ga:lA Y 258 4 a (ts.map aO6.c)
 pa:∀q∈aA a,q.1=93
 r:box Y (2,v1)=V ⟨196,2,U,U,[aoD]⟩
 ht:∀t∈ts,shT t
structure TB(Y:ae)(v:Nat)(nm:ByteArray)(a:AV)(l:List NA):Prop where
 p:box Y (8,v)=V ⟨258,4,U,U,[[st nm,iv 0, .l ([⟨#[97]⟩,⟨#[98]⟩].map cs) U U,a]]⟩
 ga:lA Y 274 11 a (l.map NA.c)
 pa:∀q∈aA a,q.1=56\/q.1=68\/q.1=87
 hs:∀s∈l,shS 4 s
section
variable{ks:List Nat}{Y Y':ae}{m b:Id}{v1 v4 v:Nat}{h h' a:AV}{ts:List aO6}{nm:ByteArray}{l:List NA}{Lw:List Id}
theorem MPs.kx(S:MPs Y m b v1 v4 h ts a)(k:Kx ks Y Y')(M:J7 Y' m b [] h')(c:4∉ks)(e:2∉ks)(f:93∉ks):MPs Y' m b v1 v4 h' ts a:=⟨M,k.keep _ _ c S.p,k.gr S.ga λq g=>by grind [MPs.pa],S.pa,k.keep _ _ e S.r,S.ht⟩
theorem MPs.fx(S:MPs Y m b v1 v4 h ts a)(F:Fx Y Y' Lw)(e:∀q∈Lw,q.1=8\/q.1=56\/q.1=68\/q.1=87):MPs Y' m b v1 v4 h ts a:=by have i:=S.M.sm;have f:=S.M.sb;refine⟨S.M.fx F (by grind) (by grind) (λq c g=>by have:=e _ g;have:=S.M.sh q c;omega),(by grind [Fx.keep,MPs.p]),S.ga.fx F (λq c g=>by grind [MPs.pa]),S.pa,(by grind [Fx.keep,MPs.r]),S.ht⟩
theorem TB.kx(S:TB Y v nm a l)(k:Kx ks Y Y')(c:8∉ks)(e:56∉ks)(f:68∉ks)(g:87∉ks):TB Y' v nm a l:=⟨k.keep _ _ c S.p,k.gr S.ga (λq i=>by grind [TB.pa]),S.pa,S.hs⟩
theorem TB.fx0(S:TB Y v nm a l)(F:Fx Y Y' Lw)(c:∀q∈Lw,q.1≠8/\q.1≠56/\q.1≠68/\q.1≠87):TB Y' v nm a l:=⟨(by grind [Fx.keep,TB.p]),S.ga.fx F (λq e g=>by grind [TB.pa]),S.pa,S.hs⟩
theorem TB.set{i:AV}(n:box Y (8,v)=V ⟨258,4,U,U,[[st nm,iv 0, .l ([⟨#[97]⟩,⟨#[98]⟩].map cs) U U,i]]⟩){e:AV}{l':List NA}(g:lA Y 274 11 e<|l'.map NA.c)(o:∀q∈aA e,q.1=56\/q.1=68\/q.1=87)(f:∀s∈l',shS 4 s){K:ae->Prop}(k:∀Y1,TB Y1 v nm e l'->Fx Y Y1 [(8,v)]->K Y1):sV (aK 1 Y (.p (8,v) 0 3) e) K:=A0 n g.ce (by simp) λY1 F j=>k Y1 ⟨j,(by grind [lA.fx]),o,f⟩ F
end
def baI{Y:ae}:aX zd9 4 Y [(0,sv [109,97,105,110]),(1,sv [116,49]),(2,sv [116,50]),(3,sv [116,51])]=V (.l ([⟨#[109,97,105,110]⟩,⟨#[116,49]⟩,⟨#[116,50]⟩,⟨#[116,51]⟩].map cs) U U,Y):=by kernel_rfl
def bas{nm:ByteArray}:bM bt2 bmK [(0,st nm),(2, .l ([⟨#[97]⟩,⟨#[98]⟩].map cs) U U)]=V (.a [st nm,iv 0, .l ([⟨#[97]⟩,⟨#[98]⟩].map cs) U U, .l [] U U]):=rfl
def a5R{o:Int}{nm:ByteArray}:bM brG alz [(0,iv o),(2,st nm)]=V (.a [iv o,iv 0,st nm,sv [], .l [] U U,iv 0,iv 0,sv [], .l [] U U, .l [] U U, .l [] U U]):=rfl
def a51{Y:ae}{o:Int}{nm:ByteArray}:aX brP 1 Y [(0, .a [iv o,iv 0,st nm,sv [], .l [] U U,iv 0,iv 0,sv [], .l [] U U, .l [] U U, .l [] U U])]=V (.l ([NA.mk o 0 nm ⟨#[]⟩ [] (kW.mk 0 0 ⟨#[]⟩ []) [] []].map NA.c) U U,Y):=aQm (tgt:=(NA.mk o 0 nm ⟨#[]⟩ [] (kW.mk 0 0 ⟨#[]⟩ []) [] []).c) (by rw[a6X];rfl) bit (by decide) (aS7 (x:=NA.mk o 0 nm ⟨#[]⟩ [] (kW.mk 0 0 ⟨#[]⟩ []) [] [])) (by decide)
def aWJ(l:List Int)(hp:(∀x∈l,0<=x/\x<256)/\L l<4611686018427387904):Ct 123 [sl cu l] (λr=>∃p:aQl,r= .a p.c/\shP p/\p.bm0=aNF):=by refine aDq (bgf λs0 hl h0=>?_);simp only[aUA];refine I4 hl λv1 s1 F1 N1 q1=>?_;have bu:=F1.len.trans hl;have ac:bM btZ brF [(0,sl cu l)]=V (.a [sl cu l,iv 0]):=rfl;simp only[qz 2,qy 8,ac,aY];refine bxL rfl (by decide) (by omega) λE s2 F2 N2 q2=>?_;have bw:=F2.len.trans bu;have bp:bM bu0 [(0,1),(1,1),(2,1),(3,1),(4,1),(5,1),(6,1),(7,1)] [(0, .p (14,E) 0 0),(2,iv 20)]=V (.a [.p (14,E) 0 0,iv 0,iv 20,bv I,bv I,bv I,bv I, .l [] U U]):=rfl;simp only[bp,aY];refine bxL rfl (by decide) (by omega) λZ s3 F3 N3 q3=>?_;have aL:=F3.len.trans bw;have T3:Tp s3 (14,E) l 0:=⟨F3.kq q2,by omega,hp.1,hp.2⟩;have M3:J7 s3 (16,Z) (14,E) [] (.l [] U U):=⟨(by simp_all),⟨l,0,T3⟩, .inl ⟨rfl,rfl⟩,aL,rfl,rfl,by simp[aA]⟩;have bq:bM aoD brF [(0,sl w6.c aNF)]=V (.a [sl w6.c aNF, .l [] U U]):=rfl;simp only[jM,jt,aQV,bq,u0,↓uL];refine⟨by simp[lo,nA,uN,yv,wD],?_⟩;refine anu aL λv4 s4 F4 N4 q4=>?_;have S4:MPs s4 (16,Z) (14,E) v1 v4 (.l [] U U) [] (.l [] U U):=⟨M3.fx0 F4,q4, .inl ⟨rfl,rfl⟩,by simp[aA],F4.kq<|F3.kq<|F2.kq q1,by simp⟩;obtain⟨th,lf,s,tx,ab,lp,aK⟩:=S4.M.mx;simp only[qz 10,nlP aK,u0,u1,aK,aRV,aRa,aj,↓uL];refine aXR S4.M λy s5 y0 y1 M5 K5=>?_;have y1:=y1 (by decide);have S5:=S4.kx K5 M5 (by decide) (by decide) (by decide);simp only[qz 12,qy 14,u0,u1,baI,eM (x:=2+y) (by omega) (by omega),↓uL];obtain⟨n,hn⟩:∃n:Nat,2+y=n:=(by grind);rw[hn];have cn:n<=4:=(by omega);refine yV n (λk _ Y=>∃h ts a,MPs Y (16,Z) (14,E) v1 v4 h ts a/\L ts=k) ⟨_,_,_,S5,rfl⟩ ?_;rintro k _ Y hk ⟨h,ts,a,S,bB⟩;have aM:=S.M.le;obtain⟨th,lf,s,tx,ab,lp,hb⟩:=S.M.mx;simp only[qz 43,qy 60,aI,au,nlP hb,u0,u1,hb,aRa,aj,↓uL];refine⟨λad=>?_,λad=>?_⟩;have a5:k<n:=(by grind);refine aPJ S.M (by simp) λs6 M6 F6=>?_;have S6:MPs s6 (16,Z) (14,E) v1 v4 h ts a:=S.kx (ks:=[16]) (F6.kx<|by simp) M6 (by decide) (by decide) (by decide);simp only[qz 16,au,amZ,u0,rk,pz,aV4,↓uL];refine⟨⟨by omega,by simp;omega⟩,?_⟩;generalize gd ([⟨#[109,97,105,110]⟩,⟨#[116,49]⟩,⟨#[116,50]⟩,⟨#[116,51]⟩]:List ByteArray) (k:Int).toNat=nm;simp only[qz 18,qy 20,bas,aY];refine anu S6.M.le λv8 s7 F7 N7 q7=>?_;have S7:=S6.fx F7 (by simp);have B7:TB s7 v8 nm (.l [] U U) []:=⟨q7, .inl ⟨rfl,rfl⟩,by simp[aA],by simp⟩;simp only[qz 22,↓uL];refine bpD (λo=>∀(Y1:ae) (h1 a8:AV) (w:List NA),MPs Y1 (16,Z) (14,E) v1 v4 h1 ts a->TB Y1 v8 nm a8 w->L w<=3->o [] Y1) ?_ λo az=>?_;intro Y1 h1 a8 w A B ax;obtain⟨th,lf,s,tx,ab,lp,ac⟩:=A.M.mx;simp only[qz 81,aI,nlP ac,u0,u1,ac,B.p,aRV,bfx,aRa,aj,↓uL];refine aXR A.M λy s8 y0 y1 M8 K8=>?_;have y1:=y1 (by decide);have A8:=A.kx K8 M8 (by decide) (by decide) (by decide);have B8:=B.kx K8 (by decide) (by decide) (by decide) (by decide);simp only[qz 30,u0,u1,eM (x:=1+y) (by omega) (by omega),↓uL];refine baZ (D:=2) A8.M (by simp) rfl (by omega) (by omega) λa9 l9 h9 s9 g9 cm co p9 M9 K9=>?_;have A9:=A8.kx K9 M9 (by decide) (by decide) (by decide);have B9:=B8.kx K9 (by decide) (by decide) (by decide) (by decide);simp only[qz 32];refine apX B9.ga g9 rfl (by decide) (by rw[A9.M.le];decide) (qW (f:=NA.c) (z:=11) λ_=>bit) (by grind [bit]) (by simp;omega) λck cr av aG cq=>?_;rw[<-dg] at av;have G:=B9.pa;have a7:=A9.fx aG (λq u=>by have:=G q u;omega);have aB:=aG.keep _ _ (λu=>by have:=G _ u;simp at this) B9.p;simp only[qz 34,u0,u1,aB,aj,↓uL];refine TB.set aB av (by grind) (λs af=>?_) λbF an bc=>?_;grind [TB.hs,shS.mono];have aa:=a7.fx bc (by simp);refine dT (by simp[eL,lb,lbV,m8,dC,dK]) ?_;have a3:L (w++l9)<=6:=(by simp;omega);generalize w++l9=bR at an a3;clear av aB;refine bpD (λo=>∀(T:ae) (h2 W:AV) (bd:List NA),MPs T (16,Z) (14,E) v1 v4 h2 ts a->TB T v8 nm W bd->L bd<=8->o [] T) ?_ λo X=>?_;intro T h2 W bd A B ax;have ay:aX btU 1 T [(0, .a [st nm,iv 0, .l ([⟨#[97]⟩,⟨#[98]⟩].map cs) U U,W])]=V (.l ([(⟨nm,0,[⟨#[97]⟩,⟨#[98]⟩],bd⟩:aO6)].map aO6.c) U U,kills T<|eB<|.a [st nm,iv 0, .l ([⟨#[97]⟩,⟨#[98]⟩].map cs) U U,W]):=aQm (tgt:=(⟨nm,0,[⟨#[97]⟩,⟨#[98]⟩],bd⟩:aO6).c) (by simp only[ji,mU,aQ5,aXQ,aOb B.ga];rfl) rfl (by decide) rfl (by decide);have a1:∀q∈eB (.a [st nm,iv 0, .l ([⟨#[97]⟩,⟨#[98]⟩].map cs) U U,W]),q.1=56\/q.1=68\/q.1=87:=λq u=>(by simp only[eB,Cz,RN,iR,dW,cL] at u;exact B.pa q<|by cases W<;>first|exact u|simp[iR] at u);have FK:=aOp (eB<|.a [st nm,iv 0, .l ([⟨#[97]⟩,⟨#[98]⟩].map cs) U U,W]) T;simp only[qz 129,qy 46,aI,u0,u1,A.p,aEa B.p rfl,aRV,bfx,aRa,aj,ay,↓uL];have C:=A.fx FK (λq u=>by have:=a1 q u;omega);refine apQ C.ga C.M.le (qW (f:=aO6.c) (z:=4) λ_=>rfl) (by grind [aO6.c]) (by simp) (by simp;omega) λa4 s4 g4 F4 N4=>?_;rw[<-dg] at g4;have bA:=C.pa;have p4:=F4.keep _ _ (by grind) C.p;simp only[qz 48,u0,u1,p4,aj,↓uL];refine A0 p4 g4.p.ce (by simp) λs5 F5 b5=>?_;have hm:=C.M.sm;have hb:=C.M.sb;have M5:=(C.M.fx F4 (by grind) (by grind) (λq u g=>by have:=bA _ g;have:=C.M.sh q u;omega)).fx F5 (by simp) (by simp) (λq u g=>by simp at g;subst g;have:=C.M.sh _ u;simp at this);simp only[qz 50,au,u0,u1,↓uL];refine dR (mk:=λ(_:Unit) i=>[iv i]) (s:=()) (s':=()) (λ_ _=>rfl) a5 (by omega) ⟨h2,ts++[⟨nm,0,[⟨#[97]⟩,⟨#[98]⟩],bd⟩],a4,⟨M5,b5,g4.p.fx F5 (by grind),λq u=>(N4 q u).2,?_,?_⟩,by simp[bB]⟩;exact F5.kq (F4.keep _ _ (by grind) C.r);intro t H;rcases dF.1 H with g|g;exact A.ht t g;simp only[cE] at g;subst g;exact⟨by simp,ax,B.hs⟩;obtain⟨th,lf,s,tx,ab,lp,aw⟩:=aa.M.mx;rcases P:Q ((k:Int)=0) with _|_;simp only[qz 131,qy 40,au,P,u0,u1,aj,aOq,↓jN,a7c,↓iB,↓uL];exact X bF _ _ _ aa an (by omega);simp only[qz 131,qy 40,au,P,nlP aw,aw,u0,u1,aRV,aRa,aj,aPh,↓jA,aUw,↓uL];refine aXR aa.M λy bG y0 y1 bi aJ=>?_;have al:=aa.kx aJ bi (by decide) (by decide) (by decide);have F:=an.kx aJ (by decide) (by decide) (by decide) (by decide);simp only[F.p,amZ,rk,pz,a5R,a51,u0,u1,↓uL];refine⟨λ_=>⟨⟨by decide,by decide⟩,?_⟩,λ_=>X bG _ _ _ al F<|by omega⟩;refine apQ F.ga al.M.le (by grind [bit]) (by grind [bit]) (by simp) (by simp;omega) λbn bH O N bj=>?_;rw[<-dg] at O;have G:=F.pa;have am:=al.fx N (λq u=>by have:=G q u;omega);have R:=N.keep _ _ (by grind) F.p;simp only[qz 42,R,u0,u1,aj,↓uL];refine TB.set R O.p (by grind) (λs af=>?_) λaQ ao ap=>?_;rcases dF.1 af with g|g;exact F.hs s g;simp only[cE] at g;subst g;exact aOI (by omega) (.inl rfl) (by decide) (by decide);refine dT (by simp[eL,lb,lbV,m8,dC,dK]) ?_;exact X aQ _ _ _ (am.fx ap<|by simp) ao (by simp;omega);obtain⟨th,lf,s,tx,ab,lp,cl⟩:=S7.M.mx;rcases P:Q ((k:Int)=0) with _|_;simp only[qz 83,au,P,u0,u1,↓iB,↓uL];exact az s7 _ _ _ S7 B7 (by simp);simp only[qz 83,au,P,u0,u1,↓iC,↓uL];refine AI (α:=Unit) (λ_ i=>[iv i]) 0 n 1 (by omega) (λj _ Y=>∃a8 w,MPs Y (16,Z) (14,E) v1 v4 h ts a/\TB Y v8 nm a8 w/\L w+1=j) (s0:=()) (by grind) ?_;rintro j _ Y1 hj ⟨a8,w,A,B,ax⟩;simp only[qz 97,qy 24,aI,au,B.p,amZ,rk,pz,a5R,a51,bh,u0,u1,aj,↓uL];refine⟨λad=>⟨⟨by omega,by have:j<n:=(by simpa using ad);simp;omega⟩,?_⟩,λad=>az Y1 _ _ _ A B<|by omega⟩;have bx:j<n:=(by grind);refine apQ B.ga A.M.le (by grind [bit]) (by grind [bit]) (by simp) (by simp;omega) λbn bH O N bj=>?_;rw[<-dg] at O;have G:=B.pa;have am:=A.fx N (λq u=>by have:=G q u;omega);have R:=N.keep _ _ (by grind) B.p;simp only[qz 26,R,u0,u1,aj,↓uL];refine TB.set R O.p (by grind) (λs af=>?_) λaQ ao ap=>?_;rcases dF.1 af with g|g;exact B.hs s g;simp only[cE] at g;subst g;exact aOI (by omega) (.inl rfl) (by decide) (by decide);refine dT (by simp[eL,lb,lbV,m8,dC,dK]) ?_;simp only[au,u0,u1,↓uL];exact dR (mk:=λ(_:Unit) i=>[iv i]) (s:=()) (s':=()) (λ_ _=>rfl) bx (by omega) ⟨_,_,am.fx ap (by simp),ao,by simp;omega⟩;have ha:dG Y (.a [sl w6.c aNF,a])= .a (⟨aNF,ts⟩:aQl).c:=(by simp only[dG,eR,nrm,ji,mU];have e1:gK (gi Y a)=sl aO6.c ts:=aOb S.ga;rw[e1];rfl);have aP:∀x y:AV,aN (V 2) [x,y]=V (.a [x,y]):=λ_ _=>rfl;have aM:L ts<=4:=(by omega);have aO:shP ⟨aNF,ts⟩:=⟨⟨by show L aNF<1000;decide,by grind,λt H=>by have:=(S.ht t H).1;omega⟩,aM,S.ht⟩;simp only[S.p,aQd,qh,df,aP,jM,kU,jt,ha,u0,aQV,↓uL];refine⟨aO,by simp[lo,uN,yv,wD],?_⟩;simp only[oJ,pG,u0,u1,↓uL];refine⟨λhc=>?_,λhc=>?_⟩;refine⟨by simp[lo,nA,uN,yv,wD],?_⟩;simp only[aV4,bQ,qz 52,jM,kU,jt,tW,Fa,aQV];refine⟨by simp[lo,nA,eB,iR],by rw[aXP rfl];trivial,?_⟩;have cp:shS 4 (NA.mk 1 0 ⟨#[120]⟩ ⟨#[]⟩ [] (kW.mk 1 1 ⟨#[]⟩ []) [] []):=aOI (λ_=>⟨.inl ⟨.inl rfl,rfl⟩,by simp[kW.l]⟩) (.inl rfl) (by decide) (by decide);have br:∀x:NA,bM bt2 bmK [(0,sv [109,97,105,110]),(2, .l ([⟨#[97]⟩,⟨#[98]⟩].map cs) U U),(3, .l ([x].map NA.c) U U)]=V (.a [sv [109,97,105,110],iv 0, .l ([⟨#[97]⟩,⟨#[98]⟩].map cs) U U, .l ([x].map NA.c) U U]):=λ_=>rfl;have ay:∀(s:ae) (x:NA),aX btU 1 s [(0, .a [sv [109,97,105,110],iv 0, .l ([⟨#[97]⟩,⟨#[98]⟩].map cs) U U, .l ([x].map NA.c) U U])]=V (.l ([(⟨⟨#[109,97,105,110]⟩,0,[⟨#[97]⟩,⟨#[98]⟩],[x]⟩:aO6)].map aO6.c) U U,s):=λs x=>aQm (tgt:=(⟨⟨#[109,97,105,110]⟩,0,[⟨#[97]⟩,⟨#[98]⟩],[x]⟩:aO6).c) rfl rfl (by decide) rfl (by decide);have bs:∀t:aO6,bM aoD brF [(0,sl w6.c aNF),(1, .l ([t].map aO6.c) U U)]=V (.a [sl w6.c aNF, .l ([t].map aO6.c) U U]):=λ_=>rfl;simp only[a50,bQ,qz 54,br,ay,aY,qz 56,qy 58,bs,↓uL];refine stW S.r rfl rfl λs5 F5 b5=>?_;rw[aEa b5 rfl];refine aOv (v':= .a (⟨aNF,[⟨⟨#[109,97,105,110]⟩,0,[⟨#[97]⟩,⟨#[98]⟩],[NA.mk 1 0 ⟨#[120]⟩ ⟨#[]⟩ [] (kW.mk 1 1 ⟨#[]⟩ []) [] []]⟩]⟩:aQl).c) (Q:=λr=>∃p:aQl,r= .a p.c/\shP p/\p.bm0=aNF) rfl rfl ⟨_,rfl,⟨⟨by decide,by decide,by simp⟩,by decide,?_⟩,rfl⟩;intro t H;simp only[cE] at H;subst H;exact⟨by decide,by decide,by simp_all⟩;refine stW S.r rfl rfl λs5 F5 b5=>?_;have g5:=S.ga.fx F5 (λq u e=>by grind [MPs.pa]);simp only[b5,aQd,qh,df,aP,aY];refine aOv (v':= .a (⟨aNF,ts⟩:aQl).c) (Q:=λr=>∃p:aQl,r= .a p.c/\shP p/\p.bm0=aNF) ?_ (by simp[iX,aQl.c,eN,sl]) ⟨_,rfl,aO,rfl⟩;simp only[fzT,ji,mU,aBr g5];rfl
def aTV:FT:=om aWJ
def bbr{l Lw K}:=aUy aTV aWJ l Lw K (j:=by simp+contextual only[ij,aQZ])
theorem a64(i:aNZ):L (a6z i)<=3:=by grind [a6z]
structure RP(Y:ae)(v1 v7:Nat)(p:aQl)(w:J9)(ts:List aTo)(a:AV):Prop where
 p:box Y (1,1)=V ⟨196,2,U,U,[p.c]⟩
 c:box Y (7,v7)=V ⟨129,7,U,U,[[sl cA.c w.cells,sl dS.c w.ak,sl aOw.c w.bC,sl cs w.bU,sl cs w.ay,sl dL.c w.dU,a]]⟩
 ga:lA Y 247 2 a (ts.map aTo.c)
 pa:∀q∈aA a,q.1=110
 r:box Y (2,v1)=V ⟨129,7,U,U,[tH]⟩
 ht:∀t∈ts,L t.bid<1000000
 le:L Y=4096
theorem RP.fx{Y Y':ae}{v1 e:Nat}{p:aQl}{w:J9}{ts:List aTo}{a:AV}{Lw:List Id}(S:RP Y v1 e p w ts a)(F:Fx Y Y' Lw)(f:∀q∈Lw,q.1≠1/\q.1≠2/\q.1≠7/\q.1≠110):RP Y' v1 e p w ts a:=⟨(by grind [Fx.keep,RP.p]),(by grind [Fx.keep,RP.c]),S.ga.fx F<|λq i g=>(f q g).2.2.2<|S.pa q i,S.pa,(by grind [Fx.keep,RP.r]),S.ht,F.len.trans S.le⟩
def aXe(p:aQl)(H:shP p/\p.bm0=aNF):Ct 122 [.a p.c] (λr=>∃(c:aBY) (e l:Int),r= .t [.a c.c,iv e,iv l]/\aOc c):=by obtain⟨H,hd⟩:=H;refine aDq (bgU rfl λs2 hl b1 h0=>?_);simp only[a1t];refine I4 hl λv1 s3 F3 N3 q3=>?_;have ad:=F3.len.trans hl;have b3:=F3.kq b1;have aJ:bM tH [(0,6),(6,1)] []=V (.a tH):=rfl;simp only[qz 4,qy 6,qy 8,qy 10,u0,u1,b3,pz,jM,kU,jt,Fa,aQV,rr,aJ,↓uL];refine⟨H,trivial,λ_=>?_,λhc=>⟨⟨H,hd⟩,?_⟩⟩;refine stW q3 rfl rfl λX T b5=>?_;have:aN (V 7) tH=V (.a tH):=rfl;simp only[b5,aQd,qh,df,this,aY];exact aOH (vs':=[.a (⟨⟨[],[],[],[],[],[]⟩,[]⟩:aBY).c,iv (chk p).1,iv (chk p).2]) (Q:=λr=>∃(c:aBY) (e l:Int),r= .t [.a c.c,iv e,iv l]/\aOc c) rfl rfl ⟨_,_,_,rfl,by simp[aOc]⟩;rintro r ⟨w,rfl,hw,P⟩;have P:=P (by grind);have aG:bM tH [(0,6),(6,1)] [(0, .a w.c)]=V (.a [sl cA.c w.cells,sl dS.c w.ak,sl aOw.c w.bC,sl cs w.bU,sl cs w.ay,sl dL.c w.dU, .l [] U U]):=rfl;simp only[aG,aY];refine⟨by simp[lo,nA,eB,iR,aQl.c,sl],?_⟩;refine anu ad λv7 s4 F4 N4 q4=>?_;have S4:RP s4 v1 v7 p w [] (.l [] U U):=⟨F4.kq b3,q4, .inl ⟨rfl,rfl⟩,by simp[aA],F4.kq q3,by simp,F4.len.trans ad⟩;have aT:=H.2.2;have bG:=H.2.1;refine jD (α:=Int) (λnx i=>[iv nx,iv i]) 1 (L p.ay) (λk nx Y=>0<=nx/\nx<=k*60000/\∃ts a,RP Y v1 v7 p w ts a/\L ts=k) (s0:=0) (by grind) ?_;rintro k nx Y hk ⟨bH,bI,ts,a,S,aU⟩;simp only[qz 55,aI,au,u0,u1,S.p,S.c,rk,pz,aRZ,aj,ixv,bh,↓uL];refine⟨λA=>⟨u7 A,?_⟩,λA=>?_⟩;rotate_left;refine stW S.r rfl rfl λX T b5=>?_;have g5:=S.ga.fx T (λq P e=>by grind [RP.pa]);simp only[qz 32,aEa b5 rfl,aY,↓uL];refine aOH (vs':=[.a (⟨w,ts⟩:aBY).c,iv 0,iv 0]) (Q:=λr=>∃(c:aBY) (e l:Int),r= .t [.a c.c,iv e,iv l]/\aOc c) ?_ (by simp[iX,aBY.c,J9.c,eN,sl]) ⟨_,_,_,rfl,?_,S.ht⟩;have e1:fz X a=sl aTo.c ts:=aBr g5;simp only[ji,mU,fzT,List.take_succ_cons,CE,e1];rfl;grind;have C:=aL A;have W:=aT _<|ve C;have aD:bM buZ [(0,6),(6,1),(7,1),(8,1),(9,1)] [(0, .a w.c),(1,sl cs (gd p.ay k).locs),(4,iv nx)]=V (.a [sl cA.c w.cells,sl dS.c w.ak,sl aOw.c w.bC,sl cs w.bU,sl cs w.ay,sl dL.c w.dU,sl cs (gd p.ay k).locs, .l [] U U,iv 0,iv nx]):=rfl;simp only[aD,aY];refine bxL rfl (by decide) (by rw[S.le];decide) λv X T N5 q5=>?_;have S5:=S.fx T (by simp);have bz:k<4:=(by omega);have G5:Gn nx X (45,v) w (gd p.ay k).locs (.l [] U U) 0:=⟨(by simp_all),⟨[], .inl ⟨rfl,rfl⟩,rfl⟩,S5.le,rfl,by simp[aA],hw,by have:=W.1;omega,P⟩;simp only[S5.p,rk,pz,ixv,u0,u1,bh,↓uL];refine⟨dJ C,?_⟩;refine ba2 G5 W.2 (by omega) λa6 n6 s6 G6 bA R6=>?_;have aZ:∀q∈((45,v):Id)::aA (AV.l [] U U),q.1≠1/\q.1≠2/\q.1≠7/\q.1≠110:=(by simp[aA]);have S6:=S5.fx R6.f aZ;obtain⟨bV,aW,aV,ac⟩:=G6.bx0;simp only[qz 14,nlP ac,u0,u1,ac,aRV,bfx,aRa,aj,↓uL];refine G6.set λs7 G7 F7=>?_;have S7:=S6.fx F7 (by simp);simp only[qz 16,bdI,aY];refine aPw G7 (by omega) λa8 s8 n8 G8 bB bq R8=>?_;have a0:∀q∈((45,v):Id)::aA a6,q.1≠1/\q.1≠2/\q.1≠7/\q.1≠110:=λq P=>(by grind [Gn.sa]);have S8:=S7.fx R8.f a0;obtain⟨bW,bL,bK,O⟩:=G8.bx0;obtain⟨out,go,bD⟩:=G8.ga;obtain⟨a2,ae,rfl,ao⟩:∃q m,a8= .m q (L out)/\box s8 q=V ⟨264,6,U,I,out.map aNZ.c++m⟩:=(by rcases go with⟨g,_⟩|⟨q,m,g1,g2⟩;have:out=[]:=(by simpa using g);grind;simp_all);obtain⟨q1,u⟩:=a2;obtain rfl:q1=16:=G8.sa (q1,u) (by simp[aA]);have aF:∀a:AV,(∃q n,a= .m q n)->bM bnF brF [(0,iv<|L (gd p.ay k).locs),(1,a)]=V (.a [iv<|L (gd p.ay k).locs,a]):=(by rintro a ⟨q,n,rfl⟩;rfl);simp only[qz 18,qy 20,nlP O,u0,u1,O,aRV,bfx,aRa,aj,aF _ ⟨_,_,rfl⟩,↓uL];refine anu S8.le λG s9 F9 N9 q9=>?_;have S9:=S8.fx F9 (by simp);refine dT (by simp[eL,lb,m8,dC,dK,sl]) ?_;have aC:=F9.kq O;have aR:=F9.kq ao;refine yV (L out) (λ_ _ Y'=>Fx s9 Y' [(11,G)]/\∃rg:Int,box Y' (11,G)=V ⟨247,2,U,U,[[iv rg, .m (16,u)<|L out]]⟩) ⟨Fx.refl _ _,_,q9⟩ ?_;rintro j _ Y1 hj ⟨E,rg,af⟩;have N:=E.kq aC;have D:=E.kq aR;have aQ:fS Y1 (.m (16,u)<|L out)=V (iv<|L out):=(by simp[fS,D]);have aa:=S9.fx E (by simp);have a4:∀x y:AV,aN (V 2) [x,y]=V (.a [x,y]):=λ_ _=>rfl;simp only[qz 127,qy 26,aI,au,nlP N,u0,u1,N,aa.c,af,a4,aRV,bfx,aRa,aj,aQ,↓uL];refine⟨λA=>?_,λA=>?_⟩;have hj:=aL A;have aK:cz 6 Y1 (.m (16,u)<|L out) (iv j)=V (.p (16,u) j 0):=(by grind [cz]);have aP:vl (V 6) Y1 (.p (16,u) j 0)=V (.a (gd out j).c):=(by have hr:(out.map aNZ.c++ae)[j]?=V (aNZ.c<|gd out j):=(by grind [bT]);simp only[vl,iE,D,aQd,hr];rfl);simp only[aK,aP,aY,jM,kU,jt,Fa,aQV];rintro r ⟨t',o',rfl⟩;refine⟨by simp[lo,nA,eB,iR,aNZ.c],?_⟩;refine yV (L<|a6z<|gd out j) (λ_ _ Y'=>Fx s9 Y' [(11,G)]/\∃rg:Int,box Y' (11,G)=V ⟨247,2,U,U,[[iv rg, .m (16,u)<|L out]]⟩) ⟨E,rg,af⟩ ?_;rintro i _ Y2 hi ⟨Z,bO,R⟩;simp only[qz 163,aI,au,u0,u1,R,aRV,aRa,gT,tf,rk,aj,bh,aRW,↓uL];refine⟨λB=>⟨dJ<|aL B,?_⟩,λB=>?_⟩;refine A0 R rfl (by simp) λY3 z aw=>?_;simp only[qz 24,au,u0,u1,↓uL];exact dR (mk:=λ(_:Unit) i=>[iv i]) (s:=()) (s':=()) (λ_ _=>rfl) (aL B) (by grind [a64]) ⟨(Z.trans z).mono (by simp),_,aw⟩;exact dR (mk:=λ(_:Unit) i=>[iv i]) (s:=()) (s':=()) (λ_ _=>rfl) hj (by omega) ⟨Z,_,R⟩;have aB:lA Y1 264 6 (.m (16,u)<|L out) (out.map aNZ.c):= .inr ⟨_,ae,by simp,D⟩;have aE:aX buV 1 Y1 [(0, .a [iv rg, .m (16,u)<|L out])]=V (.l ([(⟨rg,out⟩:aTo)].map aTo.c) U U,kills Y1<|eB<|.a [iv rg, .m (16,u)<|L out]):=aQm (tgt:=(⟨rg,out⟩:aTo).c) (by simp only[ji,mU,aQ5,aOb aB];rfl) rfl (by decide) rfl (by decide);have FK:=aOp (eB<|.a [iv rg, .m (16,u)<|L out]) Y1;have o:=aa.fx FK (by simp[eB,iR]);simp only[aE,bQ];have bF:=o.pa;refine apQ o.ga o.le (by grind [aTo.c]) (by grind [aTo.c]) (by simp) (by simp;omega) λav bR M z bx=>?_;rw[<-dg] at M;have ab:=z.keep _ _ (by grind) o.c;simp only[qz 28,u0,u1,ab,aj,↓uL];refine A0 ab M.p.ce (by simp) λbS F az=>?_;simp only[qz 30,au,u0,u1,↓uL];refine dR (mk:=λ(nx:Int) i=>[iv nx,iv i]) (s:=nx) (s':=aW) (λ_ _=>rfl) C (by omega) ⟨aV.1,by omega,ts++[⟨rg,out⟩],av,⟨?_,az,M.p.fx F (by grind),(by grind),?_,?_,F.len.trans<|z.len.trans o.le⟩,by simp[aU]⟩;exact F.kq (z.keep _ _ (by grind) o.p);exact F.kq (z.keep _ _ (by grind) o.r);grind [RP.ht]
def aUc:FT:=om aXe
def bbW{p Lw K}:=aUy aUc aXe p Lw K (j:=by simp+contextual only[ij,ijv])
def a7C:dO:=(123,aTV)::(122,aUc)::aYc
def a7l:eJ a7C:=sz (rj aWJ)<|sz (rj aXe)<|aX5
def aWk:=ai @bbr<|ai @bbW<|@aQV
section
attribute[local irreducible] aX
def aYR a s0 R:=(.mk _:NR a7C aur Tryz.f59 [a] [] s0 R).p
def bge{a:AV}{R:cC}(h:H0 λs0=>aYR a s0 R):Ct 59 [a] R:=z0 aur a7l Tryz.func59 h
end
def aWI(l:List Int)(o:(∀x∈l,0<=x/\x<256)/\L l<4611686018427387904):Ct 59 [sl cu l] (λr=>∃c:aBY,r= .a c.c/\aOc c):=by refine aDq (bge λs0 d z=>?_);simp only[aYR];refine I4 d λD A f w q=>?_;simp only[qz 2,qy 4,jM,kU,jt,alg,aWk];refine⟨o,?_⟩;rintro r ⟨p,rfl,k,m⟩;refine⟨by simp[lo,nA,eB,iR,sl],?_⟩;simp only[Fa,aWk];refine⟨⟨k,m⟩,?_⟩;rintro r ⟨c,e,l',rfl,n⟩;refine⟨by simp[lo,nA,eB,iR,aQl.c,sl],?_⟩;have e0:eO 0 (.t [.a c.c,iv e,iv l'])=V (.a c.c):=rfl;have i:eO 1 (.t [.a c.c,iv e,iv l'])=V (iv e):=rfl;have j:eO 2 (.t [.a c.c,iv e,iv l'])=V (iv l'):=rfl;simp only[e0,i,j,aY];have u:=f.len.trans d;have b:L c.c=7:=rfl;refine aRA rfl b (by decide) (by omega) λE B g y s=>?_;simp only[qz 6,qy 8,aEa s b,aY,↓uL];refine stW (g.kq q) rfl b λC v h=>?_;rw[aEa h b];exact aOv (v':= .a c.c) (Q:=λr=>∃c:aBY,r= .a c.c/\aOc c) rfl (by simp[iX,aBY.c,J9.c,eN,sl]) ⟨c,rfl,n⟩
def aTU:FT:=om aWI
def bbq{l Lw K}:=aUy aTU aWI l Lw K (j:=by simp+contextual only[ij,aQZ])
def a7D:dO:=(59,aTU)::a7C
def aR2:eJ a7D:=sz (rj aWI)<|a7l
def bcw:=ai @bbq<|@aWk
section
attribute[local irreducible] aX
def atZ:=I5 24 [(4,([4],[1,2,3])),(10,([5],[1,2,3])),(16,([6],[1,2,3])),(21,([],[1,2,3,6,7]))]
def IH a b R:=(.mk _:NS a7D atZ Tryz.f118 [.u] [a] b R).p
def aLs{c0:List AV}{s0:ae}{R:be}(hs:L s0=4096)(l0:L c0=6)(h:HB1 31 6 1 c0 s0 λc b=>IH c b R):EB 118 [.a c0] s0 R:=zB1 atZ aR2 Tryz.func118 hs l0 h
def IK a b R:=(.mk _:NS a7D atW Tryz.f57 [.u] [a] b R).p
def aLy{c0:List AV}{s0:ae}{R:be}(hs:L s0=4096)(l0:L c0=6)(h:HB1 31 6 1 c0 s0 λc b=>IK c b R):EB 57 [.a c0] s0 R:=zB1 atW aR2 Tryz.func57 hs l0 h
def au4:=I5 15 [(4,([22],[0,1,21])),(10,([3],[0,1,2,21,22]))]
def ajP s0 R:=(.mk _:NR a7D au4 Tryz.f54 [] [] s0 R).p
def aMx{R:cC}(h:H0 λs0=>ajP s0 R):Ct 54 [] R:=z0 au4 aR2 Tryz.func54 h
def aVb a b R:=(.mk _:NS a7D atW Tryz.f266 [.u] [a] b R).p
def bhc{c0:List AV}{s0:ae}{R:be}(hs:L s0=4096)(l0:L c0=4)(h:HB1 251 4 1 c0 s0 λc b=>aVb c b R):EB 266 [.a c0] s0 R:=zB1 atW aR2 Tryz.func266 hs l0 h
end
def mG{B:aG}{A:(aG)->Prop}(Q:aG)(b:∀a,(∀vs Y',Q vs Y'->a vs Y')->A a)(c:∀vs Y',Q vs Y'->B vs Y'):A B:=b B c
theorem a7a{α:Type}{f:Nat->List α}{k:Nat}:(aH<|k+1).flatMap f=(aH k).flatMap f++f k:=by rw[qn,List.flatMap_append];simp
def eU{α:Type}{f:Nat->List α}{c:Nat}(h:∀k,L (f k)<=c):∀n,L ((aH n).flatMap f)<=n*c
 |0=>by simp
 |n+1=>by
  have a:=eU h n
  grind [a7a]
def Dv{Y:ae}{b:Id}{T e:TypeId}{z ze j d by':Nat}{cs zs:List AV}{a:AV}{bA new:List (List AV)}{t o:Bool}{K:ae->Prop}(w:box Y b=V ⟨T,z,U,U,[cs]⟩)(O:j<L cs)(u:bc Y e ze a bA)(i:b∉aA a)(G:L zs=ze)(k:0<ze)(B:d<L Y)(E:∀r∈bA,L r=ze)(D:∀r∈new,L r=ze)(h:(L bA+L new)*(by'+1)<=1099511627776)(A:b.1≠d)(v:∀c Y',box Y' b=V ⟨T,z,U,U,[cs.set j c]⟩->bc Y' e ze c (bA++new)->Fx Y Y' (b::aA a)->(∀q∈aA c,(q∈aA a\/bK Y q)/\(q∈aA a\/q.1=d))->K Y'):eV (apA e zs by' Y d a<|.l new t o) λx s=>rV (iQ j s<|.p b 0 0) λy=>sV (aK 1 s y x) K:=by refine gD u G k B E D h λc Y' g F N P=>?_;have f:=F.keep _ _ i w;have C:iQ j Y' (.p b 0 0)=V (.p b 0 j):=(by simp[iQ,f]);simp only[C,aY];refine cy (y:=1) (cs:=[c]) f (ms g) rfl (by omega) λn m M=>?_;have H:b∉aA c:=(by grind);refine v c n ?_ (by grind [bc.fx]) ((F.trans m).mono λq R=>?_) (by simp_all);grind [GP];grind
def qZ(n:Nat):List aoC:=(aH n).map λi=>⟨if i=0 then 1 else 0,0,I⟩
def aog{α:Type}{n:Nat}{x:α}{β:Type}{f:α->β}:(er (n+1) x).map f=(er n x).map f++[f x]:=by rw[List.replicate_succ',dg];rfl
section
variable{Y:ae}
theorem aDP{x0 x2 x5:AV}{ls fs ts:List (List AV)}{t1 o1 t3 o3 t4 o4:Bool}(hl:L Y=4096)(h1:L ls<=100)(h3:L fs<=100)(h4:L ts<=100):∃r m,(∃a1 a2 a3,r= .a [a1,iv<|-1,a2,a3]/\bc m 184 2 a1 ((er (L ls) (⟨-1,[]⟩:cg)).map cg.c)/\bc m 4 1 a2 ((er (L fs) I).map cb)/\bc m 138 3 a3 ((qZ<|L ts).map aoC.c)/\Fx Y m []/\(∀q∈aA a1,bK Y q/\q.1=20)/\(∀q∈aA a2,bK Y q/\q.1=32)/\(∀q∈aA a3,bK Y q/\q.1=49))/\cZ aS GG 118 [.a [x0, .l ls t1 o1,x2, .l fs t3 o3, .l ts t4 o4,x5]] Y r m:=by refine aLs hl rfl λs2 v1 K2 bu nf b1=>?_;have B:Fx Y s2 []:=K2.fx [];have G:L s2=4096:=B.len.trans hl;simp only[IH];refine I4 G λv2 s3 Z N3 b2=>?_;have aP:L s3=4096:=Z.len.trans G;have aF:bM aNC bmK [(1,iv<|-1)]=V (.a [.l [] U U,iv<|-1, .l [] U U, .l [] U U]):=rfl;simp only[qz 4,qy 6,qy 8,aF,aY];refine I4 aP λn s4 F4 N4 b6=>?_;refine cy (y:=4) (cs:=[.l [] U U,iv<|-1, .l [] U U, .l [] U U]) b6 rfl rfl (by decide) λt F5 b6=>?_;have ay:box t (3,n)=V ⟨36,4,U,U,[[.l [] U U,iv<|-1, .l [] U U, .l [] U U]]⟩:=b6;have u:Fx s2 t []:=((Z.trans F4).trans F5).mono (by grind [bK.no,bK.old]);have aQ:L t=4096:=u.len.trans G;have c1:=u.kq b1;have c2:box t (2,v2)=_:=F5.kq<|F4.kq b2;have N6:bK Y (3,n):=(N4.old Z).old B;have aV:∀{Y':ae} {ks:List Id},Fx t Y' ks->((1,v1):Id)∉ks->box Y' (1,v1)=V ⟨31,6,U,U,[[x0, .l ls t1 o1,x2, .l fs t3 o3, .l ts t4 o4,x5]]⟩:=λF h=>F.keep _ _ h c1;have R:∀{x:List AV} {y:AV},aN J (y::x)=V y:=λ{x y}=>(by cases y<;>rfl);have w:∀{l:List cg},∀r∈l.map cg.c,L r=2:=qW (by intro _;rfl);have v:∀{l:List Bool},∀r∈l.map cb,L r=1:=(by grind);have alx:∀{l:List aoC},∀r∈l.map aoC.c,L r=3:=qW (by intro _;rfl);refine yV (L ls) (λk _ Y'=>∃a1,box Y' (3,n)=V ⟨36,4,U,U,[[a1,iv<|-1, .l [] U U, .l [] U U]]⟩/\bc Y' 184 2 a1 ((er k (⟨-1,[]⟩:cg)).map cg.c)/\Fx t Y' [(3,n)]/\∀q∈aA a1,bK t q/\q.1=20) ⟨_,ay,bc.nil,Fx.refl _ _,by simp[aA]⟩ ?_;rintro k _ m P ⟨a1,m1,g1,A,P1⟩;have d1:=aV A (by simp);have aO:L m=4096:=A.len.trans aQ;have aG:bM btg brF [(0,iv<|-1)]=V (.a [iv<|-1, .l [] U U]):=rfl;have aJ:∀{Y:ae},aX buU 1 Y [(0, .a [iv<|-1, .l [] U U])]=V (.l ([(⟨-1,[]⟩:cg)].map cg.c) U U,Y):=λ{Y}=>(by simp[aX,aly,eY,nrm,gK,eR,gi,eB,iR,kills,kC,eN,er];rfl);simp only[qz 25,qy 10,au,aI,u0,u1,d1,R,nM,J3,aj,fS,m1,aG,aJ,↓uL];refine⟨λh=>?_,λh=>?_⟩;have p:=aL h;refine Dv m1 (by simp) g1 (by grind) rfl (by decide) (by omega) w w (by grind) (by simp) λE K H N g P2=>?_;simp only[qz 14,au,u0,u1,↓uL];refine yU p ⟨E,H,by rw[aog];exact N,(A.trans g).mono λq e=>?_,λq e=>⟨?_,?_⟩⟩;grind [bK.no];grind [bK.old];grind;have o:k=L ls:=(by grind);subst o;clear P h;refine yV (L fs) (λk _ Y'=>∃a2,box Y' (3,n)=V ⟨36,4,U,U,[[a1,iv<|-1,a2, .l [] U U]]⟩/\bc Y' 4 1 a2 ((er k I).map cb)/\Fx m Y' [(3,n)]/\∀q∈aA a2,bK m q/\q.1=32) ⟨_,m1,bc.nil,Fx.refl _ _,by simp[aA]⟩ ?_;rintro k _ K P ⟨a2,H,N,g,P2⟩;have d2:=g.kq d1;have ah:L K=4096:=g.len.trans aO;have af:∀{Y:ae},aX BD 1 Y [(0,bv I)]=V (.l ([I].map cb) U U,Y):=λ{Y}=>iz;simp only[qz 61,qy 16,au,aI,u0,u1,d2,R,nM,J3,aj,fS,H,af,↓uL];refine⟨λh=>?_,λh=>?_⟩;have p:=aL h;refine Dv H (by simp) N (by grind) rfl (by decide) (by omega) v v (by grind) (by simp) λE M S O f P3=>?_;simp only[qz 20,au,u0,u1,↓uL];refine yU p ⟨E,S,by rw[aog];exact O,(g.trans f).mono λq e=>?_,λq e=>⟨?_,?_⟩⟩;grind [bK.no];grind [bK.old];grind;have o:k=L fs:=(by grind);subst o;clear P h;refine yV (L ts) (λk _ Y'=>∃a3,box Y' (3,n)=V ⟨36,4,U,U,[[a1,iv<|-1,a2,a3]]⟩/\bc Y' 138 3 a3 ((qZ k).map aoC.c)/\Fx K Y' [(3,n)]/\∀q∈aA a3,bK K q/\q.1=49) ⟨_,H,bc.nil,Fx.refl _ _,by simp[aA]⟩ ?_;rintro k _ M P ⟨a3,S,O,f,P3⟩;have d3:=f.kq d2;have ak:L M=4096:=f.len.trans ah;have aK:bM btu aM7 [(0,iv 0)]=V (.a<|aoC.c ⟨0,0,I⟩):=rfl;have ag:∀{Y:ae} {x:aoC},aX btP 1 Y [(0, .a<|aoC.c x)]=V (.l ([x].map aoC.c) U U,Y):=λ{Y x}=>ua rfl rfl rfl (by decide) rfl (by decide);have aU:∀{x:aoC},aN (V 3) (aoC.c x)=V (.a<|aoC.c x):=λ{x}=>rfl;have X:∀{x y x2 x3:AV},aN (V 4) [x,y,x2,x3]=V (.a [x,y,x2,x3]):=rfl;have bt:qZ (k+1)=qZ k++[⟨if k=0 then 1 else 0,0,I⟩]:=(by simp[qZ,qn]);have bs:L (qZ k)=k:=(by simp[qZ]);simp only[qz 97,qy 22,qy 34,au,aI,u0,u1,d3,R,nM,J3,aj,fS,aK,↓uL];refine⟨λh=>?_,λh=>?_⟩;have p:=aL h;refine I4 ak λv7 Y4 aq N7 b7=>?_;refine cy (y:=3) (cs:=aoC.c ⟨0,0,I⟩) b7 rfl rfl (by decide) λD j b7=>?_;have W:box D (7,v7)=V ⟨138,3,U,U,[aoC.c ⟨0,0,I⟩]⟩:=b7;have T:Fx M D []:=(aq.trans j).mono (by grind [bK.no]);simp only[qz 24,di];refine mG (λvs Y'=>vs=[]/\box Y' (7,v7)=V ⟨138,3,U,U,[aoC.c ⟨if k=0 then 1 else 0,0,I⟩]⟩/\Fx M Y' []) (λb hJ=>?_) ?_;simp only[qz 131,qy 26,au,u0,u1,W,aj,↓uL];refine⟨λhi=>?_,λhi=>hJ [] D ⟨rfl,?_,T⟩⟩;refine cy (y:=1) (cs:=[iv 1]) W rfl rfl (by decide) λY6 F6 b8=>hJ [] Y6 ⟨rfl,?_,(T.trans F6).mono<|by simp only[dW,cE];grind [bK.no]⟩;have h0:k=0:=(by grind);rw[lD h0];exact b8;have h0:¬k=0:=(by grind);grind;rintro vs Y6 ⟨rfl,b8,C⟩;have m6:=C.kq S;have g6:=O.fx C (by simp);simp only[qz 129,qy 28,aI,u0,u1,m6,b8,R,aU,nM,J3,aj,ag,↓uL];refine Dv m6 (by simp) g6 (by grind) rfl (by decide) (by grind [Fx.len]) alx alx (by grind [aO1]) (by simp) λE Y7 m7 g7 F7 P7=>?_;simp only[qz 32,au,u0,u1,↓uL];refine yU p ⟨E,m7,by grind,((f.trans C).trans F7).mono λq e=>?_,λq e=>⟨?_,?_⟩⟩;simp only[dF,eW,ql,bjf] at e⊢;grind [bK.no];grind [bK.old];grind;have o:k=L ts:=(by grind);subst o;have az:=f.kq<|g.kq<|A.kq c2;simp only[S,u0,u1,X];refine cy (y:=4) (cs:=[a1,iv<|-1,a2,a3]) az rfl rfl (by decide) λD j b5=>?_;have ax:box D (2,v2)=V ⟨36,4,U,U,[[a1,iv<|-1,a2,a3]]⟩:=b5;simp only[ax,u0,u1,X,aNN,aoz];have i:∀{a:AV} {d:Nat},(∀q∈aA a,q.1=d)->d≠2->d≠3->∀q∈aA a,q∉[((2,v2):Id)]/\q∉[((3,n):Id)]:=λh h1 h2 q e=>⟨(by grind),by grind⟩;have n1:=i (λq e=>(P1 q e).2) (by decide) (by decide);have n2:=i (λq e=>(P2 q e).2) (by decide) (by decide);have n3:=i (λq e=>(P3 q e).2) (by decide) (by decide);have am:∀{q:Id},bK t q->bK Y q:=λh=>(h.old u).old B;refine⟨a1,a2,a3,rfl,((g1.fx g λq e=>(n1 q e).2).fx f λq e=>(n1 q e).2).fx j λq e=>(n1 q e).1,(N.fx f λq e=>(n2 q e).2).fx j λq e=>(n2 q e).1,O.fx j λq e=>(n3 q e).1,(((((B.trans u).trans A).trans g).trans f).trans j).mono λq e=>?_,(by grind),(by grind [bK.old]),λq e=>⟨am (by grind [bK.old]),(P3 q e).2⟩⟩;simp only[dW,dF,cE,or_self] at e;rcases e with rfl|rfl;exact .inr N6.no;exact .inr (N3.old B).no
end
def wI(n:Nat):List dL:=(aH n).flatMap λ(t:Nat)=>(aH 6).map λ(k:Nat)=>⟨(t:Int),(k:Int),10*(t:Int)+k+1⟩
def aNE:J9:=⟨[⟨⟨#[120]⟩,0,0,I,0⟩,⟨⟨#[121]⟩,0,0,I,1⟩,⟨⟨#[118]⟩,0,0,U,0⟩,⟨⟨#[113]⟩,0,2,I,0⟩,⟨⟨#[113]⟩,1,2,I,0⟩],[⟨⟨#[109]⟩,I⟩,⟨⟨#[110]⟩,I⟩,⟨⟨#[114]⟩,U⟩],[⟨⟨#[99]⟩,0⟩],[⟨#[102]⟩],[⟨#[109,97,105,110]⟩,⟨#[116,49]⟩,⟨#[116,50]⟩,⟨#[116,51]⟩],wI 4⟩
def gu(t o:Bool):List AV:=[.l (aNE.cells.map cA.c) U U, .l (aNE.ak.map dS.c) U U, .l (aNE.bC.map aOw.c) U U, .l (aNE.bU.map cs) U U, .l (aNE.ay.map cs) U U, .l (aNE.dU.map dL.c) t o]
def bdB:Ct 54 [] λr=>∃t o,r= .a (gu t o):=by
 refine aMx λs0 hl h0=>?_
 simp only[ajP]
 refine I4 hl λv0 s1 F1 N1 b1=>?_
 have v:L s1=4096:=F1.len.trans hl
 have hc:∀{Y:ae},aX btQ 5 Y [(0, .a<|cA.c ⟨⟨#[120]⟩,0,0,I,0⟩),(1, .a<|cA.c ⟨⟨#[121]⟩,0,0,I,1⟩),(2, .a<|cA.c ⟨⟨#[118]⟩,0,0,U,0⟩),(3, .a<|cA.c ⟨⟨#[113]⟩,0,2,I,0⟩),(4, .a<|cA.c ⟨⟨#[113]⟩,1,2,I,0⟩)]=V (.l (aNE.cells.map cA.c) U U,Y):=λ{Y}=>rfl
 have N:bM bsR aOs [(0,sv [120])]=V (.a<|cA.c ⟨⟨#[120]⟩,0,0,I,0⟩):=rfl
 have O:bM bsR aOs [(0,sv [121]),(4,iv 1)]=V (.a<|cA.c ⟨⟨#[121]⟩,0,0,I,1⟩):=rfl
 have P:bM bsR aOs [(0,sv [118]),(3,bv U)]=V (.a<|cA.c ⟨⟨#[118]⟩,0,0,U,0⟩):=rfl
 have R:bM bsR aOs [(0,sv [113]),(2,iv 2)]=V (.a<|cA.c ⟨⟨#[113]⟩,0,2,I,0⟩):=rfl
 have S:bM bsR aOs [(0,sv [113]),(1,iv 1),(2,iv 2)]=V (.a<|cA.c ⟨⟨#[113]⟩,1,2,I,0⟩):=rfl
 simp only[qz 2,N,O,P,R,S,aY,hc,bQ]
 have aa:bM btf brF [(0,sv [109])]=V (.a<|dS.c ⟨⟨#[109]⟩,I⟩):=rfl
 have ab:bM btf brF [(0,sv [110])]=V (.a<|dS.c ⟨⟨#[110]⟩,I⟩):=rfl
 have ac:bM btf brF [(0,sv [114]),(1,bv U)]=V (.a<|dS.c ⟨⟨#[114]⟩,U⟩):=rfl
 have X:∀{Y:ae},aX btR 3 Y [(0, .a<|dS.c ⟨⟨#[109]⟩,I⟩),(1, .a<|dS.c ⟨⟨#[110]⟩,I⟩),(2, .a<|dS.c ⟨⟨#[114]⟩,U⟩)]=V (.l (aNE.ak.map dS.c) U U,Y):=λ{Y}=>rfl
 simp only[qz 4,aa,ab,ac,aY,X,bQ]
 have al:bM bt0 brF [(0,sv [99])]=V (.a<|aOw.c ⟨⟨#[99]⟩,0⟩):=rfl
 have m:∀{Y:ae},aX btS 1 Y [(0, .a<|aOw.c ⟨⟨#[99]⟩,0⟩)]=V (.l (aNE.bC.map aOw.c) U U,Y):=λ{Y}=>rfl
 have hf:∀{Y:ae},aX zd9 1 Y [(0,sv [102])]=V (.l (aNE.bU.map cs) U U,Y):=λ{Y}=>rfl
 have ht:∀{Y:ae},aX zd9 4 Y [(0,sv [109,97,105,110]),(1,sv [116,49]),(2,sv [116,50]),(3,sv [116,51])]=V (.l (aNE.ay.map cs) U U,Y):=λ{Y}=>rfl
 simp only[qz 6,al,aY,m,bQ,qz 8,hf,qz 10,ht]
 have hw:bM aRc anY [(0, .l (aNE.cells.map cA.c) U U),(1, .l (aNE.ak.map dS.c) U U),(2, .l (aNE.bC.map aOw.c) U U),(3, .l (aNE.bU.map cs) U U),(4, .l (aNE.ay.map cs) U U)]=V (.a [.l (aNE.cells.map cA.c) U U, .l (aNE.ak.map dS.c) U U, .l (aNE.bC.map aOw.c) U U, .l (aNE.bU.map cs) U U, .l (aNE.ay.map cs) U U, .l [] U U]):=rfl
 simp only[qz 12,qy 14,hw,aY]
 have bg:L aNE.ay=4:=rfl
 have be:∀a,a=aNE.dU->wI 4=a:=λa h=>h.symm
 generalize hA:AV.l (aNE.cells.map cA.c) U U=A
 generalize hB:AV.l (aNE.ak.map dS.c) U U=B
 generalize hC:AV.l (aNE.bC.map aOw.c) U U=C
 generalize hD:AV.l (aNE.bU.map cs) U U=D
 refine I4 v λi s2 F2 N2 b2=>?_
 refine cy (y:=6) (cs:=[A,B,C,D, .l (aNE.ay.map cs) U U, .l [] U U]) b2 rfl rfl (by decide) λd F3 b3=>?_
 have u:box d (1,i)=V ⟨31,6,U,U,[[A,B,C,D, .l (aNE.ay.map cs) U U, .l [] U U]]⟩:=b3
 have n:Fx s1 d []:=(F2.trans F3).mono (by grind [bK.no])
 have c1:=n.kq b1
 have af:L d=4096:=n.len.trans v
 have k1:∀{x:List AV} {y:AV},aN J (y::x)=V y:=λ{x y}=>by cases y<;>rfl
 have w:∀{x y x2 x3 x4 x5:AV},aN (V 6) [x,y,x2,x3,x4,x5]=V (.a [x,y,x2,x3,x4,x5]):=rfl
 have ag:∀{Y:ae},fS Y (.l (aNE.ay.map cs) U U)=V (iv (4:Nat)):=λ{Y}=>rfl
 simp only[qz 16,u0,u1,u,k1,nM,J3,aj,ag,↓uL]
 have alx:∀{l:List dL},∀r∈l.map dL.c,L r=3:=qW (by intro _;rfl)
 have bf:∀k,wI (k+1)=wI k++(aH 6).map λ(j:Nat)=>⟨(k:Int),(j:Int),10*(k:Int)+j+1⟩:=λk=>a7a
 have am:∀k,L (wI k)<=k*6:=λk=>eU (f:=λ(t:Nat)=>(aH 6).map λ(k:Nat)=>(⟨(t:Int),(k:Int),10*(t:Int)+k+1⟩:dL)) (c:=6) (λt=>by simp) k
 refine yV 4 (λk _ Y'=>∃a,box Y' (1,i)=V ⟨31,6,U,U,[[A,B,C,D, .l (aNE.ay.map cs) U U,a]]⟩/\bc Y' 181 3 a ((wI k).map dL.c)/\Fx d Y' [(1,i)]/\∀q∈aA a,bK d q/\q.1=40) ⟨_,u,bc.nil,Fx.refl _ _,by simp[aA]⟩ ?_
 rintro k _ Y1 X ⟨a1,m1,g1,e,P1⟩
 have aW:L Y1=4096:=e.len.trans af
 have a0:=am k
 simp only[qz 25,qy 24,au,aI,u0,u1,↓uL]
 refine⟨λh=>?_,λh=>?_⟩
 ·have ah:=aL h
  refine yV 6 (λj _ Y'=>∃a,box Y' (1,i)=V ⟨31,6,U,U,[[A,B,C,D, .l (aNE.ay.map cs) U U,a]]⟩/\bc Y' 181 3 a ((wI k++(aH j).map λ(j:Nat)=>(⟨(k:Int),(j:Int),10*(k:Int)+j+1⟩:dL)).map dL.c)/\Fx d Y' [(1,i)]/\∀q∈aA a,bK d q/\q.1=40) ⟨a1,m1,by grind,e,P1⟩ ?_
  rintro j _ Y2 hj ⟨a2,E,g2,p,P2⟩
  have W:∀{Y:ae} {x:dL},aX btT 1 Y [(0, .a<|dL.c x)]=V (.l ([x].map dL.c) U U,Y):=λ{Y x}=>ua rfl rfl rfl (by decide) rfl (by decide)
  have T:∀{x y z:Int},bM bt1 aM7 [(0,iv x),(1,iv y),(2,iv z)]=V (.a<|dL.c ⟨x,y,z⟩):=λ{x y z}=>rfl
  simp only[qz 61,qy 18,au,aI,u0,u1,E,k1,nM,J3,aj,T,W,↓uL]
  refine⟨λM=>?_,λM=>?_⟩
  ·have g:j<6:=(by grind)
   rw[show dq.wrap (dq.wrap (dq.wrap (10*(k:Int))+j)+1)=10*(k:Int)+j+1 by
    rw[eM (x:=10*(k:Int)) (by omega) (by omega),eM (x:=10*(k:Int)+j) (by omega) (by omega),eM (by omega)<|by omega]]
   refine Dv E (by simp) g2 (by grind) rfl (by decide) (by grind [Fx.len]) alx alx (by simp only[bJ,a6G,List.length_range,bZ,aO1];omega) (by simp) λa' Y3 m3 K F P3=>?_
   simp only[qz 22,au,u0,u1,↓uL]
   refine yU g ⟨a',m3,by simp only[qn,dg,<-List.append_assoc] at K⊢;exact K,(p.trans F).mono λq m=>?_,λq m=>⟨?_,?_⟩⟩
   ·simp only[dF,eW,ql,bjf] at m⊢
    grind [bK.no]
   ·grind [bK.old]
   grind
  ·have bd:¬(j:Int)<6:=bst M
   have g:j=6:=by omega
   subst g
   refine yU ah ⟨a2,E,by grind,p,P2⟩
 ·have Z:k=4:=(by grind)
  subst Z
  have H:=e.kq c1
  simp only[m1,w,u0,u1]
  refine cy (y:=6) (cs:=[A,B,C,D, .l (aNE.ay.map cs) U U,a1]) H rfl rfl (by decide) λb F5 b5=>?_
  have G:box b (0,v0)=V ⟨31,6,U,U,[[A,B,C,D, .l (aNE.ay.map cs) U U,a1]]⟩:=b5
  simp only[G,w,u0,u1]
  obtain⟨t,o,q1⟩:=(g1.fx F5<|by grind).frD
  have hr:jS b [.a [A,B,C,D, .l (aNE.ay.map cs) U U,a1]]= .a (gu t o):=by
   show AV.a [dQ b A,dQ b B,dQ b C,dQ b D,dQ b<|.l (aNE.ay.map cs) U U,dQ b a1]=_
   rw[q1,<-hA,<-hB,<-hC,<-hD];rfl
  unfold aE
  rw[hr]
  exact⟨rfl,t,o,rfl⟩
def PM:Ct 54 [] (·= .a aNE.c):=by refine aDq ?_;obtain⟨r,b,d⟩:=bdB;refine⟨r,?_,d⟩;obtain⟨t,o,rfl⟩:=b;rfl
def Gf:FT:=BJ PM
def azy{Lw K}:=al2 Gf PM Lw K
def aTk{c:AV}{cs:List AV}:wn (c::cs)=aA c++wn cs:=by cases c<;>rfl
def aYg{c Y:ae}{d:Nat}{cs:List AV}{a:AV}{e:TypeId}{z:Nat}{bA:List (List AV)}(g:bc c e z a bA)(n:bA.all (λr=>r.all DU)=U)(i:d<L Y):∃h f,gU c d Y (a::cs)=(gU c d f cs).map (λp=>(h::p.1,p.2))/\bc f e z h bA/\Fx Y f []/\∀q∈aA h,bK Y q/\q.1=d:=by rcases g with⟨rfl,rfl⟩|⟨b,rfl,k⟩;exact⟨.l [] U U,Y,rfl, .inl ⟨rfl,rfl⟩,Fx.refl _ _,by simp[aA]⟩;refine⟨.m (zt Y d)<|L bA,put Y d ⟨e,z,U,I,bA⟩,?_, .inr ⟨_,rfl,be7 i⟩,kH i,λq j=>?_⟩;grind [vY,gU];simp only[aA,cE] at j;subst j;exact⟨qQ Y d,rfl⟩
def a57{Y:ae}{d:Nat}{K:be}{w:J9}(b:d<L Y)(X:L w.ak<=100)(Z:L w.bU<=100)(h4:L w.ay<=100)(G:∀a1 a2 a3 Y',bc Y' 184 2 a1 ((er (L w.ak) (⟨-1,[]⟩:cg)).map cg.c)->bc Y' 4 1 a2 ((er (L w.bU) I).map cb)->bc Y' 138 3 a3 ((qZ<|L w.ay).map aoC.c)->Fx Y Y' []->(∀q∈aA a1++(aA a2++aA a3),bK Y q/\q.1=d)->K (.a [a1,iv<|-1,a2,a3]) Y'):cN 118 [.a w.c] Y d K:=by obtain⟨r,l,⟨a1,a2,a3,rfl,g1,u,v,F,S,T,W⟩,E⟩:=aDP (Y:=eK) (x0:=sl cA.c w.cells) (x2:=sl aOw.c w.bC) (x5:=sl dL.c w.dU) (ls:=w.ak.map dS.c) (fs:=w.bU.map cs) (ts:=w.ay.map cs) (t1:=I) (o1:=I) (t3:=I) (o3:=I) (t4:=I) (o4:=I) (List.length_replicate ..) (by grind) (by grind) (by grind);simp only[bJ] at g1 u v;obtain⟨n,m,B,M,i,P⟩:=aYg (Y:=Y) (d:=d) (cs:=[iv (-1),a2,a3]) g1 (by simp[cg.c,DU,sl]) b;obtain⟨o,R,C,N,j,n2⟩:=aYg (Y:=m) (d:=d) (cs:=[a3]) u (by simp[DU,cb]) (by rw[i.len];exact b);obtain⟨t,A,D,O,k,n3⟩:=aYg (Y:=R) (d:=d) (cs:=[]) v (by simp[dV,DU,aoC.c]) (by rw[j.len,i.len];exact b);have f:[AV.a w.c].map (dG Y)=[.a w.c]:=rfl;refine .inr (.inr ⟨by rw[f];simp[iX,J9.c,eN,sl],by simp[aRI,b],[a1,iv<|-1,a2,a3],l,[n,iv<|-1,o,t],A,by rw[f];exact E,?_,?_,?_⟩);have m1:∀{a:AV},(aA a).Nodup:=λ{a}=>(by cases a<;>simp[aA]);have e0:wn [a1,iv<|-1,a2,a3]=aA a1++(aA a2++aA a3):=(by rw[aTk,aTk,aTk,aTk];show aA a1++([]++(aA a2++(aA a3++[])))=_;simp);rw[e0,xl,xl];refine⟨m1,⟨m1,m1,λx f y g e=>?_⟩,λx f y g e=>?_⟩;grind;subst e;rcases dF.1 g with g|g;grind;grind;rw[B];have:gU l d m [iv (-1),a2,a3]=(gU l d m [a2,a3]).map λp=>(iv (-1)::p.1,p.2):=rfl;rw[this,C,D];rfl;refine G n o t A ((M.fx j<|by simp).fx k<|by simp) (N.fx k<|by simp) O ((i.trans j).trans k) λq H=>?_;rcases dF.1 H with h|h;exact P q h;rcases dF.1 h with h|h;grind [bK.old];grind [bK.old]
def aH6(w:J9):sA:=⟨⟨er (L w.ak) ⟨-1,[]⟩,-1,er (L w.bU) I,qZ<|L w.ay⟩,w.cells.map (·.init),er (L w.bU) 0,er (L w.ay) 0⟩
def aWw{Y:ae}{e:TypeId}{z:Nat}{a:AV}{bA:List (List AV)}{d:Nat}(g:bc Y e z a bA)(h:∀q∈aA a,q.1=d):dK a=[]\/dK a=[d]:=by rcases g with⟨_,rfl⟩|⟨b,rfl,_⟩;exact .inl rfl;grind [aA,dK]
theorem k1m{b:Id}{n:Nat}:dK (.m b n)=[b.1]:=rfl
def k1p{b:Id}{i j:Nat}:dK (.p b i j)=[b.1]:=rfl
def k1s{v:Value}:dK (.s v)=[]:=rfl
theorem k1l{r:List (List AV)}{t o:Bool}:dK (.l r t o)=[]:=rfl
structure SnL(Y0 Y:ae)(s:sA)(a1 a2 a3 a4 a5 a6:AV):Prop where
 g1:lA Y 184 2 a1 (s.bW.ak.map cg.c)
 g2:lA Y 4 1 a2 (s.bW.done.map cb)
 g3:lA Y 138 3 a3 (s.bW.ay.map aoC.c)
 g4:lA Y 2 1 a4 (s.cells.map ci)
 g5:lA Y 2 1 a5 (s.bU.map ci)
 g6:lA Y 3 1 a6 (s.count.map ci)
 p1:∀q∈aA a1,bK Y0 q/\q.1=6
 p2:∀q∈aA a2,bK Y0 q/\q.1=6
 p3:∀q∈aA a3,bK Y0 q/\q.1=6
 p4:∀q∈aA a4,bK Y0 q/\q.1=32
 p5:∀q∈aA a5,bK Y0 q/\q.1=10
 p6:∀q∈aA a6,bK Y0 q/\q.1=14
section
variable{Y0 Y:ae}{s:sA}{a1 a2 a3 a4 a5 a6:AV}
theorem SnL.ids(h:SnL Y0 Y s a1 a2 a3 a4 a5 a6){x:Int}:∀q∈eB (.a [a1,iv x,a2,a3,a4,a5,a6]),bK Y0 q/\(q.1=6\/q.1=10\/q.1=14\/q.1=32):=by intro q b;have c:∀{a:AV},iR a=aA a:=λ{a}=>(by cases a<;>rfl);simp only[eB,Cz,RN,c,cL,dF] at b;rcases b with g|g|g|g|g|g|g;grind [SnL.p1];simp[aA] at g;grind [SnL.p2];grind [SnL.p3];grind [SnL.p4];grind [SnL.p5];grind [SnL.p6]
theorem SnL.lz(h:SnL Y0 Y s a1 a2 a3 a4 a5 a6):[a1,iv s.bW.tx,a2,a3,a4,a5,a6].map (lz Y)=s.c:=by simp only[ji,mU,aOb h.g1,aOb h.g2,aOb h.g3,aOb h.g4,aOb h.g5,aOb h.g6,aQ5];rfl
end
def aXI{Y:ae}{w:J9}(hl:L Y=4096)(h0:L w.cells<=1000)(h1:L w.ak<=100)(h3:L w.bU<=100)(h4:L w.ay<=100):∃r A,(∃a1 a2 a3 a4 a5 a6,r= .a [a1,iv<|-1,a2,a3,a4,a5,a6]/\SnL Y A (aH6 w) a1 a2 a3 a4 a5 a6/\Fx Y A [])/\cZ aS GG 57 [.a w.c] Y r A:=by refine aLy hl rfl λs2 v1 K2 bv nf b1=>?_;have E:Fx Y s2 []:=K2.fx [];have R:L s2=4096:=E.len.trans hl;simp only[IK];refine I4 R λv2 s3 F N3 b2=>?_;have c1:=F.kq b1;have aC:L s3=4096:=F.len.trans R;have r6:aN (V 6) w.c=V (.a w.c):=rfl;have aM:aN J (w.c.drop 3)=V (sl cs w.bU):=rfl;have aO:aN J (w.c.drop 4)=V (sl cs w.ay):=rfl;have Z:aN J w.c=V (sl cA.c w.cells):=rfl;simp only[qz 4,u0,u1,c1,r6,↓uL];refine a57 (by omega) h1 h3 h4 λa1 a2 a3 s5 g1 g2 g3 n P=>?_;have P1:∀q∈aA a1,q.1=6:=λq b=>(P q<|by simp[b]).2;have P2:∀q∈aA a2,q.1=6:=λq b=>(P q<|by simp[b]).2;have P3:∀q∈aA a3,q.1=6:=λq b=>(P q<|by simp[b]).2;have D:=n.kq c1;have an:=n.kq b2;have aD:L s5=4096:=n.len.trans aC;simp only[qz 6,u0,u1,D,aM,aj,↓uL];refine AP (by decide) (by decide) (by omega) (by omega) λB s6 p5 N6 G d5=>?_;have aE:L s6=4096:=G.len.trans aD;have al:=G.kq D;simp only[qz 8,u0,u1,al,aO,aj,↓uL];refine AP (by decide) (by decide) (by omega) (by omega) λC s7 p6 N7 T d6=>?_;have S:L s7=4096:=T.len.trans aE;have O:=G.trans T;have av:bM bsk aon [(0, .a [a1,iv<|-1,a2,a3]),(2, .m B<|L w.bU),(3, .m C<|L w.ay)]=V (.a [a1,iv<|-1,a2,a3, .l [] U U, .m B<|L w.bU, .m C<|L w.ay]):=rfl;simp only[qz 10,qy 12,av,aY];refine anu S λN v o N8 d9=>?_;have f:=O.trans o;have aF:L v=4096:=o.len.trans S;have am:=f.kq D;have ao:=f.kq an;have q1:=g1.fx f (by simp);have q2:=g2.fx f (by simp);have q3:=g3.fx f (by simp);have q5:=o.kq<|T.kq d5;have q6:=o.kq d6;obtain⟨bt,g⟩:=B;obtain⟨bu,i⟩:=C;simp only at p5 p6;subst p5;subst p6;simp only[qz 14];refine dT ?_ ?_;rcases aWw g1 P1 with K|K<;>rcases aWw g2 P2 with M|M<;>rcases aWw g3 P3 with e3|e3<;>simp[eL,lb,m8,dC,k1m,k1p,k1s,k1l,J9.c,sl,K,M,e3];refine yV (L w.cells) (λk _ Y'=>∃a,box Y' (3,N)=V ⟨40,7,U,U,[[a1,iv<|-1,a2,a3,a, .m (10,g)<|L w.bU, .m (14,i)<|L w.ay]]⟩/\bc Y' 2 1 a (((w.cells.take k).map (·.init)).map ci)/\Fx v Y' [(3,N)]/\∀q∈aA a,bK v q/\q.1=32) (by grind [bc,Fx.refl,aA]) ?_;rintro k _ A hk ⟨a4,m1,W,y,P4⟩;have K:=y.kq am;have aB:L A=4096:=y.len.trans aF;have aw:∀{Y:ae} {x:Int},aX yW 1 Y [(0,iv x)]=V (.l ([x].map ci) U U,Y):=λ{Y x}=>iz;simp only[qz 25,qy 16,qy 22,au,aI,u0,u1,K,Z,m1,aRV,bfx,aRa,rk,aj,ix,bh,aw,↓uL];refine⟨λh=>?_,λh=>?_⟩;have t:=aL h;refine⟨dJ t,?_⟩;refine apQ W.p aB fF fF (by simp) (by simp;omega) λa' H g5 j N5=>?_;have m5:=j.keep _ _ (λb=>by have:=(P4 _ b).2;simp at this) m1;simp only[qz 18,u0,u1,m5,aj,↓uL];refine A0 m5 g5.p.ce (by simp) λY6 aa C=>?_;have P5:∀q∈aA a',bK v q/\q.1=32:=(by grind [bK.old]);simp only[qz 20,↓uL];refine dT (by simp[eL,lb,m8,dC,dK]) ?_;simp only[au,u0,u1];refine yU t ⟨a',C,?_,((y.trans j).trans aa).mono λq b=>?_,P5⟩;rw[iJ t,<-bT t,dg,dg];grind [bc.fx];grind [bK.no];have ax:k=L w.cells:=(by grind);subst ax;rw[gV] at W;have M:=y.kq ao;have Bi:aN (V 7) [a1,iv<|-1,a2,a3,a4, .m (10,g)<|L w.bU, .m (14,i)<|L w.ay]=V (.a [a1,iv<|-1,a2,a3,a4, .m (10,g)<|L w.bU, .m (14,i)<|L w.ay]):=rfl;simp only[Bi,aY];refine stW M rfl rfl λH j B=>?_;simp only[B,aQd,qh,df,Bi,aY];have u:Fx v H [(3,N),(2,v2)]:=y.trans j;have X:∀{a:AV} {d:Nat},(∀q∈aA a,q.1=d)->d≠2->d≠3->∀q∈aA a,q∉[((3,N):Id),((2,v2):Id)]:=(by grind);have z1:=q1.fx u (X P1 (by decide)<|by decide);have z2:=q2.fx u (X P2 (by decide)<|by decide);have z3:=q3.fx u (X P3 (by decide)<|by decide);have z4:=W.fx j (λq b e=>by have:=(P4 q b).2;simp at e;subst e;simp at this);have z5:bc H 2 1 (.m (10,g)<|L w.bU) ((er (L w.bU) (0:Int)).map ci):= .inr ⟨(10,g),by simp,by rw[u.kq q5,List.map_replicate];rfl⟩;have z6:bc H 3 1 (.m (14,i)<|L w.ay) ((er (L w.ay) (0:Int)).map ci):= .inr ⟨(14,i),by simp,by rw[u.kq q6,List.map_replicate];rfl⟩;have o3:∀{q:Id},bK s3 q->bK Y q:=λh=>(h.old F).old E;have o9:∀{q:Id},bK v q->bK Y q:=(by grind [bK.old]);have n5:bK Y (10,g):=o3<|N6.old n;have bw:bK Y (14,i):=o3<|(N7.old G).old n;refine⟨a1,a2,a3,a4,_,_,rfl,⟨z1.p,z2.p,z3.p,z4.p,z5.p,z6.p,(by grind),(by grind),(by grind),(by grind),λq h=>?_,λq h=>?_⟩,((((E.trans F).trans n).trans f).trans u).mono λq b=>?_⟩;grind [aA];grind [aA];simp only[dW,eW,ql,bjf,cL] at b;rcases b with rfl|rfl;exact .inr (o3<|(N8.old O).old n).no;exact .inr (N3.old E).no
def SlR(Y:ae)(z:Nat)(x:AV)(bA:List<|List AV):Prop:=(∃t o,x= .l bA t o)\/∃b m e,x= .m b (L bA)/\box Y b=V ⟨e,z,U,I,bA++m⟩
section
variable{Y Y':ae}{z:Nat}{x:AV}{bA:List (List AV)}
theorem SlR.fx{Lw:List Id}(h:SlR Y z x bA)(F:Fx Y Y' Lw)(a:∀q∈aA x,q∉Lw):SlR Y' z x bA:=by rcases h with h|⟨b,m,e,rfl,c⟩;exact .inl h;exact .inr ⟨b,m,e,rfl,F.keep _ _ (a b<|by simp[aA]) c⟩
theorem SlR.bx(h:SlR Y z x bA):∀q∈aA x,∃y,box Y q=V y:=by rcases h with⟨t,o,rfl⟩|⟨b,m,e,rfl,a⟩;simp[aA];grind [aA]
def SlR.of{e:TypeId}(h:lA Y e z x bA):SlR Y z x bA:=by rcases h with⟨rfl,rfl⟩|⟨b,m,rfl,a⟩;exact .inl ⟨_,_,rfl⟩;exact .inr ⟨b,m,e,rfl,a⟩
def SlR.ro(h:SlR Y z x bA):gL Y x=V bA:=by rcases h with⟨t,o,rfl⟩|⟨b,m,e,rfl,a⟩;rfl;simp[gL,a]
theorem SlR.ln(h:SlR Y z x bA):fS Y x=V (iv<|L bA):=by rcases h with⟨t,o,rfl⟩|⟨b,m,e,rfl,a⟩;rfl;simp[fS,a]
theorem SlR.ce(h:SlR Y z x bA):eY x=V [x]:=by rcases h with⟨t,o,rfl⟩|⟨b,m,e,rfl,a⟩<;>rfl
theorem SlR.ix1(h:SlR Y 1 x bA){i:Nat}{c:AV}(k:bA[i]?=V [c]){K:AV->cC}(g:∀p,p= .q [c]\/(∃b,p= .p b i 0/\b∈aA x)->K p c):rV (cz 1 Y x<|iv i) λp=>rV (vl J Y p) (K p):=by obtain⟨d,j⟩:=List.getElem?_eq_some_iff.1 k;rcases h with⟨t,o,rfl⟩|⟨b,m,e,rfl,a⟩;have:cz 1 Y (.l bA t o) (iv i)=V (.q [c]):=(by simp[cz,d,j]);rw[this];exact g _<|.inl rfl;have n:cz 1 Y (.m b<|L bA) (iv i)=V (.p b i 0):=(by simp[cz,a,d]);have f:(bA++m)[i]?=V [c]:=(by grind);have r:vl J Y (.p b i 0)=V c:=(by simp only[vl,iE,a,aQd,f];cases c<;>rfl);grind [aY,aA]
theorem apV{e:TypeId}{d by':Nat}{zs:List AV}{a:AV}{new:List (List AV)}{K:be}(f:lA Y e z a bA)(n:gL Y x=V new)(y:L zs=z)(t:0<z)(u:d<L Y)(w:∀r∈bA,L r=z)(v:∀r∈new,L r=z)(g:(L bA+L new)*(by'+1)<=1099511627776)(k:∀c Y',lA Y' e z c (bA++new)->Fx Y Y' (aA a)->(∀b∈aA c,b∈aA a\/bK Y b/\b.1=d)->K c Y'):eV (apA e zs by' Y d a x) K:=by have j:apA e zs by' Y d a x=apA e zs by' Y d a (.l new U U):=(by have h:gL Y (.l new U U)=V new:=rfl;unfold apA;rw[n,h]);rw[j];by_cases i:new=[];subst i;have:apA e zs by' Y d a (.l [] U U)=V (a,Y):=(by unfold apA;simp only[gL];rw[lD<|by simp];rcases f with⟨_,rfl⟩|⟨q,m,rfl,o⟩;rfl;simp[o]);rw[this];exact k a Y (by simpa using f) (Fx.refl _ _) λb g=> .inl g;grind [qs,bc.p]
end
def baG{Y:ae}{z0 a:AV}{e:TypeId}{z:Nat}{bA:List (List AV)}(g:lA Y e z a bA):aX [z0] 1 Y [(0,a)]=V (.l [[.l bA I I]] U U,kills Y<|aA a):=by rcases g with⟨rfl,rfl⟩|⟨b,m,rfl,c⟩;simp[aX,aly,eY,nrm,gK,eR,gi,eB,iR,kills,kC,eN,aA];simp[aX,aly,eY,nrm,gK,eR,gi,eB,iR,kC,eN,aA,c]
def SlR.keys{Y:ae}{z:Nat}{x:AV}{bA:List (List AV)}(h:SlR Y z x bA){P:Nat->Prop}(a:∀q∈aA x,P q.1):m8 x=[]\/∃p,m8 x=[p]/\P p:=by rcases h with⟨t,o,rfl⟩|⟨b,m,e,rfl,c⟩;exact .inl rfl;exact .inr ⟨b.1,rfl,a b<|by simp[aA]⟩
def a6M{Y:ae}{o ev:Int}{T x2:AV}{H7:List Int}{J6:List (List Int)}(hl:L Y=4096)(h1:SlR Y 1 T<|H7.map ci)(h2:SlR Y 1 x2<|J6.map cl)(hp:∀q∈aA T,q.1≠1/\q.1≠3)(b1:L H7<=1000)(b2:L J6<=1000)(b3:∀t∈J6,L t<=1000):
  ∃r g,(∃a1 a2,r= .a [iv o,a1,a2,iv ev]/\lA g 2 1 a1 (H7.map ci)/\lA g 38 1 a2 (J6.map cl)/\Fx Y g []/\(∀q∈aA a1,bK Y q/\q.1=12)/\∀q∈aA a2,bK Y q/\q.1=31)/\cZ aS GG 266 [.a [iv o,T,x2,iv ev]] Y r g:=by
 refine bhc hl rfl λs2 v1 K2 bc nf c1=>?_
 have A:Fx Y s2 []:=K2.fx []
 have K:L s2=4096:=A.len.trans hl
 have H1:=h1.fx A (by simp)
 have H2:=h2.fx A (by simp)
 simp only[aVb]
 refine I4 K λv2 R v N3 q3=>?_
 have N:=v.kq c1
 have M:=v.len.trans K
 have F:∀{x:List AV} {y:AV},aN J (y::x)=V y:=λ{x y}=>by cases y<;>rfl
 simp only[qz 4,u0,u1,N,F,nM,J3,aj,nS,↓uL]
 have H3:=H2.fx v (by simp)
 have Z:=H1.fx v (by simp)
 simp only[qz 6,u0,u1,N,F,nM,J3,aj,↓uL]
 refine apV (bA:=[]) (e:=2) (z:=1) (.inl ⟨rfl,rfl⟩) Z.ro rfl (by decide) (by omega) (by simp) fF (by simp;omega) λa1 s4 E F4 P4=>?_
 simp only[dW] at E
 have a8:∀q∈aA a1,bK R q/\q.1=12:=(by grind [aA])
 have d:Fx R s4 []:=F4.mono (by simp[aA])
 have am:bM aoB bmK [(0,iv o),(3,iv ev),(1,a1)]=V (.a [iv o,a1, .l [] U U,iv ev]):=by
  rcases E with⟨_,rfl⟩|⟨b,m,rfl,_⟩<;>rfl
 simp only[qz 8,qy 10,am,aY]
 refine anu (d.len.trans M) λS G w N5 q5=>?_
 have av:L G=4096:=w.len.trans<|d.len.trans M
 have c5:=w.kq<|d.kq N
 have d5:=w.kq<|d.kq q3
 have g5:=E.fx w (by simp)
 have H5:=(H3.fx d<|by simp).fx w (by simp)
 have o3:∀{q:Id},bK R q->bK Y q:=λh=>(h.old v).old A
 have o5:∀{q:Id},bK G q->bK Y q:=(by grind [bK.old])
 refine dT ?_ ?_
 ·have hk:m8 a1=[]\/m8 a1=[12]:=by
   rcases E with⟨_,rfl⟩|⟨b,m,rfl,_⟩
   ·exact .inl rfl
   grind [aA,m8,dC,dK]
  rcases hk with D|D<;>rcases h1.keys (P:=λp=>p≠1/\p≠3) hp with e2|⟨p,e2,p1,p3⟩<;>simp[eL,lb,Cz, *]<;>simp[m8,dC,dK]<;>omega
 refine yV (L J6) (λk _ Y'=>∃a2,box Y' (3,S)=V ⟨251,4,U,U,[[iv o,a1,a2,iv ev]]⟩/\lA Y' 38 1 a2 ((J6.take k).map cl)/\Fx G Y' [(3,S)]/\∀q∈aA a2,bK G q/\q.1=31) (by grind [lA,Fx.refl,aA]) ?_
 rintro k _ g hk ⟨a2,m1,g2,j,P6⟩
 have D:=j.kq c5
 have ab:bK Y (3,S):=o3<|N5.old d
 have H6:=H5.fx j (λq n e=>by
  simp only[cE] at e
  subst e
  obtain⟨y,hy⟩:=h2.bx _ n
  exact ab.no y hy)
 simp only[qz 25,qy 24,au,aI,u0,u1,D,m1,F,nM,J3,aj,H6.ln,bJ,nS,↓uL]
 refine⟨λh=>?_,λh=>?_⟩
 ·have f:=aL h
  simp only[qz 14,au,u0,u1,D,F,nM,J3,aj,↓uL]
  refine H6.ix1 (i:=k) (c:=sl ci<|gd J6 k) (by rw[bj9,eC f,bT f];rfl) λp bb=>?_
  have ar:L g=4096:=j.len.trans av
  have ba:=b3 _<|ve f
  refine apV (bA:=[]) (e:=3) (z:=1) (new:=(gd J6 k).map ci) (.inl ⟨rfl,rfl⟩) rfl rfl (by decide) (by omega) (by simp) fF (by simp;omega) λC s7 O F7 P7=>?_
  simp only[dW] at O
  have u:Fx g s7 []:=F7.mono (by simp[aA])
  have ac:∀q∈aA C,bK g q/\q.1=29:=(by grind [aA])
  have B:=aOp (aA C) s7
  simp only[qz 16,qy 18,baG O,bQ]
  have g8:=(g2.fx u<|by simp).fx B (by grind)
  refine qs (new:=[[.l ((gd J6 k).map ci) I I]]) g8 rfl (by decide) (by rw[B.len,u.len,ar];decide) (by intro r hr;obtain⟨y,_,rfl⟩:=dN.1 hr;rfl) (by simp) (by simp) (by simp;omega) λa9 s9 g9 X P9=>?_
  have m9:=X.keep _ _ (λn=>by have:=(P6 _ n).2;simp at this) (B.keep _ _ (λn=>by have:=(ac _ n).2;simp at this) (u.kq m1))
  simp only[qz 20,u0,u1,m9,aj,↓uL]
  refine A0 m9 g9.p.ce (by simp) λbd H ad=>?_
  simp only[qz 22,↓uL]
  refine dT ?_ ?_
  ·have ap:m8 C=[]\/m8 C=[29]:=by
    rcases O with⟨_,rfl⟩|⟨b,m,rfl,_⟩
    ·exact .inl rfl
    grind [aA,m8,dC,dK]
   rcases ap with e7|e7<;>simp[eL,lb,e7,Cz]<;>simp[m8,dC,dK,sl]
  simp only[au,u0,u1]
  refine yU f ⟨a9,ad,?_,((((j.trans u).trans B).trans X).trans H).mono λq n=>?_,by grind [bK.old]⟩
  ·rw[iJ f,<-bT f,dg]
   exact g9.p.fx H (by grind)
  grind [bK.no,bK.old]
 ·have ao:k=L J6:=(by grind)
  subst ao
  rw[gV] at g2
  have d6:=j.kq d5
  have uS:aN (V 4) [iv o,a1,a2,iv ev]=V (.a [iv o,a1,a2,iv ev]):=rfl
  simp only[uS,aY]
  refine stW d6 rfl rfl λs8 W b8=>?_
  simp only[b8,aQd,qh,df,uS,aY]
  refine⟨a1,a2,rfl,(g5.fx j<|by grind).fx W (by grind),(by grind [lA.fx]),(((((A.trans v).trans d).trans w).trans j).trans W).mono λq n=>?_,(by grind),by grind⟩
  grind [bK.no,bK.old]
def aR3:dO:=(54,Gf)::a7D
def aPL:eJ aR3:=sz (apM PM)<|aR2
def aPg:=ai @azy<|@bcw
section
attribute[local irreducible] aX
def a9J:=I5 25 [(4,([7],[2,3,4,6])),(12,([8,9,10],[2,3,4]))]
def aVf a b c R:=(.mk _:NS aR3 a9J Tryz.f267 [.u, .u] [a,b] c R).p
def bhf{c0:List AV}{b:List AV}{s0:ae}{R:be}(hs:L s0=4096)(l0:L c0=6)(l1:L b=4)(h:HB2 264 6 2 c0 251 4 3 b s0 λd e c=>aVf d e c R):EB 267 [.a c0, .a b] s0 R:=zB2 a9J aPL Tryz.func267 hs l0 l1 h
end
def bfq{Y:ae}{b:Id}{i j z:Nat}{e s:TypeId}{z2:Nat}{a:AV}{r:List AV}{bA d:List (List AV)}{K:ae->Prop}(h:box Y b=V ⟨e,z,U,I,bA⟩)(w:bA[i]?=V r)(x:j<L r)(g:lA Y s z2 a d)(n:b∉aA a)(u:∀Y',Fx Y Y' (aA a++[b])->box Y' b=V ⟨e,z,U,I,bA.set i<|r.set j<|.l d I I⟩->K Y'):sV (aK 1 Y (.p b i j) a) K:=by have v:nrm (eR Y a)= .l d I I:=(by rcases g with⟨rfl,rfl⟩|⟨q,m,rfl,o⟩;rfl;simp[eR,gi,o,nrm,gK]);have k:eB a=aA a:=(by rcases g with⟨rfl,rfl⟩|⟨q,m,rfl,o⟩<;>rfl);have f:=aOp (aA a) Y;have c:=f.keep b _ n h;have t:aK 1 Y (.p b i j) a=V (wr (kills Y<|aA a) b ⟨e,z,U,I,bA.set i<|r.set j<|.l d I I⟩):=(by simp only[aK,aBG,h,eE,brv,k,v,pW,c,eY,w,bZ,aO1];rw[lD ⟨trivial,by omega,λ_=>rfl⟩];grind [GP]);rw[t];exact u _ (f.trans<|wc c)<|lO c
structure TSt(Y:ae)(P:List Int->Prop)(n:Nat)(a1 a2:AV)(H7:List Int)(J6:List<|List Int):Prop where
 g1:lA Y 2 1 a1 (H7.map ci)
 g2:lA Y 38 1 a2 (J6.map cl)
 n1:L H7=n
 n2:L J6=n
 hP:∀t∈J6,P t
 p1:∀q∈aA a1,q.1=12
 p2:∀q∈aA a2,q.1=31
def aSq(Y:ae)(P:List Int->Prop)(n:Nat)(a1 b:AV)(ev:Int)(r:AV)(c:ae):Prop:=Fx Y c (aA a1++aA b)/\(r= .t [.a aoB,bv I]\/∃(e:Int) (d:Bool) (H7:List Int) (J6:List<|List Int),r= .t [.a [iv e,a1,b,iv ev],bv d]/\TSt c P n a1 b H7 J6)
theorem TSt.fx{Y Y':ae}{P:List Int->Prop}{n:Nat}{a1 b:AV}{H7:List Int}{J6:List (List Int)}(S:TSt Y P n a1 b H7 J6){Lw:List Id}(F:Fx Y Y' Lw)(c:∀q∈Lw,q.1≠12/\q.1≠31):TSt Y' P n a1 b H7 J6:=⟨S.g1.fx F λq a e=>(c q e).1<|S.p1 q a,S.g2.fx F λq a e=>(c q e).2<|S.p2 q a,S.n1,S.n2,S.hP,S.p1,S.p2⟩
def bdr{Y:ae}{P:List Int->Prop}{n:Nat}{i:aNZ}{pc ev:Int}{a1 D:AV}{H7:List Int}{J6:List (List Int)}(hl:L Y=4096)(S:TSt Y P n a1 D H7 J6)(bV:1<=i.op/\i.op<=5)(hn:n<=1000)(ba:P [])(bc:∀a b,P a->P b->P (mP a b))(bb:∀a,P a->L a<=1000):∃r A,aSq Y P n a1 D ev r A/\cZ aS GG 267 [.a i.c, .a [iv pc,a1,D,iv ev]] Y r A:=by refine bhf hl rfl rfl λs4 v2 v3 K4 bX nf2 bY c2 c3=>?_;have F4:Fx Y s4 []:=K4.fx [];have bl:=F4.len.trans hl;simp only[aVf];refine I4 bl λv5 s5 F5 N5 c5=>?_;have d2:=F5.kq c2;have F:=F5.kq c3;simp only[qz 6,u0,u1,d2,pz,jM,kU,jt,Fa,aPg,↓uL];rintro r ⟨t',o',rfl⟩;refine⟨by simp[lo,nA,eB,iR,aNZ.c],?_⟩;refine yV (L<|a6z i) (λk _ Y'=>Y'=s5/\∀j,j<k->aF n (gd (a6z i) j)) ⟨rfl,by simp⟩ ?_;rintro k _ A hk ⟨rfl,hc⟩;have w:=(S.fx F4<|by simp).fx F5 (by simp);have X:∀{x:List AV} {y:AV},aN J (y::x)=V y:=λ{x y}=>(by cases y<;>rfl);have N:Fx Y A []:=F4.trans F5;have hz:bM aoB bmK []=V (.a aoB):=rfl;have az:∀{Y':ae},lA Y' 2 1 a1 (H7.map ci)->fS Y' a1=V (iv n):=λg=>(by rw[g.ln,bJ,S.n1]);have af:∀M:Bool,sV (aK 4 A (.p (4,v5) 0 0)<|.a aoB) λs=>rV (vl (V 4) s<|.p (4,v5) 0 0) λt=>aNN (aSq Y P n a1 D ev) s [t,bv I]:=λM=>(by refine stW c5 rfl rfl λs6 F6 b6=>?_;rw[aEa b6 rfl];exact⟨(N.trans F6).mono (by grind [bK.no,bK.old]), .inl rfl⟩);have bi:∀x:Int,(Q (x<0)||Q (x>=(n:Int)))=I->aF n x:=λx H=>(by simp only[cP,apT] at H;exact⟨by omega,by omega⟩);rcases Decidable.em (k<L (a6z i)) with B|B;have hd:Q ((k:Int)<(L (a6z i):Int))=U:=(by grind);rcases h1:Q (gd (a6z i) k<0) with _|_;rcases h2:Q (gd (a6z i) k>=(n:Int)) with _|_;simp only[qz 25,qy 8,au,aI,gT,tf,rk,pz,bh,hd,h1,h2,u0,u1,F,X,aj,az w.g1,↓jA,a7c,↓iC,↓iB,↓uL];refine⟨dJ B,dJ B,dR (mk:=λ(_:Unit) i=>[iv i]) (s:=()) (s':=()) (λ_ _=>rfl) B (by grind [a64]) ⟨rfl,a6p hc<|bi _ ?_⟩⟩;simp_all;simp only[qz 25,qy 8,au,aI,gT,tf,rk,pz,bh,hd,h1,h2,u0,u1,F,X,aj,az w.g1,↓jA,a7c,↓iC,hz,↓uL];exact⟨dJ B,dJ B,af I⟩;simp only[qz 25,qy 8,au,aI,gT,tf,rk,pz,bh,hd,h1,u0,u1,F,X,aj,↓jN,aUw,↓iC,hz,↓uL];exact⟨dJ B,af I⟩;(focus have hd:Q ((k:Int)<(L (a6z i):Int))=I:=(by simp;omega);simp only[qz 25,qy 8,au,aI,gT,hd,↓iB,u0,u1,↓uL];have bj:k=L (a6z i):=(by omega);subst bj;have f:∀r∈a6z i,aF n r:=λr hr=>(by obtain⟨j,hj,rfl⟩:=ou hr;grind [bT]);have ho:i.op=1\/i.op=2\/i.op=3\/i.op=4\/i.op=5:=(by omega);refine bsK (λd=>∀(v:Int) (M:Bool) (tx:AV) (t:List Int),(∃t' o',tx= .l (t.map ci) t' o')->P t->aF n i.a->d [iv v,bv M,tx] A) ?_ λd C=>?_;rintro v M tx t ⟨t',o',rfl⟩ G ay;obtain⟨m,hm⟩:∃m:Nat,i.a=m:=⟨i.a.toNat,by have:=ay.1;omega⟩;have aC:m<n:=(by have:=ay.2;omega);have bU:m<L H7:=(by rw[w.n1];exact aC);have aB:m<L J6:=(by rw[w.n2];exact aC);have bW:=bb _ G;simp only[qz 75,qy 14,aI,au,u0,u1,d2,F,pz,X,aj,nS,hm,↓uL];refine apV (bA:=[]) (e:=3) (z:=1) (new:=t.map ci) (.inl ⟨rfl,rfl⟩) rfl rfl (by decide) (by grind [Fx.len]) (by simp) fF (by simp;omega) λa7 s7 g7 F7 P7=>?_;simp only[dW] at g7;have O:Fx A s7 []:=F7.mono (by simp[aA]);have aQ:∀q∈aA a7,bK A q/\q.1=125:=(by grind [aA]);have W:=w.fx O (by simp);have aZ:=O.kq F;have a3:=O.kq c5;simp only[qz 16,au,↓uL];refine ixG W.g1 (by grind [dJ]) λb1 m1 bd bf=>?_;rw[bh];have bo:b1.1=12:=W.p1 b1 (by grind [aA]);refine aQz (x:=iv v) (r:=[iv<|gd H7 m]) bf (by simp_all [xe,bT]) (by simp) rfl rfl rfl λs8 F8 b8=>?_;have aL:(H7.map ci++m1).set m ([iv<|gd H7 m].set 0<|nrm<|eR s7<|iv v)=(H7.set m v).map ci++m1:=(by rw[List.set_append_left _ _ (by grind),vB];rfl);rw[aL] at b8;have e1:lA s8 2 1 a1 ((H7.set m v).map ci):= .inr ⟨b1,m1,by rw[bd];simp,b8⟩;have e2:=W.g2.fx F8 (by grind [TSt.p2]);have e7:=g7.fx F8 (by grind);have Z:∀{q:Id},q.1≠12->q∉[b1]:=(by grind);have a0:=F8.keep _ _ (Z<|by simp) aZ;have a4:=F8.keep _ _ (Z<|by simp) a3;simp only[qz 18,↓uL];refine ixG e2 (by grind [dJ]) λb2 m2 be bg=>?_;rw[bh];have b0:b2.1=31:=W.p2 b2 (by grind [aA]);refine bfq (r:=[sl ci<|gd J6 m]) bg (by rw[xe (by grind),bj9,eC aB,bT aB];rfl) (by simp) e7 (by grind) λs9 F9 b9=>?_;have ar:(J6.map cl++m2).set m ([sl ci<|gd J6 m].set 0<|.l (t.map ci) I I)=(J6.set m t).map cl++m2:=(by rw[List.set_append_left _ _ (by grind),vB];rfl);rw[ar] at b9;have n2:∀{q:Id},q.1≠125->q.1≠31->q∉aA a7++[b2]:=λh h' e=>(by rcases dF.1 e with e|e;grind;grind);have S9:TSt s9 P n a1 D (H7.set m v) (J6.set m t):=⟨e1.fx F9<|λq o=>n2 (by grind [TSt.p1])<|by grind [TSt.p1], .inr ⟨b2,m2,by rw[be];simp,b9⟩,by simp[w.n1],by simp[w.n2],(by grind [TSt.hP]),W.p1,W.p2⟩;have ax:=F9.keep _ _ (n2 (by simp)<|by simp) a0;have a5:=F9.keep _ _ (by grind) a4;simp only[qz 20,↓uL];refine dT ?_ ?_;simp only[au,nr];simp[eL,lb,m8,dC,dK,bo];simp only[u0,u1,ax,X,J3,aj];refine A0 ax rfl (by simp) λbp aa aT=>?_;have E:∃al,box bp (3,v3)=V ⟨251,4,U,U,[[iv al,a1,D,iv ev]]⟩:=⟨_,aT⟩;obtain⟨al,E⟩:=E;simp only[qz 22,qy 24,aEa E rfl,aY,ck,↓uL];refine stW (aa.kq a5) rfl rfl λb3 aw aU=>?_;rw[aEa aU rfl];refine⟨(((((N.trans O).trans F8).trans F9).trans aa).trans aw).mono λq o=>?_, .inr ⟨al,M,_,_,rfl,(S9.fx aa<|by simp).fx aw<|by simp⟩⟩;simp only[dW,cL,dF,cE] at o;rcases o with((o|o|o)|o)|o;grind [aA];exact .inr ((aQ q o).1.old N).no;grind [aA];grind;subst o;exact .inr (N5.old F4).no;have R:∀{x:Int} {K:AV->cC},aF n x->(∀p y,K p<|iv y)->rV (cz 1 A a1<|iv x) λp=>rV (vl J A p) (K p):=λ{x K} H hK=>(by obtain⟨m,rfl⟩:∃m:Nat,x=m:=⟨x.toNat,by have:=H.1;omega⟩;have hm:m<L H7:=(by have:=H.2;have:=w.n1;omega);exact(SlR.of w.g1).ix1 (i:=m) (c:=iv<|gd H7 m) (by grind [bT]) λp _=>hK p _);have T:∀{x:Int} {K:AV->cC},aF n x->(∀p t,P t->K p (sl ci t))->rV (cz 1 A D<|iv x) λp=>rV (vl J A p) (K p):=λ{x K} H hK=>(by obtain⟨m,rfl⟩:∃m:Nat,x=m:=⟨x.toNat,by have:=H.1;omega⟩;have hm:m<L J6:=(by have:=H.2;have:=w.n2;omega);exact(SlR.of w.g2).ix1 (i:=m) (c:=sl ci<|gd J6 m) (by rw[bj9,eC hm,bT hm];rfl)<|by grind [TSt.hP,ve]);rcases ho with h|h|h|h|h;(all_goals simp only[qz 77,h,bpF,bqF,Int.reduceEq,u0,u1,d2,F,pz,X,aj,↓iC,↓iB,jM,kU,jt,tW,aPg,rr,vp,↓uL]);exact C _ _ _ [] ⟨_,_,rfl⟩ ba (by grind [a6z]);refine R (f _<|by simp[a6z,h]) λp y=>T (f _<|by simp[a6z,h]) λp t G=>C _ _ _ t ⟨_,_,rfl⟩ G (f _<|by simp[a6z,h]);intro x;refine R (f _<|by simp[a6z,h]) λp y=>?_;simp only[tW,aPg];rintro r ⟨u,M,rfl⟩;refine⟨by simp[lo,nA,eB,iR],?_⟩;simp only[oJ,pG,u0];exact T (f _<|by simp[a6z,h]) λp t G=>C _ _ _ t ⟨_,_,rfl⟩ G (f _<|by simp[a6z,h]);intro x;refine R (f _<|by simp[a6z,h]) λp y=>R (f _<|by simp[a6z,h]) λp y'=>?_;simp only[tW,aPg];rintro r ⟨u,M,rfl⟩;refine⟨by simp[lo,nA,eB,iR],?_⟩;simp only[oJ,pG,u0];refine T (f _<|by simp[a6z,h]) λp t G=>T (f _<|by simp[a6z,h]) λp t2 bm=>?_;simp only[alg,aPg];refine⟨by grind,?_⟩;rintro r ⟨t',o',rfl⟩;exact⟨by simp[lo,nA,eB,iR,sl],C _ _ _ (mP t t2) ⟨_,_,rfl⟩ (bc _ _ G bm)<|f _<|by simp[a6z,h]⟩;refine A0 F rfl (by simp) λs6 F6 b6=>?_;have aV:box s6 (3,v3)=V ⟨251,4,U,U,[[iv i.a,a1,D,iv ev]]⟩:=b6;simp only[qz 10,qy 12,aEa aV rfl,aY,↓uL];refine stW (F6.kq c5) rfl rfl λs7 F7 b7=>?_;rw[aEa b7 rfl];refine⟨((N.trans F6).trans F7).mono λq o=>?_, .inr ⟨i.a,U,H7,J6,rfl,(w.fx F6<|by simp).fx F7<|by simp⟩⟩;simp only[dW,dF,cE] at o;rcases o with rfl|rfl;simp_all;exact .inr (N5.old F4).no)
def a7E:dO:=aR3
def a7m:eJ a7E:=aPL
def aTd:=@aPg
section
attribute[local irreducible] aX
def a9H:=I5 26 [(7,([6],[2,3,4]))]
def aVc a b c R:=(.mk _:NS a7E a9H Tryz.f235 [.u, .u] [a,b] c R).p
def bhd{c0:List AV}{b:List AV}{s0:ae}{R:be}(hs:L s0=4096)(l0:L c0=2)(l1:L b=4)(h:HB2 247 2 2 c0 251 4 3 b s0 λd e c=>aVc d e c R):EB 235 [.a c0, .a b] s0 R:=zB2 a9H a7m Tryz.func235 hs l0 l1 h
end
def aOo(Y:ae):AV->AV| .t vs=> .t (vs.map λx=>nrm<|eR Y x)|x=>nrm<|eR Y x
def aNW:AV->List Id| .t vs=>vs.flatMap eB|x=>eB x
def bcr{P:Program}{κ:vg}{w:World}{Y:ae}{β:Id->Nat}{v:Value}{x:AV}(s:Iy P κ w Y β)(h:ba κ w Y β v x):ba κ w (kills Y<|aNW x) β v (aOo Y x):=by cases x with|t vs=>(cases h with|t g h=>refine .t (by grind) λi v c f a=>?_;rw[bj9] at a;cases e:vs[i]? with|none=>simp_all|some y=>rw[e] at a;simp only[df,Option.some.injEq] at a;subst a;exact yo<|xK s (h i v y f e) λb d=>List.mem_flatMap.2 ⟨y,List.mem_of_getElem? e,d⟩)|_=>exact yo (xK s h λb d=>d)
def cZ.frz{P:Program}{G:I7}{fn:FuncId}{xs:List AV}{Y a:ae}{r:AV}(h:cZ P G fn xs Y r a):cZ P G fn xs Y (aOo a r) (kills a<|aNW r):=by refine⟨h.1,λκ w β c s g f=>(h.2 κ w β c s g f).mono ?_⟩;rintro e k ⟨v,d,rfl,i,b,j⟩;exact⟨v,d,rfl,bcr b i,(D1 _ b).2.1,j.trans (D1 _ b).1⟩
def aQR{P:Program}{G:I7}{fn:FuncId}{xs:List AV}{Y:ae}{R Q:be}(h:∃r a,R r a/\cZ P G fn xs Y r a)(d:∀r a,R r a->Q (aOo a r) (kills a<|aNW r)):∃r a,Q r a/\cZ P G fn xs Y r a:=by obtain⟨r,a,b,c⟩:=h;exact⟨_,_,d r a b,c.frz⟩
def a6r{Y:ae}{e:TypeId}{z:Nat}{a:AV}{bA:List (List AV)}(g:lA Y e z a bA):gK (gi Y a)= .l bA I I:=aOb g
def aQX{Y:ae}{e:TypeId}{z:Nat}{a:AV}{bA:List (List AV)}(g:lA Y e z a bA):iR a=aA a:=by rcases g with⟨_,rfl⟩|⟨b,m,rfl,_⟩<;>rfl
section
variable{Y:ae}{P:List Int->Prop}{n:Nat}{d:Nat}{K:be}
def ba0{i:aNZ}{q ev:Int}{a1 f:AV}{H7:List Int}{J6:List (List Int)}(o:L Y=4096)(S:TSt Y P n a1 f H7 J6)(l:1<=i.op/\i.op<=5)(p:n<=1000)(g:P [])(k:∀a b,P a->P b->P (mP a b))(j:∀a,P a->L a<=1000)(m:∀r e,aSq Y P n a1 f ev r e->K r e):cB 267 [.a i.c, .a [iv q,a1,f,iv ev]] Y d K:=by refine jH rfl (bdr o S l p g k j) ?_;intro r e h;exact⟨h.1.len,m r e h⟩
theorem alD{g ev:Int}{f x2:AV}{H7:List Int}{J6:List (List Int)}(m:L Y=4096)(i:SlR Y 1 f<|H7.map ci)(j:SlR Y 1 x2<|J6.map cl)(o:∀q∈aA f,q.1≠1/\q.1≠3)(p:L H7=n)(s:L J6=n)(w:n<=1000)(l:∀t∈J6,P t)(v:∀a,P a->L a<=1000)(k:∀a1 c b,TSt b P n a1 c H7 J6->Fx Y b []->(∀q∈aA a1++aA c,bK Y q)->K (.a [iv g,a1,c,iv ev]) b):cB 266 [.a [iv g,f,x2,iv ev]] Y d K:=by refine jH rfl (a6M m i j o (by omega) (by omega)<|by simp_all) ?_;rintro r b ⟨a1,c,rfl,g1,h,F,p1,u⟩;refine⟨F.len,k a1 c b ⟨g1,h,p,s,l,λq e=>(p1 q e).2,λq e=>(u q e).2⟩ F λq e=>?_⟩;grind
end
def Tn(l:List Int):Prop:=jC l/\∀x∈l,0<=x/\x<1000
theorem Tn.len{l:List Int}(h:Tn l):L l<=1000:=by have key:∀i,i<L l->(i:Int)<=gd l i:=(by intro i;induction i with|zero=>intro a;exact(h.2 _<|ve a).1|succ i c=>intro a;have:=c (by omega);have:=h.1 i a;omega);rcases Nat.eq_zero_or_pos (L l) with b|b;omega;have:=key (L l-1) (by omega);have:=(h.2 _<|ve (l:=l) (k:=L l-1)<|by omega).2;omega
theorem Tn.nil:Tn []:=⟨λi a=>by simp at a,by simp⟩
theorem Tn.one{x:Int}(h:0<=x/\x<1000):Tn [x]:=⟨λi a=>by simp at a,by simpa using h⟩
theorem Tn.put{l:List Int}{x:Int}(h:Tn l)(b:0<=x/\x<1000):Tn (fk l x):=⟨Nz h.1,λy a=>(an1 a).elim (by omega)<|h.2 y⟩
def Tn.fold:∀(a:List Int) {l:List Int},Tn l->(∀x∈a,0<=x/\x<1000)->Tn (a.foldl fk l)|[],_,h,_=>h|x::a,_,h,b=>Tn.fold a (h.put<|b x<|by simp) (by simp_all)
def Tn.un(a b:List Int)(c:Tn a)(e:Tn b):Tn (mP a b):=by simp only[mP,jh,gV];exact Tn.fold b (Tn.fold a Tn.nil c.2) e.2
def ts0:aNQ:=⟨0,[],[],0⟩
def aQG(s s':aNQ):Prop:=(∀t∈s'.J6,Tn t)/\L s'.H7<=1000/\L s'.J6<=1000/\(s'.ac=s.ac\/s'.ac=0)
def bdq{Y:ae}{c:aTo}{s:aNQ}{x1 x2:AV}(hl:L Y=4096)(a7:SlR Y 1 x1<|s.H7.map ci)(a8:SlR Y 1 x2<|s.J6.map cl)(hp:∀q∈aA x1,q.1≠1/\q.1≠3)(p1:c.H7<=1000)(p2:L c.bid<1000000)(p3:L s.H7<1000000)(p4:L s.J6<1000000)(p5:∀t∈s.J6,Tn t):
  ∃r Y1,((∃(j:Bool) (s':aNQ),r= .t [.a s'.c,bv j]/\aQG s s')/\Fx Y Y1 [])/\cZ aS GG 235 [.a c.c, .a [iv s.pc,x1,x2,iv s.ac]] Y r Y1:=by
 generalize hQ:(λ(r:AV) (y:ae)=>(∃(j:Bool) (s':aNQ),aOo y r= .t [.a s'.c,bv j]/\aQG s s')/\Fx Y (kills y<|aNW r) [])=Qq
 refine aQR (R:=Qq) ?_ (by grind)
 refine bhd hl rfl rfl λs4 v2 v3 K4 bG nf2 bI b1 b2=>?_
 have M:Fx Y s4 []:=K4.fx []
 have aw:=M.len.trans hl
 have H1:=a7.fx M (by simp)
 have H2:=a8.fx M (by simp)
 simp only[aVc]
 refine I4 aw λv5 s5 z N5 c5=>?_
 have d1:=z.kq b1
 have d2:=z.kq b2
 have ax:=z.len.trans aw
 have E:∀{x:List AV} {y:AV},aN J (y::x)=V y:=λ{x y}=>by cases y<;>rfl
 have G:∀{a b c d:AV},aN (V 4) [a,b,c,d]=V (.a [a,b,c,d]):=rfl
 have w:Fx Y s5 []:=M.trans z
 have aC:∀{x:ae} {cs:List AV} {s':aNQ} {j:Bool},cs.map (lz x)=s'.c->aQG s s'->Fx Y x []->(∀q∈cs.flatMap iR,∀y,box Y q≠V y)->aNN Qq x [.a cs,bv j]:=λ{x cs s' j} e h F hn=>by
  show Qq (.t [.a cs,bv j]) x
  rw[<-hQ]
  have e1:aOo x (.t [.a cs,bv j])= .t [.a s'.c,bv j]:=by
   show AV.t [nrm<|eR x<|.a cs,bv j]=_
   have:nrm (eR x<|.a cs)= .a (cs.map<|lz x):=by simp only[eR,nrm,vA];rfl
   rw[this,e]
  refine⟨⟨j,s',e1,h⟩,(F.trans<|aOp _ _).mono λq o=> .inr<|hn q ?_⟩
  grind [aNW,eB,iR]
 have n5:∀y,box Y (4,v5)≠V y:=(N5.old M).no
 have g:∀{x:ae} (j:Bool),Fx Y x []->box x (4,v5)=V ⟨251,4,U,U,[aoB]⟩->sV (aK 4 x (.p (4,v5) 0 0)<|.a aoB) λy=>rV (vl (V 4) y<|.p (4,v5) 0 0) λt=>aNN Qq y [t,bv I]:=λ{x} j F hb=>by
  refine stW hb rfl rfl λs6 D b6=>?_
  rw[aEa b6 rfl]
  exact aC (s':=ts0) rfl ⟨by simp[ts0],by simp[ts0],by simp[ts0], .inr rfl⟩ ((F.trans D).mono<|by simp_all) (by simp[iR])
 have X:fS s5 x1=V (iv<|L s.H7):=by rw[(H1.fx z<|by simp).ln,bJ]
 have aB:fS s5 x2=V (iv<|L s.J6):=by rw[(H2.fx z<|by simp).ln,bJ]
 rcases l:Q ((L s.H7:Int)≠c.H7) with _|_
 ·have q1:(L s.H7:Int)=c.H7:=by grind
  rcases C:Q ((L s.J6:Int)≠c.H7) with _|_
  ·have q2:(L s.J6:Int)=c.H7:=by grind
   simp only[qz 6,qy 8,u0,u1,d1,d2,pz,E,X,aB,aj,l,C,↓jA,↓iB,G,↓uL]
   refine alD (P:=Tn) (n:=L s.H7) ax (H1.fx z<|by simp) (H2.fx z<|by simp) hp rfl (by omega) (by omega) p5 (λa h=>h.len) λa1 T s6 S6 D N6=>?_
   simp only[qz 10,qy 12,↓uL]
   have aX:=D.kq d1
   have a0:=D.kq d2
   have aV:=D.kq c5
   refine stW a0 rfl rfl λs7 N b7=>?_
   have aZ:=N.kq aX
   have aW:=N.kq aV
   have S7:=S6.fx N (by simp)
   have a5:=(N.len.trans D.len).trans ax
   refine yV (L c.bid+1) (λk _ x=>∃u H7 J6,Fx Y x []/\L x=4096/\box x (2,v2)=V ⟨247,2,U,U,[c.c]⟩/\box x (3,v3)=V ⟨251,4,U,U,[[iv u,a1,T,iv s.ac]]⟩/\box x (4,v5)=V ⟨251,4,U,U,[aoB]⟩/\TSt x Tn (L s.H7) a1 T H7 J6) ⟨_,_,_,((w.trans D).trans N).mono (by grind),a5,aZ,b7,aW,S7⟩ ?_
   rintro k _ x hk ⟨u,H7,J6,H,az,m1,Z,m3,S⟩
   have kk:∀{y:AV},Q ((k:Int)<=(L c.bid:Int))=U->k<L c.bid+1:=(by grind)
   rcases hx:Q ((k:Int)<=(L c.bid:Int)) with _|_
   ·simp only[qz 43,qy 14,qy 16,qy 34,au,aI,u0,u1,m1,Z,pz,E,aj,hx,↓iB,↓uL]
    exact g I H m3
   have bD:k<=L c.bid:=by grind
   rcases l:Q (u<0) with _|_
   ·rcases C:Q (u>=(L c.bid:Int)) with _|_
    ·have a3:aF (L c.bid) u:=by
      simp only[apT] at l C
      exact⟨by omega,by omega⟩
     simp only[qz 43,qy 14,qy 16,qy 34,au,aI,u0,u1,m1,Z,rk,pz,E,aj,hx,l,C,ixv,↓jA,↓iC,↓iB,↓uL]
     refine⟨a3,anu az λv7 s8 A N8 b8=>?_⟩
     have n1:=A.kq m1
     have n2:=A.kq Z
     have n3:=A.kq m3
     have S8:=S.fx A (by simp)
     have ay:=A.len.trans az
     generalize hI:gd c.bid u.toNat=i at b8⊢
     have ri:aN (V 6) i.c=V (.a i.c):=rfl
     rcases hs:(Q (1<=i.op)&&Q (i.op<=5)) with _|_
     ·simp only[qz 18,qy 20,qy 22,u0,u1,n2,b8,pz,G,aj,ar,aTd,rr,hs,↓iC,↓uL]
      refine stW n3 rfl rfl λs9 B b9=>?_
      simp only[b9,aQd,qh,df,G,aY,↓uL]
      have m:=S8.fx B (by simp)
      exact aC (s':=⟨u,H7,J6,s.ac⟩) (by simp only[ji,mU,aQ5,aOb m.g1,aOb m.g2];rfl) ⟨m.hP,by have:=m.n1;simp only;omega,by have:=m.n2;simp only;omega, .inl rfl⟩ (((H.trans A).trans B).mono<|by grind) (λq o=>by
       have e9:([iv u,a1,T,iv s.ac]:List AV).flatMap iR=aA a1++aA T:=by simp only[Cz,RN,aQX m.g1,aQX m.g2];simp[iR]
       rw[e9] at o
       exact((N6 q o).old w).no)
     have a6:1<=i.op/\i.op<=5:=by grind
     rcases o:Q ((k:Int)=(L c.bid:Int)) with _|_
     ·simp only[qz 18,qy 20,qy 22,u0,u1,n1,n2,b8,pz,G,ri,aj,ar,aTd,rr,hs,o,↓iB,↓uL]
      refine ba0 ay S8 a6 (by omega) Tn.nil Tn.un (λa h=>h.len) λr s9 h9=>?_
      obtain⟨B,h9⟩:=h9
      have bH:∀{b:Id},b.1≠12->b.1≠31->b∉aA a1++aA T:=λl C o=>by
       rcases dF.1 o with h|h
       ·exact l (S.p1 _ h)
       ·exact C (S.p2 _ h)
      have o1:=B.keep _ _ (by grind) n1
      have o2:=B.keep _ _ (by grind) n2
      have o3:=B.keep _ _ (by grind) n3
      have W:=B.len.trans ay
      have O:Fx Y s9 []:=((H.trans A).trans B).mono λq o=> .inr ((N6 q<|by grind).old w).no
      rcases h9 with rfl|⟨ba,j,ap,ab,rfl,m⟩
      ·simp only[qz 24,qy 26,oJ,pG,aY,↓uL]
       refine anu W λbd bb f aO av=>?_
       have q1:=f.kq o1
       have q2:=f.kq o2
       have q3:=f.kq o3
       simp only[qz 28,qy 30,u0,u1,↓iC,↓uL]
       exact g I (O.trans f) q3
      ·simp only[qz 24,qy 26,oJ,pG,aY,↓uL]
       refine anu W λbd bb f aO av=>?_
       have q1:=f.kq o1
       have q2:=f.kq o2
       have q3:=f.kq o3
       have aQ:=m.fx f (by simp)
       cases j with
       |false=>
        simp only[qz 28,qy 30,u0,u1,↓iC,↓uL]
        exact g I (O.trans f) q3
       |true=>
        simp only[qz 28,qy 30,u0,u1,av,G,↓iB,↓uL]
        refine stW q2 rfl rfl λbK v aU=>?_
        simp only[qz 32,au,u0,u1,↓uL]
        have bF:k≠L c.bid:=by grind
        exact dR (mk:=λ(_:Unit) i=>[iv i]) (s:=()) (s':=()) (λ_ _=>rfl) (by omega) (by omega) ⟨ba,ap,ab,((O.trans f).trans v).mono (by grind),(v.len.trans f.len).trans W,v.kq q1,aU,v.kq q3,aQ.fx v<|by simp⟩
     ·simp only[qz 18,qy 20,qy 22,u0,u1,n1,n2,b8,pz,G,aj,ar,aTd,rr,hs,o,↓iB,↓iC,↓uL]
      exact g I (H.trans A) n3
    ·simp only[qz 43,qy 14,qy 16,qy 34,au,aI,u0,u1,m1,Z,pz,E,aj,hx,l,C,↓jA,↓iC,wY,↓uL]
     exact g I H m3
   ·simp only[qz 43,qy 14,qy 16,qy 34,au,aI,u0,u1,m1,Z,pz,E,aj,hx,l,↓jN,aUw,↓iC,↓uL]
    exact g I H m3
  ·simp only[qz 6,qy 8,u0,u1,d1,d2,pz,E,X,aB,aj,l,C,↓jA,↓iC,wY,↓uL]
   exact g I w c5
 ·simp only[qz 6,qy 8,u0,u1,d1,d2,pz,E,X,aj,l,↓jN,aUw,↓iC,G,↓uL]
  exact g I w c5
def baY{Y:ae}{c:aTo}{s:aNQ}{b x2:AV}{d:Nat}{K:be}(g:L Y=4096)(e:SlR Y 1 b<|s.H7.map ci)(f:SlR Y 1 x2<|s.J6.map cl)(h:∀q∈aA b,q.1≠1/\q.1≠3)(p1:c.H7<=1000)(j:L c.bid<1000000)(k:L s.H7<1000000)(l:L s.J6<1000000)(m:∀t∈s.J6,Tn t)(o:∀(i:Bool) (s':aNQ) Y1,aQG s s'->Fx Y Y1 []->K (.t [.a s'.c,bv i]) Y1):cB 235 [.a c.c, .a [iv s.pc,b,x2,iv s.ac]] Y d K:=by refine jH rfl (bdq g e f h p1 j k l m) ?_;grind [Fx.len]
def aYd:dO:=a7E
def a7n:eJ aYd:=a7m
def bcx:=@aTd
section
attribute[local irreducible] aX
def aSz a b R:=(.mk _:NF<|zF GGV aYd atW Tryz.f234 [.u] [a] b<|QDb Tryz.f234 R).p
def bhg{c0:List AV}{s0:ae}{R:be}(hs:L s0=4096)(l0:L c0=7)(h:HB1 124 7 1 c0 s0 λc b=>aSz c b R):EB 234 [.a c0] s0 R:=aTc<|zB1 atW (aQ9 a7n) Tryz.func234 hs l0 h
end
section
variable{ks:List Nat}{l l':List Id}{Y Y' Y1:ae}
theorem aTi{e:TypeId}{z:Nat}{a:AV}{bA:List (List AV)}(g:lA Y e z a bA):∀q∈aA a,∃x,box Y q=V x:=by rcases g with⟨_,rfl⟩|⟨b,m,rfl,h⟩;simp[aA];grind [aA]
theorem aQu{e:TypeId}{z k:Nat}{a:AV}{bA:List (List AV)}(g:lA Y e z a bA)(h:k∈dK a):∃q∈aA a,q.1=k:=by rcases g with⟨_,rfl⟩|⟨b,m,rfl,_⟩;grind [k1l];grind [k1m,aA]
end
def baT{y ev:Int}{A x2:AV}{H7:List Int}{J6:List (List Int)}{Y:ae}{d:Nat}{K:be}(O:L Y=4096)(E:A=sl ci H7)(G:x2=sl cl J6)(B:L H7<=1000)(C:L J6<=1000)(D:∀t∈J6,L t<=1000)(l:List Id)(W:∀p∈l,∃e z a bA,lA Y e z a bA/\p∈aA a)(X:∀p∈l,p.1=12\/p.1=31)(M:∀a1 b Y',lA Y' 2 1 a1 (H7.map ci)->lA Y' 38 1 b (J6.map cl)->Kx [12,31] Y Y'->(∀{e z a bA},lA Y e z a bA->(∀q∈aA a,q∈l)->lA Y' e z a bA)->(∀q∈aA a1,q∉l/\q.1=12)->(∀q∈aA b,q∉l/\q.1=31)->K (.a [iv y,a1,b,iv ev]) Y'):cV 266 [.a [iv y,A,x2,iv ev]] Y d K:=by subst E G;have o:L (bim [12,31] l Y)=4096:=aOr.trans O;have T:∀{l':List Id} {q:Id},q.1=12\/q.1=31->q∈l'->okI [12,31] l' q:=λh H=>⟨by rcases h with h|h<;>simp[h],H⟩;have N:∀{e z a bA},lA Y e z a bA->(∀q∈aA a,q∈l)->lA (bim [12,31] l Y) e z a bA:=(by grind [a6y]);refine aQN rfl rfl l (λx j=>?_) ?_ (a6M o (.inl ⟨_,_,rfl⟩) (.inl ⟨_,_,rfl⟩) (by simp[aA,sl]) B C D) ?_;simp only[cE] at j;subst j;intro c g;simp only[eW,ql,bjf] at g;rcases g with rfl|rfl|rfl|rfl;trivial;exact .inl (by simp[eN]);exact .inl (by simp[eN]);trivial;intro p s x j R;grind [aOV,aNO];rintro r Y1 ⟨a1,b,rfl,g1,m,F,p1,S⟩;have i:L Y1=L Y:=F.len.trans aOr;have v:∀q∈aA a1,okI [12,31] (l++(aA a1++aA b)) q:=(by grind);have w:∀q∈aA b,okI [12,31] (l++(aA a1++aA b)) q:=(by grind);have P:∀q∈l,∃x,box (bim [12,31] l Y) q=V x:=(by grind [aTi,aOV]);refine⟨i,l++(aA a1++aA b),λp s x j R=>?_,λc g=>?_,M a1 b _ (aRR i g1 v) (aRR i m w) Kx.mix (by grind [aRR,lA.fx]) (λq k=>⟨λu=>?_,(p1 q k).2⟩) λq k=>⟨λu=>?_,(S q k).2⟩⟩;grind [Fx.keep,aNO,aOV];simp only[eW,ql,bjf] at g;rcases g with rfl|rfl|rfl|rfl;trivial;exact aQw g1 v;exact aQw m w;trivial;grind [bK.no];grind [bK.no]
def aTn{b:Id}{i j:Nat}:m8 (.p b i j)=[b.1]:=rfl
def a6H{r:List (List AV)}{t o:Bool}:m8 (.l r t o)=[]:=rfl
def bc7{α:Type}{f:α->List AV}{l:List α}:m8 (sl f l)=[]:=rfl
def aWx{Y:ae}{ds:List Nat}{e:TypeId}{z:Nat}{a:AV}{bA:List (List AV)}(g:Gr Y ds e z a bA):lA Y e z a bA/\∀q∈aA a,q.1∈ds:=by rcases g with⟨b,c⟩|⟨d,v,b,c,h⟩;exact⟨.inl ⟨b,c⟩,by grind [aA]⟩;refine⟨.inr ⟨_,[],b,by simpa using h⟩,?_⟩;grind [aA]
def bnf{Y:ae}{x:Int}{o p r:TypeId}{z1 z2 z3 i j m:Nat}{a1 b c:AV}{w y z:List (List AV)}(g1:lA Y o z1 a1 w)(s:lA Y p z2 b y)(t:lA Y r z3 c z)(p1:∀q∈aA a1,q.1=i)(u:∀q∈aA b,q.1=j)(v:∀q∈aA c,q.1=m):∀k∈m8 (.a [a1,iv x,b,c]),k=i\/k=j\/k=m:=λk g=>by
 have e:m8 (.a [a1,iv x,b,c])=dK a1++(dK b++dK c):=by simp[m8,dC,dK]
 rw[e] at g
 simp only[dF] at g
 rcases g with h|h|h
 ·obtain⟨q,d,rfl⟩:=aQu g1 h;exact .inl<|p1 q d
 ·obtain⟨q,d,rfl⟩:=aQu s h;exact .inr<|.inl<|u q d
 ·obtain⟨q,d,rfl⟩:=aQu t h;exact .inr<|.inr<|v q d
def bjx{s:aW}{Y:ae}{d:Nat}{K:be}(z:L Y=4096)(i:L s.ak<100000/\L s.done<100000/\L s.ay<100000/\∀l∈s.ak,L l.bk<1000000)(E:∀a1 b e Y',Kx [10,14,41] Y Y'->lA Y' 184 2 a1 (s.ak.map cg.c)->lA Y' 4 1 b (s.done.map cb)->lA Y' 138 3 e (s.ay.map aoC.c)->(∀q∈aA a1,q.1=41)->(∀q∈aA b,q.1=10)->(∀q∈aA e,q.1=14)->K (.a [a1,iv s.tx,b,e]) Y'):cV 177 [.a s.c] Y d K:=by have m:L (bim [10,14,41] [] Y)=4096:=aOr.trans z;refine aQN rfl rfl [] (λx j=>?_) (by intro p i;simp at i) (aCH s m i) ?_;simp only[cE] at j;subst j;intro c g;simp only[aW.c,eW,ql,bjf] at g;rcases g with rfl|rfl|rfl|rfl;exact .inl (by simp[eN]);trivial;exact .inl (by simp[eN]);exact .inl (by simp[eN]);rintro r Y1 ⟨⟨a1,b,e,rfl,g1,o,t⟩,F⟩;obtain⟨v,M⟩:=aWx g1;obtain⟨w,N⟩:=aWx o;obtain⟨y,O⟩:=aWx t;have k:L Y1=L Y:=F.1.trans aOr;have H:∀{q:Id},q.1=10\/q.1=14\/q.1=41->q∈aA a1++(aA b++aA e)->okI [10,14,41] (aA a1++(aA b++aA e)) q:=λh u=>⟨by rcases h with h|h|h<;>simp[h],u⟩;have A:∀q∈aA a1,okI [10,14,41] (aA a1++(aA b++aA e)) q:=(by grind);have B:∀q∈aA b,okI [10,14,41] (aA a1++(aA b++aA e)) q:=(by grind);have C:∀q∈aA e,okI [10,14,41] (aA a1++(aA b++aA e)) q:=(by grind);refine⟨k,aA a1++(aA b++aA e),λp D x j G=>?_,λc g=>?_,by grind [Kx.mix,aRR]⟩;grind [aNO];simp only[eW,ql,bjf] at g;rcases g with rfl|rfl|rfl|rfl;exact aQw v A;trivial;exact aQw w B;exact aQw y C
def baS{s:aW}{Y:ae}{d:Nat}{K:be}(m:L Y=4096)(o:L s.ak<100000/\L s.done<100000/\L s.ay<100000/\∀l∈s.ak,L l.bk<1000000)(i:∀a1 b e Y',Kx [10,14,41] Y Y'->(∀k∈m8 (.a [a1,iv s.tx,b,e]),k=10\/k=14\/k=41)->K (.a [a1,iv s.tx,b,e]) Y'):cV 177 [.a s.c] Y d K:=bjx m o λa1 b e Y' iq g1 g h p1 p q=>i a1 b e Y' iq λk j=>by have:=bnf g1 g h p1 p q k j;omega
def alx(f:Nat->AV×AV)(ss:List aNQ)(n:Nat):List (List AV):=(aH n).map λk=>[iv (gd ss k).pc,(f k).1,(f k).2,iv (gd ss k).ac]
def G2(vr:Bool)(Y:ae)(a:AV)(t:List<|List Int):Prop:=bif vr then t=er (L t) []/\∃b,a= .m b (L t)/\box Y b=V ⟨38,1,U,U,er (L t) [.l [] U U]⟩ else lA Y 38 1 a (t.map cl)
theorem G2.fx{vr:Bool}{Y Y':ae}{a:AV}{t:List (List Int)}{Lw:List Id}(g:G2 vr Y a t)(F:Fx Y Y' Lw)(h:∀q∈aA a,q∉Lw):G2 vr Y' a t:=by cases vr with|false=>exact lA.fx g F h|true=>obtain⟨c,b,rfl,d⟩:=g;exact⟨c,b,rfl,F.keep _ _ (h b<|by simp[aA]) d⟩
def aWh{Y:ae}{e:TypeId}{z:Nat}{a:AV}{bA:List (List AV)}(g:lA Y e z a bA):rS Y a= .l bA I I:=by rcases g with⟨rfl,rfl⟩|⟨b,m,rfl,c⟩;rfl;simp[rS,aOn,c,gK]
theorem G2.fr{vr:Bool}{Y:ae}{a:AV}{t:List (List Int)}(g:G2 vr Y a t):rS Y a=sl cl t:=by cases vr with|false=>exact aWh g|true=>obtain⟨i,b,rfl,e⟩:=g;have d:(((er (L t) [AV.l [] U U]).take<|L t).all λr=>r.all λc=>eN<|frM Y c)=U:=(by rw[dV];intro r h;rw[(List.mem_replicate.1<|bnL h).2];rfl);simp only[rS,aOn,e,d,aPy,gK];grind [sl,List.map_replicate,frM,gi,gK,cl]
structure TTs(pl:Nat×Nat×Nat)(vr:Bool)(Y:ae)(a:AV)(f:Nat->AV×AV)(ss:List aNQ)(n:Nat):Prop where
 bx:(n=0/\a= .l [] U U)\/∃b,a= .m b n/\b.1=pl.2.2/\box Y b=V ⟨251,4,U,U,alx f ss n⟩
 g1:∀k,k<n->lA Y 2 1 (f k).1 ((gd ss k).H7.map ci)
 g2:∀k,k<n->G2 vr Y (f k).2 (gd ss k).J6
 p1:∀k,k<n->∀q∈aA (f k).1,q.1=pl.1
 p2:∀k,k<n->∀q∈aA (f k).2,q.1=pl.2.1
 d1:∀i j,i<n->j<n->i≠j->∀q∈aA (f i).1,q∉aA (f j).1
 d2:∀i j,i<n->j<n->i≠j->∀q∈aA (f i).2,q∉aA (f j).2
theorem aQ8{f:Nat->AV×AV}{ss:List aNQ}{n:Nat}:L (alx f ss n)=n:=by simp[alx]
def aTy{f:Nat->AV×AV}{ss:List aNQ}{n k:Nat}(h:k<n):(alx f ss n)[k]?=V [iv (gd ss k).pc,(f k).1,(f k).2,iv (gd ss k).ac]:=by simp[alx,bj9,List.getElem?_range h]
def ext(f:Nat->AV×AV)(n:Nat)(x:AV×AV):Nat->AV×AV:=λk=>if k=n then x else f k
theorem be5{f:Nat->AV×AV}{ss:List aNQ}{n:Nat}{x:AV×AV}:alx (ext f n x) ss (n+1)=alx f ss n++[[iv (gd ss n).pc,x.1,x.2,iv (gd ss n).ac]]:=by simp only[alx,qn,dg,ji,mU,ext,aPy];grind [List.map_congr_left]
section
variable{pl:Nat×Nat×Nat}{vr:Bool}{Y Y':ae}{a:AV}{f:Nat->AV×AV}{ss:List aNQ}{n:Nat}
def aPi(f:Nat->AV×AV)(n:Nat):List Id:=(aH n).flatMap λk=>aA (f k).1++aA (f k).2
theorem aXS{q:Id}(h:q∈aPi f n):∃k,k<n/\(q∈aA (f k).1\/q∈aA (f k).2):=by grind [aPi]
theorem aWy{k:Nat}(b:k<n):∀q∈aA (f k).1,q∈aPi f n:=(by grind [aPi])
theorem aWz{k:Nat}(b:k<n):∀q∈aA (f k).2,q∈aPi f n:=(by grind [aPi])
theorem TTs.fx(T:TTs pl vr Y a f ss n){Lw:List Id}(F:Fx Y Y' Lw)(d:∀q∈Lw,q.1≠pl.1/\q.1≠pl.2.1/\q.1≠pl.2.2):TTs pl vr Y' a f ss n:=⟨(by grind [TTs.bx,Fx.keep]),λk b=>(T.g1 k b).fx F λq c h=>(d q h).1<|T.p1 k b q c,λk b=>(T.g2 k b).fx F λq c h=>(by grind [TTs.p2]),T.p1,T.p2,T.d1,T.d2⟩
theorem TTs.ids(T:TTs pl vr Y a f ss n):∀q∈aA a,q.1=pl.2.2:=by rcases T.bx with⟨_,rfl⟩|⟨b,rfl,h,_⟩;simp[aA];grind [aA]
theorem TTs.ce(T:TTs pl vr Y a f ss n):eY a=V [a]:=by rcases T.bx with⟨_,rfl⟩|⟨b,rfl,h,_⟩<;>rfl
theorem a7Q{r ev:Int}{p x2:AV}{o d by':Nat}{zs z0:List AV}{K:AV->be}(T:TTs pl vr Y a f ss n)(hz:L zs=4)(A:L z0=4)(G:o<L Y)(O:d=pl.2.2)(al:d<L Y)(h3:pl.2.2≠pl.1/\pl.2.2≠pl.2.1)(hb:(n+1)*(by'+1)<=1099511627776)(R:r=(gd ss n).pc)(P:ev=(gd ss n).ac)(g1:lA Y 2 1 p<|(gd ss n).H7.map ci)(Z:G2 vr Y x2 (gd ss n).J6)(p1:∀q∈aA p,q∉aPi f n/\q.1=pl.1)(D:∀q∈aA x2,q∉aPi f n/\q.1=pl.2.1)(hK:∀y M Y',(∃v,y= .m (o,v) 1)->TTs pl vr Y' M (ext f n (p,x2)) ss (n+1)->Fx Y Y' (aA a)->(∀q∈aA M,∀x,box Y q≠V x)->K y M Y'):eV (lvS 251 zs 1 Y o [(0, .a [iv r,p,x2,iv ev])]) λy s=>eV (avA 251 z0 by' s d a y) (K y):=by subst R P;have h1:lvS 251 zs 1 Y o [(0, .a [iv (gd ss n).pc,p,x2,iv (gd ss n).ac])]=V (.m (zt Y o) 1,put Y o ⟨251,L zs,U,U,[[iv (gd ss n).pc,p,x2,iv (gd ss n).ac]]⟩):=(by grind [lvS,eY,aRI]);rw[h1];show eV (avA 251 z0 by' (put Y o _) d a<|.m (zt Y o) 1)<|K<|.m (zt Y o) 1;have u:Fx Y (put Y o ⟨251,L zs,U,U,[[iv (gd ss n).pc,p,x2,iv (gd ss n).ac]]⟩) []:=kH G;have N:=be7 (x:=(⟨251,L zs,U,U,[[iv (gd ss n).pc,p,x2,iv (gd ss n).ac]]⟩:bY)) G;generalize put Y o ⟨251,L zs,U,U,[[iv (gd ss n).pc,p,x2,iv (gd ss n).ac]]⟩=B at*;have X:=T.fx u (by simp);have am:=u.len;have S:aEx U B (.m (zt Y o) 1)=V [[iv (gd ss n).pc,p,x2,iv (gd ss n).ac]]:=(by simp[aEx,N]);have mk:∀(C:ae) (b:Id),b.1=pl.2.2->(∀x,box Y b≠V x)->Fx Y C (aA a)->box C b=V ⟨251,4,U,U,alx f ss n++[[iv (gd ss n).pc,p,x2,iv (gd ss n).ac]]⟩->K (.m (zt Y o) 1) (.m b<|n+1) C:=λC b ak hn F W=>(by have H:∀q∈aA a,q.1≠pl.1/\q.1≠pl.2.1:=λq g=>(by grind [TTs.ids]);refine hK _ _ C ⟨_,rfl⟩ ⟨(by grind [be5]),λk z=>?_,λk z=>?_,λk z=>?_,λk z=>?_,λi j hi hj t=>?_,λi j hi hj t=>?_⟩ F λq g=>?_;by_cases e:k=n;subst e;simp only[ext,aPy];grind [lA.fx];simp only[ext,lC e];exact(T.g1 k<|by omega).fx F λq g h=>(H q h).1 (T.p1 k (by omega) q g);by_cases e:k=n;subst e;simp only[ext,aPy];grind [G2.fx];simp only[ext,lC e];exact(T.g2 k<|by omega).fx F λq g h=>(H q h).2 (T.p2 k (by omega) q g);by_cases e:k=n;subst e;simp only[ext,aPy];grind;simp only[ext,lC e];exact T.p1 k (by omega);by_cases e:k=n;subst e;simp only[ext,aPy];grind;simp only[ext,lC e];exact T.p2 k (by omega);intro q g c;by_cases e:i=n;subst e;simp only[ext,aPy,lC<|Sa t] at g c;exact(p1 q g).1 (aWy (by omega) q c);by_cases w:j=n;subst w;simp only[ext,aPy,lC e] at g c;exact(p1 q c).1 (aWy (by omega) q g);simp only[ext,lC e,lC w] at g c;exact T.d1 i j (by omega) (by omega) t q g c;intro q g c;by_cases e:i=n;subst e;simp only[ext,aPy,lC<|Sa t] at g c;exact(D q g).1 (aWz (by omega) q c);by_cases w:j=n;subst w;simp only[ext,aPy,lC e] at g c;exact(D q c).1 (aWz (by omega) q g);simp only[ext,lC e,lC w] at g c;exact T.d2 i j (by omega) (by omega) t q g c;grind [aA]);unfold avA;rw[S];simp only[bZ,aO1];rw[lC (by decide),lD ⟨by omega,by simp[aRI];omega,by simp[A]⟩];rcases X.bx with⟨h0,rfl⟩|⟨b,rfl,ah,E⟩;subst h0;simp only;rw[lD ⟨by simp,by grind [lx]⟩];refine mk _ (zt B d) O (λx W=>(qQ B d).no x<|u.kq W) ((u.trans<|kH<|by omega).mono<|by simp) ?_;rw[<-A];exact be7 (by omega);simp only[E];rw[lD ⟨trivial,trivial,A.symm,by simp[aQ8],by grind [lx]⟩];have z:d<L (kill B b):=(by rw[yg];omega);refine mk _ (zt B d) O (by grind [bK.no,qQ,Fx.keep]) (((u.trans<|Le E).trans<|kH z).mono<|by simp[aA]) ?_;grind [anF,aQ8,be7]
end
def TTs.fz{pl:Nat×Nat×Nat}{vr:Bool}{Y:ae}{a:AV}{f:Nat->AV×AV}{ss:List aNQ}(T:TTs pl vr Y a f ss<|L ss):fz Y a=sl aNQ.c ss:=by rcases T.bx with⟨m,rfl⟩|⟨b,rfl,_,p⟩;have:=List.length_eq_zero_iff.1 m;subst this;rfl;have h:(alx f ss<|L ss).map (·.map (rS Y))=ss.map aNQ.c:=(by refine aqI λk=>?_;rcases jj k (L ss) with d|d;rw[bj9,aTy d,bj9,eC d];have i:=aWh<|T.g1 k d;have j:=(T.g2 k d).fr;simp only[df,ji,mU,i,j,bT d];rfl;grind [aQ8]);have e:(alx f ss<|L ss).take (L ss)=alx f ss (L ss):=(by grind [aQ8]);have o:((alx f ss<|L ss).all λr=>r.all λc=>eN<|rS Y c)=U:=(by rw[dV];intro r q;rw[dV];intro c t;have g:=CA (f:=(·.map (rS Y))) q;rw[h] at g;obtain⟨s,_,hs⟩:=dN.1 g;grind [CA,aNQ.c,eN,sl]);simp only[Ab.fz,dQ,p,e,o,aPy,h];rw[lC<|by decide];rfl
theorem Kx.fx{ks:List Nat}{Y Y' b:ae}{Lw:List Id}(k:Kx ks Y Y')(F:Fx Y' b Lw)(h:∀q∈Lw,q.1∈ks\/∀x,box Y q≠V x):Kx ks Y b:=⟨F.len.trans k.len,by grind [Fx.keep,Kx.keep]⟩
theorem Kx.kx{ks ks':List Nat}{Y Y' b:ae}(k:Kx ks Y Y')(c:Kx ks' Y' b)(h:∀n∈ks',n∈ks):Kx ks Y b:=⟨c.len.trans k.len,by grind [Kx.keep]⟩
theorem Kx.no{ks:List Nat}{Y Y':ae}{b:Id}(k:Kx ks Y Y')(c:b.1∉ks)(h:∀x,box Y' b≠V x):∀x,box Y b≠V x:=(by grind [Kx.keep])
def a79(Y:ae)(s:atC)(r:AV)(Y1:ae):Prop:=∃a1 d e c b a f,r= .a [a1,iv s.bW.tx,d,e,c,b,a]/\(∀k∈m8 (.a [a1,iv s.bW.tx,d,e]),k=10\/k=14\/k=41)/\lA Y1 2 1 c (s.cells.map ci)/\lA Y1 2 1 b (s.bU.map ci)/\TTs (12,31,33) I Y1 a f s.ay (L s.ay)/\Kx [10,12,14,31,41] Y Y1/\(∀q∈aA c,q.1=11/\∀x,box Y q≠V x)/\(∀q∈aA b,q.1=15/\∀x,box Y q≠V x)/\∀q∈aA a,∀x,box Y q≠V x
def bds{s:atC}{Y:ae}(hl:L Y=4096)(h1:L s.bW.ak<100000/\L s.bW.done<100000/\L s.bW.ay<100000/\∀l∈s.bW.ak,L l.bk<1000000)(h2:L s.cells<=1000)(K:L s.bU<=1000)(h4:L s.ay<=1000)(h5:∀t∈s.ay,L t.H7<=1000/\L t.J6<=1000/\∀x∈t.J6,L x<=1000):∃r Y1,a79 Y s r Y1/\cZ aS GG 234 [.a s.c] Y r Y1:=by refine bhg hl rfl λs2 v1 K2 cc nf b1=>?_;have F2:Fx Y s2 []:=K2.fx [];have ah:=F2.len.trans hl;simp only[aSz];refine I4 ah λv2 s3 F3 N3 b3=>?_;have c1:=F3.kq b1;have al:=F3.len.trans ah;have k1:∀{x:List AV} {y:AV},aN J (y::x)=V y:=λ{x y}=>(by cases y<;>rfl);have k7:=@r7A;simp only[qz 4,qy 6,u0,u1,c1,pz,aj,↓uL];refine baS al h1 λa1 D E s8 W bg=>?_;have bj:=W.len.trans al;have af:=W.kq c1;have a0:=W.kq b3;simp only[nS,bQ,qz 8,qy 10,u0,u1,af,pz,aj,↓uL];refine apV (bA:=[]) (e:=2) (z:=1) (new:=s.cells.map ci) (.inl ⟨rfl,rfl⟩) rfl rfl (by decide) (by omega) (by simp) fF (by simp;omega) λB s9 X F9 P9=>?_;simp only[dW] at X;have A:Fx s8 s9 []:=F9.mono (by simp[aA]);have ab:∀q∈aA B,bK s8 q/\q.1=11:=(by grind [aA]);have bl:=A.len.trans bj;have ag:=A.kq af;have a6:=A.kq a0;simp only[qz 12,u0,u1,ag,pz,aj,↓uL];refine apV (bA:=[]) (e:=2) (z:=1) (new:=s.bU.map ci) (.inl ⟨rfl,rfl⟩) rfl rfl (by decide) (by omega) (by simp) fF (by simp;omega) λC ap Z aP cb=>?_;simp only[dW] at Z;have o:Fx s9 ap []:=aP.mono (by simp[aA]);have F:∀q∈aA C,bK s9 q/\q.1=15:=(by grind [aA]);have M:=o.len.trans bl;have aC:=o.kq ag;have az:=o.kq a6;have a8:=X.fx o (by simp);have be:bM aOO aon [(0, .a [a1,iv s.bW.tx,D,E]),(1,B),(2,C)]=V (.a [a1,iv s.bW.tx,D,E,B,C, .l [] U U]):=(by rcases X with⟨_,rfl⟩|⟨q4,m4,rfl,_⟩<;>rcases Z with⟨_,rfl⟩|⟨q5,m5,rfl,_⟩<;>rfl);simp only[qz 14,qy 16,be,aY];refine I4 M λv3 b7 aq aR ax=>?_;refine stW ax rfl rfl λbq ar aW=>?_;have w:Fx ap bq []:=(aq.trans ar).mono (by grind [bK.no]);have aD:=w.kq aC;have aB:=w.kq az;have aE:=a8.fx w (by simp);have aF:=Z.fx w (by simp);have aK:=w.len.trans M;have X3:Kx [10,12,14,31,41] Y s3:=((F2.trans F3).kx<|by simp);have H:=X3.kx W (by simp);have ad:=(H.fx A<|by simp).fx o (by simp);have aU:=ad.fx w (by simp);have an:∀{q:Id},q∈aA B->q.1=11/\∀x,box Y q≠V x:=λ{q} d=>⟨(ab q d).2,H.no (by grind) (ab q d).1.no⟩;have ao:∀{q:Id},q∈aA C->q.1=15/\∀x,box Y q≠V x:=λ{q} d=>⟨(F q d).2,(H.fx A<|by simp).no (by grind) (F q d).1.no⟩;have cf:∀x,box Y (3,v3)≠V x:=ad.no (by simp) aR.no;have cd:∀x,box Y (2,v2)≠V x:=(F2.kx (ks:=[])<|by simp).no (by simp) N3.no;simp only[qz 18];refine dT ?_ ?_;have h4:3∉m8 B:=λh=>(by rcases SlR.keys (P:=λp=>p=11) (.of X) (by grind) with e|⟨p,e,e'⟩<;>rw[e] at h<;>simp at h;omega);have h5:3∉m8 C:=λh=>(by rcases SlR.keys (P:=λp=>p=15) (.of Z) (by grind) with e|⟨p,e,e'⟩<;>rw[e] at h<;>simp at h;omega);have h0:3∉m8 (.a [a1,iv s.bW.tx,D,E]):=(by grind);generalize AV.a [a1,iv s.bW.tx,D,E]=b0 at h0⊢;simp[eL,lb,Cz,aTn,a6H,bc7];grind;refine yV (L s.ay) (λk _ x=>∃a f,L x=4096/\box x (1,v1)=V ⟨124,7,U,U,[s.c]⟩/\box x (2,v2)=V ⟨124,7,U,U,[aOO]⟩/\box x (3,v3)=V ⟨124,7,U,U,[[a1,iv s.bW.tx,D,E,B,C,a]]⟩/\lA x 2 1 B (s.cells.map ci)/\lA x 2 1 C (s.bU.map ci)/\TTs (12,31,33) I x a f s.ay k/\Kx [10,12,14,31,41] Y x/\∀q∈aA a,∀y,box Y q≠V y) ⟨.l [] U U,λ_=>(.u, .u),aK,aD,aB,aW,aE,aF,⟨.inl ⟨rfl,rfl⟩,by simp,by simp,by simp,by simp,by simp,by simp⟩,aU,by simp[aA]⟩ ?_;rintro k _ x hk ⟨a,f,am,m1,m2,m3,ga,gb,T,iq,na⟩;simp only[qz 25,qy 28,au,aI,u0,u1,m1,m3,rk,pz,k1,k7,aj,ixv,bh,↓uL];refine⟨λh=>?_,λh=>?_⟩;have N:=aL h;refine⟨dJ N,?_⟩;obtain⟨q1,q2,q3⟩:=h5 _<|ve N;show cV 266 [.a [iv (gd s.ay k).pc,sl ci (gd s.ay k).H7,sl cl (gd s.ay k).J6,iv (gd s.ay k).ac]] _ _ _;refine baT am rfl rfl q1 q2 q3 (aPi f k) (λp hp=>?_) (λp hp=>?_) λS x2 y G1 aa Y R P1 P2=>?_;obtain⟨j,m,h|h⟩:=aXS hp;exact⟨_,_,_,_,T.g1 j m,h⟩;exact⟨_,_,_,_,T.g2 j m,h⟩;obtain⟨j,m,h|h⟩:=aXS hp;exact .inl<|T.p1 j m p h;exact .inr<|T.p2 j m p h;have Ty:TTs (12,31,33) I y a f s.ay k:=⟨T.bx.elim .inl λ⟨b,h1,h2,K⟩=> .inr ⟨b,h1,h2,Y.keep _ _ (by simp[h2]) K⟩,λj m=>R (T.g1 j m)<|aWy m,λj m=>R (T.g2 j m)<|aWz m,T.p1,T.p2,T.d1,T.d2⟩;have bm:=Y.len.trans am;have o1:=Y.kq m1;have o2:=Y.kq m2;have o3:=Y.kq m3;have ba:=Y.gr ga λq d=>(by simp[(an d).1]);have bc:=Y.gr gb λq d=>(by simp[(ao d).1]);have Xy:=iq.kx Y (by simp);simp only[qz 20,qy 22];refine a7Q Ty rfl rfl (by omega) rfl (by omega) (by decide) (by omega) rfl rfl G1 aa P1 P2 λz a' br hz G g aT=>?_;obtain⟨vz,rfl⟩:=hz;have bY:∀q∈aA a,q.1=33:=T.ids;have o4:=g.keep _ _ (by grind) o3;simp only[qz 24,u0,u1,o4,aj,↓uL];refine A0 o4 G.ce (by simp) λcg v aZ=>?_;simp only[qz 26,↓uL];refine dT ?_ ?_;have hx:∀j∈m8 (.a [iv (gd s.ay k).pc,S,x2,iv (gd s.ay k).ac]),j=12\/j=31:=λj m=>(by have e:m8 (.a [iv (gd s.ay k).pc,S,x2,iv (gd s.ay k).ac])=dK S++dK x2:=(by simp[m8,dC,dK]);rw[e] at m;rcases dF.1 m with h|h;obtain⟨q,d,rfl⟩:=aQu G1 h;grind;obtain⟨q,d,rfl⟩:=aQu aa h;grind);have K:3∉m8 (.a [iv (gd s.ay k).pc,S,x2,iv (gd s.ay k).ac]):=(by grind);generalize AV.a [iv (gd s.ay k).pc,S,x2,iv (gd s.ay k).ac]=b0 at K⊢;simp[eL,lb,Cz,aTn,K];simp only[au,u0,u1];have O:∀{b:Id},b.1≠33->b∉aA a:=(by grind);refine dR (mk:=λ(_:Unit) i=>[iv i]) (s:=()) (s':=()) (λ_ _=>rfl) N (by omega) ⟨a',_,(v.len.trans g.len).trans bm,v.kq<|g.keep _ _ (O<|by simp) o1,v.kq<|g.keep _ _ (O<|by simp) o2,aZ,(ba.fx g<|by grind).fx v λq d e=>?_,(bc.fx g<|by grind).fx v λq d e=>?_,G.fx v (by simp),(Xy.fx g<|by grind).fx v λq d=> .inr (by simp at d;grind),λq d=>Xy.no (by rw[G.ids q d];decide)<|aT q d⟩;simp at e;grind;simp at e;grind;have bf:k=L s.ay:=(by grind);subst bf;refine stW m2 rfl rfl λbr g aX=>?_;simp only[aX,aQd,qh,df,k7,aY];refine⟨a1,D,E,B,C,a,f,rfl,bg,ga.fx g λq d e=>?_,gb.fx g λq d e=>?_,T.fx g (by simp),(by grind [Kx.fx]),λq d=>an d,λq d=>ao d,na⟩;grind;grind
def a7F:dO:=aYd
def aX6:eJ a7F:=a7n
def aWl:=@bcx
section
attribute[local irreducible] aX
def a9M:=I5 14 [(6,([5],[2,3]))]
def a38 a b c R:=(.mk _:NR a7F a9M Tryz.f263 [.u, .u] [a,b] c R).p
def bhl{c0:List AV}{b:List AV}{R:cC}(l0:L c0=7)(l1:L b=7)(h:H2 129 7 2 c0 124 7 3 b λia c d=>a38 ia c d R):Ct 263 [.a c0, .a b] R:=z2 a9M aX6 Tryz.func263 l0 l1 h
def a9L:=I5 24 [(7,([4],[1,2,3])),(13,([5],[1,2,3])),(19,([6],[1,2,3]))]
def a3D a b R:=(.mk _:NR a7F a9L Tryz.f121 [.u] [a] b R).p
def bhj{c0:List AV}{R:cC}(l0:L c0=7)(h:H1 129 7 1 c0 λia b=>a3D ia b R):Ct 121 [.a c0] R:=z1 a9L aX6 Tryz.func121 l0 h
end
def aYu(c:aTo)(s:aNQ):Prop:=aF (L c.bid) s.pc/\(L s.H7:Int)=c.H7/\(L s.J6:Int)=c.H7
def aSm(c:aBY)(s:atC):Prop:=aPU c/\lh c.aQ s.bW=U/\L s.cells=L c.aQ.cells/\L s.bU=L c.aQ.bU/\L s.ay=L c.ay/\∀k,k<L c.ay->aYu (gd c.ay k) (gd s.ay k)
def aP4{w:J9}(h:mQ w=U):L w.cells<=12/\L w.ak<=4/\L w.bC<=2/\L w.bU<=2/\L w.ay<=4/\L w.dU<=60:=by grind [mQ,wJ]
def aXu(c:aBY)(s:atC)(E:aOc c/\L c.aQ.bC<4611686018427387904):Ct 263 [.a c.c, .a s.c] (λr=>∃b,r=bv b/\(b=U->aSm c s)):=by obtain⟨m,n⟩:=E;refine bhl rfl rfl λK D f g O=>?_;simp+contextual only[a38,u0,u1,f,g,pz,aj,ar,Fa,aWl,rr,aTv,aPA,eE,aO5,aNK,m,n,↓uL];intro b B h;simp only[cP,fK,apT,aNS,Int.ofNat_inj,brR] at h;obtain⟨⟨⟨⟨g1,w⟩,y⟩,z⟩,A⟩:=h;have o:=B g1;have M:L c.ay<1000:=m.1;refine yV (L c.ay) (λk _ x=>Fx K x []/\∀j,j<k->aYu (gd c.ay j) (gd s.ay j)) ⟨Fx.refl _ _,by simp⟩ ?_;rintro k _ x P ⟨F,hI⟩;have l:=F.kq f;have t:=F.kq g;have p:=F.len.trans D;simp only[qz 37,qy 6,aI,au,u0,u1,l,t,rk,pz,aj,ixv,bh,aPA,↓uL];refine⟨λh=>?_,λh _=>⟨o,w,y,z,A,λj C=>hI j<|Nat.lt_of_lt_of_le C<|bw h⟩⟩;have d:=aL h;refine⟨dJ (by omega),anu p λv x2 e N q=>?_⟩;have u:=e.kq l;simp+contextual only[qz 8,au,u0,u1,u,q,rk,pz,ixv,aj,bh,dJ d,aPA,eE,aO5,aNK,vp,↓uL];intro h;simp only[cP,apT,aNS,brR] at h;obtain⟨⟨⟨R,S⟩,G⟩,H⟩:=h;exact dR (mk:=λ(_:Unit) i=>[iv i]) (s:=()) (s':=()) (λ_ _=>rfl) d (by omega) ⟨F.trans e,a6p hI ⟨⟨by omega,by omega⟩,G,H⟩⟩
def aUl:FT:=pn aXu
def bcc{c s Lw K}:=f211 aUl aXu c s Lw K (j:=by simp+contextual only[ij,ijv])
def ThB(k:Nat)(s:aNQ):Prop:=L s.H7<=1000/\L s.J6<=1000/\(∀t∈s.J6,Tn t)/\0<=s.ac/\s.ac<=k
def a68{α:Type}{n:Nat}{x y:α}(h:y∈er n x):y=x:=(by simp_all)
structure StB(k:Nat)(s:atC):Prop where
 sy:jX k s.bW
 ce:L s.cells<=12
 fu:L s.bU<=2
 tl:L s.ay<=4
 th:∀t∈s.ay,ThB k t
structure SJ(x:ae)(v2:Nat)(c:aBY)(a1 a2 a3:AV):Prop where
 hl:L x=4096
 b1:box x (1,1)=V ⟨129,7,U,U,[c.c]⟩
 b2:box x (2,v2)=V ⟨124,7,U,U,[aOO]⟩
 g1:lA x 184 2 a1 ((er (L c.aQ.ak) (⟨-1,[]⟩:cg)).map cg.c)
 g2:lA x 4 1 a2 ((er (L c.aQ.bU) I).map cb)
 g3:lA x 138 3 a3 ((qZ<|L c.aQ.ay).map aoC.c)
 ids:∀q∈aA a1++(aA a2++aA a3),q.1=13
theorem SJ.fx{x y:ae}{e:Nat}{c:aBY}{a1 a b:AV}{Lw:List Id}(S:SJ x e c a1 a b)(F:Fx x y Lw)(f:∀q∈Lw,q.1≠1/\q.1≠2/\q.1≠13):SJ y e c a1 a b:=⟨F.len.trans S.hl,(by grind [Fx.keep,SJ.b1]),(by grind [Fx.keep,SJ.b2]),S.g1.fx F λq d h=>(by grind [SJ.ids]),S.g2.fx F λq d h=>(by grind [SJ.ids]),S.g3.fx F λq d h=>(by grind [SJ.ids]),S.ids⟩
def aPn(c:aTo):aNQ:=⟨0,er c.H7.toNat 0,er c.H7.toNat [],0⟩
def aTA(w:J9):aW:=⟨er (L w.ak) ⟨-1,[]⟩,-1,er (L w.bU) I,qZ<|L w.ay⟩
def aPK(c:aBY):atC:=⟨aTA c.aQ,c.aQ.cells.map (·.init),er (L c.aQ.bU) 0,c.ay.map aPn⟩
theorem bfv{c:aBY}(d:aPU c):StB 0 (aPK c):=by obtain⟨g,h,b⟩:=d;have hs:=aP4 g;refine⟨⟨by simp[aPK,aTA];omega,by simp[aPK,aTA];omega,by simp[aPK,aTA,qZ];omega,λl f=>by rw[a68 f];simp⟩,by simp[aPK];omega,by simp[aPK];omega,by simp[aPK];omega,λt a=>?_⟩;simp only[aPK,dN] at a;obtain⟨k,e,rfl⟩:=a;obtain⟨i,j,_⟩:=b k e;refine⟨by simp[aPn];omega,by simp[aPn];omega,λt a=>?_,by simp[aPn],by simp[aPn]⟩;rw[a68 a];exact Tn.nil
def aXs(c:aBY)(hp:aPU c/\aOc c):Ct 121 [.a c.c] (λr=>∃s:atC,r= .a s.c/\StB 0 s):=by obtain⟨hc,hb⟩:=hp;have bG:=aP4 hc.1;have bD:=hb.1;generalize hQ:(λ(r:AV)=>∃s:atC,r= .a s.c/\StB 0 s)=Qq;refine aDq (bhj rfl λs2 E P h0=>?_);simp only[a3D];refine I4 E λv2 s3 F3 N3 b3=>?_;have c1:=F3.kq P;have ba:=F3.len.trans E;have k1:∀{x:List AV} {y:AV},aN J (y::x)=V y:=λ{x y}=>(by cases y<;>rfl);have k7:=@r7A;have hz:bM aOO aon []=V (.a aOO):=rfl;simp only[qz 4,qy 6,u0,u1,c1,pz,aj,ar,Fa,aWl,rr,aTv,↓uL];refine⟨hb,λb bC=>⟨λh=>?_,λh=>?_⟩⟩;simp only[hz,aY];refine stW b3 rfl rfl λs4 F4 b4=>?_;simp only[b4,aQd,qh,df,k7,aY];refine aOv (v':= .a<|atC.c ⟨⟨[],0,[],[]⟩,[],[],[]⟩) rfl rfl ?_;rw[<-hQ];exact⟨_,rfl,⟨by simp,by simp,by simp,by simp⟩,by simp,by simp,by simp,by simp⟩;refine a57 (by omega) (by omega) (by omega) (by omega) λa1 B C s4 g1 g2 g3 F4 P4=>?_;have S4:SJ s4 v2 c a1 B C:=⟨F4.len.trans ba,F4.kq c1,F4.kq b3,g1.p,g2.p,g3.p,λq d=>(P4 q d).2⟩;have a4:bM aOO aon [(0, .a [a1,iv<|-1,B,C])]=V (.a [a1,iv<|-1,B,C, .l [] U U, .l [] U U, .l [] U U]):=rfl;simp only[qz 8,qy 10,qy 12,a4,aY];refine anu S4.hl λv3 s5 F5 N5 b5=>?_;have S5:=S4.fx F5 (by simp);have a5:∀{x:ae} {y:Int},aX yW 1 x [(0,iv y)]=V (.l ([y].map ci) U U,x):=λ{x y}=>iz;refine yV (L c.aQ.cells) (λk _ x=>∃a,SJ x v2 c a1 B C/\box x (3,v3)=V ⟨124,7,U,U,[[a1,iv<|-1,B,C,a, .l [] U U, .l [] U U]]⟩/\lA x 2 1 a (((c.aQ.cells.take k).map (·.init)).map ci)/\∀q∈aA a,q.1=33) ⟨_,S5,b5, .inl ⟨by simp,rfl⟩,by simp[aA]⟩ ?_;rintro k _ x hk ⟨a,S,A,D,pa⟩;have m1:=S.b1;simp only[qz 43,qy 14,au,aI,u0,u1,m1,A,rk,pz,k1,ix,aj,bh,a5,↓uL];refine⟨λh=>?_,λh=>?_⟩;have g:=aL h;refine⟨dJ g,?_⟩;refine apQ D S.hl fF fF (by simp) (by simp;omega) λa' s6 W v P6=>?_;have H:=S.fx v (λq d=>by have:=pa q d;omega);have G:=v.keep _ _ (λd=>by have:=pa _ d;simp at this) A;simp only[qz 16,u0,u1,G,aj,↓uL];refine A0 G W.p.ce (by simp) λs7 w R=>?_;simp only[qz 18,↓uL];refine dT (by simp[eL,lb,m8,dC,dK]) ?_;simp only[au,u0,u1];refine dR (mk:=λ(_:Unit) i=>[iv i]) (s:=()) (s':=()) (λ_ _=>rfl) g (by omega) ⟨a',H.fx w (by simp),R,?_,λq d=>(P6 q d).2⟩;rw[iJ g,<-bT g,dg,dg];exact W.p.fx w (by grind);have F:k=L c.aQ.cells:=(by grind);subst F;rw[gV] at D;clear m1;refine yV (L c.aQ.bU) (λk _ x=>∃N,SJ x v2 c a1 B C/\box x (3,v3)=V ⟨124,7,U,U,[[a1,iv<|-1,B,C,a,N, .l [] U U]]⟩/\lA x 2 1 a ((c.aQ.cells.map (·.init)).map ci)/\lA x 2 1 N ((er k (0:Int)).map ci)/\∀q∈aA N,q.1=46) ⟨_,S,A,D, .inl ⟨by simp,rfl⟩,by simp[aA]⟩ ?_;rintro k _ x hk ⟨N,S,A,D,X,pb⟩;have m1:=S.b1;have a0:∀{x:ae},aX yW 1 x [(0,iv 0)]=V (.l ([(0:Int)].map ci) U U,x):=λ{x}=>iz;simp only[qz 79,qy 20,au,aI,u0,u1,m1,A,pz,k1,aj,a0,↓uL];refine⟨λh=>?_,λh=>?_⟩;have g:=aL h;refine apQ X S.hl fF fF (by simp) (by simp;omega) λa' s6 W v P6=>?_;have H:=S.fx v (λq d=>by have:=pb q d;omega);have G:=v.keep _ _ (λd=>by have:=pb _ d;simp at this) A;simp only[qz 22,u0,u1,G,aj,↓uL];refine A0 G W.p.ce (by simp) λs7 w R=>?_;simp only[qz 24,au,u0,u1,↓uL];refine dR (mk:=λ(_:Unit) i=>[iv i]) (s:=()) (s':=()) (λ_ _=>rfl) g (by omega) ⟨a',H.fx w (by simp),R,(D.fx v<|by grind).fx w (by grind),?_,λq d=>(P6 q d).2⟩;rw[List.replicate_succ',dg];exact W.p.fx w (by grind);have F:k=L c.aQ.bU:=(by grind);subst F;clear m1;refine yV (L c.ay) (λk _ x=>∃t f,SJ x v2 c a1 B C/\box x (3,v3)=V ⟨124,7,U,U,[[a1,iv<|-1,B,C,a,N,t]]⟩/\lA x 2 1 a ((c.aQ.cells.map (·.init)).map ci)/\lA x 2 1 N ((er (L c.aQ.bU) (0:Int)).map ci)/\TTs (63,70,73) U x t f (c.ay.map aPn) k) ⟨.l [] U U,λ_=>(.u, .u),S,A,D,X,⟨.inl ⟨rfl,rfl⟩,by simp,by simp,by simp,by simp,by simp,by simp⟩⟩ ?_;rintro k _ x hk ⟨t,f,S,A,D,X,T⟩;have m1:=S.b1;simp only[qz 115,qy 36,au,aI,u0,u1,m1,A,rk,pz,k1,k7,aj,ixv,bh,↓uL];refine⟨λh=>?_,λh=>?_⟩;have g:=aL h;refine⟨dJ g,?_⟩;obtain⟨q1,q2,_⟩:=hc.2.2 _<|ve g;obtain⟨n,hn⟩:∃n:Nat,(gd c.ay k).H7=n:=⟨(gd c.ay k).H7.toNat,by omega⟩;rw[hn] at q2⊢;refine AP (by decide) (by decide) (by rw[S.hl];decide) (by omega) λe1 s6 ad N6 v b6=>?_;have H:=S.fx v (by simp);have bb:=H.b1;simp only[qz 26,au,u0,u1,bb,rk,pz,aj,ixv,bh,hn,↓uL];refine⟨dJ g,?_⟩;refine AP (by decide) (by decide) (by rw[H.hl];decide) (by omega) λe2 s7 af N7 w R=>?_;have S7:=H.fx w (by simp);have aP:=w.kq b6;have bc:=w.kq<|v.kq A;have aU:=(D.fx v<|by simp).fx w (by simp);have aV:=(X.fx v<|by simp).fx w (by simp);have T7:=(T.fx v<|by simp).fx w (by simp);have a6:bM aoB bmK [(1, .m e1 n),(2, .m e2 n)]=V (.a [iv 0, .m e1 n, .m e2 n,iv 0]):=rfl;simp only[qz 28,qy 30,a6,aY];have M:gd (c.ay.map aPn) k=⟨0,er n 0,er n [],0⟩:=(by rw[bT (by grind),List.getElem_map,<-bT g];simp[aPn,hn]);have Z:∀{q:Id},(∀y,box x q≠V y)->q∉aPi f k:=λ{q} bF d=>(by obtain⟨j,hj,h|h⟩:=aXS d;obtain⟨y,hy⟩:=aTi (T.g1 j hj) q h;grind;obtain⟨_,b,e,hy⟩:=T.g2 j hj;grind [aA]);refine a7Q T7 rfl rfl (by rw[S7.hl];decide) rfl (by rw[S7.hl];decide) (by decide) (by omega) (by rw[M]) (by rw[M]) (.inr ⟨e1,[],by grind,by rw[M,aP];simp;exact⟨rfl, .inr rfl⟩⟩) (by rw[M];exact⟨by simp,e2,by simp,by rw[R];simp;exact⟨rfl, .inr rfl⟩⟩) (λq d=>?_) (λq d=>?_) λz t' ag aw O o bB=>?_;simp only[aA,cE] at d;subst d;exact⟨Z N6.no,ad⟩;simp only[aA,cE] at d;subst d;exact⟨Z<|λy hy=>N7.no y<|v.kq hy,af⟩;obtain⟨vz,rfl⟩:=aw;have bd:∀q∈aA t,q.1=73:=T.ids;have aB:∀{b:Id},b.1≠73->b∉aA t:=(by grind);have aG:=S7.fx o (λq d=>by have:=bd q d;omega);have aa:=o.keep _ _ (aB<|by simp) bc;simp only[qz 32,u0,u1,aa,aj,↓uL];refine A0 aa O.ce (by simp) λbH K aM=>?_;simp only[qz 34,↓uL];refine dT (by simp[eL,lb,au,sl,ad,af,m8,dC,dK]) ?_;simp only[au,u0,u1];refine dR (mk:=λ(_:Unit) i=>[iv i]) (s:=()) (s':=()) (λ_ _=>rfl) g (by omega) ⟨t',_,aG.fx K (by simp),aM,(aU.fx o<|by grind).fx K λq d e=>?_,(aV.fx o<|by grind).fx K λq d e=>?_,O.fx K<|by simp⟩;grind;grind;have F:k=L c.ay:=(by grind);subst F;refine stW S.b2 rfl rfl λag o aK=>?_;simp only[aK,aQd,qh,df,k7,aY];have nd:∀{q:Id},q.1≠2->q∉[((2,v2):Id)]:=(by grind);have O:=T.fx o (by simp);have al:TTs (63,70,73) U ag t f (c.ay.map aPn) (L<|c.ay.map aPn):=(by grind);have x1:=aBr (S.g1.fx o λq d=>(by grind));have x2:=aBr (S.g2.fx o λq d=>(by grind));have x3:=aBr (S.g3.fx o λq d=>(by grind));have x4:=aBr (D.fx o λq d=>nd<|by rw[pa q d];decide);have x5:=aBr (X.fx o λq d=>nd<|by rw[pb q d];decide);refine aOv (v':= .a (aPK c).c) ?_ (by simp[iX,atC.c,aW.c,eN,sl]) (by grind [bfv]);simp only[fzT,ji,mU,x1,x2,x3,x4,x5,al.fz,aWt];rfl
def aUj:FT:=om aXs
def bca{c Lw K}:=aUy aUj aXs c Lw K (j:=by simp+contextual only[ij,ijv])
def a7G:dO:=(263,aUl)::(121,aUj)::a7F
def a7o:eJ a7G:=sz (aN0 aXu)<|sz (rj aXs)<|aX6
def aWm:=ai @bcc<|ai @bca<|@aWl
section
attribute[local irreducible] aX
def a9K:=I5 28 [(20,([],[6,8,9,10])),(23,([98],[6,8,9,10])),(25,([],[6,10]))]
def a3l a b c d R:=(.mk _:NR a7G a9K Tryz.f233 [.u, .u,c] [a,b] d R).p
def bhh{c0:List AV}{b:List AV}{c:AV}{R:cC}(l0:L c0=7)(l1:L b=7)(h:H2 129 7 3 c0 124 7 4 b λia d e=>a3l ia d c e R):Ct 233 [.a c0, .a b,c] R:=z2 a9K a7o Tryz.func233 l0 l1 h
end
def aQs(c:aBY)(s:atC)(t:Int):aNZ:=gd (gd c.ay t.toNat).bid (gd s.ay t.toNat).pc.toNat
def PK(k:Int)(i:aNZ):Prop:=(k=3\/k=23->i.a∈a6z i)/\(k=4\/k=22->i.b∈a6z i)/\(k=5->i.a∈a6z i)
def EvL(e:aP):Prop:=L e.dI<=1000/\L e.ep<=1000
def bdY{i:aNZ}:PK (aPY i.op) i:=by rcases i with⟨op,a,b,k,n,st⟩;simp only[PK,aPY,cond_eq_ite];by_cases h:op<6\/28<op;simp_all;rw[lC<|by simpa using h];have c:op=6\/op=7\/op=8\/op=9\/op=10\/op=11\/op=12\/op=13\/op=14\/op=15\/op=16\/op=17\/op=18\/op=19\/op=20\/op=21\/op=22\/op=23\/op=24\/op=25\/op=26\/op=27\/op=28:=(by omega);rcases c with rfl|rfl|rfl|rfl|rfl|rfl|rfl|rfl|rfl|rfl|rfl|rfl|rfl|rfl|rfl|rfl|rfl|rfl|rfl|rfl|rfl|rfl|rfl<;>simp[gd,aXK,a6z]
def aXq(c:aBY)(s:atC)(t:Int)(hp:aPU c/\aOc c/\∃k,StB k s):Ct 233 [.a c.c, .a s.c,iv t] (λr=>∃(e:aP) (ok:Bool),r= .t [.a e.c,bv ok]/\EvL e/\(ok=U->aSm c s/\aF (L c.ay) t/\PK e.kind (aQs c s t))):=by
 obtain⟨hc,E,K,hs⟩:=hp
 have cH:=aP4 hc.1
 have cA:=E.1
 generalize hQ:(λ(r:AV)=>∃(e:aP) (ok:Bool),r= .t [.a e.c,bv ok]/\EvL e/\(ok=U->aSm c s/\aF (L c.ay) t/\PK e.kind (aQs c s t)))=Qq
 refine aDq (bhh rfl rfl λs4 hl b1 b2 h0=>?_)
 simp only[a3l]
 refine I4 hl λv6 s6 F6 N6 b6=>?_
 have c1:=F6.kq b1
 have c2:=F6.kq b2
 have a1:=F6.len.trans hl
 have k1:∀{x:List AV} {y:AV},aN J (y::x)=V y:=λ{x y}=>by cases y<;>rfl
 have k7:=@r7A
 have hz:bM bnk aOG []=V (.a bnk):=rfl
 simp only[qz 6,qy 8,qy 10,u0,u1,c1,c2,pz,aj,ar,Fa,aWm,rr,aTv,↓uL]
 refine⟨⟨E,by omega⟩,λb bg=>?_⟩
 have D:∀{x:ae},box x (6,v6)=V ⟨62,7,U,U,[bnk]⟩->sV (aK 7 x (.p (6,v6) 0 0)<|.a bnk) λy=>rV (vl (V 7) y<|.p (6,v6) 0 0) λt=>aE (λr=>Qq<|bm1 r) y [t,bv I]:=λ{x} E=>by
  refine stW E rfl rfl λs7 F7 b7=>?_
  rw[aEa b7 rfl]
  refine aOH (vs':=[.a<|aP.c ⟨0,0,0,0,0,[],[]⟩,bv I]) rfl rfl ?_
  rw[<-hQ];exact⟨_,_,rfl,⟨by simp,by simp⟩,by simp⟩
 cases b with
 |false=>
  simp only[u0,↓jN,aUw,↓iC,hz,↓uL]
  exact D b6
 |true=>
 obtain⟨hF⟩:Nonempty (aSm c s):=⟨bg rfl⟩
 have bS:=hF
 obtain⟨_,f1,f2,f3,f4,f5⟩:=bS
 rcases h1:Q (t<0) with _|_
 rotate_left
 ·simp only[u0,u1,↓jN,aUw,↓iC,wY,hz,h1,↓uL]
  exact D b6
 rcases h2:Q (t>=(L c.ay:Int)) with _|_
 rotate_left
 ·simp only[u0,u1,c1,pz,↓jA,↓iC,wY,hz,h1,h2,↓uL]
  exact D b6
 simp only[apT] at h1 h2
 have cB:aF (L c.ay) t:=⟨by omega,by omega⟩
 obtain⟨m,rfl⟩:∃m:Nat,t=m:=⟨t.toNat,by omega⟩
 have hm:m<L c.ay:=by omega
 obtain⟨p1,p2,p3⟩:=f5 m hm
 obtain⟨r1,r2,r3⟩:=hc.2.2 _<|ve hm
 have bQ:Q ((m:Int)<0)=I:=bio h1
 have bR:Q ((m:Int)>=(L c.ay:Int))=I:=bio h2
 have b4:(gd s.ay m).pc.toNat<L (gd c.ay m).bid:=by have:=p1.1;have:=p1.2;omega
 have S:∀j∈a6z (aQs c s m),aF (L (gd s.ay m).J6) j/\aF (L (gd s.ay m).H7) j:=λj hj=>by
  have:=r3 _ b4 j hj
  exact⟨⟨this.1,by omega⟩,⟨this.1,by omega⟩⟩
 have bX:=f1
 obtain⟨_,_,_,ft⟩:=iY bX
 simp only[u0,u1,c1,rk,pz,↓jA,↓iB,bQ,bR,ixv,bh,↓uL]
 refine⟨by simp_all,anu a1 λv8 s8 F8 N8 b8=>?_⟩
 have bF:=F8.kq c1
 have bH:=F8.kq c2
 have bw:=F8.kq b6
 have a2:=F8.len.trans a1
 simp only[qz 12,qy 14,u0,u1,bF,b8,rk,pz,aj,ixv,bh,↓uL]
 refine⟨dJ hm,p1,I4 a2 λv9 cJ bs N9 bC=>?_⟩
 refine stW bC rfl rfl λs9 bt b9=>?_
 have F9:Fx s8 s9 []:=(bs.trans bt).mono (by grind [bK.no])
 have bI:=F9.kq bH
 have bx:=F9.kq bw
 have bB:=F9.kq b8
 have a3:=F9.len.trans a2
 simp only[qz 16,qy 18,↓uL]
 refine dT (by simp[eL,lb,m8,dC,dK,sl,aNZ.c]) ?_
 generalize hi:gd (gd c.ay m).bid (gd s.ay m).pc.toNat=i at*
 have b0:aQs c s m=i:=by simp[aQs,hi]
 rw[b0] at S
 have bV:bM bnk aOG [(0,iv m),(4,iv i.site)]=V (.a [iv m,iv 0,iv 0,iv 0,iv i.site, .l [] U U, .l [] U U]):=rfl
 simp only[u0,u1,b9,pz,aj,bV,↓uL]
 refine anu a3 λab cI T cy W=>?_
 have R:=T.kq bI
 have M:=T.kq bx
 have av:=T.kq bB
 have C:=T.kq b9
 have bj:=T.len.trans a3
 have aw:∀{x:ae} {k o u:Int} {d f:AV} {ds fs:List Int},box x (6,v6)=V ⟨62,7,U,U,[bnk]⟩->lA x 3 1 d (ds.map ci)->lA x 3 1 f (fs.map ci)->(∀q∈aA d++aA f,q.1≠6)->L ds<=1000->L fs<=1000->PK k i->sV (aK 7 x (.p (6,v6) 0 0)<|.a [iv m,iv k,iv o,iv 0,iv u,d,f]) λy=>rV (vl (V 7) y<|.p (6,v6) 0 0) λt=>aE (λr=>Qq<|bm1 r) y [t,bv U]:=λ{x k o u d f ds fs} E bO w hq l1 l2 hk=>by
  refine stW E rfl rfl λs7 F7 b7=>?_
  rw[aEa b7 rfl]
  have e1:=aBr (bO.fx F7 λq h e=>(by grind))
  have e2:=aBr (w.fx F7 λq h e=>(by grind))
  refine aOH (vs':=[.a<|aP.c ⟨m,k,o,0,u,ds,fs⟩,bv U]) (by simp only[ji,mU,fzT,aWt,e1,e2];rfl) (by simp[iX,aP.c,eN,sl]) ?_
  rw[<-hQ];exact⟨_,_,rfl,⟨l1,l2⟩,by simp_all⟩
 have a0:∀{x:ae} {l:List (List Int)} {j:Int} {K:cC},rV (cz 1 x (sl cl l)<|iv j) K=(aF (L l) j/\K (.q<|cl<|gd l j.toNat)):=aBz λ_=>rfl
 have a4:∀{x:ae} {l:List Int},vl J x (.q<|cl l)=V (sl ci l):=rfl
 have aZ:∀t∈(gd s.ay m).J6,Tn t:=(hs.th _<|ve<|by omega).2.2.1
 have nil:∀{x:ae},lA x 3 1 (.l [] U U) (([]:List Int).map ci):=λ{x}=> .inl ⟨rfl,rfl⟩
 have aa:aF (L s.bW.ay) (m:Int):=by rw[ft,<-hc.2.1];omega
 rcases q1:Q ((gd s.bW.ay m).cQ=1) with _|_
 rotate_left
 ·have bU:bM bnk aOG [(0,iv m),(1,iv 1),(2,iv<|-1),(4,iv<|-1)]=V (.a [iv m,iv 1,iv<|-1,iv 0,iv<|-1, .l [] U U, .l [] U U]):=rfl
  simp only[qz 20,qy 22,qy 30,u0,u1,R,C,rk,pz,aj,ix,bh,q1,↓iC,bU,↓uL]
  refine⟨aa,?_⟩
  exact aw M nil nil (by simp[aA]) (by simp) (by simp) (by simp[PK])
 rcases q2:Q ((gd s.bW.ay m).cQ=4) with _|_
 rotate_left
 ·simp only[qz 20,qy 22,qy 30,u0,u1,R,C,W,rk,pz,aj,ix,bh,q1,q2,↓iC,↓iB,↓uL]
  refine⟨aa,aa,?_⟩
  refine A0 W rfl (by simp) λcc G X=>?_
  have af:=G.kq M
  simp only[qz 24,u0,u1,X,aj,↓uL]
  refine A0 X rfl (by simp) λA H v=>?_
  have B:=H.kq af
  simp only[qz 26,qy 28,↓uL]
  refine dT (by simp[eL,lb,m8,dC,dK,sl,aoC.c]) ?_
  simp only[u0,u1,v,List.set_cons_succ,RY,k7,↓uL]
  exact aw B nil nil (by simp[aA]) (by simp) (by simp) (by simp[PK])
 rcases q3:Q ((gd s.bW.ay m).cQ=2) with _|_
 ·simp only[qz 20,qy 22,qy 30,u0,u1,R,C,W,rk,pz,aj,ix,bh,q1,q2,q3,↓iB,hz,↓uL]
  exact⟨aa,D M⟩
 simp only[qz 20,qy 22,qy 30,u0,u1,R,av,C,W,rk,pz,aj,ix,ar,Fa,aWm,rr,bh,q1,q2,q3,↓iC,↓iB,↓uL]
 refine⟨aa,λZ=>(S _ ?_).2,λo=>?_⟩
 ·rcases i with⟨op,a,b,k,n,st⟩
  simp only at Z⊢
  rcases Z with rfl|rfl<;>simp[a6z]
 refine A0 W rfl (by simp) λcc G X=>?_
 have af:=G.kq M
 have a9:=G.kq av
 have ba:=G.kq C
 simp only[qz 32,u0,u1,X,aj,↓uL]
 refine A0 X rfl (by simp) λA H v=>?_
 have B:=H.kq af
 have N:=H.kq a9
 have O:=H.kq ba
 have aD:=(H.len.trans G.len).trans bj
 simp only[List.set_cons_succ,RY] at v
 rcases q4:Q (aPY i.op=0) with _|_
 rotate_left
 ·simp only[qz 34,qy 36,u0,u1,v,k1,nM,J3,aj,q4,↓iC,hz,↓uL]
  exact D B
 simp only[qz 34,qy 36,u0,u1,v,k1,nM,J3,aj,q4,↓iB,↓uL]
 refine bsK (λg=>∀{x:ae} {d:AV} {ds:List Int},L x=4096->box x (6,v6)=V ⟨62,7,U,U,[bnk]⟩->box x (8,v8)=V ⟨251,4,U,U,[(gd s.ay m).c]⟩->box x (9,v9)=V ⟨264,6,U,U,[i.c]⟩->box x (10,ab)=V ⟨62,7,U,U,[[iv m,iv<|aPY i.op,iv o,iv 0,iv i.site,d, .l [] U U]]⟩->lA x 3 1 d (ds.map ci)->(∀q∈aA d,q.1≠6/\q.1≠10)->L ds<=1000->g [] x) (λ{x d ds} cD E h8 h9 he g1 hq l1=>?_) λaV aB=>?_
 ·simp only[qz 123,aI,↓uL]
  refine bpD (λg=>∀{x:ae} {d f:AV} {ds fs:List Int},box x (6,v6)=V ⟨62,7,U,U,[bnk]⟩->box x (10,ab)=V ⟨62,7,U,U,[[iv m,iv<|aPY i.op,iv o,iv 0,iv i.site,d,f]]⟩->lA x 3 1 d (ds.map ci)->lA x 3 1 f (fs.map ci)->(∀q∈aA d++aA f,q.1≠6)->L ds<=1000->L fs<=1000->g [] x) (λ{x d f ds fs} E he g1 g2 hq l1 l2=>?_) λaW aC=>?_
  ·simp only[qz 153,qy 50,aI,u0,u1,he,k7,↓uL]
   exact aw E g1 g2 hq l1 l2 bdY
  have go:∀{y:ae} {f:AV} {fs:List Int},Fx x y []->lA y 3 1 f (fs.map ci)->(∀q∈aA f,bK x q/\q.1=132)->L fs<=1000->sV (aK 1 y (.p (10,ab) 0 6) f) λs=>aW [] s:=λ{y f fs} F w hf lf=>by
   refine A0 (F.kq he) w.ce (by simp) λs2 F2 b2=>?_
   refine aC (F2.kq<|F.kq E) b2 ((g1.fx F<|by simp).fx F2 λq h e=>?_) (w.fx F2 λq h e=>?_) (λq h=>?_) l1 lf
   ·simp at e;subst e;exact(hq _ h).2 rfl
   ·simp at e;subst e;have:=(hf _ h).2;simp at this
   ·rcases dF.1 h with h|h
    ·exact(hq q h).1
    ·rw[(hf q h).2];decide
  have dn:(Q (i.op=8)||Q (i.op=9)||Q (i.op=26))=I->aW [] x:=λ_=>aC E he g1 nil (λq h=>by
   rcases dF.1 h with h|h
   ·exact(hq q h).1
   ·simp[aA] at h) l1 (by simp)
  have up:(Q (i.op=8)||Q (i.op=9)||Q (i.op=26))=U->∀{K:be},(∀(f:AV) (y:ae) (fs:List Int),Fx x y []->lA y 3 1 f (fs.map ci)->(∀q∈aA f,bK x q/\q.1=132)->L fs<=1000->K f y)->rV (cz 1 x (sl cl (gd s.ay m).J6)<|iv i.b) λbo=>rV (vl J x bo) λbp=>eV (apA 3 fB 8 x 132 (.l [] U U) bp) K:=λZ {K} hK=>by
   have hr:=S i.b (by
    rcases i with⟨op,a,b,k,n,st⟩
    simp only[Bool.or_eq_true,I8] at Z⊢
    rcases Z with(rfl|rfl)|rfl<;>simp[a6z])
   rw[a0]
   refine⟨hr.1,?_⟩
   simp only[a4,aY]
   have hT:=aZ _ (ve (l:=(gd s.ay m).J6) (k:=i.b.toNat) (by have:=hr.1.1;have:=hr.1.2;omega))
   refine apV (bA:=[]) (e:=3) (z:=1) (.inl ⟨rfl,rfl⟩) rfl rfl (by decide) (by omega) (by simp) fF (by simp;have:=hT.len;omega) λf y w F P=>?_
   exact hK f y _ (F.mono<|by simp[aA]) w (λq h=>(P q h).elim (λh=>by simp[aA] at h) id) hT.len
  rcases z1:Q (i.op=8) with _|_<;>rcases z2:Q (i.op=9) with _|_<;>rcases z3:Q (i.op=26) with _|_<;>simp only[z1,z2,z3,wY,Bool.or_false] at up dn<;>simp only[qz 155,u0,u1,h9,he,h8,z1,z2,z3,pz,k1,aj,↓jA,↓jN,aUw,↓iC,↓iB,wY,↓uL]
  all_goals first|exact dn rfl|exact dn trivial|(refine up trivial λf y fs F w P l=>?_;simp only[qz 46,qy 48,u0,u1,F.kq he,aj,↓uL];exact go F w P l)
 simp only[qz 125,u0,u1,O,v,N,pz,k1,aj,↓uL]
 have aX:∀{y:ae} {f:AV} {fs:List Int} {pl:Nat},Fx A y []->lA y 3 1 f (fs.map ci)->(∀q∈aA f,bK A q/\q.1=pl)->pl≠10->pl≠6->L fs<=1000->sV (aK 1 y (.p (10,ab) 0 5) f) λs2=>aV [] s2:=λ{y f fs pl} F w hf hp cF lf=>by
  refine A0 (F.kq v) w.ce (by simp) λs2 F2 b2=>?_
  have ao:∀{q:Id} {z:bY},q≠(10,ab)->box A q=V z->box s2 q=V z:=λh hz=>F2.keep _ _ (by simpa using h)<|F.kq hz
  exact aB ((F2.len.trans F.len).trans aD) (ao (by simp) B) (ao (by simp) N) (ao (by simp) O) b2 (w.fx F2 λq h e=>by simp at e;subst e;exact hp (hf _ h).2.symm) (λq h=>by rw[(hf q h).2];omega) lf
 have ap:∀{j:Int} {pl:Nat} {K:be},j∈a6z i->pl<4096->(∀(f:AV) (y:ae) (fs:List Int),Fx A y []->lA y 3 1 f (fs.map ci)->(∀q∈aA f,bK A q/\q.1=pl)->L fs<=1000->K f y)->rV (cz 1 A (sl cl (gd s.ay m).J6)<|iv j) λbq=>rV (vl J A bq) λbr=>eV (apA 3 fB 8 A pl (.l [] U U) br) K:=λ{j pl K} hj cG hK=>by
  have hr:=S j hj
  rw[a0]
  refine⟨hr.1,?_⟩
  simp only[a4,aY]
  have hT:=aZ _ (ve (l:=(gd s.ay m).J6) (k:=j.toNat) (by have:=hr.1.1;have:=hr.1.2;omega))
  refine apV (bA:=[]) (e:=3) (z:=1) (.inl ⟨rfl,rfl⟩) rfl rfl (by decide) (by omega) (by simp) fF (by simp;have:=hT.len;omega) λf y w F P=>?_
  exact hK f y _ (F.mono<|by simp[aA]) w (λq h=>(P q h).elim (λh=>by simp[aA] at h) id) hT.len
 refine⟨λZ=>?_,λZ=>?_⟩
 ·have a5:=asq Z
  refine ap (j:=i.a) (pl:=96) (by rcases i with⟨op,a,b,k,n,st⟩;simp only at a5⊢;subst a5;simp[a6z]) (by decide) λf y fs F w P lf=>?_
  simp only[qz 38,qy 40,u0,u1,F.kq v,aj,↓uL]
  exact aX F w P (by decide) (by decide) lf
 ·have bL:aV [] A:=aB aD B N O v nil (by simp[aA]) (by simp)
  refine bsp (λg=>(i.op=7\/i.op=9->g [bv U])/\g [bv I]) ⟨λh=>?_,?_⟩ λg al=>?_
  ·simp only[qz 141,au,aI,↓uL]
   simp only[u0,u1,O,v,N,pz,k1,aj,↓iC,↓uL]
   refine ap (j:=i.k) (pl:=109) (by rcases i with⟨op,a,b,k,n,st⟩;simp only at h⊢;rcases h with rfl|rfl<;>simp[a6z]) (by decide) λf y fs F w P lf=>?_
   simp only[qz 42,qy 44,u0,u1,F.kq v,aj,↓uL]
   exact aX F w P (by decide) (by decide) lf
  ·simp only[qz 141,au,aI,↓iB,↓uL]
   exact bL
  rcases z1:Q (i.op=7) with _|_<;>rcases z2:Q (i.op=9) with _|_<;>simp only[qz 143,u0,u1,z1,z2,↓iC,↓iB,↓uL]
  ·exact al.2
  ·exact al.1 (.inr<|asq z2)
  ·exact al.1 (.inl<|asq z1)
  ·exact al.1 (.inl<|asq z1)
def aUh:FT:=vn aXq
def bb8{c s t Lw K}:=f311 aUh aXq c s t Lw K (j:=by simp+contextual only[ij,ijv])
def aYe:dO:=(233,aUh)::a7G
def a7p:eJ aYe:=sz (By aXq)<|a7o
def aWn:=ai @bb8<|@aWm
section
attribute[local irreducible] aX
def a5I:=I5 39 [(15,([16],[3,4,5,6,7,9,14,15])),(17,([78],[3,4,5,6,7,9,14,15,16,77])),(30,([],[3,4,5,6,7,9,14,16])),(35,([],[4,5,6,7,9,14]))]
def aVk b c a d R:=(.mk _:NR aYe a5I Tryz.f187 [.u, .u, .u] [b,c,a] d R).p
def bhk{c0:List AV}{b:List AV}{c:List AV}{R:cC}(l0:L c0=7)(l1:L b=7)(d:L c=2)(h:H3 129 7 3 c0 124 7 4 b 170 2 5 c λf g i e=>aVk f g i e R):Ct 187 [.a c0, .a b, .a c] R:=z3 a5I a7p Tryz.func187 l0 l1 d h
end
def bg(s:sA)(t:Int):Prop:=aF (L s.count) t/\1<=gd s.count t.toNat
structure StI(w:J9)(s:sA)(j:Nat):Prop where
 r:0<=(gd s.bW.ay j).cQ/\(gd s.bW.ay j).cQ<=5
 fr:((gd s.bW.ay j).cQ=0\/(gd s.bW.ay j).cQ=1)↔gd s.count j=0
 z:j=0->(gd s.bW.ay j).cQ≠0
 wt:((gd s.bW.ay j).cQ=3\/(gd s.bW.ay j).cQ=4)->aF (L w.bC) (gd s.bW.ay j).cond/\(gd s.bW.ak (gd w.bC (gd s.bW.ay j).cond.toNat).eg.toNat).awG≠j
 nw:¬((gd s.bW.ay j).cQ=3\/(gd s.bW.ay j).cQ=4)->(gd s.bW.ay j).cond=0
 at':(gd s.bW.ay j).atomic=U->bg s j
structure LcI(w:J9)(s:sA)(j:Nat):Prop where
 ow:(gd s.bW.ak j).awG≠-1->bg s (gd s.bW.ak j).awG
 rd:(gd s.bW.ak j).bk≠[]->(gd w.ak j).rw=U/\(gd s.bW.ak j).awG= -1
 rb:∀x∈(gd s.bW.ak j).bk,bg s x
 inc:jC (gd s.bW.ak j).bk
structure SI(w:J9)(s:sA)(n:Nat):Prop where
 fit:fN w s=U
 c0:∀c∈s.count,0<=c
 sum:s.count.sum=n
 st:∀j,j<L s.bW.ay->StI w s j
 lk:∀j,j<L s.bW.ak->LcI w s j
 tx:s.bW.tx≠-1->bg s s.bW.tx
 fu:∀j,j<L s.bU->gd s.bW.done j=I->gd s.bU j=0
theorem gdS{α:Type}[Inhabited α]{l:List α}{i j:Nat}{x:α}:gd (l.set i x) j=if i=j/\j<L l then x else gd l j:=by grind [gd]
theorem aTf{α:Type}[Inhabited α]{l:List α}{i j:Nat}{x:α}(h:i≠j):gd (l.set i x) j=gd l j:=by grind [gdS]
theorem aTe{α:Type}[Inhabited α]{l:List α}{i:Nat}{x:α}(h:i<L l):gd (l.set i x) i=x:=by grind [gdS]
structure Mk(s s':aW):Prop where
 lk:s'.ak=s.ak
 tx:s'.tx=s.tx
 dn:s'.done=s.done
 len:L s'.ay=L s.ay
 th:∀j,gd s'.ay j=gd s.ay j\/((gd s.ay j).cQ=3/\gd s'.ay j={gd s.ay j with cQ:=4})
theorem Mk.refl(s:aW):Mk s s:=⟨rfl,rfl,rfl,rfl,λ_=> .inl rfl⟩
def aYj{s:aW}{c u:Int}(h:u∈fO s c):aF (L s.ay) u/\(gd s.ay u.toNat).cQ=3/\(gd s.ay u.toNat).cond=c:=by unfold fO eh at h;simp only[dN,jW,List.mem_range] at h;obtain⟨i,⟨b,a⟩,rfl⟩:=h;simp only[pe,bN,I8] at a;refine⟨⟨by omega,by omega⟩,?_⟩;grind
theorem Mk.one{s s':aW}(h:Mk s s'){u:Int}(a:(gd s.ay u.toNat).cQ=3):Mk s (ni s' u {fA s' u with cQ:=4}):=by refine⟨h.lk,h.tx,h.dn,by simp[ni,h.len],λj=>?_⟩;simp only[ni,fA,gdS];grind [Mk.th]
def Mk.fold{s:aW}:∀(l:List Int) {s':aW},Mk s s'->(∀u∈l,(gd s.ay u.toNat).cQ=3)->Mk s (l.foldl (λs u=>ni s u {fA s u with cQ:=4}) s')|[],_,h,_=>h|u::l,_,h,a=>Mk.fold l (h.one<|a u<|by simp) (by simp_all)
theorem bhI{s:aW}{bF amt:Int}(h:fO s bF≠[]):(gd s.ay (tD s bF amt).toNat).cQ=3:=by unfold tD;split;rename_i b;exact(aYj b).2.1;cases d:fO s bF with|nil=>simp_all|cons a l=>exact(aYj (c:=bF)<|by grind [gd]).2.1
theorem a6V{w:J9}{s:aW}{t bF amt:Int}:Mk s (cU w s t 18 bF amt).1:=by simp only[cU];grind [Mk.one,Mk.refl,bhI]
theorem a6W{w:J9}{s:aW}{t bF amt:Int}:Mk s (cU w s t 19 bF amt).1:=by simp only[cU];simp only[show¬(19:Int)=1 by decide,show¬(19:Int)=2 by decide,show¬((19:Int)=6\/(19:Int)=10) by decide,show¬((19:Int)=7\/(19:Int)=11) by decide,show¬(19:Int)=8 by decide,show¬(19:Int)=9 by decide,show¬(19:Int)=12 by decide,show¬(19:Int)=13 by decide,show¬(19:Int)=14 by decide,show¬(19:Int)=15 by decide,show¬(19:Int)=16 by decide,show¬(19:Int)=17 by decide,show¬(19:Int)=18 by decide,brv,aPy];exact Mk.fold _ (Mk.refl s) (λu a=>(aYj a).2.1)
section
variable{w:J9}{s s':sA}{t:Nat}
structure Ct1(s s':sA)(t:Nat):Prop where
 lt:t<L s.count
 e:s'.count=s.count.set t (gd s.count t+1)
 p:0<=gd s.count t
theorem Ct1.len(h:Ct1 s s' t):L s'.count=L s.count:=by rw[h.e];simp
def Ct1.at(h:Ct1 s s' t):gd s'.count t=gd s.count t+1:=by rw[h.e,aTe h.lt]
theorem Ct1.ne(h:Ct1 s s' t){j:Nat}(a:j≠t):gd s'.count j=gd s.count j:=by rw[h.e,aTf<|Sa a]
theorem Ct1.bg(h:Ct1 s s' t){x:Int}(a:Ab.bg s x):Ab.bg s' x:=by refine⟨by rw[h.len];exact a.1,?_⟩;by_cases e:x.toNat=t;rw[e,h.at];have:=h.p;omega;rw[h.ne e];exact a.2
theorem Ct1.own(h:Ct1 s s' t):Ab.bg s' (t:Int):=by refine⟨⟨by omega,by rw[h.len];have:=h.lt;omega⟩,?_⟩;rw[bh,h.at];have:=h.p;omega
theorem StI.keep(c:Ct1 s s' t){j:Nat}(b:j≠t)(a:gd s'.bW.ay j=gd s.bW.ay j)(d:∀l,(gd s'.bW.ak l).awG=(gd s.bW.ak l).awG\/(gd s'.bW.ak l).awG=t\/(gd s'.bW.ak l).awG= -1)(h:StI w s j):StI w s' j:=by refine⟨by rw[a];exact h.r,by rw[a,c.ne b];exact h.fr,by rw[a];exact h.z,λhs=>?_,by rw[a];exact h.nw,by grind [Ct1.bg,StI.at']⟩;grind [StI.wt]
theorem StI.own(c:Ct1 s s' t){x:aoC}(f:gd s'.bW.ay t=x)(b:x.cQ=2\/x.cQ=5)(d:x.cond=0):StI w s' t:=by have a:=c.own;have e:¬gd s'.count t=0:=(by rw[c.at];have:=c.p;omega);refine⟨by grind,by grind,by grind,by grind,by simp_all,λ_=>a⟩
theorem LcI.keep(c:Ct1 s s' t){j:Nat}(a:gd s'.bW.ak j=gd s.bW.ak j)(h:LcI w s j):LcI w s' j:=⟨by grind [Ct1.bg,LcI.ow],by rw[a];exact h.rd,by grind [Ct1.bg,LcI.rb],by rw[a];exact h.inc⟩
end
def bfw{l:List Int}:∀{i:Nat} {x:Int},i<L l->(l.set i x).sum=l.sum-gd l i+x:=by induction l with|nil=>simp|cons a l b=>intro i x h;cases i with|zero=>simp[gd];omega|succ i=>grind [gd]
def aWu{l:List Int}:(∀c∈l,0<=c)->∀i,gd l i<=l.sum/\0<=l.sum:=by induction l with|nil=>intro _ i;simp[gd]|cons a l b=>intro h i;have d:=h a (by simp);obtain⟨e,f⟩:=b (by simp_all)<|i-1;grind [gd,Nat.add_sub_cancel]
section
variable{w:J9}{s s':sA}{t n:Nat}
theorem SI.next(h:SI w s n)(c:Ct1 s s' t)(a:fN w s'=U)(m:∀j,j<L s.bW.ay->StI w s' j)(l:∀j,j<L s.bW.ak->LcI w s' j)(g:L s'.bW.ay=L s.bW.ay)(i:L s'.bW.ak=L s.bW.ak)(k:s'.bW.tx=s.bW.tx\/s'.bW.tx=t\/s'.bW.tx= -1)(d:∀j,j<L s'.bU->gd s'.bW.done j=I->gd s'.bU j=0):SI w s' (n+1):=by refine⟨a,?_,?_,by simp_all,by simp_all,λb=>?_,d⟩;intro x b;rw[c.e] at b;rcases CC b with f|rfl;exact h.c0 x f;have:=c.p;omega;rw[c.e,bfw c.lt,h.sum];omega;grind [Ct1.bg,SI.tx,Ct1.own]
theorem SI.mk1(h:SI w s n)(c:Ct1 s s' t)(a:fN w s'=U)(f:∀j,j≠t->gd s'.bW.ay j=gd s.bW.ay j)(b:L s'.bW.ay=L s.bW.ay)(e:L s'.bW.ak=L s.bW.ak)(k:StI w s' t)(m:∀l,(gd s'.bW.ak l).awG=(gd s.bW.ak l).awG\/(gd s'.bW.ak l).awG=t\/(gd s'.bW.ak l).awG= -1)(i:∀j,j<L s.bW.ak->LcI w s' j)(g:s'.bW.tx=s.bW.tx\/s'.bW.tx=t\/s'.bW.tx= -1)(d:∀j,j<L s'.bU->gd s'.bW.done j=I->gd s'.bU j=0):SI w s' (n+1):=by grind [SI.next,StI.keep,SI.st]
end
theorem a97{w:J9}{s:aW}{t k bF amt:Int}:L (cU w s t k bF amt).1.ak=L s.ak/\L (cU w s t k bF amt).1.done=L s.done/\L (cU w s t k bF amt).1.ay=L s.ay:=by by_cases a:k=18;grind [a6V,Mk.lk,Mk.dn,Mk.len];by_cases b:k=19;grind [a6W,Mk.lk,Mk.dn,Mk.len];unfold cU;by_cases q:k=1;grind [ni,I9];rw[lC q];clear q;by_cases q:k=2;grind [ni,I9];rw[lC q];clear q;by_cases q:k=6\/k=10;grind [ni,I9];rw[lC q];clear q;by_cases q:k=7\/k=11;grind [ni,I9];rw[lC q];clear q;by_cases q:k=8;grind [ni,I9];grind [ni,I9]
def bfb{w:J9}{s:sA}{e:aP}(h:fN w s=U):fN w (oc w s e)=U:=by grind [a97,og,fN,lh,oc]
theorem SI.step{w:J9}{s:sA}{e:aP}{n:Nat}(h:SI w s n)(hv:∀j,j<L w.bC->uh w j=I)(hn:n<100000)(P:be3 w s e=U):SI w (oc w s e) (n+1):=by
 simp only[be3,eH,cP] at P
 obtain⟨R,_,_,_,b5⟩:=P
 simp only[aOL,cP,fK,apT] at R
 obtain⟨⟨⟨⟨hf,ht⟩,k1⟩,k2⟩,he⟩:=R
 have q:=bfb (e:=e) hf
 simp only[jm,bN] at he
 obtain⟨ad,_,i,g⟩:=he
 obtain⟨W,f2,f3,f4⟩:=iY ad
 have F:=dX.1 ht
 have av:L s.count=L w.ay:=by grind [fN]
 have ax:L s.bU=L w.bU:=by grind [fN]
 obtain⟨K,kd,bF,val,site,dI,ep⟩:=e
 simp only at ht F k1 k2 i g
 obtain⟨t,rfl⟩:∃t:Nat,K=t:=⟨K.toNat,by have:=F.1;omega⟩
 have aB:t<L w.ay:=by have:=F.2;omega
 have H:=h.st t (by omega)
 have ab:0<=gd s.count t/\gd s.count t<=n:=by
  have D:=aWu h.c0 t
  rw[h.sum] at D
  exact⟨h.c0 _<|ve<|by omega,D.1⟩
 have c:Ct1 s (oc w s ⟨t,kd,bF,val,site,dI,ep⟩) t:=⟨by omega,by grind [oc,bh,eM],ab.1⟩
 have af:kd=1\/kd=2\/kd=3\/kd=4\/kd=5\/kd=6\/kd=7\/kd=8\/kd=9\/kd=10\/kd=11\/kd=12\/kd=13\/kd=14\/kd=15\/kd=16\/kd=17\/kd=18\/kd=19\/kd=20\/kd=21\/kd=22\/kd=23:=by omega
 generalize hS:oc w s ⟨t,kd,bF,val,site,dI,ep⟩=S at*
 have ag:S.bW=(cU w s.bW t kd bF<|og ⟨t,kd,bF,val,site,dI,ep⟩).1:=by rw[<-hS];rfl
 have z:kd≠22->S.bU=s.bU:=(by grind [oc])
 have v:S.bU=s.bU->S.bW.done=s.bW.done->∀j,j<L S.bU->gd S.bW.done j=I->gd S.bU j=0:=(by grind [SI.fu])
 have G:S.bW.ak=s.bW.ak->∀j,j<L s.bW.ak->LcI w S j:=(by grind [LcI.keep,SI.lk])
 generalize og ⟨t,kd,bF,val,site,dI,ep⟩=wk at ag
 have ao:kd=22->S.bU=s.bU.set bF.toNat val:=(by grind [oc])
 clear hS
 have aC:Mk s.bW S.bW->kd≠22->(gd s.bW.ay t).cQ=2->SI w S (n+1):=λm a X=>by
  refine h.next c q (λj A=>?_) (G m.lk) m.len (by rw[m.lk]) (.inl m.tx) (v (z a) m.dn)
  by_cases T:j=t
  ·grind [Mk.th,StI.own,StI.nw]
  ·have ae:=h.st j A
   rcases m.th j with D|⟨D,Z⟩
   ·grind [StI.keep,Mk.lk]
   ·have e4:=ae.wt<|.inl D
    refine⟨by simp_all,by grind [Ct1.ne,StI.fr],by grind,(by grind [Mk.lk]),by simp_all,by grind [Ct1.bg,StI.at']⟩
 have al:S.bW=s.bW->kd≠22->(gd s.bW.ay t).cQ=2->SI w S (n+1):=(by grind [SI.mk1,StI.own,StI.nw])
 have one:∀x:aoC,S.bW=ni s.bW t x->kd≠22->x.cQ=2\/x.cQ=5->x.cond=0->SI w S (n+1):=λx b a X Z=>by
  refine h.mk1 c q (by grind [ni,bh,aTf]) (by grind [ni]) (by rw[b];rfl) (by grind [StI.own,ni,bh,aTe]) (λl=> .inl<|by rw[b];rfl) (G<|by rw[b];rfl) (.inl<|by rw[b];rfl) (v (z a)<|by rw[b];rfl)
 have lock:∀(k:Nat) (x:cg),S.bW={s.bW with ak:=s.bW.ak.set k x}->kd≠22->(gd s.bW.ay t).cQ=2->(x.awG=(gd s.bW.ak k).awG\/x.awG=t\/x.awG= -1)->(x.bk≠[]->(gd w.ak k).rw=U/\x.awG= -1)->(∀y∈x.bk,y=t\/y∈(gd s.bW.ak k).bk)->jC x.bk->k<L s.bW.ak->SI w S (n+1):=λk x b a X Z h4 h5 h6 P=>by
  have C:∀j,gd S.bW.ak j=if k=j/\j<L s.bW.ak then x else gd s.bW.ak j:=(by grind [gdS])
  refine h.mk1 c q (λj _=>by rw[b]) (by rw[b]) (by rw[b];simp) (by grind [StI.own,StI.nw]) (λl=>?_) (λj A=>?_) (.inl<|by rw[b]) (by grind)
  ·grind
  ·by_cases B:k=j
   ·subst B
    have p:gd S.bW.ak k=x:=by simp_all
    have l0:=h.lk k A
    refine⟨by grind [Ct1.bg,LcI.ow,Ct1.own],by simp_all,by grind [Ct1.own,Ct1.bg,LcI.rb],by simp_all⟩
   grind [LcI.keep,SI.lk]
 rcases af with rfl|rfl|rfl|rfl|rfl|rfl|rfl|rfl|rfl|rfl|rfl|rfl|rfl|rfl|rfl|rfl|rfl|rfl|rfl|rfl|rfl|rfl|rfl
 all_goals simp[lc] at g
 ·exact one {gd s.bW.ay t with cQ:=2} (by grind [cU,fA]) (by decide) (.inl rfl) (H.nw<|by omega)
 ·exact one {gd s.bW.ay t with cQ:=5} (by grind [cU,fA]) (by decide) (.inr rfl) (H.nw<|by omega)
 ·grind [cU]
 ·grind [cU]
 ·grind [cU]
 ·
  have f:=mJ i (by decide) (by decide)
  have d:bF.toNat<L s.bW.ak:=by have:=f.1;have:=f.2;omega
  have l0:=h.lk _ d
  simp[named] at i
  exact lock bF.toNat {cH s.bW bF with awG:=t} (by grind [cU,I9]) (by decide) g.1 (.inr<|.inl rfl) (λa=>by have:=(l0.rd a).1;grind) (λy o=> .inr o) l0.inc d
 ·have f:=mJ i (by decide) (by decide)
  have d:bF.toNat<L s.bW.ak:=by have:=f.1;have:=f.2;omega
  have l0:=h.lk _ d
  exact lock bF.toNat {cH s.bW bF with awG:= -1} (by grind [cU,I9]) (by decide) g.1 (.inr<|.inr rfl) (λa=>⟨(l0.rd a).1,rfl⟩) (λy o=> .inr o) l0.inc d
 ·
  have f:=mJ i (by decide) (by decide)
  have d:bF.toNat<L s.bW.ak:=by have:=f.1;have:=f.2;omega
  have l0:=h.lk _ d
  simp[named] at i
  have e0:mP (cH s.bW bF).bk [(t:Int)]=fk (cH s.bW bF).bk t:=Ro l0.inc
  exact lock bF.toNat {cH s.bW bF with bk:=mP (cH s.bW bF).bk [(t:Int)]} (by grind [cU,I9]) (by decide) g.1 (.inl rfl) (λ_=>⟨i.2,g.2.1⟩) (λy o=>by rw[e0] at o;exact an1 o) (by rw[e0];exact Nz l0.inc) d
 ·
  have f:=mJ i (by decide) (by decide)
  have d:bF.toNat<L s.bW.ak:=by have:=f.1;have:=f.2;omega
  have l0:=h.lk _ d
  exact lock bF.toNat {cH s.bW bF with bk:=fJ (cH s.bW bF).bk t} (by grind [cU,I9]) (by decide) g.1 (.inl rfl) (λa=>l0.rd<|λe=>a<|by simp[cH,e,fJ]) (λy o=> .inr (jW.1 o).1) (amF.2<|(amF.1 l0.inc).filter _) d
 ·
  have f:=mJ i (by decide) (by decide)
  have d:bF.toNat<L s.bW.ak:=by have:=f.1;have:=f.2;omega
  have l0:=h.lk _ d
  exact lock bF.toNat {cH s.bW bF with awG:=t} (by grind [cU,I9]) (by decide) g.1 (.inr<|.inl rfl) (λa=>aPo g.2.2 a) (λy o=> .inr o) l0.inc d
 ·have f:=mJ i (by decide) (by decide)
  have d:bF.toNat<L s.bW.ak:=by have:=f.1;have:=f.2;omega
  have l0:=h.lk _ d
  exact lock bF.toNat {cH s.bW bF with awG:= -1} (by grind [cU,I9]) (by decide) g.1 (.inr<|.inr rfl) (λa=>⟨(l0.rd a).1,rfl⟩) (λy o=> .inr o) l0.inc d
 ·
  have b:S.bW={s.bW with tx:=(t:Int)}:=by grind [cU]
  grind [SI.mk1,StI.own,StI.nw]
 ·have b:S.bW={s.bW with tx:= -1}:=by grind [cU]
  grind [SI.mk1,StI.own,StI.nw]
 ·exact one {gd s.bW.ay t with atomic:=U} (by grind [cU,fA]) (by decide) (.inl g.1) (H.nw<|by omega)
 ·exact one {gd s.bW.ay t with atomic:=I} (by grind [cU,fA]) (by decide) (.inl g.1) (H.nw<|by omega)
 ·
  have f:=oT i (by decide) (by decide)
  have r:bF.toNat<L w.bC:=by have:=f.1;have:=f.2;omega
  have hm:=W _<|ve r
  have u:(gd w.bC bF.toNat).eg.toNat<L s.bW.ak:=by omega
  have l0:=h.lk _ u
  generalize M:(gd w.bC bF.toNat).eg=m at*
  have b:S.bW=ni (I9 s.bW m {cH s.bW m with awG:= -1}) t {fA s.bW t with cQ:=3,cond:=bF}:=by grind [cU]
  have C:∀j,gd S.bW.ak j=if m.toNat=j/\j<L s.bW.ak then{cH s.bW m with awG:= -1} else gd s.bW.ak j:=λj=>by rw[b];exact gdS
  have N:gd S.bW.ay t={fA s.bW t with cQ:=3,cond:=bF}:=by grind [ni,bh,aTe,I9]
  refine h.mk1 c q (by grind [ni,bh,I9,aTf]) (by grind [ni,I9]) (by grind [ni,I9]) ?_ (λl=>?_) (λj A=>?_) (.inl<|by rw[b];rfl) (v (z<|by decide)<|by rw[b];rfl)
  ·have aw:=c.at
   refine⟨by grind,by grind,by grind,λ_=>?_,by grind,λ_=>c.own⟩
   rw[N]
   refine⟨f,?_⟩
   simp only[M]
   rw[C,lD ⟨rfl,u⟩]
   simp only;omega
  ·grind
  ·by_cases B:m.toNat=j
   ·subst B
    have p:=C m.toNat
    rw[lD ⟨rfl,u⟩] at p
    exact⟨by grind,by rw[p];exactλa=>⟨(l0.rd a).1,rfl⟩,by rw[p];exactλy o=>c.bg<|l0.rb y o,by rw[p];exact l0.inc⟩
   grind [LcI.keep,SI.lk]
 ·
  have f:=oT i (by decide) (by decide)
  have r:bF.toNat<L w.bC:=by have:=f.1;have:=f.2;omega
  have hm:=W _<|ve r
  have E:=hv _ r
  have u:(gd w.bC bF.toNat).eg.toNat<L s.bW.ak:=by omega
  have l0:=h.lk _ u
  simp only[uh,cP] at E
  have aA:=E.2
  clear E
  generalize M:(gd w.bC bF.toNat).eg=m at*
  have b:S.bW=ni (I9 s.bW m {cH s.bW m with awG:=t}) t {fA s.bW t with cQ:=2,cond:=0}:=by grind [cU]
  have C:∀j,gd S.bW.ak j=if m.toNat=j/\j<L s.bW.ak then{cH s.bW m with awG:=(t:Int)} else gd s.bW.ak j:=λj=>by rw[b];exact gdS
  have N:gd S.bW.ay t={fA s.bW t with cQ:=2,cond:=0}:=by grind [ni,bh,aTe,I9]
  refine h.mk1 c q (by grind [ni,bh,I9,aTf]) (by grind [ni,I9]) (by grind [ni,I9]) (StI.own c N (.inl rfl) rfl) (λl=>?_) (λj A=>?_) (.inl<|by rw[b];rfl) (v (z<|by decide)<|by rw[b];rfl)
  ·grind
  ·by_cases B:m.toNat=j
   ·subst B
    have p:=C m.toNat
    rw[lD ⟨rfl,u⟩] at p
    exact⟨by grind [Ct1.own],by rw[p];exactλa=>aPo (l0.rd a).1 (by simp_all),by rw[p];exactλy o=>c.bg<|l0.rb y o,by rw[p];exact l0.inc⟩
   grind [LcI.keep,SI.lk]
 ·grind [a6V]
 ·grind [a6W]
 ·
  have r:=Eb i (by decide) (by decide)
  have az:bF.toNat<L w.ay:=by have:=r.1;have:=r.2;omega
  have a:bF.toNat≠t:=by grind
  have O:=h.st bF.toNat (by omega)
  have b:S.bW=ni s.bW bF {fA s.bW bF with cQ:=1}:=by grind [cU]
  have C:∀j,gd S.bW.ay j=if bF.toNat=j/\j<L s.bW.ay then{fA s.bW bF with cQ:=1} else gd s.bW.ay j:=λj=>by rw[b];exact gdS
  refine h.next c q (λj A=>?_) (G<|by rw[b];rfl) (by grind [ni]) (by rw[b];rfl) (.inl<|by rw[b];rfl) (v (z<|by decide)<|by rw[b];rfl)
  by_cases B:bF.toNat=j
  ·subst B
   have p:=C bF.toNat
   rw[lD ⟨rfl,A⟩] at p
   have h0:gd s.count bF.toNat=0:=O.fr.1<|.inl g.2.2
   refine⟨by grind,by grind [Ct1.ne],by grind,by grind,by rw[p];intro _;exact O.nw (by omega),by rw[p];exactλha=>c.bg<|O.at' ha⟩
  ·by_cases T:j=t
   ·grind [StI.own,StI.nw]
   ·exact StI.keep c T (by grind) (λl=> .inl<|by rw[b];rfl) (h.st j A)
 ·grind [cU]
 ·
  have b:S.bW={s.bW with done:=s.bW.done.set bF.toNat U}:=by grind [cU]
  grind [SI.mk1,StI.own,StI.nw,gdS,SI.fu]
 grind [cU]
structure PB(x:ae)(v6 v7:Nat)(c:aBY)(ch:TCh):Prop where
 hl:L x=4096
 b1:box x (3,1)=V ⟨129,7,U,U,[c.c]⟩
 b3:box x (5,1)=V ⟨170,2,U,U,[ch.c]⟩
 b6:box x (6,v6)=V ⟨124,7,U,U,[aOO]⟩
 b7:box x (7,v7)=V ⟨62,7,U,U,[bnk]⟩
theorem PB.kx{x y:ae}{v6 v7:Nat}{c:aBY}{ch:TCh}{ks:List Nat}(P:PB x v6 v7 c ch)(F:Kx ks x y)(h:3∉ks/\5∉ks/\6∉ks/\7∉ks):PB y v6 v7 c ch:=⟨F.len.trans P.hl,F.keep _ _ h.1 P.b1,F.keep _ _ h.2.1 P.b3,F.keep _ _ h.2.2.1 P.b6,F.keep _ _ h.2.2.2 P.b7⟩
theorem PB.fx{x y:ae}{v6 v7:Nat}{c:aBY}{ch:TCh}{Lw:List Id}(P:PB x v6 v7 c ch)(F:Fx x y Lw)(h:∀q∈Lw,q.1≠3/\q.1≠5/\q.1≠6/\q.1≠7):PB y v6 v7 c ch:=⟨F.len.trans P.hl,(by grind [Fx.keep,PB.b1]),(by grind [Fx.keep,PB.b3]),(by grind [Fx.keep,PB.b6]),by grind [Fx.keep,PB.b7]⟩
section
variable{pl:Nat×Nat×Nat}{x:ae}{a:AV}{f:Nat->AV×AV}{ss:List aNQ}{n u:Nat}
def TTs.ix(T:TTs pl I x a f ss n)(h:u<n){K:cC}(g:∀b,a= .m b n->box x b=V ⟨251,4,U,U,alx f ss n⟩->K (.p b u 0)):rV (cz 4 x a<|iv u) K:=by rcases T.bx with⟨j,_⟩|⟨b,rfl,_,d⟩;omega;have:cz 4 x (.m b n) (iv u)=V (.p b u 0):=(by simp[cz,d,h]);rw[this];exact g b rfl d
def be4{b:Id}{e:TypeId}{z:Nat}{o v:Bool}(d:box x b=V ⟨e,z,o,v,alx f ss n⟩)(g:u<n):vl (V 4) x (.p b u 0)=V (.a [iv (gd ss u).pc,(f u).1,(f u).2,iv (gd ss u).ac]):=by simp only[vl,iE,d,aQd,aTy g];rfl
theorem a7b{s:aNQ}(b:s.pc=(gd ss u).pc)(d:s.ac=(gd ss u).ac):alx f (ss.set u s) n=alx f ss n:=by grind [alx,gdS]
theorem bfD(T:TTs pl I x a f ss n)(z:u<n)(O:n<=L ss){m:Nat}(N:m<L (gd ss u).H7){v:Int}{K:be}(H:pl.1≠pl.2.1/\pl.1≠pl.2.2)(D:∀p y,TTs pl I y a f (ss.set u {gd ss u with H7:=(gd ss u).H7.set m v}) n->Fx x y (aA (f u).1)->K p y):rV (cz 1 x (f u).1<|iv m) λp=>sV (aK 1 x p<|iv v) (K p):=by refine ixG (T.g1 u z) (by grind [dJ]) λd m1 j t=>?_;rw[bh];have G:d.1=pl.1:=T.p1 u z d (by grind [aA]);refine aQz (x:=iv v) (r:=[iv<|gd (gd ss u).H7 m]) t (by grind [bT]) (by simp) rfl rfl rfl λy F o=>?_;have l:((gd ss u).H7.map ci++m1).set m ([iv<|gd (gd ss u).H7 m].set 0<|nrm<|eR x<|iv v)=((gd ss u).H7.set m v).map ci++m1:=(by rw[List.set_append_left _ _ (by grind),vB];rfl);rw[l] at o;have E:aA (f u).1=[d]:=(by rw[j];rfl);have w:∀k,k<n->k≠u->∀q∈aA (f k).1,q∉[d]:=(by grind [TTs.d1]);refine D _ y ⟨T.bx.elim .inl λ⟨b,B,C,M⟩=> .inr ⟨b,B,C,?_⟩,λk g=>?_,λk g=>?_,T.p1,T.p2,T.d1,T.d2⟩ (by simp_all);grind [a7b,Fx.keep];rw[gdS];by_cases e:u=k;subst e;rw[lD ⟨rfl,by omega⟩];exact .inr ⟨d,m1,by rw[j];simp,o⟩;rw[lC<|λh=>e h.1];exact(T.g1 k g).fx F<|w k g<|Sa e;rw[gdS];have A:G2 I y (f k).2 (gd ss k).J6:=(T.g2 k g).fx F (by grind [TTs.p2]);grind
theorem bfE(T:TTs pl I x a f ss n)(D:u<n)(R:n<=L ss){m:Nat}(B:m<L (gd ss u).J6){l:List Int}{t o:Bool}{K:ae->Prop}(O:pl.2.1≠pl.1/\pl.2.1≠pl.2.2)(H:∀y,TTs pl I y a f (ss.set u {gd ss u with J6:=(gd ss u).J6.set m l}) n->Fx x y (aA (f u).2)->K y):rV (cz 1 x (f u).2<|iv m) λp=>sV (aK 1 x p<|.l (l.map ci) t o) K:=by have v:lA x 38 1 (f u).2 ((gd ss u).J6.map cl):=T.g2 u D;refine ixG v (by grind [dJ]) λd m1 j A=>?_;rw[bh];have N:d.1=pl.2.1:=T.p2 u D d (by grind [aA]);refine aQz (x:= .l (l.map ci) t o) (r:=[sl ci<|gd (gd ss u).J6 m]) A (by rw[xe (by grind),bj9,eC B,bT B];rfl) (by simp) rfl rfl rfl λy F z=>?_;have w:((gd ss u).J6.map cl++m1).set m ([sl ci<|gd (gd ss u).J6 m].set 0<|nrm<|eR x<|.l (l.map ci) t o)=((gd ss u).J6.set m l).map cl++m1:=(by rw[List.set_append_left _ _ (by grind),vB];rfl);rw[w] at z;have M:aA (f u).2=[d]:=(by rw[j];rfl);have C:∀k,k<n->k≠u->∀q∈aA (f k).2,q∉[d]:=(by grind [TTs.d2]);refine H y ⟨T.bx.elim .inl λ⟨b,E,G,P⟩=> .inr ⟨b,E,G,?_⟩,λk g=>?_,λk g=>?_,T.p1,T.p2,T.d1,T.d2⟩ (by simp_all);grind [a7b,Fx.keep];rw[gdS];have g1:lA y 2 1 (f k).1 ((gd ss k).H7.map ci):=(T.g1 k g).fx F (by grind [TTs.p1]);grind;rw[gdS];by_cases e:u=k;subst e;rw[lD ⟨rfl,by omega⟩];show lA y 38 1 (f u).2<|((gd ss u).J6.set m l).map cl;exact .inr ⟨d,m1,by rw[j];simp,z⟩;rw[lC<|λh=>e h.1];exact(T.g2 k g).fx F<|C k g<|Sa e
theorem bfC{b:Id}{r:List AV}{s:aNQ}{y:ae}(T:TTs pl I y (.m b<|L ss) f ss<|L ss){e:TypeId}{z:Nat}{o:Bool}(B:u<L ss)(t:box x b=V ⟨e,z,o,U,(alx f ss<|L ss).set u r⟩)(w:r.map (rS x)=s.c)(v:∀k,k<L ss->rS x (f k).1=sl ci (gd ss k).H7/\rS x (f k).2=sl cl (gd ss k).J6):fz x (.m b<|L ss)=sl aNQ.c (ss.set u s):=by have h:((alx f ss<|L ss).set u r).map (·.map (rS x))=(ss.set u s).map aNQ.c:=(by rw[vB,vB,w];congr 1;refine aqI λk=>?_;rcases jj k (L ss) with d|d;rw[bj9,aTy d,bj9,eC d];obtain⟨l,p⟩:=v k d;simp only[df,ji,mU,l,p,bT d];rfl;grind [aQ8]);have e:((alx f ss<|L ss).set u r).take (L ss)=(alx f ss<|L ss).set u r:=oB (by grind [aQ8]);have q:(((alx f ss<|L ss).set u r).all λr=>r.all λc=>eN<|rS x c)=U:=(by rw[dV];intro C j;rw[dV];intro c A;have g:=CA (f:=(·.map (rS x))) j;rw[h] at g;obtain⟨s,_,hs⟩:=dN.1 g;grind [CA,aNQ.c,eN,sl]);simp only[Ab.fz,dQ,t,e,q,aPy,h];rw[lC<|by decide];rfl
theorem idb{b q:Id}{k:Nat}(h:q∈[b])(d:b.1=k):q.1=k:=by simp_all
end
def aQc(t b:aNQ):Prop:=L t.H7=L b.H7/\L t.J6=L b.J6/\(∀l∈t.J6,Tn l)/\t.pc=b.pc/\t.ac=b.ac
structure SK(ch:TCh)(cc fu:AV)(v15 u:Nat)(s:atC):Prop where
 pc:∀q∈aA cc,q.1=11
 pf:∀q∈aA fu,q.1=15/\q≠(15,v15)
 hu:u<L s.ay
 hch:ch.aq=u
structure SM(x:ae)(v6 v7 v9 v14 v15:Nat)(c:aBY)(ch:TCh)(S:aW)(fl:Bool×Bool×Bool×Bool×Bool×Bool)(cc fu ta:AV)(f:Nat->AV×AV)(u:Nat)(s:atC)(e:aP)(i:aNZ):Prop where
 P:PB x v6 v7 c ch
 b4:box x (4,1)=V ⟨124,7,U,U,[eD S fl++[cc,fu,ta]]⟩
 b9:∃v:Int,box x (9,v9)=V ⟨62,7,U,U,[({e with value:=v}:aP).c]⟩
 b14:box x (14,v14)=V ⟨251,4,U,U,[[iv (gd s.ay u).pc,(f u).1,(f u).2,iv (gd s.ay u).ac]]⟩
 b15:box x (15,v15)=V ⟨264,6,U,U,[i.c]⟩
 gc:∃l:List Int,L l=L s.cells/\lA x 2 1 cc (l.map ci)
 gf:∃l:List Int,L l=L s.bU/\lA x 2 1 fu (l.map ci)
 tt:∃ss:List aNQ,L ss=L s.ay/\TTs (12,31,33) I x ta f ss (L ss)/\∀k,k<L ss->aQc (gd ss k) (gd s.ay k)
section
variable{x:ae}{v6 v7 v9 v14 v15:Nat}{c:aBY}{ch:TCh}{S:aW}{fl:Bool×Bool×Bool×Bool×Bool×Bool}{cc fu ta:AV}{f:Nat->AV×AV}{u:Nat}{s:atC}{e:aP}{i:aNZ}{K:cC}{K2:be}{KS:ae->Prop}
theorem SM.to(M:SM x v6 v7 v9 v14 v15 c ch S fl cc fu ta f u s e i){y:ae}{Lw:List Id}(F:Fx x y Lw)(h:∀q∈Lw,q.1≠3/\q.1≠4/\q.1≠5/\q.1≠6/\q.1≠7/\q.1≠14/\q≠(15,v15))(b:∃v:Int,box y (9,v9)=V ⟨62,7,U,U,[({e with value:=v}:aP).c]⟩)(d:∃l:List Int,L l=L s.cells/\lA y 2 1 cc (l.map ci))(g:∃l:List Int,L l=L s.bU/\lA y 2 1 fu (l.map ci))(j:∃ss:List aNQ,L ss=L s.ay/\TTs (12,31,33) I y ta f ss (L ss)/\∀k,k<L ss->aQc (gd ss k) (gd s.ay k)):SM y v6 v7 v9 v14 v15 c ch S fl cc fu ta f u s e i:=⟨M.P.fx F (by grind),(by grind [Fx.keep,SM.b4]),b,(by grind [Fx.keep,SM.b14]),(by grind [Fx.keep,SM.b15]),d,g,j⟩
theorem SM.keep9(M:SM x v6 v7 v9 v14 v15 c ch S fl cc fu ta f u s e i){y:ae}{Lw:List Id}(F:Fx x y Lw)(h:∀q∈Lw,q.1≠9):∃v:Int,box y (9,v9)=V ⟨62,7,U,U,[({e with value:=v}:aP).c]⟩:=by grind [SM.b9,Fx.keep]
theorem SM.keepC(M:SM x v6 v7 v9 v14 v15 c ch S fl cc fu ta f u s e i){y:ae}{Lw:List Id}(F:Fx x y Lw)(h:∀q∈aA cc,q∉Lw):∃l:List Int,L l=L s.cells/\lA y 2 1 cc (l.map ci):=by grind [SM.gc,lA.fx]
theorem SM.keepF(M:SM x v6 v7 v9 v14 v15 c ch S fl cc fu ta f u s e i){y:ae}{Lw:List Id}(F:Fx x y Lw)(h:∀q∈aA fu,q∉Lw):∃l:List Int,L l=L s.bU/\lA y 2 1 fu (l.map ci):=by grind [SM.gf,lA.fx]
theorem SM.keepT(M:SM x v6 v7 v9 v14 v15 c ch S fl cc fu ta f u s e i){y:ae}{Lw:List Id}(F:Fx x y Lw)(h:∀q∈Lw,q.1≠12/\q.1≠31/\q.1≠33):∃ss:List aNQ,L ss=L s.ay/\TTs (12,31,33) I y ta f ss (L ss)/\∀k,k<L ss->aQc (gd ss k) (gd s.ay k):=by grind [SM.tt,TTs.fx]
theorem aX3(M:SM x v6 v7 v9 v14 v15 c ch S fl cc fu ta f u s e i)(C:SK ch cc fu v15 u s){v:Int}(h:∀y,SM y v6 v7 v9 v14 v15 c ch S fl cc fu ta f u s e i->KS y):sV (aK 1 x (.p (9,v9) 0 3)<|iv v) KS:=by obtain⟨l,j⟩:=M.b9;refine A0 j rfl (by simp[aP.c]) λy F b=>h y (M.to F (by simp) ⟨v,b⟩ (M.keepC F λq d g=>?_) (M.keepF F λq d g=>?_)<|M.keepT F<|by simp);grind [SK.pc];have k:=(C.pf q d).1;simp_all
theorem aTu{e:TypeId}{a:AV}{l:List Int}(g:lA x e 1 a<|l.map ci){o:Int}(b:aF (L l) o)(d:∀v:Int,K<|iv v):rV (cz 1 x a<|iv o) λp=>rV (vl J x p) K:=by obtain⟨m,rfl⟩:∃m:Nat,o=m:=⟨o.toNat,by have:=b.1;omega⟩;have h:m<L l:=(by have:=b.2;omega);refine(SlR.of g).ix1 (c:=iv<|gd l m) (by grind [bT]) (K:=λ_=>K) λ_ _=>d _
theorem bfe(M:SM x v6 v7 v9 v14 v15 c ch S fl cc fu ta f u s e i){o:Int}(h:aF (L s.cells) o)(b:∀v:Int,K<|iv v):rV (cz 1 x cc<|iv o) λp=>rV (vl J x p) K:=by obtain⟨l,d,g⟩:=M.gc;exact aTu g (by simp_all) b
theorem bff(M:SM x v6 v7 v9 v14 v15 c ch S fl cc fu ta f u s e i){o:Int}(h:aF (L s.bU) o)(b:∀v:Int,K<|iv v):rV (cz 1 x fu<|iv o) λp=>rV (vl J x p) K:=by obtain⟨l,d,g⟩:=M.gf;exact aTu g (by simp_all) b
def aX2(M:SM x v6 v7 v9 v14 v15 c ch S fl cc fu ta f u s e i)(C:SK ch cc fu v15 u s){o:Int}(j:aF (L (gd s.ay u).H7) o)(h:∀v:Int,K<|iv v):rV (cz 1 x (f u).1<|iv o) λp=>rV (vl J x p) K:=by obtain⟨ss,d,T,g⟩:=M.tt;have b:u<L ss:=(by rw[d];exact C.hu);exact aTu (T.g1 u b) (by rw[(g u b).1];exact j) h
theorem aR5{e:TypeId}{a:AV}{l:List Int}(g:lA x e 1 a<|l.map ci){o v:Int}(j:aF (L l) o)(k:∀p y,Fx x y (aA a)->lA y e 1 a ((l.set o.toNat v).map ci)->K2 p y):rV (cz 1 x a<|iv o) λp=>sV (aK 1 x p<|iv v) (K2 p):=by refine ixG g (by grind) λb m q t=>?_;have w:o.toNat<L l:=(by have:=j.1;have:=j.2;omega);refine aQz (x:=iv v) (r:=[iv<|gd l o.toNat]) t (by grind [bT]) (by simp) rfl rfl rfl λy F h=>?_;have d:(l.map ci++m).set o.toNat ([iv<|gd l o.toNat].set 0<|nrm<|eR x<|iv v)=(l.set o.toNat v).map ci++m:=(by rw[List.set_append_left _ _ (by grind),vB];rfl);rw[d] at h;exact k _ y (by grind [aA]) (.inr ⟨b,m,by rw[q];simp,h⟩)
theorem bfg(M:SM x v6 v7 v9 v14 v15 c ch S fl cc fu ta f u s e i)(C:SK ch cc fu v15 u s){o v:Int}(m:aF (L s.cells) o)(h:∀p y,SM y v6 v7 v9 v14 v15 c ch S fl cc fu ta f u s e i->K2 p y):rV (cz 1 x cc<|iv o) λp=>sV (aK 1 x p<|iv v) (K2 p):=by obtain⟨l,d,g⟩:=M.gc;refine aR5 g (by simp_all) λp y F k=>h p y (M.to F (λq b=>?_) (M.keep9 F λq b=>?_) (by grind) (M.keepF F λq b j=>?_)<|M.keepT F λq b=>?_);grind [SK.pc];grind [SK.pc];have d:=(C.pf q b).1;grind [SK.pc];grind [SK.pc]
theorem bfh(M:SM x v6 v7 v9 v14 v15 c ch S fl cc fu ta f u s e i)(C:SK ch cc fu v15 u s){o v:Int}(m:aF (L s.bU) o)(j:∀p y,SM y v6 v7 v9 v14 v15 c ch S fl cc fu ta f u s e i->K2 p y):rV (cz 1 x fu<|iv o) λp=>sV (aK 1 x p<|iv v) (K2 p):=by obtain⟨l,h,g⟩:=M.gf;refine aR5 g (by simp_all) λp y F k=>j p y (M.to F (λq b=>?_) (M.keep9 F λq b=>?_) (M.keepC F λq b d=>?_) (by grind)<|M.keepT F λq b=>?_);grind [SK.pf];have:=(C.pf q b).1;omega;have h:=(C.pf q d).1;grind [SK.pc];have:=(C.pf q b).1;omega
theorem a7e{ss:List aNQ}{t:aNQ}(b:∀k,k<L ss->aQc (gd ss k) (gd s.ay k))(d:aQc t<|gd s.ay u):∀k,k<L (ss.set u t)->aQc (gd (ss.set u t) k) (gd s.ay k):=(by grind [gdS])
theorem bfi(M:SM x v6 v7 v9 v14 v15 c ch S fl cc fu ta f u s e i)(C:SK ch cc fu v15 u s){o v:Int}(l:aF (L (gd s.ay u).H7) o)(r:∀p y,SM y v6 v7 v9 v14 v15 c ch S fl cc fu ta f u s e i->K2 p y):rV (cz 1 x (f u).1<|iv o) λp=>sV (aK 1 x p<|iv v) (K2 p):=by obtain⟨ss,j,T,k⟩:=M.tt;have b:u<L ss:=(by rw[j];exact C.hu);obtain⟨m,rfl⟩:∃m:Nat,o=m:=⟨o.toNat,by have:=l.1;omega⟩;have g:=k u b;refine bfD T b (dA _) (by rw[g.1];have:=l.2;omega) (by decide) λp y t F=>r p y (M.to F (λq d=>?_) (M.keep9 F λq d=>?_) (M.keepC F λq d h=>?_) (M.keepF F λq d h=>?_) ⟨ss.set u {gd ss u with H7:=(gd ss u).H7.set m v},by grind,by simp_all,a7e k ⟨by simpa using g.1,g.2.1,g.2.2.1,g.2.2.2⟩⟩);have:=T.p1 u b q d;grind;have:=T.p1 u b q d;omega;have j:=T.p1 u b q h;grind [SK.pc];have j:=T.p1 u b q h;have w:=(C.pf q d).1;omega
theorem bfj(M:SM x v6 v7 v9 v14 v15 c ch S fl cc fu ta f u s e i)(C:SK ch cc fu v15 u s){o:Int}{l:List Int}{t b:Bool}(E:Tn l)(v:aF (L (gd s.ay u).J6) o)(w:∀y,SM y v6 v7 v9 v14 v15 c ch S fl cc fu ta f u s e i->KS y):rV (cz 1 x (f u).2<|iv o) λp=>sV (aK 1 x p<|.l (l.map ci) t b) KS:=by obtain⟨ss,k,T,r⟩:=M.tt;have d:u<L ss:=(by rw[k];exact C.hu);obtain⟨m,rfl⟩:∃m:Nat,o=m:=⟨o.toNat,by have:=v.1;omega⟩;have h:=r u d;refine bfE T d (dA _) (by rw[h.2.1];have:=v.2;omega) (by decide) λy B F=>w y (M.to F (λq g=>?_) (M.keep9 F λq g=>?_) (M.keepC F λq g j=>?_) (M.keepF F λq g j=>?_) ⟨ss.set u {gd ss u with J6:=(gd ss u).J6.set m l},by grind,by simp_all,a7e r ⟨h.1,by simpa using h.2.1,λz A=>(CC A).elim (h.2.2.1 z) (by simp_all),h.2.2.2⟩⟩);have:=T.p2 u d q g;grind;have:=T.p2 u d q g;simp_all;have k:=T.p2 u d q j;grind [SK.pc];have k:=T.p2 u d q j;have D:=(C.pf q g).1;simp_all
end
section
variable{x:ae}{v6 v7 v9 v14 v15:Nat}{c:aBY}{ch:TCh}{S:aW}{fl:Bool×Bool×Bool×Bool×Bool×Bool}{cc fu ta:AV}{f:Nat->AV×AV}{u:Nat}{s:atC}{e:aP}{i:aNZ}{Qq:cC}
structure SB(c:aBY)(s:atC)(u:Nat):Prop where
 hu:u<L c.ay
 rg:(gd c.ay u).H7<=1000
 il:L (gd c.ay u).bid<1000000
 ev:0<=(gd s.ay u).ac/\(gd s.ay u).ac<=900
 rl:L (gd s.ay u).H7<=1000
 tl:L (gd s.ay u).J6<=1000
def aSl(Qq:cC)(S:aW)(s:atC)(e:aP)(u:Nat):Prop:=∀(cells d:List Int) (ss:List aNQ) (v:Int) (b:aNQ),L cells=L s.cells->L d=L s.bU->L ss=L s.ay->(∀k,k<L ss->aQc (gd ss k) (gd s.ay k))->((∀l∈b.J6,Tn l)/\L b.H7<=1000/\L b.J6<=1000/\0<=b.ac/\b.ac<=(gd s.ay u).ac+1)->Qq (.t [.a<|atC.c ⟨S,cells,d,ss.set u b⟩, .a ({e with value:=v}:aP).c,bv U])
end
section
variable{x:ae}{v6 v7 v9 v14 v15:Nat}{c:aBY}{ch:TCh}{S:aW}{fl:Bool×Bool×Bool×Bool×Bool×Bool}{cc fu ta:AV}{f:Nat->AV×AV}{u:Nat}{s:atC}{e:aP}{i:aNZ}{Qq:cC}
def aOf{v:Int}:({e with value:=v}:aP).c=[iv e.aq,iv e.kind,iv e.bF,iv v,iv e.site,sl ci e.dI,sl ci e.ep]:=rfl
end
def aQG.b{s s':aNQ}(h:aQG s s'){k:Nat}(d:0<=s.ac/\s.ac<=k):ThB k s':=⟨h.2.1,h.2.2.1,h.1,by rcases h.2.2.2 with e|e<;>omega,by rcases h.2.2.2 with e|e<;>omega⟩
def aXt(c:aBY)(s:atC)(ch:TCh)(hp:aPU c/\aOc c/\∃k,k<=900/\StB k s):Ct 187 [.a c.c, .a s.c, .a ch.c] (λr=>∃(s':atC) (e:aP) (ok:Bool),r= .t [.a s'.c, .a e.c,bv ok]/\(ok=U->EvL e/\∀k,k<=900->StB k s->StB (k+1) s')):=by
 obtain⟨hc,hb,K,hK,hs⟩:=hp
 have ei:=aP4 hc.1
 generalize hQ:(λ(r:AV)=>∃(s':atC) (e:aP) (ok:Bool),r= .t [.a s'.c, .a e.c,bv ok]/\(ok=U->EvL e/\∀k,k<=900->StB k s->StB (k+1) s'))=Qq
 refine aDq (bhk rfl rfl rfl λs6 W b1 b2 b3 h0=>?_)
 simp only[aVk,qy 8]
 refine I4 W λv6 s7 F7 N7 b6=>?_
 refine I4 (F7.len.trans W) λv7 s8 F8 N8 b7=>?_
 have a6:Fx s6 s8 []:=F7.trans F8
 have P:PB s8 v6 v7 c ch:=⟨a6.len.trans W,a6.kq b1,a6.kq b3,F8.kq b6,b7⟩
 have c2:=a6.kq b2
 have G:∀{x:List AV} {y:AV},aN J (y::x)=V y:=λ{x y}=>by cases y<;>rfl
 have hz:bM aOO aon []=V (.a aOO):=rfl
 have cm:bM bnk aOG []=V (.a bnk):=rfl
 have bp:∀{x:ae},PB x v6 v7 c ch->sV (aK 7 x (.p (6,v6) 0 0)<|.a aOO) λy=>sV (aK 7 y (.p (7,v7) 0 0)<|.a bnk) λz=>rV (vl (V 7) z<|.p (6,v6) 0 0) λa=>rV (vl (V 7) z<|.p (7,v7) 0 0) λb=>aE (λr=>Qq<|bm1 r) z [a,b,bv I]:=λ{x} P=>by
  refine stW P.b6 rfl rfl λy F b=>?_
  refine stW (F.kq P.b7) rfl rfl λz F2 b2=>?_
  rw[aEa (F2.kq b) rfl]
  simp only[aY]
  rw[aEa b2 rfl]
  refine aOH (vs':=[.a<|atC.c ⟨⟨[],0,[],[]⟩,[],[],[]⟩, .a<|aP.c ⟨0,0,0,0,0,[],[]⟩,bv I]) rfl rfl ?_
  rw[<-hQ];exact⟨_,_,_,rfl,by simp⟩
 simp only[qz 10,qy 12,u0,u1,P.b1,P.b3,c2,TCh.c,pz,G,aj,ar,Fa,aWn,↓uL]
 refine⟨⟨hc,hb,K,hs⟩,?_⟩
 rintro r ⟨e,ok,rfl,ca,dt⟩
 refine⟨by simp[lo,nA,eB,iR,aBY.c,J9.c,atC.c,aW.c,sl],?_⟩
 simp only[oJ,pG,aY]
 refine anu P.hl λv9 s9 F9 N9 D=>?_
 have P9:=P.fx F9 (by simp)
 have bY:=F9.kq c2
 cases ok with
 |false=>
  simp only[qz 14,qy 16,qy 20,u0,u1,↓iC,hz,cm,↓uL]
  exact bp P9
 |true=>
 obtain⟨ds,ce,bd⟩:=dt rfl
 have Z:=hs.sy
 simp only[qz 14,qy 16,qy 20,u0,u1,P9.b1,P9.b3,bY,D,TCh.c,rk,pz,G,aj,ar,aWn,↓iB,↓uL]
 refine⟨⟨by omega,λl W=>by have:=Z.rd l W;omega,by have:=Z.lo;omega,by have:=Z.dn;omega,by have:=Z.th;omega⟩,?_⟩
 rintro r ⟨fl,rfl⟩
 rcases b8:jm c.aQ s.bW ch.aq e.kind e.bF with _|_
 ·refine⟨by simp[lo,nA,eB,iR,J9.c,aW.c,sl],?_⟩
  simp only[a5C,oJ,pG,KM,aY]
  refine anu P9.hl λdL dB aD cY bS=>?_
  simp only[qz 22,qy 24,u0,u1,↓iC,hz,cm,↓uL]
  exact bp (P9.fx aD<|by simp)
 refine⟨by simp[lo,nA,eB,iR,J9.c,aW.c,sl],?_⟩
 simp only[a7g,oJ,pG,KM,aY]
 obtain⟨dQ,f1,f2,f3,f4,f5⟩:=ds
 simp only[jm,bN] at b8
 obtain⟨_,ek,cj,_⟩:=b8
 obtain⟨u,R⟩:∃u:Nat,ch.aq=u:=⟨ch.aq.toNat,by have:=ce.1;omega⟩
 have aL:u<L c.ay:=by have:=ce.2;omega
 have aM:u<L s.ay:=by omega
 obtain⟨p1,p2,p3⟩:=f5 u aL
 obtain⟨r1,r2,r3⟩:=hc.2.2 _<|ve aL
 have a9:=hs.th _<|ve aM
 generalize hi:aQs c s ch.aq=i at bd
 have cd:gd (gd c.ay u).bid (gd s.ay u).pc.toNat=i:=by grind [aQs]
 have du:(gd s.ay u).pc.toNat<L (gd c.ay u).bid:=by have:=p1.1;have:=p1.2;omega
 have a5:∀j∈a6z i,aF (L (gd s.ay u).H7) j/\aF (L (gd s.ay u).J6) j:=λj hj=>by
  have:=r3 _ du j (by rw[cd];exact hj)
  exact⟨⟨this.1,by omega⟩,⟨this.1,by omega⟩⟩
 generalize hS:(cU c.aQ s.bW ch.aq e.kind e.bF ch.amt).1=S
 generalize(cU c.aQ s.bW ch.aq e.kind e.bF ch.amt).2=av
 have B:SB c s u:=⟨aL,by omega,hb.2 _<|ve aL,⟨a9.2.2.2.1,by have:=a9.2.2.2.2;omega⟩,a9.1,a9.2.1⟩
 have cJ:aSl Qq S s e u:=λcells az ss v t' q1 q2 q3 q4 q5=>by
  rw[<-hQ]
  refine⟨_,_,_,rfl,λ_=>⟨ca,λk hk ck=>?_⟩⟩
  have cK:=ck.th _<|ve aM
  refine⟨by grind [jX.apply,StB.sy],by simp_all,by simp_all,by grind [StB.tl],λt ht=>?_⟩
  rcases CC ht with ht|rfl
  ·obtain⟨j,hj,rfl⟩:=ou ht
   obtain⟨w1,w2,w3,w4,w5⟩:=q4 j hj
   have ba:=ck.th _ (ve (l:=s.ay) (k:=j)<|by omega)
   rw[bT hj] at w1 w2 w3 w4 w5
   exact⟨by rw[w1];exact ba.1,by rw[w2];exact ba.2.1,w3,by rw[w5];exact ba.2.2.2.1,by rw[w5];have:=ba.2.2.2.2;omega⟩
  ·exact⟨q5.2.1,q5.2.2.1,q5.1,q5.2.2.2.1,by have:=cK.2.2.2.2;omega⟩
 refine anu P9.hl λdL dB aD cY bS=>?_
 have bQ:=P9.fx aD (by simp)
 have bo:=aD.kq bY
 have cv:=aD.kq D
 have dz:aN (V 7) s.c=V (.a s.c):=rfl
 simp only[qz 22,qy 24,u0,u1,bo,dz,J3,↓iB,↓uL]
 refine jH rfl (bds bQ.hl ⟨by have:=Z.lo;omega,by have:=Z.dn;omega,by have:=Z.th;omega,λl W=>by have:=Z.rd l W;omega⟩ (by omega) (by omega) (by have:=hs.tl;omega) λt ht=>⟨(hs.th t ht).1,(hs.th t ht).2.1,λz hz=>((hs.th t ht).2.2.1 z hz).len⟩) ?_
 rintro r en ⟨a1,a2,a3,cc,fu,ta,f,rfl,_,gc,gf,T,iq,em,dx,na⟩
 refine⟨iq.len,?_⟩
 have c0:=bQ.kx iq (by simp)
 have cB:=iq.kq bo
 have cw:=iq.kq cv
 have bt:=iq.kq bS
 simp only[qz 28]
 refine stW cB rfl rfl λeo N bV=>?_
 have cx:=N.kq cw
 have bu:=N.kq bt
 have c1:=c0.fx N (by simp)
 have n4:∀{q:Id},q.1≠4->q∉[((4,1):Id)]:=(by grind)
 have cC:=gc.fx N (by grind)
 have cG:=gf.fx N (by grind)
 have c4:=T.fx N (by simp)
 have es:aN (V 4) (eD S fl)=V (.a<|eD S fl):=rfl
 simp only[qz 30,u0,u1,bu,bV,es,J3,aj,↓uL]
 refine cy (y:=4) (cs:=eD S fl) bV rfl rfl (by simp) λdD aG H=>?_
 have bl:box dD (4,1)=V ⟨124,7,U,U,[eD S fl++[cc,fu,ta]]⟩:=H
 have cz:=aG.kq cx
 have bk:=c1.fx aG (by simp)
 have cD:=cC.fx aG (by grind)
 have cH:=cG.fx aG (by grind)
 have bR:=c4.fx aG (by simp)
 have e4:eD S fl++[cc,fu,ta]=[.l (S.ak.map cg.c) fl.1 fl.2.1,iv S.tx, .l (S.done.map cb) fl.2.2.1 fl.2.2.2.1, .l (S.ay.map aoC.c) fl.2.2.2.2.1 fl.2.2.2.2.2,cc,fu,ta]:=rfl
 have bX:=bl
 rw[e4] at bX
 simp only[qz 32,qy 34,u0,u1,bX,bk.b3,TCh.c,R,G,nM,J3,aj,↓uL]
 refine bR.ix aM λb ej hb=>?_
 simp only[be4 hb aM,aY]
 refine anu bk.hl λv14 dE ao eh O=>?_
 have a7:=bk.fx ao (by simp)
 have cr:=ao.kq bl
 have cA:=ao.kq cz
 have cF:=cD.fx ao (by simp)
 have bq:=cH.fx ao (by simp)
 have c5:=bR.fx ao (by simp)
 have ri:aN (V 6) i.c=V (.a i.c):=rfl
 have el:∀{j:Nat},(j:Int).toNat=j:=(by omega)
 simp only[qz 36,qy 38,u0,u1,a7.b1,a7.b3,O,TCh.c,R,rk,pz,G,aj,ixv,bh,cd,ri,↓uL]
 refine⟨dJ aL,p1,I4 a7.hl λv15 ea co bO cq=>?_⟩
 refine stW cq rfl rfl λcn cp c6=>?_
 have ab:Fx dE cn []:=(co.trans cp).mono λq A=>by simp at A;subst A;exact .inr bO.no
 have c3:=a7.fx ab (by simp)
 simp only[qz 40,↓uL]
 refine dT (by simp[eL,lb,m8,dC,dK,sl,aTo.c]) ?_
 have bn:=ab.kq cA
 have a8:=ab.kq O
 have ec:e.c=[iv e.aq,iv e.kind,iv e.bF,iv e.value,iv e.site,sl ci e.dI,sl ci e.ep]:=rfl
 have M:SM cn v6 v7 v9 v14 v15 c ch S fl cc fu ta f u s e i:=⟨c3,ab.kq cr,⟨e.value,bn⟩,a8,c6,⟨s.cells,rfl,cF.fx ab<|by simp⟩,⟨s.bU,rfl,bq.fx ab<|by simp⟩,⟨s.ay,rfl,c5.fx ab (by simp),λk hk=>⟨rfl,rfl,(hs.th _<|ve hk).2.2.1,rfl,rfl⟩⟩⟩
 have C:SK ch cc fu v15 u s:=⟨(by grind),λq A=>⟨(dx q A).1,λeq=>?_⟩,aM,R⟩
 ·simp only[u0,u1,a8,bn,G,J3,aj,↓uL]
  refine aX3 M C λx M=>?_
  have hA:e.kind=3\/e.kind=23->aF (L (gd s.ay u).H7) i.a/\aF (L (gd s.ay u).J6) i.a:=λh=>a5 _<|bd.1 h
  have hB:e.kind=4\/e.kind=22->aF (L (gd s.ay u).H7) i.b:=λh=>(a5 _<|bd.2.1 h).1
  have hC:e.kind=5->aF (L (gd s.ay u).H7) i.a:=λh=>(a5 _<|bd.2.2 h).1
  have hO:e.kind=3\/e.kind=4->aF (L s.cells) e.bF:=λh=>by rw[f2];exact qP cj (by omega) (by omega)
  have hF:e.kind=22\/e.kind=23->aF (L s.bU) e.bF:=λh=>by rw[f3];exact oU cj (by omega) (by omega)
  simp only[qz 42,↓uL]
  refine bpD (λo=>∀{x:ae} {nx:Int},SM x v6 v7 v9 v14 v15 c ch S fl cc fu ta f u s e i->o [iv nx] x) (λ{x nx} M=>?_) λo j=>?_
  ·obtain⟨v,D⟩:=M.b9
   simp only[qz 93,aI,↓uL]
   refine bpD (λo=>∀{x:ae},SM x v6 v7 v9 v14 v15 c ch S fl cc fu ta f u s e i->o [] x) (λ{x} M=>?_) λef j=>?_
   ·have hw:dq.wrap ((gd s.ay u).ac+1)=(gd s.ay u).ac+1:=eM (by have:=B.ev;omega) (by have:=B.ev;omega)
    simp only[qz 183,aI,u0,u1,M.b14,G,nM,J3,aj,hw,↓uL]
    refine A0 M.b14 rfl (by simp) λx1 F1 b1=>?_
    simp only[List.set_cons_succ,RY] at b1
    simp only[qz 66,au,u0,u1,b1,aj,↓uL]
    refine A0 b1 rfl (by simp) λx2 F2 b2=>?_
    simp only[RY] at b2
    have F:Fx x x2 [(14,v14)]:=(F1.trans F2).mono λq A=> .inl (by simpa using A)
    have P:=M.P.fx F (by simp)
    have X:=F.kq M.b4
    obtain⟨v,D⟩:=M.keep9 F (by simp)
    obtain⟨cells,dm,gc⟩:=M.keepC F λq A g=>by have:=C.pc q A;simp at g;subst g;simp at this
    obtain⟨az,dr,gf⟩:=M.keepF F λq A g=>by have:=(C.pf q A).1;simp at g;subst g;simp at this
    obtain⟨ss,h1,T,h3⟩:=M.keepT F (by simp)
    have R:u<L ss:=by rw[h1];exact C.hu
    have S3:=h3 u R
    simp only[qz 68,↓uL]
    refine bpD (λo=>∀{x:ae} {r:List AV} {t':aNQ},PB x v6 v7 c ch->box x (4,1)=V ⟨124,7,U,U,[eD S fl++[cc,fu,ta]]⟩->box x (9,v9)=V ⟨62,7,U,U,[({e with value:=v}:aP).c]⟩->box x (14,v14)=V ⟨251,4,U,U,[r]⟩->lA x 2 1 cc (cells.map ci)->lA x 2 1 fu (az.map ci)->TTs (12,31,33) I x ta f ss (L ss)->(r=t'.c\/∃pc ev,r=[iv pc,(f u).1,(f u).2,iv ev]/\t'=⟨pc,(gd ss u).H7,(gd ss u).J6,ev⟩)->((∀l∈t'.J6,Tn l)/\L t'.H7<=1000/\L t'.J6<=1000/\0<=t'.ac/\t'.ac<=(gd s.ay u).ac+1)->o [] x) (λ{x r t'} P X D H gc gf T hr ht=>?_) λeg o=>?_
    ·have k4:∀{a b c d:AV},aN (V 4) [a,b,c,d]=V (.a [a,b,c,d]):=rfl
     have br:=C.hch
     have bb:=C.pc
     have bc:=λq A=>(C.pf q A).1
     have dw:∃y0 y1 y2 y3,r=[y0,y1,y2,y3]:=by
      rcases hr with rfl|⟨_,_,rfl,_⟩<;>exact⟨_,_,_,_,rfl⟩
     obtain⟨y0,y1,y2,y3,rfl⟩:=dw
     have dp:eY (.a [y0,y1,y2,y3])=V [y0,y1,y2,y3]:=rfl
     simp only[qz 213,aI,u0,u1,X,P.b3,H,eD,zn,dW,TCh.c,G,k4,nM,J3,aj,br,↓uL]
     refine T.ix R λb ha hb=>?_
     subst ha
     have pb:b.1=33:=by rcases T.bx with⟨h,_⟩|⟨b',h,h2,_⟩;omega;simp only[AV.m.injEq] at h;rw[h.1];exact h2
     refine Bp hb (aTy R) dp rfl (by simp) λs1 F1 b1=>?_
     have n1:∀{q:Id},q.1≠33->q∉[b]:=λh e=>h<|idb e pb
     have P1:=P.fx F1 (λq A=>by have:=idb A pb;omega)
     have af:=F1.keep _ _ (n1<|by simp) X
     have ag:=F1.keep _ _ (n1<|by simp) D
     have dd:=gc.fx F1 λq A=>n1 (by rw[bb q A];decide)
     have de:=gf.fx F1 λq A=>n1 (by rw[bc q A];decide)
     have e1:aN (V 7) (eD S fl++[cc,fu, .m b<|L ss])=V (.a<|eD S fl++[cc,fu, .m b<|L ss]):=rfl
     have e2:aN (V 7) ({e with value:=v}:aP).c=V (.a ({e with value:=v}:aP).c):=rfl
     simp only[qz 74,qy 76,u0,u1,af,ag,J3,e1,e2,↓uL]
     refine stW P1.b6 rfl rfl λs2 F2 b2=>?_
     have c8:=F2.kq P1.b7
     refine stW c8 rfl rfl λs3 F3 b3=>?_
     simp only[qz 78,↓uL]
     have cf:9∉m8 (.a<|eD S fl++[cc,fu, .m b<|L ss]):=λh=>by
      have e:m8 (.a<|eD S fl++[cc,fu, .m b<|L ss])=dK cc++(dK fu++[b.1]):=by simp[m8,dC,eD,dK]
      rw[e] at h
      simp only[dF,cE] at h
      rcases h with h|h|h
      ·obtain⟨q,A,h⟩:=aQu gc h;have:=bb q A;omega
      ·obtain⟨q,A,h⟩:=aQu gf h;have:=bc q A;omega
      ·omega
     refine dT ?_ ?_
     ·generalize AV.a (eD S fl++[cc,fu, .m b<|L ss])=b0 at cf⊢
      simp[eL,lb,aTn,cf]
     have bm:=F3.kq b2
     simp only[u0,u1,b3,bm,J3,e1,e2,↓uL]
     have N:Fx s1 s3 [(6,v6),(7,v7)]:=F2.trans F3
     have aO:∀{q:Id},q.1≠6->q.1≠7->q∉[((6,v6):Id),(7,v7)]:=λh h' e=>by simp at e;rcases e with rfl|rfl;exact h rfl;exact h' rfl
     have hT:fz s3 (.m b<|L ss)=sl aNQ.c (ss.set u t'):=by
      have g1:∀k,k<L ss->rS s3 (f k).1=sl ci (gd ss k).H7/\rS s3 (f k).2=sl cl (gd ss k).J6:=λk hk=>
       ⟨aWh<|((T.g1 k hk).fx F1 λq A=>n1<|by rw[T.p1 k hk q A];decide).fx N λq A=>aO (by rw[T.p1 k hk q A];decide)<|by rw[T.p1 k hk q A];decide,(((T.g2 k hk).fx F1 λq A=>n1<|by rw[T.p2 k hk q A];decide).fx N λq A=>aO (by rw[T.p2 k hk q A];decide)<|by rw[T.p2 k hk q A];decide).fr⟩
      refine bfC T R (N.keep _ _ (aO (by rw[pb];decide)<|by rw[pb];decide) b1) ?_ g1
      simp only[CE,dW,nM,List.drop_nil,cL]
      rcases hr with h|⟨pc,ev,h,rfl⟩
      ·rw[h];rfl
      ·rw[h]
       simp only[ji,mU,(g1 u R).1,(g1 u R).2]
       rfl
     have x4:=aBr (dd.fx N λq A=>aO (by rw[bb q A];decide)<|by rw[bb q A];decide)
     have x5:=aBr (de.fx N λq A=>aO (by rw[bc q A];decide)<|by rw[bc q A];decide)
     refine aOH (vs':=[.a<|atC.c ⟨S,cells,az,ss.set u t'⟩, .a ({e with value:=v}:aP).c,bv U]) ?_ (by simp[iX,atC.c,aP.c,aW.c,eN,sl])<|cJ cells az ss v t' dm dr h1 h3 ht
     simp only[ji,mU,fzT,eD,x4,x5,hT,bcz,aWt,zn,dW]
     rfl
    have ca:=B.ev
    have b5:=o P X D b2 gc gf T (.inr ⟨nx,_,rfl,rfl⟩) ⟨S3.2.2.1,by rw[S3.1];exact B.rl,by rw[S3.2.1];exact B.tl,by simp only;omega,by simp only;omega⟩
    have hb:=B.hu
    have k4:∀{a b c d:AV},aN (V 4) [a,b,c,d]=V (.a [a,b,c,d]):=rfl
    have ke:({e with value:=v}:aP).c=[iv e.aq,iv e.kind,iv e.bF,iv v,iv e.site,sl ci e.dI,sl ci e.ep]:=rfl
    have kc:aN (V 2) (gd c.ay u).c=V (.a (gd c.ay u).c):=rfl
    rcases q1:Q (e.kind≠16) with _|_
    ·simp only[qz 215,u0,u1,D,ke,G,nM,J3,aj,q1,↓jN,a7c,↓iB,↓uL]
     exact b5
    ·rcases q2:Q (e.kind≠2) with _|_
     ·simp only[qz 215,u0,u1,D,ke,G,nM,J3,aj,q1,q2,↓jA,↓iB,↓uL]
      exact b5
     ·simp only[qz 215,u0,u1,D,ke,P.b1,P.b3,b2,TCh.c,C.hch,rk,pz,G,k4,kc,aj,ixv,bh,q1,q2,↓jA,↓iC,↓uL]
      refine⟨dJ hb,?_⟩
      refine baY (s:=⟨nx,(gd ss u).H7,(gd ss u).J6,(gd s.ay u).ac+1⟩) P.hl (.of (T.g1 u R)) (.of (e:=38)<|T.g2 u R) (λq A=>by have:=T.p1 u R q A;simp at this;omega) B.rg B.il (by have:=B.rl;simp only;have:=S3.1;omega) (by have:=B.tl;simp only;have:=S3.2.1;omega) S3.2.2.1 λok s' x3 h' F3=>?_
      have bm:=F3.kq b2
      simp only[qz 70,oJ,pG,aY,↓uL]
      refine stW bm rfl rfl λx4 F4 c7=>?_
      simp only[qz 72,↓uL]
      refine dT (by simp[eL,lb,m8,dC,dK,aNQ.c,sl]) ?_
      have ap:Fx x2 x4 [(14,v14)]:=(F3.trans F4).mono λq A=> .inl (by simpa using A)
      refine o (P.fx ap<|by simp) (ap.kq X) (ap.kq D) c7 (gc.fx ap λq A g=>?_) (gf.fx ap λq A g=>?_) (T.fx ap<|by simp) (.inl rfl) ⟨h'.1,h'.2.1,h'.2.2.1,?_,?_⟩
      ·have:=C.pc q A;simp at g;subst g;simp at this
      ·have:=(C.pf q A).1;simp at g;subst g;simp at this
      ·rcases h'.2.2.2 with e|e<;>(try simp only at e)<;>omega
      ·rcases h'.2.2.2 with e|e<;>(try simp only at e)<;>omega
   rcases q1:Q (e.kind=3) with _|_<;>rcases q2:Q (e.kind=23) with _|_<;>simp only[qz 185,u0,u1,D,aOf,M.b14,M.b15,pz,G,nM,J3,aj,q1,q2,↓jA,↓jN,aUw,↓iC,↓iB,wY,↓uL]
   ·exact j M
   all_goals
    obtain⟨h1,h2⟩:=hA (by simp only[I8,apT] at q1 q2;omega)
    refine bfi M C h1 λ_ y E=>?_
    have hb:aX bH 1 y [(0,iv (gd s.ay u).ac)]=V (.l ([(gd s.ay u).ac].map ci) U U,y):=iz
    simp only[qz 60,u0,u1,E.b14,E.b15,pz,G,aj,hb,qz 62,qy 64,↓uL]
    exact bfj E C (Tn.one ⟨B.ev.1,by have:=B.ev.2;omega⟩) h2 λz M2=>j M2
  obtain⟨v,D⟩:=M.b9
  have X:=M.b4
  rw[e4] at X
  have H:=M.b14
  have O:=M.b15
  have val:∀{w:Int} {K:ae->Prop},(∀y,SM y v6 v7 v9 v14 v15 c ch S fl cc fu ta f u s e i->K y)->sV (aK 1 x (.p (9,v9) 0 3)<|iv w) K:=λh=>aX3 M C h
  simp only[qz 95,u0,u1,D,aOf,pz,G,nM,J3,aj,↓uL]
  refine bsp (λo=>o [bv U]/\o [bv I]) ⟨?_,?_⟩ λee h=>by
   rcases q1:Q (e.kind=1) with _|_<;>rcases q2:Q (e.kind=16) with _|_<;>rcases q3:Q (e.kind=2) with _|_<;>simp only[qz 107,u0,u1,q1,q2,q3,↓iC,↓iB,↓uL]
   all_goals first|exact h.2|exact h.1
  ·simp only[qz 105,qy 44,qy 46,au,aI,↓uL]
   simp only[u0,u1,H,pz,G,aj,↓iC,↓uL]
   exact j M
  simp only[qz 105,qy 44,qy 46,au,aI,↓iB,↓uL]
  rcases q4:Q (e.kind=3) with _|_
  rotate_left
  ·simp only[u0,u1,D,aOf,X,pz,G,aj,↓iC,↓iB,q4,↓uL]
   exact bfe M (hO<|.inl<|asq q4) λw=>val λy E=>j E
  rcases q5:Q (e.kind=23) with _|_
  rotate_left
  ·simp only[u0,u1,D,aOf,X,pz,G,aj,↓iC,↓iB,q4,q5,↓uL]
   exact bff M (hF<|.inr<|asq q5) λw=>val λy E=>j E
  rcases q6:Q (e.kind=4) with _|_
  rotate_left
  ·simp only[u0,u1,D,aOf,H,O,pz,G,aj,↓iC,↓iB,q4,q5,q6,↓uL]
   refine aX2 M C (hB<|.inl<|asq q6) λw=>val λy E=>?_
   obtain⟨v1,ag⟩:=E.b9
   have af:=E.b4
   rw[e4] at af
   simp only[qz 48,qy 50,u0,u1,ag,aOf,af,G,nM,J3,aj,↓uL]
   exact bfg E C (hO<|.inr<|asq q6) λ_ y M2=>j M2
  rcases q7:Q (e.kind=22) with _|_
  rotate_left
  ·simp only[u0,u1,D,aOf,H,O,pz,G,aj,↓iC,↓iB,q4,q5,q6,q7,↓uL]
   refine aX2 M C (hB<|.inr<|asq q7) λw=>val λy E=>?_
   obtain⟨v1,ag⟩:=E.b9
   have af:=E.b4
   rw[e4] at af
   simp only[qz 52,qy 54,u0,u1,ag,aOf,af,G,nM,J3,aj,↓uL]
   exact bfh E C (hF<|.inl<|asq q7) λ_ y M2=>j M2
  rcases q8:Q (e.kind=5) with _|_
  ·simp only[u0,u1,↓iB,q4,q5,q6,q7,q8,↓uL]
   exact j M
  simp only[u0,u1,D,aOf,aj,↓iC,↓iB,q4,q5,q6,q7,q8,↓uL]
  refine val λy E=>?_
  obtain⟨v1,ag⟩:=E.b9
  simp only[qz 56,u0,u1,E.b14,E.b15,pz,G,aj,↓uL]
  refine aX2 E C (hC<|asq q8) λw=>?_
  simp only[u0,u1,ag,↓uL]
  refine⟨λ_=>aX3 E C λz M2=>?_,λ_=>j E⟩
  simp only[qz 58,u0,u1,M2.b15,pz,aj,↓uL]
  exact j M2
 ·obtain⟨x,hx⟩:=aTi bq q A
  subst eq
  exact bO.no x hx
def aUk:FT:=vn aXt
def bcb{c s ch Lw K}:=f311 aUk aXt c s ch Lw K (j:=by simp+contextual only[ij,ijv])
def a7H:dO:=(187,aUk)::aYe
def a7q:eJ a7H:=sz (By aXt)<|a7p
def a6s:=ai @bcb<|@aWn
section
attribute[local irreducible] aX
def a9N:=I5 11 [(3,([2,10],[3,4,5,9])),(6,([2],[3,4,5,9,10]))]
def aVp a b c d e R:=(.mk _:NS a7H a9N Tryz.f120 [.u, .u,c,d] [a,b] e R).p
def bhm{c0:List AV}{b:List AV}{c d:AV}{s0:ae}{R:be}(hs:L s0=4096)(l0:L c0=7)(l1:L b=7)(h:HB2 129 7 4 c0 124 7 5 b s0 λf g e=>aVp f g c d e R):EB 120 [.a c0, .a b,c,d] s0 R:=zB2 a9N a7q Tryz.func120 hs l0 l1 h
end
def bcu{Y:ae}{a:AV}{cs c:List AV}{bA:List (List AV)}{e:TypeId}{z:Nat}(g:lA Y e z a bA)(h:cs.map (lz Y)=c):aOo Y (.t [a, .a cs])= .t [.l bA I I, .a c]:=by have f:nrm (eR Y a)= .l bA I I:=(by rw[<-aOb g];rcases g with⟨_,rfl⟩|⟨b,m,rfl,d⟩;rfl;simp[eR,gi,d,nrm,lz]);have i:nrm (eR Y<|.a cs)= .a (cs.map<|lz Y):=(by simp only[eR,nrm,vA];rfl);grind [aOo]
def bdt{Y:ae}{c:aBY}{s:atC}{f:List TCh}(Z:L Y=4096)(hc:aPU c)(hb:aOc c)(hs:StB 0 s)(hn:L f<=100):∃r Y1,((∃(l:List aP) (s':atC),r= .t [sl aP.c l, .a s'.c]/\L l<=100/\∀e∈l,EvL e)/\Fx Y Y1 [])/\cZ aS GG 120 [.a c.c, .a s.c, .l [] U U,sl TCh.c f] Y r Y1:=by generalize hQ:(λ(r:AV) (y:ae)=>(∃(l:List aP) (s':atC),aOo y r= .t [sl aP.c l, .a s'.c]/\L l<=100/\∀e∈l,EvL e)/\Fx Y (kills y<|aNW r) [])=Qq;refine aQR (R:=Qq) ?_ (by grind);refine bhm Z rfl rfl λs4 v4 v5 K4 bl bm bn b4 b5=>?_;have W:Fx Y s4 []:=K4.fx [];simp only[aVp,qy 6];refine I4 (W.len.trans Z) λv9 s6 n N6 b9=>?_;have ah:Fx Y s6 []:=W.trans n;have n9:∀y,box Y (9,v9)≠V y:=(N6.old W).no;have rc:aN (V 7) c.c=V (.a c.c):=rfl;have N:∀{s:atC},aN (V 7) s.c=V (.a s.c):=rfl;have re:∀{s:aP},aN (V 7) s.c=V (.a s.c):=rfl;have aK:∀{s:TCh},aN (V 2) s.c=V (.a s.c):=rfl;have az:∀{x:ae} {j:Int} {K:cC},rV (cz 2 x (sl TCh.c f)<|iv j) K=(aF (L f) j/\K (.q<|TCh.c<|gd f j.toNat)):=aBz λ_=>rfl;refine jD (α:=AV) (λa i=>[a,iv i]) 1 (L f) (λk a x=>Fx Y x []/\box x (4,v4)=V ⟨129,7,U,U,[c.c]⟩/\(∃s',box x (5,v5)=V ⟨124,7,U,U,[s'.c]⟩/\StB k s')/\box x (9,v9)=V ⟨124,7,U,U,[aOO]⟩/\∃l:List aP,L l<=k/\(∀e∈l,EvL e)/\lA x 62 7 a (l.map aP.c)/\∀q∈aA a,q.1=41/\∀y,box Y q≠V y) (s0:= .l [] U U) ⟨ah,n.kq b4,(by grind [Fx.keep]),b9,[],by simp,by simp, .inl ⟨rfl,rfl⟩,by simp[aA]⟩ ?_;rintro k a x hk ⟨F,E,⟨s',H,S⟩,M,l,bk,B,g,pa⟩;have C:=F.len.trans Z;have aC:fS x a=V (iv<|L l):=(by rw[g.ln,bJ]);rcases q1:Q ((k:Int)<(L f:Int)) with _|_;simp only[qz 19,qy 22,aI,au,u0,u1,H,N,q1,↓jN,a7c,↓iB,J3,↓uL];refine stW M rfl rfl λs7 F7 b7=>?_;simp only[b7,aQd,qh,df,N,aY];have X:=g.fx F7 λq o h=>(by have:=(pa q o).1;simp at h;subst h;simp at this);show Qq (.t [a, .a s'.c]) s7;rw[<-hQ];refine⟨⟨l,s',bcu X rfl,by omega,B⟩,((F.trans F7).trans<|aOp _ _).mono λq o=> .inr ?_⟩;have ei:aNW (.t [a, .a s'.c])=aA a:=(by have:=aQX X;rcases X with⟨_,rfl⟩|⟨b,m,rfl,_⟩<;>simp[aNW,eB,iR,atC.c,aW.c,sl,aA]);grind;have q2:Q (((L l:Nat):Int)<400)=U:=(by grind);simp only[qz 19,qy 22,aI,au,u0,u1,aC,q1,q2,↓jA,aUw,↓iC,J3,↓uL];have P:k<L f:=(by simp_all);refine bsK (λd=>∀{w:AV} {y:ae} {s3:atC} {l':List aP},Fx Y y []->box y (4,v4)=V ⟨129,7,U,U,[c.c]⟩->box y (5,v5)=V ⟨124,7,U,U,[s3.c]⟩->StB (k+1) s3->box y (9,v9)=V ⟨124,7,U,U,[aOO]⟩->L l'<=k+1->(∀e∈l',EvL e)->lA y 62 7 w (l'.map aP.c)->(∀q∈aA w,q.1=41/\∀z,box Y q≠V z)->d [w] y) ?_ λd j6=>?_;intro w y s3 l' F E H hs M h1 h2 g p;simp only[qz 39,aI,au,u0,u1,↓uL];exact dR (mk:=λ(a:AV) i=>[a,iv i]) (s:=a) (s':=w) (λ_ _=>rfl) P (by omega) (by grind);simp only[qz 41,u0,u1,E,H,N,rc,az,aK,bh,ar,Fa,a6s,rr,J3,↓uL];refine⟨dJ P,(by grind),?_⟩;rintro r ⟨s2,e,ok,rfl,aD⟩;refine⟨by simp[lo,nA,eB,iR,aBY.c,J9.c,atC.c,aW.c,TCh.c,sl],?_⟩;simp only[oJ,pG,KM,aY];refine I4 C λbo x1 F1 N1 b1=>?_;simp only[qz 8];refine I4 (F1.len.trans C) λbp x2 F2 N2 b2=>?_;have an:=F2.kq b1;simp only[qz 10];refine stW an rfl rfl λx3 F3 b3=>?_;have ao:=F3.kq b2;simp only[qz 12];refine stW ao rfl rfl λx4 O aq=>?_;have ap:=O.kq b3;have G:Fx x x4 []:=(((F1.trans F2).trans F3).trans O).mono (by grind [bK.no,bK.old]);simp only[qz 14,↓uL];refine dT (by simp[ck,eL,lb,Qh,m8,dC,dK,sl,TCh.c,atC.c,aW.c,aP.c,aBY.c,J9.c]) ?_;have T:=G.kq H;have g4:=g.fx G (by simp);have aB:=G.len.trans C;have aL:StB k s'->StB (k+1) s':=λh=>⟨h.sy.mono (by omega),h.ce,h.fu,h.tl,λt ht=>by obtain⟨w1,w2,w3,w4,w5⟩:=h.th t ht;exact⟨w1,w2,w3,w4,by omega⟩⟩;cases ok with|false=>simp only[↓iB];exact j6 (F.trans G) (G.kq E) T (aL S) (G.kq M) (by omega) B g4 pa|true=>obtain⟨he,aE⟩:=aD rfl;simp only[↓iC,u0,u1,ap,N,J3,↓uL];refine stW T rfl rfl λx5 v aw=>?_;have av:=v.kq aq;have g5:=g4.fx v λq o h=>(by have:=(pa q o).1;simp at h;subst h;simp at this);have ay:aX btV 1 x5 [(0, .a e.c)]=V (.l ([e].map aP.c) U U,x5):=ua rfl rfl rfl (by decide) (by simp[aP.c,eN,sl]) (by decide);have u:∀{l:List aP},∀r∈l.map aP.c,L r=7:=qW (by intro _;rfl);simp only[qz 16,qy 18,qy 20,u0,u1,av,re,ay,J3,↓uL];refine apQ g5 (v.len.trans aB) u u (by simp) (by simp;omega) λw x6 g6 n P6=>?_;have D:∀{q:Id},q.1≠41->q∉aA a:=(by grind);have A:Fx Y x5 []:=((F.trans G).trans v).mono (by grind);refine j6 (l':=l++[e]) ((A.trans n).mono<|by grind) (n.keep _ _ (D<|by simp)<|v.kq<|G.kq E) (n.keep _ _ (D<|by simp) aw) (aE k (by omega) S) (n.keep _ _ (D<|by simp)<|v.kq<|G.kq M) (by simp;omega) (λy hy=>?_) (by grind [bc.p]) λq o=>⟨(P6 q o).2,((P6 q o).1.old A).no⟩;rcases dF.1 hy with h|h;exact B y h;grind
def aYf:dO:=a7H
def a7r:eJ aYf:=a7q
def a6t:=@a6s
section
attribute[local irreducible] aX
def aVj a a1 b R:=(.mk _:NF<|zF GGV aYf ato Tryz.f58 [.u,a1] [a] b<|I3 Tryz.f58 R).p
def bhi{c0:List AV}{a1:AV}{R:cC}(l0:L c0=7)(h:∀b:ae,L b=4096->box b (2,1)=V ⟨129,7,U,U,[c0]⟩->(∀k,k≠2->aZ b k=mO)->aVj (.p (2,1) 0 0) a1 b R):Fn aS GG 58 [.a c0,a1] R:=by refine fnV (uq ready (aQ9 a7r) Tryz.func58 (an:=ato) (by kernel_rfl)<|Eq.mpr (show ZF aS GGV aYf ato Tryz.f58 [.a c0,a1] R=(eV (bxA 129 7 (ly Tryz.f58) 2<|.a c0) λc b=>aVj c a1 b R) by kernel_rfl) ?_);refine mY (N:=4096) rfl l0 (by decide) (by decide) uB (by rw[i8]) λb f d g g0=>?_;exact h b f d (λk e=>by rw[g0 k e];exact i8 _ k)
end
theorem Kx.fx0{Y Y':ae}(k:Kx [] Y Y'){b:Id}{x:bY}(h:box Y b=V x):box Y' b=V x:=k.keep b x (by simp) h
def baV{Y:ae}{c:aBY}{s:atC}{f:List TCh}{d:Nat}{K:be}(u:L Y=4096)(q:aPU c)(o:aOc c)(hs:StB 0 s)(w:L f<=100)(n:∀(l:List aP) (s':atC) g,L l<=100->(∀e∈l,EvL e)->Kx [] Y g->K (.t [sl aP.c l, .a s'.c]) g):cV 120 [.a c.c, .a s.c, .l [] U U,sl TCh.c f] Y d K:=by refine aQN rfl rfl [] (λx j=>?_) (by intro p h;simp at h) (bdt (aOr.trans u) q o hs w) ?_;simp only[eW,ql,bjf] at j;rcases j with rfl|rfl|rfl|rfl;intro y b;simp only[aBY.c,J9.c,dF,eW,ql,bjf,or_assoc] at b;rcases b with rfl|rfl|rfl|rfl|rfl|rfl|rfl<;>exact .inl (by simp[eN]);intro y b;simp only[atC.c,aW.c,dF,eW,ql,bjf,or_assoc] at b;(rcases b with rfl|rfl|rfl|rfl|rfl|rfl|rfl<;>first|trivial|exact .inl (by simp[eN]));exact .inr rfl;exact .inl (by simp[eN]);rintro r g ⟨⟨l,s',rfl,k,m⟩,F⟩;refine⟨F.len.trans aOr,[],(by intro p h;simp at h),?_,n l s' _ k m Kx.mix⟩;intro v i;simp only[eW,ql,bjf] at i;rcases i with rfl|rfl;exact .inl (by simp[eN]);intro y b;simp only[atC.c,aW.c,dF,eW,ql,bjf,or_assoc] at b;rcases b with rfl|rfl|rfl|rfl|rfl|rfl|rfl<;>first|trivial|exact .inl (by simp[eN])
def aXr(c:aBY)(f:List TCh)(hp:aOc c/\L f<=100):Ct 58 [.a c.c,sl TCh.c f] (λr=>∃(t:aOx) (s:atC),r= .t [.a t.c, .a s.c]/\L t.ac<=100/\∀e∈t.ac,EvL e):=by obtain⟨m,hn⟩:=hp;generalize F:(λ(r:AV)=>∃(t:aOx) (s:atC),r= .t [.a t.c, .a s.c]/\L t.ac<=100/\∀e∈t.ac,EvL e)=Qq;refine aDq (bhi rfl λs2 n S h0=>?_);simp only[aVj,qy 4];refine I4 n λv4 s4 w N4 T=>?_;refine I4 (w.len.trans n) λv5 p x N6 C=>?_;have d:=x.kq T;have b:Fx s2 p []:=w.trans x;have E:=b.kq S;have g:=b.len.trans n;have hz:bM aOO aon []=V (.a aOO):=rfl;have H:bM bs2 [(0,6),(6,1)] []=V (.a bs2):=rfl;have rc:aN (V 7) c.c=V (.a c.c):=rfl;simp only[qz 6,qy 8,u0,u1,E,rc,J3,a6t,ar,Fa,hz,H,↓uL];have i:∀{r:AV},lo p [.a c.c] r:=(by intro r;simp[lo,nA,eB,iR,aBY.c,J9.c,sl]);refine⟨m,?_⟩;rintro _ ⟨ok,rfl,h⟩;refine⟨i,?_⟩;simp only[aIN,aY];cases ok with|false=>simp only[kN,↓iC];refine stW d rfl rfl λs7 P k=>?_;refine stW (P.kq C) rfl rfl λs8 R W=>?_;have D:=R.kq k;have rz:aN (V 7) aOO=V (.a aOO):=rfl;have N:aN (V 7) bs2=V (.a bs2):=rfl;simp only[qz 10,u0,u1,W,D,rz,N,J3,↓uL];refine aOH (vs':=[.a<|aOx.c ⟨⟨[],[],[],[],[],[]⟩,[]⟩, .a<|atC.c ⟨⟨[],0,[],[]⟩,[],[],[]⟩]) rfl rfl ?_;rw[<-F];exact⟨_,_,rfl,by simp,by simp⟩|true=>simp only[fh,↓iB];refine⟨⟨h rfl,m⟩,?_⟩;rintro _ ⟨s,rfl,hs⟩;refine⟨i,?_⟩;refine baV g (h rfl) m hs hn λl s' av h1 h2 y=>?_;have o:=y.len.trans g;simp only[qz 12,qy 14,oJ,pG,aY];refine I4 o λv7 aw ap au k=>?_;refine stW k rfl rfl λO aq X=>?_;have up:∀{q:Id} {z:bY},q≠(7,v7)->box p q=V z->box O q=V z:=(by grind [Fx.keep,Kx.fx0]);have Z:=up (by simp) E;have d4:=up (by simp) d;have d5:=up (by simp) C;have K:aN (V 6) c.c=V (.a c.aQ.c):=rfl;have M:aN (V 7) s'.c=V (.a s'.c):=rfl;have rt:aN (V 7) (aOx.c ⟨c.aQ,l⟩)=V (.a<|aOx.c ⟨c.aQ,l⟩):=rfl;have G:bM bs2 [(0,6),(6,1)] [(0, .a c.aQ.c),(1,sl aP.c l)]=V (.a<|aOx.c ⟨c.aQ,l⟩):=rfl;simp only[qz 16,↓uL];refine dT (by simp[eL,lb,lbV,Qh,m8,dC,dK,aBY.c,atC.c,aW.c,J9.c,sl]) ?_;simp only[u0,u1,Z,X,K,M,G,aj,J3,↓uL];refine stW d4 rfl rfl λax u A=>?_;simp only[qz 18];refine stW (u.kq d5) rfl rfl λay v B=>?_;have j:=v.kq A;simp only[qz 20,↓uL];refine dT (by simp[eL,lb,lbV,m8,dC,dK,atC.c,aW.c,J9.c,aOx.c,sl]) ?_;simp only[u0,u1,j,B,M,rt,J3,↓uL];refine aOH (vs':=[.a<|aOx.c ⟨c.aQ,l⟩, .a s'.c]) rfl (by simp[iX,eN,aOx.c,J9.c,atC.c,aW.c,sl]) ?_;rw[<-F];exact⟨_,_,rfl,h1,h2⟩
def aUi:FT:=pn aXr
def bb9{c chs Lw K}:=f211 aUi aXr c chs Lw K (j:=by simp+contextual only[ij,ijv])
def a7I:dO:=(58,aUi)::aYf
def a7s:eJ a7I:=sz (aN0 aXr)<|a7r
def aWo:=ai @bb9<|@a6t
section
attribute[local irreducible] aX
def a9X:=I5 18 [(1,([0],[1,4])),(8,([28],[1,4,5,6,26,27]))]
def a4B a a1 s0 R:=(.mk _:NR a7I a9X Tryz.f21 [a,a1] [] s0 R).p
def bhv{a a1:AV}{R:cC}(h:H0 λs0=>a4B a a1 s0 R):Ct 21 [a,a1] R:=z0 a9X a7s Tryz.func21 h
end
section
attribute[local irreducible] aX
def aVO b a c R:=(.mk _:NS aR3 ato Tryz.f116 [b, .u] [a] c R).p
def bhx{c:AV}{b:List AV}{s0:ae}{R:be}(hs:L s0=4096)(l1:L b=7)(h:HB1 40 7 3 b s0 λe d=>aVO c e d R):EB 116 [c, .a b] s0 R:=zB1 ato aPL Tryz.func116 hs l1 h
def a90:=I5 25 [(3,([8],[0,2,7])),(6,([16],[0,2,7])),(9,([21],[0,2,7])),(14,([26],[0,2,7])),(21,([33],[0,2]))]
def aRx a a1 b s0 R:=(.mk _:NS aR3 a90 Tryz.f183 [a,a1,b] [] s0 R).p
def bhA{a a1 b:AV}{s0:ae}{R:be}(hs:L s0=4096)(h:aRx a a1 b s0 R):EB 183 [a,a1,b] s0 R:=zB a90 aPL Tryz.func183 h
def a93:=I5 21 [(7,([24],[0,5,10]))]
def aRz b a c d e R:=(.mk _:NS aR3 a93 Tryz.f184 [b, .u,c,d] [a] e R).p
def bhD{c:AV}{b:List AV}{d e:AV}{s0:ae}{R:be}(hs:L s0=4096)(l1:L b=7)(h:HB1 40 7 5 b s0 λg f=>aRz c g d e f R):EB 184 [c, .a b,d,e] s0 R:=zB1 a93 aPL Tryz.func184 hs l1 h
def a92:=I5 11 [(4,([5,10],[0,1,8,9])),(7,([5],[0,1,8,9,10]))]
def aVX a a1 s0 R:=(.mk _:NS aR3 a92 Tryz.f185 [a,a1] [] s0 R).p
def bhC{a a1:AV}{s0:ae}{R:be}(hs:L s0=4096)(h:aVX a a1 s0 R):EB 185 [a,a1] s0 R:=zB a92 aPL Tryz.func185 h
def a5J:=I5 39 [(4,([16],[0,4,5,15])),(7,([],[0,4,5,15,16])),(10,([7],[0,4,5,6,15,16])),(17,([64],[0,4,5,63])),(20,([],[0,4,5,63,64])),(26,([],[0,4,5])),(28,([],[0,4,5])),(33,([143],[0,4,5,142]))]
def aSH b a c R:=(.mk _:NF<|zF GGV aR3 a5J Tryz.f55 [b, .u] [a] c<|QDb Tryz.f55 R).p
def bhw{c:AV}{b:List AV}{s0:ae}{R:be}(hs:L s0=4096)(l1:L b=6)(h:HB1 31 6 3 b s0 λe d=>aSH c e d R):EB 55 [c, .a b] s0 R:=aTc<|zB1 a5J (aQ9 aPL) Tryz.func55 hs l1 h
def a5K:=I5 13 [(4,([],[0,3,5,6,8,9,11])),(8,([],[0,3,8,9,11])),(10,([],[8,11]))]
def aSL c a b d e R:=(.mk _:NF<|zF GGV aR3 a5K Tryz.f117 [c, .u, .u,d] [a,b] e<|QDb Tryz.f117 R).p
def bhy{d:AV}{b:List AV}{c:List AV}{e:AV}{s0:ae}{R:be}(hs:L s0=4096)(l1:L b=7)(f:L c=6)(h:HB2 40 7 5 b 31 6 6 c s0 λi j g=>aSL d i j e g R):EB 117 [d, .a b, .a c,e] s0 R:=aTc<|zB2 a5K (aQ9 aPL) Tryz.func117 hs l1 f h
end
def bt:(∀p:Prop,(True->p)=p)/\(∀p:Prop,(False->p)=True)/\((I=U)=False)/\((U=I)=False)/\(∀p:Prop,(p/\True)=p)/\(∀p:Prop,(True/\p)=p)/\(∀b,(U||b)=U)/\(∀b,(I||b)=b)/\(∀b,(b||U)=U)/\(∀b,(b||I)=b)/\(∀b,(U&&b)=b)/\(∀b,(I&&b)=I)/\(∀b,(b&&U)=b)/\(∀b,(b&&I)=I)/\(∀α:Sort 1,(α->True)=True):=by refine⟨λp=>by simp,λp=>by simp,by simp,by simp,λp=>by simp,λp=>by simp,by simp,by simp,by simp,by simp,by simp,by simp,by simp,by simp,by simp⟩
def aS3{Y:ae}{b:Id}{l:List Int}{a d:Nat}{n:Int}{K:be}(Lw:List Id)(W:L Y=4096)(z:b.1=14\/b.1=15\/b.1=16)(T:Tp Y b l a)(o:∀q∈Lw,(q.1=14\/q.1=15\/q.1=16)/\∃x,box Y q=V x/\x.var=I)(R:∀(x:Int) (g:Nat) i,0<=x->(1<=n->x<n)->Tp i b l g->a<=g->(a<L l->1<=n->g=a+1)->Kx [14,15,16] Y i->(∀q∈Lw,∀x,box Y q=V x->box i q=V x)->K (iv x) i):cV 115 [.p b 0 0,iv n] Y d K:=by have m:∀{q:Id},q.1=14\/q.1=15\/q.1=16->q.1∈[14,15,16]:=λh=>(by rcases h with h|h|h<;>simp[h]);have X:okI [14,15,16] (b::Lw) b:=⟨m z,by simp⟩;have C:b∉Lw:=λh=>(by obtain⟨_,x,c,v⟩:=o b h;rw[T.bx] at c;cases c;cases v);have w:∀q∈Lw,∀x,box Y q=V x->box (bim [14,15,16] (b::Lw) Y) q=V x:=λq e x c=>(by rw[aOV<|m (o q e).1,lD<|by simp[e]];exact c);have A:Tp (bim [14,15,16] (b::Lw) Y) b l a:=⟨by rw[aOV<|m z,lD<|by simp];exact T.bx,T.le,T.ok,T.ll⟩;have bA:∀(Y':ae) (g:Nat),Tp Y' b l g->(∀q∈Lw,∀x,box Y q=V x->box Y' q=V x)->okB [14,15,16] (b::Lw) Y':=λY' g H S p t x c v q e y G=>(by rcases eW.1 t with rfl|t;rw[H.bx] at c;cases c;simp only[cE] at e;subst e;simp only[eW,ql,bjf] at G;rcases G with rfl|rfl;exact .inl rfl;trivial;obtain⟨_,x',E,D⟩:=o p t;rw[S p t x' E] at c;cases c;rw[D] at v;cases v);refine aQN rfl rfl (b::Lw) (λx c=>?_) (bA _ _ A w) (aWF (aOr.trans W) A n) ?_;simp only[eW,ql,bjf] at c;rcases c with rfl|rfl;exact X;trivial;rintro r i ⟨x,g,rfl,M,N,j,O,P,F⟩;have k:L i=L Y:=F.len.trans aOr;have kp:∀q∈Lw,∀x,box Y q=V x->box i q=V x:=λq e x c=>F.keep _ _ (by simp only[cE];rintro rfl;exact C e)<|w q e x c;exact⟨k,b::Lw,bA _ _ j kp,trivial,R x g _ M N ⟨by rw[aPT k<|m z,lD<|by simp];exact j.bx,j.le,j.ok,j.ll⟩ O P Kx.mix λq e x c=>by rw[aPT k<|m (o q e).1,lD<|by simp[e]];exact kp q e x c⟩
def aPu{Y:ae}{b:Id}{l:List Int}{a d:Nat}{n:Int}{K:be}(m:L Y=4096)(T:Tp Y b l a)(j:∀(x:Int) (e:Nat) c,0<=x->(1<=n->x<n)->Tp c b l e->a<=e->Fx Y c [b]->K (iv x) c):cB 115 [.p b 0 0,iv n] Y d K:=a55 m T λx e c h i g k _ F=>j x e c h i g k F
theorem k1A{x:List AV}{y:AV}:aN J (y::x)=V y:=by cases y<;>rfl
def aTE{Y:ae}{b:Id}{l:List Int}{n:Nat}(T:Tp Y b l n){e:TypeId}{z:Nat}{a:AV}{bA:List (List AV)}(g:lA Y e z a bA):∀q∈aA a,q∉[b]:=λq c h=>by
 simp only[cE] at h;subst h
 exact aNO g q c _ T.bx rfl
def bdc{Y:ae}{b:Id}{l:List Int}{a:Nat}{x0 P x2 R S x5 a6:AV}{cnt:List Int}(A:L Y=4096)(T:Tp Y b l a)(g:lA Y 3 1 a6<|cnt.map ci)(hn:L cnt<=1000):∃r j,(∃(u:Int) (e:Nat),r=iv u/\(u= -1\/aF (L cnt) u)/\Tp j b l e/\a<=e/\Fx Y j [b])/\cZ aS GG 116 [.p b 0 0, .a [x0,P,x2,R,S,x5,a6]] Y r j:=by refine bhx A rfl λN O F X M t=>?_;have c:Fx Y N []:=F.fx [];have q:=T.fx c (by simp);have m:=g.fx c (by simp);have H:((3,O):Id)∉[b]:=λh=>(by simp only[cE] at h;subst h;exact M _ T.bx);simp only[aVO,u0,u1,t,k1A,nM,J3,aj,m.ln,bJ,↓uL];rw[eM (by omega)<|by omega];refine aPu (c.len.trans A) q λu e j Z G k n i=>?_;have W:=G (by omega);have w:=i.keep _ _ H t;have g1:=m.fx i<|aTE q m;have z:dq.wrap (u-2)=u-2:=eM (by omega) (by omega);rcases o:Q (u-2<0) with _|_;simp only[apT] at o;have C:aF (L cnt) (u-2):=⟨by omega,by omega⟩;have D:Q (u-2<0)=I:=bio o;simp only[qz 4,u0,u1,z,D,w,k1A,nM,J3,aj,↓jA,a7c,↓uL];refine aTu g1 C λv=>?_;rcases E:Q (v=0) with _|_;simp only[u0,u1,E,bt,↓uL];exact⟨u-2,e,rfl, .inr C,k,n,c.trans i⟩;simp only[u0,u1,E,bt,↓uL];exact⟨-1,e,rfl, .inl rfl,k,n,c.trans i⟩;simp only[qz 4,u0,u1,z,o,↓jN,aUw,bt,↓uL];exact⟨-1,e,rfl, .inl rfl,k,n,c.trans i⟩
def baM{Y:ae}:aX bH 8 Y [(0,iv 0),(1,iv 0),(2,iv 0),(3,iv 1),(4,iv 1),(5,iv 2),(6,iv 3),(7,iv 4)]=V (.l ([0,0,0,1,1,2,3,4].map ci) U U,Y):=by kernel_rfl
section
attribute[local irreducible] aX
def bdk{Y:ae}{b:Id}{l:List Int}{a:Nat}{kd S:Int}(z:L Y=4096)(T:Tp Y b l a):∃r i,(∃(o:Int) (e:Nat),r=iv o/\(kd=3\/kd=4->0<=o/\o<5)/\Tp i b l e/\a<=e/\Fx Y i [b])/\cZ aS GG 183 [.p b 0 0,iv kd,iv S] Y r i:=by refine bhA z ?_;generalize O:(λ(r:AV) (i:ae)=>∃(o:Int) (e:Nat),r=iv o/\(kd=3\/kd=4->0<=o/\o<5)/\Tp i b l e/\a<=e/\Fx Y i [b])=R;have g:∀{o:Int} {e:Nat} {y:ae},(kd=3\/kd=4->0<=o/\o<5)->Tp y b l e->a<=e->Fx Y y [b]->R (iv o) y:=λv H M N=>(by rw[<-O];exact⟨_,_,rfl,v,H,M,N⟩);simp only[aRx,↓uL];refine btF (λc=>∀t,(t=I->¬(kd=3\/kd=4))->c [bv t]) ?_ λc w=>?_;intro t q;(cases t);have q:=q rfl;have C:∀{o:Int},R (iv o) Y:=g (λh=>aPo h q) T (dA _)<|Fx.refl _ _;simp only[qz 21,qy 2,au,aI,u0,u1,bt,↓uL];refine bsp (λc=>∀t,c [bv t]) (λt=>?_) λc j=>(by simp only[qz 41,au,u0,u1,j,aNK,aOe,bt,↓uL]);(cases t);simp only[qz 39,qy 6,au,aI,u0,u1,bt,↓uL];refine bsp (λc=>∀t,c [bv t]) (λt=>?_) λc j=>(by simp only[qz 59,au,u0,u1,j,aNK,aOe,bt,↓uL]);(cases t);simp only[qz 57,au,aI,u0,u1,bt,↓uL];refine bsp (λc=>∀t,c [bv t]) (λt=>?_) λc j=>(by simp only[qz 89,au,u0,u1,j,aNK,aOe,bt,↓uL]);(cases t);simp only[qz 87,au,aI,u0,u1,bt,↓uL];refine bsp (λc=>∀t,c [bv t]) (λt=>?_) λc j=>(by simp only[qz 131,au,u0,u1,j,aNK,aOe,bt,↓uL]);(cases t);simp only[qz 129,au,aI,u0,u1,bt,↓uL];exact C;simp only[qz 129,au,aI,u0,u1,bt,↓uL];refine aPu z T λu e i D v m n k=>?_;simp only[qz 8,u0,u1,aPR,aP1,↓uL];(first|exact g (λh=>aPo h q) m n k|exact⟨by decide,g (λh=>aPo h q) m n k⟩);simp only[qz 87,au,aI,u0,u1,bt,↓uL];exact C;simp only[qz 57,au,aI,u0,u1,bt,↓uL];exact C;simp only[qz 39,qy 6,au,aI,u0,u1,bt,↓uL];exact aPu z T λu e i D v m n k=>g (λh=>aPo h q) m n k;have G:=@baM Y;simp only[qz 21,qy 2,au,aI,u0,u1,G,bt,↓uL];refine aPu z T λu e i D v m n k=>?_;have F:=v (by decide);simp only[qz 4,tf,ci,qM,u0,↓uL];refine⟨⟨D,by simpa using F⟩,g (λ_=>?_) m n k⟩;have P:∀x∈([0,0,0,1,1,2,3,4]:List Int),0<=x/\x<5:=(by decide);exact P _ (ve<|by simp;omega);rcases A:Q (kd=3) with _|_;rcases E:Q (kd=4) with _|_;simp only[qz 23,A,E,u0,u1,bt,↓uL];refine w I λ_=>?_;simp at A E;omega;simp only[qz 23,A,E,u0,u1,bt,↓uL];exact w U (λh=>Bool.noConfusion h);simp only[qz 23,A,u0,u1,bt,↓uL];exact w U (λh=>Bool.noConfusion h)
end
theorem aRH{c:AV}{l:List Int}(h:gK c=sl ci l):∃t o,c= .l (l.map ci) t o:=by(cases c<;>first|(simp[gK,sl] at h;done)|skip);rename_i bA t o;simp only[gK,sl,AV.l.injEq] at h;exact⟨t,o,by rw[h.1]⟩
def bdL{ds:List AV}{s:sA}(h:Lk ds s.c):∃x0 g x2 i t4 o4 e a j,ds=[x0,g,x2,i, .l (s.cells.map ci) t4 o4, .l (s.bU.map ci) e a,j]:=by have k:=oC h;obtain⟨h,_⟩:=h;rcases ds with _|⟨x0,_|⟨g,_|⟨x2,_|⟨i,_|⟨m,_|⟨x5,_|⟨j,_|⟨n,ds⟩⟩⟩⟩⟩⟩⟩⟩<;>simp at k;simp only[ji,mU,sA.c,kO] at h;obtain⟨t4,o4,rfl⟩:=aRH h.2.2.2.2.1;obtain⟨e,a,rfl⟩:=aRH h.2.2.2.2.2.1;exact⟨_,_,_,_,_,_,_,_,_,rfl⟩
def bdD{Y:ae}{b:Id}{l:List Int}{a:Nat}{ds:List AV}{s:sA}{kd ob:Int}(hl:L Y=4096)(T:Tp Y b l a)(o:Lk ds s.c)(hs:L s.bW.ay<1000)(S:kd=3->aF (L s.cells) ob)(ap:0<L s.bU):∃r i,(∃(v:Int) (g:Nat),r=iv v/\Tp i b l g/\a<=g/\Fx Y i [b])/\cZ aS GG 184 [.p b 0 0, .a ds,iv kd,iv ob] Y r i:=by refine bhD hl (oC o) λZ v5 K2 aq nf D=>?_;generalize hR:(λ(r:AV) (i:ae)=>∃(v:Int) (g:Nat),r=iv v/\Tp i b l g/\a<=g/\Fx Y i [b])=R;have N:Fx Y Z []:=K2.fx [];have C:=T.fx N (by simp);have z:=N.len.trans hl;have j:∀{v:Int} {g:Nat} {y:ae},Tp y b l g->a<=g->Fx Z y [b]->R (iv v) y:=λh2 S h4=>(by rw[<-hR];exact⟨_,_,rfl,h2,S,N.trans h4⟩);have h:∀{v:Int},R (iv v) Z:=j C (dA _)<|Fx.refl _ _;obtain⟨x0,x1,x2,x3,t4,o4,t5,W,x6,rfl⟩:=bdL o;have G:∀{Y:ae},dG Y (.a [x0,x1,x2,x3, .l (s.cells.map ci) t4 o4, .l (s.bU.map ci) t5 W,x6])= .a s.c:=λ{Y}=>o.arg Y;have Bi:aN (V 7) [x0,x1,x2,x3, .l (s.cells.map ci) t4 o4, .l (s.bU.map ci) t5 W,x6]=V (.a [x0,x1,x2,x3, .l (s.cells.map ci) t4 o4, .l (s.bU.map ci) t5 W,x6]):=rfl;have k:∀{Y:ae} {l:List Int},fS Y (sl ci l)=V (iv<|L l):=cT;rcases E:Q (kd=3) with _|_;rcases M:Q (kd=23) with _|_;simp only[aRz,E,M,u0,u1,↓iB,↓uL];refine bsp (λe=>∀t,e [bv t]) (λt=>?_) λe ag=>(by simp only[qz 47,u0,u1,ag,aNK,aOe,↓uL]);(cases t);rcases F:Q (kd=5) with _|_;rcases A:Q (kd=18) with _|_;rcases H:Q (kd=19) with _|_;simp only[qz 45,qy 4,qy 6,au,aI,F,A,H,u0,u1,↓iB,bt,↓uL];exact h;simp only[qz 45,qy 4,qy 6,au,aI,F,A,H,u0,u1,↓iB,↓iC,D,Bi,J3,aPg,ar,G,bt,↓uL];refine⟨hs,?_⟩;rintro _ ⟨w,rfl,hw⟩;refine⟨by rw[lo,nA];simp[x9 o],?_⟩;simp only[k,u0,↓uL];exact h;simp only[qz 45,qy 4,qy 6,au,aI,F,A,u0,u1,↓iB,↓iC,D,Bi,J3,aPg,ar,G,bt,↓uL];refine⟨hs,?_⟩;rintro _ ⟨w,rfl,hw⟩;refine⟨by rw[lo,nA];simp[x9 o],?_⟩;rcases X:Q ((0:Int)<(L w:Int)) with _|_;simp only[k,u0,u1,X,↓iB,↓uL];exact h;simp only[k,u0,u1,X,↓iC,↓uL];simp only[I8] at X;refine aPu z C λu g i O P n q m=>?_;have af:=P (by omega);simp only[qz 8,amX,ci,qM,u0,↓uL];exact⟨⟨O,af⟩,j n q m⟩;simp only[qz 45,qy 4,qy 6,au,aI,F,u0,u1,↓iC,bt,↓uL];exact aPu z C λu g i O P n q m=>j n q m;simp only[qz 45,qy 4,qy 6,au,aI,u0,u1,bt,↓uL];exact aPu z C λu g i O P n q m=>j n q m;simp only[aRz,E,M,u0,u1,↓iB,↓iC,D,k1A,nM,J3,aj,tf,ci,qM,↓uL];exact⟨⟨by omega,by omega⟩,h⟩;simp only[aRz,E,u0,u1,↓iC,D,k1A,nM,J3,aj,tf,ci,qM,↓uL];exact⟨S (by simpa using E),h⟩
def aS1{Y:ae}{n:Int}:aX bH 1 Y [(0,iv n)]=V (.l ([n].map ci) U U,Y):=iz
def bdv{Y:ae}{b:Id}{l ns:List Int}{a:Nat}{x:AV}(E:L Y=4096)(hb:b.1≠28)(T:Tp Y b l a)(g:lA Y 3 1 x<|ns.map ci)(hn:L ns<=1000):∃r n,(∃(m:List Int) (j:Nat),lA n 3 1 r (m.map ci)/\L m<=L ns/\Tp n b l j/\a<=j/\Fx Y n [b]/\∀q∈aA r,bK Y q/\q.1=28)/\cZ aS GG 185 [.p b 0 0,x] Y r n:=by refine bhC E ?_;generalize hR:(λ(r:AV) (n:ae)=>∃(m:List Int) (j:Nat),lA n 3 1 r (m.map ci)/\L m<=L ns/\Tp n b l j/\a<=j/\Fx Y n [b]/\∀q∈aA r,bK Y q/\q.1=28)=R;simp only[aVX,g.ln,bJ,u0,↓uL];refine jD (α:=AV) (λa i=>[a,iv i]) 1 (L ns) (λk c y=>Fx Y y [b]/\(∃j,Tp y b l j/\a<=j)/\∃m:List Int,L m<=k/\lA y 3 1 c (m.map ci)/\∀q∈aA c,bK Y q/\q.1=28) (s0:= .l [] U U) ⟨Fx.refl _ _,⟨a,T,dA _⟩,[],by simp, .inl ⟨rfl,rfl⟩,by simp[aA]⟩ ?_;rintro k c y hk ⟨F,⟨j,C,X⟩,m,hm,D,w⟩;have Z:=F.len.trans E;rcases G:Q ((k:Int)<(L ns:Int)) with _|_;simp only[qz 25,aI,au,u0,u1,G,↓iB,↓uL];rw[<-hR];exact⟨m,j,D,by omega,C,X,F,w⟩;have v:k<L ns:=Int.ofNat_lt.1<|asq G;have S:=g.fx F<|aTE T g;have ek:dq.wrap ((k:Int)+3)=(k:Int)+3:=eM (by omega) (by omega);simp only[qz 25,aI,au,u0,u1,G,↓iC,↓uL];refine bsK (λe=>∀{o:AV} {z:ae} {m':List Int} {j:Nat},Fx Y z [b]->Tp z b l j->a<=j->L m'<=k+1->lA z 3 1 o (m'.map ci)->(∀q∈aA o,bK Y q/\q.1=28)->e [o] z) ?_ λe nx=>?_;intro o z m' j F T W h2 g p;simp only[qz 45,aI,au,u0,u1,↓uL];exact dR (mk:=λ(a:AV) i=>[a,iv i]) (s:=c) (s':=o) (λ_ _=>rfl) v (by omega) ⟨F,⟨_,T,W⟩,m',h2,g,p⟩;simp only[qz 47,qy 4,qy 6,u0,u1,↓uL];refine(SlR.of S).ix1 (c:=iv<|gd ns k) (by rw[bj9,eC v,bT v];rfl) λp _=>?_;simp only[S.ln,bJ,ek,u0,u1,↓uL];rcases q2:Q ((L ns:Int)<=(k:Int)+3) with _|_;simp only[u0,↓jN,a7c,bt,↓uL];exact nx F C X (by omega) D w;simp only[u0,↓jA,aUw,↓uL];refine aPu (d:=22) Z C λu a2 y2 h0 W O ak H=>?_;have P:=D.fx H<|aTE C D;have A:=(F.trans H).mono (ks':=[b]) λq t=> .inl (by simpa using t);rcases q3:Q (u=1) with _|_;simp only[u0,u1,q3,bt,↓uL];exact nx A O (by omega) (by omega) P w;simp only[u0,u1,q3,aS1,bt,↓uL];refine apQ P (A.len.trans E) pU pU (by simp) (by simp;omega) λo y3 g3 M N=>?_;have nb:b∉aA c:=λh=>hb (w b h).2;refine nx (m':=m++[gd ns k]) ((A.trans M).mono λq t=>?_) (O.fx M nb) (by omega) (by simp;omega) (by rw[dg];exact g3.p) λq t=>⟨(N q t).1.old A,(N q t).2⟩;rcases dF.1 t with h|h;exact .inl h;exact .inr (w q h).1.no
structure Rds(Y:ae)(B:Id)(f:Nat->AV)(m:Nat):Prop where
 bx:box Y B=V ⟨38,1,U,U,io 4 λi=>[f i]⟩
 gr:∀i,i<4->∃ns:List Int,L ns<=m/\lA Y 3 1 (f i) (ns.map ci)
 dj:∀i j,i<4->j<4->i≠j->∀q∈aA (f i),q∉aA (f j)
 pl:∀i,i<4->∀q∈aA (f i),q.1=47\/q.1=103
theorem Rds.kx{Y Y':ae}{B:Id}{f:Nat->AV}{m:Nat}{ks:List Nat}(O:Rds Y B f m)(k:Kx ks Y Y')(h:B.1∉ks/\47∉ks/\103∉ks):Rds Y' B f m:=⟨k.keep _ _ h.1 O.bx,λi a=>by obtain⟨ns,c,g⟩:=O.gr i a;exact⟨ns,c,k.gr g λq j=>by rcases O.pl i a q j with e|e<;>rw[e]<;>first|exact h.2.1|exact h.2.2⟩,O.dj,O.pl⟩
theorem Rds.fx{Y Y':ae}{B:Id}{f:Nat->AV}{m:Nat}{Lw:List Id}(O:Rds Y B f m)(F:Fx Y Y' Lw)(h:∀q∈Lw,q≠B/\q.1≠47/\q.1≠103):Rds Y' B f m:=⟨F.keep _ _ (λe=>(h _ e).1 rfl) O.bx,λi c=>by obtain⟨ns,g,j⟩:=O.gr i c;exact⟨ns,g,j.fx F λq k e=>by rcases O.pl i c q k with a|a<;>first|exact(h q e).2.1 a|exact(h q e).2.2 a⟩,O.dj,O.pl⟩
theorem Rds.rd{Y:ae}{B:Id}{f:Nat->AV}{m:Nat}(O:Rds Y B f m){u:Int}(h:0<=u/\u<4){K:cC}(g:K<|f u.toNat):rV (cz 1 Y (.m B 4)<|iv u) λp=>rV (vl J Y p) K:=by have a:u.toNat<4:=(by omega);have c:cz 1 Y (.m B 4) (iv u)=V (.p B u.toNat 0):=(by simp[cz,h.1,O.bx,a]);have e:vl J Y (.p B u.toNat 0)=V (f u.toNat):=(by simp[vl,iE,O.bx,uU a,aN]);rw[c,aY,e,aY];exact g
structure EvS(Y x:ae)(b:Id)(l:List Int)(a0 v5 v6 v8 v11:Nat)(ds:List AV)(B:Id)(f:Nat->AV)(u kd ob va st:Int)(dp fr:AV):Prop where
 bx:box x (11,v11)=V ⟨62,7,U,U,[[iv u,iv kd,iv ob,iv va,iv st,dp,fr]]⟩
 b8:box x (8,v8)=V ⟨62,7,U,U,[bnk]⟩
 b5:box x (5,v5)=V ⟨40,7,U,U,[ds]⟩
 b6:box x (6,v6)=V ⟨31,6,U,U,[aNE.c]⟩
 tp:∃a',Tp x b l a'/\a0<=a'
 kx:Kx [14,15,16] Y x
 pb:b.1=14\/b.1=15\/b.1=16
 gd:∃m:List Int,L m<=1000/\lA x 3 1 dp (m.map ci)
 gf:∃m:List Int,L m<=1000/\lA x 3 1 fr (m.map ci)
 pd:∀q∈aA dp,q.1=28/\∀z,box Y q≠V z
 pf:∀q∈aA fr,q.1=28/\∀z,box Y q≠V z
 rd:Rds x B f 1000
 pB:B.1=20
 no:(∀z,box Y (11,v11)≠V z)/\∀z,box Y (8,v8)≠V z
section
variable{Y x y:ae}{b B:Id}{l:List Int}{a0 v5 v6 v8 v11 d:Nat}{ds:List AV}{f:Nat->AV}{u kd ob va st:Int}{dp fr:AV}{K:be}{KS:ae->Prop}
theorem EvS.le(E:EvS Y x b l a0 v5 v6 v8 v11 ds B f u kd ob va st dp fr)(h:L Y=4096):L x=4096:=E.kx.len.trans h
def EvS.nx(E:EvS Y x b l a0 v5 v6 v8 v11 ds B f u kd ob va st dp fr)(F:Fx x y [b]){i:Nat}(T:Tp y b l i)(h:a0<=i):EvS Y y b l a0 v5 v6 v8 v11 ds B f u kd ob va st dp fr:=by have n:=E.pb;have c:∀{q:Id},q.1≠14->q.1≠15->q.1≠16->q∉[b]:=λj k r e=>(by simp at e;subst e;omega);obtain⟨m,j,g1⟩:=E.gd;obtain⟨p,k,o⟩:=E.gf;have g:∀{q:Id},q.1=28->q∉[b]:=λh=>c (by omega) (by omega) (by omega);exact⟨F.keep _ _ (c (by simp) (by simp)<|by simp) E.bx,F.keep _ _ (c (by simp) (by simp)<|by simp) E.b8,F.keep _ _ (c (by simp) (by simp)<|by simp) E.b5,F.keep _ _ (c (by simp) (by simp)<|by simp) E.b6,⟨i,T,h⟩,E.kx.fx F λq a=> .inl (by simp at a;subst a;rcases n with e|e|e<;>simp[e]),n,⟨m,j,g1.fx F λq a=>g (E.pd q a).1⟩,⟨p,k,o.fx F λq a=>g (E.pf q a).1⟩,E.pd,E.pf,E.rd.fx F (λq a=>by simp at a;subst a;exact⟨λe=>by have:=E.pB;rw[<-e] at this;omega,by omega,by omega⟩),E.pB,E.no⟩
def EvS.set(E:EvS Y x b l a0 v5 v6 v8 v11 ds B f u kd ob va st dp fr)(F:Fx x y [(11,v11)]){j n k:Int}{c g:AV}(G:box y (11,v11)=V ⟨62,7,U,U,[[iv u,iv kd,iv j,iv n,iv k,c,g]]⟩)(gd:∃m:List Int,L m<=1000/\lA x 3 1 c (m.map ci))(w:∃m:List Int,L m<=1000/\lA x 3 1 g (m.map ci))(p:∀q∈aA c,q.1=28/\∀z,box Y q≠V z)(r:∀q∈aA g,q.1=28/\∀z,box Y q≠V z):EvS Y y b l a0 v5 v6 v8 v11 ds B f u kd j n k c g:=by obtain⟨m,A,g1⟩:=gd;obtain⟨H,C,v⟩:=w;obtain⟨t,T,D⟩:=E.tp;have o:=E.pb;have i:∀{q:Id},q.1=28->q∉[((11,v11):Id)]:=λh e=>(by simp at e;subst e;simp at h);exact⟨G,F.kq E.b8,F.kq E.b5,F.kq E.b6,⟨t,T.fx F (λe=>by simp at e;subst e;simp at o),D⟩,E.kx.fx F<|λq a=> .inr<|by simp at a;subst a;exact E.no.1,o,⟨m,A,g1.fx F λq a=>i (p q a).1⟩,⟨H,C,v.fx F λq a=>i (r q a).1⟩,p,r,E.rd.fx F (λq a=>by simp at a;subst a;exact⟨λe=>by have:=E.pB;rw[<-e] at this;simp at this,by simp,by simp⟩),E.pB,E.no⟩
def a56(E:EvS Y x b l a0 v5 v6 v8 v11 ds B f u kd ob va st dp fr)(n:L Y=4096){j:Nat}(k:j<4)(i:∀r y,EvS Y y b l a0 v5 v6 v8 v11 ds B f u kd ob va st dp fr->(∃m:List Int,L m<=1000/\lA y 3 1 r (m.map ci))->(∀q∈aA r,q.1=28/\∀z,box Y q≠V z)->K r y):cB 185 [.p b 0 0,f j] x d K:=by obtain⟨ns,h,g⟩:=E.rd.gr j k;obtain⟨v,T,A⟩:=E.tp;refine jH rfl (bdv (E.le n) (by have:=E.pb;omega) T g h) ?_;rintro r y ⟨m,a2,e,w,c,t,F,p⟩;exact⟨F.len,i r y (E.nx F c<|by omega) ⟨m,by omega,e⟩ λq a=>⟨(p q a).2,λz o=>(p q a).1.no z<|E.kx.keep _ _ (by rw[(p q a).2];decide) o⟩⟩
end
def bcs{Y:ae}{c0 e h i j:Int}{dp fr:AV}{m k:List Int}(g:lA Y 3 1 dp<|m.map ci)(n:lA Y 3 1 fr<|k.map ci):aOo Y (.a [iv c0,iv e,iv h,iv i,iv j,dp,fr])= .a (aP.mk c0 e h i j m k).c:=by show AV.a (List.map gK<|List.map (gi Y) _)=_;have o:=a6r g;have p:=a6r n;simp only[ji,mU,o,p];rfl
def bdf{Y:ae}{b B:Id}{l:List Int}{a:Nat}{ds:List AV}{s:sA}{f:Nat->AV}(A:L Y=4096)(hb:b.1=14\/b.1=15\/b.1=16)(hB:B.1=20)(T:Tp Y b l a)(hL:Lk ds s.c)(hs:L s.bW.ay<1000)(h3:L s.cells=5)(bd:0<L s.bU)(O:Rds Y B f 1000):∃r Y1,(∃(e:aP) (w:Nat),r= .a e.c/\EvL e/\(0<=e.aq/\e.aq<4)/\Tp Y1 b l w/\a<=w/\(a<L l->a+1<=w)/\Kx [14,15,16] Y Y1)/\cZ aS GG 117 [.p b 0 0, .a ds, .a aNE.c, .m B 4] Y r Y1:=by generalize hQ:(λ(r:AV) (y:ae)=>∃(e:aP) (w:Nat),aOo y r= .a e.c/\EvL e/\(0<=e.aq/\e.aq<4)/\Tp (kills y<|aNW r) b l w/\a<=w/\(a<L l->a+1<=w)/\Kx [14,15,16] Y (kills y<|aNW r))=Qq;refine aQR (R:=Qq) ?_ (λr y h=>by rw[<-hQ] at h;exact h);refine bhy A (oC hL) rfl λs4 v5 v6 K4 cl cm cn b5 b6=>?_;have F4:Fx Y s4 []:=K4.fx [];have bn:=F4.len.trans A;simp only[aSL];refine I4 bn λv8 s6 M N8 b8=>?_;have S:=F4.trans M;have K6:Kx [14,15,16] Y s6:=S.kx (by simp);have bo:=S.len.trans A;have n8:∀z,box Y (8,v8)≠V z:=(N8.old F4).no;simp only[qz 6];refine aS3 [] bo hb (T.fx S<|by simp) (by simp) λu a1 s8 bu bv T8 cc br K8 _=>?_;have hu:0<=u/\u<4:=⟨bu,bv<|by decide⟩;have al:Kx [14,15,16] Y s8:=K6.kx K8 (by simp);have bp:=al.len.trans A;simp only[qz 8,aPg,ar,↓uL];rintro _ ⟨t,o,rfl⟩;refine⟨by rw[lo,nA];simp,?_⟩;simp only[bdM,u0,↓uL];refine aS3 [] bp hb T8 (by simp) λk a2 bD bl bm aX cd cg ah _=>?_;have hk:aF (L aTp) k:=⟨bl,by have:=bm (by decide);simpa using this⟩;have W:Kx [14,15,16] Y bD:=al.kx ah (by simp);have aK:=W.len.trans A;simp only[qz 10,tf,ci,qM,u0,u1,↓uL];refine⟨hk,?_⟩;generalize gd aTp k.toNat=kd;refine aS3 [] aK hb aX (by simp) λst a3 av cj ck aY cf ch ak _=>?_;have D:Kx [14,15,16] Y av:=W.kx ak (by simp);have aL:=D.len.trans A;have bj:∀{u k st:Int},bM bnk aOG [(0,iv u),(1,iv k),(4,iv st)]=V (.a [iv u,iv k,iv 0,iv 0,iv st, .l [] U U, .l [] U U]):=λ{u k st}=>rfl;simp only[qz 12,qy 14,bj,u0,u1,↓uL];generalize dq.wrap (dq.wrap (u*6)+st)=site;refine I4 aL λv11 co af am aZ=>?_;refine stW aZ rfl rfl λH ag bb=>?_;have ap:∀z,box Y (11,v11)≠V z:=D.no (by simp) am.no;have X:Kx [14,15,16] Y H:=(D.fx af<|by simp).fx ag λq v=> .inr (by simp at v;subst v;exact ap);have G:Fx av H []:=(af.trans ag).mono λq v=>(by simp at v;subst v;exact .inr am.no);have kk:∀{q:Id} {z:bY},q.1≠14->q.1≠15->q.1≠16->box s6 q=V z->box H q=V z:=λh1 N h3 h=>G.kq (ak.keep _ _ (by simp[h1,N,h3])<|ah.keep _ _ (by simp[h1,N,h3])<|K8.keep _ _ (by simp[h1,N,h3]) h);simp only[qz 16];refine dT (by simp[eL,lb,lbV,m8,dC,dK]) ?_;have E:EvS Y H b l a3 v5 v6 v8 v11 ds B f u kd 0 0 site (.l [] U U) (.l [] U U):=⟨bb,kk (by simp) (by simp) (by simp) b8,kk (by simp) (by simp) (by simp)<|M.kq b5,kk (by simp) (by simp) (by simp)<|M.kq b6,⟨a3,aY.fx G (by simp),dA _⟩,X,hb,⟨[],by simp, .inl ⟨rfl,rfl⟩⟩,⟨[],by simp, .inl ⟨rfl,rfl⟩⟩,by simp[aA],by simp[aA],O.kx X ⟨by rw[hB];decide,by decide,by decide⟩,hB,ap,n8⟩;have aJ:a<L l->a+1<=a3:=λh=>(by have:=br h (by decide);omega);have bV:a<=a3:=(by omega);have ao:u.toNat<4:=(by omega);have r7:=@r7A;have uQ:aN (V 7) ds=V (.a ds):=(by have:=oC hL;simp[aN,this,oB<|Nat.le_of_eq this]);refine bpD (λi=>∀{x st},EvS Y x b l a3 v5 v6 v8 v11 ds B f u kd 0 0 st (.l [] U U) (.l [] U U)->i [] x) (λ{x st} E=>?_) λJ4 h4=>?_;(focus simp only[qz 27,aI,u0,u1,E.bx,k1A,nM,J3,aj,↓uL];obtain⟨w,T',bi⟩:=E.tp;refine jH rfl (bdk (E.le A) T') ?_;rintro _ y ⟨ob,a2,rfl,ho,T2,N,F2⟩;refine⟨F2.len,?_⟩;have j:=E.nx F2 T2 (by omega);simp only[qz 20,u0,u1,j.bx,aj,↓uL];refine A0 j.bx rfl (by simp) λz Fz bz=>?_;have P:=j.set Fz bz j.gd j.gf j.pd j.pf;obtain⟨a5,T5,h5⟩:=P.tp;simp only[qz 22,u0,u1,P.bx,P.b5,uQ,k1A,nM,J3,aj,↓uL];refine jH rfl (bdD (P.le A) T5 hL hs (λh=>?_) bd) ?_;rw[h3];exact ho<|.inl h;rintro _ y2 ⟨va,a6,rfl,T6,h6,M⟩;refine⟨M.len,?_⟩;have C:=P.nx M T6 (by omega);simp only[qz 24,u0,u1,C.bx,aj,↓uL];refine A0 C.bx rfl (by simp) λz2 aV ba=>?_;have E:=C.set aV ba C.gd C.gf C.pd C.pf;simp only[qz 26,↓uL];refine bpD (λi=>∀{x ob va st dp fr},EvS Y x b l a3 v5 v6 v8 v11 ds B f u kd ob va st dp fr->i [] x) (λ{x ob va st dp fr} E=>?_) λJ8 h8=>?_;(focus simp only[qz 51,aI,↓uL];refine bpD (λi=>∀{x ob va st dp fr},EvS Y x b l a3 v5 v6 v8 v11 ds B f u kd ob va st dp fr->i [] x) (λ{x ob va st dp fr} E=>?_) λcb an=>?_;simp only[qz 63,qy 36,aI,u0,u1,E.bx,r7,J3,↓uL];refine stW E.b8 rfl rfl λy F b=>?_;simp only[b,u0,u1,r7,↓uL];obtain⟨m,h1,g1⟩:=E.gd;obtain⟨m2,N,g2⟩:=E.gf;have au:∀{q:Id},q.1=28->q∉[((8,v8):Id)]:=λh e=>(by simp at e;subst e;simp at h);have y1:=g1.fx F λq v=>au (E.pd q v).1;have y2:=g2.fx F λq v=>au (E.pf q v).1;obtain⟨w,T',bi⟩:=E.tp;have ei:aNW (.a [iv u,iv kd,iv ob,iv va,iv st,dp,fr])=aA dp++aA fr:=(by have i1:=aQX y1;have i2:=aQX y2;have e0:∀{n:Int},iR (iv n)=[]:=rfl;simp only[aNW,eB,Cz,RN,i1,i2,e0,dW,cL]);have nb:∀q∈aA dp++aA fr,q.1=28/\∀z,box Y q≠V z:=λq v=>(by rcases dF.1 v with h|h;exact E.pd q h;exact E.pf q h);have bs:=E.pb;show Qq (.a [iv u,iv kd,iv ob,iv va,iv st,dp,fr]) y;rw[<-hQ];refine⟨_,w,bcs y1 y2,⟨h1,N⟩,hu,?_,by omega,λh=>by have:=aJ h;omega,?_⟩;rw[ei];exact(T'.fx F (λe=>by simp at e;subst e;simp at bs)).fx (aOp _ _) λe=>(by have:=(nb _ e).1;omega);rw[ei];exact(E.kx.fx F<|λq v=> .inr<|by simp at v;subst v;exact E.no.2).fx (aOp _ _) λq v=> .inr (nb q v).2;rcases q4:Q (kd=4) with _|_<;>rcases bA:Q (kd=22) with _|_<;>simp only[qz 65,u0,u1,E.bx,k1A,nM,J3,aj,q4,bA,↓jA,↓jN,aUw,bt,↓uL];exact an E;all_goals refine E.rd.rd hu ?_;refine a56 E A ao λr y j Z pr=>?_;have cr:eY r=V [r]:=(by obtain⟨m,_,g⟩:=Z;exact g.ce);simp only[qz 32,qy 34,u0,u1,j.bx,aj,↓uL];refine A0 j.bx cr (by simp) λz F b=>?_;exact an<|j.set F b j.gd Z j.pd pr);have aR:aN J aNE.c=V (sl cA.c aNE.cells):=rfl;have bk:L aNE.cells=5:=rfl;rcases q5:Q (kd=5) with _|_<;>rcases q3:Q (kd=3) with _|_<;>rcases q4:Q (kd=4) with _|_<;>simp only[qz 53,u0,u1,E.bx,E.b6,k1A,aR,nM,J3,aj,q5,q3,q4,↓jA,↓jN,aUw,a7c,bt,↓uL];exact h8 E;(all_goals try have h5:=ho (by simp only[I8,apT] at q3 q4;omega);simp only[aCd,u0,u1,cA.c,aC6,nM,J3,k1A,↓uL];refine⟨⟨h5.1,by rw[bk];exact h5.2⟩,λ_=>?_,λ_=>h8 E⟩);all_goals refine E.rd.rd hu ?_;refine a56 E A ao λr y j Z pr=>?_;have cr:eY r=V [r]:=(by obtain⟨m,_,g⟩:=Z;exact g.ce);simp only[qz 28,qy 30,u0,u1,j.bx,aj,↓uL];refine A0 j.bx cr (by simp) λz F b=>?_;exact h8<|j.set F b Z j.gf pr j.pf);rcases q1:Q (kd=1) with _|_<;>rcases q2:Q (kd=2) with _|_<;>simp only[qz 29,qy 18,u0,u1,E.bx,k1A,nM,J3,aj,q1,q2,↓jA,↓jN,aUw,bt,↓uL];exact h4 E;all_goals refine A0 E.bx rfl (by simp) λz F bz=>?_;exact h4<|E.set F bz E.gd E.gf E.pd E.pf
def bcM{Y:ae}{e n:TypeId}{z v:Nat}{a k:AV}{r t:List (List AV)}(g:lA Y e z a r)(o:lA Y n v k t)(h:e≠n):∀q∈aA k,q∉aA a:=λq i j=>by
 rcases g with⟨_,rfl⟩|⟨b,m,rfl,p⟩
 ·simp[aA] at j
 rcases o with⟨_,rfl⟩|⟨w,m',rfl,c⟩
 ·simp[aA] at i
 simp only[aA,cE] at j i
 subst j i
 rw[p] at c;exact h<|brz bY.elem<|Option.some.inj c
def lA.fn{Y Y':ae}{e c:TypeId}{z m:Nat}{a i:AV}{r k:List (List AV)}(j:lA Y c m i k)(F:Fx Y Y'<|aA a)(g:lA Y e z a r)(h:e≠c:=by decide):lA Y' c m i k:=j.fx F<|bcM g j h
section
variable{Y x y:ae}{s:sA}{a1 a2 a3 a4 a5 a6:AV}{KS:ae->Prop}
theorem SnL.keep(S:SnL Y x s a1 a2 a3 a4 a5 a6){Lw:List Id}(F:Fx x y Lw)(h:∀q∈Lw,q.1≠6/\q.1≠32/\q.1≠10/\q.1≠14):SnL Y y s a1 a2 a3 a4 a5 a6:=⟨S.g1.fx F λq a e=>(h q e).1 (S.p1 q a).2,S.g2.fx F λq a e=>(h q e).1 (S.p2 q a).2,S.g3.fx F λq a e=>(h q e).1 (S.p3 q a).2,S.g4.fx F λq a e=>(h q e).2.1 (S.p4 q a).2,S.g5.fx F λq a e=>(h q e).2.2.1 (S.p5 q a).2,S.g6.fx F λq a e=>(h q e).2.2.2 (S.p6 q a).2,S.p1,S.p2,S.p3,S.p4,S.p5,S.p6⟩
theorem SnL.old{a:ae}{Lw:List Id}(S:SnL Y x s a1 a2 a3 a4 a5 a6)(F:Fx a Y Lw):SnL a x s a1 a2 a3 a4 a5 a6:=⟨S.g1,S.g2,S.g3,S.g4,S.g5,S.g6,λq h=>⟨(S.p1 q h).1.old F,(S.p1 q h).2⟩,λq h=>⟨(S.p2 q h).1.old F,(S.p2 q h).2⟩,λq h=>⟨(S.p3 q h).1.old F,(S.p3 q h).2⟩,λq h=>⟨(S.p4 q h).1.old F,(S.p4 q h).2⟩,λq h=>⟨(S.p5 q h).1.old F,(S.p5 q h).2⟩,λq h=>⟨(S.p6 q h).1.old F,(S.p6 q h).2⟩⟩
theorem a7V{α:Type}[Inhabited α]{c:α->List AV}{e:TypeId}{z:Nat}{a:AV}{l:List α}(g:lA x e z a<|l.map c)(N:∀y,L (c y)=z){i:Int}(k:aF (L l) i){j:Nat}{v:AV}{t:α}(G:j<z)(D:eY (nrm<|eR x v)=V [nrm<|eR x v])(E:eN (nrm<|eR x v)=U)(hI:eB v=[]){o:AV->be}(M:(c<|gd l i.toNat).set j (nrm<|eR x v)=c t)(A:∀p h y,Fx x y (aA a)->lA y e z a ((l.set i.toNat t).map c)->o p h y):rV (cz z x a<|iv i) λp=>rV (iQ j x p) λh=>sV (aK 1 x h v) (o p h):=by refine ixG g (by simpa using k) λb m C w=>?_;have H:i.toNat<L l:=(by have:=k.1;have:=k.2;omega);simp only[rR,w,df,aY,aj];refine aQz (r:=c<|gd l i.toNat) w (by grind [bT]) (by simp_all) D E hI λy F q=>?_;have n:(l.map c++m).set i.toNat ((c<|gd l i.toNat).set j<|nrm<|eR x v)=(l.set i.toNat t).map c++m:=(by simp_all);rw[n] at q;exact A _ _ y (by grind [aA]) (.inr ⟨b,m,by rw[C];simp,q⟩)
end
def sz5(s:sA):Prop:=L s.bW.ak=3/\L s.bW.done=1/\L s.bW.ay=4/\L s.cells=5/\L s.bU=1/\L s.count=4/\(∀q∈s.bW.ak,L q.bk<=1)/\∀c∈s.count,0<=c/\c<=400
structure Bg(Y x:ae)(b:Id)(l:List Int)(a0 v4 v8:Nat)(a1 a2 a3 a4 a5 a6:AV):Prop where
 ex:∃s:sA,SnL Y x s a1 a2 a3 a4 a5 a6/\sz5 s/\box x (5,v8)=V ⟨40,7,U,U,[[a1,iv s.bW.tx,a2,a3,a4,a5,a6]]⟩
 b4:box x (4,v4)=V ⟨40,7,U,U,[bsk]⟩
 tp:∃a',Tp x b l a'/\a0<=a'
 kx:Kx [14,15,16] Y x
 pb:b.1=14\/b.1=15\/b.1=16
 no:(∀z,box Y (4,v4)≠V z)/\∀z,box Y (5,v8)≠V z
section
variable{Y x y:ae}{b:Id}{l:List Int}{a0 v4 v8 d:Nat}{a1 a2 a3 a4 a5 a6:AV}{K:be}{KS:ae->Prop}
theorem Bg.le(B:Bg Y x b l a0 v4 v8 a1 a2 a3 a4 a5 a6)(h:L Y=4096):L x=4096:=B.kx.len.trans h
theorem aPS(B:Bg Y x b l a0 v4 v8 a1 a2 a3 a4 a5 a6)(t:L Y=4096){n:Int}(r:∀(u:Int) y,0<=u->(1<=n->u<n)->Bg Y y b l a0 v4 v8 a1 a2 a3 a4 a5 a6->K (iv u) y):cV 115 [.p b 0 0,iv n] x d K:=by obtain⟨s,S,v,j⟩:=B.ex;obtain⟨w,T,A⟩:=B.tp;refine aS3 (aA a6) (B.le t) B.pb T (λq g=>⟨.inl (S.p6 q g).2,?_⟩) λu e y k o i z _ a kp=>r u y k o ⟨⟨s,⟨a.gr S.g1 λq h=>by rw[(S.p1 q h).2];decide,a.gr S.g2 λq h=>by rw[(S.p2 q h).2];decide,a.gr S.g3 λq h=>by rw[(S.p3 q h).2];decide,a.gr S.g4 λq h=>by rw[(S.p4 q h).2];decide,a.gr S.g5 λq h=>by rw[(S.p5 q h).2];decide,?_,S.p1,S.p2,S.p3,S.p4,S.p5,S.p6⟩,v,a.kq j⟩,a.kq B.b4,⟨e,i,by omega⟩,B.kx.kx a (by simp),B.pb,B.no⟩;rcases S.g6 with⟨_,rfl⟩|⟨c,m,rfl,h⟩;simp[aA] at g;grind [aA];rcases S.g6 with h|⟨c,m,rfl,h⟩;exact .inl h;exact .inr ⟨c,m,rfl,kp c (by simp[aA]) _ h⟩
theorem a5S(B:Bg Y x b l a0 v4 v8 a1 a2 a3 a4 a5 a6)(n:L Y=4096){t:Int}(m:∀(u:Int) y,(u= -1\/aF 4 u)->Bg Y y b l a0 v4 v8 a1 a2 a3 a4 a5 a6->K (iv u) y):cB 116 [.p b 0 0, .a [a1,iv t,a2,a3,a4,a5,a6]] x d K:=by obtain⟨s,S,j,A⟩:=B.ex;obtain⟨w,T,D⟩:=B.tp;have o:=B.pb;have v:L s.count=4:=j.2.2.2.2.2.1;refine jH rfl (bdc (B.le n) T S.g6<|by omega) ?_;rintro _ y ⟨u,h,rfl,i,k,C,F⟩;rw[v] at i;have c:∀{a:AV} {e:TypeId} {z:Nat} {r:List (List AV)},lA x e z a r->lA y e z a r:=λg=>g.fx F<|aTE T g;have E:∀{q:Id},q.1≠14->q.1≠15->q.1≠16->q∉[b]:=(by grind);exact⟨F.len,m u y i ⟨⟨s,⟨c S.g1,c S.g2,c S.g3,c S.g4,c S.g5,c S.g6,S.p1,S.p2,S.p3,S.p4,S.p5,S.p6⟩,j,by grind [Fx.keep]⟩,(by grind [Fx.keep,Bg.b4]),⟨h,k,by omega⟩,B.kx.fx F (by simp_all),o,B.no⟩⟩
theorem Bg.wr(B:Bg Y x b l a0 v4 v8 a1 a2 a3 a4 a5 a6){Lw:List Id}(F:Fx x y Lw)(h:∀q∈Lw,bK Y q/\(q.1=6\/q.1=32\/q.1=10\/q.1=14))(i:∀q∈Lw,∀z,box x q=V z->z.var=U->False){s:sA}(S:SnL Y y s a1 a2 a3 a4 a5 a6)(k:sz5 s)(g:∃z,box x (5,v8)=V z/\z=⟨40,7,U,U,[[a1,iv s.bW.tx,a2,a3,a4,a5,a6]]⟩):Bg Y y b l a0 v4 v8 a1 a2 a3 a4 a5 a6:=by obtain⟨a,T,c⟩:=B.tp;obtain⟨z,j,rfl⟩:=g;exact⟨(by grind [Fx.keep]),(by grind [Fx.keep,Bg.b4]),⟨a,T.fx F λe=>i b e _ T.bx rfl,c⟩,B.kx.fx F (by grind [bK.no]),B.pb,B.no⟩
theorem baw(B:Bg Y x b l a0 v4 v8 a1 a2 a3 a4 a5 a6){i v:Int}(o:aF 4 i)(n:0<=v/\v<=400){e:be}(k:∀p y,Bg Y y b l a0 v4 v8 a1 a2 a3 a4 a5 a6->e p y):rV (cz 1 x a6<|iv i) λp=>sV (aK 1 x p<|iv v) (e p):=by obtain⟨s,S,a,g⟩:=B.ex;have q:L s.count=4:=a.2.2.2.2.2.1;refine aR5 S.g6 (by simp_all) λp y F j=>k p y (B.wr F (by grind [SnL.p6]) (aNO S.g6) (s:={s with count:=s.count.set i.toNat v}) ⟨S.g1.fn F S.g6,S.g2.fn F S.g6,S.g3.fn F S.g6,S.g4.fn F S.g6,S.g5.fn F S.g6,j,S.p1,S.p2,S.p3,S.p4,S.p5,S.p6⟩ ⟨a.1,a.2.1,a.2.2.1,a.2.2.2.1,a.2.2.2.2.1,by grind,a.2.2.2.2.2.2.1,λc m=>by rcases CC m with h|rfl;exact a.2.2.2.2.2.2.2 c h;exact n⟩ ⟨_,g,rfl⟩)
theorem bav(B:Bg Y x b l a0 v4 v8 a1 a2 a3 a4 a5 a6){i v:Int}(m:aF 5 i){a:be}(j:∀p y,Bg Y y b l a0 v4 v8 a1 a2 a3 a4 a5 a6->a p y):rV (cz 1 x a4<|iv i) λp=>sV (aK 1 x p<|iv v) (a p):=by obtain⟨s,S,k,c⟩:=B.ex;have n:L s.cells=5:=k.2.2.2.1;refine aR5 S.g4 (by simp_all) λp y F e=>j p y (B.wr F (by grind [SnL.p4]) (aNO S.g4) (s:={s with cells:=s.cells.set i.toNat v}) ⟨S.g1.fn F S.g4,S.g2.fn F S.g4,S.g3.fn F S.g4,e,S.g5.fx F (λq h g=>by have:=(S.p5 q h).2;have:=(S.p4 q g).2;omega),S.g6.fn F S.g4,S.p1,S.p2,S.p3,S.p4,S.p5,S.p6⟩ (by grind [sz5]) ⟨_,c,rfl⟩)
theorem bay(B:Bg Y x b l a0 v4 v8 a1 a2 a3 a4 a5 a6){i v:Int}(m:aF 1 i){a:be}(j:∀p y,Bg Y y b l a0 v4 v8 a1 a2 a3 a4 a5 a6->a p y):rV (cz 1 x a5<|iv i) λp=>sV (aK 1 x p<|iv v) (a p):=by obtain⟨s,S,k,c⟩:=B.ex;have n:L s.bU=1:=k.2.2.2.2.1;refine aR5 S.g5 (by simp_all) λp y F e=>j p y (B.wr F (by grind [SnL.p5]) (aNO S.g5) (s:={s with bU:=s.bU.set i.toNat v}) ⟨S.g1.fn F S.g5,S.g2.fn F S.g5,S.g3.fn F S.g5,S.g4.fx F (λq h g=>by have:=(S.p4 q h).2;have:=(S.p5 q g).2;omega),e,S.g6.fn F S.g5,S.p1,S.p2,S.p3,S.p4,S.p5,S.p6⟩ (by grind [sz5]) ⟨_,c,rfl⟩)
theorem a5T(B:Bg Y x b l a0 v4 v8 a1 a2 a3 a4 a5 a6){i:Int}(e:aF 3 i){j:Nat}{v:AV}(E:(j=0/\∃u:Int,v=iv u)\/(j=1/\∃(u:Int) (t o:Bool),v= .l [[iv u]] t o))(w:∀y,Bg Y y b l a0 v4 v8 a1 a2 a3 a4 a5 a6->KS y):rV (cz 2 x a1<|iv i) λp=>rV (iQ j x p) λG=>sV (aK 1 x G v) KS:=by obtain⟨s,S,a,g⟩:=B.ex;have H:L s.bW.ak=3:=a.1;obtain⟨t,D,C,z,m,n,r⟩:∃t:cg,(cg.c<|gd s.bW.ak i.toNat).set j (nrm<|eR x v)=t.c/\L t.bk<=1/\j<2/\eY (nrm<|eR x v)=V [nrm<|eR x v]/\eN (nrm<|eR x v)=U/\eB v=[]:=(by rcases E with⟨rfl,u,rfl⟩|⟨rfl,u,t,o,rfl⟩;refine⟨⟨u,(gd s.bW.ak i.toNat).bk⟩,rfl,a.2.2.2.2.2.2.1 (gd s.bW.ak i.toNat) (ve ?_),by decide,rfl,rfl,rfl⟩;have:=e.1;have:=e.2;omega;exact⟨⟨(gd s.bW.ak i.toNat).awG,[u]⟩,rfl,by simp,by decide,rfl,rfl,rfl⟩);refine a7V S.g1 (λ_=>rfl) (by simp_all) z m n r D λ_ _ y F k=>w y (B.wr F (by grind [SnL.p1]) (aNO S.g1) (s:={s with bW:={s.bW with ak:=s.bW.ak.set i.toNat t}}) ⟨k,S.g2.fn F S.g1,S.g3.fn F S.g1,S.g4.fn F S.g1,S.g5.fn F S.g1,S.g6.fn F S.g1,S.p1,S.p2,S.p3,S.p4,S.p5,S.p6⟩ ⟨by grind,a.2.1,a.2.2.1,a.2.2.2.1,a.2.2.2.2.1,a.2.2.2.2.2.1,λq A=>?_,a.2.2.2.2.2.2.2⟩ ⟨_,g,rfl⟩);rcases CC A with h|rfl;exact a.2.2.2.2.2.2.1 q h;exact C
theorem bfp{e:TypeId}{z:Nat}{bA:List (List AV)}{r:List AV}{q:Id}{i:Nat}{cs:List AV}(c:box x q=V ⟨e,z,U,I,bA⟩)(g:bA[i]?=V r)(m:L r=z)(n:L cs=z)(o:cs.all eN=U)(k:nrm (eR x<|.a cs)= .a cs)(hI:eB (.a cs)=[])(j:∀Y',Fx x Y' [q]->box Y' q=V ⟨e,z,U,I,bA.set i cs⟩->KS Y'):sV (aK z x (.p q i 0)<|.a cs) KS:=by have h:aK z x (.p q i 0) (.a cs)=V (wr x q ⟨e,z,U,I,bA.set i cs⟩):=(by simp only[aK,aBG,c,eE,brv,hI,kills,List.foldl_nil,k,pW,eY,g];grind);rw[h];exact j _ (wc c)<|lO c
theorem baC(B:Bg Y x b l a0 v4 v8 a1 a2 a3 a4 a5 a6){i st:Int}(j:aF 4 i)(n:∀y,Bg Y y b l a0 v4 v8 a1 a2 a3 a4 a5 a6->KS y):rV (cz 3 x a3<|iv i) λp=>sV (aK 3 x p<|.a [iv st,iv 0,bv I]) KS:=by obtain⟨s,S,v,k⟩:=B.ex;have z:L s.bW.ay=4:=v.2.2.1;have w:i.toNat<L s.bW.ay:=(by have:=j.1;have:=j.2;omega);refine ixG S.g3 (by simp_all) λq m o t=>?_;refine bfp t (r:=aoC.c<|gd s.bW.ay i.toNat) (by grind [bT]) rfl rfl rfl rfl rfl λy F h=>?_;have e:Fx x y (aA a3):=(by grind [aA]);have g:(s.bW.ay.map aoC.c++m).set i.toNat [iv st,iv 0,bv I]=(s.bW.ay.set i.toNat ⟨st,0,I⟩).map aoC.c++m:=(by rw[List.set_append_left _ _ (by grind),vB];rfl);rw[g] at h;exact n y (B.wr e (by grind [SnL.p3]) (aNO S.g3) (s:={s with bW:={s.bW with ay:=s.bW.ay.set i.toNat ⟨st,0,I⟩}}) ⟨S.g1.fn e S.g3,S.g2.fn e S.g3, .inr ⟨q,m,by rw[o];simp,h⟩,S.g4.fn e S.g3,S.g5.fn e S.g3,S.g6.fn e S.g3,S.p1,S.p2,S.p3,S.p4,S.p5,S.p6⟩ (by grind [sz5]) ⟨_,k,rfl⟩)
end
section
variable{Y x y:ae}{b:Id}{l:List Int}{a0 v4 v8 d:Nat}{a1 a2 a3 a4 a5 a6:AV}{K:be}{KS:ae->Prop}
theorem bat(B:Bg Y x b l a0 v4 v8 a1 a2 a3 a4 a5 a6){i:Int}{f:Bool}(k:aF 4 i){c:AV->be}(h:∀p a y,Bg Y y b l a0 v4 v8 a1 a2 a3 a4 a5 a6->c p a y):rV (cz 3 x a3<|iv i) λp=>rV (iQ 2 x p) λa=>sV (aK 1 x a<|bv f) (c p a):=by obtain⟨s,S,j,e⟩:=B.ex;have m:L s.bW.ay=4:=j.2.2.1;refine a7V S.g3 (λ_=>rfl) (by simp_all) (by decide) rfl rfl rfl (t:={gd s.bW.ay i.toNat with atomic:=f}) rfl λp a y F g=>h p a y (B.wr F (by grind [SnL.p3]) (aNO S.g3) (s:={s with bW:={s.bW with ay:=s.bW.ay.set i.toNat {gd s.bW.ay i.toNat with atomic:=f}}}) ⟨S.g1.fn F S.g3,S.g2.fn F S.g3,g,S.g4.fn F S.g3,S.g5.fn F S.g3,S.g6.fn F S.g3,S.p1,S.p2,S.p3,S.p4,S.p5,S.p6⟩ (by grind [sz5]) ⟨_,e,rfl⟩)
theorem bax(B:Bg Y x b l a0 v4 v8 a1 a2 a3 a4 a5 a6){i:Int}{f:Bool}(g:aF 1 i)(j:∀y,Bg Y y b l a0 v4 v8 a1 a2 a3 a4 a5 a6->KS y):rV (cz 1 x a2<|iv i) λp=>sV (aK 1 x p<|bv f) KS:=by obtain⟨s,S,o,h⟩:=B.ex;have v:L s.bW.done=1:=o.2.1;have t:i.toNat<L s.bW.done:=(by have:=g.1;have:=g.2;omega);refine ixG S.g2 (by simp_all) λq m k n=>?_;refine aQz (x:=bv f) (r:=cb<|gd s.bW.done i.toNat) n (by grind [bT]) (by simp[cb]) rfl rfl rfl λy F e=>?_;have a:Fx x y (aA a2):=(by grind [aA]);have c:(s.bW.done.map cb++m).set i.toNat ((cb<|gd s.bW.done i.toNat).set 0<|nrm<|eR x<|bv f)=(s.bW.done.set i.toNat f).map cb++m:=(by rw[List.set_append_left _ _ (by grind),vB];rfl);rw[c] at e;exact j y (B.wr a (by grind [SnL.p2]) (aNO S.g2) (s:={s with bW:={s.bW with done:=s.bW.done.set i.toNat f}}) ⟨S.g1.fn a S.g2, .inr ⟨q,m,by rw[k];simp,e⟩,S.g3.fn a S.g2,S.g4.fn a S.g2,S.g5.fn a S.g2,S.g6.fn a S.g2,S.p1,S.p2,S.p3,S.p4,S.p5,S.p6⟩ (by grind [sz5]) ⟨_,h,rfl⟩)
theorem baD(B:Bg Y x b l a0 v4 v8 a1 a2 a3 a4 a5 a6){t:Int}(h:∀y,Bg Y y b l a0 v4 v8 a1 a2 a3 a4 a5 a6->KS y):sV (aK 1 x (.p (5,v8) 0 1)<|iv t) KS:=by obtain⟨s,S,k,e⟩:=B.ex;obtain⟨c,T,i⟩:=B.tp;have j:=B.pb;refine A0 e rfl (by simp) λy F g=>h y ⟨⟨{s with bW:={s.bW with tx:=t}},(by have a:=S.keep F (by simp);exact⟨a.g1,a.g2,a.g3,a.g4,a.g5,a.g6,a.p1,a.p2,a.p3,a.p4,a.p5,a.p6⟩),k,g⟩,F.kq B.b4,⟨c,(by grind [Tp.fx]),i⟩,B.kx.fx F (by grind [Bg.no]),j,B.no⟩
theorem baB(B:Bg Y x b l a0 v4 v8 a1 a2 a3 a4 a5 a6):∃st:Nat->Int,∀{i:Int} {K:cC},aF 4 i->K (iv<|st i.toNat)->rV (cz 3 x a3<|iv i) λp=>rV (iQ 0 x p) λn=>rV (vl J x n) K:=by obtain⟨s,S,j,o⟩:=B.ex;have v:L s.bW.ay=4:=j.2.2.1;refine⟨λk=>(gd s.bW.ay k).cQ,λ{i K} a h=>?_⟩;have t:i.toNat<L s.bW.ay:=(by have:=a.1;have:=a.2;omega);refine ixG S.g3 (by simp_all) λq m r e=>?_;have g:(s.bW.ay.map aoC.c++m)[i.toNat]?=V (aoC.c<|gd s.bW.ay i.toNat):=(by grind [bT]);simp only[rR,aC5,e,df,aQd,g,aY,aj,J3,aoC.c,k1A];exact h
theorem aN5(B:Bg Y x b l a0 v4 v8 a1 a2 a3 a4 a5 a6){j:Nat}:iQ j x (.p (5,v8) 0 0)=V (.p (5,v8) 0 j):=by grind [Bg.ex,rR]
theorem aRC(B:Bg Y x b l a0 v4 v8 a1 a2 a3 a4 a5 a6):vl J x (.p (5,v8) 0 0)=V a1:=by grind [Bg.ex,aC5,k1A]
theorem baz(B:Bg Y x b l a0 v4 v8 a1 a2 a3 a4 a5 a6):vl J x (.p (5,v8) 0 2)=V a2:=by grind [Bg.ex,aC5,k1A]
theorem aS0(B:Bg Y x b l a0 v4 v8 a1 a2 a3 a4 a5 a6):vl J x (.p (5,v8) 0 3)=V a3:=by obtain⟨s,S,c,a⟩:=B.ex;grind [aC5,k1A]
def a5U(B:Bg Y x b l a0 v4 v8 a1 a2 a3 a4 a5 a6):vl J x (.p (5,v8) 0 4)=V a4:=by obtain⟨s,S,c,a⟩:=B.ex;rw[aC5,a];simp[k1A]
def baA(B:Bg Y x b l a0 v4 v8 a1 a2 a3 a4 a5 a6):vl J x (.p (5,v8) 0 5)=V a5:=by obtain⟨s,S,c,a⟩:=B.ex;rw[aC5,a];simp[k1A]
def a5V(B:Bg Y x b l a0 v4 v8 a1 a2 a3 a4 a5 a6):vl J x (.p (5,v8) 0 6)=V a6:=by obtain⟨s,S,c,a⟩:=B.ex;rw[aC5,a];simp[k1A]
def a5W(B:Bg Y x b l a0 v4 v8 a1 a2 a3 a4 a5 a6):∃t:Int,vl (V 7) x (.p (5,v8) 0 0)=V (.a [a1,iv t,a2,a3,a4,a5,a6]):=by obtain⟨s,S,e,c⟩:=B.ex;exact⟨s.bW.tx,by rw[aC5,c];rfl⟩
def aV3(B:Bg Y x b l a0 v4 v8 a1 a2 a3 a4 a5 a6):fS x a1=V (iv (3:Nat))/\fS x a4=V (iv (5:Nat))/\fS x a6=V (iv (4:Nat)):=by obtain⟨s,S,a,c⟩:=B.ex;refine⟨?_,?_,?_⟩;rw[S.g1.ln,bJ,a.1];rw[S.g4.ln,bJ,a.2.2.2.1];rw[S.g6.ln,bJ,a.2.2.2.2.2.1]
end
def baP{Y:ae}:aX bH 9 Y [(0,iv 2),(1,iv 2),(2,iv 2),(3,iv 2),(4,iv 0),(5,iv 1),(6,iv 3),(7,iv 4),(8,iv 5)]=V (.l ([2,2,2,2,0,1,3,4,5].map ci) U U,Y):=by kernel_rfl
section
attribute[local irreducible] aX
def bdb{Y:ae}{b:Id}{l:List Int}{a:Nat}(m:L Y=4096)(hb:b.1=14\/b.1=15\/b.1=16)(T:Tp Y b l a):∃r Y1,(∃(s:sA) (E:Nat),r= .a s.c/\sz5 s/\Tp Y1 b l E/\a<=E/\Kx [14,15,16] Y Y1)/\cZ aS GG 55 [.p b 0 0, .a aNE.c] Y r Y1:=by generalize hQ:(λ(r:AV) (y:ae)=>∃(s:sA) (E:Nat),aOo y r= .a s.c/\sz5 s/\Tp (kills y<|aNW r) b l E/\a<=E/\Kx [14,15,16] Y (kills y<|aNW r))=Qq;refine aQR (R:=Qq) ?_ (by grind);refine bhw m rfl λs2 v3 K2 bu nf b3=>?_;have F2:Fx Y s2 []:=K2.fx [];have aJ:=F2.len.trans m;simp only[aSH];refine I4 aJ λv4 s4 F4 N4 b4=>?_;have M:=F2.trans F4;have ah:=M.len.trans m;have c3:=F4.kq b3;have aQ:aN (V 6) aNE.c=V (.a aNE.c):=rfl;simp only[qz 4,u0,u1,c3,aQ,J3,↓uL];refine jH rfl (aXI (w:=aNE) ah (by decide) (by decide) (by decide)<|by decide) ?_;rintro _ s7 ⟨a1,a2,a3,a4,a5,a6,rfl,S,F7⟩;refine⟨F7.len,?_⟩;have aL:=F7.len.trans ah;simp only[qz 6,qy 8];refine I4 aL λv8 s9 F9 N8 b8=>?_;refine stW b8 rfl rfl λaR W c8=>?_;have aA:Fx s4 s9 []:=F7.trans F9;have af:Fx Y s9 []:=M.trans aA;have n8:∀z,box Y (5,v8)≠V z:=(N8.old<|M.trans F7).no;have n4:∀z,box Y (4,v4)≠V z:=(N4.old F2).no;have P:Bg Y aR b l a v4 v8 a1 a2 a3 a4 a5 a6:=⟨⟨aH6 aNE,((S.keep F9<|by simp).keep W<|by simp).old M,⟨rfl,rfl,rfl,rfl,rfl,rfl,by decide,by decide⟩,c8⟩,(by grind [Fx.keep]),⟨a,(T.fx af<|by simp).fx W (by grind),dA _⟩,(af.kx<|by simp).fx W (by simp_all),hb,n4,n8⟩;have bj:=P.le m;have aD:∀{x:ae},Bg Y x b l a v4 v8 a1 a2 a3 a4 a5 a6->rV (vl (V 7) x<|.p (5,v8) 0 0) λaw=>sV (aK 7 x (.p (4,v4) 0 0) aw) λab=>rV (vl (V 7) ab<|.p (4,v4) 0 0) λax=>aNN Qq ab [ax]:=λ{x} B=>(by obtain⟨s,S,hz,b8⟩:=B.ex;obtain⟨E,T',ha⟩:=B.tp;have O:=@r7A;simp only[u1,b8,O,aY,J3];refine stW B.b4 rfl rfl λy F aC=>?_;simp only[u1,aC,O,aY];have S':=S.keep F (by simp);show Qq (.a [a1,iv s.bW.tx,a2,a3,a4,a5,a6]) y;rw[<-hQ];refine⟨s,E,?_,hz,(T'.fx F<|by grind).fx (aOp _ _)<|λe=>(S'.ids b e).1.no _ T.bx,ha,(B.kx.fx F<|by simp_all).fx (aOp _ _) λq hq=> .inr (S'.ids q hq).1.no⟩;show AV.a (List.map gK<|List.map (gi y) _)=_;rw[vA];exact brz AV.a S'.lz);have i4:∀{k:Nat},k<4->aF 4 (k:Int):=λh=>⟨by omega,by omega⟩;simp only[qz 10,aN5 P,a5V P,(aV3 P).2.2,aY,↓uL];refine yV 4 (λ_ _ y=>Bg Y y b l a v4 v8 a1 a2 a3 a4 a5 a6) P ?_;rintro k _ x hk B;rcases t:Q ((k:Int)<((4:Nat):Int)) with _|_;simp only[qz 25,aI,au,av4,aY,t,↓iB,aN5 B,aRC B,(aV3 B).1,↓uL];refine yV 3 (λ_ _ y=>Bg Y y b l a v4 v8 a1 a2 a3 a4 a5 a6) B ?_;rintro k _ x hk B;rcases t:Q ((k:Int)<((3:Nat):Int)) with _|_;simp only[qz 103,aI,au,av4,aY,t,↓iB,↓uL];refine bpD (λg=>∀{x:ae},Bg Y x b l a v4 v8 a1 a2 a3 a4 a5 a6->g [] x) ?_ λg X=>?_;intro x B;simp only[qz 159,aI,↓uL];refine bpD (λg=>∀{x:ae},Bg Y x b l a v4 v8 a1 a2 a3 a4 a5 a6->g [] x) ?_ λg Z=>?_;intro x B;simp only[qz 171,aI,aN5 B,a5U B,(aV3 B).2.1,aY,↓uL];refine yV 5 (λ_ _ y=>Bg Y y b l a v4 v8 a1 a2 a3 a4 a5 a6) B ?_;rintro k _ x hk B;rcases t:Q ((k:Int)<((5:Nat):Int)) with _|_;simp only[qz 199,qy 54,aI,au,av4,aY,t,↓iB,↓uL];exact aD B;have o:k<5:=(by grind);simp only[qz 199,qy 54,aI,au,av4,aY,t,↓iC,aN5 B,a5U B,↓uL];refine aPS B m λu y N G i=>?_;simp only[qz 50,au,↓uL];refine bav i ⟨by omega,by omega⟩ λp y2 j=>?_;simp only[qz 52,↓uL];refine dT (by simp[eL,lb,lbV,m8,dC,dK]) ?_;simp only[au,cS,aY,↓uL];exact yU o j;simp only[qz 173,↓uL];refine aPS B m λu y N G i=>?_;rcases n:Q (u=2) with _|_;simp only[qz 42,iM,aY,n,↓iB,↓uL];exact Z i;simp only[qz 42,iM,aY,n,↓iC,aN5 i,baz i,↓uL];refine bax i ⟨by omega,by omega⟩ λy2 j=>?_;simp only[qz 44,aN5 j,baA j,aY,↓uL];refine aPS j m λu2 y3 h2 h3 D=>?_;simp only[qz 46,↓uL];refine bay D ⟨by omega,by omega⟩ λp y4 B5=>?_;simp only[qz 48,↓uL];refine dT (by simp[eL,lb,lbV,m8,dC,dK]) ?_;exact Z B5;simp only[qz 161,↓uL];refine aPS B m λu y N G i=>?_;rcases n:Q (u=2) with _|_;simp only[qz 36,iM,aY,n,↓iB,↓uL];exact X i;obtain⟨t7,O⟩:=a5W i;simp only[qz 36,iM,aY,n,↓iC,O,↓uL];refine a5S i m λu2 y2 _ j=>?_;simp only[qz 38,qy 40,aN5 j,aY,↓uL];exact baD j λy3 D=>X D;have o:k<3:=(by grind);simp only[qz 103,aI,au,av4,aY,t,↓iC,↓uL];refine bpD (λg=>∀y,Bg Y y b l a v4 v8 a1 a2 a3 a4 a5 a6->g [] y) ?_ λg v=>?_;intro y B;simp only[qz 123,aI,au,cS,aY,↓uL];exact yU o B;obtain⟨t7,O⟩:=a5W B;simp only[qz 125,O,aY,↓uL];refine a5S B m λu y hu i=>?_;have i3:aF 3 (k:Int):=⟨by omega,by omega⟩;rcases qu:Q (u<0) with _|_;have al:aF 4 u:=(by simp only[apT] at qu;rcases hu with h|h;omega;exact h);have own:∀{z:ae},Bg Y z b l a v4 v8 a1 a2 a3 a4 a5 a6->rV (cz 2 z a1<|iv k) λp=>rV (iQ 0 z p) λp'=>sV (aK 1 z p'<|iv u) λav=>g [] av:=λ{z} Bz=>a5T Bz i3 (by simp) λy B=>v y B;rcases A:Q ((k:Int)=0) with _|_;rcases n:Q ((k:Int)=2) with _|_;simp only[qz 26,qy 34,au,u0,av4,iM,aOq,qu,A,n,↓jN,a7c,aN5 i,aRC i,bt,↓uL];exact own i;simp only[qz 26,qy 34,au,u0,av4,iM,aPh,qu,n,↓jA,aUw,bt,↓uL];refine aPS (d:=85) i m λu2 z N G j=>?_;rcases C:Q (u2=1) with _|_;simp only[u0,iM,C,A,↓jN,a7c,aN5 j,aRC j,bt,↓uL];exact own j;simp only[au,u0,iM,C,A,aS1,↓jN,a7c,aN5 j,aRC j,qz 30,qy 32,bt,↓uL];exact a5T j i3 (by simp) λy B=>v y B;have n:Q ((k:Int)=2)=I:=(by simp_all);obtain⟨st,ak⟩:=baB i;simp only[qz 26,qy 34,au,u0,av4,iM,aOq,qu,A,n,↓jA,↓jN,aUw,a7c,aN5 i,aRC i,aS0 i,bt,↓uL];refine ak al ?_;rcases C:Q (st u.toNat=3) with _|_;simp only[u0,iM,C,↓jA,a7c,aN5 i,aS0 i,↓uL];refine ak al ?_;rcases q4:Q (st u.toNat=4) with _|_;simp only[u0,iM,q4,bt,↓uL];exact own i;simp only[u0,iM,q4,bt,↓uL];exact v _ i;simp only[u0,iM,C,↓jN,aUw,bt,↓uL];exact v _ i;simp only[qz 26,qy 34,au,u0,av4,iM,qu,bt,↓uL];exact v _ i;have o:k<4:=(by grind);simp only[qz 25,aI,au,av4,aY,t,↓iC,↓uL];refine bpD (λg=>∀y,Bg Y y b l a v4 v8 a1 a2 a3 a4 a5 a6->g [] y) ?_ λg v=>?_;intro y B;simp only[qz 45,aI,au,cS,aY,↓uL];exact yU o B;simp only[qz 47,baP,bQ,qz 12,↓uL];refine aPS B m λu y N G i=>?_;have ag:=G (by decide);simp only[qz 14,tf,ci,qM,aY,au,↓uL];refine⟨⟨N,by simpa using ag⟩,?_⟩;refine btF (λg=>∀st:Int,g [iv st]) (λst=>?_) λg H=>?_;skip;have aE:bM btu aM7 [(0,iv st)]=V (.a [iv st,iv 0,bv I]):=rfl;simp only[qz 63,aI,au,aN5 i,aS0 i,aE,aY,↓uL];refine baC i (i4 o) λy i=>?_;rcases A:Q (st≠0) with _|_;simp only[qz 16,au,u0,av6,A,↓jN,a7c,bt,↓uL];exact v _ i;rcases t:Q (st≠1) with _|_;simp only[qz 16,au,u0,av6,A,t,↓jA,bt,↓uL];exact v _ i;simp only[qz 16,au,u0,av6,A,t,aN5 i,a5V i,↓jA,bt,↓uL];refine aPS i m λu y2 N G j=>?_;simp only[qz 18,au,cS,aY,↓uL];have ag:=G (by decide);refine baw j (i4 o) (by grind [eM]) λp y3 D=>?_;simp only[qz 20,↓uL];refine dT (by simp[eL,lb,lbV,m8,dC,dK]) ?_;simp only[aN5 D,aS0 D,aY,↓uL];refine aPS D m λu2 y4 h2 h3 B5=>?_;simp only[qz 22,au,iM,aY,↓uL];refine bat B5 (i4 o) λp p' y5 B6=>?_;simp only[qz 24,↓uL];refine dT (by simp[eL,lb,lbV,m8,dC,dK]) ?_;exact v _ B6;simp only[qz 65,au,↓uL];generalize gd ([2,2,2,2,0,1,3,4,5]:List Int) u.toNat=st;rcases n:Q ((k:Int)=0) with _|_;simp only[u0,iM,n,↓jN,a7c,bt,↓uL];exact H _;rcases C:Q (st=0) with _|_;simp only[u0,iM,n,C,↓jA,aUw,bt,↓uL];exact H _;simp only[u0,iM,n,C,↓jA,aUw,bt,↓uL];exact H _
end
def bfA:dO:=aR3
def bfy:eJ bfA:=aPL
def bcy:=@aPg
section
attribute[local irreducible] aX
def a91:=I5 23 [(5,([23],[0,3,4,6,7,11,12,22])),(8,([],[0,3,4,6,7,11,12,22,23])),(12,([11],[0,3,6,7,12])),(19,([],[0,3,6,7,11,12,14,15]))]
def aVT c a b d e f R:=(.mk _:NS bfA a91 Tryz.f56 [c, .u, .u,d,e] [a,b] f R).p
def bhB{d:AV}{b:List AV}{c:List AV}{e f:AV}{s0:ae}{R:be}(hs:L s0=4096)(l1:L b=7)(g:L c=6)(h:HB2 40 7 6 b 31 6 7 c s0 λj k i=>aVT d j k e f i R):EB 56 [d, .a b, .a c,e,f] s0 R:=zB2 a91 bfy Tryz.func56 hs l1 g h
end
def aNI{Y:ae}{b:Id}{e:TypeId}{z j:Nat}{o v:Bool}{r:List (List AV)}(h:box Y b=V ⟨e,z,o,v,r⟩):iQ j Y (.p b 0 0)=V (.p b 0 j):=by rw[rR,h];simp
def aXM{ds:List AV}{s:sA}(h:Lk ds s.c):∃x0 a x2 d t4 o4 j g m i,ds=[x0,a,x2,d, .l (s.cells.map ci) t4 o4, .l (s.bU.map ci) j g, .l (s.count.map ci) m i]:=by have e:=oC h;obtain⟨h,_⟩:=h;rcases ds with _|⟨x0,_|⟨a,_|⟨x2,_|⟨d,_|⟨n,_|⟨x5,_|⟨o,_|⟨p,ds⟩⟩⟩⟩⟩⟩⟩⟩<;>simp at e;simp only[ji,mU,sA.c,kO] at h;grind [aRH]
theorem Rds.mono{Y:ae}{B:Id}{f:Nat->AV}{m n:Nat}(O:Rds Y B f m)(h:m<=n):Rds Y B f n:=⟨O.bx,(by grind [Rds.gr]),O.dj,O.pl⟩
def a62{Y:ae}{B:Id}{f:Nat->AV}{m d:Nat}{i v:Int}{t o:Bool}{K:AV->be}(O:Rds Y B f m)(hi:0<=i/\i<4)(hd:d=47\/d=103)(hl:L Y=4096)(hm:m<=1000)(Z:B.1=20)(M:∀a Y' z,Rds Y' B z (m+1)->Fx Y Y' (B::aA (f i.toNat))->(∀j,j<4->∀q∈aA (z j),q∈aA (f j)\/bK Y q)->K a (.p B i.toNat 0) Y'):eV (apA 3 fB 8 Y d (f i.toNat)<|.l [[iv v]] t o) λa c=>rV (cz 1 c (.m B 4)<|iv i) λp=>sV (aK 1 c p a) (K a p):=by have r:i.toNat<4:=(by omega);obtain⟨ns,T,g⟩:=O.gr _ r;refine qs g rfl (by decide) (by omega) pU (by simp) (by simp) (by simp;omega) λa c E n W=>?_;have A:∀j,j<4->B∉aA (f j):=(by grind [Rds.pl]);have F:=n.keep _ _ (A _ r) O.bx;have C:cz 1 c (.m B 4) (iv i)=V (.p B i.toNat 0):=(by grind [cz]);rw[C];have P:B∉aA a:=(by grind);refine Bp F (uU r) (ms E) rfl (by simp) λu s G=>?_;have w:box u B=V ⟨38,1,U,U,io 4 λj=>[if j=i.toNat then a else f j]⟩:=(by rw[G,Bl];grind);have R:∀j,j<4->∀q∈aA (f j),q∉aA a:=(by grind [Rds.gr,aTi,bK.no]);refine M a u _ ⟨w,λj e=>?_,λj k e hk S q D=>?_,λj e q D=>?_⟩ ((n.trans s).mono<|by grind) λj e q D=>?_;by_cases h:j=i.toNat;subst h;simp only[aPy];refine⟨ns++[v],by simp;omega,?_⟩;grind [bc.p,bc.fx];simp only[lC h];obtain⟨N,X,H⟩:=O.gr j e;exact⟨N,by omega,(H.fx n<|by grind [Rds.dj]).fx s<|by grind⟩;grind [Rds.dj];grind [Rds.pl];grind
def bc6{n:Int}:m8 (iv n)=[]:=rfl
structure PlS(Y x:ae)(b:Id)(l:List Int)(v6 v7:Nat)(B:Id)(f:Nat->AV)(k:Nat):Prop where
 b6:∃ds s,box x (6,v6)=V ⟨40,7,U,U,[ds]⟩/\Lk ds s.c/\vH k s/\L s.cells=5/\L s.bU=1/\L s.count=4
 b7:box x (7,v7)=V ⟨31,6,U,U,[aNE.c]⟩
 tp:∃a',Tp x b l a'
 kx:Kx [14,15,16] Y x
 rd:Rds x B f (k+1)
 nw:∀i,i<4->∀q∈aA (f i),∀z,box Y q≠V z
 no:(∀z,box Y (6,v6)≠V z)/\∀z,box Y B≠V z
 pb:b.1=16/\B.1=20
section
variable{Y x y:ae}{b B:Id}{l:List Int}{v6 v7 k:Nat}{f:Nat->AV}
theorem PlS.fx(P:PlS Y x b l v6 v7 B f k){Lw:List Id}(F:Fx x y Lw)(h:∀q∈Lw,q.1≠6/\q.1≠7/\q.1≠16/\q.1≠20/\q.1≠47/\q.1≠103)(g:∀q∈Lw,q.1=14\/q.1=15\/∀z,box Y q≠V z):PlS Y y b l v6 v7 B f k:=by obtain⟨ds,s,d,e⟩:=P.b6;obtain⟨a,T⟩:=P.tp;have c:=P.pb;exact⟨(by grind [Fx.keep]),(by grind [Fx.keep,PlS.b7]),⟨a,by grind [Tp.fx]⟩,P.kx.fx F (by grind),P.rd.fx F (by grind),P.nw,P.no,c⟩
theorem PlS.kxx(P:PlS Y x b l v6 v7 B f k)(K:Kx [14,15,16] x y){a:Nat}(T:Tp y b l a):PlS Y y b l v6 v7 B f k:=by obtain⟨ds,s,c,d⟩:=P.b6;exact⟨(by grind [Kx.keep]),K.kq P.b7,⟨a,T⟩,P.kx.kx K (by simp),P.rd.kx K (by grind [PlS.pb]),P.nw,P.no,P.pb⟩
theorem PlS.tape(P:PlS Y x b l v6 v7 B f k)(F:Fx x y [b]){a:Nat}(T:Tp y b l a):PlS Y y b l v6 v7 B f k:=(by grind [PlS.kxx,Fx.kx,PlS.pb])
theorem PlS.reads(P:PlS Y x b l v6 v7 B f k){a:Nat->AV}{i:Nat}(p:i<4)(R:Rds y B a<|k+2)(F:Fx x y (B::aA (f i)))(o:∀j,j<4->∀q∈aA (a j),q∈aA (f j)\/bK x q){d:Nat}(A:k+1<=d)
  (n:∃ds s,box x (6,v6)=V ⟨40,7,U,U,[ds]⟩/\Lk ds s.c/\vH d s/\L s.cells=5/\L s.bU=1/\L s.count=4):PlS Y y b l v6 v7 B a d:=by
 obtain⟨ds,s,v,w⟩:=n
 obtain⟨m,T⟩:=P.tp
 have r:=P.pb
 have pl:=P.rd.pl i p
 have C:∀{q:Id},q.1≠20->q.1≠47->q.1≠103->q∉B::aA (f i):=(by grind)
 exact⟨(by grind [Fx.keep]),(by grind [Fx.keep,PlS.b7]),⟨m,by grind [Tp.fx]⟩,P.kx.fx F (by grind [PlS.no,PlS.nw]),R.mono (by omega),λj g q t=>by
   rcases o j g q t with h|h
   ·exact P.nw j g q h
   ·intro z u
    by_cases e:q.1∈[14,15,16]
    ·grind [Rds.pl]
    ·exact h.no _ (P.kx.keep _ _ e u),P.no,r⟩
end
def tpM(b:Id)(y:ae):Nat:=((box y b).map λx=>match x.bA with|[[.l bA _ _, .s (.int _ n)]]=>L bA-n.toNat|_=>0).getD 0
theorem aTD{Y:ae}{b:Id}{l:List Int}{a:Nat}(T:Tp Y b l a):tpM b Y=L l-a:=by simp only[tpM,T.bx];show L (l.map cu)-(a:Int).toNat=_;simp
def bfl{k:Nat}{s:sA}{e:aP}(h:vH k s)(i:k<1000)(a:be3 aNE s e=U)(g:L s.cells=5)(c:L s.bU=1)(d:L s.count=4):vH (k+1) (nD aNE s e)/\L (nD aNE s e).cells=5/\L (nD aNE s e).bU=1/\L (nD aNE s e).count=4:=by refine⟨h.step (by omega),?_⟩;grind [nD,oc]
section
attribute[local irreducible] aX
def LeN(n:Int)(k:Nat):Prop:=k<=16/\((k:Int)<=n\/k=0)
def bdm{Y:ae}{b:Id}{l:List Int}{a:Nat}{ds:List AV}{s:sA}{n:Int}(H:L Y=4096)(hb:b.1=16)(T:Tp Y b l a)(hL:Lk ds s.c)(hS:vH 0 s)(h5:L s.cells=5)(h1:L s.bU=1)(h4:L s.count=4)(hn:n<=16):∃r Y1,(∃t:List aP,r= .l (t.map aP.c) I I/\LeN n (L t)/\(∀e∈t,EvL e)/\Kx [14,15,16] Y Y1)/\cZ aS GG 56 [.p b 0 0, .a ds, .a aNE.c,iv n,bv U] Y r Y1:=by generalize hQ:(λ(r:AV) (y:ae)=>∃t:List aP,aOo y r= .l (t.map aP.c) I I/\LeN n (L t)/\(∀e∈t,EvL e)/\Kx [14,15,16] Y (kills y<|aNW r))=Qq;refine aQR (R:=Qq) ?_ (by grind);refine bhB H (oC hL) rfl λs4 v6 v7 K4 c5 b3 c7 S W=>?_;have F4:Fx Y s4 []:=K4.fx [];have c3:=F4.len.trans H;have cl:aN J (List.drop 4 aNE.c)=V (sl cs aNE.ay):=rfl;have bX:∀{Y:ae},fS Y (sl cs aNE.ay)=V (iv (4:Nat)):=rfl;simp only[aVT,u0,u1,W,cl,bX,aj,↓uL];refine AP (by decide) (by decide) (by omega) (by decide) λB s9 hB NB F9 bB=>?_;have aQ:=F4.trans F9;have P0:PlS Y s9 b l v6 v7 B (λ_=> .l [] U U) 0:=⟨(by grind [Fx.keep]),F9.kq W,⟨a,T.fx aQ<|by simp⟩,aQ.kx (by simp),⟨by rw[bB];rfl,λi hi=>⟨[],by simp, .inl ⟨rfl,rfl⟩⟩,by simp[aA],by simp[aA]⟩,by simp[aA],⟨b3,(NB.old F4).no⟩,hb,hB⟩;have bg:∀{x:ae} {f:Nat->AV} {k:Nat},PlS Y x b l v6 v7 B f k->fS x (.m B 4)=V (iv (4:Nat)):=λ{x f k} P=>(by simp[fS,P.rd.bx]);simp only[qz 6,bg P0,aY,↓uL];have a6:∀{e:aP},aN (V 7) e.c=V (.a e.c):=rfl;have a7:aN (V 6) aNE.c=V (.a aNE.c):=rfl;refine yV 4 (λk _ y=>∃f,PlS Y y b l v6 v7 B f k) ⟨_,P0⟩ ?_;rintro k _ x hk ⟨f,P⟩;rcases Z:Q ((k:Int)<((4:Nat):Int)) with _|_;(focus simp only[qz 31,aI,au,av4,aY,Z,↓iB,↓uL];have bV:k=4:=(by grind);subst bV;let o:aG:=λvs y=>∃(out:AV) (t:List aP) (f:Nat->AV),vs=[out]/\LeN n (L t)/\(∀e∈t,EvL e)/\lA y 62 7 out (t.map aP.c)/\(∀q∈aA out,q.1=108/\∀z,box Y q≠V z)/\PlS Y y b l v6 v7 B f (4+L t);refine⟨o,λ_ y=>tpM b y,⟨_,[],f,rfl,⟨by simp, .inr rfl⟩,by simp, .inl ⟨rfl,rfl⟩,by simp[aA],P⟩,?_⟩;rintro _ x ⟨out,t,f,rfl,a3,aC,g,po,P⟩;generalize hI:o=I';obtain⟨a',M⟩:=P.tp;have aE:=P.kx.len.trans H;have aD:fS x out=V (iv<|L t):=(by rw[g.ln,bJ]);have aF:aNN Qq x [out]:=(by show Qq out x;rw[<-hQ];have ei:aNW out=aA out:=(by have:=aQX g;rcases g with⟨_,rfl⟩|⟨c,m,rfl,_⟩<;>rfl);have ef:aOo x out= .l (t.map aP.c) I I:=(by rw[<-g.ar];rcases g with⟨_,rfl⟩|⟨c,m,rfl,_⟩<;>rfl);refine⟨t,ef,a3,aC,?_⟩;rw[ei];exact P.kx.fx (aOp _ _)<|by simp_all);rcases Z:Q ((L t:Int)<n) with _|_;simp only[qz 73,aI,au,aD,u0,u1,Z,J3,↓jN,a7c,bt,↓uL];exact aF;rcases q2:Q ((a':Int)<(L l:Int)) with _|_;simp only[qz 73,aI,au,aD,u0,u1,nlP M.bx,M.bx,Z,q2,k1A,nM,J3,aj,↓jA,bt,↓uL];exact aF;have cI:L t<16:=(by grind);have c2:a'<L l:=(by simp_all);obtain⟨ap,s',ao,ab,a0,aZ,bA,bG⟩:=P.b6;obtain⟨x0,x1,x2,x3,t4,o4,t5,o5,t6,o6,bO⟩:=aXM ab;have ck:aN (V 7) ap=V (.a ap):=(by rw[bO];rfl);simp only[qz 73,aI,au,aD,u0,u1,nlP M.bx,M.bx,Z,q2,ao,P.b7,ck,a7,k1A,nM,J3,aj,↓jA,bt,↓uL];refine jH rfl (bdf aE (.inr<|.inr hb) hB M ab (by have:=a0.sy.th;omega) aZ (by omega)<|P.rd.mono<|by omega) ?_;rintro _ y ⟨e,a2,rfl,he,ac,T2,_,cH,K2⟩;refine⟨K2.len,?_⟩;have E:=P.kxx K2 T2;have b0:=E.kx.len.trans H;have g2:lA y 62 7 out (t.map aP.c):=(by grind [Kx.gr]);simp only[qz 16,qy 18,↓uL];refine I4 b0 λD y1 G1 c0 bs=>?_;refine stW bs rfl rfl λy2 G2 aU=>?_;have P3:=(E.fx G1 (by simp)<|by simp).fx G2 (by simp) (by simp);have g3:=(g2.fx G1<|by simp).fx G2 (by grind);have T3:Tp y2 b l a2:=(T2.fx G1<|by simp).fx G2 (by grind);obtain⟨av,s3,aT,N,a1,bH,bC,aW⟩:=P3.b6;obtain⟨z0,z1,z2,z3,da,c8,db,c9,cm,b4,aB⟩:=aXM N;have bk:aN (V 7) av=V (.a av):=(by rw[aB];rfl);have br:∀{Y:ae},dG Y (.a av)= .a s3.c:=λ{Y}=>N.arg Y;obtain⟨b9,ca,cc,cd,cf,cg,ch⟩:=a1.snB (by omega);simp only[qz 20,qy 22,u0,u1,aT,P3.b7,aU,bk,a7,a6,J3,bcy,ar,br,↓uL];refine⟨⟨by decide,b9,ca,cc,cd,cf,cg,ch,by have:=he.1;omega,by have:=he.2;omega⟩,?_⟩;rintro _ ⟨cs,rfl,az⟩;refine⟨by rw[lo,nA];exact .inl (by simp[x9 N];simp[eB,iR,aP.c,J9.c,sl]),?_⟩;simp only[oJ,pG,aY,↓uL];have bi:=P3.kx.len.trans H;refine I4 bi λcp y3 G3 c1 bu=>?_;refine stW bu rfl (oC az) λK G4 aV=>?_;have A:=(P3.fx G3 (by simp)<|by simp).fx G4 (by simp) (by simp);have g4:=(g3.fx G3<|by simp).fx G4 (by grind);have T4:Tp K b l a2:=(T3.fx G3<|by simp).fx G4 (by grind);have G:=G4.kq<|G3.kq aU;have aa:=G4.kq<|G3.kq aT;rcases b1:be3 aNE s3 e with _|_;simp only[qz 24,aIN,u0,↓iC,↓uL];rw[<-hI];exact⟨⟨out,t,f,rfl,a3,aC,g4,po,A⟩,by grind [aTD]⟩;have a4:=bfl a1 (by omega) b1 bH bC aW;have cj:aN (V 7) cs=V (.a cs):=(by grind [oC,aN]);have up:∀{y:ae} {f:Nat->AV},PlS Y y b l v6 v7 B f (4+L t)->PlS Y y b l v6 v7 B f (4+(L t+1)):=λ{y f} P=>(by obtain⟨ds,s,h1,h2,C,h4⟩:=P.b6;exact⟨⟨ds,s,h1,h2,⟨C.sy.mono (by omega),C.ce,C.fu,C.co,λc hc=>by have:=C.cn c hc;omega⟩,h4⟩,P.b7,P.tp,P.kx,P.rd.mono (by omega),P.nw,P.no,P.pb⟩);simp only[qz 24,aIN,u0,↓iB,↓uL];refine bpD (λj=>∀{z:ae} {f':Nat->AV},PlS Y z b l v6 v7 B f' (4+(L t+1))->(∃d,box z (6,v6)=V ⟨40,7,U,U,[d]⟩/\L d=7)->box z (14,D)=V ⟨62,7,U,U,[e.c]⟩->box z (15,cp)=V ⟨40,7,U,U,[cs]⟩->lA z 62 7 out (t.map aP.c)->Tp z b l a2->j [] z) (λ{z f'} P h6 bD bF g T=>?_) λj a5=>?_;obtain⟨d6,h6,bM⟩:=h6;have bL:aX btV 1 z [(0, .a e.c)]=V (.l ([e].map aP.c) U U,z):=ua rfl rfl rfl (by decide) (by simp[aP.c,eN,sl]) (by decide);have ad:∀{l:List aP},∀r∈l.map aP.c,L r=7:=qW (by intro _;rfl);simp only[qz 117,qy 32,aI,au,u0,u1,bD,a6,bL,J3,↓uL];refine apQ g (P.kx.len.trans H) ad ad (by simp) (by simp;omega) λout' z1 g1 F1 p1=>?_;have X:∀{q:Id},q.1≠108->q∉aA out:=(by grind);have bb:=F1.keep _ _ (X<|by simp) bF;have bI:=F1.keep _ _ (X<|by simp) h6;have P1:=P.fx F1 (λq v=>by rw[(po q v).1];decide) (by grind);simp only[qz 34,qy 36,u0,u1,bb,cj,J3,↓uL];refine stW bI bM (oC az) λz2 O c6=>?_;have aR:Tp z2 b l a2:=(T.fx F1<|X<|by omega).fx O (by grind);have b8:∀q∈aA out',q.1=108/\∀w,box Y q≠V w:=λq v=>⟨(p1 q v).2,λw hw=>(p1 q v).1.no w<|P.kx.keep _ _ (by rw[(p1 q v).2];decide) hw⟩;rw[<-hI];refine⟨⟨out',t++[e],f',rfl,⟨by simp;omega, .inl (by have:=asq Z;simp;omega)⟩,λy hy=>?_,?_,b8,?_⟩,by rw[aTD aR,aTD M];omega⟩;rcases dF.1 hy with h|h;exact aC y h;grind;rw[dg];exact g1.p.fx O (by grind);rw[a6G];exact⟨⟨cs,_,c6,az,(show 4+L t+1=4+(L t+[e].length) from rfl)▸a4.1,a4.2⟩,O.kq P1.b7,⟨a2,aR⟩,P1.kx.fx O (by grind),P1.rd.fx O (λq v=>by simp at v;subst v;grind),P1.nw,P1.no,P1.pb⟩;have hu:e.aq.toNat<4:=(by omega);have f1:iQ 1 K (.p (14,D) 0 0)=V (.p (14,D) 0 1):=(by grind [rR]);have l1:vl J K (.p (14,D) 0 1)=V (iv e.kind):=(by rw[aC5,G];rfl);rcases q3:Q (e.kind=3) with _|_<;>rcases cb:Q (e.kind=23) with _|_<;>simp only[qz 119,qy 26,u0,f1,l1,iM,q3,cb,↓jA,↓jN,aUw,a7c,bt,↓uL];exact a5 (up A) ⟨_,aa,oC N⟩ G aV g4 T4;all_goals have f0:iQ 0 K (.p (14,D) 0 0)=V (.p (14,D) 0 0):=(by grind [rR]);have l0:vl J K (.p (14,D) 0 0)=V (iv e.aq):=(by rw[aC5,G];rfl);have f6:iQ 6 K (.p (6,v6) 0 0)=V (.p (6,v6) 0 6):=(by rw[rR,aa];rfl);have l6:vl J K (.p (6,v6) 0 6)=V (.l (s3.count.map ci) cm b4):=(by rw[aC5,aa,aB];rfl);have bS:cz 1 K (.m B 4) (iv e.aq)=V (.p B e.aq.toNat 0):=(by simp[cz,ac.1,A.rd.bx,hu]);have bW:vl J K (.p B e.aq.toNat 0)=V (f e.aq.toNat):=(by simp[vl,iE,A.rd.bx,uU hu,aN]);simp only[f0,l0,f6,l6,bS,bW,aY,tf,ci,qM,aS1,bQ,↓uL];refine⟨⟨ac.1,by rw[aW];exact ac.2⟩,?_⟩;obtain⟨ns,c4,bz⟩:=A.rd.gr _ hu;have hk:=(SlR.of bz).keys (P:=λp=>p=47\/p=103) (λq v=>A.rd.pl _ hu q v);refine a62 A.rd ac (.inr rfl) (A.kx.len.trans H) (by omega) hB λa' z f' R F hf=>?_;simp only[qz 30,↓uL];refine dT ?_ ?_;rcases hk with e1|⟨p,e1,rfl|rfl⟩<;>simp[eL,lb,e1,aTn,a6H,bc6];have h1:=A.rd.pl _ hu;have ne:∀{q:Id},q.1≠20->q.1≠47->q.1≠103->q∉B::aA (f e.aq.toNat):=λ{q} n1 n2 n3 v=>(by rcases eW.1 v with rfl|h;exact n1 hB;rcases h1 _ h with e|e<;>omega);exact a5 (A.reads hu R F hf (by omega) (up A).b6) ⟨_,F.keep _ _ (by grind) aa,oC N⟩ (F.keep _ _ (by grind) G) (F.keep _ _ (by grind) aV) (g4.fx F λq v=>ne (by grind) (by grind)<|by grind)<|T4.fx F<|ne (by omega) (by omega)<|by omega);have bY:k<4:=(by grind);have up:∀{y:ae} {f:Nat->AV},PlS Y y b l v6 v7 B f k->PlS Y y b l v6 v7 B f (k+1):=λ{y f} P=>(by obtain⟨ds,s,h1,h2,C,h4⟩:=P.b6;exact⟨⟨ds,s,h1,h2,⟨C.sy.mono (by omega),C.ce,C.fu,C.co,λc hc=>by have:=C.cn c hc;omega⟩,h4⟩,P.b7,P.tp,P.kx,P.rd.mono (by omega),P.nw,P.no,P.pb⟩);obtain⟨ap,s',ao,ab,a0,aZ,bA,bG⟩:=P.b6;obtain⟨x0,x1,x2,x3,t4,o4,t5,o5,t6,o6,rfl⟩:=aXM ab;have aE:=P.kx.len.trans H;simp only[qz 31,aI,au,av4,aY,Z,↓iC,↓uL];refine bpD (λj=>∀{y:ae} {f:Nat->AV},PlS Y y b l v6 v7 B f (k+1)->j [] y) (λ{y f} P=>?_) λj nx=>?_;simp only[qz 51,aI,au,cS,aY,↓uL];exact yU bY ⟨_,P⟩;simp only[qz 53,qy 10,u0,u1,ao,k1A,nM,J3,aj,tf,ci,qM,↓jA,aUw,↓uL];refine⟨⟨by omega,by omega⟩,?_⟩;rcases q2:Q (1<gd s'.count ((k:Int)).toNat) with _|_;simp only[u0,aOq,↓jN,a7c,bt,↓uL];exact nx<|up P;simp only[u0,aPh,↓jA,aUw,↓uL];obtain⟨a',M⟩:=P.tp;refine aPu (d:=37) aE M λu a2 y _ _ T2 _ O=>?_;have E:=P.tape O T2;rcases q3:Q (u=2) with _|_;simp only[u0,u1,q3,bt,↓uL];exact nx<|up E;simp only[u0,iM,q3,bt,↓uL];refine E.rd.rd (by omega) ?_;simp only[aS1,bQ];refine a62 E.rd (by omega) (.inl rfl) (E.kx.len.trans H) (by omega) hB λa' z f' R F hf=>?_;exact nx (E.reads (by omega) R F hf (dA _) (up E).b6)
end
def vq(w:J9)(l:List aP):Nat->sA|0=>aH6 w|k+1=>nD w (vq w l k)<|gd l k
structure aN4(w:J9)(l:List aP):Prop where
 wv:mQ w=U
 ln:L l<=400
 st:∀k,k<L l->be3 w (vq w l k) (gd l k)=U
 dp:∀k,k<L l->∀n∈(gd l k).dI,aOE l k (gd l k).aq n
 fr:∀k,k<L l->∀n∈(gd l k).ep,aOE l k (gd l k).aq n
def a6b{l:List aP}{t:Int}{i m:Nat}:bkk l t (i+m)=bkk l t i+bkk (l.drop i) t m:=by simp only[bkk,List.take_add,List.filter_append,a6G]
def a6Y(t:Int):∀(l:List aP) (j i:Nat),j<L l->(gd l j).aq=t->pS t l (bkk l t j) i=((i+j:Nat):Int)
 |[],j,i,h,_=>by simp at h
 |e::l,0,i,_,h=>by
  have b:e.aq=t:=h
  simp[pS,bkk,b]
 |e::l,j+1,i,h,c=>by
  have a:(gd l j).aq=t:=by grind [gd]
  have d:=a6Y t l j (i+1) (by simpa using h) a
  grind [pS,bkk]
def aXY{α:Type}{n:Nat}{x y:α}(h:y∈er n x):y=x:=(by simp_all)
theorem aTg{α:Type}[Inhabited α]{n j:Nat}{x:α}(h:j<n):gd (er n x) j=x:=by grind [bT]
def bcG{n j:Nat}(h:j<n):gd (qZ n) j=⟨if j=0 then 1 else 0,0,I⟩:=by grind [bT,qZ]
def a7j:∀n:Nat,(er n (0:Int)).sum=0
 |0=>rfl
 |n+1=>by simp
theorem a7R{w:J9}(h:mQ w=U):∀j,j<L w.bC->uh w j=I:=by grind [mQ]
theorem SI.start{w:J9}(h:mQ w=U):SI w (aH6 w) 0:=by have n:=a7R h;refine⟨?_,?_,?_,?_,?_,?_,?_⟩;simp only[fN,lh,aH6,bN,I8];grind [qZ,ou,uh,bT];intro c k;rw[aXY k];omega;exact a7j _;intro j g;have a:j<L w.ay:=(by grind [aH6,qZ]);have e:gd (aH6 w).bW.ay j=⟨if j=0 then 1 else 0,0,I⟩:=bcG a;have m:gd (aH6 w).count j=0:=aTg a;by_cases b:j=0;subst b;simp only[aPy] at e;exact⟨by rw[e];simp,by simp_all,by rw[e];simp,by rw[e];simp,by rw[e];simp,by rw[e];simp⟩;rw[lC b] at e;exact⟨by rw[e];simp,by simp_all,λd=>aPo d b,by rw[e];simp,by rw[e];simp,by rw[e];simp⟩;intro j g;have a:j<L w.ak:=(by grind [aH6]);have e:gd (aH6 w).bW.ak j=⟨-1,[]⟩:=aTg a;exact⟨by simp_all,by simp_all,by simp_all,by rw[e];intro i f;simp at f⟩;intro h;exact aPo rfl h;grind [aH6,aTg]
section
variable{w:J9}{l:List aP}
theorem aN4.si(h:aN4 w l):∀k,k<=L l->SI w (vq w l k) k
 |0,_=>SI.start h.wv
 |k+1,a=>by
  have b:=h.si k (by omega)
  have c:=h.st k a
  have e:vq w l (k+1)=oc w (vq w l k) (gd l k):=by grind [vq,nD]
  grind [SI.step,a7R,aN4.wv,aN4.ln]
theorem aN4.thr(h:aN4 w l){k:Nat}(a:k<L l):aF (L w.ay) (gd l k).aq:=by have b:=h.st k a;grind [be3,aOL,dX]
theorem aN4.cnt(h:aN4 w l){t:Nat}(c:t<L w.ay):∀k,k<=L l->gd (vq w l k).count t=bkk l t k
 |0,_=>by
  grind [aH6,aTg,vq,bkk]
 |k+1,a=>by
  have n:=h.cnt c k (by omega)
  have i:=h.st k a
  have b:=h.thr a
  have hs:=h.si k (by omega)
  have d:L (vq w l k).count=L w.ay:=by
   have:=hs.fit
   grind [fN]
  have e:vq w l (k+1)=oc w (vq w l k) (gd l k):=by grind [vq,nD]
  rw[e,aV8<|by omega]
  simp only[oc]
  rw[gdS]
  have j:=aWu hs.c0
  have f:=h.ln
  by_cases m:(gd l k).aq=(t:Int)
  ·grind [a6c,eM]
  ·have g:¬(gd l k).aq.toNat=t:=by have:=b.1;omega
   simp_all
theorem a7P(h:aN4 w l){i m:Nat}{st:Int}:∀k,k<=m->cY ⟨w,st,vq w l i,(l.drop i).take m⟩ k=vq w l (i+k)
 |0,_=>rfl
 |k+1,a=>by
  have b:=a7P h (i:=i) (m:=m) (st:=st) k (by omega)
  grind [cY,gd,vq]
theorem aWv{i m k:Nat}(a:k<m):gd ((l.drop i).take m) k=gd l (i+k):=by grind [gd]
theorem a63(h:aN4 w l){i m k:Nat}{st:Int}(r:i<=L l)(D:k<m)(v:i+k<L l){t n:Int}(e:aF (L w.ay) t)(s:aOE l (i+k) t n):qU ⟨w,st,vq w l i,(l.drop i).take m⟩ t n=U:=by obtain⟨j,z,p,A,B⟩:=s;obtain⟨a,rfl⟩:∃a:Nat,t=a:=⟨t.toNat,by have:=e.1;omega⟩;have f:a<L w.ay:=(by have:=e.2;omega);have C:=h.cnt f i r;unfold qU;simp only[bh];rcases Decidable.em (n<gd (vq w l i).count a) with c|c;simp[c];have u:i<=j:=(by rcases jj j i with b|b;exfalso;have:bkk l a (j+1)<=bkk l a i:=(by obtain⟨d,rfl⟩:∃d,i=j+1+d:=⟨i-(j+1),by omega⟩;simp_all [a6b]);grind [aV8];exact b);obtain⟨d,rfl⟩:∃d,j=i+d:=⟨j-i,by omega⟩;have q:d<m:=(by omega);have g:bkk ((l.drop i).take m) a d=bkk (l.drop i) a d:=(by grind [bkk]);have x:=@a6b l a i d;have o:=a6Y a ((l.drop i).take m) d 0 (by simp only[gC,oz];omega) (by rw[aWv q];exact p);have y:oV ⟨w,st,vq w l i,(l.drop i).take m⟩ a (n-gd (vq w l i).count a)=(d:Int):=(by unfold oV;simp only;rw[show n-gd (vq w l i).count a=((bkk ((l.drop i).take m) a d:Nat):Int) by rw[g];omega,o];simp);grind [aWv]
theorem bau{a:am}{t:Int}:bg a.init t->nO a t=U:=λh=>by
 simp only[nO,bN,I8]
 exact⟨dX.2 h.1,h.2⟩
theorem bhG(h:aN4 w l){i m:Nat}(u:i<=L l)(D:m<=16):bcV ⟨w,i,vq w l i,(l.drop i).take m⟩=U:=by have hs:=h.si i u;have A:=h.ln;have B:L ((l.drop i).take m)<=L l-i:=(by grind);have C:L ((l.drop i).take m)<=m:=(by grind);generalize e:(⟨w,i,vq w l i,(l.drop i).take m⟩:am)=W;have d:W.aQ=w:=(by rw[<-e]);have b:W.init=vq w l i:=(by rw[<-e]);have v:W.start=i:=(by rw[<-e]);have p:W.ac=(l.drop i).take m:=(by rw[<-e]);have n:∀t,bg (vq w l i) t->nO W t=U:=(by grind [bau]);simp only[bcV,oh,bN,eH,cP,fK,I8,apT];refine⟨⟨⟨⟨⟨⟨?_,?_⟩,?_⟩,?_⟩,?_⟩,?_⟩,?_,?_⟩;rw[d];exact h.wv;grind [SI.fit];grind;simp only[rM,bN,I8];rw[b,v,p,hs.sum];refine⟨λc o=>⟨hs.c0 c o,?_⟩,rfl,by omega⟩;obtain⟨j,a,rfl⟩:=ou o;have:=(aWu hs.c0 j).1;grind [SI.sum,bT];simp only[uZ,I8];rw[b];intro j a;have S:=hs.st j a;obtain⟨E,F⟩:=S.r;simp only[aOK,Eu,zX,d,b,bN,eH,cP,apT,bik,fK,beq_iff_eq];grind [StI.fr,StI.z,dX,StI.wt,StI.nw];simp only[ny,bN,I8,eH];refine⟨λj a=>?_,?_,λj a=>?_⟩;rw[b] at a;have Lw:=hs.lk j a;refine⟨?_,λk g=>?_⟩;simp only[AM,d,b,cP,bik,apT,fK,aNS];grind [LcI.ow,LcI.rd];rw[b] at g⊢;refine⟨n _<|Lw.rb _<|ve g,λf=>?_⟩;have:=Lw.inc (k-1) (by omega);grind;simp only[yS,b,bik,apT,aNS,fK];grind [SI.tx];rw[b] at a;have S:=hs.st j a;simp only[pX,d,b,bN,eH,bik,fK,cP,apT];refine⟨?_,?_⟩;grind [StI.at'];rcases Decidable.em ((gd (vq w l i).bW.ay j).cQ=3\/(gd (vq w l i).bW.ay j).cQ=4) with f|f;exact .inr (S.wt f).2;omega;rw[b];intro j a;have:=hs.fu j a;grind [Ae];rw[p];intro k g;have y:k<m:=(by omega);have x:i+k<L l:=(by omega);have q:gd W.ac k=gd l (i+k):=(by grind [aWv]);have s:cY W k=vq w l (i+k):=(by grind [a7P]);simp only[xH,q,s,d,cP,fK,I8];grind [aN4.st,a63,aN4.thr,aN4.dp,aN4.fr]
end
def aXL(s:sA):Lk s.c s.c:=⟨rfl,rfl⟩
def bfm{s:sA}(h:sz5 s):vH 0 s:=⟨⟨by rw[h.1];decide,by rw[h.2.1];decide,by rw[h.2.2.1];decide,λl b=>by have:=h.2.2.2.2.2.2.1 l b;omega⟩,by rw[h.2.2.2.1];decide,by rw[h.2.2.2.2.1];decide,by rw[h.2.2.2.2.2.1];decide,λc a=>by have:=h.2.2.2.2.2.2.2 c a;omega⟩
def w00:am:=⟨aNE,0,aH6 aNE,[]⟩
def bfG:bcV w00=U:=by kernel_rfl
def bfF:hU w00:=⟨by decide,by decide,by grind [w00],by decide⟩
def aWb(w:am):iX (.a w.c)=U:=by simp[iX,eN,am.c,sl]
def aXE(l:List Int)(n:Int)(hp:(∀x∈l,0<=x/\x<256)/\L l<4611686018427387904):Ct 21 [sl cu l,iv n] (λr=>∃w:am,r= .a w.c/\bcV w=U/\hU w/\((L w.ac:Int)<=n\/L w.ac=0)):=by obtain⟨hb,aZ⟩:=hp;generalize hQ:(λ(r:AV)=>∃w:am,r= .a w.c/\bcV w=U/\hU w/\((L w.ac:Int)<=n\/L w.ac=0))=Qq;refine aDq (bhv λs0 hl h0=>?_);simp only[a4B,qy 2];refine I4 hl λv1 s2 F2 N2 b1=>?_;have aW:=F2.len.trans hl;refine btF (λb=>∀l':List Int,(∀x∈l',0<=x/\x<256)->L l'<4611686018427387904->b [sl cu l']) ?_ λb hj=>(by rcases q:Q ((400:Int)<(L l:Int)) with _|_;simp only[qz 11,u0,u1,q,bt,↓uL];exact hj l hb aZ;simp only[qz 11,u0,u1,q,bt,↓uL];rw[aIk (z:=1) (f:=cu) λ_=>rfl];have:=asq q;refine⟨(by omega),hj _ (by grind)<|by grind⟩);intro l' aP aq;have aR:bM btZ brF [(0,sl cu l')]=V (.a [sl cu l',iv 0]):=rfl;simp only[qz 9,qy 6,aI,au,aR,aY];refine bxL rfl (by decide) (by omega) λv5 s6 F6 N5 E=>?_;have T6:Tp s6 (16,v5) l' 0:=⟨E,by omega,aP,aq⟩;have X:=F6.len.trans aW;have aG:=F6.kq b1;have aQ:bM aOQ aP0 [(0, .a aNE.c)]=V (.a<|aNE.c++(iv 0::(bsk++[.l [] U U]))):=rfl;simp only[aWo,ar,u0,aQ,↓uL];refine⟨by simp[lo,nA],?_⟩;refine I4 X λd bA aw N9 b9=>?_;refine stW b9 rfl rfl λbb ax c9=>?_;have g:Fx s6 bb []:=(aw.trans ax).mono (by grind [bK.no]);have aC:=T6.fx g (by simp);have K:=g.len.trans X;have ah:=g.kq aG;have a9:∀{xs:List AV},aN (V 6) (aNE.c++xs)=V (.a aNE.c):=λ{xs}=>rfl;simp only[qz 8,u0,u1,c9,a9,aj,J3,↓uL];refine jH rfl (bdb K (.inr<|.inr rfl) aC) ?_;rintro _ bB ⟨s,a',rfl,m,aD,_,o⟩;refine⟨o.len,?_⟩;have ao:=o.len.trans K;have R:=o.kq c9;have aF:=o.kq ah;have fb:∀{y:ae} {j:Nat} {r:List AV},box y (6,d)=V ⟨43,15,U,U,[r]⟩->iQ j y (.p (6,d) 0 7)=V (.p (6,d) 0<|7+j):=(by grind [rR]);simp only[qz 10,aNI R,aY,↓uL];refine cy (y:=7) (cs:=s.c) R rfl rfl (by decide) λaf u aL=>?_;have aE:=aD.fx u (by simp);have ap:=u.len.trans ao;have aJ:=u.kq aF;have F:box af (6,d)=V ⟨43,15,U,U,[aNE.c++(iv 0::(s.c++[.l [] U U]))]⟩:=aL;have a7:∀{y:ae} {st:Int} {e:AV},box y (6,d)=V ⟨43,15,U,U,[aNE.c++(iv st::(s.c++[e]))]⟩->vl J y (.p (6,d) 0 13)=V (sl ci s.count):=λ{y st e} h=>(by rw[aC5,h];rfl);have l6:∀{y:ae} {st:Int} {e:AV},box y (6,d)=V ⟨43,15,U,U,[aNE.c++(iv st::(s.c++[e]))]⟩->vl J y (.p (6,d) 0 6)=V (iv st):=λ{y st e} h=>(by rw[aC5,h];rfl);have l7:∀{y:ae} {st:Int} {e:AV},box y (6,d)=V ⟨43,15,U,U,[aNE.c++(iv st::(s.c++[e]))]⟩->vl (V 7) y (.p (6,d) 0 7)=V (.a s.c):=λ{y st e} h=>(by rw[aC5,h];rfl);have l0:∀{y:ae} {r:List AV},box y (6,d)=V ⟨43,15,U,U,[aNE.c++r]⟩->vl (V 6) y (.p (6,d) 0 0)=V (.a aNE.c):=λ{y r} h=>(by rw[aC5,h];rfl);have O:∀{Y:ae} {l:List Int},fS Y (sl ci l)=V (iv<|L l):=cT;have bw:L s.count<1000:=(by rw[m.2.2.2.2.2.1];decide);simp only[qz 12,aNI F,fb F,a7 F,O,aY,Nat.reduceAdd,↓uL];refine yV (L s.count) (λ_ _ y=>(∃st:Int,box y (6,d)=V ⟨43,15,U,U,[aNE.c++(iv st::(s.c++[.l [] U U]))]⟩)/\Fx af y [(6,d)]) (by grind [Fx.refl]) ?_;rintro k _ y hk ⟨⟨st,i⟩,M⟩;rcases q1:Q ((k:Int)<(L s.count:Int)) with _|_;simp only[qz 49,aI,au,av4,aY,q1,↓iB,aNI i,l7 i,l0 i,aRW,aXT,↓uL];generalize ab:(if(16:Int)<(if(0:Int)>n then 0 else n) then(16:Int) else(if(0:Int)>n then 0 else n))=n';have av:n'<=16:=(by omega);have bx:n'<=n\/n'<=0:=(by by_cases h0:(0:Int)>n;right;rw[<-ab,lD h0];simp;left;rw[<-ab,lC h0];split<;>omega);have aa:=M.len.trans ap;have Ty:=aE.fx M (by simp);refine jH rfl (bdm aa rfl Ty (aXL s) (bfm m) m.2.2.2.1 m.2.2.2.2.1 m.2.2.2.2.2.1 av) ?_;rintro _ y2 ⟨G,rfl,an,W,N⟩;refine⟨N.len,?_⟩;have T:=N.kq i;have aK:=N.kq<|M.kq aJ;simp only[qz 16,aNI T,aY,↓uL];refine A0 T rfl (by simp[J9.c,sA.c]) λy3 F3 b3=>?_;have P:=F3.kq aK;have aX:L y3=4096:=F3.len.trans<|N.len.trans aa;have d3:box y3 (6,d)=V ⟨43,15,U,U,[am.c ⟨aNE,st,s,G⟩]⟩:=b3;have ad:∀{w:am},aN (V 15) w.c=V (.a w.c):=λ{w}=>rfl;have H:hU ⟨aNE,st,s,G⟩:=⟨by show L aNE.bC<_;decide,λq hq=>by have:=m.2.2.2.2.2.2.1 q hq;omega,λe he=>⟨by have:=(W e he).1;omega,by have:=(W e he).2;omega⟩,by show L s.bU<_;rw[m.2.2.2.2.1];decide⟩;simp only[qz 18,qy 24,u0,u1,d3,ad,J3,aWo,ar,rr,↓uL];refine⟨H,λbz=>?_,λa0=>?_⟩;refine⟨by simp[lo,nA],by simp[lo,nA],?_⟩;refine jH rfl (aXI (w:=aNE) aX (by decide) (by decide) (by decide)<|by decide) ?_;rintro _ y4 ⟨a1,v,A,B,C,D,rfl,S,F4⟩;refine⟨F4.len,?_⟩;have al:bM aOQ aP0 [(0, .a aNE.c),(2, .a [a1,iv<|-1,v,A,B,C,D])]=V (.a<|aNE.c++(iv 0::([a1,iv<|-1,v,A,B,C,D]++[.l [] U U]))):=rfl;have ba:aN (V 15) (aNE.c++(iv 0::([a1,iv<|-1,v,A,B,C,D]++[.l [] U U])))=V (.a<|aNE.c++(iv 0::([a1,iv<|-1,v,A,B,C,D]++[.l [] U U]))):=rfl;simp only[qz 20,qy 22,al,aY,↓uL];refine stW (F4.kq P) rfl rfl λy5 F5 E=>?_;have t:=S.keep F5 (by simp);simp only[u0,u1,E,ba,J3,↓uL];have hf:(aNE.c++(iv 0::([a1,iv<|-1,v,A,B,C,D]++[.l [] U U]))).map (fz y5)=w00.c:=(by simp only[dg,ji,mU,aBr t.g1,aBr t.g2,aBr t.g3,aBr t.g4,aBr t.g5,aBr t.g6];rfl);refine aOv (v':= .a w00.c) (brz AV.a hf) (aWb _) ?_;rw[<-hQ];exact⟨w00,rfl,bfG,bfF, .inr rfl⟩;refine stW P rfl rfl λy5 F5 E=>?_;simp only[u0,u1,E,ad,↓uL];refine aOv (v':= .a<|am.c ⟨aNE,st,s,G⟩) rfl (aWb _) ?_;rw[<-hQ];exact⟨_,rfl,by simpa using a0,H,by have:=an.2;show(L G:Int)<=n\/L G=0;omega⟩;have Z:k<L s.count:=(by simp_all);simp only[qz 49,aI,au,av4,aY,q1,↓iC,amX,ci,qM,aNI i,l6 i,cS,↓uL];refine⟨dJ Z,?_⟩;refine A0 i rfl (by simp[J9.c,sA.c]) λy2 F2 b2=>?_;simp only[qz 14,au,cS,aY,↓uL];exact yU Z ⟨⟨_,b2⟩,(M.trans F2).mono<|by simp⟩
def aSj:FT:=pn aXE
def bcl{l n Lw K}:=f211 aSj aXE l n Lw K (j:=by simp+contextual only[ij,aQZ])
def a7J:dO:=(21,aSj)::a7I
def aX7:eJ a7J:=sz (aN0 aXE)<|a7s
def aQW:=ai @bcl<|@aWo
section
attribute[local irreducible] aX
def a9Q:=I5 20 [(10,([5],[1,4]))]
def aSG a b R:=(.mk _:NR a7J a9Q Tryz.f61 [.u] [a] b R).p
def bhp{c0:List AV}{R:cC}(l0:L c0=7)(h:H1 75 7 1 c0 λia b=>aSG ia b R):Ct 61 [.a c0] R:=z1 a9Q aX7 Tryz.func61 l0 h
def aVy a a1 b R:=(.mk _:NR a7J aua Tryz.f62 [.u,a1] [a] b R).p
def bhs{c0:List AV}{a1:AV}{R:cC}(l0:L c0=7)(h:H1 75 7 2 c0 λia b=>aVy ia a1 b R):Ct 62 [.a c0,a1] R:=z1 aua aX7 Tryz.func62 l0 h
end
def a6N{Y:ae}{w:J9}(h:L Y=4096)(d:L w.cells<=1000)(e:L w.ak<=100)(f:L w.bU<=100)(g:L w.ay<=100):∃r b,(r= .a (aH6 w).c/\Fx Y b [])/\cZ aS GG 57 [.a w.c] Y r b:=by refine aQR (aXI h d e f g) ?_;rintro _ b ⟨a1,j,k,l,m,n,rfl,S,F⟩;refine⟨?_,(F.trans<|aOp _ _).mono λq i=> .inr (S.ids q i).1.no⟩;show AV.a (List.map gK<|List.map (gi b) _)=_;rw[vA];exact brz AV.a S.lz
def bfk{w:J9}(h:mQ w=U):vH 0 (aH6 w):=by obtain⟨d,e,f,g,i,j⟩:=aP4 h;refine⟨⟨by simp[aH6];omega,by simp[aH6];omega,by simp[aH6,qZ];omega,λl b=>?_⟩,by simp[aH6];omega,by simp[aH6];omega,by simp[aH6];omega,λc a=>?_⟩;rw[aXY b];simp;rw[aXY a];simp
def aTz{w:J9}{l:List aP}(h:mQ w=U):∀k,k<=90000->vH k (vq w l k)|0,_=>bfk h|k+1,a=>(aTz h k<|by omega).step (by omega)
theorem bcA{ds:List AV}{s:sA}(h:Lk ds s.c)(Y:ae):fzT Y (.a ds)= .a s.c:=by have b:=h.fd Y;have d:ds.map (fz Y)=(ds.map<|dQ Y).map gK:=(by rw[vA];rfl);show AV.a (ds.map<|fz Y)=_;rw[d,b,h.1]
theorem aR0{ds:List AV}{s:sA}(h:Lk ds s.c):aN (V 7) ds=V (.a ds):=Bi<|oC h
theorem ba9(s:sA):iX (.a s.c)=U:=by simp[iX,eN,sA.c,sl]
def aYr(w:J9)(l:List aP)(k:Nat):Prop:=∀j,j<k->be3 w (vq w l j) (gd l j)=U/\(∀n∈(gd l j).dI,aOE l j (gd l j).aq n)/\∀n∈(gd l j).ep,aOE l j (gd l j).aq n
def aXx(t:aOx)(hp:L t.ac<1000000/\∀e∈t.ac,EvL e):Ct 61 [.a t.c] (λr=>∃i e:Int,r= .t [iv i,iv e]/\(e=0->aN4 t.aQ t.ac)):=by obtain⟨N,ak⟩:=hp;generalize hQ:(λ(r:AV)=>∃i e:Int,r= .t [iv i,iv e]/\(e=0->aN4 t.aQ t.ac))=Qq;refine aDq (bhp rfl λs2 hl b h0=>?_);show aSG (.p (1,1) 0 0) s2 λr=>Qq<|bm1 r;have aW:∀{i e:Int},(e=0->aN4 t.aQ t.ac)->Qq (bm1<|.t [iv i,iv e]):=λ{i e} h=>(by rw[<-hQ];exact⟨i,e,rfl,h⟩);have aw:∀{y:ae} {i e:Int},(e=0->aN4 t.aQ t.ac)->aE (λr=>Qq<|bm1 r) y [iv i,iv e]:=λ{y i e} h=>aOH (vs':=[iv i,iv e]) rfl rfl (by rw[<-hQ];exact⟨i,e,rfl,h⟩);have lE:∀{y:ae},box y (1,1)=V ⟨75,7,U,U,[t.c]⟩->vl J y (.p (1,1) 0 6)=V (sl aP.c t.ac):=λ{y} h=>(by rw[aC5,h];rfl);have lW:∀{y:ae},box y (1,1)=V ⟨75,7,U,U,[t.c]⟩->vl (V 6) y (.p (1,1) 0 0)=V (.a t.aQ.c):=λ{y} h=>(by rw[aC5,h];rfl);have g:∀{y:ae},fS y (sl aP.c t.ac)=V (iv<|L t.ac):=cT;rcases q0:Q ((400:Int)<(L t.ac:Int)) with _|_;rotate_left;simp only[aSG,aNI b,lE b,g,av1,aY,q0,↓iC,↓uL];simp_all;have an:L t.ac<=400:=(by grind);simp only[aSG,aNI b,lE b,lW b,g,av1,aY,q0,↓iB,aQW,ar,rr,aIN,↓uL];rcases hv:mQ t.aQ with _|_;simp only[kN,iC];simp_all;obtain⟨z1,z2,z3,z4,z5,z6⟩:=aP4 hv;simp only[fh,iB];refine jH rfl (a6N hl (by omega) (by omega) (by omega)<|by omega) ?_;rintro _ a4 ⟨rfl,m⟩;refine⟨m.len,?_⟩;have w:=m.len.trans hl;have S:=m.kq b;simp only[qz 4,qy 6,qy 8];refine I4 w λv4 a5 G N4 b4=>?_;refine stW b4 rfl rfl λa6 H c4=>?_;have T:=H.kq<|G.kq S;have X:=H.len.trans<|G.len.trans w;refine yV (L t.ac) (λk _ y=>box y (1,1)=V ⟨75,7,U,U,[t.c]⟩/\(∃ds,box y (4,v4)=V ⟨40,7,U,U,[ds]⟩/\Lk ds (vq t.aQ t.ac k).c)/\L y=4096/\aYr t.aQ t.ac k) ⟨T,⟨_,c4,aXL _⟩,X,λj d=>aPo d<|Nat.not_lt_zero _⟩ ?_;rintro k _ y hk ⟨q,⟨ds,d4,E⟩,O,D⟩;rcases q1:Q ((k:Int)<(L t.ac:Int)) with _|_;simp only[qz 61,qy 10,aI,au,aNI q,lE q,g,av4,aY,q1,↓iB,↓uL];have al:k=L t.ac:=(by grind);subst al;exact aw λ_=>⟨hv,an,λj d=>(D j d).1,λj d=>(D j d).2.1,λj d=>(D j d).2.2⟩;have x:k<L t.ac:=(by simp_all);have P:∀{e:aP},aN (V 7) e.c=V (.a e.c):=rfl;simp only[qz 61,qy 10,aI,au,aNI q,lE q,g,av4,aY,q1,↓iC,aCh,aC6,P,bh,↓uL];refine⟨dJ x,?_⟩;have u:=ak _<|ve x;generalize he:gd t.ac k=e at u;refine I4 O λA y1 R N6 c6=>?_;refine stW c6 rfl rfl λy2 G2 K=>?_;have s:=G2.kq<|R.kq q;have M:=G2.kq<|R.kq d4;have z:=G2.len.trans<|R.len.trans O;have ad:∀{Y:ae},dG Y (.a ds)= .a (vq t.aQ t.ac k).c:=λ{Y}=>E.arg Y;obtain⟨p2,p3,p4,p5,p6,p7,p8⟩:=(aTz (l:=t.ac) hv k<|by omega).snB (by omega);simp only[qz 12,qy 14,aNI s,lW s,u0,u1,M,K,aR0 E,P,J3,aQW,ar,ad,↓uL];refine⟨⟨by omega,p2,p3,p4,p5,p6,p7,p8,by have:=u.1;omega,by have:=u.2;omega⟩,?_⟩;rintro _ ⟨cs,rfl,v⟩;refine⟨.inl (by simp[nA,x9 E];simp[eB,iR,aP.c,J9.c,sl]),?_⟩;simp only[oJ,pG,aY];refine I4 z λv7 y3 B N7 c7=>?_;refine stW c7 rfl (oC v) λF C af=>?_;have f:=C.kq<|B.kq s;have ag:=C.kq<|B.kq M;have o:=C.kq<|B.kq K;have Z:=C.len.trans<|B.len.trans z;have g0:∀{j:Nat},iQ j F (.p (6,A) 0 0)=V (.p (6,A) 0 j):=(by grind [rR]);have g1:vl J F (.p (6,A) 0 0)=V (iv e.aq):=(by rw[aC5,o];rfl);have g5:vl J F (.p (6,A) 0 5)=V (sl ci e.dI):=(by rw[aC5,o];rfl);have g6:vl J F (.p (6,A) 0 6)=V (sl ci e.ep):=(by rw[aC5,o];rfl);rcases a1:be3 t.aQ (vq t.aQ t.ac k) e with _|_;simp only[qz 16,au,aIN,u0,↓jN,aUw,bt,↓uL];simp_all;simp only[qz 16,au,aIN,u0,↓jA,a7c,aNI f,lE f,g0,g1,g5,aQW,ar,rr,↓uL];have a0:∀(b W:Bool),(b=U->∀n∈e.dI,aOE t.ac k e.aq n)->(W=U->∀n∈e.ep,aOE t.ac k e.aq n)->b=U->W=U->aYr t.aQ t.ac (k+1):=λb W h1 h2 h3 h4 j d=>(by rcases Nat.lt_succ_iff_lt_or_eq.1 d with h|rfl;exact D j h;simp_all);refine⟨⟨by omega,N,by have:=u.1;omega⟩,?_⟩;rintro _ ⟨r1,rfl,a2⟩;refine⟨.inl (by simp[nA,eB,iR,sl]),?_⟩;cases r1 with|false=>simp only[aIN,aY,aMZ,kN,fh,aBA,jN,aUw,iC];simp_all|true=>simp only[aIN,aY,aMZ,kN,fh,aBA,jA,lE f,g1,g6,aQW,ar];refine⟨⟨by omega,N,by have:=u.2;omega⟩,?_⟩;rintro _ ⟨r2,rfl,a3⟩;refine⟨.inl (by simp[nA,eB,iR,sl]),?_⟩;cases r2 with|false=>simp only[aIN,aY,kN,a7c,iC];simp_all|true=>simp only[aIN,aY,fh,a7c,iB,u1,af,aR0 v,J3];refine stW ag (oC E) (oC v) λy5 G5 c5=>?_;simp only[qz 18,au,cS,aY,↓uL];refine yU x ⟨G5.kq f,⟨cs,c5,?_⟩,G5.len.trans Z,by simp_all⟩;grind [vq]
def aUo:FT:=om aXx
def bcf{t Lw K}:=aUy aUo aXx t Lw K (j:=by simp+contextual only[ij,ijv])
def aXA(t:aOx)(n:Nat)(hp:aN4 t.aQ t.ac/\n<=L t.ac/\∀e∈t.ac,EvL e):Ct 62 [.a t.c,iv n] (·= .a (vq t.aQ t.ac n).c):=by obtain⟨B,hn,C⟩:=hp;have K:=B.wv;have av:=B.ln;obtain⟨z1,z2,z3,z4,z5,z6⟩:=aP4 K;refine aDq (bhs rfl λs2 E S h0=>?_);show aVy (.p (2,1) 0 0) (iv n) s2 λr=>bm1 r= .a (vq t.aQ t.ac n).c;have lE:∀{y:ae},box y (2,1)=V ⟨75,7,U,U,[t.c]⟩->vl J y (.p (2,1) 0 6)=V (sl aP.c t.ac):=λ{y} h=>(by rw[aC5,h];rfl);have M:∀{y:ae},box y (2,1)=V ⟨75,7,U,U,[t.c]⟩->vl (V 6) y (.p (2,1) 0 0)=V (.a t.aQ.c):=λ{y} h=>(by rw[aC5,h];rfl);simp only[aVy];refine I4 E λv4 R v N4 W=>?_;have i:=v.len.trans E;have d:=v.kq S;simp only[qz 4,aNI d,M d,aY,↓uL];refine jH rfl (a6N i (by omega) (by omega) (by omega)<|by omega) ?_;rintro _ s8 ⟨rfl,j⟩;refine⟨j.len,?_⟩;have G:=j.len.trans i;simp only[qz 6,qy 8,qy 10];refine I4 G λg aw q N9 X=>?_;refine stW X rfl rfl λP s c9=>?_;have w:Fx R P [(5,g)]:=(j.trans q).trans s;refine yV n (λk _ y=>Fx R y [(5,g)]/\∃ds,box y (5,g)=V ⟨40,7,U,U,[ds]⟩/\Lk ds (vq t.aQ t.ac k).c) ⟨w,_,c9,aXL _⟩ ?_;rintro k _ y hk ⟨F,ds,z,b⟩;have m:=F.kq d;have d4:=F.kq W;have O:∀{e:aP},aN (V 7) e.c=V (.a e.c):=rfl;rcases N:Q ((k:Int)<(n:Int)) with _|_;have D:k=n:=(by grind);subst D;simp only[qz 25,qy 14,aI,au,av4,aY,N,↓iB,u1,z,aR0 b,aj,J3,↓uL];refine stW d4 rfl (oC b) λy2 u T=>?_;simp only[u0,u1,T,aR0 b,↓uL];grind [aQ7,bcA,ba9];have H:k<n:=(by simp_all);have f:k<L t.ac:=(by omega);have x:∀{Y:ae},dG Y (.a ds)= .a (vq t.aQ t.ac k).c:=λ{Y}=>b.arg Y;obtain⟨p2,p3,p4,p5,p6,p7,p8⟩:=(aTz (l:=t.ac) K k<|by omega).snB (by omega);have o:=C _<|ve f;have l9:vl (V 7) y (.p (5,g) 0 0)=V (.a ds):=(by grind [aC5,aR0]);simp only[qz 25,qy 14,aI,au,av4,aY,N,↓iC,aNI m,M m,lE m,l9,aCh,aC6,O,bh,↓uL];refine⟨dJ f,?_⟩;generalize he:gd t.ac k=e at o;simp only[aQW,ar,x];refine⟨⟨by omega,p2,p3,p4,p5,p6,p7,p8,by have:=o.1;omega,by have:=o.2;omega⟩,?_⟩;rintro _ ⟨cs,rfl,A⟩;refine⟨.inl (by simp[nA,x9 b];simp[eB,iR,aP.c,J9.c,sl]),?_⟩;simp only[oJ,pG,aY];refine stW z (oC b) (oC A) λy2 u Z=>?_;simp only[qz 12,↓uL];refine dT (by simp[eL,lb,Qh,m8,dC,dK]) ?_;simp only[au,cS,aY];refine yU H ⟨(F.trans u).mono (by simp),cs,Z,?_⟩;grind [vq]
def aUq:FT:=aIc aXA
def bci{t n Lw K}:=f210 aUq aXA t n Lw K (j:=by simp+contextual only[ij,ijv,Int.natCast_inj])
def a7K:dO:=(61,aUo)::(62,aUq)::a7J
def a7t:eJ a7K:=sz (rj aXx)<|sz (aCb aXA)<|aX7
def aWp:=ai @bcf<|ai @bci<|@aQW
section
attribute[local irreducible] aX
def a9T:=I5 16 [(11,([8,9],[1,2]))]
def aVw a a1 b R:=(.mk _:NR a7K a9T Tryz.f23 [.u,a1] [a] b R).p
def bhr{c0:List AV}{a1:AV}{R:cC}(l0:L c0=7)(h:H1 75 7 2 c0 λia b=>aVw ia a1 b R):Ct 23 [.a c0,a1] R:=z1 a9T a7t Tryz.func23 l0 h
end
def aV1(n:Int)(l:List am):Prop:=∀w∈l,(bcV w=U/\hU w)/\(L w.ac:Int)<=n
def bhH{t:aOx}(a:aN4 t.aQ t.ac)(d:∀e∈t.ac,EvL e){i j:Nat}(g:i<=L t.ac)(k:j<=i+16):bcV ⟨t.aQ,i,vq t.aQ t.ac i,(t.ac.take j).drop i⟩=U/\hU ⟨t.aQ,i,vq t.aQ t.ac i,(t.ac.take j).drop i⟩:=by obtain⟨z1,z2,z3,m,n,o⟩:=aP4 a.wv;have c:=aTz (l:=t.ac) a.wv i (by have:=a.ln;omega);rw[List.drop_take];refine⟨bhG a g (by omega),by grind,λl h=>?_,λe f=>?_,?_⟩;have:=c.sy.rd l h;have:=a.ln;omega;have b:=d e<|List.mem_of_mem_drop<|bnL f;exact⟨by have:=b.1;omega,by have:=b.2;omega⟩;have:=c.fu;show L (vq t.aQ t.ac i).bU<_;omega
def spM(vs:List AV)(y:ae):Nat:=(1000-(match gt vs 1 with| .s (.int _ n)=>n|_=>0)).toNat
def aXz(t:aOx)(n:Int)(Z:L t.ac<1000000/\∀e∈t.ac,EvL e):Ct 23 [.a t.c,iv n] (λr=>∃(l:List am) (e:Int),r= .t [sl am.c l,iv e]/\aV1 n l):=by obtain⟨H,u⟩:=Z;generalize D:(λ(r:AV)=>∃(l:List am) (e:Int),r= .t [sl am.c l,iv e]/\aV1 n l)=Qq;refine aDq (bhr rfl λs2 X B h0=>?_);show aVw (.p (2,1) 0 0) (iv n) s2 λr=>Qq<|bm1 r;have P:∀{y:ae},box y (2,1)=V ⟨75,7,U,U,[t.c]⟩->vl (V 7) y (.p (2,1) 0 0)=V (.a t.c):=λ{y} h=>(by rw[aC5,h];rfl);have lE:∀{y:ae},box y (2,1)=V ⟨75,7,U,U,[t.c]⟩->vl J y (.p (2,1) 0 6)=V (sl aP.c t.ac):=λ{y} h=>(by rw[aC5,h];rfl);have lW:∀{y:ae},box y (2,1)=V ⟨75,7,U,U,[t.c]⟩->vl (V 6) y (.p (2,1) 0 0)=V (.a t.aQ.c):=λ{y} h=>(by rw[aC5,h];rfl);have z:∀{y:ae},fS y (sl aP.c t.ac)=V (iv<|L t.ac):=cT;have d:∀{y:ae} {e:Int},aE (λr=>Qq<|bm1 r) y [.l [] U U,iv e]:=λ{y e}=>aOH (vs':=[sl am.c [],iv e]) rfl rfl (by rw[<-D];exact⟨[],e,rfl,by intro w o;simp at o⟩);simp only[aVw,P B,aY,aWp,ar,Fa,↓uL];refine⟨⟨H,u⟩,?_⟩;rintro _ ⟨i0,e0,rfl,s⟩;refine⟨.inl (by simp[nA,eB,iR,aOx.c,J9.c,sl]),?_⟩;simp only[oJ,pG,aY,av6];rcases q0:Q (e0≠0) with _|_;rotate_left;simp only[iC];exact d;have s:=s (by grind);have al:=s.ln;simp only[iB];rcases A:Q (n<1) with _|_;rotate_left;simp only[u0,u1,A,↓jN,aUw,bt,↓uL];exact d;rcases R:Q (16<n) with _|_;rotate_left;simp only[u0,u1,A,R,↓jA,bt,↓uL];exact d;have h1:1<=n:=(by simp_all);have ag:n<=16:=(by simp_all);simp only[u0,u1,A,R,↓jA,bt,↓uL];let b:aG:=λvs y=>∃(out:AV) (f:List am) (i:Nat),vs=[out,iv i]/\i<=500/\L f<=i/\aV1 n f/\lA y 43 15 out (f.map am.c)/\(∀q∈aA out,q.1=51)/\box y (2,1)=V ⟨75,7,U,U,[t.c]⟩/\L y=4096;refine⟨b,spM,⟨_,[],0,rfl,by omega,by simp,by intro w o;simp at o, .inl ⟨rfl,rfl⟩,by simp[aA],B,X⟩,?_⟩;rintro _ y ⟨out,f,i,rfl,hi,an,E,g,po,k,v⟩;generalize hI:b=I';rcases S:Q ((i:Int)<(L t.ac:Int)) with _|_;simp only[qz 67,qy 4,aI,au,ck,aNI k,lE k,z,av4,aY,S,↓iB,↓uL];refine aOH (vs':=[sl am.c f,iv 0]) (by simp only[ji,mU,aWs g];rfl) (by simp[iX,eN,sl]) ?_;rw[<-D];exact⟨f,0,rfl,E⟩;have N:i<L t.ac:=(by simp_all);have C:dq.wrap ((i:Int)+n)=(i:Int)+n:=(by grind [eM]);obtain⟨m,rfl⟩:∃m:Nat,n=m:=⟨n.toNat,by omega⟩;obtain⟨j,K,M,ak⟩:∃j:Nat,(if(L t.ac:Int)<(i:Int)+m then(L t.ac:Int) else(i:Int)+m)=j/\j<=i+16/\i<=j/\j<=L t.ac:=(by split;grind;exact⟨i+m,by omega,by omega,by omega,by omega⟩);have o:=bhH s u (Nat.le_of_lt N) M;have F:bM aOQ aP0 [(0, .a t.aQ.c),(1,iv i),(2, .a (vq t.aQ t.ac i).c),(3,sl aP.c<|(t.ac.take j).drop i)]=V (.a<|am.c ⟨t.aQ,i,vq t.aQ t.ac i,(t.ac.take j).drop i⟩):=rfl;simp only[qz 67,qy 4,aI,au,ck,aNI k,lE k,lW k,P k,z,av4,cS,aY,S,↓iC,aWp,ar,Fa,C,aXT,K,slE,↓uL];refine⟨(by grind), .inl (by simp[nA,eB,iR,aOx.c,J9.c,sl]),(by omega),?_⟩;simp only[bh,F,aY];have x:(L (am.mk t.aQ i (vq t.aQ t.ac i)<|(t.ac.take j).drop i).ac:Int)<=m:=(by have:j<=i+m:=(by omega);show(L ((t.ac.take j).drop i):Int)<=m;rw[oz,gC];omega);generalize ah:(am.mk t.aQ i (vq t.aQ t.ac i)<|(t.ac.take j).drop i)=W at o x;have G:aX a72 1 y [(0, .a W.c)]=V (.l ([W].map am.c) U U,y):=ua rfl rfl rfl (by decide) (by simp[am.c,eN,sl]) (by decide);have aEx:∀{l:List am},∀r∈l.map am.c,L r=15:=qW (by intro _;rfl);simp only[G,bQ];refine apQ g v aEx aEx (by simp) (by simp;omega) λout' y2 g2 T p2=>?_;simp only[qz 6,↓uL];refine dT (by simp[eL,lb]) ?_;simp only[ck,cS,aY,C,↓uL];rw[<-hI];refine⟨⟨out',f++[W],i+m,by simp,by omega,by simp;omega,λw O=>?_,by grind [bc.p],λq hq=>(p2 q hq).2,(by grind [Fx.keep]),T.len.trans v⟩,?_⟩;rcases dF.1 O with h|h;exact E w h;simp at h;subst h;exact⟨o,x⟩;show(1000-((i:Int)+m)).toNat<(1000-(i:Int)).toNat;omega
def aUp:FT:=pn aXz
def bch{t n Lw K}:=f211 aUp aXz t n Lw K (j:=by simp+contextual only[ij,ijv])
def a7L:dO:=(23,aUp)::a7K
def a7u:eJ a7L:=sz (aN0 aXz)<|a7t
def aWq:=ai @bch<|@aWp
section
attribute[local irreducible] aX
def aZd a a1 s0 R:=(.mk _:NR a7L aur Tryz.f22 [a,a1] [] s0 R).p
def bgh{a a1:AV}{R:cC}(h:H0 λs0=>aZd a a1 s0 R):Ct 22 [a,a1] R:=z0 aur a7u Tryz.func22 h
end
def aWK(p:List Int)(s:List Int)(z:(∀x∈p,0<=x/\x<256)/\L p<4611686018427387904/\L s<=100):Ct 22 [sl cu p,sl cu s] (λr=>∃t:aOx,r= .a t.c/\L t.ac<=100/\∀e∈t.ac,EvL e):=by obtain⟨v,w,S⟩:=z;generalize T:(λ(r:AV)=>∃t:aOx,r= .a t.c/\L t.ac<=100/\∀e∈t.ac,EvL e)=Qq;refine aDq (bgh λs0 k R=>?_);simp only[aZd];refine I4 k λZ W l O m=>?_;have g:=l.len.trans k;simp only[qz 2,qy 4,aWq,ar];refine⟨⟨v,w⟩,?_⟩;rintro _ ⟨c,rfl,y⟩;refine⟨.inl (by simp[nA,eB,iR,sl]),?_⟩;simp only[Fa];refine⟨by omega,?_⟩;rintro _ ⟨cs,rfl,D⟩;refine⟨.inl (by simp[nA,eB,iR,sl]),?_⟩;simp only[aWq,ar];refine⟨⟨y,by omega⟩,?_⟩;rintro _ ⟨t,st,rfl,E,F⟩;refine⟨.inl (by simp[nA,eB,iR,sl,aBY.c,J9.c]),?_⟩;simp only[oJ,pG,aY];refine I4 g λv8 X h P n=>?_;refine I4 (h.len.trans g) λN G b B i=>?_;simp only[qz 6,qy 8];refine stW (b.kq n) rfl rfl λH d o=>?_;refine stW (d.kq i) rfl rfl λK f C=>?_;have j:=f.kq o;have q:=f.kq<|d.kq<|b.kq<|h.kq m;have rt:aN (V 7) t.c=V (.a t.c):=rfl;simp only[qz 10,qy 12,u0,u1,j,rt,J3,↓uL];refine stW q rfl rfl λM A u=>?_;simp only[u0,u1,u,rt,↓uL];refine aOv (v':= .a t.c) rfl (by simp[iX,eN,aOx.c,J9.c,sl]) ?_;grind
def aTW:FT:=pn aWK
def bbs{p s Lw K}:=f211 aTW aWK p s Lw K (j:=by simp+contextual only[ij,aQZ])
def a7M:dO:=(22,aTW)::a7L
def a7v:eJ a7M:=sz (aN0 aWK)<|a7u
def aRP:=ai @bbs<|@aWq
section
attribute[local irreducible] aX
def a9W:=I5 10 []
def aVB a a1 b R:=(.mk _:NR a7M a9W Tryz.f7 [.u,a1] [a] b R).p
def bhu{c0:List AV}{a1:AV}{R:cC}(l0:L c0=5)(h:H1 24 5 2 c0 λia b=>aVB ia a1 b R):Ct 7 [.a c0,a1] R:=z1 a9W a7v Tryz.func7 l0 h
end
structure aOA where
 p:List Int
 s:List Int
 c:List Int
 z:Int
 w:Int
 deriving Inhabited
def aOA.cs(v:aOA):List AV:=[sl cu v.p,sl cu v.s,sl cu v.c, .s<|.int .u8 v.z, .s<|.int .u8 v.w]
def ByL(l:List Int):Prop:=(∀x∈l,0<=x/\x<256)/\L l<4611686018427387904
structure aSr(v:aOA):Prop where
 p:ByL v.p
 s:ByL v.s
 c:ByL v.c
 z:0<=v.z/\v.z<256
 w:0<=v.w/\v.w<256
def bcQ{v v':aOA}:(v.cs=v'.cs)=(v=v'):=by(cases v;cases v');simp only[aOA.cs,kO,aQZ,AV.s.injEq,Value.int.injEq,aOA.mk.injEq,vp,aNU]
def aYl{w:am}:aN (V 15) w.c=V (.a w.c):=rfl
def aXD(v:aOA)(n:Int)(hp:aSr v/\1<=n/\n<=16):Ct 7 [.a v.cs,iv n] (λr=>∃w:am,r= .a w.c/\bcV w=U/\hU w/\(L w.ac:Int)<=n):=by obtain⟨B,aN,az⟩:=hp;generalize hQ:(λ(r:AV)=>∃w:am,r= .a w.c/\bcV w=U/\hU w/\(L w.ac:Int)<=n)=Qq;refine aDq (bhu rfl λs2 hl b1 h0=>?_);show aVB (.p (2,1) 0 0) (iv n) s2 λr=>Qq<|bm1 r;simp only[aVB];refine I4 hl λM s4 N N4 R=>?_;have ab:=N.len.trans hl;have d:=N.kq b1;have l0:∀{y:ae},box y (2,1)=V ⟨24,5,U,U,[v.cs]⟩->vl J y (.p (2,1) 0 0)=V (sl cu v.p):=λ{y} h=>(by rw[aC5,h];rfl);have l1:∀{y:ae},box y (2,1)=V ⟨24,5,U,U,[v.cs]⟩->vl J y (.p (2,1) 0 1)=V (sl cu v.s):=λ{y} h=>(by rw[aC5,h];rfl);have l2:∀{y:ae},box y (2,1)=V ⟨24,5,U,U,[v.cs]⟩->vl J y (.p (2,1) 0 2)=V (sl cu v.c):=λ{y} h=>(by rw[aC5,h];rfl);have H:∀{y:ae},box y (2,1)=V ⟨24,5,U,U,[v.cs]⟩->vl J y (.p (2,1) 0 3)=V (.s<|.int .u8 v.z):=λ{y} h=>(by rw[aC5,h];rfl);have l4:∀{y:ae},box y (2,1)=V ⟨24,5,U,U,[v.cs]⟩->vl J y (.p (2,1) 0 4)=V (.s<|.int .u8 v.w):=λ{y} h=>(by rw[aC5,h];rfl);have hz:=B.z;have hw:=B.w;have X:dq.wrap v.z=v.z:=(by grind [eM]);have W:dq.wrap v.w=v.w:=(by grind [eM]);have aL:=Int.tmod_nonneg n hz.1;have aM:=Int.tmod_lt_of_pos v.z (show 0<n by omega);have T:dq.wrap (1+v.z.tmod n)=1+v.z.tmod n:=(by grind [eM]);have O:∀{Y:ae},dG Y (.l [] U U)=sl cu []:=rfl;have o:∀{y:ae} {w:am},bcV w=U->hU w->(L w.ac:Int)<=n->box y (4,M)=V ⟨43,15,U,U,[aOQ]⟩->sV (aK 15 y (.p (4,M) 0 0)<|.a w.c) λE=>rV (vl (V 15) E<|.p (4,M) 0 0) λao=>aE (λr=>Qq<|bm1 r) E [ao]:=λ{y w} u A G hb=>(by refine stW hb rfl rfl λz F b=>?_;simp only[u0,u1,b,aYl,J3];refine aOv (v':= .a w.c) rfl (aWb _) ?_;rw[<-hQ];exact⟨w,rfl,u,A,G⟩);rcases q0:Q ((0:Int)<(L v.c:Int)) with _|_;rotate_left;simp only[qz 4,qy 6,qy 8,aNI d,l2 d,H d,a6S,av1,aY,q0,↓iC,aS6,X,aPR,aP1,cS,T,aRP,ar,↓uL];refine⟨by omega,B.c,?_⟩;rintro _ ⟨w,rfl,u,A,G⟩;exact⟨.inl (by simp[nA,eB,iR,sl]),o u A (by omega) R⟩;simp only[qz 4,qy 6,qy 8,aNI d,l0 d,l1 d,l2 d,H d,a6S,av1,aY,q0,↓iB,aXT,↓uL];rw[aIk (z:=1) (f:=cu) λ_=>rfl];refine⟨(by omega),?_⟩;generalize hk:(if(80:Int)<(L v.s:Int) then(80:Int) else(L v.s:Int))=k;have ay:k<=80:=(by omega);simp only[aRP,ar];refine⟨⟨B.p.1,B.p.2,by grind⟩,?_⟩;rintro _ ⟨t,rfl,aO,ag⟩;refine⟨.inl (by simp[nA,eB,iR,sl]),?_⟩;refine I4 ab λap aP C aJ P=>?_;refine stW P rfl rfl λan D S=>?_;have i:=D.kq<|C.kq d;have m:=D.kq<|C.kq R;have lt:vl (V 7) an (.p (5,ap) 0 0)=V (.a t.c):=(by rw[aC5,S];rfl);simp only[qz 10,qy 12,qy 14,↓uL];refine dT (by simp[eL,lb,Qh,m8,dC,dK,sl]) ?_;simp only[aNI i,H i,l4 i,lt,aY,aS6,X,W,aPR,aP1,cS,T,aRP,ar,Fa,↓uL];refine⟨by omega,⟨by omega,ag⟩,?_⟩;rintro _ ⟨g,e,rfl,hW⟩;refine⟨.inl (by simp[nA,eB,iR,aOx.c,J9.c,sl]),?_⟩;have ak:∀{y:ae},fS y (sl am.c g)=V (iv<|L g):=cT;simp only[oJ,pG,aY,ak,iM];rcases q1:Q ((L g:Int)=0) with _|_;rotate_left;simp only[iC,aRP,O];refine⟨⟨by simp,by simp⟩,?_⟩;rintro _ ⟨w,rfl,u,A,G⟩;exact⟨.inl (by simp[nA,eB,iR]),o u A (by omega) m⟩;have h0:0<L g:=(by grind);have ad:=Int.tmod_nonneg (L g:Int) hw.1;have af:=Int.tmod_lt_of_pos v.w (show(0:Int)<L g by omega);have Z:∀{x:ae} {j:Int} {K:cC},rV (cz 15 x (sl am.c g)<|iv j) K=(aF (L g) j/\K (.q<|am.c<|gd g j.toNat)):=aBz λ_=>rfl;simp only[iB,aPR,aP1,Z,aC6,aYl,aY];have h:=hW _ (ve<|show(v.w.tmod (L g:Int)).toNat<L g by omega);exact⟨by omega,⟨ad,af⟩,o h.1.1 h.1.2 (by have:=h.2;omega) m⟩
def aUs:FT:=pn aXD
def bck{v n Lw K}:=f211 aUs aXD v n Lw K (j:=by simp+contextual only[ij,bcQ])
def a7N:dO:=(7,aUs)::a7M
def aX8:eJ a7N:=sz (aN0 aXD)<|a7v
def a6u:=ai @bck<|@aRP
def bn4:=I5 14 [(1,([2],[1,3])),(8,([2,7],[1,3])),(11,([2],[1,3,7]))]
def bjr a a1 b c R:=(.mk _:NS a7N bn4 Tryz.f25 [.u,a1,b] [a] c R).p
def bqh{c0:List AV}{a1 b:AV}{s0:ae}{R:be}(hs:L s0=4096)(l0:L c0=15)(h:HB1 43 15 3 c0 s0 λd c=>bjr d a1 b c R):EB 25 [.a c0,a1,b] s0 R:=zB1 bn4 aX8 Tryz.func25 hs l0 h
def bjs b a1 a c R:=(.mk _:NS a7N avg Tryz.f24 [.u,a1, .u] [b,a] c R).p
def bqi{c0:List AV}{a1:AV}{b:List AV}{s0:ae}{R:be}(hs:L s0=4096)(l0:L c0=15)(c:L b=6)(h:HB2 43 15 3 c0 49 6 5 b s0 λe f d=>bjs e a1 f d R):EB 24 [.a c0,a1, .a b] s0 R:=zB2 avg aX8 Tryz.func24 hs l0 c h
end Go.Ab
