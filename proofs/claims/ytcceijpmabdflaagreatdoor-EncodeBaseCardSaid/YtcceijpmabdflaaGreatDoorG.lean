/- Part of the proof of EncodeBase. -/
import Derived.Test.YtcceijpmabdflaaGreatDoorF
set_option linter.all false
set_option maxRecDepth 100000
open And renaming intro->ai
open Bool renaming and_eq_false_iff->bik,and_eq_true->bN,false->I,not_eq_false'->fK,not_eq_true'->eH,not_false->kN,not_true->fh,or_eq_false_iff->cP,true->U
open Decidable renaming decide->Q,not_not->aNS
open Go.IntKind renaming i64->dq
open Go.Proofs.Tryz renaming prog->aS
open Int renaming toNat_natCast->bh
open List renaming cons.injEq->kO,drop_succ_cons->nM,drop_zero->iy,getElem_of_mem->ou,length->L,length_append->a6G,length_drop->oz,length_map->bJ,length_take->gC,map_append->dg,map_cons->ji,map_map->vA,map_nil->mU,map_set->vB,mem_append->dF,mem_cons->eW,mem_or_eq_of_mem_set->CC,mem_singleton->cE,not_mem_nil->ql,replicate->er
open Nat renaming beq->aOU,le_refl->dA,zero_add->aj
open Option renaming map_some->df,none->J,some->V,some.inj->xu
namespace Go.Ab
open Go Go.RowKit Go.Proofs
def bt:(∀p:Prop,(True->p)=p)/\(∀p:Prop,(False->p)=True)/\((I=U)=False)/\((U=I)=False)/\(∀p:Prop,(p/\True)=p)/\(∀p:Prop,(True/\p)=p)/\(∀b,(U||b)=U)/\(∀b,(I||b)=b)/\(∀b,(b||U)=U)/\(∀b,(b||I)=b)/\(∀b,(U&&b)=b)/\(∀b,(I&&b)=I)/\(∀b,(b&&U)=b)/\(∀b,(b&&I)=I)/\(∀α:Sort 1,(α->True)=True):=by refine⟨λp=>by simp,λp=>by simp,by simp,by simp,λp=>by simp,λp=>by simp,by simp,by simp,by simp,by simp,by simp,by simp,by simp,by simp,by simp⟩
def aS3{Y:ae}{b:Id}{l:List Int}{a d:Nat}{n:Int}{K:be}(Lw:List Id)(W:L Y=4096)(z:b.1=14\/b.1=15\/b.1=16)(T:Tp Y b l a)(o:∀q∈Lw,(q.1=14\/q.1=15\/q.1=16)/\∃x,box Y q=V x/\x.var=I)(R:∀(x:Int) (g:Nat) i,0<=x->(1<=n->x<n)->Tp i b l g->a<=g->(a<L l->1<=n->g=a+1)->Kx [14,15,16] Y i->(∀q∈Lw,∀x,box Y q=V x->box i q=V x)->K (iv x) i):cV 115 [.p b 0 0,iv n] Y d K:=by have m:∀{q:Id},q.1=14\/q.1=15\/q.1=16->q.1∈[14,15,16]:=λh=>(by rcases h with h|h|h<;>simp[h]);have X:okI [14,15,16] (b::Lw) b:=⟨m z,by simp⟩;have C:b∉Lw:=λh=>(by obtain⟨_,x,c,v⟩:=o b h;rw[T.bx] at c;cases c;cases v);have w:∀q∈Lw,∀x,box Y q=V x->box (bim [14,15,16] (b::Lw) Y) q=V x:=λq e x c=>(by rw[aOV<|m (o q e).1,f8<|by simp[e]];exact c);have A:Tp (bim [14,15,16] (b::Lw) Y) b l a:=⟨by rw[aOV<|m z,f8<|by simp];exact T.bx,T.le,T.ok,T.ll⟩;have bA:∀(Y':ae) (g:Nat),Tp Y' b l g->(∀q∈Lw,∀x,box Y q=V x->box Y' q=V x)->okB [14,15,16] (b::Lw) Y':=λY' g H S p t x c v q e y G=>(by rcases eW.1 t with rfl|t;rw[H.bx] at c;cases c;simp only[cE] at e;subst e;simp only[eW,ql,bie] at G;rcases G with rfl|rfl;exact .inl rfl;trivial;obtain⟨_,x',E,D⟩:=o p t;rw[S p t x' E] at c;cases c;rw[D] at v;cases v);refine aQN rfl rfl (b::Lw) (λx c=>?_) (bA _ _ A w) (aWF (aOr.trans W) A n) ?_;simp only[eW,ql,bie] at c;rcases c with rfl|rfl;exact X;trivial;rintro r i ⟨x,g,rfl,M,N,j,O,P,F⟩;have k:L i=L Y:=F.len.trans aOr;have kp:∀q∈Lw,∀x,box Y q=V x->box i q=V x:=λq e x c=>F.keep _ _ (by simp only[cE];rintro rfl;exact C e)<|w q e x c;exact⟨k,b::Lw,bA _ _ j kp,trivial,R x g _ M N ⟨by rw[aPT k<|m z,f8<|by simp];exact j.bx,j.le,j.ok,j.ll⟩ O P Kx.mix λq e x c=>by rw[aPT k<|m (o q e).1,f8<|by simp[e]];exact kp q e x c⟩
def aPu{Y:ae}{b:Id}{l:List Int}{a d:Nat}{n:Int}{K:be}(m:L Y=4096)(T:Tp Y b l a)(j:∀(x:Int) (e:Nat) c,0<=x->(1<=n->x<n)->Tp c b l e->a<=e->Fx Y c [b]->K (iv x) c):cB 115 [.p b 0 0,iv n] Y d K:=a55 m T λx e c h i g k _ F=>j x e c h i g k F
theorem k1A{x:List AV}{y:AV}:aN J (y::x)=V y:=by cases y<;>rfl
def aTE{Y:ae}{b:Id}{l:List Int}{n:Nat}(T:Tp Y b l n){e:TypeId}{z:Nat}{a:AV}{bA:List (List AV)}(g:gp Y e z a bA):∀q∈aA a,q∉[b]:=λq c h=>by
 simp only[cE] at h;subst h
 exact aNO g q c _ T.bx rfl
def bdc{Y:ae}{b:Id}{l:List Int}{a:Nat}{x0 P x2 R S x5 a6:AV}{cnt:List Int}(A:L Y=4096)(T:Tp Y b l a)(g:gp Y 3 1 a6<|cnt.map ci)(hn:L cnt<=1000):∃r j,(∃(u:Int) (e:Nat),r=iv u/\(u= -1\/aF (L cnt) u)/\Tp j b l e/\a<=e/\Fx Y j [b])/\cZ aS GG 116 [.p b 0 0, .a [x0,P,x2,R,S,x5,a6]] Y r j:=by refine bhx A rfl λN O F X M t=>?_;have c:Fx Y N []:=F.fx [];have q:=T.fx c (by simp);have m:=g.fx c (by simp);have H:((3,O):Id)∉[b]:=λh=>(by simp only[cE] at h;subst h;exact M _ T.bx);simp only[aVO,u0,u1,t,k1A,nM,iy,aj,m.ln,bJ,↓uL];rw[eM (by omega)<|by omega];refine aPu (c.len.trans A) q λu e j Z G k n i=>?_;have W:=G (by omega);have w:=i.keep _ _ H t;have g1:=m.fx i<|aTE q m;have z:dq.wrap (u-2)=u-2:=eM (by omega) (by omega);rcases o:Q (u-2<0) with _|_;simp only[j5] at o;have C:aF (L cnt) (u-2):=⟨by omega,by omega⟩;have D:Q (u-2<0)=I:=bqL o;simp only[qz 4,u0,u1,z,D,w,k1A,nM,iy,aj,↓jA,a7c,↓uL];refine aTu g1 C λv=>?_;rcases E:Q (v=0) with _|_;simp only[u0,u1,E,bt,↓uL];exact⟨u-2,e,rfl, .inr C,k,n,c.trans i⟩;simp only[u0,u1,E,bt,↓uL];exact⟨-1,e,rfl, .inl rfl,k,n,c.trans i⟩;simp only[qz 4,u0,u1,z,o,↓jN,aUw,bt,↓uL];exact⟨-1,e,rfl, .inl rfl,k,n,c.trans i⟩
def baM{Y:ae}:aX bH 8 Y [(0,iv 0),(1,iv 0),(2,iv 0),(3,iv 1),(4,iv 1),(5,iv 2),(6,iv 3),(7,iv 4)]=V (.l ([0,0,0,1,1,2,3,4].map ci) U U,Y):=by kernel_rfl
section
attribute[local irreducible] aX
def bdk{Y:ae}{b:Id}{l:List Int}{a:Nat}{kd S:Int}(z:L Y=4096)(T:Tp Y b l a):∃r i,(∃(o:Int) (e:Nat),r=iv o/\(kd=3\/kd=4->0<=o/\o<5)/\Tp i b l e/\a<=e/\Fx Y i [b])/\cZ aS GG 183 [.p b 0 0,iv kd,iv S] Y r i:=by refine bhA z ?_;generalize O:(λ(r:AV) (i:ae)=>∃(o:Int) (e:Nat),r=iv o/\(kd=3\/kd=4->0<=o/\o<5)/\Tp i b l e/\a<=e/\Fx Y i [b])=R;have g:∀{o:Int} {e:Nat} {y:ae},(kd=3\/kd=4->0<=o/\o<5)->Tp y b l e->a<=e->Fx Y y [b]->R (iv o) y:=λv H M N=>(by rw[<-O];exact⟨_,_,rfl,v,H,M,N⟩);simp only[aRx,↓uL];refine btF (λc=>∀t,(t=I->¬(kd=3\/kd=4))->c [bv t]) ?_ λc w=>?_;intro t q;(cases t);have q:=q rfl;have C:∀{o:Int},R (iv o) Y:=g (λh=>aNK h q) T (dA _)<|Fx.refl _ _;simp only[qz 21,qy 2,au,aI,u0,u1,bt,↓uL];refine bsp (λc=>∀t,c [bv t]) (λt=>?_) λc j=>(by simp only[qz 41,au,u0,u1,j,wl,asq,bt,↓uL]);(cases t);simp only[qz 39,qy 6,au,aI,u0,u1,bt,↓uL];refine bsp (λc=>∀t,c [bv t]) (λt=>?_) λc j=>(by simp only[qz 59,au,u0,u1,j,wl,asq,bt,↓uL]);(cases t);simp only[qz 57,au,aI,u0,u1,bt,↓uL];refine bsp (λc=>∀t,c [bv t]) (λt=>?_) λc j=>(by simp only[qz 89,au,u0,u1,j,wl,asq,bt,↓uL]);(cases t);simp only[qz 87,au,aI,u0,u1,bt,↓uL];refine bsp (λc=>∀t,c [bv t]) (λt=>?_) λc j=>(by simp only[qz 131,au,u0,u1,j,wl,asq,bt,↓uL]);(cases t);simp only[qz 129,au,aI,u0,u1,bt,↓uL];exact C;simp only[qz 129,au,aI,u0,u1,bt,↓uL];refine aPu z T λu e i D v m n k=>?_;simp only[qz 8,u0,u1,aPR,aP1,↓uL];(first|exact g (λh=>aNK h q) m n k|exact⟨by decide,g (λh=>aNK h q) m n k⟩);simp only[qz 87,au,aI,u0,u1,bt,↓uL];exact C;simp only[qz 57,au,aI,u0,u1,bt,↓uL];exact C;simp only[qz 39,qy 6,au,aI,u0,u1,bt,↓uL];exact aPu z T λu e i D v m n k=>g (λh=>aNK h q) m n k;have G:=@baM Y;simp only[qz 21,qy 2,au,aI,u0,u1,G,bt,↓uL];refine aPu z T λu e i D v m n k=>?_;have F:=v (by decide);simp only[qz 4,tf,ci,qM,u0,↓uL];refine⟨⟨D,by simpa using F⟩,g (λ_=>?_) m n k⟩;have P:∀x∈([0,0,0,1,1,2,3,4]:List Int),0<=x/\x<5:=(by decide);exact P _ (ig<|by simp;omega);rcases A:Q (kd=3) with _|_;rcases E:Q (kd=4) with _|_;simp only[qz 23,A,E,u0,u1,bt,↓uL];refine w I λ_=>?_;simp at A E;omega;simp only[qz 23,A,E,u0,u1,bt,↓uL];exact w U (λh=>Bool.noConfusion h);simp only[qz 23,A,u0,u1,bt,↓uL];exact w U (λh=>Bool.noConfusion h)
end
theorem aRH{c:AV}{l:List Int}(h:gK c=sl ci l):∃t o,c= .l (l.map ci) t o:=by(cases c<;>first|(simp[gK,sl] at h;done)|skip);rename_i bA t o;simp only[gK,sl,AV.l.injEq] at h;exact⟨t,o,by rw[h.1]⟩
def bdL{ds:List AV}{s:sA}(h:Lk ds s.c):∃x0 g x2 i t4 o4 e a j,ds=[x0,g,x2,i, .l (s.cells.map ci) t4 o4, .l (s.bU.map ci) e a,j]:=by have k:=oC h;obtain⟨h,_⟩:=h;rcases ds with _|⟨x0,_|⟨g,_|⟨x2,_|⟨i,_|⟨m,_|⟨x5,_|⟨j,_|⟨n,ds⟩⟩⟩⟩⟩⟩⟩⟩<;>simp at k;simp only[ji,mU,sA.c,kO] at h;obtain⟨t4,o4,rfl⟩:=aRH h.2.2.2.2.1;obtain⟨e,a,rfl⟩:=aRH h.2.2.2.2.2.1;exact⟨_,_,_,_,_,_,_,_,_,rfl⟩
def bdD{Y:ae}{b:Id}{l:List Int}{a:Nat}{ds:List AV}{s:sA}{kd ob:Int}(hl:L Y=4096)(T:Tp Y b l a)(o:Lk ds s.c)(hs:L s.bW.ay<1000)(S:kd=3->aF (L s.cells) ob)(ap:0<L s.bU):∃r i,(∃(v:Int) (g:Nat),r=iv v/\Tp i b l g/\a<=g/\Fx Y i [b])/\cZ aS GG 184 [.p b 0 0, .a ds,iv kd,iv ob] Y r i:=by refine bhD hl (oC o) λZ v5 K2 aq nf D=>?_;generalize hR:(λ(r:AV) (i:ae)=>∃(v:Int) (g:Nat),r=iv v/\Tp i b l g/\a<=g/\Fx Y i [b])=R;have N:Fx Y Z []:=K2.fx [];have C:=T.fx N (by simp);have z:=N.len.trans hl;have j:∀{v:Int} {g:Nat} {y:ae},Tp y b l g->a<=g->Fx Z y [b]->R (iv v) y:=λh2 S h4=>(by rw[<-hR];exact⟨_,_,rfl,h2,S,N.trans h4⟩);have h:∀{v:Int},R (iv v) Z:=j C (dA _)<|Fx.refl _ _;obtain⟨x0,x1,x2,x3,t4,o4,t5,W,x6,rfl⟩:=bdL o;have G:∀{Y:ae},dG Y (.a [x0,x1,x2,x3, .l (s.cells.map ci) t4 o4, .l (s.bU.map ci) t5 W,x6])= .a s.c:=λ{Y}=>o.arg Y;have Bi:aN (V 7) [x0,x1,x2,x3, .l (s.cells.map ci) t4 o4, .l (s.bU.map ci) t5 W,x6]=V (.a [x0,x1,x2,x3, .l (s.cells.map ci) t4 o4, .l (s.bU.map ci) t5 W,x6]):=rfl;have k:∀{Y:ae} {l:List Int},fS Y (sl ci l)=V (iv<|L l):=cT;rcases E:Q (kd=3) with _|_;rcases M:Q (kd=23) with _|_;simp only[aRz,E,M,u0,u1,↓iB,↓uL];refine bsp (λe=>∀t,e [bv t]) (λt=>?_) λe ag=>(by simp only[qz 47,u0,u1,ag,wl,asq,↓uL]);(cases t);rcases F:Q (kd=5) with _|_;rcases A:Q (kd=18) with _|_;rcases H:Q (kd=19) with _|_;simp only[qz 45,qy 4,qy 6,au,aI,F,A,H,u0,u1,↓iB,bt,↓uL];exact h;simp only[qz 45,qy 4,qy 6,au,aI,F,A,H,u0,u1,↓iB,↓iC,D,Bi,iy,aPg,ar,G,bt,↓uL];refine⟨hs,?_⟩;rintro _ ⟨w,rfl,hw⟩;refine⟨by rw[lo,nA];simp[x9 o],?_⟩;simp only[k,u0,↓uL];exact h;simp only[qz 45,qy 4,qy 6,au,aI,F,A,u0,u1,↓iB,↓iC,D,Bi,iy,aPg,ar,G,bt,↓uL];refine⟨hs,?_⟩;rintro _ ⟨w,rfl,hw⟩;refine⟨by rw[lo,nA];simp[x9 o],?_⟩;rcases X:Q ((0:Int)<(L w:Int)) with _|_;simp only[k,u0,u1,X,↓iB,↓uL];exact h;simp only[k,u0,u1,X,↓iC,↓uL];simp only[j4] at X;refine aPu z C λu g i O P n q m=>?_;have af:=P (by omega);simp only[qz 8,amX,ci,qM,u0,↓uL];exact⟨⟨O,af⟩,j n q m⟩;simp only[qz 45,qy 4,qy 6,au,aI,F,u0,u1,↓iC,bt,↓uL];exact aPu z C λu g i O P n q m=>j n q m;simp only[qz 45,qy 4,qy 6,au,aI,u0,u1,bt,↓uL];exact aPu z C λu g i O P n q m=>j n q m;simp only[aRz,E,M,u0,u1,↓iB,↓iC,D,k1A,nM,iy,aj,tf,ci,qM,↓uL];exact⟨⟨by omega,by omega⟩,h⟩;simp only[aRz,E,u0,u1,↓iC,D,k1A,nM,iy,aj,tf,ci,qM,↓uL];exact⟨S (by simpa using E),h⟩
def aS1{Y:ae}{n:Int}:aX bH 1 Y [(0,iv n)]=V (.l ([n].map ci) U U,Y):=iz
def bdv{Y:ae}{b:Id}{l ns:List Int}{a:Nat}{x:AV}(E:L Y=4096)(hb:b.1≠28)(T:Tp Y b l a)(g:gp Y 3 1 x<|ns.map ci)(hn:L ns<=1000):∃r n,(∃(m:List Int) (j:Nat),gp n 3 1 r (m.map ci)/\L m<=L ns/\Tp n b l j/\a<=j/\Fx Y n [b]/\∀q∈aA r,bK Y q/\q.1=28)/\cZ aS GG 185 [.p b 0 0,x] Y r n:=by refine bhC E ?_;generalize hR:(λ(r:AV) (n:ae)=>∃(m:List Int) (j:Nat),gp n 3 1 r (m.map ci)/\L m<=L ns/\Tp n b l j/\a<=j/\Fx Y n [b]/\∀q∈aA r,bK Y q/\q.1=28)=R;simp only[aVX,g.ln,bJ,u0,↓uL];refine jD (α:=AV) (λa i=>[a,iv i]) 1 (L ns) (λk c y=>Fx Y y [b]/\(∃j,Tp y b l j/\a<=j)/\∃m:List Int,L m<=k/\gp y 3 1 c (m.map ci)/\∀q∈aA c,bK Y q/\q.1=28) (s0:= .l [] U U) ⟨Fx.refl _ _,⟨a,T,dA _⟩,[],by simp, .inl ⟨rfl,rfl⟩,by simp[aA]⟩ ?_;rintro k c y hk ⟨F,⟨j,C,X⟩,m,hm,D,w⟩;have Z:=F.len.trans E;rcases G:Q ((k:Int)<(L ns:Int)) with _|_;simp only[qz 25,aI,au,u0,u1,G,↓iB,↓uL];rw[<-hR];exact⟨m,j,D,by omega,C,X,F,w⟩;have v:k<L ns:=Int.ofNat_lt.1<|qc G;have S:=g.fx F<|aTE T g;have ek:dq.wrap ((k:Int)+3)=(k:Int)+3:=eM (by omega) (by omega);simp only[qz 25,aI,au,u0,u1,G,↓iC,↓uL];refine bsK (λe=>∀{o:AV} {z:ae} {m':List Int} {j:Nat},Fx Y z [b]->Tp z b l j->a<=j->L m'<=k+1->gp z 3 1 o (m'.map ci)->(∀q∈aA o,bK Y q/\q.1=28)->e [o] z) ?_ λe nx=>?_;intro o z m' j F T W h2 g p;simp only[qz 45,aI,au,u0,u1,↓uL];exact dR (mk:=λ(a:AV) i=>[a,iv i]) (s:=c) (s':=o) (λ_ _=>rfl) v (by omega) ⟨F,⟨_,T,W⟩,m',h2,g,p⟩;simp only[qz 47,qy 4,qy 6,u0,u1,↓uL];refine(SlR.of S).ix1 (c:=iv<|gd ns k) (by rw[List.getElem?_map,List.getElem?_eq_getElem v,bT v];rfl) λp _=>?_;simp only[S.ln,bJ,ek,u0,u1,↓uL];rcases q2:Q ((L ns:Int)<=(k:Int)+3) with _|_;simp only[u0,↓jN,a7c,bt,↓uL];exact nx F C X (by omega) D w;simp only[u0,↓jA,aUw,↓uL];refine aPu (d:=22) Z C λu a2 y2 h0 W O ak H=>?_;have P:=D.fx H<|aTE C D;have A:=(F.trans H).mono (ks':=[b]) λq t=> .inl (by simpa using t);rcases q3:Q (u=1) with _|_;simp only[u0,u1,q3,bt,↓uL];exact nx A O (by omega) (by omega) P w;simp only[u0,u1,q3,aS1,bt,↓uL];refine apQ P (A.len.trans E) pU pU (by simp) (by simp;omega) λo y3 g3 M N=>?_;have nb:b∉aA c:=λh=>hb (w b h).2;refine nx (m':=m++[gd ns k]) ((A.trans M).mono λq t=>?_) (O.fx M nb) (by omega) (by simp;omega) (by rw[dg];exact g3.p) λq t=>⟨(N q t).1.old A,(N q t).2⟩;rcases dF.1 t with h|h;exact .inl h;exact .inr (w q h).1.no
structure Rds(Y:ae)(B:Id)(f:Nat->AV)(m:Nat):Prop where
 bx:box Y B=V ⟨38,1,U,U,io 4 λi=>[f i]⟩
 gr:∀i,i<4->∃ns:List Int,L ns<=m/\gp Y 3 1 (f i) (ns.map ci)
 dj:∀i j,i<4->j<4->i≠j->∀q∈aA (f i),q∉aA (f j)
 pl:∀i,i<4->∀q∈aA (f i),q.1=47\/q.1=103
theorem Rds.kx{Y Y':ae}{B:Id}{f:Nat->AV}{m:Nat}{ks:List Nat}(O:Rds Y B f m)(k:Kx ks Y Y')(h:B.1∉ks/\47∉ks/\103∉ks):Rds Y' B f m:=⟨k.keep _ _ h.1 O.bx,λi a=>by obtain⟨ns,c,g⟩:=O.gr i a;exact⟨ns,c,k.gr g λq j=>by rcases O.pl i a q j with e|e<;>rw[e]<;>first|exact h.2.1|exact h.2.2⟩,O.dj,O.pl⟩
theorem Rds.fx{Y Y':ae}{B:Id}{f:Nat->AV}{m:Nat}{Lw:List Id}(O:Rds Y B f m)(F:Fx Y Y' Lw)(h:∀q∈Lw,q≠B/\q.1≠47/\q.1≠103):Rds Y' B f m:=⟨F.keep _ _ (λe=>(h _ e).1 rfl) O.bx,λi c=>by obtain⟨ns,g,j⟩:=O.gr i c;exact⟨ns,g,j.fx F λq k e=>by rcases O.pl i c q k with a|a<;>first|exact(h q e).2.1 a|exact(h q e).2.2 a⟩,O.dj,O.pl⟩
theorem Rds.rd{Y:ae}{B:Id}{f:Nat->AV}{m:Nat}(O:Rds Y B f m){u:Int}(h:0<=u/\u<4){K:cC}(g:K<|f u.toNat):rV (cz 1 Y (.m B 4)<|iv u) λp=>rV (vl J Y p) K:=by have a:u.toNat<4:=(by omega);have c:cz 1 Y (.m B 4) (iv u)=V (.p B u.toNat 0):=(by simp[cz,h.1,O.bx,a]);have e:vl J Y (.p B u.toNat 0)=V (f u.toNat):=(by simp[vl,iE,O.bx,uU a,aN]);rw[c,aY,e,aY];exact g
structure EvS(Y x:ae)(b:Id)(l:List Int)(a0 v5 v6 v8 v11:Nat)(ds:List AV)(B:Id)(f:Nat->AV)(u kd ob va st:Int)(dp fr:AV):Prop where
 bx:box x (11,v11)=V ⟨62,7,U,U,[[iv u,iv kd,iv ob,iv va,iv st,dp,fr]]⟩
 b8:box x (8,v8)=V ⟨62,7,U,U,[bnk]⟩
 b5:box x (5,v5)=V ⟨40,7,U,U,[ds]⟩
 b6:box x (6,v6)=V ⟨31,6,U,U,[aNE.c]⟩
 tp:∃a',Tp x b l a'/\a0<=a'
 kx:Kx [14,15,16] Y x
 pb:b.1=14\/b.1=15\/b.1=16
 gd:∃m:List Int,L m<=1000/\gp x 3 1 dp (m.map ci)
 gf:∃m:List Int,L m<=1000/\gp x 3 1 fr (m.map ci)
 pd:∀q∈aA dp,q.1=28/\∀z,box Y q≠V z
 pf:∀q∈aA fr,q.1=28/\∀z,box Y q≠V z
 rd:Rds x B f 1000
 pB:B.1=20
 no:(∀z,box Y (11,v11)≠V z)/\∀z,box Y (8,v8)≠V z
section
variable{Y x y:ae}{b B:Id}{l:List Int}{a0 v5 v6 v8 v11 d:Nat}{ds:List AV}{f:Nat->AV}{u kd ob va st:Int}{dp fr:AV}{K:be}{KS:ae->Prop}
theorem EvS.le(E:EvS Y x b l a0 v5 v6 v8 v11 ds B f u kd ob va st dp fr)(h:L Y=4096):L x=4096:=E.kx.len.trans h
def EvS.nx(E:EvS Y x b l a0 v5 v6 v8 v11 ds B f u kd ob va st dp fr)(F:Fx x y [b]){i:Nat}(T:Tp y b l i)(h:a0<=i):EvS Y y b l a0 v5 v6 v8 v11 ds B f u kd ob va st dp fr:=by have n:=E.pb;have c:∀{q:Id},q.1≠14->q.1≠15->q.1≠16->q∉[b]:=λj k r e=>(by simp at e;subst e;omega);obtain⟨m,j,g1⟩:=E.gd;obtain⟨p,k,o⟩:=E.gf;have g:∀{q:Id},q.1=28->q∉[b]:=λh=>c (by omega) (by omega) (by omega);exact⟨F.keep _ _ (c (by simp) (by simp)<|by simp) E.bx,F.keep _ _ (c (by simp) (by simp)<|by simp) E.b8,F.keep _ _ (c (by simp) (by simp)<|by simp) E.b5,F.keep _ _ (c (by simp) (by simp)<|by simp) E.b6,⟨i,T,h⟩,E.kx.fx F λq a=> .inl (by simp at a;subst a;rcases n with e|e|e<;>simp[e]),n,⟨m,j,g1.fx F λq a=>g (E.pd q a).1⟩,⟨p,k,o.fx F λq a=>g (E.pf q a).1⟩,E.pd,E.pf,E.rd.fx F (λq a=>by simp at a;subst a;exact⟨λe=>by have:=E.pB;rw[<-e] at this;omega,by omega,by omega⟩),E.pB,E.no⟩
def EvS.set(E:EvS Y x b l a0 v5 v6 v8 v11 ds B f u kd ob va st dp fr)(F:Fx x y [(11,v11)]){j n k:Int}{c g:AV}(G:box y (11,v11)=V ⟨62,7,U,U,[[iv u,iv kd,iv j,iv n,iv k,c,g]]⟩)(gd:∃m:List Int,L m<=1000/\gp x 3 1 c (m.map ci))(w:∃m:List Int,L m<=1000/\gp x 3 1 g (m.map ci))(p:∀q∈aA c,q.1=28/\∀z,box Y q≠V z)(r:∀q∈aA g,q.1=28/\∀z,box Y q≠V z):EvS Y y b l a0 v5 v6 v8 v11 ds B f u kd j n k c g:=by obtain⟨m,A,g1⟩:=gd;obtain⟨H,C,v⟩:=w;obtain⟨t,T,D⟩:=E.tp;have o:=E.pb;have i:∀{q:Id},q.1=28->q∉[((11,v11):Id)]:=λh e=>(by simp at e;subst e;simp at h);exact⟨G,F.kq E.b8,F.kq E.b5,F.kq E.b6,⟨t,T.fx F (λe=>by simp at e;subst e;simp at o),D⟩,E.kx.fx F<|λq a=> .inr<|by simp at a;subst a;exact E.no.1,o,⟨m,A,g1.fx F λq a=>i (p q a).1⟩,⟨H,C,v.fx F λq a=>i (r q a).1⟩,p,r,E.rd.fx F (λq a=>by simp at a;subst a;exact⟨λe=>by have:=E.pB;rw[<-e] at this;simp at this,by simp,by simp⟩),E.pB,E.no⟩
def a56(E:EvS Y x b l a0 v5 v6 v8 v11 ds B f u kd ob va st dp fr)(n:L Y=4096){j:Nat}(k:j<4)(i:∀r y,EvS Y y b l a0 v5 v6 v8 v11 ds B f u kd ob va st dp fr->(∃m:List Int,L m<=1000/\gp y 3 1 r (m.map ci))->(∀q∈aA r,q.1=28/\∀z,box Y q≠V z)->K r y):cB 185 [.p b 0 0,f j] x d K:=by obtain⟨ns,h,g⟩:=E.rd.gr j k;obtain⟨v,T,A⟩:=E.tp;refine jH rfl (bdv (E.le n) (by have:=E.pb;omega) T g h) ?_;rintro r y ⟨m,a2,e,w,c,t,F,p⟩;exact⟨F.len,i r y (E.nx F c<|by omega) ⟨m,by omega,e⟩ λq a=>⟨(p q a).2,λz o=>(p q a).1.no z<|E.kx.keep _ _ (by rw[(p q a).2];decide) o⟩⟩
end
def bcs{Y:ae}{c0 e h i j:Int}{dp fr:AV}{m k:List Int}(g:gp Y 3 1 dp<|m.map ci)(n:gp Y 3 1 fr<|k.map ci):aOo Y (.a [iv c0,iv e,iv h,iv i,iv j,dp,fr])= .a (aP.mk c0 e h i j m k).c:=by show AV.a (List.map gK<|List.map (gi Y) _)=_;have o:=a6r g;have p:=a6r n;simp only[ji,mU,o,p];rfl
def bdf{Y:ae}{b B:Id}{l:List Int}{a:Nat}{ds:List AV}{s:sA}{f:Nat->AV}(A:L Y=4096)(hb:b.1=14\/b.1=15\/b.1=16)(hB:B.1=20)(T:Tp Y b l a)(hL:Lk ds s.c)(hs:L s.bW.ay<1000)(h3:L s.cells=5)(bd:0<L s.bU)(O:Rds Y B f 1000):∃r Y1,(∃(e:aP) (w:Nat),r= .a e.c/\EvL e/\(0<=e.aq/\e.aq<4)/\Tp Y1 b l w/\a<=w/\(a<L l->a+1<=w)/\Kx [14,15,16] Y Y1)/\cZ aS GG 117 [.p b 0 0, .a ds, .a aNE.c, .m B 4] Y r Y1:=by generalize hQ:(λ(r:AV) (y:ae)=>∃(e:aP) (w:Nat),aOo y r= .a e.c/\EvL e/\(0<=e.aq/\e.aq<4)/\Tp (kills y<|aNW r) b l w/\a<=w/\(a<L l->a+1<=w)/\Kx [14,15,16] Y (kills y<|aNW r))=Qq;refine aQR (R:=Qq) ?_ (λr y h=>by rw[<-hQ] at h;exact h);refine bhy A (oC hL) rfl λs4 v5 v6 K4 cl cm cn b5 b6=>?_;have F4:Fx Y s4 []:=K4.fx [];have bn:=F4.len.trans A;simp only[aSL];refine ic bn λv8 s6 M N8 b8=>?_;have S:=F4.trans M;have K6:Kx [14,15,16] Y s6:=S.kx (by simp);have bo:=S.len.trans A;have n8:∀z,box Y (8,v8)≠V z:=(N8.old F4).no;simp only[qz 6];refine aS3 [] bo hb (T.fx S<|by simp) (by simp) λu a1 s8 bu bv T8 cc br K8 _=>?_;have hu:0<=u/\u<4:=⟨bu,bv<|by decide⟩;have al:Kx [14,15,16] Y s8:=K6.kx K8 (by simp);have bp:=al.len.trans A;simp only[qz 8,aPg,ar,↓uL];rintro _ ⟨t,o,rfl⟩;refine⟨by rw[lo,nA];simp,?_⟩;simp only[bdM,u0,↓uL];refine aS3 [] bp hb T8 (by simp) λk a2 bD bl bm aX cd cg ah _=>?_;have hk:aF (L aTp) k:=⟨bl,by have:=bm (by decide);simpa using this⟩;have W:Kx [14,15,16] Y bD:=al.kx ah (by simp);have aK:=W.len.trans A;simp only[qz 10,tf,ci,qM,u0,u1,↓uL];refine⟨hk,?_⟩;generalize gd aTp k.toNat=kd;refine aS3 [] aK hb aX (by simp) λst a3 av cj ck aY cf ch ak _=>?_;have D:Kx [14,15,16] Y av:=W.kx ak (by simp);have aL:=D.len.trans A;have bj:∀{u k st:Int},bM bnk aOG [(0,iv u),(1,iv k),(4,iv st)]=V (.a [iv u,iv k,iv 0,iv 0,iv st, .l [] U U, .l [] U U]):=λ{u k st}=>rfl;simp only[qz 12,qy 14,bj,u0,u1,↓uL];generalize dq.wrap (dq.wrap (u*6)+st)=site;refine ic aL λv11 co af am aZ=>?_;refine r9 aZ rfl rfl λH ag bb=>?_;have ap:∀z,box Y (11,v11)≠V z:=D.no (by simp) am.no;have X:Kx [14,15,16] Y H:=(D.fx af<|by simp).fx ag λq v=> .inr (by simp at v;subst v;exact ap);have G:Fx av H []:=(af.trans ag).mono λq v=>(by simp at v;subst v;exact .inr am.no);have kk:∀{q:Id} {z:bY},q.1≠14->q.1≠15->q.1≠16->box s6 q=V z->box H q=V z:=λh1 N h3 h=>G.kq (ak.keep _ _ (by simp[h1,N,h3])<|ah.keep _ _ (by simp[h1,N,h3])<|K8.keep _ _ (by simp[h1,N,h3]) h);simp only[qz 16];refine dT (by simp[eL,lb,lbV,gz,dC,dK]) ?_;have E:EvS Y H b l a3 v5 v6 v8 v11 ds B f u kd 0 0 site (.l [] U U) (.l [] U U):=⟨bb,kk (by simp) (by simp) (by simp) b8,kk (by simp) (by simp) (by simp)<|M.kq b5,kk (by simp) (by simp) (by simp)<|M.kq b6,⟨a3,aY.fx G (by simp),dA _⟩,X,hb,⟨[],by simp, .inl ⟨rfl,rfl⟩⟩,⟨[],by simp, .inl ⟨rfl,rfl⟩⟩,by simp[aA],by simp[aA],O.kx X ⟨by rw[hB];decide,by decide,by decide⟩,hB,ap,n8⟩;have aJ:a<L l->a+1<=a3:=λh=>(by have:=br h (by decide);omega);have bV:a<=a3:=(by omega);have ao:u.toNat<4:=(by omega);have r7:=@r7A;have uQ:aN (V 7) ds=V (.a ds):=(by have:=oC hL;simp[aN,this,List.take_of_length_le<|Nat.le_of_eq this]);refine bpD (λi=>∀{x st},EvS Y x b l a3 v5 v6 v8 v11 ds B f u kd 0 0 st (.l [] U U) (.l [] U U)->i [] x) (λ{x st} E=>?_) λJ4 h4=>?_;(focus simp only[qz 27,aI,u0,u1,E.bx,k1A,nM,iy,aj,↓uL];obtain⟨w,T',bi⟩:=E.tp;refine jH rfl (bdk (E.le A) T') ?_;rintro _ y ⟨ob,a2,rfl,ho,T2,N,F2⟩;refine⟨F2.len,?_⟩;have j:=E.nx F2 T2 (by omega);simp only[qz 20,u0,u1,j.bx,aj,↓uL];refine A0 j.bx rfl (by simp) λz Fz bz=>?_;have P:=j.set Fz bz j.gd j.gf j.pd j.pf;obtain⟨a5,T5,h5⟩:=P.tp;simp only[qz 22,u0,u1,P.bx,P.b5,uQ,k1A,nM,iy,aj,↓uL];refine jH rfl (bdD (P.le A) T5 hL hs (λh=>?_) bd) ?_;rw[h3];exact ho<|.inl h;rintro _ y2 ⟨va,a6,rfl,T6,h6,M⟩;refine⟨M.len,?_⟩;have C:=P.nx M T6 (by omega);simp only[qz 24,u0,u1,C.bx,aj,↓uL];refine A0 C.bx rfl (by simp) λz2 aV ba=>?_;have E:=C.set aV ba C.gd C.gf C.pd C.pf;simp only[qz 26,↓uL];refine bpD (λi=>∀{x ob va st dp fr},EvS Y x b l a3 v5 v6 v8 v11 ds B f u kd ob va st dp fr->i [] x) (λ{x ob va st dp fr} E=>?_) λJ8 h8=>?_;(focus simp only[qz 51,aI,↓uL];refine bpD (λi=>∀{x ob va st dp fr},EvS Y x b l a3 v5 v6 v8 v11 ds B f u kd ob va st dp fr->i [] x) (λ{x ob va st dp fr} E=>?_) λcb an=>?_;simp only[qz 63,qy 36,aI,u0,u1,E.bx,r7,iy,↓uL];refine r9 E.b8 rfl rfl λy F b=>?_;simp only[b,u0,u1,r7,↓uL];obtain⟨m,h1,g1⟩:=E.gd;obtain⟨m2,N,g2⟩:=E.gf;have au:∀{q:Id},q.1=28->q∉[((8,v8):Id)]:=λh e=>(by simp at e;subst e;simp at h);have y1:=g1.fx F λq v=>au (E.pd q v).1;have y2:=g2.fx F λq v=>au (E.pf q v).1;obtain⟨w,T',bi⟩:=E.tp;have ei:aNW (.a [iv u,iv kd,iv ob,iv va,iv st,dp,fr])=aA dp++aA fr:=(by have i1:=aQX y1;have i2:=aQX y2;have e0:∀{n:Int},iR (iv n)=[]:=rfl;simp only[aNW,eB,List.flatMap_cons,List.flatMap_nil,i1,i2,e0,List.nil_append,List.append_nil]);have nb:∀q∈aA dp++aA fr,q.1=28/\∀z,box Y q≠V z:=λq v=>(by rcases dF.1 v with h|h;exact E.pd q h;exact E.pf q h);have bs:=E.pb;show Qq (.a [iv u,iv kd,iv ob,iv va,iv st,dp,fr]) y;rw[<-hQ];refine⟨_,w,bcs y1 y2,⟨h1,N⟩,hu,?_,by omega,λh=>by have:=aJ h;omega,?_⟩;rw[ei];exact(T'.fx F (λe=>by simp at e;subst e;simp at bs)).fx (aOp _ _) λe=>(by have:=(nb _ e).1;omega);rw[ei];exact(E.kx.fx F<|λq v=> .inr<|by simp at v;subst v;exact E.no.2).fx (aOp _ _) λq v=> .inr (nb q v).2;rcases q4:Q (kd=4) with _|_<;>rcases bA:Q (kd=22) with _|_<;>simp only[qz 65,u0,u1,E.bx,k1A,nM,iy,aj,q4,bA,↓jA,↓jN,aUw,bt,↓uL];exact an E;all_goals refine E.rd.rd hu ?_;refine a56 E A ao λr y j Z pr=>?_;have cr:eY r=V [r]:=(by obtain⟨m,_,g⟩:=Z;exact g.ce);simp only[qz 32,qy 34,u0,u1,j.bx,aj,↓uL];refine A0 j.bx cr (by simp) λz F b=>?_;exact an<|j.set F b j.gd Z j.pd pr);have aR:aN J aNE.c=V (sl cA.c aNE.cells):=rfl;have bk:L aNE.cells=5:=rfl;rcases q5:Q (kd=5) with _|_<;>rcases q3:Q (kd=3) with _|_<;>rcases q4:Q (kd=4) with _|_<;>simp only[qz 53,u0,u1,E.bx,E.b6,k1A,aR,nM,iy,aj,q5,q3,q4,↓jA,↓jN,aUw,a7c,bt,↓uL];exact h8 E;(all_goals try have h5:=ho (by simp only[j4,j5] at q3 q4;omega);simp only[aCd,u0,u1,cA.c,aC6,nM,iy,k1A,↓uL];refine⟨⟨h5.1,by rw[bk];exact h5.2⟩,λ_=>?_,λ_=>h8 E⟩);all_goals refine E.rd.rd hu ?_;refine a56 E A ao λr y j Z pr=>?_;have cr:eY r=V [r]:=(by obtain⟨m,_,g⟩:=Z;exact g.ce);simp only[qz 28,qy 30,u0,u1,j.bx,aj,↓uL];refine A0 j.bx cr (by simp) λz F b=>?_;exact h8<|j.set F b Z j.gf pr j.pf);rcases q1:Q (kd=1) with _|_<;>rcases q2:Q (kd=2) with _|_<;>simp only[qz 29,qy 18,u0,u1,E.bx,k1A,nM,iy,aj,q1,q2,↓jA,↓jN,aUw,bt,↓uL];exact h4 E;all_goals refine A0 E.bx rfl (by simp) λz F bz=>?_;exact h4<|E.set F bz E.gd E.gf E.pd E.pf
def bcM{Y:ae}{e n:TypeId}{z v:Nat}{a k:AV}{r t:List (List AV)}(g:gp Y e z a r)(o:gp Y n v k t)(h:e≠n):∀q∈aA k,q∉aA a:=λq i j=>by
 rcases g with⟨_,rfl⟩|⟨b,m,rfl,p⟩
 ·simp[aA] at j
 rcases o with⟨_,rfl⟩|⟨w,m',rfl,c⟩
 ·simp[aA] at i
 simp only[aA,cE] at j i
 subst j i
 rw[p] at c;exact h<|brv bY.elem<|xu c
def gp.fn{Y Y':ae}{e c:TypeId}{z m:Nat}{a i:AV}{r k:List (List AV)}(j:gp Y c m i k)(F:Fx Y Y'<|aA a)(g:gp Y e z a r)(h:e≠c:=by decide):gp Y' c m i k:=j.fx F<|bcM g j h
section
variable{Y x y:ae}{s:sA}{a1 a2 a3 a4 a5 a6:AV}{KS:ae->Prop}
theorem SnL.keep(S:SnL Y x s a1 a2 a3 a4 a5 a6){Lw:List Id}(F:Fx x y Lw)(h:∀q∈Lw,q.1≠6/\q.1≠32/\q.1≠10/\q.1≠14):SnL Y y s a1 a2 a3 a4 a5 a6:=⟨S.g1.fx F λq a e=>(h q e).1 (S.p1 q a).2,S.g2.fx F λq a e=>(h q e).1 (S.p2 q a).2,S.g3.fx F λq a e=>(h q e).1 (S.p3 q a).2,S.g4.fx F λq a e=>(h q e).2.1 (S.p4 q a).2,S.g5.fx F λq a e=>(h q e).2.2.1 (S.p5 q a).2,S.g6.fx F λq a e=>(h q e).2.2.2 (S.p6 q a).2,S.p1,S.p2,S.p3,S.p4,S.p5,S.p6⟩
theorem SnL.old{a:ae}{Lw:List Id}(S:SnL Y x s a1 a2 a3 a4 a5 a6)(F:Fx a Y Lw):SnL a x s a1 a2 a3 a4 a5 a6:=⟨S.g1,S.g2,S.g3,S.g4,S.g5,S.g6,λq h=>⟨(S.p1 q h).1.old F,(S.p1 q h).2⟩,λq h=>⟨(S.p2 q h).1.old F,(S.p2 q h).2⟩,λq h=>⟨(S.p3 q h).1.old F,(S.p3 q h).2⟩,λq h=>⟨(S.p4 q h).1.old F,(S.p4 q h).2⟩,λq h=>⟨(S.p5 q h).1.old F,(S.p5 q h).2⟩,λq h=>⟨(S.p6 q h).1.old F,(S.p6 q h).2⟩⟩
theorem a7V{α:Type}[Inhabited α]{c:α->List AV}{e:TypeId}{z:Nat}{a:AV}{l:List α}(g:gp x e z a<|l.map c)(N:∀y,L (c y)=z){i:Int}(k:aF (L l) i){j:Nat}{v:AV}{t:α}(G:j<z)(D:eY (nrm<|eR x v)=V [nrm<|eR x v])(E:eN (nrm<|eR x v)=U)(hI:eB v=[]){o:AV->be}(M:(c<|gd l i.toNat).set j (nrm<|eR x v)=c t)(A:∀p h y,Fx x y (aA a)->gp y e z a ((l.set i.toNat t).map c)->o p h y):rV (cz z x a<|iv i) λp=>rV (iQ j x p) λh=>sV (aK 1 x h v) (o p h):=by refine ixG g (by simpa using k) λb m C w=>?_;have H:i.toNat<L l:=(by have:=k.1;have:=k.2;omega);simp only[rR,w,df,aY,aj];refine aQz (r:=c<|gd l i.toNat) w (by grind [bT]) (by simp_all) D E hI λy F q=>?_;have n:(l.map c++m).set i.toNat ((c<|gd l i.toNat).set j<|nrm<|eR x v)=(l.set i.toNat t).map c++m:=(by simp_all);rw[n] at q;exact A _ _ y (by grind [aA]) (.inr ⟨b,m,by rw[C];simp,q⟩)
end
def sz5(s:sA):Prop:=L s.bW.ak=3/\L s.bW.done=1/\L s.bW.ay=4/\L s.cells=5/\L s.bU=1/\L s.count=4/\(∀q∈s.bW.ak,L q.bk<=1)/\∀c∈s.count,0<=c/\c<=400
structure Bg(Y x:ae)(b:Id)(l:List Int)(a0 v4 v8:Nat)(a1 a2 a3 a4 a5 a6:AV):Prop where
 ex:∃s:sA,SnL Y x s a1 a2 a3 a4 a5 a6/\sz5 s/\box x (5,v8)=V ⟨40,7,U,U,[[a1,iv s.bW.tx,a2,a3,a4,a5,a6]]⟩
 b4:box x (4,v4)=V ⟨40,7,U,U,[bsk]⟩
 tp:∃a',Tp x b l a'/\a0<=a'
 kx:Kx [14,15,16] Y x
 pb:b.1=14\/b.1=15\/b.1=16
 no:(∀z,box Y (4,v4)≠V z)/\∀z,box Y (5,v8)≠V z
section
variable{Y x y:ae}{b:Id}{l:List Int}{a0 v4 v8 d:Nat}{a1 a2 a3 a4 a5 a6:AV}{K:be}{KS:ae->Prop}
theorem Bg.le(B:Bg Y x b l a0 v4 v8 a1 a2 a3 a4 a5 a6)(h:L Y=4096):L x=4096:=B.kx.len.trans h
theorem aPS(B:Bg Y x b l a0 v4 v8 a1 a2 a3 a4 a5 a6)(t:L Y=4096){n:Int}(r:∀(u:Int) y,0<=u->(1<=n->u<n)->Bg Y y b l a0 v4 v8 a1 a2 a3 a4 a5 a6->K (iv u) y):cV 115 [.p b 0 0,iv n] x d K:=by obtain⟨s,S,v,j⟩:=B.ex;obtain⟨w,T,A⟩:=B.tp;refine aS3 (aA a6) (B.le t) B.pb T (λq g=>⟨.inl (S.p6 q g).2,?_⟩) λu e y k o i z _ a kp=>r u y k o ⟨⟨s,⟨a.gr S.g1 λq h=>by rw[(S.p1 q h).2];decide,a.gr S.g2 λq h=>by rw[(S.p2 q h).2];decide,a.gr S.g3 λq h=>by rw[(S.p3 q h).2];decide,a.gr S.g4 λq h=>by rw[(S.p4 q h).2];decide,a.gr S.g5 λq h=>by rw[(S.p5 q h).2];decide,?_,S.p1,S.p2,S.p3,S.p4,S.p5,S.p6⟩,v,a.kq j⟩,a.kq B.b4,⟨e,i,by omega⟩,B.kx.kx a (by simp),B.pb,B.no⟩;rcases S.g6 with⟨_,rfl⟩|⟨c,m,rfl,h⟩;simp[aA] at g;grind [aA];rcases S.g6 with h|⟨c,m,rfl,h⟩;exact .inl h;exact .inr ⟨c,m,rfl,kp c (by simp[aA]) _ h⟩
theorem a5S(B:Bg Y x b l a0 v4 v8 a1 a2 a3 a4 a5 a6)(n:L Y=4096){t:Int}(m:∀(u:Int) y,(u= -1\/aF 4 u)->Bg Y y b l a0 v4 v8 a1 a2 a3 a4 a5 a6->K (iv u) y):cB 116 [.p b 0 0, .a [a1,iv t,a2,a3,a4,a5,a6]] x d K:=by obtain⟨s,S,j,A⟩:=B.ex;obtain⟨w,T,D⟩:=B.tp;have o:=B.pb;have v:L s.count=4:=j.2.2.2.2.2.1;refine jH rfl (bdc (B.le n) T S.g6<|by omega) ?_;rintro _ y ⟨u,h,rfl,i,k,C,F⟩;rw[v] at i;have c:∀{a:AV} {e:TypeId} {z:Nat} {r:List (List AV)},gp x e z a r->gp y e z a r:=λg=>g.fx F<|aTE T g;have E:∀{q:Id},q.1≠14->q.1≠15->q.1≠16->q∉[b]:=(by grind);exact⟨F.len,m u y i ⟨⟨s,⟨c S.g1,c S.g2,c S.g3,c S.g4,c S.g5,c S.g6,S.p1,S.p2,S.p3,S.p4,S.p5,S.p6⟩,j,by grind [Fx.keep]⟩,(by grind [Fx.keep,Bg.b4]),⟨h,k,by omega⟩,B.kx.fx F (by simp_all),o,B.no⟩⟩
theorem Bg.wr(B:Bg Y x b l a0 v4 v8 a1 a2 a3 a4 a5 a6){Lw:List Id}(F:Fx x y Lw)(h:∀q∈Lw,bK Y q/\(q.1=6\/q.1=32\/q.1=10\/q.1=14))(i:∀q∈Lw,∀z,box x q=V z->z.var=U->False){s:sA}(S:SnL Y y s a1 a2 a3 a4 a5 a6)(k:sz5 s)(g:∃z,box x (5,v8)=V z/\z=⟨40,7,U,U,[[a1,iv s.bW.tx,a2,a3,a4,a5,a6]]⟩):Bg Y y b l a0 v4 v8 a1 a2 a3 a4 a5 a6:=by obtain⟨a,T,c⟩:=B.tp;obtain⟨z,j,rfl⟩:=g;exact⟨(by grind [Fx.keep]),(by grind [Fx.keep,Bg.b4]),⟨a,T.fx F λe=>i b e _ T.bx rfl,c⟩,B.kx.fx F (by grind [bK.no]),B.pb,B.no⟩
theorem baw(B:Bg Y x b l a0 v4 v8 a1 a2 a3 a4 a5 a6){i v:Int}(o:aF 4 i)(n:0<=v/\v<=400){e:be}(k:∀p y,Bg Y y b l a0 v4 v8 a1 a2 a3 a4 a5 a6->e p y):rV (cz 1 x a6<|iv i) λp=>sV (aK 1 x p<|iv v) (e p):=by obtain⟨s,S,a,g⟩:=B.ex;have q:L s.count=4:=a.2.2.2.2.2.1;refine aR5 S.g6 (by simp_all) λp y F j=>k p y (B.wr F (by grind [SnL.p6]) (aNO S.g6) (s:={s with count:=s.count.set i.toNat v}) ⟨S.g1.fn F S.g6,S.g2.fn F S.g6,S.g3.fn F S.g6,S.g4.fn F S.g6,S.g5.fn F S.g6,j,S.p1,S.p2,S.p3,S.p4,S.p5,S.p6⟩ ⟨a.1,a.2.1,a.2.2.1,a.2.2.2.1,a.2.2.2.2.1,by grind,a.2.2.2.2.2.2.1,λc m=>by rcases CC m with h|rfl;exact a.2.2.2.2.2.2.2 c h;exact n⟩ ⟨_,g,rfl⟩)
theorem bav(B:Bg Y x b l a0 v4 v8 a1 a2 a3 a4 a5 a6){i v:Int}(m:aF 5 i){a:be}(j:∀p y,Bg Y y b l a0 v4 v8 a1 a2 a3 a4 a5 a6->a p y):rV (cz 1 x a4<|iv i) λp=>sV (aK 1 x p<|iv v) (a p):=by obtain⟨s,S,k,c⟩:=B.ex;have n:L s.cells=5:=k.2.2.2.1;refine aR5 S.g4 (by simp_all) λp y F e=>j p y (B.wr F (by grind [SnL.p4]) (aNO S.g4) (s:={s with cells:=s.cells.set i.toNat v}) ⟨S.g1.fn F S.g4,S.g2.fn F S.g4,S.g3.fn F S.g4,e,S.g5.fx F (λq h g=>by have:=(S.p5 q h).2;have:=(S.p4 q g).2;omega),S.g6.fn F S.g4,S.p1,S.p2,S.p3,S.p4,S.p5,S.p6⟩ (by grind [sz5]) ⟨_,c,rfl⟩)
theorem bay(B:Bg Y x b l a0 v4 v8 a1 a2 a3 a4 a5 a6){i v:Int}(m:aF 1 i){a:be}(j:∀p y,Bg Y y b l a0 v4 v8 a1 a2 a3 a4 a5 a6->a p y):rV (cz 1 x a5<|iv i) λp=>sV (aK 1 x p<|iv v) (a p):=by obtain⟨s,S,k,c⟩:=B.ex;have n:L s.bU=1:=k.2.2.2.2.1;refine aR5 S.g5 (by simp_all) λp y F e=>j p y (B.wr F (by grind [SnL.p5]) (aNO S.g5) (s:={s with bU:=s.bU.set i.toNat v}) ⟨S.g1.fn F S.g5,S.g2.fn F S.g5,S.g3.fn F S.g5,S.g4.fx F (λq h g=>by have:=(S.p4 q h).2;have:=(S.p5 q g).2;omega),e,S.g6.fn F S.g5,S.p1,S.p2,S.p3,S.p4,S.p5,S.p6⟩ (by grind [sz5]) ⟨_,c,rfl⟩)
theorem a5T(B:Bg Y x b l a0 v4 v8 a1 a2 a3 a4 a5 a6){i:Int}(e:aF 3 i){j:Nat}{v:AV}(E:(j=0/\∃u:Int,v=iv u)\/(j=1/\∃(u:Int) (t o:Bool),v= .l [[iv u]] t o))(w:∀y,Bg Y y b l a0 v4 v8 a1 a2 a3 a4 a5 a6->KS y):rV (cz 2 x a1<|iv i) λp=>rV (iQ j x p) λG=>sV (aK 1 x G v) KS:=by obtain⟨s,S,a,g⟩:=B.ex;have H:L s.bW.ak=3:=a.1;obtain⟨t,D,C,z,m,n,r⟩:∃t:cg,(cg.c<|gd s.bW.ak i.toNat).set j (nrm<|eR x v)=t.c/\L t.bk<=1/\j<2/\eY (nrm<|eR x v)=V [nrm<|eR x v]/\eN (nrm<|eR x v)=U/\eB v=[]:=(by rcases E with⟨rfl,u,rfl⟩|⟨rfl,u,t,o,rfl⟩;refine⟨⟨u,(gd s.bW.ak i.toNat).bk⟩,rfl,a.2.2.2.2.2.2.1 (gd s.bW.ak i.toNat) (ig ?_),by decide,rfl,rfl,rfl⟩;have:=e.1;have:=e.2;omega;exact⟨⟨(gd s.bW.ak i.toNat).awG,[u]⟩,rfl,by simp,by decide,rfl,rfl,rfl⟩);refine a7V S.g1 (λ_=>rfl) (by simp_all) z m n r D λ_ _ y F k=>w y (B.wr F (by grind [SnL.p1]) (aNO S.g1) (s:={s with bW:={s.bW with ak:=s.bW.ak.set i.toNat t}}) ⟨k,S.g2.fn F S.g1,S.g3.fn F S.g1,S.g4.fn F S.g1,S.g5.fn F S.g1,S.g6.fn F S.g1,S.p1,S.p2,S.p3,S.p4,S.p5,S.p6⟩ ⟨by grind,a.2.1,a.2.2.1,a.2.2.2.1,a.2.2.2.2.1,a.2.2.2.2.2.1,λq A=>?_,a.2.2.2.2.2.2.2⟩ ⟨_,g,rfl⟩);rcases CC A with h|rfl;exact a.2.2.2.2.2.2.1 q h;exact C
theorem bfp{e:TypeId}{z:Nat}{bA:List (List AV)}{r:List AV}{q:Id}{i:Nat}{cs:List AV}(c:box x q=V ⟨e,z,U,I,bA⟩)(g:bA[i]?=V r)(m:L r=z)(n:L cs=z)(o:cs.all eN=U)(k:nrm (eR x<|.a cs)= .a cs)(hI:eB (.a cs)=[])(j:∀Y',Fx x Y' [q]->box Y' q=V ⟨e,z,U,I,bA.set i cs⟩->KS Y'):sV (aK z x (.p q i 0)<|.a cs) KS:=by have h:aK z x (.p q i 0) (.a cs)=V (wr x q ⟨e,z,U,I,bA.set i cs⟩):=(by simp only[aK,aBG,c,Bool.false_eq_true,brx,hI,kills,List.foldl_nil,k,pW,eY,g];grind);rw[h];exact j _ (wc c)<|lO c
theorem baC(B:Bg Y x b l a0 v4 v8 a1 a2 a3 a4 a5 a6){i st:Int}(j:aF 4 i)(n:∀y,Bg Y y b l a0 v4 v8 a1 a2 a3 a4 a5 a6->KS y):rV (cz 3 x a3<|iv i) λp=>sV (aK 3 x p<|.a [iv st,iv 0,bv I]) KS:=by obtain⟨s,S,v,k⟩:=B.ex;have z:L s.bW.ay=4:=v.2.2.1;have w:i.toNat<L s.bW.ay:=(by have:=j.1;have:=j.2;omega);refine ixG S.g3 (by simp_all) λq m o t=>?_;refine bfp t (r:=aoC.c<|gd s.bW.ay i.toNat) (by grind [bT]) rfl rfl rfl rfl rfl λy F h=>?_;have e:Fx x y (aA a3):=(by grind [aA]);have g:(s.bW.ay.map aoC.c++m).set i.toNat [iv st,iv 0,bv I]=(s.bW.ay.set i.toNat ⟨st,0,I⟩).map aoC.c++m:=(by rw[List.set_append_left _ _ (by grind),vB];rfl);rw[g] at h;exact n y (B.wr e (by grind [SnL.p3]) (aNO S.g3) (s:={s with bW:={s.bW with ay:=s.bW.ay.set i.toNat ⟨st,0,I⟩}}) ⟨S.g1.fn e S.g3,S.g2.fn e S.g3, .inr ⟨q,m,by rw[o];simp,h⟩,S.g4.fn e S.g3,S.g5.fn e S.g3,S.g6.fn e S.g3,S.p1,S.p2,S.p3,S.p4,S.p5,S.p6⟩ (by grind [sz5]) ⟨_,k,rfl⟩)
end
section
variable{Y x y:ae}{b:Id}{l:List Int}{a0 v4 v8 d:Nat}{a1 a2 a3 a4 a5 a6:AV}{K:be}{KS:ae->Prop}
theorem bat(B:Bg Y x b l a0 v4 v8 a1 a2 a3 a4 a5 a6){i:Int}{f:Bool}(k:aF 4 i){c:AV->be}(h:∀p a y,Bg Y y b l a0 v4 v8 a1 a2 a3 a4 a5 a6->c p a y):rV (cz 3 x a3<|iv i) λp=>rV (iQ 2 x p) λa=>sV (aK 1 x a<|bv f) (c p a):=by obtain⟨s,S,j,e⟩:=B.ex;have m:L s.bW.ay=4:=j.2.2.1;refine a7V S.g3 (λ_=>rfl) (by simp_all) (by decide) rfl rfl rfl (t:={gd s.bW.ay i.toNat with atomic:=f}) rfl λp a y F g=>h p a y (B.wr F (by grind [SnL.p3]) (aNO S.g3) (s:={s with bW:={s.bW with ay:=s.bW.ay.set i.toNat {gd s.bW.ay i.toNat with atomic:=f}}}) ⟨S.g1.fn F S.g3,S.g2.fn F S.g3,g,S.g4.fn F S.g3,S.g5.fn F S.g3,S.g6.fn F S.g3,S.p1,S.p2,S.p3,S.p4,S.p5,S.p6⟩ (by grind [sz5]) ⟨_,e,rfl⟩)
theorem bax(B:Bg Y x b l a0 v4 v8 a1 a2 a3 a4 a5 a6){i:Int}{f:Bool}(g:aF 1 i)(j:∀y,Bg Y y b l a0 v4 v8 a1 a2 a3 a4 a5 a6->KS y):rV (cz 1 x a2<|iv i) λp=>sV (aK 1 x p<|bv f) KS:=by obtain⟨s,S,o,h⟩:=B.ex;have v:L s.bW.done=1:=o.2.1;have t:i.toNat<L s.bW.done:=(by have:=g.1;have:=g.2;omega);refine ixG S.g2 (by simp_all) λq m k n=>?_;refine aQz (x:=bv f) (r:=cb<|gd s.bW.done i.toNat) n (by grind [bT]) (by simp[cb]) rfl rfl rfl λy F e=>?_;have a:Fx x y (aA a2):=(by grind [aA]);have c:(s.bW.done.map cb++m).set i.toNat ((cb<|gd s.bW.done i.toNat).set 0<|nrm<|eR x<|bv f)=(s.bW.done.set i.toNat f).map cb++m:=(by rw[List.set_append_left _ _ (by grind),vB];rfl);rw[c] at e;exact j y (B.wr a (by grind [SnL.p2]) (aNO S.g2) (s:={s with bW:={s.bW with done:=s.bW.done.set i.toNat f}}) ⟨S.g1.fn a S.g2, .inr ⟨q,m,by rw[k];simp,e⟩,S.g3.fn a S.g2,S.g4.fn a S.g2,S.g5.fn a S.g2,S.g6.fn a S.g2,S.p1,S.p2,S.p3,S.p4,S.p5,S.p6⟩ (by grind [sz5]) ⟨_,h,rfl⟩)
theorem baD(B:Bg Y x b l a0 v4 v8 a1 a2 a3 a4 a5 a6){t:Int}(h:∀y,Bg Y y b l a0 v4 v8 a1 a2 a3 a4 a5 a6->KS y):sV (aK 1 x (.p (5,v8) 0 1)<|iv t) KS:=by obtain⟨s,S,k,e⟩:=B.ex;obtain⟨c,T,i⟩:=B.tp;have j:=B.pb;refine A0 e rfl (by simp) λy F g=>h y ⟨⟨{s with bW:={s.bW with tx:=t}},(by have a:=S.keep F (by simp);exact⟨a.g1,a.g2,a.g3,a.g4,a.g5,a.g6,a.p1,a.p2,a.p3,a.p4,a.p5,a.p6⟩),k,g⟩,F.kq B.b4,⟨c,(by grind [Tp.fx]),i⟩,B.kx.fx F (by grind [Bg.no]),j,B.no⟩
theorem baB(B:Bg Y x b l a0 v4 v8 a1 a2 a3 a4 a5 a6):∃st:Nat->Int,∀{i:Int} {K:cC},aF 4 i->K (iv<|st i.toNat)->rV (cz 3 x a3<|iv i) λp=>rV (iQ 0 x p) λn=>rV (vl J x n) K:=by obtain⟨s,S,j,o⟩:=B.ex;have v:L s.bW.ay=4:=j.2.2.1;refine⟨λk=>(gd s.bW.ay k).cQ,λ{i K} a h=>?_⟩;have t:i.toNat<L s.bW.ay:=(by have:=a.1;have:=a.2;omega);refine ixG S.g3 (by simp_all) λq m r e=>?_;have g:(s.bW.ay.map aoC.c++m)[i.toNat]?=V (aoC.c<|gd s.bW.ay i.toNat):=(by grind [bT]);simp only[rR,aC5,e,df,Option.bind_some,g,aY,aj,iy,aoC.c,k1A];exact h
theorem aN5(B:Bg Y x b l a0 v4 v8 a1 a2 a3 a4 a5 a6){j:Nat}:iQ j x (.p (5,v8) 0 0)=V (.p (5,v8) 0 j):=by grind [Bg.ex,rR]
theorem aRC(B:Bg Y x b l a0 v4 v8 a1 a2 a3 a4 a5 a6):vl J x (.p (5,v8) 0 0)=V a1:=by grind [Bg.ex,aC5,k1A]
theorem baz(B:Bg Y x b l a0 v4 v8 a1 a2 a3 a4 a5 a6):vl J x (.p (5,v8) 0 2)=V a2:=by grind [Bg.ex,aC5,k1A]
theorem aS0(B:Bg Y x b l a0 v4 v8 a1 a2 a3 a4 a5 a6):vl J x (.p (5,v8) 0 3)=V a3:=by obtain⟨s,S,c,a⟩:=B.ex;grind [aC5,k1A]
def a5U(B:Bg Y x b l a0 v4 v8 a1 a2 a3 a4 a5 a6):vl J x (.p (5,v8) 0 4)=V a4:=by obtain⟨s,S,c,a⟩:=B.ex;rw[aC5,a];simp[k1A]
def baA(B:Bg Y x b l a0 v4 v8 a1 a2 a3 a4 a5 a6):vl J x (.p (5,v8) 0 5)=V a5:=by obtain⟨s,S,c,a⟩:=B.ex;rw[aC5,a];simp[k1A]
def a5V(B:Bg Y x b l a0 v4 v8 a1 a2 a3 a4 a5 a6):vl J x (.p (5,v8) 0 6)=V a6:=by obtain⟨s,S,c,a⟩:=B.ex;rw[aC5,a];simp[k1A]
def a5W(B:Bg Y x b l a0 v4 v8 a1 a2 a3 a4 a5 a6):∃t:Int,vl (V 7) x (.p (5,v8) 0 0)=V (.a [a1,iv t,a2,a3,a4,a5,a6]):=by obtain⟨s,S,e,c⟩:=B.ex;exact⟨s.bW.tx,by rw[aC5,c];rfl⟩
def aV3(B:Bg Y x b l a0 v4 v8 a1 a2 a3 a4 a5 a6):fS x a1=V (iv (3:Nat))/\fS x a4=V (iv (5:Nat))/\fS x a6=V (iv (4:Nat)):=by obtain⟨s,S,a,c⟩:=B.ex;refine⟨?_,?_,?_⟩;rw[S.g1.ln,bJ,a.1];rw[S.g4.ln,bJ,a.2.2.2.1];rw[S.g6.ln,bJ,a.2.2.2.2.2.1]
end
def baP{Y:ae}:aX bH 9 Y [(0,iv 2),(1,iv 2),(2,iv 2),(3,iv 2),(4,iv 0),(5,iv 1),(6,iv 3),(7,iv 4),(8,iv 5)]=V (.l ([2,2,2,2,0,1,3,4,5].map ci) U U,Y):=by kernel_rfl
section
attribute[local irreducible] aX
def bdb{Y:ae}{b:Id}{l:List Int}{a:Nat}(m:L Y=4096)(hb:b.1=14\/b.1=15\/b.1=16)(T:Tp Y b l a):∃r Y1,(∃(s:sA) (E:Nat),r= .a s.c/\sz5 s/\Tp Y1 b l E/\a<=E/\Kx [14,15,16] Y Y1)/\cZ aS GG 55 [.p b 0 0, .a aNE.c] Y r Y1:=by generalize hQ:(λ(r:AV) (y:ae)=>∃(s:sA) (E:Nat),aOo y r= .a s.c/\sz5 s/\Tp (kills y<|aNW r) b l E/\a<=E/\Kx [14,15,16] Y (kills y<|aNW r))=Qq;refine aQR (R:=Qq) ?_ (by grind);refine bhw m rfl λs2 v3 K2 bu nf b3=>?_;have F2:Fx Y s2 []:=K2.fx [];have aJ:=F2.len.trans m;simp only[aSH];refine ic aJ λv4 s4 F4 N4 b4=>?_;have M:=F2.trans F4;have ah:=M.len.trans m;have c3:=F4.kq b3;have aQ:aN (V 6) aNE.c=V (.a aNE.c):=rfl;simp only[qz 4,u0,u1,c3,aQ,iy,↓uL];refine jH rfl (aXI (w:=aNE) ah (by decide) (by decide) (by decide)<|by decide) ?_;rintro _ s7 ⟨a1,a2,a3,a4,a5,a6,rfl,S,F7⟩;refine⟨F7.len,?_⟩;have aL:=F7.len.trans ah;simp only[qz 6,qy 8];refine ic aL λv8 s9 F9 N8 b8=>?_;refine r9 b8 rfl rfl λaR W c8=>?_;have aA:Fx s4 s9 []:=F7.trans F9;have af:Fx Y s9 []:=M.trans aA;have n8:∀z,box Y (5,v8)≠V z:=(N8.old<|M.trans F7).no;have n4:∀z,box Y (4,v4)≠V z:=(N4.old F2).no;have P:Bg Y aR b l a v4 v8 a1 a2 a3 a4 a5 a6:=⟨⟨aH6 aNE,((S.keep F9<|by simp).keep W<|by simp).old M,⟨rfl,rfl,rfl,rfl,rfl,rfl,by decide,by decide⟩,c8⟩,(by grind [Fx.keep]),⟨a,(T.fx af<|by simp).fx W (by grind),dA _⟩,(af.kx<|by simp).fx W (by simp_all),hb,n4,n8⟩;have bj:=P.le m;have aD:∀{x:ae},Bg Y x b l a v4 v8 a1 a2 a3 a4 a5 a6->rV (vl (V 7) x<|.p (5,v8) 0 0) λaw=>sV (aK 7 x (.p (4,v4) 0 0) aw) λab=>rV (vl (V 7) ab<|.p (4,v4) 0 0) λax=>aNN Qq ab [ax]:=λ{x} B=>(by obtain⟨s,S,hz,b8⟩:=B.ex;obtain⟨E,T',ha⟩:=B.tp;have O:=@r7A;simp only[u1,b8,O,aY,iy];refine r9 B.b4 rfl rfl λy F aC=>?_;simp only[u1,aC,O,aY];have S':=S.keep F (by simp);show Qq (.a [a1,iv s.bW.tx,a2,a3,a4,a5,a6]) y;rw[<-hQ];refine⟨s,E,?_,hz,(T'.fx F<|by grind).fx (aOp _ _)<|λe=>(S'.ids b e).1.no _ T.bx,ha,(B.kx.fx F<|by simp_all).fx (aOp _ _) λq hq=> .inr (S'.ids q hq).1.no⟩;show AV.a (List.map gK<|List.map (gi y) _)=_;rw[vA];exact brv AV.a S'.lz);have i4:∀{k:Nat},k<4->aF 4 (k:Int):=λh=>⟨by omega,by omega⟩;simp only[qz 10,aN5 P,a5V P,(aV3 P).2.2,aY,↓uL];refine yV 4 (λ_ _ y=>Bg Y y b l a v4 v8 a1 a2 a3 a4 a5 a6) P ?_;rintro k _ x hk B;rcases t:Q ((k:Int)<((4:Nat):Int)) with _|_;simp only[qz 25,aI,au,av4,aY,t,↓iB,aN5 B,aRC B,(aV3 B).1,↓uL];refine yV 3 (λ_ _ y=>Bg Y y b l a v4 v8 a1 a2 a3 a4 a5 a6) B ?_;rintro k _ x hk B;rcases t:Q ((k:Int)<((3:Nat):Int)) with _|_;simp only[qz 103,aI,au,av4,aY,t,↓iB,↓uL];refine bpD (λg=>∀{x:ae},Bg Y x b l a v4 v8 a1 a2 a3 a4 a5 a6->g [] x) ?_ λg X=>?_;intro x B;simp only[qz 159,aI,↓uL];refine bpD (λg=>∀{x:ae},Bg Y x b l a v4 v8 a1 a2 a3 a4 a5 a6->g [] x) ?_ λg Z=>?_;intro x B;simp only[qz 171,aI,aN5 B,a5U B,(aV3 B).2.1,aY,↓uL];refine yV 5 (λ_ _ y=>Bg Y y b l a v4 v8 a1 a2 a3 a4 a5 a6) B ?_;rintro k _ x hk B;rcases t:Q ((k:Int)<((5:Nat):Int)) with _|_;simp only[qz 199,qy 54,aI,au,av4,aY,t,↓iB,↓uL];exact aD B;have o:k<5:=(by grind);simp only[qz 199,qy 54,aI,au,av4,aY,t,↓iC,aN5 B,a5U B,↓uL];refine aPS B m λu y N G i=>?_;simp only[qz 50,au,↓uL];refine bav i ⟨by omega,by omega⟩ λp y2 j=>?_;simp only[qz 52,↓uL];refine dT (by simp[eL,lb,lbV,gz,dC,dK]) ?_;simp only[au,cS,aY,↓uL];exact yU o j;simp only[qz 173,↓uL];refine aPS B m λu y N G i=>?_;rcases n:Q (u=2) with _|_;simp only[qz 42,iM,aY,n,↓iB,↓uL];exact Z i;simp only[qz 42,iM,aY,n,↓iC,aN5 i,baz i,↓uL];refine bax i ⟨by omega,by omega⟩ λy2 j=>?_;simp only[qz 44,aN5 j,baA j,aY,↓uL];refine aPS j m λu2 y3 h2 h3 D=>?_;simp only[qz 46,↓uL];refine bay D ⟨by omega,by omega⟩ λp y4 B5=>?_;simp only[qz 48,↓uL];refine dT (by simp[eL,lb,lbV,gz,dC,dK]) ?_;exact Z B5;simp only[qz 161,↓uL];refine aPS B m λu y N G i=>?_;rcases n:Q (u=2) with _|_;simp only[qz 36,iM,aY,n,↓iB,↓uL];exact X i;obtain⟨t7,O⟩:=a5W i;simp only[qz 36,iM,aY,n,↓iC,O,↓uL];refine a5S i m λu2 y2 _ j=>?_;simp only[qz 38,qy 40,aN5 j,aY,↓uL];exact baD j λy3 D=>X D;have o:k<3:=(by grind);simp only[qz 103,aI,au,av4,aY,t,↓iC,↓uL];refine bpD (λg=>∀y,Bg Y y b l a v4 v8 a1 a2 a3 a4 a5 a6->g [] y) ?_ λg v=>?_;intro y B;simp only[qz 123,aI,au,cS,aY,↓uL];exact yU o B;obtain⟨t7,O⟩:=a5W B;simp only[qz 125,O,aY,↓uL];refine a5S B m λu y hu i=>?_;have i3:aF 3 (k:Int):=⟨by omega,by omega⟩;rcases qu:Q (u<0) with _|_;have al:aF 4 u:=(by simp only[j5] at qu;rcases hu with h|h;omega;exact h);have own:∀{z:ae},Bg Y z b l a v4 v8 a1 a2 a3 a4 a5 a6->rV (cz 2 z a1<|iv k) λp=>rV (iQ 0 z p) λp'=>sV (aK 1 z p'<|iv u) λav=>g [] av:=λ{z} Bz=>a5T Bz i3 (by simp) λy B=>v y B;rcases A:Q ((k:Int)=0) with _|_;rcases n:Q ((k:Int)=2) with _|_;simp only[qz 26,qy 34,au,u0,av4,iM,aOq,qu,A,n,↓jN,a7c,aN5 i,aRC i,bt,↓uL];exact own i;simp only[qz 26,qy 34,au,u0,av4,iM,aPh,qu,n,↓jA,aUw,bt,↓uL];refine aPS (d:=85) i m λu2 z N G j=>?_;rcases C:Q (u2=1) with _|_;simp only[u0,iM,C,A,↓jN,a7c,aN5 j,aRC j,bt,↓uL];exact own j;simp only[au,u0,iM,C,A,aS1,↓jN,a7c,aN5 j,aRC j,qz 30,qy 32,bt,↓uL];exact a5T j i3 (by simp) λy B=>v y B;have n:Q ((k:Int)=2)=I:=(by simp_all);obtain⟨st,ak⟩:=baB i;simp only[qz 26,qy 34,au,u0,av4,iM,aOq,qu,A,n,↓jA,↓jN,aUw,a7c,aN5 i,aRC i,aS0 i,bt,↓uL];refine ak al ?_;rcases C:Q (st u.toNat=3) with _|_;simp only[u0,iM,C,↓jA,a7c,aN5 i,aS0 i,↓uL];refine ak al ?_;rcases q4:Q (st u.toNat=4) with _|_;simp only[u0,iM,q4,bt,↓uL];exact own i;simp only[u0,iM,q4,bt,↓uL];exact v _ i;simp only[u0,iM,C,↓jN,aUw,bt,↓uL];exact v _ i;simp only[qz 26,qy 34,au,u0,av4,iM,qu,bt,↓uL];exact v _ i;have o:k<4:=(by grind);simp only[qz 25,aI,au,av4,aY,t,↓iC,↓uL];refine bpD (λg=>∀y,Bg Y y b l a v4 v8 a1 a2 a3 a4 a5 a6->g [] y) ?_ λg v=>?_;intro y B;simp only[qz 45,aI,au,cS,aY,↓uL];exact yU o B;simp only[qz 47,baP,bQ,qz 12,↓uL];refine aPS B m λu y N G i=>?_;have ag:=G (by decide);simp only[qz 14,tf,ci,qM,aY,au,↓uL];refine⟨⟨N,by simpa using ag⟩,?_⟩;refine btF (λg=>∀st:Int,g [iv st]) (λst=>?_) λg H=>?_;skip;have aE:bM btu aon [(0,iv st)]=V (.a [iv st,iv 0,bv I]):=rfl;simp only[qz 63,aI,au,aN5 i,aS0 i,aE,aY,↓uL];refine baC i (i4 o) λy i=>?_;rcases A:Q (st≠0) with _|_;simp only[qz 16,au,u0,av6,A,↓jN,a7c,bt,↓uL];exact v _ i;rcases t:Q (st≠1) with _|_;simp only[qz 16,au,u0,av6,A,t,↓jA,bt,↓uL];exact v _ i;simp only[qz 16,au,u0,av6,A,t,aN5 i,a5V i,↓jA,bt,↓uL];refine aPS i m λu y2 N G j=>?_;simp only[qz 18,au,cS,aY,↓uL];have ag:=G (by decide);refine baw j (i4 o) (by grind [eM]) λp y3 D=>?_;simp only[qz 20,↓uL];refine dT (by simp[eL,lb,lbV,gz,dC,dK]) ?_;simp only[aN5 D,aS0 D,aY,↓uL];refine aPS D m λu2 y4 h2 h3 B5=>?_;simp only[qz 22,au,iM,aY,↓uL];refine bat B5 (i4 o) λp p' y5 B6=>?_;simp only[qz 24,↓uL];refine dT (by simp[eL,lb,lbV,gz,dC,dK]) ?_;exact v _ B6;simp only[qz 65,au,↓uL];generalize gd ([2,2,2,2,0,1,3,4,5]:List Int) u.toNat=st;rcases n:Q ((k:Int)=0) with _|_;simp only[u0,iM,n,↓jN,a7c,bt,↓uL];exact H _;rcases C:Q (st=0) with _|_;simp only[u0,iM,n,C,↓jA,aUw,bt,↓uL];exact H _;simp only[u0,iM,n,C,↓jA,aUw,bt,↓uL];exact H _
end
def bfA:dO:=aR3
def bfy:eJ bfA:=aPL
def bcy:=@aPg
section
attribute[local irreducible] aX
def a91:=I5 23 [(5,([23],[0,3,4,6,7,11,12,22])),(8,([],[0,3,4,6,7,11,12,22,23])),(12,([11],[0,3,6,7,12])),(19,([],[0,3,6,7,11,12,14,15]))]
def aVT c a b d e f R:=(.mk _:NS bfA a91 Tryz.f56 [c, .u, .u,d,e] [a,b] f R).p
def bhB{d:AV}{b:List AV}{c:List AV}{e f:AV}{s0:ae}{R:be}(hs:L s0=4096)(l1:L b=7)(g:L c=6)(h:HB2 40 7 6 b 31 6 7 c s0 λj k i=>aVT d j k e f i R):EB 56 [d, .a b, .a c,e,f] s0 R:=zB2 a91 bfy Tryz.func56 hs l1 g h
end
def aNI{Y:ae}{b:Id}{e:TypeId}{z j:Nat}{o v:Bool}{r:List (List AV)}(h:box Y b=V ⟨e,z,o,v,r⟩):iQ j Y (.p b 0 0)=V (.p b 0 j):=by rw[rR,h];simp
def aXM{ds:List AV}{s:sA}(h:Lk ds s.c):∃x0 a x2 d t4 o4 j g m i,ds=[x0,a,x2,d, .l (s.cells.map ci) t4 o4, .l (s.bU.map ci) j g, .l (s.count.map ci) m i]:=by have e:=oC h;obtain⟨h,_⟩:=h;rcases ds with _|⟨x0,_|⟨a,_|⟨x2,_|⟨d,_|⟨n,_|⟨x5,_|⟨o,_|⟨p,ds⟩⟩⟩⟩⟩⟩⟩⟩<;>simp at e;simp only[ji,mU,sA.c,kO] at h;grind [aRH]
theorem Rds.mono{Y:ae}{B:Id}{f:Nat->AV}{m n:Nat}(O:Rds Y B f m)(h:m<=n):Rds Y B f n:=⟨O.bx,(by grind [Rds.gr]),O.dj,O.pl⟩
def a62{Y:ae}{B:Id}{f:Nat->AV}{m d:Nat}{i v:Int}{t o:Bool}{K:AV->be}(O:Rds Y B f m)(hi:0<=i/\i<4)(hd:d=47\/d=103)(hl:L Y=4096)(hm:m<=1000)(Z:B.1=20)(M:∀a Y' z,Rds Y' B z (m+1)->Fx Y Y' (B::aA (f i.toNat))->(∀j,j<4->∀q∈aA (z j),q∈aA (f j)\/bK Y q)->K a (.p B i.toNat 0) Y'):eV (Gy 3 fB 8 Y d (f i.toNat)<|.l [[iv v]] t o) λa c=>rV (cz 1 c (.m B 4)<|iv i) λp=>sV (aK 1 c p a) (K a p):=by have r:i.toNat<4:=(by omega);obtain⟨ns,T,g⟩:=O.gr _ r;refine qs g rfl (by decide) (by omega) pU (by simp) (by simp) (by simp;omega) λa c E n W=>?_;have A:∀j,j<4->B∉aA (f j):=(by grind [Rds.pl]);have F:=n.keep _ _ (A _ r) O.bx;have C:cz 1 c (.m B 4) (iv i)=V (.p B i.toNat 0):=(by grind [cz]);rw[C];have P:B∉aA a:=(by grind);refine Bp F (uU r) (ms E) rfl (by simp) λu s G=>?_;have w:box u B=V ⟨38,1,U,U,io 4 λj=>[if j=i.toNat then a else f j]⟩:=(by rw[G,Bl];grind);have R:∀j,j<4->∀q∈aA (f j),q∉aA a:=(by grind [Rds.gr,aTi,bK.no]);refine M a u _ ⟨w,λj e=>?_,λj k e hk S q D=>?_,λj e q D=>?_⟩ ((n.trans s).mono<|by grind) λj e q D=>?_;by_cases h:j=i.toNat;subst h;simp only[aNV];refine⟨ns++[v],by simp;omega,?_⟩;grind [bc.p,bc.fx];simp only[dB h];obtain⟨N,X,H⟩:=O.gr j e;exact⟨N,by omega,(H.fx n<|by grind [Rds.dj]).fx s<|by grind⟩;grind [Rds.dj];grind [Rds.pl];grind
def bc6{n:Int}:gz (iv n)=[]:=rfl
structure PlS(Y x:ae)(b:Id)(l:List Int)(v6 v7:Nat)(B:Id)(f:Nat->AV)(k:Nat):Prop where
 b6:∃ds s,box x (6,v6)=V ⟨40,7,U,U,[ds]⟩/\Lk ds s.c/\vH k s/\L s.cells=5/\L s.bU=1/\L s.count=4
 b7:box x (7,v7)=V ⟨31,6,U,U,[aNE.c]⟩
 tp:∃a',Tp x b l a'
 kx:Kx [14,15,16] Y x
 rd:Rds x B f (k+1)
 nw:∀i,i<4->∀q∈aA (f i),∀z,box Y q≠V z
 no:(∀z,box Y (6,v6)≠V z)/\∀z,box Y B≠V z
 pb:b.1=16/\B.1=20
section
variable{Y x y:ae}{b B:Id}{l:List Int}{v6 v7 k:Nat}{f:Nat->AV}
theorem PlS.fx(P:PlS Y x b l v6 v7 B f k){Lw:List Id}(F:Fx x y Lw)(h:∀q∈Lw,q.1≠6/\q.1≠7/\q.1≠16/\q.1≠20/\q.1≠47/\q.1≠103)(g:∀q∈Lw,q.1=14\/q.1=15\/∀z,box Y q≠V z):PlS Y y b l v6 v7 B f k:=by obtain⟨ds,s,d,e⟩:=P.b6;obtain⟨a,T⟩:=P.tp;have c:=P.pb;exact⟨(by grind [Fx.keep]),(by grind [Fx.keep,PlS.b7]),⟨a,by grind [Tp.fx]⟩,P.kx.fx F (by grind),P.rd.fx F (by grind),P.nw,P.no,c⟩
theorem PlS.kxx(P:PlS Y x b l v6 v7 B f k)(K:Kx [14,15,16] x y){a:Nat}(T:Tp y b l a):PlS Y y b l v6 v7 B f k:=by obtain⟨ds,s,c,d⟩:=P.b6;exact⟨(by grind [Kx.keep]),K.kq P.b7,⟨a,T⟩,P.kx.kx K (by simp),P.rd.kx K (by grind [PlS.pb]),P.nw,P.no,P.pb⟩
theorem PlS.tape(P:PlS Y x b l v6 v7 B f k)(F:Fx x y [b]){a:Nat}(T:Tp y b l a):PlS Y y b l v6 v7 B f k:=(by grind [PlS.kxx,Fx.kx,PlS.pb])
theorem PlS.reads(P:PlS Y x b l v6 v7 B f k){a:Nat->AV}{i:Nat}(p:i<4)(R:Rds y B a<|k+2)(F:Fx x y (B::aA (f i)))(o:∀j,j<4->∀q∈aA (a j),q∈aA (f j)\/bK x q){d:Nat}(A:k+1<=d)
  (n:∃ds s,box x (6,v6)=V ⟨40,7,U,U,[ds]⟩/\Lk ds s.c/\vH d s/\L s.cells=5/\L s.bU=1/\L s.count=4):PlS Y y b l v6 v7 B a d:=by
 obtain⟨ds,s,v,w⟩:=n
 obtain⟨m,T⟩:=P.tp
 have r:=P.pb
 have pl:=P.rd.pl i p
 have C:∀{q:Id},q.1≠20->q.1≠47->q.1≠103->q∉B::aA (f i):=(by grind)
 exact⟨(by grind [Fx.keep]),(by grind [Fx.keep,PlS.b7]),⟨m,by grind [Tp.fx]⟩,P.kx.fx F (by grind [PlS.no,PlS.nw]),R.mono (by omega),λj g q t=>by
   rcases o j g q t with h|h
   ·exact P.nw j g q h
   ·intro z u
    by_cases e:q.1∈[14,15,16]
    ·grind [Rds.pl]
    ·exact h.no _ (P.kx.keep _ _ e u),P.no,r⟩
end
def tpM(b:Id)(y:ae):Nat:=((box y b).map λx=>match x.bA with|[[.l bA _ _, .s (.int _ n)]]=>L bA-n.toNat|_=>0).getD 0
theorem aTD{Y:ae}{b:Id}{l:List Int}{a:Nat}(T:Tp Y b l a):tpM b Y=L l-a:=by simp only[tpM,T.bx];show L (l.map cu)-(a:Int).toNat=_;simp
def bfl{k:Nat}{s:sA}{e:aP}(h:vH k s)(i:k<1000)(a:be3 aNE s e=U)(g:L s.cells=5)(c:L s.bU=1)(d:L s.count=4):vH (k+1) (nD aNE s e)/\L (nD aNE s e).cells=5/\L (nD aNE s e).bU=1/\L (nD aNE s e).count=4:=by refine⟨h.step (by omega),?_⟩;grind [nD,oc]
section
attribute[local irreducible] aX
def LeN(n:Int)(k:Nat):Prop:=k<=16/\((k:Int)<=n\/k=0)
def bdm{Y:ae}{b:Id}{l:List Int}{a:Nat}{ds:List AV}{s:sA}{n:Int}(K:L Y=4096)(hb:b.1=16)(T:Tp Y b l a)(hL:Lk ds s.c)(hS:vH 0 s)(h5:L s.cells=5)(h1:L s.bU=1)(h4:L s.count=4)(hn:n<=16):∃r Y1,(∃t:List aP,r= .l (t.map aP.c) I I/\LeN n (L t)/\(∀e∈t,EvL e)/\Kx [14,15,16] Y Y1)/\cZ aS GG 56 [.p b 0 0, .a ds, .a aNE.c,iv n,bv U] Y r Y1:=by generalize hQ:(λ(r:AV) (y:ae)=>∃t:List aP,aOo y r= .l (t.map aP.c) I I/\LeN n (L t)/\(∀e∈t,EvL e)/\Kx [14,15,16] Y (kills y<|aNW r))=Qq;refine aQR (R:=Qq) ?_ (by grind);refine bhB K (oC hL) rfl λs4 v6 v7 K4 c7 b4 c8 W X=>?_;have F4:Fx Y s4 []:=K4.fx [];have c4:=F4.len.trans K;have cm:aN J (List.drop 4 aNE.c)=V (sl cs aNE.ay):=rfl;have bY:∀{Y:ae},fS Y (sl cs aNE.ay)=V (iv (4:Nat)):=rfl;simp only[aVT,u0,u1,X,cm,bY,aj,↓uL];refine AP (by decide) (by decide) (by omega) (by decide) λB s9 hB NB F9 bB=>?_;have aR:=F4.trans F9;have P0:PlS Y s9 b l v6 v7 B (λ_=> .l [] U U) 0:=⟨(by grind [Fx.keep]),F9.kq X,⟨a,T.fx aR<|by simp⟩,aR.kx (by simp),⟨by rw[bB];rfl,λi hi=>⟨[],by simp, .inl ⟨rfl,rfl⟩⟩,by simp[aA],by simp[aA]⟩,by simp[aA],⟨b4,(NB.old F4).no⟩,hb,hB⟩;have bi:∀{x:ae} {f:Nat->AV} {k:Nat},PlS Y x b l v6 v7 B f k->fS x (.m B 4)=V (iv (4:Nat)):=λ{x f k} P=>(by simp[fS,P.rd.bx]);simp only[qz 6,bi P0,aY,↓uL];have a7:∀{e:aP},aN (V 7) e.c=V (.a e.c):=rfl;have a8:aN (V 6) aNE.c=V (.a aNE.c):=rfl;refine yV 4 (λk _ y=>∃f,PlS Y y b l v6 v7 B f k) ⟨_,P0⟩ ?_;rintro k _ x hk ⟨f,P⟩;rcases q1:Q ((k:Int)<((4:Nat):Int)) with _|_;(focus simp only[qz 31,aI,au,av4,aY,q1,↓iB,↓uL];have bW:k=4:=(by grind);subst bW;let o:aG:=λvs y=>∃(v:AV) (t:List aP) (f:Nat->AV),vs=[v]/\LeN n (L t)/\(∀e∈t,EvL e)/\gp y 62 7 v (t.map aP.c)/\(∀q∈aA v,q.1=108/\∀z,box Y q≠V z)/\PlS Y y b l v6 v7 B f (4+L t);refine⟨o,λ_ y=>tpM b y,⟨_,[],f,rfl,⟨by simp, .inr rfl⟩,by simp, .inl ⟨rfl,rfl⟩,by simp[aA],P⟩,?_⟩;rintro _ x ⟨v,t,f,rfl,a4,aD,g,po,P⟩;generalize hI:o=I';obtain⟨a',N⟩:=P.tp;have aF:=P.kx.len.trans K;have aE:fS x v=V (iv<|L t):=(by rw[g.ln,bJ]);have aJ:aNN Qq x [v]:=(by show Qq v x;rw[<-hQ];have ei:aNW v=aA v:=(by have:=aQX g;rcases g with⟨_,rfl⟩|⟨c,m,rfl,_⟩<;>rfl);have ef:aOo x v= .l (t.map aP.c) I I:=(by rw[<-g.ar];rcases g with⟨_,rfl⟩|⟨c,m,rfl,_⟩<;>rfl);refine⟨t,ef,a4,aD,?_⟩;rw[ei];exact P.kx.fx (aOp _ _)<|by simp_all);rcases q1:Q ((L t:Int)<n) with _|_;simp only[qz 73,aI,au,aE,u0,u1,q1,iy,↓jN,a7c,bt,↓uL];exact aJ;rcases q2:Q ((a':Int)<(L l:Int)) with _|_;simp only[qz 73,aI,au,aE,u0,u1,qb N.bx,N.bx,q1,q2,k1A,nM,iy,aj,↓jA,bt,↓uL];exact aJ;have cJ:L t<16:=(by grind);have c3:a'<L l:=(by simp_all);obtain⟨av,s',ap,ac,a1,a0,bC,bH⟩:=P.b6;obtain⟨x0,x1,x2,x3,t4,o4,t5,o5,t6,o6,bR⟩:=aXM ac;have cl:aN (V 7) av=V (.a av):=(by rw[bR];rfl);simp only[qz 73,aI,au,aE,u0,u1,qb N.bx,N.bx,q1,q2,ap,P.b7,cl,a8,k1A,nM,iy,aj,↓jA,bt,↓uL];refine jH rfl (bdf aF (.inr<|.inr hb) hB N ac (by have:=a1.sy.th;omega) a0 (by omega)<|P.rd.mono<|by omega) ?_;rintro _ y ⟨e,a2,rfl,he,ad,T2,_,cI,K2⟩;refine⟨K2.len,?_⟩;have G:=P.kxx K2 T2;have b1:=G.kx.len.trans K;have g2:gp y 62 7 v (t.map aP.c):=(by grind [Kx.gr]);simp only[qz 16,qy 18,↓uL];refine ic b1 λE y1 G1 c1 bu=>?_;refine r9 bu rfl rfl λy2 G2 aV=>?_;have P3:=(G.fx G1 (by simp)<|by simp).fx G2 (by simp) (by simp);have g3:=(g2.fx G1<|by simp).fx G2 (by grind);have T3:Tp y2 b l a2:=(T2.fx G1<|by simp).fx G2 (by grind);obtain⟨aw,s3,aU,O,a3,bI,bD,aZ⟩:=P3.b6;obtain⟨z0,z1,z2,z3,db,c9,dd,da,cp,b5,aC⟩:=aXM O;have bl:aN (V 7) aw=V (.a aw):=(by rw[aC];rfl);have bs:∀{Y:ae},dG Y (.a aw)= .a s3.c:=λ{Y}=>O.arg Y;obtain⟨ca,cb,cd,cf,cg,ch,cj⟩:=a3.snB (by omega);simp only[qz 20,qy 22,u0,u1,aU,P3.b7,aV,bl,a8,a7,iy,bcy,ar,bs,↓uL];refine⟨⟨by decide,ca,cb,cd,cf,cg,ch,cj,by have:=he.1;omega,by have:=he.2;omega⟩,?_⟩;rintro _ ⟨cs,rfl,aB⟩;refine⟨by rw[lo,nA];exact .inl (by simp[x9 O];simp[eB,iR,aP.c,J9.c,sl]),?_⟩;simp only[oJ,pG,aY,↓uL];have bj:=P3.kx.len.trans K;refine ic bj λcq y3 G3 c2 bw=>?_;refine r9 bw rfl (oC aB) λM G4 aW=>?_;have C:=(P3.fx G3 (by simp)<|by simp).fx G4 (by simp) (by simp);have g4:=(g3.fx G3<|by simp).fx G4 (by grind);have T4:Tp M b l a2:=(T3.fx G3<|by simp).fx G4 (by grind);have H:=G4.kq<|G3.kq aV;have ab:=G4.kq<|G3.kq aU;rcases b2:be3 aNE s3 e with _|_;simp only[qz 24,aIN,u0,↓iC,↓uL];rw[<-hI];exact⟨⟨v,t,f,rfl,a4,aD,g4,po,C⟩,by grind [aTD]⟩;have a5:=bfl a3 (by omega) b2 bI bD aZ;have ck:aN (V 7) cs=V (.a cs):=(by grind [oC,aN]);have up:∀{y:ae} {f:Nat->AV},PlS Y y b l v6 v7 B f (4+L t)->PlS Y y b l v6 v7 B f (4+(L t+1)):=λ{y f} P=>(by obtain⟨ds,s,h1,h2,D,h4⟩:=P.b6;exact⟨⟨ds,s,h1,h2,⟨D.sy.mono (by omega),D.ce,D.fu,D.co,λc hc=>by have:=D.cn c hc;omega⟩,h4⟩,P.b7,P.tp,P.kx,P.rd.mono (by omega),P.nw,P.no,P.pb⟩);simp only[qz 24,aIN,u0,↓iB,↓uL];refine bpD (λj=>∀{z:ae} {f':Nat->AV},PlS Y z b l v6 v7 B f' (4+(L t+1))->(∃d,box z (6,v6)=V ⟨40,7,U,U,[d]⟩/\L d=7)->box z (14,E)=V ⟨62,7,U,U,[e.c]⟩->box z (15,cq)=V ⟨40,7,U,U,[cs]⟩->gp z 62 7 v (t.map aP.c)->Tp z b l a2->j [] z) (λ{z f'} P h6 bF bG g T=>?_) λj a6=>?_;obtain⟨d6,h6,bO⟩:=h6;have bM:aX btV 1 z [(0, .a e.c)]=V (.l ([e].map aP.c) U U,z):=ua rfl rfl rfl (by decide) (by simp[aP.c,eN,sl]) (by decide);have af:∀{l:List aP},∀r∈l.map aP.c,L r=7:=qW (by intro _;rfl);simp only[qz 117,qy 32,aI,au,u0,u1,bF,a7,bM,iy,↓uL];refine apQ g (P.kx.len.trans K) af af (by simp) (by simp;omega) λout' z1 g1 F1 p1=>?_;have Z:∀{q:Id},q.1≠108->q∉aA v:=(by grind);have bc:=F1.keep _ _ (Z<|by simp) bG;have bK:=F1.keep _ _ (Z<|by simp) h6;have P1:=P.fx F1 (λq A=>by rw[(po q A).1];decide) (by grind);simp only[qz 34,qy 36,u0,u1,bc,ck,iy,↓uL];refine r9 bK bO (oC aB) λz2 S c6=>?_;have aT:Tp z2 b l a2:=(T.fx F1<|Z<|by omega).fx S (by grind);have b9:∀q∈aA out',q.1=108/\∀w,box Y q≠V w:=λq A=>⟨(p1 q A).2,λw hw=>(p1 q A).1.no w<|P.kx.keep _ _ (by rw[(p1 q A).2];decide) hw⟩;rw[<-hI];refine⟨⟨out',t++[e],f',rfl,⟨by simp;omega, .inl (by have:=qc q1;simp;omega)⟩,λy hy=>?_,?_,b9,?_⟩,by rw[aTD aT,aTD N];omega⟩;rcases dF.1 hy with h|h;exact aD y h;grind;rw[dg];exact g1.p.fx S (by grind);rw[a6G];exact⟨⟨cs,_,c6,aB,(show 4+L t+1=4+(L t+[e].length) from rfl)▸a5.1,a5.2⟩,S.kq P1.b7,⟨a2,aT⟩,P1.kx.fx S (by grind),P1.rd.fx S (λq A=>by simp at A;subst A;grind),P1.nw,P1.no,P1.pb⟩;have hu:e.aq.toNat<4:=(by omega);have f1:iQ 1 M (.p (14,E) 0 0)=V (.p (14,E) 0 1):=(by grind [rR]);have l1:vl J M (.p (14,E) 0 1)=V (iv e.kind):=(by rw[aC5,H];rfl);rcases q3:Q (e.kind=3) with _|_<;>rcases cc:Q (e.kind=23) with _|_<;>simp only[qz 119,qy 26,u0,f1,l1,iM,q3,cc,↓jA,↓jN,aUw,a7c,bt,↓uL];exact a6 (up C) ⟨_,ab,oC O⟩ H aW g4 T4;all_goals have f0:iQ 0 M (.p (14,E) 0 0)=V (.p (14,E) 0 0):=(by grind [rR]);have l0:vl J M (.p (14,E) 0 0)=V (iv e.aq):=(by rw[aC5,H];rfl);have f6:iQ 6 M (.p (6,v6) 0 0)=V (.p (6,v6) 0 6):=(by rw[rR,ab];rfl);have l6:vl J M (.p (6,v6) 0 6)=V (.l (s3.count.map ci) cp b5):=(by rw[aC5,ab,aC];rfl);have bT:cz 1 M (.m B 4) (iv e.aq)=V (.p B e.aq.toNat 0):=(by simp[cz,ad.1,C.rd.bx,hu]);have bX:vl J M (.p B e.aq.toNat 0)=V (f e.aq.toNat):=(by simp[vl,iE,C.rd.bx,uU hu,aN]);simp only[f0,l0,f6,l6,bT,bX,aY,tf,ci,qM,aS1,bQ,↓uL];refine⟨⟨ad.1,by rw[aZ];exact ad.2⟩,?_⟩;obtain⟨ns,c5,bA⟩:=C.rd.gr _ hu;have hk:=(SlR.of bA).keys (P:=λp=>p=47\/p=103) (λq A=>C.rd.pl _ hu q A);refine a62 C.rd ad (.inr rfl) (C.kx.len.trans K) (by omega) hB λa' z f' R F hf=>?_;simp only[qz 30,↓uL];refine dT ?_ ?_;rcases hk with e1|⟨p,e1,rfl|rfl⟩<;>simp[eL,lb,e1,aTn,a6H,bc6];have h1:=C.rd.pl _ hu;have ne:∀{q:Id},q.1≠20->q.1≠47->q.1≠103->q∉B::aA (f e.aq.toNat):=λ{q} n1 n2 n3 A=>(by rcases eW.1 A with rfl|h;exact n1 hB;rcases h1 _ h with e|e<;>omega);exact a6 (C.reads hu R F hf (by omega) (up C).b6) ⟨_,F.keep _ _ (by grind) ab,oC O⟩ (F.keep _ _ (by grind) H) (F.keep _ _ (by grind) aW) (g4.fx F λq A=>ne (by grind) (by grind)<|by grind)<|T4.fx F<|ne (by omega) (by omega)<|by omega);have b0:k<4:=(by grind);have up:∀{y:ae} {f:Nat->AV},PlS Y y b l v6 v7 B f k->PlS Y y b l v6 v7 B f (k+1):=λ{y f} P=>(by obtain⟨ds,s,h1,h2,D,h4⟩:=P.b6;exact⟨⟨ds,s,h1,h2,⟨D.sy.mono (by omega),D.ce,D.fu,D.co,λc hc=>by have:=D.cn c hc;omega⟩,h4⟩,P.b7,P.tp,P.kx,P.rd.mono (by omega),P.nw,P.no,P.pb⟩);obtain⟨av,s',ap,ac,a1,a0,bC,bH⟩:=P.b6;obtain⟨x0,x1,x2,x3,t4,o4,t5,o5,t6,o6,rfl⟩:=aXM ac;have aF:=P.kx.len.trans K;simp only[qz 31,aI,au,av4,aY,q1,↓iC,↓uL];refine bpD (λj=>∀{y:ae} {f:Nat->AV},PlS Y y b l v6 v7 B f (k+1)->j [] y) (λ{y f} P=>?_) λj nx=>?_;simp only[qz 51,aI,au,cS,aY,↓uL];exact yU b0 ⟨_,P⟩;simp only[qz 53,qy 10,u0,u1,ap,k1A,nM,iy,aj,tf,ci,qM,↓jA,aUw,↓uL];refine⟨⟨by omega,by omega⟩,?_⟩;rcases q2:Q (1<gd s'.count ((k:Int)).toNat) with _|_;simp only[u0,aOq,↓jN,a7c,bt,↓uL];exact nx<|up P;simp only[u0,aPh,↓jA,aUw,↓uL];obtain⟨a',N⟩:=P.tp;refine aPu (d:=37) aF N λu a2 y _ _ T2 _ S=>?_;have G:=P.tape S T2;rcases q3:Q (u=2) with _|_;simp only[u0,u1,q3,bt,↓uL];exact nx<|up G;simp only[u0,iM,q3,bt,↓uL];refine G.rd.rd (by omega) ?_;simp only[aS1,bQ];refine a62 G.rd (by omega) (.inl rfl) (G.kx.len.trans K) (by omega) hB λa' z f' R F hf=>?_;exact nx (G.reads (by omega) R F hf (dA _) (up G).b6)
end
def trS(w:J9)(l:List aP):Nat->sA|0=>aH6 w|k+1=>nD w (trS w l k)<|gd l k
structure aN4(w:J9)(l:List aP):Prop where
 wv:mQ w=U
 ln:L l<=400
 st:∀k,k<L l->be3 w (trS w l k) (gd l k)=U
 dp:∀k,k<L l->∀n∈(gd l k).dI,aOE l k (gd l k).aq n
 fr:∀k,k<L l->∀n∈(gd l k).ep,aOE l k (gd l k).aq n
def a6b{l:List aP}{t:Int}{i m:Nat}:bkk l t (i+m)=bkk l t i+bkk (l.drop i) t m:=by simp only[bkk,List.take_add,List.filter_append,a6G]
def a6Y(t:Int):∀(l:List aP) (j i:Nat),j<L l->(gd l j).aq=t->pS t l (bkk l t j) i=((i+j:Nat):Int)
 |[],j,i,h,_=>by simp at h
 |e::l,0,i,_,h=>by
  have b:e.aq=t:=h
  simp[pS,bkk,b]
 |e::l,j+1,i,h,c=>by
  have a:(gd l j).aq=t:=by grind [gd]
  have d:=a6Y t l j (i+1) (by simpa using h) a
  grind [pS,bkk]
def aXY{α:Type}{n:Nat}{x y:α}(h:y∈er n x):y=x:=(by simp_all)
theorem aTg{α:Type}[Inhabited α]{n j:Nat}{x:α}(h:j<n):gd (er n x) j=x:=by grind [bT]
def bcG{n j:Nat}(h:j<n):gd (qZ n) j=⟨if j=0 then 1 else 0,0,I⟩:=by grind [bT,qZ]
def a7j:∀n:Nat,(er n (0:Int)).sum=0
 |0=>rfl
 |n+1=>by simp
theorem a7R{w:J9}(h:mQ w=U):∀j,j<L w.bC->uh w j=I:=by grind [mQ]
theorem SI.start{w:J9}(h:mQ w=U):SI w (aH6 w) 0:=by have n:=a7R h;refine⟨?_,?_,?_,?_,?_,?_,?_⟩;simp only[fN,lh,aH6,bN,j4];grind [qZ,ou,uh,bT];intro c k;rw[aXY k];omega;exact a7j _;intro j g;have a:j<L w.ay:=(by grind [aH6,qZ]);have e:gd (aH6 w).bW.ay j=⟨if j=0 then 1 else 0,0,I⟩:=bcG a;have m:gd (aH6 w).count j=0:=aTg a;by_cases b:j=0;subst b;simp only[aNV] at e;exact⟨by rw[e];simp,by simp_all,by rw[e];simp,by rw[e];simp,by rw[e];simp,by rw[e];simp⟩;rw[dB b] at e;exact⟨by rw[e];simp,by simp_all,λd=>aNK d b,by rw[e];simp,by rw[e];simp,by rw[e];simp⟩;intro j g;have a:j<L w.ak:=(by grind [aH6]);have e:gd (aH6 w).bW.ak j=⟨-1,[]⟩:=aTg a;exact⟨by simp_all,by simp_all,by simp_all,by rw[e];intro i f;simp at f⟩;intro h;exact aNK rfl h;grind [aH6,aTg]
section
variable{w:J9}{l:List aP}
theorem aN4.si(h:aN4 w l):∀k,k<=L l->SI w (trS w l k) k
 |0,_=>SI.start h.wv
 |k+1,a=>by
  have b:=h.si k (by omega)
  have c:=h.st k a
  have e:trS w l (k+1)=oc w (trS w l k) (gd l k):=by grind [trS,nD]
  grind [SI.step,a7R,aN4.wv,aN4.ln]
theorem aN4.thr(h:aN4 w l){k:Nat}(a:k<L l):aF (L w.ay) (gd l k).aq:=by have b:=h.st k a;grind [be3,aOL,dX]
theorem aN4.cnt(h:aN4 w l){t:Nat}(c:t<L w.ay):∀k,k<=L l->gd (trS w l k).count t=bkk l t k
 |0,_=>by
  grind [aH6,aTg,trS,bkk]
 |k+1,a=>by
  have n:=h.cnt c k (by omega)
  have i:=h.st k a
  have b:=h.thr a
  have hs:=h.si k (by omega)
  have d:L (trS w l k).count=L w.ay:=by
   have:=hs.fit
   grind [fN]
  have e:trS w l (k+1)=oc w (trS w l k) (gd l k):=by grind [trS,nD]
  rw[e,aV8<|by omega]
  simp only[oc]
  rw[gdS]
  have j:=aWu hs.c0
  have f:=h.ln
  by_cases m:(gd l k).aq=(t:Int)
  ·grind [a6c,eM]
  ·have g:¬(gd l k).aq.toNat=t:=by have:=b.1;omega
   simp_all
theorem a7P(h:aN4 w l){i m:Nat}{st:Int}:∀k,k<=m->cY ⟨w,st,trS w l i,(l.drop i).take m⟩ k=trS w l (i+k)
 |0,_=>rfl
 |k+1,a=>by
  have b:=a7P h (i:=i) (m:=m) (st:=st) k (by omega)
  grind [cY,gd,trS]
theorem aWv{i m k:Nat}(a:k<m):gd ((l.drop i).take m) k=gd l (i+k):=by grind [gd]
theorem a63(h:aN4 w l){i m k:Nat}{st:Int}(r:i<=L l)(D:k<m)(v:i+k<L l){t n:Int}(e:aF (L w.ay) t)(s:aOE l (i+k) t n):qU ⟨w,st,trS w l i,(l.drop i).take m⟩ t n=U:=by obtain⟨j,z,p,A,B⟩:=s;obtain⟨a,rfl⟩:∃a:Nat,t=a:=⟨t.toNat,by have:=e.1;omega⟩;have f:a<L w.ay:=(by have:=e.2;omega);have C:=h.cnt f i r;unfold qU;simp only[bh];rcases Decidable.em (n<gd (trS w l i).count a) with c|c;simp[c];have u:i<=j:=(by rcases Nat.lt_or_ge j i with b|b;exfalso;have:bkk l a (j+1)<=bkk l a i:=(by obtain⟨d,rfl⟩:∃d,i=j+1+d:=⟨i-(j+1),by omega⟩;simp_all [a6b]);grind [aV8];exact b);obtain⟨d,rfl⟩:∃d,j=i+d:=⟨j-i,by omega⟩;have q:d<m:=(by omega);have g:bkk ((l.drop i).take m) a d=bkk (l.drop i) a d:=(by grind [bkk]);have x:=@a6b l a i d;have o:=a6Y a ((l.drop i).take m) d 0 (by simp only[gC,oz];omega) (by rw[aWv q];exact p);have y:oV ⟨w,st,trS w l i,(l.drop i).take m⟩ a (n-gd (trS w l i).count a)=(d:Int):=(by unfold oV;simp only;rw[show n-gd (trS w l i).count a=((bkk ((l.drop i).take m) a d:Nat):Int) by rw[g];omega,o];simp);grind [aWv]
theorem bau{a:am}{t:Int}:bg a.init t->nO a t=U:=λh=>by
 simp only[nO,bN,j4]
 exact⟨dX.2 h.1,h.2⟩
theorem bhG(h:aN4 w l){i m:Nat}(u:i<=L l)(D:m<=16):bcV ⟨w,i,trS w l i,(l.drop i).take m⟩=U:=by have hs:=h.si i u;have A:=h.ln;have B:L ((l.drop i).take m)<=L l-i:=(by grind);have C:L ((l.drop i).take m)<=m:=(by grind);generalize e:(⟨w,i,trS w l i,(l.drop i).take m⟩:am)=W;have d:W.aQ=w:=(by rw[<-e]);have b:W.init=trS w l i:=(by rw[<-e]);have v:W.start=i:=(by rw[<-e]);have p:W.ac=(l.drop i).take m:=(by rw[<-e]);have n:∀t,bg (trS w l i) t->nO W t=U:=(by grind [bau]);simp only[bcV,oh,bN,eH,cP,fK,j4,j5];refine⟨⟨⟨⟨⟨⟨?_,?_⟩,?_⟩,?_⟩,?_⟩,?_⟩,?_,?_⟩;rw[d];exact h.wv;grind [SI.fit];grind;simp only[rM,bN,j4];rw[b,v,p,hs.sum];refine⟨λc o=>⟨hs.c0 c o,?_⟩,rfl,by omega⟩;obtain⟨j,a,rfl⟩:=ou o;have:=(aWu hs.c0 j).1;grind [SI.sum,bT];simp only[uZ,j4];rw[b];intro j a;have S:=hs.st j a;obtain⟨E,F⟩:=S.r;simp only[aOK,Eu,zX,d,b,bN,eH,cP,j5,bik,fK,beq_iff_eq];grind [StI.fr,StI.z,dX,StI.wt,StI.nw];simp only[ny,bN,j4,eH];refine⟨λj a=>?_,?_,λj a=>?_⟩;rw[b] at a;have Lw:=hs.lk j a;refine⟨?_,λk g=>?_⟩;simp only[AM,d,b,cP,bik,j5,fK,aNS];grind [LcI.ow,LcI.rd];rw[b] at g⊢;refine⟨n _<|Lw.rb _<|ig g,λf=>?_⟩;have:=Lw.inc (k-1) (by omega);grind;simp only[yS,b,bik,j5,aNS,fK];grind [SI.tx];rw[b] at a;have S:=hs.st j a;simp only[pX,d,b,bN,eH,bik,fK,cP,j5];refine⟨?_,?_⟩;grind [StI.at'];rcases Decidable.em ((gd (trS w l i).bW.ay j).cQ=3\/(gd (trS w l i).bW.ay j).cQ=4) with f|f;exact .inr (S.wt f).2;omega;rw[b];intro j a;have:=hs.fu j a;grind [Ae];rw[p];intro k g;have y:k<m:=(by omega);have x:i+k<L l:=(by omega);have q:gd W.ac k=gd l (i+k):=(by grind [aWv]);have s:cY W k=trS w l (i+k):=(by grind [a7P]);simp only[xH,q,s,d,cP,fK,j4];grind [aN4.st,a63,aN4.thr,aN4.dp,aN4.fr]
end
def aXL(s:sA):Lk s.c s.c:=⟨rfl,rfl⟩
def bfm{s:sA}(h:sz5 s):vH 0 s:=⟨⟨by rw[h.1];decide,by rw[h.2.1];decide,by rw[h.2.2.1];decide,λl b=>by have:=h.2.2.2.2.2.2.1 l b;omega⟩,by rw[h.2.2.2.1];decide,by rw[h.2.2.2.2.1];decide,by rw[h.2.2.2.2.2.1];decide,λc a=>by have:=h.2.2.2.2.2.2.2 c a;omega⟩
def w00:am:=⟨aNE,0,aH6 aNE,[]⟩
def bfG:bcV w00=U:=by kernel_rfl
def bfF:hU w00:=⟨by decide,by decide,by grind [w00],by decide⟩
def aWb(w:am):iX (.a w.c)=U:=by simp[iX,eN,am.c,sl]
def aXE(l:List Int)(n:Int)(hp:(∀x∈l,0<=x/\x<256)/\L l<4611686018427387904):Ct 21 [sl cu l,iv n] (λr=>∃w:am,r= .a w.c/\bcV w=U/\hU w/\((L w.ac:Int)<=n\/L w.ac=0)):=by obtain⟨hb,aZ⟩:=hp;generalize hQ:(λ(r:AV)=>∃w:am,r= .a w.c/\bcV w=U/\hU w/\((L w.ac:Int)<=n\/L w.ac=0))=Qq;refine aDq (bhv λs0 hl h0=>?_);simp only[a4B,qy 2];refine ic hl λv1 s2 F2 N2 b1=>?_;have aW:=F2.len.trans hl;refine btF (λb=>∀l':List Int,(∀x∈l',0<=x/\x<256)->L l'<4611686018427387904->b [sl cu l']) ?_ λb hj=>(by rcases q:Q ((400:Int)<(L l:Int)) with _|_;simp only[qz 11,u0,u1,q,bt,↓uL];exact hj l hb aZ;simp only[qz 11,u0,u1,q,bt,↓uL];rw[aIk (z:=1) (f:=cu) λ_=>rfl];have:=qc q;refine⟨(by omega),hj _ (by grind)<|by grind⟩);intro l' aP aq;have aR:bM btZ brF [(0,sl cu l')]=V (.a [sl cu l',iv 0]):=rfl;simp only[qz 9,qy 6,aI,au,aR,aY];refine bxL rfl (by decide) (by omega) λv5 s6 F6 N5 E=>?_;have T6:Tp s6 (16,v5) l' 0:=⟨E,by omega,aP,aq⟩;have X:=F6.len.trans aW;have aG:=F6.kq b1;have aQ:bM aOQ aP0 [(0, .a aNE.c)]=V (.a<|aNE.c++(iv 0::(bsk++[.l [] U U]))):=rfl;simp only[aWo,ar,u0,aQ,↓uL];refine⟨by simp[lo,nA],?_⟩;refine ic X λd bA aw N9 b9=>?_;refine r9 b9 rfl rfl λbb ax c9=>?_;have g:Fx s6 bb []:=(aw.trans ax).mono (by grind [bK.no]);have aC:=T6.fx g (by simp);have K:=g.len.trans X;have ah:=g.kq aG;have a9:∀{xs:List AV},aN (V 6) (aNE.c++xs)=V (.a aNE.c):=λ{xs}=>rfl;simp only[qz 8,u0,u1,c9,a9,aj,iy,↓uL];refine jH rfl (bdb K (.inr<|.inr rfl) aC) ?_;rintro _ bB ⟨s,a',rfl,m,aD,_,o⟩;refine⟨o.len,?_⟩;have ao:=o.len.trans K;have R:=o.kq c9;have aF:=o.kq ah;have fb:∀{y:ae} {j:Nat} {r:List AV},box y (6,d)=V ⟨43,15,U,U,[r]⟩->iQ j y (.p (6,d) 0 7)=V (.p (6,d) 0<|7+j):=(by grind [rR]);simp only[qz 10,aNI R,aY,↓uL];refine cy (y:=7) (cs:=s.c) R rfl rfl (by decide) λaf u aL=>?_;have aE:=aD.fx u (by simp);have ap:=u.len.trans ao;have aJ:=u.kq aF;have F:box af (6,d)=V ⟨43,15,U,U,[aNE.c++(iv 0::(s.c++[.l [] U U]))]⟩:=aL;have a7:∀{y:ae} {st:Int} {e:AV},box y (6,d)=V ⟨43,15,U,U,[aNE.c++(iv st::(s.c++[e]))]⟩->vl J y (.p (6,d) 0 13)=V (sl ci s.count):=λ{y st e} h=>(by rw[aC5,h];rfl);have l6:∀{y:ae} {st:Int} {e:AV},box y (6,d)=V ⟨43,15,U,U,[aNE.c++(iv st::(s.c++[e]))]⟩->vl J y (.p (6,d) 0 6)=V (iv st):=λ{y st e} h=>(by rw[aC5,h];rfl);have l7:∀{y:ae} {st:Int} {e:AV},box y (6,d)=V ⟨43,15,U,U,[aNE.c++(iv st::(s.c++[e]))]⟩->vl (V 7) y (.p (6,d) 0 7)=V (.a s.c):=λ{y st e} h=>(by rw[aC5,h];rfl);have l0:∀{y:ae} {r:List AV},box y (6,d)=V ⟨43,15,U,U,[aNE.c++r]⟩->vl (V 6) y (.p (6,d) 0 0)=V (.a aNE.c):=λ{y r} h=>(by rw[aC5,h];rfl);have O:∀{Y:ae} {l:List Int},fS Y (sl ci l)=V (iv<|L l):=cT;have bw:L s.count<1000:=(by rw[m.2.2.2.2.2.1];decide);simp only[qz 12,aNI F,fb F,a7 F,O,aY,Nat.reduceAdd,↓uL];refine yV (L s.count) (λ_ _ y=>(∃st:Int,box y (6,d)=V ⟨43,15,U,U,[aNE.c++(iv st::(s.c++[.l [] U U]))]⟩)/\Fx af y [(6,d)]) (by grind [Fx.refl]) ?_;rintro k _ y hk ⟨⟨st,i⟩,M⟩;rcases q1:Q ((k:Int)<(L s.count:Int)) with _|_;simp only[qz 49,aI,au,av4,aY,q1,↓iB,aNI i,l7 i,l0 i,aRW,aXT,↓uL];generalize ab:(if(16:Int)<(if(0:Int)>n then 0 else n) then(16:Int) else(if(0:Int)>n then 0 else n))=n';have av:n'<=16:=(by omega);have bx:n'<=n\/n'<=0:=(by by_cases h0:(0:Int)>n;right;rw[<-ab,f8 h0];simp;left;rw[<-ab,dB h0];split<;>omega);have aa:=M.len.trans ap;have Ty:=aE.fx M (by simp);refine jH rfl (bdm aa rfl Ty (aXL s) (bfm m) m.2.2.2.1 m.2.2.2.2.1 m.2.2.2.2.2.1 av) ?_;rintro _ y2 ⟨G,rfl,an,W,N⟩;refine⟨N.len,?_⟩;have T:=N.kq i;have aK:=N.kq<|M.kq aJ;simp only[qz 16,aNI T,aY,↓uL];refine A0 T rfl (by simp[J9.c,sA.c]) λy3 F3 b3=>?_;have P:=F3.kq aK;have aX:L y3=4096:=F3.len.trans<|N.len.trans aa;have d3:box y3 (6,d)=V ⟨43,15,U,U,[am.c ⟨aNE,st,s,G⟩]⟩:=b3;have ad:∀{w:am},aN (V 15) w.c=V (.a w.c):=λ{w}=>rfl;have H:hU ⟨aNE,st,s,G⟩:=⟨by show L aNE.bC<_;decide,λq hq=>by have:=m.2.2.2.2.2.2.1 q hq;omega,λe he=>⟨by have:=(W e he).1;omega,by have:=(W e he).2;omega⟩,by show L s.bU<_;rw[m.2.2.2.2.1];decide⟩;simp only[qz 18,qy 24,u0,u1,d3,ad,iy,aWo,ar,rr,↓uL];refine⟨H,λbz=>?_,λa0=>?_⟩;refine⟨by simp[lo,nA],by simp[lo,nA],?_⟩;refine jH rfl (aXI (w:=aNE) aX (by decide) (by decide) (by decide)<|by decide) ?_;rintro _ y4 ⟨a1,v,A,B,C,D,rfl,S,F4⟩;refine⟨F4.len,?_⟩;have al:bM aOQ aP0 [(0, .a aNE.c),(2, .a [a1,iv<|-1,v,A,B,C,D])]=V (.a<|aNE.c++(iv 0::([a1,iv<|-1,v,A,B,C,D]++[.l [] U U]))):=rfl;have ba:aN (V 15) (aNE.c++(iv 0::([a1,iv<|-1,v,A,B,C,D]++[.l [] U U])))=V (.a<|aNE.c++(iv 0::([a1,iv<|-1,v,A,B,C,D]++[.l [] U U]))):=rfl;simp only[qz 20,qy 22,al,aY,↓uL];refine r9 (F4.kq P) rfl rfl λy5 F5 E=>?_;have t:=S.keep F5 (by simp);simp only[u0,u1,E,ba,iy,↓uL];have hf:(aNE.c++(iv 0::([a1,iv<|-1,v,A,B,C,D]++[.l [] U U]))).map (fz y5)=w00.c:=(by simp only[dg,ji,mU,aBr t.g1,aBr t.g2,aBr t.g3,aBr t.g4,aBr t.g5,aBr t.g6];rfl);refine aOv (v':= .a w00.c) (brv AV.a hf) (aWb _) ?_;rw[<-hQ];exact⟨w00,rfl,bfG,bfF, .inr rfl⟩;refine r9 P rfl rfl λy5 F5 E=>?_;simp only[u0,u1,E,ad,↓uL];refine aOv (v':= .a<|am.c ⟨aNE,st,s,G⟩) rfl (aWb _) ?_;rw[<-hQ];exact⟨_,rfl,by simpa using a0,H,by have:=an.2;show(L G:Int)<=n\/L G=0;omega⟩;have Z:k<L s.count:=(by simp_all);simp only[qz 49,aI,au,av4,aY,q1,↓iC,amX,ci,qM,aNI i,l6 i,cS,↓uL];refine⟨dJ Z,?_⟩;refine A0 i rfl (by simp[J9.c,sA.c]) λy2 F2 b2=>?_;simp only[qz 14,au,cS,aY,↓uL];exact yU Z ⟨⟨_,b2⟩,(M.trans F2).mono<|by simp⟩
def aSj:FT:=pn aXE
def bcl{l n Lw K}:=f211 aSj aXE l n Lw K (j:=by simp+contextual only[ij,aQZ])
def a7J:dO:=(21,aSj)::a7I
def aX7:eJ a7J:=sz (aN0 aXE)<|a7s
def aQW:=ai @bcl<|@aWo
section
attribute[local irreducible] aX
def a9Q:=I5 20 [(10,([5],[1,4]))]
def aSG a b R:=(.mk _:NR a7J a9Q Tryz.f61 [.u] [a] b R).p
def bhp{c0:List AV}{R:cC}(l0:L c0=7)(h:H1 75 7 1 c0 λia b=>aSG ia b R):Ct 61 [.a c0] R:=z1 a9Q aX7 Tryz.func61 l0 h
def a9U:=I5 9 [(4,([6],[1,2,4,5]))]
def aVy a a1 b R:=(.mk _:NR a7J a9U Tryz.f62 [.u,a1] [a] b R).p
def bhs{c0:List AV}{a1:AV}{R:cC}(l0:L c0=7)(h:H1 75 7 2 c0 λia b=>aVy ia a1 b R):Ct 62 [.a c0,a1] R:=z1 a9U aX7 Tryz.func62 l0 h
end
def a6N{Y:ae}{w:J9}(h:L Y=4096)(d:L w.cells<=1000)(e:L w.ak<=100)(f:L w.bU<=100)(g:L w.ay<=100):∃r b,(r= .a (aH6 w).c/\Fx Y b [])/\cZ aS GG 57 [.a w.c] Y r b:=by refine aQR (aXI h d e f g) ?_;rintro _ b ⟨a1,j,k,l,m,n,rfl,S,F⟩;refine⟨?_,(F.trans<|aOp _ _).mono λq i=> .inr (S.ids q i).1.no⟩;show AV.a (List.map gK<|List.map (gi b) _)=_;rw[vA];exact brv AV.a S.lz
def bfk{w:J9}(h:mQ w=U):vH 0 (aH6 w):=by obtain⟨d,e,f,g,i,j⟩:=aP4 h;refine⟨⟨by simp[aH6];omega,by simp[aH6];omega,by simp[aH6,qZ];omega,λl b=>?_⟩,by simp[aH6];omega,by simp[aH6];omega,by simp[aH6];omega,λc a=>?_⟩;rw[aXY b];simp;rw[aXY a];simp
def aTz{w:J9}{l:List aP}(h:mQ w=U):∀k,k<=90000->vH k (trS w l k)|0,_=>bfk h|k+1,a=>(aTz h k<|by omega).step (by omega)
theorem bcA{ds:List AV}{s:sA}(h:Lk ds s.c)(Y:ae):fzT Y (.a ds)= .a s.c:=by have b:=h.fd Y;have d:ds.map (fz Y)=(ds.map<|dQ Y).map gK:=(by rw[vA];rfl);show AV.a (ds.map<|fz Y)=_;rw[d,b,h.1]
theorem aR0{ds:List AV}{s:sA}(h:Lk ds s.c):aN (V 7) ds=V (.a ds):=Bi<|oC h
theorem ba9(s:sA):iX (.a s.c)=U:=by simp[iX,eN,sA.c,sl]
def aYr(w:J9)(l:List aP)(k:Nat):Prop:=∀j,j<k->be3 w (trS w l j) (gd l j)=U/\(∀n∈(gd l j).dI,aOE l j (gd l j).aq n)/\∀n∈(gd l j).ep,aOE l j (gd l j).aq n
def aXx(t:aOx)(hp:L t.ac<1000000/\∀e∈t.ac,EvL e):Ct 61 [.a t.c] (λr=>∃i e:Int,r= .t [iv i,iv e]/\(e=0->aN4 t.aQ t.ac)):=by obtain⟨N,ak⟩:=hp;generalize hQ:(λ(r:AV)=>∃i e:Int,r= .t [iv i,iv e]/\(e=0->aN4 t.aQ t.ac))=Qq;refine aDq (bhp rfl λs2 hl b h0=>?_);show aSG (.p (1,1) 0 0) s2 λr=>Qq<|bm1 r;have aW:∀{i e:Int},(e=0->aN4 t.aQ t.ac)->Qq (bm1<|.t [iv i,iv e]):=λ{i e} h=>(by rw[<-hQ];exact⟨i,e,rfl,h⟩);have aw:∀{y:ae} {i e:Int},(e=0->aN4 t.aQ t.ac)->aE (λr=>Qq<|bm1 r) y [iv i,iv e]:=λ{y i e} h=>aOH (vs':=[iv i,iv e]) rfl rfl (by rw[<-hQ];exact⟨i,e,rfl,h⟩);have lE:∀{y:ae},box y (1,1)=V ⟨75,7,U,U,[t.c]⟩->vl J y (.p (1,1) 0 6)=V (sl aP.c t.ac):=λ{y} h=>(by rw[aC5,h];rfl);have lW:∀{y:ae},box y (1,1)=V ⟨75,7,U,U,[t.c]⟩->vl (V 6) y (.p (1,1) 0 0)=V (.a t.aQ.c):=λ{y} h=>(by rw[aC5,h];rfl);have g:∀{y:ae},fS y (sl aP.c t.ac)=V (iv<|L t.ac):=cT;rcases q0:Q ((400:Int)<(L t.ac:Int)) with _|_;rotate_left;simp only[aSG,aNI b,lE b,g,av1,aY,q0,↓iC,↓uL];simp_all;have an:L t.ac<=400:=(by grind);simp only[aSG,aNI b,lE b,lW b,g,av1,aY,q0,↓iB,aQW,ar,rr,aIN,↓uL];rcases hv:mQ t.aQ with _|_;simp only[kN,iC];simp_all;obtain⟨z1,z2,z3,z4,z5,z6⟩:=aP4 hv;simp only[fh,iB];refine jH rfl (a6N hl (by omega) (by omega) (by omega)<|by omega) ?_;rintro _ a4 ⟨rfl,m⟩;refine⟨m.len,?_⟩;have w:=m.len.trans hl;have S:=m.kq b;simp only[qz 4,qy 6,qy 8];refine ic w λv4 a5 G N4 b4=>?_;refine r9 b4 rfl rfl λa6 H c4=>?_;have T:=H.kq<|G.kq S;have X:=H.len.trans<|G.len.trans w;refine yV (L t.ac) (λk _ y=>box y (1,1)=V ⟨75,7,U,U,[t.c]⟩/\(∃ds,box y (4,v4)=V ⟨40,7,U,U,[ds]⟩/\Lk ds (trS t.aQ t.ac k).c)/\L y=4096/\aYr t.aQ t.ac k) ⟨T,⟨_,c4,aXL _⟩,X,λj d=>aNK d<|Nat.not_lt_zero _⟩ ?_;rintro k _ y hk ⟨q,⟨ds,d4,E⟩,O,D⟩;rcases q1:Q ((k:Int)<(L t.ac:Int)) with _|_;simp only[qz 61,qy 10,aI,au,aNI q,lE q,g,av4,aY,q1,↓iB,↓uL];have al:k=L t.ac:=(by grind);subst al;exact aw λ_=>⟨hv,an,λj d=>(D j d).1,λj d=>(D j d).2.1,λj d=>(D j d).2.2⟩;have x:k<L t.ac:=(by simp_all);have P:∀{e:aP},aN (V 7) e.c=V (.a e.c):=rfl;simp only[qz 61,qy 10,aI,au,aNI q,lE q,g,av4,aY,q1,↓iC,aCh,aC6,P,bh,↓uL];refine⟨dJ x,?_⟩;have u:=ak _<|ig x;generalize he:gd t.ac k=e at u;refine ic O λA y1 R N6 c6=>?_;refine r9 c6 rfl rfl λy2 G2 K=>?_;have s:=G2.kq<|R.kq q;have M:=G2.kq<|R.kq d4;have z:=G2.len.trans<|R.len.trans O;have ad:∀{Y:ae},dG Y (.a ds)= .a (trS t.aQ t.ac k).c:=λ{Y}=>E.arg Y;obtain⟨p2,p3,p4,p5,p6,p7,p8⟩:=(aTz (l:=t.ac) hv k<|by omega).snB (by omega);simp only[qz 12,qy 14,aNI s,lW s,u0,u1,M,K,aR0 E,P,iy,aQW,ar,ad,↓uL];refine⟨⟨by omega,p2,p3,p4,p5,p6,p7,p8,by have:=u.1;omega,by have:=u.2;omega⟩,?_⟩;rintro _ ⟨cs,rfl,v⟩;refine⟨.inl (by simp[nA,x9 E];simp[eB,iR,aP.c,J9.c,sl]),?_⟩;simp only[oJ,pG,aY];refine ic z λv7 y3 B N7 c7=>?_;refine r9 c7 rfl (oC v) λF C af=>?_;have f:=C.kq<|B.kq s;have ag:=C.kq<|B.kq M;have o:=C.kq<|B.kq K;have Z:=C.len.trans<|B.len.trans z;have g0:∀{j:Nat},iQ j F (.p (6,A) 0 0)=V (.p (6,A) 0 j):=(by grind [rR]);have g1:vl J F (.p (6,A) 0 0)=V (iv e.aq):=(by rw[aC5,o];rfl);have g5:vl J F (.p (6,A) 0 5)=V (sl ci e.dI):=(by rw[aC5,o];rfl);have g6:vl J F (.p (6,A) 0 6)=V (sl ci e.ep):=(by rw[aC5,o];rfl);rcases a1:be3 t.aQ (trS t.aQ t.ac k) e with _|_;simp only[qz 16,au,aIN,u0,↓jN,aUw,bt,↓uL];simp_all;simp only[qz 16,au,aIN,u0,↓jA,a7c,aNI f,lE f,g0,g1,g5,aQW,ar,rr,↓uL];have a0:∀(b W:Bool),(b=U->∀n∈e.dI,aOE t.ac k e.aq n)->(W=U->∀n∈e.ep,aOE t.ac k e.aq n)->b=U->W=U->aYr t.aQ t.ac (k+1):=λb W h1 h2 h3 h4 j d=>(by rcases Nat.lt_succ_iff_lt_or_eq.1 d with h|rfl;exact D j h;simp_all);refine⟨⟨by omega,N,by have:=u.1;omega⟩,?_⟩;rintro _ ⟨r1,rfl,a2⟩;refine⟨.inl (by simp[nA,eB,iR,sl]),?_⟩;cases r1 with|false=>simp only[aIN,aY,aMZ,kN,fh,aBA,jN,aUw,iC];simp_all|true=>simp only[aIN,aY,aMZ,kN,fh,aBA,jA,lE f,g1,g6,aQW,ar];refine⟨⟨by omega,N,by have:=u.2;omega⟩,?_⟩;rintro _ ⟨r2,rfl,a3⟩;refine⟨.inl (by simp[nA,eB,iR,sl]),?_⟩;cases r2 with|false=>simp only[aIN,aY,kN,a7c,iC];simp_all|true=>simp only[aIN,aY,fh,a7c,iB,u1,af,aR0 v,iy];refine r9 ag (oC E) (oC v) λy5 G5 c5=>?_;simp only[qz 18,au,cS,aY,↓uL];refine yU x ⟨G5.kq f,⟨cs,c5,?_⟩,G5.len.trans Z,by simp_all⟩;grind [trS]
def aUo:FT:=om aXx
def bcf{t Lw K}:=f111 aUo aXx t Lw K (j:=by simp+contextual only[ij,ijv])
def aXA(t:aOx)(n:Nat)(hp:aN4 t.aQ t.ac/\n<=L t.ac/\∀e∈t.ac,EvL e):Ct 62 [.a t.c,iv n] (·= .a (trS t.aQ t.ac n).c):=by obtain⟨B,hn,C⟩:=hp;have K:=B.wv;have av:=B.ln;obtain⟨z1,z2,z3,z4,z5,z6⟩:=aP4 K;refine aDq (bhs rfl λs2 E S h0=>?_);show aVy (.p (2,1) 0 0) (iv n) s2 λr=>bm1 r= .a (trS t.aQ t.ac n).c;have lE:∀{y:ae},box y (2,1)=V ⟨75,7,U,U,[t.c]⟩->vl J y (.p (2,1) 0 6)=V (sl aP.c t.ac):=λ{y} h=>(by rw[aC5,h];rfl);have M:∀{y:ae},box y (2,1)=V ⟨75,7,U,U,[t.c]⟩->vl (V 6) y (.p (2,1) 0 0)=V (.a t.aQ.c):=λ{y} h=>(by rw[aC5,h];rfl);simp only[aVy];refine ic E λv4 R v N4 W=>?_;have i:=v.len.trans E;have d:=v.kq S;simp only[qz 4,aNI d,M d,aY,↓uL];refine jH rfl (a6N i (by omega) (by omega) (by omega)<|by omega) ?_;rintro _ s8 ⟨rfl,j⟩;refine⟨j.len,?_⟩;have G:=j.len.trans i;simp only[qz 6,qy 8,qy 10];refine ic G λg aw q N9 X=>?_;refine r9 X rfl rfl λP s c9=>?_;have w:Fx R P [(5,g)]:=(j.trans q).trans s;refine yV n (λk _ y=>Fx R y [(5,g)]/\∃ds,box y (5,g)=V ⟨40,7,U,U,[ds]⟩/\Lk ds (trS t.aQ t.ac k).c) ⟨w,_,c9,aXL _⟩ ?_;rintro k _ y hk ⟨F,ds,z,b⟩;have m:=F.kq d;have d4:=F.kq W;have O:∀{e:aP},aN (V 7) e.c=V (.a e.c):=rfl;rcases N:Q ((k:Int)<(n:Int)) with _|_;have D:k=n:=(by grind);subst D;simp only[qz 25,qy 14,aI,au,av4,aY,N,↓iB,u1,z,aR0 b,aj,iy,↓uL];refine r9 d4 rfl (oC b) λy2 u T=>?_;simp only[u0,u1,T,aR0 b,↓uL];grind [aQ7,bcA,ba9];have H:k<n:=(by simp_all);have f:k<L t.ac:=(by omega);have x:∀{Y:ae},dG Y (.a ds)= .a (trS t.aQ t.ac k).c:=λ{Y}=>b.arg Y;obtain⟨p2,p3,p4,p5,p6,p7,p8⟩:=(aTz (l:=t.ac) K k<|by omega).snB (by omega);have o:=C _<|ig f;have l9:vl (V 7) y (.p (5,g) 0 0)=V (.a ds):=(by grind [aC5,aR0]);simp only[qz 25,qy 14,aI,au,av4,aY,N,↓iC,aNI m,M m,lE m,l9,aCh,aC6,O,bh,↓uL];refine⟨dJ f,?_⟩;generalize he:gd t.ac k=e at o;simp only[aQW,ar,x];refine⟨⟨by omega,p2,p3,p4,p5,p6,p7,p8,by have:=o.1;omega,by have:=o.2;omega⟩,?_⟩;rintro _ ⟨cs,rfl,A⟩;refine⟨.inl (by simp[nA,x9 b];simp[eB,iR,aP.c,J9.c,sl]),?_⟩;simp only[oJ,pG,aY];refine r9 z (oC b) (oC A) λy2 u Z=>?_;simp only[qz 12,↓uL];refine dT (by simp[eL,lb,Qh,gz,dC,dK]) ?_;simp only[au,cS,aY];refine yU H ⟨(F.trans u).mono (by simp),cs,Z,?_⟩;grind [trS]
def aUq:FT:=aIc aXA
def bci{t n Lw K}:=f210 aUq aXA t n Lw K (j:=by simp+contextual only[ij,ijv,Int.natCast_inj])
def a7K:dO:=(61,aUo)::(62,aUq)::a7J
def a7t:eJ a7K:=sz (rj aXx)<|sz (aCb aXA)<|aX7
def aWp:=ai @bcf<|ai @bci<|@aQW
section
attribute[local irreducible] aX
def a9T:=I5 16 [(11,([8,9],[1,2]))]
def aVw a a1 b R:=(.mk _:NR a7K a9T Tryz.f23 [.u,a1] [a] b R).p
def bhr{c0:List AV}{a1:AV}{R:cC}(l0:L c0=7)(h:H1 75 7 2 c0 λia b=>aVw ia a1 b R):Ct 23 [.a c0,a1] R:=z1 a9T a7t Tryz.func23 l0 h
end
def aV1(n:Int)(l:List am):Prop:=∀w∈l,(bcV w=U/\hU w)/\(L w.ac:Int)<=n
def bhH{t:aOx}(a:aN4 t.aQ t.ac)(d:∀e∈t.ac,EvL e){i j:Nat}(g:i<=L t.ac)(k:j<=i+16):bcV ⟨t.aQ,i,trS t.aQ t.ac i,(t.ac.take j).drop i⟩=U/\hU ⟨t.aQ,i,trS t.aQ t.ac i,(t.ac.take j).drop i⟩:=by obtain⟨z1,z2,z3,m,n,o⟩:=aP4 a.wv;have c:=aTz (l:=t.ac) a.wv i (by have:=a.ln;omega);rw[List.drop_take];refine⟨bhG a g (by omega),by grind,λl h=>?_,λe f=>?_,?_⟩;have:=c.sy.rd l h;have:=a.ln;omega;have b:=d e<|List.mem_of_mem_drop<|List.mem_of_mem_take f;exact⟨by have:=b.1;omega,by have:=b.2;omega⟩;have:=c.fu;show L (trS t.aQ t.ac i).bU<_;omega
def spM(vs:List AV)(y:ae):Nat:=(1000-(match gt vs 1 with| .s (.int _ n)=>n|_=>0)).toNat
def aXz(t:aOx)(n:Int)(hp:L t.ac<1000000/\∀e∈t.ac,EvL e):Ct 23 [.a t.c,iv n] (λr=>∃(l:List am) (e:Int),r= .t [sl am.c l,iv e]/\aV1 n l):=by obtain⟨K,v⟩:=hp;generalize E:(λ(r:AV)=>∃(l:List am) (e:Int),r= .t [sl am.c l,iv e]/\aV1 n l)=Qq;refine aDq (bhr rfl λs2 Z C h0=>?_);show aVw (.p (2,1) 0 0) (iv n) s2 λr=>Qq<|bm1 r;have R:∀{y:ae},box y (2,1)=V ⟨75,7,U,U,[t.c]⟩->vl (V 7) y (.p (2,1) 0 0)=V (.a t.c):=λ{y} h=>(by rw[aC5,h];rfl);have lE:∀{y:ae},box y (2,1)=V ⟨75,7,U,U,[t.c]⟩->vl J y (.p (2,1) 0 6)=V (sl aP.c t.ac):=λ{y} h=>(by rw[aC5,h];rfl);have lW:∀{y:ae},box y (2,1)=V ⟨75,7,U,U,[t.c]⟩->vl (V 6) y (.p (2,1) 0 0)=V (.a t.aQ.c):=λ{y} h=>(by rw[aC5,h];rfl);have A:∀{y:ae},fS y (sl aP.c t.ac)=V (iv<|L t.ac):=cT;have d:∀{y:ae} {e:Int},aE (λr=>Qq<|bm1 r) y [.l [] U U,iv e]:=λ{y e}=>aOH (vs':=[sl am.c [],iv e]) rfl rfl (by rw[<-E];exact⟨[],e,rfl,by intro w s;simp at s⟩);simp only[aVw,R C,aY,aWp,ar,Fa,↓uL];refine⟨⟨K,v⟩,?_⟩;rintro _ ⟨i0,e0,rfl,u⟩;refine⟨.inl (by simp[nA,eB,iR,aOx.c,J9.c,sl]),?_⟩;simp only[oJ,pG,aY,av6];rcases q0:Q (e0≠0) with _|_;rotate_left;simp only[iC];exact d;have u:=u (by grind);have an:=u.ln;simp only[iB];rcases B:Q (n<1) with _|_;rotate_left;simp only[u0,u1,B,↓jN,aUw,bt,↓uL];exact d;rcases S:Q (16<n) with _|_;rotate_left;simp only[u0,u1,B,S,↓jA,bt,↓uL];exact d;have h1:1<=n:=(by simp_all);have ah:n<=16:=(by simp_all);simp only[u0,u1,B,S,↓jA,bt,↓uL];let b:aG:=λvs y=>∃(k:AV) (f:List am) (i:Nat),vs=[k,iv i]/\i<=500/\L f<=i/\aV1 n f/\gp y 43 15 k (f.map am.c)/\(∀q∈aA k,q.1=51)/\box y (2,1)=V ⟨75,7,U,U,[t.c]⟩/\L y=4096;refine⟨b,spM,⟨_,[],0,rfl,by omega,by simp,by intro w s;simp at s, .inl ⟨rfl,rfl⟩,by simp[aA],C,Z⟩,?_⟩;rintro _ y ⟨k,f,i,rfl,hi,ao,F,g,po,o,x⟩;generalize hI:b=I';rcases T:Q ((i:Int)<(L t.ac:Int)) with _|_;simp only[qz 67,qy 4,aI,au,ck,aNI o,lE o,A,av4,aY,T,↓iB,↓uL];refine aOH (vs':=[sl am.c f,iv 0]) (by simp only[ji,mU,aWs g];rfl) (by simp[iX,eN,sl]) ?_;rw[<-E];exact⟨f,0,rfl,F⟩;have O:i<L t.ac:=(by simp_all);have D:dq.wrap ((i:Int)+n)=(i:Int)+n:=(by grind [eM]);obtain⟨m,rfl⟩:∃m:Nat,n=m:=⟨n.toNat,by omega⟩;obtain⟨j,M,N,al⟩:∃j:Nat,(if(L t.ac:Int)<(i:Int)+m then(L t.ac:Int) else(i:Int)+m)=j/\j<=i+16/\i<=j/\j<=L t.ac:=(by split;grind;exact⟨i+m,by omega,by omega,by omega,by omega⟩);have s:=bhH u v (Nat.le_of_lt O) N;have G:bM aOQ aP0 [(0, .a t.aQ.c),(1,iv i),(2, .a (trS t.aQ t.ac i).c),(3,sl aP.c<|(t.ac.take j).drop i)]=V (.a<|am.c ⟨t.aQ,i,trS t.aQ t.ac i,(t.ac.take j).drop i⟩):=rfl;simp only[qz 67,qy 4,aI,au,ck,aNI o,lE o,lW o,R o,A,av4,cS,aY,T,↓iC,aWp,ar,Fa,D,aXT,M,slE,↓uL];refine⟨(by grind), .inl (by simp[nA,eB,iR,aOx.c,J9.c,sl]),(by omega),?_⟩;simp only[bh,G,aY];have z:(L (am.mk t.aQ i (trS t.aQ t.ac i)<|(t.ac.take j).drop i).ac:Int)<=m:=(by have:j<=i+m:=(by omega);show(L ((t.ac.take j).drop i):Int)<=m;rw[oz,gC];omega);generalize ak:(am.mk t.aQ i (trS t.aQ t.ac i)<|(t.ac.take j).drop i)=W at s z;have H:aX a72 1 y [(0, .a W.c)]=V (.l ([W].map am.c) U U,y):=ua rfl rfl rfl (by decide) (by simp[am.c,eN,sl]) (by decide);have aEx:∀{l:List am},∀r∈l.map am.c,L r=15:=qW (by intro _;rfl);simp only[H,bQ];refine apQ g x aEx aEx (by simp) (by simp;omega) λout' y2 g2 X p2=>?_;simp only[qz 6,↓uL];refine dT (by simp[eL,lb]) ?_;simp only[ck,cS,aY,D,↓uL];rw[<-hI];refine⟨⟨out',f++[W],i+m,by simp,by omega,by simp;omega,λw P=>?_,by grind [bc.p],λq hq=>(p2 q hq).2,(by grind [Fx.keep]),X.len.trans x⟩,?_⟩;rcases dF.1 P with h|h;exact F w h;simp at h;subst h;exact⟨s,z⟩;show(1000-((i:Int)+m)).toNat<(1000-(i:Int)).toNat;omega
def aUp:FT:=pn aXz
def bch{t n Lw K}:=f211 aUp aXz t n Lw K (j:=by simp+contextual only[ij,ijv])
def a7L:dO:=(23,aUp)::a7K
def a7u:eJ a7L:=sz (aN0 aXz)<|a7t
def aWq:=ai @bch<|@aWp
section
attribute[local irreducible] aX
def aZd a a1 s0 R:=(.mk _:NR a7L a8I Tryz.f22 [a,a1] [] s0 R).p
def bgh{a a1:AV}{R:cC}(h:H0 λs0=>aZd a a1 s0 R):Ct 22 [a,a1] R:=z0 a8I a7u Tryz.func22 h
end
def aWK(p:List Int)(s:List Int)(z:(∀x∈p,0<=x/\x<256)/\L p<4611686018427387904/\L s<=100):Ct 22 [sl cu p,sl cu s] (λr=>∃t:aOx,r= .a t.c/\L t.ac<=100/\∀e∈t.ac,EvL e):=by obtain⟨v,w,S⟩:=z;generalize T:(λ(r:AV)=>∃t:aOx,r= .a t.c/\L t.ac<=100/\∀e∈t.ac,EvL e)=Qq;refine aDq (bgh λs0 k R=>?_);simp only[aZd];refine ic k λZ W l O m=>?_;have g:=l.len.trans k;simp only[qz 2,qy 4,aWq,ar];refine⟨⟨v,w⟩,?_⟩;rintro _ ⟨c,rfl,y⟩;refine⟨.inl (by simp[nA,eB,iR,sl]),?_⟩;simp only[Fa];refine⟨by omega,?_⟩;rintro _ ⟨cs,rfl,D⟩;refine⟨.inl (by simp[nA,eB,iR,sl]),?_⟩;simp only[aWq,ar];refine⟨⟨y,by omega⟩,?_⟩;rintro _ ⟨t,st,rfl,E,F⟩;refine⟨.inl (by simp[nA,eB,iR,sl,aBY.c,J9.c]),?_⟩;simp only[oJ,pG,aY];refine ic g λv8 X h P n=>?_;refine ic (h.len.trans g) λN G b B i=>?_;simp only[qz 6,qy 8];refine r9 (b.kq n) rfl rfl λH d o=>?_;refine r9 (d.kq i) rfl rfl λK f C=>?_;have j:=f.kq o;have q:=f.kq<|d.kq<|b.kq<|h.kq m;have rt:aN (V 7) t.c=V (.a t.c):=rfl;simp only[qz 10,qy 12,u0,u1,j,rt,iy,↓uL];refine r9 q rfl rfl λM A u=>?_;simp only[u0,u1,u,rt,↓uL];refine aOv (v':= .a t.c) rfl (by simp[iX,eN,aOx.c,J9.c,sl]) ?_;grind
def aTW:FT:=pn aWK
def bbs{p s Lw K}:=f211 aTW aWK p s Lw K (j:=by simp+contextual only[ij,aQZ])
def a7M:dO:=(22,aTW)::a7L
def a7v:eJ a7M:=sz (aN0 aWK)<|a7u
def aRP:=ai @bbs<|@aWq
section
attribute[local irreducible] aX
def a9W:=I5 10 []
def aVB a a1 b R:=(.mk _:NR a7M a9W Tryz.f7 [.u,a1] [a] b R).p
def bhu{c0:List AV}{a1:AV}{R:cC}(l0:L c0=5)(h:H1 24 5 2 c0 λia b=>aVB ia a1 b R):Ct 7 [.a c0,a1] R:=z1 a9W a7v Tryz.func7 l0 h
end
structure aOA where
 p:List Int
 s:List Int
 c:List Int
 z:Int
 w:Int
 deriving Inhabited
def aOA.cs(v:aOA):List AV:=[sl cu v.p,sl cu v.s,sl cu v.c, .s<|.int .u8 v.z, .s<|.int .u8 v.w]
def ByL(l:List Int):Prop:=(∀x∈l,0<=x/\x<256)/\L l<4611686018427387904
structure aSr(v:aOA):Prop where
 p:ByL v.p
 s:ByL v.s
 c:ByL v.c
 z:0<=v.z/\v.z<256
 w:0<=v.w/\v.w<256
def bcQ{v v':aOA}:(v.cs=v'.cs)=(v=v'):=by(cases v;cases v');simp only[aOA.cs,kO,aQZ,AV.s.injEq,Value.int.injEq,aOA.mk.injEq,ip,zp]
def aYl{w:am}:aN (V 15) w.c=V (.a w.c):=rfl
def aXD(v:aOA)(n:Int)(hp:aSr v/\1<=n/\n<=16):Ct 7 [.a v.cs,iv n] (λr=>∃w:am,r= .a w.c/\bcV w=U/\hU w/\(L w.ac:Int)<=n):=by obtain⟨B,aN,az⟩:=hp;generalize hQ:(λ(r:AV)=>∃w:am,r= .a w.c/\bcV w=U/\hU w/\(L w.ac:Int)<=n)=Qq;refine aDq (bhu rfl λs2 hl b1 h0=>?_);show aVB (.p (2,1) 0 0) (iv n) s2 λr=>Qq<|bm1 r;simp only[aVB];refine ic hl λM s4 N N4 R=>?_;have ab:=N.len.trans hl;have d:=N.kq b1;have l0:∀{y:ae},box y (2,1)=V ⟨24,5,U,U,[v.cs]⟩->vl J y (.p (2,1) 0 0)=V (sl cu v.p):=λ{y} h=>(by rw[aC5,h];rfl);have l1:∀{y:ae},box y (2,1)=V ⟨24,5,U,U,[v.cs]⟩->vl J y (.p (2,1) 0 1)=V (sl cu v.s):=λ{y} h=>(by rw[aC5,h];rfl);have l2:∀{y:ae},box y (2,1)=V ⟨24,5,U,U,[v.cs]⟩->vl J y (.p (2,1) 0 2)=V (sl cu v.c):=λ{y} h=>(by rw[aC5,h];rfl);have H:∀{y:ae},box y (2,1)=V ⟨24,5,U,U,[v.cs]⟩->vl J y (.p (2,1) 0 3)=V (.s<|.int .u8 v.z):=λ{y} h=>(by rw[aC5,h];rfl);have l4:∀{y:ae},box y (2,1)=V ⟨24,5,U,U,[v.cs]⟩->vl J y (.p (2,1) 0 4)=V (.s<|.int .u8 v.w):=λ{y} h=>(by rw[aC5,h];rfl);have hz:=B.z;have hw:=B.w;have X:dq.wrap v.z=v.z:=(by grind [eM]);have W:dq.wrap v.w=v.w:=(by grind [eM]);have aL:=Int.tmod_nonneg n hz.1;have aM:=Int.tmod_lt_of_pos v.z (show 0<n by omega);have T:dq.wrap (1+v.z.tmod n)=1+v.z.tmod n:=(by grind [eM]);have O:∀{Y:ae},dG Y (.l [] U U)=sl cu []:=rfl;have o:∀{y:ae} {w:am},bcV w=U->hU w->(L w.ac:Int)<=n->box y (4,M)=V ⟨43,15,U,U,[aOQ]⟩->sV (aK 15 y (.p (4,M) 0 0)<|.a w.c) λE=>rV (vl (V 15) E<|.p (4,M) 0 0) λao=>aE (λr=>Qq<|bm1 r) E [ao]:=λ{y w} u A G hb=>(by refine r9 hb rfl rfl λz F b=>?_;simp only[u0,u1,b,aYl,iy];refine aOv (v':= .a w.c) rfl (aWb _) ?_;rw[<-hQ];exact⟨w,rfl,u,A,G⟩);rcases q0:Q ((0:Int)<(L v.c:Int)) with _|_;rotate_left;simp only[qz 4,qy 6,qy 8,aNI d,l2 d,H d,a6S,av1,aY,q0,↓iC,aS6,X,aPR,aP1,cS,T,aRP,ar,↓uL];refine⟨by omega,B.c,?_⟩;rintro _ ⟨w,rfl,u,A,G⟩;exact⟨.inl (by simp[nA,eB,iR,sl]),o u A (by omega) R⟩;simp only[qz 4,qy 6,qy 8,aNI d,l0 d,l1 d,l2 d,H d,a6S,av1,aY,q0,↓iB,aXT,↓uL];rw[aIk (z:=1) (f:=cu) λ_=>rfl];refine⟨(by omega),?_⟩;generalize hk:(if(80:Int)<(L v.s:Int) then(80:Int) else(L v.s:Int))=k;have ay:k<=80:=(by omega);simp only[aRP,ar];refine⟨⟨B.p.1,B.p.2,by grind⟩,?_⟩;rintro _ ⟨t,rfl,aO,ag⟩;refine⟨.inl (by simp[nA,eB,iR,sl]),?_⟩;refine ic ab λap aP C aJ P=>?_;refine r9 P rfl rfl λan D S=>?_;have i:=D.kq<|C.kq d;have m:=D.kq<|C.kq R;have lt:vl (V 7) an (.p (5,ap) 0 0)=V (.a t.c):=(by rw[aC5,S];rfl);simp only[qz 10,qy 12,qy 14,↓uL];refine dT (by simp[eL,lb,Qh,gz,dC,dK,sl]) ?_;simp only[aNI i,H i,l4 i,lt,aY,aS6,X,W,aPR,aP1,cS,T,aRP,ar,Fa,↓uL];refine⟨by omega,⟨by omega,ag⟩,?_⟩;rintro _ ⟨g,e,rfl,hW⟩;refine⟨.inl (by simp[nA,eB,iR,aOx.c,J9.c,sl]),?_⟩;have ak:∀{y:ae},fS y (sl am.c g)=V (iv<|L g):=cT;simp only[oJ,pG,aY,ak,iM];rcases q1:Q ((L g:Int)=0) with _|_;rotate_left;simp only[iC,aRP,O];refine⟨⟨by simp,by simp⟩,?_⟩;rintro _ ⟨w,rfl,u,A,G⟩;exact⟨.inl (by simp[nA,eB,iR]),o u A (by omega) m⟩;have h0:0<L g:=(by grind);have ad:=Int.tmod_nonneg (L g:Int) hw.1;have af:=Int.tmod_lt_of_pos v.w (show(0:Int)<L g by omega);have Z:∀{x:ae} {j:Int} {K:cC},rV (cz 15 x (sl am.c g)<|iv j) K=(aF (L g) j/\K (.q<|am.c<|gd g j.toNat)):=aBz λ_=>rfl;simp only[iB,aPR,aP1,Z,aC6,aYl,aY];have h:=hW _ (ig<|show(v.w.tmod (L g:Int)).toNat<L g by omega);exact⟨by omega,⟨ad,af⟩,o h.1.1 h.1.2 (by have:=h.2;omega) m⟩
def aUs:FT:=pn aXD
def bck{v n Lw K}:=f211 aUs aXD v n Lw K (j:=by simp+contextual only[ij,bcQ])
def a7N:dO:=(7,aUs)::a7M
def aX8:eJ a7N:=sz (aN0 aXD)<|a7v
def a6u:=ai @bck<|@aRP

def r15{w:am}:aN (V 15) w.c=V (.a w.c):=rfl
def bnm{l:List cJ}:∀r∈l.map cJ.c,L r=6:=by intro r a;obtain⟨y,_,rfl⟩:=List.mem_map.1 a;rfl
def a7h(g:cJ)(f o:Bool):List AV:=[iv g.kind,iv g.ea,iv g.eb,iv g.ec,iv g.ed, .l (g.cW.map ci) f o]
def buP:dO:=a7N
def bxH:eJ buP:=aX8
def bwC:=@a6u

def buQ:dO:=buP
def bxJ:eJ buQ:=bxH
def bwD:=@bwC

def aN6{α:Type}(f:α->α->Bool):List α->List α->Bool|[],[]=>U|a::l,b::m=>f a b&&aN6 f l m|_,_=>I
theorem aOC{α:Type}{f:α->α->Bool}(c:∀a b,f a b=U->a=b):∀{l m:List α},aN6 f l m=U->l=m
 |[],[],_=>rfl
 |a::l,b::m,h=>by
  simp only[aN6,bN] at h
  rw[c a b h.1,aOC c h.2]
 |[],_::_,h=>by cases h
 |_::_,[],h=>by cases h
def xqV:Nat->Value->Value->Bool
 |0,_,_=>I
 |n+1,x,y=>
  match x,y with
  | .int k a, .int c b=>Q (k=c)&&Q (a=b)
  | .bool a, .bool b=>a==b
  | .string a, .string b=>Q<|a.data.toList=b.data.toList
  | .agg a, .agg b=>aN6 (xqV n) a.toList b.toList
  | .pointer none, .pointer none=>U
  | .nilFunc, .nilFunc=>U
  | .nilIface, .nilIface=>U
  | .map none, .map none=>U
  |_,_=>I
theorem bhK:∀{n:Nat} {a b:Value},xqV n a b=U->a=b:=by intro n;induction n with|zero=>intro a b h;cases h|succ n c=>intro a b h;simp only[xqV] at h;(split at h<;>first|rfl|(cases h;done)|skip);simp_all;simp_all;rename_i a b;have h:=qc h;obtain⟨⟨a⟩⟩:=a;simp_all;rename_i a b;have h:=aOC (λa b=>c) h;simp_all
def xqA:Nat->AV->AV->Bool
 |0,_,_=>I
 |n+1,x,y=>
  match x,y with
  | .s v, .s w=>xqV 4 v w
  | .u, .u=>U
  | .l r t o, .l D E o'=>(t==E&&o==o')&&aN6 (aN6<|xqA n) r D
  | .a c, .a e=>aN6 (xqA n) c e
  | .t c, .t e=>aN6 (xqA n) c e
  | .q c, .q e=>aN6 (xqA n) c e
  | .p b i j, .p h z A=>Q<|b=h/\i=z/\j=A
  | .m b i, .m h z=>Q<|b=h/\i=z
  | .g k b i j, .g B h z A=>Q<|k=B/\b=h/\i=z/\j=A
  | .f k c d, .f B e C=>Q (k=B)&&(aN6 (xqA n) c e&&aN6 (xqA n) d C)
  |_,_=>I
def aYn:∀{n:Nat} {a b:AV},xqA n a b=U->a=b:=by intro n;induction n with|zero=>intro a b h;cases h|succ n c=>intro a b h;simp only[xqA] at h;grind [bhK,aOC]
def eqB(x y:bY):Bool:=Q (x.elem=y.elem/\x.size=y.size/\x.own=y.own/\x.var=y.var)&&aN6 (aN6<|xqA 9) x.bA y.bA
theorem bbh{x y:bY}(h:eqB x y=U):x=y:=by unfold eqB at h;rw[bN] at h;obtain⟨c,d,e,f⟩:=qc h.1;have g:=aOC (λa b=>aOC<|λa b=>aYn) h.2;cases x;simp_all
def kpS(a b:vG):Bool:=Nat.ble a.I6 b.I6&&(List.range<|a.I6+1).all λv=>match a.val v with|none=>U|some x=>match b.val v with|some y=>eqB x y|none=>I
def kpB:ae->ae->Bool:=eqLs' kpS
where eqLs' (f:vG->vG->Bool):ae->ae->Bool
 |[],[]=>U
 |a::l,b::m=>f a b&&eqLs' f l m
 |_,_=>I
def a6R:∀{Y Y':ae},kpB Y Y'=U->L Y'=L Y/\∀k,kpS (aZ Y k) (aZ Y' k)=U
 |[],[],_=>⟨rfl,λk=>by simp only[aZ,List.getD_nil];rfl⟩
 |a::l,b::m,h=>by
  have h:(kpS a b&&kpB.eqLs' kpS l m)=U:=h
  rw[bN] at h
  have c:=a6R (Y:=l) (Y':=m) h.2
  refine⟨by simp[c.1],λk=>?_⟩
  cases k with
  |zero=>exact h.1
  |succ k=>exact c.2 k
 |[],_::_,h=>by cases h
 |_::_,[],h=>by cases h
theorem bdG{Y Y':ae}(h:kpB Y Y'=U):Kp Y Y':=by obtain⟨a,c⟩:=a6R h;refine⟨a,λk=>?_,λb x d=>?_⟩;simp_all [kpS];have h:=c b.1;unfold kpS at h;grind [box,Nat.le_trans,Nat.le_of_ble_eq_true,bbh]
section
variable(P:Program)(G:I7)
abbrev aPc:=FuncId->List AV->ae->Nat->Option (AV×ae)
abbrev aQb:=Code->List AV->ae->Option (Exit×List AV×ae)
def aWf(a:aPc)(b:List AV)(Y:ae)(o:Oper):Option (AV×ae):=
 match dz P (du G b) Y o.op with
 |some av=>V (av,Y)
 |none=>
  match eA P (du G b) Y (o.dst.getD 0) o.op with
  |some p=>V p
  |none=>
   match o.op with
   | .call c=>
    match c.callee with
    | .value f=>
     match du G b f with
     | .f fn first cap=>a fn (first++c.args.toList.map (du G b)++cap) Y (o.dst.getD 0)
     |_=>J
    |_=>J
   |_=>J
def aS9(b:aPc)(ops:Array Oper)(a:List AV)(Y:ae)(o:Oper):Option (List AV×ae):=
 match rh ops a o with
 |some true=>match aWf P G b a Y o with|some p=>V (ge a o.dst p.1,p.2)|none=>J
 |some false=>V (ge a o.dst<|.t [],Y)
 |none=>J
def aRK(a:aPc)(ops:Array Oper):List Oper->List AV->ae->Option (List AV×ae)
 |[],b,Y=>V (b,Y)
 |o::l,b,Y=>match aS9 P G a ops b Y o with|some p=>aRK a ops l p.1 p.2|none=>J
def aS8(b:aPc)(ops:Array Oper):List Oper->List fY->List AV->ae->Option (List fY×List AV×ae)
 |[],a,c,Y=>V (a,c,Y)
 |o::l,a,c,Y=>match aS9 P G b ops c Y o with|some p=>aS8 b ops l (a++[lab P G ops c Y o]) p.1 p.2|none=>J
def aQ0:Exit->Bool| .normal| .ret=>U|_=>I
def a6k(Y:ae)(d:Nat)(c:ae)(r:AV):Option (AV×ae):=
 match r with
 | .l [] true true=>V (.l [] U U,Y)
 | .m b n=>match box c b with|some x=>if qA x=U then V (.m (zt Y d) n,put Y d x) else J|none=>J
 | .a cs=>if(wn cs).Nodup then(match gU c d Y cs with|some p=>V (.a p.1,p.2)|none=>J) else J
 |_=>J
abbrev aSo:=List<|FuncId×List AV×AV
structure aPP where
 l:aSo
 cl:List (FuncId×TypeId×Nat)
def aTq(fn:FuncId)(ys:List AV):aSo->Option AV|[]=>J|p::T=>bif aOU fn p.1&&aN6 (xqA 9) ys p.2.1 then V p.2.2 else aTq fn ys T
def aRG(fn:FuncId):List (FuncId×TypeId×Nat)->Option (TypeId×Nat)|[]=>J|p::T=>bif aOU fn p.1 then V p.2 else aRG fn T
def aWe(Y:ae)(d:Nat)(p:TypeId×Nat)(ys:List AV):Option (AV×ae):=
 match ys with
 |[.l [] false false]=>V (.l [] U U,Y)
 |[.l (r::bA) false false]=>
  if((r::bA).all λr=>aOU (L r) p.2&&r.all gY)=U/\L (r::bA)<1000000 then V (.m (zt Y d)<|L (r::bA),put Y d ⟨p.1,p.2,U,I,r::bA⟩) else J
 |_=>J
def aRJ(T:aPP)(E:aQb):aPc:=λfn xs Y d=>
 match P.funcs[fn]? with
 |none=>J
 |some f=>
  match f.body with
  |none=>J
  |some c=>
   if(f.name== "runtime.NumGoroutine")=U then J
   else if G.nw fn=U then
    if(xs.map<|dG Y).all iX=U/\aRI Y d=U then
     match aRG fn T.cl with
     |some p=>aWe Y d p<|xs.map<|dG Y
     |none=>
     match E c (start f<|xs.map<|dG Y) eK with
     |some (e,b,a)=>if aQ0 e=U then(match wG P f b a with|some r=>a6k Y d a r|none=>J) else J
     |none=>J
    else J
   else if G.imp fn=U then
    match E c (start f xs) Y with
    |some (e,b,a)=>
     if aQ0 e=U then
      match wG P f b a with
      |some r=>
       if L a=L Y then
        if G.rd fn=U then(if kpB Y (kills a<|eB r)=U/\kG (eR a r)=U then V (eR a r,Y) else J)
        else V (r,a)
       else J
      |none=>J
     else J
    |none=>J
   else if(xs.map<|dG Y).all iX=U/\L (xs.map<|dG Y)<=f.ntmps then
    match aTq fn (xs.map<|dG Y) T.l with
    |some r=>if kG r=U/\(nA Y xs=I\/uN r=U) then V (r,Y) else J
    |none=>
    match E c (start f<|xs.map<|dG Y) (ly f) with
    |some (e,b,a)=>
     if aQ0 e=U then
      match yB P f b a with
      |some r=>if kG r=U/\(nA Y xs=I\/uN r=U) then V (r,Y) else J
      |none=>J
     else J
    |none=>J
   else J
def aRL(T:aPP)(E:aQb):aQb:=λc a Y=>
 match c with
 | .skip=>V (.normal,a,Y)
 | .label _=>V (.normal,a,Y)
 | .region _ ops false=>match aRK P G (aRJ P G T E) ops ops.toList a Y with|some p=>V (.normal,p.1,p.2)|none=>J
 | .region _ ops true=>
  if rG G ops.toList=U then match aRK P G (aRJ P G T E) ops ops.toList a Y with|some p=>V (.normal,p.1,p.2)|none=>J
  else match aS8 P G (aRJ P G T E) ops ops.toList [] a Y with|some p=>if xG ops p.1=U then V (.normal,p.2.1,p.2.2) else J|none=>J
 | .seq x y=>match E x a Y with|some (.normal,τ',Y')=>E y τ' Y'|r=>r
 | .cond c x y=>match du G a c with| .s (.bool t)=>if t=U then E x a Y else E y a Y|_=>J
 | .block b c=>match E c a Y with|some (.exit j,τ',Y')=>if j=b then V (.normal,τ',Y') else V (.exit j,τ',Y')|r=>r
 | .loop c=>match E c a Y with|some (.normal,τ',Y')=>E (.loop c) τ' Y'|r=>r
 | .exit b=>V (.exit b,a,Y)
 | .ret=>V (.ret,a,Y)
 |_=>J
def ev(T:aPP):Nat->aQb|0=>λ_ _ _=>J|n+1=>aRL P G T<|ev T n
end
section
variable{P:Program}{G:I7}
def Xcl(P:Program)(G:I7)(fn:FuncId)(xs:List AV)(Y:ae)(d:Nat)(K:be):Prop:=
 if G.nw fn=U then tS P G fn xs Y d K else if G.imp fn=U then tR P G fn xs Y d K else Kh P G fn xs Y λr=>K r Y
def aRe(P:Program)(G:I7)(a:aPc):Prop:=∀fn xs Y d r Y',a fn xs Y d=V (r,Y')->∀K:be,K r Y'->Xcl P G fn xs Y d K
def aUx(P:Program)(G:I7)(E:aQb):Prop:=∀c a Y e τ' Y',E c a Y=V (e,τ',Y')->∀Q:QX,Q e τ' Y'->iq P G c Q a Y
theorem bbm{a:aPc}(g:aRe P G a){b:List AV}{Y Y':ae}{o:Oper}{r:AV}(h:aWf P G a b Y o=V (r,Y')){K:be}(d:K r Y'):j0 P G b Y o K:=by unfold aWf at h;unfold j0;split at h;simp_all;rename_i l;rw[l];simp only;split at h;simp_all;rename_i i;rw[i];simp only;split at h;rename_i c k;rw[k];simp only;split at h;rename_i f j;rw[j];simp only;split at h;rename_i fn first cap e;rw[e];exact g _ _ _ _ _ _ h K d;(cases h);(cases h);cases h
theorem a6l{a:aPc}(d:aRe P G a){ops:Array Oper}{b τ':List AV}{Y Y':ae}{o:Oper}(h:aS9 P G a ops b Y o=V (τ',Y')){K:aG}(c:K τ' Y'):kS P G ops o K b Y:=by grind [aS9,kS,bbm]
theorem a6m{a:aPc}(d:aRe P G a){ops:Array Oper}{K:aG}:∀{l:List Oper} {b τ':List AV} {Y Y':ae},aRK P G a ops l b Y=V (τ',Y')->K τ' Y'->rE P G ops l K b Y:=by intro l;induction l with|nil=>intro b τ' Y Y' h c;cases h;exact c|cons o l f=>intro b τ' Y Y' h c;simp only[aRK] at h;split at h;rename_i p e;exact a6l d (τ':=p.1) (Y':=p.2) e<|f h c;cases h
theorem bbk{b:aPc}(e:aRe P G b){ops:Array Oper}{K:List fY->aG}:∀{l:List Oper} {a ls:List fY} {c τ':List AV} {Y Y':ae},aS8 P G b ops l a c Y=V (ls,τ',Y')->K ls τ' Y'->qq P G ops l a K c Y:=by intro l;induction l with|nil=>intro a ls c τ' Y Y' h d;cases h;exact d|cons o l g=>intro a ls c τ' Y Y' h d;simp only[aS8] at h;split at h;rename_i p f;exact a6l e (τ':=p.1) (Y':=p.2) f<|g h d;cases h
def aWD{e:Exit}(h:aQ0 e=U):e= .normal\/e= .ret:=by cases e<;>first|exact .inl rfl|exact .inr rfl|cases h
theorem a6j(o:tQ P){E:aQb}(j:aUx P G E){fn:FuncId}{f:Func}{c:Code}(n:P.funcs[fn]?=V f)(l:f.body=V c)(p:¬(f.name== "runtime.NumGoroutine")=U){xs g:List AV}{Y d:ae}{e:Exit}{r:AV}(h:E c (start f xs) Y=V (e,g,d))(m:aQ0 e=U)(i:wG P f g d=V r):cZ P G fn xs Y r d:=by obtain⟨q,Y',⟨rfl,rfl⟩,k⟩:=aBf (R:=λa b=>a=r/\b=d) o n l (by grind) (j _ _ _ _ _ _ h (QB P f λa b=>a=r/\b=d)<|by rcases aWD m with rfl|rfl<;>exact⟨r,i,rfl,rfl⟩);exact k
def aYw(P:Program)(G:I7)(T:aSo):Prop:=∀p∈T,zm P G p.1 p.2.1 (·=p.2.2)
def a78(P:Program)(G:I7)(T:List<|FuncId×TypeId×Nat):Prop:=∀p∈T,∀bA:List (List AV),(∀r∈bA,L r=p.2.2)->L bA<1000000->∃r a,cZ P G p.1 [.l bA I I] eK r a/\(bA=[]->r= .l [] U U)/\(bA≠[]->∃b,r= .m b (L bA)/\box a b=V ⟨p.2.1,p.2.2,U,I,bA⟩)
structure aSn(P:Program)(G:I7)(T:aPP):Prop where
 fp:∀fn,G.fp fn=J
 l:aYw P G T.l
 cl:a78 P G T.cl
def a6Q{fn:FuncId}{ys:List AV}{r:AV}:∀{T:aSo},aYw P G T->aTq fn ys T=V r->zm P G fn ys (·=r)
 |[],_,h=>by cases h
 |p::T,d,h=>by
  simp only[aTq] at h
  cases c:(aOU fn p.1&&aN6 (xqA 9) ys p.2.1) with
  |true=>
   rw[c] at h
   rw[bN] at c
   have e:=Nat.eq_of_beq_eq_true c.1
   have f:=aOC (λa b=>aYn) c.2
   obtain rfl:=xu h
   subst e f
   exact d p (by simp)
  |false=>
   rw[c] at h
   exact a6Q (λq g=>d q<|by simp[g]) h
theorem a6a{fn:FuncId}{p:TypeId×Nat}:∀{T:List (FuncId×TypeId×Nat)},aRG fn T=V p->(fn,p)∈T
 |[],h=>by cases h
 |q::T,h=>by
  simp only[aRG] at h
  cases a:aOU fn q.1 with
  |true=>
   grind [Nat.eq_of_beq_eq_true]
  |false=>rw[a] at h;exact List.mem_cons_of_mem _<|a6a h
theorem bbj{T:aPP}(l:aSn P G T){fn:FuncId}{p:TypeId×Nat}{xs:List AV}{Y Y':ae}{d:Nat}{r:AV}(o:aRG fn T.cl=V p)(i:(xs.map<|dG Y).all iX=U/\aRI Y d=U)(h:aWe Y d p (xs.map<|dG Y)=V (r,Y')){K:be}(g:K r Y'):zI P G fn xs Y d K:=by have f:=l.cl _<|a6a o;refine⟨i.1,i.2,?_⟩;generalize xs.map (dG Y)=ys at*;unfold aWe at h;split at h;(cases h);obtain⟨r,a,c,j,_⟩:=f [] (by simp) (by decide);exact⟨r,a,c, .inl ⟨j rfl,g⟩⟩;rename_i q bA;split at h;rename_i e;cases h;obtain⟨e,n⟩:=e;rw[List.all_eq_true] at e;obtain⟨r,a,c,_,k⟩:=f (q::bA) (by simp_all) n;obtain⟨b,rfl,m⟩:=k (by simp);refine⟨_,a,c, .inr ⟨b,_,_,rfl,m,?_,g⟩⟩;grind [qA];(cases h);cases h
theorem bbi(z:tQ P){T:aPP}(t:aSn P G T){E:aQb}(s:aUx P G E):aRe P G (aRJ P G T E):=by intro fn xs Y d r Y' h K k;unfold aRJ at h;unfold Xcl;split at h;(cases h);rename_i f v;split at h;(cases h);rename_i c u;split at h;(cases h);rename_i C;split at h;rename_i A;rw[f8 A];split at h;rename_i a;split at h;rename_i p y;exact .inl<|bbj t y a h k;split at h;rename_i e F q o;split at h;rename_i m;split at h;rename_i B g;have j:=a6j z s v u C o m g;unfold a6k at h;split at h;(cases h);exact .inl ⟨a.1,a.2,_,_,j, .inl ⟨rfl,k⟩⟩;rename_i b n;split at h;rename_i x O;split at h;rename_i M;cases h;exact .inl ⟨a.1,a.2,_,_,j,by grind⟩;(cases h);(cases h);rename_i cs;split at h;rename_i D;split at h;rename_i p y;cases h;exact .inr<|.inr ⟨a.1,a.2,cs,q,p.1,p.2,j,D,y,k⟩;(cases h);(cases h);(cases h);(cases h);(cases h);(cases h);(cases h);rename_i A;rw[dB A];split at h;rename_i w;rw[f8 w];split at h;rename_i e F q o;split at h;rename_i m;split at h;rename_i B g;have j:=a6j z s v u C o m g;split at h;rename_i H;split at h;grind [tR,aPf,bdG];rename_i N;cases h;unfold tR aPf;rw[t.fp fn];exact⟨_,_,j,H,by simp_all⟩;(cases h);(cases h);(cases h);(cases h);rename_i w;rw[dB w];split at h;rename_i a;split at h;rename_i B g;split at h;rename_i i;cases h;exact⟨_,a6Q t.l g,a.1,i.1,i.2,k⟩;(cases h);split at h;rename_i e F q o;split at h;rename_i m;split at h;rename_i B g;split at h;rename_i i;cases h;refine⟨_,aBh z v u (by grind) a.2<|s _ _ _ _ _ _ o (QR P f (·=_)) ?_,a.1,i.1,i.2,k⟩;rcases aWD m with rfl|rfl<;>exact⟨_,g,i.1,rfl⟩;(cases h);(cases h);(cases h);(cases h);cases h
theorem bdK{p:Nat->Prop}:∀{n:Nat},p n->∃m,p m/\∀k,p k->m<=k:=by intro n;induction n using Nat.strongRecOn with|_ n a=>grind
theorem bbl(F:tQ P){T:aPP}(D:aSn P G T):∀n,aUx P G (ev P G T n):=by intro n;induction n using Nat.strongRecOn with|_ n A=>cases n with|zero=>intro c b Y e τ' Y' h;cases h|succ n=>have g:=A n<|Nat.lt_succ_self n;have C:=bbi (G:=G) F D g;intro c b Y e τ' Y' h Q f;have M:=h;change aRL P G T (ev P G T n) c b Y=_ at h;unfold aRL at h;split at h;(cases h;exact f);(cases h;exact f);split at h;rename_i p E;cases h;exact a6m C E f;(cases h);show sF P G _ _ _ _;grind [sF,a6m,bbk];rename_i x y;show iq P G x _ _ _;split at h;rename_i l u d;exact g _ _ _ _ _ _ d _<|g _ _ _ _ _ _ h _ f;rename_i q;refine g _ _ _ _ _ _ h _ ?_;(cases e<;>first|exact f|simp_all);rename_i cc x y;show(match du G b cc with| .s (.bool t)=>if t=U then iq P G x Q b Y else iq P G y Q b Y|_=>False);split at h;rename_i t N;split at h;rename_i d;rw[f8 d];exact g _ _ _ _ _ _ h _ f;rename_i d;rw[dB d];exact g _ _ _ _ _ _ h _ f;(cases h);rename_i H c;show iq P G c _ _ _;split at h;rename_i j l u d;refine g _ _ _ _ _ _ d _ ?_;show(if j=H then Q .normal _ _ else Q (.exit j) _ _);grind;rename_i q;refine g _ _ _ _ _ _ h _ ?_;(cases e<;>first|exact f|simp_all);rename_i c;clear h;let r:List AV->ae->Nat->Prop:=λb Y m=>ev P G T m (.loop c) b Y=V (e,τ',Y');let a:aG:=λb Y=>∃m,m<=n+1/\r b Y m;have i:∀b Y,∃m,a b Y->r b Y m/\(∀k,r b Y k->m<=k):=(by intro b Y;by_cases hI:a b Y;obtain⟨m,_,z⟩:=hI;obtain⟨k,d,v⟩:=bdK z;grind;simp_all);refine⟨a,λb Y=>Classical.choose<|i b Y,(by grind),?_⟩;intro b Y hI;obtain⟨d,v⟩:=Classical.choose_spec (i b Y) hI;generalize z:Classical.choose (i b Y)=m at d v;have K:m<=n+1:=(by grind);(cases m with|zero=>(cases d)|succ k=>have o:=A k (by omega);change aRL P G T (ev P G T k) (.loop c) b Y=_ at d;unfold aRL at d;simp only at d;split at d;rename_i l u B;refine o _ _ _ _ _ _ B _ ?_;have w:a l u:=⟨k,by omega,d⟩;refine⟨w,?_⟩;grind;rename_i q;refine o _ _ _ _ _ _ d _ ?_;cases e<;>first|exact f|simp_all);(cases h;exact f);(cases h;exact f);cases h
end
end Go.Ab
