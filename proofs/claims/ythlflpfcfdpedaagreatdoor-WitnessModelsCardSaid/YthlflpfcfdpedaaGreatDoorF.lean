/- Part of the proof of WitnessModels. -/
import Derived.Test.YthlflpfcfdpedaaGreatDoorE
set_option linter.all false
set_option maxRecDepth 100000
open And renaming intro->ai
open Bool renaming and_assoc->BI,and_eq_false_iff->bik,and_eq_true->bN,and_false->qc,false->I,false_and->kM,false_eq_true->eE,false_or->lG,not_eq_false'->fK,not_eq_true'->eH,not_false->kN,not_true->fh,or_eq_false_iff->cP,or_false->kz,or_true->wY,true->U,true_and->iw,true_eq_false->sr,true_or->bkh
open Decidable renaming decide->Q,not_not->aNS
open Go.IntKind renaming i64->dq
open Go.Proofs.Tryz renaming prog->aS
open Int renaming not_lt->aqC,toNat_natCast->bh
open List renaming cons.injEq->kO,drop_length->Gz,drop_succ_cons->nM,drop_zero->ip,flatMap_cons->Cz,foldl_nil->aRl,getElem?_append_left->xe,getElem?_eq_getElem->eC,getElem?_map->ve,getElem_of_mem->ou,length->L,length_append->a6G,length_drop->oz,length_map->bJ,length_nil->vw,length_take->gC,map_append->dg,map_cons->ji,map_map->vA,map_nil->mU,map_set->vB,mem_append->dF,mem_cons->eW,mem_iff_getElem->RU,mem_map->dN,mem_or_eq_of_mem_set->CC,mem_singleton->cE,nil_append->dW,not_mem_nil->ql,range->aH,replicate->er,take_length->gV,take_of_length_le->oB,take_succ_eq_append_getElem->iJ
open Nat renaming beq->aOU,le_refl->dA,lt_or_ge->jj,mul_le_mul_right->qo,reduceAdd->dc,zero_add->aj
open Option renaming bind_some->qd,map_some->df,none->J,some->V,some.inj->xu
open Prod renaming fst->Se
namespace Go.Ab
open Go Go.RowKit Go.Proofs
def bt:(∀p:Prop,(True->p)=p)/\(∀p:Prop,(False->p)=True)/\((I=U)=False)/\((U=I)=False)/\(∀p:Prop,(p/\True)=p)/\(∀p:Prop,(True/\p)=p)/\(∀b,(U||b)=U)/\(∀b,(I||b)=b)/\(∀b,(b||U)=U)/\(∀b,(b||I)=b)/\(∀b,(U&&b)=b)/\(∀b,(I&&b)=I)/\(∀b,(b&&U)=b)/\(∀b,(b&&I)=I)/\(∀α:Sort 1,(α->True)=True):=by refine⟨λp=>by simp,λp=>by simp,by simp,by simp,λp=>by simp,λp=>by simp,by simp,by simp,by simp,by simp,by simp,by simp,by simp,by simp,by simp⟩
def aS3{Y:ae}{b:Id}{l:List Int}{a d:Nat}{n:Int}{K:be}(e:List Id)(X:L Y=4096)(A:b.1=14\/b.1=15\/b.1=16)(T:Tp Y b l a)(t:∀q∈e,(q.1=14\/q.1=15\/q.1=16)/\∃x,box Y q=V x/\x.var=I)(S:∀(x:Int) (i:Nat) j,0<=x->(1<=n->x<n)->Tp j b l i->a<=i->(a<L l->1<=n->i=a+1)->Kx [14,15,16] Y j->(∀q∈e,∀x,box Y q=V x->box j q=V x)->K (iv x) j):cV 107 [.p b 0 0,iv n] Y d K:=by have o:∀{q:Id},q.1=14\/q.1=15\/q.1=16->q.1∈[14,15,16]:=λh=>(by rcases h with h|h|h<;>simp[h]);have Z:A6 [14,15,16] (b::e) b:=⟨o A,by simp⟩;have D:b∉e:=λh=>(by obtain⟨_,x,c,w⟩:=t b h;rw[T.bx] at c;cases c;cases w);have z:∀q∈e,∀x,box Y q=V x->box (Nm [14,15,16] (b::e) Y) q=V x:=λq g x c=>(by rw[aOV<|o (t q g).1,J9<|by simp[g]];exact c);have C:Tp (Nm [14,15,16] (b::e) Y) b l a:=⟨by rw[aOV<|o A,J9<|by simp];exact T.bx,T.le,T.ok,T.ll⟩;have aa:∀(Y':ae) (i:Nat),Tp Y' b l i->(∀q∈e,∀x,box Y q=V x->box Y' q=V x)->okB [14,15,16] (b::e) Y':=λY' i M W p v x c w q g y H=>(by rcases eW.1 v with rfl|v;rw[M.bx] at c;cases c;simp only[cE] at g;subst g;simp only[eW,ql,a7c] at H;rcases H with rfl|rfl;exact .inl rfl;trivial;obtain⟨_,x',G,E⟩:=t p v;rw[W p v x' G] at c;cases c;rw[E] at w;cases w);refine aQN rfl rfl (b::e) (λx c=>?_) (aa _ _ C z) (aWF (aOr.trans X) C n) ?_;simp only[eW,ql,a7c] at c;rcases c with rfl|rfl;exact Z;trivial;rintro r j ⟨x,i,rfl,N,O,k,P,R,F⟩;have m:L j=L Y:=F.len.trans aOr;have kp:∀q∈e,∀x,box Y q=V x->box j q=V x:=λq g x c=>F.keep _ _ (by simp only[cE];rintro rfl;exact D g)<|z q g x c;exact⟨m,b::e,aa _ _ k kp,trivial,S x i _ N O ⟨by rw[aPT m<|o A,J9<|by simp];exact k.bx,k.le,k.ok,k.ll⟩ P R Kx.mix λq g x c=>by rw[aPT m<|o (t q g).1,J9<|by simp[g]];exact kp q g x c⟩
def aPu{Y:ae}{b:Id}{l:List Int}{a d:Nat}{n:Int}{K:be}(m:L Y=4096)(T:Tp Y b l a)(j:∀(x:Int) (e:Nat) c,0<=x->(1<=n->x<n)->Tp c b l e->a<=e->Fx Y c [b]->K (iv x) c):cB 107 [.p b 0 0,iv n] Y d K:=a55 m T λx e c h i g k _ F=>j x e c h i g k F
theorem k1A{x:List AV}{y:AV}:aN J (y::x)=V y:=by cases y<;>rfl
def aTE{Y:ae}{b:Id}{l:List Int}{n:Nat}(T:Tp Y b l n){e:TypeId}{z:Nat}{a:AV}{aa:List (List AV)}(g:gm Y e z a aa):∀q∈aA a,q∉[b]:=λq c h=>by
 simp only[cE] at h;subst h
 exact aNO g q c _ T.bx rfl
def bdc{Y:ae}{b:Id}{l:List Int}{a:Nat}{x0 P x2 R S x5 a6:AV}{cnt:List Int}(A:L Y=4096)(T:Tp Y b l a)(g:gm Y 3 1 a6<|cnt.map ci)(hn:L cnt<=1000):∃r j,(∃(u:Int) (e:Nat),r=iv u/\(u= -1\/aF (L cnt) u)/\Tp j b l e/\a<=e/\Fx Y j [b])/\cZ aS GG 108 [.p b 0 0, .a [x0,P,x2,R,S,x5,a6]] Y r j:=by refine bhx A rfl λN O F X M t=>?_;have c:Fx Y N []:=F.fx [];have q:=T.fx c (by simp);have m:=g.fx c (by simp);have H:((3,O):Id)∉[b]:=λh=>(by simp only[cE] at h;subst h;exact M _ T.bx);simp only[aVO,u0,u1,t,k1A,nM,ip,aj,m.ln,bJ,↓uL];rw[eM (by omega)<|by omega];refine aPu (c.len.trans A) q λu e j Z G k n i=>?_;have W:=G (by omega);have w:=i.keep _ _ H t;have g1:=m.fx i<|aTE q m;have z:dq.wrap (u-2)=u-2:=eM (by omega) (by omega);rcases o:Q (u-2<0) with _|_;simp only[aNG] at o;have C:aF (L cnt) (u-2):=⟨by omega,by omega⟩;have D:Q (u-2<0)=I:=bjz o;simp only[qz 4,u0,u1,z,D,w,k1A,nM,ip,aj,↓jA,Aa,↓uL];refine aTu g1 C λv=>?_;rcases E:Q (v=0) with _|_;simp only[u0,u1,E,bt,↓uL];exact⟨u-2,e,rfl, .inr C,k,n,c.trans i⟩;simp only[u0,u1,E,bt,↓uL];exact⟨-1,e,rfl, .inl rfl,k,n,c.trans i⟩;simp only[qz 4,u0,u1,z,o,↓jN,ya,bt,↓uL];exact⟨-1,e,rfl, .inl rfl,k,n,c.trans i⟩
def baM{Y:ae}:aX bH 8 Y [(0,iv 0),(1,iv 0),(2,iv 0),(3,iv 1),(4,iv 1),(5,iv 2),(6,iv 3),(7,iv 4)]=V (.l ([0,0,0,1,1,2,3,4].map ci) U U,Y):=by kernel_rfl
section
attribute[local irreducible] aX
def bdk{Y:ae}{b:Id}{l:List Int}{a:Nat}{kd S:Int}(z:L Y=4096)(T:Tp Y b l a):∃r i,(∃(o:Int) (e:Nat),r=iv o/\(kd=3\/kd=4->0<=o/\o<5)/\Tp i b l e/\a<=e/\Fx Y i [b])/\cZ aS GG 165 [.p b 0 0,iv kd,iv S] Y r i:=by refine bhA z ?_;generalize O:(λ(r:AV) (i:ae)=>∃(o:Int) (e:Nat),r=iv o/\(kd=3\/kd=4->0<=o/\o<5)/\Tp i b l e/\a<=e/\Fx Y i [b])=R;have g:∀{o:Int} {e:Nat} {y:ae},(kd=3\/kd=4->0<=o/\o<5)->Tp y b l e->a<=e->Fx Y y [b]->R (iv o) y:=λv H M N=>(by rw[<-O];exact⟨_,_,rfl,v,H,M,N⟩);simp only[aRx,↓uL];refine bvA (λc=>∀t,(t=I->¬(kd=3\/kd=4))->c [bv t]) ?_ λc w=>?_;intro t q;(cases t);have q:=q rfl;have C:∀{o:Int},R (iv o) Y:=g (λh=>aO6 h q) T (dA _)<|Fx.refl _ _;simp only[qz 21,qy 2,au,aI,u0,u1,bt,↓uL];refine bs5 (λc=>∀t,c [bv t]) (λt=>?_) λc j=>(by simp only[qz 41,au,u0,u1,j,NA,awG,bt,↓uL]);(cases t);simp only[qz 39,qy 6,au,aI,u0,u1,bt,↓uL];refine bs5 (λc=>∀t,c [bv t]) (λt=>?_) λc j=>(by simp only[qz 59,au,u0,u1,j,NA,awG,bt,↓uL]);(cases t);simp only[qz 57,au,aI,u0,u1,bt,↓uL];refine bs5 (λc=>∀t,c [bv t]) (λt=>?_) λc j=>(by simp only[qz 89,au,u0,u1,j,NA,awG,bt,↓uL]);(cases t);simp only[qz 87,au,aI,u0,u1,bt,↓uL];refine bs5 (λc=>∀t,c [bv t]) (λt=>?_) λc j=>(by simp only[qz 131,au,u0,u1,j,NA,awG,bt,↓uL]);(cases t);simp only[qz 129,au,aI,u0,u1,bt,↓uL];exact C;simp only[qz 129,au,aI,u0,u1,bt,↓uL];refine aPu z T λu e i D v m n k=>?_;simp only[qz 8,u0,u1,aPR,aP1,↓uL];(first|exact g (λh=>aO6 h q) m n k|exact⟨by decide,g (λh=>aO6 h q) m n k⟩);simp only[qz 87,au,aI,u0,u1,bt,↓uL];exact C;simp only[qz 57,au,aI,u0,u1,bt,↓uL];exact C;simp only[qz 39,qy 6,au,aI,u0,u1,bt,↓uL];exact aPu z T λu e i D v m n k=>g (λh=>aO6 h q) m n k;have G:=@baM Y;simp only[qz 21,qy 2,au,aI,u0,u1,G,bt,↓uL];refine aPu z T λu e i D v m n k=>?_;have F:=v (by decide);simp only[qz 4,tf,ci,qM,u0,↓uL];refine⟨⟨D,by simpa using F⟩,g (λ_=>?_) m n k⟩;have P:∀x∈([0,0,0,1,1,2,3,4]:List Int),0<=x/\x<5:=(by decide);exact P _ (dB<|by simp;omega);rcases A:Q (kd=3) with _|_;rcases E:Q (kd=4) with _|_;simp only[qz 23,A,E,u0,u1,bt,↓uL];refine w I λ_=>?_;simp at A E;omega;simp only[qz 23,A,E,u0,u1,bt,↓uL];exact w U (λh=>Bool.noConfusion h);simp only[qz 23,A,u0,u1,bt,↓uL];exact w U (λh=>Bool.noConfusion h)
end
theorem aRH{c:AV}{l:List Int}(h:gK c=sl ci l):∃t o,c= .l (l.map ci) t o:=by(cases c<;>first|(simp[gK,sl] at h;done)|skip);rename_i aa t o;simp only[gK,sl,AV.l.injEq] at h;exact⟨t,o,by rw[h.1]⟩
def bdL{ds:List AV}{s:mn}(h:Lk ds s.c):∃x0 g x2 i t4 o4 e a j,ds=[x0,g,x2,i, .l (s.cells.map ci) t4 o4, .l (s.bU.map ci) e a,j]:=by have k:=oC h;obtain⟨h,_⟩:=h;rcases ds with _|⟨x0,_|⟨g,_|⟨x2,_|⟨i,_|⟨m,_|⟨x5,_|⟨j,_|⟨n,ds⟩⟩⟩⟩⟩⟩⟩⟩<;>simp at k;simp only[ji,mU,mn.c,kO] at h;obtain⟨t4,o4,rfl⟩:=aRH h.2.2.2.2.1;obtain⟨e,a,rfl⟩:=aRH h.2.2.2.2.2.1;exact⟨_,_,_,_,_,_,_,_,_,rfl⟩
def bdD{Y:ae}{b:Id}{l:List Int}{a:Nat}{ds:List AV}{s:mn}{kd ob:Int}(hl:L Y=4096)(T:Tp Y b l a)(o:Lk ds s.c)(hs:L s.mp.ay<1000)(S:kd=3->aF (L s.cells) ob)(aq:0<L s.bU):∃r i,(∃(v:Int) (g:Nat),r=iv v/\Tp i b l g/\a<=g/\Fx Y i [b])/\cZ aS GG 166 [.p b 0 0, .a ds,iv kd,iv ob] Y r i:=by refine bhD hl (oC o) λZ v5 K2 av nf D=>?_;generalize hR:(λ(r:AV) (i:ae)=>∃(v:Int) (g:Nat),r=iv v/\Tp i b l g/\a<=g/\Fx Y i [b])=R;have N:Fx Y Z []:=K2.fx [];have C:=T.fx N (by simp);have z:=N.len.trans hl;have j:∀{v:Int} {g:Nat} {y:ae},Tp y b l g->a<=g->Fx Z y [b]->R (iv v) y:=λh2 S h4=>(by rw[<-hR];exact⟨_,_,rfl,h2,S,N.trans h4⟩);have h:∀{v:Int},R (iv v) Z:=j C (dA _)<|Fx.refl _ _;obtain⟨x0,x1,x2,x3,t4,o4,t5,W,x6,rfl⟩:=bdL o;have G:∀{Y:ae},dG Y (.a [x0,x1,x2,x3, .l (s.cells.map ci) t4 o4, .l (s.bU.map ci) t5 W,x6])= .a s.c:=λ{Y}=>o.arg Y;have Bi:aN (V 7) [x0,x1,x2,x3, .l (s.cells.map ci) t4 o4, .l (s.bU.map ci) t5 W,x6]=V (.a [x0,x1,x2,x3, .l (s.cells.map ci) t4 o4, .l (s.bU.map ci) t5 W,x6]):=rfl;have k:∀{Y:ae} {l:List Int},fS Y (sl ci l)=V (iv<|L l):=cT;rcases E:Q (kd=3) with _|_;rcases M:Q (kd=23) with _|_;simp only[aRz,E,M,u0,u1,↓iB,↓uL];refine bs5 (λe=>∀t,e [bv t]) (λt=>?_) λe ag=>(by simp only[qz 47,u0,u1,ag,NA,awG,↓uL]);(cases t);rcases F:Q (kd=5) with _|_;rcases A:Q (kd=18) with _|_;rcases H:Q (kd=19) with _|_;simp only[qz 45,qy 4,qy 6,au,aI,F,A,H,u0,u1,↓iB,bt,↓uL];exact h;simp only[qz 45,qy 4,qy 6,au,aI,F,A,H,u0,u1,↓iB,↓iC,D,Bi,ip,aPg,ar,G,bt,↓uL];refine⟨hs,?_⟩;rintro _ ⟨w,rfl,hw⟩;refine⟨by rw[lo,nA];simp[x9 o],?_⟩;simp only[k,u0,↓uL];exact h;simp only[qz 45,qy 4,qy 6,au,aI,F,A,u0,u1,↓iB,↓iC,D,Bi,ip,aPg,ar,G,bt,↓uL];refine⟨hs,?_⟩;rintro _ ⟨w,rfl,hw⟩;refine⟨by rw[lo,nA];simp[x9 o],?_⟩;rcases X:Q ((0:Int)<(L w:Int)) with _|_;simp only[k,u0,u1,X,↓iB,↓uL];exact h;simp only[k,u0,u1,X,↓iC,↓uL];simp only[aBY] at X;refine aPu z C λu g i O P n q m=>?_;have af:=P (by omega);simp only[qz 8,amX,ci,qM,u0,↓uL];exact⟨⟨O,af⟩,j n q m⟩;simp only[qz 45,qy 4,qy 6,au,aI,F,u0,u1,↓iC,bt,↓uL];exact aPu z C λu g i O P n q m=>j n q m;simp only[qz 45,qy 4,qy 6,au,aI,u0,u1,bt,↓uL];exact aPu z C λu g i O P n q m=>j n q m;simp only[aRz,E,M,u0,u1,↓iB,↓iC,D,k1A,nM,ip,aj,tf,ci,qM,↓uL];exact⟨⟨by omega,by omega⟩,h⟩;simp only[aRz,E,u0,u1,↓iC,D,k1A,nM,ip,aj,tf,ci,qM,↓uL];exact⟨S (by simpa using E),h⟩
def aS1{Y:ae}{n:Int}:aX bH 1 Y [(0,iv n)]=V (.l ([n].map ci) U U,Y):=iz
def bdv{Y:ae}{b:Id}{l n:List Int}{a:Nat}{x:AV}(G:L Y=4096)(hb:b.1≠28)(T:Tp Y b l a)(g:gm Y 3 1 x<|n.map ci)(hn:L n<=1000):∃r o,(∃(m:List Int) (j:Nat),gm o 3 1 r (m.map ci)/\L m<=L n/\Tp o b l j/\a<=j/\Fx Y o [b]/\∀q∈aA r,bK Y q/\q.1=28)/\cZ aS GG 167 [.p b 0 0,x] Y r o:=by refine bhC G ?_;generalize hR:(λ(r:AV) (o:ae)=>∃(m:List Int) (j:Nat),gm o 3 1 r (m.map ci)/\L m<=L n/\Tp o b l j/\a<=j/\Fx Y o [b]/\∀q∈aA r,bK Y q/\q.1=28)=R;simp only[aVX,g.ln,bJ,u0,↓uL];refine jD (α:=AV) (λa i=>[a,iv i]) 1 (L n) (λk c y=>Fx Y y [b]/\(∃j,Tp y b l j/\a<=j)/\∃m:List Int,L m<=k/\gm y 3 1 c (m.map ci)/\∀q∈aA c,bK Y q/\q.1=28) (s0:= .l [] U U) ⟨Fx.refl _ _,⟨a,T,dA _⟩,[],by simp, .inl ⟨rfl,rfl⟩,by simp[aA]⟩ ?_;rintro k c y hk ⟨F,⟨j,D,Z⟩,m,hm,E,z⟩;have aa:=F.len.trans G;rcases H:Q ((k:Int)<(L n:Int)) with _|_;simp only[qz 25,aI,au,u0,u1,H,↓iB,↓uL];rw[<-hR];exact⟨m,j,E,by omega,D,Z,F,z⟩;have w:k<L n:=Int.ofNat_lt.1<|aNK H;have W:=g.fx F<|aTE T g;have ek:dq.wrap ((k:Int)+3)=(k:Int)+3:=eM (by omega) (by omega);simp only[qz 25,aI,au,u0,u1,H,↓iC,↓uL];refine bqF (λe=>∀{t:AV} {A:ae} {m':List Int} {j:Nat},Fx Y A [b]->Tp A b l j->a<=j->L m'<=k+1->gm A 3 1 t (m'.map ci)->(∀q∈aA t,bK Y q/\q.1=28)->e [t] A) ?_ λe nx=>?_;intro t A m' j F T X h2 g p;simp only[qz 45,aI,au,u0,u1,↓uL];exact dR (mk:=λ(a:AV) i=>[a,iv i]) (s:=c) (s':=t) (λ_ _=>rfl) w (by omega) ⟨F,⟨_,T,X⟩,m',h2,g,p⟩;simp only[qz 47,qy 4,qy 6,u0,u1,↓uL];refine(O1.of W).ix1 (c:=iv<|gd n k) (by rw[ve,eC w,bT w];rfl) λp _=>?_;simp only[W.ln,bJ,ek,u0,u1,↓uL];rcases q2:Q ((L n:Int)<=(k:Int)+3) with _|_;simp only[u0,↓jN,Aa,bt,↓uL];exact nx F D Z (by omega) E z;simp only[u0,↓jA,ya,↓uL];refine aPu (d:=22) aa D λu a2 y2 h0 X P al M=>?_;have S:=E.fx M<|aTE D E;have C:=(F.trans M).mono (ks':=[b]) λq v=> .inl (by simpa using v);rcases q3:Q (u=1) with _|_;simp only[u0,u1,q3,bt,↓uL];exact nx C P (by omega) (by omega) S z;simp only[u0,u1,q3,aS1,bt,↓uL];refine apQ S (C.len.trans G) pU pU (by simp) (by simp;omega) λt y3 g3 N O=>?_;have nb:b∉aA c:=λh=>hb (z b h).2;refine nx (m':=m++[gd n k]) ((C.trans N).mono λq v=>?_) (P.fx N nb) (by omega) (by simp;omega) (by rw[dg];exact g3.p) λq v=>⟨(O q v).1.old C,(O q v).2⟩;rcases dF.1 v with h|h;exact .inl h;exact .inr (z q h).1.no
structure Rds(Y:ae)(B:Id)(f:Nat->AV)(m:Nat):Prop where
 bx:box Y B=V ⟨38,1,U,U,io 4 λi=>[f i]⟩
 gr:∀i,i<4->∃ns:List Int,L ns<=m/\gm Y 3 1 (f i) (ns.map ci)
 dj:∀i j,i<4->j<4->i≠j->∀q∈aA (f i),q∉aA (f j)
 pl:∀i,i<4->∀q∈aA (f i),q.1=47\/q.1=103
theorem Rds.kx{Y Y':ae}{B:Id}{f:Nat->AV}{m:Nat}{ks:List Nat}(O:Rds Y B f m)(k:Kx ks Y Y')(h:B.1∉ks/\47∉ks/\103∉ks):Rds Y' B f m:=⟨k.keep _ _ h.1 O.bx,λi a=>by obtain⟨n,c,g⟩:=O.gr i a;exact⟨n,c,k.gr g λq j=>by rcases O.pl i a q j with e|e<;>rw[e]<;>first|exact h.2.1|exact h.2.2⟩,O.dj,O.pl⟩
theorem Rds.fx{Y Y':ae}{B:Id}{f:Nat->AV}{m:Nat}{c:List Id}(O:Rds Y B f m)(F:Fx Y Y' c)(h:∀q∈c,q≠B/\q.1≠47/\q.1≠103):Rds Y' B f m:=⟨F.keep _ _ (λe=>(h _ e).1 rfl) O.bx,λi g=>by obtain⟨o,j,k⟩:=O.gr i g;exact⟨o,j,k.fx F λq n e=>by rcases O.pl i g q n with a|a<;>first|exact(h q e).2.1 a|exact(h q e).2.2 a⟩,O.dj,O.pl⟩
theorem Rds.rd{Y:ae}{B:Id}{f:Nat->AV}{m:Nat}(O:Rds Y B f m){u:Int}(h:0<=u/\u<4){K:o8}(g:K<|f u.toNat):rV (cz 1 Y (.m B 4)<|iv u) λp=>rV (lS J Y p) K:=by have a:u.toNat<4:=(by omega);have c:cz 1 Y (.m B 4) (iv u)=V (.p B u.toNat 0):=(by simp[cz,h.1,O.bx,a]);have e:lS J Y (.p B u.toNat 0)=V (f u.toNat):=(by simp[lS,iE,O.bx,uU a,aN]);rw[c,aY,e,aY];exact g
structure EvS(Y x:ae)(b:Id)(l:List Int)(a0 v5 v6 v8 v11:Nat)(ds:List AV)(B:Id)(f:Nat->AV)(u kd ob va st:Int)(dp fr:AV):Prop where
 bx:box x (11,v11)=V ⟨87,7,U,U,[[iv u,iv kd,iv ob,iv va,iv st,dp,fr]]⟩
 b8:box x (8,v8)=V ⟨87,7,U,U,[NY]⟩
 b5:box x (5,v5)=V ⟨40,7,U,U,[ds]⟩
 b6:box x (6,v6)=V ⟨31,6,U,U,[aNE.c]⟩
 tp:∃a',Tp x b l a'/\a0<=a'
 kx:Kx [14,15,16] Y x
 pb:b.1=14\/b.1=15\/b.1=16
 gd:∃m:List Int,L m<=1000/\gm x 3 1 dp (m.map ci)
 gf:∃m:List Int,L m<=1000/\gm x 3 1 fr (m.map ci)
 pd:∀q∈aA dp,q.1=28/\∀z,box Y q≠V z
 pf:∀q∈aA fr,q.1=28/\∀z,box Y q≠V z
 rd:Rds x B f 1000
 pB:B.1=20
 no:(∀z,box Y (11,v11)≠V z)/\∀z,box Y (8,v8)≠V z
section
variable{Y x y:ae}{b B:Id}{l:List Int}{a0 v5 v6 v8 v11 d:Nat}{ds:List AV}{f:Nat->AV}{u kd ob va st:Int}{dp fr:AV}{K:be}{KS:ae->Prop}
theorem EvS.le(E:EvS Y x b l a0 v5 v6 v8 v11 ds B f u kd ob va st dp fr)(h:L Y=4096):L x=4096:=E.kx.len.trans h
def EvS.nx(E:EvS Y x b l a0 v5 v6 v8 v11 ds B f u kd ob va st dp fr)(F:Fx x y [b]){i:Nat}(T:Tp y b l i)(h:a0<=i):EvS Y y b l a0 v5 v6 v8 v11 ds B f u kd ob va st dp fr:=by have n:=E.pb;have c:∀{q:Id},q.1≠14->q.1≠15->q.1≠16->q∉[b]:=λj k r e=>(by simp at e;subst e;omega);obtain⟨m,j,g1⟩:=E.gd;obtain⟨p,k,o⟩:=E.gf;have g:∀{q:Id},q.1=28->q∉[b]:=λh=>c (by omega) (by omega) (by omega);exact⟨F.keep _ _ (c (by simp) (by simp)<|by simp) E.bx,F.keep _ _ (c (by simp) (by simp)<|by simp) E.b8,F.keep _ _ (c (by simp) (by simp)<|by simp) E.b5,F.keep _ _ (c (by simp) (by simp)<|by simp) E.b6,⟨i,T,h⟩,E.kx.fx F λq a=> .inl (by simp at a;subst a;rcases n with e|e|e<;>simp[e]),n,⟨m,j,g1.fx F λq a=>g (E.pd q a).1⟩,⟨p,k,o.fx F λq a=>g (E.pf q a).1⟩,E.pd,E.pf,E.rd.fx F (λq a=>by simp at a;subst a;exact⟨λe=>by have:=E.pB;rw[<-e] at this;omega,by omega,by omega⟩),E.pB,E.no⟩
def EvS.set(E:EvS Y x b l a0 v5 v6 v8 v11 ds B f u kd ob va st dp fr)(F:Fx x y [(11,v11)]){j n k:Int}{c g:AV}(G:box y (11,v11)=V ⟨87,7,U,U,[[iv u,iv kd,iv j,iv n,iv k,c,g]]⟩)(gd:∃m:List Int,L m<=1000/\gm x 3 1 c (m.map ci))(w:∃m:List Int,L m<=1000/\gm x 3 1 g (m.map ci))(p:∀q∈aA c,q.1=28/\∀z,box Y q≠V z)(r:∀q∈aA g,q.1=28/\∀z,box Y q≠V z):EvS Y y b l a0 v5 v6 v8 v11 ds B f u kd j n k c g:=by obtain⟨m,A,g1⟩:=gd;obtain⟨H,C,v⟩:=w;obtain⟨t,T,D⟩:=E.tp;have o:=E.pb;have i:∀{q:Id},q.1=28->q∉[((11,v11):Id)]:=λh e=>(by simp at e;subst e;simp at h);exact⟨G,F.kq E.b8,F.kq E.b5,F.kq E.b6,⟨t,T.fx F (λe=>by simp at e;subst e;simp at o),D⟩,E.kx.fx F<|λq a=> .inr<|by simp at a;subst a;exact E.no.1,o,⟨m,A,g1.fx F λq a=>i (p q a).1⟩,⟨H,C,v.fx F λq a=>i (r q a).1⟩,p,r,E.rd.fx F (λq a=>by simp at a;subst a;exact⟨λe=>by have:=E.pB;rw[<-e] at this;simp at this,by simp,by simp⟩),E.pB,E.no⟩
def a56(E:EvS Y x b l a0 v5 v6 v8 v11 ds B f u kd ob va st dp fr)(n:L Y=4096){j:Nat}(k:j<4)(i:∀r y,EvS Y y b l a0 v5 v6 v8 v11 ds B f u kd ob va st dp fr->(∃m:List Int,L m<=1000/\gm y 3 1 r (m.map ci))->(∀q∈aA r,q.1=28/\∀z,box Y q≠V z)->K r y):cB 167 [.p b 0 0,f j] x d K:=by obtain⟨C,h,g⟩:=E.rd.gr j k;obtain⟨v,T,A⟩:=E.tp;refine jH rfl (bdv (E.le n) (by have:=E.pb;omega) T g h) ?_;rintro r y ⟨m,a2,e,w,c,t,F,p⟩;exact⟨F.len,i r y (E.nx F c<|by omega) ⟨m,by omega,e⟩ λq a=>⟨(p q a).2,λz o=>(p q a).1.no z<|E.kx.keep _ _ (by rw[(p q a).2];decide) o⟩⟩
end
def bcs{Y:ae}{c0 e h i j:Int}{dp fr:AV}{m k:List Int}(g:gm Y 3 1 dp<|m.map ci)(n:gm Y 3 1 fr<|k.map ci):aOo Y (.a [iv c0,iv e,iv h,iv i,iv j,dp,fr])= .a (aP.mk c0 e h i j m k).c:=by show AV.a (List.map gK<|List.map (aQd Y) _)=_;have o:=a6r g;have p:=a6r n;simp only[ji,mU,o,p];rfl
def bdf{Y:ae}{b B:Id}{l:List Int}{a:Nat}{ds:List AV}{s:mn}{f:Nat->AV}(A:L Y=4096)(hb:b.1=14\/b.1=15\/b.1=16)(hB:B.1=20)(T:Tp Y b l a)(hL:Lk ds s.c)(hs:L s.mp.ay<1000)(h3:L s.cells=5)(bd:0<L s.bU)(O:Rds Y B f 1000):∃r Y1,(∃(e:aP) (w:Nat),r= .a e.c/\EvL e/\(0<=e.aq/\e.aq<4)/\Tp Y1 b l w/\a<=w/\(a<L l->a+1<=w)/\Kx [14,15,16] Y Y1)/\cZ aS GG 109 [.p b 0 0, .a ds, .a aNE.c, .m B 4] Y r Y1:=by generalize hQ:(λ(r:AV) (y:ae)=>∃(e:aP) (w:Nat),aOo y r= .a e.c/\EvL e/\(0<=e.aq/\e.aq<4)/\Tp (kills y<|aNW r) b l w/\a<=w/\(a<L l->a+1<=w)/\Kx [14,15,16] Y (kills y<|aNW r))=Qq;refine aQR (R:=Qq) ?_ (λr y h=>by rw[<-hQ] at h;exact h);refine bhy A (oC hL) rfl λs4 v5 v6 K4 cl cm cn b5 b6=>?_;have F4:Fx Y s4 []:=K4.fx [];have bn:=F4.len.trans A;simp only[aSL];refine so bn λv8 s6 M N8 b8=>?_;have S:=F4.trans M;have K6:Kx [14,15,16] Y s6:=S.kx (by simp);have bo:=S.len.trans A;have n8:∀z,box Y (8,v8)≠V z:=(N8.old F4).no;simp only[qz 6];refine aS3 [] bo hb (T.fx S<|by simp) (by simp) λu a1 s8 bu bv T8 cc br K8 _=>?_;have hu:0<=u/\u<4:=⟨bu,bv<|by decide⟩;have al:Kx [14,15,16] Y s8:=K6.kx K8 (by simp);have bp:=al.len.trans A;simp only[qz 8,aPg,ar,↓uL];rintro _ ⟨t,o,rfl⟩;refine⟨by rw[lo,nA];simp,?_⟩;simp only[bdM,u0,↓uL];refine aS3 [] bp hb T8 (by simp) λk a2 bD bl bm aX cd cg ah _=>?_;have hk:aF (L aTp) k:=⟨bl,by have:=bm (by decide);simpa using this⟩;have W:Kx [14,15,16] Y bD:=al.kx ah (by simp);have aK:=W.len.trans A;simp only[qz 10,tf,ci,qM,u0,u1,↓uL];refine⟨hk,?_⟩;generalize gd aTp k.toNat=kd;refine aS3 [] aK hb aX (by simp) λst a3 av cj ck aY cf ch ak _=>?_;have D:Kx [14,15,16] Y av:=W.kx ak (by simp);have aL:=D.len.trans A;have bj:∀{u k st:Int},bM NY aP0 [(0,iv u),(1,iv k),(4,iv st)]=V (.a [iv u,iv k,iv 0,iv 0,iv st, .l [] U U, .l [] U U]):=λ{u k st}=>rfl;simp only[qz 12,qy 14,bj,u0,u1,↓uL];generalize dq.wrap (dq.wrap (u*6)+st)=site;refine so aL λv11 co af am aZ=>?_;refine qr aZ rfl rfl λH ag bb=>?_;have ap:∀z,box Y (11,v11)≠V z:=D.no (by simp) am.no;have X:Kx [14,15,16] Y H:=(D.fx af<|by simp).fx ag λq v=> .inr (by simp at v;subst v;exact ap);have G:Fx av H []:=(af.trans ag).mono λq v=>(by simp at v;subst v;exact .inr am.no);have kk:∀{q:Id} {z:bY},q.1≠14->q.1≠15->q.1≠16->box s6 q=V z->box H q=V z:=λh1 N h3 h=>G.kq (ak.keep _ _ (by simp[h1,N,h3])<|ah.keep _ _ (by simp[h1,N,h3])<|K8.keep _ _ (by simp[h1,N,h3]) h);simp only[qz 16];refine dT (by simp[eL,lb,lbV,J3,dC,dK]) ?_;have E:EvS Y H b l a3 v5 v6 v8 v11 ds B f u kd 0 0 site (.l [] U U) (.l [] U U):=⟨bb,kk (by simp) (by simp) (by simp) b8,kk (by simp) (by simp) (by simp)<|M.kq b5,kk (by simp) (by simp) (by simp)<|M.kq b6,⟨a3,aY.fx G (by simp),dA _⟩,X,hb,⟨[],by simp, .inl ⟨rfl,rfl⟩⟩,⟨[],by simp, .inl ⟨rfl,rfl⟩⟩,by simp[aA],by simp[aA],O.kx X ⟨by rw[hB];decide,by decide,by decide⟩,hB,ap,n8⟩;have aJ:a<L l->a+1<=a3:=λh=>(by have:=br h (by decide);omega);have bV:a<=a3:=(by omega);have ao:u.toNat<4:=(by omega);have r7:=@r7A;have uQ:aN (V 7) ds=V (.a ds):=(by have:=oC hL;simp[aN,this,oB<|Nat.le_of_eq this]);refine bjf (λi=>∀{x st},EvS Y x b l a3 v5 v6 v8 v11 ds B f u kd 0 0 st (.l [] U U) (.l [] U U)->i [] x) (λ{x st} E=>?_) λJ4 h4=>?_;(focus simp only[qz 27,aI,u0,u1,E.bx,k1A,nM,ip,aj,↓uL];obtain⟨w,T',bi⟩:=E.tp;refine jH rfl (bdk (E.le A) T') ?_;rintro _ y ⟨ob,a2,rfl,ho,T2,N,F2⟩;refine⟨F2.len,?_⟩;have j:=E.nx F2 T2 (by omega);simp only[qz 20,u0,u1,j.bx,aj,↓uL];refine A0 j.bx rfl (by simp) λz Fz bz=>?_;have P:=j.set Fz bz j.gd j.gf j.pd j.pf;obtain⟨a5,T5,h5⟩:=P.tp;simp only[qz 22,u0,u1,P.bx,P.b5,uQ,k1A,nM,ip,aj,↓uL];refine jH rfl (bdD (P.le A) T5 hL hs (λh=>?_) bd) ?_;rw[h3];exact ho<|.inl h;rintro _ y2 ⟨va,a6,rfl,T6,h6,M⟩;refine⟨M.len,?_⟩;have C:=P.nx M T6 (by omega);simp only[qz 24,u0,u1,C.bx,aj,↓uL];refine A0 C.bx rfl (by simp) λz2 aV ba=>?_;have E:=C.set aV ba C.gd C.gf C.pd C.pf;simp only[qz 26,↓uL];refine bjf (λi=>∀{x ob va st dp fr},EvS Y x b l a3 v5 v6 v8 v11 ds B f u kd ob va st dp fr->i [] x) (λ{x ob va st dp fr} E=>?_) λJ8 h8=>?_;(focus simp only[qz 51,aI,↓uL];refine bjf (λi=>∀{x ob va st dp fr},EvS Y x b l a3 v5 v6 v8 v11 ds B f u kd ob va st dp fr->i [] x) (λ{x ob va st dp fr} E=>?_) λcb an=>?_;simp only[qz 63,qy 36,aI,u0,u1,E.bx,r7,ip,↓uL];refine qr E.b8 rfl rfl λy F b=>?_;simp only[b,u0,u1,r7,↓uL];obtain⟨m,h1,g1⟩:=E.gd;obtain⟨m2,N,g2⟩:=E.gf;have au:∀{q:Id},q.1=28->q∉[((8,v8):Id)]:=λh e=>(by simp at e;subst e;simp at h);have y1:=g1.fx F λq v=>au (E.pd q v).1;have y2:=g2.fx F λq v=>au (E.pf q v).1;obtain⟨w,T',bi⟩:=E.tp;have ei:aNW (.a [iv u,iv kd,iv ob,iv va,iv st,dp,fr])=aA dp++aA fr:=(by have i1:=aQX y1;have i2:=aQX y2;have e0:∀{n:Int},iR (iv n)=[]:=rfl;simp only[aNW,eB,Cz,List.flatMap_nil,i1,i2,e0,dW,List.append_nil]);have nb:∀q∈aA dp++aA fr,q.1=28/\∀z,box Y q≠V z:=λq v=>(by rcases dF.1 v with h|h;exact E.pd q h;exact E.pf q h);have bs:=E.pb;show Qq (.a [iv u,iv kd,iv ob,iv va,iv st,dp,fr]) y;rw[<-hQ];refine⟨_,w,bcs y1 y2,⟨h1,N⟩,hu,?_,by omega,λh=>by have:=aJ h;omega,?_⟩;rw[ei];exact(T'.fx F (λe=>by simp at e;subst e;simp at bs)).fx (aOp _ _) λe=>(by have:=(nb _ e).1;omega);rw[ei];exact(E.kx.fx F<|λq v=> .inr<|by simp at v;subst v;exact E.no.2).fx (aOp _ _) λq v=> .inr (nb q v).2;rcases q4:Q (kd=4) with _|_<;>rcases bA:Q (kd=22) with _|_<;>simp only[qz 65,u0,u1,E.bx,k1A,nM,ip,aj,q4,bA,↓jA,↓jN,ya,bt,↓uL];exact an E;all_goals refine E.rd.rd hu ?_;refine a56 E A ao λr y j Z pr=>?_;have cr:eY r=V [r]:=(by obtain⟨m,_,g⟩:=Z;exact g.ce);simp only[qz 32,qy 34,u0,u1,j.bx,aj,↓uL];refine A0 j.bx cr (by simp) λz F b=>?_;exact an<|j.set F b j.gd Z j.pd pr);have aR:aN J aNE.c=V (sl cA.c aNE.cells):=rfl;have bk:L aNE.cells=5:=rfl;rcases q5:Q (kd=5) with _|_<;>rcases q3:Q (kd=3) with _|_<;>rcases q4:Q (kd=4) with _|_<;>simp only[qz 53,u0,u1,E.bx,E.b6,k1A,aR,nM,ip,aj,q5,q3,q4,↓jA,↓jN,ya,Aa,bt,↓uL];exact h8 E;(all_goals try have h5:=ho (by simp only[aBY,aNG] at q3 q4;omega);simp only[aCd,u0,u1,cA.c,aC6,nM,ip,k1A,↓uL];refine⟨⟨h5.1,by rw[bk];exact h5.2⟩,λ_=>?_,λ_=>h8 E⟩);all_goals refine E.rd.rd hu ?_;refine a56 E A ao λr y j Z pr=>?_;have cr:eY r=V [r]:=(by obtain⟨m,_,g⟩:=Z;exact g.ce);simp only[qz 28,qy 30,u0,u1,j.bx,aj,↓uL];refine A0 j.bx cr (by simp) λz F b=>?_;exact h8<|j.set F b Z j.gf pr j.pf);rcases q1:Q (kd=1) with _|_<;>rcases q2:Q (kd=2) with _|_<;>simp only[qz 29,qy 18,u0,u1,E.bx,k1A,nM,ip,aj,q1,q2,↓jA,↓jN,ya,bt,↓uL];exact h4 E;all_goals refine A0 E.bx rfl (by simp) λz F bz=>?_;exact h4<|E.set F bz E.gd E.gf E.pd E.pf
def bcM{Y:ae}{e n:TypeId}{z v:Nat}{a k:AV}{r t:List (List AV)}(g:gm Y e z a r)(o:gm Y n v k t)(h:e≠n):∀q∈aA k,q∉aA a:=λq i j=>by
 rcases g with⟨_,rfl⟩|⟨b,m,rfl,p⟩
 ·simp[aA] at j
 rcases o with⟨_,rfl⟩|⟨w,m',rfl,c⟩
 ·simp[aA] at i
 simp only[aA,cE] at j i
 subst j i
 rw[p] at c;exact h<|bhO bY.elem<|xu c
def gm.fn{Y Y':ae}{e c:TypeId}{z m:Nat}{a i:AV}{r k:List (List AV)}(j:gm Y c m i k)(F:Fx Y Y'<|aA a)(g:gm Y e z a r)(h:e≠c:=by decide):gm Y' c m i k:=j.fx F<|bcM g j h
section
variable{Y x y:ae}{s:mn}{a1 a2 a3 a4 a5 a6:AV}{KS:ae->Prop}
theorem SnL.keep(S:SnL Y x s a1 a2 a3 a4 a5 a6){c:List Id}(F:Fx x y c)(h:∀q∈c,q.1≠6/\q.1≠32/\q.1≠10/\q.1≠14):SnL Y y s a1 a2 a3 a4 a5 a6:=⟨S.g1.fx F λq a e=>(h q e).1 (S.p1 q a).2,S.g2.fx F λq a e=>(h q e).1 (S.p2 q a).2,S.g3.fx F λq a e=>(h q e).1 (S.p3 q a).2,S.g4.fx F λq a e=>(h q e).2.1 (S.p4 q a).2,S.g5.fx F λq a e=>(h q e).2.2.1 (S.p5 q a).2,S.g6.fx F λq a e=>(h q e).2.2.2 (S.p6 q a).2,S.p1,S.p2,S.p3,S.p4,S.p5,S.p6⟩
theorem SnL.old{a:ae}{c:List Id}(S:SnL Y x s a1 a2 a3 a4 a5 a6)(F:Fx a Y c):SnL a x s a1 a2 a3 a4 a5 a6:=⟨S.g1,S.g2,S.g3,S.g4,S.g5,S.g6,λq h=>⟨(S.p1 q h).1.old F,(S.p1 q h).2⟩,λq h=>⟨(S.p2 q h).1.old F,(S.p2 q h).2⟩,λq h=>⟨(S.p3 q h).1.old F,(S.p3 q h).2⟩,λq h=>⟨(S.p4 q h).1.old F,(S.p4 q h).2⟩,λq h=>⟨(S.p5 q h).1.old F,(S.p5 q h).2⟩,λq h=>⟨(S.p6 q h).1.old F,(S.p6 q h).2⟩⟩
theorem a7V{α:Type}[Inhabited α]{c:α->List AV}{e:TypeId}{z:Nat}{a:AV}{l:List α}(g:gm x e z a<|l.map c)(N:∀y,L (c y)=z){i:Int}(k:aF (L l) i){j:Nat}{v:AV}{t:α}(G:j<z)(D:eY (nrm<|eR x v)=V [nrm<|eR x v])(E:eN (nrm<|eR x v)=U)(hI:eB v=[]){o:AV->be}(M:(c<|gd l i.toNat).set j (nrm<|eR x v)=c t)(A:∀p h y,Fx x y (aA a)->gm y e z a ((l.set i.toNat t).map c)->o p h y):rV (cz z x a<|iv i) λp=>rV (iQ j x p) λh=>sV (aK 1 x h v) (o p h):=by refine ixG g (by simpa using k) λb m C w=>?_;have H:i.toNat<L l:=(by have:=k.1;have:=k.2;omega);simp only[rR,w,df,aY,aj];refine aQz (r:=c<|gd l i.toNat) w (by grind [bT]) (by simp_all) D E hI λy F q=>?_;have n:(l.map c++m).set i.toNat ((c<|gd l i.toNat).set j<|nrm<|eR x v)=(l.set i.toNat t).map c++m:=(by simp_all);rw[n] at q;exact A _ _ y (by grind [aA]) (.inr ⟨b,m,by rw[C];simp,q⟩)
end
def sz5(s:mn):Prop:=L s.mp.ak=3/\L s.mp.done=1/\L s.mp.ay=4/\L s.cells=5/\L s.bU=1/\L s.count=4/\(∀q∈s.mp.ak,L q.bk<=1)/\∀c∈s.count,0<=c/\c<=400
structure Bg(Y x:ae)(b:Id)(l:List Int)(a0 v4 v8:Nat)(a1 a2 a3 a4 a5 a6:AV):Prop where
 ex:∃s:mn,SnL Y x s a1 a2 a3 a4 a5 a6/\sz5 s/\box x (5,v8)=V ⟨40,7,U,U,[[a1,iv s.mp.tx,a2,a3,a4,a5,a6]]⟩
 b4:box x (4,v4)=V ⟨40,7,U,U,[BF]⟩
 tp:∃a',Tp x b l a'/\a0<=a'
 kx:Kx [14,15,16] Y x
 pb:b.1=14\/b.1=15\/b.1=16
 no:(∀z,box Y (4,v4)≠V z)/\∀z,box Y (5,v8)≠V z
section
variable{Y x y:ae}{b:Id}{l:List Int}{a0 v4 v8 d:Nat}{a1 a2 a3 a4 a5 a6:AV}{K:be}{KS:ae->Prop}
theorem Bg.le(B:Bg Y x b l a0 v4 v8 a1 a2 a3 a4 a5 a6)(h:L Y=4096):L x=4096:=B.kx.len.trans h
theorem aPS(B:Bg Y x b l a0 v4 v8 a1 a2 a3 a4 a5 a6)(t:L Y=4096){n:Int}(r:∀(u:Int) y,0<=u->(1<=n->u<n)->Bg Y y b l a0 v4 v8 a1 a2 a3 a4 a5 a6->K (iv u) y):cV 107 [.p b 0 0,iv n] x d K:=by obtain⟨s,S,v,j⟩:=B.ex;obtain⟨w,T,A⟩:=B.tp;refine aS3 (aA a6) (B.le t) B.pb T (λq g=>⟨.inl (S.p6 q g).2,?_⟩) λu e y k o i z _ a kp=>r u y k o ⟨⟨s,⟨a.gr S.g1 λq h=>by rw[(S.p1 q h).2];decide,a.gr S.g2 λq h=>by rw[(S.p2 q h).2];decide,a.gr S.g3 λq h=>by rw[(S.p3 q h).2];decide,a.gr S.g4 λq h=>by rw[(S.p4 q h).2];decide,a.gr S.g5 λq h=>by rw[(S.p5 q h).2];decide,?_,S.p1,S.p2,S.p3,S.p4,S.p5,S.p6⟩,v,a.kq j⟩,a.kq B.b4,⟨e,i,by omega⟩,B.kx.kx a (by simp),B.pb,B.no⟩;rcases S.g6 with⟨_,rfl⟩|⟨c,m,rfl,h⟩;simp[aA] at g;grind [aA];rcases S.g6 with h|⟨c,m,rfl,h⟩;exact .inl h;exact .inr ⟨c,m,rfl,kp c (by simp[aA]) _ h⟩
theorem a5S(B:Bg Y x b l a0 v4 v8 a1 a2 a3 a4 a5 a6)(n:L Y=4096){t:Int}(m:∀(u:Int) y,(u= -1\/aF 4 u)->Bg Y y b l a0 v4 v8 a1 a2 a3 a4 a5 a6->K (iv u) y):cB 108 [.p b 0 0, .a [a1,iv t,a2,a3,a4,a5,a6]] x d K:=by obtain⟨s,S,j,A⟩:=B.ex;obtain⟨w,T,D⟩:=B.tp;have o:=B.pb;have v:L s.count=4:=j.2.2.2.2.2.1;refine jH rfl (bdc (B.le n) T S.g6<|by omega) ?_;rintro _ y ⟨u,h,rfl,i,k,C,F⟩;rw[v] at i;have c:∀{a:AV} {e:TypeId} {z:Nat} {r:List (List AV)},gm x e z a r->gm y e z a r:=λg=>g.fx F<|aTE T g;have E:∀{q:Id},q.1≠14->q.1≠15->q.1≠16->q∉[b]:=(by grind);exact⟨F.len,m u y i ⟨⟨s,⟨c S.g1,c S.g2,c S.g3,c S.g4,c S.g5,c S.g6,S.p1,S.p2,S.p3,S.p4,S.p5,S.p6⟩,j,by grind [Fx.keep]⟩,(by grind [Fx.keep,Bg.b4]),⟨h,k,by omega⟩,B.kx.fx F (by simp_all),o,B.no⟩⟩
theorem Bg.wr(B:Bg Y x b l a0 v4 v8 a1 a2 a3 a4 a5 a6){a:List Id}(F:Fx x y a)(h:∀q∈a,bK Y q/\(q.1=6\/q.1=32\/q.1=10\/q.1=14))(j:∀q∈a,∀z,box x q=V z->z.var=U->False){s:mn}(S:SnL Y y s a1 a2 a3 a4 a5 a6)(m:sz5 s)(i:∃z,box x (5,v8)=V z/\z=⟨40,7,U,U,[[a1,iv s.mp.tx,a2,a3,a4,a5,a6]]⟩):Bg Y y b l a0 v4 v8 a1 a2 a3 a4 a5 a6:=by obtain⟨c,T,g⟩:=B.tp;obtain⟨z,k,rfl⟩:=i;exact⟨(by grind [Fx.keep]),(by grind [Fx.keep,Bg.b4]),⟨c,T.fx F λe=>j b e _ T.bx rfl,g⟩,B.kx.fx F (by grind [bK.no]),B.pb,B.no⟩
theorem baw(B:Bg Y x b l a0 v4 v8 a1 a2 a3 a4 a5 a6){i v:Int}(o:aF 4 i)(n:0<=v/\v<=400){e:be}(k:∀p y,Bg Y y b l a0 v4 v8 a1 a2 a3 a4 a5 a6->e p y):rV (cz 1 x a6<|iv i) λp=>sV (aK 1 x p<|iv v) (e p):=by obtain⟨s,S,a,g⟩:=B.ex;have q:L s.count=4:=a.2.2.2.2.2.1;refine aR5 S.g6 (by simp_all) λp y F j=>k p y (B.wr F (by grind [SnL.p6]) (aNO S.g6) (s:={s with count:=s.count.set i.toNat v}) ⟨S.g1.fn F S.g6,S.g2.fn F S.g6,S.g3.fn F S.g6,S.g4.fn F S.g6,S.g5.fn F S.g6,j,S.p1,S.p2,S.p3,S.p4,S.p5,S.p6⟩ ⟨a.1,a.2.1,a.2.2.1,a.2.2.2.1,a.2.2.2.2.1,by grind,a.2.2.2.2.2.2.1,λc m=>by rcases CC m with h|rfl;exact a.2.2.2.2.2.2.2 c h;exact n⟩ ⟨_,g,rfl⟩)
theorem bav(B:Bg Y x b l a0 v4 v8 a1 a2 a3 a4 a5 a6){i v:Int}(m:aF 5 i){a:be}(j:∀p y,Bg Y y b l a0 v4 v8 a1 a2 a3 a4 a5 a6->a p y):rV (cz 1 x a4<|iv i) λp=>sV (aK 1 x p<|iv v) (a p):=by obtain⟨s,S,k,c⟩:=B.ex;have n:L s.cells=5:=k.2.2.2.1;refine aR5 S.g4 (by simp_all) λp y F e=>j p y (B.wr F (by grind [SnL.p4]) (aNO S.g4) (s:={s with cells:=s.cells.set i.toNat v}) ⟨S.g1.fn F S.g4,S.g2.fn F S.g4,S.g3.fn F S.g4,e,S.g5.fx F (λq h g=>by have:=(S.p5 q h).2;have:=(S.p4 q g).2;omega),S.g6.fn F S.g4,S.p1,S.p2,S.p3,S.p4,S.p5,S.p6⟩ (by grind [sz5]) ⟨_,c,rfl⟩)
theorem bay(B:Bg Y x b l a0 v4 v8 a1 a2 a3 a4 a5 a6){i v:Int}(m:aF 1 i){a:be}(j:∀p y,Bg Y y b l a0 v4 v8 a1 a2 a3 a4 a5 a6->a p y):rV (cz 1 x a5<|iv i) λp=>sV (aK 1 x p<|iv v) (a p):=by obtain⟨s,S,k,c⟩:=B.ex;have n:L s.bU=1:=k.2.2.2.2.1;refine aR5 S.g5 (by simp_all) λp y F e=>j p y (B.wr F (by grind [SnL.p5]) (aNO S.g5) (s:={s with bU:=s.bU.set i.toNat v}) ⟨S.g1.fn F S.g5,S.g2.fn F S.g5,S.g3.fn F S.g5,S.g4.fx F (λq h g=>by have:=(S.p4 q h).2;have:=(S.p5 q g).2;omega),e,S.g6.fn F S.g5,S.p1,S.p2,S.p3,S.p4,S.p5,S.p6⟩ (by grind [sz5]) ⟨_,c,rfl⟩)
theorem a5T(B:Bg Y x b l a0 v4 v8 a1 a2 a3 a4 a5 a6){i:Int}(e:aF 3 i){j:Nat}{v:AV}(E:(j=0/\∃u:Int,v=iv u)\/(j=1/\∃(u:Int) (t o:Bool),v= .l [[iv u]] t o))(w:∀y,Bg Y y b l a0 v4 v8 a1 a2 a3 a4 a5 a6->KS y):rV (cz 2 x a1<|iv i) λp=>rV (iQ j x p) λG=>sV (aK 1 x G v) KS:=by obtain⟨s,S,a,g⟩:=B.ex;have H:L s.mp.ak=3:=a.1;obtain⟨t,D,C,z,m,n,r⟩:∃t:cg,(cg.c<|gd s.mp.ak i.toNat).set j (nrm<|eR x v)=t.c/\L t.bk<=1/\j<2/\eY (nrm<|eR x v)=V [nrm<|eR x v]/\eN (nrm<|eR x v)=U/\eB v=[]:=(by rcases E with⟨rfl,u,rfl⟩|⟨rfl,u,t,o,rfl⟩;refine⟨⟨u,(gd s.mp.ak i.toNat).bk⟩,rfl,a.2.2.2.2.2.2.1 (gd s.mp.ak i.toNat) (dB ?_),by decide,rfl,rfl,rfl⟩;have:=e.1;have:=e.2;omega;exact⟨⟨(gd s.mp.ak i.toNat).pw,[u]⟩,rfl,by simp,by decide,rfl,rfl,rfl⟩);refine a7V S.g1 (λ_=>rfl) (by simp_all) z m n r D λ_ _ y F k=>w y (B.wr F (by grind [SnL.p1]) (aNO S.g1) (s:={s with mp:={s.mp with ak:=s.mp.ak.set i.toNat t}}) ⟨k,S.g2.fn F S.g1,S.g3.fn F S.g1,S.g4.fn F S.g1,S.g5.fn F S.g1,S.g6.fn F S.g1,S.p1,S.p2,S.p3,S.p4,S.p5,S.p6⟩ ⟨by grind,a.2.1,a.2.2.1,a.2.2.2.1,a.2.2.2.2.1,a.2.2.2.2.2.1,λq A=>?_,a.2.2.2.2.2.2.2⟩ ⟨_,g,rfl⟩);rcases CC A with h|rfl;exact a.2.2.2.2.2.2.1 q h;exact C
theorem bfp{e:TypeId}{z:Nat}{aa:List (List AV)}{r:List AV}{q:Id}{i:Nat}{cs:List AV}(c:box x q=V ⟨e,z,U,I,aa⟩)(g:aa[i]?=V r)(m:L r=z)(n:L cs=z)(o:cs.all eN=U)(k:nrm (eR x<|.a cs)= .a cs)(hI:eB (.a cs)=[])(j:∀Y',Fx x Y' [q]->box Y' q=V ⟨e,z,U,I,aa.set i cs⟩->KS Y'):sV (aK z x (.p q i 0)<|.a cs) KS:=by have h:aK z x (.p q i 0) (.a cs)=V (wr x q ⟨e,z,U,I,aa.set i cs⟩):=(by simp only[aK,aBG,c,eE,bhR,hI,kills,aRl,k,pW,eY,g];grind);rw[h];exact j _ (wc c)<|lO c
theorem baC(B:Bg Y x b l a0 v4 v8 a1 a2 a3 a4 a5 a6){i st:Int}(j:aF 4 i)(n:∀y,Bg Y y b l a0 v4 v8 a1 a2 a3 a4 a5 a6->KS y):rV (cz 3 x a3<|iv i) λp=>sV (aK 3 x p<|.a [iv st,iv 0,bv I]) KS:=by obtain⟨s,S,v,k⟩:=B.ex;have z:L s.mp.ay=4:=v.2.2.1;have w:i.toNat<L s.mp.ay:=(by have:=j.1;have:=j.2;omega);refine ixG S.g3 (by simp_all) λq m o t=>?_;refine bfp t (r:=aoC.c<|gd s.mp.ay i.toNat) (by grind [bT]) rfl rfl rfl rfl rfl λy F h=>?_;have e:Fx x y (aA a3):=(by grind [aA]);have g:(s.mp.ay.map aoC.c++m).set i.toNat [iv st,iv 0,bv I]=(s.mp.ay.set i.toNat ⟨st,0,I⟩).map aoC.c++m:=(by rw[List.set_append_left _ _ (by grind),vB];rfl);rw[g] at h;exact n y (B.wr e (by grind [SnL.p3]) (aNO S.g3) (s:={s with mp:={s.mp with ay:=s.mp.ay.set i.toNat ⟨st,0,I⟩}}) ⟨S.g1.fn e S.g3,S.g2.fn e S.g3, .inr ⟨q,m,by rw[o];simp,h⟩,S.g4.fn e S.g3,S.g5.fn e S.g3,S.g6.fn e S.g3,S.p1,S.p2,S.p3,S.p4,S.p5,S.p6⟩ (by grind [sz5]) ⟨_,k,rfl⟩)
end
section
variable{Y x y:ae}{b:Id}{l:List Int}{a0 v4 v8 d:Nat}{a1 a2 a3 a4 a5 a6:AV}{K:be}{KS:ae->Prop}
theorem bat(B:Bg Y x b l a0 v4 v8 a1 a2 a3 a4 a5 a6){i:Int}{f:Bool}(k:aF 4 i){c:AV->be}(h:∀p a y,Bg Y y b l a0 v4 v8 a1 a2 a3 a4 a5 a6->c p a y):rV (cz 3 x a3<|iv i) λp=>rV (iQ 2 x p) λa=>sV (aK 1 x a<|bv f) (c p a):=by obtain⟨s,S,j,e⟩:=B.ex;have m:L s.mp.ay=4:=j.2.2.1;refine a7V S.g3 (λ_=>rfl) (by simp_all) (by decide) rfl rfl rfl (t:={gd s.mp.ay i.toNat with atomic:=f}) rfl λp a y F g=>h p a y (B.wr F (by grind [SnL.p3]) (aNO S.g3) (s:={s with mp:={s.mp with ay:=s.mp.ay.set i.toNat {gd s.mp.ay i.toNat with atomic:=f}}}) ⟨S.g1.fn F S.g3,S.g2.fn F S.g3,g,S.g4.fn F S.g3,S.g5.fn F S.g3,S.g6.fn F S.g3,S.p1,S.p2,S.p3,S.p4,S.p5,S.p6⟩ (by grind [sz5]) ⟨_,e,rfl⟩)
theorem bax(B:Bg Y x b l a0 v4 v8 a1 a2 a3 a4 a5 a6){i:Int}{f:Bool}(g:aF 1 i)(j:∀y,Bg Y y b l a0 v4 v8 a1 a2 a3 a4 a5 a6->KS y):rV (cz 1 x a2<|iv i) λp=>sV (aK 1 x p<|bv f) KS:=by obtain⟨s,S,o,h⟩:=B.ex;have v:L s.mp.done=1:=o.2.1;have t:i.toNat<L s.mp.done:=(by have:=g.1;have:=g.2;omega);refine ixG S.g2 (by simp_all) λq m k n=>?_;refine aQz (x:=bv f) (r:=cb<|gd s.mp.done i.toNat) n (by grind [bT]) (by simp[cb]) rfl rfl rfl λy F e=>?_;have a:Fx x y (aA a2):=(by grind [aA]);have c:(s.mp.done.map cb++m).set i.toNat ((cb<|gd s.mp.done i.toNat).set 0<|nrm<|eR x<|bv f)=(s.mp.done.set i.toNat f).map cb++m:=(by rw[List.set_append_left _ _ (by grind),vB];rfl);rw[c] at e;exact j y (B.wr a (by grind [SnL.p2]) (aNO S.g2) (s:={s with mp:={s.mp with done:=s.mp.done.set i.toNat f}}) ⟨S.g1.fn a S.g2, .inr ⟨q,m,by rw[k];simp,e⟩,S.g3.fn a S.g2,S.g4.fn a S.g2,S.g5.fn a S.g2,S.g6.fn a S.g2,S.p1,S.p2,S.p3,S.p4,S.p5,S.p6⟩ (by grind [sz5]) ⟨_,h,rfl⟩)
theorem baD(B:Bg Y x b l a0 v4 v8 a1 a2 a3 a4 a5 a6){t:Int}(h:∀y,Bg Y y b l a0 v4 v8 a1 a2 a3 a4 a5 a6->KS y):sV (aK 1 x (.p (5,v8) 0 1)<|iv t) KS:=by obtain⟨s,S,k,e⟩:=B.ex;obtain⟨c,T,i⟩:=B.tp;have j:=B.pb;refine A0 e rfl (by simp) λy F g=>h y ⟨⟨{s with mp:={s.mp with tx:=t}},(by have a:=S.keep F (by simp);exact⟨a.g1,a.g2,a.g3,a.g4,a.g5,a.g6,a.p1,a.p2,a.p3,a.p4,a.p5,a.p6⟩),k,g⟩,F.kq B.b4,⟨c,(by grind [Tp.fx]),i⟩,B.kx.fx F (by grind [Bg.no]),j,B.no⟩
theorem baB(B:Bg Y x b l a0 v4 v8 a1 a2 a3 a4 a5 a6):∃st:Nat->Int,∀{i:Int} {K:o8},aF 4 i->K (iv<|st i.toNat)->rV (cz 3 x a3<|iv i) λp=>rV (iQ 0 x p) λn=>rV (lS J x n) K:=by obtain⟨s,S,j,o⟩:=B.ex;have v:L s.mp.ay=4:=j.2.2.1;refine⟨λk=>(gd s.mp.ay k).cQ,λ{i K} a h=>?_⟩;have t:i.toNat<L s.mp.ay:=(by have:=a.1;have:=a.2;omega);refine ixG S.g3 (by simp_all) λq m r e=>?_;have g:(s.mp.ay.map aoC.c++m)[i.toNat]?=V (aoC.c<|gd s.mp.ay i.toNat):=(by grind [bT]);simp only[rR,aC5,e,df,qd,g,aY,aj,ip,aoC.c,k1A];exact h
theorem aN5(B:Bg Y x b l a0 v4 v8 a1 a2 a3 a4 a5 a6){j:Nat}:iQ j x (.p (5,v8) 0 0)=V (.p (5,v8) 0 j):=by grind [Bg.ex,rR]
theorem aRC(B:Bg Y x b l a0 v4 v8 a1 a2 a3 a4 a5 a6):lS J x (.p (5,v8) 0 0)=V a1:=by grind [Bg.ex,aC5,k1A]
theorem baz(B:Bg Y x b l a0 v4 v8 a1 a2 a3 a4 a5 a6):lS J x (.p (5,v8) 0 2)=V a2:=by grind [Bg.ex,aC5,k1A]
theorem aS0(B:Bg Y x b l a0 v4 v8 a1 a2 a3 a4 a5 a6):lS J x (.p (5,v8) 0 3)=V a3:=by obtain⟨s,S,c,a⟩:=B.ex;grind [aC5,k1A]
def a5U(B:Bg Y x b l a0 v4 v8 a1 a2 a3 a4 a5 a6):lS J x (.p (5,v8) 0 4)=V a4:=by obtain⟨s,S,c,a⟩:=B.ex;rw[aC5,a];simp[k1A]
def baA(B:Bg Y x b l a0 v4 v8 a1 a2 a3 a4 a5 a6):lS J x (.p (5,v8) 0 5)=V a5:=by obtain⟨s,S,c,a⟩:=B.ex;rw[aC5,a];simp[k1A]
def a5V(B:Bg Y x b l a0 v4 v8 a1 a2 a3 a4 a5 a6):lS J x (.p (5,v8) 0 6)=V a6:=by obtain⟨s,S,c,a⟩:=B.ex;rw[aC5,a];simp[k1A]
def a5W(B:Bg Y x b l a0 v4 v8 a1 a2 a3 a4 a5 a6):∃t:Int,lS (V 7) x (.p (5,v8) 0 0)=V (.a [a1,iv t,a2,a3,a4,a5,a6]):=by obtain⟨s,S,e,c⟩:=B.ex;exact⟨s.mp.tx,by rw[aC5,c];rfl⟩
def aV3(B:Bg Y x b l a0 v4 v8 a1 a2 a3 a4 a5 a6):fS x a1=V (iv (3:Nat))/\fS x a4=V (iv (5:Nat))/\fS x a6=V (iv (4:Nat)):=by obtain⟨s,S,a,c⟩:=B.ex;refine⟨?_,?_,?_⟩;rw[S.g1.ln,bJ,a.1];rw[S.g4.ln,bJ,a.2.2.2.1];rw[S.g6.ln,bJ,a.2.2.2.2.2.1]
end
def baP{Y:ae}:aX bH 9 Y [(0,iv 2),(1,iv 2),(2,iv 2),(3,iv 2),(4,iv 0),(5,iv 1),(6,iv 3),(7,iv 4),(8,iv 5)]=V (.l ([2,2,2,2,0,1,3,4,5].map ci) U U,Y):=by kernel_rfl
section
attribute[local irreducible] aX
def bdb{Y:ae}{b:Id}{l:List Int}{a:Nat}(m:L Y=4096)(hb:b.1=14\/b.1=15\/b.1=16)(T:Tp Y b l a):∃r Y1,(∃(s:mn) (E:Nat),r= .a s.c/\sz5 s/\Tp Y1 b l E/\a<=E/\Kx [14,15,16] Y Y1)/\cZ aS GG 57 [.p b 0 0, .a aNE.c] Y r Y1:=by generalize hQ:(λ(r:AV) (y:ae)=>∃(s:mn) (E:Nat),aOo y r= .a s.c/\sz5 s/\Tp (kills y<|aNW r) b l E/\a<=E/\Kx [14,15,16] Y (kills y<|aNW r))=Qq;refine aQR (R:=Qq) ?_ (by grind);refine bhw m rfl λs2 v3 K2 bu nf b3=>?_;have F2:Fx Y s2 []:=K2.fx [];have aJ:=F2.len.trans m;simp only[aSH];refine so aJ λv4 s4 F4 N4 b4=>?_;have M:=F2.trans F4;have ah:=M.len.trans m;have c3:=F4.kq b3;have aQ:aN (V 6) aNE.c=V (.a aNE.c):=rfl;simp only[qz 4,u0,u1,c3,aQ,ip,↓uL];refine jH rfl (aXI (w:=aNE) ah (by decide) (by decide) (by decide)<|by decide) ?_;rintro _ s7 ⟨a1,a2,a3,a4,a5,a6,rfl,S,F7⟩;refine⟨F7.len,?_⟩;have aL:=F7.len.trans ah;simp only[qz 6,qy 8];refine so aL λv8 s9 F9 N8 b8=>?_;refine qr b8 rfl rfl λaR W c8=>?_;have aA:Fx s4 s9 []:=F7.trans F9;have af:Fx Y s9 []:=M.trans aA;have n8:∀z,box Y (5,v8)≠V z:=(N8.old<|M.trans F7).no;have n4:∀z,box Y (4,v4)≠V z:=(N4.old F2).no;have P:Bg Y aR b l a v4 v8 a1 a2 a3 a4 a5 a6:=⟨⟨aH6 aNE,((S.keep F9<|by simp).keep W<|by simp).old M,⟨rfl,rfl,rfl,rfl,rfl,rfl,by decide,by decide⟩,c8⟩,(by grind [Fx.keep]),⟨a,(T.fx af<|by simp).fx W (by grind),dA _⟩,(af.kx<|by simp).fx W (by simp_all),hb,n4,n8⟩;have bj:=P.le m;have aD:∀{x:ae},Bg Y x b l a v4 v8 a1 a2 a3 a4 a5 a6->rV (lS (V 7) x<|.p (5,v8) 0 0) λaw=>sV (aK 7 x (.p (4,v4) 0 0) aw) λab=>rV (lS (V 7) ab<|.p (4,v4) 0 0) λax=>fe Qq ab [ax]:=λ{x} B=>(by obtain⟨s,S,hz,b8⟩:=B.ex;obtain⟨E,T',ha⟩:=B.tp;have O:=@r7A;simp only[u1,b8,O,aY,ip];refine qr B.b4 rfl rfl λy F aC=>?_;simp only[u1,aC,O,aY];have S':=S.keep F (by simp);show Qq (.a [a1,iv s.mp.tx,a2,a3,a4,a5,a6]) y;rw[<-hQ];refine⟨s,E,?_,hz,(T'.fx F<|by grind).fx (aOp _ _)<|λe=>(S'.ids b e).1.no _ T.bx,ha,(B.kx.fx F<|by simp_all).fx (aOp _ _) λq hq=> .inr (S'.ids q hq).1.no⟩;show AV.a (List.map gK<|List.map (aQd y) _)=_;rw[vA];exact bhO AV.a S'.lz);have i4:∀{k:Nat},k<4->aF 4 (k:Int):=λh=>⟨by omega,by omega⟩;simp only[qz 10,aN5 P,a5V P,(aV3 P).2.2,aY,↓uL];refine yV 4 (λ_ _ y=>Bg Y y b l a v4 v8 a1 a2 a3 a4 a5 a6) P ?_;rintro k _ x hk B;rcases t:Q ((k:Int)<((4:Nat):Int)) with _|_;simp only[qz 25,aI,au,av4,aY,t,↓iB,aN5 B,aRC B,(aV3 B).1,↓uL];refine yV 3 (λ_ _ y=>Bg Y y b l a v4 v8 a1 a2 a3 a4 a5 a6) B ?_;rintro k _ x hk B;rcases t:Q ((k:Int)<((3:Nat):Int)) with _|_;simp only[qz 103,aI,au,av4,aY,t,↓iB,↓uL];refine bjf (λg=>∀{x:ae},Bg Y x b l a v4 v8 a1 a2 a3 a4 a5 a6->g [] x) ?_ λg X=>?_;intro x B;simp only[qz 159,aI,↓uL];refine bjf (λg=>∀{x:ae},Bg Y x b l a v4 v8 a1 a2 a3 a4 a5 a6->g [] x) ?_ λg Z=>?_;intro x B;simp only[qz 171,aI,aN5 B,a5U B,(aV3 B).2.1,aY,↓uL];refine yV 5 (λ_ _ y=>Bg Y y b l a v4 v8 a1 a2 a3 a4 a5 a6) B ?_;rintro k _ x hk B;rcases t:Q ((k:Int)<((5:Nat):Int)) with _|_;simp only[qz 199,qy 54,aI,au,av4,aY,t,↓iB,↓uL];exact aD B;have o:k<5:=(by grind);simp only[qz 199,qy 54,aI,au,av4,aY,t,↓iC,aN5 B,a5U B,↓uL];refine aPS B m λu y N G i=>?_;simp only[qz 50,au,↓uL];refine bav i ⟨by omega,by omega⟩ λp y2 j=>?_;simp only[qz 52,↓uL];refine dT (by simp[eL,lb,lbV,J3,dC,dK]) ?_;simp only[au,cS,aY,↓uL];exact yU o j;simp only[qz 173,↓uL];refine aPS B m λu y N G i=>?_;rcases n:Q (u=2) with _|_;simp only[qz 42,iM,aY,n,↓iB,↓uL];exact Z i;simp only[qz 42,iM,aY,n,↓iC,aN5 i,baz i,↓uL];refine bax i ⟨by omega,by omega⟩ λy2 j=>?_;simp only[qz 44,aN5 j,baA j,aY,↓uL];refine aPS j m λu2 y3 h2 h3 D=>?_;simp only[qz 46,↓uL];refine bay D ⟨by omega,by omega⟩ λp y4 B5=>?_;simp only[qz 48,↓uL];refine dT (by simp[eL,lb,lbV,J3,dC,dK]) ?_;exact Z B5;simp only[qz 161,↓uL];refine aPS B m λu y N G i=>?_;rcases n:Q (u=2) with _|_;simp only[qz 36,iM,aY,n,↓iB,↓uL];exact X i;obtain⟨t7,O⟩:=a5W i;simp only[qz 36,iM,aY,n,↓iC,O,↓uL];refine a5S i m λu2 y2 _ j=>?_;simp only[qz 38,qy 40,aN5 j,aY,↓uL];exact baD j λy3 D=>X D;have o:k<3:=(by grind);simp only[qz 103,aI,au,av4,aY,t,↓iC,↓uL];refine bjf (λg=>∀y,Bg Y y b l a v4 v8 a1 a2 a3 a4 a5 a6->g [] y) ?_ λg v=>?_;intro y B;simp only[qz 123,aI,au,cS,aY,↓uL];exact yU o B;obtain⟨t7,O⟩:=a5W B;simp only[qz 125,O,aY,↓uL];refine a5S B m λu y hu i=>?_;have i3:aF 3 (k:Int):=⟨by omega,by omega⟩;rcases qu:Q (u<0) with _|_;have al:aF 4 u:=(by simp only[aNG] at qu;rcases hu with h|h;omega;exact h);have own:∀{z:ae},Bg Y z b l a v4 v8 a1 a2 a3 a4 a5 a6->rV (cz 2 z a1<|iv k) λp=>rV (iQ 0 z p) λp'=>sV (aK 1 z p'<|iv u) λav=>g [] av:=λ{z} Bz=>a5T Bz i3 (by simp) λy B=>v y B;rcases A:Q ((k:Int)=0) with _|_;rcases n:Q ((k:Int)=2) with _|_;simp only[qz 26,qy 34,au,u0,av4,iM,aOq,qu,A,n,↓jN,Aa,aN5 i,aRC i,bt,↓uL];exact own i;simp only[qz 26,qy 34,au,u0,av4,iM,aPh,qu,n,↓jA,ya,bt,↓uL];refine aPS (d:=85) i m λu2 z N G j=>?_;rcases C:Q (u2=1) with _|_;simp only[u0,iM,C,A,↓jN,Aa,aN5 j,aRC j,bt,↓uL];exact own j;simp only[au,u0,iM,C,A,aS1,↓jN,Aa,aN5 j,aRC j,qz 30,qy 32,bt,↓uL];exact a5T j i3 (by simp) λy B=>v y B;have n:Q ((k:Int)=2)=I:=(by simp_all);obtain⟨st,ak⟩:=baB i;simp only[qz 26,qy 34,au,u0,av4,iM,aOq,qu,A,n,↓jA,↓jN,ya,Aa,aN5 i,aRC i,aS0 i,bt,↓uL];refine ak al ?_;rcases C:Q (st u.toNat=3) with _|_;simp only[u0,iM,C,↓jA,Aa,aN5 i,aS0 i,↓uL];refine ak al ?_;rcases q4:Q (st u.toNat=4) with _|_;simp only[u0,iM,q4,bt,↓uL];exact own i;simp only[u0,iM,q4,bt,↓uL];exact v _ i;simp only[u0,iM,C,↓jN,ya,bt,↓uL];exact v _ i;simp only[qz 26,qy 34,au,u0,av4,iM,qu,bt,↓uL];exact v _ i;have o:k<4:=(by grind);simp only[qz 25,aI,au,av4,aY,t,↓iC,↓uL];refine bjf (λg=>∀y,Bg Y y b l a v4 v8 a1 a2 a3 a4 a5 a6->g [] y) ?_ λg v=>?_;intro y B;simp only[qz 45,aI,au,cS,aY,↓uL];exact yU o B;simp only[qz 47,baP,bQ,qz 12,↓uL];refine aPS B m λu y N G i=>?_;have ag:=G (by decide);simp only[qz 14,tf,ci,qM,aY,au,↓uL];refine⟨⟨N,by simpa using ag⟩,?_⟩;refine bvA (λg=>∀st:Int,g [iv st]) (λst=>?_) λg H=>?_;skip;have aE:bM aQ2 aOs [(0,iv st)]=V (.a [iv st,iv 0,bv I]):=rfl;simp only[qz 63,aI,au,aN5 i,aS0 i,aE,aY,↓uL];refine baC i (i4 o) λy i=>?_;rcases A:Q (st≠0) with _|_;simp only[qz 16,au,u0,av6,A,↓jN,Aa,bt,↓uL];exact v _ i;rcases t:Q (st≠1) with _|_;simp only[qz 16,au,u0,av6,A,t,↓jA,bt,↓uL];exact v _ i;simp only[qz 16,au,u0,av6,A,t,aN5 i,a5V i,↓jA,bt,↓uL];refine aPS i m λu y2 N G j=>?_;simp only[qz 18,au,cS,aY,↓uL];have ag:=G (by decide);refine baw j (i4 o) (by grind [eM]) λp y3 D=>?_;simp only[qz 20,↓uL];refine dT (by simp[eL,lb,lbV,J3,dC,dK]) ?_;simp only[aN5 D,aS0 D,aY,↓uL];refine aPS D m λu2 y4 h2 h3 B5=>?_;simp only[qz 22,au,iM,aY,↓uL];refine bat B5 (i4 o) λp p' y5 B6=>?_;simp only[qz 24,↓uL];refine dT (by simp[eL,lb,lbV,J3,dC,dK]) ?_;exact v _ B6;simp only[qz 65,au,↓uL];generalize gd ([2,2,2,2,0,1,3,4,5]:List Int) u.toNat=st;rcases n:Q ((k:Int)=0) with _|_;simp only[u0,iM,n,↓jN,Aa,bt,↓uL];exact H _;rcases C:Q (st=0) with _|_;simp only[u0,iM,n,C,↓jA,ya,bt,↓uL];exact H _;simp only[u0,iM,n,C,↓jA,ya,bt,↓uL];exact H _
end
def bfA:dO:=aR3
def bfy:eJ bfA:=aPL
def bcy:=@aPg
section
attribute[local irreducible] aX
def a91:=bA 23 [(5,([23],[0,3,4,6,7,11,12,22])),(8,([],[0,3,4,6,7,11,12,22,23])),(12,([11],[0,3,6,7,12])),(19,([],[0,3,6,7,11,12,14,15]))]
def aVT c a b d e f R:=(.mk _:NS bfA a91 Tryz.f58 [c, .u, .u,d,e] [a,b] f R).p
def bhB{d:AV}{b:List AV}{c:List AV}{e f:AV}{s0:ae}{R:be}(g:L s0=4096)(l1:L b=7)(i:L c=6)(h:HB2 40 7 6 b 31 6 7 c s0 λk l j=>aVT d k l e f j R):EB 58 [d, .a b, .a c,e,f] s0 R:=zB2 a91 bfy Tryz.func58 g l1 i h
end
def aNI{Y:ae}{b:Id}{e:TypeId}{z j:Nat}{o v:Bool}{r:List (List AV)}(h:box Y b=V ⟨e,z,o,v,r⟩):iQ j Y (.p b 0 0)=V (.p b 0 j):=by rw[rR,h];simp
def aXM{ds:List AV}{s:mn}(h:Lk ds s.c):∃x0 a x2 d t4 o4 j g m i,ds=[x0,a,x2,d, .l (s.cells.map ci) t4 o4, .l (s.bU.map ci) j g, .l (s.count.map ci) m i]:=by have e:=oC h;obtain⟨h,_⟩:=h;rcases ds with _|⟨x0,_|⟨a,_|⟨x2,_|⟨d,_|⟨n,_|⟨x5,_|⟨o,_|⟨p,ds⟩⟩⟩⟩⟩⟩⟩⟩<;>simp at e;simp only[ji,mU,mn.c,kO] at h;grind [aRH]
theorem Rds.mono{Y:ae}{B:Id}{f:Nat->AV}{m n:Nat}(O:Rds Y B f m)(h:m<=n):Rds Y B f n:=⟨O.bx,(by grind [Rds.gr]),O.dj,O.pl⟩
def a62{Y:ae}{B:Id}{f:Nat->AV}{m d:Nat}{i v:Int}{t o:Bool}{K:AV->be}(O:Rds Y B f m)(hi:0<=i/\i<4)(hd:d=47\/d=103)(hl:L Y=4096)(hm:m<=1000)(hB:B.1=20)(M:∀a Y' z,Rds Y' B z (m+1)->Fx Y Y' (B::aA (f i.toNat))->(∀j,j<4->∀q∈aA (z j),q∈aA (f j)\/bK Y q)->K a (.p B i.toNat 0) Y'):eV (cj 3 fB 8 Y d (f i.toNat)<|.l [[iv v]] t o) λa c=>rV (cz 1 c (.m B 4)<|iv i) λp=>sV (aK 1 c p a) (K a p):=by have r:i.toNat<4:=(by omega);obtain⟨P,W,g⟩:=O.gr _ r;refine qs g rfl (by decide) (by omega) pU (by simp) (by simp) (by simp;omega) λa c E n X=>?_;have A:∀j,j<4->B∉aA (f j):=(by grind [Rds.pl]);have F:=n.keep _ _ (A _ r) O.bx;have C:cz 1 c (.m B 4) (iv i)=V (.p B i.toNat 0):=(by grind [cz]);rw[C];have R:B∉aA a:=(by grind);refine Bp F (uU r) (ms E) rfl (by simp) λu s G=>?_;have w:box u B=V ⟨38,1,U,U,io 4 λj=>[if j=i.toNat then a else f j]⟩:=(by rw[G,Bl];grind);have S:∀j,j<4->∀q∈aA (f j),q∉aA a:=(by grind [Rds.gr,aTi,bK.no]);refine M a u _ ⟨w,λj e=>?_,λj k e hk T q D=>?_,λj e q D=>?_⟩ ((n.trans s).mono<|by grind) λj e q D=>?_;by_cases h:j=i.toNat;subst h;simp only[aNZ];refine⟨P++[v],by simp;omega,?_⟩;grind [bc.p,bc.fx];simp only[J7 h];obtain⟨N,Z,H⟩:=O.gr j e;exact⟨N,by omega,(H.fx n<|by grind [Rds.dj]).fx s<|by grind⟩;grind [Rds.dj];grind [Rds.pl];grind
def bc6{n:Int}:J3 (iv n)=[]:=rfl
structure PlS(Y x:ae)(b:Id)(l:List Int)(v6 v7:Nat)(B:Id)(f:Nat->AV)(k:Nat):Prop where
 b6:∃ds s,box x (6,v6)=V ⟨40,7,U,U,[ds]⟩/\Lk ds s.c/\vH k s/\L s.cells=5/\L s.bU=1/\L s.count=4
 b7:box x (7,v7)=V ⟨31,6,U,U,[aNE.c]⟩
 tp:∃a',Tp x b l a'
 kx:Kx [14,15,16] Y x
 rd:Rds x B f (k+1)
 nw:∀i,i<4->∀q∈aA (f i),∀z,box Y q≠V z
 no:(∀z,box Y (6,v6)≠V z)/\∀z,box Y B≠V z
 pb:b.1=16/\B.1=20
section
variable{Y x y:ae}{b B:Id}{l:List Int}{v6 v7 k:Nat}{f:Nat->AV}
theorem PlS.fx(P:PlS Y x b l v6 v7 B f k){a:List Id}(F:Fx x y a)(h:∀q∈a,q.1≠6/\q.1≠7/\q.1≠16/\q.1≠20/\q.1≠47/\q.1≠103)(i:∀q∈a,q.1=14\/q.1=15\/∀z,box Y q≠V z):PlS Y y b l v6 v7 B f k:=by obtain⟨ds,s,e,g⟩:=P.b6;obtain⟨c,T⟩:=P.tp;have d:=P.pb;exact⟨(by grind [Fx.keep]),(by grind [Fx.keep,PlS.b7]),⟨c,by grind [Tp.fx]⟩,P.kx.fx F (by grind),P.rd.fx F (by grind),P.nw,P.no,d⟩
theorem PlS.kxx(P:PlS Y x b l v6 v7 B f k)(K:Kx [14,15,16] x y){a:Nat}(T:Tp y b l a):PlS Y y b l v6 v7 B f k:=by obtain⟨ds,s,c,d⟩:=P.b6;exact⟨(by grind [Kx.keep]),K.kq P.b7,⟨a,T⟩,P.kx.kx K (by simp),P.rd.kx K (by grind [PlS.pb]),P.nw,P.no,P.pb⟩
theorem PlS.tape(P:PlS Y x b l v6 v7 B f k)(F:Fx x y [b]){a:Nat}(T:Tp y b l a):PlS Y y b l v6 v7 B f k:=(by grind [PlS.kxx,Fx.kx,PlS.pb])
theorem PlS.reads(P:PlS Y x b l v6 v7 B f k){a:Nat->AV}{i:Nat}(p:i<4)(R:Rds y B a<|k+2)(F:Fx x y (B::aA (f i)))(o:∀j,j<4->∀q∈aA (a j),q∈aA (f j)\/bK x q){d:Nat}(A:k+1<=d)
  (n:∃ds s,box x (6,v6)=V ⟨40,7,U,U,[ds]⟩/\Lk ds s.c/\vH d s/\L s.cells=5/\L s.bU=1/\L s.count=4):PlS Y y b l v6 v7 B a d:=by
 obtain⟨ds,s,v,w⟩:=n
 obtain⟨m,T⟩:=P.tp
 have r:=P.pb
 have pl:=P.rd.pl i p
 have C:∀{q:Id},q.1≠20->q.1≠47->q.1≠103->q∉B::aA (f i):=(by grind)
 exact⟨(by grind [Fx.keep]),(by grind [Fx.keep,PlS.b7]),⟨m,by grind [Tp.fx]⟩,P.kx.fx F (by grind [PlS.no,PlS.nw]),R.mono (by omega),λj g q t=>by
   rcases o j g q t with h|h
   ·exact P.nw j g q h
   ·intro z u
    by_cases e:q.1∈[14,15,16]
    ·grind [Rds.pl]
    ·exact h.no _ (P.kx.keep _ _ e u),P.no,r⟩
end
def tpM(b:Id)(y:ae):Nat:=((box y b).map λx=>match x.aa with|[[.l aa _ _, .s (.int _ n)]]=>L aa-n.toNat|_=>0).getD 0
theorem aTD{Y:ae}{b:Id}{l:List Int}{a:Nat}(T:Tp Y b l a):tpM b Y=L l-a:=by simp only[tpM,T.bx];show L (l.map cu)-(a:Int).toNat=_;simp
def bfl{k:Nat}{s:mn}{e:aP}(h:vH k s)(i:k<1000)(a:C1 aNE s e=U)(g:L s.cells=5)(c:L s.bU=1)(d:L s.count=4):vH (k+1) (nD aNE s e)/\L (nD aNE s e).cells=5/\L (nD aNE s e).bU=1/\L (nD aNE s e).count=4:=by refine⟨h.step (by omega),?_⟩;grind [nD,oc]
section
attribute[local irreducible] aX
def LeN(n:Int)(k:Nat):Prop:=k<=16/\((k:Int)<=n\/k=0)
def bdm{Y:ae}{b:Id}{l:List Int}{a:Nat}{ds:List AV}{s:mn}{n:Int}(H:L Y=4096)(hb:b.1=16)(T:Tp Y b l a)(hL:Lk ds s.c)(hS:vH 0 s)(h5:L s.cells=5)(h1:L s.bU=1)(h4:L s.count=4)(hn:n<=16):∃r Y1,(∃t:List aP,r= .l (t.map aP.c) I I/\LeN n (L t)/\(∀e∈t,EvL e)/\Kx [14,15,16] Y Y1)/\cZ aS GG 58 [.p b 0 0, .a ds, .a aNE.c,iv n,bv U] Y r Y1:=by generalize hQ:(λ(r:AV) (y:ae)=>∃t:List aP,aOo y r= .l (t.map aP.c) I I/\LeN n (L t)/\(∀e∈t,EvL e)/\Kx [14,15,16] Y (kills y<|aNW r))=Qq;refine aQR (R:=Qq) ?_ (by grind);refine bhB H (oC hL) rfl λs4 v6 v7 K4 c7 b4 c8 S W=>?_;have F4:Fx Y s4 []:=K4.fx [];have c4:=F4.len.trans H;have cm:aN J (List.drop 4 aNE.c)=V (sl cs aNE.ay):=rfl;have bY:∀{Y:ae},fS Y (sl cs aNE.ay)=V (iv (4:Nat)):=rfl;simp only[aVT,u0,u1,W,cm,bY,aj,↓uL];refine AP (by decide) (by decide) (by omega) (by decide) λB s9 hB NB F9 bB=>?_;have aR:=F4.trans F9;have P0:PlS Y s9 b l v6 v7 B (λ_=> .l [] U U) 0:=⟨(by grind [Fx.keep]),F9.kq W,⟨a,T.fx aR<|by simp⟩,aR.kx (by simp),⟨by rw[bB];rfl,λi hi=>⟨[],by simp, .inl ⟨rfl,rfl⟩⟩,by simp[aA],by simp[aA]⟩,by simp[aA],⟨b4,(NB.old F4).no⟩,hb,hB⟩;have bi:∀{x:ae} {f:Nat->AV} {k:Nat},PlS Y x b l v6 v7 B f k->fS x (.m B 4)=V (iv (4:Nat)):=λ{x f k} P=>(by simp[fS,P.rd.bx]);simp only[qz 6,bi P0,aY,↓uL];have a7:∀{e:aP},aN (V 7) e.c=V (.a e.c):=rfl;have a8:aN (V 6) aNE.c=V (.a aNE.c):=rfl;refine yV 4 (λk _ y=>∃f,PlS Y y b l v6 v7 B f k) ⟨_,P0⟩ ?_;rintro k _ x hk ⟨f,P⟩;rcases Z:Q ((k:Int)<((4:Nat):Int)) with _|_;(focus simp only[qz 31,aI,au,av4,aY,Z,↓iB,↓uL];have bW:k=4:=(by grind);subst bW;let o:aG:=λvs y=>∃(out:AV) (t:List aP) (f:Nat->AV),vs=[out]/\LeN n (L t)/\(∀e∈t,EvL e)/\gm y 87 7 out (t.map aP.c)/\(∀q∈aA out,q.1=108/\∀z,box Y q≠V z)/\PlS Y y b l v6 v7 B f (4+L t);refine⟨o,λ_ y=>tpM b y,⟨_,[],f,rfl,⟨by simp, .inr rfl⟩,by simp, .inl ⟨rfl,rfl⟩,by simp[aA],P⟩,?_⟩;rintro _ x ⟨out,t,f,rfl,a4,aC,g,po,P⟩;generalize hI:o=I';obtain⟨a',M⟩:=P.tp;have aE:=P.kx.len.trans H;have aD:fS x out=V (iv<|L t):=(by rw[g.ln,bJ]);have aJ:fe Qq x [out]:=(by show Qq out x;rw[<-hQ];have ei:aNW out=aA out:=(by have:=aQX g;rcases g with⟨_,rfl⟩|⟨c,m,rfl,_⟩<;>rfl);have ef:aOo x out= .l (t.map aP.c) I I:=(by rw[<-g.ar];rcases g with⟨_,rfl⟩|⟨c,m,rfl,_⟩<;>rfl);refine⟨t,ef,a4,aC,?_⟩;rw[ei];exact P.kx.fx (aOp _ _)<|by simp_all);rcases Z:Q ((L t:Int)<n) with _|_;simp only[qz 73,aI,au,aD,u0,u1,Z,ip,↓jN,Aa,bt,↓uL];exact aJ;rcases q2:Q ((a':Int)<(L l:Int)) with _|_;simp only[qz 73,aI,au,aD,u0,u1,oo M.bx,M.bx,Z,q2,k1A,nM,ip,aj,↓jA,bt,↓uL];exact aJ;have cJ:L t<16:=(by grind);have c3:a'<L l:=(by simp_all);obtain⟨ap,s',ao,ab,a1,a0,bC,bH⟩:=P.b6;obtain⟨x0,x1,x2,x3,t4,o4,t5,o5,t6,o6,bR⟩:=aXM ab;have cl:aN (V 7) ap=V (.a ap):=(by rw[bR];rfl);simp only[qz 73,aI,au,aD,u0,u1,oo M.bx,M.bx,Z,q2,ao,P.b7,cl,a8,k1A,nM,ip,aj,↓jA,bt,↓uL];refine jH rfl (bdf aE (.inr<|.inr hb) hB M ab (by have:=a1.sy.th;omega) a0 (by omega)<|P.rd.mono<|by omega) ?_;rintro _ y ⟨e,a2,rfl,he,ac,T2,_,cI,K2⟩;refine⟨K2.len,?_⟩;have E:=P.kxx K2 T2;have b1:=E.kx.len.trans H;have g2:gm y 87 7 out (t.map aP.c):=(by grind [Kx.gr]);simp only[qz 16,qy 18,↓uL];refine so b1 λD y1 G1 c1 bu=>?_;refine qr bu rfl rfl λy2 G2 aV=>?_;have P3:=(E.fx G1 (by simp)<|by simp).fx G2 (by simp) (by simp);have g3:=(g2.fx G1<|by simp).fx G2 (by grind);have T3:Tp y2 b l a2:=(T2.fx G1<|by simp).fx G2 (by grind);obtain⟨av,s3,aU,N,a3,bI,bD,aZ⟩:=P3.b6;obtain⟨z0,z1,z2,z3,db,c9,dd,da,cp,b5,aB⟩:=aXM N;have bl:aN (V 7) av=V (.a av):=(by rw[aB];rfl);have bs:∀{Y:ae},dG Y (.a av)= .a s3.c:=λ{Y}=>N.arg Y;obtain⟨ca,cb,cd,cf,cg,ch,cj⟩:=a3.snB (by omega);simp only[qz 20,qy 22,u0,u1,aU,P3.b7,aV,bl,a8,a7,ip,bcy,ar,bs,↓uL];refine⟨⟨by decide,ca,cb,cd,cf,cg,ch,cj,by have:=he.1;omega,by have:=he.2;omega⟩,?_⟩;rintro _ ⟨cs,rfl,az⟩;refine⟨by rw[lo,nA];exact .inl (by simp[x9 N];simp[eB,iR,aP.c,vb.c,sl]),?_⟩;simp only[oJ,pG,aY,↓uL];have bj:=P3.kx.len.trans H;refine so bj λcq y3 G3 c2 bw=>?_;refine qr bw rfl (oC az) λK G4 aW=>?_;have A:=(P3.fx G3 (by simp)<|by simp).fx G4 (by simp) (by simp);have g4:=(g3.fx G3<|by simp).fx G4 (by grind);have T4:Tp K b l a2:=(T3.fx G3<|by simp).fx G4 (by grind);have G:=G4.kq<|G3.kq aV;have aa:=G4.kq<|G3.kq aU;rcases b2:C1 aNE s3 e with _|_;simp only[qz 24,aIN,u0,↓iC,↓uL];rw[<-hI];exact⟨⟨out,t,f,rfl,a4,aC,g4,po,A⟩,by grind [aTD]⟩;have a5:=bfl a3 (by omega) b2 bI bD aZ;have ck:aN (V 7) cs=V (.a cs):=(by grind [oC,aN]);have up:∀{y:ae} {f:Nat->AV},PlS Y y b l v6 v7 B f (4+L t)->PlS Y y b l v6 v7 B f (4+(L t+1)):=λ{y f} P=>(by obtain⟨ds,s,h1,h2,C,h4⟩:=P.b6;exact⟨⟨ds,s,h1,h2,⟨C.sy.mono (by omega),C.ce,C.fu,C.co,λc hc=>by have:=C.cn c hc;omega⟩,h4⟩,P.b7,P.tp,P.kx,P.rd.mono (by omega),P.nw,P.no,P.pb⟩);simp only[qz 24,aIN,u0,↓iB,↓uL];refine bjf (λj=>∀{z:ae} {f':Nat->AV},PlS Y z b l v6 v7 B f' (4+(L t+1))->(∃d,box z (6,v6)=V ⟨40,7,U,U,[d]⟩/\L d=7)->box z (14,D)=V ⟨87,7,U,U,[e.c]⟩->box z (15,cq)=V ⟨40,7,U,U,[cs]⟩->gm z 87 7 out (t.map aP.c)->Tp z b l a2->j [] z) (λ{z f'} P h6 bF bG g T=>?_) λj a6=>?_;obtain⟨d6,h6,bO⟩:=h6;have bM:aX biX 1 z [(0, .a e.c)]=V (.l ([e].map aP.c) U U,z):=ua rfl rfl rfl (by decide) (by simp[aP.c,eN,sl]) (by decide);have ad:∀{l:List aP},∀r∈l.map aP.c,L r=7:=qW (by intro _;rfl);simp only[qz 117,qy 32,aI,au,u0,u1,bF,a7,bM,ip,↓uL];refine apQ g (P.kx.len.trans H) ad ad (by simp) (by simp;omega) λaF z1 g1 F1 p1=>?_;have X:∀{q:Id},q.1≠108->q∉aA out:=(by grind);have bc:=F1.keep _ _ (X<|by simp) bG;have bK:=F1.keep _ _ (X<|by simp) h6;have P1:=P.fx F1 (λq v=>by rw[(po q v).1];decide) (by grind);simp only[qz 34,qy 36,u0,u1,bc,ck,ip,↓uL];refine qr bK bO (oC az) λz2 O c6=>?_;have aT:Tp z2 b l a2:=(T.fx F1<|X<|by omega).fx O (by grind);have b9:∀q∈aA aF,q.1=108/\∀w,box Y q≠V w:=λq v=>⟨(p1 q v).2,λw hw=>(p1 q v).1.no w<|P.kx.keep _ _ (by rw[(p1 q v).2];decide) hw⟩;rw[<-hI];refine⟨⟨aF,t++[e],f',rfl,⟨by simp;omega, .inl (by have:=aNK Z;simp;omega)⟩,λy hy=>?_,?_,b9,?_⟩,by rw[aTD aT,aTD M];omega⟩;rcases dF.1 hy with h|h;exact aC y h;grind;rw[dg];exact g1.p.fx O (by grind);rw[a6G];exact⟨⟨cs,_,c6,az,(show 4+L t+1=4+(L t+[e].length) from rfl)▸a5.1,a5.2⟩,O.kq P1.b7,⟨a2,aT⟩,P1.kx.fx O (by grind),P1.rd.fx O (λq v=>by simp at v;subst v;grind),P1.nw,P1.no,P1.pb⟩;have hu:e.aq.toNat<4:=(by omega);have f1:iQ 1 K (.p (14,D) 0 0)=V (.p (14,D) 0 1):=(by grind [rR]);have l1:lS J K (.p (14,D) 0 1)=V (iv e.kind):=(by rw[aC5,G];rfl);rcases q3:Q (e.kind=3) with _|_<;>rcases cc:Q (e.kind=23) with _|_<;>simp only[qz 119,qy 26,u0,f1,l1,iM,q3,cc,↓jA,↓jN,ya,Aa,bt,↓uL];exact a6 (up A) ⟨_,aa,oC N⟩ G aW g4 T4;all_goals have f0:iQ 0 K (.p (14,D) 0 0)=V (.p (14,D) 0 0):=(by grind [rR]);have l0:lS J K (.p (14,D) 0 0)=V (iv e.aq):=(by rw[aC5,G];rfl);have f6:iQ 6 K (.p (6,v6) 0 0)=V (.p (6,v6) 0 6):=(by rw[rR,aa];rfl);have l6:lS J K (.p (6,v6) 0 6)=V (.l (s3.count.map ci) cp b5):=(by rw[aC5,aa,aB];rfl);have bT:cz 1 K (.m B 4) (iv e.aq)=V (.p B e.aq.toNat 0):=(by simp[cz,ac.1,A.rd.bx,hu]);have bX:lS J K (.p B e.aq.toNat 0)=V (f e.aq.toNat):=(by simp[lS,iE,A.rd.bx,uU hu,aN]);simp only[f0,l0,f6,l6,bT,bX,aY,tf,ci,qM,aS1,bQ,↓uL];refine⟨⟨ac.1,by rw[aZ];exact ac.2⟩,?_⟩;obtain⟨ns,c5,bA⟩:=A.rd.gr _ hu;have hk:=(O1.of bA).keys (P:=λp=>p=47\/p=103) (λq v=>A.rd.pl _ hu q v);refine a62 A.rd ac (.inr rfl) (A.kx.len.trans H) (by omega) hB λa' z f' R F hf=>?_;simp only[qz 30,↓uL];refine dT ?_ ?_;rcases hk with e1|⟨p,e1,rfl|rfl⟩<;>simp[eL,lb,e1,aTn,a6H,bc6];have h1:=A.rd.pl _ hu;have ne:∀{q:Id},q.1≠20->q.1≠47->q.1≠103->q∉B::aA (f e.aq.toNat):=λ{q} n1 n2 n3 v=>(by rcases eW.1 v with rfl|h;exact n1 hB;rcases h1 _ h with e|e<;>omega);exact a6 (A.reads hu R F hf (by omega) (up A).b6) ⟨_,F.keep _ _ (by grind) aa,oC N⟩ (F.keep _ _ (by grind) G) (F.keep _ _ (by grind) aW) (g4.fx F λq v=>ne (by grind) (by grind)<|by grind)<|T4.fx F<|ne (by omega) (by omega)<|by omega);have b0:k<4:=(by grind);have up:∀{y:ae} {f:Nat->AV},PlS Y y b l v6 v7 B f k->PlS Y y b l v6 v7 B f (k+1):=λ{y f} P=>(by obtain⟨ds,s,h1,h2,C,h4⟩:=P.b6;exact⟨⟨ds,s,h1,h2,⟨C.sy.mono (by omega),C.ce,C.fu,C.co,λc hc=>by have:=C.cn c hc;omega⟩,h4⟩,P.b7,P.tp,P.kx,P.rd.mono (by omega),P.nw,P.no,P.pb⟩);obtain⟨ap,s',ao,ab,a1,a0,bC,bH⟩:=P.b6;obtain⟨x0,x1,x2,x3,t4,o4,t5,o5,t6,o6,rfl⟩:=aXM ab;have aE:=P.kx.len.trans H;simp only[qz 31,aI,au,av4,aY,Z,↓iC,↓uL];refine bjf (λj=>∀{y:ae} {f:Nat->AV},PlS Y y b l v6 v7 B f (k+1)->j [] y) (λ{y f} P=>?_) λj nx=>?_;simp only[qz 51,aI,au,cS,aY,↓uL];exact yU b0 ⟨_,P⟩;simp only[qz 53,qy 10,u0,u1,ao,k1A,nM,ip,aj,tf,ci,qM,↓jA,ya,↓uL];refine⟨⟨by omega,by omega⟩,?_⟩;rcases q2:Q (1<gd s'.count ((k:Int)).toNat) with _|_;simp only[u0,aOq,↓jN,Aa,bt,↓uL];exact nx<|up P;simp only[u0,aPh,↓jA,ya,↓uL];obtain⟨a',M⟩:=P.tp;refine aPu (d:=37) aE M λu a2 y _ _ T2 _ O=>?_;have E:=P.tape O T2;rcases q3:Q (u=2) with _|_;simp only[u0,u1,q3,bt,↓uL];exact nx<|up E;simp only[u0,iM,q3,bt,↓uL];refine E.rd.rd (by omega) ?_;simp only[aS1,bQ];refine a62 E.rd (by omega) (.inl rfl) (E.kx.len.trans H) (by omega) hB λa' z f' R F hf=>?_;exact nx (E.reads (by omega) R F hf (dA _) (up E).b6)
end
def vq(w:vb)(l:List aP):Nat->mn|0=>aH6 w|k+1=>nD w (vq w l k)<|gd l k
structure aN4(w:vb)(l:List aP):Prop where
 wv:mQ w=U
 ln:L l<=400
 st:∀k,k<L l->C1 w (vq w l k) (gd l k)=U
 dp:∀k,k<L l->∀n∈(gd l k).dI,aOE l k (gd l k).aq n
 fr:∀k,k<L l->∀n∈(gd l k).ep,aOE l k (gd l k).aq n
def a6b{l:List aP}{t:Int}{i m:Nat}:VW l t (i+m)=VW l t i+VW (l.drop i) t m:=by simp only[VW,List.take_add,List.filter_append,a6G]
def a6Y(t:Int):∀(l:List aP) (j i:Nat),j<L l->(gd l j).aq=t->pS t l (VW l t j) i=((i+j:Nat):Int)
 |[],j,i,h,_=>by simp at h
 |e::l,0,i,_,h=>by
  have b:e.aq=t:=h
  simp[pS,VW,b]
 |e::l,j+1,i,h,c=>by
  have a:(gd l j).aq=t:=by grind [gd]
  have d:=a6Y t l j (i+1) (by simpa using h) a
  grind [pS,VW]
def aXY{α:Type}{n:Nat}{x y:α}(h:y∈er n x):y=x:=(by simp_all)
theorem aTg{α:Type}[Inhabited α]{n j:Nat}{x:α}(h:j<n):gd (er n x) j=x:=by grind [bT]
def bcG{n j:Nat}(h:j<n):gd (qZ n) j=⟨if j=0 then 1 else 0,0,I⟩:=by grind [bT,qZ]
def a7j:∀n:Nat,(er n (0:Int)).sum=0
 |0=>rfl
 |n+1=>by simp
theorem a7R{w:vb}(h:mQ w=U):∀j,j<L w.bC->uh w j=I:=by grind [mQ]
theorem SI.start{w:vb}(h:mQ w=U):SI w (aH6 w) 0:=by have n:=a7R h;refine⟨?_,?_,?_,?_,?_,?_,?_⟩;simp only[fN,lh,aH6,bN,aBY];grind [qZ,ou,uh,bT];intro c k;rw[aXY k];omega;exact a7j _;intro j g;have a:j<L w.ay:=(by grind [aH6,qZ]);have e:gd (aH6 w).mp.ay j=⟨if j=0 then 1 else 0,0,I⟩:=bcG a;have m:gd (aH6 w).count j=0:=aTg a;by_cases b:j=0;subst b;simp only[aNZ] at e;exact⟨by rw[e];simp,by simp_all,by rw[e];simp,by rw[e];simp,by rw[e];simp,by rw[e];simp⟩;rw[J7 b] at e;exact⟨by rw[e];simp,by simp_all,λd=>aO6 d b,by rw[e];simp,by rw[e];simp,by rw[e];simp⟩;intro j g;have a:j<L w.ak:=(by grind [aH6]);have e:gd (aH6 w).mp.ak j=⟨-1,[]⟩:=aTg a;exact⟨by simp_all,by simp_all,by simp_all,by rw[e];intro i f;simp at f⟩;intro h;exact aO6 rfl h;grind [aH6,aTg]
section
variable{w:vb}{l:List aP}
theorem aN4.si(h:aN4 w l):∀k,k<=L l->SI w (vq w l k) k
 |0,_=>SI.start h.wv
 |k+1,a=>by
  have b:=h.si k (by omega)
  have c:=h.st k a
  have e:vq w l (k+1)=oc w (vq w l k) (gd l k):=by grind [vq,nD]
  grind [SI.step,a7R,aN4.wv,aN4.ln]
theorem aN4.thr(h:aN4 w l){k:Nat}(a:k<L l):aF (L w.ay) (gd l k).aq:=by have b:=h.st k a;grind [C1,aOL,dX]
theorem aN4.cnt(h:aN4 w l){t:Nat}(d:t<L w.ay):∀k,k<=L l->gd (vq w l k).count t=VW l t k
 |0,_=>by
  grind [aH6,aTg,vq,VW]
 |k+1,a=>by
  have o:=h.cnt d k (by omega)
  have j:=h.st k a
  have c:=h.thr a
  have b:=h.si k (by omega)
  have f:L (vq w l k).count=L w.ay:=by
   have:=b.fit
   grind [fN]
  have e:vq w l (k+1)=oc w (vq w l k) (gd l k):=by grind [vq,nD]
  rw[e,aV8<|by omega]
  simp only[oc]
  rw[gdS]
  have m:=aWu b.c0
  have g:=h.ln
  by_cases n:(gd l k).aq=(t:Int)
  ·grind [a6c,eM]
  ·have i:¬(gd l k).aq.toNat=t:=by have:=c.1;omega
   simp_all
theorem a7P(h:aN4 w l){i m:Nat}{st:Int}:∀k,k<=m->cY ⟨w,st,vq w l i,(l.drop i).take m⟩ k=vq w l (i+k)
 |0,_=>rfl
 |k+1,a=>by
  have b:=a7P h (i:=i) (m:=m) (st:=st) k (by omega)
  grind [cY,gd,vq]
theorem aWv{i m k:Nat}(a:k<m):gd ((l.drop i).take m) k=gd l (i+k):=by grind [gd]
theorem a63(h:aN4 w l){i m k:Nat}{st:Int}(r:i<=L l)(D:k<m)(v:i+k<L l){t n:Int}(e:aF (L w.ay) t)(s:aOE l (i+k) t n):qU ⟨w,st,vq w l i,(l.drop i).take m⟩ t n=U:=by obtain⟨j,z,p,A,B⟩:=s;obtain⟨a,rfl⟩:∃a:Nat,t=a:=⟨t.toNat,by have:=e.1;omega⟩;have f:a<L w.ay:=(by have:=e.2;omega);have C:=h.cnt f i r;unfold qU;simp only[bh];rcases Decidable.em (n<gd (vq w l i).count a) with c|c;simp[c];have u:i<=j:=(by rcases jj j i with b|b;exfalso;have:VW l a (j+1)<=VW l a i:=(by obtain⟨d,rfl⟩:∃d,i=j+1+d:=⟨i-(j+1),by omega⟩;simp_all [a6b]);grind [aV8];exact b);obtain⟨d,rfl⟩:∃d,j=i+d:=⟨j-i,by omega⟩;have q:d<m:=(by omega);have g:VW ((l.drop i).take m) a d=VW (l.drop i) a d:=(by grind [VW]);have x:=@a6b l a i d;have o:=a6Y a ((l.drop i).take m) d 0 (by simp only[gC,oz];omega) (by rw[aWv q];exact p);have y:oV ⟨w,st,vq w l i,(l.drop i).take m⟩ a (n-gd (vq w l i).count a)=(d:Int):=(by unfold oV;simp only;rw[show n-gd (vq w l i).count a=((VW ((l.drop i).take m) a d:Nat):Int) by rw[g];omega,o];simp);grind [aWv]
theorem bau{a:am}{t:Int}:bg a.init t->nO a t=U:=λh=>by
 simp only[nO,bN,aBY]
 exact⟨dX.2 h.1,h.2⟩
theorem bhG(h:aN4 w l){i m:Nat}(x:i<=L l)(F:m<=16):Po ⟨w,i,vq w l i,(l.drop i).take m⟩=U:=by have d:=h.si i x;have C:=h.ln;have D:L ((l.drop i).take m)<=L l-i:=(by grind);have E:L ((l.drop i).take m)<=m:=(by grind);generalize f:(⟨w,i,vq w l i,(l.drop i).take m⟩:am)=W;have e:W.aQ=w:=(by rw[<-f]);have b:W.init=vq w l i:=(by rw[<-f]);have y:W.start=i:=(by rw[<-f]);have s:W.ac=(l.drop i).take m:=(by rw[<-f]);have p:∀t,bg (vq w l i) t->nO W t=U:=(by grind [bau]);simp only[Po,oh,bN,eH,cP,fK,aBY,aNG];refine⟨⟨⟨⟨⟨⟨?_,?_⟩,?_⟩,?_⟩,?_⟩,?_⟩,?_,?_⟩;rw[e];exact h.wv;grind [SI.fit];grind;simp only[rM,bN,aBY];rw[b,y,s,d.sum];refine⟨λc q=>⟨d.c0 c q,?_⟩,rfl,by omega⟩;obtain⟨j,a,rfl⟩:=ou q;have:=(aWu d.c0 j).1;grind [SI.sum,bT];simp only[uZ,aBY];rw[b];intro j a;have S:=d.st j a;obtain⟨G,H⟩:=S.r;simp only[aOK,Eu,zX,e,b,bN,eH,cP,aNG,bik,fK,beq_iff_eq];grind [O9.fr,O9.z,dX,O9.wt,O9.nw];simp only[ny,bN,aBY,eH];refine⟨λj a=>?_,?_,λj a=>?_⟩;rw[b] at a;have o:=d.lk j a;refine⟨?_,λk n=>?_⟩;simp only[AM,e,b,cP,bik,aNG,fK,aNS];grind [LcI.ow,LcI.rd];rw[b] at n⊢;refine⟨p _<|o.rb _<|dB n,λg=>?_⟩;have:=o.inc (k-1) (by omega);grind;simp only[yS,b,bik,aNG,aNS,fK];grind [SI.tx];rw[b] at a;have S:=d.st j a;simp only[pX,e,b,bN,eH,bik,fK,cP,aNG];refine⟨?_,?_⟩;grind [O9.at'];rcases Decidable.em ((gd (vq w l i).mp.ay j).cQ=3\/(gd (vq w l i).mp.ay j).cQ=4) with g|g;exact .inr (S.wt g).2;omega;rw[b];intro j a;have:=d.fu j a;grind [Ae];rw[s];intro k n;have B:k<m:=(by omega);have A:i+k<L l:=(by omega);have u:gd W.ac k=gd l (i+k):=(by grind [aWv]);have v:cY W k=vq w l (i+k):=(by grind [a7P]);simp only[xH,u,v,e,cP,fK,aBY];grind [aN4.st,a63,aN4.thr,aN4.dp,aN4.fr]
end
def aXL(s:mn):Lk s.c s.c:=⟨rfl,rfl⟩
def bfm{s:mn}(h:sz5 s):vH 0 s:=⟨⟨by rw[h.1];decide,by rw[h.2.1];decide,by rw[h.2.2.1];decide,λl b=>by have:=h.2.2.2.2.2.2.1 l b;omega⟩,by rw[h.2.2.2.1];decide,by rw[h.2.2.2.2.1];decide,by rw[h.2.2.2.2.2.1];decide,λc a=>by have:=h.2.2.2.2.2.2.2 c a;omega⟩
def w00:am:=⟨aNE,0,aH6 aNE,[]⟩
def bfG:Po w00=U:=by kernel_rfl
def bfF:hU w00:=⟨by decide,by decide,by grind [w00],by decide⟩
def aWb(w:am):iX (.a w.c)=U:=by simp[iX,eN,am.c,sl]
def aXE(l:List Int)(n:Int)(hp:(∀x∈l,0<=x/\x<256)/\L l<4611686018427387904):Ct 24 [sl cu l,iv n] (λr=>∃w:am,r= .a w.c/\Po w=U/\hU w/\((L w.ac:Int)<=n\/L w.ac=0)):=by obtain⟨hb,a0⟩:=hp;generalize hQ:(λ(r:AV)=>∃w:am,r= .a w.c/\Po w=U/\hU w/\((L w.ac:Int)<=n\/L w.ac=0))=Qq;refine aDq (bhv λs0 hl h0=>?_);simp only[a4B,qy 2];refine so hl λv1 s2 F2 N2 b1=>?_;have aX:=F2.len.trans hl;refine bvA (λb=>∀l':List Int,(∀x∈l',0<=x/\x<256)->L l'<4611686018427387904->b [sl cu l']) ?_ λb hj=>(by rcases q:Q ((400:Int)<(L l:Int)) with _|_;simp only[qz 11,u0,u1,q,bt,↓uL];exact hj l hb a0;simp only[qz 11,u0,u1,q,bt,↓uL];rw[aIk (z:=1) (f:=cu) λ_=>rfl];have:=aNK q;refine⟨(by omega),hj _ (by grind)<|by grind⟩);intro l' aQ av;have aT:bM biY C2 [(0,sl cu l')]=V (.a [sl cu l',iv 0]):=rfl;simp only[qz 9,qy 6,aI,au,aT,aY];refine bxL rfl (by decide) (by omega) λv5 s6 F6 N5 F=>?_;have T6:Tp s6 (16,v5) l' 0:=⟨F,by omega,aQ,av⟩;have Z:=F6.len.trans aX;have aJ:=F6.kq b1;have aR:bM aOQ aQ4 [(0, .a aNE.c)]=V (.a<|aNE.c++(iv 0::(BF++[.l [] U U]))):=rfl;simp only[aWo,ar,u0,aR,↓uL];refine⟨by simp[lo,nA],?_⟩;refine so Z λd bD ax N9 b9=>?_;refine qr b9 rfl rfl λbc ay c9=>?_;have g:Fx s6 bc []:=(ax.trans ay).mono (by grind [bK.no]);have aD:=T6.fx g (by simp);have M:=g.len.trans Z;have ak:=g.kq aJ;have ba:∀{xs:List AV},aN (V 6) (aNE.c++xs)=V (.a aNE.c):=λ{xs}=>rfl;simp only[qz 8,u0,u1,c9,ba,aj,ip,↓uL];refine jH rfl (bdb M (.inr<|.inr rfl) aD) ?_;rintro _ bF ⟨s,a',rfl,m,aE,_,o⟩;refine⟨o.len,?_⟩;have ap:=o.len.trans M;have T:=o.kq c9;have aG:=o.kq ak;have fb:∀{y:ae} {j:Nat} {r:List AV},box y (6,d)=V ⟨43,15,U,U,[r]⟩->iQ j y (.p (6,d) 0 7)=V (.p (6,d) 0<|7+j):=(by grind [rR]);simp only[qz 10,aNI T,aY,↓uL];refine cy (y:=7) (cs:=s.c) T rfl rfl (by decide) λag u aM=>?_;have aF:=aE.fx u (by simp);have aq:=u.len.trans ap;have aK:=u.kq aG;have G:box ag (6,d)=V ⟨43,15,U,U,[aNE.c++(iv 0::(s.c++[.l [] U U]))]⟩:=aM;have a8:∀{y:ae} {st:Int} {e:AV},box y (6,d)=V ⟨43,15,U,U,[aNE.c++(iv st::(s.c++[e]))]⟩->lS J y (.p (6,d) 0 13)=V (sl ci s.count):=λ{y st e} h=>(by rw[aC5,h];rfl);have l6:∀{y:ae} {st:Int} {e:AV},box y (6,d)=V ⟨43,15,U,U,[aNE.c++(iv st::(s.c++[e]))]⟩->lS J y (.p (6,d) 0 6)=V (iv st):=λ{y st e} h=>(by rw[aC5,h];rfl);have l7:∀{y:ae} {st:Int} {e:AV},box y (6,d)=V ⟨43,15,U,U,[aNE.c++(iv st::(s.c++[e]))]⟩->lS (V 7) y (.p (6,d) 0 7)=V (.a s.c):=λ{y st e} h=>(by rw[aC5,h];rfl);have l0:∀{y:ae} {r:List AV},box y (6,d)=V ⟨43,15,U,U,[aNE.c++r]⟩->lS (V 6) y (.p (6,d) 0 0)=V (.a aNE.c):=λ{y r} h=>(by rw[aC5,h];rfl);have P:∀{Y:ae} {l:List Int},fS Y (sl ci l)=V (iv<|L l):=cT;have bz:L s.count<1000:=(by rw[m.2.2.2.2.2.1];decide);simp only[qz 12,aNI G,fb G,a8 G,P,aY,dc,↓uL];refine yV (L s.count) (λ_ _ y=>(∃st:Int,box y (6,d)=V ⟨43,15,U,U,[aNE.c++(iv st::(s.c++[.l [] U U]))]⟩)/\Fx ag y [(6,d)]) (by grind [Fx.refl]) ?_;rintro k _ y hk ⟨⟨st,i⟩,N⟩;rcases q1:Q ((k:Int)<(L s.count:Int)) with _|_;simp only[qz 49,aI,au,av4,aY,q1,↓iB,aNI i,l7 i,l0 i,aRW,aXT,↓uL];generalize ad:(if(16:Int)<(if(0:Int)>n then 0 else n) then(16:Int) else(if(0:Int)>n then 0 else n))=n';have aw:n'<=16:=(by omega);have bA:n'<=n\/n'<=0:=(by by_cases h0:(0:Int)>n;right;rw[<-ad,J9 h0];simp;left;rw[<-ad,J7 h0];split<;>omega);have ab:=N.len.trans aq;have Ty:=aF.fx N (by simp);refine jH rfl (bdm ab rfl Ty (aXL s) (bfm m) m.2.2.2.1 m.2.2.2.2.1 m.2.2.2.2.2.1 aw) ?_;rintro _ y2 ⟨H,rfl,ao,X,O⟩;refine⟨O.len,?_⟩;have W:=O.kq i;have aL:=O.kq<|N.kq aK;simp only[qz 16,aNI W,aY,↓uL];refine A0 W rfl (by simp[vb.c,mn.c]) λy3 F3 b3=>?_;have R:=F3.kq aL;have aZ:L y3=4096:=F3.len.trans<|O.len.trans ab;have d3:box y3 (6,d)=V ⟨43,15,U,U,[am.c ⟨aNE,st,s,H⟩]⟩:=b3;have af:∀{w:am},aN (V 15) w.c=V (.a w.c):=λ{w}=>rfl;have K:hU ⟨aNE,st,s,H⟩:=⟨by show L aNE.bC<_;decide,λq hq=>by have:=m.2.2.2.2.2.2.1 q hq;omega,λe he=>⟨by have:=(X e he).1;omega,by have:=(X e he).2;omega⟩,by show L s.bU<_;rw[m.2.2.2.2.1];decide⟩;simp only[qz 18,qy 24,u0,u1,d3,af,ip,aWo,ar,rr,↓uL];refine⟨K,λbB=>?_,λa7=>?_⟩;refine⟨by simp[lo,nA],by simp[lo,nA],?_⟩;refine jH rfl (aXI (w:=aNE) aZ (by decide) (by decide) (by decide)<|by decide) ?_;rintro _ y4 ⟨v,A,B,C,D,E,rfl,S,F4⟩;refine⟨F4.len,?_⟩;have an:bM aOQ aQ4 [(0, .a aNE.c),(2, .a [v,iv<|-1,A,B,C,D,E])]=V (.a<|aNE.c++(iv 0::([v,iv<|-1,A,B,C,D,E]++[.l [] U U]))):=rfl;have bb:aN (V 15) (aNE.c++(iv 0::([v,iv<|-1,A,B,C,D,E]++[.l [] U U])))=V (.a<|aNE.c++(iv 0::([v,iv<|-1,A,B,C,D,E]++[.l [] U U]))):=rfl;simp only[qz 20,qy 22,an,aY,↓uL];refine qr (F4.kq R) rfl rfl λy5 F5 F=>?_;have t:=S.keep F5 (by simp);simp only[u0,u1,F,bb,ip,↓uL];have hf:(aNE.c++(iv 0::([v,iv<|-1,A,B,C,D,E]++[.l [] U U]))).map (fz y5)=w00.c:=(by simp only[dg,ji,mU,aBr t.g1,aBr t.g2,aBr t.g3,aBr t.g4,aBr t.g5,aBr t.g6];rfl);refine aOv (v':= .a w00.c) (bhO AV.a hf) (aWb _) ?_;rw[<-hQ];exact⟨w00,rfl,bfG,bfF, .inr rfl⟩;refine qr R rfl rfl λy5 F5 F=>?_;simp only[u0,u1,F,af,↓uL];refine aOv (v':= .a<|am.c ⟨aNE,st,s,H⟩) rfl (aWb _) ?_;rw[<-hQ];exact⟨_,rfl,by simpa using a7,K,by have:=ao.2;show(L H:Int)<=n\/L H=0;omega⟩;have aa:k<L s.count:=(by simp_all);simp only[qz 49,aI,au,av4,aY,q1,↓iC,amX,ci,qM,aNI i,l6 i,cS,↓uL];refine⟨dJ aa,?_⟩;refine A0 i rfl (by simp[vb.c,mn.c]) λy2 F2 b2=>?_;simp only[qz 14,au,cS,aY,↓uL];exact yU aa ⟨⟨_,b2⟩,(N.trans F2).mono<|by simp⟩
def aSj:FT:=pn aXE
def bcl{l n Lw K}:=f211 aSj aXE l n Lw K (j:=by simp+contextual only[ij,aQZ])
def a7J:dO:=(24,aSj)::a7I
def aX7:eJ a7J:=it (aN0 aXE)<|a7s
def aQW:=ai @bcl<|@aWo
section
attribute[local irreducible] aX
def a9Q:=bA 20 [(10,([5],[1,4]))]
def aSG a b R:=(.mk _:NR a7J a9Q Tryz.f62 [.u] [a] b R).p
def bhp{c0:List AV}{R:o8}(l0:L c0=7)(h:H1 76 7 1 c0 λia b=>aSG ia b R):Ct 62 [.a c0] R:=z1 a9Q aX7 Tryz.func62 l0 h
def aVy a b c R:=(.mk _:NR a7J aua Tryz.f63 [.u,b] [a] c R).p
def bhs{c0:List AV}{b:AV}{R:o8}(l0:L c0=7)(h:H1 76 7 2 c0 λia c=>aVy ia b c R):Ct 63 [.a c0,b] R:=z1 aua aX7 Tryz.func63 l0 h
end
def a6N{Y:ae}{w:vb}(h:L Y=4096)(d:L w.cells<=1000)(e:L w.ak<=100)(f:L w.bU<=100)(g:L w.ay<=100):∃r b,(r= .a (aH6 w).c/\Fx Y b [])/\cZ aS GG 28 [.a w.c] Y r b:=by refine aQR (aXI h d e f g) ?_;rintro _ b ⟨j,k,l,m,n,o,rfl,S,F⟩;refine⟨?_,(F.trans<|aOp _ _).mono λq i=> .inr (S.ids q i).1.no⟩;show AV.a (List.map gK<|List.map (aQd b) _)=_;rw[vA];exact bhO AV.a S.lz
def bfk{w:vb}(h:mQ w=U):vH 0 (aH6 w):=by obtain⟨d,e,f,g,i,j⟩:=aP4 h;refine⟨⟨by simp[aH6];omega,by simp[aH6];omega,by simp[aH6,qZ];omega,λl b=>?_⟩,by simp[aH6];omega,by simp[aH6];omega,by simp[aH6];omega,λc a=>?_⟩;rw[aXY b];simp;rw[aXY a];simp
def aTz{w:vb}{l:List aP}(h:mQ w=U):∀k,k<=90000->vH k (vq w l k)|0,_=>bfk h|k+1,a=>(aTz h k<|by omega).step (by omega)
theorem bcA{ds:List AV}{s:mn}(h:Lk ds s.c)(Y:ae):fzT Y (.a ds)= .a s.c:=by have b:=h.fd Y;have d:ds.map (fz Y)=(ds.map<|dQ Y).map gK:=(by rw[vA];rfl);show AV.a (ds.map<|fz Y)=_;rw[d,b,h.1]
theorem aR0{ds:List AV}{s:mn}(h:Lk ds s.c):aN (V 7) ds=V (.a ds):=Bi<|oC h
theorem ba9(s:mn):iX (.a s.c)=U:=by simp[iX,eN,mn.c,sl]
def aYr(w:vb)(l:List aP)(k:Nat):Prop:=∀j,j<k->C1 w (vq w l j) (gd l j)=U/\(∀n∈(gd l j).dI,aOE l j (gd l j).aq n)/\∀n∈(gd l j).ep,aOE l j (gd l j).aq n
def aXx(t:O3)(hp:L t.ac<1000000/\∀e∈t.ac,EvL e):Ct 62 [.a t.c] (λr=>∃i e:Int,r= .t [iv i,iv e]/\(e=0->aN4 t.aQ t.ac)):=by obtain⟨O,al⟩:=hp;generalize hQ:(λ(r:AV)=>∃i e:Int,r= .t [iv i,iv e]/\(e=0->aN4 t.aQ t.ac))=Qq;refine aDq (bhp rfl λs2 hl b h0=>?_);show aSG (.p (1,1) 0 0) s2 λr=>Qq<|B1 r;have aX:∀{i e:Int},(e=0->aN4 t.aQ t.ac)->Qq (B1<|.t [iv i,iv e]):=λ{i e} h=>(by rw[<-hQ];exact⟨i,e,rfl,h⟩);have ax:∀{y:ae} {i e:Int},(e=0->aN4 t.aQ t.ac)->aE (λr=>Qq<|B1 r) y [iv i,iv e]:=λ{y i e} h=>aOH (vs':=[iv i,iv e]) rfl rfl (by rw[<-hQ];exact⟨i,e,rfl,h⟩);have m:∀{y:ae},box y (1,1)=V ⟨76,7,U,U,[t.c]⟩->lS J y (.p (1,1) 0 6)=V (sl aP.c t.ac):=λ{y} h=>(by rw[aC5,h];rfl);have lW:∀{y:ae},box y (1,1)=V ⟨76,7,U,U,[t.c]⟩->lS (V 6) y (.p (1,1) 0 0)=V (.a t.aQ.c):=λ{y} h=>(by rw[aC5,h];rfl);have g:∀{y:ae},fS y (sl aP.c t.ac)=V (iv<|L t.ac):=cT;rcases q0:Q ((400:Int)<(L t.ac:Int)) with _|_;rotate_left;simp only[aSG,aNI b,m b,g,av1,aY,q0,↓iC,↓uL];simp_all;have ao:L t.ac<=400:=(by grind);simp only[aSG,aNI b,m b,lW b,g,av1,aY,q0,↓iB,aQW,ar,rr,aIN,↓uL];rcases hv:mQ t.aQ with _|_;simp only[kN,iC];simp_all;obtain⟨z1,z2,z3,z4,z5,z6⟩:=aP4 hv;simp only[fh,iB];refine jH rfl (a6N hl (by omega) (by omega) (by omega)<|by omega) ?_;rintro _ a5 ⟨rfl,o⟩;refine⟨o.len,?_⟩;have x:=o.len.trans hl;have T:=o.kq b;simp only[qz 4,qy 6,qy 8];refine so x λv4 a6 H N4 b4=>?_;refine qr b4 rfl rfl λa7 K c4=>?_;have W:=K.kq<|H.kq T;have Z:=K.len.trans<|H.len.trans x;refine yV (L t.ac) (λk _ y=>box y (1,1)=V ⟨76,7,U,U,[t.c]⟩/\(∃ds,box y (4,v4)=V ⟨40,7,U,U,[ds]⟩/\Lk ds (vq t.aQ t.ac k).c)/\L y=4096/\aYr t.aQ t.ac k) ⟨W,⟨_,c4,aXL _⟩,Z,λj d=>aO6 d<|Nat.not_lt_zero _⟩ ?_;rintro k _ y hk ⟨s,⟨ds,d4,F⟩,P,E⟩;rcases q1:Q ((k:Int)<(L t.ac:Int)) with _|_;simp only[qz 61,qy 10,aI,au,aNI s,m s,g,av4,aY,q1,↓iB,↓uL];have am:k=L t.ac:=(by grind);subst am;exact ax λ_=>⟨hv,ao,λj d=>(E j d).1,λj d=>(E j d).2.1,λj d=>(E j d).2.2⟩;have z:k<L t.ac:=(by simp_all);have R:∀{e:aP},aN (V 7) e.c=V (.a e.c):=rfl;simp only[qz 61,qy 10,aI,au,aNI s,m s,g,av4,aY,q1,↓iC,aCh,aC6,R,bh,↓uL];refine⟨dJ z,?_⟩;have v:=al _<|dB z;generalize he:gd t.ac k=e at v;refine so P λB y1 S N6 c6=>?_;refine qr c6 rfl rfl λy2 G2 M=>?_;have u:=G2.kq<|S.kq s;have N:=G2.kq<|S.kq d4;have A:=G2.len.trans<|S.len.trans P;have af:∀{Y:ae},dG Y (.a ds)= .a (vq t.aQ t.ac k).c:=λ{Y}=>F.arg Y;obtain⟨p2,p3,p4,p5,p6,p7,p8⟩:=(aTz (l:=t.ac) hv k<|by omega).snB (by omega);simp only[qz 12,qy 14,aNI u,lW u,u0,u1,N,M,aR0 F,R,ip,aQW,ar,af,↓uL];refine⟨⟨by omega,p2,p3,p4,p5,p6,p7,p8,by have:=v.1;omega,by have:=v.2;omega⟩,?_⟩;rintro _ ⟨cs,rfl,w⟩;refine⟨.inl (by simp[nA,x9 F];simp[eB,iR,aP.c,vb.c,sl]),?_⟩;simp only[oJ,pG,aY];refine so A λv7 y3 C N7 c7=>?_;refine qr c7 rfl (oC w) λG D ag=>?_;have f:=D.kq<|C.kq u;have ah:=D.kq<|C.kq N;have q:=D.kq<|C.kq M;have aa:=D.len.trans<|C.len.trans A;have g0:∀{j:Nat},iQ j G (.p (6,B) 0 0)=V (.p (6,B) 0 j):=(by grind [rR]);have g1:lS J G (.p (6,B) 0 0)=V (iv e.aq):=(by rw[aC5,q];rfl);have g5:lS J G (.p (6,B) 0 5)=V (sl ci e.dI):=(by rw[aC5,q];rfl);have g6:lS J G (.p (6,B) 0 6)=V (sl ci e.ep):=(by rw[aC5,q];rfl);rcases a2:C1 t.aQ (vq t.aQ t.ac k) e with _|_;simp only[qz 16,au,aIN,u0,↓jN,ya,bt,↓uL];simp_all;simp only[qz 16,au,aIN,u0,↓jA,Aa,aNI f,m f,g0,g1,g5,aQW,ar,rr,↓uL];have a1:∀(b X:Bool),(b=U->∀n∈e.dI,aOE t.ac k e.aq n)->(X=U->∀n∈e.ep,aOE t.ac k e.aq n)->b=U->X=U->aYr t.aQ t.ac (k+1):=λb X h1 h2 h3 h4 j d=>(by rcases Nat.lt_succ_iff_lt_or_eq.1 d with h|rfl;exact E j h;simp_all);refine⟨⟨by omega,O,by have:=v.1;omega⟩,?_⟩;rintro _ ⟨r1,rfl,a3⟩;refine⟨.inl (by simp[nA,eB,iR,sl]),?_⟩;cases r1 with|false=>simp only[aIN,aY,aMZ,kN,fh,aBA,jN,ya,iC];simp_all|true=>simp only[aIN,aY,aMZ,kN,fh,aBA,jA,m f,g1,g6,aQW,ar];refine⟨⟨by omega,O,by have:=v.2;omega⟩,?_⟩;rintro _ ⟨r2,rfl,a4⟩;refine⟨.inl (by simp[nA,eB,iR,sl]),?_⟩;cases r2 with|false=>simp only[aIN,aY,kN,Aa,iC];simp_all|true=>simp only[aIN,aY,fh,Aa,iB,u1,ag,aR0 w,ip];refine qr ah (oC F) (oC w) λy5 G5 c5=>?_;simp only[qz 18,au,cS,aY,↓uL];refine yU z ⟨G5.kq f,⟨cs,c5,?_⟩,G5.len.trans aa,by simp_all⟩;grind [vq]
def aUo:FT:=om aXx
def bcf{t Lw K}:=f111 aUo aXx t Lw K (j:=by simp+contextual only[ij,Nb])
def aXA(t:O3)(n:Nat)(hp:aN4 t.aQ t.ac/\n<=L t.ac/\∀e∈t.ac,EvL e):Ct 63 [.a t.c,iv n] (·= .a (vq t.aQ t.ac n).c):=by obtain⟨B,hn,C⟩:=hp;have K:=B.wv;have aw:=B.ln;obtain⟨z1,z2,z3,z4,z5,z6⟩:=aP4 K;refine aDq (bhs rfl λs2 E S h0=>?_);show aVy (.p (2,1) 0 0) (iv n) s2 λr=>B1 r= .a (vq t.aQ t.ac n).c;have lE:∀{y:ae},box y (2,1)=V ⟨76,7,U,U,[t.c]⟩->lS J y (.p (2,1) 0 6)=V (sl aP.c t.ac):=λ{y} h=>(by rw[aC5,h];rfl);have M:∀{y:ae},box y (2,1)=V ⟨76,7,U,U,[t.c]⟩->lS (V 6) y (.p (2,1) 0 0)=V (.a t.aQ.c):=λ{y} h=>(by rw[aC5,h];rfl);simp only[aVy];refine so E λv4 R v N4 W=>?_;have i:=v.len.trans E;have d:=v.kq S;simp only[qz 4,aNI d,M d,aY,↓uL];refine jH rfl (a6N i (by omega) (by omega) (by omega)<|by omega) ?_;rintro _ s8 ⟨rfl,j⟩;refine⟨j.len,?_⟩;have G:=j.len.trans i;simp only[qz 6,qy 8,qy 10];refine so G λg ax q N9 X=>?_;refine qr X rfl rfl λP s c9=>?_;have w:Fx R P [(5,g)]:=(j.trans q).trans s;refine yV n (λk _ y=>Fx R y [(5,g)]/\∃ds,box y (5,g)=V ⟨40,7,U,U,[ds]⟩/\Lk ds (vq t.aQ t.ac k).c) ⟨w,_,c9,aXL _⟩ ?_;rintro k _ y hk ⟨F,ds,z,b⟩;have m:=F.kq d;have d4:=F.kq W;have O:∀{e:aP},aN (V 7) e.c=V (.a e.c):=rfl;rcases N:Q ((k:Int)<(n:Int)) with _|_;have D:k=n:=(by grind);subst D;simp only[qz 25,qy 14,aI,au,av4,aY,N,↓iB,u1,z,aR0 b,aj,ip,↓uL];refine qr d4 rfl (oC b) λy2 u T=>?_;simp only[u0,u1,T,aR0 b,↓uL];grind [aQ7,bcA,ba9];have H:k<n:=(by simp_all);have f:k<L t.ac:=(by omega);have x:∀{Y:ae},dG Y (.a ds)= .a (vq t.aQ t.ac k).c:=λ{Y}=>b.arg Y;obtain⟨p2,p3,p4,p5,p6,p7,p8⟩:=(aTz (l:=t.ac) K k<|by omega).snB (by omega);have o:=C _<|dB f;have l9:lS (V 7) y (.p (5,g) 0 0)=V (.a ds):=(by grind [aC5,aR0]);simp only[qz 25,qy 14,aI,au,av4,aY,N,↓iC,aNI m,M m,lE m,l9,aCh,aC6,O,bh,↓uL];refine⟨dJ f,?_⟩;generalize he:gd t.ac k=e at o;simp only[aQW,ar,x];refine⟨⟨by omega,p2,p3,p4,p5,p6,p7,p8,by have:=o.1;omega,by have:=o.2;omega⟩,?_⟩;rintro _ ⟨cs,rfl,A⟩;refine⟨.inl (by simp[nA,x9 b];simp[eB,iR,aP.c,vb.c,sl]),?_⟩;simp only[oJ,pG,aY];refine qr z (oC b) (oC A) λy2 u Z=>?_;simp only[qz 12,↓uL];refine dT (by simp[eL,lb,Qh,J3,dC,dK]) ?_;simp only[au,cS,aY];refine yU H ⟨(F.trans u).mono (by simp),cs,Z,?_⟩;grind [vq]
def aUq:FT:=aIc aXA
def bci{t n Lw K}:=f210 aUq aXA t n Lw K (j:=by simp+contextual only[ij,Nb,Int.natCast_inj])
def a7K:dO:=(62,aUo)::(63,aUq)::a7J
def a7t:eJ a7K:=it (rj aXx)<|it (aCb aXA)<|aX7
def aWp:=ai @bcf<|ai @bci<|@aQW
section
attribute[local irreducible] aX
def a9T:=bA 16 [(11,([8,9],[1,2]))]
def aVw a b c R:=(.mk _:NR a7K a9T Tryz.f26 [.u,b] [a] c R).p
def bhr{c0:List AV}{b:AV}{R:o8}(l0:L c0=7)(h:H1 76 7 2 c0 λia c=>aVw ia b c R):Ct 26 [.a c0,b] R:=z1 a9T a7t Tryz.func26 l0 h
end
def aV1(n:Int)(l:List am):Prop:=∀w∈l,(Po w=U/\hU w)/\(L w.ac:Int)<=n
def bhH{t:O3}(a:aN4 t.aQ t.ac)(d:∀e∈t.ac,EvL e){i j:Nat}(g:i<=L t.ac)(k:j<=i+16):Po ⟨t.aQ,i,vq t.aQ t.ac i,(t.ac.take j).drop i⟩=U/\hU ⟨t.aQ,i,vq t.aQ t.ac i,(t.ac.take j).drop i⟩:=by obtain⟨z1,z2,z3,m,n,o⟩:=aP4 a.wv;have c:=aTz (l:=t.ac) a.wv i (by have:=a.ln;omega);rw[List.drop_take];refine⟨bhG a g (by omega),by grind,λl h=>?_,λe f=>?_,?_⟩;have:=c.sy.rd l h;have:=a.ln;omega;have b:=d e<|List.mem_of_mem_drop<|List.mem_of_mem_take f;exact⟨by have:=b.1;omega,by have:=b.2;omega⟩;have:=c.fu;show L (vq t.aQ t.ac i).bU<_;omega
def spM(vs:List AV)(y:ae):Nat:=(1000-(match gt vs 1 with| .s (.int _ n)=>n|_=>0)).toNat
def aXz(t:O3)(n:Int)(hp:L t.ac<1000000/\∀e∈t.ac,EvL e):Ct 26 [.a t.c,iv n] (λr=>∃(l:List am) (e:Int),r= .t [sl am.c l,iv e]/\aV1 n l):=by obtain⟨K,u⟩:=hp;generalize E:(λ(r:AV)=>∃(l:List am) (e:Int),r= .t [sl am.c l,iv e]/\aV1 n l)=Qq;refine aDq (bhr rfl λs2 hl C h0=>?_);show aVw (.p (2,1) 0 0) (iv n) s2 λr=>Qq<|B1 r;have S:∀{y:ae},box y (2,1)=V ⟨76,7,U,U,[t.c]⟩->lS (V 7) y (.p (2,1) 0 0)=V (.a t.c):=λ{y} h=>(by rw[aC5,h];rfl);have R:∀{y:ae},box y (2,1)=V ⟨76,7,U,U,[t.c]⟩->lS J y (.p (2,1) 0 6)=V (sl aP.c t.ac):=λ{y} h=>(by rw[aC5,h];rfl);have lW:∀{y:ae},box y (2,1)=V ⟨76,7,U,U,[t.c]⟩->lS (V 6) y (.p (2,1) 0 0)=V (.a t.aQ.c):=λ{y} h=>(by rw[aC5,h];rfl);have z:∀{y:ae},fS y (sl aP.c t.ac)=V (iv<|L t.ac):=cT;have d:∀{y:ae} {e:Int},aE (λr=>Qq<|B1 r) y [.l [] U U,iv e]:=λ{y e}=>aOH (vs':=[sl am.c [],iv e]) rfl rfl (by rw[<-E];exact⟨[],e,rfl,by intro w o;simp at o⟩);simp only[aVw,S C,aY,aWp,ar,Fa,↓uL];refine⟨⟨K,u⟩,?_⟩;rintro _ ⟨i0,e0,rfl,s⟩;refine⟨.inl (by simp[nA,eB,iR,O3.c,vb.c,sl]),?_⟩;simp only[oJ,pG,aY,av6];rcases q0:Q (e0≠0) with _|_;rotate_left;simp only[iC];exact d;have s:=s (by grind);have ao:=s.ln;simp only[iB];rcases B:Q (n<1) with _|_;rotate_left;simp only[u0,u1,B,↓jN,ya,bt,↓uL];exact d;rcases T:Q (16<n) with _|_;rotate_left;simp only[u0,u1,B,T,↓jA,bt,↓uL];exact d;have h1:1<=n:=(by simp_all);have ak:n<=16:=(by simp_all);simp only[u0,u1,B,T,↓jA,bt,↓uL];let b:aG:=λvs y=>∃(out:AV) (f:List am) (i:Nat),vs=[out,iv i]/\i<=500/\L f<=i/\aV1 n f/\gm y 43 15 out (f.map am.c)/\(∀q∈aA out,q.1=51)/\box y (2,1)=V ⟨76,7,U,U,[t.c]⟩/\L y=4096;refine⟨b,spM,⟨_,[],0,rfl,by omega,by simp,by intro w o;simp at o, .inl ⟨rfl,rfl⟩,by simp[aA],C,hl⟩,?_⟩;rintro _ y ⟨out,f,i,rfl,hi,ap,F,g,po,k,v⟩;generalize hI:b=I';rcases X:Q ((i:Int)<(L t.ac:Int)) with _|_;simp only[qz 67,qy 4,aI,au,gt1,aNI k,R k,z,av4,aY,X,↓iB,↓uL];refine aOH (vs':=[sl am.c f,iv 0]) (by simp only[ji,mU,aWs g];rfl) (by simp[iX,eN,sl]) ?_;rw[<-E];exact⟨f,0,rfl,F⟩;have O:i<L t.ac:=(by simp_all);have D:dq.wrap ((i:Int)+n)=(i:Int)+n:=(by grind [eM]);obtain⟨m,rfl⟩:∃m:Nat,n=m:=⟨n.toNat,by omega⟩;obtain⟨j,M,N,an⟩:∃j:Nat,(if(L t.ac:Int)<(i:Int)+m then(L t.ac:Int) else(i:Int)+m)=j/\j<=i+16/\i<=j/\j<=L t.ac:=(by split;grind;exact⟨i+m,by omega,by omega,by omega,by omega⟩);have o:=bhH s u (Nat.le_of_lt O) N;have G:bM aOQ aQ4 [(0, .a t.aQ.c),(1,iv i),(2, .a (vq t.aQ t.ac i).c),(3,sl aP.c<|(t.ac.take j).drop i)]=V (.a<|am.c ⟨t.aQ,i,vq t.aQ t.ac i,(t.ac.take j).drop i⟩):=rfl;simp only[qz 67,qy 4,aI,au,gt1,aNI k,R k,lW k,S k,z,av4,cS,aY,X,↓iC,aWp,ar,Fa,D,aXT,M,slE,↓uL];refine⟨(by grind), .inl (by simp[nA,eB,iR,O3.c,vb.c,sl]),(by omega),?_⟩;simp only[bh,G,aY];have x:(L (am.mk t.aQ i (vq t.aQ t.ac i)<|(t.ac.take j).drop i).ac:Int)<=m:=(by have:j<=i+m:=(by omega);show(L ((t.ac.take j).drop i):Int)<=m;rw[oz,gC];omega);generalize al:(am.mk t.aQ i (vq t.aQ t.ac i)<|(t.ac.take j).drop i)=W at o x;have H:aX a72 1 y [(0, .a W.c)]=V (.l ([W].map am.c) U U,y):=ua rfl rfl rfl (by decide) (by simp[am.c,eN,sl]) (by decide);have aEx:∀{l:List am},∀r∈l.map am.c,L r=15:=qW (by intro _;rfl);simp only[H,bQ];refine apQ g v aEx aEx (by simp) (by simp;omega) λA y2 g2 Z p2=>?_;simp only[qz 6,↓uL];refine dT (by simp[eL,lb]) ?_;simp only[gt1,cS,aY,D,↓uL];rw[<-hI];refine⟨⟨A,f++[W],i+m,by simp,by omega,by simp;omega,λw P=>?_,by grind [bc.p],λq hq=>(p2 q hq).2,(by grind [Fx.keep]),Z.len.trans v⟩,?_⟩;rcases dF.1 P with h|h;exact F w h;simp at h;subst h;exact⟨o,x⟩;show(1000-((i:Int)+m)).toNat<(1000-(i:Int)).toNat;omega
def aUp:FT:=pn aXz
def bch{t n Lw K}:=f211 aUp aXz t n Lw K (j:=by simp+contextual only[ij,Nb])
def a7L:dO:=(26,aUp)::a7K
def a7u:eJ a7L:=it (aN0 aXz)<|a7t
def aWq:=ai @bch<|@aWp
section
attribute[local irreducible] aX
def aZd a b s0 R:=(.mk _:NR a7L aur Tryz.f25 [a,b] [] s0 R).p
def bgh{a b:AV}{R:o8}(h:H0 λs0=>aZd a b s0 R):Ct 25 [a,b] R:=z0 aur a7u Tryz.func25 h
end
def aWK(p:List Int)(s:List Int)(z:(∀x∈p,0<=x/\x<256)/\L p<4611686018427387904/\L s<=100):Ct 25 [sl cu p,sl cu s] (λr=>∃t:O3,r= .a t.c/\L t.ac<=100/\∀e∈t.ac,EvL e):=by obtain⟨v,w,S⟩:=z;generalize T:(λ(r:AV)=>∃t:O3,r= .a t.c/\L t.ac<=100/\∀e∈t.ac,EvL e)=Qq;refine aDq (bgh λs0 k R=>?_);simp only[aZd];refine so k λZ W l O m=>?_;have g:=l.len.trans k;simp only[qz 2,qy 4,aWq,ar];refine⟨⟨v,w⟩,?_⟩;rintro _ ⟨c,rfl,y⟩;refine⟨.inl (by simp[nA,eB,iR,sl]),?_⟩;simp only[Fa];refine⟨by omega,?_⟩;rintro _ ⟨cs,rfl,D⟩;refine⟨.inl (by simp[nA,eB,iR,sl]),?_⟩;simp only[aWq,ar];refine⟨⟨y,by omega⟩,?_⟩;rintro _ ⟨t,st,rfl,E,F⟩;refine⟨.inl (by simp[nA,eB,iR,sl,qt.c,vb.c]),?_⟩;simp only[oJ,pG,aY];refine so g λv8 X h P n=>?_;refine so (h.len.trans g) λN G b B i=>?_;simp only[qz 6,qy 8];refine qr (b.kq n) rfl rfl λH d o=>?_;refine qr (d.kq i) rfl rfl λK f C=>?_;have j:=f.kq o;have q:=f.kq<|d.kq<|b.kq<|h.kq m;have rt:aN (V 7) t.c=V (.a t.c):=rfl;simp only[qz 10,qy 12,u0,u1,j,rt,ip,↓uL];refine qr q rfl rfl λM A u=>?_;simp only[u0,u1,u,rt,↓uL];refine aOv (v':= .a t.c) rfl (by simp[iX,eN,O3.c,vb.c,sl]) ?_;grind
def aTW:FT:=pn aWK
def bbs{p s Lw K}:=f211 aTW aWK p s Lw K (j:=by simp+contextual only[ij,aQZ])
def a7M:dO:=(25,aTW)::a7L
def a7v:eJ a7M:=it (aN0 aWK)<|a7u
def aRP:=ai @bbs<|@aWq
section
attribute[local irreducible] aX
def a9W:=bA 10 []
def aVB a b c R:=(.mk _:NR a7M a9W Tryz.f9 [.u,b] [a] c R).p
def bhu{c0:List AV}{b:AV}{R:o8}(l0:L c0=5)(h:H1 24 5 2 c0 λia c=>aVB ia b c R):Ct 9 [.a c0,b] R:=z1 a9W a7v Tryz.func9 l0 h
end
structure aOA where
 p:List Int
 s:List Int
 c:List Int
 z:Int
 w:Int
 deriving Inhabited
def aOA.cs(v:aOA):List AV:=[sl cu v.p,sl cu v.s,sl cu v.c, .s<|.int .u8 v.z, .s<|.int .u8 v.w]
def ByL(l:List Int):Prop:=(∀x∈l,0<=x/\x<256)/\L l<4611686018427387904
structure aSr(v:aOA):Prop where
 p:ByL v.p
 s:ByL v.s
 c:ByL v.c
 z:0<=v.z/\v.z<256
 w:0<=v.w/\v.w<256
def bcQ{v v':aOA}:(v.cs=v'.cs)=(v=v'):=by(cases v;cases v');simp only[aOA.cs,kO,aQZ,AV.s.injEq,Value.int.injEq,aOA.mk.injEq,I9,aNR]
def aYl{w:am}:aN (V 15) w.c=V (.a w.c):=rfl
def aXD(v:aOA)(n:Int)(hp:aSr v/\1<=n/\n<=16):Ct 9 [.a v.cs,iv n] (λr=>∃w:am,r= .a w.c/\Po w=U/\hU w/\(L w.ac:Int)<=n):=by obtain⟨B,aN,az⟩:=hp;generalize hQ:(λ(r:AV)=>∃w:am,r= .a w.c/\Po w=U/\hU w/\(L w.ac:Int)<=n)=Qq;refine aDq (bhu rfl λs2 hl b1 h0=>?_);show aVB (.p (2,1) 0 0) (iv n) s2 λr=>Qq<|B1 r;simp only[aVB];refine so hl λM s4 N N4 R=>?_;have ab:=N.len.trans hl;have d:=N.kq b1;have l0:∀{y:ae},box y (2,1)=V ⟨24,5,U,U,[v.cs]⟩->lS J y (.p (2,1) 0 0)=V (sl cu v.p):=λ{y} h=>(by rw[aC5,h];rfl);have l1:∀{y:ae},box y (2,1)=V ⟨24,5,U,U,[v.cs]⟩->lS J y (.p (2,1) 0 1)=V (sl cu v.s):=λ{y} h=>(by rw[aC5,h];rfl);have l2:∀{y:ae},box y (2,1)=V ⟨24,5,U,U,[v.cs]⟩->lS J y (.p (2,1) 0 2)=V (sl cu v.c):=λ{y} h=>(by rw[aC5,h];rfl);have H:∀{y:ae},box y (2,1)=V ⟨24,5,U,U,[v.cs]⟩->lS J y (.p (2,1) 0 3)=V (.s<|.int .u8 v.z):=λ{y} h=>(by rw[aC5,h];rfl);have l4:∀{y:ae},box y (2,1)=V ⟨24,5,U,U,[v.cs]⟩->lS J y (.p (2,1) 0 4)=V (.s<|.int .u8 v.w):=λ{y} h=>(by rw[aC5,h];rfl);have hz:=B.z;have hw:=B.w;have X:dq.wrap v.z=v.z:=(by grind [eM]);have W:dq.wrap v.w=v.w:=(by grind [eM]);have aL:=Int.tmod_nonneg n hz.1;have aM:=Int.tmod_lt_of_pos v.z (show 0<n by omega);have T:dq.wrap (1+v.z.tmod n)=1+v.z.tmod n:=(by grind [eM]);have O:∀{Y:ae},dG Y (.l [] U U)=sl cu []:=rfl;have o:∀{y:ae} {w:am},Po w=U->hU w->(L w.ac:Int)<=n->box y (4,M)=V ⟨43,15,U,U,[aOQ]⟩->sV (aK 15 y (.p (4,M) 0 0)<|.a w.c) λE=>rV (lS (V 15) E<|.p (4,M) 0 0) λao=>aE (λr=>Qq<|B1 r) E [ao]:=λ{y w} u A G hb=>(by refine qr hb rfl rfl λz F b=>?_;simp only[u0,u1,b,aYl,ip];refine aOv (v':= .a w.c) rfl (aWb _) ?_;rw[<-hQ];exact⟨w,rfl,u,A,G⟩);rcases q0:Q ((0:Int)<(L v.c:Int)) with _|_;rotate_left;simp only[qz 4,qy 6,qy 8,aNI d,l2 d,H d,a6S,av1,aY,q0,↓iC,aS6,X,aPR,aP1,cS,T,aRP,ar,↓uL];refine⟨by omega,B.c,?_⟩;rintro _ ⟨w,rfl,u,A,G⟩;exact⟨.inl (by simp[nA,eB,iR,sl]),o u A (by omega) R⟩;simp only[qz 4,qy 6,qy 8,aNI d,l0 d,l1 d,l2 d,H d,a6S,av1,aY,q0,↓iB,aXT,↓uL];rw[aIk (z:=1) (f:=cu) λ_=>rfl];refine⟨(by omega),?_⟩;generalize hk:(if(80:Int)<(L v.s:Int) then(80:Int) else(L v.s:Int))=k;have ay:k<=80:=(by omega);simp only[aRP,ar];refine⟨⟨B.p.1,B.p.2,by grind⟩,?_⟩;rintro _ ⟨t,rfl,aO,ag⟩;refine⟨.inl (by simp[nA,eB,iR,sl]),?_⟩;refine so ab λap aP C aJ P=>?_;refine qr P rfl rfl λan D S=>?_;have i:=D.kq<|C.kq d;have m:=D.kq<|C.kq R;have lt:lS (V 7) an (.p (5,ap) 0 0)=V (.a t.c):=(by rw[aC5,S];rfl);simp only[qz 10,qy 12,qy 14,↓uL];refine dT (by simp[eL,lb,Qh,J3,dC,dK,sl]) ?_;simp only[aNI i,H i,l4 i,lt,aY,aS6,X,W,aPR,aP1,cS,T,aRP,ar,Fa,↓uL];refine⟨by omega,⟨by omega,ag⟩,?_⟩;rintro _ ⟨g,e,rfl,hW⟩;refine⟨.inl (by simp[nA,eB,iR,O3.c,vb.c,sl]),?_⟩;have ak:∀{y:ae},fS y (sl am.c g)=V (iv<|L g):=cT;simp only[oJ,pG,aY,ak,iM];rcases q1:Q ((L g:Int)=0) with _|_;rotate_left;simp only[iC,aRP,O];refine⟨⟨by simp,by simp⟩,?_⟩;rintro _ ⟨w,rfl,u,A,G⟩;exact⟨.inl (by simp[nA,eB,iR]),o u A (by omega) m⟩;have h0:0<L g:=(by grind);have ad:=Int.tmod_nonneg (L g:Int) hw.1;have af:=Int.tmod_lt_of_pos v.w (show(0:Int)<L g by omega);have Z:∀{x:ae} {j:Int} {K:o8},rV (cz 15 x (sl am.c g)<|iv j) K=(aF (L g) j/\K (.q<|am.c<|gd g j.toNat)):=aBz λ_=>rfl;simp only[iB,aPR,aP1,Z,aC6,aYl,aY];have h:=hW _ (dB<|show(v.w.tmod (L g:Int)).toNat<L g by omega);exact⟨by omega,⟨ad,af⟩,o h.1.1 h.1.2 (by have:=h.2;omega) m⟩
def aUs:FT:=pn aXD
def bck{v n Lw K}:=f211 aUs aXD v n Lw K (j:=by simp+contextual only[ij,bcQ])
def a7N:dO:=(9,aUs)::a7M
def aX8:eJ a7N:=it (aN0 aXD)<|a7v
def a6u:=ai @bck<|@aRP
def bnW:=bA 10 [(4,([3,11],[9,10]))]
def blh a s0 R:=(.mk _:NR a7N bnW Tryz.f127 [a] [] s0 R).p
def bp6{a:AV}{R:o8}(h:H0 λs0=>blh a s0 R):Ct 127 [a] R:=z0 bnW aX8 Tryz.func127 h
def bnU:=bA 10 [(4,([18],[2,3,16,17]))]
def bk5 a b R:=(.mk _:NR a7N bnU Tryz.f126 [.u] [a] b R).p
def bp4{c0:List AV}{R:o8}(l0:L c0=4)(h:H1 36 4 1 c0 λia b=>bk5 ia b R):Ct 126 [.a c0] R:=z1 bnU aX8 Tryz.func126 l0 h
def blg b a c R:=(.mk _:NR a7N at1 Tryz.f128 [.u, .u] [b,a] c R).p
def bp5{c0:List AV}{b:List AV}{R:o8}(l0:L c0=15)(l1:L b=9)(h:H2 43 15 2 c0 57 9 3 b λia c d=>blg ia c d R):Ct 128 [.a c0, .a b] R:=z2 at1 aX8 Tryz.func128 l0 l1 h
def bnR:=bA 14 [(6,([22],[2,4,20,21]))]
def bkD b a c d R:=(.mk _:NR a7N bnR Tryz.f98 [.u, .u,c] [b,a] d R).p
def bp0{c0:List AV}{b:List AV}{c:AV}{R:o8}(l0:L c0=15)(l1:L b=9)(h:H2 43 15 3 c0 57 9 4 b λia d e=>bkD ia d c e R):Ct 98 [.a c0, .a b,c] R:=z2 bnR aX8 Tryz.func98 l0 l1 h
def bn0:=bA 10 [(3,([7],[2,3,4]))]
def blD b a c d R:=(.mk _:NR a7N bn0 Tryz.f42 [.u, .u,c] [b,a] d R).p
def bqa{c0:List AV}{b:List AV}{c:AV}{R:o8}(l0:L c0=15)(l1:L b=9)(h:H2 43 15 3 c0 57 9 4 b λia d e=>blD ia d c e R):Ct 42 [.a c0, .a b,c] R:=z2 bn0 aX8 Tryz.func42 l0 l1 h
def bnZ:=bA 16 [(6,([9],[2,3,4,5])),(9,([],[2,3,4,5,9]))]
def blA b a c d e R:=(.mk _:NR a7N bnZ Tryz.f77 [.u, .u,c,d] [b,a] e R).p
def bp9{c0:List AV}{b:List AV}{c d:AV}{R:o8}(l0:L c0=15)(l1:L b=9)(h:H2 43 15 4 c0 57 9 5 b λia e f=>blA ia e c d f R):Ct 77 [.a c0, .a b,c,d] R:=z2 bnZ aX8 Tryz.func77 l0 l1 h
def bml a b c R:=(.mk _:NR a7N a9l Tryz.f43 [.u,b] [a] c R).p
def bqg{c0:List AV}{b:AV}{R:o8}(l0:L c0=9)(h:H1 57 9 2 c0 λia c=>bml ia b c R):Ct 43 [.a c0,b] R:=z1 a9l aX8 Tryz.func43 l0 h
def bnQ:=bA 30 [(11,([10,45],[2,3,5,9,43,44])),(14,([10],[2,3,5,9,43,44,45])),(19,([61],[5,9,10,59,60])),(22,([],[5,9,10,59,60,61]))]
def bkx b a c d e R:=(.mk _:NR a7N bnQ Tryz.f134 [.u, .u,c,d] [b,a] e R).p
def bpZ{c0:List AV}{b:List AV}{c d:AV}{R:o8}(l0:L c0=15)(l1:L b=9)(h:H2 43 15 4 c0 57 9 5 b λia e f=>bkx ia e c d f R):Ct 134 [.a c0, .a b,c,d] R:=z2 bnQ aX8 Tryz.func134 l0 l1 h
structure aB9 where
 value:Int
 known:Bool
 deriving Inhabited,DecidableEq
structure sA where
 mp:aW
 cells:List aB9
 bU:List aB9
 order:List Int
 fixed:List Bool
 woke:List Int
 deriving Inhabited,DecidableEq
def aB9.c(x:aB9):List AV:=[iv x.value,bv x.known]
def sA.c(x:sA):List AV:=[sl cg.c x.mp.ak,iv x.mp.tx,sl cb x.mp.done,sl aoC.c x.mp.ay,sl aB9.c x.cells,sl aB9.c x.bU,sl ci x.order,sl cb x.fixed,sl ci x.woke]
def boR{x y:aB9}:(aB9.c x=aB9.c y)=(x=y):=by cases x;cases y;simp[aB9.c]
def boS{l l':List aB9}:(sl aB9.c l=sl aB9.c l')=(l=l'):=kL (by intro x y h;rwa [boR] at h)
def aNX{x y:sA}:(sA.c x=sA.c y)=(x=y):=by cases x;cases y;simp[sA.c,amV,boS,aN8,mD,aW.ext_iff',a6z]
def ijm:=ai @boS<|@aNX
def bpy{x:aB9}:aN J (aB9.c x)=V (iv x.value):=rfl
def bpz{x:aB9}:aN J ((aB9.c x).drop 1)=V (bv x.known):=rfl
def bpA{x:aB9}:aN (V 2) (aB9.c x)=V (.a<|aB9.c x):=rfl
def bpq{x:sA}:aN J ((sA.c x).drop 3)=V (sl aoC.c x.mp.ay):=rfl
def bpr{x:sA}:aN J ((sA.c x).drop 4)=V (sl aB9.c x.cells):=rfl
def bps{x:sA}:aN J ((sA.c x).drop 5)=V (sl aB9.c x.bU):=rfl
def bpt{x:sA}:aN J ((sA.c x).drop 6)=V (sl ci x.order):=rfl
def bpu{x:sA}:aN J ((sA.c x).drop 7)=V (sl cb x.fixed):=rfl
def bpv{x:sA}:aN J ((sA.c x).drop 8)=V (sl ci x.woke):=rfl
def bpw{x:sA}:aN (V 4) (sA.c x)=V (.a<|x.mp.c):=rfl
def bpx{x:sA}:aN (V 9) (sA.c x)=V (.a<|sA.c x):=rfl
def oe:=ai @bpy<|ai @bpz<|ai @bpA<|ai @bpq<|ai @bpr<|ai @bps<|ai @bpt<|ai @bpu<|ai @bpv<|ai @bpw<|@bpx
def boc{Y:ae}{x:sA}:dG Y (.a<|sA.c x)= .a (sA.c x):=rfl
def arm:=@boc
section
variable{K:o8}{Y:ae}{i:Int}
def boX{l:List aB9}:rV (cz 2 Y (sl aB9.c l)<|iv i) K=(aF (L l) i/\K (.q<|aB9.c<|gd l i.toNat)):=aBz λ_=>rfl
end
def aNY(w:am):sA:=⟨w.init.mp,w.init.cells.map λv=>⟨v,U⟩,w.init.bU.map λv=>⟨v,U⟩,[],er (L w.ac) I,er (L w.ac) 0⟩
def a6w(w:am)(c:sA)(t:Int)(i:Nat):Bool:=Q ((gd w.ac i).aq=t)&&!Q ((i:Int)∈c.order)
def aH7(w:am)(c:sA)(t:Int):Int:=uo (a6w w c t)<|L w.ac
def aPQ(w:am)(c:sA)(t n:Int):Bool:=Q (n<gd w.init.count t.toNat)||(dh (oV w t<|n-gd w.init.count t.toNat) (L c.fixed)&&gd c.fixed (oV w t<|n-gd w.init.count t.toNat).toNat)
def aTF(w:am)(c:sA)(t:Int)(l:List Int):Bool:=l.all<|aPQ w c t
def evN(w:am)(c:sA)(t:Int):aP:=gd w.ac (aH7 w c t).toNat
def aID(w:am)(c:sA)(t:Int):Bool:=!Q (aH7 w c t<0)&&(jm w.aQ c.mp t (evN w c t).kind (evN w c t).nt&&aTF w c t (evN w c t).dI)
def aRD(w:am)(c:sA)(t:Int)(e:aP):aB9:=bif aTF w c t e.ep then⟨e.value,U⟩ else⟨0,I⟩
def aN2(w:am)(c:sA)(ch:xd):sA:=
 let k:=aH7 w c ch.aq
 let e:=gd w.ac k.toNat
 let a:=cU w.aQ c.mp ch.aq e.kind e.nt ch.lD
 {mp:=a.1,order:=c.order++[k],
  cells:=if e.kind=4 then c.cells.set e.nt.toNat (aRD w c ch.aq e) else c.cells,
  bU:=if e.kind=22 then c.bU.set e.nt.toNat (aRD w c ch.aq e) else c.bU,
  fixed:=if e.kind=3 then c.fixed.set k.toNat (Q<|gd c.cells e.nt.toNat=⟨e.value,U⟩) else if e.kind=23 then c.fixed.set k.toNat (Q<|gd c.bU e.nt.toNat=⟨e.value,U⟩) else c.fixed,
  woke:=if e.kind=18 then(if 0<=a.2 then c.woke.set k.toNat 1 else c.woke) else if e.kind=19 then c.woke.set k.toNat a.2 else c.woke}
def aNT(w:am):sA->List xd->Option sA|c,[]=>V c|c,ch::l=>if aID w c ch.aq=U then aNT w (aN2 w c ch) l else J
structure CfI(w:am)(c:sA):Prop where
 sy:kQ (L w.aQ.ay) c.mp
 ft:lh w.aQ c.mp=U
 ce:L c.cells=L w.aQ.cells
 fu:L c.bU=L w.aQ.bU
 fx:L c.fixed=L w.ac
 wk:L c.woke=L w.ac
 od:∀x∈c.order,aF (L w.ac) x
 nd:c.order.Nodup
def bka:∀(n:Nat) {l:List Int},l.Nodup->(∀x∈l,aF n x)->L l<=n
 |0,l,_,h=>by
  cases l with
  |nil=>simp
  |cons x l=>obtain⟨f,b⟩:=h x (by simp);omega
 |n+1,l,d,h=>by
  by_cases i:(n:Int)∈l
  ·have f:=bka n (d.erase (n:Int)) λx a=>by
    have b:=(d.mem_erase_iff).1 a
    obtain⟨c,g⟩:=h x b.2
    have j:=b.1
    exact⟨c,by omega⟩
   simp_all
  ·have f:=bka n d λx a=>by
    obtain⟨c,g⟩:=h x a
    have:x≠n:=λe=>i<|e▸a
    exact⟨c,by omega⟩
   omega
def CfI.ol{w:am}{c:sA}(h:CfI w c):L c.order<=L w.ac:=bka _ h.nd h.od
theorem bmY{p:Nat->Bool}{n:Nat}(h:0<=uo p n):∃k,uo p n=(k:Nat)/\k<n/\p k=U:=by grind [uo]
def bpd{l:List Int}:∀{s:aW},(l.foldl uE s).ak=s.ak/\(l.foldl uE s).done=s.done/\L (l.foldl uE s).ay=L s.ay:=by induction l with|nil=>simp|cons u l a=>grind [uE,aNN]
def bis(s:aW)(x:aW×Int):Prop:=L x.1.ak=L s.ak/\L x.1.done=L s.done/\L x.1.ay=L s.ay
def bis.ite{s:aW}{c:Prop}[Decidable c]{a b:aW×Int}(d:bis s a)(e:bis s b):bis s (if c then a else b):=by grind
def bob{w:vb}{s:aW}{t kind nt lD:Int}:bis s (cU w s t kind nt lD):=by obtain⟨m1,b,c⟩:=bpd (l:=fO s nt) (s:=s);have a:(λ(s:aW) u=>aNN s u {fA s u with cQ:=4})=uE:=rfl;unfold cU;rw[a];(repeat' apply bis.ite)<;>simp only[bis,aNN,lC,List.length_set,m1,b,c,awG]
def boJ{w:vb}{s:aW}(h:lh w s=U)(t kind nt lD:Int):lh w (cU w s t kind nt lD).1=U:=by have a:=bob (w:=w) (s:=s) (t:=t) (kind:=kind) (nt:=nt) (lD:=lD);simp only[lh,bN,aBY,a.1,a.2.1,a.2.2] at h⊢;exact h
def bjy{w:am}{c:sA}{t:Int}(h:aID w c t=U):∃k,aH7 w c t=(k:Nat)/\k<L w.ac/\(gd w.ac k).aq=t/\(k:Int)∉c.order/\jm w.aQ c.mp t (gd w.ac k).kind (gd w.ac k).nt=U/\aTF w c t (gd w.ac k).dI=U:=by simp only[aID,evN,bN,eH,aNG,aqC] at h;grind [bmY,a6w,aH7]
theorem CfI.step{w:am}{c:sA}(h:CfI w c){ch:xd}(d:aID w c ch.aq=U):CfI w (aN2 w c ch):=by obtain⟨k,b,e,f,g,a,i⟩:=bjy d;simp only[jm,bN] at a;refine⟨h.sy.apply _ _ _ _ _<|dX.1 a.2.1,boJ h.ft _ _ _ _,?_,?_,?_,?_,?_,?_⟩<;>simp only[aN2,b];have:=h.ce;grind;have:=h.fu;grind;have:=h.fx;grind;have:=h.wk;grind;grind [CfI.od,dJ];grind [CfI.nd]
def bhV{w:am}(b:Po w=U):CfI w (aNY w):=by obtain⟨c,h⟩:=aQA b;obtain⟨g,f,d,e,a⟩:=tC c;simp only[fN,bN,aBY] at a;exact⟨Bq b 0<|Nat.zero_le _,a.1,by grind [aNY],by grind [aNY],by simp[aNY],by simp[aNY],by simp[aNY],by simp[aNY]⟩
def CfI.run{w:am}:∀{l:List xd} {c b:sA},CfI w c->aNT w c l=V b->CfI w b
 |[],c,b,h,a=>by grind [aNT]
 |ch::l,c,b,h,a=>by
  simp only[aNT] at a
  split at a
  ·exact CfI.run (h.step ‹_›) a
  ·cases a
def bhP(w:am)(c:sA)(e:Int):Bool:=Q (aH7 w c (gd w.ac e.toNat).aq=e)&&aID w c (gd w.ac e.toNat).aq
def aTr(w:am)(c:sA)(e:Int):Bool:=Q (aH7 w c (gd w.ac e.toNat).aq=e)&&!(Q ((gd w.ac e.toNat).kind=17)&&Q ((gd c.mp.ay (gd w.ac e.toNat).aq.toNat).cQ≠4))
def atC(c:sA)(e:Int):Int:=uo (λi=>Q<|gd c.order i=e)<|L c.order
def aOM(w:am)(c:sA)(g:cJ):Bool:=
 bif Q (g.kind=1) then bhP w c g.ea&&bhP w c g.eb
 else bif Q (g.kind=2) then g.cW.all<|aTr w c
 else bif Q (g.kind=3) then !Q (L c.order=0)&&(Q (gd c.order (L c.order-1)=g.eb)&&(Q (g.ea∈c.order)&&Q (gd c.woke g.ea.toNat=0)))
 else !Q (atC c g.ea<0)&&(Q (atC c g.ea<atC c g.ec)&&(Q (g.ed∈c.order)&&bhP w c g.eb))
def biu(w:am)(g:cJ)(l:List xd):Bool:=match aNT w (aNY w) l with|some c=>aOM w c g|none=>I
def bj8{t:Int}:∀{l:List aP} {i m:Nat},L (kJ t l i)<=m->pS t l m i= -1
 |[],i,m,h=>rfl
 |e::l,i,m,h=>by
  simp only[kJ,a6G] at h
  simp only[pS]
  by_cases a:e.aq=t
  ·simp only[a,aNZ,List.length_singleton] at h⊢
   obtain⟨m,rfl⟩:∃m',m=m'+1:=⟨m-1,by omega⟩
   rw[J7 (by omega),show((m+1:Nat):Int)-1=(m:Int) by omega]
   exact bj8 (by omega)
  ·simp only[a,bhR,vw] at h⊢
   exact bj8 (by omega)
def bpk{w:am}{t:Int}:kJ t w.ac 0=fj w.ac t (L w.ac):=by grind [anU,gV]
def bpf{w:am}{t:Int}{m:Nat}(h:L (fj w.ac t<|L w.ac)<=m):oV w t m= -1:=bj8 (by rwa [bpk])
def boK{w:am}{c:sA}{t n:Int}(d:L c.fixed=L w.ac)(e:gd w.init.count t.toNat<=n):aPQ w c t n=(Q ((n-gd w.init.count t.toNat)<(L (fj w.ac t<|L w.ac):Int))&&gd c.fixed (gd (fj w.ac t<|L w.ac) (n-gd w.init.count t.toNat).toNat)):=by obtain⟨m,a⟩:∃m:Nat,n-gd w.init.count t.toNat=m:=⟨(n-gd w.init.count t.toNat).toNat,by omega⟩;simp only[aPQ,a,bh];rw[bjz (by omega),lG];by_cases h:m<L (fj w.ac t<|L w.ac);have b:gd (fj w.ac t<|L w.ac) m<L w.ac:=(by grind [dB,fj]);grind [aEv,dX,dJ];rw[bpf (by omega),bjz<|by omega];rfl
def bod(n c:Nat)(w:World)(R:Ending->World->Prop)(a:R (.returned<|.slice J 0 0) w):Calls aS 131 #[.slice J n c] w R:=by have b:=λ(W:World)=>run_eql_slice_nil (P:=aS) W 55 157 J n c (by kernel_rfl);go_enter Tryz.func131,Tryz.ntmps131;go_wp2;exact a
def boe(A:Addr)(n c:Nat)(w:World)(R:Ending->World->Prop)(b:(nU Tryz.f131).wp aS (bodyPost aS Tryz.f131 R) {tmps:=#[.slice (V A) n c,undef, .slice J 0 0, .slice (V A) n c, .bool I,undef,undef,undef],defers:=[]} w):Calls aS 131 #[.slice (V A) n c] w R:=by have d:=λ(W:World)=>run_eql_slice_nil (P:=aS) W 55 157 (V A) n c (by kernel_rfl);go_enter Tryz.func131,Tryz.ntmps131;generalize a:(Code.region 3 _ I).seq Code.ret=T;go_wp2;subst a;exact b
def bnc{aa:List (List AV)}(j:∀r∈aa,L r=2)(t:L aa<1000000):∃r a,bc a 157 2 r aa/\cZ aS GG 131 [.l aa I I] eK r a/\(aa=[]->r= .l [] U U):=by have h:=DX (fn:=131) (f:=Tryz.f131) (an:=[J,J]) Tryz.func131 rfl rfl (λn c w R h=>bod n c w R h) (λA n c w R h=>boe A n c w R h) (by kernel_rfl) (by kernel_rfl) (aa:=aa) (R:=λr a=>bc a 157 2 r aa/\(aa=[]->r= .l [] U U/\a=eK)) (Eq.mpr (show iV aS GG [] [J,J] (nU Tryz.f131) 0 (tO aS Tryz.f131 λr a=>bc a 157 2 r aa/\(aa=[]->r= .l [] U U/\a=eK)) (gt<|xE<|.l aa I I) eK=(eV (aX aWd 0 eK []) λo k=>eV (cj 157 aN7 16 k 7 o<|.l aa I I) λt4 m=>fe (λr a=>bc a 157 2 r aa/\(aa=[]->r= .l [] U U/\a=eK)) m [t4]) by kernel_rfl) ?_) (λr a h=>h.2);obtain⟨r,a,d,i⟩:=h;exact⟨r,a,d.1,i,λe=>(d.2 e).1⟩;simp only[nS,bQ];by_cases b:aa=[];subst b;simp only[cj,gL,vw,aNZ,eV,fe,aoz];exact⟨bc.nil,λ_=>⟨trivial,trivial⟩⟩;refine gD (e:=157) (new:=aa) bc.nil rfl (by decide) (by rw[show L eK=4096 from List.length_replicate ..];decide) (by simp) j (by simp only[vw];omega) λq Y' g p s _=>?_;simp only[fe,aoz];exact⟨g,λh=>aO6 h b⟩
def bmT{Y:ae}{d:Nat}{K:be}{aa:List (List AV)}{x:AV}(q:dG Y x= .l aa I I)(p:∀r∈aa,L r=2)(o:L aa<1000000)(i:aa.all (λr=>r.all gY)=U)(c:d<L Y)(e:∀a Y',bc Y' 157 2 a aa->Fx Y Y' []->(∀k∈aA a,bK Y k/\k.1=d)->K a Y'):cN 131 [x] Y d K:=by obtain⟨r,j,g,h,_⟩:=bnc p o;have f:[x].map (dG Y)=[.l aa I I]:=(by simp[q]);refine .inl ⟨by rw[f];rfl,by simp[vg,c],r,j,by rw[f];exact h,?_⟩;rcases g with⟨m,rfl⟩|⟨b,rfl,n⟩;exact .inl ⟨rfl,e _ _ (.inl ⟨m,rfl⟩) (Fx.refl _ _) (by simp[aA])⟩;refine .inr ⟨b,_,_,rfl,n,?_,e _ _ (.inr ⟨lA Y d,rfl,iy c⟩) (kH c)<|by simp[aA,lA,bK]⟩;simpa[qA] using i
def a8d{l:List aB9}:∀r∈l.map aB9.c,L r=2:=by intro r a;obtain⟨y,_,rfl⟩:=dN.1 a;rfl
def bjR(l:List Int)(G:L l<1000):Ct 127 [sl ci l] (·=sl aB9.c (l.map λv=>⟨v,U⟩)):=by refine aDq (bp6 λs0 n D=>?_);have o:∀{K:be},(∀b Y',b.1=8->bK s0 b->Fx s0 Y' []->box Y' b=V ⟨157,2,U,I,[]⟩->K (.m b 0) Y')->eV (qO 157 aWd 16 s0 8 (iv 0)<|iv<|L l) K:=λ{K} A=>(by have z:qO 157 aWd 16 s0 8 (iv 0) (iv<|L l)=V (.m (lA s0 8) 0,put s0 8 ⟨157,2,U,I,[]⟩):=(by simp only[qO];rw[J9 ⟨by omega,by omega,by decide,rfl,by simp[vg,n],by show(L l:Int)*(16+1)<=1099511627776;omega⟩];simp;rfl);rw[z];exact A _ _ rfl (qQ s0 8) (by grind [kH])<|by grind [iy]);simp only[blh,cT,aY,↓uL];refine o λb H E B q u=>?_;simp only[qz 2,cT,aY,↓uL];refine jD (α:=AV) (λa i=>[a,iv i]) 1 (L l) (λk a x=>L x=4096/\gm x 157 2 a (((l.take k).map λv=>aB9.mk v U).map aB9.c)) (s0:= .m b 0) ⟨q.len.trans n, .inr ⟨b,[],by simp,by simpa using u⟩⟩ ?_;rintro k a x F ⟨e,g⟩;have j:∀{y:Int},aX aWd 1 x [(0, .a [iv y,bv U])]=V (.l [aB9.c ⟨y,U⟩] U U,x):=λ{y}=>ua rfl rfl rfl (by decide) rfl (by decide);have f:∀{y:Int},bM aN7 C2 [(0,iv y),(1,bv U)]=V (.a [iv y,bv U]):=λ{y}=>rfl;simp only[qz 25,qy 4,aI,au,gt1,u0,u1,ix,rk,bh,f,j,↓uL];refine⟨λh=>⟨vp h,?_⟩,λh=>?_⟩;have d:=aL h;refine apQ g e a8d (by simp[aB9.c]) (by simp) (by simp;omega) λt M w r C=>?_;simp only[qz 6,au,gt1,u0,u1,↓uL];refine dR (mk:=λ(a:AV) i=>[a,iv i]) (p:=1) (s:=a) (s':=t) (λ_ _=>rfl) d (by omega) ⟨r.len.trans e,?_⟩;rw[iJ d,<-bT d,dg,dg];exact w.p;obtain rfl:k=L l:=(by grind);rw[gV] at g;exact aQ7 (aWs g) rfl
def biD:FT:=mT bjR
def bov{l Lw K}:=f110 biD bjR l Lw K (j:=by simp+contextual only[ij,aNX])
def bjQ(w:am)(c:sA):Ct 128 [.a w.c, .a c.c] (·=bv (Q (L c.cells=L w.aQ.cells)&&(Q (L c.bU=L w.aQ.bU)&&(Q (L c.fixed=L w.ac)&&Q (L c.woke=L w.ac))))):=by refine bp5 rfl rfl λg f b d e=>?_;simp+contextual only[blg,u0,u1,b,d,rk,oe,aj,Int.natCast_inj,BI,↓uL]
def bi6:FT:=lI bjQ
def bou{w c Lw K}:=f200 bi6 bjQ w c Lw K (j:=by simp+contextual only[ij,aNX])
def bjL(w:am)(c:sA)(t:Int)(y:vL w/\CfI w c):Ct 98 [.a w.c, .a c.c,iv t] (·=iv (aH7 w c t)):=by obtain⟨g,q⟩:=y;have A:=g.wo.ev;have B:=q.ol;refine bp0 rfl rfl λz u l d D=>?_;simp+contextual only[bkD,u0,u1,l,d,rk,oe,aj,↓uL];refine⟨λh=>?_,λh=>?_⟩;have:aH7 w c t= -1:=KX λj r=>(by have:=(g.wo.named r).2;simp only[Bool.or_eq_true,aBY] at h;simp only[a6w,bik,aNG];obtain⟨E,G⟩:=this;omega);rw[this];refine yV (L w.ac) (λk _ x=>Fx z x []/\∀j,j<k->a6w w c t j=I) ⟨Fx.refl _ _,by simp⟩ ?_;rintro k _ x H ⟨F,hI⟩;have n:=F.kq d;have f:=F.len.trans u;simp only[qz 37,qy 6,aI,au,u0,u1,ix,rk,bh,↓uL];refine⟨λh=>⟨vp h,?_⟩,λh=>?_⟩;have e:=aL h;refine anu f λv x2 b C m=>?_;have o:=b.kq n;simp+contextual only[qz 8,au,u0,u1,m,o,rk,oe,ar,a6u,aj,↓uL];refine⟨λ_=>by omega,λp=>?_,λp=>?_⟩;grind [aH7,KW,a6w];exact dR (mk:=λ(_:Unit) i=>[iv i]) (s:=()) (s':=()) (λ_ _=>rfl) e (by omega) ⟨F.trans b,by grind [a6w]⟩;grind [aH7,KX]
def bh9:FT:=qe bjL
def boo{w c t Lw K}:=sT bh9 bjL w c t Lw K (j:=by simp+contextual only[ij,aNX])
def bjU(w:am)(c:sA)(t:Int)(g:vL w/\CfI w c):Ct 42 [.a w.c, .a c.c,iv t] (·=iv (aH7 w c t)):=by obtain⟨i,f⟩:=g;have l:=i.wo.ev;have m:=f.ol;refine bqa rfl rfl λq p b d n=>?_;simp only[blD,↓uL];refine C7 (L w.ac) (λk=>∀j,j<k->a6w w c t j=I) (by simp) λk o hI=>?_;simp+contextual only[qz 19,aI,au,u0,u1,b,d,ix,rk,oe,ar,a6u,aj,bh,↓uL];refine⟨λh=>⟨vp h,λ_=>by omega,λe=>?_,λe=>?_⟩,λh=>?_⟩;grind [aH7,KW,a6w];grind [gS,a6w];grind [aH7,KX]
def bdU:FT:=qe bjU
def boz{w c t Lw K}:=sT bdU bjU w c t Lw K (j:=by simp+contextual only[ij,aNX])
def bj0(c:sA)(e:Int)(l:L c.order<1000):Ct 43 [.a c.c,iv e] (·=iv (atC c e)):=by refine bqg rfl λm i b f=>?_;simp only[bml,↓uL];refine C7 (L c.order) (λk=>∀j,j<k->Q (gd c.order j=e)=I) (by simp) λk g hI=>?_;simp+contextual only[qz 19,aI,au,u0,u1,b,ix,rk,oe,aj,bh,↓uL];refine⟨λh=>⟨vp h,λd=>?_,λd=>?_⟩,λh=>?_⟩;grind [atC,KW];grind [gS];grind [atC,KX]
def bdW:FT:=aIc bj0
def boF{c e Lw K}:=f210 bdW bj0 c e Lw K (j:=by simp+contextual only[ij,aNX])
structure aC2(w:am):Prop where
 wo:vL w
 ev:∀e∈w.ac,vo e
 sn:∀k,k<L w.ac->L (cY w k).cells<1000/\L (cY w k).bU<1000
 ct:L w.init.count=L w.aQ.ay/\∀c∈w.init.count,0<=c/\c<=400
 rd:∀k,k<L w.ac->∀x,x∈(gd w.ac k).dI\/x∈(gd w.ac k).ep-> -1000<=x/\x<=1000
def bnz{w:am}(p:hU w)(h:Po w=U):aC2 w:=by obtain⟨a,y⟩:=aQA h;obtain⟨t,D,B,C,d⟩:=tC a;have o:L w.init.count=L w.aQ.ay:=(by simp only[fN,bN,aBY] at d;exact d.2.2.2);refine⟨vd p h,p.2.2.1,λk s=>?_,⟨o,λc v=>by have:=t.cn c v;omega⟩,λk s x g=>?_⟩;have:=(wK a k<|by omega).ce;have:=(wK a k<|by omega).fu;omega;have e:=y k s;simp only[C1,eH,cP] at e;have f:=e.1;have i:=e.2.2.2.2;simp only[aOL,cP,fK] at f;simp only[bip,cP,fK,aBY] at i;obtain⟨⟨z,A⟩,F⟩:=i;have hI:=wK a k (by omega);have q:aF (L (cY w k).count) (gd w.ac k).aq:=(by have u:=dX.1 f.1.1.1.2;have m:=f.1.1.1.1;simp only[fN,bN,aBY] at m;rw[m.2.2.2];exact u);have E:=hI.cn _<|ii q;have b:∀l:List Int,lZ l (gd (cY w k).count (gd w.ac k).aq.toNat)->x∈l-> -1000<=x/\x<=1000:=λl n g=>(by obtain⟨j,r,rfl⟩:=ou g;have:=n j r;rw[uJ,bT r] at this;omega);exact g.elim (b _ z)<|b _ A
def bcF(w:am)(t:Int)(l:List Int):Prop:=L l<4611686018427387904/\(∀x∈l,-1000<=x/\x<=1000)/\aF (L w.init.count) t
theorem aC2.dI{w:am}(h:aC2 w){k:Nat}(a:k<L w.ac):bcF w (gd w.ac k).aq (gd w.ac k).dI/\bcF w (gd w.ac k).aq (gd w.ac k).ep:=by have c:=h.ev _<|dB a;have d:=(h.wo.wo.named a).2;have e:=h.ct.1;refine⟨⟨c.1,λx b=>?_,by simp_all⟩,⟨c.2,λx b=>?_,by simp_all⟩⟩;exact h.rd k a x<|.inl b;exact h.rd k a x<|.inr b
def bjP(s:aW)(hp:L s.ak<1000/\L s.done<1000/\L s.ay<1000/\∀l∈s.ak,L l.bk<1000):Ct 126 [.a s.c] (·= .a s.c):=by refine aDq (bp4 rfl λs2 hl b1 h0=>?_);simp only[bk5,↓uL];refine so hl λv2 s3 F3 N3 b3=>?_;have c1:=F3.kq b1;have aG:=F3.len.trans hl;simp only[qz 4,u0,u1,c1,rk,aj,↓uL];refine aw2 (aa:=s.done.map cb) rfl (by grind) (by simp;omega) (by simp[gY]) (by omega) λw s4 W T P2=>?_;have H:=T.kq c1;have aJ:=T.len.trans aG;simp only[qz 6,u0,u1,H,rk,aj,↓uL];refine aw1 (aa:=s.ay.map aoC.c) rfl (by grind [aoC.c]) (by simp;omega) (by simp[gY,aoC.c]) (by omega) λA s5 X E P3=>?_;have aq:=E.kq H;have an:=E.kq<|T.kq b3;have M:=E.len.trans aJ;have aw:=W.fx E (by simp);have aD:bM aNC O7 [(1,iv s.tx),(2,w),(3,A)]=V (.a [.l [] U U,iv s.tx,w,A]):=(by simp[bM,aly,ms W,ms X,zU]);have p2:∀q∈aA w,q.1=10:=λq d=>(P2 q d).2;have p3:∀q∈aA A,q.1=13:=λq d=>(P3 q d).2;simp only[qz 8,qy 10,aD,aY,↓uL];refine anu M λv3 s6 v N6 b6=>?_;have ar:=v.kq aq;have ao:=v.kq an;have aK:=v.len.trans M;have ax:=aw.fx v (by simp);have az:=X.fx v (by simp);simp only[qz 12,↓uL];refine dT ?_ ?_;rcases W with⟨_,r2⟩|⟨⟨k2,u2⟩,r2,_⟩<;>rcases X with⟨_,r3⟩|⟨⟨k3,u3⟩,r3,_⟩<;>(try(have h2:=p2 (k2,u2) (by grind [aA]);simp only at h2;subst h2))<;>(try(have h3:=p3 (k3,u3) (by grind [aA]);simp only at h3;subst h3))<;>rw[r2,r3]<;>rfl;have k1:∀{x:List AV} {y:AV},aN J (y::x)=V y:=λ{x y}=>(by cases y<;>rfl);simp only[u0,u1,ar,rk,aj,cT,↓uL];refine yV (L s.ak) (λk _ x=>∃n,L x=4096/\box x (2,v2)=V ⟨36,4,U,U,[aNC]⟩/\box x (3,v3)=V ⟨36,4,U,U,[[n,iv s.tx,w,A]]⟩/\gm x 186 2 n ((s.ak.take k).map cg.c)/\bc x 4 1 w (s.done.map cb)/\bc x 85 3 A (s.ay.map aoC.c)/\∀q∈aA n,q.1=31) ⟨_,aK,ao,b6, .inl ⟨by simp,rfl⟩,ax,az,by simp[aA]⟩ ?_;rintro k _ x hk ⟨n,O,m2,m3,F,G2,G3,p1⟩;simp only[qz 25,qy 14,qy 26,aI,au,u0,u1,ix,rk,bh,m3,aj,uS,↓uL];refine⟨λh=>⟨vp h,?_⟩,λh=>?_⟩;have B:=aL h;refine anu O λv5 y f N5 d5=>?_;have av:box y (5,v5)=V ⟨186,2,U,U,[cg.c<|gd s.ak k]⟩:=d5;have P:=f.kq m3;have aM:=f.len.trans O;simp only[qz 16,u0,u1,av,P,k1,rk,aj,↓uL];refine Kr (aa:=(gd s.ak k).bk.map ci) rfl fF (by grind [dB]) (by simp[gY]) (by omega) λe D G o N7=>?_;have ab:bM aPz C2 [(0,iv (gd s.ak k).pw),(1,e)]=V (.a [iv (gd s.ak k).pw,e]):=(by simp[bM,aly,ms G,zU]);have aE:aX bh4 1 D [(0, .a [iv (gd s.ak k).pw,e])]=V (.l [cg.c<|gd s.ak k] U U,kills D<|eB<|.a [iv (gd s.ak k).pw,e]):=aQm (by simp only[ji,mU,aQ5,aOb G.p];rfl) rfl (by decide) (by simp[cg.c,eN,sl]) (by decide);have ac:eB (.a [iv (gd s.ak k).pw,e])=aA e:=(by rcases G with⟨_,rfl⟩|⟨b,rfl,_⟩<;>rfl);simp only[qz 18,qy 20,ab,aE,aY,bQ,ac,↓uL];have t:=aOp (aA e) D;have n7:∀q∈aA e,q.1=28:=λq d=>(N7 q d).2;have no:∀{q:Id},q.1≠28->q∉aA e:=λh Z=>h<|n7 _ Z;have ae:gm (kills D<|aA e) 186 2 n ((s.ak.take k).map cg.c):=((F.fx f<|by simp).fx o<|by simp).fx t (by grind);have aT:=t.keep _ _ (no<|by simp)<|o.kq P;have aP:=t.keep _ _ (no<|by simp)<|o.kq<|f.kq m2;have af:=((G2.fx f<|by simp).fx o<|by simp).fx t (by grind);have ah:=((G3.fx f<|by simp).fx o<|by simp).fx t (by grind);have N:L (kills D<|aA e)=4096:=t.len.trans<|o.len.trans aM;have rl:∀{l:List cg},∀r∈l.map cg.c,L r=2:=(by grind [cg.c]);refine apQ ae N rl (by simp[cg.c]) (by simp) (by simp;omega) λal z K g Pz=>?_;have S:∀{q:Id},q.1≠31->q∉aA n:=λh Z=>h<|p1 _ Z;have R:=g.keep _ _ (S<|by simp) aT;have aQ:=g.keep _ _ (S<|by simp) aP;simp only[qz 22,u0,u1,R,aj,↓uL];refine A0 R K.p.ce (by simp) λz2 j am=>?_;simp only[qz 24,↓uL];refine dT ?_ ?_;have u:J3 n=[]\/J3 n=[31]:=(by rcases F with⟨_,rfl⟩|⟨⟨q1,q2⟩,m,rfl,_⟩;exact .inl rfl;have:=p1 (q1,q2) (by simp[aA]);simp only at this;subst this;exact .inr rfl);rcases G with⟨_,rfl⟩|⟨⟨k7,u7⟩,rfl,_⟩;rcases u with u|u<;>simp[eL,lb,J3,dC,dK,sl];have:=n7 (k7,u7) (by simp[aA]);simp only at this;subst this;rcases u with u|u<;>simp[eL,lb,J3,dC,dK,sl];simp only[au,u0,u1,↓uL];have bv:∀{q:Id},q.1≠3->q∉[((3,v3):Id)]:=(by grind);refine dR (mk:=λ(_:Unit) i=>[iv i]) (s:=()) (s':=()) (λ_ _=>rfl) B (by omega) ⟨al,j.len.trans<|g.len.trans N,j.kq aQ,am,?_,(af.fx g<|by grind).fx j (by grind),(ah.fx g<|by grind).fx j (by grind),λq d=>(Pz q d).2⟩;rw[iJ B,<-bT B,dg];exact K.p.fx j (by grind);obtain rfl:k=L s.ak:=(by grind);rw[gV] at F;refine qr m2 rfl rfl λz g bz=>?_;have C:∀{q:Id},q.1≠2->q∉[((2,v2):Id)]:=(by grind);simp only[bz,qd,List.getElem?_cons_zero,df,uS,aY,u0,u1,aj,ip,↓uL];refine aQ7 ?_ (by simp[iX,aW.c,eN,sl]);simp only[fzT,ji,mU,aBr<|F.fx g λq d=>C<|by rw[p1 q d];decide,aBr (G2.fx g λq d=>C<|by rw[p2 q d];decide).p,aBr (G3.fx g λq d=>C<|by rw[p3 q d];decide).p,aWt];rfl
def bi5:FT:=mT bjP
def bot{s Lw K}:=f110 bi5 bjP s Lw K (j:=by simp+contextual only[ij,aNX])
def aPx(l:List aP)(t:Int)(k:Nat):List Int:=(fj l t k).map λ(j:Nat)=>(j:Int)
theorem bnj{l:List aP}{t:Int}{k:Nat}:aPx l t (k+1)=aPx l t k++if(gd l k).aq=t then[(k:Int)] else[]:=by grind [aPx,Bb]
def bpj{l:List aP}{t:Int}{k:Nat}:L (aPx l t k)=L (fj l t k):=by simp[aPx]
def boP{l:List aP}{t:Int}{k m:Nat}(h:m<L (fj l t k)):gd (aPx l t k) m=(gd (fj l t k) m:Nat):=by grind [bT,aPx]
theorem bmZ{w:am}{c:sA}{t:Int}{l:List Int}(h:∀j,j<L l->aPQ w c t (gd l j)=U):aTF w c t l=U:=by grind [aTF,RU,bT]
theorem bjA{w:am}{c:sA}{t:Int}{l:List Int}{k:Nat}(a:k<L l)(h:aPQ w c t (gd l k)=I):aTF w c t l=I:=by grind [aTF,dB]
def bjT(w:am)(c:sA)(t:Int)(l:List Int)(r:aC2 w/\CfI w c/\bcF w t l):Ct 77 [.a w.c, .a c.c,iv t,sl ci l] (·=bv (aTF w c t l)):=by obtain⟨n,y,v,m,d⟩:=r;have u:=n.wo.wo.ev;have s:=n.ct.2 _<|ii d;refine bp9 rfl rfl λC A g o x=>?_;have z1:¬t<0:=(by have:=d.1;omega);have z2:¬(L w.init.count:Int)<=t:=(by have:=d.2;omega);simp+contextual only[blA,u0,u1,g,rk,aj,dc,z1,z2,aPF,kz,lG,eE,aNU,aOw,I9,↓jN,↓jA,↓uL];refine C7 (L l) (λk=>∀j,j<k->aPQ w c t (gd l j)=U) (by simp) λk z hI=>?_;simp only[qz 37,aI,au,u0,u1,cT,↓uL];refine⟨λh=>?_,λh=>?_⟩;have e:=aL h;have B:=m _<|dB e;have p:dq.wrap (gd l k-gd w.init.count t.toNat)=gd l k-gd w.init.count t.toNat:=(by grind [eM]);refine bs5 (λb=>aPQ w c t (gd l k)=U->b []) ?_ λb nx=>?_;intro q;simp only[qz 57,aI,au,u0,u1,↓uL];grind [gS];simp+contextual only[qz 59,au,u0,u1,g,o,ix,rk,oe,ar,a6u,aj,dc,bh,p,dJ e,d,I9,↓uL];refine⟨λi=>nx (by grind [aPQ]),λi=>?_⟩;have q:aPQ w c t (gd l k)=!(Q (oV w t (gd l k-gd w.init.count t.toNat)<0)||Q (↑(L c.fixed)<=oV w t (gd l k-gd w.init.count t.toNat))||!gd c.fixed (oV w t<|gd l k-gd w.init.count t.toNat).toNat):=(by simp only[aPQ,i,lG,dh,Bool.not_or,<-decide_not,aqC,Int.not_le,Bool.not_not,BI,Bool.decide_and]);refine⟨(by omega),λf=>?_,λf=>?_,λf=>nx<|by simp_all⟩;simp only[eH,cP,aNG] at f;exact⟨by omega,by omega⟩;grind [bjA];grind [bmZ]
def biE:FT:=bix bjT
def boy{w c t l Lw K}:=bmX biE bjT w c t l Lw K (j:=by simp+contextual only[ij,aNX])
def bjK(w:am)(c:sA)(t:Int)(l:List Int)(hp:aC2 w/\CfI w c/\bcF w t l):Ct 134 [.a w.c, .a c.c,iv t,sl ci l] (·=bv (aTF w c t l)):=by obtain⟨T,M,aB,R,u⟩:=hp;have aw:=T.wo.wo.ev;have ax:=M.fx;have av:=T.ct.2 _<|ii u;have S:aF (L w.aQ.ay) t:=(by grind [aC2.ct]);refine bpZ rfl rfl λW hl b1 D H=>?_;have z1:¬t<0:=(by have:=u.1;omega);have z2:¬(L w.init.count:Int)<=t:=(by have:=u.2;omega);have z3:¬(L w.aQ.ay:Int)<=t:=(by have:=S.2;omega);simp+contextual only[bkx,u0,u1,b1,D,rk,oe,ix,cT,aj,dc,z1,z2,z3,aPF,kz,lG,eE,aNU,aOw,I9,↓jN,↓jA,↓uL];refine⟨λh=>?_,λh=>⟨u,?_⟩⟩;have H:l=[]:=(by simp_all);subst H;rfl;refine jD (α:=AV) (λa i=>[a,iv i]) 1 (L w.ac) (λk a x=>Fx W x []/\bc x 3 1 a ((aPx w.ac t k).map ci)/\∀q∈aA a,bK W q/\q.1=57) (s0:= .l [] U U) ⟨Fx.refl _ _, .inl ⟨by simp[aPx,fj],rfl⟩,by simp[aA]⟩ ?_;rintro k a x hk ⟨F,g,pa⟩;have c2:=F.kq D;have B:=F.len.trans hl;simp only[qz 67,aI,au,gt1,u0,u1,cT,↓uL];refine⟨λh=>?_,λh=>?_⟩;have e:=aL h;simp only[di,qz 89,qy 6,au,gt1,u0,u1,ix,rk,bh,↓uL];refine⟨dJ e,?_⟩;refine anu B λv y o N2 b3=>?_;have az:=o.len.trans B;have g2:=g.fx o (by simp);have K:aX bH 1 y [(0,iv k)]=V (.l ([(k:Int)].map ci) U U,y):=iz;simp only[qz 8,qy 10,qy 12,au,gt1,u0,u1,b3,rk,aj,K,↓uL];refine⟨λhe=>?_,λhe=>?_⟩;refine gD g2 rfl (by decide) (by omega) fF fF (by grind [aPx,wF]) λa' z G Z i1 i2=>?_;simp only[qz 87,aI,au,gt1,u0,u1,↓uL];refine dR (mk:=λ(a:AV) i=>[a,iv i]) (p:=1) (s:=a) (s':=a') (λ_ _=>rfl) e (by omega) ⟨((F.trans o).trans Z).mono (by grind [bK.no]),?_,λq hq=>?_⟩;grind [bnj];grind [bK.old];simp only[qz 87,aI,au,gt1,u0,u1,↓uL];refine dR (mk:=λ(a:AV) i=>[a,iv i]) (p:=1) (s:=a) (s':=a) (λ_ _=>rfl) e (by omega) ⟨(F.trans o).mono (by simp),?_,pa⟩;grind [bnj];obtain rfl:k=L w.ac:=(by grind);refine C7 (L l) (λk=>∀j,j<k->aPQ w c t (gd l j)=U) (by simp) λk hk hI=>?_;simp only[qz 115,aI,au,u0,u1,↓uL];refine⟨λh=>?_,λh=>?_⟩;have e:=aL h;have hx:=R _<|dB e;have E:dq.wrap (gd l k-gd w.init.count t.toNat)=gd l k-gd w.init.count t.toNat:=(by grind [eM]);have ho:L (aPx w.ac t<|L w.ac)=L (fj w.ac t<|L w.ac):=bpj;refine bs5 (λd=>aPQ w c t (gd l k)=U->d []) ?_ λd nx=>?_;intro hf;simp only[qz 135,aI,au,u0,u1,↓uL];grind [gS];simp only[qz 137,au,u0,u1,ix,rk,bh,↓uL];refine⟨dJ e,λC=>nx (by grind [aPQ]),λC=>?_⟩;have C:=be7 C;have X:¬gd l k-gd w.init.count t.toNat<0:=(by omega);have m:=boK (w:=w) (c:=c) (t:=t) (n:=gd l k) M.fx (by omega);have A:fS x a=V (iv<|L<|aPx w.ac t<|L w.ac):=(by rw[lnI g,bJ]);generalize hz:gd l k-gd w.init.count t.toNat=z at*;rcases r:Q ((L (aPx w.ac t<|L w.ac):Int)<=z) with _|_;have ar:=be7 r;have O:aF (L<|aPx w.ac t<|L w.ac) z:=⟨by omega,by omega⟩;have hm:z.toNat<L (fj w.ac t<|L w.ac):=(by omega);have N:=boP (l:=w.ac) (t:=t) hm;have al:gd (fj w.ac t<|L w.ac) z.toNat<L w.ac:=(by grind [dB,fj]);have z5:¬(L c.fixed:Int)<=(gd (fj w.ac t<|L w.ac) z.toNat:Nat):=(by omega);rw[bkl (by omega),iw] at m;rcases g with⟨g0,_⟩|⟨b,rfl,f⟩;have:L (aPx w.ac t<|L w.ac)=0:=(by simp_all);omega;have P:=ml f (k:=z.toNat) (by omega);simp only[E,X,aPF,au,u0,u1,A,r,mx f (n:=L<|(aPx w.ac t<|L w.ac).map ci) (by simpa using O),P,N,c2,rk,oe,ix,z5,aj,bh,jA,jN,kz,lG,bkh,wY,fh,kN,↓uL];refine⟨(by grind [dJ]),λf=>?_,λf=>nx<|by simp_all⟩;rw[bjA e<|by rw[m];simpa using f];simp only[E,X,aPF,au,u0,u1,A,r,jA,jN,uO,aNV,aPy,kz,lG,bkh,wY,fh,kN,↓uL];rw[bjA e<|by rw[m,bjz (by have:=aNK r;omega)];rfl];exact⟨λ_=>rfl,λh=>by cases h⟩;grind [bmZ]
def biC:FT:=bix bjK
def bon{w c t l Lw K}:=bmX biC bjK w c t l Lw K (j:=by simp+contextual only[ij,aNX])
def bkd:dO:=(127,biD)::(128,bi6)::(98,bh9)::(42,bdU)::(43,bdW)::(126,bi5)::(77,biE)::(134,biC)::a7N
def bh2:eJ bkd:=it (pg bjR)<|it (nI bjQ)<|it (tE bjL)<|it (tE bjU)<|it (aCb bj0)<|it (pg bjP)<|it (bnA bjT)<|it (bnA bjK)<|aX8
def bfc:=ai @bov<|ai @bou<|ai @boo<|ai @boz<|ai @boF<|ai @bot<|ai @boy<|ai @bon<|@a6u
def bkM a b R:=(.mk _:NR bkd at1 Tryz.f72 [.u] [a] b R).p
def bp2{c0:List AV}{R:o8}(l0:L c0=15)(h:H1 43 15 1 c0 λia b=>bkM ia b R):Ct 72 [.a c0] R:=z1 at1 bh2 Tryz.func72 l0 h
def bnP:=bA 7 []
def bkv b a c d R:=(.mk _:NR bkd bnP Tryz.f129 [.u, .u,c] [b,a] d R).p
def bpY{c0:List AV}{b:List AV}{c:AV}{R:o8}(l0:L c0=15)(l1:L b=9)(h:H2 43 15 3 c0 57 9 4 b λia d e=>bkv ia d c e R):Ct 129 [.a c0, .a b,c] R:=z2 bnP bh2 Tryz.func129 l0 l1 h
def bly b a c d R:=(.mk _:NR bkd bnP Tryz.f34 [.u, .u,c] [b,a] d R).p
def bp8{c0:List AV}{b:List AV}{c:AV}{R:o8}(l0:L c0=15)(l1:L b=9)(h:H2 43 15 3 c0 57 9 4 b λia d e=>bly ia d c e R):Ct 34 [.a c0, .a b,c] R:=z2 bnP bh2 Tryz.func34 l0 l1 h
def bkm b a c d R:=(.mk _:NR bkd at1 Tryz.f136 [.u, .u,c] [b,a] d R).p
def bpU{c0:List AV}{b:List AV}{c:AV}{R:o8}(l0:L c0=15)(l1:L b=9)(h:H2 43 15 3 c0 57 9 4 b λia d e=>bkm ia d c e R):Ct 136 [.a c0, .a b,c] R:=z2 at1 bh2 Tryz.func136 l0 l1 h
def biI a b R:=(.mk _:NF<|zF GGV bkd at1 Tryz.f79 [.u] [a] b<|QDb Tryz.f79 R).p
def bp7{c0:List AV}{s0:ae}{R:be}(b:L s0=4096)(l0:L c0=9)(h:HB1 57 9 1 c0 s0 λd c=>biI d c R):EB 79 [.a c0] s0 R:=aTc<|zB1 at1 (aQ9 bh2) Tryz.func79 b l0 h
def CfI.sz{w:am}{c:sA}(h:CfI w c)(d:vL w):L c.mp.ak<1000/\L c.mp.done<1000/\L c.mp.ay<1000/\(∀l∈c.mp.ak,L l.bk<12)/\∀l∈c.mp.ak,jC l.bk:=by have a:=h.sy;have:=d.th;have:=a.lo;have:=a.dn;have:=a.th;exact⟨by omega,by omega,by omega,λl b=>by have:=AC (a.rd l b).1 (a.rd l b).2;omega,λl b=>(a.rd l b).1⟩
def bm9{n:Bool}:J3 (bv n)=[]:=rfl
def bnb{l:List AV}:J3 (.q l)=[]:=rfl
def bo5{l:List AV}:J3 (.t l)=[]:=rfl
def bna{b:Id}{n:Nat}:J3 (.m b n)=[b.1]:=rfl
def bjD{n:Nat}:J3 (.f n [] [])=[]:=rfl
def bo3{c:sA}:J3 (.a c.c)=[]:=rfl
def bo6{c:am}:J3 (.a c.c)=[]:=rfl
def bo4{c:xd}:J3 (.a c.c)=[]:=rfl
def bil{Y:ae}{e:TypeId}{z n:Nat}{a:AV}{aa:List (List AV)}(g:gm Y e z a aa)(p:∀q∈aA a,q.1=n):∀x∈J3 a,x=n:=λx c=>by
 rcases g with⟨_,rfl⟩|⟨b,m,rfl,_⟩
 ·simp[J3,dC,dK] at c
 ·have:=p b (by simp[aA]);simp[J3,dC,dK] at c;omega
def r15{w:am}:aN (V 15) w.c=V (.a w.c):=rfl
def bjN(w:am)(X:aC2 w/\Po w=U):Ct 72 [.a w.c] (·= .a (aNY w).c):=by obtain⟨H,G⟩:=X;have ag:=H.wo.wo.ev;have W:=bhV G;obtain⟨Z,q2,q3,q4,q5⟩:=W.sz H.wo;have q6:L w.init.cells<1000/\L w.init.bU<1000:=(by grind [tC,aQA,vH.ce,vH.fu]);have T:L w.init.mp.ak<1000/\L w.init.mp.done<1000/\L w.init.mp.ay<1000/\∀l∈w.init.mp.ak,L l.bk<1000:=⟨Z,q2,q3,λl e=>by have:=q4 l e;omega⟩;refine aDq (bp2 rfl λs2 e M h0=>?_);simp only[bkM,↓uL];refine so e λv2 s3 k N3 N=>?_;have B:=k.kq M;have E:=k.len.trans e;simp+contextual only[qz 4,u0,u1,B,rk,ar,bfc,cT,aj,dc,T,q6,NA,I9,awG,↓uL];refine⟨.inl rfl, .inl rfl, .inl rfl,?_⟩;refine AP (by decide) (by decide) (by omega) (by omega) λb s4 f N4 i O=>?_;have C:=i.kq B;have q:=i.kq N;have F:=i.len.trans E;simp only[qz 6,u0,u1,C,rk,cT,aj,↓uL];refine AP (by decide) (by decide) (by omega) (by omega) λd s5 g N5 j P=>?_;have r:=j.kq q;have s:=j.kq O;have ah:=j.len.trans F;have D:∀{x y z:AV} {n:Nat},bM aNL aM7 [(0, .a w.init.mp.c),(1,sl aB9.c<|w.init.cells.map λv=>⟨v,U⟩),(2,sl aB9.c<|w.init.bU.map λv=>⟨v,U⟩),(4, .m b n),(5, .m d n)]=V (.a<|w.init.mp.c++[sl aB9.c<|w.init.cells.map λv=>⟨v,U⟩,sl aB9.c<|w.init.bU.map λv=>⟨v,U⟩, .l [] U U, .m b n, .m d n]):=λ{x y z n}=>rfl;simp only[qz 8,D (x:= .u) (y:= .u) (z:= .u),aY,↓uL];refine qr r rfl rfl λK o R=>?_;have t:=o.keep _ _ (λh=>by have h:=bhO Se<|cE.1 h;simp only at h;omega) s;have A:=o.keep _ _ (λh=>by have h:=bhO Se<|cE.1 h;simp only at h;omega) P;simp only[qz 10,↓uL];refine dT (by obtain⟨x1,x2⟩:=b;obtain⟨y1,y2⟩:=d;simp only at f g;subst f g;rfl) ?_;have r9:∀{n:Nat},aN (V 9) (w.init.mp.c++[sl aB9.c<|w.init.cells.map λv=>⟨v,U⟩,sl aB9.c<|w.init.bU.map λv=>⟨v,U⟩, .l [] U U, .m b n, .m d n])=V (.a<|w.init.mp.c++[sl aB9.c<|w.init.cells.map λv=>⟨v,U⟩,sl aB9.c<|w.init.bU.map λv=>⟨v,U⟩, .l [] U U, .m b n, .m d n]):=λ{n}=>rfl;simp only[u0,u1,R,aj,r9,↓uL];have gF:bc K 4 1 (.m b<|L w.ac) ((er (L w.ac) I).map cb):= .inr ⟨b,by simp,by rw[t,List.map_replicate];rfl⟩;have S:bc K 3 1 (.m d<|L w.ac) ((er (L w.ac) (0:Int)).map ci):= .inr ⟨d,by simp,by rw[A,List.map_replicate];rfl⟩;refine aQ7 ?_ (by simp[iX,sA.c,aW.c,eN,sl]);simp only[fzT,dg,ji,mU,aBr gF.p,aBr S.p,aW.c,aWt];rfl
def bi3:FT:=mT bjN
def bor{w Lw K}:=f110 bi3 bjN w Lw K (j:=by simp+contextual only[ij,aNX])
theorem bmW{w:am}{c:sA}{t:Int}(h:aH7 w c t<0):aID w c t=I:=by simp[aID,h]
theorem bj6{w:am}{c:sA}{t:Int}(h:¬aH7 w c t<0):∃k,aH7 w c t=(k:Nat)/\k<L w.ac/\(gd w.ac k).aq=t:=by grind [bmY,a6w,aH7]
def bjJ(w:am)(c:sA)(t:Int)(s:aC2 w/\CfI w c):Ct 129 [.a w.c, .a c.c,iv t] (·=bv (aID w c t)):=by obtain⟨d,b⟩:=s;obtain⟨z,A,B,C,D⟩:=b.sz d.wo;refine bpY rfl rfl λE r e f u=>?_;simp+contextual only[bkv,qy 6,u0,u1,e,f,r15,rk,oe,ar,arm,bfc,ix,aj,d.wo,b,I9,awG,↓uL];refine⟨λh=>?_,λh=>?_⟩;grind [bmW];obtain⟨k,n,o,y⟩:=bj6<|be7 h;have g:aID w c t=(jm w.aQ c.mp t (gd w.ac k).kind (gd w.ac k).nt&&aTF w c t (gd w.ac k).dI):=(by grind [aID,evN]);rw[n];refine⟨dJ o,?_⟩;refine anu r λv x F N i=>?_;have j:=F.kq e;have m:=F.kq f;have p:lh w.aQ c.mp=U/\L w.aQ.bC<=2/\(∀l∈c.mp.ak,L l.bk<100000):=(by grind [CfI.ft,kB.co,vL.wo,aC2.wo]);have q:bcF w t (gd w.ac k).dI:=(by grind [aC2.dI]);simp+contextual only[qz 8,u0,u1,bh,i,j,m,r15,rk,oe,ar,arm,bfc,ix,aj,d,b,p,q,g,NA,I9,awG,↓uL]
def biB:FT:=qe bjJ
def bom{w c t Lw K}:=sT biB bjJ w c t Lw K (j:=by simp+contextual only[ij,aNX])
def bjS(w:am)(c:sA)(t:Int)(s:aC2 w/\CfI w c):Ct 34 [.a w.c, .a c.c,iv t] (·=bv (aID w c t)):=by obtain⟨b,d⟩:=s;obtain⟨A,B,C,D,E⟩:=d.sz b.wo;have u:=b.wo.wo.co;refine bp8 rfl rfl λG r e f y=>?_;simp+contextual only[bly,qy 6,u0,u1,e,f,r15,rk,oe,ar,arm,bfc,ix,aj,b.wo,d,I9,awG,↓uL];refine⟨λh=>?_,λh=>?_⟩;grind [bmW];obtain⟨k,n,o,z⟩:=bj6<|be7 h;have g:aID w c t=(jm w.aQ c.mp t (gd w.ac k).kind (gd w.ac k).nt&&aTF w c t (gd w.ac k).dI):=(by grind [aID,evN]);rw[n];refine⟨dJ o,?_⟩;refine anu r λv x F N i=>?_;have j:=F.kq e;have m:=F.kq f;have p:L w.aQ.bC<4611686018427387904/\(∀l∈c.mp.ak,L l.bk<4611686018427387904):=(by grind);have q:bcF w t (gd w.ac k).dI:=(by grind [aC2.dI]);simp+contextual only[qz 8,u0,u1,bh,i,j,m,r15,rk,oe,ar,arm,bfc,ix,aj,b,d,p,q,g,NA,I9,awG,↓uL]
def bia:FT:=qe bjS
def bow{w c t Lw K}:=sT bia bjS w c t Lw K (j:=by simp+contextual only[ij,aNX])
def bjF(w:am)(c:sA)(e:Int)(i:vL w/\CfI w c):Ct 136 [.a w.c, .a c.c,iv e] (·=bv (dh e (L w.ac)&&Q (aH7 w c (gd w.ac e.toNat).aq=e))):=by obtain⟨j,h⟩:=i;refine bpU rfl rfl λm l b d k=>?_;simp+contextual only[bkm,u0,u1,b,d,r15,rk,oe,ar,arm,bfc,ix,cT,aj,j,h,NA,I9,awG,dh,↓uL];exact⟨λf g=>⟨aNK f,aNK g⟩,trivial⟩
def biz:FT:=qe bjF
def boi{w c e Lw K}:=sT biz bjF w c e Lw K (j:=by simp+contextual only[ij,aNX])
structure biy(Y:ae)(c:sA)(a1 a2 a3 a4 a5 a6 a7 a8:AV)(Y1:ae):Prop where
 hl:L Y1=L Y
 g1:gm Y1 186 2 a1 (c.mp.ak.map cg.c)
 g2:gm Y1 4 1 a2 (c.mp.done.map cb)
 g3:gm Y1 85 3 a3 (c.mp.ay.map aoC.c)
 g4:bc Y1 157 2 a4 (c.cells.map aB9.c)
 g5:bc Y1 157 2 a5 (c.bU.map aB9.c)
 g6:bc Y1 3 1 a6 (c.order.map ci)
 g7:bc Y1 4 1 a7 (c.fixed.map cb)
 g8:bc Y1 3 1 a8 (c.woke.map ci)
 p1:∀q∈aA a1,q.1=41
 p2:∀q∈aA a2,q.1=10
 p3:∀q∈aA a3,q.1=14
 p4:∀q∈aA a4,q.1=9
 p5:∀q∈aA a5,q.1=13
 p6:∀q∈aA a6,q.1=17
 p7:∀q∈aA a7,q.1=21
 p8:∀q∈aA a8,q.1=25
 kx:Kx [10,14,41] Y Y1
 nw:∀q∈aA a4++aA a5++aA a6++aA a7++aA a8,∀x,box Y q≠V x
def bo8{w:am}{c:sA}{Y:ae}(hl:L Y=4096)(hw:aC2 w)(H:CfI w c)(bd:L c.cells<1000)(bg:L c.bU<1000):∃r Y1,(∃k m n o p s t u,r= .a [k,iv c.mp.tx,m,n,o,p,s,t,u]/\biy Y c k m n o p s t u Y1)/\cZ aS GG 79 [.a c.c] Y r Y1:=by obtain⟨q1,q2,q3,q4,q5⟩:=H.sz hw.wo;have bf:=hw.wo.wo.ev;refine bp7 hl rfl λs2 v1 K2 bj nf b1=>?_;have T:Fx Y s2 []:=K2.fx [];have R:=T.len.trans hl;simp only[biI,↓uL];refine so R λv2 s3 W N3 b3=>?_;have c1:=W.kq b1;have S:=W.len.trans R;simp only[qz 4,qy 6,u0,u1,c1,rk,oe,aj,↓uL];refine bjx S (by grind) λk m n X E g1 g2 g3 p1 p2 p3=>?_;have ax:=E.len.trans S;have M:=E.kq c1;have ah:=E.kq b3;simp only[nS,bQ,qz 8,qy 10,u0,u1,M,rk,oe,aj,↓uL];have ap:∀{α:Type} {f:α->List AV} {l:List α} {e z d by':Nat} {zs:List AV} {Y:ae} {K:be},(∀x,L (f x)=z)->L zs=z->0<z->d<L Y->L l*(by'+1)<=1099511627776->(∀G Y',bc Y' e z G (l.map f)->Fx Y Y' []->(∀q∈aA G,bK Y q/\q.1=d)->K G Y')->eV (cj e zs by' Y d (.l [] U U)<|sl f l) K:=λ{α f l e z d by' zs Y K} hf hz h0 hd hb hK=>(by refine gD (aa:=[]) (e:=e) (z:=z) (new:=l.map f) (.inl ⟨rfl,rfl⟩) hz h0 hd (by simp) (qW hf) (by grind) λG Y' g F i1 i2=>?_;grind [aA]);refine ap (z:=2) (e:=157) (λ_=>rfl) rfl (by decide) (by omega) (by omega) λo s5 g4 B P4=>?_;have N:=B.kq M;have ay:=B.len.trans ax;simp only[nS,bQ,qz 12,u0,u1,N,rk,oe,aj,↓uL];refine ap (z:=2) (e:=157) (λ_=>rfl) rfl (by decide) (by omega) (by omega) λp s6 g5 C Z=>?_;have O:=C.kq N;have az:=C.len.trans ay;simp only[qz 14,nS,bQ,qz 16,u0,u1,O,rk,oe,aj,↓uL];refine ap (z:=1) (e:=3) (λ_=>rfl) rfl (by decide) (by omega) (by have:=H.ol;omega) λs s7 g6 D P6=>?_;have P:=D.kq O;have aB:=D.len.trans az;simp only[qz 18,nS,bQ,qz 20,u0,u1,P,rk,oe,aj,↓uL];refine ap (z:=1) (e:=4) (λ_=>rfl) rfl (by decide) (by omega) (by have:=H.fx;omega) λt s8 g7 y P7=>?_;have an:=y.kq P;have aC:=y.len.trans aB;simp only[qz 22,nS,bQ,qz 24,u0,u1,an,rk,oe,aj,↓uL];refine ap (z:=1) (e:=3) (λ_=>rfl) rfl (by decide) (by omega) (by have:=H.wk;omega) λu s9 g8 A P8=>?_;have bi:=A.len.trans aC;have j:Fx X s9 []:=(B.trans<|C.trans<|D.trans<|y.trans A).mono (by simp);have ak:=j.kq ah;have av:bM aNL aM7 [(0, .a [k,iv c.mp.tx,m,n]),(1,o),(2,p),(3,s),(4,t),(5,u)]=V (.a [k,iv c.mp.tx,m,n,o,p,s,t,u]):=(by simp[bM,aly,ms g4,ms g5,ms g6,ms g7,ms g8,show∀x,eY (.a x)=V x fromλ_=>rfl]);simp only[qz 26,av,aY,↓uL];refine qr ak rfl rfl λbl i ag=>?_;simp only[qz 28,↓uL];refine dT (by simp[eL,lb,Cz,bjD,aTn,bc7,a6H]) ?_;have r9:aN (V 9) [k,iv c.mp.tx,m,n,o,p,s,t,u]=V (.a [k,iv c.mp.tx,m,n,o,p,s,t,u]):=rfl;simp only[u0,u1,ag,r9,aj,fe,aoz,↓uL];have nv:∀{q:Id},q.1≠2->q∉[((2,v2):Id)]:=(by grind);have X3:Kx [10,14,41] Y s3:=((T.trans W).kx<|by simp);have ac:=X3.kx E (by simp);have X9:=ac.fx j (by simp);have bk:∀x,box Y (2,v2)≠V x:=(T.kx (ks:=[])<|by simp).no (by simp) N3.no;refine⟨k,m,n,o,p,s,t,u,rfl,(by grind [Fx.len]),(g1.fx j<|by simp).fx i (by grind),(g2.fx j<|by simp).fx i (by grind),(g3.fx j<|by simp).fx i (by grind),((((g4.fx C<|by simp).fx D<|by simp).fx y<|by simp).fx A<|by simp).fx i (by grind),(((g5.fx D<|by simp).fx y<|by simp).fx A<|by simp).fx i (by grind),((g6.fx y<|by simp).fx A<|by simp).fx i (by grind),(g7.fx A<|by simp).fx i (by grind),(by grind [bc.fx]),p1,p2,p3,λq b=>(P4 q b).2,λq b=>(Z q b).2,λq b=>(P6 q b).2,λq b=>(P7 q b).2,λq b=>(P8 q b).2,(by grind [Kx.fx]),λq b=>?_⟩;have ad:Kx [10,14,41] Y X:=(by omega);have v:∀{q:Id},bK X q->q.1≠10/\q.1≠14/\q.1≠41->∀x,box Y q≠V x:=λh h'=>ad.no (by simp;omega) h.no;simp only[dF] at b;rcases b with(((b|b)|b)|b)|b;grind;exact v ((Z q b).1.old B) (by grind);exact v ((P6 q b).1.old<|B.trans C) (by grind);exact v (by grind [bK.old]) (by grind);exact v (by grind [bK.old]) (by grind)
def boL{P:Program}{κ:rm}{w:World}{Y:ae}{β:Id->Nat}{v:Value}{cs:List AV}(n:Nat)(s:m8 P κ w Y β)(h:ba κ w Y β v<|.a cs):ba κ w (kills Y<|(cs.take n).flatMap iR) β v (.a<|(cs.take n).map (lz Y)++cs.drop n):=by obtain⟨e,s',q⟩:=D1 ((cs.take n).flatMap iR) s;cases h with|a m k o=>refine .a (by grind) k (λi v c p d=>?_);rcases jj i (L<|cs.take n) with l|l;rw[xe (by grind),ve] at d;(cases f:(cs.take n)[i]? with|none=>simp_all|some y=>rw[f] at d;simp only[df,Option.some.injEq] at d;subst d;have g:cs[i]?=V y:=(by grind);exact Qx<|Di s (o i v y p g) λb j=>List.mem_flatMap.2 ⟨y,List.mem_of_getElem? f,j⟩);grind [ba.ext]
def cZ.frzP{P:Program}{G:nn}{fn:FuncId}{xs:List AV}{Y b:ae}{cs:List AV}(n:Nat)(h:cZ P G fn xs Y (.a cs) b):cZ P G fn xs Y (.a<|(cs.take n).map (lz b)++cs.drop n) (kills b<|(cs.take n).flatMap iR):=by refine⟨h.1,λκ w β d s g i=>(h.2 κ w β d s g i).mono ?_⟩;rintro e l ⟨v,f,rfl,j,c,k⟩;exact⟨v,f,rfl,boL n c j,(D1 _ c).2.1,k.trans (D1 _ c).1⟩
structure bki(Y:ae)(c:sA)(a4 a5 a6 a7 a8:AV)(Y1:ae):Prop where
 hl:L Y1=L Y
 g4:bc Y1 157 2 a4 (c.cells.map aB9.c)
 g5:bc Y1 157 2 a5 (c.bU.map aB9.c)
 g6:bc Y1 3 1 a6 (c.order.map ci)
 g7:bc Y1 4 1 a7 (c.fixed.map cb)
 g8:bc Y1 3 1 a8 (c.woke.map ci)
 p4:∀q∈aA a4,q.1=9
 p5:∀q∈aA a5,q.1=13
 p6:∀q∈aA a6,q.1=17
 p7:∀q∈aA a7,q.1=21
 p8:∀q∈aA a8,q.1=25
 kx:Kx [10,14,41] Y Y1
 nw:∀q∈aA a4++aA a5++aA a6++aA a7++aA a8,∀x,box Y q≠V x
def bo9{w:am}{c:sA}{Y:ae}(v:L Y=4096)(y:aC2 w)(x:CfI w c)(s:L c.cells<1000)(t:L c.bU<1000):∃r k,(∃d f g i j,r= .a (c.mp.c++[d,f,g,i,j])/\bki Y c d f g i j k)/\cZ aS GG 79 [.a c.c] Y r k:=by obtain⟨_,k,⟨l,m,n,d,f,g,i,j,rfl,C⟩,h⟩:=bo8 v y x s t;have p:=h.frzP 4;have e:([l,iv c.mp.tx,m,n,d,f,g,i,j].take 4).map (lz k)++[l,iv c.mp.tx,m,n,d,f,g,i,j].drop 4=c.mp.c++[d,f,g,i,j]:=(by show[lz k l,lz k<|iv c.mp.tx,lz k m,lz k n]++_=_;rw[aOb C.g1,aOb C.g2,aOb C.g3,aQ5];rfl);rw[e] at p;have F:=aOp (([l,iv c.mp.tx,m,n,d,f,g,i,j].take 4).flatMap iR) k;have u:∀q∈([l,iv c.mp.tx,m,n,d,f,g,i,j].take 4).flatMap iR,q.1=41\/q.1=10\/q.1=14:=λq b=>(by have:q∈iR l++(iR m++iR n):=(by grind [iR]);simp only[dF] at this;rw[aQX C.g1,aQX C.g2,aQX C.g3] at this;grind [biy.p1,biy.p2,biy.p3]);have o:∀{q:Id},q.1≠41/\q.1≠10/\q.1≠14->q∉([l,iv c.mp.tx,m,n,d,f,g,i,j].take 4).flatMap iR:=(by grind);exact⟨_,_,⟨d,f,g,i,j,rfl,F.len.trans C.hl,C.g4.fx F λq b=>o (by rw[C.p4 q b];decide),C.g5.fx F λq b=>o (by rw[C.p5 q b];decide),C.g6.fx F λq b=>o (by rw[C.p6 q b];decide),C.g7.fx F λq b=>o (by rw[C.p7 q b];decide),C.g8.fx F λq b=>o (by rw[C.p8 q b];decide),C.p4,C.p5,C.p6,C.p7,C.p8,C.kx.fx F λq b=> .inl (by have:=u q b;simp;omega),C.nw⟩,p⟩
def biP:dO:=(72,bi3)::(129,biB)::(34,bia)::(136,biz)::bkd
def bh3:eJ biP:=it (pg bjN)<|it (tE bjJ)<|it (tE bjS)<|it (tE bjF)<|bh2
def bcO:=ai @bor<|ai @bom<|ai @bow<|ai @boi<|@bfc
def bkp b a c d R:=(.mk _:NR biP at1 Tryz.f135 [.u, .u,c] [b,a] d R).p
def bpW{c0:List AV}{b:List AV}{c:AV}{R:o8}(l0:L c0=15)(l1:L b=9)(h:H2 43 15 3 c0 57 9 4 b λia d e=>bkp ia d c e R):Ct 135 [.a c0, .a b,c] R:=z2 at1 bh3 Tryz.func135 l0 l1 h
def bmw b a c d R:=(.mk _:NR biP aur Tryz.f41 [.u, .u,c] [b,a] d R).p
def bqj{c0:List AV}{b:List AV}{c:AV}{R:o8}(l0:L c0=15)(l1:L b=9)(h:H2 43 15 3 c0 57 9 4 b λia d e=>bmw ia d c e R):Ct 41 [.a c0, .a b,c] R:=z2 aur bh3 Tryz.func41 l0 l1 h
def bmO:=bA 25 [(13,([],[4,6,8,9,11,13,14,15])),(15,([],[6,13]))]
def bjk c b a d R:=(.mk _:NR biP bmO Tryz.f73 [.u, .u, .u] [c,b,a] d R).p
def bp3{c0:List AV}{b:List AV}{c:List AV}{R:o8}(l0:L c0=15)(l1:L b=9)(d:L c=2)(h:H3 43 15 3 c0 57 9 4 b 52 2 5 c λf g i e=>bjk f g i e R):Ct 73 [.a c0, .a b, .a c] R:=z3 bmO bh3 Tryz.func73 l0 l1 d h
def bmQ:=bA 15 [(4,([4],[1,2,3])),(10,([5],[1,2,3]))]
def bjm a b R:=(.mk _:NF<|zF GGV biP bmQ Tryz.f33 [.u] [a] b<|I3 Tryz.f33 R).p
def bqb{c0:List AV}{R:o8}(l0:L c0=15)(h:∀b:ae,L b=4096->box b (1,1)=V ⟨43,15,U,U,[c0]⟩->(∀k,k≠1->aZ b k=mO)->bjm (.p (1,1) 0 0) b R):Fn aS GG 33 [.a c0] R:=by refine fnV (uq ready (aQ9 bh3) Tryz.func33 (an:=bmQ) (by kernel_rfl)<|Eq.mpr (show ZF aS GGV biP bmQ Tryz.f33 [.a c0] R=(eV (bxA 43 15 (ly Tryz.f33) 1<|.a c0) λc b=>bjm c b R) by kernel_rfl) ?_);refine mY (N:=4096) rfl l0 (by decide) (by decide) uB (by rw[i8]) λb f d g g0=>?_;exact h b f d (λk e=>by rw[g0 k e];exact i8 _ k)
def bn1:=bA 8 [(2,([],[]))]
def bl1 b a c d R:=(.mk _:NR biP bn1 Tryz.f35 [.u, .u,c] [b,a] d R).p
def bqd{c0:List AV}{b:List AV}{c:AV}{R:o8}(l0:L c0=15)(l1:L b=9)(h:H2 43 15 3 c0 57 9 4 b λia d e=>bl1 ia d c e R):Ct 35 [.a c0, .a b,c] R:=z2 bn1 bh3 Tryz.func35 l0 l1 h
def bjH(w:am)(c:sA)(e:Int)(h:aC2 w/\CfI w c):Ct 135 [.a w.c, .a c.c,iv e] (·=bv (dh e (L w.ac)&&bhP w c e)):=by obtain⟨b,g⟩:=h;refine bpW rfl rfl λk j d f i=>?_;simp+contextual only[bkp,u0,u1,d,f,r15,rk,oe,ar,arm,bcO,ix,cT,aj,b,b.wo,g,NA,I9,awG,bhP,BI,↓uL];grind [dX]
def bh8:FT:=qe bjH
def bok{w c e Lw K}:=sT bh8 bjH w c e Lw K (j:=by simp+contextual only[ij,aNX,Nb])
def bj1(w:am)(c:sA)(e:Int)(i:aC2 w/\CfI w c/\aF (L w.ac) e):Ct 41 [.a w.c, .a c.c,iv e] (·=bv (bhP w c e)):=by obtain⟨b,g,h⟩:=i;refine bqj rfl rfl λl k d f j=>?_;simp+contextual only[bmw,u0,u1,d,f,r15,rk,oe,ar,arm,bcO,ix,cT,aj,b,b.wo,g,h,NA,I9,awG,bhP,↓uL]
def bib:FT:=qe bj1
def boG{w c e Lw K}:=sT bib bj1 w c e Lw K (j:=by simp+contextual only[ij,aNX,Nb])
def aOk(w:am)(c:sA)(t:Int):List Int:=if 0<=aH7 w c t/\(evN w c t).kind=18/\fO c.mp (evN w c t).nt≠[] then fO c.mp (evN w c t).nt else[-1]
def bjX(w:am)(c:sA)(t:Int)(s:aC2 w/\CfI w c):Ct 35 [.a w.c, .a c.c,iv t] (·=sl ci (aOk w c t)):=by obtain⟨o,k⟩:=s;obtain⟨x,y,z,A,B⟩:=k.sz o.wo;have p:L c.mp.ay<1000000:=(by omega);refine aDq (bqd rfl rfl λq v g i u=>?_);simp+contextual only[bl1,u0,u1,g,i,r15,rk,oe,ar,arm,bcO,ix,aj,o.wo,k,I9,awG,↓uL];refine bs5 (λb=>aOk w c t=[-1]->b []) ?_ λb n=>?_;intro h;have j:aX bH 1 q [(0,iv<|-1)]=V (.l ([(-1:Int)].map ci) U U,q):=iz;simp only[qz 15,qy 6,aI,j,bQ,↓uL];rw[h];exact aQ7 bcz rfl;simp+contextual only[qz 17,u0,u1,g,i,r15,rk,oe,ar,arm,bcO,ix,aj,p,I9,↓uL];have m:0<=aH7 w c t->aF (L w.ac) (aH7 w c t):=(by grind [bj6,dJ]);refine⟨(by simp_all),λh=>?_,λh=>n ?_⟩;simp only[bN,aBY] at h;refine⟨m h.1,λr=>⟨λd=>?_,λd=>n ?_⟩⟩;have d:=aNK d;refine aQ7 ?_ rfl;rw[show aOk w c t=fO c.mp (gd w.ac (aH7 w c t).toNat).nt from J9 ⟨h.1,h.2,λe=>by simp only[evN] at e;rw[e] at d;simp at d⟩];rfl;have d:=be7 d;exact J7 λf=>f.2.2 (List.length_eq_zero_iff.1<|by simp only[evN];omega);exact J7 λf=>by simp only[evN] at f;simp[f.1,f.2.1] at h
def bi9:FT:=qe bjX
def boC{w c t Lw K}:=sT bi9 bjX w c t Lw K (j:=by simp+contextual only[ij,aNX,Nb])
def bog{x y:aB9}:wl .eql 2 [(0,0),(1,1)] (.a x.c) (.a y.c)=V (bv<|Q<|x=y):=by obtain⟨a,b⟩:=x;obtain⟨d,e⟩:=y;by_cases f:a=d<;>by_cases g:b=e<;>simp[wl,aB9.c,nW,sS,f,g]
def gsG{Y:ae}{e:TypeId}{z:Nat}{a:AV}{aa:List (List AV)}{i:Int}{cs:List AV}{x:AV}{K:be}(j:bc Y e z a aa)(d:aF (L aa) i)(v:∀r∈aa,L r=z)(n:eY x=V cs)(l:nrm (eR Y x)=x)(hI:eB x=[])(t:L cs=z)(u:cs.all eN=U)(k:∀p Y',Fx Y Y' (aA a)->bc Y' e z a (aa.set i.toNat cs)->K p Y'):rV (cz z Y a<|iv i) λp=>sV (aK z Y p x) (K p):=by have q:=d.1;have s:i.toNat<L aa:=(by have:=d.1;have:=d.2;omega);rcases j with⟨f,_⟩|⟨b,rfl,c⟩;simp_all;have g:cz z Y (.m b<|L aa) (iv i)=V (.p b i.toNat 0):=(by grind [cz]);have h:aa[i.toNat]?=V aa[i.toNat]:=(by simp);have o:aa[i.toNat].length=z:=(by simp_all);have f:aK z Y (.p b i.toNat 0) x=V (wr Y b ⟨e,z,U,I,aa.set i.toNat cs⟩):=(by simp only[aK,aBG,c,eE,bhR,hI,kills,aRl,l,pW,n,h];grind);rw[g];simp only[rV,f];exact k _ _ (wc c) (.inr ⟨b,by simp,lO c⟩)
def aQx:sA:=⟨⟨[],0,[],[]⟩,[],[],[],[],[]⟩
def bn9{Y:ae}{e:TypeId}{z d by':Nat}{zs:List AV}{aa new:List (List AV)}{t o o':Bool}{K:be}(j:L zs=z)(f:0<z)(c:d<L Y)(i:∀r∈aa,L r=z)(h:∀r∈new,L r=z)(k:new≠[])(m:(L aa+L new)*(by'+1)<=1099511627776)(g:∀a Y',bc Y' e z a (aa++new)->Fx Y Y' []->(∀b∈aA a,bK Y b/\b.1=d)->K a Y'):eV (cj e zs by' Y d (.l aa U o)<|.l new t o') K:=by subst j;unfold cj;simp only[gL];rw[J7 (by grind),J9 ⟨f,by simp[vg,c],h⟩,J9 ⟨i,by grind [lx]⟩];exact g _ _ (.inr ⟨lA Y d,by simp,iy c⟩) (kH c) (by simp[aA];exact⟨qQ Y d,rfl⟩)
structure StL(y:ae)(v6 v9 v13 v14 v15:Nat)(w:am)(c:sA)(ch:xd)(e:aP)(n:List AV)(a6:AV)(o:List Int)(wr':aB9):Prop where
 hl:L y=4096
 b1:box y (3,1)=V ⟨43,15,U,U,[w.c]⟩
 b2:box y (4,1)=V ⟨57,9,U,U,[c.c]⟩
 b3:box y (5,1)=V ⟨52,2,U,U,[ch.c]⟩
 b6:box y (6,v6)=V ⟨57,9,U,U,[aNL]⟩
 b9:box y (9,v9)=V ⟨87,7,U,U,[e.c]⟩
 b13:box y (13,v13)=V ⟨57,9,U,U,[n]⟩
 b14:box y (14,v14)=V ⟨157,2,U,U,[(aB9.mk e.value U).c]⟩
 b15:box y (15,v15)=V ⟨157,2,U,U,[wr'.c]⟩
 g6:bc y 3 1 a6 (o.map ci)
 p6:∀q∈aA a6,q.1=77
theorem StL.fx{y z:ae}{j k b d f:Nat}{w:am}{c:sA}{ch:xd}{e:aP}{n:List AV}{i:AV}{o:List Int}{g:aB9}{h:List Id}(S:StL y j k b d f w c ch e n i o g)(F:Fx y z h)(l:∀q∈h,q.1=62\/q.1=65\/q.1=80\/q.1=83):StL z j k b d f w c ch e n i o g:=by have a:∀{q:Id},q.1≠62/\q.1≠65/\q.1≠80/\q.1≠83->q∉h:=(by grind);exact⟨F.len.trans S.hl,F.keep _ _ (a<|by simp) S.b1,F.keep _ _ (a<|by simp) S.b2,F.keep _ _ (a<|by simp) S.b3,F.keep _ _ (a<|by simp) S.b6,F.keep _ _ (a<|by simp) S.b9,F.keep _ _ (a<|by simp) S.b13,F.keep _ _ (a<|by simp) S.b14,F.keep _ _ (a<|by simp) S.b15,S.g6.fx F λq m=>(by grind [StL.p6]),S.p6⟩
def rS{s:aW}{f:Bool×Bool×Bool×Bool×Bool×Bool}{a b c d e:AV}:aN (V 9) (eD s f++[a,b,c,d,e])=V (.a<|eD s f++[a,b,c,d,e])/\aN J ((eD s f++[a,b,c,d,e]).drop 4)=V a/\aN J ((eD s f++[a,b,c,d,e]).drop 5)=V b/\aN J ((eD s f++[a,b,c,d,e]).drop 7)=V d/\aN J ((eD s f++[a,b,c,d,e]).drop 8)=V e:=by exact⟨rfl,by cases a<;>rfl,by cases b<;>rfl,by cases d<;>rfl,by cases e<;>rfl⟩
def bjO(w:am)(c:sA)(ch:xd)(hp:aC2 w/\CfI w c):Ct 73 [.a w.c, .a c.c, .a ch.c] (·= .t [.a (bif aID w c ch.aq then aN2 w c ch else aQx).c,bv<|aID w c ch.aq]):=by obtain⟨M,u⟩:=hp;obtain⟨q1,q2,q3,q4,q5⟩:=u.sz M.wo;have da:=M.wo.wo.ev;refine aDq (bp3 rfl rfl rfl λs6 hl b1 b2 b3 h0=>?_);simp only[bjk,↓uL];refine so hl λv6 s7 F7 N7 b6=>?_;have c1:=F7.kq b1;have c2:=F7.kq b2;have c3:=F7.kq b3;have ba:=F7.len.trans hl;simp+contextual only[qz 8,qy 10,qy 12,u0,u1,c1,c2,c3,r15,rk,oe,gw,ar,arm,bcO,ix,aj,M,M.wo,u,u.ce,u.fu,u.fx,u.wk,aPI,Bool.and_self,fh,lG,NA,I9,awG,↓uL];rcases cf:aID w c ch.aq with _|_;have hz:bM aNL aM7 []=V (.a aNL):=rfl;simp only[kN,aOw,sr,aNU,aNR,hz,aY,↓uL];refine qr b6 rfl rfl λs8 X b8=>?_;have r9:aN (V 9) aNL=V (.a aNL):=rfl;simp only[u0,u1,b8,r9,aj,↓uL];exact aOH (vs':=[.a aQx.c,bv I]) rfl rfl rfl;obtain⟨k,h1,h2,h3,h4,h5,h6⟩:=bjy cf;rw[h1];simp only[fh,eE,aNU,aOw,I9];refine⟨dJ h2,?_⟩;have hE:jm w.aQ c.mp ch.aq (gd w.ac k).kind (gd w.ac k).nt=U/\L w.aQ.bC<=2/\(∀l∈c.mp.ak,L l.bk<12)/\(∀l∈c.mp.ak,jC l.bk)/\L c.mp.ak<1000/\L c.mp.done<1000/\L c.mp.ay<1000:=⟨h5,M.wo.wo.co,q4,q5,q1,q2,q3⟩;have ca:bcF w ch.aq (gd w.ac k).ep:=(by grind [aC2.dI]);have bd:=(M.wo.wo.named h2).1;obtain⟨c9,db⟩:L c.cells<1000/\L c.bU<1000:=(by have g1:=M.sn k h2;have g2:=(M.wo.wo.st k h2).2;have g3:=u.ce;have g4:=u.fu;grind [fN]);refine anu ba λv9 s8 X N8 b9=>?_;rw[bh] at b9;have d1:=X.kq c1;have d2:=X.kq c2;have d3:=X.kq c3;have d6:=X.kq b6;have bb:=X.len.trans ba;simp only[qz 14,qy 16,u0,u1,d1,d2,d3,b9,r15,rk,oe,gw,ar,arm,bcO,aj,↓uL];refine⟨hE,?_⟩;rintro r ⟨f,rfl⟩;refine⟨.inl rfl,?_⟩;simp only[oJ,pG,KM,aY,↓uL];generalize cc:cU w.aQ c.mp ch.aq (gd w.ac k).kind (gd w.ac k).nt ch.lD=av;obtain⟨A,vl⟩:=av;refine anu bb λdp s9 Z N9 bS=>?_;have cm:aN (V 4) (eD A f)=V (.a<|eD A f):=rfl;have c4:Fx s7 s9 []:=(X.trans Z).mono (by simp);have cg:=Z.len.trans bb;have e2:=Z.kq d2;simp+contextual only[qz 18,qy 20,u0,u1,bS,e2,cm,rk,oe,aj,fh,eE,aNU,aOw,I9,↓uL];have a9:∀{l:List aB9},(l.map aB9.c).all (λr=>r.all gY)=U:=λ{l}=>(by simp[aB9.c,gY]);refine bmT (aa:=c.cells.map aB9.c) rfl a8d (by simp;omega) a9 (by omega) λF dj g4 aw P4=>?_;have f2:=aw.kq e2;have bt:=aw.len.trans cg;simp only[qz 22,u0,u1,f2,rk,oe,aj,↓uL];refine bmT (aa:=c.bU.map aB9.c) rfl a8d (by simp;omega) a9 (by omega) λG be g5 af P5=>?_;have g2:=af.kq f2;have bu:=af.len.trans bt;have cj:∀{Y:ae},fo 1 Y (sl ci c.order) J (V<|iv<|L c.order) (V<|iv<|L c.order)=V (.l (c.order.map ci) U I):=λ{Y}=>(by simp[fo,lM,qY,sl];grind [oB]);have cd:aX bH 1 be [(0,iv k)]=V (.l ([(k:Int)].map ci) U U,be):=iz;simp only[qz 24,qy 26,u0,u1,g2,rk,oe,cT,aj,cj,cd,↓uL];refine bn9 rfl (by decide) (by omega) fF fF (by simp) (by have:=u.ol;simp;omega) λH dk g6 O P6=>?_;have i2:=O.kq g2;have bw:=O.len.trans bu;simp only[qz 28,u0,u1,i2,rk,oe,aj,↓uL];refine aw2 (aa:=c.fixed.map cb) rfl (by grind) (by grind [CfI.fx]) (by simp[gY]) (by omega) λB dl g7 D P7=>?_;have j2:=D.kq i2;have bx:=D.len.trans bw;simp only[qz 30,u0,u1,j2,rk,oe,aj,↓uL];refine Kr (aa:=c.woke.map ci) rfl fF (by grind [CfI.wk]) (by simp[gY]) (by omega) λC dm g8 E P8=>?_;have aE:=E.len.trans bx;have a3:bM aNL aM7 [(0, .a<|eD A f),(1,F),(2,G),(3,H),(4,B),(5,C)]=V (.a<|eD A f++[F,G,H,B,C]):=(by simp[bM,aly,ms g4,ms g5,ms g6,ms g7,ms g8,eD,show∀x,eY (.a x)=V x fromλ_=>rfl]);simp only[qz 32,qy 34,a3,aY,↓uL];refine anu aE λaR bf v c5 ag=>?_;have aG:=v.len.trans aE;have y:Fx s9 bf []:=(aw.trans<|af.trans<|O.trans<|D.trans<|E.trans v).mono (by simp);have p4:∀q∈aA F,q.1=62:=λq n=>(P4 q n).2;have p5:∀q∈aA G,q.1=65:=λq n=>(P5 q n).2;have p6:∀q∈aA H,q.1=77:=λq n=>(P6 q n).2;have p7:∀q∈aA B,q.1=80:=λq n=>(P7 q n).2;have p8:∀q∈aA C,q.1=83:=λq n=>(P8 q n).2;have G4:=((((g4.fx af<|by simp).fx O<|by simp).fx D<|by simp).fx E<|by simp).fx v (by simp);have G5:=(((g5.fx O<|by simp).fx D<|by simp).fx E<|by simp).fx v (by simp);have G6:=((g6.fx D<|by simp).fx E<|by simp).fx v (by simp);have G7:=(g7.fx E<|by simp).fx v (by simp);have G8:=g8.fx v (by simp);clear a3;simp only[qz 36,qy 38,↓uL];refine dT ?_ ?_;simp[eL,lb,Cz,bjD,aTn,bc7,a6H,bc6,show J3 (.a<|eD A f)=[] from rfl];exact⟨λx N=>by have:=bil g4.p p4 x N;omega,λx N=>by have:=bil g5.p p5 x N;omega,λx N=>by have:=bil g6.p p6 x N;omega,λx N=>by have:=bil g7.p p7 x N;omega,λx N=>by have:=bil g8.p p8 x N;omega⟩;have o1:=y.kq<|Z.kq d1;have o2:=y.kq e2;have o3:=y.kq<|Z.kq d3;have o6:=y.kq<|Z.kq d6;have o9:=y.kq<|Z.kq b9;have bq:bM aN7 C2 [(0,iv (gd w.ac k).value),(1,bv U)]=V (.a (aB9.mk (gd w.ac k).value U).c):=rfl;have br:bM aN7 C2 []=V (.a (aB9.mk 0 I).c):=rfl;simp only[u0,u1,o9,rk,aj,bq,↓uL];refine anu aG λaT dn a2 c6 ah=>?_;have aJ:=a2.len.trans aG;simp only[qz 40,qy 42,br,aY,↓uL];refine anu aJ λal aM ax c7 aB=>?_;have g:Fx bf aM []:=(a2.trans ax).mono (by simp);have i:StL aM v6 v9 aR aT al w c ch (gd w.ac k) (eD A f++[F,G,H,B,C]) H (c.order++[(k:Int)]) ⟨0,I⟩:=⟨ax.len.trans aJ,g.kq o1,g.kq o2,g.kq o3,g.kq o6,g.kq o9,g.kq ag,ax.kq ah,aB,by grind [bc.fx],p6⟩;have H4:=G4.fx g (by simp);have H5:=G5.fx g (by simp);have H7:=G7.fx g (by simp);have H8:=G8.fx g (by simp);simp only[qz 44,↓uL];refine bjf (λd=>∀z,StL z v6 v9 aR aT al w c ch (gd w.ac k) (eD A f++[F,G,H,B,C]) H (c.order++[(k:Int)]) (aRD w c ch.aq<|gd w.ac k)->bc z 157 2 F (c.cells.map aB9.c)->bc z 157 2 G (c.bU.map aB9.c)->bc z 4 1 B (c.fixed.map cb)->bc z 3 1 C (c.woke.map ci)->d [] z) ?_ λd hJ=>?_;intro z S P R T W;simp only[qz 81,aI,↓uL];refine bjf (λd=>∀(z:ae) (ce fu:List aB9) (fx:List Bool) (wk:List Int) (bg:aB9),StL z v6 v9 aR aT al w c ch (gd w.ac k) (eD A f++[F,G,H,B,C]) H (c.order++[(k:Int)]) bg->bc z 157 2 F (ce.map aB9.c)->bc z 157 2 G (fu.map aB9.c)->bc z 4 1 B (fx.map cb)->bc z 3 1 C (wk.map ci)->(⟨A,ce,fu,c.order++[(k:Int)],fx,wk⟩:sA)=aN2 w c ch->d [] z) ?_ λd o=>?_;intro z ce fu fx wk bg S P R T W he;simp only[qz 93,qy 60,aI,u0,u1,S.b13,rS,aj,↓uL];refine qr S.b6 rfl rfl λz2 Fz bz=>?_;simp only[u0,u1,bz,rS,aj,↓uL];have nv:∀{q:Id},q.1≠6->q∉[((6,v6):Id)]:=(by grind);refine aOH (Q:=(·=AV.t [AV.a (aN2 w c ch).c,bv U])) (vs':=[.a (aN2 w c ch).c,bv U]) ?_ rfl rfl;rw[<-he];simp only[ji,mU,fzT,dg,aBr (P.fx Fz λq n=>nv<|by rw[p4 q n];decide).p,aBr (R.fx Fz λq n=>nv<|by rw[p5 q n];decide).p,aBr (S.g6.fx Fz<|by grind).p,aBr (T.fx Fz λq n=>nv<|by rw[p7 q n];decide).p,aBr (W.fx Fz λq n=>nv<|by rw[p8 q n];decide).p,aWt];simp[sA.c,aW.c,eD,sl,bcz,aWt];generalize st:aN2 w c ch=xC at o⊢;simp only[aN2,h1,bh,cc] at st;have st:=st.symm;have kF:aF (L c.fixed) (k:Int):=dJ (by rw[u.fx];exact h2);have kW:aF (L c.woke) (k:Int):=dJ (by rw[u.wk];exact h2);simp+contextual only[qz 95,qy 48,qy 50,qy 52,qy 54,qy 56,qy 58,u0,u1,S.b9,S.b13,S.b2,S.b14,S.b15,rS,rk,oe,boX,bog,aj,↓uL];have hb:∀{l:List Bool},∀r∈l.map cb,L r=1:=λ{l}=>qW (f:=cb) λ_=>rfl;have cC:(gd w.ac k).kind=3\/(gd w.ac k).kind=4->aF (L c.cells) (gd w.ac k).nt:=λh=>(by rw[u.ce];exact qP bd (by omega)<|by omega);have cF:(gd w.ac k).kind=22\/(gd w.ac k).kind=23->aF (L c.bU) (gd w.ac k).nt:=λh=>(by rw[u.fu];exact oU bd (by omega)<|by omega);have aO:∀{b:Bool},(⟨A,c.cells,c.bU,c.order++[(k:Int)],c.fixed.set k b,c.woke⟩:sA)=xC->rV (cz 1 z B<|iv k) λp=>sV (aK 1 z p<|bv b) λs=>d [] s:=λ{b} he=>(by refine gsG T (by grind) hb rfl rfl rfl rfl rfl λp z' m G'=>?_;have no:∀{q:Id},q.1≠80->q∉aA B:=λh K=>h<|p7 _ K;exact o z' _ _ (c.fixed.set k b) _ _ (S.fx m<|by grind) (P.fx m<|by grind) (R.fx m<|by grind) (by rw[vB];exact G') (W.fx m<|by grind) he);have aP:∀{b:Int},(⟨A,c.cells,c.bU,c.order++[(k:Int)],c.fixed,c.woke.set k b⟩:sA)=xC->rV (cz 1 z C<|iv k) λp=>sV (aK 1 z p<|iv b) λs=>d [] s:=λ{b} he=>(by refine gsG W (by grind) fF rfl rfl rfl rfl rfl λp z' m G'=>?_;have no:∀{q:Id},q.1≠83->q∉aA C:=λh K=>h<|p8 _ K;exact o z' _ _ _ (c.woke.set k b) _ (S.fx m<|by grind) (P.fx m<|by grind) (R.fx m<|by grind) (T.fx m<|by grind) (by rw[vB];exact G') he);refine⟨λh=>⟨(by grind),aO ?_⟩,λn3=>⟨λh=>⟨(by grind),aO ?_⟩,λdi=>⟨λh=>?_,λn4=>⟨λh=>?_,λdh=>⟨λh=>⟨λK=>aP ?_,λK=>?_⟩,λdd=>⟨λh=>aP ?_,λde=>?_⟩⟩⟩⟩⟩⟩;rw[st];simp[aNK h];rw[st];simp[aNK h];refine gsG P (by grind) a8d rfl rfl rfl rfl rfl λp z' m G'=>?_;have no:∀{q:Id},q.1≠62->q∉aA F:=λh K=>h<|p4 _ K;exact o z' (c.cells.set _ _) _ _ _ _ (S.fx m<|by grind) (by rw[vB];exact G') (R.fx m<|by grind) (T.fx m<|by grind) (W.fx m<|by grind) (by rw[st];simp[aNK h]);refine gsG R (by grind) a8d rfl rfl rfl rfl rfl λp z' m G'=>?_;have no:∀{q:Id},q.1≠65->q∉aA G:=λh K=>h<|p5 _ K;exact o z' _ (c.bU.set _ _) _ _ _ (S.fx m<|by grind) (P.fx m<|by grind) (by rw[vB];exact G') (T.fx m<|by grind) (W.fx m<|by grind) (by rw[st];simp[aNK h]);grind;exact o z _ _ _ _ _ S P R T W (by grind);grind;exact o z _ _ _ _ _ S P R T W (by grind);simp+contextual only[qz 83,qy 46,u0,u1,i.b1,i.b2,i.b3,i.b9,i.b14,r15,rk,oe,gw,ar,arm,bcO,aj,M,u,ca,I9,awG,↓uL];refine⟨λh=>?_,λh=>?_⟩;have e:aRD w c ch.aq (gd w.ac k)=⟨(gd w.ac k).value,U⟩:=(by grind [aRD]);refine qr i.b15 rfl rfl λcn j c8=>?_;have nv:∀{q:Id},q.1≠15->q∉[((15,al):Id)]:=(by grind);exact hJ cn ⟨j.len.trans i.hl,j.kq i.b1,j.kq i.b2,j.kq i.b3,j.kq i.b6,j.kq i.b9,j.kq i.b13,j.kq i.b14,by grind,i.g6.fx j (by grind),i.p6⟩ (H4.fx j<|by grind) (H5.fx j<|by grind) (H7.fx j<|by grind) (H8.fx j<|by grind);have e:aRD w c ch.aq (gd w.ac k)=⟨0,I⟩:=(by grind [aRD]);exact hJ aM (by grind) H4 H5 H7 H8
def bi4:FT:=qe bjO
def bos{w c ch Lw K}:=sT bi4 bjO w c ch Lw K (j:=by simp+contextual only[ij,aNX,Nb])
structure StR(x:ae)(v2:Nat)(w:am)(a1 a2 a3:AV)(bF bW:Id):Prop where
 hl:L x=4096
 b1:box x (1,1)=V ⟨43,15,U,U,[w.c]⟩
 b2:box x (2,v2)=V ⟨57,9,U,U,[aNL]⟩
 g1:gm x 186 2 a1 (w.init.mp.ak.map cg.c)
 g2:gm x 4 1 a2 (w.init.mp.done.map cb)
 g3:gm x 85 3 a3 (w.init.mp.ay.map aoC.c)
 gF:bc x 4 1 (.m bF<|L w.ac) ((er (L w.ac) I).map cb)
 gW:bc x 3 1 (.m bW<|L w.ac) ((er (L w.ac) (0:Int)).map ci)
theorem StR.fx{x y:ae}{h:Nat}{w:am}{b c d:AV}{e f:Id}{a:List Id}(S:StR x h w b c d e f)(p1:∀q∈aA b,q.1=41)(l:∀q∈aA c,q.1=10)(m:∀q∈aA d,q.1=14)(i:e.1=13)(k:f.1=17)(F:Fx x y a)(j:∀q∈a,q.1=3\/q.1=37\/q.1=57):StR y h w b c d e f:=by have g:∀{q:Id},q.1≠3/\q.1≠37/\q.1≠57->q∉a:=(by grind);exact⟨F.len.trans S.hl,F.keep _ _ (g<|by simp) S.b1,F.keep _ _ (g<|by simp) S.b2,S.g1.fx F (by grind),S.g2.fx F (by grind),S.g3.fx F (by grind),S.gF.fx F (by grind [aA]),S.gW.fx F<|by grind [aA]⟩
def bjV(w:am)(hp:aC2 w/\Po w=U):Ct 33 [.a w.c] (·= .a (aNY w).c):=by obtain⟨hw,aQ⟩:=hp;have bl:=hw.wo.wo.ev;have hc:=bhV aQ;obtain⟨q1,q2,q3,q4,q5⟩:=hc.sz hw.wo;have q6:L w.init.cells<1000/\L w.init.bU<1000:=(by grind [tC,aQA,vH.ce,vH.fu]);have hS:L w.init.mp.ak<100000/\L w.init.mp.done<100000/\L w.init.mp.ay<100000/\∀l∈w.init.mp.ak,L l.bk<1000000:=(by grind [aNY]);refine aDq (bqb rfl λs2 W b1 h0=>?_);simp only[bjm,↓uL];refine so W λX s3 F3 N3 b3=>?_;have c1:=F3.kq b1;have ab:=F3.len.trans W;simp only[qz 4,u0,u1,c1,rk,aj,dc,↓uL];refine bjx ab hS λr t u s4 X4 g1 g2 g3 p1 P R=>?_;have aM:=X4.len.trans ab;have N:=X4.kq c1;have aE:=X4.kq b3;simp only[qz 6,u0,u1,N,rk,cT,aj,↓uL];refine AP (by decide) (by decide) (by omega) (by omega) λA s5 C N5 F5 b5=>?_;have aJ:=F5.kq N;have aO:=F5.len.trans aM;simp only[qz 8,u0,u1,aJ,rk,cT,aj,↓uL];refine AP (by decide) (by decide) (by omega) (by omega) λB s6 D N6 F6 b6=>?_;have ad:=F6.len.trans aO;have aK:∀{n:Nat},bM aNL aM7 [(0, .a [r,iv w.init.mp.tx,t,u]),(4, .m A n),(5, .m B n)]=V (.a [r,iv w.init.mp.tx,t,u, .l [] U U, .l [] U U, .l [] U U, .m A n, .m B n]):=λ{n}=>rfl;simp only[qz 10,qy 12,aK,aY,↓uL];refine so ad λv3 bm aC N7 aF=>?_;refine qr aF rfl rfl λs7 aD b7=>?_;have T:Fx s6 s7 []:=(aC.trans aD).mono (by grind [bK.no]);have aP:=T.len.trans ad;have o:Fx s4 s7 []:=(F5.trans<|F6.trans T).mono (by simp);have S7:StR s7 X w r t u A B:=⟨aP,o.kq N,o.kq aE,g1.fx o (by simp),g2.fx o (by simp),g3.fx o (by simp), .inr ⟨A,by simp,by rw[T.kq<|F6.kq b5,List.map_replicate];rfl⟩, .inr ⟨B,by simp,by rw[T.kq b6,List.map_replicate];rfl⟩⟩;have af:∀{n:Int} {b:Bool},J3 (.a [iv n,bv b])=[]:=λ{n b}=>rfl;simp only[qz 14,↓uL];refine dT ?_ ?_;have k0:=bnf (x:=w.init.mp.tx) g1 g2 g3 p1 P R;generalize AV.a [r,iv w.init.mp.tx,t,u]=b0 at k0⊢;simp[eL,lb,Cz,aTn,bc7,a6H,bc6,bna,C,D];grind;have aa:∀{x:ae} {y:Int},aX aWd 1 x [(0, .a [iv y,bv U])]=V (.l [aB9.c ⟨y,U⟩] U U,x):=λ{x y}=>ua rfl rfl rfl (by decide) rfl (by decide);have Z:∀{y:Int},bM aN7 C2 [(0,iv y),(1,bv U)]=V (.a [iv y,bv U]):=λ{y}=>rfl;have k1:∀{x:List AV} {y:AV},aN J (y::x)=V y:=λ{x y}=>(by cases y<;>rfl);have k9:∀{a b c d e f g h i:AV},aN (V 9) [a,b,c,d,e,f,g,h,i]=V (.a [a,b,c,d,e,f,g,h,i]):=rfl;refine yV (L w.init.cells) (λk _ x=>∃a,StR x X w r t u A B/\box x (3,v3)=V ⟨57,9,U,U,[[r,iv w.init.mp.tx,t,u,a, .l [] U U, .l [] U U, .m A<|L w.ac, .m B<|L w.ac]]⟩/\gm x 157 2 a (((w.init.cells.take k).map λv=>aB9.mk v U).map aB9.c)/\∀q∈aA a,q.1=37) ⟨_,S7,b7, .inl ⟨by simp,rfl⟩,by simp[aA]⟩ ?_;rintro k _ x hk ⟨a,S,M,K,pa⟩;simp only[qz 25,qy 16,au,aI,u0,u1,S.b1,M,rk,k1,ix,cT,aj,dc,bh,nM,ip,Z,aa,↓uL];refine⟨λh=>?_,λh=>?_⟩;have j:=aL h;refine⟨dJ j,?_⟩;refine apQ K S.hl a8d (by simp[aB9.c]) (by simp) (by simp;omega) λa' s8 O G P8=>?_;have S8:=S.fx p1 P R C D G (by grind);have E:=G.keep _ _ (by grind) M;simp only[qz 18,u0,u1,E,aj,↓uL];refine A0 E O.p.ce (by simp) λs9 H b9=>?_;simp only[qz 20,↓uL];refine dT ?_ ?_;simp[eL,lb,Cz,aTn,bc7,a6H,bc6,bm9,af,au];simp only[au,u0,u1,↓uL];refine dR (mk:=λ(_:Unit) i=>[iv i]) (s:=()) (s':=()) (λ_ _=>rfl) j (by omega) ⟨a',S8.fx p1 P R C D H (by simp),b9,?_,λq hq=>(P8 q hq).2⟩;rw[iJ j,<-bT j,dg,dg];exact O.p.fx H (by grind);obtain rfl:k=L w.init.cells:=(by grind);rw[gV] at K;refine yV (L w.init.bU) (λk _ x=>∃b,StR x X w r t u A B/\box x (3,v3)=V ⟨57,9,U,U,[[r,iv w.init.mp.tx,t,u,a,b, .l [] U U, .m A<|L w.ac, .m B<|L w.ac]]⟩/\gm x 157 2 a ((w.init.cells.map λv=>aB9.mk v U).map aB9.c)/\gm x 157 2 b (((w.init.bU.take k).map λv=>aB9.mk v U).map aB9.c)/\∀q∈aA b,q.1=57) ⟨_,S,M,K, .inl ⟨by simp,rfl⟩,by simp[aA]⟩ ?_;rintro k _ x hk ⟨b,S,M,K,gb,pb⟩;simp only[qz 61,qy 22,qy 28,au,aI,u0,u1,S.b1,M,rk,k1,k9,ix,cT,aj,dc,bh,nM,ip,Z,aa,↓uL];refine⟨λh=>?_,λh=>?_⟩;have j:=aL h;refine⟨dJ j,?_⟩;refine apQ gb S.hl a8d (by simp[aB9.c]) (by simp) (by simp;omega) λb' s8 O G P8=>?_;have S8:=S.fx p1 P R C D G (by grind);have E:=G.keep _ _ (by grind) M;simp only[qz 24,u0,u1,E,aj,↓uL];refine A0 E O.p.ce (by simp) λs9 H b9=>?_;simp only[qz 26,↓uL];refine dT ?_ ?_;simp[eL,lb,Cz,aTn,bc7,a6H,bc6,bm9,af,au];simp only[au,u0,u1,↓uL];refine dR (mk:=λ(_:Unit) i=>[iv i]) (s:=()) (s':=()) (λ_ _=>rfl) j (by omega) ⟨b',S8.fx p1 P R C D H (by simp),b9,(K.fx G<|by grind).fx H (by grind),?_,λq hq=>(P8 q hq).2⟩;rw[iJ j,<-bT j,dg,dg];exact O.p.fx H (by grind);obtain rfl:k=L w.init.bU:=(by grind);rw[gV] at gb;refine qr S.b2 rfl rfl λz F bz=>?_;simp only[u0,u1,bz,k9,aj,ip,↓uL];have nv:∀{q:Id},q.1≠2->q∉[((2,X):Id)]:=(by grind);refine aQ7 ?_ (by simp[iX,sA.c,aW.c,eN,sl]);simp only[fzT,ji,mU,aBr<|S.g1.fx F<|by grind,aBr<|S.g2.fx F<|by grind,aBr<|S.g3.fx F<|by grind,aBr<|K.fx F<|by grind,aBr<|gb.fx F<|by grind,aBr (S.gF.fx F<|by grind [aA]).p,aBr (S.gW.fx F<|by grind [aA]).p,aWt,bcz];rfl
def bi7:FT:=mT bjV
def boA{w Lw K}:=f110 bi7 bjV w Lw K (j:=by simp+contextual only[ij,aNX,Nb])
def bir:dO:=(135,bh8)::(41,bib)::(35,bi9)::(73,bi4)::(33,bi7)::biP
def biq:eJ bir:=it (tE bjH)<|it (tE bj1)<|it (tE bjX)<|it (tE bjO)<|it (pg bjV)<|bh3
def aPk:=ai @bok<|ai @boG<|ai @boC<|ai @bos<|ai @boA<|@bcO
def bmR:=bA 24 [(12,([],[4,6,8,9,12,14])),(14,([],[4,6]))]
def bjn c b a d R:=(.mk _:NR bir bmR Tryz.f36 [.u, .u, .u] [c,b,a] d R).p
def bqc{c0:List AV}{b:List AV}{c:List AV}{R:o8}(l0:L c0=15)(l1:L b=9)(d:L c=2)(h:H3 43 15 3 c0 57 9 4 b 52 2 5 c λf g i e=>bjn f g i e R):Ct 36 [.a c0, .a b, .a c] R:=z3 bmR biq Tryz.func36 l0 l1 d h
def bnS:=bA 14 [(4,([15],[2,4,6,13,14]))]
def bkG a b c R:=(.mk _:NR bir bnS Tryz.f30 [.u,b] [a] c R).p
def bp1{c0:List AV}{b:AV}{R:o8}(l0:L c0=15)(h:H1 43 15 2 c0 λia c=>bkG ia b c R):Ct 30 [.a c0,b] R:=z1 bnS biq Tryz.func30 l0 h
def bmN:=bA 27 [(8,([33],[3,4,31,32]))]
def bhT c a b d R:=(.mk _:NR bir bmN Tryz.f74 [.u, .u, .u] [c,a,b] d R).p
def bpV{c0:List AV}{b:List AV}{c:List AV}{R:o8}(l0:L c0=15)(l1:L b=9)(d:L c=6)(h:H3 43 15 3 c0 57 9 4 b 46 6 5 c λf g i e=>bhT f g i e R):Ct 74 [.a c0, .a b, .a c] R:=z3 bmN biq Tryz.func74 l0 l1 d h
def bmS:=bA 22 [(11,([7],[3,4,5]))]
def bhU c a b d R:=(.mk _:NR bir bmS Tryz.f16 [.u, .u, .u] [c,a,b] d R).p
def bqe{c0:List AV}{b:List AV}{c:List AV}{R:o8}(l0:L c0=15)(l1:L b=9)(d:L c=6)(h:H3 43 15 3 c0 57 9 4 b 46 6 5 c λf g i e=>bhU f g i e R):Ct 16 [.a c0, .a b, .a c] R:=z3 bmS biq Tryz.func16 l0 l1 d h
theorem biK{c:sA}{e:Int}:atC c e=oW c.order e:=by unfold atC;grind [aE6,KW,dB,anS,KX]
theorem bnp{w:am}{a:List xd}:∀{l1:List xd} {c:sA},aNT w c (l1++a)=(aNT w c l1).bind λb=>aNT w b a
 |[],c=>rfl
 |ch::l,c=>by
  simp only[List.cons_append,aNT]
  split
  ·exact bnp
  ·rfl
def bpG{w:am}{l:List xd}{c a:sA}{ch:xd}(h:aNT w c l=V a)(b:aID w a ch.aq=U):aNT w c (l++[ch])=V (aN2 w a ch):=by grind [bnp,aNT]
def bqn{w:am}{g:cJ}{l:List xd}{c:sA}(h:aNT w (aNY w) l=V c):biu w g l=aOM w c g:=by simp only[biu,h]
def bmU{x:aB9}{v:Int}:(x.known&&Q (x.value=v))=Q (x=⟨v,U⟩):=by obtain⟨a,b⟩:=x;grind
structure StQ(y:ae)(v6 v9 v14:Nat)(e:aP)(n:List AV)(a6:AV)(o:List Int)(wr':aB9):Prop where
 hl:L y=4096
 b4:box y (4,1)=V ⟨57,9,U,U,[n]⟩
 b6:box y (6,v6)=V ⟨57,9,U,U,[aNL]⟩
 b9:box y (9,v9)=V ⟨87,7,U,U,[e.c]⟩
 b14:box y (14,v14)=V ⟨157,2,U,U,[wr'.c]⟩
 g6:bc y 3 1 a6 (o.map ci)
 p6:∀q∈aA a6,q.1=64
theorem StQ.fx{y z:ae}{h f b:Nat}{e:aP}{n:List AV}{g:AV}{o:List Int}{c:aB9}{a:List Id}(S:StQ y h f b e n g o c)(F:Fx y z a)(j:∀q∈a,q.1=9\/q.1=13\/q.1=21\/q.1=25)(i:((9,f):Id)∉a):StQ z h f b e n g o c:=by have d:∀{q:Id},q.1≠9/\q.1≠13/\q.1≠21/\q.1≠25->q∉a:=(by grind);exact⟨F.len.trans S.hl,F.keep _ _ (d<|by simp) S.b4,F.keep _ _ (d<|by simp) S.b6,F.keep _ _ i S.b9,F.keep _ _ (d<|by simp) S.b14,S.g6.fx F λq k=>(by grind [StQ.p6]),S.p6⟩
def bjW(w:am)(c:sA)(ch:xd)(hp:aC2 w/\CfI w c):Ct 36 [.a w.c, .a c.c, .a ch.c] (·= .t [.a (bif aID w c ch.aq then aN2 w c ch else aQx).c,bv<|aID w c ch.aq]):=by obtain⟨W,H⟩:=hp;obtain⟨q1,q2,q3,q4,q5⟩:=H.sz W.wo;have c8:=W.wo.wo.ev;refine aDq (bqc rfl rfl rfl λs6 hl b1 b2 b3 h0=>?_);simp only[bjn,↓uL];refine so hl λv6 s7 F7 N7 b6=>?_;have c1:=F7.kq b1;have c2:=F7.kq b2;have c3:=F7.kq b3;have bd:=F7.len.trans hl;simp+contextual only[qz 8,qy 10,qy 12,u0,u1,c1,c2,c3,r15,rk,oe,gw,ar,arm,aPk,ix,aj,W,W.wo,H,NA,I9,awG,↓uL];rcases cj:aID w c ch.aq with _|_;have hz:bM aNL aM7 []=V (.a aNL):=rfl;simp only[kN,aOw,sr,aNU,aNR,hz,aY,↓uL];refine qr b6 rfl rfl λs8 F8 b8=>?_;have r9:aN (V 9) aNL=V (.a aNL):=rfl;simp only[u0,u1,b8,r9,aj,↓uL];exact aOH (vs':=[.a aQx.c,bv I]) rfl rfl rfl;obtain⟨k,h1,h2,h3,h4,h5,h6⟩:=bjy cj;rw[h1];simp only[fh,eE,aNU,aOw,I9];refine⟨dJ h2,?_⟩;have hA:L w.aQ.bC<4611686018427387904/\(∀l∈c.mp.ak,L l.bk<100000)/\L c.mp.ak<100000/\L c.mp.done<100000/\L c.mp.ay<100000:=(by grind [kB.co,vL.wo,aC2.wo]);have ca:bcF w ch.aq (gd w.ac k).ep:=(by grind [aC2.dI]);have bf:=(W.wo.wo.named h2).1;obtain⟨cg,ck⟩:L c.cells<1000/\L c.bU<1000:=(by have g1:=W.sn k h2;have g2:=(W.wo.wo.st k h2).2;have g3:=H.ce;have g4:=H.fu;grind [fN]);refine anu bd λv9 s8 F8 N8 T=>?_;rw[bh] at T;have d1:=F8.kq c1;have d2:=F8.kq c2;have d3:=F8.kq c3;have d6:=F8.kq b6;have be:=F8.len.trans bd;simp only[qz 14,qy 16,u0,u1,d1,d2,d3,T,r15,rk,oe,gw,ar,arm,aPk,aj,W,H,ca,I9,awG,NA,aOw,↓uL];refine jH rfl (bo9 be W H cg ck) ?_;rintro _ s9 ⟨K,M,a6,E,F,rfl,C⟩;refine⟨C.hl,?_⟩;have cl:=C.hl.trans be;have e1:=C.kx.kq d1;have e2:=C.kx.kq d2;have e3:=C.kx.kq d3;have e6:=C.kx.kq d6;have e9:=C.kx.kq T;refine qr e2 rfl rfl λdi O f2=>?_;have de:∀{q:Id},q.1≠4->q∉[((4,1):Id)]:=(by grind);have f1:=O.kq e1;have f3:=O.kq e3;have f6:=O.kq e6;have f9:=O.kq e9;have aP:=O.len.trans cl;have cp:∀{x:List AV},aN (V 4) (c.mp.c++x)=V (.a c.mp.c):=λ{x}=>rfl;simp only[qz 18,qy 20,u0,u1,f1,f2,f3,f9,cp,r15,rk,oe,gw,ar,arm,aPk,aj,↓uL];refine⟨hA,?_⟩;have bn:jm w.aQ c.mp ch.aq (gd w.ac k).kind (gd w.ac k).nt=U:=h5;rintro r ⟨f,rfl⟩;simp only[bn,aNV];refine⟨.inl rfl,?_⟩;simp only[oJ,pG,KM,aY,↓uL];generalize cc:cU w.aQ c.mp ch.aq (gd w.ac k).kind (gd w.ac k).nt ch.lD=av;obtain⟨B,vl⟩:=av;refine anu aP λdl dj aw c5 bI=>?_;have cq:aN (V 4) (eD B f)=V (.a<|eD B f):=rfl;have g2:=aw.kq f2;have bp:=aw.len.trans aP;simp only[qz 22,u0,u1,bI,g2,cq,aj,↓uL];refine cy (y:=4) (cs:=eD B f) g2 rfl rfl (by simp) λal bb i2=>?_;have bg:box al (4,1)=V ⟨57,9,U,U,[eD B f++[K,M,a6,E,F]]⟩:=i2;have aR:=bb.len.trans bp;have r6:aN J ((eD B f++[K,M,a6,E,F]).drop 6)=V a6:=(by cases a6<;>rfl);have aB:Fx s9 al [((4,1):Id)]:=(O.trans<|aw.trans bb).mono (by simp);have G6:=C.g6.fx aB λq N=>(by grind [bki.p6]);have cd:aX bH 1 al [(0,iv k)]=V (.l ([(k:Int)].map ci) U U,al):=iz;simp only[qz 24,qy 26,u0,u1,bg,r6,aj,cd,↓uL];refine apQ G6.p aR fF fF (by simp) (by have:=H.ol;simp;omega) λD dk g6 ax P6=>?_;have cn:∀{q:Id},q.1≠17->q∉aA a6:=λh G=>h<|C.p6 _ G;have j2:=ax.keep _ _ (cn<|by simp) bg;have bq:=ax.len.trans aR;simp only[qz 28,u0,u1,j2,aj,↓uL];refine A0 j2 g6.p.ce (by simp[eD]) λcr az aD=>?_;have bj:box cr (4,1)=V ⟨57,9,U,U,[eD B f++[K,M,D,E,F]]⟩:=aD;have aT:=az.len.trans bq;have cf:bM aN7 C2 []=V (.a (aB9.mk 0 I).c):=rfl;simp only[qz 30,qy 32,cf,aY,↓uL];refine anu aT λan aV ah c6 bK=>?_;have v:Fx s9 aV (((4,1):Id)::aA a6):=(aB.trans<|ax.trans<|az.trans ah).mono (by grind);have dh:∀{q:Id},q.1≠4->q.1≠17->q∉((4,1):Id)::aA a6:=(by grind);have p4:=C.p4;have p5:=C.p5;have p7:=C.p7;have p8:=C.p8;have H4:=C.g4.fx v (by grind);have H5:=C.g5.fx v (by grind);have H7:=C.g7.fx v (by grind);have H8:=C.g8.fx v (by grind);have n9:((9,v9):Id)∉aA K/\((9,v9):Id)∉aA M/\((9,v9):Id)∉aA E/\((9,v9):Id)∉aA F:=(by refine⟨λh=>?_,λh=>?_,λh=>?_,λh=>?_⟩<;>exact C.nw _ (by simp[h]) _ T);have A:StQ aV v6 v9 an (gd w.ac k) (eD B f++[K,M,D,E,F]) D (c.order++[(k:Int)]) ⟨0,I⟩:=⟨ah.len.trans aT,ah.kq bj,v.keep _ _ (by grind) e6,v.keep _ _ (by grind) e9,bK,by rw[dg];exact(g6.fx az<|by grind).fx ah (by simp),λq N=>(P6 q N).2⟩;have bm:bM aN7 C2 [(0,iv (gd w.ac k).value),(1,bv U)]=V (.a (aB9.mk (gd w.ac k).value U).c):=rfl;simp only[qz 34,↓uL];refine bjf (λd=>∀z,StQ z v6 v9 an (gd w.ac k) (eD B f++[K,M,D,E,F]) D (c.order++[(k:Int)]) (aRD w c ch.aq<|gd w.ac k)->bc z 157 2 K (c.cells.map aB9.c)->bc z 157 2 M (c.bU.map aB9.c)->bc z 4 1 E (c.fixed.map cb)->bc z 3 1 F (c.woke.map ci)->d [] z) ?_ λd hJ=>?_;intro z S P R X Z;simp only[qz 75,aI,↓uL];refine bjf (λd=>∀(z:ae) (ce fu:List aB9) (fx:List Bool) (wk:List Int) (bi:aB9),StQ z v6 v9 an (gd w.ac k) (eD B f++[K,M,D,E,F]) D (c.order++[(k:Int)]) bi->bc z 157 2 K (ce.map aB9.c)->bc z 157 2 M (fu.map aB9.c)->bc z 4 1 E (fx.map cb)->bc z 3 1 F (wk.map ci)->(⟨B,ce,fu,c.order++[(k:Int)],fx,wk⟩:sA)=aN2 w c ch->d [] z) ?_ λd o=>?_;intro z ce fu fx wk bi S P R X Z he;simp only[qz 87,qy 50,aI,u0,u1,S.b4,rS,aj,↓uL];refine qr S.b6 rfl rfl λz2 Fz bz=>?_;simp only[u0,u1,bz,rS,aj,↓uL];have nv:∀{q:Id},q.1≠6->q∉[((6,v6):Id)]:=(by grind);refine aOH (Q:=(·=AV.t [AV.a (aN2 w c ch).c,bv U])) (vs':=[.a (aN2 w c ch).c,bv U]) ?_ rfl rfl;rw[<-he];simp only[ji,mU,fzT,dg,aBr (P.fx Fz λq N=>nv<|by rw[p4 q N];decide).p,aBr (R.fx Fz λq N=>nv<|by rw[p5 q N];decide).p,aBr (S.g6.fx Fz<|by grind).p,aBr (X.fx Fz λq N=>nv<|by rw[p7 q N];decide).p,aBr (Z.fx Fz λq N=>nv<|by rw[p8 q N];decide).p,aWt];simp[sA.c,aW.c,eD,sl,bcz,aWt];generalize st:aN2 w c ch=xC at o⊢;simp only[aN2,h1,bh,cc] at st;have st:=st.symm;have kF:aF (L c.fixed) (k:Int):=dJ (by rw[H.fx];exact h2);have kW:aF (L c.woke) (k:Int):=dJ (by rw[H.wk];exact h2);have hb:∀{l:List Bool},∀r∈l.map cb,L r=1:=λ{l}=>qW (f:=cb) λ_=>rfl;have cC:(gd w.ac k).kind=3\/(gd w.ac k).kind=4->aF (L c.cells) (gd w.ac k).nt:=λh=>(by rw[H.ce];exact qP bf (by omega)<|by omega);have cF:(gd w.ac k).kind=22\/(gd w.ac k).kind=23->aF (L c.bU) (gd w.ac k).nt:=λh=>(by rw[H.fu];exact oU bf (by omega)<|by omega);have lv:∀{a:AV} {l:List aB9} {i:Int},bc z 157 2 a (l.map aB9.c)->aF (L l) i->∃b n,a= .m b n/\cz 2 z (.m b n) (iv i)=V (.p b i.toNat 0)/\∃x,box z b=V x/\x.aa[i.toNat]?=V (gd l i.toNat).c:=λ{a l i} g hi=>(by have h0:=hi.1;have h4:i.toNat<L l:=(by have:=hi.1;have:=hi.2;omega);rcases g with⟨e,_⟩|⟨b,rfl,hb⟩;have:=bhO L e;simp at this;subst this;simp at h4;exact⟨b,_,rfl,by simp[cz,h0,hb,h4],_,hb,by simp[bT h4,h4]⟩);simp+contextual only[qz 89,qy 38,qy 40,qy 42,qy 44,qy 46,qy 48,u0,u1,S.b9,S.b4,S.b14,rS,rk,oe,aj,↓uL];have aZ:∀{b:Bool},(⟨B,c.cells,c.bU,c.order++[(k:Int)],c.fixed.set k b,c.woke⟩:sA)=xC->rV (cz 1 z E<|iv k) λp=>sV (aK 1 z p<|bv b) λs=>d [] s:=λ{b} he=>(by refine gsG X (by grind) hb rfl rfl rfl rfl rfl λp z' j G'=>?_;have no:∀{q:Id},q.1≠21->q∉aA E:=λh G=>h<|p7 _ G;exact o z' _ _ (c.fixed.set k b) _ _ (S.fx j (by grind) n9.2.2.1) (P.fx j<|by grind) (R.fx j<|by grind) (by rw[vB];exact G') (Z.fx j<|by grind) he);have a0:∀{b:Int},(⟨B,c.cells,c.bU,c.order++[(k:Int)],c.fixed,c.woke.set k b⟩:sA)=xC->rV (cz 1 z F<|iv k) λp=>sV (aK 1 z p<|iv b) λs=>d [] s:=λ{b} he=>(by refine gsG Z (by grind) fF rfl rfl rfl rfl rfl λp z' j G'=>?_;have no:∀{q:Id},q.1≠25->q∉aA F:=λh G=>h<|p8 _ G;exact o z' _ _ _ (c.woke.set k b) _ (S.fx j (by grind) n9.2.2.2) (P.fx j<|by grind) (R.fx j<|by grind) (X.fx j<|by grind) (by rw[vB];exact G') he);refine⟨λh=>?_,λn3=>⟨λh=>?_,λdd=>⟨λh=>?_,λn4=>⟨λh=>?_,λdb=>⟨λh=>⟨λG=>a0 ?_,λG=>?_⟩,λc9=>⟨λh=>a0 ?_,λda=>?_⟩⟩⟩⟩⟩⟩;obtain⟨b,n,rfl,aM,x,hx,hr⟩:=lv P<|cC<|.inl<|aNK h;simp+contextual only[aM,u0,u1,hx,hr,S.b4,S.b9,rS,rk,oe,aj,bmU,↓uL];refine aZ ?_;rw[st];simp[aNK h];obtain⟨b,n,rfl,aM,x,hx,hr⟩:=lv R<|cF<|.inr<|aNK h;simp+contextual only[aM,u0,u1,hx,hr,S.b4,S.b9,rS,rk,oe,aj,bmU,↓uL];refine aZ ?_;rw[st];simp[aNK h];refine gsG P (by grind) a8d rfl rfl rfl rfl rfl λp z' j G'=>?_;have no:∀{q:Id},q.1≠9->q∉aA K:=λh G=>h<|p4 _ G;exact o z' (c.cells.set _ _) _ _ _ _ (S.fx j (by grind) n9.1) (by rw[vB];exact G') (R.fx j<|by grind) (X.fx j<|by grind) (Z.fx j<|by grind) (by rw[st];simp[aNK h]);refine gsG R (by grind) a8d rfl rfl rfl rfl rfl λp z' j G'=>?_;have no:∀{q:Id},q.1≠13->q∉aA M:=λh G=>h<|p5 _ G;exact o z' _ (c.bU.set _ _) _ _ _ (S.fx j (by grind) n9.2.1) (P.fx j<|by grind) (by rw[vB];exact G') (X.fx j<|by grind) (Z.fx j<|by grind) (by rw[st];simp[aNK h]);grind;exact o z _ _ _ _ _ S P R X Z (by grind);grind;exact o z _ _ _ _ _ S P R X Z (by grind);simp+contextual only[qz 77,qy 36,u0,u1,A.b9,bm,rk,oe,aj,↓uL];refine⟨λh=>?_,λh=>?_⟩;have e:aRD w c ch.aq (gd w.ac k)=⟨(gd w.ac k).value,U⟩:=(by grind [aRD]);refine qr A.b14 rfl rfl λct u c7=>?_;have nv:∀{q:Id},q.1≠14->q∉[((14,an):Id)]:=(by grind);exact hJ ct ⟨u.len.trans A.hl,u.kq A.b4,u.kq A.b6,u.kq A.b9,by grind,A.g6.fx u (by grind),A.p6⟩ (H4.fx u<|by grind) (H5.fx u<|by grind) (H7.fx u<|by grind) (H8.fx u<|by grind);have e:aRD w c ch.aq (gd w.ac k)=⟨0,I⟩:=(by grind [aRD]);exact hJ aV (by grind) H4 H5 H7 H8
def bi8:FT:=qe bjW
def boB{w c ch Lw K}:=sT bi8 bjW w c ch Lw K (j:=by simp+contextual only[ij,aNX,Nb])
def a96(w:am)(l:List xd):sA×Bool:=match aNT w (aNY w) l with|some c=>(c,U)|none=>(aQx,I)
def bpH{w:am}{c:sA}{l:List xd}{k:Nat}(a:k<L l):aNT w c (l.drop k)=if aID w c (gd l k).aq=U then aNT w (aN2 w c<|gd l k) (l.drop<|k+1) else J:=by rw[aWc a];rfl
def bjM(w:am)(l:List xd)(S:aC2 w/\Po w=U/\L l<1000000):Ct 30 [.a w.c,sl xd.c l] (·= .t [.a (a96 w l).1.c,bv (a96 w l).2]):=by obtain⟨A,o,ac⟩:=S;refine aDq (bp1 rfl λs2 v H h0=>?_);simp only[bkG,↓uL];refine so v λv4 s3 b N3 K=>?_;have r:=b.kq H;have j:=b.len.trans v;have B:∀{Y:ae},fS Y (sl xd.c l)=V (iv<|L l):=cT;simp only[qz 4,qy 6,u0,u1,r,r15,rk,ar,aPk,aj,↓uL];refine⟨⟨A,o⟩, .inl rfl,?_⟩;refine anu j λv6 s4 p N4 M=>?_;simp only[qz 8,B,aY,↓uL];refine yV (L l) (λk _ x=>∃c,L x=4096/\box x (2,1)=V ⟨43,15,U,U,[w.c]⟩/\box x (4,v4)=V ⟨57,9,U,U,[aNL]⟩/\box x (6,v6)=V ⟨57,9,U,U,[c.c]⟩/\CfI w c/\aNT w c (l.drop k)=aNT w (aNY w) l) ⟨aNY w,p.len.trans j,p.kq r,p.kq K,M,bhV o,rfl⟩ ?_;rintro k _ x hk ⟨c,m,m1,C,D,u,d⟩;simp only[qz 25,qy 10,qy 22,au,aI,u0,u1,m1,D,rk,oe,gw,boW,aj,bh,↓uL];refine⟨λh=>?_,λh=>?_⟩;have f:=aL h;refine⟨dJ f,?_⟩;refine anu m λv8 y F N O=>?_;have E:=F.kq m1;have W:=F.kq C;have G:=F.kq D;have n:=F.len.trans m;simp only[qz 12,qy 14,u0,u1,E,G,O,r15,rk,oe,gw,ar,arm,Fa,aPk,aj,↓uL];refine⟨⟨A,u⟩, .inl rfl,?_⟩;simp only[oJ,pG,aY,↓uL];rw[bpH f] at d;refine anu n λv9 z g N2 P=>?_;have o1:=g.kq E;have o4:=g.kq W;have X:=g.kq G;rcases e:aID w c (gd l k).aq with _|_;rw[e,J7 (by simp)] at d;have T:bM aNL aM7 []=V (.a aNL):=rfl;simp only[qz 16,qy 18,u0,u1,T,kN,↓iC,↓uL];refine qr o4 rfl rfl λz2 b q=>?_;have Z:aN (V 9) aNL=V (.a aNL):=rfl;simp only[u0,u1,q,Z,aj,↓uL];refine aOH (Q:=(·=AV.t [.a (a96 w l).1.c,bv (a96 w l).2])) (vs':=[.a aQx.c,bv I]) rfl rfl ?_;simp only[a96,<-d];rfl;rw[e,J9 rfl] at d;simp only[qz 16,qy 18,u0,u1,P,e,aNV,rk,oe,aj,fh,↓iB,↓uL];refine qr X rfl rfl λz2 b R=>?_;simp only[qz 20,au,u0,u1,↓uL];exact dR (mk:=λ(_:Unit) i=>[iv i]) (s:=()) (s':=()) (λ_ _=>rfl) f (by omega) ⟨_,b.len.trans<|g.len.trans n,b.kq o1,b.kq o4,R,u.step e,d⟩;obtain rfl:k=L l:=(by grind);rw[Gz] at d;refine qr C rfl rfl λz2 b q=>?_;simp only[u0,u1,q,rk,oe,aj,↓uL];refine aOH (Q:=(·=AV.t [.a (a96 w l).1.c,bv (a96 w l).2])) (vs':=[.a c.c,bv U]) rfl rfl ?_;simp only[a96,<-d];rfl
def bi2:FT:=aIc bjM
def boq{w l Lw K}:=f210 bi2 bjM w l Lw K (j:=by simp+contextual only[ij,aNX,Nb])
def bm4{w:am}{g:cJ}(h:qC w g=U)(a:g.kind≠2):dh g.ea (L w.ac)=U/\dh g.eb (L w.ac)=U/\dh g.ec (L w.ac)=U/\dh g.ed (L w.ac)=U/\(g.kind=1\/g.kind=3\/g.kind=4):=by grind [qC]
theorem bjC{w:am}{g:cJ}(h:qC w g=U)(a:g.kind=2):L g.cW<=4/\∀j,j<L g.cW->dh (gd g.cW j) (L w.ac)=U:=by unfold qC at h;rw[bkl a,aNV] at h;grind [qx,rO]
def bjG(w:am)(c:sA)(g:cJ)(hp:aC2 w/\CfI w c/\qC w g=U):Ct 74 [.a w.c, .a c.c, .a g.c] (·=bv (aOM w c g)):=by obtain⟨p,l,O⟩:=hp;have aA:=l.ol;have ax:=p.wo.wo.ev;refine bpV rfl rfl rfl λs6 hl z b d h0=>?_;have X:L c.mp.ay=L w.aQ.ay:=(iY l.ft).2.2.2;by_cases q:g.kind=2;obtain⟨aw,R⟩:=bjC O q;have f:Q (g.kind=1)=I:=(by simp[q]);have r:Q (g.kind=2)=U:=(by simp[q]);have H:aOM w c g=g.cW.all (aTr w c):=(by grind [aOM]);simp only[bhT,u0,u1,d,rk,cT,aj,f,r,↓iC,↓iB,↓uL];refine yV (L g.cW) (λk _ x=>Fx s6 x []/\∀j,j<k->aTr w c (gd g.cW j)=U) ⟨Fx.refl _ _,by simp⟩ ?_;rintro k _ x S ⟨F,hI⟩;have c1:=F.kq z;have G:=F.kq b;have T:=F.len.trans hl;simp only[qz 49,qy 8,au,aI,u0,u1,c1,G,r15,rk,oe,ix,ar,arm,aPk,aj,bh,↓uL];refine⟨λh=>?_,λh=>?_⟩;have o:=aL h;have C:=R k o;obtain⟨e,N⟩:∃e:Nat,gd g.cW k=e:=⟨(gd g.cW k).toNat,by have:=(dX.1 C).1;omega⟩;have t:e<L w.ac:=(by have:=(dX.1 C).2;omega);have az:aTr w c (gd g.cW k)=I->aOM w c g=I:=(by grind [dB]);have M:aTr w c (gd g.cW k)=(Q (aH7 w c (gd w.ac e).aq=e)&&!(Q ((gd w.ac e).kind=17)&&Q ((gd c.mp.ay (gd w.ac e).aq.toNat).cQ≠4))):=(by grind [aTr,bh]);have u:=(p.wo.wo.named t).2;have zt:¬(L c.mp.ay:Int)<=(gd w.ac e).aq:=(by rw[X];have:=u.2;omega);have P:dh (e:Int) (L w.ac)=U:=N▸C;refine⟨dJ o,⟨p.wo,l⟩,?_⟩;simp only[N,P,iw,bh];refine⟨λh1=>?_,λh1=>⟨dJ t,?_⟩⟩;simp_all;refine anu T λv y E N2 b9=>?_;have d2:=E.kq G;simp+contextual only[qz 10,au,u0,u1,b9,d2,rk,oe,ix,cT,aj,zt,aPF,lG,kN,↓uL];have W:Q (aH7 w c (gd w.ac e).aq=e)=U:=(by grind);rw[W,iw] at M;refine⟨λ_=>⟨u.1,by omega⟩,λh2=>?_,λh2=>?_⟩;simp_all;exact dR (mk:=λ(_:Unit) i=>[iv i]) (s:=()) (s':=()) (λ_ _=>rfl) o (by omega) ⟨F.trans E,by grind⟩;grind [RU,bT];obtain⟨B,K,av,M,S⟩:=bm4 O q;have r:Q (g.kind=2)=I:=(by simp[q]);rcases S with k1|Z|D;have f:Q (g.kind=1)=U:=(by simp[k1]);simp+contextual only[bhT,u0,u1,z,b,d,f,↓iC,r15,rk,oe,ar,arm,aPk,aj,dc,p,l,B,K,NA,I9,awG,aOM,aNV,↓uL];have f:Q (g.kind=1)=I:=(by simp[Z]);have A:Q (g.kind=3)=U:=(by simp[Z]);have H:aOM w c g=(!Q (L c.order=0)&&(Q (gd c.order (L c.order-1)=g.eb)&&(Q (g.ea∈c.order)&&Q (gd c.woke g.ea.toNat=0)))):=(by grind [aOM]);rw[H];have m:aF (L c.woke) g.ea:=(by rw[l.wk];exact dX.1 B);have z1:Q (0<=g.ea)=U:=bkl m.1;have z2:Q (g.ea<(L c.woke:Int))=U:=bkl m.2;simp only[bhT,u0,u1,b,d,rk,oe,cT,aj,f,r,A,↓iC,↓iB,↓uL];rcases hn:L c.order with _|n;simp[u0,u1,jN,uO,uR,↓uL];have ew:dq.wrap (((n+1:Nat):Int)-1)=(n:Int):=(by grind [eM]);have z0:Q (0<((n+1:Nat):Int))=U:=(by simp);simp only[z0,jA,qE,u0,u1,b,d,rk,oe,ix,ew,bh,aj,uO,aNV,Nat.add_sub_cancel,↓uL];rw[show Q (n+1=0)=I by simp];refine⟨λ_=>dJ (by omega),?_⟩;rcases hB:Q (gd c.order n=g.eb) with _|_;simp only[jN,jA,u0,u1,uO,aPy,aNV,kM,qc,↓uL];simp only[jA,qE,u0,u1,b,d,rk,oe,ar,aPk,aj,uO,aNV,↓uL];refine⟨by omega,?_⟩;rcases hA:Q (g.ea∈c.order) with _|_;simp only[jN,jA,u0,u1,uO,aPy,aNV,kM,qc,AL,↓uL];simp only[jA,qE,u0,u1,b,d,rk,oe,ix,cT,aj,uO,aNV,z1,z2,m,AL,I9,↓uL];have f:Q (g.kind=1)=I:=(by simp[D]);have A:Q (g.kind=3)=I:=(by simp[D]);have e4:Q (g.kind=4)=U:=(by simp[D]);simp+contextual only[bhT,u0,u1,z,b,d,f,r,A,e4,↓iC,↓iB,r15,rk,oe,ar,arm,aPk,ix,cT,aj,dc,p,l,B,K,NA,I9,awG,aOM,aNV,aPy,↓uL];refine⟨by omega,λ_=>by omega,λ_ _=>by omega,?_⟩;rw[biK,biK,<-decide_not];simp
def bi1:FT:=qe bjG
def boj{w c g Lw K}:=sT bi1 bjG w c g Lw K (j:=by simp+contextual only[ij,aNX,Nb])
def bjY(w:am)(c:sA)(g:cJ)(hp:aC2 w/\CfI w c/\qC w g=U/\L g.cW<1000):Ct 16 [.a w.c, .a c.c, .a g.c] (·=bv (aOM w c g)):=by obtain⟨p,m,o,aK⟩:=hp;have aO:=m.ol;have aJ:=p.wo.wo.ev;have ad:L c.mp.ay=L w.aQ.ay:=(iY m.ft).2.2.2;have B:kB w/\L g.cW<4611686018427387904:=⟨p.wo.wo,by omega⟩;refine bqe rfl rfl rfl λs6 hl q b d h0=>?_;have C:aN (V 6) g.c=V (.a g.c):=rfl;have arg:dG s6 (.a g.c)= .a g.c:=rfl;by_cases t:g.kind=2;obtain⟨aG,X⟩:=bjC o t;have f:Q (g.kind=1)=I:=(by simp[t]);have A:Q (g.kind=2)=U:=(by simp[t]);have R:aOM w c g=g.cW.all (aTr w c):=(by grind [aOM]);simp only[bhU,u0,u1,q,b,d,r15,C,rk,oe,ar,arm,arg,aPk,aj,o,fh,f,A,↓iC,↓iB,↓uL];refine⟨B,?_⟩;refine yV (L g.cW) (λk _ x=>Fx s6 x []/\∀j,j<k->aTr w c (gd g.cW j)=U) ⟨Fx.refl _ _,by simp⟩ ?_;rintro k _ x Z ⟨F,hI⟩;have N:=F.kq q;have O:=F.kq b;have P:=F.kq d;have aa:=F.len.trans hl;simp only[qz 67,qy 8,au,aI,u0,u1,N,O,P,r15,rk,oe,ix,cT,aj,bh,↓uL];refine⟨λh=>?_,λh=>?_⟩;have l:=aL h;have W:=X k l;obtain⟨e,T⟩:∃e:Nat,gd g.cW k=e:=⟨(gd g.cW k).toNat,by have:=(dX.1 W).1;omega⟩;have E:e<L w.ac:=(by have:=(dX.1 W).2;omega);have aM:aTr w c (gd g.cW k)=I->aOM w c g=I:=(by grind [dB]);have K:aTr w c (gd g.cW k)=(Q (aH7 w c (gd w.ac e).aq=e)&&!(Q ((gd w.ac e).kind=17)&&Q ((gd c.mp.ay (gd w.ac e).aq.toNat).cQ≠4))):=(by grind [aTr,bh]);have G:=(p.wo.wo.named E).2;refine⟨dJ l,?_⟩;simp only[T,bh];refine⟨dJ E,?_⟩;refine so aa λv y0 F0 N2 M=>?_;refine qr M rfl rfl λy F1 b8=>?_;have u:Fx x y []:=(F0.trans F1).mono (by grind [bK.no]);have d1:=u.kq N;have d2:=u.kq O;have d3:=u.kq P;simp only[qz 10,↓uL];refine dT (by simp[eL,lb,Cz,aTn,a6H,bc7,au,bc6,bnb]) ?_;simp+contextual only[au,u0,u1,b8,d1,d2,d3,r15,rk,oe,ix,ar,arm,aPk,cT,T,aj,bh,p.wo,m,I9,awG,↓uL];refine⟨dJ l,?_⟩;rw[show Q (aH7 w c (gd w.ac e).aq≠e)=!Q (aH7 w c (gd w.ac e).aq=e) from decide_not];generalize Q (aH7 w c (gd w.ac e).aq=e)=iq at K⊢;generalize(Q ((gd w.ac e).kind=17)&&Q ((gd c.mp.ay (gd w.ac e).aq.toNat).cQ≠4))=Y at K⊢;refine⟨λ_ _=>⟨G.1,by rw[ad];exact G.2⟩,λh2=>?_,λh2=>?_⟩;grind;exact dR (mk:=λ(_:Unit) i=>[iv i]) (s:=()) (s':=()) (λ_ _=>rfl) l (by omega) ⟨F.trans u,by grind⟩;grind [RU,bT];obtain⟨ha,hb,aE,K,Z⟩:=bm4 o t;have r:=dX.1 ha;have D:=dX.1 hb;have A:Q (g.kind=2)=I:=(by simp[t]);rcases Z with k1|k3|k4;have f:Q (g.kind=1)=U:=(by simp[k1]);simp+contextual only[bhU,o,B,fh,C,arg,u0,u1,q,b,d,f,↓iC,↓iB,r15,rk,oe,ar,arm,aPk,aj,dc,p,m,r,D,NA,I9,awG,aOM,aNV,↓uL];have f:Q (g.kind=1)=I:=(by simp[k3]);have H:Q (g.kind=3)=U:=(by simp[k3]);have R:aOM w c g=(!Q (L c.order=0)&&(Q (gd c.order (L c.order-1)=g.eb)&&(Q (g.ea∈c.order)&&Q (gd c.woke g.ea.toNat=0)))):=(by grind [aOM]);rw[R];have S:aF (L c.woke) g.ea:=(by rw[m.wk];exact r);have ab:Q (0<=atC c g.ea)=Q (g.ea∈c.order):=(by rw[biK];exact aE7);have z:L c.order<1000:=(by omega);simp only[bhU,o,B,fh,r15,C,ar,arm,arg,aPk,u0,u1,q,b,d,rk,oe,cT,aj,f,A,H,↓iC,↓iB,I9,↓uL];rcases hn:L c.order with _|n;simp[u0,u1,jN,uO,uR,↓uL];have ew:dq.wrap (((n+1:Nat):Int)-1)=(n:Int):=(by grind [eM]);have z0:Q (0<((n+1:Nat):Int))=U:=(by simp);simp only[z0,jA,qE,u0,u1,b,d,rk,oe,ix,cT,hn,ew,bh,aj,uO,aNV,Nat.add_sub_cancel,↓uL];rw[show Q (n+1=0)=I by simp];refine⟨λ_=>dJ (by omega),?_⟩;rcases hB:Q (gd c.order n=g.eb) with _|_;simp only[jN,jA,u0,u1,uO,aPy,aNV,kM,qc,↓uL];simp only[jA,qE,u0,u1,b,d,rk,oe,ar,arm,aPk,z,ab,aj,uO,aNV,I9,↓uL];rcases hA:Q (g.ea∈c.order) with _|_;simp only[jN,jA,u0,u1,uO,aPy,aNV,kM,qc,uR,↓uL];simp only[jA,qE,u0,u1,b,d,rk,oe,ix,S,aj,uO,aNV,I9,NA,uR,↓uL];have f:Q (g.kind=1)=I:=(by simp[k4]);have H:Q (g.kind=3)=I:=(by simp[k4]);have z:L c.order<1000:=(by omega);simp+contextual only[bhU,o,B,fh,C,arg,u0,u1,q,b,d,f,A,H,↓iC,↓iB,r15,rk,oe,ar,arm,aPk,ix,cT,aj,dc,p,m,r,D,z,NA,I9,awG,aOM,aNV,aPy,↓uL];grind [biK,aE7]
def bja:FT:=qe bjY
def boD{w c g Lw K}:=sT bja bjY w c g Lw K (j:=by simp+contextual only[ij,aNX,Nb])
def bke:dO:=(36,bi8)::(30,bi2)::(74,bi1)::(16,bja)::bir
def bkc:eJ bke:=it (tE bjW)<|it (aCb bjM)<|it (tE bjG)<|it (tE bjY)<|biq
def bii:=ai @boB<|ai @boq<|ai @boj<|ai @boD<|@aPk
def brk:=bA 13 [(4,([7],[1,2,4,6]))]
def bqu a b c R:=(.mk _:NR bke brk Tryz.f32 [.u,b] [a] c R).p
def br1{c0:List AV}{b:AV}{R:o8}(l0:L c0=15)(h:H1 43 15 2 c0 λia c=>bqu ia b c R):Ct 32 [.a c0,b] R:=z1 brk bkc Tryz.func32 l0 h
def bjg c a b d R:=(.mk _:NR bke at1 Tryz.f31 [.u, .u, .u] [c,a,b] d R).p
def bpT{c0:List AV}{b:List AV}{c:List AV}{R:o8}(l0:L c0=15)(l1:L b=9)(d:L c=6)(h:H3 43 15 3 c0 57 9 4 b 46 6 5 c λf g i e=>bjg f g i e R):Ct 31 [.a c0, .a b, .a c] R:=z3 at1 bkc Tryz.func31 l0 l1 d h
def bn7:=bA 31 [(3,([7],[5,6])),(5,([7,8],[1,2,5,6])),(12,([9,10],[1,2,5,6,7,8])),(15,([9],[1,2,5,6,7,8,10])),(20,([9,12],[1,2,5,6,7,8,10,11])),(27,([13],[1,2,5,6,7,8,9]))]
def bjt a b c R:=(.mk _:NR bke bn7 Tryz.f14 [.u,b] [a] c R).p
def bqk{c0:List AV}{b:AV}{R:o8}(l0:L c0=15)(h:H1 43 15 2 c0 λia c=>bjt ia b c R):Ct 14 [.a c0,b] R:=z1 bn7 bkc Tryz.func14 l0 h
def bo2(w:am)(l:List xd)(H:aC2 w/\Po w=U/\L l<1000000):Ct 32 [.a w.c,sl xd.c l] (·= .t [.a (a96 w l).1.c,bv (a96 w l).2]):=by obtain⟨v,n,R⟩:=H;refine aDq (br1 rfl λs2 u C X=>?_);simp only[bqu,↓uL];refine so u λO s3 b T D=>?_;have q:=b.kq C;have j:=b.len.trans u;have y:∀{Y:ae},fS Y (sl xd.c l)=V (iv<|L l):=cT;simp only[qz 4,qy 6,qy 8,u0,u1,q,r15,rk,ar,bii,aj,↓uL];refine⟨⟨v,n⟩, .inl rfl,?_⟩;refine anu j λP s4 o W E=>?_;refine yV (L l) (λk _ x=>∃c,L x=4096/\box x (2,1)=V ⟨43,15,U,U,[w.c]⟩/\box x (4,O)=V ⟨57,9,U,U,[aNL]⟩/\box x (6,P)=V ⟨57,9,U,U,[c.c]⟩/\CfI w c/\aNT w c (l.drop k)=aNT w (aNY w) l) ⟨aNY w,o.len.trans j,o.kq q,o.kq D,E,bhV n,rfl⟩ ?_;rintro k _ x Z ⟨c,m,m1,A,B,r,d⟩;simp only[qz 25,qy 10,qy 18,au,aI,u0,u1,m1,B,y,r15,rk,oe,gw,boW,ar,arm,Fa,bii,aj,bh,↓uL];refine⟨λh=>?_,λh=>?_⟩;have f:=aL h;refine⟨dJ f,⟨v,r⟩, .inl rfl,?_⟩;simp only[oJ,pG,aY,↓uL];rw[bpH f] at d;refine anu m λv9 z g S F=>?_;have o1:=g.kq m1;have o4:=g.kq A;have M:=g.kq B;simp only[qz 12,qy 14,↓uL];refine dT (by simp[eL,lb,Qh,Cz,aTn,a6H,bc7,bc6,bnb,bo5,bo3,bo6,bo4,bjD,au]) ?_;rcases e:aID w c (gd l k).aq with _|_;rw[e,J7 (by simp)] at d;have K:bM aNL aM7 []=V (.a aNL):=rfl;simp only[u0,u1,K,kN,↓iC,↓uL];refine qr o4 rfl rfl λz2 b p=>?_;have N:aN (V 9) aNL=V (.a aNL):=rfl;simp only[u0,u1,p,N,aj,↓uL];refine aOH (Q:=(·=AV.t [.a (a96 w l).1.c,bv (a96 w l).2])) (vs':=[.a aQx.c,bv I]) rfl rfl ?_;simp only[a96,<-d];rfl;rw[e,J9 rfl] at d;simp only[u0,u1,F,e,aNV,rk,oe,aj,fh,↓iB,↓uL];refine qr M rfl rfl λz2 b G=>?_;simp only[qz 16,au,u0,u1,↓uL];exact dR (mk:=λ(_:Unit) i=>[iv i]) (s:=()) (s':=()) (λ_ _=>rfl) f (by omega) ⟨_,b.len.trans<|g.len.trans m,b.kq o1,b.kq o4,G,r.step e,d⟩;obtain rfl:k=L l:=(by grind);rw[Gz] at d;refine qr A rfl rfl λz2 b p=>?_;simp only[u0,u1,p,rk,oe,aj,↓uL];refine aOH (Q:=(·=AV.t [.a (a96 w l).1.c,bv (a96 w l).2])) (vs':=[.a c.c,bv U]) rfl rfl ?_;simp only[a96,<-d];rfl
def bns:FT:=aIc bo2
def brs{w l Lw K}:=f210 bns bo2 w l Lw K (j:=by simp+contextual only[ij,aNX,Nb])
def bjE(w:am)(c:sA)(g:cJ)(j:aC2 w/\CfI w c/\qC w g=U):Ct 31 [.a w.c, .a c.c, .a g.c] (·=bv (aOM w c g)):=by obtain⟨b,h,i⟩:=j;refine bpT rfl rfl rfl λl n d e f m=>?_;have k:aN (V 6) g.c=V (.a g.c):=rfl;have arg:dG l (.a g.c)= .a g.c:=rfl;simp+contextual only[bjg,u0,u1,d,e,f,r15,k,rk,oe,ar,arm,arg,bii,aj,b,b.wo,h,i,NA,I9,awG,Bool.and_true,↓uL]
def bi0:FT:=qe bjE
def boh{w c g Lw K}:=sT bi0 bjE w c g Lw K (j:=by simp+contextual only[ij,aNX,Nb])
def aQo(w:am)(c:sA)(n:Nat):List xd:=(aH n).flatMap λ(t:Nat)=>if aID w c (t:Int) then(aOk w c (t:Int)).map λu=>⟨(t:Int),u⟩ else[]
theorem bj3{w:am}{c:sA}{n:Nat}:aQo w c (n+1)=aQo w c n++if aID w c (n:Int) then(aOk w c (n:Int)).map λu=>⟨(n:Int),u⟩ else[]:=by grind [aQo,List.range_succ]
theorem bkf{w:am}{c:sA}(h:CfI w c){t:Int}:L (aOk w c t)<=4:=by have a:=h.sy.th;grind [aOk,fO,wU]
theorem bpc{w:am}{c:sA}{n:Nat}{x:xd}(h:x∈aQo w c n):aID w c x.aq=U:=by grind [aQo]
theorem bj4{w:am}{c:sA}(h:CfI w c):∀n:Nat,L (aQo w c n)<=n*4
 |0=>by simp[aQo]
 |n+1=>by
  have a:=bj4 h n
  grind [bkf,bj3]
def bnn{l:List xd}:∀r∈l.map xd.c,L r=2:=by intro r a;obtain⟨y,_,rfl⟩:=dN.1 a;rfl
structure StK(x:ae)(w:am)(v5 v7:Nat)(c:sA):Prop where
 hl:L x=4096
 b1:box x (2,1)=V ⟨43,15,U,U,[w.c]⟩
 b5:box x (5,v5)=V ⟨57,9,U,U,[aNL]⟩
 b7:box x (6,v7)=V ⟨57,9,U,U,[c.c]⟩
theorem StK.fx{x y:ae}{w:am}{d e:Nat}{c:sA}{a:List Id}(S:StK x w d e c)(F:Fx x y a)(f:∀q∈a,q.1=53\/q.1=86):StK y w d e c:=by have b:∀{q:Id},q.1≠53/\q.1≠86->q∉a:=(by grind);exact⟨F.len.trans S.hl,F.keep _ _ (b<|by simp) S.b1,F.keep _ _ (b<|by simp) S.b5,F.keep _ _ (b<|by simp) S.b7⟩
def bj2(w:am)(l:List Int)(hp:aC2 w/\Po w=U/\L l<100000):Ct 14 [.a w.c,sl ci l] (λr=>∃p c,r= .t [sl xd.c p, .a<|sA.c c]/\aNT w (aNY w) p=V c/\L p<=L l):=by obtain⟨H,ac,a8⟩:=hp;have hT:=H.wo.th;generalize hQ:(λ(r:AV)=>∃p c,r= .t [sl xd.c p, .a<|sA.c c]/\aNT w (aNY w) p=V c/\L p<=L l)=Qq;refine aDq (bqk rfl λs2 E A h0=>?_);simp only[bjt,↓uL];refine so E λN s3 F3 N3 b3=>?_;have c1:=F3.kq A;have Z:=F3.len.trans E;have K:∀{Y:ae},fS Y (sl ci l)=V (iv<|L l):=cT;simp only[qz 4,qy 6,qy 8,u0,u1,c1,r15,rk,ar,bii,aj,↓uL];refine⟨⟨H,ac⟩, .inl rfl,?_⟩;refine anu Z λv s4 F4 N4 b4=>?_;have S4:StK s4 w N v (aNY w):=⟨F4.len.trans Z,F4.kq c1,F4.kq b3,b4⟩;refine bqF (λd=>∀(y:ae) (p:List xd) (c:sA) (a:AV),StK y w N v c->gm y 52 2 a (p.map xd.c)->(∀q∈aA a,q.1=86)->aNT w (aNY w) p=V c->L p<=L l->d [a] y) ?_ λd T=>?_;intro y p c a S g M G ad;simp only[qz 21,qy 20,aI,u0,u1,S.b7,rk,oe,aj,↓uL];refine qr S.b5 rfl rfl λz f bz=>?_;simp only[u0,u1,bz,rk,oe,au,aj,↓uL];refine aOH (vs':=[sl xd.c p, .a c.c]) ?_ rfl (by rw[<-hQ];exact⟨p,c,rfl,G,ad⟩);simp only[ji,mU,aWs (g.fx f λq o e=>by simp at e;subst e;have:=M _ o;simp at this)];rfl;simp only[qz 23,↓uL];refine jD (α:=AV) (λa i=>[a,iv i]) 1 (L l) (λk a x=>∃p c,StK x w N v c/\gm x 52 2 a (p.map xd.c)/\(∀q∈aA a,q.1=86)/\CfI w c/\aNT w (aNY w) p=V c/\L p<=k) (s0:= .l [] U U) ⟨[],aNY w,S4, .inl ⟨rfl,rfl⟩,by simp[aA],bhV ac,rfl,by simp⟩ ?_;rintro k a x hk ⟨p,c,S,g,M,C,G,ad⟩;simp only[qz 31,au,gt1,aI,u0,u1,K,↓uL];refine⟨λh=>?_,λh=>T x p c a S g M G<|by omega⟩;have ab:=aL h;generalize hI:yI (λ(a:AV) (i:Int)=>[a,iv i]) (L l) (λk a x=>∃p c,StK x w N v c/\gm x 52 2 a (p.map xd.c)/\(∀q∈aA a,q.1=86)/\CfI w c/\aNT w (aNY w) p=V c/\L p<=k)=Iy;refine jD (α:=AV) (λa i=>[a,iv i]) 1 (L w.aQ.ay) (λt b y=>Fx x y []/\gm y 52 2 b ((aQo w c t).map xd.c)/\∀q∈aA b,bK x q/\q.1=53) (s0:= .l [] U U) ⟨Fx.refl _ _, .inl ⟨by simp[aQo],rfl⟩,by simp[aA]⟩ ?_;rintro t b y ht ⟨F,gb,pb⟩;have Sy:=S.fx F (by simp);simp only[qz 73,au,gt1,aI,u0,u1,Sy.b1,rk,cT,aj,dc,↓uL];refine⟨λO=>?_,λO=>?_⟩;have ah:=aL O;simp only[di,qz 95,au,gt1,u0,u1,Sy.b1,Sy.b7,r15,rk,oe,ar,arm,bii,aj,↓uL];refine⟨⟨H,C⟩,λhe=>?_,λhe=>?_⟩;simp only[qz 93,aI,au,gt1,u0,u1,↓uL];refine dR (mk:=λ(a:AV) i=>[a,iv i]) (p:=1) (s:=b) (s':=b) (λ_ _=>rfl) ah (by omega) ⟨F,?_,pb⟩;grind [bj3];have a6:aID w c (t:Int)=U:=(by grind);refine⟨⟨H,C⟩, .inl rfl,?_⟩;refine jD (α:=AV) (λa i=>[a,iv i]) 1 (L<|aOk w c t) (λj b z=>Fx x z []/\gm z 52 2 b ((aQo w c t++((aOk w c t).take j).map λu=>(⟨t,u⟩:xd)).map xd.c)/\∀q∈aA b,bK x q/\q.1=53) (s0:=b) (by grind) ?_;rintro j b z hj ⟨f,gz,pz⟩;have aJ:=f.len.trans S.hl;have aG:bM nJ C2 [(0,iv t),(1,iv<|gd (aOk w c t) j)]=V (.a [iv t,iv<|gd (aOk w c t) j]):=rfl;have B:aX bh6 1 z [(0, .a [iv t,iv<|gd (aOk w c t) j])]=V (.l [xd.c ⟨t,gd (aOk w c t) j⟩] U U,z):=ua rfl rfl rfl (by decide) rfl (by decide);have aK:∀{Y:ae},fS Y (sl ci<|aOk w c t)=V (iv<|L<|aOk w c t):=cT;simp only[qz 121,qy 10,au,gt1,aI,u0,u1,aK,ix,rk,qM,bh,aG,B,↓uL];refine⟨λP=>?_,λP=>?_⟩;have X:=aL P;refine⟨dJ X,?_⟩;refine apQ gz aJ bnn (by simp[xd.c]) (by simp) (by grind [bj4,bkf]) λb' z2 g2 F2 P2=>?_;simp only[qz 12,au,gt1,u0,u1,↓uL];refine dR (mk:=λ(a:AV) i=>[a,iv i]) (p:=1) (s:=b) (s':=b') (λ_ _=>rfl) X (by grind [bkf]) ⟨(f.trans F2).mono (by grind [bK.no]),?_,by grind [bK.old]⟩;have e:aQo w c t++((aOk w c t).take<|j+1).map (λu=>(⟨t,u⟩:xd))=(aQo w c t++((aOk w c t).take j).map λu=>(⟨t,u⟩:xd))++[⟨t,gd (aOk w c t) j⟩]:=(by grind [iJ,bT]);grind [bc.p];obtain rfl:j=L (aOk w c t):=(by grind);rw[gV] at gz;simp only[qz 93,aI,au,gt1,u0,u1,↓uL];refine dR (mk:=λ(a:AV) i=>[a,iv i]) (p:=1) (s:=b) (s':=b) (λ_ _=>rfl) (Y:=y) ah (by omega) ⟨f,?_,pz⟩;grind [bj3];obtain rfl:t=L w.aQ.ay:=(by grind);have a9:∀{Y:ae},box Y (0,0)=box Y (0,0):=rfl;have ak:fS y b=V (iv<|L<|aQo w c<|L w.aQ.ay):=(by rw[gb.ln,bJ]);have kl:=bj4 C<|L w.aQ.ay;generalize a7:aQo w c (L w.aQ.ay)=ks at*;have ao:∀x∈ks,aID w c x.aq=U:=(by grind [bpc]);have ga:=g.fx F (by simp);simp only[ak,aY,u0,u1,K,ix,↓uL];refine⟨λP=>T y p c a Sy ga M G (by omega),λP=>⟨dJ ab,?_⟩⟩;have h0:0<L ks:=(by grind);have ap:wl .rem 0 [] (iv<|gd l k) (iv<|L ks)=V (iv<|(gd l k).tmod<|L ks):=(by show Option.map AV.s (if dq=dq/\(L ks:Int)≠0 then V (.int .i64<|Int.tmod (gd l k)<|L ks) else J)=_;grind);have t1:∀{a b:Int},0<b-> -b<a.tmod b/\a.tmod b<b:=λ{a b} h=>(by have h1:=Int.tmod_lt_of_pos a h;have O:=Int.tmod_lt_of_pos (-a) h;rw[Int.neg_tmod] at O;omega);have hb:=t1 (a:=gd l k) (show(0:Int)<L ks by omega);simp only[bh,qM,aY,ap,↓uL];generalize(gd l k).tmod (L ks:Int)=m at hb⊢;refine bs5 (λd=>∀m:Int,0<=m->m<L ks->d [iv m]) ?_ λd hJ=>?_;intro m ba bb;simp only[qz 165,aI,↓uL];obtain⟨n,rfl⟩:∃n:Nat,m=n:=⟨m.toNat,by omega⟩;have R:n<L ks:=(by omega);have D:=ao _<|dB R;rcases gb with⟨e,_⟩|⟨q,mm,rfl,o⟩;have:=bhO L e;simp at this;subst this;simp at R;have af:q.1=53:=(pb q<|by simp[aA]).2;have W:∀{z:ae},box z q=V ⟨52,2,U,I,ks.map xd.c++mm⟩->cz 2 z (.m q<|L<|ks.map xd.c) (iv n)=V (.p q n 0):=(by grind [cz]);have aa:∀{z:ae},box z q=V ⟨52,2,U,I,ks.map xd.c++mm⟩->lS (V 2) z (.p q n 0)=V (.a (gd ks n).c):=λ{z} h=>(by simp only[aC5,h,qd];rw[xe (by grind),ve,eC R,bT R];rfl);simp only[au,u0,u1,Sy.b1,Sy.b7,r15,rk,oe,aj,W o,aa o,↓uL];simp only[ar,arm,Fa,bii];refine⟨⟨H,C⟩, .inl (by simp[nA,eB,iR,am.c,sA.c,xd.c,vb.c,mn.c,aW.c,sl]),?_⟩;simp only[oJ,pG,aY,D,aNV,↓uL];refine qr Sy.b7 rfl rfl λz f bz=>?_;have Sz:StK z w N v (aN2 w c<|gd ks n):=⟨f.len.trans Sy.hl,f.kq Sy.b1,f.kq Sy.b5,bz⟩;have nv:∀{q:Id},q.1≠6->q∉[((6,v):Id)]:=(by grind);have ag:=f.keep _ _ (nv<|by rw[af];decide) o;have aC:=ga.fx f λq o=>nv (by rw[M q o];decide);have B:aX bh6 1 z [(0, .a (gd ks n).c)]=V (.l [xd.c<|gd ks n] U U,z):=ua rfl rfl rfl (by decide) rfl (by decide);simp only[qz 14,qy 16,↓uL];refine dT (by simp[eL,lb,Qh,Cz,aTn,a6H,bc7,bc6,bnb,bo5,bo3,bo6,bo4,bjD,bna,au,af]) ?_;simp only[au,W ag,aa ag,aY,B,bQ,u0,u1,↓uL];refine apQ aC Sz.hl bnn (by simp[xd.c]) (by simp) (by simp;omega) λa' z2 g2 F2 P2=>?_;simp only[qz 18,au,gt1,u0,u1,↓uL];rw[<-hI];refine dR (mk:=λ(a:AV) i=>[a,iv i]) (p:=1) (s:=a) (s':=a') (λ_ _=>rfl) ab (by omega) ⟨p++[gd ks n],_,(by grind [StK.fx]),by grind [bc.p],λq o=>(P2 q o).2,C.step D,bpG G D,by simp;omega⟩;simp only[qz 167,au,gt1,ak,u0,u1,↓uL];refine⟨λh=>?_,λh=>?_⟩;have:=aNK h;rw[eM (by omega)<|by omega];exact hJ _ (by omega) (by omega);have:=be7 h;exact hJ _ (by omega) (by omega)
def bjc:FT:=pn bj2
def boH{w l Lw K}:=f211 bjc bj2 w l Lw K (j:=by simp+contextual only[ij,aNX,Nb])
def bnw:dO:=(32,bns)::(31,bi0)::(14,bjc)::bke
def biO:eJ bnw:=it (aCb bo2)<|it (tE bjE)<|it (aN0 bj2)<|bkc
def bfd:=ai @brs<|ai @boh<|ai @boH<|@bii
def bmJ b a c d R:=(.mk _:NR bnw aur Tryz.f12 [.u, .u,c] [b,a] d R).p
def bql{c0:List AV}{b:List AV}{c:AV}{R:o8}(l0:L c0=15)(l1:L b=6)(h:H2 43 15 3 c0 46 6 4 b λia d e=>bmJ ia d c e R):Ct 12 [.a c0, .a b,c] R:=z2 aur biO Tryz.func12 l0 l1 h
def bqz b a c d R:=(.mk _:NR bnw aur Tryz.f13 [.u, .u,c] [b,a] d R).p
def br2{c0:List AV}{b:List AV}{c:AV}{R:o8}(l0:L c0=15)(l1:L b=6)(h:H2 43 15 3 c0 46 6 4 b λia d e=>bqz ia d c e R):Ct 13 [.a c0, .a b,c] R:=z2 aur biO Tryz.func13 l0 l1 h
def bn4:=bA 14 [(1,([2],[1,3])),(8,([2,7],[1,3])),(11,([2],[1,3,7]))]
def bjr a b c d R:=(.mk _:NS bnw bn4 Tryz.f38 [.u,b,c] [a] d R).p
def bqh{c0:List AV}{b c:AV}{s0:ae}{R:be}(d:L s0=4096)(l0:L c0=15)(h:HB1 43 15 3 c0 s0 λf e=>bjr f b c e R):EB 38 [.a c0,b,c] s0 R:=zB1 bn4 biO Tryz.func38 d l0 h
def bjs b c a d R:=(.mk _:NS bnw auF Tryz.f37 [.u,c, .u] [b,a] d R).p
def bqi{c0:List AV}{c:AV}{b:List AV}{s0:ae}{R:be}(d:L s0=4096)(l0:L c0=15)(e:L b=6)(h:HB2 43 15 3 c0 46 6 5 b s0 λg i f=>bjs g c i f R):EB 37 [.a c0,c, .a b] s0 R:=zB2 auF biO Tryz.func37 d l0 e h
def biL(w:am)(g:cJ)(l:List xd)(n:aC2 w/\Po w=U/\qC w g=U/\L l<1000000):Ct 12 [.a w.c, .a g.c,sl xd.c l] (·=bv (biu w g l)):=by obtain⟨o,b,s,f⟩:=n;refine bql rfl rfl λt m e i q=>?_;simp only[bmJ,qy 6,u0,u1,e,r15,rk,ar,bfd,aj,↓uL];refine⟨⟨o,b,f⟩, .inl rfl,?_⟩;simp only[oJ,pG,aY,↓uL];have p:aN (V 6) g.c=V (.a g.c):=rfl;refine anu m λu x F N d=>?_;have j:=F.kq e;have k:=F.kq i;have arg:dG x (.a g.c)= .a g.c:=rfl;unfold a96 at d⊢;unfold biu;rcases h:aNT w (aNY w) l with _|c;simp only[qz 8,u0,u1,jN,uO,aPy,uR,↓uL];rw[h] at d;have r:=(bhV b).run h;simp only[qz 8,u0,u1,jA,j,k,d,r15,p,rk,oe,ar,arm,arg,bfd,aj,uO,aNV,↓uL];simp_all
def bjd:FT:=qe biL
def boI{w g l Lw K}:=sT bjd biL w g l Lw K (j:=by simp+contextual only[ij,Nb])
def bpe(w:am)(g:cJ)(l:List xd)(n:aC2 w/\Po w=U/\qC w g=U/\L g.cW<1000/\L l<1000000):Ct 13 [.a w.c, .a g.c,sl xd.c l] (·=bv (biu w g l)):=by obtain⟨o,b,t,q,f⟩:=n;refine br2 rfl rfl λu m e i r=>?_;simp only[bqz,qy 6,u0,u1,e,r15,rk,ar,bfd,aj,↓uL];refine⟨⟨o,b,f⟩, .inl rfl,?_⟩;simp only[oJ,pG,aY,↓uL];have p:aN (V 6) g.c=V (.a g.c):=rfl;refine anu m λv x F N d=>?_;have j:=F.kq e;have k:=F.kq i;have arg:dG x (.a g.c)= .a g.c:=rfl;unfold a96 at d⊢;unfold biu;rcases h:aNT w (aNY w) l with _|c;simp only[qz 8,u0,u1,jN,uO,aPy,uR,↓uL];rw[h] at d;have s:=(bhV b).run h;simp only[qz 8,u0,u1,jA,j,k,d,r15,p,rk,oe,ar,arm,arg,bfd,aj,uO,aNV,↓uL];simp_all
def bnt:FT:=qe bpe
def brt{w g l Lw K}:=sT bnt bpe w g l Lw K (j:=by simp+contextual only[ij,Nb])
def bnm{l:List cJ}:∀r∈l.map cJ.c,L r=6:=by intro r a;obtain⟨y,_,rfl⟩:=dN.1 a;rfl
def a7h(g:cJ)(f o:Bool):List AV:=[iv g.kind,iv g.ea,iv g.eb,iv g.ec,iv g.ed, .l (g.cW.map ci) f o]
def bpb{w:am}{g:cJ}{f o:Bool}{a:AV}{i:List cJ}{Y:ae}(k:L Y=4096)(z:kB w)(B:L g.cW<1000)(x:gm Y 46 6 a<|i.map cJ.c)(F:L i<1000000):∃r e,(gm e 46 6 r ((i++if qC w g then[g] else[]).map cJ.c)/\Fx Y e (aA a)/\∀q∈aA r,q∈aA a\/bK Y q/\q.1=13)/\cZ aS GG 37 [.a w.c,a, .a<|a7h g f o] Y r e:=by refine bqi k rfl rfl λb N O s G H K t u=>?_;have d:Fx Y b []:=s.fx [];have m:=d.len.trans k;have A:aN (V 6) (a7h g f o)=V (.a<|a7h g f o):=rfl;have arg:dG b (.a<|a7h g f o)= .a g.c:=rfl;have v:=x.fx d (by simp);have y:kB w/\L g.cW<4611686018427387904:=⟨z,by omega⟩;have j:aX biV 1 b [(0, .a<|a7h g f o)]=V (.l [cJ.c g] U U,b):=aQm (Y:=b) (cs:=a7h g f o) (tgt:=g.c) rfl rfl (by decide) (by simp[cJ.c,eN,sl]) (by decide);simp only[bjs,qy 6,qy 8,u0,u1,t,u,r15,A,rk,ar,arg,bfd,aj,j,↓uL];refine⟨y,λh=>?_,λh=>?_⟩;refine apQ v m bnm (by simp[cJ.c]) (by simp) (by simp;omega) λD M E n C=>?_;simp only[fe,aoz];exact⟨by grind [bc.p],(d.trans n).mono (by simp_all),by grind [bK.old]⟩;simp only[fe,aoz];grind [Fx.mono]
def cyB:Nat->Nat|0=>1|n+1=>1+16*cyB n
def CyL(w:am)(l:List<|List Int):Prop:=∀c∈l,qC w (Ds c)=U
def bpC{l:List (List Int)}:∀r∈l.map cl,L r=1:=by intro r a;obtain⟨y,_,rfl⟩:=dN.1 a;rfl
def bpa{w:am}(hw:kB w):∀(n:Nat) {p:AV} {path:List Int} {a:AV} {out:List (List Int)} {Y:ae},L path+n=4->0<L path->(∀x∈path,aF (L w.ac) x)->L Y=4096->O1 Y 1 p (path.map ci)->(∀q∈aA p,q.1=54)->gm Y 38 1 a (out.map cl)->(∀q∈aA a,q.1=17)->CyL w out->L out+cyB n<1000000->
  ∃r Y1,(∃v,gm Y1 38 1 r (v.map cl)/\(∀q∈aA r,q.1=17/\(q∈aA a\/bK Y q))/\Fx Y Y1 (aA a)/\CyL w v/\L v<=L out+cyB n)/\cZ aS GG 38 [.a w.c,p,a] Y r Y1:=by
 intro n
 induction n using Nat.strongRecOn with
 |ind n ih=>
 intro p path a out Y hn a1 aW K hp pp hG pa hC bk
 have aV:=hw.ev
 have bG:L path<=4:=by omega
 refine bqh K rfl λM v3 K2 lk nf b3=>?_
 have R:Fx Y M []:=K2.fx []
 have ap:=R.len.trans K
 have E:=hp.fx R (by simp)
 have ga:=hG.fx R (by simp)
 have a4:∀{z:ae},O1 z 1 p (path.map ci)->lz z p=sl ci path:=λ{z} h=>by
  rcases h with⟨t,o,rfl⟩|⟨b,m,e,rfl,hb⟩
  ·rfl
  ·simp[lz,aQd,hb,gK,sl]
 have az:∀{z:ae},O1 z 1 p (path.map ci)->dG z p=sl ci path:=λ{z} h=>by
  rcases h with⟨t,o,rfl⟩|⟨b,m,e,rfl,hb⟩
  ·rfl
  ·simp[dG,eR,aQd,hb,nrm,gK,sl]
 have arg:dG M (.a [iv 2,iv 0,iv 0,iv 0,iv 0,p])= .a (Ds path).c:=by
  show AV.a [iv 2,iv 0,iv 0,iv 0,iv 0,lz M p]=_
  rw[a4 E];rfl
 have aT:bM aSa anY [(0,iv 2),(5,p)]=V (.a [iv 2,iv 0,iv 0,iv 0,iv 0,p]):=by
  rcases hp with⟨t,o,rfl⟩|⟨b,m,e,rfl,hb⟩<;>rfl
 have kp:J3 p=[]\/J3 p=[54]:=by
  rcases hp.keys (P:=λk=>k=54) pp with h|⟨k,h,rfl⟩
  ·exact .inl h
  grind
 have hV:kB w/\L (Ds path).cW<4611686018427387904:=⟨hw,by show L path<_;omega⟩
 have bt:∀x,box Y (3,v3)≠V x:=nf
 simp only[bjr,↓uL]
 refine bjf (λd=>∀(y:ae) (D:AV) (v:List<|List Int),Fx Y y (aA a)->box y (3,v3)=V ⟨43,15,U,U,[w.c]⟩->O1 y 1 p (path.map ci)->gm y 38 1 D (v.map cl)->(∀q∈aA D,q.1=17/\(q∈aA a\/bK Y q))->CyL w v->L v<=L out+1->d [D] y) ?_ λd hJ=>?_
 ·intro y D v F c3 E g ia bv bC
  have bF:=F.len.trans K
  simp only[qz 9,aI,au,E.ln,bJ,u0,u1,↓uL]
  refine⟨λh=>?_,λh=>?_⟩
  ·grind [fe,aoz,cyB]
  ·obtain⟨m,rfl⟩:∃m,n=m+1:=⟨n-1,by grind⟩
   have ao:=aW _<|dB a1
   obtain⟨e,he⟩:∃e:Nat,gd path 0=e:=⟨(gd path 0).toNat,by have:=ao.1;omega⟩
   have bB:e<L w.ac:=by have:=ao.2;omega
   show rV (cz 1 y p<|iv ((0:Nat):Int)) _
   refine O1.ix1 E (i:=0) (c:=iv<|gd path 0) (by grind [bT]) λ_ _=>?_
   simp only[he,u0,u1,↓uL]
   rw[fX<|by omega]
   refine AI (α:=AV) (λb i=>[b,iv i]) 1 (L w.ac) (e+1) (by omega) (λj b z=>∃A,Fx Y z (aA a)/\box z (3,v3)=V ⟨43,15,U,U,[w.c]⟩/\O1 z 1 p (path.map ci)/\gm z 38 1 b (A.map cl)/\(∀q∈aA b,q.1=17/\(q∈aA a\/bK Y q))/\CyL w A/\L A<=L out+1+j*cyB m) (s0:=D) (by grind) ?_
   rintro j b z hj ⟨A,T,z3,O,gb,ib,X,ap⟩
   have a0:=T.len.trans K
   simp only[qz 49,aI,au,gt1,u0,u1,z3,rk,cT,aj,↓uL]
   refine⟨λh2=>?_,λh2=>?_⟩
   ·have aZ:=aL h2
    have bx:j*cyB m<=(j+1)*cyB m:=(by grind)
    have bz:(j+1)*cyB m<=16*cyB m:=qo _ (by omega)
    have bA:cyB (m+1)=1+16*cyB m:=rfl
    generalize hI:yI (λ(b:AV) (i:Int)=>[b,iv i]) (L w.ac) (λj b z=>∃A,Fx Y z (aA a)/\box z (3,v3)=V ⟨43,15,U,U,[w.c]⟩/\O1 z 1 p (path.map ci)/\gm z 38 1 b (A.map cl)/\(∀q∈aA b,q.1=17/\(q∈aA a\/bK Y q))/\CyL w A/\L A<=L out+1+j*cyB m)=f
    refine bqF (λd=>∀(N:ae) (W:AV) (o3:List<|List Int),Fx Y N (aA a)->box N (3,v3)=V ⟨43,15,U,U,[w.c]⟩->O1 N 1 p (path.map ci)->gm N 38 1 W (o3.map cl)->(∀q∈aA W,q.1=17/\(q∈aA a\/bK Y q))->CyL w o3->L o3<=L out+1+(j+1)*cyB m->d [W] N) ?_ λd av=>?_
    ·intro N W o3 h1 h2 h3 h4 h5 h6 h7
     simp only[qz 69,aI,au,gt1,u0,u1,↓uL]
     rw[<-hI]
     exact dR (mk:=λ(a:AV) i=>[a,iv i]) (p:=1) (s:=b) (s':=W) (λ_ _=>rfl) (Y:=z) aZ (by omega) (by grind)
    simp only[qz 71,qy 12,au,gt1,ar,jM,az O,bfd,u0,u1,↓uL]
    refine⟨by omega,?_⟩
    have H:=av z b A T z3 O gb ib X (by omega)
    rcases hM:Q ((j:Int)∈path) with _|_
    ·have ew:dq.wrap ((L path:Int)-1)=((L path-1:Nat):Int):=by grind [eM]
     have bD:L path-1<L path:=by omega
     simp only[kN,jA,qE,u0,u1,O.ln,bJ,z3,r15,aj,ew,↓uL]
     refine O1.ix1 O (i:=L path-1) (c:=iv<|gd path<|L path-1) (by grind [bT]) λ_ _=>?_
     simp only[jA,ar,bfd,u0,u1,uO,aNV,↓uL]
     refine⟨(by grind [dJ,dB]),λbw=>?_,λ_=>H⟩
     simp only[nS,bQ]
     refine apV (aa:=[]) (e:=3) (z:=1) (new:=path.map ci) (.inl ⟨rfl,rfl⟩) O.ro rfl (by decide) (by omega) (by simp) fF (by simp;omega) λx1 B g3 F3 P3=>?_
     have G:gm B 3 1 x1 (path.map ci):=by grind
     have u:Fx z B []:=F3.mono (by simp[aA])
     have an:∀q∈aA x1,bK z q/\q.1=51:=(by grind [aA])
     have aU:aX bH 1 B [(0,iv j)]=V (.l ([(j:Int)].map ci) U U,B):=iz
     have aq:=u.len.trans a0
     simp only[qz 14,qy 16,gt1,aU,bQ,↓uL]
     refine apQ G aq fF fF (by simp) (by simp;omega) λx2 s5 g5 C P5=>?_
     have a5:∀{q:Id},q.1≠51->q∉aA x1:=(by grind)
     have aO:=(gb.fx u<|by simp).fx C (by grind)
     have a8:=(O.fx u<|by simp).fx C (by grind)
     have a7:=C.keep _ _ (a5<|by simp)<|u.kq z3
     have aY:=C.len.trans aq
     have aK:Fx Y s5 (aA a):=(T.trans<|u.trans C).mono λq Z=>by
      simp only[dW,dF] at Z
      rcases Z with h|h
      ·exact .inl h
      ·exact .inr ((an q h).1.old T).no
     simp only[qz 18,au,↓uL]
     refine jH rfl (ih m (by omega) (p:=x2) (path:=path++[(j:Int)]) (a:=b) (out:=A) (by simp;omega) (by simp) (λx hx=>?_) aY (.of (by rw[dg];exact g5.p)) (by grind) aO (by grind) X<|by grind) ?_
     ·grind [cE,dJ]
     rintro r s6 ⟨o3,g6,i6,F6,aQ,bj⟩
     refine⟨F6.len,?_⟩
     simp only[qz 20,↓uL]
     refine dT ?_ ?_
     ·have kx:J3 x1=[]\/J3 x1=[51]:=by
       rcases(O1.of G).keys (P:=λk=>k=51) (by grind) with h|⟨k,h,rfl⟩
       ·exact .inl h
       grind
      rcases kp with h|h<;>rcases kx with h'|h'<;>simp[eL,lb,Cz,aTn,a6H,bc7,bc6,gt1,h,h']
     have a6:∀{q:Id},q.1≠17->q∉aA b:=(by grind)
     refine av s6 r o3 ((aK.trans F6).mono λq Z=>?_) (F6.keep _ _ (a6<|by simp) a7) (a8.fx F6<|by grind) g6 (λq Z=>⟨(i6 q Z).1,?_⟩) aQ (by grind)
     ·grind [bK.no]
     grind [bK.old]
    ·simp only[fh,jN,u0,u1,uO,aPy,↓uL]
     exact⟨λh=>(by cases h),λ_=>H⟩
   ·obtain rfl:j=L w.ac:=(by grind)
    simp only[fe,aoz]
    refine⟨A,gb,ib,T,X,?_⟩
    have:L w.ac*cyB m<=16*cyB m:=qo _ aV
    grind [cyB]
 simp only[qz 11,qy 4,u0,u1,b3,r15,aT,ar,arg,bfd,aj,↓uL]
 refine⟨hV,λh=>?_,λh=>?_⟩
 ·simp only[nS,bQ]
  refine apV (aa:=[]) (e:=3) (z:=1) (new:=path.map ci) (.inl ⟨rfl,rfl⟩) E.ro rfl (by decide) (by omega) (by simp) fF (by simp;omega) λx B g3 F3 P3=>?_
  have G:gm B 3 1 x (path.map ci):=by grind
  have u:Fx M B []:=F3.mono (by simp[aA])
  have an:∀q∈aA x,bK M q/\q.1=15:=(by grind [aA])
  have S:=aOp (aA x) B
  have no:∀{q:Id},q.1≠15->q∉aA x:=(by grind)
  have aN:=(ga.fx u<|by simp).fx S (by grind)
  have bu:=(E.fx u<|by simp).fx S (by grind)
  have bs:=S.keep _ _ (no<|by simp)<|u.kq b3
  simp only[qz 6,qy 8,qy 10,baG G,bQ,↓uL]
  refine qs (new:=[[.l (path.map ci) I I]]) aN rfl (by decide) (by rw[S.len,u.len,ap];decide) bpC (by simp) (by simp) (by simp;omega) λD s5 g5 C P5=>?_
  have bI:∀{q:Id},q.1≠17->q∉aA a:=λh h'=>h<|pa _ h'
  have ax:Fx Y s5 (aA a):=(R.trans<|u.trans<|S.trans C).mono (by grind [bK.no,bK.old])
  refine hJ s5 D (out++[path]) ax (by grind [Fx.keep]) (by grind [O1.fx]) (by rw[dg];exact g5.p) (by grind [bK.old]) (λl K=>?_) (by simp)
  rcases dF.1 K with h1|h1
  ·exact hC l h1
  grind
 ·exact hJ M a out (R.mono<|by simp) b3 E ga (by grind) hC (by omega)
def bnx:dO:=(12,bjd)::(13,bnt)::bnw
def bnv:eJ bnx:=it (tE biL)<|it (tE bpe)<|biO
def bzJ:=ai @boI<|ai @brt<|@bfd
def bn2:=bA 61 [(5,([3,5],[1,4])),(10,([3,6],[1,4,5])),(16,([3,7],[1,4])),(22,([3,9],[1,4,7,8])),(28,([3,10],[1,4])),(33,([3,11],[1,4,10])),(39,([3,12],[1,4])),(44,([3,13],[1,4,12])),(47,([3],[1,4,12,13])),(51,([3,14],[1,4,12,13])),(56,([3,15],[1,4,12,13,14]))]
def bjp a b R:=(.mk _:NR bnx bn2 Tryz.f15 [.u] [a] b R).p
def bqf{c0:List AV}{R:o8}(l0:L c0=15)(h:H1 43 15 1 c0 λia b=>bjp ia b R):Ct 15 [.a c0] R:=z1 bn2 bnv Tryz.func15 l0 h
def GL(w:am)(z:ae)(b:AV)(N:Nat):Prop:=∃a:List cJ,L z=4096/\box z (1,1)=V ⟨43,15,U,U,[w.c]⟩/\gm z 46 6 b (a.map cJ.c)/\(∀q∈aA b,q.1=13\/q.1=57)/\(∀g∈a,qC w g=U/\L g.cW<=4)/\L a<=N
theorem GL.mono{w:am}{z:ae}{b:AV}{N M:Nat}(h:GL w z b N)(j:N<=M):GL w z b M:=by obtain⟨a,c,d,e,f,g,i⟩:=h;exact⟨a,c,d,e,f,g,by omega⟩
theorem GL.put{w:am}(m:kB w){z:ae}{b:AV}{N d:Nat}{g:cJ}{f o:Bool}{K:be}(h:GL w z b N)(v:N<1000000)(y:L g.cW<=4)(l:∀r e,GL w e r (N+1)->K r e):cB 37 [.a w.c,b, .a<|a7h g f o] z d K:=by obtain⟨n,i,p,k,s,t,u⟩:=h;refine jH rfl (bpb i m (by omega) k<|by omega) ?_;rintro r e ⟨j,F,C⟩;refine⟨F.len,l r e ⟨_,F.len.trans i,(by grind [Fx.keep]),j,λq A=>?_,λx B=>?_,?_⟩⟩;grind;grind;grind
def bjZ(w:am)(hp:kB w):Ct 15 [.a w.c] (λr=>∃j:List cJ,r=sl cJ.c j/\(∀g∈j,qC w g=U/\L g.cW<=4)/\L j<=200000):=by have A:=hp;have aD:=A.ev;generalize hQ:(λ(r:AV)=>∃j:List cJ,r=sl cJ.c j/\(∀g∈j,qC w g=U/\L g.cW<=4)/\L j<=200000)=Qq;refine aDq (bqf rfl λs2 hl X h0=>?_);show bjp (.p (1,1) 0 0) s2 λr=>Qq<|B1 r;have Z:∀{k a b c d:Int},bM aSa anY [(0,iv k),(1,iv a),(2,iv b)]=V (.a<|a7h (cJ.mk k a b 0 0 []) U U):=λ{k a b c d}=>rfl;have b4:∀{k a b c d:Int},bM aSa anY [(0,iv k),(1,iv a),(2,iv b),(3,iv c),(4,iv d)]=V (.a<|a7h (cJ.mk k a b c d []) U U):=λ{k a b c d}=>rfl;simp only[bjp,u0,u1,X,rk,cT,aj,↓uL];refine jD (α:=AV) (λa i=>[a,iv i]) 1 (L w.ac) (λk a x=>GL w x a<|k*16) (s0:= .l [] U U) ⟨[],hl,X, .inl ⟨rfl,rfl⟩,by simp[aA],by simp,by simp⟩ ?_;rintro n a x K G;obtain⟨_,_,H,_⟩:=id G;simp only[qz 31,au,gt1,aI,u0,u1,↓uL];refine⟨λh=>?_,λh=>?_⟩;have f:=aL h;refine jD (α:=AV) (λa i=>[a,iv i]) 1 (L w.ac) (λk a x=>GL w x a<|n*16+k) (s0:=a) G ?_;rintro D a y M G;obtain⟨_,_,C,_⟩:=id G;simp only[qz 61,au,gt1,aI,u0,u1,C,r15,rk,aj,Z (c:=0) (d:=0),↓uL];refine⟨λm=>?_,λm=>?_⟩;have e:=aL m;refine GL.put A G (by omega) (by simp) λr z v=>?_;simp only[qz 4,au,gt1,u0,u1,↓uL];exact dR (mk:=λ(a:AV) i=>[a,iv i]) (p:=1) (s:=a) (s':=r) (λ_ _=>rfl) (Y:=y) e (by omega) (v.mono<|by omega);exact dR (mk:=λ(a:AV) i=>[a,iv i]) (p:=1) (s:=a) (s':=a) (λ_ _=>rfl) (Y:=x) f (by omega) (G.mono<|by omega);clear H;refine jD (α:=AV) (λa i=>[a,iv i]) 1 (L w.ac) (λk a x=>GL w x a<|256+k*4369) (s0:=a) (G.mono<|by omega) ?_;rintro kc a x N G;obtain⟨_,_,H,_⟩:=id G;have t:aX bH 1 x [(0,iv kc)]=V (.l ([(kc:Int)].map ci) U U,x):=iz;simp only[qz 97,au,gt1,aI,u0,u1,H,r15,rk,aj,t,↓uL];refine⟨λh=>?_,λh=>?_⟩;have f:=aL h;obtain⟨j,u,R,B,S,E,T⟩:=id G;simp only[qz 6,qy 8,↓uL];refine jH rfl (bpa A 3 (p:= .l ([(kc:Int)].map ci) U U) (path:=[(kc:Int)]) (a:= .l [] U U) (out:=[]) rfl (by simp) (by grind [dJ]) u (.inl ⟨_,_,rfl⟩) (by simp[aA]) (.inl ⟨rfl,rfl⟩) (by simp[aA]) (by intro c hc;simp at hc)<|by simp[cyB]) ?_;rintro r y ⟨o,g,ig,F,hC,ak⟩;have W:Fx x y []:=F;have ay:L o<=4369:=ak;refine⟨F.len,?_⟩;have Gy:GL w y a (256+kc*4369):=⟨j,F.len.trans u,W.kq R,B.fx W (by simp),S,E,T⟩;refine jD (α:=AV) (λa i=>[a,iv i]) 1 (L o) (λk a z=>GL w z a (256+kc*4369+k)/\gm z 38 1 r (o.map cl)) (s0:=a) ⟨Gy,g⟩ ?_;rintro kd a z ah ⟨G,gz⟩;obtain⟨j,u,R,B,S,E,T⟩:=id G;simp only[qz 133,qy 10,au,gt1,aI,u0,u1,gz.ln,bJ,↓uL];refine⟨λm=>?_,λm=>?_⟩;have e:=aL m;have ag:=hC _<|dB e;have af:L (gd o kd)<=4:=(by grind [bjC,Ds]);refine O1.ix1 (.of gz) (i:=kd) (c:=sl ci<|gd o kd) (by rw[ve,eC e,bT e];rfl) λ_ _=>?_;have ae:bM aSa anY [(0,iv 2),(5,sl ci<|gd o kd)]=V (.a (Ds<|gd o kd).c):=rfl;have t:aX biV 1 z [(0, .a (Ds<|gd o kd).c)]=V (.l [cJ.c<|Ds<|gd o kd] U U,z):=ua rfl rfl rfl (by decide) (by simp[cJ.c,eN,sl]) (by decide);simp only[ae,t,aY,bQ,↓uL];refine apQ B u bnm (by simp[cJ.c]) (by simp) (by simp;omega) λa' z2 g2 F2 P2=>?_;simp only[qz 12,au,gt1,u0,u1,↓uL];have no:∀{q:Id},q.1≠13->q.1≠57->q∉aA a:=(by grind);refine dR (mk:=λ(a:AV) i=>[a,iv i]) (p:=1) (s:=a) (s':=a') (λ_ _=>rfl) (Y:=z) e (by omega) ⟨⟨j++[Ds<|gd o kd],F2.len.trans u,(by grind [Fx.keep]),by grind [bc.p],(by grind),λx hx=>?_,by simp;omega⟩,by grind [gm.fx]⟩;rcases dF.1 hx with h|h;exact E x h;obtain rfl:=cE.1 h;exact⟨ag,af⟩;exact dR (mk:=λ(a:AV) i=>[a,iv i]) (p:=1) (s:=a) (s':=a) (λ_ _=>rfl) (Y:=x) f (by omega) (G.mono<|by omega);clear H t;refine jD (α:=AV) (λa i=>[a,iv i]) 1 (L w.ac) (λk a x=>GL w x a<|71000+k*16) (s0:=a) (G.mono<|by omega) ?_;rintro n a x K G;simp only[qz 169,au,gt1,aI,u0,u1,↓uL];refine⟨λh=>?_,λh=>?_⟩;have f:=aL h;refine jD (α:=AV) (λa i=>[a,iv i]) 1 (L w.ac) (λk a x=>GL w x a<|71000+n*16+k) (s0:=a) G ?_;rintro D a y M G;obtain⟨_,_,C,_⟩:=id G;simp only[qz 199,au,gt1,aI,u0,u1,C,r15,rk,aj,Z (c:=0) (d:=0),↓uL];refine⟨λm=>?_,λm=>?_⟩;have e:=aL m;refine GL.put A G (by omega) (by simp) λr z v=>?_;simp only[qz 14,au,gt1,u0,u1,↓uL];exact dR (mk:=λ(a:AV) i=>[a,iv i]) (p:=1) (s:=a) (s':=r) (λ_ _=>rfl) (Y:=y) e (by omega) (v.mono<|by omega);exact dR (mk:=λ(a:AV) i=>[a,iv i]) (p:=1) (s:=a) (s':=a) (λ_ _=>rfl) (Y:=x) f (by omega) (G.mono<|by omega);refine jD (α:=AV) (λa i=>[a,iv i]) 1 (L w.ac) (λk a x=>GL w x a<|72000+k*6000) (s0:=a) (G.mono<|by omega) ?_;rintro n a x K G;simp only[qz 235,au,gt1,aI,u0,u1,↓uL];refine⟨λh=>?_,λh=>?_⟩;have f:=aL h;rw[fX<|by omega];refine AI (α:=AV) (λa i=>[a,iv i]) 1 (L w.ac) (n+1) f (λk a x=>GL w x a<|72000+n*6000+k*350) (s0:=a) (G.mono<|by omega) ?_;rintro D a y M G;obtain⟨_,_,C,_⟩:=id G;simp only[qz 265,au,gt1,aI,u0,u1,↓uL];refine⟨λm=>?_,λm=>?_⟩;have e:=aL m;simp+contextual only[di,qz 287,au,gt1,aI,u0,u1,C,ix,rk,ar,bzJ,aj,bh,dJ f,dJ e,NA,I9,↓uL];refine⟨λh3=>?_,λh3=>?_⟩;simp only[qz 285,aI,au,gt1,u0,u1,↓uL];exact dR (mk:=λ(a:AV) i=>[a,iv i]) (p:=1) (s:=a) (s':=a) (λ_ _=>rfl) (Y:=y) e (by omega) (G.mono<|by omega);refine jD (α:=AV) (λa i=>[a,iv i]) 1 (L w.ac) (λk a x=>GL w x a<|72000+n*6000+D*350+k*17) (s0:=a) (G.mono<|by omega) ?_;rintro kc a z N G;simp only[qz 307,au,gt1,aI,u0,u1,↓uL];refine⟨λh4=>?_,λh4=>?_⟩;have O:=aL h4;refine AI (α:=AV) (λa i=>[a,iv i]) 1 (L w.ac) kc N (λk a x=>GL w x a<|72000+n*6000+D*350+kc*17+k) (s0:=a) (G.mono<|by omega) ?_;rintro kd a z2 ah G;obtain⟨_,_,z1,_⟩:=id G;simp only[qz 337,au,gt1,aI,u0,u1,z1,r15,rk,aj,b4,↓uL];refine⟨λh5=>?_,λh5=>?_⟩;have P:=aL h5;refine GL.put A G (by omega) (by simp) λr z v=>?_;simp only[qz 16,au,gt1,u0,u1,↓uL];exact dR (mk:=λ(a:AV) i=>[a,iv i]) (p:=1) (s:=a) (s':=r) (λ_ _=>rfl) (Y:=z2) P (by omega) (v.mono<|by omega);exact dR (mk:=λ(a:AV) i=>[a,iv i]) (p:=1) (s:=a) (s':=a) (λ_ _=>rfl) (Y:=z) O (by omega) (G.mono<|by omega);simp only[qz 285,aI,au,gt1,u0,u1,↓uL];exact dR (mk:=λ(a:AV) i=>[a,iv i]) (p:=1) (s:=a) (s':=a) (λ_ _=>rfl) (Y:=y) e (by omega) (G.mono<|by omega);exact dR (mk:=λ(a:AV) i=>[a,iv i]) (p:=1) (s:=a) (s':=a) (λ_ _=>rfl) (Y:=x) f (by omega) (G.mono<|by omega);obtain⟨j,u,R,B,S,E,T⟩:=G;refine aOv (v':=sl cJ.c j) (aWs B) rfl ?_;grind
def bjb:FT:=om bjZ
def boE{w Lw K}:=f111 bjb bjZ w Lw K
def bny:dO:=(15,bjb)::bnx
def bpN:eJ bny:=it (rj bjZ)<|bnv
def boN:=ai @boE<|@bzJ
def boQ a b c R:=(.mk _:NR bny ato Tryz.f10 [.u,b] [a] c R).p
def br0{c0:List AV}{b:AV}{R:o8}(l0:L c0=15)(h:H1 43 15 2 c0 λia c=>boQ ia b c R):Ct 10 [.a c0,b] R:=z1 ato bpN Tryz.func10 l0 h
def aN6{α:Type}(f:α->α->Bool):List α->List α->Bool|[],[]=>U|a::l,b::m=>f a b&&aN6 f l m|_,_=>I
theorem aOC{α:Type}{f:α->α->Bool}(c:∀a b,f a b=U->a=b):∀{l m:List α},aN6 f l m=U->l=m
 |[],[],_=>rfl
 |a::l,b::m,h=>by
  simp only[aN6,bN] at h
  rw[c a b h.1,aOC c h.2]
 |[],_::_,h=>by cases h
 |_::_,[],h=>by cases h
def xqV:Nat->Value->Value->Bool
 |0,_,_=>I
 |n+1,x,y=>
  match x,y with
  | .int k a, .int c b=>Q (k=c)&&Q (a=b)
  | .bool a, .bool b=>a==b
  | .string a, .string b=>Q<|a.data.toList=b.data.toList
  | .agg a, .agg b=>aN6 (xqV n) a.toList b.toList
  | .pointer none, .pointer none=>U
  | .nilFunc, .nilFunc=>U
  | .nilIface, .nilIface=>U
  | .map none, .map none=>U
  |_,_=>I
theorem bhK:∀{n:Nat} {a b:Value},xqV n a b=U->a=b:=by intro n;induction n with|zero=>intro a b h;cases h|succ n c=>intro a b h;simp only[xqV] at h;(split at h<;>first|rfl|(cases h;done)|skip);simp_all;simp_all;rename_i a b;have h:=aNK h;obtain⟨⟨a⟩⟩:=a;simp_all;rename_i a b;have h:=aOC (λa b=>c) h;simp_all
def xqA:Nat->AV->AV->Bool
 |0,_,_=>I
 |n+1,x,y=>
  match x,y with
  | .s v, .s w=>xqV 4 v w
  | .u, .u=>U
  | .l r t o, .l D E o'=>(t==E&&o==o')&&aN6 (aN6<|xqA n) r D
  | .a c, .a e=>aN6 (xqA n) c e
  | .t c, .t e=>aN6 (xqA n) c e
  | .q c, .q e=>aN6 (xqA n) c e
  | .p b i j, .p h z A=>Q<|b=h/\i=z/\j=A
  | .m b i, .m h z=>Q<|b=h/\i=z
  | .g k b i j, .g B h z A=>Q<|k=B/\b=h/\i=z/\j=A
  | .f k c d, .f B e C=>Q (k=B)&&(aN6 (xqA n) c e&&aN6 (xqA n) d C)
  |_,_=>I
def aYn:∀{n:Nat} {a b:AV},xqA n a b=U->a=b:=by intro n;induction n with|zero=>intro a b h;cases h|succ n c=>intro a b h;simp only[xqA] at h;grind [bhK,aOC]
def eqB(x y:bY):Bool:=Q (x.elem=y.elem/\x.size=y.size/\x.own=y.own/\x.var=y.var)&&aN6 (aN6<|xqA 9) x.aa y.aa
theorem bbh{x y:bY}(h:eqB x y=U):x=y:=by unfold eqB at h;rw[bN] at h;obtain⟨c,d,e,f⟩:=aNK h.1;have g:=aOC (λa b=>aOC<|λa b=>aYn) h.2;cases x;simp_all
def kpS(a b:vG):Bool:=Nat.ble a.lB b.lB&&(aH<|a.lB+1).all λv=>match a.val v with|none=>U|some x=>match b.val v with|some y=>eqB x y|none=>I
def kpB:ae->ae->Bool:=eqLs' kpS
where eqLs' (f:vG->vG->Bool):ae->ae->Bool
 |[],[]=>U
 |a::l,b::m=>f a b&&eqLs' f l m
 |_,_=>I
def a6R:∀{Y Y':ae},kpB Y Y'=U->L Y'=L Y/\∀k,kpS (aZ Y k) (aZ Y' k)=U
 |[],[],_=>⟨rfl,λk=>by simp only[aZ,List.getD_nil];rfl⟩
 |a::l,b::m,h=>by
  have h:(kpS a b&&kpB.eqLs' kpS l m)=U:=h
  rw[bN] at h
  have c:=a6R (Y:=l) (Y':=m) h.2
  refine⟨by simp[c.1],λk=>?_⟩
  cases k with
  |zero=>exact h.1
  |succ k=>exact c.2 k
 |[],_::_,h=>by cases h
 |_::_,[],h=>by cases h
theorem bdG{Y Y':ae}(h:kpB Y Y'=U):Kp Y Y':=by obtain⟨a,c⟩:=a6R h;refine⟨a,λk=>?_,λb x d=>?_⟩;simp_all [kpS];have h:=c b.1;unfold kpS at h;grind [box,Nat.le_trans,Nat.le_of_ble_eq_true,bbh]
section
variable(P:Program)(G:nn)
abbrev aPc:=FuncId->List AV->ae->Nat->Option (AV×ae)
abbrev aQb:=Code->List AV->ae->Option (Exit×List AV×ae)
def aWf(a:aPc)(b:List AV)(Y:ae)(o:Oper):Option (AV×ae):=
 match dz P (du G b) Y o.op with
 |some av=>V (av,Y)
 |none=>
  match eA P (du G b) Y (o.dst.getD 0) o.op with
  |some p=>V p
  |none=>
   match o.op with
   | .call c=>
    match c.callee with
    | .value f=>
     match du G b f with
     | .f fn first cap=>a fn (first++c.args.toList.map (du G b)++cap) Y (o.dst.getD 0)
     |_=>J
    |_=>J
   |_=>J
def aS9(b:aPc)(ops:Array Oper)(a:List AV)(Y:ae)(o:Oper):Option (List AV×ae):=
 match rh ops a o with
 |some true=>match aWf P G b a Y o with|some p=>V (ge a o.dst p.1,p.2)|none=>J
 |some false=>V (ge a o.dst<|.t [],Y)
 |none=>J
def aRK(a:aPc)(ops:Array Oper):List Oper->List AV->ae->Option (List AV×ae)
 |[],b,Y=>V (b,Y)
 |o::l,b,Y=>match aS9 P G a ops b Y o with|some p=>aRK a ops l p.1 p.2|none=>J
def aS8(b:aPc)(ops:Array Oper):List Oper->List fY->List AV->ae->Option (List fY×List AV×ae)
 |[],a,c,Y=>V (a,c,Y)
 |o::l,a,c,Y=>match aS9 P G b ops c Y o with|some p=>aS8 b ops l (a++[C4 P G ops c Y o]) p.1 p.2|none=>J
def aQ0:Exit->Bool| .normal| .ret=>U|_=>I
def a6k(Y:ae)(d:Nat)(c:ae)(r:AV):Option (AV×ae):=
 match r with
 | .l [] true true=>V (.l [] U U,Y)
 | .m b n=>match box c b with|some x=>if qA x=U then V (.m (lA Y d) n,put Y d x) else J|none=>J
 | .a cs=>if(wn cs).Nodup then(match gU c d Y cs with|some p=>V (.a p.1,p.2)|none=>J) else J
 |_=>J
abbrev aSo:=List<|FuncId×List AV×AV
structure aPP where
 l:aSo
 cl:List (FuncId×TypeId×Nat)
def known(fn:FuncId)(ys:List AV):aSo->Option AV|[]=>J|p::T=>bif aOU fn p.1&&aN6 (xqA 9) ys p.2.1 then V p.2.2 else known fn ys T
def aRG(fn:FuncId):List (FuncId×TypeId×Nat)->Option (TypeId×Nat)|[]=>J|p::T=>bif aOU fn p.1 then V p.2 else aRG fn T
def aWe(Y:ae)(d:Nat)(p:TypeId×Nat)(ys:List AV):Option (AV×ae):=
 match ys with
 |[.l [] false false]=>V (.l [] U U,Y)
 |[.l (r::aa) false false]=>
  if((r::aa).all λr=>aOU (L r) p.2&&r.all gY)=U/\L (r::aa)<1000000 then V (.m (lA Y d)<|L (r::aa),put Y d ⟨p.1,p.2,U,I,r::aa⟩) else J
 |_=>J
def aRJ(T:aPP)(E:aQb):aPc:=λfn xs Y d=>
 match P.funcs[fn]? with
 |none=>J
 |some f=>
  match f.body with
  |none=>J
  |some c=>
   if(f.name== "runtime.NumGoroutine")=U then J
   else if G.nw fn=U then
    if(xs.map<|dG Y).all iX=U/\vg Y d=U then
     match aRG fn T.cl with
     |some p=>aWe Y d p<|xs.map<|dG Y
     |none=>
     match E c (start f<|xs.map<|dG Y) eK with
     |some (e,b,a)=>if aQ0 e=U then(match wG P f b a with|some r=>a6k Y d a r|none=>J) else J
     |none=>J
    else J
   else if G.imp fn=U then
    match E c (start f xs) Y with
    |some (e,b,a)=>
     if aQ0 e=U then
      match wG P f b a with
      |some r=>
       if L a=L Y then
        if G.rd fn=U then(if kpB Y (kills a<|eB r)=U/\kG (eR a r)=U then V (eR a r,Y) else J)
        else V (r,a)
       else J
      |none=>J
     else J
    |none=>J
   else if(xs.map<|dG Y).all iX=U/\L (xs.map<|dG Y)<=f.ntmps then
    match known fn (xs.map<|dG Y) T.l with
    |some r=>if kG r=U/\(nA Y xs=I\/uN r=U) then V (r,Y) else J
    |none=>
    match E c (start f<|xs.map<|dG Y) (ly f) with
    |some (e,b,a)=>
     if aQ0 e=U then
      match yB P f b a with
      |some r=>if kG r=U/\(nA Y xs=I\/uN r=U) then V (r,Y) else J
      |none=>J
     else J
    |none=>J
   else J
def aRL(T:aPP)(E:aQb):aQb:=λc a Y=>
 match c with
 | .skip=>V (.normal,a,Y)
 | .label _=>V (.normal,a,Y)
 | .region _ ops false=>match aRK P G (aRJ P G T E) ops ops.toList a Y with|some p=>V (.normal,p.1,p.2)|none=>J
 | .region _ ops true=>
  if rG G ops.toList=U then match aRK P G (aRJ P G T E) ops ops.toList a Y with|some p=>V (.normal,p.1,p.2)|none=>J
  else match aS8 P G (aRJ P G T E) ops ops.toList [] a Y with|some p=>if xG ops p.1=U then V (.normal,p.2.1,p.2.2) else J|none=>J
 | .seq x y=>match E x a Y with|some (.normal,τ',Y')=>E y τ' Y'|r=>r
 | .cond c x y=>match du G a c with| .s (.bool t)=>if t=U then E x a Y else E y a Y|_=>J
 | .block b c=>match E c a Y with|some (.exit j,τ',Y')=>if j=b then V (.normal,τ',Y') else V (.exit j,τ',Y')|r=>r
 | .loop c=>match E c a Y with|some (.normal,τ',Y')=>E (.loop c) τ' Y'|r=>r
 | .exit b=>V (.exit b,a,Y)
 | .ret=>V (.ret,a,Y)
 |_=>J
def ev(T:aPP):Nat->aQb|0=>λ_ _ _=>J|n+1=>aRL P G T<|ev T n
end
section
variable{P:Program}{G:nn}
def Xcl(P:Program)(G:nn)(fn:FuncId)(xs:List AV)(Y:ae)(d:Nat)(K:be):Prop:=
 if G.nw fn=U then tS P G fn xs Y d K else if G.imp fn=U then tR P G fn xs Y d K else Kh P G fn xs Y λr=>K r Y
def aRe(P:Program)(G:nn)(a:aPc):Prop:=∀fn xs Y d r Y',a fn xs Y d=V (r,Y')->∀K:be,K r Y'->Xcl P G fn xs Y d K
def aUx(P:Program)(G:nn)(E:aQb):Prop:=∀c a Y e τ' Y',E c a Y=V (e,τ',Y')->∀Q:QX,Q e τ' Y'->iq P G c Q a Y
theorem bbm{a:aPc}(g:aRe P G a){b:List AV}{Y Y':ae}{o:Oper}{r:AV}(h:aWf P G a b Y o=V (r,Y')){K:be}(d:K r Y'):j0 P G b Y o K:=by unfold aWf at h;unfold j0;split at h;simp_all;rename_i l;rw[l];simp only;split at h;simp_all;rename_i i;rw[i];simp only;split at h;rename_i c k;rw[k];simp only;split at h;rename_i f j;rw[j];simp only;split at h;rename_i fn first cap e;rw[e];exact g _ _ _ _ _ _ h K d;(cases h);(cases h);cases h
theorem a6l{a:aPc}(d:aRe P G a){ops:Array Oper}{b τ':List AV}{Y Y':ae}{o:Oper}(h:aS9 P G a ops b Y o=V (τ',Y')){K:aG}(c:K τ' Y'):kS P G ops o K b Y:=by grind [aS9,kS,bbm]
theorem a6m{a:aPc}(d:aRe P G a){ops:Array Oper}{K:aG}:∀{l:List Oper} {b τ':List AV} {Y Y':ae},aRK P G a ops l b Y=V (τ',Y')->K τ' Y'->rE P G ops l K b Y:=by intro l;induction l with|nil=>intro b τ' Y Y' h c;cases h;exact c|cons o l f=>intro b τ' Y Y' h c;simp only[aRK] at h;split at h;rename_i p e;exact a6l d (τ':=p.1) (Y':=p.2) e<|f h c;cases h
theorem bbk{b:aPc}(e:aRe P G b){ops:Array Oper}{K:List fY->aG}:∀{l:List Oper} {a ls:List fY} {c τ':List AV} {Y Y':ae},aS8 P G b ops l a c Y=V (ls,τ',Y')->K ls τ' Y'->qq P G ops l a K c Y:=by intro l;induction l with|nil=>intro a ls c τ' Y Y' h d;cases h;exact d|cons o l g=>intro a ls c τ' Y Y' h d;simp only[aS8] at h;split at h;rename_i p f;exact a6l e (τ':=p.1) (Y':=p.2) f<|g h d;cases h
def aWD{e:Exit}(h:aQ0 e=U):e= .normal\/e= .ret:=by cases e<;>first|exact .inl rfl|exact .inr rfl|cases h
theorem a6j(o:tQ P){E:aQb}(j:aUx P G E){fn:FuncId}{f:Func}{c:Code}(n:P.funcs[fn]?=V f)(l:f.body=V c)(p:¬(f.name== "runtime.NumGoroutine")=U){xs g:List AV}{Y d:ae}{e:Exit}{r:AV}(h:E c (start f xs) Y=V (e,g,d))(m:aQ0 e=U)(i:wG P f g d=V r):cZ P G fn xs Y r d:=by obtain⟨q,Y',⟨rfl,rfl⟩,k⟩:=aBf (R:=λa b=>a=r/\b=d) o n l (by grind) (j _ _ _ _ _ _ h (QB P f λa b=>a=r/\b=d)<|by rcases aWD m with rfl|rfl<;>exact⟨r,i,rfl,rfl⟩);exact k
def aYw(P:Program)(G:nn)(T:aSo):Prop:=∀p∈T,bs4 P G p.1 p.2.1 (·=p.2.2)
def a78(P:Program)(G:nn)(T:List<|FuncId×TypeId×Nat):Prop:=∀p∈T,∀aa:List (List AV),(∀r∈aa,L r=p.2.2)->L aa<1000000->∃r a,cZ P G p.1 [.l aa I I] eK r a/\(aa=[]->r= .l [] U U)/\(aa≠[]->∃b,r= .m b (L aa)/\box a b=V ⟨p.2.1,p.2.2,U,I,aa⟩)
structure aSn(P:Program)(G:nn)(T:aPP):Prop where
 fp:∀fn,G.fp fn=J
 l:aYw P G T.l
 cl:a78 P G T.cl
def a6Q{fn:FuncId}{ys:List AV}{r:AV}:∀{T:aSo},aYw P G T->known fn ys T=V r->bs4 P G fn ys (·=r)
 |[],_,h=>by cases h
 |p::T,d,h=>by
  simp only[known] at h
  cases c:(aOU fn p.1&&aN6 (xqA 9) ys p.2.1) with
  |true=>
   rw[c] at h
   rw[bN] at c
   have e:=Nat.eq_of_beq_eq_true c.1
   have f:=aOC (λa b=>aYn) c.2
   obtain rfl:=xu h
   subst e f
   exact d p (by simp)
  |false=>
   rw[c] at h
   exact a6Q (λq g=>d q<|by simp[g]) h
theorem a6a{fn:FuncId}{p:TypeId×Nat}:∀{T:List (FuncId×TypeId×Nat)},aRG fn T=V p->(fn,p)∈T
 |[],h=>by cases h
 |q::T,h=>by
  simp only[aRG] at h
  cases a:aOU fn q.1 with
  |true=>
   grind [Nat.eq_of_beq_eq_true]
  |false=>rw[a] at h;exact List.mem_cons_of_mem _<|a6a h
theorem bbj{T:aPP}(l:aSn P G T){fn:FuncId}{p:TypeId×Nat}{xs:List AV}{Y Y':ae}{d:Nat}{r:AV}(o:aRG fn T.cl=V p)(i:(xs.map<|dG Y).all iX=U/\vg Y d=U)(h:aWe Y d p (xs.map<|dG Y)=V (r,Y')){K:be}(g:K r Y'):zI P G fn xs Y d K:=by have f:=l.cl _<|a6a o;refine⟨i.1,i.2,?_⟩;generalize xs.map (dG Y)=ys at*;unfold aWe at h;split at h;(cases h);obtain⟨r,a,c,j,_⟩:=f [] (by simp) (by decide);exact⟨r,a,c, .inl ⟨j rfl,g⟩⟩;rename_i q aa;split at h;rename_i e;cases h;obtain⟨e,n⟩:=e;rw[List.all_eq_true] at e;obtain⟨r,a,c,_,k⟩:=f (q::aa) (by simp_all) n;obtain⟨b,rfl,m⟩:=k (by simp);refine⟨_,a,c, .inr ⟨b,_,_,rfl,m,?_,g⟩⟩;grind [qA];(cases h);cases h
theorem bbi(z:tQ P){T:aPP}(t:aSn P G T){E:aQb}(s:aUx P G E):aRe P G (aRJ P G T E):=by intro fn xs Y d r Y' h K k;unfold aRJ at h;unfold Xcl;split at h;(cases h);rename_i f v;split at h;(cases h);rename_i c u;split at h;(cases h);rename_i C;split at h;rename_i A;rw[J9 A];split at h;rename_i a;split at h;rename_i p y;exact .inl<|bbj t y a h k;split at h;rename_i e F q o;split at h;rename_i m;split at h;rename_i B g;have j:=a6j z s v u C o m g;unfold a6k at h;split at h;(cases h);exact .inl ⟨a.1,a.2,_,_,j, .inl ⟨rfl,k⟩⟩;rename_i b n;split at h;rename_i x O;split at h;rename_i M;cases h;exact .inl ⟨a.1,a.2,_,_,j,by grind⟩;(cases h);(cases h);rename_i cs;split at h;rename_i D;split at h;rename_i p y;cases h;exact .inr<|.inr ⟨a.1,a.2,cs,q,p.1,p.2,j,D,y,k⟩;(cases h);(cases h);(cases h);(cases h);(cases h);(cases h);(cases h);rename_i A;rw[J7 A];split at h;rename_i w;rw[J9 w];split at h;rename_i e F q o;split at h;rename_i m;split at h;rename_i B g;have j:=a6j z s v u C o m g;split at h;rename_i H;split at h;grind [tR,aPf,bdG];rename_i N;cases h;unfold tR aPf;rw[t.fp fn];exact⟨_,_,j,H,by simp_all⟩;(cases h);(cases h);(cases h);(cases h);rename_i w;rw[J7 w];split at h;rename_i a;split at h;rename_i B g;split at h;rename_i i;cases h;exact⟨_,a6Q t.l g,a.1,i.1,i.2,k⟩;(cases h);split at h;rename_i e F q o;split at h;rename_i m;split at h;rename_i B g;split at h;rename_i i;cases h;refine⟨_,aBh z v u (by grind) a.2<|s _ _ _ _ _ _ o (QR P f (·=_)) ?_,a.1,i.1,i.2,k⟩;rcases aWD m with rfl|rfl<;>exact⟨_,g,i.1,rfl⟩;(cases h);(cases h);(cases h);(cases h);cases h
theorem bdK{p:Nat->Prop}:∀{n:Nat},p n->∃m,p m/\∀k,p k->m<=k:=by intro n;induction n using Nat.strongRecOn with|_ n a=>grind
theorem bbl(F:tQ P){T:aPP}(D:aSn P G T):∀n,aUx P G (ev P G T n):=by intro n;induction n using Nat.strongRecOn with|_ n A=>cases n with|zero=>intro c b Y e τ' Y' h;cases h|succ n=>have g:=A n<|Nat.lt_succ_self n;have C:=bbi (G:=G) F D g;intro c b Y e τ' Y' h Q f;have M:=h;change aRL P G T (ev P G T n) c b Y=_ at h;unfold aRL at h;split at h;(cases h;exact f);(cases h;exact f);split at h;rename_i p E;cases h;exact a6m C E f;(cases h);show sF P G _ _ _ _;grind [sF,a6m,bbk];rename_i x y;show iq P G x _ _ _;split at h;rename_i l u d;exact g _ _ _ _ _ _ d _<|g _ _ _ _ _ _ h _ f;rename_i q;refine g _ _ _ _ _ _ h _ ?_;(cases e<;>first|exact f|simp_all);rename_i cc x y;show(match du G b cc with| .s (.bool t)=>if t=U then iq P G x Q b Y else iq P G y Q b Y|_=>False);split at h;rename_i t N;split at h;rename_i d;rw[J9 d];exact g _ _ _ _ _ _ h _ f;rename_i d;rw[J7 d];exact g _ _ _ _ _ _ h _ f;(cases h);rename_i H c;show iq P G c _ _ _;split at h;rename_i j l u d;refine g _ _ _ _ _ _ d _ ?_;show(if j=H then Q .normal _ _ else Q (.exit j) _ _);grind;rename_i q;refine g _ _ _ _ _ _ h _ ?_;(cases e<;>first|exact f|simp_all);rename_i c;clear h;let r:List AV->ae->Nat->Prop:=λb Y m=>ev P G T m (.loop c) b Y=V (e,τ',Y');let a:aG:=λb Y=>∃m,m<=n+1/\r b Y m;have i:∀b Y,∃m,a b Y->r b Y m/\(∀k,r b Y k->m<=k):=(by intro b Y;by_cases hI:a b Y;obtain⟨m,_,z⟩:=hI;obtain⟨k,d,v⟩:=bdK z;grind;simp_all);refine⟨a,λb Y=>Classical.choose<|i b Y,(by grind),?_⟩;intro b Y hI;obtain⟨d,v⟩:=Classical.choose_spec (i b Y) hI;generalize z:Classical.choose (i b Y)=m at d v;have K:m<=n+1:=(by grind);(cases m with|zero=>(cases d)|succ k=>have o:=A k (by omega);change aRL P G T (ev P G T k) (.loop c) b Y=_ at d;unfold aRL at d;simp only at d;split at d;rename_i l u B;refine o _ _ _ _ _ _ B _ ?_;have w:a l u:=⟨k,by omega,d⟩;refine⟨w,?_⟩;grind;rename_i q;refine o _ _ _ _ _ _ d _ ?_;cases e<;>first|exact f|simp_all);(cases h;exact f);(cases h;exact f);cases h
end
end Go.Ab
