/- Part of the proof of EncodeAny, made short by a program: Con LA CA LB. -/
import Derived.Test.YtokoambdbclaaaaGreatDoorF
set_option linter.all false
set_option maxRecDepth 100000
open And renaming intro->ai
open Bool renaming false->I,true->U
open Decidable renaming decide->Q
open Eq renaming mpr->po
open Go.Proofs.Tryz renaming prog->aS
open Int renaming toNat_natCast->bh
open List renaming length->L
open Nat renaming lt_of_lt_of_le->gh
open Option renaming some->V
namespace Go.Ab
open Go Go.RowKit Go.Proofs
theorem axz{a b:AV}{l m:List AV}:(a::l=b::m)=(a=b/\l=m):=by simp
theorem aB0{p:Prop}:(p->p)=True:=by simp
theorem ass{A:Type}:(A->True)=True:=by simp
theorem asr{p:Prop}:(p->True)=True:=by simp
def ij:=ai @axz<|ai @AV.a.injEq<|ai @AV.s.injEq<|ai @Value.int.injEq<|ai @Value.bool.injEq<|ai @Value.string.injEq<|ai @true_and<|ai @and_true<|ai @amV<|ai @aB0<|ai @ass<|@asr
abbrev H0(W:ae->Prop):Prop:=∀s:ae,L s=4096->(∀k,aZ s k=mO)->W s
abbrev H1(t n p:Nat)(c:List AV)(W:be):Prop:=∀s:ae,L s=4096->box s (p,1)=V ⟨t,n,U,U,[c]⟩->(∀k,k≠p->aZ s k=mO)->W (.p (p,1) 0 0) s
abbrev H2(t n p:Nat)(c:List AV)(e d a:Nat)(b:List AV)(W:AV->be):Prop:=∀s:ae,L s=4096->box s (p,1)=V ⟨t,n,U,U,[c]⟩->box s (a,1)=V ⟨e,d,U,U,[b]⟩->(∀k,k≠p->k≠a->aZ s k=mO)->W (.p (p,1) 0 0) (.p (a,1) 0 0) s
section
variable{T:dO}(an:List (Option (List Nat×List Nat))){f:Func}{fn:Nat}{xs:List AV}{R:bd}
theorem z0{W:ae->Prop}(c:eJ T)(a:aS.funcs[fn]?=V f)(h:H0 W)(b:uM an f (L xs)=U:=by kernel_rfl)(d:ZF aS GG T an f xs R=W (ly f):=by kernel_rfl):Ct fn xs R:=uq ready c a b (po d (h _ uB (i8 _)))
theorem z1{t n p:Nat}{c:List AV}{W:be}(m:eJ T)(g:aS.funcs[fn]?=V f)(l:L c=n)(h:H1 t n p c W)(j:uM an f (L xs)=U:=by kernel_rfl)(b:Q (p<4096/\0<n)=U:=by exact rfl)(o:ZF aS GG T an f xs R=eV (ej t n (ly f) p (.a c)) W:=by kernel_rfl):Ct fn xs R:=by have b:=of_decide_eq_true b;refine uq ready m g j (po o ?_);refine mY (N:=4096) rfl l b.2 b.1 uB (by rw[i8]) λr q d s g0=>?_;exact h r q d (λk e=>by rw[g0 k e];exact i8 _ k)
theorem z2{t n p q d e:Nat}{c l:List AV}{W:AV->be}(B:eJ T)(y:aS.funcs[fn]?=V f)(A:L c=n)(m:L l=d)(h:H2 t n p c q d e l W)(z:uM an f (L xs)=U:=by kernel_rfl)(b:Q ((p<4096/\0<n)/\(e<4096/\0<d)/\p≠e)=U:=by exact rfl)(C:ZF aS GG T an f xs R=eV (ej t n (ly f) p (.a c)) λi s=>eV (ej q d s e (.a l)) λj s=>W i j s:=by kernel_rfl):Ct fn xs R:=by obtain⟨b,g,o⟩:=of_decide_eq_true b;refine uq ready B y z (po C ?_);refine mY (N:=4096) rfl A b.2 b.1 uB (by rw[i8]) λK D r H g0=>?_;refine mY (N:=4096) rfl m g.2 g.1 D (by rw[g0 _ (Ne.symm o),i8]) λG E u v g1=>?_;exact h G E (by rw[v _ _ o];exact r) u (λk w x=>by rw[g1 k x,g0 k w];exact i8 _ k)
end
abbrev EB(fn:Nat)(xs:List AV)(Y:ae)(R:be):Prop:=∃r a,R r a/\cZ aS GG fn xs Y r a
theorem zB{T:dO}(an:List (Option (List Nat×List Nat))){f:Func}{fn:Nat}{xs:List AV}{Y:ae}{R:be}{Q:Prop}(c:eJ T)(a:aS.funcs[fn]?=V f)(h:Q)(b:uM an f (L xs)=U:=by kernel_rfl)(d:ZB aS GG T an f xs Y R=Q:=by kernel_rfl):EB fn xs Y R:=aBe ready c a b (po d h)
section
variable{i:Nat}(F:FT)
def BJ{a:List AV}{v:AV}(k:Ct i (a) (·=v)):FT:=λys K=>ys=a/\K (v)
theorem al2{a:List AV}{v:AV}(k:Ct i (a) (·=v))(Lw K:bd)(c:F=BJ k:=by exact rfl):fW F (a) Lw K=(Lw (v)/\K (v)):=by subst c;apply propext;constructor;rintro⟨h,b⟩;exact b;intro h;exact⟨rfl,h⟩
theorem apM{a:List AV}{v:AV}(k:Ct i (a) (·=v))(b:∀_:Unit,(a).all iX=U:=by intros;exact rfl):∀ys K,BJ k ys K->jz aS GG i ys K:=by rintro ys K ⟨rfl,h⟩;exact nX (k) (b ()) (λr c=>by rw[c];exact h)
def BK{a:List AV}{b:bd}(k:Ct i (a) (b)):FT:=λys K=>ys=a/\∀r,b r->K r
theorem al3{a:List AV}{b:bd}(k:Ct i (a) (b))(Lw K:bd)(d:F=BK k:=by exact rfl):fW F (a) Lw K=(∀r,b r->Lw r/\K r):=by subst d;apply propext;constructor;rintro⟨h,c⟩;exact c;intro h;exact⟨rfl,h⟩
theorem apN{a:List AV}{d:bd}(k:Ct i (a) (d))(b:∀_:Unit,(a).all iX=U:=by intros;exact rfl):∀ys K,BK k ys K->jz aS GG i ys K:=by rintro ys K ⟨rfl,h⟩;exact nX (k) (b ()) (λr c=>h r c)
def lH{A:Type}{b:A->List AV}{v:A->AV}(k:∀a,Ct i (b a) (·=v a)):FT:=λys K=>∃a,ys=b a/\K (v a)
theorem np{A:Type}{b:A->List AV}{v:A->AV}(k:∀a,Ct i (b a) (·=v a))(a:A)(Lw K:bd)(e:F=lH k:=by exact rfl)(j:∀a c,b a=b c->a=c:=by simp+contextual only[ij]):fW F (b a) Lw K=(Lw (v a)/\K (v a)):=by subst e;apply propext;constructor;rintro⟨c,h,d⟩;obtain rfl:=j _ _ h;exact d;intro h;exact⟨_,rfl,h⟩
theorem nH{A:Type}{b:A->List AV}{v:A->AV}(k:∀a,Ct i (b a) (·=v a))(c:∀a,(b a).all iX=U:=by intros;exact rfl):∀ys K,lH k ys K->jz aS GG i ys K:=by rintro ys K ⟨a,rfl,h⟩;exact nX (k a) (c a) (λr d=>by rw[d];exact h)
def mT{A:Type}{b:A->List AV}{c:A->Prop}{v:A->AV}(k:∀a,c a->Ct i (b a) (·=v a)):FT:=λys K=>∃a,ys=b a/\c a/\K (v a)
theorem oK{A:Type}{b:A->List AV}{d:A->Prop}{v:A->AV}(k:∀a,d a->Ct i (b a) (·=v a))(a:A)(Lw K:bd)(g:F=mT k:=by exact rfl)(j:∀a c,b a=b c->a=c:=by simp+contextual only[ij]):fW F (b a) Lw K=(d a/\Lw (v a)/\K (v a)):=by subst g;apply propext;constructor;rintro⟨c,h,e⟩;obtain rfl:=j _ _ h;exact e;intro h;exact⟨_,rfl,h⟩
theorem pg{A:Type}{b:A->List AV}{g:A->Prop}{v:A->AV}(k:∀a,g a->Ct i (b a) (·=v a))(c:∀a,(b a).all iX=U:=by intros;exact rfl):∀ys K,mT k ys K->jz aS GG i ys K:=by rintro ys K ⟨a,rfl,d,h⟩;exact nX (k a d) (c a) (λr e=>by rw[e];exact h)
def om{A:Type}{b:A->List AV}{c:A->Prop}{d:A->bd}(k:∀a,c a->Ct i (b a) (d a)):FT:=λys K=>∃a,ys=b a/\c a/\∀r,d a r->K r
theorem qz{A:Type}{b:A->List AV}{d:A->Prop}{e:A->bd}(k:∀a,d a->Ct i (b a) (e a))(a:A)(Lw K:bd)(l:F=om k:=by exact rfl)(j:∀a c,b a=b c->a=c:=by simp+contextual only[ij]):fW F (b a) Lw K=(d a/\∀r,e a r->Lw r/\K r):=by subst l;apply propext;constructor;rintro⟨c,h,g⟩;obtain rfl:=j _ _ h;exact g;intro h;exact⟨_,rfl,h⟩
theorem rj{A:Type}{b:A->List AV}{g:A->Prop}{j:A->bd}(k:∀a,g a->Ct i (b a) (j a))(c:∀a,(b a).all iX=U:=by intros;exact rfl):∀ys K,om k ys K->jz aS GG i ys K:=by rintro ys K ⟨a,rfl,d,h⟩;exact nX (k a d) (c a) (λr e=>h r e)
def lI{A B:Type}{c:A->B->List AV}{v:A->B->AV}(k:∀a b,Ct i (c a b) (·=v a b)):FT:=λys K=>∃a b,ys=c a b/\K (v a b)
theorem nq{A B:Type}{c:A->B->List AV}{v:A->B->AV}(k:∀a b,Ct i (c a b) (·=v a b))(a:A)(b:B)(Lw K:bd)(l:F=lI k:=by exact rfl)(j:∀a b d e,c a b=c d e->a=d/\b=e:=by simp+contextual only[ij]):fW F (c a b) Lw K=(Lw (v a b)/\K (v a b)):=by subst l;apply propext;constructor;rintro⟨d,e,h,g⟩;obtain⟨rfl,rfl⟩:=j _ _ _ _ h;exact g;intro h;exact⟨_,_,rfl,h⟩
theorem nI{A B:Type}{c:A->B->List AV}{v:A->B->AV}(k:∀a b,Ct i (c a b) (·=v a b))(d:∀a b,(c a b).all iX=U:=by intros;exact rfl):∀ys K,lI k ys K->jz aS GG i ys K:=by rintro ys K ⟨a,b,rfl,h⟩;exact nX (k a b) (d a b) (λr e=>by rw[e];exact h)
def gz{A B:Type}{c:A->B->List AV}{d:A->B->Prop}{v:A->B->AV}(k:∀a b,d a b->Ct i (c a b) (·=v a b)):FT:=λys K=>∃a b,ys=c a b/\d a b/\K (v a b)
theorem gX{A B:Type}{c:A->B->List AV}{g:A->B->Prop}{v:A->B->AV}(k:∀a b,g a b->Ct i (c a b) (·=v a b))(a:A)(b:B)(Lw K:bd)(m:F=gz k:=by exact rfl)(j:∀a b d e,c a b=c d e->a=d/\b=e:=by simp+contextual only[ij]):fW F (c a b) Lw K=(g a b/\Lw (v a b)/\K (v a b)):=by subst m;apply propext;constructor;rintro⟨d,e,h,l⟩;obtain⟨rfl,rfl⟩:=j _ _ _ _ h;exact l;intro h;exact⟨_,_,rfl,h⟩
theorem hQ{A B:Type}{c:A->B->List AV}{j:A->B->Prop}{v:A->B->AV}(k:∀a b,j a b->Ct i (c a b) (·=v a b))(d:∀a b,(c a b).all iX=U:=by intros;exact rfl):∀ys K,gz k ys K->jz aS GG i ys K:=by rintro ys K ⟨a,b,rfl,e,h⟩;exact nX (k a b e) (d a b) (λr g=>by rw[g];exact h)
def pn{A B:Type}{c:A->B->List AV}{d:A->B->Prop}{e:A->B->bd}(k:∀a b,d a b->Ct i (c a b) (e a b)):FT:=λys K=>∃a b,ys=c a b/\d a b/\∀r,e a b r->K r
theorem rQ{A B:Type}{c:A->B->List AV}{g:A->B->Prop}{l:A->B->bd}(k:∀a b,g a b->Ct i (c a b) (l a b))(a:A)(b:B)(Lw K:bd)(n:F=pn k:=by exact rfl)(j:∀a b d e,c a b=c d e->a=d/\b=e:=by simp+contextual only[ij]):fW F (c a b) Lw K=(g a b/\∀r,l a b r->Lw r/\K r):=by subst n;apply propext;constructor;rintro⟨d,e,h,m⟩;obtain⟨rfl,rfl⟩:=j _ _ _ _ h;exact m;intro h;exact⟨_,_,rfl,h⟩
theorem si{A B:Type}{c:A->B->List AV}{j:A->B->Prop}{l:A->B->bd}(k:∀a b,j a b->Ct i (c a b) (l a b))(d:∀a b,(c a b).all iX=U:=by intros;exact rfl):∀ys K,pn k ys K->jz aS GG i ys K:=by rintro ys K ⟨a,b,rfl,e,h⟩;exact nX (k a b e) (d a b) (λr g=>h r g)
def za{A B C:Type}{d:A->B->C->List AV}{v:A->B->C->AV}(k:∀a b c,Ct i (d a b c) (·=v a b c)):FT:=λys K=>∃a b c,ys=d a b c/\K (v a b c)
theorem KP{A B C:Type}{d:A->B->C->List AV}{v:A->B->C->AV}(k:∀a b c,Ct i (d a b c) (·=v a b c))(a:A)(b:B)(c:C)(Lw K:bd)(n:F=za k:=by exact rfl)(j:∀a b c e g l,d a b c=d e g l->a=e/\b=g/\c=l:=by simp+contextual only[ij]):fW F (d a b c) Lw K=(Lw (v a b c)/\K (v a b c)):=by subst n;apply propext;constructor;rintro⟨e,g,l,h,m⟩;obtain⟨rfl,rfl,rfl⟩:=j _ _ _ _ _ _ h;exact m;intro h;exact⟨_,_,_,rfl,h⟩
theorem Rs{A B C:Type}{d:A->B->C->List AV}{v:A->B->C->AV}(k:∀a b c,Ct i (d a b c) (·=v a b c))(e:∀a b c,(d a b c).all iX=U:=by intros;exact rfl):∀ys K,za k ys K->jz aS GG i ys K:=by rintro ys K ⟨a,b,c,rfl,h⟩;exact nX (k a b c) (e a b c) (λr g=>by rw[g];exact h)
def qe{A B C:Type}{d:A->B->C->List AV}{e:A->B->C->Prop}{v:A->B->C->AV}(k:∀a b c,e a b c->Ct i (d a b c) (·=v a b c)):FT:=λys K=>∃a b c,ys=d a b c/\e a b c/\K (v a b c)
theorem sT{A B C:Type}{d:A->B->C->List AV}{m:A->B->C->Prop}{v:A->B->C->AV}(k:∀a b c,m a b c->Ct i (d a b c) (·=v a b c))(a:A)(b:B)(c:C)(Lw K:bd)(o:F=qe k:=by exact rfl)(j:∀a b c e g l,d a b c=d e g l->a=e/\b=g/\c=l:=by simp+contextual only[ij]):fW F (d a b c) Lw K=(m a b c/\Lw (v a b c)/\K (v a b c)):=by subst o;apply propext;constructor;rintro⟨e,g,l,h,n⟩;obtain⟨rfl,rfl,rfl⟩:=j _ _ _ _ _ _ h;exact n;intro h;exact⟨_,_,_,rfl,h⟩
theorem tE{A B C:Type}{d:A->B->C->List AV}{l:A->B->C->Prop}{v:A->B->C->AV}(k:∀a b c,l a b c->Ct i (d a b c) (·=v a b c))(e:∀a b c,(d a b c).all iX=U:=by intros;exact rfl):∀ys K,qe k ys K->jz aS GG i ys K:=by rintro ys K ⟨a,b,c,rfl,g,h⟩;exact nX (k a b c g) (e a b c) (λr j=>by rw[j];exact h)
def vn{A B C:Type}{d:A->B->C->List AV}{e:A->B->C->Prop}{g:A->B->C->bd}(k:∀a b c,e a b c->Ct i (d a b c) (g a b c)):FT:=λys K=>∃a b c,ys=d a b c/\e a b c/\∀r,g a b c r->K r
theorem zZ{A B C:Type}{d:A->B->C->List AV}{m:A->B->C->Prop}{n:A->B->C->bd}(k:∀a b c,m a b c->Ct i (d a b c) (n a b c))(a:A)(b:B)(c:C)(Lw K:bd)(p:F=vn k:=by exact rfl)(j:∀a b c e g l,d a b c=d e g l->a=e/\b=g/\c=l:=by simp+contextual only[ij]):fW F (d a b c) Lw K=(m a b c/\∀r,n a b c r->Lw r/\K r):=by subst p;apply propext;constructor;rintro⟨e,g,l,h,o⟩;obtain⟨rfl,rfl,rfl⟩:=j _ _ _ _ _ _ h;exact o;intro h;exact⟨_,_,_,rfl,h⟩
theorem By{A B C:Type}{d:A->B->C->List AV}{l:A->B->C->Prop}{m:A->B->C->bd}(k:∀a b c,l a b c->Ct i (d a b c) (m a b c))(e:∀a b c,(d a b c).all iX=U:=by intros;exact rfl):∀ys K,vn k ys K->jz aS GG i ys K:=by rintro ys K ⟨a,b,c,rfl,g,h⟩;exact nX (k a b c g) (e a b c) (λr j=>h r j)
def ER{A B C D:Type}{e:A->B->C->D->List AV}{g:A->B->C->D->Prop}{h:A->B->C->D->bd}(k:∀a b c d,g a b c d->Ct i (e a b c d) (h a b c d)):FT:=λys K=>∃a b c d,ys=e a b c d/\g a b c d/\∀r,h a b c d r->K r
theorem axQ{A B C D:Type}{e:A->B->C->D->List AV}{o:A->B->C->D->Prop}{p:A->B->C->D->bd}(k:∀a b c d,o a b c d->Ct i (e a b c d) (p a b c d))(a:A)(b:B)(c:C)(d:D)(Lw K:bd)(s:F=ER k:=by exact rfl)(j:∀a b c d g l m n,e a b c d=e g l m n->a=g/\b=l/\c=m/\d=n:=by simp+contextual only[ij]):fW F (e a b c d) Lw K=(o a b c d/\∀r,p a b c d r->Lw r/\K r):=by subst s;apply propext;constructor;rintro⟨g,l,m,n,h,q⟩;obtain⟨rfl,rfl,rfl,rfl⟩:=j _ _ _ _ _ _ _ _ h;exact q;intro h;exact⟨_,_,_,_,rfl,h⟩
theorem aM6{A B C D:Type}{e:A->B->C->D->List AV}{m:A->B->C->D->Prop}{n:A->B->C->D->bd}(k:∀a b c d,m a b c d->Ct i (e a b c d) (n a b c d))(g:∀a b c d,(e a b c d).all iX=U:=by intros;exact rfl):∀ys K,ER k ys K->jz aS GG i ys K:=by rintro ys K ⟨a,b,c,d,rfl,j,h⟩;exact nX (k a b c d j) (g a b c d) (λr l=>h r l)
def zb{A B C D E:Type}{g:A->B->C->D->E->List AV}{h:A->B->C->D->E->Prop}{v:A->B->C->D->E->AV}(k:∀a b c d e,h a b c d e->Ct i (g a b c d e) (·=v a b c d e)):FT:=λys K=>∃a b c d e,ys=g a b c d e/\h a b c d e/\K (v a b c d e)
theorem KQ{A B C D E:Type}{g:A->B->C->D->E->List AV}{q:A->B->C->D->E->Prop}{v:A->B->C->D->E->AV}(k:∀a b c d e,q a b c d e->Ct i (g a b c d e) (·=v a b c d e))(a:A)(b:B)(c:C)(d:D)(e:E)(Lw K:bd)(s:F=zb k:=by exact rfl)(j:∀a b c d e l m n o p,g a b c d e=g l m n o p->a=l/\b=m/\c=n/\d=o/\e=p:=by simp+contextual only[ij]):fW F (g a b c d e) Lw K=(q a b c d e/\Lw (v a b c d e)/\K (v a b c d e)):=by subst s;apply propext;constructor;rintro⟨l,m,n,o,p,h,r⟩;obtain⟨rfl,rfl,rfl,rfl,rfl⟩:=j _ _ _ _ _ _ _ _ _ _ h;exact r;intro h;exact⟨_,_,_,_,_,rfl,h⟩
theorem Rt{A B C D E:Type}{g:A->B->C->D->E->List AV}{n:A->B->C->D->E->Prop}{v:A->B->C->D->E->AV}(k:∀a b c d e,n a b c d e->Ct i (g a b c d e) (·=v a b c d e))(j:∀a b c d e,(g a b c d e).all iX=U:=by intros;exact rfl):∀ys K,zb k ys K->jz aS GG i ys K:=by rintro ys K ⟨a,b,c,d,e,rfl,l,h⟩;exact nX (k a b c d e l) (j a b c d e) (λr m=>by rw[m];exact h)
def BL{A B C D E G:Type}{h:A->B->C->D->E->G->List AV}{j:A->B->C->D->E->G->Prop}{l:A->B->C->D->E->G->bd}(k:∀a b c d e g,j a b c d e g->Ct i (h a b c d e g) (l a b c d e g)):FT:=λys K=>∃a b c d e g,ys=h a b c d e g/\j a b c d e g/\∀r,l a b c d e g r->K r
theorem al4{A B C D E G:Type}{l:A->B->C->D->E->G->List AV}{t:A->B->C->D->E->G->Prop}{u:A->B->C->D->E->G->bd}(k:∀a b c d e g,t a b c d e g->Ct i (l a b c d e g) (u a b c d e g))(a:A)(b:B)(c:C)(d:D)(e:E)(g:G)(Lw K:bd)(w:F=BL k:=by exact rfl)(j:∀a b c d e g m n o p q s,l a b c d e g=l m n o p q s->a=m/\b=n/\c=o/\d=p/\e=q/\g=s:=by simp+contextual only[ij]):fW F (l a b c d e g) Lw K=(t a b c d e g/\∀r,u a b c d e g r->Lw r/\K r):=by subst w;apply propext;constructor;rintro⟨m,n,o,p,q,s,h,v⟩;obtain⟨rfl,rfl,rfl,rfl,rfl,rfl⟩:=j _ _ _ _ _ _ _ _ _ _ _ _ h;exact v;intro h;exact⟨_,_,_,_,_,_,rfl,h⟩
theorem apO{A B C D E G:Type}{j:A->B->C->D->E->G->List AV}{o:A->B->C->D->E->G->Prop}{p:A->B->C->D->E->G->bd}(k:∀a b c d e g,o a b c d e g->Ct i (j a b c d e g) (p a b c d e g))(l:∀a b c d e g,(j a b c d e g).all iX=U:=by intros;exact rfl):∀ys K,BL k ys K->jz aS GG i ys K:=by rintro ys K ⟨a,b,c,d,e,g,rfl,m,h⟩;exact nX (k a b c d e g m) (l a b c d e g) (λr n=>h r n)
end
def atS:=bi 10 [(3,([5],[0,1]))]
def aca s0 a0 a1 R(b:cG)(m1:fD) vs1:=∀_:Rg,aJ s0 a0 λc=>aU (gt vs1 0) c λt3=>ah t3 (ao 1 s0 a0 (gt vs1 0) λt4=>aM s0 t4 λd=>al d a1 λe=>ah e (aE R s0 [(bv U)]) (aV (gt vs1 0) (iv 1) λa=>b [a]/\m1 [a]<m1 vs1)) (aE R s0 [(bv I)])
def IB a0 a1 s0 R:=lR [(iv 0)] (aca s0 a0 a1 R)
theorem aLl{a:AV}{a1:AV}{R:bd}(h:H0 λs0=>IB a a1 s0 R):Ct Mi [a,a1] R:=z0 atS wO Tryz.func113 h
def at1:=bi 2 []
def ac8 a0 a1 s0 R:=aO .geq a0 (iv 0) λt1=>bB t1 a0 λt3=>bB t1 a1 λa=>az t1 (aU t3 a) λb=>aD t1 b (bv I) λc=>aE R s0 [c]
theorem aLu{a:AV}{a1:AV}{R:bd}(h:H0 λs0=>ac8 a a1 s0 R):Ct Mp [a,a1] R:=z0 at1 wO Tryz.func111 h
def at7:=bi 2 []
def adQ a0 a1 s0 R:=aO .geq a0 (iv 0) λt1=>bB t1 a0 λt3=>bB t1 a1 λa=>az t1 (aU t3 a) λb=>aD t1 b (bv I) λc=>aE R s0 [c]
theorem aLA{a:AV}{a1:AV}{R:bd}(h:H0 λs0=>adQ a a1 s0 R):Ct Mu [a,a1] R:=z0 at7 wO Tryz.func55 h
def aug:=bi 2 []
def aeg a0 a1 s0 R:=aO .geq a0 (iv 0) λt1=>bB t1 a0 λt3=>bB t1 a1 λa=>az t1 (aU t3 a) λb=>aD t1 b (bv I) λc=>aE R s0 [c]
theorem aLJ{a:AV}{a1:AV}{R:bd}(h:H0 λs0=>aeg a a1 s0 R):Ct MD [a,a1] R:=z0 aug wO Tryz.func53 h
def atY:=bi 10 [(3,([5],[2,3]))]
def acU s4 w_1 R s_3(F:cG)(e:fD) vs5:=∀_:Rg,ag 2 s4 w_1 λG=>aJ s4 G λH=>aU (gt vs5 0) H λK=>ah K (ag 2 s4 w_1 λf=>ao 2 s4 f (gt vs5 0) λg=>ag 1 s4 g λh=>aU h (iv 0) λa=>bn a 2 s4 w_1 λi=>bG a (gt vs5 0) λj=>aC a (ao 2 s4 i j) λk=>bn a 1 s4 k λl=>bn a 1 s4 w_1 λm=>aC a (aJ s4 m) λn=>aC a (aO .geq l n) λo=>aD a (bv U) o λp=>ah p (aE R s4 [(bv I)]) (aV (gt vs5 0) (iv 1) λd=>F [d]/\e [d]<e vs5)) (ag 0 s4 s_3 λq=>aJ s4 q λr=>ag 1 s4 w_1 λs=>aJ s4 s λt=>al r t λb=>aT b 2 s4 s_3 λu=>az b (aJ s4 u) λv=>aT b 3 s4 w_1 λw=>az b (aJ s4 w) λx=>az b (al v x) λy=>aD b y (bv I) λc=>aT c 3 s4 s_3 λz=>az c (aJ s4 z) λA=>aT c 4 s4 w_1 λB=>az c (aJ s4 B) λC=>az c (al A C) λD=>aD c D (bv I) λE=>aE R s4 [E])
def IG w_1 s_3 s4 R:=lR [(iv 0)] (acU s4 w_1 R s_3)
theorem aLr{b:List AV}{c:List AV}{R:bd}(l0:L b=6)(l1:L c=4)(h:H2 28 6 2 b 33 4 3 c λd e f=>IG d e f R):Ct Mn [.a b, .a c] R:=z2 atY wO Tryz.func52 l0 l1 h
def dh(i n:Int):Bool:=Q (0<=i)&&Q (i<n)
theorem DR{i:Int}{n:Nat}:(dh i n=U->aF n i)=True:=by simp[dh,aF]
theorem dX{i:Int}{n:Nat}:dh i n=U↔aF n i:=by simp[dh,aF]
theorem OR(i n:Int):Ct Mp [iv i,iv n] (·=bv (dh i n)):=by refine aLu λs0 b a=>?_;simp+contextual only[ac8,u0,u1,dh,↓uL]
def su:FT:=lI OR
def ayO{i n Lw K}:=nq su OR i n Lw K
theorem OW(i n:Int):Ct Mu [iv i,iv n] (·=bv (dh i n)):=by refine aLA λs0 b a=>?_;simp+contextual only[adQ,u0,u1,dh,↓uL]
def Ce:FT:=lI OW
def ayT{i n Lw K}:=nq Ce OW i n Lw K
theorem Pd(i n:Int):Ct MD [iv i,iv n] (·=bv (dh i n)):=by refine aLJ λs0 b a=>?_;simp+contextual only[aeg,u0,u1,dh,↓uL]
def Ch:FT:=lI Pd
def ay2{i n Lw K}:=nq Ch Pd i n Lw K
theorem OK(l:List Int)(n:Int)(f:L l<4611686018427387904):Ct Mi [sl ci l,iv n] (·=bv (Q (n∈l))):=by refine aLl λs0 _ g=>?_;simp only[IB,aI,↓uL];refine il (L l) (λk=>∀j,j<k->gd l j≠n) (by simp) λk i b=>?_;simp+contextual only[aca,IB,u0,u1,ix,rk,bh,↓uL];refine⟨λh=>⟨bA h,λa=>?_,λa=>gS (aL h) f (jf b (by simpa using a))⟩,λh=>?_⟩;have:n∈l:=(by rw[<-of_decide_eq_true a];exact dB (aL h));simp[this];have e:n∉l:=λd=>(by have:=(px (p:=λx=>x≠n)).1 (λj c=>b j (gh c (bw h))) n d;exact this rfl);simp[e]
def vr:FT:=gz OK
def ayH{l n Lw K}:=gX vr OK l n Lw K
def lh(w:br)(s:aW):Bool:=Q (∀c∈w.bC,0<=c.eg/\c.eg<L w.ak)&&(Q (L s.ak=L w.ak)&&(Q (L s.done=L w.bU)&&Q (L s.ay=L w.ay)))
theorem OP(w:br)(s:aW)(l:L w.bC<4611686018427387904):Ct Mn [.a w.c, .a s.c] (·=bv (lh w s)):=by refine aLr rfl rfl λq o f g m=>?_;simp only[IG,aI,↓uL];refine il (L w.bC) (λk=>∀j,j<k->0<=(gd w.bC j).eg/\(gd w.bC j).eg<L w.ak) (by simp) λk n e=>?_;simp+contextual only[acU,IG,u0,u1,ix,f,g,Nat.zero_add,rk,bh,↓uL];refine⟨λh=>⟨bA h,λ_=>bA h,λb=>?_,λb=>gS (aL h) l (jf e (by simp at b;exact b))⟩,λh=>?_⟩;have:¬(∀c∈w.bC,0<=c.eg/\c.eg<L w.ak):=λd=>(by have:=d _ (dB (aL h));simp at b;omega);simp[lh,this];have d:=(px (p:=λc:el=>0<=c.eg/\c.eg<L w.ak)).1 (λj i=>e j (gh i (bw h)));simp only[lh,decide_eq_true d,Bool.true_and,Int.ofNat_inj]
def BZ:FT:=gz OP
def ayM{w s Lw K}:=gX BZ OP w s Lw K
def aoS:dO:=(Mp,su)::(Mu,Ce)::(MD,Ch)::(Mi,vr)::(Mn,BZ)::[]
theorem Br:eJ aoS:=bI (nI OR) (bI (nI OW) (bI (nI Pd) (bI (hQ OK) (bI (hQ OP) (wO)))))
def z8:=ai @ayO<|ai @ayT<|ai @ay2<|ai @ayH<|@ayM
abbrev fB:List AV:=[(iv 0)]
abbrev bH:List AV:=[(iv 0)]
def at3:=bi 34 [(3,([8],[2,3,7])),(11,([18],[2,3,7])),(14,([26],[2,3,7])),(17,([43],[2,3,7])),(22,([61],[2,3,7])),(27,([71],[2,3,7])),(30,([79],[2,3]))]
def adh s2 w_1 a2 R vs69:=∀_:Rg,ah (gt vs69 0) (ag 3 s2 w_1 λa=>aJ s2 a λb=>fV su s2 [a2,b] λc=>aE R s2 [c]) (aE R s2 [(bv I)])
def ado a1(a:cG):=al a1 (iv 22) λb=>ah b (a [b]) (al a1 (iv 23) λc=>a [c])
def adf s2 w_1 a2 R a1 vs64:=∀_:Rg,ah (gt vs64 0) (ag 4 s2 w_1 λa=>aJ s2 a λb=>fV su s2 [a2,b] λc=>aE R s2 [c]) (jR 30 (adh s2 w_1 a2 R) (ado a1))
def adm a1(a:cG):=al a1 (iv 20) λb=>ah b (a [b]) (al a1 (iv 21) λc=>a [c])
def ade s2 w_1 a2 R a1 vs59:=∀_:Rg,ah (gt vs59 0) (ag 2 s2 w_1 λa=>aJ s2 a λb=>fV su s2 [a2,b] λc=>aE R s2 [c]) (jR 27 (adf s2 w_1 a2 R a1) (adm a1))
def adl a1(a:cG):=al a1 (iv 16) λb=>ah b (a [b]) (al a1 (iv 17) λc=>ah c (a [c]) (al a1 (iv 18) λd=>ah d (a [d]) (al a1 (iv 19) λe=>a [e])))
def adc s2 w_1 a2 R a1 vs36:=∀_:Rg,ah (gt vs36 0) (ag 1 s2 w_1 λb=>aJ s2 b λc=>fV su s2 [a2,c] λa=>aT a 1 s2 w_1 λd=>bB a a2 λe=>az a (ao 2 s2 d e) λf=>aT a 1 s2 f λg=>aD a g (bv I) λh=>aE R s2 [h]) (jR 22 (ade s2 w_1 a2 R a1) (adl a1))
def adk a1(a:cG):=al a1 (iv 8) λb=>ah b (a [b]) (al a1 (iv 9) λc=>ah c (a [c]) (al a1 (iv 10) λd=>ah d (a [d]) (al a1 (iv 11) λe=>a [e])))
def adb s2 w_1 a2 R a1 vs10:=∀_:Rg,ah (gt vs10 0) (ag 1 s2 w_1 λb=>aJ s2 b λc=>fV su s2 [a2,c] λa=>aT a 1 s2 w_1 λd=>bB a a2 λe=>az a (ao 2 s2 d e) λf=>aT a 1 s2 f λg=>az a (cf g) λh=>aD a h (bv I) λi=>aE R s2 [i]) (jR 17 (adc s2 w_1 a2 R a1) (adk a1))
def adj a1(a:cG):=al a1 (iv 6) λb=>ah b (a [b]) (al a1 (iv 7) λc=>a [c])
def ada s2 w_1 a2 R a1 vs5:=∀_:Rg,ah (gt vs5 0) (ag 0 s2 w_1 λa=>aJ s2 a λb=>fV su s2 [a2,b] λc=>aE R s2 [c]) (jR 14 (adb s2 w_1 a2 R a1) (adj a1))
def adi a1(b:cG):=al a1 (iv 3) λa=>ah a (b [a]) (al a1 (iv 4) λc=>b [c])
def adg a2 R s2 w_1 a1 vs3:=∀_:Rg,ah (gt vs3 0) (al a2 (iv (-1)) λt4=>aE R s2 [t4]) (jR 11 (ada s2 w_1 a2 R a1) (adi a1))
def adn a1(a:cG):=al a1 (iv 1) λb=>ah b (a [b]) (al a1 (iv 2) λc=>ah c (a [c]) (al a1 (iv 5) λd=>ah d (a [d]) (al a1 (iv 12) λe=>ah e (a [e]) (al a1 (iv 13) λf=>ah f (a [f]) (al a1 (iv 14) λg=>ah g (a [g]) (al a1 (iv 15) λh=>a [h]))))))
def ac9 w_1 a1 a2 s2 R:=jR 3 (adg a2 R s2 w_1 a1) (adn a1)
theorem aLv{b:List AV}{a1:AV}{c:AV}{R:bd}(l0:L b=6)(h:H1 28 6 3 b λd e=>ac9 d a1 c e R):Ct Mq [.a b,a1,c] R:=z1 at3 Br Tryz.func112 l0 h
def at5:=bi 2 []
def ads w_1 s_3 s4 R:=aw 6 s4 w_1 λt=>aB 0 s4 s_3 λu=>aw 4 s4 u λv=>fV BZ s4 [t,v] λc=>aT c 4 s4 s_3 λd=>az c (aJ s4 d) λe=>aT c 0 s4 w_1 λf=>az c (aJ s4 f) λg=>az c (al e g) λh=>aD c h (bv I) λa=>aT a 5 s4 s_3 λi=>az a (aJ s4 i) λj=>aT a 3 s4 w_1 λk=>az a (aJ s4 k) λl=>az a (al j l) λm=>aD a m (bv I) λb=>aT b 6 s4 s_3 λn=>az b (aJ s4 n) λo=>aT b 4 s4 w_1 λp=>az b (aJ s4 p) λq=>az b (al o q) λr=>aD b r (bv I) λs=>aE R s4 [s]
theorem aLx{b:List AV}{c:List AV}{R:bd}(l0:L b=6)(l1:L c=7)(h:H2 28 6 2 b 37 7 3 c λd e f=>ads d e f R):Ct Ms [.a b, .a c] R:=z2 at5 Br Tryz.func16 l0 l1 h
def at0:=bi 10 [(4,([5,6],[1,2])),(7,([5],[1,2,6]))]
def ac5 vs3(c:aG)(b:bu) s4 vs9 s10:=∀_:Rg,aV (gt vs3 1) (iv 1) λa=>c [(gt vs9 0),a] s10/\b [(gt vs9 0),a] s10<b vs3 s4
def ac6 s4 s_1 vs3 a1(b:aG):=ag 3 s4 s_1 λe=>ao 3 s4 e (gt vs3 1) λf=>ag 0 s4 f λg=>al g (iv 3) λa=>aT a 3 s4 s_1 λh=>bB a (gt vs3 1) λi=>az a (ao 3 s4 h i) λj=>aT a 1 s4 j λk=>bB a a1 λl=>az a (al k l) λm=>aD a m (bv I) λn=>ah n (eV (aX bH 1 s4 [(0,(gt vs3 1))]) λo c=>eV (bS 3 fB 8 c 34 (gt vs3 0) o) λp d=>b [p] d) (b [(gt vs3 0)] s4)
def ac7 s_1 a1 R I3 m3 vs3 s4:=∀_:Rg,ag 3 s4 s_1 λa=>aJ s4 a λb=>aU (gt vs3 1) b λc=>ah c (jV 7 (ac5 vs3 I3 m3 s4) (ac6 s4 s_1 vs3 a1)) (aE R s4 [(gt vs3 0)])
def II s_1 a1 s2 R:=lV [(.l [] U U),(iv 0)] s2 (ac7 s_1 a1 R)
theorem aLt{b:List AV}{a1:AV}{R:bd}(l0:L b=4)(h:H1 33 4 2 b λc d=>II c a1 d R):Ct Mo [.a b,a1] R:=z1 at0 Br Tryz.func114 l0 h
def at4:=bi 10 [(4,([5,6],[0,1])),(7,([5],[0,1,6]))]
def adp vs1(b:aG)(m1:bu) s2 vs5 s6:=∀_:Rg,aV (gt vs1 1) (iv 1) λa=>b [(gt vs5 0),a] s6/\m1 [(gt vs5 0),a] s6<m1 vs1 s2
def adq s2 a0 vs1 a1(a:aG):=ao 1 s2 a0 (gt vs1 1) λi=>aM s2 i λj=>aO .neq j a1 λd=>ah d (ao 1 s2 a0 (gt vs1 1) λe=>aM s2 e λf=>eV (aX bH 1 s2 [(0,f)]) λg b=>eV (bS 3 fB 8 b 25 (gt vs1 0) g) λh c=>a [h] c) (a [(gt vs1 0)] s2)
def adr a0 a1 R I1 m1 vs1 s2:=∀_:Rg,aJ s2 a0 λt3=>aU (gt vs1 1) t3 λt4=>ah t4 (jV 7 (adp vs1 I1 m1 s2) (adq s2 a0 vs1 a1)) (aE R s2 [(gt vs1 0)])
def IJ a0 a1 s0 R:=lV [(.l [] U U),(iv 0)] s0 (adr a0 a1 R)
theorem aLw{a:AV}{a1:AV}{R:bd}(h:H0 λs0=>IJ a a1 s0 R):Ct Mr [a,a1] R:=z0 at4 Br Tryz.func117 h
end Go.Ab
