/- Part of the proof of EncodeAny, made short by a program: CM LN CN LO CO LP CP LPA. -/
import Derived.Test.YtokoambdbclaaaaGreatDoorN
set_option linter.all false
set_option maxRecDepth 100000
open And renaming intro->ai
open Bool renaming and_eq_true->bN,false->I,true->U
open Decidable renaming decide->Q
open Go.IntKind renaming i64->dq
open Go.Proofs.Tryz renaming f162->arD,prog->aS
open Int renaming toNat_natCast->bh
open List renaming append_assoc->cC,append_nil->cL,drop_eq_getElem_cons->Cw,drop_zero->ip,filter_append->me,length->L,length_append->bq,length_cons->bZ,length_filter_le->fZ,length_map->bJ,length_nil->bO,length_take->gC,map_append->dg,mem_append->dF,mem_cons->eW,mem_map->dN,mem_singleton->cE,nil_append->dW,range->aH,replicate->er,take_length->gV,take_of_length_le->oB,take_succ_eq_append_getElem->iJ
open Nat renaming le_antisymm->bP,le_of_lt->GR,le_refl->dA,le_trans->gl,min_eq_left->rD,reduceAdd->dc,sub_self->tM,zero_add->aj
open Option renaming bind_some->ek,none->J,some->V
namespace Go.Ab
open Go Go.RowKit Go.Proofs
def qC(w:am)(g:cJ):Bool:=
 bif Q (g.kind=2) then qx w g
 else(dh g.ea (L w.ac)&&(dh g.eb (L w.ac)&&(dh g.ec (L w.ac)&&dh g.ed (L w.ac))))&&
  (bif Q (g.kind=1) then Ek w g else bif Q (g.kind=3) then wz w g else bif Q (g.kind=4) then tZ w g else I)
theorem Pj(w:am)(g:cJ)(k:kB w/\L g.cW<4611686018427387904):Ct MJ [.a w.c, .a g.c] (·=bv (qC w g)):=by refine aLP rfl rfl λs r l m q=>?_;have o:=k.1;have p:=k.2;simp+contextual only[aev,u0,u1,K8,ar,ix,rk,l,m,aj,dc,o,p,true_and,and_self,qC,cond_true,cond_false,↓uL];refine⟨λ_=>trivial,λ_=>⟨λh=>?_,λh=>?_⟩⟩;congr 1;(cases e:dh g.ea (L w.ac)<;>cases f:dh g.eb (L w.ac)<;>cases i:dh g.ec (L w.ac)<;>cases j:dh g.ed (L w.ac)<;>first|rfl|(rw[e,f,i,j] at h;cases h));simp only[Bool.or_eq_false_iff,Bool.not_eq_false'] at h;obtain⟨⟨⟨e,f⟩,i⟩,j⟩:=h;simp[e,f,i,j,dX.1 e,dX.1 f,dX.1 i,dX.1 j]
def FO:FT:=gz Pj
def ay8{w g Lw K}:=gX FO Pj w g Lw K
theorem ck{a b:AV}{l:List AV}:gt (a::b::l) 1=b:=rfl
theorem nr{a b c:AV}{l:List AV}:gt (a::b::c::l) 2=c:=rfl
abbrev sB:Nat:=8
structure cm(Y:ae)(b:Id)(w:am)(ns:List ap)(out:List (List Int))(n a:AV):Prop where
 bx:box Y b=V ⟨123,17,U,U,[w.c++[n,a]]⟩
 nm:∃t o,n= .l (ns.map ap.c) t o
 gr:bc Y 35 1 a (out.map λc=>[sl ci c])
 le:L Y=4096
 sb:b.1=sB
 sa:∀k∈aA a,k.1=11
theorem cm.ne{Y:ae}{b:Id}{w:am}{ns:List ap}{out:List (List Int)}{n a:AV}(B:cm Y b w ns out n a):b∉aA a:=by rcases B.gr with⟨_,rfl⟩|⟨c,rfl,h⟩;simp[aA];simp only[aA,cE];intro e;subst e;have:=B.bx;rw[h] at this;cases this
theorem cm.fx{Y e:ae}{b:Id}{w:am}{ns:List ap}{out:List (List Int)}{n a:AV}{ks:List Id}(B:cm Y b w ns out n a)(c:Fx Y e ks)(f:b∉ks)(g:∀k∈aA a,k∉ks):cm e b w ns out n a:=⟨c.keep _ _ f B.bx,B.nm,B.gr.fx c g,c.len.trans B.le,B.sb,B.sa⟩
theorem cm.kp{Y c:ae}{b:Id}{w:am}{ns:List ap}{out:List (List Int)}{n a:AV}(B:cm Y b w ns out n a)(e:Fx Y c []):cm c b w ns out n a:=B.fx e (by simp) (by simp)
def dP(ns:List ap)(x:ap):Int:=if x∈ns then(ns.idxOf x:Int)+1 else 0
theorem aDb{ns:List ap}{x:ap}{k:Nat}(c:k<L ns)(h:∀j,j<k->gd ns j≠x)(e:gd ns k=x):dP ns x=(k:Int)+1:=by have g:x∈ns:=e▸dB c;have:ns.idxOf x=k:=(by rw[List.idxOf,List.findIdx_eq c];refine⟨by rw[<-bT c,e];simp,λj f=>?_⟩;have:=h j f;rw[bT (by omega)] at this;simpa using this);rw[dP,if_pos g,this]
theorem aDd{ns:List ap}{x:ap}(h:∀j,j<L ns->gd ns j≠x):dP ns x=0:=by rw[dP,if_neg λc=>(px (p:=λy=>y≠x)).1 h x c rfl]
theorem lT{fn:Nat}{xs:List AV}{Y:ae}{d:Nat}{K:be}{v:Value}(i:uQ.elem fn=U)(h:∃r c,(r= .s v/\Fx Y c [])/\cZ aS GG fn xs Y r c)(g:K (.s v) Y):cB fn xs Y d K:=by obtain⟨r,c,⟨rfl,e⟩,f⟩:=h;refine⟨_,c,f,e.len,?_⟩;rw[if_pos (show GG.rd fn=U from i)];exact⟨e.kp,rfl,g⟩
theorem xC{fn:Nat}{xs:List AV}{Y:ae}{d z:Nat}{e:TypeId}{rows:List (List AV)}{K:be}(u:uQ.elem fn=U)(h:∃r f,(bc f e z r rows/\Fx Y f []/\∀b∈aA r,bK Y b)/\cZ aS GG fn xs Y r f)(k:∀t,K (.l rows t U) Y):cB fn xs Y d K:=by obtain⟨r,f,⟨g,i,s⟩,q⟩:=h;refine⟨_,f,q,i.len,?_⟩;rw[if_pos (show GG.rd fn=U from u)];rcases g with⟨rfl,rfl⟩|⟨b,rfl,j⟩;exact⟨i.kp,rfl,k U⟩;have o:eR f (.m b (L rows))= .l rows I U:=(by simp[eR,gi,j]);rw[o];refine⟨?_,rfl,k I⟩;have p:kills f (eB (.m b (L rows)))=kill f b:=(by simp[kills,eB,iR,j]);rw[p];exact((i.trans (Le j)).mono (ks':=[]) (by simp only[dW,cE];rintro c rfl;exact .inr (s c (by simp[aA])).no)).kp
section
variable{Y:ae}{b:Id}{w:am}{ns:List ap}{out:List (List Int)}{n a:AV}{d:Nat}{K:be}
theorem lX{i:Int}{K:bd}{t o:Bool}:rV (cz 3 Y (.l (ns.map ap.c) t o) (iv i)) K=(aF (L ns) i/\K (.q (ap.c (gd ns i.toNat)))):=ka (Y:=Y) (f:=ap.c) λ_=>rfl
theorem dy{b:Id}{i j:Nat}{x:bY}(h:box Y b=V x):cO Y (.p b i j)=V (.p b i j):=by simp[cO,h]
theorem aCy(B:cm Y b w ns out n a)(R:L ns<100000)(kd x y:Int):∃r i,(r=iv (dP ns ⟨kd,x,y⟩)/\Fx Y i [])/\cZ aS GG kI [.p b 0 0,iv kd,iv x,iv y] Y r i:=by refine aMo B.le ?_;have l:=B.bx;obtain⟨t,o,rfl⟩:=B.nm;simp only[Jt,dy l,u0,u1,l,kn,aj,gT,↓uL];refine yV (L ns) (λk _ E=>Fx Y E []/\∀j,j<k->gd ns j≠⟨kd,x,y⟩) ⟨Fx.refl _ _,by simp⟩ ?_;rintro k _ i P ⟨g,m⟩;have z:L i=4096:=g.len.trans B.le;simp+contextual only[ag7,au,aI,u0,u1,lX,rk,bh,↓uL];refine⟨λh=>⟨bA h,?_⟩,λh=>?_⟩;refine cV z λv O A D G=>?_;refine cy (cs:=ap.c (gd ns k)) G rfl rfl (by decide) λs C H=>?_;have u:box s _=V ⟨66,3,U,U,[ap.c (gd ns k)]⟩:=H;have F:Fx Y s []:=((g.trans A).trans C).mono (by simp only[dW,cE];rintro e rfl;exact .inr (D.old g).no);simp+contextual only[ag6,u0,u1,u,rk,aj,au,bz,ew,↓uL];refine⟨λf=>⟨?_,F⟩,λf=>yU (aL h) ⟨F,jf m ?_⟩⟩;have q:gd ns k=⟨kd,x,y⟩:=(by simp only[bN,decide_eq_true_eq] at f;(cases M:gd ns k);rw[M] at f;simp only at f;simp[f.1,f.2.1,f.2.2]);rw[aDb (aL h) m q,fX (by have:=aL h;omega)];rfl;intro q;rw[q] at f;simp at f;rw[aDd λj N=>m j (Nat.lt_of_lt_of_le N (bw h))];exact⟨rfl,g⟩
theorem nc(B:cm Y b w ns out n a)(e:L ns<100000)(kd x y:Int)(c:K (iv (dP ns ⟨kd,x,y⟩)) Y):cB kI [.p b 0 0,iv kd,iv x,iv y] Y d K:=lT rfl (aCy B e kd x y) c
theorem aCo(B:cm Y b w ns out n a)(ho:L out<1000000000){x:AV}{c:List Int}(S:(∃t o,x= .l (c.map ci) t o)\/(bc Y 3 1 x (c.map ci)/\∀k∈aA x,k∉aA a)):∃r f,(∃q,r= .t []/\cm f b w ns (out++[c]) n q/\Fx Y f (b::(aA a++aA x))/\∀k∈aA q,k∈aA a\/bK Y k)/\cZ aS GG eP [.p b 0 0,x] Y r f:=by refine aMh B.le ?_;have m:=B.bx;simp only[Jl,dy m,u0,u1,m,kn,aj,↓uL];have s:∀f,Fx Y f (aA x)->(∀k∈aA a,k∉aA x)->b∉aA x->eV (bS 35 Rx 24 f 11 a (.l [[.l (c.map ci) I I]] U U)) (Jm (.p b 0 0) λr f=>∃q,r= .t []/\cm f b w ns (out++[c]) n q/\Fx Y f (b::(aA a++aA x))/\∀k∈aA q,k∈aA a\/bK Y k):=(by intro f j F H;have v:L f=4096:=j.len.trans B.le;refine gD (B.gr.fx j F) rfl (by decide) (by rw[v];decide) (by intro r u;obtain⟨Z,_,rfl⟩:=dN.1 u;rfl) (by intro r u;simp at u;subst u;rfl) (by simp;omega) λA T E y M hs=>?_;have D:=j.keep _ _ H m;have C:=y.keep _ _ B.ne D;simp only[Jm,dy C,u0,u1,C,aj,↓uL];refine cy (cs:=[A]) C (ms E) rfl (by simp[am.c]) λW z O=>?_;have G:b∉aA A:=(by intro R;rcases M b R with h|h;exact B.ne h;exact h.no _ D);refine⟨A,rfl,⟨O,B.nm,?_,z.len.trans (y.len.trans v),B.sb,λk i=>(hs k i).elim (B.sa k) id⟩,?_,λk i=>?_⟩;have:=E.fx z (by simp only[cE];rintro k i rfl;exact G i);rw[dg];exact this;refine((j.trans y).trans z).mono ?_;intro k i;simp only[dF,cE] at i;simp only[dF,eW];rcases i with(h|h)|h;exact .inl (.inr (.inr h));exact .inl (.inr (.inl h));exact .inl (.inl h);rcases M k i with h|h;exact .inl h;exact .inr (h.old j));rcases S with⟨t,o,rfl⟩|⟨g,P⟩;rw[show BC=[.l [] I I] from rfl,bsL];exact s Y (Fx.refl _ _) (by simp[aA]) (by simp[aA]);refine bsI g λf j=>s f j (λk i N=>P k N i) ?_;rcases g with⟨_,rfl⟩|⟨X,rfl,h⟩;simp[aA];simp only[aA,cE];intro e;subst e;rw[h] at m;cases m
theorem alC(B:cm Y b w ns out n a)(m:L out<1000000000){x:AV}(c:List Int)(q:(∃t o,x= .l (c.map ci) t o)\/(bc Y 3 1 x (c.map ci)/\∀k∈aA x,k∉aA a))(j:∀f e,cm e b w ns (out++[c]) n f->Fx Y e (b::(aA a++aA x))->(∀k∈aA f,k∈aA a\/bK Y k)->K (.t []) e):cB eP [.p b 0 0,x] Y d K:=by refine jH rfl (aCo B m q) ?_;rintro r e ⟨f,rfl,h,g,i⟩;exact⟨g.len,j f e h g i⟩
def aR(ns:List ap)(kd:Int):List ap:=ns.filter λx=>Q (x.kind=kd)
theorem Qg{ns:List ap}{kd:Int}{k:Nat}(h:k<L ns):aR (ns.take (k+1)) kd=aR (ns.take k) kd++(if(gd ns k).kind=kd then[gd ns k] else[]):=by rw[iJ h,aR,me,bT h];congr 1;by_cases c:(ns[k]).kind=kd<;>simp[c]
theorem uT{l:List ap}:∀r∈l.map ap.c,L r=3:=by intro r e;obtain⟨x,_,rfl⟩:=dN.1 e;rfl
theorem Db{x:ap}:aX mb 1 Y [(0, .a (ap.c x))]=V (.l ([x].map ap.c) U U,Y):=ua rfl rfl rfl (by decide) rfl (by decide)
theorem aCF(B:cm Y b w ns out n a)(hn:L ns<100000)(kd:Int):∃r e,(bc e 66 3 r ((aR ns kd).map ap.c)/\Fx Y e []/\∀b∈aA r,bK Y b)/\cZ aS GG uw [.p b 0 0,iv kd] Y r e:=by refine aMs B.le ?_;have y:=B.bx;obtain⟨t,o,rfl⟩:=B.nm;simp only[JE,dy y,u0,u1,y,kn,aj,gT,↓uL];refine jD (α:=AV) (λa i=>[a,iv i]) 1 (L ns) (λk r C=>bc C 66 3 r ((aR (ns.take k) kd).map ap.c)/\Fx Y C []/\∀b∈aA r,bK Y b) (s0:= .l [] U U) ⟨bc.nil,Fx.refl _ _,by simp[aA]⟩ ?_;rintro k r e g ⟨g1,q,f⟩;have G:L e=4096:=q.len.trans B.le;simp+contextual only[aiC,au,ck,aI,u0,u1,di,aiB,lX,rk,bh,↓uL];refine⟨λh=>⟨bA h,?_⟩,λh=>?_⟩;refine cV G λv W H O P=>?_;refine cy (cs:=ap.c (gd ns k)) P rfl rfl (by decide) λu M R=>?_;have D:box u _=V ⟨66,3,U,U,[ap.c (gd ns k)]⟩:=R;have j:Fx e u []:=H.tn M O.no;have F:Fx Y u []:=q.trans j;have E:=g1.fx j (by simp);have m:=Qg (kd:=kd) (aL h);simp+contextual only[aiA,u0,u1,D,rk,aj,au,ck,Db,↓uL];refine⟨λA=>?_,λA=>?_⟩;refine gD E rfl (by decide) (by rw[F.len,B.le];decide) uT uT (by have:=fZ (λx:ap=>Q (x.kind=kd)) (ns.take k);simp only[bJ,bZ,bO,aR] at*;simp only[gC] at this;omega) λZ X S N T _=>?_;simp only[JF,au,ck,aI,u0,u1,↓uL];refine dR (mk:=λa i=>[a,iv i]) (s:=r) (λ_ _=>rfl) (aL h) (by omega) ⟨?_,(F.trans N).mono (by simp only[dW];exactλk g=> .inr (f k g).no),λk g=>?_⟩;rw[m,if_pos (of_decide_eq_true A),dg];exact S;rcases T k g with z|z;exact f k z;exact z.old F;simp only[JF,au,ck,aI,u0,u1,↓uL];refine dR (mk:=λa i=>[a,iv i]) (s:=r) (λ_ _=>rfl) (aL h) (by omega) ⟨?_,F,f⟩;rw[m,if_neg (of_decide_eq_false A),cL];exact E;rw[oB (bw h)] at g1;exact⟨g1,q,f⟩
theorem De(B:cm Y b w ns out n a)(f:L ns<100000)(kd:Int)(e:∀t,K (.l ((aR ns kd).map ap.c) t U) Y):cB uw [.p b 0 0,iv kd] Y d K:=xC rfl (aCF B f kd) e
end
structure Ad(Y Y1:ae)(b:Id)(a a1:AV):Prop where
 fx:Fx Y Y1 (b::aA a)
 id:∀k∈aA a1,k∈aA a\/bK Y k
theorem Ad.refl(Y:ae)(b:Id)(a:AV):Ad Y Y b a a:=⟨Fx.refl _ _,λk c=> .inl c⟩
theorem Ad.trans{Y f g:ae}{b:Id}{a a1 i:AV}(h:Ad Y f b a a1)(j:Ad f g b a1 i):Ad Y g b a i:=by refine⟨(h.fx.trans j.fx).mono ?_,λk c=>?_⟩;intro k c;rcases dF.1 c with c|c;exact .inl c;rcases eW.1 c with rfl|c;exact .inl (by simp);rcases h.id k c with e|e;exact .inl (by simp[e]);exact .inr e.no;rcases j.id k c with e|e;exact h.id k e;exact .inr (e.old h.fx)
theorem Ad.fxn{Y c e:ae}{b:Id}{a a1:AV}(h:Ad Y c b a a1)(f:Fx c e []):Ad Y e b a a1:=⟨(h.fx.trans f).mono (by simp only[cL];exactλk g=> .inl g),h.id⟩
theorem Ad.pre{Y c e:ae}{b:Id}{a a1:AV}(f:Fx Y c [])(h:Ad c e b a a1):Ad Y e b a a1:=⟨f.trans h.fx,λk g=>(h.id k g).imp (λh=>h) (λh=>h.old f)⟩
theorem Ad.keep{Y e:ae}{b:Id}{a a1:AV}(h:Ad Y e b a a1){c:Id}{x:bY}(i:box Y c=V x)(f:c≠b)(g:c∉aA a):box e c=V x:=h.fx.keep c x (by simp[f,g]) i
theorem cm.nv{Y:ae}{b:Id}{w:am}{ns:List ap}{out:List (List Int)}{n a:AV}(B:cm Y b w ns out n a){c:Id}{x:bY}(g:box Y c=V x)(i:x.var=U\/x.elem≠35):c∉aA a:=by rcases B.gr with⟨_,rfl⟩|⟨j,rfl,h⟩;simp[aA];simp only[aA,cE];intro e;subst e;rw[h] at g;cases g;rcases i with f|f;(cases f);exact f rfl
section
variable{Y:ae}{b:Id}{w:am}{ns:List ap}{out:List (List Int)}{n a:AV}{d:Nat}{K:be}
theorem fQ(B:cm Y b w ns out n a)(k:L out<1000000000)(c:List Int){t o:Bool}(j:∀f e,cm e b w ns (out++[c]) n f->Ad Y e b a f->K (.t []) e):cB eP [.p b 0 0, .l (c.map ci) t o] Y d K:=alC B k c (.inl ⟨t,o,rfl⟩) λf e g h i=>j f e g ⟨by simpa[aA] using h,i⟩
theorem awM(B:cm Y b w ns out n a)(l:L out<1000000000){x:AV}(c:List Int)(i:bc Y 3 1 x (c.map ci))(j:∀g e,cm e b w ns (out++[c]) n g->Fx Y e (b::(aA a++aA x))->(∀k∈aA g,k∈aA a\/bK Y k)->K (.t []) e):cB eP [.p b 0 0,x] Y d K:=by refine alC B l c (.inr ⟨i,?_⟩) j;intro k f;rcases i with⟨_,rfl⟩|⟨m,rfl,h⟩;simp[aA] at f;simp only[aA,cE] at f;subst f;exact B.nv h (.inr (show(3:Nat)≠35 by decide))
theorem f7{x:Int}:aX bH 1 Y [(0,iv x)]=V (.l ([x].map ci) U U,Y):=iz
theorem fi{x y:Int}:aX bH 2 Y [(0,iv x),(1,iv y)]=V (.l ([x,y].map ci) U U,Y):=by simp[aX,gp,eY,nrm,gK,eR,gi,eB,iR,kills,kC,eN,er,bH];rfl
theorem xA{x y z:Int}:aX bH 3 Y [(0,iv x),(1,iv y),(2,iv z)]=V (.l ([x,y,z].map ci) U U,Y):=by simp[aX,gp,eY,nrm,gK,eR,gi,eB,iR,kills,kC,eN,er,bH];rfl
theorem vR{x y z u:Int}:aX bH 4 Y [(0,iv x),(1,iv y),(2,iv z),(3,iv u)]=V (.l ([x,y,z,u].map ci) U U,Y):=by simp[aX,gp,eY,nrm,gK,eR,gi,eB,iR,kills,kC,eN,er,bH];rfl
end
theorem aEn{x:Int}:cR .neg (iv x)=V (iv (dq.wrap (-x))):=by simp[cR]
theorem cr{α:Type}{f:Nat->List α}{k:Nat}:(aH (k+1)).flatMap f=(aH k).flatMap f++f k:=by rw[List.range_succ,List.flatMap_append];simp
theorem fU{α:Type}{f:Nat->List α}{k n:Nat}(h:k<=n):L ((aH k).flatMap f)<=L ((aH n).flatMap f):=by induction n with|zero=>rw[Nat.le_zero.1 h];exact dA _|succ n e=>rcases Nat.lt_or_ge n k with c|c;rw[show k=n+1 by omega];exact dA _;have:=e c;rw[cr,bq];omega
theorem alY{a b:AV}:eO 0 (.t [a,b])=V a:=rfl
theorem alZ{a b:AV}:eO 1 (.t [a,b])=V b:=rfl
structure bp where
 aq:Int
 dD:Int
 dY:Int
 read:Bool
 deriving Inhabited,DecidableEq
def bp.c(x:bp):List AV:=[iv x.aq,iv x.dD,iv x.dY,bv x.read]
def lK(w:br)(lock:Int)(e:aP):Int:=bif Q (lock=L w.ak) then(bif Q (e.kind=12) then lock else-1) else(dD w e).1
def mM(w:br)(lock:Int)(e:aP):Int:=bif Q (lock=L w.ak) then(bif Q (e.kind=13) then lock else-1) else(dY w e).1
def pK(s:aW)(lock:Int)(u j:Nat):List bp:=(((gd s.ak lock.toNat).bk.take j).filter λx:Int=>Q (x=(u:Int))).map λ_=>⟨u,-1,-1,U⟩
def pJ(s:aW)(lock:Int)(u:Nat):List bp:=if(gd s.ak lock.toNat).dv=u then[⟨u,-1,-1,I⟩] else[]
def ll(w:br)(s:aW)(lock:Int)(u:Nat):List bp:=
 if lock=L w.ak then(if s.tx=u then[⟨u,-1,-1,I⟩] else[]) else pJ s lock u++pK s lock u (L (gd s.ak lock.toNat).bk)
def ma(t i:Int)(x:bp):bp:=if x.aq=t/\x.dY<0 then{x with dY:=i} else x
def tv(w:br)(lock:Int)(e:aP)(i:Int)(l:List bp):List bp:=if mM w lock e=lock then l.map (ma e.aq i) else l
def oY(w:br)(lock:Int)(e:aP)(i:Int):List bp:=if lK w lock e=lock then[⟨e.aq,i,-1,(dD w e).2⟩] else[]
def dZ(w:br)(s:aW)(l:List aP)(lock:Int):Nat->List bp|0=>(aH (L s.ay)).flatMap (ll w s lock)|k+1=>tv w lock (gd l k) k (dZ w s l lock k)++oY w lock (gd l k) k
def jE(w:br)(s:aW)(l:List aP)(lock:Int):List bp:=dZ w s l lock (L l)
theorem nC{l:List bp}:∀r∈l.map bp.c,L r=4:=by intro r e;obtain⟨x,_,rfl⟩:=dN.1 e;rfl
theorem wL{Y:ae}{b:Id}{e:TypeId}{z i j:Nat}{rows:List (List AV)}{r:List AV}{v:Value}{K:ae->Prop}(f:box Y b=V ⟨e,z,U,I,rows⟩)(l:rows[i]?=V r)(k:j<L r)(h:∀c,Fx Y c [b]->box c b=V ⟨e,z,U,I,rows.set i (r.set j (.s v))⟩->K c):sV (aK 1 Y (.p b i j) (.s v)) K:=by have g:aK 1 Y (.p b i j) (.s v)=V (wr Y b ⟨e,z,U,I,rows.set i (r.set j (.s v))⟩):=(by simp only[aK,o9,f,Bool.false_eq_true,if_false,eB,iR,kills,List.foldl_nil,pW,eR,gi,nrm,gK,eY,l,bZ,bO];rw[if_pos ⟨trivial,by omega,λ_=>by simp[eN]⟩];congr 4;rw[List.set_eq_take_append_cons_drop,if_pos k];simp);rw[g];exact h _ (wc f) (lO f)
theorem ixI{Y:ae}{e:TypeId}{z:Nat}{a:AV}{rows:List (List AV)}{K:bd}{i:Int}(h:bc Y e z a rows)(c:aF (L rows) i)(j:∀b,a= .m b (L rows)->box Y b=V ⟨e,z,U,I,rows⟩->K (.p b i.toNat 0)):rV (cz z Y a (iv i)) K:=by rcases h with⟨rfl,rfl⟩|⟨b,rfl,f⟩;have:=c.1;have:=c.2;simp at this;omega;have g:i.toNat<L rows:=(by have:=c.1;have:=c.2;omega);simp only[cz,c.1,if_true,f,ek,g,and_self];exact j b rfl f
theorem aFh{Y:ae}{e:TypeId}{z:Nat}{a:AV}{rows:List (List AV)}{R:bd}(i:bc Y e z a rows)(h:∀t,R (.l rows t U)):aE R Y [a]:=by unfold aE jS;rcases i with⟨c,f⟩|⟨b,c,g⟩;subst c f;exact⟨rfl,h U⟩;subst c;simp only[iZ,dQ,g,if_true,gV];exact⟨rfl,h I⟩
theorem amA{s:aW}{lock:Int}{u j:Nat}(h:j<L (gd s.ak lock.toNat).bk):pK s lock u (j+1)=pK s lock u j++(if gd (gd s.ak lock.toNat).bk j=u then[⟨u,-1,-1,U⟩] else[]):=by unfold pK;rw[iJ h,me,dg,bT h];congr 1;by_cases c:(gd s.ak lock.toNat).bk[j]=(u:Int)<;>simp[c]
theorem Ln{s:aW}{lock:Int}{u j:Nat}:L (pK s lock u j)<=j:=by unfold pK;rw[bJ];exact gl (fZ _ _) (by simp;omega)
theorem amx{w:br}{s:aW}{lock:Int}{u:Nat}(h:lock≠L w.ak->L (gd s.ak lock.toNat).bk<=100):L (ll w s lock u)<=101:=by unfold ll;split;split<;>simp;rename_i c;have:=Ln (s:=s) (lock:=lock) (u:=u) (j:=L (gd s.ak lock.toNat).bk);have:=h c;unfold pJ;split<;>simp<;>omega
theorem eU{α:Type}{f:Nat->List α}{c:Nat}(h:∀k,L (f k)<=c):∀n,L ((aH n).flatMap f)<=n*c
 |0=>by simp
 |n+1=>by
  have e:=eU h n
  have g:=h n
  rw[cr,bq,Nat.add_mul]
  omega
theorem Q4{w:br}{s:aW}{l:List aP}{lock:Int}(h:lock≠L w.ak->L (gd s.ak lock.toNat).bk<=100):∀k,L (dZ w s l lock k)<=L s.ay*101+k
 |0=>eU (λu=>amx h) _
 |k+1=>by
  have:=Q4 (l:=l) h k
  rw[dZ,bq]
  have c:L (tv w lock (gd l k) k (dZ w s l lock k))=L (dZ w s l lock k):=by unfold tv;split<;>simp
  have e:L (oY w lock (gd l k) k)<=1:=by unfold oY;split<;>simp
  omega
theorem Da{Y:ae}{x:bp}:aX BB 1 Y [(0, .a (bp.c x))]=V (.l ([x].map bp.c) U U,Y):=ua rfl rfl rfl (by decide) rfl (by decide)
theorem Pw(w:br)(s:aW)(l:List aP)(lock:Int)(hp:L s.ay<=4/\L l<=16/\(lock≠L w.ak->aF (L s.ak) lock/\L (gd s.ak lock.toNat).bk<=100)):Ct MU [.a w.c, .a s.c,sl aP.c l,iv lock] (λr=>∃t,r= .l ((jE w s l lock).map bp.c) t U):=by obtain⟨ht,b9,a7⟩:=hp;have aK:lock≠L w.ak->L (gd s.ak lock.toNat).bk<=100:=λh=>(a7 h).2;refine aL1 rfl rfl λo hl b1 b2 h0=>?_;simp only[ae6,u0,u1,b2,rk,aj,cT,↓uL];have am:∀{x y z:Int} {r:Bool},bM rq [(0,1),(1,1),(2,1),(3,1)] [(0,iv x),(1,iv y),(2,iv z),(3,bv r)]=V (.a (bp.c ⟨x,y,z,r⟩)):=rfl;refine jD (α:=AV) (λa i=>[a,iv i]) 1 (L s.ay) (λk a f=>bc f 162 4 a (((aH k).flatMap (ll w s lock)).map bp.c)/\Fx o f []/\∀b∈aA a,bK o b) (s0:= .l [] U U) ⟨bc.nil,Fx.refl _ _,by simp[aA]⟩ ?_;rintro k a Y1 A ⟨g1,N,N1⟩;have a5:L Y1=4096:=N.len.trans hl;have c1:=N.kq b1;have c2:=N.kq b2;have lk:=eU (λu=>amx (w:=w) (s:=s) (lock:=lock) (u:=u) aK) k;simp+contextual only[afj,au,ck,aI,u0,u1,di,afg,c1,c2,rk,aj,cT,↓uL];refine⟨λh=>⟨λE=>?_,λE=>?_⟩,λh=>?_⟩;have P:lock=L w.ak:=of_decide_eq_true E;simp+contextual only[ae9,au,ck,u0,u1,c2,rk,aj,am,Da,↓uL];refine⟨λM=>?_,λM=>?_⟩;refine gD g1 rfl (by decide) (by rw[a5];decide) nC nC (by simp only[bJ,bZ,bO];omega) λg D R O hi _=>?_;simp only[IW,zG,au,ck,aI,u0,u1,↓uL];refine dR (mk:=λa i=>[a,iv i]) (s:=a) (λ_ _=>rfl) (aL h) (by omega) ⟨?_,(N.trans O).mono (by simp only[dW];exactλk A=> .inr (N1 k A).no),λk A=>(hi k A).elim (N1 k) (λh=>h.old N)⟩;rw[cr,ll,if_pos P,if_pos (of_decide_eq_true M),dg];exact R;simp only[IW,zG,au,ck,aI,u0,u1,↓uL];refine dR (mk:=λa i=>[a,iv i]) (s:=a) (λ_ _=>rfl) (aL h) (by omega) ⟨?_,N,N1⟩;rw[cr,ll,if_pos P,if_neg (of_decide_eq_false M),cL];exact g1;have P:lock≠L w.ak:=of_decide_eq_false E;have a0:=(a7 P).1;have a8:∀g D,bc D 162 4 g (((aH k).flatMap (ll w s lock)++pJ s lock k).map bp.c)->Fx o D []->(∀b∈aA g,bK o b)->IX (.p (5,1) 0 0) (iv lock) [a,iv k] (zG [a,iv k] (yI (λa i=>[a,iv i]) (L s.ay) λk a f=>bc f 162 4 a (((aH k).flatMap (ll w s lock)).map bp.c)/\Fx o f []/\∀b∈aA a,bK o b) (gM 1 (L s.ay)) Y1) [g] D:=(by intro g D R O N2;have d2:=O.kq b2;simp only[IX,au,ck,aI,u0,u1,d2,rk,ix,aj,cT,↓uL];refine⟨a0,?_⟩;have bQ:=aK P;refine jD (α:=AV) (λa i=>[a,iv i]) 1 (L (gd s.ak lock.toNat).bk) (λj a f=>bc f 162 4 a (((aH k).flatMap (ll w s lock)++pJ s lock k++pK s lock k j).map bp.c)/\Fx o f []/\∀b∈aA a,bK o b) (s0:=g) ⟨by simpa[pK] using R,O,N2⟩ ?_;rintro j a3 Y3 hj ⟨g3,F3,N3⟩;have bH:L Y3=4096:=F3.len.trans hl;have cb:=Ln (s:=s) (lock:=lock) (u:=k) (j:=j);have ca:L (pJ s lock k)<=1:=(by unfold pJ;split<;>simp);simp+contextual only[afh,au,ck,aI,u0,u1,di,afb,ix,rk,iF,am,Da,bh,↓uL];refine⟨λh3=>⟨bA h3,λM=>?_,λM=>?_⟩,λh3=>?_⟩;refine gD g3 rfl (by decide) (by rw[bH];decide) nC nC (by simp only[bJ,bZ,bO,bq];omega) λa4 Y4 g4 F4 hi _=>?_;simp only[IY,au,ck,aI,u0,u1,↓uL];refine dR (mk:=λa i=>[a,iv i]) (s:=a3) (λ_ _=>rfl) (aL h3) (by omega) ⟨?_,(F3.trans F4).mono (by simp only[dW];exactλk A=> .inr (N3 k A).no),λk A=>(hi k A).elim (N3 k) (λh=>h.old F3)⟩;rw[amA (aL h3),if_pos (of_decide_eq_true M),<-cC,dg];exact g4;simp only[IY,au,ck,aI,u0,u1,↓uL];refine dR (mk:=λa i=>[a,iv i]) (s:=a3) (λ_ _=>rfl) (aL h3) (by omega) ⟨?_,F3,N3⟩;rw[amA (aL h3),if_neg (of_decide_eq_false M),cL];exact g3;simp only[zG,au,ck,aI,u0,u1,↓uL];have aG:j=L (gd s.ak lock.toNat).bk:=bP hj (bw h3);refine dR (mk:=λa i=>[a,iv i]) (s:=a) (λ_ _=>rfl) (aL h) (by omega) ⟨?_,F3,N3⟩;rw[cr,ll,if_neg P,<-aG,<-cC];exact g3);simp+contextual only[afa,au,ck,u0,u1,c2,rk,ix,aj,am,Da,↓uL];refine⟨a0,λM=>?_,λM=>?_⟩;refine gD g1 rfl (by decide) (by rw[a5];decide) nC nC (by simp only[bJ,bZ,bO];omega) λg D R O hi _=>?_;refine a8 g D ?_ ((N.trans O).mono (by simp only[dW];exactλk A=> .inr (N1 k A).no)) (λk A=>(hi k A).elim (N1 k) (λh=>h.old N));rw[pJ,if_pos (of_decide_eq_true M),dg];exact R;refine a8 a Y1 ?_ N N1;rw[pJ,if_neg (of_decide_eq_false M),cL];exact g1;have bF:k=L s.ay:=bP A (bw h);rw[bF] at g1;refine jD (α:=AV) (λa i=>[a,iv i]) 1 (L l) (λk a f=>bc f 162 4 a ((dZ w s l lock k).map bp.c)/\Fx o f []/\∀b∈aA a,bK o b) (s0:=a) ⟨g1,N,N1⟩ ?_;rintro i g D bC ⟨R,O,N2⟩;have bG:L D=4096:=O.len.trans hl;have cc:=Q4 (w:=w) (s:=s) (l:=l) (lock:=lock) aK i;simp+contextual only[afi,au,ck,aI,u0,u1,di,afc,ix,rk,bh,↓uL];refine⟨λh2=>⟨bA h2,?_⟩,λh2=>?_⟩;refine cV bG λS Y3 F3 N3 b3=>?_;refine cy (cs:=aP.c (gd l i)) b3 rfl rfl (by decide) λY4 F4 b4=>?_;have ah:box Y4 (14,S)=V ⟨59,7,U,U,[aP.c (gd l i)]⟩:=b4;have aX:Fx D Y4 []:=F3.tn F4 N3.no;have g4:=R.fx aX (by simp);have F:=O.trans aX;have d1:=F.kq b1;have N4:bK o (14,S):=N3.old O;have hv:∀{f:ae} {x:bY},bc f 162 4 g ((dZ w s l lock i).map bp.c)->box f (14,S)=V x->x.var=U->(14,S)∉aA g:=(by intro f x hg hb E;rcases hg with⟨_,rfl⟩|⟨b',rfl,W⟩;simp[aA];simp only[aA,cE];intro e;subst e;rw[W] at hb;cases hb;cases E);have bL:=hv g4 ah rfl;have aR:∀B,bc B 162 4 g ((tv w lock (gd l i) i (dZ w s l lock i)).map bp.c)->Fx o B []->box B (14,S)=V ⟨59,7,U,U,[aP.c (gd l i)]⟩->Ja [iv (lK w lock (gd l i)),iv (mM w lock (gd l i))] (iv lock) (.p (14,S) 0 0) [g,iv i] (bv (dD w (gd l i)).2) (zF [g,iv i] (yI (λa i=>[a,iv i]) (L l) λk a f=>bc f 162 4 a ((dZ w s l lock k).map bp.c)/\Fx o f []/\∀b∈aA a,bK o b) (gM 1 (L l)) D) [] B:=(by intro B g5 T b5;have bI:L B=4096:=T.len.trans hl;have bQ:L (tv w lock (gd l i) i (dZ w s l lock i))=L (dZ w s l lock i):=(by unfold tv;split<;>simp);simp+contextual only[Ja,au,ck,aI,u0,u1,b5,rk,aj,am,Da,↓uL];refine⟨λha=>?_,λha=>?_⟩;refine gD g5 rfl (by decide) (by rw[bI];decide) nC nC (by simp only[bJ,bZ,bO];omega) λa6 Y6 g6 F6 bD _=>?_;simp only[zF,au,ck,aI,u0,u1,↓uL];refine dR (mk:=λa i=>[a,iv i]) (s:=g) (λ_ _=>rfl) (aL h2) (by omega) ⟨?_,(T.trans F6).mono (by simp only[dW];exactλk A=> .inr (N2 k A).no),λk A=>(bD k A).elim (N2 k) (λh=>h.old T)⟩;rw[dZ,oY,if_pos (of_decide_eq_true ha),dg];exact g6;simp only[zF,au,ck,aI,u0,u1,↓uL];refine dR (mk:=λa i=>[a,iv i]) (s:=g) (λ_ _=>rfl) (aL h2) (by omega) ⟨?_,T,N2⟩;rw[dZ,oY,if_neg (of_decide_eq_false ha),cL];exact g5);have C:IZ (iv lock) (.p (14,S) 0 0) [g,iv i] (bv (dD w (gd l i)).2) (zF [g,iv i] (yI (λa i=>[a,iv i]) (L l) λk a f=>bc f 162 4 a ((dZ w s l lock k).map bp.c)/\Fx o f []/\∀b∈aA a,bK o b) (gM 1 (L l)) D) Y4 [iv (lK w lock (gd l i)),iv (mM w lock (gd l i))]:=(by simp+contextual only[IZ,aI,di,aff,au,ck,u0,u1,ke g4,bJ,↓uL];refine⟨λhr=>?_,λhr=>aR Y4 (by rw[tv,if_neg (of_decide_eq_false hr)];exact g4) F ah⟩;refine yV (L (dZ w s l lock i)) (λj _ f=>bc f 162 4 g ((((dZ w s l lock i).take j).map (ma (gd l i).aq i)++(dZ w s l lock i).drop j).map bp.c)/\Fx o f []/\box f (14,S)=V ⟨59,7,U,U,[aP.c (gd l i)]⟩) ⟨by simpa using g4,F,ah⟩ ?_;rintro j _ B hj ⟨g5,T,b5⟩;simp+contextual only[afk,au,aI,u0,u1,di,↓uL];refine⟨λh5=>?_,λh5=>aR B ?_ T b5⟩;have v:=aL h5;have aJ:L (((dZ w s l lock i).take j).map (ma (gd l i).aq i)++(dZ w s l lock i).drop j)=L (dZ w s l lock i):=(by simp;omega);obtain⟨G,aB,al⟩:∃G,g= .m G (L (dZ w s l lock i))/\box B G=V ⟨162,4,U,I,(((dZ w s l lock i).take j).map (ma (gd l i).aq i)++(dZ w s l lock i).drop j).map bp.c⟩:=(by rcases g5 with⟨W,_⟩|⟨G,W,bu⟩;have bx:L (((dZ w s l lock i).take j).map (ma (gd l i).aq i)++(dZ w s l lock i).drop j)=0:=(by rw[List.map_eq_nil_iff.1 W];rfl);rw[aJ] at bx;omega;exact⟨G,by rw[W,bJ,aJ],bu⟩);have aQ:((((dZ w s l lock i).take j).map (ma (gd l i).aq i)++(dZ w s l lock i).drop j).map bp.c)[j]?=V (bp.c (gd (dZ w s l lock i) j)):=(by rw[List.getElem?_map,List.getElem?_append_right (by simp;omega)];simp only[bJ,gC,rD (GR v),tM,List.getElem?_drop,Nat.add_zero];rw[List.getElem?_eq_getElem v,bT v];rfl);have a1:cz 4 B g (iv j)=V (.p G j 0):=(by rw[aB];simp[cz,al];omega);have aM:∀{x:bp},aN J (bp.c x)=V (iv x.aq):=rfl;have aO:∀{x:bp},aN J ((bp.c x).drop 2)=V (iv x.dY):=rfl;have an:∀Y6,bc Y6 162 4 g ((((dZ w s l lock i).take j).map (ma (gd l i).aq i)++ma (gd l i).aq i (gd (dZ w s l lock i) j)::(dZ w s l lock i).drop (j+1)).map bp.c)->bc Y6 162 4 g ((((dZ w s l lock i).take (j+1)).map (ma (gd l i).aq i)++(dZ w s l lock i).drop (j+1)).map bp.c):=(by intro Y6 g6;have e:((dZ w s l lock i).take (j+1)).map (ma (gd l i).aq i)++(dZ w s l lock i).drop (j+1)=((dZ w s l lock i).take j).map (ma (gd l i).aq i)++ma (gd l i).aq i (gd (dZ w s l lock i) j)::(dZ w s l lock i).drop (j+1):=(by rw[iJ v,dg,cC,<-bT v];rfl);rw[e];exact g6);have a9:∀{q:Nat},ef J B (.p G j q)=aN J ((bp.c (gd (dZ w s l lock i) j)).drop q):=λ{q}=>(by simp only[ef,iE,al,ek,aQ,Option.map_some]);have ax:∀{q p:Nat},iQ p B (.p G j q)=V (.p G j (q+p)):=λ{q p}=>(by simp[iQ,al]);have aT:Q ((gd (dZ w s l lock i) j).aq=(gd l i).aq)=I\/Q ((gd (dZ w s l lock i) j).dY<0)=I->CQ [iv j] (yI (λ_ i=>[iv i]) (L (dZ w s l lock i)) λj (_:Unit) f=>bc f 162 4 g ((((dZ w s l lock i).take j).map (ma (gd l i).aq i)++(dZ w s l lock i).drop j).map bp.c)/\Fx o f []/\box f (14,S)=V ⟨59,7,U,U,[aP.c (gd l i)]⟩) (gM 0 (L (dZ w s l lock i))) B [] B:=(by intro hc;simp only[CQ,au,aI,u0,u1,↓uL];refine yU v ⟨an B ?_,T,b5⟩;have aD:¬((gd (dZ w s l lock i) j).aq=(gd l i).aq/\(gd (dZ w s l lock i) j).dY<0):=(by intro W;simp[W.1,W.2] at hc);rw[ma,if_neg aD,bT v,<-Cw v];exact g5);rcases Bool.eq_false_or_eq_true (Q ((gd (dZ w s l lock i) j).aq=(gd l i).aq)) with Z|Z;simp+contextual only[Jb,au,ck,a1,ax,a9,aY,aM,aO,ip,aj,b5,u0,u1,rk,Z,jA,qE,uO,cond_true,↓uL];refine⟨λhc=>?_,λhc=>aT (.inr hc)⟩;refine wL al aQ (by simp[bp.c]) λY6 F6 b6=>?_;simp only[CQ,au,aI,u0,u1,↓uL];have aD:(gd (dZ w s l lock i) j).aq=(gd l i).aq/\(gd (dZ w s l lock i) j).dY<0:=⟨of_decide_eq_true Z,of_decide_eq_true hc⟩;have aZ:G∈aA g:=(by rw[aB];simp[aA]);refine yU v ⟨an Y6 ?_,(T.trans F6).mono (by simp only[dW,cE];rintro e rfl;exact .inr (N2 _ aZ).no),F6.keep _ _ (by simp only[cE];intro e;exact bL (e▸aZ)) b5⟩;refine .inr ⟨G,?_,?_⟩;rw[aB];congr 1;simp;omega;rw[b6];congr 2;rw[ma,if_pos aD,show(bp.c (gd (dZ w s l lock i) j)).set 2 (iv i)=bp.c {gd (dZ w s l lock i) j with dY:=i} from rfl,<-List.map_set,List.set_append_right _ _ (by simp;omega)];congr 2;simp only[bJ,gC,rD (GR v),tM];rw[Cw v];rfl;simp+contextual only[Jb,au,ck,a1,ax,a9,aY,aM,aO,ip,aj,b5,u0,u1,rk,Z,jN,xM,uO,cond_false,↓uL];exact⟨λh=>(nomatch h),λ_=>aT (.inl Z)⟩;have aG:j=L (dZ w s l lock i):=bP hj (bw h5);rw[tv,if_pos (of_decide_eq_true hr)];rw[aG,gV,List.drop_length,cL] at g5;exact g5);simp+contextual only[ae7,u0,u1,d1,ah,rk,aj,dc,K8,ar,alY,alZ,f8,afd,cT,afe,ae8,au,aI,↓uL];simp only[lK,mM] at C;refine⟨.inl rfl, .inl rfl,λE=>⟨λX=>⟨λH=>?_,λH=>?_⟩,λX=>⟨λH=>?_,λH=>?_⟩⟩,λE=>?_⟩;simpa only[E,X,H,cond_true,cond_false] using C;simpa only[E,X,H,cond_true,cond_false] using C;simpa only[E,X,H,cond_true,cond_false] using C;simpa only[E,X,H,cond_true,cond_false] using C;simpa only[E,cond_true,cond_false] using C;have bB:i=L l:=bP bC (bw h2);rw[bB] at R;exact aFh R λt=>⟨t,rfl⟩
def FX:FT:=ER Pw
def azj{w s l lock Lw K}:=axQ FX Pw w s l lock Lw K
def ao6:dO:=(MJ,FO)::(MU,FX)::ao2
theorem yQ:eJ ao6:=bI (hQ Pj) (bI (aM6 Pw) (wQ))
def K9:=ai @ay8<|ai @azj<|@K8
abbrev nJ:List AV:=[(iv 0),(iv 0),(.l [] U U),(.l [] U U)]
abbrev yX:List AV:=[(iv 0),(iv 0),(iv 0)]
abbrev EI:List AV:=[(iv 0),(iv 0),(iv 0)]
def auP:=bi 2 []
def Jn a0 a1 a2 s0 R:=cB kI [a0,(iv 1),a1,a2] s0 10 λt1 a=>bz R a [t1]
theorem aJy{a a1 b:AV}{s0:ae}{R:be}(h:Jn a a1 b s0 R):EB jP [a,a1,b] s0 R:=zB auP yQ Tryz.func106 h
theorem aMi{a:AV}{a1:AV}{b:AV}{s0:ae}{R:be}(hs:L s0=4096)(h:Jn a a1 b s0 R):EB jP [a,a1,b] s0 R:=by refine aJy ?_;exact h
def auQ:=bi 2 []
def Jo a0 a1 s0 R:=cB kI [a0,(iv 2),a1,(iv 0)] s0 7 λt1 a=>bz R a [t1]
theorem aJz{a a1:AV}{s0:ae}{R:be}(h:Jo a a1 s0 R):EB gJ [a,a1] s0 R:=zB auQ yQ Tryz.func105 h
theorem aMj{a:AV}{a1:AV}{s0:ae}{R:be}(hs:L s0=4096)(h:Jo a a1 s0 R):EB gJ [a,a1] s0 R:=by refine aJz ?_;exact h
def auR:=bi 2 []
def Jp a0 a1 s0 R:=cB kI [a0,(iv 3),a1,(iv 0)] s0 7 λt1 a=>bz R a [t1]
theorem aJA{a a1:AV}{s0:ae}{R:be}(h:Jp a a1 s0 R):EB uv [a,a1] s0 R:=zB auR yQ Tryz.func142 h
theorem aMk{a:AV}{a1:AV}{s0:ae}{R:be}(hs:L s0=4096)(h:Jp a a1 s0 R):EB uv [a,a1] s0 R:=by refine aJA ?_;exact h
def au3:=bi 11 [(4,([7,13],[0,1,2,11,12])),(7,([7],[0,1,2,11,12,13]))]
def JM vs4(c:aG)(a:bu) s5 vs7 s8:=∀_:Rg,aV (gt vs4 1) (iv 1) λb=>c [(gt vs7 0),b] s8/\a [(gt vs7 0),b] s8<a vs4 s5
def ajK vs4(e:aG) t36 s37:=eV (aX bH 1 s37 [(0,t36)]) λc a=>eV (bS 3 fB 8 a 37 (gt vs4 0) c) λd b=>e [d] b
def ajL x_12 a1 a2 a0 vs4(b:aG) s14:=ag 2 s14 x_12 λc=>al c a1 λa=>aT a 1 s14 x_12 λd=>bB a a2 λe=>az a (aO .neq d e) λf=>aD a f (bv I) λg=>ah g (ag 0 s14 x_12 λh=>ag 1 s14 x_12 λi=>ag 2 s14 x_12 λj=>cB kI [a0,h,i,j] s14 35 (ajK vs4 b)) (b [(gt vs4 0)] s14)
def ajN s5 t1 vs4 a1 a2 a0 J7:=ao 3 s5 t1 (gt vs4 1) λc=>aw 3 s5 c λd=>eV (bs 66 dM s5 9) λa b=>sV (aK 3 b a d) (ajL a a1 a2 a0 vs4 J7)
def ajO t3 t1 a1 a2 a0 R I4 m4 vs4 s5:=∀_:Rg,aU (gt vs4 1) t3 λa=>ah a (jV 7 (JM vs4 I4 m4 s5) (ajN s5 t1 vs4 a1 a2 a0)) (bz R s5 [(gt vs4 0)])
def ajM a1 a2 a0 R t1 s2:=aJ s2 t1 λt3=>lV [(.l [] U U),(iv 0)] s2 (ajO t3 t1 a1 a2 a0 R)
def JL a0 a1 a2 s0 R:=cB uw [a0,(iv 5)] s0 11 (ajM a1 a2 a0 R)
theorem aJM{a a1 b:AV}{s0:ae}{R:be}(h:JL a a1 b s0 R):EB wi [a,a1,b] s0 R:=zB au3 yQ Tryz.func104 h
theorem aMw{a:AV}{a1:AV}{b:AV}{s0:ae}{R:be}(hs:L s0=4096)(h:JL a a1 b s0 R):EB wi [a,a1,b] s0 R:=by refine aJM ?_;exact h
def auT:=bi 10 [(4,([25],[2,3,23,24]))]
def agu vs22(c:aG)(a:bu) s23 s42:=aV (gt vs22 0) (iv 1) λb=>c [b] s42/\a [b] s42<a vs22 s23
def agv f_16 vs22 I22 m22 s23 t39 s40:=aB 2 s40 f_16 λa=>sV (aK 1 s40 a t39) (agu vs22 I22 m22 s23)
def agw f_16 x_27 vs22 I22 m22 s23 s29:=ag 2 s29 f_16 λb=>ag 1 s29 x_27 λc=>ag 2 s29 x_27 λd=>rV (bM yX [(0,1),(1,1),(2,1)] [(0,c),(1,d),(2,(iv (-1)))]) λe=>eV (aX EI 1 s29 [(0,e)]) λf a=>eV (bS 71 yX 24 a 37 b f) (agv f_16 vs22 I22 m22 s23)
def agA t21 t19 f_16 t1 R I22 m22 vs22 s23:=∀_:Rg,aU (gt vs22 0) t21 λd=>ah d (ao 3 s23 t19 (gt vs22 0) λe=>aw 3 s23 e λf=>eV (bs 66 dM s23 5) λa c=>sV (aK 3 c a f) (agw f_16 a vs22 I22 m22 s23)) (aw 4 s23 f_16 λg=>sV (aK 4 s23 t1 g) λb=>aw 4 b t1 λh=>bz R b [h])
def agx f_16 t1 R t19 s20:=aJ s20 t19 λa=>lV [(iv 0)] s20 (agA a t19 f_16 t1 R)
def agy a0 t3 t4 t5 t6 t8 t9 t10 t12 t13 t7 t11 t14 f_16 t15 t1 R s18:=dH [lzz,(lz a0),(lz t3),(lz t4),(lz t5),(lz t6),lzz,(lz a0),(lz t8),(lz t9),(lz t10),lzz,(lz a0),(lz t12),(lz t13),(lb U [t7,t11,t14] []),(lb I [] [3]),(lb I [f_16,t15] [])] [(0,16),(1,16),(2,16),(3,16),(4,16),(5,16),(6,16),(7,16),(8,16),(9,16),(10,16),(11,16),(12,16),(13,16),(14,16),(15,16)] (cB uw [a0,(iv 1)] s18 23 (agx f_16 t1 R))
def agz a0 R t1 s2:=rV (cO s2 a0) λt3=>aB 0 s2 t3 λt4=>aB 14 s2 t4 λi=>aM s2 i λj=>aJ s2 j λk=>rV (cO s2 a0) λl=>aB 15 s2 l λm=>aM s2 m λb=>aJ s2 b λc=>rV (cO s2 a0) λd=>aB 16 s2 d λe=>aM s2 e λf=>rV (bM nJ [(0,1),(1,1),(2,1),(3,1)] [(0,k),(1,c),(3,f)]) λg=>eV (bs 52 nJ s2 3) λa h=>sV (aK 4 h a g) (agy a0 t3 t4 i j l m b d e k c f a g t1 R)
def Jr a0 s0 R:=eV (bs 52 nJ s0 2) (agz a0 R)
theorem aJC{a:AV}{s0:ae}{R:be}(h:Jr a s0 R):EB Aw [a] s0 R:=zB auT yQ Tryz.func33 h
theorem aMm{a:AV}{s0:ae}{R:be}(hs:L s0=4096)(h:Jr a s0 R):EB Aw [a] s0 R:=by refine aJC ?_;exact h
abbrev lB(ns:List ap)(x y:Int):Int:=dP ns ⟨1,x,y⟩
abbrev lE(ns:List ap)(x:Int):Int:=dP ns ⟨2,x,0⟩
abbrev lF(ns:List ap)(x:Int):Int:=dP ns ⟨3,x,0⟩
theorem aDc{ns:List ap}{x:ap}:0<=dP ns x/\dP ns x<=L ns:=by unfold dP;split;have:=List.idxOf_lt_length_of_mem ‹_›;omega;omega
theorem de{ns:List ap}{x:ap}(c:L ns<100000):cR .neg (iv (dP ns x))=V (iv (-dP ns x)):=by have:=aDc (ns:=ns) (x:=x);rw[aEn,eM (by omega) (by omega)]
theorem AI{α:Type}{B:(aG)->(bu)->aG}(mk:α->Int->List AV)(p n e:Nat)(g:e<=n)(c:Nat->α->ae->Prop){s0:α}{f:ae}(i:c e s0 f)(h:∀(k:Nat) s Y,k<=n->c k s Y->B (yI mk n c) (gM p n) (mk s k) Y):lV (mk s0 e) f B:=⟨yI mk n c,gM p n,⟨e,s0,rfl,g,i⟩,by rintro vs Y ⟨k,s,rfl,l,j⟩;exact h k s Y l j⟩
theorem aol{α:Type}{f:Nat->List α}{k:Nat}(h:∀j,j<k->f j=[]):(aH k).flatMap f=[]:=by rw[List.flatMap_eq_nil_iff];intro j c;exact h j (List.mem_range.1 c)
section
variable{Y:ae}{b:Id}{w:am}{ns:List ap}{out:List (List Int)}{n a:AV}{d:Nat}{K:be}
theorem kV(B:cm Y b w ns out n a)(e:L ns<100000)(x y:Int)(c:K (iv (lB ns x y)) Y):cB jP [.p b 0 0,iv x,iv y] Y d K:=by refine lT rfl (aMi B.le ?_) c;simp only[Jn,↓uL];exact nc B e _ _ _ ⟨rfl,Fx.refl _ _⟩
theorem ig(B:cm Y b w ns out n a)(e:L ns<100000)(x:Int)(c:K (iv (lE ns x)) Y):cB gJ [.p b 0 0,iv x] Y d K:=by refine lT rfl (aMj B.le ?_) c;simp only[Jo,↓uL];exact nc B e _ _ _ ⟨rfl,Fx.refl _ _⟩
theorem zS(B:cm Y b w ns out n a)(e:L ns<100000)(x:Int)(c:K (iv (lF ns x)) Y):cB uv [.p b 0 0,iv x] Y d K:=by refine lT rfl (aMk B.le ?_) c;simp only[Jp,↓uL];exact nc B e _ _ _ ⟨rfl,Fx.refl _ _⟩
def nG(ns l:List ap)(y x:Int):List Int:=(l.filter λv=>Q (v.b=y)&&Q (v.a≠x)).map (dP ns)
theorem aMW{ns l:List ap}{y x:Int}{k:Nat}(h:k<L l):nG ns (l.take (k+1)) y x=nG ns (l.take k) y x++(if(gd l k).b=y/\(gd l k).a≠x then[dP ns (gd l k)] else[]):=by rw[iJ h,nG,me,dg,bT h];congr 1;by_cases c:(l[k]).b=y<;>by_cases e:(l[k]).a=x<;>simp[c,e]
theorem fF{l:List Int}:∀r∈l.map ci,L r=1:=by intro r c;obtain⟨x,_,rfl⟩:=dN.1 c;rfl
theorem aCQ(B:cm Y b w ns out n a)(M:L ns<100000)(y x:Int):∃r e,(bc e 3 1 r ((nG ns (aR ns 5) y x).map ci)/\Fx Y e []/\∀b∈aA r,bK Y b)/\cZ aS GG wi [.p b 0 0,iv y,iv x] Y r e:=by refine aMw B.le ?_;simp only[JL,↓uL];refine De B M 5 λt=>?_;have G:L (aR ns 5)<=L ns:=fZ _ _;generalize aR ns 5=l at G;simp only[ajM,gT,u0,↓uL];refine jD (α:=AV) (λa i=>[a,iv i]) 1 (L l) (λk r A=>bc A 3 1 r ((nG ns (l.take k) y x).map ci)/\Fx Y A []/\∀b∈aA r,bK Y b) (s0:= .l [] U U) ⟨bc.nil,Fx.refl _ _,by simp[aA]⟩ ?_;rintro k r e m ⟨g1,u,g⟩;have H:L e=4096:=u.len.trans B.le;simp+contextual only[ajO,au,ck,aI,u0,u1,di,ajN,lX,rk,bh,↓uL];refine⟨λh=>⟨bA h,?_⟩,λh=>?_⟩;refine cV H λv Y2 N R S=>?_;refine cy (cs:=ap.c (gd l k)) S rfl rfl (by decide) λz O T=>?_;have C:box z _=V ⟨66,3,U,U,[ap.c (gd l k)]⟩:=T;have o:Fx e z []:=N.tn O R.no;have F:Fx Y z []:=u.trans o;have D:=g1.fx o (by simp);have q:=aMW (ns:=ns) (y:=y) (x:=x) (aL h);simp+contextual only[ajL,u0,u1,C,rk,aj,au,ck,↓uL];refine⟨λj=>?_,λj=>?_⟩;refine nc (B.kp F) M _ _ _ ?_;simp only[ajK,au,f7,bQ,↓uL];have Z:L (nG ns (l.take k) y x)<=k:=(by rw[nG,bJ];exact gl (fZ _ _) (by simp;omega));refine gD D rfl (by decide) (by rw[F.len,B.le];decide) fF fF (by simp only[bJ,bZ,bO];omega) λa4 Y4 W P X _=>?_;simp only[JM,au,ck,aI,u0,u1,↓uL];refine dR (mk:=λa i=>[a,iv i]) (s:=r) (λ_ _=>rfl) (aL h) (by omega) ⟨?_,(F.trans P).mono (by simp only[dW];exactλk m=> .inr (g k m).no),λk m=>?_⟩;simp only[bN,decide_eq_true_eq] at j;rw[q,if_pos j,dg];exact W;rcases X k m with f|f;exact g k f;exact f.old F;simp only[JM,au,ck,aI,u0,u1,↓uL];refine dR (mk:=λa i=>[a,iv i]) (s:=r) (λ_ _=>rfl) (aL h) (by omega) ⟨?_,F,g⟩;have E:¬((gd l k).b=y/\(gd l k).a≠x):=(by intro f;simp[f.1,f.2] at j);rw[q,if_neg E,cL];exact D;rw[oB (bw h)] at g1;exact⟨g1,u,g⟩
theorem Ks(B:cm Y b w ns out n a)(e:L ns<100000)(y x:Int)(c:∀t,K (.l ((nG ns (aR ns 5) y x).map ci) t U) Y):cB wi [.p b 0 0,iv y,iv x] Y d K:=xC rfl (aCQ B e y x) c
def lL(ns:List ap):List dr:=(aR ns 1).map λx=>⟨x.a,x.b,-1⟩
theorem am4(B:cm Y b w ns out n a)(hn:L ns<100000):∃r v,(∃a1,r= .a [iv (L w.ac),iv (L ns),a1,a]/\bc v 71 3 a1 ((lL ns).map dr.c)/\bc v 35 1 a (out.map λc=>[sl ci c])/\Fx Y v [])/\cZ aS GG Aw [.p b 0 0] Y r v:=by
 refine aMm B.le ?_
 simp only[Jr,↓uL]
 refine cV B.le λv1 v F1 N1 b1=>?_
 have Z:=B.kp F1
 have P:=Z.bx
 obtain⟨t,o,rfl⟩:=B.nm
 simp only[agz,dy P,u0,u1,P,kn,aj,gT,cT,↓uL]
 have ay:bM nJ [(0,1),(1,1),(2,1),(3,1)] [(0,iv (L w.ac)),(1,iv (L ns)),(3,a)]=V (.a [iv (L w.ac),iv (L ns), .l [] U U,a]):=by
  simp[bM,gp,ms B.gr,zU]
 simp only[ay,u0,↓uL]
 refine cV Z.le λv2 Y2 F2 N2 b2=>?_
 refine cy (cs:=[iv (L w.ac),iv (L ns), .l [] U U,a]) b2 rfl rfl (by decide) λY3 F3 b3=>?_
 have A:Fx v Y3 []:=F2.tn F3 N2.no
 have B3:=Z.kp A
 have S:=A.kq b1
 simp only[agy,↓uL]
 refine dT ?_ ?_
 ·obtain⟨S,bb⟩:=b
  have:=B.sb
  simp only at this
  subst this
  rcases B.gr with⟨_,rfl⟩|⟨⟨d',v'⟩,rfl,_⟩
  ·rfl
  ·have:=B.sa (d',v') (by simp[aA])
   simp only at this
   subst this
   rfl
 refine De B3 hn 1 λt'=>?_
 have aC:L (aR ns 1)<=L ns:=fZ _ _
 unfold lL
 generalize aR ns 1=l at aC
 simp only[agx,gT,u0,↓uL]
 refine yV (L l) (λk _ E=>∃a1,box E (3,v2)=V ⟨52,4,U,U,[[iv (L w.ac),iv (L ns),a1,a]]⟩/\bc E 71 3 a1 (((l.take k).map λx=>(⟨x.a,x.b,-1⟩:dr)).map dr.c)/\cm E b w ns out (.l (ns.map ap.c) t o) a/\(∃z,box E (2,v1)=V ⟨52,4,U,U,[z]⟩/\L z=4)/\Fx Y3 E [(3,v2)]/\∀q∈aA a1,bK Y3 q) ⟨_,b3,bc.nil,B3,⟨_,S,rfl⟩,Fx.refl _ _,by simp[aA]⟩ ?_
 rintro k _ Y4 g ⟨a1,m2,g1,B4,⟨z,m1,hz⟩,C,P1⟩
 simp+contextual only[agA,au,aI,u0,u1,lX,rk,bh,↓uL]
 have X:∀{x y x2 R:AV},aN (V 4) [x,y,x2,R]=V (.a [x,y,x2,R]):=rfl
 refine⟨λh=>⟨bA h,?_⟩,λh=>?_⟩
 ·refine cV B4.le λv5 Y5 D N5 b5=>?_
  refine cy (cs:=ap.c (gd l k)) b5 rfl rfl (by decide) λF F6 b6=>?_
  have aw:box F (5,v5)=V ⟨66,3,U,U,[ap.c (gd l k)]⟩:=b6
  have i:Fx Y4 F []:=D.tn F6 N5.no
  have j:=i.kq m2
  have W:=i.kq m1
  have g6:=g1.fx i (by simp)
  have M:=B4.kp i
  have aF:∀{x y x2 R:AV},aN J ([x,y,x2,R].drop 2)=V x2:=rfl
  have ag:bM yX [(0,1),(1,1),(2,1)] [(0,iv (gd l k).a),(1,iv (gd l k).b),(2,iv (-1))]=V (.a (dr.c ⟨(gd l k).a,(gd l k).b,-1⟩)):=rfl
  have az:aX EI 1 F [(0, .a (dr.c ⟨(gd l k).a,(gd l k).b,-1⟩))]=V (.l ([(⟨(gd l k).a,(gd l k).b,-1⟩:dr)].map dr.c) U U,F):=ua rfl rfl rfl (by decide) rfl (by decide)
  simp only[agw,u0,u1,aw,j,rk,aF,aj,ag,az,↓uL]
  have u:∀{l:List dr},∀r∈l.map dr.c,L r=3:=by
   intro l r hr;obtain⟨x,_,rfl⟩:=dN.1 hr;rfl
  refine gD g6 rfl (by decide) (by rw[M.le];decide) u u (by simp only[bJ,bZ,bO,gC];omega) λa7 Y7 g7 N T _=>?_
  have s:∀{c:Id} {x:bY},box F c=V x->x.var=U->c∉aA a1:=by
   intro c x hc hx
   rcases g6 with⟨_,rfl⟩|⟨b',rfl,f⟩
   ·simp[aA]
   ·simp only[aA,cE]
    intro e;subst e
    rw[f] at hc;cases hc;cases hx
  have H:=N.keep _ _ (s j rfl) j
  have ak:=N.keep _ _ (s W rfl) W
  simp only[agv,u0,u1,H,aj,↓uL]
  refine cy (cs:=[a7]) H (ms g7) rfl (by simp) λY8 O b8=>?_
  simp only[agu,au,u0,u1,↓uL]
  have aD:∀k∈aA a1,k∉aA a:=by
   intro k g G
   rcases g6 with⟨_,rfl⟩|⟨b',rfl,f⟩
   ·simp[aA] at g
   ·simp only[aA,cE] at g
    subst g
    exact M.nv f (.inr (show(71:Nat)≠35 by decide)) G
  have B8:cm Y8 b w ns out (.l (ns.map ap.c) t o) a:=by
   refine(M.fx N ?_ λk g G=>aD k G g).fx O ?_ ?_
   ·exact s M.bx rfl
   ·intro e
    simp only[cE] at e
    have:=B.sb
    rw[e] at this
    simp[sB] at this
   ·intro k g e
    simp only[cE] at e
    have:=B.sa k g
    rw[e] at this
    simp at this
  have g8:=g7.fx O (by
   intro k g e
   simp only[cE] at e
   subst e
   rcases T _ g with f|f
   ·exact s j rfl f
   ·exact f.no _ j)
  refine yU (aL h) ⟨a7,b8,?_,B8,⟨z,O.kq ak,hz⟩,(((C.trans i).trans N).trans O).mono λq m=>?_,λq m=>?_⟩
  rotate_left
  ·simp only[cL,dF,cE] at m
   rcases m with(rfl|f)|rfl
   ·exact .inl (by simp)
   ·exact .inr (P1 q f).no
   ·exact .inl (by simp)
  ·rcases T q m with f|f
   ·exact P1 q f
   ·exact(f.old i).old C
  rw[iJ (aL h),dg,dg,<-bT (aL h)]
  exact g8
 ·simp only[m2,u0,u1,X,↓uL]
  refine cy (cs:=[iv (L w.ac),iv (L ns),a1,a]) m1 rfl rfl (by rw[hz];decide) λY5 D b5=>?_
  have av:box Y5 (2,v1)=V ⟨52,4,U,U,[[iv (L w.ac),iv (L ns),a1,a]]⟩:=by
   rw[b5]
   simp[hz]
  simp only[av,u0,u1,X,bz,ew,↓uL]
  rw[oB (bw h)] at g1
  refine⟨a1,rfl,g1.fx D ?_,B4.gr.fx D ?_,(((F1.trans A).trans C).trans D).mono λq m=>?_⟩
  rotate_left 2
  ·simp only[dW,dF,cE] at m
   rcases m with rfl|rfl
   ·exact .inr (N2.old F1).no
   ·exact .inr N1.no
  ·intro k g e
   simp only[cE] at e
   subst e
   rcases g1 with⟨_,rfl⟩|⟨b',rfl,f⟩
   ·simp[aA] at g
   ·simp only[aA,cE] at g
    rw[<-g,m1] at f
    cases f
  ·intro k g e
   simp only[cE] at e
   have:=B.sa k g
   rw[e] at this
   simp at this
end
def ao7:dO:=ao6
theorem Bt:eJ ao7:=yQ
def fsN:=@K9
def au2:=bi 32 [(3,([16],[0,2,15])),(9,([4],[0,2,3,15,16])),(15,([41],[0,2,40])),(18,([],[0,2,40,41])),(24,([69],[0,68])),(27,([],[0,68,69]))]
def ajp vs10(c:aG)(a:bu) s11(d:AV) s21:=aV (gt vs10 0) (iv 1) λb=>c [b] s21/\a [b] s21<a vs10 s11
def ajw a0 vs10 I10 m10 s11 t18 s19:=cB eP [a0,t18] s19 37 (ajp vs10 I10 m10 s11)
def ajx t14 a0 vs10 I10 m10 s11 t16 s17:=eV (aX bH 2 s17 [(0,t14),(1,t16)]) (ajw a0 vs10 I10 m10 s11)
def ajy a0 vs10 vs6 I10 m10 s11 t14 s15:=cB jP [a0,(gt vs10 0),(gt vs6 0)] s15 35 (ajx t14 a0 vs10 I10 m10 s11)
def ajJ t4 a0 vs6(e:aG)(b:bu) s7 I10 m10 vs10 s11:=∀_:Rg,aJ s11 t4 λc=>aU (gt vs10 0) c λd=>ah d (cB jP [a0,(gt vs6 0),(gt vs10 0)] s11 31 (ajy a0 vs10 vs6 I10 m10 s11)) (aV (gt vs6 0) (iv 1) λa=>e [a] s11/\b [a] s11<b vs6 s7)
def JJ vs25(c:aG)(a:bu) s26(d:eQ) s29:=∀_:Rg,aV (gt vs25 0) (iv 1) λb=>c [b] s29/\a [b] s29<a vs25 s26
def ajz t41 a0(a:aG) t42 s43:=eV (aX bH 2 s43 [(0,t41),(1,t42)]) λd b=>cB eP [a0,d] b 65 λe c=>a [] c
def ajA a0 t31 J28 t39 s40:=rV (cR .neg t39) λa=>cB gJ [a0,t31] s40 63 (ajz a a0 J28)
def ajB a0 vs25 t31 J28(a:AV) s38:=cB gJ [a0,(gt vs25 0)] s38 59 (ajA a0 t31 J28)
def ajC a0 vs25 t31 J28 t35 s36:=cB eP [a0,t35] s36 55 (ajB a0 vs25 t31 J28)
def ajD a0 vs25 t31 J28 t33 s34:=eV (aX bH 1 s34 [(0,t33)]) (ajC a0 vs25 t31 J28)
def ajE s26 t4 vs25 a0(b:aG):=fV Cl s26 [t4,(gt vs25 0)] λa=>aO .geq a (iv 0) λc=>ah c (cB jP [a0,a,(gt vs25 0)] s26 53 (ajD a0 vs25 a b)) (b [] s26)
def JK vs49(c:aG)(a:bu) s50(d:eQ) s53:=∀_:Rg,aV (gt vs49 0) (iv 1) λb=>c [b] s53/\a [b] s53<a vs49 s50
def ajq t71 a0(a:aG) t72 s73:=eV (aX bH 2 s73 [(0,t71),(1,t72)]) λd b=>cB eP [a0,d] b 100 λe c=>a [] c
def ajr a0 t58 vs49 J52 t69 s70:=rV (cR .neg t69) λa=>cB jP [a0,t58,(gt vs49 0)] s70 98 (ajq a a0 J52)
def ajs a0 vs49 t58 J52(a:AV) s68:=cB gJ [a0,(gt vs49 0)] s68 93 (ajr a0 t58 vs49 J52)
def ajt a0 vs49 t58 J52 t65 s66:=cB eP [a0,t65] s66 89 (ajs a0 vs49 t58 J52)
def aju t62 a0 vs49 t58 J52 t63 s64:=eV (aX bH 2 s64 [(0,t62),(1,t63)]) (ajt a0 vs49 t58 J52)
def ajv a0 t58 vs49 J52 t60 s61:=rV (cR .neg t60) λa=>cB gJ [a0,t58] s61 87 (aju a a0 vs49 t58 J52)
def ajF s50 a0 vs49(a:aG):=rV (cO s50 a0) λc=>aB 0 s50 c λd=>aw 15 s50 d λe=>fV FZ s50 [e,(gt vs49 0)] λb=>aO .geq b (iv 0) λf=>ah f (cB gJ [a0,(gt vs49 0)] s50 83 (ajv a0 b vs49 a)) (a [] s50)
def ajH t48 a0 R I49 m49 vs49 s50:=∀_:Rg,aU (gt vs49 0) t48 λa=>ah a (jV 27 (JK vs49 I49 m49 s50) (ajF s50 a0 vs49)) (bz R s50 [])
def ajG t24 t4 a0 R I25 m25 vs25 s26:=∀_:Rg,aU (gt vs25 0) t24 λa=>ah a (jV 18 (JJ vs25 I25 m25 s26) (ajE s26 t4 vs25 a0)) (aJ s26 t4 λb=>lV [(iv 0)] s26 (ajH b a0 R))
def ajI t5 t4 a0 R I6 m6 vs6 s7:=∀_:Rg,aU (gt vs6 0) t5 λb=>ah b (aV (gt vs6 0) (iv 1) λc=>lV [c] s7 (ajJ t4 a0 vs6 I6 m6 s7)) (aJ s7 t4 λa=>lV [(iv 0)] s7 (ajG a t4 a0 R))
def JI a0 s0 R:=rV (cO s0 a0) λt1=>aB 0 s0 t1 λa=>ag 14 s0 a λt4=>aJ s0 t4 λb=>lV [(iv 0)] s0 (ajI b t4 a0 R)
theorem aJL{a:AV}{s0:ae}{R:be}(h:JI a s0 R):EB Az [a] s0 R:=zB au2 Bt Tryz.func85 h
theorem aMv{a:AV}{s0:ae}{R:be}(hs:L s0=4096)(h:JI a s0 R):EB Az [a] s0 R:=by refine aJL ?_;exact h
def auS:=bi 7 []
def agk t18 t39 t41 t43 x_1 t45 s38 t40 t42 t44 t47 s50 R(a:AV) s52:=dH [lzz,lzz,(lb U [t18,(iv 0)] []),(lz t39),lzz,(lb U [t18,(iv 1)] []),(lz t41),lzz,(lb U [t18,(iv 2)] []),(lz t43),lzz,(lz x_1),(lz t45),lzz,(cq U s38),(lb I [t40,t42,t44,t47] []),(cq I s50)] [(0,14),(1,14),(2,14),(3,14),(4,14),(5,14),(6,14),(7,14),(8,14),(9,14),(0,15)] (bz R s52 [])
def agm a0 t18 t39 t41 t43 x_1 t45 s38 t40 t42 t44 t47 R t49 s50:=cB eP [a0,t49] s50 65 (agk t18 t39 t41 t43 x_1 t45 s38 t40 t42 t44 t47 s50 R)
def agn t40 t42 t44 a0 t18 t39 t41 t43 x_1 t45 s38 R t47 s48:=eV (aX bH 4 s48 [(0,t40),(1,t42),(2,t44),(3,t47)]) (agm a0 t18 t39 t41 t43 x_1 t45 s38 t40 t42 t44 t47 R)
def ago t18 t25 t27 t29 x_1 t31 s19 t26 t28 t30 t33 s36 a0 t8 R(i:AV) s38:=dH [lzz,lzz,(lb U [t18,(iv 0)] []),(lz t25),lzz,(lb U [t18,(iv 1)] []),(lz t27),lzz,(lb U [t18,(iv 2)] []),(lz t29),lzz,(lz x_1),(lz t31),(cq U s19),(lb I [t26,t28,t30,t33] []),(cq I s36)] [(0,13),(1,13),(2,13),(3,13),(4,13),(5,13),(6,13),(7,13),(8,13),(9,13),(0,14)] (ao 1 s38 t18 (iv 0) λa=>aM s38 a λe=>ao 1 s38 t18 (iv 1) λb=>aM s38 b λf=>ao 1 s38 t18 (iv 2) λc=>aM s38 c λg=>aB 2 s38 x_1 λd=>aM s38 d λh=>cB jP [a0,h,t8] s38 63 (agn e f g a0 t18 a b c x_1 d s38 R))
def agp a0 t18 t25 t27 t29 x_1 t31 s19 t26 t28 t30 t33 t8 R t35 s36:=cB eP [a0,t35] s36 48 (ago t18 t25 t27 t29 x_1 t31 s19 t26 t28 t30 t33 s36 a0 t8 R)
def agq t26 t28 t30 a0 t18 t25 t27 t29 x_1 t31 s19 t8 R t33 s34:=eV (aX bH 4 s34 [(0,t26),(1,t28),(2,t30),(3,t33)]) (agp a0 t18 t25 t27 t29 x_1 t31 s19 t26 t28 t30 t33 t8 R)
def agr x_1 a0 R t8 t18 s19:=ag 2 s19 x_1 λf=>aU f (iv 0) λg=>ah g (cB eP [a0,t18] s19 32 λl e=>bz R e []) (ao 1 s19 t18 (iv 0) λa=>aM s19 a λh=>ao 1 s19 t18 (iv 1) λb=>aM s19 b λi=>ao 1 s19 t18 (iv 2) λc=>aM s19 c λj=>aB 2 s19 x_1 λd=>aM s19 d λk=>cB gJ [a0,k] s19 46 (agq h i j a0 t18 a b c x_1 d s19 t8 R))
def ags t11 t14 x_1 a0 R t8 t15 s16:=rV (cR .neg t15) λa=>eV (aX bH 3 s16 [(0,t11),(1,t14),(2,a)]) (agr x_1 a0 R t8)
def agt a0 t6 t8 t11 x_1 R t12 s13:=rV (cR .neg t12) λa=>cB jP [a0,t6,t8] s13 24 (ags t11 a x_1 a0 R t8)
def agl a0 t8 t6 x_1 R t9 s10:=rV (cR .neg t9) λa=>cB gJ [a0,t8] s10 19 (agt a0 t6 t8 a x_1 R)
def Jq a0 x_1 y_3 s4 R:=ag 1 s4 x_1 λa=>ag 1 s4 y_3 λb=>cB gJ [a0,a] s4 15 (agl a0 b a x_1 R)
theorem aJB{a a1 b:AV}{s0:ae}{R:be}(h:eV (ej 162 4 s0 4 a1) λc e=>eV (ej 162 4 e 5 b) λd f=>Jq a c d f R):EB xW [a,a1,b] s0 R:=zB auS Bt Tryz.func140 h
theorem aMl{j:AV}{e:List AV}{f:List AV}{s0:ae}{R:be}(hs:L s0=4096)(l1:L e=4)(r:L f=4)(h:∀(b:ae) (c d:Nat),Kp s0 b->(∀k,k≠4->k≠5->aZ b k=aZ s0 k)->(∀x,box s0 (4,c)≠V x)->(∀x,box s0 (5,d)≠V x)->box b (4,c)=V ⟨162,4,U,U,[e]⟩->box b (5,d)=V ⟨162,4,U,U,[f]⟩->Jq j (.p (4,c) 0 0) (.p (5,d) 0 0) b R):EB xW [j, .a e, .a f] s0 R:=by refine aJB ?_;refine iN rfl l1 (by decide) (by decide) hs λu c i g0 s m=>?_;refine iN rfl r (by decide) (by decide) (i.len.trans hs) λb d l g1 t n=>?_;exact h b c d (Kp.trans i l) (λk o q=>(g1 k q).trans (g0 k o)) (λx g=>s x ((Kp.refl _).keep _ _ g)) (λx g=>t x (i.keep _ _ g)) (l.keep _ _ m) n
def auX:=bi 3 []
def ahn a0 R t14 s15:=eV (aX bH 1 s15 [(0,t14)]) λc a=>cB eP [a0,c] a 26 λd b=>bz R b []
def aho a0 a1 R(f:AV) s7:=rV (cO s7 a0) λd=>aB 0 s7 d λe=>ag 14 s7 e λb=>fV Cl s7 [b,a1] λa=>aO .geq a (iv 0) λc=>ah c (cB gJ [a0,a] s7 24 (ahn a0 R)) (bz R s7 [])
def ahp a0 a1 R t1 s2:=rV (cR .neg t1) λt3=>eV (aX bH 1 s2 [(0,t3)]) λt4 a=>cB eP [a0,t4] a 11 (aho a0 a1 R)
def Jw a0 a1 s0 R:=cB gJ [a0,a1] s0 8 (ahp a0 a1 R)
theorem aJG{a a1:AV}{s0:ae}{R:be}(h:Jw a a1 s0 R):EB xX [a,a1] s0 R:=zB auX Bt Tryz.func101 h
theorem aMq{a:AV}{a1:AV}{s0:ae}{R:be}(hs:L s0=4096)(h:Jw a a1 s0 R):EB xX [a,a1] s0 R:=by refine aJG ?_;exact h
def my(ns:List ap)(x y:Nat):List (List Int):=if x<y then[[lB ns x y,lB ns y x]] else[]
def jy(ns:List ap)(n x:Nat):List (List Int):=(aH n).flatMap (my ns x)
def kY(ns:List ap)(w:am)(y:Nat):List (List Int):=if 0<=lw w.ac y then[[lB ns (lw w.ac y) y],[-lE ns y,lE ns (lw w.ac y)]] else[]
def mA(ns:List ap)(w:am)(j:Nat):List (List Int):=if 0<=kr w j then[[-lE ns j,lE ns (kr w j)],[-lE ns j,lB ns (kr w j) j]] else[]
def kE(ns:List ap)(w:am):List (List Int):=(aH (L w.ac)).flatMap (jy ns (L w.ac))++((aH (L w.ac)).flatMap (kY ns w)++(aH (L w.ac)).flatMap (mA ns w))
def sj(Y:ae)(b:Id)(w:am)(ns:List ap)(out cl:List (List Int))(n a:AV):be:=λr c=>∃a1,r= .t []/\cm c b w ns (out++cl) n a1/\Ad Y c b a a1
section
variable{Y:ae}{b:Id}{w:am}{ns:List ap}{out:List (List Int)}{n a:AV}{d:Nat}{K:be}
theorem ub{fn:Nat}{xs:List AV}{cl:List (List Int)}(j:uQ.elem fn=I)(h:∃r c,sj Y b w ns out cl n a r c/\cZ aS GG fn xs Y r c)(i:∀e c,cm c b w ns (out++cl) n e->Ad Y c b a e->K (.t []) c):cB fn xs Y d K:=by refine jH j h ?_;rintro r c ⟨e,rfl,g,f⟩;exact⟨f.fx.len,i e c g f⟩
theorem aCP(B:cm Y b w ns out n a)(e:L ns<100000)(hw:L w.ac<=16)(ho:L out+L (kE ns w)<1000000000):∃r F,sj Y b w ns out (kE ns w) n a r F/\cZ aS GG Az [.p b 0 0] Y r F:=by refine aMv B.le ?_;have z:=B.bx;simp only[kE,bq] at ho;simp only[JI,dy z,u0,u1,z,kn,aj,cT,↓uL];refine yV (L w.ac) (λk _ g=>∃l,cm g b w ns (out++(aH k).flatMap (jy ns (L w.ac))) n l/\Ad Y g b a l) ⟨a,by simpa using B,Ad.refl _ _ _⟩ ?_;rintro k _ F q ⟨a1,M,H⟩;have l1:=fU (f:=jy ns (L w.ac)) q;simp+contextual only[ajI,au,aI,u0,u1,cT,↓uL];refine⟨λh=>?_,λh=>?_⟩;have T:=aL h;rw[fX (by omega)];have W:=fU (f:=jy ns (L w.ac)) (show k+1<=L w.ac by omega);rw[cr,bq] at W;have ag:L ((aH (L w.ac)).flatMap (my ns k))=L (jy ns (L w.ac) k):=rfl;refine AI (α:=Unit) (λ_ i=>[iv i]) 0 (L w.ac) (k+1) (by omega) (λj _ g=>∃l,cm g b w ns (out++(aH k).flatMap (jy ns (L w.ac))++(aH j).flatMap (my ns k)) n l/\Ad Y g b a l/\k<j) (s0:=()) ⟨a1,by rw[aol (k:=k+1) (λj G=>by simp[my];omega),cL];exact M,H,by omega⟩ ?_;rintro j _ Y2 G ⟨y,o,u,S⟩;have l2:=fU (f:=my ns k) G;simp+contextual only[ajJ,au,aI,u0,u1,cT,↓uL];refine⟨λm=>?_,λm=>?_⟩;refine kV o e _ _ ?_;simp only[ajy,au,↓uL];refine kV o e _ _ ?_;simp only[ajx,fi,bQ,ajw,↓uL];refine fQ o (by simp only[bq];omega) [_,_] λx N c t=>?_;simp only[ajp,au,u0,u1,↓uL];refine yU (aL m) ⟨x,?_,u.trans t,by omega⟩;rw[cr,<-cC,my,if_pos S];exact c;refine yU T ⟨y,?_,u⟩;rw[cr,<-cC,show jy ns (L w.ac) k=(aH j).flatMap (my ns k) by rw[jy,bP (bw m) G]];exact o;have s:k=L w.ac:=bP q (bw h);subst s;refine yV (L w.ac) (λk _ g=>∃l,cm g b w ns (out++(aH (L w.ac)).flatMap (jy ns (L w.ac))++(aH k).flatMap (kY ns w)) n l/\Ad Y g b a l) ⟨a1,by simpa using M,H⟩ ?_;rintro k _ Y2 q ⟨y,o,u⟩;have l2:=fU (f:=kY ns w) q;simp+contextual only[ajG,au,aI,u0,u1,di,ajE,K9,ar,cT,↓uL];refine⟨λh=>⟨⟨by omega,bA h⟩,λm=>?_,λm=>?_⟩,λh=>?_⟩;have C:=fU (f:=kY ns w) (show k+1<=L w.ac from aL h);have P:kY ns w k=[[lB ns (lw w.ac k) k],[-lE ns k,lE ns (lw w.ac k)]]:=(by rw[kY,if_pos (of_decide_eq_true m)]);rw[cr,P,bq] at C;simp only[bZ,bO] at C;refine kV o e _ _ ?_;simp only[ajD,f7,bQ,ajC,↓uL];refine fQ o (by simp only[bq];omega) [_] λx N c t=>?_;simp only[ajB,au,↓uL];refine ig c e _ ?_;simp only[ajA,de e,aY,↓uL];refine ig c e _ ?_;simp only[ajz,fi,bQ,↓uL];refine fQ c (by simp only[bq,bZ,bO];omega) [_,_] λO Y4 v E=>?_;simp only[JJ,au,aI,u0,u1,↓uL];refine yU (aL h) ⟨O,?_,(u.trans t).trans E⟩;rw[cr,P];simpa using v;simp only[JJ,au,aI,u0,u1,↓uL];refine yU (aL h) ⟨y,?_,u⟩;rw[cr,kY,if_neg (of_decide_eq_false m),cL];exact o;have s:k=L w.ac:=bP q (bw h);subst s;refine yV (L w.ac) (λk _ g=>∃l,cm g b w ns (out++(aH (L w.ac)).flatMap (jy ns (L w.ac))++(aH (L w.ac)).flatMap (kY ns w)++(aH k).flatMap (mA ns w)) n l/\Ad Y g b a l) ⟨y,by simpa using o,u⟩ ?_;rintro k _ N q ⟨x,c,t⟩;have A:=c.bx;have l3:=fU (f:=mA ns w) q;simp+contextual only[ajH,au,aI,u0,u1,di,ajF,K9,ar,dy A,A,kn,aj,↓uL];refine⟨λh=>⟨⟨by omega,bA h⟩,λm=>?_,λm=>?_⟩,λh=>?_⟩;have D:=fU (f:=mA ns w) (show k+1<=L w.ac from aL h);have R:mA ns w k=[[-lE ns k,lE ns (kr w k)],[-lE ns k,lB ns (kr w k) k]]:=(by rw[mA,if_pos (of_decide_eq_true m)]);rw[cr,R,bq] at D;simp only[bZ,bO] at D;refine ig c e _ ?_;simp only[ajv,de e,aY,↓uL];refine ig c e _ ?_;simp only[aju,fi,bQ,ajt,↓uL];refine fQ c (by simp only[bq];omega) [_,_] λO Y4 v E=>?_;simp only[ajs,au,↓uL];refine ig v e _ ?_;simp only[ajr,de e,aY,au,↓uL];refine kV v e _ _ ?_;simp only[ajq,fi,bQ,↓uL];refine fQ v (by simp only[bq,bZ,bO];omega) [_,_] λa5 Y5 Z X=>?_;simp only[JK,au,aI,u0,u1,↓uL];refine yU (aL h) ⟨a5,?_,(t.trans E).trans X⟩;rw[cr,R];simpa using Z;simp only[JK,au,aI,u0,u1,↓uL];refine yU (aL h) ⟨x,?_,t⟩;rw[cr,mA,if_neg (of_decide_eq_false m),cL];exact c;have s:k=L w.ac:=bP q (bw h);subst s;exact⟨x,rfl,by simpa[kE] using c,t⟩
theorem aw6(B:cm Y b w ns out n a)(g:L ns<100000)(i:L w.ac<=16)(h:L out+L (kE ns w)<1000000000)(f:∀e c,cm c b w ns (out++kE ns w) n e->Ad Y c b a e->K (.t []) c):cB Az [.p b 0 0] Y d K:=ub rfl (aCP B g i h) f
def jc(ns:List ap)(w:am)(x:Int):List (List Int):=[-lE ns x]::(if 0<=lw w.ac x then[[lE ns (lw w.ac x)]] else[])
theorem aCB(B:cm Y b w ns out n a)(g:L ns<100000)(s:L w.ac<=16)(q:L out<999999990)(x:Int)(m:aF (L w.ac) x):∃r e,sj Y b w ns out (jc ns w x) n a r e/\cZ aS GG xX [.p b 0 0,iv x] Y r e:=by refine aMq B.le ?_;simp only[Jw,↓uL];refine ig B g _ ?_;simp only[ahp,de g,aY,f7,bQ,↓uL];refine fQ B (by omega) [_] λa1 e c i=>?_;have f:=c.bx;simp+contextual only[aho,dy f,u0,u1,f,kn,aj,fsN,ar,cT,↓uL];refine⟨⟨by omega,m⟩,λh=>?_,λh=>?_⟩;refine ig c g _ ?_;simp only[ahn,f7,bQ,↓uL];refine fQ c (by simp;omega) [_] λl o k j=>⟨l,rfl,?_,i.trans j⟩;rw[jc,if_pos (of_decide_eq_true h)];simpa using k;refine⟨a1,rfl,?_,i⟩;rw[jc,if_neg (of_decide_eq_false h)];exact c
theorem alF(B:cm Y b w ns out n a)(g:L ns<100000)(i:L w.ac<=16)(h:L out<999999990)(x:Int)(j:aF (L w.ac) x)(f:∀e c,cm c b w ns (out++jc ns w x) n e->Ad Y c b a e->K (.t []) c):cB xX [.p b 0 0,iv x] Y d K:=ub rfl (aCB B g i h x j) f
def jI(ns:List ap)(e f c:Int):List (List Int):=
 if f<0 then[[-lE ns e,-lE ns c,-lB ns e c]] else[[-lE ns e,-lE ns c,-lB ns e c,lE ns f],[-lE ns e,-lE ns c,-lB ns e c,lB ns f c]]
theorem aCt(B:cm Y b w ns out n a)(c:L ns<100000)(ho:L out<999999990)(P z A T C S:Int)(O R:Bool):∃r j,sj Y b w ns out (jI ns z A C) n a r j/\cZ aS GG xW [.p b 0 0, .a [iv P,iv z,iv A,bv O], .a [iv T,iv C,iv S,bv R]] Y r j:=by refine aMl B.le rfl rfl λN v4 v5 F Z _ _ k H=>?_;have m:Fx Y N []:=F.fx [];have f:=B.kp m;have M:∀{p q s t:AV},aN J ([p,q,s,t].drop 1)=V q:=rfl;have y:∀{p q s t:AV},aN J ([p,q,s,t].drop 2)=V s:=rfl;simp only[Jq,u0,u1,k,H,M,aj,↓uL];refine ig f c _ ?_;simp only[agl,de c,aY,↓uL];refine ig f c _ ?_;simp only[agt,de c,aY,↓uL];refine kV f c _ _ ?_;simp only[ags,de c,aY,xA,bQ,↓uL];have u:∀{Y:ae} {p q s:Int} {K:bd},rV (cz 1 Y (.l ([p,q,s].map ci) U U) (iv 0)) K=K (.q [iv p]):=λ{Y p q s K}=>rfl;have v:∀{Y:ae} {p q s:Int} {K:bd},rV (cz 1 Y (.l ([p,q,s].map ci) U U) (iv 1)) K=K (.q [iv q]):=λ{Y p q s K}=>rfl;have x:∀{Y:ae} {p q s:Int} {K:bd},rV (cz 1 Y (.l ([p,q,s].map ci) U U) (iv 2)) K=K (.q [iv s]):=λ{Y p q s K}=>rfl;simp+contextual only[agr,u0,u1,k,y,aj,u,v,x,iF,↓uL];refine⟨λh=>?_,λh=>?_⟩;refine fQ f (by omega) [_,_,_] λa1 j i g=>⟨a1,rfl,?_,Ad.pre m g⟩;rw[jI,if_pos (of_decide_eq_true h)];exact i;refine ig (d:=46) f c _ ?_;simp only[agq,vR,bQ,agp,↓uL];refine fQ f (by omega) [_,_,_,_] λa1 j i g=>?_;have o:=g.keep k (by intro e;have:=B.sb;rw[<-e] at this;simp[sB] at this) (f.nv k (.inl rfl));simp only[ago,↓uL];refine dT ?_ ?_;obtain⟨W,X⟩:=b;have:=B.sb;simp only at this;subst this;simp[eL,lb,cq,cD,dC,dK];simp only[u0,u1,o,y,aj,u,v,x,iF,↓uL];refine kV (d:=0) i c _ _ ?_;simp only[agn,vR,bQ,agm,↓uL];refine fQ i (by simp;omega) [_,_,_,_] λG Y2 E D=>?_;simp only[agk,↓uL];refine dT ?_ ⟨G,rfl,?_,Ad.pre m (g.trans D)⟩;simp[eL,lb,cq,cD,dC,dK];rw[jI,if_neg (of_decide_eq_false h)];simpa using E
end
def ao8:dO:=ao7
theorem Bu:eJ ao8:=Bt
def Dn:=@fsN
def auu:=bi 2 []
def IV a0 s0 R:=eV (bS 3 fB 8 s0 4 (.l [] U U) a0) λt1 a=>bz R a [t1]
theorem aJv{a:AV}{s0:ae}{R:be}(h:IV a s0 R):EB tc [a] s0 R:=zB auu Bu Tryz.func141 h
theorem aLX{a:AV}{s0:ae}{R:be}(hs:L s0=4096)(h:IV a s0 R):EB tc [a] s0 R:=by refine aJv ?_;exact h
def auW:=bi 25 [(1,([2],[0])),(7,([39],[0,2,3,37,38])),(13,([49],[0,2,3,5,37,38,39,47,48])),(16,([],[0,2,3,5,37,38,39,47,48,49]))]
def ahi vs36(c:aG)(a:bu) s37(d:eQ) s40:=∀_:Rg,aV (gt vs36 0) (iv 1) λb=>c [b] s40/\a [b] s40<a vs36 s37
def ag8 q_44 t96 s95 t98 p_30 t101 t103 s99 t100 t105 s108(a:aG)(b:AV) s110:=dH [lzz,lzz,(lz q_44),(lz t96),(cq U s95),(lz t98),lzz,(lz p_30),(lz t101),(lz q_44),(lz t103),(cq U s99),(lb I [t100,t105] []),(cq I s108)] [(0,4),(4,6),(4,7),(4,8),(4,9),(4,10),(0,11),(5,11),(0,12)] (a [] s110)
def aha a0 q_44 t96 s95 t98 p_30 t101 t103 s99 t100 t105 J39 t107 s108:=cB eP [a0,t107] s108 99 (ag8 q_44 t96 s95 t98 p_30 t101 t103 s99 t100 t105 s108 J39)
def ahb t100 a0 q_44 t96 s95 t98 p_30 t101 t103 s99 J39 t105 s106:=eV (aX bH 2 s106 [(0,t100),(1,t105)]) (aha a0 q_44 t96 s95 t98 p_30 t101 t103 s99 t100 t105 J39)
def ahc p_30 q_44 a0 t96 s95 J39 t98 s99:=rV (cR .neg t98) λc=>aB 2 s99 p_30 λa=>aM s99 a λd=>aB 1 s99 q_44 λb=>aM s99 b λe=>cB jP [a0,d,e] s99 97 (ahb c a0 q_44 t96 s95 t98 p_30 a b s99 J39)
def ahd q_44 t83 s46 t85 p_30 t88 s86 t87 t90 s93 a0 J39(c:AV) s95:=dH [lzz,lzz,(lz q_44),(lz t83),(cq U s46),(lz t85),lzz,(lz p_30),(lz t88),(cq U s86),(lb I [t87,t90] []),(cq I s93)] [(0,4),(4,6),(4,7),(4,8),(0,9),(5,9),(0,10)] (aB 1 s95 q_44 λa=>aM s95 a λb=>cB gJ [a0,b] s95 90 (ahc p_30 q_44 a0 a s95 J39))
def ahe a0 q_44 t83 s46 t85 p_30 t88 s86 t87 t90 J39 t92 s93:=cB eP [a0,t92] s93 85 (ahd q_44 t83 s46 t85 p_30 t88 s86 t87 t90 s93 a0 J39)
def ahf t87 a0 q_44 t83 s46 t85 p_30 t88 s86 J39 t90 s91:=eV (aX bH 2 s91 [(0,t87),(1,t90)]) (ahe a0 q_44 t83 s46 t85 p_30 t88 s86 t87 t90 J39)
def ahg p_30 a0 q_44 t83 s46 J39 t85 s86:=rV (cR .neg t85) λb=>aB 2 s86 p_30 λa=>aM s86 a λc=>cB gJ [a0,c] s86 83 (ahf b a0 q_44 t83 s46 t85 p_30 a s86 J39)
def ahh q_44 p_30 a0(d:aG)(e:AV) s114:=aw 4 s114 q_44 λb=>aw 4 s114 p_30 λc=>cB xW [a0,b,c] s114 107 λf a=>d [] a
def Jv p_30 q_44(b:aG) a0 s46:=ag 0 s46 p_30 λh=>ag 0 s46 q_44 λi=>al h i λa=>bn a 3 s46 p_30 λj=>bG a j λd=>aT d 3 s46 q_44 λk=>aC a (aD d k (bv I)) λl=>aD a (bv U) l λc=>bn c 1 s46 q_44 λm=>aC c (aU m (iv 0)) λn=>aD c (bv U) n λo=>ah o (b [] s46) (ag 1 s46 p_30 λp=>aU p (iv 0) λq=>ah q (aB 1 s46 q_44 λe=>aM s46 e λr=>cB gJ [a0,r] s46 78 (ahg p_30 a0 q_44 e s46 b)) (aw 4 s46 p_30 λf=>aw 4 s46 q_44 λg=>cB xW [a0,f,g] s46 103 (ahh q_44 p_30 a0 b)))
def ahj s37 t34 vs36 p_30 a0 J39:=ao 4 s37 t34 (gt vs36 0) λc=>aw 4 s37 c λd=>eV (bs 162 rq s37 7) λa b=>sV (aK 4 b a d) (Jv p_30 a J39 a0)
def ahl t35 t34 p_30 a0 vs25(c:aG)(b:bu) s26 I36 m36 vs36 s37:=∀_:Rg,aU (gt vs36 0) t35 λd=>ah d (jV 16 (ahi vs36 I36 m36 s37) (ahj s37 t34 vs36 p_30 a0)) (aV (gt vs25 0) (iv 1) λa=>c [a] s37/\b [a] s37<b vs25 s26)
def ag9 vs25 t23 p_30 a0 I25 m25 s26 s32:=aV (gt vs25 0) (iv 1) λb=>rV (fo 4 s32 t23 (V b) J J) λa=>aJ s32 a λc=>lV [(iv 0)] s32 (ahl c a p_30 a0 vs25 I25 m25 s26)
def ahm t24 t23 a0 vs1(g:aG)(m1:bu) s2 I25 m25 vs25 s26:=∀_:Rg,aU (gt vs25 0) t24 λd=>ah d (ao 4 s26 t23 (gt vs25 0) λe=>aw 4 s26 e λf=>eV (bs 162 rq s26 5) λa c=>sV (aK 4 c a f) (ag9 vs25 t23 a a0 I25 m25 s26)) (aV (gt vs1 0) (iv 1) λb=>g [b] s26/\m1 [b] s26<m1 vs1 s2)
def ahk a0 R I1 m1 vs1 s2:=∀_:Rg,rV (cO s2 a0) λt3=>aB 0 s2 t3 λt4=>aB 0 s2 t4 λo=>ag 1 s2 o λp=>aJ s2 p λq=>aO .leq (gt vs1 0) q λr=>ah r (rV (cO s2 a0) λb=>aB 0 s2 b λc=>aB 0 s2 c λd=>aw 6 s2 d λe=>rV (cO s2 a0) λf=>aB 0 s2 f λg=>aB 7 s2 g λh=>aB 0 s2 h λi=>aw 4 s2 i λj=>rV (cO s2 a0) λk=>aB 0 s2 k λl=>ag 14 s2 l λm=>fV FX s2 [e,j,m,(gt vs1 0)] λa=>aJ s2 a λn=>lV [(iv 0)] s2 (ahm n a a0 vs1 I1 m1 s2)) (bz R s2 [])
def Ju a0 s0 R:=lV [(iv 0)] s0 (ahk a0 R)
theorem aJF{a:AV}{s0:ae}{R:be}(h:Ju a s0 R):EB Ay [a] s0 R:=zB auW Bu Tryz.func86 h
theorem aMp{a:AV}{s0:ae}{R:be}(hs:L s0=4096)(h:Ju a s0 R):EB Ay [a] s0 R:=by refine aJF ?_;exact h
def auY:=bi 85 [(3,([31],[0,2,29,30])),(6,([],[0,2,29,30,31])),(14,([78],[0,2,76,77])),(20,([88],[0,2,7,76,77,78,86,87])),(23,([],[0,2,7,76,77,78,86,87,88])),(28,([122],[0,2,120,121])),(34,([132],[0,2,11,120,121,122,130,131])),(37,([],[0,2,11,120,121,122,130,131,132])),(42,([179],[0,2,177,178])),(48,([16],[0,2,15,177,178,179])),(52,([16,209],[0,2,15,177,178,179,207,208])),(55,([16],[0,2,15,177,178,179,207,208,209])),(60,([261],[0,2,15,16,177,178,179,259,260])),(63,([],[0,2,15,16,177,178,179,259,260,261])),(67,([306],[0,2,304,305])),(70,([],[0,2,304,305,306])),(79,([338],[0,2,21,23,304,305,306,336,337])),(82,([],[0,2,21,23,304,305,306,336,337,338]))]
def aih vs4(c:aG)(a:bu) s5(d:eQ) s8:=∀_:Rg,aV (gt vs4 0) (iv 1) λb=>c [b] s8/\a [b] s8<a vs4 s5
def ahq t44 a0(d:aG) t49 s50:=eV (aX bH 2 s50 [(0,t44),(1,t49)]) λc a=>cB eP [a0,c] a 74 λe b=>d [] b
def ahB t21 x_12 a0 J7(d:AV) s43:=rV (cR .neg t21) λa=>ag 2 s43 x_12 λb=>ag 1 s43 x_12 λc=>cB jP [a0,b,c] s43 72 (ahq a a0 J7)
def ahK a0 t21 x_12 J7 t40 s41:=cB eP [a0,t40] s41 63 (ahB t21 x_12 a0 J7)
def ahV t35 a0 t21 x_12 J7 t38 s39:=eV (aX bH 2 s39 [(0,t35),(1,t38)]) (ahK a0 t21 x_12 J7)
def ah6 x_12 t21 a0(a:aG)(f:AV) s31:=ag 2 s31 x_12 λb=>aO .geq b (iv 0) λc=>ah c (rV (cR .neg t21) λd=>ag 2 s31 x_12 λe=>cB gJ [a0,e] s31 61 (ahV d a0 t21 x_12 a)) (a [] s31)
def aia a0 x_12 t21 J7 t28 s29:=cB eP [a0,t28] s29 51 (ah6 x_12 t21 a0 J7)
def aib t23 a0 x_12 t21 J7 t26 s27:=eV (aX bH 2 s27 [(0,t23),(1,t26)]) (aia a0 x_12 t21 J7)
def aic x_12 a0 J7 t21 s22:=rV (cR .neg t21) λa=>ag 1 s22 x_12 λb=>cB gJ [a0,b] s22 49 (aib a a0 x_12 t21 J7)
def aid x_12 a0 J7 s14:=ag 0 s14 x_12 λa=>ag 1 s14 x_12 λb=>ag 2 s14 x_12 λc=>cB kI [a0,a,b,c] s14 42 (aic x_12 a0 J7)
def aim s5 t1 vs4 a0 J7:=ao 3 s5 t1 (gt vs4 0) λc=>aw 3 s5 c λd=>eV (bs 66 dM s5 4) λa b=>sV (aK 3 b a d) (aid a a0 J7)
def aie vs67(c:aG)(a:bu) s68(d:eQ) s71:=∀_:Rg,aV (gt vs67 0) (iv 1) λb=>c [b] s71/\a [b] s71<a vs67 s68
def ahr x_61 t83 t85 t87 s77 t89 y_75 t92 t94 t96 s90 t98 t91 t100 s102(a:aG)(b:AV) s104:=dH [lzz,lzz,(lz x_61),(lz t83),(lz x_61),(lz t85),(lz x_61),(lz t87),(cq U s77),(lz t89),lzz,(lz y_75),(lz t92),(lz y_75),(lz t94),(lz y_75),(lz t96),(cq U s90),(lz t98),(lb I [t91,t100] []),(cq I s102)] [(0,8),(8,10),(8,11),(8,12),(8,13),(8,14),(8,15),(8,16),(0,17),(9,17),(0,19)] (a [] s104)
def ahs a0 x_61 t83 t85 t87 s77 t89 y_75 t92 t94 t96 s90 t98 t91 t100 J70 t101 s102:=cB eP [a0,t101] s102 117 (ahr x_61 t83 t85 t87 s77 t89 y_75 t92 t94 t96 s90 t98 t91 t100 s102 J70)
def aht t91 a0 x_61 t83 t85 t87 s77 t89 y_75 t92 t94 t96 s90 J70 t98 s99:=rV (cR .neg t98) λa=>eV (aX bH 2 s99 [(0,t91),(1,a)]) (ahs a0 x_61 t83 t85 t87 s77 t89 y_75 t92 t94 t96 s90 t98 t91 a J70)
def ahu y_75 a0 x_61 t83 t85 t87 s77 J70 t89 s90:=rV (cR .neg t89) λd=>aB 0 s90 y_75 λa=>aM s90 a λe=>aB 1 s90 y_75 λb=>aM s90 b λf=>aB 2 s90 y_75 λc=>aM s90 c λg=>cB kI [a0,e,f,g] s90 114 (aht d a0 x_61 t83 t85 t87 s77 t89 y_75 a b c s90 J70)
def ahv x_61 y_75 a0(a:aG) s77:=ag 2 s77 x_61 λe=>ag 2 s77 y_75 λf=>al e f λg=>ah g (aB 0 s77 x_61 λb=>aM s77 b λh=>aB 1 s77 x_61 λc=>aM s77 c λi=>aB 2 s77 x_61 λd=>aM s77 d λj=>cB kI [a0,h,i,j] s77 105 (ahu y_75 a0 x_61 b c d s77 a)) (a [] s77)
def aii s68 t65 vs67 x_61 a0 J70:=ao 3 s68 t65 (gt vs67 0) λc=>aw 3 s68 c λd=>eV (bs 66 dM s68 9) λa b=>sV (aK 3 b a d) (ahv x_61 a a0 J70)
def air t66 t65 x_61 a0 vs56(c:aG)(b:bu) s57 I67 m67 vs67 s68:=∀_:Rg,aU (gt vs67 0) t66 λd=>ah d (jV 23 (aie vs67 I67 m67 s68) (aii s68 t65 vs67 x_61 a0)) (aV (gt vs56 0) (iv 1) λa=>c [a] s68/\b [a] s68<b vs56 s57)
def ahw vs56 t1 x_61 a0 I56 m56 s57 s63:=aV (gt vs56 0) (iv 1) λb=>rV (fo 3 s63 t1 (V b) J J) λa=>aJ s63 a λc=>lV [(iv 0)] s63 (air c a x_61 a0 vs56 I56 m56 s57)
def aif vs118(c:aG)(a:bu) s119(d:eQ) s122:=∀_:Rg,aV (gt vs118 0) (iv 1) λb=>c [b] s122/\a [b] s122<a vs118 s119
def ahx x_112 t167 t169 t171 s128 t173 y_126 t176 t178 t180 s174 t182 t175 t184 s186(a:aG)(b:AV) s188:=dH [lzz,lzz,(lz x_112),(lz t167),(lz x_112),(lz t169),(lz x_112),(lz t171),(cq U s128),(lz t173),lzz,(lz y_126),(lz t176),(lz y_126),(lz t178),(lz y_126),(lz t180),(cq U s174),(lz t182),(lb I [t175,t184] []),(cq I s186)] [(0,8),(8,10),(8,11),(8,12),(8,13),(8,14),(8,15),(8,16),(0,17),(9,17),(0,19)] (a [] s188)
def ahy a0 x_112 t167 t169 t171 s128 t173 y_126 t176 t178 t180 s174 t182 t175 t184 J121 t185 s186:=cB eP [a0,t185] s186 174 (ahx x_112 t167 t169 t171 s128 t173 y_126 t176 t178 t180 s174 t182 t175 t184 s186 J121)
def ahz t175 a0 x_112 t167 t169 t171 s128 t173 y_126 t176 t178 t180 s174 J121 t182 s183:=rV (cR .neg t182) λa=>eV (aX bH 2 s183 [(0,t175),(1,a)]) (ahy a0 x_112 t167 t169 t171 s128 t173 y_126 t176 t178 t180 s174 t182 t175 a J121)
def ahA y_126 a0 x_112 t167 t169 t171 s128 J121 t173 s174:=rV (cR .neg t173) λd=>aB 0 s174 y_126 λa=>aM s174 a λe=>aB 1 s174 y_126 λb=>aM s174 b λf=>aB 2 s174 y_126 λc=>aM s174 c λg=>cB kI [a0,e,f,g] s174 171 (ahz d a0 x_112 t167 t169 t171 s128 t173 y_126 a b c s174 J121)
def Jy x_112 y_126 a0(b:aG) s128:=ag 1 s128 x_112 λf=>ag 1 s128 y_126 λg=>al f g λa=>bB a a0 λh=>az a (rV (cO s128 h)) λi=>az a (aB 0 s128 i) λj=>aT a 14 s128 j λk=>aT a 1 s128 x_112 λl=>az a (ao 7 s128 k l) λm=>aT a 1 s128 m λn=>az a (al n (iv 18)) λo=>aD a o (bv I) λp=>ah p (aB 0 s128 x_112 λc=>aM s128 c λq=>aB 1 s128 x_112 λd=>aM s128 d λr=>aB 2 s128 x_112 λe=>aM s128 e λs=>cB kI [a0,q,r,s] s128 162 (ahA y_126 a0 x_112 c d e s128 b)) (b [] s128)
def aij s119 t116 vs118 x_112 a0 J121:=ao 3 s119 t116 (gt vs118 0) λc=>aw 3 s119 c λd=>eV (bs 66 dM s119 13) λa b=>sV (aK 3 b a d) (Jy x_112 a a0 J121)
def aiu t117 t116 x_112 a0 vs107(c:aG)(a:bu) s108 I118 m118 vs118 s119:=∀_:Rg,aU (gt vs118 0) t117 λd=>ah d (jV 37 (aif vs118 I118 m118 s119) (aij s119 t116 vs118 x_112 a0)) (aV (gt vs107 0) (iv 1) λb=>c [b] s119/\a [b] s119<a vs107 s108)
def ahC vs107 t1 x_112 a0 I107 m107 s108 s114:=aV (gt vs107 0) (iv 1) λb=>rV (fo 3 s114 t1 (V b) J J) λa=>aJ s114 a λc=>lV [(iv 0)] s114 (aiu c a x_112 a0 vs107 I107 m107 s108)
def JA vs209(c:aG)(a:bu) s210 vs212 s213:=∀_:Rg,aV (gt vs209 1) (iv 1) λb=>c [(gt vs212 0),b] s213/\a [(gt vs212 0),b] s213<a vs209 s210
def ahD vs209(a:aG) t282 s283:=eV (aX bH 1 s283 [(0,t282)]) λd b=>eV (bS 3 fB 8 b 246 (gt vs209 0) d) λe c=>a [e] c
def ahE y_217 x_196 a0 vs209(c:aG) s219:=aw 3 s219 y_217 λd=>aw 3 s219 x_196 λe=>rV (eu .eql 2 [(0,0),(1,0),(2,0)] d e) λb=>bn b 1 s219 y_217 λf=>bn b 1 s219 x_196 λg=>aC b (al f g) λh=>bG b h λa=>bB a a0 λi=>az a (rV (cO s219 i)) λj=>az a (aB 0 s219 j) λk=>aT a 14 s219 k λl=>aT a 1 s219 x_196 λm=>az a (ao 7 s219 l m) λn=>aT a 1 s219 n λo=>az a (al o (iv 18)) λp=>aC b (aD a p (bv I)) λq=>aD b (bv U) q λr=>ah r (ag 0 s219 y_217 λs=>ag 1 s219 y_217 λt=>ag 2 s219 y_217 λu=>cB kI [a0,s,t,u] s219 244 (ahD vs209 c)) (c [(gt vs209 0)] s219)
def ail s210 t1 vs209 x_196 a0 J212:=ao 3 s210 t1 (gt vs209 1) λc=>aw 3 s210 c λd=>eV (bs 66 dM s210 18) λa b=>sV (aK 3 b a d) (ahE a x_196 a0 vs209 J212)
def JB vs301(c:aG)(a:bu) s302(d:eQ) s305:=∀_:Rg,aV (gt vs301 0) (iv 1) λb=>c [b] s305/\a [b] s305<a vs301 s302
def ahF vs209 y_309 t335 t337 t339 s334 t341 t344 x_196 t346 s342 t343 t348 t333 t350 s353(a:aG)(b:AV) s355:=dH [lzz,lzz,(lb I [(.f 141 [] []),(gt vs209 0)] [279]),lzz,(lz y_309),(lz t335),(lz y_309),(lz t337),(lz y_309),(lz t339),(cq U s334),(lz t341),lzz,(lz y_309),(lz t344),(lz x_196),(lz t346),(cq U s342),(lb I [t343,t348] []),(lb I [t333,t350] [296]),(cq I s353)] [(0,2),(2,3),(2,4),(2,5),(2,6),(2,7),(2,8),(2,9),(0,10),(2,12),(10,12),(2,13),(10,13),(2,14),(10,14),(2,15),(10,15),(2,16),(10,16),(0,17),(11,17),(0,18),(0,19)] (a [] s355)
def ahG a0 vs209 y_309 t335 t337 t339 s334 t341 t344 x_196 t346 s342 t343 t348 t333 t350 J304 t352 s353:=cB eP [a0,t352] s353 297 (ahF vs209 y_309 t335 t337 t339 s334 t341 t344 x_196 t346 s342 t343 t348 t333 t350 s353 J304)
def ahH t343 t333 a0 vs209 y_309 t335 t337 t339 s334 t341 t344 x_196 t346 s342 J304 t348 s349:=eV (aX bH 2 s349 [(0,t343),(1,t348)]) λa b=>eV (bS 3 fB 8 b 296 t333 a) (ahG a0 vs209 y_309 t335 t337 t339 s334 t341 t344 x_196 t346 s342 t343 t348 t333 a J304)
def ahI y_309 x_196 a0 t333 vs209 t335 t337 t339 s334 J304 t341 s342:=rV (cR .neg t341) λc=>aB 1 s342 y_309 λa=>aM s342 a λd=>aB 1 s342 x_196 λb=>aM s342 b λe=>cB jP [a0,d,e] s342 294 (ahH c t333 a0 vs209 y_309 t335 t337 t339 s334 t341 a x_196 b s342 J304)
def ahJ y_309 a0 x_196 vs209 J304 t333 s334:=aB 0 s334 y_309 λa=>aM s334 a λd=>aB 1 s334 y_309 λb=>aM s334 b λe=>aB 2 s334 y_309 λc=>aM s334 c λf=>cB kI [a0,d,e,f] s334 287 (ahI y_309 x_196 a0 t333 vs209 a b c s334 J304)
def Jz y_309 x_196 vs209 a0(b:aG) s311:=ag 2 s311 y_309 λc=>ag 2 s311 x_196 λd=>al c d λa=>aT a 1 s311 y_309 λe=>aT a 1 s311 x_196 λf=>az a (aO .neq e f) λg=>aD a g (bv I) λh=>ah h (cN tc [(gt vs209 0)] s311 279 (ahJ y_309 a0 x_196 vs209 b)) (b [] s311)
def ain s302 t1 vs301 x_196 vs209 a0 J304:=ao 3 s302 t1 (gt vs301 0) λc=>aw 3 s302 c λd=>eV (bs 66 dM s302 20) λa b=>sV (aK 3 b a d) (Jz a x_196 vs209 a0 J304)
def aix t300 t1 x_196 vs209 a0 vs191(c:aG)(a:bu) s192 I301 m301 vs301 s302:=∀_:Rg,aU (gt vs301 0) t300 λd=>ah d (jV 63 (JB vs301 I301 m301 s302) (ain s302 t1 vs301 x_196 vs209 a0)) (aV (gt vs191 0) (iv 1) λb=>c [b] s302/\a [b] s302<a vs191 s192)
def ahL vs209 x_196 t290 t292 s289 t288 t294 s297 t1 a0 vs191 I191 m191 s192(b:AV) s299:=dH [lzz,lzz,(lb I [(.f 141 [] []),(gt vs209 0)] [250]),lzz,(lz x_196),(lz t290),(lz x_196),(lz t292),(cq U s289),(lb I [t288,t294] [257]),(cq I s297)] [(0,2),(2,3),(2,4),(2,5),(2,6),(2,7),(0,8),(0,9)] (aJ s299 t1 λa=>lV [(iv 0)] s299 (aix a t1 x_196 vs209 a0 vs191 I191 m191 s192))
def ahM a0 vs209 x_196 t290 t292 s289 t288 t294 t1 vs191 I191 m191 s192 t296 s297:=cB eP [a0,t296] s297 258 (ahL vs209 x_196 t290 t292 s289 t288 t294 s297 t1 a0 vs191 I191 m191 s192)
def ahN t288 a0 vs209 x_196 t290 t292 s289 t1 vs191 I191 m191 s192 t294 s295:=eV (bS 3 fB 8 s295 257 t288 t294) (ahM a0 vs209 x_196 t290 t292 s289 t288 t294 t1 vs191 I191 m191 s192)
def ahO x_196 a0 vs209 t1 vs191 I191 m191 s192 t288 s289:=aB 2 s289 x_196 λa=>aM s289 a λc=>aB 1 s289 x_196 λb=>aM s289 b λd=>cB wi [a0,c,d] s289 256 (ahN t288 a0 vs209 x_196 a b s289 t1 vs191 I191 m191 s192)
def aiw t208 t1 x_196 a0 vs191 I191 m191 s192 I209 m209 vs209 s210:=∀_:Rg,aU (gt vs209 1) t208 λa=>ah a (jV 55 (JA vs209 I209 m209 s210) (ail s210 t1 vs209 x_196 a0)) (cN tc [(gt vs209 0)] s210 250 (ahO x_196 a0 vs209 t1 vs191 I191 m191 s192))
def aig t1 x_196 a0 vs191 I191 m191 s192 vs206 s207:=∀_:Rg,aJ s207 t1 λa=>lV [(gt vs206 0),(iv 0)] s207 (aiw a t1 x_196 a0 vs191 I191 m191 s192)
def ahP x_196 t360 s205 t362 t365 t367 s363 t369 t364 t371 t204 t372(a:aG) t374 s375:=dH [lzz,lzz,(lz x_196),(lz t360),(cq U s205),(lz t362),lzz,(lz x_196),(lz t365),(lz x_196),(lz t367),(cq U s363),(lz t369),(lb I [t364,t371] []),(lb I [t204,t372] [206]),lzz] [(0,4),(4,6),(4,7),(4,8),(4,9),(4,10),(0,11),(5,11),(0,13)] (a [t374] s375)
def ahQ t364 t204 x_196 t360 s205 t362 t365 t367 s363 J206 t369 s370:=rV (cR .neg t369) λa=>eV (aX bH 2 s370 [(0,t364),(1,a)]) λb c=>eV (bS 3 fB 8 c 206 t204 b) (ahP x_196 t360 s205 t362 t365 t367 s363 t369 t364 a t204 b J206)
def ahR x_196 a0 t204 t360 s205 J206 t362 s363:=rV (cR .neg t362) λc=>aB 2 s363 x_196 λa=>aM s363 a λd=>aB 1 s363 x_196 λb=>aM s363 b λe=>cB jP [a0,d,e] s363 203 (ahQ c t204 x_196 t360 s205 t362 a b s363 J206)
def aik s205 x_196 a0 t204(a:aG):=ag 2 s205 x_196 λc=>aO .geq c (iv 0) λd=>ah d (aB 2 s205 x_196 λb=>aM s205 b λe=>cB gJ [a0,e] s205 196 (ahR x_196 a0 t204 b s205 a)) (a [t204] s205)
def ahS t1 x_196 a0 vs191 I191 m191 s192 t204 s205:=jV 48 (aig t1 x_196 a0 vs191 I191 m191 s192) (aik s205 x_196 a0 t204)
def ahT t1 x_196 a0 vs191 I191 m191 s192 t201 s202:=rV (cR .neg t201) λa=>eV (aX bH 1 s202 [(0,a)]) (ahS t1 x_196 a0 vs191 I191 m191 s192)
def ahU x_196 a0 t1 vs191 I191 m191 s192 s198:=ag 1 s198 x_196 λa=>cB gJ [a0,a] s198 186 (ahT t1 x_196 a0 vs191 I191 m191 s192)
def JC vs381(c:aG)(a:bu) s382(d:eQ) s385:=∀_:Rg,aV (gt vs381 0) (iv 1) λb=>c [b] s385/\a [b] s385<a vs381 s382
def JD vs414(c:aG)(a:bu) s415(d:eQ) s418:=∀_:Rg,aV (gt vs414 0) (iv 1) λb=>c [b] s418/\a [b] s418<a vs414 s415
def ahW s424 t428 x_422 t431 t433 t435 s429 t437 t440 s438 t430 t439 t442 s445(a:aG)(b:AV) s447:=dH [lzz,lzz,lzz,(cq U s424),(lz t428),lzz,(lz x_422),(lz t431),(lz x_422),(lz t433),(lz x_422),(lz t435),(cq U s429),(lz t437),lzz,(lz x_422),(lz t440),lzz,(cq U s438),(lb I [t430,t439,t442] []),(cq I s445)] [(0,3),(3,5),(3,6),(3,7),(3,8),(3,9),(3,10),(3,11),(0,12),(4,12),(3,14),(12,14),(3,15),(12,15),(3,16),(12,16),(3,17),(12,17),(0,18),(4,18),(13,18),(0,19)] (a [] s447)
def ahX a0 s424 t428 x_422 t431 t433 t435 s429 t437 t440 s438 t430 t439 t442 J417 t444 s445:=cB eP [a0,t444] s445 366 (ahW s424 t428 x_422 t431 t433 t435 s429 t437 t440 s438 t430 t439 t442 s445 J417)
def ahY t430 t439 a0 s424 t428 x_422 t431 t433 t435 s429 t437 t440 s438 J417 t442 s443:=eV (aX bH 3 s443 [(0,t430),(1,t439),(2,t442)]) (ahX a0 s424 t428 x_422 t431 t433 t435 s429 t437 t440 s438 t430 t439 t442 J417)
def ahZ x_422 a0 vs381 t430 s424 t428 t431 t433 t435 s429 J417 t437 s438:=rV (cR .neg t437) λb=>aB 1 s438 x_422 λa=>aM s438 a λc=>cB jP [a0,c,(gt vs381 0)] s438 364 (ahY t430 b a0 s424 t428 x_422 t431 t433 t435 s429 t437 a s438 J417)
def ah0 x_422 a0 vs381 s424 J417 t428 s429:=rV (cR .neg t428) λd=>aB 0 s429 x_422 λa=>aM s429 a λe=>aB 1 s429 x_422 λb=>aM s429 b λf=>aB 2 s429 x_422 λc=>aM s429 c λg=>cB kI [a0,e,f,g] s429 358 (ahZ x_422 a0 vs381 d s424 t428 a b c s429 J417)
def ah1 x_422 t399 a0 vs381(a:aG) s424:=ag 2 s424 x_422 λb=>al b t399 λc=>ah c (cB gJ [a0,(gt vs381 0)] s424 349 (ah0 x_422 a0 vs381 s424 a)) (a [] s424)
def aip s415 t1 vs414 t399 a0 vs381 J417:=ao 3 s415 t1 (gt vs414 0) λc=>aw 3 s415 c λd=>eV (bs 66 dM s415 26) λa b=>sV (aK 3 b a d) (ah1 a t399 a0 vs381 J417)
def aiz t413 t1 t399 a0 vs381(a:aG) I414 m414 vs414 s415:=∀_:Rg,aU (gt vs414 0) t413 λb=>ah b (jV 82 (JD vs414 I414 m414 s415) (aip s415 t1 vs414 t399 a0 vs381)) (a [] s415)
def ah2 t1 t399 a0 vs381 J384(b:AV) s412:=aJ s412 t1 λa=>lV [(iv 0)] s412 (aiz a t1 t399 a0 vs381 J384)
def ah3 a0 t1 t399 vs381 J384 t409 s410:=cB eP [a0,t409] s410 335 (ah2 t1 t399 a0 vs381 J384)
def ah4 t405 a0 t1 t399 vs381 J384 t407 s408:=eV (bS 3 fB 8 s408 334 t405 t407) (ah3 a0 t1 t399 vs381 J384)
def ah5 a0 t399 t1 vs381 J384 t405 s406:=cB wi [a0,t399,(iv (-1))] s406 333 (ah4 t405 a0 t1 t399 vs381 J384)
def ah7 a0 t399 t1 vs381 J384 t402 s403:=rV (cR .neg t402) λa=>eV (aX bH 1 s403 [(0,a)]) (ah5 a0 t399 t1 vs381 J384)
def ah8 e_389(a:aG) a0 vs381 t1 s391:=ag 1 s391 e_389 λc=>aO .neq c (iv 17) λd=>ah d (a [] s391) (rV (cO s391 a0) λe=>aB 0 s391 e λf=>aw 15 s391 f λg=>fV Cm s391 [g,(gt vs381 0)] λb=>rV (eO 0 b) λh=>rV (eO 1 b) λi=>cf i λj=>ah j (a [] s391) (cB gJ [a0,(gt vs381 0)] s391 328 (ah7 a0 h t1 vs381 a)))
def aio s382 t379 vs381 a0 t1 J384:=ao 7 s382 t379 (gt vs381 0) λc=>aw 7 s382 c λd=>eV (bs 59 ee s382 22) λa b=>sV (aK 7 b a d) (ah8 a J384 a0 vs381 t1)
def aiy t380 t379 a0 t1 R I381 m381 vs381 s382:=∀_:Rg,aU (gt vs381 0) t380 λa=>ah a (jV 70 (JC vs381 I381 m381 s382) (aio s382 t379 vs381 a0 t1)) (bz R s382 [])
def aiv t190 t1 a0 R I191 m191 vs191 s192:=∀_:Rg,aU (gt vs191 0) t190 λd=>ah d (ao 3 s192 t1 (gt vs191 0) λe=>aw 3 s192 e λf=>eV (bs 66 dM s192 15) λa c=>sV (aK 3 c a f) (ahU a a0 t1 vs191 I191 m191 s192)) (rV (cO s192 a0) λg=>aB 0 s192 g λh=>ag 14 s192 h λb=>aJ s192 b λi=>lV [(iv 0)] s192 (aiy i b a0 t1 R))
def ais t106 t1 a0 R I107 m107 vs107 s108:=∀_:Rg,aU (gt vs107 0) t106 λc=>ah c (ao 3 s108 t1 (gt vs107 0) λd=>aw 3 s108 d λe=>eV (bs 66 dM s108 11) λa b=>sV (aK 3 b a e) (ahC vs107 t1 a a0 I107 m107 s108)) (aJ s108 t1 λf=>lV [(iv 0)] s108 (aiv f t1 a0 R))
def aiq t55 t1 a0 R I56 m56 vs56 s57:=∀_:Rg,aU (gt vs56 0) t55 λd=>ah d (ao 3 s57 t1 (gt vs56 0) λe=>aw 3 s57 e λf=>eV (bs 66 dM s57 7) λa c=>sV (aK 3 c a f) (ahw vs56 t1 a a0 I56 m56 s57)) (aJ s57 t1 λb=>lV [(iv 0)] s57 (ais b t1 a0 R))
def ait t3 t1 a0 R I4 m4 vs4 s5:=∀_:Rg,aU (gt vs4 0) t3 λb=>ah b (jV 6 (aih vs4 I4 m4 s5) (aim s5 t1 vs4 a0)) (aJ s5 t1 λa=>lV [(iv 0)] s5 (aiq a t1 a0 R))
def ah9 a0 R t1 s2:=aJ s2 t1 λt3=>lV [(iv 0)] s2 (ait t3 t1 a0 R)
def Jx a0 s0 R:=cB uw [a0,(iv 5)] s0 28 (ah9 a0 R)
theorem aJH{a:AV}{s0:ae}{R:be}(h:Jx a s0 R):EB DM [a] s0 R:=zB auY Bu Tryz.func87 h
theorem aMr{a:AV}{s0:ae}{R:be}(hs:L s0=4096)(h:Jx a s0 R):EB DM [a] s0 R:=by refine aJH ?_;exact h
def au1:=bi 7 [(2,([33],[0,31,32]))]
def ajk vs22(c:aG)(a:bu) s23(d:AV) s32:=aV (gt vs22 0) (iv 1) λb=>c [b] s32/\a [b] s32<a vs22 s23
def ajl a0 vs22 I22 m22 s23 t29 s30:=cB eP [a0,t29] s30 42 (ajk vs22 I22 m22 s23)
def ajm a0 vs22 I22 m22 s23 t27 s28:=eV (aX bH 1 s28 [(0,t27)]) (ajl a0 vs22 I22 m22 s23)
def ajo t21 t20 a0 R I22 m22 vs22 s23:=∀_:Rg,aU (gt vs22 0) t21 λa=>ah a (ao 1 s23 t20 (gt vs22 0) λb=>aM s23 b λc=>cB uv [a0,c] s23 40 (ajm a0 vs22 I22 m22 s23)) (bz R s23 [])
def ajn a0 a1 R(t1:AV) s2:=rV (cO s2 a0) λt3=>aB 0 s2 t3 λt4=>aw 15 s2 t4 λj=>rV (cO s2 a0) λk=>aB 0 s2 k λl=>ag 14 s2 l λm=>ao 7 s2 m a1 λb=>ag 0 s2 b λc=>rV (cO s2 a0) λd=>aB 0 s2 d λe=>ag 14 s2 e λf=>ao 7 s2 f a1 λg=>ag 5 s2 g λh=>fV zj s2 [j,c,h] λa=>aJ s2 a λi=>lV [(iv 0)] s2 (ajo i a a0 R)
def JH a0 a1 s0 R:=cB xX [a0,a1] s0 8 (ajn a0 a1 R)
theorem aJK{a a1:AV}{s0:ae}{R:be}(h:JH a a1 s0 R):EB wh [a,a1] s0 R:=zB au1 Bu Tryz.func100 h
theorem aMu{a:AV}{a1:AV}{s0:ae}{R:be}(hs:L s0=4096)(h:JH a a1 s0 R):EB wh [a,a1] s0 R:=by refine aJK ?_;exact h
structure WV(w:am):Prop where
 ok:kB w
 dp:∀k,k<L w.ac->L (gd w.ac k).dI<10000/\L (gd w.ac k).ep<10000
 th:∀k,k<L w.ac->aF (L w.init.count) (gd w.ac k).aq/\aF (L w.init.sync.ay) (gd w.ac k).aq
 ct:∀u:Int,aF (L w.init.count) u->0<=gd w.init.count u.toNat/\gd w.init.count u.toNat<=100000
 ts:L w.init.sync.ay<=4
 lk:L w.init.sync.ak=L w.aQ.ak/\L w.aQ.ak<=4
 rd:∀l∈w.init.sync.ak,L l.bk<=100
section
variable{Y:ae}{b:Id}{w:am}{ns:List ap}{out:List (List Int)}{n a:AV}{d:Nat}{K:be}
theorem wu{l:List Int}{i:Int}{K:bd}{t o:Bool}:rV (cz 1 Y (.l (l.map ci) t o) (iv i)) K=(aF (L l) i/\K (.q [iv (gd l i.toNat)])):=ka (Y:=Y) (f:=ci) λ_=>rfl
def pC(ns:List ap)(l:List Int)(k:Nat):List (List Int):=[[lF ns (gd l k)]]
def jK(ns:List ap)(w:am)(x:Int):List (List Int):=jc ns w x++(aH (L (fg w (gd w.ac x.toNat).aq (gd w.ac x.toNat).dI))).flatMap (pC ns (fg w (gd w.ac x.toNat).aq (gd w.ac x.toNat).dI))
theorem aCJ(B:cm Y b w ns out n a)(F:L ns<100000)(W:WV w)(x:Int)(g:aF (L w.ac) x)(G:L out+L (jK ns w x)<999999990):∃r q,sj Y b w ns out (jK ns w x) n a r q/\cZ aS GG wh [.p b 0 0,iv x] Y r q:=by
 refine aMu B.le ?_
 have R:=W.ok.ev
 simp only[jK,bq] at G
 simp only[JH,↓uL]
 refine alF B F R (by omega) x g λa1 q A H=>?_
 have u:=A.bx
 have v:x.toNat<L w.ac:=by have:=g.1;have:=g.2;omega
 simp only[ajn,dy u,u0,u1,u,kn,rk,ix,aj,ar,Dn,cT,↓uL]
 refine⟨g,g,⟨by omega,(W.dp _ v).1,(W.th _ v).1,W.ct _ (W.th _ v).1⟩,?_⟩
 intro t
 have y:L (fg w (gd w.ac x.toNat).aq (gd w.ac x.toNat).dI)<4611686018427387904:=by
  have:=eU (f:=pC ns (fg w (gd w.ac x.toNat).aq (gd w.ac x.toNat).dI)) (c:=1) (λ_=>by simp[pC])
  have e:∀m,L ((aH m).flatMap (pC ns (fg w (gd w.ac x.toNat).aq (gd w.ac x.toNat).dI)))=m:=by
   intro m;induction m with
   |zero=>rfl
   |succ m S=>rw[cr,bq,S];rfl
  rw[e] at G
  omega
 generalize E:fg w (gd w.ac x.toNat).aq (gd w.ac x.toNat).dI=l at*
 refine yV (L l) (λk _ C=>∃D,cm C b w ns (out++jc ns w x++(aH k).flatMap (pC ns l)) n D/\Ad Y C b a D) ⟨a1,by simpa using A,H⟩ ?_
 rintro k _ T o ⟨O,j,z⟩
 have Z:=fU (f:=pC ns l) o
 simp+contextual only[ajo,au,aI,u0,u1,wu,iF,bh,↓uL]
 refine⟨λh=>⟨bA h,?_⟩,λh=>?_⟩
 ·refine zS j F _ ?_
  simp only[ajm,f7,bQ,ajl,↓uL]
  refine fQ j (by simp only[bq];omega) [_] λP X N M=>?_
  simp only[ajk,au,u0,u1,↓uL]
  refine dR (mk:=λ_ i=>[iv i]) (s:=()) (s':=()) (λ_ _=>rfl) (aL h) y ⟨P,?_,z.trans M⟩
  rw[cr,<-cC]
  exact N
 ·rw[bP o (bw h)] at j
  exact⟨O,rfl,by rw[jK,E];simpa using j,z⟩
theorem Kq(B:cm Y b w ns out n a)(g:L ns<100000)(W:WV w)(x:Int)(i:aF (L w.ac) x)(h:L out+L (jK ns w x)<999999990)(f:∀e c,cm c b w ns (out++jK ns w x) n e->Ad Y c b a e->K (.t []) c):cB wh [.p b 0 0,iv x] Y d K:=ub rfl (aCJ B g W x i h) f
def iA(ns:List ap)(p q:bp):List (List Int):=
 if p.aq=q.aq\/(p.read=U/\q.read=U)\/q.dD<0 then[]
 else if p.dD<0 then[[-lE ns q.dD,lE ns p.dY],[-lE ns q.dD,lB ns p.dY q.dD]]
 else jI ns p.dD p.dY q.dD++jI ns q.dD q.dY p.dD
def mw(ns:List ap)(s:List bp)(i:Nat):List (List Int):=(aH (L (s.drop (i+1)))).flatMap λj=>iA ns (gd s i) (gd (s.drop (i+1)) j)
def rL(ns:List ap)(s:List bp):List (List Int):=(aH (L s)).flatMap (mw ns s)
def pE(ns:List ap)(w:am)(k:Nat):List (List Int):=rL ns (jE w.aQ w.init.sync w.ac k)
def oH(ns:List ap)(w:am):List (List Int):=(aH (L w.aQ.ak+1)).flatMap (pE ns w)
theorem axk{p q:bp}:L (iA ns p q)<=4:=by unfold iA jI;(repeat' split);all_goals simp
theorem AG{l:List bp}{i:Int}{K:bd}{t o:Bool}:rV (cz 4 Y (.l (l.map bp.c) t o) (iv i)) K=(aF (L l) i/\K (.q (bp.c (gd l i.toNat)))):=ka (Y:=Y) (f:=bp.c) λ_=>rfl
theorem slT{α:Type}{f:α->List AV}{l:List α}{z:Nat}{i:Int}{K:bd}{t o:Bool}(j:∀x,L (f x)=z):rV (fo z Y (.l (l.map f) t o) (V (iv i)) J J) K=((0<=i/\i<=L l)/\K (.l ((l.drop i.toNat).map f) t o)):=by simp only[fo,lM];by_cases e:0<=i;simp only[e,if_true,qY,Option.getD_none,Option.getD_some,bJ,dA,true_and];by_cases g:i<=L l;have c:i.toNat<=L l:=(by omega);rw[if_pos ⟨c,by simp[j]⟩];simp only[if_true,rV];have:((l.map f).drop i.toNat).take (L l-i.toNat)=(l.drop i.toNat).map f:=(by rw[List.map_drop,oB (by simp)]);rw[this];simp[g];have c:¬i.toNat<=L l:=(by omega);rw[if_neg (λh=>c h.1)];simp[rV,g];simp[e,rV]
theorem slS{l:List bp}{i:Int}{K:bd}{t o:Bool}:rV (fo 4 Y (.l (l.map bp.c) t o) (V (iv i)) J J) K=((0<=i/\i<=L l)/\K (.l ((l.drop i.toNat).map bp.c) t o)):=slT λ_=>rfl
theorem aoj{x:bp}:aN J (bp.c x)=V (iv x.aq):=rfl
theorem En{x:bp}:aN J ((bp.c x).drop 1)=V (iv x.dD):=rfl
theorem Eo{x:bp}:aN J ((bp.c x).drop 2)=V (iv x.dY):=rfl
theorem aok{x:bp}:aN J ((bp.c x).drop 3)=V (bv x.read):=rfl
theorem Bj{x:bp}:aN (V 4) (bp.c x)=V (.a (bp.c x)):=rfl
theorem D2{x:bp}:ef (V 4) Y (.q (bp.c x))=V (.a (bp.c x)):=rfl
theorem alE(B:cm Y b w ns out n a)(h:L ns<100000)(i:L out<999999990)(x y:bp)(g:∀f e,cm e b w ns (out++jI ns x.dD x.dY y.dD) n f->Ad Y e b a f->K (.t []) e):cB xW [.p b 0 0, .a (bp.c x), .a (bp.c y)] Y d K:=ub rfl (aCt B h i _ _ _ _ _ _ _ _) g
theorem aDh(B:cm Y b w ns out n a)(i:L ns<100000)(N:L out<999999900){G H:Nat}(p q:bp)(o:box Y (5,G)=V ⟨162,4,U,U,[bp.c p]⟩)(u:box Y (7,H)=V ⟨162,4,U,U,[bp.c q]⟩){f:aG}(E:∀F s,cm s b w ns (out++iA ns p q) n F->Ad Y s b a F->f [] s):Jv (.p (5,G) 0 0) (.p (7,H) 0 0) f (.p b 0 0) Y:=by have x:∀{k v:Nat},k≠sB->(k,v)≠b:=λ{k v} h e=>h (by have:=B.sb;rw[<-e] at this;exact this);simp+contextual only[Jv,u0,u1,o,u,aoj,En,Eo,aok,Bj,aj,↓uL];refine⟨λh=>?_,λh=>⟨λD=>?_,λD=>?_⟩⟩;refine E a Y ?_ (Ad.refl _ _ _);have t:p.aq=q.aq\/(p.read=U/\q.read=U)\/q.dD<0:=(by simp only[Bool.or_eq_true,bN,decide_eq_true_eq] at h;rcases h with(h|h)|h;exact .inl h;exact .inr (.inl h);exact .inr (.inr h));rw[iA,if_pos t,cL];exact B;have t:¬(p.aq=q.aq\/(p.read=U/\q.read=U)\/q.dD<0):=(by intro g;rcases g with g|g|g;simp[g] at h;simp[g.1,g.2] at h;simp[g] at h);refine ig (d:=0) B i _ ?_;simp only[ahg,de i,u0,u1,o,Eo,aj,↓uL];refine ig (d:=0) B i _ ?_;simp only[ahf,fi,bQ,ahe,↓uL];refine fQ B (by omega) [_,_] λa1 s r j=>?_;have l:=j.keep o (x (by decide)) (B.nv o (.inl rfl));have m:=j.keep u (x (by decide)) (B.nv u (.inl rfl));simp only[ahd,↓uL];refine dT (by simp[eL,lb,cq,cD,dC,dK]) ?_;simp only[u0,u1,l,m,En,aj,↓uL];refine ig (d:=0) r i _ ?_;simp only[ahc,de i,u0,u1,l,m,En,Eo,aj,↓uL];refine kV (d:=0) r i _ _ ?_;simp only[ahb,fi,bQ,aha,↓uL];refine fQ r (by simp;omega) [_,_] λC A z y=>?_;simp only[ag8,↓uL];refine dT (by simp[eL,lb,cq,cD,dC,dK]) (E C A ?_ (j.trans y));rw[iA,if_neg t,if_pos (of_decide_eq_true D)];simpa using z;have t:¬(p.aq=q.aq\/(p.read=U/\q.read=U)\/q.dD<0):=(by intro g;rcases g with g|g|g;simp[g] at h;simp[g.1,g.2] at h;simp[g] at h);refine alE (d:=0) B i (by omega) p q λa1 s r j=>?_;have l:=j.keep o (x (by decide)) (B.nv o (.inl rfl));have m:=j.keep u (x (by decide)) (B.nv u (.inl rfl));have M:L (jI ns p.dD p.dY q.dD)<=2:=(by unfold jI;split<;>simp);simp only[ahh,u0,u1,l,m,Bj,aj,↓uL];refine alE (d:=0) r i (by simp;omega) q p λC A z y=>E C A ?_ (j.trans y);rw[iA,if_neg t,if_neg (of_decide_eq_false D),<-cC];exact z
theorem aCz(B:cm Y b w ns out n a)(hn:L ns<100000)(W:WV w)(ho:L out+L (oH ns w)<999999900):∃r F,sj Y b w ns out (oH ns w) n a r F/\cZ aS GG Ay [.p b 0 0] Y r F:=by refine aMp B.le ?_;have aT:=W.lk;simp only[Ju,↓uL];refine yV (L w.aQ.ak+1) (λk _ m=>∃o,cm m b w ns (out++(aH k).flatMap (pE ns w)) n o/\Ad Y m b a o) ⟨a,by simpa using B,Ad.refl _ _ _⟩ ?_;rintro k _ F hk ⟨a1,D,O⟩;have H:=D.bx;simp+contextual only[ahk,au,aI,dy H,u0,u1,H,kn,aj,dc,cT,ar,Dn,↓uL];refine⟨λh=>⟨⟨W.ts,W.ok.ev,λag=>?_⟩,λt=>?_⟩,λh=>?_⟩;have M:(k:Int)<=L w.aQ.ak:=of_decide_eq_true h;have u:aF (L w.init.sync.ak) (k:Int):=⟨by omega,by omega⟩;exact⟨u,W.rd _ (ii u)⟩;have M:k<L w.aQ.ak+1:=(by have:=of_decide_eq_true h;omega);have N:=fU (f:=pE ns w) (show k+1<=L w.aQ.ak+1 by omega);rw[cr,bq] at N;simp only[oH] at ho;have aU:L (jE w.aQ w.init.sync w.ac k)<=4*101+16:=(by have:=Q4 (w:=w.aQ) (s:=w.init.sync) (l:=w.ac) (lock:=(k:Int)) (λag=>W.rd _ (ii (show aF (L w.init.sync.ak) (k:Int) from⟨by omega,by omega⟩))) (L w.ac);have h3:=W.ts;have h4:=W.ok.ev;have x:L w.init.sync.ay*101<=4*101:=Nat.mul_le_mul_right _ h3;unfold jE;omega);have A:pE ns w k=rL ns (jE w.aQ w.init.sync w.ac k):=rfl;rw[A] at N;generalize jE w.aQ w.init.sync w.ac k=s at*;refine⟨.inl rfl,?_⟩;refine yV (L s) (λi _ m=>∃o,cm m b w ns (out++(aH k).flatMap (pE ns w)++(aH i).flatMap (mw ns s)) n o/\Ad Y m b a o) ⟨a1,by simpa using D,O⟩ ?_;rintro i _ Y2 hi ⟨Z,E,P⟩;simp+contextual only[ahm,au,aI,u0,u1,AG,Bj,bh,D2,↓uL];refine⟨λu=>⟨bA u,?_⟩,λu=>?_⟩;have ae:=aL u;have C:=fU (f:=mw ns s) (show i+1<=L s by omega);rw[cr,bq] at C;have ad:rL ns s=(aH (L s)).flatMap (mw ns s):=rfl;rw[ad] at N;refine cV E.le λv3 Y3 F3 N3 b3=>?_;refine cy (cs:=bp.c (gd s i)) b3 rfl rfl (by decide) λT F4 b4=>?_;have aa:box T (5,v3)=V ⟨162,4,U,U,[bp.c (gd s i)]⟩:=b4;have z:Fx Y2 T []:=F3.tn F4 N3.no;have B4:=E.kp z;simp only[ag9,au,u0,u1,slS,gT,↓uL];rw[fX (by omega)];refine⟨⟨by omega,by omega⟩,?_⟩;simp only[bh];have y:mw ns s i=(aH (L (s.drop (i+1)))).flatMap λj=>iA ns (gd s i) (gd (s.drop (i+1)) j):=rfl;have aR:L (s.drop (i+1))<=L s:=(by simp);rw[y] at C;generalize hq:s.drop (i+1)=q at*;refine yV (L q) (λj _ m=>∃o,cm m b w ns (out++(aH k).flatMap (pE ns w)++(aH i).flatMap (mw ns s)++(aH j).flatMap λj=>iA ns (gd s i) (gd q j)) n o/\Ad Y m b a o/\box m (5,v3)=V ⟨162,4,U,U,[bp.c (gd s i)]⟩) ⟨Z,by simpa using B4,P.fxn z,aa⟩ ?_;rintro j _ Y5 hj ⟨a5,v,R,G⟩;simp+contextual only[ahl,au,aI,u0,u1,di,ahj,AG,D2,bh,↓uL];refine⟨λx=>⟨bA x,?_⟩,λx=>?_⟩;have lC:=fU (f:=λj=>iA ns (gd s i) (gd q j)) (show j<=L q by omega);refine cV v.le λv6 Y6 F6 N6 b6=>?_;refine cy (cs:=bp.c (gd q j)) b6 rfl rfl (by decide) λX F7 b7=>?_;have ab:box X (7,v6)=V ⟨162,4,U,U,[bp.c (gd q j)]⟩:=b7;have g:Fx Y5 X []:=F6.tn F7 N6.no;refine aDh (v.kp g) hn (by simp only[bq];omega) (gd s i) (gd q j) (g.kq G) ab λa8 Y8 B8 S=>?_;simp only[ahi,au,aI,u0,u1,↓uL];refine yU (aL x) ⟨a8,?_,(R.fxn g).trans S,?_⟩;rw[cr,<-cC];exact B8;exact S.keep (g.kq G) (by intro e;have:=B.sb;rw[<-e] at this;simp[sB] at this) ((v.kp g).nv (g.kq G) (.inl rfl));refine yU ae ⟨a5,?_,R⟩;rw[cr,<-cC,y];rw[bP hj (bw x)] at v;exact v;refine yU M ⟨Z,?_,P⟩;rw[cr,<-cC,A,rL,<-bP hi (bw u)];exact E;have M:¬(k:Int)<=L w.aQ.ak:=of_decide_eq_false h;have af:k=L w.aQ.ak+1:=(by omega);subst af;exact⟨a1,rfl,D,O⟩
theorem awX(B:cm Y b w ns out n a)(g:L ns<100000)(W:WV w)(h:L out+L (oH ns w)<999999900)(f:∀e c,cm c b w ns (out++oH ns w) n e->Ad Y c b a e->K (.t []) c):cB Ay [.p b 0 0] Y d K:=ub rfl (aCz B g W h) f
end
theorem aEr{x y:dr}:eu .neq 2 [(0,0),(1,0),(2,0)] (.a (dr.c x)) (.a (dr.c y))=V (bv (Q (x≠y))):=by obtain⟨a,b,c⟩:=x;obtain⟨e,f,g⟩:=y;have h:∀p q:Int,sS 0 (.int .i64 p) (.int .i64 q)=V (Q (p=q)):=λp q=>rfl;simp[eu,dr.c,nW,h];by_cases i:a=e<;>by_cases j:b=f<;>by_cases k:c=g<;>simp[i,j,k]
theorem PG(f g:ff)(q:f=g/\L f.lL<4611686018427387904/\L f.ug<4611686018427387904/\(∀c∈f.ug,L c<4611686018427387904)):Ct M6 [.a f.c, .a g.c] (·=bv U):=by obtain⟨rfl,l,m,o⟩:=q;refine aMa rfl rfl λt s e i r=>?_;simp+contextual only[afI,u0,u1,e,i,rk,aj,dc,↓uL];refine⟨λh=>by simp at h,λ_=>?_⟩;refine il (L f.lL) (λ_=>True) trivial λk p _=>?_;simp+contextual only[afK,au,aI,u0,u1,ix,rk,e,i,aj,dc,bh,aEr,↓uL];refine⟨λh=>⟨bA h,bA h,λj=>by simp at j,λ_=>gS (aL h) l trivial⟩,λh=>?_⟩;refine il (L f.ug) (λ_=>True) trivial λk p _=>?_;simp+contextual only[afJ,au,aI,u0,u1,ix,rk,iF,cl,e,i,aj,dc,bh,Dn,ar,↓uL];exact⟨λh=>⟨bA h,bA h,o _ (dB (aL h)),λj=>by simp at j,λ_=>gS (aL h) m trivial⟩,λ_=>trivial⟩
def Co:FT:=gz PG
def azs{f g Lw K}:=gX Co PG f g Lw K
def Rl:dO:=(M6,Co)::ao8
theorem jT:eJ Rl:=bI (hQ PG) (Bu)
def sY:=ai @azs<|@Dn
abbrev aqf:List AV:=[(.l [] U U),(.l [] U U)]
abbrev aqg:List AV:=[(bv I),(bv I)]
def avd:=bi 11 [(3,([6],[0,5]))]
def akd t1 a0 R s0(c:cG)(a:fD) vs2:=∀_:Rg,aU (gt vs2 0) (iv 22) λt3=>ah t3 (rV (sI 22 1 J t1 (gt vs2 0)) λt4=>al a0 t4 λd=>ah d (aE R s0 [(bv U)]) (aV (gt vs2 0) (iv 1) λb=>c [b]/\a [b]<a vs2)) (aE R s0 [(bv I)])
def akc a0 s0 R:=aw 22 s0 (.q pI) λt1=>lR [(iv 0)] (akd t1 a0 R s0)
theorem aMG{a:AV}{R:bd}(h:H0 λs0=>akc a s0 R):Ct Nh [a] R:=z0 avd jT Tryz.func176 h
def asA:=bi 2 []
def S0 a0 a1 s0 R:=aO .geq a0 (iv 0) λt1=>bB t1 a0 λt3=>bB t1 a1 λa=>az t1 (aU t3 a) λb=>aD t1 b (bv I) λc=>aE R s0 [c]
theorem aJ1{a:AV}{a1:AV}{R:bd}(h:H0 λs0=>S0 a a1 s0 R):Ct Lv [a,a1] R:=z0 asA jT Tryz.func157 h
def asx:=bi 29 [(4,([4,5],[0])),(20,([52],[0,4,5,6,51]))]
def SD vs1 vs65 a0 want_7 R(c:aG)(a:bu) s66 s69:=aV (gt vs1 1) (gt vs65 0) λd=>ao 5 s69 a0 d λe=>aw 5 s69 e λf=>aw 5 s69 want_7 λg=>rV (eu .neq 2 [(0,2),(1,0),(2,0),(3,1),(4,0)] f g) λh=>ah h (aE R s69 [(.l [] U U),(bv I)]) (aV (gt vs65 0) (iv 1) λb=>c [b] s69/\a [b] s69<a vs65 s66)
def SG t64 want_7 vs1 a0 R(e:aG) t14(m1:bu) s2 I65 m65 vs65 s66:=∀_:Rg,aU (gt vs65 0) t64 λb=>ah b (aB 1 s66 want_7 λc=>sV (aK 1 s66 c (gt vs65 0)) (SD vs1 vs65 a0 want_7 R I65 m65 s66)) (ag 2 s66 want_7 λd=>aV (gt vs1 1) d λa=>e [t14,a] s66/\m1 [t14,a] s66<m1 vs1 s2)
def SE want_7 R vs1(e:aG)(m1:bu) s2 a0 t14 s15:=ag 2 s15 want_7 λf=>al f (iv 0) λg=>ah g (ag 1 s15 want_7 λh=>aO .neq h (iv 0) λi=>ah i (aE R s15 [(.l [] U U),(bv I)]) (aV (gt vs1 1) (iv 1) λc=>e [t14,c] s15/\m1 [t14,c] s15<m1 vs1 s2)) (ag 2 s15 want_7 λj=>aU j (iv 1) λb=>bn b 2 s15 want_7 λk=>aC b (aO .gtr k (iv 4)) λm=>aD b (bv U) m λd=>bn d 3 s15 want_7 λn=>aD d (bv U) n λa=>bn a 2 s15 want_7 λo=>bG a a0 λp=>aC a (aJ s15 p) λq=>bG a (gt vs1 1) λr=>aC a (aO .sub q r) λs=>aC a (aO .gtr o s) λt=>aD a (bv U) t λu=>ah u (aE R s15 [(.l [] U U),(bv I)]) (ag 2 s15 want_7 λv=>lV [(iv 0)] s15 (SG v want_7 vs1 a0 R e t14 m1 s2)))
def SF want_7 vs1 R I1 m1 s2 a0 s9:=ag 0 s9 want_7 λb=>eV (aX ro 1 s9 [(0,b)]) λc a=>eV (bS 9 rt 16 a 20 (gt vs1 0) c) (SE want_7 R vs1 I1 m1 s2 a0)
def SH a0 R I1 m1 vs1 s2:=∀_:Rg,aJ s2 a0 λt3=>aU (gt vs1 1) t3 λt4=>ah t4 (ao 5 s2 a0 (gt vs1 1) λc=>aw 5 s2 c λd=>eV (bs 104 pj s2 6) λa b=>sV (aK 5 b a d) (SF a vs1 R I1 m1 s2 a0)) (aE R s2 [(gt vs1 0),(bv U)])
def SC a0 s0 R:=lV [(.l [] U U),(iv 0)] s0 (SH a0 R)
theorem aJY{a:AV}{R:bd}(h:H0 λs0=>SC a s0 R):Ct Ls [a] R:=z0 asx jT Tryz.func119 h
def asz:=bi 18 [(4,([3,4,10],[1,8,9])),(12,([3,4],[1,6,8,9,10]))]
def SX s13 s_11 R vs6(f:aG)(c:bu) s7 vs36:=∀_:Rg,ag 1 s13 s_11 λd=>aO .neq d (gt vs36 1) λe=>ah e (aE R s13 [(bv I)]) (aV (gt vs36 1) (iv 1) λa=>aV (gt vs6 2) (iv 1) λb=>f [(gt vs36 0),a,b] s13/\c [(gt vs36 0),a,b] s13<c vs6 s7)
def SY s13 s_11 vs6(a:cG):=ag 0 s13 s_11 λb=>aO .gtr b (gt vs6 0) λc=>ah c (ag 0 s13 s_11 λd=>a [d,(iv 0)]) (a [(gt vs6 0),(gt vs6 1)])
def SW s_11 vs6 w_1 R I6 m6 s7 s13:=ag 0 s13 s_11 λb=>aU b (gt vs6 0) λa=>bn a 0 s13 s_11 λc=>bn a 4 s13 w_1 λd=>aC a (aJ s13 d) λe=>aC a (aO .geq c e) λf=>aD a (bv U) f λg=>ah g (aE R s13 [(bv I)]) (jR 12 (SX s13 s_11 R vs6 I6 m6 s7) (SY s13 s_11 vs6))
def SZ t5 t4 w_1 R I6 m6 vs6 s7:=∀_:Rg,aU (gt vs6 2) t5 λd=>ah d (ao 3 s7 t4 (gt vs6 2) λe=>aw 3 s7 e λc=>eV (bs 95 BH s7 6) λa b=>sV (aK 3 b a c) (SW a vs6 w_1 R I6 m6 s7)) (aE R s7 [(bv U)])
def SV w_1 s2 R:=ag 5 s2 w_1 λt4=>aJ s2 t4 λa=>lV [(iv 0),(iv 0),(iv 0)] s2 (SZ a t4 w_1 R)
theorem aJ0{b:List AV}{R:bd}(l0:L b=6)(h:H1 28 6 1 b λc d=>SV c d R):Ct Lu [.a b] R:=z1 asz jT Tryz.func122 l0 h
def atJ:=bi 2 []
def abM a0 a1 s0 R:=aO .geq a0 (iv 0) λt1=>bB t1 a0 λt3=>bB t1 a1 λa=>az t1 (aU t3 a) λb=>aD t1 b (bv I) λc=>aE R s0 [c]
theorem aLb{a:AV}{a1:AV}{R:bd}(h:H0 λs0=>abM a a1 s0 R):Ct L8 [a,a1] R:=z0 atJ jT Tryz.func158 h
def atI:=bi 2 []
def abL t_1 a1 s2 R:=ag 0 s2 t_1 λt4=>al t4 (iv 3) λa=>aT a 1 s2 t_1 λb=>bB a a1 λc=>az a (al b c) λd=>aD a d (bv I) λe=>aE R s2 [e]
theorem aLa{b:List AV}{a1:AV}{R:bd}(l0:L b=3)(h:H1 98 3 2 b λc d=>abL c a1 d R):Ct L7 [.a b,a1] R:=z1 atI jT Tryz.func185 l0 h
def avj:=bi 13 [(4,([3,10],[1,8,9]))]
def akH t6 s2 t5 R w_1(q:cG)(f:fD) vs7:=∀_:Rg,aU (gt vs7 1) t6 λr=>ah r (ao 1 s2 t5 (gt vs7 1) λs=>aM s2 s λb=>aU b (iv 0) λc=>bG c b λg=>aC c (aO .gtr g (iv 400)) λh=>aD c (bv U) h λi=>ah i (aE R s2 [(bv I)]) (aV (gt vs7 0) b λd=>aV (gt vs7 1) (iv 1) λe=>q [d,e]/\f [d,e]<f vs7)) (ag 6 s2 w_1 λj=>al j (gt vs7 0) λa=>bB a (gt vs7 0) λk=>aT a 14 s2 w_1 λl=>az a (aJ s2 l) λm=>az a (aV k m) λn=>az a (aO .leq n (iv 400)) λo=>aD a o (bv I) λp=>aE R s2 [p])
def JZ w_1 s2 R:=aB 7 s2 w_1 λt3=>ag 6 s2 t3 λa=>aJ s2 a λb=>lR [(iv 0),(iv 0)] (akH b s2 a R w_1)
theorem aMO{b:List AV}{R:bd}(l0:L b=15)(h:H1 40 15 1 b λc d=>JZ c d R):Ct Nr [.a b] R:=z1 avj jT Tryz.func65 l0 h
def avp:=bi 26 [(3,([11],[1,9,10])),(6,([],[1,9,10,11]))]
def akZ vs8(c:aG)(b:bu) s9(d:eQ) s12:=∀_:Rg,aV (gt vs8 0) (iv 1) λa=>c [a] s12/\b [a] s12<b vs8 s9
def akY x_16 vs8 R w_1(g:aG) s18:=ag 0 s18 x_16 λw=>aU w (iv 0) λc=>bn c 0 s18 x_16 λx=>aC c (aO .gtr x (iv 5)) λy=>aD c (bv U) y λb=>bG b (gt vs8 0) λz=>aC b (al z (iv 0)) λA=>bG b A λd=>aT d 0 s18 x_16 λB=>az d (al B (iv 0)) λC=>aC b (aD d C (bv I)) λD=>aD b (bv U) D λE=>ah E (aE R s18 [(bv I)]) (ag 0 s18 x_16 λF=>al F (iv 0) λe=>bn e 0 s18 x_16 λG=>aC e (al G (iv 1)) λH=>aD e (bv U) H λK=>aB 7 s18 w_1 λM=>ag 6 s18 M λN=>ao 1 s18 N (gt vs8 0) λO=>aM s18 O λP=>al P (iv 0) λS=>rV (eu .neq 1 [] S K) λT=>ah T (aE R s18 [(bv I)]) (ag 0 s18 x_16 λW=>aO .neq W (iv 3) λf=>aT f 0 s18 x_16 λX=>az f (aO .neq X (iv 4)) λZ=>aD f Z (bv I) λaa=>ah aa (ag 1 s18 x_16 λab=>aO .neq ab (iv 0) λac=>ah ac (aE R s18 [(bv I)]) (g [] s18)) (ag 1 s18 x_16 λad=>aU ad (iv 0) λa=>bn a 1 s18 x_16 λae=>aC a (aB 0 s18 w_1) λaf=>bn a 2 s18 af λh=>aC a (aJ s18 h) λi=>aC a (aO .geq ae i) λj=>aD a (bv U) j λk=>ah k (aE R s18 [(bv I)]) (aB 7 s18 w_1 λl=>aB 0 s18 l λm=>ag 0 s18 m λn=>aB 0 s18 w_1 λo=>ag 2 s18 o λp=>ag 1 s18 x_16 λq=>ao 2 s18 p q λr=>ag 1 s18 r λs=>ao 2 s18 n s λt=>ag 0 s18 t λu=>al u (gt vs8 0) λv=>ah v (aE R s18 [(bv I)]) (g [] s18)))))
def Kd s9 t6 vs8 R w_1 J11:=ao 3 s9 t6 (gt vs8 0) λc=>aw 3 s9 c λd=>eV (bs 98 mc s9 4) λa b=>sV (aK 3 b a d) (akY a vs8 R w_1 J11)
def Ke t7 t6 R w_1 I8 m8 vs8 s9:=∀_:Rg,aU (gt vs8 0) t7 λa=>ah a (jV 6 (akZ vs8 I8 m8 s9) (Kd s9 t6 vs8 R w_1)) (aE R s9 [(bv U)])
def Kc w_1 s2 R:=aB 7 s2 w_1 λt3=>aB 0 s2 t3 λt4=>ag 3 s2 t4 λa=>aJ s2 a λb=>lV [(iv 0)] s2 (Ke b a R w_1)
theorem aMU{b:List AV}{R:bd}(l0:L b=15)(h:H1 40 15 1 b λc d=>Kc c d R):Ct Nw [.a b] R:=z1 avp jT Tryz.func66 l0 h
def avm:=bi 11 [(3,([9],[1,7,8]))]
def akT t6 s2 t5 s_1 R(k:cG)(c:fD) vs7:=∀_:Rg,aU (gt vs7 0) t6 λl=>ah l (ao 1 s2 t5 (gt vs7 0) λm=>aM s2 m λd=>cf d λa=>aT a 5 s2 s_1 λe=>bB a (gt vs7 0) λf=>az a (ao 1 s2 e f) λg=>az a (aM s2 g) λh=>az a (aO .neq h (iv 0)) λi=>aD a i (bv I) λj=>ah j (aE R s2 [(bv I)]) (aV (gt vs7 0) (iv 1) λb=>k [b]/\c [b]<c vs7)) (aE R s2 [(bv U)])
def J0 s_1 s2 R:=aB 0 s2 s_1 λt3=>ag 2 s2 t3 λa=>aJ s2 a λb=>lR [(iv 0)] (akT b s2 a s_1 R)
theorem aMR{b:List AV}{R:bd}(l0:L b=7)(h:H1 37 7 1 b λc d=>J0 c d R):Ct Nu [.a b] R:=z1 avm jT Tryz.func68 l0 h
def au9:=bi 11 [(3,([8],[0,1,7]))]
def aj7 t1 s0 a0 a1 R(c:cG)(a:fD) vs2:=∀_:Rg,aU (gt vs2 0) t1 λt3=>ah t3 (ao 1 s0 a0 (gt vs2 0) λt4=>aM s0 t4 λd=>al a1 d λe=>ah e (aE R s0 [(gt vs2 0)]) (aV (gt vs2 0) (iv 1) λb=>c [b]/\a [b]<a vs2)) (aE R s0 [(iv (-1))])
def JR a0 a1 s0 R:=aJ s0 a0 λt1=>lR [(iv 0)] (aj7 t1 s0 a0 a1 R)
theorem aMC{a:AV}{a1:AV}{R:bd}(h:H0 λs0=>JR a a1 s0 R):Ct Ng [a,a1] R:=z0 au9 jT Tryz.func152 h
def atb:=bi 2 []
def YD e_1 s2 R:=ag 1 s2 e_1 λt4=>al t4 (iv 3) λa=>bn a 1 s2 e_1 λb=>aC a (al b (iv 23)) λc=>aD a (bv U) c λd=>aE R s2 [d]
theorem aKC{b:List AV}{R:bd}(l0:L b=7)(h:H1 59 7 1 b λc d=>YD c d R):Ct LA [.a b] R:=z1 atb jT Tryz.func70 l0 h
def ata:=bi 2 []
def YC e_1 s2 R:=ag 1 s2 e_1 λt4=>al t4 (iv 18) λa=>bn a 1 s2 e_1 λb=>aC a (al b (iv 19)) λc=>aD a (bv U) c λd=>aE R s2 [d]
theorem aKB{b:List AV}{R:bd}(l0:L b=7)(h:H1 59 7 1 b λc d=>YC c d R):Ct Lz [.a b] R:=z1 ata jT Tryz.func72 l0 h
def ate:=bi 19 [(4,([7,17],[1,2,3,15,16])),(7,([7],[1,2,3,15,16,17])),(12,([7,45],[1,2,43,44])),(15,([7],[1,2,43,44,45]))]
def Ib vs8(c:aG)(b:bu) s9 vs11 s12:=∀_:Rg,aV (gt vs8 1) (iv 1) λa=>c [(gt vs11 0),a] s12/\b [(gt vs11 0),a] s12<b vs8 s9
def Zk vs8 a2 s_16 a1(c:aG) s18:=aO .neq (gt vs8 1) a2 λb=>aT b 0 s18 s_16 λf=>az b (al f (iv 3)) λg=>aD b g (bv I) λa=>aT a 1 s18 s_16 λh=>bB a a1 λi=>az a (al h i) λj=>aD a j (bv I) λk=>ah k (aO .sub (iv (-1)) (gt vs8 1) λl=>eV (aX bH 1 s18 [(0,l)]) λm d=>eV (bS 3 fB 8 d 40 (gt vs8 0) m) λn e=>c [n] e) (c [(gt vs8 0)] s18)
def Zn s9 t6 vs8 a2 a1 J11:=ao 3 s9 t6 (gt vs8 1) λc=>aw 3 s9 c λd=>eV (bs 98 mc s9 9) λa b=>sV (aK 3 b a d) (Zk vs8 a2 a a1 J11)
def Ia vs50(c:aG)(a:bu) s51 vs53 s54:=∀_:Rg,aV (gt vs50 1) (iv 1) λb=>c [(gt vs53 0),b] s54/\a [(gt vs53 0),b] s54<a vs50 s51
def Zl e_58 a2 a1 vs50(c:aG) s60:=ag 0 s60 e_58 λf=>aO .neq f a2 λb=>aT b 1 s60 e_58 λg=>az b (al g (iv 16)) λh=>aD b h (bv I) λa=>aT a 2 s60 e_58 λi=>bB a a1 λj=>az a (al i j) λk=>aD a k (bv I) λl=>ah l (eV (aX bH 1 s60 [(0,(gt vs50 1))]) λm d=>eV (bS 3 fB 8 d 68 (gt vs50 0) m) λn e=>c [n] e) (c [(gt vs50 0)] s60)
def Zm s51 t48 vs50 a2 a1 J53:=ao 7 s51 t48 (gt vs50 1) λc=>aw 7 s51 c λd=>eV (bs 59 ee s51 11) λa b=>sV (aK 7 b a d) (Zl a a2 a1 vs50 J53)
def Zo t49 t48 a2 a1 R I50 m50 vs50 s51:=∀_:Rg,aU (gt vs50 1) t49 λa=>ah a (jV 15 (Ia vs50 I50 m50 s51) (Zm s51 t48 vs50 a2 a1)) (aE R s51 [(gt vs50 0)])
def Zp t7 t6 a2 a1 w_1 R I8 m8 vs8 s9:=∀_:Rg,aU (gt vs8 1) t7 λb=>ah b (jV 7 (Ib vs8 I8 m8 s9) (Zn s9 t6 vs8 a2 a1)) (ag 14 s9 w_1 λa=>aJ s9 a λc=>lV [(gt vs8 0),(iv 0)] s9 (Zo c a a2 a1 R))
def Zj w_1 a1 a2 s2 R:=aB 7 s2 w_1 λt3=>aB 0 s2 t3 λt4=>ag 3 s2 t4 λa=>aJ s2 a λb=>lV [(.l [] U U),(iv 0)] s2 (Zp b a a2 a1 w_1 R)
theorem aKF{b:List AV}{a1:AV}{c:AV}{R:bd}(l0:L b=15)(h:H1 40 15 3 b λd e=>Zj d a1 c e R):Ct LC [.a b,a1,c] R:=z1 ate jT Tryz.func73 l0 h
def atg:=bi 2 []
def Zs e_1 s2 R:=ag 1 s2 e_1 λt4=>al t4 (iv 3) λa=>bn a 1 s2 e_1 λb=>aC a (al b (iv 4)) λc=>aD a (bv U) c λd=>aE R s2 [d]
theorem aKH{b:List AV}{R:bd}(l0:L b=7)(h:H1 59 7 1 b λc d=>Zs c d R):Ct LF [.a b] R:=z1 atg jT Tryz.func186 l0 h
def atr:=bi 10 [(3,([4],[]))]
def aag R s0 vs1:=∀_:Rg,ah (gt vs1 0) (aE R s0 [(bv U)]) (aE R s0 [(bv I)])
def aah a0(a:cG):=al a0 (iv 6) λb=>ah b (a [b]) (al a0 (iv 8) λt3=>ah t3 (a [t3]) (al a0 (iv 10) λt4=>ah t4 (a [t4]) (al a0 (iv 17) λc=>ah c (a [c]) (al a0 (iv 21) λd=>a [d]))))
def aaf a0 s0 R:=jR 3 (aag R s0) (aah a0)
theorem aKS{a:AV}{R:bd}(h:H0 λs0=>aaf a s0 R):Ct LQ [a] R:=z0 atr jT Tryz.func187 h
def avg:=bi 5 []
def aku w_1 e_3 s4 R:=ag 1 s4 e_3 λu=>al u (iv 1) λc=>bn c 1 s4 e_3 λd=>aC c (al d (iv 2)) λe=>aD c (bv U) e λf=>ah f (ag 4 s4 e_3 λg=>al g (iv (-1)) λh=>aE R s4 [h]) (ag 4 s4 e_3 λi=>aO .geq i (iv 0) λb=>aT b 4 s4 e_3 λj=>aT b 5 s4 w_1 λk=>az b (aJ s4 k) λl=>az b (aU j l) λm=>aD b m (bv I) λa=>aT a 5 s4 w_1 λn=>aT a 4 s4 e_3 λo=>az a (ao 3 s4 n o) λp=>aT a 0 s4 p λq=>aT a 0 s4 e_3 λr=>az a (al q r) λs=>aD a s (bv I) λt=>aE R s4 [t])
theorem aML{b:List AV}{c:List AV}{R:bd}(l0:L b=6)(l1:L c=7)(h:H2 28 6 2 b 59 7 3 c λd e f=>aku d e f R):Ct Nn [.a b, .a c] R:=z2 avg jT Tryz.func161 l0 l1 h
def ald:=bi 24 [(5,([52],[4,5,8,51])),(15,([11,67],[4,5,8,51,52,65,66]))]
def akr t90 s67 t75 s_3 e_5 R vs73(m:cG)(e:fD)(n:cG)(f:fD) vs91:=∀_:Rg,aU (gt vs91 1) t90 λo=>ah o (ao 1 s67 t75 (gt vs91 1) λp=>aM s67 p λb=>aO .leq b (gt vs91 0) λa=>bG a b λq=>bn a 6 s67 s_3 λg=>bn a 0 s67 e_5 λh=>aC a (ao 1 s67 g h) λi=>aC a (aM s67 i) λj=>aC a (aO .geq q j) λk=>aD a (bv U) k λl=>ah l (aE R s67 [(bv I)]) (aV (gt vs91 1) (iv 1) λc=>n [b,c]/\f [b,c]<f vs91)) (aV (gt vs73 0) (iv 1) λd=>m [d]/\e [d]<e vs73)
def aks t72 s67 allowed_65 R s_3 e_5 I73 m73 vs73:=∀_:Rg,aU (gt vs73 0) (iv 2) λc=>ah c (rV (sI 2 1 J t72 (gt vs73 0)) λb=>aJ s67 b λd=>aO .gtr d (iv 0) λa=>bB a (gt vs73 0) λe=>az a (rV (wm 2 1 s67 allowed_65 e)) λf=>az a (aM s67 f) λg=>az a (cf g) λh=>aD a h (bv I) λi=>ah i (aE R s67 [(bv I)]) (aJ s67 b λj=>lR [(iv 0),(iv 0)] (akr j s67 b s_3 e_5 R vs73 I73 m73))) (aE R s67 [(bv U)])
def akq e_5 allowed_65 R s_3 s67:=ag 5 s67 e_5 λa=>ag 6 s67 e_5 λb=>rV (tY aqf 1 [(0,a),(1,b)]) λc=>lR [(iv 0)] (aks c s67 allowed_65 R s_3 e_5)
def JY w_1 s_3 e_5 s6 R:=ag 1 s6 e_5 λw=>al w (iv 3) λe=>bn e 1 s6 e_5 λg=>aC e (al g (iv 4)) λh=>aD e (bv U) h λb=>aT b 0 s6 w_1 λi=>aT b 2 s6 e_5 λj=>az b (ao 5 s6 i j) λk=>aT b 2 s6 k λl=>az b (aO .neq l (iv 0)) λm=>aD b m (bv I) λn=>ag 1 s6 e_5 λo=>al o (iv 5) λd=>bG d n λp=>aD d (bv U) p λq=>ag 1 s6 e_5 λr=>al r (iv 4) λc=>bn c 1 s6 e_5 λs=>aC c (al s (iv 22)) λt=>aD c (bv U) t λu=>rV (tY aqg 1 [(0,q),(1,u)]) λv=>eV (bs 178 aqg s6 8) λa f=>sV (aK 2 f a v) (akq e_5 a R s_3)
theorem aMJ{c:List AV}{d:List AV}{e:List AV}{R:bd}(l0:L c=6)(l1:L d=7)(w:L e=7)(h:∀b:ae,L b=4096->box b (3,1)=V ⟨28,6,U,U,[c]⟩->box b (4,1)=V ⟨37,7,U,U,[d]⟩->box b (5,1)=V ⟨59,7,U,U,[e]⟩->(∀k,k≠3->k≠4->k≠5->aZ b k=mO)->JY (.p (3,1) 0 0) (.p (4,1) 0 0) (.p (5,1) 0 0) b R):Fn aS GG Nk [.a c, .a d, .a e] R:=by refine uq ready jT Tryz.func162 (an:=ald) (by kernel_rfl) (Eq.mpr (show ZF aS GG Rl ald arD [.a c, .a d, .a e] R=(eV (ej 28 6 (ly arD) 3 (.a c)) λm i=>eV (ej 37 7 i 4 (.a d)) λl j=>eV (ej 59 7 j 5 (.a e)) λf b=>JY m l f b R) by kernel_rfl) ?_);refine mY (N:=4096) rfl l0 (by decide) (by decide) uB (by rw[i8]) λi x n A g0=>?_;refine mY (N:=4096) rfl l1 (by decide) (by decide) x (by rw[g0 _ (by decide),i8]) λj y o r g1=>?_;refine mY (N:=4096) rfl w (by decide) (by decide) y (by rw[g1 _ (by decide),g0 _ (by decide),i8]) λb z q g s=>?_;exact h b z (by rw[g _ _ (by decide),r _ _ (by decide)];exact n) (by rw[g _ _ (by decide)];exact o) q (λk t u v=>by rw[s k v,g1 k u,g0 k t];exact i8 _ k)
def avh:=bi 36 [(9,([46],[2,3,13])),(16,([5,6,55],[3,53,54])),(19,([5,6],[3,53,54,55])),(28,([9,96],[3,94,95])),(31,([9],[3,94,95,96]))]
def aky vs47(c:aG)(a:bu) s48 vs50 s51:=∀_:Rg,aV (gt vs47 2) (iv 1) λb=>c [(gt vs50 0),(gt vs50 1),b] s51/\a [(gt vs50 0),(gt vs50 1),b] s51<a vs47 s48
def akw x_55 e_3 vs47(b:aG) s57:=ag 0 s57 x_55 λc=>al c (iv 3) λa=>aT a 1 s57 x_55 λd=>aT a 2 s57 e_3 λe=>az a (al d e) λf=>aD a f (bv I) λg=>ah g (aV (gt vs47 0) (iv 1) λh=>bn (gt vs47 1) 3 s57 e_3 λi=>bG (gt vs47 1) (gt vs47 2) λj=>aC (gt vs47 1) (al i j) λk=>aD (gt vs47 1) (bv U) k λl=>b [h,l] s57) (b [(gt vs47 0),(gt vs47 1)] s57)
def akB s48 t45 vs47 e_3 J50:=ao 3 s48 t45 (gt vs47 2) λc=>aw 3 s48 c λd=>eV (bs 98 mc s48 8) λa b=>sV (aK 3 b a d) (akw a e_3 vs47 J50)
def akE t46 t45 e_3 R I47 m47 vs47 s48:=∀_:Rg,aU (gt vs47 2) t46 λf=>ah f (jV 19 (aky vs47 I47 m47 s48) (akB s48 t45 vs47 e_3)) (bG (gt vs47 1) (gt vs47 0) λg=>aC (gt vs47 1) (al g (iv 0)) λh=>bG (gt vs47 1) h λa=>aT a 3 s48 e_3 λb=>az a (al b (iv (-1))) λc=>aC (gt vs47 1) (aD a c (bv I)) λd=>aD (gt vs47 1) (bv U) d λe=>aE R s48 [e])
def akz vs115(c:aG)(a:bu) s116 vs118 s119:=∀_:Rg,aV (gt vs115 1) (iv 1) λb=>c [(gt vs118 0),b] s119/\a [(gt vs118 0),b] s119<a vs115 s116
def akx x_123 e_3 vs115(b:aG) s125:=ag 0 s125 x_123 λc=>al c (iv 3) λa=>aT a 1 s125 x_123 λd=>aT a 2 s125 e_3 λe=>az a (al d e) λf=>aD a f (bv I) λg=>ah g (aV (gt vs115 0) (iv 1) λh=>b [h] s125) (b [(gt vs115 0)] s125)
def akC s116 t113 vs115 e_3 J118:=ao 3 s116 t113 (gt vs115 1) λc=>aw 3 s116 c λd=>eV (bs 98 mc s116 11) λa b=>sV (aK 3 b a d) (akx a e_3 vs115 J118)
def akF t114 t113 e_3 R I115 m115 vs115 s116:=∀_:Rg,aU (gt vs115 1) t114 λa=>ah a (jV 31 (akz vs115 I115 m115 s116) (akC s116 t113 vs115 e_3)) (ag 3 s116 e_3 λb=>al b (gt vs115 0) λc=>aE R s116 [c])
def akA R s4 t6 s_1 e_3 vs41:=∀_:Rg,ah (gt vs41 0) (aE R s4 [(bv U)]) (al t6 (iv 18) λh=>ah h (aB 0 s4 s_1 λi=>ag 3 s4 i λb=>aJ s4 b λj=>lV [(iv 0),(bv I),(iv 0)] s4 (akE j b e_3 R)) (al t6 (iv 19) λc=>ah c (aB 0 s4 s_1 λd=>ag 3 s4 d λa=>aJ s4 a λe=>lV [(iv 0),(iv 0)] s4 (akF e a e_3 R)) (ag 3 s4 e_3 λf=>al f (iv 0) λg=>aE R s4 [g])))
def akD t6(b:cG):=al t6 (iv 4) λa=>ah a (b [a]) (al t6 (iv 22) λc=>b [c])
def akv s_1 e_3 s4 R:=ag 1 s4 e_3 λb=>al b (iv 3) λt=>ah t (ag 3 s4 e_3 λu=>ag 4 s4 s_1 λc=>ag 2 s4 e_3 λd=>ao 1 s4 c d λe=>aM s4 e λf=>al u f λg=>aE R s4 [g]) (al b (iv 23) λh=>ah h (ag 3 s4 e_3 λi=>ag 5 s4 s_1 λj=>ag 2 s4 e_3 λk=>ao 1 s4 j k λl=>aM s4 l λm=>al i m λn=>aE R s4 [n]) (al b (iv 5) λo=>ah o (ag 3 s4 e_3 λp=>al p (iv 0) λa=>bn a 3 s4 e_3 λq=>aC a (al q (iv 1)) λr=>aD a (bv U) r λs=>aE R s4 [s]) (jR 9 (akA R s4 b s_1 e_3) (akD b))))
theorem aMM{b:List AV}{c:List AV}{R:bd}(l0:L b=7)(l1:L c=7)(h:H2 37 7 2 b 59 7 3 c λd e f=>akv d e f R):Ct Np [.a b, .a c] R:=z2 avh jT Tryz.func163 l0 l1 h
end Go.Ab
