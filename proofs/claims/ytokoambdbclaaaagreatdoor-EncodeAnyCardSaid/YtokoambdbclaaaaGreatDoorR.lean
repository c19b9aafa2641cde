/- Part of the proof of EncodeAny, made short by a program: CPH LPI CPI LPJ CPJ LPK CPK LPL LX CX CPL LPM CPM. -/
import Derived.Test.YtokoambdbclaaaaGreatDoorQ
set_option linter.all false
set_option maxRecDepth 100000
open And renaming intro->ai
open Bool renaming and_eq_true->bN,and_true->ru,false->I,false_eq_true->eE,false_or->lG,not_eq_false'->fK,not_eq_true'->eH,not_false->kN,not_true->fh,or_eq_false_iff->cP,or_eq_true->fH,or_false->kz,or_true->wY,true->U,true_and->iw,true_eq_false->sr,true_or->vl
open Decidable renaming decide->Q,not_not->rx
open Go.IntKind renaming i64->dq
open Go.Proofs.Tryz renaming prog->aS
open Int renaming toNat_natCast->bh,toNat_of_nonneg->kA
open List renaming append_assoc->cC,append_nil->cL,cons_append->zn,filter_append->me,getD_eq_getElem?_getD->eI,getElem?_append_left->xe,getElem_of_mem->ou,length->L,length_append->bq,length_cons->bZ,length_filter_le->fZ,length_map->bJ,length_nil->bO,length_replicate->oA,length_singleton->GJ,length_take->gC,map_append->dg,mem_append->dF,mem_cons->eW,mem_filter->jW,mem_map->dN,mem_singleton->cE,nil_append->dW,not_mem_nil->ql,range->aH,range_succ->qn,take_length->gV,take_of_length_le->oB,take_succ_eq_append_getElem->iJ
open Nat renaming le_antisymm->bP,le_refl->dA,reduceAdd->dc,zero_add->aj
open Option renaming none->J,some->V
namespace Go.Ab
open Go Go.RowKit Go.Proofs
theorem Lg{A:(be)->Prop}{Y:ae}{K:be}:gF U A Y K=A K:=rfl
theorem Og(x:jY)(g:cJ)(hp:nK x/\qC x.w g=U):Ct LO [.a x.c, .a g.c] (·=bv U):=by refine aKQ rfl rfl λs4 hl b1 r h0=>?_;obtain⟨f,b⟩:=hp;have s:box s4 (2,1)=V ⟨129,16,U,U,[x.w.c++[sl aW.c x.ss]]⟩:=b1;have l:aN (V 16) (x.w.c++[sl aW.c x.ss])=V (.a x.c):=rfl;simp only[qC] at b;(cases m:Q (g.kind=2));simp only[m,cond_false,bN] at b;obtain⟨⟨S,T,W,X⟩,b⟩:=b;have d:=dX.1 S;have e:=dX.1 T;have D:=dX.1 W;have E:=dX.1 X;(cases j:Q (g.kind=1));simp only[j,cond_false] at b;(cases v:Q (g.kind=3));simp only[v,cond_false] at b;(cases F:Q (g.kind=4));simp only[F,cond_false] at b;cases b;simp only[F,cond_true,tZ,zR,vQ,bN,eH,cP,decide_eq_false_iff_not,decide_eq_true_eq,fK,rx] at b;obtain⟨⟨⟨o,q⟩,y⟩,⟨⟨⟨⟨n,z⟩,A⟩,G⟩,y8⟩,H,p⟩:=b;have Z:((L g.cW:Int)=0):=(by omega);have M:([g.ea,g.eb,g.ec,g.ed].all λi=>dh i (L x.w.ac))=U:=(by simp[S,T,W,X]);have t:nK x/\aF (L x.w.ac) g.ea/\aF (L x.w.ac) g.eb/\g.ea<g.eb/\(gd x.w.ac g.eb.toNat).aq=(gd x.w.ac g.ea.toNat).aq/\(gd (cY x.w g.ea.toNat).sync.ay (gd x.w.ac g.ea.toNat).aq.toNat).atomic=U/\(∀k,k<g.eb.toNat->g.ea.toNat<=k->((gd x.w.ac k).aq≠(gd x.w.ac g.ea.toNat).aq\/(gd x.w.ac k).kind≠15)):=⟨f,d,e,by omega,n.symm,p,H⟩;have hC:kB x.w/\aF (L x.w.ac) g.ea/\aF (L x.w.ac) g.eb/\aF (L x.w.ac) g.ec/\aF (L x.w.ac) g.ed/\g.ec<=g.ed/\(rP x.w g).aq=(xI x.w g).aq/\(rP x.w g).aq≠(jn x.w g).aq/\nh (jn x.w g) (rP x.w g)=U/\nh (xI x.w g) (mB x.w g)=U:=⟨f.wo,d,e,D,E,by omega,z,λh=>A h.symm,G,y8⟩;simp+contextual only[zE,u0,u1,s,r,l,kj,rk,aj,j,m,v,F,Z,vR,Lg,decide_true,iw,ru,ar,sG,Ac,M,f,f.wo,d,e,D,E,sr,eE,false_implies,true_implies,true_and,↓uL];exact⟨⟨by simp,t.2.2.2,hC.2.2.2.2.2,trivial⟩,trivial⟩;simp only[v,cond_true,wz,tm,bN,eH,cP,decide_eq_false_iff_not,decide_eq_true_eq,fH,rx,Bool.and_eq_false_imp] at b;obtain⟨⟨⟨⟨⟨⟨⟨⟨o,q⟩,y⟩,n⟩,z⟩,A⟩,G⟩,y8⟩,H,p,aa⟩:=b;have ab:((L g.cW:Int)=0):=(by omega);have hL:nK x/\aF (L x.w.ac) g.ea/\aF (L x.w.ac) g.eb/\g.eb<g.ea/\((gd x.w.ac g.ea.toNat).kind=18\/(gd x.w.ac g.ea.toNat).kind=19)/\(gd x.w.ac g.eb.toNat).kind=16/\(gd x.w.ac g.ea.toNat).obj=(gd x.w.ac g.eb.toNat).obj/\(gd x.w.ac g.ea.toNat).aq≠(gd x.w.ac g.eb.toNat).aq/\(∀k,k<g.ea.toNat->g.eb.toNat<k->(gd x.w.ac k).aq≠(gd x.w.ac g.eb.toNat).aq)/\(gd (cY x.w g.ea.toNat).sync.ay (gd x.w.ac g.eb.toNat).aq.toNat).cQ=3/\((gd x.w.ac g.ea.toNat).kind=19\/(gd x.w.ac g.ea.toNat).value=(gd x.w.ac g.eb.toNat).aq):=(by refine⟨f,d,e,by omega,?_,z,A,G,H,p,aa⟩;by_cases B:(gd x.w.ac g.ea.toNat).kind=18;exact .inl B;exact .inr (n B));have fl:=@al5 x g.ea g.eb;simp+contextual only[zE,u0,u1,s,r,l,kj,rk,aj,j,m,v,o,q,ab,decide_true,iw,ru,ar,sG,fl,sr,eE,false_implies,true_implies,true_and,↓uL];exact⟨⟨hL,trivial⟩,trivial⟩;simp only[j,cond_true,Ek,bN,decide_eq_true_eq,eH] at b;obtain⟨K,hc,u,C,P,N,R⟩:=b;simp+contextual only[zE,u0,u1,s,r,l,kj,rk,aj,j,eE,false_implies,true_implies,true_and,hc,u,C,decide_true,iw,ru,fh,ar,sG,Ac,sr,f.wo,d,e,K,N,P,R,ne_eq,not_false_eq_true,kN,and_self,↓uL];simp only[m,cond_true] at b;have j:Q (g.kind=1)=I:=(by simp[of_decide_eq_true m]);have u:=b;simp only[qx,bN,eH,decide_eq_true_eq] at u;obtain⟨t,am,C⟩:=u;simp only[rO,cP,decide_eq_false_iff_not,rx] at t;obtain⟨⟨⟨⟨⟨o,q⟩,y⟩,n⟩,z⟩,A⟩:=t;have O:qx x.w (Ds g.cW)=U:=(by rw[<-b];simp only[qx,rO,Ds,o,q,y,n];rfl);simp+contextual only[zE,u0,u1,s,r,l,kj,rk,aj,j,m,o,q,y,n,decide_true,iw,ru,ar,sG,Ac,f,O,and_self,sr,eE,false_implies,true_implies,true_and,↓uL]
def Fg:FT:=gz Og
def ayh{x g Lw K}:=gX Fg Og x g Lw K (j:=by simp+contextual only[ij,j9])
structure lJ(Y:ae)(b:Id)(e1 e:TypeId)(d n:Nat)(Lw:Nat->List (List AV))(f:Nat->AV):Prop where
 bx:box Y b=V ⟨e1,1,U,U,io n λi=>[f i]⟩
 gr:∀i,i<n->bc Y e 1 (f i) (Lw i)
 dj:∀i j,i<n->j<n->i≠j->∀q∈aA (f i),q∉aA (f j)
 pl:∀i,i<n->∀q∈aA (f i),q.1=d
theorem lJ.ix{Y:ae}{b:Id}{c e:TypeId}{d n:Nat}{Lw:Nat->List (List AV)}{f:Nat->AV}(O:lJ Y b c e d n Lw f){i:Int}(a:aF n i):cz 1 Y (.m b n) (iv i)=V (.p b i.toNat 0):=by have g:i.toNat<n:=(by have:=a.1;have:=a.2;omega);simp[cz,a.1,O.bx,g]
theorem lJ.ld{Y:ae}{b:Id}{a e:TypeId}{d n:Nat}{Lw:Nat->List (List AV)}{f:Nat->AV}(O:lJ Y b a e d n Lw f){i:Nat}(c:i<n):ef J Y (.p b i 0)=V (f i):=by simp[ef,iE,O.bx,uU c,aN]
theorem lJ.ln{Y:ae}{b:Id}{a e:TypeId}{d n:Nat}{Lw:Nat->List (List AV)}{f:Nat->AV}(O:lJ Y b a e d n Lw f){i:Nat}(c:i<n):fS Y (f i)=V (iv (L (Lw i))):=ke (O.gr i c)
theorem lJ.keep{Y a:ae}{b:Id}{ks:List Id}{c e:TypeId}{d n:Nat}{Lw:Nat->List (List AV)}{f:Nat->AV}(O:lJ Y b c e d n Lw f)(F:Fx Y a ks)(h:b∉ks)(j:∀i,i<n->∀q∈aA (f i),q∉ks):lJ a b c e d n Lw f:=⟨F.keep _ _ h O.bx,λi g=>(O.gr i g).fx F (j i g),O.dj,O.pl⟩
theorem lJ.no{Y:ae}{b:Id}{a e:TypeId}{d n:Nat}{Lw:Nat->List (List AV)}{f:Nat->AV}(O:lJ Y b a e d n Lw f){q:Id}{x:bY}(g:box Y q=V x)(j:x.var=U\/x.elem≠e){i:Nat}(c:i<n):q∉aA (f i):=λh=>by
 have:=(O.gr i c).ids q h
 rw[g] at this
 cases this
 rcases j with h|h
 ·cases h
 ·exact h rfl
theorem anO{Y:ae}{b:Id}{G e:TypeId}{d n by':Nat}{zs:List AV}{Lw:Nat->List (List AV)}{f:Nat->AV}{i:Int}{new:List (List AV)}{t o:Bool}{K:AV->be}(O:lJ Y b G e d n Lw f)(H:aF n i)(hz:L zs=1)(hd:d<L Y)(hr:∀r∈Lw i.toNat,L r=1)(hn:∀r∈new,L r=1)(hb:(L (Lw i.toNat)+L new)*(by'+1)<=1099511627776)(hK:∀a p w S,lJ w b G e d n (λj=>if j=i.toNat then Lw j++new else Lw j) S->L w=L Y->(∀q x,box Y q=V x->q≠b->x.var=U\/x.elem≠e->box w q=V x)->(∀q∈aA a,q.1=d)->p= .p b i.toNat 0->Fx Y w (b::aA (f i.toNat))->(∀j,j<n->∀q∈aA (S j),q∈aA (f j)\/bK Y q)->K a p w):eV (bS e zs by' Y d (f i.toNat) (.l new t o)) λa C=>rV (cz 1 C (.m b n) (iv i)) λp=>sV (aK 1 C p a) (K a p):=by have s:i.toNat<n:=(by have:=H.1;have:=H.2;omega);refine gD (O.gr _ s) hz (by decide) hd hr hn hb λa C M u z Z=>?_;have D:b∉aA (f i.toNat):=O.no O.bx (.inl rfl) s;have P:=u.keep _ _ D O.bx;have W:cz 1 C (.m b n) (iv i)=V (.p b i.toNat 0):=(by simp[cz,H.1,P,s]);rw[W];have T:b∉aA a:=λh=>(by rcases z _ h with h|h;exact D h;exact h.no _ O.bx);have F:∀q∈aA a,q.1=d:=λq c=>(Z q c).elim (O.pl _ s q) id;refine Bp P (uU s) (ms M) rfl (by simp) λN v b2=>?_;have R:box N b=V ⟨G,1,U,U,io n λj=>[if j=i.toNat then a else f j]⟩:=(by rw[b2,Bl];congr 2;refine yC λj g=>?_;by_cases h:j=i.toNat<;>simp[h]);have E:∀j,j<n->j≠i.toNat->∀q∈aA (f j),q∉aA a:=λj g A q c B=>(by rcases z _ B with h|h;exact O.dj j i.toNat g s A q c h;exact h.no _ ((O.gr j g).ids q c));refine hK a _ N _ ⟨R,λj g=>?_,λj k g X A q c=>?_,λj g q c=>?_⟩ (v.len.trans u.len) (λq x c aa hx=>v.keep _ _ (by simpa using aa) (u.keep _ _ (O.no c hx s) c)) F rfl ((u.trans v).mono (by simp only[dF,eW];rintro q (h|h|h);exact .inl (.inr h);exact .inl (.inl h);cases h)) λj g q c=>?_;by_cases h:j=i.toNat;subst h;simp only[if_true];exact M.fx v λq c e=>T (by simp at e;exact e▸c);simp only[if_neg h];refine((O.gr j g).fx u λq c=>O.dj j _ g s h q c).fx v λq c e=>?_;simp at e;exact O.no O.bx (.inl rfl) g (e▸c);by_cases h:j=i.toNat;simp only[if_pos h] at c;by_cases y:k=i.toNat;omega;simp only[if_neg y];exactλB=>E k X y q B c;simp only[if_neg h] at c;by_cases y:k=i.toNat;simp only[if_pos y];exact E j g h q c;simp only[if_neg y];exact O.dj j k g X A q c;by_cases h:j=i.toNat;simp only[if_pos h] at c;exact F q c;simp only[if_neg h] at c;exact O.pl j g q c;by_cases h:j=i.toNat;simp only[if_pos h] at c;rw[h];exact z q c;simp only[if_neg h] at c;exact .inl c
theorem giB{Y:ae}{e:TypeId}{a:AV}{l:List Bool}{i:Int}{K:bd}(g:bc Y e 1 a (l.map cb))(d:aF (L l) i):(rV (cz 1 Y a (iv i)) λt=>rV (ef J Y t) K)=K (bv (gd l i.toNat)):=by have c:i.toNat<L l:=(by have:=d.1;have:=d.2;omega);rcases g with⟨f,_⟩|⟨b,rfl,h⟩;simp at f;subst f;simp at c;simp[cz,d.1,h,c,rV,ef,iE,aN,bT c]
def fj(l:List aP)(t:Int)(k:Nat):List Nat:=(aH k).filter λj=>Q ((gd l j).aq=t)
theorem Bb{l:List aP}{t:Int}{k:Nat}:fj l t (k+1)=fj l t k++if(gd l k).aq=t then[k] else[]:=by rw[fj,qn,me];congr 1;by_cases h:(gd l k).aq=t<;>simp[h]
theorem wF{l:List aP}{t:Int}{k:Nat}:L (fj l t k)<=k:=by have:=fZ (λj=>Q ((gd l j).aq=t)) (aH k);simpa[fj] using this
def n8(l:List aP)(k t:Nat):List Bool:=(fj l t k).map λj=>fR (gd l j)
structure xv(w:am):Prop where
 wo:vL w
 ev:∀e∈w.ac,vo e
 sn:∀k,k<L w.ac->L (cY w k).cells<1000/\L (cY w k).bU<1000/\L (cY w k).count<1000
 ct:L w.init.count=L w.aQ.ay/\∀c∈w.init.count,0<=c/\c<=400
 rd:∀k,k<L w.ac->∀x,x∈(gd w.ac k).dI\/x∈(gd w.ac k).ep-> -1000<=x/\x<=1000/\(gd w.init.count (gd w.ac k).aq.toNat<=x->x-gd w.init.count (gd w.ac k).aq.toNat<(L (n8 w.ac k (gd w.ac k).aq.toNat):Int)/\gd (n8 w.ac k (gd w.ac k).aq.toNat) (x-gd w.init.count (gd w.ac k).aq.toNat).toNat=U)
theorem PZ(w:am)(b:xv w):Ct Nt [.a w.c] (·=bv U):=by
 refine aMQ rfl λs2 hl b1 h0=>?_
 have bX:=b.wo.wo.ev
 simp only[akJ,u0,u1,b1,rk,aj,↓uL]
 refine cV hl λX s3 F3 N3 b3=>?_
 refine cy (y:=7) (cs:=w.init.c) b3 rfl rfl (by decide) λs4 F4 b4=>?_
 have aG:box s4 (3,X)=V ⟨37,7,U,U,[w.init.c]⟩:=b4
 have c1:=F4.kq (F3.kq b1)
 have l4:L s4=4096:=(F4.len.trans F3.len).trans hl
 have b2:=b.wo.th
 simp only[akP,u0,u1,c1,rk,aj,dc,cT,↓uL]
 refine AP (by decide) (by decide) (by rw[l4];decide) (by omega) λR s5 o NR F5 b5=>?_
 have d1:=F5.kq c1
 have d3:=F5.kq aG
 have l5:L s5=4096:=F5.len.trans l4
 simp only[akO,u0,u1,d1,rk,aj,cT,↓uL]
 have F:((3,X):Id)≠R:=λe=>by rw[<-e] at o;simp at o
 have al:((1,1):Id)≠R:=λe=>by rw[<-e] at o;simp at o
 refine yV (L w.ac) (λk _ Y=>∃ds f,Lk ds (cY w k).c/\box Y (1,1)=V ⟨40,15,U,U,[w.c]⟩/\box Y (3,X)=V ⟨37,7,U,U,[ds]⟩/\lJ Y R 30 4 102 (L w.aQ.ay) (λt=>(n8 w.ac k t).map cb) f/\L Y=4096) ⟨w.init.c,λ_=> .l [] U U,⟨rfl,rfl⟩,d1,d3,⟨by rw[b5,Q0];rfl,λi _=>bc.nil,λi j _ _ _ q K=>by simp[aA] at K,λi _ q K=>by simp[aA] at K⟩,l5⟩ ?_
 rintro k _ Y hk ⟨ds,f,E,e1,e3,O,ab⟩
 have a9:=Bi (oC E)
 simp only[akS,aI,au,u0,u1,ix,rk,bh,e1,aj,↓uL]
 refine⟨λh=>⟨bA h,?_⟩,λh=>trivial⟩
 have g:=aL h
 refine cV ab λv6 Y1 F1 N1 g6=>?_
 refine cy (y:=7) (cs:=aP.c (gd w.ac k)) g6 rfl rfl (by decide) λP F2 aN=>?_
 have h6:box P (6,v6)=V ⟨59,7,U,U,[aP.c (gd w.ac k)]⟩:=aN
 have C:Fx Y P []:=F1.tn F2 N1.no
 have h1:=C.kq e1
 have D:=C.kq e3
 have O2:=O.keep C (by simp) (by simp)
 have l2:L P=4096:=C.len.trans ab
 simp only[akN,u0,u1,h1,D,h6,a9,rk,aj,↓uL]
 simp only[jM,kU,jt,zN,CU,E.arg,Ac]
 obtain⟨x1,x2,x3⟩:=b.sn k g
 have ad:=(b.wo.wo.en k g).2
 refine⟨⟨ad,b.wo.wo.co,b.wo.th,b.wo.sy k g,x1,x2,x3,b.ev _ (dB g)⟩,?_⟩
 rintro r ⟨z,rfl,A⟩
 refine⟨.inl ?_,?_⟩
 ·simp only[nA,List.any_cons,List.any_nil,x9 E]
  rfl
 have a1:oc w.aQ (cY w k) (gd w.ac k)=cY w (k+1):=by simp only[cY,nD,ad,cond_true]
 rw[a1] at A
 have av:=Bi (oC A)
 simp only[oJ,pG,aY,↓uL]
 refine cV l2 λv7 Y3 ax aC g7=>?_
 refine cy (y:=7) (cs:=z) g7 rfl (oC A) (by decide) λY4 aB aO=>?_
 have i7:box Y4 (7,v7)=V ⟨37,7,U,U,[z]⟩:=by
  rw[aO];simp
 have v:Fx P Y4 []:=ax.tn aB aC.no
 have i1:=v.kq h1
 have i3:=v.kq D
 have T:=v.kq h6
 have u:=O2.keep v (by simp) (by simp)
 have af:L Y4=4096:=v.len.trans l2
 have n:=(b.wo.wo.named g).2
 have s:(gd w.ac k).aq.toNat<L w.aQ.ay:=by have:=n.1;have:=n.2;omega
 have Z:aF (L w.init.count) (gd w.ac k).aq:=by rw[b.ct.1];exact n
 simp+contextual only[akM,u0,u1,T,rk,aj,fh,eE,false_implies,true_implies,true_and,brl,↓uL]
 refine il 2 (λ_=>True) trivial λj hj _=>?_
 simp+contextual only[akQ,aI,au,u0,u1,↓uL]
 refine⟨λaa=>?_,λaa=>?_⟩
 ·have h2:j<2:=by simp at aa;omega
  rw[ax2 h2]
  have M:∀x∈(if j=0 then(gd w.ac k).dI else(gd w.ac k).ep),x∈(gd w.ac k).dI\/x∈(gd w.ac k).ep:=by
   intro x M;split at M;exact .inl M;exact .inr M
  have bx:L (if j=0 then(gd w.ac k).dI else(gd w.ac k).ep)<4611686018427387904:=by have:=b.ev _ (dB g);split;exact this.1;exact this.2
  generalize(if j=0 then(gd w.ac k).dI else(gd w.ac k).ep)=l at*
  simp only[u0,u1,cT,↓uL]
  refine il (L l) (λ_=>True) trivial λm hm _=>?_
  simp+contextual only[akR,aI,au,u0,u1,ix,rk,i1,T,aj,bh,↓uL]
  refine⟨λD=>⟨bA D,?_⟩,λ_=>gS h2 (by decide) trivial⟩
  have H:=aL D
  have a2:=b.rd k g _ (M _ (dB H))
  have bW:=b.ct.2 _ (ii Z)
  generalize aZ:gd l m-gd w.init.count (gd w.ac k).aq.toNat=B at*
  have hw:dq.wrap B=B:=eM (by omega) (by omega)
  have hO:=u.gr _ s
  simp only[u0,u1,ix,rk,dc,alr,aZ,hw,↓uL]
  refine⟨Z,?_⟩
  by_cases hz:0<=B
  ·have N:Q (0<=B)=U:=decide_eq_true hz
   obtain⟨y1,y2⟩:=a2.2.2 (by omega)
   have ao:aF (L (n8 w.ac k (gd w.ac k).aq.toNat)) B:=⟨hz,y1⟩
   have a3:Q ((L (n8 w.ac k (gd w.ac k).aq.toNat):Int)<=B)=I:=decide_eq_false (by omega)
   simp only[u0,u1,N,jA,T,rk,aj,u.ix n,u.ld s,u.ln s,bJ,a3,giB hO ao,y2,fh,kz,Bool.and_false,eE,false_implies,true_implies,true_and,↓uL]
   exact gS H (by omega) trivial
  ·have N:Q (0<=B)=I:=decide_eq_false hz
   simp only[u0,u1,N,jN,show∀x,mL (bv I) x (bv I)=V (bv I) fromλ_=>rfl,eE,false_implies,true_implies,true_and,↓uL]
   exact gS H (by omega) trivial
 ·simp+contextual only[u0,u1,T,rk,aj,dc,u.ix n,u.ld s,iz,bQ,↓uL]
  have b0:L (n8 w.ac k (gd w.ac k).aq.toNat)<=k:=by simp only[n8,bJ];exact wF
  refine anO (by':=1) (zs:=BE) (d:=102) (e:=4) (new:=[[bv (fR (gd w.ac k))]]) u n rfl (by rw[af];decide) (by intro r S;obtain⟨y,_,rfl⟩:=dN.1 S;rfl) (by intro r S;simp at S;subst S;rfl) (by simp only[bJ,bZ,bO];omega) λa p Y5 f5 O5 a7 G ha bY _ _=>?_
  have j1:=G _ _ i1 al (.inl rfl)
  have j3:=G _ _ i3 F (.inl rfl)
  have an:((7,v7):Id)≠R:=λe=>by rw[<-e] at o;simp at o
  have j7:=G _ _ i7 an (.inl rfl)
  simp only[akL,↓uL]
  refine dT ?_ ?_
  ·have a0:=u.pl _ s
   rcases u.gr _ s with⟨_,W⟩|⟨⟨k4,u4⟩,W,_⟩
   ·rw[W];rfl
   ·have h4:=a0 (k4,u4) (by rw[W];simp[aA])
    simp only at h4
    subst h4
    rw[W];rfl
  simp only[u0,u1,j7,av,↓uL]
  refine cy (y:=7) (cs:=z) j3 rfl (oC A) (by rw[oC E];decide) λY6 F6 o3=>?_
  have a8:box Y6 (3,X)=V ⟨37,7,U,U,[z]⟩:=by
   rw[o3];have:=oC E;simp[this]
  have o1:=F6.kq j1
  have O6:=O5.keep F6 (by simpa using F.symm) (λi hi q K ae=>by
   simp at ae;subst ae
   have:=O5.pl i hi _ K
   simp at this)
  simp only[akK,au,cS,aY,↓uL]
  refine yU g ⟨z,f5,A,o1,a8,?_,(F6.len.trans a7).trans af⟩
  have aW:(λj=>if j=(gd w.ac k).aq.toNat then(n8 w.ac k j).map cb++[[bv (fR (gd w.ac k))]] else(n8 w.ac k j).map cb)=λt=>(n8 w.ac (k+1) t).map cb:=by
   funext j
   have h0:=n.1
   simp only[n8,Bb]
   by_cases hj:j=(gd w.ac k).aq.toNat
   ·rw[if_pos hj,if_pos (by omega)];simp
   ·rw[if_neg hj,if_neg (by omega)];simp
  rw[<-aW]
  exact O6
def Gq:FT:=mT PZ
def azL{w Lw K}:=oK Gq PZ w Lw K (j:=by simp+contextual only[ij,j9])
def apq:dO:=(LO,Fg)::(Nt,Gq)::apo
theorem Rh:eJ apq:=bI (hQ Og) (bI (pg PZ) (Rf))
def Do:=ai @ayh<|ai @azL<|@Ac
def avi:=bi 2 []
def akG w_1 s2 R:=aB 0 s2 w_1 λt3=>aw 6 s2 t3 λt4=>fV EU s2 [t4] λc=>az c (aB 0 s2 w_1) λA=>az c (aw 6 s2 A) λh=>az c (aB 7 s2 w_1) λi=>az c (aw 7 s2 i) λj=>az c (fV Gp s2 [h,j]) λk=>aD c k (bv I) λa=>aT a 14 s2 w_1 λl=>az a (aJ s2 l) λm=>az a (aO .leq m (iv 16)) λn=>aD a n (bv I) λd=>az d (aw 15 s2 w_1) λo=>az d (fV Gn s2 [o]) λp=>aD d p (bv I) λe=>az e (aw 15 s2 w_1) λq=>az e (fV Gu s2 [q]) λr=>aD e r (bv I) λf=>az f (aw 15 s2 w_1) λs=>az f (fV Gt s2 [s]) λt=>aD f t (bv I) λb=>az b (aB 7 s2 w_1) λu=>az b (aw 7 s2 u) λv=>az b (fV Gs s2 [v]) λw=>aD b w (bv I) λg=>az g (aw 15 s2 w_1) λx=>az g (fV Gq s2 [x]) λy=>aD g y (bv I) λz=>aE R s2 [z]
theorem aMN{b:List AV}{R:bd}(l0:L b=15)(h:H1 40 15 1 b λc d=>akG c d R):Ct Nq [.a b] R:=z1 avi Rh Tryz.func24 l0 h
def atf:=bi 3 []
def Zr t8 x_9 g_3 R s11:=az t8 (aw 16 s11 x_9) λa=>az t8 (aw 6 s11 g_3) λb=>az t8 (fV Fg s11 [a,b]) λc=>aD t8 c (bv I) λd=>aE R s11 [d]
def Zq w_1 g_3 s4 R:=aw 15 s4 w_1 λd=>fV E6 s4 [d] λc=>rV (eO 0 c) λe=>rV (eO 1 c) λf=>eV (bs 129 tH s4 5) λa b=>sV (aK 16 b a e) (Zr f a g_3 R)
theorem aKG{b:List AV}{c:List AV}{R:bd}(l0:L b=15)(l1:L c=6)(h:H2 40 15 2 b 42 6 3 c λd e f=>Zq d e f R):Ct LD [.a b, .a c] R:=z2 atf Rh Tryz.func39 l0 l1 h
theorem amF{l:List Int}:jC l↔l.Pairwise (·<·):=by rw[List.pairwise_iff_getElem];refine⟨λh i j a c b=>?_,λh i a=>?_⟩;have:=AD h b c;rwa [bT a,bT c] at this;rw[bT a,bT (show i<L l by omega)];exact h i (i+1) (by omega) a (by omega)
theorem an1:∀{l:List Int} {t x:Int},x∈fk l t->x=t\/x∈l
 |[],t,x,h=>by simp[fk] at h;exact .inl h
 |y::l,t,x,h=>by
  simp only[fk] at h
  split at h
  ·rcases eW.1 h with h|h
   ·exact .inr (by simp[h])
   ·rcases an1 h with h|h
    ·exact .inl h
    ·exact .inr (by simp[h])
  ·split at h
   ·exact .inr h
   ·rcases eW.1 h with h|h
    ·exact .inl h
    ·exact .inr h
theorem kQ.setTh{n:Nat}{s:aW}(h:kQ n s)(i:Int)(t:bF):kQ n (setTh s i t):=⟨h.lo,h.dn,by simp[Ab.setTh];exact h.th,h.rd⟩
theorem kQ.lk{n:Nat}{s:aW}(h:kQ n s)(i:Int):jC (cH s i).bk/\∀x∈(cH s i).bk,aF n x:=by unfold cH gd;rw[eI];cases a:s.ak[i.toNat]? with|none=>exact⟨λi b=>absurd b (Nat.not_lt_zero _),λx a=>absurd a ql⟩|some x=>exact h.rd x (List.mem_of_getElem? a)
theorem kQ.setLk{n:Nat}{s:aW}(h:kQ n s)(i:Int)(l:cg)(b:jC l.bk/\∀x∈l.bk,aF n x):kQ n (setLk s i l):=by refine⟨by simp[Ab.setLk];exact h.lo,h.dn,h.th,λx a=>?_⟩;simp only[Ab.setLk] at a;rcases List.mem_or_eq_of_mem_set a with a|rfl;exact h.rd x a;exact b
theorem kQ.marks{n:Nat}:∀{l:List Int} {s:aW},kQ n s->kQ n (l.foldl (λs u=>Ab.setTh s u {fA s u with cQ:=4}) s)|[],_,h=>h|u::l,s,h=>kQ.marks (l:=l) (h.setTh u _)
theorem kQ.apply{n:Nat}{s:aW}(h:kQ n s)(w:br)(t a obj wake:Int)(A:aF n t):kQ n (cU w s t a obj wake).1:=by unfold cU;by_cases p:a=1;rw[if_pos p];exact h.setTh _ _;rw[if_neg p];by_cases q:a=2;rw[if_pos q];exact h.setTh _ _;rw[if_neg q];by_cases r:a=6\/a=10;rw[if_pos r];exact h.setLk _ _ (h.lk _);rw[if_neg r];by_cases u:a=7\/a=11;rw[if_pos u];exact h.setLk _ _ (h.lk _);rw[if_neg u];by_cases v:a=8;rw[if_pos v];refine h.setLk _ _ ?_;have o:=(h.lk obj).1;rw[show mP (cH s obj).bk [t]=fk (cH s obj).bk t from Ro o];refine⟨Nz o,λx b=>?_⟩;rcases an1 b with rfl|b;exact A;exact(h.lk obj).2 x b;rw[if_neg v];by_cases y:a=9;rw[if_pos y];refine h.setLk _ _ ⟨amF.2 ((amF.1 (h.lk obj).1).filter _),λx b=>?_⟩;exact(h.lk obj).2 x (jW.1 b).1;rw[if_neg y];by_cases c:a=12;rw[if_pos c];exact⟨h.lo,h.dn,h.th,h.rd⟩;rw[if_neg c];by_cases d:a=13;rw[if_pos d];exact⟨h.lo,h.dn,h.th,h.rd⟩;rw[if_neg d];by_cases e:a=14;rw[if_pos e];exact h.setTh _ _;rw[if_neg e];by_cases f:a=15;rw[if_pos f];exact h.setTh _ _;rw[if_neg f];by_cases g:a=16;rw[if_pos g];refine(h.setLk _ _ ?_).setTh _ _;exact h.lk _;rw[if_neg g];by_cases i:a=17;rw[if_pos i];refine(h.setLk _ _ ?_).setTh _ _;exact h.lk _;rw[if_neg i];by_cases j:a=18;rw[if_pos j];by_cases z:fO s obj=[];rw[if_pos z];exact h;rw[if_neg z];exact h.setTh _ _;rw[if_neg j];by_cases k:a=19;rw[if_pos k];exact h.marks;rw[if_neg k];by_cases l:a=20;rw[if_pos l];exact h.setTh _ _;rw[if_neg l];by_cases m:a=22;rw[if_pos m];exact⟨h.lo,by simp;exact h.dn,h.th,h.rd⟩;rw[if_neg m];exact h
theorem Bq{w:am}(h:gf w=U):∀k,k<=L w.ac->kQ (L w.aQ.ay) (cY w k).sync:=by obtain⟨m,hs⟩:=ri h;obtain⟨c,y,u,v,b⟩:=tC m;intro k;induction k with|zero=>intro _;have n:=m;simp only[oh,cP,fK,decide_eq_false_iff_not] at n;have g:=n.2;simp only[ny,bN,decide_eq_true_eq] at g;have o:L w.init.count=L w.aQ.ay:=(by simp only[fN,bN,decide_eq_true_eq] at b;exact b.2.2.2);refine⟨c.sy.lo,c.sy.dn,c.sy.th,λl r=>?_⟩;have q:l∈w.init.sync.ak:=r;obtain⟨j,p,rfl⟩:=ou q;have e:=(g.1 j p).2;rw[bT p] at e;refine⟨λi a=>?_,λx s=>?_⟩;have:=(e (i+1) a).2 (by omega);simpa using this;obtain⟨i,a,rfl⟩:=ou s;have:=(e i a).1;simp only[nO,bN] at this;have:=dX.1 this.1;rw[bT a,o] at this;exact this|succ k t=>intro z;have d:=hs k (by omega);simp only[cY,nD,d,cond_true,oc];refine(t (by omega)).apply _ _ _ _ _ ?_;simp only[gj,eH,cP] at d;have f:=d.1;simp only[q9,cP,fK] at f;exact dX.1 f.1.1.1.2
theorem vd{w:am}(c:hU w)(h:gf w=U):vL w:=by obtain⟨a,hs⟩:=ri h;refine⟨Rr c h,?_,λk d=>Bq h k (by omega)⟩;simp only[oh,cP,fK] at a;have b:=a.1.1.1.1.1;simp only[mQ,bN,eH] at b;have hs:=b.1;simp only[wJ,cP,decide_eq_false_iff_not] at hs;omega
def kJ(t:Int):List aP->Nat->List Nat|[],_=>[]|e::l,i=>(if e.aq=t then[i] else[])++kJ t l (i+1)
theorem QH{t:Int}:∀{a b:List aP} {i:Nat},kJ t (a++b) i=kJ t a i++kJ t b (i+L a)
 |[],b,i=>by simp[kJ]
 |e::a,b,i=>by
  simp only[zn,kJ,cC]
  rw[QH (a:=a)]
  congr 3
  simp;omega
theorem Qz{t:Int}:∀{l:List aP} {i m:Nat},m<L (kJ t l i)->pS t l m i=((gd (kJ t l i) m:Nat):Int)
 |[],i,m,h=>by simp[kJ] at h
 |e::l,i,m,h=>by
  simp only[pS]
  by_cases a:e.aq=t
  ·rw[if_pos a]
   cases m with
   |zero=>simp[kJ,a,gd]
   |succ m=>
    rw[if_neg (by omega),show((m+1:Nat):Int)-1=(m:Int) by omega]
    rw[Qz (l:=l) (i:=i+1) (m:=m) (by simp[kJ,a] at h;omega)]
    simp[kJ,a,gd]
  ·rw[if_neg a]
   rw[Qz (l:=l) (i:=i+1) (m:=m) (by simp[kJ,a] at h;exact h)]
   simp[kJ,a]
theorem anU{t:Int}{l:List aP}:∀{k:Nat},k<=L l->kJ t (l.take k) 0=fj l t k
 |0,_=>by simp[kJ,fj]
 |k+1,h=>by
  have a:k<L l:=by omega
  rw[iJ a,<-bT a,QH,anU (k:=k) (by omega),Bb]
  congr 1
  have:L (l.take k)=k:=by simp;omega
  rw[this]
  by_cases b:(gd l k).aq=t<;>simp[kJ,b]
theorem aEv{w:am}{t:Int}{k m:Nat}(b:k<=L w.ac)(c:m<L (fj w.ac t k)):oV w t m=(gd (fj w.ac t k) m:Nat):=by have a:kJ t w.ac 0=fj w.ac t k++kJ t (w.ac.drop k) k:=(by(conv=>lhs;rw[<-List.take_append_drop k w.ac]);rw[QH,anU b];congr 2;simp;omega);unfold oV;rw[Qz (by rw[a];simp;omega),a];unfold gd;rw[eI,xe c,eI]
theorem aBC{l:List Int}{i j:Nat}{v:Int}(h:i≠j):gd (l.set i v) j=gd l j:=by simp only[gd,eI];rw[List.getElem?_set_ne h]
theorem axw{w:am}(h:gf w=U){t:Int}(c:aF (L w.init.count) t):∀k,k<=L w.ac->gd (cY w k).count t.toNat=gd w.init.count t.toNat+(L (fj w.ac t k):Int)/\L (cY w k).count=L w.init.count:=by obtain⟨e,hs⟩:=ri h;obtain⟨u,q,o,p,r⟩:=tC e;intro k;induction k with|zero=>intro _;simp[cY,fj]|succ k m=>intro x;obtain⟨i,l⟩:=m (by omega);have b:=hs k (by omega);have f:=(wK e k (by omega)).cn;have a:t.toNat<L (cY w k).count:=(by have:=c.1;have:=c.2;omega);simp only[cY,nD,b,cond_true,oc,List.length_set];refine⟨?_,l⟩;simp only[gj,eH,cP] at b;have d:=b.1;simp only[q9,cP,fK] at d;have j:=dX.1 d.1.1.1.2;have n:=j.1;have s:=c.1;rw[Bb];by_cases g:(gd w.ac k).aq=t;rw[g,if_pos rfl,bq,GJ];have v:=f _ (dB a);rw[show gd ((cY w k).count.set t.toNat (dq.wrap (gd (cY w k).count t.toNat+1))) t.toNat=dq.wrap (gd (cY w k).count t.toNat+1) from by simp[gd,a]];rw[eM (by omega) (by omega),i];omega;rw[if_neg g,cL];rw[aBC (by omega)];exact i
theorem anT{w:am}(z:hU w)(h:gf w=U):xv w:=by obtain⟨f,hs⟩:=ri h;obtain⟨B,N,K,M,m⟩:=tC f;have D:=vd z h;have i:L w.init.count=L w.aQ.ay:=(by simp only[fN,bN,decide_eq_true_eq] at m;exact m.2.2.2);have g:∀c∈w.init.count,0<=c/\c<=400:=λc E=>(by have:=B.cn c E;omega);refine⟨D,z.2.2.1,λk q=>?_,⟨i,g⟩,λk q x a=>?_⟩;have:=wK f k (by omega);have:=this.ce;have:=(wK f k (by omega)).fu;have:=(wK f k (by omega)).co;omega;have p:=hs k q;simp only[gj,eH,cP] at p;have v:=p.2.2.2.2;have s:=p.1;simp only[q9,cP,fK] at s;have u:=dX.1 s.1.1.1.2;simp only[u7,cP,fK,decide_eq_true_eq] at v;obtain⟨⟨F,G⟩,S⟩:=v;have n:aF (L w.init.count) (gd w.ac k).aq:=(by rw[i];exact u);obtain⟨C,R⟩:=axw h n k (by omega);have H:=g _ (ii n);have P:=wF (l:=w.ac) (t:=(gd w.ac k).aq) (k:=k);have A:1<=x/\x<gd (cY w k).count (gd w.ac k).aq.toNat:=(by rcases a with a|a;obtain⟨j,d,rfl⟩:=ou a;have:=F j d;rw[uJ,bT d] at this;exact⟨this.1,this.2.1⟩;obtain⟨j,d,rfl⟩:=ou a;have:=G j d;rw[uJ,bT d] at this;exact⟨this.1,this.2.1⟩);rw[C] at A;refine⟨by omega,by omega,λO=>?_⟩;have o:(((gd w.ac k).aq.toNat:Nat):Int)=(gd w.ac k).aq:=kA u.1;have r:(x-gd w.init.count (gd w.ac k).aq.toNat).toNat<L (fj w.ac (gd w.ac k).aq k):=(by omega);have b:qU w (gd w.ac k).aq x=U:=(by have y:=h;simp only[gf,bN,eH,decide_eq_true_eq] at y;have:=y.2.2 k q;simp only[xH,cP,fK,decide_eq_true_eq] at this;rcases a with a|a;exact this.1.2 x a;exact this.2 x a);simp only[qU] at b;rw[decide_eq_false (by omega),lG] at b;have e:=aEv (w:=w) (t:=(gd w.ac k).aq) (k:=k) (by omega) r;rw[kA (by omega)] at e;rw[e] at b;simp only[bN,bh] at b;refine⟨?_,?_⟩;simp only[n8,bJ,o];omega;simp only[n8,o];rw[bT (by simpa using r),List.getElem_map,<-bT r];exact b.2
theorem PW(w:am)(H:gf w=U/\hU w):Ct Nq [.a w.c] (·=bv U):=by refine aMN rfl λs2 s v h0=>?_;obtain⟨g,q⟩:=H;have m:=anT q g;have n:=g;simp only[gf,bN,eH,decide_eq_true_eq] at n;obtain⟨k,r,_⟩:=n;obtain⟨d,O,o,p,P⟩:=tC k;have e:=k;simp only[oh,cP,fK,decide_eq_false_iff_not] at e;obtain⟨⟨⟨⟨⟨K,h⟩,v3⟩,M⟩,N⟩,u⟩:=e;have R:=q;have S:=m.wo.th;obtain⟨g1,W,i,X⟩:L w.init.count=L w.aQ.ay/\L w.init.sync.ay=L w.aQ.ay/\L w.init.sync.ak=L w.aQ.ak/\L w.init.sync.done=L w.aQ.bU:=(by have b:=h;simp only[fN,bN,decide_eq_true_eq] at b;obtain⟨T,x,y,A⟩:=iY b.1;exact⟨b.2.2.2,A,x,y⟩);have Z:L w.init.bU=L w.aQ.bU:=(by have b:=h;simp only[fN,bN,decide_eq_true_eq] at b;exact b.2.2.1);have f:=u;simp only[ny,bN,decide_eq_true_eq] at f;have z:(L w.ac:Int)<=16:=(by omega);have t:aN (V 15) w.c=V (.a w.c):=rfl;have B:L w.ac<1000000/\L w.init.count<1000000:=(by omega);have hS:=Bq g 0 (by omega);have E:uZ w=U/\(∀j,j<L w.init.sync.ay->pX w j=U)/\L w.init.count=L w.init.sync.ay/\L w.init.sync.ay<1000000/\L w.init.sync.ak=L w.aQ.ak/\(∀c∈w.aQ.bC,aF (L w.aQ.ak) c.eg):=⟨N,f.2.2,by omega,by omega,i,o⟩;have D:ny w=U/\L w.init.sync.ak=L w.aQ.ak/\L w.aQ.ak<=4/\L w.init.sync.ay<=4/\(∀l∈w.init.sync.ak,L l.bk<=100):=⟨u,i,by have:=d.sy.lo;omega,by omega,λl s=>by have:=d.sy.rd l s;omega⟩;have C:(∀j,j<L w.init.bU->L w.init.sync.done=L w.init.bU/\(gd w.init.sync.done j=I->gd w.init.bU j=0))/\L w.init.bU=L w.init.sync.done/\L w.init.bU<1000000:=(by refine⟨λj G=>⟨by omega,λF=>?_⟩,by omega,by have:=d.fu;omega⟩;have:=r j G;simp only[Ae,F,kN,iw,decide_eq_false_iff_not,rx] at this;exact this);simp+contextual only[akG,u0,u1,v,t,rk,aj,ar,Do,K,h,M,p,z,B,E,D,C,m,and_self,decide_true,iw,ru,true_and,true_implies,implies_true,↓uL];exact⟨by have:=d.sy.dn;omega,trivial⟩
def xc:FT:=mT PW
def azI{w Lw K}:=oK xc PW w Lw K (j:=by simp+contextual only[ij,j9])
theorem NV(w:am)(g:cJ)(C:vL w/\qC w g=U):Ct LD [.a w.c, .a g.c] (·=bv U):=by refine aKG rfl rfl λD k u v F=>?_;obtain⟨e,B⟩:=C;have n:aN (V 15) w.c=V (.a w.c):=rfl;simp only[Zq,u0,u1,u,n,ar,Do,↓uL];refine⟨e,?_⟩;rintro r ⟨f,o,rfl⟩;refine⟨.inl rfl,?_⟩;simp only[oJ,pG,aY,↓uL];have i:L (w.c++[AV.l ((ob w (L w.ac)).map aW.c) f o])=16:=(by simp[am.c,br.c,bW.c,aW.c]);have m:L (tH)=16:=rfl;refine mo k λq b x=>?_;have d:box q (5,(aZ D 5).ver+1)=V ⟨129,16,U,U,[tH]⟩:=x;have j:5<L q:=(by rw[b.1,k];decide);refine gN d j m i λE t y=>?_;have z:box E (3,1)=_:=t.bt (b.bt v);have p:aN (V 16) (w.c++[AV.l ((ob w (L w.ac)).map aW.c) f o])=V (.a (w.c++[.l ((ob w (L w.ac)).map aW.c) f o])):=rfl;have A:nK ⟨w,ob w (L w.ac)⟩:=⟨e.wo,rfl⟩;have h:∀s:ae,dG s (.a (w.c++[.l ((ob w (L w.ac)).map aW.c) f o]))= .a (jY.c ⟨w,ob w (L w.ac)⟩):=λ_=>rfl;simp+contextual only[Zr,u0,u1,y,z,p,rk,h,ar,Do,A,B,and_self,true_and,iw,ru,true_implies,implies_true,↓uL]
def E5:FT:=gz NV
def ax8{w g Lw K}:=gX E5 NV w g Lw K (j:=by simp+contextual only[ij,j9])
def apr:dO:=(Nq,xc)::(LD,E5)::apq
theorem apf:eJ apr:=bI (pg PW) (bI (hQ NV) (Rh))
def amm:=ai @azI<|ai @ax8<|@Do
def aty:=bi 5 []
def aaG w_1 a1 s2 R:=aw 15 s2 w_1 λt3=>fV xc s2 [t3] λt4=>cf t4 λa=>ah a (aE R s2 [(.l [] U U)]) (aw 15 s2 w_1 λb=>fV Fq s2 [b,a1] λc=>aE R s2 [c])
theorem aKZ{b:List AV}{a1:AV}{R:bd}(l0:L b=15)(h:H1 40 15 2 b λc d=>aaG c a1 d R):Ct L0 [.a b,a1] R:=z1 aty apf Tryz.func71 l0 h
theorem Oq(w:am)(q:Int)(f:gf w=U/\hU w/\L w.ac<100000/\(aF (L w.ac) q->((gd w.ac q.toNat).kind=23->aF (L w.init.sync.done) (gd w.ac q.toNat).obj/\aF (L w.init.bU) (gd w.ac q.toNat).obj)/\((gd w.ac q.toNat).kind=3->aF (L w.init.cells) (gd w.ac q.toNat).obj))):Ct L0 [.a w.c,iv q] (λr=>∃t,r= .l ((dx w q).map ci) t U):=by refine aKZ rfl λk j d i=>?_;obtain⟨g,e,p1,h⟩:=f;have b:aN (V 15) w.c=V (.a w.c):=rfl;simp+contextual only[aaG,u0,u1,d,b,rk,aj,ar,amm,g,e,and_self,true_and,fh,eE,false_implies,true_implies,↓uL];refine⟨⟨p1,h⟩,?_⟩;intro t;exact⟨rfl,t,rfl⟩
def Fp:FT:=pn Oq
def ayp{w q Lw K}:=rQ Fp Oq w q Lw K
def aps:dO:=(L0,Fp)::apr
theorem apg:eJ aps:=bI (si Oq) (apf)
def Dp:=ai @ayp<|@amm
def atc:=bi 62 [(4,([3,20],[1,19])),(10,([3,26],[1,4,19,20,25])),(13,([3],[1,4,19,20,25,26])),(18,([3,43],[1,42])),(25,([3,55],[1,53,54])),(28,([3],[1,53,54,55])),(33,([3,71],[1,69,70])),(36,([3],[1,69,70,71])),(41,([3,83],[1,9,69,70,71,81,82])),(48,([3,98],[1,96,97])),(51,([3],[1,96,97,98])),(56,([3,113],[1,13,96,97,98,111,112]))]
def HY vs12(c:aG)(a:bu) s13 vs15 s16:=∀_:Rg,aV (gt vs12 1) (iv 1) λb=>c [(gt vs15 0),b] s16/\a [(gt vs15 0),b] s16<a vs12 s13
def YL vs6 vs12 s13(a:aG):=aO .neq (gt vs6 1) (gt vs12 1) λd=>ah d (rV (bM dM [(0,1),(1,1),(2,1)] [(0,(iv 1)),(1,(gt vs6 1)),(2,(gt vs12 1))]) λe=>eV (aX mb 1 s13 [(0,e)]) λf b=>eV (bS 66 dM 24 b 37 (gt vs12 0) f) λg c=>a [g] c) (a [(gt vs12 0)] s13)
def YP t11 vs6(d:aG)(b:bu) s7 I12 m12 vs12 s13:=∀_:Rg,aU (gt vs12 1) t11 λc=>ah c (jV 13 (HY vs12 I12 m12 s13) (YL vs6 vs12 s13)) (aV (gt vs6 1) (iv 1) λa=>d [(gt vs12 0),a] s13/\b [(gt vs12 0),a] s13<b vs6 s7)
def YF vs28(c:aG)(a:bu) s29 t34 s35:=aV (gt vs28 1) (iv 1) λb=>c [t34,b] s35/\a [t34,b] s35<a vs28 s29
def HZ vs40(c:aG)(a:bu) s41 vs43 s44:=∀_:Rg,aV (gt vs40 1) (iv 1) λb=>c [(gt vs43 0),b] s44/\a [(gt vs43 0),b] s44<a vs40 s41
def YG e_48 vs40(a:aG) s50:=aw 7 s50 e_48 λd=>fV zc s50 [d] λe=>ah e (rV (bM dM [(0,1),(1,1),(2,1)] [(0,(iv 3)),(1,(gt vs40 1))]) λf=>eV (aX mb 1 s50 [(0,f)]) λg b=>eV (bS 66 dM 24 b 66 (gt vs40 0) g) λh c=>a [h] c) (a [(gt vs40 0)] s50)
def YM s41 t38 vs40 J43:=ao 7 s41 t38 (gt vs40 1) λc=>aw 7 s41 c λd=>eV (bs 59 ee s41 8) λa b=>sV (aK 7 b a d) (YG a vs40 J43)
def H3 vs61(c:aG)(a:bu) s62 vs64 s65:=∀_:Rg,aV (gt vs61 1) (iv 1) λb=>c [(gt vs64 0),b] s65/\a [(gt vs64 0),b] s65<a vs61 s62
def YH vs78(c:aG)(a:bu) s79 t86 s87:=aV (gt vs78 1) (iv 1) λb=>c [t86,b] s87/\a [t86,b] s87<a vs78 s79
def YU t77 t76 vs61(a:aG) I78 m78 vs78 s79:=∀_:Rg,aU (gt vs78 1) t77 λc=>ah c (ao 1 s79 t76 (gt vs78 1) λd=>aM s79 d λe=>rV (bM dM [(0,1),(1,1),(2,1)] [(0,(iv 4)),(1,(gt vs61 1)),(2,e)]) λf=>eV (aX mb 1 s79 [(0,f)]) λg b=>eV (bS 66 dM 24 b 92 (gt vs78 0) g) (YH vs78 I78 m78 s79)) (a [(gt vs78 0)] s79)
def YI e_69(a:aG) vs61 w_1 s71:=aw 7 s71 e_69 λc=>fV zc s71 [c] λd=>cf d λe=>ah e (a [(gt vs61 0)] s71) (aw 15 s71 w_1 λf=>fV Fp s71 [f,(gt vs61 1)] λb=>aJ s71 b λg=>lV [(gt vs61 0),(iv 0)] s71 (YU g b vs61 a))
def YN s62 t59 vs61 w_1 J64:=ao 7 s62 t59 (gt vs61 1) λc=>aw 7 s62 c λd=>eV (bs 59 ee s62 10) λa b=>sV (aK 7 b a d) (YI a J64 vs61 w_1)
def H7 vs92(c:aG)(a:bu) s93 vs95 s96:=∀_:Rg,aV (gt vs92 1) (iv 1) λb=>c [(gt vs95 0),b] s96/\a [(gt vs95 0),b] s96<a vs92 s93
def YJ vs113(c:aG)(a:bu) s114 t121 s122:=aV (gt vs113 1) (iv 1) λb=>c [t121,b] s122/\a [t121,b] s122<a vs113 s114
def YW t112 t111 vs92(g:aG) I113 m113 vs113 s114:=∀_:Rg,aU (gt vs113 1) t112 λb=>ah b (ao 1 s114 t111 (gt vs113 1) λc=>aM s114 c λd=>rV (bM dM [(0,1),(1,1),(2,1)] [(0,(iv 5)),(1,(gt vs92 1)),(2,d)]) λe=>eV (aX mb 1 s114 [(0,e)]) λf a=>eV (bS 66 dM 24 a 122 (gt vs113 0) f) (YJ vs113 I113 m113 s114)) (g [(gt vs113 0)] s114)
def YK e_100(b:aG) vs92 w_1 s102:=aw 7 s102 e_100 λc=>fV E3 s102 [c] λd=>cf d λe=>ah e (b [(gt vs92 0)] s102) (aw 15 s102 w_1 λf=>ag 2 s102 e_100 λg=>ag 0 s102 e_100 λh=>fV E4 s102 [f,g,h] λa=>aJ s102 a λi=>lV [(gt vs92 0),(iv 0)] s102 (YW i a vs92 b))
def YO s93 t90 vs92 w_1 J95:=ao 7 s93 t90 (gt vs92 1) λc=>aw 7 s93 c λd=>eV (bs 59 ee s93 14) λa b=>sV (aK 7 b a d) (YK a J95 vs92 w_1)
def YV t91 t90 w_1 R I92 m92 vs92 s93:=∀_:Rg,aU (gt vs92 1) t91 λa=>ah a (jV 51 (H7 vs92 I92 m92 s93) (YO s93 t90 vs92 w_1)) (aE R s93 [(gt vs92 0)])
def YS t60 t59 w_1 R I61 m61 vs61 s62:=∀_:Rg,aU (gt vs61 1) t60 λb=>ah b (jV 36 (H3 vs61 I61 m61 s62) (YN s62 t59 vs61 w_1)) (ag 14 s62 w_1 λa=>aJ s62 a λc=>lV [(gt vs61 0),(iv 0)] s62 (YV c a w_1 R))
def YR t39 t38 w_1 R I40 m40 vs40 s41:=∀_:Rg,aU (gt vs40 1) t39 λb=>ah b (jV 28 (HZ vs40 I40 m40 s41) (YM s41 t38 vs40)) (ag 14 s41 w_1 λa=>aJ s41 a λc=>lV [(gt vs40 0),(iv 0)] s41 (YS c a w_1 R))
def YQ t27 w_1 R I28 m28 vs28 s29:=∀_:Rg,aU (gt vs28 1) t27 λc=>ah c (rV (bM dM [(0,1),(1,1),(2,1)] [(0,(iv 2)),(1,(gt vs28 1))]) λd=>eV (aX mb 1 s29 [(0,d)]) λe b=>eV (bS 66 dM 24 b 50 (gt vs28 0) e) (YF vs28 I28 m28 s29)) (ag 14 s29 w_1 λa=>aJ s29 a λf=>lV [(gt vs28 0),(iv 0)] s29 (YR f a w_1 R))
def YT t5 w_1 R I6 m6 vs6 s7:=∀_:Rg,aU (gt vs6 1) t5 λe=>ah e (ag 14 s7 w_1 λa=>aJ s7 a λb=>lV [(gt vs6 0),(iv 0)] s7 (YP b vs6 I6 m6 s7)) (ag 14 s7 w_1 λc=>aJ s7 c λd=>lV [(gt vs6 0),(iv 0)] s7 (YQ d w_1 R))
def YE w_1 s2 R:=ag 14 s2 w_1 λt4=>aJ s2 t4 λa=>lV [(.l [] U U),(iv 0)] s2 (YT a w_1 R)
theorem aKD{b:List AV}{R:bd}(l0:L b=15)(h:H1 40 15 1 b λc d=>YE c d R):Ct LB [.a b] R:=z1 atc apg Tryz.func25 l0 h
abbrev uF:List Nat:=[37,50,66,92,122]
abbrev tp:List Nat:=[37,50,66,92,122,8,10,14]
theorem NT(w:am)(hp:kB w/\L w.init.sync.ay<=4/\fN w.aQ w.init=U/\gf w=U/\hU w):Ct LB [.a w.c] (λr=>∃t,r= .l ((cw w).map ap.c) t U):=by refine aKD rfl λs2 hl b1 h0=>?_;obtain⟨H,br,D,aJ,aE⟩:=hp;have bk:=H.ev;simp+contextual only[YE,u0,u1,b1,rk,ix,aj,↓uL];have z:∀k m:Nat,k<=16->m<=100->k*m<=16*100:=λk m a b=>Nat.mul_le_mul a b;refine iu (λa i=>[a,iv i]) 1 uF tp 66 3 (L w.ac) (λk=>(lr (L w.ac) k).map ap.c) (λ_=>True) trivial (.inl ⟨rfl,rfl⟩) λk a Y o _ hG hF=>?_;have c1:box Y (1,1)=_:=hF.bt b1;have ae:L Y=4096:=(by rw[hF.1,hl]);simp only[YT,aI,u0,u1,c1,rk,ix,aj,bh,↓uL];refine⟨λh=>?_,λh=>?_⟩;have s:=aL h;have bm:=AS (L w.ac) k;have bn:=z k (L w.ac) (by omega) (by omega);refine iu (λa i=>[a,iv i]) 1 uF tp 66 3 (L w.ac) (λm=>(lr (L w.ac) k++nB k m).map ap.c) (λ_=>True) trivial (by simpa[nB] using hG) λm a2 X R _ q g=>?_;have v:L X=4096:=(by rw[g.1,ae]);have bo:=Qu k m;simp only[YP,aI,di,u0,u1,YL,xy,↓uL];refine⟨λf=>⟨λe=>?_,λe=>?_⟩,λf=>?_⟩;refine rF ⟨1,k,m⟩ q (by decide) (by rw[v];decide) (by simp;omega) λa3 E G x=>?_;simp only[HY,aI,au,fE,cS,aY,↓uL];refine ft (mk:=λa i=>[a,iv i]) (λ_ _=>rfl) (aL f) (by omega) trivial ?_ (g.trans (x.mono (by decide)));rw[nB,uP,if_pos e,<-cC];exact G;simp only[HY,aI,au,fE,cS,aY,↓uL];refine ft (mk:=λa i=>[a,iv i]) (λ_ _=>rfl) (aL f) (by omega) trivial ?_ g;rw[nB,uP,e];simpa[nB] using q;have d:m=L w.ac:=bP R (bw f);subst d;refine ft (mk:=λa i=>[a,iv i]) (λ_ _=>rfl) s (by omega) trivial ?_ (hF.trans g);rw[lr,tq];exact q;have j:k=L w.ac:=bP o (bw h);subst j;have bg:=AS (L w.ac) (L w.ac);have bi:=z (L w.ac) (L w.ac) (by omega) (by omega);clear h o;refine iu (λa i=>[a,iv i]) 1 uF tp 66 3 (L w.ac) (λk=>(lr (L w.ac) (L w.ac)++mK k).map ap.c) (λ_=>True) trivial (by simpa[mK] using hG) λk a1 Y1 o _ N K=>?_;have c2:box Y1 (1,1)=_:=K.bt c1;have P:L Y1=4096:=(by rw[K.1,ae]);simp only[YQ,aI,u0,u1,c2,rk,ix,aj,CW,↓uL];refine⟨λh=>?_,λh=>?_⟩;refine rF ⟨2,k,0⟩ N (by decide) (by rw[P];decide) (by simp[AT];omega) λa3 E G x=>?_;simp only[YF,au,fE,cS,aY,↓uL];refine ft (mk:=λa i=>[a,iv i]) (λ_ _=>rfl) (aL h) (by omega) trivial ?_ (K.trans (x.mono (by decide)));rw[mK,an5,<-cC];exact G;have j:k=L w.ac:=bP o (bw h);subst j;clear h o;generalize aa:lr (L w.ac) (L w.ac)++mK (L w.ac)=P2 at N;have a8:L P2<=1700:=(by rw[<-aa,bq,AT];omega);refine iu (λa i=>[a,iv i]) 1 uF tp 66 3 (L w.ac) (λk=>(P2++kh w.ac k).map ap.c) (λ_=>True) trivial (by simpa[kh] using N) λk a2 X o _ q g=>?_;have c3:box X (1,1)=_:=g.bt c2;have v:L X=4096:=(by rw[g.1,P]);simp only[YR,aI,di,YM,u0,u1,c3,rk,ix,aj,bh,↓uL];refine⟨λh=>⟨bA h,?_⟩,λh=>?_⟩;refine eF rfl rfl (by decide) (by rw[v];decide) λE x b3=>?_;have bl:=AU w.ac k;simp+contextual only[YG,u0,u1,b3,rk,aj,ar,Dp,CW,↓uL];refine⟨λe=>?_,λe=>?_⟩;refine rF ⟨3,k,0⟩ (q.fr x (by decide)) (by decide) (by rw[x.1,v];decide) (by simp;omega) λa3 F G F4=>?_;simp only[HZ,aI,au,fE,cS,aY,↓uL];refine ft (mk:=λa i=>[a,iv i]) (λ_ _=>rfl) (aL h) (by omega) trivial ?_ (g.trans ((x.mono (by decide)).trans (F4.mono (by decide))));rw[kh,uP,if_pos e,<-cC];exact G;simp only[HZ,aI,au,fE,cS,aY,↓uL];refine ft (mk:=λa i=>[a,iv i]) (λ_ _=>rfl) (aL h) (by omega) trivial ?_ (g.trans (x.mono (by decide)));rw[kh,uP,e];simpa[kh] using q.fr x (by decide);have j:k=L w.ac:=bP o (bw h);subst j;clear h o;generalize ab:P2++kh w.ac (L w.ac)=T at q;have a9:L T<=1800:=(by have:=AU w.ac (L w.ac);rw[<-ab,bq];omega);refine iu (λa i=>[a,iv i]) 1 uF tp 66 3 (L w.ac) (λk=>(T++ki w k).map ap.c) (λ_=>True) trivial (by simpa[ki] using q) λk a3 E o _ C B=>?_;have c4:box E (1,1)=_:=B.bt c3;have A:L E=4096:=(by rw[B.1,v]);simp only[YS,aI,di,YN,u0,u1,c4,rk,ix,aj,bh,↓uL];refine⟨λh=>⟨bA h,?_⟩,λh=>?_⟩;refine eF rfl rfl (by decide) (by rw[A];decide) λY5 n b5=>?_;have s:=aL h;have Z:box Y5 (1,1)=_:=n.bt c4;have bj:=vU w (k:Int);have bp:=AW w k;have aG:=z k (1+L w.ac) (by omega) (by omega);have aK:aN (V 15) w.c=V (.a w.c):=rfl;simp+contextual only[YI,u0,u1,b5,Z,aK,rk,aj,ar,Dp,bh,↓uL];refine⟨λe=>?_,λe=>?_⟩;simp only[H3,aI,au,fE,cS,aY,↓uL];refine ft (mk:=λa i=>[a,iv i]) (λ_ _=>rfl) s (by omega) trivial ?_ (B.trans (n.mono (by decide)));have:dx w (k:Int)=[]:=(by have hr:fR (gd w.ac k)=I:=(by simpa using e);simp[dx,hr]);rw[ki,tq,this,List.map_nil,cL];exact C.fr n (by decide);refine⟨⟨aJ,aE,by omega,λhq=>?_⟩,λt'=>?_⟩;obtain⟨S,_⟩:=H.named (k:=k) s;simp only[fN,bN,decide_eq_true_eq] at D;obtain⟨f1,f2,f3,f4⟩:=iY D.1;exact⟨λaF=>⟨by rw[f3];exact oU S (by omega) (by omega),by rw[D.2.2.1];exact oU S (by omega) (by omega)⟩,λaF=>by rw[D.2.1];exact qP S (by omega) (by omega)⟩;refine iu (λa i=>[a,iv i]) 1 uF tp 66 3 (L (dx w (k:Int))) (λm=>(T++ki w k++((dx w (k:Int)).take m).map λb=>(⟨4,(k:Int),b⟩:ap)).map ap.c) (λ_=>True) trivial (by simpa using C.fr n (by decide)) λm a4 F R _ u p=>?_;have y:L F=4096:=(by rw[p.1,n.1,A]);simp only[YU,aI,u0,u1,tf,rk,qM,bh,xy,↓uL];refine⟨λf=>⟨bA f,?_⟩,λf=>?_⟩;have d:=aL f;refine rF ⟨4,k,gd (dx w (k:Int)) m⟩ u (by decide) (by rw[y];decide) (by simp;omega) λa5 bf g5 av=>?_;simp only[YH,au,fE,cS,aY,↓uL];refine ft (mk:=λa i=>[a,iv i]) (λ_ _=>rfl) d (by omega) trivial ?_ (p.trans (av.mono (by decide)));rw[EC d];exact g5;have d:m=L (dx w (k:Int)):=bP R (bw f);subst d;simp only[H3,aI,au,fE,cS,aY,↓uL];refine ft (mk:=λa i=>[a,iv i]) (λ_ _=>rfl) s (by omega) trivial ?_ (B.trans ((n.mono (by decide)).trans p));rw[ki,tq,<-cC];rw[gV] at u;exact u;have j:k=L w.ac:=bP o (bw h);subst j;clear h o;generalize ad:T++ki w (L w.ac)=W at C;have ba:L W<=3500:=(by have:=AW w (L w.ac);have:=z (L w.ac) (1+L w.ac) (by omega) (by omega);rw[<-ad,bq];omega);have hN:cw w=W++jp w (L w.ac):=(by rw[cw,aa,ab,ad]);refine iu (λa i=>[a,iv i]) 1 uF tp 66 3 (L w.ac) (λk=>(W++jp w k).map ap.c) (λ_=>True) trivial (by simpa[jp] using C) λk a4 F o _ u p=>?_;have Z:box F (1,1)=_:=p.bt c4;have y:L F=4096:=(by rw[p.1,A]);simp only[YV,aI,di,YO,u0,u1,Z,rk,ix,aj,bh,↓uL];refine⟨λh=>⟨bA h,?_⟩,λh=>?_⟩;refine eF rfl rfl (by decide) (by rw[y];decide) λY5 n b5=>?_;have s:=aL h;have c6:box Y5 (1,1)=_:=n.bt Z;have bu:=Qv w k;have aG:=z k (L w.init.sync.ay+L w.ac) (by omega) (by omega);simp+contextual only[YK,u0,u1,b5,c6,rk,aj,ar,Dp,↓uL];refine⟨λe=>?_,λe=>⟨⟨by omega,by omega⟩,λt'=>?_⟩⟩;simp only[H7,aI,au,fE,cS,aY,↓uL];refine ft (mk:=λa i=>[a,iv i]) (λ_ _=>rfl) s (by omega) trivial ?_ (p.trans (n.mono (by decide)));have:pR w k=[]:=(by simp at e;simp[pR,e]);rw[jp,tq,this,cL];exact u.fr n (by decide);have aD:pN (gd w.ac k)=U:=(by simpa using e);have bs:=Rp w (gd w.ac k).obj (gd w.ac k).aq;refine iu (λa i=>[a,iv i]) 1 uF tp 66 3 (L (mR w (gd w.ac k).obj (gd w.ac k).aq)) (λm=>(W++jp w k++((mR w (gd w.ac k).obj (gd w.ac k).aq).take m).map λb=>(⟨5,(k:Int),b⟩:ap)).map ap.c) (λ_=>True) trivial (by simpa using u.fr n (by decide)) λm a6 Y6 R _ O M=>?_;have ao:L Y6=4096:=(by rw[M.1,n.1,y]);simp only[YW,aI,u0,u1,tf,rk,qM,bh,xy,↓uL];refine⟨λf=>⟨bA f,?_⟩,λf=>?_⟩;have d:=aL f;refine rF ⟨5,k,gd (mR w (gd w.ac k).obj (gd w.ac k).aq) m⟩ O (by decide) (by rw[ao];decide) (by simp;omega) λa7 Y7 g7 F7=>?_;simp only[YJ,au,fE,cS,aY,↓uL];refine ft (mk:=λa i=>[a,iv i]) (λ_ _=>rfl) d (by omega) trivial ?_ (M.trans (F7.mono (by decide)));rw[EC d];exact g7;have d:m=L (mR w (gd w.ac k).obj (gd w.ac k).aq):=bP R (bw f);subst d;simp only[H7,aI,au,fE,cS,aY,↓uL];refine ft (mk:=λa i=>[a,iv i]) (λ_ _=>rfl) s (by omega) trivial ?_ (p.trans ((n.mono (by decide)).trans M));rw[jp,tq,<-cC,pR,if_pos aD];rw[gV] at O;exact O;have j:k=L w.ac:=bP o (bw h);subst j;rw[hN];exact qV u λt=>⟨t,rfl⟩
def BQ:FT:=om NT
def ax6{w Lw K}:=qz BQ NT w Lw K
def apt:dO:=(LB,BQ)::aps
theorem Ey:eJ apt:=bI (rj NT) (apg)
def Lb:=ai @ax6<|@Dp
abbrev aqd:List AV:=[(.l [] U U),(.l [] U U),(.l [] U U),(.l [] U U),(.l [] U U),(.l [] U U),(iv 0),(.l [] U U),(iv 0),(.l [] U U),(.l [] U U),(.l [] U U),(.l [] U U),(.l [] U U),(.l [] U U),(.l [] U U),(.s (.map J)),(.l [] U U),(.l [] U U),(.l [] U U)]
def asD:=bi 5 []
def Tp w_1 s2 R:=aw 15 s2 w_1 λt3=>fV xc s2 [t3] λt4=>cf t4 λa=>ah a (aE R s2 [(.l [] U U)]) (aw 15 s2 w_1 λb=>fV BQ s2 [b] λc=>aE R s2 [c])
theorem aJ4{b:List AV}{R:bd}(l0:L b=15)(h:H1 40 15 1 b λc d=>Tp c d R):Ct Ly [.a b] R:=z1 asD Ey Tryz.func7 l0 h
def atd:=bi 19 [(4,([24],[1,3,22,23])),(7,([],[1,3,22,23,24])),(13,([52],[3,50,51]))]
def H9 vs21(c:aG)(a:bu) s22(d:eQ) s25:=∀_:Rg,aV (gt vs21 0) (iv 1) λb=>c [b] s25/\a [b] s25<a vs21 s22
def YX t15 t40 t41 n_29 t43 t42 t44 t48 t49 t46(a:aG) s50:=dH [lzz,lzz,(lz t15),(lz t40),(lz t41),(lz n_29),(lb I [t43] []),(lb I [t42,t44] [45]),(lz t15),(lz t48),(lb I [t49,t46] [])] [(0,6),(1,6),(2,6),(3,6),(4,6),(0,7)] (a [] s50)
def YY t15 t40 t41 n_29 t43 t42 t44 J24 t46 s47:=rV (cO s47 t15) λa=>aB 17 s47 a λb=>sV (aK 1 s47 b t46) (YX t15 t40 t41 n_29 t43 t42 t44 a b t46 J24)
def YZ n_29 t15(a:aG) s36:=ag 0 s36 n_29 λh=>al h (iv 5) λi=>ah i (rV (cO s36 t15) λb=>aB 17 s36 b λc=>aM s36 c λd=>aw 3 s36 n_29 λe=>eV (aX mb 1 s36 [(0,e)]) λf g=>eV (bS 66 dM 24 g 45 d f) (YY t15 b c n_29 e d f a)) (a [] s36)
def Za t15 n_29 vs21 J24 s31:=rV (cO s31 t15) λa=>ag 16 s31 a λb=>aw 3 s31 n_29 λc=>sV (n5 ⟨U,[(0,0),(1,0),(2,0)],(.int .i64 0)⟩ s31 b c (gt vs21 0)) (YZ n_29 t15 J24)
def Zg s22 t19 vs21 t15 J24:=ao 3 s22 t19 (gt vs21 0) λc=>aw 3 s22 c λd=>eV (bs 66 dM s22 5) λa b=>sV (aK 3 b a d) (Za t15 a vs21 J24)
def Zb t15 t62 t63 e_59 t65 t67 t68 t70 t69 t71 t72 vs54 t73 t74 t64 t66 t78 t76(c:aG)(a:bu) s55 s79:=dH [lzz,(lz t15),(lz t62),(lz t63),(lz e_59),(lz t65),lzz,(lz t15),(lz t67),(lz t68),(lz e_59),(lz t70),(lb U [t69,t71] []),(lz t72),lzz,(lb I [(gt vs54 0)] []),(lb I [t73,t74] [73]),(lb U [t64,t66] []),(lb I [t78,t76] [])] [(0,15),(1,15),(2,15),(3,15),(4,15),(5,15),(6,15),(7,15),(8,15),(9,15),(10,15),(11,15),(12,15),(13,15),(0,16),(1,16),(2,16),(3,16),(4,16),(5,16)] (aV (gt vs54 0) (iv 1) λb=>c [b] s79/\a [b] s79<a vs54 s55)
def Zc t64 t66 t15 t62 t63 e_59 t65 t67 t68 t70 t69 t71 t72 vs54 t73 t74 I54 m54 s55 t76 s77:=ao 1 s77 t64 t66 λa=>sV (aK 1 s77 a t76) (Zb t15 t62 t63 e_59 t65 t67 t68 t70 t69 t71 t72 vs54 t73 t74 t64 t66 a t76 I54 m54 s55)
def Zd t15 e_59 vs54 I54 m54 s55 s61:=rV (cO s61 t15) λa=>aB 18 s61 a λb=>aM s61 b λm=>aB 0 s61 e_59 λc=>aM s61 c λn=>rV (cO s61 t15) λd=>aB 18 s61 d λe=>aM s61 e λf=>aB 0 s61 e_59 λg=>aM s61 g λh=>ao 1 s61 f h λi=>aM s61 i λj=>eV (aX bH 1 s61 [(0,(gt vs54 0))]) λk l=>eV (bS 3 fB 8 l 73 j k) (Zc m n t15 a b e_59 c d e g f h i vs54 j k I54 m54 s55)
def Zh t53 t52 t15 R I54 m54 vs54 s55:=∀_:Rg,aU (gt vs54 0) t53 λc=>ah c (ao 7 s55 t52 (gt vs54 0) λd=>aw 7 s55 d λe=>eV (bs 59 ee s55 7) λa b=>sV (aK 7 b a e) (Zd t15 a vs54 I54 m54 s55)) (bz R s55 [t15])
def Zi t20 t19 t15 w_1 R I21 m21 vs21 s22:=∀_:Rg,aU (gt vs21 0) t20 λb=>ah b (jV 7 (H9 vs21 I21 m21 s22) (Zg s22 t19 vs21 t15)) (ag 14 s22 w_1 λa=>aJ s22 a λc=>lV [(iv 0)] s22 (Zh c a t15 R))
def Ze t3 t5 t6 w_1 t4 t8 t9 t10 t11 R t12 s13:=rV (bM aqd [(0,15),(15,1),(16,1),(17,1),(18,1),(19,1)] [(0,t3),(1,t5),(2,t6),(4,t12)]) λb=>eV (ej 121 20 s13 18 b) λc a=>dH [(lz w_1),(lz w_1),(Qh [(.f 25 [] []),t4]),(lb I [] [11]),(lz w_1),(lz t8),(lz t9),(lz t10),(lb I [t11,t11] [16]),(lb U [t3,t5,t6,t12] []),(lb I [b] [18]),lzz] [(0,3),(1,3),(2,3),(3,4),(3,5),(3,6),(3,7),(0,8),(1,8),(2,8),(3,8)] (rV (cO a c) λe=>ag 15 a e λd=>aJ a d λg=>lV [(iv 0)] a (Zi g d c w_1 R))
def Zf w_1 t3 t5 t4 R t6 s7:=aB 0 s7 w_1 λc=>aB 4 s7 c λd=>aM s7 d λb=>aJ s7 b λa=>eV (qO 35 BC 24 s7 16 a a) (Ze t3 t5 t6 w_1 t4 c d b a R)
def H8 w_1 s2 R:=aw 15 s2 w_1 λt3=>aw 15 s2 w_1 λt4=>fV BQ s2 [t4] λa=>eV (oS 119 s2 11) (Zf w_1 t3 a t4 R)
theorem aJn{a:AV}{s0:ae}{R:be}(h:eV (ej 40 15 s0 1 a) λb c=>H8 b c R):EB DG [a] s0 R:=zB atd Ey Tryz.func76 h
theorem aKE{d:List AV}{s0:ae}{R:be}(hs:L s0=4096)(l0:L d=15)(h:∀(b:ae) (c:Nat),Kp s0 b->(∀k,k≠1->aZ b k=aZ s0 k)->(∀x,box s0 (1,c)≠V x)->box b (1,c)=V ⟨40,15,U,U,[d]⟩->H8 (.p (1,c) 0 0) b R):EB DG [.a d] s0 R:=by refine aJn ?_;refine iN rfl l0 (by decide) (by decide) hs λb c i g0 j e=>?_;exact h b c i (λk f=>g0 k f) (λx g=>j x ((Kp.refl _).keep _ _ g)) e
def asQ:=bi 2 []
def Ho a0 n_1 s2 R:=rV (cO s2 a0) λt3=>ag 16 s2 t3 λa=>aw 3 s2 n_1 λb=>rV (oP ⟨U,[(0,0),(1,0),(2,0)],(.int .i64 0)⟩ s2 a b I) λc=>aV c (iv 1) λd=>bz R s2 [d]
theorem aI3{a a1:AV}{s0:ae}{R:be}(h:eV (ej 66 3 s0 3 a1) λb c=>Ho a b c R):EB jB [a,a1] s0 R:=zB asQ Ey Tryz.func99 h
theorem aKh{e:AV}{d:List AV}{s0:ae}{R:be}(hs:L s0=4096)(l1:L d=3)(h:∀(b:ae) (c:Nat),Kp s0 b->(∀k,k≠3->aZ b k=aZ s0 k)->(∀x,box s0 (3,c)≠V x)->box b (3,c)=V ⟨66,3,U,U,[d]⟩->Ho e (.p (3,c) 0 0) b R):EB jB [e, .a d] s0 R:=by refine aI3 ?_;refine iN rfl l1 (by decide) (by decide) hs λb c j g0 l f=>?_;exact h b c j (λk g=>g0 k g) (λx i=>l x ((Kp.refl _).keep _ _ i)) f
def au0:=bi 57 [(3,([25],[0,2,23,24])),(6,([],[0,2,23,24,25])),(13,([5,45],[0,2,3,4,23,24,25,43,44])),(21,([77],[0,2,3,4,23,24,25,75,76])),(27,([],[0,2,3,4,9,10,23,24,25,75,76,77])),(32,([120],[0,2,3,4,9,10,23,24,25,75,76,77,118,119])),(38,([135],[0,2,3,4,9,10,23,24,25,75,76,77,134])),(41,([],[0,2,3,4,9,10,23,24,25,75,76,77,134,135])),(46,([189],[0,187,188])),(52,([204],[0,14,187,188,189,202,203]))]
def ai9 vs6(c:aG)(b:bu) s7(d:eQ) s10:=∀_:Rg,aV (gt vs6 0) (iv 1) λa=>c [a] s10/\b [a] s10<b vs6 s7
def aiD vs30(c:aG)(a:bu) s31 t39 s40:=aV (gt vs30 1) (iv 1) λb=>c [t39,b] s40/\a [t39,b] s40<a vs30 s31
def aiO vs30 I30 m30 s31 t35 s36:=eV (aX bH 1 s36 [(0,t35)]) λb a=>eV (bS 3 fB 8 a 55 (gt vs30 0) b) (aiD vs30 I30 m30 s31)
def ai8 vs68(c:aG)(a:bu) s69(d:eQ) s72:=∀_:Rg,aV (gt vs68 0) (iv 1) λb=>c [b] s72/\a [b] s72<a vs68 s69
def aiZ t96 t99 t100 a0(d:aG) t102 s103:=eV (aX bH 4 s103 [(0,t96),(1,t99),(2,t100),(3,t102)]) λc a=>cB eP [a0,c] a 183 λe b=>d [] b
def ai1 a0 vs6 vs68 t96 t99 J71 t100 s101:=cB jP [a0,(gt vs6 0),(gt vs68 0)] s101 181 (aiZ t96 t99 t100 a0 J71)
def ai2 a0 vs68 t62 vs6 t96 J71 t97 s98:=rV (cR .neg t97) λa=>cB jP [a0,(gt vs68 0),t62] s98 177 (ai1 a0 vs6 vs68 t96 a J71)
def ai3 t108 t111 a0(d:aG) t112 s113:=eV (aX bH 3 s113 [(0,t108),(1,t111),(2,t112)]) λc a=>cB eP [a0,c] a 150 λe b=>d [] b
def ai4 a0 vs6 vs68 t108 J71 t109 s110:=rV (cR .neg t109) λa=>cB jP [a0,(gt vs6 0),(gt vs68 0)] s110 148 (ai3 t108 a a0 J71)
def ajb vs68 t62 t4 s69 e_14 t63 a0 vs6(b:aG):=al (gt vs68 0) t62 λa=>bG a t4 λd=>bG a (gt vs68 0) λe=>aC a (ao 7 s69 d e) λf=>aC a (aw 7 s69 f) λg=>aC a (aw 7 s69 e_14) λh=>aC a (fV Cn s69 [g,h]) λi=>aC a (cf i) λj=>aD a (bv U) j λk=>ah k (b [] s69) (aO .geq t62 (iv 0) λl=>ah l (rV (cR .neg t63) λm=>cB gJ [a0,(gt vs68 0)] s69 172 (ai2 a0 vs68 t62 vs6 m b)) (rV (cR .neg t63) λc=>cB gJ [a0,(gt vs68 0)] s69 143 (ai4 a0 vs6 vs68 c b)))
def ajh t67 t62 t4 e_14 t63 a0 vs6 vs58(c:aG)(b:bu) s59 I68 m68 vs68 s69:=∀_:Rg,aU (gt vs68 0) t67 λd=>ah d (jV 41 (ai8 vs68 I68 m68 s69) (ajb vs68 t62 t4 s69 e_14 t63 a0 vs6)) (aV (gt vs58 0) (iv 1) λa=>c [a] s69/\b [a] s69<b vs58 s59)
def ai7 t4 t62 e_14 t63 a0 vs6 vs58 I58 m58 s59(b:eQ) s66:=∀_:Rg,aJ s66 t4 λa=>lV [(iv 0)] s66 (ajh a t62 t4 e_14 t63 a0 vs6 vs58 I58 m58 s59)
def ai5 vs145(c:aG)(a:bu) s146(d:AV) s156:=aV (gt vs145 0) (iv 1) λb=>c [b] s156/\a [b] s156<a vs145 s146
def ai6 a0 vs145 I145 m145 s146 t153 s154:=cB eP [a0,t153] s154 131 (ai5 vs145 I145 m145 s146)
def aiE t150 a0 vs145 I145 m145 s146 t151 s152:=eV (aX bH 2 s152 [(0,t150),(1,t151)]) (ai6 a0 vs145 I145 m145 s146)
def ajg t144 t143 t63 a0(e:aG) I145 m145 vs145 s146:=∀_:Rg,aU (gt vs145 0) t144 λa=>ah a (ao 1 s146 t143 (gt vs145 0) λb=>aM s146 b λc=>rV (cR .neg t63) λd=>cB uv [a0,c] s146 129 (aiE d a0 vs145 I145 m145 s146)) (e [] s146)
def aiF a0 t4 t62 t63 J65(j:AV) s133:=rV (cO s133 a0) λb=>aB 0 s133 b λc=>aw 15 s133 c λd=>ao 7 s133 t4 t62 λe=>ag 0 s133 e λf=>ao 7 s133 t4 t62 λg=>ag 6 s133 g λh=>fV zj s133 [d,f,h] λa=>aJ s133 a λi=>lV [(iv 0)] s133 (ajg i a t63 a0 J65)
def aiG a0 t4 t62 t63 J65 t130 s131:=cB eP [a0,t130] s131 103 (aiF a0 t4 t62 t63 J65)
def aiH t127 a0 t4 t62 t63 J65 t128 s129:=eV (aX bH 2 s129 [(0,t127),(1,t128)]) (aiG a0 t4 t62 t63 J65)
def aiI t63 a0 t62 vs6 t4 J65(b:AV) s126:=rV (cR .neg t63) λa=>cB jP [a0,t62,(gt vs6 0)] s126 101 (aiH a a0 t4 t62 t63 J65)
def aiJ a0 t63 t62 vs6 t4 J65 t123 s124:=cB eP [a0,t123] s124 94 (aiI t63 a0 t62 vs6 t4 J65)
def aiK t120 a0 t63 t62 vs6 t4 J65 t121 s122:=eV (aX bH 2 s122 [(0,t120),(1,t121)]) (aiJ a0 t63 t62 vs6 t4 J65)
def aja t62 t63 a0 s64 vs6 t4(a:aG):=aO .geq t62 (iv 0) λb=>ah b (rV (cR .neg t63) λc=>cB gJ [a0,t62] s64 92 (aiK c a0 t63 t62 vs6 t4 a)) (a [] s64)
def aiL t4 t62 e_14 a0 vs6 vs58 I58 m58 s59 t63 s64:=jV 27 (ai7 t4 t62 e_14 t63 a0 vs6 vs58 I58 m58 s59) (aja t62 t63 a0 s64 vs6 t4)
def aje t57 t56 a0 vs6 t4 e_14(d:aG) I58 m58 vs58 s59:=∀_:Rg,aU (gt vs58 0) t57 λb=>ah b (ao 1 s59 t56 (gt vs58 0) λc=>aM s59 c λa=>cB kI [a0,(iv 4),(gt vs6 0),a] s59 84 (aiL t4 a e_14 a0 vs6 vs58 I58 m58 s59)) (d [] s59)
def aiM a0 vs6 t4 e_14 J9(f:AV) s52:=rV (cO s52 a0) λb=>aB 0 s52 b λc=>aw 15 s52 c λd=>fV zi s52 [d,(gt vs6 0)] λa=>aJ s52 a λe=>lV [(iv 0)] s52 (aje e a a0 vs6 t4 e_14 J9)
def aiN a0 vs30 vs6 t4 e_14 J9(a:AV) s50:=cB eP [a0,(gt vs30 0)] s50 69 (aiM a0 vs6 t4 e_14 J9)
def aiP a0 vs30 vs6 t4 e_14 J9 t47 s48:=cB eP [a0,t47] s48 66 (aiN a0 vs30 vs6 t4 e_14 J9)
def aiQ t44 a0 vs30 vs6 t4 e_14 J9 t45 s46:=eV (aX bH 2 s46 [(0,t44),(1,t45)]) (aiP a0 vs30 vs6 t4 e_14 J9)
def aiR a0 vs6 vs30 t4 e_14 J9 t42 s43:=rV (cR .neg t42) λa=>cB gJ [a0,(gt vs6 0)] s43 64 (aiQ a a0 vs30 vs6 t4 e_14 J9)
def ajd t29 t28 a0 vs6 t4 e_14 J9 I30 m30 vs30 s31:=∀_:Rg,aU (gt vs30 1) t29 λa=>ah a (ao 1 s31 t28 (gt vs30 1) λb=>aM s31 b λc=>cB kI [a0,(iv 4),(gt vs6 0),c] s31 53 (aiO vs30 I30 m30 s31)) (cB uv [a0,(gt vs6 0)] s31 60 (aiR a0 vs6 vs30 t4 e_14 J9))
def aiS a0 vs6 t4 e_14 J9 t23 s24:=rV (cO s24 a0) λb=>aB 0 s24 b λc=>aw 15 s24 c λd=>fV zi s24 [d,(gt vs6 0)] λa=>aJ s24 a λe=>lV [t23,(iv 0)] s24 (ajd e a a0 vs6 t4 e_14 J9)
def aiT a0 vs6 t4 e_14 J9 t20 s21:=rV (cR .neg t20) λa=>eV (aX bH 1 s21 [(0,a)]) (aiS a0 vs6 t4 e_14 J9)
def aiU e_14(a:aG) a0 vs6 t4 s16:=aw 7 s16 e_14 λb=>fV zk s16 [b] λc=>cf c λd=>ah d (a [] s16) (cB uv [a0,(gt vs6 0)] s16 35 (aiT a0 vs6 t4 e_14 a))
def ajc s7 t4 vs6 a0 J9:=ao 7 s7 t4 (gt vs6 0) λc=>aw 7 s7 c λd=>eV (bs 59 ee s7 4) λa b=>sV (aK 7 b a d) (aiU a J9 a0 vs6 t4)
def aiV vs176(c:aG)(a:bu) s177(d:AV) s189:=aV (gt vs176 0) (iv 1) λb=>c [b] s189/\a [b] s189<a vs176 s177
def aiW a0 vs176 I176 m176 s177 t186 s187:=cB eP [a0,t186] s187 217 (aiV vs176 I176 m176 s177)
def aiX t183 a0 vs176 I176 m176 s177 t184 s185:=eV (aX bH 2 s185 [(0,t183),(1,t184)]) (aiW a0 vs176 I176 m176 s177)
def aiY a0 t180 vs176 I176 m176 s177 t181 s182:=rV (cR .neg t181) λa=>cB uv [a0,t180] s182 215 (aiX a a0 vs176 I176 m176 s177)
def ajj t175 t174 a0 vs159(c:aG)(a:bu) s160 I176 m176 vs176 s177:=∀_:Rg,aU (gt vs176 0) t175 λd=>ah d (ao 1 s177 t174 (gt vs176 0) λe=>aM s177 e λf=>cB gJ [a0,(gt vs159 0)] s177 211 (aiY a0 f vs176 I176 m176 s177)) (aV (gt vs159 0) (iv 1) λb=>c [b] s177/\a [b] s177<a vs159 s160)
def ai0 a0 e_164 vs159 I159 m159 s160 s166:=rV (cO s166 a0) λb=>aB 0 s166 b λc=>aw 15 s166 c λd=>ag 0 s166 e_164 λe=>ag 5 s166 e_164 λf=>fV zj s166 [d,e,f] λa=>aJ s166 a λg=>lV [(iv 0)] s166 (ajj g a a0 vs159 I159 m159 s160)
def aji t158 t4 a0 R I159 m159 vs159 s160:=∀_:Rg,aU (gt vs159 0) t158 λc=>ah c (ao 7 s160 t4 (gt vs159 0) λd=>aw 7 s160 d λe=>eV (bs 59 ee s160 15) λa b=>sV (aK 7 b a e) (ai0 a0 a vs159 I159 m159 s160)) (bz R s160 [])
def ajf t5 t4 a0 R I6 m6 vs6 s7:=∀_:Rg,aU (gt vs6 0) t5 λb=>ah b (jV 6 (ai9 vs6 I6 m6 s7) (ajc s7 t4 vs6 a0)) (aJ s7 t4 λa=>lV [(iv 0)] s7 (aji a t4 a0 R))
def JG a0 s0 R:=rV (cO s0 a0) λt1=>aB 0 s0 t1 λa=>ag 14 s0 a λt4=>aJ s0 t4 λb=>lV [(iv 0)] s0 (ajf b t4 a0 R)
theorem aJJ{a:AV}{s0:ae}{R:be}(h:JG a s0 R):EB DN [a] s0 R:=zB au0 Bt Tryz.func88 h
theorem aMt{a:AV}{s0:ae}{R:be}(hs:L s0=4096)(h:JG a s0 R):EB DN [a] s0 R:=by refine aJJ ?_;exact h
theorem mG{B:aG}{A:(aG)->Prop}(Q:aG)(f:∀c,(∀vs e,Q vs e->c vs e)->A c)(g:∀vs e,Q vs e->B vs e):A B:=f B g
def gA(Y:ae)(e:TypeId)(z:Nat)(a:AV)(rows:List (List AV)):Prop:=(∃o,a= .l rows U o)\/∃b,a= .m b (L rows)/\box Y b=V ⟨e,z,U,I,rows⟩
theorem gA.fx{Y c:ae}{ks:List Id}{e:TypeId}{z:Nat}{a:AV}{rows:List (List AV)}(i:gA Y e z a rows)(g:Fx Y c ks)(j:∀b∈aA a,b∉ks):gA c e z a rows:=by rcases i with h|⟨b,rfl,f⟩;exact .inl h;exact .inr ⟨b,rfl,g.keep b _ (j b (by simp[aA])) f⟩
theorem apT{Y:ae}{e:TypeId}{z d by':Nat}{zs:List AV}{a:AV}{rows new:List (List AV)}{t o:Bool}{K:be}(A:gA Y e z a rows)(j:L zs=z)(k:0<z)(c:d<L Y)(v:∀r∈rows,L r=z)(s:∀r∈new,L r=z)(q:(L rows+L new)*(by'+1)<=1099511627776)(p:∀i f,gA f e z i (rows++new)->Fx Y f (aA a)->(∀b∈aA i,b∈aA a\/bK Y b)->K i f):eV (bS e zs by' Y d a (.l new t o)) K:=by rcases A with⟨o',rfl⟩|⟨b,rfl,y⟩;unfold bS;simp only[gL];by_cases m:L new=0;rw[if_pos m];have u:new=[]:=List.length_eq_zero_iff.1 m;subst u;exact p _ _ (.inl ⟨o',by simp⟩) (Fx.refl _ _) (by simp[aA]);rw[if_neg m,if_pos ⟨by rw[j];exact k,by simp[eX,c],by rw[j];exact s⟩];rw[if_pos ⟨by rw[j];exact v,by simpa[lx] using q⟩];refine p _ _ (.inr ⟨bV Y d,by simp,?_⟩) ((kH c).mono (by simp)) (by simp[aA];exact qQ Y d);rw[<-j];exact iy c;refine gD (.inr ⟨b,rfl,y⟩) j k c v s q λi f g F B _=>p i f ?_ F B;rcases g with⟨x,rfl⟩|h;exact .inl ⟨U,by rw[x]⟩;exact .inr h
theorem ali{Y:ae}{e:TypeId}{x:AV}{l:List Int}(h:gA Y e 1 x (l.map ci)):dG Y x=sl ci l:=by rcases h with⟨o,rfl⟩|⟨b,rfl,c⟩;rfl;simp[dG,eR,gi,c,nrm,gK,sl,oB]
theorem aCr(l:List Int)(k:L l<1000000):∃r c,bc c 3 1 r (l.map ci)/\cZ aS GG tc [sl ci l] eK r c:=by refine aLX (oA ..) ?_;simp only[IV,nS,bQ,↓uL];refine gD (e:=3) (new:=l.map ci) bc.nil rfl (by decide) (by rw[show L eK=4096 from oA ..];decide) (by simp) fF (by simp only[bJ,bO];omega) λi h f g j _=>?_;simp only[bz,ew];exact f
theorem alD{Y:ae}{d:Nat}{K:be}{x:AV}{l:List Int}(s:gA Y 3 1 x (l.map ci))(q:L l<1000000)(f:d<L Y)(i:∀e c,bc c 3 1 e (l.map ci)->Fx Y c []->(∀k∈aA e,bK Y k/\k.1=d)->K e c):cN tc [x] Y d K:=by obtain⟨r,m,g,h⟩:=aCr l q;have j:[x].map (dG Y)=[sl ci l]:=(by simp[ali s]);refine .inl ⟨by rw[j];rfl,by simp[eX,f],r,m,by rw[j];exact h,?_⟩;rcases g with⟨o,rfl⟩|⟨b,rfl,p⟩;exact .inl ⟨rfl,i _ _ (.inl ⟨o,rfl⟩) (Fx.refl _ _) (by simp[aA])⟩;refine .inr ⟨b,_,_,rfl,p,?_,i _ _ (.inr ⟨bV Y d,rfl,iy f⟩) (kH f) (by simp[aA,bV,bK])⟩;simp[qA,gY]
section
variable{Y:ae}{b:Id}{w:am}{ns:List ap}{out:List (List Int)}{n a:AV}{d:Nat}{K:be}
theorem Dd(B:cm Y b w ns out n a)(u:L out<1000000000){x:AV}(c:List Int)(C:gA Y 3 1 x (c.map ci)){l:ae}{r:AV}(A:Ad l Y b r a)(z:∀k∈aA x,bK l k)(s:∀i f,cm f b w ns (out++[c]) n i->Ad l f b r i->Fx Y f (b::(aA a++aA x))->K (.t []) f):cB eP [.p b 0 0,x] Y d K:=by rcases C with⟨o,rfl⟩|⟨y,rfl,h⟩;exact fQ B u c λi f j m=>s i f j (A.trans m) (by simpa[aA] using m.fx);refine awM B u c (.inr ⟨y,rfl,h⟩) λi f j q v=>s i f j ⟨(A.fx.trans q).mono ?_,?_⟩ q;intro k e;rcases dF.1 e with e|e;exact .inl e;rcases eW.1 e with rfl|e;exact .inl (by simp);rcases dF.1 e with e|e;rcases A.id k e with g|g;exact .inl (by simp[g]);exact .inr g.no;exact .inr (z k e).no;intro k e;rcases v k e with g|g;exact A.id k g;exact .inr (g.old A.fx)
abbrev lS(ns:List ap)(r s:Int):Int:=dP ns ⟨4,r,s⟩
def jl(ns:List ap)(w:am)(r:Nat)(s:Int)(x:Nat):List (List Int):=
 if(x:Int)=s\/pf (gd w.ac x) (gd w.ac r)=I then[] else if 0<=s then[[-lS ns r s,-lE ns x,lB ns x s,lB ns r x]] else[[-lS ns r s,-lE ns x,lB ns r x]]
def pD(ns:List ap)(r:Nat)(s:Int)(l:List Int)(j:Nat):List (List Int):=[[-lS ns r s,lF ns (gd l j)]]
def kD(ns:List ap)(w:am)(r:Nat)(s:Int):List (List Int):=
 if 0<=s then[[-lS ns r s,lE ns s],[-lS ns r s,lB ns s r]]++(aH (L (fg w (gd w.ac s.toNat).aq (gd w.ac s.toNat).ep))).flatMap (pD ns r s (fg w (gd w.ac s.toNat).aq (gd w.ac s.toNat).ep)) else[]
def iP(ns:List ap)(w:am)(r:Nat)(s:Int):List (List Int):=kD ns w r s++(aH (L w.ac)).flatMap (jl ns w r s)
def gW(ns:List ap)(w:am)(r:Nat):List (List Int):=
 if fR (gd w.ac r)=U then[[-lF ns r,lE ns r],-lF ns r::(dx w r).map (lS ns r)]++(aH (L (dx w r))).flatMap (λj=>iP ns w r (gd (dx w r) j)) else[]
def qv(ns:List ap)(i:Nat)(l:List Int)(j:Nat):List (List Int):=[[-lE ns i,lF ns (gd l j)]]
def kX(ns:List ap)(w:am)(i:Nat):List (List Int):=(aH (L (fg w (gd w.ac i).aq (gd w.ac i).dI))).flatMap (qv ns i (fg w (gd w.ac i).aq (gd w.ac i).dI))
def rJ(ns:List ap)(w:am):List (List Int):=(aH (L w.ac)).flatMap (gW ns w)++(aH (L w.ac)).flatMap (kX ns w)
theorem aCI(B:cm Y b w ns out n a)(y:L ns<100000)(W:WV w)(hC:∀r:Nat,∀s∈dx w r,0<=s->aF (L w.ac) s)(hL:∀r:Nat,L (dx w r)<=1000)(hI:∀u l,L (fg w u l)<=L l)(hP:∀r:Nat,r<L w.ac->((gd w.ac r).kind=23->aF (L w.init.sync.done) (gd w.ac r).obj/\aF (L w.init.bU) (gd w.ac r).obj)/\((gd w.ac r).kind=3->aF (L w.init.cells) (gd w.ac r).obj))(ho:L out+L (rJ ns w)<999999900):∃r Y1,sj Y b w ns out (rJ ns w) n a r Y1/\cZ aS GG DN [.p b 0 0] Y r Y1:=by refine aMt B.le ?_;have T:=B.bx;have hw:=W.ok.ev;have nb:∀{k v:Nat},k≠sB->(k,v)≠b:=λ{k v} h e=>h (by have:=B.sb;rw[<-e] at this;exact this);simp only[rJ,bq] at ho;simp only[JG,dy T,u0,u1,T,kn,aj,cT,↓uL];refine yV (L w.ac) (λk _ m=>∃o,cm m b w ns (out++(aH k).flatMap (gW ns w)) n o/\Ad Y m b a o) ⟨a,by simpa using B,Ad.refl _ _ _⟩ ?_;rintro r _ Y1 hr ⟨a1,B1,A1⟩;simp+contextual only[ajf,au,aI,u0,u1,cT,↓uL];refine⟨λh=>?_,λh=>?_⟩;have ag:=aL h;have lA:=fU (f:=gW ns w) (show r+1<=L w.ac by omega);rw[cr,bq] at lA;refine mG (λvs m=>vs=[]/\∃o,cm m b w ns (out++(aH r).flatMap (gW ns w)++gW ns w r) n o/\Ad Y m b a o) (λg hJ=>?_) ?_;simp only[ajc,au,ix,u0,u1,rk,bh,↓uL];refine⟨dJ ag,?_⟩;refine cV B1.le λN Y2 F2 N2 b2=>?_;refine cy (cs:=aP.c (gd w.ac r)) b2 rfl rfl (by decide) λY3 F3 b3=>?_;have a3:box Y3 (4,N)=V ⟨59,7,U,U,[aP.c (gd w.ac r)]⟩:=b3;have aZ:Fx Y1 Y3 []:=F2.tn F3 N2.no;have B3:=B1.kp aZ;have A3:=A1.fxn aZ;have ba:=B3.bx;simp+contextual only[aiU,u0,u1,a3,rk,sY,ar,aj,↓uL];refine⟨λhx=>?_,λhx=>?_⟩;refine hJ [] Y3 ⟨rfl,a1,?_,A3⟩;have:¬fR (gd w.ac r)=U:=(by simpa using hx);rw[gW,if_neg this,cL];exact B3;have cg:fR (gd w.ac r)=U:=(by simpa using hx);rw[gW,if_pos cg] at lA hJ;simp only[bq,bZ,bO] at lA;refine zS (d:=0) B3 y _ ?_;simp only[aiT,de y,aY,f7,bQ,aiS,dy ba,u0,u1,ba,kn,au,aj,sY,ar,↓uL];refine⟨⟨by omega,λ_=>by simpa using hP r ag⟩,λt=>?_⟩;have cN:=hL r;have bW:=hC r;generalize b6:dx w r=Lw at*;refine jD (α:=AV) (λa i=>[a,iv i]) 1 (L Lw) (λj c m=>gA m 3 1 c ((-lF ns r::(Lw.take j).map (lS ns r)).map ci)/\Fx Y3 m []/\∀k∈aA c,bK Y3 k) (s0:= .l ([-lF ns r].map ci) U U) ⟨.inl ⟨U,by simp⟩,Fx.refl _ _,by simp[aA]⟩ ?_;rintro j c Y4 hj ⟨g4,F4,N4⟩;have E:=B3.kp F4;simp+contextual only[ajd,au,ck,aI,u0,u1,wu,iF,bh,↓uL];refine⟨λh4=>⟨bA h4,?_⟩,λh4=>?_⟩;refine nc (d:=0) E y _ _ _ ?_;simp only[aiO,f7,bQ,au,↓uL];refine apT g4 rfl (by decide) (by rw[E.le];decide) fF fF (by simp only[bJ,bZ,bO,gC];omega) λc5 Y5 g5 F5 cd=>?_;simp only[aiD,au,ck,u0,u1,↓uL];refine dR (mk:=λa i=>[a,iv i]) (s:=c) (λ_ _=>rfl) (aL h4) (by omega) ⟨?_,(F4.trans F5).mono (by simp only[dW];exactλk D=> .inr (N4 k D).no),λk D=>(cd k D).elim (N4 k) (λh=>h.old F4)⟩;rw[iJ (aL h4),dg,<-zn,dg,<-bT (aL h4)];exact g5;rw[oB (bw h4)] at g4;refine zS (d:=0) E y _ ?_;simp only[aiR,de y,aY,au,↓uL];refine ig (d:=0) E y _ ?_;simp only[aiQ,fi,bQ,aiP,↓uL];refine fQ E (by simp only[bq];omega) [_,_] λa5 Y5 P A5=>?_;have b5:∀k∈aA c,k∉b::aA a1:=(by intro k D az;rcases g4 with⟨o',rfl⟩|⟨b',rfl,M⟩;simp[aA] at D;simp only[aA,cE] at D;subst D;rcases eW.1 az with rfl|az;have:=E.bx;rw[M] at this;cases this;exact E.nv M (.inr (show(3:Nat)≠35 by decide)) az);have g5:=g4.fx A5.fx b5;have bB:Ad Y Y5 b a a5:=(A3.fxn F4).trans A5;have a4:=F4.kq a3;have ae:=A5.keep a4 (nb (by decide)) (E.nv a4 (.inl rfl));simp only[aiN,au,↓uL];refine Dd (d:=0) P (by simp only[bq,bZ,bO];omega) (-lF ns r::Lw.map (lS ns r)) g5 bB (λk D=>(N4 k D).old A3.fx) λa6 Y6 B6 A6 F6=>?_;have cb:(4,N)∉aA c:=(by intro D;rcases g5 with⟨o',rfl⟩|⟨b',rfl,M⟩;simp[aA] at D;simp only[aA,cE] at D;subst D;rw[M] at ae;cases ae);have bV:=F6.keep _ _ (by simp only[eW,dF,not_or];exact⟨nb (by decide),P.nv ae (.inl rfl),cb⟩) ae;have bc:=B6.bx;simp only[aiM,dy bc,u0,u1,bc,kn,au,aj,sY,ar,↓uL];refine⟨⟨by omega,λ_=>by simpa using hP r ag⟩,λt2=>?_⟩;rw[b6];have e6:out++(aH r).flatMap (gW ns w)++[[-lF ns r,lE ns r]]++[-lF ns r::Lw.map (lS ns r)]=out++(aH r).flatMap (gW ns w)++[[-lF ns r,lE ns r],-lF ns r::Lw.map (lS ns r)]:=(by simp);have aX:cm Y6 b w ns (out++(aH r).flatMap (gW ns w)++[[-lF ns r,lE ns r],-lF ns r::Lw.map (lS ns r)]) n a6:=e6▸B6;generalize hO:out++(aH r).flatMap (gW ns w)++[[-lF ns r,lE ns r],-lF ns r::Lw.map (lS ns r)]=O at aX;have cO:L O=L out+L ((aH r).flatMap (gW ns w))+2:=(by rw[<-hO];simp only[bq,bZ,bO]);refine yV (L Lw) (λj _ m=>∃o,cm m b w ns (O++(aH j).flatMap λj=>iP ns w r (gd Lw j)) n o/\Ad Y m b a o/\box m (4,N)=V ⟨59,7,U,U,[aP.c (gd w.ac r)]⟩) ⟨a6,by simpa using aX,A6,bV⟩ ?_;rintro j _ Y7 hj ⟨a7,R,A7,b7⟩;simp+contextual only[aje,au,aI,u0,u1,wu,iF,bh,↓uL];refine⟨λh7=>⟨bA h7,?_⟩,λh7=>?_⟩;have lC:L ((aH j).flatMap λj=>iP ns w r (gd Lw j))+L (iP ns w r (gd Lw j))<=L ((aH (L Lw)).flatMap λj=>iP ns w r (gd Lw j)):=(by have:=fU (f:=λj=>iP ns w r (gd Lw j)) (show j+1<=L Lw from aL h7);rw[cr,bq] at this;exact this);have ch:gd Lw j∈Lw:=dB (aL h7);have aB:=bW _ ch;refine nc (d:=0) R y _ _ _ ?_;simp only[aiL,di,↓uL];generalize cc:gd Lw j=s at*;have ca:L (iP ns w r s)=L (kD ns w r s)+L ((aH (L w.ac)).flatMap (jl ns w r s)):=(by rw[iP,bq]);rw[ca] at lC;refine mG (λvs m=>vs=[]/\∃o,cm m b w ns (O++((aH j).flatMap λj=>iP ns w r (gd Lw j))++kD ns w r s) n o/\Ad Y m b a o/\box m (4,N)=V ⟨59,7,U,U,[aP.c (gd w.ac r)]⟩) (λJ2 av=>?_) ?_;simp+contextual only[aja,u0,u1,de y,↓uL];refine⟨λhs=>?_,λhs=>av [] Y7 ⟨rfl,a7,?_,A7,b7⟩⟩;have Z:0<=s:=of_decide_eq_true hs;have ah:s.toNat<L w.ac:=(by have:=(aB Z).2;omega);have b1:L (kD ns w r s)=2+L ((aH (L (fg w (gd w.ac s.toNat).aq (gd w.ac s.toNat).ep))).flatMap (pD ns r s (fg w (gd w.ac s.toNat).aq (gd w.ac s.toNat).ep))):=(by rw[kD,if_pos Z,bq];rfl);rw[b1] at lC;rw[kD,if_pos Z] at av;refine ig (d:=0) R y _ ?_;simp only[aiK,fi,bQ,aiJ,↓uL];refine fQ R (by simp only[bq];omega) [_,_] λa8 Y8 B8 A8=>?_;have b8:=A8.keep b7 (nb (by decide)) (R.nv b7 (.inl rfl));simp only[aiI,de y,aY,au,↓uL];refine kV (d:=0) B8 y _ _ ?_;simp only[aiH,fi,bQ,aiG,↓uL];refine fQ B8 (by simp only[bq,bZ,bO];omega) [_,_] λa9 Y9 C A9=>?_;have H:=A9.keep b8 (nb (by decide)) (B8.nv b8 (.inl rfl));have bd:=C.bx;simp only[aiF,dy bd,u0,u1,bd,kn,rk,ix,au,aj,sY,ar,↓uL];refine⟨aB Z,aB Z,⟨by omega,(W.dp _ ah).2,(W.th _ ah).1,W.ct _ (W.th _ ah).1⟩,λt3=>?_⟩;have bX:=hI (gd w.ac s.toNat).aq (gd w.ac s.toNat).ep;have cR:=(W.dp _ ah).2;generalize fg w (gd w.ac s.toNat).aq (gd w.ac s.toNat).ep=l at*;refine yV (L l) (λq _ m=>∃o,cm m b w ns (O++((aH j).flatMap λj=>iP ns w r (gd Lw j))++([[-lS ns r s,lE ns s],[-lS ns r s,lB ns s r]]++(aH q).flatMap (pD ns r s l))) n o/\Ad Y m b a o/\box m (4,N)=V ⟨59,7,U,U,[aP.c (gd w.ac r)]⟩) ⟨a9,by simpa using C,(A7.trans A8).trans A9,H⟩ ?_;rintro q _ G hq ⟨F,z,A,S⟩;have lD:=fU (f:=pD ns r s l) hq;simp+contextual only[ajg,au,aI,u0,u1,wu,iF,bh,de y,↓uL];refine⟨λaf=>⟨bA af,?_⟩,λaf=>?_⟩;refine zS (d:=0) z y _ ?_;simp only[aiE,fi,bQ,ai6,↓uL];refine fQ z (by simp only[bq,bZ,bO];omega) [_,_] λbI cM bC aW=>?_;simp only[ai5,au,u0,u1,↓uL];refine yU (aL af) ⟨bI,?_,A.trans aW,aW.keep S (nb (by decide)) (z.nv S (.inl rfl))⟩;rw[cr,<-cC,<-cC];simpa[pD] using bC;rw[bP hq (bw af)] at z;exact av [] G ⟨rfl,F,z,A,S⟩;rw[kD,if_neg (of_decide_eq_false hs),cL];exact R;rintro vs Y8 ⟨rfl,a8,B8,A8,b8⟩;simp only[ai7,aI,cT,u0,↓uL];refine yV (L w.ac) (λx _ m=>∃o,cm m b w ns (O++((aH j).flatMap λj=>iP ns w r (gd Lw j))++kD ns w r s++(aH x).flatMap (jl ns w r s)) n o/\Ad Y m b a o/\box m (4,N)=V ⟨59,7,U,U,[aP.c (gd w.ac r)]⟩) ⟨a8,by simpa using B8,A8,b8⟩ ?_;rintro x _ Y9 bf ⟨a9,C,A9,H⟩;have lD:=fU (f:=jl ns w r s) bf;simp+contextual only[ajh,au,aI,u0,u1,↓uL];refine⟨λh9=>?_,λh9=>?_⟩;refine mG (λvs m=>vs=[]/\∃o,cm m b w ns (O++((aH j).flatMap λj=>iP ns w r (gd Lw j))++kD ns w r s++(aH x).flatMap (jl ns w r s)++jl ns w r s x) n o/\Ad Y m b a o/\box m (4,N)=V ⟨59,7,U,U,[aP.c (gd w.ac r)]⟩) (λJ3 aw=>?_) ?_;simp+contextual only[ajb,au,u0,u1,ix,rk,H,sY,ar,aj,bh,de y,↓uL];refine⟨λ_=>bA h9,λhc=>aw [] Y9 ⟨rfl,a9,?_,A9,H⟩,λhc=>?_⟩;simp only[fH,decide_eq_true_eq,eH] at hc;rw[jl,if_pos hc,cL];exact C;have be:¬((x:Int)=s\/pf (gd w.ac x) (gd w.ac r)=I):=(by intro M;rcases M with M|M<;>simp[M] at hc);refine⟨λhs=>?_,λhs=>?_⟩;refine ig (d:=0) C y _ ?_;simp only[ai2,de y,aY,au,↓uL];refine kV (d:=0) C y _ _ ?_;simp only[ai1,au,↓uL];refine kV (d:=0) C y _ _ ?_;simp only[aiZ,vR,bQ,↓uL];refine fQ C (by simp only[bq];omega) [_,_,_,_] λF G z A=>aw [] G ⟨rfl,F,?_,A9.trans A,A.keep H (nb (by decide)) (C.nv H (.inl rfl))⟩;rw[jl,if_neg be,if_pos (of_decide_eq_true hs)];exact z;refine ig (d:=0) C y _ ?_;simp only[ai4,de y,aY,au,↓uL];refine kV (d:=0) C y _ _ ?_;simp only[ai3,xA,bQ,↓uL];refine fQ C (by simp only[bq];omega) [_,_,_] λF G z A=>aw [] G ⟨rfl,F,?_,A9.trans A,A.keep H (nb (by decide)) (C.nv H (.inl rfl))⟩;rw[jl,if_neg be,if_neg (of_decide_eq_false hs)];exact z;rintro vs G ⟨rfl,F,z,A,S⟩;simp only[ai8,au,aI,u0,u1,↓uL];refine yU (aL h9) ⟨F,?_,A,S⟩;rw[cr,<-cC];exact z;refine yU (aL h7) ⟨a9,?_,A9,H⟩;rw[bP bf (bw h9)] at C;rw[cr,cc,iP,<-cC,<-cC];exact C;rw[bP hj (bw h7)] at R;refine hJ [] Y7 ⟨rfl,a7,?_,A7⟩;rw[<-hO] at R;simpa using R;rintro vs m ⟨rfl,o,B',A'⟩;simp only[ai9,au,aI,u0,u1,↓uL];refine yU ag ⟨o,?_,A'⟩;rw[cr,<-cC];exact B';have cf:r=L w.ac:=bP hr (bw h);subst cf;refine yV (L w.ac) (λk _ m=>∃o,cm m b w ns (out++(aH (L w.ac)).flatMap (gW ns w)++(aH k).flatMap (kX ns w)) n o/\Ad Y m b a o) ⟨a1,by simpa using B1,A1⟩ ?_;rintro i _ Y2 hi ⟨a2,B2,A2⟩;simp+contextual only[aji,au,aI,u0,u1,ix,rk,bh,↓uL];refine⟨λh2=>⟨bA h2,?_⟩,λh2=>?_⟩;have X:=aL h2;have lA:=fU (f:=kX ns w) (show i+1<=L w.ac by omega);rw[cr,bq] at lA;refine cV B2.le λN Y3 F3 N3 b3=>?_;refine cy (cs:=aP.c (gd w.ac i)) b3 rfl rfl (by decide) λY4 F4 b4=>?_;have bS:box Y4 (15,N)=V ⟨59,7,U,U,[aP.c (gd w.ac i)]⟩:=b4;have a0:Fx Y2 Y4 []:=F3.tn F4 N3.no;have E:=B2.kp a0;have A4:=A2.fxn a0;have bb:=E.bx;simp only[ai0,dy bb,u0,u1,bb,bS,kn,rk,au,aj,sY,ar,↓uL];refine⟨⟨by omega,(W.dp _ X).1,(W.th _ X).1,W.ct _ (W.th _ X).1⟩,λt=>?_⟩;have bX:=hI (gd w.ac i).aq (gd w.ac i).dI;have cQ:=(W.dp _ X).1;have ax:kX ns w i=(aH (L (fg w (gd w.ac i).aq (gd w.ac i).dI))).flatMap (qv ns i (fg w (gd w.ac i).aq (gd w.ac i).dI)):=rfl;rw[ax] at lA;generalize hl:fg w (gd w.ac i).aq (gd w.ac i).dI=l at*;refine yV (L l) (λj _ m=>∃o,cm m b w ns (out++(aH (L w.ac)).flatMap (gW ns w)++(aH i).flatMap (kX ns w)++(aH j).flatMap (qv ns i l)) n o/\Ad Y m b a o) ⟨a2,by simpa using E,A4⟩ ?_;rintro j _ Y5 hj ⟨a5,P,A5⟩;have cS:=fU (f:=qv ns i l) hj;simp+contextual only[ajj,au,aI,u0,u1,wu,iF,bh,↓uL];refine⟨λh5=>⟨bA h5,?_⟩,λh5=>?_⟩;refine ig (d:=0) P y _ ?_;simp only[aiY,de y,aY,↓uL];refine zS (d:=0) P y _ ?_;simp only[aiX,fi,bQ,aiW,↓uL];refine fQ P (by simp only[bq];omega) [_,_] λa6 Y6 B6 A6=>?_;simp only[aiV,au,u0,u1,↓uL];refine yU (aL h5) ⟨a6,?_,A5.trans A6⟩;rw[cr,<-cC];exact B6;refine yU X ⟨a5,?_,A5⟩;rw[cr,<-cC,ax];rw[bP hj (bw h5)] at P;exact P;rw[bP hi (bw h2)] at B2;exact⟨a2,rfl,by rw[rJ];simpa using B2,A2⟩
end
theorem NP(w:am)(p:gf w=U/\hU w):Ct Ly [.a w.c] (λr=>∃t,r= .l ((cw w).map ap.c) t U):=by refine aJ4 rfl λy x k v=>?_;obtain⟨e,g⟩:=p;have i:aN (V 15) w.c=V (.a w.c):=rfl;obtain⟨m,hs⟩:=ri e;obtain⟨j,u,q,s,h⟩:=tC m;have o:kB w/\L w.init.sync.ay<=4/\fN w.aQ w.init=U/\gf w=U/\hU w:=⟨Rr g e,j.sy.th,h,e,g⟩;simp+contextual only[Tp,u0,u1,k,i,rk,aj,ar,Lb,e,g,o,and_self,true_and,fh,eE,false_implies,true_implies,↓uL];intro t;exact⟨.inl rfl,rfl,t,rfl⟩
def E2:FT:=om NP
def ax3{w Lw K}:=qz E2 NP w Lw K
abbrev ym:MT:=⟨U,[(0,0),(1,0),(2,0)], .int .i64 0⟩
def sh(x:ap):Value:= .agg #[.int .i64 x.kind, .int .i64 x.a, .int .i64 x.b]
def mC:Nat->List ap->List (Value×Value)|_,[]=>[]|i,x::l=>(sh x, .int .i64 i)::mC (i+1) l
theorem amE:∀{l:List ap} {i:Nat} {x:ap},mC i (l++[x])=mC i l++[(sh x, .int .i64 ((i+L l:Nat):Int))]
 |[],i,x=>rfl
 |y::l,i,x=>by
  simp only[zn,mC,bZ]
  rw[amE,show i+1+L l=i+(L l+1) by omega]
theorem Qd{x y:ap}:pO ym (sh x) (sh y)=V (Q (x=y)):=by obtain⟨a,b,c⟩:=x;obtain⟨e,g,h⟩:=y;by_cases i:a=e<;>by_cases j:b=g<;>by_cases k:c=h<;>simp[pO,sh,nW,sS,i,j,k]
theorem al7{x:ap}:∀{l:List ap} {i j:Nat},x∉l->lg ym (sh x) (mC i l) j=V J
 |[],_,_,_=>rfl
 |y::l,i,j,h=>by
  have c:¬x=y:=λe=>h (by simp[e])
  simp only[mC,lg,Qd,decide_eq_false c]
  exact al7 λg=>h (List.mem_cons_of_mem _ g)
theorem al9{x:ap}:∀{l:List ap} {i j:Nat},x∈l->lg ym (sh x) (mC i l) j=V (V (j+l.idxOf x, .int .i64 ((i+l.idxOf x:Nat):Int)))
 |[],_,_,h=>by simp at h
 |y::l,i,j,h=>by
  by_cases c:x=y
  ·subst c
   simp only[mC,lg,Qd,decide_true]
   simp
  ·have k:x∈l:=by simpa[c] using h
   have g:(y::l).idxOf x=l.idxOf x+1:=by
    rw[List.idxOf_cons]
    have:(y==x)=I:=by simp;exactλe=>c e.symm
    simp[this]
   simp only[mC,lg,Qd,decide_eq_false c]
   rw[al9 (l:=l) (i:=i+1) (j:=j+1) k,g,show i+1+l.idxOf x=i+(l.idxOf x+1) by omega,show j+1+l.idxOf x=j+(l.idxOf x+1) by omega]
theorem am6{x:ap}:ww U (.a (ap.c x))=V (sh x):=rfl
theorem KH:∀{c:List (Value×Value)},xF (c.map lf)=V c
 |[]=>rfl
 |(k,v)::c=>by simp only[List.map_cons,lf,xF,KH];rfl
theorem anJ{x:ap}:qR ym (sh x)=U:=by simp[qR,sh]
theorem luV{Y:ae}{b:Id}{t:TypeId}{x:ap}{l:List ap}{o n:Nat}(e:box Y b=V ⟨t,0,U,U,[(mC 0 l).map lf]⟩)(h:x∈l):oP ym Y (.g 0 b o n) (.a (ap.c x)) I=V (iv (l.idxOf x)):=by simp only[oP,am6,e,Option.bind_some,ul,and_self,if_true,KH,anJ,al9 h,eE,if_false,aj]
theorem muV{Y:ae}{b:Id}{t:TypeId}{x:ap}{l:List ap}{o n:Nat}{v:Int}{K:ae->Prop}(i:box Y b=V ⟨t,0,U,U,[(mC 0 l).map lf]⟩)(h:x∉l)(k:v=L l)(j:∀e,Fx Y e [b]->box e b=V ⟨t,0,U,U,[(mC 0 (l++[x])).map lf]⟩->K e):sV (n5 ym Y (.g 0 b o n) (.a (ap.c x)) (iv v)) K:=by simp only[n5,am6,i,ul,and_self,if_true,KH,anJ,al7 h];refine j _ (wc i) ?_;rw[lO i,amE,k,aj]
theorem mmI{t:TypeId}{Y:ae}{d:Nat}{K:be}(e:d<L Y)(i:∀v c,Fx Y c []->bK Y (d,v)->box c (d,v)=V ⟨t,0,U,U,[[]]⟩->K (.g 0 (d,v) 0 0) c):eV (oS t Y d) K:=by have h:oS t Y d=V (.g 0 (bV Y d) 0 0,put Y d ⟨t,0,U,U,[[]]⟩):=(by simp[oS,eX,e]);rw[h];exact i _ _ (kH e) (qQ Y d) (iy e)
theorem bxI{e:TypeId}{z d:Nat}{cs:List AV}{Y:ae}{K:be}(k:L cs=z)(h:0<z)(g:d<L Y)(j:∀v c,Fx Y c []->bK Y (d,v)->box c (d,v)=V ⟨e,z,U,U,[cs]⟩->K (.p (d,v) 0 0) c):eV (ej e z Y d (.a cs)) K:=by have i:ej e z Y d (.a cs)=V (.p (bV Y d) 0 0,put Y d ⟨e,z,U,U,[cs]⟩):=(by simp[ej,eY,k,h,eX,g]);rw[i];exact j _ _ (kH g) (qQ Y d) (iy g)
def pT(w:am)(k t:Nat):List (List AV):=(fj w.ac t k).map λ(j:Nat)=>[iv j]
structure bD(Y:ae)(b:Id)(w:am)(ns:List ap)(out:List (List Int))(n wk a:AV)(bm bo:Id)(f:Nat->AV):Prop where
 bx:box Y b=V ⟨121,20,U,U,[w.c++[n, .g 0 bm 0 0,wk, .m bo (L w.aQ.ay),a]]⟩
 nm:∃t o,n= .l (ns.map ap.c) t o
 mp:∃t,box Y bm=V ⟨t,0,U,U,[(mC 0 ns).map lf]⟩
 gw:bc Y 66 3 wk ((aR ns 5).map ap.c)
 ow:lJ Y bo 35 3 73 (L w.aQ.ay) (pT w (L w.ac)) f
 gr:bc Y 35 1 a (out.map λc=>[sl ci c])
 le:L Y=4096
 sb:b.1=18
 sm:bm.1=11
 so:bo.1=16
 sw:∀k∈aA wk,k.1=45
 sa:∀k∈aA a,k.1=12
theorem aEl{ns:List ap}{x:ap}(h:x∈ns):dP ns x=(ns.idxOf x:Int)+1:=by rw[dP,if_pos h]
theorem aH4{w:am}{k t:Nat}:∀r∈pT w k t,L r=1:=by intro r c;obtain⟨y,_,rfl⟩:=dN.1 c;rfl
theorem aCA{w:am}{Y:ae}(hl:L Y=4096)(hw:gf w=U)(hf:hU w)(ca:(cw w).Nodup)(db:L (cw w)<100000):∃r Y1,(∃b n wk bm bo f,r= .p b 0 0/\bD Y1 b w (cw w) [] n wk (.l [] U U) bm bo f/\Fx Y Y1 []/\bK Y b/\bK Y bm/\bK Y bo)/\cZ aS GG DG [.a w.c] Y r Y1:=by refine aKE hl rfl λs2 v1 K2 dj dk b1=>?_;have O:Fx Y s2 []:=K2.fx [];have aV:L s2=4096:=K2.len.trans hl;obtain⟨hB,hs⟩:=ri hw;obtain⟨I0,da,c8,c9,cg⟩:=tC hB;have hN:kB w/\L w.init.sync.ay<=4/\fN w.aQ w.init=U/\gf w=U/\hU w:=⟨Rr hf hw,I0.sy.th,cg,hw,hf⟩;have hW:=vd hf hw;have dh:=hW.th;have ck:aN (V 15) w.c=V (.a w.c):=rfl;simp only[H8,u0,u1,b1,ck,ar,Lb,hN,and_self,true_and,↓uL];intro t;refine⟨.inl rfl,?_⟩;refine mmI (by rw[aV];decide) λs s3 Z N3 bF=>?_;have c1:=Z.kq b1;have aX:L s3=4096:=Z.len.trans aV;simp only[Zf,u0,u1,c1,rk,aj,dc,cT,↓uL];refine AP (by decide) (by decide) (by rw[aX];decide) (by omega) λbo s4 D No F4 bG=>?_;have d1:=F4.kq c1;have dm:=F4.kq bF;have aZ:L s4=4096:=F4.len.trans aX;have bX:bM aqd [(0,15),(15,1),(16,1),(17,1),(18,1),(19,1)] [(0, .a w.c),(1, .l ((cw w).map ap.c) t U),(2, .g 0 (11,s) 0 0),(4, .m bo (L w.aQ.ay))]=V (.a (w.c++[.l ((cw w).map ap.c) t U, .g 0 (11,s) 0 0, .l [] U U, .m bo (L w.aQ.ay), .l [] U U])):=rfl;simp only[Ze,bX,aY,↓uL];refine bxI (by simp[am.c,br.c,bW.c,aW.c]) (by decide) (by rw[aZ];decide) λB G F5 N5 b5=>?_;have e1:=F5.kq d1;have em:=F5.kq dm;have eo:=F5.kq bG;have ah:L G=4096:=F5.len.trans aZ;have bp:Fx s2 G []:=((Z.trans F4).trans F5);generalize dd:cw w=ns at*;have cc:∃t' o',(AV.l (ns.map ap.c) t U)= .l (ns.map ap.c) t' o':=⟨_,_,rfl⟩;generalize b6:(AV.l (ns.map ap.c) t U)=n0 at*;refine dT rfl ?_;have a0:((11,s):Id)≠bo:=λe=>(by rw[<-e] at D;simp at D);have aT:((18,B):Id)≠bo:=λe=>(by rw[<-e] at D;simp at D);simp only[dy b5,u0,u1,b5,eT,aj,↓uL];rw[<-b6];simp only[u0,u1,gT,↓uL];refine yV (L ns) (λk _ z=>∃wk,Fx G z [(18,B),(11,s)]/\box z (18,B)=V ⟨121,20,U,U,[w.c++[n0, .g 0 (11,s) 0 0,wk, .m bo (L w.aQ.ay), .l [] U U]]⟩/\box z (11,s)=V ⟨119,0,U,U,[(mC 0 (ns.take k)).map lf]⟩/\bc z 66 3 wk ((aR (ns.take k) 5).map ap.c)/\∀q∈aA wk,bK G q/\q.1=45) ⟨.l [] U U,Fx.refl _ _,b5,em,bc.nil,by simp[aA]⟩ ?_;rintro k _ Y6 hk ⟨wk,F6,f5,fm,gw,A⟩;have b3:L Y6=4096:=F6.len.trans ah;simp only[Zi,au,aI,u0,u1,di,Zg,lX,rk,bh,↓uL];refine⟨λh=>⟨bA h,?_⟩,λh=>?_⟩;have u:=aL h;refine cV b3 λv7 Y7 S N7 b7=>?_;refine cy (cs:=ap.c (gd ns k)) b7 rfl rfl (by decide) λY8 F8 b8=>?_;have aJ:box Y8 (5,v7)=V ⟨66,3,U,U,[ap.c (gd ns k)]⟩:=b8;have M:Fx Y6 Y8 []:=S.tn F8 N7.no;have g5:=M.kq f5;have gm:=M.kq fm;have a2:aN (V 3) (ap.c (gd ns k))=V (.a (ap.c (gd ns k))):=rfl;simp only[Za,dy g5,u0,u1,g5,aJ,a2,eT,aj,au,↓uL];have cb:gd ns k∉ns.take k:=(by intro hm;obtain⟨j,hj,he⟩:=ou hm;rw[gC] at hj;rw[List.getElem_take,bT u] at he;have:=(List.getElem_inj ca).1 he;omega);refine muV gm cb (by rw[gC];omega) λH T b4=>?_;have an:box H (11,s)=V ⟨119,0,U,U,[(mC 0 (ns.take (k+1))).map lf]⟩:=(by rw[b4,iJ u,bT u]);have h5:=T.kq g5;have h8:=T.kq aJ;have P:=(gw.fx M (by simp)).fx T (λq o e=>by simp at e;subst e;have:=(A _ o).2;simp at this);have aU:=Qg (ns:=ns) (kd:=5) u;have N:Fx G H [(18,B),(11,s)]:=((F6.trans M).trans T).mono (by simp);have al:L H=4096:=N.len.trans ah;simp+contextual only[YZ,u0,u1,h8,rk,aj,↓uL];refine⟨λhb=>?_,λhb=>?_⟩;simp only[dy h5,u0,u1,h5,h8,a2,eT,aj,Db,bQ,↓uL];refine gD P rfl (by decide) (by rw[al];decide) uT uT (by have:=fZ (λx:ap=>Q (x.kind=5)) (ns.take k);simp only[bJ,bZ,bO,aR] at*;simp only[gC] at this;omega) λR aG aK C hi hp=>?_;have bk:((18,B):Id)∉aA wk:=λo=>(by have:=(A _ o).2;simp at this);have bj:((11,s):Id)∉aA wk:=λo=>(by have:=(A _ o).2;simp at this);have k5:=C.keep _ _ bk h5;have km:=C.keep _ _ bj an;simp only[YY,dy k5,u0,u1,k5,aj,↓uL];refine cy (y:=1) (j:=17) (cs:=[R]) k5 (ms aK) rfl (by simp[am.c,br.c,bW.c,aW.c]) λbz X m5=>?_;have ch:box bz (18,B)=V ⟨121,20,U,U,[w.c++[n0, .g 0 (11,s) 0 0,R, .m bo (L w.aQ.ay), .l [] U U]]⟩:=m5;have mm:=X.kq km;simp only[YX,↓uL];refine dT rfl ?_;have a1:∀q∈aA R,bK G q/\q.1=45:=λq o=>(by refine⟨?_,(hp q o).elim (λh=>(A q h).2) id⟩;rcases hi q o with h|h;exact(A q h).1;exact h.old N);simp only[H9,au,aI,cS,aY,↓uL];refine yU u ⟨R,?_,ch,mm,?_,a1⟩;refine((N.trans C).trans X).mono ?_;intro q o;simp only[dF,eW,ql,or_false] at o⊢;rcases o with((h|h)|h)|h;exact .inl (.inl h);exact .inl (.inr h);exact .inr (A q h).1.no;exact .inl (.inl h);have:=aK.fx X (λq o e=>by simp at e;subst e;have:=(a1 _ o).2;simp at this);rw[aU,if_pos (of_decide_eq_true hb),dg];exact this;simp only[H9,au,aI,cS,aY,↓uL];refine yU u ⟨wk,N,h5,an,?_,A⟩;rw[aU,if_neg (of_decide_eq_false hb),cL];exact P;have ag:k=L ns:=bP hk (bw h);subst ag;rw[gV] at fm gw;have bI:box Y6 (1,v1)=_:=F6.kq e1;simp only[bI,u0,u1,rk,aj,cT,↓uL];have bv:∀q:Id,q∈aA wk->q≠bo:=λq o e=>(by have:=(A q o).2;rw[e,D] at this;simp at this);have O6:lJ Y6 bo 35 3 73 (L w.aQ.ay) (pT w 0) (λ_=> .l [] U U):=(by refine⟨?_,λi _=>by simp only[pT,fj];exact bc.nil,λi j _ _ _ q o=>by simp[aA] at o,λi _ q o=>by simp[aA] at o⟩;have:=F6.keep _ _ (by simp;exact⟨aT.symm,a0.symm⟩) eo;rw[this,Q0];rfl);refine yV (L w.ac) (λk _ z=>∃f,Fx G z [(18,B),(11,s),bo]/\box z (18,B)=V ⟨121,20,U,U,[w.c++[n0, .g 0 (11,s) 0 0,wk, .m bo (L w.aQ.ay), .l [] U U]]⟩/\box z (11,s)=V ⟨119,0,U,U,[(mC 0 ns).map lf]⟩/\bc z 66 3 wk ((aR ns 5).map ap.c)/\lJ z bo 35 3 73 (L w.aQ.ay) (pT w k) f/\∀i,i<L w.aQ.ay->∀q∈aA (f i),bK G q) ⟨_,F6.mono (by simp),f5,fm,gw,O6,λi _ q o=>by simp[aA] at o⟩ ?_;rintro k _ Y7 b0 ⟨f,S,p5,pm,aM,O7,aO⟩;have ak:L Y7=4096:=S.len.trans ah;simp only[Zh,au,aI,u0,u1,ix,rk,bh,↓uL];refine⟨λh2=>⟨bA h2,?_⟩,λh2=>?_⟩;have u:=aL h2;refine cV ak λv8 Y8 F8 N8 b8=>?_;refine cy (y:=7) (cs:=aP.c (gd w.ac k)) b8 rfl rfl (by decide) λH T b9=>?_;have bC:box H (7,v8)=V ⟨59,7,U,U,[aP.c (gd w.ac k)]⟩:=b9;have v:Fx Y7 H []:=F8.tn T N8.no;have q5:=v.kq p5;have qm:=v.kq pm;have P:=aM.fx v (by simp);have W:=O7.keep v (by simp) (by simp);have al:L H=4096:=v.len.trans ak;have E:=(hN.1.named u).2;have F:(gd w.ac k).aq.toNat<L w.aQ.ay:=(by have:=E.1;have:=E.2;omega);simp only[Zd,dy q5,u0,u1,q5,bC,rk,eT,aj,W.ix E,W.ld F,iz,bQ,au,↓uL];have de:=wF (l:=w.ac) (t:=(gd w.ac k).aq.toNat) (k:=k);refine anO (by':=8) (zs:=fB) (d:=73) (e:=3) (new:=[[iv k]]) W E rfl (by rw[al];decide) aH4 (by intro r hr;simp at hr;subst hr;rfl) (by simp only[pT,bJ,bZ,bO];omega) λa p aG f' aF cJ af ha cN C be=>?_;have r5:=af _ _ q5 aT (.inl rfl);have rm:=af _ _ qm a0 (.inl rfl);have bd:bc aG 66 3 wk ((aR ns 5).map ap.c):=(by refine P.fx C λq o ce=>?_;rcases eW.1 ce with h|h;exact bv q o h;have:=W.pl _ F q h;rw[(A q o).2] at this;simp at this);simp only[Zc,Zb,↓uL];refine dT ?_ ?_;have cd:=W.pl _ F;rcases W.gr _ F with⟨_,r4⟩|⟨⟨k4,u4⟩,r4,_⟩;rw[r4];rfl;have h4:=cd (k4,u4) (by rw[r4];simp[aA]);simp only at h4;subst h4;rw[r4];rfl;simp only[au,cS,aY,↓uL];have bU:(λj=>if j=(gd w.ac k).aq.toNat then pT w k j++[[iv k]] else pT w k j)=pT w (k+1):=(by funext j;have h0:=E.1;simp only[pT,Bb];by_cases hj:j=(gd w.ac k).aq.toNat;rw[if_pos hj,if_pos (by omega)];simp;rw[if_neg hj,if_neg (by omega)];simp);rw[bU] at aF;refine yU u ⟨f',?_,r5,rm,bd,aF,λi hi q o=>?_⟩;refine((S.trans v).trans C).mono ?_;intro q o;simp only[dF,eW,ql,or_false] at o⊢;rcases o with h|h|h;exact .inl h;exact .inl (.inr (.inr h));exact .inr (aO _ F q h).no;rcases be i hi q o with h|h;exact aO i hi q h;exact h.old (S.trans v);have ag:k=L w.ac:=bP b0 (bw h2);subst ag;have Nb:bK Y (18,B):=N5.old ((O.trans Z).trans F4);have Nm:bK Y (11,s):=N3.old O;have aE:bK Y bo:=No.old (O.trans Z);refine⟨(18,B),n0,wk,(11,s),bo,f,rfl,⟨p5,cc,⟨119,pm⟩,aM,O7,bc.nil,ak,rfl,rfl,D,λq o=>(A q o).2,by simp[aA]⟩,?_,Nb,Nm,aE⟩;refine((O.trans bp).trans S).mono ?_;intro q o;simp only[dF,eW,ql,or_false,false_or] at o;rcases o with h|h|h;rw[h];exact .inr Nb.no;rw[h];exact .inr Nm.no;rw[h];exact .inr aE.no
theorem bD.fx{Y c:ae}{b:Id}{w:am}{ns:List ap}{out:List (List Int)}{n wk a:AV}{bm bo:Id}{f:Nat->AV}(C:bD Y b w ns out n wk a bm bo f)(F:Fx Y c []):bD c b w ns out n wk a bm bo f:=by obtain⟨t,e⟩:=C.mp;exact⟨F.kq C.bx,C.nm,⟨t,F.kq e⟩,C.gw.fx F (by simp),C.ow.keep F (by simp) (by simp),C.gr.fx F (by simp),F.len.trans C.le,C.sb,C.sm,C.so,C.sw,C.sa⟩
section
variable{Y:ae}{b:Id}{w:am}{ns:List ap}{out:List (List Int)}{n wk a:AV}{bm bo:Id}{f:Nat->AV}{d:Nat}{K:be}
theorem aDD(C:bD Y b w ns out n wk a bm bo f)(v:L ns<100000){x:ap}(g:x∈ns):∃r j,(r=iv (dP ns x)/\Fx Y j [])/\cZ aS GG jB [.p b 0 0, .a (ap.c x)] Y r j:=by refine aKh C.le rfl λq z l s y m=>?_;have i:Fx Y q []:=l.fx [];have h:=C.fx i;have e:=h.bx;obtain⟨t,o⟩:=h.mp;have k:aN (V 3) (ap.c x)=V (.a (ap.c x)):=rfl;have u:ns.idxOf x<L ns:=List.idxOf_lt_length_iff.2 g;simp only[Ho,dy e,u0,u1,e,eT,m,k,aj,luV o g,cS,aY,bz,ew,↓uL];rw[fX (by omega)];refine⟨?_,i⟩;rw[aEl g];rfl
theorem lq(C:bD Y b w ns out n wk a bm bo f)(g:L ns<100000){x:ap}(h:x∈ns)(e:K (iv (dP ns x)) Y):cB jB [.p b 0 0, .a (ap.c x)] Y d K:=lT rfl (aDD C g h) e
end
def apu:dO:=(Ly,E2)::apt
theorem sg:eJ apu:=bI (rj NP) (Ey)
def Lc:=ai @ax3<|@Lb
def asH:=bi 2 []
def Hc a0 a1 a2 s0 R:=rV (bM dM [(0,1),(1,1),(2,1)] [(0,(iv 1)),(1,a1),(2,a2)]) λt1=>cB jB [a0,t1] s0 11 λb a=>bz R a [b]
theorem aIU{a a1 b:AV}{s0:ae}{R:be}(h:Hc a a1 b s0 R):EB je [a,a1,b] s0 R:=zB asH sg Tryz.func47 h
theorem aJ8{a:AV}{a1:AV}{b:AV}{s0:ae}{R:be}(hs:L s0=4096)(h:Hc a a1 b s0 R):EB je [a,a1,b] s0 R:=by refine aIU ?_;exact h
def asM:=bi 2 []
def Hj a0 a1 s0 R:=rV (bM dM [(0,1),(1,1),(2,1)] [(0,(iv 2)),(1,a1)]) λt1=>cB jB [a0,t1] s0 8 λb a=>bz R a [b]
theorem aIZ{a a1:AV}{s0:ae}{R:be}(h:Hj a a1 s0 R):EB fL [a,a1] s0 R:=zB asM sg Tryz.func46 h
theorem aKd{a:AV}{a1:AV}{s0:ae}{R:be}(hs:L s0=4096)(h:Hj a a1 s0 R):EB fL [a,a1] s0 R:=by refine aIZ ?_;exact h
def asN:=bi 2 []
def Hk a0 a1 s0 R:=rV (bM dM [(0,1),(1,1),(2,1)] [(0,(iv 3)),(1,a1)]) λt1=>cB jB [a0,t1] s0 8 λb a=>bz R a [b]
theorem aI0{a a1:AV}{s0:ae}{R:be}(h:Hk a a1 s0 R):EB ta [a,a1] s0 R:=zB asN sg Tryz.func96 h
theorem aKe{a:AV}{a1:AV}{s0:ae}{R:be}(hs:L s0=4096)(h:Hk a a1 s0 R):EB ta [a,a1] s0 R:=by refine aI0 ?_;exact h
def asF:=bi 0 []
def Tx a0 t1 t2 a1 t4 t3 t6 t10 t11 t8 R s12:=dH [lzz,lzz,(lz a0),(lz t1),(lz t2),lzz,(lb I [(.f 98 [] []),a1] [10]),(lb I [t4] []),(lb I [t3,t6] [12]),(lz a0),(lz t10),(lb I [t11,t8] [])] [(0,6),(1,6),(2,6),(3,6),(4,6),(0,7),(1,7),(2,7),(3,7),(4,7),(0,8)] (bz R s12 [])
def Ty a0 t1 t2 a1 t4 t3 t6 R t8 s9:=rV (cO s9 a0) λa=>aB 19 s9 a λb=>sV (aK 1 s9 b t8) (Tx a0 t1 t2 a1 t4 t3 t6 a b t8 R)
def Tz t3 a0 t1 t2 a1 R t4 s5:=eV (aX BC 1 s5 [(0,t4)]) λa b=>eV (bS 35 Rx 24 b 12 t3 a) (Ty a0 t1 t2 a1 t4 t3 a R)
def G8 a0 a1 s0 R:=rV (cO s0 a0) λt1=>aB 19 s0 t1 λa=>aM s0 a λt3=>cN ux [a1] s0 10 (Tz t3 a0 t1 a a1 R)
theorem aIS{a a1:AV}{s0:ae}{R:be}(h:G8 a a1 s0 R):EB eS [a,a1] s0 R:=zB asF sg Tryz.func43 h
theorem aJ6{a:AV}{a1:AV}{s0:ae}{R:be}(hs:L s0=4096)(h:G8 a a1 s0 R):EB eS [a,a1] s0 R:=by refine aIS ?_;exact h
def asY:=bi 7 []
def HF a0 a1 s0 R:=rV (cO s0 a0) λt1=>ag 18 s0 t1 λt3=>rV (cO s0 a0) λt4=>aB 0 s0 t4 λi=>ag 14 s0 i λj=>ao 7 s0 j a1 λk=>ag 0 s0 k λc=>ao 1 s0 t3 c λd=>aM s0 d λa=>fV Cq s0 [a,a1] λb=>aO .gtr b (iv 0) λe=>ah e (aO .sub b (iv 1) λf=>ao 1 s0 a f λg=>aM s0 g λh=>bz R s0 [h]) (bz R s0 [(iv (-1))])
theorem aJb{a a1:AV}{s0:ae}{R:be}(h:HF a a1 s0 R):EB xR [a,a1] s0 R:=zB asY sg Tryz.func97 h
theorem aKp{a:AV}{a1:AV}{s0:ae}{R:be}(hs:L s0=4096)(h:HF a a1 s0 R):EB xR [a,a1] s0 R:=by refine aJb ?_;exact h
def asZ:=bi 12 [(4,([7,13],[0,1,11,12])),(7,([7],[0,1,11,12,13]))]
def CN vs2(c:aG)(a:bu) s3 vs5 s6:=∀_:Rg,aV (gt vs2 1) (iv 1) λb=>c [(gt vs5 0),b] s6/\a [(gt vs5 0),b] s6<a vs2 s3
def Xq s3 a2 vs2 a0 a1(c:aG):=ao 1 s3 a2 (gt vs2 1) λD=>aM s3 D λE=>rV (cO s3 a0) λf=>aB 0 s3 f λg=>aB 7 s3 g λh=>ag 6 s3 h λi=>ao 1 s3 i a1 λj=>aM s3 j λk=>aO .sub E k λb=>aO .geq b (iv 0) λa=>bB a b λl=>bB a a0 λm=>az a (rV (cO s3 m)) λn=>aT a 18 s3 n λo=>bB a a1 λp=>az a (ao 1 s3 o p) λq=>az a (aM s3 q) λr=>az a (aJ s3 r) λs=>az a (aU l s) λt=>aD a t (bv I) λu=>ah u (rV (cO s3 a0) λv=>ag 18 s3 v λw=>ao 1 s3 w a1 λx=>aM s3 x λy=>ao 1 s3 y b λz=>aM s3 z λA=>eV (aX bH 1 s3 [(0,A)]) λB d=>eV (bS 3 fB 8 d 54 (gt vs2 0) B) λC e=>c [C] e) (c [(gt vs2 0)] s3)
def Xr t1 a2 a0 a1 R I2 m2 vs2 s3:=∀_:Rg,aU (gt vs2 1) t1 λt4=>ah t4 (jV 7 (CN vs2 I2 m2 s3) (Xq s3 a2 vs2 a0 a1)) (bz R s3 [(gt vs2 0)])
def HG a0 a1 a2 s0 R:=aJ s0 a2 λt1=>lV [(.l [] U U),(iv 0)] s0 (Xr t1 a2 a0 a1 R)
theorem aJc{a a1 b:AV}{s0:ae}{R:be}(h:HG a a1 b s0 R):EB we [a,a1,b] s0 R:=zB asZ sg Tryz.func95 h
theorem aKq{a:AV}{a1:AV}{b:AV}{s0:ae}{R:be}(hs:L s0=4096)(h:HG a a1 b s0 R):EB we [a,a1,b] s0 R:=by refine aJc ?_;exact h
def as9:=bi 11 [(4,([5,13],[0,1,11,12])),(7,([5],[0,1,11,12,13]))]
def HX vs5(c:aG)(b:bu) s6 vs8 s9:=∀_:Rg,aV (gt vs5 1) (iv 1) λa=>c [(gt vs8 0),a] s9/\b [(gt vs8 0),a] s9<b vs5 s6
def Yy vs5(e:aG) t20 s21:=eV (aX bH 1 s21 [(0,t20)]) λc a=>eV (bS 3 fB 8 a 26 (gt vs5 0) c) λd b=>e [d] b
def Yz n_13 a1 a0 vs5(a:aG) s15:=ag 2 s15 n_13 λb=>al b a1 λc=>ah c (aw 3 s15 n_13 λd=>cB jB [a0,d] s15 24 (Yy vs5 a)) (a [(gt vs5 0)] s15)
def YA s6 t3 vs5 a1 a0 J8:=ao 3 s6 t3 (gt vs5 1) λc=>aw 3 s6 c λd=>eV (bs 66 dM s6 7) λa b=>sV (aK 3 b a d) (Yz a a1 a0 vs5 J8)
def YB t4 t3 a1 a0 R I5 m5 vs5 s6:=∀_:Rg,aU (gt vs5 1) t4 λa=>ah a (jV 7 (HX vs5 I5 m5 s6) (YA s6 t3 vs5 a1 a0)) (bz R s6 [(gt vs5 0)])
def HW a0 a1 s0 R:=rV (cO s0 a0) λt1=>ag 17 s0 t1 λt3=>aJ s0 t3 λt4=>lV [(.l [] U U),(iv 0)] s0 (YB t4 t3 a1 a0 R)
theorem aJm{a a1:AV}{s0:ae}{R:be}(h:HW a a1 s0 R):EB xV [a,a1] s0 R:=zB as9 sg Tryz.func44 h
theorem aKA{a:AV}{a1:AV}{s0:ae}{R:be}(hs:L s0=4096)(h:HW a a1 s0 R):EB xV [a,a1] s0 R:=by refine aJm ?_;exact h
def as8:=bi 12 [(4,([7],[0,6]))]
def Yw e_18 t7 R vs9(h:aG)(c:bu) s10 s20:=ag 0 s20 e_18 λd=>al d t7 λa=>aT a 1 s20 e_18 λe=>az a (al e (iv 16)) λf=>aD a f (bv I) λg=>ah g (bz R s20 [(gt vs9 0),(bv U)]) (aO .sub (gt vs9 0) (iv 1) λb=>h [b] s20/\c [b] s20<c vs9 s10)
def Yx a0 t7 R I9 m9 vs9 s10:=∀_:Rg,aO .geq (gt vs9 0) (iv 0) λc=>ah c (rV (cO s10 a0) λd=>aB 0 s10 d λe=>ag 14 s10 e λf=>ao 7 s10 f (gt vs9 0) λg=>aw 7 s10 g λh=>eV (bs 59 ee s10 8) λa b=>sV (aK 7 b a h) (Yw a t7 R vs9 I9 m9 s10)) (aO .sub (iv (-1)) t7 λi=>rV (cO s10 a0) λj=>aB 0 s10 j λk=>aB 7 s10 k λl=>aB 0 s10 l λm=>ag 3 s10 m λn=>ao 3 s10 n t7 λo=>ag 0 s10 o λp=>al p (iv 3) λq=>bz R s10 [i,q])
def HV a0 a1 s0 R:=rV (cO s0 a0) λt1=>aB 0 s0 t1 λa=>ag 14 s0 a λt4=>ao 7 s0 t4 a1 λb=>ag 0 s0 b λc=>aO .sub a1 (iv 1) λd=>lV [d] s0 (Yx a0 c R)
theorem aJl{a a1:AV}{s0:ae}{R:be}(h:HV a a1 s0 R):EB xU [a,a1] s0 R:=zB as8 sg Tryz.func42 h
theorem aKz{a:AV}{a1:AV}{s0:ae}{R:be}(hs:L s0=4096)(h:HV a a1 s0 R):EB xU [a,a1] s0 R:=by refine aJl ?_;exact h
def as2:=bi 16 [(4,([22],[5,20,21]))]
def XG e_7 s_20 R vs15(l:aG)(h:bu) s16 s22:=ag 1 s22 e_7 λm=>al m (iv 1) λe=>aT e 1 s22 s_20 λn=>az e (al n (iv 20)) λo=>aD e o (bv I) λa=>aT a 2 s22 s_20 λp=>aT a 0 s22 e_7 λq=>az a (al p q) λr=>aD a r (bv I) λs=>ah s (bz R s22 [(gt vs15 0)]) (ag 1 s22 e_7 λt=>al t (iv 21) λf=>aT f 1 s22 s_20 λu=>az f (al u (iv 2)) λv=>aD f v (bv I) λb=>aT b 0 s22 s_20 λw=>aT b 2 s22 e_7 λx=>az b (al w x) λy=>aD b y (bv I) λz=>ah z (bz R s22 [(gt vs15 0)]) (ag 1 s22 e_7 λA=>al A (iv 23) λg=>aT g 1 s22 s_20 λB=>az g (al B (iv 22)) λC=>aD g C (bv I) λc=>aT c 2 s22 s_20 λD=>aT c 2 s22 e_7 λi=>az c (al D i) λj=>aD c j (bv I) λk=>ah k (bz R s22 [(gt vs15 0)]) (aV (gt vs15 0) (iv 1) λd=>l [d] s22/\h [d] s22<h vs15 s16)))
def XI t14 t13 e_7 R I15 m15 vs15 s16:=∀_:Rg,aU (gt vs15 0) t14 λc=>ah c (ao 7 s16 t13 (gt vs15 0) λd=>aw 7 s16 d λe=>eV (bs 59 ee s16 7) λa b=>sV (aK 7 b a e) (XG e_7 a R vs15 I15 m15 s16)) (bz R s16 [(iv (-1))])
def XH a0 e_7 R s9:=rV (cO s9 a0) λb=>aB 0 s9 b λc=>ag 14 s9 c λa=>aJ s9 a λd=>lV [(iv 0)] s9 (XI d a e_7 R)
def HL a0 a1 s0 R:=rV (cO s0 a0) λt1=>aB 0 s0 t1 λc=>ag 14 s0 c λt4=>ao 7 s0 t4 a1 λd=>aw 7 s0 d λe=>eV (bs 59 ee s0 5) λa b=>sV (aK 7 b a e) (XH a0 a R)
theorem aJf{a a1:AV}{s0:ae}{R:be}(h:HL a a1 s0 R):EB Aq [a,a1] s0 R:=zB as2 sg Tryz.func127 h
theorem aKt{a:AV}{a1:AV}{s0:ae}{R:be}(hs:L s0=4096)(h:HL a a1 s0 R):EB Aq [a,a1] s0 R:=by refine aJf ?_;exact h
section
variable{Y:ae}{b:Id}{w:am}{ns:List ap}{out:List (List Int)}{n wk a:AV}{bm bo:Id}{f:Nat->AV}{d:Nat}{K:be}
theorem av9{k x y:Int}:bM dM [(0,1),(1,1),(2,1)] [(0,iv k),(1,iv x),(2,iv y)]=V (.a (ap.c ⟨k,x,y⟩)):=rfl
theorem als{k x:Int}:bM dM [(0,1),(1,1),(2,1)] [(0,iv k),(1,iv x)]=V (.a (ap.c ⟨k,x,0⟩)):=rfl
theorem aDw(C:bD Y b w ns out n wk a bm bo f)(e:L ns<100000){x y:Int}(g:(⟨1,x,y⟩:ap)∈ns):∃r c,(r=iv (lB ns x y)/\Fx Y c [])/\cZ aS GG je [.p b 0 0,iv x,iv y] Y r c:=by refine aJ8 C.le ?_;simp only[Hc,av9,aY,↓uL];exact lq C e g ⟨rfl,Fx.refl _ _⟩
theorem kg(C:bD Y b w ns out n wk a bm bo f)(e:L ns<100000){x y:Int}(g:(⟨1,x,y⟩:ap)∈ns)(c:K (iv (lB ns x y)) Y):cB je [.p b 0 0,iv x,iv y] Y d K:=lT rfl (aDw C e g) c
theorem aDA(C:bD Y b w ns out n wk a bm bo f)(e:L ns<100000){x:Int}(g:(⟨2,x,0⟩:ap)∈ns):∃r c,(r=iv (lE ns x)/\Fx Y c [])/\cZ aS GG fL [.p b 0 0,iv x] Y r c:=by refine aKd C.le ?_;simp only[Hj,als,aY,↓uL];exact lq C e g ⟨rfl,Fx.refl _ _⟩
theorem gq(C:bD Y b w ns out n wk a bm bo f)(e:L ns<100000){x:Int}(g:(⟨2,x,0⟩:ap)∈ns)(c:K (iv (lE ns x)) Y):cB fL [.p b 0 0,iv x] Y d K:=lT rfl (aDA C e g) c
theorem aDB(C:bD Y b w ns out n wk a bm bo f)(e:L ns<100000){x:Int}(g:(⟨3,x,0⟩:ap)∈ns):∃r c,(r=iv (lF ns x)/\Fx Y c [])/\cZ aS GG ta [.p b 0 0,iv x] Y r c:=by refine aKe C.le ?_;simp only[Hk,als,aY,↓uL];exact lq C e g ⟨rfl,Fx.refl _ _⟩
theorem AQ(C:bD Y b w ns out n wk a bm bo f)(e:L ns<100000){x:Int}(g:(⟨3,x,0⟩:ap)∈ns)(c:K (iv (lF ns x)) Y):cB ta [.p b 0 0,iv x] Y d K:=lT rfl (aDB C e g) c
theorem bD.ne{q:Id}{x:bY}(C:bD Y b w ns out n wk a bm bo f)(c:box Y q=V x)(e:x.var=U\/x.elem≠35):q∉aA a:=λh=>by
 have:=C.gr.ids q h
 rw[c] at this
 cases this
 rcases e with h|h
 ·cases h
 ·exact h rfl
theorem bD.na(C:bD Y b w ns out n wk a bm bo f):b∉aA a:=C.ne C.bx (.inl rfl)
theorem bD.upd{j:ae}{out':List (List Int)}{l:AV}(C:bD Y b w ns out n wk a bm bo f)(F:Fx Y j (aA a++[b]))(v:box j b=V ⟨121,20,U,U,[w.c++[n, .g 0 bm 0 0,wk, .m bo (L w.aQ.ay),l]]⟩)(y:bc j 35 1 l (out'.map λc=>[sl ci c]))(u:∀k∈aA l,k.1=12):bD j b w ns out' n wk l bm bo f:=by obtain⟨t,r⟩:=C.mp;have o:∀{q:Id} {x:bY},box Y q=V x->x.var=U\/x.elem≠35->q.1≠18->q∉aA a++[b]:=λe z s h=>(by rcases dF.1 h with h|h;exact C.ne e z h;simp at h;subst h;exact s C.sb);refine⟨v,C.nm,⟨t,F.keep _ _ (o r (.inl rfl) (by rw[C.sm];decide)) r⟩,C.gw.fx F λq e=>o (C.gw.ids q e) (.inr (by simp)) (by rw[C.sw q e];decide),C.ow.keep F (o C.ow.bx (.inl rfl) (by rw[C.so];decide)) (λi p q e=>o ((C.ow.gr i p).ids q e) (.inr (by simp)) (by rw[C.ow.pl i p q e];decide)),y,F.len.trans C.le,C.sb,C.sm,C.so,C.sw,u⟩
theorem aDu(C:bD Y b w ns out n wk a bm bo f)(ho:L out<1000000000){x:AV}{c:List Int}(hx:dG Y x= .l (c.map ci) I I)(hc:L c<1000000)(hp:(∃r t o,x= .l r t o)\/∃k m,x= .m k m/\k.1≠18):∃r F,(∃a1,r= .t []/\bD F b w ns (out++[c]) n wk a1 bm bo f/\Ad Y F b a a1)/\cZ aS GG eS [.p b 0 0,x] Y r F:=by refine aJ6 C.le ?_;have u:=C.bx;simp only[G8,dy u,u0,u1,u,eT,aj,↓uL];refine Kr (rows:=c.map ci) hx fF (by simpa using hc) (by simp[gY]) (by rw[C.le];decide) λG F g1 S E=>?_;have C1:=C.fx S;simp only[Tz,↓uL];rw[show BC=[.l [] I I] from rfl];refine bsI g1 λX F2=>?_;have aq:∀k∈aA a,k∉aA G:=λk i D=>(E k D).1.no _ (C.gr.ids k i);have ap:b∉aA G:=λD=>(E b D).1.no _ C.bx;have z:Fx Y X []:=(S.trans F2).mono (by simp only[dW];exactλk i=> .inr (E k i).1.no);have s:=C.fx z;refine gD s.gr rfl (by decide) (by rw[s.le];decide) (by intro r H;obtain⟨c',_,rfl⟩:=dN.1 H;rfl) (by intro r H;simp at H;subst H;rfl) (by simp;omega) λA Y3 g3 T hi hs=>?_;have O:=T.keep _ _ s.na s.bx;simp only[Ty,dy O,u0,u1,O,aj,↓uL];refine cy (y:=1) (j:=19) (cs:=[A]) O (ms g3) rfl (by simp[am.c,br.c,bW.c,aW.c]) λN W b4=>?_;have Z:box N b=V ⟨121,20,U,U,[w.c++[n, .g 0 bm 0 0,wk, .m bo (L w.aQ.ay),A]]⟩:=b4;simp only[Tx,↓uL];have M:Fx X N (aA a++[b]):=T.trans W;have P:∀q∈aA A,q∉[b]:=λq R e=>(by simp at e;subst e;rcases hi q R with h|h;exact C.na h;exact h.no _ s.bx);have C4:=s.upd M Z (out':=out++[c]) (by rw[dg];exact g3.fx W P) (λq R=>(hs q R).elim (s.sa q) id);have hA:Ad Y N b a A:=(by refine⟨(z.trans M).mono ?_,λk i=>(hi k i).imp id λh=>h.old z⟩;intro k i;simp only[dW,dF,cE] at i;rcases i with h|h;exact .inl (by simp[h]);exact .inl (by simp[h]));refine dT ?_ ⟨A,rfl,C4,hA⟩;have B:=C.sb;obtain⟨b1,b2⟩:=b;simp only at B;subst B;have ac:(∃r t o,G= .l r t o)\/∃v m,G= .m (10,v) m:=(by rcases g1 with⟨_,h⟩|⟨⟨k1,k2⟩,h,_⟩;exact .inl ⟨_,_,_,h⟩;have:=(E (k1,k2) (by rw[h];simp[aA])).2;simp only at this;subst this;exact .inr ⟨_,_,h⟩);rcases hp with⟨r,t,o,rfl⟩|⟨⟨k1,k2⟩,m,rfl,i⟩<;>rcases ac with⟨r',t',o',rfl⟩|⟨v,m',rfl⟩<;>simp[eL,lb,cD,dC,pP,dK]<;>(try exactλe=>i e)<;>(try exactλe=>i e.symm)
theorem anw(C:bD Y b w ns out n wk a bm bo f)(s:L out<1000000000){x:AV}{c:List Int}(v:dG Y x= .l (c.map ci) I I)(q:L c<1000000)(u:(∃r t o,x= .l r t o)\/∃k m,x= .m k m/\k.1≠18)(j:∀g e,bD e b w ns (out++[c]) n wk g bm bo f->Ad Y e b a g->K (.t []) e):cB eS [.p b 0 0,x] Y d K:=by refine jH rfl (aDu C s v q u) ?_;rintro r e ⟨g,rfl,i,h⟩;exact⟨h.fx.len,j g e i h⟩
theorem gc(C:bD Y b w ns out n wk a bm bo f)(j:L out<1000000000)(c:List Int)(i:L c<1000000){t o:Bool}(h:∀g e,bD e b w ns (out++[c]) n wk g bm bo f->Ad Y e b a g->K (.t []) e):cB eS [.p b 0 0, .l (c.map ci) t o] Y d K:=anw C j rfl i (.inl ⟨_,_,_,rfl⟩) h
theorem avK{e:TypeId}{z:Nat}{x:AV}{rows:List (List AV)}(h:bc Y e z x rows):dG Y x= .l rows I I:=by rcases h with⟨rfl,rfl⟩|⟨k,rfl,c⟩;rfl;simp[dG,eR,gi,c,nrm,gK]
theorem qB{x:AV}{l:List ap}{k:Nat}{K:bd}(h:bc Y 66 3 x (l.map ap.c))(e:k<L l):(rV (cz 3 Y x (iv k)) λt=>rV (ef (V 3) Y t) K)=K (.a (ap.c (gd l k))):=by rcases h with⟨g,_⟩|⟨b,rfl,i⟩;simp at g;subst g;simp at e;simp[cz,i,e,rV,ef,iE,aN,bT e,ap.c]
def gO(ns l:List ap)(y:Int):List Int:=(l.filter λv=>Q (v.b=y)).map (dP ns)
theorem aMV{ns l:List ap}{y:Int}{k:Nat}(h:k<L l):gO ns (l.take (k+1)) y=gO ns (l.take k) y++(if(gd l k).b=y then[dP ns (gd l k)] else[]):=by rw[iJ h,gO,me,dg,bT h];congr 1;by_cases c:(l[k]).b=y<;>simp[c]
theorem aDX(C:bD Y b w ns out n wk a bm bo f)(hn:L ns<100000)(y:Int):∃r g,(bc g 3 1 r ((gO ns (aR ns 5) y).map ci)/\Fx Y g []/\∀b∈aA r,bK Y b)/\cZ aS GG xV [.p b 0 0,iv y] Y r g:=by refine aKA C.le ?_;have B:=C.bx;have N:L (aR ns 5)<=L ns:=fZ _ _;have u:∀x∈aR ns 5,x∈ns:=λx hx=>(jW.1 hx).1;simp only[HW,dy B,u0,u1,B,eT,aj,ke C.gw,bJ,↓uL];have t:=C.gw;generalize aR ns 5=l at N u t;refine jD (α:=AV) (λa i=>[a,iv i]) 1 (L l) (λk r G=>bc G 3 1 r ((gO ns (l.take k) y).map ci)/\Fx Y G []/\∀b∈aA r,bK Y b) (s0:= .l [] U U) ⟨bc.nil,Fx.refl _ _,by simp[aA]⟩ ?_;rintro k r g o ⟨g1,j,m⟩;have O:L g=4096:=j.len.trans C.le;simp only[YB,au,ck,aI,u0,u1,di,YA,bh,↓uL];refine⟨λh=>?_,λh=>?_⟩;have e:=aL h;rw[qB (t.fx j (by simp)) e];refine cV O λv Y2 S X Z=>?_;refine cy (cs:=ap.c (gd l k)) Z rfl rfl (by decide) λA T b3=>?_;have H:box A _=V ⟨66,3,U,U,[ap.c (gd l k)]⟩:=b3;have q:Fx g A []:=S.tn T X.no;have F:Fx Y A []:=j.trans q;have M:=g1.fx q (by simp);have z:=aMV (ns:=ns) (y:=y) e;have R:aN (V 3) (ap.c (gd l k))=V (.a (ap.c (gd l k))):=rfl;simp+contextual only[Yz,u0,u1,H,R,rk,aj,au,ck,↓uL];have af:L (gO ns (l.take k) y)<=k:=(by have:=fZ (λx:ap=>Q (x.b=y)) (l.take k);simp only[gC] at this;simp only[gO,bJ];omega);refine⟨λE=>?_,λE=>?_⟩;refine lq (C.fx F) hn (u _ (dB e)) ?_;simp only[Yy,iz,bQ,au,↓uL];refine gD (new:=[[iv (dP ns (gd l k))]]) M rfl (by decide) (by rw[F.len,C.le];decide) fF (by intro r P;simp at P;subst P;rfl) (by simp only[bJ,bZ,bO];omega) λa4 Y4 g4 W hi _=>?_;simp only[HX,au,ck,aI,u0,u1,↓uL];refine dR (mk:=λa i=>[a,iv i]) (s:=r) (λ_ _=>rfl) e (by omega) ⟨?_,(F.trans W).mono (by simp only[dW];exactλk o=> .inr (m k o).no),λk o=>?_⟩;rw[z,if_pos (of_decide_eq_true E),dg];exact g4;rcases hi k o with D|D;exact m k D;exact D.old F;simp only[HX,au,ck,aI,u0,u1,↓uL];refine dR (mk:=λa i=>[a,iv i]) (s:=r) (λ_ _=>rfl) e (by omega) ⟨?_,F,m⟩;rw[z,if_neg (of_decide_eq_false E),cL];exact M;rw[oB (bw h)] at g1;exact⟨g1,j,m⟩
theorem anC(C:bD Y b w ns out n wk a bm bo f)(e:L ns<100000)(y:Int)(c:∀t,K (.l ((gO ns (aR ns 5) y).map ci) t U) Y):cB xV [.p b 0 0,iv y] Y d K:=xC rfl (aDX C e y) c
theorem aDO(C:bD Y b w ns out n wk a bm bo f)(hw:L w.ac<1000000){j:Int}(hj:aF (L w.ac) j):∃r m,(r=iv (kr w j)/\Fx Y m [])/\cZ aS GG Aq [.p b 0 0,iv j] Y r m:=by refine aKt C.le ?_;have s:=C.bx;simp only[HL,dy s,u0,u1,s,eT,rk,ix,aj,↓uL];refine⟨hj,?_⟩;refine cV C.le λv3 s3 P W b3=>?_;refine cy (y:=7) (cs:=aP.c (gd w.ac j.toNat)) b3 rfl rfl (by decide) λE R b4=>?_;have M:box E (5,v3)=V ⟨59,7,U,U,[aP.c (gd w.ac j.toNat)]⟩:=b4;have l:Fx Y E []:=P.tn R W.no;have F:=C.fx l;have u:=F.bx;simp only[XH,dy u,u0,u1,u,eT,rk,aj,cT,↓uL];refine yV (L w.ac) (λk _ X=>Fx E X []/\∀i,i<k->pV (gd w.ac j.toNat) (gd w.ac i)=I) ⟨Fx.refl _ _,by simp⟩ ?_;rintro k _ m hk ⟨e,D⟩;have N:L m=4096:=e.len.trans F.le;have d4:=e.kq M;simp+contextual only[XI,au,aI,u0,u1,ix,rk,bh,↓uL];refine⟨λh=>⟨bA h,?_⟩,λh=>?_⟩;have x:=aL h;refine cV N λv Y2 O T Z=>?_;refine cy (y:=7) (cs:=aP.c (gd w.ac k)) Z rfl rfl (by decide) λq G H=>?_;have z:box q (7,v)=V ⟨59,7,U,U,[aP.c (gd w.ac k)]⟩:=H;have g:Fx m q []:=O.tn G T.no;have e4:=g.kq d4;simp+contextual only[XG,u0,u1,z,e4,rk,aj,au,bz,ew,↓uL];have S:Fx Y q []:=(l.trans e).trans g;have o:pV (gd w.ac j.toNat) (gd w.ac k)=U->iv (k:Int)=iv (kr w j)/\Fx Y q []:=λhb=>⟨by rw[kr,KW x hb D],S⟩;refine⟨λt=>o (by simp only[pV,t,vl]),λt=>⟨λA=>o (by simp only[pV,t,A,vl,wY,lG]),λA=>⟨λB=>o (by simp only[pV,B,wY]),λB=>?_⟩⟩⟩;exact yU x ⟨e.trans g,un D (by simp only[pV,t,A,B,kz])⟩;have:=KX (p:=λi=>pV (gd w.ac j.toNat) (gd w.ac i)) (n:=L w.ac) (λi hi=>D i (Nat.lt_of_lt_of_le hi (bw h)));simp only[kr,this,bz,ew];exact⟨trivial,l.trans e⟩
theorem aDW(C:bD Y b w ns out n wk a bm bo f)(hw:L w.ac<1000000){k:Int}(x:aF (L w.ac) k)(z:aF (L w.init.sync.ay) (gd w.ac k.toNat).aq)(ad:L w.init.sync.ay<1000000):∃r j,((∃v,r= .t [iv v,bv (e9 w k).2]/\((e9 w k).2=U->v=(e9 w k).1))/\Fx Y j [])/\cZ aS GG xU [.p b 0 0,iv k] Y r j:=by refine aKz C.le ?_;have l:=C.bx;have M:=x.1;have Z:=x.2;have aa:=z.1;have ab:=z.2;simp only[HV,dy l,u0,u1,l,eT,rk,ix,aj,↓uL];refine⟨x,?_⟩;rw[eM (by omega) (by omega)];refine⟨λvs R=>∃i:Nat,vs=[iv ((i:Int)-1)]/\i<=k.toNat/\Fx Y R []/\od w.ac (gd w.ac k.toNat).aq i=od w.ac (gd w.ac k.toNat).aq k.toNat,λvs _=>match vs with|[.s (.int _ i)]=>(i+1).toNat|_=>0,⟨k.toNat,by rw[kA M],dA _,Fx.refl _ _,rfl⟩,?_⟩;rintro vs j ⟨i,rfl,hi,g,u⟩;have A:=C.fx g;have q:=A.bx;simp only[Yx,au,aI,dy q,u0,u1,q,eT,rk,ix,aj,dc,↓uL];refine⟨λh=>?_,λh=>?_⟩;simp only[decide_eq_true_eq] at h;obtain⟨i,rfl⟩:∃X,i=X+1:=⟨i-1,by omega⟩;have W:((i+1:Nat):Int)-1=(i:Int):=(by omega);rw[W];have H:aF (L w.ac) (i:Int):=⟨by omega,by omega⟩;refine⟨H,?_⟩;rw[bh];refine cV A.le λv Y2 N P S=>?_;refine cy (y:=7) (cs:=aP.c (gd w.ac i)) S rfl rfl (by decide) λB O T=>?_;have D:box B (8,v)=V ⟨59,7,U,U,[aP.c (gd w.ac i)]⟩:=T;have o:Fx j B []:=N.tn O P.no;simp+contextual only[Yw,u0,u1,D,rk,aj,au,bz,ew,↓uL];refine⟨λm=>?_,λm=>?_⟩;simp only[bN,decide_eq_true_eq] at m;have e:od w.ac (gd w.ac k.toNat).aq k.toNat=V i:=(by rw[<-u];simp[od,m]);refine⟨⟨(i:Int),?_,λ_=>?_⟩,g.trans o⟩;simp[e9,e];simp[e9,e];rw[eM (by omega) (by omega)];refine⟨⟨i,rfl,by omega,g.trans o,?_⟩,by show(((i:Int)-1)+1).toNat<((i:Int)+1).toNat;omega⟩;rw[<-u];have G:¬((gd w.ac i).aq=(gd w.ac k.toNat).aq/\(gd w.ac i).kind=16):=λE=>(by simp[E.1,E.2] at m);simp[od,G];simp only[decide_eq_false_iff_not] at h;obtain rfl:i=0:=(by omega);have e:od w.ac (gd w.ac k.toNat).aq k.toNat=J:=(by rw[<-u];rfl);refine⟨z,?_⟩;rw[eM (by omega) (by omega)];simp only[bz,ew];refine⟨⟨-1-(gd w.ac k.toNat).aq,?_,λF=>?_⟩,g⟩;simp only[e9,e];by_cases hs:(gd w.init.sync.ay (gd w.ac k.toNat).aq.toNat).cQ=3<;>simp[hs];simp only[e9,e] at F⊢;by_cases hs:(gd w.init.sync.ay (gd w.ac k.toNat).aq.toNat).cQ=3;simp[hs];simp[hs] at F
theorem awL{fn:Nat}{xs:List AV}{Q:bd}(l:uQ.elem fn=U)(k:∀r,Q r->∃v u,r= .t [.s v, .s u])(h:∃r c,(Q r/\Fx Y c [])/\cZ aS GG fn xs Y r c)(j:∀r,Q r->K r Y):cB fn xs Y d K:=by obtain⟨r,c,⟨e,g⟩,i⟩:=h;obtain⟨v,u,rfl⟩:=k r e;refine⟨_,c,i,g.len,?_⟩;rw[if_pos (show GG.rd fn=U from l)];exact⟨g.kp,rfl,j _ e⟩
theorem aEi(C:bD Y b w ns out n wk a bm bo f)(g:L w.ac<1000000){j:Int}(e:aF (L w.ac) j)(c:K (iv (kr w j)) Y):cB Aq [.p b 0 0,iv j] Y d K:=lT rfl (aDO C g e) c
theorem anB(C:bD Y b w ns out n wk a bm bo f)(l:L w.ac<1000000){k:Int}(i:aF (L w.ac) k)(j:aF (L w.init.sync.ay) (gd w.ac k.toNat).aq)(c:L w.init.sync.ay<1000000)(g:∀v,((e9 w k).2=U->v=(e9 w k).1)->K (.t [iv v,bv (e9 w k).2]) Y):cB xU [.p b 0 0,iv k] Y d K:=awL (Q:=λr=>∃v,r= .t [iv v,bv (e9 w k).2]/\((e9 w k).2=U->v=(e9 w k).1)) rfl (λr ⟨v,h,_⟩=>⟨_,_,h⟩) (aDW C l i j c) λr ⟨v,h,e⟩=>by rw[h];exact g v e
def et(l:List aP)(t:Int)(k:Nat):List Int:=(fj l t k).map λ(j:Nat)=>(j:Int)
theorem wE{l:List aP}{t:Int}{k:Nat}:L (et l t k)=L (fj l t k):=by simp[et]
theorem Ba{l:List aP}{t:Int}{k:Nat}:et l t (k+1)=et l t k++if(gd l k).aq=t then[(k:Int)] else[]:=by rw[et,Bb,dg];by_cases h:(gd l k).aq=t<;>simp[h,et]
theorem QD{w:am}{k t:Nat}:pT w k t=(et w.ac t k).map ci:=by simp[pT,et,List.map_map,Function.comp_def]
theorem QC{l:List aP}{t:Int}{j:Nat}:∀{k:Nat},j<=k->∃r,et l t k=et l t j++r
 |0,h=>⟨[],by rw[show j=0 by omega];simp⟩
 |k+1,h=>by
  rcases Nat.lt_or_ge j (k+1) with c|c
  ·obtain⟨r,e⟩:=QC (l:=l) (t:=t) (show j<=k by omega)
   exact⟨r++if(gd l k).aq=t then[(k:Int)] else[],by rw[Ba,e,cC]⟩
  ·exact⟨[],by rw[show j=k+1 by omega];simp⟩
theorem aEY{l:List aP}{t:Int}{k:Nat}:∀x∈et l t k,0<=x/\x<k:=by intro x e;obtain⟨j,c,rfl⟩:=dN.1 e;have:=List.mem_range.1 (jW.1 c).1;omega
theorem QI{l:List aP}{t:Int}:∀{k:Nat},qT l t k=if 0<L (et l t k) then gd (et l t k) (L (et l t k)-1) else-1
 |0=>by simp[qT,et,fj]
 |k+1=>by
  rw[qT,Ba]
  by_cases h:(gd l k).aq=t
  ·rw[if_pos h,if_pos h,if_pos (by simp)]
   simp[gd]
  ·rw[if_neg h,if_neg h,cL]
   exact QI
theorem aE5{A r:List Int}{x:Int}(h:x∉A):oW (A++x::r) x=L A:=by have c:A.findIdx? (λy=>Q (y=x))=J:=(by rw[List.findIdx?_eq_none_iff];intro y e;simp only[decide_eq_false_iff_not];rintro rfl;exact h e);simp[oW,List.findIdx?_append,c,List.findIdx?_cons]
theorem aDL(C:bD Y b w ns out n wk a bm bo f)(D:L w.ac<1000000){j:Int}(m:aF (L w.ac) j)(e:aF (L w.aQ.ay) (gd w.ac j.toNat).aq):∃r q,(r=iv (lw w.ac j)/\Fx Y q [])/\cZ aS GG xR [.p b 0 0,iv j] Y r q:=by refine aKp C.le ?_;have i:=C.bx;have g:(gd w.ac j.toNat).aq.toNat<L w.aQ.ay:=(by have:=e.1;have:=e.2;omega);have x:(((gd w.ac j.toNat).aq.toNat:Nat):Int)=(gd w.ac j.toNat).aq:=kA e.1;have k:=C.ow.gr _ g;rw[QD,x] at k;have u:=m.1;have A:=m.2;have v:((j.toNat:Nat):Int)=j:=kA u;obtain⟨r,c⟩:=QC (l:=w.ac) (t:=(gd w.ac j.toNat).aq) (show j.toNat+1<=L w.ac by omega);rw[Ba,if_pos rfl,cC,v] at c;have o:oW (et w.ac (gd w.ac j.toNat).aq (L w.ac)) j=L (et w.ac (gd w.ac j.toNat).aq j.toNat):=(by rw[c];exact aE5 λz=>by have:=(aEY _ z).2;omega);have y:L (et w.ac (gd w.ac j.toNat).aq (L w.ac))<=L w.ac:=(by rw[wE];exact wF);have B:L (et w.ac (gd w.ac j.toNat).aq j.toNat)<=j.toNat:=(by rw[wE];exact wF);simp only[HF,dy i,u0,u1,i,eT,rk,ix,aj,↓uL];refine⟨m,?_⟩;simp only[C.ow.ix e,C.ow.ld g,aY,jM,kU,jt,tW,avK k,Lc,↓uL];rw[show AV.l ((et w.ac (gd w.ac j.toNat).aq (L w.ac)).map ci) I I=sl ci (et w.ac (gd w.ac j.toNat).aq (L w.ac)) from rfl];simp only[Lc,AL,true_and,o,u0,u1,↓uL];refine⟨by omega,λh=>?_,λh=>?_⟩;simp only[decide_eq_true_eq] at h;rw[eM (by omega) (by omega)];have s:aF (L (et w.ac (gd w.ac j.toNat).aq (L w.ac))) ((L (et w.ac (gd w.ac j.toNat).aq j.toNat):Int)-1):=(by rw[c];simp only[bq,bZ];exact⟨by omega,by omega⟩);simp only[Dw k s,bz,ew];refine⟨?_,Fx.refl _ _⟩;rw[lw,QI,if_pos (by omega),c];congr 1;have:(((L (et w.ac (gd w.ac j.toNat).aq j.toNat):Int)-1).toNat)=L (et w.ac (gd w.ac j.toNat).aq j.toNat)-1:=(by omega);rw[this,gd,eI,xe (by omega)];simp[gd];simp only[decide_eq_false_iff_not] at h;simp only[bz,ew];refine⟨?_,Fx.refl _ _⟩;rw[lw,QI,if_neg (by omega)]
theorem anA(C:bD Y b w ns out n wk a bm bo f)(h:L w.ac<1000000){j:Int}(e:aF (L w.ac) j)(g:aF (L w.aQ.ay) (gd w.ac j.toNat).aq)(c:K (iv (lw w.ac j)) Y):cB xR [.p b 0 0,iv j] Y d K:=lT rfl (aDL C h e g) c
theorem alO{l:List aP}{u:Int}:∀{k:Nat},k<=L l->lU l u k=L (et l u k)
 |0,_=>by simp[lU,et,fj]
 |k+1,h=>by
  rw[alN (by omega),Ba,bq,alO (by omega)]
  by_cases c:(gd l k).aq=u<;>simp[c]
theorem Q7{p:Nat->Bool}{k:Nat}:fw p (k+1)=fw p k++if p k=U then[(k:Int)] else[]:=by rw[fw,qn,me,dg];cases h:p k<;>simp[h,fw]
theorem Er{w:am}{u x:Int}:∀{k:Nat},k<=L w.ac->fw (lm w u x) k=if 0<=x-gd w.init.count u.toNat/\x-gd w.init.count u.toNat<(L (et w.ac u k):Int) then[gd (et w.ac u k) (x-gd w.init.count u.toNat).toNat] else[]
 |0,_=>by simp[fw,et,fj]
 |k+1,h=>by
  have g:=Er (w:=w) (u:=u) (x:=x) (k:=k) (by omega)
  have j:=alO (l:=w.ac) (u:=u) (k:=k) (by omega)
  generalize p:x-gd w.init.count u.toNat=m at g⊢
  rw[Ba]
  by_cases c:(gd w.ac k).aq=u
  ·rw[if_pos c,bq,GJ]
   by_cases o:m=L (et w.ac u k)
   ·have e:lm w u x k=U:=by simp only[lm,c,j,decide_true,iw,decide_eq_true_eq];omega
    rw[Q7,if_pos e,g,if_neg (by omega),if_pos (by omega),o]
    simp[gd]
   ·have e:lm w u x k=I:=by simp only[lm,c,j,decide_true,iw,decide_eq_false_iff_not];omega
    rw[Q7,e,if_neg (by simp),cL,g]
    by_cases i:0<=m/\m<(L (et w.ac u k):Int)
    ·rw[if_pos i,if_pos (by omega)]
     congr 1
     rw[gd,gd,eI,eI,xe (by omega)]
    ·rw[if_neg i,if_neg (by omega)]
  ·have e:lm w u x k=I:=by simp[lm,c]
   rw[Q7,e,if_neg (by simp),cL,g,if_neg c,cL]
theorem DT{w:am}{u:Int}{l:List Int}{k:Nat}(h:k<L l):lp w u l (k+1)=lp w u l k++fw (lm w u (gd l k)) (L w.ac):=by rw[lp,iJ h,List.flatMap_append,bT h];simp[lp]
theorem aDM(C:bD Y b w ns out n wk a bm bo f)(hw:L w.ac<=16){u:Int}{l:List Int}(hl:L l<100000)(z:aF (L w.aQ.ay) u)(N:L w.init.count=L w.aQ.ay)(af:0<=gd w.init.count u.toNat/\gd w.init.count u.toNat<=400)(hx:∀x∈l,-1000<=x/\x<=1000):∃r g,(bc g 3 1 r ((fg w u l).map ci)/\Fx Y g []/\∀b∈aA r,bK Y b)/\cZ aS GG we [.p b 0 0,iv u,sl ci l] Y r g:=by refine aKq C.le ?_;have F:u.toNat<L w.aQ.ay:=(by have:=z.1;have:=z.2;omega);have T:((u.toNat:Nat):Int)=u:=kA z.1;simp only[HG,u0,u1,cT,↓uL];refine jD (α:=AV) (λa i=>[a,iv i]) 1 (L l) (λk r q=>bc q 3 1 r ((lp w u l k).map ci)/\L (lp w u l k)<=k/\Fx Y q []/\∀b∈aA r,bK Y b) (s0:= .l [] U U) ⟨bc.nil,by simp[lp],Fx.refl _ _,by simp[aA]⟩ ?_;rintro k r g y ⟨g1,ag,o,D⟩;have j:=C.fx o;have t:=j.bx;have O:L g=4096:=j.le;have H:=j.ow.gr _ F;rw[QD,T] at H;have W:aF (L w.init.count) u:=(by rw[N];exact z);simp only[Xr,au,ck,aI,u0,u1,di,Xq,ix,rk,dy t,t,eT,bh,aj,dc,↓uL];refine⟨λh=>⟨bA h,W,?_⟩,λh=>?_⟩;have c:=aL h;have ah:=hx _ (dB c);have e:=Er (w:=w) (u:=u) (x:=gd l k) (k:=L w.ac) (dA _);have ad:L (et w.ac u (L w.ac))<=L w.ac:=(by rw[wE];exact wF);generalize hm:gd l k-gd w.init.count u.toNat=m at e⊢;have X:dq.wrap m=m:=eM (by omega) (by omega);rw[X];have P:fS g (f u.toNat)=V (iv (L (et w.ac u (L w.ac)))):=(by rw[ke H,bJ]);have E:¬(0<=m/\m<(L (et w.ac u (L w.ac)):Int))->CN [r,iv k] (yI (λa i=>[a,iv i]) (L l) λk r q=>bc q 3 1 r ((lp w u l k).map ci)/\L (lp w u l k)<=k/\Fx Y q []/\∀b∈aA r,bK Y b) (gM 1 (L l)) g [r] g:=(by intro R;simp only[CN,au,ck,aI,u0,u1,↓uL];refine dR (mk:=λa i=>[a,iv i]) (s:=r) (λ_ _=>rfl) c (by omega) ⟨?_,?_,o,D⟩;rw[DT c,e,if_neg R,cL];exact g1;rw[DT c,e,if_neg R,cL];omega);by_cases A:0<=m;have B:Q (0<=m)=U:=decide_eq_true A;simp only[u0,u1,B,jA,dy t,t,eT,aj,j.ow.ix z,j.ow.ld F,P,ru,iw,↓uL];refine⟨λM=>?_,λM=>E (by simp at M;omega)⟩;have v:aF (L (et w.ac u (L w.ac))) m:=⟨A,by simpa using M⟩;simp only[Dw H v,iz,bQ];refine gD (new:=[[iv (gd (et w.ac u (L w.ac)) m.toNat)]]) g1 rfl (by decide) (by rw[O];decide) fF (by intro r S;simp at S;subst S;rfl) (by simp only[bJ,bZ,bO];omega) λa4 Y4 g4 Z hi _=>?_;simp only[CN,au,ck,aI,u0,u1,↓uL];refine dR (mk:=λa i=>[a,iv i]) (s:=r) (λ_ _=>rfl) c (by omega) ⟨?_,?_,(o.trans Z).mono (by simp only[dW];exactλk y=> .inr (D k y).no),λk y=>?_⟩;rw[DT c,e,if_pos ⟨A,v.2⟩,dg];exact g4;rw[DT c,e,if_pos ⟨A,v.2⟩];simp;omega;rcases hi k y with G|G;exact D k G;exact G.old o;have B:Q (0<=m)=I:=decide_eq_false A;simp only[u0,u1,B,jN,show∀x,mL (bv I) x (bv I)=V (bv I) fromλ_=>rfl,eE,false_implies,true_implies,true_and,↓uL];exact E (by omega);have:k=L l:=bP y (bw h);subst this;exact⟨g1,o,D⟩
theorem Qp(C:bD Y b w ns out n wk a bm bo f)(j:L w.ac<=16){u:Int}{l:List Int}(h:L l<100000)(i:aF (L w.aQ.ay) u)(e:L w.init.count=L w.aQ.ay)(c:0<=gd w.init.count u.toNat/\gd w.init.count u.toNat<=400)(k:∀x∈l,-1000<=x/\x<=1000)(g:∀t,K (.l ((fg w u l).map ci) t U) Y):cB we [.p b 0 0,iv u,sl ci l] Y d K:=xC rfl (aDM C j h i e c k) g
end
def apv:dO:=apu
theorem tB:eJ apv:=sg
def aBo:=@Lc
end Go.Ab
