/- Part of the proof of WitnessNone. -/
import Derived.Test.YthlflpfcfdpedaaGreatDoorF
set_option linter.all false
set_option maxRecDepth 100000
open And renaming intro->ai
open Bool renaming and_eq_true->bN,false->I,true->U
open Decidable renaming decide->Q
open Go.IntKind renaming i64->dq
open Go.Proofs.Tryz renaming prog->aS
open List renaming length->L,length_map->bJ,map_append->dg,mem_append->dF,mem_map->dN,mem_singleton->cE
open Nat renaming beq->aOU,mul_le_mul_right->qo,zero_add->aj
open Option renaming none->J,some->V
namespace Go.Ab
open Go Go.RowKit Go.Proofs
def biL(w:am)(g:cJ)(l:List xd)(n:aC2 w/\Po w=U/\qC w g=U/\L l<1000000):Ct 12 [.a w.c, .a g.c,sl xd.c l] (·=bv (biu w g l)):=by obtain⟨o,b,s,f⟩:=n;refine bql rfl rfl λt m e i q=>?_;simp only[bmJ,qy 6,u0,u1,e,r15,rk,ar,bfd,aj,↓uL];refine⟨⟨o,b,f⟩, .inl rfl,?_⟩;simp only[oJ,pG,aY,↓uL];have p:aN (V 6) g.c=V (.a g.c):=rfl;refine anu m λu x F N d=>?_;have j:=F.kq e;have k:=F.kq i;have arg:dG x (.a g.c)= .a g.c:=rfl;unfold a96 at d⊢;unfold biu;rcases h:aNT w (aNY w) l with _|c;simp only[qz 8,u0,u1,jN,uO,aPy,uR,↓uL];rw[h] at d;have r:=(bhV b).run h;simp only[qz 8,u0,u1,jA,j,k,d,r15,p,rk,oe,ar,arm,arg,bfd,aj,uO,aOe,↓uL];simp_all
def bjd:FT:=qe biL
def boI{w g l Lw K}:=sT bjd biL w g l Lw K (j:=by simp+contextual only[ij,Nb])
def bpe(w:am)(g:cJ)(l:List xd)(n:aC2 w/\Po w=U/\qC w g=U/\L g.cW<1000/\L l<1000000):Ct 13 [.a w.c, .a g.c,sl xd.c l] (·=bv (biu w g l)):=by obtain⟨o,b,t,q,f⟩:=n;refine br2 rfl rfl λu m e i r=>?_;simp only[bqz,qy 6,u0,u1,e,r15,rk,ar,bfd,aj,↓uL];refine⟨⟨o,b,f⟩, .inl rfl,?_⟩;simp only[oJ,pG,aY,↓uL];have p:aN (V 6) g.c=V (.a g.c):=rfl;refine anu m λv x F N d=>?_;have j:=F.kq e;have k:=F.kq i;have arg:dG x (.a g.c)= .a g.c:=rfl;unfold a96 at d⊢;unfold biu;rcases h:aNT w (aNY w) l with _|c;simp only[qz 8,u0,u1,jN,uO,aPy,uR,↓uL];rw[h] at d;have s:=(bhV b).run h;simp only[qz 8,u0,u1,jA,j,k,d,r15,p,rk,oe,ar,arm,arg,bfd,aj,uO,aOe,↓uL];simp_all
def bnt:FT:=qe bpe
def brt{w g l Lw K}:=sT bnt bpe w g l Lw K (j:=by simp+contextual only[ij,Nb])
def bnm{l:List cJ}:∀r∈l.map cJ.c,L r=6:=by intro r a;obtain⟨y,_,rfl⟩:=dN.1 a;rfl
def a7h(g:cJ)(f o:Bool):List AV:=[iv g.kind,iv g.ea,iv g.eb,iv g.ec,iv g.ed, .l (g.cW.map ci) f o]
def bpb{w:am}{g:cJ}{f o:Bool}{a:AV}{i:List cJ}{Y:ae}(k:L Y=4096)(y:kB w)(A:L g.cW<1000)(v:gm Y 46 6 a<|i.map cJ.c)(E:L i<1000000):∃r e,(gm e 46 6 r ((i++if qC w g then[g] else[]).map cJ.c)/\Fx Y e (aA a)/\∀q∈aA r,q∈aA a\/bK Y q/\q.1=13)/\cZ aS GG 37 [.a w.c,a, .a<|a7h g f o] Y r e:=by refine bqi k rfl rfl λb M N K2 F G H s t=>?_;have d:Fx Y b []:=K2.fx [];have m:=d.len.trans k;have z:aN (V 6) (a7h g f o)=V (.a<|a7h g f o):=rfl;have arg:dG b (.a<|a7h g f o)= .a g.c:=rfl;have u:=v.fx d (by simp);have x:kB w/\L g.cW<4611686018427387904:=⟨y,by omega⟩;have j:aX biV 1 b [(0, .a<|a7h g f o)]=V (.l [cJ.c g] U U,b):=aQm (Y:=b) (cs:=a7h g f o) (tgt:=g.c) rfl rfl (by decide) (by simp[cJ.c,eN,sl]) (by decide);simp only[bjs,qy 6,qy 8,u0,u1,s,t,r15,z,rk,ar,arg,bfd,aj,j,↓uL];refine⟨x,λh=>?_,λh=>?_⟩;refine apQ u m bnm (by simp[cJ.c]) (by simp) (by simp;omega) λC K D n B=>?_;simp only[fe,aoz];exact⟨by grind [bc.p],(d.trans n).mono (by simp_all),by grind [bK.old]⟩;simp only[fe,aoz];grind [Fx.mono]
def cyB:Nat->Nat|0=>1|n+1=>1+16*cyB n
def CyL(w:am)(l:List<|List Int):Prop:=∀c∈l,qC w (Ds c)=U
def bpC{l:List (List Int)}:∀r∈l.map cl,L r=1:=by intro r a;obtain⟨y,_,rfl⟩:=dN.1 a;rfl
def bpa{w:am}(hw:kB w):∀(n:Nat) {p:AV} {path:List Int} {a:AV} {out:List (List Int)} {Y:ae},L path+n=4->0<L path->(∀x∈path,aF (L w.ac) x)->L Y=4096->O1 Y 1 p (path.map ci)->(∀q∈aA p,q.1=54)->gm Y 38 1 a (out.map cl)->(∀q∈aA a,q.1=17)->CyL w out->L out+cyB n<1000000->
  ∃r H,(∃f,gm H 38 1 r (f.map cl)/\(∀q∈aA r,q.1=17/\(q∈aA a\/bK Y q))/\Fx Y H (aA a)/\CyL w f/\L f<=L out+cyB n)/\cZ aS GG 38 [.a w.c,p,a] Y r H:=by
 intro n
 induction n using Nat.strongRecOn with
 |ind n ih=>
 intro p path a out Y hn a1 aW K hp pp hG pa hC bj
 have aV:=hw.ev
 have bF:L path<=4:=by omega
 refine bqh K rfl λM N K2 lk nf b3=>?_
 have S:Fx Y M []:=K2.fx []
 have aq:=S.len.trans K
 have D:=hp.fx S (by simp)
 have ga:=hG.fx S (by simp)
 have a4:∀{z:ae},O1 z 1 p (path.map ci)->lz z p=sl ci path:=λ{z} h=>by
  rcases h with⟨t,o,rfl⟩|⟨b,m,e,rfl,hb⟩
  ·rfl
  ·simp[lz,gi,hb,gK,sl]
 have az:∀{z:ae},O1 z 1 p (path.map ci)->dG z p=sl ci path:=λ{z} h=>by
  rcases h with⟨t,o,rfl⟩|⟨b,m,e,rfl,hb⟩
  ·rfl
  ·simp[dG,eR,gi,hb,nrm,gK,sl]
 have arg:dG M (.a [iv 2,iv 0,iv 0,iv 0,iv 0,p])= .a (Ds path).c:=by
  show AV.a [iv 2,iv 0,iv 0,iv 0,iv 0,lz M p]=_
  rw[a4 D];rfl
 have aT:bM aSa aon [(0,iv 2),(5,p)]=V (.a [iv 2,iv 0,iv 0,iv 0,iv 0,p]):=by
  rcases hp with⟨t,o,rfl⟩|⟨b,m,e,rfl,hb⟩<;>rfl
 have kp:J4 p=[]\/J4 p=[54]:=by
  rcases hp.keys (P:=λk=>k=54) pp with h|⟨k,h,rfl⟩
  ·exact .inl h
  grind
 have hV:kB w/\L (Ds path).cW<4611686018427387904:=⟨hw,by show L path<_;omega⟩
 have bs:∀x,box Y (3,N)≠V x:=nf
 have hJ:∀(y:ae) (C:AV) (f:List<|List Int),Fx Y y (aA a)->box y (3,N)=V ⟨43,15,U,U,[w.c]⟩->O1 y 1 p (path.map ci)->gm y 38 1 C (f.map cl)->(∀q∈aA C,q.1=17/\(q∈aA a\/bK Y q))->CyL w f->L f<=L out+1->
   bmr p (λr H=>∃f,gm H 38 1 r (f.map cl)/\(∀q∈aA r,q.1=17/\(q∈aA a\/bK Y q))/\Fx Y H (aA a)/\CyL w f/\L f<=L out+cyB n) (.p (3,N) 0 0) [C] y:=by
  intro y C f F c3 D g ia bu bB _
  have bD:=F.len.trans K
  simp only[au,D.ln,bJ,u0,u1,↓uL]
  refine⟨λh=>?_,λh=>?_⟩
  ·grind [fe,aoz,cyB]
  ·obtain⟨m,rfl⟩:∃m,n=m+1:=⟨n-1,by grind⟩
   have ap:=aW _<|dB a1
   obtain⟨e,he⟩:∃e:Nat,gd path 0=e:=⟨(gd path 0).toNat,by have:=ap.1;omega⟩
   have bA:e<L w.ac:=by have:=ap.2;omega
   show rV (cz 1 y p<|iv ((0:Nat):Int)) _
   refine O1.ix1 D (i:=0) (c:=iv<|gd path 0) (by grind [bT]) λ_ _=>?_
   simp only[he,u0,u1,↓uL]
   rw[fX<|by omega]
   refine AI (α:=AV) (λb i=>[b,iv i]) 1 (L w.ac) (e+1) (by omega) (λj b z=>∃v,Fx Y z (aA a)/\box z (3,N)=V ⟨43,15,U,U,[w.c]⟩/\O1 z 1 p (path.map ci)/\gm z 38 1 b (v.map cl)/\(∀q∈aA b,q.1=17/\(q∈aA a\/bK Y q))/\CyL w v/\L v<=L out+1+j*cyB m) (s0:=C) (by grind) ?_
   rintro j b z hj ⟨v,W,z3,R,gb,ib,Z,aq⟩
   have a0:=W.len.trans K
   simp only[bmv,aI,au,ck,u0,u1,z3,rk,cT,aj,↓uL]
   refine⟨λh2=>?_,λh2=>?_⟩
   ·have aZ:=aL h2
    simp only[di,bmu,au,ck,ar,jM,az R,bfd,u0,u1,↓uL]
    refine⟨by omega,?_⟩
    have bw:j*cyB m<=(j+1)*cyB m:=(by grind)
    have bx:(j+1)*cyB m<=16*cyB m:=qo _ (by omega)
    have bz:cyB (m+1)=1+16*cyB m:=rfl
    generalize hI:yI (λ(b:AV) (i:Int)=>[b,iv i]) (L w.ac) (λj b z=>∃v,Fx Y z (aA a)/\box z (3,N)=V ⟨43,15,U,U,[w.c]⟩/\O1 z 1 p (path.map ci)/\gm z 38 1 b (v.map cl)/\(∀q∈aA b,q.1=17/\(q∈aA a\/bK Y q))/\CyL w v/\L v<=L out+1+j*cyB m)=d
    have aw:∀(O:ae) (X:AV) (o3:List<|List Int),Fx Y O (aA a)->box O (3,N)=V ⟨43,15,U,U,[w.c]⟩->O1 O 1 p (path.map ci)->gm O 38 1 X (o3.map cl)->(∀q∈aA X,q.1=17/\(q∈aA a\/bK Y q))->CyL w o3->L o3<=L out+1+(j+1)*cyB m->CO [b,iv j] d (gM 1<|L w.ac) z [X] O:=by
     intro O X o3 h1 h2 h3 h4 h5 h6 h7 _
     simp only[au,ck,u0,u1,↓uL]
     rw[<-hI]
     exact dR (mk:=λ(a:AV) i=>[a,iv i]) (p:=1) (s:=b) (s':=X) (λ_ _=>rfl) (Y:=z) aZ (by omega) (by grind)
    have G:=aw z b v W z3 R gb ib Z (by omega)
    rcases hM:Q ((j:Int)∈path) with _|_
    ·have ew:dq.wrap ((L path:Int)-1)=((L path-1:Nat):Int):=by grind [eM]
     have bC:L path-1<L path:=by omega
     simp only[Bool.not_false,jA,qE,u0,u1,R.ln,bJ,z3,r15,aj,ew,↓uL]
     refine O1.ix1 R (i:=L path-1) (c:=iv<|gd path<|L path-1) (by grind [bT]) λ_ _=>?_
     simp only[jA,ar,bfd,u0,u1,uO,aOe,↓uL]
     refine⟨(by grind [dJ,dB]),λbv=>?_,λ_=>G⟩
     simp only[nS,bQ]
     refine apV (aa:=[]) (e:=3) (z:=1) (new:=path.map ci) (.inl ⟨rfl,rfl⟩) R.ro rfl (by decide) (by omega) (by simp) fF (by simp;omega) λx1 A g3 F3 P3=>?_
     have E:gm A 3 1 x1 (path.map ci):=by grind
     have u:Fx z A []:=F3.mono (by simp[aA])
     have ao:∀q∈aA x1,bK z q/\q.1=51:=(by grind [aA])
     have aU:aX bH 1 A [(0,iv j)]=V (.l ([(j:Int)].map ci) U U,A):=iz
     have av:=u.len.trans a0
     simp only[bmp,ck,aU,bQ,↓uL]
     refine apQ E av fF fF (by simp) (by simp;omega) λx2 s5 g5 B P5=>?_
     have a5:∀{q:Id},q.1≠51->q∉aA x1:=(by grind)
     have aO:=(gb.fx u<|by simp).fx B (by grind)
     have a8:=(R.fx u<|by simp).fx B (by grind)
     have a7:=B.keep _ _ (a5<|by simp)<|u.kq z3
     have aY:=B.len.trans av
     have aK:Fx Y s5 (aA a):=(W.trans<|u.trans B).mono λq hq=>by
      simp only[List.nil_append,dF] at hq
      rcases hq with h|h
      ·exact .inl h
      ·exact .inr ((ao q h).1.old W).no
     simp only[bmo,au,↓uL]
     refine jH rfl (ih m (by omega) (p:=x2) (path:=path++[(j:Int)]) (a:=b) (out:=v) (by simp;omega) (by simp) (λx hx=>?_) aY (.of (by rw[dg];exact g5.p)) (by grind) aO (by grind) Z<|by grind) ?_
     ·grind [cE,dJ]
     rintro r s6 ⟨o3,g6,i6,F6,aQ,bi⟩
     refine⟨F6.len,?_⟩
     simp only[bmn,↓uL]
     refine dT ?_ ?_
     ·have kx:J4 x1=[]\/J4 x1=[51]:=by
       rcases(O1.of E).keys (P:=λk=>k=51) (by grind) with h|⟨k,h,rfl⟩
       ·exact .inl h
       grind
      rcases kp with h|h<;>rcases kx with h'|h'<;>simp[eL,lb,List.flatMap_cons,aTn,a6H,bc7,bc6,ck,h,h']
     have a6:∀{q:Id},q.1≠17->q∉aA b:=(by grind)
     refine aw s6 r o3 ((aK.trans F6).mono λq hq=>?_) (F6.keep _ _ (a6<|by simp) a7) (a8.fx F6<|by grind) g6 (λq hq=>⟨(i6 q hq).1,?_⟩) aQ (by grind)
     ·grind [bK.no]
     grind [bK.old]
    ·simp only[Bool.not_true,jN,u0,u1,uO,aPy,↓uL]
     exact⟨λh=>(by cases h),λ_=>G⟩
   ·obtain rfl:j=L w.ac:=(by grind)
    simp only[fe,aoz]
    refine⟨v,gb,ib,W,Z,?_⟩
    have:L w.ac*cyB m<=16*cyB m:=qo _ aV
    grind [cyB]
 simp only[bjr,di,bmt,u0,u1,b3,r15,aT,ar,arg,bfd,aj,↓uL]
 refine⟨hV,λh=>?_,λh=>?_⟩
 ·simp only[nS,bQ]
  refine apV (aa:=[]) (e:=3) (z:=1) (new:=path.map ci) (.inl ⟨rfl,rfl⟩) D.ro rfl (by decide) (by omega) (by simp) fF (by simp;omega) λx A g3 F3 P3=>?_
  have E:gm A 3 1 x (path.map ci):=by grind
  have u:Fx M A []:=F3.mono (by simp[aA])
  have ao:∀q∈aA x,bK M q/\q.1=15:=(by grind [aA])
  have T:=aOp (aA x) A
  have no:∀{q:Id},q.1≠15->q∉aA x:=(by grind)
  have aN:=(ga.fx u<|by simp).fx T (by grind)
  have bt:=(D.fx u<|by simp).fx T (by grind)
  have br:=T.keep _ _ (no<|by simp)<|u.kq b3
  simp only[bmq,baG E,bQ,↓uL]
  refine qs (new:=[[.l (path.map ci) I I]]) aN rfl (by decide) (by rw[T.len,u.len,aq];decide) bpC (by simp) (by simp) (by simp;omega) λC s5 g5 B P5=>?_
  have bG:∀{q:Id},q.1≠17->q∉aA a:=λh h'=>h<|pa _ h'
  have ay:Fx Y s5 (aA a):=(S.trans<|u.trans<|T.trans B).mono (by grind [bK.no,bK.old])
  refine hJ s5 C (out++[path]) ay (by grind [Fx.keep]) (by grind [O1.fx]) (by rw[dg];exact g5.p) (by grind [bK.old]) (λl K=>?_) (by simp)
  rcases dF.1 K with h1|h1
  ·exact hC l h1
  grind
 ·exact hJ M a out (S.mono<|by simp) b3 D ga (by grind) hC (by omega)
def bnx:dO:=(12,bjd)::(13,bnt)::bnw
def bnv:eJ bnx:=it (tE biL)<|it (tE bpe)<|biO
def bm2:=ai @boI<|ai @brt<|@bfd
def bn2:=tn 61 [(5,([3,5],[1,4])),(10,([3,6],[1,4,5])),(16,([3,7],[1,4])),(22,([3,9],[1,4,7,8])),(28,([3,10],[1,4])),(33,([3,11],[1,4,10])),(39,([3,12],[1,4])),(44,([3,13],[1,4,12])),(47,([3],[1,4,12,13])),(51,([3,14],[1,4,12,13])),(56,([3,15],[1,4,12,13,14]))]
def bjp a b R:=(.mk _:NF<|zF GG bnx bn2 Tryz.f15 [.u] [a] b<|I3 Tryz.f15 R).p
def bqf{c0:List AV}{R:o8}(l0:L c0=15)(h:H1 43 15 1 c0 λia b=>bjp ia b R):Ct 15 [.a c0] R:=z1 bn2 bnv Tryz.func15 l0 h
def GL(w:am)(z:ae)(b:AV)(N:Nat):Prop:=∃a:List cJ,L z=4096/\box z (1,1)=V ⟨43,15,U,U,[w.c]⟩/\gm z 46 6 b (a.map cJ.c)/\(∀q∈aA b,q.1=13\/q.1=57)/\(∀g∈a,qC w g=U/\L g.cW<=4)/\L a<=N
theorem GL.mono{w:am}{z:ae}{b:AV}{N M:Nat}(h:GL w z b N)(j:N<=M):GL w z b M:=by obtain⟨a,c,d,e,f,g,i⟩:=h;exact⟨a,c,d,e,f,g,by omega⟩
theorem GL.put{w:am}(m:kB w){z:ae}{b:AV}{N d:Nat}{g:cJ}{f o:Bool}{K:be}(h:GL w z b N)(v:N<1000000)(y:L g.cW<=4)(l:∀r e,GL w e r (N+1)->K r e):cB 37 [.a w.c,b, .a<|a7h g f o] z d K:=by obtain⟨n,i,p,k,s,t,u⟩:=h;refine jH rfl (bpb i m (by omega) k<|by omega) ?_;rintro r e ⟨j,F,C⟩;refine⟨F.len,l r e ⟨_,F.len.trans i,(by grind [Fx.keep]),j,λq A=>?_,λx B=>?_,?_⟩⟩;grind;grind;grind
def bjZ(w:am)(hp:kB w):Ct 15 [.a w.c] (λr=>∃j:List cJ,r=sl cJ.c j/\(∀g∈j,qC w g=U/\L g.cW<=4)/\L j<=200000):=by have A:=hp;have aD:=A.ev;generalize hQ:(λ(r:AV)=>∃j:List cJ,r=sl cJ.c j/\(∀g∈j,qC w g=U/\L g.cW<=4)/\L j<=200000)=Q;refine aDq (bqf rfl λs2 hl X h0=>?_);show bjp (.p (1,1) 0 0) s2 λr=>Q<|B1 r;have Z:∀{k a b c d:Int},bM aSa aon [(0,iv k),(1,iv a),(2,iv b)]=V (.a<|a7h (cJ.mk k a b 0 0 []) U U):=λ{k a b c d}=>rfl;have b4:∀{k a b c d:Int},bM aSa aon [(0,iv k),(1,iv a),(2,iv b),(3,iv c),(4,iv d)]=V (.a<|a7h (cJ.mk k a b c d []) U U):=λ{k a b c d}=>rfl;simp only[bjp,u0,u1,X,rk,cT,aj,↓uL];refine jD (α:=AV) (λa i=>[a,iv i]) 1 (L w.ac) (λk a x=>GL w x a<|k*16) (s0:= .l [] U U) ⟨[],hl,X, .inl ⟨rfl,rfl⟩,by simp[aA],by simp,by simp⟩ ?_;rintro n a x K G;obtain⟨_,_,H,_⟩:=id G;simp only[qz 31,au,ck,aI,u0,u1,↓uL];refine⟨λh=>?_,λh=>?_⟩;have f:=aL h;refine jD (α:=AV) (λa i=>[a,iv i]) 1 (L w.ac) (λk a x=>GL w x a<|n*16+k) (s0:=a) G ?_;rintro D a y M G;obtain⟨_,_,C,_⟩:=id G;simp only[qz 61,au,ck,aI,u0,u1,C,r15,rk,aj,Z (c:=0) (d:=0),↓uL];refine⟨λm=>?_,λm=>?_⟩;have e:=aL m;refine GL.put A G (by omega) (by simp) λr z v=>?_;simp only[qz 4,au,ck,u0,u1,↓uL];exact dR (mk:=λ(a:AV) i=>[a,iv i]) (p:=1) (s:=a) (s':=r) (λ_ _=>rfl) (Y:=y) e (by omega) (v.mono<|by omega);exact dR (mk:=λ(a:AV) i=>[a,iv i]) (p:=1) (s:=a) (s':=a) (λ_ _=>rfl) (Y:=x) f (by omega) (G.mono<|by omega);clear H;refine jD (α:=AV) (λa i=>[a,iv i]) 1 (L w.ac) (λk a x=>GL w x a<|256+k*4369) (s0:=a) (G.mono<|by omega) ?_;rintro kc a x N G;obtain⟨_,_,H,_⟩:=id G;have t:aX bH 1 x [(0,iv kc)]=V (.l ([(kc:Int)].map ci) U U,x):=iz;simp only[qz 97,au,ck,aI,u0,u1,H,r15,rk,aj,t,↓uL];refine⟨λh=>?_,λh=>?_⟩;have f:=aL h;obtain⟨j,u,R,B,S,E,T⟩:=id G;simp only[qz 6,qy 8,↓uL];refine jH rfl (bpa A 3 (p:= .l ([(kc:Int)].map ci) U U) (path:=[(kc:Int)]) (a:= .l [] U U) (out:=[]) rfl (by simp) (by grind [dJ]) u (.inl ⟨_,_,rfl⟩) (by simp[aA]) (.inl ⟨rfl,rfl⟩) (by simp[aA]) (by intro c hc;simp at hc)<|by simp[cyB]) ?_;rintro r y ⟨o,g,ig,F,hC,ak⟩;have W:Fx x y []:=F;have ay:L o<=4369:=ak;refine⟨F.len,?_⟩;have Gy:GL w y a (256+kc*4369):=⟨j,F.len.trans u,W.kq R,B.fx W (by simp),S,E,T⟩;refine jD (α:=AV) (λa i=>[a,iv i]) 1 (L o) (λk a z=>GL w z a (256+kc*4369+k)/\gm z 38 1 r (o.map cl)) (s0:=a) ⟨Gy,g⟩ ?_;rintro kd a z ah ⟨G,gz⟩;obtain⟨j,u,R,B,S,E,T⟩:=id G;simp only[qz 133,qy 10,au,ck,aI,u0,u1,gz.ln,bJ,↓uL];refine⟨λm=>?_,λm=>?_⟩;have e:=aL m;have ag:=hC _<|dB e;have af:L (gd o kd)<=4:=(by grind [bjC,Ds]);refine O1.ix1 (.of gz) (i:=kd) (c:=sl ci<|gd o kd) (by rw[List.getElem?_map,List.getElem?_eq_getElem e,bT e];rfl) λ_ _=>?_;have ae:bM aSa aon [(0,iv 2),(5,sl ci<|gd o kd)]=V (.a (Ds<|gd o kd).c):=rfl;have t:aX biV 1 z [(0, .a (Ds<|gd o kd).c)]=V (.l [cJ.c<|Ds<|gd o kd] U U,z):=ua rfl rfl rfl (by decide) (by simp[cJ.c,eN,sl]) (by decide);simp only[ae,t,aY,bQ,↓uL];refine apQ B u bnm (by simp[cJ.c]) (by simp) (by simp;omega) λa' z2 g2 F2 P2=>?_;simp only[qz 12,au,ck,u0,u1,↓uL];have no:∀{q:Id},q.1≠13->q.1≠57->q∉aA a:=(by grind);refine dR (mk:=λ(a:AV) i=>[a,iv i]) (p:=1) (s:=a) (s':=a') (λ_ _=>rfl) (Y:=z) e (by omega) ⟨⟨j++[Ds<|gd o kd],F2.len.trans u,(by grind [Fx.keep]),by grind [bc.p],(by grind),λx hx=>?_,by simp;omega⟩,by grind [gm.fx]⟩;rcases dF.1 hx with h|h;exact E x h;obtain rfl:=cE.1 h;exact⟨ag,af⟩;exact dR (mk:=λ(a:AV) i=>[a,iv i]) (p:=1) (s:=a) (s':=a) (λ_ _=>rfl) (Y:=x) f (by omega) (G.mono<|by omega);clear H t;refine jD (α:=AV) (λa i=>[a,iv i]) 1 (L w.ac) (λk a x=>GL w x a<|71000+k*16) (s0:=a) (G.mono<|by omega) ?_;rintro n a x K G;simp only[qz 169,au,ck,aI,u0,u1,↓uL];refine⟨λh=>?_,λh=>?_⟩;have f:=aL h;refine jD (α:=AV) (λa i=>[a,iv i]) 1 (L w.ac) (λk a x=>GL w x a<|71000+n*16+k) (s0:=a) G ?_;rintro D a y M G;obtain⟨_,_,C,_⟩:=id G;simp only[qz 199,au,ck,aI,u0,u1,C,r15,rk,aj,Z (c:=0) (d:=0),↓uL];refine⟨λm=>?_,λm=>?_⟩;have e:=aL m;refine GL.put A G (by omega) (by simp) λr z v=>?_;simp only[qz 14,au,ck,u0,u1,↓uL];exact dR (mk:=λ(a:AV) i=>[a,iv i]) (p:=1) (s:=a) (s':=r) (λ_ _=>rfl) (Y:=y) e (by omega) (v.mono<|by omega);exact dR (mk:=λ(a:AV) i=>[a,iv i]) (p:=1) (s:=a) (s':=a) (λ_ _=>rfl) (Y:=x) f (by omega) (G.mono<|by omega);refine jD (α:=AV) (λa i=>[a,iv i]) 1 (L w.ac) (λk a x=>GL w x a<|72000+k*6000) (s0:=a) (G.mono<|by omega) ?_;rintro n a x K G;simp only[qz 235,au,ck,aI,u0,u1,↓uL];refine⟨λh=>?_,λh=>?_⟩;have f:=aL h;rw[fX<|by omega];refine AI (α:=AV) (λa i=>[a,iv i]) 1 (L w.ac) (n+1) f (λk a x=>GL w x a<|72000+n*6000+k*350) (s0:=a) (G.mono<|by omega) ?_;rintro D a y M G;obtain⟨_,_,C,_⟩:=id G;simp only[qz 265,au,ck,aI,u0,u1,↓uL];refine⟨λm=>?_,λm=>?_⟩;have e:=aL m;simp+contextual only[di,qz 287,au,ck,aI,u0,u1,C,ix,rk,ar,bm2,aj,Int.toNat_natCast,dJ f,dJ e,aNG,J6,↓uL];refine⟨λh3=>?_,λh3=>?_⟩;simp only[qz 285,aI,au,ck,u0,u1,↓uL];exact dR (mk:=λ(a:AV) i=>[a,iv i]) (p:=1) (s:=a) (s':=a) (λ_ _=>rfl) (Y:=y) e (by omega) (G.mono<|by omega);refine jD (α:=AV) (λa i=>[a,iv i]) 1 (L w.ac) (λk a x=>GL w x a<|72000+n*6000+D*350+k*17) (s0:=a) (G.mono<|by omega) ?_;rintro kc a z N G;simp only[qz 307,au,ck,aI,u0,u1,↓uL];refine⟨λh4=>?_,λh4=>?_⟩;have O:=aL h4;refine AI (α:=AV) (λa i=>[a,iv i]) 1 (L w.ac) kc N (λk a x=>GL w x a<|72000+n*6000+D*350+kc*17+k) (s0:=a) (G.mono<|by omega) ?_;rintro kd a z2 ah G;obtain⟨_,_,z1,_⟩:=id G;simp only[qz 337,au,ck,aI,u0,u1,z1,r15,rk,aj,b4,↓uL];refine⟨λh5=>?_,λh5=>?_⟩;have P:=aL h5;refine GL.put A G (by omega) (by simp) λr z v=>?_;simp only[qz 16,au,ck,u0,u1,↓uL];exact dR (mk:=λ(a:AV) i=>[a,iv i]) (p:=1) (s:=a) (s':=r) (λ_ _=>rfl) (Y:=z2) P (by omega) (v.mono<|by omega);exact dR (mk:=λ(a:AV) i=>[a,iv i]) (p:=1) (s:=a) (s':=a) (λ_ _=>rfl) (Y:=z) O (by omega) (G.mono<|by omega);simp only[qz 285,aI,au,ck,u0,u1,↓uL];exact dR (mk:=λ(a:AV) i=>[a,iv i]) (p:=1) (s:=a) (s':=a) (λ_ _=>rfl) (Y:=y) e (by omega) (G.mono<|by omega);exact dR (mk:=λ(a:AV) i=>[a,iv i]) (p:=1) (s:=a) (s':=a) (λ_ _=>rfl) (Y:=x) f (by omega) (G.mono<|by omega);obtain⟨j,u,R,B,S,E,T⟩:=G;refine aOv (v':=sl cJ.c j) (aWs B) rfl ?_;grind
def bjb:FT:=om bjZ
def boE{w Lw K}:=aUy bjb bjZ w Lw K
def bny:dO:=(15,bjb)::bnx
def bpN:eJ bny:=it (rj bjZ)<|bnv
def boN:=ai @boE<|@bm2
def boQ a b c R:=(.mk _:NF<|zF GG bny ato Tryz.f10 [.u,b] [a] c<|I3 Tryz.f10 R).p
def br0{c0:List AV}{b:AV}{R:o8}(l0:L c0=15)(h:H1 43 15 2 c0 λia c=>boQ ia b c R):Ct 10 [.a c0,b] R:=z1 ato bpN Tryz.func10 l0 h
def aN6{α:Type}(f:α->α->Bool):List α->List α->Bool|[],[]=>U|a::l,b::m=>f a b&&aN6 f l m|_,_=>I
theorem aOC{α:Type}{f:α->α->Bool}(c:∀a b,f a b=U->a=b):∀{l m:List α},aN6 f l m=U->l=m
 |[],[],_=>rfl
 |a::l,b::m,h=>by
  simp only[aN6,bN] at h
  rw[c a b h.1,aOC c h.2]
 |[],_::_,h=>by cases h
 |_::_,[],h=>by cases h
def xqV:Nat->Value->Value->Bool
 |0,_,_=>I
 |n+1,x,y=>
  match x,y with
  | .int k a, .int c b=>Q (k=c)&&Q (a=b)
  | .bool a, .bool b=>a==b
  | .string a, .string b=>Q<|a.data.toList=b.data.toList
  | .agg a, .agg b=>aN6 (xqV n) a.toList b.toList
  | .pointer none, .pointer none=>U
  | .nilFunc, .nilFunc=>U
  | .nilIface, .nilIface=>U
  | .map none, .map none=>U
  |_,_=>I
theorem bhK:∀{n:Nat} {a b:Value},xqV n a b=U->a=b:=by intro n;induction n with|zero=>intro a b h;cases h|succ n c=>intro a b h;simp only[xqV] at h;(split at h<;>first|rfl|(cases h;done)|skip);simp_all;simp_all;rename_i a b;have h:=aNV h;obtain⟨⟨a⟩⟩:=a;simp_all;rename_i a b;have h:=aOC (λa b=>c) h;simp_all
def xqA:Nat->AV->AV->Bool
 |0,_,_=>I
 |n+1,x,y=>
  match x,y with
  | .s v, .s w=>xqV 4 v w
  | .u, .u=>U
  | .l r t o, .l D E o'=>(t==E&&o==o')&&aN6 (aN6<|xqA n) r D
  | .a c, .a e=>aN6 (xqA n) c e
  | .t c, .t e=>aN6 (xqA n) c e
  | .q c, .q e=>aN6 (xqA n) c e
  | .p b i j, .p h z A=>Q<|b=h/\i=z/\j=A
  | .m b i, .m h z=>Q<|b=h/\i=z
  | .g k b i j, .g B h z A=>Q<|k=B/\b=h/\i=z/\j=A
  | .f k c d, .f B e C=>Q (k=B)&&(aN6 (xqA n) c e&&aN6 (xqA n) d C)
  |_,_=>I
def aYn:∀{n:Nat} {a b:AV},xqA n a b=U->a=b:=by intro n;induction n with|zero=>intro a b h;cases h|succ n c=>intro a b h;simp only[xqA] at h;grind [bhK,aOC]
def eqB(x y:bY):Bool:=Q (x.elem=y.elem/\x.size=y.size/\x.own=y.own/\x.var=y.var)&&aN6 (aN6<|xqA 9) x.aa y.aa
theorem bbh{x y:bY}(h:eqB x y=U):x=y:=by unfold eqB at h;rw[bN] at h;obtain⟨c,d,e,f⟩:=aNV h.1;have g:=aOC (λa b=>aOC<|λa b=>aYn) h.2;cases x;simp_all
def kpS(a b:vG):Bool:=Nat.ble a.lB b.lB&&(List.range<|a.lB+1).all λv=>match a.val v with|none=>U|some x=>match b.val v with|some y=>eqB x y|none=>I
def kpB:ae->ae->Bool:=eqLs' kpS
where eqLs' (f:vG->vG->Bool):ae->ae->Bool
 |[],[]=>U
 |a::l,b::m=>f a b&&eqLs' f l m
 |_,_=>I
def a6R:∀{Y Y':ae},kpB Y Y'=U->L Y'=L Y/\∀k,kpS (aZ Y k) (aZ Y' k)=U
 |[],[],_=>⟨rfl,λk=>by simp only[aZ,List.getD_nil];rfl⟩
 |a::l,b::m,h=>by
  have h:(kpS a b&&kpB.eqLs' kpS l m)=U:=h
  rw[bN] at h
  have c:=a6R (Y:=l) (Y':=m) h.2
  refine⟨by simp[c.1],λk=>?_⟩
  cases k with
  |zero=>exact h.1
  |succ k=>exact c.2 k
 |[],_::_,h=>by cases h
 |_::_,[],h=>by cases h
theorem bdG{Y Y':ae}(h:kpB Y Y'=U):Kp Y Y':=by obtain⟨a,c⟩:=a6R h;refine⟨a,λk=>?_,λb x d=>?_⟩;simp_all [kpS];have h:=c b.1;unfold kpS at h;grind [box,Nat.le_trans,Nat.le_of_ble_eq_true,bbh]
section
variable(P:Program)(G:nn)
abbrev aPc:=FuncId->List AV->ae->Nat->Option (AV×ae)
abbrev aQb:=Code->List AV->ae->Option (Exit×List AV×ae)
def aWf(a:aPc)(b:List AV)(Y:ae)(o:Oper):Option (AV×ae):=
 match dz P (du G b) Y o.op with
 |some av=>V (av,Y)
 |none=>
  match eA P (du G b) Y (o.dst.getD 0) o.op with
  |some p=>V p
  |none=>
   match o.op with
   | .call c=>
    match c.callee with
    | .value f=>
     match du G b f with
     | .f fn first cap=>a fn (first++c.args.toList.map (du G b)++cap) Y (o.dst.getD 0)
     |_=>J
    |_=>J
   |_=>J
def aS9(b:aPc)(ops:Array Oper)(a:List AV)(Y:ae)(o:Oper):Option (List AV×ae):=
 match rh ops a o with
 |some true=>match aWf P G b a Y o with|some p=>V (ge a o.dst p.1,p.2)|none=>J
 |some false=>V (ge a o.dst<|.t [],Y)
 |none=>J
def aRK(a:aPc)(ops:Array Oper):List Oper->List AV->ae->Option (List AV×ae)
 |[],b,Y=>V (b,Y)
 |o::l,b,Y=>match aS9 P G a ops b Y o with|some p=>aRK a ops l p.1 p.2|none=>J
def aS8(b:aPc)(ops:Array Oper):List Oper->List fY->List AV->ae->Option (List fY×List AV×ae)
 |[],a,c,Y=>V (a,c,Y)
 |o::l,a,c,Y=>match aS9 P G b ops c Y o with|some p=>aS8 b ops l (a++[C4 P G ops c Y o]) p.1 p.2|none=>J
def aQ0:Exit->Bool| .normal| .ret=>U|_=>I
def a6k(Y:ae)(d:Nat)(c:ae)(r:AV):Option (AV×ae):=
 match r with
 | .l [] true true=>V (.l [] U U,Y)
 | .m b n=>match box c b with|some x=>if qA x=U then V (.m (lA Y d) n,put Y d x) else J|none=>J
 | .a cs=>if(wn cs).Nodup then(match gU c d Y cs with|some p=>V (.a p.1,p.2)|none=>J) else J
 |_=>J
abbrev aSo:=List<|FuncId×List AV×AV
structure aPP where
 l:aSo
 cl:List (FuncId×TypeId×Nat)
def known(fn:FuncId)(ys:List AV):aSo->Option AV|[]=>J|p::T=>bif aOU fn p.1&&aN6 (xqA 9) ys p.2.1 then V p.2.2 else known fn ys T
def aRG(fn:FuncId):List (FuncId×TypeId×Nat)->Option (TypeId×Nat)|[]=>J|p::T=>bif aOU fn p.1 then V p.2 else aRG fn T
def aWe(Y:ae)(d:Nat)(p:TypeId×Nat)(ys:List AV):Option (AV×ae):=
 match ys with
 |[.l [] false false]=>V (.l [] U U,Y)
 |[.l (r::aa) false false]=>
  if((r::aa).all λr=>aOU (L r) p.2&&r.all gY)=U/\L (r::aa)<1000000 then V (.m (lA Y d)<|L (r::aa),put Y d ⟨p.1,p.2,U,I,r::aa⟩) else J
 |_=>J
def aRJ(T:aPP)(E:aQb):aPc:=λfn xs Y d=>
 match P.funcs[fn]? with
 |none=>J
 |some f=>
  match f.body with
  |none=>J
  |some c=>
   if(f.name== "runtime.NumGoroutine")=U then J
   else if G.nw fn=U then
    if(xs.map<|dG Y).all iX=U/\vg Y d=U then
     match aRG fn T.cl with
     |some p=>aWe Y d p<|xs.map<|dG Y
     |none=>
     match E c (start f<|xs.map<|dG Y) eK with
     |some (e,b,a)=>if aQ0 e=U then(match wG P f b a with|some r=>a6k Y d a r|none=>J) else J
     |none=>J
    else J
   else if G.imp fn=U then
    match E c (start f xs) Y with
    |some (e,b,a)=>
     if aQ0 e=U then
      match wG P f b a with
      |some r=>
       if L a=L Y then
        if G.rd fn=U then(if kpB Y (kills a<|eB r)=U/\kG (eR a r)=U then V (eR a r,Y) else J)
        else V (r,a)
       else J
      |none=>J
     else J
    |none=>J
   else if(xs.map<|dG Y).all iX=U/\L (xs.map<|dG Y)<=f.ntmps then
    match known fn (xs.map<|dG Y) T.l with
    |some r=>if kG r=U/\(nA Y xs=I\/uN r=U) then V (r,Y) else J
    |none=>
    match E c (start f<|xs.map<|dG Y) (ly f) with
    |some (e,b,a)=>
     if aQ0 e=U then
      match yB P f b a with
      |some r=>if kG r=U/\(nA Y xs=I\/uN r=U) then V (r,Y) else J
      |none=>J
     else J
    |none=>J
   else J
def aRL(T:aPP)(E:aQb):aQb:=λc a Y=>
 match c with
 | .skip=>V (.normal,a,Y)
 | .label _=>V (.normal,a,Y)
 | .region _ ops false=>match aRK P G (aRJ P G T E) ops ops.toList a Y with|some p=>V (.normal,p.1,p.2)|none=>J
 | .region _ ops true=>
  if rG G ops.toList=U then match aRK P G (aRJ P G T E) ops ops.toList a Y with|some p=>V (.normal,p.1,p.2)|none=>J
  else match aS8 P G (aRJ P G T E) ops ops.toList [] a Y with|some p=>if xG ops p.1=U then V (.normal,p.2.1,p.2.2) else J|none=>J
 | .seq x y=>match E x a Y with|some (.normal,τ',Y')=>E y τ' Y'|r=>r
 | .cond c x y=>match du G a c with| .s (.bool t)=>if t=U then E x a Y else E y a Y|_=>J
 | .block b c=>match E c a Y with|some (.exit j,τ',Y')=>if j=b then V (.normal,τ',Y') else V (.exit j,τ',Y')|r=>r
 | .loop c=>match E c a Y with|some (.normal,τ',Y')=>E (.loop c) τ' Y'|r=>r
 | .exit b=>V (.exit b,a,Y)
 | .ret=>V (.ret,a,Y)
 |_=>J
def ev(T:aPP):Nat->aQb|0=>λ_ _ _=>J|n+1=>aRL P G T<|ev T n
end
section
variable{P:Program}{G:nn}
def Xcl(P:Program)(G:nn)(fn:FuncId)(xs:List AV)(Y:ae)(d:Nat)(K:be):Prop:=
 if G.nw fn=U then tS P G fn xs Y d K else if G.imp fn=U then tR P G fn xs Y d K else Kh P G fn xs Y λr=>K r Y
def aRe(P:Program)(G:nn)(a:aPc):Prop:=∀fn xs Y d r Y',a fn xs Y d=V (r,Y')->∀K:be,K r Y'->Xcl P G fn xs Y d K
def aUx(P:Program)(G:nn)(E:aQb):Prop:=∀c a Y e τ' Y',E c a Y=V (e,τ',Y')->∀Q:QX,Q e τ' Y'->iq P G c Q a Y
theorem bbm{a:aPc}(g:aRe P G a){b:List AV}{Y Y':ae}{o:Oper}{r:AV}(h:aWf P G a b Y o=V (r,Y')){K:be}(d:K r Y'):j0 P G b Y o K:=by unfold aWf at h;unfold j0;split at h;simp_all;rename_i l;rw[l];simp only;split at h;simp_all;rename_i i;rw[i];simp only;split at h;rename_i c k;rw[k];simp only;split at h;rename_i f j;rw[j];simp only;split at h;rename_i fn first cap e;rw[e];exact g _ _ _ _ _ _ h K d;(cases h);(cases h);cases h
theorem a6l{a:aPc}(d:aRe P G a){ops:Array Oper}{b τ':List AV}{Y Y':ae}{o:Oper}(h:aS9 P G a ops b Y o=V (τ',Y')){K:aG}(c:K τ' Y'):kS P G ops o K b Y:=by grind [aS9,kS,bbm]
theorem a6m{a:aPc}(d:aRe P G a){ops:Array Oper}{K:aG}:∀{l:List Oper} {b τ':List AV} {Y Y':ae},aRK P G a ops l b Y=V (τ',Y')->K τ' Y'->rE P G ops l K b Y:=by intro l;induction l with|nil=>intro b τ' Y Y' h c;cases h;exact c|cons o l f=>intro b τ' Y Y' h c;simp only[aRK] at h;split at h;rename_i p e;exact a6l d (τ':=p.1) (Y':=p.2) e<|f h c;cases h
theorem bbk{b:aPc}(e:aRe P G b){ops:Array Oper}{K:List fY->aG}:∀{l:List Oper} {a ls:List fY} {c τ':List AV} {Y Y':ae},aS8 P G b ops l a c Y=V (ls,τ',Y')->K ls τ' Y'->qq P G ops l a K c Y:=by intro l;induction l with|nil=>intro a ls c τ' Y Y' h d;cases h;exact d|cons o l g=>intro a ls c τ' Y Y' h d;simp only[aS8] at h;split at h;rename_i p f;exact a6l e (τ':=p.1) (Y':=p.2) f<|g h d;cases h
def aWD{e:Exit}(h:aQ0 e=U):e= .normal\/e= .ret:=by cases e<;>first|exact .inl rfl|exact .inr rfl|cases h
theorem a6j(o:tQ P){E:aQb}(j:aUx P G E){fn:FuncId}{f:Func}{c:Code}(n:P.funcs[fn]?=V f)(l:f.body=V c)(p:¬(f.name== "runtime.NumGoroutine")=U){xs g:List AV}{Y d:ae}{e:Exit}{r:AV}(h:E c (start f xs) Y=V (e,g,d))(m:aQ0 e=U)(i:wG P f g d=V r):cZ P G fn xs Y r d:=by obtain⟨q,Y',⟨rfl,rfl⟩,k⟩:=aBf (R:=λa b=>a=r/\b=d) o n l (by grind) (j _ _ _ _ _ _ h (QB P f λa b=>a=r/\b=d)<|by rcases aWD m with rfl|rfl<;>exact⟨r,i,rfl,rfl⟩);exact k
def aYw(P:Program)(G:nn)(T:aSo):Prop:=∀p∈T,zm P G p.1 p.2.1 (·=p.2.2)
def a78(P:Program)(G:nn)(T:List<|FuncId×TypeId×Nat):Prop:=∀p∈T,∀aa:List (List AV),(∀r∈aa,L r=p.2.2)->L aa<1000000->∃r a,cZ P G p.1 [.l aa I I] eK r a/\(aa=[]->r= .l [] U U)/\(aa≠[]->∃b,r= .m b (L aa)/\box a b=V ⟨p.2.1,p.2.2,U,I,aa⟩)
structure aSn(P:Program)(G:nn)(T:aPP):Prop where
 fp:∀fn,G.fp fn=J
 l:aYw P G T.l
 cl:a78 P G T.cl
def a6Q{fn:FuncId}{ys:List AV}{r:AV}:∀{T:aSo},aYw P G T->known fn ys T=V r->zm P G fn ys (·=r)
 |[],_,h=>by cases h
 |p::T,d,h=>by
  simp only[known] at h
  cases c:(aOU fn p.1&&aN6 (xqA 9) ys p.2.1) with
  |true=>
   rw[c] at h
   rw[bN] at c
   have e:=Nat.eq_of_beq_eq_true c.1
   have f:=aOC (λa b=>aYn) c.2
   obtain rfl:=Option.some.inj h
   subst e f
   exact d p (by simp)
  |false=>
   rw[c] at h
   exact a6Q (λq g=>d q<|by simp[g]) h
theorem a6a{fn:FuncId}{p:TypeId×Nat}:∀{T:List (FuncId×TypeId×Nat)},aRG fn T=V p->(fn,p)∈T
 |[],h=>by cases h
 |q::T,h=>by
  simp only[aRG] at h
  cases a:aOU fn q.1 with
  |true=>
   grind [Nat.eq_of_beq_eq_true]
  |false=>rw[a] at h;exact List.mem_cons_of_mem _<|a6a h
theorem bbj{T:aPP}(l:aSn P G T){fn:FuncId}{p:TypeId×Nat}{xs:List AV}{Y Y':ae}{d:Nat}{r:AV}(o:aRG fn T.cl=V p)(i:(xs.map<|dG Y).all iX=U/\vg Y d=U)(h:aWe Y d p (xs.map<|dG Y)=V (r,Y')){K:be}(g:K r Y'):zI P G fn xs Y d K:=by have f:=l.cl _<|a6a o;refine⟨i.1,i.2,?_⟩;generalize xs.map (dG Y)=ys at*;unfold aWe at h;split at h;(cases h);obtain⟨r,a,c,j,_⟩:=f [] (by simp) (by decide);exact⟨r,a,c, .inl ⟨j rfl,g⟩⟩;rename_i q aa;split at h;rename_i e;cases h;obtain⟨e,n⟩:=e;rw[List.all_eq_true] at e;obtain⟨r,a,c,_,k⟩:=f (q::aa) (by simp_all) n;obtain⟨b,rfl,m⟩:=k (by simp);refine⟨_,a,c, .inr ⟨b,_,_,rfl,m,?_,g⟩⟩;grind [qA];(cases h);cases h
theorem bbi(z:tQ P){T:aPP}(t:aSn P G T){E:aQb}(s:aUx P G E):aRe P G (aRJ P G T E):=by intro fn xs Y d r Y' h K k;unfold aRJ at h;unfold Xcl;split at h;(cases h);rename_i f v;split at h;(cases h);rename_i c u;split at h;(cases h);rename_i C;split at h;rename_i A;rw[amt A];split at h;rename_i a;split at h;rename_i p y;exact .inl<|bbj t y a h k;split at h;rename_i e F q o;split at h;rename_i m;split at h;rename_i B g;have j:=a6j z s v u C o m g;unfold a6k at h;split at h;(cases h);exact .inl ⟨a.1,a.2,_,_,j, .inl ⟨rfl,k⟩⟩;rename_i b n;split at h;rename_i x O;split at h;rename_i M;cases h;exact .inl ⟨a.1,a.2,_,_,j,by grind⟩;(cases h);(cases h);rename_i cs;split at h;rename_i D;split at h;rename_i p y;cases h;exact .inr<|.inr ⟨a.1,a.2,cs,q,p.1,p.2,j,D,y,k⟩;(cases h);(cases h);(cases h);(cases h);(cases h);(cases h);(cases h);rename_i A;rw[J7 A];split at h;rename_i w;rw[amt w];split at h;rename_i e F q o;split at h;rename_i m;split at h;rename_i B g;have j:=a6j z s v u C o m g;split at h;rename_i H;split at h;grind [tR,aPf,bdG];rename_i N;cases h;unfold tR aPf;rw[t.fp fn];exact⟨_,_,j,H,by simp_all⟩;(cases h);(cases h);(cases h);(cases h);rename_i w;rw[J7 w];split at h;rename_i a;split at h;rename_i B g;split at h;rename_i i;cases h;exact⟨_,a6Q t.l g,a.1,i.1,i.2,k⟩;(cases h);split at h;rename_i e F q o;split at h;rename_i m;split at h;rename_i B g;split at h;rename_i i;cases h;refine⟨_,aBh z v u (by grind) a.2<|s _ _ _ _ _ _ o (QR P f (·=_)) ?_,a.1,i.1,i.2,k⟩;rcases aWD m with rfl|rfl<;>exact⟨_,g,i.1,rfl⟩;(cases h);(cases h);(cases h);(cases h);cases h
theorem bdK{p:Nat->Prop}:∀{n:Nat},p n->∃m,p m/\∀k,p k->m<=k:=by intro n;induction n using Nat.strongRecOn with|_ n a=>grind
theorem bbl(F:tQ P){T:aPP}(D:aSn P G T):∀n,aUx P G (ev P G T n):=by intro n;induction n using Nat.strongRecOn with|_ n A=>cases n with|zero=>intro c b Y e τ' Y' h;cases h|succ n=>have g:=A n<|Nat.lt_succ_self n;have C:=bbi (G:=G) F D g;intro c b Y e τ' Y' h Q f;have M:=h;change aRL P G T (ev P G T n) c b Y=_ at h;unfold aRL at h;split at h;(cases h;exact f);(cases h;exact f);split at h;rename_i p E;cases h;exact a6m C E f;(cases h);show sF P G _ _ _ _;grind [sF,a6m,bbk];rename_i x y;show iq P G x _ _ _;split at h;rename_i l u d;exact g _ _ _ _ _ _ d _<|g _ _ _ _ _ _ h _ f;rename_i q;refine g _ _ _ _ _ _ h _ ?_;(cases e<;>first|exact f|simp_all);rename_i cc x y;show(match du G b cc with| .s (.bool t)=>if t=U then iq P G x Q b Y else iq P G y Q b Y|_=>False);split at h;rename_i t N;split at h;rename_i d;rw[amt d];exact g _ _ _ _ _ _ h _ f;rename_i d;rw[J7 d];exact g _ _ _ _ _ _ h _ f;(cases h);rename_i H c;show iq P G c _ _ _;split at h;rename_i j l u d;refine g _ _ _ _ _ _ d _ ?_;show(if j=H then Q .normal _ _ else Q (.exit j) _ _);grind;rename_i q;refine g _ _ _ _ _ _ h _ ?_;(cases e<;>first|exact f|simp_all);rename_i c;clear h;let r:List AV->ae->Nat->Prop:=λb Y m=>ev P G T m (.loop c) b Y=V (e,τ',Y');let a:aG:=λb Y=>∃m,m<=n+1/\r b Y m;have i:∀b Y,∃m,a b Y->r b Y m/\(∀k,r b Y k->m<=k):=(by intro b Y;by_cases hI:a b Y;obtain⟨m,_,z⟩:=hI;obtain⟨k,d,v⟩:=bdK z;grind;simp_all);refine⟨a,λb Y=>Classical.choose<|i b Y,(by grind),?_⟩;intro b Y hI;obtain⟨d,v⟩:=Classical.choose_spec (i b Y) hI;generalize z:Classical.choose (i b Y)=m at d v;have K:m<=n+1:=(by grind);(cases m with|zero=>(cases d)|succ k=>have o:=A k (by omega);change aRL P G T (ev P G T k) (.loop c) b Y=_ at d;unfold aRL at d;simp only at d;split at d;rename_i l u B;refine o _ _ _ _ _ _ B _ ?_;have w:a l u:=⟨k,by omega,d⟩;refine⟨w,?_⟩;grind;rename_i q;refine o _ _ _ _ _ _ d _ ?_;cases e<;>first|exact f|simp_all);(cases h;exact f);(cases h;exact f);cases h
end
end Go.Ab
