/- Part of the proof of WitnessSchedules. -/
import Derived.Test.YtdgiigkneimbdaaGreatDoorG
set_option linter.all false
set_option maxRecDepth 100000
open And renaming intro->ai
open Bool renaming and_eq_true->bN,false->I,false_eq_true->eE,not_false->kN,not_true->fh,true->U,true_eq_false->sr
open Decidable renaming decide->Q
open Go.IntKind renaming i64->dq
open Go.Proofs.Tryz renaming prog->aS
open Int renaming toNat_natCast->bh
open List renaming append_nil->cL,drop->aOz,drop_eq_getElem_cons->Cw,drop_zero->ip,flatMap_cons->Cz,length->L,length_map->bJ,map_append->dg,mem_cons->eW,not_mem_nil->ql,range->aH,range_succ->qn,replicate->er
open Nat renaming reduceAdd->dc,zero_add->aj
open Option renaming none->J,some->V
namespace Go.Ab
open Go Go.RowKit Go.Proofs Go.Proofs.Tryz
abbrev u8v(n:Int):AV:= .s<|.int .u8 n
def bry{a b:Int}:(u8v a=u8v b)=(a=b):=O
def bo1(w)(n:Int)(N:kB w/\0<=n/\n<256):Ct 12 [.a w.c,u8v n] (λr=>∃(g:cJ) (b:Bool),r= .t [.a g.c,bv b]/\(b=U->qC w g=U/\L g.cW<=4)):=by obtain⟨P,j,ab⟩:=N;generalize G:(λ(r:AV)=>∃(g:cJ) (b:Bool),r= .t [.a g.c,bv b]/\(b=U->qC w g=U/\L g.cW<=4))=Q;refine aDq (br0 A λT K x h0=>?_);show boQ (.p (2,1) 0 0) (u8v n) T λr=>Q<|bqE r;simp only[boQ,↓uL];refine zm K λu W v N4 y=>?_;have C:=v.kq x;have D:dq.wrap n=n:=eM Z Z;simp only[qz 4,qy 6,qy 8,fQ,C,r15,bzh,↓uL];refine⟨P,?_⟩;rintro _ ⟨d,rfl,E,aa⟩;have m:∀{Y:ae},fS Y (sl cJ.c d)=V (iv<|L d):=cT;have S:∀{g:cJ},aN (V 6) g.c=V (.a g.c):=λ{g}=>A;have q:∀{g:cJ} {f o:Bool},aN (V 6) (a7h g f o)=V (.a<|a7h g f o):=λ{g f o}=>A;have e:∀(g:cJ) (b f o:Bool),(b=U->qC w g=U/\L g.cW<=4)->sV (aK 6 W (.p (4,u) 0 0)<|.a<|a7h g f o) λi=>aw 6 i (.p (4,u) 0 0) λs=>aE (λr=>Q<|bqE r) i [s,bv b]:=λg b f o h=>(stW y A rfl λz F B=>by simp only[eS,B,q,↓uL];refine aOH (vs':=[.a g.c,bv b]) A rfl ?_;rw[<-G];exact⟨g,b,A,h⟩);refine⟨.inl A,?_⟩;simp only[m,eQ,aS6,D,↓uL];constructor<;>intro h;have R:bM bu2 anY []=V (.a<|a7h ⟨0,0,0,0,0,[]⟩ U U):=A;simp only[R,aY,↓uL];exact e _ _ _ _ O;have:0<L d:=(aYF<|bsX h);have k:=Int.tmod_nonneg (L d:Int) j;have l:=Int.tmod_lt_of_pos n (show(0:Int)<L d by omega);simp only[jr,ix,S,aY,eQ,↓uL];have M:=E _ (dB<|show(n.tmod (L d:Int)).toNat<L d by omega);exact⟨Z,⟨k,l⟩,e _ U I I λ_=>M⟩
def bnr:FT:=pn bo1
def brr:=f211 bnr bo1 (j:=by simp+contextual only[ij,bry])
def yL(k:Nat):eu:=(aH 4).map λi=>if i<k then 1 else 0
def uY(k:Nat):List aoC:=(aH 4).map λi=>⟨if i<k then 2 else if i=0 then 1 else 0,0,I⟩
def ku:am:=⟨aNE,4,⟨⟨er 3 ⟨-1,[]⟩,-1,[I],uY 4⟩,[0,1,0,0,0],[0],yL 4⟩,[⟨0,4,0,1,0,[],[]⟩,⟨1,4,0,2,6,[],[]⟩]⟩
def aoM:bcV ku=U:=a7c
def aoL:hU ku:=by refine⟨H,?_,?_,H⟩;intro l b;have:l=⟨-1,[]⟩:=List.eq_of_mem_replicate b;subst this;decide;intro e a;have:e=⟨0,4,0,1,0,[],[]⟩\/e=⟨1,4,0,2,6,[],[]⟩:=(by simpa[ku] using a);obtain rfl|rfl:=this<;>exact⟨H,H⟩
def a6e{fn ys r}(h:Ct fn ys (·=r)):btY aS GG fn ys (·=r):=by obtain⟨a,rfl,_,h⟩:=h;exact h
def aS5{fn:Nat}{e}{z:Nat}(h:∀bA,(∀r∈bA,L r=z)->L bA<1000000->∃r a,lI a e z r bA/\cZ aS GG fn [.l bA I I] eK r a/\(bA=[]->r= .l [] U U))(bA)(f:∀r∈bA,L r=z)(i:L bA<1000000):∃r a,cZ aS GG fn [.l bA I I] eK r a/\(bA=[]->r= .l [] U U)/\(bA≠[]->∃b,r= .m b (L bA)/\box a b=V ⟨e,z,U,I,bA⟩):=by obtain⟨r,a,g,j,d⟩:=h bA f i;refine⟨r,a,j,d,λc=>?_⟩;obtain⟨e,_⟩|g:=g;exact aYx e c;exact g
def GGR:Env:=⟨GG.glob,λf=>aB1.elem f||Nat.beq f 48,GG.rd,GG.nw,I,λ_=>J⟩
def bhX:cJ:=⟨1,0,1,0,0,[]⟩
def bnl:qC ku bhX=U:=a7c
def bpm:biu ku bhX []=U:=a7c
def knC:aPP:=⟨[],[(166,3,1),(188,4,1),(256,69,3),(230,2,1),(187,222,2)]⟩
def bng:aSn aS GGR knC:=by refine⟨λ_=>A,λp c=>by simp[knC] at c,λp c=>?_⟩;simp only[knC,eW,ql,brT] at c;obtain rfl|rfl|rfl|rfl|rfl:=c;exact aS5 λbA a b=>aCM a b;exact aS5 λbA a b=>aCL a b;exact aS5 λbA a b=>aCK a b;exact aS5 λbA a b=>aCN a b;exact aS5 λbA a b=>bnc a b
noncomputable def aX0(T:aPP)(f:Func)(xs:dM)(x:AV):Bool:=match f.body with
 |some c=>match ev aS GGR T 3000 c (start f xs) (ly f) with
  |some p=>aQ0 p.1&&(match bt8 aS f p.2.1 p.2.2 with|some r=>xqA 9 r x|none=>I)
  |none=>I
 |none=>I
def be9{T}(i:aSn aS GGR T){fn:Nat}{f xs x}(l:L xs<=f.ntmps)(k:aS.funcs[fn]?=V f)(m:(f.name== "runtime.NumGoroutine")=I)(d:kG x=U)(h:aX0 T f xs x=U):Ct fn xs (·=x):=by unfold aX0 at h;split at h;rename_i c j;split at h;rename_i p n;obtain⟨e,o,Y⟩:=p;simp only[bN] at h;obtain⟨g,a⟩:=h;split at a;rename_i r b;obtain rfl:=aYn a;refine aBg (G:=GGR) ready k j m l<|bbl ready i 3000 c _ _ e o Y n _ ?_;obtain rfl|rfl:=aWD g;exact⟨_,b,d,A⟩;exact⟨_,b,d,A⟩;(cases a);(cases h);cases h
set_option maxRecDepth 100000 in
def bqm:aX0 knC Tryz.f33 [.a ku.c] (bv U)=U:=a7c
def knT:aPP:=⟨[(33,[.a ku.c],bv U),(17,[.a ku.c],bv U),(34,[.a ku.c, .a bhX.c],bv U),(18,[.a ku.c, .a bhX.c,sl ot.c []],bv U)],knC.cl⟩
def bdF:aSn aS GGR knT:=by have b:=bnz aoL aoM;refine⟨λ_=>A,λp a=>?_,λp a=>?_⟩;simp only[knT,eW,ql,brT] at a;obtain rfl|rfl|rfl|rfl:=a;exact a6e<|be9 bng H func33 a7c A bqm;have h:=O8 ku aoL;rw[aoM] at h;exact a6e h;exact a6e<|NV ku bhX ⟨b.wo,bnl⟩;have h:=biL ku bhX [] ⟨b,aoM,bnl,H⟩;rw[bpm] at h;exact a6e h;obtain⟨_,_,h⟩:=bng;exact h p a
set_option maxRecDepth 100000 in
def bal:aX0 knT Tryz.f5 [] (bv U)=U:=a7c
def bjI:Ct 5 [] (·=bv U):=by exact be9 bdF (Nat.zero_le _) func5 a7c A bal
def biA:FT:=BJ bjI
def bol:=al2 biA bjI
def bAg:dO:=(12,bnr)::(5,biA)::bwC
def bAf:eJ bAg:=asq (aN0 bo1)<|asq (apM bjI)<|bxZ
def buP:=ai @brr<|ai @bol<|@bzh
def bEe:=I9 13 [(6,([5],[0,1]))]
def bFK{a a1}:=y0 bAf func276 bEe [a,a1]
def bFN{a a1}:=y0 bAf func220 bEe [a,a1]
def bFM{a a1}:=y0 bAf func221 bEe [a,a1]
def bEl:=I9 17 [(4,([5,6,7],[2,3])),(7,([5,6],[2,3,7])),(8,([5],[2,3,6,7]))]
def bFS{c0 b}:=y2 85 9 2 48 6 3 bAf func218 bEl c0 b [.a c0, .a b]
def bEj:=I9 13 [(6,([5],[2,3]))]
def bFQ{c0 b}:=y2 85 9 2 85 9 3 bAf func217 bEj c0 b [.a c0, .a b]
def bBY(a b)(f:L a<4611686018427387904):Ct 276 [sl ci a,sl ci b] (λr=>isB r):=bFK λs0 e c=>by simp+contextual only[jZ,aNP,FA,↓uL];intro h;have:L a=L b:=X;refine bid (L a) (λ_=>True) trivial λk d _=>?_;simp+contextual only[qz 37,gJ,bh,iV,FA,Cq,↓uL];grind [dJ,bkg]
def bCP:FT:=pn bBY
def bvc{p:Prop}(h:p:=by simp+contextual only[lT,Go.Ab.ijm]):p:=h
def bEC:=f211 bCP bBY (j:=bvc)
def bDm(a b)(p:L a<4611686018427387904):Ct 220 [sl aB9.c a,sl aB9.c b] (λr=>isB r):=bFN λs0 o m=>by have d:∀x y:aB9,∃r:Bool,bc4 .neq 2 [(0,0),(1,1)] (.a x.c) (.a y.c)=V (bv r):=λx y=>(by obtain⟨i,g⟩:=x;obtain⟨l,j⟩:=y;rcases e:Q (i=l) with _|_<;>rcases f:Q (g=j) with _|_<;>simp at e f<;>simp[bc4,nW,aB9.c,sS,e,f]);simp+contextual only[jZ,aNP,FA,↓uL];intro h;have:L a=L b:=X;refine bid (L a) (λ_=>True) trivial λk n _=>?_;obtain⟨r,d⟩:=d (gd a k)<|gd b k;simp+contextual only[qz 37,gg,boX,oe,d,bh,iV,FA,Cq,↓uL];grind [dJ,bkg]
def bD6:FT:=pn bDm
def bEO:=f211 bD6 bDm (j:=bvc)
def bDl(a b)(f:L a<4611686018427387904):Ct 221 [sl cb a,sl cb b] (λr=>isB r):=bFM λs0 e c=>by simp+contextual only[jZ,aNP,FA,↓uL];intro h;have:L a=L b:=X;refine bid (L a) (λ_=>True) trivial λk d _=>?_;simp+contextual only[qz 37,gJ,bh,iV,FA,Cq,↓uL];grind [dJ,bkg]
def bD5:FT:=pn bDl
def bEK:=f211 bD5 bDl (j:=bvc)
def bDo(c:bdT)(g:cJ)(p:L c.order<1000000/\∀x∈c.order,aF (L c.woke) x):Ct 218 [.a c.c, .a g.c] (λr=>∃n:Int,r=iv n):=by obtain⟨z,y⟩:=p;refine bFS A rfl λD w j k t=>?_;have:∀{i:Nat},aN J (g.c.drop i)=(g.c.drop i)[0]?:=λ{i}=>A;refine yh (λs:Int×Int×Nat=>[iv s.1,iv s.2.1,iv s.2.2]) 2 (L c.order) (λs=>s.2.2<=L c.order/\(0<=s.1->g.ea∈c.order)) (-1,-1,0) ⟨O,O⟩ ?_;rintro⟨a,b,i⟩ ⟨v,u⟩;have l:∀x,mL (bv I) x (bv I)=V (bv I):=λ_=>A;have o:∀n:Int,(∃m:Int,iv n=iv m)=True:=O;have:∀(d e:Int),i<L c.order->(0<=d->g.ea∈c.order)->tI (λs:Int×Int×Nat=>[iv s.1,iv s.2.1,iv s.2.2]) (λs=>s.2.2<=L c.order/\(0<=s.1->g.ea∈c.order)) [iv d,iv e,iv<|dq.wrap<|(i:Int)+1]/\pM 2 (L c.order) [iv d,iv e,iv<|dq.wrap<|(i:Int)+1]<pM 2 (L c.order) [iv a,iv b,iv i]:=λd e f h=>(by refine wN (enc:=λs:Int×Int×Nat=>[iv s.1,iv s.2.1,iv s.2.2]) (s:=(a,b,i)) (s':=(d,e,i+1)) (i:=i) ?_ A rfl f ⟨f,h⟩;grind [eM]);simp only[qz 45,qz 51,qz 53,qz 47,qz 25,bh0,l8,j,k,bh,o,FA,nJ,↓uL];constructor<;>intro h;grind [dJ,dB];(focus rcases B:Q (g.kind=3) with _|_<;>rcases C:Q (g.kind=4) with _|_<;>rcases q:Q (a>=0) with _|_<;>simp only[l8,q,jA,jN,j,k,FA,nJ,↓uL];(all_goals(try simp only[l,jZ,jN,FA,aRI,↓uL]));all_goals simp_all)
def bD8:FT:=pn bDo
def bER:=f211 bD8 bDo (j:=bvc)
def bDn(a b:bdT)(f:L a.order<4611686018427387904/\L b.order<4611686018427387904):Ct 217 [.a a.c, .a b.c] (λr=>isB r):=bFQ A rfl λl j d e g=>by simp+contextual only[iq,d,e,aNP,FA,Cq,↓uL];intro h;refine bid (L a.order) (λ_=>True) trivial λk i _=>?_;simp+contextual only[qz 37,gj,d,e,oe,buP,bh,iV,FA,f,↓uL];grind [dJ,bkg]
def bD7:FT:=pn bDn
def bEP:=f211 bD7 bDn (j:=bvc)
def bDQ:dO:=(276,bCP)::(220,bD6)::(221,bD5)::(218,bD8)::(217,bD7)::bAg
def bDJ:eJ bDQ:=asq (aN0 bBY)<|asq (aN0 bDm)<|asq (aN0 bDl)<|asq (aN0 bDo)<|asq (aN0 bDn)<|bAf
def bDd:=ai @bEC<|ai @bEO<|ai @bEK<|ai @bER<|ai @bEP<|@buP
def bEf:=I9 29 [(6,([5],[2,3])),(14,([6],[2,3])),(22,([7],[2,3]))]
def bFL{c0 b}:=y2 39 4 2 39 4 3 bDJ func219 bEf c0 b [.a c0, .a b]
def SzS(s:aW):Prop:=L s.ak<1000000/\L s.done<1000000/\L s.ay<1000000/\∀i,L (gd s.ak i).bk<1000000
def bBZ(s t)(q:SzS s/\SzS t):Ct 219 [.a s.c, .a t.c] (λr=>isB r):=by obtain⟨⟨a1,K,M,N⟩,P,R,S,T⟩:=q;refine bFL A rfl λs4 hl b d W=>?_;have f:∀x,mL (bv U) (bv U) x=V (bv U):=λ_=>A;have e:∀x y:aoC,∃r:Bool,bc4 .neq 2 [(0,0),(1,0),(2,1)] (.a x.c) (.a y.c)=V (bv r):=λx y=>(by obtain⟨C,D,B⟩:=x;obtain⟨F,G,E⟩:=y;rcases g:Q (C=F) with _|_<;>rcases j:Q (D=G) with _|_<;>rcases i:Q (B=E) with _|_<;>simp at g i j<;>simp[bc4,nW,aoC.c,sS,g,i,j]);rcases u:Q (s.tx≠t.tx) with _|_<;>rcases v:Q ((L s.ak:Int)≠L t.ak) with _|_<;>rcases w:Q ((L s.done:Int)≠L t.done) with _|_<;>rcases z:Q ((L s.ay:Int)≠L t.ay) with _|_<;>simp only[eT,b,d,u,v,w,z,jA,jN,f,Bool.false_or,Bool.or_false,Bool.true_or,Bool.or_true,aNP,FA,im,eE,sr,↓uL];have:L s.ak=L t.ak:=X;have:L s.done=L t.done:=X;have:L s.ay=L t.ay:=X;refine bid (L s.ak) (λ_=>True) trivial λk l _=>?_;simp only[qz 37,gj,b,d,bDd,bh,iV,FA,↓uL];constructor<;>intro h;have m:=aL h;have n:=dJ m;have o:aF (L t.ak) (k:Int):=vB;have p:L (gd s.ak k).bk<4611686018427387904:=X;refine⟨n,o,?_⟩;rcases p1:Q ((gd s.ak k).aPo≠(gd t.ak k).aPo) with _|_;simp only[gj,b,d,bDd,bd1,jA,f,n,o,p,bh,iV,FA,↓uL];grind [bkg];simp only[eQ,jN,f,sr,aPZ,FA,aRI,↓uL];refine bid (L s.done) (λ_=>True) trivial λk l _=>?_;simp only[qz 85,fD,b,d,bh,iV,FA,Cq,↓uL];refine⟨(by grind [dJ,bkg]),λh=>?_⟩;refine bid (L s.ay) (λ_=>True) trivial λk l _=>?_;obtain⟨r,e⟩:=e (gd s.ay k)<|gd t.ay k;simp only[qz 133,fD,b,d,e,bh,iV,FA,Cq,↓uL];grind [dJ,bkg]
def bCQ:FT:=pn bBZ
def bED:=f211 bCQ bBZ
def bCF:dO:=(219,bCQ)::bDQ
def bDK:eJ bCF:=asq (aN0 bBZ)<|bDJ
def bv6:=ai @bED<|@bDd
def bC2 a b c d R:=(.mk _:NR bCF at1 Tryz.f139 [.u, .u, .u] [a,b,c] d R).p
def bFP{c0:dM}{b:dM}{c:dM}{R:J3}(l0:L c0=9)(l1:L b=9)(d:L c=6)(h:H3 85 9 3 c0 85 9 4 b 48 6 5 c λf g i e=>bC2 f g i e R):Ct 139 [.a c0, .a b, .a c] R:=z3 at1 bDK func139 l0 l1 d h
structure SzC(c:bdT):Prop where
 sy:SzS c.eB
 ce:L c.cells<1000000
 fu:L c.bU<1000000
 fx:L c.fixed<1000000
 od:L c.order<1000000
 wk:∀x∈c.order,aF (L c.woke) x
def bB1(a b)(g:cJ)(u:SzC a/\SzC b):Ct 139 [.a a.c, .a b.c, .a g.c] (λr=>isB r):=by obtain⟨d,h⟩:=u;refine bFP A rfl rfl λB y e f s w=>?_;have a1:L a.order<4611686018427387904:=(aYF d.od);have l:L a.cells<4611686018427387904:=(aYF d.ce);have o:L a.bU<4611686018427387904:=(aYF d.fu);have p:L a.fixed<4611686018427387904:=(aYF d.fx);have q:L b.order<4611686018427387904:=(aYF h.od);have v:aN (V 6) g.c=V (.a g.c):=A;have a65:∀{i:J3},(∀r,(∃n:Int,r=iv n)->i r)=∀n:Int,i (iv n):=O;have arg:∀{Y:ae},dG Y (.a g.c)= .a g.c:=A;have:∀x,mL (bv I) x (bv I)=V (bv I):=λ_=>A;simp only[bC2,je,e,f,s,v,arm,arg,bv6,bd1,a65,a1,q,iV,FA,↓uL];have j:L a.order<1000000/\∀x∈a.order,aF (L a.woke) x:=⟨d.od,d.wk⟩;have k:L b.order<1000000/\∀x∈b.order,aF (L b.woke) x:=⟨h.od,h.wk⟩;have t:SzS a.eB/\SzS b.eB:=⟨d.sy,h.sy⟩;rintro(_|_);simp_all [u0,u1,jN,aNP];simp only[je,jA,arm,arg,bv6,a65,j.1,k.1,e,f,↓uL];refine⟨j.2,λn=>⟨k.2,λm=>?_⟩⟩;rcases z:Q (n=m) with _|_;simp_all [u0,u1,jN,aNP];simp only[je,jA,e,f,arm,bv6,bd1,t,↓uL];rintro(_|_);simp_all [u0,u1,jN,aNP];simp only[je,jA,e,f,arm,bv6,bd1,l,↓uL];rintro(_|_);simp_all [u0,u1,jN,aNP];simp only[je,jA,e,f,arm,bv6,bd1,o,↓uL];rintro(_|_);simp_all [u0,u1,jN,aNP];simp only[je,jA,e,f,arm,bv6,bd1,p,aNP,FA,↓uL]
def bCT:FT:=vn bB1
def bEF:=zZ bCT bB1 (j:=bvc)
def bDR:dO:=(139,bCT)::bCF
def bDL:eJ bDR:=asq (By bB1)<|bDK
def bEM:=ai @bEF<|@bv6
def bEk:=I9 10 [(3,([7],[0,4,5]))]
def bFR{d b c}:=y2 85 9 4 48 6 5 bDL func76 bEk b c [d, .a b, .a c]
structure TNd where
 cf:bdT
 pa:List ot
 deriving Inhabited
def TNd.c(x:TNd):dM:=x.cf.c++[sl ot.c x.pa]
theorem bEV{x y:TNd}:(TNd.c x=TNd.c y)=(x=y):=by obtain⟨a,p⟩:=x;obtain⟨b,q⟩:=y;have h:(TNd.c ⟨a,p⟩=TNd.c ⟨b,q⟩)=(a.c=b.c/\sl ot.c p=sl ot.c q):=(by simp[TNd.c,bdT.c,and_assoc]);rw[h];simp[lT,ijm]
def bEW{l l'}:(sl TNd.c l=sl TNd.c l')=(l=l'):=(by grind [kL,bEV])
structure SzN(x:TNd):Prop where
 c:SzC x.cf
 p:L x.pa<1000000
def bB2(l)(c)(g:cJ)(p:(∀x∈l,SzN x)/\SzC c/\L l<4611686018427387904):Ct 76 [sl TNd.c l, .a c.c, .a g.c] (λr=>isB r):=by obtain⟨o,B,w⟩:=p;refine bFR A rfl λD C f h y=>?_;have v:∀{x:TNd},aN (V 9) (TNd.c x)=V (.a x.cf.c):=λ{x}=>A;have m:∀{x:TNd},aN J ((TNd.c x).drop 9)=V (sl ot.c x.pa):=λ{x}=>A;have b:∀{Y:ae} {i:Int} {K:J3},rV (cz 10 Y (sl TNd.c l)<|iv i) K=(aF (L l) i/\K (.q<|TNd.c<|gd l i.toNat)):=aBz λ_=>A;have u:aN (V 6) g.c=V (.a g.c):=A;have arg:∀{Y:ae},dG Y (.a g.c)= .a g.c:=A;have e:∀x,mL (bv I) x (bv I)=V (bv I):=λ_=>A;simp only[eQ,↓uL];refine⟨λvs=>∃i:Int,vs=[iv i]/\ -1<=i/\i<L l,λvs=>match vs with|[.s (.int _ i)]=>(i+1).toNat|_=>0,⟨_,A,?_,?_⟩,?_⟩;grind [eM];grind [eM];rintro _ ⟨i,rfl,z,n⟩;rcases d:Q (i>=0) with _|_;simp only[qz 19,eQ,d,jN,e,iV,eE,aPZ,FA,↓uL];have j:aF (L l) i:=⟨aNQ d,n⟩;have t:gd l i.toNat∈l:=bv8;have:=o _ t;rcases k:Q ((L (gd l i.toNat).pa:Int)=L c.order) with _|_;simp only[qz 19,eS,d,k,jA,f,h,m,aC6,b,j,oe,e,iV,Cq,eE,aPZ,FA,↓uL];simp only[qz 19,je,d,k,jA,f,h,v,m,u,aC6,b,j,arm,arg,bEM,bd1,aNP,ip,FA,↓uL];grind [eM,SzN.c]
def bCU:FT:=vn bB2
def bEG:=zZ bCU bB2 (j:=by simp+contextual only[lT,ijm,bEW])
def bDS:dO:=(76,bCU)::bDR
def bDM:eJ bDS:=asq (By bB2)<|bDL
def bv7:=ai @bEG<|@bEM
def bEi:=I9 30 [(7,([6,7],[2,3])),(15,([6,8],[2,3,7])),(21,([6,10],[2,3,7,8,9])),(24,([6],[2,3,7,8,9,10]))]
def bFO{c0 b}:=y2 45 15 2 48 6 3 bDM func26 bEi c0 b [.a c0, .a b]
def wtN(c:bdT)(n:Nat):Nat:=(aH n).countP λt=>Q<|(gd c.eB.ay t).cQ=3
def enN(w:am)(c:bdT)(n:Nat):Nat:=(aH n).countP λ(t:Nat)=>aID w c (t:Int)
def bEz{w c}{t:Nat}(h:aID w c (t:Int)=U):¬(gd c.eB.ay t).cQ=3:=by grind [bjy,jm,lc]
def bD2{w c}:∀n,wtN c n+enN w c n<=n
 |0=>by simp[wtN,enN]
 |n+1=>by
  have b:=bD2 (w:=w) (c:=c) n
  have h:=bEz (w:=w) (c:=c) (t:=n)
  simp only[wtN,enN,qn,List.countP_append,List.countP_cons,List.countP_nil] at b⊢
  by_cases a:aID w c (n:Int)=U
  ·have:=h a;simp only[a,this,bqF];simp;omega
  ·simp only[a];split<;>simp<;>omega
theorem bFZ{c a}:L (fO c.eB a)<=wtN c (L c.eB.ay):=by simp only[fO,eh,bJ,wtN,<-List.countP_eq_length_filter];exact List.countP_mono_left (by grind [pe])
def bF0{w c t}:L (aOk w c t)<=wtN c (L c.eB.ay)+if wtN c (L c.eB.ay)=0 then 1 else 0:=by grind [bFZ,aOk]
def bDs{w c}:∀n,L (aQo w c n)<=enN w c n*(wtN c (L c.eB.ay)+if wtN c (L c.eB.ay)=0 then 1 else 0)
 |0=>by simp[aQo]
 |n+1=>by
  have b:=bDs (w:=w) (c:=c) n
  have:=bF0 (w:=w) (c:=c) (t:=n)
  rw[bj3,List.length_append]
  simp only[enN,qn,List.countP_append,List.countP_cons,List.countP_nil] at b⊢
  by_cases a:aID w c (n:Int)=U
  ·simp only[a,a6F,bJ,aj,Nat.add_mul,Nat.one_mul];omega
  ·simp only[a];simp;omega
def bDr{w c}(h:CfI w c)(d:L w.aQ.ay=L c.eB.ay)(f:L c.eB.ay<=4):L (aQo w c<|L w.aQ.ay)<=4:=by have a:=bDs (w:=w) (c:=c)<|L w.aQ.ay;have b:=bD2 (w:=w) (c:=c)<|L w.aQ.ay;rw[d] at a b⊢;generalize enN w c (L c.eB.ay)=e at a b;generalize wtN c (L c.eB.ay)=t at a b;generalize L (aQo w c<|L c.eB.ay)=k at a;have:(t=0\/t=1\/t=2\/t=3\/t=4):=Z;grind
theorem bCE{w c ch}:L (aN2 w c ch).order=L c.order+1:=by simp[aN2]
def bEA{w c}(h:CfI w c){t}(a:aID w c t=U):L c.order<L w.ac:=by have:=(h.step (ch:=⟨t,-1⟩) a).ol;grind [bCE]
structure NdI(w:am)(x:TNd):Prop where
 ci:CfI w x.cf
 rn:aNT w (aNY w) x.pa=V x.cf
 ln:L x.pa=L x.cf.order
def NdI.sz{w x}(h:NdI w x)(f:aC2 w)(d:bcV w=U)(o:L w.ac<=10):SzN x:=by
 obtain⟨j,hs⟩:=aQA d
 obtain⟨c,n,l,m,b⟩:=tC j
 simp only[fN,bN,awG] at b
 have:=c.ce
 have:=c.fu
 have:=b.2.1
 have:=b.2.2.1
 obtain⟨q,r,s,t,u⟩:=h.ci.sz f.wo
 have:=h.ci.ol
 have:=h.ln
 have g:=h.ci.wk
 have:=h.ci.ce
 have:=h.ci.fu
 have:=h.ci.fx
 have:=f.wo
 exact⟨⟨⟨Z,Z,Z,λi=>by
   by_cases p:i<L x.cf.eB.ak
   ·grind [dB]
   ·rw[gd,List.getD_eq_getElem?_getD,List.getElem?_eq_none Z];decide⟩,Z,Z,Z,Z,λy k=>by rw[g];exact h.ci.od y k⟩,Z⟩
def bs8(E:Nat)(ns:List TNd):Nat:=(ns.map λx=>5^(E-L x.cf.order)).sum
theorem bDx{E}:∀(l),L l<=bs8 E l
 |[]=>by simp[bs8]
 |x::l=>by
  have:=bDx (E:=E) l
  grind [bs8]
def bFr{E l l'}:bs8 E (l++l')=bs8 E l+bs8 E l':=by simp[bs8]
def bDy{E d}:∀{l},(∀x∈l,L x.cf.order=d)->bs8 E l=L l*5^(E-d)
 |[],_=>by simp[bs8]
 |x::l,h=>by
  have:=bDy (E:=E) (l:=l) λy b=>h y (by simp[b])
  grind [bs8]
def bFs{E ns new i}(l:i<L ns)(g:new≠[]->L (gd ns i).cf.order<E)(k:∀x∈new,L x.cf.order=L (gd ns i).cf.order+1)(f:L new<=4):i+1+bs8 E ((ns++new).drop<|i+1)<=i+bs8 E (ns.drop i):=by have b:ns.drop i=gd ns i::ns.drop (i+1):=(by grind [aNV,Cw]);rw[List.drop_append_of_le_length Z,bFr,bDy k,b];have c:bs8 E (gd ns i::ns.drop (i+1))=5^(E-L (gd ns i).cf.order)+bs8 E (ns.drop<|i+1):=(by simp[bs8]);rw[c];by_cases h:new=[];grind;have:=g h;obtain⟨m,j⟩:∃m,E-L (gd ns i).cf.order=m+1:=⟨E-L (gd ns i).cf.order-1,Z⟩;have d:E-(L (gd ns i).cf.order+1)=m:=Z;rw[j,d,Nat.pow_succ];have:0<5^m:=Nat.pow_pos H;have:L new*5^m<=4*5^m:=Nat.mul_le_mul_right _ f;omega
def GrQ(Y:ae)(e:TypeId)(z:Nat)(a:AV)(bA:List<|dM):Prop:=(∃o,a= .l bA U o)\/∃b m,a= .m b (L bA)/\box Y b=V ⟨e,z,U,I,bA++m⟩
section
variable{Y Y':ae}{e:TypeId}{z:Nat}{a:AV}{bA:List (dM)}
theorem GrQ.fx{ks}(f:GrQ Y e z a bA)(d:Fx Y Y' ks)(g:∀b∈aA a,b∉ks):GrQ Y' e z a bA:=by obtain h|⟨b,m,rfl,c⟩:=f;exact .inl h;exact .inr ⟨b,m,A,d.keep b _ (g b aBY) c⟩
theorem GrQ.ln(h:GrQ Y e z a bA):fS Y a=V (iv<|L bA):=by obtain⟨o,rfl⟩|⟨b,m,rfl,c⟩:=h<;>simp[fS, *]
def GrQ.keys(h:GrQ Y e z a bA):aNG a=[]\/∃q∈aA a,aNG a=[q.1]:=by obtain⟨o,rfl⟩|⟨b,m,rfl,c⟩:=h;exact .inl A;exact .inr ⟨b,aBY,A⟩
def GrQ.ar(h:GrQ Y e z a bA):dG Y a= .l bA I I:=by obtain⟨o,rfl⟩|⟨b,m,rfl,c⟩:=h;rfl;simp[dG,eR,aTH,c,nrm,gK]
theorem bEQ(g:lI Y e z a bA):GrQ Y e z a bA:=by obtain⟨c,rfl⟩|⟨b,d,f⟩:=g;exact .inl ⟨U,by rw[c]⟩;exact .inr ⟨b,[],d,by rwa [cL]⟩
theorem apN{d by' zs new t o K}(j:GrQ Y e z a bA)(q:L zs=z)(g:0<z)(c:d<L Y)(p:∀r∈bA,L r=z)(n:∀r∈new,L r=z)(i:new≠[])(m:(L bA+L new)*(by'+1)<=1099511627776)(k:∀f Y',GrQ Y' e z f (bA++new)->Fx Y Y' (aA a)->(∀b∈aA f,bK Y b/\b.1=d)->K f Y'):eV (apA e zs by' Y d a<|.l new t o) K:=by obtain⟨o',rfl⟩|h:=j;unfold apA;simp only[gL];rw[za X,zg ⟨Z,by simp[vg,c],vB⟩];rw[zg ⟨vB,btf⟩];refine k _ _ (.inr ⟨lA Y d,[],O,?_⟩) ((kH c).mono O) (by simp[aA];exact⟨qQ Y d,A⟩);grind [iy];exact qs (.inr h) q g c p n i m (by grind [bEQ])
theorem bw5{i}(g:GrQ Y e z a bA)(h:i<L bA)(j:∀r∈bA,L r=z):∃p,cz z Y a (iv i)=V p/\(∀k,sA k Y p=aN k (bA.getD i []))/\(∀c,∃d,iQ c Y p=V d/\(∀k,sA k Y d=aN k ((bA.getD i []).drop c))/\(aNG d=[]\/∃q∈aA a,aNG d=[q.1]))/\(aNG p=[]\/∃q∈aA a,aNG p=[q.1]):=by have:bA[i]?=V (bA.getD i []):=vB;have:L (bA.getD i [])=z:=vB;obtain⟨o,rfl⟩|⟨b,m,rfl,f⟩:=g;refine⟨.q<|bA.getD i [],by grind [cz],λk=>aC6,λc=>⟨.q<|(bA.getD i []).drop c,A,λk=>aC6, .inl A⟩, .inl A⟩;refine⟨.p b i 0,by simp[cz,f,h],λk=>?_,λc=>⟨.p b i c,by simp[iQ,f],λk=>?_, .inr ⟨b,aBY,A⟩⟩, .inr ⟨b,aBY,A⟩⟩;grind [aC5];grind [aC5]
end
structure StF(x:ae)(w:am)(g:cJ)(a:AV)(ns:List TNd):Prop where
 hl:L x=4096
 b1:box x (2,1)=V ⟨45,15,U,U,[w.c]⟩
 b2:box x (3,1)=V ⟨48,6,U,U,[g.c]⟩
 ga:GrQ x 165 10 a (ns.map TNd.c)
 pa:∀q∈aA a,q.1=109
 nd:∀n∈ns,NdI w n
theorem StF.fx{x y w g a ns Lw}(S:StF x w g a ns)(F:Fx x y Lw)(b:∀q∈Lw,q.1≠2/\q.1≠3/\q.1≠109):StF y w g a ns:=⟨F.len.trans S.hl,(by grind [Fx.keep,StF.b1]),(by grind [Fx.keep,StF.b2]),S.ga.fx F λq c h=>(b q h).2.2<|S.pa q c,S.pa,S.nd⟩
def bwr{l:List TNd}:∀r∈l.map TNd.c,L r=10:=λr b=>by obtain⟨y,_,rfl⟩:=List.mem_map.1 b;rfl
def bxM{l:List TNd}{i}(b:i<L l):(l.map TNd.c).getD i []=(gd l i).c:=brU
def fdM(M:Nat)(vs:dM)(y:ae):Nat:=match gt vs 1 with| .s (.int _ n)=>(M-n).toNat|_=>0
def bB0(w)(g)(hp:aC2 w/\bcV w=U/\qC w g=U/\L g.cW<1000/\L w.ac<=10):Ct 26 [.a w.c, .a g.c] (λr=>∃(p:List ot) (b:Bool),r= .t [sl ot.c p,bv b]/\(b=U->biu w g p=U)/\L p<=10):=by
 obtain⟨C,W,hg,aM,hE⟩:=hp
 generalize hQ:(λ(r:AV)=>∃(p:List ot) (b:Bool),r= .t [sl ot.c p,bv b]/\(b=U->biu w g p=U)/\L p<=10)=Qq
 refine aDq (bFO A rfl λs4 R P b2 h0=>?_)
 have r6:aN (V 6) g.c=V (.a g.c):=A
 have arg:∀{Y:ae},dG Y (.a g.c)= .a g.c:=A
 have a2:L g.cW<4611686018427387904:=Z
 have az:∀{y:ae},aE (λr=>Qq<|bqE r) y [.l [] U U,bv I]:=λ{y}=>aOH (vs':=[sl ot.c [],bv I]) A rfl (by rw[<-hQ];exact⟨[],I,A,O,O⟩)
 have c0:=bhV W
 have bB:bM bCN [(0,9),(9,1)] [(0, .a (aNY w).c)]=V (.a<|(aNY w).c++[.l [] U U]):=A
 have bC:aX bCK 1 s4 [(0, .a<|(aNY w).c++[.l [] U U])]=V (.l [TNd.c ⟨aNY w,[]⟩] U U,s4):=aQm (tgt:=TNd.c ⟨aNY w,[]⟩) A rfl H A H
 simp only[qy 6,fQ,P,b2,r15,r6,arm,arg,bv7,C.wo,C.wo.wo,a2,hg,C,W,bB,bC,eE,fL,↓uL]
 refine⟨.inl A,?_⟩
 have hM:5^L w.ac<=9765625:=Nat.le_trans (Nat.pow_le_pow_right H hE) H
 generalize hI:(λ(vs:dM) (y:ae)=>∃(a:AV) (ns:List TNd) (i:Nat),vs=[a,iv i]/\StF y w g a ns/\i<=L ns/\i+bs8 (L w.ac) (ns.drop i)<=5^L w.ac)=Iy
 obtain⟨M,cM⟩:∃M:Nat,9765625<M:=⟨9765626,H⟩
 refine⟨Iy,fdM M,?_,?_⟩
 ·rw[<-hI]
  exact⟨_,[⟨aNY w,[]⟩],0,A,⟨R,P,b2, .inl ⟨U,A⟩,aBY,by intro n hn;simp at hn;subst hn;exact⟨c0,A,A⟩⟩,O,by simp[bs8,aNY]⟩
 intro vs y hv
 rw[<-hI] at hv
 obtain⟨a,ns,i,rfl,S,hi,hp⟩:=hv
 have cy:L ns<=9765625:=by
  grind [bDx,List.length_drop]
 rcases q1:Q ((i:Int)<L ns) with _|_
 ·simp only[qz 43,jZ,S.ga.ln,bJ,q1,eE,aPZ,aQl,↓uL]
  exact az
 have bU:∀x,mL (bv U) (bv U) x=V (bv U):=λ_=>A
 have bS:∀x,mL (bv I) x (bv I)=V (bv I):=λ_=>A
 have af:i<L ns:=vB
 have rn:∀{x:TNd},aN (V 9) ((TNd.c x).drop 0)=V (.a x.cf.c):=λ{x}=>A
 have b6:∀{x:TNd},aN (V 9) (TNd.c x)=V (.a x.cf.c):=λ{x}=>A
 have rp:∀{x:TNd},aN J ((TNd.c x).drop 9)=V (sl ot.c x.pa):=λ{x}=>A
 obtain⟨p,e1,e2,e3,e4⟩:=bw5 S.ga (i:=i) X bwr
 obtain⟨p0,f1,f2,_⟩:=e3 0
 obtain⟨p9,f3,f4,_⟩:=e3 9
 rw[bxM af] at f2 f4
 have N:=S.nd _<|dB af
 have hr:aN (V 9) (aOz 0 (gd ns i).c)=V (.a (gd ns i).cf.c):=rn
 simp only[qz 43,eT,S.ga.ln,bJ,q1,S.b1,S.b2,r15,r6,e1,f1,f2,f3,f4,rn,b6,rp,ar,arm,arg,bv7,C,N.ci,hg,aM,aNR,sr,aPZ,aQl,Cq,aRI,↓uL]
 refine⟨λhh=>?_,λhh=>?_⟩
 ·exact aOH (vs':=[sl ot.c (gd ns i).pa,bv U]) A rfl (by rw[<-hQ];exact⟨_,U,A,(by grind [bqn,NdI.rn]),by have:=N.ln;have:=N.ci.ol;omega⟩)
 generalize hd:(gd ns i).cf=d at*
 have B:CfI w d:=by grind [NdI.ci]
 have bG:L w.aQ.ay=L d.eB.ay:=by
  have h1:=B.ft
  grind [lh]
 have bw:=B.sy.th
 refine yW (L w.aQ.ay) (λt b z=>∃new,StF z w g b (ns++new)/\L new<=L (aQo w d t)/\(∀x∈new,L x.cf.order=L d.order+1)/\(new≠[]->L d.order<L w.ac)) (s0:=a) ⟨[],by simpa using S,O,O,O⟩ ?_
 rintro t b z ht ⟨new,Sz,n1,n2,n3⟩
 obtain⟨p',bg,cJ,bj,cK⟩:=bw5 Sz.ga (i:=i) NA bwr
 obtain⟨cR,bk,aF,_⟩:=bj 0
 have bH:gd (ns++new) i=gd ns i:=brU
 rw[bxM NA,bH] at aF
 have aP:∀{x:TNd},x.cf=d->aN (V 9) (TNd.c x)=V (.a d.c):=vB
 have b0:∀{Y:ae} {t:Int},fS Y (sl ci<|aOk w d t)=V (iv<|L<|aOk w d t):=cT
 simp only[qz 91,eT,Sz.b1,r15,bg,bk,aF,ip,aP hd,ar,arm,bv7,C,B,aNR,Cq,dc,↓uL]
 refine⟨λh2=>⟨.inl A,?_⟩,λh2=>?_⟩
 rotate_left
 ·obtain rfl:t=L w.aQ.ay:=X
  have hk:=bDr B bG bw
  have cQ:=bFs (E:=L w.ac) (new:=new) af vB vB Z
  rw[eM Z Z]
  refine⟨?_,?_⟩
  ·rw[<-hI]
   exact⟨b,ns++new,i+1,A,Sz,NA,Z⟩
  ·show((M:Int)-((i:Int)+1)).toNat<((M:Int)-(i:Int)).toNat
   omega
 have bW:=aL h2
 refine yW (L<|aOk w d t) (λj b' x=>∃k,StF x w g b' (ns++k)/\L k<=L (aQo w d t)+(if aID w d (t:Int)=U then j else 0)/\(∀x∈k,L x.cf.order=L d.order+1)/\(k≠[]->L d.order<L w.ac)) (s0:=b) X ?_
 rintro j b' x hj ⟨k,Sx,m1,m2,m3⟩
 simp only[qz 127,eQ,b0,↓uL]
 refine⟨λh3=>?_,λh3=>?_⟩
 rotate_left
 ·obtain rfl:j=L (aOk w d t):=X
  refine yX bW ⟨k,Sx,?_,m2,m3⟩
  grind [bj3]
 have aO:=aL h3
 refine bsf (λf=>∀T ah o,StF ah w g T (ns++o)->L o<=L (aQo w d t)+(if aID w d (t:Int)=U then j+1 else 0)->(∀x∈o,L x.cf.order=L d.order+1)->(o≠[]->L d.order<L w.ac)->f [T] ah) ?_ ?_
 ·intro T ah o S2 o1 o2 o3
  simp only[qz 147,eQ,↓uL]
  exact dR (mk:=λ(a:AV) i=>[a,iv i]) (p:=1) (s:=b') (s':=T) (λ_ _=>A) aO (by grind [bkf]) X
 intro f hJ
 simp only[qz 149,qy 8,eQ,ix,rk,qM,bh,↓uL]
 refine⟨dJ aO,?_⟩
 have aG:bM bjw bqW [(0,iv t),(1,iv<|gd (aOk w d t) j)]=V (.a<|ot.c ⟨t,gd (aOk w d t) j⟩):=A
 generalize bD:(⟨t,gd (aOk w d t) j⟩:ot)=ch at aG
 have bE:ch.aq=t:=by rw[<-bD]
 have bc:∀{Y:ae},dG Y (.a ch.c)= .a ch.c:=A
 have aT:aN (V 2) ch.c=V (.a ch.c):=A
 simp only[aG,aY,↓uL]
 refine zm Sx.hl λcS x1 F1 N1 c1=>?_
 refine stW c1 A rfl λx2 F2 c2=>?_
 have a4:Fx x x2 []:=(F1.trans F2).mono aUw
 have S2:=Sx.fx a4 O
 obtain⟨p2,g1,g2,g3,g4⟩:=bw5 S2.ga (i:=i) NA bwr
 obtain⟨p3,g5,g6,g9⟩:=g3 0
 obtain⟨p4,g7,g8,bo⟩:=g3 9
 have aK:gd (ns++k) i=gd ns i:=brU
 rw[bxM NA,aK] at g6 g8
 simp only[qz 10,qy 12,eT,S2.b1,c2,g1,g5,g6,aT,r15,oe,ip,aP hd,ar,arm,bc,bv7,C,B,aNR,Cq,↓uL]
 refine⟨.inl (by simp[nA,aNN,iR,am.c,bdT.c,ot.c,aOw.c,aTo.c,aW.c,sl]),?_⟩
 simp only[oJ,pG,aY,bE,↓uL]
 refine anu S2.hl λcU x3 F3 N3 c3=>?_
 have G:=S2.fx F3 O
 have be:=F3.kq c2
 have u:∀{v:AV},(aNG v=[]\/∃q∈aA b',aNG v=[q.1])->aNG v=[]\/aNG v=[109]:=λh=>by
  obtain h|⟨q,hq,h⟩:=h
  ·exact .inl h
  grind [StF.pa]
 have F:=u Sx.ga.keys
 have k2:=u g4
 have k3:=u g9
 have k4:=u bo
 simp only[qz 14,↓uL]
 refine dT (by obtain F|F:=F<;>obtain k2|k2:=k2<;>obtain k3|k3:=k3<;>simp[eL,lb,Qh,Cz,aTn,a6H,bc7,bc6,bnb,bo5,bo3,bo6,bxl,bjD,au,gt1,F,k2,k3]) ?_
 have bn:dG x3 b'=sl TNd.c (ns++k):=G.ga.ar
 have b5:aN (V 6) g.c=V (.a g.c):=A
 rcases aJ:aID w d (t:Int) with _|_
 ·simp only[eQ,jN,bU,↓uL]
  grind
 simp only[eT,jA,c3,aJ,aRa,G.b1,G.b2,b5,r15,oe,bn,ar,arm,arg,bv7,bd1,ip,↓uL]
 have aR:CfI w (aN2 w d ch):=(by grind [CfI.step])
 have cN:aNT w (aNY w) (gd ns i).pa=V d:=by grind [NdI.rn]
 have bT:L (gd ns i).pa=L d.order:=by grind [NdI.ln]
 have an:=bEA B aJ
 have bL:NdI w ⟨aN2 w d ch,(gd ns i).pa++[ch]⟩:=⟨aR,(by grind [bpG]),by simp[bCE,bT]⟩
 have bV:=λx hx=>(G.nd x hx).sz C W hE
 have bO:L (ns++k)<4611686018427387904:=by
  grind [bkf,bj4]
 generalize hX:eV (aX bjw 0 x3 []) _=Xq
 have hx:Xq:=by
  rw[<-hX]
  have bx:aX bjw 0 x3 []=V (.l [] U U,x3):=A
  obtain⟨p5,i1,i2,i3,i4⟩:=bw5 G.ga (i:=i) NA bwr
  obtain⟨p6,i5,i6,i7⟩:=i3 9
  rw[bxM NA,aK] at i6
  have k5:=u i4
  have k6:=u i7
  simp only[bx,bQ,qz 16,eQ,i1,i5,i6,rp,↓uL]
  refine gD lI.nil A H (by rw[G.hl];decide) O bnn NA λa5 x5 w5 F5 I5 J5=>?_
  have S5:=G.fx F5 aBY
  have bf:=F5.keep _ _ aBY be
  have ag:∀q∈aA a5,q.1=103:=bno
  have a0:aX bjw 1 x5 [(0, .a ch.c)]=V (.l ([ch].map ot.c) U U,x5):=ua A rfl rfl H A H
  simp only[qz 18,qy 20,eS,bf,aT,a0,↓uL]
  refine gD w5 A H (by rw[S5.hl];decide) (by simpa using bnn) bnn NA λa6 x6 w6 F6 I6 J6=>?_
  have S6:=S5.fx F6 (λq hq=>by have:=ag q hq;omega)
  have w7:=w6
  rw[List.nil_append,<-dg] at w7
  obtain⟨e6,_⟩|⟨D,rfl,h6⟩:=w7
  ·simp at e6
  have cA:D.1=103\/D.1=106:=bno
  have bI:J7 x6 113 2 (.m D<|L<|((gd ns i).pa++[ch]).map ot.c) (((gd ns i).pa++[ch]).map ot.c):= .inr ⟨D,[],A,by rwa [cL]⟩
  have bz:bM bCN [(0,9),(9,1)] [(0, .a (aN2 w d ch).c),(1, .m D<|L<|((gd ns i).pa++[ch]).map ot.c)]=V (.a<|(aN2 w d ch).c++[.m D<|L<|((gd ns i).pa++[ch]).map ot.c]):=A
  have bA:aX bCK 1 x6 [(0, .a<|(aN2 w d ch).c++[.m D<|L<|((gd ns i).pa++[ch]).map ot.c])]=V (.l ([(⟨aN2 w d ch,(gd ns i).pa++[ch]⟩:TNd)].map TNd.c) U U,kills x6 [D]):=
   aQm (tgt:=TNd.c ⟨aN2 w d ch,(gd ns i).pa++[ch]⟩) (by
    rw[dg]
    simp only[List.map_cons,List.map_nil,aOb bI]
    rfl) A H (by simp[TNd.c,bdT.c,eN,sl]) H
  simp only[qz 22,qy 24,eQ,bz,bA,bQ,↓uL]
  have K:=S6.fx (aOp [D] x6) NA
  have cO:L ns+L k+1<=9765700:=by
   grind [bj4,bkf]
  refine apN K.ga A H (by rw[K.hl];decide) bwr bwr O NA λa8 x8 g8 F8 N8=>?_
  have S8:StF x8 w g a8 (ns++(k++[⟨aN2 w d ch,(gd ns i).pa++[ch]⟩])):=by
   refine⟨F8.len.trans K.hl,F8.keep _ _ (λh=>by have:=K.pa _ h;simp at this) K.b1,F8.keep _ _ (λh=>by have:=K.pa _ h;simp at this) K.b2,?_,λq hq=>(N8 q hq).2,?_⟩
   ·grind
   grind [StF.nd]
  have ka:aNG a5=[]\/aNG a5=[103]:=by
   obtain⟨_,rfl⟩|⟨b,rfl,_⟩:=w5
   ·exact .inl A
   ·have:=ag b aBY
    exact .inr (by rw[<-this];rfl)
  simp only[qz 26,↓uL]
  refine dT (by obtain F|F:=F<;>obtain k5|k5:=k5<;>obtain k6|k6:=k6<;>obtain ka|ka:=ka<;>simp[eL,lb,Qh,Cz,aTn,a6H,bc7,bc6,bnb,bo5,bo3,bo6,bxl,bjD,bna,au,gt1,F,k5,k6,ka]) ?_
  refine hJ a8 x8 _ S8 ?_ ?_ λ_=>an
  ·grind
  grind [bCE]
 refine⟨⟨bV,(bL.sz C W hE).c,bO⟩,λb=>?_⟩
 obtain _|_:=b
 ·simp only[eQ,jN,bS,eE,aPZ,aQl,Cq,↓uL]
  exact hx
 ·simp only[eQ,jA,ar,arm,arg,bv7,C,aR,hg,aM,aNR,Cq,↓uL]
  grind
def bCS:FT:=pn bB0
def bEE:=f211 bCS bB0 (j:=bsg)
def bCG:dO:=(26,bCS)::bDS
def bDN:eJ bCG:=asq (aN0 bB0)<|bDM
def bw0:=ai @bEE<|@bv7
def bC6:=I9 20 [(5,([11,25],[2,3,6,9,10,23,24])),(8,([11],[2,3,6,9,10,23,24,25]))]
def bBN a a1 b c R:=(.mk _:NR bCG bC6 Tryz.f7 [.u,a1,b] [a] c R).p
def bFJ{c0:dM}{a1 b:AV}{R:J3}(l0:L c0=15)(h:H1 45 15 3 c0 λia c=>bBN ia a1 b c R):Ct 7 [.a c0,a1,b] R:=z1 bC6 bDN func7 l0 h
structure StV(x:ae)(w:am)(c:bdT)(v3 v9:Nat)(z:dM):Prop where
 hl:L x=4096
 b1:box x (3,1)=V ⟨45,15,U,U,[w.c]⟩
 b3:box x (6,v3)=V ⟨48,6,U,U,[z]⟩
 b9:box x (10,v9)=V ⟨85,9,U,U,[c.c]⟩
theorem StV.fx{x y w c a b z Lw}(S:StV x w c a b z)(F:Fx x y Lw)(d:∀q∈Lw,q.1≠3/\q.1≠6/\q.1≠10):StV y w c a b z:=⟨F.len.trans S.hl,(by grind [Fx.keep,StV.b1]),(by grind [Fx.keep,StV.b3]),by grind [Fx.keep,StV.b9]⟩
def bBW(w)(l)(n)(hp:aC2 w/\bcV w=U/\L l<100000/\L w.ac<=10/\(0<=n/\n<256)):Ct 7 [.a w.c,sl ci l,u8v n] (λr=>∃(g:cJ) (p:List ot) (b:Bool),r= .t [.a g.c,sl ot.c p,bv b]/\(b=U->qC w g=U/\L g.cW<=4/\biu w g p=U/\L p<100000)):=by obtain⟨P,N,aP,hE,hn⟩:=hp;generalize hQ:(λ(r:AV)=>∃(g:cJ) (p:List ot) (b:Bool),r= .t [.a g.c,sl ot.c p,bv b]/\(b=U->qC w g=U/\L g.cW<=4/\biu w g p=U/\L p<100000))=Qq;refine aDq (bFJ A λs2 G D h0=>?_);show bBN (.p (3,1) 0 0) (sl ci l) (u8v n) s2 λr=>Qq<|bqE r;simp only[bBN,↓uL];refine zm G λC s3 F3 N3 R=>?_;have d1:=F3.kq D;have aa:=F3.len.trans G;simp only[qz 4,qy 6,fQ,d1,r15,bw0,P,N,aP,ip,↓uL];rintro _ ⟨p,c,rfl,hr,bf⟩;refine⟨.inl A,?_⟩;have hc:=(bhV N).run hr;simp only[oJ,pG,aY,↓uL];refine anu aa λv9 s9 F9 N9 b9=>?_;have S9:StV s9 w c C v9 bu2:=⟨F9.len.trans aa,F9.kq d1,F9.kq R,b9⟩;simp only[qz 8,fQ,S9.b1,r15,bw0,P.wo.wo,ip,↓uL];rintro _ ⟨o,rfl,aO,be⟩;refine⟨.inl A,?_⟩;have ab:∀{Y:ae},fS Y (sl cJ.c o)=V (iv<|L o):=cT;have j:∀{g:cJ},aN (V 6) g.c=V (.a g.c):=A;have arg:∀{Y:ae} {g:cJ},dG Y (.a g.c)= .a g.c:=A;simp only[ab,aY,↓uL];refine yW (L o) (λk a x=>∃hs:List cJ,StV x w c C v9 bu2/\J7 x 48 6 a (hs.map cJ.c)/\(∀q∈aA a,q.1=36)/\L hs<=k/\∀g∈hs,qC w g=U/\L g.cW<=4/\aOM w c g=U) (s0:= .l [] U U) ⟨[],S9, .inl ⟨A,A⟩,aBY,O,O⟩ ?_;rintro k a x hk ⟨hs,S,g,pa,bg,ak⟩;have an:∀{Y:ae} {i:Int} {K:J3},rV (cz 6 Y (sl cJ.c o)<|iv i) K=(aF (L o) i/\K (.q<|cJ.c<|gd o i.toNat)):=aBz λ_=>A;simp only[qz 31,qy 18,qy 20,eQ,g.ln,bJ,ab,↓uL];constructor<;>intro h;have M:=aL h;refine bsf (λd=>∀(u:AV) (B:ae) (e:List cJ),StV B w c C v9 bu2->J7 B 48 6 u (e.map cJ.c)->(∀q∈aA u,q.1=36)->L e<=k+1->(∀g∈e,qC w g=U/\L g.cW<=4/\aOM w c g=U)->d [u] B) ?_ ?_;intro u B e o1 o2 o3 o4 o5;simp only[qz 51,eQ,↓uL];exact yX M X;intro d hJ;simp only[qz 53,qy 10,eQ,an,aC6,j,bh,↓uL];refine⟨dJ M,?_⟩;have hg:=aO _<|dB M;generalize gd o k=T at hg;refine anu S.hl λbi x2 F2 N2 c2=>?_;have S2:=S.fx F2 O;have g2:=g.fx F2 O;have am:L T.cW<1000:=Z;simp only[qz 12,qy 14,qy 16,hH,S2.b1,S2.b9,c2,r15,j,oe,arm,arg,bw0,P,hc,hg,am,ip,↓uL];refine⟨λhh=>?_,X⟩;have aC:aX bwN 1 x2 [(0, .a T.c)]=V (.l ([T].map cJ.c) U U,x2):=ua A rfl rfl H A H;simp only[aC,bQ];refine apQ g2 S2.hl bnm bnm O NA λa' x4 g4 F4 N4=>?_;(try simp only[qy 18,u0,↓uL]);refine hJ a' x4 (hs++[T]) (by grind [StV.fx]) bvb X NA λy hy=>?_;grind;have ez:dq.wrap n=n:=brE;have W:∀{y:ae} (g:cJ) (f:List ot) (b:Bool),(b=U->qC w g=U/\L g.cW<=4/\biu w g f=U/\L f<100000)->box y (6,C)=V ⟨48,6,U,U,[bu2]⟩->sV (aK 6 y (.p (6,C) 0 0)<|.a g.c) λs=>rV (((box s (6,C)).bind λx=>Option.map (λx=>x) x.bA[0]?).bind<|aN<|V 6) λv=>aE (λr=>Qq<|bqE r) s [v,sl ot.c f,bv b]:=λ{y} g f b h hb=>(stW hb A rfl λz F bz=>by simp only[bz,aww,aBF,Option.map_some,awx,j,aY,↓uL];refine aOH (vs':=[.a g.c,sl ot.c f,bv b]) A rfl ?_;rw[<-hQ];exact⟨g,f,b,A,h⟩);constructor<;>intro h2;have:0<L hs:=X;have:=Int.tmod_nonneg (L hs:Int) hn.1;have:=Int.tmod_lt_of_pos n (show(0:Int)<L hs by omega);obtain⟨m,hm⟩:∃m:Nat,n.tmod (L hs:Int)=m:=⟨(n.tmod (L hs:Int)).toNat,Z⟩;have aQ:m<L hs:=Z;have gq:GrQ x 48 6 a (hs.map cJ.c):=(by obtain⟨e1,rfl⟩|h:=g;exact vB;exact .inr h);obtain⟨p1,e1,e2,e3,e4⟩:=bw5 gq (i:=m) X bnm;have aJ:(hs.map cJ.c).getD m []=(gd hs m).c:=brU;rw[aJ] at e2;have:=ak _<|dB aQ;simp only[aS6,ez,jr,hm,e1,e2,j,aY,↓uL];refine⟨Z,W _ p U (by grind [bqn]) S.b3⟩;simp only[hH,S.b1,r15,bw0,P.wo.wo,hn,ip,↓uL];rintro _ ⟨g1,av,rfl,aG⟩;refine⟨.inl A,?_⟩;simp only[oJ,pG,aY,↓uL];refine anu S.hl λbj x5 F5 N5 E=>?_;have S5:=S.fx F5 O;obtain _|_:=av;simp only[qz 22,qy 26,eS,E,j,ip,↓uL];refine⟨λ_=>?_,λh=>by simp at h⟩;refine stW S5.b3 A rfl λz F bz=>?_;simp only[qz 24,eS,bz,j,ip,↓uL];refine aOH (vs':=[.a g1.c,sl ot.c [],bv I]) A rfl ?_;rw[<-hQ];exact⟨g1,[],I,A,O⟩;obtain⟨aM,bd⟩:=aG A;have al:L g1.cW<1000:=Z;simp only[qz 22,qy 26,hH,E,S5.b1,r15,j,arg,bw0,P,N,aM,al,hE,ip,↓uL];refine⟨λh=>by simp at h,λ_=>?_⟩;rintro _ ⟨f,b2,rfl,bc,a7⟩;refine⟨.inl A,?_⟩;simp only[oJ,pG,aY,↓uL];(try simp only[eQ,E,j,ip,↓uL]);refine W g1 f b2 X S5.b3
def bCO:FT:=vn bBW
def bEB:=zZ bCO bBW (j:=by simp+contextual only[lT,bry])
def bDT:dO:=(7,bCO)::bCG
def byi:eJ bDT:=asq (By bBW)<|bDN
def bEN:=ai @bEB<|@bw0
def bFU{a a1}:=y0 byi func29 avm [a,a1]
def bEo:=I9 13 [(2,([7],[])),(4,([7,12],[2,3,10,11])),(7,([7],[2,3,10,11,12]))]
def bFV{c0 a1 b}:=y1 45 15 3 byi func31 bEo c0 [.a c0,a1,b]
def bEp:=I9 13 [(2,([9],[])),(4,([9,16],[2,3,4,14,15])),(7,([9],[2,3,4,14,15,16]))]
def bFW{c0 a1 b c}:=y1 45 15 4 byi func32 bEp c0 [.a c0,a1,b,c]
def bB3(l)(n)(c:L l<4611686018427387904):Ct 29 [sl ci l,iv n] (λr=>∃i:Int,r=iv i):=bFU λs0 _ a=>by simp only[cT,aY,↓uL];refine bid (L l) (λ_=>True) trivial λk b _=>?_;simp+contextual only[qz 19,gJ,bh,au,↓uL];grind [dJ,bkg]
def bCV:FT:=pn bB3
def bEH:=f211 bCV bB3
theorem tP{l:eu}{a b i}(c:i<L l)(d:L l<4611686018427387904):tI (λs:Int×Nat=>[iv s.1,iv s.2]) (λ_=>True) [iv b,iv<|dq.wrap<|(i:Int)+1]/\pM 1 (L l) [iv b,iv<|dq.wrap<|(i:Int)+1]<pM 1 (L l) [iv a,iv i]:=wN (enc:=λs:Int×Nat=>[iv s.1,iv s.2]) (s:=(a,i)) (s':=(b,i+1)) (i:=i) (by grind [fX]) A rfl c trivial
def bDp(w:am)(l)(r)(e:L l<4611686018427387904/\(∀x∈l,aF (L w.ac) x)/\aF (L w.ac) r):Ct 31 [.a w.c,sl ci l,iv r] (λr=>∃i:Int,r=iv i):=by obtain⟨f,g,k⟩:=e;refine bFV A λm j d h=>?_;have b:∀{Y:ae},fS Y (sl ci l)=V (iv<|L l):=cT;simp only[bh0,qz 17,eQ,b,↓uL];refine yh (λs:Int×Nat=>[iv s.1,iv s.2]) 1 (L l) (λ_=>True) (-1,0) trivial ?_;rintro⟨a,i⟩ _;simp+contextual only[qz 25,qz 47,qz 45,qz 15,bh0,au,gt1,gj,d,bEN,bh,↓uL];grind [dJ,dB,tP]
def bD9:FT:=vn bDp
def bES:=zZ bD9 bDp
def bDq(w:am)(l)(n u)(e:L l<4611686018427387904/\∀x∈l,aF (L w.ac) x):Ct 32 [.a w.c,sl ci l,iv n,iv u] (λr=>∃i:Int,r=iv i):=by obtain⟨f,g⟩:=e;refine bFW A λk j d h=>?_;have b:∀{Y:ae},fS Y (sl ci l)=V (iv<|L l):=cT;simp only[bh0,qz 17,eQ,b,↓uL];refine yh (λs:Int×Nat=>[iv s.1,iv s.2]) 1 (L l) (λ_=>True) (dq.wrap<|-1-u,0) trivial ?_;rintro⟨a,i⟩ _;simp+contextual only[qz 25,qz 47,qz 45,qz 15,bh0,au,gt1,fD,d,bh,↓uL];grind [dJ,dB,tP]
def bEa:FT:=ER bDq
def bET:=axQ bEa bDq
def bDU:dO:=(29,bCV)::(31,bD9)::(32,bEa)::bDT
def bDO:eJ bDU:=asq (aN0 bB3)<|asq (By bDp)<|asq (aM6 bDq)<|byi
def bxH:=ai @bEH<|ai @bES<|ai @bET<|@bEN
def bEq:=I9 21 [(5,([20],[2,5,6,18,19])),(14,([41],[2,5,6,9,10,18,19,20,40])),(17,([],[2,5,6,9,10,18,19,20,40,41]))]
def bFX{c0 a1}:=yB1 45 15 2 bDO func30 bEq c0 [.a c0,a1]
def bBQ{Y x y q}(F:Fx Y x [])(a:Fx x y [q])(N:bK Y q):Fx Y y []:=(F.trans a).mono aUw
def bFx{w l c cF}(h:aNT w c l=V cF){k}(b:k<L l):∃a,aNT w c (l.take k)=V a/\aID w a (gd l k).aq=U:=by have e:l=l.take k++gd l k::l.drop (k+1):=(by rw[aNV b,<-Cw b,List.take_append_drop]);rw[e,bnp] at h;cases d:aNT w c (l.take k) with|none=>grind|some a=>grind [aNT]
def bFt{w l c k}(b:k<L l)(h:aNT w (aNY w) (l.take k)=V c)(a:aID w c (gd l k).aq=U):aNT w (aNY w) (l.take<|k+1)=V (aN2 w c<|gd l k):=by grind [List.take_succ_eq_append_getElem,aNV,bnp,aNT]
structure StO(Y x:ae)(w:am)(v2 v6:Nat)(bo:Id)(c:bdT)(B:Nat):Prop where
 fx:Fx Y x []
 hl:L x=4096
 b2:box x (2,v2)=V ⟨45,15,U,U,[w.c]⟩
 b6:box x (6,v6)=V ⟨85,9,U,U,[c.c]⟩
 ow:∃(out:Nat->eu) (f:Nat->AV),(∀i,L (out i)<=B/\∀u∈out i,0<=u/\u<1000000)/\lJ x bo 25 3 69 (L w.ac) (λi=>(out i).map ci) f/\∀i,i<L w.ac->∀q∈aA (f i),bK Y q
def StO.up{Y x y w b d a c B}(S:StO Y x w b d a c B)(F:Fx x y []):StO Y y w b d a c B:=by obtain⟨out,f,e,g,N⟩:=S.ow;exact⟨S.fx.trans F,F.len.trans S.hl,F.kq S.b2,F.kq S.b6,out,f,e,g.keep F O O,N⟩
def bC3(Y:ae)(w:am)(r:AV)(a:ae):Prop:=∃(b:Id) (out:Nat->eu) (f:Nat->AV),r= .m b (L w.ac)/\(∀i,L (out i)<=4000000/\∀u∈out i,0<=u/\u<1000000)/\lJ a b 25 3 69 (L w.ac) (λi=>(out i).map ci) f/\Fx Y a []/\bK Y b/\b.1=15
def bFc{Y w l cF}(o:L Y=4096)(M:aC2 w)(F:bcV w=U)(bg:L l<1000000)(hr:aNT w (aNY w) l=V cF):∃r Y1,bC3 Y w r Y1/\cZ aS GG 30 [.a w.c,sl ot.c l] Y r Y1:=bFX o A λs2 P K2 bj nf2 u=>by have F2:=K2.fx [];have aM:=F2.len.trans o;have:=M.wo.wo.ev;have:L w.init.eB.ay<=4:=(bhV F).sy.th;simp only[eT,u,↓uL];refine AP H H Z Z λB s3 aa No F3 b3=>?_;have c2:=F3.kq u;have ad:=F3.len.trans aM;simp only[qz 4,qy 6,fQ,c2,r15,bxH,↓uL];refine⟨⟨M,F⟩, .inl A,?_⟩;refine anu ad λG s4 K N4 v=>?_;have d2:=K.kq c2;have d3:=K.kq b3;have aO:=K.len.trans ad;have G3:=F2.trans F3;have no:=No.old F2;have n6:=N4.old G3;have:B≠(6,G):=X;have aP:∀{Y:ae},fS Y (sl ot.c l)=V (iv<|L l):=cT;have O4:lJ s4 B 25 3 69 (L w.ac) (λi=>((λ_=>[]:Nat->eu) i).map ci) (λ_=> .l [] U U):=(by refine⟨?_,λi _=>lI.nil,bno,bno⟩;rw[d3,Q0];rfl);simp only[qz 8,aP,aY,↓uL];refine yV (L l) (λk _ x=>∃c,aNT w (aNY w) (l.take k)=V c/\StO Y x w P G B c (4*k)) ⟨_,A,G3.trans K,aO,d2,v,_,_,λi=>O,O4,bno⟩ ?_;rintro k _ x hk ⟨c,hc,S⟩;simp only[qz 31,qy 10,au,eQ,↓uL];constructor<;>intro hb;have D:=aL hb;obtain⟨ck,ab,C⟩:=bFx hr D;obtain rfl:c=ck:=vB;have b:=(bhV F).run ab;have hs:=bFt D ab C;generalize aK:gd l k=ch at C hs;obtain⟨m,h1,h2,h3,h4,h5,h6⟩:=bjy C;have aq:L (aN2 w c ch).eB.ay=L c.eB.ay:=(bob (w:=w.aQ) (s:=c.eB)).2.2;have r2:∀{c:ot},aN (V 2) c.c=V (.a c.c):=λ{c}=>A;simp only[gg,boW,r2,bh,aK,↓uL];refine⟨dJ D,anu S.hl λv8 y F8 N8 b8=>?_⟩;have Sy:=S.up F8;have r4:∀{c:bdT},aN (V 4) c.c=V (.a c.eB.c):=λ{c}=>A;simp only[qz 12,qy 14,je,Sy.b2,Sy.b6,b8,r15,r4,oy,r2,arm,bxH,↓uL];refine⟨⟨M.wo,b⟩,?_⟩;rw[h1];refine anu Sy.hl λah z R be aC=>?_;have Sz:=Sy.up R;have f8:=R.kq b8;simp only[qz 16,je,Sz.b2,Sz.b6,f8,r15,oy,r2,arm,bxH,↓uL];refine⟨⟨M,b⟩, .inl A,?_⟩;simp only[oJ,pG,aY,C,aRa,↓uL];refine stW Sz.b6 A rfl λz2 t aD=>?_;have S0:StO Y z2 w P G B (aN2 w c ch) (4*k+0):=(by obtain⟨out,f,E,g,N⟩:=Sz.ow;exact⟨bBQ Sz.fx t n6,t.len.trans Sz.hl,t.kq Sz.b2,aD,out,f,E,g.keep t X λi hi q hq=>by grind [lJ.pl],N⟩);have T:=t.kq aC;simp only[qz 18,eT,T,dc,↓uL];have:=b.sy.th;refine yV (L c.eB.ay) (λj _ x=>box x (10,ah)=V ⟨39,4,U,U,[c.eB.c]⟩/\StO Y x w P G B (aN2 w c ch) (4*k+j)) ⟨T,S0⟩ ?_;rintro n _ x2 hn ⟨W,e⟩;simp only[qz 85,au,eQ,↓uL];constructor<;>intro hb;have ag:=aL hb;refine bsf (λd=>∀z,box z (10,ah)=V ⟨39,4,U,U,[c.eB.c]⟩->StO Y z w P G B (aN2 w c ch) (4*k+(n+1))->d [] z) ?_ λd hJ=>?_;intro z ez Sz;simp only[qz 105,au,eQ,↓uL];exact yU ag ⟨ez,Sz⟩;simp+contextual only[qz 107,qy 20,l8,W,e.b6,au,aq,dJ ag,bh,dc,FA,Cq,↓uL];obtain⟨out,f,E,g,N⟩:=e.ow;have af:=dJ h2;have aJ:aX bH 1 x2 [(0,iv n)]=V (.l ([(n:Int)].map ci) U U,x2):=iz;simp only[g.ix af,bh,g.ld h2,aJ,aY,bQ,↓uL];refine⟨λhc=>?_,λ_=>hJ x2 W ⟨e.fx,e.hl,e.b2,e.b6,out,f,X,g,N⟩⟩;have:=(E m).1;refine anO g af A (by rw[e.hl];decide) fF fF NA λa p y f' O' bf K' hp bi F' N'=>?_;have:∀{q:Id},q.1≠15->q.1≠69->q∉B::aA (f (m:Int).toNat):=λh1 aG h=>(by obtain rfl|h:=eW.1 h;exact h1 aa;exact aG<|g.pl m h2 _ h);refine hJ y vB ⟨(e.fx.trans F').mono λq hq=>?_,F'.len.trans e.hl,(by grind [StO.b2]),(by grind [StO.b6]),λj=>if j=m then out j++[(n:Int)] else out j,f',λi=>?_,?_,λi hi q hq=>(N' i hi q hq).elim (N i hi q) λh=>h.old e.fx⟩;grind [bK.no];grind;grind;obtain rfl:n=L c.eB.ay:=X;refine yU D ⟨_,hs,e.fx,e.hl,e.b2,e.b6,?_⟩;obtain⟨out,f,E,g,N⟩:=e.ow;have:=b.sy.th;exact⟨out,f,X,g,N⟩;obtain rfl:k=L l:=X;obtain⟨out,f,E,g,N⟩:=S.ow;exact⟨B,out,f,A,X,g,S.fx,no,aa⟩
def bDV:dO:=bDU
def bDP:eJ bDV:=bDO
def bvE:=@bxH
def bEm:=I9 41 [(9,([11,43],[2,3,6,8,10,42])),(15,([11,13],[2,3,6,8,10,12,42,43])),(21,([67],[3,6,8,10,14,65,66])),(27,([17],[3,6,8,10,14,65,66,67])),(35,([17,131],[3,6,8,10,14,16,65,66,67,129,130]))]
def bFT{c0 b c}:=yB2 45 15 3 48 6 4 bDP func8 bEm c0 b [.a c0, .a b,c]
def bFl{w x}(h:x∈m8 w):aF (L w.ac) x.a/\((x.kind=1/\aF (L w.ac) x.b)\/x.kind=2\/x.kind=3\/x.kind=4\/x.kind=5):=by have:∀{a:Nat},a<L w.ac->aF (L w.ac) (a:Int):=dJ;simp only[m8,List.mem_append] at h;obtain(((h|h)|h)|h)|h:=h;grind [lr,nB];grind [mK];grind [kh];grind [ki];grind [jp,pR]
def bE2{l Y i K t o}:rV (cz 3 Y (.l (l.map aH8.c) t o)<|iv i) K=(aF (L l) i/\K (.q<|aH8.c<|gd l i.toNat)):=aBz (Y:=Y) (f:=aH8.c) λ_=>A
def k1e{x}:aN J [x]=V x:=by cases x<;>rfl
def k0e{x y}:aN J [x,y]=V x:=by cases x<;>rfl
def d1e{x y:AV}:aOz 1 [x,y]=[y]:=rfl
structure StP(Y x:ae)(w:am)(v1 v6 v8 v10:Nat)(bi:Id)(c:bdT)(a:AV)(p:List Bool)(q:eu):Prop where
 fx:Fx Y x []
 hl:L x=4096
 b1:box x (3,v1)=V ⟨45,15,U,U,[w.c]⟩
 b6:box x (6,v6)=V ⟨53,2,U,U,[aOP]⟩
 b8:box x (8,v8)=V ⟨85,9,U,U,[c.c]⟩
 bm:box x (10,v10)=V ⟨53,2,U,U,[[a, .m bi<|L w.ac]]⟩
 ga:lI x 4 1 a (p.map cb)
 gi:lI x 3 1 (.m bi<|L w.ac) (q.map ci)
 pa:∀k∈aA a,bK Y k/\k.1=153
 n6:bK Y (6,v6)
 nx:bK Y (10,v10)
 ni:bK Y bi
def StP.up{Y x y w d e f b bi c a p q}(S:StP Y x w d e f b bi c a p q)(F:Fx x y []):StP Y y w d e f b bi c a p q:=⟨S.fx.trans F,F.len.trans S.hl,F.kq S.b1,F.kq S.b6,F.kq S.b8,F.kq S.bm,S.ga.fx F O,S.gi.fx F O,S.pa,S.n6,S.nx,S.ni⟩
def bDe{Y x y l}(F:Fx Y x [])(a:Fx x y l)(N:∀q∈l,bK Y q):Fx Y y []:=(F.trans a).mono aUw
def bEb(Y:ae)(w:am)(r:AV)(b:ae):Prop:=∃(a:AV) (bi:Id) (p:List Bool) (q:eu),r= .t [.a [a, .m bi<|L q],bv U]/\L p<2000/\L q=L w.ac/\lI b 4 1 a (p.map cb)/\lI b 3 1 (.m bi<|L q) (q.map ci)/\(∀k∈aA a,bK Y k/\k.1=153)/\bK Y bi/\bi.1=35/\Fx Y b []
def bFb{Y w g l}(hY:L Y=4096)(hw:aC2 w)(E:bcV w=U)(hf:hU w)(hg:qC w g=U)(bb:L g.cW<1000)(aD:L l<1000000)(bd:biu w g l=U):∃r Y1,bEb Y w r Y1/\cZ aS GG 8 [.a w.c, .a g.c,sl ot.c l] Y r Y1:=by obtain⟨cF,hr⟩:∃cF,aNT w (aNY w) l=V cF:=(by grind [biu]);have e:=(bhV E).run hr;have ba:=hw.wo.wo.ev;obtain⟨hB,hs⟩:=aQA E;obtain⟨I0,_,bU,bV,bg⟩:=tC hB;have hN:kB w/\L w.init.eB.ay<=4/\fN w.aQ w.init=U:=⟨Rr hf E,I0.sy.th,bg⟩;refine bFT hY A rfl λs4 v1 v2 K4 bX b0 nf2 C b2=>?_;have F4:=K4.fx [];have M:=F4.len.trans hY;have r6:aN (V 6) g.c=V (.a g.c):=A;have r2:∀{x y:AV},aN (V 2) [x,y]=V (.a [x,y]):=λ{x y}=>A;refine zm M λv6 s6 F6 N6 b6=>?_;have c1:=F6.kq C;have c2:=F6.kq b2;have af:=F6.len.trans M;have arg:dG s6 (.a g.c)= .a g.c:=A;have aO:a96 w l=(cF,U):=(by simp[a96,hr]);simp only[qz 6,qy 8,qy 10,hH,c1,c2,r15,r6,oe,arm,arg,bvE,hw,E,hg,bb,aD,bd,↓uL];rw[aO];refine⟨λh=>by simp at h,λ_=>⟨.inl A,?_⟩⟩;simp only[oJ,pG,aY,↓uL];refine anu af λv8 s8 F8 N8 u=>?_;have bc:=F8.len.trans af;have d1:=F8.kq c1;have d6:=F8.kq b6;have od:=e.od;have R:L cF.order<4611686018427387904:=(aYF e.ol);simp only[qz 12,eT,d1,dc,↓uL];refine AP H H Z Z λbi s9 a8 N9 F9 b9=>?_;have aE:=F9.len.trans bc;have a7:bM aOP bqW [(1, .m bi<|L w.ac)]=V (.a [.l [] U U, .m bi<|L w.ac]):=A;simp only[qz 14,qy 16,a7,aY,↓uL];refine anu aE λT bl P a0 a3=>?_;have G6:=F4.trans F6;have G8:=G6.trans F8;have G9:=G8.trans F9;have S0:StP Y bl w v1 v6 v8 T bi cF (.l [] U U) [] (er (L w.ac) 0):=⟨(G9.trans P).mono O,P.len.trans aE,bsq,P.kq<|F9.kq d6,bsq,a3, .inl ⟨A,A⟩, .inr ⟨bi,O,by rw[P.kq b9];simp;exact⟨A, .inr A⟩⟩,aBY,N6.old F4,a0.old G9,N9.old G8⟩;simp only[qz 18,iq,S0.b8,S0.b1,dc,↓uL];refine jD (α:=Int) (λa i=>[iv a,iv i]) 1 (L w.ac) (λk n x=>∃q,L q=L w.ac/\StP Y x w v1 v6 v8 T bi cF (.l [] U U) [] q) (s0:=((L cF.order:Nat):Int)) ⟨_,O,S0⟩ ?_;rintro k n x hk ⟨q,j,S⟩;simp only[qz 55,au,gt1,eS,S.b8,oe,ar,bvE,R,dc,↓uL];constructor<;>intro K;have D:=aL K;rintro _ ⟨i,rfl⟩;refine⟨.inl A,bs6 (λd=>∀n' v:Int,d [iv n',iv v]) ?_ λd hJ=>?_⟩;intro n' v;simp only[qz 93,au,gt1,eS,S.bm,k1e,d1e,dc,↓uL];refine DA S.gi bt2 λp y F G=>?_;have no:∀{q:Id},q.1≠35->q∉aA (.m bi<|L w.ac):=bno;simp only[qz 20,au,gt1,eQ,↓uL];exact dR (mk:=λ(a:Int) i=>[iv a,iv i]) (p:=1) (s:=n) (s':=n') (λ_ _=>A) D Z ⟨_,by simp[j],bDe S.fx F (by simp[aA];exact S.ni),F.len.trans S.hl,F.keep _ _ (no O) S.b1,F.keep _ _ (no O) S.b6,F.keep _ _ (no O) S.b8,F.keep _ _ (no O) S.bm, .inl ⟨A,A⟩,G,S.pa,S.n6,S.nx,S.ni⟩;simp_all [qz,u0,u1];simp only[eS,S.b1,r15,↓uL];refine jH A (bFc S.hl hw E aD hr) ?_;rintro r y ⟨bo,out,f,rfl,aK,Oq,F,N,bS⟩;refine⟨F.len,?_⟩;have Sy:=S.up F;simp only[qz 22,eS,Sy.b1,r15,mj,bvE,hN,↓uL];intro t;refine⟨.inl A,?_⟩;have:=(anE ba I0.sy.th).1;refine yV (L<|m8 w) (λk _ x=>∃a p,L p=k/\StP Y x w v1 v6 v8 T bi cF a p q/\lJ x bo 25 3 69 (L w.ac) (λi=>(out i).map ci) f) ⟨_,_,A,Sy,Oq⟩ ?_;clear S Sy Oq K S0;rintro k _ x hk ⟨a,p,bf,S,Oq⟩;simp only[qz 127,qy 24,qy 34,au,eQ,↓uL];constructor<;>intro K;have D:=aL K;have r3:∀{x:aH8},aN (V 3) (aH8.c x)=V (.a<|aH8.c x):=λ{x}=>A;simp only[gg,bE2,r3,bh,↓uL];refine⟨dJ D,anu S.hl λb4 y ax bR o=>?_⟩;have Sy:=S.up ax;have Oy:=Oq.keep ax O O;simp only[qz 26,↓uL];refine bvP (λd=>∀b:Bool,d [bv b]) ?_ λd hJ=>?_;intro b;have a9:aX BD 1 y [(0,bv b)]=V (.l ([b].map cb) U U,y):=a7c;simp only[qz 165,qy 28,au,eS,Sy.bm,k0e,a9,↓uL];refine apQ Sy.ga.p Sy.hl X O O NA λa' z2 g2 F2 P2=>?_;have na:∀{q:Id},q.1≠153->q∉aA a:=λh j=>h (Sy.pa _ j).2;have az:=F2.keep _ _ (na O) Sy.bm;simp only[qz 30,eS,az,↓uL];refine A0 az g2.p.ce O λz3 F3 b3=>?_;have:∀{q:Id},q.1≠10->q∉[((10,T):Id)]:=X;have:∀{q:Id} {Xq:bY},q.1≠153->q.1≠10->box y q=V Xq->box z3 q=V Xq:=bsq;have:∀{q:Id},q∈aA (.m bi<|L w.ac)->q.1=35:=bno;simp only[qz 32,au,eQ,↓uL];refine yU D ⟨a',p++[b],by simp[bf],⟨bBQ (bDe Sy.fx F2 λq j=>(Sy.pa q j).1) F3 Sy.nx,F3.len.trans<|F2.len.trans Sy.hl,(by grind [StP.b1]),(by grind [StP.b6]),(by grind [StP.b8]),b3,?_,(Sy.gi.fx F2 X).fx F3 X,λq j=>⟨(P2 q j).1.old Sy.fx,(P2 q j).2⟩,Sy.n6,Sy.nx,Sy.ni⟩,(Oy.keep F2 vB λi hi q j=>(by grind [lJ.pl])).keep F3 X λi hi q j=>(by grind [lJ.pl])⟩;grind [lI.fx];obtain⟨ha,aC⟩:=bFl<|dB D;generalize gd (m8 w) k=W at o ha aC;have ae:W.a.toNat<L w.ac:=(be7 ha.1 ha.2);have a6:aF (L cF.fixed) W.a:=(by rwa [e.fx]);obtain⟨B,bT⟩|B|B|B|B:=aC;simp only[qz 167,eT,o,Sy.bm,k1e,d1e,B,bqQ,↓iC,dc,↓uL];rw[Dw Sy.gi vB,Dw Sy.gi vB];simp only[eQ,↓uL];exact hJ _;simp only[qz 167,je,o,Sy.b8,bvE,R,B,bqQ,bqF,Int.reduceEq,↓iC,↓iB,dc,↓uL];rintro _ ⟨i,rfl⟩;simp only[eQ,↓uL];exact⟨.inl A,hJ _⟩;simp only[qz 167,l8,o,Sy.b8,B,bqQ,bqF,Int.reduceEq,↓iC,↓iB,dc,↓uL];grind;have bj:L cF.order<4611686018427387904/\(∀x∈cF.order,aF (L w.ac) x)/\aF (L w.ac) W.a:=⟨R,od,ha⟩;simp only[qz 167,l8,o,Sy.b8,B,bqQ,bqF,Int.reduceEq,↓iC,↓iB,dc,↓uL];refine⟨a6,?_⟩;rcases bW:gd cF.fixed W.a.toNat with _|_;simp only[jN,a7i];exact hJ _;simp only[jA,qE,hH,o,Sy.b8,Sy.b1,r15,oe,bvE,bj,a5C,dc,↓uL];refine⟨⟨od,trivial⟩,?_⟩;rintro _ ⟨i,rfl⟩;simp only[eQ,↓uL];exact⟨.inl A,hJ _⟩;simp only[qz 167,eT,o,Oy.ix ha,Oy.ld ae,Oy.ln ae,B,bqQ,bqF,Int.reduceEq,↓iC,↓iB,dc,↓uL];have G:=Oy.gr _ ae;have be:=aK W.a.toNat;generalize out W.a.toNat=Lw at G be hJ;refine yh (λs:Bool×Nat=>[bv s.1,iv s.2]) 1 (L Lw) (λ_=>True) (I,0) trivial ?_;rintro⟨b,i⟩ _;simp only[qz 211,au,gt1,eQ,bJ,↓uL];refine⟨λK=>?_,λK=>hJ _⟩;have aB:=aL K;have nx:∀b',tI (λs:Bool×Nat=>[bv s.1,iv s.2]) (λ_=>True) [bv b',iv<|dq.wrap<|(i:Int)+1]/\pM 1 (L Lw) [bv b',iv<|dq.wrap<|(i:Int)+1]<pM 1 (L Lw) [bv b,iv i]:=λb'=>wN (enc:=λs:Bool×Nat=>[bv s.1,iv s.2]) (s:=(b,i)) (s':=(b',i+1)) (i:=i) (by grind [fX]) A rfl aB trivial;rw[Dw G<|dJ aB];obtain _|_:=b;simp only[jA,qE,je,o,Sy.b8,Sy.b1,r15,bvE,bh,a7i,dc,↓uL];refine⟨⟨R,od⟩,?_⟩;rintro _ ⟨i,rfl⟩;simp only[eQ,↓uL];exact⟨.inl A,nx _⟩;simp_all [jN,u0,a5C];obtain rfl:k=L (m8 w):=X;simp only[S.bm,eS,r2,↓uL];refine stW S.b6 A rfl λz F b=>?_;simp only[b,eS,r2,↓uL];have n6:∀{q:Id},q.1≠6->q∉[((6,v6):Id)]:=X;refine⟨a,bi,p,q,by rw[j];rfl,Z,j,S.ga.fx F λq j=>n6<|by rw[(S.pa q j).2];decide,?_,S.pa,S.ni,a8,bBQ S.fx F S.n6⟩;rw[j];exact S.gi.fx F bno
def bFH:dO:=bDV
def bFG:eJ bFH:=bDP
def bw1:=@bvE
def bEd:=I9 30 [(12,([52],[4,11,12,15,50,51])),(15,([],[4,11,12,15,50,51,52])),(21,([84],[11,12,15,82,83])),(24,([],[11,12,15,82,83,84]))]
def bFI{c0 a1 b c d}:=y1 24 5 5 bFG func3 bEd c0 [.a c0,a1,b,c,d]
def cw(x:Int):dM:=[.s<|.int .u16 x]
def bE3{Y K i l}:rV (cz 1 Y (sl cw l)<|iv i) K=(aF (L l) i/\K (.q<|cw<|gd l i.toNat)):=aBz λ_=>A
def baj{v:aOA}{Y}:dG Y (.a v.cs)= .a v.cs:=rfl
def bz4{w g p q}:L (bsE w g p q).1<=L (m8 w):=by unfold bsE;split;simp only[btw,bJ,bsw,bvy,exL,List.length_nil,aj];grind;simp
def giJ{Y e a l i K}(f:lI Y e 1 a<|l.map cb)(c:aF (L l) i):(rV (cz 1 Y a<|iv i) λt=>rV (sA J Y t) K)=K (bv<|gd l i.toNat):=by have d:i.toNat<L l:=(be7 c.1 c.2);obtain⟨h,_⟩|⟨b,rfl,g⟩:=f;simp_all;simp[cz,c.1,g,d,rV,sA,iE,aN,aNV d]
def gsJ{Y e a}{l:List Bool}{i v}{K:be}(j:lI Y e 1 a<|l.map cb)(c:aF (L l) i)(k:∀p Y',Fx Y Y' (aA a)->lI Y' e 1 a ((l.set i.toNat v).map cb)->K p Y'):rV (cz 1 Y a<|iv i) λp=>sV (aK 1 Y p<|bv v) (K p):=by have h:i.toNat<L l:=(be7 c.1 c.2);obtain⟨q,_⟩|⟨b,rfl,d⟩:=j;simp_all;have f:cz 1 Y (.m b<|L<|l.map cb) (iv i)=V (.p b i.toNat 0):=(by simp[cz,c.1,d,h]);rw[f];simp only[rV];have n:(l.map cb)[i.toNat]?=V [bv<|gd l i.toNat]:=brU;refine wL d n O λY' g o=>k _ Y' g ?_;refine .inr ⟨b,O,?_⟩;simp_all
structure StJ(x:ae)(w:am)(g:cJ)(v7 v8 vm n:Nat)(a:AV)(bi:Id)(p:List Bool)(q:eu):Prop where
 hl:L x=4096
 b7:box x (11,v7)=V ⟨45,15,U,U,[w.c]⟩
 b8:box x (12,v8)=V ⟨48,6,U,U,[g.c]⟩
 bm:box x (15,vm)=V ⟨53,2,U,U,[[a, .m bi n]]⟩
 ga:lI x 4 1 a (p.map cb)
 gi:lI x 3 1 (.m bi n) (q.map ci)
 pa:∀k∈aA a,k.1=153
 pi:bi.1=35
 hp:L p<1000000
 hq:L q=n
 hn:n<1000000
def StJ.pst{x y w g e f i n a bi p d q}(S:StJ x w g e f i n a bi p q)(F:Fx x y<|aA a)(G:lI y 4 1 a<|d.map cb)(j:L d=L p):StJ y w g e f i n a bi d q:=by have b:∀{k:Id},k.1≠153->k∉aA a:=λh c=>h<|S.pa _ c;have:=S.hp;exact⟨F.len.trans S.hl,F.keep _ _ (b O) S.b7,F.keep _ _ (b O) S.b8,F.keep _ _ (b O) S.bm,G,S.gi.fx F<|λk c=>b<|by simp[aA] at c;grind [StJ.pi],S.pa,S.pi,Z,S.hq,S.hn⟩
def StJ.qst{x y w g f i j n a bi p q c}(S:StJ x w g f i j n a bi p q)(F:Fx x y<|aA<|.m bi n)(G:lI y 3 1 (.m bi n)<|c.map ci)(e:L c=L q):StJ y w g f i j n a bi p c:=by have b:∀{k:Id},k.1≠35->k∉aA (.m bi n):=λh d=>(by simp[aA] at d;grind [StJ.pi]);exact⟨F.len.trans S.hl,F.keep _ _ (b O) S.b7,F.keep _ _ (b O) S.b8,F.keep _ _ (b O) S.bm,S.ga.fx F<|λk d=>(by grind [StJ.pa]),G,S.pa,S.pi,S.hp,e.trans S.hq,S.hn⟩
def StJ.ar{x w g d e f n a bi p q}(S:StJ x w g d e f n a bi p q):dG x (.a [a, .m bi n])= .a [sl cb p,sl ci q]:=by have i:dG x a=sl cb p:=S.ga.p.ar;have j:dG x (.m bi n)=sl ci q:=S.gi.p.ar;have:dG x (.a [a, .m bi n])= .a [dG x a,dG x<|.m bi n]:=(by obtain⟨_,rfl⟩|⟨b,rfl,k⟩:=S.ga<;>obtain⟨_,h⟩|⟨c,h,l⟩:=S.gi;(cases h);grind [dG,eR,aTH,nrm];(cases h);grind [dG,eR,aTH,nrm]);simp_all
def bFa(v)(l)(n)(fl sw)(hp:aSr v/\L l<=reachBytes/\(0<=n/\n<256)/\((∀x∈fl,0<=x/\x<65536)/\L fl<4611686018427387904)/\ByL sw):Ct 3 [.a v.cs,sl ci l,u8v n,sl cw fl,sl cu sw] (·=bv U):=by obtain⟨hv,bf,hn,⟨aJ,bc⟩,aO,bn⟩:=hp;refine bFI A λs2 hl b1 h0=>?_;have r5:aN (V 5) v.cs=V (.a v.cs):=A;have aW:∀{Y:ae},fS Y (sl ci l)=V (iv<|L l):=cT;have aV:∀{Y:ae},fS Y (sl cw fl)=V (iv<|L fl):=cT;have aX:∀{Y:ae},fS Y (sl cu sw)=V (iv<|L sw):=cT;simp only[qy 4,aW,hZ,b1,r5,ip,jM,kU,jt,baj,bw1,↓uL];refine⟨λ_=>trivial,λab=>⟨vB,?_⟩⟩;have ab:=bsX ab;rintro _ ⟨w,rfl,hw,P,bb⟩;refine⟨.inl (by simp[nA,aNN,iR,aOA.cs,sl]),?_⟩;have hP:=bnz P hw;refine anu hl λE s7 F7 N7 b7=>?_;have af:=F7.len.trans hl;simp only[qz 6,qy 8,hZ,b7,r15,ip,bw1,↓uL];refine⟨X,?_⟩;rintro _ ⟨g,p,b,rfl,R⟩;refine⟨.inl A,?_⟩;simp only[oJ,pG,KM,aY,↓uL];refine anu af λK s8 F8 N8 b8=>?_;have d7:=F8.kq b7;have ag:=F8.len.trans af;obtain _|_:=b;simp only[qz 10,eQ,↓iC,jM,jt,bw1,↓uL];grind [lo,uN,btE,wD];obtain⟨R,bd,aP,bl⟩:=R A;have ad:L g.cW<1000:=Z;have aM:L p<1000000:=Z;have aw:L w.ac<=12:=Z;have r6:aN (V 6) g.c=V (.a g.c):=A;have r2:∀{x y:AV},aN (V 2) [x,y]=V (.a [x,y]):=λ{x y}=>A;simp only[qz 10,eS,d7,b8,r15,r6,ip,↓iB,↓uL];refine jH A (bFb ag hP hw P R ad aM aP) ?_;rintro r y ⟨a,bi,p0,C,rfl,hB,hI,N,gi,pa,ni,aG,F⟩;refine⟨F.len,?_⟩;have ah:=F.len.trans ag;have e7:=F.kq d7;have e8:=F.kq b8;simp only[qz 12,qy 14,oJ,pG,aY,↓uL];refine anu ah λM s9 i N9 b9=>?_;have S0:StJ s9 w g E K M (L C) a bi p0 C:=⟨i.len.trans ah,i.kq e7,i.kq e8,b9,N.fx i O,gi.fx i O,λk W=>(pa k W).2,aG,Z,A,Z⟩;generalize L C=m at S0;have k1:∀{a b:AV},aN J [a,b]=V a:=λ{a b}=>(by cases a<;>rfl);have kC:∀{a b:AV},aN J ([a,b].drop 1)=V b:=λ{a b}=>(by cases b<;>rfl);have aU:∀{x:ae} {y:Int},sA J x (.q<|cw y)=V (.s<|.int .u16 y):=λ{x y}=>A;have aT:∀{x:ae} {y:Int},sA J x (.q<|cu y)=V (.s<|.int .u8 y):=λ{x y}=>A;simp only[qz 16,aV,eQ,↓uL];refine yV (L fl) (λk _ x=>∃p,StJ x w g E K M m a bi p C) ⟨_,S0⟩ ?_;rintro k _ x W ⟨p1,S⟩;simp only[qz 73,au,eQ,aX,↓uL];refine⟨λhb=>?_,λ_=>?_⟩;have f:=aL hb;refine bsf (λd=>∀(y:ae) (p':List Bool),StJ y w g E K M m a bi p' C->d [] y) ?_ λd hJ=>?_;intro y p' Sy;simp only[qz 93,au,eQ,↓uL];exact yU f ⟨p',Sy⟩;have hx:=aJ _<|dB f;have ez:dq.wrap (gd fl k)=gd fl k:=brE;have ak:fS x a=V (iv<|L p1):=(by simpa using S.ga.p.ln);have bk:=S.hp;simp only[qz 95,qy 18,au,eQ,bE3,aU,bh,↓uL];refine⟨dJ f,?_⟩;obtain _|_:=Q<|(k:Int)<4;simp only[jN,xM,a7i,↓iB];exact hJ x p1 S;simp only[jA,qE,eS,S.bm,k1,ak,a5C,ip,↓uL];refine⟨λh=>?_,λ_=>hJ x p1 S⟩;have aE:0<L p1:=vB;have j:=Int.tmod_nonneg (L p1:Int) hx.1;have u:=Int.tmod_lt_of_pos (gd fl k) (show(0:Int)<L p1 by omega);have T:aF (L p1) ((gd fl k).tmod<|L p1):=⟨j,u⟩;simp only[aS6,ez,jr,eS,S.bm,k1,ak,ip,↓uL];refine⟨Z,?_⟩;rw[giJ S.ga T];simp only[aIN,aY,↓uL];exact gsJ S.ga T λq y F G=>hJ y _<|S.pst F G O;refine yV (L sw) (λk _ x=>∃q,StJ x w g E K M m a bi p1 q) ⟨_,S⟩ ?_;clear S S0 W;rintro z _ x W ⟨D,S⟩;simp only[qz 127,au,eQ,↓uL];refine⟨λhb=>?_,λ_=>?_⟩;have f:=aL hb;refine bsf (λd=>∀(y:ae) (q':eu),StJ y w g E K M m a bi p1 q'->d [] y) ?_ λd hJ=>?_;intro y q' Sy;simp only[qz 147,au,eQ,↓uL];exact yU f ⟨q',Sy⟩;have hx:=aO _<|dB f;have ez:dq.wrap (gd sw z)=gd sw z:=brE;have lnI:fS x (.m bi m)=V (iv m):=(by simpa[S.hq] using S.gi.p.ln);have hm:=S.hn;simp only[qz 149,qy 20,au,eQ,a6E,aT,bh,↓uL];refine⟨dJ f,?_⟩;obtain _|_:=Q<|(z:Int)<4;simp only[jN,xM,a7i,↓iB];exact hJ x D S;simp only[jA,qE,eS,S.bm,kC,lnI,a5C,ip,↓uL];refine⟨λh=>?_,λ_=>hJ x D S⟩;have aE:0<m:=vB;have j:=Int.tmod_nonneg (m:Int) hx.1;have u:=Int.tmod_lt_of_pos (gd sw z) (show(0:Int)<m by omega);have T:aF (L D) ((gd sw z).tmod m):=(by rw[S.hq];exact⟨j,u⟩);simp only[aS6,ez,jr,a5N,eS,S.bm,kC,lnI,ip,↓uL];refine⟨Z,Z,Z,?_⟩;exact DA S.gi T λq y F G=>hJ y _<|S.qst F G O;have bg:=S.hp;simp only[eS,S.b7,S.b8,S.bm,r15,r6,r2,ip,↓uL];have arg:∀{s:ae},dG s (.a g.c)= .a g.c:=A;simp only[jM,kU,jt,S.ar,arg,mj,bw1,hw,P,R,ad,aw];have B:∀{l:List ot} {t b:Bool},uN (.t [.l (l.map ot.c) t U,bv b])=U:=λ{l t b}=>(by simp[uN,btE,wD,ot.c,gY]);have aC:∀{s:ae} {l:List ot} {t o:Bool},dG s (.l (l.map ot.c) t o)=sl ot.c l:=λ{s l t o}=>(by simp[dG,eR,aTH,nrm,gK,sl]);have be:=bz4 (w:=w) (g:=g) (p:=p1) (q:=D);have e:=vw P hw;have bj:=e.ln;have av:L (bsE w g p1 D).1<4611686018427387904:=Z;rintro _ ⟨t1,rfl⟩;refine⟨.inr B,?_⟩;simp only[oJ,pG,aY,↓uL];rintro _ ⟨t2,rfl⟩;refine⟨.inr B,?_⟩;simp only[oJ,pG,aY,avU,beq_self_eq_true,jZ,↓jA,qE,aC,bw1,av,a5C,aNR,↓uL];grind [lo,uN,btE,wD]
end Go.Ab
