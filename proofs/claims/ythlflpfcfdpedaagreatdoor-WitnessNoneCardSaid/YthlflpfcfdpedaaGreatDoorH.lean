/- Part of the proof of WitnessNone. -/
import Derived.Test.YthlflpfcfdpedaaGreatDoorG
set_option linter.all false
set_option maxRecDepth 100000
open And renaming intro->ai
open Bool renaming false->I,not_false->kN,not_true->fh,true->U
open Decidable renaming decide->Q
open Go.IntKind renaming i64->dq
open Go.Proofs.Tryz renaming prog->aS
open List renaming drop_zero->ip,length->L,mem_cons->eW,not_mem_nil->ql,range->aH
open Nat renaming zero_add->aj
open Option renaming none->J,some->V
namespace Go.Ab
open Go Go.RowKit Go.Proofs
abbrev u8v(n:Int):AV:= .s<|.int .u8 n
def bry{a b:Int}:(u8v a=u8v b)=(a=b):=by simp
def bo1(w:am)(n:Int)(K:kB w/\0<=n/\n<256):Ct 10 [.a w.c,u8v n] (λr=>∃(g:cJ) (b:Bool),r= .t [.a g.c,bv b]/\(b=U->qC w g=U/\L g.cW<=4)):=by obtain⟨M,j,W⟩:=K;generalize E:(λ(r:AV)=>∃(g:cJ) (b:Bool),r= .t [.a g.c,bv b]/\(b=U->qC w g=U/\L g.cW<=4))=Q;refine aDq (br0 rfl λP G x Z=>?_);show boQ (.p (2,1) 0 0) (u8v n) P λr=>Q<|B1 r;simp only[boQ,↓uL];refine so G λu R v X y=>?_;have B:=v.kq x;have C:dq.wrap n=n:=eM (by omega) (by omega);simp only[qz 4,qy 6,qy 8,u0,u1,B,r15,rk,ar,boN,aj,↓uL];refine⟨M,?_⟩;rintro _ ⟨d,rfl,D,T⟩;have m:∀{Y:ae},fS Y (sl cJ.c d)=V (iv<|L d):=cT;have O:∀{g:cJ},aN (V 6) g.c=V (.a g.c):=λ{g}=>rfl;have q:∀{g:cJ} {f o:Bool},aN (V 6) (a7h g f o)=V (.a<|a7h g f o):=λ{g f o}=>rfl;have e:∀(g:cJ) (b f o:Bool),(b=U->qC w g=U/\L g.cW<=4)->sV (aK 6 R (.p (4,u) 0 0)<|.a<|a7h g f o) λi=>aw 6 i (.p (4,u) 0 0) λs=>aE (λr=>Q<|B1 r) i [s,bv b]:=λg b f o h=>(by refine qr y rfl rfl λz F A=>?_;simp only[u0,u1,A,q,aj,↓uL];refine aOH (vs':=[.a g.c,bv b]) rfl rfl ?_;rw[<-E];exact⟨g,b,rfl,h⟩);refine⟨.inl rfl,?_⟩;simp only[m,u0,u1,aS6,C,↓uL];refine⟨λh=>?_,λh=>?_⟩;have N:bM aSa aon []=V (.a<|a7h ⟨0,0,0,0,0,[]⟩ U U):=rfl;simp only[N,aY,↓uL];exact e _ _ _ _ (by simp);have S:0<L d:=(by have:=big h;omega);have k:=Int.tmod_nonneg (L d:Int) j;have l:=Int.tmod_lt_of_pos n (show(0:Int)<L d by omega);simp only[aPR,aP1,ix,O,aY,u0,u1,↓uL];have H:=D _ (dB<|show(n.tmod (L d:Int)).toNat<L d by omega);exact⟨by omega,⟨k,l⟩,e _ U I I λ_=>H⟩
def bnr:FT:=pn bo1
def brr{w n Lw K}:=f211 bnr bo1 w n Lw K (j:=by simp+contextual only[ij,bry])
def yL(k:Nat):List Int:=(aH 4).map λi=>if i<k then 1 else 0
def uY(k:Nat):List aoC:=(aH 4).map λi=>⟨if i<k then 2 else if i=0 then 1 else 0,0,I⟩
def ku:am:=⟨aNE,4,⟨⟨List.replicate 3 ⟨-1,[]⟩,-1,[I],uY 4⟩,[0,1,0,0,0],[0],yL 4⟩,[⟨0,4,0,1,0,[],[]⟩,⟨1,4,0,2,6,[],[]⟩]⟩
def aoM:Po ku=U:=by kernel_rfl
def aoL:hU ku:=by refine⟨by decide,?_,?_,by decide⟩;intro l b;have:l=⟨-1,[]⟩:=List.eq_of_mem_replicate b;subst this;decide;intro e a;have:e=⟨0,4,0,1,0,[],[]⟩\/e=⟨1,4,0,2,6,[],[]⟩:=(by simpa[ku] using a);rcases this with rfl|rfl<;>exact⟨by decide,by decide⟩
def a6e{fn:Nat}{ys:List AV}{r:AV}(h:Ct fn ys (·=r)):zm aS GG fn ys (·=r):=by obtain⟨a,rfl,_,h⟩:=h;exact h
def aS5{fn:Nat}{e:TypeId}{z:Nat}(h:∀aa:List<|List AV,(∀r∈aa,L r=z)->L aa<1000000->∃r a,bc a e z r aa/\cZ aS GG fn [.l aa I I] eK r a/\(aa=[]->r= .l [] U U))(aa:List<|List AV)(f:∀r∈aa,L r=z)(i:L aa<1000000):∃r a,cZ aS GG fn [.l aa I I] eK r a/\(aa=[]->r= .l [] U U)/\(aa≠[]->∃b,r= .m b (L aa)/\box a b=V ⟨e,z,U,I,aa⟩):=by obtain⟨r,a,g,j,d⟩:=h aa f i;refine⟨r,a,j,d,λc=>?_⟩;rcases g with⟨e,_⟩|g;exact aO1 e c;exact g
def GGR:nn:=⟨GG.glob,λf=>aB1.elem f||Nat.beq f 47,GG.rd,GG.nw,I,λ_=>J⟩
def bhX:cJ:=⟨1,0,1,0,0,[]⟩
def bnl:qC ku bhX=U:=by kernel_rfl
def bpm:biu ku bhX []=U:=by kernel_rfl
def knC:aPP:=⟨[],[(133,3,1),(132,4,1),(182,85,3),(204,2,1),(131,157,2)]⟩
def bng:aSn aS GGR knC:=by refine⟨λ_=>rfl,λp c=>by simp[knC] at c,λp c=>?_⟩;simp only[knC,eW,ql,aRV] at c;rcases c with rfl|rfl|rfl|rfl|rfl;exact aS5 λaa a b=>aCM a b;exact aS5 λaa a b=>aCL a b;exact aS5 λaa a b=>aCK a b;exact aS5 λaa a b=>aCN a b;exact aS5 λaa a b=>bnc a b
noncomputable def aX0(T:aPP)(f:Func)(xs:List AV)(x:AV):Bool:=match f.body with
 |some c=>match ev aS GGR T 3000 c (start f xs) (ly f) with
  |some p=>aQ0 p.1&&(match yB aS f p.2.1 p.2.2 with|some r=>xqA 9 r x|none=>I)
  |none=>I
 |none=>I
def be9{T:aPP}(i:aSn aS GGR T){fn:Nat}{f:Func}{xs:List AV}{x:AV}(l:L xs<=f.ntmps)(k:aS.funcs[fn]?=V f)(m:(f.name== "runtime.NumGoroutine")=I)(d:kG x=U)(h:aX0 T f xs x=U):Ct fn xs (·=x):=by unfold aX0 at h;split at h;rename_i c j;split at h;rename_i p n;obtain⟨e,o,Y⟩:=p;simp only[Bool.and_eq_true] at h;obtain⟨g,a⟩:=h;split at a;rename_i r b;obtain rfl:=aYn a;refine aBg (G:=GGR) ready k j m l<|bbl ready i 3000 c _ _ e o Y n _ ?_;rcases aWD g with rfl|rfl;exact⟨_,b,d,rfl⟩;exact⟨_,b,d,rfl⟩;(cases a);(cases h);cases h
set_option maxRecDepth 100000 in
def bqm:aX0 knC Tryz.f45 [.a ku.c] (bv U)=U:=by kernel_rfl
def knT:aPP:=⟨[(45,[.a ku.c],bv U),(29,[.a ku.c],bv U),(46,[.a ku.c, .a bhX.c],bv U),(12,[.a ku.c, .a bhX.c,sl xd.c []],bv U)],knC.cl⟩
def bdF:aSn aS GGR knT:=by have b:=bnz aoL aoM;refine⟨λ_=>rfl,λp a=>?_,λp a=>?_⟩;simp only[knT,eW,ql,aRV] at a;rcases a with rfl|rfl|rfl|rfl;exact a6e (be9 bng (by decide) Tryz.func45 (by kernel_rfl) rfl bqm);have h:=O8 ku aoL;rw[aoM] at h;exact a6e h;exact a6e<|NV ku bhX ⟨b.wo,bnl⟩;have h:=biL ku bhX [] ⟨b,aoM,bnl,by decide⟩;rw[bpm] at h;exact a6e h;obtain⟨_,_,h⟩:=bng;exact h p a
set_option maxRecDepth 100000 in
def bal:aX0 knT Tryz.f11 [] (bv U)=U:=by kernel_rfl
def bjI:Ct 11 [] (·=bv U):=by exact be9 bdF (Nat.zero_le _) Tryz.func11 (by kernel_rfl) rfl bal
def biA:FT:=BJ bjI
def bol{Lw K}:=al2 biA bjI Lw K
def bpP:dO:=(10,bnr)::(11,biA)::bny
def bpO:eJ bpP:=it (aN0 bo1)<|it (apM bjI)<|bpN
def bij:=ai @brr<|ai @bol<|@boN

def baj{v:aOA}{Y:ae}:dG Y (.a v.cs)= .a v.cs:=rfl
def bqX:dO:=bpP
def bpE:eJ bqX:=bpO
def boZ:=@bij
def brn:=tn 41 [(8,([46],[3,6,8,9,44,45])),(17,([14,15],[3,6,8,9,12,13])),(21,([15],[3,6,8,9,12,13,14])),(27,([91],[6,8,9,12,13,89,90])),(33,([20],[6,8,9,12,13,89,90,91]))]
def bqA b a c d R:=(.mk _:NF<|zF GG bqX brn Tryz.f18 [.u, .u,c] [b,a] d<|I3 Tryz.f18 R).p
def br3{c0:List AV}{b:List AV}{c:AV}{R:o8}(l0:L c0=15)(l1:L b=6)(h:H2 43 15 3 c0 46 6 4 b λia d e=>bqA ia d c e R):Ct 18 [.a c0, .a b,c] R:=z2 brn bpE Tryz.func18 l0 l1 h
def bro:=tn 14 [(7,([2,7],[3,4]))]
def bqC b a c d R:=(.mk _:NF<|zF GG bqX bro Tryz.f21 [.u, .u,c] [b,a] d<|I3 Tryz.f21 R).p
def br4{c0:List AV}{b:List AV}{c:AV}{R:o8}(l0:L c0=15)(l1:L b=6)(h:H2 43 15 3 c0 46 6 4 b λia d e=>bqC ia d c e R):Ct 21 [.a c0, .a b,c] R:=z2 bro bpE Tryz.func21 l0 l1 h
def bqO(w:am)(g:cJ)(l:List xd)(x:aC2 w/\Po w=U/\hU w/\qC w g=U/\L l<1000000/\biu w g l=I):Ct 18 [.a w.c, .a g.c,sl xd.c l] (·= .t [.a [sl ci [],sl cb []],bv I]):=by obtain⟨i,f,s,u,d,e⟩:=x;refine aDq (br3 rfl rfl λE v k m D=>?_);have z:aN (V 6) g.c=V (.a g.c):=rfl;have y:aN (V 2) bin=V (.a bin):=rfl;simp only[bqA,↓uL];refine so v λG A b C n=>?_;have p:=b.kq k;have q:=b.kq m;have arg:dG A (.a g.c)= .a g.c:=rfl;have j:=i.wo;simp only[qz 6,qy 8,qy 10,qy 12,u0,u1,p,q,r15,z,rk,oe,ar,arm,arg,boZ,aj,j,i,f,s,u,d,e,fh,kN,J6,aNQ,↓uL];refine⟨λ_=>?_,λh=>by simp at h⟩;have r:bM bin C2 []=V (.a bin):=rfl;simp only[r,aY,↓uL];refine qr n rfl rfl λF B o=>?_;simp only[u0,u1,o,y,aj,↓uL];exact aOH (Q:=(·=AV.t [.a [sl ci [],sl cb []],bv I])) (vs':=[.a [sl ci [],sl cb []],bv I]) rfl rfl rfl
def bpI:FT:=qe bqO
def bsI{w g l Lw K}:=sT bpI bqO w g l Lw K (j:=by simp+contextual only[ij,Nb,bcQ,bry])
def bqP(w:am)(g:cJ)(l:List xd)(k:aC2 w/\Po w=U/\qC w g=U/\L l<1000000/\biu w g l=I):Ct 21 [.a w.c, .a g.c,sl xd.c l] (·=sl xd.c []):=by obtain⟨m,e,j,b,d⟩:=k;refine aDq (br4 rfl rfl λo q f i p=>?_);have n:aN (V 6) g.c=V (.a g.c):=rfl;have arg:dG o (.a g.c)= .a g.c:=rfl;simp only[bqC,u0,u1,f,i,r15,n,rk,oe,ar,arm,arg,boZ,aj,m,e,j,b,d,kN,J6,aNQ,↓uL];refine⟨λ_=>?_,λh=>by simp at h⟩;exact aOH (Q:=(·=sl xd.c [])) (vs':=[sl xd.c []]) rfl rfl rfl
def bpJ:FT:=qe bqP
def bsJ{w g l Lw K}:=sT bpJ bqP w g l Lw K (j:=by simp+contextual only[ij,Nb,bcQ,bry])
def brY:dO:=(18,bpI)::(21,bpJ)::bqX
def brX:eJ brY:=it (tE bqO)<|it (tE bqP)<|bpE
def biQ:=ai @bsI<|ai @bsJ<|@boZ
def bpM a b c d R:=(.mk _:NF<|zF GG brY atB Tryz.f6 [.u,b,c] [a] d<|I3 Tryz.f6 R).p
def brZ{c0:List AV}{b c:AV}{R:o8}(l0:L c0=5)(h:H1 24 5 3 c0 λia d=>bpM ia b c d R):Ct 6 [.a c0,b,c] R:=z1 atB brX Tryz.func6 l0 h
def brI(v:aOA)(l:List Int)(n:Int)(W:aSr v/\L l<=reachBytes/\(0<=n/\n<256)):Ct 6 [.a v.cs,sl ci l,u8v n] (·=bv U):=by obtain⟨X,ag,T⟩:=W;refine brZ rfl λs2 E P h0=>?_;have r5:aN (V 5) v.cs=V (.a v.cs):=rfl;have N:∀{Y:ae},fS Y (sl ci l)=V (iv<|L l):=cT;simp only[bpM,qy 4,N,u0,u1,P,r5,ip,jM,kU,jt,baj,ar,biQ,↓uL];refine⟨λ_=>trivial,λr=>⟨⟨X,by decide,by decide⟩,?_⟩⟩;have r:=big r;rintro _ ⟨w,rfl,j,o⟩;refine⟨.inl (by simp[nA,eB,iR,aOA.cs,sl]),?_⟩;have d:=bnz o j;refine anu E λv7 s7 O N7 C=>?_;have s:=O.len.trans E;simp only[qz 6,qy 8,u0,u1,C,r15,ip,ar,biQ,↓uL];refine⟨⟨d.wo.wo,T⟩,?_⟩;rintro _ ⟨g,b,rfl,e⟩;refine⟨.inl rfl,?_⟩;simp only[oJ,pG,aY,↓uL];refine anu s λv8 s8 A N8 R=>?_;have D:=A.kq C;have t:=A.len.trans s;simp only[qz 10,qy 12,u0,u1,D,r15,ip,ar,biQ,↓uL];refine⟨⟨d,j,by omega⟩,?_⟩;rintro _ ⟨p,c,rfl,hr,ah⟩;refine⟨.inl rfl,?_⟩;simp only[oJ,pG,aY,↓uL];refine anu t λv9 s9 u N9 b9=>?_;have x:=u.kq D;have y:=u.kq R;have F:=u.len.trans t;have z:aN (V 6) g.c=V (.a g.c):=rfl;rcases b with _|_;simp only[qz 14,qy 16,u0,u1,kN,↓iC,jM,jt,biQ,↓uL];exact⟨by simp[lo,uN,yv,wD],trivial⟩;obtain⟨e,af⟩:=e rfl;have i:L p<1000000:=(by omega);have f:L g.cW<1000:=(by omega);have arg:dG s9 (.a g.c)= .a g.c:=rfl;rcases k:biu w g p with _|_;simp only[qz 14,qy 16,u0,u1,x,y,r15,z,fh,ip,jM,jt,ar,arg,biQ,d,j,o,e,f,i,k,J6,aNQ,↓uL];refine⟨λh=>by simp at h,λ_=>⟨.inl rfl,?_⟩⟩;simp only[oJ,pG,aY,↓uL];refine anu F λak q B NA S=>?_;have k7:=B.kq x;have k8:=B.kq y;have m:dG q (.a g.c)= .a g.c:=rfl;have m0:aN J [sl ci [],sl cb []]=V (sl ci []):=rfl;have m1:aN J ([sl ci [],sl cb []].drop 1)=V (sl cb []):=rfl;have H:fS q (sl ci [])=V (iv 0):=rfl;have K:fS q (sl cb [])=V (iv 0):=rfl;have M:fS q (sl xd.c [])=V (iv 0):=rfl;have Z:Q (dq.wrap (0+0)=0)=U:=rfl;have G:Q ((0:Int)=0)=U:=rfl;simp only[qz 18,Z,G,jA,qE,uO,aOe,u0,u1,S,k7,k8,r15,z,rk,m0,m1,H,K,M,kN,aj,ip,jM,jt,ar,m,biQ,d,j,o,e,f,i,k,J6,aNQ,↓uL];refine⟨.inl rfl,?_⟩;simp only[aUw,aOe,qE,uR];simp only[qz 14,qy 16,u0,u1,x,y,r15,z,fh,ip,jM,jt,ar,arg,biQ,d,j,o,e,f,i,k,J6,aNQ,↓uL];exact⟨λ_=>trivial,λh=>by simp at h⟩
end Go.Ab
