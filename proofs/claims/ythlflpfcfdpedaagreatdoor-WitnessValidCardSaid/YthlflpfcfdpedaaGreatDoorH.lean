/- Part of the proof of WitnessValid. -/
import Derived.Test.YthlflpfcfdpedaaGreatDoorG
set_option linter.all false
set_option maxRecDepth 100000
open And renaming intro->ai
open Bool renaming false->I,true->U
open Go.IntKind renaming i64->dq
open Go.Proofs.Tryz renaming prog->aS
open List renaming drop_zero->ip,length->L,mem_cons->eW,not_mem_nil->ql,range->aH
open Nat renaming zero_add->aj
open Option renaming none->J,some->V
namespace Go.Ab
open Go Go.RowKit Go.Proofs
abbrev u8v(n:Int):AV:= .s<|.int .u8 n
def bry{a b:Int}:(u8v a=u8v b)=(a=b):=by simp
def bo1(w:am)(n:Int)(K:kB w/\0<=n/\n<256):Ct 10 [.a w.c,u8v n] (λr=>∃(g:cJ) (b:Bool),r= .t [.a g.c,bv b]/\(b=U->qC w g=U/\L g.cW<=4)):=by obtain⟨M,j,W⟩:=K;generalize E:(λ(r:AV)=>∃(g:cJ) (b:Bool),r= .t [.a g.c,bv b]/\(b=U->qC w g=U/\L g.cW<=4))=Q;refine aDq (br0 rfl λP G x Z=>?_);show boQ (.p (2,1) 0 0) (u8v n) P λr=>Q<|B1 r;simp only[boQ,↓uL];refine so G λu R v X y=>?_;have B:=v.kq x;have C:dq.wrap n=n:=eM (by omega) (by omega);simp only[bqt,u0,u1,B,z7,rk,ar,boN,aj,↓uL];refine⟨M,?_⟩;rintro _ ⟨d,rfl,D,T⟩;have m:∀{Y:ae},fS Y (sl cJ.c d)=V (iv<|L d):=cT;have O:∀{g:cJ},aN (V 6) g.c=V (.a g.c):=λ{g}=>rfl;have q:∀{g:cJ} {f o:Bool},aN (V 6) (a7h g f o)=V (.a<|a7h g f o):=λ{g f o}=>rfl;have e:∀(g:cJ) (b f o:Bool),(b=U->qC w g=U/\L g.cW<=4)->sV (aK 6 R (.p (4,u) 0 0)<|.a<|a7h g f o) λi=>aw 6 i (.p (4,u) 0 0) λs=>aE (λr=>Q<|B1 r) i [s,bv b]:=λg b f o h=>(by refine qr y rfl rfl λz F A=>?_;simp only[u0,u1,A,q,aj,↓uL];refine aOH (vs':=[.a g.c,bv b]) rfl rfl ?_;rw[<-E];exact⟨g,b,rfl,h⟩);refine⟨.inl rfl,?_⟩;simp only[m,u0,u1,aS6,C,↓uL];refine⟨λh=>?_,λh=>?_⟩;have N:bM aSa C2 []=V (.a<|a7h ⟨0,0,0,0,0,[]⟩ U U):=rfl;simp only[N,aY,↓uL];exact e _ _ _ _ (by simp);have S:0<L d:=(by have:=a7i h;omega);have k:=Int.tmod_nonneg (L d:Int) j;have l:=Int.tmod_lt_of_pos n (show(0:Int)<L d by omega);simp only[aPR,aP1,ix,O,aY,u0,u1,↓uL];have H:=D _ (dB<|show(n.tmod (L d:Int)).toNat<L d by omega);exact⟨by omega,⟨k,l⟩,e _ U I I λ_=>H⟩
def bnr:FT:=pn bo1
def brr{w n Lw K}:=rQ bnr bo1 w n Lw K (j:=by simp+contextual only[ij,bry])
def yL(k:Nat):List Int:=(aH 4).map λi=>if i<k then 1 else 0
def uY(k:Nat):List kw:=(aH 4).map λi=>⟨if i<k then 2 else if i=0 then 1 else 0,0,I⟩
def ku:am:=⟨dE,4,⟨⟨List.replicate 3 ⟨-1,[]⟩,-1,[I],uY 4⟩,[0,1,0,0,0],[0],yL 4⟩,[⟨0,4,0,1,0,[],[]⟩,⟨1,4,0,2,6,[],[]⟩]⟩
def aoM:Po ku=U:=by kernel_rfl
def aoL:hU ku:=by refine⟨by decide,?_,?_,by decide⟩;intro l b;have:l=⟨-1,[]⟩:=List.eq_of_mem_replicate b;subst this;decide;intro e a;have:e=⟨0,4,0,1,0,[],[]⟩\/e=⟨1,4,0,2,6,[],[]⟩:=(by simpa[ku] using a);rcases this with rfl|rfl<;>exact⟨by decide,by decide⟩
def a6e{fn:Nat}{ys:List AV}{r:AV}(h:Ct fn ys (·=r)):zm aS GG fn ys (·=r):=by obtain⟨a,rfl,_,h⟩:=h;exact h
def aS5{fn:Nat}{e:TypeId}{z:Nat}(h:∀aa:List<|List AV,(∀r∈aa,L r=z)->L aa<1000000->∃r a,bc a e z r aa/\cZ aS GG fn [.l aa I I] eK r a/\(aa=[]->r= .l [] U U))(aa:List<|List AV)(f:∀r∈aa,L r=z)(i:L aa<1000000):∃r a,cZ aS GG fn [.l aa I I] eK r a/\(aa=[]->r= .l [] U U)/\(aa≠[]->∃b,r= .m b (L aa)/\box a b=V ⟨e,z,U,I,aa⟩):=by obtain⟨r,a,g,j,d⟩:=h aa f i;refine⟨r,a,j,d,λc=>?_⟩;rcases g with⟨e,_⟩|g;exact vb e c;exact g
def GGR:nn:=⟨GG.glob,λf=>aB1.elem f||Nat.beq f 47,GG.rd,GG.nw,I,λ_=>J⟩
def bhX:cJ:=⟨1,0,1,0,0,[]⟩
def bnl:qC ku bhX=U:=by kernel_rfl
def bpm:biu ku bhX []=U:=by kernel_rfl
def knC:aPP:=⟨[],[(133,3,1),(132,4,1),(182,85,3),(204,2,1),(131,157,2)]⟩
def bng:aSn aS GGR knC:=by refine⟨λ_=>rfl,λp c=>by simp[knC] at c,λp c=>?_⟩;simp only[knC,eW,ql,aNN] at c;rcases c with rfl|rfl|rfl|rfl|rfl;exact aS5 λaa a b=>aCM a b;exact aS5 λaa a b=>aCL a b;exact aS5 λaa a b=>aCK a b;exact aS5 λaa a b=>aCN a b;exact aS5 λaa a b=>bnc a b
noncomputable def aX0(T:aPP)(f:Func)(xs:List AV)(x:AV):Bool:=match f.body with
 |some c=>match ev aS GGR T 3000 c (start f xs) (ly f) with
  |some p=>aQ0 p.1&&(match yB aS f p.2.1 p.2.2 with|some r=>xqA 9 r x|none=>I)
  |none=>I
 |none=>I
def be9{T:aPP}(i:aSn aS GGR T){fn:Nat}{f:Func}{xs:List AV}{x:AV}(l:L xs<=f.ntmps)(k:aS.funcs[fn]?=V f)(m:(f.name== "runtime.NumGoroutine")=I)(d:kG x=U)(h:aX0 T f xs x=U):Ct fn xs (·=x):=by unfold aX0 at h;split at h;rename_i c j;split at h;rename_i p n;obtain⟨e,o,Y⟩:=p;simp only[Bool.and_eq_true] at h;obtain⟨g,a⟩:=h;split at a;rename_i r b;obtain rfl:=aYn a;refine aBg (G:=GGR) ready k j m l<|bbl ready i 3000 c _ _ e o Y n _ ?_;rcases aWD g with rfl|rfl;exact⟨_,b,d,rfl⟩;exact⟨_,b,d,rfl⟩;(cases a);(cases h);cases h
set_option maxRecDepth 100000 in
def bqm:aX0 knC Tryz.f45 [.a ku.c] (bv U)=U:=by kernel_rfl
def knT:aPP:=⟨[(45,[.a ku.c],bv U),(29,[.a ku.c],bv U),(46,[.a ku.c, .a bhX.c],bv U),(12,[.a ku.c, .a bhX.c,sl xd.c []],bv U)],knC.cl⟩
def bdF:aSn aS GGR knT:=by have b:=bnz aoL aoM;refine⟨λ_=>rfl,λp a=>?_,λp a=>?_⟩;simp only[knT,eW,ql,aNN] at a;rcases a with rfl|rfl|rfl|rfl;exact a6e (be9 bng (by decide) Tryz.func45 (by kernel_rfl) rfl bqm);have h:=O8 ku aoL;rw[aoM] at h;exact a6e h;exact a6e<|NV ku bhX ⟨b.wo,bnl⟩;have h:=biL ku bhX [] ⟨b,aoM,bnl,by decide⟩;rw[bpm] at h;exact a6e h;obtain⟨_,_,h⟩:=bng;exact h p a
set_option maxRecDepth 100000 in
def bal:aX0 knT Tryz.f11 [] (bv U)=U:=by kernel_rfl
def bjI:Ct 11 [] (·=bv U):=by exact be9 bdF (Nat.zero_le _) Tryz.func11 (by kernel_rfl) rfl bal
def biA:FT:=BJ bjI
def bol{Lw K}:=al2 biA bjI Lw K
def bpP:dO:=(10,bnr)::(11,biA)::bny
def bpO:eJ bpP:=it (aN0 bo1)<|it (apM bjI)<|bpN
def bij:=ai @brr<|ai @bol<|@boN
def bqG:=bi 16 [(9,([10,26],[7,8,24,25])),(12,([10],[7,8,24,25,26]))]
def bm7 b s a(c:aG):=ao 1 b s (gt a 1) λg=>aM b g λd=>aU (gt a 1) (iv 20) λh=>ah h (rV (sO (V .i64) d) λi=>aO .rem i (iv 6) λj=>aO .sub j (iv 1) λk=>rV (sO (V .i64) d) λl=>aO .quo l (iv 6) λm=>aO .rem m (iv 6) λn=>aO .sub n (iv 1) λo=>rV (bM nJ O7 [(0,k),(1,o)]) λp=>eV (aX bh6 1 b [(0,p)]) λq e=>eV (cj 52 nJ 16 e 45 (gt a 0) q) λr f=>c [r] f)<|c [gt a 0] b
def bni h r e c R f g b a:=Rg->aU (gt b 1) h λi=>ah i (jV 12 (arT b f g a)<|bm7 a r b) (aw 15 a e λj=>aw 6 a c λk=>fV bjd a [j,k,gt b 0] λl=>aw 15 a e λm=>aw 6 a c λn=>fV bnt a [m,n,gt b 0] λo=>rV (wl .eql 1 [] l o) λd=>az d (fV biA a []) λp=>aD d p (bv I) λq=>aE R a [q])
def bj7 d R c h b a:=cf d λe=>ah e (fV biA a [] λf=>aE R a [f]) (aJ a c λg=>lV [.l [] U U,iv 0] a<|bni g c h b R)
def bm5 b h R i c:=aw 15 c b λj=>fV bnr c [j,h] λg=>rV (eO 0 g) λe=>rV (eO 1 g) λf=>eV (bs 46 aSa c 8) λa d=>sV (aK 6 d a e)<|bj7 f R i b a
def bm3 c d e b R:=aw 5 b c λt3=>fV aUs b [t3,iv 12] λt4=>eV (bs 43 aOQ b 7) λa f=>sV (aK 15 f a t4)<|bm5 a d R e
def brB{b:List AV}{c d:AV}{R:o8}(l0:L b=5)(h:H1 24 5 3 b λe f=>bm3 e c d f R):Ct 3 [.a b,c,d] R:=z1 bqG bpO Tryz.func3 l0 h
def baj{v:aOA}{Y:ae}:dG Y (.a v.cs)= .a v.cs:=rfl
def bqU(v:aOA)(n:Int)(l:List Int)(hp:aSr v/\(0<=n/\n<256)/\ByL l):Ct 3 [.a v.cs,u8v n,sl cu l] (·=bv U):=by obtain⟨hv,hn,O,aB⟩:=hp;refine brB rfl λs2 N b1 h0=>?_;have r5:aN (V 5) v.cs=V (.a v.cs):=rfl;simp only[bm3,u0,u1,b1,r5,ip,jM,kU,jt,baj,ar,bij,↓uL];refine⟨(by simp_all),?_⟩;rintro _ ⟨w,rfl,W,hf⟩;refine⟨.inl (by simp[nA,eB,iR,aOA.cs,sl]),?_⟩;have E:=bnz hf W;have R:=E.wo.wo;refine anu N λv7 s7 F7 N7 D=>?_;have o:=F7.len.trans N;simp only[bm5,u0,u1,D,z7,ip,ar,bij,↓uL];refine⟨⟨R,hn⟩,?_⟩;rintro _ ⟨g,b,rfl,z⟩;refine⟨.inl rfl,?_⟩;simp only[oJ,pG,aY,↓uL];refine anu o λv8 e C N8 b8=>?_;have d7:=C.kq D;have A:=C.len.trans o;have t:∀{Y:ae},fS Y (sl cu l)=V (iv<|L l):=cT;rcases b with _|_;simp only[bj7,u0,u1,Bool.not_false,↓iC,jM,jt,bij,t,↓uL];grind [lo,uN,yv,wD];obtain⟨z,az⟩:=z rfl;simp only[bj7,u0,u1,Bool.not_true,↓iB,t,↓uL];have r6:aN (V 6) g.c=V (.a g.c):=rfl;refine jD (α:=AV) (λa i=>[a,iv i]) 1 (L l) (λk a x=>∃p:List xd,Fx e x []/\gm x 52 2 a (p.map xd.c)/\(∀q∈aA a,bK e q)/\L p<=k/\L p<=20) (s0:= .l [] U U) ⟨[],Fx.refl _ _, .inl ⟨rfl,rfl⟩,by simp[aA],by simp,by simp⟩ ?_;rintro k a x hk ⟨p,F,u,na,aC,S⟩;have P:=F.len.trans A;simp only[bni,au,ck,aI,u0,u1,↓uL];refine⟨λh=>?_,λh=>?_⟩;have f:=aL h;have B:=O _<|dB f;have ez:dq.wrap (gd l k)=gd l k:=(by grind [eM]);have r:∀(x':ae) (d:AV) (j:List xd),Fx e x' []->gm x' 52 2 d (j.map xd.c)->(∀q∈aA d,bK e q)->L j<=k+1->L j<=20->arT [a,iv k] (yI (λ(a:AV) (i:Int)=>[a,iv i]) (L l) λk a x=>∃p:List xd,Fx e x []/\gm x 52 2 a (p.map xd.c)/\(∀q∈aA a,bK e q)/\L p<=k/\L p<=20) (gM 1<|L l) x [d] x':=(by intro x' d j h1 h2 h3 h4 h5 _;simp only[au,ck,u0,u1,↓uL];exact dR (mk:=λ(a:AV) i=>[a,iv i]) (p:=1) (s:=a) (s':=d) (λ_ _=>rfl) (Y:=x) f (by omega)<|by grind);have m1:=Int.tmod_nonneg 6 B.1;have m2:=Int.tmod_lt_of_pos (gd l k) (show(0:Int)<6 by omega);have d1:=Int.tdiv_nonneg B.1 (show(0:Int)<=6 by omega);have d2:(gd l k).tdiv 6<=gd l k:=Int.tdiv_le_self 6 B.1;have ed:dq.wrap ((gd l k).tdiv 6)=(gd l k).tdiv 6:=(by grind [eM]);have H:∀{a b:Int},bM nJ O7 [(0,iv a),(1,iv b)]=V (.a (xd.mk a b).c):=λ{a b}=>rfl;have K:∀{c:xd},aX bh6 1 x [(0, .a c.c)]=V (.l [xd.c c] U U,x):=λ{c}=>ua rfl rfl rfl (by decide) rfl (by decide);have X:∀{y:Int},lS J x (.q<|cu y)=V (.s<|.int .u8 y):=λ{y}=>rfl;have Z:((6:Int)≠0)=True:=(by simp);simp only[di,bm7,au,ck,u0,u1,a6E,X,Int.toNat_natCast,aS6,ez,aPR,a5N,Z,NA,ed,H,K,↓uL];refine⟨dJ f,λm=>?_,λm=>r x a p F u na (by omega) S⟩;have an:=u4 m;refine O5 u P bnn (by simp[xd.c]) (by simp) (by simp;omega) λd s3 g3 F3 P3=>?_;refine r s3 d (p++[⟨_,_⟩]) ((F.trans F3).mono<|by grind [bK.no]) (by rw[List.map_append];exact g3.p) (by grind [bK.old]) (by simp;omega) (by simp;omega);have e7:=F.kq d7;have e8:=F.kq b8;have G:dG x a=sl xd.c p:=u.ar;have arg:dG x (.a g.c)= .a g.c:=rfl;have T:L p<1000000:=(by omega);have M:L g.cW<1000:=(by omega);simp only[e7,e8,z7,r6,jM,ar,G,arg,bij,u0,u1,au,ip,E,W,z,M,T,hH,sA,avU,beq_self_eq_true,↓uL]
end Go.Ab
