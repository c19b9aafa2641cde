/- Part of the proof of WitnessWalks. -/
import Derived.Test.YthlflpfcfdpedaaGreatDoorG
set_option linter.all false
set_option maxRecDepth 100000
open Bool renaming false->I,true->U
open Go.Proofs.Tryz renaming prog->aS
open List renaming drop_zero->ip,length->L,mem_cons->eW,not_mem_nil->ql,range->aH
open Option renaming none->J,some->V
namespace Go.Ab
open Go Go.RowKit Go.Proofs
def yL(k:Nat):List Int:=(aH 4).map λi=>if i<k then 1 else 0
def uY(k:Nat):List kw:=(aH 4).map λi=>⟨if i<k then 2 else if i=0 then 1 else 0,0,I⟩
def ku:am:=⟨dE,4,⟨⟨List.replicate 3 ⟨-1,[]⟩,-1,[I],uY 4⟩,[0,1,0,0,0],[0],yL 4⟩,[⟨0,4,0,1,0,[],[]⟩,⟨1,4,0,2,6,[],[]⟩]⟩
def aoM:Po ku=U:=by kernel_rfl
def aoL:hU ku:=by refine⟨by decide,?_,?_,by decide⟩;intro l b;have:l=⟨-1,[]⟩:=List.eq_of_mem_replicate b;subst this;decide;intro e a;have:e=⟨0,4,0,1,0,[],[]⟩\/e=⟨1,4,0,2,6,[],[]⟩:=(by simpa[ku] using a);rcases this with rfl|rfl<;>exact⟨by decide,by decide⟩
def a6e{fn:Nat}{ys:List AV}{r:AV}(h:Ct fn ys (·=r)):zm aS GG fn ys (·=r):=by obtain⟨a,rfl,_,h⟩:=h;exact h
def aS5{fn:Nat}{e:TypeId}{z:Nat}(h:∀aa:List<|List AV,(∀r∈aa,L r=z)->L aa<1000000->∃r a,bc a e z r aa/\cZ aS GG fn [.l aa I I] eK r a/\(aa=[]->r= .l [] U U))(aa:List<|List AV)(f:∀r∈aa,L r=z)(i:L aa<1000000):∃r a,cZ aS GG fn [.l aa I I] eK r a/\(aa=[]->r= .l [] U U)/\(aa≠[]->∃b,r= .m b (L aa)/\box a b=V ⟨e,z,U,I,aa⟩):=by obtain⟨r,a,g,j,d⟩:=h aa f i;refine⟨r,a,j,d,λc=>?_⟩;rcases g with⟨e,_⟩|g;exact u6 e c;exact g
def GGR:nn:=⟨GG.glob,λf=>aB1.elem f||Nat.beq f 47,GG.rd,GG.nw,I,λ_=>J⟩
def bhX:cJ:=⟨1,0,1,0,0,[]⟩
def bnl:qC ku bhX=U:=by kernel_rfl
def bpm:biu ku bhX []=U:=by kernel_rfl
def knC:aPP:=⟨[],[(133,3,1),(132,4,1),(182,85,3),(204,2,1),(131,157,2)]⟩
def bng:aSn aS GGR knC:=by refine⟨λ_=>rfl,λp c=>by simp[knC] at c,λp c=>?_⟩;simp only[knC,eW,ql,aNN] at c;rcases c with rfl|rfl|rfl|rfl|rfl;exact aS5 λaa a b=>aCM a b;exact aS5 λaa a b=>aCL a b;exact aS5 λaa a b=>aCK a b;exact aS5 λaa a b=>aCN a b;exact aS5 λaa a b=>bnc a b
noncomputable def aX0(T:aPP)(f:Func)(xs:List AV)(x:AV):Bool:=match f.body with
 |some c=>match ev aS GGR T 3000 c (start f xs) (ly f) with
  |some p=>aQ0 p.1&&(match yB aS f p.2.1 p.2.2 with|some r=>xqA 9 r x|none=>I)
  |none=>I
 |none=>I
def be9{T:aPP}(i:aSn aS GGR T){fn:Nat}{f:Func}{xs:List AV}{x:AV}(l:L xs<=f.ntmps)(k:aS.funcs[fn]?=V f)(m:(f.name== "runtime.NumGoroutine")=I)(d:kG x=U)(h:aX0 T f xs x=U):Ct fn xs (·=x):=by unfold aX0 at h;split at h;rename_i c j;split at h;rename_i p n;obtain⟨e,o,Y⟩:=p;simp only[Bool.and_eq_true] at h;obtain⟨g,a⟩:=h;split at a;rename_i r b;obtain rfl:=aYn a;refine aBg (G:=GGR) ready k j m l<|bbl ready i 3000 c _ _ e o Y n _ ?_;rcases aWD g with rfl|rfl;exact⟨_,b,d,rfl⟩;exact⟨_,b,d,rfl⟩;(cases a);(cases h);cases h
set_option maxRecDepth 100000 in
def bqm:aX0 knC Tryz.f45 [.a ku.c] (bv U)=U:=by kernel_rfl
def knT:aPP:=⟨[(45,[.a ku.c],bv U),(29,[.a ku.c],bv U),(46,[.a ku.c, .a bhX.c],bv U),(12,[.a ku.c, .a bhX.c,sl xd.c []],bv U)],knC.cl⟩
def bdF:aSn aS GGR knT:=by have b:=bnz aoL aoM;refine⟨λ_=>rfl,λp a=>?_,λp a=>?_⟩;simp only[knT,eW,ql,aNN] at a;rcases a with rfl|rfl|rfl|rfl;exact a6e (be9 bng (by decide) Tryz.func45 (by kernel_rfl) rfl bqm);have h:=O8 ku aoL;rw[aoM] at h;exact a6e h;exact a6e<|NV ku bhX ⟨b.wo,bnl⟩;have h:=biL ku bhX [] ⟨b,aoM,bnl,by decide⟩;rw[bpm] at h;exact a6e h;obtain⟨_,_,h⟩:=bng;exact h p a
set_option maxRecDepth 100000 in
def bal:aX0 knT Tryz.f11 [] (bv U)=U:=by kernel_rfl
def bjI:Ct 11 [] (·=bv U):=by exact be9 bdF (Nat.zero_le _) Tryz.func11 (by kernel_rfl) rfl bal
def biA:FT:=BJ bjI
def bol{Lw K}:=al2 biA bjI Lw K
def bpP:dO:=(11,biA)::bny
def bpO:eJ bpP:=it (apM bjI)<|bpN
def bij:=And.intro @bol<|@boN
def bnO:=bi 16 [(8,([25],[5,6,7,23,24]))]
def bkr c g d k h R(i:aG)(e:bu) j a:=aU (gt c 0) (iv 40) λb=>az b (aw 15 a g) λl=>az b (aw 6 a d) λm=>fm b k λn=>az b (fV bjd a [l,m,n]) λo=>az b (aw 15 a g) λp=>az b (aw 9 a h) λq=>az b (aw 6 a d) λr=>az b (fV bja a [p,q,r]) λs=>az b (rV<|wl .neq 1 [] o s) λt=>aD b t (bv I) λu=>ah u (aE R a [bv I]) (aV (gt c 0) (iv 1) λf=>i [f] a/\e [f] a<e c j)
def bku j i o h d R e f b a:=Rg->aU (gt b 0) j λk=>ah k (ao 6 a i (gt b 0) λl=>aw 6 a l λm=>eV (bs 46 aSa a 9) λc g=>sV (aK 6 g c m)<|bkr b o c h d R e f a) (fV biA a [] λn=>aE R a [n])
def bks c e d R a:=aw 15 a c λf=>fV bjb a [f] λb=>aJ a b λg=>lV [iv 0] a<|bku g b c e d R
def bkt d i R b:=aw 15 b d λf=>fV bjc b [f,i] λc=>rV (eO 0 c) λg=>rV (eO 1 c) λh=>eV (bs 57 aNL b 7) λa e=>sV (aK 9 e a h)<|bks d g a R
def bkq d c a R:=aJ a c λt3=>aO .gtr t3 (iv 60) λt4=>ah t4 (fV biA a [] λf=>aE R a [f]) (aw 5 a d λg=>fV aUs a [g,iv 12] λh=>eV (bs 43 aOQ a 5) λb e=>sV (aK 15 e b h)<|bkt b c R)
def bpX{b:List AV}{c:AV}{R:o8}(l0:L b=5)(h:H1 24 5 2 b λd e=>bkq d c e R):Ct 4 [.a b,c] R:=z1 bnO bpO Tryz.func4 l0 h
def baj{v:aOA}{Y:ae}:dG Y (.a v.cs)= .a v.cs:=rfl
def bo7(v:aOA)(l:List Int)(hp:aSr v/\L l<=reachBytes):Ct 4 [.a v.cs,sl ci l] (·=bv U):=by obtain⟨hv,ah⟩:=hp;refine bpX rfl λs2 z N h0=>?_;have r5:aN (V 5) v.cs=V (.a v.cs):=rfl;have H:∀{Y:ae},fS Y (sl ci l)=V (iv<|L l):=cT;simp only[bkq,H,u0,u1,N,r5,ip,jM,kU,jt,baj,ar,bij,↓uL];refine⟨λ_=>trivial,λj=>⟨(by simp_all),?_⟩⟩;have j:=aYF j;rintro _ ⟨w,rfl,f,X⟩;refine⟨.inl (by simp[nA,eB,iR,aOA.cs,sl]),?_⟩;have n:=bnz X f;refine anu z λv5 s7 M N7 r=>?_;have m:=M.len.trans z;simp only[bkt,u0,u1,r,z7,ip,ar,bij,↓uL];refine⟨⟨n,f,by omega⟩,?_⟩;rintro _ ⟨p,c,rfl,E,ak⟩;refine⟨.inl rfl,?_⟩;simp only[oJ,pG,aY,↓uL];have W:=(bhV f).run E;refine anu m λv7 s8 o N8 O=>?_;have t:=o.kq r;have A:=o.len.trans m;simp only[bks,u0,u1,t,z7,ip,ar,bij,↓uL];refine⟨n.wo.wo,?_⟩;rintro _ ⟨b,rfl,T,ag⟩;have G:∀{Y:ae},fS Y (sl cJ.c b)=V (iv<|L b):=cT;have r6:∀{g:cJ},aN (V 6) g.c=V (.a g.c):=λ{g}=>rfl;refine⟨.inl rfl,?_⟩;simp only[G,aY,u0,u1,↓uL];refine yV (L b) (λk _ x=>Fx s8 x []) (Fx.refl _ _) ?_;rintro k _ x hk F;have C:=F.len.trans A;have B:∀{g:cJ},lS (V 6) x (.q g.c)=V (.a g.c):=λ{g}=>rfl;simp only[bku,au,aI,u0,u1,ix,B,Int.toNat_natCast,jM,jt,bij,↓uL];refine⟨λh=>?_,by grind [lo,uN,yv,wD]⟩;have e:=aL h;refine⟨dJ e,?_⟩;obtain⟨Z,af⟩:=T _<|dB e;refine anu C λv9 y K N2 P=>?_;have d:=F.trans K;have R:=d.kq t;have S:=d.kq O;have arg:dG y (.a (gd b k).c)= .a (gd b k).c:=rfl;have D:L p<1000000:=(by omega);have u:L (gd b k).cW<1000:=(by omega);simp+contextual only[bkr,au,u0,u1,R,S,P,z7,r6,rk,oe,ar,arm,arg,bij,ip,Nat.zero_add,n,f,W,Z,u,D,bqn E,hH,bR,ld,avV,beq_self_eq_true,Bool.not_true,↓uL];refine⟨λh=>by simp at h,λ_=>?_⟩;exact dR (mk:=λ(_:Unit) i=>[iv i]) (s:=()) (s':=()) (λ_ _=>rfl) e (by omega) d
end Go.Ab
