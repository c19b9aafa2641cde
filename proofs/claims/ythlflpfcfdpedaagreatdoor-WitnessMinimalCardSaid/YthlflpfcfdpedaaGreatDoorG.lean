/- Part of the proof of WitnessMinimal. -/
import Derived.Test.YthlflpfcfdpedaaGreatDoorF
set_option linter.all false
set_option maxRecDepth 100000
open And renaming intro->ai
open Bool renaming and_eq_true->bN,false->I,false_eq_true->eE,not_false->kN,not_true->fh,true->U,true_eq_false->sr
open Decidable renaming decide->Q
open Go.IntKind renaming i64->dq
open Go.Proofs.Tryz renaming f145->arC,prog->aS
open Int renaming toNat_natCast->bh
open List renaming append_assoc->bje,append_nil->cL,drop_zero->ip,flatMap_cons->Cz,getD_eq_getElem?_getD->eI,getElem?_append_left->xe,getElem?_eq_getElem->eC,getElem?_map->ve,getElem_append_left->aqO,length->L,length_append->a6G,length_cons->bZ,length_map->bJ,map_append->dg,map_cons->ji,mem_append->dF,mem_cons->eW,mem_map->dN,nil_append->dW,not_mem_nil->ql,range->aH,range_succ->qn,replicate->er,take_of_length_le->oB
open Nat renaming le_antisymm->bP,le_refl->dA,zero_add->aj,zero_le->mh
open Option renaming bind_some->qd,getD_none->sD,getD_some->mi,none->J,some->V
namespace Go.Ab
open Go Go.RowKit Go.Proofs
abbrev u8v(n:Int):AV:= .s<|.int .u8 n
def bry{a b:Int}:(u8v a=u8v b)=(a=b):=by simp
def bo1(w:am)(n:Int)(K:kB w/\0<=n/\n<256):Ct 10 [.a w.c,u8v n] (λr=>∃(g:cJ) (b:Bool),r= .t [.a g.c,bv b]/\(b=U->qC w g=U/\L g.cW<=4)):=by obtain⟨M,j,W⟩:=K;generalize E:(λ(r:AV)=>∃(g:cJ) (b:Bool),r= .t [.a g.c,bv b]/\(b=U->qC w g=U/\L g.cW<=4))=Q;refine aDq (br0 rfl λP G x Z=>?_);show boQ (.p (2,1) 0 0) (u8v n) P λr=>Q<|B1 r;simp only[boQ,↓uL];refine so G λu R v X y=>?_;have B:=v.kq x;have C:dq.wrap n=n:=eM (by omega) (by omega);simp only[qz 4,qy 6,qy 8,u0,u1,B,z7,rk,ar,boN,aj,↓uL];refine⟨M,?_⟩;rintro _ ⟨d,rfl,D,T⟩;have m:∀{Y:ae},fS Y (sl cJ.c d)=V (iv<|L d):=cT;have O:∀{g:cJ},aN (V 6) g.c=V (.a g.c):=λ{g}=>rfl;have q:∀{g:cJ} {f o:Bool},aN (V 6) (a7h g f o)=V (.a<|a7h g f o):=λ{g f o}=>rfl;have e:∀(g:cJ) (b f o:Bool),(b=U->qC w g=U/\L g.cW<=4)->sV (aK 6 R (.p (4,u) 0 0)<|.a<|a7h g f o) λi=>aw 6 i (.p (4,u) 0 0) λs=>aE (λr=>Q<|B1 r) i [s,bv b]:=λg b f o h=>(by refine qr y rfl rfl λz F A=>?_;simp only[u0,u1,A,q,aj,↓uL];refine aOH (vs':=[.a g.c,bv b]) rfl rfl ?_;rw[<-E];exact⟨g,b,rfl,h⟩);refine⟨.inl rfl,?_⟩;simp only[m,u0,u1,aS6,C,↓uL];refine⟨λh=>?_,λh=>?_⟩;have N:bM aSa aM7 []=V (.a<|a7h ⟨0,0,0,0,0,[]⟩ U U):=rfl;simp only[N,aY,↓uL];exact e _ _ _ _ (by simp);have S:0<L d:=(by have:=bd2 h;omega);have k:=Int.tmod_nonneg (L d:Int) j;have l:=Int.tmod_lt_of_pos n (show(0:Int)<L d by omega);simp only[aPR,aP1,ix,O,aY,u0,u1,↓uL];have H:=D _ (dB<|show(n.tmod (L d:Int)).toNat<L d by omega);exact⟨by omega,⟨k,l⟩,e _ U I I λ_=>H⟩
def bnr:FT:=pn bo1
def brr{w n Lw K}:=f211 bnr bo1 w n Lw K (j:=by simp+contextual only[ij,bry])
def yL(k:Nat):List Int:=(aH 4).map λi=>if i<k then 1 else 0
def uY(k:Nat):List aoC:=(aH 4).map λi=>⟨if i<k then 2 else if i=0 then 1 else 0,0,I⟩
def ku:am:=⟨aNE,4,⟨⟨er 3 ⟨-1,[]⟩,-1,[I],uY 4⟩,[0,1,0,0,0],[0],yL 4⟩,[⟨0,4,0,1,0,[],[]⟩,⟨1,4,0,2,6,[],[]⟩]⟩
def aoM:Po ku=U:=by kernel_rfl
def aoL:hU ku:=by refine⟨by decide,?_,?_,by decide⟩;intro l b;have:l=⟨-1,[]⟩:=List.eq_of_mem_replicate b;subst this;decide;intro e a;have:e=⟨0,4,0,1,0,[],[]⟩\/e=⟨1,4,0,2,6,[],[]⟩:=(by simpa[ku] using a);rcases this with rfl|rfl<;>exact⟨by decide,by decide⟩
def a6e{fn:Nat}{ys:List AV}{r:AV}(h:Ct fn ys (·=r)):zm aS GG fn ys (·=r):=by obtain⟨a,rfl,_,h⟩:=h;exact h
def aS5{fn:Nat}{e:TypeId}{z:Nat}(h:∀aa:List<|List AV,(∀r∈aa,L r=z)->L aa<1000000->∃r a,bc a e z r aa/\cZ aS GG fn [.l aa I I] eK r a/\(aa=[]->r= .l [] U U))(aa:List<|List AV)(f:∀r∈aa,L r=z)(i:L aa<1000000):∃r a,cZ aS GG fn [.l aa I I] eK r a/\(aa=[]->r= .l [] U U)/\(aa≠[]->∃b,r= .m b (L aa)/\box a b=V ⟨e,z,U,I,aa⟩):=by obtain⟨r,a,g,j,d⟩:=h aa f i;refine⟨r,a,j,d,λc=>?_⟩;rcases g with⟨e,_⟩|g;exact aNK e c;exact g
def GGR:nn:=⟨GG.glob,λf=>aB1.elem f||Nat.beq f 47,GG.rd,GG.nw,I,λ_=>J⟩
def bhX:cJ:=⟨1,0,1,0,0,[]⟩
def bnl:qC ku bhX=U:=by kernel_rfl
def bpm:biu ku bhX []=U:=by kernel_rfl
def knC:aPP:=⟨[],[(133,3,1),(132,4,1),(182,85,3),(204,2,1),(131,157,2)]⟩
def bng:aSn aS GGR knC:=by refine⟨λ_=>rfl,λp c=>by simp[knC] at c,λp c=>?_⟩;simp only[knC,eW,ql,aPI] at c;rcases c with rfl|rfl|rfl|rfl|rfl;exact aS5 λaa a b=>aCM a b;exact aS5 λaa a b=>aCL a b;exact aS5 λaa a b=>aCK a b;exact aS5 λaa a b=>aCN a b;exact aS5 λaa a b=>bnc a b
noncomputable def aX0(T:aPP)(f:Func)(xs:List AV)(x:AV):Bool:=match f.body with
 |some c=>match ev aS GGR T 3000 c (start f xs) (ly f) with
  |some p=>aQ0 p.1&&(match yB aS f p.2.1 p.2.2 with|some r=>xqA 9 r x|none=>I)
  |none=>I
 |none=>I
def be9{T:aPP}(i:aSn aS GGR T){fn:Nat}{f:Func}{xs:List AV}{x:AV}(l:L xs<=f.ntmps)(k:aS.funcs[fn]?=V f)(m:(f.name== "runtime.NumGoroutine")=I)(d:kG x=U)(h:aX0 T f xs x=U):Ct fn xs (·=x):=by unfold aX0 at h;split at h;rename_i c j;split at h;rename_i p n;obtain⟨e,o,Y⟩:=p;simp only[bN] at h;obtain⟨g,a⟩:=h;split at a;rename_i r b;obtain rfl:=aYn a;refine aBg (G:=GGR) ready k j m l<|bbl ready i 3000 c _ _ e o Y n _ ?_;rcases aWD g with rfl|rfl;exact⟨_,b,d,rfl⟩;exact⟨_,b,d,rfl⟩;(cases a);(cases h);cases h
set_option maxRecDepth 100000 in
def bqm:aX0 knC Tryz.f45 [.a ku.c] (bv U)=U:=by kernel_rfl
def knT:aPP:=⟨[(45,[.a ku.c],bv U),(29,[.a ku.c],bv U),(46,[.a ku.c, .a bhX.c],bv U),(12,[.a ku.c, .a bhX.c,sl xd.c []],bv U)],knC.cl⟩
def bdF:aSn aS GGR knT:=by have b:=bnz aoL aoM;refine⟨λ_=>rfl,λp a=>?_,λp a=>?_⟩;simp only[knT,eW,ql,aPI] at a;rcases a with rfl|rfl|rfl|rfl;exact a6e (be9 bng (by decide) Tryz.func45 (by kernel_rfl) rfl bqm);have h:=O8 ku aoL;rw[aoM] at h;exact a6e h;exact a6e<|NV ku bhX ⟨b.wo,bnl⟩;have h:=biL ku bhX [] ⟨b,aoM,bnl,by decide⟩;rw[bpm] at h;exact a6e h;obtain⟨_,_,h⟩:=bng;exact h p a
set_option maxRecDepth 100000 in
def bal:aX0 knT Tryz.f11 [] (bv U)=U:=by kernel_rfl
def bjI:Ct 11 [] (·=bv U):=by exact be9 bdF (mh _) Tryz.func11 (by kernel_rfl) rfl bal
def biA:FT:=BJ bjI
def bol{Lw K}:=al2 biA bjI Lw K
def bpP:dO:=(10,bnr)::(11,biA)::bny
def bpO:eJ bpP:=it (aN0 bo1)<|it (apM bjI)<|bpN
def bij:=ai @brr<|ai @bol<|@boN

def baj{v:aOA}{Y:ae}:dG Y (.a v.cs)= .a v.cs:=rfl
def bqX:dO:=bpP
def bpE:eJ bqX:=bpO
def boZ:=@bij
def btP:=bA 13 [(6,([5],[0,1]))]
def bsn a b s0 R:=(.mk _:NF<|zF GG bqX btP Tryz.f232 [a,b] [] s0<|I3 Tryz.f232 R).p
def bv0{a b:AV}{R:o8}(h:H0 λs0=>bsn a b s0 R):Ct 232 [a,b] R:=z0 btP bpE Tryz.func232 h
def bsp a b s0 R:=(.mk _:NF<|zF GG bqX btP Tryz.f195 [a,b] [] s0<|I3 Tryz.f195 R).p
def bv3{a b:AV}{R:o8}(h:H0 λs0=>bsp a b s0 R):Ct 195 [a,b] R:=z0 btP bpE Tryz.func195 h
def bso a b s0 R:=(.mk _:NF<|zF GG bqX btP Tryz.f196 [a,b] [] s0<|I3 Tryz.f196 R).p
def bv2{a b:AV}{R:o8}(h:H0 λs0=>bso a b s0 R):Ct 196 [a,b] R:=z0 btP bpE Tryz.func196 h
def btW:=bA 17 [(4,([5,6,7],[2,3])),(7,([5,6],[2,3,7])),(8,([5],[2,3,6,7]))]
def bss a b c R:=(.mk _:NF<|zF GG bqX btW Tryz.f193 [.u, .u] [a,b] c<|I3 Tryz.f193 R).p
def bv8{c0:List AV}{b:List AV}{R:o8}(l0:L c0=9)(l1:L b=6)(h:H2 57 9 2 c0 46 6 3 b λia c d=>bss ia c d R):Ct 193 [.a c0, .a b] R:=z2 btW bpE Tryz.func193 l0 l1 h
def btU:=bA 13 [(6,([5],[2,3]))]
def bsr a b c R:=(.mk _:NF<|zF GG bqX btU Tryz.f192 [.u, .u] [a,b] c<|I3 Tryz.f192 R).p
def bv6{c0:List AV}{b:List AV}{R:o8}(l0:L c0=9)(l1:L b=9)(h:H2 57 9 2 c0 57 9 3 b λia c d=>bsr ia c d R):Ct 192 [.a c0, .a b] R:=z2 btU bpE Tryz.func192 l0 l1 h
def bsM(a b:List Int)(d:L a<4611686018427387904):Ct 232 [sl ci a,sl ci b] (λr=>isB r):=by refine bv0 λs0 g e=>?_;simp+contextual only[bsn,u0,u1,aNP,mp,bR,↓uL];intro h;have c:L a=L b:=(by simp at h;omega);refine C7 (L a) (λ_=>True) trivial λk f _=>?_;simp+contextual only[qz 37,bsn,u0,u1,ix,rk,bh,aNP,mp,u5,bR,↓uL];exactλh=>⟨vp h,by rw[<-c];exact vp h,λ_=>gS (aL h) d trivial⟩
def btr:FT:=pn bsM
def buX{a b Lw K}:=f211 btr bsM a b Lw K (j:=by simp+contextual only[ij,Nb,ijm,mD])
def bsQ(a b:List aB9)(i:L a<4611686018427387904):Ct 195 [sl aB9.c a,sl aB9.c b] (λr=>isB r):=by refine bv3 λs0 q o=>?_;have d:∀x y:aB9,∃r:Bool,wl .neq 2 [(0,0),(1,1)] (.a x.c) (.a y.c)=V (bv r):=λx y=>(by obtain⟨l,j⟩:=x;obtain⟨n,m⟩:=y;rcases e:Q (l=n) with _|_<;>rcases f:Q (j=m) with _|_<;>simp at e f<;>simp[wl,nW,aB9.c,sS,e,f]);simp+contextual only[bsp,u0,u1,aNP,mp,bR,↓uL];intro h;have g:L a=L b:=(by simp at h;omega);refine C7 (L a) (λ_=>True) trivial λk p _=>?_;obtain⟨r,d⟩:=d (gd a k)<|gd b k;simp+contextual only[qz 37,bsp,u0,u1,boX,rk,oe,d,bh,aNP,mp,u5,bR,↓uL];exactλh=>⟨vp h,by rw[<-g];exact vp h,λ_=>gS (aL h) i trivial⟩
def btu:FT:=pn bsQ
def bu0{a b Lw K}:=f211 btu bsQ a b Lw K (j:=by simp+contextual only[ij,Nb,ijm,mD])
def bsP(a b:List Bool)(d:L a<4611686018427387904):Ct 196 [sl cb a,sl cb b] (λr=>isB r):=by refine bv2 λs0 g e=>?_;simp+contextual only[bso,u0,u1,aNP,mp,bR,↓uL];intro h;have c:L a=L b:=(by simp at h;omega);refine C7 (L a) (λ_=>True) trivial λk f _=>?_;simp+contextual only[qz 37,bso,u0,u1,ix,rk,bh,aNP,mp,u5,bR,↓uL];exactλh=>⟨vp h,by rw[<-c];exact vp h,λ_=>gS (aL h) d trivial⟩
def btt:FT:=pn bsP
def buZ{a b Lw K}:=f211 btt bsP a b Lw K (j:=by simp+contextual only[ij,Nb,ijm,mD])
def bsW(c:sA)(g:cJ)(w:L c.order<1000000/\∀x∈c.order,aF (L c.woke) x):Ct 193 [.a c.c, .a g.c] (λr=>∃n:Int,r=iv n):=by obtain⟨B,v⟩:=w;refine bv8 rfl rfl λF A l o y=>?_;have E:∀{i:Nat},aN J (g.c.drop i)=(g.c.drop i)[0]?:=λ{i}=>rfl;simp only[bss,↓uL];refine yh (λs:Int×Int×Nat=>[iv s.1,iv s.2.1,iv s.2.2]) 2 (L c.order) (λs=>s.2.2<=L c.order/\(0<=s.1->g.ea∈c.order)) (-1,-1,0) ⟨by simp,by simp⟩ ?_;rintro⟨a,b,i⟩ ⟨z,k⟩;have p:∀x,mL (bv I) x (bv I)=V (bv I):=λ_=>rfl;have u:∀n:Int,(∃m:Int,iv n=iv m)=True:=λn=>bqJ ⟨n,rfl⟩;have nx:∀(e j:Int),i<L c.order->(0<=e->g.ea∈c.order)->tI (λs:Int×Int×Nat=>[iv s.1,iv s.2.1,iv s.2.2]) (λs=>s.2.2<=L c.order/\(0<=s.1->g.ea∈c.order)) [iv e,iv j,iv<|dq.wrap<|(i:Int)+1]/\pM 2 (L c.order) [iv e,iv j,iv<|dq.wrap<|(i:Int)+1]<pM 2 (L c.order) [iv a,iv b,iv i]:=λe j d h=>(by refine wN (enc:=λs:Int×Int×Nat=>[iv s.1,iv s.2.1,iv s.2.2]) (s:=(a,b,i)) (s':=(e,j,i+1)) (i:=i) ?_ rfl rfl d ⟨d,h⟩;rw[eM (by omega)<|by omega];rfl);simp only[qz 45,qz 51,qz 53,qz 47,qz 25,bss,aOe,aI,u0,u1,ix,rk,oe,l,o,aj,bh,u,mp,u5,bR,↓uL];refine⟨λh=>?_,λh=>?_⟩;(focus have d:=aL h;have f:=dJ d;refine⟨f,λt=>⟨f,λ_=>nx _ _ d ?_,λ_=>nx _ _ d ?_⟩,λ_=>⟨f,λ_=>nx _ _ d k,λ_=>nx _ _ d k⟩⟩;all_goals(intro _;have:=awG t;rw[<-this];exact dB d));(focus rcases C:Q (g.kind=3) with _|_<;>rcases D:Q (g.kind=4) with _|_<;>rcases q:Q (a>=0) with _|_<;>simp only[u0,u1,q,jA,jN,l,o,ix,rk,oe,aj,mp,u5,bR,↓uL];(all_goals(try simp only[p,u0,u1,jN,mp,u5,bR,↓uL]));all_goals exact v _ (k<|awG q))
def btz:FT:=pn bsW
def bu5{c g Lw K}:=f211 btz bsW c g Lw K (j:=by simp+contextual only[ij,Nb,ijm,mD])
def bsT(a b:sA)(f:L a.order<4611686018427387904/\L b.order<4611686018427387904):Ct 192 [.a a.c, .a b.c] (λr=>isB r):=by refine bv6 rfl rfl λl j d e g=>?_;simp+contextual only[bsr,u0,u1,d,e,rk,oe,aj,aNP,mp,bR,↓uL];intro h;refine C7 (L a.order) (λ_=>True) trivial λk i _=>?_;simp+contextual only[qz 37,bsr,u0,u1,d,e,ix,rk,oe,ar,boZ,aj,bh,aNP,mp,u5,bR,f,↓uL];exactλh=>⟨vp h,λ_=>gS (aL h) f.1 trivial⟩
def btx:FT:=pn bsT
def bu3{a b Lw K}:=f211 btx bsT a b Lw K (j:=by simp+contextual only[ij,Nb,ijm,mD])
def btg:dO:=(232,btr)::(195,btu)::(196,btt)::(193,btz)::(192,btx)::bqX
def buv:eJ btg:=it (aN0 bsM)<|it (aN0 bsQ)<|it (aN0 bsP)<|it (aN0 bsW)<|it (aN0 bsT)<|bpE
def bt7:=ai @buX<|ai @bu0<|ai @buZ<|ai @bu5<|ai @bu3<|@boZ
def btQ:=bA 29 [(6,([5],[2,3])),(14,([6],[2,3])),(22,([7],[2,3]))]
def btJ a b c R:=(.mk _:NF<|zF GG btg btQ Tryz.f194 [.u, .u] [a,b] c<|I3 Tryz.f194 R).p
def bv1{c0:List AV}{b:List AV}{R:o8}(l0:L c0=4)(l1:L b=4)(h:H2 36 4 2 c0 36 4 3 b λia c d=>btJ ia c d R):Ct 194 [.a c0, .a b] R:=z2 btQ buv Tryz.func194 l0 l1 h
def SzS(s:aW):Prop:=L s.ak<1000000/\L s.done<1000000/\L s.ay<1000000/\∀i,L (gd s.ak i).bk<1000000
def bsO(s t:aW)(C:SzS s/\SzS t):Ct 194 [.a s.c, .a t.c] (λr=>isB r):=by obtain⟨⟨N,O,P,v⟩,R,S,T,W⟩:=C;refine bv1 rfl rfl λs4 Z b d X=>?_;have f:∀x,mL (bv U) (bv U) x=V (bv U):=λ_=>rfl;have e:∀x y:aoC,∃r:Bool,wl .neq 2 [(0,0),(1,0),(2,1)] (.a x.c) (.a y.c)=V (bv r):=λx y=>(by obtain⟨F,G,E⟩:=x;obtain⟨K,M,H⟩:=y;rcases j:Q (F=K) with _|_<;>rcases m:Q (G=M) with _|_<;>rcases l:Q (E=H) with _|_<;>simp at j l m<;>simp[wl,nW,aoC.c,sS,j,l,m]);rcases D:Q (s.tx≠t.tx) with _|_<;>rcases p:Q ((L s.ak:Int)≠L t.ak) with _|_<;>rcases q:Q ((L s.done:Int)≠L t.done) with _|_<;>rcases u:Q ((L s.ay:Int)≠L t.ay) with _|_<;>simp only[btJ,u0,u1,b,d,rk,D,p,q,u,jA,jN,f,fh,kN,Bool.false_or,Bool.or_false,Bool.true_or,Bool.or_true,aj,aNP,mp,bR,eE,sr,aNG,aNU,↓uL];have z:L s.ak=L t.ak:=(by simp at p;omega);have A:L s.done=L t.done:=(by simp at q;omega);have B:L s.ay=L t.ay:=(by simp at u;omega);refine C7 (L s.ak) (λ_=>True) trivial λk n _=>?_;simp only[qz 37,aI,u0,u1,b,d,ix,rk,ar,bt7,aj,bh,aNP,mp,u5,bR,↓uL];refine⟨λh=>?_,λh=>?_⟩;have g:=aL h;have i:=dJ g;have o:aF (L t.ak) (k:Int):=(by rw[<-z];exact i);have w:L (gd s.ak k).bk<4611686018427387904:=(by have:=v k;omega);refine⟨i,o,?_⟩;rcases p1:Q ((gd s.ak k).pw≠(gd t.ak k).pw) with _|_;simp only[u0,u1,b,d,ix,rk,ar,bt7,bd1,jA,f,i,o,w,kN,aj,bh,aNP,mp,u5,bR,↓uL];exactλ_ _=>gS g (by omega) trivial;simp only[u0,u1,jN,f,fh,sr,aNG,mp,u5,↓uL];refine C7 (L s.done) (λ_=>True) trivial λk n _=>?_;simp only[qz 85,aI,u0,u1,b,d,ix,rk,aj,bh,aNP,mp,u5,bR,↓uL];refine⟨λh=>⟨vp h,by rw[<-A];exact vp h,λ_=>gS (aL h) (by omega) trivial⟩,λh=>?_⟩;refine C7 (L s.ay) (λ_=>True) trivial λk n _=>?_;obtain⟨r,e⟩:=e (gd s.ay k)<|gd t.ay k;simp only[qz 133,aI,u0,u1,b,d,ix,rk,e,aj,bh,aNP,mp,u5,bR,↓uL];exactλh=>⟨vp h,by rw[<-B];exact vp h,λ_=>gS (aL h) (by omega) trivial⟩
def bts:FT:=pn bsO
def buY{s t Lw K}:=f211 bts bsO s t Lw K
def bsa:dO:=(194,bts)::btg
def buw:eJ bsa:=it (aN0 bsO)<|buv
def bpD:=ai @buY<|@bt7
def bsq a b c d R:=(.mk _:NF<|zF GG bsa at1 arC [.u, .u, .u] [a,b,c] d<|I3 arC R).p
def bv5{c0:List AV}{c:List AV}{d:List AV}{R:o8}(l0:L c0=9)(l1:L c=9)(v:L d=6)(h:∀b:ae,L b=4096->box b (3,1)=V ⟨57,9,U,U,[c0]⟩->box b (4,1)=V ⟨57,9,U,U,[c]⟩->box b (5,1)=V ⟨46,6,U,U,[d]⟩->(∀k,k≠3->k≠4->k≠5->aZ b k=mO)->bsq (.p (3,1) 0 0) (.p (4,1) 0 0) (.p (5,1) 0 0) b R):Fn aS GG 145 [.a c0, .a c, .a d] R:=by refine uq ready buw Tryz.func145 (an:=at1) (by kernel_rfl) (Eq.mpr (show ZF aS GG bsa at1 arC [.a c0, .a c, .a d] R=(eV (u4 57 9 (ly arC) 3<|.a c0) λe j=>eV (u4 57 9 j 4<|.a c) λf l=>eV (u4 46 6 l 5<|.a d) λi b=>bsq e f i b R) by kernel_rfl) ?_);refine mY (N:=4096) rfl l0 (by decide) (by decide) uB (by rw[i8]) λj w m z g0=>?_;refine mY (N:=4096) rfl l1 (by decide) (by decide) w (by rw[g0 _ (by decide),i8]) λl x n q g1=>?_;refine mY (N:=4096) rfl v (by decide) (by decide) x (by rw[g1 _ (by decide),g0 _ (by decide),i8]) λb y o g r=>?_;exact h b y (by rw[g _ _ (by decide),q _ _<|by decide];exact m) (by rw[g _ _<|by decide];exact n) o (λk s t u=>by rw[r k u,g1 k t,g0 k s];exact i8 _ k)
structure SzC(c:sA):Prop where
 sy:SzS c.bm
 ce:L c.cells<1000000
 fu:L c.bU<1000000
 fx:L c.fixed<1000000
 od:L c.order<1000000
 wk:∀x∈c.order,aF (L c.woke) x
def bsS(a b:sA)(g:cJ)(w:SzC a/\SzC b):Ct 145 [.a a.c, .a b.c, .a g.c] (λr=>isB r):=by obtain⟨e,j⟩:=w;refine bv5 rfl rfl rfl λC A f i u z=>?_;have o:L a.order<4611686018427387904:=(by have:=e.od;omega);have p:L a.cells<4611686018427387904:=(by have:=e.ce;omega);have q:L a.bU<4611686018427387904:=(by have:=e.fu;omega);have s:L a.fixed<4611686018427387904:=(by have:=e.fx;omega);have t:L b.order<4611686018427387904:=(by have:=j.od;omega);have y:aN (V 6) g.c=V (.a g.c):=rfl;have a65:∀{Q:o8},(∀r,(∃n:Int,r=iv n)->Q r)=∀n:Int,Q (iv n):=λ{Q}=>amt ⟨λh n=>h _ ⟨n,rfl⟩,by rintro h r ⟨n,rfl⟩;exact h n⟩;have arg:∀{Y:ae},dG Y (.a g.c)= .a g.c:=rfl;have d:∀x,mL (bv I) x (bv I)=V (bv I):=λ_=>rfl;simp only[bsq,u0,u1,f,i,u,y,rk,oe,ar,arm,arg,bpD,bd1,a65,o,t,aj,aNP,mp,u5,bR,↓uL];have k:L a.order<1000000/\∀x∈a.order,aF (L a.woke) x:=⟨e.od,e.wk⟩;have l:L b.order<1000000/\∀x∈b.order,aF (L b.woke) x:=⟨j.od,j.wk⟩;have v:SzS a.bm/\SzS b.bm:=⟨e.sy,j.sy⟩;rintro(_|_);simp only[u0,u1,jN,d,aNP,↓uL];simp only[u0,u1,jA,ar,arm,arg,bpD,a65,k.1,l.1,f,i,rk,oe,bR,aj,↓uL];refine⟨k.2,λn=>⟨l.2,λm=>?_⟩⟩;rcases B:Q (n=m) with _|_;simp only[u0,u1,jN,d,aNP,↓uL];simp only[u0,u1,jA,f,i,rk,oe,ar,arm,bpD,bd1,v,bR,aj,↓uL];rintro(_|_);simp only[u0,u1,jN,d,aNP,↓uL];simp only[u0,u1,jA,f,i,rk,oe,ar,arm,bpD,bd1,p,bR,aj,↓uL];rintro(_|_);simp only[u0,u1,jN,d,aNP,↓uL];simp only[u0,u1,jA,f,i,rk,oe,ar,arm,bpD,bd1,q,bR,aj,↓uL];rintro(_|_);simp only[u0,u1,jN,d,aNP,↓uL];simp only[u0,u1,jA,f,i,rk,oe,ar,arm,bpD,bd1,s,aNP,mp,bR,aj,↓uL]
def btw:FT:=vn bsS
def bu2{a b g Lw K}:=zZ btw bsS a b g Lw K (j:=by simp+contextual only[ij,Nb,ijm,mD])
def bth:dO:=(145,btw)::bsa
def bux:eJ bth:=it (By bsS)<|buw
def bvf:=ai @bu2<|@bpD
def btV:=bA 10 [(3,([7],[0,4,5]))]
def bqS c a b d R:=(.mk _:NF<|zF GG bth btV Tryz.f88 [c, .u, .u] [a,b] d<|I3 Tryz.f88 R).p
def bv7{d:AV}{b:List AV}{c:List AV}{R:o8}(l1:L b=9)(f:L c=6)(h:H2 57 9 4 b 46 6 5 c λia e g=>bqS d ia e g R):Ct 88 [d, .a b, .a c] R:=z2 btV bux Tryz.func88 l1 f h
structure TNd where
 cf:sA
 pa:List xd
 deriving Inhabited
def TNd.c(x:TNd):List AV:=x.cf.c++[sl xd.c x.pa]
def bvn{x y:TNd}:(TNd.c x=TNd.c y)=(x=y):=by obtain⟨a,p⟩:=x;obtain⟨b,q⟩:=y;have h:(TNd.c ⟨a,p⟩=TNd.c ⟨b,q⟩)=(a.c=b.c/\sl xd.c p=sl xd.c q):=(by simp[TNd.c,sA.c,aPe]);rw[h];simp[ij,Nb,ijm]
def bvo{l l':List TNd}:(sl TNd.c l=sl TNd.c l')=(l=l'):=kL (by intro x y h;rwa [bvn] at h)
structure SzN(x:TNd):Prop where
 c:SzC x.cf
 p:L x.pa<1000000
def bsV(l:List TNd)(c:sA)(g:cJ)(u:(∀x∈l,SzN x)/\SzC c/\L l<4611686018427387904):Ct 88 [sl TNd.c l, .a c.c, .a g.c] (λr=>isB r):=by obtain⟨t,p,A⟩:=u;refine bv7 rfl rfl λE D h j B=>?_;have z:∀{x:TNd},aN (V 9) (TNd.c x)=V (.a x.cf.c):=λ{x}=>rfl;have n:∀{x:TNd},aN J ((TNd.c x).drop 9)=V (sl xd.c x.pa):=λ{x}=>rfl;have b:∀{Y:ae} {i:Int} {K:o8},rV (cz 10 Y (sl TNd.c l)<|iv i) K=(aF (L l) i/\K (.q<|TNd.c<|gd l i.toNat)):=aBz λ_=>rfl;have y:aN (V 6) g.c=V (.a g.c):=rfl;have arg:∀{Y:ae},dG Y (.a g.c)= .a g.c:=rfl;have f:∀x,mL (bv I) x (bv I)=V (bv I):=λ_=>rfl;simp only[bqS,u0,u1,↓uL];refine⟨λvs=>∃i:Int,vs=[iv i]/\ -1<=i/\i<L l,λvs=>match vs with|[.s (.int _ i)]=>(i+1).toNat|_=>0,⟨_,rfl,?_,?_⟩,?_⟩;rw[eM (by omega)<|by omega];omega;rw[eM (by omega)<|by omega];omega;rintro _ ⟨i,rfl,C,o⟩;rcases e:Q (i>=0) with _|_;simp only[qz 19,bqS,aI,u0,u1,e,jN,f,aNP,eE,aNG,mp,u5,↓uL];have d:aF (L l) i:=⟨awG e,o⟩;have w:gd l i.toNat∈l:=dB (by have:=d.1;omega);have v:=t _ w;rcases m:Q ((L (gd l i.toNat).pa:Int)=L c.order) with _|_;simp only[qz 19,bqS,aI,u0,u1,e,m,jA,h,j,n,aC6,b,d,oe,f,aNP,bR,aj,eE,aNG,mp,u5,↓uL];simp only[qz 19,bqS,aI,u0,u1,e,m,jA,h,j,z,n,y,aC6,b,d,rk,oe,ar,arm,arg,bvf,bd1,aNP,bR,aj,ip,mp,↓uL];have k:dq.wrap (i-1)=i-1:=eM (by omega) (by have:=d.1;omega);refine⟨λ_=>⟨⟨v.c,p⟩,λ_ _=>⟨⟨i-1,by rw[k],by have:=d.1;omega,by omega⟩,?_⟩⟩,trivial⟩;rw[k];have:=d.1;omega
def bty:FT:=vn bsV
def bu4{l c g Lw K}:=zZ bty bsV l c g Lw K (j:=by simp+contextual only[ij,Nb,ijm,bvo])
def bti:dO:=(88,bty)::bth
def buy:eJ bti:=it (By bsV)<|bux
def bpF:=ai @bu4<|@bvf
def btT:=bA 30 [(7,([6,7],[2,3])),(15,([6,8],[2,3,7])),(21,([6,10],[2,3,7,8,9])),(24,([6],[2,3,7,8,9,10]))]
def btK b a c R:=(.mk _:NF<|zF GG bti btT Tryz.f44 [.u, .u] [b,a] c<|I3 Tryz.f44 R).p
def bv4{c0:List AV}{b:List AV}{R:o8}(l0:L c0=15)(l1:L b=6)(h:H2 43 15 2 c0 46 6 3 b λia c d=>btK ia c d R):Ct 44 [.a c0, .a b] R:=z2 btT buy Tryz.func44 l0 l1 h
def wtN(c:sA)(n:Nat):Nat:=(aH n).countP λt=>Q<|(gd c.bm.ay t).cQ=3
def enN(w:am)(c:sA)(n:Nat):Nat:=(aH n).countP λ(t:Nat)=>aID w c (t:Int)
def buV{w:am}{c:sA}{t:Nat}(h:aID w c (t:Int)=U):¬(gd c.bm.ay t).cQ=3:=by obtain⟨k,e,f,g,i,a,j⟩:=bjy h;simp only[jm,bN] at a;have b:=a.2.2.2;intro d;simp only[lc,bh,d] at b;simp at b
def buD{w:am}{c:sA}:∀n,wtN c n+enN w c n<=n
 |0=>by simp[wtN,enN]
 |n+1=>by
  have b:=buD (w:=w) (c:=c) n
  have h:=buV (w:=w) (c:=c) (t:=n)
  simp only[wtN,enN,qn,List.countP_append,List.countP_cons,List.countP_nil] at b⊢
  by_cases a:aID w c (n:Int)=U
  ·have:=h a;simp only[a,this,aPy];simp;omega
  ·simp only[a];split<;>simp<;>omega
def bwe{c:sA}{ob:Int}:L (fO c.bm ob)<=wtN c (L c.bm.ay):=by simp only[fO,eh,bJ,wtN,<-List.countP_eq_length_filter];exact List.countP_mono_left λt _ h=>by simp only[pe,bN] at h;exact h.1
def bwf{w:am}{c:sA}{t:Int}:L (aOk w c t)<=wtN c (L c.bm.ay)+if wtN c (L c.bm.ay)=0 then 1 else 0:=by have h:=bwe (c:=c) (ob:=(evN w c t).nt);unfold aOk;split;omega;simp;split<;>omega
def bug{w:am}{c:sA}:∀n,L (aQo w c n)<=enN w c n*(wtN c (L c.bm.ay)+if wtN c (L c.bm.ay)=0 then 1 else 0)
 |0=>by simp[aQo]
 |n+1=>by
  have b:=bug (w:=w) (c:=c) n
  have d:=bwf (w:=w) (c:=c) (t:=n)
  rw[bj3,a6G]
  simp only[enN,qn,List.countP_append,List.countP_cons,List.countP_nil] at b⊢
  by_cases a:aID w c (n:Int)=U
  ·simp only[a,aNR,bJ,aj,Nat.add_mul,Nat.one_mul];omega
  ·simp only[a];simp;omega
def buf{w:am}{c:sA}(h:O4 w c)(d:L w.aQ.ay=L c.bm.ay)(f:L c.bm.ay<=4):L (aQo w c<|L w.aQ.ay)<=4:=by have a:=bug (w:=w) (c:=c)<|L w.aQ.ay;have b:=buD (w:=w) (c:=c)<|L w.aQ.ay;rw[d] at a b⊢;generalize enN w c (L c.bm.ay)=e at a b;generalize wtN c (L c.bm.ay)=t at a b;generalize L (aQo w c<|L c.bm.ay)=k at a;have:(t=0\/t=1\/t=2\/t=3\/t=4):=(by omega);rcases this with rfl|rfl|rfl|rfl|rfl<;>simp at a<;>omega
def bte{w:am}{c:sA}{ch:xd}:L (aN2 w c ch).order=L c.order+1:=by simp[aN2]
def buW{w:am}{c:sA}(h:O4 w c){t:Int}(b:aID w c t=U):L c.order<L w.ac:=by have a:=(h.step (ch:=⟨t,-1⟩) b).ol;rw[bte] at a;exact a
structure NdI(w:am)(x:TNd):Prop where
 ci:O4 w x.cf
 rn:aNT w (aNY w) x.pa=V x.cf
 ln:L x.pa=L x.cf.order
def NdI.sz{w:am}{x:TNd}(h:NdI w x)(f:aC2 w)(d:Po w=U)(v:L w.ac<=10):SzN x:=by
 obtain⟨j,A⟩:=aQA d
 obtain⟨c,q,n,p,b⟩:=tC j
 simp only[fN,bN,NA] at b
 have B:=c.ce
 have C:=c.fu
 have D:=b.2.1
 have E:=b.2.2.1
 obtain⟨F,G,H,m,K⟩:=h.ci.sz f.wo
 have t:=h.ci.ol
 have u:=h.ln
 have g:=h.ci.wk
 have o:=h.ci.ce
 have r:=h.ci.fu
 have s:=h.ci.fx
 have z:=f.wo
 exact⟨⟨⟨by omega,by omega,by omega,λi=>by
   by_cases k:i<L x.cf.bm.ak
   ·have:=m _<|dB k;omega
   ·rw[gd,eI,List.getElem?_eq_none<|by omega];decide⟩,by omega,by omega,by omega,by omega,λy l=>by rw[g];exact h.ci.od y l⟩,by omega⟩
def aTH(E:Nat)(b:List TNd):Nat:=(b.map λx=>5^(E-L x.cf.order)).sum
def buk{E:Nat}:∀(l:List TNd),L l<=aTH E l
 |[]=>by simp[aTH]
 |x::l=>by
  have b:=buk (E:=E) l
  have c:0<5^(E-L x.cf.order):=Nat.pow_pos (by decide)
  simp only[aTH,ji,List.sum_cons,bZ] at*
  omega
def bvD{E:Nat}{l l':List TNd}:aTH E (l++l')=aTH E l+aTH E l':=by simp[aTH]
def bul{E d:Nat}:∀{l:List TNd},(∀x∈l,L x.cf.order=d)->aTH E l=L l*5^(E-d)
 |[],_=>by simp[aTH]
 |x::l,h=>by
  have b:=bul (E:=E) (l:=l) λy f=>h y (by simp[f])
  have c:=h x (by simp)
  simp only[aTH,ji,List.sum_cons,bZ] at*
  rw[b,c,Nat.succ_mul];omega
def bvE{E:Nat}{b new:List TNd}{i:Nat}(c:i<L b)(k:new≠[]->L (gd b i).cf.order<E)(n:∀x∈new,L x.cf.order=L (gd b i).cf.order+1)(j:L new<=4):i+1+aTH E ((b++new).drop<|i+1)<=i+aTH E (b.drop i):=by have d:b.drop i=gd b i::b.drop (i+1):=(by rw[bT c];exact List.drop_eq_getElem_cons c);rw[List.drop_append_of_le_length (by omega),bvD,bul n,d];have f:aTH E (gd b i::b.drop (i+1))=5^(E-L (gd b i).cf.order)+aTH E (b.drop<|i+1):=(by simp[aTH]);rw[f];by_cases h:new=[];subst h;have:0<5^(E-L (gd b i).cf.order):=Nat.pow_pos (by decide);simp;omega;have o:=k h;obtain⟨m,l⟩:∃m,E-L (gd b i).cf.order=m+1:=⟨E-L (gd b i).cf.order-1,by omega⟩;have g:E-(L (gd b i).cf.order+1)=m:=(by omega);rw[l,g,Nat.pow_succ];have p:0<5^m:=Nat.pow_pos (by decide);have q:L new*5^m<=4*5^m:=Nat.mul_le_mul_right _ j;omega
def GrQ(Y:ae)(e:TypeId)(z:Nat)(a:AV)(aa:List<|List AV):Prop:=(∃o,a= .l aa U o)\/∃b m,a= .m b (L aa)/\box Y b=V ⟨e,z,U,I,aa++m⟩
section
variable{Y Y':ae}{e:TypeId}{z:Nat}{a:AV}{aa:List (List AV)}
theorem GrQ.fx{ks:List Id}(f:GrQ Y e z a aa)(d:Fx Y Y' ks)(g:∀b∈aA a,b∉ks):GrQ Y' e z a aa:=by rcases f with h|⟨b,m,rfl,c⟩;exact .inl h;exact .inr ⟨b,m,rfl,d.keep b _ (g b<|by simp[aA]) c⟩
theorem GrQ.ln(h:GrQ Y e z a aa):fS Y a=V (iv<|L aa):=by rcases h with⟨o,rfl⟩|⟨b,m,rfl,c⟩<;>simp[fS, *]
def GrQ.keys(h:GrQ Y e z a aa):J4 a=[]\/∃q∈aA a,J4 a=[q.1]:=by rcases h with⟨o,rfl⟩|⟨b,m,rfl,c⟩;exact .inl rfl;exact .inr ⟨b,by simp[aA],rfl⟩
def GrQ.ar(h:GrQ Y e z a aa):dG Y a= .l aa I I:=by rcases h with⟨o,rfl⟩|⟨b,m,rfl,c⟩;rfl;simp[dG,eR,gi,c,nrm,gK]
def bxK(g:bc Y e z a aa):GrQ Y e z a aa:=by rcases g with⟨c,rfl⟩|⟨b,d,f⟩;exact .inl ⟨U,by rw[c]⟩;exact .inr ⟨b,[],d,by rw[cL];exact f⟩
def apN{d j:Nat}{zs:List AV}{new:List (List AV)}{t o:Bool}{K:be}(u:GrQ Y e z a aa)(i:L zs=z)(k:0<z)(c:d<L Y)(s:∀r∈aa,L r=z)(q:∀r∈new,L r=z)(m:new≠[])(p:(L aa+L new)*(j+1)<=1099511627776)(n:∀f Y',GrQ Y' e z f (aa++new)->Fx Y Y' (aA a)->(∀b∈aA f,bK Y b/\b.1=d)->K f Y'):eV (cj e zs j Y d a<|.l new t o) K:=by rcases u with⟨o',rfl⟩|h;unfold cj;simp only[gL];rw[j1 (by simpa using m),hH ⟨by rw[i];exact k,by simp[vg,c],by rw[i];exact q⟩];rw[hH ⟨by rw[i];exact s,by simpa[lx] using p⟩];refine n _ _ (.inr ⟨lA Y d,[],by simp,?_⟩) ((kH c).mono<|by simp) (by simp[aA];exact⟨qQ Y d,rfl⟩);rw[<-i,cL];exact iy c;exact qs (.inr h) i k c s q m p λf Y' g F N=>n f Y' (bxK g) F N
def brl{i:Nat}(g:GrQ Y e z a aa)(f:i<L aa)(n:∀r∈aa,L r=z):∃p,cz z Y a (iv i)=V p/\(∀k,lS k Y p=aN k (aa.getD i []))/\(∀c,∃h,iQ c Y p=V h/\(∀k,lS k Y h=aN k ((aa.getD i []).drop c))/\(J4 h=[]\/∃q∈aA a,J4 h=[q.1]))/\(J4 p=[]\/∃q∈aA a,J4 p=[q.1]):=by have j:aa[i]?=V (aa.getD i []):=(by rw[eI,eC f];rfl);have l:L (aa.getD i [])=z:=n _ (by rw[eI,eC f];exact List.getElem_mem f);rcases g with⟨o,rfl⟩|⟨b,m,rfl,d⟩;refine⟨.q (aa.getD i []),by simp only[cz,bh,j,qd];rw[hH (by omega),hH l.symm],λk=>aC6,λc=>⟨.q<|(aa.getD i []).drop c,rfl,λk=>aC6, .inl rfl⟩, .inl rfl⟩;refine⟨.p b i 0,by simp[cz,d,f],λk=>?_,λc=>⟨.p b i c,by simp[iQ,d],λk=>?_, .inr ⟨b,by simp[aA],rfl⟩⟩, .inr ⟨b,by simp[aA],rfl⟩⟩;simp only[aC5,d,qd];rw[xe (by omega),j];rfl;simp only[aC5,d,qd];rw[xe (by omega),j];rfl
end
structure StF(x:ae)(w:am)(g:cJ)(a:AV)(ns:List TNd):Prop where
 hl:L x=4096
 b1:box x (2,1)=V ⟨43,15,U,U,[w.c]⟩
 b2:box x (3,1)=V ⟨46,6,U,U,[g.c]⟩
 ga:GrQ x 168 10 a (ns.map TNd.c)
 pa:∀q∈aA a,q.1=109
 nd:∀n∈ns,NdI w n
theorem StF.fx{x y:ae}{w:am}{g:cJ}{a:AV}{d:List TNd}{c:List Id}(S:StF x w g a d)(F:Fx x y c)(b:∀q∈c,q.1≠2/\q.1≠3/\q.1≠109):StF y w g a d:=⟨F.len.trans S.hl,F.keep _ _ (λh=>(b _ h).1 rfl) S.b1,F.keep _ _ (λh=>(b _ h).2.1 rfl) S.b2,S.ga.fx F λq f h=>(b q h).2.2<|S.pa q f,S.pa,S.nd⟩
def bqE{l:List TNd}:∀r∈l.map TNd.c,L r=10:=by intro r b;obtain⟨y,_,rfl⟩:=dN.1 b;rfl
def brP{l:List TNd}{i:Nat}(b:i<L l):(l.map TNd.c).getD i []=(gd l i).c:=by rw[eI,ve,eC b,bT b];rfl
def fdM(M:Nat)(vs:List AV)(y:ae):Nat:=match gt vs 1 with| .s (.int _ n)=>(M-n).toNat|_=>0
def bsR(w:am)(g:cJ)(hp:aC2 w/\Po w=U/\qC w g=U/\L g.cW<1000/\L w.ac<=10):Ct 44 [.a w.c, .a g.c] (λr=>∃(p:List xd) (b:Bool),r= .t [sl xd.c p,bv b]/\(b=U->biu w g p=U)/\L p<=10):=by
 obtain⟨K,ab,hg,aT,hE⟩:=hp
 generalize hQ:(λ(r:AV)=>∃(p:List xd) (b:Bool),r= .t [sl xd.c p,bv b]/\(b=U->biu w g p=U)/\L p<=10)=Qq
 refine aDq (bv4 rfl rfl λs4 X T b2 h0=>?_)
 have r6:aN (V 6) g.c=V (.a g.c):=rfl
 have arg:∀{Y:ae},dG Y (.a g.c)= .a g.c:=rfl
 have bf:L g.cW<4611686018427387904:=by omega
 have aF:∀{y:ae},aE (λr=>Qq<|B1 r) y [.l [] U U,bv I]:=λ{y}=>aOH (vs':=[sl xd.c [],bv I]) rfl rfl (by rw[<-hQ];exact⟨[],I,rfl,by simp,by simp⟩)
 have c0:=bhV ab
 have bS:bM btq [(0,9),(9,1)] [(0, .a (aNY w).c)]=V (.a<|(aNY w).c++[.l [] U U]):=rfl
 have bU:aX btn 1 s4 [(0, .a<|(aNY w).c++[.l [] U U])]=V (.l [TNd.c ⟨aNY w,[]⟩] U U,s4):=aQm (tgt:=TNd.c ⟨aNY w,[]⟩) rfl rfl (by decide) rfl (by decide)
 simp only[btK,qy 6,u0,u1,T,b2,z7,r6,rk,ar,arm,arg,bpF,K.wo,K.wo.wo,bf,hg,K,ab,bS,bU,fh,eE,aNG,aNU,bR,aj,↓uL]
 refine⟨.inl rfl,?_⟩
 have hM:5^L w.ac<=9765625:=Nat.le_trans (Nat.pow_le_pow_right (by decide) hE) (by decide)
 generalize hI:(λ(vs:List AV) (y:ae)=>∃(a:AV) (k:List TNd) (i:Nat),vs=[a,iv i]/\StF y w g a k/\i<=L k/\i+aTH (L w.ac) (k.drop i)<=5^L w.ac)=Iy
 obtain⟨M,da⟩:∃M:Nat,9765625<M:=⟨9765626,by decide⟩
 refine⟨Iy,fdM M,?_,?_⟩
 ·rw[<-hI]
  exact⟨_,[⟨aNY w,[]⟩],0,rfl,⟨X,T,b2, .inl ⟨U,rfl⟩,by simp[aA],by intro n hn;simp at hn;subst hn;exact⟨c0,rfl,rfl⟩⟩,by simp,by simp[aTH,aNY]⟩
 intro vs y hv
 rw[<-hI] at hv
 obtain⟨a,k,i,rfl,S,hi,hp⟩:=hv
 have cR:L k<=9765625:=by
  have:=buk (E:=L w.ac)<|k.drop i
  rw[List.length_drop] at this
  omega
 rcases q1:Q ((i:Int)<L k) with _|_
 ·simp only[qz 43,aI,u0,u1,S.ga.ln,bJ,q1,eE,aNG,aNU,bR,↓uL]
  exact aF
 have b7:∀x,mL (bv U) (bv U) x=V (bv U):=λ_=>rfl
 have b5:∀x,mL (bv I) x (bv I)=V (bv I):=λ_=>rfl
 have C:i<L k:=by have:=awG q1;omega
 have rn:∀{x:TNd},aN (V 9) ((TNd.c x).drop 0)=V (.a x.cf.c):=λ{x}=>rfl
 have cl:∀{x:TNd},aN (V 9) (TNd.c x)=V (.a x.cf.c):=λ{x}=>rfl
 have rp:∀{x:TNd},aN J ((TNd.c x).drop 9)=V (sl xd.c x.pa):=λ{x}=>rfl
 obtain⟨p,e1,e2,e3,e4⟩:=brl S.ga (i:=i) (by simpa using C) bqE
 obtain⟨p0,f1,f2,_⟩:=e3 0
 obtain⟨p9,f3,f4,_⟩:=e3 9
 rw[brP C] at f2 f4
 have N:=S.nd _<|dB C
 have hr:aN (V 9) (List.drop 0 (gd k i).c)=V (.a (gd k i).cf.c):=rn
 simp only[qz 43,aI,u0,u1,S.ga.ln,bJ,q1,S.b1,S.b2,z7,r6,rk,e1,f1,f2,f3,f4,rn,cl,rp,ar,arm,arg,bpF,K,N.ci,hg,aT,J7,sr,aNG,aNU,bR,u5,aj,↓uL]
 refine⟨λhh=>?_,λhh=>?_⟩
 ·exact aOH (vs':=[sl xd.c (gd k i).pa,bv U]) rfl rfl (by rw[<-hQ];exact⟨_,U,rfl,λ_=>by rw[bqn N.rn];exact hh,by have:=N.ln;have:=N.ci.ol;omega⟩)
 generalize W:(gd k i).cf=d at*
 have u:O4 w d:=by rw[<-W];exact N.ci
 have aP:L w.aQ.ay=L d.bm.ay:=by
  have h1:=u.ft
  simp only[lh,bN,NA] at h1
  omega
 have aM:L d.bm.ay<=4:=u.sy.th
 refine jD (α:=AV) (λa i=>[a,iv i]) 1 (L w.aQ.ay) (λt b z=>∃new,StF z w g b (k++new)/\L new<=L (aQo w d t)/\(∀x∈new,L x.cf.order=L d.order+1)/\(new≠[]->L d.order<L w.ac)) (s0:=a) ⟨[],by simpa using S,by simp,by simp,by simp⟩ ?_
 rintro t b z ht ⟨new,Sz,n1,n2,n3⟩
 obtain⟨p',bt,c8,bx,c9⟩:=brl Sz.ga (i:=i) (by simp;omega) bqE
 obtain⟨de,bz,aK,_⟩:=bx 0
 have bX:gd (k++new) i=gd k i:=by rw[bT (by simp;omega),bT C,aqO C]
 rw[brP (by simp;omega),bX] at aK
 have aZ:∀{x:TNd},x.cf=d->aN (V 9) (TNd.c x)=V (.a d.c):=λ{x} h=>by rw[<-h];rfl
 have cc:∀{Y:ae} {t:Int},fS Y (sl ci<|aOk w d t)=V (iv<|L<|aOk w d t):=cT
 simp only[qz 91,aI,u0,u1,Sz.b1,z7,rk,cT,bt,bz,aK,ip,aZ W,ar,arm,bpF,K,u,J7,bR,aj,Nat.reduceAdd,↓uL]
 refine⟨λh2=>⟨.inl rfl,?_⟩,λh2=>?_⟩
 rotate_left
 ·obtain rfl:t=L w.aQ.ay:=bP ht<|bw h2
  have hk:=buf u aP aM
  have dd:=bvE (E:=L w.ac) (new:=new) C (by rw[W];exact n3) (by rw[W];exact n2) (by omega)
  rw[eM (by omega)<|by omega]
  refine⟨?_,?_⟩
  ·rw[<-hI]
   exact⟨b,k++new,i+1,rfl,Sz,by simp;omega,by omega⟩
  ·show((M:Int)-((i:Int)+1)).toNat<((M:Int)-(i:Int)).toNat
   omega
 have b9:=aL h2
 refine jD (α:=AV) (λa i=>[a,iv i]) 1 (L<|aOk w d t) (λj O x=>∃o,StF x w g O (k++o)/\L o<=L (aQo w d t)+(if aID w d (t:Int)=U then j else 0)/\(∀x∈o,L x.cf.order=L d.order+1)/\(o≠[]->L d.order<L w.ac)) (s0:=b) ⟨new,Sz,by omega,n2,n3⟩ ?_
 rintro j O x hj ⟨o,Sx,m1,m2,m3⟩
 simp only[qz 127,aI,u0,u1,cc,↓uL]
 refine⟨λh3=>?_,λh3=>?_⟩
 rotate_left
 ·obtain rfl:j=L (aOk w d t):=bP hj<|bw h3
  refine dR (mk:=λ(a:AV) i=>[a,iv i]) (p:=1) (s:=b) (s':=O) (λ_ _=>rfl) b9 (by omega) ⟨o,Sx,?_,m2,m3⟩
  rw[bj3,a6G]
  by_cases he:aID w d (t:Int)=U
  ·simp only[he,aNR,bJ] at m1⊢;exact m1
  ·simp only[he] at m1⊢;simp at m1⊢;omega
 have aU:=aL h3
 refine bqF (λf=>∀aa ao A,StF ao w g aa (k++A)->L A<=L (aQo w d t)+(if aID w d (t:Int)=U then j+1 else 0)->(∀x∈A,L x.cf.order=L d.order+1)->(A≠[]->L d.order<L w.ac)->f [aa] ao) ?_ ?_
 ·intro aa ao A S2 o1 o2 o3
  simp only[qz 147,aI,u0,u1,↓uL]
  exact dR (mk:=λ(a:AV) i=>[a,iv i]) (p:=1) (s:=O) (s':=aa) (λ_ _=>rfl) aU (by have:=bkf u (t:=t);omega) ⟨A,S2,o1,o2,o3⟩
 intro f hJ
 simp only[qz 149,qy 8,u0,u1,ix,rk,qM,bh,↓uL]
 refine⟨dJ aU,?_⟩
 have aO:bM nJ C2 [(0,iv t),(1,iv<|gd (aOk w d t) j)]=V (.a<|xd.c ⟨t,gd (aOk w d t) j⟩):=rfl
 generalize bV:(⟨t,gd (aOk w d t) j⟩:xd)=ch at aO
 have al:ch.aq=t:=by rw[<-bV]
 have bp:∀{Y:ae},dG Y (.a ch.c)= .a ch.c:=rfl
 have a1:aN (V 2) ch.c=V (.a ch.c):=rfl
 simp only[aO,aY,↓uL]
 refine so Sx.hl λdh x1 F1 N1 c1=>?_
 refine qr c1 rfl rfl λx2 F2 c2=>?_
 have bj:Fx x x2 []:=(F1.trans F2).mono λq G=>by simp at G;subst G;exact .inr N1.no
 have S2:=Sx.fx bj (by simp)
 obtain⟨p2,g1,g2,g3,g4⟩:=brl S2.ga (i:=i) (by simp;omega) bqE
 obtain⟨p3,g5,g6,g9⟩:=g3 0
 obtain⟨p4,g7,g8,bD⟩:=g3 9
 have aR:gd (k++o) i=gd k i:=by rw[bT (by simp;omega),bT C,aqO C]
 rw[brP (by simp;omega),aR] at g6 g8
 simp only[qz 10,qy 12,u0,u1,S2.b1,c2,g1,g5,g6,a1,z7,rk,oe,ip,aZ W,ar,arm,bp,bpF,K,u,J7,bR,aj,↓uL]
 refine⟨.inl (by simp[nA,eB,iR,am.c,sA.c,xd.c,vb.c,mn.c,aW.c,sl]),?_⟩
 simp only[oJ,pG,aY,al,↓uL]
 refine anu S2.hl λdi x3 F3 N3 c3=>?_
 have F:=S2.fx F3 (by simp)
 have br:=F3.kq c2
 have B:∀{v:AV},(J4 v=[]\/∃q∈aA O,J4 v=[q.1])->J4 v=[]\/J4 v=[109]:=λh=>by
  rcases h with h|⟨q,G,h⟩
  ·exact .inl h
  ·rw[Sx.pa q G] at h;exact .inr h
 have P:=B Sx.ga.keys
 have k2:=B g4
 have k3:=B g9
 have k4:=B bD
 simp only[qz 14,↓uL]
 refine dT (by rcases P with P|P<;>rcases k2 with k2|k2<;>rcases k3 with k3|k3<;>simp[eL,lb,Qh,Cz,aTn,a6H,bc7,bc6,bnb,bo5,bo3,bo6,bo4,bjD,au,ck,P,k2,k3]) ?_
 have bC:dG x3 O=sl TNd.c (k++o):=F.ga.ar
 have cj:aN (V 6) g.c=V (.a g.c):=rfl
 rcases D:aID w d (t:Int) with _|_
 ·simp only[u0,u1,kN,jN,b7,↓uL]
  refine⟨λ_=>hJ O x3 o F ?_ m2 m3,λh=>by simp at h⟩
  simp only[D] at m1⊢
  simpa using m1
 simp only[u0,u1,fh,jA,c3,D,aNN,F.b1,F.b2,cj,z7,rk,oe,bC,ar,arm,arg,bpF,bd1,ip,aj,↓uL]
 have a0:O4 w (aN2 w d ch):=u.step (by rw[al];exact D)
 have bH:aNT w (aNY w) (gd k i).pa=V d:=by rw[<-W];exact N.rn
 have b6:L (gd k i).pa=L d.order:=by rw[<-W];exact N.ln
 have ap:=buW u D
 have aV:NdI w ⟨aN2 w d ch,(gd k i).pa++[ch]⟩:=⟨a0,bpG bH (by rw[al];exact D),by simp[bte,b6]⟩
 have b8:∀x∈k++o,SzN x:=λx hx=>(F.nd x hx).sz K ab hE
 have b3:L (k++o)<4611686018427387904:=by
  have h1:=buf u aP aM
  have h2:=bkf u (t:=t)
  have:L (aQo w d t)<=t*4:=bj4 u t
  rw[a6G]
  split at m1<;>omega
 generalize hX:eV (aX bh6 0 x3 []) _=iq
 have hx:iq:=by
  rw[<-hX]
  have bK:aX bh6 0 x3 []=V (.l [] U U,x3):=rfl
  obtain⟨p5,i1,i2,i3,i4⟩:=brl F.ga (i:=i) (by simp;omega) bqE
  obtain⟨p6,i5,i6,i7⟩:=i3 9
  rw[brP (by simp;omega),aR] at i6
  have k5:=B i4
  have k6:=B i7
  simp only[bK,bQ,qz 16,u0,u1,i1,i5,i6,rp,↓uL]
  refine gD bc.nil rfl (by decide) (by rw[F.hl];decide) (by simp) bnn (by simp;omega) λa5 x5 w5 F5 I5 J5=>?_
  have S5:=F.fx F5 (by simp[aA])
  have bs:=F5.keep _ _ (by simp[aA]) br
  have Z:∀q∈aA a5,q.1=103:=λq G=>(J5 q G).resolve_left (by simp[aA])
  have bd:aX bh6 1 x5 [(0, .a ch.c)]=V (.l ([ch].map xd.c) U U,x5):=ua rfl rfl rfl (by decide) rfl (by decide)
  simp only[qz 18,qy 20,u0,u1,bs,a1,bd,aj,↓uL]
  refine gD w5 rfl (by decide) (by rw[S5.hl];decide) (by simpa using bnn) bnn (by simp;omega) λa6 x6 w6 F6 I6 J6=>?_
  have S6:=S5.fx F6 (λq G=>by have:=Z q G;omega)
  have w7:=w6
  rw[dW,<-dg] at w7
  rcases w7 with⟨e6,_⟩|⟨H,rfl,h6⟩
  ·simp at e6
  have cX:H.1=103\/H.1=106:=(J6 H<|by simp[aA]).imp (λh=>Z _ h) id
  have bY:gm x6 52 2 (.m H<|L<|((gd k i).pa++[ch]).map xd.c) (((gd k i).pa++[ch]).map xd.c):= .inr ⟨H,[],rfl,by rw[cL];exact h6⟩
  have bL:bM btq [(0,9),(9,1)] [(0, .a (aN2 w d ch).c),(1, .m H<|L<|((gd k i).pa++[ch]).map xd.c)]=V (.a<|(aN2 w d ch).c++[.m H<|L<|((gd k i).pa++[ch]).map xd.c]):=rfl
  have bO:aX btn 1 x6 [(0, .a<|(aN2 w d ch).c++[.m H<|L<|((gd k i).pa++[ch]).map xd.c])]=V (.l ([(⟨aN2 w d ch,(gd k i).pa++[ch]⟩:TNd)].map TNd.c) U U,kills x6 [H]):=
   aQm (tgt:=TNd.c ⟨aN2 w d ch,(gd k i).pa++[ch]⟩) (by
    rw[dg]
    simp only[ji,List.map_nil,aOb bY]
    rfl) rfl (by decide) (by simp[TNd.c,sA.c,eN,sl]) (by decide)
  simp only[qz 22,qy 24,u0,u1,bL,bO,bQ,↓uL]
  have R:=S6.fx (aOp [H] x6) (by simp;omega)
  have db:L k+L o+1<=9765700:=by
   have h1:L (aQo w d t)<=t*4:=bj4 u t
   have h2:=bkf u (t:=t)
   split at m1<;>omega
  refine apN R.ga rfl (by decide) (by rw[R.hl];decide) bqE bqE (by simp) (by simp;omega) λa8 x8 g8 F8 N8=>?_
  have S8:StF x8 w g a8 (k++(o++[⟨aN2 w d ch,(gd k i).pa++[ch]⟩])):=by
   refine⟨F8.len.trans R.hl,F8.keep _ _ (λh=>by have:=R.pa _ h;simp at this) R.b1,F8.keep _ _ (λh=>by have:=R.pa _ h;simp at this) R.b2,?_,λq G=>(N8 q G).2,?_⟩
   ·rw[<-bje,dg];exact g8
   ·intro n hn
    rw[<-bje] at hn
    rcases dF.1 hn with h|h
    ·exact F.nd n h
    ·simp at h;subst h;exact aV
  have ka:J4 a5=[]\/J4 a5=[103]:=by
   rcases w5 with⟨_,rfl⟩|⟨b,rfl,_⟩
   ·exact .inl rfl
   ·have:=Z b (by simp[aA])
    exact .inr (by rw[<-this];rfl)
  simp only[qz 26,↓uL]
  refine dT (by rcases P with P|P<;>rcases k5 with k5|k5<;>rcases k6 with k6|k6<;>rcases ka with ka|ka<;>simp[eL,lb,Qh,Cz,aTn,a6H,bc7,bc6,bnb,bo5,bo3,bo6,bo4,bjD,bna,au,ck,P,k5,k6,ka]) ?_
  refine hJ a8 x8 _ S8 ?_ ?_ λ_=>ap
  ·simp only[D,aNR,a6G,bZ,List.length_nil] at m1⊢
   omega
  ·intro y hy
   rcases dF.1 hy with h|h
   ·exact m2 y h
   ·simp at h;subst h;exact bte
 refine⟨⟨b8,(aV.sz K ab hE).c,b3⟩,λb=>?_⟩
 rcases b with _|_
 ·simp only[u0,u1,jN,b5,eE,aNG,aNU,bR,↓uL]
  exact hx
 ·simp only[u0,u1,jA,ar,arm,arg,bpF,K,a0,hg,aT,J7,bR,↓uL]
  refine⟨λ_=>hJ O x3 o F ?_ m2 m3,λ_=>hx⟩
  simp only[D,aNR] at m1⊢
  omega
def btv:FT:=pn bsR
def bu1{w g Lw K}:=f211 btv bsR w g Lw K (j:=by simp+contextual only[ij,Nb])
def btk:dO:=(44,btv)::bti
def buz:eJ btk:=it (aN0 bsR)<|buy
def bq0:=ai @bu1<|@bpF
def btO:=bA 20 [(5,([11,25],[2,3,6,9,10,23,24])),(8,([11],[2,3,6,9,10,23,24,25]))]
def bsm a b c d R:=(.mk _:NF<|zF GG btk btO Tryz.f17 [.u,b,c] [a] d<|I3 Tryz.f17 R).p
def bvZ{c0:List AV}{b c:AV}{R:o8}(l0:L c0=15)(h:H1 43 15 3 c0 λia d=>bsm ia b c d R):Ct 17 [.a c0,b,c] R:=z1 btO buz Tryz.func17 l0 h
structure StV(x:ae)(w:am)(c:sA)(v3 v9:Nat)(z:List AV):Prop where
 hl:L x=4096
 b1:box x (3,1)=V ⟨43,15,U,U,[w.c]⟩
 b3:box x (6,v3)=V ⟨46,6,U,U,[z]⟩
 b9:box x (10,v9)=V ⟨57,9,U,U,[c.c]⟩
theorem StV.fx{x y:ae}{w:am}{c:sA}{d e:Nat}{z:List AV}{b:List Id}(S:StV x w c d e z)(F:Fx x y b)(a:∀q∈b,q.1≠3/\q.1≠6/\q.1≠10):StV y w c d e z:=⟨F.len.trans S.hl,F.keep _ _ (λh=>(a _ h).1 rfl) S.b1,F.keep _ _ (λh=>(a _ h).2.1 rfl) S.b3,F.keep _ _ (λh=>(a _ h).2.2 rfl) S.b9⟩
def bue(w:am)(l:List Int)(n:Int)(hp:aC2 w/\Po w=U/\L l<100000/\L w.ac<=10/\(0<=n/\n<256)):Ct 17 [.a w.c,sl ci l,u8v n] (λr=>∃(g:cJ) (p:List xd) (b:Bool),r= .t [.a g.c,sl xd.c p,bv b]/\(b=U->qC w g=U/\L g.cW<=4/\biu w g p=U/\L p<100000)):=by obtain⟨R,P,a0,hE,hn⟩:=hp;generalize hQ:(λ(r:AV)=>∃(g:cJ) (p:List xd) (b:Bool),r= .t [.a g.c,sl xd.c p,bv b]/\(b=U->qC w g=U/\L g.cW<=4/\biu w g p=U/\L p<100000))=Q;refine aDq (bvZ rfl λs2 N H h0=>?_);show bsm (.p (3,1) 0 0) (sl ci l) (u8v n) s2 λr=>Q<|B1 r;simp only[bsm,↓uL];refine so N λE s3 F3 N3 T=>?_;have d1:=F3.kq H;have ad:=F3.len.trans N;simp only[qz 4,qy 6,u0,u1,d1,z7,rk,ar,bq0,R,P,a0,ip,aj,bR,↓uL];rintro _ ⟨p,c,rfl,hr,br⟩;refine⟨.inl rfl,?_⟩;have hc:=(bhV P).run hr;simp only[oJ,pG,aY,↓uL];refine anu ad λv9 s9 F9 N9 b9=>?_;have S9:StV s9 w c E v9 aSa:=⟨F9.len.trans ad,F9.kq d1,F9.kq T,b9⟩;simp only[qz 8,u0,u1,S9.b1,z7,rk,ar,bq0,R.wo.wo,ip,aj,bR,↓uL];rintro _ ⟨A,rfl,aW,bq⟩;refine⟨.inl rfl,?_⟩;have af:∀{Y:ae},fS Y (sl cJ.c A)=V (iv<|L A):=cT;have u:∀{g:cJ},aN (V 6) g.c=V (.a g.c):=rfl;have arg:∀{Y:ae} {g:cJ},dG Y (.a g.c)= .a g.c:=rfl;simp only[af,aY,↓uL];refine jD (α:=AV) (λa i=>[a,iv i]) 1 (L A) (λk a x=>∃e:List cJ,StV x w c E v9 aSa/\gm x 46 6 a (e.map cJ.c)/\(∀q∈aA a,q.1=36)/\L e<=k/\∀g∈e,qC w g=U/\L g.cW<=4/\aOM w c g=U) (s0:= .l [] U U) ⟨[],S9, .inl ⟨rfl,rfl⟩,by simp[aA],by simp,by simp⟩ ?_;rintro k a x hk ⟨e,S,g,pa,bu,B⟩;have av:∀{Y:ae} {i:Int} {K:o8},rV (cz 6 Y (sl cJ.c A)<|iv i) K=(aF (L A) i/\K (.q<|cJ.c<|gd A i.toNat)):=aBz λ_=>rfl;simp only[qz 31,qy 18,qy 20,aI,u0,u1,g.ln,bJ,af,↓uL];refine⟨λh=>?_,λh=>?_⟩;have O:=aL h;refine bqF (λd=>∀(j:AV) (D:ae) (f:List cJ),StV D w c E v9 aSa->gm D 46 6 j (f.map cJ.c)->(∀q∈aA j,q.1=36)->L f<=k+1->(∀g∈f,qC w g=U/\L g.cW<=4/\aOM w c g=U)->d [j] D) ?_ ?_;intro j D f o1 o2 o3 o4 o5;simp only[qz 51,aI,u0,u1,↓uL];exact dR (mk:=λ(a:AV) i=>[a,iv i]) (p:=1) (s:=a) (s':=j) (λ_ _=>rfl) O (by omega) ⟨f,o1,o2,o3,o4,o5⟩;intro d hJ;simp only[qz 53,qy 10,u0,u1,av,aC6,u,bh,↓uL];refine⟨dJ O,?_⟩;have X:=aW _<|dB O;generalize gd A k=W at X;refine anu S.hl λbw x2 F2 N2 c2=>?_;have G:=S.fx F2 (by simp);have g2:=g.fx F2 (by simp);have aq:L W.cW<1000:=(by omega);simp only[qz 12,qy 14,qy 16,u0,u1,G.b1,G.b9,c2,z7,u,rk,oe,ar,arm,arg,bq0,R,hc,X,aq,ip,aj,bR,J7,↓uL];refine⟨λhh=>?_,λhh=>hJ a x2 e G g2 pa (by omega) B⟩;have aR:aX biV 1 x2 [(0, .a W.c)]=V (.l ([W].map cJ.c) U U,x2):=ua rfl rfl rfl (by decide) rfl (by decide);simp only[aR,bQ];refine O5 g2 G.hl bnm bnm (by simp) (by simp;omega) λa' x4 g4 F4 N4=>?_;(try simp only[qy 18,u0,↓uL]);refine hJ a' x4 (e++[W]) (G.fx F4 λq hq=>by have:=pa q hq;omega) (by rw[dg];exact g4.p) (λq hq=>(N4 q hq).2) (by simp;omega) λy hy=>?_;rcases dF.1 hy with h|h;exact B y h;simp at h;subst h;exact⟨X.1,X.2,hh⟩;have ez:dq.wrap n=n:=eM (by omega) (by omega);have Z:∀{y:ae} (g:cJ) (o:List xd) (b:Bool),(b=U->qC w g=U/\L g.cW<=4/\biu w g o=U/\L o<100000)->box y (6,E)=V ⟨46,6,U,U,[aSa]⟩->sV (aK 6 y (.p (6,E) 0 0)<|.a g.c) λs=>rV (((box s (6,E)).bind λx=>Option.map (λx=>x) x.aa[0]?).bind<|aN<|V 6) λv=>aE (λr=>Q<|B1 r) s [v,sl xd.c o,bv b]:=λ{y} g o b h hb=>(by refine qr hb rfl rfl λz F bz=>?_;simp only[bz,aww,aBF,Option.map_some,awx,u,aY,↓uL];refine aOH (vs':=[.a g.c,sl xd.c o,bv b]) rfl rfl ?_;rw[<-hQ];exact⟨g,o,b,rfl,h⟩);refine⟨λh2=>?_,λh2=>?_⟩;have bp:0<L e:=(by have:=awG h2;omega);have bs:=Int.tmod_nonneg (L e:Int) hn.1;have bt:=Int.tmod_lt_of_pos n (show(0:Int)<L e by omega);obtain⟨m,hm⟩:∃m:Nat,n.tmod (L e:Int)=m:=⟨(n.tmod (L e:Int)).toNat,by omega⟩;have C:m<L e:=(by omega);have gq:GrQ x 46 6 a (e.map cJ.c):=(by rcases g with⟨e1,rfl⟩|h;exact .inl ⟨U,by rw[e1]⟩;exact .inr h);obtain⟨p1,e1,e2,e3,e4⟩:=brl gq (i:=m) (by simpa using C) bnm;have aV:(e.map cJ.c).getD m []=(gd e m).c:=(by rw[eI,ve,eC C,bT C];rfl);rw[aV] at e2;have ha:=B _<|dB C;simp only[aS6,ez,aPR,aP1,hm,e1,e2,u,aY,↓uL];refine⟨by omega,Z _ p U (λ_=>⟨ha.1,ha.2.1,by rw[bqn hr];exact ha.2.2,by omega⟩) S.b3⟩;simp only[u0,u1,S.b1,z7,rk,ar,bq0,R.wo.wo,hn,J7,ip,aj,bR,↓uL];rintro _ ⟨g1,aB,rfl,aT⟩;refine⟨.inl rfl,?_⟩;simp only[oJ,pG,aY,↓uL];refine anu S.hl λbx x5 F5 N5 M=>?_;have S5:=S.fx F5 (by simp);rcases aB with _|_;simp only[qz 22,qy 26,u0,u1,M,u,kN,ip,aj,↓uL];refine⟨λ_=>?_,λh=>by simp at h⟩;refine qr S5.b3 rfl rfl λz F bz=>?_;simp only[qz 24,u0,u1,bz,u,ip,aj,↓uL];refine aOH (vs':=[.a g1.c,sl xd.c [],bv I]) rfl rfl ?_;rw[<-hQ];exact⟨g1,[],I,rfl,by simp⟩;obtain⟨ab,aU⟩:=aT rfl;have ap:L g1.cW<1000:=(by omega);simp only[qz 22,qy 26,u0,u1,M,S5.b1,z7,u,rk,ar,arg,bq0,R,P,ab,ap,hE,fh,J7,bR,ip,aj,↓uL];refine⟨λh=>by simp at h,λ_=>?_⟩;rintro _ ⟨o,b2,rfl,aQ,bi⟩;refine⟨.inl rfl,?_⟩;simp only[oJ,pG,aY,↓uL];(try simp only[u0,u1,M,u,ip,↓uL]);refine Z g1 o b2 (λhb=>⟨ab,aU,aQ hb,by omega⟩) S5.b3
def buF:FT:=vn bue
def bvM{w l n Lw K}:=zZ buF bue w l n Lw K (j:=by simp+contextual only[ij,Nb,bry])
def brz:dO:=(17,buF)::btk
def brW:eJ brz:=it (By bue)<|buz
def bxB:=ai @bvM<|@bq0
def btX:=bA 14 [(6,([13],[0,1,12]))]
def bst a b s0 R:=(.mk _:NF<|zF GG brz btX Tryz.f22 [a,b] [] s0<|I3 Tryz.f22 R).p
def bv9{a b:AV}{R:o8}(h:H0 λs0=>bst a b s0 R):Ct 22 [a,b] R:=z0 btX brW Tryz.func22 h
def bt1:=bA 7 [(1,([],[0,1])),(3,([0],[]))]
def brL a b s0 R:=(.mk _:NF<|zF GG brz bt1 Tryz.f106 [a,b] [] s0<|QDb Tryz.f106 R).p
def bvX{a b:AV}{s0:ae}{R:be}(h:brL a b s0 R):EB 106 [a,b] s0 R:=zB bt1 brW Tryz.func106 h
def bwd{a b:AV}{s0:ae}{R:be}(c:L s0=4096)(h:brL a b s0 R):EB 106 [a,b] s0 R:=by refine bvX ?_;exact h
def bt4{fn:Nat}{ys:List AV}{r:AV}{d:ae}{R:o8}(h:cZ aS GG fn ys eK r d)(g:kG (iZ d r)=U)(p:R<|iZ d r):Ct fn ys R:=by refine⟨_,p,g,h.1,λF w f n o j=>?_⟩;have e0:dw w [] β0 w eK β0:=axP Tryz.f56 w;have s0:m8 aS ⟨F,w.heap.size⟩ w eK β0:=⟨λb x a=>(by rw[py] at a;cases a),λb y x x' a _ _=>(by rw[py] at a;cases a),n,dA _⟩;refine(h.2 ⟨F,w.heap.size⟩ w β0 f s0 (o.ext e0) ⟨j.1,λi v x l m=>(j.2 i v x l m).ext e0⟩).mono ?_;rintro e z ⟨v,u,rfl,s,t,c⟩;exact⟨v,_,rfl,rfl,aBk t s g,⟨c.os,c.tape,c.output,c.size,λk q=>c.keep k q<|λb x a=>(by rw[py] at a;cases a)⟩⟩
def biR{l:List xd}:∀r∈l.map xd.c,L r=2:=by intro r a;obtain⟨y,_,rfl⟩:=dN.1 a;rfl
def bs1(l:List xd)(i:L l<1000000):Ct 54 [sl xd.c l] (λr=>∃t,r= .l (l.map xd.c) t U):=by obtain⟨r,a,g,h,_⟩:=bvz (aa:=l.map xd.c) biR (by simpa using i);rcases g with⟨d,rfl⟩|⟨b,rfl,f⟩;have:l=[]:=(by simpa using d);subst this;exact bt4 h rfl ⟨U,rfl⟩;have e:iZ a (.m b<|L<|l.map xd.c)= .l (l.map xd.c) I U:=(by simp only[iZ,dQ,f,aNR,List.take_length]);exact bt4 h (by rw[e];rfl) ⟨I,e⟩
def btD:FT:=om bs1
def bu9{l Lw K}:=f111 btD bs1 l Lw K (j:=by simp+contextual only[ij,Nb,a6A])
def bsX(a:List xd)(d:L a<4611686018427387904):Ct 22 [sl xd.c a,sl xd.c a] (·=bv U):=by refine bv9 λs0 i f=>?_;have b:∀x:xd,wl .neq 2 [(0,0),(1,0)] (.a x.c) (.a x.c)=V (bv I):=λx=>(by simp[wl,nW,xd.c,sS]);have e:∀{x:xd},aN (V 2) x.c=V (.a x.c):=λ{x}=>rfl;simp+contextual only[bst,u0,u1,mp,bR,↓uL];refine⟨by simp,λ_=>?_⟩;refine C7 (L a) (λ_=>True) trivial λk g _=>?_;simp+contextual only[qz 37,bst,u0,u1,boW,rk,oe,e,b,bh,mp,u5,bR,↓uL];exactλh=>⟨vp h,vp h,λ_=>gS (aL h) d trivial⟩
def btA:FT:=mT bsX
def bu6{a Lw K}:=f110 btA bsX a Lw K (j:=by simp+contextual only[ij,Nb,a6A])
def azI{e:TypeId}{z d a n:Nat}{zs:List AV}{Y:ae}{K:be}(k:L zs=z)(o:0<z)(c:d<L Y)(f:zs.all eN=U)(b:uj zs=I)(q:0<n)(p:n*(a+1)<=1099511627776)(j:∀v Y',Fx Y Y' []->bK Y (d,v)->box Y' (d,v)=V ⟨e,z,U,I,er n zs⟩->K (.m (d,v) n) Y'):eV (azA e zs a Y d (.l [] U U)<|iv n) K:=by have h:mz zs=zs:=(by simp[mz,b]);have g:(n:Int)*((a:Int)+1)<=1099511627776:=(by have:((n*(a+1):Nat):Int)<=1099511627776:=(by omega);rwa [Int.natCast_mul,Int.natCast_add] at this);have i:azA e zs a Y d (.l [] U U) (iv n)=V (.m (lA Y d) n,put Y d ⟨e,z,U,I,er n zs⟩):=(by simp only[azA,qO];rw[hH (by omega),hH ⟨by omega,Int.le_refl _,by omega,f,by simp[vg,c],by simpa[lx] using g⟩];simp[b,h,k]);rw[i];exact j _ _ (kH c) (qQ Y d)<|iy c
def bvx{n:Nat}{Y:ae}(c:L Y=4096)(g:n<1000000):∃r a,(gm a 52 2 r []/\Fx Y a []/\∀q∈aA r,bK Y q/\q.1=22)/\cZ aS GG 106 [.l [] U U,iv n] Y r a:=by refine bwd c ?_;have c0:cpA (.l [] U U)=V (iv 0):=rfl;have s0:∀{s:ae},fo 2 s (.l [] U U) J (V<|iv 0) J=V (.l [] U U):=λ{s}=>(by simp[fo,lM,qY]);have e:dq.wrap (n:Int)=n:=eM (by omega) (by omega);have l0:∀{s:ae},fS s (.l [] U U)=V (iv 0):=rfl;have f:dq.wrap 0=0:=rfl;simp only[qz 21,qz 6,qz 23,qz 9,qz 11,brL,di,aI,u0,u1,c0,s0,aY,Int.sub_self,Int.sub_zero,l0,e,f,↓uL];refine⟨λh=>(by simp at h;omega),λ_=>⟨λh=>?_,λ_=>?_⟩⟩;refine azI rfl (by decide) (by rw[c];decide) rfl rfl (by simpa using h) (by omega) λv Y' F N b=>?_;have d:fo 2 Y' (.m (22,v) n) J (V<|iv 0) J=V (.m (22,v) 0):=(by simp[fo,lM,qY,b]);simp only[qz 21,qz 6,qz 23,qz 9,qz 11,brL,u0,u1,l0,d,aY,↓uL];simp only[fe,aoz];exact⟨.inr ⟨_,_,rfl,b⟩,F,by simp[aA];exact N⟩;simp only[fe,aoz];exact⟨.inl ⟨rfl,rfl⟩,Fx.refl _ _,by simp[aA]⟩
def bsc:dO:=(54,btD)::(22,btA)::brz
def btf:eJ bsc:=it (rj bs1)<|it (pg bsX)<|brW
def bsC:=ai @bu9<|ai @bu6<|@bxB
def bt0:=bA 20 [(4,([3,11],[0,9,10])),(7,([3],[0,9,10,11])),(14,([6,27],[25,26]))]
def boV a s0 R:=(.mk _:NF<|zF GG bsc bt0 Tryz.f55 [a] [] s0<|I3 Tryz.f55 R).p
def bwc{a:AV}{R:o8}(h:H0 λs0=>boV a s0 R):Ct 55 [a] R:=z0 bt0 btf Tryz.func55 h
def chL(x:List xd):List AV:=[sl xd.c x]
def bvm{x y:List xd}:(sl xd.c x=sl xd.c y)=(x=y):=kL (by intro x y h;simpa[a6A] using h)
def bsK{l l':List (List xd)}:(sl chL l=sl chL l')=(l=l'):=kL (by intro x y h;simpa[chL,bvm] using h)
def bua{l:List (List xd)}{Y:ae}{i:Int}{K:o8}:rV (cz 1 Y (sl chL l)<|iv i) K=(aF (L l) i/\K (.q<|chL<|gd l i.toNat)):=aBz λ_=>rfl
section
variable{Y:ae}{e:TypeId}{z d by':Nat}{zs:List AV}{a:AV}{aa new:List (List AV)}{t o:Bool}
def buI{K:be}(f:gm Y e z a aa)(u:L zs=z)(n:0<z)(k:d<L Y)(s:∀r∈aa,L r=z)(q:∀r∈new,L r=z)(h:(L aa+L new)*(by'+1)<=1099511627776)(j:∀c Y',gm Y' e z c (aa++new)->Fx Y Y' (aA a)->K c Y'):eV (cj e zs by' Y d a<|.l new t o) K:=by by_cases i:new=[];subst i;have:cj e zs by' Y d a (.l [] t o)=V (a,Y):=(by rcases f with⟨rfl,rfl⟩|⟨b,m,rfl,h⟩;simp[cj,gL];simp[cj,gL,h]);rw[this];exact j _ _ (by rw[cL];exact f)<|Fx.refl _ _;exact qs f u n k s q i h λc Y' g F _=>j c Y' g.p F
def buo{R:o8}(g:gm Y e z a aa)(h:∀t,R<|.l aa t U):aE R Y [a]:=by unfold aE jS;rcases g with⟨c,f⟩|⟨b,m,rfl,i⟩;subst c f;exact⟨rfl,h U⟩;simp only[iZ,dQ,i,aNR,List.take_left'];exact⟨rfl,h I⟩
end
def bt3{b:List (List xd)}{k:Nat}(c:k<L b):(b.take<|k+1).flatten=(b.take k).flatten++gd b k:=by rw[List.take_succ,eC c,List.flatten_append];simp[gd,c]
def bt2(b:List<|List xd)(k:Nat):L (b.take k).flatten<=L b.flatten:=by(conv=>rhs;rw[<-List.take_append_drop k b,List.flatten_append,a6G]);omega
def bs2(b:List<|List xd)(M:L b.flatten<1000000/\L b<1000000):Ct 55 [sl chL b] (λr=>∃t,r= .l (b.flatten.map xd.c) t U):=by obtain⟨O,P⟩:=M;refine bwc λs0 u N=>?_;have j:∀{Y:ae},fS Y (sl chL b)=V (iv<|L b):=cT;have A:∀{Y:ae} {l:List xd},fS Y (sl xd.c l)=V (iv<|L l):=cT;have B:∀{x:List xd},aN J (chL x)=V (sl xd.c x):=λ{x}=>rfl;simp only[boV,u0,u1,j,↓uL];refine jD (α:=Int) (λa i=>[iv a,iv i]) 1 (L b) (λk a x=>x=s0/\a=(L (b.take k).flatten:Int)) (s0:=0) ⟨rfl,by simp⟩ ?_;rintro k _ _ K ⟨rfl,rfl⟩;simp only[qz 45,qz 47,qz 8,qz 85,qz 6,qz 25,boV,di,au,ck,aI,u0,u1,bua,bdJ,B,A,j,bh,↓uL];refine⟨λh=>?_,λh=>?_⟩;have f:=aL h;have n:=bt2 b<|k+1;have v:dq.wrap ((L (b.take k).flatten:Int)+(L (gd b k):Int))=(L (b.take<|k+1).flatten:Int):=(by rw[bt3 f,a6G] at n⊢;rw[eM (by omega)<|by omega];rfl);simp only[v];refine⟨dJ f,λH=>(by simp at H;omega),λ_=>?_⟩;exact dR (mk:=λ(a:Int) i=>[iv a,iv i]) (p:=1) (s:=(L (b.take k).flatten:Int)) (s':=(L (b.take<|k+1).flatten:Int)) (λ_ _=>rfl) f (by omega) ⟨rfl,rfl⟩;have m:L b<=k:=(by simpa using h);rw[oB m];refine jH rfl (bvx u<|by omega) ?_;rintro r x ⟨g,F,R⟩;refine⟨F.len,?_⟩;simp only[qz 45,qz 47,qz 8,qz 85,qz 6,qz 25,boV,u0,u1,j,↓uL];refine jD (α:=AV) (λa i=>[a,iv i]) 1 (L b) (λk a x=>L x=4096/\gm x 52 2 a ((b.take k).flatten.map xd.c)) (s0:=r) ⟨F.len.trans u,by simpa using g⟩ ?_;rintro k a y K ⟨w,G⟩;simp only[qz 45,qz 47,qz 8,qz 85,qz 6,qz 25,boV,au,ck,aI,u0,u1,bua,bdJ,B,j,bh,↓uL];refine⟨λh=>?_,λh=>?_⟩;have f:=aL h;refine⟨dJ f,?_⟩;have n:=bt2 b<|k+1;have q:=bt3 f;rw[q,a6G] at n;refine buI G rfl (by decide) (by rw[w];decide) biR biR (by simp only[bJ];omega) λE S D C=>?_;simp only[qz 45,qz 47,qz 8,qz 85,qz 6,qz 25,boV,au,ck,u0,u1,↓uL];exact dR (mk:=λ(a:AV) i=>[a,iv i]) (p:=1) (s:=a) (s':=E) (λ_ _=>rfl) f (by omega) ⟨C.len.trans w,by rw[q,dg];exact D⟩;have m:L b<=k:=(by simpa using h);rw[oB m] at G;exact buo G λt=>⟨t,rfl⟩
def btE:FT:=om bs2
def bva{ps Lw K}:=f111 btE bs2 ps Lw K (j:=by simp+contextual only[ij,Nb,a6A,bsK])
structure Ls(s:ae)(a:AV)(l:List xd):Prop where
 ar:dG s a=sl xd.c l
 ln:fS s a=V (iv<|L l)
 rt:∀{R:o8},R (sl xd.c l)->aE (λr=>R<|B1 r) s [a]
def Ls.of{s:ae}{l:List xd}{t o:Bool}:Ls s (.l (l.map xd.c) t o) l:=⟨by simp[dG,eR,gi,nrm,gK,sl],by simp[fS],λh=>⟨rfl,h⟩⟩
theorem Ls.gr{s:ae}{l:List xd}{a:AV}(h:bc s 52 2 a<|l.map xd.c):Ls s a l:=⟨h.p.ar,by rw[h.p.ln,bJ],λb=>buo h.p λt=>b⟩
def shM(s:ae):List AV->Nat:=λvs=>match fS s (gt vs 0),gt vs 1 with|some (.s<|.int _ n), .s (.int _ k)=>n.toNat*4000000+(k+1).toNat|_,_=>0
def bqH{s:ae}{a:AV}{l:List xd}{k:Nat}(h:Ls s a l):shM s [a,iv<|(k:Int)-1]=L l*4000000+k:=by simp only[shM,gt,List.getD_cons_zero,List.getD_cons_succ,h.ln];omega
def brU{l:List xd}{t:Bool}:uN (.l (l.map xd.c) t U)=U:=by simp[uN,bdZ,wD,xd.c,gY]
def btl:dO:=(55,btE)::bsc
def buA:eJ btl:=it (rj bs2)<|btf
def bsD:=ai @bva<|@bsC
def bro:=bA 14 [(7,([2,7],[3,4]))]
def bqC b a c d R:=(.mk _:NF<|zF GG btl bro Tryz.f21 [.u, .u,c] [b,a] d<|I3 Tryz.f21 R).p
def br4{c0:List AV}{b:List AV}{c:AV}{R:o8}(l0:L c0=15)(l1:L b=6)(h:H2 43 15 3 c0 46 6 4 b λia d e=>bqC ia d c e R):Ct 21 [.a c0, .a b,c] R:=z2 bro buA Tryz.func21 l0 l1 h
def bvR{l:List xd}{t o:Bool}{i:Nat}{Y:ae}{K:o8}(a:i<=L l)(h:∀b,K<|.l ((l.take i).map xd.c) b o):rV (fo 2 Y (.l (l.map xd.c) t o) J (V<|iv i) J) K:=by simp only[fo,lM];rw[hH<|by omega];simp only[qY,sD,mi,mh,bR,bJ,bh];rw[hH ⟨a,by simp[xd.c]⟩];simp only[rV,ip,Nat.sub_zero,<-List.map_take];exact h _
def bvS{l:List xd}{t o:Bool}{i:Nat}{Y:ae}{K:o8}(a:i<=L l)(h:∀b,K<|.l ((l.drop i).map xd.c) b o):rV (fo 2 Y (.l (l.map xd.c) t o) (V<|iv i) J J) K:=by simp only[fo,lM];rw[hH<|by omega];simp only[qY,sD,mi,dA,bR,bJ,bh];rw[hH ⟨a,by simp[xd.c]⟩];have:((l.map xd.c).drop i).take (L l-i)=(l.drop i).map xd.c:=(by rw[List.map_drop,oB<|by simp]);simp only[rV,this];exact h _
def buQ{x y:List xd}{t o b o':Bool}{Y:ae}{zs:List AV}(a:L zs=1):aX zs 2 Y [(0, .l (x.map xd.c) t o),(1, .l (y.map xd.c) b o')]=V (.l [chL x,chL y] U U,Y):=by obtain⟨z0,rfl⟩:=List.length_eq_one_iff.1 a;simp[aX,aly,eY,nrm,gK,eR,gi,eB,iR,kills,kC,chL,sl,eN];rfl
def shJ(s:ae)(a:List xd->Bool)(N:Nat)(T:List xd):aG:=λvs x=>x=s/\∃(t:Bool) (l:List xd) (k:Nat),vs=[.l (l.map xd.c) t U,iv<|(k:Int)-1]/\k<=L l/\L l<=N/\aUw a l k=T
def buN{Y:ae}{x y:List xd}:dG Y (.l [chL x,chL y] U U)=sl chL [x,y]:=rfl
def bqP(w:am)(g:cJ)(l:List xd)(D:aC2 w/\Po w=U/\qC w g=U/\L l<1000000):Ct 21 [.a w.c, .a g.c,sl xd.c l] (λr=>∃t,r= .l ((bfx w g l).map xd.c) t U):=by obtain⟨u,d,p,f⟩:=D;refine br4 rfl rfl λy G j m E=>?_;have v:aN (V 6) g.c=V (.a g.c):=rfl;have arg:dG y (.a g.c)= .a g.c:=rfl;have i:∀{Y:ae} {l:List xd} {t o:Bool},fS Y (.l (l.map xd.c) t o)=V (iv<|L l):=λ{Y l t o}=>(by simp[fS]);have z:∀{Y:ae} {l:List xd} {t o:Bool},dG Y (.l (l.map xd.c) t o)=sl xd.c l:=λ{Y l t o}=>(Ls.of (s:=Y)).ar;rcases b:biu w g l with _|_;simp only[bqC,u0,u1,j,m,z7,v,rk,oe,ar,arm,arg,bsD,aj,u,d,p,f,b,kN,bR,J7,↓uL];refine⟨λ_=>?_,λh=>by simp at h⟩;exact⟨rfl,U,by simp[bfx,b];rfl⟩;simp only[bqC,u0,u1,j,m,z7,v,rk,oe,ar,arm,arg,bsD,aj,u,d,p,f,b,fh,bR,J7,↓uL];refine⟨λh=>by simp at h,λ_ t=>⟨.inl rfl,?_⟩⟩;simp only[i,u0,u1,eM (show-9223372036854775808<=(L l:Int)-1 by omega) (show(L l:Int)-1<9223372036854775808 by omega),↓uL];refine⟨shJ y (biu w g) (L l)<|bfx w g l,λvs _=>shM y vs,⟨rfl,t,l,L l,rfl,dA _,dA _,by simp[bfx,b]⟩,?_⟩;rintro _ x ⟨rfl,t,l',k,rfl,F,B,n⟩;cases k with|zero=>simp only[qz 6,qz 43,bqC,aI,au,ck,u0,u1,↓uL];refine⟨λh=>by simp at h,λ_=>?_⟩;exact⟨rfl,t,by rw[<-n,bs9];rfl⟩|succ k=>have e:((k+1:Nat):Int)-1=k:=(by omega);have C:=bof (l:=l') (k:=k) (by omega);have m1:shM x [.l (l'.map xd.c) t U,iv (k:Int)]=L l'*4000000+(k+1):=(by rw[<-e];exact bqH .of);have A:[l'.take k,l'.drop<|k+1].flatten=bmV l' k:=(by simp[bmV]);simp only[e];simp only[qz 6,qz 43,bqC,aI,au,ck,u0,u1,fX (show k<4611686018427387904 by omega),↓uL];refine⟨λ_=>?_,λh=>aNK (bd2 h)<|by omega⟩;refine bvR (by omega) λt1=>bvS (by omega) λH=>?_;rw[buQ rfl];simp only[bQ,qz 6,qz 43,bqC,aI,au,ck,u0,u1,j,m,z7,v,rk,oe,jM,kU,jt,buN,z,ar,arm,arg,i,bsD,A,aj,↓uL];refine⟨⟨by omega,by simp⟩,λt3=>⟨.inr brU,⟨u,d,p,by omega⟩,λq=>?_,λq=>?_⟩⟩;rw[eM (by omega) (by omega),m1,bqH .of];exact⟨⟨rfl,t3,bmV l' k,L<|bmV l' k,rfl,dA _,by omega,by rw[<-n,btc (by omega) q,C]⟩,by omega⟩;rw[eM (by omega) (by omega),m1,bqH .of];exact⟨⟨rfl,t,l',k,rfl,by omega,B,by rw[<-n,bta q]⟩,by omega⟩
def bpJ:FT:=vn bqP
def bsJ{w g l Lw K}:=zZ bpJ bqP w g l Lw K (j:=by simp+contextual only[ij,Nb,a6A,bsK])
def buB:dO:=(21,bpJ)::btl
def bvW:eJ buB:=it (By bqP)<|buA
def brO:=ai @bsJ<|@bsD
def buj:=bA 23 [(15,([57],[7,8,11,56]))]
def brD a b c d R:=(.mk _:NF<|zF GG buB buj Tryz.f8 [.u,b,c] [a] d<|I3 Tryz.f8 R).p
def bwx{c0:List AV}{b c:AV}{R:o8}(l0:L c0=5)(h:H1 24 5 3 c0 λia d=>brD ia b c d R):Ct 8 [.a c0,b,c] R:=z1 buj bvW Tryz.func8 l0 h
def bvV(v:aOA)(l:List Int)(n:Int)(hp:aSr v/\L l<=reachBytes/\(0<=n/\n<256)):Ct 8 [.a v.cs,sl ci l,u8v n] (·=bv U):=by obtain⟨K,aQ,hn⟩:=hp;refine bwx rfl λs2 hl b1 h0=>?_;have r5:aN (V 5) v.cs=V (.a v.cs):=rfl;have an:∀{Y:ae},fS Y (sl ci l)=V (iv<|L l):=cT;simp only[brD,qy 4,an,u0,u1,b1,r5,ip,jM,kU,jt,baj,ar,brO,↓uL];refine⟨λ_=>trivial,λA=>⟨⟨K,by decide,by decide⟩,?_⟩⟩;have A:=bd2 A;rintro _ ⟨w,rfl,u,hf,aO⟩;refine⟨.inl (by simp[nA,eB,iR,aOA.cs,sl]),?_⟩;have H:=bnz hf u;refine anu hl λv7 s7 F7 N7 R=>?_;have B:=F7.len.trans hl;simp only[qz 6,qy 8,u0,u1,R,z7,ip,ar,brO,↓uL];refine⟨⟨H,u,by omega,by omega,hn⟩,?_⟩;rintro _ ⟨g,p,b,rfl,r⟩;refine⟨.inl rfl,?_⟩;simp only[oJ,pG,KM,aY,↓uL];refine anu B λv8 s8 N N8 S=>?_;have T:=N.kq R;have ac:=N.len.trans B;rcases b with _|_;simp only[qz 10,u0,u1,kN,↓iC,jM,jt,brO,↓uL];exact⟨by simp[lo,uN,bdZ,wD],trivial⟩;obtain⟨r,aP,E,aR⟩:=r rfl;have aa:L g.cW<1000:=(by omega);have af:L p<1000000:=(by omega);have r6:aN (V 6) g.c=V (.a g.c):=rfl;have arg:∀{Y:ae},dG Y (.a g.c)= .a g.c:=rfl;have P:∀{Y:ae} {l:List xd} {t o:Bool},dG Y (.l (l.map xd.c) t o)=sl xd.c l:=λ{Y l t o}=>(Ls.of (s:=Y)).ar;have am:∀{Y:ae} {l:List xd} {t o:Bool},fS Y (.l (l.map xd.c) t o)=V (iv<|L l):=λ{Y l t o}=>(by simp[fS]);have al:∀{Y:ae} {l:List xd},fS Y (sl xd.c l)=V (iv<|L l):=cT;have D:=btb (biu w g) p (L p) E (dA _) (λj h1 h2=>by omega);have e1:bfx w g p=aUw (biu w g) p (L p):=(by simp[bfx,E]);rw[<-e1] at D;obtain⟨f,ag,m⟩:=D;have W:bfx w g (bfx w g p)=bfx w g p:=(by have:∀q,biu w g q=U->bfx w g q=aUw (biu w g) q (L q):=λq h=>(by simp[bfx,h]);rw[this _ f];exact bvi m _<|dA _);generalize hq:bfx w g p=q at f ag m W;have Z:Q ((L p:Int)<(L q:Int))=I:=(by simp;omega);have ah:L q<1000000:=(by omega);have ak:L q<4611686018427387904:=(by omega);simp only[qz 10,u0,u1,Z,jA,qE,uO,aNN,aNZ,fh,kN,T,S,z7,r6,rk,ip,aj,jM,kU,jt,P,am,al,ar,arg,brO,H,u,r,aa,af,hq,f,ah,ak,W,bR,J7,↓uL];refine⟨λh=>(by simp at h),λ_ t=>⟨.inl rfl,λt1=>⟨.inl rfl,λh=>(by simp at h),λ_=>?_⟩⟩⟩;refine yV (L q) (λk _ x=>Fx s8 x []) (Fx.refl _ _) ?_;rintro k _ x hk F;have e7:=F.kq T;have e8:=F.kq S;have C:=F.len.trans ac;simp only[qz 14,qz 12,qz 91,qz 10,qz 6,qy 8,brD,qy 4,aI,au,ck,u0,u1,e7,e8,z7,r6,ip,aj,jM,jt,brO,↓uL];refine⟨λh=>?_,λh=>⟨.inl rfl,trivial⟩⟩;have e:=aL h;refine bvR (by omega) λt2=>?_;refine gD bc.nil rfl (by decide) (by rw[C];decide) (by simp) biR (by simp;omega) λa y G M N1 P1=>?_;rw[dW] at G;have ad:=M.len.trans C;simp only[qz 14,qz 12,qz 91,qz 10,qz 6,qy 8,brD,qy 4,aI,au,ck,u0,u1,fX (show k<4611686018427387904 by omega),↓uL];refine bvS (by omega) λt3=>?_;refine gD G rfl (by decide) (by rw[ad];decide) biR biR (by simp;omega) λa' z O F2 N2 _=>?_;rw[<-dg] at O;have hL:Ls z a' (bmV q k):= .gr O;have hc:=bof e;have K:=m k e;have X:L (bmV q k)<1000000:=(by omega);simp only[qz 14,qz 12,qz 91,qz 10,qz 6,qy 8,brD,qy 4,aI,au,ck,u0,u1,jM,kU,jt,hL.ar,ar,arg,brO,H,u,r,X,K,bR,J7,↓uL];refine dT ?_ ?_;rcases G with⟨_,rfl⟩|⟨b,rfl,_⟩;simp[eL,okT,tok,lb,Qh,J4,dC,dK];have d:b.1=65:=(by simpa[aA] using P1 b (by simp[aA]));simp[eL,okT,tok,lb,Qh,J4,dC,dK,d];refine⟨λh=>(by simp at h),λ_=>?_⟩;refine dR (mk:=λ(_:Unit) i=>[iv i]) (p:=0) (s:=()) (s':=()) (λ_ _=>rfl) e (by omega) ?_;refine(F.trans<|M.trans F2).mono λb d=> .inr ?_;have d:b∈aA a:=(by simpa[aA] using d);rcases N1 b d with h|h;simp[aA] at h;exactλw=>(h.old F).no w
end Go.Ab
