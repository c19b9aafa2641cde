/- Part of the proof of WitnessModels. -/
import Derived.Test.YthlflpfcfdpedaaGreatDoorF
set_option linter.all false
set_option maxRecDepth 100000
open And renaming intro->ai
open Bool renaming and_comm->aqr,and_eq_true->bN,false->I,false_eq_true->eE,false_or->lG,not_false->kN,not_true->fh,or_false->kz,true->U,true_and->iw,true_eq_false->sr
open Decidable renaming decide->Q
open Go.IntKind renaming i64->dq
open Go.Proofs.Tryz renaming prog->aS
open Int renaming toNat_natCast->bh,toNat_of_nonneg->bvj
open List renaming any_nil->Cv,append_assoc->bje,append_nil->cL,cons_append->zn,drop->aOz,drop_eq_getElem_cons->Cw,drop_zero->ip,filter_append->me,flatMap_cons->Cz,getD_eq_getElem?_getD->eI,getElem?_append_left->xe,getElem?_eq_getElem->eC,getElem?_map->ve,getElem?_set->xh,getElem_append_left->aqO,length->L,length_append->a6G,length_cons->bZ,length_filter_le->fZ,length_map->bJ,map_append->dg,map_cons->ji,map_nil->mU,mem_append->dF,mem_cons->eW,mem_filter->jW,mem_flatMap->iI,mem_map->dN,mem_range->fq,mem_singleton->cE,nil_append->dW,not_mem_nil->ql,range->aH,range_succ->qn,take_length->gV,take_of_length_le->oB,take_succ_eq_append_getElem->iJ
open Nat renaming le_antisymm->bP,lt_of_lt_of_le->C3,mul_le_mul->xn,reduceAdd->dc,zero_add->aj
open Ne renaming symm->Sa
open Option renaming bind_some->qd,getD_some->mi,none->J,some->V,some.injEq->bE
namespace Go.Ab
open Go Go.RowKit Go.Proofs
abbrev u8v(n:Int):AV:= .s<|.int .u8 n
def bry{a b:Int}:(u8v a=u8v b)=(a=b):=by simp
def bo1(w:am)(n:Int)(K:kB w/\0<=n/\n<256):Ct 10 [.a w.c,u8v n] (λr=>∃(g:cJ) (b:Bool),r= .t [.a g.c,bv b]/\(b=U->qC w g=U/\L g.cW<=4)):=by obtain⟨M,j,W⟩:=K;generalize E:(λ(r:AV)=>∃(g:cJ) (b:Bool),r= .t [.a g.c,bv b]/\(b=U->qC w g=U/\L g.cW<=4))=Qq;refine aDq (br0 rfl λP G x Z=>?_);show boQ (.p (2,1) 0 0) (u8v n) P λr=>Qq<|B1 r;simp only[boQ,↓uL];refine so G λu R v X y=>?_;have B:=v.kq x;have C:dq.wrap n=n:=eM (by omega) (by omega);simp only[qz 4,qy 6,qy 8,u0,u1,B,r15,rk,ar,boN,aj,↓uL];refine⟨M,?_⟩;rintro _ ⟨d,rfl,D,T⟩;have m:∀{Y:ae},fS Y (sl cJ.c d)=V (iv<|L d):=cT;have O:∀{g:cJ},aN (V 6) g.c=V (.a g.c):=λ{g}=>rfl;have q:∀{g:cJ} {f o:Bool},aN (V 6) (a7h g f o)=V (.a<|a7h g f o):=λ{g f o}=>rfl;have e:∀(g:cJ) (b f o:Bool),(b=U->qC w g=U/\L g.cW<=4)->sV (aK 6 R (.p (4,u) 0 0)<|.a<|a7h g f o) λi=>aw 6 i (.p (4,u) 0 0) λs=>aE (λr=>Qq<|B1 r) i [s,bv b]:=λg b f o h=>(by refine qr y rfl rfl λz F A=>?_;simp only[u0,u1,A,q,aj,↓uL];refine aOH (vs':=[.a g.c,bv b]) rfl rfl ?_;rw[<-E];exact⟨g,b,rfl,h⟩);refine⟨.inl rfl,?_⟩;simp only[m,u0,u1,aS6,C,↓uL];refine⟨λh=>?_,λh=>?_⟩;have N:bM aSa anY []=V (.a<|a7h ⟨0,0,0,0,0,[]⟩ U U):=rfl;simp only[N,aY,↓uL];exact e _ _ _ _ (by simp);have S:0<L d:=(by have:=be7 h;omega);have k:=Int.tmod_nonneg (L d:Int) j;have l:=Int.tmod_lt_of_pos n (show(0:Int)<L d by omega);simp only[aPR,aP1,ix,O,aY,u0,u1,↓uL];have H:=D _ (dB<|show(n.tmod (L d:Int)).toNat<L d by omega);exact⟨by omega,⟨k,l⟩,e _ U I I λ_=>H⟩
def bnr:FT:=pn bo1
def brr{w n Lw K}:=f211 bnr bo1 w n Lw K (j:=by simp+contextual only[ij,bry])
def yL(k:Nat):List Int:=(aH 4).map λi=>if i<k then 1 else 0
def uY(k:Nat):List aoC:=(aH 4).map λi=>⟨if i<k then 2 else if i=0 then 1 else 0,0,I⟩
def ku:am:=⟨aNE,4,⟨⟨List.replicate 3 ⟨-1,[]⟩,-1,[I],uY 4⟩,[0,1,0,0,0],[0],yL 4⟩,[⟨0,4,0,1,0,[],[]⟩,⟨1,4,0,2,6,[],[]⟩]⟩
def aoM:Po ku=U:=by kernel_rfl
def aoL:hU ku:=by refine⟨by decide,?_,?_,by decide⟩;intro l b;have:l=⟨-1,[]⟩:=List.eq_of_mem_replicate b;subst this;decide;intro e a;have:e=⟨0,4,0,1,0,[],[]⟩\/e=⟨1,4,0,2,6,[],[]⟩:=(by simpa[ku] using a);rcases this with rfl|rfl<;>exact⟨by decide,by decide⟩
def a6e{fn:Nat}{ys:List AV}{r:AV}(h:Ct fn ys (·=r)):bs4 aS GG fn ys (·=r):=by obtain⟨a,rfl,_,h⟩:=h;exact h
def aS5{fn:Nat}{e:TypeId}{z:Nat}(h:∀aa:List<|List AV,(∀r∈aa,L r=z)->L aa<1000000->∃r a,bc a e z r aa/\cZ aS GG fn [.l aa I I] eK r a/\(aa=[]->r= .l [] U U))(aa:List<|List AV)(f:∀r∈aa,L r=z)(i:L aa<1000000):∃r a,cZ aS GG fn [.l aa I I] eK r a/\(aa=[]->r= .l [] U U)/\(aa≠[]->∃b,r= .m b (L aa)/\box a b=V ⟨e,z,U,I,aa⟩):=by obtain⟨r,a,g,j,d⟩:=h aa f i;refine⟨r,a,j,d,λc=>?_⟩;rcases g with⟨e,_⟩|g;exact aO6 e c;exact g
def GGR:nn:=⟨GG.glob,λf=>aB1.elem f||Nat.beq f 47,GG.rd,GG.nw,I,λ_=>J⟩
def bhX:cJ:=⟨1,0,1,0,0,[]⟩
def bnl:qC ku bhX=U:=by kernel_rfl
def bpm:biu ku bhX []=U:=by kernel_rfl
def knC:aPP:=⟨[],[(133,3,1),(132,4,1),(182,85,3),(204,2,1),(131,157,2)]⟩
def bng:aSn aS GGR knC:=by refine⟨λ_=>rfl,λp c=>by simp[knC] at c,λp c=>?_⟩;simp only[knC,eW,ql,a7c] at c;rcases c with rfl|rfl|rfl|rfl|rfl;exact aS5 λaa a b=>aCM a b;exact aS5 λaa a b=>aCL a b;exact aS5 λaa a b=>aCK a b;exact aS5 λaa a b=>aCN a b;exact aS5 λaa a b=>bnc a b
noncomputable def aX0(T:aPP)(f:Func)(xs:List AV)(x:AV):Bool:=match f.body with
 |some c=>match ev aS GGR T 3000 c (start f xs) (ly f) with
  |some p=>aQ0 p.1&&(match yB aS f p.2.1 p.2.2 with|some r=>xqA 9 r x|none=>I)
  |none=>I
 |none=>I
def be9{T:aPP}(i:aSn aS GGR T){fn:Nat}{f:Func}{xs:List AV}{x:AV}(l:L xs<=f.ntmps)(k:aS.funcs[fn]?=V f)(m:(f.name== "runtime.NumGoroutine")=I)(d:kG x=U)(h:aX0 T f xs x=U):Ct fn xs (·=x):=by unfold aX0 at h;split at h;rename_i c j;split at h;rename_i p n;obtain⟨e,o,Y⟩:=p;simp only[bN] at h;obtain⟨g,a⟩:=h;split at a;rename_i r b;obtain rfl:=aYn a;refine aBg (G:=GGR) ready k j m l<|bbl ready i 3000 c _ _ e o Y n _ ?_;rcases aWD g with rfl|rfl;exact⟨_,b,d,rfl⟩;exact⟨_,b,d,rfl⟩;(cases a);(cases h);cases h
set_option maxRecDepth 100000 in
def bqm:aX0 knC Tryz.f45 [.a ku.c] (bv U)=U:=by kernel_rfl
def knT:aPP:=⟨[(45,[.a ku.c],bv U),(29,[.a ku.c],bv U),(46,[.a ku.c, .a bhX.c],bv U),(12,[.a ku.c, .a bhX.c,sl xd.c []],bv U)],knC.cl⟩
def bdF:aSn aS GGR knT:=by have b:=bnz aoL aoM;refine⟨λ_=>rfl,λp a=>?_,λp a=>?_⟩;simp only[knT,eW,ql,a7c] at a;rcases a with rfl|rfl|rfl|rfl;exact a6e (be9 bng (by decide) Tryz.func45 (by kernel_rfl) rfl bqm);have h:=O8 ku aoL;rw[aoM] at h;exact a6e h;exact a6e<|NV ku bhX ⟨b.wo,bnl⟩;have h:=biL ku bhX [] ⟨b,aoM,bnl,by decide⟩;rw[bpm] at h;exact a6e h;obtain⟨_,_,h⟩:=bng;exact h p a
set_option maxRecDepth 100000 in
def bal:aX0 knT Tryz.f11 [] (bv U)=U:=by kernel_rfl
def bjI:Ct 11 [] (·=bv U):=by exact be9 bdF (Nat.zero_le _) Tryz.func11 (by kernel_rfl) rfl bal
def biA:FT:=BJ bjI
def bol{Lw K}:=al2 biA bjI Lw K
def bpP:dO:=(10,bnr)::(11,biA)::bny
def bpO:eJ bpP:=it (aN0 bo1)<|it (apM bjI)<|bpN
def bij:=ai @brr<|ai @bol<|@boN

def baj{v:aOA}{Y:ae}:dG Y (.a v.cs)= .a v.cs:=rfl
def bqX:dO:=bpP
def bpE:eJ bqX:=bpO
def boZ:=@bij
def btP:=bA 13 [(6,([5],[0,1]))]
def bsn a b s0 R:=(.mk _:NR bqX btP Tryz.f232 [a,b] [] s0 R).p
def bv0{a b:AV}{R:o8}(h:H0 λs0=>bsn a b s0 R):Ct 232 [a,b] R:=z0 btP bpE Tryz.func232 h
def bsp a b s0 R:=(.mk _:NR bqX btP Tryz.f195 [a,b] [] s0 R).p
def bv3{a b:AV}{R:o8}(h:H0 λs0=>bsp a b s0 R):Ct 195 [a,b] R:=z0 btP bpE Tryz.func195 h
def bso a b s0 R:=(.mk _:NR bqX btP Tryz.f196 [a,b] [] s0 R).p
def bv2{a b:AV}{R:o8}(h:H0 λs0=>bso a b s0 R):Ct 196 [a,b] R:=z0 btP bpE Tryz.func196 h
def btW:=bA 17 [(4,([5,6,7],[2,3])),(7,([5,6],[2,3,7])),(8,([5],[2,3,6,7]))]
def bss a b c R:=(.mk _:NR bqX btW Tryz.f193 [.u, .u] [a,b] c R).p
def bv8{c0:List AV}{b:List AV}{R:o8}(l0:L c0=9)(l1:L b=6)(h:H2 57 9 2 c0 46 6 3 b λia c d=>bss ia c d R):Ct 193 [.a c0, .a b] R:=z2 btW bpE Tryz.func193 l0 l1 h
def btU:=bA 13 [(6,([5],[2,3]))]
def bsr a b c R:=(.mk _:NR bqX btU Tryz.f192 [.u, .u] [a,b] c R).p
def bv6{c0:List AV}{b:List AV}{R:o8}(l0:L c0=9)(l1:L b=9)(h:H2 57 9 2 c0 57 9 3 b λia c d=>bsr ia c d R):Ct 192 [.a c0, .a b] R:=z2 btU bpE Tryz.func192 l0 l1 h
def bsM(a b:List Int)(d:L a<4611686018427387904):Ct 232 [sl ci a,sl ci b] (λr=>isB r):=by refine bv0 λs0 g e=>?_;simp+contextual only[bsn,u0,u1,aNP,NA,I9,↓uL];intro h;have c:L a=L b:=(by simp at h;omega);refine C7 (L a) (λ_=>True) trivial λk f _=>?_;simp+contextual only[qz 37,bsn,u0,u1,ix,rk,bh,aNP,NA,aNR,I9,↓uL];exactλh=>⟨vp h,by rw[<-c];exact vp h,λ_=>gS (aL h) d trivial⟩
def btr:FT:=pn bsM
def buX{a b Lw K}:=f211 btr bsM a b Lw K (j:=by simp+contextual only[ij,Nb,ijm,mD])
def bsQ(a b:List aB9)(i:L a<4611686018427387904):Ct 195 [sl aB9.c a,sl aB9.c b] (λr=>isB r):=by refine bv3 λs0 q o=>?_;have d:∀x y:aB9,∃r:Bool,wl .neq 2 [(0,0),(1,1)] (.a x.c) (.a y.c)=V (bv r):=λx y=>(by obtain⟨l,j⟩:=x;obtain⟨n,m⟩:=y;rcases e:Q (l=n) with _|_<;>rcases f:Q (j=m) with _|_<;>simp at e f<;>simp[wl,nW,aB9.c,sS,e,f]);simp+contextual only[bsp,u0,u1,aNP,NA,I9,↓uL];intro h;have g:L a=L b:=(by simp at h;omega);refine C7 (L a) (λ_=>True) trivial λk p _=>?_;obtain⟨r,d⟩:=d (gd a k)<|gd b k;simp+contextual only[qz 37,bsp,u0,u1,boX,rk,oe,d,bh,aNP,NA,aNR,I9,↓uL];exactλh=>⟨vp h,by rw[<-g];exact vp h,λ_=>gS (aL h) i trivial⟩
def btu:FT:=pn bsQ
def bu0{a b Lw K}:=f211 btu bsQ a b Lw K (j:=by simp+contextual only[ij,Nb,ijm,mD])
def bsP(a b:List Bool)(d:L a<4611686018427387904):Ct 196 [sl cb a,sl cb b] (λr=>isB r):=by refine bv2 λs0 g e=>?_;simp+contextual only[bso,u0,u1,aNP,NA,I9,↓uL];intro h;have c:L a=L b:=(by simp at h;omega);refine C7 (L a) (λ_=>True) trivial λk f _=>?_;simp+contextual only[qz 37,bso,u0,u1,ix,rk,bh,aNP,NA,aNR,I9,↓uL];exactλh=>⟨vp h,by rw[<-c];exact vp h,λ_=>gS (aL h) d trivial⟩
def btt:FT:=pn bsP
def buZ{a b Lw K}:=f211 btt bsP a b Lw K (j:=by simp+contextual only[ij,Nb,ijm,mD])
def bsW(c:sA)(g:cJ)(w:L c.order<1000000/\∀x∈c.order,aF (L c.woke) x):Ct 193 [.a c.c, .a g.c] (λr=>∃n:Int,r=iv n):=by obtain⟨B,v⟩:=w;refine bv8 rfl rfl λF A l o y=>?_;have E:∀{i:Nat},aN J (g.c.drop i)=(g.c.drop i)[0]?:=λ{i}=>rfl;simp only[bss,↓uL];refine yh (λs:Int×Int×Nat=>[iv s.1,iv s.2.1,iv s.2.2]) 2 (L c.order) (λs=>s.2.2<=L c.order/\(0<=s.1->g.ea∈c.order)) (-1,-1,0) ⟨by simp,by simp⟩ ?_;rintro⟨a,b,i⟩ ⟨z,k⟩;have p:∀x,mL (bv I) x (bv I)=V (bv I):=λ_=>rfl;have u:∀n:Int,(∃m:Int,iv n=iv m)=True:=λn=>bur ⟨n,rfl⟩;have nx:∀(e j:Int),i<L c.order->(0<=e->g.ea∈c.order)->tI (λs:Int×Int×Nat=>[iv s.1,iv s.2.1,iv s.2.2]) (λs=>s.2.2<=L c.order/\(0<=s.1->g.ea∈c.order)) [iv e,iv j,iv<|dq.wrap<|(i:Int)+1]/\pM 2 (L c.order) [iv e,iv j,iv<|dq.wrap<|(i:Int)+1]<pM 2 (L c.order) [iv a,iv b,iv i]:=λe j d h=>(by refine wN (enc:=λs:Int×Int×Nat=>[iv s.1,iv s.2.1,iv s.2.2]) (s:=(a,b,i)) (s':=(e,j,i+1)) (i:=i) ?_ rfl rfl d ⟨d,h⟩;rw[eM (by omega)<|by omega];rfl);simp only[qz 45,qz 51,qz 53,qz 47,qz 25,bss,aOe,aI,u0,u1,ix,rk,oe,l,o,aj,bh,u,NA,aNR,I9,↓uL];refine⟨λh=>?_,λh=>?_⟩;(focus have d:=aL h;have f:=dJ d;refine⟨f,λt=>⟨f,λ_=>nx _ _ d ?_,λ_=>nx _ _ d ?_⟩,λ_=>⟨f,λ_=>nx _ _ d k,λ_=>nx _ _ d k⟩⟩;all_goals(intro _;have:=aNK t;rw[<-this];exact dB d));(focus rcases C:Q (g.kind=3) with _|_<;>rcases D:Q (g.kind=4) with _|_<;>rcases q:Q (a>=0) with _|_<;>simp only[u0,u1,q,jA,jN,l,o,ix,rk,oe,aj,NA,aNR,I9,↓uL];(all_goals(try simp only[p,u0,u1,jN,NA,aNR,I9,↓uL]));all_goals exact v _ (k<|aNK q))
def btz:FT:=pn bsW
def bu5{c g Lw K}:=f211 btz bsW c g Lw K (j:=by simp+contextual only[ij,Nb,ijm,mD])
def bsT(a b:sA)(f:L a.order<4611686018427387904/\L b.order<4611686018427387904):Ct 192 [.a a.c, .a b.c] (λr=>isB r):=by refine bv6 rfl rfl λl j d e g=>?_;simp+contextual only[bsr,u0,u1,d,e,rk,oe,aj,aNP,NA,I9,↓uL];intro h;refine C7 (L a.order) (λ_=>True) trivial λk i _=>?_;simp+contextual only[qz 37,bsr,u0,u1,d,e,ix,rk,oe,ar,boZ,aj,bh,aNP,NA,aNR,I9,f,↓uL];exactλh=>⟨vp h,λ_=>gS (aL h) f.1 trivial⟩
def btx:FT:=pn bsT
def bu3{a b Lw K}:=f211 btx bsT a b Lw K (j:=by simp+contextual only[ij,Nb,ijm,mD])
def btg:dO:=(232,btr)::(195,btu)::(196,btt)::(193,btz)::(192,btx)::bqX
def buv:eJ btg:=it (aN0 bsM)<|it (aN0 bsQ)<|it (aN0 bsP)<|it (aN0 bsW)<|it (aN0 bsT)<|bpE
def bt7:=ai @buX<|ai @bu0<|ai @buZ<|ai @bu5<|ai @bu3<|@boZ
def btQ:=bA 29 [(6,([5],[2,3])),(14,([6],[2,3])),(22,([7],[2,3]))]
def btJ a b c R:=(.mk _:NR btg btQ Tryz.f194 [.u, .u] [a,b] c R).p
def bv1{c0:List AV}{b:List AV}{R:o8}(l0:L c0=4)(l1:L b=4)(h:H2 36 4 2 c0 36 4 3 b λia c d=>btJ ia c d R):Ct 194 [.a c0, .a b] R:=z2 btQ buv Tryz.func194 l0 l1 h
def SzS(s:aW):Prop:=L s.ak<1000000/\L s.done<1000000/\L s.ay<1000000/\∀i,L (gd s.ak i).bk<1000000
def bsO(s t:aW)(C:SzS s/\SzS t):Ct 194 [.a s.c, .a t.c] (λr=>isB r):=by obtain⟨⟨N,O,P,v⟩,R,S,T,W⟩:=C;refine bv1 rfl rfl λs4 Z b d X=>?_;have f:∀x,mL (bv U) (bv U) x=V (bv U):=λ_=>rfl;have e:∀x y:aoC,∃r:Bool,wl .neq 2 [(0,0),(1,0),(2,1)] (.a x.c) (.a y.c)=V (bv r):=λx y=>(by obtain⟨F,G,E⟩:=x;obtain⟨K,M,H⟩:=y;rcases j:Q (F=K) with _|_<;>rcases m:Q (G=M) with _|_<;>rcases l:Q (E=H) with _|_<;>simp at j l m<;>simp[wl,nW,aoC.c,sS,j,l,m]);rcases D:Q (s.tx≠t.tx) with _|_<;>rcases p:Q ((L s.ak:Int)≠L t.ak) with _|_<;>rcases q:Q ((L s.done:Int)≠L t.done) with _|_<;>rcases u:Q ((L s.ay:Int)≠L t.ay) with _|_<;>simp only[btJ,u0,u1,b,d,rk,D,p,q,u,jA,jN,f,fh,kN,lG,kz,Bool.true_or,Bool.or_true,aj,aNP,NA,I9,eE,sr,aNU,aOw,↓uL];have z:L s.ak=L t.ak:=(by simp at p;omega);have A:L s.done=L t.done:=(by simp at q;omega);have B:L s.ay=L t.ay:=(by simp at u;omega);refine C7 (L s.ak) (λ_=>True) trivial λk n _=>?_;simp only[qz 37,aI,u0,u1,b,d,ix,rk,ar,bt7,aj,bh,aNP,NA,aNR,I9,↓uL];refine⟨λh=>?_,λh=>?_⟩;have g:=aL h;have i:=dJ g;have o:aF (L t.ak) (k:Int):=(by rw[<-z];exact i);have w:L (gd s.ak k).bk<4611686018427387904:=(by have:=v k;omega);refine⟨i,o,?_⟩;rcases p1:Q ((gd s.ak k).pw≠(gd t.ak k).pw) with _|_;simp only[u0,u1,b,d,ix,rk,ar,bt7,bd1,jA,f,i,o,w,kN,aj,bh,aNP,NA,aNR,I9,↓uL];exactλ_ _=>gS g (by omega) trivial;simp only[u0,u1,jN,f,fh,sr,aNU,NA,aNR,↓uL];refine C7 (L s.done) (λ_=>True) trivial λk n _=>?_;simp only[qz 85,aI,u0,u1,b,d,ix,rk,aj,bh,aNP,NA,aNR,I9,↓uL];refine⟨λh=>⟨vp h,by rw[<-A];exact vp h,λ_=>gS (aL h) (by omega) trivial⟩,λh=>?_⟩;refine C7 (L s.ay) (λ_=>True) trivial λk n _=>?_;obtain⟨r,e⟩:=e (gd s.ay k)<|gd t.ay k;simp only[qz 133,aI,u0,u1,b,d,ix,rk,e,aj,bh,aNP,NA,aNR,I9,↓uL];exactλh=>⟨vp h,by rw[<-B];exact vp h,λ_=>gS (aL h) (by omega) trivial⟩
def bts:FT:=pn bsO
def buY{s t Lw K}:=f211 bts bsO s t Lw K
def bsa:dO:=(194,bts)::btg
def buw:eJ bsa:=it (aN0 bsO)<|buv
def bpD:=ai @buY<|@bt7
def bsq a b c d R:=(.mk _:NR bsa at1 Tryz.f145 [.u, .u, .u] [a,b,c] d R).p
def bv5{c0:List AV}{b:List AV}{c:List AV}{R:o8}(l0:L c0=9)(l1:L b=9)(d:L c=6)(h:H3 57 9 3 c0 57 9 4 b 46 6 5 c λf g i e=>bsq f g i e R):Ct 145 [.a c0, .a b, .a c] R:=z3 at1 buw Tryz.func145 l0 l1 d h
structure SzC(c:sA):Prop where
 sy:SzS c.mp
 ce:L c.cells<1000000
 fu:L c.bU<1000000
 fx:L c.fixed<1000000
 od:L c.order<1000000
 wk:∀x∈c.order,aF (L c.woke) x
def bsS(a b:sA)(g:cJ)(y:SzC a/\SzC b):Ct 145 [.a a.c, .a b.c, .a g.c] (λr=>isB r):=by obtain⟨e,j⟩:=y;refine bv5 rfl rfl rfl λD B f i v A=>?_;have p:L a.order<4611686018427387904:=(by have:=e.od;omega);have q:L a.cells<4611686018427387904:=(by have:=e.ce;omega);have s:L a.bU<4611686018427387904:=(by have:=e.fu;omega);have t:L a.fixed<4611686018427387904:=(by have:=e.fx;omega);have u:L b.order<4611686018427387904:=(by have:=j.od;omega);have z:aN (V 6) g.c=V (.a g.c):=rfl;have a65:∀{k:o8},(∀r,(∃n:Int,r=iv n)->k r)=∀n:Int,k (iv n):=λ{k}=>aOx ⟨λh n=>h _ ⟨n,rfl⟩,by rintro h r ⟨n,rfl⟩;exact h n⟩;have arg:∀{Y:ae},dG Y (.a g.c)= .a g.c:=rfl;have d:∀x,mL (bv I) x (bv I)=V (bv I):=λ_=>rfl;simp only[bsq,u0,u1,f,i,v,z,rk,oe,ar,arm,arg,bpD,bd1,a65,p,u,aj,aNP,NA,aNR,I9,↓uL];have l:L a.order<1000000/\∀x∈a.order,aF (L a.woke) x:=⟨e.od,e.wk⟩;have o:L b.order<1000000/\∀x∈b.order,aF (L b.woke) x:=⟨j.od,j.wk⟩;have w:SzS a.mp/\SzS b.mp:=⟨e.sy,j.sy⟩;rintro(_|_);simp only[u0,u1,jN,d,aNP,↓uL];simp only[u0,u1,jA,ar,arm,arg,bpD,a65,l.1,o.1,f,i,rk,oe,I9,aj,↓uL];refine⟨l.2,λn=>⟨o.2,λm=>?_⟩⟩;rcases C:Q (n=m) with _|_;simp only[u0,u1,jN,d,aNP,↓uL];simp only[u0,u1,jA,f,i,rk,oe,ar,arm,bpD,bd1,w,I9,aj,↓uL];rintro(_|_);simp only[u0,u1,jN,d,aNP,↓uL];simp only[u0,u1,jA,f,i,rk,oe,ar,arm,bpD,bd1,q,I9,aj,↓uL];rintro(_|_);simp only[u0,u1,jN,d,aNP,↓uL];simp only[u0,u1,jA,f,i,rk,oe,ar,arm,bpD,bd1,s,I9,aj,↓uL];rintro(_|_);simp only[u0,u1,jN,d,aNP,↓uL];simp only[u0,u1,jA,f,i,rk,oe,ar,arm,bpD,bd1,t,aNP,NA,I9,aj,↓uL]
def btw:FT:=vn bsS
def bu2{a b g Lw K}:=zZ btw bsS a b g Lw K (j:=by simp+contextual only[ij,Nb,ijm,mD])
def bth:dO:=(145,btw)::bsa
def bux:eJ bth:=it (By bsS)<|buw
def bvf:=ai @bu2<|@bpD
def btV:=bA 10 [(3,([7],[0,4,5]))]
def bqS c a b d R:=(.mk _:NR bth btV Tryz.f88 [c, .u, .u] [a,b] d R).p
def bv7{d:AV}{b:List AV}{c:List AV}{R:o8}(l1:L b=9)(f:L c=6)(h:H2 57 9 4 b 46 6 5 c λia e g=>bqS d ia e g R):Ct 88 [d, .a b, .a c] R:=z2 btV bux Tryz.func88 l1 f h
structure TNd where
 cf:sA
 pa:List xd
 deriving Inhabited
def TNd.c(x:TNd):List AV:=x.cf.c++[sl xd.c x.pa]
def bvn{x y:TNd}:(TNd.c x=TNd.c y)=(x=y):=by obtain⟨a,p⟩:=x;obtain⟨b,q⟩:=y;have h:(TNd.c ⟨a,p⟩=TNd.c ⟨b,q⟩)=(a.c=b.c/\sl xd.c p=sl xd.c q):=(by simp[TNd.c,sA.c,a6z]);rw[h];simp[ij,Nb,ijm]
def bvo{l l':List TNd}:(sl TNd.c l=sl TNd.c l')=(l=l'):=kL (by intro x y h;rwa [bvn] at h)
structure SzN(x:TNd):Prop where
 c:SzC x.cf
 p:L x.pa<1000000
def bsV(l:List TNd)(c:sA)(g:cJ)(u:(∀x∈l,SzN x)/\SzC c/\L l<4611686018427387904):Ct 88 [sl TNd.c l, .a c.c, .a g.c] (λr=>isB r):=by obtain⟨t,p,A⟩:=u;refine bv7 rfl rfl λE D h j B=>?_;have z:∀{x:TNd},aN (V 9) (TNd.c x)=V (.a x.cf.c):=λ{x}=>rfl;have n:∀{x:TNd},aN J ((TNd.c x).drop 9)=V (sl xd.c x.pa):=λ{x}=>rfl;have b:∀{Y:ae} {i:Int} {K:o8},rV (cz 10 Y (sl TNd.c l)<|iv i) K=(aF (L l) i/\K (.q<|TNd.c<|gd l i.toNat)):=aBz λ_=>rfl;have y:aN (V 6) g.c=V (.a g.c):=rfl;have arg:∀{Y:ae},dG Y (.a g.c)= .a g.c:=rfl;have f:∀x,mL (bv I) x (bv I)=V (bv I):=λ_=>rfl;simp only[bqS,u0,u1,↓uL];refine⟨λvs=>∃i:Int,vs=[iv i]/\ -1<=i/\i<L l,λvs=>match vs with|[.s (.int _ i)]=>(i+1).toNat|_=>0,⟨_,rfl,?_,?_⟩,?_⟩;rw[eM (by omega)<|by omega];omega;rw[eM (by omega)<|by omega];omega;rintro _ ⟨i,rfl,C,o⟩;rcases e:Q (i>=0) with _|_;simp only[qz 19,bqS,aI,u0,u1,e,jN,f,aNP,eE,aNU,NA,aNR,↓uL];have d:aF (L l) i:=⟨aNK e,o⟩;have w:gd l i.toNat∈l:=dB (by have:=d.1;omega);have v:=t _ w;rcases m:Q ((L (gd l i.toNat).pa:Int)=L c.order) with _|_;simp only[qz 19,bqS,aI,u0,u1,e,m,jA,h,j,n,aC6,b,d,oe,f,aNP,I9,aj,eE,aNU,NA,aNR,↓uL];simp only[qz 19,bqS,aI,u0,u1,e,m,jA,h,j,z,n,y,aC6,b,d,rk,oe,ar,arm,arg,bvf,bd1,aNP,I9,aj,ip,NA,↓uL];have k:dq.wrap (i-1)=i-1:=eM (by omega) (by have:=d.1;omega);refine⟨λ_=>⟨⟨v.c,p⟩,λ_ _=>⟨⟨i-1,by rw[k],by have:=d.1;omega,by omega⟩,?_⟩⟩,trivial⟩;rw[k];have:=d.1;omega
def bty:FT:=vn bsV
def bu4{l c g Lw K}:=zZ bty bsV l c g Lw K (j:=by simp+contextual only[ij,Nb,ijm,bvo])
def bti:dO:=(88,bty)::bth
def buy:eJ bti:=it (By bsV)<|bux
def bpF:=ai @bu4<|@bvf
def btT:=bA 30 [(7,([6,7],[2,3])),(15,([6,8],[2,3,7])),(21,([6,10],[2,3,7,8,9])),(24,([6],[2,3,7,8,9,10]))]
def btK b a c R:=(.mk _:NR bti btT Tryz.f44 [.u, .u] [b,a] c R).p
def bv4{c0:List AV}{b:List AV}{R:o8}(l0:L c0=15)(l1:L b=6)(h:H2 43 15 2 c0 46 6 3 b λia c d=>btK ia c d R):Ct 44 [.a c0, .a b] R:=z2 btT buy Tryz.func44 l0 l1 h
def wtN(c:sA)(n:Nat):Nat:=(aH n).countP λt=>Q<|(gd c.mp.ay t).cQ=3
def enN(w:am)(c:sA)(n:Nat):Nat:=(aH n).countP λ(t:Nat)=>aID w c (t:Int)
def buV{w:am}{c:sA}{t:Nat}(h:aID w c (t:Int)=U):¬(gd c.mp.ay t).cQ=3:=by obtain⟨k,e,f,g,i,a,j⟩:=bjy h;simp only[jm,bN] at a;have b:=a.2.2.2;intro d;simp only[lc,bh,d] at b;simp at b
def buD{w:am}{c:sA}:∀n,wtN c n+enN w c n<=n
 |0=>by simp[wtN,enN]
 |n+1=>by
  have b:=buD (w:=w) (c:=c) n
  have h:=buV (w:=w) (c:=c) (t:=n)
  simp only[wtN,enN,qn,List.countP_append,List.countP_cons,List.countP_nil] at b⊢
  by_cases a:aID w c (n:Int)=U
  ·have:=h a;simp only[a,this,aPF];simp;omega
  ·simp only[a];split<;>simp<;>omega
def bwe{c:sA}{ob:Int}:L (fO c.mp ob)<=wtN c (L c.mp.ay):=by simp only[fO,eh,bJ,wtN,<-List.countP_eq_length_filter];exact List.countP_mono_left λt _ h=>by simp only[pe,bN] at h;exact h.1
def bwf{w:am}{c:sA}{t:Int}:L (aOk w c t)<=wtN c (L c.mp.ay)+if wtN c (L c.mp.ay)=0 then 1 else 0:=by have h:=bwe (c:=c) (ob:=(evN w c t).nt);unfold aOk;split;omega;simp;split<;>omega
def bug{w:am}{c:sA}:∀n,L (aQo w c n)<=enN w c n*(wtN c (L c.mp.ay)+if wtN c (L c.mp.ay)=0 then 1 else 0)
 |0=>by simp[aQo]
 |n+1=>by
  have b:=bug (w:=w) (c:=c) n
  have d:=bwf (w:=w) (c:=c) (t:=n)
  rw[bj3,a6G]
  simp only[enN,qn,List.countP_append,List.countP_cons,List.countP_nil] at b⊢
  by_cases a:aID w c (n:Int)=U
  ·simp only[a,aNZ,bJ,aj,Nat.add_mul,Nat.one_mul];omega
  ·simp only[a];simp;omega
def buf{w:am}{c:sA}(h:CfI w c)(d:L w.aQ.ay=L c.mp.ay)(f:L c.mp.ay<=4):L (aQo w c<|L w.aQ.ay)<=4:=by have a:=bug (w:=w) (c:=c)<|L w.aQ.ay;have b:=buD (w:=w) (c:=c)<|L w.aQ.ay;rw[d] at a b⊢;generalize enN w c (L c.mp.ay)=e at a b;generalize wtN c (L c.mp.ay)=t at a b;generalize L (aQo w c<|L c.mp.ay)=k at a;have:(t=0\/t=1\/t=2\/t=3\/t=4):=(by omega);rcases this with rfl|rfl|rfl|rfl|rfl<;>simp at a<;>omega
def bte{w:am}{c:sA}{ch:xd}:L (aN2 w c ch).order=L c.order+1:=by simp[aN2]
def buW{w:am}{c:sA}(h:CfI w c){t:Int}(b:aID w c t=U):L c.order<L w.ac:=by have a:=(h.step (ch:=⟨t,-1⟩) b).ol;rw[bte] at a;exact a
structure NdI(w:am)(x:TNd):Prop where
 ci:CfI w x.cf
 rn:aNT w (aNY w) x.pa=V x.cf
 ln:L x.pa=L x.cf.order
def NdI.sz{w:am}{x:TNd}(h:NdI w x)(f:aC2 w)(d:Po w=U)(v:L w.ac<=10):SzN x:=by
 obtain⟨j,A⟩:=aQA d
 obtain⟨c,q,n,p,b⟩:=tC j
 simp only[fN,bN,aBY] at b
 have B:=c.ce
 have C:=c.fu
 have D:=b.2.1
 have E:=b.2.2.1
 obtain⟨F,G,H,m,K⟩:=h.ci.sz f.wo
 have t:=h.ci.ol
 have u:=h.ln
 have g:=h.ci.wk
 have o:=h.ci.ce
 have r:=h.ci.fu
 have s:=h.ci.fx
 have z:=f.wo
 exact⟨⟨⟨by omega,by omega,by omega,λi=>by
   by_cases k:i<L x.cf.mp.ak
   ·have:=m _<|dB k;omega
   ·rw[gd,eI,List.getElem?_eq_none<|by omega];decide⟩,by omega,by omega,by omega,by omega,λy l=>by rw[g];exact h.ci.od y l⟩,by omega⟩
def aTH(E:Nat)(b:List TNd):Nat:=(b.map λx=>5^(E-L x.cf.order)).sum
def buk{E:Nat}:∀(l:List TNd),L l<=aTH E l
 |[]=>by simp[aTH]
 |x::l=>by
  have b:=buk (E:=E) l
  have c:0<5^(E-L x.cf.order):=Nat.pow_pos (by decide)
  simp only[aTH,ji,List.sum_cons,bZ] at*
  omega
def bvD{E:Nat}{l l':List TNd}:aTH E (l++l')=aTH E l+aTH E l':=by simp[aTH]
def bul{E d:Nat}:∀{l:List TNd},(∀x∈l,L x.cf.order=d)->aTH E l=L l*5^(E-d)
 |[],_=>by simp[aTH]
 |x::l,h=>by
  have b:=bul (E:=E) (l:=l) λy f=>h y (by simp[f])
  have c:=h x (by simp)
  simp only[aTH,ji,List.sum_cons,bZ] at*
  rw[b,c,Nat.succ_mul];omega
def bvE{E:Nat}{b new:List TNd}{i:Nat}(c:i<L b)(k:new≠[]->L (gd b i).cf.order<E)(n:∀x∈new,L x.cf.order=L (gd b i).cf.order+1)(j:L new<=4):i+1+aTH E ((b++new).drop<|i+1)<=i+aTH E (b.drop i):=by have d:b.drop i=gd b i::b.drop (i+1):=(by rw[bT c];exact Cw c);rw[List.drop_append_of_le_length (by omega),bvD,bul n,d];have f:aTH E (gd b i::b.drop (i+1))=5^(E-L (gd b i).cf.order)+aTH E (b.drop<|i+1):=(by simp[aTH]);rw[f];by_cases h:new=[];subst h;have:0<5^(E-L (gd b i).cf.order):=Nat.pow_pos (by decide);simp;omega;have o:=k h;obtain⟨m,l⟩:∃m,E-L (gd b i).cf.order=m+1:=⟨E-L (gd b i).cf.order-1,by omega⟩;have g:E-(L (gd b i).cf.order+1)=m:=(by omega);rw[l,g,Nat.pow_succ];have p:0<5^m:=Nat.pow_pos (by decide);have q:L new*5^m<=4*5^m:=Nat.mul_le_mul_right _ j;omega
def GrQ(Y:ae)(e:TypeId)(z:Nat)(a:AV)(aa:List<|List AV):Prop:=(∃o,a= .l aa U o)\/∃b m,a= .m b (L aa)/\box Y b=V ⟨e,z,U,I,aa++m⟩
section
variable{Y Y':ae}{e:TypeId}{z:Nat}{a:AV}{aa:List (List AV)}
theorem GrQ.fx{ks:List Id}(f:GrQ Y e z a aa)(d:Fx Y Y' ks)(g:∀b∈aA a,b∉ks):GrQ Y' e z a aa:=by rcases f with h|⟨b,m,rfl,c⟩;exact .inl h;exact .inr ⟨b,m,rfl,d.keep b _ (g b<|by simp[aA]) c⟩
theorem GrQ.ln(h:GrQ Y e z a aa):fS Y a=V (iv<|L aa):=by rcases h with⟨o,rfl⟩|⟨b,m,rfl,c⟩<;>simp[fS, *]
def GrQ.keys(h:GrQ Y e z a aa):J3 a=[]\/∃q∈aA a,J3 a=[q.1]:=by rcases h with⟨o,rfl⟩|⟨b,m,rfl,c⟩;exact .inl rfl;exact .inr ⟨b,by simp[aA],rfl⟩
def GrQ.ar(h:GrQ Y e z a aa):dG Y a= .l aa I I:=by rcases h with⟨o,rfl⟩|⟨b,m,rfl,c⟩;rfl;simp[dG,eR,aQd,c,nrm,gK]
def bxK(g:bc Y e z a aa):GrQ Y e z a aa:=by rcases g with⟨c,rfl⟩|⟨b,d,f⟩;exact .inl ⟨U,by rw[c]⟩;exact .inr ⟨b,[],d,by rw[cL];exact f⟩
def apN{d by':Nat}{zs:List AV}{new:List (List AV)}{t o:Bool}{K:be}(s:GrQ Y e z a aa)(i:L zs=z)(j:0<z)(c:d<L Y)(q:∀r∈aa,L r=z)(p:∀r∈new,L r=z)(k:new≠[])(n:(L aa+L new)*(by'+1)<=1099511627776)(m:∀f Y',GrQ Y' e z f (aa++new)->Fx Y Y' (aA a)->(∀b∈aA f,bK Y b/\b.1=d)->K f Y'):eV (cj e zs by' Y d a<|.l new t o) K:=by rcases s with⟨o',rfl⟩|h;unfold cj;simp only[gL];rw[J7 (by simpa using k),J9 ⟨by rw[i];exact j,by simp[vg,c],by rw[i];exact p⟩];rw[J9 ⟨by rw[i];exact q,by simpa[lx] using n⟩];refine m _ _ (.inr ⟨lA Y d,[],by simp,?_⟩) ((kH c).mono<|by simp) (by simp[aA];exact⟨qQ Y d,rfl⟩);rw[<-i,cL];exact iy c;exact qs (.inr h) i j c q p k n λf Y' g F N=>m f Y' (bxK g) F N
def bvO{i:Nat}(g:GrQ Y e z a aa)(f:i<L aa)(n:∀r∈aa,L r=z):∃p,cz z Y a (iv i)=V p/\(∀k,lS k Y p=aN k (aa.getD i []))/\(∀c,∃h,iQ c Y p=V h/\(∀k,lS k Y h=aN k ((aa.getD i []).drop c))/\(J3 h=[]\/∃q∈aA a,J3 h=[q.1]))/\(J3 p=[]\/∃q∈aA a,J3 p=[q.1]):=by have j:aa[i]?=V (aa.getD i []):=(by rw[eI,eC f];rfl);have l:L (aa.getD i [])=z:=n _ (by rw[eI,eC f];exact List.getElem_mem f);rcases g with⟨o,rfl⟩|⟨b,m,rfl,d⟩;refine⟨.q (aa.getD i []),by simp only[cz,bh,j,qd];rw[J9 (by omega),J9 l.symm],λk=>aC6,λc=>⟨.q<|(aa.getD i []).drop c,rfl,λk=>aC6, .inl rfl⟩, .inl rfl⟩;refine⟨.p b i 0,by simp[cz,d,f],λk=>?_,λc=>⟨.p b i c,by simp[iQ,d],λk=>?_, .inr ⟨b,by simp[aA],rfl⟩⟩, .inr ⟨b,by simp[aA],rfl⟩⟩;simp only[aC5,d,qd];rw[xe (by omega),j];rfl;simp only[aC5,d,qd];rw[xe (by omega),j];rfl
end
structure StF(x:ae)(w:am)(g:cJ)(a:AV)(ns:List TNd):Prop where
 hl:L x=4096
 b1:box x (2,1)=V ⟨43,15,U,U,[w.c]⟩
 b2:box x (3,1)=V ⟨46,6,U,U,[g.c]⟩
 ga:GrQ x 168 10 a (ns.map TNd.c)
 pa:∀q∈aA a,q.1=109
 nd:∀n∈ns,NdI w n
theorem StF.fx{x y:ae}{w:am}{g:cJ}{a:AV}{d:List TNd}{c:List Id}(S:StF x w g a d)(F:Fx x y c)(b:∀q∈c,q.1≠2/\q.1≠3/\q.1≠109):StF y w g a d:=⟨F.len.trans S.hl,F.keep _ _ (λh=>(b _ h).1 rfl) S.b1,F.keep _ _ (λh=>(b _ h).2.1 rfl) S.b2,S.ga.fx F λq f h=>(b q h).2.2<|S.pa q f,S.pa,S.nd⟩
def bqE{l:List TNd}:∀r∈l.map TNd.c,L r=10:=by intro r b;obtain⟨y,_,rfl⟩:=dN.1 b;rfl
def brP{l:List TNd}{i:Nat}(b:i<L l):(l.map TNd.c).getD i []=(gd l i).c:=by rw[eI,ve,eC b,bT b];rfl
def fdM(M:Nat)(vs:List AV)(y:ae):Nat:=match gt vs 1 with| .s (.int _ n)=>(M-n).toNat|_=>0
def bsR(w:am)(g:cJ)(hp:aC2 w/\Po w=U/\qC w g=U/\L g.cW<1000/\L w.ac<=10):Ct 44 [.a w.c, .a g.c] (λr=>∃(p:List xd) (b:Bool),r= .t [sl xd.c p,bv b]/\(b=U->biu w g p=U)/\L p<=10):=by
 obtain⟨K,ab,hg,aT,hE⟩:=hp
 generalize hQ:(λ(r:AV)=>∃(p:List xd) (b:Bool),r= .t [sl xd.c p,bv b]/\(b=U->biu w g p=U)/\L p<=10)=Qq
 refine aDq (bv4 rfl rfl λs4 X T b2 h0=>?_)
 have r6:aN (V 6) g.c=V (.a g.c):=rfl
 have arg:∀{Y:ae},dG Y (.a g.c)= .a g.c:=rfl
 have bf:L g.cW<4611686018427387904:=by omega
 have aF:∀{y:ae},aE (λr=>Qq<|B1 r) y [.l [] U U,bv I]:=λ{y}=>aOH (vs':=[sl xd.c [],bv I]) rfl rfl (by rw[<-hQ];exact⟨[],I,rfl,by simp,by simp⟩)
 have c0:=bhV ab
 have bO:bM btq [(0,9),(9,1)] [(0, .a (aNY w).c)]=V (.a<|(aNY w).c++[.l [] U U]):=rfl
 have bR:aX btn 1 s4 [(0, .a<|(aNY w).c++[.l [] U U])]=V (.l [TNd.c ⟨aNY w,[]⟩] U U,s4):=aQm (tgt:=TNd.c ⟨aNY w,[]⟩) rfl rfl (by decide) rfl (by decide)
 simp only[btK,qy 6,u0,u1,T,b2,r15,r6,rk,ar,arm,arg,bpF,K.wo,K.wo.wo,bf,hg,K,ab,bO,bR,fh,eE,aNU,aOw,I9,aj,↓uL]
 refine⟨.inl rfl,?_⟩
 have hM:5^L w.ac<=9765625:=Nat.le_trans (Nat.pow_le_pow_right (by decide) hE) (by decide)
 generalize hI:(λ(vs:List AV) (y:ae)=>∃(a:AV) (k:List TNd) (i:Nat),vs=[a,iv i]/\StF y w g a k/\i<=L k/\i+aTH (L w.ac) (k.drop i)<=5^L w.ac)=Iy
 obtain⟨M,c8⟩:∃M:Nat,9765625<M:=⟨9765626,by decide⟩
 refine⟨Iy,fdM M,?_,?_⟩
 ·rw[<-hI]
  exact⟨_,[⟨aNY w,[]⟩],0,rfl,⟨X,T,b2, .inl ⟨U,rfl⟩,by simp[aA],by intro n hn;simp at hn;subst hn;exact⟨c0,rfl,rfl⟩⟩,by simp,by simp[aTH,aNY]⟩
 intro vs y hv
 rw[<-hI] at hv
 obtain⟨a,k,i,rfl,S,hi,hp⟩:=hv
 have cO:L k<=9765625:=by
  have:=buk (E:=L w.ac)<|k.drop i
  rw[List.length_drop] at this
  omega
 rcases q1:Q ((i:Int)<L k) with _|_
 ·simp only[qz 43,aI,u0,u1,S.ga.ln,bJ,q1,eE,aNU,aOw,I9,↓uL]
  exact aF
 have b5:∀x,mL (bv U) (bv U) x=V (bv U):=λ_=>rfl
 have b3:∀x,mL (bv I) x (bv I)=V (bv I):=λ_=>rfl
 have C:i<L k:=by have:=aNK q1;omega
 have rn:∀{x:TNd},aN (V 9) ((TNd.c x).drop 0)=V (.a x.cf.c):=λ{x}=>rfl
 have cg:∀{x:TNd},aN (V 9) (TNd.c x)=V (.a x.cf.c):=λ{x}=>rfl
 have rp:∀{x:TNd},aN J ((TNd.c x).drop 9)=V (sl xd.c x.pa):=λ{x}=>rfl
 obtain⟨p,e1,e2,e3,e4⟩:=bvO S.ga (i:=i) (by simpa using C) bqE
 obtain⟨p0,f1,f2,_⟩:=e3 0
 obtain⟨p9,f3,f4,_⟩:=e3 9
 rw[brP C] at f2 f4
 have N:=S.nd _<|dB C
 have hr:aN (V 9) (aOz 0 (gd k i).c)=V (.a (gd k i).cf.c):=rn
 simp only[qz 43,aI,u0,u1,S.ga.ln,bJ,q1,S.b1,S.b2,r15,r6,rk,e1,f1,f2,f3,f4,rn,cg,rp,ar,arm,arg,bpF,K,N.ci,hg,aT,awG,sr,aNU,aOw,I9,aNR,aj,↓uL]
 refine⟨λhh=>?_,λhh=>?_⟩
 ·exact aOH (vs':=[sl xd.c (gd k i).pa,bv U]) rfl rfl (by rw[<-hQ];exact⟨_,U,rfl,λ_=>by rw[bqn N.rn];exact hh,by have:=N.ln;have:=N.ci.ol;omega⟩)
 generalize W:(gd k i).cf=d at*
 have u:CfI w d:=by rw[<-W];exact N.ci
 have aP:L w.aQ.ay=L d.mp.ay:=by
  have h1:=u.ft
  simp only[lh,bN,aBY] at h1
  omega
 have aM:L d.mp.ay<=4:=u.sy.th
 refine jD (α:=AV) (λa i=>[a,iv i]) 1 (L w.aQ.ay) (λt b z=>∃new,StF z w g b (k++new)/\L new<=L (aQo w d t)/\(∀x∈new,L x.cf.order=L d.order+1)/\(new≠[]->L d.order<L w.ac)) (s0:=a) ⟨[],by simpa using S,by simp,by simp,by simp⟩ ?_
 rintro t b z ht ⟨new,Sz,n1,n2,n3⟩
 obtain⟨p',bs,c6,bu,c7⟩:=bvO Sz.ga (i:=i) (by simp;omega) bqE
 obtain⟨db,bx,aK,_⟩:=bu 0
 have bV:gd (k++new) i=gd k i:=by rw[bT (by simp;omega),bT C,aqO C]
 rw[brP (by simp;omega),bV] at aK
 have aZ:∀{x:TNd},x.cf=d->aN (V 9) (TNd.c x)=V (.a d.c):=λ{x} h=>by rw[<-h];rfl
 have ca:∀{Y:ae} {t:Int},fS Y (sl ci<|aOk w d t)=V (iv<|L<|aOk w d t):=cT
 simp only[qz 91,aI,u0,u1,Sz.b1,r15,rk,cT,bs,bx,aK,ip,aZ W,ar,arm,bpF,K,u,awG,I9,aj,dc,↓uL]
 refine⟨λh2=>⟨.inl rfl,?_⟩,λh2=>?_⟩
 rotate_left
 ·obtain rfl:t=L w.aQ.ay:=bP ht<|bw h2
  have hk:=buf u aP aM
  have da:=bvE (E:=L w.ac) (new:=new) C (by rw[W];exact n3) (by rw[W];exact n2) (by omega)
  rw[eM (by omega)<|by omega]
  refine⟨?_,?_⟩
  ·rw[<-hI]
   exact⟨b,k++new,i+1,rfl,Sz,by simp;omega,by omega⟩
  ·show((M:Int)-((i:Int)+1)).toNat<((M:Int)-(i:Int)).toNat
   omega
 have b7:=aL h2
 refine jD (α:=AV) (λa i=>[a,iv i]) 1 (L<|aOk w d t) (λj O x=>∃o,StF x w g O (k++o)/\L o<=L (aQo w d t)+(if aID w d (t:Int)=U then j else 0)/\(∀x∈o,L x.cf.order=L d.order+1)/\(o≠[]->L d.order<L w.ac)) (s0:=b) ⟨new,Sz,by omega,n2,n3⟩ ?_
 rintro j O x hj ⟨o,Sx,m1,m2,m3⟩
 simp only[qz 127,aI,u0,u1,ca,↓uL]
 refine⟨λh3=>?_,λh3=>?_⟩
 rotate_left
 ·obtain rfl:j=L (aOk w d t):=bP hj<|bw h3
  refine dR (mk:=λ(a:AV) i=>[a,iv i]) (p:=1) (s:=b) (s':=O) (λ_ _=>rfl) b7 (by omega) ⟨o,Sx,?_,m2,m3⟩
  rw[bj3,a6G]
  by_cases he:aID w d (t:Int)=U
  ·simp only[he,aNZ,bJ] at m1⊢;exact m1
  ·simp only[he] at m1⊢;simp at m1⊢;omega
 have aU:=aL h3
 refine bqF (λf=>∀aa ao A,StF ao w g aa (k++A)->L A<=L (aQo w d t)+(if aID w d (t:Int)=U then j+1 else 0)->(∀x∈A,L x.cf.order=L d.order+1)->(A≠[]->L d.order<L w.ac)->f [aa] ao) ?_ ?_
 ·intro aa ao A S2 o1 o2 o3
  simp only[qz 147,aI,u0,u1,↓uL]
  exact dR (mk:=λ(a:AV) i=>[a,iv i]) (p:=1) (s:=O) (s':=aa) (λ_ _=>rfl) aU (by have:=bkf u (t:=t);omega) ⟨A,S2,o1,o2,o3⟩
 intro f hJ
 simp only[qz 149,qy 8,u0,u1,ix,rk,qM,bh,↓uL]
 refine⟨dJ aU,?_⟩
 have aO:bM nJ C2 [(0,iv t),(1,iv<|gd (aOk w d t) j)]=V (.a<|xd.c ⟨t,gd (aOk w d t) j⟩):=rfl
 generalize bS:(⟨t,gd (aOk w d t) j⟩:xd)=ch at aO
 have al:ch.aq=t:=by rw[<-bS]
 have bo:∀{Y:ae},dG Y (.a ch.c)= .a ch.c:=rfl
 have a1:aN (V 2) ch.c=V (.a ch.c):=rfl
 simp only[aO,aY,↓uL]
 refine so Sx.hl λdd x1 F1 N1 c1=>?_
 refine qr c1 rfl rfl λx2 F2 c2=>?_
 have bj:Fx x x2 []:=(F1.trans F2).mono λq G=>by simp at G;subst G;exact .inr N1.no
 have S2:=Sx.fx bj (by simp)
 obtain⟨p2,g1,g2,g3,g4⟩:=bvO S2.ga (i:=i) (by simp;omega) bqE
 obtain⟨p3,g5,g6,g9⟩:=g3 0
 obtain⟨p4,g7,g8,bC⟩:=g3 9
 have aR:gd (k++o) i=gd k i:=by rw[bT (by simp;omega),bT C,aqO C]
 rw[brP (by simp;omega),aR] at g6 g8
 simp only[qz 10,qy 12,u0,u1,S2.b1,c2,g1,g5,g6,a1,r15,rk,oe,ip,aZ W,ar,arm,bo,bpF,K,u,awG,I9,aj,↓uL]
 refine⟨.inl (by simp[nA,eB,iR,am.c,sA.c,xd.c,vb.c,mn.c,aW.c,sl]),?_⟩
 simp only[oJ,pG,aY,al,↓uL]
 refine anu S2.hl λde x3 F3 N3 c3=>?_
 have F:=S2.fx F3 (by simp)
 have bq:=F3.kq c2
 have B:∀{v:AV},(J3 v=[]\/∃q∈aA O,J3 v=[q.1])->J3 v=[]\/J3 v=[109]:=λh=>by
  rcases h with h|⟨q,G,h⟩
  ·exact .inl h
  ·rw[Sx.pa q G] at h;exact .inr h
 have P:=B Sx.ga.keys
 have k2:=B g4
 have k3:=B g9
 have k4:=B bC
 simp only[qz 14,↓uL]
 refine dT (by rcases P with P|P<;>rcases k2 with k2|k2<;>rcases k3 with k3|k3<;>simp[eL,lb,Qh,Cz,aTn,a6H,bc7,bc6,bnb,bo5,bo3,bo6,bo4,bjD,au,gt1,P,k2,k3]) ?_
 have bB:dG x3 O=sl TNd.c (k++o):=F.ga.ar
 have ce:aN (V 6) g.c=V (.a g.c):=rfl
 rcases D:aID w d (t:Int) with _|_
 ·simp only[u0,u1,kN,jN,b5,↓uL]
  refine⟨λ_=>hJ O x3 o F ?_ m2 m3,λh=>by simp at h⟩
  simp only[D] at m1⊢
  simpa using m1
 simp only[u0,u1,fh,jA,c3,D,aNV,F.b1,F.b2,ce,r15,rk,oe,bB,ar,arm,arg,bpF,bd1,ip,aj,↓uL]
 have a0:CfI w (aN2 w d ch):=u.step (by rw[al];exact D)
 have bG:aNT w (aNY w) (gd k i).pa=V d:=by rw[<-W];exact N.rn
 have b4:L (gd k i).pa=L d.order:=by rw[<-W];exact N.ln
 have ap:=buW u D
 have aV:NdI w ⟨aN2 w d ch,(gd k i).pa++[ch]⟩:=⟨a0,bpG bG (by rw[al];exact D),by simp[bte,b4]⟩
 have b6:∀x∈k++o,SzN x:=λx hx=>(F.nd x hx).sz K ab hE
 have bY:L (k++o)<4611686018427387904:=by
  have h1:=buf u aP aM
  have h2:=bkf u (t:=t)
  have:L (aQo w d t)<=t*4:=bj4 u t
  rw[a6G]
  split at m1<;>omega
 generalize hX:eV (aX bh6 0 x3 []) _=iq
 have hx:iq:=by
  rw[<-hX]
  have bI:aX bh6 0 x3 []=V (.l [] U U,x3):=rfl
  obtain⟨p5,i1,i2,i3,i4⟩:=bvO F.ga (i:=i) (by simp;omega) bqE
  obtain⟨p6,i5,i6,i7⟩:=i3 9
  rw[brP (by simp;omega),aR] at i6
  have k5:=B i4
  have k6:=B i7
  simp only[bI,bQ,qz 16,u0,u1,i1,i5,i6,rp,↓uL]
  refine gD bc.nil rfl (by decide) (by rw[F.hl];decide) (by simp) bnn (by simp;omega) λa5 x5 w5 F5 I5 J5=>?_
  have S5:=F.fx F5 (by simp[aA])
  have br:=F5.keep _ _ (by simp[aA]) bq
  have Z:∀q∈aA a5,q.1=103:=λq G=>(J5 q G).resolve_left (by simp[aA])
  have bd:aX bh6 1 x5 [(0, .a ch.c)]=V (.l ([ch].map xd.c) U U,x5):=ua rfl rfl rfl (by decide) rfl (by decide)
  simp only[qz 18,qy 20,u0,u1,br,a1,bd,aj,↓uL]
  refine gD w5 rfl (by decide) (by rw[S5.hl];decide) (by simpa using bnn) bnn (by simp;omega) λa6 x6 w6 F6 I6 J6=>?_
  have S6:=S5.fx F6 (λq G=>by have:=Z q G;omega)
  have w7:=w6
  rw[dW,<-dg] at w7
  rcases w7 with⟨e6,_⟩|⟨H,rfl,h6⟩
  ·simp at e6
  have cU:H.1=103\/H.1=106:=(J6 H<|by simp[aA]).imp (λh=>Z _ h) id
  have bW:gm x6 52 2 (.m H<|L<|((gd k i).pa++[ch]).map xd.c) (((gd k i).pa++[ch]).map xd.c):= .inr ⟨H,[],rfl,by rw[cL];exact h6⟩
  have bK:bM btq [(0,9),(9,1)] [(0, .a (aN2 w d ch).c),(1, .m H<|L<|((gd k i).pa++[ch]).map xd.c)]=V (.a<|(aN2 w d ch).c++[.m H<|L<|((gd k i).pa++[ch]).map xd.c]):=rfl
  have bL:aX btn 1 x6 [(0, .a<|(aN2 w d ch).c++[.m H<|L<|((gd k i).pa++[ch]).map xd.c])]=V (.l ([(⟨aN2 w d ch,(gd k i).pa++[ch]⟩:TNd)].map TNd.c) U U,kills x6 [H]):=
   aQm (tgt:=TNd.c ⟨aN2 w d ch,(gd k i).pa++[ch]⟩) (by
    rw[dg]
    simp only[ji,mU,aOb bW]
    rfl) rfl (by decide) (by simp[TNd.c,sA.c,eN,sl]) (by decide)
  simp only[qz 22,qy 24,u0,u1,bK,bL,bQ,↓uL]
  have R:=S6.fx (aOp [H] x6) (by simp;omega)
  have c9:L k+L o+1<=9765700:=by
   have h1:L (aQo w d t)<=t*4:=bj4 u t
   have h2:=bkf u (t:=t)
   split at m1<;>omega
  refine apN R.ga rfl (by decide) (by rw[R.hl];decide) bqE bqE (by simp) (by simp;omega) λa8 x8 g8 F8 N8=>?_
  have S8:StF x8 w g a8 (k++(o++[⟨aN2 w d ch,(gd k i).pa++[ch]⟩])):=by
   refine⟨F8.len.trans R.hl,F8.keep _ _ (λh=>by have:=R.pa _ h;simp at this) R.b1,F8.keep _ _ (λh=>by have:=R.pa _ h;simp at this) R.b2,?_,λq G=>(N8 q G).2,?_⟩
   ·rw[<-bje,dg];exact g8
   ·intro n hn
    rw[<-bje] at hn
    rcases dF.1 hn with h|h
    ·exact F.nd n h
    ·simp at h;subst h;exact aV
  have ka:J3 a5=[]\/J3 a5=[103]:=by
   rcases w5 with⟨_,rfl⟩|⟨b,rfl,_⟩
   ·exact .inl rfl
   ·have:=Z b (by simp[aA])
    exact .inr (by rw[<-this];rfl)
  simp only[qz 26,↓uL]
  refine dT (by rcases P with P|P<;>rcases k5 with k5|k5<;>rcases k6 with k6|k6<;>rcases ka with ka|ka<;>simp[eL,lb,Qh,Cz,aTn,a6H,bc7,bc6,bnb,bo5,bo3,bo6,bo4,bjD,bna,au,gt1,P,k5,k6,ka]) ?_
  refine hJ a8 x8 _ S8 ?_ ?_ λ_=>ap
  ·simp only[D,aNZ,a6G,bZ,List.length_nil] at m1⊢
   omega
  ·intro y hy
   rcases dF.1 hy with h|h
   ·exact m2 y h
   ·simp at h;subst h;exact bte
 refine⟨⟨b6,(aV.sz K ab hE).c,bY⟩,λb=>?_⟩
 rcases b with _|_
 ·simp only[u0,u1,jN,b3,eE,aNU,aOw,I9,↓uL]
  exact hx
 ·simp only[u0,u1,jA,ar,arm,arg,bpF,K,a0,hg,aT,awG,I9,↓uL]
  refine⟨λ_=>hJ O x3 o F ?_ m2 m3,λ_=>hx⟩
  simp only[D,aNZ] at m1⊢
  omega
def btv:FT:=pn bsR
def bu1{w g Lw K}:=f211 btv bsR w g Lw K (j:=by simp+contextual only[ij,Nb])
def btk:dO:=(44,btv)::bti
def buz:eJ btk:=it (aN0 bsR)<|buy
def bq0:=ai @bu1<|@bpF
def btO:=bA 20 [(5,([11,25],[2,3,6,9,10,23,24])),(8,([11],[2,3,6,9,10,23,24,25]))]
def bsm a b c d R:=(.mk _:NR btk btO Tryz.f17 [.u,b,c] [a] d R).p
def bvZ{c0:List AV}{b c:AV}{R:o8}(l0:L c0=15)(h:H1 43 15 3 c0 λia d=>bsm ia b c d R):Ct 17 [.a c0,b,c] R:=z1 btO buz Tryz.func17 l0 h
structure StV(x:ae)(w:am)(c:sA)(v3 v9:Nat)(z:List AV):Prop where
 hl:L x=4096
 b1:box x (3,1)=V ⟨43,15,U,U,[w.c]⟩
 b3:box x (6,v3)=V ⟨46,6,U,U,[z]⟩
 b9:box x (10,v9)=V ⟨57,9,U,U,[c.c]⟩
theorem StV.fx{x y:ae}{w:am}{c:sA}{d e:Nat}{z:List AV}{b:List Id}(S:StV x w c d e z)(F:Fx x y b)(a:∀q∈b,q.1≠3/\q.1≠6/\q.1≠10):StV y w c d e z:=⟨F.len.trans S.hl,F.keep _ _ (λh=>(a _ h).1 rfl) S.b1,F.keep _ _ (λh=>(a _ h).2.1 rfl) S.b3,F.keep _ _ (λh=>(a _ h).2.2 rfl) S.b9⟩
def bue(w:am)(l:List Int)(n:Int)(hp:aC2 w/\Po w=U/\L l<100000/\L w.ac<=10/\(0<=n/\n<256)):Ct 17 [.a w.c,sl ci l,u8v n] (λr=>∃(g:cJ) (p:List xd) (b:Bool),r= .t [.a g.c,sl xd.c p,bv b]/\(b=U->qC w g=U/\L g.cW<=4/\biu w g p=U/\L p<100000)):=by obtain⟨R,P,a0,hE,hn⟩:=hp;generalize hQ:(λ(r:AV)=>∃(g:cJ) (p:List xd) (b:Bool),r= .t [.a g.c,sl xd.c p,bv b]/\(b=U->qC w g=U/\L g.cW<=4/\biu w g p=U/\L p<100000))=Qq;refine aDq (bvZ rfl λs2 N H h0=>?_);show bsm (.p (3,1) 0 0) (sl ci l) (u8v n) s2 λr=>Qq<|B1 r;simp only[bsm,↓uL];refine so N λE s3 F3 N3 T=>?_;have d1:=F3.kq H;have ad:=F3.len.trans N;simp only[qz 4,qy 6,u0,u1,d1,r15,rk,ar,bq0,R,P,a0,ip,aj,I9,↓uL];rintro _ ⟨p,c,rfl,hr,br⟩;refine⟨.inl rfl,?_⟩;have hc:=(bhV P).run hr;simp only[oJ,pG,aY,↓uL];refine anu ad λv9 s9 F9 N9 b9=>?_;have S9:StV s9 w c E v9 aSa:=⟨F9.len.trans ad,F9.kq d1,F9.kq T,b9⟩;simp only[qz 8,u0,u1,S9.b1,r15,rk,ar,bq0,R.wo.wo,ip,aj,I9,↓uL];rintro _ ⟨A,rfl,aW,bq⟩;refine⟨.inl rfl,?_⟩;have af:∀{Y:ae},fS Y (sl cJ.c A)=V (iv<|L A):=cT;have u:∀{g:cJ},aN (V 6) g.c=V (.a g.c):=rfl;have arg:∀{Y:ae} {g:cJ},dG Y (.a g.c)= .a g.c:=rfl;simp only[af,aY,↓uL];refine jD (α:=AV) (λa i=>[a,iv i]) 1 (L A) (λk a x=>∃e:List cJ,StV x w c E v9 aSa/\gm x 46 6 a (e.map cJ.c)/\(∀q∈aA a,q.1=36)/\L e<=k/\∀g∈e,qC w g=U/\L g.cW<=4/\aOM w c g=U) (s0:= .l [] U U) ⟨[],S9, .inl ⟨rfl,rfl⟩,by simp[aA],by simp,by simp⟩ ?_;rintro k a x hk ⟨e,S,g,pa,bu,B⟩;have av:∀{Y:ae} {i:Int} {K:o8},rV (cz 6 Y (sl cJ.c A)<|iv i) K=(aF (L A) i/\K (.q<|cJ.c<|gd A i.toNat)):=aBz λ_=>rfl;simp only[qz 31,qy 18,qy 20,aI,u0,u1,g.ln,bJ,af,↓uL];refine⟨λh=>?_,λh=>?_⟩;have O:=aL h;refine bqF (λd=>∀(j:AV) (D:ae) (f:List cJ),StV D w c E v9 aSa->gm D 46 6 j (f.map cJ.c)->(∀q∈aA j,q.1=36)->L f<=k+1->(∀g∈f,qC w g=U/\L g.cW<=4/\aOM w c g=U)->d [j] D) ?_ ?_;intro j D f o1 o2 o3 o4 o5;simp only[qz 51,aI,u0,u1,↓uL];exact dR (mk:=λ(a:AV) i=>[a,iv i]) (p:=1) (s:=a) (s':=j) (λ_ _=>rfl) O (by omega) ⟨f,o1,o2,o3,o4,o5⟩;intro d hJ;simp only[qz 53,qy 10,u0,u1,av,aC6,u,bh,↓uL];refine⟨dJ O,?_⟩;have X:=aW _<|dB O;generalize gd A k=W at X;refine anu S.hl λbw x2 F2 N2 c2=>?_;have G:=S.fx F2 (by simp);have g2:=g.fx F2 (by simp);have aq:L W.cW<1000:=(by omega);simp only[qz 12,qy 14,qy 16,u0,u1,G.b1,G.b9,c2,r15,u,rk,oe,ar,arm,arg,bq0,R,hc,X,aq,ip,aj,I9,awG,↓uL];refine⟨λhh=>?_,λhh=>hJ a x2 e G g2 pa (by omega) B⟩;have aR:aX biV 1 x2 [(0, .a W.c)]=V (.l ([W].map cJ.c) U U,x2):=ua rfl rfl rfl (by decide) rfl (by decide);simp only[aR,bQ];refine apQ g2 G.hl bnm bnm (by simp) (by simp;omega) λa' x4 g4 F4 N4=>?_;(try simp only[qy 18,u0,↓uL]);refine hJ a' x4 (e++[W]) (G.fx F4 λq hq=>by have:=pa q hq;omega) (by rw[dg];exact g4.p) (λq hq=>(N4 q hq).2) (by simp;omega) λy hy=>?_;rcases dF.1 hy with h|h;exact B y h;simp at h;subst h;exact⟨X.1,X.2,hh⟩;have ez:dq.wrap n=n:=eM (by omega) (by omega);have Z:∀{y:ae} (g:cJ) (o:List xd) (b:Bool),(b=U->qC w g=U/\L g.cW<=4/\biu w g o=U/\L o<100000)->box y (6,E)=V ⟨46,6,U,U,[aSa]⟩->sV (aK 6 y (.p (6,E) 0 0)<|.a g.c) λs=>rV (((box s (6,E)).bind λx=>Option.map (λx=>x) x.aa[0]?).bind<|aN<|V 6) λv=>aE (λr=>Qq<|B1 r) s [v,sl xd.c o,bv b]:=λ{y} g o b h hb=>(by refine qr hb rfl rfl λz F bz=>?_;simp only[bz,aww,aBF,Option.map_some,awx,u,aY,↓uL];refine aOH (vs':=[.a g.c,sl xd.c o,bv b]) rfl rfl ?_;rw[<-hQ];exact⟨g,o,b,rfl,h⟩);refine⟨λh2=>?_,λh2=>?_⟩;have bp:0<L e:=(by have:=aNK h2;omega);have bs:=Int.tmod_nonneg (L e:Int) hn.1;have bt:=Int.tmod_lt_of_pos n (show(0:Int)<L e by omega);obtain⟨m,hm⟩:∃m:Nat,n.tmod (L e:Int)=m:=⟨(n.tmod (L e:Int)).toNat,by omega⟩;have C:m<L e:=(by omega);have gq:GrQ x 46 6 a (e.map cJ.c):=(by rcases g with⟨e1,rfl⟩|h;exact .inl ⟨U,by rw[e1]⟩;exact .inr h);obtain⟨p1,e1,e2,e3,e4⟩:=bvO gq (i:=m) (by simpa using C) bnm;have aV:(e.map cJ.c).getD m []=(gd e m).c:=(by rw[eI,ve,eC C,bT C];rfl);rw[aV] at e2;have ha:=B _<|dB C;simp only[aS6,ez,aPR,aP1,hm,e1,e2,u,aY,↓uL];refine⟨by omega,Z _ p U (λ_=>⟨ha.1,ha.2.1,by rw[bqn hr];exact ha.2.2,by omega⟩) S.b3⟩;simp only[u0,u1,S.b1,r15,rk,ar,bq0,R.wo.wo,hn,awG,ip,aj,I9,↓uL];rintro _ ⟨g1,aB,rfl,aT⟩;refine⟨.inl rfl,?_⟩;simp only[oJ,pG,aY,↓uL];refine anu S.hl λbx x5 F5 N5 M=>?_;have S5:=S.fx F5 (by simp);rcases aB with _|_;simp only[qz 22,qy 26,u0,u1,M,u,kN,ip,aj,↓uL];refine⟨λ_=>?_,λh=>by simp at h⟩;refine qr S5.b3 rfl rfl λz F bz=>?_;simp only[qz 24,u0,u1,bz,u,ip,aj,↓uL];refine aOH (vs':=[.a g1.c,sl xd.c [],bv I]) rfl rfl ?_;rw[<-hQ];exact⟨g1,[],I,rfl,by simp⟩;obtain⟨ab,aU⟩:=aT rfl;have ap:L g1.cW<1000:=(by omega);simp only[qz 22,qy 26,u0,u1,M,S5.b1,r15,u,rk,ar,arg,bq0,R,P,ab,ap,hE,fh,awG,I9,ip,aj,↓uL];refine⟨λh=>by simp at h,λ_=>?_⟩;rintro _ ⟨o,b2,rfl,aQ,bi⟩;refine⟨.inl rfl,?_⟩;simp only[oJ,pG,aY,↓uL];(try simp only[u0,u1,M,u,ip,↓uL]);refine Z g1 o b2 (λhb=>⟨ab,aU,aQ hb,by omega⟩) S5.b3
def buF:FT:=vn bue
def bvM{w l n Lw K}:=zZ buF bue w l n Lw K (j:=by simp+contextual only[ij,Nb,bry])
def brz:dO:=(17,buF)::btk
def brW:eJ brz:=it (By bue)<|buz
def bxB:=ai @bvM<|@bq0
def aYM a b R:=(.mk _:NR brz auF Tryz.f48 [.u] [a] b R).p
def aJ4{c0:List AV}{R:o8}(l0:L c0=15)(h:H1 43 15 1 c0 λia b=>aYM ia b R):Ct 48 [.a c0] R:=z1 auF brW Tryz.func48 l0 h
def byG a b s0 R:=(.mk _:NS brz ato Tryz.f99 [a,b] [] s0 R).p
def bBn{a b:AV}{s0:ae}{R:be}(c:L s0=4096)(h:byG a b s0 R):EB 99 [a,b] s0 R:=zB ato brW Tryz.func99 h
def bzo a b s0 R:=(.mk _:NR brz avm Tryz.f49 [a,b] [] s0 R).p
def bBj{a b:AV}{R:o8}(h:H0 λs0=>bzo a b s0 R):Ct 49 [a,b] R:=z0 avm brW Tryz.func49 h
def bzy:=bA 13 [(2,([7],[])),(4,([7,12],[2,3,10,11])),(7,([7],[2,3,10,11,12]))]
def bzp a b c d R:=(.mk _:NR brz bzy Tryz.f52 [.u,b,c] [a] d R).p
def bBk{c0:List AV}{b c:AV}{R:o8}(l0:L c0=15)(h:H1 43 15 3 c0 λia d=>bzp ia b c d R):Ct 52 [.a c0,b,c] R:=z1 bzy brW Tryz.func52 l0 h
def bzz:=bA 13 [(2,([9],[])),(4,([9,16],[2,3,4,14,15])),(7,([9],[2,3,4,14,15,16]))]
def bzq a b c d e R:=(.mk _:NR brz bzz Tryz.f53 [.u,b,c,d] [a] e R).p
def bBl{c0:List AV}{b c d:AV}{R:o8}(l0:L c0=15)(h:H1 43 15 4 c0 λia e=>bzq ia b c d e R):Ct 53 [.a c0,b,c,d] R:=z1 bzz brW Tryz.func53 l0 h
def bzw:=bA 23 [(6,([26],[2,3,25])),(15,([44],[2,3,43]))]
def bxT a b c R:=(.mk _:NR brz bzw Tryz.f20 [.u, .u] [a,b] c R).p
def bBi{c0:List AV}{b:List AV}{R:o8}(l0:L c0=2)(l1:L b=2)(h:H2 67 2 2 c0 67 2 3 b λia c d=>bxT ia c d R):Ct 20 [.a c0, .a b] R:=z2 bzw brW Tryz.func20 l0 l1 h
def bkg(p:Int->Bool)(d:Int)(l:List Int):Int:=l.foldl (λa i=>if p i=U then i else a) d
def bxZ{p:Int->Bool}{d:Int}{l:List Int}{x:Int}:bkg p d (l++[x])=if p x=U then x else bkg p d l:=by simp[bkg]
def bqV(l:List Int)(r:Int):List Int:=l.takeWhile λx=>!Q (x=r)
def bAe{l:List Int}{r k:Int}(h:r∈l):bqV (l++[k]) r=bqV l r:=by induction l with|nil=>simp at h|cons a l c=>simp only[bqV,zn,List.takeWhile_cons] at*;by_cases b:a=r;simp[b];simp[b];exact c (by simpa[Sa b] using h)
def bAf{l:List Int}{k:Int}(h:k∉l):bqV (l++[k]) k=l:=by induction l with|nil=>simp[bqV]|cons a l b=>simp only[eW,not_or] at h;simp only[bqV,zn,List.takeWhile_cons] at*;simp[Sa h.1,b h.2]
def bs3(w:am)(order:List Int)(r:Int):Int:=bkg (λi=>aTG (gd w.ac i.toNat)<|gd w.ac r.toNat) (-1)<|bqV order r
def isW(w:am)(u:Int)(i:Int):Bool:=Q ((gd w.ac i.toNat).aq=u)&&Q ((gd w.ac i.toNat).kind=16)
def bqD(w:am)(order:List Int)(n u:Int):Int:=bkg (isW w u) (-1-u)<|bqV order n
def bsi(s s':aW)(u:Nat):Bool:=Q ((gd s.ay u).cQ=3)&&Q ((gd s'.ay u).cQ=4)
def bc4(s s':aW)(n:Nat):List Int:=((aH n).filter<|bsi s s').map λ(u:Nat)=>(u:Int)
structure a7g where
 c:sA
 st:Int->Option Int
 se:Int->Option Int
 wt:Int->Option Int
 src:Int->Option Int
 wk:Int->Int->Bool
 out:Nat->List Int
def bih(f:Int->Option Int)(k v:Int):Int->Option Int:=λx=>if x=k then V v else f x
def wt0(w:am)(k:Nat):Int->Option Int:=λu=>if 0<=u/\u.toNat<k/\(gd w.init.mp.ay u.toNat).cQ=3 then V (-1-u) else J
def bAh{w:am}{k:Nat}:wt0 w (k+1)=if(gd w.init.mp.ay k).cQ=3 then bih (wt0 w k) k (-1-k) else wt0 w k:=by funext u;by_cases a:u=k;subst a;by_cases h:(gd w.init.mp.ay k).cQ=3<;>simp[wt0,bih,h];have e:(0<=u/\u.toNat<k+1/\(gd w.init.mp.ay u.toNat).cQ=3)↔(0<=u/\u.toNat<k/\(gd w.init.mp.ay u.toNat).cQ=3):=(by constructor<;>rintro⟨b,d,c⟩<;>exact⟨b,by omega,c⟩);split<;>simp only[wt0,bih,a,bhR,e]
def aYF(w:am):a7g:=⟨aNY w,λ_=>J,λ_=>J,wt0 w<|L w.init.mp.ay,λ_=>J,λ_ _=>I,λ_=>[]⟩
def aRI(w:am)(h:a7g)(ch:xd):a7g:=
 let k:=aH7 w h.c ch.aq
 let e:=gd w.ac k.toNat
 let d:=aN2 w h.c ch
 let f:=bc4 h.c.mp d.mp<|L h.c.mp.ay
 {c:=d,
  st:=if e.kind=4 then bih h.st e.nt k else h.st,
  se:=if e.kind=22 then bih h.se e.nt k else h.se,
  wt:=if e.kind=16 then bih h.wt e.aq k else h.wt,
  src:=if e.kind=3 then bih h.src k ((h.st e.nt).getD<|-1) else if e.kind=23 then bih h.src k ((h.se e.nt).getD<|-1) else h.src,
  wk:=if e.kind=18\/e.kind=19 thenλa b=>h.wk a b||(Q (a=k)&&f.any λu=>Q<|(h.wt u).getD 0=b) else h.wk,
  out:=λi=>if i=k.toNat then h.out i++f else h.out i}
def bcW(w:am):a7g->List xd->a7g|h,[]=>h|h,ch::l=>bcW w (aRI w h ch) l
def bz4{w:am}{a:List xd}:∀{l1:List xd} {h:a7g},bcW w h (l1++a)=bcW w (bcW w h l1) a
 |[],h=>rfl
 |ch::l,h=>by simp only[zn,bcW];exact bz4
def byY{s s':aW}{n:Nat}{u:Int}:u∈bc4 s s' n↔∃m:Nat,u=m/\m<n/\(gd s.ay m).cQ=3/\(gd s'.ay m).cQ=4:=by simp only[bc4,bsi,dN,jW,fq,bN,aBY];constructor;rintro⟨m,⟨a,b,c⟩,rfl⟩;exact⟨m,rfl,a,b,c⟩;rintro⟨m,rfl,a,b,c⟩;exact⟨m,⟨a,b,c⟩,rfl⟩
theorem byN{l:List aoC}{i j:Nat}{x:aoC}:gd (l.set i x) j=if i=j/\i<L l then x else gd l j:=by simp only[gd,eI,xh];by_cases h:i=j;subst h;by_cases a:i<L l;simp[a];simp[a];simp[h]
def bBs{w:vb}{s:aW}{t kind nt lD:Int}(f:kind≠18)(g:kind≠19)(u:Nat)(h:(gd s.ay u).cQ=3):(gd (cU w s t kind nt lD).1.ay u).cQ≠4:=by have k:∀{s':aW} {i:Int} {x:aoC},(gd s'.ay u).cQ=3->(u=i.toNat->x.cQ≠4)->(gd (aNN s' i x).ay u).cQ≠4:=λ{s' i x} l d=>(by simp only[aNN,byN];split;exact d (by omega);omega);have j:∀{c:Prop} [Decidable c] {a b:aW×Int},(gd a.1.ay u).cQ≠4->(gd b.1.ay u).cQ≠4->(gd (if c then a else b).1.ay u).cQ≠4:=(by intro c _ a b m n;split<;>assumption);unfold cU;rw[J7 f,J7 g];(repeat' apply j)<;>first|(simp only[lC];omega)|(refine k (by simp[lC,h]) λe=>?_;simp[fA,<-e,h])
structure HsI(w:am)(h:a7g):Prop where
 cf:CfI w h.c
 st:∀o,(h.st o).getD (-1)=bkg (λi=>Q ((gd w.ac i.toNat).kind=4)&&Q ((gd w.ac i.toNat).nt=o)) (-1) h.c.order
 se:∀o,(h.se o).getD (-1)=bkg (λi=>Q ((gd w.ac i.toNat).kind=22)&&Q ((gd w.ac i.toNat).nt=o)) (-1) h.c.order
 wt:∀u,(h.wt u).getD (-1-u)=bkg (isW w u) (-1-u) h.c.order
 ws:∀u:Nat,u<L h.c.mp.ay->(gd h.c.mp.ay u).cQ=3->(h.wt u).isSome=U
 src:∀r∈h.c.order,fR (gd w.ac r.toNat)=U->h.src r=V (bs3 w h.c.order r)
 fx:∀r:Nat,gd h.c.fixed r=U->(r:Int)∈h.c.order/\fR (gd w.ac r)=U
 wk:∀(a:Nat) b,h.wk a b=(h.out a).any λu=>Q<|bqD w h.c.order a u=b
 ot:∀a:Nat,(a:Int)∉h.c.order->h.out a=[]
 ob:∀(a:Nat),∀u∈h.out a,0<=u/\u<1000000
 ob':∀(a:Nat),L (h.out a)<1000
def buG{f:Int->Option Int}{k v x d:Int}:(bih f k v x).getD d=if x=k then v else(f x).getD d:=by unfold bih;split<;>simp
def bAT{l:List Int}:∀{s:aW} {u:Nat},(gd (l.foldl uE s).ay u).cQ=3->(gd s.ay u).cQ=3:=by induction l with|nil=>simp|cons a l b=>intro s u h;have:=b h;grind [uE,aNN,byN]
def bBp{w:vb}{s:aW}{t kind nt lD:Int}{u:Nat}(h:(gd (cU w s t kind nt lD).1.ay u).cQ=3):(gd s.ay u).cQ=3\/(kind=16/\u=t.toNat):=by have n:=bAT (l:=fO s nt) (s:=s) (u:=u);have k:(λ(s:aW) u=>aNN s u {fA s u with cQ:=4})=uE:=rfl;have f:∀{s':aW} {i:Int} {x:aoC},s'.ay=s.ay->(gd (aNN s' i x).ay u).cQ=3->(gd s.ay u).cQ=3\/(u=i.toNat/\x.cQ=3):=λ{s' i x} e d=>(by simp only[aNN,byN,e] at d;split at d;exact .inr ⟨by omega,d⟩;exact .inl d);unfold cU at h;rw[k] at h;have m:∀{c:Prop} [Decidable c] {a b:aW×Int} {P:Prop},(c->(gd a.1.ay u).cQ=3->P)->(¬c->(gd b.1.ay u).cQ=3->P)->(gd (if c then a else b).1.ay u).cQ=3->P:=(by intro c _ a b P g j;split;exact g ‹_›;exact j ‹_›);revert h;(repeat' refine m (λ_=>?_) (λ_=>?_))<;>intro h<;>first|exact .inl (n h)|exact .inl h|(have:=f (by rfl) h;simp[fA] at this;omega)|(have:=f (by rfl) h;grind [fA])
theorem HsI.start{w:am}(c:Po w=U):HsI w (aYF w):=by refine⟨bhV c,by simp[aYF,aNY,bkg],by simp[aYF,aNY,bkg],?_,?_,by simp[aYF,aNY],?_,by simp[aYF],by simp[aYF],by simp[aYF],by simp[aYF]⟩;intro u;simp only[aYF,aNY,bkg,List.foldl_nil,wt0];split<;>simp;intro u a b;simp only[aYF,aNY,wt0] at a b⊢;rw[J9 ⟨by omega,by simpa using a,by simpa using b⟩];rfl;intro r h;simp[aYF,aNY,gd,List.getElem?_replicate] at h;split at h<;>simp at h
def bsg{w:am}{h:a7g}{ch:xd}:(aRI w h ch).c=aN2 w h.c ch:=rfl
theorem HsI.step{w:am}{h:a7g}{ch:xd}(d:HsI w h)(P:aID w h.c ch.aq=U):HsI w (aRI w h ch):=by obtain⟨k,g,h2,h3,B,O,h6⟩:=bjy P;simp only[jm,bN] at O;have ah:=(dX.1 O.2.1).1;have q:(aN2 w h.c ch).order=h.c.order++[(k:Int)]:=(by simp only[aN2,g]);have D:(aN2 w h.c ch).mp=(cU w.aQ h.c.mp ch.aq (gd w.ac k).kind (gd w.ac k).nt ch.lD).1:=(by simp only[aN2,g,bh]);have M:L (aN2 w h.c ch).mp.ay=L h.c.mp.ay:=(by rw[D];exact(bob (w:=w.aQ) (s:=h.c.mp) (t:=ch.aq) (kind:=(gd w.ac k).kind) (nt:=(gd w.ac k).nt) (lD:=ch.lD)).2.2);have W:(gd w.ac k).kind≠18->(gd w.ac k).kind≠19->bc4 h.c.mp (aN2 w h.c ch).mp (L h.c.mp.ay)=[]:=λZ g9=>(by refine List.eq_nil_iff_forall_not_mem.2 λu l=>?_;obtain⟨m,rfl,z,A,v⟩:=byY.1 l;rw[D] at v;exact bBs Z g9 m A v);refine⟨d.cf.step P,λo=>?_,λo=>?_,λu=>?_,λu z A=>?_,λr j y=>?_,λr j=>?_,λa b=>?_,λa F=>?_,λa u l=>?_,λa=>?_⟩;rw[bsg,q,bxZ,<-d.st o];simp only[aRI,g,bh];by_cases f:(gd w.ac k).kind=4;by_cases e:o=(gd w.ac k).nt;simp[f,buG,e];simp[f,buG,e,Sa e];simp[f];rw[bsg,q,bxZ,<-d.se o];simp only[aRI,g,bh];by_cases f:(gd w.ac k).kind=22;by_cases e:o=(gd w.ac k).nt;simp[f,buG,e];simp[f,buG,e,Sa e];simp[f];rw[bsg,q,bxZ,<-d.wt u];simp only[aRI,g,bh,isW];by_cases f:(gd w.ac k).kind=16;by_cases e:u=(gd w.ac k).aq;simp[f,buG,e];simp[f,buG,e,Sa e];simp[f];rw[bsg,M] at z;rw[bsg,D] at A;simp only[aRI,g,bh];rcases bBp A with v|⟨v,q4⟩;have:=d.ws u z v;split;unfold bih;split;rfl;exact this;exact this;rw[J9 v,h3];unfold bih;rw[J9<|by omega];rfl;rw[bsg,q] at j⊢;rcases dF.1 j with j|j;have p:r≠k:=λe=>B<|e▸j;have:=d.src r j y;simp only[bs3,bAe j] at this⊢;rw[<-this];simp only[aRI,g];split;simp[bih,p];split<;>simp[bih,p];obtain rfl:=cE.1 j;simp only[bs3,bAf B,aRI,g,bh] at y⊢;simp only[fR,Bool.or_eq_true,aBY] at y;rcases y with f|f;simp only[f,aNZ,bih,d.st,bE];congr 1;funext i;simp[aTG,f,aqr];have hn:¬(23:Int)=3:=(by decide);simp only[f,hn,bhR,aNZ,bih,d.se,bE];congr 1;funext i;simp[aTG,f,aqr];rw[bsg,q];have hf:(aRI w h ch).c.fixed=(aN2 w h.c ch).fixed:=rfl;rw[hf] at j;simp only[aN2,g,bh] at j;have C:∀b,gd (h.c.fixed.set k b) r=U->r=k\/gd h.c.fixed r=U:=λb n=>(by by_cases e:r=k;exact .inl e;right;simpa[gd,xh,Sa e] using n);have E:gd h.c.fixed r=U->((r:Int)∈h.c.order++[(k:Int)]/\fR (gd w.ac r)=U):=λn=>⟨by simp[(d.fx r n).1],(d.fx r n).2⟩;split at j;rename_i f;rcases C _ j with rfl|n;exact⟨by simp,by simp[fR,f]⟩;exact E n;split at j;rename_i f;rcases C _ j with rfl|n;exact⟨by simp,by simp[fR,f]⟩;exact E n;exact E j;rw[bsg,q];have H:h.out k=[]:=d.ot k B;have N:a≠k->((h.out a).any λu=>Q<|bqD w h.c.order a u=b)=((h.out a).any λu=>Q<|bqD w (h.c.order++[(k:Int)]) a u=b):=λp=>(by by_cases R:(a:Int)∈h.c.order;simp only[bqD,bAe R];rfl;rw[d.ot a R];rfl);by_cases e:a=k;subst e;have G:h.wk a b=I:=(by rw[d.wk,H];rfl);have K:(aRI w h ch).out a=bc4 h.c.mp (aN2 w h.c ch).mp (L h.c.mp.ay):=(by simp[aRI,g,H]);rw[K];by_cases f:(gd w.ac a).kind=18\/(gd w.ac a).kind=19;simp only[aRI,g,bh,f,aNZ,G,lG,aPI,iw];refine Bool.eq_iff_iff.2 ?_;simp only[List.any_eq_true,aBY];refine exists_congr λu=>and_congr_right λl=>?_;obtain⟨m,rfl,z,A,v⟩:=byY.1 l;have hs:=d.ws m z A;have T:=d.wt (m:Int);obtain⟨x,hx⟩:=Option.isSome_iff_exists.1 hs;rw[hx] at T⊢;simp only[bqD,bAf B,<-T,mi];rw[not_or] at f;rw[W f.1 f.2];simp only[aRI,g,bh,f,or_self,bhR,G,Cv];have K:(aRI w h ch).out a=h.out a:=(by simp[aRI,g,e]);rw[K,<-N e,<-d.wk];simp only[aRI,g];have X:(a:Int)≠k:=(by omega);split;simp[X];rfl;rw[bsg,q] at F;simp only[dF,cE,not_or] at F;have p:a≠k:=λe=>F.2 (by rw[e]);simp only[aRI,g,bh,p,bhR];exact d.ot a F.1;have S:=d.cf.sy.th;simp only[aRI,g,bh] at l;split at l;rcases dF.1 l with l|l;exact d.ob a u l;obtain⟨m,rfl,z,_⟩:=byY.1 l;omega;exact d.ob a u l;have S:=d.cf.sy.th;simp only[aRI,g,bh];split;rename_i e;subst e;have:=fZ (bsi h.c.mp (aN2 w h.c ch).mp)<|aH<|L h.c.mp.ay;rw[d.ot a B];simp only[bc4,dW,bJ];rw[List.length_range] at this;omega;exact d.ob' a
def bxN{w:am}:∀{l:List xd} {h:a7g} {c:sA},HsI w h->aNT w h.c l=V c->HsI w (bcW w h l)/\(bcW w h l).c=c
 |[],h,c,a,b=>by simp only[aNT,bE] at b;exact⟨a,b⟩
 |ch::l,h,c,a,b=>by
  simp only[aNT] at b
  simp only[bcW]
  split at b
  ·exact bxN (a.step ‹_›) b
  ·cases b
def bcV(order:List Int)(a:Nat):Int:=if(a:Int)∈order then oW order a else L order+(L ((aH a).filter λ(j:Nat)=>!Q ((j:Int)∈order)):Nat)
def bA1{order:List Int}{a:Nat}:Q (bcV order a<L order)=Q ((a:Int)∈order):=by unfold bcV;by_cases h:(a:Int)∈order;obtain⟨i,b,c,_⟩:=aE6 h;simp[h,b];omega;simp[h];omega
def a6X(w:am)(h:a7g)(x:aH8):Bool:=
 if x.kind=1 then Q (bcV h.c.order x.a.toNat<bcV h.c.order x.b.toNat)
 else if x.kind=2 then Q (x.a∈h.c.order)
 else if x.kind=3 then gd h.c.fixed x.a.toNat
 else if x.kind=4 then gd h.c.fixed x.a.toNat&&Q (bs3 w h.c.order x.a=x.b)
 else if x.kind=5 then(h.out x.a.toNat).any λu=>Q<|bqD w h.c.order x.a u=x.b
 else I
def bz3{w:am}{l:List xd}{c cF:sA}(h:aNT w c l=V cF){k:Nat}(b:k<L l):∃a,aNT w c (l.take k)=V a/\aID w a (gd l k).aq=U:=by have e:l=l.take k++gd l k::l.drop (k+1):=(by rw[bT b,<-Cw b,List.take_append_drop]);rw[e,bnp] at h;cases d:aNT w c (l.take k) with|none=>rw[d] at h;cases h|some a=>rw[d] at h;refine⟨a,rfl,?_⟩;simp only[qd,aNT] at h;split at h;assumption;cases h
def bz5{w:am}{l:List xd}{h:a7g}{k:Nat}(a:k<L l):bcW w h (l.take<|k+1)=aRI w (bcW w h<|l.take k) (gd l k):=by rw[iJ a,bz4,<-bT a];rfl
def KH:∀{a:List (Value×Value)},xF (a.map ent)=V a
 |[]=>rfl
 |(k,v)::a=>by simp only[ji,ent,xF,KH];rfl
section
variable{κ β:Type}[DecidableEq κ]
def brF(kv:κ->Value)(vv:β->Value)(l:List<|κ×β):List (Value×Value):=l.map λp=>(kv p.1,vv p.2)
def lkM(l:List<|κ×β)(k:κ):Option β:=(l.find? λp=>Q<|k=p.1).map (·.2)
def btm{p:κ×β}{l:List (κ×β)}{k:κ}:lkM (p::l) k=if k=p.1 then V p.2 else lkM l k:=by unfold lkM;by_cases h:k=p.1<;>simp[h]
structure MKd(mt:MT)(kA:κ->AV)(kv:κ->Value):Prop where
 eq:∀x y,pO mt (kv x) (kv y)=V (Q<|x=y)
 kV:∀x,ww mt.st (kA x)=V (kv x)
 ok:∀x,qR mt (kv x)=U
 sb:∀x,Instr.sameBits 10000 (kv x) (kv x)=U
variable{mt:MT}{kA:κ->AV}{kv:κ->Value}{vv:β->Value}
theorem byL(H:MKd mt kA kv){k:κ}:∀{l:List (κ×β)} {j:Nat},(lkM l k=J/\lg mt (kv k) (brF kv vv l) j=V J)\/∃v i,lkM l k=V v/\lg mt (kv k) (brF kv vv l) j=V (V (j+i,vv v))/\(∃y,(brF kv vv l)[i]?=V (kv k,y))/\∀v' x,lkM (l.set i (k,v')) x=if x=k then V v' else lkM l x
 |[],j=> .inl ⟨rfl,rfl⟩
 |p::l,j=>by
  by_cases h:k=p.1
  ·refine .inr ⟨p.2,0,by rw[btm,J9 h],by simp[brF,lg,H.eq,h],⟨vv p.2,by simp[brF,h]⟩,λv' x=>?_⟩
   simp only[List.set_cons_zero,btm]
   split
   ·rfl
   ·rw[J7<|by rw[<-h];assumption]
  ·rcases byL H (k:=k) (l:=l) (j:=j+1) with⟨a,c⟩|⟨v,i,a,c,d,g⟩
   ·exact .inl ⟨by rw[btm,J7 h,a],by simpa[brF,lg,H.eq,h] using c⟩
   ·refine .inr ⟨v,i+1,by rw[btm,J7 h,a],?_,by simpa[brF] using d,λv' x=>?_⟩
    ·have e:j+(i+1)=j+1+i:=by omega
     simpa[brF,lg,H.eq,h,e] using c
    ·simp only[List.set_cons_succ,btm,g]
     grind
theorem bAS{l:List (κ×β)}{k x:κ}{v:β}(h:lkM l k=J):lkM (l++[(k,v)]) x=if x=k then V v else lkM l x:=by induction l with|nil=>simp[btm]|cons p l a=>rw[btm] at h;split at h;(cases h);simp only[zn,btm,a h];grind
def MP(kv:κ->Value)(vv:β->Value)(Y:ae)(b:Id)(f:κ->Option β):Prop:=∃(t:TypeId) (l:List<|κ×β),box Y b=V ⟨t,0,U,U,[(brF kv vv l).map ent]⟩/\∀x,lkM l x=f x
variable{Y Y':ae}{b:Id}{f:κ->Option β}{o n:Nat}
theorem MP.fx{ks:List Id}(M:MP kv vv Y b f)(F:Fx Y Y' ks)(d:b∉ks):MP kv vv Y' b f:=by obtain⟨t,l,a,c⟩:=M;exact⟨t,l,F.keep _ _ d a,c⟩
def MP.lu(H:MKd mt kA kv)(M:MP kv vv Y b f){x:κ}:oP mt Y (.g 0 b o n) (kA x) I=V (.s<|(f x).elim mt.zero vv)/\oP mt Y (.g 0 b o n) (kA x) U=V (.t [.s<|(f x).elim mt.zero vv,bv (f x).isSome]):=by
 obtain⟨t,l,d,e⟩:=M
 rw[<-e]
 rcases byL (vv:=vv) H (k:=x) (l:=l) (j:=0) with⟨a,c⟩|⟨v,i,a,c,_⟩<;>
  simp only[oP,H.kV,d,qd,ul,awG,aNZ,KH,H.ok,c,a]<;>exact⟨rfl,rfl⟩
def MP.mu(H:MKd mt kA kv)(M:MP kv vv Y b f){x:κ}{v:β}{K:ae->Prop}(h:∀Y',Fx Y Y' [b]->MP kv vv Y' b (λy=>if y=x then V v else f y)->K Y'):sV (muA mt Y (.g 0 b o n) (kA x)<|.s<|vv v) K:=by obtain⟨t,l,a,d⟩:=M;rcases byL (vv:=vv) H (k:=x) (l:=l) (j:=0) with⟨e,c⟩|⟨u,i,e,c,⟨y,m⟩,p⟩;simp only[muA,H.kV,a,ul,awG,aNZ,KH,H.ok,c];refine h _ (wc a) ⟨t,l++[(x,v)],?_,λy=>by rw[bAS e,d]⟩;rw[lO a];simp[brF];simp only[muA,H.kV,a,ul,awG,aNZ,KH,H.ok,c,aj,m,Option.any_some,H.sb];refine h _ (wc a) ⟨t,l.set i (x,v),?_,λy=>by rw[p,d]⟩;rw[lO a];simp[brF,List.map_set]
def buM{t:TypeId}{d:Nat}{K:be}(a:d<L Y)(e:∀v Y',Fx Y Y' []->bK Y (d,v)->MP kv vv Y' (d,v) (λ_=>J)->K (.g 0 (d,v) 0 0) Y'):eV (oS t Y d) K:=by have c:oS t Y d=V (.g 0 (lA Y d) 0 0,put Y d ⟨t,0,U,U,[[]]⟩):=(by simp[oS,vg,a]);rw[c];exact e _ _ (kH a) (qQ Y d) ⟨t,[],iy a,λ_=>rfl⟩
end
abbrev mtI:MT:=⟨I,[(0,0)], .int .i64<|Int.ofNat 0⟩
abbrev mtW:MT:=⟨U,[(0,0),(1,0)], .bool I⟩
def kI(n:Int):Value:= .int .i64 n
def kW(p:Int×Int):Value:= .agg #[.int .i64 p.1, .int .i64 p.2]
def bzR:MKd mtI iv kI:=⟨λx y=>by simp[pO,kI,Bool.beq_eq_decide_eq],λ_=>rfl,λ_=>rfl,λx=>by simp[kI,Instr.sameBits]⟩
def mkW:MKd mtW (λp:Int×Int=> .a [iv p.1,iv p.2]) kW:=by refine⟨λx y=>?_,λ_=>rfl,λ_=>by simp[qR,kW],λx=>by simp[kW,Instr.sameBits]⟩;obtain⟨a,b⟩:=x;obtain⟨c,d⟩:=y;by_cases e:a=c<;>by_cases g:b=d<;>simp[pO,kW,nW,sS,e,g]
abbrev MI(Y:ae)(b:Id)(f:Int->Option Int):Prop:=MP kI kI Y b f
abbrev MW(Y:ae)(b:Id)(g:Int->Int->Bool):Prop:=MP kW (λb:Bool=> .bool b) Y b λp=>if g p.1 p.2=U then V U else J
def MI.lu{Y:ae}{b:Id}{f:Int->Option Int}{x:Int}{o n:Nat}(M:MI Y b f):oP mtI Y (.g 0 b o n) (iv x) I=V (iv<|(f x).getD 0)/\oP mtI Y (.g 0 b o n) (iv x) U=V (.t [iv<|(f x).getD 0,bv (f x).isSome]):=by have:=MP.lu bzR M (x:=x) (o:=o) (n:=n);cases a:f x<;>rw[a] at this<;>exact this
def MW.lu{Y:ae}{b:Id}{g:Int->Int->Bool}{x y:Int}{o n:Nat}(M:MW Y b g):oP mtW Y (.g 0 b o n) (.a [iv x,iv y]) I=V (bv<|g x y):=by have:=(MP.lu mkW M (x:=(x,y)) (o:=o) (n:=n)).1;refine this.trans ?_;cases c:g x y<;>simp[c]
def MI.mu{Y:ae}{b:Id}{f:Int->Option Int}{x v:Int}{o n:Nat}{K:ae->Prop}(M:MI Y b f)(a:∀Y',Fx Y Y' [b]->MI Y' b (bih f x v)->K Y'):sV (muA mtI Y (.g 0 b o n) (iv x)<|iv v) K:=MP.mu bzR M (v:=v) a
def MW.mu{Y:ae}{b:Id}{g:Int->Int->Bool}{x y:Int}{o n:Nat}{K:ae->Prop}(M:MW Y b g)(i:∀Y',Fx Y Y' [b]->MW Y' b (λa c=>g a c||(Q (a=x)&&Q (c=y)))->K Y'):sV (muA mtW Y (.g 0 b o n) (.a [iv x,iv y])<|bv U) K:=by refine MP.mu mkW M (x:=(x,y)) (v:=U) λY' F d=>i Y' F ?_;have:(λz:Int×Int=>if z=(x,y) then V U else if g z.1 z.2=U then V U else J)=λz:Int×Int=>if(g z.1 z.2||(Q (z.1=x)&&Q (z.2=y)))=U then V U else J:=(by funext⟨a,c⟩;by_cases e:a=x<;>by_cases h:c=y<;>cases j:g a c<;>simp[e,h]);unfold MW;rw[<-this];exact d
def NP(w:am)(j:Po w=U/\hU w):Ct 48 [.a w.c] (λr=>∃t,r= .l ((cw w).map aH8.c) t U):=by refine aJ4 rfl λs p g o=>?_;obtain⟨b,d⟩:=j;have r15:aN (V 15) w.c=V (.a w.c):=rfl;obtain⟨h,q⟩:=aQA b;obtain⟨f,n,k,m,e⟩:=tC h;have i:kB w/\L w.init.mp.ay<=4/\fN w.aQ w.init=U/\Po w=U/\hU w:=⟨Rr d b,f.sy.th,e,b,d⟩;simp+contextual only[aYM,u0,u1,g,r15,rk,aj,ar,bxB,b,d,i,awG,I9,fh,eE,aNU,aOw,↓uL];intro t;exact⟨.inl rfl,rfl,t,rfl⟩
def aSc:FT:=om NP
def ax3{w Lw K}:=f111 aSc NP w Lw K
def byU(l:List Int)(n:Int)(d:L l<4611686018427387904):Ct 49 [sl ci l,iv n] (·=iv (oW l n)):=by refine bBj λs0 _ e=>?_;simp only[bzo,cT,aY,↓uL];refine C7 (L l) (λk=>∀j,j<k->gd l j≠n) (by simp) λk f b=>?_;simp+contextual only[qz 19,u0,u1,ix,rk,bh,au,aI,↓uL];refine⟨λh=>⟨vp h,λa=>?_,λa=>gS (aL h) d<|a6p b<|by simpa using a⟩,λh=>?_⟩;rw[anR (aL h) b<|by simpa using a];rw[anS λj c=>b j<|C3 c<|bw h]
def bzf:FT:=aIc byU
def bAq{l n Lw K}:=f210 bzf byU l n Lw K
def bAg{l:List Int}{r:Int}{k:Nat}(c:k<L l)(h:∀j,j<k->gd l j≠r)(b:gd l k=r):bqV l r=l.take k:=by induction l generalizing k with|nil=>simp at c|cons a l e=>cases k with|zero=>have:a=r:=b;simp[bqV,this]|succ k=>have d:a≠r:=h 0 (by omega);have:=e (k:=k) (by simpa using c) (λj f=>h (j+1)<|by omega) b;simp only[bqV,List.takeWhile_cons,List.take_succ_cons] at this⊢;simp[d,this]
def bAd{l:List Int}{r:Int}(h:∀j,j<L l->gd l j≠r):bqV l r=l:=by induction l with|nil=>rfl|cons a l d=>have b:a≠r:=h 0 (by simp);have:=d λj c=>h (j+1) (by simpa using c);simp only[bqV,List.takeWhile_cons] at this⊢;simp[b,this]
def bx1{p:Int->Bool}{d:Int}{l:List Int}{k:Nat}(a:k<L l):bkg p d (l.take<|k+1)=if p (gd l k)=U then gd l k else bkg p d (l.take k):=by rw[iJ a,bxZ,<-bT a]
def byV(w:am)(l:List Int)(r:Int)(p:L l<4611686018427387904/\(∀x∈l,aF (L w.ac) x)/\aF (L w.ac) r):Ct 52 [.a w.c,sl ci l,iv r] (·=iv (bs3 w l r)):=by obtain⟨t,k,q⟩:=p;refine bBk rfl λy v m u=>?_;have g:∀{Y:ae},fS Y (sl ci l)=V (iv<|L l):=cT;simp only[bzp,aOe,qz 17,u0,u1,g,↓uL];refine yh (λs:Int×Nat=>[iv s.1,iv s.2]) 1 (L l) (λs=>s.2<=L l/\s.1=bkg (λi=>aTG (gd w.ac i.toNat)<|gd w.ac r.toNat) (-1) (l.take s.2)/\∀j,j<s.2->gd l j≠r) (-1,0) ⟨by simp,by simp[bkg],by simp⟩ ?_;rintro⟨a,i⟩ ⟨n,d,b⟩;simp only at n d b;simp+contextual only[qz 25,qz 47,qz 45,qz 15,aOe,aI,au,gt1,u0,u1,m,ix,rk,ar,bxB,bh,aj,↓uL];refine⟨λh=>⟨vp h,λe=>?_,λe=>⟨k _<|dB<|aL h,q,λf=>?_,λf=>?_⟩⟩,λh=>?_⟩;rw[d,bs3,bAg (aL h) b<|aNK e];refine wN (enc:=λs:Int×Nat=>[iv s.1,iv s.2]) (s:=(a,i)) (s':=(gd l i,i+1)) (i:=i) (by rw[fX<|by omega]) rfl rfl (aL h) ⟨aL h,by rw[bx1<|aL h,J9 f],a6p b<|be7 e⟩;refine wN (enc:=λs:Int×Nat=>[iv s.1,iv s.2]) (s:=(a,i)) (s':=(a,i+1)) (i:=i) (by rw[fX<|by omega]) rfl rfl (aL h) ⟨aL h,by rw[bx1<|aL h,J7 (by rw[f];decide),d],a6p b<|be7 e⟩;rw[d,oB<|bw h,bs3,bAd λj o=>b j<|C3 o<|bw h]
def bzg:FT:=qe byV
def bAr{w l r Lw K}:=sT bzg byV w l r Lw K
def byW(w:am)(l:List Int)(n u:Int)(r:L l<4611686018427387904/\(∀x∈l,aF (L w.ac) x)/\(0<=u/\u<1000000)):Ct 53 [.a w.c,sl ci l,iv n,iv u] (·=iv (bqD w l n u)):=by obtain⟨t,f,z⟩:=r;refine bBl rfl λA y m v=>?_;have k:∀{Y:ae},fS Y (sl ci l)=V (iv<|L l):=cT;have o:dq.wrap (-1-u)= -1-u:=eM (by omega) (by omega);simp only[bzq,aOe,qz 17,u0,u1,k,o,↓uL];refine yh (λs:Int×Nat=>[iv s.1,iv s.2]) 1 (L l) (λs=>s.2<=L l/\s.1=bkg (isW w u) (-1-u) (l.take s.2)/\∀j,j<s.2->gd l j≠n) (-1-u,0) ⟨by simp,by simp[bkg],by simp⟩ ?_;rintro⟨a,i⟩ ⟨p,d,b⟩;simp only at p d b;simp+contextual only[qz 25,qz 47,qz 45,qz 15,aOe,aI,au,gt1,u0,u1,m,ix,rk,bh,aj,↓uL];refine⟨λh=>⟨vp h,λe=>?_,λe=>⟨f _<|dB<|aL h,λ_=>f _<|dB<|aL h,λg=>?_,λg=>?_⟩⟩,λh=>?_⟩;rw[d,bqD,bAg (aL h) b<|aNK e];refine wN (enc:=λs:Int×Nat=>[iv s.1,iv s.2]) (s:=(a,i)) (s':=(gd l i,i+1)) (i:=i) (by rw[fX<|by omega]) rfl rfl (aL h) ⟨aL h,by rw[bx1<|aL h,J9<|by rw[isW];exact g],a6p b<|be7 e⟩;refine wN (enc:=λs:Int×Nat=>[iv s.1,iv s.2]) (s:=(a,i)) (s':=(a,i+1)) (i:=i) (by rw[fX<|by omega]) rfl rfl (aL h) ⟨aL h,by rw[bx1<|aL h,J7 (by rw[isW,g];decide),d],a6p b<|be7 e⟩;rw[d,oB<|bw h,bqD,bAd λj q=>b j<|C3 q<|bw h]
def bzh:FT:=bix byW
def bAs{w l n u Lw K}:=bmX bzh byW w l n u Lw K
def byT(p:List Bool)(q:List Int)(n:L p<4611686018427387904/\L q<4611686018427387904):Ct 20 [.a [sl cb p,sl ci q], .a [sl cb p,sl ci q]] (·=bv U):=by obtain⟨i,j⟩:=n;refine bBi rfl rfl λs r b c o=>?_;have f:∀{x y:AV},aN J [x,y]=V x:=λ{x y}=>(by cases x<;>rfl);have g:∀{x:AV},aN J [x]=V x:=λ{x}=>(by cases x<;>rfl);have d:∀{x y:AV},aOz 1 [x,y]=[y]:=λ{x y}=>rfl;simp+contextual only[bxT,u0,u1,b,c,f,g,d,cT,aj,dc,NA,I9,↓uL];refine⟨by simp,λ_=>?_⟩;refine C7 (L p) (λ_=>True) trivial λk m _=>?_;simp+contextual only[qz 91,qz 37,bxT,aI,au,u0,u1,b,c,f,g,d,ix,rk,cT,bh,aj,dc,NA,I9,↓uL];refine⟨λh=>⟨vp h,vp h,λe=>by cases l:gd p k<;>simp[l] at e,λ_=>gS (aL h) i trivial⟩,λh=>?_⟩;refine C7 (L q) (λ_=>True) trivial λk m _=>?_;simp+contextual only[qz 91,qz 37,bxT,aI,au,u0,u1,b,c,f,g,d,ix,rk,cT,bh,aj,dc,NA,I9,↓uL];exact⟨λh=>⟨vp h,vp h,λe=>by simp at e,λ_=>gS (aL h) j trivial⟩,trivial⟩
def bze:FT:=aIc byT
def bAp{p q Lw K}:=f210 bze byT p q Lw K
def byt:dO:=(48,aSc)::(49,bzf)::(52,bzg)::(53,bzh)::(20,bze)::brz
def by8:eJ byt:=it (rj NP)<|it (aCb byU)<|it (tE byV)<|it (bnA byW)<|it (aCb byT)<|brW
def buu:=ai @ax3<|ai @bAq<|ai @bAr<|ai @bAs<|ai @bAp<|@bxB
def bzC:=bA 42 [(6,([32],[1,2,4,5,6,7,8,30,31])),(9,([],[1,2,4,5,6,7,8,30,31,32])),(14,([47],[2,4,5,6,7,8,45,46])),(24,([],[2,4,5,6,7,8,14,45,46,47])),(32,([115],[2,4,5,6,7,8,13,14,45,46,47])),(35,([123],[2,4,5,6,7,8,13,14,45,46,47,121,122])),(38,([],[2,4,5,6,7,8,13,14,45,46,47,121,122,123]))]
def byH a b c R:=(.mk _:NS byt bzC Tryz.f47 [.u,b] [a] c R).p
def bBo{c0:List AV}{b:AV}{s0:ae}{R:be}(c:L s0=4096)(l0:L c0=15)(h:HB1 43 15 2 c0 s0 λe d=>byH e b d R):EB 47 [.a c0,b] s0 R:=zB1 bzC by8 Tryz.func47 c l0 h
def bzA:=bA 21 [(5,([20],[2,5,6,18,19])),(14,([41],[2,5,6,9,10,18,19,20,40])),(17,([],[2,5,6,9,10,18,19,20,40,41]))]
def byF a b c R:=(.mk _:NS byt bzA Tryz.f50 [.u,b] [a] c R).p
def bBm{c0:List AV}{b:AV}{s0:ae}{R:be}(c:L s0=4096)(l0:L c0=15)(h:HB1 43 15 2 c0 s0 λe d=>byF e b d R):EB 50 [.a c0,b] s0 R:=zB1 bzA by8 Tryz.func50 c l0 h
section
variable{x y:ae}{w:am}{v2 v4 v5 v21 v22 v24 v25 v26:Nat}{h:a7g}
structure StH(x:ae)(w:am)(v2 v4 v5 v21 v22 v24 v25 v26:Nat)(h:a7g):Prop where
 hl:L x=4096
 b2:box x (2,v2)=V ⟨43,15,U,U,[w.c]⟩
 b4:box x (4,v4)=V ⟨107,11,U,U,[br8]⟩
 b5:box x (5,v5)=V ⟨107,11,U,U,[h.c.c++[.g 0 (21,v21) 0 0, .g 0 (22,v22) 0 0]]⟩
 m1:MI x (21,v21) h.src
 m2:MW x (22,v22) h.wk
 m3:MI x (24,v24) h.st
 m4:MI x (25,v25) h.se
 m5:MI x (26,v26) h.wt
theorem StH.fx(S:StH x w v2 v4 v5 v21 v22 v24 v25 v26 h)(F:Fx x y []):StH y w v2 v4 v5 v21 v22 v24 v25 v26 h:=⟨F.len.trans S.hl,F.kq S.b2,F.kq S.b4,F.kq S.b5,S.m1.fx F (by simp),S.m2.fx F (by simp),S.m3.fx F (by simp),S.m4.fx F (by simp),S.m5.fx F<|by simp⟩
def StH.u1(S:StH x w v2 v4 v5 v21 v22 v24 v25 v26 h){f:Int->Option Int}(F:Fx x y [(21,v21)])(M:MI y (21,v21) f):StH y w v2 v4 v5 v21 v22 v24 v25 v26 {h with src:=f}:=⟨F.len.trans S.hl,F.kq S.b2,F.kq S.b4,F.kq S.b5,M,S.m2.fx F (by simp),S.m3.fx F (by simp),S.m4.fx F (by simp),S.m5.fx F (by simp)⟩
def StH.u2(S:StH x w v2 v4 v5 v21 v22 v24 v25 v26 h){f:Int->Int->Bool}(F:Fx x y [(22,v22)])(M:MW y (22,v22) f):StH y w v2 v4 v5 v21 v22 v24 v25 v26 {h with wk:=f}:=⟨F.len.trans S.hl,F.kq S.b2,F.kq S.b4,F.kq S.b5,S.m1.fx F (by simp),M,S.m3.fx F (by simp),S.m4.fx F (by simp),S.m5.fx F (by simp)⟩
def StH.u3(S:StH x w v2 v4 v5 v21 v22 v24 v25 v26 h){f:Int->Option Int}(F:Fx x y [(24,v24)])(M:MI y (24,v24) f):StH y w v2 v4 v5 v21 v22 v24 v25 v26 {h with st:=f}:=⟨F.len.trans S.hl,F.kq S.b2,F.kq S.b4,F.kq S.b5,S.m1.fx F (by simp),S.m2.fx F (by simp),M,S.m4.fx F (by simp),S.m5.fx F (by simp)⟩
def StH.u4(S:StH x w v2 v4 v5 v21 v22 v24 v25 v26 h){f:Int->Option Int}(F:Fx x y [(25,v25)])(M:MI y (25,v25) f):StH y w v2 v4 v5 v21 v22 v24 v25 v26 {h with se:=f}:=⟨F.len.trans S.hl,F.kq S.b2,F.kq S.b4,F.kq S.b5,S.m1.fx F (by simp),S.m2.fx F (by simp),S.m3.fx F (by simp),M,S.m5.fx F (by simp)⟩
def StH.u5(S:StH x w v2 v4 v5 v21 v22 v24 v25 v26 h){f:Int->Option Int}(F:Fx x y [(26,v26)])(M:MI y (26,v26) f):StH y w v2 v4 v5 v21 v22 v24 v25 v26 {h with wt:=f}:=⟨F.len.trans S.hl,F.kq S.b2,F.kq S.b4,F.kq S.b5,S.m1.fx F (by simp),S.m2.fx F (by simp),S.m3.fx F (by simp),S.m4.fx F (by simp),M⟩
end
def brR{Y x y:ae}{q:Id}(F:Fx Y x [])(b:Fx x y [q])(N:bK Y q):Fx Y y []:=(F.trans b).mono λr a=>by simp at a;subst a;exact .inr N.no
def byw{s s':aW}{k:Nat}:bc4 s s' (k+1)=if bsi s s' k=U then bc4 s s' k++[(k:Int)] else bc4 s s' k:=by simp only[bc4,qn,me,dg];by_cases h:bsi s s' k=U<;>simp[h]
def bBr{s s':aW}{k:Nat}:L (bc4 s s' k)<=k:=by have:=fZ (bsi s s')<|aH k;simpa[bc4] using this
def bzF{Y:ae}{b:Id}{f:Int->Option Int}{o:Int}{d n m:Nat}{K:be}(c:L Y=4096)(M:MI Y b f)(a:K (iv<|(f o).getD<|-1) Y):cB 99 [.g 0 b n m,iv o] Y d K:=by refine aS2 rfl ?_ a;refine bBn c ?_;simp only[byG,M.lu.2,aY,oJ,pG,↓uL];cases f o<;>simp only[Option.isSome_none,Option.isSome_some,↓iC,↓iB,fe,aoz]<;>exact⟨rfl,Fx.refl _ _⟩
def rdH{c:sA}{x y:AV}:aN (V 9) (c.c++[x,y])=V (.a c.c)/\aN J (aOz 9<|c.c++[x,y])=V x/\aN J (aOz 10<|c.c++[x,y])=V y/\aN J (aOz 3<|c.c++[x,y])=V (sl aoC.c c.mp.ay)/\aN (V 11) (c.c++[x,y])=V (.a<|c.c++[x,y]):=⟨rfl,rfl,rfl,rfl,rfl⟩
def bAi(Y:ae)(h:a7g)(r:AV)(b:ae):Prop:=∃d v2,r= .a (h.c.c++[.g 0 (21,d) 0 0, .g 0 (22,v2) 0 0])/\MI b (21,d) h.src/\MW b (22,v2) h.wk/\Fx Y b []/\bK Y (21,d)/\bK Y (22,v2)
def bAO{Y:ae}{w:am}{l:List xd}{cF:sA}(C:L Y=4096)(hw:aC2 w)(af:Po w=U)(cn:L l<1000000)(hr:aNT w (aNY w) l=V cF):∃r Y1,bAi Y (bcW w (aYF w) l) r Y1/\cZ aS GG 47 [.a w.c,sl xd.c l] Y r Y1:=by refine bBo C rfl λs2 v2 K2 cq nf2 Z=>?_;have q:Fx Y s2 []:=K2.fx [];have aU:=q.len.trans C;have cm:=hw.wo.wo.ev;have cp:L w.init.mp.ay<=4:=(bhV af).sy.th;simp only[byH,↓uL];refine so aU λv4 s3 F3 N3 b4=>?_;have c2:=F3.kq Z;have aV:=F3.len.trans aU;simp only[qz 4,qy 6,u0,u1,c2,r15,rk,ar,buu,aj,↓uL];refine⟨⟨hw,af⟩, .inl rfl,?_⟩;refine buM (kv:=kI) (vv:=kI) (by rw[aV];decide) λv21 s4 F4 N4 m1=>?_;have aW:=F4.len.trans aV;refine buM (kv:=kW) (vv:=λb:Bool=> .bool b) (by rw[aW];decide) λv22 s5 F5 N5 m2=>?_;have aX:=F5.len.trans aW;have bB:∀{c:sA},bM br8 [(0,9),(9,1),(10,1)] [(0, .a c.c),(1, .g 0 (21,v21) 0 0),(2, .g 0 (22,v22) 0 0)]=V (.a<|c.c++[.g 0 (21,v21) 0 0, .g 0 (22,v22) 0 0]):=λ{c}=>rfl;simp only[qz 8,qy 10,qy 12,bB,aY,↓uL];refine anu aX λv5 s6 F6 N6 E=>?_;have ab:=F6.len.trans aX;refine buM (kv:=kI) (vv:=kI) (by rw[ab];decide) λv24 s7 F7 N7 m3=>?_;have aZ:=F7.len.trans ab;simp only[qz 14,qy 16,↓uL];refine buM (kv:=kI) (vv:=kI) (by rw[aZ];decide) λv25 s8 F8 N8 m4=>?_;have a0:=F8.len.trans aZ;refine buM (kv:=kI) (vv:=kI) (by rw[a0];decide) λv26 P F9 N9 m5=>?_;have bF:=F9.len.trans a0;have aP:Fx s7 P []:=F8.trans F9;have aO:Fx s6 P []:=F7.trans aP;have aM:Fx s5 P []:=F6.trans aO;have aK:Fx s4 P []:=F5.trans aM;have aJ:Fx s3 P []:=F4.trans aK;have G3:Fx Y s3 []:=q.trans F3;have G4:Fx Y s4 []:=G3.trans F4;have G6:Fx Y s6 []:=(G4.trans F5).trans F6;have G8:Fx Y s8 []:=(G6.trans F7).trans F8;have n4:bK Y (4,v4):=N3.old q;have aq:bK Y (21,v21):=N4.old G3;have a3:bK Y (22,v22):=N5.old G4;have n5:bK Y (5,v5):=N6.old<|G4.trans F5;have bG:bK Y (24,v24):=N7.old G6;have bH:bK Y (25,v25):=N8.old<|G6.trans F7;have a4:bK Y (26,v26):=N9.old G8;have e0:wt0 w 0=λ_=>J:=(by funext u;simp[wt0]);have X:StH P w v2 v4 v5 v21 v22 v24 v25 v26 {aYF w with wt:=wt0 w 0}:=⟨bF,aJ.kq c2,aJ.kq b4,aO.kq E,m1.fx aK (by simp),m2.fx aM (by simp),m3.fx aP (by simp),m4.fx F9 (by simp),by rw[e0];exact m5⟩;simp only[qz 18,u0,u1,X.b2,rk,cT,aj,dc,↓uL];refine yV (L w.init.mp.ay) (λk _ x=>Fx Y x []/\StH x w v2 v4 v5 v21 v22 v24 v25 v26 {aYF w with wt:=wt0 w k}) ⟨G8.trans F9,X⟩ ?_;rintro k _ x hk ⟨O,S⟩;simp only[qz 37,au,aI,u0,u1,↓uL];refine⟨λp=>?_,λp=>?_⟩;have v:=aL p;refine bqF (λd=>∀z,Fx Y z []->StH z w v2 v4 v5 v21 v22 v24 v25 v26 {aYF w with wt:=wt0 w (k+1)}->d [] z) ?_ λd B=>?_;intro z T Sz;simp only[qz 57,aI,au,u0,u1,↓uL];exact dR (mk:=λ(_:Unit) i=>[iv i]) (s:=()) (s':=()) (λ_ _=>rfl) v (by omega) ⟨T,Sz⟩;simp only[qz 59,qy 20,au,u0,u1,ix,rk,bh,↓uL];refine⟨dJ v,anu S.hl λct y F N bo=>?_⟩;have Sy:=S.fx F;simp+contextual only[qz 22,qy 24,u0,u1,bo,rk,au,aj,↓uL];refine⟨λh3=>?_,λh3=>B y (O.trans F)<|by rw[bAh,J7<|be7 h3];exact Sy⟩;rw[eM (by omega)<|by omega];exact Sy.m5.mu λz o M=>B z (brR (O.trans F) o a4) (by rw[bAh,J9<|aNK h3];exact Sy.u5 o M);obtain rfl:k=L w.init.mp.ay:=bP hk<|bw p;have cr:∀{Y:ae},fS Y (sl xd.c l)=V (iv<|L l):=cT;refine yV (L l) (λk _ x=>Fx Y x []/\StH x w v2 v4 v5 v21 v22 v24 v25 v26 (bcW w (aYF w)<|l.take k)) ⟨O,S⟩ ?_;clear S O X p;rintro k _ x hk ⟨O,S⟩;simp only[qz 85,qy 26,qy 62,au,aI,u0,u1,↓uL];refine⟨λp=>?_,λp=>?_⟩;rotate_left;obtain rfl:k=L l:=bP hk<|bw p;rw[gV] at S;simp only[S.b5,u0,u1,rdH,aj,↓uL];refine qr S.b4 rfl rfl λy F b=>?_;simp only[b,u0,u1,rdH,aj,fe,aoz,↓uL];exact⟨v21,v22,rfl,S.m1.fx F (by simp),S.m2.fx F (by simp),brR O F n4,aq,a3⟩;have v:=aL p;obtain⟨ck,bD,D⟩:=bz3 hr v;obtain⟨f,hI⟩:=bxN (HsI.start af) bD;rw[<-hI] at D;have hs:=bz5 (w:=w) (h:=aYF w) v;generalize bcW w (aYF w) (l.take k)=H at S f hI D hs;generalize bC:gd l k=ch at D hs;obtain⟨m,G,h2,h3,h4,h5,h6⟩:=bjy D;have bg:L (aN2 w H.c ch).mp.ay=L H.c.mp.ay:=(bob (w:=w.aQ) (s:=H.c.mp)).2.2;have r2:∀{c:xd},aN (V 2) c.c=V (.a c.c):=λ{c}=>rfl;simp only[u0,u1,boW,rk,r2,bh,bC,↓uL];refine⟨dJ v,anu S.hl λcu y aF ci bp=>?_⟩;have Sy:=S.fx aF;simp only[qz 28,qy 30,u0,u1,Sy.b2,Sy.b5,bp,rdH,r15,rk,oe,gw,r2,ar,arm,Fa,buu,aj,↓uL];refine⟨⟨hw.wo,f.cf⟩,⟨hw,f.cf⟩, .inl rfl,?_⟩;rw[G];simp only[oJ,pG,aY,D,aNV,↓uL];refine anu Sy.hl λav z aG cj bq=>?_;have Sz:=Sy.fx aG;have T:=(O.trans aF).trans aG;have zm:¬(m:Int)<0:=(by omega);simp only[qz 32,qy 34,u0,u1,D,zm,fh,aPF,kz,lG,↓jN,↓jA,Aa,ya,↓iB,↓uL];refine bqF (λd=>∀(y:ae) (g:a7g),Fx Y y []->StH y w v2 v4 v5 v21 v22 v24 v25 v26 g->box y (14,av)=V ⟨57,9,U,U,[(aN2 w H.c ch).c]⟩->{g with c:=aN2 w H.c ch,out:=(aRI w H ch).out}=aRI w H ch->d [] y) ?_ λd B=>?_;intro y g F1 A b e;simp only[qz 147,aI,u0,u1,b,rk,oe,A.b5,aj,↓uL];refine cy (x:= .a (aN2 w H.c ch).c) (y:=9) (j:=0) (cs:=(aN2 w H.c ch).c) A.b5 rfl rfl (by simp[sA.c]) λy2 q bt=>?_;simp only[qz 60,au,u0,u1,↓uL];refine dR (mk:=λ(_:Unit) i=>[iv i]) (s:=()) (s':=()) (λ_ _=>rfl) v (by omega) ⟨brR F1 q n5,?_⟩;rw[hs,<-e];exact⟨q.len.trans A.hl,q.kq A.b2,q.kq A.b4,bt,A.m1.fx q (by simp),A.m2.fx q (by simp),A.m3.fx q (by simp),A.m4.fx q (by simp),A.m5.fx q<|by simp⟩;simp only[qz 149,qy 36,u0,u1,Sz.b2,rk,ix,aj,bh,↓uL];refine⟨dJ h2,anu Sz.hl λcv y R cl br=>?_⟩;have Sy:=Sz.fx R;have t:=R.kq bq;have K:=T.trans R;simp+contextual only[qz 38,qy 40,qy 42,qy 52,u0,u1,br,Sy.b5,rdH,rk,aj,↓uL];refine⟨λk4=>?_,λk4=>⟨λah=>?_,λah=>⟨λk3=>?_,λk3=>⟨λak=>?_,λak=>⟨λag=>?_,λag=>?_⟩⟩⟩⟩⟩;exact Sy.m3.mu λz o M=>B z _ (brR K o bG) (Sy.u3 o M) (o.kq t) (by simp[aRI,G,aNK k4]);exact Sy.m4.mu λz o M=>B z _ (brR K o bH) (Sy.u4 o M) (o.kq t) (by simp[aRI,G,aNK ah]);refine bzF Sy.hl Sy.m3 ?_;simp only[qz 44,↓uL];refine Sy.m1.mu λz o M=>?_;simp only[qz 46,↓uL];refine dT rfl ?_;exact B z _ (brR K o aq) (Sy.u1 o M) (o.kq t) (by simp[aRI,G,aNK k3]);refine bzF Sy.hl Sy.m4 ?_;simp only[qz 48,↓uL];refine Sy.m1.mu λz o M=>?_;simp only[qz 50,↓uL];refine dT rfl ?_;exact B z _ (brR K o aq) (Sy.u1 o M) (o.kq t) (by simp[aRI,G,aNK ak]);exact Sy.m5.mu λz o M=>B z _ (brR K o a4) (Sy.u5 o M) (o.kq t) (by simp[aRI,G,aNK ag]);have a2:=be7 k4;have an:=be7 ah;have a1:=be7 k3;have ao:=be7 ak;have al:=be7 ag;refine bs5 (λd=>∀b,b=(Q ((gd w.ac m).kind=18)||Q ((gd w.ac m).kind=19))->d [bv b]) ?_ λd hB=>?_;intro b p;simp only[qz 195,aI,au,u0,u1,Sy.b5,rdH,rk,cT,aj,↓uL];refine⟨λbA=>?_,λbz=>B y H K Sy t (by rw[bz] at p;have:=p.symm;simp only[Bool.or_eq_false_iff,aNG] at this;simp[aRI,G,a2,an,a1,ao,al,this.1,this.2])⟩;have kk:(gd w.ac m).kind=18\/(gd w.ac m).kind=19:=(by rw[bA] at p;simpa using p.symm);have co:=f.cf.sy.th;refine yV (L H.c.mp.ay) (λk _ x=>Fx Y x []/\box x (14,av)=V ⟨57,9,U,U,[(aN2 w H.c ch).c]⟩/\StH x w v2 v4 v5 v21 v22 v24 v25 v26 {H with wk:=λa b=>H.wk a b||(Q (a=m)&&(bc4 H.c.mp (aN2 w H.c ch).mp k).any λu=>Q<|(H.wt u).getD 0=b)}) ⟨K,t,by simpa[bc4] using Sy⟩ ?_;rintro n _ x hn ⟨Fn,aR,Sn⟩;simp only[qz 211,au,aI,u0,u1,↓uL];refine⟨λp=>?_,λp=>?_⟩;have ad:=aL p;refine bqF (λJ2=>∀z,Fx Y z []->box z (14,av)=V ⟨57,9,U,U,[(aN2 w H.c ch).c]⟩->StH z w v2 v4 v5 v21 v22 v24 v25 v26 {H with wk:=λa b=>H.wk a b||(Q (a=m)&&(bc4 H.c.mp (aN2 w H.c ch).mp<|n+1).any λu=>Q<|(H.wt u).getD 0=b)}->J2 [] z) ?_ λJ2 aT=>?_;intro z T ez Sz;simp only[qz 231,aI,au,u0,u1,↓uL];exact dR (mk:=λ(_:Unit) i=>[iv i]) (s:=()) (s':=()) (λ_ _=>rfl) ad (by omega) ⟨T,ez,Sz⟩;simp only[qz 233,qy 54,au,u0,u1,ix,rk,bh,↓uL];refine⟨dJ ad,anu Sn.hl λcw y F N bs=>?_⟩;have W:=Sn.fx F;have aa:=F.kq aR;simp+contextual only[qz 56,qy 58,u0,u1,bs,aa,W.b5,rdH,rk,oe,ix,au,bg,dJ ad,bh,aj,dc,NA,I9,↓uL];have bd:∀{a b:Int},bM br9 C2 [(0,iv a),(1,iv b)]=V (.a [iv a,iv b]):=λ{a b}=>rfl;simp only[W.m5.lu.1,bd,aY,↓uL];refine⟨λhc=>?_,λhc=>aT y (Fn.trans F) aa<|by rw[byw,J7<|by rw[bsi,hc];decide];exact W⟩;refine W.m2.mu λz o M=>aT z (brR (Fn.trans F) o a3) (o.kq aa) ?_;have X:=W.u2 o M;rw[byw,J9<|by rw[bsi,hc]];have e:(λ(a b:Int)=>H.wk a b||(Q (a=m)&&(bc4 H.c.mp (aN2 w H.c ch).mp n++[(n:Int)]).any λu=>Q<|(H.wt u).getD 0=b))=λa c=>(H.wk a c||(Q (a=m)&&(bc4 H.c.mp (aN2 w H.c ch).mp n).any λu=>Q<|(H.wt u).getD 0=c))||(Q (a=m)&&Q (c=(H.wt n).getD 0)):=(by funext a c;simp only[List.any_append,List.any_cons,Cv,kz,Bool.and_or_distrib_left,Bool.or_assoc,eq_comm (a:=c)]);rw[e];exact X;obtain rfl:n=L H.c.mp.ay:=bP hn<|bw p;exact B x _ Fn Sn aR (by simp[aRI,G,a2,an,a1,ao,al,kk]);simp+contextual only[qz 197,u0,u1,↓uL];exact⟨λh=>hB _ (by rw[h];rfl),λh=>hB _<|by rw[h];rfl⟩
structure StO(Y x:ae)(w:am)(v2 v6:Nat)(bo:Id)(h:a7g):Prop where
 fx:Fx Y x []
 hl:L x=4096
 b2:box x (2,v2)=V ⟨43,15,U,U,[w.c]⟩
 b6:box x (6,v6)=V ⟨57,9,U,U,[h.c.c]⟩
 ow:∃f,lJ x bo 38 3 69 (L w.ac) (λi=>(h.out i).map ci) f/\∀i,i<L w.ac->∀q∈aA (f i),bK Y q
def StO.up{Y x y:ae}{w:am}{v2 b:Nat}{a:Id}{h:a7g}(S:StO Y x w v2 b a h)(F:Fx x y []):StO Y y w v2 b a h:=by obtain⟨f,O,N⟩:=S.ow;exact⟨S.fx.trans F,F.len.trans S.hl,F.kq S.b2,F.kq S.b6,f,O.keep F (by simp) (by simp),N⟩
def bzr(Y:ae)(w:am)(h:a7g)(r:AV)(a:ae):Prop:=∃b f,r= .m b (L w.ac)/\lJ a b 38 3 69 (L w.ac) (λi=>(h.out i).map ci) f/\Fx Y a []/\bK Y b/\b.1=15
def bAP{Y:ae}{w:am}{l:List xd}{cF:sA}(C:L Y=4096)(Z:aC2 w)(T:Po w=U)(bs:L l<1000000)(hr:aNT w (aNY w) l=V cF):∃r Y1,bzr Y w (bcW w (aYF w) l) r Y1/\cZ aS GG 50 [.a w.c,sl xd.c l] Y r Y1:=by refine bBm C rfl λs2 v2 K2 bz nf2 G=>?_;have F2:Fx Y s2 []:=K2.fx [];have af:=F2.len.trans C;have bq:=Z.wo.wo.ev;have bv:L w.init.mp.ay<=4:=(bhV T).sy.th;simp only[byF,u0,u1,G,rk,cT,aj,↓uL];refine AP (by decide) (by decide) (by rw[af];decide) (by omega) λu s3 E No F3 b3=>?_;have c2:=F3.kq G;have ag:=F3.len.trans af;simp only[qz 4,qy 6,u0,u1,c2,r15,rk,ar,buu,aj,↓uL];refine⟨⟨Z,T⟩, .inl rfl,?_⟩;refine anu ag λD s4 W N4 K=>?_;have d2:=W.kq c2;have d3:=W.kq b3;have aT:=W.len.trans ag;have G3:=F2.trans F3;have no:bK Y u:=No.old F2;have n6:bK Y (6,D):=N4.old G3;have aU:u≠(6,D):=λe=>(by rw[e] at E;simp at E);have aV:∀{Y:ae},fS Y (sl xd.c l)=V (iv<|L l):=cT;have O4:lJ s4 u 38 3 69 (L w.ac) (λi=>((aYF w).out i).map ci) (λ_=> .l [] U U):=(by refine⟨?_,λi _=>bc.nil,λi j _ _ _ q g=>by simp[aA] at g,λi _ q g=>by simp[aA] at g⟩;rw[d3,Q0];rfl);simp only[qz 8,aV,aY,↓uL];refine yV (L l) (λk _ x=>StO Y x w v2 D u<|bcW w (aYF w)<|l.take k) ⟨G3.trans W,aT,d2,K,_,O4,λi _ q g=>by simp[aA] at g⟩ ?_;rintro k _ x hk S;simp only[qz 31,qy 10,au,aI,u0,u1,↓uL];refine⟨λB=>?_,λB=>?_⟩;have F:=aL B;obtain⟨ck,aR,A⟩:=bz3 hr F;obtain⟨b,hI⟩:=bxN (HsI.start T) aR;rw[<-hI] at A;have hs:=bz5 (w:=w) (h:=aYF w) F;generalize bcW w (aYF w) (l.take k)=H at S b hI A hs;generalize aP:gd l k=ch at A hs;obtain⟨m,R,X,h3,h4,h5,h6⟩:=bjy A;have av:L (aN2 w H.c ch).mp.ay=L H.c.mp.ay:=(bob (w:=w.aQ) (s:=H.c.mp)).2.2;have r2:∀{c:xd},aN (V 2) c.c=V (.a c.c):=λ{c}=>rfl;simp only[u0,u1,boW,rk,r2,bh,aP,↓uL];refine⟨dJ F,anu S.hl λv8 y F8 N8 b8=>?_⟩;have Sy:=S.up F8;have r4:∀{c:sA},aN (V 4) c.c=V (.a c.mp.c):=λ{c}=>rfl;simp only[qz 12,qy 14,u0,u1,Sy.b2,Sy.b6,b8,r15,r4,rk,oe,gw,r2,ar,arm,Fa,buu,aj,↓uL];refine⟨⟨Z.wo,b.cf⟩,?_⟩;rw[R];refine anu Sy.hl λan z ab bp aD=>?_;have Sz:=Sy.up ab;have f8:=ab.kq b8;simp only[qz 16,u0,u1,Sz.b2,Sz.b6,f8,r15,rk,oe,gw,r2,ar,arm,Fa,buu,aj,↓uL];refine⟨⟨Z,b.cf⟩, .inl rfl,?_⟩;simp only[oJ,pG,aY,A,aNV,↓uL];refine qr Sz.b6 rfl rfl λz2 v aE=>?_;have ah:H.out m=[]:=b.ot m h4;have S0:StO Y z2 w v2 D u {aRI w H ch with out:=λi=>if i=m then bc4 H.c.mp (aN2 w H.c ch).mp 0 else H.out i}:=(by obtain⟨f,O,N⟩:=Sz.ow;have e:(λi=>if i=m then bc4 H.c.mp (aN2 w H.c ch).mp 0 else H.out i)=H.out:=(by funext i;by_cases t:i=m;subst t;rw[J9 rfl,ah];rfl;rw[J7 t]);refine⟨brR Sz.fx v n6,v.len.trans Sz.hl,v.kq Sz.b2,aE,f,?_,N⟩;rw[e];exact O.keep v (by simpa using aU) λi t q g=>by simpa usingλe:q=(6,D)=>by have:=O.pl i t q g;rw[e] at this;simp at this);have ad:=v.kq aD;simp only[qz 18,u0,u1,ad,rk,cT,aj,dc,↓uL];have bu:=b.cf.sy.th;refine yV (L H.c.mp.ay) (λk _ x=>box x (10,an)=V ⟨36,4,U,U,[H.c.mp.c]⟩/\StO Y x w v2 D u {aRI w H ch with out:=λi=>if i=m then bc4 H.c.mp (aN2 w H.c ch).mp k else H.out i}) ⟨ad,S0⟩ ?_;rintro n _ x2 hn ⟨P,o⟩;simp only[qz 85,au,aI,u0,u1,↓uL];refine⟨λB=>?_,λB=>?_⟩;have al:=aL B;refine bqF (λd=>∀z,box z (10,an)=V ⟨36,4,U,U,[H.c.mp.c]⟩->StO Y z w v2 D u {aRI w H ch with out:=λi=>if i=m then bc4 H.c.mp (aN2 w H.c ch).mp (n+1) else H.out i}->d [] z) ?_ λd hJ=>?_;intro z ez Sz;simp only[qz 105,aI,au,u0,u1,↓uL];exact dR (mk:=λ(_:Unit) i=>[iv i]) (s:=()) (s':=()) (λ_ _=>rfl) al (by omega) ⟨ez,Sz⟩;simp+contextual only[qz 107,qy 20,u0,u1,P,o.b6,bsg,rk,oe,ix,au,av,dJ al,bh,aj,dc,NA,I9,↓uL];obtain⟨f,O,N⟩:=o.ow;have ak:aF (L w.ac) (m:Int):=dJ X;have aO:aX bH 1 x2 [(0,iv n)]=V (.l ([(n:Int)].map ci) U U,x2):=iz;simp only[O.ix ak,bh,O.ld X,aO,aY,bQ,↓uL];refine⟨λhc=>?_,λhc=>hJ x2 P<|by rw[byw,J7<|by rw[bsi,hc];decide];exact o⟩;have bx:=bBr (s:=H.c.mp) (s':=(aN2 w H.c ch).mp) (k:=n);refine anO O ak rfl (by rw[o.hl];decide) fF fF (by simp;omega) λa p y f' O' br K' hp bt M N'=>?_;have nk:∀{q:Id},q.1≠15->q.1≠69->q∉u::aA (f (m:Int).toNat):=λR aK h=>(by rcases eW.1 h with rfl|h;exact R E;exact aK<|O.pl m X _ h);refine hJ y (M.keep _ _ (nk (by simp)<|by simp) P) ⟨(o.fx.trans M).mono λq g=>?_,M.len.trans o.hl,M.keep _ _ (nk (by simp)<|by simp) o.b2,M.keep _ _ (nk (by simp)<|by simp) o.b6,f',?_,λi t q g=>(N' i t q g).elim (N i t q) λh=>h.old o.fx⟩;rcases eW.1 g with rfl|g;exact .inr no.no;exact .inr (N m X q g).no;have e:(λj=>if j=(m:Int).toNat then(if j=m then bc4 H.c.mp (aN2 w H.c ch).mp n else H.out j).map ci++[(n:Int)].map ci else(if j=m then bc4 H.c.mp (aN2 w H.c ch).mp n else H.out j).map ci)=λj=>(if j=m then bc4 H.c.mp (aN2 w H.c ch).mp (n+1) else H.out j).map ci:=(by have ew:bc4 H.c.mp (aN2 w H.c ch).mp (n+1)=bc4 H.c.mp (aN2 w H.c ch).mp n++[(n:Int)]:=(by rw[byw,J9<|by rw[bsi,hc]]);funext j;by_cases hj:j=m<;>simp[hj,ew]);exact e▸O';obtain rfl:n=L H.c.mp.ay:=bP hn<|bw B;refine dR (mk:=λ(_:Unit) i=>[iv i]) (s:=()) (s':=()) (λ_ _=>rfl) F (by omega) ?_;rw[hs];have e:(λi=>if i=m then bc4 H.c.mp (aN2 w H.c ch).mp (L H.c.mp.ay) else H.out i)=(aRI w H ch).out:=(by funext i;by_cases t:i=m;subst t;simp[aRI,R,ah];simp[aRI,R,t]);rw[e] at o;exact o;obtain rfl:k=L l:=bP hk<|bw B;rw[gV] at S;obtain⟨f,O,N⟩:=S.ow;exact⟨u,f,rfl,O,S.fx,no,E⟩
def byu:dO:=byt
def by9:eJ byu:=by8
def bsz:=@buu
def brn:=bA 41 [(8,([46],[3,6,8,9,44,45])),(17,([14,15],[3,6,8,9,12,13])),(21,([15],[3,6,8,9,12,13,14])),(27,([91],[6,8,9,12,13,89,90])),(33,([20],[6,8,9,12,13,89,90,91]))]
def bqA b a c d R:=(.mk _:NR byu brn Tryz.f18 [.u, .u,c] [b,a] d R).p
def br3{c0:List AV}{b:List AV}{c:AV}{R:o8}(l0:L c0=15)(l1:L b=6)(h:H2 43 15 3 c0 46 6 4 b λia d e=>bqA ia d c e R):Ct 18 [.a c0, .a b,c] R:=z2 brn by9 Tryz.func18 l0 l1 h
def bzv:=bA 41 [(9,([11,43],[2,3,6,8,10,42])),(15,([11,13],[2,3,6,8,10,12,42,43])),(21,([67],[3,6,8,10,14,65,66])),(27,([17],[3,6,8,10,14,65,66,67])),(35,([17,131],[3,6,8,10,14,16,65,66,67,129,130]))]
def bzn b a c d R:=(.mk _:NR byu bzv Tryz.f19 [.u, .u,c] [b,a] d R).p
def bBh{c0:List AV}{b:List AV}{c:AV}{R:o8}(l0:L c0=15)(l1:L b=6)(h:H2 43 15 3 c0 46 6 4 b λia d e=>bzn ia d c e R):Ct 19 [.a c0, .a b,c] R:=z2 bzv by9 Tryz.func19 l0 l1 h
def bzV{w:am}{x:aH8}(h:x∈cw w):aF (L w.ac) x.a/\((x.kind=1/\aF (L w.ac) x.b)\/x.kind=2\/x.kind=3\/x.kind=4\/x.kind=5):=by have c:∀{a:Nat},a<L w.ac->aF (L w.ac) (a:Int):=dJ;simp only[cw,dF] at h;rcases h with(((h|h)|h)|h)|h;simp only[lr,nB,iI,fq,dN,jW] at h;obtain⟨i,e,j,⟨f,_⟩,rfl⟩:=h;exact⟨c e, .inl ⟨rfl,c f⟩⟩;simp only[mK,dN,fq] at h;obtain⟨a,h,rfl⟩:=h;exact⟨c h,by simp⟩;simp only[kh,dN,jW,fq] at h;obtain⟨a,⟨h,_⟩,rfl⟩:=h;exact⟨c h,by simp⟩;simp only[ki,iI,dN,fq] at h;obtain⟨a,h,s,_,rfl⟩:=h;exact⟨c h,by simp⟩;simp only[jp,pR,iI,fq] at h;obtain⟨a,h,d⟩:=h;split at d;obtain⟨s,_,rfl⟩:=dN.1 d;exact⟨c h,by simp⟩;simp at d
def anE{w:am}(a:L w.ac<=16)(g:L w.init.mp.ay<=4):L (cw w)<2000/\L (jp w<|L w.ac)<=320:=by have b:=AS (L w.ac)<|L w.ac;have c:=AT<|L w.ac;have d:=AU w.ac<|L w.ac;have e:=AW w<|L w.ac;have f:=Qv w<|L w.ac;have m1:L w.ac*L w.ac<=16*16:=xn a a;have h:L w.ac*(1+L w.ac)<=16*17:=xn a (by omega);have i:L w.ac*(L w.init.mp.ay+L w.ac)<=16*20:=xn a (by omega);simp only[cw,a6G];omega
def bzM{l:List aH8}{Y:ae}{i:Int}{K:o8}{t o:Bool}:rV (cz 3 Y (.l (l.map aH8.c) t o)<|iv i) K=(aF (L l) i/\K (.q<|aH8.c<|gd l i.toNat)):=aBz (Y:=Y) (f:=aH8.c) λ_=>rfl
def k1e{x:AV}:aN J [x]=V x:=by cases x<;>rfl
def k0e{x y:AV}:aN J [x,y]=V x:=by cases x<;>rfl
def d1e{x y:AV}:aOz 1 [x,y]=[y]:=rfl
def bmL(w:am)(h:a7g):List Int:=(aH<|L w.ac).map<|bcV h.c.order
def bto(w:am)(h:a7g):List Bool:=(cw w).map<|a6X w h
def bie(order:List Int)(k:Nat):Nat:=L ((aH k).filter λ(j:Nat)=>!Q ((j:Int)∈order))
def bxW{order:List Int}{k:Nat}:bie order (k+1)=if(k:Int)∈order then bie order k else bie order k+1:=by simp only[bie,qn,me,a6G];by_cases h:(k:Int)∈order<;>simp[h]
def bzG{order:List Int}{k:Nat}:bie order k<=k:=by have:=fZ (λ(j:Nat)=>!Q ((j:Int)∈order))<|aH k;simpa[bie] using this
def bzY{order:List Int}{k:Nat}(h:(k:Int)∉order):bcV order k=((L order+bie order k:Nat):Int):=by simp only[bcV,J7 h,bie];omega
def bzX{order:List Int}{k:Nat}(h:(k:Int)∈order):bcV order k=oW order k:=by simp only[bcV,J9 h]
def bA0{order:List Int}{k:Nat}(a:k<L order)(b:order.Nodup):oW order (gd order k)=k:=
 anR a (λj c e=>by
  rw[bT (by omega),bT a] at e
  have:=(List.getElem_inj b).1 e
  omega) rfl
def bsE(order:List Int)(k:Nat):Int->Option Int:=λa=>if a∈order.take k then V (bcV order a.toNat) else J
def biM(order:List Int)(k:Nat):Int->Option Int:=λa=>if a∈order\/(0<=a/\a.toNat<k) then V (bcV order a.toNat) else J
def bAZ{order:List Int}{k n:Nat}(b:k<L order)(g:order.Nodup)(h:∀x∈order,aF n x):bih (bsE order k) (gd order k) k=bsE order (k+1):=by have d:=dB b;have f:=(h _ d).1;have e:((gd order k).toNat:Int)=gd order k:=bvj f;funext a;simp only[bih,bsE,iJ b,<-bT b,dF,cE];by_cases c:a=gd order k;subst c;simp only[aNZ,or_true];rw[bzX (by rw[e];exact d),e,bA0 b g];simp[c]
def bAY{order:List Int}:bsE order (L order)=biM order 0:=by funext a;simp[bsE,biM]
def bAW{order:List Int}{k:Nat}(h:(k:Int)∈order):biM order (k+1)=biM order k:=by funext a;unfold biM;by_cases c:a=k;subst c;simp[h];have:(a∈order\/0<=a/\a.toNat<k+1)↔(a∈order\/0<=a/\a.toNat<k):=(by constructor<;>(rintro(h|⟨b,d⟩);exact .inl h;exact .inr ⟨b,by omega⟩));simp only[this]
def bAX{order:List Int}{k:Nat}(h:(k:Int)∉order):bih (biM order k) k (L order+bie order k:Nat)=biM order (k+1):=by funext a;unfold biM bih;by_cases b:a=k;subst b;simp only[aNZ,bh];rw[J9 (.inr ⟨by omega,by omega⟩),bzY h];have:(a∈order\/0<=a/\a.toNat<k+1)↔(a∈order\/0<=a/\a.toNat<k):=(by constructor<;>(rintro(h|⟨c,d⟩);exact .inl h;exact .inr ⟨c,by omega⟩));simp only[J7 b,this]
def by5{order:List Int}{n:Nat}{a:Int}(h:aF n a):biM order n a=V (bcV order a.toNat):=by unfold biM;rw[J9<|.inr ⟨h.1,by have:=h.1;have:=h.2;omega⟩]
structure StM(x:ae)(w:am)(v6 v8 v1 v2 v41:Nat)(h:a7g)(f:Int->Option Int):Prop where
 hl:L x=4096
 b1:box x (3,1)=V ⟨43,15,U,U,[w.c]⟩
 b6:box x (6,v6)=V ⟨67,2,U,U,[bin]⟩
 b8:box x (8,v8)=V ⟨107,11,U,U,[h.c.c++[.g 0 (21,v1) 0 0, .g 0 (22,v2) 0 0]]⟩
 m1:MI x (21,v1) h.src
 m2:MW x (22,v2) h.wk
 m4:MI x (41,v41) f
theorem StM.fx{x y:ae}{w:am}{g i d e b:Nat}{h:a7g}{f:Int->Option Int}{c:List Id}(S:StM x w g i d e b h f)(F:Fx x y c)(j:∀q∈c,q.1=86\/q.1=158\/q.1=13):StM y w g i d e b h f:=by have a:∀{q:Id},q.1≠86/\q.1≠158/\q.1≠13->q∉c:=λh k=>(by have:=j _ k;omega);exact⟨F.len.trans S.hl,F.keep _ _ (a<|by simp) S.b1,F.keep _ _ (a<|by simp) S.b6,F.keep _ _ (a<|by simp) S.b8,S.m1.fx F<|a<|by simp,S.m2.fx F<|a<|by simp,S.m4.fx F<|a<|by simp⟩
def StM.mu{x y:ae}{w:am}{d e b c a:Nat}{h:a7g}{f g:Int->Option Int}(S:StM x w d e b c a h f)(F:Fx x y [(41,a)])(M:MI y (41,a) g):StM y w d e b c a h g:=⟨F.len.trans S.hl,F.kq S.b1,F.kq S.b6,F.kq S.b8,S.m1.fx F (by simp),S.m2.fx F (by simp),M⟩
structure StN(x:ae)(v13:Nat)(a b:AV)(p:List Bool)(q:List Int):Prop where
 bm:box x (13,v13)=V ⟨67,2,U,U,[[a,b]]⟩
 ga:gm x 4 1 a (p.map cb)
 gb:gm x 3 1 b (q.map ci)
 pa:∀k∈aA a,k.1=158
 pb:∀k∈aA b,k.1=86
theorem StN.fx{x y:ae}{c:Nat}{a b:AV}{p:List Bool}{q:List Int}{f:List Id}(S:StN x c a b p q)(F:Fx x y f)(d:∀k∈f,k.1=41):StN y c a b p q:=⟨F.keep _ _ (λh=>by have:=d _ h;simp at this) S.bm,S.ga.fx F λk e h=>by have:=d _ h;rw[S.pa k e] at this;simp at this,S.gb.fx F λk e h=>by have:=d _ h;rw[S.pb k e] at this;simp at this,S.pa,S.pb⟩
def bqO(w:am)(g:cJ)(l:List xd)(hp:aC2 w/\Po w=U/\hU w/\qC w g=U/\L l<1000000/\biu w g l=U):Ct 18 [.a w.c, .a g.c,sl xd.c l] (·= .t [.a [sl cb<|bto w<|bcW w (aYF w) l,sl ci<|bmL w<|bcW w (aYF w) l],bv U]):=by obtain⟨hw,K,hf,hg,aE,aK⟩:=hp;obtain⟨cF,hr⟩:∃cF,aNT w (aNY w) l=V cF:=(by cases h:aNT w (aNY w) l with|none=>simp[biu,h] at aK|some c=>exact⟨c,rfl⟩);obtain⟨d,hI⟩:=bxN (HsI.start K) hr;have a6:=hw.wo.wo.ev;refine aDq (br3 rfl rfl λs4 hl b1 b2 h0=>?_);have r6:aN (V 6) g.c=V (.a g.c):=rfl;have r2:∀{x y:AV},aN (V 2) [x,y]=V (.a [x,y]):=λ{x y}=>rfl;simp only[bqA,↓uL];refine so hl λv6 s6 F6 N6 b6=>?_;have c1:=F6.kq b1;have c2:=F6.kq b2;have ao:=F6.len.trans hl;have arg:dG s6 (.a g.c)= .a g.c:=rfl;have bb:=hw.wo;simp only[qz 6,qy 8,u0,u1,c1,c2,r15,r6,rk,oe,ar,arm,arg,bsz,aj,bb,hw,K,hf,hg,aE,aK,fh,kN,I9,awG,↓uL];refine⟨λh=>by simp at h,λ_=>?_⟩;refine jH rfl (bAO ao hw K aE hr) ?_;rintro r s7 ⟨v1,v2,rfl,m1,m2,F7,N1,N2⟩;refine⟨F7.len,?_⟩;generalize bcW w (aYF w) l=H at*;have aG:=F7.len.trans ao;simp only[qz 10,qy 12,qy 14,↓uL];refine anu aG λv8 s8 F8 N8 Z=>?_;have aJ:=F8.len.trans aG;refine buM (kv:=kI) (vv:=kI) (by rw[aJ];decide) λR s9 F9 N9 N=>?_;have af:=F8.trans F9;have az:=F7.trans af;have ol:=d.cf.ol;have od:=d.cf.od;have nd:=d.cf.nd;have e0:bsE H.c.order 0=λ_=>J:=(by funext a;simp[bsE]);have S9:StM s9 w v6 v8 v1 v2 R H (bsE H.c.order 0):=⟨F9.len.trans aJ,az.kq c1,az.kq b6,F9.kq Z,m1.fx af (by simp),m2.fx af (by simp),by rw[e0];exact N⟩;have aM:∀{c:sA} {x y:AV},aN J (aOz 6<|c.c++[x,y])=V (sl ci c.order):=λ{c x y}=>rfl;have aO:∀{c:sA} {x y:AV},aN J (aOz 7<|c.c++[x,y])=V (sl cb c.fixed):=λ{c x y}=>rfl;simp only[qz 16,u0,u1,S9.b8,aM,cT,aj,dc,↓uL];refine yV (L H.c.order) (λk _ x=>StM x w v6 v8 v1 v2 R H<|bsE H.c.order k) S9 ?_;rintro k _ x hk S;simp only[qz 49,qy 20,au,aI,u0,u1,↓uL];refine⟨λB=>?_,λB=>?_⟩;have v:=aL B;simp only[u0,u1,ix,rk,qM,bh,↓uL];refine⟨dJ v,S.m4.mu λy F M=>?_⟩;simp only[qz 18,au,u0,u1,↓uL];refine dR (mk:=λ(_:Unit) i=>[iv i]) (s:=()) (s':=()) (λ_ _=>rfl) v (by omega) ?_;rw[bAZ v nd od] at M;exact S.mu F M;obtain rfl:k=L H.c.order:=bP hk<|bw B;rw[bAY] at S;simp only[S.b8,u0,u1,aM,cT,aj,dc,↓uL];refine so S.hl λP y aV bx a0=>?_;have Sy:=S.fx aV (by simp);refine jD (α:=Int) (λa i=>[iv i,iv a]) 0 (L w.ac) (λk n x=>n=(L H.c.order+bie H.c.order k:Nat)/\StM x w v6 v8 v1 v2 R H (biM H.c.order k)/\∃a b,StN x P a b []<|(aH k).map<|bcV H.c.order) (s0:=((L H.c.order:Nat):Int)) ⟨by simp[bie],Sy,_,_,a0, .inl ⟨rfl,rfl⟩, .inl ⟨rfl,rfl⟩,by simp[aA],by simp[aA]⟩ ?_;rintro k n x hk ⟨hn,S,a,b,T⟩;have a5:=bzG (order:=H.c.order) (k:=k);simp only[qz 103,au,gt1,aI,u0,u1,S.b1,rk,cT,aj,dc,↓uL];refine⟨λB=>?_,λB=>?_⟩;have v:=aL B;subst hn;refine bqF (λj=>∀z,StM z w v6 v8 v1 v2 R H (biM H.c.order<|k+1)->StN z P a b [] ((aH k).map<|bcV H.c.order)->j [iv (L H.c.order+bie H.c.order (k+1):Nat)] z) ?_ λj u=>?_;intro z Sz E;have hg:biM H.c.order (k+1) k=V (bcV H.c.order k):=by5 (n:=k+1) ⟨by omega,by omega⟩;have ak:aX bH 1 z [(0,iv<|bcV H.c.order k)]=V (.l ([bcV H.c.order k].map ci) U U,z):=iz;simp only[qz 129,qy 24,aI,au,gt1,u0,u1,E.bm,k1e,d1e,Sz.m4.lu.1,hg,mi,ak,aj,dc,↓uL];refine apQ E.gb Sz.hl fF fF (by simp) (by simp;omega) λb' z2 g2 W P2=>?_;have nb:∀{q:Id},q.1≠86->q∉aA b:=λh m=>h<|E.pb _ m;have G:=W.keep _ _ (nb<|by simp) E.bm;simp only[qz 26,u0,u1,G,aj,dc,↓uL];refine A0 G g2.p.ce (by simp) λz3 X b3=>?_;have O:∀{q:Id},q.1≠13->q∉[((13,P):Id)]:=λh m=>(by simp at m;subst m;exact h rfl);simp only[qz 28,au,gt1,u0,u1,↓uL];refine dR (mk:=λ(a:Int) i=>[iv i,iv a]) (p:=0) (s:=((L H.c.order+bie H.c.order k:Nat):Int)) (s':=((L H.c.order+bie H.c.order (k+1):Nat):Int)) (λ_ _=>rfl) v (by omega) ⟨rfl,(Sz.fx W λq m=> .inl<|E.pb q m).fx X (by simp),a,b',b3,(E.ga.fx W λq m=>nb<|by rw[E.pa q m];decide).fx X λq m=>O (by rw[E.pa q m];decide),?_,E.pa,λq m=>(P2 q m).2⟩;rw[qn,dg,dg];exact g2.p.fx X λq m=>O (by rw[(P2 q m).2];decide);by_cases hm:(k:Int)∈H.c.order;have e:biM H.c.order k k=V (bcV H.c.order k):=(by unfold biM;rw[J9<|.inl hm];rfl);simp only[qz 131,qy 22,au,gt1,u0,u1,S.m4.lu.2,e,Option.isSome_some,fh,oJ,pG,↓iB,↓uL];rw[bxW,J9 hm] at u;exact u x (by rw[bAW hm];exact S) T;have e:biM H.c.order k k=J:=(by unfold biM;rw[J7<|by rintro(h|⟨_,h⟩);exact hm h;omega]);simp only[qz 131,qy 22,au,gt1,u0,u1,S.m4.lu.2,e,Option.isSome_none,kN,oJ,pG,↓iC,↓uL];refine S.m4.mu λz F M=>?_;rw[bAX hm] at M;rw[bxW,J7 hm] at u;simp only[u0,u1,fX (show L H.c.order+bie H.c.order k<4611686018427387904 by omega),↓uL];exact u z (S.mu F M) (T.fx F<|by simp);obtain rfl:k=L w.ac:=bP hk<|bw B;simp only[u0,u1,r15,ar,bsz,K,hf,awG,I9,↓uL];intro t;refine⟨.inl rfl,?_⟩;have bA:=(anE a6 (bhV K).sy.th).1;refine yV (L<|cw w) (λk _ x=>StM x w v6 v8 v1 v2 R H (biM H.c.order<|L w.ac)/\∃a,StN x P a b (((cw w).take k).map<|a6X w H)<|bmL w H) ⟨S,a,T⟩ ?_;clear S T B hn a5;rintro k _ x hk ⟨S,a,T⟩;simp only[qz 163,qy 30,qy 40,au,aI,u0,u1,↓uL];refine⟨λB=>?_,λB=>?_⟩;have v:=aL B;have r3:∀{x:aH8},aN (V 3) (aH8.c x)=V (.a<|aH8.c x):=λ{x}=>rfl;simp only[u0,u1,bzM,rk,r3,bh,↓uL];refine⟨dJ v,anu S.hl λbB y ay bz C=>?_⟩;have Sy:=S.fx ay (by simp);have D:=T.fx ay (by simp);simp only[qz 32,↓uL];refine bvA (λj=>j [bv<|a6X w H<|gd (cw w) k]) ?_ λj u=>?_;have ak:aX BD 1 y [(0,bv<|a6X w H<|gd (cw w) k)]=V (.l ([a6X w H<|gd (cw w) k].map cb) U U,y):=(by kernel_rfl);simp only[qz 201,qy 34,aI,au,u0,u1,D.bm,k0e,ak,aj,↓uL];refine apQ D.ga Sy.hl (qW (f:=cb) λ_=>rfl) (qW (f:=cb) λ_=>rfl) (by simp) (by simp;omega) λa' z2 g2 W P2=>?_;have na:∀{q:Id},q.1≠158->q∉aA a:=λh m=>h<|D.pa _ m;have G:=W.keep _ _ (na<|by simp) D.bm;simp only[qz 36,u0,u1,G,aj,↓uL];refine A0 G g2.p.ce (by simp) λz3 X b3=>?_;have O:∀{q:Id},q.1≠13->q∉[((13,P):Id)]:=λh m=>(by simp at m;subst m;exact h rfl);simp only[qz 38,au,u0,u1,↓uL];refine dR (mk:=λ(_:Unit) i=>[iv i]) (s:=()) (s':=()) (λ_ _=>rfl) v (by omega) ⟨(Sy.fx W λq m=> .inr<|.inl<|D.pa q m).fx X (by simp),a',b3,?_,(D.gb.fx W λq m=>na<|by rw[D.pb q m];decide).fx X λq m=>O (by rw[D.pb q m];decide),λq m=>(P2 q m).2,D.pb⟩;rw[iJ v,<-bT v,dg,dg];exact g2.p.fx X λq m=>O (by rw[(P2 q m).2];decide);obtain⟨ha,aD⟩:=bzV<|dB v;generalize gd (cw w) k=o at C u ha aD;have aC:=by5 (order:=H.c.order) ha;have ah:((o.a.toNat:Nat):Int)=o.a:=bvj ha.1;have aB:aF (L H.c.fixed) o.a:=(by rw[d.cf.fx];exact ha);rcases aD with⟨A,a4⟩|A|A|A|A;have a8:=by5 (order:=H.c.order) a4;simp only[qz 203,u0,u1,C,rk,A,aPI,↓iC,Sy.m4.lu.1,aC,a8,mi,aj,dc,↓uL];have e:a6X w H o=Q (bcV H.c.order o.a.toNat<bcV H.c.order o.b.toNat):=(by simp[a6X,A]);rw[e] at u;exact u;simp only[qz 203,u0,u1,C,rk,A,aPI,aPF,Int.reduceEq,↓iC,↓iB,Sy.m4.lu.1,aC,mi,aj,dc,↓uL];have e:a6X w H o=Q (bcV H.c.order o.a.toNat<L H.c.order):=(by rw[bA1,ah];simp[a6X,A]);rw[e] at u;exact u;simp only[qz 203,u0,u1,C,Sy.b8,aO,ix,rk,A,aPI,aPF,Int.reduceEq,↓iC,↓iB,aj,dc,↓uL];have e:a6X w H o=gd H.c.fixed o.a.toNat:=(by simp[a6X,A]);rw[e] at u;exact⟨aB,u⟩;simp only[qz 203,u0,u1,C,Sy.b8,aO,rdH,ix,rk,Sy.m1.lu.1,A,aPI,aPF,Int.reduceEq,↓iC,↓iB,aj,dc,↓uL];have e:a6X w H o=(gd H.c.fixed o.a.toNat&&Q (bs3 w H.c.order o.a=o.b)):=(by simp[a6X,A]);rw[e] at u;refine⟨aB,?_⟩;rcases al:gd H.c.fixed o.a.toNat with _|_;rw[al] at u;simp only[jN,Aa];exact u;obtain⟨g1,g2⟩:=d.fx _ al;rw[ah] at g1;rw[al,iw] at u;simp only[jA,qE,u0,u1,C,Sy.b8,rdH,rk,Sy.m1.lu.1,d.src _ g1 g2,mi,ya,aj,dc,↓uL];exact u;have a3:bM br9 C2 [(0,iv o.a),(1,iv o.b)]=V (.a [iv o.a,iv o.b]):=rfl;simp only[qz 203,u0,u1,C,Sy.b8,rdH,rk,a3,Sy.m2.lu,A,aPI,aPF,Int.reduceEq,↓iC,↓iB,aj,dc,↓uL];have e:a6X w H o=H.wk o.a o.b:=(by have:=d.wk o.a.toNat o.b;rw[ah] at this;rw[this];simp[a6X,A]);rw[e] at u;exact u;obtain rfl:k=L (cw w):=bP hk<|bw B;rw[gV] at T;simp only[T.bm,u0,u1,r2,aj,↓uL];refine qr S.b6 rfl rfl λz F b=>?_;simp only[b,u0,u1,r2,aj,↓uL];have n6:∀{q:Id},q.1≠6->q∉[((6,v6):Id)]:=λh m=>(by simp at m;subst m;exact h rfl);refine aOH (Q:=(·=AV.t [.a [sl cb<|bto w H,sl ci<|bmL w H],bv U])) (vs':=[.a [sl cb<|bto w H,sl ci<|bmL w H],bv U]) ?_ rfl rfl;simp only[ji,mU,fzT,aBr<|T.ga.fx F λq m=>n6<|by rw[T.pa q m];decide,aBr<|T.gb.fx F λq m=>n6<|by rw[T.pb q m];decide,aWt];rfl
def bpI:FT:=qe bqO
def bsI{w g l Lw K}:=sT bpI bqO w g l Lw K (j:=by simp+contextual only[ij,Nb])
structure StP(x:ae)(w:am)(v6 v8 v10:Nat)(bi:Id)(h:a7g)(a:AV)(p:List Bool)(q:List Int):Prop where
 hl:L x=4096
 b1:box x (3,1)=V ⟨43,15,U,U,[w.c]⟩
 b6:box x (6,v6)=V ⟨67,2,U,U,[bin]⟩
 b8:box x (8,v8)=V ⟨57,9,U,U,[h.c.c]⟩
 bm:box x (10,v10)=V ⟨67,2,U,U,[[a, .m bi<|L w.ac]]⟩
 ga:gm x 4 1 a (p.map cb)
 gi:bc x 3 1 (.m bi<|L w.ac) (q.map ci)
 pa:∀k∈aA a,k.1=153
theorem StP.fx{x y:ae}{w:am}{c d b:Nat}{bi:Id}{h:a7g}{a:AV}{p:List Bool}{q:List Int}(S:StP x w c d b bi h a p q)(F:Fx x y []):StP y w c d b bi h a p q:=⟨F.len.trans S.hl,F.kq S.b1,F.kq S.b6,F.kq S.b8,F.kq S.bm,S.ga.fx F (by simp),S.gi.fx F (by simp),S.pa⟩
def brS(order:List Int)(n k:Nat):List Int:=(aH n).map λj=>if j<k then bcV order j else 0
def bAE{order:List Int}{n k:Nat}(c:k<n):(brS order n k).set k (bcV order k)=brS order n (k+1):=by refine List.ext_getElem (by simp[brS]) λj a b=>?_;simp only[brS,List.getElem_set,List.getElem_map,List.getElem_range];by_cases e:k=j;subst e;simp;rw[J7 e];by_cases h:j<k;rw[J9 h,J9<|by omega];rw[J7 h,J7<|by omega]
def bAD{w:am}{h:a7g}:brS h.c.order (L w.ac) (L w.ac)=bmL w h:=by refine List.map_congr_left λj a=>?_;rw[J9<|fq.1 a]
def byS(w:am)(g:cJ)(l:List xd)(hp:aC2 w/\Po w=U/\hU w/\qC w g=U/\L g.cW<1000/\L l<1000000/\biu w g l=U):Ct 19 [.a w.c, .a g.c,sl xd.c l] (·= .t [.a [sl cb<|bto w<|bcW w (aYF w) l,sl ci<|bmL w<|bcW w (aYF w) l],bv U]):=by obtain⟨hw,Z,hf,hg,br,aV,a1⟩:=hp;obtain⟨cF,hr⟩:∃cF,aNT w (aNY w) l=V cF:=(by cases h:aNT w (aNY w) l with|none=>simp[biu,h] at a1|some c=>exact⟨c,rfl⟩);obtain⟨d,hI⟩:=bxN (HsI.start Z) hr;have bq:=hw.wo.wo.ev;obtain⟨hB,hs⟩:=aQA Z;obtain⟨I0,_,cl,cm,bu⟩:=tC hB;have hN:kB w/\L w.init.mp.ay<=4/\fN w.aQ w.init=U:=⟨Rr hf Z,I0.sy.th,bu⟩;refine aDq (bBh rfl rfl λs4 hl X b2 h0=>?_);have r6:aN (V 6) g.c=V (.a g.c):=rfl;have r2:∀{x y:AV},aN (V 2) [x,y]=V (.a [x,y]):=λ{x y}=>rfl;simp only[bzn,↓uL];refine so hl λv6 s6 F6 N6 b6=>?_;have c1:=F6.kq X;have c2:=F6.kq b2;have aq:=F6.len.trans hl;have arg:dG s6 (.a g.c)= .a g.c:=rfl;have a9:a96 w l=(cF,U):=(by simp[a96,hr]);simp only[qz 6,qy 8,qy 10,u0,u1,c1,c2,r15,r6,rk,oe,ar,arm,arg,bsz,aj,hw,Z,hg,br,aV,a1,fh,I9,awG,↓uL];rw[a9];refine⟨λh=>by simp at h,λ_=>⟨.inl rfl,?_⟩⟩;simp only[oJ,pG,aY,↓uL];refine anu aq λv8 s8 F8 N8 P=>?_;have aW:=F8.len.trans aq;have d1:=F8.kq c1;have d6:=F8.kq b6;have ol:=d.cf.ol;have od:=d.cf.od;have nd:=d.cf.nd;simp only[qz 12,u0,u1,d1,rk,cT,aj,dc,↓uL];refine AP (by decide) (by decide) (by rw[aW];decide) (by omega) λbi s9 ap N9 F9 b9=>?_;have aZ:=F9.len.trans aW;have bl:bM bin C2 [(1, .m bi<|L w.ac)]=V (.a [.l [] U U, .m bi<|L w.ac]):=rfl;simp only[qz 14,qy 16,bl,aY,↓uL];refine anu aZ λag bB W ch bf=>?_;have e8:=W.kq<|F9.kq P;have e1:=W.kq<|F9.kq d1;have S0:StP bB w v6 v8 ag bi (bcW w (aYF w) l) (.l [] U U) [] (brS (bcW w (aYF w) l).c.order (L w.ac) 0):=⟨W.len.trans aZ,e1,W.kq<|F9.kq d6,by rw[hI];exact e8,bf, .inl ⟨rfl,rfl⟩, .inr ⟨bi,by simp[brS],by rw[W.kq b9];simp[brS,List.map_const'];exact⟨rfl, .inr rfl⟩⟩,by simp[aA]⟩;have bs:∀{x:ae},L x=4096->∃r Y1,bzr x w (bcW w (aYF w) l) r Y1/\cZ aS GG 50 [.a w.c,sl xd.c l] x r Y1:=λh=>bAP h hw Z aV hr;generalize bcW w (aYF w) l=H at*;subst hI;simp only[qz 18,u0,u1,S0.b8,S0.b1,rk,oe,cT,aj,dc,↓uL];refine jD (α:=Int) (λa i=>[iv a,iv i]) 1 (L w.ac) (λk n x=>n=(L H.c.order+bie H.c.order k:Nat)/\StP x w v6 v8 ag bi H (.l [] U U) [] (brS H.c.order (L w.ac) k)) (s0:=((L H.c.order:Nat):Int)) ⟨by simp[bie],S0⟩ ?_;rintro k n x hk ⟨hn,S⟩;have bp:=bzG (order:=H.c.order) (k:=k);have af:L H.c.order<4611686018427387904:=(by omega);simp only[qz 55,au,gt1,aI,u0,u1,S.b8,oe,ar,bsz,af,I9,aj,dc,↓uL];refine⟨λM=>?_,λM=>?_⟩;have D:=aL M;subst hn;refine bs5 (λo=>o [iv (L H.c.order+bie H.c.order (k+1):Nat),iv<|bcV H.c.order k]) ?_ λo B=>?_;simp only[qz 93,aI,au,gt1,u0,u1,S.bm,k1e,d1e,aj,dc,↓uL];refine DA S.gi (by simpa[brS] using dJ D) λp y F G=>?_;have no:∀{q:Id},q.1≠35->q∉aA (.m bi<|L w.ac):=λh A=>(by simp[aA] at A;subst A;exact h ap);rw[bh,bAE D] at G;simp only[qz 20,au,gt1,u0,u1,↓uL];exact dR (mk:=λ(a:Int) i=>[iv a,iv i]) (p:=1) (s:=((L H.c.order+bie H.c.order k:Nat):Int)) (s':=((L H.c.order+bie H.c.order (k+1):Nat):Int)) (λ_ _=>rfl) D (by omega) ⟨rfl,F.len.trans S.hl,F.keep _ _ (no<|by simp) S.b1,F.keep _ _ (no<|by simp) S.b6,F.keep _ _ (no<|by simp) S.b8,F.keep _ _ (no<|by simp) S.bm, .inl ⟨rfl,rfl⟩,G,S.pa⟩;by_cases hm:(k:Int)∈H.c.order;obtain⟨i,q1,_⟩:=aE6 hm;have e:Q (oW H.c.order k<0)=I:=(by rw[q1];exact bjz<|by omega);rw[bxW,J9 hm,bzX hm] at B;simp only[qz 95,au,gt1,u0,u1,e,↓iB,↓uL];exact B;have e0:oW H.c.order k= -1:=anS λj hj e=>hm<|e▸dB hj;have e:Q (oW H.c.order k<0)=U:=(by rw[e0];rfl);rw[bxW,J7 hm,bzY hm] at B;simp only[qz 95,au,gt1,u0,u1,e,↓iC,fX (show L H.c.order+bie H.c.order k<4611686018427387904 by omega),↓uL];exact B;obtain rfl:k=L w.ac:=bP hk<|bw M;simp only[u0,u1,S.b1,r15,aj,↓uL];refine jH rfl (bs S.hl) ?_;rintro r y ⟨bo,f,rfl,O,F,N,aP⟩;refine⟨F.len,?_⟩;have Sy:=S.fx F;rw[bAD] at Sy;simp only[qz 22,u0,u1,Sy.b1,r15,ar,bsz,hN,awG,I9,aj,↓uL];intro t;refine⟨.inl rfl,?_⟩;have cn:=(anE bq I0.sy.th).1;refine yV (L<|cw w) (λk _ x=>∃a,StP x w v6 v8 ag bi H a (((cw w).take k).map<|a6X w H) (bmL w H)/\lJ x bo 38 3 69 (L w.ac) (λi=>(H.out i).map ci) f) ⟨_,Sy,O⟩ ?_;clear S Sy O M hn bp S0;rintro k _ x hk ⟨a,S,O⟩;simp only[qz 127,qy 24,qy 34,au,aI,u0,u1,↓uL];refine⟨λM=>?_,λM=>?_⟩;have D:=aL M;have r3:∀{x:aH8},aN (V 3) (aH8.c x)=V (.a<|aH8.c x):=λ{x}=>rfl;simp only[u0,u1,bzM,rk,r3,bh,↓uL];refine⟨dJ D,anu S.hl λco y aK cj E=>?_⟩;have Sy:=S.fx aK;have Oy:=O.keep aK (by simp) (by simp);simp only[qz 26,↓uL];refine bvA (λo=>o [bv<|a6X w H<|gd (cw w) k]) ?_ λo B=>?_;have bn:aX BD 1 y [(0,bv<|a6X w H<|gd (cw w) k)]=V (.l ([a6X w H<|gd (cw w) k].map cb) U U,y):=(by kernel_rfl);simp only[qz 165,qy 28,aI,au,u0,u1,Sy.bm,k0e,bn,aj,↓uL];refine apQ Sy.ga Sy.hl (qW (f:=cb) λ_=>rfl) (qW (f:=cb) λ_=>rfl) (by simp) (by simp;omega) λa' z2 g2 F2 P2=>?_;have na:∀{q:Id},q.1≠153->q∉aA a:=λh A=>h<|Sy.pa _ A;have aM:=F2.keep _ _ (na<|by simp) Sy.bm;simp only[qz 30,u0,u1,aM,aj,↓uL];refine A0 aM g2.p.ce (by simp) λz3 F3 b3=>?_;have aa:∀{q:Id},q.1≠10->q∉[((10,ag):Id)]:=λh A=>(by simp at A;subst A;exact h rfl);have kp:∀{q:Id} {iq:bY},q.1≠153->q.1≠10->box y q=V iq->box z3 q=V iq:=λC h2 A=>F3.keep _ _ (aa h2)<|F2.keep _ _ (na C) A;have ni:∀{q:Id},q∈aA (.m bi<|L w.ac)->q.1=35:=λA=>(by simp[aA] at A;subst A;exact ap);simp only[qz 32,au,u0,u1,↓uL];refine dR (mk:=λ(_:Unit) i=>[iv i]) (s:=()) (s':=()) (λ_ _=>rfl) D (by omega) ⟨a',⟨F3.len.trans<|F2.len.trans Sy.hl,kp (by simp) (by simp) Sy.b1,kp (by simp) (by simp) Sy.b6,kp (by simp) (by simp) Sy.b8,b3,?_,(Sy.gi.fx F2 λq A=>na<|by rw[ni A];decide).fx F3 λq A=>aa (by rw[ni A];decide),λq A=>(P2 q A).2⟩,(Oy.keep F2 (na<|by rw[aP];decide) λi hi q A=>na<|by rw[Oy.pl i hi q A];decide).keep F3 (aa<|by rw[aP];decide) λi hi q A=>aa<|by rw[Oy.pl i hi q A];decide⟩;rw[iJ D,<-bT D,dg,dg];exact g2.p.fx F3 λq A=>aa (by rw[(P2 q A).2];decide);obtain⟨T,aU⟩:=bzV<|dB D;generalize gd (cw w) k=v at E B T aU;have ck:((v.a.toNat:Nat):Int)=v.a:=bvj T.1;have ao:v.a.toNat<L w.ac:=(by have:=T.1;have:=T.2;omega);have aO:aF (L H.c.fixed) v.a:=(by rw[d.cf.fx];exact T);have av:L (bmL w H)=L w.ac:=(by simp[bmL]);have a0:∀{i:Int},aF (L w.ac) i->gd (bmL w H) i.toNat=bcV H.c.order i.toNat:=λ{i} h=>(by have h2:i.toNat<L w.ac:=(by have:=h.1;have:=h.2;omega);rw[bT<|by rw[av];exact h2];simp[bmL]);rcases aU with⟨C,aR⟩|C|C|C|C;have e:a6X w H v=Q (bcV H.c.order v.a.toNat<bcV H.c.order v.b.toNat):=(by simp[a6X,C]);rw[e] at B;simp only[qz 167,u0,u1,E,Sy.bm,k1e,d1e,rk,C,aPI,↓iC,aj,dc,↓uL];rw[Dw Sy.gi (by rw[av];exact T),Dw Sy.gi<|by rw[av];exact aR];simp only[u0,u1,a0 T,a0 aR,↓uL];exact B;have e:a6X w H v=Q (v.a∈H.c.order):=(by simp[a6X,C]);rw[e] at B;simp only[qz 167,u0,u1,E,Sy.b8,rk,oe,ar,bsz,af,I9,C,aPI,aPF,Int.reduceEq,↓iC,↓iB,aj,dc,↓uL];rw[aE7];exact B;have e:a6X w H v=gd H.c.fixed v.a.toNat:=(by simp[a6X,C]);rw[e] at B;simp only[qz 167,u0,u1,E,Sy.b8,ix,rk,oe,C,aPI,aPF,Int.reduceEq,↓iC,↓iB,aj,dc,↓uL];exact⟨aO,B⟩;have e:a6X w H v=(gd H.c.fixed v.a.toNat&&Q (bs3 w H.c.order v.a=v.b)):=(by simp[a6X,C]);rw[e] at B;have aw:L H.c.order<4611686018427387904/\(∀x∈H.c.order,aF (L w.ac) x)/\aF (L w.ac) v.a:=⟨af,od,T⟩;simp only[qz 167,u0,u1,E,Sy.b8,ix,rk,oe,C,aPI,aPF,Int.reduceEq,↓iC,↓iB,aj,dc,↓uL];refine⟨aO,?_⟩;rcases aT:gd H.c.fixed v.a.toNat with _|_;rw[aT] at B;simp only[jN,Aa];exact B;rw[aT,iw] at B;simp only[jA,qE,u0,u1,E,Sy.b8,Sy.b1,r15,rk,oe,ar,bsz,aw,I9,awG,ya,aj,dc,↓uL];exact⟨λ_=>⟨od,trivial⟩,B⟩;have e:a6X w H v=(H.out v.a.toNat).any λu=>Q (bqD w H.c.order v.a u=v.b):=(by simp[a6X,C]);rw[e] at B;simp only[qz 167,u0,u1,E,rk,Oy.ix T,Oy.ld ao,Oy.ln ao,C,aPI,aPF,Int.reduceEq,↓iC,↓iB,aj,dc,↓uL];have G:=Oy.gr _ ao;have a2:=d.ob v.a.toNat;have hL:L (H.out v.a.toNat)<4611686018427387904:=(by have:=d.ob' v.a.toNat;omega);generalize H.out v.a.toNat=R at G a2 B hL;refine yh (λs:Bool×Nat=>[bv s.1,iv s.2]) 1 (L R) (λs=>s.2<=L R/\s.1=(R.take s.2).any λu=>Q<|bqD w H.c.order v.a u=v.b) (I,0) ⟨by simp,by simp⟩ ?_;rintro⟨b,i⟩ ⟨i1,i2⟩;simp only at i1 i2;simp only[qz 211,au,gt1,aI,u0,u1,bJ,↓uL];refine⟨λM=>?_,λM=>?_⟩;have K:=aL M;have tk:(R.take<|i+1).any (λu=>Q<|bqD w H.c.order v.a u=v.b)=((R.take i).any (λu=>Q<|bqD w H.c.order v.a u=v.b)||Q (bqD w H.c.order v.a (gd R i)=v.b)):=(by rw[iJ K,List.any_append,<-bT K];simp);rw[Dw G<|dJ K];have aw:L H.c.order<4611686018427387904/\(∀x∈H.c.order,aF (L w.ac) x)/\(0<=gd R i/\gd R i<1000000):=⟨af,od,a2 _<|dB K⟩;rcases b with _|_;simp only[kN,jA,qE,u0,u1,E,Sy.b8,Sy.b1,r15,rk,oe,ar,bsz,bh,Aa,aj,dc,↓uL];refine⟨λ_=>aw,?_⟩;exact wN (enc:=λs:Bool×Nat=>[bv s.1,iv s.2]) (s:=(I,i)) (s':=(I||Q (bqD w H.c.order v.a (gd R i)=v.b),i+1)) (i:=i) (by rw[fX<|by omega]) rfl rfl K ⟨K,by rw[tk,<-i2]⟩;simp only[fh,jN,xM,u0,u1,ya,↓uL];exact wN (enc:=λs:Bool×Nat=>[bv s.1,iv s.2]) (s:=(U,i)) (s':=(U,i+1)) (i:=i) (by rw[fX<|by omega]) rfl rfl K ⟨K,by rw[tk,<-i2];rfl⟩;rw[i2,oB<|bw M];exact B;obtain rfl:k=L (cw w):=bP hk<|bw M;rw[gV] at S;simp only[S.bm,u0,u1,r2,aj,↓uL];refine qr S.b6 rfl rfl λz F b=>?_;simp only[b,u0,u1,r2,aj,↓uL];have n6:∀{q:Id},q.1≠6->q∉[((6,v6):Id)]:=λh A=>(by simp at A;subst A;exact h rfl);have gi:gm x 3 1 (.m bi<|L w.ac) ((bmL w H).map ci):=S.gi.p;refine aOH (Q:=(·=AV.t [.a [sl cb<|bto w H,sl ci<|bmL w H],bv U])) (vs':=[.a [sl cb<|bto w H,sl ci<|bmL w H],bv U]) ?_ rfl rfl;simp only[ji,mU,fzT,aBr<|S.ga.fx F λq A=>n6<|by rw[S.pa q A];decide,aBr<|gi.fx F λq A=>n6<|by simp[aA] at A;subst A;rw[ap];decide,aWt];rfl
def bzd:FT:=qe byS
def bAo{w g l Lw K}:=sT bzd byS w g l Lw K (j:=by simp+contextual only[ij,Nb])
def bAb:dO:=(18,bpI)::(19,bzd)::byu
def bBc:eJ bAb:=it (tE bqO)<|it (tE byS)<|by9
def buC:=ai @bsI<|ai @bAo<|@bsz
def bzm a b c d R:=(.mk _:NR bAb atB Tryz.f5 [.u,b,c] [a] d R).p
def bBg{c0:List AV}{b c:AV}{R:o8}(l0:L c0=5)(h:H1 24 5 3 c0 λia d=>bzm ia b c d R):Ct 5 [.a c0,b,c] R:=z1 atB bBc Tryz.func5 l0 h
def bAN(v:aOA)(l:List Int)(n:Int)(X:aSr v/\L l<=reachBytes/\(0<=n/\n<256)):Ct 5 [.a v.cs,sl ci l,u8v n] (·=bv U):=by obtain⟨Z,ag,W⟩:=X;refine bBg rfl λs2 K R h0=>?_;have r5:aN (V 5) v.cs=V (.a v.cs):=rfl;have N:∀{Y:ae},fS Y (sl ci l)=V (iv<|L l):=cT;simp only[bzm,qy 4,N,u0,u1,R,r5,ip,jM,kU,jt,baj,ar,buC,↓uL];refine⟨λ_=>trivial,λi=>⟨⟨Z,by decide,by decide⟩,?_⟩⟩;have i:=be7 i;rintro _ ⟨w,rfl,e,t,ad⟩;refine⟨.inl (by simp[nA,eB,iR,aOA.cs,sl]),?_⟩;have d:=bnz t e;refine anu K λv7 s7 P N7 D=>?_;have j:=P.len.trans K;simp only[qz 6,qy 8,u0,u1,D,r15,ip,ar,buC,↓uL];refine⟨⟨d,e,by omega,by omega,W⟩,?_⟩;rintro _ ⟨g,p,b,rfl,f⟩;refine⟨.inl rfl,?_⟩;simp only[oJ,pG,KM,aY,↓uL];refine anu j λv8 s8 z N8 E=>?_;have F:=z.kq D;have k:=z.len.trans j;rcases b with _|_;simp only[qz 10,qy 12,u0,u1,kN,↓iC,jM,jt,buC,↓uL];exact⟨by simp[lo,uN,bdZ,wD],trivial⟩;obtain⟨f,af,o,ah⟩:=f rfl;have H:L g.cW<1000:=(by omega);have m:L p<1000000:=(by omega);have O:aN (V 6) g.c=V (.a g.c):=rfl;have arg:∀{Y:ae},dG Y (.a g.c)= .a g.c:=λ{Y}=>rfl;simp only[qz 10,qy 12,u0,u1,F,E,r15,O,ip,jM,kU,jt,ar,arg,buC,d,e,t,f,m,o,awG,I9,fh,aj,↓uL];refine⟨λh=>by simp at h,λ_=>⟨.inl rfl,?_⟩⟩;have s:L (bto w<|bcW w (aYF w) p)<4611686018427387904:=(by obtain⟨s,hs⟩:=aQA e;have:=(anE d.wo.wo.ev (tC s).1.sy.th).1;rw[bto,bJ];omega);have hI:L (bmL w<|bcW w (aYF w) p)<4611686018427387904:=(by have:=d.wo.wo.ev;simp[bmL];omega);simp only[oJ,pG,aY,↓uL];refine anu k λal s9 r N9 B=>?_;have M:=r.len.trans k;have S:=r.kq F;have T:=r.kq E;simp only[qz 14,qy 16,u0,u1,S,T,r15,O,ip,jM,kU,jt,ar,arg,buC,d,e,t,f,H,m,o,awG,I9,aj,↓uL];refine⟨.inl rfl,?_⟩;simp only[oJ,pG,aY,↓uL];refine anu M λam ak u ac C=>?_;have G:=u.kq B;have r2:∀{x y:AV},aN (V 2) [x,y]=V (.a [x,y]):=λ{x y}=>rfl;have A:∀{Y:ae} {p:List Bool} {q:List Int},dG Y (.a [sl cb p,sl ci q])= .a [sl cb p,sl ci q]:=λ{Y p q}=>rfl;simp only[qz 18,u0,u1,G,C,r2,ip,jM,kU,jt,A,buC,s,hI,awG,jA,qE,ya,aj,↓uL];exact⟨trivial, .inl rfl,λ_=> .inl rfl,trivial⟩
end Go.Ab
