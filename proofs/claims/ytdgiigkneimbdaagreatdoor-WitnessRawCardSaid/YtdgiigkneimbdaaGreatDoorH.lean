/- Part of the proof of WitnessRaw. -/
import Derived.Test.YtdgiigkneimbdaaGreatDoorG
set_option linter.all false
set_option maxRecDepth 100000
open And renaming intro->ai
open Bool renaming false->I,true->U
open Go.IntKind renaming i64->dq
open Go.Proofs.Tryz renaming prog->aS
open List renaming drop_zero->ip,length->L,mem_cons->eW,not_mem_nil->ql,range->aH,replicate->er
open Nat renaming zero_add->aj
open Option renaming none->J,some->V
namespace Go.Ab
open Go Go.RowKit Go.Proofs
abbrev u8v(n:Int):AV:= .s<|.int .u8 n
def bry{a b:Int}:(u8v a=u8v b)=(a=b):=O
def bo1(w)(n:Int)(N:kB w/\0<=n/\n<256):Ct 12 [.a w.c,u8v n] (λr=>∃(g:cJ) (b:Bool),r= .t [.a g.c,bv b]/\(b=U->qC w g=U/\L g.cW<=4)):=by obtain⟨P,j,ab⟩:=N;generalize G:(λ(r:AV)=>∃(g:cJ) (b:Bool),r= .t [.a g.c,bv b]/\(b=U->qC w g=U/\L g.cW<=4))=Q;refine aDq (br0 A λT K x h0=>?_);show boQ (.p (2,1) 0 0) (u8v n) T λr=>Q<|bqE r;simp only[boQ,↓uL];refine pz K λu W v N4 y=>?_;have C:=v.kq x;have D:dq.wrap n=n:=eM Z Z;simp only[qz 4,qy 6,qy 8,eT,C,r15,ar,bzh,↓uL];refine⟨P,?_⟩;rintro _ ⟨d,rfl,E,aa⟩;have m:∀{Y:ae},fS Y (sl cJ.c d)=V (iv<|L d):=cT;have S:∀{g:cJ},aN (V 6) g.c=V (.a g.c):=λ{g}=>A;have q:∀{g:cJ} {f o:Bool},aN (V 6) (a7h g f o)=V (.a<|a7h g f o):=λ{g f o}=>A;have e:∀(g:cJ) (b f o:Bool),(b=U->qC w g=U/\L g.cW<=4)->sV (aK 6 W (.p (4,u) 0 0)<|.a<|a7h g f o) λi=>aw 6 i (.p (4,u) 0 0) λs=>aE (λr=>Q<|bqE r) i [s,bv b]:=λg b f o h=>(yv y A rfl λz F B=>by simp only[eS,B,q,↓uL];refine aOH (vs':=[.a g.c,bv b]) A rfl ?_;rw[<-G];exact⟨g,b,A,h⟩);refine⟨.inl A,?_⟩;simp only[m,eQ,aS6,D,↓uL];refine⟨λh=>?_,λh=>?_⟩;have R:bM bu2 anY []=V (.a<|a7h ⟨0,0,0,0,0,[]⟩ U U):=A;simp only[R,aY,↓uL];exact e _ _ _ _ O;have:0<L d:=(by have:=bsz h;omega);have k:=Int.tmod_nonneg (L d:Int) j;have l:=Int.tmod_lt_of_pos n (show(0:Int)<L d by omega);simp only[aPR,aP1,ix,S,aY,eQ,↓uL];have M:=E _ (dB<|show(n.tmod (L d:Int)).toNat<L d by omega);exact⟨Z,⟨k,l⟩,e _ U I I λ_=>M⟩
def bnr:FT:=pn bo1
def brr:=f211 bnr bo1 (j:=by simp+contextual only[ij,bry])
def yL(k:Nat):eu:=(aH 4).map λi=>if i<k then 1 else 0
def uY(k:Nat):List aoC:=(aH 4).map λi=>⟨if i<k then 2 else if i=0 then 1 else 0,0,I⟩
def ku:am:=⟨aNE,4,⟨⟨er 3 ⟨-1,[]⟩,-1,[I],uY 4⟩,[0,1,0,0,0],[0],yL 4⟩,[⟨0,4,0,1,0,[],[]⟩,⟨1,4,0,2,6,[],[]⟩]⟩
def aoM:bcV ku=U:=a7c
def aoL:hU ku:=by refine⟨H,?_,?_,H⟩;intro l b;have:l=⟨-1,[]⟩:=List.eq_of_mem_replicate b;subst this;decide;intro e a;have:e=⟨0,4,0,1,0,[],[]⟩\/e=⟨1,4,0,2,6,[],[]⟩:=(by simpa[ku] using a);rcases this with rfl|rfl<;>exact⟨H,H⟩
def a6e{fn ys r}(h:Ct fn ys (·=r)):btY aS GG fn ys (·=r):=by obtain⟨a,rfl,_,h⟩:=h;exact h
def aS5{fn:Nat}{e}{z:Nat}(h:∀bA,(∀r∈bA,L r=z)->L bA<1000000->∃r a,gi a e z r bA/\cZ aS GG fn [.l bA I I] eK r a/\(bA=[]->r= .l [] U U))(bA)(f:∀r∈bA,L r=z)(i:L bA<1000000):∃r a,cZ aS GG fn [.l bA I I] eK r a/\(bA=[]->r= .l [] U U)/\(bA≠[]->∃b,r= .m b (L bA)/\box a b=V ⟨e,z,U,I,bA⟩):=by obtain⟨r,a,g,j,d⟩:=h bA f i;refine⟨r,a,j,d,λc=>?_⟩;rcases g with⟨e,_⟩|g;exact aOx e c;exact g
def GGR:Iy:=⟨GG.glob,λf=>aB1.elem f||Nat.beq f 48,GG.rd,GG.nw,I,λ_=>J⟩
def bhX:cJ:=⟨1,0,1,0,0,[]⟩
def bnl:qC ku bhX=U:=a7c
def bpm:biu ku bhX []=U:=a7c
def knC:aPP:=⟨[],[(166,3,1),(188,4,1),(256,69,3),(230,2,1),(187,222,2)]⟩
def bng:aSn aS GGR knC:=by refine⟨λ_=>A,λp c=>by simp[knC] at c,λp c=>?_⟩;simp only[knC,eW,ql,bj5] at c;rcases c with rfl|rfl|rfl|rfl|rfl;exact aS5 λbA a b=>aCM a b;exact aS5 λbA a b=>aCL a b;exact aS5 λbA a b=>aCK a b;exact aS5 λbA a b=>aCN a b;exact aS5 λbA a b=>bnc a b
noncomputable def aX0(T:aPP)(f:Func)(xs:dM)(x:AV):Bool:=match f.body with
 |some c=>match ev aS GGR T 3000 c (start f xs) (ly f) with
  |some p=>aQ0 p.1&&(match bt8 aS f p.2.1 p.2.2 with|some r=>xqA 9 r x|none=>I)
  |none=>I
 |none=>I
def be9{T}(i:aSn aS GGR T){fn:Nat}{f xs x}(l:L xs<=f.ntmps)(k:aS.funcs[fn]?=V f)(m:(f.name== "runtime.NumGoroutine")=I)(d:kG x=U)(h:aX0 T f xs x=U):Ct fn xs (·=x):=by unfold aX0 at h;split at h;rename_i c j;split at h;rename_i p n;obtain⟨e,o,Y⟩:=p;simp only[Bool.and_eq_true] at h;obtain⟨g,a⟩:=h;split at a;rename_i r b;obtain rfl:=aYn a;refine aBg (G:=GGR) ready k j m l<|bbl ready i 3000 c _ _ e o Y n _ ?_;rcases aWD g with rfl|rfl;exact⟨_,b,d,A⟩;exact⟨_,b,d,A⟩;(cases a);(cases h);cases h
set_option maxRecDepth 100000 in
def bqm:aX0 knC Tryz.f33 [.a ku.c] (bv U)=U:=a7c
def knT:aPP:=⟨[(33,[.a ku.c],bv U),(17,[.a ku.c],bv U),(34,[.a ku.c, .a bhX.c],bv U),(18,[.a ku.c, .a bhX.c,sl ot.c []],bv U)],knC.cl⟩
def bdF:aSn aS GGR knT:=by have b:=bnz aoL aoM;refine⟨λ_=>A,λp a=>?_,λp a=>?_⟩;simp only[knT,eW,ql,bj5] at a;rcases a with rfl|rfl|rfl|rfl;exact a6e<|be9 bng H Tryz.func33 a7c A bqm;have h:=O8 ku aoL;rw[aoM] at h;exact a6e h;exact a6e<|NV ku bhX ⟨b.wo,bnl⟩;have h:=biL ku bhX [] ⟨b,aoM,bnl,H⟩;rw[bpm] at h;exact a6e h;obtain⟨_,_,h⟩:=bng;exact h p a
set_option maxRecDepth 100000 in
def bal:aX0 knT Tryz.f5 [] (bv U)=U:=a7c
def bjI:Ct 5 [] (·=bv U):=by exact be9 bdF (Nat.zero_le _) Tryz.func5 a7c A bal
def biA:FT:=BJ bjI
def bol:=al2 biA bjI
def bAg:dO:=(12,bnr)::(5,biA)::bwC
def bAf:eJ bAg:=asq (aN0 bo1)<|asq (apM bjI)<|bxZ
def buP:=ai @brr<|ai @bol<|@bzh
def byK:=I9 15 [(7,([],[11,12,14]))]
def bAj{c0 a1 b c d}:=y1 24 5 5 bAf Tryz.func4 byK c0 [.a c0,a1,b,c,d]
def baj{v:aOA}{Y}:dG Y (.a v.cs)= .a v.cs:=rfl
def bz4{w g p q}:L (bsE w g p q).1<=L (m8 w):=by unfold bsE;split;simp only[btw,List.length_map,bsw,bvy,exL,List.length_nil,aj];grind;simp
def cyI{α f Y b e}{l p:List α}{K}(g:∀x,scR (f x)=U)(d:box Y b=V ⟨e,1,U,I,l.map f⟩)(c:∀Y' (l':List α) v,Fx Y Y' [b]->L l'=L l->box Y' b=V ⟨e,1,U,I,l'.map f⟩->K v Y'):eV (cyA Y (.m b<|L l)<|sl f p) K:=by have:(p.map f).all scR=U:=FA;have a:cyA Y (.m b<|L l) (sl f p)=V (.s<|.int .i64 (min (L<|p.map f) (L l):Nat),if min (L<|p.map f) (L l)=0 then Y else wr Y b ⟨e,1,U,I,(p.map f).take (min (L<|p.map f)<|L l)++(l.map f).drop (min (L<|p.map f)<|L l)⟩):=(by grind [cyA,sl]);rw[a];show K _ _;split;grind [Fx.refl];refine c _ (p.take (min (L p)<|L l)++l.drop (min (L p)<|L l)) _ (wc d) NA ?_;grind [lO,List.map_take,List.map_drop]
def bzE(v)(n)(p)(q)(b)(hp:aSr v/\0<=n/\n<256):Ct 4 [.a v.cs,u8v n,sl cb p,sl ci q,bv b] (·=bv U):=by obtain⟨hv,hn⟩:=hp;refine bAj A λs2 hl b1 h0=>?_;have r5:aN (V 5) v.cs=V (.a v.cs):=A;simp only[qy 4,eQ,b1,r5,ip,jM,kU,jt,baj,ar,buP,↓uL];refine⟨FA,?_⟩;rintro _ ⟨w,rfl,N,M,bq⟩;refine⟨.inl (by simp[nA,aNN,iR,aOA.cs,sl]),?_⟩;have hP:=bnz M N;have aP:=hP.wo.wo;refine anu hl λv7 s7 F7 N7 b7=>?_;have af:=F7.len.trans hl;simp only[qz 6,qy 8,eQ,b7,r15,ip,ar,buP,↓uL];refine⟨⟨aP,hn⟩,?_⟩;rintro _ ⟨g,b0,rfl,hg⟩;refine⟨.inl A,?_⟩;simp only[oJ,pG,aY,↓uL];refine anu af λv8 s8 F8 N8 b8=>?_;have d7:=F8.kq b7;have ag:=F8.len.trans af;rcases b0 with _|_;simp only[qz 10,qy 12,eQ,Bool.not_false,↓iC,jM,jt,buP,↓uL];grind [lo,uN,btE,wD];obtain⟨hg,br⟩:=hg A;have r6:aN (V 6) g.c=V (.a g.c):=A;have ak:bM bwT bqW [(0,sl cb p),(1,sl ci q)]=V (.a [sl cb p,sl ci q]):=A;have al:∀{b c:Id} {n m:Nat},bM bwT bqW [(0, .m b n),(1, .m c m)]=V (.a [.m b n, .m c m]):=λ{b c n m}=>A;simp only[qz 10,qy 12,eQ,Bool.not_true,↓iB,ak,↓uL];refine anu ag λvm s9 F9 N9 b9=>?_;have G:=F9.kq d7;have e8:=F9.kq b8;have aO:=F9.len.trans ag;simp only[qz 14,↓uL];have aL:L g.cW<1000:=Z;have ap:L w.ac<=12:=Z;refine bpF (λd=>∀(F:ae) (x0 E:AV) (P:List Bool) (R:eu),box F (11,v7)=V ⟨45,15,U,U,[w.c]⟩->box F (12,v8)=V ⟨48,6,U,U,[g.c]⟩->box F (14,vm)=V ⟨53,2,U,U,[[x0,E]]⟩->dG F (.a [x0,E])= .a [sl cb P,sl ci R]->d [] F) ?_ λd hJ=>?_;intro z x0 E P R zw zg zm za;have r2:aN (V 2) [x0,E]=V (.a [x0,E]):=A;have arg:∀{s:ae},dG s (.a g.c)= .a g.c:=A;simp only[qz 45,eQ,zw,zg,zm,r15,r6,r2,ip,jM,kU,jt,za,arg,ar,buP,N,M,hg,aL,ap,I6,↓uL];have D:∀{l:List ot} {t b:Bool},uN (.t [.l (l.map ot.c) t U,bv b])=U:=λ{l t b}=>(by simp[uN,btE,wD,ot.c,gY]);have ay:∀{s:ae} {l:List ot} {t o:Bool},dG s (.l (l.map ot.c) t o)=sl ot.c l:=λ{s l t o}=>(by simp[dG,eR,aTH,nrm,gK,sl]);have bs:=bz4 (w:=w) (g:=g) (p:=P) (q:=R);have e:=vw M N;have bt:=e.ln;have ao:L (bsE w g P R).1<4611686018427387904:=Z;rintro _ ⟨t1,rfl⟩;refine⟨.inr D,?_⟩;simp only[oJ,pG,aY,↓uL];rintro _ ⟨t2,rfl⟩;refine⟨.inr D,?_⟩;simp only[oJ,pG,aY,avU,beq_self_eq_true,eQ,↓jA,qE,ay,buP,ao,a5C,I6,ni,↓uL];grind [lo,uN,btE,wD];simp only[qz 47,eQ,G,r15,ip,jM,kU,jt,ar,buP,↓uL];refine⟨λhb=>?_,λhb=>hJ s9 _ _ p q G e8 b9 A⟩;obtain⟨hN,_⟩:=aYk N M;refine⟨hN,λt=>⟨.inl A,?_⟩⟩;refine AP H H Z Z λh bu aJ bm j aB=>?_;have an:=j.len.trans aO;have f7:=j.kq G;simp only[qz 16,eT,f7,↓uL];refine AP H H Z Z λi bw aK bn r aC=>?_;simp only[qz 18,al,aY,↓uL];have S:=(j.trans r).mono (ks':=[]) O;have aG:=S.kq b9;have a6:=r.len.trans an;refine yv aG A rfl λbx u C=>?_;simp only[qz 20,↓uL];refine dT (by simp[eL,lb,okT,tok,sl,aNG,dC,dK,pP,aJ,aK]) ?_;have kC:∀{a b:AV},aN J ([a,b].drop 1)=V b:=λ{a b}=>(by cases b<;>rfl);have k1:∀{a b:AV},aN J [a,b]=V a:=λ{a b}=>(by cases a<;>rfl);have W:=u.keep _ _ X<|r.kq aB;have ab:=u.keep _ _ X aC;have eB:∀n:Nat,er n (mz BD)=(er n I).map cb:=λn=>(by rw[List.map_replicate];rfl);have eI:∀n:Nat,er n (mz bH)=(er n (0:Int)).map ci:=λn=>(by rw[List.map_replicate];rfl);rw[eB] at W;rw[eI] at ab;simp only[eS,C,k1,kC,ip,↓uL];have mB:∀n:Nat,AV.m h n=AV.m h (L<|er n I):=O;have mI:∀n:Nat,AV.m i n=AV.m i (L<|er n (0:Int)):=O;have ba:i≠h:=X;rw[mB];refine cyI (λ_=>A) W λbz pb vB x lB aD=>?_;have aE:=x.keep _ _ FA ab;have aw:=S.trans<|u.trans x;have B:=x.keep _ _ X C;rw[mB,<-mB] at B;simp only[qz 22,qy 24,eS,B,k1,kC,ip,↓uL];rw[mI];refine cyI (λ_=>A) aE λf pi vI y lI ad=>?_;have aa:=y.keep _ _ X aD;have hO:∀{k:Id},k.1≠14->k≠h->k≠i->k∉([]++([(14,vm)]++[h])++[i]:List Id):=X;have T:=aw.trans y;have hx:∀{k:Id},k.1≠39->k.1≠43->k≠h/\k≠i:=X;have K:=y.keep _ _ FA B;refine hJ f _ _ pb pi (T.keep _ _ FA G) (T.keep _ _ FA e8) K ?_;have bo:dG f (.m h<|L<|m8 w)=sl cb pb:=(by have:=(show gi f 4 1 (.m h<|L<|pb.map cb) _ from .inr ⟨h,A,aa⟩).p.ar;grind [sl]);have bp:dG f (.m i<|L w.ac)=sl ci pi:=(by have:=(show gi f 3 1 (.m i<|L<|pi.map ci) _ from .inr ⟨i,A,ad⟩).p.ar;grind [sl]);have:dG f (.a [.m h<|L<|m8 w, .m i<|L w.ac])= .a [dG f<|.m h<|L<|m8 w,dG f<|.m i<|L w.ac]:=(by simp[dG,eR,aTH,aa,ad,nrm]);simp_all
end Go.Ab
