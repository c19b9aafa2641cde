/- Part of the proof of EncodeGoals. -/
import Derived.Test.YtcceijpmabdflaaGreatDoorB
import Derived.Test.YtcceijpmabdflaaGreatDoorChecked
import Derived.Lib.LazyBuf
import Derived.Laws.Strings
set_option linter.all false
set_option maxRecDepth 100000
open And renaming intro->ai
open Array renaming toList_inj->qb
open Bool renaming and_eq_false_iff->bik,and_eq_true->bN,and_false->qc,false->I,false_and->kM,false_eq_true->eE,not_eq_false'->fK,not_eq_true'->eH,not_false->kN,not_true->fh,or_assoc->yZ,or_eq_false_iff->cP,or_eq_true->fH,true->U,true_and->iw
open ByteArray renaming ext->aqv
open Decidable renaming decide->Q
open Eq renaming mpr->aND
open Go.IntKind renaming i64->dq
open Go.Proofs.Tryz renaming prog->aS
open Go.Value renaming bool.injEq->mV,int.injEq->mW,string.injEq->mX
open Int renaming add_assoc->aqB,natCast_add->Gw,ofNat_inj->aqD,toNat_natCast->bh,toNat_of_nonneg->kA,toNat_zero->Gx
open List renaming all_eq_true->dV,any_cons->Cu,any_nil->Cv,append_assoc->bje,append_nil->cL,cons.injEq->kO,drop->aOz,drop_eq_getElem_cons->Cw,drop_length->Gz,drop_zero->ip,flatMap_append->GC,flatMap_cons->Cz,foldl_append->RO,foldl_nil->aRl,getD_cons_zero->RQ,getD_eq_getElem?_getD->eI,getElem?_cons_zero->qh,getElem?_eq_getElem->eC,getElem?_set_ne->oq,getElem_of_mem->ou,length->L,length_append->a6G,length_cons->bZ,length_filter_le->fZ,length_map->bJ,length_nil->aO6,length_take->gC,map_append->dg,map_congr_left->ja,map_cons->ji,map_id->brw,map_nil->mU,map_take->bkj,mem_append->dF,mem_map->dN,mem_or_eq_of_mem_set->CC,mem_singleton->cE,nil_append->dW,range->aH,range_succ->qn,replicate->er,set_eq_take_append_cons_drop->GP,take_length->gV,take_of_length_le->oB,take_succ_eq_append_getElem->iJ,take_zero->CE
open Nat renaming add_zero->kP,beq->aOU,eq_zero_or_pos->oD,le_antisymm->bP,le_refl->dA,le_trans->gl,lt_of_le_of_lt->rC,lt_of_lt_of_le->biN,lt_or_ge->jj,mul_le_mul->xn,reduceAdd->dc,zero_add->aj,zero_le->mh
open Ne renaming symm->Sa
open Option renaming bind_some->aPy,getD_none->sD,getD_some->mi,map->Sb,map_some->df,none->J,some->V
namespace Go.Ab
open Go Go.RowKit Go.Proofs Go.Proofs.Tryz
def aB1:eP:=[24,25,32,33,34,35,36,37,38,39,40,41,42,43,44,51,52,55,56,57,82,83,84,85,86,87,88,89,90,91,92,93,95,96,97,98,99,100,101,103,104,105,106,107,108,113,115,116,117,120,148,158,159,160,161,162,163,164,165,166,168,173,175,177,181,183,184,185,190,191,194,215,216,219,220,221,234,235,240,242,243,244,253,266,267,272,273,274,275,276,277,278,281,282,283,299]
def uQ:eP:=[35,37,39,40,51,52,85,86,91,92,93,95,104,105,106,107,108,113,148,158,161,162,164,165,175,219,276,281,299]
def nws:eP:=[94,118,174,214,217,218,251,252]
def ik:List ByteArray:=[⟨#[118,97,114]⟩,⟨#[118,111,108,97,116,105,108,101]⟩,⟨#[109,117,116,101,120]⟩,⟨#[114,119,108,111,99,107]⟩,⟨#[99,111,110,100]⟩,⟨#[102,117,116,117,114,101]⟩,⟨#[116,104,114,101,97,100]⟩,⟨#[105,102]⟩,⟨#[101,108,115,101]⟩,⟨#[119,104,105,108,101]⟩,⟨#[108,111,99,107]⟩,⟨#[114,101,97,100]⟩,⟨#[119,114,105,116,101]⟩,⟨#[116,114,97,110,115,97,99,116,105,111,110]⟩,⟨#[97,116,111,109,105,99]⟩,⟨#[119,97,105,116]⟩,⟨#[110,111,116,105,102,121]⟩,⟨#[110,111,116,105,102,121,97,108,108]⟩,⟨#[115,112,97,119,110]⟩,⟨#[106,111,105,110]⟩,⟨#[115,101,116]⟩,⟨#[103,101,116]⟩]
abbrev pI:dM:=ik.map λs=> .s<|.string s
def GG:J7:=⟨λk=>match k with|0=>V pI|_=>J,λf=>aB1.elem f,λf=>uQ.elem f,λf=>nws.elem f,I,λ_=>J⟩
def fps:List (Nat×eP):=[(115,[14,15,16]),(120,[]),(177,[10,14,41]),(194,[14,15,16,30]),(266,[12,31])]
def GGV:J7:=⟨GG.glob,GG.imp,GG.rd,GG.nw,U,λf=>fps.lookup f⟩
def aQ9{T:dO}(h:pq aS GG T):pq aS GGV T:=h
def aTc{fn:FuncId}{xs:dM}{Y:ae}{R:AV->ae->Prop}(h:∃r a,R r a/\cZ aS GGV fn xs Y r a):∃r a,R r a/\cZ aS GG fn xs Y r a:=h
def fnV{fn:FuncId}{xs:dM}{R:AV->Prop}(h:Fn aS GGV fn xs R):Fn aS GG fn xs R:=h
def ready:tQ aS:=⟨by kernel_rfl,Tryz.co.funcs,by kernel_rfl⟩
abbrev cX(fn:FuncId):FT:=jz aS GG fn
def cB(fn:FuncId)(xs:dM)(Y:ae)(d:Nat)(K:AV->ae->Prop):Prop:=tR aS GG fn xs Y d K
def cV(fn:FuncId)(xs:dM)(Y:ae)(d:Nat)(K:AV->ae->Prop):Prop:=tR aS GGV fn xs Y d K
def cN(fn:FuncId)(xs:dM)(Y:ae)(d:Nat)(K:AV->ae->Prop):Prop:=tS aS GG fn xs Y d K
def cF(f:AV)(xs:dM)(Y:ae)(d:Nat)(K:AV->ae->Prop):Prop:=rn aS GG f xs Y d K
abbrev Ct(fn:Nat)(xs:dM)(R:AV->Prop):Prop:=Fn aS GG fn xs R
abbrev eJ(T:dO):Prop:=pq aS GG T
def nX{fn:Nat}{ys:dM}{R K:AV->Prop}(h:Ct fn ys R)(d:ys.all iX=U)(e:∀r,R r->K r):jz aS GG fn ys K:=by obtain⟨r,a,b,c⟩:=h;exact⟨r,c,d,b,e r a⟩
def vl{fn:Nat}{F:FT}{T:dO}(b:∀ys K,F ys K->jz aS GG fn ys K)(c:eJ T):eJ ((fn,F)::T):=by intro p a;rcases List.mem_cons.1 a with rfl|a;exact b;exact c p a
def wO:pq aS GG []:=λp h=>by cases h
def nU(f:Func):Code:=match f.body with|some (.seq _<|.seq _ t)=>t|_=> .skip
abbrev xE(a:AV):dM:=[a, .u, .l [] U U,a, .s<|.bool I, .u, .u, .u]
def DX{fn f xa xb h an}(B:aS.funcs[fn]?=V f)(p:f.body=V (.seq xa<|.seq xb h))(hn:(f.name== "runtime.NumGoroutine")=I)(K:∀n c w (R),R (.returned<|.slice J 0 0) w->Calls aS fn #[.slice J n c] w R)(y:∀A n c w (R),(nU f).wp aS (bodyPost aS f R) {tmps:=#[.slice (V A) n c,undef, .slice J 0 0, .slice (V A) n c, .bool I,undef,undef,undef],defers:=[]} w->Calls aS fn #[.slice (V A) n c] w R)(W:(gG<|nU f).all (λk=>Nat.blt k 8)=U)(H:oG an (nU f) 0=U){bA R}(F:iV aS GG [] an (nU f) 0 (tO aS f R) (gt<|xE<|.l bA I I) eK)(P:∀r j,R r j->bA=[]->r= .l [] U U/\j=eK):∃r j,R r j/\cZ aS GG fn [.l bA I I] eK r j:=by have M:nU f=h:=(by rw[nU,p]);simp only[M] at y W H F;have N:=(ready.code B p).1.2.2;have Z:oI h=U:=(by have:=(ready.code B p).2;grind [oI]);have G:=Kj (T:=[]) wO h 0 _ (by simp_all) H F;obtain⟨e,τ',Y',b,a⟩:=Kf h G;obtain⟨_,_,_,q⟩:=b;have:∃r,wG aS f τ' Y'=V r/\R r Y'/\(e= .normal\/e= .ret):=(by(cases e<;>simp only[tO] at q<;>first|exact q.elim|skip);obtain⟨vs,o,g⟩:=Ep _ _ q;exact⟨_,QU o,g, .inl rfl⟩;obtain⟨vs,o,g⟩:=Ep _ _ q;exact⟨_,QU o,g, .inr rfl⟩);obtain⟨r,o,g,k4⟩:=this;refine⟨r,Y',g,⟨f,_,B,p,hn⟩,λκ w β D hs S O=>?_⟩;obtain⟨v,rfl⟩:∃v,D=[v]:=List.length_eq_one_iff.1 O.1;have C:=O.2 0 v _ rfl rfl;have z:∀A n c,v= .slice (V A) n c->Calls aS fn #[v] w λe t=>∃v d,e= .returned v/\ba κ t Y' d v r/\J6 aS κ t Y' d/\dw w eK β t Y' d:=(by rintro A n c rfl;refine y A n c w _ ?_;have E:jG aS GG κ {tmps:=#[.slice (V A) n c,undef, .slice J 0 0, .slice (V A) n c, .bool I,undef,undef,undef],defers:=[]} w (xE<|.l bA I I) eK β:=(by refine⟨rfl,⟨rfl,λi v x b a=>?_⟩,hs,S⟩;have ab:ba κ w eK β (.slice J 0 0) (.l [] U U):= .l0 λ_=>rfl;match i,b,a with|0,b,a=>grind|1,b,a=>(cases a;exact .u)|2,b,a=>grind|3,b,a=>grind|4,b,a=>(cases b;cases a;exact .s rfl)|5,b,a=>(cases a;exact .u)|6,b,a=>(cases a;exact .u)|7,b,a=>(cases a;exact .u)|i+8,b,a=>cases a);refine wp_mono (Kg ready.mixed h N Z _ E a) ?_;rintro e' a' t ⟨_,_,d,⟨rfl,rfl,rfl⟩,m,X⟩;obtain⟨v,q1,q2⟩:=aoi m o;rcases k4 with rfl|rfl<;>exact⟨m.defers,v,q1,v,d,rfl,q2,m.sim,X⟩);show Calls aS fn #[v] w _;cases C with|@l0 A c _ _ ht=>(cases A with|none=>obtain⟨rfl,rfl⟩:=P _ _ g rfl;refine K 0 c w _ ⟨_,β,rfl, .l0 λ_=>rfl,hs,dw.refl _ _ _⟩|some A=>grind)|l1=>grind

abbrev cC:=AV->Prop
abbrev be:=AV->ae->Prop
abbrev bu:=dM->ae->Nat
abbrev aG:=dM->ae->Prop
def kW(n:Nat)(l:List<|Nat×(eP×eP)):List (Option<|eP×eP):=(aH n).map λi=>l.lookup i
section congr
@[congr] theorem aNy{o o'}{K}(h:o=o'):rV o K=rV o' K:=by rw[h]
@[congr] theorem aNo{o o'}{K}(h:o=o'):eV o K=eV o' K:=by rw[h]
@[congr] theorem aNz{o o'}{K}(h:o=o'):sV o K=sV o' K:=by rw[h]
@[congr] theorem aNv{c a}{A B}(h:c=a):ah c A B=ah a A B:=by rw[h]
@[congr] theorem aNu{w a}{A}{K}(h:w=a):gR w A K=gR a A K:=by rw[h]
@[congr] theorem aNs{w a}{A}{Y}{K}(h:w=a):gE w A Y K=gE a A Y K:=by rw[h]
def gB(b:Bool)(A:(AV->Prop)->Prop)(K:AV->Prop):Prop:=bif b then A K else K<|.t []
def gF(b:Bool)(A:(AV->ae->Prop)->Prop)(Y:ae)(K:AV->ae->Prop):Prop:=bif b then A K else K (.t []) Y
@[congr] theorem aNr{b c}{A a}{K}(h:b=c)(d:c=U->∀k,A k=a k):gB b A K=gB c a K:=by subst h;cases b with|true=>show A K=a K;exact d rfl K|false=>rfl
@[congr] theorem aNt{b c}{A a}{Y}{K}(h:b=c)(d:c=U->∀k,A k=a k):gF b A Y K=gF c a Y K:=by subst h;cases b with|true=>show A K=a K;exact d rfl K|false=>rfl
@[congr] theorem aNp{F}{xs a}{Y}{K}(h:xs=a):fV F Y xs K=fV F Y a K:=by rw[h]
@[congr] theorem aNq{F}{ys a}{Lw K}(h:ys=a):fW F ys Lw K=fW F a Lw K:=by rw[h]
@[congr] theorem aNw{v v'}{B}(h:v=v'):lR v B=lR v' B:=by rw[h]
@[congr] theorem aNx{v v'}{Y}{B}(h:v=v'):lV v Y B=lV v' Y B:=by rw[h]
end congr
def gv(b:Bool)(v:AV):AV:=bif b then v else .t []
def gd{α:Type}[Inhabited α](l:List α)(k:Nat):α:=l.getD k default
def aF(n:Nat)(i:Int):Prop:=0<=i/\i<n
def sl{α:Type}(f:α->dM)(l:List α):AV:= .l (l.map f) I I
abbrev ci(n:Int):dM:=[iv n]
abbrev cb(b:Bool):dM:=[bv b]
abbrev st(s:ByteArray):AV:= .s<|.string s
abbrev cs(s:ByteArray):dM:=[st s]
section rules
variable{K:AV->Prop}{Y:ae}
theorem aY{v}:rV (V v) K=K v:=rfl
def bQ{v Y K}:eV (V (v,Y)) K=K v Y:=rfl
def aoq{Y K}:sV (V Y) K=K Y:=rfl
theorem iS{b A B}:ah (bv b) A B=((b=U->A)/\(b=I->B)):=by grind [ah]
def iC{A B}:ah (bv U) A B=A:=by simp[ah]
def iB{A B}:ah (bv I) A B=B:=by simp[ah]
theorem sw{b c}{a:dM->Prop}:ah (bv b) (a [bv b]) (a [bv c])=a [bv<|b||c]:=by grind [ah]
def aM2{b}:gP U (bv b)=V b:=by cases b<;>rfl
def aMZ{b}:gP I (bv b)=V (!b):=by cases b<;>rfl
def aM3{w}:gP w (.t [])=V I:=rfl
def aM1{b c}:gP U (gv b<|bv c)=V (b&&c):=by cases b<;>cases c<;>rfl
def aM0{b c}:gP I (gv b<|bv c)=V (b&&!c):=by cases b<;>cases c<;>rfl
def aBA{b A}:gR (V b) A K=gB b A K:=by cases b<;>rfl
def aBy{b A K}:gE (V b) A Y K=gF b A Y K:=by cases b<;>rfl
def aBv{b c A}:gB (b&&c) A K=gB b (λk=>gB c A k) K:=by cases b<;>cases c<;>rfl
def aBw{b v}:gB b (λk=>k v) K=K (gv b v):=by cases b<;>rfl
theorem aBx{b S v}:gB b (λk=>S/\k v) K=((b=U->S)/\K (gv b v)):=by grind [gB,gv]
def jA{A}:gB U A K=A K:=rfl
def jN{A}:gB I A K=K (.t []):=rfl
def aBL{b c v}:gv b (gv c v)=gv (b&&c) v:=by cases b<;>rfl
def qE{v}:gv U v=v:=rfl
def xM{v}:gv I v= .t []:=rfl
def aE3{c a b}:mL (bv c) (bv a) (bv b)=V (bv<|bif c then a else b):=by cases c<;>rfl
def uO{c a b}:mL (bv c) a b=V (bif c then a else b):=by cases c<;>rfl
def aE2{c a b}:mL (bv c) (gv c<|bv a) (bv b)=V (bv<|bif c then a else b):=by cases c<;>rfl
def aE4{c a b}:mL (bv c) (bv a) (gv (!c)<|bv b)=V (bv<|bif c then a else b):=by cases c<;>rfl
def awq{c a}:(bif c then a else I)=(c&&a):=by simp
def awr{c a}:(bif c then U else a)=(c||a):=by simp
def av4{a b:Int}:aTH .lss 0 [] (iv a) (iv b)=V (bv<|Q<|a<b):=rfl
def av2{a b:Int}:aTH .leq 0 [] (iv a) (iv b)=V (bv<|Q<|a<=b):=rfl
def av1{a b:Int}:aTH .gtr 0 [] (iv a) (iv b)=V (bv<|Q<|b<a):=rfl
def avY{a b:Int}:aTH .geq 0 [] (iv a) (iv b)=V (bv<|Q<|b<=a):=rfl
def iM{a b:Int}:aTH .eql 0 [] (iv a) (iv b)=V (bv<|Q<|a=b):=rfl
def av6{a b:Int}:aTH .neq 0 [] (iv a) (iv b)=V (bv<|Q<|a≠b):=by show V (bv<|a !=b)=_;congr 3;by_cases h:a=b<;>simp[h]
def cS{a b:Int}:aTH .add 0 [] (iv a) (iv b)=V (iv<|dq.wrap<|a+b):=rfl
def alr{a b:Int}:aTH .sub 0 [] (iv a) (iv b)=V (iv<|dq.wrap<|a-b):=rfl
def av5{a b:Int}:aTH .mul 0 [] (iv a) (iv b)=V (iv<|dq.wrap<|a*b):=rfl
def avU{a b:Bool}:aTH .eql 1 [] (bv a) (bv b)=V (bv<|a==b):=rfl
def avV{a b:Bool}:aTH .neq 1 [] (bv a) (bv b)=V (bv<|!(a==b)):=rfl
def alq{a b:ByteArray}:aTH .eql 0 [] (st a) (st b)=V (bv<|Q<|a=b):=by show V (bv<|a.toList==b.toList)=_;congr 3;by_cases h:a=b;subst h;simp;have:a.toList≠b.toList:=λe=>h (aqv<|by rw[ByteArray.toList_eq,ByteArray.toList_eq,qb] at e;exact e);simp[h,this]
def aIN{b}:cR .not (bv b)=V (bv<|!b):=rfl
def aS6{n k}:sO (V .i64) (.s<|.int k n)=V (iv<|dq.wrap n):=rfl
def aXT{a b}:AO .min (iv a) (iv b)=V (iv<|if b<a then b else a):=rfl
def aRW{a b}:AO .max (iv a) (iv b)=V (iv<|if b>a then b else a):=rfl
def bdM{bA t o}:fS Y (.l bA t o)=V (iv<|L bA):=rfl
def cT{α f}{l:List α}:fS Y (sl f l)=V (iv<|L l):=by simp[fS,sl]
theorem aBz{α}[Inhabited α]{f}{l:List α}{z:Nat}{i:Int}(a:∀x,L (f x)=z):rV (cz z Y (sl f l)<|iv i) K=(aF (L l) i/\K (.q<|f<|gd l i.toNat)):=by grind [aF,cz,sl,rV,gd]
def qM{c cs}:Iy J Y (.q (c::cs))=V c:=rfl
def azQ{cs n}:iQ n Y (.q cs)=V (.q<|cs.drop n):=rfl
def jM{F xs K}:fV F Y xs K=fW F (xs.map<|dG Y) (lo Y xs) K:=rfl
def jt:([]:dM).map (dG Y)=[]:=rfl
def kU{x xs}:(x::xs).map (dG Y)=dG Y x::xs.map (dG Y):=rfl
def tW{v}:dG Y (.s v)= .s v:=rfl
def alg{α f}{l:List α}:dG Y (sl f l)=sl f l:=rfl
def CV{α f}{l:List α}{t o}:dG Y (.l (l.map f) t o)=sl f l:=rfl
def AL{xs v}:lo Y xs (.s v)=True:=by simp[lo,uN,yv,wD]
def Ql{xs}{l:d0}{t}:lo Y xs (.l (l.map ci) t U)=True:=by simp[lo,uN,yv,wD,gY]
def QQ{bA o}{Q:AV->Prop}:(∀r,(∃t,r=AV.l bA t o)->Q r)=∀t,Q (.l bA t o):=by simp
def gT{α:Type}{f}{l:List α}{t o}:fS Y (.l (l.map f) t o)=V (iv<|L l):=by simp[fS]
def uR{R b}:aE R Y [bv b]=R (bv b):=by simp[aE,jS,iZ,dQ,kG,pF,nj]
def aFi{R n}:aE R Y [iv n]=R (iv n):=by simp[aE,jS,iZ,dQ,kG,pF,nj]
def aI{p:Prop}:(∀_:Rg,p)=p:=by simp
end rules
section
def gz0{a l}:gt (a::l) 0=a:=rfl
def gz1{a b l}:gt (a::b::l) 1=b:=rfl
def u0:=ai @gz0<|ai @gz1<|ai @aY<|ai @bQ<|ai @iS<|ai @aM2<|ai @aMZ<|ai @aM3<|ai @aM1<|ai @aM0<|ai @aBA<|ai @aBy<|ai @aBv<|ai @aBw<|ai @aBx<|ai @aBL<|ai @qE<|ai @xM<|ai @aE2<|ai @aE4<|ai @aE3<|ai @awq<|ai @awr<|ai @kN<|ai @fh<|ai @Bool.and_true<|ai @iw<|@Bool.and_assoc
end
def aB(i:Nat)(s:ae)(p:AV)(k:AV->Prop):Prop:=rV (iQ i s p) k
def aM(s:ae)(t:AV)(k:AV->Prop):Prop:=rV (Iy J s t) k
def aw(i:Nat)(s:ae)(t:AV)(k:AV->Prop):Prop:=rV (Iy (V i) s t) k
def aO(o:BinOp)(a b:AV)(k:AV->Prop):Prop:=rV (aTH o 0 [] a b) k
def QbE(a b:AV)(k:AV->Prop):Prop:=rV (aTH .eql 0 [] a b) k
def aU(a b:AV)(k:AV->Prop):Prop:=rV (aTH .lss 0 [] a b) k
def aV(a b:AV)(k:AV->Prop):Prop:=rV (aTH .add 0 [] a b) k
def ao(z:Nat)(s:ae)(a i:AV)(k:AV->Prop):Prop:=rV (cz z s a i) k
def aJ(s:ae)(a:AV)(k:AV->Prop):Prop:=rV (fS s a) k
def aD(c a b:AV)(k:AV->Prop):Prop:=rV (mL c a b) k
def cf(a:AV)(k:AV->Prop):Prop:=rV (cR .not a) k
def Qct(t e:AV)(k:AV->Prop):Prop:=gR (gP U t) (λg=>g e) k
def Qcf(t e:AV)(k:AV->Prop):Prop:=gR (gP I t) (λg=>g e) k
def Qot(t:AV)(f:(AV->Prop)->Prop)(k:AV->Prop):Prop:=gR (gP U t) (λg=>f λv=>g v) k
def aC(t:AV)(f:(AV->Prop)->Prop)(k:AV->Prop):Prop:=gR (gP I t) (λg=>f λv=>g v) k
def Qfl(i:Nat)(s:ae)(p:AV)(k:AV->Prop):Prop:=rV (iQ i s p) λt=>rV (Iy J s t) k
def aT(d:AV)(i:Nat)(s:ae)(p:AV)(k:AV->Prop):Prop:=gR (gP U d) (λg=>rV (iQ i s p) λt=>g t) λt=>gR (gP U d) (λg=>rV (Iy J s t) λv=>g v) k
def bn(d:AV)(i:Nat)(s:ae)(p:AV)(k:AV->Prop):Prop:=gR (gP I d) (λg=>rV (iQ i s p) λt=>g t) λt=>gR (gP I d) (λg=>rV (Iy J s t) λv=>g v) k
def a8b{i s p k}:aB i s p k=(rV (iQ i s p) k):=rfl
def arq{s t k}:aM s t k=(rV (Iy J s t) k):=rfl
def art{i s t k}:aw i s t k=(rV (Iy (V i) s t) k):=rfl
def ark{o a b k}:aO o a b k=(rV (aTH o 0 [] a b) k):=rfl
def ari{a b k}:QbE a b k=(rV (aTH .eql 0 [] a b) k):=rfl
def arj{a b k}:aU a b k=(rV (aTH .lss 0 [] a b) k):=rfl
def arh{a b k}:aV a b k=(rV (aTH .add 0 [] a b) k):=rfl
def arp{z s a i k}:ao z s a i k=(rV (cz z s a i) k):=rfl
def ars{s a k}:aJ s a k=(rV (fS s a) k):=rfl
def arx{c a b k}:aD c a b k=(rV (mL c a b) k):=rfl
def ary{a k}:cf a k=(rV (cR .not a) k):=rfl
def bnK{t e k}:Qct t e k=(gR (gP U t) (λg=>g e) k):=rfl
def arl{t e k}:Qcf t e k=(gR (gP I t) (λg=>g e) k):=rfl
def arw{t f k}:Qot t f k=(gR (gP U t) (λg=>f λv=>g v) k):=rfl
def a8c{t f k}:aC t f k=(gR (gP I t) (λg=>f λv=>g v) k):=rfl
def aro{i s p k}:Qfl i s p k=(rV (iQ i s p) λt=>rV (Iy J s t) k):=rfl
def aru{d i s p k}:aT d i s p k=(gR (gP U d) (λg=>rV (iQ i s p) λt=>g t) λt=>gR (gP U d) (λg=>rV (Iy J s t) λv=>g v) k):=rfl
def arr{d i s p k}:bn d i s p k=(gR (gP I d) (λg=>rV (iQ i s p) λt=>g t) λt=>gR (gP I d) (λg=>rV (Iy J s t) λv=>g v) k):=rfl
def lzz:fY:=lb U [] []
def lzo(x:AV):fY:=lb U [x] []
@[simp] theorem aDs:lzz=lb U [] []:=rfl
@[simp] theorem aDl{x:AV}:lzo x=lb U [x] []:=rfl
def uL:=ai @a8b<|ai @arq<|ai @art<|ai @ark<|ai @ari<|ai @arj<|ai @arh<|ai @arp<|ai @ars<|ai @arx<|ai @ary<|ai @bnK<|ai @arl<|ai @arw<|ai @a8c<|ai @aro<|ai @aru<|ai @arr<|ai @aDs<|@aDl
def be8{n B A}:jR n B A=A B:=rfl
def di{n B A}:jV n B A=A B:=rfl
def cI(n:Nat)(Inv:Nat->Prop):dM->Prop:=λvs=>∃k:Nat,vs=[iv k]/\k<=n/\Inv k
def cM(n:Nat):dM->Nat:=λvs=>match vs with|[.s (.int _ i)]=>n-i.toNat|_=>0
def bc4{B}(n)(Inv)(a:Inv 0)(h:∀k,k<=n->Inv k->B (cI n Inv) (cM n) [iv k]):lR [iv 0] B:=⟨cI n Inv,cM n,⟨0,rfl,mh _,a⟩,by rintro vs ⟨k,rfl,c,b⟩;grind⟩
theorem eM{x}(a: -9223372036854775808<=x)(b:x<9223372036854775808):dq.wrap x=x:=by rw[IntKind.wrap_i64];omega
theorem gS{n k Inv}(a:k<n)(b:n<4611686018427387904)(h:Inv<|k+1):cI n Inv [iv<|dq.wrap<|(k:Int)+1]/\cM n [iv<|dq.wrap<|(k:Int)+1]<cM n [iv k]:=by rw[eM (by omega)<|by omega];refine⟨⟨k+1,rfl,a,h⟩,?_⟩;show n-((k:Int)+1).toNat<n-((k:Int)).toNat;omega
theorem au{a l}:gt (a::l) 0=a:=rfl
theorem fE{a l n}:gt (a::l) (n+1)=gt l n:=rfl
def tI{S}(enc:S->dM)(Inv:S->Prop):dM->Prop:=λvs=>∃s,vs=enc s/\Inv s
def pM(p n:Nat):dM->Nat:=λvs=>match gt vs p with| .s (.int _ i)=>n-i.toNat|_=>0
def yh{S}(enc)(p n)(Inv)(s0:S){B}(a:Inv s0)(h:∀s,Inv s->B (tI enc Inv) (pM p n) (enc s)):lR (enc s0) B:=⟨tI enc Inv,pM p n,⟨s0,rfl,a⟩,by rintro vs ⟨s,rfl,b⟩;exact h s b⟩
def wN{S enc p n Inv}{s s':S}{i:Nat}{vs}(a:vs=enc s')(c:gt (enc s) p=iv i)(b:gt (enc s') p=iv ((i+1:Nat):Int))(d:i<n)(hI:Inv s'):tI enc Inv vs/\pM p n vs<pM p n (enc s):=by subst a;refine⟨⟨s',rfl,hI⟩,?_⟩;grind [pM,bh]
theorem fX{k:Nat}(h:k<4611686018427387904):dq.wrap ((k:Int)+1)=((k+1:Nat):Int):=by grind [eM]
abbrev bqM:List (Nat×Nat):=[(0,1),(1,1),(2,1),(3,1)]
abbrev brL:List (Nat×Nat):=[(0,1),(1,1)]
abbrev alz:List (Nat×Nat):=[(0,1),(1,1),(2,1),(3,1),(4,1),(5,4),(9,1),(10,1)]
abbrev anY:List (Nat×Nat):=[(0,1),(1,1),(2,1),(3,1),(4,1),(5,1)]
abbrev aon:List (Nat×Nat):=[(0,4),(4,1),(5,1),(6,1)]
abbrev aM7:List (Nat×Nat):=[(0,1),(1,1),(2,1)]
abbrev aOs:List (Nat×Nat):=[(0,1),(1,1),(2,1),(3,1),(4,1)]
abbrev aOG:List (Nat×Nat):=[(0,1),(1,1),(2,1),(3,1),(4,1),(5,1),(6,1)]
abbrev aP0:List (Nat×Nat):=[(0,6),(6,1),(7,7),(14,1)]
structure cA where
 name:ByteArray
 index:Int
 size:Int
 vol:Bool
 init:Int
 deriving Inhabited,DecidableEq
structure dS where
 name:ByteArray
 rw:Bool
 deriving Inhabited,DecidableEq
structure aPI where
 name:ByteArray
 eg:Int
 deriving Inhabited,DecidableEq
structure dL where
 aq:Int
 stmt:Int
 line:Int
 deriving Inhabited,DecidableEq
structure pz where
 cells:List cA
 ak:List dS
 bC:List aPI
 bU:List ByteArray
 ay:List ByteArray
 dU:List dL
 deriving Inhabited,DecidableEq
structure cg where
 aNN:Int
 bk:d0
 deriving Inhabited,DecidableEq
structure aoC where
 cQ:Int
 cond:Int
 atomic:Bool
 deriving Inhabited,DecidableEq
structure aW where
 ak:List cg
 tx:Int
 done:List Bool
 ay:List aoC
 deriving Inhabited,DecidableEq
structure I5 where
 bW:aW
 cells:d0
 bU:d0
 count:d0
 deriving Inhabited,DecidableEq
structure aP where
 aq:Int
 kind:Int
 bF:Int
 value:Int
 site:Int
 dI:d0
 ep:d0
 deriving Inhabited,DecidableEq
structure am where
 aQ:pz
 start:Int
 init:I5
 ac:List aP
 deriving Inhabited,DecidableEq
structure cJ where
 kind:Int
 ea:Int
 eb:Int
 ec:Int
 ed:Int
 cW:d0
 deriving Inhabited,DecidableEq
structure aH8 where
 kind:Int
 a:Int
 b:Int
 deriving Inhabited,DecidableEq
structure bqR where
 x:Int
 y:Int
 k:Int
 deriving Inhabited,DecidableEq
structure br6 where
 ints:Int
 bools:Int
 lL:List bqR
 ug:List (d0)
 deriving Inhabited,DecidableEq
def cA.c(x:cA):dM:=[st x.name,iv x.index,iv x.size,bv x.vol,iv x.init]
def dS.c(x:dS):dM:=[st x.name,bv x.rw]
def aPI.c(x:aPI):dM:=[st x.name,iv x.eg]
def dL.c(x:dL):dM:=[iv x.aq,iv x.stmt,iv x.line]
def pz.c(x:pz):dM:=[sl cA.c x.cells,sl dS.c x.ak,sl aPI.c x.bC,sl cs x.bU,sl cs x.ay,sl dL.c x.dU]
def cg.c(x:cg):dM:=[iv x.aNN,sl ci x.bk]
def aoC.c(x:aoC):dM:=[iv x.cQ,iv x.cond,bv x.atomic]
def aW.c(x:aW):dM:=[sl cg.c x.ak,iv x.tx,sl cb x.done,sl aoC.c x.ay]
def I5.c(x:I5):dM:=[sl cg.c x.bW.ak,iv x.bW.tx,sl cb x.bW.done,sl aoC.c x.bW.ay,sl ci x.cells,sl ci x.bU,sl ci x.count]
def aP.c(x:aP):dM:=[iv x.aq,iv x.kind,iv x.bF,iv x.value,iv x.site,sl ci x.dI,sl ci x.ep]
def am.c(x:am):dM:=[sl cA.c x.aQ.cells,sl dS.c x.aQ.ak,sl aPI.c x.aQ.bC,sl cs x.aQ.bU,sl cs x.aQ.ay,sl dL.c x.aQ.dU,iv x.start,sl cg.c x.init.bW.ak,iv x.init.bW.tx,sl cb x.init.bW.done,sl aoC.c x.init.bW.ay,sl ci x.init.cells,sl ci x.init.bU,sl ci x.init.count,sl aP.c x.ac]
def cJ.c(x:cJ):dM:=[iv x.kind,iv x.ea,iv x.eb,iv x.ec,iv x.ed,sl ci x.cW]
def aH8.c(x:aH8):dM:=[iv x.kind,iv x.a,iv x.b]
def bqR.c(x:bqR):dM:=[iv x.x,iv x.y,iv x.k]
def cl(x:d0):dM:=[sl ci x]
def br6.c(x:br6):dM:=[iv x.ints,iv x.bools,sl bqR.c x.lL,sl cl x.ug]
section
variable{K:cC}{Y:ae}{i:Int}
def amX{l}:rV (cz 1 Y (sl ci l)<|iv i) K=(aF (L l) i/\K (.q<|ci<|gd l i.toNat)):=aBz λ_=>rfl
def aCc{l}:rV (cz 1 Y (sl cb l)<|iv i) K=(aF (L l) i/\K (.q<|cb<|gd l i.toNat)):=aBz λ_=>rfl
def amY{l}:rV (cz 1 Y (sl cs l)<|iv i) K=(aF (L l) i/\K (.q<|cs<|gd l i.toNat)):=aBz λ_=>rfl
def aCe{l}:rV (cz 1 Y (sl cl l)<|iv i) K=(aF (L l) i/\K (.q<|cl<|gd l i.toNat)):=aBz λ_=>rfl
def aCd{l}:rV (cz 5 Y (sl cA.c l)<|iv i) K=(aF (L l) i/\K (.q<|cA.c<|gd l i.toNat)):=aBz λ_=>rfl
def aCk{l}:rV (cz 2 Y (sl dS.c l)<|iv i) K=(aF (L l) i/\K (.q<|dS.c<|gd l i.toNat)):=aBz λ_=>rfl
def aCf{l}:rV (cz 2 Y (sl aPI.c l)<|iv i) K=(aF (L l) i/\K (.q<|aPI.c<|gd l i.toNat)):=aBz λ_=>rfl
def aCl{l}:rV (cz 3 Y (sl dL.c l)<|iv i) K=(aF (L l) i/\K (.q<|dL.c<|gd l i.toNat)):=aBz λ_=>rfl
def am0{l}:rV (cz 2 Y (sl cg.c l)<|iv i) K=(aF (L l) i/\K (.q<|cg.c<|gd l i.toNat)):=aBz λ_=>rfl
def am2{l}:rV (cz 3 Y (sl aoC.c l)<|iv i) K=(aF (L l) i/\K (.q<|aoC.c<|gd l i.toNat)):=aBz λ_=>rfl
def aCh{l}:rV (cz 7 Y (sl aP.c l)<|iv i) K=(aF (L l) i/\K (.q<|aP.c<|gd l i.toNat)):=aBz λ_=>rfl
def aCi{l}:rV (cz 6 Y (sl cJ.c l)<|iv i) K=(aF (L l) i/\K (.q<|cJ.c<|gd l i.toNat)):=aBz λ_=>rfl
def aCm{l}:rV (cz 3 Y (sl aH8.c l)<|iv i) K=(aF (L l) i/\K (.q<|aH8.c<|gd l i.toNat)):=aBz λ_=>rfl
def aCg{l}:rV (cz 3 Y (sl bqR.c l)<|iv i) K=(aF (L l) i/\K (.q<|bqR.c<|gd l i.toNat)):=aBz λ_=>rfl
end
def awN{x}:cA.c x=[st x.name,iv x.index,iv x.size,bv x.vol,iv x.init]:=rfl
def cc:=@awN
def ix:=ai @amX<|ai @aCc<|ai @amY<|ai @aCe<|ai @aCd<|ai @aCk<|ai @aCf<|ai @aCl<|ai @am0<|ai @am2<|ai @aCh<|ai @aCi<|ai @aCm<|@aCg
section
variable{K:cC}{KE:be}{Y:ae}{d k v:Nat}{x:bY}{e:TypeId}{z:Nat}{cs zs:dM}
def D3:L (put Y d x)=L Y:=by simp[put]
def uC{b}:L (wr Y b x)=L Y:=by simp[wr]
theorem yk(h:k≠d):aZ (put Y d x) k=aZ Y k:=by grind [aZ,put,oq]
theorem wy{b}(h:k≠b.1):aZ (wr Y b x) k=aZ Y k:=by grind [aZ,wr,oq]
theorem zQ(h:d<L Y)(a:(aZ Y d).I6+1=v):box (put Y d x) (d,v)=V x:=by rw[<-a];exact iy h
theorem aC5{b i j q}:Iy q Y (.p b i j)=((box Y b).bind λx=>(x.bA[i]?).map (·.drop j)).bind (aN q):=rfl
theorem rR{b i j n}:iQ n Y (.p b i j)=(box Y b).map λ_=> .p b i (j+n):=rfl
end
def aD0{x}{f:bY->AV}:(V x).map f=V (f x):=rfl
def aww{x}{f:bY->Option (dM)}:(V x).bind f=f x:=rfl
def awx{l}{f:dM->Option AV}:(V l).bind f=f l:=rfl
def aD1{l}{f:dM->dM}:(V l).map f=V (f l):=rfl
def aBF{r}{l:List (dM)}:(r::l)[0]?=V r:=rfl
def axE{l:dM}:l.drop 0=l:=rfl
theorem dJ{n k}(h:k<n):aF n (k:Int):=⟨by omega,by omega⟩
theorem aL{k n:Nat}(h:Q ((k:Int)<(n:Int))=U):k<n:=by simpa using h
theorem bw{k n:Nat}(h:Q ((k:Int)<(n:Int))=I):n<=k:=by simpa using h
theorem bT{α}[Inhabited α]{l:List α}{k:Nat}(h):gd l k=l[k]:=by simp[gd,h]
def px{α}[Inhabited α]{l}{p:α->Prop}:(∀j,j<L l->p (gd l j))↔∀x∈l,p x:=by grind [ou,bT,List.getElem_mem]
def a6p{p:Nat->Prop}{k}(h:∀j,j<k->p j)(a:p k):∀j,j<k+1->p j:=(by grind)
theorem dB{α}[Inhabited α]{l:List α}{k:Nat}(h:k<L l):gd l k∈l:=by grind [bT]
def u1:=ai @av4<|ai @av2<|ai @av1<|ai @avY<|ai @iM<|ai @av6<|ai @cS<|ai @alr<|ai @av5<|ai @avU<|ai @avV<|ai @alq<|ai @aIN<|ai @cT<|ai @azQ<|ai @aC5<|ai @rR<|ai @uR<|ai @aFi<|ai @au<|ai @fE<|ai @be8<|ai @di<|ai @aI<|ai @aD0<|ai @aww<|ai @awx<|ai @aD1<|ai @aBF<|@axE
def pz.ext_iff'{x y:pz}:(x=y)=(x.cells=y.cells/\x.ak=y.ak/\x.bC=y.bC/\x.bU=y.bU/\x.ay=y.ay/\x.dU=y.dU):=by cases x;cases y;simp
def aW.ext_iff'{x y:aW}:(x=y)=(x.ak=y.ak/\x.tx=y.tx/\x.done=y.done/\x.ay=y.ay):=by cases x;cases y;simp
def I5.ext_iff'{x y:I5}:(x=y)=(x.bW.ak=y.bW.ak/\x.bW.tx=y.bW.tx/\x.bW.done=y.bW.done/\x.bW.ay=y.bW.ay/\x.cells=y.cells/\x.bU=y.bU/\x.count=y.count):=by obtain⟨⟨a,b,c,d⟩,e,f,g⟩:=x;obtain⟨⟨h,j,l,m⟩,n,o,p⟩:=y;grind
theorem kL{α f}(a:∀x y,f x=f y->x=y){l l':List α}:(sl f l=sl f l')=(l=l'):=by apply aPo;constructor;intro h;simp only[sl,AV.l.injEq,aO5] at h;(induction l generalizing l' with|nil=>simp_all|cons x l b=>cases l' with|nil=>simp at h|cons y l'=>grind);simp_all
def aN8{l l':d0}:(sl ci l=sl ci l')=(l=l'):=kL (by intro x y h;simpa using h)
def mD{l l':List Bool}:(sl cb l=sl cb l')=(l=l'):=kL (by intro x y h;simpa using h)
def mF{l l':List ByteArray}:(sl cs l=sl cs l')=(l=l'):=kL (by intro x y h;simpa using h)
def mE{l l':List (d0)}:(sl cl l=sl cl l')=(l=l'):=kL (by intro x y h;simpa[cl,aN8] using h)
theorem amH{x y:cA}:(cA.c x=cA.c y)=(x=y):=by apply aPo;constructor;intro h;(cases x;cases y);simp only[cA.c,kO,AV.s.injEq,mW,mV,mX,aNG,aO5,aN8,mD,mF,mE] at h;simp only[cA.mk.injEq,pz.ext_iff',aW.ext_iff',I5.ext_iff',bm1];exact h;intro h;rw[h]
def nz{l l'}:(sl cA.c l=sl cA.c l')=(l=l'):=(by grind [kL,amH])
theorem amN{x y:dS}:(dS.c x=dS.c y)=(x=y):=by apply aPo;constructor;intro h;(cases x;cases y);simp only[dS.c,kO,AV.s.injEq,mW,mV,mX,aNG,aO5,aN8,mD,mF,mE,nz] at h;simp only[dS.mk.injEq,pz.ext_iff',aW.ext_iff',I5.ext_iff',bm1];exact h;intro h;rw[h]
def nY{l l'}:(sl dS.c l=sl dS.c l')=(l=l'):=(by grind [kL,amN])
theorem amI{x y:aPI}:(aPI.c x=aPI.c y)=(x=y):=by apply aPo;constructor;intro h;(cases x;cases y);simp only[aPI.c,kO,AV.s.injEq,mW,mV,mX,aNG,aO5,aN8,mD,mF,mE,nz,nY] at h;simp only[aPI.mk.injEq,pz.ext_iff',aW.ext_iff',I5.ext_iff',bm1];exact h;intro h;rw[h]
def oN{l l'}:(sl aPI.c l=sl aPI.c l')=(l=l'):=(by grind [kL,amI])
theorem amP{x y:dL}:(dL.c x=dL.c y)=(x=y):=by apply aPo;constructor;intro h;(cases x;cases y);simp only[dL.c,kO,AV.s.injEq,mW,mV,mX,aNG,aO5,aN8,mD,mF,mE,nz,nY,oN] at h;simp only[dL.mk.injEq,pz.ext_iff',aW.ext_iff',I5.ext_iff',bm1];exact h;intro h;rw[h]
def pL{l l'}:(sl dL.c l=sl dL.c l')=(l=l'):=(by grind [kL,amP])
theorem amU{x y:pz}:(pz.c x=pz.c y)=(x=y):=by apply aPo;constructor;intro h;(cases x;cases y);simp only[pz.c,kO,AV.s.injEq,mW,mV,mX,aNG,aO5,aN8,mD,mF,mE,nz,nY,oN,pL] at h;simp only[pz.mk.injEq,pz.ext_iff',aW.ext_iff',I5.ext_iff',bm1];exact h;intro h;rw[h]
def qJ{l l'}:(sl pz.c l=sl pz.c l')=(l=l'):=(by grind [kL,amU])
theorem amO{x y:cg}:(cg.c x=cg.c y)=(x=y):=by apply aPo;constructor;intro h;(cases x;cases y);simp only[cg.c,kO,AV.s.injEq,mW,mV,mX,aNG,aO5,aN8,mD,mF,mE,nz,nY,oN,pL,qJ] at h;simp only[cg.mk.injEq,pz.ext_iff',aW.ext_iff',I5.ext_iff',bm1];exact h;intro h;rw[h]
def rY{l l'}:(sl cg.c l=sl cg.c l')=(l=l'):=(by grind [kL,amO])
theorem amS{x y:aoC}:(aoC.c x=aoC.c y)=(x=y):=by apply aPo;constructor;intro h;(cases x;cases y);simp only[aoC.c,kO,AV.s.injEq,mW,mV,mX,aNG,aO5,aN8,mD,mF,mE,nz,nY,oN,pL,qJ,rY] at h;simp only[aoC.mk.injEq,pz.ext_iff',aW.ext_iff',I5.ext_iff',bm1];exact h;intro h;rw[h]
def td{l l'}:(sl aoC.c l=sl aoC.c l')=(l=l'):=(by grind [kL,amS])
theorem amR{x y:aW}:(aW.c x=aW.c y)=(x=y):=by apply aPo;constructor;intro h;(cases x;cases y);simp only[aW.c,kO,AV.s.injEq,mW,mV,mX,aNG,aO5,aN8,mD,mF,mE,nz,nY,oN,pL,qJ,rY,td] at h;simp only[aW.mk.injEq,pz.ext_iff',aW.ext_iff',I5.ext_iff',bm1];exact h;intro h;rw[h]
def uz{l l'}:(sl aW.c l=sl aW.c l')=(l=l'):=(by grind [kL,amR])
theorem amQ{x y:I5}:(I5.c x=I5.c y)=(x=y):=by apply aPo;constructor;intro h;(cases x;cases y);simp only[I5.c,kO,AV.s.injEq,mW,mV,mX,aNG,aO5,aN8,mD,mF,mE,nz,nY,oN,pL,qJ,rY,td,uz] at h;simp only[I5.mk.injEq,pz.ext_iff',aW.ext_iff',I5.ext_iff',bm1];exact h;intro h;rw[h]
def wq{l l'}:(sl I5.c l=sl I5.c l')=(l=l'):=(by grind [kL,amQ])
theorem amK{x y:aP}:(aP.c x=aP.c y)=(x=y):=by apply aPo;constructor;intro h;(cases x;cases y);simp only[aP.c,kO,AV.s.injEq,mW,mV,mX,aNG,aO5,aN8,mD,mF,mE,nz,nY,oN,pL,qJ,rY,td,uz,wq] at h;simp only[aP.mk.injEq,pz.ext_iff',aW.ext_iff',I5.ext_iff',bm1];exact h;intro h;rw[h]
def yb{l l'}:(sl aP.c l=sl aP.c l')=(l=l'):=(by grind [kL,amK])
theorem bo0{x y:am}:(am.c x=am.c y)=(x=y):=by apply aPo;constructor;intro h;(cases x;cases y);simp only[am.c,kO,AV.s.injEq,mW,mV,mX,aNG,aO5,aN8,mD,mF,mE,nz,nY,oN,pL,qJ,rY,td,uz,wq,yb] at h;simp only[am.mk.injEq,pz.ext_iff',aW.ext_iff',I5.ext_iff',bm1];exact h;intro h;rw[h]
def AE{l l'}:(sl am.c l=sl am.c l')=(l=l'):=(by grind [kL,bo0])
theorem amM{x y:cJ}:(cJ.c x=cJ.c y)=(x=y):=by apply aPo;constructor;intro h;(cases x;cases y);simp only[cJ.c,kO,AV.s.injEq,mW,mV,mX,aNG,aO5,aN8,mD,mF,mE,nz,nY,oN,pL,qJ,rY,td,uz,wq,yb,AE] at h;simp only[cJ.mk.injEq,pz.ext_iff',aW.ext_iff',I5.ext_iff',bm1];exact h;intro h;rw[h]
def DS{l l'}:(sl cJ.c l=sl cJ.c l')=(l=l'):=(by grind [kL,amM])
theorem amT{x y:aH8}:(aH8.c x=aH8.c y)=(x=y):=by apply aPo;constructor;intro h;(cases x;cases y);simp only[aH8.c,kO,AV.s.injEq,mW,mV,mX,aNG,aO5,aN8,mD,mF,mE,nz,nY,oN,pL,qJ,rY,td,uz,wq,yb,AE,DS] at h;simp only[aH8.mk.injEq,pz.ext_iff',aW.ext_iff',I5.ext_iff',bm1];exact h;intro h;rw[h]
def bcT{l l'}:(sl aH8.c l=sl aH8.c l')=(l=l'):=(by grind [kL,amT])
theorem amJ{x y:bqR}:(bqR.c x=bqR.c y)=(x=y):=by apply aPo;constructor;intro h;(cases x;cases y);simp only[bqR.c,kO,AV.s.injEq,mW,mV,mX,aNG,aO5,aN8,mD,mF,mE,nz,nY,oN,pL,qJ,rY,td,uz,wq,yb,AE,DS,bcT] at h;simp only[bqR.mk.injEq,pz.ext_iff',aW.ext_iff',I5.ext_iff',bm1];exact h;intro h;rw[h]
def amW{l l'}:(sl bqR.c l=sl bqR.c l')=(l=l'):=(by grind [kL,amJ])
def amL{x y:br6}:(br6.c x=br6.c y)=(x=y):=by apply aPo;constructor;intro h;(cases x;cases y);simp only[br6.c,kO,AV.s.injEq,mW,mV,mX,aNG,aO5,aN8,mD,mF,mE,nz,nY,oN,pL,qJ,rY,td,uz,wq,yb,AE,DS,bcT,amW] at h;simp only[br6.mk.injEq,pz.ext_iff',aW.ext_iff',I5.ext_iff',bm1];exact h;intro h;rw[h]
def amV:=ai @aN8<|ai @mD<|ai @mF<|ai @mE<|ai @nz<|ai @nY<|ai @oN<|ai @pL<|ai @amU<|ai @rY<|ai @amS<|ai @td<|ai @amR<|ai @uz<|ai @amQ<|ai @amK<|ai @yb<|ai @bo0<|ai @amM<|ai @amT<|ai @bcT<|@amL
def aGq{x}:aN J (cA.c x)=V (st x.name):=rfl
def aGr{x}:aN J ((cA.c x).drop 1)=V (iv x.index):=rfl
def aGs{x}:aN J ((cA.c x).drop 2)=V (iv x.size):=rfl
def aGt{x}:aN J ((cA.c x).drop 3)=V (bv x.vol):=rfl
def aGu{x}:aN J ((cA.c x).drop 4)=V (iv x.init):=rfl
def aGv{x}:aN (V 5) (cA.c x)=V (.a<|cA.c x):=rfl
def aG0{x}:aN J (dS.c x)=V (st x.name):=rfl
def aG1{x}:aN J ((dS.c x).drop 1)=V (bv x.rw):=rfl
def aG2{x}:aN (V 2) (dS.c x)=V (.a<|dS.c x):=rfl
def aGy{x}:aN J (aPI.c x)=V (st x.name):=rfl
def aGz{x}:aN J ((aPI.c x).drop 1)=V (iv x.eg):=rfl
def aGA{x}:aN (V 2) (aPI.c x)=V (.a<|aPI.c x):=rfl
def aG6{x}:aN J (dL.c x)=V (iv x.aq):=rfl
def aG7{x}:aN J ((dL.c x).drop 1)=V (iv x.stmt):=rfl
def aG9{x}:aN (V 3) (dL.c x)=V (.a<|dL.c x):=rfl
def aHP{x}:aN J (pz.c x)=V (sl cA.c x.cells):=rfl
def aHQ{x}:aN J ((pz.c x).drop 1)=V (sl dS.c x.ak):=rfl
def aHR{x}:aN J ((pz.c x).drop 2)=V (sl aPI.c x.bC):=rfl
def aHS{x}:aN J ((pz.c x).drop 3)=V (sl cs x.bU):=rfl
def aHT{x}:aN J ((pz.c x).drop 4)=V (sl cs x.ay):=rfl
def aHU{x}:aN J ((pz.c x).drop 5)=V (sl dL.c x.dU):=rfl
def aHV{x}:aN (V 6) (pz.c x)=V (.a<|pz.c x):=rfl
def aG3{x}:aN J (cg.c x)=V (iv x.aNN):=rfl
def aG4{x}:aN J ((cg.c x).drop 1)=V (sl ci x.bk):=rfl
def aG5{x}:aN (V 2) (cg.c x)=V (.a<|cg.c x):=rfl
def aHo{x}:aN J (aoC.c x)=V (iv x.cQ):=rfl
def aHp{x}:aN J ((aoC.c x).drop 1)=V (iv x.cond):=rfl
def aHq{x}:aN J ((aoC.c x).drop 2)=V (bv x.atomic):=rfl
def aHr{x}:aN (V 3) (aoC.c x)=V (.a<|aoC.c x):=rfl
def aHj{x}:aN J (aW.c x)=V (sl cg.c x.ak):=rfl
def aHk{x}:aN J ((aW.c x).drop 1)=V (iv x.tx):=rfl
def aHl{x}:aN J ((aW.c x).drop 2)=V (sl cb x.done):=rfl
def aHm{x}:aN J ((aW.c x).drop 3)=V (sl aoC.c x.ay):=rfl
def aHn{x}:aN (V 4) (aW.c x)=V (.a<|aW.c x):=rfl
def aHc{x}:aN J ((I5.c x).drop 2)=V (sl cb x.bW.done):=rfl
def aHd{x}:aN J ((I5.c x).drop 3)=V (sl aoC.c x.bW.ay):=rfl
def aHe{x}:aN J ((I5.c x).drop 4)=V (sl ci x.cells):=rfl
def aHf{x}:aN J ((I5.c x).drop 5)=V (sl ci x.bU):=rfl
def aHg{x}:aN J ((I5.c x).drop 6)=V (sl ci x.count):=rfl
def aHh{x}:aN (V 7) (I5.c x)=V (.a<|I5.c x):=rfl
def aHi{x}:aN (V 4) (I5.c x)=V (.a<|aW.c x.bW):=rfl
def aGG{x}:aN J (aP.c x)=V (iv x.aq):=rfl
def aGH{x}:aN J ((aP.c x).drop 1)=V (iv x.kind):=rfl
def aGI{x}:aN J ((aP.c x).drop 2)=V (iv x.bF):=rfl
def aGJ{x}:aN J ((aP.c x).drop 3)=V (iv x.value):=rfl
def aGK{x}:aN J ((aP.c x).drop 4)=V (iv x.site):=rfl
def aGL{x}:aN J ((aP.c x).drop 5)=V (sl ci x.dI):=rfl
def aGM{x}:aN J ((aP.c x).drop 6)=V (sl ci x.ep):=rfl
def aGN{x}:aN (V 7) (aP.c x)=V (.a<|aP.c x):=rfl
def aHw{x}:aN J (am.c x)=V (sl cA.c x.aQ.cells):=rfl
def aHx{x}:aN J ((am.c x).drop 1)=V (sl dS.c x.aQ.ak):=rfl
def aHD{x}:aN J ((am.c x).drop 2)=V (sl aPI.c x.aQ.bC):=rfl
def aHF{x}:aN J ((am.c x).drop 4)=V (sl cs x.aQ.ay):=rfl
def aHH{x}:aN J ((am.c x).drop 6)=V (iv x.start):=rfl
def aHI{x}:aN J ((am.c x).drop 7)=V (sl cg.c x.init.bW.ak):=rfl
def aHJ{x}:aN J ((am.c x).drop 8)=V (iv x.init.bW.tx):=rfl
def aHK{x}:aN J ((am.c x).drop 9)=V (sl cb x.init.bW.done):=rfl
def aHy{x}:aN J ((am.c x).drop 10)=V (sl aoC.c x.init.bW.ay):=rfl
def aHz{x}:aN J ((am.c x).drop 11)=V (sl ci x.init.cells):=rfl
def aHA{x}:aN J ((am.c x).drop 12)=V (sl ci x.init.bU):=rfl
def aHB{x}:aN J ((am.c x).drop 13)=V (sl ci x.init.count):=rfl
def aHC{x}:aN J ((am.c x).drop 14)=V (sl aP.c x.ac):=rfl
def aHN{x}:aN (V 15) (am.c x)=V (.a<|am.c x):=rfl
def aHO{x}:aN (V 6) (am.c x)=V (.a<|pz.c x.aQ):=rfl
def aHL{x}:aN (V 7) ((am.c x).drop 7)=V (.a<|I5.c x.init):=rfl
def aHM{x}:aN (V 4) ((am.c x).drop 7)=V (.a<|aW.c x.init.bW):=rfl
def aGT{x}:aN J (cJ.c x)=V (iv x.kind):=rfl
def aGU{x}:aN J ((cJ.c x).drop 1)=V (iv x.ea):=rfl
def aGV{x}:aN J ((cJ.c x).drop 2)=V (iv x.eb):=rfl
def aGW{x}:aN J ((cJ.c x).drop 3)=V (iv x.ec):=rfl
def aGX{x}:aN J ((cJ.c x).drop 4)=V (iv x.ed):=rfl
def aGY{x}:aN J ((cJ.c x).drop 5)=V (sl ci x.cW):=rfl
def aGZ{x}:aN (V 6) (cJ.c x)=V (.a<|cJ.c x):=rfl
def aHs{x}:aN J (aH8.c x)=V (iv x.kind):=rfl
def aHt{x}:aN J ((aH8.c x).drop 1)=V (iv x.a):=rfl
def aHu{x}:aN J ((aH8.c x).drop 2)=V (iv x.b):=rfl
def aHv{x}:aN (V 3) (aH8.c x)=V (.a<|aH8.c x):=rfl
def aGC{x}:aN J (bqR.c x)=V (iv x.x):=rfl
def aGD{x}:aN J ((bqR.c x).drop 1)=V (iv x.y):=rfl
def aGE{x}:aN J ((bqR.c x).drop 2)=V (iv x.k):=rfl
def aGF{x}:aN (V 3) (bqR.c x)=V (.a<|bqR.c x):=rfl
def aGO{x}:aN J (br6.c x)=V (iv x.ints):=rfl
def aGP{x}:aN J ((br6.c x).drop 1)=V (iv x.bools):=rfl
def aGQ{x}:aN J ((br6.c x).drop 2)=V (sl bqR.c x.lL):=rfl
def aGR{x}:aN J ((br6.c x).drop 3)=V (sl cl x.ug):=rfl
def aGw{x}:aN J (ci x)=V (iv x):=rfl
def aGp{x}:aN J (cb x)=V (bv x):=rfl
def aGB{x}:aN J (cs x)=V (st x):=rfl
def aC6{q Y cs}:Iy q Y (.q cs)=aN q cs:=rfl
def dd{l:dM}{a b}:(l.drop a).drop b=l.drop (a+b):=List.drop_drop
def zN{Y x}:dG Y (.a<|pz.c x)= .a (pz.c x):=rfl
def avI{Y x}:dG Y (.a<|aoC.c x)= .a (aoC.c x):=rfl
def avH{Y x}:dG Y (.a<|aW.c x)= .a (aW.c x):=rfl
def avG{Y x}:dG Y (.a<|I5.c x)= .a (I5.c x):=rfl
def CU{Y x}:dG Y (.a<|aP.c x)= .a (aP.c x):=rfl
def sH{Y x}:dG Y (.a<|am.c x)= .a (am.c x):=rfl
def Kl{Y x}:dG Y (.a<|cJ.c x)= .a (cJ.c x):=rfl
def avJ{Y x}:dG Y (.a<|aH8.c x)= .a (aH8.c x):=rfl
def ar:=ai @jM<|ai @jt<|ai @kU<|ai @tW<|ai @alg<|ai @CV<|ai @AL<|ai @Ql<|ai @QQ<|ai @gT<|ai @aNG<|ai @zN<|ai @avI<|ai @avH<|ai @avG<|ai @CU<|ai @sH<|ai @Kl<|@avJ
def rk:=ai @aGq<|ai @aGr<|ai @aGs<|ai @aGt<|ai @aGu<|ai @aGv<|ai @aG0<|ai @aG1<|ai @aG2<|ai @aGy<|ai @aGz<|ai @aGA<|ai @aG6<|ai @aG7<|ai @aG9<|ai @aHP<|ai @aHQ<|ai @aHR<|ai @aHS<|ai @aHT<|ai @aHU<|ai @aHV<|ai @aG3<|ai @aG4<|ai @aG5<|ai @aHo<|ai @aHp<|ai @aHq<|ai @aHr<|ai @aHj<|ai @aHk<|ai @aHl<|ai @aHm<|ai @aHn<|ai @aHc<|ai @aHd<|ai @aHe<|ai @aHf<|ai @aHg<|ai @aHh<|ai @aHi<|ai @aGG<|ai @aGH<|ai @aGI<|ai @aGJ<|ai @aGK<|ai @aGL<|ai @aGM<|ai @aGN<|ai @aHw<|ai @aHx<|ai @aHD<|ai @aHF<|ai @aHH<|ai @aHI<|ai @aHJ<|ai @aHK<|ai @aHy<|ai @aHz<|ai @aHA<|ai @aHB<|ai @aHC<|ai @aHN<|ai @aHO<|ai @aHL<|ai @aHM<|ai @aGT<|ai @aGU<|ai @aGV<|ai @aGW<|ai @aGX<|ai @aGY<|ai @aGZ<|ai @aHs<|ai @aHt<|ai @aHu<|ai @aHv<|ai @aGC<|ai @aGD<|ai @aGE<|ai @aGF<|ai @aGO<|ai @aGP<|ai @aGQ<|ai @aGR<|ai @aGw<|ai @aGp<|ai @aGB<|@aC6
def eQ:=ai @u0 @u1
def eS:=ai @eQ @aj
def eT:=ai @eS @rk
def vp{n k:Nat}(h:Q ((k:Int)<(n:Int))=U):aF n (k:Int):=dJ<|aL h
def axz{a b:AV}{l m:dM}:(a::l=b::m)=(a=b/\l=m):=by simp
def ass{A:Type}:(A->True)=True:=by simp
def asr{p:Prop}:(p->True)=True:=by simp
def ij:=ai @axz<|ai @AV.a.injEq<|ai @AV.s.injEq<|ai @mW<|ai @mV<|ai @mX<|ai @aNG<|ai @aO5<|ai @amV<|ai @ass<|@asr
abbrev H0(W:ae->Prop):Prop:=∀s:ae,L s=4096->(∀k,aZ s k=mO)->W s
abbrev H1(t n p:Nat)(c:dM)(W:be):Prop:=∀s:ae,L s=4096->box s (p,1)=V ⟨t,n,U,U,[c]⟩->(∀k,k≠p->aZ s k=mO)->W (.p (p,1) 0 0) s
abbrev H2(t n p:Nat)(c:dM)(e d a:Nat)(b:dM)(W:AV->be):Prop:=∀s:ae,L s=4096->box s (p,1)=V ⟨t,n,U,U,[c]⟩->box s (a,1)=V ⟨e,d,U,U,[b]⟩->(∀k,k≠p->k≠a->aZ s k=mO)->W (.p (p,1) 0 0) (.p (a,1) 0 0) s
section
variable{T:dO}(an:List<|Option<|eP×eP){f:Func}{fn:Nat}{xs:dM}{R:cC}
def z0{W:ae->Prop}(c:eJ T)(a:aS.funcs[fn]?=V f)(h:H0 W)(b:uM an f (L xs)=U:=by kernel_rfl)(d:ZF aS GG T an f xs R=W (ly f):=by kernel_rfl):Ct fn xs R:=uq ready c a b<|aND d<|h _ uB<|i8 _
def z1{t n p:Nat}{c:dM}{W:be}(m:eJ T)(g:aS.funcs[fn]?=V f)(l:L c=n)(h:H1 t n p c W)(j:uM an f (L xs)=U:=by kernel_rfl)(b:Q (p<4096/\0<n)=U:=by exact rfl)(o:ZF aS GG T an f xs R=eV (bxA t n (ly f) p<|.a c) W:=by kernel_rfl):Ct fn xs R:=by have b:=aNQ b;refine uq ready m g j<|aND o ?_;refine mY (N:=4096) rfl l b.2 b.1 uB (by rw[i8]) λr q d s g0=>?_;exact h r q d (λk e=>by rw[g0 k e];exact i8 _ k)
def z2{t n p q d e:Nat}{c l:dM}{W:AV->be}(B:eJ T)(y:aS.funcs[fn]?=V f)(A:L c=n)(m:L l=d)(h:H2 t n p c q d e l W)(z:uM an f (L xs)=U:=by kernel_rfl)(b:Q ((p<4096/\0<n)/\(e<4096/\0<d)/\p≠e)=U:=by exact rfl)(C:ZF aS GG T an f xs R=eV (bxA t n (ly f) p<|.a c) λi s=>eV (bxA q d s e<|.a l) λj s=>W i j s:=by kernel_rfl):Ct fn xs R:=by obtain⟨b,g,o⟩:=aNQ b;refine uq ready B y z<|aND C ?_;refine mY (N:=4096) rfl A b.2 b.1 uB (by rw[i8]) λK D r H g0=>?_;refine mY (N:=4096) rfl m g.2 g.1 D (by rw[g0 _<|Sa o,i8]) λG E u v g1=>?_;exact h G E (by rw[v _ _ o];exact r) u (λk w x=>by rw[g1 k x,g0 k w];exact i8 _ k)
end
abbrev EB(fn:Nat)(xs:dM)(Y:ae)(R:be):Prop:=∃r a,R r a/\cZ aS GG fn xs Y r a
def zB{G:J7}{T:dO}(an:List<|Option<|eP×eP){f:Func}{fn:Nat}{xs:dM}{Y:ae}{R:be}{Q:Prop}(d:pq aS G T)(b:aS.funcs[fn]?=V f)(h:Q)(c:uM an f (L xs)=U:=by kernel_rfl)(e:ZB aS G T an f xs Y R=Q:=by kernel_rfl):∃r a,R r a/\cZ aS G fn xs Y r a:=aBe ready d b c<|aND e h
abbrev HB1(t n p:Nat)(c:dM)(Y:ae)(W:be):Prop:=∀(s:ae) (v:Nat),Kp Y s->(∀k,k≠p->aZ s k=aZ Y k)->(∀x,box Y (p,v)≠V x)->box s (p,v)=V ⟨t,n,U,U,[c]⟩->W (.p (p,v) 0 0) s
abbrev HB2(t n p:Nat)(c:dM)(e d a:Nat)(b:dM)(Y:ae)(W:AV->be):Prop:=∀(s:ae) (v v':Nat),Kp Y s->(∀k,k≠p->k≠a->aZ s k=aZ Y k)->(∀x,box Y (p,v)≠V x)->(∀x,box Y (a,v')≠V x)->box s (p,v)=V ⟨t,n,U,U,[c]⟩->box s (a,v')=V ⟨e,d,U,U,[b]⟩->W (.p (p,v) 0 0) (.p (a,v') 0 0) s
def zB1{G:J7}{T:dO}(an:List<|Option<|eP×eP){f:Func}{fn t n p:Nat}{xs c:dM}{Y:ae}{R W:be}(k:pq aS G T)(e:aS.funcs[fn]?=V f)(hs:L Y=4096)(j:L c=n)(h:HB1 t n p c Y W)(g:uM an f (L xs)=U:=by kernel_rfl)(b:Q (p<4096/\0<n)=U:=by exact rfl)(l:ZB aS G T an f xs Y R=eV (bxA t n Y p<|.a c) W:=by kernel_rfl):∃r d,R r d/\cZ aS G fn xs Y r d:=by have b:=aNQ b;exact aBe ready k e g<|aND l<|iN rfl j b.2 b.1 hs h
def zB2{G:J7}{T:dO}(an:List<|Option<|eP×eP){f:Func}{fn t n p w d l:Nat}{xs c e:dM}{Y:ae}{R:be}{W:AV->be}(H:pq aS G T)(B:aS.funcs[fn]?=V f)(hs:L Y=4096)(D:L c=n)(q:L e=d)(h:HB2 t n p c w d l e Y W)(C:uM an f (L xs)=U:=by kernel_rfl)(E:Q ((p<4096/\0<n)/\l<4096/\0<d)=U:=by exact rfl)(M:ZB aS G T an f xs Y R=eV (bxA t n Y p<|.a c) λi s=>eV (bxA w d s l<|.a e) λj s=>W i j s:=by kernel_rfl):∃r m,R r m/\cZ aS G fn xs Y r m:=by obtain⟨b,o⟩:=aNQ E;refine aBe ready H B C<|aND M ?_;refine iN rfl D b.2 b.1 hs λS v g g0 N y=>?_;refine iN rfl q o.2 o.1 (g.len.trans hs) λP v' u g1 O z=>?_;exact h P v v' (g.trans u) (λk A b=>(g1 k b).trans<|g0 k A) N (λx K=>O x<|g.keep _ _ K) (u.keep _ _ y) z
abbrev H3(t n p:Nat)(c:dM)(g d a:Nat)(b:dM)(u m q:Nat)(e:dM)(W:AV->AV->be):Prop:=∀s:ae,L s=4096->box s (p,1)=V ⟨t,n,U,U,[c]⟩->box s (a,1)=V ⟨g,d,U,U,[b]⟩->box s (q,1)=V ⟨u,m,U,U,[e]⟩->(∀k,k≠p->k≠a->k≠q->aZ s k=mO)->W (.p (p,1) 0 0) (.p (a,1) 0 0) (.p (q,1) 0 0) s
def z3{T:dO}(an:List<|Option<|eP×eP){f:Func}{fn t n p A g b u m q:Nat}{xs c o e:dM}{R:cC}{W:AV->AV->be}(P:eJ T)(H:aS.funcs[fn]?=V f)(M:L c=n)(y:L o=g)(O:L e=m)(h:H3 t n p c A g b o u m q e W)(K:uM an f (L xs)=U:=by kernel_rfl)(d:Q ((p<4096/\0<n)/\(b<4096/\0<g)/\(q<4096/\0<m)/\p≠b/\p≠q/\b≠q)=U:=by exact rfl)(S:ZF aS GG T an f xs R=eV (bxA t n (ly f) p<|.a c) λi s=>eV (bxA A g s b<|.a o) λj s=>eV (bxA u m s q<|.a e) λk s=>W i j k s:=by kernel_rfl):Ct fn xs R:=by obtain⟨d,l,z,v,w,x⟩:=aNQ d;refine uq ready P H K<|aND S ?_;refine mY (N:=4096) rfl M d.2 d.1 uB (by rw[i8]) λs2 q0 B f0 g0=>?_;refine mY (N:=4096) rfl y l.2 l.1 q0 (by rw[g0 _<|Sa v,i8]) λs3 q1 C E g1=>?_;refine mY (N:=4096) rfl O z.2 z.1 q1 (by rw[g1 _<|Sa x,g0 _<|Sa w,i8]) λs4 q2 D r G=>?_;exact h s4 q2 (by rw[r _ _ w,E _ _ v];exact B) (by rw[r _ _ x];exact C) D (λk X Z k2=>by rw[G k k2,g1 k Z,g0 k X];exact i8 _ k)
section
variable{i:Nat}(F:FT)
def BJ{a:dM}{v:AV}(k:Ct i (a) (·=v)):FT:=λys K=>ys=a/\K (v)
def al2{a:dM}{v:AV}(k:Ct i (a) (·=v))(c:F=BJ k:=by exact rfl)(Lw K:cC):fW F (a) Lw K=(Lw (v)/\K (v)):=by subst c;apply aPo;constructor;rintro⟨h,b⟩;exact b;intro h;exact⟨rfl,h⟩
def apM{a:dM}{v:AV}(k:Ct i (a) (·=v))(b:∀_:Unit,(a).all iX=U:=by intros;exact rfl):∀ys K,BJ k ys K->jz aS GG i ys K:=by rintro ys K ⟨rfl,h⟩;exact nX (k) (b ()) (λr c=>by rw[c];exact h)
def BK{a:dM}{b:cC}(k:Ct i (a)<|b):FT:=λys K=>ys=a/\∀r,b r->K r
def al3{a:dM}{b:cC}(k:Ct i (a)<|b)(d:F=BK k:=by exact rfl)(Lw K:cC):fW F (a) Lw K=(∀r,b r->Lw r/\K r):=by subst d;apply aPo;constructor;rintro⟨h,c⟩;exact c;intro h;exact⟨rfl,h⟩
def apN{a:dM}{d:cC}(k:Ct i (a)<|d)(b:∀_:Unit,(a).all iX=U:=by intros;exact rfl):∀ys K,BK k ys K->jz aS GG i ys K:=by rintro ys K ⟨rfl,h⟩;exact nX (k) (b ()) (λr c=>h r c)
def lH{A:Type}{b:A->dM}{v:A->AV}(k:∀a,Ct i (b a) (·=v a)):FT:=λys K=>∃a,ys=b a/\K (v a)
def np{A:Type}{b:A->dM}{v:A->AV}(k:∀a,Ct i (b a) (·=v a))(e:F=lH k:=by exact rfl)(j:∀a c,b a=b c->a=c:=by simp+contextual only[ij])(a:A)(Lw K:cC):fW F (b a) Lw K=(Lw (v a)/\K (v a)):=by subst e;apply aPo;constructor;rintro⟨c,h,d⟩;obtain rfl:=j _ _ h;exact d;intro h;exact⟨_,rfl,h⟩
def nH{A:Type}{b:A->dM}{v:A->AV}(k:∀a,Ct i (b a) (·=v a))(c:∀a,(b a).all iX=U:=by intros;exact rfl):∀ys K,lH k ys K->jz aS GG i ys K:=by rintro ys K ⟨a,rfl,h⟩;exact nX (k a) (c a) (λr d=>by rw[d];exact h)
def mT{A:Type}{b:A->dM}{c:A->Prop}{v:A->AV}(k:∀a,c a->Ct i (b a) (·=v a)):FT:=λys K=>∃a,ys=b a/\c a/\K (v a)
def oK{A:Type}{b:A->dM}{d:A->Prop}{v:A->AV}(k:∀a,d a->Ct i (b a) (·=v a))(g:F=mT k:=by exact rfl)(j:∀a c,b a=b c->a=c:=by simp+contextual only[ij])(a:A)(Lw K:cC):fW F (b a) Lw K=(d a/\Lw (v a)/\K (v a)):=by subst g;apply aPo;constructor;rintro⟨c,h,e⟩;obtain rfl:=j _ _ h;exact e;intro h;exact⟨_,rfl,h⟩
def pg{A:Type}{b:A->dM}{g:A->Prop}{v:A->AV}(k:∀a,g a->Ct i (b a) (·=v a))(c:∀a,(b a).all iX=U:=by intros;exact rfl):∀ys K,mT k ys K->jz aS GG i ys K:=by rintro ys K ⟨a,rfl,d,h⟩;exact nX (k a d) (c a) (λr e=>by rw[e];exact h)
def om{A:Type}{b:A->dM}{c:A->Prop}{d:A->cC}(k:∀a,c a->Ct i (b a) (d a)):FT:=λys K=>∃a,ys=b a/\c a/\∀r,d a r->K r
def aUy{A:Type}{b:A->dM}{d:A->Prop}{e:A->cC}(k:∀a,d a->Ct i (b a) (e a))(l:F=om k:=by exact rfl)(j:∀a c,b a=b c->a=c:=by simp+contextual only[ij])(a:A)(Lw K:cC):fW F (b a) Lw K=(d a/\∀r,e a r->Lw r/\K r):=by subst l;apply aPo;constructor;rintro⟨c,h,g⟩;obtain rfl:=j _ _ h;exact g;intro h;exact⟨_,rfl,h⟩
def rj{A:Type}{b:A->dM}{g:A->Prop}{j:A->cC}(k:∀a,g a->Ct i (b a) (j a))(c:∀a,(b a).all iX=U:=by intros;exact rfl):∀ys K,om k ys K->jz aS GG i ys K:=by rintro ys K ⟨a,rfl,d,h⟩;exact nX (k a d) (c a) (λr e=>h r e)
def lI{A B:Type}{c:A->B->dM}{v:A->B->AV}(k:∀a b,Ct i (c a b) (·=v a b)):FT:=λys K=>∃a b,ys=c a b/\K (v a b)
def nq{A B:Type}{c:A->B->dM}{v:A->B->AV}(k:∀a b,Ct i (c a b) (·=v a b))(l:F=lI k:=by exact rfl)(j:∀a b d e,c a b=c d e->a=d/\b=e:=by simp+contextual only[ij])(a:A)(b:B)(Lw K:cC):fW F (c a b) Lw K=(Lw (v a b)/\K (v a b)):=by subst l;apply aPo;constructor;rintro⟨d,e,h,g⟩;obtain⟨rfl,rfl⟩:=j _ _ _ _ h;exact g;intro h;exact⟨_,_,rfl,h⟩
def nI{A B:Type}{c:A->B->dM}{v:A->B->AV}(k:∀a b,Ct i (c a b) (·=v a b))(d:∀a b,(c a b).all iX=U:=by intros;exact rfl):∀ys K,lI k ys K->jz aS GG i ys K:=by rintro ys K ⟨a,b,rfl,h⟩;exact nX (k a b) (d a b) (λr e=>by rw[e];exact h)
def aIc{A B:Type}{c:A->B->dM}{d:A->B->Prop}{v:A->B->AV}(k:∀a b,d a b->Ct i (c a b) (·=v a b)):FT:=λys K=>∃a b,ys=c a b/\d a b/\K (v a b)
def gX{A B:Type}{c:A->B->dM}{g:A->B->Prop}{v:A->B->AV}(k:∀a b,g a b->Ct i (c a b) (·=v a b))(m:F=aIc k:=by exact rfl)(j:∀a b d e,c a b=c d e->a=d/\b=e:=by simp+contextual only[ij])(a:A)(b:B)(Lw K:cC):fW F (c a b) Lw K=(g a b/\Lw (v a b)/\K (v a b)):=by subst m;apply aPo;constructor;rintro⟨d,e,h,l⟩;obtain⟨rfl,rfl⟩:=j _ _ _ _ h;exact l;intro h;exact⟨_,_,rfl,h⟩
def aCb{A B:Type}{c:A->B->dM}{j:A->B->Prop}{v:A->B->AV}(k:∀a b,j a b->Ct i (c a b) (·=v a b))(d:∀a b,(c a b).all iX=U:=by intros;exact rfl):∀ys K,aIc k ys K->jz aS GG i ys K:=by rintro ys K ⟨a,b,rfl,e,h⟩;exact nX (k a b e) (d a b) (λr g=>by rw[g];exact h)
def pn{A B:Type}{c:A->B->dM}{d:A->B->Prop}{e:A->B->cC}(k:∀a b,d a b->Ct i (c a b) (e a b)):FT:=λys K=>∃a b,ys=c a b/\d a b/\∀r,e a b r->K r
def rQ{A B:Type}{c:A->B->dM}{g:A->B->Prop}{l:A->B->cC}(k:∀a b,g a b->Ct i (c a b) (l a b))(n:F=pn k:=by exact rfl)(j:∀a b d e,c a b=c d e->a=d/\b=e:=by simp+contextual only[ij])(a:A)(b:B)(Lw K:cC):fW F (c a b) Lw K=(g a b/\∀r,l a b r->Lw r/\K r):=by subst n;apply aPo;constructor;rintro⟨d,e,h,m⟩;obtain⟨rfl,rfl⟩:=j _ _ _ _ h;exact m;intro h;exact⟨_,_,rfl,h⟩
def aN0{A B:Type}{c:A->B->dM}{j:A->B->Prop}{l:A->B->cC}(k:∀a b,j a b->Ct i (c a b) (l a b))(d:∀a b,(c a b).all iX=U:=by intros;exact rfl):∀ys K,pn k ys K->jz aS GG i ys K:=by rintro ys K ⟨a,b,rfl,e,h⟩;exact nX (k a b e) (d a b) (λr g=>h r g)
def za{A B C:Type}{d:A->B->C->dM}{v:A->B->C->AV}(k:∀a b c,Ct i (d a b c) (·=v a b c)):FT:=λys K=>∃a b c,ys=d a b c/\K (v a b c)
def KP{A B C:Type}{d:A->B->C->dM}{v:A->B->C->AV}(k:∀a b c,Ct i (d a b c) (·=v a b c))(n:F=za k:=by exact rfl)(j:∀a b c e g l,d a b c=d e g l->a=e/\b=g/\c=l:=by simp+contextual only[ij])(a:A)(b:B)(c:C)(Lw K:cC):fW F (d a b c) Lw K=(Lw (v a b c)/\K (v a b c)):=by subst n;apply aPo;constructor;rintro⟨e,g,l,h,m⟩;obtain⟨rfl,rfl,rfl⟩:=j _ _ _ _ _ _ h;exact m;intro h;exact⟨_,_,_,rfl,h⟩
def Rs{A B C:Type}{d:A->B->C->dM}{v:A->B->C->AV}(k:∀a b c,Ct i (d a b c) (·=v a b c))(e:∀a b c,(d a b c).all iX=U:=by intros;exact rfl):∀ys K,za k ys K->jz aS GG i ys K:=by rintro ys K ⟨a,b,c,rfl,h⟩;exact nX (k a b c) (e a b c) (λr g=>by rw[g];exact h)
def qe{A B C:Type}{d:A->B->C->dM}{e:A->B->C->Prop}{v:A->B->C->AV}(k:∀a b c,e a b c->Ct i (d a b c) (·=v a b c)):FT:=λys K=>∃a b c,ys=d a b c/\e a b c/\K (v a b c)
def sT{A B C:Type}{d:A->B->C->dM}{m:A->B->C->Prop}{v:A->B->C->AV}(k:∀a b c,m a b c->Ct i (d a b c) (·=v a b c))(o:F=qe k:=by exact rfl)(j:∀a b c e g l,d a b c=d e g l->a=e/\b=g/\c=l:=by simp+contextual only[ij])(a:A)(b:B)(c:C)(Lw K:cC):fW F (d a b c) Lw K=(m a b c/\Lw (v a b c)/\K (v a b c)):=by subst o;apply aPo;constructor;rintro⟨e,g,l,h,n⟩;obtain⟨rfl,rfl,rfl⟩:=j _ _ _ _ _ _ h;exact n;intro h;exact⟨_,_,_,rfl,h⟩
def tE{A B C:Type}{d:A->B->C->dM}{l:A->B->C->Prop}{v:A->B->C->AV}(k:∀a b c,l a b c->Ct i (d a b c) (·=v a b c))(e:∀a b c,(d a b c).all iX=U:=by intros;exact rfl):∀ys K,qe k ys K->jz aS GG i ys K:=by rintro ys K ⟨a,b,c,rfl,g,h⟩;exact nX (k a b c g) (e a b c) (λr j=>by rw[j];exact h)
def vn{A B C:Type}{d:A->B->C->dM}{e:A->B->C->Prop}{g:A->B->C->cC}(k:∀a b c,e a b c->Ct i (d a b c) (g a b c)):FT:=λys K=>∃a b c,ys=d a b c/\e a b c/\∀r,g a b c r->K r
def zZ{A B C:Type}{d:A->B->C->dM}{m:A->B->C->Prop}{n:A->B->C->cC}(k:∀a b c,m a b c->Ct i (d a b c) (n a b c))(p:F=vn k:=by exact rfl)(j:∀a b c e g l,d a b c=d e g l->a=e/\b=g/\c=l:=by simp+contextual only[ij])(a:A)(b:B)(c:C)(Lw K:cC):fW F (d a b c) Lw K=(m a b c/\∀r,n a b c r->Lw r/\K r):=by subst p;apply aPo;constructor;rintro⟨e,g,l,h,o⟩;obtain⟨rfl,rfl,rfl⟩:=j _ _ _ _ _ _ h;exact o;intro h;exact⟨_,_,_,rfl,h⟩
def By{A B C:Type}{d:A->B->C->dM}{l:A->B->C->Prop}{m:A->B->C->cC}(k:∀a b c,l a b c->Ct i (d a b c) (m a b c))(e:∀a b c,(d a b c).all iX=U:=by intros;exact rfl):∀ys K,vn k ys K->jz aS GG i ys K:=by rintro ys K ⟨a,b,c,rfl,g,h⟩;exact nX (k a b c g) (e a b c) (λr j=>h r j)
def ER{A B C D:Type}{e:A->B->C->D->dM}{g:A->B->C->D->Prop}{h:A->B->C->D->cC}(k:∀a b c d,g a b c d->Ct i (e a b c d) (h a b c d)):FT:=λys K=>∃a b c d,ys=e a b c d/\g a b c d/\∀r,h a b c d r->K r
def axQ{A B C D:Type}{e:A->B->C->D->dM}{o:A->B->C->D->Prop}{p:A->B->C->D->cC}(k:∀a b c d,o a b c d->Ct i (e a b c d) (p a b c d))(s:F=ER k:=by exact rfl)(j:∀a b c d g l m n,e a b c d=e g l m n->a=g/\b=l/\c=m/\d=n:=by simp+contextual only[ij])(a:A)(b:B)(c:C)(d:D)(Lw K:cC):fW F (e a b c d) Lw K=(o a b c d/\∀r,p a b c d r->Lw r/\K r):=by subst s;apply aPo;constructor;rintro⟨g,l,m,n,h,q⟩;obtain⟨rfl,rfl,rfl,rfl⟩:=j _ _ _ _ _ _ _ _ h;exact q;intro h;exact⟨_,_,_,_,rfl,h⟩
def aM6{A B C D:Type}{e:A->B->C->D->dM}{m:A->B->C->D->Prop}{n:A->B->C->D->cC}(k:∀a b c d,m a b c d->Ct i (e a b c d) (n a b c d))(g:∀a b c d,(e a b c d).all iX=U:=by intros;exact rfl):∀ys K,ER k ys K->jz aS GG i ys K:=by rintro ys K ⟨a,b,c,d,rfl,j,h⟩;exact nX (k a b c d j) (g a b c d) (λr l=>h r l)
def bpg{A B C D E:Type}{g:A->B->C->D->E->dM}{h:A->B->C->D->E->Prop}{v:A->B->C->D->E->AV}(k:∀a b c d e,h a b c d e->Ct i (g a b c d e) (·=v a b c d e)):FT:=λys K=>∃a b c d e,ys=g a b c d e/\h a b c d e/\K (v a b c d e)
def KQ{A B C D E:Type}{g:A->B->C->D->E->dM}{q:A->B->C->D->E->Prop}{v:A->B->C->D->E->AV}(k:∀a b c d e,q a b c d e->Ct i (g a b c d e) (·=v a b c d e))(s:F=bpg k:=by exact rfl)(j:∀a b c d e l m n o p,g a b c d e=g l m n o p->a=l/\b=m/\c=n/\d=o/\e=p:=by simp+contextual only[ij])(a:A)(b:B)(c:C)(d:D)(e:E)(Lw K:cC):fW F (g a b c d e) Lw K=(q a b c d e/\Lw (v a b c d e)/\K (v a b c d e)):=by subst s;apply aPo;constructor;rintro⟨l,m,n,o,p,h,r⟩;obtain⟨rfl,rfl,rfl,rfl,rfl⟩:=j _ _ _ _ _ _ _ _ _ _ h;exact r;intro h;exact⟨_,_,_,_,_,rfl,h⟩
def Rt{A B C D E:Type}{g:A->B->C->D->E->dM}{n:A->B->C->D->E->Prop}{v:A->B->C->D->E->AV}(k:∀a b c d e,n a b c d e->Ct i (g a b c d e) (·=v a b c d e))(j:∀a b c d e,(g a b c d e).all iX=U:=by intros;exact rfl):∀ys K,bpg k ys K->jz aS GG i ys K:=by rintro ys K ⟨a,b,c,d,e,rfl,l,h⟩;exact nX (k a b c d e l) (j a b c d e) (λr m=>by rw[m];exact h)
def BL{A B C D E G:Type}{h:A->B->C->D->E->G->dM}{j:A->B->C->D->E->G->Prop}{l:A->B->C->D->E->G->cC}(k:∀a b c d e g,j a b c d e g->Ct i (h a b c d e g) (l a b c d e g)):FT:=λys K=>∃a b c d e g,ys=h a b c d e g/\j a b c d e g/\∀r,l a b c d e g r->K r
def al4{A B C D E G:Type}{l:A->B->C->D->E->G->dM}{t:A->B->C->D->E->G->Prop}{u:A->B->C->D->E->G->cC}(k:∀a b c d e g,t a b c d e g->Ct i (l a b c d e g) (u a b c d e g))(w:F=BL k:=by exact rfl)(j:∀a b c d e g m n o p q s,l a b c d e g=l m n o p q s->a=m/\b=n/\c=o/\d=p/\e=q/\g=s:=by simp+contextual only[ij])(a:A)(b:B)(c:C)(d:D)(e:E)(g:G)(Lw K:cC):fW F (l a b c d e g) Lw K=(t a b c d e g/\∀r,u a b c d e g r->Lw r/\K r):=by subst w;apply aPo;constructor;rintro⟨m,n,o,p,q,s,h,v⟩;obtain⟨rfl,rfl,rfl,rfl,rfl,rfl⟩:=j _ _ _ _ _ _ _ _ _ _ _ _ h;exact v;intro h;exact⟨_,_,_,_,_,_,rfl,h⟩
def apO{A B C D E G:Type}{j:A->B->C->D->E->G->dM}{o:A->B->C->D->E->G->Prop}{p:A->B->C->D->E->G->cC}(k:∀a b c d e g,o a b c d e g->Ct i (j a b c d e g) (p a b c d e g))(l:∀a b c d e g,(j a b c d e g).all iX=U:=by intros;exact rfl):∀ys K,BL k ys K->jz aS GG i ys K:=by rintro ys K ⟨a,b,c,d,e,g,rfl,m,h⟩;exact nX (k a b c d e g m) (l a b c d e g) (λr n=>h r n)
end
abbrev btw:dM:=[iv 0,iv 0,iv 0]
abbrev btY:dM:=[iv 0,iv 0,bv I]
abbrev bu0:dM:=[iv 0,iv 0]
abbrev btZ:dM:=[sv [],iv 0,iv 0,bv I,iv 0]
abbrev bt0:dM:=[sv [],bv I]
abbrev bt1:dM:=[sv [],iv 0]
abbrev bt2:dM:=[iv 0,iv 0,iv 0]
abbrev bu1:dM:=[iv 0,.l [] I I]
abbrev yW:dM:=[iv 0]
abbrev bu2:dM:=[iv 0,iv 0,iv 0,bv I]
abbrev bu3:dM:=[iv 0,iv 0,iv 0,bv I]
abbrev bu4:dM:=[iv 0,.l [] I I]
abbrev bnD:dM:=[iv 0,.l [] I I,.l [] I I,iv 0]
abbrev bt3:dM:=[sv [],iv 0,.l [] I I,.l [] I I]
abbrev bu5:dM:=[iv 0,iv 0,iv 0,iv 0,iv 0,iv 0]
abbrev btx:dM:=[iv 0,iv 0,sv [],.l [] I I]
abbrev brU:dM:=[iv 0,iv 0,sv [],sv [],.l [] I I,iv 0,iv 0,sv [],.l [] I I,.l [] I I,.l [] I I]
abbrev bH:dM:=[iv 0]
abbrev bwa:dM:=[iv 0,iv 0,sv [],iv 0,iv 0,sv []]
abbrev ap5:dM:=[.l [] I I]
abbrev bnE:dM:=[.l [] I I,iv 0,.l [] I I,.l [] I I]
abbrev aYp:dM:=[.l [] I I]
abbrev BD:dM:=[bv I]
abbrev a72:dM:=[.l [] I I,.l [] I I,.l [] I I,.l [] I I,.l [] I I,.l [] I I,iv 0,.l [] I I,iv 0,.l [] I I,.l [] I I,.l [] I I,.l [] I I,.l [] I I,.l [] I I]
abbrev bt4:dM:=[iv 0,iv 0,iv 0,iv 0,iv 0,.l [] I I]
abbrev bt5:dM:=[iv 0,iv 0,iv 0,iv 0,iv 0,.l [] I I,.l [] I I]
abbrev bt6:dM:=[iv 0,iv 0,iv 0]
abbrev zd9:dM:=[sv []]
abbrev br8:dM:=[iv 0,iv 0,iv 0]
abbrev bt9:dM:=[.l [] U U,iv 0]
abbrev aOO:dM:=[.l [] U U,iv 0,.l [] U U,.l [] U U,.l [] U U,.l [] U U,.l [] U U]
abbrev tH:dM:=[.l [] U U,.l [] U U,.l [] U U,.l [] U U,.l [] U U,.l [] U U,.l [] U U]
abbrev btz:dM:=[iv 0,iv 0,bv I]
abbrev bs3:dM:=[.l [] U U,.l [] U U,.l [] U U,.l [] U U,.l [] U U,.l [] U U,iv 0,.l [] U U,iv 0,.l [] U U,.l [] U U,.l [] U U,.l [] U U,.l [] U U,.l [] U U,.l [] U U]
abbrev aN7:dM:=[.l [] U U,.l [] U U,.l [] U U,.l [] U U,.l [] U U,.l [] U U,iv 0,.l [] U U,iv 0,.l [] U U,.l [] U U,.l [] U U,.l [] U U,.l [] U U,.l [] U U,.l [] U U,.s<|.map J,.l [] U U,.l [] U U,.l [] U U]
abbrev rq:dM:=[.l [] U U,.l [] U U,.l [] U U,.l [] U U,.l [] U U,.l [] U U,iv 0,.l [] U U,iv 0,.l [] U U,.l [] U U,.l [] U U,.l [] U U,.l [] U U,.l [] U U,.l [] U U,.l [] U U]
abbrev bu7:dM:=[iv 0,iv 0]
abbrev bsT:dM:=[sv [],iv 0,iv 0,bv I,iv 0]
abbrev btf:dM:=[sv [],bv I]
abbrev bua:dM:=[sv [],iv 0]
abbrev bub:dM:=[iv 0,iv 0,iv 0]
abbrev btg:dM:=[iv 0,.l [] U U]
abbrev aoD:dM:=[.l [] U U,.l [] U U]
abbrev EN:dM:=[iv 0]
abbrev bwb:dM:=[.l [] U U,.l [] U U]
abbrev bth:dM:=[iv 0,iv 0,iv 0,bv I]
abbrev bu8:dM:=[iv 0,iv 0,iv 0,bv I]
abbrev bnF:dM:=[iv 0,.l [] U U]
abbrev aoB:dM:=[iv 0,.l [] U U,.l [] U U,iv 0]
abbrev buc:dM:=[sv [],iv 0,.l [] U U,.l [] U U]
abbrev bu9:dM:=[.l [] U U,.l [] U U,.l [] U U,.l [] U U,.l [] U U,.l [] U U,.l [] U U,.l [] U U,iv 0,iv 0]
abbrev bs4:dM:=[iv 0,iv 0,iv 0,iv 0,iv 0,iv 0]
abbrev bva:dM:=[.s<|.pointer J,iv 0,iv 0,bv I,bv I,bv I,bv I,.l [] U U]
abbrev bti:dM:=[iv 0,iv 0,sv [],.l [] U U]
abbrev brN:dM:=[iv 0,iv 0,sv [],sv [],.l [] U U,iv 0,iv 0,sv [],.l [] U U,.l [] U U,.l [] U U]
abbrev fB:dM:=[iv 0]
abbrev bvb:dM:=[.l [] U U,.l [] U U,iv 0,.l [] U U,.l [] U U,.l [] U U]
abbrev bwc:dM:=[iv 0,iv 0,sv [],iv 0,iv 0,sv []]
abbrev aRc:dM:=[.l [] U U,.l [] U U,.l [] U U,.l [] U U,.l [] U U,.l [] U U]
abbrev bwd:dM:=[bv I,bv I]
abbrev aNC:dM:=[.l [] U U,iv 0,.l [] U U,.l [] U U]
abbrev bhN:dM:=[.l [] U U]
abbrev BE:dM:=[bv I]
abbrev BF:dM:=[.l [] U U,iv 0,.l [] U U,.l [] U U,.l [] U U,.l [] U U,.l [] U U]
abbrev aOQ:dM:=[.l [] U U,.l [] U U,.l [] U U,.l [] U U,.l [] U U,.l [] U U,iv 0,.l [] U U,iv 0,.l [] U U,.l [] U U,.l [] U U,.l [] U U,.l [] U U,.l [] U U]
abbrev btk:dM:=[iv 0,iv 0,iv 0,iv 0,iv 0,.l [] U U]
abbrev bud:dM:=[iv 0,iv 0,.l [] U U,.l [] U U]
abbrev brx:dM:=[iv 0,iv 0,iv 0,iv 0,iv 0,.l [] U U,.l [] U U]
abbrev bs5:dM:=[.l [] U U,.l [] U U,.l [] U U,.l [] U U,.l [] U U,.l [] U U,.l [] U U]
abbrev bue:dM:=[iv 0,iv 0,iv 0]
abbrev zz9:dM:=[sv []]
def ZT:List (Nat×dM):=[(107,br8),(117,bt9),(124,aOO),(129,tH),(138,btz),(147,bs3),(157,aN7),(162,rq),(170,bu7),(175,bsT),(177,btf),(179,bua),(181,bub),(184,btg),(196,aoD),(2,EN),(216,bwb),(220,bth),(230,bu8),(247,bnF),(251,aoB),(258,buc),(260,bu9),(264,bs4),(268,bva),(272,bti),(274,brN),(3,fB),(305,bvb),(308,bwc),(31,aRc),(315,bwd),(36,aNC),(38,bhN),(4,BE),(40,BF),(43,aOQ),(49,btk),(54,bud),(62,brx),(75,bs5),(86,bue),(9,zz9)]
def ZD:List (Nat×dM):=[(107,btw),(138,btY),(170,bu0),(175,btZ),(177,bt0),(179,bt1),(181,bt2),(184,bu1),(2,yW),(220,bu2),(230,bu3),(247,bu4),(251,bnD),(258,bt3),(264,bu5),(272,btx),(274,brU),(3,bH),(308,bwa),(33,ap5),(36,bnE),(38,aYp),(4,BD),(43,a72),(49,bt4),(62,bt5),(86,bt6),(9,zd9)]
section
class Hd (α:Type) where v:α
noncomputable def qp{α}(n:Nat)[h:Hd α]:α:=h.v
def qz(n):(∀{α:Type} {f a},@qp (α->Prop) n ⟨f⟩ a=f a)/\(∀{α β:Type} {f a b},@qp (α->β->Prop) n ⟨f⟩ a b=f a b)/\(∀{α β e:Type} {f a b c},@qp (α->β->e->Prop) n ⟨f⟩ a b c=f a b c)/\∀{α β e g:Type} {f a b c d},@qp (α->β->e->g->Prop) n ⟨f⟩ a b c d=f a b c d:=⟨rfl,rfl,rfl,rfl⟩
noncomputable def qm{α}(n:Nat)(x:α):α:=x
def qy{α}(n){x}:@qp α n ⟨x⟩=x:=rfl
def bs7{α n x}:qm n x=@qp α n ⟨x⟩:=rfl
inductive RD
 |pk(c a b:AV)
 |ld(k:Option Nat)(Y:ae)(x:AV)
 |nl(Y:ae)(x:AV)
 |bi(o:BinOp)(c:Nat)(fs:List<|Nat×Nat)(x y:AV)
 |un(o:UnOp)(x:AV)
 |cv(k:Option IntKind)(x:AV)
 |fa(o:Nat)(Y:ae)(x:AV)
 |fl(o:Nat)(k:Option Nat)(x:AV)
 |ix(z:Nat)(Y:ae)(x i:AV)
 |ia(n z:Nat)(Y:ae)(x i:AV)
 |sx(x i:AV)
 |ax(n z:Nat)(k:Option Nat)(x i:AV)
 |ex(i:Nat)(x:AV)
 |lu(m:MT)(Y:ae)(x k:AV)(ok:Bool)
 |ss(x:AV)(a b c:Option AV)
 |sl(z:Nat)(Y:ae)(x:AV)(a b c:Option AV)
 |br(zs:dM)(z:Nat)(l:List<|Nat×AV)
 |bd(zs:dM)(p:List<|Nat×Nat)(l:List<|Nat×AV)
 |ln(Y:ae)(x:AV)
 |ls(x:AV)
 |cp(x:AV)
 |mm(o:Builtin)(x y:AV)
def RD.o:RD->Option AV| .pk c a b=>mL c a b| .ld k Y x=>Iy k Y x| .nl Y x=>cO Y x| .bi o c fs x y=>aTH o c fs x y| .un o x=>cR o x| .cv k x=>sO k x| .fa o Y x=>iQ o Y x| .fl o k x=>cK o k x| .ix z Y x i=>cz z Y x i| .ia n z Y x i=>wm n z Y x i| .sx x i=>sxA x i| .ax n z k x i=>sI n z k x i| .ex i x=>eO i x| .lu m Y x k d=>oP m Y x k d| .ss x a b c=>Q8 x a b c| .sl z Y x a b c=>fo z Y x a b c| .br zs z l=>tY zs z l| .bd zs p l=>bM zs p l| .ln Y x=>fS Y x| .ls x=>lsA x| .cp x=>cpA x| .mm o x y=>AO o x y
inductive ED
 |al(e:Nat)(zs:dM)(Y:ae)(d:Nat)
 |bx(e z:Nat)(Y:ae)(d:Nat)(x:AV)
 |lv(e:Nat)(zs:dM)(n:Nat)(Y:ae)(d:Nat)(l:List<|Nat×AV)
 |bs(zs:dM)(n:Nat)(Y:ae)(l:List<|Nat×AV)
 |mk(e:Nat)(zs:dM)(b:Nat)(Y:ae)(d:Nat)(l c:AV)
 |mm(t:Nat)(Y:ae)(d:Nat)
 |rg(Y:ae)(d:Nat)(x:AV)
 |nx(Y:ae)(x:AV)
 |ap(e:Nat)(zs:dM)(b:Nat)(Y:ae)(d:Nat)(s x:AV)
 |az(e:Nat)(zs:dM)(b:Nat)(Y:ae)(d:Nat)(s x:AV)
 |av(e:Nat)(zs:dM)(b:Nat)(Y:ae)(d:Nat)(s x:AV)
def ED.o:ED->Option (AV×ae)| .al e zs Y d=>alA e zs Y d| .bx e z Y d x=>bxA e z Y d x| .lv e zs n Y d l=>lvS e zs n Y d l| .bs zs n Y l=>aX zs n Y l| .mk e zs b Y d l c=>qO e zs b Y d l c| .mm t Y d=>oS t Y d| .rg Y d x=>tu Y d x| .nx Y x=>se Y x| .ap e zs b Y d s x=>apA e zs b Y d s x| .az e zs b Y d s x=>azA e zs b Y d s x| .av e zs b Y d s x=>avA e zs b Y d s x
inductive SD
 |st(z:Nat)(Y:ae)(x v:AV)
 |mu(m:MT)(Y:ae)(x k v:AV)
 |cl{z:Value}(Y:ae)(x:AV)
def SD.o:SD->Option ae| .st z Y x v=>aK z Y x v| .mu m Y x k v=>muA m Y x k v|@SD.cl z Y x=>pA z Y x
inductive LD
 |b(r:Bool)(xs:dM)(d:eP)
 |v(Y:ae)(x y:AV)
 |s(xs:dM)
 |c(r:Bool)(Y:ae)
 |f(g:AV)(xs:dM)(Y:ae)(d:Nat)
def LD.o:LD->fY| .b r xs d=>lb r xs d| .v Y x y=>lbV Y x y| .s xs=>Qh xs| .c r Y=>cq r Y| .f g xs Y d=>lbF GG g xs Y d
def cD(k:Nat)(fn:Nat)(xs:dM)(Y:ae)(d:Nat)(K:be):Prop:=match k with|0=>cB fn xs Y d K|1=>cV fn xs Y d K|_=>cN fn xs Y d K
inductive D
 |ff
 |kd(k:cC)(v:AV)
 |kE(k:be)(v:AV)(s:ae)
 |gR(b:Bool)(x:AV)(A:(cC)->D)(K:AV->D)
 |gE(b:Bool)(x:AV)(A:(be)->D)(Y:ae)(K:AV->ae->D)
 |r(o:RD)(K:AV->D)
 |fc{F:FT}(Y:ae)(xs:dM)(K:AV->D)
 |fx(fn:Nat)(Y:ae)(xs:dM)(K:AV->D)
 |e0(o:ED)(K:AV->ae->D)
 |e(t:Nat)(o:ED)(K:AV->ae->D)
 |s0(o:SD)(K:ae->D)
 |s(t:Nat)(o:SD)(K:ae->D)
 |c0(k fn:Nat)(xs:dM)(Y:ae)(d:Nat)(K:AV->ae->D)
 |c(t k fn:Nat)(xs:dM)(Y:ae)(d:Nat)(K:AV->ae->D)
 |cF(f:AV)(xs:dM)(Y:ae)(d:Nat)(K:AV->ae->D)
 |ap(l:List LD)(p:List<|Nat×Nat)(R:D)
 |ite(c:AV)(A B:D)
 |jV(n a b:Nat)(B:dM->ae->D)(A:(aG)->D)
 |jR(n a b:Nat)(B:dM->D)(A:(dM->Prop)->D)
 |J2(J:aG)(vs:dM)(s:ae)
 |J1(J:dM->Prop)(vs:dM)
 |I2(I:aG)(μ:bu)(x:dM)(s:ae)(vs:dM)(Y:ae)
 |I1(I:dM->Prop)(μ:dM->Nat)(x vs:dM)
 |al(f:Rg->D)
 |lV(t:Nat)(vs:dM)(Y:ae)(B:(aG)->(bu)->dM->ae->D)
 |lR(t:Nat)(vs:dM)(B:(dM->Prop)->(dM->Nat)->dM->D)
 |rt(R:cC)(Y:ae)(vs:dM)
 |rb(R:be)(Y:ae)(vs:dM)
def den:D->Prop| .ff=>False| .kd k v=>k v| .kE k v s=>k v s| .gR b x A K=>gR (gP b x) (λk=>den<|A k) λv=>den (K v)| .gE b x A Y K=>gE (gP b x) (λk=>den<|A k) Y λv s=>den (K v s)| .r o K=>rV o.o λv=>den (K v)|@D.fc F Y xs K=>fV F Y xs λv=>den (K v)| .fx fn Y xs K=>fV (cX fn) Y xs λv=>den (K v)| .e0 o K=>eV o.o λv s=>den (K v s)| .e t o K=>eV o.o (qm t λv s=>den<|K v s)| .s0 o K=>sV o.o λs=>den (K s)| .s t o K=>sV o.o (qm t λs=>den<|K s)| .c0 k fn xs Y d K=>cD k fn xs Y d λv s=>den (K v s)| .c t k fn xs Y d K=>cD k fn xs Y d (qm t λv s=>den<|K v s)| .cF f xs Y d K=>cF f xs Y d λv s=>den (K v s)| .ap l p R=>dH (l.map LD.o) p (den R)| .ite c A B=>ah c (den A) (den B)| .jV n a b B A=>jV n (qm a λvs s=>den<|B vs s) (qm b λh=>den<|A h)| .jR n a b B A=>jR n (qm a λvs=>den<|B vs) (qm b λh=>den<|A h)| .J2 h vs s=>h vs s| .J1 h vs=>h vs| .I2 g i x s vs Y=>g x s/\i x s<i vs Y| .I1 g i x vs=>g x/\i x<i vs| .al f=>∀j,den (f j)| .lV t vs Y B=>lV vs Y (qm t λg i vs Y=>den<|B g i vs Y)| .lR t vs B=>lR vs (qm t λg i vs=>den<|B g i vs)| .rt R Y vs=>aE R Y vs| .rb R Y vs=>aNR R Y vs
def zld{l:dM}:dM:=l
def zfd(t:Nat):List (Nat×dM)->dM|[]=>[]|(k,l)::r=>bif aOU t k then @zld l else zfd t r
abbrev zzd(t:Nat):dM:=zfd t ZT
abbrev zdd(t:Nat):dM:=zfd t ZD
def bqT{v:Value}:AV:= .s v
def ivd{n:Int}:AV:=iv n
def bvd{b:Bool}:AV:=bv b
def gld{l:dM}:AV:= .q l
def gtd(l:dM)(i:Nat):AV:=gt l i
def btj{l}:@zld l=l:=rfl
def bsH{v}:@bqT v= .s v:=rfl
def bsU{n}:@ivd n=iv n:=rfl
def bsG{b}:@bvd b=bv b:=rfl
def bvx{l}:@gld l= .q l:=rfl
def bsN{l i}:gtd l i=gt l i:=rfl
section
noncomputable abbrev PP:Program:=aS
noncomputable def kT(t:Nat):Option Nat:=(qK PP t).getD J
noncomputable def zT(t:Nat):Nat:=(fG PP t).getD 0
noncomputable def tyQ(t:Nat):Nat×List (Nat×Nat):=
 match PP.underlying t with
 |some .bool=>(1,[])
 |some (.struct fs)=>(match nk PP fs.toList with|some l=>(2,l)|none=>(0,[]))
 |_=>(0,[])
noncomputable def mpQ(t:Nat):Option MT:=
 match PP.underlying t with
 |some (.map k e)=>
  match(PP.info? e).bind (·.zero),PP.underlying k with
  |some z,some (.struct fs)=>(nk PP fs.toList).map λl=>⟨U,l,z⟩
  |some z,some .string=>V ⟨I,[],z⟩
  |some z,_=>V ⟨I,[(0,0)],z⟩
  |_,_=>J
 |_=>J
noncomputable def dE(G:J7)(c:Rg):Operand->AV
 | .tmp t=>c t
 | .const v=>match v with| .int .i64 n=>@ivd n| .bool b=>@bvd b| .agg l=> .a (l.toList.map λv=>match v with| .int .i64 n=>@ivd n| .bool b=>@bvd b| .slice .. => .l [] U U|v=>@bqT v)| .slice .. => .l [] U U|v=>@bqT v
 | .global g=>match G g with|some cs=>@gld cs|none=> .u
 | .func f=> .f f [] []
noncomputable def bsy(fn:Nat):dO->Option (Nat×FT)
 |[]=>J
 |p::T=>bif aOU fn p.1 then V p else bsy fn T
def ex(t:Nat)(o:ED)(K:AV->ae->D):D:=bif aOU t 0 then .e0 o K else .e t o K
def sx(t:Nat)(o:SD)(K:AV->ae->D):D:=bif aOU t 0 then .s0 o λs=>K (.t []) s else .s t o λs=>K (.t []) s
def cx(t k fn:Nat)(xs:dM)(Y:ae)(d:Nat)(K:AV->ae->D):D:=bif aOU t 0 then .c0 k fn xs Y d K else .c t k fn xs Y d K
noncomputable def zr(G:J7)(T:dO)(g:Rg)(Y:ae)(op:Op)(K:AV->D):D:=
 match op with
 | .move x=>K<|dE G g x
 | .assign x=>K<|dE G g x
 | .pick c a b=> .r (.pk (dE G g c) (dE G g a)<|dE G g b) K
 | .load t x=> .r (.ld (kT t) Y<|dE G g x) K
 | .nilCheck x=> .r (.nl Y<|dE G g x) K
 | .binOp op t x y _=> .r (.bi op (tyQ t).1 (tyQ t).2 (dE G g x)<|dE G g y) K
 | .unOp op _ x=> .r (.un op<|dE G g x) K
 | .convert s d x=>match KD PP s d with|some k=> .r (.cv k<|dE G g x) K|none=> .ff
 | .fieldAddr s x f=> .r (.fa ((KR PP s f).getD 0) Y<|dE G g x) K
 | .field t x f=>match QF PP t f with|some (a,k)=> .r (.fl a k<|dE G g x) K|none=> .ff
 | .indexAddr t x ix=>
  match PP.underlying t with
  |some (.slice e)=> .r (.ix (zT e) Y (dE G g x)<|dE G g ix) K
  |some (.array n e)=> .r (.ia n (zT e) Y (dE G g x)<|dE G g ix) K
  |_=> .ff
 | .index t x ix=>
  match PP.underlying t with
  |some .string=> .r (.sx (dE G g x)<|dE G g ix) K
  |some (.array n e)=> .r (.ax n (zT e) (kT e) (dE G g x)<|dE G g ix) K
  |_=> .ff
 | .extract x i=> .r (.ex i<|dE G g x) K
 | .lookup t x ix m=>match mpQ t with|some l=> .r (.lu l Y (dE G g x) (dE G g ix) m) K|none=> .ff
 | .slice t x lo j mx=>
  match PP.underlying t with
  |some .string=> .r (.ss (dE G g x) (lo.map<|dE G g) (j.map<|dE G g)<|mx.map<|dE G g) K
  |some (.slice e)=> .r (.sl (zT e) Y (dE G g x) (lo.map<|dE G g) (j.map<|dE G g)<|mx.map<|dE G g) K
  |_=> .ff
 | .makeFunc fn first cap=>match fn with| .func f=>K (.f f (first.toList.map (dE G g)) (cap.toList.map<|dE G g))|_=> .ff
 | .build t h=>
  match PP.underlying t with
  |some (.array n e)=> .r (.br (zzd t) (zT e)<|h.toList.map λp=>(p.1,dE G g p.2)) K
  |_=>match QG PP t with|some pl=> .r (.bd (zzd t) pl<|h.toList.map λp=>(p.1,dE G g p.2)) K|none=> .ff
 | .call c=>
  match c.callee with
  | .builtin .len=>
   match c.argTypes.toList,c.args.toList with
   |[t],[x]=>
    match PP.underlying t with
    |some (.slice _)=> .r (.ln Y<|dE G g x) K
    |some .string=> .r (.ls<|dE G g x) K
    |some (.array n _)=>K<|.s<|.int .i64 n
    |_=> .ff
   |_,_=> .ff
  | .builtin .cap=>match c.args.toList with|[x]=> .r (.cp<|dE G g x) K|_=> .ff
  | .builtin .min=>match c.args.toList with|[x,y]=> .r (.mm .min (dE G g x)<|dE G g y) K|_=> .ff
  | .builtin .max=>match c.args.toList with|[x,y]=> .r (.mm .max (dE G g x)<|dE G g y) K|_=> .ff
  | .value (.func fn)=>match bsy fn T with|some (_,F)=>@D.fc F Y (c.args.toList.map<|dE G g) K|none=> .fx fn Y (c.args.toList.map<|dE G g) K
  |_=> .ff
 |_=> .ff
noncomputable def ze(G:J7)(t:Nat)(a:Rg)(Y:ae)(d:Nat)(op:Op)(K:AV->ae->D):D:=
 match op with
 | .alloc e=>ex t (.al e (zzd e) Y d) K
 | .box e x=> .e0 (.bx e (zT e) Y d<|dE G a x) K
 | .buildSlice ty len b=>
  match PP.underlying ty with
  |some (.slice e)=>bif aPm PP ty then ex t (.lv e (zdd e) len Y d<|b.toList.map λp=>(p.1,dE G a p.2)) K else ex t (.bs (zdd e) len Y<|b.toList.map λp=>(p.1,dE G a p.2)) K
  |_=> .ff
 | .makeSlice ty l c=>
  match PP.underlying ty with
  |some (.slice e)=>ex t (.mk e (zdd e) (mZ PP e) Y d (dE G a l)<|dE G a c) K
  |_=> .ff
 | .store ty x v=>sx t (.st (zT ty) Y (dE G a x)<|dE G a v) K
 | .call c=>
  match c.callee with
  | .builtin .append=>
   match c.args.toList,c.argTypes.toList with
   |[s,x],[ty,h]=>
    match PP.underlying ty with
    |some (.slice e)=>bif aOU ty h then(bif aPm PP ty then ex t (.av e (zzd e) (mZ PP e) Y d (dE G a s)<|dE G a x) K else ex t (.ap e (zzd e) (mZ PP e) Y d (dE G a s)<|dE G a x) K) else ex t (.az e (zdd e) (mZ PP e) Y d (dE G a s)<|dE G a x) K
    |_=> .ff
   |_,_=> .ff
  | .builtin .clear=>
   match c.args.toList,c.argTypes.toList with
   |[x],[ty]=>match xD PP ty with|some z=>sx t (@SD.cl z Y<|dE G a x) K|none=> .ff
   |_,_=> .ff
  | .value f=>
   match f with
   | .func fn=>bif G.nw fn then cx t 2 fn (c.args.toList.map<|dE G a) Y d K else match(bif G.sv then G.fp fn else J) with|some _=>cx t 1 fn (c.args.toList.map<|dE G a) Y d K|none=>cx t 0 fn (c.args.toList.map<|dE G a) Y d K
   |f=> .cF (dE G a f) (c.args.toList.map<|dE G a) Y d K
  |_=> .ff
 | .makeMap ty r=>ex t (.mm ty Y d) K
 | .mapUpdate ty x k v=>match mpQ ty with|some g=>sx t (.mu g Y (dE G a x) (dE G a k)<|dE G a v) K|none=> .ff
 | .range ty x=>ex t (.rg Y d<|dE G a x) K
 | .next x st=>ex t (.nx Y<|dE G a x) K
 |_=> .ff
noncomputable def kq(K:Rg->ae->D)(a:Rg)(d:Option Nat)(v:AV)(Y:ae):D:=match d with|some d=>K (up a d v) Y|none=>K a Y
noncomputable def kw(K:Rg->ae->D)(a:Rg)(d:Option Nat)(s:Nat)(Y:ae):D:=match d with|some d=>K (mv a d s) Y|none=>K a Y
noncomputable def zo(G:J7)(T:dO)(ops:Array Oper)(o:Oper)(t:Nat)(K:Rg->ae->D)(a:Rg)(Y:ae):D:=
 match mvS o with
 |some s=>kw K a o.dst s Y
 |none=>
  match o.guard with
  |none=>bif iT G o.op then zr G T a Y o.op λv=>kq K a o.dst v Y else ze G t a Y (o.dst.getD 0) o.op λv s=>kq K a o.dst v s
  |some g=>
   match(ops[g.1]?).bind (·.dst) with
   |none=> .ff
   |some x=>bif iT G o.op then .gR g.2 (a x) (λk=>zr G T a Y o.op λv=> .kd k v) λv=>kq K a o.dst v Y else .gE g.2 (a x) (λk=>ze G 0 a Y (o.dst.getD 0) o.op λv s=> .kE k v s) Y λv s=>kq K a o.dst v s
noncomputable def zb(o:Oper):Bool:=match o.op with| .box _ _=>U|_=>I
noncomputable def zs(G:J7)(T:dO)(ops:Array Oper):List Oper->dM->Nat->(Rg->ae->D)->Rg->ae->D
 |[],_,_,K=>K
 |o::l,bs,b,K=>λc Y=>
  match bif zb o then bs else[] with
  |v::a=>zs G T ops l a (b+1) K (pu c o.dst v) Y
  |[]=>zo G T ops o (2*b+2) (zs G T ops l bs (bif iT G o.op then b else b+1) K) c Y
noncomputable def zl(G:J7)(a:Rg)(Y:ae)(d:Nat)(op:Op):LD:=
 match op with
 | .move _=> .b U [] []
 | .assign _=> .b U [] []
 | .store _ x v=>bif G.sv then .v Y (dE G a x) (dE G a v) else .b I (op.operands.toList.map<|dE G a) []
 | .buildSlice t _ _=> .b I (op.operands.toList.map<|dE G a)<|bif aPm PP t then[d] else[]
 | .call c=>
  match c.callee with
  | .value f=>
   match f with
   | .func fn=>bif G.nw fn then .b I (op.operands.toList.map<|dE G a) [d] else match(bif G.sv then G.fp fn else J) with|some l=> .b I [] l|none=>bif G.imp fn then .c (G.rd fn) Y else .s<|op.operands.toList.map<|dE G a
   |f=> .f (dE G a f) (c.args.toList.map<|dE G a) Y d
  |_=> .b (iT G op) (op.operands.toList.map<|dE G a)<|bif iT G op then[] else[d]
 |_=> .b (iT G op) (op.operands.toList.map<|dE G a)<|bif iT G op then[] else[d]
noncomputable def zy(G:J7)(T:dO)(ops:Array Oper):List Oper->dM->Nat->List LD->(List LD->Rg->ae->D)->Rg->ae->D
 |[],_,_,a,K=>K a
 |o::l,bs,b,a,K=>λc Y=>
  match bif zb o then bs else[] with
  |v::d=>zy G T ops l d (b+1) (zl G c Y (o.dst.getD 0) o.op::a) K (pu c o.dst v) Y
  |[]=>zo G T ops o (2*b+2) (zy G T ops l bs (bif iT G o.op then b else b+1) (zl G c Y (o.dst.getD 0) o.op::a) K) c Y
def frc{α}(n:Nat)(k:Nat->α):α:=match n with|0=>k 0|m+1=>k<|m+1
def msk(a:eP)(n:Nat):List Edge->Nat->Nat|[],s=>s|e::l,s=>msk a n l<|bif Region.binds .any e then s|||2^e.on|||a.getD (n-1-e.on) 0 else s
def prI(m j:Nat)(r:Bool):List Bool->Nat->List (Nat×Nat)->List (Nat×Nat)|[],_,R=>R|x::l,i,R=>bif Nat.ble j i then R else bif Nat.testBit m i||(x&&r) then prI m j r l (i+1) R else(i,j)::prI m j r l (i+1) R
def prJ(G:J7)(b:List Bool):List Oper->Nat->eP->List (Nat×Nat)|[],_,_=>[]|o::l,j,a=>frc (msk a j o.after.toList 0) λm=>prI m j (iT G o.op) b 0<|prJ G b l (j+1) (m::a)
def rvd:List LD->List LD->List LD|[],r=>r|x::l,r=>rvd l (x::r)
noncomputable def apx(a:List LD)(l:List<|Nat×Nat)(R:D):D:=match l with|[]=>R|_=> .ap a l R
abbrev QD:=Exit->Rg->ae->D
noncomputable def nE(G:J7):Code->Nat
 | .region _ ops _=>L (ops.toList.filter λo=>!iT G o.op)
 | .seq x y=>nE G x+nE G y
 | .cond _ x y=>nE G x+nE G y
 | .block _ c=>nE G c
 | .loop c=>nE G c
 |_=>0
noncomputable def QD.then(K:Rg->ae->D)(Q:QD):QD:=λe a Y=>match e with| .normal=>K a Y|e=>Q e a Y
noncomputable def QD.inBlock(b:Nat)(Q:QD):QD:=λe a Y=>match e with| .exit j=>bif aOU j b then Q .normal a Y else Q (.exit j) a Y|e=>Q e a Y
noncomputable def ovM(vs:dM)(d:AV)(k:Nat):eP->Nat->AV
 |[],_=>d
 |x::Lw,i=>bif aOU k x then gtd vs i else ovM vs d k Lw<|i+1
noncomputable def ow(b:Rg)(Lw a:eP)(vs:dM)(j:Rg):Rg:=λk=>ovM vs (bif a.elem k then b k else j k) k Lw 0
noncomputable def zc(G:J7)(T:dO)(an:List<|Option<|eP×eP):Code->dM->Nat->Nat->QD->Rg->ae->D
 | .skip,_,_,_,Q=>Q .normal
 | .label _,_,_,_,Q=>Q .normal
 | .region _ ops m,bs,_,b,Q=>bif m&&!rG G ops.toList then zy G T ops ops.toList bs b [] λk e Y=>apx (rvd k []) (prJ G (ops.toList.map λo=>iT G o.op) ops.toList 0 []) (Q .normal e Y) else zs G T ops ops.toList bs b<|Q .normal
 | .seq x y,bs,i,b,Q=>λe Y=>
  match an.getD i J with
  |none=>zc G T an x bs (i+1) b (QD.then (zc G T an y [] (i+1+cnt x) (b+nE G x) Q) Q) e Y
  |some p=>
   match jL G x with
   |true=> .jV i (2*(3*i+1)+1) (2*(3*i+2)+1) (λvs Y=> .al λj=>zc G T an y [] (i+1+cnt x) (b+nE G x) Q (ow e p.1 p.2 vs j) Y) λd=>zc G T an x bs (i+1) b (QD.then (λg Y'=> .J2 d (p.1.map g) Y') Q) e Y
   |false=> .jR i (2*(3*i+1)+1) (2*(3*i+2)+1) (λvs=> .al λj=>zc G T an y [] (i+1+cnt x) (b+nE G x) Q (ow e p.1 p.2 vs j) Y) λd=>zc G T an x bs (i+1) b (QD.then (λg _=> .J1 d<|p.1.map g) Q) e Y
 | .cond c x y,_,i,b,Q=>λe Y=> .ite (dE G e c) (zc G T an x [] i b Q e Y)<|zc G T an y [] (i+cnt x) (b+nE G x) Q e Y
 | .block h c,bs,i,b,Q=>zc G T an c bs i b<|QD.inBlock h Q
 | .loop c,_,i,b,Q=>λe Y=>
  match an.getD i J with
  |none=> .ff
  |some p=>
   match jL G c with
   |true=> .lV (2*(3*i)+1) (p.1.map e) Y λa l vs Y=> .al λj=>zc G T an c [] (i+1) b (QD.then (λg Y'=> .I2 a l (p.1.map g) Y' vs Y) Q) (ow e p.1 p.2 vs j) Y
   |false=> .lR (2*(3*i)+1) (p.1.map e) λa l vs=> .al λj=>zc G T an c [] (i+1) b (QD.then (λg _=> .I1 a l (p.1.map g) vs) Q) (ow e p.1 p.2 vs j) Y
 | .exit h,_,_,_,Q=>Q<|.exit h
 | .ret,_,_,_,Q=>Q .ret
 |_,_,_,_,_=>λ_ _=> .ff
noncomputable def zR(b:Rg)(Y:ae):List ResultVar->(dM->D)->D
 |[],K=>K []
 |x::l,K=>
  match x with
  | .tmp t=>zR b Y l λvs=>K (b t::vs)
  | .cell a t=> .r (.ld (kT t) Y<|b a) λv=>zR b Y l λvs=>K (v::vs)
noncomputable def I3(f:Func)(R:cC):QD:=λe a Y=>match e with| .normal=>zR a Y f.results.toList (.rt R Y)| .ret=>zR a Y f.results.toList (.rt R Y)|_=> .ff
noncomputable def QDb(f:Func)(R:be):QD:=λe a Y=>match e with| .normal=>zR a Y f.results.toList (.rb R Y)| .ret=>zR a Y f.results.toList (.rb R Y)|_=> .ff
noncomputable def ro(xs:dM):Rg:=λk=>match xs[k]? with|some v=>v|none=> .t []
noncomputable def zF(G:J7)(T:dO)(an:List<|Option<|eP×eP)(f:Func)(xs bs:dM)(Y:ae)(Q:QD):D:=
 match f.body with
 |some c=>zc G T an c bs 0 0 Q (ro xs) Y
 |none=> .ff
end
attribute[irreducible] ivd bvd zld bqT gld gtd
end
structure NF(z:D) where
 p:Prop
 h:den z=p:=by
  conv=>
   lhs
   conv=>
    arg 1
    reduce
   dsimp only[den,RD.o,ED.o,SD.o,LD.o,cD,List.map,btj,bsH,bsU,bsG,bvx,bsN]
   dsimp only[bs7]
def biR{B}{A:(aG)->Prop}(P:(aG)->Prop)(h:P B)(b:∀a,P a->A a):A B:=b B h
def bsf{B}{A:(dM->Prop)->Prop}(P:(dM->Prop)->Prop)(h:P B)(b:∀a,P a->A a):A B:=b B h
def bpl{n B A}(P:(aG)->Prop)(h:P B)(b:∀a,P a->A a):jV n B A:=b B h
def btr{n B A}(P:(dM->Prop)->Prop)(h:P B)(b:∀a,P a->A a):jR n B A:=b B h
abbrev NR(T:dO)(an:List<|Option<|eP×eP)(f:Func)(xs bs:dM)(Y:ae)(R:cC):=NF<|zF GG T an f xs bs Y<|I3 f R
abbrev NS(T:dO)(an:List<|Option<|eP×eP)(f:Func)(xs bs:dM)(Y:ae)(R:be):=NF<|zF GG T an f xs bs Y<|QDb f R
def nf{z:D}{p:Prop}(h:den z=p:=by
  conv=>
   lhs
   conv=>
    arg 1
    reduce
   dsimp only[den,RD.o,ED.o,SD.o,LD.o,cD,List.map,btj,bsH,bsU,bsG,bvx,bsN]
   dsimp only[bs7]):den z=p:=h
section
variable{T:dO}{f:Func}{fn:Nat}
def y0(c:eJ T)(a:aS.funcs[fn]?=V f)(an:List<|Option<|eP×eP)(xs:dM){W:ae->cC->Prop}(e:∀s R,den (zF GG T an f xs [] s<|I3 f R)=W s R:=by intros;exact nf)(b:uM an f (L xs)=U:=by kernel_rfl)(d:∀R,ZF aS GG T an f xs R=W (ly f) R:=by intros;kernel_rfl)⦃R:cC⦄(h:H0 λs=>W s R):Ct fn xs R:=z0 an c a h b<|d R
def y1(t n p:Nat)(j:eJ T)(b:aS.funcs[fn]?=V f)(an:List<|Option<|eP×eP)(c xs:dM){W:AV->ae->cC->Prop}(l:∀i s R,den (zF GG T an f xs [i] s<|I3 f R)=W i s R:=by intros;exact nf)(d:uM an f (L xs)=U:=by kernel_rfl)(g:Q (p<4096/\0<n)=U:=by exact rfl)(k:∀R,ZF aS GG T an f xs R=eV (bxA t n (ly f) p<|.a c) λi s=>W i s R:=by intros;kernel_rfl)(e:L c=n)⦃R:cC⦄(h:H1 t n p c λi s=>W i s R):Ct fn xs R:=z1 an j b e h d g<|k R
def y2(t n p k b d:Nat)(r:eJ T)(l:aS.funcs[fn]?=V f)(an:List<|Option<|eP×eP)(c e xs:dM){W:AV->AV->ae->cC->Prop}(v:∀i j s R,den (zF GG T an f xs [i,j] s<|I3 f R)=W i j s R:=by intros;exact nf)(m:uM an f (L xs)=U:=by kernel_rfl)(q:Q ((p<4096/\0<n)/\(d<4096/\0<b)/\p≠d)=U:=by exact rfl)(u:∀R,ZF aS GG T an f xs R=eV (bxA t n (ly f) p<|.a c) λi s=>eV (bxA k b s d<|.a e) λj s=>W i j s R:=by intros;kernel_rfl)(o:L c=n)(g:L e=b)⦃R:cC⦄(h:H2 t n p c k b d e λi j s=>W i j s R):Ct fn xs R:=z2 an r l o g h m q<|u R
def yB(c:pq aS GG T)(a:aS.funcs[fn]?=V f)(an:List<|Option<|eP×eP)(xs:dM){W:ae->be->Prop}(e:∀s R,den (zF GG T an f xs [] s<|QDb f R)=W s R:=by intros;exact nf)(b:uM an f (L xs)=U:=by kernel_rfl)(d:∀s R,ZB aS GG T an f xs s R=W s R:=by intros;kernel_rfl)⦃s:ae⦄⦃R:be⦄(hs:L s=4096) (h:W s R):EB fn xs s R:=zB an c a h b<|d s R
def yB1(t n p:Nat)(j:pq aS GG T)(b:aS.funcs[fn]?=V f)(an:List<|Option<|eP×eP)(c xs:dM){W:AV->ae->be->Prop}(l:∀i s R,den (zF GG T an f xs [i] s<|QDb f R)=W i s R:=by intros;exact nf)(d:uM an f (L xs)=U:=by kernel_rfl)(g:Q (p<4096/\0<n)=U:=by exact rfl)(k:∀s R,ZB aS GG T an f xs s R=eV (bxA t n s p<|.a c) λi s=>W i s R:=by intros;kernel_rfl)⦃s:ae⦄⦃R:be⦄(hs:L s=4096) (e:L c=n) (h:HB1 t n p c s λi s=>W i s R):EB fn xs s R:=zB1 an j b hs e h d g<|k s R
def yB2(t n p k b e:Nat)(r:pq aS GG T)(l:aS.funcs[fn]?=V f)(an:List<|Option<|eP×eP)(c d xs:dM){W:AV->AV->ae->be->Prop}(v:∀i j s R,den (zF GG T an f xs [i,j] s<|QDb f R)=W i j s R:=by intros;exact nf)(m:uM an f (L xs)=U:=by kernel_rfl)(q:Q ((p<4096/\0<n)/\e<4096/\0<b)=U:=by exact rfl)(u:∀s R,ZB aS GG T an f xs s R=eV (bxA t n s p<|.a c) λi s=>eV (bxA k b s e<|.a d) λj s=>W i j s R:=by intros;kernel_rfl)⦃s:ae⦄⦃R:be⦄(hs:L s=4096) (o:L c=n) (g:L d=b) (h:HB2 t n p c k b e d s λi j s=>W i j s R):EB fn xs s R:=zB2 an r l hs o g h m q<|u s R
end
def atS:=kW 10 [(3,([5],[0,1]))]
def aLl{a a1}:=y0 wO func64 atS [a,a1]
def at1:=kW 2 []
def aLu{a a1}:=y0 wO func201 at1 [a,a1]
def aLA{a a1}:=y0 wO func137 at1 [a,a1]
def aLJ{a a1}:=y0 wO func135 at1 [a,a1]
def atY:=kW 10 [(3,([5],[2,3]))]
def aLr{c0 b}:=y2 31 6 2 36 4 3 wO func134 atY c0 b [.a c0, .a b]
def dh(i n:Int):Bool:=Q (0<=i)&&Q (i<n)
def DR{i}{n:Nat}:(dh i n=U->aF n i)=True:=by simp[dh,aF]
theorem dX{i}{n:Nat}:dh i n=U↔aF n i:=by simp[dh,aF]
def OR(i n):Ct 201 [iv i,iv n] (·=bv (dh i n)):=by refine aLu λs0 b a=>?_;simp+contextual only[eQ,dh]
def su:FT:=lI OR
def ayO:=nq su OR
def OW(i n):Ct 137 [iv i,iv n] (·=bv (dh i n)):=by refine aLA λs0 b a=>?_;simp+contextual only[eQ,dh]
def Ce:FT:=lI OW
def ayT:=nq Ce OW
def Pd(i n):Ct 135 [iv i,iv n] (·=bv (dh i n)):=by refine aLJ λs0 b a=>?_;simp+contextual only[eQ,dh]
def Ch:FT:=lI Pd
def ay2:=nq Ch Pd
def OK(l)(n:Int)(g:L l<4611686018427387904):Ct 64 [sl ci l,iv n] (·=bv (Q<|n∈l)):=by refine aLl λs0 _ c=>?_;refine bc4 (L l) (λk=>∀j,j<k->gd l j≠n) (by simp) λk f e=>?_;simp+contextual only[qz 19,eQ,ix,rk,bh];refine⟨λh=>⟨vp h,λd=>?_,by grind [gS,aL]⟩,λh=>?_⟩;grind [dB,aL];have b:n∉l:=λa=>(by have:=(px (p:=λx=>x≠n)).1 (by grind) n a;omega);simp[b]
def aQF:FT:=aIc OK
def ayH:=gX aQF OK
def lh(w:pz)(s:aW):Bool:=Q (∀c∈w.bC,0<=c.eg/\c.eg<L w.ak)&&(Q (L s.ak=L w.ak)&&(Q (L s.done=L w.bU)&&Q (L s.ay=L w.ay)))
def OP(w)(s)(o:L w.bC<4611686018427387904):Ct 134 [.a w.c, .a s.c] (·=bv (lh w s)):=by refine aLr rfl rfl λq n b d i=>?_;refine bc4 (L w.bC) (λk=>∀j,j<k->0<=(gd w.bC j).eg/\(gd w.bC j).eg<L w.ak) (by simp) λk m e=>?_;simp+contextual only[qz 19,eT,ix,b,d,bh];refine⟨λh=>⟨vp h,λ_=>vp h,λl=>?_,by grind [gS,aL]⟩,λh=>?_⟩;grind [dB,aL,lh];have g:=(px (p:=λc:aPI=>0<=c.eg/\c.eg<L w.ak)).1 (λj f=>e j<|biN f<|bw h);simp only[lh,bqH g,iw,aqD]
def BZ:FT:=aIc OP
def ayM:=gX BZ OP
def aoS:dO:=(201,su)::(137,Ce)::(135,Ch)::(64,aQF)::(134,BZ)::[]
def Br:eJ aoS:=vl (nI OR)<|vl (nI OW)<|vl (nI Pd)<|vl (aCb OK)<|vl (aCb OP)<|wO
def z8:=ai @ayO<|ai @ayT<|ai @ay2<|ai @ayH<|@ayM
def at3:=kW 34 [(3,([8],[2,3,7])),(11,([18],[2,3,7])),(14,([26],[2,3,7])),(17,([43],[2,3,7])),(22,([61],[2,3,7])),(27,([71],[2,3,7])),(30,([79],[2,3]))]
def aLv{c0 a1 b}:=y1 31 6 3 Br func202 at3 c0 [.a c0,a1,b]
def aLx{c0 b}:=y2 31 6 2 40 7 3 Br func67 at1 c0 b [.a c0, .a b]
def at0:=kW 10 [(4,([5,6],[1,2])),(7,([5],[1,2,6]))]
def aLt{c0 a1}:=y1 36 4 2 Br func203 at0 c0 [.a c0,a1]
def at4:=kW 10 [(4,([5,6],[0,1])),(7,([5],[0,1,6]))]
def aLw{a a1}:=y0 Br func205 at4 [a,a1]
def Gr(Y:ae)(ds:eP)(e:TypeId)(z:Nat)(a:AV)(bA:List<|dM):Prop:=(bA=[]/\a= .l [] U U)\/∃d v,a= .m (d,v) (L bA)/\d∈ds/\box Y (d,v)=V ⟨e,z,U,I,bA⟩
def Fr(Y Y':ae)(ds:eP):Prop:=L Y'=L Y/\∀k,k∉ds->aZ Y' k=aZ Y k
theorem Fr.refl(Y)(ds):Fr Y Y ds:=⟨rfl,λ_ _=>rfl⟩
theorem Fr.trans{Y Y' a ds}(h:Fr Y Y' ds)(b:Fr Y' a ds):Fr Y a ds:=⟨b.1.trans h.1,λk c=>(b.2 k c).trans<|h.2 k c⟩
theorem Fr.box{Y Y' ds}(h:Fr Y Y' ds){k v}(a:k∉ds):box Y' (k,v)=box Y (k,v):=by unfold Ab.box;simp only[h.2 k a]
theorem Gr.nil{Y ds e z}:Gr Y ds e z (.l [] U U) []:= .inl ⟨rfl,rfl⟩
def Qi{Y b}:L (kill Y b)=L Y:=yg b
theorem ani{Y b k}(h:k≠b.1):aZ (kill Y b) k=aZ Y k:=jQ h
def aIQ{Y b}{k:Nat}(a:b.1<L Y):(aZ (kill Y b) k).I6=(aZ Y k).I6:=by grind [kill,iD,jQ]
def eF{e}{z d:Nat}{zs cs Y}{K:be}(m:L zs=z)(j:L cs=z)(i:0<z)(h:d<L Y)(f:∀Y',Fr Y Y' [d]->box Y' (d,(aZ Y d).I6+1)=V ⟨e,z,U,U,[cs]⟩->K (.p (d,(aZ Y d).I6+1) 0 0) Y'):eV (alA e zs Y d) λp s=>sV (aK z s p<|.a cs) λs'=>K p s':=by have b:alA e zs Y d=V (.p (d,(aZ Y d).I6+1) 0 0,put Y d ⟨e,z,U,U,[zs]⟩):=(by grind [alA,aPF,I8]);rw[b];have g:box (put Y d ⟨e,z,U,U,[zs]⟩) (d,(aZ Y d).I6+1)=V ⟨e,z,U,U,[zs]⟩:=zQ h rfl;have c:aK z (put Y d ⟨e,z,U,U,[zs]⟩) (.p (d,(aZ Y d).I6+1) 0 0) (.a cs)=V (wr (put Y d ⟨e,z,U,U,[zs]⟩) (d,(aZ Y d).I6+1) ⟨e,z,U,U,[cs]⟩):=(by grind [aK,aBG,pW,eY,qh]);show sV (aK z (put Y d ⟨e,z,U,U,[zs]⟩) (.p (d,(aZ Y d).I6+1) 0 0)<|.a cs) _;rw[c];refine f _ ⟨by rw[uC,D3],λk l=>?_⟩<|lO g;grind [wy,yk]
def fP{Y ds e}{z d by':Nat}{zs a bA new t o K}(s:Gr Y ds e z a bA)(n:L zs=z)(A:0<z)(m:d∈ds)(u:d<L Y)(D:∀r∈bA,L r=z)(C:∀r∈new,L r=z)(B:(L bA+L new)*(by'+1)<=1099511627776)(h:∀p Y',Gr Y' ds e z p (bA++new)->Fr Y Y' ds->K p Y'):eV (apA e zs by' Y d a<|.l new t o) K:=by unfold apA;simp only[gL];by_cases q:L new=0;rw[sz q];have y:new=[]:=(by simp_all);subst y;rcases s with⟨b,c⟩|⟨j,v,b,c,f⟩;subst b c;exact h _ _ (.inl ⟨rfl,rfl⟩)<|Fr.refl _ _;subst b;simp only[f,df];exact h _ _ (.inr ⟨j,v,by simp,c,by simpa using f⟩)<|Fr.refl _ _;rw[r9 q,sz ⟨by omega,by simp[aPF,u],by simp_all⟩];have g:∀(i:ae) (x:bY),L i=L Y->box (put i d x) (I8 i d)=V x:=(by grind [I8,zQ]);rcases s with⟨b,c⟩|⟨j,v,b,c,f⟩;subst b c;simp only;rw[sz ⟨by simp,by grind [lx]⟩];refine h _ _ (.inr ⟨d,(aZ Y d).I6+1,by simp[I8],m,?_⟩) ⟨by simp[put],λk w=>yk<|λe=>w<|e▸m⟩;rw[<-n];exact g Y _ rfl;subst b;simp only[f];rw[sz ⟨trivial,trivial,n.symm,dA _,by grind [lx]⟩];refine h _ _ (.inr ⟨d,(aZ (kill Y (j,v)) d).I6+1,by simp[I8,aIQ<|lN f],m,?_⟩) ⟨by simp[put,Qi],λk w=>?_⟩;rw[<-n];simp only[gV];exact g _ _ Qi;grind [yk,ani]
theorem qV{Y ds e z a bA R}(f:Gr Y ds e z a bA)(h:∀t,R<|.l bA t U):aE R Y [a]:=by unfold aE jS;rcases f with⟨b,c⟩|⟨g,v,b,c,d⟩;subst b c;exact⟨rfl,h U⟩;subst b;simp only[iZ,dQ,d,a7g,gV];exact⟨rfl,h I⟩
def aDk{Y ds e}{z:Nat}{a bA}(d:Gr Y ds e z a bA):fS Y a=V (iv<|L bA):=by rcases d with⟨b,c⟩|⟨f,v,b,c,g⟩;subst b c;rfl;grind [fS]
def iz{Y z0 y}:aX [z0] 1 Y [(0, .s y)]=V (.l [[.s y]] U U,Y):=by simp[aX,aly,eY,nrm,gK,eR,gi,eB,iR,kills,kC,eN]
def ua{Y zs cs}(c:nrm (eR Y<|.a cs)= .a cs)(d:eB (.a cs)=[])(e:L cs=L zs)(f:0<L zs)(g:cs.all eN=U)(h:L zs<=1000):aX zs 1 Y [(0, .a cs)]=V (.l [cs] U U,Y):=by simp only[aX,ji,mU,c,Cz,List.flatMap_nil,d,cL,kills,aRl];have b:(er 1 zs).flatten=zs:=(by simp);rw[sz ⟨by omega,f⟩,b];simp only[aly,eY,e,Nat.zero_mul,aj,dA,aPe,a7g,CE,dW,Gz,cL,aPy,g,df];grind [kC]
def gI(mk:AV->Int->dM)(b:ae)(ds:eP)(e:TypeId)(z n:Nat)(bA:Nat->List (dM))(Inv:Nat->Prop):aG:=λvs Y=>∃(k:Nat) (a:AV),vs=mk a k/\k<=n/\Inv k/\Gr Y ds e z a (bA k)/\Fr b Y ds
def gM(p n:Nat):bu:=λvs _=>match gt vs p with| .s (.int _ i)=>n-i.toNat|_=>0
def am9{B}(mk)(p)(ds)(e)(z n)(bA)(Inv){c b}(d:Inv 0)(f:Gr b ds e z c<|bA 0)(h:∀(k) a Y,k<=n->Inv k->Gr Y ds e z a (bA k)->Fr b Y ds->B (gI mk b ds e z n bA Inv) (gM p n) (mk a k) Y):lV (mk c 0) b B:=⟨gI mk b ds e z n bA Inv,gM p n,⟨0,c,rfl,mh _,d,f,Fr.refl _ _⟩,by rintro vs Y ⟨k,a,rfl,l,j,i,g⟩;simp_all⟩
def Dr{mk p c Y Y' ds e z n k bA Inv a b}(j:∀a i,gt (mk a i) p=iv i)(g:k<n)(h:n<4611686018427387904)(hI:Inv<|k+1)(f:Gr Y' ds e z b<|bA<|k+1)(d:Fr c Y' ds):gI mk c ds e z n bA Inv (mk b<|dq.wrap<|(k:Int)+1) Y'/\gM p n (mk b<|dq.wrap<|(k:Int)+1) Y'<gM p n (mk a k) Y:=by rw[eM (by omega)<|by omega];refine⟨⟨k+1,b,rfl,g,hI,f,d⟩,?_⟩;grind [gM]
def fI(a:ae)(ds:eP)(n:Nat)(Inv:Nat->Prop):aG:=λvs Y=>∃k:Nat,vs=[iv k]/\k<=n/\Inv k/\Fr a Y ds
def fM(n:Nat):bu:=λvs _=>cM n vs
def pQ{B a}(n)(ds)(Inv)(b:Inv 0)(h:∀(k) Y,k<=n->Inv k->Fr a Y ds->B (fI a ds n Inv) (fM n) [iv k] Y):lV [iv 0] a B:=⟨fI a ds n Inv,fM n,⟨0,rfl,mh _,b,Fr.refl _ _⟩,by rintro vs Y ⟨k,rfl,e,d,c⟩;simp_all⟩
theorem oL{n k ds Inv a Y Y'}(c:k<n)(d:n<4611686018427387904)(h:Inv<|k+1)(b:Fr a Y' ds):fI a ds n Inv [iv<|dq.wrap<|(k:Int)+1] Y'/\fM n [iv<|dq.wrap<|(k:Int)+1] Y'<fM n [iv k] Y:=by rw[fX<|by omega];refine⟨⟨k+1,rfl,c,h,b⟩,?_⟩;grind [fM,cM,bh]
theorem Fr.mono{Y Y' ds a}(h:Fr Y Y' ds)(b:∀k∈ds,k∈a):Fr Y Y' a:=⟨h.1,λk c=>h.2 k<|by grind⟩
def nS{Y z0 zs}:aX (z0::zs) 0 Y []=V (.l [] U U,Y):=by simp[aX,aly,kills,kC]
def aIk{α f}{l:List α}{z:Nat}{i:Int}{Y K}(b:∀x,L (f x)=z):rV (fo z Y (sl f l) J (V<|iv i) J) K=((0<=i/\i<=L l)/\K (sl f<|l.take i.toNat)):=by simp only[fo,lM,sl];by_cases a:0<=i;simp only[a,a7g,qY,sD,mi,mh,aNG,bJ];grind [rV,bkj];simp[a,rV]
def aIm{α f}{l:List α}{z:Nat}{i:Int}{Y K}(b:∀x,L (f x)=z):rV (fo z Y (sl f l) (V<|iv i) J J) K=((0<=i/\i<=L l)/\K (sl f<|l.drop i.toNat)):=by simp only[fo,lM,sl];by_cases a:0<=i;simp only[a,a7g,qY,sD,mi,bJ,dA,aNG];grind [rV,List.map_drop,oB];simp[a,rV]
def aov{l}{i:Int}{Y K}:rV (fo 1 Y (sl ci l) J (V<|iv i) J) K=((0<=i/\i<=L l)/\K (sl ci<|l.take i.toNat)):=aIk λ_=>rfl
def aIg{l}{i:Int}{Y K}:rV (fo 1 Y (sl ci l) (V<|iv i) J J) K=((0<=i/\i<=L l)/\K (sl ci<|l.drop i.toNat)):=aIm λ_=>rfl
def aFj{α f}{l:List α}{R Y}:aE R Y [sl f l]=R (sl f l):=by simp[aE,jS,iZ,dQ,sl,kG,pF,nj]
def Fr.bt{Y Y':ae}{ds:eP}(h:Fr Y Y' ds){k v:Nat}{x:Option bY}(b:Ab.box Y (k,v)=x)(a:k∉ds:=by decide):Ab.box Y' (k,v)=x:=(h.box a).trans b
def named(w:pz)(a bF:Int):Bool:=
 bif Q (a=1)||(Q (a=2)||(Q (a=5)||(Q (a=12)||(Q (a=13)||(Q (a=14)||Q (a=15)))))) then Q (bF= -1)
 else bif Q (a=3)||Q (a=4) then dh bF (L w.cells)
 else bif Q (a=6)||Q (a=7) then dh bF (L w.ak)&&!(gd w.ak bF.toNat).rw
 else bif Q (a=8)||(Q (a=9)||(Q (a=10)||Q (a=11))) then dh bF (L w.ak)&&(gd w.ak bF.toNat).rw
 else bif Q (a=16)||(Q (a=17)||(Q (a=18)||Q (a=19))) then dh bF (L w.bC)
 else bif Q (a=20)||Q (a=21) then dh bF (L w.ay)
 else bif Q (a=22)||Q (a=23) then dh bF (L w.bU)
 else I
def OS(w)(b bF):Ct 202 [.a w.c,iv b,iv bF] (·=bv (named w b bF)):=by refine aLv rfl λg f d e=>?_;simp only[be8,qz 23,iM,aY,sw];simp only[qz 21,aI,au];simp only[be8,qz 71,iM,aY,sw];simp only[qz 69,aI,au];simp only[be8,qz 89,iM,aY,sw];simp only[qz 87,aI,au];simp only[be8,qz 107,iM,aY,sw];simp only[qz 105,aI,au];simp only[be8,qz 137,iM,aY,sw];simp only[qz 135,aI,au];simp only[be8,qz 167,iM,aY,sw];simp only[qz 165,aI,au];simp only[be8,qz 185,iM,aY,sw];simp only[qz 183,aI,au];simp+contextual only[↓iS,eT,z8,ar,d,ix,named,a7c,a5C,DR,aO1,aPe]
def FH:FT:=za OS
def ayP:=KP FH OS
def fN(w:pz)(s:I5):Bool:=lh w s.bW&&(Q (L s.cells=L w.cells)&&(Q (L s.bU=L w.bU)&&Q (L s.count=L w.ay)))
def OU(w)(s)(e:L w.bC<4611686018427387904):Ct 67 [.a w.c, .a s.c] (·=bv (fN w s)):=by refine aLx rfl rfl λh g b d f=>?_;simp+contextual only[eT,z8,ar,b,d,fN,aqD,e,aPe]
def Cc:FT:=aIc OU
def ayR:=gX Cc OU
def pe(s:aW)(c:Int)(i:Nat):Bool:=Q ((gd s.ay i).cQ=3)&&Q ((gd s.ay i).cond=c)
def eh(s:aW)(c:Int)(k:Nat):d0:=((aH k).filter<|pe s c).map λ(i:Nat)=>(i:Int)
def fO(s:aW)(c:Int):d0:=eh s c<|L s.ay
theorem vc(s)(c)(k):eh s c (k+1)=eh s c k++if pe s c k then[(k:Int)] else[]:=by grind [eh,qn]
def wU(s)(c:Int)(k:Nat):L (eh s c k)<=k:=by grind [eh,bJ,gl,fZ]
def OQ(s)(c:Int)(v:L s.ay<1000000):Ct 203 [.a s.c,iv c] (λr=>∃t,r= .l ((fO s c).map ci) t U):=by refine aLt rfl λx n j q=>?_;refine am9 (λa i=>[a,iv i]) 1 [34] 3 1 (L s.ay) (λk=>(eh s c k).map ci) (λ_=>True) trivial (.inl ⟨rfl,rfl⟩) λk a Y u _ f b=>?_;have d:=b.bt j;simp+contextual only[qz 45,qz 47,qy 4,qy 6,qz 25,eT,d,ix,bh,iz];refine⟨λh=>⟨vp h,λ_=>vp h,λm=>?_,λm=>?_⟩,λh=>?_⟩;have w:=wU s c k;refine fP f rfl (by decide) (by decide) (by rw[b.1,n];decide) (by simp) (by simp) (by simp;omega) λp Y' o e=>?_;refine Dr (mk:=λa i=>[a,iv i]) (λ_ _=>rfl) (aL h) (by omega) trivial ?_<|b.trans e;grind [vc,pe];refine Dr (mk:=λa i=>[a,iv i]) (λ_ _=>rfl) (aL h) (by omega) trivial ?_ b;grind [vc,pe];have g:k=L s.ay:=(by grind);subst g;exact qV f λt=>⟨t,rfl⟩
def w7:FT:=pn OQ
def ayN:=rQ w7 OQ
def fJ(l:d0)(n:Int):d0:=l.filter λx=>Q<|x≠n
theorem EA{l:d0}{k:Nat}(h:k<L l):l.take (k+1)=l.take k++[gd l k]:=by rw[bT h,iJ h]
def OT(l)(n:Int)(q:L l<1000000):Ct 205 [sl ci l,iv n] (λr=>∃t,r= .l ((fJ l n).map ci) t U):=by refine aLw λu g o=>?_;refine am9 (λa i=>[a,iv i]) 1 [25] 3 1 (L l) (λk=>(fJ (l.take k) n).map ci) (λ_=>True) trivial (.inl ⟨rfl,rfl⟩) λk a Y p _ c b=>?_;simp+contextual only[qz 45,qz 47,qy 2,qy 4,qz 25,eQ,rk,ix,bh,iz];refine⟨λh=>⟨vp h,λe=>⟨vp h,?_⟩,λe=>?_⟩,λh=>?_⟩;have s:L (fJ (l.take k) n)<=k:=gl (fZ _ _) (by simp;omega);refine fP c rfl (by decide) (by decide) (by rw[b.1,g];decide) (by simp) (by simp) (by simp;omega) λm Y' j d=>?_;refine Dr (mk:=λa i=>[a,iv i]) (λ_ _=>rfl) (aL h) (by omega) trivial ?_<|b.trans d;grind [EA,aL,fJ];refine Dr (mk:=λa i=>[a,iv i]) (λ_ _=>rfl) (aL h) (by omega) trivial ?_ b;rw[EA<|aL h,fJ,List.filter_append,dg];simp only[List.filter_cons,e,List.filter_nil,eE,brP,mU,cL];exact c;have f:k=L l:=(by grind);subst f;rw[gV] at c;grind [qV]
def Cb:FT:=pn OT
def ayQ:=rQ Cb OT
def aoT:dO:=(202,FH)::(67,Cc)::(203,w7)::(205,Cb)::aoS
def ao9:eJ aoT:=vl (Rs OS)<|vl (aCb OU)<|vl (aN0 OQ)<|vl (aN0 OT)<|Br
def K1:=ai @ayP<|ai @ayR<|ai @ayN<|ai @ayQ<|@z8
def atX:=kW 48 [(22,([119],[2,4,5,6,11,70])),(35,([160],[2,4,5,6,70]))]
def aLq{c0 b c d e}:=y2 31 6 5 36 4 6 ao9 func138 atX c0 b [.a c0, .a b,c,d,e]
def lc(w:pz)(s:aW)(t a bF:Int):Bool:=
 bif Q (a=1) then Q<|(gd s.ay t.toNat).cQ=1
 else bif Q (a=17) then Q ((gd s.ay t.toNat).cQ=4)&&(Q ((gd s.ay t.toNat).cond=bF)&&Q ((gd s.ak (gd w.bC bF.toNat).eg.toNat).aNN= -1))
 else bif Q ((gd s.ay t.toNat).cQ≠2) then I
 else bif Q (a=6) then Q<|(gd s.ak bF.toNat).aNN= -1
 else bif Q (a=10) then Q ((gd s.ak bF.toNat).aNN= -1)&&Q (L (gd s.ak bF.toNat).bk=0)
 else bif Q (a=8) then Q ((gd s.ak bF.toNat).aNN= -1)&&!Q (t∈(gd s.ak bF.toNat).bk)
 else bif Q (a=7)||Q (a=11) then Q ((gd s.ak bF.toNat).aNN=t)
 else bif Q (a=9) then Q<|t∈(gd s.ak bF.toNat).bk
 else bif Q (a=12) then Q<|s.tx= -1
 else bif Q (a=13) then Q<|s.tx=t
 else bif Q (a=14) then !(gd s.ay t.toNat).atomic
 else bif Q (a=15) then(gd s.ay t.toNat).atomic
 else bif Q (a=16)||(Q (a=18)||Q (a=19)) then Q ((gd s.ak (gd w.bC bF.toNat).eg.toNat).aNN=t)
 else bif Q (a=20) then Q (bF≠t)&&Q ((gd s.ay bF.toNat).cQ=0)
 else bif Q (a=21) then Q (bF≠t)&&Q ((gd s.ay bF.toNat).cQ=5)
 else bif Q (a=22) then !(gd s.done bF.toNat)
 else bif Q (a=23) then gd s.done bF.toNat
 else U
def jm(w:pz)(s:aW)(t a bF:Int):Bool:=lh w s&&(dh t (L w.ay)&&(named w a bF&&lc w s t a bF))
theorem mJ{w}{a bF:Int}(h:named w a bF=U)(b:6<=a)(c:a<=11):aF (L w.ak) bF:=by grind [named,dX]
theorem oT{w}{a bF:Int}(h:named w a bF=U)(b:16<=a)(c:a<=19):aF (L w.bC) bF:=by grind [named,dX]
theorem Eb{w}{a bF:Int}(h:named w a bF=U)(b:20<=a)(c:a<=21):aF (L w.ay) bF:=by grind [named,dX]
theorem oU{w}{a bF:Int}(h:named w a bF=U)(b:22<=a)(c:a<=23):aF (L w.bU) bF:=by grind [named,dX]
theorem qP{w}{a bF:Int}(h:named w a bF=U)(b:3<=a)(c:a<=4):aF (L w.cells) bF:=by grind [named,dX]
theorem iY{w s}(h:lh w s=U):(∀c∈w.bC,0<=c.eg/\c.eg<L w.ak)/\L s.ak=L w.ak/\L s.done=L w.bU/\L s.ay=L w.ay:=by grind [lh]
theorem ii{α}[Inhabited α]{l:List α}{i:Int}(h:aF (L l) i):gd l i.toNat∈l:=dB (by have:=h.1;have:=h.2;omega)
def OO(w)(s)(t b bF:Int)(r:L w.bC<4611686018427387904/\(∀l∈s.ak,L l.bk<4611686018427387904)):Ct 138 [.a w.c, .a s.c,iv t,iv b,iv bF] (·=bv (jm w s t b bF)):=by refine aLq rfl rfl λS P d f A=>?_;simp+contextual only[qy 6,eT,K1,ar,d,f,ix];have B:(!lh w s||!dh t (L w.ay)||!named w b bF)=I->lh w s=U/\dh t (L w.ay)=U/\named w b bF=U:=(by simp_all);refine⟨r.1,λh=>?_,λh=>?_⟩;grind [jm,lh,dh,named];obtain⟨C,O,R⟩:=B h;obtain⟨y,z,M,N⟩:=iY C;have q:aF (L s.ay) t:=(by grind [dX]);have p:jm w s t b bF=lc w s t b bF:=(by grind [jm]);rw[p];refine⟨q,?_⟩;refine eF rfl rfl (by decide) (by omega) λY n o=>?_;rw[A 11 (by decide)<|by decide] at o⊢;have e:=n.bt d;have g:=n.bt f;simp only[qz 8];simp only[be8,qz 137,iM,aY,sw];simp only[qz 135,aI,au];simp only[be8,qz 215,iM,aY,sw];simp only[qz 213,aI,au];simp+contextual only[↓iS,eT,K1,ar,o,e,g,ix];have H:aF (L w.bC) bF->aF (L s.ak) (gd w.bC bF.toNat).eg:=λh=>(by rw[z];exact y _<|ii h);have D:Q (b=6)=U->aF (L s.ak) bF:=(by grind [mJ]);have u:Q (b=10)=U->aF (L s.ak) bF:=(by grind [mJ]);have F:Q (b=8)=U->aF (L s.ak) bF:=(by grind [mJ]);have G:Q (b=9)=U->aF (L s.ak) bF:=(by grind [mJ]);have E:(Q (b=7)||Q (b=11))=U->aF (L s.ak) bF:=(by grind [mJ]);have j:Q (b=17)=U->aF (L w.bC) bF:=(by grind [oT]);have i:(Q (b=16)||(Q (b=18)||Q (b=19)))=U->aF (L w.bC) bF:=(by grind [oT]);have v:Q (b=20)=U->aF (L s.ay) bF:=(by grind [Eb]);have x:Q (b=21)=U->aF (L s.ay) bF:=(by grind [Eb]);have k:Q (b=22)=U->aF (L s.done) bF:=(by grind [oU]);have m:Q (b=23)=U->aF (L s.done) bF:=(by grind [oU]);have K:aF (L s.ak) bF->L (gd s.ak bF.toNat).bk<4611686018427387904:=λh=>r.2 _<|ii h;have e0:(L (gd s.ak bF.toNat).bk:Int)=0↔L (gd s.ak bF.toNat).bk=0:=(by omega);simp+contextual only[lc,a7c,a5C,H,D,E,F,G,u,i,j,v,x,k,m,K,e0,aO1,aPe]
def BY:FT:=bpg OO
def ayL:=KQ BY OO
def aoU:dO:=(138,BY)::aoT
def wP:eJ aoU:=vl (Rt OO)<|ao9
def K3:=ai @ayL<|@K1
def aLB{a a1}:=y0 wP func139 atS [a,a1]
def aLG{c0 a1}:=y1 43 15 2 wP func136 at1 c0 [.a c0,a1]
def aub:=kW 12 [(3,([2,7],[1,3])),(6,([2],[1,3,7]))]
def aLE{c0 a1 b}:=y1 43 15 3 wP func142 aub c0 [.a c0,a1,b]
def aue:=kW 12 [(4,([3,4],[1]))]
def aLH{c0}:=y1 43 15 1 wP func68 aue c0 [.a c0]
def at9:=kW 21 [(9,([40],[2,3,7]))]
def aLC{c0 b}:=y2 40 7 2 62 7 3 wP func140 at9 c0 b [.a c0, .a b]
def aLi{a a1}:=y0 wP func133 atS [a,a1]
def uJ(l:d0)(n:Int)(j:Nat):Prop:=1<=gd l j/\gd l j<n/\(0<j->gd l (j-1)<gd l j)
def lZ(l:d0)(n:Int):Prop:=∀j,j<L l->uJ l n j
instance{l:d0}{n:Int}{j:Nat}:Decidable (uJ l n j):=by unfold uJ;infer_instance
instance{l:d0}{n:Int}:Decidable (lZ l n):=by unfold lZ;infer_instance
def OX(l)(n:Int)(f:L l<4611686018427387904):Ct 139 [sl ci l,iv n] (·=bv (Q<|lZ l n)):=by refine aLB λs0 _ b=>?_;refine bc4 (L l) (λk=>∀j,j<k->uJ l n j) (by simp) λk e d=>?_;simp+contextual only[qz 19,eQ,ix,rk,bh];have hs:0<k->(dq.wrap<|(k:Int)-1).toNat=k-1/\dq.wrap ((k:Int)-1)=((k-1:Nat):Int):=(by grind [eM]);have c:k<L l->((Q (gd l k<1)||Q (n<=gd l k)||Q (0<(k:Int))&&Q (gd l k<=gd l (dq.wrap<|(k:Int)-1).toNat))=I↔uJ l n k):=(by grind [uJ]);refine⟨λh=>⟨vp h,λ_=>vp h,λ_ _=>vp h,λ_ a=>?_,λa=>?_,by grind [gS,aL]⟩,λh=>?_⟩;grind [aL,dJ];grind [lZ,aL];grind [lZ,biN,bw]
def Cf:FT:=aIc OX
def ayU:=gX Cf OX
def nO(w:am)(t:Int):Bool:=dh t (L w.init.count)&&Q (1<=gd w.init.count t.toNat)
def Pa(w)(t):Ct 136 [.a w.c,iv t] (·=bv (nO w t)):=by refine aLG rfl λf e b d=>?_;simp+contextual only[eT,K3,ar,ix,b,dc,nO,DR]
def w8:FT:=lI Pa
def ayZ:=nq w8 Pa
def tX(l:List ByteArray)(s:ByteArray):Int:=match l.findIdx? (λx=>Q<|x=s) with|some i=>i|none=> -1
theorem avQ{l s}{k:Nat}(b:k<L l)(h:∀j,j<k->gd l j≠s)(a:gd l k=s):tX l s=k:=by have:l.findIdx? (λx=>Q<|x=s)=V k:=(by grind [List.findIdx?_eq_some_iff_getElem,bT]);simp[tX,this]
def avP{l s}(h:s∉l):tX l s= -1:=by grind [decide,List.findIdx?_eq_none_iff,decide_eq_false_iff_not,tX]
def OH(l)(s)(f:L l<4611686018427387904):Ct 133 [sl cs l,st s] (·=iv (tX l s)):=by refine aLi λs0 _ b=>?_;refine bc4 (L l) (λk=>∀j,j<k->gd l j≠s) (by simp) λk e d=>?_;simp+contextual only[qz 19,eQ,ix,rk,bh];refine⟨λh=>⟨vp h,λc=>?_,by grind [gS,aL]⟩,λh=>?_⟩;grind [avQ,aL];rw[avP λa=>(px (p:=λx=>x≠s)).1 (by grind) s a rfl]
def FB:FT:=aIc OH
def ayE:=gX FB OH
def pS(t:Int):List aP->Int->Nat->Int|[],_,_=> -1|e::l,k,i=>if e.aq=t then(if k=0 then i else pS t l (k-1) (i+1)) else pS t l k (i+1)
def oV(w:am)(t k:Int):Int:=pS t w.ac k 0
theorem aWc{α}[Inhabited α]{l:List α}{k:Nat}(h:k<L l):l.drop k=gd l k::l.drop (k+1):=by rw[bT h,Cw h]
def O0(w)(t k:Int)(p:L w.ac<1000000/\ -1000000<=k/\k<9223372036854775808):Ct 142 [.a w.c,iv t,iv k] (·=iv (oV w t k)):=by refine aLE rfl λq o e n=>?_;refine yh (λs:Int×Nat=>[iv s.1,iv s.2]) 1 (L w.ac) (λs=>s.2<=L w.ac/\k-s.2<=s.1/\s.1<=k/\pS t (w.ac.drop s.2) s.1 s.2=oV w t k) (k,0) (by grind [oV]) ?_;rintro⟨b,i⟩ ⟨f,g,j,d⟩;simp only at f g j d;simp+contextual only[qz 39,qz 41,qz 19,eT,ix,e,bh];refine⟨λh=>⟨vp h,λm=>⟨λl=>?_,λl=>?_⟩,λm=>?_⟩,λh=>?_⟩;grind [aWc,aL,pS];have:=aL h;refine wN (enc:=λs:Int×Nat=>[iv s.1,iv s.2]) (s:=(b,i)) (s':=(b-1,i+1)) (i:=i) ?_ rfl rfl (aL h) ⟨aL h,by omega,by omega,?_⟩;grind [fX,eM];grind [aWc,aL,pS,of_decide_eq_false];have:=aL h;refine wN (enc:=λs:Int×Nat=>[iv s.1,iv s.2]) (s:=(b,i)) (s':=(b,i+1)) (i:=i) ?_ rfl rfl (aL h) ⟨aL h,by omega,by omega,?_⟩;grind [fX];grind [aWc,aL,pS,of_decide_eq_false];have:i=L w.ac:=(by grind);rw[<-d,this,Gz];rfl
def FJ:FT:=qe O0
def ayX:=sT FJ O0
def bhL(l:d0)(k:Nat):Int:=(l.take k).sum
theorem Ra{l}{k:Nat}(h:k<L l):bhL l (k+1)=bhL l k+gd l k:=by grind [bhL,iJ,bT]
def rM(w:am):Bool:=Q (∀c∈w.init.count,0<=c/\c<=400)&&(Q (w.start=w.init.count.sum)&&Q (w.init.count.sum+L w.ac<=400))
def aoN{l}{k:Nat}(h:∀j,j<k->0<=gd l j/\gd l j<=400)(d:k<=L l):0<=bhL l k/\bhL l k<=400*k:=by induction k with|zero=>simp[bhL]|succ k a=>have:=a (λj c=>h j<|by omega) (by omega);have b:=h k (by omega);rw[Ra<|by omega];omega
def Pb(w)(q:L w.ac<1000000/\L w.init.count<1000000):Ct 68 [.a w.c] (·=bv (rM w)):=by refine aLH rfl λt o g n=>?_;refine yh (λs:Int×Nat=>[iv s.1,iv s.2]) 1 (L w.init.count) (λs=>s.2<=L w.init.count/\s.1=bhL w.init.count s.2/\∀j,j<s.2->0<=gd w.init.count j/\gd w.init.count j<=400) (0,0) (by grind [bhL]) ?_;rintro⟨f,i⟩ ⟨d,k,b⟩;simp only at d k b;simp+contextual only[qz 25,eT,ix,g,dc,bh];have m:=aoN b d;have r:i<L w.init.count->(Q (gd w.init.count i<0)||Q (400<gd w.init.count i))=U->rM w=I:=(by grind [dB,rM]);refine⟨λh=>⟨vp h,λ_=>vp h,(by simp_all),λe=>⟨vp h,?_⟩⟩,λh=>?_⟩;have:=aL h;simp only[cP,aNK,Int.not_lt] at e;refine wN (enc:=λs:Int×Nat=>[iv s.1,iv s.2]) (s:=(f,i)) (s':=(f+gd w.init.count i,i+1)) (i:=i) ?_ rfl rfl (aL h) ⟨aL h,?_,a6p b e⟩;grind [fX,eM];grind [Ra,aL];have l:i=L w.init.count:=(by grind);have hs:bhL w.init.count i=w.init.count.sum:=(by rw[l,bhL,gV]);have p:∀c∈w.init.count,0<=c/\c<=400:=px.1 (by simp_all);grind [eM,rM,decide_eq_true]
def aUr:FT:=mT Pb
def ay0:=oK aUr Pb
def aO8(s:I5)(e:aP):Bool:=
 bif Q (e.kind=3) then Q<|e.value=gd s.cells e.bF.toNat
 else bif Q (e.kind=23) then Q<|e.value=gd s.bU e.bF.toNat
 else bif Q (e.kind=5) then Q (e.value=0)||Q (e.value=1)
 else bif Q (e.kind=4)||Q (e.kind=22) then U
 else bif Q (e.kind=18) then(bif Q ((L (fO s.bW e.bF):Int)=0) then Q (e.value= -1) else Q (0<=e.value)&&(Q (e.value<L s.bW.ay)&&Q (e.value∈fO s.bW e.bF)))
 else bif Q (e.kind=19) then Q<|e.value=L (fO s.bW e.bF)
 else Q<|e.value=0
def OY(s)(e)(h:L s.bW.ay<1000000/\(e.kind=3->aF (L s.cells) e.bF)/\(e.kind=23->aF (L s.bU) e.bF)):Ct 140 [.a s.c, .a e.c] (·=bv (aO8 s e)):=by refine aLC rfl rfl λl k b d j=>?_;simp only[be8,qz 59,iM,aY,sw,u1,b,d,rk,aj];simp only[qz 57,aI,au];have i:L (fO s.bW e.bF)<4611686018427387904:=rC (wU _ _ _) (by omega);have g:Q (e.kind=3)=U->aF (L s.cells) e.bF:=(by simp_all);have f:Q (e.kind=23)=U->aF (L s.bU) e.bF:=(by simp_all);simp+contextual only[↓iS,eT,K3,ar,b,d,ix,aO8,a7c,a5C,i,h.1,g,f,aO1,aPe]
def FI:FT:=aIc OY
def ayV:=gX FI OY
def aoV:dO:=(139,Cf)::(136,w8)::(133,FB)::(142,FJ)::(68,aUr)::(140,FI)::aoU
def Bs:eJ aoV:=vl (aCb OX)<|vl (nI Pa)<|vl (aCb OH)<|vl (tE O0)<|vl (pg Pb)<|vl (aCb OY)<|wP
def ur:=ai @ayU<|ai @ayZ<|ai @ayE<|ai @ayX<|ai @ay0<|ai @ayV<|@K3
def atT:=kW 12 [(3,([5],[0,1]))]
def aLm{a a1}:=y0 Bs func247 atT [a,a1]
def aui:=kW 16 [(4,([4],[1,3]))]
def aLL{c0}:=y1 43 15 1 Bs func69 aui c0 [.a c0]
def auf:=kW 35 [(4,([4],[1,3])),(13,([6],[1,3,4,5])),(24,([7],[1,3]))]
def aLI{c0}:=y1 43 15 1 Bs func70 auf c0 [.a c0]
def auh:=kW 13 [(3,([7],[1,2,3])),(6,([],[1,2,3,7]))]
def aLK{c0 a1 b}:=y1 43 15 3 Bs func72 auh c0 [.a c0,a1,b]
def Eu(w:am)(j:Nat):Bool:=Q ((gd w.init.bW.ay j).cQ<0)||Q (5<(gd w.init.bW.ay j).cQ)||!((Q ((gd w.init.bW.ay j).cQ=0)||Q ((gd w.init.bW.ay j).cQ=1))==Q (gd w.init.count j=0))||Q ((j:Int)=0)&&Q ((gd w.init.bW.ay j).cQ=0)
def zX(w:am)(j:Nat):Bool:=(Q ((gd w.init.bW.ay j).cQ=3)||Q ((gd w.init.bW.ay j).cQ=4))&&!dh (gd w.init.bW.ay j).cond (L w.aQ.bC)||!(Q ((gd w.init.bW.ay j).cQ=3)||Q ((gd w.init.bW.ay j).cQ=4))&&Q ((gd w.init.bW.ay j).cond≠0)
def aOK(w:am)(j:Nat):Bool:=!Eu w j&&!zX w j
def uZ(w:am):Bool:=Q (∀j,j<L w.init.bW.ay->aOK w j=U)
def Pf(w)(o:L w.init.bW.ay<1000000/\L w.init.count=L w.init.bW.ay):Ct 69 [.a w.c] (·=bv (uZ w)):=by refine aLL rfl λp n d l=>?_;simp+contextual only[eT,d,dc];refine bc4 (L w.init.bW.ay) (λk=>∀j,j<k->aOK w j=U) (by simp) λk m i=>?_;simp+contextual (maxSteps:=3000000) only[qz 25,eT,ur,ar,ix,d,dc,bh];have f:k<L w.init.bW.ay->aOK w k=I->bv I=bv (uZ w):=(by grind [aOK,uZ]);refine⟨λh=>?_,λh=>?_⟩;have b:=vp h;have I2:aF (L w.init.count) (k:Int):=(by simp_all);simp only[b,I2,aO1,aNG];refine⟨λg=>f (aL h) ?_,λg=>⟨λe=>f (aL h) ?_,λe=>gS (aL h) (by omega)<|a6p i ?_⟩⟩;grind [aOK,Eu];grind [aOK,zX];grind [aOK,Eu,zX];grind [aOK,biN,bw,uZ,decide_eq_true]
def FM:FT:=mT Pf
def ay4:=oK FM Pf
def Qy(t:Int):∀(l) (k:Int) (i:Nat),pS t l k i<i+L l\/pS t l k i= -1
 |[],_,_=> .inr rfl
 |e::l,k,i=>by
  simp only[pS,bZ]
  have a:=Qy t l (k-1)<|i+1
  have b:=Qy t l k<|i+1
  omega
def aEu(w)(t k:Int):oV w t k<L w.ac\/oV w t k= -1:=by have:=Qy t w.ac k 0;grind [oV]
def qU(w:am)(t:Int)(n:Int):Bool:=Q (n<gd w.init.count t.toNat)||(Q (0<=oV w t (n-gd w.init.count t.toNat))&&(Q ((gd w.ac (oV w t<|n-gd w.init.count t.toNat).toNat).kind=3)||Q ((gd w.ac (oV w t<|n-gd w.init.count t.toNat).toNat).kind=23)))
def Pe(w)(t:Int)(l)(d:L l<1000000/\L w.ac<1000000/\aF (L w.init.count) t/\(∀c∈w.init.count,0<=c/\c<=400)/\(∀n∈l,-1000<=n/\n<9223372036854775808)):Ct 72 [.a w.c,iv t,sl ci l] (·=bv (Q (∀n∈l,qU w t n=U))):=by refine aLK rfl λy v f m=>?_;refine bc4 (L l) (λk=>∀j,j<k->qU w t (gd l j)=U) (by simp) λk u r=>?_;simp+contextual only[qz 39,qz 41,qz 19,eT,ur,ar,ix,f,dc,bh];have g:k<L l->dq.wrap (gd l k-gd w.init.count t.toNat)=gd l k-gd w.init.count t.toNat:=(by grind [ii,dB,eM]);have q:k<L l->∀x,x=oV w t (gd l k-gd w.init.count t.toNat)->Q (gd l k<gd w.init.count t.toNat)=I->((Q (x<0)||Q ((gd w.ac x.toNat).kind≠3)&&Q ((gd w.ac x.toNat).kind≠23))=I↔qU w t (gd l k)=U):=(by grind [qU]);refine⟨λh=>⟨vp h,d.2.2.1,(by grind [gS,aL,qU]),λs=>?_⟩,λh=>?_⟩;rw[g<|aL h];have o:=d.2.2.2.1 _<|ii d.2.2.1;have p:=d.2.2.2.2 _<|dB<|aL h;have e:∀x,x=oV w t (gd l k-gd w.init.count t.toNat)->(!Q (x<0))=U->aF (L w.ac) x:=λx i b=>(by have:=aEu w t<|gd l k-gd w.init.count t.toNat;simp at b;exact⟨b,by rw[i];omega⟩);refine⟨vp h,d.2.2.1,⟨d.2.1,by omega,by omega⟩,e _ rfl,λb _=>e _ rfl b,λb=>?_,λb=>gS (aL h) (by omega)<|by grind⟩;have:¬(∀n∈l,qU w t n=U):=(by grind [aL,dB]);simp[this];have:∀n∈l,qU w t n=U:=px.1 (by grind);simp_all
def Ci:FT:=qe Pe
def ay3:=sT Ci Pe
def AM(w:am)(j:Nat):Bool:=Q ((gd w.init.bW.ak j).aNN≠-1)&&!nO w (gd w.init.bW.ak j).aNN||Q (0<(L (gd w.init.bW.ak j).bk:Int))&&(!(gd w.aQ.ak j).rw||Q ((gd w.init.bW.ak j).aNN≠-1))
def yA(w:am)(l:d0)(i:Nat):Prop:=nO w (gd l i)=U/\(0<i->gd l (i-1)<gd l i)
def QN(w:am)(l:d0):Prop:=∀i,i<L l->yA w l i
instance{w:am}{l:d0}{i:Nat}:Decidable (yA w l i):=by unfold yA;infer_instance
instance{w:am}{l:d0}:Decidable (QN w l):=by unfold QN;infer_instance
def uD(w:am)(j:Nat):Prop:=AM w j=I/\QN w (gd w.init.bW.ak j).bk
instance{w:am}{j:Nat}:Decidable (uD w j):=by unfold uD;infer_instance
def yS(w:am):Bool:=Q (w.init.bW.tx≠-1)&&!nO w w.init.bW.tx
def pX(w:am)(j:Nat):Bool:=!((gd w.init.bW.ay j).atomic&&!nO w j)&&!((Q ((gd w.init.bW.ay j).cQ=3)||Q ((gd w.init.bW.ay j).cQ=4))&&Q ((gd w.init.bW.ak (gd w.aQ.bC (gd w.init.bW.ay j).cond.toNat).eg.toNat).aNN=j))
def ny(w:am):Bool:=Q (∀j,j<L w.init.bW.ak->uD w j)&&(!yS w&&Q (∀j,j<L w.init.bW.ay->pX w j=U))
def Pc(w)(F:L w.init.bW.ak<1000000/\L w.init.bW.ay<1000000/\L w.init.bW.ak=L w.aQ.ak/\(∀l∈w.init.bW.ak,L l.bk<4611686018427387904)/\(∀c∈w.aQ.bC,aF (L w.aQ.ak) c.eg)/\uZ w=U):Ct 70 [.a w.c] (·=bv (ny w)):=by refine aLI rfl λs4 E x h0=>?_;simp+contextual only[qy 4,qy 6,eT,x,dc];refine eF rfl rfl (by decide) (by omega) λY t O=>?_;have y:=t.bt x;refine pQ (L w.init.bW.ak) [5] (λk=>∀j,j<k->uD w j) (by simp) λk X R v d=>?_;have e:=d.bt y;have m:=d.bt O;simp+contextual (maxSteps:=3000000) only[qz 25,qy 8,eT,ur,ar,ix,e,m,bh];have r:∀j,j<L w.init.bW.ak->¬uD w j->bv I=bv (ny w):=(by grind [uD,ny,decide_eq_false]);refine⟨λh=>⟨vp h,?_⟩,λh=>⟨λW=>?_,λW=>?_⟩⟩;refine eF rfl rfl (by decide) (by rw[d.1,t.1,E];decide) λK b q=>?_;have n:=b.bt e;have s:=b.bt m;simp+contextual (maxSteps:=3000000) only[qz 10,eT,ur,ar,ix,n,q,bh];refine⟨(by grind [dJ,aL]),λB=>r k (aL h) λu=>?_,λB=>?_⟩;have h1:=u.1;grind [AM];have hR:=F.2.2.2.1 _<|dB<|aL h;refine bc4 (L (gd w.init.bW.ak k).bk) (λi=>∀j,j<i->yA w (gd w.init.bW.ak k).bk j) (by simp) λi hi T=>?_;simp+contextual (maxSteps:=3000000) only[qz 79,eT,ur,ar,ix,n,q,bh];have hs:0<i->(dq.wrap<|(i:Int)-1).toNat=i-1/\dq.wrap ((i:Int)-1)=((i-1:Nat):Int):=(by grind [eM]);have S:(!nO w (gd (gd w.init.bW.ak k).bk i)||Q (0<(i:Int))&&Q (gd (gd w.init.bW.ak k).bk i<=gd (gd w.init.bW.ak k).bk (dq.wrap<|(i:Int)-1).toNat))=I↔yA w (gd w.init.bW.ak k).bk i:=(by grind [yA]);refine⟨λf=>⟨vp f,λ_ _=>vp f,λ_ o=>?_,λo=>r k (aL h) λu=>?_,λo=>gS (aL f) (by omega)<|by grind⟩,λf=>?_⟩;grind [aL,dJ];rw[S.2<|u.2 i<|aL f] at o;cases o;refine oL (aL h) (by omega) (a6p v ⟨B,λj P=>T j<|biN P<|bw f⟩)<|d.trans b;grind [ny,yS];have hA:∀j,j<L w.init.bW.ak->uD w j:=(by grind);have C:∀j,j<L w.init.bW.ay->pX w j=I->bv I=bv (ny w):=(by grind [pX,ny,decide_eq_false]);have G:=aNQ F.2.2.2.2.2;refine pQ (L w.init.bW.ay) [8] (λk=>∀j,j<k->pX w j=U) (by simp) λk K R v b=>?_;have n:=b.bt e;have s:=b.bt m;simp+contextual (maxSteps:=3000000) only[qz 145,qy 12,eT,ix,s,bh];refine⟨λh=>⟨vp h,?_⟩,λh=>?_⟩;refine eF rfl rfl (by decide) (by rw[b.1,d.1,t.1,E];decide) λZ g D=>?_;have M:=g.bt n;have N:=g.bt s;simp+contextual (maxSteps:=3000000) only[qz 14,eT,ur,ar,ix,M,N,D];have p:(Q ((gd w.init.bW.ay k).cQ=3)||Q ((gd w.init.bW.ay k).cQ=4))=U->aF (L w.aQ.bC) (gd w.init.bW.ay k).cond:=λH=>(by have:=G k<|aL h;simp only[aOK,zX,H,iw,fh,kM,Bool.or_false,Bool.not_not,bN] at this;exact dX.1 this.2);refine⟨λz=>C k (aL h) ?_,λz=>⟨p,λH=>?_,λA=>C k (aL h) ?_,λA=>oL (aL h) (by omega) (a6p v ?_)<|b.trans g⟩⟩;rw[pX,z];rfl;grind [ii];rw[pX,A];simp;grind [pX];grind [pX,biN,bw,ny,decide_eq_true,yS]
def FL:FT:=mT Pc
def ay1:=oK FL Pc
def pU{l:d0}:∀r∈l.map ci,L r=1:=by simp
def fk:d0->Int->d0|[],n=>[n]|x::l,n=>if x<n then x::fk l n else if x=n then x::l else n::x::l
def QJ:∀(l) (n:Int) (k:Nat),k<=L l->(∀j,j<k->gd l j<n)->(k<L l->¬gd l k<n)->fk l n=if k<L l/\gd l k=n then l else l.take k++n::l.drop k
 |[],n,k,b,_,_=>by grind [fk]
 |x::l,n,0,_,_,a=>by
  have:=a (by simp)
  simp only[gd,RQ] at this
  simp only[fk,r9 this,gd,RQ,bZ,Nat.zero_lt_succ,aNG,CE,ip,dW]
 |x::l,n,k+1,b,c,a=>by
  have d:=c 0 (by omega)
  simp only[gd,RQ] at d
  have e:=QJ l n k (by grind) (by grind [gd]) (by grind [gd])
  grind [gd,fk,bZ]
def QK:∀(l) (n:Int),L (fk l n)<=L l+1
 |[],n=>by simp[fk]
 |x::l,n=>by
  have:=QK l n
  grind [fk]
def OL(l)(n:Int)(C:L l<1000000):Ct 247 [sl ci l,iv n] (λr=>∃t o,r= .l ((fk l n).map ci) t o):=by refine aLm λs0 e A=>?_;refine bc4 (L l) (λk=>∀j,j<k->gd l j<n) (by simp) λk q p=>?_;simp+contextual only[qz 19,qz 2,eQ,ix,rk,bh,nS,aov,aFj];have d:=QJ l n k q p;refine⟨λh=>vp h,λh=>?_,λh=>⟨λa=>vp a,λa=>⟨I,I,?_⟩,λa=>⟨(by omega),?_⟩⟩⟩;grind [gS,aL];rw[bN] at a;have i:=aNQ a.2;rw[d (λ_=>by omega),sz ⟨aL a.1,i⟩];rfl;have B:k<L l->¬gd l k<n:=(by simp_all);have m:¬(k<L l/\gd l k=n):=(by simp_all);rw[r9 m] at d;refine fP (ds:=[38,42,47]) Gr.nil rfl (by decide) (by decide) (by omega) (by simp) pU (by grind) λa1 v g1 b=>?_;rw[dW] at g1;simp only[qz 4,qy 6,iz,bQ];refine fP g1 rfl (by decide) (by decide) (by rw[b.1,e];decide) pU (pU (l:=[n])) (by grind) λy w c f=>?_;rw[show(l.take k).map ci++[[AV.s<|.int .i64 n]]=(l.take k++[n]).map ci by simp] at c;simp only[qz 8,qy 10,au,aIg,bh];refine⟨(by omega),?_⟩;refine fP c rfl (by decide) (by decide) (by rw[f.1,b.1,e];decide) pU pU (by grind) λz x g u=>?_;refine qV g λt=>⟨t,U,?_⟩;simp_all
def BX:FT:=pn OL
def ayI:=rQ BX OL
def aoW:dO:=(69,FM)::(72,Ci)::(70,FL)::(247,BX)::aoV
def Rb:eJ aoW:=vl (pg Pf)<|vl (tE Pe)<|vl (pg Pc)<|vl (aN0 OL)<|Bs
def K7:=ai @ay4<|ai @ay3<|ai @ay1<|ai @ayI<|@ur
def atW:=kW 9 [(4,([4],[1,2,3]))]
def aLp{c0}:=yB1 36 4 1 Rb func177 atW c0 [.a c0]
def atU:=kW 15 [(4,([5,6],[0,1])),(10,([5,7],[1]))]
def aLn{a a1}:=y0 Rb func204 atU [a,a1]
def fl:AV->Bool| .s _| .l _ _ _| .m _ _=>U|_=>I
def pv{e}{z d:Nat}{zs Y K}(h:L zs=z)(g:0<z)(c:d<L Y)(b:∀Y',Fr Y Y' [d]->box Y' (d,(aZ Y d).I6+1)=V ⟨e,z,U,U,[zs]⟩->K (.p (d,(aZ Y d).I6+1) 0 0) Y'):eV (alA e zs Y d) K:=by have a:alA e zs Y d=V (.p (d,(aZ Y d).I6+1) 0 0,put Y d ⟨e,z,U,U,[zs]⟩):=(by grind [alA,aPF,I8]);rw[a];exact b _ ⟨D3,λk f=>yk<|λe=>f<|by simp[e]⟩<|zQ c rfl
def dT{a l R}(h:(l.all λp=>eL (a.getD p.1 (U,[]))<|a.getD p.2 (U,[]))=U)(b:R):dH a l R:=by grind [ale,dV]
def uc{Y ds e z a bA}(b:Gr Y ds e z a bA):eY a=V [a]:=by rcases b with⟨_,rfl⟩|⟨d,v,rfl,_⟩<;>rfl
theorem Gr.fr{Y Y' ds b e z a bA}(j:Gr Y ds e z a bA)(i:Fr Y Y' b)(l:∀k∈ds,k∉b):Gr Y' ds e z a bA:=by rcases j with h|⟨d,v,f,c,g⟩;exact .inl h;exact .inr ⟨d,v,f,c,by rw[i.box<|l d c];exact g⟩
def Ev{Y}{d v j z:Nat}{e o r x K}(a:box Y (d,v)=V ⟨e,z,o,U,[r]⟩)(h:d<L Y)(g:eY x=V [x])(i:j<L r)(c:∀Y',Fr Y Y' [d]->box Y' (d,v)=V ⟨e,z,o,U,[r.set j x]⟩->K Y'):sV (aK 1 Y (.p (d,v) 0 j) x) K:=by have b:aK 1 Y (.p (d,v) 0 j) x=V (wr Y (d,v) ⟨e,z,o,U,[r.set j x]⟩):=(by simp only[aK,aBG,a,a7g,pW,g,qh,bZ,aO6];grind [Option.some.injEq,GP]);rw[b];exact c _ ⟨uC,λk f=>wy<|λe=>f<|by simp[e]⟩<|lO a
def gN{Y}{d v z:Nat}{e o r cs K}(f:box Y (d,v)=V ⟨e,z,o,U,[r]⟩)(i:d<L Y)(j:L r=z)(h:L cs=z)(c:∀Y',Fr Y Y' [d]->box Y' (d,v)=V ⟨e,z,o,U,[cs]⟩->K Y'):sV (aK z Y (.p (d,v) 0 0)<|.a cs) K:=by have b:aK z Y (.p (d,v) 0 0) (.a cs)=V (wr Y (d,v) ⟨e,z,o,U,[cs]⟩):=(by grind [aK,aBG,pW,eY,qh]);rw[b];exact c _ ⟨uC,λk g=>wy<|λe=>g<|by simp[e]⟩<|lO f
def awE{Y zs x a ds e}{z:Nat}{bA K}(j:L zs=2)(i:∃y,x= .s y)(c:Gr Y ds e z a bA)(b:∀Y',Fr Y Y' ds->K (.l [[x, .l bA I I]] U U) Y'):eV (aX zs 1 Y [(0, .a [x,a])]) K:=by obtain⟨y,rfl⟩:=i;obtain⟨z0,z1,rfl⟩:∃z0 z1,zs=[z0,z1]:=(by match zs,j with|[z0,z1],_=>simp);rcases c with⟨rfl,rfl⟩|⟨d,v,rfl,g,f⟩;have:aX [z0,z1] 1 Y [(0, .a [.s y, .l [] U U])]=V (.l [[.s y, .l [] I I]] U U,Y):=(by simp[aX,aly,eY,nrm,gK,eR,gi,eB,iR,kills,kC,eN]);rw[this];exact b Y<|Fr.refl _ _;have:aX [z0,z1] 1 Y [(0, .a [.s y, .m (d,v)<|L bA])]=V (.l [[.s y, .l bA I I]] U U,kill Y (d,v)):=(by simp[aX,aly,eY,nrm,gK,eR,gi,f,eB,iR,kills,kC,eN]);rw[this];exact b _ ⟨Qi,λk h=>ani<|λe=>h<|by rw[e];exact g⟩
def xL{Y ds e}{z:Nat}{a bA K}{i:Int}(h:Gr Y ds e z a bA)(b:aF (L bA) i)(j:∀d v,d∈ds->a= .m (d,v) (L bA)->box Y (d,v)=V ⟨e,z,U,I,bA⟩->K (.p (d,v) i.toNat 0)):rV (cz z Y a<|iv i) K:=by rcases h with⟨rfl,rfl⟩|⟨d,v,rfl,f,c⟩;have:=b.1;have:=b.2;grind;have g:i.toNat<L bA:=(by have:=b.1;have:=b.2;omega);simp only[cz,b.1,a7g,c,aPy,g,aPe];exact j d v f rfl c
def Dz{Y e}{z d v i j:Nat}{bA r x y K}(a:box Y (d,v)=V ⟨e,z,U,I,bA⟩)(o:d<L Y)(h:bA[i]?=V r)(q:j<L r)(l:nrm (eR Y x)=y)(f:eB x=[])(m:eY y=V [y])(n:eN y=U)(c:∀Y',Fr Y Y' [d]->box Y' (d,v)=V ⟨e,z,U,I,bA.set i<|r.set j y⟩->K Y'):sV (aK 1 Y (.p (d,v) i j) x) K:=by have b:aK 1 Y (.p (d,v) i j) x=V (wr Y (d,v) ⟨e,z,U,I,bA.set i<|r.set j y⟩):=(by simp only[aK,aBG,a,eE,brP,f,kills,aRl,pW,l,m,h,bZ,aO6];grind [GP]);rw[b];exact c _ ⟨uC,λk g=>wy<|λe=>g<|by simp[e]⟩<|lO a
def anc{Y e z d v i j bA o b r q}(a:box Y (d,v)=V ⟨e,z,o,b,bA⟩)(c:bA[i]?=V r):Iy q Y (.p (d,v) i j)=aN q (r.drop j):=by simp[Iy,iE,a,c]
def mo{e:TypeId}{z d n:Nat}{zs:dM}{Y:ae}{K:be}(f:L Y=n)(b:∀Y',Fr Y Y' [d]->box Y' (d,(aZ Y d).I6+1)=V ⟨e,z,U,U,[zs]⟩->K (.p (d,(aZ Y d).I6+1) 0 0) Y')(g:L zs=z:=by exact rfl)(a:0<z:=by decide)(c:d<n:=by decide):eV (alA e zs Y d) K:=pv g a (f▸c) b
def qW{α:Type}{f:α->dM}{z:Nat}(a:∀x,L (f x)=z){l:List α}:∀r∈l.map f,L r=z:=by simp_all
def uS{a b c d}:aN (V 4) [a,b,c,d]=V (.a [a,b,c,d]):=rfl
def iF{a l}:aN J (a::l)=V a:=rfl
def zU{v}:eY (.s v)=V [.s v]:=rfl
def aqx(s:aW)(r:AV)(Y:ae):Prop:=∃a1 b d,r= .a [a1,iv s.tx,b,d]/\Gr Y [41] 184 2 a1 (s.ak.map cg.c)/\Gr Y [10] 4 1 b (s.done.map cb)/\Gr Y [14] 138 3 d (s.ay.map aoC.c)
def aCH(s){s0}(hs:L s0=4096)(hp:L s.ak<100000/\L s.done<100000/\L s.ay<100000/\∀l∈s.ak,L l.bk<1000000):∃r p,(aqx s r p/\Fr s0 p [1,2,3,10,14,38,41])/\cZ aS GG 177 [.a s.c] s0 r p:=by refine aLp hs rfl λs2 v1 y am _ b1=>?_;have m:=y.len.trans hs;have d:Fr s0 s2 [1]:=⟨y.len,λk hk=>am k<|by simpa using hk⟩;refine mo m λs4 f b4=>?_;have z:=f.bt b1;simp only[qz 4,qz 6,qy 8,eT,z,nS];refine fP (ds:=[10]) Gr.nil rfl (by decide) (by decide) (by rw[f.1,m];decide) (by simp) (by grind) (by grind) λq s6 u g=>?_;rw[dW] at u;have A:=g.bt z;simp only[qz 10,eT,A];refine fP (ds:=[14]) Gr.nil rfl (by decide) (by decide) (by rw[g.1,f.1,m];decide) (by simp) (by grind [aoC.c]) (by grind) λt s8 v i=>?_;rw[dW] at v;have aa:=u.fr i (by decide);have ag:bM aNC bqM [(1,iv s.tx),(2,q),(3,t)]=V (.a [.l [] U U,iv s.tx,q,t]):=(by simp[bM,aly,uc u,uc v,zU]);simp only[qz 12,qy 14,ag,u0];refine eF rfl rfl (by decide) (by rw[i.1,g.1,f.1,m];decide) λF b O=>?_;simp only[qz 16];refine dT ?_ ?_;rcases u with⟨_,T⟩|⟨d2,v2,T,C,_⟩<;>rcases v with⟨_,W⟩|⟨d3,v3,W,D,_⟩<;>(try simp only[cE] at C)<;>(try simp only[cE] at D)<;>(try subst C)<;>(try subst D)<;>rw[T,W]<;>rfl;have P:=b.bt<|i.bt A;have R:=b.bt<|i.bt<|g.bt b4;have ab:=aa.fr b (by decide);have ac:=v.fr b (by decide);have K:L F=4096:=(by rw[b.1,i.1,g.1,f.1,m]);refine⟨λvs Y=>∃(k:Nat) (a1:AV),vs=[iv k]/\k<=L s.ak/\Fr F Y [3,38,41]/\box Y (3,(aZ s8 3).I6+1)=V ⟨36,4,U,U,[[a1,iv s.tx,q,t]]⟩/\Gr Y [41] 184 2 a1 ((s.ak.take k).map cg.c),fM<|L s.ak,⟨0,_,rfl,mh _,Fr.refl _ _,O,Gr.nil⟩,?_⟩;rintro vs Y ⟨k,a1,rfl,hk,e,hb,g1⟩;have S:=e.bt P;have c4:=e.bt R;simp+contextual only[qz 25,qy 28,eT,uS,iF,S,hb,ix,bh,nS];have M:L Y=4096:=(by rw[e.1,K]);refine⟨λh=>⟨vp h,?_⟩,λh=>?_⟩;have hR:=hp.2.2.2 _<|dB<|aL h;simp only[qz 18,au,eT,S,ix,bh];refine⟨vp h,?_⟩;refine fP (ds:=[38]) Gr.nil rfl (by decide) (by decide) (by omega) (by simp) (by simp) (by grind) λN p w j=>?_;rw[dW] at w;have H:bM btg brL [(0,iv (gd s.ak k).aNN),(1,N)]=V (.a [iv (gd s.ak k).aNN,N]):=(by simp[bM,aly,uc w,zU]);simp only[qz 20,qy 22,H,u0];refine awE rfl ⟨_,rfl⟩ w λY2 d=>?_;have Z:=(g1.fr j<|by decide).fr d (by decide);refine fP Z rfl (by decide) (by decide) (by rw[d.1,j.1,M];decide) (by grind [cg.c]) (by grind [cg.c,gd]) (by grind) λa5 Y3 g5 G=>?_;have B:=G.bt<|d.bt<|j.bt hb;simp only[qz 24,eQ,B,kP];refine Ev B (by rw[G.1,d.1,j.1,M];decide) (uc g5) (by simp) λY4 x af=>?_;simp only[qz 26];refine dT ?_ ?_;rcases w with⟨_,X⟩|⟨d4,v4,X,E,_⟩<;>(try simp only[cE] at E)<;>(try subst E)<;>rw[X]<;>rfl;simp only[au,cS,aY];have n:=aL h;rw[fX<|by omega];refine⟨⟨k+1,a5,rfl,n,?_,af,?_⟩,?_⟩;exact e.trans ((j.mono<|by simp).trans<|(d.mono<|by simp).trans<|(G.mono<|by simp).trans<|x.mono<|by simp);have:=g5.fr x (by decide);rw[show s.ak.take (k+1)=s.ak.take k++[gd s.ak k] by rw[bT n,iJ n],dg];exact this;grind [fM,cM,bh];have al:k=L s.ak:=(by grind);refine gN c4 (by omega) rfl rfl λY5 o b5=>?_;simp only[b5,eQ,uS,aNR,aoz];rw[al,gV] at g1;refine⟨⟨a1,q,t,rfl,g1.fr o (by decide),(ab.fr e<|by decide).fr o (by decide),(ac.fr e<|by decide).fr o<|by decide⟩,?_⟩;exact(d.mono<|by simp).trans ((f.mono<|by simp).trans<|(g.mono<|by simp).trans<|(i.mono<|by simp).trans<|(b.mono<|by simp).trans<|(e.mono<|by simp).trans<|o.mono<|by simp)
def Dj(a b:AV):Prop:=∀k∈zt a,k∉zt b
theorem KJ{Y g h e j z m a f bA b}(l:Gr Y g e z a bA)(i:Gr Y h j m f b)(p:∀k∈g,k∉h):Dj a f:=by rcases l with⟨_,rfl⟩|⟨d,v,rfl,r,_⟩;intro k c;simp[zt,dC,dK] at c;rcases i with⟨_,rfl⟩|⟨q,v',rfl,n,_⟩;intro k c;simp[zt,dC,dK];intro k c o;grind [zt,dC,dK,cE]
def jH{fn:Nat}{xs Y}{d:Nat}{K Q:be}(f:uQ.elem fn=I)(h:∃r a,Q r a/\cZ aS GG fn xs Y r a)(e:∀r a,Q r a->L a=L Y/\K r a):cB fn xs Y d K:=by obtain⟨r,a,b,c⟩:=h;refine⟨r,a,c,(e r a b).1,?_⟩;rw[r9<|by show¬uQ.elem fn=U;rw[f];simp];simp_all
theorem Gr.sub{Y ds b e z a bA}(i:Gr Y ds e z a bA)(j:∀k∈ds,k∈b):Gr Y b e z a bA:=by rcases i with h|⟨d,v,c,f,g⟩;exact .inl h;exact .inr ⟨d,v,c,j d f,g⟩
def awZ{s:aW}{Y}{d:Nat}{K}(g:L s.ak<100000/\L s.done<100000/\L s.ay<100000/\∀l∈s.ak,L l.bk<1000000)(hs:L Y=4096)(k:∀a1 b e Y',Fr Y Y' [1,2,3,10,14,38,41]->Gr Y' [10,14,41] 184 2 a1 (s.ak.map cg.c)->Gr Y' [10,14,41] 4 1 b (s.done.map cb)->Gr Y' [10,14,41] 138 3 e (s.ay.map aoC.c)->Dj a1 b->Dj a1 e->Dj b e->K (.a [a1,iv s.tx,b,e]) Y'):cB 177 [.a s.c] Y d K:=by refine jH rfl (aCH s hs g) ?_;rintro r h ⟨⟨a1,b,e,rfl,g1,i,j⟩,f⟩;exact⟨f.1,by grind [Gr.sub,KJ]⟩
def QS{bA}{Q:cC}:(∀r,(∃t o,r=AV.l bA t o)->Q r)=∀t o,Q (.l bA t o):=by grind
def ang{Y bA t o v r}:lo Y [.l bA t o, .s v] r=True:=by simp[lo,nA,eB,iR]
def jh(l:d0)(a:d0)(k:Nat):d0:=(a.take k).foldl fk l
theorem QL{l a}{k:Nat}(h:k<L a):jh l a (k+1)=fk (jh l a k) (gd a k):=by rw[jh,iJ h,RO,bT h];rfl
def Bh{l a}:∀{k:Nat},k<=L a->L (jh l a k)<=L l+k
 |0,_=>by simp[jh]
 |k+1,h=>by
  rw[QL<|by omega]
  have:=QK (jh l a k)<|gd a k
  have:=Bh (l:=l) (a:=a) (k:=k) (by omega)
  omega
def mP(a b:d0):d0:=jh (jh [] a<|L a) b<|L b
def OM(a b)(n:L a+L b<900000):Ct 204 [sl ci a,sl ci b] (λr=>∃t o,r= .l ((mP a b).map ci) t o):=by refine aLn λs0 m j=>?_;refine yh (λs:Bool×Bool×Nat=>[.l ((jh [] a s.2.2).map ci) s.1 s.2.1,iv s.2.2]) 1 (L a) (λs=>s.2.2<=L a) (U,U,0) (by simp) ?_;rintro⟨t,o,k⟩ c;simp only at c;have e:=Bh (l:=[]) (a:=a) c;simp+contextual only[qz 25,eQ,K7,ar,ix,rk,bh,QS,ang];refine⟨λh=>⟨vp h,by simp only[aO6] at e;omega,λf o'=>?_⟩,λh=>?_⟩;have:=aL h;refine wN (enc:=λs:Bool×Bool×Nat=>[.l ((jh [] a s.2.2).map ci) s.1 s.2.1,iv s.2.2]) (s:=(t,o,k)) (s':=(f,o',k+1)) (i:=k) ?_ rfl rfl (aL h)<|aL h;grind [fX,QL,aL];have d:k=L a:=(by grind);subst d;refine yh (λs:Bool×Bool×Nat=>[.l ((jh (jh [] a<|L a) b s.2.2).map ci) s.1 s.2.1,iv s.2.2]) 1 (L b) (λs=>s.2.2<=L b) (t,o,0) (by simp) ?_;rintro⟨t,o,k⟩ c;simp only at c;have g:=Bh (l:=jh [] a<|L a) (a:=b) c;simp+contextual only[qz 61,eQ,K7,ar,ix,rk,bh,QS,ang];refine⟨λh=>⟨vp h,by simp only[aO6] at e;omega,λf o'=>?_⟩,λh=>?_⟩;have:=aL h;refine wN (enc:=λs:Bool×Bool×Nat=>[.l ((jh (jh [] a<|L a) b s.2.2).map ci) s.1 s.2.1,iv s.2.2]) (s:=(t,o,k)) (s':=(f,o',k+1)) (i:=k) ?_ rfl rfl (aL h)<|aL h;grind [fX,QL,aL];have d:k=L b:=(by grind);subst d;exact⟨rfl,t,o,rfl⟩
def FE:FT:=pn OM
def ayJ:=rQ FE OM
def aoX:dO:=(204,FE)::aoW
def apa:eJ aoX:=vl (aN0 OM)<|Rb
def wa:=ai @ayJ<|@K7
def atV:=kW 43 [(6,([15],[7,12])),(10,([45],[2,4,5,6,7,12,15,30])),(12,([54],[2,4,5,6,7,12,15,30])),(29,([17],[7,12])),(36,([19],[7,12,18]))]
def aLo{c0 b c d e f}:=y2 31 6 6 36 4 7 apa func141 atV c0 b [.a c0, .a b,c,d,e,f]
structure Sy(Y:ae)(d v:Nat)(sp:eP)(s:aW)(a1 a2 a3:AV):Prop where
 bx:box Y (d,v)=V ⟨36,4,U,U,[[a1,iv s.tx,a2,a3]]⟩
 g1:Gr Y sp 184 2 a1 (s.ak.map cg.c)
 g2:Gr Y sp 4 1 a2 (s.done.map cb)
 g3:Gr Y sp 138 3 a3 (s.ay.map aoC.c)
 d12:Dj a1 a2
 d13:Dj a1 a3
 d23:Dj a2 a3
theorem Dj.no{a b d v n}(h:Dj a b)(e:a= .m (d,v) n):d∉zt b:=h d (by grind [zt,dC,dK])
def Dj.sym{a b}(h:Dj a b):Dj b a:=λk f e=>h k e f
def Gr.other{Y Y' ds e z d a bA}(k:Gr Y ds e z a bA)(j:Fr Y Y' [d])(l:d∉zt a):Gr Y' ds e z a bA:=by rcases k with h|⟨f,v,rfl,g,i⟩;exact .inl h;refine .inr ⟨f,v,rfl,g,?_⟩;rw[j.box<|by grind [cE,zt,dC,dK]];exact i
def map_set{α:Type}{f:α->dM}{l:List α}{i x}:(l.map f).set i (f x)=(l.set i x).map f:=by simp
def aO7{Y}{d v:Nat}{g s a1 n l}{i:Int}{j:Nat}{x}{K:AV->be}(S:Sy Y d v g s a1 n l)(t:∀k∈g,k<L Y/\k≠d)(r:aF (L s.ay) i)(z:j<3)(u)(E:(gd s.ay i.toNat).c.set j (.s x)=u.c)(w:∀e v' Y',e∈g->Fr Y Y' g->Sy Y' d v g {s with ay:=s.ay.set i.toNat u} a1 n l->K (.p (e,v') i.toNat 0) (.p (e,v') i.toNat j) Y'):rV (cz 3 Y l<|iv i) λp=>rV (iQ j Y p) λq=>sV (aK 1 Y q<|.s x) (K p q):=by have D:L (s.ay.map aoC.c)=L s.ay:=(by simp);refine xL S.g3 (by simp_all) λe v' f m o=>?_;rw[rR,o];have A:(s.ay.map aoC.c)[i.toNat]?=V (gd s.ay i.toNat).c:=(by have C:i.toNat<L s.ay:=(by have:=r.1;have:=r.2;omega);grind [eC,bT]);show sV (aK 1 Y (.p (e,v') i.toNat<|0+j)<|.s x)<|K _<|.p (e,v') i.toNat<|0+j;rw[aj];refine Dz (y:= .s x) o (t e f).1 A z rfl rfl rfl rfl λY' h B=>?_;refine w e v' Y' f (h.mono<|by simp[f]) ⟨?_,?_,?_,?_,S.d12,S.d13,S.d23⟩;rw[h.box<|by grind];exact S.bx;exact S.g1.other h<|S.d13.sym.no m;exact S.g2.other h<|S.d23.sym.no m;refine .inr ⟨e,v',?_,f,?_⟩;rw[m];simp;simp_all
def yO{Y}{d v:Nat}{g s a1 m n}{i:Int}{j:Nat}{x y}{K:AV->be}(S:Sy Y d v g s a1 m n)(u:∀k∈g,k<L Y/\k≠d)(t:aF (L s.ak) i)(B:j<2)(D:nrm (eR Y x)=y)(w:eB x=[])(E:eY y=V [y])(r:eN y=U)(z)(M:(gd s.ak i.toNat).c.set j y=z.c)(A:∀e v' Y',e∈g->Fr Y Y' g->Sy Y' d v g {s with ak:=s.ak.set i.toNat z} a1 m n->K (.p (e,v') i.toNat 0) (.p (e,v') i.toNat j) Y'):rV (cz 2 Y a1<|iv i) λp=>rV (iQ j Y p) λq=>sV (aK 1 Y q x) (K p q):=by have H:L (s.ak.map cg.c)=L s.ak:=(by simp);refine xL S.g1 (by simp_all) λe v' f l o=>?_;rw[rR,o];have C:(s.ak.map cg.c)[i.toNat]?=V (gd s.ak i.toNat).c:=(by have G:i.toNat<L s.ak:=(by have:=t.1;have:=t.2;omega);grind [eC,bT]);show sV (aK 1 Y (.p (e,v') i.toNat<|0+j) x)<|K _<|.p (e,v') i.toNat<|0+j;rw[aj];refine Dz (y:=y) o (u e f).1 C B D w E r λY' h F=>?_;refine A e v' Y' f (h.mono<|by simp[f]) ⟨?_,?_,?_,?_,S.d12,S.d13,S.d23⟩;rw[h.box<|by grind];exact S.bx;refine .inr ⟨e,v',?_,f,?_⟩;rw[l];simp;simp_all;exact S.g2.other h<|S.d12.no l;exact S.g3.other h<|S.d13.no l
def aIC{Y}{d v:Nat}{g s a1 h l}{i:Int}{b K}(S:Sy Y d v g s a1 h l)(o:∀k∈g,k<L Y/\k≠d)(n:aF (L s.done) i)(q:∀Y',Fr Y Y' g->Sy Y' d v g {s with done:=s.done.set i.toNat b} a1 h l->K Y'):rV (cz 1 Y h<|iv i) λp=>sV (aK 1 Y p<|bv b) K:=by have x:L (s.done.map cb)=L s.done:=(by simp);refine xL S.g2 (by simp_all) λm v' e j r=>?_;have t:(s.done.map cb)[i.toNat]?=V (cb<|gd s.done i.toNat):=(by have w:i.toNat<L s.done:=(by have:=n.1;have:=n.2;omega);grind [eC,bT]);refine Dz (y:=bv b) r (o m e).1 t (by simp) rfl rfl rfl rfl λY' f u=>?_;refine q Y' (f.mono<|by simp[e]) ⟨?_,?_,?_,?_,S.d12,S.d13,S.d23⟩;rw[f.box<|by grind];exact S.bx;exact S.g1.other f<|S.d12.sym.no j;refine .inr ⟨m,v',?_,e,?_⟩;rw[j];simp;simp_all;exact S.g3.other f<|S.d23.no j
def ni(s:aW)(i:Int)(e:aoC):aW:={s with ay:=s.ay.set i.toNat e}
def J9(s:aW)(i:Int)(e:cg):aW:={s with ak:=s.ak.set i.toNat e}
def fA(s:aW)(i:Int):aoC:=gd s.ay i.toNat
def cH(s:aW)(i:Int):cg:=gd s.ak i.toNat
def tD(s:aW)(bF arm:Int):Int:=if arm∈fO s bF then arm else gd (fO s bF) 0
def cU(w:pz)(s:aW)(t e bF arm:Int):aW×Int:=
 if e=1 then(ni s t {fA s t with cQ:=2},0)
 else if e=2 then(ni s t {fA s t with cQ:=5},0)
 else if e=6\/e=10 then(J9 s bF {cH s bF with aNN:=t},0)
 else if e=7\/e=11 then(J9 s bF {cH s bF with aNN:= -1},0)
 else if e=8 then(J9 s bF {cH s bF with bk:=mP (cH s bF).bk [t]},0)
 else if e=9 then(J9 s bF {cH s bF with bk:=fJ (cH s bF).bk t},0)
 else if e=12 then({s with tx:=t},0)
 else if e=13 then({s with tx:= -1},0)
 else if e=14 then(ni s t {fA s t with atomic:=U},0)
 else if e=15 then(ni s t {fA s t with atomic:=I},0)
 else if e=16 then(ni (J9 s (gd w.bC bF.toNat).eg {cH s (gd w.bC bF.toNat).eg with aNN:= -1}) t {fA s t with cQ:=3,cond:=bF},0)
 else if e=17 then(ni (J9 s (gd w.bC bF.toNat).eg {cH s (gd w.bC bF.toNat).eg with aNN:=t}) t {fA s t with cQ:=2,cond:=0},0)
 else if e=18 then(if fO s bF=[] then(s,-1) else(ni s (tD s bF arm) {fA s (tD s bF arm) with cQ:=4},tD s bF arm))
 else if e=19 then((fO s bF).foldl (λs u=>ni s u {fA s u with cQ:=4}) s,L<|fO s bF)
 else if e=20 then(ni s bF {fA s bF with cQ:=1},0)
 else if e=22 then({s with done:=s.done.set bF.toNat U},0)
 else(s,0)
def aBt{Y ds e z a bA}(g:Gr Y ds e z a bA):∃f o,gi Y a= .l bA f o:=by rcases g with⟨rfl,rfl⟩|⟨d,v,rfl,_,h⟩;exact⟨_,_,rfl⟩;simp_all [gi]
def sU{Y ds e z a bA}(g:Gr Y ds e z a bA):∃f o,dQ Y a= .l bA f o:=by rcases g with⟨rfl,rfl⟩|⟨d,v,rfl,h,i⟩;exact⟨_,_,rfl⟩;simp_all [dQ]
def eD(s:aW)(f:Bool×Bool×Bool×Bool×Bool×Bool):dM:=[.l (s.ak.map cg.c) f.1 f.2.1,iv s.tx, .l (s.done.map cb) f.2.2.1 f.2.2.2.1, .l (s.ay.map aoC.c) f.2.2.2.2.1 f.2.2.2.2.2]
def avt{Y m s' a1 e g}{v:Int}{R}{h:Nat}{r}(S:Sy Y 7 1 m s' a1 e g)(F:∀k∈m,k≠12)(C:box Y (12,h)=V ⟨36,4,U,U,[r]⟩)(D:L r=4)(G:L Y=4096)(B:∀f,R<|.t [.a<|eD s' f,iv v,bv U]):rV (Iy (V 4) Y<|.p (7,1) 0 0) λt=>sV (aK 4 Y (.p (12,h) 0 0) t) λi=>rV (Iy (V 4) i<|.p (12,h) 0 0) λt=>aE R i [t,iv v,bv U]:=by have y:Iy (V 4) Y (.p (7,1) 0 0)=V (.a [a1,iv s'.tx,e,g]):=(by simp[Iy,iE,S.bx,aN]);rw[y];refine gN (cs:=[a1,iv s'.tx,e,g]) C (by omega) D rfl λY' j n=>?_;have z:Iy (V 4) Y' (.p (12,h) 0 0)=V (.a [a1,iv s'.tx,e,g]):=(by simp[Iy,iE,n,aN]);rw[z];have l:∀k∈m,k∉[12]:=(by simp_all);obtain⟨u,o1,o⟩:=sU<|S.g1.fr j l;obtain⟨w,E,q⟩:=sU<|S.g2.fr j l;obtain⟨x,o3,s⟩:=sU<|S.g3.fr j l;show aE R Y' [.a [a1,iv s'.tx,e,g],iv v,bv U];have A:jS Y' [.a [a1,iv s'.tx,e,g],iv v,bv U]= .t [.a<|eD s' (u,o1,w,E,x,o3),iv v,bv U]:=(by show AV.t [.a<|[a1,iv s'.tx,e,g].map<|dQ Y',iZ Y'<|iv v,iZ Y'<|bv U]=_;simp only[ji,mU,o,q,s];rfl);unfold aE;rw[A];exact⟨rfl,B _⟩
def Qt{Y ds e z a α f}{l:List α}(g:Gr Y ds e z a<|l.map f):gK (gi Y a)=sl f l:=by obtain⟨i,o,h⟩:=aBt g;rw[h];rfl
def aoP{Y d v g s a1 e f}(S:Sy Y d v g s a1 e f):dG Y (.a [a1,iv s.tx,e,f])= .a s.c:=by simp only[dG,nrm,eR,ji,mU,Qt S.g1,Qt S.g2,Qt S.g3];rfl
section
variable{a b c d:AV}
def rq0:aN J [a,b,c,d]=V a:=rfl
def rq2:aN J (aOz 2 [a,b,c,d])=V c:=rfl
def yD:aN J (aOz 3 [a,b,c,d])=V d:=rfl
def rq4:aN (V 4) [a,b,c,d]=V (.a [a,b,c,d]):=rfl
end
def tf{K Y}{i:Int}{l t o}:rV (cz 1 Y (.l (l.map ci) t o)<|iv i) K=(aF (L l) i/\K (.q<|ci<|gd l i.toNat)):=amX (Y:=Y)
def aoQ{Y}{d v:Nat}{j s a1 k l}{i:Int}{K:AV->AV->cC}(S:Sy Y d v j s a1 k l)(h:aF (L s.ak) i)(m:∀e v',e∈j->K (.p (e,v') i.toNat 0) (.p (e,v') i.toNat 1) (sl ci (gd s.ak i.toNat).bk)):rV (cz 2 Y a1<|iv i) λp=>rV (iQ 1 Y p) λq=>rV (Iy J Y q) (K p q):=by have t:L (s.ak.map cg.c)=L s.ak:=(by simp);refine xL S.g1 (by simp_all) λe v' g r f=>?_;rw[rR,f];have n:(s.ak.map cg.c)[i.toNat]?=V (gd s.ak i.toNat).c:=(by have o:i.toNat<L s.ak:=(by have:=h.1;have:=h.2;omega);grind [eC,bT]);show rV (Iy J Y<|.p (e,v') i.toNat<|0+1)<|K _<|.p (e,v') i.toNat<|0+1;rw[aj,anc f n];exact m e v' g
def aoR{Y}{d v:Nat}{g s a1 h i}{x:Int}{K}(S:Sy Y d v g s a1 h i)(m:d<L Y)(e:∀k∈g,k∉[d])(l:∀Y',Fr Y Y' [d]->Sy Y' d v g {s with tx:=x} a1 h i->K Y'):sV (aK 1 Y (.p (d,v) 0 1)<|iv x) K:=by refine Ev S.bx m rfl (by simp) λY' f j=>?_;exact l Y' f ⟨j,S.g1.fr f e,S.g2.fr f e,S.g3.fr f e,S.d12,S.d13,S.d23⟩
def Af{α}[Inhabited α]{l:List α}{i:Int}{x}(h:aF (L l) i):gd (l.set i.toNat x) i.toNat=x:=by have e:i.toNat<L l:=(by have:=h.1;have:=h.2;omega);grind [bT]
def uE(s:aW)(u:Int):aW:=ni s u {fA s u with cQ:=4}
def aD3{s}{u:Int}:L (uE s u).ay=L s.ay:=by simp[uE,ni]
theorem ans:∀{l:d0} {s},L (l.foldl uE s).ay=L s.ay
 |[],_=>rfl
 |u::l,s=>by rw[List.foldl_cons,ans,aD3]
theorem apF{s}{c u:Int}(h:u∈fO s c):aF (L s.ay) u:=by grind [fO,eh,dJ]
def wM:aW:=⟨[],0,[],[]⟩
def ON(w)(s)(t q bF arm:Int)(hp:L w.bC<4611686018427387904/\(∀l∈s.ak,L l.bk<100000)/\L s.ak<100000/\L s.done<100000/\L s.ay<100000):Ct 141 [.a w.c, .a s.c,iv t,iv q,iv bF,iv arm] (λr=>∃f,r=bif jm w s t q bF then .t [.a<|eD (cU w s t q bF arm).1 f,iv (cU w s t q bF arm).2,bv U] else .t [.a<|eD wM f,iv 0,bv I]):=by refine aLo rfl rfl λs4 M b1 b2 h0=>?_;refine mo M λs6 F b6=>?_;have c1:=F.bt b1;have c2:=F.bt b2;simp+contextual only[qz 6,qy 10,eQ,wa,ar,c1,c2,rk];refine⟨(by grind),λhe=>?_,λhe=>?_⟩;simp only[eH] at he;rw[show bM aNC bqM []=V (.a aNC) from rfl];refine gN (cs:=aNC) b6 (by rw[F.1,M];decide) rfl rfl λs7 F7 b7=>?_;simp only[qz 8,u1,b7];refine⟨rfl,(U,U,U,U,U,U),?_⟩;rw[he];rfl;simp only[fK] at he;obtain⟨hf,hi,hn⟩:lh w s=U/\dh t (L w.ay)=U/\named w q bF=U:=(by grind [jm]);obtain⟨f1,f2,f3,f4⟩:=iY hf;have z:aF (L s.ay) t:=(by grind [dX]);refine awZ (by grind) (by rw[F.1,M]) λa1 a2 a3 bA C g1 g2 g3 aQ aR aT=>?_;refine gN (cs:=[a1,iv s.tx,a2,a3]) (C.bt c2) (by rw[C.1,F.1,M];decide) rfl rfl λx B D=>?_;have S:Sy x 7 1 [10,14,41] s a1 a2 a3:=⟨D,g1.fr B (by decide),g2.fr B (by decide),g3.fr B (by decide),aQ,aR,aT⟩;have az:L x=4096:=(by rw[B.1,C.1,F.1,M]);have aJ:=B.bt<|C.bt b6;have aO:=B.bt<|C.bt c1;have p:∀k∈[10,14,41],k<L x/\k≠7:=(by grind);have m:∀k∈[10,14,41],k∈[7,10,14,41]:=(by decide);simp only[qz 12];refine bpl (λg=>∀Y' s' v,Fr x Y' [7,10,14,41]->Sy Y' 7 1 [10,14,41] s' a1 a2 a3->cU w s t q bF arm=(s',v)->g [iv v] Y') (λY' s' v i j e=>?_) λg o=>?_;simp only[qz 39,aI];refine avt j (by decide) (i.bt aJ) rfl (by rw[i.1,az]) λf=>⟨f,?_⟩;simp_all;simp+contextual only[qz 41,qy 14,qy 16,eS,D,yD];refine⟨λk1=>?_,λk1=>⟨λk2=>?_,λk2=>?_⟩⟩;simp only[aBY] at k1;refine aO7 (K:=λ_ _ Y=>g [iv 0] Y) S p z (by decide) {fA s t with cQ:=2} rfl λ_ _ Y' _ i j=>o Y' _ _ (i.mono m) j ?_;simp[cU,k1,ni];simp only[aBY] at k2;refine aO7 (K:=λ_ _ Y=>g [iv 0] Y) S p z (by decide) {fA s t with cQ:=5} rfl λ_ _ Y' _ i j=>o Y' _ _ (i.mono m) j ?_;simp[cU,k2,ni];simp only[qz 65,iM,aY,sw];simp+contextual only[qz 63,qy 18,eS,D,rq0];refine⟨λk6=>?_,λk6=>?_⟩;simp only[fH,aBY] at k6;have n:aF (L s.ak) bF:=(by grind [mJ]);refine yO (K:=λ_ _ Y=>g [iv 0] Y) S p n (by decide) (y:=iv t) rfl rfl rfl rfl {cH s bF with aNN:=t} rfl λ_ _ Y' _ i j=>o Y' _ _ (i.mono m) j ?_;grind [cU,J9];simp only[qz 77,iM,aY,sw];simp+contextual only[qz 75,qy 20,qy 26,qy 28,qy 30,qy 32,qy 34,qy 52,qy 54,eT,D,aO,rq0,rq2,yD,rq4,ix];refine⟨λk7=>?_,λk7=>⟨λk8=>?_,λk8=>⟨λk9=>?_,λk9=>⟨λO=>?_,λO=>⟨λP=>?_,λP=>⟨λR=>?_,λR=>⟨λT=>?_,λT=>⟨λW=>?_,λW=>⟨λX=>?_,λX=>⟨λal=>?_,λal=>⟨λZ=>?_,λZ=>⟨λaa=>?_,λaa=>⟨λab=>?_,λab=>?_⟩⟩⟩⟩⟩⟩⟩⟩⟩⟩⟩⟩⟩;simp only[fH,aBY] at k7;have n:aF (L s.ak) bF:=(by grind [mJ]);refine yO (K:=λ_ _ Y=>g [iv 0] Y) S p n (by decide) (y:=iv<|-1) rfl rfl rfl rfl {cH s bF with aNN:= -1} rfl λ_ _ Y' _ i j=>o Y' _ _ (i.mono m) j ?_;grind [cU,J9];simp only[aBY] at k8;have n:aF (L s.ak) bF:=(by grind [mJ]);have a7:=hp.2.1 _<|ii n;refine aoQ S n λd' v' aW=>?_;simp only[iz,bQ,qz 22];rw[show(AV.l [[iv t]] U U)=AV.l ([t].map ci) U U from rfl];simp only[ar,wa,QS];refine⟨by grind,λt' o'=>⟨.inl rfl,?_⟩⟩;refine yO S p n (by decide) (y:=sl ci<|mP (gd s.ak bF.toNat).bk [t]) rfl rfl rfl rfl {cH s bF with bk:=mP (cH s bF).bk [t]} rfl λ_ _ Y' _ i j=>?_;refine dT (by simp[eL,lb,zt,dC,dK])<|o Y' _ _ (i.mono m) j ?_;simp[cU,k8,J9];simp only[aBY] at k9;have n:aF (L s.ak) bF:=(by grind [mJ]);have a7:=hp.2.1 _<|ii n;refine aoQ (K:=λ_ _ be=>fV Cb x [be,iv t] λbf=>rV (cz 2 x a1<|iv bF) λbg=>rV (iQ 1 x bg) λbi=>sV (aK 1 x bi bf) λbd=>g [iv 0] bd) S n λd' v' aW=>?_;simp only[ar,wa];refine⟨by omega,λt'=>?_⟩;refine yO (K:=λ_ _ Y=>g [iv 0] Y) S p n (by decide) (y:=sl ci<|fJ (gd s.ak bF.toNat).bk t) rfl rfl rfl rfl {cH s bF with bk:=fJ (cH s bF).bk t} rfl λ_ _ Y' _ i j=>o Y' _ _ (i.mono m) j ?_;simp[cU,k9,J9];simp only[aBY] at O;exact aoR S (by omega) (by decide) λY' i j=>o Y' _ _ (i.mono<|by decide) j (by simp[cU,O]);simp only[aBY] at P;exact aoR S (by omega) (by decide) λY' i j=>o Y' _ _ (i.mono<|by decide) j (by simp[cU,P]);simp only[aBY] at R;refine aO7 (K:=λ_ _ Y=>g [iv 0] Y) S p z (by decide) {fA s t with atomic:=U} rfl λ_ _ Y' _ i j=>o Y' _ _ (i.mono m) j ?_;simp[cU,R,ni];simp only[aBY] at T;refine aO7 (K:=λ_ _ Y=>g [iv 0] Y) S p z (by decide) {fA s t with atomic:=I} rfl λ_ _ Y' _ i j=>o Y' _ _ (i.mono m) j ?_;simp[cU,T,ni];simp only[aBY] at W;have E:aF (L w.bC) bF:=(by grind [oT]);have N:aF (L s.ak) (gd w.bC bF.toNat).eg:=(by rw[f2];exact f1 _<|ii E);refine⟨E,yO S p N (by decide) (y:=iv<|-1) rfl rfl rfl rfl {cH s (gd w.bC bF.toNat).eg with aNN:= -1} rfl λ_ _ Y' _ i j=>?_⟩;have A:∀k∈[10,14,41],k<L Y'/\k≠7:=(by rw[i.1];exact p);simp only[qz 36,eS,j.bx,yD];refine aO7 j A z (by decide) {fA s t with cQ:=3} rfl λd1 v1 Y2 aX G S2=>?_;have H:∀k∈[10,14,41],k<L Y2/\k≠7:=(by rw[G.1];exact A);refine aO7 S2 H (by grind) (by decide) {fA s t with cQ:=3,cond:=bF} (by simp only[Af z];rfl) λd2 v2 Y3 aZ F3 S3=>?_;have h7:(7:Nat)≠d1:=(by grind);refine dT (by simp[eL,lb,zt,dC,dK,h7])<|o Y3 _ _ (((i.mono m).trans<|G.mono m).trans<|F3.mono m) S3 ?_;simp[cU,W,ni,J9];simp only[aBY] at X;have E:aF (L w.bC) bF:=(by grind [oT]);have N:aF (L s.ak) (gd w.bC bF.toNat).eg:=(by rw[f2];exact f1 _<|ii E);refine⟨E,yO S p N (by decide) (y:=iv t) rfl rfl rfl rfl {cH s (gd w.bC bF.toNat).eg with aNN:=t} rfl λ_ _ Y' _ i j=>?_⟩;have A:∀k∈[10,14,41],k<L Y'/\k≠7:=(by rw[i.1];exact p);simp only[qz 42,eS,j.bx,yD];refine aO7 j A z (by decide) {fA s t with cQ:=2} rfl λd1 v1 Y2 aX G S2=>?_;have H:∀k∈[10,14,41],k<L Y2/\k≠7:=(by rw[G.1];exact A);refine aO7 S2 H (by grind) (by decide) {fA s t with cQ:=2,cond:=0} (by simp only[Af z];rfl) λd2 v2 Y3 aZ F3 S3=>?_;have h7:(7:Nat)≠d1:=(by grind);refine dT (by simp[eL,lb,zt,dC,dK,h7])<|o Y3 _ _ (((i.mono m).trans<|G.mono m).trans<|F3.mono m) S3 ?_;simp[cU,X,ni,J9];simp only[aBY] at al;simp only[jM,kU,jt,tW,aoP S,wa,QQ,Ql,aNG];refine⟨by omega,λt'=>?_⟩;simp only[gT,eQ];refine⟨λhg=>?_,λhg=>?_⟩;simp only[aBY] at hg;have bz:fO s bF≠[]:=(by grind);have ba:L (fO s bF)<=L s.ay:=wU s bF _;simp only[tf,u0,Gx,rk];have a9:gd (fO s bF) 0∈fO s bF:=dB (by omega);refine⟨⟨by omega,by omega⟩,?_⟩;refine bsf (λJ'=>∀u:Int,u∈fO s bF->cU w s t q bF arm=(uE s u,u)->J' [iv u]) (λu hu e=>?_) λJ' key=>?_;simp only[qz 177,qy 48,au,eS,D,yD];exact aO7 (K:=λ_ _ Y=>g [iv u] Y) S p (apF hu) (by decide) {fA s u with cQ:=4} rfl λ_ _ Y' _ i j=>o Y' _ _ (i.mono m) j e;simp only[qz 179,ar,wa,u0];refine⟨by omega,λhh=>?_,λhh=>?_⟩;simp only[aBY] at hh;exact key arm hh (by grind [cU,tD,uE]);simp only[aNK] at hh;exact key _ a9 (by grind [cU,tD,uE]);grind [decide_eq_false_iff_not,fO,List.length_eq_zero_iff,Fr.refl,cU];simp only[aBY] at Z;simp only[jM,kU,jt,tW,aoP S,wa,QQ,Ql,aNG];refine⟨by omega,λt'=>?_⟩;have ba:L (fO s bF)<=L s.ay:=wU s bF _;refine⟨λvs Y=>∃k:Nat,vs=[iv k]/\k<=L (fO s bF)/\Fr x Y [10,14,41]/\Sy Y 7 1 [10,14,41] (((fO s bF).take k).foldl uE s) a1 a2 a3,fM<|L<|fO s bF,(by grind [Fr.refl]),?_⟩;rintro vs Y ⟨k,rfl,hk,Fk,Sk⟩;simp only[qz 217,gT,eS,Sk.bx,yD,tf,bh,qM];refine⟨λh=>⟨vp h,?_⟩,λh=>?_⟩;have ah:=aL h;have A:∀k∈[10,14,41],k<L Y/\k≠7:=(by rw[Fk.1];exact p);refine aO7 Sk A (by grind [ans,apF,dB]) (by decide) {fA (((fO s bF).take k).foldl uE s) (gd (fO s bF) k) with cQ:=4} rfl λ_ _ Y' _ i j=>?_;simp only[qz 50,au,cS,aY];rw[fX<|by omega];refine⟨⟨k+1,rfl,ah,Fk.trans i,?_⟩,?_⟩;rw[EA ah,RO];exact j;simp only[fM,cM,bh];omega;have a5:k=L (fO s bF):=(by grind);subst a5;rw[gV] at Sk;refine o Y _ _ (Fk.mono m) Sk ?_;simp[cU,Z];rfl;simp only[aBY] at aa;have a8:aF (L s.ay) bF:=(by grind [Eb]);refine aO7 (K:=λ_ _ Y=>g [iv 0] Y) S p a8 (by decide) {fA s bF with cQ:=1} rfl λ_ _ Y' _ i j=>o Y' _ _ (i.mono m) j ?_;simp[cU,aa,ni];simp only[aBY] at ab;have a0:aF (L s.done) bF:=(by grind [oU]);refine aIC S p a0 λY' i j=>o Y' _ _ (i.mono m) j ?_;simp[cU,ab];grind [Fr.refl,cP,decide_eq_false_iff_not,cU]
def FG:FT:=BL ON
def ayK:=al4 FG ON
def Ew:dO:=(141,FG)::aoX
def nF:eJ Ew:=vl (apO ON)<|apa
def z9:=ai @ayK<|@wa
def alb:=kW 31 [(4,([],[3,4,5,6])),(22,([10],[3,4,5,6,9])),(25,([],[5,6,9])),(27,([],[5,6,9]))]
def IL c b a d R:=(.mk _:NR Ew alb Tryz.f71 [.u, .u, .u] [c,b,a] d R).p
def aLz{c0:dM}{b:dM}{c:dM}{R:cC}(l0:L c0=6)(l1:L b=7)(d:L c=7)(h:H3 31 6 3 c0 40 7 4 b 62 7 5 c λf g i e=>IL f g i e R):Ct 71 [.a c0, .a b, .a c] R:=z3 alb nF func71 l0 l1 d h
def aLg{a}:=y0 nF func198 at1 [a]
def aLc{a}:=y0 nF func246 at1 [a]
def bjB s0 R:=(.mk _:NR Ew at1 Tryz.f245 [] [] s0 R).p
def aLf{R:cC}(h:∀s0:ae,L s0=4096->(∀k,aZ s0 k=mO)->bjB s0 R):Fn aS GG 245 [] R:=by refine uq ready nF func245 (an:=at1) (by kernel_rfl) (aND (show ZF aS GG Ew at1 Tryz.f245 [] R=(bjB (ly Tryz.f245) R) by kernel_rfl)<|h (ly Tryz.f245) uB<|i8 _)
def aLS{a a1}:=y0 nF func126 at1 [a,a1]
def aLM{c0}:=y1 62 7 1 nF func26 at1 c0 [.a c0]
def aL4{c0}:=y1 62 7 1 nF func47 at1 c0 [.a c0]
def aL7{c0 b}:=y2 62 7 2 62 7 3 nF func111 at1 c0 b [.a c0, .a b]
def auF:=kW 5 []
def aL8{c0 b}:=y2 43 15 2 62 7 3 nF func112 auF c0 b [.a c0, .a b]
def aMe{c0}:=y1 62 7 1 nF func16 at1 c0 [.a c0]
def aLY{c0 a1}:=y1 31 6 2 nF func260 auF c0 [.a c0,a1]
def aLZ{a a1}:=y0 nF func170 atS [a,a1]
def auG:=kW 14 [(6,([13],[0,1,12]))]
def aL9{a a1}:=y0 nF func29 auG [a,a1]
def alo{a b:Int}:aTH .geq 0 [] (.s<|.int .u8 a) (.s<|.int .u8 b)=V (bv<|Q<|b<=a):=rfl
def alp{a b:Int}:aTH .leq 0 [] (.s<|.int .u8 a) (.s<|.int .u8 b)=V (bv<|Q<|a<=b):=rfl
theorem alW{α}[Inhabited α]{a b:List α}(h:L a=L b)(c:∀j,j<L a->gd a j=gd b j):a=b:=by grind [List.ext_getElem,bT]
def wx(c:Int):Bool:=(Q (97<=c)&&Q (c<=122))||(Q (65<=c)&&Q (c<=90))
def zY(c:Int):Bool:=Q (48<=c)&&Q (c<=57)
def OF(c):Ct 198 [.s<|.int .u8 c] (·=bv (wx c)):=by refine aLg λs0 b a=>?_;simp+contextual only[eQ,alo,alp,wx]
def BW:FT:=lH OF
def ayC:=np BW OF
def OB(c):Ct 246 [.s<|.int .u8 c] (·=bv (zY c)):=by refine aLc λs0 b a=>?_;simp+contextual only[eQ,alo,alp,zY]
def Fv:FT:=lH OB
def ayy:=np Fv OB
def Pn(i n):Ct 126 [iv i,iv n] (·=bv (dh i n)):=by refine aLS λs0 b a=>?_;simp+contextual only[eQ,dh]
def vt:FT:=lI Pn
def azb:=nq vt Pn
def tT(e:aP):Bool:=Q (e.kind=3)||Q (e.kind=4)
def fR(e:aP):Bool:=Q (e.kind=3)||Q (e.kind=23)
def pN(e:aP):Bool:=Q (e.kind=18)||Q (e.kind=19)
def Pg(e):Ct 26 [.a e.c] (·=bv (tT e)):=by refine aLM rfl λg f b d=>?_;simp+contextual only[eT,b,tT]
def Cj:FT:=lH Pg
def ay5:=np Cj Pg
def PA(e):Ct 47 [.a e.c] (·=bv (fR e)):=by refine aL4 rfl λg f b d=>?_;simp+contextual only[eT,b,fR]
def zk:FT:=lH PA
def azm:=np zk PA
def aXC(e):Ct 16 [.a e.c] (·=bv (pN e)):=by refine aMe rfl λg f b d=>?_;simp+contextual only[eT,b,pN]
def Gd:FT:=lH aXC
def azw:=np Gd aXC
def aTG(s r:aP):Bool:=Q (s.bF=r.bF)&&((Q (s.kind=4)&&Q (r.kind=3))||(Q (s.kind=22)&&Q (r.kind=23)))
def PD(s r):Ct 111 [.a s.c, .a r.c] (·=bv (aTG s r)):=by refine aL7 rfl rfl λg f b d e=>?_;simp+contextual only[eT,b,d,aTG]
def Cn:FT:=lI PD
def azp:=nq Cn PD
def oM(w:am)(e:aP):Bool:=bif Q (e.kind=23) then gd w.init.bW.done e.bF.toNat&&Q (gd w.init.bU e.bF.toNat=e.value) else Q (gd w.init.cells e.bF.toNat=e.value)
def PE(w)(e)(h:(e.kind=23->aF (L w.init.bW.done) e.bF/\aF (L w.init.bU) e.bF)/\(e.kind≠23->aF (L w.init.cells) e.bF)):Ct 112 [.a w.c, .a e.c] (·=bv (oM w e)):=by refine aL8 rfl rfl λi g b d f=>?_;simp+contextual only[eT,b,d,ix,dc,oM];simp_all
def Ga:FT:=aIc PE
def azq:=gX Ga PE
def sd(w:pz)(c:Int):Int:=bif dh c (L w.bC) then(gd w.bC c.toNat).eg else-1
def Pt(w)(c):Ct 260 [.a w.c,iv c] (·=iv (sd w c)):=by refine aLY rfl λf e b d=>?_;simp+contextual only[eT,b,ix];refine⟨λh=>?_,λh=>?_⟩;have:dh c (L w.bC)=I:=(by simp[dh] at h⊢;omega);simp[sd,this];have:dh c (L w.bC)=U:=(by simp[dh] at h⊢;omega);exact⟨dX.1 this,by simp[sd,this]⟩
def Ck:FT:=lI Pt
def azg:=nq Ck Pt
def PF(a b)(l:L a<4611686018427387904):Ct 29 [sl ci a,sl ci b] (·=bv (Q<|a=b)):=by refine aL9 λs0 i d=>?_;simp+contextual only[eQ];refine⟨λh=>?_,λh=>?_⟩;have:a≠b:=(by grind);simp[this];have c:L a=L b:=(by grind);refine bc4 (L a) (λk=>∀j,j<k->gd a j=gd b j) (by simp) λk g f=>?_;simp+contextual only[qz 37,eQ,ix,rk,bh];refine⟨λh=>⟨vp h,by grind [dJ,aL],λe=>?_,by grind [gS,aL]⟩,λh=>?_⟩;have:a≠b:=(by grind);simp[this];grind [alW,biN,bw]
def w9:FT:=aIc PF
def azr:=gX w9 PF
def qT(l:List aP)(t:Int):Nat->Int|0=> -1|k+1=>if(gd l k).aq=t then k else qT l t k
def lw(l:List aP)(j:Int):Int:=qT l (gd l j.toNat).aq j.toNat
def Pu(l)(j:Int)(m:L l<1000000/\aF (L l) j):Ct 170 [sl aP.c l,iv j] (·=iv (lw l j)):=by refine aLZ λs0 t q=>?_;obtain⟨p,d⟩:=m;have e:=d.1;have o:=d.2;simp+contextual only[eQ];rw[eM (by omega)<|by omega];refine⟨λvs=>∃k:Nat,vs=[iv<|(k:Int)-1]/\k<=j.toNat/\qT l (gd l j.toNat).aq k=lw l j,λvs=>match vs with|[.s (.int _ i)]=>(i+1).toNat|_=>0,⟨j.toNat,by rw[kA e],dA _,rfl⟩,?_⟩;rintro vs ⟨k,rfl,r,b⟩;simp+contextual only[qz 19,eQ,ix,rk];refine⟨λh=>?_,λh=>?_⟩;simp only[aBY] at h;obtain⟨k,rfl⟩:∃n,k=n+1:=⟨k-1,by omega⟩;have f:((k+1:Nat):Int)-1=(k:Int):=(by omega);rw[f];have g:dq.wrap ((k:Int)-1)=(k:Int)-1:=eM (by omega) (by omega);rw[g,bh];refine⟨⟨by omega,by omega⟩,d,λa=>?_,λa=>⟨⟨k,rfl,by omega,?_⟩,by omega⟩⟩;rw[<-b];simp at a;simp[qT,a];rw[<-b];simp at a;simp[qT,a];simp only[aNK] at h;obtain rfl:k=0:=(by omega);rw[<-b];rfl
def Cl:FT:=aIc Pu
def azh:=gX Cl Pu
def aOL(w:pz)(s:I5)(e:aP):Bool:=!fN w s||!dh e.aq (L w.ay)||Q (e.kind<1)||Q (23<e.kind)||!jm w s.bW e.aq e.kind e.bF
def tA(w:pz)(e:aP):Bool:=bif Q (e.kind=1)||Q (e.kind=2) then Q (e.site≠-1) else(!dh e.site (L w.dU)||Q ((gd w.dU e.site.toNat).aq≠e.aq))
def yM(w:pz)(e:aP):Bool:=Q ((0:Int)<L e.dI)&&(Q (e.kind≠5)&&!((Q (e.kind=3)||Q (e.kind=4))&&Q ((gd w.cells e.bF.toNat).size≠0)))
def yN(e:aP):Bool:=Q ((0:Int)<L e.ep)&&(Q (e.kind≠4)&&Q (e.kind≠22))
def bip(s:I5)(e:aP):Bool:=!Q (lZ e.dI<|gd s.count e.aq.toNat)||!Q (lZ e.ep<|gd s.count e.aq.toNat)||!aO8 s e
def bhO(w:pz)(s:I5)(e:aP):Bool:=!(aOL w s e||(tA w e||(yM w e||(yN e||bip s e))))
def og(e:aP):Int:=if e.kind=18 then e.value else-1
def oc(w:pz)(s:I5)(e:aP):I5:=⟨(cU w s.bW e.aq e.kind e.bF<|og e).1,if e.kind=4 then s.cells.set e.bF.toNat e.value else s.cells,if e.kind=22 then s.bU.set e.bF.toNat e.value else s.bU,s.count.set e.aq.toNat<|dq.wrap<|gd s.count e.aq.toNat+1⟩
def tw:I5:=⟨wM,[],[],[]⟩
def nD(w:pz)(s:I5)(e:aP):I5:=bif bhO w s e then oc w s e else tw
def Lk(cs ds:dM):Prop:=cs.map gK=ds/\cs.all nj=U
def Lk.frz{cs ds}(h:Lk cs ds)(Y):cs.map (gi Y)=cs:=by have a:=dV.1 h.2;rw[ja (g:=id) ?_,brw];intro c b;have:=a c b;cases c<;>simp[nj] at this<;>rfl
def Lk.fd{cs ds}(h:Lk cs ds)(Y):cs.map (dQ Y)=cs:=by have a:=dV.1 h.2;rw[ja (g:=id) ?_,brw];intro c b;have:=a c b;cases c<;>simp[nj] at this<;>rfl
def Lk.arg{cs ds}(h:Lk cs ds)(Y):dG Y (.a cs)= .a ds:=by show AV.a ((cs.map<|gi Y).map gK)= .a ds;rw[h.frz,h.1]
def aIt{Y}{d v z y:Nat}{e o r cs K}(f:box Y (d,v)=V ⟨e,z,o,U,[r]⟩)(h:d<L Y)(j:L cs=y)(i:y<=L r)(c:∀Y',Fr Y Y' [d]->box Y' (d,v)=V ⟨e,z,o,U,[cs++r.drop y]⟩->K Y'):sV (aK y Y (.p (d,v) 0 0)<|.a cs) K:=by have b:aK y Y (.p (d,v) 0 0) (.a cs)=V (wr Y (d,v) ⟨e,z,o,U,[cs++r.drop y]⟩):=(by grind [aK,aBG,pW,eY,qh]);rw[b];exact c _ ⟨uC,λk g=>wy<|λe=>g<|by simp[e]⟩<|lO f
def Lm{Y ds e a}{l:d0}{i x:Int}{K}(h:Gr Y ds e 1 a<|l.map ci)(f:aF (L l) i)(c:∀k∈ds,k<L Y)(j:∀Y',Fr Y Y' ds->Gr Y' ds e 1 a ((l.set i.toNat x).map ci)->K Y'):rV (cz 1 Y a<|iv i) λp=>sV (aK 1 Y p<|iv x) K:=by have s:L (l.map ci)=L l:=(by simp);refine xL h (by simp_all) λd v b m n=>?_;have r:i.toNat<L l:=(by have:=f.1;have:=f.2;omega);have o:(l.map ci)[i.toNat]?=V (ci<|gd l i.toNat):=(by grind [eC,bT]);refine Dz (y:=iv x) n (c d b) o (by simp) rfl rfl rfl rfl λY' g q=>?_;refine j Y' (g.mono<|by simp[b])<|.inr ⟨d,v,?_,b,?_⟩;rw[m];simp;simp_all
def aBI{Y ds e a l}{i:Int}{K:AV->cC}(c:Gr Y ds e 1 a<|l.map ci)(b:aF (L l) i)(f:∀p,K p<|iv<|gd l i.toNat):rV (cz 1 Y a<|iv i) λp=>rV (Iy J Y p) (K p):=by have n:L (l.map ci)=L l:=(by simp);refine xL c (by simp_all) λd v m k g=>?_;have j:i.toNat<L l:=(by have:=b.1;have:=b.2;omega);have h:(l.map ci)[i.toNat]?=V (ci<|gd l i.toNat):=(by grind [eC,bT]);rw[anc g h];exact f _
structure On(Y:ae)(v:Nat)(s:I5)(x:dM)(a4 a5 a6:AV):Prop where
 bx:box Y (9,v)=V ⟨40,7,U,U,[x++[a4,a5,a6]]⟩
 hx:Lk x s.bW.c
 g4:Gr Y [159] 2 1 a4 (s.cells.map ci)
 g5:Gr Y [163] 2 1 a5 (s.bU.map ci)
 g6:Gr Y [167] 3 1 a6 (s.count.map ci)
 le:L Y=4096
def OV(w)(s)(e)(hp:L w.bC<4611686018427387904/\(∀l∈s.bW.ak,L l.bk<100000)/\L s.bW.ak<100000/\L s.bW.done<100000/\L s.bW.ay<100000/\L s.cells<100000/\L s.bU<100000/\L s.count<100000/\L e.dI<4611686018427387904/\L e.ep<4611686018427387904):Ct 71 [.a w.c, .a s.c, .a e.c] (λr=>∃cs,r= .t [.a cs,bv<|bhO w s e]/\Lk cs (nD w s e).c):=by refine aLz rfl rfl rfl λs6 hl b1 b2 b3 h0=>?_;obtain⟨p1,p2,p3,p4,p5,p6,p7,p8,p9,a7⟩:=hp;simp only[IL];refine mo hl λs7 R b7=>?_;have c1:=R.bt b1;have c2:=R.bt b2;have c3:=R.bt b3;have M:L s7=4096:=(by rw[R.1,hl]);simp+contextual only[qz 8,qy 10,↓iS,eT,z9,ar,c1,c2,c3];have C:bhO w s e=I->rV (bM BF aon []) λbb=>sV (aK 7 s7 (AV.p (6,(aZ s6 6).I6+1) 0 0) bb) λaa=>rV (((box aa (6,(aZ s6 6).I6+1)).bind λx=>Sb (λx=>x) x.bA[0]?).bind<|aN<|V 7) λbc=>aE (λr=>∃cs,r= .t [.a cs,bv<|bhO w s e]/\Lk cs (nD w s e).c) aa [bc,bv I]:=(by intro aw;rw[show bM BF aon []=V (.a BF) from rfl];refine gN (cs:=BF) b7 (by omega) rfl rfl λaa bK aQ=>?_;simp only[aQ];exact⟨rfl,BF,by rw[aw];rfl,by simp only[nD,aw];rfl,rfl⟩);refine⟨p1,(by grind),λhb=>?_,λT=>?_⟩;grind [bhO,aOL,fh];have bL:aOL w s e=I:=T;simp only[cP,fK,aNK] at T;obtain⟨⟨⟨⟨hf,hi⟩,bV⟩,bX⟩,aW⟩:=T;obtain⟨aX,hn⟩:lh w s.bW=U/\named w e.kind e.bF=U:=(by grind [jm]);obtain⟨f1,f2,f3,f4⟩:=iY aX;obtain⟨q1,q2,q3⟩:L s.cells=L w.cells/\L s.bU=L w.bU/\L s.count=L w.ay:=(by grind [fN]);have K:aF (L s.count) e.aq:=(by grind [dX]);have E:tA w e=U->bhO w s e=I:=(by grind [bhO]);refine biR (λb=>tA w e=I->b [] s7) ?_ λb av=>(by simp+contextual only[qz 29,qy 12,qy 14,↓iS,eT,z9,ar,c1,c3,ix];refine⟨λh=>⟨λh'=>C<|E ?_,λh'=>av ?_⟩,λh=>⟨λh'=>?_,λh'=>C<|E ?_,λh'=>av ?_⟩⟩;grind [tA];grind [tA];grind [dX];grind [tA];grind [tA]);intro bO;simp+contextual only[qz 27,qy 16,qy 18,qy 20,↓iS,eT,z9,ar,c1,c2,c3,ix];refine⟨λ_ _ h=>?_,(by grind [bhO,yM,fh]),λbR=>⟨(by grind [bhO,yN,fh]),λbS=>⟨K,p9,λ_=>K,λ_=>a7,λ_=>⟨by omega,λh=>?_,λh=>?_⟩,(by grind [bhO,bip,fh]),λbT=>?_⟩⟩⟩;grind [qP];grind [qP];grind [oU];have ax:bhO w s e=U:=(by grind [yM,yN,bip,bhO]);clear C E;simp only[nS,bQ,qz 22,eT,c2];refine fP (bA:=[]) (ds:=[159]) (new:=s.cells.map ci) Gr.nil rfl (by decide) (by decide) (by omega) (by simp) (by simp) (by grind) λm s8 G z=>?_;rw[dW] at G;have d2:=z.bt c2;simp only[qz 24,nS,bQ,qz 26,eT,d2];refine fP (bA:=[]) (ds:=[163]) (new:=s.bU.map ci) Gr.nil rfl (by decide) (by decide) (by rw[z.1,M];decide) (by simp) (by simp) (by grind) λn s9 H A=>?_;rw[dW] at H;have e2:=A.bt d2;simp only[qz 28,nS,bQ,qz 30,eT,e2];refine fP (bA:=[]) (ds:=[167]) (new:=s.count.map ci) Gr.nil rfl (by decide) (by decide) (by rw[A.1,z.1,M];decide) (by simp) (by simp) (by grind) λo a9 D i=>?_;rw[dW] at D;have aV:bM BF aon [(1,m),(2,n),(3,o)]=V (.a [.l [] U U,iv 0, .l [] U U, .l [] U U,m,n,o]):=(by simp[bM,aly,uc G,uc H,uc D]);simp only[qz 32,qy 34,aV,aY];refine eF rfl rfl (by decide) (by rw[i.1,A.1,z.1,M];decide) λZ q S=>?_;have bd:(aZ a9 9).I6=0:=(by rw[i.2 _ (by decide),A.2 _ (by decide),z.2 _ (by decide),R.2 _ (by decide),h0 9 (by decide) (by decide)<|by decide]);rw[bd] at S⊢;have a2:L Z=4096:=(by rw[q.1,i.1,A.1,z.1,M]);have i1:=q.bt<|i.bt<|A.bt<|z.bt c1;have i2:=q.bt<|i.bt e2;have i3:=q.bt<|i.bt<|A.bt<|z.bt c3;have i7:=q.bt<|i.bt<|A.bt<|z.bt b7;have k4:=((G.fr A<|by decide).fr i<|by decide).fr q (by decide);have k5:=(H.fr i<|by decide).fr q (by decide);have k6:=D.fr q (by decide);simp only[qz 36];refine dT ?_ ?_;rcases G with⟨_,F⟩|⟨d4,v4,F,an,_⟩<;>rcases H with⟨_,e5⟩|⟨d5,v5,e5,ao,_⟩<;>rcases D with⟨_,e6⟩|⟨d6,v6,e6,ap,_⟩<;>(try simp only[cE] at an)<;>(try simp only[cE] at ao)<;>(try simp only[cE] at ap)<;>(try subst an)<;>(try subst ao)<;>(try subst ap)<;>rw[F,e5,e6]<;>rfl;refine bsf (λb=>b [iv<|og e]) ?_ λb hj=>(by simp+contextual only[qz 137,eT,i3];refine⟨λh=>?_,λh=>?_⟩;simp only[aBY] at h;rw[og,sz h] at hj;exact hj;simp only[aNK] at h;rw[og,r9 h] at hj;exact hj);simp only[qz 135,au,eT,i1,i2,i3,ar,z9];refine⟨(by simp_all),?_⟩;rintro r ⟨f,rfl⟩;rw[aW];refine⟨.inl rfl,?_⟩;show rV (Sb (λx=>AV.p (9,1) 0 0)<|box Z (9,1)) λaJ=>sV (aK 4 Z aJ<|.a<|eD (cU w s.bW e.aq e.kind e.bF<|og e).1 f) _;rw[S];refine aIt (y:=4) S (by omega) rfl (by simp) λN u am=>?_;generalize a1:(cU w s.bW e.aq e.kind e.bF<|og e).1=d at am;have j:On N 1 ⟨d,s.cells,s.bU,s.count⟩ (eD d f) m n o:=⟨am,⟨rfl,rfl⟩,k4.fr u (by decide),k5.fr u (by decide),k6.fr u (by decide),by rw[u.1,a2]⟩;have j3:=u.bt i3;have j7:=u.bt i7;have r4:aN J (aOz 4<|eD d f++[m,n,o])=V m:=rfl;have r5:aN J (aOz 5<|eD d f++[m,n,o])=V n:=rfl;simp only[qz 38];refine bpl (λb=>∀Y B,Fr N Y [9,159,163,167]->On Y 1 ⟨d,B,s.bU,s.count⟩ (eD d f) m n o->B=(if e.kind=4 then s.cells.set e.bF.toNat e.value else s.cells)->b [] Y) ?_ λb X=>?_;intro Y B P O F;have m3:=P.bt j3;simp only[qz 153,aI];refine bpl (λb=>∀Y B f',Fr N Y [9,159,163,167]->On Y 1 ⟨d,B,f',s.count⟩ (eD d f) m n o->B=(if e.kind=4 then s.cells.set e.bF.toNat e.value else s.cells)->f'=(if e.kind=22 then s.bU.set e.bF.toNat e.value else s.bU)->b [] Y) ?_ λb W=>?_;intro Y B f' P O F e5;have m3:=P.bt j3;have m7:=P.bt j7;have r6:aN J (aOz 6<|eD d f++[m,n,o])=V o:=rfl;simp only[qz 165,eT,O.bx,m3,r6];refine aBI O.g6 K λp=>?_;simp only[cS,aY];refine Lm O.g6 K (by rw[O.le];decide) λY2 g G2=>?_;have aM:=(g.box (k:=9) (v:=1)<|by decide).trans O.bx;have a3:=g.bt m7;have r7:aN (V 7) (eD d f++[m,n,o])=V (.a<|eD d f++[m,n,o]):=rfl;simp only[qz 44,qy 46,eQ,aM,r7];refine gN (cs:=eD d f++[m,n,o]) a3 (by rw[g.1,O.le];decide) rfl rfl λY3 F3 aO=>?_;simp only[aO,eQ,r7];obtain⟨x4,o4,z4⟩:=sU ((O.g4.fr g<|by decide).fr F3<|by decide);obtain⟨x5,o5,z5⟩:=sU ((O.g5.fr g<|by decide).fr F3<|by decide);obtain⟨x6,o6,z6⟩:=sU (G2.fr F3<|by decide);have aA:jS Y3 [.a<|eD d f++[m,n,o],bv U]= .t [.a<|eD d f++[.l (B.map ci) x4 o4, .l (f'.map ci) x5 o5, .l ((s.count.set e.aq.toNat<|dq.wrap<|gd s.count e.aq.toNat+1).map ci) x6 o6],bv U]:=(by show AV.t [.a<|(eD d f++[m,n,o]).map<|dQ Y3,bv U]=_;rw[dg,O.hx.fd];grind);unfold aE;rw[aA];refine⟨rfl,_,by rw[ax],?_,rfl⟩;simp only[nD,ax,a7c,oc,a1,<-F,<-e5];rfl;simp+contextual only[qz 167,qy 42,eT,O.bx,m3,r5];refine⟨λh=>?_,λh=>?_⟩;simp only[aBY] at h;refine Lm O.g5 (by grind [aF,oU]) (by rw[O.le];decide) λY2 g G2=>?_;exact W Y2 B (s.bU.set e.bF.toNat e.value) (P.trans<|g.mono<|by decide) ⟨g.bt O.bx,O.hx,O.g4.fr g (by decide),G2,O.g6.fr g (by decide),by rw[g.1,O.le]⟩ F (by rw[sz h]);simp only[aNK] at h;exact W Y _ _ P O F (by rw[r9 h]);simp+contextual only[qz 155,qy 40,eT,j.bx,j3,r4];refine⟨λh=>?_,λh=>?_⟩;simp only[aBY] at h;refine Lm j.g4 (by grind [aF,qP]) (by rw[j.le];decide) λY2 g G2=>?_;exact X Y2 (s.cells.set e.bF.toNat e.value) (g.mono<|by decide) ⟨g.bt j.bx,j.hx,G2,j.g5.fr g (by decide),j.g6.fr g (by decide),by rw[g.1,j.le]⟩ (by rw[sz h]);simp only[aNK] at h;exact X N _ (Fr.refl _ _) j (by rw[r9 h])
def Cd:FT:=vn OV
def ayS:=zZ Cd OV
def aCV(s0)(R):bjB s0 R=aE R s0 [.l (ik.map cs) U U]:=by kernel_rfl
def OE:Ct 245 [] (·= .l (ik.map cs) U U):=by refine aLf λs0 b a=>?_;rw[aCV];refine⟨by kernel_rfl,?_⟩;show jS s0 [.l (ik.map cs) U U]= .l (ik.map cs) U U;kernel_rfl
def aTX:FT:=BJ OE
def ayB:=al2 aTX OE
def aoY:dO:=(198,BW)::(246,Fv)::(126,vt)::(26,Cj)::(47,zk)::(16,Gd)::(111,Cn)::(112,Ga)::(260,Ck)::(29,w9)::(170,Cl)::(71,Cd)::(245,aTX)::Ew
def oZ:eJ aoY:=vl (nH OF)<|vl (nH OB)<|vl (nI Pn)<|vl (nH Pg)<|vl (nH PA)<|vl (nH aXC)<|vl (nI PD)<|vl (aCb PE)<|vl (nI Pt)<|vl (aCb PF)<|vl (aCb Pu)<|vl (By OV)<|vl (apM OE)<|nF
def sW:=ai @ayC<|ai @ayy<|ai @azb<|ai @ay5<|ai @azm<|ai @azw<|ai @azp<|ai @azq<|ai @azg<|ai @azr<|ai @azh<|ai @ayS<|ai @ayB<|@z9
def atL:=kW 11 [(4,([4],[0,3]))]
def aLd{a}:=y0 oZ func199 atL [a]
def aLh{a}:=y0 oZ func200 at1 [a]
def atR:=kW 41 [(4,([4,5],[1])),(20,([7],[1,4,5,6])),(29,([4,9],[1])),(35,([4,10],[1]))]
def aLk{c0}:=y1 31 6 1 oZ func131 atR c0 [.a c0]
def auz:=kW 17 [(6,([6],[1,2,5])),(10,([6,41],[1,5,39,40])),(13,([6],[1,5,39,40,41]))]
def aL2{c0 a1}:=y1 43 15 2 oZ func48 auz c0 [.a c0,a1]
def auC:=kW 12 [(4,([16],[5,14,15]))]
def aL5{c0 a1}:=y1 43 15 2 oZ func171 auC c0 [.a c0,a1]
def auD:=kW 14 [(4,([7],[2,6]))]
def aL6{c0 a1}:=y1 43 15 2 oZ func102 auD c0 [.a c0,a1]
def auA:=kW 21 [(4,([7,15],[1,3,13,14])),(11,([7,10,28],[1,3,9,13,14,15,26,27])),(14,([7,10],[1,3,9,13,14,15,26,27,28])),(18,([7],[1,3,9,10,13,14,15,26,27,28]))]
def afu b(f:aG)(c:bu) g a d:=Rg->aV (gt b 2) (iv 1) λe=>f [gt a 0,gt a 1,e] d/\c [gt a 0,gt a 1,e] d<c b g
def Jd a(c:aG) b d:=Rg->aV (gt a 1) (iv 1) λe=>c [gt b 0,e] d
def afw a i c(b:aG):=QbE (gt a 1) i λf=>ah f (eV (aX bH 1 c [(0,gt a 2)]) λg d=>eV (apA 3 fB 8 d 43 (gt a 0) g) λh e=>b [h] e)<|b [gt a 0] c
def aft d a1(c:aG) a g b:=Qfl 0 b d λe=>aO .neq e a1 λf=>ah f (c [gt a 0,gt a 1] b)<|jV 18 (Jd a c)<|afw a g b
def afv b f c a1 i d:=ao 7 b f (gt c 2) λg=>aw 7 b g λh=>eV (alA 62 brx b 12) λa e=>sV (aK 7 e a h)<|aft a a1 d c i
def afx i h a1 m d(k:aG)(g:bu) l e f a b:=Rg->aU (gt a 2) i λj=>ah j (jV 14 (afu a e f b)<|afv b h a a1 m) (aV (gt d 1) (iv 1) λc=>k [gt a 0,c] b/\g [gt a 0,c] b<g d l)
def afy t3 j d a1 R i k b a:=Rg->aU (gt b 1) t3 λl=>ah l (ao 1 a j (gt b 1) λm=>aM a m λn=>aB 7 a d λo=>Qfl 6 a o λe=>ao 1 a e a1 λf=>aM a f λg=>Qfl 14 a d λc=>aJ a c λh=>lV [gt b 0,g,iv 0] a<|afx h c a1 n b i k a)<|aE R a [gt b 0]
def afs c a1 a b R:=aJ b a λt3=>lV [.l [] U U,iv 0] b<|afy t3 a c a1 R
def aL3{c0:dM}{a1 b:AV}{R:cC}(l0:L c0=15)(h:H1 43 15 3 c0 λia c=>afs ia a1 b c R):Ct 176 [.a c0,a1,b] R:=z1 auA oZ func176 l0 h
def aus:=kW 11 [(3,([8],[2,3,7]))]
def aLV{c0 b}:=y2 31 6 2 62 7 3 oZ func227 aus c0 b [.a c0, .a b]
def aL0{c0 b}:=y2 31 6 2 62 7 3 oZ func228 aus c0 b [.a c0, .a b]
def aLW{a}:=y0 oZ func174 at1 [a]
def auM:=kW 19 [(4,([7,17],[1,2,3,15,16])),(7,([7],[1,2,3,15,16,17])),(12,([7,45],[1,2,43,44])),(15,([7],[1,2,43,44,45]))]
def aMf{c0 a1 b}:=y1 43 15 3 oZ func49 auM c0 [.a c0,a1,b]
def aLO{c0 b}:=y2 62 7 2 62 7 3 oZ func197 at1 c0 b [.a c0, .a b]
def hI(mk:AV->Int->dM)(b:ae)(ds fs:eP)(e:TypeId)(z n:Nat)(bA:Nat->List (dM))(Inv:Nat->Prop):aG:=λvs Y=>∃(k:Nat) (a:AV),vs=mk a k/\k<=n/\Inv k/\Gr Y ds e z a (bA k)/\Fr b Y fs
def iu{B}(mk)(p)(ds fs)(e)(z n)(bA)(Inv){c b}(d:Inv 0)(f:Gr b ds e z c<|bA 0)(h:∀(k) a Y,k<=n->Inv k->Gr Y ds e z a (bA k)->Fr b Y fs->B (hI mk b ds fs e z n bA Inv) (gM p n) (mk a k) Y):lV (mk c 0) b B:=⟨hI mk b ds fs e z n bA Inv,gM p n,⟨0,c,rfl,mh _,d,f,Fr.refl _ _⟩,by rintro vs Y ⟨k,a,rfl,l,j,i,g⟩;simp_all⟩
def be3{mk p c Y Y' ds fs e z n k bA Inv a b}(l:∀a i,gt (mk a i) p=iv i)(h:k<n)(j:n<4611686018427387904)(d:Inv<|k+1)(g:Gr Y' ds e z b<|bA<|k+1)(f:Fr c Y' fs):hI mk c ds fs e z n bA Inv (mk b<|dq.wrap<|(k:Int)+1) Y'/\gM p n (mk b<|dq.wrap<|(k:Int)+1) Y'<gM p n (mk a k) Y:=by rw[eM (by omega)<|by omega];refine⟨⟨k+1,b,rfl,h,d,g,f⟩,?_⟩;grind [gM]
def fw(p:Nat->Bool)(k:Nat):d0:=((aH k).filter p).map λ(i:Nat)=>(i:Int)
theorem yK(p)(k):fw p (k+1)=fw p k++if p k then[(k:Int)] else[]:=by grind [fw,qn]
theorem qX(p)(k:Nat):L (fw p k)<=k:=by grind [fw,bJ,gl,fZ]
theorem Bo{a p k}(h:p k=U):(a++fw p (k+1)).map ci=(a++fw p k).map ci++[ci k]:=by grind [yK]
def yJ{a p k}(h:p k=I):(a++fw p (k+1)).map ci=(a++fw p k).map ci:=by rw[yK,h];simp
def jo{α β:Type}{f:α->List β}{m:Nat}:∀{l:List α},(∀x∈l,L (f x)<=m)->L (l.flatMap f)<=L l*m
 |[],_=>by simp
 |a::l,h=>by
  have b:=h a (by simp)
  have c:=jo (f:=f) (m:=m) (l:=l) (by simp_all)
  rw[Cz,a6G,bZ,Nat.succ_mul]
  omega
def aII{β:Type}{l}{f:Int->List β}{k:Nat}(h:k<L l):(l.take<|k+1).flatMap f=(l.take k).flatMap f++f (gd l k):=by rw[iJ h,GC,bT h];simp
def oX{l:List ByteArray}:∀r∈l.map cs,L r=1:=by simp
theorem Ez{α}[Inhabited α]{a l}{g:α->ByteArray}{k:Nat}(h:k<L l):(a++(l.take<|k+1).map g).map cs=(a++(l.take k).map g).map cs++[cs<|g<|gd l k]:=by grind [iJ,bT,bje]
def uo(p:Nat->Bool)(n:Nat):Int:=match(aH n).find? p with|some i=>i|none=> -1
def al8{p k}(b:p k=U)(a:∀j,j<k->p j=I):∀n,k<n->(aH n).find? p=V k
 |0,h=>by omega
 |n+1,h=>by
  simp_all
theorem KW{p n k}(a:k<n)(c:p k=U)(b:∀j,j<k->p j=I):uo p n=k:=by simp[uo,al8 c b n a]
theorem KX{p n}(a:∀j,j<n->p j=I):uo p n= -1:=by grind [aH,List.find?_eq_none,uo]
def QV{R Y n b}:aE R Y [iv n,bv b]=R (.t [iv n,bv b]):=by simp[aE,jS,iZ,dQ,kG,pF,nj]
def aRN{p:Nat->Bool}{k}(h:∀j,j<k->p j=I)(a:p k=I):∀j,j<k+1->p j=I:=(by grind)
def oJ{a l}:eO 0 (.t (a::l))=V a:=rfl
def pG{a b l}:eO 1 (.t (a::b::l))=V b:=rfl
def KM{a b c l}:eO 2 (.t (a::b::c::l))=V c:=rfl
def aIl{l:List ByteArray}{t o}{i:Int}{Y K}:rV (fo 1 Y (.l (l.map cs) t o) J (V<|iv i) J) K=((0<=i/\i<=L l)/\K (.l ((l.take i.toNat).map cs) (t&&((i.toNat:Nat)==L l)) o)):=by simp only[fo,lM];by_cases a:0<=i;simp only[a,a7g,qY,sD,mi,mh,aNG,bJ];grind [rV,bkj];simp[a,rV]
def avX{a b:Int}:aTH .eql 0 [] (.s<|.int .u8 a) (.s<|.int .u8 b)=V (bv<|Q<|a=b):=rfl
def amZ{K Y}{i:Int}{l t o}:rV (cz 1 Y (.l (l.map cs) t o)<|iv i) K=(aF (L l) i/\K (.q<|cs<|gd l i.toNat)):=amY (Y:=Y)
def aDm{Y r}:lo Y [] r=True:=by simp[lo,nA]
def rZ(s:ByteArray):Bool:=ik.any λx=>Q<|x=s
def OC(s):Ct 199 [st s] (·=bv (rZ s)):=by refine aLd λs0 _ c=>?_;simp only[ar,sW,aDm];refine bc4 (L ik) (λk=>∀j,j<k->gd ik j≠s) (by simp) λk e d=>?_;simp+contextual only[qz 25,eQ,amZ,gT,rk,bh];refine⟨λh=>⟨vp h,λa=>?_,λa=>gS (aL h) (by decide)<|by grind⟩,λh=>?_⟩;grind [rZ,List.any_eq_true,dB,aL];have:rZ s=I:=(by rw[rZ,List.any_eq_false];intro x b;have:=(px (p:=λx=>x≠s)).1 (by grind) x b;simp_all);rw[this]
def Fw:FT:=lH OC
def ayz:=np Fw OC
def oO(c:Int):Bool:=wx c||zY c||Q (c=95)
def OG(c):Ct 200 [.s<|.int .u8 c] (·=bv (oO c)):=by refine aLh λs0 _ a=>?_;simp+contextual only[eQ,ar,sW,avX,oO]
def aTY:FT:=lH OG
def ayD:=np aTY OG
def nh(a b:aP):Bool:=tT a&&tT b&&Q (a.bF=b.bF)&&(Q (a.kind=4)||Q (b.kind=4))
def Pi(a b):Ct 197 [.a a.c, .a b.c] (·=bv (nh a b)):=by refine aLO rfl rfl λh g d e f=>?_;simp+contextual only[eT,ar,sW,d,e,nh]
def zh:FT:=lI Pi
def ay7:=nq zh Pi
def dD(w:pz)(e:aP):Int×Bool:=bif Q (e.kind=6)||Q (e.kind=10) then(e.bF,I) else bif Q (e.kind=8) then(e.bF,U) else bif Q (e.kind=17) then(sd w e.bF,I) else(-1,I)
def dY(w:pz)(e:aP):Int×Bool:=bif Q (e.kind=7)||Q (e.kind=11) then(e.bF,I) else bif Q (e.kind=9) then(e.bF,U) else bif Q (e.kind=16) then(sd w e.bF,I) else(-1,I)
def Pr(w)(e):Ct 227 [.a w.c, .a e.c] (·= .t [iv (dD w e).1,bv (dD w e).2]):=by refine aLV rfl rfl λh g d b f=>?_;simp only[eT,b];simp only[qz 23,iM,aY,sw];simp only[qz 21,aI,au];simp+contextual only[↓iS,eT,ar,sW,d,b,QV,dD,a7c,a5C,aO1,aPe]
def FV:FT:=lI Pr
def aze:=nq FV Pr
def Pv(w)(e):Ct 228 [.a w.c, .a e.c] (·= .t [iv (dY w e).1,bv (dY w e).2]):=by refine aL0 rfl rfl λh g d b f=>?_;simp only[eT,b];simp only[qz 23,iM,aY,sw];simp only[qz 21,aI,au];simp+contextual only[↓iS,eT,ar,sW,d,b,QV,dY,a7c,a5C,aO1,aPe]
def FW:FT:=lI Pv
def azi:=nq FW Pv
def Ps(l)(d:L l<1000000):Ct 174 [sl ci l] (λr=>∃t,r= .l (l.map ci) t U):=by refine aLW λs0 b c=>?_;simp only[qy 2];refine fP (bA:=[]) (ds:=[4]) (new:=l.map ci) Gr.nil rfl (by decide) (by decide) (by rw[b];decide) (by simp) (qW (f:=ci) λ_=>rfl) (by simp only[bJ,aO6];omega) λa e g F=>?_;exact qV g λt=>⟨t,rfl⟩
def RB:FT:=om Ps
def pV(e x:aP):Bool:=Q (e.kind=1)&&(Q (x.kind=20)&&Q (x.bF=e.aq))||Q (e.kind=21)&&(Q (x.kind=2)&&Q (x.aq=e.bF))||Q (e.kind=23)&&(Q (x.kind=22)&&Q (x.bF=e.bF))
def kr(w:am)(j:Int):Int:=uo (λi=>pV (gd w.ac j.toNat)<|gd w.ac i)<|L w.ac
def btN(w)(j:Int)(v:L w.ac<1000000/\aF (L w.ac) j):Ct 171 [.a w.c,iv j] (·=iv (kr w j)):=by refine aL5 rfl λA o l y=>?_;simp only[qy 4,eT,l,ix];refine⟨v.2,?_⟩;refine eF rfl rfl (by decide) (by rw[o];decide) λB g r=>?_;have s:=g.bt l;simp only[qz 6,eT,s];refine pQ (L w.ac) [7] (λk=>∀i,i<k->pV (gd w.ac j.toNat) (gd w.ac i)=I) (by simp) λk Y z e b=>?_;have m:=b.bt r;simp+contextual only[qz 25,qy 8,eQ,ix,rk,bh];refine⟨λh=>⟨vp h,?_⟩,λh=>?_⟩;refine eF rfl rfl (by decide) (by rw[b.1,g.1,o];decide) λx f q=>?_;have t:=f.bt m;simp+contextual only[qz 10,eT,t,q];refine⟨λd=>?_,λd=>oL (aL h) (by omega) (aRN e d)<|b.trans f⟩;rw[kr,KW (aL h) d e];have:=KX (p:=λi=>pV (gd w.ac j.toNat)<|gd w.ac i) (n:=L w.ac) (λi u=>e i<|biN u<|bw h);simp only[kr,this]
def FZ:FT:=aIc btN
def azn:=gX FZ btN
def od(l:List aP)(u:Int):Nat->Option Nat|0=>J|k+1=>if((gd l k).aq=u/\(gd l k).kind=16) then V k else od l u k
def be7(w:am)(k:Int):Int×Bool:=
 match od w.ac (gd w.ac k.toNat).aq k.toNat with
 |some i=>(i,U)
 |none=>if(gd w.init.bW.ay (gd w.ac k.toNat).aq.toNat).cQ=3 then(-1-(gd w.ac k.toNat).aq,U) else(0,I)
def PC(w)(k:Int)(o:L w.ac<1000000/\aF (L w.ac) k/\aF (L w.init.bW.ay) (gd w.ac k.toNat).aq/\L w.init.bW.ay<1000000):Ct 102 [.a w.c,iv k] (·= .t [iv (be7 w k).1,bv (be7 w k).2]):=by refine aL6 rfl λB A j y=>?_;obtain⟨r,f,g,u⟩:=o;have l:=f.1;have q:=f.2;have v:=g.1;have x:=g.2;simp+contextual only[eT,j,ix];refine⟨f,?_⟩;rw[eM (by omega)<|by omega];refine⟨λvs=>∃i:Nat,vs=[iv<|(i:Int)-1]/\i<=k.toNat/\od w.ac (gd w.ac k.toNat).aq i=od w.ac (gd w.ac k.toNat).aq k.toNat,λvs=>match vs with|[.s (.int _ i)]=>(i+1).toNat|_=>0,⟨k.toNat,by rw[kA l],dA _,rfl⟩,?_⟩;rintro vs ⟨i,rfl,z,d⟩;simp+contextual only[qz 25,eT,j,ix,dc,QV];refine⟨λh=>?_,λh=>⟨g,λb=>?_,λb=>?_⟩⟩;simp only[aBY] at h;obtain⟨i,rfl⟩:∃p,i=p+1:=⟨i-1,by omega⟩;have m:((i+1:Nat):Int)-1=(i:Int):=(by omega);rw[m];have n:dq.wrap ((i:Int)-1)=(i:Int)-1:=eM (by omega) (by omega);rw[n,bh];have e:aF (L w.ac) (i:Int):=⟨by omega,by omega⟩;refine⟨e,λ_=>e,λb=>?_,λb=>⟨⟨i,rfl,by omega,?_⟩,by omega⟩⟩;simp at b;have:be7 w k=((i:Int),U):=(by rw[be7,<-d,od,sz b]);rw[this];simp only[bik,aNK] at b;rw[<-d,od,r9 (λh=>by rcases b with b|b<;>simp_all)];simp only[aNK] at h;obtain rfl:i=0:=(by omega);have:be7 w k=(-1-(gd w.ac k.toNat).aq,U):=(by rw[be7,<-d];simp at b;simp[od,b]);rw[this,eM (by omega)<|by omega];simp only[aNK] at h;obtain rfl:i=0:=(by omega);have:be7 w k=(0,I):=(by rw[be7,<-d];simp at b;simp[od,b]);rw[this]
def Cm:FT:=aIc PC
def azo:=gX Cm PC
def mr(w:am)(r:Int)(i:Nat):Bool:=aTG (gd w.ac i) (gd w.ac r.toNat)&&(Q ((gd w.ac i).value=(gd w.ac r.toNat).value)&&!(Q ((gd w.ac i).aq=(gd w.ac r.toNat).aq)&&Q (r<i)))
def dx(w:am)(r:Int):d0:=bif dh r (L w.ac)&&fR (gd w.ac r.toNat) then(bif oM w (gd w.ac r.toNat) then[-1] else[])++fw (mr w r) (L w.ac) else[]
def Px(w)(q:Int)(S:L w.ac<100000/\(aF (L w.ac) q->((gd w.ac q.toNat).kind=23->aF (L w.init.bW.done) (gd w.ac q.toNat).bF/\aF (L w.init.bU) (gd w.ac q.toNat).bF)/\((gd w.ac q.toNat).kind=3->aF (L w.init.cells) (gd w.ac q.toNat).bF))):Ct 48 [.a w.c,iv q] (λr=>∃t,r= .l ((dx w q).map ci) t U):=by refine aL2 rfl λs2 R p h0=>?_;simp+contextual only[qy 4,eT,p,ix,ar,sW];have y:(Q (q<0)||Q ((L w.ac:Int)<=q))=!dh q (L w.ac):=(by grind [dh]);rw[y];refine⟨(by grind [dX]),λh=>?_,λh=>?_⟩;have:dx w q=[]:=(by grind [Bool.not_and,eH,dx]);rw[this];exact⟨rfl,U,rfl⟩;simp only[cP,fK] at h;obtain⟨x,T⟩:=h;have E:=dX.1 x;obtain⟨Z,D⟩:=S;obtain⟨aa,ab⟩:=D E;have hc:dx w q=(bif oM w (gd w.ac q.toNat) then[-1] else[])++fw (mr w q) (L w.ac):=(by simp[dx,x,T]);refine⟨E,eF rfl rfl (by decide) (by omega) λm n s=>?_⟩;have u:=n.bt p;have hk:(gd w.ac q.toNat).kind=3\/(gd w.ac q.toNat).kind=23:=(by grind [fR]);have B:L m=4096:=(by rw[n.1,R]);simp only[qz 6];refine bpl (λb=>∀a Y (f:d0),L f<=1->dx w q=f++fw (mr w q) (L w.ac)->Fr m Y [37,72]->Gr Y [37,72] 3 1 a (f.map ci)->b [a] Y) ?_ λb z=>?_;intro a Y f ad v e G4;have G:=e.bt u;have H:=e.bt s;simp only[qz 39,au,eT,G];refine iu (λa i=>[a,iv i]) 1 [37,72] [37,72,8] 3 1 (L w.ac) (λk=>(f++fw (mr w q) k).map ci) (λ_=>True) trivial (by grind [fw]) λk a' Y' X _ P g=>?_;have K:=g.bt H;have C:L Y'=4096:=(by rw[g.1,e.1,B]);simp only[qz 61,di,eQ,qz 83,qy 12,ix,rk,bh];refine⟨λh=>⟨vp h,?_⟩,λh=>?_⟩;refine eF rfl rfl (by decide) (by omega) λY2 d F=>?_;have M:=d.bt K;simp+contextual only[qz 14,qy 16,qy 18,eT,M,F,ar,sW,iz];have ae:=qX (mr w q) k;refine⟨λj=>?_,λj=>?_⟩;refine fP (P.fr d<|by decide) rfl (by decide) (by decide) (by rw[d.1,C];decide) pU (by simp) (by grind) λa2 Y3 N o=>?_;simp only[qz 81,aI,au,fE,cS,aY];refine be3 (mk:=λa i=>[a,iv i]) (λ_ _=>rfl) (aL h) (by omega) trivial ?_ (g.trans<|(d.mono<|by decide).trans<|o.mono<|by decide);rw[Bo j];exact N;simp only[qz 81,aI,au,fE,cS,aY];refine be3 (mk:=λa i=>[a,iv i]) (λ_ _=>rfl) (aL h) (by omega) trivial ?_ (g.trans<|d.mono<|by decide);rw[yJ j];grind [Gr.fr];have A:k=L w.ac:=(by grind);subst A;rw[v];grind [qV];simp+contextual only[qz 41,qy 8,qy 10,eQ,u,s,rk,ar,sW,iz];refine⟨(by grind),λh=>?_,λh=>?_⟩;refine fP (bA:=[]) (ds:=[37,72]) (new:=[ci<|-1]) Gr.nil rfl (by decide) (by decide) (by omega) (by simp) (by simp) (by decide) λa W O e=>?_;exact z a W [-1] (by simp) (by grind) e O;exact z _ m [] (by simp) (by grind) (Fr.refl _ _) Gr.nil
def zi:FT:=pn Px
def azk:=rQ zi Px
def vf(w:am)(c u:Int)(i:Nat):Bool:=Q ((i:Int)≠u)&&(Q ((gd w.init.bW.ay i).cQ=3)&&Q ((gd w.init.bW.ay i).cond=c))
def wV(w:am)(c u:Int)(i:Nat):Bool:=Q ((gd w.ac i).aq≠u)&&(Q ((gd w.ac i).kind=16)&&Q ((gd w.ac i).bF=c))
def iH(w:am)(c u:Int)(k:Nat):d0:=(fw (vf w c u) k).map λt=> -1-t
def mR(w:am)(c u:Int):d0:=iH w c u (L w.init.bW.ay)++fw (wV w c u) (L w.ac)
def PL(w)(c u:Int)(O:L w.ac<100000/\L w.init.bW.ay<100000):Ct 49 [.a w.c,iv c,iv u] (λr=>∃t,r= .l ((mR w c u).map ci) t U):=by refine aMf rfl λP D s M=>?_;simp+contextual only[eT,s,dc];refine iu (λa i=>[a,iv i]) 1 [40,68] [40,68,9] 3 1 (L w.init.bW.ay) (λk=>(iH w c u k).map ci) (λ_=>True) trivial (.inl ⟨rfl,rfl⟩) λk a Y N _ C m=>?_;have B:=m.bt s;have o:L Y=4096:=(by rw[m.1,D]);have K:=qX (vf w c u) k;simp only[qz 25,di,eT,qz 47,qy 4,ix,bh,B];refine⟨λh=>⟨vp h,?_⟩,λh=>?_⟩;refine eF rfl rfl (by decide) (by omega) λy b p=>?_;simp+contextual only[qz 6,qy 8,qy 10,eT,p,iz];have H:=aL h;rw[eM (x:= -1-(k:Int)) (by omega)<|by omega];refine⟨λd=>?_,λd=>?_⟩;refine fP (C.fr b<|by decide) rfl (by decide) (by decide) (by rw[b.1,o];decide) pU (by simp) (by grind [iH,bJ,a6G,bZ,aO6]) λA z v f=>?_;simp only[qz 45,aI,au,fE,cS,aY];refine be3 (mk:=λa i=>[a,iv i]) (λ_ _=>rfl) (aL h) (by omega) trivial ?_ (m.trans<|(b.mono<|by decide).trans<|f.mono<|by decide);grind [vf,iH,yK];simp only[qz 45,aI,au,fE,cS,aY];refine be3 (mk:=λa i=>[a,iv i]) (λ_ _=>rfl) (aL h) (by omega) trivial ?_ (m.trans<|b.mono<|by decide);have F:vf w c u k=I:=d;have e:iH w c u (k+1)=iH w c u k:=(by grind [iH,yK]);grind [Gr.fr];have j:k=L w.init.bW.ay:=(by grind);subst j;refine iu (λa i=>[a,iv i]) 1 [40,68] [40,68,11] 3 1 (L w.ac) (λk=>(iH w c u (L w.init.bW.ay)++fw (wV w c u) k).map ci) (λ_=>True) trivial (by grind [fw]) λk a Y' G _ n g=>?_;have q:L Y'=4096:=(by rw[g.1,o]);have E:=qX (wV w c u) k;simp only[qz 73,di,eQ,qz 95,qy 12,ix,rk,bh];refine⟨λh=>⟨vp h,?_⟩,λh=>?_⟩;refine eF rfl rfl (by decide) (by omega) λy b p=>?_;simp+contextual only[qz 14,qy 16,qy 18,eT,p,iz];refine⟨λd=>?_,λd=>?_⟩;refine fP (n.fr b<|by decide) rfl (by decide) (by decide) (by rw[b.1,q];decide) pU (by simp) (by grind [iH,bJ,a6G,bZ,aO6]) λA z v f=>?_;simp only[qz 93,aI,au,fE,cS,aY];refine be3 (mk:=λa i=>[a,iv i]) (λ_ _=>rfl) (aL h) (by omega) trivial ?_ (g.trans<|(b.mono<|by decide).trans<|f.mono<|by decide);rw[Bo d];exact v;simp only[qz 93,aI,au,fE,cS,aY];refine be3 (mk:=λa i=>[a,iv i]) (λ_ _=>rfl) (aL h) (by omega) trivial ?_ (g.trans<|b.mono<|by decide);rw[yJ d];grind [Gr.fr];have j:k=L w.ac:=(by grind);subst j;exact qV n λt=>⟨t,rfl⟩
def Ge:FT:=vn PL
def azx:=zZ Ge PL
def lU(l:List aP)(u:Int)(k:Nat):Nat:=L ((l.take k).filter λe=>Q<|e.aq=u)
def alN{l}{u:Int}{k:Nat}(h:k<L l):lU l u (k+1)=lU l u k+if(gd l k).aq=u then 1 else 0:=by grind [lU,iJ,a6G,bT]
def axv{l u k}:lU l u k<=k:=by grind [lU,gl,fZ]
def lm(w:am)(u n:Int)(i:Nat):Bool:=Q ((gd w.ac i).aq=u)&&Q (gd w.init.count u.toNat+(lU w.ac u i:Int)=n)
def brv(w:am)(u:Int)(l:d0)(k:Nat):d0:=(l.take k).flatMap λn=>fw (lm w u n)<|L w.ac
def fg(w:am)(u:Int)(l:d0):d0:=brv w u l<|L l
def Pz(w)(u:Int)(l)(hp:L w.ac<1000/\L l<10000/\aF (L w.init.count) u/\0<=gd w.init.count u.toNat/\gd w.init.count u.toNat<=100000):Ct 176 [.a w.c,iv u,sl ci l] (λr=>∃t,r= .l ((fg w u l).map ci) t U):=by refine aL3 rfl λs2 hl T h0=>?_;obtain⟨p1,p2,p3,p4,p5⟩:=hp;simp+contextual only[afs,eQ,↓uL];have A:∀k,L (brv w u l k)<=k*L w.ac:=λk=>(by refine gl (jo λn _=>qX (lm w u n)<|L w.ac) ?_;exact Nat.mul_le_mul_right _<|by simp;omega);refine iu (λa i=>[a,iv i]) 1 [43] [43,12] 3 1 (L l) (λk=>(brv w u l k).map ci) (λ_=>True) trivial (.inl ⟨rfl,rfl⟩) λk a Y hk _ E z=>?_;have X:=z.bt T;have H:L Y=4096:=(by rw[z.1,hl]);simp only[afy,eT,ix,bh,X,dc,↓uL];refine⟨λh=>⟨vp h,p3,?_⟩,λh=>?_⟩;have al:=A k;have ak:k*L w.ac<=10000*1000:=xn (by omega) (by omega);have G:=aL h;have hz:lU w.ac u 0=0:=rfl;refine(show lV ((λa (i:Int)=>[a,iv<|gd w.init.count u.toNat+(lU w.ac u i.toNat:Int),iv i]) a 0) Y _ from ?_:lV _ _ _)|>λx=>(by simpa[hz] using x);refine iu (λa (i:Int)=>[a,iv<|gd w.init.count u.toNat+(lU w.ac u i.toNat:Int),iv i]) 2 [43] [43,12] 3 1 (L w.ac) (λm=>(brv w u l k++fw (lm w u<|gd l k) m).map ci) (λ_=>True) trivial (by simpa[fw] using E) λm y C hm _ g d=>?_;have p:L C=4096:=(by rw[d.1,H]);have am:=qX (lm w u<|gd l k) m;have ah:=axv (l:=w.ac) (u:=u) (k:=m);simp only[afx,di,eQ,afv,ix,rk,bh,↓uL];refine⟨λs=>⟨vp s,?_⟩,λs=>?_⟩;refine eF rfl rfl (by decide) (by rw[p];decide) λD f W=>?_;have v:=aL s;have b:=alN (u:=u) v;have o:∀q Y',Fr Y Y' [43,12]->Gr Y' [43] 3 1 q ((brv w u l k++fw (lm w u<|gd l k) (m+1)).map ci)->afu [y,iv<|gd w.init.count u.toNat+(lU w.ac u m:Int),iv m] (hI (λa (i:Int)=>[a,iv<|gd w.init.count u.toNat+(lU w.ac u i.toNat:Int),iv i]) Y [43] [43,12] 3 1 (L w.ac) (λm=>(brv w u l k++fw (lm w u<|gd l k) m).map ci) λ_=>True) (gM 2<|L w.ac) C [q,iv<|gd w.init.count u.toNat+(lU w.ac u (m+1):Int)] Y':=(by intro q Y' N P _;simp only[au,fE,cS,aY,↓uL];rw[fX<|by omega];refine⟨⟨m+1,q,by simp,v,trivial,P,N⟩,?_⟩;simp only[gM,fE,au,bh];omega);simp+contextual only[aft,eT,W,iz,afw,↓uL];have M:dq.wrap (gd w.init.count u.toNat+(lU w.ac u m:Int)+1)=gd w.init.count u.toNat+(lU w.ac u m:Int)+1:=eM (by omega) (by omega);refine⟨λj=>?_,λj=>⟨λB=>?_,λB=>?_⟩⟩;simp only[aBY] at j;rw[r9 j,kP] at b;have:=o y D (d.trans<|f.mono<|by decide) (by rw[yJ<|by simp[lm,j]];exact g.fr f<|by decide);rw[b] at this;exact this;have e:(gd w.ac m).aq=u:=(by simpa using j);rw[sz e] at b;refine fP (g.fr f<|by decide) rfl (by decide) (by decide) (by rw[f.1,p];decide) pU (by simp) (by simp only[bJ,a6G,bZ,aO6];omega) λS R Z O=>?_;simp only[Jd,aI,au,fE,cS,aY,M,↓uL];have:=o S R (d.trans<|(f.mono<|by decide).trans<|O.mono<|by decide) (by rw[Bo<|by simp only[lm,e,boV,iw];exact B];exact Z);rw[b,Gw,<-aqB] at this;exact this;have e:(gd w.ac m).aq=u:=(by simpa using j);rw[sz e] at b;simp only[Jd,aI,au,fE,cS,aY,M,↓uL];have:=o y D (d.trans<|f.mono<|by decide) (by rw[yJ<|by simp only[lm,e,boV,iw];exact B];exact g.fr f<|by decide);rw[b,Gw,<-aqB] at this;exact this;have K:=bP hm<|bw s;subst K;refine be3 (mk:=λa i=>[a,iv i]) (λ_ _=>rfl) (aL h) (by omega) trivial ?_<|z.trans d;rw[brv,aII G];exact g;have F:=bP hk<|bw h;subst F;exact qV E λt=>⟨t,rfl⟩
def zj:FT:=vn Pz
def azl:=zZ zj Pz
theorem Gr.mono{Y ds b e z a bA}(i:Gr Y ds e z a bA)(h:∀k∈ds,k∈b):Gr Y b e z a bA:=by rcases i with c|⟨d,v,c,f,g⟩;exact .inl c;exact .inr ⟨d,v,c,h _ f,g⟩
def aEs{a b}:aTH .neq 0 [] (st a) (st b)=V (bv<|Q<|a≠b):=by show V (bv<|a.toList !=b.toList)=_;congr 3;grind [aqv,ByteArray.toList_eq,qb]
def sM(c x:cA)(k:Nat):Bool:=!(Q (x.index≠k)||Q (x.name≠c.name)||Q (x.size≠c.size)||Q (x.init≠c.init)||x.vol)
def a7d(l:List cA)(i:Nat):Option Nat:=
 if(gd l i).size=0 then(if(gd l i).index≠0 then J else V (i+1))
 else if((gd l i).size<1\/4<(gd l i).size\/(L l:Int)-i<(gd l i).size) then J
 else if(∀k,k<(gd l i).size.toNat->sM (gd l i) (gd l<|i+k) k=U) then V (i+(gd l i).size.toNat) else J
def jv(l:List cA):Nat->Nat->List ByteArray->Option (List ByteArray)
 |0,i,a=>if i<L l then J else V a
 |f+1,i,a=>if i<L l then(match a7d l i with|none=>J|some j=>jv l f j<|a++[(gd l i).name]) else V a
def lY(w:pz):Option (List ByteArray):=(jv w.cells (L w.cells) 0 []).map λa=>a++w.ak.map (·.name)++w.bC.map (·.name)++w.bU++w.ay
def OJ(w)(hp:L w.cells<10000/\L w.ak<10000/\L w.bC<10000/\L w.bU<10000/\L w.ay<10000):Ct 131 [.a w.c] (λr=>∃t o,r= .t [.l (((lY w).getD []).map cs) t o,bv (lY w).isSome]):=by refine aLk rfl λs2 hl b1 h0=>?_;obtain⟨p1,p2,p3,p4,p5⟩:=hp;refine⟨λvs Y=>∃(i f:Nat) (a:AV) (b:List ByteArray),vs=[a,iv i]/\i<=L w.cells/\L b<=i/\L w.cells-i<=f/\jv w.cells (L w.cells) 0 []=jv w.cells f i b/\Gr Y [25] 9 1 a (b.map cs)/\Fr s2 Y [25,6,8],gM 1<|L w.cells,⟨0,L w.cells,_,[],rfl,by omega,by simp,by omega,rfl,Gr.nil,Fr.refl _ _⟩,?_⟩;rintro vs Y ⟨i,f,a,b,rfl,hi,aF,hf,ab,hG,T⟩;have P:=T.bt b1;have z:L Y=4096:=(by rw[T.1,hl]);simp only[qz 25,qy 4,eT,P,ix,bh];refine⟨λh=>⟨vp h,?_⟩,λh=>?_⟩;refine eF rfl rfl (by decide) (by omega) λO g b2=>?_;simp+contextual only[qz 6,qy 8,eT,b2,iz];refine fP (hG.fr g<|by decide) rfl (by decide) (by decide) (by rw[g.1,z];decide) (by simp) (by simp) (by grind) λs A R n=>?_;have b3:=n.bt b2;have c3:=n.bt<|g.bt P;simp+contextual only[qz 10,↓iS,eT,b3,c3];have aW:=aL h;obtain⟨f,rfl⟩:∃f',f=f'+1:=⟨f-1,by omega⟩;have D:jv w.cells (L w.cells) 0 []=(match a7d w.cells i with|none=>J|some j=>jv w.cells f j<|b++[(gd w.cells i).name]):=(by grind [jv]);have u:a7d w.cells i=J->∀Y',aE (λr=>∃t o,r= .t [.l (((lY w).getD []).map cs) t o,bv (lY w).isSome]) Y' [.l [] U U,bv I]:=(by intro hn Y';rw[hn] at D;have:lY w=J:=(by rw[lY,D];rfl);rw[this];exact⟨rfl,U,U,rfl⟩);have next:∀j Y',a7d w.cells i=V j->i<j->j<=L w.cells->Gr Y' [25] 9 1 s ((b++[(gd w.cells i).name]).map cs)->Fr s2 Y' [25,6,8]->(∃(i f:Nat) (a:AV) (b:List ByteArray),[s,iv (j:Int)]=[a,iv i]/\i<=L w.cells/\L b<=i/\L w.cells-i<=f/\jv w.cells (L w.cells) 0 []=jv w.cells f i b/\Gr Y' [25] 9 1 a (b.map cs)/\Fr s2 Y' [25,6,8])/\gM 1 (L w.cells) [s,iv (j:Int)] Y'<gM 1 (L w.cells) [a,iv i] Y:=(by intro j Y' hs aT hj G' F';rw[hs] at D;refine⟨⟨j,f,s,b++[(gd w.cells i).name],rfl,hj,by simp;omega,by omega,D,G',F'⟩,?_⟩;grind [gM,fE,au,bh]);have H:Gr A [25] 9 1 s ((b++[(gd w.cells i).name]).map cs):=(by grind);have E:=T.trans ((g.mono<|by decide).trans<|n.mono<|by decide);rw[fX (by omega),eM (x:=(L w.cells:Int)-i) (by omega)<|by omega];refine⟨λhs=>⟨λhx=>u ?_ _,λhx=>next (i+1) A ?_ (by omega) (by omega) H E⟩,λhs=>⟨λhb=>u ?_ _,λhb=>?_⟩⟩;grind [a7d];grind [decide_eq_false_iff_not,a7d];grind [decide_eq_false_iff_not,a7d];simp only[aNK] at hs;simp only[cP,aNK] at hb;have aX:((gd w.cells i).size.toNat:Int)=(gd w.cells i).size:=(by omega);have K:a7d w.cells i=if(∀k,k<(gd w.cells i).size.toNat->sM (gd w.cells i) (gd w.cells<|i+k) k=U) then V (i+(gd w.cells i).size.toNat) else J:=(by grind [a7d]);refine pQ (gd w.cells i).size.toNat [8] (λk=>∀m,m<k->sM (gd w.cells i) (gd w.cells<|i+m) m=U) (by simp) λk q hk hc p=>?_;have b4:=p.bt b3;have c4:=p.bt c3;have aN:L q=4096:=(by rw[p.1,n.1,g.1,z]);simp only[qz 121,qy 12,eT,b4,c4,ix];have W:∀m:Nat,m<=10->dq.wrap ((i:Int)+m)=((i+m:Nat):Int):=(by grind [eM]);refine⟨λy=>?_,λy=>?_⟩;simp only[aBY] at y;rw[W k (by omega),bh];refine⟨dJ (by omega),eF rfl rfl (by decide) (by omega) λY5 F5 b5=>?_⟩;have b6:=F5.bt b4;simp+contextual only[qz 14,eT,b5,b6,aEs];have M:k<(gd w.cells i).size.toNat:=(by omega);refine⟨λao=>u ?_ _,λao=>?_⟩;rw[K,r9];grind [sM,fh];refine oL M (by omega) (a6p hc ?_)<|p.trans F5;grind [sM,kN];simp only[aNK] at y;have M:k=(gd w.cells i).size.toNat:=(by omega);have e:dq.wrap ((i:Int)+(gd w.cells i).size)=((i+(gd w.cells i).size.toNat:Nat):Int):=(by grind);rw[e];refine next _ q ?_ (by omega) (by omega) (H.fr p<|by decide) (E.trans<|p.mono<|by decide);rw[K,sz<|by grind];have aJ:jv w.cells (L w.cells) 0 []=V b:=(by rw[ab];have:=bw h;cases f<;>simp[jv,Nat.not_lt.2 this]);have hN:lY w=V (b++w.ak.map (·.name)++w.bC.map (·.name)++w.bU++w.ay):=(by grind [lY]);rw[hN];refine iu (λa i=>[a,iv i]) 1 [25,113] [25,113] 9 1 (L w.ak) (λk=>(b++(w.ak.take k).map (·.name)).map cs) (λ_=>True) trivial (by grind [Gr.mono]) λk a1 Y1 aU _ g1 N=>?_;have F:=N.bt P;have l1:L Y1=4096:=(by rw[N.1,z]);simp only[qz 175,qy 16,eT,F,ix,bh,iz];refine⟨λS=>⟨vp S,?_⟩,λS=>?_⟩;refine fP g1 rfl (by decide) (by decide) (by omega) oX (by simp) (by simp;omega) λa2 O C g=>?_;simp only[qz 18,au,fE,cS,aY];refine be3 (mk:=λa i=>[a,iv i]) (λ_ _=>rfl) (aL S) (by omega) trivial ?_<|N.trans g;grind [Ez,aL];have X:k=L w.ak:=(by grind);subst X;rw[gV] at g1;refine iu (λa i=>[a,iv i]) 1 [25,113,129] [25,113,129] 9 1 (L w.bC) (λk=>(b++w.ak.map (·.name)++(w.bC.take k).map (·.name)).map cs) (λ_=>True) trivial (by grind [Gr.mono]) λk a2 O aV _ C g=>?_;have G:=g.bt F;have l2:L O=4096:=(by rw[g.1,l1]);simp only[qz 211,qy 20,eT,G,ix,bh,iz];refine⟨λy=>⟨vp y,?_⟩,λy=>?_⟩;refine fP C rfl (by decide) (by decide) (by omega) oX (by simp) (by simp;omega) λs A R n=>?_;simp only[qz 22,au,fE,cS,aY];refine be3 (mk:=λa i=>[a,iv i]) (λ_ _=>rfl) (aL y) (by omega) trivial ?_<|g.trans n;grind [Ez,aL];have Z:k=L w.bC:=(by grind);subst Z;rw[gV] at C;refine fP (ds:=[25,113,129,133,137]) (new:=w.bU.map cs) (C.mono<|by decide) rfl (by decide) (by decide) (by omega) oX oX (by simp;omega) λs A R n=>?_;have al:=n.bt G;simp only[qz 24,qy 26,eT,al];refine fP (new:=w.ay.map cs) R rfl (by decide) (by decide) (by rw[n.1,l2];decide) (by grind) oX (by simp;omega) λB q g4 p=>?_;obtain⟨x,o,e⟩:=sU g4;have aa:jS q [B,bv U]= .t [.l ((b++w.ak.map (·.name)++w.bC.map (·.name)++w.bU++w.ay).map cs) x o,bv U]:=(by show AV.t [iZ q B,bv U]=_;have:iZ q B=dQ q B:=(by rcases g4 with⟨_,rfl⟩|⟨d,v,rfl,_⟩<;>rfl);simp_all);unfold aE;rw[aa];exact⟨rfl,x,o,rfl⟩
def FD:FT:=om OJ
def ayG:=aUy FD OJ
def aoZ:dO:=(199,Fw)::(200,aTY)::(197,zh)::(227,FV)::(228,FW)::(174,RB)::(171,FZ)::(102,Cm)::(48,zi)::(49,Ge)::(176,zj)::(131,FD)::aoY
def Rc:eJ aoZ:=vl (nH OC)<|vl (nH OG)<|vl (nI Pi)<|vl (nI Pr)<|vl (nI Pv)<|vl (rj Ps)<|vl (aCb btN)<|vl (aCb PC)<|vl (aN0 Px)<|vl (By PL)<|vl (By Pz)<|vl (rj OJ)<|oZ
def Dl:=ai @ayz<|ai @ayD<|ai @ay7<|ai @aze<|ai @azi<|ai @azn<|ai @azo<|ai @azk<|ai @azx<|ai @azl<|ai @ayG<|@sW
def atM:=kW 13 [(6,([3],[0]))]
def aLe{a}:=y0 Rc func132 atM [a]
def aua:=kW 9 [(4,([6],[1,2,4,5]))]
def aLD{c0 a1}:=y1 43 15 2 Rc func130 aua c0 [.a c0,a1]
def rI(s:ByteArray)(i:Nat):Int:=match s[i]? with|some b=>b.toNat|none=>0
def Qm{s}:lsA (st s)=V (iv s.size):=rfl
def aoO{s i K}:rV (sxA (st s)<|iv i) K=(aF s.size i/\K (.s<|.int .u8<|rI s i.toNat)):=by grind [aF,sxA,rV,rI]
def aQt(s:ByteArray):Bool:=!(Q ((s.size:Int)<1)||Q (12<(s.size:Int))||!wx (rI s 0)||rZ s)&&Q (∀j,j<s.size->oO (rI s j)=U)
def OD(s):Ct 132 [st s] (·=bv (aQt s)):=by refine aLe λs0 _ c=>?_;simp+contextual only[eQ,Qm,aoO,ar,Dl,Gx];refine⟨λh=>?_,λh=>?_,λh=>?_⟩;simp at h;exact⟨by omega,by omega⟩;grind [aQt,fh];have b:=h;simp only[cP,aNK] at b;refine bc4 s.size (λk=>∀j,j<k->oO (rI s j)=U) (by simp) λk f e=>?_;simp+contextual only[qz 37,eQ,Qm,aoO,ar,Dl,bh];refine⟨λa=>⟨vp a,λd=>?_,by grind [gS,aL]⟩,λa=>?_⟩;grind [oO,rI,aL,aQt];grind [oO,rI,biN,bw,aQt,decide_eq_true,kN,Bool.and_self]
def aPd:FT:=lH OD
def ayA:=np aPd OD
def cY(w:am):Nat->I5|0=>w.init|k+1=>nD w.aQ (cY w k)<|gd w.ac k
def GV(s:I5):Prop:=(∀l∈s.bW.ak,L l.bk<100000)/\L s.bW.ak<100000/\L s.bW.done<100000/\L s.bW.ay<100000/\L s.cells<100000/\L s.bU<100000/\L s.count<100000
def vo(e:aP):Prop:=L e.dI<4611686018427387904/\L e.ep<4611686018427387904
theorem oC{ds}{s:I5}(h:Lk ds s.c):L ds=7:=by have:=brD L h.1;simp_all [I5.c]
def Bi{ds}(h:L ds=7):aN (V 7) ds=V (.a ds):=by show(if 7<=L ds then V (AV.a<|ds.take 7) else J)=_;grind
def x9{ds b}(h:Lk ds b):eB (.a ds)=[]:=by have d:=dV.1 h.2;show ds.flatMap iR=[];rw[List.flatMap_eq_nil_iff];intro c e;have:=d c e;cases c<;>simp[nj] at this<;>rfl
def OZ(w)(i:Int)(M:L w.aQ.bC<4611686018427387904/\L w.ac<100000/\(∀k:Nat,(k:Int)<i->k<L w.ac->GV (cY w k))/\(∀e∈w.ac,vo e)):Ct 130 [.a w.c,iv i] (λr=>∃cs,r= .a cs/\Lk cs (cY w<|if i<L w.ac then i.toNat else L w.ac).c):=by refine aLD rfl λs2 u C K=>?_;obtain⟨p1,p2,O,P⟩:=M;refine mo u λs3 j D=>?_;have y:=j.bt C;simp only[qz 4,qy 6,qy 8,eT,y];refine eF rfl rfl (by decide) (by rw[j.1,u];decide) λB q x=>?_;have v4:(aZ s3 5).I6=0:=(by rw[j.2 _ (by decide),K 5<|by decide]);rw[v4] at x⊢;have N:L B=4096:=(by rw[q.1,j.1,u]);have E:=q.bt y;have F:=q.bt D;refine⟨λvs Y=>∃(k:Nat) (ds:dM),vs=[iv k]/\k<=L w.ac/\(k=0\/(k:Int)<=i)/\Lk ds (cY w k).c/\box Y (5,1)=V ⟨40,7,U,U,[ds]⟩/\Fr B Y [5],fM<|L w.ac,⟨0,w.init.c,rfl,mh _, .inl rfl,⟨rfl,rfl⟩,x,Fr.refl _ _⟩,?_⟩;rintro vs Y ⟨k,ds,rfl,hk,ag,b,z,l⟩;have G:=l.bt E;have H:=l.bt F;have n:L Y=4096:=(by rw[l.1,N]);have g:=oC b;have o:=Bi g;simp+contextual only[qz 25,qy 12,eT,G,z,o,ix,bh];refine⟨λh=>?_,λh=>?_⟩;simp only[bN,aBY] at h;have d:k<L w.ac:=(by omega);obtain⟨R,S,T,W,X,Z,q7⟩:=O k h.1 d;obtain⟨r1,r2⟩:=P _<|dB d;refine⟨dJ d,?_⟩;simp only[jM,kU,jt,zN,CU,b.arg,Dl];refine⟨⟨p1,R,S,T,W,X,Z,q7,r1,r2⟩,?_⟩;rintro r ⟨f,rfl,m⟩;refine⟨.inl ?_,?_⟩;simp only[nA,Cu,Cv,x9 b];rfl;show sV (aK 7 Y (.p (5,1) 0 0)<|.a f) _;refine gN (cs:=f) z (by rw[n];decide) g (oC m) λs v t=>?_;simp only[qz 10];refine dT rfl ?_;simp only[au,cS,aY];rw[fX<|by omega];refine⟨⟨k+1,f,rfl,d, .inr (by omega),m,t,l.trans v⟩,?_⟩;simp only[fM,cM,bh];omega;simp only[bik,aNK] at h;have A:k=(if i<L w.ac then i.toNat else L w.ac):=(by split<;>omega);refine gN (cs:=ds) H (by rw[n];decide) rfl g λs v t=>?_;simp only[t,eQ,o];rw[<-A];refine⟨?_,ds,?_,b⟩;show(AV.a (ds.map<|dQ s)|>kG)=U;rw[b.fd];exact b.2;show AV.a (ds.map<|dQ s)= .a ds;rw[b.fd]
def zg:FT:=pn OZ
def ayW:=rQ zg OZ
def ao0:dO:=(132,aPd)::(130,zg)::aoZ
def yP:eJ ao0:=vl (nH OD)<|vl (aN0 OZ)<|Rc
def rT:=ai @ayA<|ai @ayW<|@Dl
def atQ:=kW 41 [(10,([5],[1,3])),(18,([6],[1])),(27,([8],[1])),(30,([],[1,8]))]
def aLj{c0}:=y1 31 6 1 yP func66 atQ c0 [.a c0]
def auk:=kW 18 [(8,([31],[3,7,8,9,30]))]
def aLN{c0 a1 b}:=y1 43 15 3 yP func65 auk c0 [.a c0,a1,b]
def aur:=kW 3 []
def aLU{c0 b}:=y2 43 15 2 49 6 3 yP func127 aur c0 b [.a c0, .a b]
def auq:=kW 15 [(7,([7],[2,3,5,6]))]
def aLT{c0 b}:=y2 43 15 2 49 6 3 yP func128 auq c0 b [.a c0, .a b]
def aun:=kW 17 [(10,([9],[2,3,5]))]
def aLQ{c0 b}:=y2 43 15 2 49 6 3 yP func129 aun c0 b [.a c0, .a b]
def wJ(w:pz):Bool:=Q ((12:Int)<L w.cells)||Q ((4:Int)<L w.ak)||Q ((2:Int)<L w.bC)||Q ((2:Int)<L w.bU)||Q ((L w.ay:Int)<1)||Q ((4:Int)<L w.ay)||Q ((60:Int)<L w.dU)
def yn(l:List ByteArray)(j:Nat):Bool:=!aQt (gd l j)||Q (0<=tX (l.take j) (gd l j))
def uh(w:pz)(j:Nat):Bool:=Q ((gd w.bC j).eg<0)||Q ((L w.ak:Int)<=(gd w.bC j).eg)||(gd w.ak (gd w.bC j).eg.toNat).rw
def aOg(w:pz)(j:Nat):Bool:=
 Q ((gd w.dU j).aq<0)||Q ((L w.ay:Int)<=(gd w.dU j).aq)||
 bif Q ((j:Int)=0)||Q ((gd w.dU<|j-1).aq≠(gd w.dU j).aq) then(Q ((gd w.dU j).stmt≠0)||(Q ((0:Int)<j)&&Q ((gd w.dU j).aq<(gd w.dU<|j-1).aq)))
 else Q<|(gd w.dU j).stmt≠dq.wrap ((gd w.dU<|j-1).stmt+1)
def mQ(w:pz):Bool:=
 !wJ w&&(match lY w with
  |none=>I
  |some l=>Q (∀j,j<L l->yn l j=I)&&(Q (∀j,j<L w.bC->uh w j=I)&&Q (∀j,j<L w.dU->aOg w j=I)))
def alH{l}:∀{f i:Nat} {a r},jv l f i a=V r->L r<=L a+f
 |0,i,a,r,h=>by
  grind [jv]
 |f+1,i,a,r,h=>by
  simp only[jv] at h
  split at h
  ·split at h
   ·cases h
   ·have:=alH h
    grind
  simp_all
def anD{w l}(h:lY w=V l):L l<=L w.cells+L w.ak+L w.bC+L w.bU+L w.ay:=by simp only[lY,Option.map_eq_some_iff] at h;obtain⟨a,b,rfl⟩:=h;have:=alH b;grind
def zM{n}{p:Nat->Bool}{k}(a:k<n)(h:p k=U):Q (∀j,j<n->p j=I)=I:=by grind
def OI(w):Ct 66 [.a w.c] (·=bv (mQ w)):=by refine aLj rfl λX F v W=>?_;simp+contextual only[eT,v,ar,rT];refine⟨λh=>?_,λh=>?_⟩;grind [mQ,wJ,fh];have R:wJ w=I:=h;simp only[cP,aNK] at h;refine⟨(by omega),?_⟩;rintro r ⟨t,o,rfl⟩;refine⟨.inl rfl,?_⟩;simp+contextual only[oJ,pG,eQ];refine⟨λG=>?_,λG=>?_⟩;grind [lY,mQ];obtain⟨l,y⟩:∃l,lY w=V l:=(by cases T:lY w with|none=>simp_all|some l=>simp);have P:L l<1000000:=(by have:=anD y;omega);rw[y];have z:mQ w=(Q (∀j,j<L l->yn l j=I)&&(Q (∀j,j<L w.bC->uh w j=I)&&Q (∀j,j<L w.dU->aOg w j=I))):=(by grind [mQ]);refine bc4 (L l) (λk=>∀j,j<k->yn l j=I) (by simp) λk A e=>?_;simp+contextual only[qz 61,mi,eQ,amZ,rk,ar,rT,aIl,bh];refine⟨λb=>⟨vp b,(by omega),λ_=>vp b,λ_=>by simp;omega,λd=>?_,λd=>gS (aL b) (by omega)<|aRN e d⟩,λb=>?_⟩;rw[z,zM (aL b) d,kM];have N:∀j,j<L l->yn l j=I:=(by grind);refine bc4 (L w.bC) (λk=>∀j,j<k->uh w j=I) (by simp) λk A e=>?_;simp+contextual only[qz 109,eT,v,ix,bh];refine⟨λb=>⟨vp b,λE=>?_,λd=>?_,λd=>gS (aL b) (by omega)<|aRN e d⟩,λb=>?_⟩;simp at E;exact⟨by omega,by omega⟩;rw[z,zM (aL b) d,kM,qc];have O:∀j,j<L w.bC->uh w j=I:=(by grind);refine pQ (L w.dU) [9] (λk=>∀j,j<k->aOg w j=I) (by simp) λk Y A e p=>?_;have x:=p.bt v;simp+contextual only[qz 163,di,qz 185,qy 4,eT,x,ix,bh];refine⟨λb=>⟨vp b,?_⟩,λb=>?_⟩;refine eF rfl rfl (by decide) (by rw[p.1,F];decide) λS u C=>?_;have D:=u.bt x;simp+contextual only[qz 6,↓iS,eT,C,D,ix];have q:=aL b;have H:dq.wrap ((k:Int)-1)=(k:Int)-1:=(by grind [eM]);have B:((k:Int)-1).toNat=k-1:=(by omega);rw[H,B];have m:aOg w k=U->bv I=bv (mQ w):=(by grind);refine⟨(by grind [aOg]),λM=>⟨λn=>?_,λn=>⟨λg=>?_,λg=>m ?_,λg=>?_⟩,λn=>⟨?_,λg=>m ?_,λg=>?_⟩⟩⟩;simp at n;exact⟨by omega,by omega⟩;simp at g;exact⟨by omega,by omega⟩;grind [aOg];simp only[qz 183,aI,au,cS,aY];exact oL q (by omega) (aRN e<|by grind [aOg])<|p.trans u;simp only[cP,aNK] at n;exact⟨by omega,by omega⟩;grind [aOg];simp only[qz 183,aI,au,cS,aY];exact oL q (by omega) (aRN e<|by simp only[aOg,M,n,g,Bool.false_or,a5C])<|p.trans u;grind
def FC:FT:=lH OI
def ayF:=np FC OI
def yT{α c f}{l:List α}(h:gK c=sl f l):∃t o,c= .l (l.map f) t o:=by(cases c<;>simp[gK,sl] at h);simp_all
def aIO{c v}(h:gK c= .s v):c= .s v:=by(cases c<;>simp[gK] at h);subst h;rfl
def Qj{ds}{s:I5}(h:Lk ds s.c):∃f d o4 e a g b,ds=eD s.bW f++[.l (s.cells.map ci) d o4, .l (s.bU.map ci) e a, .l (s.count.map ci) g b]:=by have u:=oC h;match ds,u with|[B,C,D,E,F,G,H],_=>have:=h.1;simp only[ji,mU,I5.c,kO,aO5] at this;obtain⟨j,k,m,n,p,q,r⟩:=this;obtain⟨x,v,rfl⟩:=yT j;obtain rfl:=aIO k;obtain⟨y,w,rfl⟩:=yT m;obtain⟨t3,o3,rfl⟩:=yT n;obtain⟨t4,o4,rfl⟩:=yT p;obtain⟨z,a,rfl⟩:=yT q;obtain⟨A,b,rfl⟩:=yT r;exact⟨(x,v,y,w,t3,o3),t4,o4,z,a,A,b,rfl⟩
section
variable{s:aW}{f:Bool×Bool×Bool×Bool×Bool×Bool}{K:cC}{Y:ae}{i:Int}{t o:Bool}
def ry0:aN J (eD s f)=V (.l (s.ak.map cg.c) f.1 f.2.1):=rfl
def aCj{l}:rV (cz 2 Y (.l (l.map cg.c) t o)<|iv i) K=(aF (L l) i/\K (.q<|cg.c<|gd l i.toNat)):=am0 (Y:=Y)
def am1{l}:rV (cz 3 Y (.l (l.map aoC.c) t o)<|iv i) K=(aF (L l) i/\K (.q<|aoC.c<|gd l i.toNat)):=am2 (Y:=Y)
def amb:cK 3 J (.a<|eD s f)=V (.l (s.ay.map aoC.c) f.2.2.2.2.1 f.2.2.2.2.2):=rfl
def KZ{l}:cK 0 (V 4) (.a<|eD s f++l)=V (.a<|eD s f):=rfl
end
def aOj(w:am)(f e:Int):Bool:=
 bif Q ((gd w.ac e.toNat).aq=(gd w.ac f.toNat).aq) then I
 else bif Q ((gd w.ac e.toNat).kind=6)||Q ((gd w.ac e.toNat).kind=10) then(Q ((gd (cY w f.toNat).bW.ak (gd w.ac e.toNat).bF.toNat).aNN=(gd w.ac f.toNat).aq)||Q ((gd w.ac f.toNat).aq∈(gd (cY w f.toNat).bW.ak (gd w.ac e.toNat).bF.toNat).bk))
 else bif Q ((gd w.ac e.toNat).kind=8) then Q<|(gd (cY w f.toNat).bW.ak (gd w.ac e.toNat).bF.toNat).aNN=(gd w.ac f.toNat).aq
 else bif Q ((gd w.ac e.toNat).kind=17) then Q<|(gd (cY w f.toNat).bW.ak (gd w.aQ.bC (gd w.ac e.toNat).bF.toNat).eg.toNat).aNN=(gd w.ac f.toNat).aq
 else bif Q ((gd w.ac e.toNat).kind=21) then Q<|(gd w.ac e.toNat).bF=(gd w.ac f.toNat).aq
 else I
structure kB(w:am):Prop where
 ev:L w.ac<=16
 co:L w.aQ.bC<=2
 cc:∀c∈w.aQ.bC,aF (L w.aQ.ak) c.eg
 st:∀k:Nat,k<L w.ac->GV (cY w k)/\fN w.aQ (cY w k)=U
 en:∀k:Nat,k<L w.ac->vo (gd w.ac k)/\bhO w.aQ (cY w k) (gd w.ac k)=U
theorem kB.named{w}(h:kB w){k:Nat}(a:k<L w.ac):named w.aQ (gd w.ac k).kind (gd w.ac k).bF=U/\aF (L w.aQ.ay) (gd w.ac k).aq:=by have:=(h.en k a).2;grind [bhO,eH,cP,aOL,fK,jm,dX]
def Ph(w)(f e:Int)(hp:kB w/\aF (L w.ac) f/\aF (L w.ac) e):Ct 65 [.a w.c,iv f,iv e] (·=bv (aOj w f e)):=by refine aLN rfl λs2 u M h0=>?_;obtain⟨H,E,D⟩:=hp;simp+contextual only[eT,M,ix];refine⟨D,E,?_⟩;refine mo u λs3 m b3=>?_;simp only[qz 4];refine mo (m.1.trans u) λs4 n b4=>?_;simp only[qz 6];refine gN (n.bt b3) (by rw[n.1,m.1,u];decide) rfl rfl λs5 v b5=>?_;simp only[qz 8];refine gN (v.bt b4) (by rw[v.1,n.1,m.1,u];decide) rfl rfl λs6 B N=>?_;simp only[qz 10,qy 12];refine dT (by rfl) ?_;have l6:L s6=4096:=(by rw[B.1,v.1,n.1,m.1,u]);have O:=B.bt<|v.bt<|n.bt<|m.bt M;have P:=B.bt b5;simp+contextual only[↓iS,eT,O,P,N];refine⟨λh=>by simp only[aOj,h,a7c],λh=>?_⟩;have ay:=E.1;have X:=E.2;have av:=D.1;have aw:=D.2;have az:f.toNat<L w.ac:=(by omega);have W:e.toNat<L w.ac:=(by omega);have ax:=H.ev;have aq:=H.co;simp only[jM,kU,jt,sH,tW,rT];refine⟨⟨by omega,by omega,λk _ F=>(H.st k<|by omega).1,λx hx=>by obtain⟨k,F,rfl⟩:=ou hx;rw[<-bT F];exact(H.en k F).1⟩,?_⟩;rintro r ⟨ds,rfl,S⟩;rw[sz X] at S;refine⟨.inl rfl,?_⟩;obtain⟨g,f4,o4,f5,o5,f6,o6,rfl⟩:=Qj S;simp only[KZ,aY];refine eF (z:=4) (d:=9) (cs:=eD (cY w f.toNat).bW g) rfl rfl (by decide) (by rw[l6];decide) λs7 C b7=>?_;have d1:=C.bt O;have R:=C.bt P;have d6:=C.bt N;obtain⟨Z,ht⟩:=H.named W;obtain⟨aa,A⟩:=H.st f.toNat (by omega);have y:L (cY w f.toNat).bW.ak=L w.aQ.ak:=(by simp only[fN,bN] at A;exact(iY A.1).2.1);simp only[qz 14,eT,R];simp only[qz 53,iM,aY,sw];simp only[qz 51,aI,au];simp+contextual only[↓iS,eT,d1,R,d6,b7,ry0,ix,aCj,ar,rT];have lk:6<=(gd w.ac e.toNat).kind->(gd w.ac e.toNat).kind<=11->aF (L (cY w f.toNat).bW.ak) (gd w.ac e.toNat).bF:=λa b=>(by rw[y];exact mJ Z a b);refine⟨λq=>?_,λq=>⟨λj=>?_,λj=>⟨λl=>?_,λl=>⟨λG=>?_,λG=>?_⟩⟩⟩⟩;have p:=lk (by simp at q;omega) (by simp at q;omega);have:=aa.1 _<|ii p;exact⟨p,λ_=>p,λ_=>by omega,by simp only[aOj,h,q,a7c,a5C]⟩;have p:=lk (by simp at j;omega) (by simp at j;omega);exact⟨p,by simp only[aOj,h,q,j,a7c,a5C]⟩;have T:=oT Z (by simp at l;omega) (by simp at l;omega);exact⟨T,by rw[y];exact H.cc _<|ii T,by simp only[aOj,h,q,j,l,a7c,a5C]⟩;simp only[aOj,h,q,j,l,G,a7c,a5C];simp only[aOj,h,q,j,l,G,a5C]
def FN:FT:=qe Ph
def ay6:=sT FN Ph
abbrev jn(w:am)(g:cJ):aP:=gd w.ac g.ea.toNat
abbrev mB(w:am)(g:cJ):aP:=gd w.ac g.eb.toNat
abbrev rP(w:am)(g:cJ):aP:=gd w.ac g.ec.toNat
abbrev xI(w:am)(g:cJ):aP:=gd w.ac g.ed.toNat
def Ek(w:am)(g:cJ):Bool:=Q (g.ea<g.eb)&&(Q (g.ec=0)&&(Q (g.ed=0)&&(Q ((L g.cW:Int)=0)&&(Q ((jn w g).aq≠(mB w g).aq)&&(nh (jn w g) (mB w g)&&!(gd w.aQ.cells (jn w g).bF.toNat).vol)))))
def Pq(w)(g)(D:kB w/\aF (L w.ac) g.ea/\aF (L w.ac) g.eb):Ct 127 [.a w.c, .a g.c] (·=bv (Ek w g)):=by refine aLU rfl rfl λN h m n F=>?_;obtain⟨H,l,B⟩:=D;simp+contextual only[eT,m,n,ix];refine⟨l,B,?_⟩;refine mo h λO b r=>?_;simp only[qz 6];refine mo (b.1.trans h) λP d u=>?_;simp only[qz 8];refine gN (d.bt r) (by rw[d.1,b.1,h];decide) rfl rfl λR e v=>?_;simp only[qz 10];refine gN (e.bt u) (by rw[e.1,d.1,b.1,h];decide) rfl rfl λE j x=>?_;simp only[qz 12];refine dT (by rfl) ?_;have M:L E=4096:=(by rw[j.1,e.1,d.1,b.1,h]);have y:=j.bt<|e.bt<|d.bt<|b.bt m;have z:=j.bt<|e.bt<|d.bt<|b.bt n;have A:=j.bt v;simp+contextual only[eT,y,z,A,x,ix,ar,rT];refine⟨λq=>?_,?_⟩;have p:g.ea.toNat<L w.ac:=(by have:=l.1;have:=l.2;omega);have C:=(H.named p).1;simp only[bN] at q;have k:nh (jn w g) (mB w g)=U:=q.2.2.2.2.2;simp only[nh,tT,bN,fH,aBY] at k;have G:(gd w.ac g.ea.toNat).kind=3\/(gd w.ac g.ea.toNat).kind=4:=k.1.1.1;exact qP C (by omega) (by omega);simp only[Ek]
def FU:FT:=aIc Pq
def azd:=gX FU Pq
def tm(w:am)(g:cJ):Bool:=Q (g.ec≠0)||Q (g.ed≠0)||Q ((0:Int)<L g.cW)||(Q ((jn w g).kind≠18)&&Q ((jn w g).kind≠19))||Q ((mB w g).kind≠16)||Q ((jn w g).bF≠(mB w g).bF)||Q ((jn w g).aq=(mB w g).aq)||Q (g.ea<=g.eb)
def wz(w:am)(g:cJ):Bool:=!tm w g&&(Q (∀j,j<g.ea.toNat->g.eb.toNat<j->(gd w.ac j).aq≠(mB w g).aq)&&(Q ((gd (cY w g.ea.toNat).bW.ay (mB w g).aq.toNat).cQ=3)&&(Q ((jn w g).kind=19)||Q ((jn w g).value=(mB w g).aq))))
def Pp(w)(g)(hp:kB w/\aF (L w.ac) g.ea/\aF (L w.ac) g.eb):Ct 128 [.a w.c, .a g.c] (·=bv (wz w g)):=by refine aLT rfl rfl λs2 n E F h0=>?_;obtain⟨H,B,C⟩:=hp;have ae:=B.1;have O:=B.2;have ag:=C.1;have ah:=C.2;have al:=H.ev;have ak:=H.co;simp+contextual only[eT,E,F,ix];refine⟨B,C,?_⟩;refine mo n λs3 e W=>?_;simp only[qz 6];refine mo (e.1.trans n) λs4 l X=>?_;simp only[qz 8];refine gN (l.bt W) (by rw[l.1,e.1,n];decide) rfl rfl λs5 m Z=>?_;simp only[qz 10];refine gN (m.bt X) (by rw[m.1,l.1,e.1,n];decide) rfl rfl λs6 u y=>?_;simp only[qz 12];refine dT (by rfl) ?_;have l6:L s6=4096:=(by rw[u.1,m.1,l.1,e.1,n]);have c1:=u.bt<|m.bt<|l.bt<|e.bt E;have G:=u.bt<|m.bt<|l.bt<|e.bt F;have z:=u.bt Z;simp+contextual only[↓iS,eT,G,z,y];refine⟨λq=>?_,λq=>?_⟩;have:tm w g=U:=(by simpa only[tm,yZ] using q);simp only[wz,this,fh,kM];have A:tm w g=I:=(by simpa only[tm,yZ] using q);rw[eM (by omega)<|by omega];refine⟨λvs=>∃k:Nat,vs=[iv k]/\g.eb.toNat<k/\k<=g.ea.toNat+1/\∀j:Nat,g.eb.toNat<j->j<k->(gd w.ac j).aq≠(mB w g).aq,cM 1000,⟨g.eb.toNat+1,by congr 2;omega,by omega,by simp only[tm,cP,aNK] at A;omega,λj a b=>by omega⟩,?_⟩;rintro vs ⟨k,rfl,S,am,R⟩;simp+contextual only[qz 43,↓iS,eT,c1,G,z,y,ix,bh];have an:g.eb.toNat<g.ea.toNat:=(by simp only[tm,cP,aNK] at A;omega);refine⟨λh=>?_,λh=>?_⟩;simp only[aBY] at h;refine⟨⟨by omega,by omega⟩,λp=>?_,λp=>?_⟩;have:¬∀j,j<g.ea.toNat->g.eb.toNat<j->(gd w.ac j).aq≠(mB w g).aq:=λd=>d k (by omega) S (by simpa using p);simp only[wz,bnk this,kM,qc];rw[fX<|by omega];refine⟨⟨k+1,rfl,by omega,by omega,λj a b=>?_⟩,by simp only[cM,bh];omega⟩;rcases jj j k with M|M;exact R j a M;obtain rfl:j=k:=(by omega);simpa using p;simp only[aNK] at h;have d:∀j,j<g.ea.toNat->g.eb.toNat<j->(gd w.ac j).aq≠(mB w g).aq:=λj a b=>R j b (by omega);have af:g.ea.toNat<L w.ac:=(by omega);have P:g.eb.toNat<L w.ac:=(by omega);simp only[jM,kU,jt,sH,tW,rT];refine⟨⟨by omega,by omega,λk _ D=>(H.st k<|by omega).1,λx p=>by obtain⟨k,D,rfl⟩:=ou p;rw[<-bT D];exact(H.en k D).1⟩,?_⟩;rintro r ⟨ds,rfl,N⟩;rw[sz O] at N;refine⟨.inl rfl,?_⟩;obtain⟨f,f4,o4,f5,o5,f6,o6,rfl⟩:=Qj N;obtain⟨ao,v⟩:=H.st g.ea.toNat (by omega);have T:L (cY w g.ea.toNat).bW.ay=L w.aQ.ay:=(by simp only[fN,bN] at v;exact(iY v.1).2.2.2);simp+contextual only[KZ,amb,eQ,am1,rk,z,y];refine⟨by rw[T];exact(H.named P).2,?_⟩;simp only[wz,A,kN,iw,bqH d]
def FR:FT:=aIc Pp
def azc:=gX FR Pp
def bpK(g:cJ):Bool:=Q ((0:Int)<L g.cW)||Q (g.eb<=g.ea)||Q (g.ed<g.ec)
def vQ(w:am)(g:cJ):Bool:=Q ((jn w g).aq≠(mB w g).aq)||Q ((rP w g).aq≠(xI w g).aq)||Q ((jn w g).aq=(rP w g).aq)||!nh (jn w g) (rP w g)||!nh (xI w g) (mB w g)
def tZ(w:am)(g:cJ):Bool:=!bpK g&&(!vQ w g&&(Q (∀j,j<g.eb.toNat->g.ea.toNat<=j->((gd w.ac j).aq≠(jn w g).aq\/(gd w.ac j).kind≠15))&&(gd (cY w g.ea.toNat).bW.ay (jn w g).aq.toNat).atomic))
def Pk(w)(g)(hp:kB w/\aF (L w.ac) g.ea/\aF (L w.ac) g.eb/\aF (L w.ac) g.ec/\aF (L w.ac) g.ed):Ct 129 [.a w.c, .a g.c] (·=bv (tZ w g)):=by refine aLQ rfl rfl λs2 n N P h0=>?_;obtain⟨H,F,G,ae,hd⟩:=hp;have Z:=F.1;have aa:=F.2;have aD:=G.1;have aE:=G.2;have aI:=H.ev;have aG:=H.co;simp+contextual only[eT,N,P,ix];refine⟨λq=>?_,λq1=>?_⟩;have:bpK g=U:=q;simp only[tZ,this,fh,kM];have C:bpK g=I:=q1;refine⟨F,G,ae,hd,?_⟩;refine mo n λs3 d b3=>?_;simp only[qz 6];refine mo (d.1.trans n) λs4 e b4=>?_;simp only[qz 8];refine pv rfl (by decide) (by rw[e.1,d.1,n];decide) λs5 l b5=>?_;simp only[qz 10];refine pv rfl (by decide) (by rw[l.1,e.1,d.1,n];decide) λs6 m b6=>?_;simp only[qz 12];refine gN (m.bt<|l.bt<|e.bt b3) (by rw[m.1,l.1,e.1,d.1,n];decide) rfl rfl λs7 u b7=>?_;simp only[qz 14];refine gN (u.bt<|m.bt<|l.bt b4) (by rw[u.1,m.1,l.1,e.1,d.1,n];decide) rfl rfl λs8 z b8=>?_;simp only[qz 16];refine gN (z.bt<|u.bt<|m.bt b5) (by rw[z.1,u.1,m.1,l.1,e.1,d.1,n];decide) rfl rfl λs9 B b9=>?_;simp only[qz 18];refine gN (B.bt<|z.bt<|u.bt b6) (by rw[B.1,z.1,u.1,m.1,l.1,e.1,d.1,n];decide) rfl rfl λah y O=>?_;simp only[qz 20];refine dT (by rfl) ?_;have W:Fr s2 ah [5,6,7,8]:=(d.mono<|by decide).trans ((e.mono<|by decide).trans<|(l.mono<|by decide).trans<|(m.mono<|by decide).trans<|(u.mono<|by decide).trans<|(z.mono<|by decide).trans<|(B.mono<|by decide).trans<|y.mono<|by decide);have c1:=W.bt N;have R:=W.bt P;have S:=y.bt<|B.bt<|z.bt b7;have c8:=y.bt<|B.bt b8;have c9:=y.bt b9;simp+contextual only[↓iS,eT,R,S,c8,c9,O,ar,rT];refine⟨λq=>?_,λq=>?_⟩;have:vQ w g=U:=(by simpa only[vQ,yZ] using q);simp only[tZ,this,fh,kM,qc];have T:vQ w g=I:=(by simpa only[vQ,yZ] using q);have aK:g.ea.toNat<g.eb.toNat:=(by simp only[bpK,cP,aNK] at C;omega);refine⟨λvs=>∃k:Nat,vs=[iv k]/\g.ea.toNat<=k/\k<=g.eb.toNat/\∀j:Nat,g.ea.toNat<=j->j<k->((gd w.ac j).aq≠(jn w g).aq\/(gd w.ac j).kind≠15),cM 1000,⟨g.ea.toNat,by rw[kA Z],by omega,by omega,λj a b=>by omega⟩,?_⟩;rintro vs ⟨k,rfl,af,aJ,hc⟩;simp+contextual only[qz 61,↓iS,eT,c1,R,S,ix,bh];refine⟨λh=>?_,λh=>?_⟩;simp only[aBY] at h;have D:aF (L w.ac) (k:Int):=⟨by omega,by omega⟩;refine⟨D,λ_=>D,λp=>?_,λp=>?_⟩;simp only[bN,aBY] at p;have:¬∀j,j<g.eb.toNat->g.ea.toNat<=j->((gd w.ac j).aq≠(jn w g).aq\/(gd w.ac j).kind≠15):=λv=>(by rcases v k (by omega) af with A|A;exact A p.1;exact A p.2);simp only[tZ,bnk this,kM,qc];simp only[bik,aNK] at p;rw[fX<|by omega];refine⟨⟨k+1,rfl,by omega,by omega,λj a b=>?_⟩,by simp only[cM,bh];omega⟩;rcases jj j k with A|A;exact hc j a A;obtain rfl:j=k:=(by omega);exact p;simp only[aNK] at h;have v:∀j,j<g.eb.toNat->g.ea.toNat<=j->((gd w.ac j).aq≠(jn w g).aq\/(gd w.ac j).kind≠15):=λj a b=>hc j b (by omega);have ab:g.ea.toNat<L w.ac:=(by omega);simp only[jM,kU,jt,sH,tW,rT];refine⟨⟨by omega,by omega,λk _ M=>(H.st k<|by omega).1,λx p=>by obtain⟨k,M,rfl⟩:=ou p;rw[<-bT M];exact(H.en k M).1⟩,?_⟩;rintro r ⟨ds,rfl,X⟩;rw[sz aa] at X;refine⟨.inl rfl,?_⟩;obtain⟨f,f4,o4,f5,o5,f6,o6,rfl⟩:=Qj X;obtain⟨aL,E⟩:=H.st g.ea.toNat (by omega);have ag:L (cY w g.ea.toNat).bW.ay=L w.aQ.ay:=(by simp only[fN,bN] at E;exact(iY E.1).2.2.2);simp+contextual only[KZ,amb,eQ,am1,rk];refine⟨by rw[ag];exact(H.named ab).2,?_⟩;simp only[tZ,C,T,kN,iw,bqH v]
def FP:FT:=aIc Pk
def ay9:=gX FP Pk
def ao1:dO:=(66,FC)::(65,FN)::(127,FU)::(128,FR)::(129,FP)::ao0
def Ex:eJ ao1:=vl (nH OI)<|vl (tE Ph)<|vl (aCb Pq)<|vl (aCb Pp)<|vl (aCb Pk)<|yP
def sX:=ai @ayF<|ai @ay6<|ai @azd<|ai @azc<|ai @ay9<|@rT
def auc:=kW 25 [(6,([3],[1])),(15,([5],[1,4]))]
def aLF{c0}:=y1 43 15 1 Ex func28 auc c0 [.a c0]
def auo:=kW 30 [(7,([6],[2,3,5])),(15,([7],[2,3,5])),(23,([8],[2,3,5,7]))]
def aLR{c0 b}:=y2 43 15 2 49 6 3 Ex func125 auo c0 b [.a c0, .a b]
def auK:=kW 60 [(4,([3,19],[1,18])),(10,([3,25],[1,4,18,19,24])),(13,([3],[1,4,18,19,24,25])),(18,([3,42],[1,41])),(25,([3,54],[1,52,53])),(28,([3],[1,52,53,54])),(33,([3,70],[1,69])),(39,([3,77],[1,9,69,70,75,76])),(46,([3,92],[1,90,91])),(49,([3],[1,90,91,92])),(54,([3,107],[1,12,90,91,92,105,106]))]
def aMd{c0}:=y1 43 15 1 Ex func18 auK c0 [.a c0]
structure jX(n:Nat)(s:aW):Prop where
 lo:L s.ak<=4
 dn:L s.done<=2
 th:L s.ay<=4
 rd:∀l∈s.ak,L l.bk<=4+n
theorem jX.mono{n m s}(h:jX n s)(b:n<=m):jX m s:=⟨h.lo,h.dn,h.th,λl a=>by have:=h.rd l a;omega⟩
theorem jX.ni{n s}(h:jX n s)(i)(t):jX n (ni s i t):=⟨h.lo,h.dn,by simp[Ab.ni];exact h.th,h.rd⟩
theorem jX.lk{n:Nat}{s}(h:jX n s)(i:Int):L (cH s i).bk<=4+n:=by unfold cH gd;rw[eI];cases a:s.ak[i.toNat]? with|none=>exact mh _|some x=>exact h.rd x (by grind)
theorem jX.J9{n:Nat}{s}(h:jX n s)(i:Int)(l)(b:L l.bk<=4+n):jX n (J9 s i l):=by refine⟨by simp[Ab.J9];exact h.lo,h.dn,h.th,λx a=>?_⟩;simp only[Ab.J9] at a;rcases CC a with a|rfl;exact h.rd x a;exact b
theorem jX.marks{n}:∀{l:d0} {s},jX n s->jX n (l.foldl (λs u=>Ab.ni s u {fA s u with cQ:=4}) s)|[],_,h=>h|u::l,s,h=>jX.marks (l:=l)<|h.ni u _
theorem aIP{a}{t:Int}:L (mP a [t])<=L a+1:=by have b:=Bh (l:=[]) (a:=a) (k:=L a)<|dA _;have c:=Bh (l:=jh [] a<|L a) (a:=[t]) (k:=1) (by simp);simp only[aO6] at b;show L (jh (jh [] a<|L a) [t] 1)<=_;omega
theorem jX.apply{n s}(h:jX n s)(w)(t a bF arm):jX (n+1) (cU w s t a bF arm).1:=by have b:jX (n+1) s:=h.mono (by omega);have z:=λi=>h.lk i;have y:∀i,L (cH s i).bk<=4+(n+1):=(by grind);unfold cU;by_cases q:a=1;grind [jX.ni];rw[r9 q];by_cases r:a=2;grind [jX.ni];rw[r9 r];by_cases u:a=6\/a=10;grind [jX.J9];rw[r9 u];by_cases v:a=7\/a=11;grind [jX.J9];rw[r9 v];by_cases x:a=8;grind [jX.J9,aIP];rw[r9 x];by_cases p:a=9;rw[sz p];refine b.J9 _ _ ?_;grind [fZ,decide,cH,fJ];rw[r9 p];by_cases c:a=12;rw[sz c];exact⟨b.lo,b.dn,b.th,b.rd⟩;rw[r9 c];by_cases d:a=13;rw[sz d];exact⟨b.lo,b.dn,b.th,b.rd⟩;rw[r9 d];by_cases e:a=14;grind [jX.ni];rw[r9 e];by_cases f:a=15;grind [jX.ni];rw[r9 f];by_cases g:a=16;grind [jX.ni,jX.J9];rw[r9 g];by_cases j:a=17;grind [jX.ni,jX.J9];rw[r9 j];by_cases k:a=18;grind [jX.ni];rw[r9 k];by_cases l:a=19;grind [jX.marks];rw[r9 l];by_cases m:a=20;grind [jX.ni];rw[r9 m];by_cases o:a=22;rw[sz o];exact⟨b.lo,by simp;exact b.dn,b.th,b.rd⟩;simp_all
structure vH(n:Nat)(s:I5):Prop where
 sy:jX n s.bW
 ce:L s.cells<=12
 fu:L s.bU<=2
 co:L s.count<=4
 cn:∀c∈s.count,0<=c/\c<=400+n
theorem vH.snB{n s}(h:vH n s)(b:n<90000):GV s:=⟨λl a=>by have:=h.sy.rd l a;omega,by have:=h.sy.lo;omega,by have:=h.sy.dn;omega,by have:=h.sy.th;omega,by have:=h.ce;omega,by have:=h.fu;omega,by have:=h.co;omega⟩
theorem vH.step{n w s e}(h:vH n s)(d:n<90000):vH (n+1) (nD w s e):=by unfold nD;(cases bhO w s e);exact⟨⟨by simp[tw,wM],by simp[tw,wM],by simp[tw,wM],by simp[tw,wM]⟩,by simp[tw],by simp[tw],by simp[tw],by simp[tw]⟩;refine⟨h.sy.apply _ _ _ _ _,?_,?_,?_,?_⟩;have:=h.ce;grind [oc];have:=h.fu;grind [oc];have:=h.co;grind [oc,List.length_set];intro c a;simp only[a7c,oc] at a;rcases CC a with a|rfl;have:=h.cn c a;omega;have b:0<=gd s.count e.aq.toNat/\gd s.count e.aq.toNat<=400+n:=(by unfold gd;rw[eI];cases f:s.count[e.aq.toNat]? with|none=>simp;omega|some x=>exact h.cn x<|by grind);grind [eM]
def yq{l}{n:Int}(h:lZ l n):∀j,j<L l->(j:Int)+1<=gd l j
 |0,a=>by have:=(h 0 a).1;omega
 |j+1,a=>by
  have b:=yq h j (by omega)
  have c:=(h (j+1) a).2.2 (by omega)
  grind
def aEw{l}{n:Int}(h:lZ l n)(d:0<=n):(L l:Int)<=n:=by rcases oD (L l) with a|a;omega;have b:=yq h (L l-1) (by omega);have c:=(h (L l-1)<|by omega).2.1;omega
def Ae(w:am)(j:Nat):Bool:=!gd w.init.bW.done j&&Q (gd w.init.bU j≠0)
def oh(w:am):Bool:=!mQ w.aQ||!fN w.aQ w.init||Q ((16:Int)<L w.ac)||!rM w||!uZ w||!ny w
def xH(w:am)(k:Nat):Bool:=!bhO w.aQ (cY w k) (gd w.ac k)||!Q (∀n∈(gd w.ac k).dI,qU w (gd w.ac k).aq n=U)||!Q (∀n∈(gd w.ac k).ep,qU w (gd w.ac k).aq n=U)
def bdZ(w:am):Bool:=!oh w&&(Q (∀j,j<L w.init.bU->Ae w j=I)&&Q (∀k,k<L w.ac->xH w k=I))
def hU(w:am):Prop:=L w.aQ.bC<4611686018427387904/\(∀l∈w.init.bW.ak,L l.bk<4611686018427387904)/\(∀e∈w.ac,vo e)/\L w.init.bU<4611686018427387904
def tC{w}(h:oh w=I):vH 0 w.init/\L w.ac<=16/\(∀c∈w.aQ.bC,aF (L w.aQ.ak) c.eg)/\L w.aQ.bC<=2/\fN w.aQ w.init=U:=by simp only[oh,cP,fK,aNK] at h;obtain⟨⟨⟨⟨⟨d,a⟩,y⟩,z⟩,A⟩,f⟩:=h;have n:=d;simp only[mQ,bN,eH] at n;obtain⟨hs,B⟩:=n;simp only[wJ,cP,aNK] at hs;have k:=a;simp only[fN,bN,aBY] at k;obtain⟨o,u,v,x⟩:=iY k.1;have s:∀c∈w.init.count,0<=c/\c<=400:=(by grind [rM]);have g:∀c∈w.aQ.bC,aF (L w.aQ.ak) c.eg:=o;have t:∀l∈w.init.bW.ak,L l.bk<=4:=(by intro l q;obtain⟨j,m,rfl⟩:=ou q;simp only[ny,bN,aBY] at f;have b:=(f.1 j m).2;rw[bT m] at b;have key:∀i,i<L (w.init.bW.ak[j]).bk->(i:Int)<=gd (w.init.bW.ak[j]).bk i:=(by intro i;induction i with|zero=>intro e;have:=(b 0 e).1;simp only[nO,bN] at this;have:=(dX.1 this.1).1;omega|succ i r=>intro e;have d:=r (by omega);have a:=(b (i+1) e).2 (by omega);grind);rcases oD (L (w.init.bW.ak[j]).bk) with p|p;omega;have d:=key (L (w.init.bW.ak[j]).bk-1) (by omega);have a:=(b (L (w.init.bW.ak[j]).bk-1)<|by omega).1;simp only[nO,bN] at a;have:=(dX.1 a.1).2;omega);refine⟨⟨⟨by omega,by omega,by omega,by omega⟩,by omega,by omega,by omega,by simp_all⟩,by omega,g,by omega,a⟩
theorem wK{w}(h:oh w=I):∀k,k<90000->vH k (cY w k)|0,_=>(tC h).1|k+1,a=>(wK h k<|by omega).step (by omega)
def aIw{w s e}(h:bhO w s e=U):lZ e.dI (gd s.count e.aq.toNat)/\lZ e.ep (gd s.count e.aq.toNat)/\aF (L s.count) e.aq/\L s.count=L w.ay:=by simp only[bhO,eH,cP] at h;grind [bip,cP,fK,aOL,fN,dX]
theorem anH{l}{n:Int}(h:lZ l n)(b:0<=n)(d:n<=500):L l<1000000/\∀x∈l,-1000<=x/\x<9223372036854775808:=by refine⟨by have:=aEw h b;omega,λx c=>?_⟩;obtain⟨j,a,rfl⟩:=ou c;have e:=(h j a).1;have f:=(h j a).2.1;grind [bT]
def O8(w)(hp:hU w):Ct 28 [.a w.c] (·=bv (bdZ w)):=by refine aLF rfl λs2 hl s h0=>?_;obtain⟨p1,p2,p3,p4⟩:=hp;simp+contextual only[eT,s,ar,sX];have A:∀{a b:Bool},(!(a||b))=U->a=I/\b=I:=(by simp);have B:∀{a:Bool},(!a)=I->a=U:=(by simp);have ax:fN w.aQ w.init=U->L w.init.count=L w.aQ.ay/\L w.init.bW.ay=L w.aQ.ay/\L w.init.bW.ak=L w.aQ.ak/\(∀c∈w.aQ.bC,aF (L w.aQ.ak) c.eg):=(by intro h;simp only[fN,bN,aBY] at h;obtain⟨f1,f2,f3,f4⟩:=iY h.1;exact⟨h.2.2.2,f4,f2,f1⟩);have aJ:mQ w.aQ=U->L w.aQ.ay<=4/\L w.aQ.ak<=4:=(by grind [mQ,eH,wJ,cP,decide_eq_false_iff_not]);refine⟨λ_=>p1,λh=>?_,λh=>?_,λh=>?_,λh=>?_,λh=>?_⟩;grind;grind;grind;grind [oh,bdZ,fh];have O:oh w=I:=h;obtain⟨X,aE,aB,aC,aG⟩:=tC O;have hI:=wK O;have P:bdZ w=(Q (∀j,j<L w.init.bU->Ae w j=I)&&Q (∀k,k<L w.ac->xH w k=I)):=(by grind [bdZ,kN]);have aD:L w.init.bW.done=L w.init.bU:=(by grind [fN,iY]);refine bc4 (L w.init.bU) (λk=>∀j,j<k->Ae w j=I) (by simp) λk hk y=>?_;simp+contextual only[qz 37,qy 4,qy 6,eT,s,ix,dc,bh];refine⟨λm=>⟨by grind [dJ,aL],λ_=>vp m,λi=>?_,λi=>gS (aL m) p4<|aRN y i⟩,λm=>?_⟩;rw[P,zM (aL m) i,kM];have az:∀j,j<L w.init.bU->Ae w j=I:=(by grind);refine eF rfl rfl (by decide) (by omega) λs3 E H=>?_;have c1:=E.bt s;have v4:(aZ s2 4).I6=0:=(by simp_all);rw[v4] at H⊢;refine⟨λvs Y=>∃(k:Nat) (ds:dM),vs=[iv k]/\k<=L w.ac/\(∀j,j<k->xH w j=I)/\Lk ds (cY w k).c/\box Y (4,1)=V ⟨40,7,U,U,[ds]⟩/\Fr s3 Y [4,6,7],fM<|L w.ac,⟨0,w.init.c,rfl,mh _,by simp,⟨rfl,rfl⟩,H,Fr.refl _ _⟩,?_⟩;rintro vs Y ⟨k,ds,rfl,hk,S,v,i,u⟩;have M:=u.bt c1;have q:L Y=4096:=(by rw[u.1,E.1,hl]);have p:=oC v;have T:=Bi p;simp only[qz 91,qy 8,eT,M,ix,bh];refine⟨λt=>⟨vp t,?_⟩,λt=>?_⟩;refine eF rfl rfl (by decide) (by omega) λY2 f F=>?_;have l:=aL t;have N:=f.bt M;have o:=f.bt i;simp only[qz 10,qy 12,eT,N,o,F,T];simp only[jM,kU,jt,zN,CU,v.arg,sX];obtain⟨q1,q2,q3,q4,q5,q6,q7⟩:=(hI k<|by omega).snB (by omega);obtain⟨r1,r2⟩:=p3 _<|dB l;refine⟨(by grind),?_⟩;rintro r ⟨n,rfl,e⟩;refine⟨.inl ?_,?_⟩;simp only[nA,Cu,Cv,x9 v];rfl;simp only[oJ,pG,aY];refine eF rfl (oC e) (by decide) (by rw[f.1,q];decide) λY3 d K=>?_;have e3:=d.bt N;have R:=d.bt o;have G:=d.bt F;have z:=Bi<|oC e;simp+contextual only[qz 14,eT,e3,G,K,z,ar,sX];have C:bhO w.aQ (cY w k) (gd w.ac k)=U->(L (gd w.ac k).dI<1000000/\∀x∈(gd w.ac k).dI,-1000<=x/\x<9223372036854775808)/\(L (gd w.ac k).ep<1000000/\∀x∈(gd w.ac k).ep,-1000<=x/\x<9223372036854775808)/\aF (L w.init.count) (gd w.ac k).aq:=(by intro hs;obtain⟨n1,n2,n3,n4⟩:=aIw hs;have aA:=(hI k<|by omega).cn _<|ii n3;grind [anH]);have D:∀c∈w.init.count,0<=c/\c<=400:=λc y=>(by have:=X.cn c y;omega);refine⟨λg=>?_,λg=>?_,λg=>?_,λg=>?_⟩;grind;grind;rw[P,zM l g,qc];refine gN (cs:=n) R (by rw[d.1,f.1,q];decide) p (oC e) λY4 W Z=>?_;simp only[qz 16,au,cS,aY];rw[fX<|by omega];refine⟨⟨k+1,n,rfl,l,aRN S g,e,Z,u.trans<|(f.mono<|by decide).trans<|(d.mono<|by decide).trans<|W.mono<|by decide⟩,?_⟩;grind [fM,cM,bh];grind
def Cg:FT:=mT O8
def ayY:=oK Cg O8
def aQA{w}(h:bdZ w=U):oh w=I/\∀k,k<L w.ac->bhO w.aQ (cY w k) (gd w.ac k)=U:=by grind [bdZ,eH,xH,cP,fK]
def Rr{w}(f:hU w)(h:bdZ w=U):kB w:=by obtain⟨e,hs⟩:=aQA h;obtain⟨i,d,b,c,g⟩:=tC e;refine⟨d,c,b,λk a=>⟨(by grind [vH.snB,wK]),?_⟩,λk a=>⟨f.2.2.1 _<|dB a,hs k a⟩⟩;grind [bhO,eH,cP,aOL,fK]
def rO(g:cJ):Bool:=Q (g.ea≠0)||Q (g.eb≠0)||Q (g.ec≠0)||Q (g.ed≠0)||Q ((L g.cW:Int)<2)||Q (4<(L g.cW:Int))
def alP(g:cJ)(i:Nat):Int:=gd g.cW<|(i+1)%L g.cW
def rN(w:am)(g:cJ)(i:Nat):Bool:=Q (gd g.cW i<gd g.cW 0)||!aOj w (alP g i) (gd g.cW i)
def sP(w:am)(g:cJ)(i k:Nat):Bool:=Q<|(gd w.ac (gd g.cW i).toNat).aq=(gd w.ac (gd g.cW k).toNat).aq
def qx(w:am)(g:cJ):Bool:=!rO g&&(Q (∀j,j<L g.cW->dh (gd g.cW j) (L w.ac)=U)&&Q (∀i,i<L g.cW->rN w g i=I/\∀k,k<i->sP w g i k=I))
def aod{a b:Nat}(c:0<b):aTH .rem 0 [] (iv a) (iv b)=V (iv ((a%b:Nat):Int)):=by show Sb AV.s (if dq=dq/\(b:Int)≠0 then V (.int .i64<|Int.tmod a b) else J)=_;grind
def Pm(w)(g)(G:kB w/\L g.cW<4611686018427387904):Ct 125 [.a w.c, .a g.c] (·=bv (qx w g)):=by refine aLR rfl rfl λS P x r O=>?_;obtain⟨H,K⟩:=G;have M:=H.ev;simp+contextual only[eT,r];refine⟨λq=>?_,λq=>?_⟩;have:rO g=U:=(by simpa only[rO,yZ] using q);simp only[qx,this,fh,kM];have D:rO g=I:=(by simpa only[rO,yZ] using q);have N:2<=L g.cW/\L g.cW<=4:=(by simp only[rO,cP,aNK] at D;omega);have t:qx w g=(Q (∀j,j<L g.cW->dh (gd g.cW j) (L w.ac)=U)&&Q (∀i,i<L g.cW->rN w g i=I/\∀k,k<i->sP w g i k=I)):=(by simp only[qx,D,kN,iw]);refine bc4 (L g.cW) (λk=>∀j,j<k->dh (gd g.cW j) (L w.ac)=U) (by simp) λk F n=>?_;simp+contextual only[qz 43,eT,x,r,ix,ar,sX,bh];refine⟨λh=>⟨vp h,λd=>?_,λd=>gS (aL h) (by omega)<|a6p n<|by simpa using d⟩,λh=>?_⟩;have:¬∀j,j<L g.cW->dh (gd g.cW j) (L w.ac)=U:=λb=>(by rw[b k<|aL h] at d;cases d);rw[t,bnk this,kM];have f:=λj o=>dX.1<|n j<|biN o<|bw h;have z:=λj o=>n j<|biN o<|bw h;refine bc4 (L g.cW) (λk=>∀i,i<k->rN w g i=I/\∀m,m<i->sP w g i m=I) (by simp) λk F n=>?_;have A:aTH .rem 0 [] (iv<|dq.wrap<|(k:Int)+1) (iv<|L g.cW)=V (iv (((k+1)%L g.cW:Nat):Int)):=(by rw[fX<|by omega];exact aod<|by omega);have p:(k+1)%L g.cW<L g.cW:=Nat.mod_lt _ (by omega);simp+contextual only[qz 91,eT,x,r,ix,ar,sX,bh,Gx,A];refine⟨λe=>⟨vp e,⟨by omega,by omega⟩,λ_=>dJ p,λ_=>vp e,λ_=>⟨H,f _ p,f k<|aL e⟩,λd=>?_,λd=>?_⟩,λe=>?_⟩;have s:rN w g k=U:=d;have:¬∀i,i<L g.cW->rN w g i=I/\∀k,k<i->sP w g i k=I:=λb=>(by rw[(b k<|aL e).1] at s;cases s);rw[t,bnk this,qc];have s:rN w g k=I:=d;refine bc4 k (λm=>∀j,j<m->sP w g k j=I) (by simp) λm R u=>?_;simp+contextual only[qz 139,eT,x,r,ix,bh];have l:=aL e;refine⟨λy=>?_,λy=>?_⟩;have v:=aL y;refine⟨dJ l,f k l,dJ (by omega),f m (by omega),λB=>?_,λB=>gS v (by omega)<|aRN u B⟩;have:¬∀i,i<L g.cW->rN w g i=I/\∀k,k<i->sP w g i k=I:=λb=>(by have:=(b k l).2 m v;simp only[sP,B] at this;cases this);rw[t,bnk this,qc];refine gS l (by omega) λi E=>?_;rcases jj i k with C|C;exact n i C;obtain rfl:i=k:=(by omega);exact⟨s,λj o=>u j<|biN o<|bw y⟩;have b:=λi E=>n i<|biN E<|bw e;rw[t,bqH z,bqH b];rfl
def FQ:FT:=aIc Pm
def aza:=gX FQ Pm
def nB(a k:Nat):List aH8:=((aH k).filter λb:Nat=>Q<|(a:Int)≠(b:Int)).map λb:Nat=>⟨1,(a:Int),(b:Int)⟩
def lr(n k:Nat):List aH8:=(aH k).flatMap λa=>nB a n
def mK(k:Nat):List aH8:=(aH k).map λa:Nat=>⟨2,(a:Int),0⟩
def kh(l:List aP)(k:Nat):List aH8:=((aH k).filter λa=>fR<|gd l a).map λa:Nat=>⟨3,(a:Int),0⟩
def ki(w:am)(k:Nat):List aH8:=(aH k).flatMap λa:Nat=>(dx w a).map λb=>⟨4,(a:Int),b⟩
def pR(w:am)(a:Nat):List aH8:=if pN (gd w.ac a) then(mR w (gd w.ac a).bF (gd w.ac a).aq).map λb=>⟨5,(a:Int),b⟩ else[]
def jp(w:am)(k:Nat):List aH8:=(aH k).flatMap<|pR w
def cw(w:am):List aH8:=lr (L w.ac) (L w.ac)++mK (L w.ac)++kh w.ac (L w.ac)++ki w (L w.ac)++jp w (L w.ac)
theorem tq{β:Type}{f:Nat->List β}{k}:(aH<|k+1).flatMap f=(aH k).flatMap f++f k:=by rw[qn,GC];simp
theorem an5{β:Type}{f:Nat->β}{k}:(aH<|k+1).map f=(aH k).map f++[f k]:=by rw[qn,dg];simp
theorem uP{β:Type}{p}{f:Nat->β}{k}:((aH<|k+1).filter p).map f=((aH k).filter p).map f++if p k then[f k] else[]:=by grind [qn]
theorem EC{β:Type}{P l}{f:Int->β}{m:Nat}(h:m<L l):P++(l.take<|m+1).map f=(P++(l.take m).map f)++[f<|gd l m]:=by rw[EA h];simp
def Qu(a k:Nat):L (nB a k)<=k:=by grind [nB,bJ,gl,fZ]
def AS(n k:Nat):L (lr n k)<=k*n:=by have:=jo (f:=λa=>nB a n) (m:=n) (l:=aH k) λa _=>Qu a n;grind [lr]
def AT(k:Nat):L (mK k)=k:=by simp[mK]
theorem AU(l)(k:Nat):L (kh l k)<=k:=by grind [kh,bJ,gl,fZ]
theorem vU(w)(q:Int):L (dx w q)<=1+L w.ac:=by grind [qX,mr,dx,dh,fR,gd,oM]
theorem AW(w)(k:Nat):L (ki w k)<=k*(1+L w.ac):=by have:=jo (f:=λa:Nat=>(dx w a).map λb=>(⟨4,(a:Int),b⟩:aH8)) (m:=1+L w.ac) (l:=aH k) (by grind [vU]);grind [ki]
theorem Rp(w)(c u:Int):L (mR w c u)<=L w.init.bW.ay+L w.ac:=by grind [qX,vf,wV,mR,iH,a6G,bJ]
def Qv(w)(k:Nat):L (jp w k)<=k*(L w.init.bW.ay+L w.ac):=by have:=jo (f:=pR w) (m:=L w.init.bW.ay+L w.ac) (l:=aH k) (by grind [pR,Rp]);grind [jp]
def xy{x y z}:bM br8 aM7 [(0, .s x),(1, .s y),(2, .s z)]=V (.a [.s x, .s y, .s z]):=rfl
def CW{x y}:bM br8 aM7 [(0, .s x),(1, .s y)]=V (.a [.s x, .s y,iv 0]):=rfl
def aH5{l:List aH8}:∀r∈l.map aH8.c,L r=3:=by intro r a;obtain⟨x,_,rfl⟩:=dN.1 a;rfl
def rF{Y}{d:Nat}{ds a l}(x){K}(f:Gr Y ds 107 3 a<|l.map aH8.c)(i:d∈ds)(j:d<L Y)(k:L l<=100000)(h:∀e Y',Gr Y' ds 107 3 e ((l++[x]).map aH8.c)->Fr Y Y' ds->K e Y'):eV (aX btw 1 Y [(0, .a [iv x.kind,iv x.a,iv x.b])]) λt s=>eV (apA 107 br8 24 s d a t) K:=by rw[ua (zs:=btw) (cs:=[iv x.kind,iv x.a,iv x.b]) rfl rfl rfl (by decide) rfl<|by decide];refine fP f rfl (by decide) i j aH5 (by simp) (by grind) λe Y' g F=>h e Y' ?_ F;rw[dg];exact g
abbrev uG:eP:=[36,49,65,86,116]
abbrev uH:eP:=[36,49,65,86,116,8,13]
def PJ(w)(hp:kB w/\L w.init.bW.ay<=4/\fN w.aQ w.init=U):Ct 18 [.a w.c] (λr=>∃t,r= .l ((cw w).map aH8.c) t U):=by refine aMd rfl λs2 hl X h0=>?_;obtain⟨H,bb,O⟩:=hp;have aW:=H.ev;simp+contextual only[eT,X];have x:∀k m:Nat,k<=16->m<=100->k*m<=16*100:=λk m a b=>xn a b;refine iu (λa i=>[a,iv i]) 1 uG uH 107 3 (L w.ac) (λk=>(lr (L w.ac) k).map aH8.c) (λ_=>True) trivial (.inl ⟨rfl,rfl⟩) λk a Y s _ hG T=>?_;have Z:=T.bt X;have N:L Y=4096:=(by rw[T.1,hl]);simp only[qz 25,eT,Z];refine⟨λh=>?_,λh=>?_⟩;have n:=aL h;have aZ:=AS (L w.ac) k;have a0:=x k (L w.ac) (by omega) (by omega);refine iu (λa i=>[a,iv i]) 1 uG uH 107 3 (L w.ac) (λm=>(lr (L w.ac) k++nB k m).map aH8.c) (λ_=>True) trivial (by grind [nB]) λm a2 R hm _ q d=>?_;have u:L R=4096:=(by rw[d.1,N]);have a8:=Qu k m;simp only[qz 61,di,eQ,qz 83,qy 4,qy 6,xy];refine⟨λj=>⟨λy=>?_,λy=>?_⟩,λj=>?_⟩;refine rF ⟨1,k,m⟩ q (by decide) (by omega) (by simp;omega) λS G g3 o=>?_;simp only[qz 81,aI,au,fE,cS,aY];refine be3 (mk:=λa i=>[a,iv i]) (λ_ _=>rfl) (aL j) (by omega) trivial ?_ (d.trans<|o.mono<|by decide);grind [nB,uP,bje];simp only[qz 81,aI,au,fE,cS,aY];refine be3 (mk:=λa i=>[a,iv i]) (λ_ _=>rfl) (aL j) (by omega) trivial ?_ d;grind [nB,uP];have f:m=L w.ac:=(by grind);subst f;refine be3 (mk:=λa i=>[a,iv i]) (λ_ _=>rfl) n (by omega) trivial ?_<|T.trans d;grind [lr,tq];have e:k=L w.ac:=(by grind);subst e;have aT:=AS (L w.ac)<|L w.ac;have aU:=x (L w.ac) (L w.ac) (by omega) (by omega);clear h s;refine iu (λa i=>[a,iv i]) 1 uG uH 107 3 (L w.ac) (λk=>(lr (L w.ac) (L w.ac)++mK k).map aH8.c) (λ_=>True) trivial (by grind [mK]) λk a1 Y1 s _ M z=>?_;have c2:=z.bt Z;have W:L Y1=4096:=(by rw[z.1,N]);simp only[qz 109,qy 8,eT,c2,CW];refine⟨λh=>?_,λh=>?_⟩;refine rF ⟨2,k,0⟩ M (by decide) (by omega) (by simp[AT];omega) λS G g3 o=>?_;simp only[qz 10,au,fE,cS,aY];refine be3 (mk:=λa i=>[a,iv i]) (λ_ _=>rfl) (aL h) (by omega) trivial ?_ (z.trans<|o.mono<|by decide);grind [mK,an5,bje];have e:k=L w.ac:=(by grind);subst e;clear h s;generalize ah:lr (L w.ac) (L w.ac)++mK (L w.ac)=P at M;have aE:L P<=1700:=(by rw[<-ah,a6G,AT];omega);refine iu (λa i=>[a,iv i]) 1 uG uH 107 3 (L w.ac) (λk=>(P++kh w.ac k).map aH8.c) (λ_=>True) trivial (by grind [kh]) λk a2 R s _ q d=>?_;have c3:=d.bt c2;have u:L R=4096:=(by rw[d.1,W]);simp only[qz 151,di,qz 173,qy 12,eT,c3,ix,bh];refine⟨λh=>⟨vp h,?_⟩,λh=>?_⟩;refine eF rfl rfl (by decide) (by omega) λG o b3=>?_;have aX:=AU w.ac k;simp+contextual only[qz 14,qy 16,qy 18,eQ,b3,rk,ar,sX,CW];refine⟨λy=>?_,λy=>?_⟩;refine rF ⟨3,k,0⟩ (q.fr o<|by decide) (by decide) (by rw[o.1,u];decide) (by simp;omega) λS K g3 F4=>?_;simp only[qz 171,aI,au,fE,cS,aY];refine be3 (mk:=λa i=>[a,iv i]) (λ_ _=>rfl) (aL h) (by omega) trivial ?_ (d.trans<|(o.mono<|by decide).trans<|F4.mono<|by decide);grind [kh,uP,bje];simp only[qz 171,aI,au,fE,cS,aY];refine be3 (mk:=λa i=>[a,iv i]) (λ_ _=>rfl) (aL h) (by omega) trivial ?_ (d.trans<|o.mono<|by decide);rw[kh,uP,y];simpa[kh] using q.fr o (by decide);have e:k=L w.ac:=(by grind);subst e;clear h s;generalize aP:P++kh w.ac (L w.ac)=E at q;have aF:L E<=1800:=(by grind [AU,a6G]);refine iu (λa i=>[a,iv i]) 1 uG uH 107 3 (L w.ac) (λk=>(E++ki w k).map aH8.c) (λ_=>True) trivial (by grind [ki]) λk S G s _ af A=>?_;have c4:=A.bt c3;have C:L G=4096:=(by rw[A.1,u]);simp only[qz 199,eT,c4,bh,ar,sX];refine⟨λh=>?_,λh=>?_⟩;have n:=aL h;refine⟨⟨by omega,λhq=>?_⟩,λt'=>?_⟩;obtain⟨a9,_⟩:=H.named (k:=k) n;simp only[fN,bN,aBY] at O;obtain⟨f1,f2,f3,f4⟩:=iY O.1;grind [oU,qP];have aV:=vU w (k:Int);have ba:=AW w k;have al:=x k (1+L w.ac) (by omega) (by omega);refine iu (λa i=>[a,iv i]) 1 uG uH 107 3 (L<|dx w (k:Int)) (λm=>(E++ki w k++((dx w (k:Int)).take m).map λb=>(⟨4,(k:Int),b⟩:aH8)).map aH8.c) (λ_=>True) trivial (by grind) λm a4 K hm _ v g=>?_;have D:L K=4096:=(by rw[g.1,C]);simp only[qz 235,qy 20,eQ,tf,rk,bh,xy];refine⟨λj=>⟨vp j,?_⟩,λj=>?_⟩;have f:=aL j;refine rF ⟨4,k,gd (dx w (k:Int)) m⟩ v (by decide) (by omega) (by simp;omega) λa5 Y5 g5 p=>?_;simp only[qz 22,au,fE,cS,aY];refine be3 (mk:=λa i=>[a,iv i]) (λ_ _=>rfl) f (by omega) trivial ?_ (g.trans<|p.mono<|by decide);grind [EC];have f:m=L (dx w (k:Int)):=(by grind);subst f;refine be3 (mk:=λa i=>[a,iv i]) (λ_ _=>rfl) n (by omega) trivial ?_<|A.trans g;grind [ki,tq,bje,gV];have e:k=L w.ac:=(by grind);subst e;clear h s;generalize aR:E++ki w (L w.ac)=F at af;have aG:L F<=3500:=(by grind [AW,a6G]);have hN:cw w=F++jp w (L w.ac):=(by grind [cw]);refine iu (λa i=>[a,iv i]) 1 uG uH 107 3 (L w.ac) (λk=>(F++jp w k).map aH8.c) (λ_=>True) trivial (by grind [jp]) λk a4 K s _ v g=>?_;have c5:=g.bt c4;have D:L K=4096:=(by rw[g.1,C]);simp only[qz 277,di,qz 299,qy 24,eQ,rk,ix,bh];refine⟨λh=>⟨vp h,?_⟩,λh=>?_⟩;refine eF rfl rfl (by decide) (by omega) λY5 p b5=>?_;have n:=aL h;have c6:=p.bt c5;have bd:=Qv w k;have al:=x k (L w.init.bW.ay+L w.ac) (by omega) (by omega);simp+contextual only[qz 26,eT,b5,c6,ar,sX];refine⟨λy=>?_,λy=>⟨(by omega),λt'=>?_⟩⟩;simp only[qz 297,aI,au,fE,cS,aY];refine be3 (mk:=λa i=>[a,iv i]) (λ_ _=>rfl) n (by omega) trivial ?_ (g.trans<|p.mono<|by decide);have:pR w k=[]:=(by grind [pR]);rw[jp,tq,this,cL];exact v.fr p (by decide);have aO:pN (gd w.ac k)=U:=(by grind);have bc:=Rp w (gd w.ac k).bF (gd w.ac k).aq;refine iu (λa i=>[a,iv i]) 1 uG uH 107 3 (L<|mR w (gd w.ac k).bF (gd w.ac k).aq) (λm=>(F++jp w k++((mR w (gd w.ac k).bF (gd w.ac k).aq).take m).map λb=>(⟨5,(k:Int),b⟩:aH8)).map aH8.c) (λ_=>True) trivial (by simpa using v.fr p (by decide)) λm a6 Y6 hm _ ag B=>?_;have aK:L Y6=4096:=(by rw[B.1,p.1,D]);simp only[qz 325,qy 28,eQ,tf,rk,bh,xy];refine⟨λj=>⟨vp j,?_⟩,λj=>?_⟩;have f:=aL j;refine rF ⟨5,k,gd (mR w (gd w.ac k).bF (gd w.ac k).aq) m⟩ ag (by decide) (by omega) (by simp;omega) λa7 Y7 g7 F7=>?_;simp only[qz 30,au,fE,cS,aY];refine be3 (mk:=λa i=>[a,iv i]) (λ_ _=>rfl) f (by omega) trivial ?_ (B.trans<|F7.mono<|by decide);grind [EC];have f:m=L (mR w (gd w.ac k).bF (gd w.ac k).aq):=(by grind);subst f;simp only[qz 297,aI,au,fE,cS,aY];refine be3 (mk:=λa i=>[a,iv i]) (λ_ _=>rfl) n (by omega) trivial ?_ (g.trans<|(p.mono<|by decide).trans B);simp_all [jp,tq,bje,pR,gV];have e:k=L w.ac:=(by grind);subst e;rw[hN];grind [qV]
def Cp:FT:=om PJ
def azv:=aUy Cp PJ
def ao2:dO:=(28,Cg)::(125,FQ)::(18,Cp)::ao1
def wQ:eJ ao2:=vl (pg O8)<|vl (aCb Pm)<|vl (rj PJ)<|Ex
def fsL:=ai @ayY<|ai @aza<|ai @azv<|@sX
def aum:=kW 17 []
def aLP{c0 b}:=y2 43 15 2 49 6 3 wQ func63 aum c0 b [.a c0, .a b]
def auy:=kW 48 [(4,([9,23],[2,3,4,5,22])),(7,([9],[2,3,4,5,22,23])),(11,([9],[2,3,4,5,22,23])),(13,([9],[2,3,4,5,10,22,23])),(16,([9,60],[2,3,4,5,10,22,23,58,59])),(19,([9],[2,3,4,5,10,22,23,58,59,60])),(24,([9,76],[3,4,74,75])),(27,([9],[3,4,74,75,76])),(31,([15,17],[3,4,9,13,14,16,74,75,76])),(34,([15],[3,4,9,13,14,16,17,74,75,76])),(37,([],[3,4,9,13,14,15,16,74,75,76])),(40,([111],[3,4,9,13,14,15,16,74,75,76,110])),(43,([],[3,4,9,13,14,15,16,74,75,76,110,111]))]
def aL1{c0 b c d}:=y2 31 6 4 36 4 5 wQ func172 auy c0 b [.a c0, .a b,c,d]
def auV:=kW 11 [(3,([16],[1,2,3,14,15]))]
def aMo{a a1 b c}:=yB wQ func108 auV [a,a1,b,c]
def auO:=kW 0 []
def Jm c R d a:=rV (cO a c) λe=>aB 16 a e λf=>sV (aK 1 a f d) λb=>aNR R b []
def Jl a a1 s0 R:=rV (cO s0 a) λt1=>Qfl 16 s0 t1 λt3=>eV (aX aYp 1 s0 [(0,a1)]) λt4 b=>eV (apA 38 bhN 24 b 11 t3 t4)<|Jm a R
def aMh{a a1:AV}{s0:ae}{R:be}(hs:L s0=4096)(h:Jl a a1 s0 R):EB 103 [a,a1] s0 R:=zB auO wQ func103 h
def auZ:=kW 11 [(4,([5,13],[1,11,12])),(7,([5],[1,11,12,13]))]
def aMs{a a1}:=yB wQ func107 auZ [a,a1]
def auH:=kW 23 [(6,([40],[2,3,39])),(15,([58],[2,3,57]))]
def aMa{c0 b}:=y2 54 4 2 54 4 3 wQ func10 auH c0 b [.a c0, .a b]
structure Fx(Y Y':ae)(ks:List Id):Prop where
 len:L Y'=L Y
 keep:∀b x,b∉ks->box Y b=V x->box Y' b=V x
 I6:∀k,(aZ Y k).I6<=(aZ Y' k).I6
theorem Fx.refl(Y)(ks):Fx Y Y ks:=⟨rfl,λ_ _ _ h=>h,λ_=>dA _⟩
theorem Fx.trans{Y Y' a ks ks'}(h:Fx Y Y' ks)(b:Fx Y' a ks'):Fx Y a (ks++ks'):=⟨b.len.trans h.len,(by grind [Fx.keep]),λk=>gl (h.I6 k)<|b.I6 k⟩
theorem Fx.mono{Y Y' ks ks'}(h:Fx Y Y' ks)(hs:∀b∈ks,b∈ks'\/∀x,box Y b≠V x):Fx Y Y' ks':=⟨h.len,(by grind [Fx.keep]),h.I6⟩
def Fx.kp{Y Y'}(h:Fx Y Y' []):Kp Y Y':=⟨h.len,h.I6,by grind [Fx.keep]⟩
theorem Kp.fx{Y Y'}(h:Kp Y Y')(ks):Fx Y Y' ks:=⟨h.len,(by grind [Kp.keep]),h.I6⟩
def bK(Y:ae)(b:Id):Prop:=(aZ Y b.1).I6<b.2
theorem bK.no{Y b}(h:bK Y b)(x):box Y b≠V x:=(by grind [aOm,bK])
theorem bK.ne{Y b c x}(h:bK Y b)(a:box Y c=V x):c≠b:=λe=>h.no x<|e▸a
theorem bK.old{Y Y' b ks}(a:Fx Y Y' ks)(h:bK Y' b):bK Y b:=rC (a.I6 _) h
def wc{Y b x x'}(a:box Y b=V x):Fx Y (wr Y b x') [b]:=by refine⟨uC,(by grind [DY]),λk=>?_⟩;grind [wr,iD,lN,jQ]
def Le{Y b x}(a:box Y b=V x):Fx Y (kill Y b) [b]:=by refine⟨yg b,(by grind [Qc]),λk=>?_⟩;grind [kill,iD,lN,jQ]
def kH{Y}{d:Nat}{x}(a:d<L Y):Fx Y (put Y d x) []:=(am8 a).fx []
theorem qQ(Y)(d):bK Y (I8 Y d):=by simp[bK,I8]
def alI{e}{z d:Nat}{zs Y K}(g:L zs=z)(f:0<z)(a:d<L Y)(c:∀v Y',Fx Y Y' []->bK Y (d,v)->box Y' (d,v)=V ⟨e,z,U,U,[zs]⟩->K (.p (d,v) 0 0) Y'):eV (alA e zs Y d) K:=by have b:alA e zs Y d=V (.p (I8 Y d) 0 0,put Y d ⟨e,z,U,U,[zs]⟩):=(by grind [alA,aPF]);rw[b];exact c _ _ (kH a) (qQ Y d)<|iy a
theorem cy{Y b}{j z y:Nat}{e o r cs x K}(a:box Y b=V ⟨e,z,o,U,[r]⟩)(g:eY x=V cs)(h:L cs=y)(f:j+y<=L r)(d:∀Y',Fx Y Y' [b]->box Y' b=V ⟨e,z,o,U,[r.take j++cs++r.drop (j+y)]⟩->K Y'):sV (aK y Y (.p b 0 j) x) K:=by have c:aK y Y (.p b 0 j) x=V (wr Y b ⟨e,z,o,U,[r.take j++cs++r.drop (j+y)]⟩):=(by grind [aK,aBG,pW,qh]);rw[c];exact d _ (wc a)<|lO a
def bc(Y:ae)(e:TypeId)(z:Nat)(a:AV)(bA:List<|dM):Prop:=(bA=[]/\a= .l [] U U)\/∃b,a= .m b (L bA)/\box Y b=V ⟨e,z,U,I,bA⟩
def aA(a:AV):List Id:=match a with| .m b _=>[b]|_=>[]
theorem bc.nil{Y e z}:bc Y e z (.l [] U U) []:= .inl ⟨rfl,rfl⟩
theorem bc.fx{Y Y' ks e z a bA}(f:bc Y e z a bA)(d:Fx Y Y' ks)(g:∀b∈aA a,b∉ks):bc Y' e z a bA:=by rcases f with h|⟨b,rfl,c⟩;exact .inl h;exact .inr ⟨b,rfl,d.keep b _ (g b<|by simp[aA]) c⟩
def gD{Y e}{z d by':Nat}{zs a bA new t o K}(m:bc Y e z a bA)(q:L zs=z)(s:0<z)(i:d<L Y)(w:∀r∈bA,L r=z)(v:∀r∈new,L r=z)(u:(L bA+L new)*(by'+1)<=1099511627776)(h:∀g Y',bc Y' e z g (bA++new)->Fx Y Y' (aA a)->(∀b∈aA g,b∈aA a\/bK Y b)->(∀b∈aA g,b∈aA a\/b.1=d)->K g Y'):eV (apA e zs by' Y d a<|.l new t o) K:=by unfold apA;simp only[gL];by_cases k:L new=0;rw[sz k];have n:new=[]:=(by simp_all);subst n;rcases m with⟨c,j⟩|⟨b,c,f⟩;subst c j;exact h _ _ (.inl ⟨rfl,rfl⟩) (Fx.refl _ _) (by simp[aA]) (by simp[aA]);subst c;simp only[f,df];exact h _ _ (.inr ⟨b,by simp,by simpa using f⟩) (Fx.refl _ _) (by simp[aA]) (by simp[aA]);rw[r9 k,sz ⟨by omega,by simp[aPF,i],by simp_all⟩];rcases m with⟨c,j⟩|⟨b,c,f⟩;subst c j;simp only;rw[sz ⟨by simp,by grind [lx]⟩];refine h _ _ (.inr ⟨I8 Y d,by simp,?_⟩) ((kH i).mono<|by simp) (by grind [aA,qQ]) (by simp[aA,I8]);grind [iy];subst c;simp only[f];rw[sz ⟨trivial,trivial,q.symm,dA _,by grind [lx]⟩];have p:d<L (kill Y b):=(by grind [yg]);refine h _ _ (.inr ⟨I8 Y d,by simp,?_⟩) (((Le f).trans<|kH p).mono<|by simp[aA]) (by grind [aA,qQ]) (by simp[aA,I8]);grind [gV,anF,iy]
def lnI{Y e}{z:Nat}{a bA}(f:bc Y e z a bA):fS Y a=V (iv<|L bA):=by rcases f with⟨c,d⟩|⟨b,c,g⟩;subst c d;rfl;grind [fS]
def ms{Y e z a bA}(c:bc Y e z a bA):eY a=V [a]:=by rcases c with⟨_,rfl⟩|⟨b,rfl,_⟩<;>rfl
def bsI{Y z0 a e z bA K}(f:bc Y e z a bA)(c:∀Y',Fx Y Y' (aA a)->K (.l [[.l bA I I]] U U) Y'):eV (aX [z0] 1 Y [(0,a)]) K:=by rcases f with⟨rfl,rfl⟩|⟨b,rfl,d⟩;have:aX [z0] 1 Y [(0, .l [] U U)]=V (.l [[.l [] I I]] U U,Y):=(by simp[aX,aly,eY,nrm,gK,eR,gi,eB,iR,kills,kC,eN]);rw[this];exact c Y<|Fx.refl _ _;have:aX [z0] 1 Y [(0, .m b<|L bA)]=V (.l [[.l bA I I]] U U,kill Y b):=(by simp[aX,aly,eY,nrm,gK,eR,gi,d,eB,iR,kills,kC,eN]);rw[this];exact c _<|Le d
def bsL{Y z0 bA t o}:aX [z0] 1 Y [(0, .l bA t o)]=V (.l [[.l bA I I]] U U,Y):=by simp[aX,aly,eY,nrm,gK,eR,gi,eB,iR,kills,kC,eN]
def yI{α}(mk:α->Int->dM)(n:Nat)(Inv:Nat->α->ae->Prop):aG:=λvs Y=>∃(k:Nat) (s:α),vs=mk s k/\k<=n/\Inv k s Y
def jD{α B}(mk)(p n)(Inv){s0:α}{a}(b:Inv 0 s0 a)(h:∀(k) s Y,k<=n->Inv k s Y->B (yI mk n Inv) (gM p n) (mk s k) Y):lV (mk s0 0) a B:=⟨yI mk n Inv,gM p n,⟨0,s0,rfl,mh _,b⟩,by rintro vs Y ⟨k,s,rfl,d,c⟩;simp_all⟩
def dR{α mk p n k Inv}{s s':α}{Y Y'}(c:∀s i,gt (mk s i) p=iv i)(a:k<n)(b:n<4611686018427387904)(hI:Inv (k+1) s' Y'):yI mk n Inv (mk s'<|dq.wrap<|(k:Int)+1) Y'/\gM p n (mk s'<|dq.wrap<|(k:Int)+1) Y'<gM p n (mk s k) Y:=by rw[fX<|by omega];refine⟨⟨k+1,s',rfl,a,hI⟩,?_⟩;grind [gM]
def r7A{a b c d e f g:AV}:aN (V 7) [a,b,c,d,e,f,g]=V (.a [a,b,c,d,e,f,g]):=rfl
def I7{e:TypeId}{z d n:Nat}{zs:dM}{Y:ae}{K:be}(f:L Y=n)(b:∀v Y',Fx Y Y' []->bK Y (d,v)->box Y' (d,v)=V ⟨e,z,U,U,[zs]⟩->K (.p (d,v) 0 0) Y')(g:L zs=z:=by exact rfl)(a:0<z:=by decide)(c:d<n:=by decide):eV (alA e zs Y d) K:=alI g a (f▸c) b
def Fx.kq{Y Y':ae}{ks:List Id}(h:Fx Y Y' ks){b:Id}{x:bY}(c:box Y b=V x)(a:b∉ks:=by simp):box Y' b=V x:=h.keep b x a c
def Fx.tn{Y Y' a:ae}{b:Id}(h:Fx Y Y' [])(c:Fx Y' a [b])(d:∀x,box Y b≠V x):Fx Y a []:=(h.trans c).mono (by simp only[dW,cE];rintro e rfl;exact .inr d)
def yV{B:(aG)->(bu)->aG}(n:Nat)(Inv:Nat->Unit->ae->Prop){a:ae}(b:Inv 0 () a)(h:∀(k:Nat) s Y,k<=n->Inv k s Y->B (yI (λ_ i=>[iv i]) n Inv) (gM 0 n) [iv k] Y):lV [iv 0] a B:=jD (λ_ i=>[iv i]) 0 n Inv (s0:=()) b h
def yU{n k:Nat}{Inv:Nat->Unit->ae->Prop}{Y Y':ae}(a:k<n)(hI:Inv (k+1) () Y')(b:n<4611686018427387904:=by omega):yI (λ_ i=>[iv i]) n Inv [iv<|dq.wrap<|(k:Int)+1] Y'/\gM 0 n [iv<|dq.wrap<|(k:Int)+1] Y'<gM 0 n [iv k] Y:=dR (mk:=λ_ i=>[iv i]) (s:=()) (s':=()) (λ_ _=>rfl) a b hI
def aFm{w n}:aN J (am.c w++[n])=V (sl cA.c w.aQ.cells):=rfl
def aFu{w n}:aN J ((am.c w++[n]).drop 2)=V (sl aPI.c w.aQ.bC):=rfl
def aFs{w n}:aN J ((am.c w++[n]).drop 14)=V (sl aP.c w.ac):=rfl
def aFt{w n}:aN J ((am.c w++[n]).drop 15)=V (n):=rfl
def kj:=ai @aFm<|ai @aFu<|ai @aFs<|@aFt
def aFH{w n a}:aN J ((am.c w++[n,a]).drop 1)=V (sl dS.c w.aQ.ak):=rfl
def aFM{w n a}:aN J ((am.c w++[n,a]).drop 14)=V (sl aP.c w.ac):=rfl
def aFN{w n a}:aN J ((am.c w++[n,a]).drop 15)=V (n):=rfl
def aFO{w n a}:aN J ((am.c w++[n,a]).drop 16)=V (a):=rfl
def aFX{w n a}:aN (V 15) (am.c w++[n,a])=V (.a w.c):=rfl
def aFY{w n a}:aN (V 6) (am.c w++[n,a])=V (.a w.aQ.c):=rfl
def aF0{w n a}:aN (V 4) ((am.c w++[n,a]).drop 7)=V (.a w.init.bW.c):=rfl
def rkB:=ai @aFH<|ai @aFM<|ai @aFN<|ai @aFO<|ai @aFX<|ai @aFY<|@aF0
def aGd{w n m k o a}:aN J ((am.c w++[n,m,k,o,a]).drop 2)=V (sl aPI.c w.aQ.bC):=rfl
def aGf{w n m k o a}:aN J ((am.c w++[n,m,k,o,a]).drop 4)=V (sl cs w.aQ.ay):=rfl
def aGi{w n m k o a}:aN J ((am.c w++[n,m,k,o,a]).drop 7)=V (sl cg.c w.init.bW.ak):=rfl
def aGj{w n m k o a}:aN J ((am.c w++[n,m,k,o,a]).drop 8)=V (iv w.init.bW.tx):=rfl
def aF3{w n m k o a}:aN J ((am.c w++[n,m,k,o,a]).drop 10)=V (sl aoC.c w.init.bW.ay):=rfl
def aF6{w n m k o a}:aN J ((am.c w++[n,m,k,o,a]).drop 13)=V (sl ci w.init.count):=rfl
def aF7{w n m k o a}:aN J ((am.c w++[n,m,k,o,a]).drop 14)=V (sl aP.c w.ac):=rfl
def aF8{w n m k o a}:aN J ((am.c w++[n,m,k,o,a]).drop 15)=V (n):=rfl
def aF9{w n m k o a}:aN J ((am.c w++[n,m,k,o,a]).drop 16)=V (m):=rfl
def aGa{w n m k o a}:aN J ((am.c w++[n,m,k,o,a]).drop 17)=V (k):=rfl
def aGb{w n m k o a}:aN J ((am.c w++[n,m,k,o,a]).drop 18)=V (o):=rfl
def aGc{w n m k o a}:aN J ((am.c w++[n,m,k,o,a]).drop 19)=V (a):=rfl
def rkC:=ai @aGd<|ai @aGf<|ai @aGi<|ai @aGj<|ai @aF3<|ai @aF6<|ai @aF7<|ai @aF8<|ai @aF9<|ai @aGa<|ai @aGb<|@aGc
def qC(w:am)(g:cJ):Bool:=
 bif Q (g.kind=2) then qx w g
 else(dh g.ea (L w.ac)&&(dh g.eb (L w.ac)&&(dh g.ec (L w.ac)&&dh g.ed (L w.ac))))&&
  (bif Q (g.kind=1) then Ek w g else bif Q (g.kind=3) then wz w g else bif Q (g.kind=4) then tZ w g else I)
def Pj(w)(g)(e:kB w/\L g.cW<4611686018427387904):Ct 63 [.a w.c, .a g.c] (·=bv (qC w g)):=by refine aLP rfl rfl λm l f h k=>?_;have i:=e.1;have j:=e.2;simp+contextual only[eT,fsL,ar,ix,f,h,dc,i,j,aPe,qC,a7c,a5C,↓uL];grind [dX]
def FO:FT:=aIc Pj
def ay8:=gX FO Pj
def ck{a b l}:gt (a::b::l) 1=b:=rfl
def nr{a b c l}:gt (a::b::c::l) 2=c:=rfl
abbrev sB:Nat:=8
structure cm(Y:ae)(b:Id)(w:am)(ns:List aH8)(out:List<|d0)(n a:AV):Prop where
 bx:box Y b=V ⟨162,17,U,U,[w.c++[n,a]]⟩
 nm:∃t o,n= .l (ns.map aH8.c) t o
 gr:bc Y 38 1 a (out.map λc=>[sl ci c])
 le:L Y=4096
 sb:b.1=sB
 sa:∀k∈aA a,k.1=11
theorem cm.ne{Y b w ns out n a}(B:cm Y b w ns out n a):b∉aA a:=by rcases B.gr with⟨_,rfl⟩|⟨c,rfl,h⟩;simp[aA];simp only[aA,cE];intro e;subst e;have:=B.bx;simp_all
theorem cm.fx{Y Y' b w ns out n a ks}(B:cm Y b w ns out n a)(c:Fx Y Y' ks)(e:b∉ks)(f:∀k∈aA a,k∉ks):cm Y' b w ns out n a:=⟨c.keep _ _ e B.bx,B.nm,B.gr.fx c f,c.len.trans B.le,B.sb,B.sa⟩
def cm.kp{Y Y' b w ns out n a}(B:cm Y b w ns out n a)(c:Fx Y Y' []):cm Y' b w ns out n a:=B.fx c (by simp) (by simp)
def dP(ns:List aH8)(x:aH8):Int:=if x∈ns then(ns.idxOf x:Int)+1 else 0
theorem aDb{ns x}{k:Nat}(c:k<L ns)(h:∀j,j<k->gd ns j≠x)(e:gd ns k=x):dP ns x=(k:Int)+1:=by have f:=e▸dB c;have:ns.idxOf x=k:=(by rw[List.idxOf,List.findIdx_eq c];grind [bT]);grind [dP]
def aDd{ns x}(h:∀j,j<L ns->gd ns j≠x):dP ns x=0:=by rw[dP,r9 λc=>(px (p:=λy=>y≠x)).1 h x c rfl]
def aS2{fn xs Y d K v}(i:uQ.elem fn=U)(h:∃r c,(r= .s v/\Fx Y c [])/\cZ aS GG fn xs Y r c)(g:K (.s v) Y):cB fn xs Y d K:=by obtain⟨r,c,⟨rfl,e⟩,f⟩:=h;refine⟨_,c,f,e.len,?_⟩;rw[sz<|show GG.rd fn=U from i];exact⟨e.kp,rfl,g⟩
def xC{fn xs Y d z e bA K}(u:uQ.elem fn=U)(h:∃r f,(bc f e z r bA/\Fx Y f []/\∀b∈aA r,bK Y b)/\cZ aS GG fn xs Y r f)(k:∀t,K (.l bA t U) Y):cB fn xs Y d K:=by obtain⟨r,f,⟨g,i,s⟩,q⟩:=h;refine⟨_,f,q,i.len,?_⟩;rw[sz<|show GG.rd fn=U from u];rcases g with⟨rfl,rfl⟩|⟨b,rfl,j⟩;exact⟨i.kp,rfl,k U⟩;have o:eR f (.m b<|L bA)= .l bA I U:=(by simp[eR,gi,j]);rw[o];refine⟨?_,rfl,k I⟩;have p:kills f (eB<|.m b<|L bA)=kill f b:=(by simp[kills,eB,iR,j]);rw[p];exact((i.trans<|Le j).mono (ks':=[])<|by simp only[dW,cE];rintro c rfl;exact .inr (s c<|by simp[aA]).no).kp
section
variable{Y:ae}{b:Id}{w:am}{ns:List aH8}{out:List (d0)}{n a:AV}{d:Nat}{K:be}
def lX{i:Int}{K t o}:rV (cz 3 Y (.l (ns.map aH8.c) t o)<|iv i) K=(aF (L ns) i/\K (.q<|aH8.c<|gd ns i.toNat)):=aBz (Y:=Y) (f:=aH8.c) λ_=>rfl
def aOe{b i j x}(h:box Y b=V x):cO Y (.p b i j)=V (.p b i j):=by simp[cO,h]
theorem aCy(B:cm Y b w ns out n a)(M:L ns<100000)(kd x y:Int):∃r f,(r=iv (dP ns ⟨kd,x,y⟩)/\Fx Y f [])/\cZ aS GG 108 [.p b 0 0,iv kd,iv x,iv y] Y r f:=by refine aMo B.le ?_;have bx:=B.bx;obtain⟨t,o,rfl⟩:=B.nm;simp only[aOe bx,eS,bx,rkB,gT,↓uL];refine yV (L ns) (λk _ Y'=>Fx Y Y' []/\∀j,j<k->gd ns j≠⟨kd,x,y⟩) ⟨Fx.refl _ _,by simp⟩ ?_;rintro k _ f H ⟨e,A⟩;have m:=e.len.trans B.le;simp+contextual only[qz 19,qy 2,au,eQ,lX,rk,bh,↓uL];refine⟨λh=>⟨vp h,?_⟩,λh=>?_⟩;refine I7 m λv D q C u=>?_;refine cy (cs:=aH8.c<|gd ns k) u rfl rfl (by decide) λg s z=>?_;have i:box g _=V ⟨107,3,U,U,[aH8.c<|gd ns k]⟩:=z;have F:Fx Y g []:=((e.trans q).trans s).mono (by grind [bK.no,bK.old]);simp+contextual only[qz 4,eT,i,au,aNR,aoz,↓uL];refine⟨λl=>⟨?_,F⟩,λl=>yU (aL h) ⟨F,a6p A ?_⟩⟩;have E:gd ns k=⟨kd,x,y⟩:=(by simp only[bN,aBY] at l;(cases G:gd ns k);simp_all);grind [aDb,fX];grind;rw[aDd<|by grind];exact⟨rfl,e⟩
def nc(B:cm Y b w ns out n a)(e:L ns<100000)(kd x y:Int)(c:K (iv<|dP ns ⟨kd,x,y⟩) Y):cB 108 [.p b 0 0,iv kd,iv x,iv y] Y d K:=aS2 rfl (aCy B e kd x y) c
theorem aCo(B:cm Y b w ns out n a)(R:L out<1000000000){x c}(G:(∃t o,x= .l (c.map ci) t o)\/(bc Y 3 1 x (c.map ci)/\∀k∈aA x,k∉aA a)):∃r e,(∃i,r= .t []/\cm e b w ns (out++[c]) n i/\Fx Y e (b::(aA a++aA x))/\∀k∈aA i,k∈aA a\/bK Y k)/\cZ aS GG 103 [.p b 0 0,x] Y r e:=by refine aMh B.le ?_;have bx:=B.bx;simp only[Jl,aOe bx,eS,bx,rkB,↓uL];have j:∀e,Fx Y e (aA x)->(∀k∈aA a,k∉aA x)->b∉aA x->eV (apA 38 bhN 24 e 11 a<|.l [[.l (c.map ci) I I]] U U) (Jm (.p b 0 0) λr e=>∃i,r= .t []/\cm e b w ns (out++[c]) n i/\Fx Y e (b::(aA a++aA x))/\∀k∈aA i,k∈aA a\/bK Y k):=(by intro e f z C;have D:=f.len.trans B.le;refine gD (B.gr.fx f z) rfl (by decide) (by omega) (by simp) (by simp) (by simp;omega) λu H y q P hs=>?_;have E:=f.keep _ _ C bx;have v:=q.keep _ _ B.ne E;simp only[Jm,aOe v,eS,v,↓uL];refine cy (cs:=[u]) v (ms y) rfl (by simp[am.c]) λM s F=>?_;have A:b∉aA u:=(by grind [cm.ne,bK.no]);refine⟨u,rfl,⟨F,B.nm,?_,s.len.trans<|q.len.trans D,B.sb,λk m=>(hs k m).elim (B.sa k) id⟩,?_,λk m=>?_⟩;have:=y.fx s (by simp only[cE];rintro k m rfl;exact A m);rw[dg];exact this;refine((f.trans q).trans s).mono ?_;grind;grind [bK.old]);rcases G with⟨t,o,rfl⟩|⟨g,O⟩;rw[show aYp=[.l [] I I] from rfl,bsL];exact j Y (Fx.refl _ _) (by simp[aA]) (by simp[aA]);refine bsI g λe f=>j e f (by grind) ?_;rcases g with⟨_,rfl⟩|⟨N,rfl,h⟩;simp[aA];grind [aA]
theorem alC(B:cm Y b w ns out n a)(g:L out<1000000000){x}(c)(h:(∃t o,x= .l (c.map ci) t o)\/(bc Y 3 1 x (c.map ci)/\∀k∈aA x,k∉aA a))(i:∀f e,cm e b w ns (out++[c]) n f->Fx Y e (b::(aA a++aA x))->(∀k∈aA f,k∈aA a\/bK Y k)->K (.t []) e):cB 103 [.p b 0 0,x] Y d K:=by refine jH rfl (aCo B g h) ?_;grind [Fx.len]
def aR(ns:List aH8)(kd:Int):List aH8:=ns.filter λx=>Q<|x.kind=kd
theorem Qg{ns}{kd:Int}{k:Nat}(h:k<L ns):aR (ns.take<|k+1) kd=aR (ns.take k) kd++(if(gd ns k).kind=kd then[gd ns k] else[]):=by grind [iJ,aR,bT]
def uT{l:List aH8}:∀r∈l.map aH8.c,L r=3:=by intro r e;obtain⟨x,_,rfl⟩:=dN.1 e;rfl
def Db{x}:aX btw 1 Y [(0, .a<|aH8.c x)]=V (.l ([x].map aH8.c) U U,Y):=ua rfl rfl rfl (by decide) rfl (by decide)
theorem aCF(B:cm Y b w ns out n a)(T:L ns<100000)(kd:Int):∃r e,(bc e 107 3 r ((aR ns kd).map aH8.c)/\Fx Y e []/\∀b∈aA r,bK Y b)/\cZ aS GG 107 [.p b 0 0,iv kd] Y r e:=by refine aMs B.le ?_;have bx:=B.bx;obtain⟨t,o,rfl⟩:=B.nm;simp only[aOe bx,eS,bx,rkB,gT,↓uL];refine jD (α:=AV) (λa i=>[a,iv i]) 1 (L ns) (λk r Y'=>bc Y' 107 3 r ((aR (ns.take k) kd).map aH8.c)/\Fx Y Y' []/\∀b∈aA r,bK Y b) (s0:= .l [] U U) ⟨bc.nil,Fx.refl _ _,by simp[aA]⟩ ?_;rintro k r e G ⟨g1,g,m⟩;have u:=g.len.trans B.le;simp+contextual only[qz 25,au,ck,eQ,di,qz 47,qy 2,lX,rk,bh,↓uL];refine⟨λh=>⟨vp h,?_⟩,λh=>?_⟩;refine I7 u λv N x M A=>?_;refine cy (cs:=aH8.c<|gd ns k) A rfl rfl (by decide) λj y C=>?_;have q:box j _=V ⟨107,3,U,U,[aH8.c<|gd ns k]⟩:=C;have f:Fx e j []:=(x.trans y).mono (by grind [bK.no]);have F:Fx Y j []:=g.trans f;have D:=g1.fx f (by simp);have H:=Qg (kd:=kd)<|aL h;simp+contextual only[qz 4,qy 6,qy 8,eT,q,au,ck,Db,↓uL];refine⟨λE=>?_,λE=>?_⟩;refine gD D rfl (by decide) (by rw[F.len,B.le];decide) uT uT (by grind [aR]) λP O R z S _=>?_;simp only[qz 45,au,ck,eQ,↓uL];refine dR (mk:=λa i=>[a,iv i]) (s:=r) (λ_ _=>rfl) (aL h) (by omega) ⟨?_,(F.trans z).mono (by grind [bK.no]),λk G=>?_⟩;simp_all;grind [bK.old];simp only[qz 45,au,ck,eQ,↓uL];refine dR (mk:=λa i=>[a,iv i]) (s:=r) (λ_ _=>rfl) (aL h) (by omega) ⟨?_,F,m⟩;simp_all;rw[oB<|bw h] at g1;exact⟨g1,g,m⟩
def De(B:cm Y b w ns out n a)(f:L ns<100000)(kd:Int)(e:∀t,K (.l ((aR ns kd).map aH8.c) t U) Y):cB 107 [.p b 0 0,iv kd] Y d K:=xC rfl (aCF B f kd) e
end
structure Ad(Y Y1:ae)(b:Id)(a a1:AV):Prop where
 fx:Fx Y Y1 (b::aA a)
 id:∀k∈aA a1,k∈aA a\/bK Y k
theorem Ad.refl(Y)(b)(a):Ad Y Y b a a:=⟨Fx.refl _ _,λk c=> .inl c⟩
theorem Ad.trans{Y e f b a a1 g}(h:Ad Y e b a a1)(i:Ad e f b a1 g):Ad Y f b a g:=by refine⟨(h.fx.trans i.fx).mono ?_,λk j=>?_⟩;grind [Ad.id,bK.no];rcases i.id k j with c|c;exact h.id k c;exact .inr<|c.old h.fx
theorem Ad.fxn{Y c e b a a1}(h:Ad Y c b a a1)(f:Fx c e []):Ad Y e b a a1:=⟨(h.fx.trans f).mono (by simp_all),h.id⟩
theorem Ad.pre{Y c e b a a1}(f:Fx Y c [])(h:Ad c e b a a1):Ad Y e b a a1:=⟨f.trans h.fx,by grind [bK.old,Ad.id]⟩
theorem Ad.keep{Y e b a a1}(h:Ad Y e b a a1){c x}(i:box Y c=V x)(f:c≠b)(g:c∉aA a):box e c=V x:=h.fx.keep c x (by simp[f,g]) i
theorem cm.nv{Y b w ns out n a}(B:cm Y b w ns out n a){c x}(f:box Y c=V x)(g:x.var=U\/x.elem≠38):c∉aA a:=by rcases B.gr with⟨_,rfl⟩|⟨e,rfl,h⟩;simp[aA];grind [aA]
section
variable{Y:ae}{b:Id}{w:am}{ns:List aH8}{out:List (d0)}{n a:AV}{d:Nat}{K:be}
theorem fQ(B:cm Y b w ns out n a)(j:L out<1000000000)(c){t o}(i:∀f e,cm e b w ns (out++[c]) n f->Ad Y e b a f->K (.t []) e):cB 103 [.p b 0 0, .l (c.map ci) t o] Y d K:=alC B j c (.inl ⟨t,o,rfl⟩) λf e g k h=>i f e g ⟨by grind [aA],h⟩
theorem awM(B:cm Y b w ns out n a)(l:L out<1000000000){x}(c)(g:bc Y 3 1 x<|c.map ci)(i:∀f e,cm e b w ns (out++[c]) n f->Fx Y e (b::(aA a++aA x))->(∀k∈aA f,k∈aA a\/bK Y k)->K (.t []) e):cB 103 [.p b 0 0,x] Y d K:=by refine alC B l c (.inr ⟨g,?_⟩) i;intro k j;rcases g with⟨_,rfl⟩|⟨m,rfl,h⟩;simp[aA] at j;grind [aA,cm.nv]
def a5Y{x}:aX bH 1 Y [(0,iv x)]=V (.l ([x].map ci) U U,Y):=iz
def fi{x y}:aX bH 2 Y [(0,iv x),(1,iv y)]=V (.l ([x,y].map ci) U U,Y):=by simp[aX,aly,eY,nrm,gK,eR,gi,eB,iR,kills,kC,eN,er,bH];rfl
def xA{x y z}:aX bH 3 Y [(0,iv x),(1,iv y),(2,iv z)]=V (.l ([x,y,z].map ci) U U,Y):=by simp[aX,aly,eY,nrm,gK,eR,gi,eB,iR,kills,kC,eN,er,bH];rfl
def vR{x y z u}:aX bH 4 Y [(0,iv x),(1,iv y),(2,iv z),(3,iv u)]=V (.l ([x,y,z,u].map ci) U U,Y):=by simp[aX,aly,eY,nrm,gK,eR,gi,eB,iR,kills,kC,eN,er,bH];rfl
end
theorem aEn{x}:cR .neg (iv x)=V (iv<|dq.wrap<|-x):=by simp[cR]
theorem amt{α:Type}{f:Nat->List α}{k}:(aH<|k+1).flatMap f=(aH k).flatMap f++f k:=by rw[qn,GC];simp
def fU{α:Type}{f:Nat->List α}{k n:Nat}(h:k<=n):L ((aH k).flatMap f)<=L ((aH n).flatMap f):=by induction n with|zero=>simp_all|succ n c=>grind [amt]
def alY{a b}:eO 0 (.t [a,b])=V a:=rfl
def alZ{a b}:eO 1 (.t [a,b])=V b:=rfl
structure bp where
 aq:Int
 dD:Int
 dY:Int
 read:Bool
 deriving Inhabited,DecidableEq
def bp.c(x:bp):dM:=[iv x.aq,iv x.dD,iv x.dY,bv x.read]
def lK(w:pz)(lock:Int)(e:aP):Int:=bif Q (lock=L w.ak) then(bif Q (e.kind=12) then lock else-1) else(dD w e).1
def mM(w:pz)(lock:Int)(e:aP):Int:=bif Q (lock=L w.ak) then(bif Q (e.kind=13) then lock else-1) else(dY w e).1
def pK(s:aW)(lock:Int)(u j:Nat):List bp:=(((gd s.ak lock.toNat).bk.take j).filter λx:Int=>Q<|x=(u:Int)).map λ_=>⟨u,-1,-1,U⟩
def pJ(s:aW)(lock:Int)(u:Nat):List bp:=if(gd s.ak lock.toNat).aNN=u then[⟨u,-1,-1,I⟩] else[]
def bqD(w:pz)(s:aW)(lock:Int)(u:Nat):List bp:=
 if lock=L w.ak then(if s.tx=u then[⟨u,-1,-1,I⟩] else[]) else pJ s lock u++pK s lock u (L (gd s.ak lock.toNat).bk)
def ma(t i:Int)(x:bp):bp:=if x.aq=t/\x.dY<0 then{x with dY:=i} else x
def tv(w:pz)(lock:Int)(e:aP)(i:Int)(l:List bp):List bp:=if mM w lock e=lock then l.map (ma e.aq i) else l
def oY(w:pz)(lock:Int)(e:aP)(i:Int):List bp:=if lK w lock e=lock then[⟨e.aq,i,-1,(dD w e).2⟩] else[]
def dZ(w:pz)(s:aW)(l:List aP)(lock:Int):Nat->List bp|0=>(aH<|L s.ay).flatMap (bqD w s lock)|k+1=>tv w lock (gd l k) k (dZ w s l lock k)++oY w lock (gd l k) k
def jE(w:pz)(s:aW)(l:List aP)(lock:Int):List bp:=dZ w s l lock<|L l
def nC{l:List bp}:∀r∈l.map bp.c,L r=4:=by intro r e;obtain⟨x,_,rfl⟩:=dN.1 e;rfl
theorem wL{Y b e}{z i j:Nat}{bA r v K}(c:box Y b=V ⟨e,z,U,I,bA⟩)(h:bA[i]?=V r)(k:j<L r)(g:∀Y',Fx Y Y' [b]->box Y' b=V ⟨e,z,U,I,bA.set i<|r.set j<|.s v⟩->K Y'):sV (aK 1 Y (.p b i j)<|.s v) K:=by have f:aK 1 Y (.p b i j) (.s v)=V (wr Y b ⟨e,z,U,I,bA.set i<|r.set j<|.s v⟩):=(by simp only[aK,aBG,c,eE,brP,eB,iR,kills,aRl,pW,eR,gi,nrm,gK,eY,h,bZ,aO6];grind [eN,GP]);rw[f];exact g _ (wc c)<|lO c
def ixI{Y e}{z:Nat}{a bA K}{i:Int}(h:bc Y e z a bA)(c:aF (L bA) i)(j:∀b,a= .m b (L bA)->box Y b=V ⟨e,z,U,I,bA⟩->K (.p b i.toNat 0)):rV (cz z Y a<|iv i) K:=by rcases h with⟨rfl,rfl⟩|⟨b,rfl,f⟩;have:=c.1;have:=c.2;grind;have g:i.toNat<L bA:=(by have:=c.1;have:=c.2;omega);simp only[cz,c.1,a7g,f,aPy,g,aPe];exact j b rfl f
def aFh{Y e z a bA R}(i:bc Y e z a bA)(h:∀t,R<|.l bA t U):aE R Y [a]:=by unfold aE jS;rcases i with⟨c,f⟩|⟨b,c,g⟩;subst c f;exact⟨rfl,h U⟩;subst c;simp only[iZ,dQ,g,a7g,gV];exact⟨rfl,h I⟩
def amA{s}{lock:Int}{u j:Nat}(h:j<L (gd s.ak lock.toNat).bk):pK s lock u (j+1)=pK s lock u j++(if gd (gd s.ak lock.toNat).bk j=u then[⟨u,-1,-1,U⟩] else[]):=by grind [pK,iJ,gd]
theorem Ln{s}{lock:Int}{u j:Nat}:L (pK s lock u j)<=j:=by grind [pK]
def amx{w s}{lock:Int}{u:Nat}(h:lock≠L w.ak->L (gd s.ak lock.toNat).bk<=100):L (bqD w s lock u)<=101:=by grind [bqD,Ln,pJ]
def a6X{α:Type}{f:Nat->List α}{c:Nat}(h:∀k,L (f k)<=c):∀n,L ((aH n).flatMap f)<=n*c
 |0=>by simp
 |n+1=>by
  have e:=a6X h n
  grind [amt]
def Q4{w s l}{lock:Int}(h:lock≠L w.ak->L (gd s.ak lock.toNat).bk<=100):∀k,L (dZ w s l lock k)<=L s.ay*101+k
 |0=>a6X (λu=>amx h) _
 |k+1=>by
  have:=Q4 (l:=l) h k
  grind [dZ,tv,oY]
def Da{Y x}:aX bu3 1 Y [(0, .a<|bp.c x)]=V (.l ([x].map bp.c) U U,Y):=ua rfl rfl rfl (by decide) rfl (by decide)
def Pw(w)(s)(l)(lock:Int)(hp:L s.ay<=4/\L l<=16/\(lock≠L w.ak->aF (L s.ak) lock/\L (gd s.ak lock.toNat).bk<=100)):Ct 172 [.a w.c, .a s.c,sl aP.c l,iv lock] (λr=>∃t,r= .l ((jE w s l lock).map bp.c) t U):=by obtain⟨ht,cc,aX⟩:=hp;have aD:=λh=>(aX h).2;refine aL1 rfl rfl λo hl b1 b2 h0=>?_;simp only[eT,b2,↓uL];have ad:∀{x y z:Int} {r:Bool},bM bu8 bqM [(0,iv x),(1,iv y),(2,iv z),(3,bv r)]=V (.a<|bp.c ⟨x,y,z,r⟩):=rfl;refine jD (α:=AV) (λa i=>[a,iv i]) 1 (L s.ay) (λk a Y'=>bc Y' 230 4 a (((aH k).flatMap<|bqD w s lock).map bp.c)/\Fx o Y' []/\∀b∈aA a,bK o b) (s0:= .l [] U U) ⟨bc.nil,Fx.refl _ _,by simp[aA]⟩ ?_;rintro k a Y1 hk ⟨g1,S,N1⟩;have b9:=S.len.trans hl;have c1:=S.kq b1;have c2:=S.kq b2;have lk:=a6X (λu=>amx (w:=w) (s:=s) (lock:=lock) (u:=u) aD) k;simp+contextual only[qz 25,au,ck,eQ,↓uL];refine⟨λh=>?_,λh=>?_⟩;have bB:=aL h;refine biR (λf=>∀v Y',bc Y' 230 4 v (((aH<|k+1).flatMap<|bqD w s lock).map bp.c)->Fx o Y' []->(∀b∈aA v,bK o b)->f [v] Y') ?_ λf hJ=>?_;intro v Y' g' F' N';simp only[qz 45,au,ck,eQ,↓uL];exact dR (mk:=λa i=>[a,iv i]) (s:=a) (s':=v) (λ_ _=>rfl) bB (by omega) ⟨g',F',N'⟩;simp only[qz 47,au,ck,eT,c1,c2,↓uL];refine⟨λE=>?_,λE=>?_⟩;have N:=aNQ E;refine biR (λJ2=>∀v Y',bc Y' 230 4 v (((aH<|k+1).flatMap<|bqD w s lock).map bp.c)->Fx o Y' []->(∀b∈aA v,bK o b)->J2 [v] Y') ?_ λJ2 B=>?_;intro v Y' g' F' N';simp only[qz 69,au,ck,eQ,↓uL];exact hJ v Y' g' F' N';simp only[qz 71,qy 6,qy 8,au,ck,eT,c2,ad,Da,↓uL];refine⟨λD=>?_,λD=>?_⟩;refine gD g1 rfl (by decide) (by omega) nC nC (by grind) λg G T O hi _=>?_;refine B g G ?_ ((S.trans O).mono<|by grind [bK.no]) (by grind [bK.old]);rw[amt,bqD,sz N,sz<|aNQ D,dg];exact T;refine B a Y1 ?_ S N1;rw[amt,bqD,sz N,r9<|bqL D,cL];exact g1;have N:lock≠L w.ak:=bqL E;have aV:=(aX N).1;refine biR (λJ2=>∀g G,bc G 230 4 g (((aH k).flatMap (bqD w s lock)++pJ s lock k).map bp.c)->Fx o G []->(∀b∈aA g,bK o b)->J2 [g] G) ?_ λJ2 key=>?_;intro g G T O N2;have d2:=O.kq b2;simp only[qz 81,au,ck,eT,d2,ix,↓uL];refine⟨aV,?_⟩;have bD:=aD N;refine jD (α:=AV) (λa i=>[a,iv i]) 1 (L (gd s.ak lock.toNat).bk) (λj a Y'=>bc Y' 230 4 a (((aH k).flatMap (bqD w s lock)++pJ s lock k++pK s lock k j).map bp.c)/\Fx o Y' []/\∀b∈aA a,bK o b) (s0:=g) (by grind [pK]) ?_;rintro j a3 Y3 hj ⟨g3,F3,N3⟩;have ca:=F3.len.trans hl;have cf:=Ln (s:=s) (lock:=lock) (u:=k) (j:=j);have ce:L (pJ s lock k)<=1:=(by grind [pJ]);simp+contextual only[qz 97,au,ck,eQ,↓uL];refine⟨λh3=>?_,λh3=>?_⟩;have R:=aL h3;refine biR (λJ3=>∀a4 H,bc H 230 4 a4 (((aH k).flatMap (bqD w s lock)++pJ s lock k++pK s lock k (j+1)).map bp.c)->Fx o H []->(∀b∈aA a4,bK o b)->J3 [a4] H) ?_ λJ3 aR=>?_;intro a4 H g4 F4 N4;simp only[qz 117,au,ck,eQ,↓uL];exact dR (mk:=λa i=>[a,iv i]) (s:=a3) (s':=a4) (λ_ _=>rfl) R (by omega) ⟨g4,F4,N4⟩;simp only[qz 119,qy 14,qy 16,au,ck,eQ,ix,rk,iF,ad,Da,bh,↓uL];refine⟨dJ R,λD=>?_,λD=>?_⟩;refine gD g3 rfl (by decide) (by omega) nC nC (by simp only[bJ,bZ,aO6,a6G];omega) λa4 H g4 F4 hi _=>?_;refine aR a4 H ?_ ((F3.trans F4).mono<|by grind [bK.no]) (by grind [bK.old]);rw[amA R,sz<|aNQ D,<-bje,dg];exact g4;refine aR a3 Y3 ?_ F3 N3;rw[amA R,r9<|bqL D,cL];exact g3;have bz:j=L (gd s.ak lock.toNat).bk:=(by grind);refine hJ a3 Y3 ?_ F3 N3;rw[amt,bqD,r9 N,<-bz,<-bje];exact g3;simp only[qz 83,qy 10,qy 12,au,ck,eT,c2,ix,ad,Da,↓uL];refine⟨aV,λD=>?_,λD=>?_⟩;refine gD g1 rfl (by decide) (by omega) nC nC (by grind) λg G T O hi _=>?_;refine key g G ?_ ((S.trans O).mono<|by grind [bK.no]) (by grind [bK.old]);rw[pJ,sz<|aNQ D,dg];exact T;refine key a Y1 ?_ S N1;rw[pJ,r9<|bqL D,cL];exact g1;have bA:k=L s.ay:=(by grind);rw[bA] at g1;refine jD (α:=AV) (λa i=>[a,iv i]) 1 (L l) (λk a Y'=>bc Y' 230 4 a ((dZ w s l lock k).map bp.c)/\Fx o Y' []/\∀b∈aA a,bK o b) (s0:=a) ⟨g1,S,N1⟩ ?_;rintro i g G b7 ⟨T,O,N2⟩;have bC:=O.len.trans hl;have cg:=Q4 (w:=w) (s:=s) (l:=l) (lock:=lock) aD i;simp+contextual only[qz 145,au,ck,eQ,↓uL];refine⟨λh2=>?_,λh2=>?_⟩;have aU:=aL h2;refine biR (λf=>∀v Y',bc Y' 230 4 v ((dZ w s l lock<|i+1).map bp.c)->Fx o Y' []->(∀b∈aA v,bK o b)->f [v] Y') ?_ λf hJ=>?_;intro v Y' g' F' N';simp only[qz 165,au,ck,eQ,↓uL];exact dR (mk:=λa i=>[a,iv i]) (s:=g) (s':=v) (λ_ _=>rfl) aU (by omega) ⟨g',F',N'⟩;simp only[qz 167,qy 18,au,ck,eQ,ix,rk,bh,↓uL];refine⟨dJ aU,?_⟩;refine I7 bC λv3 Y3 F3 N3 b3=>?_;refine cy (cs:=aP.c<|gd l i) b3 rfl rfl (by decide) λH F4 b4=>?_;have ac:box H (14,v3)=V ⟨62,7,U,U,[aP.c<|gd l i]⟩:=b4;have aQ:Fx G H []:=(F3.trans F4).mono (by grind [bK.no]);have g4:=T.fx aQ (by simp);have F:=O.trans aQ;have d1:=F.kq b1;have N4:=N3.old O;have hv:∀{Y':ae} {x:bY},bc Y' 230 4 g ((dZ w s l lock i).map bp.c)->box Y' (14,v3)=V x->x.var=U->(14,v3)∉aA g:=(by intro Y' x hg hb E;rcases hg with⟨_,rfl⟩|⟨b',rfl,h'⟩;simp[aA];grind [aA]);have cd:=hv g4 ac rfl;simp+contextual only[qz 20,eT,d1,ac,dc,fsL,ar,alY,alZ,↓uL];refine⟨.inl rfl, .inl rfl,bsf (λJ2=>J2 [iv<|lK w lock<|gd l i,iv<|mM w lock<|gd l i]) ?_ λJ2 B=>?_⟩;simp only[qz 189,au,ck,eQ,↓uL];refine biR (λJ3=>∀A,bc A 230 4 g ((tv w lock (gd l i) i<|dZ w s l lock i).map bp.c)->Fx o A []->box A (14,v3)=V ⟨62,7,U,U,[aP.c<|gd l i]⟩->J3 [] A) ?_ λJ3 aJ=>?_;intro A g5 Z b5;have cb:=Z.len.trans hl;have bD:L (tv w lock (gd l i) i<|dZ w s l lock i)=L (dZ w s l lock i):=(by grind [tv]);simp+contextual only[qz 225,qy 24,qy 26,au,ck,eT,b5,ad,Da,↓uL];refine⟨λha=>?_,λha=>?_⟩;refine gD g5 rfl (by decide) (by omega) nC nC (by simp only[bJ,bZ,aO6];omega) λa6 P g6 F6 b8 _=>?_;refine hJ a6 P ?_ ((Z.trans F6).mono<|by grind [bK.no]) (by grind [bK.old]);rw[dZ,oY,sz<|aNQ ha,dg];exact g6;refine hJ g A ?_ Z N2;rw[dZ,oY,r9<|bqL ha,cL];exact g5;simp+contextual only[qz 227,au,ck,eQ,lnI g4,bJ,↓uL];refine⟨λhr=>?_,λhr=>aJ H (by grind [tv]) F ac⟩;refine yV (L<|dZ w s l lock i) (λj _ Y'=>bc Y' 230 4 g ((((dZ w s l lock i).take j).map (ma (gd l i).aq i)++(dZ w s l lock i).drop j).map bp.c)/\Fx o Y' []/\box Y' (14,v3)=V ⟨62,7,U,U,[aP.c<|gd l i]⟩) (by simp_all) ?_;rintro j _ A hj ⟨g5,Z,b5⟩;simp+contextual only[qz 241,au,eQ,↓uL];refine⟨λh5=>?_,λh5=>aJ A ?_ Z b5⟩;have X:=aL h5;have bR:L (((dZ w s l lock i).take j).map (ma (gd l i).aq i)++(dZ w s l lock i).drop j)=L (dZ w s l lock i):=(by simp;omega);obtain⟨M,bX,bu⟩:∃M,g= .m M (L<|dZ w s l lock i)/\box A M=V ⟨230,4,U,I,(((dZ w s l lock i).take j).map (ma (gd l i).aq i)++(dZ w s l lock i).drop j).map bp.c⟩:=(by rcases g5 with⟨h',_⟩|⟨M,h',bW⟩;grind [List.map_eq_nil_iff];grind);have bg:((((dZ w s l lock i).take j).map (ma (gd l i).aq i)++(dZ w s l lock i).drop j).map bp.c)[j]?=V (bp.c<|gd (dZ w s l lock i) j):=(by rw[List.getElem?_map,List.getElem?_append_right<|by simp;omega];simp_all [bT]);have aW:cz 4 A g (iv j)=V (.p M j 0):=(by simp_all [cz]);have aE:∀{x:bp},aN J (bp.c x)=V (iv x.aq):=rfl;have aG:∀{x:bp},aN J ((bp.c x).drop 2)=V (iv x.dY):=rfl;refine biR (λJ4=>∀P,bc P 230 4 g ((((dZ w s l lock i).take j).map (ma (gd l i).aq i)++ma (gd l i).aq i (gd (dZ w s l lock i) j)::(dZ w s l lock i).drop (j+1)).map bp.c)->Fx o P []->box P (14,v3)=V ⟨62,7,U,U,[aP.c<|gd l i]⟩->J4 [] P) ?_ λJ4 aT=>?_;intro P g6 F6 b6;simp only[qz 261,au,eQ,↓uL];refine yU X ⟨?_,F6,b6⟩;have e:((dZ w s l lock i).take<|j+1).map (ma (gd l i).aq i)++(dZ w s l lock i).drop (j+1)=((dZ w s l lock i).take j).map (ma (gd l i).aq i)++ma (gd l i).aq i (gd (dZ w s l lock i) j)::(dZ w s l lock i).drop (j+1):=(by rw[iJ X,dg,bje,<-bT X];rfl);simp_all;have aZ:∀{q:Nat},Iy J A (.p M j q)=aN J ((bp.c<|gd (dZ w s l lock i) j).drop q):=(by grind [Iy,iE]);have aw:∀{q p:Nat},iQ p A (.p M j q)=V (.p M j<|q+p):=(by grind [iQ]);have aK:Q ((gd (dZ w s l lock i) j).aq=(gd l i).aq)=I\/Q ((gd (dZ w s l lock i) j).dY<0)=I->J4 [] A:=(by intro hc;refine aT A ?_ Z b5;have aC:¬((gd (dZ w s l lock i) j).aq=(gd l i).aq/\(gd (dZ w s l lock i) j).dY<0):=(by grind);rw[ma,r9 aC,bT X,<-Cw X];exact g5);rcases Bool.eq_false_or_eq_true (Q<|(gd (dZ w s l lock i) j).aq=(gd l i).aq) with af|af;simp+contextual only[qz 263,qy 22,au,ck,aW,aw,aZ,aY,aE,aG,ip,b5,eT,af,jA,qE,uO,a7c,↓uL];refine⟨λhc=>?_,λhc=>aK<|.inr hc⟩;refine wL bu bg (by simp[bp.c]) λP F6 b6=>?_;have aC:(gd (dZ w s l lock i) j).aq=(gd l i).aq/\(gd (dZ w s l lock i) j).dY<0:=(by grind);have b0:M∈aA g:=(by grind [aA]);refine aT P ?_ ((Z.trans F6).mono<|by grind [bK.no]) (F6.keep _ _ (by grind) b5);refine .inr ⟨M,?_,?_⟩;grind;rw[b6];congr 2;rw[ma,sz aC,show(bp.c<|gd (dZ w s l lock i) j).set 2 (iv i)=bp.c {gd (dZ w s l lock i) j with dY:=i} from rfl,<-List.map_set,List.set_append_right _ _<|by simp;omega];grind [gC,Cw];simp+contextual only[qz 263,qy 22,au,ck,aW,aw,aZ,aY,aE,aG,ip,b5,eT,af,jN,xM,uO,a5C,↓uL];exact⟨λh=>(nomatch h),λ_=>aK<|.inl af⟩;grind [tv];simp+contextual only[qz 191,eT,d1,ac,be8,qz 209,qz 207,au,↓uL];simp only[lK,mM] at B;refine⟨λE=>⟨λW=>⟨λC=>?_,λC=>?_⟩,λW=>⟨λC=>?_,λC=>?_⟩⟩,λE=>?_⟩;simpa only[E,W,C,a7c,a5C] using B;simpa only[E,W,C,a7c,a5C] using B;simpa only[E,W,C,a7c,a5C] using B;simpa only[E,W,C,a7c,a5C] using B;simpa only[E,a7c,a5C] using B;have bx:i=L l:=(by grind);rw[bx] at T;exact aFh T λt=>⟨t,rfl⟩
def FX:FT:=ER Pw
def azj:=axQ FX Pw
def ao6:dO:=(63,FO)::(172,FX)::ao2
def yQ:eJ ao6:=vl (aCb Pj)<|vl (aM6 Pw)<|wQ
def fsM:=ai @ay8<|ai @azj<|@fsL
def aMi{a a1 b}:=yB yQ func106 at1 [a,a1,b]
def aMj{a a1}:=yB yQ func105 at1 [a,a1]
def aMk{a a1}:=yB yQ func175 at1 [a,a1]
def au3:=kW 11 [(4,([7,13],[0,1,2,11,12])),(7,([7],[0,1,2,11,12,13]))]
def aMw{a a1 b}:=yB yQ func104 au3 [a,a1,b]
def auT:=kW 10 [(4,([25],[2,3,23,24]))]
def aMm{a}:=yB yQ func44 auT [a]
abbrev lB(ns:List aH8)(x y:Int):Int:=dP ns ⟨1,x,y⟩
abbrev lE(ns:List aH8)(x:Int):Int:=dP ns ⟨2,x,0⟩
abbrev lF(ns:List aH8)(x:Int):Int:=dP ns ⟨3,x,0⟩
def aDc{ns x}:0<=dP ns x/\dP ns x<=L ns:=by grind [dP]
def de{ns x}(c:L ns<100000):cR .neg (iv<|dP ns x)=V (iv<|-dP ns x):=by have:=aDc (ns:=ns) (x:=x);grind [aEn,eM]
def AI{α B}(mk)(p n c)(f:c<=n)(Inv){s0:α}{e}(g:Inv c s0 e)(h:∀(k) s Y,k<=n->Inv k s Y->B (yI mk n Inv) (gM p n) (mk s k) Y):lV (mk s0 c) e B:=⟨yI mk n Inv,gM p n,⟨c,s0,rfl,f,g⟩,by rintro vs Y ⟨k,s,rfl,j,i⟩;simp_all⟩
theorem aol{α:Type}{f:Nat->List α}{k}(h:∀j,j<k->f j=[]):(aH k).flatMap f=[]:=by simp_all
section
variable{Y:ae}{b:Id}{w:am}{ns:List aH8}{out:List (d0)}{n a:AV}{d:Nat}{K:be}
def kV(B:cm Y b w ns out n a)(e:L ns<100000)(x y:Int)(c:K (iv<|lB ns x y) Y):cB 106 [.p b 0 0,iv x,iv y] Y d K:=by refine aS2 rfl (aMi B.le ?_) c;simp only[qy 2];exact nc B e _ _ _ ⟨rfl,Fx.refl _ _⟩
def bj5(B:cm Y b w ns out n a)(e:L ns<100000)(x:Int)(c:K (iv<|lE ns x) Y):cB 105 [.p b 0 0,iv x] Y d K:=by refine aS2 rfl (aMj B.le ?_) c;simp only[qy 2];exact nc B e _ _ _ ⟨rfl,Fx.refl _ _⟩
def zS(B:cm Y b w ns out n a)(e:L ns<100000)(x:Int)(c:K (iv<|lF ns x) Y):cB 175 [.p b 0 0,iv x] Y d K:=by refine aS2 rfl (aMk B.le ?_) c;simp only[qy 2];exact nc B e _ _ _ ⟨rfl,Fx.refl _ _⟩
def nG(ns l:List aH8)(y x:Int):d0:=(l.filter λv=>Q (v.b=y)&&Q (v.a≠x)).map<|dP ns
theorem aMW{ns l}{y x:Int}{k:Nat}(h:k<L l):nG ns (l.take<|k+1) y x=nG ns (l.take k) y x++(if(gd l k).b=y/\(gd l k).a≠x then[dP ns<|gd l k] else[]):=by grind [iJ,nG,bT]
def fF{l:d0}:∀r∈l.map ci,L r=1:=by simp
theorem aCQ(B:cm Y b w ns out n a)(G:L ns<100000)(y x:Int):∃r e,(bc e 3 1 r ((nG ns (aR ns 5) y x).map ci)/\Fx Y e []/\∀b∈aA r,bK Y b)/\cZ aS GG 104 [.p b 0 0,iv y,iv x] Y r e:=by refine aMw B.le ?_;refine De B G 5 λt=>?_;have D:L (aR ns 5)<=L ns:=fZ _ _;generalize aR ns 5=l at D;simp only[qz 2,gT,u0];refine jD (α:=AV) (λa i=>[a,iv i]) 1 (L l) (λk r Y'=>bc Y' 3 1 r ((nG ns (l.take k) y x).map ci)/\Fx Y Y' []/\∀b∈aA r,bK Y b) (s0:= .l [] U U) ⟨bc.nil,Fx.refl _ _,by simp[aA]⟩ ?_;rintro k r e S ⟨g1,m,q⟩;have E:=m.len.trans B.le;simp+contextual only[qz 25,au,eQ,qz 47,qy 4,lX,rk,bh];refine⟨λh=>⟨vp h,?_⟩,λh=>?_⟩;refine I7 E λv X H W O=>?_;refine cy (cs:=aH8.c<|gd l k) O rfl rfl (by decide) λo M P=>?_;have u:box o _=V ⟨107,3,U,U,[aH8.c<|gd l k]⟩:=P;have g:Fx e o []:=(H.trans M).mono (by grind [bK.no]);have F:Fx Y o []:=m.trans g;have z:=g1.fx g (by simp);have j:=aMW (ns:=ns) (y:=y) (x:=x)<|aL h;simp+contextual only[qz 6,eT,u];refine⟨λf=>?_,λf=>?_⟩;refine nc (B.kp F) G _ _ _ ?_;simp only[qz 8,qy 10,qy 12,au,a5Y,bQ];have T:L (nG ns (l.take k) y x)<=k:=(by grind [nG]);refine gD z rfl (by decide) (by rw[F.len,B.le];decide) fF fF (by grind) λa4 Z R N hi _=>?_;simp only[qz 45,au,eQ];refine dR (mk:=λa i=>[a,iv i]) (s:=r) (λ_ _=>rfl) (aL h) (by omega) ⟨?_,(F.trans N).mono (by grind [bK.no]),λk S=>?_⟩;simp only[bN,aBY] at f;rw[j,sz f,dg];exact R;grind [bK.old];simp only[qz 45,au,eQ];refine dR (mk:=λa i=>[a,iv i]) (s:=r) (λ_ _=>rfl) (aL h) (by omega) ⟨?_,F,q⟩;have C:¬((gd l k).b=y/\(gd l k).a≠x):=(by intro A;simp[A.1,A.2] at f);rw[j,r9 C,cL];exact z;rw[oB<|bw h] at g1;exact⟨g1,m,q⟩
def Ks(B:cm Y b w ns out n a)(e:L ns<100000)(y x:Int)(c:∀t,K (.l ((nG ns (aR ns 5) y x).map ci) t U) Y):cB 104 [.p b 0 0,iv y,iv x] Y d K:=xC rfl (aCQ B e y x) c
def lL(ns:List aH8):List bqR:=(aR ns 1).map λx=>⟨x.a,x.b,-1⟩
theorem am4(B:cm Y b w ns out n a)(hn:L ns<100000):∃r j,(∃a1,r= .a [iv<|L w.ac,iv<|L ns,a1,a]/\bc j 86 3 a1 ((lL ns).map bqR.c)/\bc j 38 1 a (out.map λc=>[sl ci c])/\Fx Y j [])/\cZ aS GG 44 [.p b 0 0] Y r j:=by
 refine aMm B.le ?_
 refine I7 B.le λv1 j F1 N1 b1=>?_
 have P:=B.kp F1
 have bx:=P.bx
 obtain⟨t,o,rfl⟩:=B.nm
 simp only[qz 2,qy 4,aOe bx,eS,bx,rkB,gT]
 have an:bM bud bqM [(0,iv<|L w.ac),(1,iv<|L ns),(3,a)]=V (.a [iv<|L w.ac,iv<|L ns, .l [] U U,a]):=by
  simp[bM,aly,ms B.gr,zU]
 simp only[an,u0]
 refine I7 P.le λv2 Y2 F2 N2 b2=>?_
 refine cy (cs:=[iv<|L w.ac,iv<|L ns, .l [] U U,a]) b2 rfl rfl (by decide) λT F3 b3=>?_
 have m:Fx j T []:=(F2.trans F3).mono (by grind [bK.no])
 have B3:=P.kp m
 have M:=m.kq b1
 simp only[qz 6]
 refine dT ?_ ?_
 ·obtain⟨M,aV⟩:=b
  have:=B.sb
  simp only at this
  subst this
  rcases B.gr with⟨_,rfl⟩|⟨⟨d',v'⟩,rfl,_⟩
  ·rfl
  ·have:=B.sa (d',v') (by simp[aA])
   simp only at this
   subst this
   rfl
 refine De B3 hn 1 λt'=>?_
 have ap:L (aR ns 1)<=L ns:=fZ _ _
 unfold lL
 generalize aR ns 1=l at ap
 simp only[qz 8,gT,u0]
 refine yV (L l) (λk _ Y'=>∃a1,box Y' (3,v2)=V ⟨54,4,U,U,[[iv<|L w.ac,iv<|L ns,a1,a]]⟩/\bc Y' 86 3 a1 (((l.take k).map λx=>(⟨x.a,x.b,-1⟩:bqR)).map bqR.c)/\cm Y' b w ns out (.l (ns.map aH8.c) t o) a/\(∃z,box Y' (2,v1)=V ⟨54,4,U,U,[z]⟩/\L z=4)/\Fx T Y' [(3,v2)]/\∀q∈aA a1,bK T q) ⟨_,b3,bc.nil,B3,⟨_,M,rfl⟩,Fx.refl _ _,by simp[aA]⟩ ?_
 rintro k _ Y4 g ⟨a1,m2,g1,R,⟨z,m1,hz⟩,H,P1⟩
 simp+contextual only[qz 25,qy 10,qy 20,au,eQ,lX,rk,bh]
 have O:∀{x y x2 G:AV},aN (V 4) [x,y,x2,G]=V (.a [x,y,x2,G]):=rfl
 refine⟨λh=>⟨vp h,?_⟩,λh=>?_⟩
 ·refine I7 R.le λv5 Y5 s N5 b5=>?_
  refine cy (cs:=aH8.c<|gd l k) b5 rfl rfl (by decide) λu F6 b6=>?_
  have ak:box u (5,v5)=V ⟨107,3,U,U,[aH8.c<|gd l k]⟩:=b6
  have f:Fx Y4 u []:=(s.trans F6).mono (by grind [bK.no])
  have A:=f.kq m2
  have N:=f.kq m1
  have W:=g1.fx f (by simp)
  have S:=R.kp f
  have ar:∀{x y x2 G:AV},aN J ([x,y,x2,G].drop 2)=V x2:=rfl
  have X:bM bue aM7 [(0,iv (gd l k).a),(1,iv (gd l k).b),(2,iv<|-1)]=V (.a<|bqR.c ⟨(gd l k).a,(gd l k).b,-1⟩):=rfl
  have ao:aX bt6 1 u [(0, .a<|bqR.c ⟨(gd l k).a,(gd l k).b,-1⟩)]=V (.l ([(⟨(gd l k).a,(gd l k).b,-1⟩:bqR)].map bqR.c) U U,u):=ua rfl rfl rfl (by decide) rfl (by decide)
  simp only[qz 12,qy 14,eT,ak,A,ar,X,ao]
  have i:∀{l:List bqR},∀r∈l.map bqR.c,L r=3:=by
   intro l r hr;obtain⟨x,_,rfl⟩:=dN.1 hr;rfl
  refine gD W rfl (by decide) (by rw[S.le];decide) i i (by grind [gC]) λa7 Y7 g7 D aW _=>?_
  have v:∀{c:Id} {x:bY},box u c=V x->x.var=U->c∉aA a1:=by
   intro c x hc hx
   rcases W with⟨_,rfl⟩|⟨b',rfl,h'⟩
   ·simp[aA]
   grind [aA]
  have C:=D.keep _ _ (v A rfl) A
  have Z:=D.keep _ _ (v N rfl) N
  simp only[qz 16,eS,C]
  refine cy (cs:=[a7]) C (ms g7) rfl (by simp) λY8 E b8=>?_
  simp only[qz 18,au,eQ]
  have aZ:∀k∈aA a1,k∉aA a:=by
   intro k g aY
   rcases W with⟨_,rfl⟩|⟨b',rfl,h'⟩
   ·simp[aA] at g
   ·simp only[aA,cE] at g
    grind [cm.nv]
  have B8:cm Y8 b w ns out (.l (ns.map aH8.c) t o) a:=by
   refine(S.fx D ?_<|by grind).fx E ?_ ?_
   ·exact v S.bx rfl
   ·grind [cm.sb]
   ·intro k g e
    grind [cm.sa]
  have g8:=g7.fx E (by
   grind)
  refine yU (aL h) ⟨a7,b8,?_,B8,⟨z,E.kq Z,hz⟩,(((H.trans f).trans D).trans E).mono λq F=>?_,λq F=>?_⟩
  rotate_left
  ·simp only[cL,dF,cE] at F
   grind [bK.no]
  ·grind [bK.old]
  rw[iJ<|aL h,dg,dg,<-bT (aL h)]
  exact g8
 ·simp only[m2,eQ,O]
  refine cy (cs:=[iv<|L w.ac,iv<|L ns,a1,a]) m1 rfl rfl (by omega) λY5 s b5=>?_
  have ah:box Y5 (2,v1)=V ⟨54,4,U,U,[[iv<|L w.ac,iv<|L ns,a1,a]]⟩:=by
   simp_all
  simp only[ah,eQ,O,aNR,aoz]
  rw[oB<|bw h] at g1
  refine⟨a1,rfl,g1.fx s ?_,R.gr.fx s ?_,(((F1.trans m).trans H).trans s).mono λq F=>?_⟩
  rotate_left 2
  ·simp only[dW,dF,cE] at F
   grind [bK.no,bK.old]
  ·intro k g e
   simp only[cE] at e
   subst e
   rcases g1 with⟨_,rfl⟩|⟨b',rfl,h'⟩
   ·simp[aA] at g
   grind [aA]
  ·intro k g e
   grind [cm.sa]
end
def ao7:dO:=ao6
def Bt:eJ ao7:=yQ
def fsN:=@fsM
def au2:=kW 32 [(3,([16],[0,2,15])),(9,([4],[0,2,3,15,16])),(15,([41],[0,2,40])),(18,([],[0,2,40,41])),(24,([69],[0,68])),(27,([],[0,68,69]))]
def aMv{a}:=yB Bt func96 au2 [a]
def auS:=kW 7 []
def aMl{d b c}:=yB2 230 4 4 230 4 5 Bt func173 auS b c [d, .a b, .a c]
def aMq{a a1}:=yB Bt func101 aur [a,a1]
end Go.Ab
