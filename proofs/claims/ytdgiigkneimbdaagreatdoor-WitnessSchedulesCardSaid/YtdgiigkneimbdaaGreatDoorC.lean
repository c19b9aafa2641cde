/- Part of the proof of WitnessSchedules. -/
import Derived.Test.YtdgiigkneimbdaaGreatDoorB
import Derived.Test.YtdgiigkneimbdaaGreatDoorChecked
import Derived.Lib.LazyBuf
import Derived.Laws.Strings
import Derived.Laws.RangeString
import Derived.Laws.RangeAny
set_option linter.all false
set_option maxRecDepth 100000
open And renaming intro->ai
open Array renaming toList_inj->qb
open Bool renaming and_assoc->BI,and_eq_false_iff->bik,and_eq_true->bN,and_false->qc,false->I,false_and->kM,false_eq_true->eE,not_eq_false'->fK,not_eq_true'->eH,not_false->kN,not_true->fh,or_assoc->yZ,or_eq_false_iff->cP,or_eq_true->fH,true->U,true_and->iw
open ByteArray renaming ext->aqv
open Decidable renaming decide->Q,not_not->aNS
open Eq renaming mpr->aND
open Go.IntKind renaming i64->dq
open Go.Proofs.Tryz renaming prog->aS
open Int renaming not_lt->aqC,ofNat_inj->aqD,toNat_natCast->bh,toNat_zero->Gx
open List renaming all_eq_true->dV,any_cons->Cu,any_eq_false->bnI,any_eq_true->tL,any_nil->Cv,append_assoc->bje,append_inj->aqH,append_nil->cL,cons.injEq->kO,drop->aOz,drop_length->Gz,findIdx?_eq_none_iff->GB,findIdx?_eq_some_iff_getElem->RL,flatMap_append->GC,flatMap_cons->Cz,foldl_append->RO,foldl_nil->aRl,getD_cons_zero->RQ,getD_eq_getElem?_getD->btc,getElem?_cons_zero->qh,getElem?_eq_getElem->eC,getElem?_set_ne->oq,getElem_of_mem->ou,length->L,length_append->a6G,length_cons->bZ,length_filter_le->fZ,length_map->bJ,length_nil->bhZ,map_append->dg,map_congr_left->ja,map_cons->ji,map_drop->GK,map_id->brw,map_nil->mU,map_take->bkj,mem_map->dN,mem_or_eq_of_mem_set->CC,mem_singleton->cE,nil_append->dW,range->aH,range_succ->qn,replicate->er,set_eq_take_append_cons_drop->GP,take_length->gV,take_of_length_le->oB,take_succ_eq_append_getElem->iJ,take_zero->CE
open Nat renaming beq->aOU,eq_zero_or_pos->oD,le_refl->dA,le_trans->gl,lt_of_le_of_lt->rC,lt_of_lt_of_le->bpL,lt_or_ge->jj,not_lt->aYE,reduceAdd->dc,zero_add->aj,zero_le->mh
open Ne renaming symm->Sa
open Option renaming bind_some->a6X,getD_none->sD,getD_some->mi,isSome_iff_exists->zz,map->Sb,map_some->df,none->J,some->V
namespace Go.Ab
open Go Go.RowKit Go.Proofs Go.Proofs.Tryz
def aB1:eP:=[8,15,30,38,39,58,59,69,70,87,88,89,90,91,92,93,94,95,96,98,119,120,121,123,128,131,145,154,155,156,157,158,159,160,161,162,163,164,165,167,172,201,202,203,208,209,212,231,232,235,236,237,240,241,242,243,244,245,246,247,248,249,265,266,271,273,274,275,280,281,291,292,297,298,299,300,301,302,303,306,307,308,322]
def uQ:eP:=[39,90,92,94,95,145,157,158,163,164,165,167,235,240,243,244,246,247,281,301,306,322]
def nws:eP:=[47,166,187,188,230,233,234,256]
def ik:List ByteArray:=[⟨#[118,97,114]⟩,⟨#[118,111,108,97,116,105,108,101]⟩,⟨#[109,117,116,101,120]⟩,⟨#[114,119,108,111,99,107]⟩,⟨#[99,111,110,100]⟩,⟨#[102,117,116,117,114,101]⟩,⟨#[116,104,114,101,97,100]⟩,⟨#[105,102]⟩,⟨#[101,108,115,101]⟩,⟨#[119,104,105,108,101]⟩,⟨#[108,111,99,107]⟩,⟨#[114,101,97,100]⟩,⟨#[119,114,105,116,101]⟩,⟨#[116,114,97,110,115,97,99,116,105,111,110]⟩,⟨#[97,116,111,109,105,99]⟩,⟨#[119,97,105,116]⟩,⟨#[110,111,116,105,102,121]⟩,⟨#[110,111,116,105,102,121,97,108,108]⟩,⟨#[115,112,97,119,110]⟩,⟨#[106,111,105,110]⟩,⟨#[115,101,116]⟩,⟨#[103,101,116]⟩]
abbrev pI:dM:=ik.map λs=> .s<|.string s
def GG:Env:=⟨λk=>match k with|0=>V pI|_=>J,λf=>aB1.elem f,λf=>uQ.elem f,λf=>nws.elem f,I,λ_=>J⟩
def fps:List (Nat×eP):=[(119,[14,15,16]),(123,[]),(128,[10,14,41]),(212,[14,15,16,30]),(291,[12,31])]
def GGV:Env:=⟨GG.glob,GG.imp,GG.rd,GG.nw,U,λf=>fps.lookup f⟩
def aQ9{T:dO}(h:pq aS GG T):pq aS GGV T:=h
def aTc{fn:FuncId}{xs:dM}{Y:ae}{R:AV->ae->Prop}(h:∃r a,R r a/\cZ aS GGV fn xs Y r a):∃r a,R r a/\cZ aS GG fn xs Y r a:=h
def fnV{fn:FuncId}{xs:dM}{R:AV->Prop}(h:Fn aS GGV fn xs R):Fn aS GG fn xs R:=h
def a7c{p:Prop}(h:p:=by kernel_rfl):p:=h
def ready:tQ aS:=⟨a7c,Tryz.co.funcs,a7c⟩
abbrev cX(fn:FuncId):FT:=jz aS GG fn
def cB(fn:FuncId)(xs:dM)(Y:ae)(d:Nat)(K:AV->ae->Prop):Prop:=tR aS GG fn xs Y d K
def cV(fn:FuncId)(xs:dM)(Y:ae)(d:Nat)(K:AV->ae->Prop):Prop:=tR aS GGV fn xs Y d K
def cN(fn:FuncId)(xs:dM)(Y:ae)(d:Nat)(K:AV->ae->Prop):Prop:=tS aS GG fn xs Y d K
def cF(f:AV)(xs:dM)(Y:ae)(d:Nat)(K:AV->ae->Prop):Prop:=btX aS GG f xs Y d K
abbrev Ct(fn:Nat)(xs:dM)(R:AV->Prop):Prop:=Fn aS GG fn xs R
abbrev eJ(T:dO):Prop:=pq aS GG T
def nX{fn:Nat}{ys:dM}{R K:AV->Prop}(h:Ct fn ys R)(d:ys.all iX=U)(e:∀r,R r->K r):jz aS GG fn ys K:=by obtain⟨r,a,b,c⟩:=h;exact⟨r,c,d,b,e r a⟩
def asq{fn:Nat}{F:FT}{T:dO}(b:∀ys K,F ys K->jz aS GG fn ys K)(c:eJ T):eJ ((fn,F)::T):=by intro p a;obtain rfl|a:=List.mem_cons.1 a;exact b;exact c p a
def wO:pq aS GG []:=λp h=>by cases h
def nU(f:Func):Code:=match f.body with|some (.seq _<|.seq _ t)=>t|_=> .skip
abbrev xE(a:AV):dM:=[a, .u, .l [] U U,a, .s<|.bool I, .u, .u, .u]
def DX{fn f xa xb j an}(C:aS.funcs[fn]?=V f)(q:f.body=V (.seq xa<|.seq xb j))(hn:(f.name== "runtime.NumGoroutine")=I)(N:∀n c w (R),R (.returned<|.slice J 0 0) w->Calls aS fn #[.slice J n c] w R)(z:∀d n c w (R),(nU f).wp aS (bodyPost aS f R) {tmps:=#[.slice (V d) n c,undef, .slice J 0 0, .slice (V d) n c, .bool I,undef,undef,undef],defers:=[]} w->Calls aS fn #[.slice (V d) n c] w R)(hd:(gG<|nU f).all (λk=>Nat.blt k 8)=U)(M:oG an (nU f) 0=U){bA R}(G:Zq aS GG [] an (nU f) 0 (tO aS f R) (gt<|xE<|.l bA I I) eK)(h0:∀r m,R r m->bA=[]->r= .l [] U U/\m=eK):∃r m,R r m/\cZ aS GG fn [.l bA I I] eK r m:=by have P:nU f=j:=(by rw[nU,q]);simp only[P] at z hd M G;have S:=(ready.code C q).1.2.2;have hg:oI j=U:=(by have:=(ready.code C q).2;grind [oI]);have K:=Kj (T:=[]) wO j 0 _ vB M G;obtain⟨e,τ',Y',b,a⟩:=Kf j K;obtain⟨_,_,_,t⟩:=b;have:∃r,wG aS f τ' Y'=V r/\R r Y'/\(e= .normal\/e= .ret):=(by(cases e<;>simp only[tO] at t<;>first|exact t.elim|skip);obtain⟨vs,p,h⟩:=Ep _ _ t;exact⟨_,QU p,h, .inl A⟩;obtain⟨vs,p,h⟩:=Ep _ _ t;exact⟨_,QU p,h, .inr A⟩);obtain⟨r,p,h,k4⟩:=this;refine⟨r,Y',h,⟨f,_,C,q,hn⟩,λκ w β E hs hG W=>?_⟩;obtain⟨v,rfl⟩:∃v,E=[v]:=List.length_eq_one_iff.1 W.1;have D:=W.2 0 v _ A rfl;have B:∀d n c,v= .slice (V d) n c->Calls aS fn #[v] w λe y=>∃v g,e= .returned v/\ba κ y Y' g v r/\zw aS κ y Y' g/\dw w eK β y Y' g:=(by rintro d n c rfl;refine z d n c w _ ?_;have F:jG aS GG κ {tmps:=#[.slice (V d) n c,undef, .slice J 0 0, .slice (V d) n c, .bool I,undef,undef,undef],defers:=[]} w (xE<|.l bA I I) eK β:=(by refine⟨A,⟨A,λi v x b a=>?_⟩,hs,hG⟩;have ag:ba κ w eK β (.slice J 0 0) (.l [] U U):= .l0 λ_=>A;match i,b,a with|0,b,a=>grind|1,b,a=>(cases a;exact .u)|2,b,a=>grind|3,b,a=>grind|4,b,a=>(cases b;cases a;exact .s A)|5,b,a=>(cases a;exact .u)|6,b,a=>(cases a;exact .u)|7,b,a=>(cases a;exact .u)|i+8,b,a=>cases a);refine wp_mono (Kg ready.mixed j S hg _ F a) ?_;rintro e' a' y ⟨_,_,g,⟨rfl,rfl,rfl⟩,o,he⟩;obtain⟨v,q1,q2⟩:=aoi o p;obtain rfl|rfl:=k4<;>exact⟨o.defers,v,q1,v,g,A,q2,o.sim,he⟩);show Calls aS fn #[v] w _;cases D with|@l0 d c _ _ ht=>(cases d with|none=>obtain⟨rfl,rfl⟩:=h0 _ _ h rfl;refine N 0 c w _ ⟨_,β,rfl, .l0 λ_=>rfl,hs,dw.refl _ _ _⟩|some d=>grind)|l1=>grind

abbrev J3:=AV->Prop
abbrev be:=AV->ae->Prop
abbrev bu:=dM->ae->Nat
abbrev aG:=dM->ae->Prop
def I9(n:Nat)(l:List<|Nat×(eP×eP)):List (Option<|eP×eP):=(aH n).map λi=>l.lookup i
section congr
@[congr] theorem aNy{o o'}{K}(h:o=o'):rV o K=rV o' K:=by rw[h]
@[congr] theorem aNo{o o'}{K}(h:o=o'):eV o K=eV o' K:=by rw[h]
@[congr] theorem aNz{o o'}{K}(h:o=o'):sV o K=sV o' K:=by rw[h]
@[congr] theorem aNv{c b}{a B}(h:c=b):ah c a B=ah b a B:=by rw[h]
@[congr] theorem aNu{w b}{a}{K}(h:w=b):gR w a K=gR b a K:=by rw[h]
@[congr] theorem aNs{w b}{a}{Y}{K}(h:w=b):gE w a Y K=gE b a Y K:=by rw[h]
def gB(b:Bool)(a:(AV->Prop)->Prop)(K:AV->Prop):Prop:=bif b then a K else K<|.t []
def gF(b:Bool)(a:(AV->ae->Prop)->Prop)(Y:ae)(K:AV->ae->Prop):Prop:=bif b then a K else K (.t []) Y
@[congr] theorem aNr{b d}{c a}{K}(h:b=d)(e:d=U->∀k,c k=a k):gB b c K=gB d a K:=by subst h;cases b with|true=>show c K=a K;exact e A K|false=>rfl
@[congr] theorem aNt{b d}{c a}{Y}{K}(h:b=d)(e:d=U->∀k,c k=a k):gF b c Y K=gF d a Y K:=by subst h;cases b with|true=>show c K=a K;exact e A K|false=>rfl
@[congr] theorem aNp{F}{xs a}{Y}{K}(h:xs=a):fV F Y xs K=fV F Y a K:=by rw[h]
@[congr] theorem aNq{F}{ys a}{Lw K}(h:ys=a):fW F ys Lw K=fW F a Lw K:=by rw[h]
@[congr] theorem aNw{v v'}{B}(h:v=v'):lR v B=lR v' B:=by rw[h]
@[congr] theorem aNx{v v'}{Y}{B}(h:v=v'):lV v Y B=lV v' Y B:=by rw[h]
end congr
def gv(b:Bool)(v:AV):AV:=bif b then v else .t []
def gd{α:Type}[Inhabited α](l:List α)(k:Nat):α:=l.getD k default
def aF(n:Nat)(i:Int):Prop:=0<=i/\i<n
def sl{α:Type}(f:α->dM)(l:List α):AV:= .l (l.map f) I I
abbrev ci(n:Int):dM:=[iv n]
abbrev cb(b:Bool):dM:=[bv b]
abbrev st(s:ByteArray):AV:= .s<|.string s
abbrev cs(s:ByteArray):dM:=[st s]
section rules
variable{K:AV->Prop}{Y:ae}
theorem aY{v}:rV (V v) K=K v:=rfl
def bQ{v Y K}:eV (V (v,Y)) K=K v Y:=rfl
def aoq{Y K}:sV (V Y) K=K Y:=rfl
theorem iS{b a B}:ah (bv b) a B=((b=U->a)/\(b=I->B)):=by grind [ah]
def iC{a B}:ah (bv U) a B=a:=by simp[ah]
def iB{a B}:ah (bv I) a B=B:=by simp[ah]
theorem sw{b c}{a:dM->Prop}:ah (bv b) (a [bv b]) (a [bv c])=a [bv<|b||c]:=by grind [ah]
def aM2{b}:gP U (bv b)=V b:=by cases b<;>rfl
def aMZ{b}:gP I (bv b)=V (!b):=by cases b<;>rfl
def aM3{w}:gP w (.t [])=V I:=rfl
def aM1{b c}:gP U (gv b<|bv c)=V (b&&c):=by cases b<;>cases c<;>rfl
def aM0{b c}:gP I (gv b<|bv c)=V (b&&!c):=by cases b<;>cases c<;>rfl
def aBA{b a}:gR (V b) a K=gB b a K:=by cases b<;>rfl
def aBy{b a K}:gE (V b) a Y K=gF b a Y K:=by cases b<;>rfl
def aBv{b c a}:gB (b&&c) a K=gB b (λk=>gB c a k) K:=by cases b<;>cases c<;>rfl
def aBw{b v}:gB b (λk=>k v) K=K (gv b v):=by cases b<;>rfl
theorem aBx{b S v}:gB b (λk=>S/\k v) K=((b=U->S)/\K (gv b v)):=by grind [gB,gv]
def jA{a}:gB U a K=a K:=rfl
def jN{a}:gB I a K=K (.t []):=rfl
def aBL{b c v}:gv b (gv c v)=gv (b&&c) v:=by cases b<;>rfl
def qE{v}:gv U v=v:=rfl
def xM{v}:gv I v= .t []:=rfl
def aE3{c a b}:mL (bv c) (bv a) (bv b)=V (bv<|bif c then a else b):=by cases c<;>rfl
def uO{c a b}:mL (bv c) a b=V (bif c then a else b):=by cases c<;>rfl
def aE2{c a b}:mL (bv c) (gv c<|bv a) (bv b)=V (bv<|bif c then a else b):=by cases c<;>rfl
def aE4{c a b}:mL (bv c) (bv a) (gv (!c)<|bv b)=V (bv<|bif c then a else b):=by cases c<;>rfl
def awq{c a}:(bif c then a else I)=(c&&a):=O
def awr{c a}:(bif c then U else a)=(c||a):=O
def av4{a b:Int}:bc4 .lss 0 [] (iv a) (iv b)=V (bv<|Q<|a<b):=rfl
def av2{a b:Int}:bc4 .leq 0 [] (iv a) (iv b)=V (bv<|Q<|a<=b):=rfl
def av1{a b:Int}:bc4 .gtr 0 [] (iv a) (iv b)=V (bv<|Q<|b<a):=rfl
def avY{a b:Int}:bc4 .geq 0 [] (iv a) (iv b)=V (bv<|Q<|b<=a):=rfl
def iM{a b:Int}:bc4 .eql 0 [] (iv a) (iv b)=V (bv<|Q<|a=b):=rfl
def av6{a b:Int}:bc4 .neq 0 [] (iv a) (iv b)=V (bv<|Q<|a≠b):=by show V (bv<|a !=b)=_;congr 3;by_cases h:a=b<;>simp[h]
def cS{a b:Int}:bc4 .add 0 [] (iv a) (iv b)=V (iv<|dq.wrap<|a+b):=rfl
def alr{a b:Int}:bc4 .sub 0 [] (iv a) (iv b)=V (iv<|dq.wrap<|a-b):=rfl
def av5{a b:Int}:bc4 .mul 0 [] (iv a) (iv b)=V (iv<|dq.wrap<|a*b):=rfl
def avU{a b:Bool}:bc4 .eql 1 [] (bv a) (bv b)=V (bv<|a==b):=rfl
def avV{a b:Bool}:bc4 .neq 1 [] (bv a) (bv b)=V (bv<|!(a==b)):=rfl
def alq{a b:ByteArray}:bc4 .eql 0 [] (st a) (st b)=V (bv<|Q<|a=b):=by show V (bv<|a.toList==b.toList)=_;congr 3;by_cases h:a=b;subst h;simp;have:a.toList≠b.toList:=λe=>h (aqv<|by rw[ByteArray.toList_eq,ByteArray.toList_eq,qb] at e;exact e);simp[h,this]
def aIN{b}:cR .not (bv b)=V (bv<|!b):=rfl
def aS6{n k}:sO (V .i64) (.s<|.int k n)=V (iv<|dq.wrap n):=rfl
def aXT{a b}:AO .min (iv a) (iv b)=V (iv<|if b<a then b else a):=rfl
def aRW{a b}:AO .max (iv a) (iv b)=V (iv<|if b>a then b else a):=rfl
def bdM{bA t o}:fS Y (.l bA t o)=V (iv<|L bA):=rfl
def cT{α f}{l:List α}:fS Y (sl f l)=V (iv<|L l):=by simp[fS,sl]
theorem aBz{α}[Inhabited α]{f}{l:List α}{z:Nat}{i:Int}(a:∀x,L (f x)=z):rV (cz z Y (sl f l)<|iv i) K=(aF (L l) i/\K (.q<|f<|gd l i.toNat)):=by grind [aF,cz,sl,rV,gd]
def qM{c cs}:sA J Y (.q (c::cs))=V c:=rfl
def azQ{cs n}:iQ n Y (.q cs)=V (.q<|cs.drop n):=rfl
def jM{F xs K}:fV F Y xs K=fW F (xs.map<|dG Y) (lo Y xs) K:=rfl
def jt:([]:dM).map (dG Y)=[]:=rfl
def kU{x xs}:(x::xs).map (dG Y)=dG Y x::xs.map (dG Y):=rfl
def tW{v}:dG Y (.s v)= .s v:=rfl
def alg{α f}{l:List α}:dG Y (sl f l)=sl f l:=rfl
def CV{α f}{l:List α}{t o}:dG Y (.l (l.map f) t o)=sl f l:=rfl
def AL{xs v}:lo Y xs (.s v)=True:=by simp[lo,uN,btE,wD]
def Ql{xs}{l:eu}{t}:lo Y xs (.l (l.map ci) t U)=True:=by simp[lo,uN,btE,wD,gY]
def QQ{bA o}{Q:AV->Prop}:(∀r,(∃t,r=AV.l bA t o)->Q r)=∀t,Q (.l bA t o):=O
def gT{α:Type}{f}{l:List α}{t o}:fS Y (.l (l.map f) t o)=V (iv<|L l):=by simp[fS]
def bvI{p:Prop}(h:p:=by simp[Go.Ab.aE,Go.Ab.jS,Go.Ab.iZ,Go.Ab.dQ,Go.Ab.kG,Go.Ab.pF,Go.Ab.nj]):p:=h
def uR{R b}:aE R Y [bv b]=R (bv b):=bvI
def aFi{R n}:aE R Y [iv n]=R (iv n):=bvI
def aI{p:Prop}:(∀_:Rg,p)=p:=O
end rules
section
def gz0{a l}:gt (a::l) 0=a:=rfl
def gz1{a b l}:gt (a::b::l) 1=b:=rfl
def u0:=ai @gz0<|ai @gz1<|ai @aY<|ai @bQ<|ai @iS<|ai @aM2<|ai @aMZ<|ai @aM3<|ai @aM1<|ai @aM0<|ai @aBA<|ai @aBy<|ai @aBv<|ai @aBw<|ai @aBx<|ai @aBL<|ai @qE<|ai @xM<|ai @aE2<|ai @aE4<|ai @aE3<|ai @awq<|ai @awr<|ai @kN<|ai @fh<|ai @Bool.and_true<|ai @iw<|@BI
end
def aB(i:Nat)(s:ae)(p:AV)(k:AV->Prop):Prop:=rV (iQ i s p) k
def aM(s:ae)(t:AV)(k:AV->Prop):Prop:=rV (sA J s t) k
def aw(i:Nat)(s:ae)(t:AV)(k:AV->Prop):Prop:=rV (sA (V i) s t) k
def aO(o:BinOp)(a b:AV)(k:AV->Prop):Prop:=rV (bc4 o 0 [] a b) k
def QbE(a b:AV)(k:AV->Prop):Prop:=rV (bc4 .eql 0 [] a b) k
def aU(a b:AV)(k:AV->Prop):Prop:=rV (bc4 .lss 0 [] a b) k
def aV(a b:AV)(k:AV->Prop):Prop:=rV (bc4 .add 0 [] a b) k
def ao(z:Nat)(s:ae)(a i:AV)(k:AV->Prop):Prop:=rV (cz z s a i) k
def aJ(s:ae)(a:AV)(k:AV->Prop):Prop:=rV (fS s a) k
def aD(c a b:AV)(k:AV->Prop):Prop:=rV (mL c a b) k
def Qun(a:AV)(k:AV->Prop):Prop:=rV (cR .not a) k
def Qct(t e:AV)(k:AV->Prop):Prop:=gR (gP U t) (λg=>g e) k
def bX(t e:AV)(k:AV->Prop):Prop:=gR (gP I t) (λg=>g e) k
def Qot(t:AV)(f:(AV->Prop)->Prop)(k:AV->Prop):Prop:=gR (gP U t) (λg=>f λv=>g v) k
def aC(t:AV)(f:(AV->Prop)->Prop)(k:AV->Prop):Prop:=gR (gP I t) (λg=>f λv=>g v) k
def Qfl(i:Nat)(s:ae)(p:AV)(k:AV->Prop):Prop:=rV (iQ i s p) λt=>rV (sA J s t) k
def aT(d:AV)(i:Nat)(s:ae)(p:AV)(k:AV->Prop):Prop:=gR (gP U d) (λg=>rV (iQ i s p) λt=>g t) λt=>gR (gP U d) (λg=>rV (sA J s t) λv=>g v) k
def Qlf(d:AV)(i:Nat)(s:ae)(p:AV)(k:AV->Prop):Prop:=gR (gP I d) (λg=>rV (iQ i s p) λt=>g t) λt=>gR (gP I d) (λg=>rV (sA J s t) λv=>g v) k
def a8b{i s p k}:aB i s p k=(rV (iQ i s p) k):=rfl
def arq{s t k}:aM s t k=(rV (sA J s t) k):=rfl
def art{i s t k}:aw i s t k=(rV (sA (V i) s t) k):=rfl
def ark{o a b k}:aO o a b k=(rV (bc4 o 0 [] a b) k):=rfl
def ari{a b k}:QbE a b k=(rV (bc4 .eql 0 [] a b) k):=rfl
def arj{a b k}:aU a b k=(rV (bc4 .lss 0 [] a b) k):=rfl
def arh{a b k}:aV a b k=(rV (bc4 .add 0 [] a b) k):=rfl
def arp{z s a i k}:ao z s a i k=(rV (cz z s a i) k):=rfl
def ars{s a k}:aJ s a k=(rV (fS s a) k):=rfl
def arx{c a b k}:aD c a b k=(rV (mL c a b) k):=rfl
def ary{a k}:Qun a k=(rV (cR .not a) k):=rfl
def bnK{t e k}:Qct t e k=(gR (gP U t) (λg=>g e) k):=rfl
def arl{t e k}:bX t e k=(gR (gP I t) (λg=>g e) k):=rfl
def arw{t f k}:Qot t f k=(gR (gP U t) (λg=>f λv=>g v) k):=rfl
def a8c{t f k}:aC t f k=(gR (gP I t) (λg=>f λv=>g v) k):=rfl
def aro{i s p k}:Qfl i s p k=(rV (iQ i s p) λt=>rV (sA J s t) k):=rfl
def aru{d i s p k}:aT d i s p k=(gR (gP U d) (λg=>rV (iQ i s p) λt=>g t) λt=>gR (gP U d) (λg=>rV (sA J s t) λv=>g v) k):=rfl
def arr{d i s p k}:Qlf d i s p k=(gR (gP I d) (λg=>rV (iQ i s p) λt=>g t) λt=>gR (gP I d) (λg=>rV (sA J s t) λv=>g v) k):=rfl
def lzz:fY:=lb U [] []
def lzo(x:AV):fY:=lb U [x] []
@[simp] theorem aDs:lzz=lb U [] []:=rfl
@[simp] theorem aDl{x:AV}:lzo x=lb U [x] []:=rfl
def uL:=ai @a8b<|ai @arq<|ai @art<|ai @ark<|ai @ari<|ai @arj<|ai @arh<|ai @arp<|ai @ars<|ai @arx<|ai @ary<|ai @bnK<|ai @arl<|ai @arw<|ai @a8c<|ai @aro<|ai @aru<|ai @arr<|ai @aDs<|@aDl
def bh0{n B a}:jR n B a=a B:=rfl
def di{n B a}:jV n B a=a B:=rfl
def cI(n:Nat)(Inv:Nat->Prop):dM->Prop:=λvs=>∃k:Nat,vs=[iv k]/\k<=n/\Inv k
def cM(n:Nat):dM->Nat:=λvs=>match vs with|[.s (.int _ i)]=>n-i.toNat|_=>0
def bid{B}(n)(Inv)(a:Inv 0)(h:∀k,k<=n->Inv k->B (cI n Inv) (cM n) [iv k]):lR [iv 0] B:=⟨cI n Inv,cM n,⟨0,A,mh _,a⟩,by rintro vs ⟨k,rfl,c,b⟩;grind⟩
theorem eM{x}(a: -9223372036854775808<=x)(b:x<9223372036854775808):dq.wrap x=x:=by rw[IntKind.wrap_i64];omega
theorem bkg{n k Inv}(a:k<n)(b:n<4611686018427387904)(h:Inv<|k+1):cI n Inv [iv<|dq.wrap<|(k:Int)+1]/\cM n [iv<|dq.wrap<|(k:Int)+1]<cM n [iv k]:=by rw[eM Z Z];refine⟨⟨k+1,A,a,h⟩,?_⟩;show n-((k:Int)+1).toNat<n-((k:Int)).toNat;omega
theorem au{a l}:gt (a::l) 0=a:=rfl
theorem fE{a l n}:gt (a::l) (n+1)=gt l n:=rfl
def tI{S}(enc:S->dM)(Inv:S->Prop):dM->Prop:=λvs=>∃s,vs=enc s/\Inv s
def pM(p n:Nat):dM->Nat:=λvs=>match gt vs p with| .s (.int _ i)=>n-i.toNat|_=>0
def yh{S}(enc)(p n)(Inv)(s0:S){B}(a:Inv s0)(h:∀s,Inv s->B (tI enc Inv) (pM p n) (enc s)):lR (enc s0) B:=⟨tI enc Inv,pM p n,⟨s0,A,a⟩,by rintro vs ⟨s,rfl,b⟩;exact h s b⟩
def wN{S enc p n Inv}{s s':S}{i:Nat}{vs}(a:vs=enc s')(c:gt (enc s) p=iv i)(b:gt (enc s') p=iv ((i+1:Nat):Int))(d:i<n)(hI:Inv s'):tI enc Inv vs/\pM p n vs<pM p n (enc s):=by subst a;refine⟨⟨s',A,hI⟩,?_⟩;grind [pM,bh]
def brE{p:Prop}(h:p:=by grind [Go.Ab.eM]):p:=h
theorem fX{k:Nat}(h:k<4611686018427387904):dq.wrap ((k:Int)+1)=((k+1:Nat):Int):=brE
abbrev bqW:List (Nat×Nat):=[(0,1),(1,1)]
abbrev bst:List (Nat×Nat):=[(0,1),(1,1),(2,1),(3,1)]
abbrev alz:List (Nat×Nat):=[(0,1),(1,1),(2,1),(3,1),(4,1),(5,4),(9,1),(10,1)]
abbrev anY:List (Nat×Nat):=[(0,1),(1,1),(2,1),(3,1),(4,1),(5,1)]
abbrev aon:List (Nat×Nat):=[(0,4),(4,1),(5,1),(6,1)]
abbrev aM7:List (Nat×Nat):=[(0,1),(1,1),(2,1)]
abbrev aOs:List (Nat×Nat):=[(0,4),(4,1),(5,1),(6,1),(7,1),(8,1)]
abbrev aOG:List (Nat×Nat):=[(0,1),(1,1),(2,1),(3,1),(4,1)]
abbrev aP0:List (Nat×Nat):=[(0,1),(1,1),(2,1),(3,1),(4,1),(5,1),(6,1)]
abbrev aQ4:List (Nat×Nat):=[(0,6),(6,1),(7,7),(14,1)]
structure cA where
 name:ByteArray
 index:Int
 size:Int
 vol:Bool
 init:Int
 deriving Inhabited,DecidableEq
structure dS where
 name:ByteArray
 rw:Bool
 deriving Inhabited,DecidableEq
structure yp where
 name:ByteArray
 eg:Int
 deriving Inhabited,DecidableEq
structure dL where
 aq:Int
 stmt:Int
 line:Int
 deriving Inhabited,DecidableEq
structure aOw where
 cells:List cA
 ak:List dS
 bC:List yp
 bU:List ByteArray
 ay:List ByteArray
 dU:List dL
 deriving Inhabited,DecidableEq
structure cg where
 aPo:Int
 bk:eu
 deriving Inhabited,DecidableEq
structure aoC where
 cQ:Int
 cond:Int
 atomic:Bool
 deriving Inhabited,DecidableEq
structure aW where
 ak:List cg
 tx:Int
 done:List Bool
 ay:List aoC
 deriving Inhabited,DecidableEq
structure aTo where
 eB:aW
 cells:eu
 bU:eu
 count:eu
 deriving Inhabited,DecidableEq
structure aP where
 aq:Int
 kind:Int
 eI:Int
 value:Int
 site:Int
 dI:eu
 ep:eu
 deriving Inhabited,DecidableEq
structure am where
 aQ:aOw
 start:Int
 init:aTo
 ac:List aP
 deriving Inhabited,DecidableEq
structure cJ where
 kind:Int
 ea:Int
 eb:Int
 ec:Int
 ed:Int
 cW:eu
 deriving Inhabited,DecidableEq
structure aH8 where
 kind:Int
 a:Int
 b:Int
 deriving Inhabited,DecidableEq
structure bqR where
 x:Int
 y:Int
 k:Int
 deriving Inhabited,DecidableEq
structure br6 where
 ints:Int
 bools:Int
 lL:List bqR
 ug:List (eu)
 deriving Inhabited,DecidableEq
def cA.c(x:cA):dM:=[st x.name,iv x.index,iv x.size,bv x.vol,iv x.init]
def dS.c(x:dS):dM:=[st x.name,bv x.rw]
def yp.c(x:yp):dM:=[st x.name,iv x.eg]
def dL.c(x:dL):dM:=[iv x.aq,iv x.stmt,iv x.line]
def aOw.c(x:aOw):dM:=[sl cA.c x.cells,sl dS.c x.ak,sl yp.c x.bC,sl cs x.bU,sl cs x.ay,sl dL.c x.dU]
def cg.c(x:cg):dM:=[iv x.aPo,sl ci x.bk]
def aoC.c(x:aoC):dM:=[iv x.cQ,iv x.cond,bv x.atomic]
def aW.c(x:aW):dM:=[sl cg.c x.ak,iv x.tx,sl cb x.done,sl aoC.c x.ay]
def aTo.c(x:aTo):dM:=[sl cg.c x.eB.ak,iv x.eB.tx,sl cb x.eB.done,sl aoC.c x.eB.ay,sl ci x.cells,sl ci x.bU,sl ci x.count]
def aP.c(x:aP):dM:=[iv x.aq,iv x.kind,iv x.eI,iv x.value,iv x.site,sl ci x.dI,sl ci x.ep]
def am.c(x:am):dM:=[sl cA.c x.aQ.cells,sl dS.c x.aQ.ak,sl yp.c x.aQ.bC,sl cs x.aQ.bU,sl cs x.aQ.ay,sl dL.c x.aQ.dU,iv x.start,sl cg.c x.init.eB.ak,iv x.init.eB.tx,sl cb x.init.eB.done,sl aoC.c x.init.eB.ay,sl ci x.init.cells,sl ci x.init.bU,sl ci x.init.count,sl aP.c x.ac]
def cJ.c(x:cJ):dM:=[iv x.kind,iv x.ea,iv x.eb,iv x.ec,iv x.ed,sl ci x.cW]
def aH8.c(x:aH8):dM:=[iv x.kind,iv x.a,iv x.b]
def bqR.c(x:bqR):dM:=[iv x.x,iv x.y,iv x.k]
def cl(x:eu):dM:=[sl ci x]
def br6.c(x:br6):dM:=[iv x.ints,iv x.bools,sl bqR.c x.lL,sl cl x.ug]
section
variable{K:J3}{Y:ae}{i:Int}
def amX{l}:rV (cz 1 Y (sl ci l)<|iv i) K=(aF (L l) i/\K (.q<|ci<|gd l i.toNat)):=aBz λ_=>A
def aCc{l}:rV (cz 1 Y (sl cb l)<|iv i) K=(aF (L l) i/\K (.q<|cb<|gd l i.toNat)):=aBz λ_=>A
def amY{l}:rV (cz 1 Y (sl cs l)<|iv i) K=(aF (L l) i/\K (.q<|cs<|gd l i.toNat)):=aBz λ_=>A
def aCe{l}:rV (cz 1 Y (sl cl l)<|iv i) K=(aF (L l) i/\K (.q<|cl<|gd l i.toNat)):=aBz λ_=>A
def aCd{l}:rV (cz 5 Y (sl cA.c l)<|iv i) K=(aF (L l) i/\K (.q<|cA.c<|gd l i.toNat)):=aBz λ_=>A
def aCk{l}:rV (cz 2 Y (sl dS.c l)<|iv i) K=(aF (L l) i/\K (.q<|dS.c<|gd l i.toNat)):=aBz λ_=>A
def aCf{l}:rV (cz 2 Y (sl yp.c l)<|iv i) K=(aF (L l) i/\K (.q<|yp.c<|gd l i.toNat)):=aBz λ_=>A
def aCl{l}:rV (cz 3 Y (sl dL.c l)<|iv i) K=(aF (L l) i/\K (.q<|dL.c<|gd l i.toNat)):=aBz λ_=>A
def am0{l}:rV (cz 2 Y (sl cg.c l)<|iv i) K=(aF (L l) i/\K (.q<|cg.c<|gd l i.toNat)):=aBz λ_=>A
def am2{l}:rV (cz 3 Y (sl aoC.c l)<|iv i) K=(aF (L l) i/\K (.q<|aoC.c<|gd l i.toNat)):=aBz λ_=>A
def aCh{l}:rV (cz 7 Y (sl aP.c l)<|iv i) K=(aF (L l) i/\K (.q<|aP.c<|gd l i.toNat)):=aBz λ_=>A
def aCi{l}:rV (cz 6 Y (sl cJ.c l)<|iv i) K=(aF (L l) i/\K (.q<|cJ.c<|gd l i.toNat)):=aBz λ_=>A
def aCm{l}:rV (cz 3 Y (sl aH8.c l)<|iv i) K=(aF (L l) i/\K (.q<|aH8.c<|gd l i.toNat)):=aBz λ_=>A
def aCg{l}:rV (cz 3 Y (sl bqR.c l)<|iv i) K=(aF (L l) i/\K (.q<|bqR.c<|gd l i.toNat)):=aBz λ_=>A
end
def awN{x}:cA.c x=[st x.name,iv x.index,iv x.size,bv x.vol,iv x.init]:=rfl
def cc:=@awN
def ix:=ai @amX<|ai @aCc<|ai @amY<|ai @aCe<|ai @aCd<|ai @aCk<|ai @aCf<|ai @aCl<|ai @am0<|ai @am2<|ai @aCh<|ai @aCi<|ai @aCm<|@aCg
section
variable{K:J3}{KE:be}{Y:ae}{d k v:Nat}{x:bY}{e:TypeId}{z:Nat}{cs zs:dM}
def D3:L (put Y d x)=L Y:=by simp[put]
def uC{b}:L (wr Y b x)=L Y:=by simp[wr]
theorem bwp(h:k≠d):aZ (put Y d x) k=aZ Y k:=by grind [aZ,put,oq]
theorem wy{b}(h:k≠b.1):aZ (wr Y b x) k=aZ Y k:=by grind [aZ,wr,oq]
theorem zQ(h:d<L Y)(a:(aZ Y d).ver+1=v):box (put Y d x) (d,v)=V x:=by rw[<-a];exact iy h
theorem aC5{b i j q}:sA q Y (.p b i j)=((box Y b).bind λx=>(x.bA[i]?).map (·.drop j)).bind (aN q):=rfl
theorem rR{b i j n}:iQ n Y (.p b i j)=(box Y b).map λ_=> .p b i (j+n):=rfl
end
def aD0{x}{f:bY->AV}:(V x).map f=V (f x):=rfl
def aww{x}{f:bY->Option (dM)}:(V x).bind f=f x:=rfl
def awx{l}{f:dM->Option AV}:(V l).bind f=f l:=rfl
def aD1{l}{f:dM->dM}:(V l).map f=V (f l):=rfl
def aBF{r}{l:List (dM)}:(r::l)[0]?=V r:=rfl
def axE{l:dM}:l.drop 0=l:=rfl
theorem dJ{n k}(h:k<n):aF n (k:Int):=⟨Z,Z⟩
theorem aL{k n:Nat}(h:Q ((k:Int)<(n:Int))=U):k<n:=by simpa using h
theorem dge{k n:Nat}(h:Q ((k:Int)<(n:Int))=I):n<=k:=by simpa using h
theorem aNV{α}[Inhabited α]{l:List α}{k:Nat}(h):gd l k=l[k]:=by simp[gd,h]
def px{α}[Inhabited α]{l}{p:α->Prop}:(∀j,j<L l->p (gd l j))↔∀x∈l,p x:=by grind [ou,aNV,List.getElem_mem]
def a6p{p:Nat->Prop}{k}(h:∀j,j<k->p j)(a:p k):∀j,j<k+1->p j:=X
def brU{p:Prop}(h:p:=by grind [Go.Ab.aNV]):p:=h
theorem dB{α}[Inhabited α]{l:List α}{k:Nat}(h:k<L l):gd l k∈l:=brU
def u1:=ai @av4<|ai @av2<|ai @av1<|ai @avY<|ai @iM<|ai @av6<|ai @cS<|ai @alr<|ai @av5<|ai @avU<|ai @avV<|ai @alq<|ai @aIN<|ai @cT<|ai @azQ<|ai @aC5<|ai @rR<|ai @uR<|ai @aFi<|ai @au<|ai @fE<|ai @bh0<|ai @di<|ai @aI<|ai @aD0<|ai @aww<|ai @awx<|ai @aD1<|ai @aBF<|@axE
def aOw.ext_iff'{x y:aOw}:(x=y)=(x.cells=y.cells/\x.ak=y.ak/\x.bC=y.bC/\x.bU=y.bU/\x.ay=y.ay/\x.dU=y.dU):=by cases x;cases y;simp
def aW.ext_iff'{x y:aW}:(x=y)=(x.ak=y.ak/\x.tx=y.tx/\x.done=y.done/\x.ay=y.ay):=by cases x;cases y;simp
def aTo.ext_iff'{x y:aTo}:(x=y)=(x.eB.ak=y.eB.ak/\x.eB.tx=y.eB.tx/\x.eB.done=y.eB.done/\x.eB.ay=y.eB.ay/\x.cells=y.cells/\x.bU=y.bU/\x.count=y.count):=by obtain⟨⟨a,b,c,d⟩,e,f,g⟩:=x;obtain⟨⟨h,j,l,m⟩,n,o,p⟩:=y;grind
theorem kL{α f}(a:∀x y,f x=f y->x=y){l l':List α}:(sl f l=sl f l')=(l=l'):=by apply bqL;constructor;intro h;simp only[sl,AV.l.injEq,aRI] at h;(induction l generalizing l' with|nil=>simp_all|cons x l b=>cases l' with|nil=>simp at h|cons y l'=>grind);simp_all
def brv{α:Type}(c:α->dM)(h:∀x y,c x=c y->x=y)(x y:α):(c x=c y)=(x=y):=bqL ⟨h x y,bss c⟩
def bsn{α:Type}{c:α->dM}(h:∀{x y},(c x=c y)=(x=y))(l l':List α):(sl c l=sl c l')=(l=l'):=kL λ_ _ e=>h▸e
def brK{a:AV}(l:dM)(h:l.head?=V a):aN J l=V a:=by(cases l<;>cases h);rfl
def aQ6{a:AV}(i:Nat)(l:dM)(h:(l.drop i).head?=V a):aN J (l.drop i)=V a:=brK _ h
def brx(n:Nat)(l:dM)(h:aN (V n) l=V (.a l)):aN (V n) l=V (.a l):=h
def aN8{l l':eu}:(sl ci l=sl ci l')=(l=l'):=kL (λx y h=>by simpa using h)
def mD{l l':List Bool}:(sl cb l=sl cb l')=(l=l'):=kL (λx y h=>by simpa using h)
def mF{l l':List ByteArray}:(sl cs l=sl cs l')=(l=l'):=kL (λx y h=>by simpa using h)
def mE{l l':List (eu)}:(sl cl l=sl cl l')=(l=l'):=kL (λx y h=>by simpa[cl,aN8] using h)
def bru:=ai @aN8<|ai @mD<|ai @mF<|ai @mE<|ai @aOw.ext_iff'<|ai @aW.ext_iff'<|ai @aTo.ext_iff' @and_assoc
def amH{x y}:=brv cA.c (λx y h=>by cases x;cases y;simpa[cA.c,bru] using h) x y
def nz{l l'}:=bsn @amH l l'
def amN{x y}:=brv dS.c (λx y h=>by cases x;cases y;simpa[dS.c,bru] using h) x y
def nY{l l'}:=bsn @amN l l'
def amI{x y}:=brv yp.c (λx y h=>by cases x;cases y;simpa[yp.c,bru] using h) x y
def oN{l l'}:=bsn @amI l l'
def amP{x y}:=brv dL.c (λx y h=>by cases x;cases y;simpa[dL.c,bru] using h) x y
def pL{l l'}:=bsn @amP l l'
def amU{x y}:=brv aOw.c (λx y h=>by cases x;cases y;simpa[aOw.c,bru,nz,oN,nY,pL] using h) x y
def amO{x y}:=brv cg.c (λx y h=>by cases x;cases y;simpa[cg.c,bru] using h) x y
def rY{l l'}:=bsn @amO l l'
def amS{x y}:=brv aoC.c (λx y h=>by cases x;cases y;simpa[aoC.c,bru] using h) x y
def td{l l'}:=bsn @amS l l'
def amR{x y}:=brv aW.c (λx y h=>by cases x;cases y;simpa[aW.c,bru,rY,td] using h) x y
def uz{l l'}:=bsn @amR l l'
def amQ{x y}:=brv aTo.c (λx y h=>by cases x;cases y;simpa[aTo.c,bru,rY,td] using h) x y
def amK{x y}:=brv aP.c (λx y h=>by cases x;cases y;simpa[aP.c,bru] using h) x y
def yb{l l'}:=bsn @amK l l'
def bo0{x y}:=brv am.c (λx y h=>by cases x;cases y;simpa[am.c,bru,nz,oN,yb,nY,rY,pL,td] using h) x y
def amM{x y}:=brv cJ.c (λx y h=>by cases x;cases y;simpa[cJ.c,bru] using h) x y
def amT{x y}:=brv aH8.c (λx y h=>by cases x;cases y;simpa[aH8.c,bru] using h) x y
def bcT{l l'}:=bsn @amT l l'
def amJ{x y}:=brv bqR.c (λx y h=>by cases x;cases y;simpa[bqR.c,bru] using h) x y
def amW{l l'}:=bsn @amJ l l'
def amL{x y}:=brv br6.c (λx y h=>by cases x;cases y;simpa[br6.c,bru,amW] using h) x y
def amV:=ai @aN8<|ai @mD<|ai @mF<|ai @mE<|ai @nz<|ai @nY<|ai @oN<|ai @pL<|ai @amU<|ai @rY<|ai @amS<|ai @td<|ai @amR<|ai @uz<|ai @amQ<|ai @amK<|ai @yb<|ai @bo0<|ai @amM<|ai @amT<|ai @bcT<|@amL
def aGq{x}:=brK (cA.c x) A
def aGr{x}:=aQ6 1 (cA.c x) A
def aGs{x}:=aQ6 2 (cA.c x) A
def aGt{x}:=aQ6 3 (cA.c x) A
def aGu{x}:=aQ6 4 (cA.c x) A
def aGv{x}:=brx 5 (cA.c x) A
def aG0{x}:=brK (dS.c x) A
def aG1{x}:=aQ6 1 (dS.c x) A
def aG2{x}:=brx 2 (dS.c x) A
def aGy{x}:=brK (yp.c x) A
def aGz{x}:=aQ6 1 (yp.c x) A
def aGA{x}:=brx 2 (yp.c x) A
def aG6{x}:=brK (dL.c x) A
def aG7{x}:=aQ6 1 (dL.c x) A
def aG9{x}:=brx 3 (dL.c x) A
def aHP{x}:=brK (aOw.c x) A
def aHQ{x}:=aQ6 1 (aOw.c x) A
def aHR{x}:=aQ6 2 (aOw.c x) A
def aHS{x}:=aQ6 3 (aOw.c x) A
def aHT{x}:=aQ6 4 (aOw.c x) A
def aHU{x}:=aQ6 5 (aOw.c x) A
def aHV{x}:=brx 6 (aOw.c x) A
def aG3{x}:=brK (cg.c x) A
def aG4{x}:=aQ6 1 (cg.c x) A
def aG5{x}:=brx 2 (cg.c x) A
def aHo{x}:=brK (aoC.c x) A
def aHp{x}:=aQ6 1 (aoC.c x) A
def aHq{x}:=aQ6 2 (aoC.c x) A
def aHr{x}:=brx 3 (aoC.c x) A
def aHj{x}:=brK (aW.c x) A
def aHk{x}:=aQ6 1 (aW.c x) A
def aHl{x}:=aQ6 2 (aW.c x) A
def aHm{x}:=aQ6 3 (aW.c x) A
def aHn{x}:=brx 4 (aW.c x) A
def aHc{x}:=aQ6 2 (aTo.c x) A
def aHd{x}:=aQ6 3 (aTo.c x) A
def aHe{x}:=aQ6 4 (aTo.c x) A
def aHf{x}:=aQ6 5 (aTo.c x) A
def aHg{x}:=aQ6 6 (aTo.c x) A
def aHh{x}:=brx 7 (aTo.c x) A
def aHi{x}:aN (V 4) (aTo.c x)=V (.a<|aW.c x.eB):=rfl
def aGG{x}:=brK (aP.c x) A
def aGH{x}:=aQ6 1 (aP.c x) A
def aGI{x}:=aQ6 2 (aP.c x) A
def aGJ{x}:=aQ6 3 (aP.c x) A
def aGK{x}:=aQ6 4 (aP.c x) A
def aGL{x}:=aQ6 5 (aP.c x) A
def aGM{x}:=aQ6 6 (aP.c x) A
def aGN{x}:=brx 7 (aP.c x) A
def aHw{x}:=brK (am.c x) A
def aHx{x}:=aQ6 1 (am.c x) A
def aHD{x}:=aQ6 2 (am.c x) A
def aHE{x}:=aQ6 3 (am.c x) A
def aHF{x}:=aQ6 4 (am.c x) A
def aHH{x}:=aQ6 6 (am.c x) A
def aHI{x}:=aQ6 7 (am.c x) A
def aHJ{x}:=aQ6 8 (am.c x) A
def aHK{x}:=aQ6 9 (am.c x) A
def aHy{x}:=aQ6 10 (am.c x) A
def aHz{x}:=aQ6 11 (am.c x) A
def aHA{x}:=aQ6 12 (am.c x) A
def aHB{x}:=aQ6 13 (am.c x) A
def aHC{x}:=aQ6 14 (am.c x) A
def aHN{x}:=brx 15 (am.c x) A
def aHO{x}:aN (V 6) (am.c x)=V (.a<|aOw.c x.aQ):=rfl
def aHL{x}:aN (V 7) ((am.c x).drop 7)=V (.a<|aTo.c x.init):=rfl
def aHM{x}:aN (V 4) ((am.c x).drop 7)=V (.a<|aW.c x.init.eB):=rfl
def aGT{x}:=brK (cJ.c x) A
def aGU{x}:=aQ6 1 (cJ.c x) A
def aGV{x}:=aQ6 2 (cJ.c x) A
def aGW{x}:=aQ6 3 (cJ.c x) A
def aGX{x}:=aQ6 4 (cJ.c x) A
def aGY{x}:=aQ6 5 (cJ.c x) A
def aGZ{x}:=brx 6 (cJ.c x) A
def aHs{x}:=brK (aH8.c x) A
def aHt{x}:=aQ6 1 (aH8.c x) A
def aHu{x}:=aQ6 2 (aH8.c x) A
def aHv{x}:=brx 3 (aH8.c x) A
def aGC{x}:=brK (bqR.c x) A
def aGD{x}:=aQ6 1 (bqR.c x) A
def aGE{x}:=aQ6 2 (bqR.c x) A
def aGF{x}:=brx 3 (bqR.c x) A
def aGO{x}:=brK (br6.c x) A
def aGP{x}:=aQ6 1 (br6.c x) A
def aGQ{x}:=aQ6 2 (br6.c x) A
def aGR{x}:=aQ6 3 (br6.c x) A
def aGw{x}:aN J (ci x)=V (iv x):=rfl
def aGp{x}:aN J (cb x)=V (bv x):=rfl
def aGB{x}:aN J (cs x)=V (st x):=rfl
def aC6{q Y cs}:sA q Y (.q cs)=aN q cs:=rfl
def dd{l:dM}{a b}:(l.drop a).drop b=l.drop (a+b):=List.drop_drop
def zN{Y x}:dG Y (.a<|aOw.c x)= .a (aOw.c x):=rfl
def avI{Y x}:dG Y (.a<|aoC.c x)= .a (aoC.c x):=rfl
def avH{Y x}:dG Y (.a<|aW.c x)= .a (aW.c x):=rfl
def avG{Y x}:dG Y (.a<|aTo.c x)= .a (aTo.c x):=rfl
def CU{Y x}:dG Y (.a<|aP.c x)= .a (aP.c x):=rfl
def sH{Y x}:dG Y (.a<|am.c x)= .a (am.c x):=rfl
def Kl{Y x}:dG Y (.a<|cJ.c x)= .a (cJ.c x):=rfl
def avJ{Y x}:dG Y (.a<|aH8.c x)= .a (aH8.c x):=rfl
def ar:=ai @jM<|ai @jt<|ai @kU<|ai @tW<|ai @alg<|ai @CV<|ai @AL<|ai @Ql<|ai @QQ<|ai @gT<|ai @Cq<|ai @zN<|ai @avI<|ai @avH<|ai @avG<|ai @CU<|ai @sH<|ai @Kl<|@avJ
def mj:=ai @aNR @ar
def rk:=ai @aGq<|ai @aGr<|ai @aGs<|ai @aGt<|ai @aGu<|ai @aGv<|ai @aG0<|ai @aG1<|ai @aG2<|ai @aGy<|ai @aGz<|ai @aGA<|ai @aG6<|ai @aG7<|ai @aG9<|ai @aHP<|ai @aHQ<|ai @aHR<|ai @aHS<|ai @aHT<|ai @aHU<|ai @aHV<|ai @aG3<|ai @aG4<|ai @aG5<|ai @aHo<|ai @aHp<|ai @aHq<|ai @aHr<|ai @aHj<|ai @aHk<|ai @aHl<|ai @aHm<|ai @aHn<|ai @aHc<|ai @aHd<|ai @aHe<|ai @aHf<|ai @aHg<|ai @aHh<|ai @aHi<|ai @aGG<|ai @aGH<|ai @aGI<|ai @aGJ<|ai @aGK<|ai @aGL<|ai @aGM<|ai @aGN<|ai @aHw<|ai @aHx<|ai @aHD<|ai @aHE<|ai @aHF<|ai @aHH<|ai @aHI<|ai @aHJ<|ai @aHK<|ai @aHy<|ai @aHz<|ai @aHA<|ai @aHB<|ai @aHC<|ai @aHN<|ai @aHO<|ai @aHL<|ai @aHM<|ai @aGT<|ai @aGU<|ai @aGV<|ai @aGW<|ai @aGX<|ai @aGY<|ai @aGZ<|ai @aHs<|ai @aHt<|ai @aHu<|ai @aHv<|ai @aGC<|ai @aGD<|ai @aGE<|ai @aGF<|ai @aGO<|ai @aGP<|ai @aGQ<|ai @aGR<|ai @aGw<|ai @aGp<|ai @aGB<|@aC6
def eQ:=ai @u0 @u1
def gg:=ai @eQ @rk
def gJ:=ai @gg @ix
def hZ:=ai @ar @eQ
def jZ:=ai @Cq @eQ
def nV:=ai @aNR @eQ
def oj:=ai @ar @gg
def pt:=ai @eQ @uO
def eS:=ai @eQ @aj
def eT:=ai @eS @rk
def fD:=ai @eT @ix
def fQ:=ai @ar @eT
def gj:=ai @ar @fD
def hH:=ai @aNR @fQ
def ie:=ai @aNR @gj
def vp{n k:Nat}(h:Q ((k:Int)<(n:Int))=U):aF n (k:Int):=dJ<|aL h
def axz{a b:AV}{l m:dM}:(a::l=b::m)=(a=b/\l=m):=O
def aB0{p:Prop}:(p->p)=True:=O
def ass{a:Type}:(a->True)=True:=O
def asr{p:Prop}:(p->True)=True:=O
def ij:=ai @axz<|ai @AV.a.injEq<|ai @AV.s.injEq<|ai @Value.int.injEq<|ai @Value.bool.injEq<|ai @Value.string.injEq<|ai @Cq<|ai @aRI<|ai @amV<|ai @aB0<|ai @ass<|@asr
abbrev H0(W:ae->Prop):Prop:=∀s:ae,L s=4096->(∀k,aZ s k=mO)->W s
abbrev H1(t n p:Nat)(c:dM)(W:be):Prop:=∀s:ae,L s=4096->box s (p,1)=V ⟨t,n,U,U,[c]⟩->(∀k,k≠p->aZ s k=mO)->W (.p (p,1) 0 0) s
abbrev H2(t n p:Nat)(c:dM)(e d a:Nat)(b:dM)(W:AV->be):Prop:=∀s:ae,L s=4096->box s (p,1)=V ⟨t,n,U,U,[c]⟩->box s (a,1)=V ⟨e,d,U,U,[b]⟩->(∀k,k≠p->k≠a->aZ s k=mO)->W (.p (p,1) 0 0) (.p (a,1) 0 0) s
section
variable{T:dO}(an:List<|Option<|eP×eP){f:Func}{fn:Nat}{xs:dM}{R:J3}
def z0{W:ae->Prop}(c:eJ T)(a:aS.funcs[fn]?=V f)(h:H0 W)(b:uM an f (L xs)=U:=by kernel_rfl)(d:ZF aS GG T an f xs R=W (ly f):=by kernel_rfl):Ct fn xs R:=uq ready c a b<|aND d<|h _ uB<|i8 _
def z1{t n p:Nat}{c:dM}{W:be}(m:eJ T)(g:aS.funcs[fn]?=V f)(l:L c=n)(h:H1 t n p c W)(j:uM an f (L xs)=U:=by kernel_rfl)(b:Q (p<4096/\0<n)=U:=by exact A)(o:ZF aS GG T an f xs R=eV (bxA t n (ly f) p<|.a c) W:=by kernel_rfl):Ct fn xs R:=by have b:=aNQ b;refine uq ready m g j<|aND o ?_;refine mY (N:=4096) A l b.2 b.1 uB (by rw[i8]) λr q d s g0=>?_;exact h r q d (λk e=>by rw[g0 k e];exact i8 _ k)
def z2{t n p q d e:Nat}{c l:dM}{W:AV->be}(B:eJ T)(x:aS.funcs[fn]?=V f)(z:L c=n)(m:L l=d)(h:H2 t n p c q d e l W)(y:uM an f (L xs)=U:=by kernel_rfl)(b:Q ((p<4096/\0<n)/\(e<4096/\0<d)/\p≠e)=U:=by exact A)(C:ZF aS GG T an f xs R=eV (bxA t n (ly f) p<|.a c) λi s=>eV (bxA q d s e<|.a l) λj s=>W i j s:=by kernel_rfl):Ct fn xs R:=by obtain⟨b,g,o⟩:=aNQ b;refine uq ready B x y<|aND C ?_;refine mY (N:=4096) A z b.2 b.1 uB (by rw[i8]) λP D K M g0=>?_;refine mY (N:=4096) A m g.2 g.1 D (by rw[g0 _<|Sa o,i8]) λG E r u g1=>?_;exact h G E (by rwa [u _ _ o]) r (λk v w=>by rw[g1 k w,g0 k v];exact i8 _ k)
end
abbrev EB(fn:Nat)(xs:dM)(Y:ae)(R:be):Prop:=∃r a,R r a/\cZ aS GG fn xs Y r a
def zB{G:Env}{T:dO}(an:List<|Option<|eP×eP){f:Func}{fn:Nat}{xs:dM}{Y:ae}{R:be}{Q:Prop}(d:pq aS G T)(b:aS.funcs[fn]?=V f)(h:Q)(c:uM an f (L xs)=U:=by kernel_rfl)(e:ZB aS G T an f xs Y R=Q:=by kernel_rfl):∃r a,R r a/\cZ aS G fn xs Y r a:=aBe ready d b c<|aND e h
abbrev HB1(t n p:Nat)(c:dM)(Y:ae)(W:be):Prop:=∀(s:ae) (v:Nat),Kp Y s->(∀k,k≠p->aZ s k=aZ Y k)->(∀x,box Y (p,v)≠V x)->box s (p,v)=V ⟨t,n,U,U,[c]⟩->W (.p (p,v) 0 0) s
abbrev HB2(t n p:Nat)(c:dM)(e d a:Nat)(b:dM)(Y:ae)(W:AV->be):Prop:=∀(s:ae) (v v':Nat),Kp Y s->(∀k,k≠p->k≠a->aZ s k=aZ Y k)->(∀x,box Y (p,v)≠V x)->(∀x,box Y (a,v')≠V x)->box s (p,v)=V ⟨t,n,U,U,[c]⟩->box s (a,v')=V ⟨e,d,U,U,[b]⟩->W (.p (p,v) 0 0) (.p (a,v') 0 0) s
def zB1{G:Env}{T:dO}(an:List<|Option<|eP×eP){f:Func}{fn t n p:Nat}{xs c:dM}{Y:ae}{R W:be}(k:pq aS G T)(e:aS.funcs[fn]?=V f)(hs:L Y=4096)(j:L c=n)(h:HB1 t n p c Y W)(g:uM an f (L xs)=U:=by kernel_rfl)(b:Q (p<4096/\0<n)=U:=by exact A)(l:ZB aS G T an f xs Y R=eV (bxA t n Y p<|.a c) W:=by kernel_rfl):∃r d,R r d/\cZ aS G fn xs Y r d:=by have b:=aNQ b;exact aBe ready k e g<|aND l<|iN A j b.2 b.1 hs h
def zB2{G:Env}{T:dO}(an:List<|Option<|eP×eP){f:Func}{fn t n p w d l:Nat}{xs c e:dM}{Y:ae}{R:be}{W:AV->be}(M:pq aS G T)(C:aS.funcs[fn]?=V f)(hs:L Y=4096)(E:L c=n)(q:L e=d)(h:HB2 t n p c w d l e Y W)(D:uM an f (L xs)=U:=by kernel_rfl)(K:Q ((p<4096/\0<n)/\l<4096/\0<d)=U:=by exact A)(P:ZB aS G T an f xs Y R=eV (bxA t n Y p<|.a c) λi s=>eV (bxA w d s l<|.a e) λj s=>W i j s:=by kernel_rfl):∃r m,R r m/\cZ aS G fn xs Y r m:=by obtain⟨b,o⟩:=aNQ K;refine aBe ready M C D<|aND P ?_;refine iN A E b.2 b.1 hs λs2 v g g0 S y=>?_;refine iN A q o.2 o.1 (g.len.trans hs) λs4 v' u g1 n1 z=>?_;exact h s4 v v' (g.trans u) (λk B b=>(g1 k b).trans<|g0 k B) S (λx N=>n1 x<|g.keep _ _ N) (u.keep _ _ y) z
abbrev H3(t n p:Nat)(c:dM)(g d a:Nat)(b:dM)(u m q:Nat)(e:dM)(W:AV->AV->be):Prop:=∀s:ae,L s=4096->box s (p,1)=V ⟨t,n,U,U,[c]⟩->box s (a,1)=V ⟨g,d,U,U,[b]⟩->box s (q,1)=V ⟨u,m,U,U,[e]⟩->(∀k,k≠p->k≠a->k≠q->aZ s k=mO)->W (.p (p,1) 0 0) (.p (a,1) 0 0) (.p (q,1) 0 0) s
def z3{T:dO}(an:List<|Option<|eP×eP){f:Func}{fn t n p B g b u m q:Nat}{xs c o e:dM}{R:J3}{W:AV->AV->be}(S:eJ T)(G:aS.funcs[fn]?=V f)(M:L c=n)(y:L o=g)(P:L e=m)(h:H3 t n p c B g b o u m q e W)(K:uM an f (L xs)=U:=by kernel_rfl)(d:Q ((p<4096/\0<n)/\(b<4096/\0<g)/\(q<4096/\0<m)/\p≠b/\p≠q/\b≠q)=U:=by exact A)(hz:ZF aS GG T an f xs R=eV (bxA t n (ly f) p<|.a c) λi s=>eV (bxA B g s b<|.a o) λj s=>eV (bxA u m s q<|.a e) λk s=>W i j k s:=by kernel_rfl):Ct fn xs R:=by obtain⟨d,l,z,v,w,x⟩:=aNQ d;refine uq ready S G K<|aND hz ?_;refine mY (N:=4096) A M d.2 d.1 uB (by rw[i8]) λs2 q0 b0 f0 g0=>?_;refine mY (N:=4096) A y l.2 l.1 q0 (by rw[g0 _<|Sa v,i8]) λs3 q1 b1 D g1=>?_;refine mY (N:=4096) A P z.2 z.1 q1 (by rw[g1 _<|Sa x,g0 _<|Sa w,i8]) λs4 q2 C r E=>?_;exact h s4 q2 (by rwa [r _ _ w,D _ _ v]) (by rwa [r _ _ x]) C (λk k0 k1 k2=>by rw[E k k2,g1 k k1,g0 k k0];exact i8 _ k)
section
variable{i:Nat}(F:FT)
def BJ{a:dM}{v:AV}(k:Ct i (a) (·=v)):FT:=λys K=>ys=a/\K (v)
def al2{a:dM}{v:AV}(k:Ct i (a) (·=v))(c:F=BJ k:=by exact A)(Lw K:J3):fW F (a) Lw K=(Lw (v)/\K (v)):=by subst c;apply bqL;constructor;rintro⟨h,b⟩;exact b;intro h;exact⟨A,h⟩
def apM{a:dM}{v:AV}(k:Ct i (a) (·=v))(b:∀_:Unit,(a).all iX=U:=by intros;exact A):∀ys K,BJ k ys K->jz aS GG i ys K:=by rintro ys K ⟨rfl,h⟩;exact nX (k) (b ()) (λr c=>by rwa [c])
def BK{a:dM}{b:J3}(k:Ct i (a)<|b):FT:=λys K=>ys=a/\∀r,b r->K r
def al3{a:dM}{b:J3}(k:Ct i (a)<|b)(d:F=BK k:=by exact A)(Lw K:J3):fW F (a) Lw K=(∀r,b r->Lw r/\K r):=by subst d;apply bqL;constructor;rintro⟨h,c⟩;exact c;intro h;exact⟨A,h⟩
def bF4{a:dM}{d:J3}(k:Ct i (a)<|d)(b:∀_:Unit,(a).all iX=U:=by intros;exact A):∀ys K,BK k ys K->jz aS GG i ys K:=by rintro ys K ⟨rfl,h⟩;exact nX (k) (b ()) (λr c=>h r c)
def lH{b:Type}{c:b->dM}{v:b->AV}(k:∀a,Ct i (c a) (·=v a)):FT:=λys K=>∃a,ys=c a/\K (v a)
def np{c:Type}{b:c->dM}{v:c->AV}(k:∀a,Ct i (b a) (·=v a))(g:F=lH k:=by exact A)(j:∀a d,b a=b d->a=d:=by simp+contextual only[ij])(a:c)(Lw K:J3):fW F (b a) Lw K=(Lw (v a)/\K (v a)):=by subst g;apply bqL;constructor;rintro⟨d,h,e⟩;obtain rfl:=j _ _ h;exact e;intro h;exact⟨_,A,h⟩
def nH{b:Type}{c:b->dM}{v:b->AV}(k:∀a,Ct i (c a) (·=v a))(d:∀a,(c a).all iX=U:=by intros;exact A):∀ys K,lH k ys K->jz aS GG i ys K:=by rintro ys K ⟨a,rfl,h⟩;exact nX (k a) (d a) (λr e=>by rwa [e])
def mT{b:Type}{c:b->dM}{d:b->Prop}{v:b->AV}(k:∀a,d a->Ct i (c a) (·=v a)):FT:=λys K=>∃a,ys=c a/\d a/\K (v a)
def oK{b:Type}{c:b->dM}{e:b->Prop}{v:b->AV}(k:∀a,e a->Ct i (c a) (·=v a))(l:F=mT k:=by exact A)(j:∀a d,c a=c d->a=d:=by simp+contextual only[ij])(a:b)(Lw K:J3):fW F (c a) Lw K=(e a/\Lw (v a)/\K (v a)):=by subst l;apply bqL;constructor;rintro⟨d,h,g⟩;obtain rfl:=j _ _ h;exact g;intro h;exact⟨_,A,h⟩
def pg{b:Type}{c:b->dM}{j:b->Prop}{v:b->AV}(k:∀a,j a->Ct i (c a) (·=v a))(d:∀a,(c a).all iX=U:=by intros;exact A):∀ys K,mT k ys K->jz aS GG i ys K:=by rintro ys K ⟨a,rfl,e,h⟩;exact nX (k a e) (d a) (λr g=>by rwa [g])
def om{b:Type}{c:b->dM}{d:b->Prop}{e:b->J3}(k:∀a,d a->Ct i (c a) (e a)):FT:=λys K=>∃a,ys=c a/\d a/\∀r,e a r->K r
def aUy{b:Type}{c:b->dM}{e:b->Prop}{g:b->J3}(k:∀a,e a->Ct i (c a) (g a))(m:F=om k:=by exact A)(j:∀a d,c a=c d->a=d:=by simp+contextual only[ij])(a:b)(Lw K:J3):fW F (c a) Lw K=(e a/\∀r,g a r->Lw r/\K r):=by subst m;apply bqL;constructor;rintro⟨d,h,l⟩;obtain rfl:=j _ _ h;exact l;intro h;exact⟨_,A,h⟩
def rj{b:Type}{c:b->dM}{j:b->Prop}{l:b->J3}(k:∀a,j a->Ct i (c a) (l a))(d:∀a,(c a).all iX=U:=by intros;exact A):∀ys K,om k ys K->jz aS GG i ys K:=by rintro ys K ⟨a,rfl,e,h⟩;exact nX (k a e) (d a) (λr g=>h r g)
def bsk{c B:Type}{d:c->B->dM}{v:c->B->AV}(k:∀a b,Ct i (d a b) (·=v a b)):FT:=λys K=>∃a b,ys=d a b/\K (v a b)
def f200{d B:Type}{c:d->B->dM}{v:d->B->AV}(k:∀a b,Ct i (c a b) (·=v a b))(m:F=bsk k:=by exact A)(j:∀a b e g,c a b=c e g->a=e/\b=g:=by simp+contextual only[ij])(a:d)(b:B)(Lw K:J3):fW F (c a b) Lw K=(Lw (v a b)/\K (v a b)):=by subst m;apply bqL;constructor;rintro⟨e,g,h,l⟩;obtain⟨rfl,rfl⟩:=j _ _ _ _ h;exact l;intro h;exact⟨_,_,A,h⟩
def nI{c B:Type}{d:c->B->dM}{v:c->B->AV}(k:∀a b,Ct i (d a b) (·=v a b))(e:∀a b,(d a b).all iX=U:=by intros;exact A):∀ys K,bsk k ys K->jz aS GG i ys K:=by rintro ys K ⟨a,b,rfl,h⟩;exact nX (k a b) (e a b) (λr g=>by rwa [g])
def aIc{c B:Type}{d:c->B->dM}{e:c->B->Prop}{v:c->B->AV}(k:∀a b,e a b->Ct i (d a b) (·=v a b)):FT:=λys K=>∃a b,ys=d a b/\e a b/\K (v a b)
def gX{c B:Type}{d:c->B->dM}{l:c->B->Prop}{v:c->B->AV}(k:∀a b,l a b->Ct i (d a b) (·=v a b))(n:F=aIc k:=by exact A)(j:∀a b e g,d a b=d e g->a=e/\b=g:=by simp+contextual only[ij])(a:c)(b:B)(Lw K:J3):fW F (d a b) Lw K=(l a b/\Lw (v a b)/\K (v a b)):=by subst n;apply bqL;constructor;rintro⟨e,g,h,m⟩;obtain⟨rfl,rfl⟩:=j _ _ _ _ h;exact m;intro h;exact⟨_,_,A,h⟩
def aCb{c B:Type}{d:c->B->dM}{l:c->B->Prop}{v:c->B->AV}(k:∀a b,l a b->Ct i (d a b) (·=v a b))(e:∀a b,(d a b).all iX=U:=by intros;exact A):∀ys K,aIc k ys K->jz aS GG i ys K:=by rintro ys K ⟨a,b,rfl,g,h⟩;exact nX (k a b g) (e a b) (λr j=>by rwa [j])
def pn{c B:Type}{d:c->B->dM}{e:c->B->Prop}{g:c->B->J3}(k:∀a b,e a b->Ct i (d a b) (g a b)):FT:=λys K=>∃a b,ys=d a b/\e a b/\∀r,g a b r->K r
def f211{c B:Type}{d:c->B->dM}{l:c->B->Prop}{m:c->B->J3}(k:∀a b,l a b->Ct i (d a b) (m a b))(o:F=pn k:=by exact A)(j:∀a b e g,d a b=d e g->a=e/\b=g:=by simp+contextual only[ij])(a:c)(b:B)(Lw K:J3):fW F (d a b) Lw K=(l a b/\∀r,m a b r->Lw r/\K r):=by subst o;apply bqL;constructor;rintro⟨e,g,h,n⟩;obtain⟨rfl,rfl⟩:=j _ _ _ _ h;exact n;intro h;exact⟨_,_,A,h⟩
def aN0{c B:Type}{d:c->B->dM}{l:c->B->Prop}{m:c->B->J3}(k:∀a b,l a b->Ct i (d a b) (m a b))(e:∀a b,(d a b).all iX=U:=by intros;exact A):∀ys K,pn k ys K->jz aS GG i ys K:=by rintro ys K ⟨a,b,rfl,g,h⟩;exact nX (k a b g) (e a b) (λr j=>h r j)
def buC{d B C:Type}{e:d->B->C->dM}{v:d->B->C->AV}(k:∀a b c,Ct i (e a b c) (·=v a b c)):FT:=λys K=>∃a b c,ys=e a b c/\K (v a b c)
def KP{e B C:Type}{d:e->B->C->dM}{v:e->B->C->AV}(k:∀a b c,Ct i (d a b c) (·=v a b c))(o:F=buC k:=by exact A)(j:∀a b c g l m,d a b c=d g l m->a=g/\b=l/\c=m:=by simp+contextual only[ij])(a:e)(b:B)(c:C)(Lw K:J3):fW F (d a b c) Lw K=(Lw (v a b c)/\K (v a b c)):=by subst o;apply bqL;constructor;rintro⟨g,l,m,h,n⟩;obtain⟨rfl,rfl,rfl⟩:=j _ _ _ _ _ _ h;exact n;intro h;exact⟨_,_,_,A,h⟩
def Rs{d B C:Type}{e:d->B->C->dM}{v:d->B->C->AV}(k:∀a b c,Ct i (e a b c) (·=v a b c))(g:∀a b c,(e a b c).all iX=U:=by intros;exact A):∀ys K,buC k ys K->jz aS GG i ys K:=by rintro ys K ⟨a,b,c,rfl,h⟩;exact nX (k a b c) (g a b c) (λr j=>by rwa [j])
def qe{d B C:Type}{e:d->B->C->dM}{g:d->B->C->Prop}{v:d->B->C->AV}(k:∀a b c,g a b c->Ct i (e a b c) (·=v a b c)):FT:=λys K=>∃a b c,ys=e a b c/\g a b c/\K (v a b c)
def sT{d B C:Type}{e:d->B->C->dM}{n:d->B->C->Prop}{v:d->B->C->AV}(k:∀a b c,n a b c->Ct i (e a b c) (·=v a b c))(p:F=qe k:=by exact A)(j:∀a b c g l m,e a b c=e g l m->a=g/\b=l/\c=m:=by simp+contextual only[ij])(a:d)(b:B)(c:C)(Lw K:J3):fW F (e a b c) Lw K=(n a b c/\Lw (v a b c)/\K (v a b c)):=by subst p;apply bqL;constructor;rintro⟨g,l,m,h,o⟩;obtain⟨rfl,rfl,rfl⟩:=j _ _ _ _ _ _ h;exact o;intro h;exact⟨_,_,_,A,h⟩
def tE{d B C:Type}{e:d->B->C->dM}{m:d->B->C->Prop}{v:d->B->C->AV}(k:∀a b c,m a b c->Ct i (e a b c) (·=v a b c))(g:∀a b c,(e a b c).all iX=U:=by intros;exact A):∀ys K,qe k ys K->jz aS GG i ys K:=by rintro ys K ⟨a,b,c,rfl,j,h⟩;exact nX (k a b c j) (g a b c) (λr l=>by rwa [l])
def vn{d B C:Type}{e:d->B->C->dM}{g:d->B->C->Prop}{h:d->B->C->J3}(k:∀a b c,g a b c->Ct i (e a b c) (h a b c)):FT:=λys K=>∃a b c,ys=e a b c/\g a b c/\∀r,h a b c r->K r
def zZ{d B C:Type}{e:d->B->C->dM}{n:d->B->C->Prop}{o:d->B->C->J3}(k:∀a b c,n a b c->Ct i (e a b c) (o a b c))(q:F=vn k:=by exact A)(j:∀a b c g l m,e a b c=e g l m->a=g/\b=l/\c=m:=by simp+contextual only[ij])(a:d)(b:B)(c:C)(Lw K:J3):fW F (e a b c) Lw K=(n a b c/\∀r,o a b c r->Lw r/\K r):=by subst q;apply bqL;constructor;rintro⟨g,l,m,h,p⟩;obtain⟨rfl,rfl,rfl⟩:=j _ _ _ _ _ _ h;exact p;intro h;exact⟨_,_,_,A,h⟩
def By{d B C:Type}{e:d->B->C->dM}{m:d->B->C->Prop}{n:d->B->C->J3}(k:∀a b c,m a b c->Ct i (e a b c) (n a b c))(g:∀a b c,(e a b c).all iX=U:=by intros;exact A):∀ys K,vn k ys K->jz aS GG i ys K:=by rintro ys K ⟨a,b,c,rfl,j,h⟩;exact nX (k a b c j) (g a b c) (λr l=>h r l)
def ER{e B C D:Type}{g:e->B->C->D->dM}{h:e->B->C->D->Prop}{j:e->B->C->D->J3}(k:∀a b c d,h a b c d->Ct i (g a b c d) (j a b c d)):FT:=λys K=>∃a b c d,ys=g a b c d/\h a b c d/\∀r,j a b c d r->K r
def axQ{e B C D:Type}{g:e->B->C->D->dM}{p:e->B->C->D->Prop}{q:e->B->C->D->J3}(k:∀a b c d,p a b c d->Ct i (g a b c d) (q a b c d))(t:F=ER k:=by exact A)(j:∀a b c d l m n o,g a b c d=g l m n o->a=l/\b=m/\c=n/\d=o:=by simp+contextual only[ij])(a:e)(b:B)(c:C)(d:D)(Lw K:J3):fW F (g a b c d) Lw K=(p a b c d/\∀r,q a b c d r->Lw r/\K r):=by subst t;apply bqL;constructor;rintro⟨l,m,n,o,h,s⟩;obtain⟨rfl,rfl,rfl,rfl⟩:=j _ _ _ _ _ _ _ _ h;exact s;intro h;exact⟨_,_,_,_,A,h⟩
def aM6{e B C D:Type}{g:e->B->C->D->dM}{n:e->B->C->D->Prop}{o:e->B->C->D->J3}(k:∀a b c d,n a b c d->Ct i (g a b c d) (o a b c d))(j:∀a b c d,(g a b c d).all iX=U:=by intros;exact A):∀ys K,ER k ys K->jz aS GG i ys K:=by rintro ys K ⟨a,b,c,d,rfl,l,h⟩;exact nX (k a b c d l) (j a b c d) (λr m=>h r m)
def bpg{g B C D E:Type}{h:g->B->C->D->E->dM}{j:g->B->C->D->E->Prop}{v:g->B->C->D->E->AV}(k:∀a b c d e,j a b c d e->Ct i (h a b c d e) (·=v a b c d e)):FT:=λys K=>∃a b c d e,ys=h a b c d e/\j a b c d e/\K (v a b c d e)
def KQ{g B C D E:Type}{l:g->B->C->D->E->dM}{r:g->B->C->D->E->Prop}{v:g->B->C->D->E->AV}(k:∀a b c d e,r a b c d e->Ct i (l a b c d e) (·=v a b c d e))(t:F=bpg k:=by exact A)(j:∀a b c d e m n o p q,l a b c d e=l m n o p q->a=m/\b=n/\c=o/\d=p/\e=q:=by simp+contextual only[ij])(a:g)(b:B)(c:C)(d:D)(e:E)(Lw K:J3):fW F (l a b c d e) Lw K=(r a b c d e/\Lw (v a b c d e)/\K (v a b c d e)):=by subst t;apply bqL;constructor;rintro⟨m,n,o,p,q,h,s⟩;obtain⟨rfl,rfl,rfl,rfl,rfl⟩:=j _ _ _ _ _ _ _ _ _ _ h;exact s;intro h;exact⟨_,_,_,_,_,A,h⟩
def Rt{g B C D E:Type}{j:g->B->C->D->E->dM}{o:g->B->C->D->E->Prop}{v:g->B->C->D->E->AV}(k:∀a b c d e,o a b c d e->Ct i (j a b c d e) (·=v a b c d e))(l:∀a b c d e,(j a b c d e).all iX=U:=by intros;exact A):∀ys K,bpg k ys K->jz aS GG i ys K:=by rintro ys K ⟨a,b,c,d,e,rfl,m,h⟩;exact nX (k a b c d e m) (l a b c d e) (λr n=>by rwa [n])
def BL{h B C D E G:Type}{j:h->B->C->D->E->G->dM}{l:h->B->C->D->E->G->Prop}{m:h->B->C->D->E->G->J3}(k:∀a b c d e g,l a b c d e g->Ct i (j a b c d e g) (m a b c d e g)):FT:=λys K=>∃a b c d e g,ys=j a b c d e g/\l a b c d e g/\∀r,m a b c d e g r->K r
def al4{l B C D E G:Type}{m:l->B->C->D->E->G->dM}{u:l->B->C->D->E->G->Prop}{v:l->B->C->D->E->G->J3}(k:∀a b c d e g,u a b c d e g->Ct i (m a b c d e g) (v a b c d e g))(x:F=BL k:=by exact A)(j:∀a b c d e g n o p q s t,m a b c d e g=m n o p q s t->a=n/\b=o/\c=p/\d=q/\e=s/\g=t:=by simp+contextual only[ij])(a:l)(b:B)(c:C)(d:D)(e:E)(g:G)(Lw K:J3):fW F (m a b c d e g) Lw K=(u a b c d e g/\∀r,v a b c d e g r->Lw r/\K r):=by subst x;apply bqL;constructor;rintro⟨n,o,p,q,s,t,h,w⟩;obtain⟨rfl,rfl,rfl,rfl,rfl,rfl⟩:=j _ _ _ _ _ _ _ _ _ _ _ _ h;exact w;intro h;exact⟨_,_,_,_,_,_,A,h⟩
def apO{j B C D E G:Type}{l:j->B->C->D->E->G->dM}{p:j->B->C->D->E->G->Prop}{q:j->B->C->D->E->G->J3}(k:∀a b c d e g,p a b c d e g->Ct i (l a b c d e g) (q a b c d e g))(m:∀a b c d e g,(l a b c d e g).all iX=U:=by intros;exact A):∀ys K,BL k ys K->jz aS GG i ys K:=by rintro ys K ⟨a,b,c,d,e,g,rfl,n,h⟩;exact nX (k a b c d e g n) (m a b c d e g) (λr o=>h r o)
end
abbrev bjw:dM:=[iv 0,iv 0]
abbrev bwH:dM:=[sv [],iv 0,iv 0,bv I,iv 0]
abbrev bwI:dM:=[sv [],bv I]
abbrev bwJ:dM:=[sv [],iv 0]
abbrev bwK:dM:=[iv 0,iv 0,iv 0]
abbrev bCK:dM:=[.l [] I I,iv 0,.l [] I I,.l [] I I,.l [] I I,.l [] I I,.l [] I I,.l [] I I,.l [] I I,.l [] I I]
abbrev bwL:dM:=[iv 0,.l [] I I]
abbrev zd2:dM:=[iv 0]
abbrev buY:dM:=[iv 0,bv I]
abbrev byk:dM:=[.l [] I I]
abbrev bAx:dM:=[iv 0,.l [] I I,.l [] I I,iv 0]
abbrev bwM:dM:=[sv [],iv 0,.l [] I I,.l [] I I]
abbrev byn:dM:=[iv 0,iv 0,iv 0,iv 0,iv 0,iv 0]
abbrev bvY:dM:=[iv 0,iv 0,sv [],.l [] I I]
abbrev bH:dM:=[iv 0]
abbrev bs4:dM:=[iv 0,iv 0,sv [],sv [],.l [] I I,iv 0,iv 0,sv [],.l [] I I,.l [] I I,.l [] I I]
abbrev byo:dM:=[iv 0,iv 0,iv 0,bv I]
abbrev bAy:dM:=[iv 0,iv 0,sv [],iv 0,iv 0,sv []]
abbrev byp:dM:=[.l [] I I,iv 0,.l [] I I,.l [] I I]
abbrev BD:dM:=[bv I]
abbrev byq:dM:=[.l [] I I,.l [] I I,.l [] I I,.l [] I I,.l [] I I,.l [] I I,iv 0,.l [] I I,iv 0,.l [] I I,.l [] I I,.l [] I I,.l [] I I,.l [] I I,.l [] I I]
abbrev bwN:dM:=[iv 0,iv 0,iv 0,iv 0,iv 0,.l [] I I]
abbrev bwO:dM:=[iv 0,iv 0,bv I]
abbrev EI:dM:=[iv 0,iv 0,iv 0,iv 0,iv 0,.l [] I I,.l [] I I]
abbrev zd9:dM:=[sv []]
abbrev EJ:dM:=[iv 0,iv 0,iv 0]
abbrev pj:dM:=[iv 0,iv 0,.l [] U U,.l [] U U]
abbrev bwR:dM:=[.l [] U U,iv 0]
abbrev bsF:dM:=[.l [] U U,iv 0,.l [] U U,.l [] U U,.l [] U U,.l [] U U,.l [] U U]
abbrev buB:dM:=[.l [] U U,.l [] U U,.l [] U U,.l [] U U,.l [] U U,.l [] U U,.l [] U U]
abbrev bCN:dM:=[.l [] U U,iv 0,.l [] U U,.l [] U U,.l [] U U,.l [] U U,.l [] U U,.l [] U U,.l [] U U,.l [] U U]
abbrev buZ:dM:=[.l [] U U,.l [] U U,.l [] U U,.l [] U U,.l [] U U,.l [] U U,iv 0,.l [] U U,iv 0,.l [] U U,.l [] U U,.l [] U U,.l [] U U,.l [] U U,.l [] U U,.l [] U U]
abbrev bu0:dM:=[iv 0,.l [] U U]
abbrev EN:dM:=[iv 0]
abbrev aOP:dM:=[.l [] U U,.l [] U U]
abbrev bys:dM:=[.l [] U U,.l [] U U,.l [] U U,.l [] U U,.l [] U U,.l [] U U,iv 0,.l [] U U,iv 0,.l [] U U,.l [] U U,.l [] U U,.l [] U U,.l [] U U,.l [] U U,.l [] U U,.s<|.map J,.l [] U U,.l [] U U,.l [] U U]
abbrev bAA:dM:=[.l [] U U]
abbrev btJ:dM:=[iv 0,.l [] U U,.l [] U U,iv 0]
abbrev bwS:dM:=[sv [],iv 0,.l [] U U,.l [] U U]
abbrev byv:dM:=[.l [] U U,.l [] U U,.l [] U U,.l [] U U,.l [] U U,.l [] U U,.l [] U U,.l [] U U,iv 0,iv 0]
abbrev bD4:dM:=[.s<|.pointer J,iv 0,iv 0,bv I,bv I,bv I,bv I,.l [] U U]
abbrev bvA:dM:=[iv 0,iv 0,sv [],.l [] U U]
abbrev fB:dM:=[iv 0]
abbrev bsW:dM:=[iv 0,iv 0,sv [],sv [],.l [] U U,iv 0,iv 0,sv [],.l [] U U,.l [] U U,.l [] U U]
abbrev byx:dM:=[.l [] U U,.l [] U U,.l [] U U,.l [] U U,.l [] U U,.l [] U U]
abbrev byy:dM:=[.l [] U U,.l [] U U,iv 0,.l [] U U,.l [] U U,.l [] U U]
abbrev bAC:dM:=[bv I,bv I]
abbrev btW:dM:=[.l [] U U,iv 0,.l [] U U,.l [] U U]
abbrev BE:dM:=[bv I]
abbrev bvC:dM:=[.l [] U U,.l [] U U,.l [] U U,.l [] U U,.l [] U U,.l [] U U,iv 0,.l [] U U,iv 0,.l [] U U,.l [] U U,.l [] U U,.l [] U U,.l [] U U,.l [] U U]
abbrev bu2:dM:=[iv 0,iv 0,iv 0,iv 0,iv 0,.l [] U U]
abbrev bti:dM:=[iv 0,iv 0,iv 0,iv 0,iv 0,.l [] U U,.l [] U U]
abbrev aQ2:dM:=[.l [] U U,iv 0,.l [] U U,.l [] U U,.l [] U U,.l [] U U,.l [] U U,.l [] U U,.l [] U U]
abbrev zz9:dM:=[sv []]
abbrev mc:dM:=[iv 0,iv 0,iv 0]
def ZT:List (Nat×dM):=[(104,pj),(113,bjw),(119,bwH),(121,bwI),(123,bwJ),(125,bwK),(140,bwR),(145,bsF),(150,buB),(165,bCN),(172,buZ),(191,bu0),(2,EN),(217,aOP),(222,buY),(232,aOP),(241,bys),(246,bwK),(25,bAA),(273,bu0),(277,btJ),(284,bwS),(286,byv),(290,byn),(294,bD4),(298,bvA),(3,fB),(300,bsW),(319,byo),(34,byx),(344,byy),(347,bAy),(354,bAC),(39,btW),(4,BE),(42,bsF),(45,bvC),(48,bu2),(53,aOP),(69,bwO),(71,bti),(77,buB),(85,aQ2),(9,zz9),(98,mc)]
def ZD:List (Nat×dM):=[(113,bjw),(119,bwH),(121,bwI),(123,bwJ),(125,bwK),(165,bCK),(191,bwL),(2,zd2),(222,buY),(246,bwK),(25,byk),(273,bwL),(277,bAx),(284,bwM),(290,byn),(298,bvY),(3,bH),(300,bs4),(319,byo),(347,bAy),(36,byk),(39,byp),(4,BD),(45,byq),(48,bwN),(69,bwO),(71,EI),(9,zd9),(98,EJ)]
section
class Hd (α:Type) where v:α
noncomputable def qp{α}(n:Nat)[h:Hd α]:α:=h.v
def qz(n):(∀{α:Type} {f a},@qp (α->Prop) n ⟨f⟩ a=f a)/\(∀{α β:Type} {f a b},@qp (α->β->Prop) n ⟨f⟩ a b=f a b)/\(∀{α β e:Type} {f a b c},@qp (α->β->e->Prop) n ⟨f⟩ a b c=f a b c)/\∀{α β e g:Type} {f a b c d},@qp (α->β->e->g->Prop) n ⟨f⟩ a b c d=f a b c d:=⟨A,A,A,A⟩
noncomputable def qm{α}(n:Nat)(x:α):α:=x
def qy{α}(n){x}:@qp α n ⟨x⟩=x:=rfl
def bs7{α n x}:qm n x=@qp α n ⟨x⟩:=rfl
inductive RD
 |pk(c a b:AV)
 |ld(k:Option Nat)(Y:ae)(x:AV)
 |nl(Y:ae)(x:AV)
 |bi(o:BinOp)(c:Nat)(fs:List<|Nat×Nat)(x y:AV)
 |un(o:UnOp)(x:AV)
 |cv(k:Option IntKind)(x:AV)
 |fa(o:Nat)(Y:ae)(x:AV)
 |fl(o:Nat)(k:Option Nat)(x:AV)
 |ix(z:Nat)(Y:ae)(x i:AV)
 |ia(n z:Nat)(Y:ae)(x i:AV)
 |sx(x i:AV)
 |ax(n z:Nat)(k:Option Nat)(x i:AV)
 |ex(i:Nat)(x:AV)
 |lu(m:MT)(Y:ae)(x k:AV)(ok:Bool)
 |ss(x:AV)(a b c:Option AV)
 |sl(z:Nat)(Y:ae)(x:AV)(a b c:Option AV)
 |br(zs:dM)(z:Nat)(l:List<|Nat×AV)
 |bd(zs:dM)(p:List<|Nat×Nat)(l:List<|Nat×AV)
 |ln(Y:ae)(x:AV)
 |ls(x:AV)
 |cp(x:AV)
 |mm(o:Builtin)(x y:AV)
def RD.o:RD->Option AV| .pk c a b=>mL c a b| .ld k Y x=>sA k Y x| .nl Y x=>cO Y x| .bi o c fs x y=>bc4 o c fs x y| .un o x=>cR o x| .cv k x=>sO k x| .fa o Y x=>iQ o Y x| .fl o k x=>cK o k x| .ix z Y x i=>cz z Y x i| .ia n z Y x i=>wm n z Y x i| .sx x i=>sxA x i| .ax n z k x i=>sI n z k x i| .ex i x=>eO i x| .lu m Y x k d=>oP m Y x k d| .ss x a b c=>Q8 x a b c| .sl z Y x a b c=>fo z Y x a b c| .br zs z l=>tY zs z l| .bd zs p l=>bM zs p l| .ln Y x=>fS Y x| .ls x=>lsA x| .cp x=>cpA x| .mm o x y=>AO o x y
inductive ED
 |al(e:Nat)(zs:dM)(Y:ae)(d:Nat)
 |bx(e z:Nat)(Y:ae)(d:Nat)(x:AV)
 |lv(e:Nat)(zs:dM)(n:Nat)(Y:ae)(d:Nat)(l:List<|Nat×AV)
 |bs(zs:dM)(n:Nat)(Y:ae)(l:List<|Nat×AV)
 |mk(e:Nat)(zs:dM)(b:Nat)(Y:ae)(d:Nat)(l c:AV)
 |mm(t:Nat)(Y:ae)(d:Nat)
 |rg(Y:ae)(d:Nat)(x:AV)
 |nx(Y:ae)(x:AV)
 |ap(e:Nat)(zs:dM)(b:Nat)(Y:ae)(d:Nat)(s x:AV)
 |az(e:Nat)(zs:dM)(b:Nat)(Y:ae)(d:Nat)(s x:AV)
 |av(e:Nat)(zs:dM)(b:Nat)(Y:ae)(d:Nat)(s x:AV)
 |cy(Y:ae)(x y:AV)
def ED.o:ED->Option (AV×ae)| .al e zs Y d=>alA e zs Y d| .bx e z Y d x=>bxA e z Y d x| .lv e zs n Y d l=>lvS e zs n Y d l| .bs zs n Y l=>aX zs n Y l| .mk e zs b Y d l c=>qO e zs b Y d l c| .mm t Y d=>oS t Y d| .rg Y d x=>tu Y d x| .nx Y x=>se Y x| .ap e zs b Y d s x=>apA e zs b Y d s x| .az e zs b Y d s x=>azA e zs b Y d s x| .cy Y x y=>cyA Y x y| .av e zs b Y d s x=>avA e zs b Y d s x
inductive SD
 |st(z:Nat)(Y:ae)(x v:AV)
 |mu(m:MT)(Y:ae)(x k v:AV)
 |cl{z:Value}(Y:ae)(x:AV)
def SD.o:SD->Option ae| .st z Y x v=>aK z Y x v| .mu m Y x k v=>muA m Y x k v|@SD.cl z Y x=>pA z Y x
inductive LD
 |b(r:Bool)(xs:dM)(d:eP)
 |v(Y:ae)(x y:AV)
 |s(xs:dM)
 |c(r:Bool)(Y:ae)
 |f(g:AV)(xs:dM)(Y:ae)(d:Nat)
def LD.o:LD->fY| .b r xs d=>lb r xs d| .v Y x y=>lbV Y x y| .s xs=>Qh xs| .c r Y=>cq r Y| .f g xs Y d=>lbF GG g xs Y d
def cD(k:Nat)(fn:Nat)(xs:dM)(Y:ae)(d:Nat)(K:be):Prop:=match k with|0=>cB fn xs Y d K|1=>cV fn xs Y d K|_=>cN fn xs Y d K
inductive D
 |ff
 |kd(k:J3)(v:AV)
 |kE(k:be)(v:AV)(s:ae)
 |gR(b:Bool)(x:AV)(Aq:(J3)->D)(K:AV->D)
 |gE(b:Bool)(x:AV)(Aq:(be)->D)(Y:ae)(K:AV->ae->D)
 |r(o:RD)(K:AV->D)
 |fc{F:FT}(Y:ae)(xs:dM)(K:AV->D)
 |fx(fn:Nat)(Y:ae)(xs:dM)(K:AV->D)
 |e0(o:ED)(K:AV->ae->D)
 |e(t:Nat)(o:ED)(K:AV->ae->D)
 |s0(o:SD)(K:ae->D)
 |s(t:Nat)(o:SD)(K:ae->D)
 |c0(k fn:Nat)(xs:dM)(Y:ae)(d:Nat)(K:AV->ae->D)
 |c(t k fn:Nat)(xs:dM)(Y:ae)(d:Nat)(K:AV->ae->D)
 |cF(f:AV)(xs:dM)(Y:ae)(d:Nat)(K:AV->ae->D)
 |ap(l:List LD)(p:List<|Nat×Nat)(R:D)
 |ite(c:AV)(Aq B:D)
 |jV(n a b:Nat)(B:dM->ae->D)(Aq:(aG)->D)
 |jR(n a b:Nat)(B:dM->D)(Aq:(dM->Prop)->D)
 |J2(J:aG)(vs:dM)(s:ae)
 |J1(J:dM->Prop)(vs:dM)
 |I2(I:aG)(μ:bu)(x:dM)(s:ae)(vs:dM)(Y:ae)
 |I1(I:dM->Prop)(μ:dM->Nat)(x vs:dM)
 |al(f:Rg->D)
 |lV(t:Nat)(vs:dM)(Y:ae)(B:(aG)->(bu)->dM->ae->D)
 |lR(t:Nat)(vs:dM)(B:(dM->Prop)->(dM->Nat)->dM->D)
 |rt(R:J3)(Y:ae)(vs:dM)
 |rb(R:be)(Y:ae)(vs:dM)
def den:D->Prop| .ff=>False| .kd k v=>k v| .kE k v s=>k v s| .gR b x i K=>gR (gP b x) (λk=>den<|i k) λv=>den (K v)| .gE b x i Y K=>gE (gP b x) (λk=>den<|i k) Y λv s=>den (K v s)| .r o K=>rV o.o λv=>den (K v)|@D.fc F Y xs K=>fV F Y xs λv=>den (K v)| .fx fn Y xs K=>fV (cX fn) Y xs λv=>den (K v)| .e0 o K=>eV o.o λv s=>den (K v s)| .e t o K=>eV o.o (qm t λv s=>den<|K v s)| .s0 o K=>sV o.o λs=>den (K s)| .s t o K=>sV o.o (qm t λs=>den<|K s)| .c0 k fn xs Y d K=>cD k fn xs Y d λv s=>den (K v s)| .c t k fn xs Y d K=>cD k fn xs Y d (qm t λv s=>den<|K v s)| .cF f xs Y d K=>cF f xs Y d λv s=>den (K v s)| .ap l p R=>dH (l.map LD.o) p (den R)| .ite c i B=>ah c (den i) (den B)| .jV n a b B i=>jV n (qm a λvs s=>den<|B vs s) (qm b λh=>den<|i h)| .jR n a b B i=>jR n (qm a λvs=>den<|B vs) (qm b λh=>den<|i h)| .J2 h vs s=>h vs s| .J1 h vs=>h vs| .I2 g m x s vs Y=>g x s/\m x s<m vs Y| .I1 g m x vs=>g x/\m x<m vs| .al f=>∀j,den (f j)| .lV t vs Y B=>lV vs Y (qm t λg m vs Y=>den<|B g m vs Y)| .lR t vs B=>lR vs (qm t λg m vs=>den<|B g m vs)| .rt R Y vs=>aE R Y vs| .rb R Y vs=>aRf R Y vs
def zld{l:dM}:dM:=l
def zfd(t:Nat):List (Nat×dM)->dM|[]=>[]|(k,l)::r=>bif aOU t k then @zld l else zfd t r
abbrev zzd(t:Nat):dM:=zfd t ZT
abbrev zdd(t:Nat):dM:=zfd t ZD
def bqT{v:Value}:AV:= .s v
def ivd{n:Int}:AV:=iv n
def bvd{b:Bool}:AV:=bv b
def gld{l:dM}:AV:= .q l
def gtd(l:dM)(i:Nat):AV:=gt l i
def btj{l}:@zld l=l:=rfl
def bsH{v}:@bqT v= .s v:=rfl
def bsU{n}:@ivd n=iv n:=rfl
def bsG{b}:@bvd b=bv b:=rfl
def bsL{l}:@gld l= .q l:=rfl
def bsN{l i}:gtd l i=gt l i:=rfl
section
noncomputable abbrev PP:Program:=aS
noncomputable def kT(t:Nat):Option Nat:=(qK PP t).getD J
noncomputable def zT(t:Nat):Nat:=(fG PP t).getD 0
noncomputable def tyQ(t:Nat):Nat×List (Nat×Nat):=
 match PP.underlying t with
 |some .bool=>(1,[])
 |some (.struct fs)=>(match nk PP fs.toList with|some l=>(2,l)|none=>(0,[]))
 |_=>(0,[])
noncomputable def mpQ(t:Nat):Option MT:=
 match PP.underlying t with
 |some (.map k e)=>
  match(PP.info? e).bind (·.zero),PP.underlying k with
  |some z,some (.struct fs)=>(nk PP fs.toList).map λl=>⟨U,l,z⟩
  |some z,some .string=>V ⟨I,[],z⟩
  |some z,_=>V ⟨I,[(0,0)],z⟩
  |_,_=>J
 |_=>J
noncomputable def dE(G:Env)(c:Rg):Operand->AV
 | .tmp t=>c t
 | .const v=>match v with| .int .i64 n=>@ivd n| .bool b=>@bvd b| .agg l=> .a (l.toList.map λv=>match v with| .int .i64 n=>@ivd n| .bool b=>@bvd b| .slice .. => .l [] U U|v=>@bqT v)| .slice .. => .l [] U U|v=>@bqT v
 | .global g=>match G g with|some cs=>@gld cs|none=> .u
 | .func f=> .f f [] []
noncomputable def bsy(fn:Nat):dO->Option (Nat×FT)
 |[]=>J
 |p::T=>bif aOU fn p.1 then V p else bsy fn T
def ex(t:Nat)(o:ED)(K:AV->ae->D):D:=bif aOU t 0 then .e0 o K else .e t o K
def sx(t:Nat)(o:SD)(K:AV->ae->D):D:=bif aOU t 0 then .s0 o λs=>K (.t []) s else .s t o λs=>K (.t []) s
def cx(t k fn:Nat)(xs:dM)(Y:ae)(d:Nat)(K:AV->ae->D):D:=bif aOU t 0 then .c0 k fn xs Y d K else .c t k fn xs Y d K
noncomputable def zr(G:Env)(T:dO)(g:Rg)(Y:ae)(op:Op)(K:AV->D):D:=
 match op with
 | .move x=>K<|dE G g x
 | .assign x=>K<|dE G g x
 | .pick c a b=> .r (.pk (dE G g c) (dE G g a)<|dE G g b) K
 | .load t x=> .r (.ld (kT t) Y<|dE G g x) K
 | .nilCheck x=> .r (.nl Y<|dE G g x) K
 | .binOp op t x y _=> .r (.bi op (tyQ t).1 (tyQ t).2 (dE G g x)<|dE G g y) K
 | .unOp op _ x=> .r (.un op<|dE G g x) K
 | .convert s d x=>match KD PP s d with|some k=> .r (.cv k<|dE G g x) K|none=> .ff
 | .fieldAddr s x f=> .r (.fa ((KR PP s f).getD 0) Y<|dE G g x) K
 | .field t x f=>match QF PP t f with|some (a,k)=> .r (.fl a k<|dE G g x) K|none=> .ff
 | .indexAddr t x ix=>
  match PP.underlying t with
  |some (.slice e)=> .r (.ix (zT e) Y (dE G g x)<|dE G g ix) K
  |some (.array n e)=> .r (.ia n (zT e) Y (dE G g x)<|dE G g ix) K
  |_=> .ff
 | .index t x ix=>
  match PP.underlying t with
  |some .string=> .r (.sx (dE G g x)<|dE G g ix) K
  |some (.array n e)=> .r (.ax n (zT e) (kT e) (dE G g x)<|dE G g ix) K
  |_=> .ff
 | .extract x i=> .r (.ex i<|dE G g x) K
 | .lookup t x ix m=>match mpQ t with|some l=> .r (.lu l Y (dE G g x) (dE G g ix) m) K|none=> .ff
 | .slice t x lo j mx=>
  match PP.underlying t with
  |some .string=> .r (.ss (dE G g x) (lo.map<|dE G g) (j.map<|dE G g)<|mx.map<|dE G g) K
  |some (.slice e)=> .r (.sl (zT e) Y (dE G g x) (lo.map<|dE G g) (j.map<|dE G g)<|mx.map<|dE G g) K
  |_=> .ff
 | .makeFunc fn first cap=>match fn with| .func f=>K (.f f (first.toList.map (dE G g)) (cap.toList.map<|dE G g))|_=> .ff
 | .build t h=>
  match PP.underlying t with
  |some (.array n e)=> .r (.br (zzd t) (zT e)<|h.toList.map λp=>(p.1,dE G g p.2)) K
  |_=>match QG PP t with|some pl=> .r (.bd (zzd t) pl<|h.toList.map λp=>(p.1,dE G g p.2)) K|none=> .ff
 | .call c=>
  match c.callee with
  | .builtin .len=>
   match c.argTypes.toList,c.args.toList with
   |[t],[x]=>
    match PP.underlying t with
    |some (.slice _)=> .r (.ln Y<|dE G g x) K
    |some .string=> .r (.ls<|dE G g x) K
    |some (.array n _)=>K<|.s<|.int .i64 n
    |_=> .ff
   |_,_=> .ff
  | .builtin .cap=>match c.args.toList with|[x]=> .r (.cp<|dE G g x) K|_=> .ff
  | .builtin .min=>match c.args.toList with|[x,y]=> .r (.mm .min (dE G g x)<|dE G g y) K|_=> .ff
  | .builtin .max=>match c.args.toList with|[x,y]=> .r (.mm .max (dE G g x)<|dE G g y) K|_=> .ff
  | .value (.func fn)=>match bsy fn T with|some (_,F)=>@D.fc F Y (c.args.toList.map<|dE G g) K|none=> .fx fn Y (c.args.toList.map<|dE G g) K
  |_=> .ff
 |_=> .ff
noncomputable def ze(G:Env)(t:Nat)(a:Rg)(Y:ae)(d:Nat)(op:Op)(K:AV->ae->D):D:=
 match op with
 | .alloc e=>ex t (.al e (zzd e) Y d) K
 | .box e x=> .e0 (.bx e (zT e) Y d<|dE G a x) K
 | .buildSlice ty len b=>
  match PP.underlying ty with
  |some (.slice e)=>bif aPm PP ty then ex t (.lv e (zdd e) len Y d<|b.toList.map λp=>(p.1,dE G a p.2)) K else ex t (.bs (zdd e) len Y<|b.toList.map λp=>(p.1,dE G a p.2)) K
  |_=> .ff
 | .makeSlice ty l c=>
  match PP.underlying ty with
  |some (.slice e)=>ex t (.mk e (zdd e) (mZ PP e) Y d (dE G a l)<|dE G a c) K
  |_=> .ff
 | .store ty x v=>sx t (.st (zT ty) Y (dE G a x)<|dE G a v) K
 | .call c=>
  match c.callee with
  | .builtin .append=>
   match c.args.toList,c.argTypes.toList with
   |[s,x],[ty,h]=>
    match PP.underlying ty with
    |some (.slice e)=>bif aOU ty h then(bif aPm PP ty then ex t (.av e (zzd e) (mZ PP e) Y d (dE G a s)<|dE G a x) K else ex t (.ap e (zzd e) (mZ PP e) Y d (dE G a s)<|dE G a x) K) else ex t (.az e (zdd e) (mZ PP e) Y d (dE G a s)<|dE G a x) K
    |_=> .ff
   |_,_=> .ff
  | .builtin .clear=>
   match c.args.toList,c.argTypes.toList with
   |[x],[ty]=>match xD PP ty with|some z=>sx t (@SD.cl z Y<|dE G a x) K|none=> .ff
   |_,_=> .ff
  | .builtin .copy=>
   match c.args.toList,c.argTypes.toList with
   |[x,y],[ty,tz]=>bif cyT PP ty tz then ex t (.cy Y (dE G a x)<|dE G a y) K else .ff
   |_,_=> .ff
  | .value f=>
   match f with
   | .func fn=>bif G.nw fn then cx t 2 fn (c.args.toList.map<|dE G a) Y d K else match(bif G.sv then G.fp fn else J) with|some _=>cx t 1 fn (c.args.toList.map<|dE G a) Y d K|none=>cx t 0 fn (c.args.toList.map<|dE G a) Y d K
   |f=> .cF (dE G a f) (c.args.toList.map<|dE G a) Y d K
  |_=> .ff
 | .makeMap ty r=>ex t (.mm ty Y d) K
 | .mapUpdate ty x k v=>match mpQ ty with|some g=>sx t (.mu g Y (dE G a x) (dE G a k)<|dE G a v) K|none=> .ff
 | .range ty x=>ex t (.rg Y d<|dE G a x) K
 | .next x st=>ex t (.nx Y<|dE G a x) K
 |_=> .ff
noncomputable def kq(K:Rg->ae->D)(a:Rg)(d:Option Nat)(v:AV)(Y:ae):D:=match d with|some d=>K (up a d v) Y|none=>K a Y
noncomputable def kw(K:Rg->ae->D)(a:Rg)(d:Option Nat)(s:Nat)(Y:ae):D:=match d with|some d=>K (mv a d s) Y|none=>K a Y
noncomputable def zo(G:Env)(T:dO)(ops:Array Oper)(o:Oper)(t:Nat)(K:Rg->ae->D)(a:Rg)(Y:ae):D:=
 match mvS o with
 |some s=>kw K a o.dst s Y
 |none=>
  match o.guard with
  |none=>bif iT G o.op then zr G T a Y o.op λv=>kq K a o.dst v Y else ze G t a Y (o.dst.getD 0) o.op λv s=>kq K a o.dst v s
  |some g=>
   match(ops[g.1]?).bind (·.dst) with
   |none=> .ff
   |some x=>bif iT G o.op then .gR g.2 (a x) (λk=>zr G T a Y o.op λv=> .kd k v) λv=>kq K a o.dst v Y else .gE g.2 (a x) (λk=>ze G 0 a Y (o.dst.getD 0) o.op λv s=> .kE k v s) Y λv s=>kq K a o.dst v s
noncomputable def zb(o:Oper):Bool:=match o.op with| .box _ _=>U|_=>I
noncomputable def zs(G:Env)(T:dO)(ops:Array Oper):List Oper->dM->Nat->(Rg->ae->D)->Rg->ae->D
 |[],_,_,K=>K
 |o::l,bs,b,K=>λc Y=>
  match bif zb o then bs else[] with
  |v::a=>zs G T ops l a (b+1) K (pu c o.dst v) Y
  |[]=>zo G T ops o (2*b+2) (zs G T ops l bs (bif iT G o.op then b else b+1) K) c Y
noncomputable def zl(G:Env)(a:Rg)(Y:ae)(d:Nat)(op:Op):LD:=
 match op with
 | .move _=> .b U [] []
 | .assign _=> .b U [] []
 | .store _ x v=>bif G.sv then .v Y (dE G a x) (dE G a v) else .b I (op.operands.toList.map<|dE G a) []
 | .buildSlice t _ _=> .b I (op.operands.toList.map<|dE G a)<|bif aPm PP t then[d] else[]
 | .call c=>
  match c.callee with
  | .value f=>
   match f with
   | .func fn=>bif G.nw fn then .b I (op.operands.toList.map<|dE G a) [d] else match(bif G.sv then G.fp fn else J) with|some l=> .b I [] l|none=>bif G.imp fn then .c (G.rd fn) Y else .s<|op.operands.toList.map<|dE G a
   |f=> .f (dE G a f) (c.args.toList.map<|dE G a) Y d
  |_=> .b (iT G op) (op.operands.toList.map<|dE G a)<|bif iT G op then[] else[d]
 |_=> .b (iT G op) (op.operands.toList.map<|dE G a)<|bif iT G op then[] else[d]
noncomputable def zy(G:Env)(T:dO)(ops:Array Oper):List Oper->dM->Nat->List LD->(List LD->Rg->ae->D)->Rg->ae->D
 |[],_,_,acc,K=>K acc
 |o::l,bs,b,acc,K=>λa Y=>
  match bif zb o then bs else[] with
  |v::c=>zy G T ops l c (b+1) (zl G a Y (o.dst.getD 0) o.op::acc) K (pu a o.dst v) Y
  |[]=>zo G T ops o (2*b+2) (zy G T ops l bs (bif iT G o.op then b else b+1) (zl G a Y (o.dst.getD 0) o.op::acc) K) a Y
def frc{α}(n:Nat)(k:Nat->α):α:=match n with|0=>k 0|m+1=>k<|m+1
def msk(acc:eP)(n:Nat):List Edge->Nat->Nat|[],s=>s|e::l,s=>msk acc n l<|bif Region.binds .any e then s|||2^e.on|||acc.getD (n-1-e.on) 0 else s
def prI(m j:Nat)(r:Bool):List Bool->Nat->List (Nat×Nat)->List (Nat×Nat)|[],_,R=>R|x::l,i,R=>bif Nat.ble j i then R else bif Nat.testBit m i||(x&&r) then prI m j r l (i+1) R else(i,j)::prI m j r l (i+1) R
def prJ(G:Env)(a:List Bool):List Oper->Nat->eP->List (Nat×Nat)|[],_,_=>[]|o::l,j,acc=>frc (msk acc j o.after.toList 0) λm=>prI m j (iT G o.op) a 0<|prJ G a l (j+1) (m::acc)
def rvd:List LD->List LD->List LD|[],r=>r|x::l,r=>rvd l (x::r)
noncomputable def apx(a:List LD)(l:List<|Nat×Nat)(R:D):D:=match l with|[]=>R|_=> .ap a l R
abbrev QD:=Exit->Rg->ae->D
noncomputable def nE(G:Env):Code->Nat
 | .region _ ops _=>L (ops.toList.filter λo=>!iT G o.op)
 | .seq x y=>nE G x+nE G y
 | .cond _ x y=>nE G x+nE G y
 | .block _ c=>nE G c
 | .loop c=>nE G c
 |_=>0
noncomputable def QD.then(K:Rg->ae->D)(Q:QD):QD:=λe a Y=>match e with| .normal=>K a Y|e=>Q e a Y
noncomputable def QD.inBlock(b:Nat)(Q:QD):QD:=λe a Y=>match e with| .exit j=>bif aOU j b then Q .normal a Y else Q (.exit j) a Y|e=>Q e a Y
noncomputable def ovM(vs:dM)(d:AV)(k:Nat):eP->Nat->AV
 |[],_=>d
 |x::Lw,i=>bif aOU k x then gtd vs i else ovM vs d k Lw<|i+1
noncomputable def ow(b:Rg)(Lw a:eP)(vs:dM)(j:Rg):Rg:=λk=>ovM vs (bif a.elem k then b k else j k) k Lw 0
noncomputable def zc(G:Env)(T:dO)(an:List<|Option<|eP×eP):Code->dM->Nat->Nat->QD->Rg->ae->D
 | .skip,_,_,_,Q=>Q .normal
 | .label _,_,_,_,Q=>Q .normal
 | .region _ ops m,bs,_,b,Q=>bif m&&!rG G ops.toList then zy G T ops ops.toList bs b [] λk e Y=>apx (rvd k []) (prJ G (ops.toList.map λo=>iT G o.op) ops.toList 0 []) (Q .normal e Y) else zs G T ops ops.toList bs b<|Q .normal
 | .seq x y,bs,i,b,Q=>λe Y=>
  match an.getD i J with
  |none=>zc G T an x bs (i+1) b (QD.then (zc G T an y [] (i+1+cnt x) (b+nE G x) Q) Q) e Y
  |some p=>
   match jL G x with
   |true=> .jV i (2*(3*i+1)+1) (2*(3*i+2)+1) (λvs Y=> .al λj=>zc G T an y [] (i+1+cnt x) (b+nE G x) Q (ow e p.1 p.2 vs j) Y) λd=>zc G T an x bs (i+1) b (QD.then (λg Y'=> .J2 d (p.1.map g) Y') Q) e Y
   |false=> .jR i (2*(3*i+1)+1) (2*(3*i+2)+1) (λvs=> .al λj=>zc G T an y [] (i+1+cnt x) (b+nE G x) Q (ow e p.1 p.2 vs j) Y) λd=>zc G T an x bs (i+1) b (QD.then (λg _=> .J1 d<|p.1.map g) Q) e Y
 | .cond c x y,_,i,b,Q=>λe Y=> .ite (dE G e c) (zc G T an x [] i b Q e Y)<|zc G T an y [] (i+cnt x) (b+nE G x) Q e Y
 | .block h c,bs,i,b,Q=>zc G T an c bs i b<|QD.inBlock h Q
 | .loop c,_,i,b,Q=>λe Y=>
  match an.getD i J with
  |none=> .ff
  |some p=>
   match jL G c with
   |true=> .lV (2*(3*i)+1) (p.1.map e) Y λa l vs Y=> .al λj=>zc G T an c [] (i+1) b (QD.then (λg Y'=> .I2 a l (p.1.map g) Y' vs Y) Q) (ow e p.1 p.2 vs j) Y
   |false=> .lR (2*(3*i)+1) (p.1.map e) λa l vs=> .al λj=>zc G T an c [] (i+1) b (QD.then (λg _=> .I1 a l (p.1.map g) vs) Q) (ow e p.1 p.2 vs j) Y
 | .exit h,_,_,_,Q=>Q<|.exit h
 | .ret,_,_,_,Q=>Q .ret
 |_,_,_,_,_=>λ_ _=> .ff
noncomputable def zR(b:Rg)(Y:ae):List ResultVar->(dM->D)->D
 |[],K=>K []
 |x::l,K=>
  match x with
  | .tmp t=>zR b Y l λvs=>K (b t::vs)
  | .cell a t=> .r (.ld (kT t) Y<|b a) λv=>zR b Y l λvs=>K (v::vs)
noncomputable def I3(f:Func)(R:J3):QD:=λe a Y=>match e with| .normal=>zR a Y f.results.toList (.rt R Y)| .ret=>zR a Y f.results.toList (.rt R Y)|_=> .ff
noncomputable def QDb(f:Func)(R:be):QD:=λe a Y=>match e with| .normal=>zR a Y f.results.toList (.rb R Y)| .ret=>zR a Y f.results.toList (.rb R Y)|_=> .ff
noncomputable def ro(xs:dM):Rg:=λk=>match xs[k]? with|some v=>v|none=> .t []
noncomputable def zF(G:Env)(T:dO)(an:List<|Option<|eP×eP)(f:Func)(xs bs:dM)(Y:ae)(Q:QD):D:=
 match f.body with
 |some c=>zc G T an c bs 0 0 Q (ro xs) Y
 |none=> .ff
end
attribute[irreducible] ivd bvd zld bqT gld gtd
end
structure NF(z:D) where
 p:Prop
 h:den z=p:=by
  conv=>
   lhs
   conv=>
    arg 1
    reduce
   dsimp only[den,RD.o,ED.o,SD.o,LD.o,cD,List.map,btj,bsH,bsU,bsG,bsL,bsN]
   dsimp only[bs7]
def bsf{B}{b:(aG)->Prop}(P:(aG)->Prop)(h:P B)(c:∀a,P a->b a):b B:=c B h
def bs6{B}{b:(dM->Prop)->Prop}(P:(dM->Prop)->Prop)(h:P B)(c:∀a,P a->b a):b B:=c B h
def bpF{n B b}(P:(aG)->Prop)(h:P B)(c:∀a,P a->b a):jV n B b:=c B h
def bvP{n B b}(P:(dM->Prop)->Prop)(h:P B)(c:∀a,P a->b a):jR n B b:=c B h
abbrev NR(T:dO)(an:List<|Option<|eP×eP)(f:Func)(xs bs:dM)(Y:ae)(R:J3):=NF<|zF GG T an f xs bs Y<|I3 f R
abbrev NS(T:dO)(an:List<|Option<|eP×eP)(f:Func)(xs bs:dM)(Y:ae)(R:be):=NF<|zF GG T an f xs bs Y<|QDb f R
def nf{z:D}{p:Prop}(h:den z=p:=by
  conv=>
   lhs
   conv=>
    arg 1
    reduce
   dsimp only[den,RD.o,ED.o,SD.o,LD.o,cD,List.map,btj,bsH,bsU,bsG,bsL,bsN]
   dsimp only[bs7]):den z=p:=h
section
variable{T:dO}{f:Func}{fn:Nat}
def y0(c:eJ T)(a:aS.funcs[fn]?=V f)(an:List<|Option<|eP×eP)(xs:dM){W:ae->J3->Prop}(e:∀s R,den (zF GG T an f xs [] s<|I3 f R)=W s R:=by intros;exact nf)(b:uM an f (L xs)=U:=by kernel_rfl)(d:∀R,ZF aS GG T an f xs R=W (ly f) R:=by intros;kernel_rfl)⦃R:J3⦄(h:H0 λs=>W s R):Ct fn xs R:=z0 an c a h b<|d R
def y1(t n p:Nat)(j:eJ T)(b:aS.funcs[fn]?=V f)(an:List<|Option<|eP×eP)(c xs:dM){W:AV->ae->J3->Prop}(l:∀i s R,den (zF GG T an f xs [i] s<|I3 f R)=W i s R:=by intros;exact nf)(d:uM an f (L xs)=U:=by kernel_rfl)(g:Q (p<4096/\0<n)=U:=by exact A)(k:∀R,ZF aS GG T an f xs R=eV (bxA t n (ly f) p<|.a c) λi s=>W i s R:=by intros;kernel_rfl)(e:L c=n)⦃R:J3⦄(h:H1 t n p c λi s=>W i s R):Ct fn xs R:=z1 an j b e h d g<|k R
def y2(t n p k b d:Nat)(r:eJ T)(l:aS.funcs[fn]?=V f)(an:List<|Option<|eP×eP)(c e xs:dM){W:AV->AV->ae->J3->Prop}(v:∀i j s R,den (zF GG T an f xs [i,j] s<|I3 f R)=W i j s R:=by intros;exact nf)(m:uM an f (L xs)=U:=by kernel_rfl)(q:Q ((p<4096/\0<n)/\(d<4096/\0<b)/\p≠d)=U:=by exact A)(u:∀R,ZF aS GG T an f xs R=eV (bxA t n (ly f) p<|.a c) λi s=>eV (bxA k b s d<|.a e) λj s=>W i j s R:=by intros;kernel_rfl)(o:L c=n)(g:L e=b)⦃R:J3⦄(h:H2 t n p c k b d e λi j s=>W i j s R):Ct fn xs R:=z2 an r l o g h m q<|u R
def yB(c:pq aS GG T)(a:aS.funcs[fn]?=V f)(an:List<|Option<|eP×eP)(xs:dM){W:ae->be->Prop}(e:∀s R,den (zF GG T an f xs [] s<|QDb f R)=W s R:=by intros;exact nf)(b:uM an f (L xs)=U:=by kernel_rfl)(d:∀s R,ZB aS GG T an f xs s R=W s R:=by intros;kernel_rfl)⦃s:ae⦄⦃R:be⦄(hs:L s=4096) (h:W s R):EB fn xs s R:=zB an c a h b<|d s R
def yB1(t n p:Nat)(j:pq aS GG T)(b:aS.funcs[fn]?=V f)(an:List<|Option<|eP×eP)(c xs:dM){W:AV->ae->be->Prop}(l:∀i s R,den (zF GG T an f xs [i] s<|QDb f R)=W i s R:=by intros;exact nf)(d:uM an f (L xs)=U:=by kernel_rfl)(g:Q (p<4096/\0<n)=U:=by exact A)(k:∀s R,ZB aS GG T an f xs s R=eV (bxA t n s p<|.a c) λi s=>W i s R:=by intros;kernel_rfl)⦃s:ae⦄⦃R:be⦄(hs:L s=4096) (e:L c=n) (h:HB1 t n p c s λi s=>W i s R):EB fn xs s R:=zB1 an j b hs e h d g<|k s R
def yB2(t n p k b e:Nat)(r:pq aS GG T)(l:aS.funcs[fn]?=V f)(an:List<|Option<|eP×eP)(c d xs:dM){W:AV->AV->ae->be->Prop}(v:∀i j s R,den (zF GG T an f xs [i,j] s<|QDb f R)=W i j s R:=by intros;exact nf)(m:uM an f (L xs)=U:=by kernel_rfl)(q:Q ((p<4096/\0<n)/\e<4096/\0<b)=U:=by exact A)(u:∀s R,ZB aS GG T an f xs s R=eV (bxA t n s p<|.a c) λi s=>eV (bxA k b s e<|.a d) λj s=>W i j s R:=by intros;kernel_rfl)⦃s:ae⦄⦃R:be⦄(hs:L s=4096) (o:L c=n) (g:L d=b) (h:HB2 t n p c k b e d s λi j s=>W i j s R):EB fn xs s R:=zB2 an r l hs o g h m q<|u s R
end
def atS:=I9 10 [(3,([5],[0,1]))]
def aLl{a a1}:=y0 wO func132 atS [a,a1]
def at1:=I9 2 []
def aLu{a a1}:=y0 wO func193 at1 [a,a1]
def aLA{a a1}:=y0 wO func112 at1 [a,a1]
def aLJ{a a1}:=y0 wO func110 at1 [a,a1]
def atY:=I9 10 [(3,([5],[2,3]))]
def aLr{c0 b}:=y2 34 6 2 39 4 3 wO func109 atY c0 b [.a c0, .a b]
def dh(i n:Int):Bool:=Q (0<=i)&&Q (i<n)
def DR{i}{n:Nat}:(dh i n=U->aF n i)=True:=by simp[dh,aF]
theorem dX{i}{n:Nat}:dh i n=U↔aF n i:=by simp[dh,aF]
def OR(i n):Ct 193 [iv i,iv n] (·=bv (dh i n)):=aLu λs0 b a=>by simp+contextual only[eQ,dh]
def su:FT:=bsk OR
def ayO:=f200 su OR
def OW(i n):Ct 112 [iv i,iv n] (·=bv (dh i n)):=aLA λs0 b a=>by simp+contextual only[eQ,dh]
def Ce:FT:=bsk OW
def ayT:=f200 Ce OW
def Pd(i n):Ct 110 [iv i,iv n] (·=bv (dh i n)):=aLJ λs0 b a=>by simp+contextual only[eQ,dh]
def Ch:FT:=bsk Pd
def ay2:=f200 Ch Pd
def btA{p:Prop}(h:p:=by grind [Go.Ab.bkg,Go.Ab.aL]):p:=h
def OK(l)(n:Int)(g:L l<4611686018427387904):Ct 132 [sl ci l,iv n] (·=bv (Q<|n∈l)):=aLl λs0 _ c=>bid (L l) (λk=>∀j,j<k->gd l j≠n) O λk f e=>by simp+contextual only[qz 19,gJ,bh];refine⟨λh=>⟨vp h,λd=>?_,btA⟩,λh=>?_⟩;grind [dB,aL];have b:n∉l:=λa=>(by have:=(px (p:=λx=>x≠n)).1 X n a;omega);simp[b]
def aQF:FT:=aIc OK
def ayH:=gX aQF OK
def lh(w:aOw)(s:aW):Bool:=Q (∀c∈w.bC,0<=c.eg/\c.eg<L w.ak)&&(Q (L s.ak=L w.ak)&&(Q (L s.done=L w.bU)&&Q (L s.ay=L w.ay)))
def OP(w)(s)(o:L w.bC<4611686018427387904):Ct 109 [.a w.c, .a s.c] (·=bv (lh w s)):=aLr A rfl λq n b d i=>bid (L w.bC) (λk=>∀j,j<k->0<=(gd w.bC j).eg/\(gd w.bC j).eg<L w.ak) O λk m e=>by simp+contextual only[qz 19,fD,b,d,bh];refine⟨λh=>⟨vp h,λ_=>vp h,λl=>?_,btA⟩,λh=>?_⟩;grind [dB,aL,lh];have g:=(px (p:=λc:yp=>0<=c.eg/\c.eg<L w.ak)).1 (λj f=>e j<|bpL f<|dge h);simp only[lh,bsi g,iw,aqD]
def BZ:FT:=aIc OP
def ayM:=gX BZ OP
def aoS:dO:=(193,su)::(112,Ce)::(110,Ch)::(132,aQF)::(109,BZ)::[]
def Br:eJ aoS:=asq (nI OR)<|asq (nI OW)<|asq (nI Pd)<|asq (aCb OK)<|asq (aCb OP)<|wO
def z8:=ai @ayO<|ai @ayT<|ai @ay2<|ai @ayH<|@ayM
def at3:=I9 34 [(3,([8],[2,3,7])),(11,([18],[2,3,7])),(14,([26],[2,3,7])),(17,([43],[2,3,7])),(22,([61],[2,3,7])),(27,([71],[2,3,7])),(30,([79],[2,3]))]
def aLv{c0 a1 b}:=y1 34 6 3 Br func194 at3 c0 [.a c0,a1,b]
def aLx{c0 b}:=y2 34 6 2 42 7 3 Br func50 at1 c0 b [.a c0, .a b]
def at0:=I9 10 [(4,([5,6],[1,2])),(7,([5],[1,2,6]))]
def aLt{c0 a1}:=y1 39 4 2 Br func130 at0 c0 [.a c0,a1]
def at4:=I9 10 [(4,([5,6],[0,1])),(7,([5],[0,1,6]))]
def aLw{a a1}:=y0 Br func196 at4 [a,a1]
def Gr(Y:ae)(ds:eP)(e:TypeId)(z:Nat)(a:AV)(bA:List<|dM):Prop:=(bA=[]/\a= .l [] U U)\/∃d v,a= .m (d,v) (L bA)/\d∈ds/\box Y (d,v)=V ⟨e,z,U,I,bA⟩
def Fr(Y Y':ae)(ds:eP):Prop:=L Y'=L Y/\∀k,k∉ds->aZ Y' k=aZ Y k
theorem Fr.refl(Y)(ds):Fr Y Y ds:=⟨A,λ_ _=>A⟩
theorem Fr.trans{Y Y' a ds}(h:Fr Y Y' ds)(b:Fr Y' a ds):Fr Y a ds:=⟨b.1.trans h.1,λk c=>(b.2 k c).trans<|h.2 k c⟩
theorem Fr.box{Y Y' ds}(h:Fr Y Y' ds){k v}(a:k∉ds):box Y' (k,v)=box Y (k,v):=by unfold Ab.box;simp only[h.2 k a]
theorem Gr.nil{Y ds e z}:Gr Y ds e z (.l [] U U) []:= .inl ⟨A,A⟩
def Qi{Y b}:L (kill Y b)=L Y:=yg b
theorem ani{Y b k}(h:k≠b.1):aZ (kill Y b) k=aZ Y k:=jQ h
def aIQ{Y b}{k:Nat}(a:b.1<L Y):(aZ (kill Y b) k).ver=(aZ Y k).ver:=by grind [kill,iD,jQ]
def eF{e}{z d:Nat}{zs cs Y}{K:be}(m:L zs=z)(j:L cs=z)(i:0<z)(h:d<L Y)(f:∀Y',Fr Y Y' [d]->box Y' (d,(aZ Y d).ver+1)=V ⟨e,z,U,U,[cs]⟩->K (.p (d,(aZ Y d).ver+1) 0 0) Y'):eV (alA e zs Y d) λp s=>sV (aK z s p<|.a cs) λs'=>K p s':=by have b:alA e zs Y d=V (.p (d,(aZ Y d).ver+1) 0 0,put Y d ⟨e,z,U,U,[zs]⟩):=(by grind [alA,vg,lA]);rw[b];have g:box (put Y d ⟨e,z,U,U,[zs]⟩) (d,(aZ Y d).ver+1)=V ⟨e,z,U,U,[zs]⟩:=zQ h A;have c:aK z (put Y d ⟨e,z,U,U,[zs]⟩) (.p (d,(aZ Y d).ver+1) 0 0) (.a cs)=V (wr (put Y d ⟨e,z,U,U,[zs]⟩) (d,(aZ Y d).ver+1) ⟨e,z,U,U,[cs]⟩):=(by grind [aK,aBG,pW,eY,qh]);show sV (aK z (put Y d ⟨e,z,U,U,[zs]⟩) (.p (d,(aZ Y d).ver+1) 0 0)<|.a cs) _;rw[c];refine f _ ⟨by rw[uC,D3],λk l=>?_⟩<|lO g;grind [wy,bwp]
def btf{p:Prop}(h:p:=by grind [Go.Ab.lx]):p:=h
def fP{Y ds e}{z d by':Nat}{zs a bA new t o K}(s:Gr Y ds e z a bA)(n:L zs=z)(y:0<z)(m:d∈ds)(u:d<L Y)(D:∀r∈bA,L r=z)(C:∀r∈new,L r=z)(B:(L bA+L new)*(by'+1)<=1099511627776)(h:∀p Y',Gr Y' ds e z p (bA++new)->Fr Y Y' ds->K p Y'):eV (apA e zs by' Y d a<|.l new t o) K:=by unfold apA;simp only[gL];by_cases q:L new=0;rw[zg q];obtain rfl:new=[]:=vB;obtain⟨b,c⟩|⟨j,v,b,c,f⟩:=s;subst b c;exact h _ _ (.inl ⟨A,A⟩)<|Fr.refl _ _;subst b;simp only[f,df];exact h _ _ (.inr ⟨j,v,O,c,by simpa using f⟩)<|Fr.refl _ _;rw[za q,zg ⟨Z,by simp[vg,u],vB⟩];have g:∀(i:ae) (x:bY),L i=L Y->box (put i d x) (lA i d)=V x:=(by grind [lA,zQ]);obtain⟨b,c⟩|⟨j,v,b,c,f⟩:=s;subst b c;simp only;rw[zg ⟨O,btf⟩];refine h _ _ (.inr ⟨d,(aZ Y d).ver+1,by simp[lA],m,?_⟩) ⟨by simp[put],λk w=>bwp<|λe=>w<|e▸m⟩;rw[<-n];exact g Y _ A;subst b;simp only[f];rw[zg ⟨trivial,trivial,n.symm,dA _,btf⟩];refine h _ _ (.inr ⟨d,(aZ (kill Y (j,v)) d).ver+1,by simp[lA,aIQ<|lN f],m,?_⟩) ⟨by simp[put,Qi],λk w=>?_⟩;rw[<-n];simp only[gV];exact g _ _ Qi;grind [bwp,ani]
theorem qV{Y ds e z a bA R}(f:Gr Y ds e z a bA)(h:∀t,R<|.l bA t U):aE R Y [a]:=by unfold aE jS;obtain⟨b,c⟩|⟨g,v,b,c,d⟩:=f;subst b c;exact⟨A,h U⟩;subst b;simp only[iZ,dQ,d,a6F,gV];exact⟨A,h I⟩
def aDk{Y ds e}{z:Nat}{a bA}(d:Gr Y ds e z a bA):fS Y a=V (iv<|L bA):=by obtain⟨b,c⟩|⟨f,v,b,c,g⟩:=d;subst b c;rfl;grind [fS]
def bvK{p:Prop}(h:p:=by simp[Go.Ab.aX,Go.Ab.aly,Go.Ab.eY,Go.Ab.nrm,Go.Ab.gK,Go.Ab.eR,Go.Ab.aTH,Go.Ab.aNN,Go.Ab.iR,Go.Ab.kills,Go.Ab.bsm,Go.Ab.eN]):p:=h
def iz{Y z0 y}:aX [z0] 1 Y [(0, .s y)]=V (.l [[.s y]] U U,Y):=bvK
def nq:=ai @eT @iz
def ua{Y zs cs}(c:nrm (eR Y<|.a cs)= .a cs)(d:aNN (.a cs)=[])(e:L cs=L zs)(f:0<L zs)(g:cs.all eN=U)(h:L zs<=1000):aX zs 1 Y [(0, .a cs)]=V (.l [cs] U U,Y):=by simp only[aX,ji,mU,c,Cz,List.flatMap_nil,d,cL,kills,aRl];have b:(er 1 zs).flatten=zs:=O;rw[zg ⟨Z,f⟩,b];simp only[aly,eY,e,Nat.zero_mul,aj,dA,aNR,a6F,CE,dW,Gz,cL,a6X,g,df];grind [bsm]
def gI(mk:AV->Int->dM)(b:ae)(ds:eP)(e:TypeId)(z n:Nat)(bA:Nat->List (dM))(Inv:Nat->Prop):aG:=λvs Y=>∃(k:Nat) (a:AV),vs=mk a k/\k<=n/\Inv k/\Gr Y ds e z a (bA k)/\Fr b Y ds
def gM(p n:Nat):bu:=λvs _=>match gt vs p with| .s (.int _ i)=>n-i.toNat|_=>0
def am9{B}(mk)(p)(ds)(e)(z n)(bA)(Inv){c b}(d:Inv 0)(f:Gr b ds e z c<|bA 0)(h:∀(k) a Y,k<=n->Inv k->Gr Y ds e z a (bA k)->Fr b Y ds->B (gI mk b ds e z n bA Inv) (gM p n) (mk a k) Y):lV (mk c 0) b B:=⟨gI mk b ds e z n bA Inv,gM p n,⟨0,c,A,mh _,d,f,Fr.refl _ _⟩,by rintro vs Y ⟨k,a,rfl,l,j,i,g⟩;simp_all⟩
def Dr{mk p c Y Y' ds e z n k bA Inv a b}(j:∀a i,gt (mk a i) p=iv i)(g:k<n)(h:n<4611686018427387904)(hI:Inv<|k+1)(f:Gr Y' ds e z b<|bA<|k+1)(d:Fr c Y' ds):gI mk c ds e z n bA Inv (mk b<|dq.wrap<|(k:Int)+1) Y'/\gM p n (mk b<|dq.wrap<|(k:Int)+1) Y'<gM p n (mk a k) Y:=by rw[eM Z Z];refine⟨⟨k+1,b,A,g,hI,f,d⟩,?_⟩;grind [gM]
def fI(a:ae)(ds:eP)(n:Nat)(Inv:Nat->Prop):aG:=λvs Y=>∃k:Nat,vs=[iv k]/\k<=n/\Inv k/\Fr a Y ds
def fM(n:Nat):bu:=λvs _=>cM n vs
def pQ{B a}(n)(ds)(Inv)(b:Inv 0)(h:∀(k) Y,k<=n->Inv k->Fr a Y ds->B (fI a ds n Inv) (fM n) [iv k] Y):lV [iv 0] a B:=⟨fI a ds n Inv,fM n,⟨0,A,mh _,b,Fr.refl _ _⟩,by rintro vs Y ⟨k,rfl,e,d,c⟩;simp_all⟩
theorem oL{n k ds Inv a Y Y'}(c:k<n)(d:n<4611686018427387904)(h:Inv<|k+1)(b:Fr a Y' ds):fI a ds n Inv [iv<|dq.wrap<|(k:Int)+1] Y'/\fM n [iv<|dq.wrap<|(k:Int)+1] Y'<fM n [iv k] Y:=by rw[fX Z];refine⟨⟨k+1,A,c,h,b⟩,?_⟩;grind [fM,cM,bh]
theorem Fr.mono{Y Y' ds a}(h:Fr Y Y' ds)(b:∀k∈ds,k∈a):Fr Y Y' a:=⟨h.1,λk c=>h.2 k X⟩
def nS{Y z0 zs}:aX (z0::zs) 0 Y []=V (.l [] U U,Y):=by simp[aX,aly,kills,bsm]
def aIk{α f}{l:List α}{z:Nat}{i:Int}{Y K}(b:∀x,L (f x)=z):rV (fo z Y (sl f l) J (V<|iv i) J) K=((0<=i/\i<=L l)/\K (sl f<|l.take i.toNat)):=by simp only[fo,lM,sl];by_cases a:0<=i;simp only[a,a6F,qY,sD,mi,mh,Cq,bJ];grind [rV,bkj];simp[a,rV]
def aIm{α f}{l:List α}{z:Nat}{i:Int}{Y K}(b:∀x,L (f x)=z):rV (fo z Y (sl f l) (V<|iv i) J J) K=((0<=i/\i<=L l)/\K (sl f<|l.drop i.toNat)):=by simp only[fo,lM,sl];by_cases a:0<=i;simp only[a,a6F,qY,sD,mi,bJ,dA,Cq];grind [rV,GK,oB];simp[a,rV]
def aov{l}{i:Int}{Y K}:rV (fo 1 Y (sl ci l) J (V<|iv i) J) K=((0<=i/\i<=L l)/\K (sl ci<|l.take i.toNat)):=aIk λ_=>A
def aIg{l}{i:Int}{Y K}:rV (fo 1 Y (sl ci l) (V<|iv i) J J) K=((0<=i/\i<=L l)/\K (sl ci<|l.drop i.toNat)):=aIm λ_=>A
def aFj{α f}{l:List α}{R Y}:aE R Y [sl f l]=R (sl f l):=by simp[aE,jS,iZ,dQ,sl,kG,pF,nj]
def Fr.bt{Y Y':ae}{ds:eP}(h:Fr Y Y' ds){k v:Nat}{x:Option bY}(b:Ab.box Y (k,v)=x)(a:k∉ds:=by decide):Ab.box Y' (k,v)=x:=(h.box a).trans b
def named(w:aOw)(kind eI:Int):Bool:=
 bif Q (kind=1)||(Q (kind=2)||(Q (kind=5)||(Q (kind=12)||(Q (kind=13)||(Q (kind=14)||Q (kind=15)))))) then Q (eI= -1)
 else bif Q (kind=3)||Q (kind=4) then dh eI (L w.cells)
 else bif Q (kind=6)||Q (kind=7) then dh eI (L w.ak)&&!(gd w.ak eI.toNat).rw
 else bif Q (kind=8)||(Q (kind=9)||(Q (kind=10)||Q (kind=11))) then dh eI (L w.ak)&&(gd w.ak eI.toNat).rw
 else bif Q (kind=16)||(Q (kind=17)||(Q (kind=18)||Q (kind=19))) then dh eI (L w.bC)
 else bif Q (kind=20)||Q (kind=21) then dh eI (L w.ay)
 else bif Q (kind=22)||Q (kind=23) then dh eI (L w.bU)
 else I
def OS(w)(kind eI):Ct 194 [.a w.c,iv kind,iv eI] (·=bv (named w kind eI)):=aLv A λf e b d=>by simp only[bh0,qz 23,iM,aY,sw];simp only[qz 21,aI,au];simp only[bh0,qz 71,iM,aY,sw];simp only[qz 69,aI,au];simp only[bh0,qz 89,iM,aY,sw];simp only[qz 87,aI,au];simp only[bh0,qz 107,iM,aY,sw];simp only[qz 105,aI,au];simp only[bh0,qz 137,iM,aY,sw];simp only[qz 135,aI,au];simp only[bh0,qz 167,iM,aY,sw];simp only[qz 165,aI,au];simp only[bh0,qz 185,iM,aY,sw];simp only[qz 183,aI,au];simp+contextual only[↓iS,ie,z8,b,named,aRa,bih,DR,FA]
def FH:FT:=buC OS
def ayP:=KP FH OS
def fN(w:aOw)(s:aTo):Bool:=lh w s.eB&&(Q (L s.cells=L w.cells)&&(Q (L s.bU=L w.bU)&&Q (L s.count=L w.ay)))
def OU(w)(s)(e:L w.bC<4611686018427387904):Ct 50 [.a w.c, .a s.c] (·=bv (fN w s)):=aLx A rfl λh g b d f=>by simp+contextual only[hH,z8,b,d,fN,aqD,e]
def Cc:FT:=aIc OU
def ayR:=gX Cc OU
def pe(s:aW)(c:Int)(i:Nat):Bool:=Q ((gd s.ay i).cQ=3)&&Q ((gd s.ay i).cond=c)
def eh(s:aW)(c:Int)(k:Nat):eu:=((aH k).filter<|pe s c).map λ(i:Nat)=>(i:Int)
def fO(s:aW)(c:Int):eu:=eh s c<|L s.ay
theorem bub(s)(c)(k):eh s c (k+1)=eh s c k++if pe s c k then[(k:Int)] else[]:=by grind [eh,qn]
theorem wU(s)(c:Int)(k:Nat):L (eh s c k)<=k:=by grind [eh,bJ,gl,fZ]
def bsd{p:Prop}(h:p:=by grind [Go.Ab.Fr,Go.Ab.Kp.len]):p:=h
def OQ(s)(c:Int)(u:L s.ay<1000000):Ct 130 [.a s.c,iv c] (λr=>∃t,r= .l ((fO s c).map ci) t U):=aLt A λv q g o=>am9 (λa i=>[a,iv i]) 1 [34] 3 1 (L s.ay) (λk=>(eh s c k).map ci) (λ_=>True) trivial (.inl ⟨A,A⟩) λk a Y p _ f b=>by have d:=b.bt g;simp+contextual only[qz 45,qz 47,qy 4,qy 6,qz 25,fD,d,bh,iz];refine⟨λh=>⟨vp h,λ_=>vp h,λj=>?_,λj=>?_⟩,λh=>?_⟩;have:=wU s c k;refine fP f A H H bsd O O NA λn Y' m e=>?_;refine Dr (mk:=λa i=>[a,iv i]) (λ_ _=>A) (aL h) Z trivial ?_<|b.trans e;grind [bub,pe];refine Dr (mk:=λa i=>[a,iv i]) (λ_ _=>A) (aL h) Z trivial ?_ b;grind [bub,pe];obtain rfl:k=L s.ay:=X;exact qV f λt=>⟨t,A⟩
def bCR:FT:=pn OQ
def ayN:=f211 bCR OQ
def fJ(l:eu)(n:Int):eu:=l.filter λx=>Q<|x≠n
theorem EA{l:eu}{k:Nat}(h:k<L l):l.take (k+1)=l.take k++[gd l k]:=by rw[aNV h,iJ h]
def OT(l)(n:Int)(p:L l<1000000):Ct 196 [sl ci l,iv n] (λr=>∃t,r= .l ((fJ l n).map ci) t U):=aLw λq o j=>am9 (λa i=>[a,iv i]) 1 [25] 3 1 (L l) (λk=>(fJ (l.take k) n).map ci) (λ_=>True) trivial (.inl ⟨A,A⟩) λk a Y m _ b c=>by simp+contextual only[qz 45,qz 47,qy 2,qy 4,qz 25,gJ,bh,iz];refine⟨λh=>⟨vp h,λe=>⟨vp h,?_⟩,λe=>?_⟩,λh=>?_⟩;have:L (fJ (l.take k) n)<=k:=gl (fZ _ _) NA;refine fP b A H H bsd O O NA λg Y' f d=>?_;refine Dr (mk:=λa i=>[a,iv i]) (λ_ _=>A) (aL h) Z trivial ?_<|c.trans d;grind [EA,aL,fJ];refine Dr (mk:=λa i=>[a,iv i]) (λ_ _=>A) (aL h) Z trivial ?_ c;rw[EA<|aL h,fJ,List.filter_append,dg];simp only[List.filter_cons,e,List.filter_nil,eE,btd,mU,cL];exact b;obtain rfl:k=L l:=X;rw[gV] at b;grind [qV]
def Cb:FT:=pn OT
def ayQ:=f211 Cb OT
def aoT:dO:=(194,FH)::(50,Cc)::(130,bCR)::(196,Cb)::aoS
def ao9:eJ aoT:=asq (Rs OS)<|asq (aCb OU)<|asq (aN0 OQ)<|asq (aN0 OT)<|Br
def K1:=ai @ayP<|ai @ayR<|ai @ayN<|ai @ayQ<|@z8
def atX:=I9 48 [(22,([119],[2,4,5,6,11,70])),(35,([160],[2,4,5,6,70]))]
def aLq{c0 b c d e}:=y2 34 6 5 39 4 6 ao9 func113 atX c0 b [.a c0, .a b,c,d,e]
def lc(w:aOw)(s:aW)(t kind eI:Int):Bool:=
 bif Q (kind=1) then Q<|(gd s.ay t.toNat).cQ=1
 else bif Q (kind=17) then Q ((gd s.ay t.toNat).cQ=4)&&(Q ((gd s.ay t.toNat).cond=eI)&&Q ((gd s.ak (gd w.bC eI.toNat).eg.toNat).aPo= -1))
 else bif Q ((gd s.ay t.toNat).cQ≠2) then I
 else bif Q (kind=6) then Q<|(gd s.ak eI.toNat).aPo= -1
 else bif Q (kind=10) then Q ((gd s.ak eI.toNat).aPo= -1)&&Q (L (gd s.ak eI.toNat).bk=0)
 else bif Q (kind=8) then Q ((gd s.ak eI.toNat).aPo= -1)&&!Q (t∈(gd s.ak eI.toNat).bk)
 else bif Q (kind=7)||Q (kind=11) then Q ((gd s.ak eI.toNat).aPo=t)
 else bif Q (kind=9) then Q<|t∈(gd s.ak eI.toNat).bk
 else bif Q (kind=12) then Q<|s.tx= -1
 else bif Q (kind=13) then Q<|s.tx=t
 else bif Q (kind=14) then !(gd s.ay t.toNat).atomic
 else bif Q (kind=15) then(gd s.ay t.toNat).atomic
 else bif Q (kind=16)||(Q (kind=18)||Q (kind=19)) then Q ((gd s.ak (gd w.bC eI.toNat).eg.toNat).aPo=t)
 else bif Q (kind=20) then Q (eI≠t)&&Q ((gd s.ay eI.toNat).cQ=0)
 else bif Q (kind=21) then Q (eI≠t)&&Q ((gd s.ay eI.toNat).cQ=5)
 else bif Q (kind=22) then !(gd s.done eI.toNat)
 else bif Q (kind=23) then gd s.done eI.toNat
 else U
def jm(w:aOw)(s:aW)(t kind eI:Int):Bool:=lh w s&&(dh t (L w.ay)&&(named w kind eI&&lc w s t kind eI))
def bve{p:Prop}(h:p:=by grind [Go.Ab.named,Go.Ab.dX]):p:=h
theorem mJ{w}{kind eI:Int}(h:named w kind eI=U)(a:6<=kind)(b:kind<=11):aF (L w.ak) eI:=bve
theorem oT{w}{kind eI:Int}(h:named w kind eI=U)(a:16<=kind)(b:kind<=19):aF (L w.bC) eI:=bve
theorem Eb{w}{kind eI:Int}(h:named w kind eI=U)(a:20<=kind)(b:kind<=21):aF (L w.ay) eI:=bve
theorem oU{w}{kind eI:Int}(h:named w kind eI=U)(a:22<=kind)(b:kind<=23):aF (L w.bU) eI:=bve
theorem qP{w}{kind eI:Int}(h:named w kind eI=U)(a:3<=kind)(b:kind<=4):aF (L w.cells) eI:=bve
theorem iY{w s}(h:lh w s=U):(∀c∈w.bC,0<=c.eg/\c.eg<L w.ak)/\L s.ak=L w.ak/\L s.done=L w.bU/\L s.ay=L w.ay:=by grind [lh]
theorem ii{α}[Inhabited α]{l:List α}{i:Int}(h:aF (L l) i):gd l i.toNat∈l:=dB<|be7 h.1 h.2
def btB{p:Prop}(h:p:=by grind [Go.Ab.dX]):p:=h
def btC{p:Prop}(h:p:=by grind [Go.Ab.mJ]):p:=h
def OO(w)(s)(t kind eI:Int)(q:L w.bC<4611686018427387904/\(∀l∈s.ak,L l.bk<4611686018427387904)):Ct 113 [.a w.c, .a s.c,iv t,iv kind,iv eI] (·=bv (jm w s t kind eI)):=aLq A rfl λW S b e z=>by simp+contextual only[qy 6,gj,K1,b,e];have B:(!lh w s||!dh t (L w.ay)||!named w kind eI)=I->lh w s=U/\dh t (L w.ay)=U/\named w kind eI=U:=vB;refine⟨q.1,λh=>?_,λh=>?_⟩;grind [jm,lh,dh,named];obtain⟨C,R,T⟩:=B h;obtain⟨x,y,N,P⟩:=iY C;have p:aF (L s.ay) t:=btB;have o:jm w s t kind eI=lc w s t kind eI:=(by grind [jm]);rw[o];refine⟨p,?_⟩;refine eF A rfl H Z λY m n=>?_;rw[z 11 H H] at n⊢;have d:=m.bt b;have f:=m.bt e;simp only[qz 8];simp only[bh0,qz 137,iM,aY,sw];simp only[qz 135,aI,au];simp only[bh0,qz 215,iM,aY,sw];simp only[qz 213,aI,au];simp+contextual only[↓iS,gj,K1,n,d,f];have K:aF (L w.bC) eI->aF (L s.ak) (gd w.bC eI.toNat).eg:=λh=>(by rw[y];exact x _<|ii h);have D:Q (kind=6)=U->aF (L s.ak) eI:=btC;have r:Q (kind=10)=U->aF (L s.ak) eI:=btC;have F:Q (kind=8)=U->aF (L s.ak) eI:=btC;have G:Q (kind=9)=U->aF (L s.ak) eI:=btC;have E:(Q (kind=7)||Q (kind=11))=U->aF (L s.ak) eI:=btC;have i:Q (kind=17)=U->aF (L w.bC) eI:=(by grind [oT]);have g:(Q (kind=16)||(Q (kind=18)||Q (kind=19)))=U->aF (L w.bC) eI:=(by grind [oT]);have u:Q (kind=20)=U->aF (L s.ay) eI:=(by grind [Eb]);have v:Q (kind=21)=U->aF (L s.ay) eI:=(by grind [Eb]);have j:Q (kind=22)=U->aF (L s.done) eI:=(by grind [oU]);have k:Q (kind=23)=U->aF (L s.done) eI:=(by grind [oU]);have M:aF (L s.ak) eI->L (gd s.ak eI.toNat).bk<4611686018427387904:=λh=>q.2 _<|ii h;have e0:(L (gd s.ak eI.toNat).bk:Int)=0↔L (gd s.ak eI.toNat).bk=0:=Z;simp+contextual only[lc,aRa,bih,K,D,E,F,G,r,g,i,u,v,j,k,M,e0,FA,aNR]
def BY:FT:=bpg OO
def ayL:=KQ BY OO
def aoU:dO:=(113,BY)::aoT
def wP:eJ aoU:=asq (Rt OO)<|ao9
def K3:=ai @ayL<|@K1
def aLB{a a1}:=y0 wP func114 atS [a,a1]
def aLG{c0 a1}:=y1 45 15 2 wP func111 at1 c0 [.a c0,a1]
def aub:=I9 12 [(3,([2,7],[1,3])),(6,([2],[1,3,7]))]
def aLE{c0 a1 b}:=y1 45 15 3 wP func117 aub c0 [.a c0,a1,b]
def aue:=I9 12 [(4,([3,4],[1]))]
def aLH{c0}:=y1 45 15 1 wP func51 aue c0 [.a c0]
def at9:=I9 21 [(9,([40],[2,3,7]))]
def aLC{c0 b}:=y2 42 7 2 71 7 3 wP func115 at9 c0 b [.a c0, .a b]
def aLi{a a1}:=y0 wP func108 atS [a,a1]
def uJ(l:eu)(n:Int)(j:Nat):Prop:=1<=gd l j/\gd l j<n/\(0<j->gd l (j-1)<gd l j)
def lZ(l:eu)(n:Int):Prop:=∀j,j<L l->uJ l n j
instance{l:eu}{n:Int}{j:Nat}:Decidable (uJ l n j):=by unfold uJ;infer_instance
instance{l:eu}{n:Int}:Decidable (lZ l n):=by unfold lZ;infer_instance
def OX(l)(n:Int)(e:L l<4611686018427387904):Ct 114 [sl ci l,iv n] (·=bv (Q<|lZ l n)):=aLB λs0 _ b=>bid (L l) (λk=>∀j,j<k->uJ l n j) O λk d c=>by simp+contextual only[qz 19,gJ,bh];have:0<k->(dq.wrap<|(k:Int)-1).toNat=k-1/\dq.wrap ((k:Int)-1)=((k-1:Nat):Int):=brE;have:k<L l->((Q (gd l k<1)||Q (n<=gd l k)||Q (0<(k:Int))&&Q (gd l k<=gd l (dq.wrap<|(k:Int)-1).toNat))=I↔uJ l n k):=(by grind [uJ]);refine⟨λh=>⟨vp h,λ_=>vp h,λ_ _=>vp h,λ_ a=>?_,λa=>?_,btA⟩,λh=>?_⟩;grind [aL,dJ];grind [lZ,aL];grind [lZ,bpL,dge]
def Cf:FT:=aIc OX
def ayU:=gX Cf OX
def nO(w:am)(t:Int):Bool:=dh t (L w.init.count)&&Q (1<=gd w.init.count t.toNat)
def Pa(w)(t):Ct 111 [.a w.c,iv t] (·=bv (nO w t)):=aLG A λf e b d=>by simp+contextual only[gj,K3,b,dc,nO,DR]
def w8:FT:=bsk Pa
def ayZ:=f200 w8 Pa
def tX(l:List ByteArray)(s:ByteArray):Int:=match l.findIdx? (λx=>Q<|x=s) with|some i=>i|none=> -1
theorem avQ{l s}{k:Nat}(b:k<L l)(h:∀j,j<k->gd l j≠s)(a:gd l k=s):tX l s=k:=by have:l.findIdx? (λx=>Q<|x=s)=V k:=(by grind [RL,aNV]);simp[tX,this]
def avP{l s}(h:s∉l):tX l s= -1:=by grind [decide,GB,decide_eq_false_iff_not,tX]
def OH(l)(s)(f:L l<4611686018427387904):Ct 108 [sl cs l,st s] (·=iv (tX l s)):=aLi λs0 _ b=>bid (L l) (λk=>∀j,j<k->gd l j≠s) O λk e d=>by simp+contextual only[qz 19,gJ,bh];refine⟨λh=>⟨vp h,λc=>?_,btA⟩,λh=>?_⟩;grind [avQ,aL];rw[avP λa=>(px (p:=λx=>x≠s)).1 X s a A]
def FB:FT:=aIc OH
def ayE:=gX FB OH
def pS(t:Int):List aP->Int->Nat->Int|[],_,_=> -1|e::l,k,i=>if e.aq=t then(if k=0 then i else pS t l (k-1) (i+1)) else pS t l k (i+1)
def oV(w:am)(t k:Int):Int:=pS t w.ac k 0
theorem aWc{α}[Inhabited α]{l:List α}{k:Nat}(h:k<L l):l.drop k=gd l k::l.drop (k+1):=by rw[aNV h,List.drop_eq_getElem_cons h]
def O0(w)(t k:Int)(p:L w.ac<1000000/\ -1000000<=k/\k<9223372036854775808):Ct 117 [.a w.c,iv t,iv k] (·=iv (oV w t k)):=aLE A λq o e n=>yh (λs:Int×Nat=>[iv s.1,iv s.2]) 1 (L w.ac) (λs=>s.2<=L w.ac/\k-s.2<=s.1/\s.1<=k/\pS t (w.ac.drop s.2) s.1 s.2=oV w t k) (k,0) (by grind [oV])<|by rintro⟨b,i⟩ ⟨f,g,j,d⟩;simp only at f g j d;simp+contextual only[qz 39,qz 41,qz 19,fD,e,bh];refine⟨λh=>⟨vp h,λm=>⟨λl=>?_,λl=>?_⟩,λm=>?_⟩,λh=>?_⟩;grind [aWc,aL,pS];have:=aL h;refine wN (enc:=λs:Int×Nat=>[iv s.1,iv s.2]) (s:=(b,i)) (s':=(b-1,i+1)) (i:=i) ?_ A rfl (aL h) ⟨aL h,Z,Z,?_⟩;grind [fX,eM];grind [aWc,aL,pS,of_decide_eq_false];have:=aL h;refine wN (enc:=λs:Int×Nat=>[iv s.1,iv s.2]) (s:=(b,i)) (s':=(b,i+1)) (i:=i) ?_ A rfl (aL h) ⟨aL h,Z,Z,?_⟩;grind [fX];grind [aWc,aL,pS,of_decide_eq_false];have:i=L w.ac:=X;rw[<-d,this,Gz];rfl
def FJ:FT:=qe O0
def ayX:=sT FJ O0
def bhL(l:eu)(k:Nat):Int:=(l.take k).sum
theorem Ra{l}{k:Nat}(h:k<L l):bhL l (k+1)=bhL l k+gd l k:=by grind [bhL,iJ,aNV]
def rM(w:am):Bool:=Q (∀c∈w.init.count,0<=c/\c<=400)&&(Q (w.start=w.init.count.sum)&&Q (w.init.count.sum+L w.ac<=400))
def aoN{l}{k:Nat}(h:∀j,j<k->0<=gd l j/\gd l j<=400)(c:k<=L l):0<=bhL l k/\bhL l k<=400*k:=by induction k with|zero=>simp[bhL]|succ k a=>have:=a (λj b=>h j Z) Z;have:=h k Z;rw[Ra Z];omega
def Pb(w)(o:L w.ac<1000000/\L w.init.count<1000000):Ct 51 [.a w.c] (·=bv (rM w)):=aLH A λp n g m=>yh (λs:Int×Nat=>[iv s.1,iv s.2]) 1 (L w.init.count) (λs=>s.2<=L w.init.count/\s.1=bhL w.init.count s.2/\∀j,j<s.2->0<=gd w.init.count j/\gd w.init.count j<=400) (0,0) (by grind [bhL])<|by rintro⟨f,i⟩ ⟨d,k,b⟩;simp only at d k b;simp+contextual only[qz 25,fD,g,dc,bh];have:=aoN b d;have:i<L w.init.count->(Q (gd w.init.count i<0)||Q (400<gd w.init.count i))=U->rM w=I:=(by grind [dB,rM]);refine⟨λh=>⟨vp h,λ_=>vp h,vB,λe=>⟨vp h,?_⟩⟩,λh=>?_⟩;have:=aL h;simp only[cP,aPs,aqC] at e;refine wN (enc:=λs:Int×Nat=>[iv s.1,iv s.2]) (s:=(f,i)) (s':=(f+gd w.init.count i,i+1)) (i:=i) ?_ A rfl (aL h) ⟨aL h,?_,a6p b e⟩;grind [fX,eM];grind [Ra,aL];have l:i=L w.init.count:=X;have:bhL w.init.count i=w.init.count.sum:=(by rw[l,bhL,gV]);have:∀c∈w.init.count,0<=c/\c<=400:=px.1 vB;grind [eM,rM,decide_eq_true]
def aUr:FT:=mT Pb
def ay0:=oK aUr Pb
def aO8(s:aTo)(e:aP):Bool:=
 bif Q (e.kind=3) then Q<|e.value=gd s.cells e.eI.toNat
 else bif Q (e.kind=23) then Q<|e.value=gd s.bU e.eI.toNat
 else bif Q (e.kind=5) then Q (e.value=0)||Q (e.value=1)
 else bif Q (e.kind=4)||Q (e.kind=22) then U
 else bif Q (e.kind=18) then(bif Q ((L (fO s.eB e.eI):Int)=0) then Q (e.value= -1) else Q (0<=e.value)&&(Q (e.value<L s.eB.ay)&&Q (e.value∈fO s.eB e.eI)))
 else bif Q (e.kind=19) then Q<|e.value=L (fO s.eB e.eI)
 else Q<|e.value=0
def OY(s)(e)(h:L s.eB.ay<1000000/\(e.kind=3->aF (L s.cells) e.eI)/\(e.kind=23->aF (L s.bU) e.eI)):Ct 115 [.a s.c, .a e.c] (·=bv (aO8 s e)):=aLC A rfl λl k b d j=>by simp only[bh0,qz 59,iM,aY,sw,u1,b,d,rk,aj];simp only[qz 57,aI,au];have i:L (fO s.eB e.eI)<4611686018427387904:=rC (wU _ _ _) Z;have g:Q (e.kind=3)=U->aF (L s.cells) e.eI:=vB;have f:Q (e.kind=23)=U->aF (L s.bU) e.eI:=vB;simp+contextual only[↓iS,ie,K3,b,d,aO8,aRa,bih,i,h.1,g,f,FA]
def FI:FT:=aIc OY
def ayV:=gX FI OY
def aoV:dO:=(114,Cf)::(111,w8)::(108,FB)::(117,FJ)::(51,aUr)::(115,FI)::aoU
def Bs:eJ aoV:=asq (aCb OX)<|asq (nI Pa)<|asq (aCb OH)<|asq (tE O0)<|asq (pg Pb)<|asq (aCb OY)<|wP
def ur:=ai @ayU<|ai @ayZ<|ai @ayE<|ai @ayX<|ai @ay0<|ai @ayV<|@K3
def atT:=I9 12 [(3,([5],[0,1]))]
def aLm{a a1}:=y0 Bs func259 atT [a,a1]
def aui:=I9 16 [(4,([4],[1,3]))]
def aLL{c0}:=y1 45 15 1 Bs func52 aui c0 [.a c0]
def auf:=I9 35 [(4,([4],[1,3])),(13,([6],[1,3,4,5])),(24,([7],[1,3]))]
def aLI{c0}:=y1 45 15 1 Bs func53 auf c0 [.a c0]
def auh:=I9 13 [(3,([7],[1,2,3])),(6,([],[1,2,3,7]))]
def aLK{c0 a1 b}:=y1 45 15 3 Bs func55 auh c0 [.a c0,a1,b]
def Eu(w:am)(j:Nat):Bool:=Q ((gd w.init.eB.ay j).cQ<0)||Q (5<(gd w.init.eB.ay j).cQ)||!((Q ((gd w.init.eB.ay j).cQ=0)||Q ((gd w.init.eB.ay j).cQ=1))==Q (gd w.init.count j=0))||Q ((j:Int)=0)&&Q ((gd w.init.eB.ay j).cQ=0)
def zX(w:am)(j:Nat):Bool:=(Q ((gd w.init.eB.ay j).cQ=3)||Q ((gd w.init.eB.ay j).cQ=4))&&!dh (gd w.init.eB.ay j).cond (L w.aQ.bC)||!(Q ((gd w.init.eB.ay j).cQ=3)||Q ((gd w.init.eB.ay j).cQ=4))&&Q ((gd w.init.eB.ay j).cond≠0)
def aOK(w:am)(j:Nat):Bool:=!Eu w j&&!zX w j
def uZ(w:am):Bool:=Q (∀j,j<L w.init.eB.ay->aOK w j=U)
def Pf(w)(o:L w.init.eB.ay<1000000/\L w.init.count=L w.init.eB.ay):Ct 52 [.a w.c] (·=bv (uZ w)):=aLL A λp n d l=>by simp+contextual only[eT,d,dc];refine bid (L w.init.eB.ay) (λk=>∀j,j<k->aOK w j=U) O λk m i=>?_;simp+contextual (maxSteps:=3000000) only[qz 25,gj,ur,d,dc,bh];have f:k<L w.init.eB.ay->aOK w k=I->bv I=bv (uZ w):=(by grind [aOK,uZ]);constructor<;>intro h;have b:=vp h;have I2:aF (L w.init.count) (k:Int):=vB;simp only[b,I2,FA,Cq];refine⟨λg=>f (aL h) ?_,λg=>⟨λe=>f (aL h) ?_,λe=>bkg (aL h) Z<|a6p i ?_⟩⟩;grind [aOK,Eu];grind [aOK,zX];grind [aOK,Eu,zX];grind [aOK,bpL,dge,uZ,decide_eq_true]
def FM:FT:=mT Pf
def ay4:=oK FM Pf
def Qy(t:Int):∀(l) (k:Int) (i:Nat),pS t l k i<i+L l\/pS t l k i= -1
 |[],_,_=> .inr A
 |e::l,k,i=>by
  simp only[pS,bZ]
  have:=Qy t l (k-1)<|i+1
  have:=Qy t l k<|i+1
  omega
def aEu(w)(t k:Int):oV w t k<L w.ac\/oV w t k= -1:=by have:=Qy t w.ac k 0;grind [oV]
def qU(w:am)(t:Int)(n:Int):Bool:=Q (n<gd w.init.count t.toNat)||(Q (0<=oV w t (n-gd w.init.count t.toNat))&&(Q ((gd w.ac (oV w t<|n-gd w.init.count t.toNat).toNat).kind=3)||Q ((gd w.ac (oV w t<|n-gd w.init.count t.toNat).toNat).kind=23)))
def Pe(w)(t:Int)(l)(d:L l<1000000/\L w.ac<1000000/\aF (L w.init.count) t/\(∀c∈w.init.count,0<=c/\c<=400)/\(∀n∈l,-1000<=n/\n<9223372036854775808)):Ct 55 [.a w.c,iv t,sl ci l] (·=bv (Q (∀n∈l,qU w t n=U))):=aLK A λy v f m=>bid (L l) (λk=>∀j,j<k->qU w t (gd l j)=U) O λk u r=>by simp+contextual only[qz 39,qz 41,qz 19,gj,ur,f,dc,bh];have g:k<L l->dq.wrap (gd l k-gd w.init.count t.toNat)=gd l k-gd w.init.count t.toNat:=(by grind [ii,dB,eM]);have q:k<L l->∀x,x=oV w t (gd l k-gd w.init.count t.toNat)->Q (gd l k<gd w.init.count t.toNat)=I->((Q (x<0)||Q ((gd w.ac x.toNat).kind≠3)&&Q ((gd w.ac x.toNat).kind≠23))=I↔qU w t (gd l k)=U):=(by grind [qU]);refine⟨λh=>⟨vp h,d.2.2.1,(by grind [bkg,aL,qU]),λs=>?_⟩,λh=>?_⟩;rw[g<|aL h];have o:=d.2.2.2.1 _<|ii d.2.2.1;have p:=d.2.2.2.2 _<|dB<|aL h;have e:∀x,x=oV w t (gd l k-gd w.init.count t.toNat)->(!Q (x<0))=U->aF (L w.ac) x:=λx i b=>(by have:=aEu w t<|gd l k-gd w.init.count t.toNat;simp at b;exact⟨b,by rw[i];omega⟩);refine⟨vp h,d.2.2.1,⟨d.2.1,Z,Z⟩,e _ A,λb _=>e _ A b,λb=>?_,λb=>bkg (aL h) Z X⟩;have:¬(∀n∈l,qU w t n=U):=(by grind [aL,dB]);simp[this];have:∀n∈l,qU w t n=U:=px.1 X;simp_all
def Ci:FT:=qe Pe
def ay3:=sT Ci Pe
def AM(w:am)(j:Nat):Bool:=Q ((gd w.init.eB.ak j).aPo≠-1)&&!nO w (gd w.init.eB.ak j).aPo||Q (0<(L (gd w.init.eB.ak j).bk:Int))&&(!(gd w.aQ.ak j).rw||Q ((gd w.init.eB.ak j).aPo≠-1))
def yA(w:am)(l:eu)(i:Nat):Prop:=nO w (gd l i)=U/\(0<i->gd l (i-1)<gd l i)
def QN(w:am)(l:eu):Prop:=∀i,i<L l->yA w l i
instance{w:am}{l:eu}{i:Nat}:Decidable (yA w l i):=by unfold yA;infer_instance
instance{w:am}{l:eu}:Decidable (QN w l):=by unfold QN;infer_instance
def uD(w:am)(j:Nat):Prop:=AM w j=I/\QN w (gd w.init.eB.ak j).bk
instance{w:am}{j:Nat}:Decidable (uD w j):=by unfold uD;infer_instance
def yS(w:am):Bool:=Q (w.init.eB.tx≠-1)&&!nO w w.init.eB.tx
def pX(w:am)(j:Nat):Bool:=!((gd w.init.eB.ay j).atomic&&!nO w j)&&!((Q ((gd w.init.eB.ay j).cQ=3)||Q ((gd w.init.eB.ay j).cQ=4))&&Q ((gd w.init.eB.ak (gd w.aQ.bC (gd w.init.eB.ay j).cond.toNat).eg.toNat).aPo=j))
def ny(w:am):Bool:=Q (∀j,j<L w.init.eB.ak->uD w j)&&(!yS w&&Q (∀j,j<L w.init.eB.ay->pX w j=U))
def Pc(w)(E:L w.init.eB.ak<1000000/\L w.init.eB.ay<1000000/\L w.init.eB.ak=L w.aQ.ak/\(∀l∈w.init.eB.ak,L l.bk<4611686018427387904)/\(∀c∈w.aQ.bC,aF (L w.aQ.ak) c.eg)/\uZ w=U):Ct 53 [.a w.c] (·=bv (ny w)):=aLI A λs4 hl v h0=>by simp+contextual only[qy 4,qy 6,eT,v,dc];refine eF A rfl H Z λY P R=>?_;have x:=P.bt v;refine pQ (L w.init.eB.ak) [5] (λk=>∀j,j<k->uD w j) O λk Y2 T u f=>?_;have d:=f.bt x;have m:=f.bt R;simp+contextual (maxSteps:=3000000) only[qz 25,qy 8,gj,ur,d,m,bh];have r:∀j,j<L w.init.eB.ak->¬uD w j->bv I=bv (ny w):=(by grind [uD,ny,decide_eq_false]);refine⟨λh=>⟨vp h,?_⟩,λh=>⟨λht=>?_,λht=>?_⟩⟩;refine eF A rfl H bsd λK b q=>?_;have n:=b.bt d;have s:=b.bt m;simp+contextual (maxSteps:=3000000) only[qz 10,gj,ur,n,q,bh];refine⟨(by grind [dJ,aL]),λB=>r k (aL h) λt=>?_,λB=>?_⟩;have h1:=t.1;grind [AM];have hR:=E.2.2.2.1 _<|dB<|aL h;refine bid (L (gd w.init.eB.ak k).bk) (λi=>∀j,j<i->yA w (gd w.init.eB.ak k).bk j) O λi hi hr=>?_;simp+contextual (maxSteps:=3000000) only[qz 79,gj,ur,n,q,bh];have hs:0<i->(dq.wrap<|(i:Int)-1).toNat=i-1/\dq.wrap ((i:Int)-1)=((i-1:Nat):Int):=brE;have W:(!nO w (gd (gd w.init.eB.ak k).bk i)||Q (0<(i:Int))&&Q (gd (gd w.init.eB.ak k).bk i<=gd (gd w.init.eB.ak k).bk (dq.wrap<|(i:Int)-1).toNat))=I↔yA w (gd w.init.eB.ak k).bk i:=(by grind [yA]);refine⟨λe=>⟨vp e,λ_ _=>vp e,λ_ o=>?_,λo=>r k (aL h) λt=>?_,λo=>bkg (aL e) Z X⟩,λe=>?_⟩;grind [aL,dJ];rw[W.2<|t.2 i<|aL e] at o;cases o;refine oL (aL h) Z (a6p u ⟨B,λj S=>hr j<|bpL S<|dge e⟩)<|f.trans b;grind [ny,yS];have hA:∀j,j<L w.init.eB.ak->uD w j:=X;have C:∀j,j<L w.init.eB.ay->pX w j=I->bv I=bv (ny w):=(by grind [pX,ny,decide_eq_false]);have F:=aNQ E.2.2.2.2.2;refine pQ (L w.init.eB.ay) [8] (λk=>∀j,j<k->pX w j=U) O λk K T u b=>?_;have n:=b.bt d;have s:=b.bt m;simp+contextual (maxSteps:=3000000) only[qz 145,qy 12,fD,s,bh];refine⟨λh=>⟨vp h,?_⟩,λh=>?_⟩;refine eF A rfl H bsd λY4 g D=>?_;have M:=g.bt n;have N:=g.bt s;simp+contextual (maxSteps:=3000000) only[qz 14,gj,ur,M,N,D];have p:(Q ((gd w.init.eB.ay k).cQ=3)||Q ((gd w.init.eB.ay k).cQ=4))=U->aF (L w.aQ.bC) (gd w.init.eB.ay k).cond:=λG=>(by have:=F k<|aL h;simp only[aOK,zX,G,iw,fh,kM,Bool.or_false,Bool.not_not,bN] at this;exact dX.1 this.2);refine⟨λy=>C k (aL h) ?_,λy=>⟨p,λG=>?_,λz=>C k (aL h) ?_,λz=>oL (aL h) Z (a6p u ?_)<|b.trans g⟩⟩;rw[pX,y];rfl;grind [ii];rw[pX,z];simp;grind [pX];grind [pX,bpL,dge,ny,decide_eq_true,yS]
def FL:FT:=mT Pc
def ay1:=oK FL Pc
def pU{l:eu}:∀r∈l.map ci,L r=1:=O
def fk:eu->Int->eu|[],n=>[n]|x::l,n=>if x<n then x::fk l n else if x=n then x::l else n::x::l
def QJ:∀(l) (n:Int) (k:Nat),k<=L l->(∀j,j<k->gd l j<n)->(k<L l->¬gd l k<n)->fk l n=if k<L l/\gd l k=n then l else l.take k++n::l.drop k
 |[],n,k,b,_,_=>by grind [fk]
 |x::l,n,0,_,_,a=>by
  have:=a O
  simp only[gd,RQ] at this
  simp only[fk,za this,gd,RQ,bZ,Nat.zero_lt_succ,Cq,CE,List.drop_zero,dW]
 |x::l,n,k+1,b,c,a=>by
  have d:=c 0 Z
  simp only[gd,RQ] at d
  have e:=QJ l n k X (by grind [gd]) (by grind [gd])
  grind [gd,fk,bZ]
def QK:∀(l) (n:Int),L (fk l n)<=L l+1
 |[],n=>by simp[fk]
 |x::l,n=>by
  have:=QK l n
  grind [fk]
def OL(l)(n:Int)(C:L l<1000000):Ct 259 [sl ci l,iv n] (λr=>∃t o,r= .l ((fk l n).map ci) t o):=aLm λs0 B z=>bid (L l) (λk=>∀j,j<k->gd l j<n) O λk i g=>by simp+contextual only[qz 19,qz 2,gJ,bh,nS,aov,aFj];have c:=QJ l n k i g;refine⟨λh=>vp h,λh=>?_,λh=>⟨λa=>vp a,λa=>⟨I,I,?_⟩,λa=>⟨Z,?_⟩⟩⟩;grind [bkg,aL];rw[bN] at a;have e:=aNQ a.2;rw[c<|λ_=>Z,zg ⟨aL a.1,e⟩];rfl;have:k<L l->¬gd l k<n:=vB;have f:¬(k<L l/\gd l k=n):=vB;rw[za f] at c;refine fP (ds:=[38,42,47]) Gr.nil A H H Z O pU X λa1 u g1 m=>?_;rw[dW] at g1;simp only[qz 4,qy 6,iz,bQ];refine fP g1 A H H bsd pU (pU (l:=[n])) X λx v b p=>?_;rw[show(l.take k).map ci++[[AV.s<|.int .i64 n]]=(l.take k++[n]).map ci by simp] at b;simp only[qz 8,qy 10,au,aIg,bh];refine⟨Z,?_⟩;refine fP b A H H bsd pU pU X λy w d q=>?_;refine qV d λt=>⟨t,U,?_⟩;simp_all
def BX:FT:=pn OL
def ayI:=f211 BX OL
def aoW:dO:=(52,FM)::(55,Ci)::(53,FL)::(259,BX)::aoV
def Rb:eJ aoW:=asq (pg Pf)<|asq (tE Pe)<|asq (pg Pc)<|asq (aN0 OL)<|Bs
def K7:=ai @ay4<|ai @ay3<|ai @ay1<|ai @ayI<|@ur
def atW:=I9 9 [(4,([4],[1,2,3]))]
def aLp{c0}:=yB1 39 4 1 Rb func128 atW c0 [.a c0]
def atU:=I9 15 [(4,([5,6],[0,1])),(10,([5,7],[1]))]
def aLn{a a1}:=y0 Rb func195 atU [a,a1]
def fl:AV->Bool| .s _| .l _ _ _| .m _ _=>U|_=>I
def pv{e}{z d:Nat}{zs Y K}(h:L zs=z)(g:0<z)(c:d<L Y)(b:∀Y',Fr Y Y' [d]->box Y' (d,(aZ Y d).ver+1)=V ⟨e,z,U,U,[zs]⟩->K (.p (d,(aZ Y d).ver+1) 0 0) Y'):eV (alA e zs Y d) K:=by have a:alA e zs Y d=V (.p (d,(aZ Y d).ver+1) 0 0,put Y d ⟨e,z,U,U,[zs]⟩):=(by grind [alA,vg,lA]);rw[a];exact b _ ⟨D3,λk f=>bwp<|λe=>f<|by simp[e]⟩<|zQ c A
def dT{a l R}(h:(l.all λp=>eL (a.getD p.1 (U,[]))<|a.getD p.2 (U,[]))=U)(b:R):dH a l R:=by grind [ale,dV]
def uc{Y ds e z a bA}(b:Gr Y ds e z a bA):eY a=V [a]:=by obtain⟨_,rfl⟩|⟨d,v,rfl,_⟩:=b<;>rfl
theorem Gr.fr{Y Y' ds b e z a bA}(i:Gr Y ds e z a bA)(g:Fr Y Y' b)(j:∀k∈ds,k∉b):Gr Y' ds e z a bA:=by obtain h|⟨d,v,f,c,l⟩:=i;exact .inl h;exact .inr ⟨d,v,f,c,by rwa [g.box<|j d c]⟩
def Ev{Y}{d v j z:Nat}{e o r x K}(a:box Y (d,v)=V ⟨e,z,o,U,[r]⟩)(h:d<L Y)(g:eY x=V [x])(i:j<L r)(c:∀Y',Fr Y Y' [d]->box Y' (d,v)=V ⟨e,z,o,U,[r.set j x]⟩->K Y'):sV (aK 1 Y (.p (d,v) 0 j) x) K:=by have b:aK 1 Y (.p (d,v) 0 j) x=V (wr Y (d,v) ⟨e,z,o,U,[r.set j x]⟩):=(by simp only[aK,aBG,a,a6F,pW,g,qh,bZ,bhZ];grind [Option.some.injEq,GP]);rw[b];exact c _ ⟨uC,λk f=>wy<|λe=>f<|by simp[e]⟩<|lO a
def gN{Y}{d v z:Nat}{e o r cs K}(f:box Y (d,v)=V ⟨e,z,o,U,[r]⟩)(i:d<L Y)(j:L r=z)(h:L cs=z)(c:∀Y',Fr Y Y' [d]->box Y' (d,v)=V ⟨e,z,o,U,[cs]⟩->K Y'):sV (aK z Y (.p (d,v) 0 0)<|.a cs) K:=by have b:aK z Y (.p (d,v) 0 0) (.a cs)=V (wr Y (d,v) ⟨e,z,o,U,[cs]⟩):=(by grind [aK,aBG,pW,eY,qh]);rw[b];exact c _ ⟨uC,λk g=>wy<|λe=>g<|by simp[e]⟩<|lO f
def awE{Y zs x a ds e}{z:Nat}{bA K}(i:L zs=2)(h:∃y,x= .s y)(c:Gr Y ds e z a bA)(b:∀Y',Fr Y Y' ds->K (.l [[x, .l bA I I]] U U) Y'):eV (aX zs 1 Y [(0, .a [x,a])]) K:=by obtain⟨y,rfl⟩:=h;obtain⟨z0,z1,rfl⟩:∃z0 z1,zs=[z0,z1]:=(by match zs,i with|[z0,z1],_=>simp);obtain⟨rfl,rfl⟩|⟨d,v,rfl,j,f⟩:=c;have:aX [z0,z1] 1 Y [(0, .a [.s y, .l [] U U])]=V (.l [[.s y, .l [] I I]] U U,Y):=bvK;rw[this];exact b Y<|Fr.refl _ _;have:aX [z0,z1] 1 Y [(0, .a [.s y, .m (d,v)<|L bA])]=V (.l [[.s y, .l bA I I]] U U,kill Y (d,v)):=(by simp[aX,aly,eY,nrm,gK,eR,aTH,f,aNN,iR,kills,bsm,eN]);rw[this];exact b _ ⟨Qi,λk g=>ani<|λe=>g<|by rwa [e]⟩
def xL{Y ds e}{z:Nat}{a bA K}{i:Int}(h:Gr Y ds e z a bA)(b:aF (L bA) i)(j:∀d v,d∈ds->a= .m (d,v) (L bA)->box Y (d,v)=V ⟨e,z,U,I,bA⟩->K (.p (d,v) i.toNat 0)):rV (cz z Y a<|iv i) K:=by obtain⟨rfl,rfl⟩|⟨d,v,rfl,f,c⟩:=h;have:=b.1;have:=b.2;grind;have g:i.toNat<L bA:=(be7 b.1 b.2);simp only[cz,b.1,a6F,c,a6X,g,aNR];exact j d v f A c
def Dz{Y e}{z d v i j:Nat}{bA r x y K}(a:box Y (d,v)=V ⟨e,z,U,I,bA⟩)(o:d<L Y)(h:bA[i]?=V r)(q:j<L r)(l:nrm (eR Y x)=y)(f:aNN x=[])(m:eY y=V [y])(n:eN y=U)(c:∀Y',Fr Y Y' [d]->box Y' (d,v)=V ⟨e,z,U,I,bA.set i<|r.set j y⟩->K Y'):sV (aK 1 Y (.p (d,v) i j) x) K:=by have b:aK 1 Y (.p (d,v) i j) x=V (wr Y (d,v) ⟨e,z,U,I,bA.set i<|r.set j y⟩):=(by simp only[aK,aBG,a,eE,btd,f,kills,aRl,pW,l,m,h,bZ,bhZ];grind [GP]);rw[b];exact c _ ⟨uC,λk g=>wy<|λe=>g<|by simp[e]⟩<|lO a
def anc{Y e z d v i j bA o b r q}(a:box Y (d,v)=V ⟨e,z,o,b,bA⟩)(c:bA[i]?=V r):sA q Y (.p (d,v) i j)=aN q (r.drop j):=by simp[sA,iE,a,c]
def mo{e:TypeId}{z d n:Nat}{zs:dM}{Y:ae}{K:be}(f:L Y=n)(b:∀Y',Fr Y Y' [d]->box Y' (d,(aZ Y d).ver+1)=V ⟨e,z,U,U,[zs]⟩->K (.p (d,(aZ Y d).ver+1) 0 0) Y')(g:L zs=z:=by exact A)(a:0<z:=by decide)(c:d<n:=by decide):eV (alA e zs Y d) K:=pv g a (f▸c) b
def qW{α:Type}{f:α->dM}{z:Nat}(a:∀x,L (f x)=z){l:List α}:∀r∈l.map f,L r=z:=vB
def uS{a b c d}:aN (V 4) [a,b,c,d]=V (.a [a,b,c,d]):=rfl
def iF{a l}:aN J (a::l)=V a:=rfl
def zU{v}:eY (.s v)=V [.s v]:=rfl
def aqx(s:aW)(r:AV)(Y:ae):Prop:=∃a1 b d,r= .a [a1,iv s.tx,b,d]/\Gr Y [41] 191 2 a1 (s.ak.map cg.c)/\Gr Y [10] 4 1 b (s.done.map cb)/\Gr Y [14] 69 3 d (s.ay.map aoC.c)
def aCH(s){s0}(hs:L s0=4096)(hp:L s.ak<100000/\L s.done<100000/\L s.ay<100000/\∀l∈s.ak,L l.bk<1000000):∃r m,(aqx s r m/\Fr s0 m [1,2,3,10,14,38,41])/\cZ aS GG 128 [.a s.c] s0 r m:=aLp hs A λs2 v1 v aq _ b1=>by have hl:=v.len.trans hs;have e:Fr s0 s2 [1]:=⟨v.len,λk hk=>aq k<|by simpa using hk⟩;refine mo hl λs4 F b4=>?_;have w:=F.bt b1;simp only[qz 4,qz 6,qy 8,eT,w,nS];refine fP (ds:=[10]) Gr.nil A H H bsd O X X λn s6 p j=>?_;rw[dW] at p;have x:=j.bt w;simp only[qz 10,eT,x];refine fP (ds:=[14]) Gr.nil A H H bsd O (by grind [aoC.c]) X λo s8 q f=>?_;rw[dW] at q;have ad:=p.fr f H;have am:bM btW bst [(1,iv s.tx),(2,n),(3,o)]=V (.a [.l [] U U,iv s.tx,n,o]):=(by simp[bM,aly,uc p,uc q,zU]);simp only[qz 12,qy 14,am,u0];refine eF A rfl H bsd λD b P=>?_;simp only[qz 16];refine dT ?_ ?_;obtain⟨_,W⟩|⟨d2,v2,W,z,_⟩:=p<;>obtain⟨_,e3⟩|⟨d3,v3,e3,B,_⟩:=q<;>(try simp only[cE] at z)<;>(try simp only[cE] at B)<;>(try subst z)<;>(try subst B)<;>rw[W,e3]<;>rfl;have R:=b.bt<|f.bt x;have S:=b.bt<|f.bt<|j.bt b4;have ae:=ad.fr b H;have af:=q.fr b H;have M:L D=4096:=(by rw[b.1,f.1,j.1,F.1,hl]);refine⟨λvs Y=>∃(k:Nat) (a1:AV),vs=[iv k]/\k<=L s.ak/\Fr D Y [3,38,41]/\box Y (3,(aZ s8 3).ver+1)=V ⟨39,4,U,U,[[a1,iv s.tx,n,o]]⟩/\Gr Y [41] 191 2 a1 ((s.ak.take k).map cg.c),fM<|L s.ak,⟨0,_,A,mh _,Fr.refl _ _,P,Gr.nil⟩,?_⟩;rintro vs Y ⟨k,a1,rfl,hk,d,hb,g1⟩;have T:=d.bt R;have c4:=d.bt S;simp+contextual only[qz 25,qy 28,fD,uS,iF,T,hb,bh,nS];have LY:L Y=4096:=(by rw[d.1,M]);refine⟨λh=>⟨vp h,?_⟩,λh=>?_⟩;have hR:=hp.2.2.2 _<|dB<|aL h;simp only[qz 18,au,fD,T,bh];refine⟨vp h,?_⟩;refine fP (ds:=[38]) Gr.nil A H H Z O O X λN m t E=>?_;rw[dW] at t;have G:bM bu0 bqW [(0,iv (gd s.ak k).aPo),(1,N)]=V (.a [iv (gd s.ak k).aPo,N]):=(by simp[bM,aly,uc t,zU]);simp only[qz 20,qy 22,G,u0];refine awE A ⟨_,A⟩ t λY2 e=>?_;have ac:=(g1.fr E H).fr e H;refine fP ac A H H bsd (by grind [cg.c]) (by grind [cg.c,gd]) X λa5 Y3 g5 K=>?_;have y:=K.bt<|e.bt<|E.bt hb;simp only[qz 24,eQ,y,Nat.add_zero];refine Ev y bsd (uc g5) O λY4 u al=>?_;simp only[qz 26];refine dT ?_ ?_;obtain⟨_,e4⟩|⟨d4,v4,e4,C,_⟩:=t<;>(try simp only[cE] at C)<;>(try subst C)<;>rw[e4]<;>rfl;simp only[au,cS,aY];have g:=aL h;rw[fX Z];refine⟨⟨k+1,a5,A,g,?_,al,?_⟩,?_⟩;exact d.trans<|(E.mono O).trans<|(e.mono O).trans<|(K.mono O).trans<|u.mono O;have:=g5.fr u H;rw[show s.ak.take (k+1)=s.ak.take k++[gd s.ak k] by rw[aNV g,iJ g],dg];exact this;grind [fM,cM,bh];have ao:k=L s.ak:=X;refine gN c4 Z A rfl λY5 i b5=>?_;simp only[b5,eQ,uS,aRf,aoz];rw[ao,gV] at g1;refine⟨⟨a1,n,o,A,g1.fr i H,(ae.fr d H).fr i H,(af.fr d H).fr i H⟩,?_⟩;exact(e.mono O).trans<|(F.mono O).trans<|(j.mono O).trans<|(f.mono O).trans<|(b.mono O).trans<|(d.mono O).trans<|i.mono O
def Dj(a b:AV):Prop:=∀k∈aNG a,k∉aNG b
theorem KJ{Y g h e j z m a f bA b}(l:Gr Y g e z a bA)(i:Gr Y h j m f b)(p:∀k∈g,k∉h):Dj a f:=by obtain⟨_,rfl⟩|⟨d,v,rfl,r,_⟩:=l;intro k c;simp[aNG,dC,dK] at c;obtain⟨_,rfl⟩|⟨q,v',rfl,n,_⟩:=i;intro k c;simp[aNG,dC,dK];intro k c o;grind [aNG,dC,dK,cE]
def jH{fn:Nat}{xs Y}{d:Nat}{K Q:be}(f:uQ.elem fn=I)(h:∃r a,Q r a/\cZ aS GG fn xs Y r a)(e:∀r a,Q r a->L a=L Y/\K r a):cB fn xs Y d K:=by obtain⟨r,a,b,c⟩:=h;refine⟨r,a,c,(e r a b).1,?_⟩;rw[za<|by show¬uQ.elem fn=U;rw[f];simp];simp_all
theorem Gr.sub{Y ds b e z a bA}(i:Gr Y ds e z a bA)(j:∀k∈ds,k∈b):Gr Y b e z a bA:=by obtain h|⟨d,v,c,f,g⟩:=i;exact .inl h;exact .inr ⟨d,v,c,j d f,g⟩
def awZ{s:aW}{Y}{d:Nat}{K}(g:L s.ak<100000/\L s.done<100000/\L s.ay<100000/\∀l∈s.ak,L l.bk<1000000)(hs:L Y=4096)(k:∀a1 b e Y',Fr Y Y' [1,2,3,10,14,38,41]->Gr Y' [10,14,41] 191 2 a1 (s.ak.map cg.c)->Gr Y' [10,14,41] 4 1 b (s.done.map cb)->Gr Y' [10,14,41] 69 3 e (s.ay.map aoC.c)->Dj a1 b->Dj a1 e->Dj b e->K (.a [a1,iv s.tx,b,e]) Y'):cB 128 [.a s.c] Y d K:=jH A (aCH s hs g)<|by rintro r h ⟨⟨a1,b,e,rfl,g1,i,j⟩,f⟩;exact⟨f.1,by grind [Gr.sub,KJ]⟩
def QS{bA}{Q:J3}:(∀r,(∃t o,r=AV.l bA t o)->Q r)=∀t o,Q (.l bA t o):=X
def ang{Y bA t o v r}:lo Y [.l bA t o, .s v] r=True:=by simp[lo,nA,aNN,iR]
def jh(l:eu)(a:eu)(k:Nat):eu:=(a.take k).foldl fk l
theorem QL{l a}{k:Nat}(h:k<L a):jh l a (k+1)=fk (jh l a k) (gd a k):=by rw[jh,iJ h,RO,aNV h];rfl
def Bh{l a}:∀{k:Nat},k<=L a->L (jh l a k)<=L l+k
 |0,_=>by simp[jh]
 |k+1,h=>by
  rw[QL Z]
  have:=QK (jh l a k)<|gd a k
  have:=Bh (l:=l) (a:=a) (k:=k) Z
  omega
def mP(a b:eu):eu:=jh (jh [] a<|L a) b<|L b
def OM(a b)(m:L a+L b<900000):Ct 195 [sl ci a,sl ci b] (λr=>∃t o,r= .l ((mP a b).map ci) t o):=aLn λs0 j g=>yh (λs:Bool×Bool×Nat=>[.l ((jh [] a s.2.2).map ci) s.1 s.2.1,iv s.2.2]) 1 (L a) (λs=>s.2.2<=L a) (U,U,0) O<|by rintro⟨t,o,k⟩ c;simp only at c;have d:=Bh (l:=[]) (a:=a) c;simp+contextual only[qz 25,gJ,K7,ar,bh,QS,ang];refine⟨λh=>⟨vp h,by simp only[bhZ] at d;omega,λe o'=>?_⟩,λh=>?_⟩;have:=aL h;refine wN (enc:=λs:Bool×Bool×Nat=>[.l ((jh [] a s.2.2).map ci) s.1 s.2.1,iv s.2.2]) (s:=(t,o,k)) (s':=(e,o',k+1)) (i:=k) ?_ A rfl (aL h)<|aL h;grind [fX,QL,aL];have f:k=L a:=X;subst f;refine yh (λs:Bool×Bool×Nat=>[.l ((jh (jh [] a<|L a) b s.2.2).map ci) s.1 s.2.1,iv s.2.2]) 1 (L b) (λs=>s.2.2<=L b) (t,o,0) O ?_;rintro⟨t,o,k⟩ c;simp only at c;have:=Bh (l:=jh [] a<|L a) (a:=b) c;simp+contextual only[qz 61,gJ,K7,ar,bh,QS,ang];refine⟨λh=>⟨vp h,by simp only[bhZ] at d;omega,λe o'=>?_⟩,λh=>?_⟩;have:=aL h;refine wN (enc:=λs:Bool×Bool×Nat=>[.l ((jh (jh [] a<|L a) b s.2.2).map ci) s.1 s.2.1,iv s.2.2]) (s:=(t,o,k)) (s':=(e,o',k+1)) (i:=k) ?_ A rfl (aL h)<|aL h;grind [fX,QL,aL];obtain rfl:k=L b:=X;exact⟨A,t,o,A⟩
def FE:FT:=pn OM
def ayJ:=f211 FE OM
def aoX:dO:=(195,FE)::aoW
def apa:eJ aoX:=asq (aN0 OM)<|Rb
def wa:=ai @ayJ<|@K7
def atV:=I9 43 [(6,([15],[7,12])),(10,([45],[2,4,5,6,7,12,15,30])),(12,([54],[2,4,5,6,7,12,15,30])),(29,([17],[7,12])),(36,([19],[7,12,18]))]
def aLo{c0 b c d e f}:=y2 34 6 6 39 4 7 apa func116 atV c0 b [.a c0, .a b,c,d,e,f]
structure Sy(Y:ae)(d v:Nat)(sp:eP)(s:aW)(a1 a2 a3:AV):Prop where
 bx:box Y (d,v)=V ⟨39,4,U,U,[[a1,iv s.tx,a2,a3]]⟩
 g1:Gr Y sp 191 2 a1 (s.ak.map cg.c)
 g2:Gr Y sp 4 1 a2 (s.done.map cb)
 g3:Gr Y sp 69 3 a3 (s.ay.map aoC.c)
 d12:Dj a1 a2
 d13:Dj a1 a3
 d23:Dj a2 a3
theorem Dj.no{a b d v n}(h:Dj a b)(e:a= .m (d,v) n):d∉aNG b:=h d (by grind [aNG,dC,dK])
def Dj.sym{a b}(h:Dj a b):Dj b a:=λk f e=>h k e f
def Gr.other{Y Y' ds e z d a bA}(j:Gr Y ds e z a bA)(i:Fr Y Y' [d])(l:d∉aNG a):Gr Y' ds e z a bA:=by obtain h|⟨f,v,rfl,g,k⟩:=j;exact .inl h;refine .inr ⟨f,v,A,g,?_⟩;rwa [i.box<|by grind [cE,aNG,dC,dK]]
def map_set{α:Type}{f:α->dM}{l:List α}{i x}:(l.map f).set i (f x)=(l.set i x).map f:=O
def aO7{Y}{d v:Nat}{g s a1 n l}{i:Int}{j:Nat}{x}{K:AV->be}(S:Sy Y d v g s a1 n l)(t:∀k∈g,k<L Y/\k≠d)(r:aF (L s.ay) i)(z:j<3)(u)(D:(gd s.ay i.toNat).c.set j (.s x)=u.c)(w:∀e v' Y',e∈g->Fr Y Y' g->Sy Y' d v g {s with ay:=s.ay.set i.toNat u} a1 n l->K (.p (e,v') i.toNat 0) (.p (e,v') i.toNat j) Y'):rV (cz 3 Y l<|iv i) λp=>rV (iQ j Y p) λq=>sV (aK 1 Y q<|.s x) (K p q):=by have:L (s.ay.map aoC.c)=L s.ay:=O;refine xL S.g3 vB λe v' f m o=>?_;rw[rR,o];have B:(s.ay.map aoC.c)[i.toNat]?=V (gd s.ay i.toNat).c:=(by have:i.toNat<L s.ay:=(be7 r.1 r.2);grind [eC,aNV]);show sV (aK 1 Y (.p (e,v') i.toNat<|0+j)<|.s x)<|K _<|.p (e,v') i.toNat<|0+j;rw[aj];refine Dz (y:= .s x) o (t e f).1 B z A rfl rfl rfl λY' h C=>?_;refine w e v' Y' f (h.mono<|by simp[f]) ⟨?_,?_,?_,?_,S.d12,S.d13,S.d23⟩;rw[h.box X];exact S.bx;exact S.g1.other h<|S.d13.sym.no m;exact S.g2.other h<|S.d23.sym.no m;refine .inr ⟨e,v',?_,f,?_⟩;rw[m];simp;simp_all
def yO{Y}{d v:Nat}{g s a1 m n}{i:Int}{j:Nat}{x y}{K:AV->be}(S:Sy Y d v g s a1 m n)(u:∀k∈g,k<L Y/\k≠d)(t:aF (L s.ak) i)(C:j<2)(E:nrm (eR Y x)=y)(w:aNN x=[])(F:eY y=V [y])(r:eN y=U)(z)(M:(gd s.ak i.toNat).c.set j y=z.c)(B:∀e v' Y',e∈g->Fr Y Y' g->Sy Y' d v g {s with ak:=s.ak.set i.toNat z} a1 m n->K (.p (e,v') i.toNat 0) (.p (e,v') i.toNat j) Y'):rV (cz 2 Y a1<|iv i) λp=>rV (iQ j Y p) λq=>sV (aK 1 Y q x) (K p q):=by have:L (s.ak.map cg.c)=L s.ak:=O;refine xL S.g1 vB λe v' f l o=>?_;rw[rR,o];have D:(s.ak.map cg.c)[i.toNat]?=V (gd s.ak i.toNat).c:=(by have:i.toNat<L s.ak:=(be7 t.1 t.2);grind [eC,aNV]);show sV (aK 1 Y (.p (e,v') i.toNat<|0+j) x)<|K _<|.p (e,v') i.toNat<|0+j;rw[aj];refine Dz (y:=y) o (u e f).1 D C E w F r λY' h G=>?_;refine B e v' Y' f (h.mono<|by simp[f]) ⟨?_,?_,?_,?_,S.d12,S.d13,S.d23⟩;rw[h.box X];exact S.bx;refine .inr ⟨e,v',?_,f,?_⟩;rw[l];simp;simp_all;exact S.g2.other h<|S.d12.no l;exact S.g3.other h<|S.d13.no l
def aIC{Y}{d v:Nat}{g s a1 h l}{i:Int}{b K}(S:Sy Y d v g s a1 h l)(o:∀k∈g,k<L Y/\k≠d)(n:aF (L s.done) i)(q:∀Y',Fr Y Y' g->Sy Y' d v g {s with done:=s.done.set i.toNat b} a1 h l->K Y'):rV (cz 1 Y h<|iv i) λp=>sV (aK 1 Y p<|bv b) K:=by have:L (s.done.map cb)=L s.done:=O;refine xL S.g2 vB λm v' e j r=>?_;have t:(s.done.map cb)[i.toNat]?=V (cb<|gd s.done i.toNat):=(by have:i.toNat<L s.done:=(be7 n.1 n.2);grind [eC,aNV]);refine Dz (y:=bv b) r (o m e).1 t O A rfl rfl rfl λY' f u=>?_;refine q Y' (f.mono<|by simp[e]) ⟨?_,?_,?_,?_,S.d12,S.d13,S.d23⟩;rw[f.box X];exact S.bx;exact S.g1.other f<|S.d12.sym.no j;refine .inr ⟨m,v',?_,e,?_⟩;rw[j];simp;simp_all;exact S.g3.other f<|S.d23.no j
def aNU(s:aW)(i:Int)(e:aoC):aW:={s with ay:=s.ay.set i.toNat e}
def lC(s:aW)(i:Int)(e:cg):aW:={s with ak:=s.ak.set i.toNat e}
def fA(s:aW)(i:Int):aoC:=gd s.ay i.toNat
def cH(s:aW)(i:Int):cg:=gd s.ak i.toNat
def tD(s:aW)(eI lD:Int):Int:=if lD∈fO s eI then lD else gd (fO s eI) 0
def cU(w:aOw)(s:aW)(t kind eI lD:Int):aW×Int:=
 if kind=1 then(aNU s t {fA s t with cQ:=2},0)
 else if kind=2 then(aNU s t {fA s t with cQ:=5},0)
 else if kind=6\/kind=10 then(lC s eI {cH s eI with aPo:=t},0)
 else if kind=7\/kind=11 then(lC s eI {cH s eI with aPo:= -1},0)
 else if kind=8 then(lC s eI {cH s eI with bk:=mP (cH s eI).bk [t]},0)
 else if kind=9 then(lC s eI {cH s eI with bk:=fJ (cH s eI).bk t},0)
 else if kind=12 then({s with tx:=t},0)
 else if kind=13 then({s with tx:= -1},0)
 else if kind=14 then(aNU s t {fA s t with atomic:=U},0)
 else if kind=15 then(aNU s t {fA s t with atomic:=I},0)
 else if kind=16 then(aNU (lC s (gd w.bC eI.toNat).eg {cH s (gd w.bC eI.toNat).eg with aPo:= -1}) t {fA s t with cQ:=3,cond:=eI},0)
 else if kind=17 then(aNU (lC s (gd w.bC eI.toNat).eg {cH s (gd w.bC eI.toNat).eg with aPo:=t}) t {fA s t with cQ:=2,cond:=0},0)
 else if kind=18 then(if fO s eI=[] then(s,-1) else(aNU s (tD s eI lD) {fA s (tD s eI lD) with cQ:=4},tD s eI lD))
 else if kind=19 then((fO s eI).foldl (λs u=>aNU s u {fA s u with cQ:=4}) s,L<|fO s eI)
 else if kind=20 then(aNU s eI {fA s eI with cQ:=1},0)
 else if kind=22 then({s with done:=s.done.set eI.toNat U},0)
 else(s,0)
def aBt{Y ds e z a bA}(g:Gr Y ds e z a bA):∃f o,aTH Y a= .l bA f o:=by obtain⟨rfl,rfl⟩|⟨d,v,rfl,_,h⟩:=g;exact⟨_,_,A⟩;simp_all [aTH]
def sU{Y ds e z a bA}(g:Gr Y ds e z a bA):∃f o,dQ Y a= .l bA f o:=by obtain⟨rfl,rfl⟩|⟨d,v,rfl,h,i⟩:=g;exact⟨_,_,A⟩;simp_all [dQ]
def eD(s:aW)(f:Bool×Bool×Bool×Bool×Bool×Bool):dM:=[.l (s.ak.map cg.c) f.1 f.2.1,iv s.tx, .l (s.done.map cb) f.2.2.1 f.2.2.2.1, .l (s.ay.map aoC.c) f.2.2.2.2.1 f.2.2.2.2.2]
def avt{Y m s' a1 e g}{v:Int}{R}{h:Nat}{r}(S:Sy Y 7 1 m s' a1 e g)(G:∀k∈m,k≠12)(D:box Y (12,h)=V ⟨39,4,U,U,[r]⟩)(E:L r=4)(K:L Y=4096)(C:∀f,R<|.t [.a<|eD s' f,iv v,bv U]):rV (sA (V 4) Y<|.p (7,1) 0 0) λt=>sV (aK 4 Y (.p (12,h) 0 0) t) λi=>rV (sA (V 4) i<|.p (12,h) 0 0) λt=>aE R i [t,iv v,bv U]:=by have y:sA (V 4) Y (.p (7,1) 0 0)=V (.a [a1,iv s'.tx,e,g]):=(by simp[sA,iE,S.bx,aN]);rw[y];refine gN (cs:=[a1,iv s'.tx,e,g]) D Z E A λY' j n=>?_;have z:sA (V 4) Y' (.p (12,h) 0 0)=V (.a [a1,iv s'.tx,e,g]):=(by simp[sA,iE,n,aN]);rw[z];have l:∀k∈m,k∉[12]:=vB;obtain⟨u,o1,o⟩:=sU<|S.g1.fr j l;obtain⟨w,F,q⟩:=sU<|S.g2.fr j l;obtain⟨x,o3,s⟩:=sU<|S.g3.fr j l;show aE R Y' [.a [a1,iv s'.tx,e,g],iv v,bv U];have B:jS Y' [.a [a1,iv s'.tx,e,g],iv v,bv U]= .t [.a<|eD s' (u,o1,w,F,x,o3),iv v,bv U]:=(by show AV.t [.a<|[a1,iv s'.tx,e,g].map<|dQ Y',iZ Y'<|iv v,iZ Y'<|bv U]=_;simp only[ji,mU,o,q,s];rfl);unfold aE;rw[B];exact⟨A,C _⟩
def Qt{Y ds e z a α f}{l:List α}(g:Gr Y ds e z a<|l.map f):gK (aTH Y a)=sl f l:=by obtain⟨i,o,h⟩:=aBt g;rw[h];rfl
def aoP{Y d v g s a1 e f}(S:Sy Y d v g s a1 e f):dG Y (.a [a1,iv s.tx,e,f])= .a s.c:=by simp only[dG,nrm,eR,ji,mU,Qt S.g1,Qt S.g2,Qt S.g3];rfl
section
variable{a b c d:AV}
def rq0:aN J [a,b,c,d]=V a:=rfl
def rq2:aN J (aOz 2 [a,b,c,d])=V c:=rfl
def yD:aN J (aOz 3 [a,b,c,d])=V d:=rfl
def rq4:aN (V 4) [a,b,c,d]=V (.a [a,b,c,d]):=rfl
end
def tf{K Y}{i:Int}{l t o}:rV (cz 1 Y (.l (l.map ci) t o)<|iv i) K=(aF (L l) i/\K (.q<|ci<|gd l i.toNat)):=amX (Y:=Y)
def aoQ{Y}{d v:Nat}{j s a1 k l}{i:Int}{K:AV->AV->J3}(S:Sy Y d v j s a1 k l)(h:aF (L s.ak) i)(m:∀e v',e∈j->K (.p (e,v') i.toNat 0) (.p (e,v') i.toNat 1) (sl ci (gd s.ak i.toNat).bk)):rV (cz 2 Y a1<|iv i) λp=>rV (iQ 1 Y p) λq=>rV (sA J Y q) (K p q):=by have:L (s.ak.map cg.c)=L s.ak:=O;refine xL S.g1 vB λe v' g o f=>?_;rw[rR,f];have n:(s.ak.map cg.c)[i.toNat]?=V (gd s.ak i.toNat).c:=(by have:i.toNat<L s.ak:=(be7 h.1 h.2);grind [eC,aNV]);show rV (sA J Y<|.p (e,v') i.toNat<|0+1)<|K _<|.p (e,v') i.toNat<|0+1;rw[aj,anc f n];exact m e v' g
def aoR{Y}{d v:Nat}{g s a1 h i}{x:Int}{K}(S:Sy Y d v g s a1 h i)(m:d<L Y)(e:∀k∈g,k∉[d])(l:∀Y',Fr Y Y' [d]->Sy Y' d v g {s with tx:=x} a1 h i->K Y'):sV (aK 1 Y (.p (d,v) 0 1)<|iv x) K:=Ev S.bx m A O λY' f j=>by exact l Y' f ⟨j,S.g1.fr f e,S.g2.fr f e,S.g3.fr f e,S.d12,S.d13,S.d23⟩
def Af{α}[Inhabited α]{l:List α}{i:Int}{x}(h:aF (L l) i):gd (l.set i.toNat x) i.toNat=x:=by have:i.toNat<L l:=(be7 h.1 h.2);grind [aNV]
def uE(s:aW)(u:Int):aW:=aNU s u {fA s u with cQ:=4}
def aD3{s}{u:Int}:L (uE s u).ay=L s.ay:=by simp[uE,aNU]
theorem ans:∀{l:eu} {s},L (l.foldl uE s).ay=L s.ay
 |[],_=>rfl
 |u::l,s=>by rw[List.foldl_cons,ans,aD3]
theorem apF{s}{c u:Int}(h:u∈fO s c):aF (L s.ay) u:=by grind [fO,eh,dJ]
def sy0:aW:=⟨[],0,[],[]⟩
def ON(w)(s)(t kind eI lD:Int)(hp:L w.bC<4611686018427387904/\(∀l∈s.ak,L l.bk<100000)/\L s.ak<100000/\L s.done<100000/\L s.ay<100000):Ct 116 [.a w.c, .a s.c,iv t,iv kind,iv eI,iv lD] (λr=>∃f,r=bif jm w s t kind eI then .t [.a<|eD (cU w s t kind eI lD).1 f,iv (cU w s t kind eI lD).2,bv U] else .t [.a<|eD sy0 f,iv 0,bv I]):=aLo A rfl λs4 hl b1 b2 h0=>mo hl λs6 F6 b6=>by have c1:=F6.bt b1;have c2:=F6.bt b2;simp+contextual only[qz 6,qy 10,oj,wa,c1,c2];refine⟨X,λhe=>?_,λhe=>?_⟩;simp only[eH] at he;rw[show bM btW bst []=V (.a btW) from A];refine gN (cs:=btW) b6 bsd A rfl λs7 F7 b7=>?_;simp only[qz 8,u1,b7];refine⟨A,(U,U,U,U,U,U),?_⟩;rw[he];rfl;simp only[fK] at he;obtain⟨hf,hi,hn⟩:lh w s=U/\dh t (L w.ay)=U/\named w kind eI=U:=(by grind [jm]);obtain⟨f1,f2,f3,f4⟩:=iY hf;have q:aF (L s.ay) t:=btB;refine awZ X (by rw[F6.1,hl]) λa1 a2 a3 bz D g1 g2 g3 aU aV aW=>?_;refine gN (cs:=[a1,iv s.tx,a2,a3]) (D.bt c2) bsd A rfl λo x z=>?_;have S:Sy o 7 1 [10,14,41] s a1 a2 a3:=⟨z,g1.fr x H,g2.fr x H,g3.fr x H,aU,aV,aW⟩;have aC:L o=4096:=(by rw[x.1,D.1,F6.1,hl]);have aO:=x.bt<|D.bt b6;have aR:=x.bt<|D.bt c1;have p:∀k∈[10,14,41],k<L o/\k≠7:=X;have m:∀k∈[10,14,41],k∈[7,10,14,41]:=H;simp only[qz 12];refine bpF (λg=>∀Y' s' v,Fr o Y' [7,10,14,41]->Sy Y' 7 1 [10,14,41] s' a1 a2 a3->cU w s t kind eI lD=(s',v)->g [iv v] Y') (λY' s' v i j e=>?_) λg hJ=>?_;simp only[qz 39,aI];refine avt j H (i.bt aO) A (by rw[i.1,aC]) λf=>⟨f,?_⟩;simp_all;simp+contextual only[qz 41,qy 14,qy 16,eS,z,yD];refine⟨λk1=>?_,λk1=>⟨λk2=>?_,λk2=>?_⟩⟩;simp only[awG] at k1;refine aO7 (K:=λ_ _ Y=>g [iv 0] Y) S p q H {fA s t with cQ:=2} A λ_ _ Y' _ i j=>hJ Y' _ _ (i.mono m) j ?_;simp[cU,k1,aNU];simp only[awG] at k2;refine aO7 (K:=λ_ _ Y=>g [iv 0] Y) S p q H {fA s t with cQ:=5} A λ_ _ Y' _ i j=>hJ Y' _ _ (i.mono m) j ?_;simp[cU,k2,aNU];simp only[qz 65,iM,aY,sw];simp+contextual only[qz 63,qy 18,eS,z,rq0];constructor<;>intro k6;simp only[fH,awG] at k6;have n:aF (L s.ak) eI:=btC;refine yO (K:=λ_ _ Y=>g [iv 0] Y) S p n H (y:=iv t) A rfl rfl rfl {cH s eI with aPo:=t} A λ_ _ Y' _ i j=>hJ Y' _ _ (i.mono m) j ?_;grind [cU,lC];simp only[qz 77,iM,aY,sw];simp+contextual only[qz 75,qy 20,qy 26,qy 28,qy 30,qy 32,qy 34,qy 52,qy 54,fD,z,aR,rq0,rq2,yD,rq4];refine⟨λk7=>?_,λk7=>⟨λk8=>?_,λk8=>⟨λk9=>?_,λk9=>⟨λM=>?_,λM=>⟨λN=>?_,λN=>⟨λP=>?_,λP=>⟨λR=>?_,λR=>⟨λT=>?_,λT=>⟨λW=>?_,λW=>⟨λan=>?_,λan=>⟨λaa=>?_,λaa=>⟨λab=>?_,λab=>⟨λac=>?_,λac=>?_⟩⟩⟩⟩⟩⟩⟩⟩⟩⟩⟩⟩⟩;simp only[fH,awG] at k7;have n:aF (L s.ak) eI:=btC;refine yO (K:=λ_ _ Y=>g [iv 0] Y) S p n H (y:=iv<|-1) A rfl rfl rfl {cH s eI with aPo:= -1} A λ_ _ Y' _ i j=>hJ Y' _ _ (i.mono m) j ?_;grind [cU,lC];simp only[awG] at k8;have n:aF (L s.ak) eI:=btC;have:=hp.2.1 _<|ii n;refine aoQ S n λd' v' a0=>?_;simp only[iz,bQ,qz 22];rw[show(AV.l [[iv t]] U U)=AV.l ([t].map ci) U U from A];simp only[ar,wa,QS];refine⟨X,λt' o'=>⟨.inl A,?_⟩⟩;refine yO S p n H (y:=sl ci<|mP (gd s.ak eI.toNat).bk [t]) A rfl rfl rfl {cH s eI with bk:=mP (cH s eI).bk [t]} A λ_ _ Y' _ i j=>?_;refine dT (by simp[eL,lb,aNG,dC,dK])<|hJ Y' _ _ (i.mono m) j ?_;simp[cU,k8,lC];simp only[awG] at k9;have n:aF (L s.ak) eI:=btC;have:=hp.2.1 _<|ii n;refine aoQ (K:=λ_ _ bc=>fV Cb o [bc,iv t] λbd=>rV (cz 2 o a1<|iv eI) λbe=>rV (iQ 1 o be) λbf=>sV (aK 1 o bf bd) λbb=>g [iv 0] bb) S n λd' v' a0=>?_;simp only[ar,wa];refine⟨Z,λt'=>?_⟩;refine yO (K:=λ_ _ Y=>g [iv 0] Y) S p n H (y:=sl ci<|fJ (gd s.ak eI.toNat).bk t) A rfl rfl rfl {cH s eI with bk:=fJ (cH s eI).bk t} A λ_ _ Y' _ i j=>hJ Y' _ _ (i.mono m) j ?_;simp[cU,k9,lC];simp only[awG] at M;exact aoR S Z H λY' i j=>hJ Y' _ _ (i.mono H) j (by simp[cU,M]);simp only[awG] at N;exact aoR S Z H λY' i j=>hJ Y' _ _ (i.mono H) j (by simp[cU,N]);simp only[awG] at P;refine aO7 (K:=λ_ _ Y=>g [iv 0] Y) S p q H {fA s t with atomic:=U} A λ_ _ Y' _ i j=>hJ Y' _ _ (i.mono m) j ?_;simp[cU,P,aNU];simp only[awG] at R;refine aO7 (K:=λ_ _ Y=>g [iv 0] Y) S p q H {fA s t with atomic:=I} A λ_ _ Y' _ i j=>hJ Y' _ _ (i.mono m) j ?_;simp[cU,R,aNU];simp only[awG] at T;have C:aF (L w.bC) eI:=(by grind [oT]);have G:aF (L s.ak) (gd w.bC eI.toNat).eg:=(by rw[f2];exact f1 _<|ii C);refine⟨C,yO S p G H (y:=iv<|-1) A rfl rfl rfl {cH s (gd w.bC eI.toNat).eg with aPo:= -1} A λ_ _ Y' _ i j=>?_⟩;have B:∀k∈[10,14,41],k<L Y'/\k≠7:=(by rwa [i.1]);simp only[qz 36,eS,j.bx,yD];refine aO7 j B q H {fA s t with cQ:=3} A λd1 v1 Y2 a4 E S2=>?_;have F:∀k∈[10,14,41],k<L Y2/\k≠7:=(by rwa [E.1]);refine aO7 S2 F X H {fA s t with cQ:=3,cond:=eI} (by simp only[Af q];rfl) λd2 v2 Y3 a5 F3 S3=>?_;have h7:(7:Nat)≠d1:=X;refine dT (by simp[eL,lb,aNG,dC,dK,h7])<|hJ Y3 _ _ (((i.mono m).trans<|E.mono m).trans<|F3.mono m) S3 ?_;simp[cU,T,aNU,lC];simp only[awG] at W;have C:aF (L w.bC) eI:=(by grind [oT]);have G:aF (L s.ak) (gd w.bC eI.toNat).eg:=(by rw[f2];exact f1 _<|ii C);refine⟨C,yO S p G H (y:=iv t) A rfl rfl rfl {cH s (gd w.bC eI.toNat).eg with aPo:=t} A λ_ _ Y' _ i j=>?_⟩;have B:∀k∈[10,14,41],k<L Y'/\k≠7:=(by rwa [i.1]);simp only[qz 42,eS,j.bx,yD];refine aO7 j B q H {fA s t with cQ:=2} A λd1 v1 Y2 a4 E S2=>?_;have F:∀k∈[10,14,41],k<L Y2/\k≠7:=(by rwa [E.1]);refine aO7 S2 F X H {fA s t with cQ:=2,cond:=0} (by simp only[Af q];rfl) λd2 v2 Y3 a5 F3 S3=>?_;have h7:(7:Nat)≠d1:=X;refine dT (by simp[eL,lb,aNG,dC,dK,h7])<|hJ Y3 _ _ (((i.mono m).trans<|E.mono m).trans<|F3.mono m) S3 ?_;simp[cU,W,aNU,lC];simp only[awG] at an;simp only[jM,kU,jt,tW,aoP S,wa,QQ,Ql,Cq];refine⟨Z,λt'=>?_⟩;simp only[gT,eQ];constructor<;>intro hg;simp only[awG] at hg;have:fO s eI≠[]:=X;have:L (fO s eI)<=L s.ay:=wU s eI _;simp only[tf,u0,Gx,rk];have a9:gd (fO s eI) 0∈fO s eI:=dB Z;refine⟨⟨Z,Z⟩,?_⟩;refine bs6 (λJ'=>∀u:Int,u∈fO s eI->cU w s t kind eI lD=(uE s u,u)->J' [iv u]) (λu hu e=>?_) λJ' key=>?_;simp only[qz 177,qy 48,au,eS,z,yD];exact aO7 (K:=λ_ _ Y=>g [iv u] Y) S p (apF hu) H {fA s u with cQ:=4} A λ_ _ Y' _ i j=>hJ Y' _ _ (i.mono m) j e;simp only[qz 179,ar,wa,u0];refine⟨Z,λhh=>?_,λhh=>?_⟩;simp only[awG] at hh;exact key lD hh (by grind [cU,tD,uE]);simp only[aPs] at hh;exact key _ a9 (by grind [cU,tD,uE]);grind [decide_eq_false_iff_not,fO,List.length_eq_zero_iff,Fr.refl,cU];simp only[awG] at aa;simp only[jM,kU,jt,tW,aoP S,wa,QQ,Ql,Cq];refine⟨Z,λt'=>?_⟩;have:L (fO s eI)<=L s.ay:=wU s eI _;refine⟨λvs Y=>∃k:Nat,vs=[iv k]/\k<=L (fO s eI)/\Fr o Y [10,14,41]/\Sy Y 7 1 [10,14,41] (((fO s eI).take k).foldl uE s) a1 a2 a3,fM<|L<|fO s eI,(by grind [Fr.refl]),?_⟩;rintro vs Y ⟨k,rfl,hk,Fk,Sk⟩;simp only[qz 217,gT,eS,Sk.bx,yD,tf,bh,qM];refine⟨λh=>⟨vp h,?_⟩,λh=>?_⟩;have am:=aL h;have B:∀k∈[10,14,41],k<L Y/\k≠7:=(by rwa [Fk.1]);refine aO7 Sk B (by grind [ans,apF,dB]) H {fA (((fO s eI).take k).foldl uE s) (gd (fO s eI) k) with cQ:=4} A λ_ _ Y' _ i j=>?_;simp only[qz 50,au,cS,aY];rw[fX Z];refine⟨⟨k+1,A,am,Fk.trans i,?_⟩,?_⟩;rwa [EA am,RO];simp only[fM,cM,bh];omega;obtain rfl:k=L (fO s eI):=X;rw[gV] at Sk;refine hJ Y _ _ (Fk.mono m) Sk ?_;simp[cU,aa];rfl;simp only[awG] at ab;have a8:aF (L s.ay) eI:=(by grind [Eb]);refine aO7 (K:=λ_ _ Y=>g [iv 0] Y) S p a8 H {fA s eI with cQ:=1} A λ_ _ Y' _ i j=>hJ Y' _ _ (i.mono m) j ?_;simp[cU,ab,aNU];simp only[awG] at ac;have a6:aF (L s.done) eI:=(by grind [oU]);refine aIC S p a6 λY' i j=>hJ Y' _ _ (i.mono m) j ?_;simp[cU,ac];grind [Fr.refl,cP,decide_eq_false_iff_not,cU]
def FG:FT:=BL ON
def ayK:=al4 FG ON
def Ew:dO:=(116,FG)::aoX
def nF:eJ Ew:=asq (apO ON)<|apa
def z9:=ai @ayK<|@wa
def alb:=I9 31 [(4,([],[3,4,5,6])),(22,([10],[3,4,5,6,9])),(25,([],[5,6,9])),(27,([],[5,6,9]))]
def IL c b a d R:=(.mk _:NR Ew alb Tryz.f54 [.u, .u, .u] [c,b,a] d R).p
def aLz{c0:dM}{b:dM}{c:dM}{R:J3}(l0:L c0=6)(l1:L b=7)(d:L c=7)(h:H3 34 6 3 c0 42 7 4 b 71 7 5 c λf g i e=>IL f g i e R):Ct 54 [.a c0, .a b, .a c] R:=z3 alb nF func54 l0 l1 d h
def aLg{a}:=y0 nF func190 at1 [a]
def aLc{a}:=y0 nF func258 at1 [a]
def bjB s0 R:=(.mk _:NR Ew at1 Tryz.f257 [] [] s0 R).p
def aLf{R:J3}(h:∀s0:ae,L s0=4096->(∀k,aZ s0 k=mO)->bjB s0 R):Fn aS GG 257 [] R:=by refine uq ready nF func257 (an:=at1) a7c (aND (show ZF aS GG Ew at1 Tryz.f257 [] R=(bjB (ly Tryz.f257) R) by kernel_rfl)<|h (ly Tryz.f257) uB<|i8 _)
def aLS{a a1}:=y0 nF func135 at1 [a,a1]
def aLM{c0}:=y1 71 7 1 nF func71 at1 c0 [.a c0]
def aL4{c0}:=y1 71 7 1 nF func43 at1 c0 [.a c0]
def aL7{c0 b}:=y2 71 7 2 71 7 3 nF func77 at1 c0 b [.a c0, .a b]
def auF:=I9 5 []
def aL8{c0 b}:=y2 45 15 2 71 7 3 nF func101 auF c0 b [.a c0, .a b]
def aMe{c0}:=y1 71 7 1 nF func45 at1 c0 [.a c0]
def alo{a b:Int}:bc4 .geq 0 [] (.s<|.int .u8 a) (.s<|.int .u8 b)=V (bv<|Q<|b<=a):=rfl
def alp{a b:Int}:bc4 .leq 0 [] (.s<|.int .u8 a) (.s<|.int .u8 b)=V (bv<|Q<|a<=b):=rfl
def wx(c:Int):Bool:=(Q (97<=c)&&Q (c<=122))||(Q (65<=c)&&Q (c<=90))
def zY(c:Int):Bool:=Q (48<=c)&&Q (c<=57)
def OF(c):Ct 190 [.s<|.int .u8 c] (·=bv (wx c)):=aLg λs0 b a=>by simp+contextual only[eQ,alo,alp,wx]
def BW:FT:=lH OF
def ayC:=np BW OF
def OB(c):Ct 258 [.s<|.int .u8 c] (·=bv (zY c)):=aLc λs0 b a=>by simp+contextual only[eQ,alo,alp,zY]
def Fv:FT:=lH OB
def ayy:=np Fv OB
def Pn(i n):Ct 135 [iv i,iv n] (·=bv (dh i n)):=aLS λs0 b a=>by simp+contextual only[eQ,dh]
def vt:FT:=bsk Pn
def azb:=f200 vt Pn
def tT(e:aP):Bool:=Q (e.kind=3)||Q (e.kind=4)
def fR(e:aP):Bool:=Q (e.kind=3)||Q (e.kind=23)
def pN(e:aP):Bool:=Q (e.kind=18)||Q (e.kind=19)
def Pg(e):Ct 71 [.a e.c] (·=bv (tT e)):=aLM A λg f b d=>by simp+contextual only[eT,b,tT]
def Cj:FT:=lH Pg
def ay5:=np Cj Pg
def PA(e):Ct 43 [.a e.c] (·=bv (fR e)):=aL4 A λg f b d=>by simp+contextual only[eT,b,fR]
def zk:FT:=lH PA
def azm:=np zk PA
def aXC(e):Ct 45 [.a e.c] (·=bv (pN e)):=aMe A λg f b d=>by simp+contextual only[eT,b,pN]
def Gd:FT:=lH aXC
def azw:=np Gd aXC
def aTG(s r:aP):Bool:=Q (s.eI=r.eI)&&((Q (s.kind=4)&&Q (r.kind=3))||(Q (s.kind=22)&&Q (r.kind=23)))
def PD(s r):Ct 77 [.a s.c, .a r.c] (·=bv (aTG s r)):=aL7 A rfl λg f b d e=>by simp+contextual only[eT,b,d,aTG]
def Cn:FT:=bsk PD
def azp:=f200 Cn PD
def oM(w:am)(e:aP):Bool:=bif Q (e.kind=23) then gd w.init.eB.done e.eI.toNat&&Q (gd w.init.bU e.eI.toNat=e.value) else Q (gd w.init.cells e.eI.toNat=e.value)
def PE(w)(e)(h:(e.kind=23->aF (L w.init.eB.done) e.eI/\aF (L w.init.bU) e.eI)/\(e.kind≠23->aF (L w.init.cells) e.eI)):Ct 101 [.a w.c, .a e.c] (·=bv (oM w e)):=aL8 A rfl λi g b d f=>by simp+contextual only[fD,b,d,dc,oM];simp_all
def Ga:FT:=aIc PE
def azq:=gX Ga PE
def sd(w:aOw)(c:Int):Int:=bif dh c (L w.bC) then(gd w.bC c.toNat).eg else-1
def qT(l:List aP)(t:Int):Nat->Int|0=> -1|k+1=>if(gd l k).aq=t then k else qT l t k
def bs3(l:List aP)(j:Int):Int:=qT l (gd l j.toNat).aq j.toNat
def aOL(w:aOw)(s:aTo)(e:aP):Bool:=!fN w s||!dh e.aq (L w.ay)||Q (e.kind<1)||Q (23<e.kind)||!jm w s.eB e.aq e.kind e.eI
def tA(w:aOw)(e:aP):Bool:=bif Q (e.kind=1)||Q (e.kind=2) then Q (e.site≠-1) else(!dh e.site (L w.dU)||Q ((gd w.dU e.site.toNat).aq≠e.aq))
def yM(w:aOw)(e:aP):Bool:=Q ((0:Int)<L e.dI)&&(Q (e.kind≠5)&&!((Q (e.kind=3)||Q (e.kind=4))&&Q ((gd w.cells e.eI.toNat).size≠0)))
def yN(e:aP):Bool:=Q ((0:Int)<L e.ep)&&(Q (e.kind≠4)&&Q (e.kind≠22))
def bip(s:aTo)(e:aP):Bool:=!Q (lZ e.dI<|gd s.count e.aq.toNat)||!Q (lZ e.ep<|gd s.count e.aq.toNat)||!aO8 s e
def bjf(w:aOw)(s:aTo)(e:aP):Bool:=!(aOL w s e||(tA w e||(yM w e||(yN e||bip s e))))
def og(e:aP):Int:=if e.kind=18 then e.value else-1
def oc(w:aOw)(s:aTo)(e:aP):aTo:=⟨(cU w s.eB e.aq e.kind e.eI<|og e).1,if e.kind=4 then s.cells.set e.eI.toNat e.value else s.cells,if e.kind=22 then s.bU.set e.eI.toNat e.value else s.bU,s.count.set e.aq.toNat<|dq.wrap<|gd s.count e.aq.toNat+1⟩
def tw:aTo:=⟨sy0,[],[],[]⟩
def nD(w:aOw)(s:aTo)(e:aP):aTo:=bif bjf w s e then oc w s e else tw
def Lk(cs ds:dM):Prop:=cs.map gK=ds/\cs.all nj=U
def Lk.frz{cs ds}(h:Lk cs ds)(Y):cs.map (aTH Y)=cs:=by have a:=dV.1 h.2;rw[ja (g:=id) ?_,brw];intro c b;have:=a c b;cases c<;>simp[nj] at this<;>rfl
def Lk.fd{cs ds}(h:Lk cs ds)(Y):cs.map (dQ Y)=cs:=by have a:=dV.1 h.2;rw[ja (g:=id) ?_,brw];intro c b;have:=a c b;cases c<;>simp[nj] at this<;>rfl
def Lk.arg{cs ds}(h:Lk cs ds)(Y):dG Y (.a cs)= .a ds:=by show AV.a ((cs.map<|aTH Y).map gK)= .a ds;rw[h.frz,h.1]
def aIt{Y}{d v z y:Nat}{e o r cs K}(f:box Y (d,v)=V ⟨e,z,o,U,[r]⟩)(h:d<L Y)(j:L cs=y)(i:y<=L r)(c:∀Y',Fr Y Y' [d]->box Y' (d,v)=V ⟨e,z,o,U,[cs++r.drop y]⟩->K Y'):sV (aK y Y (.p (d,v) 0 0)<|.a cs) K:=by have b:aK y Y (.p (d,v) 0 0) (.a cs)=V (wr Y (d,v) ⟨e,z,o,U,[cs++r.drop y]⟩):=(by grind [aK,aBG,pW,eY,qh]);rw[b];exact c _ ⟨uC,λk g=>wy<|λe=>g<|by simp[e]⟩<|lO f
def Lm{Y ds e a}{l:eu}{i x:Int}{K}(h:Gr Y ds e 1 a<|l.map ci)(f:aF (L l) i)(c:∀k∈ds,k<L Y)(j:∀Y',Fr Y Y' ds->Gr Y' ds e 1 a ((l.set i.toNat x).map ci)->K Y'):rV (cz 1 Y a<|iv i) λp=>sV (aK 1 Y p<|iv x) K:=by have:L (l.map ci)=L l:=O;refine xL h vB λd v b m n=>?_;have:i.toNat<L l:=(be7 f.1 f.2);have o:(l.map ci)[i.toNat]?=V (ci<|gd l i.toNat):=(by grind [eC,aNV]);refine Dz (y:=iv x) n (c d b) o O A rfl rfl rfl λY' g q=>?_;refine j Y' (g.mono<|by simp[b])<|.inr ⟨d,v,?_,b,?_⟩;rw[m];simp;simp_all
def aBI{Y ds e a l}{i:Int}{K:AV->J3}(c:Gr Y ds e 1 a<|l.map ci)(b:aF (L l) i)(f:∀p,K p<|iv<|gd l i.toNat):rV (cz 1 Y a<|iv i) λp=>rV (sA J Y p) (K p):=by have:L (l.map ci)=L l:=O;refine xL c vB λd v k j g=>?_;have:i.toNat<L l:=(be7 b.1 b.2);have h:(l.map ci)[i.toNat]?=V (ci<|gd l i.toNat):=(by grind [eC,aNV]);rw[anc g h];exact f _
structure On(Y:ae)(v:Nat)(s:aTo)(x:dM)(a4 a5 a6:AV):Prop where
 bx:box Y (9,v)=V ⟨42,7,U,U,[x++[a4,a5,a6]]⟩
 hx:Lk x s.eB.c
 g4:Gr Y [159] 2 1 a4 (s.cells.map ci)
 g5:Gr Y [163] 2 1 a5 (s.bU.map ci)
 g6:Gr Y [167] 3 1 a6 (s.count.map ci)
 le:L Y=4096
def buj{p:Prop}(h:p:=by grind [Go.Ab.fN]):p:=h
def OV(w)(s)(e)(hp:L w.bC<4611686018427387904/\(∀l∈s.eB.ak,L l.bk<100000)/\L s.eB.ak<100000/\L s.eB.done<100000/\L s.eB.ay<100000/\L s.cells<100000/\L s.bU<100000/\L s.count<100000/\L e.dI<4611686018427387904/\L e.ep<4611686018427387904):Ct 54 [.a w.c, .a s.c, .a e.c] (λr=>∃cs,r= .t [.a cs,bv<|bjf w s e]/\Lk cs (nD w s e).c):=by refine aLz A rfl rfl λs6 hl b1 b2 b3 h0=>?_;obtain⟨p1,p2,p3,p4,p5,p6,p7,p8,p9,bc⟩:=hp;simp only[IL];refine mo hl λs7 T b7=>?_;have c1:=T.bt b1;have c2:=T.bt b2;have c3:=T.bt b3;have a8:L s7=4096:=(by rw[T.1,hl]);simp+contextual only[qz 8,qy 10,↓iS,fQ,z9,c1,c2,c3];have C:bjf w s e=I->rV (bM bsF aon []) λbg=>sV (aK 7 s7 (AV.p (6,(aZ s6 6).ver+1) 0 0) bg) λae=>rV (((box ae (6,(aZ s6 6).ver+1)).bind λx=>Sb (λx=>x) x.bA[0]?).bind<|aN<|V 7) λbi=>aE (λr=>∃cs,r= .t [.a cs,bv<|bjf w s e]/\Lk cs (nD w s e).c) ae [bi,bv I]:=(by intro aB;rw[show bM bsF aon []=V (.a bsF) from A];refine gN (cs:=bsF) b7 Z A rfl λae bR aV=>?_;simp only[aV];exact⟨A,bsF,by rw[aB];rfl,by simp only[nD,aB];rfl,A⟩);refine⟨p1,X,λhb=>?_,λaa=>?_⟩;grind [bjf,aOL,fh];have:aOL w s e=I:=aa;simp only[cP,fK,aPs] at aa;obtain⟨⟨⟨⟨hf,hi⟩,bX⟩,bY⟩,a2⟩:=aa;obtain⟨a3,hn⟩:lh w s.eB=U/\named w e.kind e.eI=U:=(by grind [jm]);obtain⟨f1,f2,f3,f4⟩:=iY a3;obtain⟨q1,q2,q3⟩:L s.cells=L w.cells/\L s.bU=L w.bU/\L s.count=L w.ay:=buj;have N:aF (L s.count) e.aq:=btB;have F:tA w e=U->bjf w s e=I:=(by grind [bjf]);refine bsf (λb=>tA w e=I->b [] s7) ?_ λb aA=>(by simp+contextual only[qz 29,qy 12,qy 14,↓iS,gj,z9,c1,c3];refine⟨λh=>⟨λh'=>C<|F ?_,λh'=>aA ?_⟩,λh=>⟨λh'=>?_,λh'=>C<|F ?_,λh'=>aA ?_⟩⟩;grind [tA];grind [tA];grind [dX];grind [tA];grind [tA]);intro bS;simp+contextual only[qz 27,qy 16,qy 18,qy 20,↓iS,gj,z9,c1,c2,c3];refine⟨λ_ _ h=>?_,(by grind [bjf,yM,fh]),λbT=>⟨(by grind [bjf,yN,fh]),λbV=>⟨N,p9,λ_=>N,λ_=>bc,λ_=>⟨Z,λh=>?_,λh=>?_⟩,(by grind [bjf,bip,fh]),λbW=>?_⟩⟩⟩;grind [qP];grind [qP];grind [oU];have aC:bjf w s e=U:=(by grind [yM,yN,bip,bjf]);clear C F;simp only[nS,bQ,qz 22,eT,c2];refine fP (bA:=[]) (ds:=[159]) (new:=s.cells.map ci) Gr.nil A H H Z O O X λj s8 K R=>?_;rw[dW] at K;have d2:=R.bt c2;simp only[qz 24,nS,bQ,qz 26,eT,d2];refine fP (bA:=[]) (ds:=[163]) (new:=s.bU.map ci) Gr.nil A H H bsd O O X λm s9 M E=>?_;rw[dW] at M;have e2:=E.bt d2;simp only[qz 28,nS,bQ,qz 30,eT,e2];refine fP (bA:=[]) (ds:=[167]) (new:=s.count.map ci) Gr.nil A H H bsd O O X λn be D o=>?_;rw[dW] at D;have a1:bM bsF aon [(1,j),(2,m),(3,n)]=V (.a [.l [] U U,iv 0, .l [] U U, .l [] U U,j,m,n]):=(by simp[bM,aly,uc K,uc M,uc D]);simp only[qz 32,qy 34,a1,aY];refine eF A rfl H bsd λad q W=>?_;have bj:(aZ be 9).ver=0:=(by rw[o.2 _ H,E.2 _ H,R.2 _ H,T.2 _ H,h0 9 H H H]);rw[bj] at W⊢;have ba:L ad=4096:=(by rw[q.1,o.1,E.1,R.1,a8]);have i1:=q.bt<|o.bt<|E.bt<|R.bt c1;have i2:=q.bt<|o.bt e2;have i3:=q.bt<|o.bt<|E.bt<|R.bt c3;have i7:=q.bt<|o.bt<|E.bt<|R.bt b7;have k4:=((K.fr E H).fr o H).fr q H;have k5:=(M.fr o H).fr q H;have k6:=D.fr q H;simp only[qz 36];refine dT ?_ ?_;obtain⟨_,G⟩|⟨d4,v4,G,aw,_⟩:=K<;>obtain⟨_,e5⟩|⟨d5,v5,e5,ax,_⟩:=M<;>obtain⟨_,e6⟩|⟨d6,v6,e6,az,_⟩:=D<;>(try simp only[cE] at aw)<;>(try simp only[cE] at ax)<;>(try simp only[cE] at az)<;>(try subst aw)<;>(try subst ax)<;>(try subst az)<;>rw[G,e5,e6]<;>rfl;refine bs6 (λb=>b [iv<|og e]) ?_ λb hj=>(by simp only[qz 137,eT,i3];constructor<;>intro h;simp only[awG] at h;rw[og,zg h] at hj;exact hj;simp only[aPs] at h;rw[og,za h] at hj;exact hj);simp only[qz 135,au,fQ,i1,i2,i3,z9];refine⟨vB,?_⟩;rintro r ⟨f,rfl⟩;rw[a2];refine⟨.inl A,?_⟩;show rV (Sb (λx=>AV.p (9,1) 0 0)<|box ad (9,1)) λaP=>sV (aK 4 ad aP<|.a<|eD (cU w s.eB e.aq e.kind e.eI<|og e).1 f) _;rw[W];refine aIt (y:=4) W Z A O λP z av=>?_;generalize a9:(cU w s.eB e.aq e.kind e.eI<|og e).1=d at av;have u:On P 1 ⟨d,s.cells,s.bU,s.count⟩ (eD d f) j m n:=⟨av,⟨A,A⟩,k4.fr z H,k5.fr z H,k6.fr z H,by rw[z.1,ba]⟩;have j3:=z.bt i3;have j7:=z.bt i7;have r4:aN J (aOz 4<|eD d f++[j,m,n])=V j:=A;have r5:aN J (aOz 5<|eD d f++[j,m,n])=V m:=A;simp only[qz 38];refine bpF (λb=>∀Y B,Fr P Y [9,159,163,167]->On Y 1 ⟨d,B,s.bU,s.count⟩ (eD d f) j m n->B=(if e.kind=4 then s.cells.set e.eI.toNat e.value else s.cells)->b [] Y) ?_ λb ac=>?_;intro Y B S i G;have m3:=S.bt j3;simp only[qz 153,aI];refine bpF (λb=>∀Y B f',Fr P Y [9,159,163,167]->On Y 1 ⟨d,B,f',s.count⟩ (eD d f) j m n->B=(if e.kind=4 then s.cells.set e.eI.toNat e.value else s.cells)->f'=(if e.kind=22 then s.bU.set e.eI.toNat e.value else s.bU)->b [] Y) ?_ λb ab=>?_;intro Y B f' S i G e5;have m3:=S.bt j3;have m7:=S.bt j7;have r6:aN J (aOz 6<|eD d f++[j,m,n])=V n:=A;simp only[qz 165,eT,i.bx,m3,r6];refine aBI i.g6 N λp=>?_;simp only[cS,aY];refine Lm i.g6 N bsd λY2 g G2=>?_;have aR:=(g.box (k:=9) (v:=1) H).trans i.bx;have bb:=g.bt m7;have r7:aN (V 7) (eD d f++[j,m,n])=V (.a<|eD d f++[j,m,n]):=A;simp only[qz 44,qy 46,eQ,aR,r7];refine gN (cs:=eD d f++[j,m,n]) bb bsd A rfl λY3 F3 aT=>?_;simp only[aT,eQ,r7];obtain⟨x4,o4,z4⟩:=sU<|(i.g4.fr g H).fr F3 H;obtain⟨x5,o5,z5⟩:=sU<|(i.g5.fr g H).fr F3 H;obtain⟨x6,o6,z6⟩:=sU<|G2.fr F3 H;have aG:jS Y3 [.a<|eD d f++[j,m,n],bv U]= .t [.a<|eD d f++[.l (B.map ci) x4 o4, .l (f'.map ci) x5 o5, .l ((s.count.set e.aq.toNat<|dq.wrap<|gd s.count e.aq.toNat+1).map ci) x6 o6],bv U]:=(by show AV.t [.a<|(eD d f++[j,m,n]).map<|dQ Y3,bv U]=_;rw[dg,i.hx.fd];grind);unfold aE;rw[aG];refine⟨A,_,by rw[aC],?_,A⟩;simp only[nD,aC,aRa,oc,a9,<-G,<-e5];rfl;simp only[qz 167,qy 42,eT,i.bx,m3,r5];constructor<;>intro h;simp only[awG] at h;refine Lm i.g5 (by grind [aF,oU]) bsd λY2 g G2=>?_;exact ab Y2 B (s.bU.set e.eI.toNat e.value) (S.trans<|g.mono H) ⟨g.bt i.bx,i.hx,i.g4.fr g H,G2,i.g6.fr g H,by rw[g.1,i.le]⟩ G (by rw[zg h]);simp only[aPs] at h;exact ab Y _ _ S i G (by rw[za h]);simp only[qz 155,qy 40,eT,u.bx,j3,r4];constructor<;>intro h;simp only[awG] at h;refine Lm u.g4 (by grind [aF,qP]) bsd λY2 g G2=>?_;exact ac Y2 (s.cells.set e.eI.toNat e.value) (g.mono H) ⟨g.bt u.bx,u.hx,G2,u.g5.fr g H,u.g6.fr g H,by rw[g.1,u.le]⟩ (by rw[zg h]);simp only[aPs] at h;exact ac P _ (Fr.refl _ _) u (by rw[za h])
def Cd:FT:=vn OV
def ayS:=zZ Cd OV
def aCV(s0)(R):bjB s0 R=aE R s0 [.l (ik.map cs) U U]:=a7c
def OE:Ct 257 [] (·= .l (ik.map cs) U U):=aLf λs0 b a=>by rw[aCV];refine⟨a7c,?_⟩;show jS s0 [.l (ik.map cs) U U]= .l (ik.map cs) U U;kernel_rfl
def aTX:FT:=BJ OE
def ayB:=al2 aTX OE
def aoY:dO:=(190,BW)::(258,Fv)::(135,vt)::(71,Cj)::(43,zk)::(45,Gd)::(77,Cn)::(101,Ga)::(54,Cd)::(257,aTX)::Ew
def oZ:eJ aoY:=asq (nH OF)<|asq (nH OB)<|asq (nI Pn)<|asq (nH Pg)<|asq (nH PA)<|asq (nH aXC)<|asq (nI PD)<|asq (aCb PE)<|asq (By OV)<|asq (apM OE)<|nF
def sW:=ai @ayC<|ai @ayy<|ai @azb<|ai @ay5<|ai @azm<|ai @azw<|ai @azp<|ai @azq<|ai @ayS<|ai @ayB<|@z9
def atL:=I9 11 [(4,([4],[0,3]))]
def aLd{a}:=y0 oZ func191 atL [a]
def aLh{a}:=y0 oZ func192 at1 [a]
def atR:=I9 41 [(4,([4,5],[1])),(20,([7],[1,4,5,6])),(29,([4,9],[1])),(35,([4,10],[1]))]
def aLk{c0}:=y1 34 6 1 oZ func106 atR c0 [.a c0]
def auz:=I9 17 [(6,([6],[1,2,5])),(10,([6,41],[1,5,39,40])),(13,([6],[1,5,39,40,41]))]
def aL2{c0 a1}:=y1 45 15 2 oZ func44 auz c0 [.a c0,a1]
def auM:=I9 19 [(4,([7,17],[1,2,3,15,16])),(7,([7],[1,2,3,15,16,17])),(12,([7,45],[1,2,43,44])),(15,([7],[1,2,43,44,45]))]
def aMf{c0 a1 b}:=y1 45 15 3 oZ func46 auM c0 [.a c0,a1,b]
def aLO{c0 b}:=y2 71 7 2 71 7 3 oZ func216 at1 c0 b [.a c0, .a b]
def hI(mk:AV->Int->dM)(b:ae)(ds fs:eP)(e:TypeId)(z n:Nat)(bA:Nat->List (dM))(Inv:Nat->Prop):aG:=λvs Y=>∃(k:Nat) (a:AV),vs=mk a k/\k<=n/\Inv k/\Gr Y ds e z a (bA k)/\Fr b Y fs
def iu{B}(mk)(p)(ds fs)(e)(z n)(bA)(Inv){c b}(d:Inv 0)(f:Gr b ds e z c<|bA 0)(h:∀(k) a Y,k<=n->Inv k->Gr Y ds e z a (bA k)->Fr b Y fs->B (hI mk b ds fs e z n bA Inv) (gM p n) (mk a k) Y):lV (mk c 0) b B:=⟨hI mk b ds fs e z n bA Inv,gM p n,⟨0,c,A,mh _,d,f,Fr.refl _ _⟩,by rintro vs Y ⟨k,a,rfl,l,j,i,g⟩;simp_all⟩
def bzn{mk p c Y Y' ds fs e z n k bA Inv a b}(l:∀a i,gt (mk a i) p=iv i)(h:k<n)(j:n<4611686018427387904)(d:Inv<|k+1)(g:Gr Y' ds e z b<|bA<|k+1)(f:Fr c Y' fs):hI mk c ds fs e z n bA Inv (mk b<|dq.wrap<|(k:Int)+1) Y'/\gM p n (mk b<|dq.wrap<|(k:Int)+1) Y'<gM p n (mk a k) Y:=by rw[eM Z Z];refine⟨⟨k+1,b,A,h,d,g,f⟩,?_⟩;grind [gM]
def fw(p:Nat->Bool)(k:Nat):eu:=((aH k).filter p).map λ(i:Nat)=>(i:Int)
theorem yK(p)(k):fw p (k+1)=fw p k++if p k then[(k:Int)] else[]:=by grind [fw,qn]
theorem qX(p)(k:Nat):L (fw p k)<=k:=by grind [fw,bJ,gl,fZ]
theorem Bo{a p k}(h:p k=U):(a++fw p (k+1)).map ci=(a++fw p k).map ci++[ci k]:=by grind [yK]
def yJ{a p k}(h:p k=I):(a++fw p (k+1)).map ci=(a++fw p k).map ci:=by rw[yK,h];simp
def jo{α β:Type}{f:α->List β}{m:Nat}:∀{l:List α},(∀x∈l,L (f x)<=m)->L (l.flatMap f)<=L l*m
 |[],_=>O
 |a::l,h=>by
  have:=h a O
  have:=jo (f:=f) (m:=m) (l:=l) vB
  rw[Cz,a6G,bZ,Nat.succ_mul]
  omega
def oX{l:List ByteArray}:∀r∈l.map cs,L r=1:=O
theorem Ez{α}[Inhabited α]{acc l}{g:α->ByteArray}{k:Nat}(h:k<L l):(acc++(l.take<|k+1).map g).map cs=(acc++(l.take k).map g).map cs++[cs<|g<|gd l k]:=by grind [iJ,aNV,bje]
def uo(p:Nat->Bool)(n:Nat):Int:=match(aH n).find? p with|some i=>i|none=> -1
def al8{p k}(b:p k=U)(a:∀j,j<k->p j=I):∀n,k<n->(aH n).find? p=V k
 |0,h=>Z
 |n+1,h=>by
  simp_all
theorem KW{p n k}(a:k<n)(c:p k=U)(b:∀j,j<k->p j=I):uo p n=k:=by simp[uo,al8 c b n a]
theorem KX{p n}(a:∀j,j<n->p j=I):uo p n= -1:=by grind [aH,List.find?_eq_none,uo]
def QV{R Y n b}:aE R Y [iv n,bv b]=R (.t [iv n,bv b]):=bvI
def aRN{p:Nat->Bool}{k}(h:∀j,j<k->p j=I)(a:p k=I):∀j,j<k+1->p j=I:=X
def oJ{a l}:eO 0 (.t (a::l))=V a:=rfl
def pG{a b l}:eO 1 (.t (a::b::l))=V b:=rfl
def KM{a b c l}:eO 2 (.t (a::b::c::l))=V c:=rfl
def aIl{l:List ByteArray}{t o}{i:Int}{Y K}:rV (fo 1 Y (.l (l.map cs) t o) J (V<|iv i) J) K=((0<=i/\i<=L l)/\K (.l ((l.take i.toNat).map cs) (t&&((i.toNat:Nat)==L l)) o)):=by simp only[fo,lM];by_cases a:0<=i;simp only[a,a6F,qY,sD,mi,mh,Cq,bJ];grind [rV,bkj];simp[a,rV]
def hJ{c Y Y':ae}{ds fs:eP}{e:TypeId}{z n k:Nat}{bA:Nat->List (dM)}{Inv:Nat->Prop}{a b:AV}(h:k<n)(g:Gr Y' ds e z b<|bA<|k+1)(f:Fr c Y' fs)(d:Inv (k+1):=by exact trivial)(j:n<4611686018427387904:=by omega):hI (λa i=>[a,iv i]) c ds fs e z n bA Inv [b,iv<|dq.wrap<|(k:Int)+1] Y'/\gM 1 n [b,iv<|dq.wrap<|(k:Int)+1] Y'<gM 1 n [a,iv k] Y:=bzn (mk:=λa i=>[a,iv i]) (λ_ _=>A) h j d g f
def avX{a b:Int}:bc4 .eql 0 [] (.s<|.int .u8 a) (.s<|.int .u8 b)=V (bv<|Q<|a=b):=rfl
def amZ{K Y}{i:Int}{l t o}:rV (cz 1 Y (.l (l.map cs) t o)<|iv i) K=(aF (L l) i/\K (.q<|cs<|gd l i.toNat)):=amY (Y:=Y)
def aDm{Y r}:lo Y [] r=True:=by simp[lo,nA]
def rZ(s:ByteArray):Bool:=ik.any λx=>Q<|x=s
def OC(s):Ct 191 [st s] (·=bv (rZ s)):=aLd λs0 _ c=>by simp only[ar,sW,aDm];refine bid (L ik) (λk=>∀j,j<k->gd ik j≠s) O λk e d=>?_;simp only[qz 25,gg,amZ,gT,bh];refine⟨λh=>⟨vp h,λa=>?_,λa=>bkg (aL h) H X⟩,λh=>?_⟩;grind [rZ,tL,dB,aL];have:rZ s=I:=(by rw[rZ,bnI];intro x b;have:=(px (p:=λx=>x≠s)).1 X x b;simp_all);rw[this]
def Fw:FT:=lH OC
def ayz:=np Fw OC
def oO(c:Int):Bool:=wx c||zY c||Q (c=95)
def OG(c):Ct 192 [.s<|.int .u8 c] (·=bv (oO c)):=aLh λs0 _ a=>by simp+contextual only[hZ,sW,avX,oO]
def aTY:FT:=lH OG
def ayD:=np aTY OG
def nh(a b:aP):Bool:=tT a&&tT b&&Q (a.eI=b.eI)&&(Q (a.kind=4)||Q (b.kind=4))
def Pi(a b):Ct 216 [.a a.c, .a b.c] (·=bv (nh a b)):=aLO A rfl λh g d e f=>by simp+contextual only[fQ,sW,d,e,nh]
def zh:FT:=bsk Pi
def ay7:=f200 zh Pi
def dD(w:aOw)(e:aP):Int×Bool:=bif Q (e.kind=6)||Q (e.kind=10) then(e.eI,I) else bif Q (e.kind=8) then(e.eI,U) else bif Q (e.kind=17) then(sd w e.eI,I) else(-1,I)
def dY(w:aOw)(e:aP):Int×Bool:=bif Q (e.kind=7)||Q (e.kind=11) then(e.eI,I) else bif Q (e.kind=9) then(e.eI,U) else bif Q (e.kind=16) then(sd w e.eI,I) else(-1,I)
def pV(e x:aP):Bool:=Q (e.kind=1)&&(Q (x.kind=20)&&Q (x.eI=e.aq))||Q (e.kind=21)&&(Q (x.kind=2)&&Q (x.aq=e.eI))||Q (e.kind=23)&&(Q (x.kind=22)&&Q (x.eI=e.eI))
def kr(w:am)(j:Int):Int:=uo (λi=>pV (gd w.ac j.toNat)<|gd w.ac i)<|L w.ac
def bua(l:List aP)(u:Int):Nat->Option Nat|0=>J|k+1=>if((gd l k).aq=u/\(gd l k).kind=16) then V k else bua l u k
def brz(w:am)(k:Int):Int×Bool:=
 match bua w.ac (gd w.ac k.toNat).aq k.toNat with
 |some i=>(i,U)
 |none=>if(gd w.init.eB.ay (gd w.ac k.toNat).aq.toNat).cQ=3 then(-1-(gd w.ac k.toNat).aq,U) else(0,I)
def mr(w:am)(r:Int)(i:Nat):Bool:=aTG (gd w.ac i) (gd w.ac r.toNat)&&(Q ((gd w.ac i).value=(gd w.ac r.toNat).value)&&!(Q ((gd w.ac i).aq=(gd w.ac r.toNat).aq)&&Q (r<i)))
def dx(w:am)(r:Int):eu:=bif dh r (L w.ac)&&fR (gd w.ac r.toNat) then(bif oM w (gd w.ac r.toNat) then[-1] else[])++fw (mr w r) (L w.ac) else[]
def Px(w)(q:Int)(S:L w.ac<100000/\(aF (L w.ac) q->((gd w.ac q.toNat).kind=23->aF (L w.init.eB.done) (gd w.ac q.toNat).eI/\aF (L w.init.bU) (gd w.ac q.toNat).eI)/\((gd w.ac q.toNat).kind=3->aF (L w.init.cells) (gd w.ac q.toNat).eI))):Ct 44 [.a w.c,iv q] (λr=>∃t,r= .l ((dx w q).map ci) t U):=aL2 A λs2 R o h0=>by simp+contextual only[qy 4,gj,o,sW];have y:(Q (q<0)||Q ((L w.ac:Int)<=q))=!dh q (L w.ac):=(by grind [dh]);rw[y];refine⟨btB,λh=>?_,λh=>?_⟩;have:dx w q=[]:=(by grind [Bool.not_and,eH,dx]);rw[this];exact⟨A,U,A⟩;simp only[cP,fK] at h;obtain⟨x,T⟩:=h;have D:=dX.1 x;obtain⟨ab,C⟩:=S;obtain⟨ae,af⟩:=C D;have hc:dx w q=(bif oM w (gd w.ac q.toNat) then[-1] else[])++fw (mr w q) (L w.ac):=(by simp[dx,x,T]);refine⟨D,eF A rfl H Z λj m p=>?_⟩;have s:=m.bt o;have hk:(gd w.ac q.toNat).kind=3\/(gd w.ac q.toNat).kind=23:=(by grind [fR]);have B:L j=4096:=(by rw[m.1,R]);simp only[qz 6];refine bpF (λb=>∀a Y (e:eu),L e<=1->dx w q=e++fw (mr w q) (L w.ac)->Fr j Y [37,72]->Gr Y [37,72] 3 1 a (e.map ci)->b [a] Y) ?_ λb z=>?_;intro a Y e ag v d G4;have F:=d.bt s;have G:=d.bt p;simp only[qz 39,au,eT,F];refine iu (λa i=>[a,iv i]) 1 [37,72] [37,72,8] 3 1 (L w.ac) (λk=>(e++fw (mr w q) k).map ci) (λ_=>True) trivial (by grind [fw]) λk a' Y' aa _ P g=>?_;have K:=g.bt G;have ad:L Y'=4096:=(by rw[g.1,d.1,B]);simp only[qz 61,di,gJ,qz 83,qy 12,bh];refine⟨λh=>⟨vp h,?_⟩,λh=>?_⟩;refine eF A rfl H Z λY2 f E=>?_;have M:=f.bt K;simp+contextual only[qz 14,qy 16,qy 18,fQ,M,E,sW,iz];have ah:=qX (mr w q) k;constructor<;>intro u;refine fP (P.fr f H) A H H bsd pU O X λa2 Y3 g3 n=>?_;simp only[qz 81,aI,au,fE,cS,aY];refine hJ (aL h) ?_<|g.trans<|(f.mono H).trans<|n.mono H;rwa [Bo u];simp only[qz 81,aI,au,fE,cS,aY];refine hJ (aL h) ?_<|g.trans<|f.mono H;rw[yJ u];grind [Gr.fr];obtain rfl:k=L w.ac:=X;rw[v];grind [qV];simp only[qz 41,qy 8,qy 10,oj,s,p,sW,iz];refine⟨X,λh=>?_,λh=>?_⟩;refine fP (bA:=[]) (ds:=[37,72]) (new:=[ci<|-1]) Gr.nil A H H Z O O H λa W N d=>?_;exact z a W [-1] O X d N;exact z _ j [] O X (Fr.refl _ _) Gr.nil
def zi:FT:=pn Px
def azk:=f211 zi Px
def vf(w:am)(c u:Int)(i:Nat):Bool:=Q ((i:Int)≠u)&&(Q ((gd w.init.eB.ay i).cQ=3)&&Q ((gd w.init.eB.ay i).cond=c))
def wV(w:am)(c u:Int)(i:Nat):Bool:=Q ((gd w.ac i).aq≠u)&&(Q ((gd w.ac i).kind=16)&&Q ((gd w.ac i).eI=c))
def iH(w:am)(c u:Int)(k:Nat):eu:=(fw (vf w c u) k).map λt=> -1-t
def mR(w:am)(c u:Int):eu:=iH w c u (L w.init.eB.ay)++fw (wV w c u) (L w.ac)
def PL(w)(c u:Int)(K:L w.ac<100000/\L w.init.eB.ay<100000):Ct 46 [.a w.c,iv c,iv u] (λr=>∃t,r= .l ((mR w c u).map ci) t U):=aMf A λM C n F=>by simp+contextual only[eT,n,dc];refine iu (λa i=>[a,iv i]) 1 [40,68] [40,68,9] 3 1 (L w.init.eB.ay) (λk=>(iH w c u k).map ci) (λ_=>True) trivial (.inl ⟨A,A⟩) λk a Y G _ B f=>?_;have y:=f.bt n;have p:L Y=4096:=(by rw[f.1,C]);have:=qX (vf w c u) k;simp only[qz 25,di,fD,qz 47,qy 4,bh,y];refine⟨λh=>⟨vp h,?_⟩,λh=>?_⟩;refine eF A rfl H Z λq b m=>?_;simp+contextual only[qz 6,qy 8,qy 10,nq,m];have:=aL h;rw[eM (x:= -1-(k:Int)) Z Z];constructor<;>intro g;refine fP (B.fr b H) A H H bsd pU O (by grind [iH,bJ,a6G,bZ,bhZ]) λv s z d=>?_;simp only[qz 45,aI,au,fE,cS,aY];refine hJ (aL h) ?_<|f.trans<|(b.mono H).trans<|d.mono H;grind [vf,iH,yK];simp only[qz 45,aI,au,fE,cS,aY];refine hJ (aL h) ?_<|f.trans<|b.mono H;have:vf w c u k=I:=g;have:iH w c u (k+1)=iH w c u k:=(by grind [iH,yK]);grind [Gr.fr];have o:k=L w.init.eB.ay:=X;subst o;refine iu (λa i=>[a,iv i]) 1 [40,68] [40,68,11] 3 1 (L w.ac) (λk=>(iH w c u (L w.init.eB.ay)++fw (wV w c u) k).map ci) (λ_=>True) trivial (by grind [fw]) λk a Y' E _ j e=>?_;have D:L Y'=4096:=(by rw[e.1,p]);have:=qX (wV w c u) k;simp only[qz 73,di,gJ,qz 95,qy 12,bh];refine⟨λh=>⟨vp h,?_⟩,λh=>?_⟩;refine eF A rfl H Z λq b m=>?_;simp+contextual only[qz 14,qy 16,qy 18,nq,m];constructor<;>intro g;refine fP (j.fr b H) A H H bsd pU O (by grind [iH,bJ,a6G,bZ,bhZ]) λv s z d=>?_;simp only[qz 93,aI,au,fE,cS,aY];refine hJ (aL h) ?_<|e.trans<|(b.mono H).trans<|d.mono H;rwa [Bo g];simp only[qz 93,aI,au,fE,cS,aY];refine hJ (aL h) ?_<|e.trans<|b.mono H;rw[yJ g];grind [Gr.fr];obtain rfl:k=L w.ac:=X;exact qV j λt=>⟨t,A⟩
def Ge:FT:=vn PL
def azx:=zZ Ge PL
def lU(l:List aP)(u:Int)(k:Nat):Nat:=L ((l.take k).filter λe=>Q<|e.aq=u)
def alN{l}{u:Int}{k:Nat}(h:k<L l):lU l u (k+1)=lU l u k+if(gd l k).aq=u then 1 else 0:=by grind [lU,iJ,a6G,aNV]
def lm(w:am)(u n:Int)(i:Nat):Bool:=Q ((gd w.ac i).aq=u)&&Q (gd w.init.count u.toNat+(lU w.ac u i:Int)=n)
def btu(w:am)(u:Int)(l:eu)(k:Nat):eu:=(l.take k).flatMap λn=>fw (lm w u n)<|L w.ac
def fg(w:am)(u:Int)(l:eu):eu:=btu w u l<|L l
theorem Gr.mono{Y ds b e z a bA}(i:Gr Y ds e z a bA)(h:∀k∈ds,k∈b):Gr Y b e z a bA:=by obtain c|⟨d,v,c,f,g⟩:=i;exact .inl c;exact .inr ⟨d,v,c,h _ f,g⟩
def aEs{a b}:bc4 .neq 0 [] (st a) (st b)=V (bv<|Q<|a≠b):=by show V (bv<|a.toList !=b.toList)=_;congr 3;grind [aqv,ByteArray.toList_eq,qb]
def sM(c x:cA)(k:Nat):Bool:=!(Q (x.index≠k)||Q (x.name≠c.name)||Q (x.size≠c.size)||Q (x.init≠c.init)||x.vol)
def a7d(l:List cA)(i:Nat):Option Nat:=
 if(gd l i).size=0 then(if(gd l i).index≠0 then J else V (i+1))
 else if((gd l i).size<1\/4<(gd l i).size\/(L l:Int)-i<(gd l i).size) then J
 else if(∀k,k<(gd l i).size.toNat->sM (gd l i) (gd l<|i+k) k=U) then V (i+(gd l i).size.toNat) else J
def jv(l:List cA):Nat->Nat->List ByteArray->Option (List ByteArray)
 |0,i,acc=>if i<L l then J else V acc
 |f+1,i,acc=>if i<L l then(match a7d l i with|none=>J|some j=>jv l f j<|acc++[(gd l i).name]) else V acc
def lY(w:aOw):Option (List ByteArray):=(jv w.cells (L w.cells) 0 []).map λa=>a++w.ak.map (·.name)++w.bC.map (·.name)++w.bU++w.ay
def OJ(w)(hp:L w.cells<10000/\L w.ak<10000/\L w.bC<10000/\L w.bU<10000/\L w.ay<10000):Ct 106 [.a w.c] (λr=>∃t o,r= .t [.l (((lY w).getD []).map cs) t o,bv (lY w).isSome]):=aLk A λs2 hl b1 h0=>by obtain⟨p1,p2,p3,p4,p5⟩:=hp;refine⟨λvs Y=>∃(i f:Nat) (a:AV) (acc:List ByteArray),vs=[a,iv i]/\i<=L w.cells/\L acc<=i/\L w.cells-i<=f/\jv w.cells (L w.cells) 0 []=jv w.cells f i acc/\Gr Y [25] 9 1 a (acc.map cs)/\Fr s2 Y [25,6,8],gM 1<|L w.cells,⟨0,L w.cells,_,[],A,Z,O,Z,A,Gr.nil,Fr.refl _ _⟩,?_⟩;rintro vs Y ⟨i,f,a,acc,rfl,hi,aJ,hf,ad,hG,hF⟩;have S:=hF.bt b1;have N:L Y=4096:=(by rw[hF.1,hl]);simp only[qz 25,qy 4,fD,S,bh];refine⟨λh=>⟨vp h,?_⟩,λh=>?_⟩;refine eF A rfl H Z λR b b2=>?_;simp+contextual only[qz 6,qy 8,nq,b2];refine fP (hG.fr b H) A H H bsd O O X λq y T g=>?_;have b3:=g.bt b2;have c3:=g.bt<|b.bt S;simp+contextual only[qz 10,↓iS,eT,b3,c3];have aX:=aL h;obtain⟨f,rfl⟩:∃f',f=f'+1:=⟨f-1,Z⟩;have C:jv w.cells (L w.cells) 0 []=(match a7d w.cells i with|none=>J|some j=>jv w.cells f j<|acc++[(gd w.cells i).name]):=(by grind [jv]);have s:a7d w.cells i=J->∀Y',aE (λr=>∃t o,r= .t [.l (((lY w).getD []).map cs) t o,bv (lY w).isSome]) Y' [.l [] U U,bv I]:=(λhn Y'=>by rw[hn] at C;have:lY w=J:=(by rw[lY,C];rfl);rw[this];exact⟨A,U,U,A⟩);have next:∀j Y',a7d w.cells i=V j->i<j->j<=L w.cells->Gr Y' [25] 9 1 q ((acc++[(gd w.cells i).name]).map cs)->Fr s2 Y' [25,6,8]->(∃(i f:Nat) (a:AV) (acc:List ByteArray),[q,iv (j:Int)]=[a,iv i]/\i<=L w.cells/\L acc<=i/\L w.cells-i<=f/\jv w.cells (L w.cells) 0 []=jv w.cells f i acc/\Gr Y' [25] 9 1 a (acc.map cs)/\Fr s2 Y' [25,6,8])/\gM 1 (L w.cells) [q,iv (j:Int)] Y'<gM 1 (L w.cells) [a,iv i] Y:=(λj Y' hs aU hj G' F'=>by rw[hs] at C;refine⟨⟨j,f,q,acc++[(gd w.cells i).name],rfl,hj,NA,Z,C,G',F'⟩,?_⟩;grind [gM,fE,au,bh]);have G:Gr y [25] 9 1 q ((acc++[(gd w.cells i).name]).map cs):=X;have D:=hF.trans<|(b.mono H).trans<|g.mono H;rw[fX Z,eM (x:=(L w.cells:Int)-i) Z Z];refine⟨λhs=>⟨λhx=>s ?_ _,λhx=>next (i+1) y ?_ Z Z G D⟩,λhs=>⟨λhb=>s ?_ _,λhb=>?_⟩⟩;grind [a7d];grind [decide_eq_false_iff_not,a7d];grind [decide_eq_false_iff_not,a7d];simp only[aPs] at hs;simp only[cP,aPs] at hb;have aZ:((gd w.cells i).size.toNat:Int)=(gd w.cells i).size:=Z;have K:a7d w.cells i=if(∀k,k<(gd w.cells i).size.toNat->sM (gd w.cells i) (gd w.cells<|i+k) k=U) then V (i+(gd w.cells i).size.toNat) else J:=(by grind [a7d]);refine pQ (gd w.cells i).size.toNat [8] (λk=>∀m,m<k->sM (gd w.cells i) (gd w.cells<|i+m) m=U) O λk p hk hc n=>?_;have b4:=n.bt b3;have c4:=n.bt c3;have aP:L p=4096:=(by rw[n.1,g.1,b.1,N]);simp only[qz 121,qy 12,fD,b4,c4];have ab:∀m:Nat,m<=10->dq.wrap ((i:Int)+m)=((i+m:Nat):Int):=brE;constructor<;>intro u;simp only[awG] at u;rw[ab k Z,bh];refine⟨dJ Z,eF A rfl H Z λY5 F5 b5=>?_⟩;have b6:=F5.bt b4;simp+contextual only[qz 14,eT,b5,b6,aEs];have M:k<(gd w.cells i).size.toNat:=Z;refine⟨λaq=>s ?_ _,λaq=>?_⟩;rw[K,za];grind [sM,fh];refine oL M Z (a6p hc ?_)<|n.trans F5;grind [sM,kN];simp only[aPs] at u;have M:k=(gd w.cells i).size.toNat:=Z;have e:dq.wrap ((i:Int)+(gd w.cells i).size)=((i+(gd w.cells i).size.toNat:Nat):Int):=X;rw[e];refine next _ p ?_ Z Z (G.fr n H) (D.trans<|n.mono H);rw[K,zg X];have aM:jv w.cells (L w.cells) 0 []=V acc:=(by rw[ad];have:=dge h;cases f<;>simp[jv,aYE.2 this]);have hN:lY w=V (acc++w.ak.map (·.name)++w.bC.map (·.name)++w.bU++w.ay):=(by grind [lY]);rw[hN];refine iu (λa i=>[a,iv i]) 1 [25,113] [25,113] 9 1 (L w.ak) (λk=>(acc++(w.ak.take k).map (·.name)).map cs) (λ_=>True) trivial (by grind [Gr.mono]) λk a1 Y1 aV _ g1 P=>?_;have E:=P.bt S;have l1:L Y1=4096:=(by rw[P.1,N]);simp only[qz 175,qy 16,fD,E,bh,iz];refine⟨λW=>⟨vp W,?_⟩,λW=>?_⟩;refine fP g1 A H H Z oX O NA λa2 R B b=>?_;simp only[qz 18,au,fE,cS,aY];refine hJ (aL W) ?_<|P.trans b;grind [Ez,aL];obtain rfl:k=L w.ak:=X;rw[gV] at g1;refine iu (λa i=>[a,iv i]) 1 [25,113,129] [25,113,129] 9 1 (L w.bC) (λk=>(acc++w.ak.map (·.name)++(w.bC.take k).map (·.name)).map cs) (λ_=>True) trivial (by grind [Gr.mono]) λk a2 R aW _ B b=>?_;have F:=b.bt E;have l2:L R=4096:=(by rw[b.1,l1]);simp only[qz 211,qy 20,fD,F,bh,iz];refine⟨λu=>⟨vp u,?_⟩,λu=>?_⟩;refine fP B A H H Z oX O NA λq y T g=>?_;simp only[qz 22,au,fE,cS,aY];refine hJ (aL u) ?_<|b.trans g;grind [Ez,aL];obtain rfl:k=L w.bC:=X;rw[gV] at B;refine fP (ds:=[25,113,129,133,137]) (new:=w.bU.map cs) (B.mono H) A H H Z oX oX NA λq y T g=>?_;have an:=g.bt F;simp only[qz 24,qy 26,eT,an];refine fP (new:=w.ay.map cs) T A H H bsd X oX NA λz p g4 n=>?_;obtain⟨x,o,e⟩:=sU g4;have ac:jS p [z,bv U]= .t [.l ((acc++w.ak.map (·.name)++w.bC.map (·.name)++w.bU++w.ay).map cs) x o,bv U]:=(by show AV.t [iZ p z,bv U]=_;have:iZ p z=dQ p z:=(by obtain⟨_,rfl⟩|⟨d,v,rfl,_⟩:=g4<;>rfl);simp_all);unfold aE;rw[ac];exact⟨A,x,o,A⟩
def FD:FT:=om OJ
def ayG:=aUy FD OJ
def aoZ:dO:=(191,Fw)::(192,aTY)::(216,zh)::(44,zi)::(46,Ge)::(106,FD)::aoY
def Rc:eJ aoZ:=asq (nH OC)<|asq (nH OG)<|asq (nI Pi)<|asq (aN0 Px)<|asq (By PL)<|asq (rj OJ)<|oZ
def Dl:=ai @ayz<|ai @ayD<|ai @ay7<|ai @azk<|ai @azx<|ai @ayG<|@sW
def atM:=I9 13 [(6,([3],[0]))]
def aLe{a}:=y0 Rc func107 atM [a]
def aua:=I9 9 [(4,([6],[1,2,4,5]))]
def aLD{c0 a1}:=y1 45 15 2 Rc func215 aua c0 [.a c0,a1]
def rI(s:ByteArray)(i:Nat):Int:=match s[i]? with|some b=>b.toNat|none=>0
def Qm{s}:lsA (st s)=V (iv s.size):=rfl
def aoO{s i K}:rV (sxA (st s)<|iv i) K=(aF s.size i/\K (.s<|.int .u8<|rI s i.toNat)):=by grind [aF,sxA,rV,rI]
def aQt(s:ByteArray):Bool:=!(Q ((s.size:Int)<1)||Q (12<(s.size:Int))||!wx (rI s 0)||rZ s)&&Q (∀j,j<s.size->oO (rI s j)=U)
def OD(s):Ct 107 [st s] (·=bv (aQt s)):=aLe λs0 _ c=>by simp+contextual only[hZ,Qm,aoO,Dl,Gx];refine⟨λh=>?_,λh=>?_,λh=>?_⟩;simp at h;exact⟨Z,Z⟩;grind [aQt,fh];have b:=h;simp only[cP,aPs] at b;refine bid s.size (λk=>∀j,j<k->oO (rI s j)=U) O λk f e=>?_;simp+contextual only[qz 37,hZ,Qm,aoO,Dl,bh];refine⟨λa=>⟨vp a,λd=>?_,btA⟩,λa=>?_⟩;grind [oO,rI,aL,aQt];grind [oO,rI,bpL,dge,aQt,decide_eq_true,kN,Bool.and_self]
def aPd:FT:=lH OD
def ayA:=np aPd OD
def cY(w:am):Nat->aTo|0=>w.init|k+1=>nD w.aQ (cY w k)<|gd w.ac k
def GV(s:aTo):Prop:=(∀l∈s.eB.ak,L l.bk<100000)/\L s.eB.ak<100000/\L s.eB.done<100000/\L s.eB.ay<100000/\L s.cells<100000/\L s.bU<100000/\L s.count<100000
def vo(e:aP):Prop:=L e.dI<4611686018427387904/\L e.ep<4611686018427387904
theorem oC{ds}{s:aTo}(h:Lk ds s.c):L ds=7:=by have:=bss L h.1;simp_all [aTo.c]
def Bi{ds}(h:L ds=7):aN (V 7) ds=V (.a ds):=by show(if 7<=L ds then V (AV.a<|ds.take 7) else J)=_;grind
def x9{ds b}(h:Lk ds b):aNN (.a ds)=[]:=by have d:=dV.1 h.2;show ds.flatMap iR=[];rw[List.flatMap_eq_nil_iff];intro c e;have:=d c e;cases c<;>simp[nj] at this<;>rfl
def OZ(w)(i:Int)(N:L w.aQ.bC<4611686018427387904/\L w.ac<100000/\(∀k:Nat,(k:Int)<i->k<L w.ac->GV (cY w k))/\(∀e∈w.ac,vo e)):Ct 215 [.a w.c,iv i] (λr=>∃cs,r= .a cs/\Lk cs (cY w<|if i<L w.ac then i.toNat else L w.ac).c):=aLD A λs2 z C M=>by obtain⟨p1,p2,R,S⟩:=N;refine mo z λs3 n D=>?_;have v:=n.bt C;simp only[qz 4,qy 6,qy 8,eT,v];refine eF A rfl H bsd λB o u=>?_;have v4:(aZ s3 5).ver=0:=(by rw[n.2 _ H,M 5 H]);rw[v4] at u⊢;have P:L B=4096:=(by rw[o.1,n.1,z]);have E:=o.bt v;have F:=o.bt D;refine⟨λvs Y=>∃(k:Nat) (ds:dM),vs=[iv k]/\k<=L w.ac/\(k=0\/(k:Int)<=i)/\Lk ds (cY w k).c/\box Y (5,1)=V ⟨42,7,U,U,[ds]⟩/\Fr B Y [5],fM<|L w.ac,⟨0,w.init.c,A,mh _, .inl A,⟨A,A⟩,u,Fr.refl _ _⟩,?_⟩;rintro vs Y ⟨k,ds,rfl,hk,am,b,x,j⟩;have G:=j.bt E;have K:=j.bt F;have an:L Y=4096:=(by rw[j.1,P]);have g:=oC b;have m:=Bi g;simp+contextual only[qz 25,qy 12,fD,G,x,m,bh];constructor<;>intro h;simp only[bN,awG] at h;have d:k<L w.ac:=Z;obtain⟨T,W,q3,q4,q5,q6,q7⟩:=R k h.1 d;obtain⟨r1,r2⟩:=S _<|dB d;refine⟨dJ d,?_⟩;simp only[jM,kU,jt,zN,CU,b.arg,Dl];refine⟨⟨p1,T,W,q3,q4,q5,q6,q7,r1,r2⟩,?_⟩;rintro r ⟨f,rfl,l⟩;refine⟨.inl ?_,?_⟩;simp only[nA,Cu,Cv,x9 b];rfl;show sV (aK 7 Y (.p (5,1) 0 0)<|.a f) _;refine gN (cs:=f) x bsd g (oC l) λq t s=>?_;simp only[qz 10];refine dT A ?_;simp only[au,cS,aY];rw[fX Z];refine⟨⟨k+1,f,A,d, .inr Z,l,s,j.trans t⟩,?_⟩;simp only[fM,cM,bh];omega;simp only[bik,aPs] at h;have y:k=(if i<L w.ac then i.toNat else L w.ac):=(by split<;>omega);refine gN (cs:=ds) K bsd A g λq t s=>?_;simp only[s,eQ,m];rw[<-y];refine⟨?_,ds,?_,b⟩;show(AV.a (ds.map<|dQ q)|>kG)=U;rw[b.fd];exact b.2;show AV.a (ds.map<|dQ q)= .a ds;rw[b.fd]
def bwV:FT:=pn OZ
def ayW:=f211 bwV OZ
def ao0:dO:=(107,aPd)::(215,bwV)::aoZ
def yP:eJ ao0:=asq (nH OD)<|asq (aN0 OZ)<|Rc
def rT:=ai @ayA<|ai @ayW<|@Dl
def atQ:=I9 41 [(10,([5],[1,3])),(18,([6],[1])),(27,([8],[1])),(30,([],[1,8]))]
def aLj{c0}:=y1 34 6 1 yP func49 atQ c0 [.a c0]
def auk:=I9 18 [(8,([31],[3,7,8,9,30]))]
def aLN{c0 a1 b}:=y1 45 15 3 yP func133 auk c0 [.a c0,a1,b]
def aur:=I9 3 []
def aLU{c0 b}:=y2 45 15 2 48 6 3 yP func136 aur c0 b [.a c0, .a b]
def auq:=I9 15 [(7,([7],[2,3,5,6]))]
def aLT{c0 b}:=y2 45 15 2 48 6 3 yP func137 auq c0 b [.a c0, .a b]
def aun:=I9 17 [(10,([9],[2,3,5]))]
def aLQ{c0 b}:=y2 45 15 2 48 6 3 yP func138 aun c0 b [.a c0, .a b]
def wJ(w:aOw):Bool:=Q ((12:Int)<L w.cells)||Q ((4:Int)<L w.ak)||Q ((2:Int)<L w.bC)||Q ((2:Int)<L w.bU)||Q ((L w.ay:Int)<1)||Q ((4:Int)<L w.ay)||Q ((60:Int)<L w.dU)
def yn(l:List ByteArray)(j:Nat):Bool:=!aQt (gd l j)||Q (0<=tX (l.take j) (gd l j))
def uh(w:aOw)(j:Nat):Bool:=Q ((gd w.bC j).eg<0)||Q ((L w.ak:Int)<=(gd w.bC j).eg)||(gd w.ak (gd w.bC j).eg.toNat).rw
def aOg(w:aOw)(j:Nat):Bool:=
 Q ((gd w.dU j).aq<0)||Q ((L w.ay:Int)<=(gd w.dU j).aq)||
 bif Q ((j:Int)=0)||Q ((gd w.dU<|j-1).aq≠(gd w.dU j).aq) then(Q ((gd w.dU j).stmt≠0)||(Q ((0:Int)<j)&&Q ((gd w.dU j).aq<(gd w.dU<|j-1).aq)))
 else Q<|(gd w.dU j).stmt≠dq.wrap ((gd w.dU<|j-1).stmt+1)
def mQ(w:aOw):Bool:=
 !wJ w&&(match lY w with
  |none=>I
  |some l=>Q (∀j,j<L l->yn l j=I)&&(Q (∀j,j<L w.bC->uh w j=I)&&Q (∀j,j<L w.dU->aOg w j=I)))
def alH{l}:∀{f i:Nat} {acc r},jv l f i acc=V r->L r<=L acc+f
 |0,i,acc,r,h=>by
  grind [jv]
 |f+1,i,acc,r,h=>by
  simp only[jv] at h
  split at h
  ·split at h
   ·cases h
   ·have:=alH h
    grind
  simp_all
def anD{w l}(h:lY w=V l):L l<=L w.cells+L w.ak+L w.bC+L w.bU+L w.ay:=by simp only[lY,Option.map_eq_some_iff] at h;obtain⟨a,b,rfl⟩:=h;have:=alH b;grind
def zM{n}{p:Nat->Bool}{k}(a:k<n)(h:p k=U):Q (∀j,j<n->p j=I)=I:=X
def OI(w):Ct 49 [.a w.c] (·=bv (mQ w)):=aLj A λs2 hl u h0=>by simp+contextual only[fQ,u,rT];constructor<;>intro h;grind [mQ,wJ,fh];have S:wJ w=I:=h;simp only[cP,aPs] at h;refine⟨Z,?_⟩;rintro r ⟨t,o,rfl⟩;refine⟨.inl A,?_⟩;simp+contextual only[oJ,pG,eQ];constructor<;>intro hn;grind [lY,mQ];obtain⟨l,y⟩:∃l,lY w=V l:=(by cases W:lY w with|none=>simp_all|some l=>simp);have R:L l<1000000:=(aYF<|anD y);rw[y];have z:mQ w=(Q (∀j,j<L l->yn l j=I)&&(Q (∀j,j<L w.bC->uh w j=I)&&Q (∀j,j<L w.dU->aOg w j=I))):=(by grind [mQ]);refine bid (L l) (λk=>∀j,j<k->yn l j=I) O λk B e=>?_;simp+contextual only[qz 61,mi,oj,amZ,rT,aIl,bh];refine⟨λb=>⟨vp b,Z,λ_=>vp b,λ_=>NA,λd=>?_,λd=>bkg (aL b) Z<|aRN e d⟩,λb=>?_⟩;rw[z,zM (aL b) d,kM];have N:∀j,j<L l->yn l j=I:=X;refine bid (L w.bC) (λk=>∀j,j<k->uh w j=I) O λk B e=>?_;simp+contextual only[qz 109,fD,u,bh];refine⟨λb=>⟨vp b,λF=>?_,λd=>?_,λd=>bkg (aL b) Z<|aRN e d⟩,λb=>?_⟩;simp at F;exact⟨Z,Z⟩;rw[z,zM (aL b) d,kM,qc];have P:∀j,j<L w.bC->uh w j=I:=X;refine pQ (L w.dU) [9] (λk=>∀j,j<k->aOg w j=I) O λk Y B e v=>?_;have x:=v.bt u;simp+contextual only[qz 163,di,qz 185,qy 4,fD,x,bh];refine⟨λb=>⟨vp b,?_⟩,λb=>?_⟩;refine eF A rfl H bsd λT q D=>?_;have E:=q.bt x;simp+contextual only[qz 6,↓iS,fD,D,E];have p:=aL b;have G:dq.wrap ((k:Int)-1)=(k:Int)-1:=brE;have C:((k:Int)-1).toNat=k-1:=Z;rw[G,C];have m:aOg w k=U->bv I=bv (mQ w):=X;refine⟨(by grind [aOg]),λM=>⟨λn=>?_,λn=>⟨λg=>?_,λg=>m ?_,λg=>?_⟩,λn=>⟨?_,λg=>m ?_,λg=>?_⟩⟩⟩;simp at n;exact⟨Z,Z⟩;simp at g;exact⟨Z,Z⟩;grind [aOg];simp only[qz 183,aI,au,cS,aY];exact oL p Z (aRN e<|by grind [aOg])<|v.trans q;simp only[cP,aPs] at n;exact⟨Z,Z⟩;grind [aOg];simp only[qz 183,aI,au,cS,aY];exact oL p Z (aRN e<|by simp only[aOg,M,n,g,Bool.false_or,bih])<|v.trans q;grind
def FC:FT:=lH OI
def ayF:=np FC OI
def yT{α c f}{l:List α}(h:gK c=sl f l):∃t o,c= .l (l.map f) t o:=by(cases c<;>simp[gK,sl] at h);simp_all
def aIO{c v}(h:gK c= .s v):c= .s v:=by(cases c<;>simp[gK] at h);subst h;rfl
def Qj{ds}{s:aTo}(h:Lk ds s.c):∃f d o4 e a g b,ds=eD s.eB f++[.l (s.cells.map ci) d o4, .l (s.bU.map ci) e a, .l (s.count.map ci) g b]:=by have u:=oC h;match ds,u with|[C,D,E,F,G,M,N],_=>have:=h.1;simp only[ji,mU,aTo.c,kO,aRI] at this;obtain⟨j,k,m,n,p,q,r⟩:=this;obtain⟨x,v,rfl⟩:=yT j;obtain rfl:=aIO k;obtain⟨y,w,rfl⟩:=yT m;obtain⟨t3,o3,rfl⟩:=yT n;obtain⟨t4,o4,rfl⟩:=yT p;obtain⟨z,a,rfl⟩:=yT q;obtain⟨B,b,rfl⟩:=yT r;exact⟨(x,v,y,w,t3,o3),t4,o4,z,a,B,b,A⟩
section
variable{s:aW}{f:Bool×Bool×Bool×Bool×Bool×Bool}{K:J3}{Y:ae}{i:Int}{t o:Bool}
def ry0:aN J (eD s f)=V (.l (s.ak.map cg.c) f.1 f.2.1):=rfl
def aCj{l}:rV (cz 2 Y (.l (l.map cg.c) t o)<|iv i) K=(aF (L l) i/\K (.q<|cg.c<|gd l i.toNat)):=am0 (Y:=Y)
def am1{l}:rV (cz 3 Y (.l (l.map aoC.c) t o)<|iv i) K=(aF (L l) i/\K (.q<|aoC.c<|gd l i.toNat)):=am2 (Y:=Y)
def amb:cK 3 J (.a<|eD s f)=V (.l (s.ay.map aoC.c) f.2.2.2.2.1 f.2.2.2.2.2):=rfl
def KZ{l}:cK 0 (V 4) (.a<|eD s f++l)=V (.a<|eD s f):=rfl
end
def aOj(w:am)(f e:Int):Bool:=
 bif Q ((gd w.ac e.toNat).aq=(gd w.ac f.toNat).aq) then I
 else bif Q ((gd w.ac e.toNat).kind=6)||Q ((gd w.ac e.toNat).kind=10) then(Q ((gd (cY w f.toNat).eB.ak (gd w.ac e.toNat).eI.toNat).aPo=(gd w.ac f.toNat).aq)||Q ((gd w.ac f.toNat).aq∈(gd (cY w f.toNat).eB.ak (gd w.ac e.toNat).eI.toNat).bk))
 else bif Q ((gd w.ac e.toNat).kind=8) then Q<|(gd (cY w f.toNat).eB.ak (gd w.ac e.toNat).eI.toNat).aPo=(gd w.ac f.toNat).aq
 else bif Q ((gd w.ac e.toNat).kind=17) then Q<|(gd (cY w f.toNat).eB.ak (gd w.aQ.bC (gd w.ac e.toNat).eI.toNat).eg.toNat).aPo=(gd w.ac f.toNat).aq
 else bif Q ((gd w.ac e.toNat).kind=21) then Q<|(gd w.ac e.toNat).eI=(gd w.ac f.toNat).aq
 else I
structure kB(w:am):Prop where
 ev:L w.ac<=16
 co:L w.aQ.bC<=2
 cc:∀c∈w.aQ.bC,aF (L w.aQ.ak) c.eg
 st:∀k:Nat,k<L w.ac->GV (cY w k)/\fN w.aQ (cY w k)=U
 en:∀k:Nat,k<L w.ac->vo (gd w.ac k)/\bjf w.aQ (cY w k) (gd w.ac k)=U
theorem kB.named{w}(h:kB w){k:Nat}(a:k<L w.ac):named w.aQ (gd w.ac k).kind (gd w.ac k).eI=U/\aF (L w.aQ.ay) (gd w.ac k).aq:=by have:=(h.en k a).2;grind [bjf,eH,cP,aOL,fK,jm,dX]
def Ph(w)(f e:Int)(hp:kB w/\aF (L w.ac) f/\aF (L w.ac) e):Ct 133 [.a w.c,iv f,iv e] (·=bv (aOj w f e)):=aLN A λs2 M P h0=>by obtain⟨j,F,E⟩:=hp;simp+contextual only[fD,P];refine⟨E,F,?_⟩;refine mo M λs3 v b3=>?_;simp only[qz 4];refine mo (v.1.trans M) λs4 y b4=>?_;simp only[qz 6];refine gN (y.bt b3) bsd A rfl λs5 B b5=>?_;simp only[qz 8];refine gN (B.bt b4) bsd A rfl λs6 C R=>?_;simp only[qz 10,qy 12];refine dT (by rfl) ?_;have l6:L s6=4096:=(by rw[C.1,B.1,y.1,v.1,M]);have S:=C.bt<|B.bt<|y.bt<|v.bt P;have T:=C.bt b5;simp+contextual only[↓iS,eT,S,T,R];refine⟨λh=>by simp only[aOj,h,aRa],λh=>?_⟩;have:=F.1;have ae:=F.2;have:=E.1;have:=E.2;have:f.toNat<L w.ac:=Z;have ad:e.toNat<L w.ac:=Z;have:=j.ev;have:=j.co;simp only[jM,kU,jt,sH,tW,rT];refine⟨⟨Z,Z,λk _ G=>(j.st k Z).1,λx hx=>by obtain⟨k,G,rfl⟩:=ou hx;rw[<-aNV G];exact(j.en k G).1⟩,?_⟩;rintro r ⟨ds,rfl,hL⟩;rw[zg ae] at hL;refine⟨.inl A,?_⟩;obtain⟨g,f4,o4,f5,o5,f6,o6,rfl⟩:=Qj hL;simp only[KZ,aY];refine eF (z:=4) (d:=9) (cs:=eD (cY w f.toNat).eB g) A rfl H bsd λs7 D b7=>?_;have d1:=D.bt S;have W:=D.bt T;have d6:=D.bt R;obtain⟨hn,ht⟩:=j.named ad;obtain⟨ag,u⟩:=j.st f.toNat Z;have p:L (cY w f.toNat).eB.ak=L w.aQ.ak:=(by simp only[fN,bN] at u;exact(iY u.1).2.1);simp only[qz 14,eT,W];simp only[qz 53,iM,aY,sw];simp only[qz 51,aI,au];simp+contextual only[↓iS,gj,d1,W,d6,b7,ry0,aCj,rT];have lk:6<=(gd w.ac e.toNat).kind->(gd w.ac e.toNat).kind<=11->aF (L (cY w f.toNat).eB.ak) (gd w.ac e.toNat).eI:=λa b=>(by rw[p];exact mJ hn a b);refine⟨λq=>?_,λq=>⟨λl=>?_,λl=>⟨λm=>?_,λm=>⟨λN=>?_,λN=>?_⟩⟩⟩⟩;have n:=lk (by simp at q;omega) (by simp at q;omega);have:=ag.1 _<|ii n;exact⟨n,λ_=>n,λ_=>Z,by simp only[aOj,h,q,aRa,bih]⟩;have n:=lk (by simp at l;omega) (by simp at l;omega);exact⟨n,by simp only[aOj,h,q,l,aRa,bih]⟩;have hc:=oT hn (by simp at m;omega) (by simp at m;omega);exact⟨hc,by rw[p];exact j.cc _<|ii hc,by simp only[aOj,h,q,l,m,aRa,bih]⟩;simp only[aOj,h,q,l,m,N,aRa,bih];simp only[aOj,h,q,l,m,N,bih]
def FN:FT:=qe Ph
def ay6:=sT FN Ph
abbrev jn(w:am)(g:cJ):aP:=gd w.ac g.ea.toNat
abbrev mB(w:am)(g:cJ):aP:=gd w.ac g.eb.toNat
abbrev rP(w:am)(g:cJ):aP:=gd w.ac g.ec.toNat
abbrev xI(w:am)(g:cJ):aP:=gd w.ac g.ed.toNat
def Ek(w:am)(g:cJ):Bool:=Q (g.ea<g.eb)&&(Q (g.ec=0)&&(Q (g.ed=0)&&(Q ((L g.cW:Int)=0)&&(Q ((jn w g).aq≠(mB w g).aq)&&(nh (jn w g) (mB w g)&&!(gd w.aQ.cells (jn w g).eI.toNat).vol)))))
def Pq(w)(g)(F:kB w/\aF (L w.ac) g.ea/\aF (L w.ac) g.eb):Ct 136 [.a w.c, .a g.c] (·=bv (Ek w g)):=aLU A rfl λN l m n M=>by obtain⟨r,k,D⟩:=F;simp+contextual only[fD,m,n];refine⟨k,D,?_⟩;refine mo l λP b u=>?_;simp only[qz 6];refine mo (b.1.trans l) λR d v=>?_;simp only[qz 8];refine gN (d.bt u) bsd A rfl λS e x=>?_;simp only[qz 10];refine gN (e.bt v) bsd A rfl λG h y=>?_;simp only[qz 12];refine dT (by rfl) ?_;have:L G=4096:=(by rw[h.1,e.1,d.1,b.1,l]);have z:=h.bt<|e.bt<|d.bt<|b.bt m;have B:=h.bt<|e.bt<|d.bt<|b.bt n;have C:=h.bt x;simp+contextual only[gj,z,B,C,y,rT];refine⟨λq=>?_,?_⟩;have p:g.ea.toNat<L w.ac:=(be7 k.1 k.2);have E:=(r.named p).1;simp only[bN] at q;have j:nh (jn w g) (mB w g)=U:=q.2.2.2.2.2;simp only[nh,tT,bN,fH,awG] at j;have:(gd w.ac g.ea.toNat).kind=3\/(gd w.ac g.ea.toNat).kind=4:=j.1.1.1;exact qP E Z Z;simp only[Ek]
def FU:FT:=aIc Pq
def azd:=gX FU Pq
def tm(w:am)(g:cJ):Bool:=Q (g.ec≠0)||Q (g.ed≠0)||Q ((0:Int)<L g.cW)||(Q ((jn w g).kind≠18)&&Q ((jn w g).kind≠19))||Q ((mB w g).kind≠16)||Q ((jn w g).eI≠(mB w g).eI)||Q ((jn w g).aq=(mB w g).aq)||Q (g.ea<=g.eb)
def wz(w:am)(g:cJ):Bool:=!tm w g&&(Q (∀j,j<g.ea.toNat->g.eb.toNat<j->(gd w.ac j).aq≠(mB w g).aq)&&(Q ((gd (cY w g.ea.toNat).eB.ay (mB w g).aq.toNat).cQ=3)&&(Q ((jn w g).kind=19)||Q ((jn w g).value=(mB w g).aq))))
def Pp(w)(g)(hp:kB w/\aF (L w.ac) g.ea/\aF (L w.ac) g.eb):Ct 137 [.a w.c, .a g.c] (·=bv (wz w g)):=aLT A rfl λs2 F G M h0=>by obtain⟨e,C,D⟩:=hp;have al:=C.1;have S:=C.2;have an:=D.1;have ao:=D.2;have ar:=e.ev;have ap:=e.co;simp+contextual only[fD,G,M];refine⟨C,D,?_⟩;refine mo F λs3 m b3=>?_;simp only[qz 6];refine mo (m.1.trans F) λs4 n b4=>?_;simp only[qz 8];refine gN (n.bt b3) bsd A rfl λs5 p b5=>?_;simp only[qz 10];refine gN (p.bt b4) bsd A rfl λs6 u y=>?_;simp only[qz 12];refine dT (by rfl) ?_;have l6:L s6=4096:=(by rw[u.1,p.1,n.1,m.1,F]);have c1:=u.bt<|p.bt<|n.bt<|m.bt G;have N:=u.bt<|p.bt<|n.bt<|m.bt M;have z:=u.bt b5;simp+contextual only[↓iS,eT,N,z,y];constructor<;>intro q;have:tm w g=U:=(by simpa only[tm,yZ] using q);simp only[wz,this,fh,kM];have B:tm w g=I:=(by simpa only[tm,yZ] using q);rw[eM Z Z];refine⟨λvs=>∃k:Nat,vs=[iv k]/\g.eb.toNat<k/\k<=g.ea.toNat+1/\∀j:Nat,g.eb.toNat<j->j<k->(gd w.ac j).aq≠(mB w g).aq,cM 1000,⟨g.eb.toNat+1,by congr 2;omega,Z,by simp only[tm,cP,aPs] at B;omega,λj a b=>Z⟩,?_⟩;rintro vs ⟨k,rfl,aa,au,W⟩;simp+contextual only[qz 43,↓iS,fD,c1,N,z,y,bh];have av:g.eb.toNat<g.ea.toNat:=(by simp only[tm,cP,aPs] at B;omega);constructor<;>intro h;simp only[awG] at h;refine⟨⟨Z,Z⟩,λl=>?_,λl=>?_⟩;have:¬∀j,j<g.ea.toNat->g.eb.toNat<j->(gd w.ac j).aq≠(mB w g).aq:=λd=>d k Z aa (by simpa using l);simp only[wz,bqN this,kM,qc];rw[fX Z];refine⟨⟨k+1,A,Z,Z,λj a b=>?_⟩,by simp only[cM,bh];omega⟩;obtain P|P:=jj j k;exact W j a P;obtain rfl:j=k:=Z;simpa using l;simp only[aPs] at h;have d:∀j,j<g.ea.toNat->g.eb.toNat<j->(gd w.ac j).aq≠(mB w g).aq:=λj a b=>W j b Z;have am:g.ea.toNat<L w.ac:=Z;have T:g.eb.toNat<L w.ac:=Z;simp only[jM,kU,jt,sH,tW,rT];refine⟨⟨Z,Z,λk _ E=>(e.st k Z).1,λx l=>by obtain⟨k,E,rfl⟩:=ou l;rw[<-aNV E];exact(e.en k E).1⟩,?_⟩;rintro r ⟨ds,rfl,R⟩;rw[zg S] at R;refine⟨.inl A,?_⟩;obtain⟨f,f4,o4,f5,o5,f6,o6,rfl⟩:=Qj R;obtain⟨aw,v⟩:=e.st g.ea.toNat Z;have ab:L (cY w g.ea.toNat).eB.ay=L w.aQ.ay:=(by simp only[fN,bN] at v;exact(iY v.1).2.2.2);simp+contextual only[KZ,amb,gg,am1,z,y];refine⟨by rw[ab];exact(e.named T).2,?_⟩;simp only[wz,B,kN,iw,bsi d]
def FR:FT:=aIc Pp
def azc:=gX FR Pp
def bpK(g:cJ):Bool:=Q ((0:Int)<L g.cW)||Q (g.eb<=g.ea)||Q (g.ed<g.ec)
def vQ(w:am)(g:cJ):Bool:=Q ((jn w g).aq≠(mB w g).aq)||Q ((rP w g).aq≠(xI w g).aq)||Q ((jn w g).aq=(rP w g).aq)||!nh (jn w g) (rP w g)||!nh (xI w g) (mB w g)
def tZ(w:am)(g:cJ):Bool:=!bpK g&&(!vQ w g&&(Q (∀j,j<g.eb.toNat->g.ea.toNat<=j->((gd w.ac j).aq≠(jn w g).aq\/(gd w.ac j).kind≠15))&&(gd (cY w g.ea.toNat).eB.ay (jn w g).aq.toNat).atomic))
def Pk(w)(g)(hp:kB w/\aF (L w.ac) g.ea/\aF (L w.ac) g.eb/\aF (L w.ac) g.ec/\aF (L w.ac) g.ed):Ct 138 [.a w.c, .a g.c] (·=bv (tZ w g)):=aLQ A rfl λs2 hl P S h0=>by obtain⟨m,E,F,ak,hd⟩:=hp;have ae:=E.1;have af:=E.2;have aK:=F.1;have aL:=F.2;have aN:=m.ev;have aM:=m.co;simp+contextual only[fD,P,S];refine⟨λq=>?_,λq1=>?_⟩;have:bpK g=U:=q;simp only[tZ,this,fh,kM];have z:bpK g=I:=q1;refine⟨E,F,ak,hd,?_⟩;refine mo hl λs3 M b3=>?_;simp only[qz 6];refine mo (M.1.trans hl) λs4 N b4=>?_;simp only[qz 8];refine pv A H bsd λs5 D b5=>?_;simp only[qz 10];refine pv A H bsd λs6 p b6=>?_;simp only[qz 12];refine gN (p.bt<|D.bt<|N.bt b3) bsd A rfl λs7 u b7=>?_;simp only[qz 14];refine gN (u.bt<|p.bt<|D.bt b4) bsd A rfl λs8 v b8=>?_;simp only[qz 16];refine gN (v.bt<|u.bt<|p.bt b5) bsd A rfl λs9 y b9=>?_;simp only[qz 18];refine gN (y.bt<|v.bt<|u.bt b6) bsd A rfl λao l R=>?_;simp only[qz 20];refine dT (by rfl) ?_;have hF:Fr s2 ao [5,6,7,8]:=(M.mono H).trans<|(N.mono H).trans<|(D.mono H).trans<|(p.mono H).trans<|(u.mono H).trans<|(v.mono H).trans<|(y.mono H).trans<|l.mono H;have c1:=hF.bt P;have T:=hF.bt S;have W:=l.bt<|y.bt<|v.bt b7;have c8:=l.bt<|y.bt b8;have c9:=l.bt b9;simp+contextual only[↓iS,fQ,T,W,c8,c9,R,rT];constructor<;>intro q;have:vQ w g=U:=(by simpa only[vQ,yZ] using q);simp only[tZ,this,fh,kM,qc];have aa:vQ w g=I:=(by simpa only[vQ,yZ] using q);have aP:g.ea.toNat<g.eb.toNat:=(by simp only[bpK,cP,aPs] at z;omega);refine⟨λvs=>∃k:Nat,vs=[iv k]/\g.ea.toNat<=k/\k<=g.eb.toNat/\∀j:Nat,g.ea.toNat<=j->j<k->((gd w.ac j).aq≠(jn w g).aq\/(gd w.ac j).kind≠15),cM 1000,⟨g.ea.toNat,by rw[Int.toNat_of_nonneg ae],Z,Z,λj a b=>Z⟩,?_⟩;rintro vs ⟨k,rfl,al,aO,hc⟩;simp+contextual only[qz 61,↓iS,fD,c1,T,W,bh];constructor<;>intro h;simp only[awG] at h;have B:aF (L w.ac) (k:Int):=⟨Z,Z⟩;refine⟨B,λ_=>B,λd=>?_,λd=>?_⟩;simp only[bN,awG] at d;have:¬∀j,j<g.eb.toNat->g.ea.toNat<=j->((gd w.ac j).aq≠(jn w g).aq\/(gd w.ac j).kind≠15):=λe=>(by obtain n|n:=e k Z al;exact n d.1;exact n d.2);simp only[tZ,bqN this,kM,qc];simp only[bik,aPs] at d;rw[fX Z];refine⟨⟨k+1,A,Z,Z,λj a b=>?_⟩,by simp only[cM,bh];omega⟩;obtain n|n:=jj j k;exact hc j a n;obtain rfl:j=k:=Z;exact d;simp only[aPs] at h;have e:∀j,j<g.eb.toNat->g.ea.toNat<=j->((gd w.ac j).aq≠(jn w g).aq\/(gd w.ac j).kind≠15):=λj a b=>hc j b Z;have ag:g.ea.toNat<L w.ac:=Z;simp only[jM,kU,jt,sH,tW,rT];refine⟨⟨Z,Z,λk _ G=>(m.st k Z).1,λx d=>by obtain⟨k,G,rfl⟩:=ou d;rw[<-aNV G];exact(m.en k G).1⟩,?_⟩;rintro r ⟨ds,rfl,hL⟩;rw[zg af] at hL;refine⟨.inl A,?_⟩;obtain⟨f,f4,o4,f5,o5,f6,o6,rfl⟩:=Qj hL;obtain⟨aR,C⟩:=m.st g.ea.toNat Z;have an:L (cY w g.ea.toNat).eB.ay=L w.aQ.ay:=(by simp only[fN,bN] at C;exact(iY C.1).2.2.2);simp only[KZ,amb,gg,am1];refine⟨by rw[an];exact(m.named ag).2,?_⟩;simp only[tZ,z,aa,kN,iw,bsi e]
def FP:FT:=aIc Pk
def ay9:=gX FP Pk
def ao1:dO:=(49,FC)::(133,FN)::(136,FU)::(137,FR)::(138,FP)::ao0
def Ex:eJ ao1:=asq (nH OI)<|asq (tE Ph)<|asq (aCb Pq)<|asq (aCb Pp)<|asq (aCb Pk)<|yP
def sX:=ai @ayF<|ai @ay6<|ai @azd<|ai @azc<|ai @ay9<|@rT
def auc:=I9 25 [(6,([3],[1])),(15,([5],[1,4]))]
def aLF{c0}:=y1 45 15 1 Ex func17 auc c0 [.a c0]
def auo:=I9 30 [(7,([6],[2,3,5])),(15,([7],[2,3,5])),(23,([8],[2,3,5,7]))]
def aLR{c0 b}:=y2 45 15 2 48 6 3 Ex func134 auo c0 b [.a c0, .a b]
def auK:=I9 60 [(4,([3,19],[1,18])),(10,([3,25],[1,4,18,19,24])),(13,([3],[1,4,18,19,24,25])),(18,([3,42],[1,41])),(25,([3,54],[1,52,53])),(28,([3],[1,52,53,54])),(33,([3,70],[1,69])),(39,([3,77],[1,9,69,70,75,76])),(46,([3,92],[1,90,91])),(49,([3],[1,90,91,92])),(54,([3,107],[1,12,90,91,92,105,106]))]
def aMd{c0}:=y1 45 15 1 Ex func13 auK c0 [.a c0]
structure jX(n:Nat)(s:aW):Prop where
 lo:L s.ak<=4
 dn:L s.done<=2
 th:L s.ay<=4
 rd:∀l∈s.ak,L l.bk<=4+n
theorem jX.mono{n m s}(h:jX n s)(b:n<=m):jX m s:=⟨h.lo,h.dn,h.th,λl a=>by have:=h.rd l a;omega⟩
theorem jX.aNU{n s}(h:jX n s)(i)(t):jX n (aNU s i t):=⟨h.lo,h.dn,by simp[Ab.aNU];exact h.th,h.rd⟩
theorem jX.lk{n:Nat}{s}(h:jX n s)(i:Int):L (cH s i).bk<=4+n:=by unfold cH gd;rw[btc];cases a:s.ak[i.toNat]? with|none=>exact mh _|some x=>exact h.rd x X
theorem jX.lC{n:Nat}{s}(h:jX n s)(i:Int)(l)(b:L l.bk<=4+n):jX n (lC s i l):=by refine⟨by simp[Ab.lC];exact h.lo,h.dn,h.th,λx a=>?_⟩;simp only[Ab.lC] at a;obtain a|rfl:=CC a;exact h.rd x a;exact b
theorem jX.marks{n}:∀{l:eu} {s},jX n s->jX n (l.foldl (λs u=>Ab.aNU s u {fA s u with cQ:=4}) s)|[],_,h=>h|u::l,s,h=>jX.marks (l:=l)<|h.aNU u _
theorem aIP{a}{t:Int}:L (mP a [t])<=L a+1:=by have b:=Bh (l:=[]) (a:=a) (k:=L a)<|dA _;have:=Bh (l:=jh [] a<|L a) (a:=[t]) (k:=1) O;simp only[bhZ] at b;show L (jh (jh [] a<|L a) [t] 1)<=_;omega
theorem jX.apply{n s}(h:jX n s)(w)(t kind eI lD):jX (n+1) (cU w s t kind eI lD).1:=by have a:jX (n+1) s:=h.mono Z;have:=λi=>h.lk i;have:∀i,L (cH s i).bk<=4+(n+1):=X;unfold cU;by_cases p:kind=1;grind [jX.aNU];rw[za p];by_cases q:kind=2;grind [jX.aNU];rw[za q];by_cases r:kind=6\/kind=10;grind [jX.lC];rw[za r];by_cases u:kind=7\/kind=11;grind [jX.lC];rw[za u];by_cases v:kind=8;grind [jX.lC,aIP];rw[za v];by_cases o:kind=9;rw[zg o];refine a.lC _ _ ?_;grind [fZ,decide,cH,fJ];rw[za o];by_cases b:kind=12;rw[zg b];exact⟨a.lo,a.dn,a.th,a.rd⟩;rw[za b];by_cases c:kind=13;rw[zg c];exact⟨a.lo,a.dn,a.th,a.rd⟩;rw[za c];by_cases d:kind=14;grind [jX.aNU];rw[za d];by_cases e:kind=15;grind [jX.aNU];rw[za e];by_cases f:kind=16;grind [jX.aNU,jX.lC];rw[za f];by_cases g:kind=17;grind [jX.aNU,jX.lC];rw[za g];by_cases j:kind=18;grind [jX.aNU];rw[za j];by_cases k:kind=19;grind [jX.marks];rw[za k];by_cases l:kind=20;grind [jX.aNU];rw[za l];by_cases m:kind=22;rw[zg m];exact⟨a.lo,by simp;exact a.dn,a.th,a.rd⟩;simp_all
structure vH(n:Nat)(s:aTo):Prop where
 sy:jX n s.eB
 ce:L s.cells<=12
 fu:L s.bU<=2
 co:L s.count<=4
 cn:∀c∈s.count,0<=c/\c<=400+n
theorem vH.snB{n s}(h:vH n s)(b:n<90000):GV s:=⟨λl a=>by have:=h.sy.rd l a;omega,by have:=h.sy.lo;omega,by have:=h.sy.dn;omega,by have:=h.sy.th;omega,by have:=h.ce;omega,by have:=h.fu;omega,by have:=h.co;omega⟩
theorem vH.step{n w s e}(h:vH n s)(d:n<90000):vH (n+1) (nD w s e):=by unfold nD;(cases bjf w s e);exact⟨⟨by simp[tw,sy0],by simp[tw,sy0],by simp[tw,sy0],by simp[tw,sy0]⟩,by simp[tw],by simp[tw],by simp[tw],by simp[tw]⟩;refine⟨h.sy.apply _ _ _ _ _,?_,?_,?_,?_⟩;have:=h.ce;grind [oc];have:=h.fu;grind [oc];have:=h.co;grind [oc,List.length_set];intro c a;simp only[aRa,oc] at a;obtain a|rfl:=CC a;have:=h.cn c a;omega;have b:0<=gd s.count e.aq.toNat/\gd s.count e.aq.toNat<=400+n:=(by unfold gd;rw[btc];cases f:s.count[e.aq.toNat]? with|none=>simp;omega|some x=>exact h.cn x X);grind [eM]
def yq{l}{n:Int}(h:lZ l n):∀j,j<L l->(j:Int)+1<=gd l j
 |0,a=>by have:=(h 0 a).1;omega
 |j+1,a=>by
  have:=yq h j Z
  have:=(h (j+1) a).2.2 Z
  grind
def aEw{l}{n:Int}(h:lZ l n)(b:0<=n):(L l:Int)<=n:=by obtain a|a:=oD<|L l;omega;have:=yq h (L l-1) Z;have:=(h (L l-1) Z).2.1;omega
def Ae(w:am)(j:Nat):Bool:=!gd w.init.eB.done j&&Q (gd w.init.bU j≠0)
def oh(w:am):Bool:=!mQ w.aQ||!fN w.aQ w.init||Q ((16:Int)<L w.ac)||!rM w||!uZ w||!ny w
def xH(w:am)(k:Nat):Bool:=!bjf w.aQ (cY w k) (gd w.ac k)||!Q (∀n∈(gd w.ac k).dI,qU w (gd w.ac k).aq n=U)||!Q (∀n∈(gd w.ac k).ep,qU w (gd w.ac k).aq n=U)
def bcV(w:am):Bool:=!oh w&&(Q (∀j,j<L w.init.bU->Ae w j=I)&&Q (∀k,k<L w.ac->xH w k=I))
def hU(w:am):Prop:=L w.aQ.bC<4611686018427387904/\(∀l∈w.init.eB.ak,L l.bk<4611686018427387904)/\(∀e∈w.ac,vo e)/\L w.init.bU<4611686018427387904
theorem tC{w}(h:oh w=I):vH 0 w.init/\L w.ac<=16/\(∀c∈w.aQ.bC,aF (L w.aQ.ak) c.eg)/\L w.aQ.bC<=2/\fN w.aQ w.init=U:=by simp only[oh,cP,fK,aPs] at h;obtain⟨⟨⟨⟨⟨d,a⟩,y⟩,z⟩,B⟩,f⟩:=h;have n:=d;simp only[mQ,bN,eH] at n;obtain⟨hs,C⟩:=n;simp only[wJ,cP,aPs] at hs;have k:=a;simp only[fN,bN,awG] at k;obtain⟨o,u,v,x⟩:=iY k.1;have s:∀c∈w.init.count,0<=c/\c<=400:=(by grind [rM]);have g:∀c∈w.aQ.bC,aF (L w.aQ.ak) c.eg:=o;have t:∀l∈w.init.eB.ak,L l.bk<=4:=(λl q=>by obtain⟨j,m,rfl⟩:=ou q;simp only[ny,bN,awG] at f;have b:=(f.1 j m).2;rw[aNV m] at b;have key:∀i,i<L (w.init.eB.ak[j]).bk->(i:Int)<=gd (w.init.eB.ak[j]).bk i:=(λi=>by induction i with|zero=>intro e;have:=(b 0 e).1;simp only[nO,bN] at this;have:=(dX.1 this.1).1;omega|succ i r=>intro e;have d:=r Z;have a:=(b (i+1) e).2 Z;grind);obtain p|p:=oD<|L (w.init.eB.ak[j]).bk;omega;have d:=key (L (w.init.eB.ak[j]).bk-1) Z;have a:=(b (L (w.init.eB.ak[j]).bk-1) Z).1;simp only[nO,bN] at a;have:=(dX.1 a.1).2;omega);refine⟨⟨⟨Z,Z,Z,Z⟩,Z,Z,Z,vB⟩,Z,g,Z,a⟩
theorem wK{w}(h:oh w=I):∀k,k<90000->vH k (cY w k)|0,_=>(tC h).1|k+1,a=>(wK h k Z).step Z
def aIw{w s e}(h:bjf w s e=U):lZ e.dI (gd s.count e.aq.toNat)/\lZ e.ep (gd s.count e.aq.toNat)/\aF (L s.count) e.aq/\L s.count=L w.ay:=by simp only[bjf,eH,cP] at h;grind [bip,cP,fK,aOL,fN,dX]
theorem anH{l}{n:Int}(h:lZ l n)(b:0<=n)(d:n<=500):L l<1000000/\∀x∈l,-1000<=x/\x<9223372036854775808:=by refine⟨by have:=aEw h b;omega,λx c=>?_⟩;obtain⟨j,a,rfl⟩:=ou c;have:=(h j a).1;have:=(h j a).2.1;grind [aNV]
def O8(w)(hp:hU w):Ct 17 [.a w.c] (·=bv (bcV w)):=aLF A λs2 hl q h0=>by obtain⟨p1,p2,p3,p4⟩:=hp;simp+contextual only[fQ,q,sX];have:∀{a b:Bool},(!(a||b))=U->a=I/\b=I:=O;have:∀{a:Bool},(!a)=I->a=U:=O;have:fN w.aQ w.init=U->L w.init.count=L w.aQ.ay/\L w.init.eB.ay=L w.aQ.ay/\L w.init.eB.ak=L w.aQ.ak/\(∀c∈w.aQ.bC,aF (L w.aQ.ak) c.eg):=(λh=>by simp only[fN,bN,awG] at h;obtain⟨f1,f2,f3,f4⟩:=iY h.1;exact⟨h.2.2.2,f4,f2,f1⟩);have:mQ w.aQ=U->L w.aQ.ay<=4/\L w.aQ.ak<=4:=(by grind [mQ,eH,wJ,cP,decide_eq_false_iff_not]);refine⟨λ_=>p1,λh=>?_,λh=>?_,λh=>?_,λh=>?_,λh=>?_⟩;grind;grind;grind;grind [oh,bcV,fh];have K:oh w=I:=h;obtain⟨T,aA,ax,az,aC⟩:=tC K;have hI:=wK K;have M:bcV w=(Q (∀j,j<L w.init.bU->Ae w j=I)&&Q (∀k,k<L w.ac->xH w k=I)):=(by grind [bcV,kN]);have:L w.init.eB.done=L w.init.bU:=(by grind [fN,iY]);refine bid (L w.init.bU) (λk=>∀j,j<k->Ae w j=I) O λk hk v=>?_;simp+contextual only[qz 37,qy 4,qy 6,fD,q,dc,bh];refine⟨λl=>⟨by grind [dJ,aL],λ_=>vp l,λg=>?_,λg=>bkg (aL l) p4<|aRN v g⟩,λl=>?_⟩;rw[M,zM (aL l) g,kM];have:∀j,j<L w.init.bU->Ae w j=I:=X;refine eF A rfl H Z λs3 z D=>?_;have c1:=z.bt q;have v4:(aZ s2 4).ver=0:=vB;rw[v4] at D⊢;refine⟨λvs Y=>∃(k:Nat) (ds:dM),vs=[iv k]/\k<=L w.ac/\(∀j,j<k->xH w j=I)/\Lk ds (cY w k).c/\box Y (4,1)=V ⟨42,7,U,U,[ds]⟩/\Fr s3 Y [4,6,7],fM<|L w.ac,⟨0,w.init.c,A,mh _,O,⟨A,A⟩,D,Fr.refl _ _⟩,?_⟩;rintro vs Y ⟨k,ds,rfl,hk,P,u,g,t⟩;have F:=t.bt c1;have aB:L Y=4096:=(by rw[t.1,z.1,hl]);have o:=oC u;have R:=Bi o;simp only[qz 91,qy 8,fD,F,bh];refine⟨λs=>⟨vp s,?_⟩,λs=>?_⟩;refine eF A rfl H Z λY2 p B=>?_;have i:=aL s;have G:=p.bt F;have n:=p.bt g;simp only[qz 10,qy 12,eT,G,n,B,R];simp only[jM,kU,jt,zN,CU,u.arg,sX];obtain⟨q1,q2,q3,q4,q5,q6,q7⟩:=(hI k Z).snB Z;obtain⟨r1,r2⟩:=p3 _<|dB i;refine⟨X,?_⟩;rintro r ⟨m,rfl,e⟩;refine⟨.inl ?_,?_⟩;simp only[nA,Cu,Cv,x9 u];rfl;simp only[oJ,pG,aY];refine eF A (oC e) H bsd λY3 d E=>?_;have e3:=d.bt G;have N:=d.bt n;have C:=d.bt B;have y:=Bi<|oC e;simp+contextual only[qz 14,fQ,e3,C,E,y,sX];have:bjf w.aQ (cY w k) (gd w.ac k)=U->(L (gd w.ac k).dI<1000000/\∀x∈(gd w.ac k).dI,-1000<=x/\x<9223372036854775808)/\(L (gd w.ac k).ep<1000000/\∀x∈(gd w.ac k).ep,-1000<=x/\x<9223372036854775808)/\aF (L w.init.count) (gd w.ac k).aq:=(λhs=>by obtain⟨n1,n2,n3,n4⟩:=aIw hs;have:=(hI k Z).cn _<|ii n3;grind [anH]);have:∀c∈w.init.count,0<=c/\c<=400:=λc v=>(aYF<|T.cn c v);refine⟨λf=>?_,λf=>?_,λf=>?_,λf=>?_⟩;grind;grind;rw[M,zM i f,qc];refine gN (cs:=m) N bsd o (oC e) λY4 S W=>?_;simp only[qz 16,au,cS,aY];rw[fX Z];refine⟨⟨k+1,m,A,i,aRN P f,e,W,t.trans<|(p.mono H).trans<|(d.mono H).trans<|S.mono H⟩,?_⟩;grind [fM,cM,bh];grind
def Cg:FT:=mT O8
def ayY:=oK Cg O8
theorem aQA{w}(h:bcV w=U):oh w=I/\∀k,k<L w.ac->bjf w.aQ (cY w k) (gd w.ac k)=U:=by grind [bcV,eH,xH,cP,fK]
def Rr{w}(f:hU w)(h:bcV w=U):kB w:=by obtain⟨e,hs⟩:=aQA h;obtain⟨i,d,b,c,g⟩:=tC e;refine⟨d,c,b,λk a=>⟨(by grind [vH.snB,wK]),?_⟩,λk a=>⟨f.2.2.1 _<|dB a,hs k a⟩⟩;grind [bjf,eH,cP,aOL,fK]
def rO(g:cJ):Bool:=Q (g.ea≠0)||Q (g.eb≠0)||Q (g.ec≠0)||Q (g.ed≠0)||Q ((L g.cW:Int)<2)||Q (4<(L g.cW:Int))
def alP(g:cJ)(i:Nat):Int:=gd g.cW<|(i+1)%L g.cW
def rN(w:am)(g:cJ)(i:Nat):Bool:=Q (gd g.cW i<gd g.cW 0)||!aOj w (alP g i) (gd g.cW i)
def sP(w:am)(g:cJ)(i k:Nat):Bool:=Q<|(gd w.ac (gd g.cW i).toNat).aq=(gd w.ac (gd g.cW k).toNat).aq
def qx(w:am)(g:cJ):Bool:=!rO g&&(Q (∀j,j<L g.cW->dh (gd g.cW j) (L w.ac)=U)&&Q (∀i,i<L g.cW->rN w g i=I/\∀k,k<i->sP w g i k=I))
def aod{a b:Nat}(c:0<b):bc4 .rem 0 [] (iv a) (iv b)=V (iv ((a%b:Nat):Int)):=by show Sb AV.s (if dq=dq/\(b:Int)≠0 then V (.int .i64<|Int.tmod a b) else J)=_;grind
def Pm(w)(g)(M:kB w/\L g.cW<4611686018427387904):Ct 134 [.a w.c, .a g.c] (·=bv (qx w g)):=aLR A rfl λs2 T x r S=>by obtain⟨C,N⟩:=M;have P:=C.ev;simp+contextual only[eT,r];constructor<;>intro q;have:rO g=U:=(by simpa only[rO,yZ] using q);simp only[qx,this,fh,kM];have F:rO g=I:=(by simpa only[rO,yZ] using q);have R:2<=L g.cW/\L g.cW<=4:=(by simp only[rO,cP,aPs] at F;omega);have t:qx w g=(Q (∀j,j<L g.cW->dh (gd g.cW j) (L w.ac)=U)&&Q (∀i,i<L g.cW->rN w g i=I/\∀k,k<i->sP w g i k=I)):=(by simp only[qx,F,kN,iw]);refine bid (L g.cW) (λk=>∀j,j<k->dh (gd g.cW j) (L w.ac)=U) O λk K n=>?_;simp+contextual only[qz 43,gj,x,r,sX,bh];refine⟨λh=>⟨vp h,λd=>?_,λd=>bkg (aL h) Z<|a6p n<|by simpa using d⟩,λh=>?_⟩;have:¬∀j,j<L g.cW->dh (gd g.cW j) (L w.ac)=U:=λb=>(by rw[b k<|aL h] at d;cases d);rw[t,bqN this,kM];have f:=λj o=>dX.1<|n j<|bpL o<|dge h;have y:=λj o=>n j<|bpL o<|dge h;refine bid (L g.cW) (λk=>∀i,i<k->rN w g i=I/\∀m,m<i->sP w g i m=I) O λk K n=>?_;have z:bc4 .rem 0 [] (iv<|dq.wrap<|(k:Int)+1) (iv<|L g.cW)=V (iv (((k+1)%L g.cW:Nat):Int)):=(by rw[fX Z];exact aod Z);have p:(k+1)%L g.cW<L g.cW:=Nat.mod_lt _ Z;simp+contextual only[qz 91,gj,x,r,sX,bh,Gx,z];refine⟨λe=>⟨vp e,⟨Z,Z⟩,λ_=>dJ p,λ_=>vp e,λ_=>⟨C,f _ p,f k<|aL e⟩,λd=>?_,λd=>?_⟩,λe=>?_⟩;have s:rN w g k=U:=d;have:¬∀i,i<L g.cW->rN w g i=I/\∀k,k<i->sP w g i k=I:=λb=>(by rw[(b k<|aL e).1] at s;cases s);rw[t,bqN this,qc];have s:rN w g k=I:=d;refine bid k (λm=>∀j,j<m->sP w g k j=I) O λm W u=>?_;simp+contextual only[qz 139,fD,x,r,bh];have l:=aL e;constructor<;>intro E;have v:=aL E;refine⟨dJ l,f k l,dJ Z,f m Z,λB=>?_,λB=>bkg v Z<|aRN u B⟩;have:¬∀i,i<L g.cW->rN w g i=I/\∀k,k<i->sP w g i k=I:=λb=>(by have:=(b k l).2 m v;simp only[sP,B] at this;cases this);rw[t,bqN this,qc];refine bkg l Z λi G=>?_;obtain D|D:=jj i k;exact n i D;obtain rfl:i=k:=Z;exact⟨s,λj o=>u j<|bpL o<|dge E⟩;have b:=λi G=>n i<|bpL G<|dge e;rw[t,bsi y,bsi b];rfl
def FQ:FT:=aIc Pm
def aza:=gX FQ Pm
def nB(a k:Nat):List aH8:=((aH k).filter λb:Nat=>Q<|(a:Int)≠(b:Int)).map λb:Nat=>⟨1,(a:Int),(b:Int)⟩
def lr(n k:Nat):List aH8:=(aH k).flatMap λa=>nB a n
def mK(k:Nat):List aH8:=(aH k).map λa:Nat=>⟨2,(a:Int),0⟩
def kh(l:List aP)(k:Nat):List aH8:=((aH k).filter λa=>fR<|gd l a).map λa:Nat=>⟨3,(a:Int),0⟩
def ki(w:am)(k:Nat):List aH8:=(aH k).flatMap λa:Nat=>(dx w a).map λb=>⟨4,(a:Int),b⟩
def pR(w:am)(a:Nat):List aH8:=if pN (gd w.ac a) then(mR w (gd w.ac a).eI (gd w.ac a).aq).map λb=>⟨5,(a:Int),b⟩ else[]
def jp(w:am)(k:Nat):List aH8:=(aH k).flatMap<|pR w
def m8(w:am):List aH8:=lr (L w.ac) (L w.ac)++mK (L w.ac)++kh w.ac (L w.ac)++ki w (L w.ac)++jp w (L w.ac)
theorem tq{β:Type}{f:Nat->List β}{k}:(aH<|k+1).flatMap f=(aH k).flatMap f++f k:=by rw[qn,GC];simp
theorem an5{β:Type}{f:Nat->β}{k}:(aH<|k+1).map f=(aH k).map f++[f k]:=by rw[qn,dg];simp
theorem uP{β:Type}{p}{f:Nat->β}{k}:((aH<|k+1).filter p).map f=((aH k).filter p).map f++if p k then[f k] else[]:=by grind [qn]
theorem EC{β:Type}{P l}{f:Int->β}{m:Nat}(h:m<L l):P++(l.take<|m+1).map f=(P++(l.take m).map f)++[f<|gd l m]:=by rw[EA h];simp
def Qu(a k:Nat):L (nB a k)<=k:=by grind [nB,bJ,gl,fZ]
def AS(n k:Nat):L (lr n k)<=k*n:=by have:=jo (f:=λa=>nB a n) (m:=n) (l:=aH k) λa _=>Qu a n;grind [lr]
def AT(k:Nat):L (mK k)=k:=by simp[mK]
theorem AU(l)(k:Nat):L (kh l k)<=k:=by grind [kh,bJ,gl,fZ]
theorem vU(w)(q:Int):L (dx w q)<=1+L w.ac:=by grind [qX,mr,dx,dh,fR,gd,oM]
theorem AW(w)(k:Nat):L (ki w k)<=k*(1+L w.ac):=by have:=jo (f:=λa:Nat=>(dx w a).map λb=>(⟨4,(a:Int),b⟩:aH8)) (m:=1+L w.ac) (l:=aH k) (by grind [vU]);grind [ki]
theorem Rp(w)(c u:Int):L (mR w c u)<=L w.init.eB.ay+L w.ac:=by grind [qX,vf,wV,mR,iH,a6G,bJ]
def Qv(w)(k:Nat):L (jp w k)<=k*(L w.init.eB.ay+L w.ac):=by have:=jo (f:=pR w) (m:=L w.init.eB.ay+L w.ac) (l:=aH k) (by grind [pR,Rp]);grind [jp]
def xy{x y z:Value}:bM mc aM7 [(0, .s x),(1, .s y),(2, .s z)]=V (.a [.s x, .s y, .s z]):=rfl
def CW{x y:Value}:bM mc aM7 [(0, .s x),(1, .s y)]=V (.a [.s x, .s y,iv 0]):=rfl
def aH5{l:List aH8}:∀r∈l.map aH8.c,L r=3:=λr a=>by obtain⟨x,_,rfl⟩:=dN.1 a;rfl
def rF{Y}{d:Nat}{ds a l}(x){K}(f:Gr Y ds 98 3 a<|l.map aH8.c)(i:d∈ds)(j:d<L Y)(k:L l<=100000)(h:∀e Y',Gr Y' ds 98 3 e ((l++[x]).map aH8.c)->Fr Y Y' ds->K e Y'):eV (aX EJ 1 Y [(0, .a [iv x.kind,iv x.a,iv x.b])]) λt s=>eV (apA 98 mc 24 s d a t) K:=by rw[ua (zs:=EJ) (cs:=[iv x.kind,iv x.a,iv x.b]) A rfl rfl H A H];refine fP f A H i j aH5 O X λe Y' g F=>h e Y' ?_ F;rwa [dg]
abbrev uG:eP:=[36,49,65,86,116]
abbrev uH:eP:=[36,49,65,86,116,8,13]
def PJ(w)(hp:kB w/\L w.init.eB.ay<=4/\fN w.aQ w.init=U):Ct 13 [.a w.c] (λr=>∃t,r= .l ((m8 w).map aH8.c) t U):=by refine aMd A λs2 hl b1 h0=>?_;obtain⟨Hq,bg,R⟩:=hp;have a9:=Hq.ev;simp+contextual only[eT,b1];have v:∀k m:Nat,k<=16->m<=100->k*m<=16*100:=λk m a b=>Nat.mul_le_mul a b;refine iu (λa i=>[a,iv i]) 1 uG uH 98 3 (L w.ac) (λk=>(lr (L w.ac) k).map aH8.c) (λ_=>True) trivial (.inl ⟨A,A⟩) λk a Y s _ hG hF=>?_;have c1:=hF.bt b1;have P:L Y=4096:=(by rw[hF.1,hl]);simp only[qz 25,eT,c1];constructor<;>intro h;have j:=aL h;have bb:=AS (L w.ac) k;have bc:=v k (L w.ac) Z Z;refine iu (λa i=>[a,iv i]) 1 uG uH 98 3 (L w.ac) (λm=>(lr (L w.ac) k++nB k m).map aH8.c) (λ_=>True) trivial (by grind [nB]) λm a2 T hm _ q d=>?_;have C:L T=4096:=(by rw[d.1,P]);have bd:=Qu k m;simp only[qz 61,di,eQ,qz 83,qy 4,qy 6,xy];refine⟨λf=>⟨λB=>?_,λB=>?_⟩,λf=>?_⟩;refine rF ⟨1,k,m⟩ q H Z NA λW K g3 o=>?_;simp only[qz 81,aI,au,fE,cS,aY];refine hJ (aL f) ?_<|d.trans<|o.mono H;grind [nB,uP,bje];simp only[qz 81,aI,au,fE,cS,aY];refine hJ (aL f) ?_ d;grind [nB,uP];have n:m=L w.ac:=X;subst n;refine hJ j ?_<|hF.trans d;grind [lr,tq];have g:k=L w.ac:=X;subst g;have aZ:=AS (L w.ac)<|L w.ac;have a0:=v (L w.ac) (L w.ac) Z Z;clear h s;refine iu (λa i=>[a,iv i]) 1 uG uH 98 3 (L w.ac) (λk=>(lr (L w.ac) (L w.ac)++mK k).map aH8.c) (λ_=>True) trivial (by grind [mK]) λk a1 Y1 s _ N x=>?_;have c2:=x.bt c1;have ab:L Y1=4096:=(by rw[x.1,P]);simp only[qz 109,qy 8,eT,c2,CW];constructor<;>intro h;refine rF ⟨2,k,0⟩ N H Z (by simp[AT];omega) λW K g3 o=>?_;simp only[qz 10,au,fE,cS,aY];refine hJ (aL h) ?_<|x.trans<|o.mono H;grind [mK,an5,bje];have g:k=L w.ac:=X;subst g;clear h s;generalize ao:lr (L w.ac) (L w.ac)++mK (L w.ac)=S at N;have aM:L S<=1700:=(by rw[<-ao,a6G,AT];omega);refine iu (λa i=>[a,iv i]) 1 uG uH 98 3 (L w.ac) (λk=>(S++kh w.ac k).map aH8.c) (λ_=>True) trivial (by grind [kh]) λk a2 T s _ q d=>?_;have c3:=d.bt c2;have C:L T=4096:=(by rw[d.1,ab]);simp only[qz 151,di,qz 173,qy 12,fD,c3,bh];refine⟨λh=>⟨vp h,?_⟩,λh=>?_⟩;refine eF A rfl H Z λK o b3=>?_;have ba:=AU w.ac k;simp+contextual only[qz 14,qy 16,qy 18,oj,b3,sX,CW];constructor<;>intro B;refine rF ⟨3,k,0⟩ (q.fr o H) H bsd NA λW M g3 F4=>?_;simp only[qz 171,aI,au,fE,cS,aY];refine hJ (aL h) ?_<|d.trans<|(o.mono H).trans<|F4.mono H;grind [kh,uP,bje];simp only[qz 171,aI,au,fE,cS,aY];refine hJ (aL h) ?_<|d.trans<|o.mono H;rw[kh,uP,B];simpa[kh] using q.fr o H;have g:k=L w.ac:=X;subst g;clear h s;generalize aW:S++kh w.ac (L w.ac)=F at q;have aN:L F<=1800:=(by grind [AU,a6G]);refine iu (λa i=>[a,iv i]) 1 uG uH 98 3 (L w.ac) (λk=>(F++ki w k).map aH8.c) (λ_=>True) trivial (by grind [ki]) λk W K s _ am y=>?_;have c4:=y.bt c3;have D:L K=4096:=(by rw[y.1,C]);simp only[qz 199,fQ,c4,bh,sX];constructor<;>intro h;have j:=aL h;refine⟨⟨Z,λhq=>?_⟩,λt'=>?_⟩;obtain⟨be,_⟩:=Hq.named (k:=k) j;simp only[fN,bN,awG] at R;obtain⟨f1,f2,f3,f4⟩:=iY R.1;grind [oU,qP];have a8:=vU w (k:Int);have bf:=AW w k;have av:=v k (1+L w.ac) Z Z;refine iu (λa i=>[a,iv i]) 1 uG uH 98 3 (L<|dx w (k:Int)) (λm=>(F++ki w k++((dx w (k:Int)).take m).map λb=>(⟨4,(k:Int),b⟩:aH8)).map aH8.c) (λ_=>True) trivial X λm a4 M hm _ u e=>?_;have E:L M=4096:=(by rw[e.1,D]);simp only[qz 235,qy 20,gg,tf,bh,xy];refine⟨λf=>⟨vp f,?_⟩,λf=>?_⟩;have n:=aL f;refine rF ⟨4,k,gd (dx w (k:Int)) m⟩ u H Z NA λa5 Y5 g5 p=>?_;simp only[qz 22,au,fE,cS,aY];refine hJ n ?_<|e.trans<|p.mono H;grind [EC];have n:m=L (dx w (k:Int)):=X;subst n;refine hJ j ?_<|y.trans e;grind [ki,tq,bje,gV];have g:k=L w.ac:=X;subst g;clear h s;generalize aX:F++ki w (L w.ac)=G at am;have aO:L G<=3500:=(by grind [AW,a6G]);have hN:m8 w=G++jp w (L w.ac):=(by grind [m8]);refine iu (λa i=>[a,iv i]) 1 uG uH 98 3 (L w.ac) (λk=>(G++jp w k).map aH8.c) (λ_=>True) trivial (by grind [jp]) λk a4 M s _ u e=>?_;have c5:=e.bt c4;have E:L M=4096:=(by rw[e.1,D]);simp only[qz 277,di,qz 299,qy 24,gJ,bh];refine⟨λh=>⟨vp h,?_⟩,λh=>?_⟩;refine eF A rfl H Z λY5 p b5=>?_;have j:=aL h;have c6:=p.bt c5;have bj:=Qv w k;have av:=v k (L w.init.eB.ay+L w.ac) Z Z;simp+contextual only[qz 26,fQ,b5,c6,sX];refine⟨λB=>?_,λB=>⟨Z,λt'=>?_⟩⟩;simp only[qz 297,aI,au,fE,cS,aY];refine hJ j ?_<|e.trans<|p.mono H;have:pR w k=[]:=(by grind [pR]);rw[jp,tq,this,cL];exact u.fr p H;have aV:pN (gd w.ac k)=U:=X;have bi:=Rp w (gd w.ac k).eI (gd w.ac k).aq;refine iu (λa i=>[a,iv i]) 1 uG uH 98 3 (L<|mR w (gd w.ac k).eI (gd w.ac k).aq) (λm=>(G++jp w k++((mR w (gd w.ac k).eI (gd w.ac k).aq).take m).map λb=>(⟨5,(k:Int),b⟩:aH8)).map aH8.c) (λ_=>True) trivial (by simpa using u.fr p H) λm a6 Y6 hm _ an z=>?_;have aR:L Y6=4096:=(by rw[z.1,p.1,E]);simp only[qz 325,qy 28,gg,tf,bh,xy];refine⟨λf=>⟨vp f,?_⟩,λf=>?_⟩;have n:=aL f;refine rF ⟨5,k,gd (mR w (gd w.ac k).eI (gd w.ac k).aq) m⟩ an H Z NA λa7 Y7 g7 F7=>?_;simp only[qz 30,au,fE,cS,aY];refine hJ n ?_<|z.trans<|F7.mono H;grind [EC];obtain rfl:m=L (mR w (gd w.ac k).eI (gd w.ac k).aq):=X;simp only[qz 297,aI,au,fE,cS,aY];refine hJ j ?_<|e.trans<|(p.mono H).trans z;simp_all [jp,tq,bje,pR,gV];obtain rfl:k=L w.ac:=X;rw[hN];grind [qV]
def Cp:FT:=om PJ
def azv:=aUy Cp PJ
def ao2:dO:=(17,Cg)::(134,FQ)::(13,Cp)::ao1
def wQ:eJ ao2:=asq (pg O8)<|asq (aCb Pm)<|asq (rj PJ)<|Ex
def fsL:=ai @ayY<|ai @aza<|ai @azv<|@sX
def aum:=I9 17 []
def aLP{c0 b}:=y2 45 15 2 48 6 3 wQ func72 aum c0 b [.a c0, .a b]
structure Fx(Y Y':ae)(ks:List Id):Prop where
 len:L Y'=L Y
 keep:∀b x,b∉ks->box Y b=V x->box Y' b=V x
 ver:∀k,(aZ Y k).ver<=(aZ Y' k).ver
theorem Fx.refl(Y)(ks):Fx Y Y ks:=⟨A,λ_ _ _ h=>h,λ_=>dA _⟩
def bsq{p:Prop}(h:p:=by grind [Go.Ab.Fx.keep]):p:=h
theorem Fx.trans{Y Y' a ks ks'}(h:Fx Y Y' ks)(b:Fx Y' a ks'):Fx Y a (ks++ks'):=⟨b.len.trans h.len,bsq,λk=>gl (h.ver k)<|b.ver k⟩
theorem Fx.mono{Y Y' ks ks'}(h:Fx Y Y' ks)(hs:∀b∈ks,b∈ks'\/∀x,box Y b≠V x):Fx Y Y' ks':=⟨h.len,bsq,h.ver⟩
def Fx.kp{Y Y'}(h:Fx Y Y' []):Kp Y Y':=⟨h.len,h.ver,bsq⟩
theorem Kp.fx{Y Y'}(h:Kp Y Y')(ks):Fx Y Y' ks:=⟨h.len,(by grind [Kp.keep]),h.ver⟩
def bK(Y:ae)(b:Id):Prop:=(aZ Y b.1).ver<b.2
theorem bK.no{Y b}(h:bK Y b)(x):box Y b≠V x:=(by grind [aOm,bK])
theorem bK.ne{Y b c x}(h:bK Y b)(a:box Y c=V x):c≠b:=λe=>h.no x<|e▸a
theorem bK.old{Y Y' b ks}(a:Fx Y Y' ks)(h:bK Y' b):bK Y b:=rC (a.ver _) h
def wc{Y b x x'}(a:box Y b=V x):Fx Y (wr Y b x') [b]:=by refine⟨uC,(by grind [DY]),λk=>?_⟩;grind [wr,iD,lN,jQ]
def Le{Y b x}(a:box Y b=V x):Fx Y (kill Y b) [b]:=by refine⟨yg b,(by grind [Qc]),λk=>?_⟩;grind [kill,iD,lN,jQ]
theorem kH{Y}{d:Nat}{x}(a:d<L Y):Fx Y (put Y d x) []:=(am8 a).fx []
theorem qQ(Y)(d):bK Y (lA Y d):=by simp[bK,lA]
def alI{e}{z d:Nat}{zs Y K}(g:L zs=z)(f:0<z)(a:d<L Y)(c:∀v Y',Fx Y Y' []->bK Y (d,v)->box Y' (d,v)=V ⟨e,z,U,U,[zs]⟩->K (.p (d,v) 0 0) Y'):eV (alA e zs Y d) K:=by have b:alA e zs Y d=V (.p (lA Y d) 0 0,put Y d ⟨e,z,U,U,[zs]⟩):=(by grind [alA,vg]);rw[b];exact c _ _ (kH a) (qQ Y d)<|iy a
theorem stI{Y b}{j z y:Nat}{e o r cs x K}(a:box Y b=V ⟨e,z,o,U,[r]⟩)(g:eY x=V cs)(h:L cs=y)(f:j+y<=L r)(d:∀Y',Fx Y Y' [b]->box Y' b=V ⟨e,z,o,U,[r.take j++cs++r.drop (j+y)]⟩->K Y'):sV (aK y Y (.p b 0 j) x) K:=by have c:aK y Y (.p b 0 j) x=V (wr Y b ⟨e,z,o,U,[r.take j++cs++r.drop (j+y)]⟩):=(by grind [aK,aBG,pW,qh]);rw[c];exact d _ (wc a)<|lO a
def lI(Y:ae)(e:TypeId)(z:Nat)(a:AV)(bA:List<|dM):Prop:=(bA=[]/\a= .l [] U U)\/∃b,a= .m b (L bA)/\box Y b=V ⟨e,z,U,I,bA⟩
def aA(a:AV):List Id:=match a with| .m b _=>[b]|_=>[]
theorem lI.nil{Y e z}:lI Y e z (.l [] U U) []:= .inl ⟨A,A⟩
def aBY{p:Prop}(h:p:=by simp[Go.Ab.aA]):p:=h
theorem lI.fx{Y Y' ks e z a bA}(f:lI Y e z a bA)(d:Fx Y Y' ks)(g:∀b∈aA a,b∉ks):lI Y' e z a bA:=by obtain h|⟨b,rfl,c⟩:=f;exact .inl h;exact .inr ⟨b,A,d.keep b _ (g b aBY) c⟩
def gD{Y e}{z d by':Nat}{zs a bA new t o K}(m:lI Y e z a bA)(p:L zs=z)(q:0<z)(i:d<L Y)(v:∀r∈bA,L r=z)(u:∀r∈new,L r=z)(s:(L bA+L new)*(by'+1)<=1099511627776)(h:∀g Y',lI Y' e z g (bA++new)->Fx Y Y' (aA a)->(∀b∈aA g,b∈aA a\/bK Y b)->(∀b∈aA g,b∈aA a\/b.1=d)->K g Y'):eV (apA e zs by' Y d a<|.l new t o) K:=by unfold apA;simp only[gL];by_cases k:L new=0;rw[zg k];obtain rfl:new=[]:=vB;obtain⟨c,j⟩|⟨b,c,f⟩:=m;subst c j;exact h _ _ (.inl ⟨A,A⟩) (Fx.refl _ _) aBY aBY;subst c;simp only[f,df];exact h _ _ (.inr ⟨b,O,by simpa using f⟩) (Fx.refl _ _) aBY aBY;rw[za k,zg ⟨Z,by simp[vg,i],vB⟩];obtain⟨c,j⟩|⟨b,c,f⟩:=m;subst c j;simp only;rw[zg ⟨O,btf⟩];refine h _ _ (.inr ⟨lA Y d,O,?_⟩) ((kH i).mono O) (by grind [aA,qQ]) (by simp[aA,lA]);grind [iy];subst c;simp only[f];rw[zg ⟨trivial,trivial,p.symm,dA _,btf⟩];have n:d<L (kill Y b):=(by grind [yg]);refine h _ _ (.inr ⟨lA Y d,O,?_⟩) (((Le f).trans<|kH n).mono aBY) (by grind [aA,qQ]) (by simp[aA,lA]);grind [gV,anF,iy]
def lnI{Y e}{z:Nat}{a bA}(f:lI Y e z a bA):fS Y a=V (iv<|L bA):=by obtain⟨c,d⟩|⟨b,c,g⟩:=f;subst c d;rfl;grind [fS]
def ms{Y e z a bA}(c:lI Y e z a bA):eY a=V [a]:=by obtain⟨_,rfl⟩|⟨b,rfl,_⟩:=c<;>rfl
def bsI{Y z0 a e z bA K}(f:lI Y e z a bA)(c:∀Y',Fx Y Y' (aA a)->K (.l [[.l bA I I]] U U) Y'):eV (aX [z0] 1 Y [(0,a)]) K:=by obtain⟨rfl,rfl⟩|⟨b,rfl,d⟩:=f;have:aX [z0] 1 Y [(0, .l [] U U)]=V (.l [[.l [] I I]] U U,Y):=bvK;rw[this];exact c Y<|Fx.refl _ _;have:aX [z0] 1 Y [(0, .m b<|L bA)]=V (.l [[.l bA I I]] U U,kill Y b):=(by simp[aX,aly,eY,nrm,gK,eR,aTH,d,aNN,iR,kills,bsm,eN]);rw[this];exact c _<|Le d
def yI{α}(mk:α->Int->dM)(n:Nat)(Inv:Nat->α->ae->Prop):aG:=λvs Y=>∃(k:Nat) (s:α),vs=mk s k/\k<=n/\Inv k s Y
def jD{α B}(mk)(p n)(Inv){s0:α}{a}(b:Inv 0 s0 a)(h:∀(k) s Y,k<=n->Inv k s Y->B (yI mk n Inv) (gM p n) (mk s k) Y):lV (mk s0 0) a B:=⟨yI mk n Inv,gM p n,⟨0,s0,A,mh _,b⟩,by rintro vs Y ⟨k,s,rfl,d,c⟩;simp_all⟩
def dR{α mk p n k Inv}{s s':α}{Y Y'}(c:∀s i,gt (mk s i) p=iv i)(a:k<n)(b:n<4611686018427387904)(hI:Inv (k+1) s' Y'):yI mk n Inv (mk s'<|dq.wrap<|(k:Int)+1) Y'/\gM p n (mk s'<|dq.wrap<|(k:Int)+1) Y'<gM p n (mk s k) Y:=by rw[fX Z];refine⟨⟨k+1,s',A,a,hI⟩,?_⟩;grind [gM]
def r7A{a b c d e f g:AV}:aN (V 7) [a,b,c,d,e,f,g]=V (.a [a,b,c,d,e,f,g]):=rfl
def zm{e:TypeId}{z d n:Nat}{zs:dM}{Y:ae}{K:be}(f:L Y=n)(b:∀v Y',Fx Y Y' []->bK Y (d,v)->box Y' (d,v)=V ⟨e,z,U,U,[zs]⟩->K (.p (d,v) 0 0) Y')(g:L zs=z:=by exact A)(a:0<z:=by decide)(c:d<n:=by decide):eV (alA e zs Y d) K:=alI g a (f▸c) b
def Fx.kq{Y Y':ae}{ks:List Id}(h:Fx Y Y' ks){b:Id}{x:bY}(c:box Y b=V x)(a:b∉ks:=by simp):box Y' b=V x:=h.keep b x a c
def Fx.tn{Y Y' a:ae}{b:Id}(h:Fx Y Y' [])(c:Fx Y' a [b])(d:∀x,box Y b≠V x):Fx Y a []:=(h.trans c).mono (by simp only[dW,cE];rintro e rfl;exact .inr d)
def yV{B:(aG)->(bu)->aG}(n:Nat)(Inv:Nat->Unit->ae->Prop){a:ae}(b:Inv 0 () a)(h:∀(k:Nat) s Y,k<=n->Inv k s Y->B (yI (λ_ i=>[iv i]) n Inv) (gM 0 n) [iv k] Y):lV [iv 0] a B:=jD (λ_ i=>[iv i]) 0 n Inv (s0:=()) b h
def yU{n k:Nat}{Inv:Nat->Unit->ae->Prop}{Y Y':ae}(a:k<n)(hI:Inv (k+1) () Y')(b:n<4611686018427387904:=by omega):yI (λ_ i=>[iv i]) n Inv [iv<|dq.wrap<|(k:Int)+1] Y'/\gM 0 n [iv<|dq.wrap<|(k:Int)+1] Y'<gM 0 n [iv k] Y:=dR (mk:=λ_ i=>[iv i]) (s:=()) (s':=()) (λ_ _=>A) a b hI
def yW{B:(aG)->(bu)->aG}(n:Nat)(Inv:Nat->be){s0:AV}{b:ae}(c:Inv 0 s0 b)(h:∀(k:Nat) s Y,k<=n->Inv k s Y->B (yI (λa i=>[a,iv i]) n Inv) (gM 1 n) [s,iv k] Y):lV [s0,iv 0] b B:=jD (λa i=>[a,iv i]) 1 n Inv c h
def yX{n k:Nat}{Inv:Nat->be}{s s':AV}{Y Y':ae}(b:k<n)(hI:Inv (k+1) s' Y')(c:n<4611686018427387904:=by omega):yI (λa i=>[a,iv i]) n Inv [s',iv<|dq.wrap<|(k:Int)+1] Y'/\gM 1 n [s',iv<|dq.wrap<|(k:Int)+1] Y'<gM 1 n [s,iv k] Y:=dR (mk:=λa i=>[a,iv i]) (p:=1) (s:=s) (s':=s') (λ_ _=>A) b c hI
def aFm{w n}:aN J (am.c w++[n])=V (sl cA.c w.aQ.cells):=rfl
def aFu{w n}:aN J ((am.c w++[n]).drop 2)=V (sl yp.c w.aQ.bC):=rfl
def aFs{w n}:aN J ((am.c w++[n]).drop 14)=V (sl aP.c w.ac):=rfl
def aFt{w n}:aN J ((am.c w++[n]).drop 15)=V (n):=rfl
def kj:=ai @aFm<|ai @aFu<|ai @aFs<|@aFt
def aGd{w n m k o a}:aN J ((am.c w++[n,m,k,o,a]).drop 2)=V (sl yp.c w.aQ.bC):=rfl
def aGf{w n m k o a}:aN J ((am.c w++[n,m,k,o,a]).drop 4)=V (sl cs w.aQ.ay):=rfl
def aGi{w n m k o a}:aN J ((am.c w++[n,m,k,o,a]).drop 7)=V (sl cg.c w.init.eB.ak):=rfl
def aGj{w n m k o a}:aN J ((am.c w++[n,m,k,o,a]).drop 8)=V (iv w.init.eB.tx):=rfl
def aF3{w n m k o a}:aN J ((am.c w++[n,m,k,o,a]).drop 10)=V (sl aoC.c w.init.eB.ay):=rfl
def aF6{w n m k o a}:aN J ((am.c w++[n,m,k,o,a]).drop 13)=V (sl ci w.init.count):=rfl
def aF7{w n m k o a}:aN J ((am.c w++[n,m,k,o,a]).drop 14)=V (sl aP.c w.ac):=rfl
def aF8{w n m k o a}:aN J ((am.c w++[n,m,k,o,a]).drop 15)=V (n):=rfl
def aF9{w n m k o a}:aN J ((am.c w++[n,m,k,o,a]).drop 16)=V (m):=rfl
def aGa{w n m k o a}:aN J ((am.c w++[n,m,k,o,a]).drop 17)=V (k):=rfl
def aGb{w n m k o a}:aN J ((am.c w++[n,m,k,o,a]).drop 18)=V (o):=rfl
def aGc{w n m k o a}:aN J ((am.c w++[n,m,k,o,a]).drop 19)=V (a):=rfl
def rkC:=ai @aGd<|ai @aGf<|ai @aGi<|ai @aGj<|ai @aF3<|ai @aF6<|ai @aF7<|ai @aF8<|ai @aF9<|ai @aGa<|ai @aGb<|@aGc
def gQ:=ai @eS @rkC
def jT:=ai @fD @rkC
def qC(w:am)(g:cJ):Bool:=
 bif Q (g.kind=2) then qx w g
 else(dh g.ea (L w.ac)&&(dh g.eb (L w.ac)&&(dh g.ec (L w.ac)&&dh g.ed (L w.ac))))&&
  (bif Q (g.kind=1) then Ek w g else bif Q (g.kind=3) then wz w g else bif Q (g.kind=4) then tZ w g else I)
def gt1{a b l}:gt (a::b::l) 1=b:=rfl
def nr{a b c l}:gt (a::b::c::l) 2=c:=rfl
abbrev sB:Nat:=8
structure cm(Y:ae)(b:Id)(w:am)(ns:List aH8)(out:List<|eu)(n a:AV):Prop where
 bx:box Y b=V ⟨0,17,U,U,[w.c++[n,a]]⟩
 nm:∃t o,n= .l (ns.map aH8.c) t o
 gr:lI Y 25 1 a (out.map λc=>[sl ci c])
 le:L Y=4096
 sb:b.1=sB
 sa:∀k∈aA a,k.1=11
theorem cm.ne{Y b w ns out n a}(B:cm Y b w ns out n a):b∉aA a:=by obtain⟨_,rfl⟩|⟨c,rfl,h⟩:=B.gr;simp[aA];simp only[aA,cE];intro e;subst e;have:=B.bx;simp_all
theorem cm.fx{Y Y' b w ns out n a ks}(B:cm Y b w ns out n a)(c:Fx Y Y' ks)(e:b∉ks)(f:∀k∈aA a,k∉ks):cm Y' b w ns out n a:=⟨c.keep _ _ e B.bx,B.nm,B.gr.fx c f,c.len.trans B.le,B.sb,B.sa⟩
def cm.kp{Y Y' b w ns out n a}(B:cm Y b w ns out n a)(c:Fx Y Y' []):cm Y' b w ns out n a:=B.fx c O O
def dP(ns:List aH8)(x:aH8):Int:=if x∈ns then(ns.idxOf x:Int)+1 else 0
def aS2{fn xs Y d K v}(i:uQ.elem fn=U)(h:∃r c,(r= .s v/\Fx Y c [])/\cZ aS GG fn xs Y r c)(g:K (.s v) Y):cB fn xs Y d K:=by obtain⟨r,c,⟨rfl,e⟩,f⟩:=h;refine⟨_,c,f,e.len,?_⟩;rw[zg<|show GG.rd fn=U from i];exact⟨e.kp,A,g⟩
def bvL{fn xs Y d z e bA K}(u:uQ.elem fn=U)(h:∃r f,(lI f e z r bA/\Fx Y f []/\∀b∈aA r,bK Y b)/\cZ aS GG fn xs Y r f)(k:∀t,K (.l bA t U) Y):cB fn xs Y d K:=by obtain⟨r,f,⟨g,i,s⟩,q⟩:=h;refine⟨_,f,q,i.len,?_⟩;rw[zg<|show GG.rd fn=U from u];obtain⟨rfl,rfl⟩|⟨b,rfl,j⟩:=g;exact⟨i.kp,A,k U⟩;have o:eR f (.m b<|L bA)= .l bA I U:=(by simp[eR,aTH,j]);rw[o];refine⟨?_,A,k I⟩;have p:kills f (aNN<|.m b<|L bA)=kill f b:=(by simp[kills,aNN,iR,j]);rw[p];exact((i.trans<|Le j).mono (ks':=[])<|by simp only[dW,cE];rintro c rfl;exact .inr (s c aBY).no).kp
section
variable{Y:ae}{b:Id}{w:am}{ns:List aH8}{out:List (eu)}{n a:AV}{d:Nat}{K:be}
def lX{i:Int}{K t o}:rV (cz 3 Y (.l (ns.map aH8.c) t o)<|iv i) K=(aF (L ns) i/\K (.q<|aH8.c<|gd ns i.toNat)):=aBz (Y:=Y) (f:=aH8.c) λ_=>A
def bhO{b i j x}(h:box Y b=V x):cO Y (.p b i j)=V (.p b i j):=by simp[cO,h]
def aR(ns:List aH8)(kd:Int):List aH8:=ns.filter λx=>Q<|x.kind=kd
theorem Qg{ns}{kd:Int}{k:Nat}(h:k<L ns):aR (ns.take<|k+1) kd=aR (ns.take k) kd++(if(gd ns k).kind=kd then[gd ns k] else[]):=by grind [iJ,aR,aNV]
def uT{l:List aH8}:∀r∈l.map aH8.c,L r=3:=λr e=>by obtain⟨x,_,rfl⟩:=dN.1 e;rfl
def Db{x}:aX EJ 1 Y [(0, .a<|aH8.c x)]=V (.l ([x].map aH8.c) U U,Y):=ua A rfl rfl H A H
end
structure Ad(Y Y1:ae)(b:Id)(a a1:AV):Prop where
 fx:Fx Y Y1 (b::aA a)
 id:∀k∈aA a1,k∈aA a\/bK Y k
theorem Ad.refl(Y)(b)(a):Ad Y Y b a a:=⟨Fx.refl _ _,λk c=> .inl c⟩
theorem Ad.trans{Y e f b a a1 g}(h:Ad Y e b a a1)(i:Ad e f b a1 g):Ad Y f b a g:=by refine⟨(h.fx.trans i.fx).mono ?_,λk j=>?_⟩;grind [Ad.id,bK.no];obtain c|c:=i.id k j;exact h.id k c;exact .inr<|c.old h.fx
theorem Ad.fxn{Y c e b a a1}(h:Ad Y c b a a1)(f:Fx c e []):Ad Y e b a a1:=⟨(h.fx.trans f).mono vB,h.id⟩
theorem Ad.pre{Y c e b a a1}(f:Fx Y c [])(h:Ad c e b a a1):Ad Y e b a a1:=⟨f.trans h.fx,by grind [bK.old,Ad.id]⟩
theorem Ad.keep{Y e b a a1}(h:Ad Y e b a a1){c x}(i:box Y c=V x)(f:c≠b)(g:c∉aA a):box e c=V x:=h.fx.keep c x (by simp[f,g]) i
def cm.nv{Y b w ns out n a}(B:cm Y b w ns out n a){c x}(f:box Y c=V x)(g:x.var=U\/x.elem≠25):c∉aA a:=by obtain⟨_,rfl⟩|⟨e,rfl,h⟩:=B.gr;simp[aA];grind [aA]
section
variable{Y:ae}{b:Id}{w:am}{ns:List aH8}{out:List (eu)}{n a:AV}{d:Nat}{K:be}
def a5Y{x}:aX bH 1 Y [(0,iv x)]=V (.l ([x].map ci) U U,Y):=iz
def fi{x y}:aX bH 2 Y [(0,iv x),(1,iv y)]=V (.l ([x,y].map ci) U U,Y):=by simp[aX,aly,eY,nrm,gK,eR,aTH,aNN,iR,kills,bsm,eN,er,bH];rfl
def xA{x y z}:aX bH 3 Y [(0,iv x),(1,iv y),(2,iv z)]=V (.l ([x,y,z].map ci) U U,Y):=by simp[aX,aly,eY,nrm,gK,eR,aTH,aNN,iR,kills,bsm,eN,er,bH];rfl
def vR{x y z u}:aX bH 4 Y [(0,iv x),(1,iv y),(2,iv z),(3,iv u)]=V (.l ([x,y,z,u].map ci) U U,Y):=by simp[aX,aly,eY,nrm,gK,eR,aTH,aNN,iR,kills,bsm,eN,er,bH];rfl
end
theorem aEn{x}:cR .neg (iv x)=V (iv<|dq.wrap<|-x):=by simp[cR]
theorem a6z{α:Type}{f:Nat->List α}{k}:(aH<|k+1).flatMap f=(aH k).flatMap f++f k:=by rw[qn,GC];simp
def fU{α:Type}{f:Nat->List α}{k n:Nat}(h:k<=n):L ((aH k).flatMap f)<=L ((aH n).flatMap f):=by induction n with|zero=>simp_all|succ n c=>grind [a6z]
structure bp where
 aq:Int
 dD:Int
 dY:Int
 read:Bool
 deriving Inhabited,DecidableEq
def bp.c(x:bp):dM:=[iv x.aq,iv x.dD,iv x.dY,bv x.read]
def lK(w:aOw)(lock:Int)(e:aP):Int:=bif Q (lock=L w.ak) then(bif Q (e.kind=12) then lock else-1) else(dD w e).1
def mM(w:aOw)(lock:Int)(e:aP):Int:=bif Q (lock=L w.ak) then(bif Q (e.kind=13) then lock else-1) else(dY w e).1
def pK(s:aW)(lock:Int)(u j:Nat):List bp:=(((gd s.ak lock.toNat).bk.take j).filter λx:Int=>Q<|x=(u:Int)).map λ_=>⟨u,-1,-1,U⟩
def pJ(s:aW)(lock:Int)(u:Nat):List bp:=if(gd s.ak lock.toNat).aPo=u then[⟨u,-1,-1,I⟩] else[]
def btS(w:aOw)(s:aW)(lock:Int)(u:Nat):List bp:=
 if lock=L w.ak then(if s.tx=u then[⟨u,-1,-1,I⟩] else[]) else pJ s lock u++pK s lock u (L (gd s.ak lock.toNat).bk)
def ma(t i:Int)(x:bp):bp:=if x.aq=t/\x.dY<0 then{x with dY:=i} else x
def tv(w:aOw)(lock:Int)(e:aP)(i:Int)(l:List bp):List bp:=if mM w lock e=lock then l.map (ma e.aq i) else l
def oY(w:aOw)(lock:Int)(e:aP)(i:Int):List bp:=if lK w lock e=lock then[⟨e.aq,i,-1,(dD w e).2⟩] else[]
def dZ(w:aOw)(s:aW)(l:List aP)(lock:Int):Nat->List bp|0=>(aH<|L s.ay).flatMap (btS w s lock)|k+1=>tv w lock (gd l k) k (dZ w s l lock k)++oY w lock (gd l k) k
def jE(w:aOw)(s:aW)(l:List aP)(lock:Int):List bp:=dZ w s l lock<|L l
def nC{l:List bp}:∀r∈l.map bp.c,L r=4:=λr e=>by obtain⟨x,_,rfl⟩:=dN.1 e;rfl
theorem wL{Y b e}{z i j:Nat}{bA r v K}(c:box Y b=V ⟨e,z,U,I,bA⟩)(h:bA[i]?=V r)(k:j<L r)(g:∀Y',Fx Y Y' [b]->box Y' b=V ⟨e,z,U,I,bA.set i<|r.set j<|.s v⟩->K Y'):sV (aK 1 Y (.p b i j)<|.s v) K:=by have f:aK 1 Y (.p b i j) (.s v)=V (wr Y b ⟨e,z,U,I,bA.set i<|r.set j<|.s v⟩):=(by simp only[aK,aBG,c,eE,btd,aNN,iR,kills,aRl,pW,eR,aTH,nrm,gK,eY,h,bZ,bhZ];grind [eN,GP]);rw[f];exact g _ (wc c)<|lO c
def ixI{Y e}{z:Nat}{a bA K}{i:Int}(h:lI Y e z a bA)(c:aF (L bA) i)(j:∀b,a= .m b (L bA)->box Y b=V ⟨e,z,U,I,bA⟩->K (.p b i.toNat 0)):rV (cz z Y a<|iv i) K:=by obtain⟨rfl,rfl⟩|⟨b,rfl,f⟩:=h;have:=c.1;have:=c.2;grind;have g:i.toNat<L bA:=(be7 c.1 c.2);simp only[cz,c.1,a6F,f,a6X,g,aNR];exact j b A f
theorem Ln{s}{lock:Int}{u j:Nat}:L (pK s lock u j)<=j:=by grind [pK]
def brS{α:Type}{f:Nat->List α}{c:Nat}(h:∀k,L (f k)<=c):∀n,L ((aH n).flatMap f)<=n*c
 |0=>O
 |n+1=>by
  have:=brS h n
  grind [a6z]
abbrev lB(ns:List aH8)(x y:Int):Int:=dP ns ⟨1,x,y⟩
abbrev lE(ns:List aH8)(x:Int):Int:=dP ns ⟨2,x,0⟩
abbrev lF(ns:List aH8)(x:Int):Int:=dP ns ⟨3,x,0⟩
def aDc{ns x}:0<=dP ns x/\dP ns x<=L ns:=by grind [dP]
def de{ns x}(c:L ns<100000):cR .neg (iv<|dP ns x)=V (iv<|-dP ns x):=by have:=aDc (ns:=ns) (x:=x);grind [aEn,eM]
def AI{α B}(mk)(p n c)(f:c<=n)(Inv){s0:α}{e}(g:Inv c s0 e)(h:∀(k) s Y,k<=n->Inv k s Y->B (yI mk n Inv) (gM p n) (mk s k) Y):lV (mk s0 c) e B:=⟨yI mk n Inv,gM p n,⟨c,s0,A,f,g⟩,by rintro vs Y ⟨k,s,rfl,j,i⟩;simp_all⟩
theorem aol{α:Type}{f:Nat->List α}{k}(h:∀j,j<k->f j=[]):(aH k).flatMap f=[]:=vB
section
variable{Y:ae}{b:Id}{w:am}{ns:List aH8}{out:List (eu)}{n a:AV}{d:Nat}{K:be}
def nG(ns l:List aH8)(y x:Int):eu:=(l.filter λv=>Q (v.b=y)&&Q (v.a≠x)).map<|dP ns
def fF{l:eu}:∀r∈l.map ci,L r=1:=O
def lL(ns:List aH8):List bqR:=(aR ns 1).map λx=>⟨x.a,x.b,-1⟩
end
def my(ns:List aH8)(x y:Nat):List (eu):=if x<y then[[lB ns x y,lB ns y x]] else[]
def jy(ns:List aH8)(n x:Nat):List (eu):=(aH n).flatMap<|my ns x
def kY(ns:List aH8)(w:am)(y:Nat):List (eu):=if 0<=bs3 w.ac y then[[lB ns (bs3 w.ac y) y],[-lE ns y,lE ns<|bs3 w.ac y]] else[]
def mA(ns:List aH8)(w:am)(j:Nat):List (eu):=if 0<=kr w j then[[-lE ns j,lE ns<|kr w j],[-lE ns j,lB ns (kr w j) j]] else[]
def btr(ns:List aH8)(w:am):List (eu):=(aH<|L w.ac).flatMap (jy ns<|L w.ac)++((aH<|L w.ac).flatMap (kY ns w)++(aH<|L w.ac).flatMap (mA ns w))
section
variable{Y:ae}{b:Id}{w:am}{ns:List aH8}{out:List (eu)}{n a:AV}{d:Nat}{K:be}
def jc(ns:List aH8)(w:am)(x:Int):List (eu):=[-lE ns x]::(if 0<=bs3 w.ac x then[[lE ns<|bs3 w.ac x]] else[])
def jI(ns:List aH8)(e f c:Int):List (eu):=
 if f<0 then[[-lE ns e,-lE ns c,-lB ns e c]] else[[-lE ns e,-lE ns c,-lB ns e c,lE ns f],[-lE ns e,-lE ns c,-lB ns e c,lB ns f c]]
end
structure WV(w:am):Prop where
 ok:kB w
 dp:∀k,k<L w.ac->L (gd w.ac k).dI<10000/\L (gd w.ac k).ep<10000
 th:∀k,k<L w.ac->aF (L w.init.count) (gd w.ac k).aq/\aF (L w.init.eB.ay) (gd w.ac k).aq
 ct:∀u:Int,aF (L w.init.count) u->0<=gd w.init.count u.toNat/\gd w.init.count u.toNat<=100000
 ts:L w.init.eB.ay<=4
 lk:L w.init.eB.ak=L w.aQ.ak/\L w.aQ.ak<=4
 rd:∀l∈w.init.eB.ak,L l.bk<=100
section
variable{Y:ae}{b:Id}{w:am}{ns:List aH8}{out:List (eu)}{n a:AV}{d:Nat}{K:be}
def pC(ns:List aH8)(l:eu)(k:Nat):List (eu):=[[lF ns<|gd l k]]
def jK(ns:List aH8)(w:am)(x:Int):List (eu):=jc ns w x++(aH<|L<|fg w (gd w.ac x.toNat).aq (gd w.ac x.toNat).dI).flatMap (pC ns<|fg w (gd w.ac x.toNat).aq (gd w.ac x.toNat).dI)
def iA(ns:List aH8)(p q:bp):List (eu):=
 if p.aq=q.aq\/(p.read=U/\q.read=U)\/q.dD<0 then[]
 else if p.dD<0 then[[-lE ns q.dD,lE ns p.dY],[-lE ns q.dD,lB ns p.dY q.dD]]
 else jI ns p.dD p.dY q.dD++jI ns q.dD q.dY p.dD
def mw(ns:List aH8)(s:List bp)(i:Nat):List (eu):=(aH<|L<|s.drop<|i+1).flatMap λj=>iA ns (gd s i)<|gd (s.drop<|i+1) j
def rL(ns:List aH8)(s:List bp):List (eu):=(aH<|L s).flatMap<|mw ns s
def pE(ns:List aH8)(w:am)(k:Nat):List (eu):=rL ns<|jE w.aQ w.init.eB w.ac k
def oH(ns:List aH8)(w:am):List (eu):=(aH<|L w.aQ.ak+1).flatMap<|pE ns w
theorem axk{p q}:L (iA ns p q)<=4:=by grind [iA,jI]
def AG{l}{i:Int}{K t o}:rV (cz 4 Y (.l (l.map bp.c) t o)<|iv i) K=(aF (L l) i/\K (.q<|bp.c<|gd l i.toNat)):=aBz (Y:=Y) (f:=bp.c) λ_=>A
theorem slT{α:Type}{f}{l:List α}{z:Nat}{i:Int}{K t o}(e:∀x,L (f x)=z):rV (fo z Y (.l (l.map f) t o) (V<|iv i) J J) K=((0<=i/\i<=L l)/\K (.l ((l.drop i.toNat).map f) t o)):=by simp only[fo,lM];by_cases c:0<=i;simp only[c,a6F,qY,sD,mi,bJ,dA,Cq];grind [rV,GK,oB];simp[c,rV]
def slS{l:List bp}{i:Int}{K t o}:rV (fo 4 Y (.l (l.map bp.c) t o) (V<|iv i) J J) K=((0<=i/\i<=L l)/\K (.l ((l.drop i.toNat).map bp.c) t o)):=slT λ_=>A
def aoj{x}:aN J (bp.c x)=V (iv x.aq):=rfl
def En{x}:aN J ((bp.c x).drop 1)=V (iv x.dD):=rfl
def aok{x}:aN J ((bp.c x).drop 3)=V (bv x.read):=rfl
def Bj{x}:aN (V 4) (bp.c x)=V (.a<|bp.c x):=rfl
def D2{x}:sA (V 4) Y (.q<|bp.c x)=V (.a<|bp.c x):=rfl
end
def bvr{B}{e:(aG)->Prop}(Q:aG)(f:∀c,(∀vs Y',Q vs Y'->c vs Y')->e c)(g:∀vs Y',Q vs Y'->B vs Y'):e B:=f B g
def gA(Y:ae)(e:TypeId)(z:Nat)(a:AV)(bA:List<|dM):Prop:=(∃o,a= .l bA U o)\/∃b,a= .m b (L bA)/\box Y b=V ⟨e,z,U,I,bA⟩
theorem gA.fx{Y Y' ks e z a bA}(g:gA Y e z a bA)(f:Fx Y Y' ks)(i:∀b∈aA a,b∉ks):gA Y' e z a bA:=by obtain h|⟨b,rfl,c⟩:=g;exact .inl h;exact .inr ⟨b,A,f.keep b _ (i b aBY) c⟩
def ali{Y e x l}(h:gA Y e 1 x<|l.map ci):dG Y x=sl ci l:=by obtain⟨o,rfl⟩|⟨b,rfl,c⟩:=h;rfl;simp[dG,eR,aTH,c,nrm,gK,sl,oB]
section
variable{Y:ae}{b:Id}{w:am}{ns:List aH8}{out:List (eu)}{n a:AV}{d:Nat}{K:be}
abbrev lS(ns:List aH8)(r s:Int):Int:=dP ns ⟨4,r,s⟩
def btg(ns:List aH8)(w:am)(r:Nat)(s:Int)(x:Nat):List (eu):=
 if(x:Int)=s\/aTG (gd w.ac x) (gd w.ac r)=I then[] else if 0<=s then[[-lS ns r s,-lE ns x,lB ns x s,lB ns r x]] else[[-lS ns r s,-lE ns x,lB ns r x]]
def pD(ns:List aH8)(r:Nat)(s:Int)(l:eu)(j:Nat):List (eu):=[[-lS ns r s,lF ns<|gd l j]]
def btR(ns:List aH8)(w:am)(r:Nat)(s:Int):List (eu):=
 if 0<=s then[[-lS ns r s,lE ns s],[-lS ns r s,lB ns s r]]++(aH<|L<|fg w (gd w.ac s.toNat).aq (gd w.ac s.toNat).ep).flatMap (pD ns r s<|fg w (gd w.ac s.toNat).aq (gd w.ac s.toNat).ep) else[]
def iP(ns:List aH8)(w:am)(r:Nat)(s:Int):List (eu):=btR ns w r s++(aH<|L w.ac).flatMap (btg ns w r s)
def bsS(ns:List aH8)(w:am)(r:Nat):List (eu):=
 if fR (gd w.ac r)=U then[[-lF ns r,lE ns r],-lF ns r::(dx w r).map (lS ns r)]++(aH<|L<|dx w r).flatMap (λj=>iP ns w r<|gd (dx w r) j) else[]
def qv(ns:List aH8)(i:Nat)(l:eu)(j:Nat):List (eu):=[[-lE ns i,lF ns<|gd l j]]
def kX(ns:List aH8)(w:am)(i:Nat):List (eu):=(aH<|L<|fg w (gd w.ac i).aq (gd w.ac i).dI).flatMap<|qv ns i<|fg w (gd w.ac i).aq (gd w.ac i).dI
def rJ(ns:List aH8)(w:am):List (eu):=(aH<|L w.ac).flatMap (bsS ns w)++(aH<|L w.ac).flatMap (kX ns w)
end
section
variable{Y:ae}{b:Id}{w:am}{ns:List aH8}{out:List (eu)}{n a:AV}{d:Nat}{K:be}
theorem ama{ns l}:∀m,L ((aH m).flatMap<|pC ns l)=m
 |0=>rfl
 |m+1=>by rw[a6z,a6G,ama m];rfl
theorem zW(W:WV w)(hI:∀u l,L (fg w u l)<=L l){x:Int}(c:aF (L w.ac) x):L (jK ns w x)<=10010:=by have e:x.toNat<L w.ac:=(be7 c.1 c.2);have:=(W.dp _ e).1;grind [jc,jK,ama]
def btQ(ns:List aH8)(w:am)(e:Int):List (eu):=jc ns w e++(if(gd w.ac e.toNat).kind=17/\(brz w e).2=U then[nG ns (aR ns 5) (brz w e).1<|-1] else[])
def jJ(ns:List aH8)(c:Int)(e:Nat):List (eu):=if(e:Int)≠c then[[-lE ns e,lB ns e c]] else[]
def bt5(ns:List aH8)(c:Int)(x:aH8):List (eu):=if x.a=c then[[-dP ns x]] else[]
def jx(ns:List aH8)(w:am)(g:cJ):List (eu):=
 if g.kind=1 then jK ns w g.ea++jK ns w g.eb
 else if g.kind=2 then(aH<|L g.cW).flatMap λk=>btQ ns w<|gd g.cW k
 else if g.kind=3 then[[lE ns g.ea],[lE ns g.eb],[lB ns g.ea g.eb]]++(aH<|L w.ac).flatMap (jJ ns g.eb)++(aH<|L<|aR ns 5).flatMap λj=>bt5 ns g.ea<|gd (aR ns 5) j
 else if g.kind=4 then[[lE ns g.ea],[lE ns g.ed],[lB ns g.ea g.ec]]++jK ns w g.eb
 else[]
end
def iW(ns:List aH8)(x:aH8):List (eu):=[[-dP ns x,lE ns x.a]]++(if 0<=x.b then[[-dP ns x,lE ns x.b],[-dP ns x,lB ns x.b x.a]] else[])
def ju(ns:List aH8)(x y:aH8):List (eu):=if x.b=y.b then[[-dP ns x,-dP ns y]] else[]
def lP(ns l:List aH8)(i:Nat):List (eu):=(aH<|L<|l.drop<|i+1).flatMap λj=>ju ns (gd l i)<|gd (l.drop<|i+1) j
def jk(ns:List aH8)(w:am)(x y:aH8):List (eu):=if x.a=y.a/\(gd w.ac x.a.toNat).kind=18 then[[-dP ns x,-dP ns y]] else[]
def lQ(ns:List aH8)(w:am)(l:List aH8)(i:Nat):List (eu):=(aH<|L<|l.drop<|i+1).flatMap λj=>jk ns w (gd l i)<|gd (l.drop<|i+1) j
def Pj(w)(g)(b:kB w/\L g.cW<4611686018427387904):Ct 72 [.a w.c, .a g.c] (·=bv (qC w g)):=aLP A rfl λk j d e i=>by have f:=b.1;have h:=b.2;simp+contextual only[ie,fsL,d,e,dc,f,h,qC,aRa,bih,↓uL];grind [dX]
def FO:FT:=aIc Pj
def ay8:=gX FO Pj
def bnu:dO:=(72,FO)::ao2
def bh1:eJ bnu:=asq (aCb Pj)<|wQ
def boM:=ai @ay8<|@fsL
def avd:=I9 11 [(3,([6],[0,5]))]
def aMG{a}:=y0 bh1 func277 avd [a]
def aJ1{a a1}:=y0 bh1 func223 at1 [a,a1]
def asx:=I9 29 [(4,([4,5],[0])),(20,([52],[0,4,5,6,51]))]
def aJY{a}:=y0 bh1 func140 asx [a]
def asz:=I9 18 [(4,([3,4,10],[1,8,9])),(12,([3,4],[1,6,8,9,10]))]
def aJ0{c0}:=y1 34 6 1 bh1 func143 asz c0 [.a c0]
def aLb{a a1}:=y0 bh1 func224 at1 [a,a1]
def aLa{c0 a1}:=y1 69 3 2 bh1 func282 at1 c0 [.a c0,a1]
def avj:=I9 13 [(4,([3,10],[1,8,9]))]
def aMO{c0}:=y1 45 15 1 bh1 func80 avj c0 [.a c0]
def avp:=I9 26 [(3,([11],[1,9,10])),(6,([],[1,9,10,11]))]
def aMU{c0}:=y1 45 15 1 bh1 func81 avp c0 [.a c0]
def avm:=I9 11 [(3,([9],[1,7,8]))]
def aMR{c0}:=y1 42 7 1 bh1 func83 avm c0 [.a c0]
def au9:=I9 11 [(3,([8],[0,1,7]))]
def aMC{a a1}:=y0 bh1 func199 au9 [a,a1]
def aKC{c0}:=y1 71 7 1 bh1 func168 at1 c0 [.a c0]
def aKB{c0}:=y1 71 7 1 bh1 func170 at1 c0 [.a c0]
def aKF{c0 a1 b}:=y1 45 15 3 bh1 func171 auM c0 [.a c0,a1,b]
def aKH{c0}:=y1 71 7 1 bh1 func283 at1 c0 [.a c0]
def atr:=I9 10 [(3,([4],[]))]
def aKS{a}:=y0 bh1 func284 atr [a]
def aML{c0 b}:=y2 34 6 2 71 7 3 bh1 func227 auF c0 b [.a c0, .a b]
def ald:=I9 24 [(5,([52],[4,5,8,51])),(15,([11,67],[4,5,8,51,52,65,66]))]
def JY c b a d R:=(.mk _:NR bnu ald Tryz.f228 [.u, .u, .u] [c,b,a] d R).p
def aMJ{c0:dM}{b:dM}{c:dM}{R:J3}(l0:L c0=6)(l1:L b=7)(d:L c=7)(h:H3 34 6 3 c0 42 7 4 b 71 7 5 c λf g i e=>JY f g i e R):Ct 228 [.a c0, .a b, .a c] R:=z3 ald bh1 func228 l0 l1 d h
def avh:=I9 36 [(9,([46],[2,3,13])),(16,([5,6,55],[3,53,54])),(19,([5,6],[3,53,54,55])),(28,([9,96],[3,94,95])),(31,([9],[3,94,95,96]))]
def aMM{c0 b}:=y2 42 7 2 71 7 3 bh1 func229 avh c0 b [.a c0, .a b]
def aC4{Y}:sA (V 22) Y (.q pI)=V (.a pI):=a7c
def avT{k:Nat}(h:k<22):sI 22 1 J (.a pI) (iv k)=V (st<|gd ik k):=by have:pI[k]?=V (st<|gd ik k):=(by have:k<L ik:=h;grind [aNV,eC]);grind [sI,yy]
def brJ(s):Ct 277 [st s] (·=bv (rZ s)):=aMG λs0 _ d=>by simp only[aC4,aY];refine bid 22 (λk=>∀j,j<k->gd ik j≠s) O λk g b=>?_;simp only[qz 19,eQ];constructor<;>intro h;have a:k<22:=X;rw[avT a];simp only[eQ];refine⟨λe=>?_,by grind [bkg]⟩;have:rZ s=U:=(by rw[rZ,tL];exact⟨gd ik k,dB (l:=ik) a,vB⟩);rw[this];have a:k=22:=X;have:rZ s=I:=(by rw[rZ,bnI];intro x c;have:=(px (l:=ik) (p:=λx=>x≠s)).1 (λj f=>b j<|by rwa [a]) x c;simp_all);rw[this]
def Gg:FT:=lH brJ
def azB:=np Gg brJ
def NM(i n):Ct 223 [iv i,iv n] (·=bv (dh i n)):=aJ1 λs0 b a=>by simp+contextual only[eQ,dh]
def EZ:FT:=bsk NM
def axZ:=f200 EZ NM
def OA(i n):Ct 224 [iv i,iv n] (·=bv (dh i n)):=aLb λs0 b a=>by simp+contextual only[eQ,dh]
def ry:FT:=bsk OA
def ayx:=f200 ry OA
def Oz(t:aoC)(c):Ct 282 [.a t.c,iv c] (·=bv (Q (t.cQ=3)&&Q (t.cond=c))):=aLa A λs0 e b d=>by simp+contextual only[eT,b]
def BV:FT:=bsk Oz
def ayw:=f200 BV Oz
def bwn(e):Ct 168 [.a e.c] (·=bv (fR e)):=aKC A λs0 f b d=>by simp+contextual only[eT,b,fR]
def brV:FT:=lH bwn
def ax5:=np brV bwn
def NQ(e):Ct 170 [.a e.c] (·=bv (pN e)):=aKB A λs0 f b d=>by simp+contextual only[eT,b,pN]
def aTR:FT:=lH NQ
def ax4:=np aTR NQ
def NW(e):Ct 283 [.a e.c] (·=bv (tT e)):=aKH A λs0 f b d=>by simp+contextual only[eT,b,tT]
def BR:FT:=lH NW
def ax9:=np BR NW
def wtK(k:Int):Bool:=Q (k=6)||(Q (k=8)||(Q (k=10)||(Q (k=17)||Q (k=21))))
def Oi(k):Ct 284 [iv k] (·=bv (wtK k)):=aKS λs0 b a=>by simp only[bh0,qz 23,iM,aY,sw];simp only[qz 21,aI,au];simp+contextual only[↓iS,u1,wtK,FA,aNR]
def Fh:FT:=lH Oi
def ayj:=np Fh Oi
def PU(w)(e):Ct 227 [.a w.c, .a e.c] (·=bv (!tA w e)):=aML A rfl λs0 i b d g=>by simp+contextual only[fD,b,d,tA,aRa,bih];refine⟨λh=>?_,λh=>⟨λf=>dX.1 f,?_⟩⟩;simp;simp[dh,BI]
def Gl:FT:=bsk PU
def azG:=f200 Gl PU
def oW(l:eu)(n:Int):Int:=match l.findIdx? (λx=>Q<|x=n) with|some i=>i|none=> -1
theorem anR{l}{n:Int}{k:Nat}(b:k<L l)(h:∀j,j<k->gd l j≠n)(a:gd l k=n):oW l n=k:=by have:l.findIdx? (λx=>Q<|x=n)=V k:=(by grind [RL,aNV]);rw[oW,this]
theorem anS{l}{n:Int}(h:∀j,j<L l->gd l j≠n):oW l n= -1:=by have:l.findIdx? (λx=>Q<|x=n)=J:=(by rw[GB];intro x a;have:=(px (p:=λx=>x≠n)).1 h x a;simp_all);rw[oW,this]
def PO(l)(n:Int)(e:L l<4611686018427387904):Ct 199 [sl ci l,iv n] (·=iv (oW l n)):=aMC λs0 _ a=>by simp only[cT,aY];refine bid (L l) (λk=>∀j,j<k->gd l j≠n) O λk d c=>?_;simp only[qz 19,gJ,bh];refine⟨λh=>⟨vp h,λb=>?_,btA⟩,λh=>?_⟩;grind [anR,aL];grind [anS,bpL,dge]
def bwZ:FT:=aIc PO
def bza:=gX bwZ PO
def PX(w)(o:L w.ac<1000000/\L w.init.count<1000000):Ct 80 [.a w.c] (·=bv (rM w)):=aMO A λp n d m=>by simp only[eT,d,dc];refine yh (λs:Int×Nat=>[iv s.1,iv s.2]) 1 (L w.init.count) (λs=>s.2<=L w.init.count/\s.1=bhL w.init.count s.2/\∀j,j<s.2->0<=gd w.init.count j/\gd w.init.count j<=400) (0,0) (by grind [bhL]) ?_;rintro⟨g,i⟩ ⟨e,k,b⟩;simp only at e k b;simp+contextual only[qz 25,fD,d,bh];have:=aoN b e;have:i<L w.init.count->(Q (gd w.init.count i<0)||Q (400<gd w.init.count i))=U->rM w=I:=(by grind [dB,rM]);refine⟨λh=>⟨vp h,vB,λf=>?_⟩,λh=>?_⟩;have:=aL h;simp only[cP,aPs,aqC] at f;refine wN (enc:=λs:Int×Nat=>[iv s.1,iv s.2]) (s:=(g,i)) (s':=(g+gd w.init.count i,i+1)) (i:=i) ?_ A rfl (aL h) ⟨aL h,?_,a6p b f⟩;grind [fX,eM];grind [Ra,aL];have l:i=L w.init.count:=X;have:bhL w.init.count i=w.init.count.sum:=(by rw[l,bhL,gV]);have:∀c∈w.init.count,0<=c/\c<=400:=px.1 vB;grind [eM,rM,decide_eq_true]
def aUv:FT:=mT PX
def azJ:=oK aUv PX
def aXJ(s:aTo)(h:(∀j,j<L s.bU->L s.eB.done=L s.bU/\(gd s.eB.done j=I->gd s.bU j=0))/\L s.bU=L s.eB.done/\L s.bU<1000000):Ct 83 [.a s.c] (·=bv U):=aMR A λs0 g b d=>by simp+contextual only[eT,b];refine bid (L s.eB.done) (λk=>True) trivial λk f e=>?_;simp+contextual only[qz 19,fD,b,bh];grind [dJ,aL,bkg,eH,absurd]
def Gs:FT:=mT aXJ
def azM:=oK Gs aXJ
def bkb{p:Prop}(h:p:=by grind [Go.Ab.Fx.len,Go.Ab.Fr,Go.Ab.Kp.len]):p:=h
def Qb(w)(r:uZ w=U/\(∀j,j<L w.init.eB.ay->pX w j=U)/\L w.init.count=L w.init.eB.ay/\L w.init.eB.ay<1000000/\L w.init.eB.ak=L w.aQ.ak/\(∀c∈w.aQ.bC,aF (L w.aQ.ak) c.eg)):Ct 81 [.a w.c] (·=bv U):=by obtain⟨p1,s,y,z,B,C⟩:=r;refine aMU A λs0 x f t=>?_;simp+contextual only[eT,f,dc];refine pQ (L w.init.eB.ay) [4] (λk=>True) trivial λk Y v u p=>?_;have n:=p.bt f;simp+contextual only[qz 19,di,qz 41,qy 4,gJ,bh];refine⟨λh=>⟨vp h,?_⟩,λh=>trivial⟩;refine eF A rfl H bkb λe l m=>?_;have o:=l.bt n;have nx:fI s0 [4] (L w.init.eB.ay) (λ_=>True) [iv<|dq.wrap<|(k:Int)+1] e/\fM (L w.init.eB.ay) [iv<|dq.wrap<|(k:Int)+1] e<fM (L w.init.eB.ay) [iv k] Y:=(by grind [oL,aL,Fr.trans]);have hs:=aNQ p1 k<|aL h;have d:=s k<|aL h;simp only[aOK,Eu,zX,bN,eH] at hs;simp only[pX,bN,eH] at d;simp+contextual only[qz 39,qz 6,↓iS,fD,o,m,bh,dc];simp only[cP] at hs d;obtain⟨⟨⟨⟨D,E⟩,F⟩,G⟩,K,M⟩:=hs;obtain⟨_,N⟩:=d;refine⟨λq=>?_,λq=>⟨by grind [dJ,aL],λg=>?_,λg=>⟨λi=>⟨λb=>?_,λ_=>nx⟩,λi=>⟨λb=>?_,λb=>?_⟩⟩⟩⟩;grind;simp_all;simp_all;grind [decide,gd,dh];grind [decide,gd,aF,dX,ii]
def Gu:FT:=mT Qb
def azO:=oK Gu Qb
def brb{x y}:tY [bv I,bv I] 1 [(0,bv x),(1,bv y)]=V (.a [bv x,bv y]):=rfl
def brl{x y}:tY [.l [] U U, .l [] U U] 1 [(0,sl ci x),(1,sl ci y)]=V (.a [sl ci x,sl ci y]):=rfl
def ax2{a b}{k:Nat}(h:k<2):sI 2 1 J (.a [sl ci a,sl ci b]) (iv k)=V (sl ci<|if k=0 then a else b):=by match k,h with|0,_=>rfl|1,_=>rfl
def ia2{Y b x}{k:Nat}(a:box Y b=V x)(h:k<2):wm 2 1 Y (.p b 0 0) (iv k)=V (.p b 0 k):=by grind [wm]
def ld2{x y k}(h:k<2):aN J ([bv x,bv y].drop k)=V (bv<|if k=0 then x else y):=by match k,h with|0,_=>rfl|1,_=>rfl
def PS(w)(s:aTo)(e)(y:yM w e=I/\yN e=I/\lZ e.dI (gd s.count e.aq.toNat)/\lZ e.ep (gd s.count e.aq.toNat)/\aF (L s.count) e.aq/\(e.kind=3\/e.kind=4->aF (L w.cells) e.eI)/\vo e):Ct 228 [.a w.c, .a s.c, .a e.c] (·=bv U):=by obtain⟨p1,G,K,M,z,N,r⟩:=y;refine aMJ A rfl rfl λs0 E m t n C=>?_;simp+contextual only[JY,qy 8,fD,m,n,brb];refine⟨vB,?_⟩;refine eF A rfl H Z λY F o=>?_;have:=F.bt m;have u:=F.bt t;have p:=F.bt n;simp+contextual only[qz 10,eT,p,brl];refine bid 2 (λ_=>True) trivial λk D _=>?_;simp+contextual only[qz 31,au,eQ];refine⟨λh=>?_,λh=>trivial⟩;have g:k<2:=X;rw[ax2 g];have v:lZ (if k=0 then e.dI else e.ep) (gd s.count e.aq.toNat):=X;have:L (if k=0 then e.dI else e.ep)<4611686018427387904:=(by split;exact r.1;exact r.2);have:∀a b:Bool,a=(Q (e.kind=5)||(Q (e.kind=3)||Q (e.kind=4))&&Q ((gd w.cells e.eI.toNat).size≠0))->b=(Q (e.kind=4)||Q (e.kind=22))->(Q ((0:Int)<L (if k=0 then e.dI else e.ep))&&!(if k=0 then a else b))=I:=(by grind [yM,yN]);generalize(if k=0 then e.dI else e.ep)=l at*;simp+contextual only[eQ,ia2 o g,o,ld2 g];refine⟨λq=>?_,λ_=>?_⟩;grind;refine yh (λa:Int×Nat=>[iv a.1,iv a.2]) 1 (L l) (λa=>a.2<=L l/\a.1=if a.2=0 then 0 else gd l (a.2-1)) (0,0) ⟨O,O⟩ ?_;rintro⟨B,i⟩ ⟨x,f⟩;simp only at x f;subst f;simp+contextual only[qz 91,au,fD,u,p,bh];refine⟨λd=>⟨vp d,λ_=>z,λq=>?_,λ_=>?_⟩,by grind [bkg]⟩;have j:=v i<|aL d;exfalso;simp only[fH,awG] at q;have:=j.2.2;have:=j.1;have:=j.2.1;omega;refine wN (enc:=λa:Int×Nat=>[iv a.1,iv a.2]) (i:=i) (s:=(_,i)) (s':=(gd l i,i+1)) ?_ A rfl (aL d) ⟨aL d,O⟩;grind [fX,aL]
def Gj:FT:=qe PS
def azE:=sT Gj PS
def PV(s)(e)(w:aO8 s e=U/\L s.eB.ay<1000000/\(e.kind=3->aF (L s.cells) e.eI)/\(e.kind=23->aF (L s.bU) e.eI)):Ct 229 [.a s.c, .a e.c] (·=bv U):=by obtain⟨p1,F,G,K⟩:=w;refine aMM A rfl λs0 E q g B=>?_;simp+contextual only[bh0,qz 59,qz 57,au,↓iS,fD,q,g,FA];have:∀v:aG,True:=λ_=>trivial;refine⟨λh=>⟨vB,?_⟩,λC=>⟨λh=>⟨vB,?_⟩,λz=>⟨λh=>?_,λD=>⟨λr=>⟨trivial,λh=>nomatch h⟩,λr=>⟨trivial,λy=>⟨λm=>?_,λm=>⟨λn=>?_,λn=>?_⟩⟩⟩⟩⟩⟩⟩;grind [aO8];grind [aO8];grind [aO8];have x:(bif Q ((L (fO s.eB e.eI):Int)=0) then Q (e.value= -1) else Q (0<=e.value)&&(Q (e.value<L s.eB.ay)&&Q (e.value∈fO s.eB e.eI)))=U:=(by grind [aO8]);refine jD (α:=Int×Bool) (λa i=>[iv a.1,bv a.2,iv i]) 2 (L s.eB.ay) (λk a Y'=>a=((L (eh s.eB e.eI k):Int),Q<|e.value∈eh s.eB e.eI k)/\Fr s0 Y' [8]) (s0:=(0,I)) ⟨by simp[eh],Fr.refl _ _⟩ ?_;rintro k _ Y u ⟨rfl,d⟩;have f:=d.bt g;have:=wU s.eB e.eI k;simp+contextual only[qz 97,di,qz 119,qy 6,fD,f,bh];refine⟨λh=>⟨vp h,?_⟩,λh=>?_⟩;refine eF A rfl H bkb λo b j=>?_;have l:=b.bt f;simp+contextual only[qz 8,eT,l,j,qz 117];constructor<;>intro t;refine dR (mk:=λa i=>[iv a.1,bv a.2,iv i]) (p:=2) (s:=((L (eh s.eB e.eI k):Int),Q<|e.value∈eh s.eB e.eI k)) (s':=(dq.wrap ((L (eh s.eB e.eI k):Int)+1),Q (e.value∈eh s.eB e.eI k)||Q (e.value=(k:Int)))) (λ_ _=>A) (aL h) Z ?_;refine⟨?_,d.trans b⟩;grind [pe,bub,fX];refine dR (mk:=λa i=>[iv a.1,bv a.2,iv i]) (p:=2) (s:=((L (eh s.eB e.eI k):Int),Q<|e.value∈eh s.eB e.eI k)) (s':=((L (eh s.eB e.eI k):Int),Q<|e.value∈eh s.eB e.eI k)) (λ_ _=>A) (aL h) Z ?_;refine⟨?_,d.trans b⟩;grind [pe,bub];obtain rfl:k=L s.eB.ay:=X;change(bif Q ((L (eh s.eB e.eI<|L s.eB.ay):Int)=0) then Q (e.value= -1) else Q (0<=e.value)&&(Q (e.value<L s.eB.ay)&&Q (e.value∈eh s.eB e.eI (L s.eB.ay))))=U at x;grind;have:e.value=L (fO s.eB e.eI):=(by grind [aO8]);refine jD (α:=Int) (λa i=>[iv a,iv i]) 1 (L s.eB.ay) (λk a Y'=>a=(L (eh s.eB e.eI k):Int)/\Fr s0 Y' [11]) (s0:=0) ⟨by simp[eh],Fr.refl _ _⟩ ?_;rintro k _ Y u ⟨rfl,d⟩;have f:=d.bt g;have:=wU s.eB e.eI k;simp+contextual only[qz 169,di,qz 191,qy 10,fD,f,bh];refine⟨λh=>⟨vp h,?_⟩,λh=>?_⟩;refine eF A rfl H bkb λo b j=>?_;have l:=b.bt f;simp+contextual only[qz 12,eT,l,j,qz 189];constructor<;>intro t;refine dR (mk:=λa i=>[iv a,iv i]) (s:=_) (s':=dq.wrap<|(L (eh s.eB e.eI k):Int)+1) (λ_ _=>A) (aL h) Z ?_;refine⟨?_,d.trans b⟩;grind [pe,bub,fX];refine dR (mk:=λa i=>[iv a,iv i]) (s:=_) (s':=(L (eh s.eB e.eI k):Int)) (λ_ _=>A) (aL h) Z ?_;refine⟨?_,d.trans b⟩;grind [pe,bub];grind [Nat.le_antisymm,dge,fO];grind [aO8]
def Gm:FT:=aIc PV
def azH:=gX Gm PV
def NU(w)(c u:Int)(K:L w.ac<100000/\L w.init.eB.ay<100000):Ct 171 [.a w.c,iv c,iv u] (λr=>∃t,r= .l ((mR w c u).map ci) t U):=aKF A λM C n F=>by simp+contextual only[eT,n,dc];refine iu (λa i=>[a,iv i]) 1 [40,68] [40,68,9] 3 1 (L w.init.eB.ay) (λk=>(iH w c u k).map ci) (λ_=>True) trivial (.inl ⟨A,A⟩) λk a Y G _ B f=>?_;have y:=f.bt n;have p:L Y=4096:=(by rw[f.1,C]);have:=qX (vf w c u) k;simp only[qz 25,di,fD,qz 47,qy 4,bh,y];refine⟨λh=>⟨vp h,?_⟩,λh=>?_⟩;refine eF A rfl H Z λq b m=>?_;simp+contextual only[qz 6,qy 8,qy 10,nq,m];have:=aL h;rw[eM (x:= -1-(k:Int)) Z Z];constructor<;>intro g;refine fP (B.fr b H) A H H bkb pU O (by grind [iH,bJ,a6G,bZ,bhZ]) λv s z d=>?_;simp only[qz 45,aI,au,fE,cS,aY];refine hJ (aL h) ?_<|f.trans<|(b.mono H).trans<|d.mono H;grind [vf,iH,yK];simp only[qz 45,aI,au,fE,cS,aY];refine hJ (aL h) ?_<|f.trans<|b.mono H;have:vf w c u k=I:=g;have:iH w c u (k+1)=iH w c u k:=(by grind [iH,yK]);grind [Gr.fr];have o:k=L w.init.eB.ay:=X;subst o;refine iu (λa i=>[a,iv i]) 1 [40,68] [40,68,11] 3 1 (L w.ac) (λk=>(iH w c u (L w.init.eB.ay)++fw (wV w c u) k).map ci) (λ_=>True) trivial (by grind [fw]) λk a Y' E _ j e=>?_;have D:L Y'=4096:=(by rw[e.1,p]);have:=qX (wV w c u) k;simp only[qz 73,di,gJ,qz 95,qy 12,bh];refine⟨λh=>⟨vp h,?_⟩,λh=>?_⟩;refine eF A rfl H Z λq b m=>?_;simp+contextual only[qz 14,qy 16,qy 18,nq,m];constructor<;>intro g;refine fP (j.fr b H) A H H bkb pU O (by grind [iH,bJ,a6G,bZ,bhZ]) λv s z d=>?_;simp only[qz 93,aI,au,fE,cS,aY];refine hJ (aL h) ?_<|e.trans<|(b.mono H).trans<|d.mono H;rwa [Bo g];simp only[qz 93,aI,au,fE,cS,aY];refine hJ (aL h) ?_<|e.trans<|b.mono H;rw[yJ g];grind [Gr.fr];obtain rfl:k=L w.ac:=X;exact qV j λt=>⟨t,A⟩
def aTS:FT:=vn NU
def ax7:=zZ aTS NU
def zV(l:List cA):List ByteArray:=(jv l (L l) 0 []).getD []
def aEq{x y:cA}:bc4 .neq 2 [(0,2),(1,0),(2,0),(3,1),(4,0)] (.a x.c) (.a y.c)=V (bv<|Q<|x≠y):=by obtain⟨a,b,c,d,e⟩:=x;obtain⟨f,g,h,i,j⟩:=y;have hs:(a.toList==f.toList)=Q (a=f):=(by have:=alq (a:=a) (b:=f);grind [bc4,zP]);by_cases k:a=f<;>by_cases l:b=g<;>by_cases m:c=h<;>by_cases n:d=i<;>by_cases o:e=j<;>simp[bc4,cA.c,nW,sS,hs,k,l,m,n,o]
def NI(l)(hp:(jv l (L l) 0 []).isSome=U/\L l<=12):Ct 140 [sl cA.c l] (λr=>∃t o,r= .t [.l ((zV l).map cs) t o,bv U]):=aJY λG hl h0=>by obtain⟨ns,y⟩:=zz.1 hp.1;have W:zV l=ns:=(by rw[zV,y];rfl);rw[W];have ax:=hp.2;refine⟨λvs Y=>∃(i f:Nat) (a:AV) (acc:List ByteArray),vs=[a,iv i]/\i<=L l/\L acc<=i/\L l-i<=f/\jv l f i acc=V ns/\Gr Y [20] 9 1 a (acc.map cs)/\Fr G Y [20,6],gM 1<|L l,⟨0,L l,_,[],A,Z,O,Z,y,Gr.nil,Fr.refl _ _⟩,?_⟩;rintro vs Y ⟨i,f,a,acc,rfl,hi,am,hf,b,E,T⟩;have ab:L Y=4096:=(by rw[T.1,hl]);simp only[qz 25,qy 2,gJ,bh];refine⟨λh=>⟨vp h,?_⟩,λh=>?_⟩;refine eF A rfl H Z λY2 z M=>?_;simp+contextual only[qz 4,qy 6,nq,M];refine fP (E.fr z H) A H H bkb O O X λn D g3 B=>?_;have N:=B.bt M;simp+contextual only[qz 8,↓iS,eT,N];have ac:=aL h;obtain⟨f,rfl⟩:∃f',f=f'+1:=⟨f-1,Z⟩;rw[jv,zg ac] at b;have next:∀j Y',a7d l i=V j->i<j->j<=L l->Gr Y' [20] 9 1 n ((acc++[(gd l i).name]).map cs)->Fr G Y' [20,6]->(∃(i f:Nat) (a:AV) (acc:List ByteArray),[n,iv (j:Int)]=[a,iv i]/\i<=L l/\L acc<=i/\L l-i<=f/\jv l f i acc=V ns/\Gr Y' [20] 9 1 a (acc.map cs)/\Fr G Y' [20,6])/\gM 1 (L l) [n,iv (j:Int)] Y'<gM 1 (L l) [a,iv i] Y:=(λj Y' hs av hj G' F'=>by rw[hs] at b;refine⟨⟨j,f,n,acc++[(gd l i).name],rfl,hj,NA,Z,b,G',F'⟩,?_⟩;grind [gM,fE,au,bh]);have s:Gr D [20] 9 1 n ((acc++[(gd l i).name]).map cs):=vB;have q:=T.trans<|(z.mono H).trans<|B.mono H;rw[fX Z,eM (x:=(L l:Int)-i) Z Z];have aw:a7d l i≠J:=X;refine⟨λhs=>⟨λhx=>?_,λhx=>next (i+1) D ?_ Z Z s q⟩,λhs=>⟨λF=>?_,λF=>?_⟩⟩;grind [absurd,a7d];grind [decide_eq_false_iff_not,a7d];exfalso;simp only[aPs] at hs;have ae:¬((gd l i).size<1\/4<(gd l i).size\/(L l:Int)-i<(gd l i).size):=(by grind [a7d]);have g:∀k,k<(gd l i).size.toNat->sM (gd l i) (gd l<|i+k) k=U:=(by grind [a7d]);have ar:=g 0 Z;grind [sM,eH,cP];simp only[aPs] at hs;simp only[cP,aPs] at F;obtain⟨⟨⟨q1,q2⟩,q3⟩,q4⟩:=F;have ae:¬((gd l i).size<1\/4<(gd l i).size\/(L l:Int)-i<(gd l i).size):=Z;have g:∀k,k<(gd l i).size.toNat->sM (gd l i) (gd l<|i+k) k=U:=(by grind [a7d]);have aa:a7d l i=V (i+(gd l i).size.toNat):=(by grind [a7d]);refine yV (gd l i).size.toNat (λk _ Y'=>(∃m,box Y' (6,(aZ Y 6).ver+1)=V ⟨119,5,U,U,[cA.c {gd l i with index:=m}]⟩)/\Fr D Y' [6]) ⟨⟨(gd l i).index,N⟩,Fr.refl _ _⟩ ?_;rintro k _ K hk ⟨⟨m,P⟩,C⟩;have ap:L K=4096:=(by rw[C.1,B.1,z.1,ab]);simp only[qz 121,eT,P];constructor<;>intro S;simp only[awG] at S;have w:k<(gd l i).size.toNat:=Z;refine Ev P Z A (by simp[cA.c]) λY5 F5 b5=>?_;have R:box Y5 (6,(aZ Y 6).ver+1)=V ⟨119,5,U,U,[cA.c {gd l i with index:=k}]⟩:=b5;simp only[qz 10,au,eQ];rw[show dq.wrap ((i:Int)+k)=((i+k:Nat):Int) by grind [eM]];simp only[gJ,bh,R,aEq];refine⟨dJ Z,λu=>?_,λu=>?_⟩;exfalso;have:=g k w;simp only[sM,eH,cP,aPs,aNS,btD] at this;obtain⟨⟨⟨⟨w1,w2⟩,w3⟩,w4⟩,w5⟩:=this;refine aNQ u ?_;generalize gd l (i+k)=x at*;obtain⟨x1,x2,x3,x4,x5⟩:=x;grind;exact yU w (by grind [Fr.trans]);simp only[aPs] at S;have e:dq.wrap ((i:Int)+(gd l i).size)=((i+(gd l i).size.toNat:Nat):Int):=brE;rw[e];exact next _ K aa Z Z (s.fr C H) (q.trans<|C.mono H);obtain rfl:ns=acc:=(by have:=dge h;cases f<;>simp[jv,aYE.2 this] at b<;>exact b.symm);obtain⟨x,o,e⟩:=sU E;have p:jS Y [a,bv U]= .t [.l (ns.map cs) x o,bv U]:=(by show AV.t [iZ Y a,bv U]=_;have:iZ Y a=dQ Y a:=(by obtain⟨_,rfl⟩|⟨d,v,rfl,_⟩:=E<;>rfl);rw[this,e]);refine⟨?_,x,o,p⟩;rw[p];rfl
def EW:FT:=om NI
def axW:=aUy EW NI
def NK(w)(v:(∀j,j<L w.dU->aOg w j=I)/\L w.dU<=60):Ct 143 [.a w.c] (·=bv U):=aJ0 A λs0 N f G=>by simp+contextual only[eT,f];refine jD (α:=Int×Int) (λa i=>[iv a.1,iv a.2,iv i]) 2 (L w.dU) (λk a Y'=>(a=if k=0 then(0,0) else((gd w.dU<|k-1).aq,(gd w.dU<|k-1).stmt+1))/\(0<=a.2/\a.2<=k)/\Fr s0 Y' [6]) (s0:=(0,0)) (by grind [Fr.refl]) ?_;rintro k ⟨b,nx⟩ Y M ⟨K,l,t⟩;have q:=t.bt f;simp+contextual only[qz 25,qy 4,gJ,bh];refine⟨λh=>⟨vp h,?_⟩,λh=>trivial⟩;refine eF A rfl H bkb λe n o=>?_;have r:=n.bt q;have hs:=v.1 k<|aL h;simp only[aOg,cP] at hs;obtain⟨⟨B,C⟩,P⟩:=hs;simp only[aPs] at B C;have m:=aL h;simp only at l;have key:¬((gd w.dU k).aq<b)/\(b<(gd w.dU k).aq->(gd w.dU k).stmt=0)/\(¬b<(gd w.dU k).aq->(gd w.dU k).stmt=nx):=brE;obtain⟨D,E,F⟩:=key;have:∀x y:Int,x=(gd w.dU k).aq->y=(gd w.dU k).stmt->0<=y->y<=k->yI (λ(a:Int×Int) i=>[iv a.1,iv a.2,iv i]) (L w.dU) (λk a Y'=>(a=if k=0 then(0,0) else((gd w.dU<|k-1).aq,(gd w.dU<|k-1).stmt+1))/\(0<=a.2/\a.2<=k)/\Fr s0 Y' [6]) [iv x,iv<|dq.wrap<|y+1,iv<|dq.wrap<|(k:Int)+1] e/\gM 2 (L w.dU) [iv x,iv<|dq.wrap<|y+1,iv<|dq.wrap<|(k:Int)+1] e<gM 2 (L w.dU) [iv b,iv nx,iv k] Y:=(by rintro x y rfl rfl g d;have z:dq.wrap ((gd w.dU k).stmt+1)=(gd w.dU k).stmt+1:=brE;rw[z];refine dR (mk:=λ(a:Int×Int) i=>[iv a.1,iv a.2,iv i]) (p:=2) (s:=(b,nx)) (s':=((gd w.dU k).aq,(gd w.dU k).stmt+1)) (λ_ _=>A) m Z ?_;grind [Fr.trans]);simp+contextual only[qz 6,bh0,qz 77,qz 75,eT,r,o];refine⟨λu=>?_,λu=>⟨λg=>⟨λd=>?_,λd=>?_⟩,λg=>⟨λd=>?_,λd=>?_⟩⟩⟩;grind;simp_all;grind;simp_all;grind
def EY:FT:=mT NK
def axY:=oK EY NK
def api:dO:=(277,Gg)::(223,EZ)::(224,ry)::(282,BV)::(168,brV)::(170,aTR)::(283,BR)::(284,Fh)::(227,Gl)::(199,bwZ)::(80,aUv)::(83,Gs)::(81,Gu)::(228,Gj)::(229,Gm)::(171,aTS)::(140,EW)::(143,EY)::bnu
def sf:eJ api:=asq (nH brJ)<|asq (nI NM)<|asq (nI OA)<|asq (nI Oz)<|asq (nH bwn)<|asq (nH NQ)<|asq (nH NW)<|asq (nH Oi)<|asq (nI PU)<|asq (aCb PO)<|asq (pg PX)<|asq (pg aXJ)<|asq (pg Qb)<|asq (tE PS)<|asq (aCb PV)<|asq (By NU)<|asq (rj NI)<|asq (pg NK)<|bh1
def aQS:=ai @azB<|ai @axZ<|ai @ayx<|ai @ayw<|ai @ax5<|ai @ax4<|ai @ax9<|ai @ayj<|ai @azG<|ai @bza<|ai @azJ<|ai @azM<|ai @azO<|ai @azE<|ai @azH<|ai @ax7<|ai @axW<|ai @axY<|@boM
def ave:=I9 14 [(6,([],[18]))]
def aMH{a}:=y0 sf func222 ave [a]
def aJX{c0 a1 b}:=y1 34 6 3 sf func142 at1 c0 [.a c0,a1,b]
def bnX:=I9 14 [(6,([35],[2,33,34]))]
def aK4{c0 b}:=y2 34 6 2 39 4 3 sf func144 bnX c0 b [.a c0, .a b]
def aK5{c0 a1 b}:=y1 34 6 3 sf func278 at3 c0 [.a c0,a1,b]
def aMz{a a1}:=y0 sf func184 at1 [a,a1]
def aMT{a a1}:=yB sf func145 at1 [a,a1]
def atz:=I9 26 [(7,([6,7],[1,2,5])),(17,([6,69],[1,5,7,67,68])),(20,([6],[1,5,7,67,68,69]))]
def aK0{c0 a1}:=y1 45 15 2 sf func250 atz c0 [.a c0,a1]
def aKM{c0 a1 b}:=y1 172 16 3 sf func238 aur c0 [.a c0,a1,b]
def atq:=I9 11 [(3,([9],[2,7,8]))]
def aKR{c0 a1}:=y1 172 16 2 sf func151 atq c0 [.a c0,a1]
def NH(w:aOw)(i:Int)(b):Ct 142 [.a w.c,iv i,bv b] (·=bv (dh i (L w.ak)&&((gd w.ak i.toNat).rw==b))):=aJX A λs0 f d e=>by simp+contextual only[ie,d,aQS,DR];done
def EV:FT:=buC NH
def axV:=KP EV NH
def Ow(w)(s)(d:lh w s=U/\L w.bC<=2):Ct 144 [.a w.c, .a s.c] (·=bv U):=aK4 A rfl λs0 v b f r=>by obtain⟨l,o,p,q⟩:=iY d.1;have:=d.2;simp+contextual only[eT,b,f];refine⟨vB,λ_=>?_⟩;refine pQ (L w.bC) [6] (λk=>True) trivial λk Y u t m=>?_;have i:=m.bt b;simp only[qz 37,qy 6,gJ,bh];refine⟨λh=>⟨vp h,?_⟩,λh=>trivial⟩;refine eF A rfl H bkb λn e g=>?_;have j:=e.bt i;simp only[qz 8,fQ,j,g,aQS];have:=dX.2<|l _<|dB<|aL h;grind [oL,aL,Fr.trans]
def zf:FT:=aIc Ow
def ayt:=gX zf Ow
def Ox(w)(kind eI):Ct 278 [.a w.c,iv kind,iv eI] (·=bv (named w kind eI)):=aK5 A λf e b d=>by simp only[bh0,qz 23,iM,aY,sw];simp only[qz 21,aI,au];simp only[bh0,qz 71,iM,aY,sw];simp only[qz 69,aI,au];simp only[bh0,qz 89,iM,aY,sw];simp only[qz 87,aI,au];simp only[bh0,qz 107,iM,aY,sw];simp only[qz 105,aI,au];simp only[bh0,qz 137,iM,aY,sw];simp only[qz 135,aI,au];simp only[bh0,qz 167,iM,aY,sw];simp only[qz 165,aI,au];simp only[bh0,qz 185,iM,aY,sw];simp only[qz 183,aI,au];simp+contextual only[↓iS,ie,aQS,b,named,aRa,bih,DR,FA]
def Ft:FT:=buC Ox
def ayu:=KP Ft Ox
theorem aE7{l n}:Q (0<=oW l n)=Q (n∈l):=by grind [oW,decide,List.findIdx?_isSome,tL,zz,GB,decide_eq_false_iff_not]
def PN(l)(n:Int)(b:L l<4611686018427387904):Ct 184 [sl ci l,iv n] (·=bv (Q<|n∈l)):=aMz λs0 _ a=>by simp only[hZ,aQS];grind [aE7]
def bpB:FT:=aIc PN
def azz:=gX bpB PN
def aFl{s Y}{d:Nat}{K}(a:d<L Y)(c:∀Y',Fr Y Y' [d]->box Y' (d,(aZ Y d).ver+1)=V ⟨0,0,U,I,[[st s,iv 0]]⟩->K (.g 1 (d,(aZ Y d).ver+1) 0 0) Y'):eV (tu Y d<|st s) K:=by have b:tu Y d (st s)=V (.g 1 (d,(aZ Y d).ver+1) 0 0,put Y d ⟨0,0,U,I,[[st s,iv 0]]⟩):=(by simp[tu,vg,a,lA]);rw[b];exact c _ ⟨D3,λk f=>bwp<|λe=>f<|by simp[e]⟩<|zQ a A
def aEA{s Y b}{p o n:Nat}{K}(a:box Y b=V ⟨0,0,U,I,[[st s,iv p]]⟩)(i:b.1<L Y)(c:p<s.size->∀Y',Fr Y Y' [b.1]->box Y' b=V ⟨0,0,U,I,[[st s,iv ((p+(Utf8.decode s p).2:Nat):Int)]]⟩->K (.t [bv U,iv p, .s<|.int .i32 (Utf8.decode s p).1]) Y')(d:s.size<=p->K (.t [bv I]) Y):eV (se Y<|.g 1 b o n) K:=by unfold se;simp only[a,aNR,a6F,bh];by_cases h:p<s.size;rw[zg h];exact c h _ ⟨uC,λk f=>wy<|λe=>f<|by simp[e]⟩<|lO a;rw[za h];exact d Z
def av3{a b:Int}:bc4 .leq 0 [] (.s<|.int .i32 a) (.s<|.int .i32 b)=V (bv<|Q<|a<=b):=rfl
def avW{a b:Int}:bc4 .eql 0 [] (.s<|.int .i32 a) (.s<|.int .i32 b)=V (bv<|Q<|a=b):=rfl
def DV(s:ByteArray)(b:Id):bu:=λ_ Y=>match box Y b with|some ⟨_,_,_,_,[[_, .s (.int _ p)]]⟩=>s.size-p.toNat|_=>0
def aB7{c}(h:oO c=U):c<128:=by grind [oO,wx,zY]
def PQ(s)(w:aQt s=U):Ct 222 [st s] (·=bv U):=aMH λs0 u D=>by have e:=w;simp only[aQt,bN,eH,awG,cP,fK,aPs] at e;obtain⟨⟨⟨⟨p1,K⟩,M⟩,x⟩,y⟩:=e;simp+contextual only[qy 2,hZ,Qm,aQS,x];refine⟨λh=>?_,λ_=>?_⟩;grind;refine aFl Z λC n q=>?_;generalize(aZ s0 18).ver+1=v at*;refine⟨λvs Y=>∃p:Nat,vs=[]/\p<=s.size/\box Y (18,v)=V ⟨0,0,U,I,[[st s,iv p]]⟩/\L Y=4096,DV s (18,v),⟨0,A,Z,q,by rw[n.1,u]⟩,?_⟩;rintro vs Y ⟨p,rfl,B,r,l⟩;simp only[qz 37,aI];refine aEA r Z (λa f o g=>?_) (λz=>?_);have b:=y p a;have k:rI s p=((s[p]'a).toNat:Int):=(by simp[rI,a]);have i:(s[p]'a).toNat<128:=(aYF<|aB7 b);have j:=decode_ascii s p a i;rw[j] at g⊢;simp only at g⊢;rw[<-k];have d:(∃p:Nat,True/\p<=s.size/\box f (18,v)=V ⟨0,0,U,I,[[st s,iv p]]⟩/\L f=4096)/\DV s (18,v) [] f<DV s (18,v) [] Y:=(by refine⟨⟨p+1,trivial,Z,g,by rw[o.1,l]⟩,?_⟩;grind [DV,bh]);generalize G:rI s p=c at*;have m:p=0->wx c=U:=X;simp+contextual only[qz 4,oJ,pG,KM,eQ,av3,avW];refine⟨λ_=>⟨λ_=>d,λE=>⟨λ_=>d,λF=>?_⟩⟩,λh=>(nomatch h)⟩;exfalso;have t:=b;simp only[oO,wx,zY] at t m;grind;simp only[qz 4,oJ,eQ];simp
def Gh:FT:=mT PQ
def azC:=oK Gh PQ
def Ot(w)(q:Int)(hp:L w.ac<100000/\(aF (L w.ac) q->((gd w.ac q.toNat).kind=23->aF (L w.init.eB.done) (gd w.ac q.toNat).eI/\aF (L w.init.bU) (gd w.ac q.toNat).eI)/\((gd w.ac q.toNat).kind=3->aF (L w.init.cells) (gd w.ac q.toNat).eI))):Ct 250 [.a w.c,iv q] (λr=>∃t,r= .l ((dx w q).map ci) t U):=aK0 A λs2 hl G h0=>by simp+contextual only[qy 4,fD,G];have R:(Q (q<0)||Q ((L w.ac:Int)<=q))=!dh q (L w.ac):=(by grind [dh]);rw[R];constructor<;>intro h;simp only[eH] at h;have:dx w q=[]:=(by simp[dx,h]);rw[this];exact⟨A,U,A⟩;simp only[fK] at h;have hi:=h;have hq:=dX.1 h;obtain⟨ay,T⟩:=hp;obtain⟨W,aa⟩:=T hq;refine⟨hq,eF A rfl H Z λu E K=>?_⟩;have M:=E.bt G;have S:L u=4096:=(by rw[E.1,hl]);generalize(aZ s2 5).ver+1=v at*;have ae:∀b,oM w (gd w.ac q.toNat)=b->fR (gd w.ac q.toNat)=U->dx w q=(bif b then[-1] else[])++fw (mr w q) (L w.ac):=(by grind [dx]);simp only[qz 6];refine bpF (λd=>∀a Y (o:eu) (e:Int),L o<=1->dx w q=o++fw (mr w q) (L w.ac)->(((gd w.ac q.toNat).kind=3/\e=4)\/((gd w.ac q.toNat).kind=23/\e=22))->Fr u Y [105,40,65]->Gr Y [105,40,65] 3 1 a (o.map ci)->d [a,iv e] Y) ?_ λd s=>?_;(focus intro a Y o e aA P ap f G4;have d1:=f.bt M;have d3:=f.bt K;simp only[qz 45,eT,d1];refine iu (λa i=>[a,iv i]) 1 [105,40,65] [105,40,65,9] 3 1 (L w.ac) (λk=>(o++fw (mr w q) k).map ci) (λ_=>True) trivial (by grind [fw]) λk a' Y' aw _ N p=>?_;have e3:=p.bt d3;have az:L Y'=4096:=(by rw[p.1,f.1,S]);simp only[qz 103,di,gJ,qz 125,qy 16,bh];refine⟨λh=>⟨vp h,?_⟩,λh=>?_⟩;(focus refine eF A rfl H Z λY2 m b2=>?_;have f3:=m.bt e3;have aB:=qX (mr w q) k;simp+contextual only[qz 18,qy 20,qy 22,nq,f3,b2];have z:mr w q k=(!(Q ((gd w.ac k).kind≠e)||Q ((gd w.ac k).eI≠(gd w.ac q.toNat).eI)||Q ((gd w.ac k).value≠(gd w.ac q.toNat).value))&&(Q ((gd w.ac k).aq≠(gd w.ac q.toNat).aq)||Q ((k:Int)<q))):=(by rw[Bool.eq_iff_iff];have ax:(k:Int)=q->(gd w.ac k).kind=(gd w.ac q.toNat).kind:=X;simp only[mr,aTG,bN,fH,awG,eH,cP,bik,aPs,btD,aNS];grind);refine⟨λj=>?_,λj=>⟨λy=>?_,λy=>?_⟩⟩;rotate_left;have x:mr w q k=U:=vB;refine fP (N.fr m H) A H H bkb pU O X λa2 Y3 g3 F=>?_;simp only[qz 123,aI,au,gt1,cS,aY];refine hJ (aL h) ?_<|p.trans<|(m.mono H).trans<|F.mono H;grind [Bo];all_goals have x:mr w q k=I:=(by first|(rw[z,y];simp)|(rw[z,j];rfl));simp only[qz 123,aI,au,gt1,cS,aY];refine hJ (aL h) ?_<|p.trans<|m.mono H;rw[yJ x];exact N.fr m H);obtain rfl:k=L w.ac:=X;rw[P];grind [qV]);simp+contextual only[qz 47,qy 8,qy 10,qy 12,qy 14,fD,M,K,dc,iz];refine⟨λk3=>?_,λk3=>⟨λB=>?_,λB=>?_⟩⟩;have n:=aNQ k3;refine⟨aa n,λj=>?_,λj=>?_⟩;refine fP (bA:=[]) (ds:=[105,40,65]) (new:=[ci<|-1]) Gr.nil A H H Z O O H λa D C f=>?_;exact s a D [-1] 4 O (by grind [oM,decide,gd,fR]) (.inl ⟨n,A⟩) f C;exact s _ u [] 4 O (by grind [oM,decide,gd,fR]) (.inl ⟨n,A⟩) (Fr.refl _ _) Gr.nil;have g:=aNQ B;obtain⟨o1,o2⟩:=W g;refine⟨o1,λ_=>o2,λj=>?_,λj=>?_⟩;refine fP (bA:=[]) (ds:=[105,40,65]) (new:=[ci<|-1]) Gr.nil A H H Z O O H λa D C f=>?_;exact s a D [-1] 22 O (by grind [oM,fR]) (.inr ⟨g,A⟩) f C;exact s _ u [] 22 O (by grind [oM,fR]) (.inr ⟨g,A⟩) (Fr.refl _ _) Gr.nil;have hr:fR (gd w.ac q.toNat)=I:=(by grind [fR]);have:dx w q=[]:=(by simp[dx,hr]);rw[this];exact⟨A,U,A⟩
def Fq:FT:=pn Ot
def ayq:=f211 Fq Ot
structure jY where
 w:am
 ss:List aW
 deriving Inhabited,DecidableEq
def jY.c(x:jY):dM:=x.w.c++[sl aW.c x.ss]
def buk{p:Prop}(h:p:=by simp[Go.Ab.am.c]):p:=h
def j9{x y:jY}:(jY.c x=jY.c y)=(x=y):=by apply bqL;constructor;intro h;obtain⟨d,xs⟩:=x;obtain⟨e,ys⟩:=y;have a:d.c=e.c:=(aqH h buk).1;have b:=(aqH h buk).2;simp only[bo0] at a;simp only[kO,aRI,amV] at b;rw[a,b];intro h;rw[h]
def ND{l}{i:Int}{Y K}:rV (cz 4 Y (sl aW.c l)<|iv i) K=(aF (L l) i/\K (.q<|aW.c<|gd l i.toNat)):=aBz λ_=>A
def Oc(x:jY)(i j:Int)(e:aF (L x.w.ac) i/\aF (L x.w.ac) j):Ct 238 [.a x.c,iv i,iv j] (·=bv (nh (gd x.w.ac i.toNat)<|gd x.w.ac j.toNat)):=aKM A λt d b B=>by have b:box t (3,1)=V ⟨172,16,U,U,[x.w.c++[sl aW.c x.ss]]⟩:=b;have n:=b;simp+contextual only[fD,n,kj];refine⟨e.1,e.2,?_⟩;refine mo d λu f l=>?_;simp only[qz 4];refine mo (f.1.trans d) λv g m=>?_;simp only[qz 6];have o:=g.bt l;refine gN (cs:=aP.c<|gd x.w.ac i.toNat) o bkb A rfl λy h p=>?_;have q:=h.bt m;simp only[qz 8];refine gN (cs:=aP.c<|gd x.w.ac j.toNat) q bkb A rfl λz k s=>?_;have r:=k.bt p;simp only[qz 10];refine dT A ?_;simp+contextual only[hH,r,s,aQS,nh]
def zd:FT:=qe Oc
def bs5{p:Prop}(h:p:=by simp only[Go.Ab.ij,Go.Ab.j9]):p:=h
def aye:=sT zd Oc (j:=bs5)
def Oh(x:jY)(l)(q:L l<100000):Ct 151 [.a x.c,sl ci l] (·=bv (l.all λi=>dh i<|L x.w.ac)):=aKR A λm p d n=>by have e:box m (2,1)=V ⟨172,16,U,U,[x.w.c++[sl aW.c x.ss]]⟩:=d;simp+contextual only[eQ];refine bid (L l) (λk=>∀j,j<k->aF (L x.w.ac) (gd l j)) O λk o f=>?_;simp+contextual only[qz 19,fD,bh,e,kj];refine⟨λh=>⟨vp h,λb=>?_,λb=>bkg (aL h) Z<|a6p f ?_⟩,λh=>?_⟩;grind [dh,List.all_eq_false,dB,aL,dX,aF];simp only[cP,aPs] at b;exact⟨Z,Z⟩;have:(l.all λi=>dh i<|L x.w.ac)=U:=dV.2 λy g=>dX.2<|px.1 X y g;rw[this]
def wZ:FT:=aIc Oh
def ayi:=gX wZ Oh (j:=bs5)
def apj:dO:=(142,EV)::(144,zf)::(278,Ft)::(184,bpB)::(222,Gh)::(250,Fq)::(238,zd)::(151,wZ)::api
def rf:eJ apj:=asq (Rs NH)<|asq (aCb Ow)<|asq (Rs Ox)<|asq (aCb PN)<|asq (pg PQ)<|asq (aN0 Ot)<|asq (tE Oc)<|asq (aCb Oh)<|sf
def rW:=ai @axV<|ai @ayt<|ai @ayu<|ai @azz<|ai @azC<|ai @ayq<|ai @aye<|ai @ayi<|@aQS
def asy:=I9 31 [(5,([5,19],[2,17,18])),(12,([5,32],[2,30,31])),(22,([53],[10,51,52]))]
def aJZ{c0 a1}:=y1 34 6 2 rf func141 asy c0 [.a c0,a1]
def aMP{c0 b}:=y2 34 6 2 42 7 3 rf func79 at1 c0 b [.a c0, .a b]
def aMK{c0 b}:=y2 34 6 2 42 7 3 rf func225 at1 c0 b [.a c0, .a b]
def atH:=I9 35 [(9,([60],[2,4,5,6,11])),(22,([109],[2,4,5,6,11]))]
def aK9{c0 b c d e}:=y2 34 6 5 39 4 6 rf func279 atH c0 b [.a c0, .a b,c,d,e]
def ato:=I9 6 []
def aKP{c0 a1 b}:=y1 172 16 3 rf func148 ato c0 [.a c0,a1,b]
def atj:=I9 17 [(6,([9,10],[1,3,8])),(8,([39],[1,3,7,8,9,10,38]))]
def aKK{c0 a1 b}:=y1 172 16 3 rf func239 atj c0 [.a c0,a1,b]
def atn:=I9 21 [(10,([69],[1,3,7,8,67,68]))]
def aKO{c0 a1 b}:=y1 172 16 3 rf func150 atn c0 [.a c0,a1,b]
def ati:=I9 15 [(7,([52],[7,50,51]))]
def aKJ{c0 a1 b}:=y1 172 16 3 rf func152 ati c0 [.a c0,a1,b]
def aKL{c0 b}:=y2 172 16 2 48 6 3 rf func153 aur c0 b [.a c0, .a b]
def avn:=I9 38 [(4,([17],[1,3,15,16])),(17,([6,54],[1,3,15,16,17,52,53])),(30,([89],[3,87,88]))]
def aMS{c0}:=y1 45 15 1 rf func82 avn c0 [.a c0]
end Go.Ab
