/- Part of the proof of EncodeRecorded. -/
import Derived.Test.YtcceijpmabdflaaGreatDoorB
import Derived.Test.YtcceijpmabdflaaGreatDoorChecked
import Derived.Lib.LazyBuf
import Derived.Laws.Strings
import Derived.Laws.RangeString
import Derived.Laws.RangeAny
set_option linter.all false
set_option maxRecDepth 100000
open And renaming intro->ai
open Array renaming toList_inj->bsl
open Bool renaming and_assoc->BI,and_eq_true->bN,and_false->bsm,false->I,false_and->kM,false_eq_true->eE,not_eq_false'->fK,not_eq_true'->eH,not_false->kN,not_true->fh,or_eq_false_iff->cP,or_eq_true->fH,true->U,true_and->iw
open ByteArray renaming ext->aqv
open Decidable renaming decide->Q,not_not->aNS
open Eq renaming mpr->aND
open Go.IntKind renaming i64->dq
open Go.Proofs.Tryz renaming prog->aS
open Go.Value renaming bool.injEq->mV,int.injEq->mW,string.injEq->mX
open Int renaming not_lt->aqC,ofNat_inj->aqD,toNat_natCast->bh,toNat_zero->Gx
open List renaming all_eq_true->dV,any_eq_false->bnI,any_eq_true->tL,append_assoc->bje,append_inj->aqH,append_nil->cL,cons.injEq->kO,drop->aOz,drop_length->Gz,findIdx?_eq_none_iff->GB,findIdx?_eq_some_iff_getElem->RL,flatMap_append->GC,flatMap_cons->Cz,foldl_append->RO,foldl_nil->aRl,getD_cons_zero->RQ,getD_eq_getElem?_getD->eI,getElem?_cons_zero->qh,getElem?_eq_getElem->eC,getElem?_set_ne->oq,getElem_of_mem->ou,length->L,length_append->a6G,length_cons->bZ,length_filter_le->fZ,length_map->bJ,length_nil->aO1,map_append->dg,map_congr_left->ja,map_cons->ji,map_drop->GK,map_id->brw,map_nil->mU,map_take->bkj,mem_map->dN,mem_or_eq_of_mem_set->CC,mem_singleton->cE,nil_append->dW,range->aH,range_succ->qn,replicate->er,set_eq_take_append_cons_drop->GP,take_length->gV,take_of_length_le->oB,take_succ_eq_append_getElem->iJ,take_zero->CE
open Nat renaming beq->aOU,eq_zero_or_pos->oD,le_refl->dA,le_trans->gl,lt_of_le_of_lt->rC,lt_of_lt_of_le->bkb,not_lt->aYE,reduceAdd->dc,zero_add->aj,zero_le->mh
open Ne renaming symm->Sa
open Option renaming bind_some->aQd,getD_none->sD,getD_some->mi,isSome_iff_exists->zz,map->Sb,map_some->df,none->J,some->V
namespace Go.Ab
open Go Go.RowKit Go.Proofs
def aB1:List Nat:=[24,25,32,33,34,35,36,37,38,39,40,41,42,43,44,51,52,55,56,57,82,83,84,85,86,87,88,89,90,91,92,93,95,96,97,98,99,100,101,103,104,105,106,107,108,113,115,116,117,120,148,158,159,160,161,162,163,164,165,166,168,173,175,177,181,183,184,185,190,191,194,215,216,219,220,221,234,235,240,242,243,244,253,266,267,272,273,274,275,276,277,278,281,282,283,299]
def uQ:List Nat:=[35,37,39,40,51,52,85,86,91,92,93,95,104,105,106,107,108,113,148,158,161,162,164,165,175,219,276,281,299]
def nws:List Nat:=[94,118,174,214,217,218,251,252]
def ik:List ByteArray:=[⟨#[118,97,114]⟩,⟨#[118,111,108,97,116,105,108,101]⟩,⟨#[109,117,116,101,120]⟩,⟨#[114,119,108,111,99,107]⟩,⟨#[99,111,110,100]⟩,⟨#[102,117,116,117,114,101]⟩,⟨#[116,104,114,101,97,100]⟩,⟨#[105,102]⟩,⟨#[101,108,115,101]⟩,⟨#[119,104,105,108,101]⟩,⟨#[108,111,99,107]⟩,⟨#[114,101,97,100]⟩,⟨#[119,114,105,116,101]⟩,⟨#[116,114,97,110,115,97,99,116,105,111,110]⟩,⟨#[97,116,111,109,105,99]⟩,⟨#[119,97,105,116]⟩,⟨#[110,111,116,105,102,121]⟩,⟨#[110,111,116,105,102,121,97,108,108]⟩,⟨#[115,112,97,119,110]⟩,⟨#[106,111,105,110]⟩,⟨#[115,101,116]⟩,⟨#[103,101,116]⟩]
abbrev pI:List AV:=ik.map λs=> .s<|.string s
def GG:zp:=⟨λk=>match k with|0=>V pI|_=>J,λf=>aB1.elem f,λf=>uQ.elem f,λf=>nws.elem f,I,λ_=>J⟩
def fps:List (Nat×List Nat):=[(115,[14,15,16]),(120,[]),(177,[10,14,41]),(194,[14,15,16,30]),(266,[12,31])]
def GGV:zp:=⟨GG.glob,GG.imp,GG.rd,GG.nw,U,λf=>fps.lookup f⟩
def aQ9{T:dO}(h:pq aS GG T):pq aS GGV T:=h
def aTc{fn:FuncId}{xs:List AV}{Y:ae}{R:AV->ae->Prop}(h:∃r a,R r a/\cZ aS GGV fn xs Y r a):∃r a,R r a/\cZ aS GG fn xs Y r a:=h
def fnV{fn:FuncId}{xs:List AV}{R:AV->Prop}(h:Fn aS GGV fn xs R):Fn aS GG fn xs R:=h
def ready:tQ aS:=⟨by kernel_rfl,Tryz.co.funcs,by kernel_rfl⟩
abbrev cX(fn:FuncId):FT:=jz aS GG fn
def cB(fn:FuncId)(xs:List AV)(Y:ae)(d:Nat)(K:AV->ae->Prop):Prop:=tR aS GG fn xs Y d K
def cV(fn:FuncId)(xs:List AV)(Y:ae)(d:Nat)(K:AV->ae->Prop):Prop:=tR aS GGV fn xs Y d K
def cN(fn:FuncId)(xs:List AV)(Y:ae)(d:Nat)(K:AV->ae->Prop):Prop:=tS aS GG fn xs Y d K
def cF(f:AV)(xs:List AV)(Y:ae)(d:Nat)(K:AV->ae->Prop):Prop:=rn aS GG f xs Y d K
abbrev Ct(fn:Nat)(xs:List AV)(R:AV->Prop):Prop:=Fn aS GG fn xs R
abbrev eJ(T:dO):Prop:=pq aS GG T
def nX{fn:Nat}{ys:List AV}{R K:AV->Prop}(h:Ct fn ys R)(d:ys.all iX=U)(e:∀r,R r->K r):jz aS GG fn ys K:=by obtain⟨r,a,b,c⟩:=h;exact⟨r,c,d,b,e r a⟩
def ve{fn:Nat}{F:FT}{T:dO}(b:∀ys K,F ys K->jz aS GG fn ys K)(c:eJ T):eJ ((fn,F)::T):=by intro p a;rcases List.mem_cons.1 a with rfl|a;exact b;exact c p a
def wO:pq aS GG []:=λp h=>by cases h
def nU(f:Func):Code:=match f.body with|some (.seq _<|.seq _ t)=>t|_=> .skip
abbrev xE(a:AV):List AV:=[a, .u, .l [] U U,a, .s<|.bool I, .u, .u, .u]
def DX{fn:FuncId}{f:Func}{xa xb g:Code}{an:List (Option<|List Nat×List Nat)}(B:aS.funcs[fn]?=V f)(p:f.body=V (.seq xa<|.seq xb g))(hn:(f.name== "runtime.NumGoroutine")=I)(K:∀n c w (R:Ending->World->Prop),R (.returned<|.slice J 0 0) w->Calls aS fn #[.slice J n c] w R)(y:∀A n c w (R:Ending->World->Prop),(nU f).wp aS (bodyPost aS f R) {tmps:=#[.slice (V A) n c,undef, .slice J 0 0, .slice (V A) n c, .bool I,undef,undef,undef],defers:=[]} w->Calls aS fn #[.slice (V A) n c] w R)(W:(gG<|nU f).all (λk=>Nat.blt k 8)=U)(H:oG an (nU f) 0=U){bA:List (List AV)}{R:AV->ae->Prop}(F:iV aS GG [] an (nU f) 0 (tO aS f R) (gt<|xE<|.l bA I I) eK)(P:∀r j,R r j->bA=[]->r= .l [] U U/\j=eK):∃r j,R r j/\cZ aS GG fn [.l bA I I] eK r j:=by have M:nU f=g:=(by rw[nU,p]);simp only[M] at y W H F;have N:qf aS g:=(ready.code B p).1.2.2;have Z:oI g=U:=(by have:=(ready.code B p).2;grind [oI]);have G:=Kj (T:=[]) wO g 0 _ (by simp_all) H F;obtain⟨e,τ',Y',b,a⟩:=Kf g G;obtain⟨_,_,_,q⟩:=b;have:∃r,wG aS f τ' Y'=V r/\R r Y'/\(e= .normal\/e= .ret):=(by(cases e<;>simp only[tO] at q<;>first|exact q.elim|skip);obtain⟨vs,o,h⟩:=Ep _ _ q;exact⟨_,QU o,h, .inl rfl⟩;obtain⟨vs,o,h⟩:=Ep _ _ q;exact⟨_,QU o,h, .inr rfl⟩);obtain⟨r,o,h,k4⟩:=this;refine⟨r,Y',h,⟨f,_,B,p,hn⟩,λκ w β D hs S O=>?_⟩;obtain⟨v,rfl⟩:∃v,D=[v]:=List.length_eq_one_iff.1 O.1;have C:=O.2 0 v _ rfl rfl;have z:∀A n c,v= .slice (V A) n c->Calls aS fn #[v] w λe t=>∃v d,e= .returned v/\ba κ t Y' d v r/\Iy aS κ t Y' d/\dw w eK β t Y' d:=(by rintro A n c rfl;refine y A n c w _ ?_;have E:jG aS GG κ {tmps:=#[.slice (V A) n c,undef, .slice J 0 0, .slice (V A) n c, .bool I,undef,undef,undef],defers:=[]} w (xE<|.l bA I I) eK β:=(by refine⟨rfl,⟨rfl,λi v x b a=>?_⟩,hs,S⟩;have ab:ba κ w eK β (.slice J 0 0) (.l [] U U):= .l0 λ_=>rfl;match i,b,a with|0,b,a=>grind|1,b,a=>(cases a;exact .u)|2,b,a=>grind|3,b,a=>grind|4,b,a=>(cases b;cases a;exact .s rfl)|5,b,a=>(cases a;exact .u)|6,b,a=>(cases a;exact .u)|7,b,a=>(cases a;exact .u)|i+8,b,a=>cases a);refine wp_mono (Kg ready.mixed g N Z _ E a) ?_;rintro e' a' t ⟨_,_,d,⟨rfl,rfl,rfl⟩,m,X⟩;obtain⟨v,q1,q2⟩:=aoi m o;rcases k4 with rfl|rfl<;>exact⟨m.defers,v,q1,v,d,rfl,q2,m.sim,X⟩);show Calls aS fn #[v] w _;cases C with|@l0 A c _ _ ht=>(cases A with|none=>obtain⟨rfl,rfl⟩:=P _ _ h rfl;refine K 0 c w _ ⟨_,β,rfl, .l0 λ_=>rfl,hs,dw.refl _ _ _⟩|some A=>grind)|l1=>grind

abbrev j4:=AV->Prop
abbrev be:=AV->ae->Prop
abbrev bu:=List AV->ae->Nat
abbrev aG:=List AV->ae->Prop
def lA(n:Nat)(l:List<|Nat×(List Nat×List Nat)):List (Option<|List Nat×List Nat):=(aH n).map λi=>l.lookup i
section congr
@[congr] theorem aNy{o o':Option AV}{K:AV->Prop}(h:o=o'):rV o K=rV o' K:=by rw[h]
@[congr] theorem aNo{o o':Option (AV×ae)}{K:AV->ae->Prop}(h:o=o'):eV o K=eV o' K:=by rw[h]
@[congr] theorem aNz{o o':Option ae}{K:ae->Prop}(h:o=o'):sV o K=sV o' K:=by rw[h]
@[congr] theorem aNv{c a:AV}{A B:Prop}(h:c=a):ah c A B=ah a A B:=by rw[h]
@[congr] theorem aNu{w a:Option Bool}{A:(AV->Prop)->Prop}{K:AV->Prop}(h:w=a):gR w A K=gR a A K:=by rw[h]
@[congr] theorem aNs{w a:Option Bool}{A:(AV->ae->Prop)->Prop}{Y:ae}{K:AV->ae->Prop}(h:w=a):gE w A Y K=gE a A Y K:=by rw[h]
def gB(b:Bool)(A:(AV->Prop)->Prop)(K:AV->Prop):Prop:=bif b then A K else K<|.t []
def gF(b:Bool)(A:(AV->ae->Prop)->Prop)(Y:ae)(K:AV->ae->Prop):Prop:=bif b then A K else K (.t []) Y
@[congr] theorem aNr{b c:Bool}{A a:(AV->Prop)->Prop}{K:AV->Prop}(h:b=c)(d:c=U->∀k,A k=a k):gB b A K=gB c a K:=by subst h;cases b with|true=>show A K=a K;exact d rfl K|false=>rfl
@[congr] theorem aNt{b c:Bool}{A a:(AV->ae->Prop)->Prop}{Y:ae}{K:AV->ae->Prop}(h:b=c)(d:c=U->∀k,A k=a k):gF b A Y K=gF c a Y K:=by subst h;cases b with|true=>show A K=a K;exact d rfl K|false=>rfl
@[congr] theorem aNp{F:FT}{xs a:List AV}{Y:ae}{K:AV->Prop}(h:xs=a):fV F Y xs K=fV F Y a K:=by rw[h]
@[congr] theorem aNq{F:FT}{ys a:List AV}{Lw K:AV->Prop}(h:ys=a):fW F ys Lw K=fW F a Lw K:=by rw[h]
@[congr] theorem aNw{v v':List AV}{B:(List AV->Prop)->(List AV->Nat)->List AV->Prop}(h:v=v'):lR v B=lR v' B:=by rw[h]
@[congr] theorem aNx{v v':List AV}{Y:ae}{B:(List AV->ae->Prop)->(List AV->ae->Nat)->List AV->ae->Prop}(h:v=v'):lV v Y B=lV v' Y B:=by rw[h]
end congr
def gv(b:Bool)(v:AV):AV:=bif b then v else .t []
def gd{α:Type}[Inhabited α](l:List α)(k:Nat):α:=l.getD k default
def aF(n:Nat)(i:Int):Prop:=0<=i/\i<n
def sl{α:Type}(f:α->List AV)(l:List α):AV:= .l (l.map f) I I
abbrev ci(n:Int):List AV:=[iv n]
abbrev cb(b:Bool):List AV:=[bv b]
abbrev st(s:ByteArray):AV:= .s<|.string s
abbrev cs(s:ByteArray):List AV:=[st s]
section rules
variable{K:AV->Prop}{Y:ae}
theorem aY{v:AV}:rV (V v) K=K v:=rfl
def bQ{v:AV}{Y:ae}{K:AV->ae->Prop}:eV (V (v,Y)) K=K v Y:=rfl
def aoq{Y:ae}{K:ae->Prop}:sV (V Y) K=K Y:=rfl
theorem iS{b:Bool}{A B:Prop}:ah (bv b) A B=((b=U->A)/\(b=I->B)):=by grind [ah]
def iC{A B:Prop}:ah (bv U) A B=A:=by simp[ah]
def iB{A B:Prop}:ah (bv I) A B=B:=by simp[ah]
theorem sw{b c:Bool}{a:List AV->Prop}:ah (bv b) (a [bv b]) (a [bv c])=a [bv<|b||c]:=by grind [ah]
def aM2{b:Bool}:gP U (bv b)=V b:=by cases b<;>rfl
def aMZ{b:Bool}:gP I (bv b)=V (!b):=by cases b<;>rfl
def aM3{w:Bool}:gP w (.t [])=V I:=rfl
def aM1{b c:Bool}:gP U (gv b<|bv c)=V (b&&c):=by cases b<;>cases c<;>rfl
def aM0{b c:Bool}:gP I (gv b<|bv c)=V (b&&!c):=by cases b<;>cases c<;>rfl
def aBA{b:Bool}{A:(AV->Prop)->Prop}:gR (V b) A K=gB b A K:=by cases b<;>rfl
def aBy{b:Bool}{A:(AV->ae->Prop)->Prop}{K:AV->ae->Prop}:gE (V b) A Y K=gF b A Y K:=by cases b<;>rfl
def aBv{b c:Bool}{A:(AV->Prop)->Prop}:gB (b&&c) A K=gB b (λk=>gB c A k) K:=by cases b<;>cases c<;>rfl
def aBw{b:Bool}{v:AV}:gB b (λk=>k v) K=K (gv b v):=by cases b<;>rfl
theorem aBx{b:Bool}{S:Prop}{v:AV}:gB b (λk=>S/\k v) K=((b=U->S)/\K (gv b v)):=by grind [gB,gv]
def jA{A:(AV->Prop)->Prop}:gB U A K=A K:=rfl
def jN{A:(AV->Prop)->Prop}:gB I A K=K (.t []):=rfl
def aBL{b c:Bool}{v:AV}:gv b (gv c v)=gv (b&&c) v:=by cases b<;>rfl
def qE{v:AV}:gv U v=v:=rfl
def xM{v:AV}:gv I v= .t []:=rfl
def aE3{c a b:Bool}:mL (bv c) (bv a) (bv b)=V (bv<|bif c then a else b):=by cases c<;>rfl
def uO{c:Bool}{a b:AV}:mL (bv c) a b=V (bif c then a else b):=by cases c<;>rfl
def aE2{c a b:Bool}:mL (bv c) (gv c<|bv a) (bv b)=V (bv<|bif c then a else b):=by cases c<;>rfl
def aE4{c a b:Bool}:mL (bv c) (bv a) (gv (!c)<|bv b)=V (bv<|bif c then a else b):=by cases c<;>rfl
def awq{c a:Bool}:(bif c then a else I)=(c&&a):=by simp
def awr{c a:Bool}:(bif c then U else a)=(c||a):=by simp
def av4{a b:Int}:a6F .lss 0 [] (iv a) (iv b)=V (bv<|Q<|a<b):=rfl
def av2{a b:Int}:a6F .leq 0 [] (iv a) (iv b)=V (bv<|Q<|a<=b):=rfl
def av1{a b:Int}:a6F .gtr 0 [] (iv a) (iv b)=V (bv<|Q<|b<a):=rfl
def avY{a b:Int}:a6F .geq 0 [] (iv a) (iv b)=V (bv<|Q<|b<=a):=rfl
def iM{a b:Int}:a6F .eql 0 [] (iv a) (iv b)=V (bv<|Q<|a=b):=rfl
def av6{a b:Int}:a6F .neq 0 [] (iv a) (iv b)=V (bv<|Q<|a≠b):=by show V (bv<|a !=b)=_;congr 3;by_cases h:a=b<;>simp[h]
def cS{a b:Int}:a6F .add 0 [] (iv a) (iv b)=V (iv<|dq.wrap<|a+b):=rfl
def alr{a b:Int}:a6F .sub 0 [] (iv a) (iv b)=V (iv<|dq.wrap<|a-b):=rfl
def av5{a b:Int}:a6F .mul 0 [] (iv a) (iv b)=V (iv<|dq.wrap<|a*b):=rfl
def avU{a b:Bool}:a6F .eql 1 [] (bv a) (bv b)=V (bv<|a==b):=rfl
def avV{a b:Bool}:a6F .neq 1 [] (bv a) (bv b)=V (bv<|!(a==b)):=rfl
def alq{a b:ByteArray}:a6F .eql 0 [] (st a) (st b)=V (bv<|Q<|a=b):=by show V (bv<|a.toList==b.toList)=_;congr 3;by_cases h:a=b;subst h;simp;have:a.toList≠b.toList:=λe=>h (aqv<|by rw[ByteArray.toList_eq,ByteArray.toList_eq,bsl] at e;exact e);simp[h,this]
def aIN{b:Bool}:cR .not (bv b)=V (bv<|!b):=rfl
def aS6{n:Int}{k:IntKind}:sO (V .i64) (.s<|.int k n)=V (iv<|dq.wrap n):=rfl
def aXT{a b:Int}:AO .min (iv a) (iv b)=V (iv<|if b<a then b else a):=rfl
def aRW{a b:Int}:AO .max (iv a) (iv b)=V (iv<|if b>a then b else a):=rfl
def bdM{bA:List (List AV)}{t o:Bool}:fS Y (.l bA t o)=V (iv<|L bA):=rfl
def cT{α:Type}{f:α->List AV}{l:List α}:fS Y (sl f l)=V (iv<|L l):=by simp[fS,sl]
theorem aBz{α:Type}[Inhabited α]{f:α->List AV}{l:List α}{z:Nat}{i:Int}(a:∀x,L (f x)=z):rV (cz z Y (sl f l)<|iv i) K=(aF (L l) i/\K (.q<|f<|gd l i.toNat)):=by grind [aF,cz,sl,rV,gd]
def qM{c:AV}{cs:List AV}:vp J Y (.q (c::cs))=V c:=rfl
def azQ{cs:List AV}{n:Nat}:iQ n Y (.q cs)=V (.q<|cs.drop n):=rfl
def jM{F:FT}{xs:List AV}{K:AV->Prop}:fV F Y xs K=fW F (xs.map<|dG Y) (lo Y xs) K:=rfl
def jt:([]:List AV).map (dG Y)=[]:=rfl
def kU{x:AV}{xs:List AV}:(x::xs).map (dG Y)=dG Y x::xs.map (dG Y):=rfl
def tW{v:Value}:dG Y (.s v)= .s v:=rfl
def alg{α:Type}{f:α->List AV}{l:List α}:dG Y (sl f l)=sl f l:=rfl
def CV{α:Type}{f:α->List AV}{l:List α}{t o:Bool}:dG Y (.l (l.map f) t o)=sl f l:=rfl
def AL{xs:List AV}{v:Value}:lo Y xs (.s v)=True:=by simp[lo,uN,yv,wD]
def Ql{xs:List AV}{l:List Int}{t:Bool}:lo Y xs (.l (l.map ci) t U)=True:=by simp[lo,uN,yv,wD,gY]
def QQ{bA:List (List AV)}{o:Bool}{Q:AV->Prop}:(∀r,(∃t,r=AV.l bA t o)->Q r)=∀t,Q (.l bA t o):=by simp
def gT{α:Type}{f:α->List AV}{l:List α}{t o:Bool}:fS Y (.l (l.map f) t o)=V (iv<|L l):=by simp[fS]
def uR{R:AV->Prop}{b:Bool}:aE R Y [bv b]=R (bv b):=by simp[aE,jS,iZ,dQ,kG,pF,nj]
def aFi{R:AV->Prop}{n:Int}:aE R Y [iv n]=R (iv n):=by simp[aE,jS,iZ,dQ,kG,pF,nj]
def aI{p:Prop}:(∀_:Rg,p)=p:=by simp
end rules
section
def gz0{a:AV}{l:List AV}:gt (a::l) 0=a:=rfl
def gz1{a b:AV}{l:List AV}:gt (a::b::l) 1=b:=rfl
def u0:=ai @gz0<|ai @gz1<|ai @aY<|ai @bQ<|ai @iS<|ai @aM2<|ai @aMZ<|ai @aM3<|ai @aM1<|ai @aM0<|ai @aBA<|ai @aBy<|ai @aBv<|ai @aBw<|ai @aBx<|ai @aBL<|ai @qE<|ai @xM<|ai @aE2<|ai @aE4<|ai @aE3<|ai @awq<|ai @awr<|ai @kN<|ai @fh<|ai @Bool.and_true<|ai @iw<|@BI
end
def aB(i:Nat)(s:ae)(p:AV)(k:AV->Prop):Prop:=rV (iQ i s p) k
def aM(s:ae)(t:AV)(k:AV->Prop):Prop:=rV (vp J s t) k
def aw(i:Nat)(s:ae)(t:AV)(k:AV->Prop):Prop:=rV (vp (V i) s t) k
def aO(o:BinOp)(a b:AV)(k:AV->Prop):Prop:=rV (a6F o 0 [] a b) k
def QbE(a b:AV)(k:AV->Prop):Prop:=rV (a6F .eql 0 [] a b) k
def aU(a b:AV)(k:AV->Prop):Prop:=rV (a6F .lss 0 [] a b) k
def aV(a b:AV)(k:AV->Prop):Prop:=rV (a6F .add 0 [] a b) k
def ao(z:Nat)(s:ae)(a i:AV)(k:AV->Prop):Prop:=rV (cz z s a i) k
def aJ(s:ae)(a:AV)(k:AV->Prop):Prop:=rV (fS s a) k
def aD(c a b:AV)(k:AV->Prop):Prop:=rV (mL c a b) k
def cf(a:AV)(k:AV->Prop):Prop:=rV (cR .not a) k
def Qct(t e:AV)(k:AV->Prop):Prop:=gR (gP U t) (λg=>g e) k
def bX(t e:AV)(k:AV->Prop):Prop:=gR (gP I t) (λg=>g e) k
def Qot(t:AV)(f:(AV->Prop)->Prop)(k:AV->Prop):Prop:=gR (gP U t) (λg=>f λv=>g v) k
def aC(t:AV)(f:(AV->Prop)->Prop)(k:AV->Prop):Prop:=gR (gP I t) (λg=>f λv=>g v) k
def Qfl(i:Nat)(s:ae)(p:AV)(k:AV->Prop):Prop:=rV (iQ i s p) λt=>rV (vp J s t) k
def aT(d:AV)(i:Nat)(s:ae)(p:AV)(k:AV->Prop):Prop:=gR (gP U d) (λg=>rV (iQ i s p) λt=>g t) λt=>gR (gP U d) (λg=>rV (vp J s t) λv=>g v) k
def bn(d:AV)(i:Nat)(s:ae)(p:AV)(k:AV->Prop):Prop:=gR (gP I d) (λg=>rV (iQ i s p) λt=>g t) λt=>gR (gP I d) (λg=>rV (vp J s t) λv=>g v) k
def a8b{i:Nat}{s:ae}{p:AV}{k:AV->Prop}:aB i s p k=(rV (iQ i s p) k):=rfl
def arq{s:ae}{t:AV}{k:AV->Prop}:aM s t k=(rV (vp J s t) k):=rfl
def art{i:Nat}{s:ae}{t:AV}{k:AV->Prop}:aw i s t k=(rV (vp (V i) s t) k):=rfl
def ark{o:BinOp}{a b:AV}{k:AV->Prop}:aO o a b k=(rV (a6F o 0 [] a b) k):=rfl
def ari{a b:AV}{k:AV->Prop}:QbE a b k=(rV (a6F .eql 0 [] a b) k):=rfl
def arj{a b:AV}{k:AV->Prop}:aU a b k=(rV (a6F .lss 0 [] a b) k):=rfl
def arh{a b:AV}{k:AV->Prop}:aV a b k=(rV (a6F .add 0 [] a b) k):=rfl
def arp{z:Nat}{s:ae}{a i:AV}{k:AV->Prop}:ao z s a i k=(rV (cz z s a i) k):=rfl
def ars{s:ae}{a:AV}{k:AV->Prop}:aJ s a k=(rV (fS s a) k):=rfl
def arx{c a b:AV}{k:AV->Prop}:aD c a b k=(rV (mL c a b) k):=rfl
def ary{a:AV}{k:AV->Prop}:cf a k=(rV (cR .not a) k):=rfl
def bnK{t e:AV}{k:AV->Prop}:Qct t e k=(gR (gP U t) (λg=>g e) k):=rfl
def arl{t e:AV}{k:AV->Prop}:bX t e k=(gR (gP I t) (λg=>g e) k):=rfl
def arw{t:AV}{f:(AV->Prop)->Prop}{k:AV->Prop}:Qot t f k=(gR (gP U t) (λg=>f λv=>g v) k):=rfl
def a8c{t:AV}{f:(AV->Prop)->Prop}{k:AV->Prop}:aC t f k=(gR (gP I t) (λg=>f λv=>g v) k):=rfl
def aro{i:Nat}{s:ae}{p:AV}{k:AV->Prop}:Qfl i s p k=(rV (iQ i s p) λt=>rV (vp J s t) k):=rfl
def aru{d:AV}{i:Nat}{s:ae}{p:AV}{k:AV->Prop}:aT d i s p k=(gR (gP U d) (λg=>rV (iQ i s p) λt=>g t) λt=>gR (gP U d) (λg=>rV (vp J s t) λv=>g v) k):=rfl
def arr{d:AV}{i:Nat}{s:ae}{p:AV}{k:AV->Prop}:bn d i s p k=(gR (gP I d) (λg=>rV (iQ i s p) λt=>g t) λt=>gR (gP I d) (λg=>rV (vp J s t) λv=>g v) k):=rfl
def lzz:fY:=lb U [] []
def y6(x:AV):fY:=lb U [x] []
@[simp] theorem aDs:lzz=lb U [] []:=rfl
@[simp] theorem aDl{x:AV}:y6 x=lb U [x] []:=rfl
def uL:=ai @a8b<|ai @arq<|ai @art<|ai @ark<|ai @ari<|ai @arj<|ai @arh<|ai @arp<|ai @ars<|ai @arx<|ai @ary<|ai @bnK<|ai @arl<|ai @arw<|ai @a8c<|ai @aro<|ai @aru<|ai @arr<|ai @aDs<|@aDl
def a7i{n:Nat}{B:List AV->Prop}{A:(List AV->Prop)->Prop}:jR n B A=A B:=rfl
def di{n:Nat}{B:List AV->ae->Prop}{A:(List AV->ae->Prop)->Prop}:jV n B A=A B:=rfl
def cI(n:Nat)(Inv:Nat->Prop):List AV->Prop:=λvs=>∃k:Nat,vs=[iv k]/\k<=n/\Inv k
def cM(n:Nat):List AV->Nat:=λvs=>match vs with|[.s (.int _ i)]=>n-i.toNat|_=>0
def bhZ{B:(List AV->Prop)->(List AV->Nat)->List AV->Prop}(n:Nat)(Inv:Nat->Prop)(a:Inv 0)(h:∀k:Nat,k<=n->Inv k->B (cI n Inv) (cM n) [iv k]):lR [iv 0] B:=⟨cI n Inv,cM n,⟨0,rfl,mh _,a⟩,by rintro vs ⟨k,rfl,c,b⟩;grind⟩
theorem eM{x:Int}(a: -9223372036854775808<=x)(b:x<9223372036854775808):dq.wrap x=x:=by rw[IntKind.wrap_i64];omega
theorem gS{n k:Nat}{Inv:Nat->Prop}(a:k<n)(b:n<4611686018427387904)(h:Inv<|k+1):cI n Inv [iv<|dq.wrap<|(k:Int)+1]/\cM n [iv<|dq.wrap<|(k:Int)+1]<cM n [iv k]:=by rw[eM (by omega)<|by omega];refine⟨⟨k+1,rfl,a,h⟩,?_⟩;show n-((k:Int)+1).toNat<n-((k:Int)).toNat;omega
theorem au{a:AV}{l:List AV}:gt (a::l) 0=a:=rfl
theorem fE{a:AV}{l:List AV}{n:Nat}:gt (a::l) (n+1)=gt l n:=rfl
def tI{S:Type}(enc:S->List AV)(Inv:S->Prop):List AV->Prop:=λvs=>∃s,vs=enc s/\Inv s
def pM(p n:Nat):List AV->Nat:=λvs=>match gt vs p with| .s (.int _ i)=>n-i.toNat|_=>0
def yh{S:Type}(enc:S->List AV)(p n:Nat)(Inv:S->Prop)(s0:S){B:(List AV->Prop)->(List AV->Nat)->List AV->Prop}(a:Inv s0)(h:∀s,Inv s->B (tI enc Inv) (pM p n) (enc s)):lR (enc s0) B:=⟨tI enc Inv,pM p n,⟨s0,rfl,a⟩,by rintro vs ⟨s,rfl,b⟩;exact h s b⟩
def wN{S:Type}{enc:S->List AV}{p n:Nat}{Inv:S->Prop}{s s':S}{i:Nat}{vs:List AV}(a:vs=enc s')(c:gt (enc s) p=iv i)(b:gt (enc s') p=iv ((i+1:Nat):Int))(d:i<n)(hI:Inv s'):tI enc Inv vs/\pM p n vs<pM p n (enc s):=by subst a;refine⟨⟨s',rfl,hI⟩,?_⟩;grind [pM,bh]
theorem fX{k:Nat}(h:k<4611686018427387904):dq.wrap ((k:Int)+1)=((k+1:Nat):Int):=by grind [eM]
abbrev bmK:List (Nat×Nat):=[(0,1),(1,1)]
abbrev brF:List (Nat×Nat):=[(0,1),(1,1),(2,1),(3,1)]
abbrev alz:List (Nat×Nat):=[(0,1),(1,1),(2,1),(3,1),(4,1),(5,4),(9,1),(10,1)]
abbrev anY:List (Nat×Nat):=[(0,4),(4,1),(5,1),(6,1)]
abbrev aon:List (Nat×Nat):=[(0,1),(1,1),(2,1)]
abbrev aM7:List (Nat×Nat):=[(0,1),(1,1),(2,1),(3,1),(4,1),(5,1)]
abbrev aOs:List (Nat×Nat):=[(0,1),(1,1),(2,1),(3,1),(4,1)]
abbrev aOG:List (Nat×Nat):=[(0,1),(1,1),(2,1),(3,1),(4,1),(5,1),(6,1)]
abbrev aP0:List (Nat×Nat):=[(0,4),(4,1),(5,1),(6,1),(7,1),(8,1)]
abbrev aQ4:List (Nat×Nat):=[(0,6),(6,1),(7,7),(14,1)]
structure cA where
 name:ByteArray
 index:Int
 size:Int
 vol:Bool
 init:Int
 deriving Inhabited,DecidableEq
structure dS where
 name:ByteArray
 rw:Bool
 deriving Inhabited,DecidableEq
structure aOw where
 name:ByteArray
 eg:Int
 deriving Inhabited,DecidableEq
structure dL where
 aq:Int
 stmt:Int
 line:Int
 deriving Inhabited,DecidableEq
structure J9 where
 cells:List cA
 ak:List dS
 bC:List aOw
 bU:List ByteArray
 ay:List ByteArray
 dU:List dL
 deriving Inhabited,DecidableEq
structure cg where
 awG:Int
 bk:List Int
 deriving Inhabited,DecidableEq
structure aoC where
 cQ:Int
 cond:Int
 atomic:Bool
 deriving Inhabited,DecidableEq
structure aW where
 ak:List cg
 tx:Int
 done:List Bool
 ay:List aoC
 deriving Inhabited,DecidableEq
structure sA where
 gp:aW
 cells:List Int
 bU:List Int
 count:List Int
 deriving Inhabited,DecidableEq
structure aP where
 aq:Int
 kind:Int
 f8:Int
 value:Int
 site:Int
 dI:List Int
 ep:List Int
 deriving Inhabited,DecidableEq
structure gz where
 aQ:J9
 start:Int
 init:sA
 ac:List aP
 deriving Inhabited,DecidableEq
structure cJ where
 kind:Int
 ea:Int
 eb:Int
 ec:Int
 ed:Int
 cW:List Int
 deriving Inhabited,DecidableEq
structure aH8 where
 kind:Int
 a:Int
 b:Int
 deriving Inhabited,DecidableEq
structure bqR where
 x:Int
 y:Int
 k:Int
 deriving Inhabited,DecidableEq
structure br6 where
 ints:Int
 bools:Int
 lL:List bqR
 ug:List (List Int)
 deriving Inhabited,DecidableEq
def cA.c(x:cA):List AV:=[st x.name,iv x.index,iv x.size,bv x.vol,iv x.init]
def dS.c(x:dS):List AV:=[st x.name,bv x.rw]
def aOw.c(x:aOw):List AV:=[st x.name,iv x.eg]
def dL.c(x:dL):List AV:=[iv x.aq,iv x.stmt,iv x.line]
def J9.c(x:J9):List AV:=[sl cA.c x.cells,sl dS.c x.ak,sl aOw.c x.bC,sl cs x.bU,sl cs x.ay,sl dL.c x.dU]
def cg.c(x:cg):List AV:=[iv x.awG,sl ci x.bk]
def aoC.c(x:aoC):List AV:=[iv x.cQ,iv x.cond,bv x.atomic]
def aW.c(x:aW):List AV:=[sl cg.c x.ak,iv x.tx,sl cb x.done,sl aoC.c x.ay]
def sA.c(x:sA):List AV:=[sl cg.c x.gp.ak,iv x.gp.tx,sl cb x.gp.done,sl aoC.c x.gp.ay,sl ci x.cells,sl ci x.bU,sl ci x.count]
def aP.c(x:aP):List AV:=[iv x.aq,iv x.kind,iv x.f8,iv x.value,iv x.site,sl ci x.dI,sl ci x.ep]
def gz.c(x:gz):List AV:=[sl cA.c x.aQ.cells,sl dS.c x.aQ.ak,sl aOw.c x.aQ.bC,sl cs x.aQ.bU,sl cs x.aQ.ay,sl dL.c x.aQ.dU,iv x.start,sl cg.c x.init.gp.ak,iv x.init.gp.tx,sl cb x.init.gp.done,sl aoC.c x.init.gp.ay,sl ci x.init.cells,sl ci x.init.bU,sl ci x.init.count,sl aP.c x.ac]
def cJ.c(x:cJ):List AV:=[iv x.kind,iv x.ea,iv x.eb,iv x.ec,iv x.ed,sl ci x.cW]
def aH8.c(x:aH8):List AV:=[iv x.kind,iv x.a,iv x.b]
def bqR.c(x:bqR):List AV:=[iv x.x,iv x.y,iv x.k]
def cl(x:List Int):List AV:=[sl ci x]
def br6.c(x:br6):List AV:=[iv x.ints,iv x.bools,sl bqR.c x.lL,sl cl x.ug]
section
variable{K:j4}{Y:ae}{i:Int}
def amX{l:List Int}:rV (cz 1 Y (sl ci l)<|iv i) K=(aF (L l) i/\K (.q<|ci<|gd l i.toNat)):=aBz λ_=>rfl
def aCc{l:List Bool}:rV (cz 1 Y (sl cb l)<|iv i) K=(aF (L l) i/\K (.q<|cb<|gd l i.toNat)):=aBz λ_=>rfl
def amY{l:List ByteArray}:rV (cz 1 Y (sl cs l)<|iv i) K=(aF (L l) i/\K (.q<|cs<|gd l i.toNat)):=aBz λ_=>rfl
def aCe{l:List (List Int)}:rV (cz 1 Y (sl cl l)<|iv i) K=(aF (L l) i/\K (.q<|cl<|gd l i.toNat)):=aBz λ_=>rfl
def aCd{l:List cA}:rV (cz 5 Y (sl cA.c l)<|iv i) K=(aF (L l) i/\K (.q<|cA.c<|gd l i.toNat)):=aBz λ_=>rfl
def aCk{l:List dS}:rV (cz 2 Y (sl dS.c l)<|iv i) K=(aF (L l) i/\K (.q<|dS.c<|gd l i.toNat)):=aBz λ_=>rfl
def aCf{l:List aOw}:rV (cz 2 Y (sl aOw.c l)<|iv i) K=(aF (L l) i/\K (.q<|aOw.c<|gd l i.toNat)):=aBz λ_=>rfl
def aCl{l:List dL}:rV (cz 3 Y (sl dL.c l)<|iv i) K=(aF (L l) i/\K (.q<|dL.c<|gd l i.toNat)):=aBz λ_=>rfl
def am0{l:List cg}:rV (cz 2 Y (sl cg.c l)<|iv i) K=(aF (L l) i/\K (.q<|cg.c<|gd l i.toNat)):=aBz λ_=>rfl
def am2{l:List aoC}:rV (cz 3 Y (sl aoC.c l)<|iv i) K=(aF (L l) i/\K (.q<|aoC.c<|gd l i.toNat)):=aBz λ_=>rfl
def aCh{l:List aP}:rV (cz 7 Y (sl aP.c l)<|iv i) K=(aF (L l) i/\K (.q<|aP.c<|gd l i.toNat)):=aBz λ_=>rfl
def aCi{l:List cJ}:rV (cz 6 Y (sl cJ.c l)<|iv i) K=(aF (L l) i/\K (.q<|cJ.c<|gd l i.toNat)):=aBz λ_=>rfl
def aCm{l:List aH8}:rV (cz 3 Y (sl aH8.c l)<|iv i) K=(aF (L l) i/\K (.q<|aH8.c<|gd l i.toNat)):=aBz λ_=>rfl
def aCg{l:List bqR}:rV (cz 3 Y (sl bqR.c l)<|iv i) K=(aF (L l) i/\K (.q<|bqR.c<|gd l i.toNat)):=aBz λ_=>rfl
end
def awN{x:cA}:cA.c x=[st x.name,iv x.index,iv x.size,bv x.vol,iv x.init]:=rfl
def cc:=@awN
def ix:=ai @amX<|ai @aCc<|ai @amY<|ai @aCe<|ai @aCd<|ai @aCk<|ai @aCf<|ai @aCl<|ai @am0<|ai @am2<|ai @aCh<|ai @aCi<|ai @aCm<|@aCg
section
variable{K:j4}{KE:be}{Y:ae}{d k v:Nat}{x:bY}{e:TypeId}{z:Nat}{cs zs:List AV}
def D3:L (put Y d x)=L Y:=by simp[put]
def uC{b:Id}:L (wr Y b x)=L Y:=by simp[wr]
theorem yk(h:k≠d):aZ (put Y d x) k=aZ Y k:=by grind [aZ,put,oq]
theorem wy{b:Id}(h:k≠b.1):aZ (wr Y b x) k=aZ Y k:=by grind [aZ,wr,oq]
theorem zQ(h:d<L Y)(a:(aZ Y d).I6+1=v):box (put Y d x) (d,v)=V x:=by rw[<-a];exact be7 h
theorem aC5{b:Id}{i j:Nat}{q:Option Nat}:vp q Y (.p b i j)=((box Y b).bind λx=>(x.bA[i]?).map (·.drop j)).bind (aN q):=rfl
theorem rR{b:Id}{i j n:Nat}:iQ n Y (.p b i j)=(box Y b).map λ_=> .p b i (j+n):=rfl
end
def aD0{x:bY}{f:bY->AV}:(V x).map f=V (f x):=rfl
def aww{x:bY}{f:bY->Option (List AV)}:(V x).bind f=f x:=rfl
def awx{l:List AV}{f:List AV->Option AV}:(V l).bind f=f l:=rfl
def aD1{l:List AV}{f:List AV->List AV}:(V l).map f=V (f l):=rfl
def aBF{r:List AV}{l:List (List AV)}:(r::l)[0]?=V r:=rfl
def axE{l:List AV}:l.drop 0=l:=rfl
theorem dJ{n k:Nat}(h:k<n):aF n (k:Int):=⟨by omega,by omega⟩
theorem aL{k n:Nat}(h:Q ((k:Int)<(n:Int))=U):k<n:=by simpa using h
theorem bw{k n:Nat}(h:Q ((k:Int)<(n:Int))=I):n<=k:=by simpa using h
theorem bT{α:Type}[Inhabited α]{l:List α}{k:Nat}(h:k<L l):gd l k=l[k]:=by simp[gd,h]
def px{α:Type}[Inhabited α]{l:List α}{p:α->Prop}:(∀j,j<L l->p (gd l j))↔∀x∈l,p x:=by grind [ou,bT,List.getElem_mem]
def a6p{p:Nat->Prop}{k:Nat}(h:∀j,j<k->p j)(a:p k):∀j,j<k+1->p j:=(by grind)
theorem asq{α:Type}[Inhabited α]{l:List α}{k:Nat}(h:k<L l):gd l k∈l:=by grind [bT]
def u1:=ai @av4<|ai @av2<|ai @av1<|ai @avY<|ai @iM<|ai @av6<|ai @cS<|ai @alr<|ai @av5<|ai @avU<|ai @avV<|ai @alq<|ai @aIN<|ai @cT<|ai @azQ<|ai @aC5<|ai @rR<|ai @uR<|ai @aFi<|ai @au<|ai @fE<|ai @a7i<|ai @di<|ai @aI<|ai @aD0<|ai @aww<|ai @awx<|ai @aD1<|ai @aBF<|@axE
def J9.ext_iff'{x y:J9}:(x=y)=(x.cells=y.cells/\x.ak=y.ak/\x.bC=y.bC/\x.bU=y.bU/\x.ay=y.ay/\x.dU=y.dU):=by cases x;cases y;simp
def aW.ext_iff'{x y:aW}:(x=y)=(x.ak=y.ak/\x.tx=y.tx/\x.done=y.done/\x.ay=y.ay):=by cases x;cases y;simp
def sA.ext_iff'{x y:sA}:(x=y)=(x.gp.ak=y.gp.ak/\x.gp.tx=y.gp.tx/\x.gp.done=y.gp.done/\x.gp.ay=y.gp.ay/\x.cells=y.cells/\x.bU=y.bU/\x.count=y.count):=by obtain⟨⟨a,b,c,d⟩,e,f,g⟩:=x;obtain⟨⟨h,j,l,m⟩,n,o,p⟩:=y;grind
theorem kL{α:Type}{f:α->List AV}(a:∀x y,f x=f y->x=y){l l':List α}:(sl f l=sl f l')=(l=l'):=by apply aPe;constructor;intro h;simp only[sl,AV.l.injEq,aO5] at h;(induction l generalizing l' with|nil=>simp_all|cons x l b=>cases l' with|nil=>simp at h|cons y l'=>grind);simp_all
def aN8{l l':List Int}:(sl ci l=sl ci l')=(l=l'):=kL (by intro x y h;simpa using h)
def mD{l l':List Bool}:(sl cb l=sl cb l')=(l=l'):=kL (by intro x y h;simpa using h)
def mF{l l':List ByteArray}:(sl cs l=sl cs l')=(l=l'):=kL (by intro x y h;simpa using h)
def mE{l l':List (List Int)}:(sl cl l=sl cl l')=(l=l'):=kL (by intro x y h;simpa[cl,aN8] using h)
theorem amH{x y:cA}:(cA.c x=cA.c y)=(x=y):=by apply aPe;constructor;intro h;(cases x;cases y);simp only[cA.c,kO,AV.s.injEq,mW,mV,mX,GL,aO5,aN8,mD,mF,mE] at h;simp only[cA.mk.injEq,J9.ext_iff',aW.ext_iff',sA.ext_iff',bj5];exact h;intro h;rw[h]
def nz{l l':List cA}:(sl cA.c l=sl cA.c l')=(l=l'):=(by grind [kL,amH])
theorem amN{x y:dS}:(dS.c x=dS.c y)=(x=y):=by apply aPe;constructor;intro h;(cases x;cases y);simp only[dS.c,kO,AV.s.injEq,mW,mV,mX,GL,aO5,aN8,mD,mF,mE,nz] at h;simp only[dS.mk.injEq,J9.ext_iff',aW.ext_iff',sA.ext_iff',bj5];exact h;intro h;rw[h]
def nY{l l':List dS}:(sl dS.c l=sl dS.c l')=(l=l'):=(by grind [kL,amN])
theorem amI{x y:aOw}:(aOw.c x=aOw.c y)=(x=y):=by apply aPe;constructor;intro h;(cases x;cases y);simp only[aOw.c,kO,AV.s.injEq,mW,mV,mX,GL,aO5,aN8,mD,mF,mE,nz,nY] at h;simp only[aOw.mk.injEq,J9.ext_iff',aW.ext_iff',sA.ext_iff',bj5];exact h;intro h;rw[h]
def oN{l l':List aOw}:(sl aOw.c l=sl aOw.c l')=(l=l'):=(by grind [kL,amI])
theorem amP{x y:dL}:(dL.c x=dL.c y)=(x=y):=by apply aPe;constructor;intro h;(cases x;cases y);simp only[dL.c,kO,AV.s.injEq,mW,mV,mX,GL,aO5,aN8,mD,mF,mE,nz,nY,oN] at h;simp only[dL.mk.injEq,J9.ext_iff',aW.ext_iff',sA.ext_iff',bj5];exact h;intro h;rw[h]
def pL{l l':List dL}:(sl dL.c l=sl dL.c l')=(l=l'):=(by grind [kL,amP])
theorem amU{x y:J9}:(J9.c x=J9.c y)=(x=y):=by apply aPe;constructor;intro h;(cases x;cases y);simp only[J9.c,kO,AV.s.injEq,mW,mV,mX,GL,aO5,aN8,mD,mF,mE,nz,nY,oN,pL] at h;simp only[J9.mk.injEq,J9.ext_iff',aW.ext_iff',sA.ext_iff',bj5];exact h;intro h;rw[h]
def qJ{l l':List J9}:(sl J9.c l=sl J9.c l')=(l=l'):=(by grind [kL,amU])
theorem amO{x y:cg}:(cg.c x=cg.c y)=(x=y):=by apply aPe;constructor;intro h;(cases x;cases y);simp only[cg.c,kO,AV.s.injEq,mW,mV,mX,GL,aO5,aN8,mD,mF,mE,nz,nY,oN,pL,qJ] at h;simp only[cg.mk.injEq,J9.ext_iff',aW.ext_iff',sA.ext_iff',bj5];exact h;intro h;rw[h]
def rY{l l':List cg}:(sl cg.c l=sl cg.c l')=(l=l'):=(by grind [kL,amO])
theorem amS{x y:aoC}:(aoC.c x=aoC.c y)=(x=y):=by apply aPe;constructor;intro h;(cases x;cases y);simp only[aoC.c,kO,AV.s.injEq,mW,mV,mX,GL,aO5,aN8,mD,mF,mE,nz,nY,oN,pL,qJ,rY] at h;simp only[aoC.mk.injEq,J9.ext_iff',aW.ext_iff',sA.ext_iff',bj5];exact h;intro h;rw[h]
def td{l l':List aoC}:(sl aoC.c l=sl aoC.c l')=(l=l'):=(by grind [kL,amS])
theorem amR{x y:aW}:(aW.c x=aW.c y)=(x=y):=by apply aPe;constructor;intro h;(cases x;cases y);simp only[aW.c,kO,AV.s.injEq,mW,mV,mX,GL,aO5,aN8,mD,mF,mE,nz,nY,oN,pL,qJ,rY,td] at h;simp only[aW.mk.injEq,J9.ext_iff',aW.ext_iff',sA.ext_iff',bj5];exact h;intro h;rw[h]
def uz{l l':List aW}:(sl aW.c l=sl aW.c l')=(l=l'):=(by grind [kL,amR])
theorem amQ{x y:sA}:(sA.c x=sA.c y)=(x=y):=by apply aPe;constructor;intro h;(cases x;cases y);simp only[sA.c,kO,AV.s.injEq,mW,mV,mX,GL,aO5,aN8,mD,mF,mE,nz,nY,oN,pL,qJ,rY,td,uz] at h;simp only[sA.mk.injEq,J9.ext_iff',aW.ext_iff',sA.ext_iff',bj5];exact h;intro h;rw[h]
def wq{l l':List sA}:(sl sA.c l=sl sA.c l')=(l=l'):=(by grind [kL,amQ])
theorem amK{x y:aP}:(aP.c x=aP.c y)=(x=y):=by apply aPe;constructor;intro h;(cases x;cases y);simp only[aP.c,kO,AV.s.injEq,mW,mV,mX,GL,aO5,aN8,mD,mF,mE,nz,nY,oN,pL,qJ,rY,td,uz,wq] at h;simp only[aP.mk.injEq,J9.ext_iff',aW.ext_iff',sA.ext_iff',bj5];exact h;intro h;rw[h]
def yb{l l':List aP}:(sl aP.c l=sl aP.c l')=(l=l'):=(by grind [kL,amK])
theorem bo0{x y:gz}:(gz.c x=gz.c y)=(x=y):=by apply aPe;constructor;intro h;(cases x;cases y);simp only[gz.c,kO,AV.s.injEq,mW,mV,mX,GL,aO5,aN8,mD,mF,mE,nz,nY,oN,pL,qJ,rY,td,uz,wq,yb] at h;simp only[gz.mk.injEq,J9.ext_iff',aW.ext_iff',sA.ext_iff',bj5];exact h;intro h;rw[h]
def AE{l l':List gz}:(sl gz.c l=sl gz.c l')=(l=l'):=(by grind [kL,bo0])
theorem amM{x y:cJ}:(cJ.c x=cJ.c y)=(x=y):=by apply aPe;constructor;intro h;(cases x;cases y);simp only[cJ.c,kO,AV.s.injEq,mW,mV,mX,GL,aO5,aN8,mD,mF,mE,nz,nY,oN,pL,qJ,rY,td,uz,wq,yb,AE] at h;simp only[cJ.mk.injEq,J9.ext_iff',aW.ext_iff',sA.ext_iff',bj5];exact h;intro h;rw[h]
def DS{l l':List cJ}:(sl cJ.c l=sl cJ.c l')=(l=l'):=(by grind [kL,amM])
theorem amT{x y:aH8}:(aH8.c x=aH8.c y)=(x=y):=by apply aPe;constructor;intro h;(cases x;cases y);simp only[aH8.c,kO,AV.s.injEq,mW,mV,mX,GL,aO5,aN8,mD,mF,mE,nz,nY,oN,pL,qJ,rY,td,uz,wq,yb,AE,DS] at h;simp only[aH8.mk.injEq,J9.ext_iff',aW.ext_iff',sA.ext_iff',bj5];exact h;intro h;rw[h]
def bcT{l l':List aH8}:(sl aH8.c l=sl aH8.c l')=(l=l'):=(by grind [kL,amT])
theorem amJ{x y:bqR}:(bqR.c x=bqR.c y)=(x=y):=by apply aPe;constructor;intro h;(cases x;cases y);simp only[bqR.c,kO,AV.s.injEq,mW,mV,mX,GL,aO5,aN8,mD,mF,mE,nz,nY,oN,pL,qJ,rY,td,uz,wq,yb,AE,DS,bcT] at h;simp only[bqR.mk.injEq,J9.ext_iff',aW.ext_iff',sA.ext_iff',bj5];exact h;intro h;rw[h]
def amW{l l':List bqR}:(sl bqR.c l=sl bqR.c l')=(l=l'):=(by grind [kL,amJ])
def amL{x y:br6}:(br6.c x=br6.c y)=(x=y):=by apply aPe;constructor;intro h;(cases x;cases y);simp only[br6.c,kO,AV.s.injEq,mW,mV,mX,GL,aO5,aN8,mD,mF,mE,nz,nY,oN,pL,qJ,rY,td,uz,wq,yb,AE,DS,bcT,amW] at h;simp only[br6.mk.injEq,J9.ext_iff',aW.ext_iff',sA.ext_iff',bj5];exact h;intro h;rw[h]
def amV:=ai @aN8<|ai @mD<|ai @mF<|ai @mE<|ai @nz<|ai @nY<|ai @oN<|ai @pL<|ai @amU<|ai @rY<|ai @amS<|ai @td<|ai @amR<|ai @uz<|ai @amQ<|ai @amK<|ai @yb<|ai @bo0<|ai @amM<|ai @amT<|ai @bcT<|@amL
def aGq{x:cA}:aN J (cA.c x)=V (st x.name):=rfl
def aGr{x:cA}:aN J ((cA.c x).drop 1)=V (iv x.index):=rfl
def aGs{x:cA}:aN J ((cA.c x).drop 2)=V (iv x.size):=rfl
def aGt{x:cA}:aN J ((cA.c x).drop 3)=V (bv x.vol):=rfl
def aGu{x:cA}:aN J ((cA.c x).drop 4)=V (iv x.init):=rfl
def aGv{x:cA}:aN (V 5) (cA.c x)=V (.a<|cA.c x):=rfl
def aG0{x:dS}:aN J (dS.c x)=V (st x.name):=rfl
def aG1{x:dS}:aN J ((dS.c x).drop 1)=V (bv x.rw):=rfl
def aG2{x:dS}:aN (V 2) (dS.c x)=V (.a<|dS.c x):=rfl
def aGy{x:aOw}:aN J (aOw.c x)=V (st x.name):=rfl
def aGz{x:aOw}:aN J ((aOw.c x).drop 1)=V (iv x.eg):=rfl
def aGA{x:aOw}:aN (V 2) (aOw.c x)=V (.a<|aOw.c x):=rfl
def aG6{x:dL}:aN J (dL.c x)=V (iv x.aq):=rfl
def aG7{x:dL}:aN J ((dL.c x).drop 1)=V (iv x.stmt):=rfl
def aG9{x:dL}:aN (V 3) (dL.c x)=V (.a<|dL.c x):=rfl
def aHP{x:J9}:aN J (J9.c x)=V (sl cA.c x.cells):=rfl
def aHQ{x:J9}:aN J ((J9.c x).drop 1)=V (sl dS.c x.ak):=rfl
def aHR{x:J9}:aN J ((J9.c x).drop 2)=V (sl aOw.c x.bC):=rfl
def aHS{x:J9}:aN J ((J9.c x).drop 3)=V (sl cs x.bU):=rfl
def aHT{x:J9}:aN J ((J9.c x).drop 4)=V (sl cs x.ay):=rfl
def aHU{x:J9}:aN J ((J9.c x).drop 5)=V (sl dL.c x.dU):=rfl
def aHV{x:J9}:aN (V 6) (J9.c x)=V (.a<|J9.c x):=rfl
def aG3{x:cg}:aN J (cg.c x)=V (iv x.awG):=rfl
def aG4{x:cg}:aN J ((cg.c x).drop 1)=V (sl ci x.bk):=rfl
def aG5{x:cg}:aN (V 2) (cg.c x)=V (.a<|cg.c x):=rfl
def aHo{x:aoC}:aN J (aoC.c x)=V (iv x.cQ):=rfl
def aHp{x:aoC}:aN J ((aoC.c x).drop 1)=V (iv x.cond):=rfl
def aHq{x:aoC}:aN J ((aoC.c x).drop 2)=V (bv x.atomic):=rfl
def aHr{x:aoC}:aN (V 3) (aoC.c x)=V (.a<|aoC.c x):=rfl
def aHj{x:aW}:aN J (aW.c x)=V (sl cg.c x.ak):=rfl
def aHk{x:aW}:aN J ((aW.c x).drop 1)=V (iv x.tx):=rfl
def aHl{x:aW}:aN J ((aW.c x).drop 2)=V (sl cb x.done):=rfl
def aHm{x:aW}:aN J ((aW.c x).drop 3)=V (sl aoC.c x.ay):=rfl
def aHn{x:aW}:aN (V 4) (aW.c x)=V (.a<|aW.c x):=rfl
def aHc{x:sA}:aN J ((sA.c x).drop 2)=V (sl cb x.gp.done):=rfl
def aHd{x:sA}:aN J ((sA.c x).drop 3)=V (sl aoC.c x.gp.ay):=rfl
def aHe{x:sA}:aN J ((sA.c x).drop 4)=V (sl ci x.cells):=rfl
def aHf{x:sA}:aN J ((sA.c x).drop 5)=V (sl ci x.bU):=rfl
def aHg{x:sA}:aN J ((sA.c x).drop 6)=V (sl ci x.count):=rfl
def aHh{x:sA}:aN (V 7) (sA.c x)=V (.a<|sA.c x):=rfl
def aHi{x:sA}:aN (V 4) (sA.c x)=V (.a<|aW.c x.gp):=rfl
def aGG{x:aP}:aN J (aP.c x)=V (iv x.aq):=rfl
def aGH{x:aP}:aN J ((aP.c x).drop 1)=V (iv x.kind):=rfl
def aGI{x:aP}:aN J ((aP.c x).drop 2)=V (iv x.f8):=rfl
def aGJ{x:aP}:aN J ((aP.c x).drop 3)=V (iv x.value):=rfl
def aGK{x:aP}:aN J ((aP.c x).drop 4)=V (iv x.site):=rfl
def aGL{x:aP}:aN J ((aP.c x).drop 5)=V (sl ci x.dI):=rfl
def aGM{x:aP}:aN J ((aP.c x).drop 6)=V (sl ci x.ep):=rfl
def aGN{x:aP}:aN (V 7) (aP.c x)=V (.a<|aP.c x):=rfl
def aHw{x:gz}:aN J (gz.c x)=V (sl cA.c x.aQ.cells):=rfl
def aHx{x:gz}:aN J ((gz.c x).drop 1)=V (sl dS.c x.aQ.ak):=rfl
def aHD{x:gz}:aN J ((gz.c x).drop 2)=V (sl aOw.c x.aQ.bC):=rfl
def aHF{x:gz}:aN J ((gz.c x).drop 4)=V (sl cs x.aQ.ay):=rfl
def aHH{x:gz}:aN J ((gz.c x).drop 6)=V (iv x.start):=rfl
def aHI{x:gz}:aN J ((gz.c x).drop 7)=V (sl cg.c x.init.gp.ak):=rfl
def aHJ{x:gz}:aN J ((gz.c x).drop 8)=V (iv x.init.gp.tx):=rfl
def aHK{x:gz}:aN J ((gz.c x).drop 9)=V (sl cb x.init.gp.done):=rfl
def aHy{x:gz}:aN J ((gz.c x).drop 10)=V (sl aoC.c x.init.gp.ay):=rfl
def aHz{x:gz}:aN J ((gz.c x).drop 11)=V (sl ci x.init.cells):=rfl
def aHA{x:gz}:aN J ((gz.c x).drop 12)=V (sl ci x.init.bU):=rfl
def aHB{x:gz}:aN J ((gz.c x).drop 13)=V (sl ci x.init.count):=rfl
def aHC{x:gz}:aN J ((gz.c x).drop 14)=V (sl aP.c x.ac):=rfl
def aHN{x:gz}:aN (V 15) (gz.c x)=V (.a<|gz.c x):=rfl
def aHO{x:gz}:aN (V 6) (gz.c x)=V (.a<|J9.c x.aQ):=rfl
def aHL{x:gz}:aN (V 7) ((gz.c x).drop 7)=V (.a<|sA.c x.init):=rfl
def aHM{x:gz}:aN (V 4) ((gz.c x).drop 7)=V (.a<|aW.c x.init.gp):=rfl
def aGT{x:cJ}:aN J (cJ.c x)=V (iv x.kind):=rfl
def aGU{x:cJ}:aN J ((cJ.c x).drop 1)=V (iv x.ea):=rfl
def aGV{x:cJ}:aN J ((cJ.c x).drop 2)=V (iv x.eb):=rfl
def aGW{x:cJ}:aN J ((cJ.c x).drop 3)=V (iv x.ec):=rfl
def aGX{x:cJ}:aN J ((cJ.c x).drop 4)=V (iv x.ed):=rfl
def aGY{x:cJ}:aN J ((cJ.c x).drop 5)=V (sl ci x.cW):=rfl
def aGZ{x:cJ}:aN (V 6) (cJ.c x)=V (.a<|cJ.c x):=rfl
def aHs{x:aH8}:aN J (aH8.c x)=V (iv x.kind):=rfl
def aHt{x:aH8}:aN J ((aH8.c x).drop 1)=V (iv x.a):=rfl
def aHu{x:aH8}:aN J ((aH8.c x).drop 2)=V (iv x.b):=rfl
def aHv{x:aH8}:aN (V 3) (aH8.c x)=V (.a<|aH8.c x):=rfl
def aGC{x:bqR}:aN J (bqR.c x)=V (iv x.x):=rfl
def aGD{x:bqR}:aN J ((bqR.c x).drop 1)=V (iv x.y):=rfl
def aGE{x:bqR}:aN J ((bqR.c x).drop 2)=V (iv x.k):=rfl
def aGF{x:bqR}:aN (V 3) (bqR.c x)=V (.a<|bqR.c x):=rfl
def aGO{x:br6}:aN J (br6.c x)=V (iv x.ints):=rfl
def aGP{x:br6}:aN J ((br6.c x).drop 1)=V (iv x.bools):=rfl
def aGQ{x:br6}:aN J ((br6.c x).drop 2)=V (sl bqR.c x.lL):=rfl
def aGR{x:br6}:aN J ((br6.c x).drop 3)=V (sl cl x.ug):=rfl
def aGw{x:Int}:aN J (ci x)=V (iv x):=rfl
def aGp{x:Bool}:aN J (cb x)=V (bv x):=rfl
def aGB{x:ByteArray}:aN J (cs x)=V (st x):=rfl
def aC6{q:Option Nat}{Y:ae}{cs:List AV}:vp q Y (.q cs)=aN q cs:=rfl
def dd{l:List AV}{a b:Nat}:(l.drop a).drop b=l.drop (a+b):=List.drop_drop
def zN{Y:ae}{x:J9}:dG Y (.a<|J9.c x)= .a (J9.c x):=rfl
def avI{Y:ae}{x:aoC}:dG Y (.a<|aoC.c x)= .a (aoC.c x):=rfl
def avH{Y:ae}{x:aW}:dG Y (.a<|aW.c x)= .a (aW.c x):=rfl
def avG{Y:ae}{x:sA}:dG Y (.a<|sA.c x)= .a (sA.c x):=rfl
def CU{Y:ae}{x:aP}:dG Y (.a<|aP.c x)= .a (aP.c x):=rfl
def sH{Y:ae}{x:gz}:dG Y (.a<|gz.c x)= .a (gz.c x):=rfl
def Kl{Y:ae}{x:cJ}:dG Y (.a<|cJ.c x)= .a (cJ.c x):=rfl
def avJ{Y:ae}{x:aH8}:dG Y (.a<|aH8.c x)= .a (aH8.c x):=rfl
def ar:=ai @jM<|ai @jt<|ai @kU<|ai @tW<|ai @alg<|ai @CV<|ai @AL<|ai @Ql<|ai @QQ<|ai @gT<|ai @GL<|ai @zN<|ai @avI<|ai @avH<|ai @avG<|ai @CU<|ai @sH<|ai @Kl<|@avJ
def rk:=ai @aGq<|ai @aGr<|ai @aGs<|ai @aGt<|ai @aGu<|ai @aGv<|ai @aG0<|ai @aG1<|ai @aG2<|ai @aGy<|ai @aGz<|ai @aGA<|ai @aG6<|ai @aG7<|ai @aG9<|ai @aHP<|ai @aHQ<|ai @aHR<|ai @aHS<|ai @aHT<|ai @aHU<|ai @aHV<|ai @aG3<|ai @aG4<|ai @aG5<|ai @aHo<|ai @aHp<|ai @aHq<|ai @aHr<|ai @aHj<|ai @aHk<|ai @aHl<|ai @aHm<|ai @aHn<|ai @aHc<|ai @aHd<|ai @aHe<|ai @aHf<|ai @aHg<|ai @aHh<|ai @aHi<|ai @aGG<|ai @aGH<|ai @aGI<|ai @aGJ<|ai @aGK<|ai @aGL<|ai @aGM<|ai @aGN<|ai @aHw<|ai @aHx<|ai @aHD<|ai @aHF<|ai @aHH<|ai @aHI<|ai @aHJ<|ai @aHK<|ai @aHy<|ai @aHz<|ai @aHA<|ai @aHB<|ai @aHC<|ai @aHN<|ai @aHO<|ai @aHL<|ai @aHM<|ai @aGT<|ai @aGU<|ai @aGV<|ai @aGW<|ai @aGX<|ai @aGY<|ai @aGZ<|ai @aHs<|ai @aHt<|ai @aHu<|ai @aHv<|ai @aGC<|ai @aGD<|ai @aGE<|ai @aGF<|ai @aGO<|ai @aGP<|ai @aGQ<|ai @aGR<|ai @aGw<|ai @aGp<|ai @aGB<|@aC6
def u7{n k:Nat}(h:Q ((k:Int)<(n:Int))=U):aF n (k:Int):=dJ<|aL h
def axz{a b:AV}{l m:List AV}:(a::l=b::m)=(a=b/\l=m):=by simp
def ass{A:Type}:(A->True)=True:=by simp
def asr{p:Prop}:(p->True)=True:=by simp
def ij:=ai @axz<|ai @AV.a.injEq<|ai @AV.s.injEq<|ai @mW<|ai @mV<|ai @mX<|ai @GL<|ai @aO5<|ai @amV<|ai @ass<|@asr
abbrev H0(W:ae->Prop):Prop:=∀s:ae,L s=4096->(∀k,aZ s k=mO)->W s
abbrev H1(t n p:Nat)(c:List AV)(W:be):Prop:=∀s:ae,L s=4096->box s (p,1)=V ⟨t,n,U,U,[c]⟩->(∀k,k≠p->aZ s k=mO)->W (.p (p,1) 0 0) s
abbrev H2(t n p:Nat)(c:List AV)(e d a:Nat)(b:List AV)(W:AV->be):Prop:=∀s:ae,L s=4096->box s (p,1)=V ⟨t,n,U,U,[c]⟩->box s (a,1)=V ⟨e,d,U,U,[b]⟩->(∀k,k≠p->k≠a->aZ s k=mO)->W (.p (p,1) 0 0) (.p (a,1) 0 0) s
section
variable{T:dO}(an:List<|Option<|List Nat×List Nat){f:Func}{fn:Nat}{xs:List AV}{R:j4}
def z0{W:ae->Prop}(c:eJ T)(a:aS.funcs[fn]?=V f)(h:H0 W)(b:uM an f (L xs)=U:=by kernel_rfl)(d:ZF aS GG T an f xs R=W (ly f):=by kernel_rfl):Ct fn xs R:=uq ready c a b<|aND d<|h _ uB<|i8 _
def z1{t n p:Nat}{c:List AV}{W:be}(m:eJ T)(g:aS.funcs[fn]?=V f)(l:L c=n)(h:H1 t n p c W)(j:uM an f (L xs)=U:=by kernel_rfl)(b:Q (p<4096/\0<n)=U:=by exact rfl)(o:ZF aS GG T an f xs R=eV (bxA t n (ly f) p<|.a c) W:=by kernel_rfl):Ct fn xs R:=by have b:=aNR b;refine uq ready m g j<|aND o ?_;refine mY (N:=4096) rfl l b.2 b.1 uB (by rw[i8]) λr q d s g0=>?_;exact h r q d (λk e=>by rw[g0 k e];exact i8 _ k)
def z2{t n p q d e:Nat}{c l:List AV}{W:AV->be}(B:eJ T)(y:aS.funcs[fn]?=V f)(A:L c=n)(m:L l=d)(h:H2 t n p c q d e l W)(z:uM an f (L xs)=U:=by kernel_rfl)(b:Q ((p<4096/\0<n)/\(e<4096/\0<d)/\p≠e)=U:=by exact rfl)(C:ZF aS GG T an f xs R=eV (bxA t n (ly f) p<|.a c) λi s=>eV (bxA q d s e<|.a l) λj s=>W i j s:=by kernel_rfl):Ct fn xs R:=by obtain⟨b,g,o⟩:=aNR b;refine uq ready B y z<|aND C ?_;refine mY (N:=4096) rfl A b.2 b.1 uB (by rw[i8]) λK D r H g0=>?_;refine mY (N:=4096) rfl m g.2 g.1 D (by rw[g0 _<|Sa o,i8]) λG E u v g1=>?_;exact h G E (by rw[v _ _ o];exact r) u (λk w x=>by rw[g1 k x,g0 k w];exact i8 _ k)
end
abbrev EB(fn:Nat)(xs:List AV)(Y:ae)(R:be):Prop:=∃r a,R r a/\cZ aS GG fn xs Y r a
def zB{G:zp}{T:dO}(an:List<|Option<|List Nat×List Nat){f:Func}{fn:Nat}{xs:List AV}{Y:ae}{R:be}{Q:Prop}(d:pq aS G T)(b:aS.funcs[fn]?=V f)(h:Q)(c:uM an f (L xs)=U:=by kernel_rfl)(e:ZB aS G T an f xs Y R=Q:=by kernel_rfl):∃r a,R r a/\cZ aS G fn xs Y r a:=aBe ready d b c<|aND e h
abbrev HB1(t n p:Nat)(c:List AV)(Y:ae)(W:be):Prop:=∀(s:ae) (v:Nat),Kp Y s->(∀k,k≠p->aZ s k=aZ Y k)->(∀x,box Y (p,v)≠V x)->box s (p,v)=V ⟨t,n,U,U,[c]⟩->W (.p (p,v) 0 0) s
abbrev HB2(t n p:Nat)(c:List AV)(e d a:Nat)(b:List AV)(Y:ae)(W:AV->be):Prop:=∀(s:ae) (v v':Nat),Kp Y s->(∀k,k≠p->k≠a->aZ s k=aZ Y k)->(∀x,box Y (p,v)≠V x)->(∀x,box Y (a,v')≠V x)->box s (p,v)=V ⟨t,n,U,U,[c]⟩->box s (a,v')=V ⟨e,d,U,U,[b]⟩->W (.p (p,v) 0 0) (.p (a,v') 0 0) s
def zB1{G:zp}{T:dO}(an:List<|Option<|List Nat×List Nat){f:Func}{fn t n p:Nat}{xs c:List AV}{Y:ae}{R W:be}(k:pq aS G T)(e:aS.funcs[fn]?=V f)(hs:L Y=4096)(j:L c=n)(h:HB1 t n p c Y W)(g:uM an f (L xs)=U:=by kernel_rfl)(b:Q (p<4096/\0<n)=U:=by exact rfl)(l:ZB aS G T an f xs Y R=eV (bxA t n Y p<|.a c) W:=by kernel_rfl):∃r d,R r d/\cZ aS G fn xs Y r d:=by have b:=aNR b;exact aBe ready k e g<|aND l<|iN rfl j b.2 b.1 hs h
def zB2{G:zp}{T:dO}(an:List<|Option<|List Nat×List Nat){f:Func}{fn t n p w d l:Nat}{xs c e:List AV}{Y:ae}{R:be}{W:AV->be}(H:pq aS G T)(B:aS.funcs[fn]?=V f)(hs:L Y=4096)(D:L c=n)(q:L e=d)(h:HB2 t n p c w d l e Y W)(C:uM an f (L xs)=U:=by kernel_rfl)(E:Q ((p<4096/\0<n)/\l<4096/\0<d)=U:=by exact rfl)(M:ZB aS G T an f xs Y R=eV (bxA t n Y p<|.a c) λi s=>eV (bxA w d s l<|.a e) λj s=>W i j s:=by kernel_rfl):∃r m,R r m/\cZ aS G fn xs Y r m:=by obtain⟨b,o⟩:=aNR E;refine aBe ready H B C<|aND M ?_;refine iN rfl D b.2 b.1 hs λS v g g0 N y=>?_;refine iN rfl q o.2 o.1 (g.len.trans hs) λP v' u g1 O z=>?_;exact h P v v' (g.trans u) (λk A b=>(g1 k b).trans<|g0 k A) N (λx K=>O x<|g.keep _ _ K) (u.keep _ _ y) z
abbrev H3(t n p:Nat)(c:List AV)(g d a:Nat)(b:List AV)(u m q:Nat)(e:List AV)(W:AV->AV->be):Prop:=∀s:ae,L s=4096->box s (p,1)=V ⟨t,n,U,U,[c]⟩->box s (a,1)=V ⟨g,d,U,U,[b]⟩->box s (q,1)=V ⟨u,m,U,U,[e]⟩->(∀k,k≠p->k≠a->k≠q->aZ s k=mO)->W (.p (p,1) 0 0) (.p (a,1) 0 0) (.p (q,1) 0 0) s
def z3{T:dO}(an:List<|Option<|List Nat×List Nat){f:Func}{fn t n p A g b u m q:Nat}{xs c o e:List AV}{R:j4}{W:AV->AV->be}(P:eJ T)(H:aS.funcs[fn]?=V f)(M:L c=n)(y:L o=g)(O:L e=m)(h:H3 t n p c A g b o u m q e W)(K:uM an f (L xs)=U:=by kernel_rfl)(d:Q ((p<4096/\0<n)/\(b<4096/\0<g)/\(q<4096/\0<m)/\p≠b/\p≠q/\b≠q)=U:=by exact rfl)(S:ZF aS GG T an f xs R=eV (bxA t n (ly f) p<|.a c) λi s=>eV (bxA A g s b<|.a o) λj s=>eV (bxA u m s q<|.a e) λk s=>W i j k s:=by kernel_rfl):Ct fn xs R:=by obtain⟨d,l,z,v,w,x⟩:=aNR d;refine uq ready P H K<|aND S ?_;refine mY (N:=4096) rfl M d.2 d.1 uB (by rw[i8]) λs2 q0 B f0 g0=>?_;refine mY (N:=4096) rfl y l.2 l.1 q0 (by rw[g0 _<|Sa v,i8]) λs3 q1 C E g1=>?_;refine mY (N:=4096) rfl O z.2 z.1 q1 (by rw[g1 _<|Sa x,g0 _<|Sa w,i8]) λs4 q2 D r G=>?_;exact h s4 q2 (by rw[r _ _ w,E _ _ v];exact B) (by rw[r _ _ x];exact C) D (λk X Z k2=>by rw[G k k2,g1 k Z,g0 k X];exact i8 _ k)
section
variable{i:Nat}(F:FT)
def BJ{a:List AV}{v:AV}(k:Ct i (a) (·=v)):FT:=λys K=>ys=a/\K (v)
def al2{a:List AV}{v:AV}(k:Ct i (a) (·=v))(Lw K:j4)(c:F=BJ k:=by exact rfl):fW F (a) Lw K=(Lw (v)/\K (v)):=by subst c;apply aPe;constructor;rintro⟨h,b⟩;exact b;intro h;exact⟨rfl,h⟩
def apM{a:List AV}{v:AV}(k:Ct i (a) (·=v))(b:∀_:Unit,(a).all iX=U:=by intros;exact rfl):∀ys K,BJ k ys K->jz aS GG i ys K:=by rintro ys K ⟨rfl,h⟩;exact nX (k) (b ()) (λr c=>by rw[c];exact h)
def BK{a:List AV}{b:j4}(k:Ct i (a)<|b):FT:=λys K=>ys=a/\∀r,b r->K r
def al3{a:List AV}{b:j4}(k:Ct i (a)<|b)(Lw K:j4)(d:F=BK k:=by exact rfl):fW F (a) Lw K=(∀r,b r->Lw r/\K r):=by subst d;apply aPe;constructor;rintro⟨h,c⟩;exact c;intro h;exact⟨rfl,h⟩
def apN{a:List AV}{d:j4}(k:Ct i (a)<|d)(b:∀_:Unit,(a).all iX=U:=by intros;exact rfl):∀ys K,BK k ys K->jz aS GG i ys K:=by rintro ys K ⟨rfl,h⟩;exact nX (k) (b ()) (λr c=>h r c)
def lH{A:Type}{b:A->List AV}{v:A->AV}(k:∀a,Ct i (b a) (·=v a)):FT:=λys K=>∃a,ys=b a/\K (v a)
def np{A:Type}{b:A->List AV}{v:A->AV}(k:∀a,Ct i (b a) (·=v a))(a:A)(Lw K:j4)(e:F=lH k:=by exact rfl)(j:∀a c,b a=b c->a=c:=by simp+contextual only[ij]):fW F (b a) Lw K=(Lw (v a)/\K (v a)):=by subst e;apply aPe;constructor;rintro⟨c,h,d⟩;obtain rfl:=j _ _ h;exact d;intro h;exact⟨_,rfl,h⟩
def nH{A:Type}{b:A->List AV}{v:A->AV}(k:∀a,Ct i (b a) (·=v a))(c:∀a,(b a).all iX=U:=by intros;exact rfl):∀ys K,lH k ys K->jz aS GG i ys K:=by rintro ys K ⟨a,rfl,h⟩;exact nX (k a) (c a) (λr d=>by rw[d];exact h)
def mT{A:Type}{b:A->List AV}{c:A->Prop}{v:A->AV}(k:∀a,c a->Ct i (b a) (·=v a)):FT:=λys K=>∃a,ys=b a/\c a/\K (v a)
def f110{A:Type}{b:A->List AV}{d:A->Prop}{v:A->AV}(k:∀a,d a->Ct i (b a) (·=v a))(a:A)(Lw K:j4)(g:F=mT k:=by exact rfl)(j:∀a c,b a=b c->a=c:=by simp+contextual only[ij]):fW F (b a) Lw K=(d a/\Lw (v a)/\K (v a)):=by subst g;apply aPe;constructor;rintro⟨c,h,e⟩;obtain rfl:=j _ _ h;exact e;intro h;exact⟨_,rfl,h⟩
def pg{A:Type}{b:A->List AV}{g:A->Prop}{v:A->AV}(k:∀a,g a->Ct i (b a) (·=v a))(c:∀a,(b a).all iX=U:=by intros;exact rfl):∀ys K,mT k ys K->jz aS GG i ys K:=by rintro ys K ⟨a,rfl,d,h⟩;exact nX (k a d) (c a) (λr e=>by rw[e];exact h)
def om{A:Type}{b:A->List AV}{c:A->Prop}{d:A->j4}(k:∀a,c a->Ct i (b a) (d a)):FT:=λys K=>∃a,ys=b a/\c a/\∀r,d a r->K r
def f111{A:Type}{b:A->List AV}{d:A->Prop}{e:A->j4}(k:∀a,d a->Ct i (b a) (e a))(a:A)(Lw K:j4)(l:F=om k:=by exact rfl)(j:∀a c,b a=b c->a=c:=by simp+contextual only[ij]):fW F (b a) Lw K=(d a/\∀r,e a r->Lw r/\K r):=by subst l;apply aPe;constructor;rintro⟨c,h,g⟩;obtain rfl:=j _ _ h;exact g;intro h;exact⟨_,rfl,h⟩
def rj{A:Type}{b:A->List AV}{g:A->Prop}{j:A->j4}(k:∀a,g a->Ct i (b a) (j a))(c:∀a,(b a).all iX=U:=by intros;exact rfl):∀ys K,om k ys K->jz aS GG i ys K:=by rintro ys K ⟨a,rfl,d,h⟩;exact nX (k a d) (c a) (λr e=>h r e)
def lI{A B:Type}{c:A->B->List AV}{v:A->B->AV}(k:∀a b,Ct i (c a b) (·=v a b)):FT:=λys K=>∃a b,ys=c a b/\K (v a b)
def f200{A B:Type}{c:A->B->List AV}{v:A->B->AV}(k:∀a b,Ct i (c a b) (·=v a b))(a:A)(b:B)(Lw K:j4)(l:F=lI k:=by exact rfl)(j:∀a b d e,c a b=c d e->a=d/\b=e:=by simp+contextual only[ij]):fW F (c a b) Lw K=(Lw (v a b)/\K (v a b)):=by subst l;apply aPe;constructor;rintro⟨d,e,h,g⟩;obtain⟨rfl,rfl⟩:=j _ _ _ _ h;exact g;intro h;exact⟨_,_,rfl,h⟩
def nI{A B:Type}{c:A->B->List AV}{v:A->B->AV}(k:∀a b,Ct i (c a b) (·=v a b))(d:∀a b,(c a b).all iX=U:=by intros;exact rfl):∀ys K,lI k ys K->jz aS GG i ys K:=by rintro ys K ⟨a,b,rfl,h⟩;exact nX (k a b) (d a b) (λr e=>by rw[e];exact h)
def aIc{A B:Type}{c:A->B->List AV}{d:A->B->Prop}{v:A->B->AV}(k:∀a b,d a b->Ct i (c a b) (·=v a b)):FT:=λys K=>∃a b,ys=c a b/\d a b/\K (v a b)
def f210{A B:Type}{c:A->B->List AV}{g:A->B->Prop}{v:A->B->AV}(k:∀a b,g a b->Ct i (c a b) (·=v a b))(a:A)(b:B)(Lw K:j4)(m:F=aIc k:=by exact rfl)(j:∀a b d e,c a b=c d e->a=d/\b=e:=by simp+contextual only[ij]):fW F (c a b) Lw K=(g a b/\Lw (v a b)/\K (v a b)):=by subst m;apply aPe;constructor;rintro⟨d,e,h,l⟩;obtain⟨rfl,rfl⟩:=j _ _ _ _ h;exact l;intro h;exact⟨_,_,rfl,h⟩
def aCb{A B:Type}{c:A->B->List AV}{j:A->B->Prop}{v:A->B->AV}(k:∀a b,j a b->Ct i (c a b) (·=v a b))(d:∀a b,(c a b).all iX=U:=by intros;exact rfl):∀ys K,aIc k ys K->jz aS GG i ys K:=by rintro ys K ⟨a,b,rfl,e,h⟩;exact nX (k a b e) (d a b) (λr g=>by rw[g];exact h)
def pn{A B:Type}{c:A->B->List AV}{d:A->B->Prop}{e:A->B->j4}(k:∀a b,d a b->Ct i (c a b) (e a b)):FT:=λys K=>∃a b,ys=c a b/\d a b/\∀r,e a b r->K r
def f211{A B:Type}{c:A->B->List AV}{g:A->B->Prop}{l:A->B->j4}(k:∀a b,g a b->Ct i (c a b) (l a b))(a:A)(b:B)(Lw K:j4)(n:F=pn k:=by exact rfl)(j:∀a b d e,c a b=c d e->a=d/\b=e:=by simp+contextual only[ij]):fW F (c a b) Lw K=(g a b/\∀r,l a b r->Lw r/\K r):=by subst n;apply aPe;constructor;rintro⟨d,e,h,m⟩;obtain⟨rfl,rfl⟩:=j _ _ _ _ h;exact m;intro h;exact⟨_,_,rfl,h⟩
def aN0{A B:Type}{c:A->B->List AV}{j:A->B->Prop}{l:A->B->j4}(k:∀a b,j a b->Ct i (c a b) (l a b))(d:∀a b,(c a b).all iX=U:=by intros;exact rfl):∀ys K,pn k ys K->jz aS GG i ys K:=by rintro ys K ⟨a,b,rfl,e,h⟩;exact nX (k a b e) (d a b) (λr g=>h r g)
def za{A B C:Type}{d:A->B->C->List AV}{v:A->B->C->AV}(k:∀a b c,Ct i (d a b c) (·=v a b c)):FT:=λys K=>∃a b c,ys=d a b c/\K (v a b c)
def f300{A B C:Type}{d:A->B->C->List AV}{v:A->B->C->AV}(k:∀a b c,Ct i (d a b c) (·=v a b c))(a:A)(b:B)(c:C)(Lw K:j4)(n:F=za k:=by exact rfl)(j:∀a b c e g l,d a b c=d e g l->a=e/\b=g/\c=l:=by simp+contextual only[ij]):fW F (d a b c) Lw K=(Lw (v a b c)/\K (v a b c)):=by subst n;apply aPe;constructor;rintro⟨e,g,l,h,m⟩;obtain⟨rfl,rfl,rfl⟩:=j _ _ _ _ _ _ h;exact m;intro h;exact⟨_,_,_,rfl,h⟩
def Rs{A B C:Type}{d:A->B->C->List AV}{v:A->B->C->AV}(k:∀a b c,Ct i (d a b c) (·=v a b c))(e:∀a b c,(d a b c).all iX=U:=by intros;exact rfl):∀ys K,za k ys K->jz aS GG i ys K:=by rintro ys K ⟨a,b,c,rfl,h⟩;exact nX (k a b c) (e a b c) (λr g=>by rw[g];exact h)
def qe{A B C:Type}{d:A->B->C->List AV}{e:A->B->C->Prop}{v:A->B->C->AV}(k:∀a b c,e a b c->Ct i (d a b c) (·=v a b c)):FT:=λys K=>∃a b c,ys=d a b c/\e a b c/\K (v a b c)
def f310{A B C:Type}{d:A->B->C->List AV}{m:A->B->C->Prop}{v:A->B->C->AV}(k:∀a b c,m a b c->Ct i (d a b c) (·=v a b c))(a:A)(b:B)(c:C)(Lw K:j4)(o:F=qe k:=by exact rfl)(j:∀a b c e g l,d a b c=d e g l->a=e/\b=g/\c=l:=by simp+contextual only[ij]):fW F (d a b c) Lw K=(m a b c/\Lw (v a b c)/\K (v a b c)):=by subst o;apply aPe;constructor;rintro⟨e,g,l,h,n⟩;obtain⟨rfl,rfl,rfl⟩:=j _ _ _ _ _ _ h;exact n;intro h;exact⟨_,_,_,rfl,h⟩
def tE{A B C:Type}{d:A->B->C->List AV}{l:A->B->C->Prop}{v:A->B->C->AV}(k:∀a b c,l a b c->Ct i (d a b c) (·=v a b c))(e:∀a b c,(d a b c).all iX=U:=by intros;exact rfl):∀ys K,qe k ys K->jz aS GG i ys K:=by rintro ys K ⟨a,b,c,rfl,g,h⟩;exact nX (k a b c g) (e a b c) (λr j=>by rw[j];exact h)
def vn{A B C:Type}{d:A->B->C->List AV}{e:A->B->C->Prop}{g:A->B->C->j4}(k:∀a b c,e a b c->Ct i (d a b c) (g a b c)):FT:=λys K=>∃a b c,ys=d a b c/\e a b c/\∀r,g a b c r->K r
def f311{A B C:Type}{d:A->B->C->List AV}{m:A->B->C->Prop}{n:A->B->C->j4}(k:∀a b c,m a b c->Ct i (d a b c) (n a b c))(a:A)(b:B)(c:C)(Lw K:j4)(p:F=vn k:=by exact rfl)(j:∀a b c e g l,d a b c=d e g l->a=e/\b=g/\c=l:=by simp+contextual only[ij]):fW F (d a b c) Lw K=(m a b c/\∀r,n a b c r->Lw r/\K r):=by subst p;apply aPe;constructor;rintro⟨e,g,l,h,o⟩;obtain⟨rfl,rfl,rfl⟩:=j _ _ _ _ _ _ h;exact o;intro h;exact⟨_,_,_,rfl,h⟩
def By{A B C:Type}{d:A->B->C->List AV}{l:A->B->C->Prop}{m:A->B->C->j4}(k:∀a b c,l a b c->Ct i (d a b c) (m a b c))(e:∀a b c,(d a b c).all iX=U:=by intros;exact rfl):∀ys K,vn k ys K->jz aS GG i ys K:=by rintro ys K ⟨a,b,c,rfl,g,h⟩;exact nX (k a b c g) (e a b c) (λr j=>h r j)
def ER{A B C D:Type}{e:A->B->C->D->List AV}{g:A->B->C->D->Prop}{h:A->B->C->D->j4}(k:∀a b c d,g a b c d->Ct i (e a b c d) (h a b c d)):FT:=λys K=>∃a b c d,ys=e a b c d/\g a b c d/\∀r,h a b c d r->K r
def axQ{A B C D:Type}{e:A->B->C->D->List AV}{o:A->B->C->D->Prop}{p:A->B->C->D->j4}(k:∀a b c d,o a b c d->Ct i (e a b c d) (p a b c d))(a:A)(b:B)(c:C)(d:D)(Lw K:j4)(s:F=ER k:=by exact rfl)(j:∀a b c d g l m n,e a b c d=e g l m n->a=g/\b=l/\c=m/\d=n:=by simp+contextual only[ij]):fW F (e a b c d) Lw K=(o a b c d/\∀r,p a b c d r->Lw r/\K r):=by subst s;apply aPe;constructor;rintro⟨g,l,m,n,h,q⟩;obtain⟨rfl,rfl,rfl,rfl⟩:=j _ _ _ _ _ _ _ _ h;exact q;intro h;exact⟨_,_,_,_,rfl,h⟩
def aM6{A B C D:Type}{e:A->B->C->D->List AV}{m:A->B->C->D->Prop}{n:A->B->C->D->j4}(k:∀a b c d,m a b c d->Ct i (e a b c d) (n a b c d))(g:∀a b c d,(e a b c d).all iX=U:=by intros;exact rfl):∀ys K,ER k ys K->jz aS GG i ys K:=by rintro ys K ⟨a,b,c,d,rfl,j,h⟩;exact nX (k a b c d j) (g a b c d) (λr l=>h r l)
def bpg{A B C D E:Type}{g:A->B->C->D->E->List AV}{h:A->B->C->D->E->Prop}{v:A->B->C->D->E->AV}(k:∀a b c d e,h a b c d e->Ct i (g a b c d e) (·=v a b c d e)):FT:=λys K=>∃a b c d e,ys=g a b c d e/\h a b c d e/\K (v a b c d e)
def KQ{A B C D E:Type}{g:A->B->C->D->E->List AV}{q:A->B->C->D->E->Prop}{v:A->B->C->D->E->AV}(k:∀a b c d e,q a b c d e->Ct i (g a b c d e) (·=v a b c d e))(a:A)(b:B)(c:C)(d:D)(e:E)(Lw K:j4)(s:F=bpg k:=by exact rfl)(j:∀a b c d e l m n o p,g a b c d e=g l m n o p->a=l/\b=m/\c=n/\d=o/\e=p:=by simp+contextual only[ij]):fW F (g a b c d e) Lw K=(q a b c d e/\Lw (v a b c d e)/\K (v a b c d e)):=by subst s;apply aPe;constructor;rintro⟨l,m,n,o,p,h,r⟩;obtain⟨rfl,rfl,rfl,rfl,rfl⟩:=j _ _ _ _ _ _ _ _ _ _ h;exact r;intro h;exact⟨_,_,_,_,_,rfl,h⟩
def Rt{A B C D E:Type}{g:A->B->C->D->E->List AV}{n:A->B->C->D->E->Prop}{v:A->B->C->D->E->AV}(k:∀a b c d e,n a b c d e->Ct i (g a b c d e) (·=v a b c d e))(j:∀a b c d e,(g a b c d e).all iX=U:=by intros;exact rfl):∀ys K,bpg k ys K->jz aS GG i ys K:=by rintro ys K ⟨a,b,c,d,e,rfl,l,h⟩;exact nX (k a b c d e l) (j a b c d e) (λr m=>by rw[m];exact h)
def BL{A B C D E G:Type}{h:A->B->C->D->E->G->List AV}{j:A->B->C->D->E->G->Prop}{l:A->B->C->D->E->G->j4}(k:∀a b c d e g,j a b c d e g->Ct i (h a b c d e g) (l a b c d e g)):FT:=λys K=>∃a b c d e g,ys=h a b c d e g/\j a b c d e g/\∀r,l a b c d e g r->K r
def al4{A B C D E G:Type}{l:A->B->C->D->E->G->List AV}{t:A->B->C->D->E->G->Prop}{u:A->B->C->D->E->G->j4}(k:∀a b c d e g,t a b c d e g->Ct i (l a b c d e g) (u a b c d e g))(a:A)(b:B)(c:C)(d:D)(e:E)(g:G)(Lw K:j4)(w:F=BL k:=by exact rfl)(j:∀a b c d e g m n o p q s,l a b c d e g=l m n o p q s->a=m/\b=n/\c=o/\d=p/\e=q/\g=s:=by simp+contextual only[ij]):fW F (l a b c d e g) Lw K=(t a b c d e g/\∀r,u a b c d e g r->Lw r/\K r):=by subst w;apply aPe;constructor;rintro⟨m,n,o,p,q,s,h,v⟩;obtain⟨rfl,rfl,rfl,rfl,rfl,rfl⟩:=j _ _ _ _ _ _ _ _ _ _ _ _ h;exact v;intro h;exact⟨_,_,_,_,_,_,rfl,h⟩
def apO{A B C D E G:Type}{j:A->B->C->D->E->G->List AV}{o:A->B->C->D->E->G->Prop}{p:A->B->C->D->E->G->j4}(k:∀a b c d e g,o a b c d e g->Ct i (j a b c d e g) (p a b c d e g))(l:∀a b c d e g,(j a b c d e g).all iX=U:=by intros;exact rfl):∀ys K,BL k ys K->jz aS GG i ys K:=by rintro ys K ⟨a,b,c,d,e,g,rfl,m,h⟩;exact nX (k a b c d e g m) (l a b c d e g) (λr n=>h r n)
end
abbrev btd:List AV:=[iv 0,iv 0,iv 0]
abbrev btP:List AV:=[iv 0,iv 0,bv I]
abbrev buT:List AV:=[iv 0,iv 0]
abbrev btQ:List AV:=[sv [],iv 0,iv 0,bv I,iv 0]
abbrev btR:List AV:=[sv [],bv I]
abbrev btS:List AV:=[sv [],iv 0]
abbrev btT:List AV:=[iv 0,iv 0,iv 0]
abbrev buU:List AV:=[iv 0,.l [] I I]
abbrev yW:List AV:=[iv 0]
abbrev bte:List AV:=[iv 0,iv 0,iv 0,bv I]
abbrev bAv:List AV:=[iv 0,bv I]
abbrev buV:List AV:=[iv 0,.l [] I I]
abbrev bnD:List AV:=[iv 0,.l [] I I,.l [] I I,iv 0]
abbrev btU:List AV:=[sv [],iv 0,.l [] I I,.l [] I I]
abbrev buW:List AV:=[iv 0,iv 0,iv 0,iv 0,iv 0,iv 0]
abbrev bts:List AV:=[iv 0,iv 0,sv [],.l [] I I]
abbrev brP:List AV:=[iv 0,iv 0,sv [],sv [],.l [] I I,iv 0,iv 0,sv [],.l [] I I,.l [] I I,.l [] I I]
abbrev bH:List AV:=[iv 0]
abbrev bxO:List AV:=[iv 0,iv 0,sv [],iv 0,iv 0,sv []]
abbrev ap5:List AV:=[.l [] I I]
abbrev aYp:List AV:=[.l [] I I]
abbrev BD:List AV:=[bv I]
abbrev a72:List AV:=[.l [] I I,.l [] I I,.l [] I I,.l [] I I,.l [] I I,.l [] I I,iv 0,.l [] I I,iv 0,.l [] I I,.l [] I I,.l [] I I,.l [] I I,.l [] I I,.l [] I I]
abbrev btV:List AV:=[iv 0,iv 0,iv 0,iv 0,iv 0,.l [] I I,.l [] I I]
abbrev btW:List AV:=[iv 0,iv 0,iv 0]
abbrev zd9:List AV:=[sv []]
abbrev bst:List AV:=[.l [] U U,iv 0,.l [] U U,.l [] U U,.l [] U U,.l [] U U,.l [] U U,.l [] U U,.l [] U U]
abbrev br8:List AV:=[iv 0,iv 0,iv 0]
abbrev btZ:List AV:=[.l [] U U,iv 0]
abbrev aOO:List AV:=[.l [] U U,iv 0,.l [] U U,.l [] U U,.l [] U U,.l [] U U,.l [] U U]
abbrev tH:List AV:=[.l [] U U,.l [] U U,.l [] U U,.l [] U U,.l [] U U,.l [] U U,.l [] U U]
abbrev btu:List AV:=[iv 0,iv 0,bv I]
abbrev aN7:List AV:=[.l [] U U,.l [] U U,.l [] U U,.l [] U U,.l [] U U,.l [] U U,iv 0,.l [] U U,iv 0,.l [] U U,.l [] U U,.l [] U U,.l [] U U,.l [] U U,.l [] U U,.l [] U U,.s<|.map J,.l [] U U,.l [] U U,.l [] U U]
abbrev buY:List AV:=[iv 0,iv 0]
abbrev bsR:List AV:=[sv [],iv 0,iv 0,bv I,iv 0]
abbrev btf:List AV:=[sv [],bv I]
abbrev bt0:List AV:=[sv [],iv 0]
abbrev bt1:List AV:=[iv 0,iv 0,iv 0]
abbrev btg:List AV:=[iv 0,.l [] U U]
abbrev aoD:List AV:=[.l [] U U,.l [] U U]
abbrev EN:List AV:=[iv 0]
abbrev bxP:List AV:=[.l [] U U,.l [] U U]
abbrev brT:List AV:=[iv 0,iv 0,iv 0,bv I]
abbrev bxE:List AV:=[iv 0,bv I]
abbrev bnF:List AV:=[iv 0,.l [] U U]
abbrev aoB:List AV:=[iv 0,.l [] U U,.l [] U U,iv 0]
abbrev bt2:List AV:=[sv [],iv 0,.l [] U U,.l [] U U]
abbrev buZ:List AV:=[.l [] U U,.l [] U U,.l [] U U,.l [] U U,.l [] U U,.l [] U U,.l [] U U,.l [] U U,iv 0,iv 0]
abbrev bsS:List AV:=[iv 0,iv 0,iv 0,iv 0,iv 0,iv 0]
abbrev bu0:List AV:=[.s<|.pointer J,iv 0,iv 0,bv I,bv I,bv I,bv I,.l [] U U]
abbrev bth:List AV:=[iv 0,iv 0,sv [],.l [] U U]
abbrev brG:List AV:=[iv 0,iv 0,sv [],sv [],.l [] U U,iv 0,iv 0,sv [],.l [] U U,.l [] U U,.l [] U U]
abbrev fB:List AV:=[iv 0]
abbrev bu1:List AV:=[.l [] U U,.l [] U U,iv 0,.l [] U U,.l [] U U,.l [] U U]
abbrev bxQ:List AV:=[iv 0,iv 0,sv [],iv 0,iv 0,sv []]
abbrev aRc:List AV:=[.l [] U U,.l [] U U,.l [] U U,.l [] U U,.l [] U U,.l [] U U]
abbrev bxR:List AV:=[bv I,bv I]
abbrev aNC:List AV:=[.l [] U U,iv 0,.l [] U U,.l [] U U]
abbrev bhN:List AV:=[.l [] U U]
abbrev BE:List AV:=[bv I]
abbrev bsk:List AV:=[.l [] U U,iv 0,.l [] U U,.l [] U U,.l [] U U,.l [] U U,.l [] U U]
abbrev aOQ:List AV:=[.l [] U U,.l [] U U,.l [] U U,.l [] U U,.l [] U U,.l [] U U,iv 0,.l [] U U,iv 0,.l [] U U,.l [] U U,.l [] U U,.l [] U U,.l [] U U,.l [] U U]
abbrev bt3:List AV:=[iv 0,iv 0,.l [] U U,.l [] U U]
abbrev bnk:List AV:=[iv 0,iv 0,iv 0,iv 0,iv 0,.l [] U U,.l [] U U]
abbrev bAw:List AV:=[.l [] U U,.l [] U U]
abbrev bs2:List AV:=[.l [] U U,.l [] U U,.l [] U U,.l [] U U,.l [] U U,.l [] U U,.l [] U U]
abbrev bt4:List AV:=[iv 0,iv 0,iv 0]
abbrev zz9:List AV:=[sv []]
def ZT:List (Nat×List AV):=[(103,bst),(107,br8),(117,btZ),(124,aOO),(129,tH),(138,btu),(157,aN7),(170,buY),(175,bsR),(177,btf),(179,bt0),(181,bt1),(184,btg),(196,aoD),(2,EN),(216,bxP),(220,brT),(235,bxE),(247,bnF),(251,aoB),(258,bt2),(260,buZ),(264,bsS),(268,bu0),(272,bth),(274,brG),(3,fB),(305,bu1),(308,bxQ),(31,aRc),(315,bxR),(36,aNC),(38,bhN),(4,BE),(40,bsk),(43,aOQ),(54,bt3),(62,bnk),(65,bAw),(75,bs2),(86,bt4),(9,zz9)]
def ZD:List (Nat×List AV):=[(107,btd),(138,btP),(170,buT),(175,btQ),(177,btR),(179,btS),(181,btT),(184,buU),(2,yW),(220,bte),(235,bAv),(247,buV),(251,bnD),(258,btU),(264,buW),(272,bts),(274,brP),(3,bH),(308,bxO),(33,ap5),(38,aYp),(4,BD),(43,a72),(62,btV),(86,btW),(9,zd9)]
section
class Hd (α:Type) where v:α
noncomputable def qp{α:Type}(n:Nat)[h:Hd α]:α:=h.v
def qz(n:Nat):(∀{α:Type} {f:α->Prop} {a:α},@qp (α->Prop) n ⟨f⟩ a=f a)/\(∀{α β:Type} {f:α->β->Prop} {a:α} {b:β},@qp (α->β->Prop) n ⟨f⟩ a b=f a b)/\(∀{α β e:Type} {f:α->β->e->Prop} {a:α} {b:β} {c:e},@qp (α->β->e->Prop) n ⟨f⟩ a b c=f a b c)/\∀{α β e g:Type} {f:α->β->e->g->Prop} {a:α} {b:β} {c:e} {d:g},@qp (α->β->e->g->Prop) n ⟨f⟩ a b c d=f a b c d:=⟨rfl,rfl,rfl,rfl⟩
noncomputable def qm{α:Type}(n:Nat)(x:α):α:=x
def qy{α:Type}(n:Nat){x:α}:@qp α n ⟨x⟩=x:=rfl
def bs7{α:Type}{n:Nat}{x:α}:qm n x=@qp α n ⟨x⟩:=rfl
inductive RD
 |pk(c a b:AV)
 |ld(k:Option Nat)(Y:ae)(x:AV)
 |nl(Y:ae)(x:AV)
 |bi(o:BinOp)(c:Nat)(fs:List<|Nat×Nat)(x y:AV)
 |un(o:UnOp)(x:AV)
 |cv(k:Option IntKind)(x:AV)
 |fa(o:Nat)(Y:ae)(x:AV)
 |fl(o:Nat)(k:Option Nat)(x:AV)
 |ix(z:Nat)(Y:ae)(x i:AV)
 |ia(n z:Nat)(Y:ae)(x i:AV)
 |sx(x i:AV)
 |ax(n z:Nat)(k:Option Nat)(x i:AV)
 |ex(i:Nat)(x:AV)
 |lu(m:MT)(Y:ae)(x k:AV)(ok:Bool)
 |ss(x:AV)(a b c:Option AV)
 |sl(z:Nat)(Y:ae)(x:AV)(a b c:Option AV)
 |br(zs:List AV)(z:Nat)(l:List<|Nat×AV)
 |bd(zs:List AV)(p:List<|Nat×Nat)(l:List<|Nat×AV)
 |ln(Y:ae)(x:AV)
 |ls(x:AV)
 |cp(x:AV)
 |mm(o:Builtin)(x y:AV)
def RD.o:RD->Option AV| .pk c a b=>mL c a b| .ld k Y x=>vp k Y x| .nl Y x=>cO Y x| .bi o c fs x y=>a6F o c fs x y| .un o x=>cR o x| .cv k x=>sO k x| .fa o Y x=>iQ o Y x| .fl o k x=>cK o k x| .ix z Y x i=>cz z Y x i| .ia n z Y x i=>wm n z Y x i| .sx x i=>sxA x i| .ax n z k x i=>sI n z k x i| .ex i x=>eO i x| .lu m Y x k d=>oP m Y x k d| .ss x a b c=>Q8 x a b c| .sl z Y x a b c=>fo z Y x a b c| .br zs z l=>tY zs z l| .bd zs p l=>bM zs p l| .ln Y x=>fS Y x| .ls x=>lsA x| .cp x=>cpA x| .mm o x y=>AO o x y
inductive ED
 |al(e:Nat)(zs:List AV)(Y:ae)(d:Nat)
 |bx(e z:Nat)(Y:ae)(d:Nat)(x:AV)
 |lv(e:Nat)(zs:List AV)(n:Nat)(Y:ae)(d:Nat)(l:List<|Nat×AV)
 |bs(zs:List AV)(n:Nat)(Y:ae)(l:List<|Nat×AV)
 |mk(e:Nat)(zs:List AV)(b:Nat)(Y:ae)(d:Nat)(l c:AV)
 |mm(t:Nat)(Y:ae)(d:Nat)
 |rg(Y:ae)(d:Nat)(x:AV)
 |nx(Y:ae)(x:AV)
 |ap(e:Nat)(zs:List AV)(b:Nat)(Y:ae)(d:Nat)(s x:AV)
 |az(e:Nat)(zs:List AV)(b:Nat)(Y:ae)(d:Nat)(s x:AV)
 |av(e:Nat)(zs:List AV)(b:Nat)(Y:ae)(d:Nat)(s x:AV)
def ED.o:ED->Option (AV×ae)| .al e zs Y d=>alA e zs Y d| .bx e z Y d x=>bxA e z Y d x| .lv e zs n Y d l=>lvS e zs n Y d l| .bs zs n Y l=>aX zs n Y l| .mk e zs b Y d l c=>qO e zs b Y d l c| .mm t Y d=>oS t Y d| .rg Y d x=>tu Y d x| .nx Y x=>se Y x| .ap e zs b Y d s x=>Gy e zs b Y d s x| .az e zs b Y d s x=>azA e zs b Y d s x| .av e zs b Y d s x=>avA e zs b Y d s x
inductive SD
 |st(z:Nat)(Y:ae)(x v:AV)
 |mu(m:MT)(Y:ae)(x k v:AV)
 |cl{z:Value}(Y:ae)(x:AV)
def SD.o:SD->Option ae| .st z Y x v=>aK z Y x v| .mu m Y x k v=>muA m Y x k v|@SD.cl z Y x=>pA z Y x
inductive LD
 |b(r:Bool)(xs:List AV)(d:List Nat)
 |v(Y:ae)(x y:AV)
 |s(xs:List AV)
 |c(r:Bool)(Y:ae)
 |f(g:AV)(xs:List AV)(Y:ae)(d:Nat)
def LD.o:LD->fY| .b r xs d=>lb r xs d| .v Y x y=>lbV Y x y| .s xs=>Qh xs| .c r Y=>cq r Y| .f g xs Y d=>lbF GG g xs Y d
def cD(k:Nat)(fn:Nat)(xs:List AV)(Y:ae)(d:Nat)(K:be):Prop:=match k with|0=>cB fn xs Y d K|1=>cV fn xs Y d K|_=>cN fn xs Y d K
inductive D
 |ff
 |kd(k:j4)(v:AV)
 |kE(k:be)(v:AV)(s:ae)
 |gR(b:Bool)(x:AV)(A:(j4)->D)(K:AV->D)
 |gE(b:Bool)(x:AV)(A:(be)->D)(Y:ae)(K:AV->ae->D)
 |r(o:RD)(K:AV->D)
 |fc{F:FT}(Y:ae)(xs:List AV)(K:AV->D)
 |fx(fn:Nat)(Y:ae)(xs:List AV)(K:AV->D)
 |e0(o:ED)(K:AV->ae->D)
 |e(t:Nat)(o:ED)(K:AV->ae->D)
 |s0(o:SD)(K:ae->D)
 |s(t:Nat)(o:SD)(K:ae->D)
 |c0(k fn:Nat)(xs:List AV)(Y:ae)(d:Nat)(K:AV->ae->D)
 |c(t k fn:Nat)(xs:List AV)(Y:ae)(d:Nat)(K:AV->ae->D)
 |cF(f:AV)(xs:List AV)(Y:ae)(d:Nat)(K:AV->ae->D)
 |ap(l:List LD)(p:List<|Nat×Nat)(R:D)
 |ite(c:AV)(A B:D)
 |jV(n a b:Nat)(B:List AV->ae->D)(A:(aG)->D)
 |jR(n a b:Nat)(B:List AV->D)(A:(List AV->Prop)->D)
 |J2(J:aG)(vs:List AV)(s:ae)
 |J1(J:List AV->Prop)(vs:List AV)
 |I2(I:aG)(μ:bu)(x:List AV)(s:ae)(vs:List AV)(Y:ae)
 |I1(I:List AV->Prop)(μ:List AV->Nat)(x vs:List AV)
 |al(f:Rg->D)
 |lV(t:Nat)(vs:List AV)(Y:ae)(B:(aG)->(bu)->List AV->ae->D)
 |lR(t:Nat)(vs:List AV)(B:(List AV->Prop)->(List AV->Nat)->List AV->D)
 |rt(R:j4)(Y:ae)(vs:List AV)
 |rb(R:be)(Y:ae)(vs:List AV)
def den:D->Prop| .ff=>False| .kd k v=>k v| .kE k v s=>k v s| .gR b x A K=>gR (gP b x) (λk=>den<|A k) λv=>den (K v)| .gE b x A Y K=>gE (gP b x) (λk=>den<|A k) Y λv s=>den (K v s)| .r o K=>rV o.o λv=>den (K v)|@D.fc F Y xs K=>fV F Y xs λv=>den (K v)| .fx fn Y xs K=>fV (cX fn) Y xs λv=>den (K v)| .e0 o K=>eV o.o λv s=>den (K v s)| .e t o K=>eV o.o (qm t λv s=>den<|K v s)| .s0 o K=>sV o.o λs=>den (K s)| .s t o K=>sV o.o (qm t λs=>den<|K s)| .c0 k fn xs Y d K=>cD k fn xs Y d λv s=>den (K v s)| .c t k fn xs Y d K=>cD k fn xs Y d (qm t λv s=>den<|K v s)| .cF f xs Y d K=>cF f xs Y d λv s=>den (K v s)| .ap l p R=>dH (l.map LD.o) p (den R)| .ite c A B=>ah c (den A) (den B)| .jV n a b B A=>jV n (qm a λvs s=>den<|B vs s) (qm b λh=>den<|A h)| .jR n a b B A=>jR n (qm a λvs=>den<|B vs) (qm b λh=>den<|A h)| .J2 h vs s=>h vs s| .J1 h vs=>h vs| .I2 g i x s vs Y=>g x s/\i x s<i vs Y| .I1 g i x vs=>g x/\i x<i vs| .al f=>∀j,den (f j)| .lV t vs Y B=>lV vs Y (qm t λg i vs Y=>den<|B g i vs Y)| .lR t vs B=>lR vs (qm t λg i vs=>den<|B g i vs)| .rt R Y vs=>aE R Y vs| .rb R Y vs=>aNN R Y vs
def zld{l:List AV}:List AV:=l
def zfd(t:Nat):List (Nat×List AV)->List AV|[]=>[]|(k,l)::r=>bif aOU t k then @zld l else zfd t r
abbrev zzd(t:Nat):List AV:=zfd t ZT
abbrev zdd(t:Nat):List AV:=zfd t ZD
def bqT{v:Value}:AV:= .s v
def ivd{n:Int}:AV:=iv n
def bvd{b:Bool}:AV:=bv b
def gld{l:List AV}:AV:= .q l
def gtd(l:List AV)(i:Nat):AV:=gt l i
def btj{l:List AV}:@zld l=l:=rfl
def bsH{v:Value}:@bqT v= .s v:=rfl
def bsU{n:Int}:@ivd n=iv n:=rfl
def bsG{b:Bool}:@bvd b=bv b:=rfl
def bwM{l:List AV}:@gld l= .q l:=rfl
def bsN{l:List AV}{i:Nat}:gtd l i=gt l i:=rfl
section
noncomputable abbrev PP:Program:=aS
noncomputable def kT(t:Nat):Option Nat:=(qK PP t).getD J
noncomputable def zT(t:Nat):Nat:=(fG PP t).getD 0
noncomputable def tyQ(t:Nat):Nat×List (Nat×Nat):=
 match PP.underlying t with
 |some .bool=>(1,[])
 |some (.struct fs)=>(match nk PP fs.toList with|some l=>(2,l)|none=>(0,[]))
 |_=>(0,[])
noncomputable def mpQ(t:Nat):Option MT:=
 match PP.underlying t with
 |some (.map k e)=>
  match(PP.info? e).bind (·.zero),PP.underlying k with
  |some z,some (.struct fs)=>(nk PP fs.toList).map λl=>⟨U,l,z⟩
  |some z,some .string=>V ⟨I,[],z⟩
  |some z,_=>V ⟨I,[(0,0)],z⟩
  |_,_=>J
 |_=>J
noncomputable def dE(G:zp)(c:Rg):Operand->AV
 | .tmp t=>c t
 | .const v=>match v with| .int .i64 n=>@ivd n| .bool b=>@bvd b| .agg l=> .a (l.toList.map λv=>match v with| .int .i64 n=>@ivd n| .bool b=>@bvd b| .slice .. => .l [] U U|v=>@bqT v)| .slice .. => .l [] U U|v=>@bqT v
 | .global g=>match G g with|some cs=>@gld cs|none=> .u
 | .func f=> .f f [] []
noncomputable def bsy(fn:Nat):dO->Option (Nat×FT)
 |[]=>J
 |p::T=>bif aOU fn p.1 then V p else bsy fn T
def ex(t:Nat)(o:ED)(K:AV->ae->D):D:=bif aOU t 0 then .e0 o K else .e t o K
def sx(t:Nat)(o:SD)(K:AV->ae->D):D:=bif aOU t 0 then .s0 o λs=>K (.t []) s else .s t o λs=>K (.t []) s
def cx(t k fn:Nat)(xs:List AV)(Y:ae)(d:Nat)(K:AV->ae->D):D:=bif aOU t 0 then .c0 k fn xs Y d K else .c t k fn xs Y d K
noncomputable def zr(G:zp)(T:dO)(g:Rg)(Y:ae)(op:Op)(K:AV->D):D:=
 match op with
 | .move x=>K<|dE G g x
 | .assign x=>K<|dE G g x
 | .pick c a b=> .r (.pk (dE G g c) (dE G g a)<|dE G g b) K
 | .load t x=> .r (.ld (kT t) Y<|dE G g x) K
 | .nilCheck x=> .r (.nl Y<|dE G g x) K
 | .binOp op t x y _=> .r (.bi op (tyQ t).1 (tyQ t).2 (dE G g x)<|dE G g y) K
 | .unOp op _ x=> .r (.un op<|dE G g x) K
 | .convert s d x=>match KD PP s d with|some k=> .r (.cv k<|dE G g x) K|none=> .ff
 | .fieldAddr s x f=> .r (.fa ((KR PP s f).getD 0) Y<|dE G g x) K
 | .field t x f=>match QF PP t f with|some (a,k)=> .r (.fl a k<|dE G g x) K|none=> .ff
 | .indexAddr t x ix=>
  match PP.underlying t with
  |some (.slice e)=> .r (.ix (zT e) Y (dE G g x)<|dE G g ix) K
  |some (.array n e)=> .r (.ia n (zT e) Y (dE G g x)<|dE G g ix) K
  |_=> .ff
 | .index t x ix=>
  match PP.underlying t with
  |some .string=> .r (.sx (dE G g x)<|dE G g ix) K
  |some (.array n e)=> .r (.ax n (zT e) (kT e) (dE G g x)<|dE G g ix) K
  |_=> .ff
 | .extract x i=> .r (.ex i<|dE G g x) K
 | .lookup t x ix m=>match mpQ t with|some l=> .r (.lu l Y (dE G g x) (dE G g ix) m) K|none=> .ff
 | .slice t x lo j mx=>
  match PP.underlying t with
  |some .string=> .r (.ss (dE G g x) (lo.map<|dE G g) (j.map<|dE G g)<|mx.map<|dE G g) K
  |some (.slice e)=> .r (.sl (zT e) Y (dE G g x) (lo.map<|dE G g) (j.map<|dE G g)<|mx.map<|dE G g) K
  |_=> .ff
 | .makeFunc fn first cap=>match fn with| .func f=>K (.f f (first.toList.map (dE G g)) (cap.toList.map<|dE G g))|_=> .ff
 | .build t h=>
  match PP.underlying t with
  |some (.array n e)=> .r (.br (zzd t) (zT e)<|h.toList.map λp=>(p.1,dE G g p.2)) K
  |_=>match QG PP t with|some pl=> .r (.bd (zzd t) pl<|h.toList.map λp=>(p.1,dE G g p.2)) K|none=> .ff
 | .call c=>
  match c.callee with
  | .builtin .len=>
   match c.argTypes.toList,c.args.toList with
   |[t],[x]=>
    match PP.underlying t with
    |some (.slice _)=> .r (.ln Y<|dE G g x) K
    |some .string=> .r (.ls<|dE G g x) K
    |some (.array n _)=>K<|.s<|.int .i64 n
    |_=> .ff
   |_,_=> .ff
  | .builtin .cap=>match c.args.toList with|[x]=> .r (.cp<|dE G g x) K|_=> .ff
  | .builtin .min=>match c.args.toList with|[x,y]=> .r (.mm .min (dE G g x)<|dE G g y) K|_=> .ff
  | .builtin .max=>match c.args.toList with|[x,y]=> .r (.mm .max (dE G g x)<|dE G g y) K|_=> .ff
  | .value (.func fn)=>match bsy fn T with|some (_,F)=>@D.fc F Y (c.args.toList.map<|dE G g) K|none=> .fx fn Y (c.args.toList.map<|dE G g) K
  |_=> .ff
 |_=> .ff
noncomputable def ze(G:zp)(t:Nat)(a:Rg)(Y:ae)(d:Nat)(op:Op)(K:AV->ae->D):D:=
 match op with
 | .alloc e=>ex t (.al e (zzd e) Y d) K
 | .box e x=> .e0 (.bx e (zT e) Y d<|dE G a x) K
 | .buildSlice ty len b=>
  match PP.underlying ty with
  |some (.slice e)=>bif aPm PP ty then ex t (.lv e (zdd e) len Y d<|b.toList.map λp=>(p.1,dE G a p.2)) K else ex t (.bs (zdd e) len Y<|b.toList.map λp=>(p.1,dE G a p.2)) K
  |_=> .ff
 | .makeSlice ty l c=>
  match PP.underlying ty with
  |some (.slice e)=>ex t (.mk e (zdd e) (mZ PP e) Y d (dE G a l)<|dE G a c) K
  |_=> .ff
 | .store ty x v=>sx t (.st (zT ty) Y (dE G a x)<|dE G a v) K
 | .call c=>
  match c.callee with
  | .builtin .append=>
   match c.args.toList,c.argTypes.toList with
   |[s,x],[ty,h]=>
    match PP.underlying ty with
    |some (.slice e)=>bif aOU ty h then(bif aPm PP ty then ex t (.av e (zzd e) (mZ PP e) Y d (dE G a s)<|dE G a x) K else ex t (.ap e (zzd e) (mZ PP e) Y d (dE G a s)<|dE G a x) K) else ex t (.az e (zdd e) (mZ PP e) Y d (dE G a s)<|dE G a x) K
    |_=> .ff
   |_,_=> .ff
  | .builtin .clear=>
   match c.args.toList,c.argTypes.toList with
   |[x],[ty]=>match xD PP ty with|some z=>sx t (@SD.cl z Y<|dE G a x) K|none=> .ff
   |_,_=> .ff
  | .value f=>
   match f with
   | .func fn=>bif G.nw fn then cx t 2 fn (c.args.toList.map<|dE G a) Y d K else match(bif G.sv then G.fp fn else J) with|some _=>cx t 1 fn (c.args.toList.map<|dE G a) Y d K|none=>cx t 0 fn (c.args.toList.map<|dE G a) Y d K
   |f=> .cF (dE G a f) (c.args.toList.map<|dE G a) Y d K
  |_=> .ff
 | .makeMap ty r=>ex t (.mm ty Y d) K
 | .mapUpdate ty x k v=>match mpQ ty with|some g=>sx t (.mu g Y (dE G a x) (dE G a k)<|dE G a v) K|none=> .ff
 | .range ty x=>ex t (.rg Y d<|dE G a x) K
 | .next x st=>ex t (.nx Y<|dE G a x) K
 |_=> .ff
noncomputable def kq(K:Rg->ae->D)(a:Rg)(d:Option Nat)(v:AV)(Y:ae):D:=match d with|some d=>K (up a d v) Y|none=>K a Y
noncomputable def kw(K:Rg->ae->D)(a:Rg)(d:Option Nat)(s:Nat)(Y:ae):D:=match d with|some d=>K (mv a d s) Y|none=>K a Y
noncomputable def zo(G:zp)(T:dO)(ops:Array Oper)(o:Oper)(t:Nat)(K:Rg->ae->D)(a:Rg)(Y:ae):D:=
 match mvS o with
 |some s=>kw K a o.dst s Y
 |none=>
  match o.guard with
  |none=>bif iT G o.op then zr G T a Y o.op λv=>kq K a o.dst v Y else ze G t a Y (o.dst.getD 0) o.op λv s=>kq K a o.dst v s
  |some g=>
   match(ops[g.1]?).bind (·.dst) with
   |none=> .ff
   |some x=>bif iT G o.op then .gR g.2 (a x) (λk=>zr G T a Y o.op λv=> .kd k v) λv=>kq K a o.dst v Y else .gE g.2 (a x) (λk=>ze G 0 a Y (o.dst.getD 0) o.op λv s=> .kE k v s) Y λv s=>kq K a o.dst v s
noncomputable def zb(o:Oper):Bool:=match o.op with| .box _ _=>U|_=>I
noncomputable def zs(G:zp)(T:dO)(ops:Array Oper):List Oper->List AV->Nat->(Rg->ae->D)->Rg->ae->D
 |[],_,_,K=>K
 |o::l,bs,b,K=>λc Y=>
  match bif zb o then bs else[] with
  |v::a=>zs G T ops l a (b+1) K (pu c o.dst v) Y
  |[]=>zo G T ops o (2*b+2) (zs G T ops l bs (bif iT G o.op then b else b+1) K) c Y
noncomputable def zl(G:zp)(a:Rg)(Y:ae)(d:Nat)(op:Op):LD:=
 match op with
 | .move _=> .b U [] []
 | .assign _=> .b U [] []
 | .store _ x v=>bif G.sv then .v Y (dE G a x) (dE G a v) else .b I (op.operands.toList.map<|dE G a) []
 | .buildSlice t _ _=> .b I (op.operands.toList.map<|dE G a)<|bif aPm PP t then[d] else[]
 | .call c=>
  match c.callee with
  | .value f=>
   match f with
   | .func fn=>bif G.nw fn then .b I (op.operands.toList.map<|dE G a) [d] else match(bif G.sv then G.fp fn else J) with|some l=> .b I [] l|none=>bif G.imp fn then .c (G.rd fn) Y else .s<|op.operands.toList.map<|dE G a
   |f=> .f (dE G a f) (c.args.toList.map<|dE G a) Y d
  |_=> .b (iT G op) (op.operands.toList.map<|dE G a)<|bif iT G op then[] else[d]
 |_=> .b (iT G op) (op.operands.toList.map<|dE G a)<|bif iT G op then[] else[d]
noncomputable def zy(G:zp)(T:dO)(ops:Array Oper):List Oper->List AV->Nat->List LD->(List LD->Rg->ae->D)->Rg->ae->D
 |[],_,_,a,K=>K a
 |o::l,bs,b,a,K=>λc Y=>
  match bif zb o then bs else[] with
  |v::d=>zy G T ops l d (b+1) (zl G c Y (o.dst.getD 0) o.op::a) K (pu c o.dst v) Y
  |[]=>zo G T ops o (2*b+2) (zy G T ops l bs (bif iT G o.op then b else b+1) (zl G c Y (o.dst.getD 0) o.op::a) K) c Y
def frc{α:Type}(n:Nat)(k:Nat->α):α:=match n with|0=>k 0|m+1=>k<|m+1
def msk(a:List Nat)(n:Nat):List Edge->Nat->Nat|[],s=>s|e::l,s=>msk a n l<|bif Region.binds .any e then s|||2^e.on|||a.getD (n-1-e.on) 0 else s
def prI(m j:Nat)(r:Bool):List Bool->Nat->List (Nat×Nat)->List (Nat×Nat)|[],_,R=>R|x::l,i,R=>bif Nat.ble j i then R else bif Nat.testBit m i||(x&&r) then prI m j r l (i+1) R else(i,j)::prI m j r l (i+1) R
def prJ(G:zp)(b:List Bool):List Oper->Nat->List Nat->List (Nat×Nat)|[],_,_=>[]|o::l,j,a=>frc (msk a j o.after.toList 0) λm=>prI m j (iT G o.op) b 0<|prJ G b l (j+1) (m::a)
def rvd:List LD->List LD->List LD|[],r=>r|x::l,r=>rvd l (x::r)
noncomputable def apx(a:List LD)(l:List<|Nat×Nat)(R:D):D:=match l with|[]=>R|_=> .ap a l R
abbrev QD:=Exit->Rg->ae->D
noncomputable def nE(G:zp):Code->Nat
 | .region _ ops _=>L (ops.toList.filter λo=>!iT G o.op)
 | .seq x y=>nE G x+nE G y
 | .cond _ x y=>nE G x+nE G y
 | .block _ c=>nE G c
 | .loop c=>nE G c
 |_=>0
noncomputable def QD.then(K:Rg->ae->D)(Q:QD):QD:=λe a Y=>match e with| .normal=>K a Y|e=>Q e a Y
noncomputable def QD.inBlock(b:Nat)(Q:QD):QD:=λe a Y=>match e with| .exit j=>bif aOU j b then Q .normal a Y else Q (.exit j) a Y|e=>Q e a Y
noncomputable def ovM(vs:List AV)(d:AV)(k:Nat):List Nat->Nat->AV
 |[],_=>d
 |x::Lw,i=>bif aOU k x then gtd vs i else ovM vs d k Lw<|i+1
noncomputable def ow(b:Rg)(Lw a:List Nat)(vs:List AV)(j:Rg):Rg:=λk=>ovM vs (bif a.elem k then b k else j k) k Lw 0
noncomputable def zc(G:zp)(T:dO)(an:List<|Option<|List Nat×List Nat):Code->List AV->Nat->Nat->QD->Rg->ae->D
 | .skip,_,_,_,Q=>Q .normal
 | .label _,_,_,_,Q=>Q .normal
 | .region _ ops l,bs,_,b,Q=>bif l&&!rG G ops.toList then zy G T ops ops.toList bs b [] λh e Y=>apx (rvd h []) (prJ G (ops.toList.map λo=>iT G o.op) ops.toList 0 []) (Q .normal e Y) else zs G T ops ops.toList bs b<|Q .normal
 | .seq x y,bs,i,b,Q=>λe Y=>
  match an.getD i J with
  |none=>zc G T an x bs (i+1) b (QD.then (zc G T an y [] (i+1+cnt x) (b+nE G x) Q) Q) e Y
  |some p=>
   match jL G x with
   |true=> .jV i (2*(3*i+1)+1) (2*(3*i+2)+1) (λvs Y=> .al λj=>zc G T an y [] (i+1+cnt x) (b+nE G x) Q (ow e p.1 p.2 vs j) Y) λd=>zc G T an x bs (i+1) b (QD.then (λf Y'=> .J2 d (p.1.map f) Y') Q) e Y
   |false=> .jR i (2*(3*i+1)+1) (2*(3*i+2)+1) (λvs=> .al λj=>zc G T an y [] (i+1+cnt x) (b+nE G x) Q (ow e p.1 p.2 vs j) Y) λd=>zc G T an x bs (i+1) b (QD.then (λf _=> .J1 d<|p.1.map f) Q) e Y
 | .cond c x y,_,i,b,Q=>λe Y=> .ite (dE G e c) (zc G T an x [] i b Q e Y)<|zc G T an y [] (i+cnt x) (b+nE G x) Q e Y
 | .block g c,bs,i,b,Q=>zc G T an c bs i b<|QD.inBlock g Q
 | .loop c,_,i,b,Q=>λe Y=>
  match an.getD i J with
  |none=> .ff
  |some p=>
   match jL G c with
   |true=> .lV (2*(3*i)+1) (p.1.map e) Y λa k vs Y=> .al λj=>zc G T an c [] (i+1) b (QD.then (λf Y'=> .I2 a k (p.1.map f) Y' vs Y) Q) (ow e p.1 p.2 vs j) Y
   |false=> .lR (2*(3*i)+1) (p.1.map e) λa k vs=> .al λj=>zc G T an c [] (i+1) b (QD.then (λf _=> .I1 a k (p.1.map f) vs) Q) (ow e p.1 p.2 vs j) Y
 | .exit g,_,_,_,Q=>Q<|.exit g
 | .ret,_,_,_,Q=>Q .ret
 |_,_,_,_,_=>λ_ _=> .ff
noncomputable def zR(b:Rg)(Y:ae):List ResultVar->(List AV->D)->D
 |[],K=>K []
 |x::l,K=>
  match x with
  | .tmp t=>zR b Y l λvs=>K (b t::vs)
  | .cell a t=> .r (.ld (kT t) Y<|b a) λv=>zR b Y l λvs=>K (v::vs)
noncomputable def I3(f:Func)(R:j4):QD:=λe a Y=>match e with| .normal=>zR a Y f.results.toList (.rt R Y)| .ret=>zR a Y f.results.toList (.rt R Y)|_=> .ff
noncomputable def QDb(f:Func)(R:be):QD:=λe a Y=>match e with| .normal=>zR a Y f.results.toList (.rb R Y)| .ret=>zR a Y f.results.toList (.rb R Y)|_=> .ff
noncomputable def ro(xs:List AV):Rg:=λk=>match xs[k]? with|some v=>v|none=> .t []
noncomputable def zF(G:zp)(T:dO)(an:List<|Option<|List Nat×List Nat)(f:Func)(xs bs:List AV)(Y:ae)(Q:QD):D:=
 match f.body with
 |some c=>zc G T an c bs 0 0 Q (ro xs) Y
 |none=> .ff
end
attribute[irreducible] ivd bvd zld bqT gld gtd
end
structure NF(z:D) where
 p:Prop
 h:den z=p:=by
  conv=>
   lhs
   conv=>
    arg 1
    reduce
   dsimp only[den,RD.o,ED.o,SD.o,LD.o,cD,List.map,btj,bsH,bsU,bsG,bwM,bsN]
   dsimp only[bs7]
def bsK{B:aG}{A:(aG)->Prop}(P:(aG)->Prop)(h:P B)(b:∀a,P a->A a):A B:=b B h
def bsp{B:List AV->Prop}{A:(List AV->Prop)->Prop}(P:(List AV->Prop)->Prop)(h:P B)(b:∀a,P a->A a):A B:=b B h
def bpD{n:Nat}{B:aG}{A:(aG)->Prop}(P:(aG)->Prop)(h:P B)(b:∀a,P a->A a):jV n B A:=b B h
def btF{n:Nat}{B:List AV->Prop}{A:(List AV->Prop)->Prop}(P:(List AV->Prop)->Prop)(h:P B)(b:∀a,P a->A a):jR n B A:=b B h
abbrev NR(T:dO)(an:List<|Option<|List Nat×List Nat)(f:Func)(xs bs:List AV)(Y:ae)(R:j4):=NF<|zF GG T an f xs bs Y<|I3 f R
abbrev NS(T:dO)(an:List<|Option<|List Nat×List Nat)(f:Func)(xs bs:List AV)(Y:ae)(R:be):=NF<|zF GG T an f xs bs Y<|QDb f R
def atS:=lA 10 [(3,([5],[0,1]))]
def IB a a1 s0 R:=(.mk _:NF<|zF GG [] atS Tryz.f64 [a,a1] [] s0<|I3 Tryz.f64 R).p
def aLl{a a1:AV}{R:j4}(h:H0 λs0=>IB a a1 s0 R):Ct 64 [a,a1] R:=z0 atS wO Tryz.func64 h
def at1:=lA 2 []
def ac8 a a1 s0 R:=(.mk _:NF<|zF GG [] at1 Tryz.f201 [a,a1] [] s0<|I3 Tryz.f201 R).p
def aLu{a a1:AV}{R:j4}(h:H0 λs0=>ac8 a a1 s0 R):Ct 201 [a,a1] R:=z0 at1 wO Tryz.func201 h
def adQ a a1 s0 R:=(.mk _:NF<|zF GG [] at1 Tryz.f137 [a,a1] [] s0<|I3 Tryz.f137 R).p
def aLA{a a1:AV}{R:j4}(h:H0 λs0=>adQ a a1 s0 R):Ct 137 [a,a1] R:=z0 at1 wO Tryz.func137 h
def aeg a a1 s0 R:=(.mk _:NF<|zF GG [] at1 Tryz.f135 [a,a1] [] s0<|I3 Tryz.f135 R).p
def aLJ{a a1:AV}{R:j4}(h:H0 λs0=>aeg a a1 s0 R):Ct 135 [a,a1] R:=z0 at1 wO Tryz.func135 h
def atY:=lA 10 [(3,([5],[2,3]))]
def IG b a c R:=(.mk _:NF<|zF GG [] atY Tryz.f134 [.u, .u] [b,a] c<|I3 Tryz.f134 R).p
def aLr{c0:List AV}{b:List AV}{R:j4}(l0:L c0=6)(l1:L b=4)(h:H2 31 6 2 c0 36 4 3 b λia c d=>IG ia c d R):Ct 134 [.a c0, .a b] R:=z2 atY wO Tryz.func134 l0 l1 h
def dh(i n:Int):Bool:=Q (0<=i)&&Q (i<n)
def DR{i:Int}{n:Nat}:(dh i n=U->aF n i)=True:=by simp[dh,aF]
theorem dX{i:Int}{n:Nat}:dh i n=U↔aF n i:=by simp[dh,aF]
def OR(i n:Int):Ct 201 [iv i,iv n] (·=bv (dh i n)):=by refine aLu λs0 b a=>?_;simp+contextual only[ac8,u0,u1,dh]
def su:FT:=lI OR
def ayO{i n Lw K}:=f200 su OR i n Lw K
def OW(i n:Int):Ct 137 [iv i,iv n] (·=bv (dh i n)):=by refine aLA λs0 b a=>?_;simp+contextual only[adQ,u0,u1,dh]
def Ce:FT:=lI OW
def ayT{i n Lw K}:=f200 Ce OW i n Lw K
def Pd(i n:Int):Ct 135 [iv i,iv n] (·=bv (dh i n)):=by refine aLJ λs0 b a=>?_;simp+contextual only[aeg,u0,u1,dh]
def Ch:FT:=lI Pd
def ay2{i n Lw K}:=f200 Ch Pd i n Lw K
def OK(l:List Int)(n:Int)(g:L l<4611686018427387904):Ct 64 [sl ci l,iv n] (·=bv (Q<|n∈l)):=by refine aLl λs0 _ c=>?_;simp only[IB];refine bhZ (L l) (λk=>∀j,j<k->gd l j≠n) (by simp) λk f e=>?_;simp+contextual only[qz 19,u0,u1,ix,rk,bh];refine⟨λh=>⟨u7 h,λd=>?_,by grind [gS,aL]⟩,λh=>?_⟩;grind [asq,aL];have b:n∉l:=λa=>(by have:=(px (p:=λx=>x≠n)).1 (by grind) n a;omega);simp[b]
def aQF:FT:=aIc OK
def ayH{l n Lw K}:=f210 aQF OK l n Lw K
def lh(w:J9)(s:aW):Bool:=Q (∀c∈w.bC,0<=c.eg/\c.eg<L w.ak)&&(Q (L s.ak=L w.ak)&&(Q (L s.done=L w.bU)&&Q (L s.ay=L w.ay)))
def OP(w:J9)(s:aW)(o:L w.bC<4611686018427387904):Ct 134 [.a w.c, .a s.c] (·=bv (lh w s)):=by refine aLr rfl rfl λq n b d i=>?_;simp only[IG];refine bhZ (L w.bC) (λk=>∀j,j<k->0<=(gd w.bC j).eg/\(gd w.bC j).eg<L w.ak) (by simp) λk m e=>?_;simp+contextual only[qz 19,u0,u1,ix,b,d,aj,rk,bh];refine⟨λh=>⟨u7 h,λ_=>u7 h,λl=>?_,by grind [gS,aL]⟩,λh=>?_⟩;grind [asq,aL,lh];have g:=(px (p:=λc:aOw=>0<=c.eg/\c.eg<L w.ak)).1 (λj f=>e j<|bkb f<|bw h);simp only[lh,brS g,iw,aqD]
def BZ:FT:=aIc OP
def ayM{w s Lw K}:=f210 BZ OP w s Lw K
def aoS:dO:=(201,su)::(137,Ce)::(135,Ch)::(64,aQF)::(134,BZ)::[]
def Br:eJ aoS:=ve (nI OR)<|ve (nI OW)<|ve (nI Pd)<|ve (aCb OK)<|ve (aCb OP)<|wO
def z8:=ai @ayO<|ai @ayT<|ai @ay2<|ai @ayH<|@ayM
def at3:=lA 34 [(3,([8],[2,3,7])),(11,([18],[2,3,7])),(14,([26],[2,3,7])),(17,([43],[2,3,7])),(22,([61],[2,3,7])),(27,([71],[2,3,7])),(30,([79],[2,3]))]
def ac9 a a1 b c R:=(.mk _:NR aoS at3 Tryz.f202 [.u,a1,b] [a] c R).p
def aLv{c0:List AV}{a1 b:AV}{R:j4}(l0:L c0=6)(h:H1 31 6 3 c0 λia c=>ac9 ia a1 b c R):Ct 202 [.a c0,a1,b] R:=z1 at3 Br Tryz.func202 l0 h
def ads b a c R:=(.mk _:NR aoS at1 Tryz.f67 [.u, .u] [b,a] c R).p
def aLx{c0:List AV}{b:List AV}{R:j4}(l0:L c0=6)(l1:L b=7)(h:H2 31 6 2 c0 40 7 3 b λia c d=>ads ia c d R):Ct 67 [.a c0, .a b] R:=z2 at1 Br Tryz.func67 l0 l1 h
def at0:=lA 10 [(4,([5,6],[1,2])),(7,([5],[1,2,6]))]
def II a a1 b R:=(.mk _:NR aoS at0 Tryz.f203 [.u,a1] [a] b R).p
def aLt{c0:List AV}{a1:AV}{R:j4}(l0:L c0=4)(h:H1 36 4 2 c0 λia b=>II ia a1 b R):Ct 203 [.a c0,a1] R:=z1 at0 Br Tryz.func203 l0 h
def at4:=lA 10 [(4,([5,6],[0,1])),(7,([5],[0,1,6]))]
def IJ a a1 s0 R:=(.mk _:NR aoS at4 Tryz.f205 [a,a1] [] s0 R).p
def aLw{a a1:AV}{R:j4}(h:H0 λs0=>IJ a a1 s0 R):Ct 205 [a,a1] R:=z0 at4 Br Tryz.func205 h
def Gr(Y:ae)(ds:List Nat)(e:TypeId)(z:Nat)(a:AV)(bA:List<|List AV):Prop:=(bA=[]/\a= .l [] U U)\/∃d v,a= .m (d,v) (L bA)/\d∈ds/\box Y (d,v)=V ⟨e,z,U,I,bA⟩
def Fr(Y Y':ae)(ds:List Nat):Prop:=L Y'=L Y/\∀k,k∉ds->aZ Y' k=aZ Y k
theorem Fr.refl(Y:ae)(ds:List Nat):Fr Y Y ds:=⟨rfl,λ_ _=>rfl⟩
theorem Fr.trans{Y Y' a:ae}{ds:List Nat}(h:Fr Y Y' ds)(b:Fr Y' a ds):Fr Y a ds:=⟨b.1.trans h.1,λk c=>(b.2 k c).trans<|h.2 k c⟩
theorem Fr.box{Y Y':ae}{ds:List Nat}(h:Fr Y Y' ds){k v:Nat}(a:k∉ds):box Y' (k,v)=box Y (k,v):=by unfold Ab.box;simp only[h.2 k a]
theorem Gr.nil{Y:ae}{ds:List Nat}{e:TypeId}{z:Nat}:Gr Y ds e z (.l [] U U) []:= .inl ⟨rfl,rfl⟩
def Qi{Y:ae}{b:Id}:L (kill Y b)=L Y:=yg b
theorem ani{Y:ae}{b:Id}{k:Nat}(h:k≠b.1):aZ (kill Y b) k=aZ Y k:=jQ h
def aIQ{Y:ae}{b:Id}{k:Nat}(a:b.1<L Y):(aZ (kill Y b) k).I6=(aZ Y k).I6:=by grind [kill,iD,jQ]
def eF{e:TypeId}{z d:Nat}{zs cs:List AV}{Y:ae}{K:be}(m:L zs=z)(j:L cs=z)(i:0<z)(h:d<L Y)(f:∀Y',Fr Y Y' [d]->box Y' (d,(aZ Y d).I6+1)=V ⟨e,z,U,U,[cs]⟩->K (.p (d,(aZ Y d).I6+1) 0 0) Y'):eV (alA e zs Y d) λp s=>sV (aK z s p<|.a cs) λs'=>K p s':=by have b:alA e zs Y d=V (.p (d,(aZ Y d).I6+1) 0 0,put Y d ⟨e,z,U,U,[zs]⟩):=(by grind [alA,aRI,zt]);rw[b];have g:box (put Y d ⟨e,z,U,U,[zs]⟩) (d,(aZ Y d).I6+1)=V ⟨e,z,U,U,[zs]⟩:=zQ h rfl;have c:aK z (put Y d ⟨e,z,U,U,[zs]⟩) (.p (d,(aZ Y d).I6+1) 0 0) (.a cs)=V (wr (put Y d ⟨e,z,U,U,[zs]⟩) (d,(aZ Y d).I6+1) ⟨e,z,U,U,[cs]⟩):=(by grind [aK,aBG,pW,eY,qh]);show sV (aK z (put Y d ⟨e,z,U,U,[zs]⟩) (.p (d,(aZ Y d).I6+1) 0 0)<|.a cs) _;rw[c];refine f _ ⟨by rw[uC,D3],λk l=>?_⟩<|lO g;grind [wy,yk]
def fP{Y:ae}{ds:List Nat}{e:TypeId}{z d by':Nat}{zs:List AV}{a:AV}{bA new:List (List AV)}{t o:Bool}{K:be}(s:Gr Y ds e z a bA)(n:L zs=z)(A:0<z)(m:d∈ds)(u:d<L Y)(D:∀r∈bA,L r=z)(C:∀r∈new,L r=z)(B:(L bA+L new)*(by'+1)<=1099511627776)(h:∀p Y',Gr Y' ds e z p (bA++new)->Fr Y Y' ds->K p Y'):eV (Gy e zs by' Y d a<|.l new t o) K:=by unfold Gy;simp only[gL];by_cases q:L new=0;rw[lC q];have y:new=[]:=(by simp_all);subst y;rcases s with⟨b,c⟩|⟨j,v,b,c,f⟩;subst b c;exact h _ _ (.inl ⟨rfl,rfl⟩)<|Fr.refl _ _;subst b;simp only[f,df];exact h _ _ (.inr ⟨j,v,by simp,c,by simpa using f⟩)<|Fr.refl _ _;rw[j5 q,lC ⟨by omega,by simp[aRI,u],by simp_all⟩];have g:∀(i:ae) (x:bY),L i=L Y->box (put i d x) (zt i d)=V x:=(by grind [zt,zQ]);rcases s with⟨b,c⟩|⟨j,v,b,c,f⟩;subst b c;simp only;rw[lC ⟨by simp,by grind [lx]⟩];refine h _ _ (.inr ⟨d,(aZ Y d).I6+1,by simp[zt],m,?_⟩) ⟨by simp[put],λk w=>yk<|λe=>w<|e▸m⟩;rw[<-n];exact g Y _ rfl;subst b;simp only[f];rw[lC ⟨trivial,trivial,n.symm,dA _,by grind [lx]⟩];refine h _ _ (.inr ⟨d,(aZ (kill Y (j,v)) d).I6+1,by simp[zt,aIQ<|lN f],m,?_⟩) ⟨by simp[put,Qi],λk w=>?_⟩;rw[<-n];simp only[gV];exact g _ _ Qi;grind [yk,ani]
theorem qV{Y:ae}{ds:List Nat}{e:TypeId}{z:Nat}{a:AV}{bA:List (List AV)}{R:j4}(f:Gr Y ds e z a bA)(h:∀t,R<|.l bA t U):aE R Y [a]:=by unfold aE jS;rcases f with⟨b,c⟩|⟨g,v,b,c,d⟩;subst b c;exact⟨rfl,h U⟩;subst b;simp only[iZ,dQ,d,aPI,gV];exact⟨rfl,h I⟩
def aDk{Y:ae}{ds:List Nat}{e:TypeId}{z:Nat}{a:AV}{bA:List (List AV)}(d:Gr Y ds e z a bA):fS Y a=V (iv<|L bA):=by rcases d with⟨b,c⟩|⟨f,v,b,c,g⟩;subst b c;rfl;grind [fS]
def iz{Y:ae}{z0:AV}{y:Value}:aX [z0] 1 Y [(0, .s y)]=V (.l [[.s y]] U U,Y):=by simp[aX,aly,eY,nrm,gK,eR,gi,eB,iR,kills,bqL,eN]
def ua{Y:ae}{zs cs:List AV}(c:nrm (eR Y<|.a cs)= .a cs)(d:eB (.a cs)=[])(e:L cs=L zs)(f:0<L zs)(g:cs.all eN=U)(h:L zs<=1000):aX zs 1 Y [(0, .a cs)]=V (.l [cs] U U,Y):=by simp only[aX,ji,mU,c,Cz,List.flatMap_nil,d,cL,kills,aRl];have b:(er 1 zs).flatten=zs:=(by simp);rw[lC ⟨by omega,f⟩,b];simp only[aly,eY,e,Nat.zero_mul,aj,dA,aOe,aPI,CE,dW,Gz,cL,aQd,g,df];grind [bqL]
def gI(mk:AV->Int->List AV)(b:ae)(ds:List Nat)(e:TypeId)(z n:Nat)(bA:Nat->List (List AV))(Inv:Nat->Prop):aG:=λvs Y=>∃(k:Nat) (a:AV),vs=mk a k/\k<=n/\Inv k/\Gr Y ds e z a (bA k)/\Fr b Y ds
def gM(p n:Nat):bu:=λvs _=>match gt vs p with| .s (.int _ i)=>n-i.toNat|_=>0
def am9{B:(aG)->(bu)->aG}(mk:AV->Int->List AV)(p:Nat)(ds:List Nat)(e:TypeId)(z n:Nat)(bA:Nat->List (List AV))(Inv:Nat->Prop){c:AV}{b:ae}(d:Inv 0)(f:Gr b ds e z c<|bA 0)(h:∀(k:Nat) a Y,k<=n->Inv k->Gr Y ds e z a (bA k)->Fr b Y ds->B (gI mk b ds e z n bA Inv) (gM p n) (mk a k) Y):lV (mk c 0) b B:=⟨gI mk b ds e z n bA Inv,gM p n,⟨0,c,rfl,mh _,d,f,Fr.refl _ _⟩,by rintro vs Y ⟨k,a,rfl,l,j,i,g⟩;simp_all⟩
def Dr{mk:AV->Int->List AV}{p:Nat}{c Y Y':ae}{ds:List Nat}{e:TypeId}{z n k:Nat}{bA:Nat->List (List AV)}{Inv:Nat->Prop}{a b:AV}(j:∀a i,gt (mk a i) p=iv i)(g:k<n)(h:n<4611686018427387904)(hI:Inv<|k+1)(f:Gr Y' ds e z b<|bA<|k+1)(d:Fr c Y' ds):gI mk c ds e z n bA Inv (mk b<|dq.wrap<|(k:Int)+1) Y'/\gM p n (mk b<|dq.wrap<|(k:Int)+1) Y'<gM p n (mk a k) Y:=by rw[eM (by omega)<|by omega];refine⟨⟨k+1,b,rfl,g,hI,f,d⟩,?_⟩;grind [gM]
def fI(a:ae)(ds:List Nat)(n:Nat)(Inv:Nat->Prop):aG:=λvs Y=>∃k:Nat,vs=[iv k]/\k<=n/\Inv k/\Fr a Y ds
def fM(n:Nat):bu:=λvs _=>cM n vs
def pQ{B:(aG)->(bu)->aG}{a:ae}(n:Nat)(ds:List Nat)(Inv:Nat->Prop)(b:Inv 0)(h:∀(k:Nat) Y,k<=n->Inv k->Fr a Y ds->B (fI a ds n Inv) (fM n) [iv k] Y):lV [iv 0] a B:=⟨fI a ds n Inv,fM n,⟨0,rfl,mh _,b,Fr.refl _ _⟩,by rintro vs Y ⟨k,rfl,e,d,c⟩;simp_all⟩
theorem oL{n k:Nat}{ds:List Nat}{Inv:Nat->Prop}{a Y Y':ae}(c:k<n)(d:n<4611686018427387904)(h:Inv<|k+1)(b:Fr a Y' ds):fI a ds n Inv [iv<|dq.wrap<|(k:Int)+1] Y'/\fM n [iv<|dq.wrap<|(k:Int)+1] Y'<fM n [iv k] Y:=by rw[fX<|by omega];refine⟨⟨k+1,rfl,c,h,b⟩,?_⟩;grind [fM,cM,bh]
theorem Fr.mono{Y Y':ae}{ds a:List Nat}(h:Fr Y Y' ds)(b:∀k∈ds,k∈a):Fr Y Y' a:=⟨h.1,λk c=>h.2 k<|by grind⟩
def nS{Y:ae}{z0:AV}{zs:List AV}:aX (z0::zs) 0 Y []=V (.l [] U U,Y):=by simp[aX,aly,kills,bqL]
def aIk{α:Type}{f:α->List AV}{l:List α}{z:Nat}{i:Int}{Y:ae}{K:j4}(b:∀x,L (f x)=z):rV (fo z Y (sl f l) J (V<|iv i) J) K=((0<=i/\i<=L l)/\K (sl f<|l.take i.toNat)):=by simp only[fo,lM,sl];by_cases a:0<=i;simp only[a,aPI,qY,sD,mi,mh,GL,bJ];grind [rV,bkj];simp[a,rV]
def aIm{α:Type}{f:α->List AV}{l:List α}{z:Nat}{i:Int}{Y:ae}{K:j4}(b:∀x,L (f x)=z):rV (fo z Y (sl f l) (V<|iv i) J J) K=((0<=i/\i<=L l)/\K (sl f<|l.drop i.toNat)):=by simp only[fo,lM,sl];by_cases a:0<=i;simp only[a,aPI,qY,sD,mi,bJ,dA,GL];grind [rV,GK,oB];simp[a,rV]
def aov{l:List Int}{i:Int}{Y:ae}{K:j4}:rV (fo 1 Y (sl ci l) J (V<|iv i) J) K=((0<=i/\i<=L l)/\K (sl ci<|l.take i.toNat)):=aIk λ_=>rfl
def aIg{l:List Int}{i:Int}{Y:ae}{K:j4}:rV (fo 1 Y (sl ci l) (V<|iv i) J J) K=((0<=i/\i<=L l)/\K (sl ci<|l.drop i.toNat)):=aIm λ_=>rfl
def aFj{α:Type}{f:α->List AV}{l:List α}{R:j4}{Y:ae}:aE R Y [sl f l]=R (sl f l):=by simp[aE,jS,iZ,dQ,sl,kG,pF,nj]
def Fr.bt{Y Y':ae}{ds:List Nat}(h:Fr Y Y' ds){k v:Nat}{x:Option bY}(b:Ab.box Y (k,v)=x)(a:k∉ds:=by decide):Ab.box Y' (k,v)=x:=(h.box a).trans b
def named(w:J9)(kind f8:Int):Bool:=
 bif Q (kind=1)||(Q (kind=2)||(Q (kind=5)||(Q (kind=12)||(Q (kind=13)||(Q (kind=14)||Q (kind=15)))))) then Q (f8= -1)
 else bif Q (kind=3)||Q (kind=4) then dh f8 (L w.cells)
 else bif Q (kind=6)||Q (kind=7) then dh f8 (L w.ak)&&!(gd w.ak f8.toNat).rw
 else bif Q (kind=8)||(Q (kind=9)||(Q (kind=10)||Q (kind=11))) then dh f8 (L w.ak)&&(gd w.ak f8.toNat).rw
 else bif Q (kind=16)||(Q (kind=17)||(Q (kind=18)||Q (kind=19))) then dh f8 (L w.bC)
 else bif Q (kind=20)||Q (kind=21) then dh f8 (L w.ay)
 else bif Q (kind=22)||Q (kind=23) then dh f8 (L w.bU)
 else I
def OS(w:J9)(kind f8:Int):Ct 202 [.a w.c,iv kind,iv f8] (·=bv (named w kind f8)):=by refine aLv rfl λf e b d=>?_;simp only[ac9];simp only[a7i,qz 23,iM,aY,sw];simp only[qz 21,aI,au];simp only[a7i,qz 71,iM,aY,sw];simp only[qz 69,aI,au];simp only[a7i,qz 89,iM,aY,sw];simp only[qz 87,aI,au];simp only[a7i,qz 107,iM,aY,sw];simp only[qz 105,aI,au];simp only[a7i,qz 137,iM,aY,sw];simp only[qz 135,aI,au];simp only[a7i,qz 167,iM,aY,sw];simp only[qz 165,aI,au];simp only[a7i,qz 185,iM,aY,sw];simp only[qz 183,aI,au];simp+contextual only[↓iS,u0,u1,z8,ar,b,rk,ix,aj,named,bie,bkl,DR,aNV,aOe]
def FH:FT:=za OS
def ayP{w kind f8 Lw K}:=f300 FH OS w kind f8 Lw K
def fN(w:J9)(s:sA):Bool:=lh w s.gp&&(Q (L s.cells=L w.cells)&&(Q (L s.bU=L w.bU)&&Q (L s.count=L w.ay)))
def OU(w:J9)(s:sA)(e:L w.bC<4611686018427387904):Ct 67 [.a w.c, .a s.c] (·=bv (fN w s)):=by refine aLx rfl rfl λh g b d f=>?_;simp+contextual only[ads,u0,u1,z8,ar,b,d,rk,aj,fN,aqD,e,aOe]
def Cc:FT:=aIc OU
def ayR{w s Lw K}:=f210 Cc OU w s Lw K
def pe(s:aW)(c:Int)(i:Nat):Bool:=Q ((gd s.ay i).cQ=3)&&Q ((gd s.ay i).cond=c)
def eh(s:aW)(c:Int)(k:Nat):List Int:=((aH k).filter<|pe s c).map λ(i:Nat)=>(i:Int)
def fO(s:aW)(c:Int):List Int:=eh s c<|L s.ay
theorem vc(s:aW)(c:Int)(k:Nat):eh s c (k+1)=eh s c k++if pe s c k then[(k:Int)] else[]:=by grind [eh,qn]
def wU(s:aW)(c:Int)(k:Nat):L (eh s c k)<=k:=by grind [eh,bJ,gl,fZ]
def OQ(s:aW)(c:Int)(v:L s.ay<1000000):Ct 203 [.a s.c,iv c] (λr=>∃t,r= .l ((fO s c).map ci) t U):=by refine aLt rfl λx n j q=>?_;simp only[II];refine am9 (λa i=>[a,iv i]) 1 [34] 3 1 (L s.ay) (λk=>(eh s c k).map ci) (λ_=>True) trivial (.inl ⟨rfl,rfl⟩) λk a Y u _ f b=>?_;have d:box Y (2,1)=_:=b.bt j;simp+contextual only[qz 45,qz 47,qy 4,qy 6,qz 25,u0,u1,d,rk,ix,aj,bh,iz];refine⟨λh=>⟨u7 h,λ_=>u7 h,λm=>?_,λm=>?_⟩,λh=>?_⟩;have w:=wU s c k;refine fP f rfl (by decide) (by decide) (by rw[b.1,n];decide) (by simp) (by simp) (by simp;omega) λp Y' o e=>?_;refine Dr (mk:=λa i=>[a,iv i]) (λ_ _=>rfl) (aL h) (by omega) trivial ?_<|b.trans e;grind [vc,pe];refine Dr (mk:=λa i=>[a,iv i]) (λ_ _=>rfl) (aL h) (by omega) trivial ?_ b;grind [vc,pe];have g:k=L s.ay:=(by grind);subst g;exact qV f λt=>⟨t,rfl⟩
def w7:FT:=pn OQ
def ayN{s c Lw K}:=f211 w7 OQ s c Lw K
def fJ(l:List Int)(n:Int):List Int:=l.filter λx=>Q<|x≠n
theorem EA{l:List Int}{k:Nat}(h:k<L l):l.take (k+1)=l.take k++[gd l k]:=by rw[bT h,iJ h]
def OT(l:List Int)(n:Int)(q:L l<1000000):Ct 205 [sl ci l,iv n] (λr=>∃t,r= .l ((fJ l n).map ci) t U):=by refine aLw λu g o=>?_;simp only[IJ];refine am9 (λa i=>[a,iv i]) 1 [25] 3 1 (L l) (λk=>(fJ (l.take k) n).map ci) (λ_=>True) trivial (.inl ⟨rfl,rfl⟩) λk a Y p _ c b=>?_;simp+contextual only[qz 45,qz 47,qy 2,qy 4,qz 25,u0,u1,rk,ix,bh,iz];refine⟨λh=>⟨u7 h,λe=>⟨u7 h,?_⟩,λe=>?_⟩,λh=>?_⟩;have s:L (fJ (l.take k) n)<=k:=gl (fZ _ _) (by simp;omega);refine fP c rfl (by decide) (by decide) (by rw[b.1,g];decide) (by simp) (by simp) (by simp;omega) λm Y' j d=>?_;refine Dr (mk:=λa i=>[a,iv i]) (λ_ _=>rfl) (aL h) (by omega) trivial ?_<|b.trans d;grind [EA,aL,fJ];refine Dr (mk:=λa i=>[a,iv i]) (λ_ _=>rfl) (aL h) (by omega) trivial ?_ b;rw[EA<|aL h,fJ,List.filter_append,dg];simp only[List.filter_cons,e,List.filter_nil,eE,brW,mU,cL];exact c;have f:k=L l:=(by grind);subst f;rw[gV] at c;grind [qV]
def Cb:FT:=pn OT
def ayQ{l n Lw K}:=f211 Cb OT l n Lw K
def aoT:dO:=(202,FH)::(67,Cc)::(203,w7)::(205,Cb)::aoS
def ao9:eJ aoT:=ve (Rs OS)<|ve (aCb OU)<|ve (aN0 OQ)<|ve (aN0 OT)<|Br
def K1:=ai @ayP<|ai @ayR<|ai @ayN<|ai @ayQ<|@z8
def atX:=lA 48 [(22,([119],[2,4,5,6,11,70])),(35,([160],[2,4,5,6,70]))]
def acO b a c d e f R:=(.mk _:NR aoT atX Tryz.f138 [.u, .u,c,d,e] [b,a] f R).p
def aLq{c0:List AV}{b:List AV}{c d e:AV}{R:j4}(l0:L c0=6)(l1:L b=4)(h:H2 31 6 5 c0 36 4 6 b λia f g=>acO ia f c d e g R):Ct 138 [.a c0, .a b,c,d,e] R:=z2 atX ao9 Tryz.func138 l0 l1 h
def lc(w:J9)(s:aW)(t kind f8:Int):Bool:=
 bif Q (kind=1) then Q<|(gd s.ay t.toNat).cQ=1
 else bif Q (kind=17) then Q ((gd s.ay t.toNat).cQ=4)&&(Q ((gd s.ay t.toNat).cond=f8)&&Q ((gd s.ak (gd w.bC f8.toNat).eg.toNat).awG= -1))
 else bif Q ((gd s.ay t.toNat).cQ≠2) then I
 else bif Q (kind=6) then Q<|(gd s.ak f8.toNat).awG= -1
 else bif Q (kind=10) then Q ((gd s.ak f8.toNat).awG= -1)&&Q (L (gd s.ak f8.toNat).bk=0)
 else bif Q (kind=8) then Q ((gd s.ak f8.toNat).awG= -1)&&!Q (t∈(gd s.ak f8.toNat).bk)
 else bif Q (kind=7)||Q (kind=11) then Q ((gd s.ak f8.toNat).awG=t)
 else bif Q (kind=9) then Q<|t∈(gd s.ak f8.toNat).bk
 else bif Q (kind=12) then Q<|s.tx= -1
 else bif Q (kind=13) then Q<|s.tx=t
 else bif Q (kind=14) then !(gd s.ay t.toNat).atomic
 else bif Q (kind=15) then(gd s.ay t.toNat).atomic
 else bif Q (kind=16)||(Q (kind=18)||Q (kind=19)) then Q ((gd s.ak (gd w.bC f8.toNat).eg.toNat).awG=t)
 else bif Q (kind=20) then Q (f8≠t)&&Q ((gd s.ay f8.toNat).cQ=0)
 else bif Q (kind=21) then Q (f8≠t)&&Q ((gd s.ay f8.toNat).cQ=5)
 else bif Q (kind=22) then !(gd s.done f8.toNat)
 else bif Q (kind=23) then gd s.done f8.toNat
 else U
def jm(w:J9)(s:aW)(t kind f8:Int):Bool:=lh w s&&(dh t (L w.ay)&&(named w kind f8&&lc w s t kind f8))
theorem mJ{w:J9}{kind f8:Int}(h:named w kind f8=U)(a:6<=kind)(b:kind<=11):aF (L w.ak) f8:=by grind [named,dX]
theorem oT{w:J9}{kind f8:Int}(h:named w kind f8=U)(a:16<=kind)(b:kind<=19):aF (L w.bC) f8:=by grind [named,dX]
theorem Eb{w:J9}{kind f8:Int}(h:named w kind f8=U)(a:20<=kind)(b:kind<=21):aF (L w.ay) f8:=by grind [named,dX]
theorem oU{w:J9}{kind f8:Int}(h:named w kind f8=U)(a:22<=kind)(b:kind<=23):aF (L w.bU) f8:=by grind [named,dX]
theorem qP{w:J9}{kind f8:Int}(h:named w kind f8=U)(a:3<=kind)(b:kind<=4):aF (L w.cells) f8:=by grind [named,dX]
theorem iY{w:J9}{s:aW}(h:lh w s=U):(∀c∈w.bC,0<=c.eg/\c.eg<L w.ak)/\L s.ak=L w.ak/\L s.done=L w.bU/\L s.ay=L w.ay:=by grind [lh]
theorem ii{α:Type}[Inhabited α]{l:List α}{i:Int}(h:aF (L l) i):gd l i.toNat∈l:=asq (by have:=h.1;have:=h.2;omega)
def OO(w:J9)(s:aW)(t kind f8:Int)(q:L w.bC<4611686018427387904/\(∀l∈s.ak,L l.bk<4611686018427387904)):Ct 138 [.a w.c, .a s.c,iv t,iv kind,iv f8] (·=bv (jm w s t kind f8)):=by refine aLq rfl rfl λR O b e z=>?_;simp+contextual only[acO,qy 6,u0,u1,K1,ar,b,e,rk,ix,aj];have A:(!lh w s||!dh t (L w.ay)||!named w kind f8)=I->lh w s=U/\dh t (L w.ay)=U/\named w kind f8=U:=(by simp_all);refine⟨q.1,λh=>?_,λh=>?_⟩;grind [jm,lh,dh,named];obtain⟨B,N,P⟩:=A h;obtain⟨x,y,K,M⟩:=iY B;have p:aF (L s.ay) t:=(by grind [dX]);have o:jm w s t kind f8=lc w s t kind f8:=(by grind [jm]);rw[o];refine⟨p,?_⟩;refine eF rfl rfl (by decide) (by omega) λY m n=>?_;rw[z 11 (by decide)<|by decide] at n⊢;have d:box Y (5,1)=_:=m.bt b;have f:box Y (6,1)=_:=m.bt e;simp only[qz 8];simp only[a7i,qz 137,iM,aY,sw];simp only[qz 135,aI,au];simp only[a7i,qz 215,iM,aY,sw];simp only[qz 213,aI,au];simp+contextual only[↓iS,u0,u1,K1,ar,n,d,f,rk,ix,aj];have G:aF (L w.bC) f8->aF (L s.ak) (gd w.bC f8.toNat).eg:=λh=>(by rw[y];exact x _<|ii h);have C:Q (kind=6)=U->aF (L s.ak) f8:=(by grind [mJ]);have r:Q (kind=10)=U->aF (L s.ak) f8:=(by grind [mJ]);have E:Q (kind=8)=U->aF (L s.ak) f8:=(by grind [mJ]);have F:Q (kind=9)=U->aF (L s.ak) f8:=(by grind [mJ]);have D:(Q (kind=7)||Q (kind=11))=U->aF (L s.ak) f8:=(by grind [mJ]);have i:Q (kind=17)=U->aF (L w.bC) f8:=(by grind [oT]);have g:(Q (kind=16)||(Q (kind=18)||Q (kind=19)))=U->aF (L w.bC) f8:=(by grind [oT]);have u:Q (kind=20)=U->aF (L s.ay) f8:=(by grind [Eb]);have v:Q (kind=21)=U->aF (L s.ay) f8:=(by grind [Eb]);have j:Q (kind=22)=U->aF (L s.done) f8:=(by grind [oU]);have k:Q (kind=23)=U->aF (L s.done) f8:=(by grind [oU]);have H:aF (L s.ak) f8->L (gd s.ak f8.toNat).bk<4611686018427387904:=λh=>q.2 _<|ii h;have e0:(L (gd s.ak f8.toNat).bk:Int)=0↔L (gd s.ak f8.toNat).bk=0:=(by omega);simp+contextual only[lc,bie,bkl,G,C,D,E,F,r,g,i,u,v,j,k,H,e0,aNV,aOe]
def BY:FT:=bpg OO
def ayL{w s t kind f8 Lw K}:=KQ BY OO w s t kind f8 Lw K
def aoU:dO:=(138,BY)::aoT
def wP:eJ aoU:=ve (Rt OO)<|ao9
def K3:=ai @ayL<|@K1
def IQ a a1 s0 R:=(.mk _:NR aoU atS Tryz.f139 [a,a1] [] s0 R).p
def aLB{a a1:AV}{R:j4}(h:H0 λs0=>IQ a a1 s0 R):Ct 139 [a,a1] R:=z0 atS wP Tryz.func139 h
def ad8 a a1 b R:=(.mk _:NR aoU at1 Tryz.f136 [.u,a1] [a] b R).p
def aLG{c0:List AV}{a1:AV}{R:j4}(l0:L c0=15)(h:H1 43 15 2 c0 λia b=>ad8 ia a1 b R):Ct 136 [.a c0,a1] R:=z1 at1 wP Tryz.func136 l0 h
def aub:=lA 12 [(3,([2,7],[1,3])),(6,([2],[1,3,7]))]
def IR a a1 b c R:=(.mk _:NR aoU aub Tryz.f142 [.u,a1,b] [a] c R).p
def aLE{c0:List AV}{a1 b:AV}{R:j4}(l0:L c0=15)(h:H1 43 15 3 c0 λia c=>IR ia a1 b c R):Ct 142 [.a c0,a1,b] R:=z1 aub wP Tryz.func142 l0 h
def aue:=lA 12 [(4,([3,4],[1]))]
def IS a b R:=(.mk _:NR aoU aue Tryz.f68 [.u] [a] b R).p
def aLH{c0:List AV}{R:j4}(l0:L c0=15)(h:H1 43 15 1 c0 λia b=>IS ia b R):Ct 68 [.a c0] R:=z1 aue wP Tryz.func68 l0 h
def at9:=lA 21 [(9,([40],[2,3,7]))]
def adS b a c R:=(.mk _:NR aoU at9 Tryz.f140 [.u, .u] [b,a] c R).p
def aLC{c0:List AV}{b:List AV}{R:j4}(l0:L c0=7)(l1:L b=7)(h:H2 40 7 2 c0 62 7 3 b λia c d=>adS ia c d R):Ct 140 [.a c0, .a b] R:=z2 at9 wP Tryz.func140 l0 l1 h
def Iz a a1 s0 R:=(.mk _:NR aoU atS Tryz.f133 [a,a1] [] s0 R).p
def aLi{a a1:AV}{R:j4}(h:H0 λs0=>Iz a a1 s0 R):Ct 133 [a,a1] R:=z0 atS wP Tryz.func133 h
def uJ(l:List Int)(n:Int)(j:Nat):Prop:=1<=gd l j/\gd l j<n/\(0<j->gd l (j-1)<gd l j)
def lZ(l:List Int)(n:Int):Prop:=∀j,j<L l->uJ l n j
instance{l:List Int}{n:Int}{j:Nat}:Decidable (uJ l n j):=by unfold uJ;infer_instance
instance{l:List Int}{n:Int}:Decidable (lZ l n):=by unfold lZ;infer_instance
def OX(l:List Int)(n:Int)(f:L l<4611686018427387904):Ct 139 [sl ci l,iv n] (·=bv (Q<|lZ l n)):=by refine aLB λs0 _ b=>?_;simp only[IQ];refine bhZ (L l) (λk=>∀j,j<k->uJ l n j) (by simp) λk e d=>?_;simp+contextual only[qz 19,u0,u1,ix,rk,bh];have hs:0<k->(dq.wrap<|(k:Int)-1).toNat=k-1/\dq.wrap ((k:Int)-1)=((k-1:Nat):Int):=(by grind [eM]);have c:k<L l->((Q (gd l k<1)||Q (n<=gd l k)||Q (0<(k:Int))&&Q (gd l k<=gd l (dq.wrap<|(k:Int)-1).toNat))=I↔uJ l n k):=(by grind [uJ]);refine⟨λh=>⟨u7 h,λ_=>u7 h,λ_ _=>u7 h,λ_ a=>?_,λa=>?_,by grind [gS,aL]⟩,λh=>?_⟩;grind [aL,dJ];grind [lZ,aL];grind [lZ,bkb,bw]
def Cf:FT:=aIc OX
def ayU{l n Lw K}:=f210 Cf OX l n Lw K
def nO(w:gz)(t:Int):Bool:=dh t (L w.init.count)&&Q (1<=gd w.init.count t.toNat)
def Pa(w:gz)(t:Int):Ct 136 [.a w.c,iv t] (·=bv (nO w t)):=by refine aLG rfl λf e b d=>?_;simp+contextual only[ad8,u0,u1,K3,ar,ix,rk,b,aj,dc,nO,DR]
def w8:FT:=lI Pa
def ayZ{w t Lw K}:=f200 w8 Pa w t Lw K
def tX(l:List ByteArray)(s:ByteArray):Int:=match l.findIdx? (λx=>Q<|x=s) with|some i=>i|none=> -1
theorem avQ{l:List ByteArray}{s:ByteArray}{k:Nat}(b:k<L l)(h:∀j,j<k->gd l j≠s)(a:gd l k=s):tX l s=k:=by have:l.findIdx? (λx=>Q<|x=s)=V k:=(by grind [RL,bT]);simp[tX,this]
def avP{l:List ByteArray}{s:ByteArray}(h:s∉l):tX l s= -1:=by grind [decide,GB,decide_eq_false_iff_not,tX]
def OH(l:List ByteArray)(s:ByteArray)(f:L l<4611686018427387904):Ct 133 [sl cs l,st s] (·=iv (tX l s)):=by refine aLi λs0 _ b=>?_;simp only[Iz];refine bhZ (L l) (λk=>∀j,j<k->gd l j≠s) (by simp) λk e d=>?_;simp+contextual only[qz 19,u0,u1,ix,rk,bh];refine⟨λh=>⟨u7 h,λc=>?_,by grind [gS,aL]⟩,λh=>?_⟩;grind [avQ,aL];rw[avP λa=>(px (p:=λx=>x≠s)).1 (by grind) s a rfl]
def FB:FT:=aIc OH
def ayE{l s Lw K}:=f210 FB OH l s Lw K
def pS(t:Int):List aP->Int->Nat->Int|[],_,_=> -1|e::l,k,i=>if e.aq=t then(if k=0 then i else pS t l (k-1) (i+1)) else pS t l k (i+1)
def oV(w:gz)(t k:Int):Int:=pS t w.ac k 0
theorem aWc{α:Type}[Inhabited α]{l:List α}{k:Nat}(h:k<L l):l.drop k=gd l k::l.drop (k+1):=by rw[bT h,List.drop_eq_getElem_cons h]
def O0(w:gz)(t k:Int)(p:L w.ac<1000000/\ -1000000<=k/\k<9223372036854775808):Ct 142 [.a w.c,iv t,iv k] (·=iv (oV w t k)):=by refine aLE rfl λq o e n=>?_;simp only[IR];refine yh (λs:Int×Nat=>[iv s.1,iv s.2]) 1 (L w.ac) (λs=>s.2<=L w.ac/\k-s.2<=s.1/\s.1<=k/\pS t (w.ac.drop s.2) s.1 s.2=oV w t k) (k,0) (by grind [oV]) ?_;rintro⟨b,i⟩ ⟨f,g,j,d⟩;simp only at f g j d;simp+contextual only[qz 39,qz 41,qz 19,u0,u1,ix,rk,e,aj,bh];refine⟨λh=>⟨u7 h,λm=>⟨λl=>?_,λl=>?_⟩,λm=>?_⟩,λh=>?_⟩;grind [aWc,aL,pS];have:=aL h;refine wN (enc:=λs:Int×Nat=>[iv s.1,iv s.2]) (s:=(b,i)) (s':=(b-1,i+1)) (i:=i) ?_ rfl rfl (aL h) ⟨aL h,by omega,by omega,?_⟩;grind [fX,eM];grind [aWc,aL,pS,of_decide_eq_false];have:=aL h;refine wN (enc:=λs:Int×Nat=>[iv s.1,iv s.2]) (s:=(b,i)) (s':=(b,i+1)) (i:=i) ?_ rfl rfl (aL h) ⟨aL h,by omega,by omega,?_⟩;grind [fX];grind [aWc,aL,pS,of_decide_eq_false];have:i=L w.ac:=(by grind);rw[<-d,this,Gz];rfl
def FJ:FT:=qe O0
def ayX{w t k Lw K}:=f310 FJ O0 w t k Lw K
def bhL(l:List Int)(k:Nat):Int:=(l.take k).sum
theorem Ra{l:List Int}{k:Nat}(h:k<L l):bhL l (k+1)=bhL l k+gd l k:=by grind [bhL,iJ,bT]
def rM(w:gz):Bool:=Q (∀c∈w.init.count,0<=c/\c<=400)&&(Q (w.start=w.init.count.sum)&&Q (w.init.count.sum+L w.ac<=400))
def aoN{l:List Int}{k:Nat}(h:∀j,j<k->0<=gd l j/\gd l j<=400)(d:k<=L l):0<=bhL l k/\bhL l k<=400*k:=by induction k with|zero=>simp[bhL]|succ k a=>have:=a (λj c=>h j<|by omega) (by omega);have b:=h k (by omega);rw[Ra<|by omega];omega
def Pb(w:gz)(q:L w.ac<1000000/\L w.init.count<1000000):Ct 68 [.a w.c] (·=bv (rM w)):=by refine aLH rfl λt o g n=>?_;simp only[IS];refine yh (λs:Int×Nat=>[iv s.1,iv s.2]) 1 (L w.init.count) (λs=>s.2<=L w.init.count/\s.1=bhL w.init.count s.2/\∀j,j<s.2->0<=gd w.init.count j/\gd w.init.count j<=400) (0,0) (by grind [bhL]) ?_;rintro⟨f,i⟩ ⟨d,k,b⟩;simp only at d k b;simp+contextual only[qz 25,u0,u1,ix,rk,g,aj,dc,bh];have m:=aoN b d;have r:i<L w.init.count->(Q (gd w.init.count i<0)||Q (400<gd w.init.count i))=U->rM w=I:=(by grind [asq,rM]);refine⟨λh=>⟨u7 h,λ_=>u7 h,(by simp_all),λe=>⟨u7 h,?_⟩⟩,λh=>?_⟩;have:=aL h;simp only[cP,aNK,aqC] at e;refine wN (enc:=λs:Int×Nat=>[iv s.1,iv s.2]) (s:=(f,i)) (s':=(f+gd w.init.count i,i+1)) (i:=i) ?_ rfl rfl (aL h) ⟨aL h,?_,a6p b e⟩;grind [fX,eM];grind [Ra,aL];have l:i=L w.init.count:=(by grind);have hs:bhL w.init.count i=w.init.count.sum:=(by rw[l,bhL,gV]);have p:∀c∈w.init.count,0<=c/\c<=400:=px.1 (by simp_all);grind [eM,rM,decide_eq_true]
def aUr:FT:=mT Pb
def ay0{w Lw K}:=f110 aUr Pb w Lw K
def aO8(s:sA)(e:aP):Bool:=
 bif Q (e.kind=3) then Q<|e.value=gd s.cells e.f8.toNat
 else bif Q (e.kind=23) then Q<|e.value=gd s.bU e.f8.toNat
 else bif Q (e.kind=5) then Q (e.value=0)||Q (e.value=1)
 else bif Q (e.kind=4)||Q (e.kind=22) then U
 else bif Q (e.kind=18) then(bif Q ((L (fO s.gp e.f8):Int)=0) then Q (e.value= -1) else Q (0<=e.value)&&(Q (e.value<L s.gp.ay)&&Q (e.value∈fO s.gp e.f8)))
 else bif Q (e.kind=19) then Q<|e.value=L (fO s.gp e.f8)
 else Q<|e.value=0
def OY(s:sA)(e:aP)(h:L s.gp.ay<1000000/\(e.kind=3->aF (L s.cells) e.f8)/\(e.kind=23->aF (L s.bU) e.f8)):Ct 140 [.a s.c, .a e.c] (·=bv (aO8 s e)):=by refine aLC rfl rfl λl k b d j=>?_;simp only[adS];simp only[a7i,qz 59,iM,aY,sw,u1,b,d,rk,aj];simp only[qz 57,aI,au];have i:L (fO s.gp e.f8)<4611686018427387904:=rC (wU _ _ _) (by omega);have g:Q (e.kind=3)=U->aF (L s.cells) e.f8:=(by simp_all);have f:Q (e.kind=23)=U->aF (L s.bU) e.f8:=(by simp_all);simp+contextual only[↓iS,u0,u1,K3,ar,b,d,rk,ix,aj,aO8,bie,bkl,i,h.1,g,f,aNV,aOe]
def FI:FT:=aIc OY
def ayV{s e Lw K}:=f210 FI OY s e Lw K
def aoV:dO:=(139,Cf)::(136,w8)::(133,FB)::(142,FJ)::(68,aUr)::(140,FI)::aoU
def Bs:eJ aoV:=ve (aCb OX)<|ve (nI Pa)<|ve (aCb OH)<|ve (tE O0)<|ve (pg Pb)<|ve (aCb OY)<|wP
def ur:=ai @ayU<|ai @ayZ<|ai @ayE<|ai @ayX<|ai @ay0<|ai @ayV<|@K3
def atT:=lA 12 [(3,([5],[0,1]))]
def acb a a1 s0 R:=(.mk _:NR aoV atT Tryz.f247 [a,a1] [] s0 R).p
def aLm{a a1:AV}{R:j4}(h:H0 λs0=>acb a a1 s0 R):Ct 247 [a,a1] R:=z0 atT Bs Tryz.func247 h
def aui:=lA 16 [(4,([4],[1,3]))]
def IU a b R:=(.mk _:NR aoV aui Tryz.f69 [.u] [a] b R).p
def aLL{c0:List AV}{R:j4}(l0:L c0=15)(h:H1 43 15 1 c0 λia b=>IU ia b R):Ct 69 [.a c0] R:=z1 aui Bs Tryz.func69 l0 h
def auf:=lA 35 [(4,([4],[1,3])),(13,([6],[1,3,4,5])),(24,([7],[1,3]))]
def aea a b R:=(.mk _:NR aoV auf Tryz.f70 [.u] [a] b R).p
def aLI{c0:List AV}{R:j4}(l0:L c0=15)(h:H1 43 15 1 c0 λia b=>aea ia b R):Ct 70 [.a c0] R:=z1 auf Bs Tryz.func70 l0 h
def auh:=lA 13 [(3,([7],[1,2,3])),(6,([],[1,2,3,7]))]
def IT a a1 b c R:=(.mk _:NR aoV auh Tryz.f72 [.u,a1,b] [a] c R).p
def aLK{c0:List AV}{a1 b:AV}{R:j4}(l0:L c0=15)(h:H1 43 15 3 c0 λia c=>IT ia a1 b c R):Ct 72 [.a c0,a1,b] R:=z1 auh Bs Tryz.func72 l0 h
def Eu(w:gz)(j:Nat):Bool:=Q ((gd w.init.gp.ay j).cQ<0)||Q (5<(gd w.init.gp.ay j).cQ)||!((Q ((gd w.init.gp.ay j).cQ=0)||Q ((gd w.init.gp.ay j).cQ=1))==Q (gd w.init.count j=0))||Q ((j:Int)=0)&&Q ((gd w.init.gp.ay j).cQ=0)
def zX(w:gz)(j:Nat):Bool:=(Q ((gd w.init.gp.ay j).cQ=3)||Q ((gd w.init.gp.ay j).cQ=4))&&!dh (gd w.init.gp.ay j).cond (L w.aQ.bC)||!(Q ((gd w.init.gp.ay j).cQ=3)||Q ((gd w.init.gp.ay j).cQ=4))&&Q ((gd w.init.gp.ay j).cond≠0)
def aOK(w:gz)(j:Nat):Bool:=!Eu w j&&!zX w j
def uZ(w:gz):Bool:=Q (∀j,j<L w.init.gp.ay->aOK w j=U)
def Pf(w:gz)(o:L w.init.gp.ay<1000000/\L w.init.count=L w.init.gp.ay):Ct 69 [.a w.c] (·=bv (uZ w)):=by refine aLL rfl λp n d l=>?_;simp+contextual only[IU,u0,u1,rk,d,aj,dc];refine bhZ (L w.init.gp.ay) (λk=>∀j,j<k->aOK w j=U) (by simp) λk m i=>?_;simp+contextual (maxSteps:=3000000) only[qz 25,u0,u1,ur,ar,ix,rk,d,aj,dc,bh];have f:k<L w.init.gp.ay->aOK w k=I->bv I=bv (uZ w):=(by grind [aOK,uZ]);refine⟨λh=>?_,λh=>?_⟩;have b:=u7 h;have I2:aF (L w.init.count) (k:Int):=(by simp_all);simp only[b,I2,aNV,GL];refine⟨λg=>f (aL h) ?_,λg=>⟨λe=>f (aL h) ?_,λe=>gS (aL h) (by omega)<|a6p i ?_⟩⟩;grind [aOK,Eu];grind [aOK,zX];grind [aOK,Eu,zX];grind [aOK,bkb,bw,uZ,decide_eq_true]
def FM:FT:=mT Pf
def ay4{w Lw K}:=f110 FM Pf w Lw K
def Qy(t:Int):∀(l:List aP) (k:Int) (i:Nat),pS t l k i<i+L l\/pS t l k i= -1
 |[],_,_=> .inr rfl
 |e::l,k,i=>by
  simp only[pS,bZ]
  have a:=Qy t l (k-1)<|i+1
  have b:=Qy t l k<|i+1
  omega
def aEu(w:gz)(t k:Int):oV w t k<L w.ac\/oV w t k= -1:=by have:=Qy t w.ac k 0;grind [oV]
def qU(w:gz)(t:Int)(n:Int):Bool:=Q (n<gd w.init.count t.toNat)||(Q (0<=oV w t (n-gd w.init.count t.toNat))&&(Q ((gd w.ac (oV w t<|n-gd w.init.count t.toNat).toNat).kind=3)||Q ((gd w.ac (oV w t<|n-gd w.init.count t.toNat).toNat).kind=23)))
def Pe(w:gz)(t:Int)(l:List Int)(d:L l<1000000/\L w.ac<1000000/\aF (L w.init.count) t/\(∀c∈w.init.count,0<=c/\c<=400)/\(∀n∈l,-1000<=n/\n<9223372036854775808)):Ct 72 [.a w.c,iv t,sl ci l] (·=bv (Q (∀n∈l,qU w t n=U))):=by refine aLK rfl λy v f m=>?_;simp only[IT];refine bhZ (L l) (λk=>∀j,j<k->qU w t (gd l j)=U) (by simp) λk u r=>?_;simp+contextual only[qz 39,qz 41,qz 19,u0,u1,ur,ar,ix,rk,f,aj,dc,bh];have g:k<L l->dq.wrap (gd l k-gd w.init.count t.toNat)=gd l k-gd w.init.count t.toNat:=(by grind [ii,asq,eM]);have q:k<L l->∀x,x=oV w t (gd l k-gd w.init.count t.toNat)->Q (gd l k<gd w.init.count t.toNat)=I->((Q (x<0)||Q ((gd w.ac x.toNat).kind≠3)&&Q ((gd w.ac x.toNat).kind≠23))=I↔qU w t (gd l k)=U):=(by grind [qU]);refine⟨λh=>⟨u7 h,d.2.2.1,(by grind [gS,aL,qU]),λs=>?_⟩,λh=>?_⟩;rw[g<|aL h];have o:=d.2.2.2.1 _<|ii d.2.2.1;have p:=d.2.2.2.2 _<|asq<|aL h;have e:∀x,x=oV w t (gd l k-gd w.init.count t.toNat)->(!Q (x<0))=U->aF (L w.ac) x:=λx i b=>(by have:=aEu w t<|gd l k-gd w.init.count t.toNat;simp at b;exact⟨b,by rw[i];omega⟩);refine⟨u7 h,d.2.2.1,⟨d.2.1,by omega,by omega⟩,e _ rfl,λb _=>e _ rfl b,λb=>?_,λb=>gS (aL h) (by omega)<|by grind⟩;have:¬(∀n∈l,qU w t n=U):=(by grind [aL,asq]);simp[this];have:∀n∈l,qU w t n=U:=px.1 (by grind);simp_all
def Ci:FT:=qe Pe
def ay3{w t l Lw K}:=f310 Ci Pe w t l Lw K
def AM(w:gz)(j:Nat):Bool:=Q ((gd w.init.gp.ak j).awG≠-1)&&!nO w (gd w.init.gp.ak j).awG||Q (0<(L (gd w.init.gp.ak j).bk:Int))&&(!(gd w.aQ.ak j).rw||Q ((gd w.init.gp.ak j).awG≠-1))
def yA(w:gz)(l:List Int)(i:Nat):Prop:=nO w (gd l i)=U/\(0<i->gd l (i-1)<gd l i)
def QN(w:gz)(l:List Int):Prop:=∀i,i<L l->yA w l i
instance{w:gz}{l:List Int}{i:Nat}:Decidable (yA w l i):=by unfold yA;infer_instance
instance{w:gz}{l:List Int}:Decidable (QN w l):=by unfold QN;infer_instance
def uD(w:gz)(j:Nat):Prop:=AM w j=I/\QN w (gd w.init.gp.ak j).bk
instance{w:gz}{j:Nat}:Decidable (uD w j):=by unfold uD;infer_instance
def yS(w:gz):Bool:=Q (w.init.gp.tx≠-1)&&!nO w w.init.gp.tx
def pX(w:gz)(j:Nat):Bool:=!((gd w.init.gp.ay j).atomic&&!nO w j)&&!((Q ((gd w.init.gp.ay j).cQ=3)||Q ((gd w.init.gp.ay j).cQ=4))&&Q ((gd w.init.gp.ak (gd w.aQ.bC (gd w.init.gp.ay j).cond.toNat).eg.toNat).awG=j))
def ny(w:gz):Bool:=Q (∀j,j<L w.init.gp.ak->uD w j)&&(!yS w&&Q (∀j,j<L w.init.gp.ay->pX w j=U))
def Pc(w:gz)(K:L w.init.gp.ak<1000000/\L w.init.gp.ay<1000000/\L w.init.gp.ak=L w.aQ.ak/\(∀l∈w.init.gp.ak,L l.bk<4611686018427387904)/\(∀c∈w.aQ.bC,aF (L w.aQ.ak) c.eg)/\uZ w=U):Ct 70 [.a w.c] (·=bv (ny w)):=by refine aLI rfl λs4 H A h0=>?_;simp+contextual only[aea,qy 4,qy 6,u0,u1,rk,A,aj,dc];refine eF rfl rfl (by decide) (by omega) λY u R=>?_;have B:box Y (1,1)=_:=u.bt A;refine pQ (L w.init.gp.ak) [5] (λk=>∀j,j<k->uD w j) (by simp) λk y T x d=>?_;have e:box y (1,1)=_:=d.bt B;have n:box y (3,_)=_:=d.bt R;simp+contextual (maxSteps:=3000000) only[qz 25,qy 8,u0,u1,ur,ar,ix,rk,e,n,aj,bh];have s:∀j,j<L w.init.gp.ak->¬uD w j->bv I=bv (ny w):=(by grind [uD,ny,decide_eq_false]);refine⟨λh=>⟨u7 h,?_⟩,λh=>⟨λZ=>?_,λZ=>?_⟩⟩;refine eF rfl rfl (by decide) (by rw[d.1,u.1,H];decide) λg b r=>?_;have o:box g (1,1)=_:=b.bt e;have t:box g (3,_)=_:=b.bt n;simp+contextual (maxSteps:=3000000) only[qz 10,u0,u1,ur,ar,ix,rk,o,r,aj,bh];refine⟨(by grind [dJ,aL]),λE=>s k (aL h) λv=>?_,λE=>?_⟩;have h1:=v.1;grind [AM];have hR:=K.2.2.2.1 _<|asq<|aL h;refine bhZ (L (gd w.init.gp.ak k).bk) (λi=>∀j,j<i->yA w (gd w.init.gp.ak k).bk j) (by simp) λi hi X=>?_;simp+contextual (maxSteps:=3000000) only[qz 79,u0,u1,ur,ar,ix,rk,o,r,aj,bh];have hs:0<i->(dq.wrap<|(i:Int)-1).toNat=i-1/\dq.wrap ((i:Int)-1)=((i-1:Nat):Int):=(by grind [eM]);have W:(!nO w (gd (gd w.init.gp.ak k).bk i)||Q (0<(i:Int))&&Q (gd (gd w.init.gp.ak k).bk i<=gd (gd w.init.gp.ak k).bk (dq.wrap<|(i:Int)-1).toNat))=I↔yA w (gd w.init.gp.ak k).bk i:=(by grind [yA]);refine⟨λf=>⟨u7 f,λ_ _=>u7 f,λ_ p=>?_,λp=>s k (aL h) λv=>?_,λp=>gS (aL f) (by omega)<|by grind⟩,λf=>?_⟩;grind [aL,dJ];rw[W.2<|v.2 i<|aL f] at p;cases p;refine oL (aL h) (by omega) (a6p x ⟨E,λj S=>X j<|bkb S<|bw f⟩)<|d.trans b;grind [ny,yS];have hA:∀j,j<L w.init.gp.ak->uD w j:=(by grind);have F:∀j,j<L w.init.gp.ay->pX w j=I->bv I=bv (ny w):=(by grind [pX,ny,decide_eq_false]);have M:∀j,j<L w.init.gp.ay->aOK w j=U:=aNR K.2.2.2.2.2;refine pQ (L w.init.gp.ay) [8] (λk=>∀j,j<k->pX w j=U) (by simp) λk g T x b=>?_;have o:box g (1,1)=_:=b.bt e;have t:box g (3,_)=_:=b.bt n;simp+contextual (maxSteps:=3000000) only[qz 145,qy 12,u0,u1,ix,rk,t,aj,bh];refine⟨λh=>⟨u7 h,?_⟩,λh=>?_⟩;refine eF rfl rfl (by decide) (by rw[b.1,d.1,u.1,H];decide) λz m G=>?_;have O:box z (1,1)=_:=m.bt o;have P:box z (3,_)=_:=m.bt t;simp+contextual (maxSteps:=3000000) only[qz 14,u0,u1,ur,ar,ix,rk,O,P,G,aj];have q:(Q ((gd w.init.gp.ay k).cQ=3)||Q ((gd w.init.gp.ay k).cQ=4))=U->aF (L w.aQ.bC) (gd w.init.gp.ay k).cond:=λN=>(by have:=M k<|aL h;simp only[aOK,zX,N,iw,fh,kM,Bool.or_false,Bool.not_not,bN] at this;exact dX.1 this.2);refine⟨λC=>F k (aL h) ?_,λC=>⟨q,λN=>?_,λD=>F k (aL h) ?_,λD=>oL (aL h) (by omega) (a6p x ?_)<|b.trans m⟩⟩;rw[pX,C];rfl;grind [ii];rw[pX,D];simp;grind [pX];grind [pX,bkb,bw,ny,decide_eq_true,yS]
def FL:FT:=mT Pc
def ay1{w Lw K}:=f110 FL Pc w Lw K
def pU{l:List Int}:∀r∈l.map ci,L r=1:=by simp
def fk:List Int->Int->List Int|[],n=>[n]|x::l,n=>if x<n then x::fk l n else if x=n then x::l else n::x::l
def QJ:∀(l:List Int) (n:Int) (k:Nat),k<=L l->(∀j,j<k->gd l j<n)->(k<L l->¬gd l k<n)->fk l n=if k<L l/\gd l k=n then l else l.take k++n::l.drop k
 |[],n,k,b,_,_=>by grind [fk]
 |x::l,n,0,_,_,a=>by
  have:=a (by simp)
  simp only[gd,RQ] at this
  simp only[fk,j5 this,gd,RQ,bZ,Nat.zero_lt_succ,GL,CE,List.drop_zero,dW]
 |x::l,n,k+1,b,c,a=>by
  have d:=c 0 (by omega)
  simp only[gd,RQ] at d
  have e:=QJ l n k (by grind) (by grind [gd]) (by grind [gd])
  grind [gd,fk,bZ]
def QK:∀(l:List Int) (n:Int),L (fk l n)<=L l+1
 |[],n=>by simp[fk]
 |x::l,n=>by
  have:=QK l n
  grind [fk]
def OL(l:List Int)(n:Int)(C:L l<1000000):Ct 247 [sl ci l,iv n] (λr=>∃t o,r= .l ((fk l n).map ci) t o):=by refine aLm λs0 e A=>?_;simp only[acb];refine bhZ (L l) (λk=>∀j,j<k->gd l j<n) (by simp) λk q p=>?_;simp+contextual only[qz 19,qz 2,u0,u1,ix,rk,bh,nS,aov,aFj];have d:=QJ l n k q p;refine⟨λh=>u7 h,λh=>?_,λh=>⟨λa=>u7 a,λa=>⟨I,I,?_⟩,λa=>⟨(by omega),?_⟩⟩⟩;grind [gS,aL];rw[bN] at a;have i:=aNR a.2;rw[d (λ_=>by omega),lC ⟨aL a.1,i⟩];rfl;have B:k<L l->¬gd l k<n:=(by simp_all);have m:¬(k<L l/\gd l k=n):=(by simp_all);rw[j5 m] at d;refine fP (ds:=[38,42,47]) Gr.nil rfl (by decide) (by decide) (by omega) (by simp) pU (by grind) λa1 v g1 b=>?_;rw[dW] at g1;simp only[qz 4,qy 6,iz,bQ];refine fP g1 rfl (by decide) (by decide) (by rw[b.1,e];decide) pU (pU (l:=[n])) (by grind) λy w c f=>?_;rw[show(l.take k).map ci++[[AV.s<|.int .i64 n]]=(l.take k++[n]).map ci by simp] at c;simp only[qz 8,qy 10,au,aIg,bh];refine⟨(by omega),?_⟩;refine fP c rfl (by decide) (by decide) (by rw[f.1,b.1,e];decide) pU pU (by grind) λz x g u=>?_;refine qV g λt=>⟨t,U,?_⟩;simp_all
def BX:FT:=pn OL
def ayI{l n Lw K}:=f211 BX OL l n Lw K
def aoW:dO:=(69,FM)::(72,Ci)::(70,FL)::(247,BX)::aoV
def Rb:eJ aoW:=ve (pg Pf)<|ve (tE Pe)<|ve (pg Pc)<|ve (aN0 OL)<|Bs
def K7:=ai @ay4<|ai @ay3<|ai @ay1<|ai @ayI<|@ur
def atW:=lA 9 [(4,([4],[1,2,3]))]
def IF a b R:=(.mk _:NS aoW atW Tryz.f177 [.u] [a] b R).p
def aLp{c0:List AV}{s0:ae}{R:be}(hs:L s0=4096)(l0:L c0=4)(h:HB1 36 4 1 c0 s0 λc b=>IF c b R):EB 177 [.a c0] s0 R:=zB1 atW Rb Tryz.func177 hs l0 h
def atU:=lA 15 [(4,([5,6],[0,1])),(10,([5,7],[1]))]
def ach a a1 s0 R:=(.mk _:NR aoW atU Tryz.f204 [a,a1] [] s0 R).p
def aLn{a a1:AV}{R:j4}(h:H0 λs0=>ach a a1 s0 R):Ct 204 [a,a1] R:=z0 atU Rb Tryz.func204 h
def fl:AV->Bool| .s _| .l _ _ _| .m _ _=>U|_=>I
def pv{e:TypeId}{z d:Nat}{zs:List AV}{Y:ae}{K:be}(h:L zs=z)(g:0<z)(c:d<L Y)(b:∀Y',Fr Y Y' [d]->box Y' (d,(aZ Y d).I6+1)=V ⟨e,z,U,U,[zs]⟩->K (.p (d,(aZ Y d).I6+1) 0 0) Y'):eV (alA e zs Y d) K:=by have a:alA e zs Y d=V (.p (d,(aZ Y d).I6+1) 0 0,put Y d ⟨e,z,U,U,[zs]⟩):=(by grind [alA,aRI,zt]);rw[a];exact b _ ⟨D3,λk f=>yk<|λe=>f<|by simp[e]⟩<|zQ c rfl
def dT{a:List fY}{l:List (Nat×Nat)}{R:Prop}(h:(l.all λp=>eL (a.getD p.1 (U,[]))<|a.getD p.2 (U,[]))=U)(b:R):dH a l R:=by grind [ale,dV]
def uc{Y:ae}{ds:List Nat}{e:TypeId}{z:Nat}{a:AV}{bA:List (List AV)}(b:Gr Y ds e z a bA):eY a=V [a]:=by rcases b with⟨_,rfl⟩|⟨d,v,rfl,_⟩<;>rfl
theorem Gr.fr{Y Y':ae}{ds b:List Nat}{e:TypeId}{z:Nat}{a:AV}{bA:List (List AV)}(j:Gr Y ds e z a bA)(i:Fr Y Y' b)(l:∀k∈ds,k∉b):Gr Y' ds e z a bA:=by rcases j with h|⟨d,v,f,c,g⟩;exact .inl h;exact .inr ⟨d,v,f,c,by rw[i.box<|l d c];exact g⟩
def Ev{Y:ae}{d v j z:Nat}{e:TypeId}{o:Bool}{r:List AV}{x:AV}{K:ae->Prop}(a:box Y (d,v)=V ⟨e,z,o,U,[r]⟩)(h:d<L Y)(g:eY x=V [x])(i:j<L r)(c:∀Y',Fr Y Y' [d]->box Y' (d,v)=V ⟨e,z,o,U,[r.set j x]⟩->K Y'):sV (aK 1 Y (.p (d,v) 0 j) x) K:=by have b:aK 1 Y (.p (d,v) 0 j) x=V (wr Y (d,v) ⟨e,z,o,U,[r.set j x]⟩):=(by simp only[aK,aBG,a,aPI,pW,g,qh,bZ,aO1];grind [Option.some.injEq,GP]);rw[b];exact c _ ⟨uC,λk f=>wy<|λe=>f<|by simp[e]⟩<|lO a
def gN{Y:ae}{d v z:Nat}{e:TypeId}{o:Bool}{r cs:List AV}{K:ae->Prop}(f:box Y (d,v)=V ⟨e,z,o,U,[r]⟩)(i:d<L Y)(j:L r=z)(h:L cs=z)(c:∀Y',Fr Y Y' [d]->box Y' (d,v)=V ⟨e,z,o,U,[cs]⟩->K Y'):sV (aK z Y (.p (d,v) 0 0)<|.a cs) K:=by have b:aK z Y (.p (d,v) 0 0) (.a cs)=V (wr Y (d,v) ⟨e,z,o,U,[cs]⟩):=(by grind [aK,aBG,pW,eY,qh]);rw[b];exact c _ ⟨uC,λk g=>wy<|λe=>g<|by simp[e]⟩<|lO f
def awE{Y:ae}{zs:List AV}{x a:AV}{ds:List Nat}{e:TypeId}{z:Nat}{bA:List (List AV)}{K:be}(j:L zs=2)(i:∃y,x= .s y)(c:Gr Y ds e z a bA)(b:∀Y',Fr Y Y' ds->K (.l [[x, .l bA I I]] U U) Y'):eV (aX zs 1 Y [(0, .a [x,a])]) K:=by obtain⟨y,rfl⟩:=i;obtain⟨z0,z1,rfl⟩:∃z0 z1,zs=[z0,z1]:=(by match zs,j with|[z0,z1],_=>simp);rcases c with⟨rfl,rfl⟩|⟨d,v,rfl,g,f⟩;have:aX [z0,z1] 1 Y [(0, .a [.s y, .l [] U U])]=V (.l [[.s y, .l [] I I]] U U,Y):=(by simp[aX,aly,eY,nrm,gK,eR,gi,eB,iR,kills,bqL,eN]);rw[this];exact b Y<|Fr.refl _ _;have:aX [z0,z1] 1 Y [(0, .a [.s y, .m (d,v)<|L bA])]=V (.l [[.s y, .l bA I I]] U U,kill Y (d,v)):=(by simp[aX,aly,eY,nrm,gK,eR,gi,f,eB,iR,kills,bqL,eN]);rw[this];exact b _ ⟨Qi,λk h=>ani<|λe=>h<|by rw[e];exact g⟩
def xL{Y:ae}{ds:List Nat}{e:TypeId}{z:Nat}{a:AV}{bA:List (List AV)}{K:j4}{i:Int}(h:Gr Y ds e z a bA)(b:aF (L bA) i)(j:∀d v,d∈ds->a= .m (d,v) (L bA)->box Y (d,v)=V ⟨e,z,U,I,bA⟩->K (.p (d,v) i.toNat 0)):rV (cz z Y a<|iv i) K:=by rcases h with⟨rfl,rfl⟩|⟨d,v,rfl,f,c⟩;have:=b.1;have:=b.2;grind;have g:i.toNat<L bA:=(by have:=b.1;have:=b.2;omega);simp only[cz,b.1,aPI,c,aQd,g,aOe];exact j d v f rfl c
def Dz{Y:ae}{e:TypeId}{z d v i j:Nat}{bA:List (List AV)}{r:List AV}{x y:AV}{K:ae->Prop}(a:box Y (d,v)=V ⟨e,z,U,I,bA⟩)(o:d<L Y)(h:bA[i]?=V r)(q:j<L r)(l:nrm (eR Y x)=y)(f:eB x=[])(m:eY y=V [y])(n:eN y=U)(c:∀Y',Fr Y Y' [d]->box Y' (d,v)=V ⟨e,z,U,I,bA.set i<|r.set j y⟩->K Y'):sV (aK 1 Y (.p (d,v) i j) x) K:=by have b:aK 1 Y (.p (d,v) i j) x=V (wr Y (d,v) ⟨e,z,U,I,bA.set i<|r.set j y⟩):=(by simp only[aK,aBG,a,eE,brW,f,kills,aRl,pW,l,m,h,bZ,aO1];grind [GP]);rw[b];exact c _ ⟨uC,λk g=>wy<|λe=>g<|by simp[e]⟩<|lO a
def anc{Y:ae}{e:TypeId}{z d v i j:Nat}{bA:List (List AV)}{o b:Bool}{r:List AV}{q:Option Nat}(a:box Y (d,v)=V ⟨e,z,o,b,bA⟩)(c:bA[i]?=V r):vp q Y (.p (d,v) i j)=aN q (r.drop j):=by simp[vp,iE,a,c]
def mo{e:TypeId}{z d n:Nat}{zs:List AV}{Y:ae}{K:be}(f:L Y=n)(b:∀Y',Fr Y Y' [d]->box Y' (d,(aZ Y d).I6+1)=V ⟨e,z,U,U,[zs]⟩->K (.p (d,(aZ Y d).I6+1) 0 0) Y')(g:L zs=z:=by exact rfl)(a:0<z:=by decide)(c:d<n:=by decide):eV (alA e zs Y d) K:=pv g a (f▸c) b
def qW{α:Type}{f:α->List AV}{z:Nat}(a:∀x,L (f x)=z){l:List α}:∀r∈l.map f,L r=z:=by simp_all
def uS{a b c d:AV}:aN (V 4) [a,b,c,d]=V (.a [a,b,c,d]):=rfl
def iF{a:AV}{l:List AV}:aN J (a::l)=V a:=rfl
def zU{v:Value}:eY (.s v)=V [.s v]:=rfl
def aqx(s:aW)(r:AV)(Y:ae):Prop:=∃a1 b d,r= .a [a1,iv s.tx,b,d]/\Gr Y [41] 184 2 a1 (s.ak.map cg.c)/\Gr Y [10] 4 1 b (s.done.map cb)/\Gr Y [14] 138 3 d (s.ay.map aoC.c)
def aCH(s:aW){s0:ae}(hs:L s0=4096)(hp:L s.ak<100000/\L s.done<100000/\L s.ay<100000/\∀l∈s.ak,L l.bk<1000000):∃r q,(aqx s r q/\Fr s0 q [1,2,3,10,14,38,41])/\cZ aS GG 177 [.a s.c] s0 r q:=by refine aLp hs rfl λy z B ap _ b1=>?_;have n:L y=4096:=B.len.trans hs;have d:Fr s0 y [1]:=⟨B.len,λk hk=>ap k<|by simpa using hk⟩;simp only[IF];refine mo n λs4 g b4=>?_;have C:box s4 (1,z)=_:=g.bt b1;simp only[qz 4,qz 6,qy 8,u0,u1,rk,C,aj,nS];refine fP (ds:=[10]) Gr.nil rfl (by decide) (by decide) (by rw[g.1,n];decide) (by simp) (by grind) (by grind) λt s6 v i=>?_;rw[dW] at v;have D:box s6 (1,z)=_:=i.bt C;simp only[qz 10,u0,u1,rk,D,aj];refine fP (ds:=[14]) Gr.nil rfl (by decide) (by decide) (by rw[i.1,g.1,n];decide) (by simp) (by grind [aoC.c]) (by grind) λu s8 w j=>?_;rw[dW] at w;have ac:=v.fr j (by decide);have am:bM aNC brF [(1,iv s.tx),(2,t),(3,u)]=V (.a [.l [] U U,iv s.tx,t,u]):=(by simp[bM,aly,uc v,uc w,zU]);simp only[qz 12,qy 14,am,u0];refine eF rfl rfl (by decide) (by rw[j.1,i.1,g.1,n];decide) λf b R=>?_;simp only[qz 16];refine dT ?_ ?_;rcases v with⟨_,X⟩|⟨d2,v2,X,F,_⟩<;>rcases w with⟨_,Z⟩|⟨d3,v3,Z,G,_⟩<;>(try simp only[cE] at F)<;>(try simp only[cE] at G)<;>(try subst F)<;>(try subst G)<;>rw[X,Z]<;>rfl;have S:box f (1,z)=_:=b.bt<|j.bt D;have T:box f (2,(aZ y 2).I6+1)=_:=b.bt<|j.bt<|i.bt b4;have ad:=ac.fr b (by decide);have af:=w.fr b (by decide);have N:L f=4096:=(by rw[b.1,j.1,i.1,g.1,n]);refine⟨λvs Y=>∃(k:Nat) (a1:AV),vs=[iv k]/\k<=L s.ak/\Fr f Y [3,38,41]/\box Y (3,(aZ s8 3).I6+1)=V ⟨36,4,U,U,[[a1,iv s.tx,t,u]]⟩/\Gr Y [41] 184 2 a1 ((s.ak.take k).map cg.c),fM<|L s.ak,⟨0,_,rfl,mh _,Fr.refl _ _,R,Gr.nil⟩,?_⟩;rintro vs Y ⟨k,a1,rfl,hk,e,hb,g1⟩;have W:box Y (1,z)=_:=e.bt S;have c4:box Y (2,(aZ y 2).I6+1)=_:=e.bt T;simp+contextual only[qz 25,qy 28,u0,u1,rk,uS,iF,W,hb,ix,aj,bh,nS];have O:L Y=4096:=(by rw[e.1,N]);refine⟨λh=>⟨u7 h,?_⟩,λh=>?_⟩;have hR:=hp.2.2.2 _<|asq<|aL h;simp only[qz 18,au,u0,u1,rk,W,ix,aj,bh];refine⟨u7 h,?_⟩;refine fP (ds:=[38]) Gr.nil rfl (by decide) (by decide) (by omega) (by simp) (by simp) (by grind) λP q x m=>?_;rw[dW] at x;have M:bM btg bmK [(0,iv (gd s.ak k).awG),(1,P)]=V (.a [iv (gd s.ak k).awG,P]):=(by simp[bM,aly,uc x,zU]);simp only[qz 20,qy 22,M,u0];refine awE rfl ⟨_,rfl⟩ x λY2 d=>?_;have ab:=(g1.fr m<|by decide).fr d (by decide);refine fP ab rfl (by decide) (by decide) (by rw[d.1,m.1,O];decide) (by grind [cg.c]) (by grind [cg.c,gd]) (by grind) λa5 Y3 g5 K=>?_;have E:box Y3 (3,(aZ s8 3).I6+1)=_:=K.bt<|d.bt<|m.bt hb;simp only[qz 24,u0,u1,E,Nat.add_zero];refine Ev E (by rw[K.1,d.1,m.1,O];decide) (uc g5) (by simp) λY4 A al=>?_;simp only[qz 26];refine dT ?_ ?_;rcases x with⟨_,e4⟩|⟨d4,v4,e4,H,_⟩<;>(try simp only[cE] at H)<;>(try subst H)<;>rw[e4]<;>rfl;simp only[au,cS,aY];have o:=aL h;rw[fX<|by omega];refine⟨⟨k+1,a5,rfl,o,?_,al,?_⟩,?_⟩;exact e.trans ((m.mono<|by simp).trans<|(d.mono<|by simp).trans<|(K.mono<|by simp).trans<|A.mono<|by simp);have:=g5.fr A (by decide);rw[show s.ak.take (k+1)=s.ak.take k++[gd s.ak k] by rw[bT o,iJ o],dg];exact this;grind [fM,cM,bh];have ao:k=L s.ak:=(by grind);refine gN c4 (by omega) rfl rfl λY5 p b5=>?_;simp only[b5,u0,u1,uS,aNN,aoz];rw[ao,gV] at g1;refine⟨⟨a1,t,u,rfl,g1.fr p (by decide),(ad.fr e<|by decide).fr p (by decide),(af.fr e<|by decide).fr p<|by decide⟩,?_⟩;exact(d.mono<|by simp).trans ((g.mono<|by simp).trans<|(i.mono<|by simp).trans<|(j.mono<|by simp).trans<|(b.mono<|by simp).trans<|(e.mono<|by simp).trans<|p.mono<|by simp)
def Dj(a b:AV):Prop:=∀k∈m8 a,k∉m8 b
theorem KJ{Y:ae}{g h:List Nat}{e j:TypeId}{z m:Nat}{a f:AV}{bA b:List (List AV)}(l:Gr Y g e z a bA)(i:Gr Y h j m f b)(p:∀k∈g,k∉h):Dj a f:=by rcases l with⟨_,rfl⟩|⟨d,v,rfl,r,_⟩;intro k c;simp[m8,dC,dK] at c;rcases i with⟨_,rfl⟩|⟨q,v',rfl,n,_⟩;intro k c;simp[m8,dC,dK];intro k c o;grind [m8,dC,dK,cE]
def jH{fn:Nat}{xs:List AV}{Y:ae}{d:Nat}{K Q:be}(f:uQ.elem fn=I)(h:∃r a,Q r a/\cZ aS GG fn xs Y r a)(e:∀r a,Q r a->L a=L Y/\K r a):cB fn xs Y d K:=by obtain⟨r,a,b,c⟩:=h;refine⟨r,a,c,(e r a b).1,?_⟩;rw[j5<|by show¬uQ.elem fn=U;rw[f];simp];simp_all
theorem Gr.sub{Y:ae}{ds b:List Nat}{e:TypeId}{z:Nat}{a:AV}{bA:List (List AV)}(i:Gr Y ds e z a bA)(j:∀k∈ds,k∈b):Gr Y b e z a bA:=by rcases i with h|⟨d,v,c,f,g⟩;exact .inl h;exact .inr ⟨d,v,c,j d f,g⟩
def awZ{s:aW}{Y:ae}{d:Nat}{K:be}(g:L s.ak<100000/\L s.done<100000/\L s.ay<100000/\∀l∈s.ak,L l.bk<1000000)(hs:L Y=4096)(k:∀a1 b e Y',Fr Y Y' [1,2,3,10,14,38,41]->Gr Y' [10,14,41] 184 2 a1 (s.ak.map cg.c)->Gr Y' [10,14,41] 4 1 b (s.done.map cb)->Gr Y' [10,14,41] 138 3 e (s.ay.map aoC.c)->Dj a1 b->Dj a1 e->Dj b e->K (.a [a1,iv s.tx,b,e]) Y'):cB 177 [.a s.c] Y d K:=by refine jH rfl (aCH s hs g) ?_;rintro r h ⟨⟨a1,b,e,rfl,g1,i,j⟩,f⟩;exact⟨f.1,by grind [Gr.sub,KJ]⟩
def QS{bA:List (List AV)}{Q:j4}:(∀r,(∃t o,r=AV.l bA t o)->Q r)=∀t o,Q (.l bA t o):=by grind
def ang{Y:ae}{bA:List (List AV)}{t o:Bool}{v:Value}{r:AV}:lo Y [.l bA t o, .s v] r=True:=by simp[lo,nA,eB,iR]
def jh(l:List Int)(a:List Int)(k:Nat):List Int:=(a.take k).foldl fk l
theorem QL{l a:List Int}{k:Nat}(h:k<L a):jh l a (k+1)=fk (jh l a k) (gd a k):=by rw[jh,iJ h,RO,bT h];rfl
def Bh{l a:List Int}:∀{k:Nat},k<=L a->L (jh l a k)<=L l+k
 |0,_=>by simp[jh]
 |k+1,h=>by
  rw[QL<|by omega]
  have:=QK (jh l a k)<|gd a k
  have:=Bh (l:=l) (a:=a) (k:=k) (by omega)
  omega
def mP(a b:List Int):List Int:=jh (jh [] a<|L a) b<|L b
def OM(a b:List Int)(n:L a+L b<900000):Ct 204 [sl ci a,sl ci b] (λr=>∃t o,r= .l ((mP a b).map ci) t o):=by refine aLn λs0 m j=>?_;simp only[ach];refine yh (λs:Bool×Bool×Nat=>[.l ((jh [] a s.2.2).map ci) s.1 s.2.1,iv s.2.2]) 1 (L a) (λs=>s.2.2<=L a) (U,U,0) (by simp) ?_;rintro⟨t,o,k⟩ c;simp only at c;have e:=Bh (l:=[]) (a:=a) c;simp+contextual only[qz 25,u0,u1,K7,ar,ix,rk,bh,QS,ang];refine⟨λh=>⟨u7 h,by simp only[aO1] at e;omega,λf o'=>?_⟩,λh=>?_⟩;have:=aL h;refine wN (enc:=λs:Bool×Bool×Nat=>[.l ((jh [] a s.2.2).map ci) s.1 s.2.1,iv s.2.2]) (s:=(t,o,k)) (s':=(f,o',k+1)) (i:=k) ?_ rfl rfl (aL h)<|aL h;grind [fX,QL,aL];have d:k=L a:=(by grind);subst d;refine yh (λs:Bool×Bool×Nat=>[.l ((jh (jh [] a<|L a) b s.2.2).map ci) s.1 s.2.1,iv s.2.2]) 1 (L b) (λs=>s.2.2<=L b) (t,o,0) (by simp) ?_;rintro⟨t,o,k⟩ c;simp only at c;have g:=Bh (l:=jh [] a<|L a) (a:=b) c;simp+contextual only[qz 61,u0,u1,K7,ar,ix,rk,bh,QS,ang];refine⟨λh=>⟨u7 h,by simp only[aO1] at e;omega,λf o'=>?_⟩,λh=>?_⟩;have:=aL h;refine wN (enc:=λs:Bool×Bool×Nat=>[.l ((jh (jh [] a<|L a) b s.2.2).map ci) s.1 s.2.1,iv s.2.2]) (s:=(t,o,k)) (s':=(f,o',k+1)) (i:=k) ?_ rfl rfl (aL h)<|aL h;grind [fX,QL,aL];have d:k=L b:=(by grind);subst d;exact⟨rfl,t,o,rfl⟩
def FE:FT:=pn OM
def ayJ{a b Lw K}:=f211 FE OM a b Lw K
def aoX:dO:=(204,FE)::aoW
def apa:eJ aoX:=ve (aN0 OM)<|Rb
def wa:=ai @ayJ<|@K7
def atV:=lA 43 [(6,([15],[7,12])),(10,([45],[2,4,5,6,7,12,15,30])),(12,([54],[2,4,5,6,7,12,15,30])),(29,([17],[7,12])),(36,([19],[7,12,18]))]
def ack b a c d e f g R:=(.mk _:NR aoX atV Tryz.f141 [.u, .u,c,d,e,f] [b,a] g R).p
def aLo{c0:List AV}{b:List AV}{c d e f:AV}{R:j4}(l0:L c0=6)(l1:L b=4)(h:H2 31 6 6 c0 36 4 7 b λia g i=>ack ia g c d e f i R):Ct 141 [.a c0, .a b,c,d,e,f] R:=z2 atV apa Tryz.func141 l0 l1 h
structure Sy(Y:ae)(d v:Nat)(sp:List Nat)(s:aW)(a1 a2 a3:AV):Prop where
 bx:box Y (d,v)=V ⟨36,4,U,U,[[a1,iv s.tx,a2,a3]]⟩
 g1:Gr Y sp 184 2 a1 (s.ak.map cg.c)
 g2:Gr Y sp 4 1 a2 (s.done.map cb)
 g3:Gr Y sp 138 3 a3 (s.ay.map aoC.c)
 d12:Dj a1 a2
 d13:Dj a1 a3
 d23:Dj a2 a3
theorem Dj.no{a b:AV}{d v n:Nat}(h:Dj a b)(e:a= .m (d,v) n):d∉m8 b:=h d (by grind [m8,dC,dK])
def Dj.sym{a b:AV}(h:Dj a b):Dj b a:=λk f e=>h k e f
def Gr.other{Y Y':ae}{ds:List Nat}{e:TypeId}{z d:Nat}{a:AV}{bA:List (List AV)}(k:Gr Y ds e z a bA)(j:Fr Y Y' [d])(l:d∉m8 a):Gr Y' ds e z a bA:=by rcases k with h|⟨f,v,rfl,g,i⟩;exact .inl h;refine .inr ⟨f,v,rfl,g,?_⟩;rw[j.box<|by grind [cE,m8,dC,dK]];exact i
def map_set{α:Type}{f:α->List AV}{l:List α}{i:Nat}{x:α}:(l.map f).set i (f x)=(l.set i x).map f:=by simp
def aO7{Y:ae}{d v:Nat}{g:List Nat}{s:aW}{a1 n l:AV}{i:Int}{j:Nat}{x:Value}{K:AV->be}(S:Sy Y d v g s a1 n l)(t:∀k∈g,k<L Y/\k≠d)(r:aF (L s.ay) i)(z:j<3)(u:aoC)(E:(gd s.ay i.toNat).c.set j (.s x)=u.c)(w:∀e v' Y',e∈g->Fr Y Y' g->Sy Y' d v g {s with ay:=s.ay.set i.toNat u} a1 n l->K (.p (e,v') i.toNat 0) (.p (e,v') i.toNat j) Y'):rV (cz 3 Y l<|iv i) λp=>rV (iQ j Y p) λq=>sV (aK 1 Y q<|.s x) (K p q):=by have D:L (s.ay.map aoC.c)=L s.ay:=(by simp);refine xL S.g3 (by simp_all) λe v' f m o=>?_;rw[rR,o];have A:(s.ay.map aoC.c)[i.toNat]?=V (gd s.ay i.toNat).c:=(by have C:i.toNat<L s.ay:=(by have:=r.1;have:=r.2;omega);grind [eC,bT]);show sV (aK 1 Y (.p (e,v') i.toNat<|0+j)<|.s x)<|K _<|.p (e,v') i.toNat<|0+j;rw[aj];refine Dz (y:= .s x) o (t e f).1 A z rfl rfl rfl rfl λY' h B=>?_;refine w e v' Y' f (h.mono<|by simp[f]) ⟨?_,?_,?_,?_,S.d12,S.d13,S.d23⟩;rw[h.box<|by grind];exact S.bx;exact S.g1.other h<|S.d13.sym.no m;exact S.g2.other h<|S.d23.sym.no m;refine .inr ⟨e,v',?_,f,?_⟩;rw[m];simp;simp_all
def yO{Y:ae}{d v:Nat}{g:List Nat}{s:aW}{a1 m n:AV}{i:Int}{j:Nat}{x y:AV}{K:AV->be}(S:Sy Y d v g s a1 m n)(u:∀k∈g,k<L Y/\k≠d)(t:aF (L s.ak) i)(B:j<2)(D:nrm (eR Y x)=y)(w:eB x=[])(E:eY y=V [y])(r:eN y=U)(z:cg)(M:(gd s.ak i.toNat).c.set j y=z.c)(A:∀e v' Y',e∈g->Fr Y Y' g->Sy Y' d v g {s with ak:=s.ak.set i.toNat z} a1 m n->K (.p (e,v') i.toNat 0) (.p (e,v') i.toNat j) Y'):rV (cz 2 Y a1<|iv i) λp=>rV (iQ j Y p) λq=>sV (aK 1 Y q x) (K p q):=by have H:L (s.ak.map cg.c)=L s.ak:=(by simp);refine xL S.g1 (by simp_all) λe v' f l o=>?_;rw[rR,o];have C:(s.ak.map cg.c)[i.toNat]?=V (gd s.ak i.toNat).c:=(by have G:i.toNat<L s.ak:=(by have:=t.1;have:=t.2;omega);grind [eC,bT]);show sV (aK 1 Y (.p (e,v') i.toNat<|0+j) x)<|K _<|.p (e,v') i.toNat<|0+j;rw[aj];refine Dz (y:=y) o (u e f).1 C B D w E r λY' h F=>?_;refine A e v' Y' f (h.mono<|by simp[f]) ⟨?_,?_,?_,?_,S.d12,S.d13,S.d23⟩;rw[h.box<|by grind];exact S.bx;refine .inr ⟨e,v',?_,f,?_⟩;rw[l];simp;simp_all;exact S.g2.other h<|S.d12.no l;exact S.g3.other h<|S.d13.no l
def aIC{Y:ae}{d v:Nat}{g:List Nat}{s:aW}{a1 h l:AV}{i:Int}{b:Bool}{K:ae->Prop}(S:Sy Y d v g s a1 h l)(o:∀k∈g,k<L Y/\k≠d)(n:aF (L s.done) i)(q:∀Y',Fr Y Y' g->Sy Y' d v g {s with done:=s.done.set i.toNat b} a1 h l->K Y'):rV (cz 1 Y h<|iv i) λp=>sV (aK 1 Y p<|bv b) K:=by have x:L (s.done.map cb)=L s.done:=(by simp);refine xL S.g2 (by simp_all) λm v' e j r=>?_;have t:(s.done.map cb)[i.toNat]?=V (cb<|gd s.done i.toNat):=(by have w:i.toNat<L s.done:=(by have:=n.1;have:=n.2;omega);grind [eC,bT]);refine Dz (y:=bv b) r (o m e).1 t (by simp) rfl rfl rfl rfl λY' f u=>?_;refine q Y' (f.mono<|by simp[e]) ⟨?_,?_,?_,?_,S.d12,S.d13,S.d23⟩;rw[f.box<|by grind];exact S.bx;exact S.g1.other f<|S.d12.sym.no j;refine .inr ⟨m,v',?_,e,?_⟩;rw[j];simp;simp_all;exact S.g3.other f<|S.d23.no j
def ni(s:aW)(i:Int)(e:aoC):aW:={s with ay:=s.ay.set i.toNat e}
def I9(s:aW)(i:Int)(e:cg):aW:={s with ak:=s.ak.set i.toNat e}
def fA(s:aW)(i:Int):aoC:=gd s.ay i.toNat
def cH(s:aW)(i:Int):cg:=gd s.ak i.toNat
def tD(s:aW)(f8 amt:Int):Int:=if amt∈fO s f8 then amt else gd (fO s f8) 0
def cU(w:J9)(s:aW)(t kind f8 amt:Int):aW×Int:=
 if kind=1 then(ni s t {fA s t with cQ:=2},0)
 else if kind=2 then(ni s t {fA s t with cQ:=5},0)
 else if kind=6\/kind=10 then(I9 s f8 {cH s f8 with awG:=t},0)
 else if kind=7\/kind=11 then(I9 s f8 {cH s f8 with awG:= -1},0)
 else if kind=8 then(I9 s f8 {cH s f8 with bk:=mP (cH s f8).bk [t]},0)
 else if kind=9 then(I9 s f8 {cH s f8 with bk:=fJ (cH s f8).bk t},0)
 else if kind=12 then({s with tx:=t},0)
 else if kind=13 then({s with tx:= -1},0)
 else if kind=14 then(ni s t {fA s t with atomic:=U},0)
 else if kind=15 then(ni s t {fA s t with atomic:=I},0)
 else if kind=16 then(ni (I9 s (gd w.bC f8.toNat).eg {cH s (gd w.bC f8.toNat).eg with awG:= -1}) t {fA s t with cQ:=3,cond:=f8},0)
 else if kind=17 then(ni (I9 s (gd w.bC f8.toNat).eg {cH s (gd w.bC f8.toNat).eg with awG:=t}) t {fA s t with cQ:=2,cond:=0},0)
 else if kind=18 then(if fO s f8=[] then(s,-1) else(ni s (tD s f8 amt) {fA s (tD s f8 amt) with cQ:=4},tD s f8 amt))
 else if kind=19 then((fO s f8).foldl (λs u=>ni s u {fA s u with cQ:=4}) s,L<|fO s f8)
 else if kind=20 then(ni s f8 {fA s f8 with cQ:=1},0)
 else if kind=22 then({s with done:=s.done.set f8.toNat U},0)
 else(s,0)
def aBt{Y:ae}{ds:List Nat}{e:TypeId}{z:Nat}{a:AV}{bA:List (List AV)}(g:Gr Y ds e z a bA):∃f o,gi Y a= .l bA f o:=by rcases g with⟨rfl,rfl⟩|⟨d,v,rfl,_,h⟩;exact⟨_,_,rfl⟩;simp_all [gi]
def sU{Y:ae}{ds:List Nat}{e:TypeId}{z:Nat}{a:AV}{bA:List (List AV)}(g:Gr Y ds e z a bA):∃f o,dQ Y a= .l bA f o:=by rcases g with⟨rfl,rfl⟩|⟨d,v,rfl,h,i⟩;exact⟨_,_,rfl⟩;simp_all [dQ]
def eD(s:aW)(f:Bool×Bool×Bool×Bool×Bool×Bool):List AV:=[.l (s.ak.map cg.c) f.1 f.2.1,iv s.tx, .l (s.done.map cb) f.2.2.1 f.2.2.2.1, .l (s.ay.map aoC.c) f.2.2.2.2.1 f.2.2.2.2.2]
def avt{Y:ae}{m:List Nat}{s':aW}{a1 e g:AV}{v:Int}{R:j4}{h:Nat}{r:List AV}(S:Sy Y 7 1 m s' a1 e g)(F:∀k∈m,k≠12)(C:box Y (12,h)=V ⟨36,4,U,U,[r]⟩)(D:L r=4)(G:L Y=4096)(B:∀f,R<|.t [.a<|eD s' f,iv v,bv U]):rV (vp (V 4) Y<|.p (7,1) 0 0) λt=>sV (aK 4 Y (.p (12,h) 0 0) t) λi=>rV (vp (V 4) i<|.p (12,h) 0 0) λt=>aE R i [t,iv v,bv U]:=by have y:vp (V 4) Y (.p (7,1) 0 0)=V (.a [a1,iv s'.tx,e,g]):=(by simp[vp,iE,S.bx,aN]);rw[y];refine gN (cs:=[a1,iv s'.tx,e,g]) C (by omega) D rfl λY' j n=>?_;have z:vp (V 4) Y' (.p (12,h) 0 0)=V (.a [a1,iv s'.tx,e,g]):=(by simp[vp,iE,n,aN]);rw[z];have l:∀k∈m,k∉[12]:=(by simp_all);obtain⟨u,o1,o⟩:=sU<|S.g1.fr j l;obtain⟨w,E,q⟩:=sU<|S.g2.fr j l;obtain⟨x,o3,s⟩:=sU<|S.g3.fr j l;show aE R Y' [.a [a1,iv s'.tx,e,g],iv v,bv U];have A:jS Y' [.a [a1,iv s'.tx,e,g],iv v,bv U]= .t [.a<|eD s' (u,o1,w,E,x,o3),iv v,bv U]:=(by show AV.t [.a<|[a1,iv s'.tx,e,g].map<|dQ Y',iZ Y'<|iv v,iZ Y'<|bv U]=_;simp only[ji,mU,o,q,s];rfl);unfold aE;rw[A];exact⟨rfl,B _⟩
def Qt{Y:ae}{ds:List Nat}{e:TypeId}{z:Nat}{a:AV}{α:Type}{f:α->List AV}{l:List α}(g:Gr Y ds e z a<|l.map f):gK (gi Y a)=sl f l:=by obtain⟨i,o,h⟩:=aBt g;rw[h];rfl
def aoP{Y:ae}{d v:Nat}{g:List Nat}{s:aW}{a1 e f:AV}(S:Sy Y d v g s a1 e f):dG Y (.a [a1,iv s.tx,e,f])= .a s.c:=by simp only[dG,nrm,eR,ji,mU,Qt S.g1,Qt S.g2,Qt S.g3];rfl
section
variable{a b c d:AV}
def rq0:aN J [a,b,c,d]=V a:=rfl
def rq2:aN J (aOz 2 [a,b,c,d])=V c:=rfl
def yD:aN J (aOz 3 [a,b,c,d])=V d:=rfl
def rq4:aN (V 4) [a,b,c,d]=V (.a [a,b,c,d]):=rfl
end
def tf{K:j4}{Y:ae}{i:Int}{l:List Int}{t o:Bool}:rV (cz 1 Y (.l (l.map ci) t o)<|iv i) K=(aF (L l) i/\K (.q<|ci<|gd l i.toNat)):=amX (Y:=Y)
def aoQ{Y:ae}{d v:Nat}{j:List Nat}{s:aW}{a1 k l:AV}{i:Int}{K:AV->AV->j4}(S:Sy Y d v j s a1 k l)(h:aF (L s.ak) i)(m:∀e v',e∈j->K (.p (e,v') i.toNat 0) (.p (e,v') i.toNat 1) (sl ci (gd s.ak i.toNat).bk)):rV (cz 2 Y a1<|iv i) λp=>rV (iQ 1 Y p) λq=>rV (vp J Y q) (K p q):=by have t:L (s.ak.map cg.c)=L s.ak:=(by simp);refine xL S.g1 (by simp_all) λe v' g r f=>?_;rw[rR,f];have n:(s.ak.map cg.c)[i.toNat]?=V (gd s.ak i.toNat).c:=(by have o:i.toNat<L s.ak:=(by have:=h.1;have:=h.2;omega);grind [eC,bT]);show rV (vp J Y<|.p (e,v') i.toNat<|0+1)<|K _<|.p (e,v') i.toNat<|0+1;rw[aj,anc f n];exact m e v' g
def aoR{Y:ae}{d v:Nat}{g:List Nat}{s:aW}{a1 h i:AV}{x:Int}{K:ae->Prop}(S:Sy Y d v g s a1 h i)(m:d<L Y)(e:∀k∈g,k∉[d])(l:∀Y',Fr Y Y' [d]->Sy Y' d v g {s with tx:=x} a1 h i->K Y'):sV (aK 1 Y (.p (d,v) 0 1)<|iv x) K:=by refine Ev S.bx m rfl (by simp) λY' f j=>?_;exact l Y' f ⟨j,S.g1.fr f e,S.g2.fr f e,S.g3.fr f e,S.d12,S.d13,S.d23⟩
def Af{α:Type}[Inhabited α]{l:List α}{i:Int}{x:α}(h:aF (L l) i):gd (l.set i.toNat x) i.toNat=x:=by have e:i.toNat<L l:=(by have:=h.1;have:=h.2;omega);grind [bT]
def uE(s:aW)(u:Int):aW:=ni s u {fA s u with cQ:=4}
def aD3{s:aW}{u:Int}:L (uE s u).ay=L s.ay:=by simp[uE,ni]
theorem ans:∀{l:List Int} {s:aW},L (l.foldl uE s).ay=L s.ay
 |[],_=>rfl
 |u::l,s=>by rw[List.foldl_cons,ans,aD3]
theorem apF{s:aW}{c u:Int}(h:u∈fO s c):aF (L s.ay) u:=by grind [fO,eh,dJ]
def wM:aW:=⟨[],0,[],[]⟩
def ON(w:J9)(s:aW)(t kind f8 amt:Int)(hp:L w.bC<4611686018427387904/\(∀l∈s.ak,L l.bk<100000)/\L s.ak<100000/\L s.done<100000/\L s.ay<100000):Ct 141 [.a w.c, .a s.c,iv t,iv kind,iv f8,iv amt] (λr=>∃f,r=bif jm w s t kind f8 then .t [.a<|eD (cU w s t kind f8 amt).1 f,iv (cU w s t kind f8 amt).2,bv U] else .t [.a<|eD wM f,iv 0,bv I]):=by refine aLo rfl rfl λs4 H b1 b2 h0=>?_;simp only[ack];refine mo H λs6 E b6=>?_;have c1:box s6 (6,1)=_:=E.bt b1;have c2:box s6 (7,1)=_:=E.bt b2;simp+contextual only[qz 6,qy 10,u0,u1,wa,ar,c1,c2,rk];refine⟨(by grind),λhe=>?_,λhe=>?_⟩;simp only[eH] at he;rw[show bM aNC brF []=V (.a aNC) from rfl];refine gN (cs:=aNC) b6 (by rw[E.1,H];decide) rfl rfl λs7 F7 b7=>?_;simp only[qz 8,u1,b7];refine⟨rfl,(U,U,U,U,U,U),?_⟩;rw[he];rfl;simp only[fK] at he;obtain⟨hf,hi,hn⟩:lh w s=U/\dh t (L w.ay)=U/\named w kind f8=U:=(by grind [jm]);obtain⟨f1,f2,f3,f4⟩:=iY hf;have x:aF (L s.ay) t:=(by grind [dX]);refine awZ (by grind) (by rw[E.1,H]) λa1 a2 a3 bF B g1 g2 g3 aP aQ aR=>?_;refine gN (cs:=[a1,iv s.tx,a2,a3]) (B.bt c2) (by rw[B.1,E.1,H];decide) rfl rfl λo A C=>?_;have S:Sy o 7 1 [10,14,41] s a1 a2 a3:=⟨C,g1.fr A (by decide),g2.fr A (by decide),g3.fr A (by decide),aP,aQ,aR⟩;have ax:L o=4096:=(by rw[A.1,B.1,E.1,H]);have aG:box o (12,(aZ s4 12).I6+1)=_:=A.bt<|B.bt b6;have aN:box o (6,1)=_:=A.bt<|B.bt c1;have q:∀k∈[10,14,41],k<L o/\k≠7:=(by grind);have m:∀k∈[10,14,41],k∈[7,10,14,41]:=(by decide);simp only[qz 12];refine bpD (λg=>∀Y' s' v,Fr o Y' [7,10,14,41]->Sy Y' 7 1 [10,14,41] s' a1 a2 a3->cU w s t kind f8 amt=(s',v)->g [iv v] Y') (λY' s' v i j e=>?_) λg p=>?_;simp only[qz 39,aI];refine avt j (by decide) (i.bt aG) rfl (by rw[i.1,ax]) λf=>⟨f,?_⟩;simp_all;simp+contextual only[qz 41,qy 14,qy 16,u0,u1,C,yD,aj];refine⟨λk1=>?_,λk1=>⟨λk2=>?_,λk2=>?_⟩⟩;simp only[yp] at k1;refine aO7 (K:=λ_ _ Y=>g [iv 0] Y) S q x (by decide) {fA s t with cQ:=2} rfl λ_ _ Y' _ i j=>p Y' _ _ (i.mono m) j ?_;simp[cU,k1,ni];simp only[yp] at k2;refine aO7 (K:=λ_ _ Y=>g [iv 0] Y) S q x (by decide) {fA s t with cQ:=5} rfl λ_ _ Y' _ i j=>p Y' _ _ (i.mono m) j ?_;simp[cU,k2,ni];simp only[qz 65,iM,aY,sw];simp+contextual only[qz 63,qy 18,u0,u1,C,rq0,aj];refine⟨λk6=>?_,λk6=>?_⟩;simp only[fH,yp] at k6;have n:aF (L s.ak) f8:=(by grind [mJ]);refine yO (K:=λ_ _ Y=>g [iv 0] Y) S q n (by decide) (y:=iv t) rfl rfl rfl rfl {cH s f8 with awG:=t} rfl λ_ _ Y' _ i j=>p Y' _ _ (i.mono m) j ?_;grind [cU,I9];simp only[qz 77,iM,aY,sw];simp+contextual only[qz 75,qy 20,qy 26,qy 28,qy 30,qy 32,qy 34,qy 52,qy 54,u0,u1,C,aN,rq0,rq2,yD,rq4,rk,ix,aj];refine⟨λk7=>?_,λk7=>⟨λk8=>?_,λk8=>⟨λk9=>?_,λk9=>⟨λN=>?_,λN=>⟨λO=>?_,λO=>⟨λP=>?_,λP=>⟨λR=>?_,λR=>⟨λT=>?_,λT=>⟨λW=>?_,λW=>⟨λah=>?_,λah=>⟨λX=>?_,λX=>⟨λZ=>?_,λZ=>⟨λaa=>?_,λaa=>?_⟩⟩⟩⟩⟩⟩⟩⟩⟩⟩⟩⟩⟩;simp only[fH,yp] at k7;have n:aF (L s.ak) f8:=(by grind [mJ]);refine yO (K:=λ_ _ Y=>g [iv 0] Y) S q n (by decide) (y:=iv<|-1) rfl rfl rfl rfl {cH s f8 with awG:= -1} rfl λ_ _ Y' _ i j=>p Y' _ _ (i.mono m) j ?_;grind [cU,I9];simp only[yp] at k8;have n:aF (L s.ak) f8:=(by grind [mJ]);have a8:=hp.2.1 _<|ii n;refine aoQ S n λd' v' aV=>?_;simp only[iz,bQ,qz 22];rw[show(AV.l [[iv t]] U U)=AV.l ([t].map ci) U U from rfl];simp only[ar,wa,QS];refine⟨by grind,λt' o'=>⟨.inl rfl,?_⟩⟩;refine yO S q n (by decide) (y:=sl ci<|mP (gd s.ak f8.toNat).bk [t]) rfl rfl rfl rfl {cH s f8 with bk:=mP (cH s f8).bk [t]} rfl λ_ _ Y' _ i j=>?_;refine dT (by simp[eL,lb,m8,dC,dK])<|p Y' _ _ (i.mono m) j ?_;simp[cU,k8,I9];simp only[yp] at k9;have n:aF (L s.ak) f8:=(by grind [mJ]);have a8:=hp.2.1 _<|ii n;refine aoQ (K:=λ_ _ bg=>fV Cb o [bg,iv t] λbi=>rV (cz 2 o a1<|iv f8) λbj=>rV (iQ 1 o bj) λbl=>sV (aK 1 o bl bi) λbf=>g [iv 0] bf) S n λd' v' aV=>?_;simp only[ar,wa];refine⟨by omega,λt'=>?_⟩;refine yO (K:=λ_ _ Y=>g [iv 0] Y) S q n (by decide) (y:=sl ci<|fJ (gd s.ak f8.toNat).bk t) rfl rfl rfl rfl {cH s f8 with bk:=fJ (cH s f8).bk t} rfl λ_ _ Y' _ i j=>p Y' _ _ (i.mono m) j ?_;simp[cU,k9,I9];simp only[yp] at N;exact aoR S (by omega) (by decide) λY' i j=>p Y' _ _ (i.mono<|by decide) j (by simp[cU,N]);simp only[yp] at O;exact aoR S (by omega) (by decide) λY' i j=>p Y' _ _ (i.mono<|by decide) j (by simp[cU,O]);simp only[yp] at P;refine aO7 (K:=λ_ _ Y=>g [iv 0] Y) S q x (by decide) {fA s t with atomic:=U} rfl λ_ _ Y' _ i j=>p Y' _ _ (i.mono m) j ?_;simp[cU,P,ni];simp only[yp] at R;refine aO7 (K:=λ_ _ Y=>g [iv 0] Y) S q x (by decide) {fA s t with atomic:=I} rfl λ_ _ Y' _ i j=>p Y' _ _ (i.mono m) j ?_;simp[cU,R,ni];simp only[yp] at T;have D:aF (L w.bC) f8:=(by grind [oT]);have M:aF (L s.ak) (gd w.bC f8.toNat).eg:=(by rw[f2];exact f1 _<|ii D);refine⟨D,yO S q M (by decide) (y:=iv<|-1) rfl rfl rfl rfl {cH s (gd w.bC f8.toNat).eg with awG:= -1} rfl λ_ _ Y' _ i j=>?_⟩;have z:∀k∈[10,14,41],k<L Y'/\k≠7:=(by rw[i.1];exact q);simp only[qz 36,u0,u1,j.bx,yD,aj];refine aO7 j z x (by decide) {fA s t with cQ:=3} rfl λd1 v1 Y2 aX F S2=>?_;have G:∀k∈[10,14,41],k<L Y2/\k≠7:=(by rw[F.1];exact z);refine aO7 S2 G (by grind) (by decide) {fA s t with cQ:=3,cond:=f8} (by simp only[Af x];rfl) λd2 v2 Y3 a0 F3 S3=>?_;have h7:(7:Nat)≠d1:=(by grind);refine dT (by simp[eL,lb,m8,dC,dK,h7])<|p Y3 _ _ (((i.mono m).trans<|F.mono m).trans<|F3.mono m) S3 ?_;simp[cU,T,ni,I9];simp only[yp] at W;have D:aF (L w.bC) f8:=(by grind [oT]);have M:aF (L s.ak) (gd w.bC f8.toNat).eg:=(by rw[f2];exact f1 _<|ii D);refine⟨D,yO S q M (by decide) (y:=iv t) rfl rfl rfl rfl {cH s (gd w.bC f8.toNat).eg with awG:=t} rfl λ_ _ Y' _ i j=>?_⟩;have z:∀k∈[10,14,41],k<L Y'/\k≠7:=(by rw[i.1];exact q);simp only[qz 42,u0,u1,j.bx,yD,aj];refine aO7 j z x (by decide) {fA s t with cQ:=2} rfl λd1 v1 Y2 aX F S2=>?_;have G:∀k∈[10,14,41],k<L Y2/\k≠7:=(by rw[F.1];exact z);refine aO7 S2 G (by grind) (by decide) {fA s t with cQ:=2,cond:=0} (by simp only[Af x];rfl) λd2 v2 Y3 a0 F3 S3=>?_;have h7:(7:Nat)≠d1:=(by grind);refine dT (by simp[eL,lb,m8,dC,dK,h7])<|p Y3 _ _ (((i.mono m).trans<|F.mono m).trans<|F3.mono m) S3 ?_;simp[cU,W,ni,I9];simp only[yp] at ah;simp only[jM,kU,jt,tW,aoP S,wa,QQ,Ql,GL];refine⟨by omega,λt'=>?_⟩;simp only[gT,u0,u1];refine⟨λhg=>?_,λhg=>?_⟩;simp only[yp] at hg;have bD:fO s f8≠[]:=(by grind);have bb:L (fO s f8)<=L s.ay:=wU s f8 _;simp only[tf,u0,Gx,rk];have ba:gd (fO s f8) 0∈fO s f8:=asq (by omega);refine⟨⟨by omega,by omega⟩,?_⟩;refine bsp (λJ'=>∀u:Int,u∈fO s f8->cU w s t kind f8 amt=(uE s u,u)->J' [iv u]) (λu hu e=>?_) λJ' key=>?_;simp only[qz 177,qy 48,aI,au,u0,u1,C,yD,aj];exact aO7 (K:=λ_ _ Y=>g [iv u] Y) S q (apF hu) (by decide) {fA s u with cQ:=4} rfl λ_ _ Y' _ i j=>p Y' _ _ (i.mono m) j e;simp only[qz 179,ar,wa,u0];refine⟨by omega,λhh=>?_,λhh=>?_⟩;simp only[yp] at hh;exact key amt hh (by grind [cU,tD,uE]);simp only[aNK] at hh;exact key _ ba (by grind [cU,tD,uE]);grind [decide_eq_false_iff_not,fO,List.length_eq_zero_iff,Fr.refl,cU];simp only[yp] at X;simp only[jM,kU,jt,tW,aoP S,wa,QQ,Ql,GL];refine⟨by omega,λt'=>?_⟩;have bb:L (fO s f8)<=L s.ay:=wU s f8 _;refine⟨λvs Y=>∃k:Nat,vs=[iv k]/\k<=L (fO s f8)/\Fr o Y [10,14,41]/\Sy Y 7 1 [10,14,41] (((fO s f8).take k).foldl uE s) a1 a2 a3,fM<|L<|fO s f8,(by grind [Fr.refl]),?_⟩;rintro vs Y ⟨k,rfl,hk,Fk,Sk⟩;simp only[qz 217,aI,gT,u0,u1,Sk.bx,yD,aj,tf,bh,qM];refine⟨λh=>⟨u7 h,?_⟩,λh=>?_⟩;have ag:=aL h;have z:∀k∈[10,14,41],k<L Y/\k≠7:=(by rw[Fk.1];exact q);refine aO7 Sk z (by grind [ans,apF,asq]) (by decide) {fA (((fO s f8).take k).foldl uE s) (gd (fO s f8) k) with cQ:=4} rfl λ_ _ Y' _ i j=>?_;simp only[qz 50,au,cS,aY];rw[fX<|by omega];refine⟨⟨k+1,rfl,ag,Fk.trans i,?_⟩,?_⟩;rw[EA ag,RO];exact j;simp only[fM,cM,bh];omega;have a6:k=L (fO s f8):=(by grind);subst a6;rw[gV] at Sk;refine p Y _ _ (Fk.mono m) Sk ?_;simp[cU,X];rfl;simp only[yp] at Z;have a9:aF (L s.ay) f8:=(by grind [Eb]);refine aO7 (K:=λ_ _ Y=>g [iv 0] Y) S q a9 (by decide) {fA s f8 with cQ:=1} rfl λ_ _ Y' _ i j=>p Y' _ _ (i.mono m) j ?_;simp[cU,Z,ni];simp only[yp] at aa;have a4:aF (L s.done) f8:=(by grind [oU]);refine aIC S q a4 λY' i j=>p Y' _ _ (i.mono m) j ?_;simp[cU,aa];grind [Fr.refl,cP,decide_eq_false_iff_not,cU]
def FG:FT:=BL ON
def ayK{w s t kind f8 amt Lw K}:=al4 FG ON w s t kind f8 amt Lw K
def Ew:dO:=(141,FG)::aoX
def nF:eJ Ew:=ve (apO ON)<|apa
def z9:=ai @ayK<|@wa
def alb:=lA 31 [(4,([],[3,4,5,6])),(22,([10],[3,4,5,6,9])),(25,([],[5,6,9])),(27,([],[5,6,9]))]
def IL c b a d R:=(.mk _:NR Ew alb Tryz.f71 [.u, .u, .u] [c,b,a] d R).p
def aLz{c0:List AV}{b:List AV}{c:List AV}{R:j4}(l0:L c0=6)(l1:L b=7)(d:L c=7)(h:H3 31 6 3 c0 40 7 4 b 62 7 5 c λf g i e=>IL f g i e R):Ct 71 [.a c0, .a b, .a c] R:=z3 alb nF Tryz.func71 l0 l1 d h
def abQ a s0 R:=(.mk _:NR Ew at1 Tryz.f198 [a] [] s0 R).p
def aLg{a:AV}{R:j4}(h:H0 λs0=>abQ a s0 R):Ct 198 [a] R:=z0 at1 nF Tryz.func198 h
def abN a s0 R:=(.mk _:NR Ew at1 Tryz.f246 [a] [] s0 R).p
def aLc{a:AV}{R:j4}(h:H0 λs0=>abN a s0 R):Ct 246 [a] R:=z0 at1 nF Tryz.func246 h
def bjB s0 R:=(.mk _:NR Ew at1 Tryz.f245 [] [] s0 R).p
def aLf{R:j4}(h:∀s0:ae,L s0=4096->(∀k,aZ s0 k=mO)->bjB s0 R):Fn aS GG 245 [] R:=by refine uq ready nF Tryz.func245 (an:=at1) (by kernel_rfl) (aND (show ZF aS GG Ew at1 Tryz.f245 [] R=(bjB (ly Tryz.f245) R) by kernel_rfl)<|h (ly Tryz.f245) uB<|i8 _)
def afz a b R:=(.mk _:NR Ew at1 Tryz.f47 [.u] [a] b R).p
def aL4{c0:List AV}{R:j4}(l0:L c0=7)(h:H1 62 7 1 c0 λia b=>afz ia b R):Ct 47 [.a c0] R:=z1 at1 nF Tryz.func47 l0 h
def afG b a c R:=(.mk _:NR Ew at1 Tryz.f111 [.u, .u] [b,a] c R).p
def aL7{c0:List AV}{b:List AV}{R:j4}(l0:L c0=7)(l1:L b=7)(h:H2 62 7 2 c0 62 7 3 b λia c d=>afG ia c d R):Ct 111 [.a c0, .a b] R:=z2 at1 nF Tryz.func111 l0 l1 h
def auF:=lA 5 []
def afH b a c R:=(.mk _:NR Ew auF Tryz.f112 [.u, .u] [b,a] c R).p
def aL8{c0:List AV}{b:List AV}{R:j4}(l0:L c0=15)(l1:L b=7)(h:H2 43 15 2 c0 62 7 3 b λia c d=>afH ia c d R):Ct 112 [.a c0, .a b] R:=z2 auF nF Tryz.func112 l0 l1 h
def aga a b R:=(.mk _:NR Ew at1 Tryz.f16 [.u] [a] b R).p
def aMe{c0:List AV}{R:j4}(l0:L c0=7)(h:H1 62 7 1 c0 λia b=>aga ia b R):Ct 16 [.a c0] R:=z1 at1 nF Tryz.func16 l0 h
def alo{a b:Int}:a6F .geq 0 [] (.s<|.int .u8 a) (.s<|.int .u8 b)=V (bv<|Q<|b<=a):=rfl
def alp{a b:Int}:a6F .leq 0 [] (.s<|.int .u8 a) (.s<|.int .u8 b)=V (bv<|Q<|a<=b):=rfl
def wx(c:Int):Bool:=(Q (97<=c)&&Q (c<=122))||(Q (65<=c)&&Q (c<=90))
def zY(c:Int):Bool:=Q (48<=c)&&Q (c<=57)
def OF(c:Int):Ct 198 [.s<|.int .u8 c] (·=bv (wx c)):=by refine aLg λs0 b a=>?_;simp+contextual only[abQ,u0,u1,alo,alp,wx]
def BW:FT:=lH OF
def ayC{c Lw K}:=np BW OF c Lw K
def OB(c:Int):Ct 246 [.s<|.int .u8 c] (·=bv (zY c)):=by refine aLc λs0 b a=>?_;simp+contextual only[abN,u0,u1,alo,alp,zY]
def Fv:FT:=lH OB
def ayy{c Lw K}:=np Fv OB c Lw K
def fR(e:aP):Bool:=Q (e.kind=3)||Q (e.kind=23)
def pN(e:aP):Bool:=Q (e.kind=18)||Q (e.kind=19)
def PA(e:aP):Ct 47 [.a e.c] (·=bv (fR e)):=by refine aL4 rfl λg f b d=>?_;simp+contextual only[afz,u0,u1,b,rk,aj,fR]
def zk:FT:=lH PA
def azm{e Lw K}:=np zk PA e Lw K
def aXC(e:aP):Ct 16 [.a e.c] (·=bv (pN e)):=by refine aMe rfl λg f b d=>?_;simp+contextual only[aga,u0,u1,b,rk,aj,pN]
def Gd:FT:=lH aXC
def azw{e Lw K}:=np Gd aXC e Lw K
def aTG(s r:aP):Bool:=Q (s.f8=r.f8)&&((Q (s.kind=4)&&Q (r.kind=3))||(Q (s.kind=22)&&Q (r.kind=23)))
def PD(s r:aP):Ct 111 [.a s.c, .a r.c] (·=bv (aTG s r)):=by refine aL7 rfl rfl λg f b d e=>?_;simp+contextual only[afG,u0,u1,b,d,rk,aj,aTG]
def Cn:FT:=lI PD
def azp{s r Lw K}:=f200 Cn PD s r Lw K
def oM(w:gz)(e:aP):Bool:=bif Q (e.kind=23) then gd w.init.gp.done e.f8.toNat&&Q (gd w.init.bU e.f8.toNat=e.value) else Q (gd w.init.cells e.f8.toNat=e.value)
def PE(w:gz)(e:aP)(h:(e.kind=23->aF (L w.init.gp.done) e.f8/\aF (L w.init.bU) e.f8)/\(e.kind≠23->aF (L w.init.cells) e.f8)):Ct 112 [.a w.c, .a e.c] (·=bv (oM w e)):=by refine aL8 rfl rfl λi g b d f=>?_;simp+contextual only[afH,u0,u1,b,d,rk,ix,aj,dc,oM];simp_all
def Ga:FT:=aIc PE
def azq{w e Lw K}:=f210 Ga PE w e Lw K
def sd(w:J9)(c:Int):Int:=bif dh c (L w.bC) then(gd w.bC c.toNat).eg else-1
def qT(l:List aP)(t:Int):Nat->Int|0=> -1|k+1=>if(gd l k).aq=t then k else qT l t k
def lw(l:List aP)(j:Int):Int:=qT l (gd l j.toNat).aq j.toNat
def aOL(w:J9)(s:sA)(e:aP):Bool:=!fN w s||!dh e.aq (L w.ay)||Q (e.kind<1)||Q (23<e.kind)||!jm w s.gp e.aq e.kind e.f8
def tA(w:J9)(e:aP):Bool:=bif Q (e.kind=1)||Q (e.kind=2) then Q (e.site≠-1) else(!dh e.site (L w.dU)||Q ((gd w.dU e.site.toNat).aq≠e.aq))
def yM(w:J9)(e:aP):Bool:=Q ((0:Int)<L e.dI)&&(Q (e.kind≠5)&&!((Q (e.kind=3)||Q (e.kind=4))&&Q ((gd w.cells e.f8.toNat).size≠0)))
def yN(e:aP):Bool:=Q ((0:Int)<L e.ep)&&(Q (e.kind≠4)&&Q (e.kind≠22))
def bip(s:sA)(e:aP):Bool:=!Q (lZ e.dI<|gd s.count e.aq.toNat)||!Q (lZ e.ep<|gd s.count e.aq.toNat)||!aO8 s e
def be3(w:J9)(s:sA)(e:aP):Bool:=!(aOL w s e||(tA w e||(yM w e||(yN e||bip s e))))
def og(e:aP):Int:=if e.kind=18 then e.value else-1
def oc(w:J9)(s:sA)(e:aP):sA:=⟨(cU w s.gp e.aq e.kind e.f8<|og e).1,if e.kind=4 then s.cells.set e.f8.toNat e.value else s.cells,if e.kind=22 then s.bU.set e.f8.toNat e.value else s.bU,s.count.set e.aq.toNat<|dq.wrap<|gd s.count e.aq.toNat+1⟩
def tw:sA:=⟨wM,[],[],[]⟩
def nD(w:J9)(s:sA)(e:aP):sA:=bif be3 w s e then oc w s e else tw
def Lk(cs ds:List AV):Prop:=cs.map gK=ds/\cs.all nj=U
def Lk.frz{cs ds:List AV}(h:Lk cs ds)(Y:ae):cs.map (gi Y)=cs:=by have a:=dV.1 h.2;rw[ja (g:=id) ?_,brw];intro c b;have:=a c b;cases c<;>simp[nj] at this<;>rfl
def Lk.fd{cs ds:List AV}(h:Lk cs ds)(Y:ae):cs.map (dQ Y)=cs:=by have a:=dV.1 h.2;rw[ja (g:=id) ?_,brw];intro c b;have:=a c b;cases c<;>simp[nj] at this<;>rfl
def Lk.arg{cs ds:List AV}(h:Lk cs ds)(Y:ae):dG Y (.a cs)= .a ds:=by show AV.a ((cs.map<|gi Y).map gK)= .a ds;rw[h.frz,h.1]
def aIt{Y:ae}{d v z y:Nat}{e:TypeId}{o:Bool}{r cs:List AV}{K:ae->Prop}(f:box Y (d,v)=V ⟨e,z,o,U,[r]⟩)(h:d<L Y)(j:L cs=y)(i:y<=L r)(c:∀Y',Fr Y Y' [d]->box Y' (d,v)=V ⟨e,z,o,U,[cs++r.drop y]⟩->K Y'):sV (aK y Y (.p (d,v) 0 0)<|.a cs) K:=by have b:aK y Y (.p (d,v) 0 0) (.a cs)=V (wr Y (d,v) ⟨e,z,o,U,[cs++r.drop y]⟩):=(by grind [aK,aBG,pW,eY,qh]);rw[b];exact c _ ⟨uC,λk g=>wy<|λe=>g<|by simp[e]⟩<|lO f
def Lm{Y:ae}{ds:List Nat}{e:TypeId}{a:AV}{l:List Int}{i x:Int}{K:ae->Prop}(h:Gr Y ds e 1 a<|l.map ci)(f:aF (L l) i)(c:∀k∈ds,k<L Y)(j:∀Y',Fr Y Y' ds->Gr Y' ds e 1 a ((l.set i.toNat x).map ci)->K Y'):rV (cz 1 Y a<|iv i) λp=>sV (aK 1 Y p<|iv x) K:=by have s:L (l.map ci)=L l:=(by simp);refine xL h (by simp_all) λd v b m n=>?_;have r:i.toNat<L l:=(by have:=f.1;have:=f.2;omega);have o:(l.map ci)[i.toNat]?=V (ci<|gd l i.toNat):=(by grind [eC,bT]);refine Dz (y:=iv x) n (c d b) o (by simp) rfl rfl rfl rfl λY' g q=>?_;refine j Y' (g.mono<|by simp[b])<|.inr ⟨d,v,?_,b,?_⟩;rw[m];simp;simp_all
def aBI{Y:ae}{ds:List Nat}{e:TypeId}{a:AV}{l:List Int}{i:Int}{K:AV->j4}(c:Gr Y ds e 1 a<|l.map ci)(b:aF (L l) i)(f:∀p,K p<|iv<|gd l i.toNat):rV (cz 1 Y a<|iv i) λp=>rV (vp J Y p) (K p):=by have n:L (l.map ci)=L l:=(by simp);refine xL c (by simp_all) λd v m k g=>?_;have j:i.toNat<L l:=(by have:=b.1;have:=b.2;omega);have h:(l.map ci)[i.toNat]?=V (ci<|gd l i.toNat):=(by grind [eC,bT]);rw[anc g h];exact f _
structure On(Y:ae)(v:Nat)(s:sA)(x:List AV)(a4 a5 a6:AV):Prop where
 bx:box Y (9,v)=V ⟨40,7,U,U,[x++[a4,a5,a6]]⟩
 hx:Lk x s.gp.c
 g4:Gr Y [159] 2 1 a4 (s.cells.map ci)
 g5:Gr Y [163] 2 1 a5 (s.bU.map ci)
 g6:Gr Y [167] 3 1 a6 (s.count.map ci)
 le:L Y=4096
def OV(w:J9)(s:sA)(e:aP)(hp:L w.bC<4611686018427387904/\(∀l∈s.gp.ak,L l.bk<100000)/\L s.gp.ak<100000/\L s.gp.done<100000/\L s.gp.ay<100000/\L s.cells<100000/\L s.bU<100000/\L s.count<100000/\L e.dI<4611686018427387904/\L e.ep<4611686018427387904):Ct 71 [.a w.c, .a s.c, .a e.c] (λr=>∃cs,r= .t [.a cs,bv<|be3 w s e]/\Lk cs (nD w s e).c):=by refine aLz rfl rfl rfl λS hl b1 b2 b3 h0=>?_;obtain⟨p1,p2,p3,p4,p5,p6,p7,p8,p9,a9⟩:=hp;simp only[IL];refine mo hl λT W b7=>?_;have c1:box T (3,1)=_:=W.bt b1;have c2:box T (4,1)=_:=W.bt b2;have c3:box T (5,1)=_:=W.bt b3;have P:L T=4096:=(by rw[W.1,hl]);simp+contextual only[qz 8,qy 10,↓iS,u0,u1,z9,ar,c1,c2,c3,rk,aj];have E:be3 w s e=I->rV (bM bsk anY []) λbc=>sV (aK 7 T (AV.p (6,(aZ S 6).I6+1) 0 0) bc) λad=>rV (((box ad (6,(aZ S 6).I6+1)).bind λx=>Sb (λx=>x) x.bA[0]?).bind<|aN<|V 7) λbd=>aE (λr=>∃cs,r= .t [.a cs,bv<|be3 w s e]/\Lk cs (nD w s e).c) ad [bd,bv I]:=(by intro az;rw[show bM bsk anY []=V (.a bsk) from rfl];refine gN (cs:=bsk) b7 (by omega) rfl rfl λad bO aT=>?_;simp only[aT];exact⟨rfl,bsk,by rw[az];rfl,by simp only[nD,az];rfl,rfl⟩);refine⟨p1,(by grind),λhb=>?_,λaa=>?_⟩;grind [be3,aOL,fh];have bR:aOL w s e=I:=aa;simp only[cP,fK,aNK] at aa;obtain⟨⟨⟨⟨hf,hi⟩,bX⟩,bY⟩,a0⟩:=aa;obtain⟨a1,hn⟩:lh w s.gp=U/\named w e.kind e.f8=U:=(by grind [jm]);obtain⟨f1,f2,f3,f4⟩:=iY a1;obtain⟨q1,q2,q3⟩:L s.cells=L w.cells/\L s.bU=L w.bU/\L s.count=L w.ay:=(by grind [fN]);have N:aF (L s.count) e.aq:=(by grind [dX]);have G:tA w e=U->be3 w s e=I:=(by grind [be3]);refine bsK (λb=>tA w e=I->b [] T) ?_ λb ax=>(by simp+contextual only[qz 29,qy 12,qy 14,↓iS,u0,u1,z9,ar,c1,c3,rk,ix,aj];refine⟨λh=>⟨λh'=>E<|G ?_,λh'=>ax ?_⟩,λh=>⟨λh'=>?_,λh'=>E<|G ?_,λh'=>ax ?_⟩⟩;grind [tA];grind [tA];grind [dX];grind [tA];grind [tA]);intro bS;simp+contextual only[qz 27,qy 16,qy 18,qy 20,↓iS,u0,u1,z9,ar,c1,c2,c3,rk,ix,aj];refine⟨λ_ _ h=>?_,(by grind [be3,yM,fh]),λbT=>⟨(by grind [be3,yN,fh]),λbV=>⟨N,p9,λ_=>N,λ_=>a9,λ_=>⟨by omega,λh=>?_,λh=>?_⟩,(by grind [be3,bip,fh]),λbW=>?_⟩⟩⟩;grind [qP];grind [qP];grind [oU];have aA:be3 w s e=U:=(by grind [yM,yN,bip,be3]);clear E G;simp only[nS,bQ,qz 22,u0,u1,c2,rk,aj];refine fP (bA:=[]) (ds:=[159]) (new:=s.cells.map ci) Gr.nil rfl (by decide) (by decide) (by omega) (by simp) (by simp) (by grind) λm s8 K B=>?_;rw[dW] at K;have d2:box s8 (4,1)=_:=B.bt c2;simp only[qz 24,nS,bQ,qz 26,u0,u1,d2,rk,aj];refine fP (bA:=[]) (ds:=[163]) (new:=s.bU.map ci) Gr.nil rfl (by decide) (by decide) (by rw[B.1,P];decide) (by simp) (by simp) (by grind) λn s9 M C=>?_;rw[dW] at M;have e2:box s9 (4,1)=_:=C.bt d2;simp only[qz 28,nS,bQ,qz 30,u0,u1,e2,rk,aj];refine fP (bA:=[]) (ds:=[167]) (new:=s.count.map ci) Gr.nil rfl (by decide) (by decide) (by rw[C.1,B.1,P];decide) (by simp) (by simp) (by grind) λo bb F i=>?_;rw[dW] at F;have aX:bM bsk anY [(1,m),(2,n),(3,o)]=V (.a [.l [] U U,iv 0, .l [] U U, .l [] U U,m,n,o]):=(by simp[bM,aly,uc K,uc M,uc F]);simp only[qz 32,qy 34,aX,aY];refine eF rfl rfl (by decide) (by rw[i.1,C.1,B.1,P];decide) λu q Z=>?_;have be:(aZ bb 9).I6=0:=(by rw[i.2 _ (by decide),C.2 _ (by decide),B.2 _ (by decide),W.2 _ (by decide),h0 9 (by decide) (by decide)<|by decide]);rw[be] at Z⊢;have a7:L u=4096:=(by rw[q.1,i.1,C.1,B.1,P]);have i1:box u (3,1)=_:=q.bt<|i.bt<|C.bt<|B.bt c1;have i2:box u (4,1)=_:=q.bt<|i.bt e2;have i3:box u (5,1)=_:=q.bt<|i.bt<|C.bt<|B.bt c3;have i7:box u (6,(aZ S 6).I6+1)=_:=q.bt<|i.bt<|C.bt<|B.bt b7;have k4:=((K.fr C<|by decide).fr i<|by decide).fr q (by decide);have k5:=(M.fr i<|by decide).fr q (by decide);have k6:=F.fr q (by decide);simp only[qz 36];refine dT ?_ ?_;rcases K with⟨_,H⟩|⟨d4,v4,H,ap,_⟩<;>rcases M with⟨_,e5⟩|⟨d5,v5,e5,av,_⟩<;>rcases F with⟨_,e6⟩|⟨d6,v6,e6,aw,_⟩<;>(try simp only[cE] at ap)<;>(try simp only[cE] at av)<;>(try simp only[cE] at aw)<;>(try subst ap)<;>(try subst av)<;>(try subst aw)<;>rw[H,e5,e6]<;>rfl;refine bsp (λb=>b [iv<|og e]) ?_ λb hj=>(by simp+contextual only[qz 137,u0,u1,i3,rk,aj];refine⟨λh=>?_,λh=>?_⟩;simp only[yp] at h;rw[og,lC h] at hj;exact hj;simp only[aNK] at h;rw[og,j5 h] at hj;exact hj);simp only[qz 135,aI,au,u0,u1,i1,i2,i3,rk,aj,ar,z9];refine⟨(by simp_all),?_⟩;rintro r ⟨f,rfl⟩;rw[a0];refine⟨.inl rfl,?_⟩;show rV (Sb (λx=>AV.p (9,1) 0 0)<|box u (9,1)) λaL=>sV (aK 4 u aL<|.a<|eD (cU w s.gp e.aq e.kind e.f8<|og e).1 f) _;rw[Z];refine aIt (y:=4) Z (by omega) rfl (by simp) λA z ao=>?_;generalize a3:(cU w s.gp e.aq e.kind e.f8<|og e).1=d at ao;have j:On A 1 ⟨d,s.cells,s.bU,s.count⟩ (eD d f) m n o:=⟨ao,⟨rfl,rfl⟩,k4.fr z (by decide),k5.fr z (by decide),k6.fr z (by decide),by rw[z.1,a7]⟩;have j3:box A (5,1)=_:=z.bt i3;have j7:box A (6,(aZ S 6).I6+1)=_:=z.bt i7;have r4:aN J (aOz 4<|eD d f++[m,n,o])=V m:=rfl;have r5:aN J (aOz 5<|eD d f++[m,n,o])=V n:=rfl;simp only[qz 38];refine bpD (λb=>∀Y D,Fr A Y [9,159,163,167]->On Y 1 ⟨d,D,s.bU,s.count⟩ (eD d f) m n o->D=(if e.kind=4 then s.cells.set e.f8.toNat e.value else s.cells)->b [] Y) ?_ λb ac=>?_;intro Y D R O H;have m3:box Y (5,1)=_:=R.bt j3;simp only[qz 153,aI];refine bpD (λb=>∀Y D f',Fr A Y [9,159,163,167]->On Y 1 ⟨d,D,f',s.count⟩ (eD d f) m n o->D=(if e.kind=4 then s.cells.set e.f8.toNat e.value else s.cells)->f'=(if e.kind=22 then s.bU.set e.f8.toNat e.value else s.bU)->b [] Y) ?_ λb ab=>?_;intro Y D f' R O H e5;have m3:box Y (5,1)=_:=R.bt j3;have m7:box Y (6,(aZ S 6).I6+1)=_:=R.bt j7;have r6:aN J (aOz 6<|eD d f++[m,n,o])=V o:=rfl;simp only[qz 165,aI,u0,u1,O.bx,m3,rk,r6,aj];refine aBI O.g6 N λp=>?_;simp only[cS,aY];refine Lm O.g6 N (by rw[O.le];decide) λX g G2=>?_;have aO:=(g.box (k:=9) (v:=1)<|by decide).trans O.bx;have a8:box X (6,(aZ S 6).I6+1)=_:=g.bt m7;have r7:aN (V 7) (eD d f++[m,n,o])=V (.a<|eD d f++[m,n,o]):=rfl;simp only[qz 44,qy 46,u0,u1,aO,r7];refine gN (cs:=eD d f++[m,n,o]) a8 (by rw[g.1,O.le];decide) rfl rfl λY3 F3 aQ=>?_;simp only[aQ,u0,u1,r7];obtain⟨x4,o4,z4⟩:=sU ((O.g4.fr g<|by decide).fr F3<|by decide);obtain⟨x5,o5,z5⟩:=sU ((O.g5.fr g<|by decide).fr F3<|by decide);obtain⟨x6,o6,z6⟩:=sU (G2.fr F3<|by decide);have aC:jS Y3 [.a<|eD d f++[m,n,o],bv U]= .t [.a<|eD d f++[.l (D.map ci) x4 o4, .l (f'.map ci) x5 o5, .l ((s.count.set e.aq.toNat<|dq.wrap<|gd s.count e.aq.toNat+1).map ci) x6 o6],bv U]:=(by show AV.t [.a<|(eD d f++[m,n,o]).map<|dQ Y3,bv U]=_;rw[dg,O.hx.fd];grind);unfold aE;rw[aC];refine⟨rfl,_,by rw[aA],?_,rfl⟩;simp only[nD,aA,bie,oc,a3,<-H,<-e5];rfl;simp+contextual only[qz 167,qy 42,u0,u1,O.bx,m3,rk,r5,aj];refine⟨λh=>?_,λh=>?_⟩;simp only[yp] at h;refine Lm O.g5 (by grind [aF,oU]) (by rw[O.le];decide) λX g G2=>?_;exact ab X D (s.bU.set e.f8.toNat e.value) (R.trans<|g.mono<|by decide) ⟨g.bt O.bx,O.hx,O.g4.fr g (by decide),G2,O.g6.fr g (by decide),by rw[g.1,O.le]⟩ H (by rw[lC h]);simp only[aNK] at h;exact ab Y _ _ R O H (by rw[j5 h]);simp+contextual only[qz 155,qy 40,u0,u1,j.bx,j3,rk,r4,aj];refine⟨λh=>?_,λh=>?_⟩;simp only[yp] at h;refine Lm j.g4 (by grind [aF,qP]) (by rw[j.le];decide) λX g G2=>?_;exact ac X (s.cells.set e.f8.toNat e.value) (g.mono<|by decide) ⟨g.bt j.bx,j.hx,G2,j.g5.fr g (by decide),j.g6.fr g (by decide),by rw[g.1,j.le]⟩ (by rw[lC h]);simp only[aNK] at h;exact ac A _ (Fr.refl _ _) j (by rw[j5 h])
def Cd:FT:=vn OV
def ayS{w s e Lw K}:=f311 Cd OV w s e Lw K
def aCV(s0:ae)(R:j4):bjB s0 R=aE R s0 [.l (ik.map cs) U U]:=by kernel_rfl
def OE:Ct 245 [] (·= .l (ik.map cs) U U):=by refine aLf λs0 b a=>?_;rw[aCV];refine⟨by kernel_rfl,?_⟩;show jS s0 [.l (ik.map cs) U U]= .l (ik.map cs) U U;kernel_rfl
def aTX:FT:=BJ OE
def ayB{Lw K}:=al2 aTX OE Lw K
def aoY:dO:=(198,BW)::(246,Fv)::(47,zk)::(16,Gd)::(111,Cn)::(112,Ga)::(71,Cd)::(245,aTX)::Ew
def oZ:eJ aoY:=ve (nH OF)<|ve (nH OB)<|ve (nH PA)<|ve (nH aXC)<|ve (nI PD)<|ve (aCb PE)<|ve (By OV)<|ve (apM OE)<|nF
def sW:=ai @ayC<|ai @ayy<|ai @azm<|ai @azw<|ai @azp<|ai @azq<|ai @ayS<|ai @ayB<|@z9
def atL:=lA 11 [(4,([4],[0,3]))]
def Iw a s0 R:=(.mk _:NR aoY atL Tryz.f199 [a] [] s0 R).p
def aLd{a:AV}{R:j4}(h:H0 λs0=>Iw a s0 R):Ct 199 [a] R:=z0 atL oZ Tryz.func199 h
def abR a s0 R:=(.mk _:NR aoY at1 Tryz.f200 [a] [] s0 R).p
def aLh{a:AV}{R:j4}(h:H0 λs0=>abR a s0 R):Ct 200 [a] R:=z0 at1 oZ Tryz.func200 h
def atR:=lA 41 [(4,([4,5],[1])),(20,([7],[1,4,5,6])),(29,([4,9],[1])),(35,([4,10],[1]))]
def abZ a b R:=(.mk _:NR aoY atR Tryz.f131 [.u] [a] b R).p
def aLk{c0:List AV}{R:j4}(l0:L c0=6)(h:H1 31 6 1 c0 λia b=>abZ ia b R):Ct 131 [.a c0] R:=z1 atR oZ Tryz.func131 l0 h
def auz:=lA 17 [(6,([6],[1,2,5])),(10,([6,41],[1,5,39,40])),(13,([6],[1,5,39,40,41]))]
def afl a a1 b R:=(.mk _:NR aoY auz Tryz.f48 [.u,a1] [a] b R).p
def aL2{c0:List AV}{a1:AV}{R:j4}(l0:L c0=15)(h:H1 43 15 2 c0 λia b=>afl ia a1 b R):Ct 48 [.a c0,a1] R:=z1 auz oZ Tryz.func48 l0 h
def auM:=lA 19 [(4,([7,17],[1,2,3,15,16])),(7,([7],[1,2,3,15,16,17])),(12,([7,45],[1,2,43,44])),(15,([7],[1,2,43,44,45]))]
def agb a a1 b c R:=(.mk _:NR aoY auM Tryz.f49 [.u,a1,b] [a] c R).p
def aMf{c0:List AV}{a1 b:AV}{R:j4}(l0:L c0=15)(h:H1 43 15 3 c0 λia c=>agb ia a1 b c R):Ct 49 [.a c0,a1,b] R:=z1 auM oZ Tryz.func49 l0 h
def hI(mk:AV->Int->List AV)(b:ae)(ds fs:List Nat)(e:TypeId)(z n:Nat)(bA:Nat->List (List AV))(Inv:Nat->Prop):aG:=λvs Y=>∃(k:Nat) (a:AV),vs=mk a k/\k<=n/\Inv k/\Gr Y ds e z a (bA k)/\Fr b Y fs
def iu{B:(aG)->(bu)->aG}(mk:AV->Int->List AV)(p:Nat)(ds fs:List Nat)(e:TypeId)(z n:Nat)(bA:Nat->List (List AV))(Inv:Nat->Prop){c:AV}{b:ae}(d:Inv 0)(f:Gr b ds e z c<|bA 0)(h:∀(k:Nat) a Y,k<=n->Inv k->Gr Y ds e z a (bA k)->Fr b Y fs->B (hI mk b ds fs e z n bA Inv) (gM p n) (mk a k) Y):lV (mk c 0) b B:=⟨hI mk b ds fs e z n bA Inv,gM p n,⟨0,c,rfl,mh _,d,f,Fr.refl _ _⟩,by rintro vs Y ⟨k,a,rfl,l,j,i,g⟩;simp_all⟩
def bcW{mk:AV->Int->List AV}{p:Nat}{c Y Y':ae}{ds fs:List Nat}{e:TypeId}{z n k:Nat}{bA:Nat->List (List AV)}{Inv:Nat->Prop}{a b:AV}(l:∀a i,gt (mk a i) p=iv i)(h:k<n)(j:n<4611686018427387904)(d:Inv<|k+1)(g:Gr Y' ds e z b<|bA<|k+1)(f:Fr c Y' fs):hI mk c ds fs e z n bA Inv (mk b<|dq.wrap<|(k:Int)+1) Y'/\gM p n (mk b<|dq.wrap<|(k:Int)+1) Y'<gM p n (mk a k) Y:=by rw[eM (by omega)<|by omega];refine⟨⟨k+1,b,rfl,h,d,g,f⟩,?_⟩;grind [gM]
def fw(p:Nat->Bool)(k:Nat):List Int:=((aH k).filter p).map λ(i:Nat)=>(i:Int)
theorem yK(p:Nat->Bool)(k:Nat):fw p (k+1)=fw p k++if p k then[(k:Int)] else[]:=by grind [fw,qn]
theorem qX(p:Nat->Bool)(k:Nat):L (fw p k)<=k:=by grind [fw,bJ,gl,fZ]
def bBn{p:Nat->Bool}{k:Nat}{x:Int}:x∈fw p k↔∃i:Nat,i<k/\p i=U/\x=i:=by grind [fw]
theorem Bo{a:List Int}{p:Nat->Bool}{k:Nat}(h:p k=U):(a++fw p (k+1)).map ci=(a++fw p k).map ci++[ci k]:=by grind [yK]
def yJ{a:List Int}{p:Nat->Bool}{k:Nat}(h:p k=I):(a++fw p (k+1)).map ci=(a++fw p k).map ci:=by rw[yK,h];simp
def jo{α β:Type}{f:α->List β}{m:Nat}:∀{l:List α},(∀x∈l,L (f x)<=m)->L (l.flatMap f)<=L l*m
 |[],_=>by simp
 |a::l,h=>by
  have b:=h a (by simp)
  have c:=jo (f:=f) (m:=m) (l:=l) (by simp_all)
  rw[Cz,a6G,bZ,Nat.succ_mul]
  omega
def oX{l:List ByteArray}:∀r∈l.map cs,L r=1:=by simp
theorem Ez{α:Type}[Inhabited α]{a:List ByteArray}{l:List α}{g:α->ByteArray}{k:Nat}(h:k<L l):(a++(l.take<|k+1).map g).map cs=(a++(l.take k).map g).map cs++[cs<|g<|gd l k]:=by grind [iJ,bT,bje]
def uo(p:Nat->Bool)(n:Nat):Int:=match(aH n).find? p with|some i=>i|none=> -1
def al8{p:Nat->Bool}{k:Nat}(b:p k=U)(a:∀j,j<k->p j=I):∀n,k<n->(aH n).find? p=V k
 |0,h=>by omega
 |n+1,h=>by
  simp_all
theorem KW{p:Nat->Bool}{n k:Nat}(a:k<n)(c:p k=U)(b:∀j,j<k->p j=I):uo p n=k:=by simp[uo,al8 c b n a]
theorem KX{p:Nat->Bool}{n:Nat}(a:∀j,j<n->p j=I):uo p n= -1:=by grind [aH,List.find?_eq_none,uo]
def QV{R:j4}{Y:ae}{n:Int}{b:Bool}:aE R Y [iv n,bv b]=R (.t [iv n,bv b]):=by simp[aE,jS,iZ,dQ,kG,pF,nj]
def aRN{p:Nat->Bool}{k:Nat}(h:∀j,j<k->p j=I)(a:p k=I):∀j,j<k+1->p j=I:=(by grind)
def oJ{a:AV}{l:List AV}:eO 0 (.t (a::l))=V a:=rfl
def pG{a b:AV}{l:List AV}:eO 1 (.t (a::b::l))=V b:=rfl
def KM{a b c:AV}{l:List AV}:eO 2 (.t (a::b::c::l))=V c:=rfl
def aIl{l:List ByteArray}{t o:Bool}{i:Int}{Y:ae}{K:j4}:rV (fo 1 Y (.l (l.map cs) t o) J (V<|iv i) J) K=((0<=i/\i<=L l)/\K (.l ((l.take i.toNat).map cs) (t&&((i.toNat:Nat)==L l)) o)):=by simp only[fo,lM];by_cases a:0<=i;simp only[a,aPI,qY,sD,mi,mh,GL,bJ];grind [rV,bkj];simp[a,rV]
def avX{a b:Int}:a6F .eql 0 [] (.s<|.int .u8 a) (.s<|.int .u8 b)=V (bv<|Q<|a=b):=rfl
def amZ{K:j4}{Y:ae}{i:Int}{l:List ByteArray}{t o:Bool}:rV (cz 1 Y (.l (l.map cs) t o)<|iv i) K=(aF (L l) i/\K (.q<|cs<|gd l i.toNat)):=amY (Y:=Y)
def aDm{Y:ae}{r:AV}:lo Y [] r=True:=by simp[lo,nA]
def rZ(s:ByteArray):Bool:=ik.any λx=>Q<|x=s
def OC(s:ByteArray):Ct 199 [st s] (·=bv (rZ s)):=by refine aLd λs0 _ c=>?_;simp only[Iw,ar,sW,aDm];refine bhZ (L ik) (λk=>∀j,j<k->gd ik j≠s) (by simp) λk e d=>?_;simp+contextual only[qz 25,u0,u1,amZ,gT,rk,bh];refine⟨λh=>⟨u7 h,λa=>?_,λa=>gS (aL h) (by decide)<|by grind⟩,λh=>?_⟩;grind [rZ,tL,asq,aL];have:rZ s=I:=(by rw[rZ,bnI];intro x b;have:=(px (p:=λx=>x≠s)).1 (by grind) x b;simp_all);rw[this]
def Fw:FT:=lH OC
def ayz{s Lw K}:=np Fw OC s Lw K
def oO(c:Int):Bool:=wx c||zY c||Q (c=95)
def OG(c:Int):Ct 200 [.s<|.int .u8 c] (·=bv (oO c)):=by refine aLh λs0 _ a=>?_;simp+contextual only[abR,u0,u1,ar,sW,avX,oO]
def aTY:FT:=lH OG
def ayD{c Lw K}:=np aTY OG c Lw K
def dD(w:J9)(e:aP):Int×Bool:=bif Q (e.kind=6)||Q (e.kind=10) then(e.f8,I) else bif Q (e.kind=8) then(e.f8,U) else bif Q (e.kind=17) then(sd w e.f8,I) else(-1,I)
def dY(w:J9)(e:aP):Int×Bool:=bif Q (e.kind=7)||Q (e.kind=11) then(e.f8,I) else bif Q (e.kind=9) then(e.f8,U) else bif Q (e.kind=16) then(sd w e.f8,I) else(-1,I)
def pV(e x:aP):Bool:=Q (e.kind=1)&&(Q (x.kind=20)&&Q (x.f8=e.aq))||Q (e.kind=21)&&(Q (x.kind=2)&&Q (x.aq=e.f8))||Q (e.kind=23)&&(Q (x.kind=22)&&Q (x.f8=e.f8))
def kr(w:gz)(j:Int):Int:=uo (λi=>pV (gd w.ac j.toNat)<|gd w.ac i)<|L w.ac
def btc(l:List aP)(u:Int):Nat->Option Nat|0=>J|k+1=>if((gd l k).aq=u/\(gd l k).kind=16) then V k else btc l u k
def bh0(w:gz)(k:Int):Int×Bool:=
 match btc w.ac (gd w.ac k.toNat).aq k.toNat with
 |some i=>(i,U)
 |none=>if(gd w.init.gp.ay (gd w.ac k.toNat).aq.toNat).cQ=3 then(-1-(gd w.ac k.toNat).aq,U) else(0,I)
def mr(w:gz)(r:Int)(i:Nat):Bool:=aTG (gd w.ac i) (gd w.ac r.toNat)&&(Q ((gd w.ac i).value=(gd w.ac r.toNat).value)&&!(Q ((gd w.ac i).aq=(gd w.ac r.toNat).aq)&&Q (r<i)))
def dx(w:gz)(r:Int):List Int:=bif dh r (L w.ac)&&fR (gd w.ac r.toNat) then(bif oM w (gd w.ac r.toNat) then[-1] else[])++fw (mr w r) (L w.ac) else[]
def Px(w:gz)(q:Int)(W:L w.ac<100000/\(aF (L w.ac) q->((gd w.ac q.toNat).kind=23->aF (L w.init.gp.done) (gd w.ac q.toNat).f8/\aF (L w.init.bU) (gd w.ac q.toNat).f8)/\((gd w.ac q.toNat).kind=3->aF (L w.init.cells) (gd w.ac q.toNat).f8))):Ct 48 [.a w.c,iv q] (λr=>∃t,r= .l ((dx w q).map ci) t U):=by refine aL2 rfl λn T s h0=>?_;simp+contextual only[afl,qy 4,u0,u1,s,ix,rk,aj,ar,sW];have z:(Q (q<0)||Q ((L w.ac:Int)<=q))=!dh q (L w.ac):=(by grind [dh]);rw[z];refine⟨(by grind [dX]),λh=>?_,λh=>?_⟩;have:dx w q=[]:=(by grind [Bool.not_and,eH,dx]);rw[this];exact⟨rfl,U,rfl⟩;simp only[cP,fK] at h;obtain⟨y,X⟩:=h;have F:=dX.1 y;obtain⟨ab,E⟩:=W;obtain⟨ad,ae⟩:=E F;have hc:dx w q=(bif oM w (gd w.ac q.toNat) then[-1] else[])++fw (mr w q) (L w.ac):=(by simp[dx,y,X]);refine⟨F,eF rfl rfl (by decide) (by omega) λj o u=>?_⟩;have v:box j (2,1)=_:=o.bt s;have hk:(gd w.ac q.toNat).kind=3\/(gd w.ac q.toNat).kind=23:=(by grind [fR]);have C:L j=4096:=(by rw[o.1,T]);simp only[qz 6];refine bpD (λb=>∀a Y (f:List Int),L f<=1->dx w q=f++fw (mr w q) (L w.ac)->Fr j Y [37,72]->Gr Y [37,72] 3 1 a (f.map ci)->b [a] Y) ?_ λb A=>?_;intro a Y f af x e G4;have K:box Y (2,1)=_:=e.bt v;have M:box Y (5,(aZ n 5).I6+1)=_:=e.bt u;simp only[qz 39,aI,au,u0,u1,K,rk,aj];refine iu (λa i=>[a,iv i]) 1 [37,72] [37,72,8] 3 1 (L w.ac) (λk=>(f++fw (mr w q) k).map ci) (λ_=>True) trivial (by grind [fw]) λk a' Y' aa _ S g=>?_;have N:box Y' (5,(aZ n 5).I6+1)=_:=g.bt M;have D:L Y'=4096:=(by rw[g.1,e.1,C]);simp only[qz 61,aI,di,u0,u1,qz 83,qy 12,ix,rk,bh];refine⟨λh=>⟨u7 h,?_⟩,λh=>?_⟩;refine eF rfl rfl (by decide) (by omega) λG d H=>?_;have O:box G (5,(aZ n 5).I6+1)=_:=d.bt N;simp+contextual only[qz 14,qy 16,qy 18,u0,u1,O,H,rk,aj,ar,sW,iz];have ag:=qX (mr w q) k;refine⟨λm=>?_,λm=>?_⟩;refine fP (S.fr d<|by decide) rfl (by decide) (by decide) (by rw[d.1,D];decide) pU (by simp) (by grind) λa2 Y3 P p=>?_;simp only[qz 81,aI,au,fE,cS,aY];refine bcW (mk:=λa i=>[a,iv i]) (λ_ _=>rfl) (aL h) (by omega) trivial ?_ (g.trans<|(d.mono<|by decide).trans<|p.mono<|by decide);rw[Bo m];exact P;simp only[qz 81,aI,au,fE,cS,aY];refine bcW (mk:=λa i=>[a,iv i]) (λ_ _=>rfl) (aL h) (by omega) trivial ?_ (g.trans<|d.mono<|by decide);rw[yJ m];grind [Gr.fr];have B:k=L w.ac:=(by grind);subst B;rw[x];grind [qV];simp+contextual only[qz 41,qy 8,qy 10,u0,u1,v,u,rk,ar,sW,iz];refine⟨(by grind),λh=>?_,λh=>?_⟩;refine fP (bA:=[]) (ds:=[37,72]) (new:=[ci<|-1]) Gr.nil rfl (by decide) (by decide) (by omega) (by simp) (by simp) (by decide) λa Z R e=>?_;exact A a Z [-1] (by simp) (by grind) e R;exact A _ j [] (by simp) (by grind) (Fr.refl _ _) Gr.nil
def zi:FT:=pn Px
def azk{w q Lw K}:=f211 zi Px w q Lw K
def vf(w:gz)(c u:Int)(i:Nat):Bool:=Q ((i:Int)≠u)&&(Q ((gd w.init.gp.ay i).cQ=3)&&Q ((gd w.init.gp.ay i).cond=c))
def wV(w:gz)(c u:Int)(i:Nat):Bool:=Q ((gd w.ac i).aq≠u)&&(Q ((gd w.ac i).kind=16)&&Q ((gd w.ac i).f8=c))
def iH(w:gz)(c u:Int)(k:Nat):List Int:=(fw (vf w c u) k).map λt=> -1-t
def mR(w:gz)(c u:Int):List Int:=iH w c u (L w.init.gp.ay)++fw (wV w c u) (L w.ac)
def PL(w:gz)(c u:Int)(O:L w.ac<100000/\L w.init.gp.ay<100000):Ct 49 [.a w.c,iv c,iv u] (λr=>∃t,r= .l ((mR w c u).map ci) t U):=by refine aMf rfl λP D s M=>?_;simp+contextual only[agb,u0,u1,s,rk,aj,dc];refine iu (λa i=>[a,iv i]) 1 [40,68] [40,68,9] 3 1 (L w.init.gp.ay) (λk=>(iH w c u k).map ci) (λ_=>True) trivial (.inl ⟨rfl,rfl⟩) λk a Y N _ C m=>?_;have B:box Y (3,1)=_:=m.bt s;have o:L Y=4096:=(by rw[m.1,D]);have K:=qX (vf w c u) k;simp only[qz 25,aI,di,u0,u1,qz 47,qy 4,ix,rk,bh,B,aj];refine⟨λh=>⟨u7 h,?_⟩,λh=>?_⟩;refine eF rfl rfl (by decide) (by omega) λy b p=>?_;simp+contextual only[qz 6,qy 8,qy 10,u0,u1,p,rk,aj,iz];have H:=aL h;rw[eM (x:= -1-(k:Int)) (by omega)<|by omega];refine⟨λd=>?_,λd=>?_⟩;refine fP (C.fr b<|by decide) rfl (by decide) (by decide) (by rw[b.1,o];decide) pU (by simp) (by grind [iH,bJ,a6G,bZ,aO1]) λA z v f=>?_;simp only[qz 45,aI,au,fE,cS,aY];refine bcW (mk:=λa i=>[a,iv i]) (λ_ _=>rfl) (aL h) (by omega) trivial ?_ (m.trans<|(b.mono<|by decide).trans<|f.mono<|by decide);grind [vf,iH,yK];simp only[qz 45,aI,au,fE,cS,aY];refine bcW (mk:=λa i=>[a,iv i]) (λ_ _=>rfl) (aL h) (by omega) trivial ?_ (m.trans<|b.mono<|by decide);have F:vf w c u k=I:=d;have e:iH w c u (k+1)=iH w c u k:=(by grind [iH,yK]);grind [Gr.fr];have j:k=L w.init.gp.ay:=(by grind);subst j;refine iu (λa i=>[a,iv i]) 1 [40,68] [40,68,11] 3 1 (L w.ac) (λk=>(iH w c u (L w.init.gp.ay)++fw (wV w c u) k).map ci) (λ_=>True) trivial (by grind [fw]) λk a Y' G _ n g=>?_;have q:L Y'=4096:=(by rw[g.1,o]);have E:=qX (wV w c u) k;simp only[qz 73,aI,di,u0,u1,qz 95,qy 12,ix,rk,bh];refine⟨λh=>⟨u7 h,?_⟩,λh=>?_⟩;refine eF rfl rfl (by decide) (by omega) λy b p=>?_;simp+contextual only[qz 14,qy 16,qy 18,u0,u1,p,rk,aj,iz];refine⟨λd=>?_,λd=>?_⟩;refine fP (n.fr b<|by decide) rfl (by decide) (by decide) (by rw[b.1,q];decide) pU (by simp) (by grind [iH,bJ,a6G,bZ,aO1]) λA z v f=>?_;simp only[qz 93,aI,au,fE,cS,aY];refine bcW (mk:=λa i=>[a,iv i]) (λ_ _=>rfl) (aL h) (by omega) trivial ?_ (g.trans<|(b.mono<|by decide).trans<|f.mono<|by decide);rw[Bo d];exact v;simp only[qz 93,aI,au,fE,cS,aY];refine bcW (mk:=λa i=>[a,iv i]) (λ_ _=>rfl) (aL h) (by omega) trivial ?_ (g.trans<|b.mono<|by decide);rw[yJ d];grind [Gr.fr];have j:k=L w.ac:=(by grind);subst j;exact qV n λt=>⟨t,rfl⟩
def Ge:FT:=vn PL
def azx{w c u Lw K}:=f311 Ge PL w c u Lw K
def lU(l:List aP)(u:Int)(k:Nat):Nat:=L ((l.take k).filter λe=>Q<|e.aq=u)
def alN{l:List aP}{u:Int}{k:Nat}(h:k<L l):lU l u (k+1)=lU l u k+if(gd l k).aq=u then 1 else 0:=by grind [lU,iJ,a6G,bT]
def lm(w:gz)(u n:Int)(i:Nat):Bool:=Q ((gd w.ac i).aq=u)&&Q (gd w.init.count u.toNat+(lU w.ac u i:Int)=n)
def bqV(w:gz)(u:Int)(l:List Int)(k:Nat):List Int:=(l.take k).flatMap λn=>fw (lm w u n)<|L w.ac
def fg(w:gz)(u:Int)(l:List Int):List Int:=bqV w u l<|L l
theorem Gr.mono{Y:ae}{ds b:List Nat}{e:TypeId}{z:Nat}{a:AV}{bA:List (List AV)}(i:Gr Y ds e z a bA)(h:∀k∈ds,k∈b):Gr Y b e z a bA:=by rcases i with c|⟨d,v,c,f,g⟩;exact .inl c;exact .inr ⟨d,v,c,h _ f,g⟩
def aEs{a b:ByteArray}:a6F .neq 0 [] (st a) (st b)=V (bv<|Q<|a≠b):=by show V (bv<|a.toList !=b.toList)=_;congr 3;grind [aqv,ByteArray.toList_eq,bsl]
def sM(c x:cA)(k:Nat):Bool:=!(Q (x.index≠k)||Q (x.name≠c.name)||Q (x.size≠c.size)||Q (x.init≠c.init)||x.vol)
def a7d(l:List cA)(i:Nat):Option Nat:=
 if(gd l i).size=0 then(if(gd l i).index≠0 then J else V (i+1))
 else if((gd l i).size<1\/4<(gd l i).size\/(L l:Int)-i<(gd l i).size) then J
 else if(∀k,k<(gd l i).size.toNat->sM (gd l i) (gd l<|i+k) k=U) then V (i+(gd l i).size.toNat) else J
def jv(l:List cA):Nat->Nat->List ByteArray->Option (List ByteArray)
 |0,i,a=>if i<L l then J else V a
 |f+1,i,a=>if i<L l then(match a7d l i with|none=>J|some j=>jv l f j<|a++[(gd l i).name]) else V a
def lY(w:J9):Option (List ByteArray):=(jv w.cells (L w.cells) 0 []).map λa=>a++w.ak.map (·.name)++w.bC.map (·.name)++w.bU++w.ay
def OJ(w:J9)(hp:L w.cells<10000/\L w.ak<10000/\L w.bC<10000/\L w.bU<10000/\L w.ay<10000):Ct 131 [.a w.c] (λr=>∃t o,r= .t [.l (((lY w).getD []).map cs) t o,bv (lY w).isSome]):=by refine aLk rfl λF hl b1 h0=>?_;obtain⟨p1,p2,p3,p4,p5⟩:=hp;simp only[abZ];refine⟨λvs Y=>∃(i f:Nat) (a:AV) (b:List ByteArray),vs=[a,iv i]/\i<=L w.cells/\L b<=i/\L w.cells-i<=f/\jv w.cells (L w.cells) 0 []=jv w.cells f i b/\Gr Y [25] 9 1 a (b.map cs)/\Fr F Y [25,6,8],gM 1<|L w.cells,⟨0,L w.cells,_,[],rfl,by omega,by simp,by omega,rfl,Gr.nil,Fr.refl _ _⟩,?_⟩;rintro vs Y ⟨i,f,a,b,rfl,hi,aG,hf,ac,hG,W⟩;have R:box Y (1,1)=_:=W.bt b1;have A:L Y=4096:=(by rw[W.1,hl]);simp only[qz 25,qy 4,aI,u0,u1,R,rk,aj,ix,bh];refine⟨λh=>⟨u7 h,?_⟩,λh=>?_⟩;refine eF rfl rfl (by decide) (by omega) λB g b2=>?_;simp+contextual only[qz 6,qy 8,u0,u1,b2,rk,aj,iz];refine fP (hG.fr g<|by decide) rfl (by decide) (by decide) (by rw[g.1,A];decide) (by simp) (by simp) (by grind) λu q S n=>?_;have b3:box q (6,(aZ Y 6).I6+1)=_:=n.bt b2;have c3:box q (1,1)=_:=n.bt<|g.bt R;simp+contextual only[qz 10,↓iS,u0,u1,b3,c3,rk,aj];have aX:=aL h;obtain⟨f,rfl⟩:∃f',f=f'+1:=⟨f-1,by omega⟩;have E:jv w.cells (L w.cells) 0 []=(match a7d w.cells i with|none=>J|some j=>jv w.cells f j<|b++[(gd w.cells i).name]):=(by grind [jv]);have y:a7d w.cells i=J->∀Y',aE (λr=>∃t o,r= .t [.l (((lY w).getD []).map cs) t o,bv (lY w).isSome]) Y' [.l [] U U,bv I]:=(by intro hn Y';rw[hn] at E;have:lY w=J:=(by rw[lY,E];rfl);rw[this];exact⟨rfl,U,U,rfl⟩);have next:∀j Y',a7d w.cells i=V j->i<j->j<=L w.cells->Gr Y' [25] 9 1 u ((b++[(gd w.cells i).name]).map cs)->Fr F Y' [25,6,8]->(∃(i f:Nat) (a:AV) (b:List ByteArray),[u,iv (j:Int)]=[a,iv i]/\i<=L w.cells/\L b<=i/\L w.cells-i<=f/\jv w.cells (L w.cells) 0 []=jv w.cells f i b/\Gr Y' [25] 9 1 a (b.map cs)/\Fr F Y' [25,6,8])/\gM 1 (L w.cells) [u,iv (j:Int)] Y'<gM 1 (L w.cells) [a,iv i] Y:=(by intro j Y' hs aU hj G' F';rw[hs] at E;refine⟨⟨j,f,u,b++[(gd w.cells i).name],rfl,hj,by simp;omega,by omega,E,G',F'⟩,?_⟩;grind [gM,fE,au,bh]);have M:Gr q [25] 9 1 u ((b++[(gd w.cells i).name]).map cs):=(by grind);have G:Fr F q [25,6,8]:=W.trans ((g.mono<|by decide).trans<|n.mono<|by decide);rw[fX (by omega),eM (x:=(L w.cells:Int)-i) (by omega)<|by omega];refine⟨λhs=>⟨λhx=>y ?_ _,λhx=>next (i+1) q ?_ (by omega) (by omega) M G⟩,λhs=>⟨λhb=>y ?_ _,λhb=>?_⟩⟩;grind [a7d];grind [decide_eq_false_iff_not,a7d];grind [decide_eq_false_iff_not,a7d];simp only[aNK] at hs;simp only[cP,aNK] at hb;have a0:((gd w.cells i).size.toNat:Int)=(gd w.cells i).size:=(by omega);have N:a7d w.cells i=if(∀k,k<(gd w.cells i).size.toNat->sM (gd w.cells i) (gd w.cells<|i+k) k=U) then V (i+(gd w.cells i).size.toNat) else J:=(by grind [a7d]);refine pQ (gd w.cells i).size.toNat [8] (λk=>∀m,m<k->sM (gd w.cells i) (gd w.cells<|i+m) m=U) (by simp) λk p hk hc s=>?_;have b4:box p (6,(aZ Y 6).I6+1)=_:=s.bt b3;have c4:box p (1,1)=_:=s.bt c3;have aO:L p=4096:=(by rw[s.1,n.1,g.1,A]);simp only[qz 121,qy 12,aI,u0,u1,b4,c4,rk,aj,ix];have X:∀m:Nat,m<=10->dq.wrap ((i:Int)+m)=((i+m:Nat):Int):=(by grind [eM]);refine⟨λz=>?_,λz=>?_⟩;simp only[yp] at z;rw[X k (by omega),bh];refine⟨dJ (by omega),eF rfl rfl (by decide) (by omega) λY5 F5 b5=>?_⟩;have b6:box Y5 (6,(aZ Y 6).I6+1)=_:=F5.bt b4;simp+contextual only[qz 14,u0,u1,b5,b6,rk,aj,aEs];have O:k<(gd w.cells i).size.toNat:=(by omega);refine⟨λap=>y ?_ _,λap=>?_⟩;rw[N,j5];grind [sM,fh];refine oL O (by omega) (a6p hc ?_)<|s.trans F5;grind [sM,kN];simp only[aNK] at z;have O:k=(gd w.cells i).size.toNat:=(by omega);have e:dq.wrap ((i:Int)+(gd w.cells i).size)=((i+(gd w.cells i).size.toNat:Nat):Int):=(by grind);rw[e];refine next _ p ?_ (by omega) (by omega) (M.fr s<|by decide) (G.trans<|s.mono<|by decide);rw[N,lC<|by grind];have aK:jv w.cells (L w.cells) 0 []=V b:=(by rw[ac];have:=bw h;cases f<;>simp[jv,aYE.2 this]);have hN:lY w=V (b++w.ak.map (·.name)++w.bC.map (·.name)++w.bU++w.ay):=(by grind [lY]);rw[hN];refine iu (λa i=>[a,iv i]) 1 [25,113] [25,113] 9 1 (L w.ak) (λk=>(b++(w.ak.take k).map (·.name)).map cs) (λ_=>True) trivial (by grind [Gr.mono]) λk a1 Y1 aV _ g1 P=>?_;have H:box Y1 (1,1)=_:=P.bt R;have l1:L Y1=4096:=(by rw[P.1,A]);simp only[qz 175,qy 16,aI,u0,u1,H,rk,aj,ix,bh,iz];refine⟨λT=>⟨u7 T,?_⟩,λT=>?_⟩;refine fP g1 rfl (by decide) (by decide) (by omega) oX (by simp) (by simp;omega) λa2 B D g=>?_;simp only[qz 18,au,fE,cS,aY];refine bcW (mk:=λa i=>[a,iv i]) (λ_ _=>rfl) (aL T) (by omega) trivial ?_<|P.trans g;grind [Ez,aL];have Z:k=L w.ak:=(by grind);subst Z;rw[gV] at g1;refine iu (λa i=>[a,iv i]) 1 [25,113,129] [25,113,129] 9 1 (L w.bC) (λk=>(b++w.ak.map (·.name)++(w.bC.take k).map (·.name)).map cs) (λ_=>True) trivial (by grind [Gr.mono]) λk a2 B aW _ D g=>?_;have K:box B (1,1)=_:=g.bt H;have l2:L B=4096:=(by rw[g.1,l1]);simp only[qz 211,qy 20,aI,u0,u1,K,rk,aj,ix,bh,iz];refine⟨λz=>⟨u7 z,?_⟩,λz=>?_⟩;refine fP D rfl (by decide) (by decide) (by omega) oX (by simp) (by simp;omega) λu q S n=>?_;simp only[qz 22,au,fE,cS,aY];refine bcW (mk:=λa i=>[a,iv i]) (λ_ _=>rfl) (aL z) (by omega) trivial ?_<|g.trans n;grind [Ez,aL];have aa:k=L w.bC:=(by grind);subst aa;rw[gV] at D;refine fP (ds:=[25,113,129,133,137]) (new:=w.bU.map cs) (D.mono<|by decide) rfl (by decide) (by decide) (by omega) oX oX (by simp;omega) λu q S n=>?_;have am:box q (1,1)=_:=n.bt K;simp only[qz 24,qy 26,u0,u1,am,rk,aj];refine fP (new:=w.ay.map cs) S rfl (by decide) (by decide) (by rw[n.1,l2];decide) (by grind) oX (by simp;omega) λC p g4 s=>?_;obtain⟨x,o,e⟩:=sU g4;have ab:jS p [C,bv U]= .t [.l ((b++w.ak.map (·.name)++w.bC.map (·.name)++w.bU++w.ay).map cs) x o,bv U]:=(by show AV.t [iZ p C,bv U]=_;have:iZ p C=dQ p C:=(by rcases g4 with⟨_,rfl⟩|⟨d,v,rfl,_⟩<;>rfl);simp_all);unfold aE;rw[ab];exact⟨rfl,x,o,rfl⟩
def FD:FT:=om OJ
def ayG{w Lw K}:=f111 FD OJ w Lw K
def aoZ:dO:=(199,Fw)::(200,aTY)::(48,zi)::(49,Ge)::(131,FD)::aoY
def Rc:eJ aoZ:=ve (nH OC)<|ve (nH OG)<|ve (aN0 Px)<|ve (By PL)<|ve (rj OJ)<|oZ
def Dl:=ai @ayz<|ai @ayD<|ai @azk<|ai @azx<|ai @ayG<|@sW
def atM:=lA 13 [(6,([3],[0]))]
def Ix a s0 R:=(.mk _:NR aoZ atM Tryz.f132 [a] [] s0 R).p
def aLe{a:AV}{R:j4}(h:H0 λs0=>Ix a s0 R):Ct 132 [a] R:=z0 atM Rc Tryz.func132 h
def rI(s:ByteArray)(i:Nat):Int:=match s[i]? with|some b=>b.toNat|none=>0
def Qm{s:ByteArray}:lsA (st s)=V (iv s.size):=rfl
def aoO{s:ByteArray}{i:Int}{K:j4}:rV (sxA (st s)<|iv i) K=(aF s.size i/\K (.s<|.int .u8<|rI s i.toNat)):=by grind [aF,sxA,rV,rI]
def aQt(s:ByteArray):Bool:=!(Q ((s.size:Int)<1)||Q (12<(s.size:Int))||!wx (rI s 0)||rZ s)&&Q (∀j,j<s.size->oO (rI s j)=U)
def OD(s:ByteArray):Ct 132 [st s] (·=bv (aQt s)):=by refine aLe λs0 _ c=>?_;simp+contextual only[Ix,u0,u1,Qm,aoO,ar,Dl,Gx];refine⟨λh=>?_,λh=>?_,λh=>?_⟩;simp at h;exact⟨by omega,by omega⟩;grind [aQt,fh];have b:=h;simp only[cP,aNK] at b;refine bhZ s.size (λk=>∀j,j<k->oO (rI s j)=U) (by simp) λk f e=>?_;simp+contextual only[qz 37,u0,u1,Qm,aoO,ar,Dl,bh];refine⟨λa=>⟨u7 a,λd=>?_,by grind [gS,aL]⟩,λa=>?_⟩;grind [oO,rI,aL,aQt];grind [oO,rI,bkb,bw,aQt,decide_eq_true,kN,Bool.and_self]
def aPd:FT:=lH OD
def ayA{s Lw K}:=np aPd OD s Lw K
def cY(w:gz):Nat->sA|0=>w.init|k+1=>nD w.aQ (cY w k)<|gd w.ac k
def GV(s:sA):Prop:=(∀l∈s.gp.ak,L l.bk<100000)/\L s.gp.ak<100000/\L s.gp.done<100000/\L s.gp.ay<100000/\L s.cells<100000/\L s.bU<100000/\L s.count<100000
def vo(e:aP):Prop:=L e.dI<4611686018427387904/\L e.ep<4611686018427387904
theorem oC{ds:List AV}{s:sA}(h:Lk ds s.c):L ds=7:=by have:=brR L h.1;simp_all [sA.c]
def Bi{ds:List AV}(h:L ds=7):aN (V 7) ds=V (.a ds):=by show(if 7<=L ds then V (AV.a<|ds.take 7) else J)=_;grind
def x9{ds b:List AV}(h:Lk ds b):eB (.a ds)=[]:=by have d:=dV.1 h.2;show ds.flatMap iR=[];rw[List.flatMap_eq_nil_iff];intro c e;have:=d c e;cases c<;>simp[nj] at this<;>rfl
def ao0:dO:=(132,aPd)::aoZ
def yP:eJ ao0:=ve (nH OD)<|Rc
def rT:=ai @ayA<|@Dl
def atQ:=lA 41 [(10,([5],[1,3])),(18,([6],[1])),(27,([8],[1])),(30,([],[1,8]))]
def abT a b R:=(.mk _:NR ao0 atQ Tryz.f66 [.u] [a] b R).p
def aLj{c0:List AV}{R:j4}(l0:L c0=6)(h:H1 31 6 1 c0 λia b=>abT ia b R):Ct 66 [.a c0] R:=z1 atQ yP Tryz.func66 l0 h
def wJ(w:J9):Bool:=Q ((12:Int)<L w.cells)||Q ((4:Int)<L w.ak)||Q ((2:Int)<L w.bC)||Q ((2:Int)<L w.bU)||Q ((L w.ay:Int)<1)||Q ((4:Int)<L w.ay)||Q ((60:Int)<L w.dU)
def yn(l:List ByteArray)(j:Nat):Bool:=!aQt (gd l j)||Q (0<=tX (l.take j) (gd l j))
def uh(w:J9)(j:Nat):Bool:=Q ((gd w.bC j).eg<0)||Q ((L w.ak:Int)<=(gd w.bC j).eg)||(gd w.ak (gd w.bC j).eg.toNat).rw
def aOg(w:J9)(j:Nat):Bool:=
 Q ((gd w.dU j).aq<0)||Q ((L w.ay:Int)<=(gd w.dU j).aq)||
 bif Q ((j:Int)=0)||Q ((gd w.dU<|j-1).aq≠(gd w.dU j).aq) then(Q ((gd w.dU j).stmt≠0)||(Q ((0:Int)<j)&&Q ((gd w.dU j).aq<(gd w.dU<|j-1).aq)))
 else Q<|(gd w.dU j).stmt≠dq.wrap ((gd w.dU<|j-1).stmt+1)
def mQ(w:J9):Bool:=
 !wJ w&&(match lY w with
  |none=>I
  |some l=>Q (∀j,j<L l->yn l j=I)&&(Q (∀j,j<L w.bC->uh w j=I)&&Q (∀j,j<L w.dU->aOg w j=I)))
def alH{l:List cA}:∀{f i:Nat} {a r:List ByteArray},jv l f i a=V r->L r<=L a+f
 |0,i,a,r,h=>by
  grind [jv]
 |f+1,i,a,r,h=>by
  simp only[jv] at h
  split at h
  ·split at h
   ·cases h
   ·have:=alH h
    grind
  simp_all
def anD{w:J9}{l:List ByteArray}(h:lY w=V l):L l<=L w.cells+L w.ak+L w.bC+L w.bU+L w.ay:=by simp only[lY,Option.map_eq_some_iff] at h;obtain⟨a,b,rfl⟩:=h;have:=alH b;grind
def zM{n:Nat}{p:Nat->Bool}{k:Nat}(a:k<n)(h:p k=U):Q (∀j,j<n->p j=I)=I:=by grind
def OI(w:J9):Ct 66 [.a w.c] (·=bv (mQ w)):=by refine aLj rfl λX G v W=>?_;simp+contextual only[abT,u0,u1,v,rk,ar,rT,aj];refine⟨λh=>?_,λh=>?_⟩;grind [mQ,wJ,fh];have S:wJ w=I:=h;simp only[cP,aNK] at h;refine⟨(by omega),?_⟩;rintro r ⟨t,o,rfl⟩;refine⟨.inl rfl,?_⟩;simp+contextual only[oJ,pG,u0,u1];refine⟨λH=>?_,λH=>?_⟩;grind [lY,mQ];obtain⟨l,y⟩:∃l,lY w=V l:=(by cases T:lY w with|none=>simp_all|some l=>simp);have R:L l<1000000:=(by have:=anD y;omega);rw[y];have z:mQ w=(Q (∀j,j<L l->yn l j=I)&&(Q (∀j,j<L w.bC->uh w j=I)&&Q (∀j,j<L w.dU->aOg w j=I))):=(by grind [mQ]);refine bhZ (L l) (λk=>∀j,j<k->yn l j=I) (by simp) λk A e=>?_;simp+contextual only[qz 61,mi,u0,u1,gT,amZ,rk,ar,rT,aIl,bh];refine⟨λb=>⟨u7 b,(by omega),λ_=>u7 b,λ_=>by simp;omega,λd=>?_,λd=>gS (aL b) (by omega)<|aRN e d⟩,λb=>?_⟩;rw[z,zM (aL b) d,kM];have O:∀j,j<L l->yn l j=I:=(by grind);refine bhZ (L w.bC) (λk=>∀j,j<k->uh w j=I) (by simp) λk A e=>?_;simp+contextual only[qz 109,u0,u1,v,rk,ix,aj,bh];refine⟨λb=>⟨u7 b,λF=>?_,λd=>?_,λd=>gS (aL b) (by omega)<|aRN e d⟩,λb=>?_⟩;simp at F;exact⟨by omega,by omega⟩;rw[z,zM (aL b) d,kM,bsm];have P:∀j,j<L w.bC->uh w j=I:=(by grind);refine pQ (L w.dU) [9] (λk=>∀j,j<k->aOg w j=I) (by simp) λk Y A e p=>?_;have x:box Y (1,1)=_:=p.bt v;simp+contextual only[qz 163,di,qz 185,qy 4,u0,u1,x,rk,ix,aj,bh];refine⟨λb=>⟨u7 b,?_⟩,λb=>?_⟩;refine eF rfl rfl (by decide) (by rw[p.1,G];decide) λC u D=>?_;have E:box C (1,1)=_:=u.bt x;simp+contextual only[qz 6,↓iS,u0,u1,D,E,rk,ix,aj];have q:=aL b;have M:dq.wrap ((k:Int)-1)=(k:Int)-1:=(by grind [eM]);have B:((k:Int)-1).toNat=k-1:=(by omega);rw[M,B];have m:aOg w k=U->bv I=bv (mQ w):=(by grind);refine⟨(by grind [aOg]),λN=>⟨λn=>?_,λn=>⟨λg=>?_,λg=>m ?_,λg=>?_⟩,λn=>⟨?_,λg=>m ?_,λg=>?_⟩⟩⟩;simp at n;exact⟨by omega,by omega⟩;simp at g;exact⟨by omega,by omega⟩;grind [aOg];simp only[qz 183,aI,au,cS,aY];exact oL q (by omega) (aRN e<|by grind [aOg])<|p.trans u;simp only[cP,aNK] at n;exact⟨by omega,by omega⟩;grind [aOg];simp only[qz 183,aI,au,cS,aY];exact oL q (by omega) (aRN e<|by simp only[aOg,N,n,g,Bool.false_or,bkl])<|p.trans u;grind
def FC:FT:=lH OI
def ayF{w Lw K}:=np FC OI w Lw K
section
variable{s:aW}{f:Bool×Bool×Bool×Bool×Bool×Bool}{K:j4}{Y:ae}{i:Int}{t o:Bool}
end
structure kB(w:gz):Prop where
 ev:L w.ac<=16
 co:L w.aQ.bC<=2
 cc:∀c∈w.aQ.bC,aF (L w.aQ.ak) c.eg
 st:∀k:Nat,k<L w.ac->GV (cY w k)/\fN w.aQ (cY w k)=U
 en:∀k:Nat,k<L w.ac->vo (gd w.ac k)/\be3 w.aQ (cY w k) (gd w.ac k)=U
theorem kB.named{w:gz}(h:kB w){k:Nat}(a:k<L w.ac):named w.aQ (gd w.ac k).kind (gd w.ac k).f8=U/\aF (L w.aQ.ay) (gd w.ac k).aq:=by have:=(h.en k a).2;grind [be3,eH,cP,aOL,fK,jm,dX]
def ao1:dO:=(66,FC)::ao0
def Ex:eJ ao1:=ve (nH OI)<|yP
def sX:=ai @ayF<|@rT
def auc:=lA 25 [(6,([3],[1])),(15,([5],[1,4]))]
def ad2 a b R:=(.mk _:NR ao1 auc Tryz.f28 [.u] [a] b R).p
def aLF{c0:List AV}{R:j4}(l0:L c0=15)(h:H1 43 15 1 c0 λia b=>ad2 ia b R):Ct 28 [.a c0] R:=z1 auc Ex Tryz.func28 l0 h
def auK:=lA 60 [(4,([3,19],[1,18])),(10,([3,25],[1,4,18,19,24])),(13,([3],[1,4,18,19,24,25])),(18,([3,42],[1,41])),(25,([3,54],[1,52,53])),(28,([3],[1,52,53,54])),(33,([3,70],[1,69])),(39,([3,77],[1,9,69,70,75,76])),(46,([3,92],[1,90,91])),(49,([3],[1,90,91,92])),(54,([3,107],[1,12,90,91,92,105,106]))]
def afT a b R:=(.mk _:NR ao1 auK Tryz.f18 [.u] [a] b R).p
def aMd{c0:List AV}{R:j4}(l0:L c0=15)(h:H1 43 15 1 c0 λia b=>afT ia b R):Ct 18 [.a c0] R:=z1 auK Ex Tryz.func18 l0 h
structure jX(n:Nat)(s:aW):Prop where
 lo:L s.ak<=4
 dn:L s.done<=2
 th:L s.ay<=4
 rd:∀l∈s.ak,L l.bk<=4+n
theorem jX.mono{n m:Nat}{s:aW}(h:jX n s)(b:n<=m):jX m s:=⟨h.lo,h.dn,h.th,λl a=>by have:=h.rd l a;omega⟩
theorem jX.ni{n:Nat}{s:aW}(h:jX n s)(i:Int)(t:aoC):jX n (ni s i t):=⟨h.lo,h.dn,by simp[Ab.ni];exact h.th,h.rd⟩
theorem jX.lk{n:Nat}{s:aW}(h:jX n s)(i:Int):L (cH s i).bk<=4+n:=by unfold cH gd;rw[eI];cases a:s.ak[i.toNat]? with|none=>exact mh _|some x=>exact h.rd x (by grind)
theorem jX.I9{n:Nat}{s:aW}(h:jX n s)(i:Int)(l:cg)(b:L l.bk<=4+n):jX n (I9 s i l):=by refine⟨by simp[Ab.I9];exact h.lo,h.dn,h.th,λx a=>?_⟩;simp only[Ab.I9] at a;rcases CC a with a|rfl;exact h.rd x a;exact b
theorem jX.marks{n:Nat}:∀{l:List Int} {s:aW},jX n s->jX n (l.foldl (λs u=>Ab.ni s u {fA s u with cQ:=4}) s)|[],_,h=>h|u::l,s,h=>jX.marks (l:=l)<|h.ni u _
theorem aIP{a:List Int}{t:Int}:L (mP a [t])<=L a+1:=by have b:=Bh (l:=[]) (a:=a) (k:=L a)<|dA _;have c:=Bh (l:=jh [] a<|L a) (a:=[t]) (k:=1) (by simp);simp only[aO1] at b;show L (jh (jh [] a<|L a) [t] 1)<=_;omega
theorem jX.apply{n:Nat}{s:aW}(h:jX n s)(w:J9)(t kind f8 amt:Int):jX (n+1) (cU w s t kind f8 amt).1:=by have a:jX (n+1) s:=h.mono (by omega);have y:∀i,L (cH s i).bk<=4+n:=λi=>h.lk i;have x:∀i,L (cH s i).bk<=4+(n+1):=(by grind);unfold cU;by_cases p:kind=1;grind [jX.ni];rw[j5 p];by_cases q:kind=2;grind [jX.ni];rw[j5 q];by_cases r:kind=6\/kind=10;grind [jX.I9];rw[j5 r];by_cases u:kind=7\/kind=11;grind [jX.I9];rw[j5 u];by_cases v:kind=8;grind [jX.I9,aIP];rw[j5 v];by_cases o:kind=9;rw[lC o];refine a.I9 _ _ ?_;grind [fZ,decide,cH,fJ];rw[j5 o];by_cases b:kind=12;rw[lC b];exact⟨a.lo,a.dn,a.th,a.rd⟩;rw[j5 b];by_cases c:kind=13;rw[lC c];exact⟨a.lo,a.dn,a.th,a.rd⟩;rw[j5 c];by_cases d:kind=14;grind [jX.ni];rw[j5 d];by_cases e:kind=15;grind [jX.ni];rw[j5 e];by_cases f:kind=16;grind [jX.ni,jX.I9];rw[j5 f];by_cases g:kind=17;grind [jX.ni,jX.I9];rw[j5 g];by_cases j:kind=18;grind [jX.ni];rw[j5 j];by_cases k:kind=19;grind [jX.marks];rw[j5 k];by_cases l:kind=20;grind [jX.ni];rw[j5 l];by_cases m:kind=22;rw[lC m];exact⟨a.lo,by simp;exact a.dn,a.th,a.rd⟩;simp_all
structure vH(n:Nat)(s:sA):Prop where
 sy:jX n s.gp
 ce:L s.cells<=12
 fu:L s.bU<=2
 co:L s.count<=4
 cn:∀c∈s.count,0<=c/\c<=400+n
theorem vH.snB{n:Nat}{s:sA}(h:vH n s)(b:n<90000):GV s:=⟨λl a=>by have:=h.sy.rd l a;omega,by have:=h.sy.lo;omega,by have:=h.sy.dn;omega,by have:=h.sy.th;omega,by have:=h.ce;omega,by have:=h.fu;omega,by have:=h.co;omega⟩
theorem vH.step{n:Nat}{w:J9}{s:sA}{e:aP}(h:vH n s)(d:n<90000):vH (n+1) (nD w s e):=by unfold nD;(cases be3 w s e);exact⟨⟨by simp[tw,wM],by simp[tw,wM],by simp[tw,wM],by simp[tw,wM]⟩,by simp[tw],by simp[tw],by simp[tw],by simp[tw]⟩;refine⟨h.sy.apply _ _ _ _ _,?_,?_,?_,?_⟩;have:=h.ce;grind [oc];have:=h.fu;grind [oc];have:=h.co;grind [oc,List.length_set];intro c a;simp only[bie,oc] at a;rcases CC a with a|rfl;have:=h.cn c a;omega;have b:0<=gd s.count e.aq.toNat/\gd s.count e.aq.toNat<=400+n:=(by unfold gd;rw[eI];cases f:s.count[e.aq.toNat]? with|none=>simp;omega|some x=>exact h.cn x<|by grind);grind [eM]
def yq{l:List Int}{n:Int}(h:lZ l n):∀j,j<L l->(j:Int)+1<=gd l j
 |0,a=>by have:=(h 0 a).1;omega
 |j+1,a=>by
  have b:=yq h j (by omega)
  have c:=(h (j+1) a).2.2 (by omega)
  grind
def aEw{l:List Int}{n:Int}(h:lZ l n)(d:0<=n):(L l:Int)<=n:=by rcases oD (L l) with a|a;omega;have b:=yq h (L l-1) (by omega);have c:=(h (L l-1)<|by omega).2.1;omega
def Ae(w:gz)(j:Nat):Bool:=!gd w.init.gp.done j&&Q (gd w.init.bU j≠0)
def oh(w:gz):Bool:=!mQ w.aQ||!fN w.aQ w.init||Q ((16:Int)<L w.ac)||!rM w||!uZ w||!ny w
def xH(w:gz)(k:Nat):Bool:=!be3 w.aQ (cY w k) (gd w.ac k)||!Q (∀n∈(gd w.ac k).dI,qU w (gd w.ac k).aq n=U)||!Q (∀n∈(gd w.ac k).ep,qU w (gd w.ac k).aq n=U)
def bcV(w:gz):Bool:=!oh w&&(Q (∀j,j<L w.init.bU->Ae w j=I)&&Q (∀k,k<L w.ac->xH w k=I))
def hU(w:gz):Prop:=L w.aQ.bC<4611686018427387904/\(∀l∈w.init.gp.ak,L l.bk<4611686018427387904)/\(∀e∈w.ac,vo e)/\L w.init.bU<4611686018427387904
theorem tC{w:gz}(h:oh w=I):vH 0 w.init/\L w.ac<=16/\(∀c∈w.aQ.bC,aF (L w.aQ.ak) c.eg)/\L w.aQ.bC<=2/\fN w.aQ w.init=U:=by simp only[oh,cP,fK,aNK] at h;obtain⟨⟨⟨⟨⟨d,a⟩,y⟩,z⟩,A⟩,f⟩:=h;have n:=d;simp only[mQ,bN,eH] at n;obtain⟨hs,B⟩:=n;simp only[wJ,cP,aNK] at hs;have k:=a;simp only[fN,bN,yp] at k;obtain⟨o,u,v,x⟩:=iY k.1;have s:∀c∈w.init.count,0<=c/\c<=400:=(by grind [rM]);have g:∀c∈w.aQ.bC,aF (L w.aQ.ak) c.eg:=o;have t:∀l∈w.init.gp.ak,L l.bk<=4:=(by intro l q;obtain⟨j,m,rfl⟩:=ou q;simp only[ny,bN,yp] at f;have b:=(f.1 j m).2;rw[bT m] at b;have key:∀i,i<L (w.init.gp.ak[j]).bk->(i:Int)<=gd (w.init.gp.ak[j]).bk i:=(by intro i;induction i with|zero=>intro e;have:=(b 0 e).1;simp only[nO,bN] at this;have:=(dX.1 this.1).1;omega|succ i r=>intro e;have d:=r (by omega);have a:=(b (i+1) e).2 (by omega);grind);rcases oD (L (w.init.gp.ak[j]).bk) with p|p;omega;have d:=key (L (w.init.gp.ak[j]).bk-1) (by omega);have a:=(b (L (w.init.gp.ak[j]).bk-1)<|by omega).1;simp only[nO,bN] at a;have:=(dX.1 a.1).2;omega);refine⟨⟨⟨by omega,by omega,by omega,by omega⟩,by omega,by omega,by omega,by simp_all⟩,by omega,g,by omega,a⟩
theorem wK{w:gz}(h:oh w=I):∀k,k<90000->vH k (cY w k)|0,_=>(tC h).1|k+1,a=>(wK h k<|by omega).step (by omega)
def aIw{w:J9}{s:sA}{e:aP}(h:be3 w s e=U):lZ e.dI (gd s.count e.aq.toNat)/\lZ e.ep (gd s.count e.aq.toNat)/\aF (L s.count) e.aq/\L s.count=L w.ay:=by simp only[be3,eH,cP] at h;grind [bip,cP,fK,aOL,fN,dX]
theorem anH{l:List Int}{n:Int}(h:lZ l n)(b:0<=n)(d:n<=500):L l<1000000/\∀x∈l,-1000<=x/\x<9223372036854775808:=by refine⟨by have:=aEw h b;omega,λx c=>?_⟩;obtain⟨j,a,rfl⟩:=ou c;have e:=(h j a).1;have f:=(h j a).2.1;grind [bT]
def O8(w:gz)(hp:hU w):Ct 28 [.a w.c] (·=bv (bcV w)):=by refine aLF rfl λs2 hl t h0=>?_;obtain⟨p1,p2,p3,p4⟩:=hp;simp+contextual only[ad2,u0,u1,t,rk,ar,sX,aj];have A:∀{a b:Bool},(!(a||b))=U->a=I/\b=I:=(by simp);have B:∀{a:Bool},(!a)=I->a=U:=(by simp);have aA:fN w.aQ w.init=U->L w.init.count=L w.aQ.ay/\L w.init.gp.ay=L w.aQ.ay/\L w.init.gp.ak=L w.aQ.ak/\(∀c∈w.aQ.bC,aF (L w.aQ.ak) c.eg):=(by intro h;simp only[fN,bN,yp] at h;obtain⟨f1,f2,f3,f4⟩:=iY h.1;exact⟨h.2.2.2,f4,f2,f1⟩);have aM:mQ w.aQ=U->L w.aQ.ay<=4/\L w.aQ.ak<=4:=(by grind [mQ,eH,wJ,cP,decide_eq_false_iff_not]);refine⟨λ_=>p1,λh=>?_,λh=>?_,λh=>?_,λh=>?_,λh=>?_⟩;grind;grind;grind;grind [oh,bcV,fh];have R:oh w=I:=h;obtain⟨I0,aJ,aD,aE,aK⟩:=tC R;have hI:=wK R;have S:bcV w=(Q (∀j,j<L w.init.bU->Ae w j=I)&&Q (∀k,k<L w.ac->xH w k=I)):=(by grind [bcV,kN]);have aG:L w.init.gp.done=L w.init.bU:=(by grind [fN,iY]);refine bhZ (L w.init.bU) (λk=>∀j,j<k->Ae w j=I) (by simp) λk hk z=>?_;simp+contextual only[qz 37,qy 4,qy 6,u0,u1,t,rk,ix,aj,dc,bh];refine⟨λm=>⟨by grind [dJ,aL],λ_=>u7 m,λi=>?_,λi=>gS (aL m) p4<|aRN z i⟩,λm=>?_⟩;rw[S,zM (aL m) i,kM];have aB:∀j,j<L w.init.bU->Ae w j=I:=(by grind);refine eF rfl rfl (by decide) (by omega) λZ F M=>?_;have c1:box Z (1,1)=_:=F.bt t;have v4:(aZ s2 4).I6=0:=(by simp_all);rw[v4] at M⊢;refine⟨λvs Y=>∃(k:Nat) (ds:List AV),vs=[iv k]/\k<=L w.ac/\(∀j,j<k->xH w j=I)/\Lk ds (cY w k).c/\box Y (4,1)=V ⟨40,7,U,U,[ds]⟩/\Fr Z Y [4,6,7],fM<|L w.ac,⟨0,w.init.c,rfl,mh _,by simp,⟨rfl,rfl⟩,M,Fr.refl _ _⟩,?_⟩;rintro vs Y ⟨k,ds,rfl,hk,W,y,i,v⟩;have O:box Y (1,1)=_:=v.bt c1;have q:L Y=4096:=(by rw[v.1,F.1,hl]);have p:L ds=7:=oC y;have X:=Bi p;simp only[qz 91,qy 8,aI,u0,u1,O,rk,ix,aj,bh];refine⟨λu=>⟨u7 u,?_⟩,λu=>?_⟩;refine eF rfl rfl (by decide) (by omega) λG f H=>?_;have l:=aL u;have P:box G (1,1)=_:=f.bt O;have o:box G (4,1)=_:=f.bt i;simp only[qz 10,qy 12,u0,u1,P,o,H,X,rk,aj];simp only[jM,kU,jt,zN,CU,y.arg,sX];obtain⟨q1,q2,q3,q4,q5,q6,q7⟩:=(hI k<|by omega).snB (by omega);obtain⟨r1,r2⟩:=p3 _<|asq l;refine⟨(by grind),?_⟩;rintro r ⟨n,rfl,e⟩;refine⟨.inl ?_,?_⟩;simp only[nA,List.any_cons,List.any_nil,x9 y];rfl;simp only[oJ,pG,aY];refine eF rfl (oC e) (by decide) (by rw[f.1,q];decide) λs d N=>?_;have e3:box s (1,1)=_:=d.bt P;have T:box s (4,1)=_:=d.bt o;have K:box s (6,(aZ Y 6).I6+1)=_:=d.bt H;have E:=Bi<|oC e;simp+contextual only[qz 14,u0,u1,e3,K,N,E,rk,aj,ar,sX];have C:be3 w.aQ (cY w k) (gd w.ac k)=U->(L (gd w.ac k).dI<1000000/\∀x∈(gd w.ac k).dI,-1000<=x/\x<9223372036854775808)/\(L (gd w.ac k).ep<1000000/\∀x∈(gd w.ac k).ep,-1000<=x/\x<9223372036854775808)/\aF (L w.init.count) (gd w.ac k).aq:=(by intro hs;obtain⟨n1,n2,n3,n4⟩:=aIw hs;have aC:=(hI k<|by omega).cn _<|ii n3;grind [anH]);have D:∀c∈w.init.count,0<=c/\c<=400:=λc z=>(by have:=I0.cn c z;omega);refine⟨λg=>?_,λg=>?_,λg=>?_,λg=>?_⟩;grind;grind;rw[S,zM l g,bsm];refine gN (cs:=n) T (by rw[d.1,f.1,q];decide) p (oC e) λY4 F4 b4=>?_;simp only[qz 16,au,cS,aY];rw[fX<|by omega];refine⟨⟨k+1,n,rfl,l,aRN W g,e,b4,v.trans<|(f.mono<|by decide).trans<|(d.mono<|by decide).trans<|F4.mono<|by decide⟩,?_⟩;grind [fM,cM,bh];grind
def Cg:FT:=mT O8
def ayY{w Lw K}:=f110 Cg O8 w Lw K
theorem aQA{w:gz}(h:bcV w=U):oh w=I/\∀k,k<L w.ac->be3 w.aQ (cY w k) (gd w.ac k)=U:=by grind [bcV,eH,xH,cP,fK]
def Rr{w:gz}(f:hU w)(h:bcV w=U):kB w:=by obtain⟨e,hs⟩:=aQA h;obtain⟨i,d,b,c,g⟩:=tC e;refine⟨d,c,b,λk a=>⟨(by grind [vH.snB,wK]),?_⟩,λk a=>⟨f.2.2.1 _<|asq a,hs k a⟩⟩;grind [be3,eH,cP,aOL,fK]
def nB(a k:Nat):List aH8:=((aH k).filter λb:Nat=>Q<|(a:Int)≠(b:Int)).map λb:Nat=>⟨1,(a:Int),(b:Int)⟩
def lr(n k:Nat):List aH8:=(aH k).flatMap λa=>nB a n
def mK(k:Nat):List aH8:=(aH k).map λa:Nat=>⟨2,(a:Int),0⟩
def kh(l:List aP)(k:Nat):List aH8:=((aH k).filter λa=>fR<|gd l a).map λa:Nat=>⟨3,(a:Int),0⟩
def ki(w:gz)(k:Nat):List aH8:=(aH k).flatMap λa:Nat=>(dx w a).map λb=>⟨4,(a:Int),b⟩
def pR(w:gz)(a:Nat):List aH8:=if pN (gd w.ac a) then(mR w (gd w.ac a).f8 (gd w.ac a).aq).map λb=>⟨5,(a:Int),b⟩ else[]
def jp(w:gz)(k:Nat):List aH8:=(aH k).flatMap<|pR w
def cw(w:gz):List aH8:=lr (L w.ac) (L w.ac)++mK (L w.ac)++kh w.ac (L w.ac)++ki w (L w.ac)++jp w (L w.ac)
theorem tq{β:Type}{f:Nat->List β}{k:Nat}:(aH<|k+1).flatMap f=(aH k).flatMap f++f k:=by rw[qn,GC];simp
theorem an5{β:Type}{f:Nat->β}{k:Nat}:(aH<|k+1).map f=(aH k).map f++[f k]:=by rw[qn,dg];simp
theorem uP{β:Type}{p:Nat->Bool}{f:Nat->β}{k:Nat}:((aH<|k+1).filter p).map f=((aH k).filter p).map f++if p k then[f k] else[]:=by grind [qn]
theorem EC{β:Type}{P:List β}{l:List Int}{f:Int->β}{m:Nat}(h:m<L l):P++(l.take<|m+1).map f=(P++(l.take m).map f)++[f<|gd l m]:=by rw[EA h];simp
def Qu(a k:Nat):L (nB a k)<=k:=by grind [nB,bJ,gl,fZ]
def AS(n k:Nat):L (lr n k)<=k*n:=by have:=jo (f:=λa=>nB a n) (m:=n) (l:=aH k) λa _=>Qu a n;grind [lr]
def AT(k:Nat):L (mK k)=k:=by simp[mK]
theorem AU(l:List aP)(k:Nat):L (kh l k)<=k:=by grind [kh,bJ,gl,fZ]
theorem vU(w:gz)(q:Int):L (dx w q)<=1+L w.ac:=by grind [qX,mr,dx,dh,fR,gd,oM]
theorem AW(w:gz)(k:Nat):L (ki w k)<=k*(1+L w.ac):=by have:=jo (f:=λa:Nat=>(dx w a).map λb=>(⟨4,(a:Int),b⟩:aH8)) (m:=1+L w.ac) (l:=aH k) (by grind [vU]);grind [ki]
theorem Rp(w:gz)(c u:Int):L (mR w c u)<=L w.init.gp.ay+L w.ac:=by grind [qX,vf,wV,mR,iH,a6G,bJ]
def Qv(w:gz)(k:Nat):L (jp w k)<=k*(L w.init.gp.ay+L w.ac):=by have:=jo (f:=pR w) (m:=L w.init.gp.ay+L w.ac) (l:=aH k) (by grind [pR,Rp]);grind [jp]
def xy{x y z:Value}:bM br8 aon [(0, .s x),(1, .s y),(2, .s z)]=V (.a [.s x, .s y, .s z]):=rfl
def CW{x y:Value}:bM br8 aon [(0, .s x),(1, .s y)]=V (.a [.s x, .s y,iv 0]):=rfl
def aH5{l:List aH8}:∀r∈l.map aH8.c,L r=3:=by intro r a;obtain⟨x,_,rfl⟩:=dN.1 a;rfl
def rF{Y:ae}{d:Nat}{ds:List Nat}{a:AV}{l:List aH8}(x:aH8){K:be}(f:Gr Y ds 107 3 a<|l.map aH8.c)(i:d∈ds)(j:d<L Y)(k:L l<=100000)(h:∀e Y',Gr Y' ds 107 3 e ((l++[x]).map aH8.c)->Fr Y Y' ds->K e Y'):eV (aX btd 1 Y [(0, .a [iv x.kind,iv x.a,iv x.b])]) λt s=>eV (Gy 107 br8 24 s d a t) K:=by rw[ua (zs:=btd) (cs:=[iv x.kind,iv x.a,iv x.b]) rfl rfl rfl (by decide) rfl<|by decide];refine fP f rfl (by decide) i j aH5 (by simp) (by grind) λe Y' g F=>h e Y' ?_ F;rw[dg];exact g
abbrev uG:List Nat:=[36,49,65,86,116]
abbrev uH:List Nat:=[36,49,65,86,116,8,13]
def PJ(w:gz)(hp:kB w/\L w.init.gp.ay<=4/\fN w.aQ w.init=U):Ct 18 [.a w.c] (λr=>∃t,r= .l ((cw w).map aH8.c) t U):=by refine aMd rfl λs2 hl b1 h0=>?_;obtain⟨H,bb,P⟩:=hp;have aW:=H.ev;simp+contextual only[afT,u0,u1,b1,rk,aj];have x:∀k m:Nat,k<=16->m<=100->k*m<=16*100:=λk m a b=>Nat.mul_le_mul a b;refine iu (λa i=>[a,iv i]) 1 uG uH 107 3 (L w.ac) (λk=>(lr (L w.ac) k).map aH8.c) (λ_=>True) trivial (.inl ⟨rfl,rfl⟩) λk a Y s _ hG T=>?_;have c1:box Y (1,1)=_:=T.bt b1;have O:L Y=4096:=(by rw[T.1,hl]);simp only[qz 25,aI,u0,u1,c1,rk,aj];refine⟨λh=>?_,λh=>?_⟩;have n:=aL h;have aZ:=AS (L w.ac) k;have a0:=x k (L w.ac) (by omega) (by omega);refine iu (λa i=>[a,iv i]) 1 uG uH 107 3 (L w.ac) (λm=>(lr (L w.ac) k++nB k m).map aH8.c) (λ_=>True) trivial (by grind [nB]) λm a2 M hm _ q d=>?_;have u:L M=4096:=(by rw[d.1,O]);have a8:=Qu k m;simp only[qz 61,aI,di,u0,u1,qz 83,qy 4,qy 6,xy];refine⟨λj=>⟨λy=>?_,λy=>?_⟩,λj=>?_⟩;refine rF ⟨1,k,m⟩ q (by decide) (by omega) (by simp;omega) λS z g3 o=>?_;simp only[qz 81,aI,au,fE,cS,aY];refine bcW (mk:=λa i=>[a,iv i]) (λ_ _=>rfl) (aL j) (by omega) trivial ?_ (d.trans<|o.mono<|by decide);grind [nB,uP,bje];simp only[qz 81,aI,au,fE,cS,aY];refine bcW (mk:=λa i=>[a,iv i]) (λ_ _=>rfl) (aL j) (by omega) trivial ?_ d;grind [nB,uP];have f:m=L w.ac:=(by grind);subst f;refine bcW (mk:=λa i=>[a,iv i]) (λ_ _=>rfl) n (by omega) trivial ?_<|T.trans d;grind [lr,tq];have e:k=L w.ac:=(by grind);subst e;have aT:=AS (L w.ac)<|L w.ac;have aU:=x (L w.ac) (L w.ac) (by omega) (by omega);clear h s;refine iu (λa i=>[a,iv i]) 1 uG uH 107 3 (L w.ac) (λk=>(lr (L w.ac) (L w.ac)++mK k).map aH8.c) (λ_=>True) trivial (by grind [mK]) λk a1 X s _ N B=>?_;have c2:box X (1,1)=_:=B.bt c1;have W:L X=4096:=(by rw[B.1,O]);simp only[qz 109,qy 8,aI,u0,u1,c2,rk,aj,CW];refine⟨λh=>?_,λh=>?_⟩;refine rF ⟨2,k,0⟩ N (by decide) (by omega) (by simp[AT];omega) λS z g3 o=>?_;simp only[qz 10,au,fE,cS,aY];refine bcW (mk:=λa i=>[a,iv i]) (λ_ _=>rfl) (aL h) (by omega) trivial ?_ (B.trans<|o.mono<|by decide);grind [mK,an5,bje];have e:k=L w.ac:=(by grind);subst e;clear h s;generalize al:lr (L w.ac) (L w.ac)++mK (L w.ac)=R at N;have aE:L R<=1700:=(by rw[<-al,a6G,AT];omega);refine iu (λa i=>[a,iv i]) 1 uG uH 107 3 (L w.ac) (λk=>(R++kh w.ac k).map aH8.c) (λ_=>True) trivial (by grind [kh]) λk a2 M s _ q d=>?_;have c3:box M (1,1)=_:=d.bt c2;have u:L M=4096:=(by rw[d.1,W]);simp only[qz 151,aI,di,qz 173,qy 12,u0,u1,c3,rk,ix,aj,bh];refine⟨λh=>⟨u7 h,?_⟩,λh=>?_⟩;refine eF rfl rfl (by decide) (by omega) λz o b3=>?_;have aX:=AU w.ac k;simp+contextual only[qz 14,qy 16,qy 18,u0,u1,b3,rk,ar,sX,CW];refine⟨λy=>?_,λy=>?_⟩;refine rF ⟨3,k,0⟩ (q.fr o<|by decide) (by decide) (by rw[o.1,u];decide) (by simp;omega) λS A g3 F4=>?_;simp only[qz 171,aI,au,fE,cS,aY];refine bcW (mk:=λa i=>[a,iv i]) (λ_ _=>rfl) (aL h) (by omega) trivial ?_ (d.trans<|(o.mono<|by decide).trans<|F4.mono<|by decide);grind [kh,uP,bje];simp only[qz 171,aI,au,fE,cS,aY];refine bcW (mk:=λa i=>[a,iv i]) (λ_ _=>rfl) (aL h) (by omega) trivial ?_ (d.trans<|o.mono<|by decide);rw[kh,uP,y];simpa[kh] using q.fr o (by decide);have e:k=L w.ac:=(by grind);subst e;clear h s;generalize aP:R++kh w.ac (L w.ac)=G at q;have aF:L G<=1800:=(by grind [AU,a6G]);refine iu (λa i=>[a,iv i]) 1 uG uH 107 3 (L w.ac) (λk=>(G++ki w k).map aH8.c) (λ_=>True) trivial (by grind [ki]) λk S z s _ ah C=>?_;have c4:box z (1,1)=_:=C.bt c3;have E:L z=4096:=(by rw[C.1,u]);simp only[qz 199,aI,u0,u1,c4,rk,aj,bh,ar,sX];refine⟨λh=>?_,λh=>?_⟩;have n:=aL h;refine⟨⟨by omega,λhq=>?_⟩,λt'=>?_⟩;obtain⟨a9,_⟩:=H.named (k:=k) n;simp only[fN,bN,yp] at P;obtain⟨f1,f2,f3,f4⟩:=iY P.1;grind [oU,qP];have aV:=vU w (k:Int);have ba:=AW w k;have an:=x k (1+L w.ac) (by omega) (by omega);refine iu (λa i=>[a,iv i]) 1 uG uH 107 3 (L<|dx w (k:Int)) (λm=>(G++ki w k++((dx w (k:Int)).take m).map λb=>(⟨4,(k:Int),b⟩:aH8)).map aH8.c) (λ_=>True) trivial (by grind) λm a4 A hm _ v g=>?_;have F:L A=4096:=(by rw[g.1,E]);simp only[qz 235,qy 20,aI,u0,u1,tf,rk,bh,xy];refine⟨λj=>⟨u7 j,?_⟩,λj=>?_⟩;have f:=aL j;refine rF ⟨4,k,gd (dx w (k:Int)) m⟩ v (by decide) (by omega) (by simp;omega) λa5 Z g5 p=>?_;simp only[qz 22,au,fE,cS,aY];refine bcW (mk:=λa i=>[a,iv i]) (λ_ _=>rfl) f (by omega) trivial ?_ (g.trans<|p.mono<|by decide);grind [EC];have f:m=L (dx w (k:Int)):=(by grind);subst f;refine bcW (mk:=λa i=>[a,iv i]) (λ_ _=>rfl) n (by omega) trivial ?_<|C.trans g;grind [ki,tq,bje,gV];have e:k=L w.ac:=(by grind);subst e;clear h s;generalize aR:G++ki w (L w.ac)=K at ah;have aG:L K<=3500:=(by grind [AW,a6G]);have hN:cw w=K++jp w (L w.ac):=(by grind [cw]);refine iu (λa i=>[a,iv i]) 1 uG uH 107 3 (L w.ac) (λk=>(K++jp w k).map aH8.c) (λ_=>True) trivial (by grind [jp]) λk a4 A s _ v g=>?_;have c5:box A (1,1)=_:=g.bt c4;have F:L A=4096:=(by rw[g.1,E]);simp only[qz 277,aI,di,qz 299,qy 24,u0,u1,rk,ix,bh];refine⟨λh=>⟨u7 h,?_⟩,λh=>?_⟩;refine eF rfl rfl (by decide) (by omega) λZ p b5=>?_;have n:=aL h;have c6:box Z (1,1)=_:=p.bt c5;have bd:=Qv w k;have an:=x k (L w.init.gp.ay+L w.ac) (by omega) (by omega);simp+contextual only[qz 26,u0,u1,b5,c6,rk,aj,ar,sX];refine⟨λy=>?_,λy=>⟨(by omega),λt'=>?_⟩⟩;simp only[qz 297,aI,au,fE,cS,aY];refine bcW (mk:=λa i=>[a,iv i]) (λ_ _=>rfl) n (by omega) trivial ?_ (g.trans<|p.mono<|by decide);have:pR w k=[]:=(by grind [pR]);rw[jp,tq,this,cL];exact v.fr p (by decide);have aO:pN (gd w.ac k)=U:=(by grind);have bc:=Rp w (gd w.ac k).f8 (gd w.ac k).aq;refine iu (λa i=>[a,iv i]) 1 uG uH 107 3 (L<|mR w (gd w.ac k).f8 (gd w.ac k).aq) (λm=>(K++jp w k++((mR w (gd w.ac k).f8 (gd w.ac k).aq).take m).map λb=>(⟨5,(k:Int),b⟩:aH8)).map aH8.c) (λ_=>True) trivial (by simpa using v.fr p (by decide)) λm a6 Y6 hm _ ak D=>?_;have aK:L Y6=4096:=(by rw[D.1,p.1,F]);simp only[qz 325,qy 28,aI,u0,u1,tf,rk,bh,xy];refine⟨λj=>⟨u7 j,?_⟩,λj=>?_⟩;have f:=aL j;refine rF ⟨5,k,gd (mR w (gd w.ac k).f8 (gd w.ac k).aq) m⟩ ak (by decide) (by omega) (by simp;omega) λa7 Y7 g7 F7=>?_;simp only[qz 30,au,fE,cS,aY];refine bcW (mk:=λa i=>[a,iv i]) (λ_ _=>rfl) f (by omega) trivial ?_ (D.trans<|F7.mono<|by decide);grind [EC];have f:m=L (mR w (gd w.ac k).f8 (gd w.ac k).aq):=(by grind);subst f;simp only[qz 297,aI,au,fE,cS,aY];refine bcW (mk:=λa i=>[a,iv i]) (λ_ _=>rfl) n (by omega) trivial ?_ (g.trans<|(p.mono<|by decide).trans D);simp_all [jp,tq,bje,pR,gV];have e:k=L w.ac:=(by grind);subst e;rw[hN];grind [qV]
def Cp:FT:=om PJ
def azv{w Lw K}:=f111 Cp PJ w Lw K
def ao2:dO:=(28,Cg)::(18,Cp)::ao1
def wQ:eJ ao2:=ve (pg O8)<|ve (rj PJ)<|Ex
def fsL:=ai @ayY<|ai @azv<|@sX

structure Fx(Y Y':ae)(ks:List Id):Prop where
 len:L Y'=L Y
 keep:∀b x,b∉ks->box Y b=V x->box Y' b=V x
 I6:∀k,(aZ Y k).I6<=(aZ Y' k).I6
theorem Fx.refl(Y:ae)(ks:List Id):Fx Y Y ks:=⟨rfl,λ_ _ _ h=>h,λ_=>dA _⟩
theorem Fx.trans{Y Y' a:ae}{ks ks':List Id}(h:Fx Y Y' ks)(b:Fx Y' a ks'):Fx Y a (ks++ks'):=⟨b.len.trans h.len,(by grind [Fx.keep]),λk=>gl (h.I6 k)<|b.I6 k⟩
theorem Fx.mono{Y Y':ae}{ks ks':List Id}(h:Fx Y Y' ks)(hs:∀b∈ks,b∈ks'\/∀x,box Y b≠V x):Fx Y Y' ks':=⟨h.len,(by grind [Fx.keep]),h.I6⟩
def Fx.kp{Y Y':ae}(h:Fx Y Y' []):Kp Y Y':=⟨h.len,h.I6,by grind [Fx.keep]⟩
theorem Kp.fx{Y Y':ae}(h:Kp Y Y')(ks:List Id):Fx Y Y' ks:=⟨h.len,(by grind [Kp.keep]),h.I6⟩
def ig(Y:ae)(b:Id):Prop:=(aZ Y b.1).I6<b.2
theorem ig.no{Y:ae}{b:Id}(h:ig Y b)(x:bY):box Y b≠V x:=(by grind [aOm,ig])
theorem ig.ne{Y:ae}{b c:Id}{x:bY}(h:ig Y b)(a:box Y c=V x):c≠b:=λe=>h.no x<|e▸a
theorem ig.old{Y Y':ae}{b:Id}{ks:List Id}(a:Fx Y Y' ks)(h:ig Y' b):ig Y b:=rC (a.I6 _) h
def wc{Y:ae}{b:Id}{x x':bY}(a:box Y b=V x):Fx Y (wr Y b x') [b]:=by refine⟨uC,(by grind [DY]),λk=>?_⟩;grind [wr,iD,lN,jQ]
def Le{Y:ae}{b:Id}{x:bY}(a:box Y b=V x):Fx Y (kill Y b) [b]:=by refine⟨yg b,(by grind [Qc]),λk=>?_⟩;grind [kill,iD,lN,jQ]
def kH{Y:ae}{d:Nat}{x:bY}(a:d<L Y):Fx Y (put Y d x) []:=(am8 a).fx []
theorem qQ(Y:ae)(d:Nat):ig Y (zt Y d):=by simp[ig,zt]
def alI{e:TypeId}{z d:Nat}{zs:List AV}{Y:ae}{K:be}(g:L zs=z)(f:0<z)(a:d<L Y)(c:∀v Y',Fx Y Y' []->ig Y (d,v)->box Y' (d,v)=V ⟨e,z,U,U,[zs]⟩->K (.p (d,v) 0 0) Y'):eV (alA e zs Y d) K:=by have b:alA e zs Y d=V (.p (zt Y d) 0 0,put Y d ⟨e,z,U,U,[zs]⟩):=(by grind [alA,aRI]);rw[b];exact c _ _ (kH a) (qQ Y d)<|be7 a
theorem cy{Y:ae}{b:Id}{j z y:Nat}{e:TypeId}{o:Bool}{r cs:List AV}{x:AV}{K:ae->Prop}(a:box Y b=V ⟨e,z,o,U,[r]⟩)(g:eY x=V cs)(h:L cs=y)(f:j+y<=L r)(d:∀Y',Fx Y Y' [b]->box Y' b=V ⟨e,z,o,U,[r.take j++cs++r.drop (j+y)]⟩->K Y'):sV (aK y Y (.p b 0 j) x) K:=by have c:aK y Y (.p b 0 j) x=V (wr Y b ⟨e,z,o,U,[r.take j++cs++r.drop (j+y)]⟩):=(by grind [aK,aBG,pW,qh]);rw[c];exact d _ (wc a)<|lO a
def bc(Y:ae)(e:TypeId)(z:Nat)(a:AV)(bA:List<|List AV):Prop:=(bA=[]/\a= .l [] U U)\/∃b,a= .m b (L bA)/\box Y b=V ⟨e,z,U,I,bA⟩
def aA(a:AV):List Id:=match a with| .m b _=>[b]|_=>[]
theorem bc.nil{Y:ae}{e:TypeId}{z:Nat}:bc Y e z (.l [] U U) []:= .inl ⟨rfl,rfl⟩
theorem bc.fx{Y Y':ae}{ks:List Id}{e:TypeId}{z:Nat}{a:AV}{bA:List (List AV)}(f:bc Y e z a bA)(d:Fx Y Y' ks)(g:∀b∈aA a,b∉ks):bc Y' e z a bA:=by rcases f with h|⟨b,rfl,c⟩;exact .inl h;exact .inr ⟨b,rfl,d.keep b _ (g b<|by simp[aA]) c⟩
def gD{Y:ae}{e:TypeId}{z d by':Nat}{zs:List AV}{a:AV}{bA new:List (List AV)}{t o:Bool}{K:be}(m:bc Y e z a bA)(q:L zs=z)(s:0<z)(i:d<L Y)(w:∀r∈bA,L r=z)(v:∀r∈new,L r=z)(u:(L bA+L new)*(by'+1)<=1099511627776)(h:∀g Y',bc Y' e z g (bA++new)->Fx Y Y' (aA a)->(∀b∈aA g,b∈aA a\/ig Y b)->(∀b∈aA g,b∈aA a\/b.1=d)->K g Y'):eV (Gy e zs by' Y d a<|.l new t o) K:=by unfold Gy;simp only[gL];by_cases k:L new=0;rw[lC k];have n:new=[]:=(by simp_all);subst n;rcases m with⟨c,j⟩|⟨b,c,f⟩;subst c j;exact h _ _ (.inl ⟨rfl,rfl⟩) (Fx.refl _ _) (by simp[aA]) (by simp[aA]);subst c;simp only[f,df];exact h _ _ (.inr ⟨b,by simp,by simpa using f⟩) (Fx.refl _ _) (by simp[aA]) (by simp[aA]);rw[j5 k,lC ⟨by omega,by simp[aRI,i],by simp_all⟩];rcases m with⟨c,j⟩|⟨b,c,f⟩;subst c j;simp only;rw[lC ⟨by simp,by grind [lx]⟩];refine h _ _ (.inr ⟨zt Y d,by simp,?_⟩) ((kH i).mono<|by simp) (by grind [aA,qQ]) (by simp[aA,zt]);grind [be7];subst c;simp only[f];rw[lC ⟨trivial,trivial,q.symm,dA _,by grind [lx]⟩];have p:d<L (kill Y b):=(by grind [yg]);refine h _ _ (.inr ⟨zt Y d,by simp,?_⟩) (((Le f).trans<|kH p).mono<|by simp[aA]) (by grind [aA,qQ]) (by simp[aA,zt]);grind [gV,anF,be7]
def lnI{Y:ae}{e:TypeId}{z:Nat}{a:AV}{bA:List (List AV)}(f:bc Y e z a bA):fS Y a=V (iv<|L bA):=by rcases f with⟨c,d⟩|⟨b,c,g⟩;subst c d;rfl;grind [fS]
def ms{Y:ae}{e:TypeId}{z:Nat}{a:AV}{bA:List (List AV)}(c:bc Y e z a bA):eY a=V [a]:=by rcases c with⟨_,rfl⟩|⟨b,rfl,_⟩<;>rfl
def bsI{Y:ae}{z0 a:AV}{e:TypeId}{z:Nat}{bA:List (List AV)}{K:be}(f:bc Y e z a bA)(c:∀Y',Fx Y Y' (aA a)->K (.l [[.l bA I I]] U U) Y'):eV (aX [z0] 1 Y [(0,a)]) K:=by rcases f with⟨rfl,rfl⟩|⟨b,rfl,d⟩;have:aX [z0] 1 Y [(0, .l [] U U)]=V (.l [[.l [] I I]] U U,Y):=(by simp[aX,aly,eY,nrm,gK,eR,gi,eB,iR,kills,bqL,eN]);rw[this];exact c Y<|Fx.refl _ _;have:aX [z0] 1 Y [(0, .m b<|L bA)]=V (.l [[.l bA I I]] U U,kill Y b):=(by simp[aX,aly,eY,nrm,gK,eR,gi,d,eB,iR,kills,bqL,eN]);rw[this];exact c _<|Le d
def yI{α:Type}(mk:α->Int->List AV)(n:Nat)(Inv:Nat->α->ae->Prop):aG:=λvs Y=>∃(k:Nat) (s:α),vs=mk s k/\k<=n/\Inv k s Y
def jD{α:Type}{B:(aG)->(bu)->aG}(mk:α->Int->List AV)(p n:Nat)(Inv:Nat->α->ae->Prop){s0:α}{a:ae}(b:Inv 0 s0 a)(h:∀(k:Nat) s Y,k<=n->Inv k s Y->B (yI mk n Inv) (gM p n) (mk s k) Y):lV (mk s0 0) a B:=⟨yI mk n Inv,gM p n,⟨0,s0,rfl,mh _,b⟩,by rintro vs Y ⟨k,s,rfl,d,c⟩;simp_all⟩
def dR{α:Type}{mk:α->Int->List AV}{p n k:Nat}{Inv:Nat->α->ae->Prop}{s s':α}{Y Y':ae}(c:∀s i,gt (mk s i) p=iv i)(a:k<n)(b:n<4611686018427387904)(hI:Inv (k+1) s' Y'):yI mk n Inv (mk s'<|dq.wrap<|(k:Int)+1) Y'/\gM p n (mk s'<|dq.wrap<|(k:Int)+1) Y'<gM p n (mk s k) Y:=by rw[fX<|by omega];refine⟨⟨k+1,s',rfl,a,hI⟩,?_⟩;grind [gM]
def r7A{a b c d e f g:AV}:aN (V 7) [a,b,c,d,e,f,g]=V (.a [a,b,c,d,e,f,g]):=rfl
def ic{e:TypeId}{z d n:Nat}{zs:List AV}{Y:ae}{K:be}(f:L Y=n)(b:∀v Y',Fx Y Y' []->ig Y (d,v)->box Y' (d,v)=V ⟨e,z,U,U,[zs]⟩->K (.p (d,v) 0 0) Y')(g:L zs=z:=by exact rfl)(a:0<z:=by decide)(c:d<n:=by decide):eV (alA e zs Y d) K:=alI g a (f▸c) b
def Fx.kq{Y Y':ae}{ks:List Id}(h:Fx Y Y' ks){b:Id}{x:bY}(c:box Y b=V x)(a:b∉ks:=by simp):box Y' b=V x:=h.keep b x a c
def Fx.tn{Y Y' a:ae}{b:Id}(h:Fx Y Y' [])(c:Fx Y' a [b])(d:∀x,box Y b≠V x):Fx Y a []:=(h.trans c).mono (by simp only[dW,cE];rintro e rfl;exact .inr d)
def yV{B:(aG)->(bu)->aG}(n:Nat)(Inv:Nat->Unit->ae->Prop){a:ae}(b:Inv 0 () a)(h:∀(k:Nat) s Y,k<=n->Inv k s Y->B (yI (λ_ i=>[iv i]) n Inv) (gM 0 n) [iv k] Y):lV [iv 0] a B:=jD (λ_ i=>[iv i]) 0 n Inv (s0:=()) b h
def yU{n k:Nat}{Inv:Nat->Unit->ae->Prop}{Y Y':ae}(a:k<n)(hI:Inv (k+1) () Y')(b:n<4611686018427387904:=by omega):yI (λ_ i=>[iv i]) n Inv [iv<|dq.wrap<|(k:Int)+1] Y'/\gM 0 n [iv<|dq.wrap<|(k:Int)+1] Y'<gM 0 n [iv k] Y:=dR (mk:=λ_ i=>[iv i]) (s:=()) (s':=()) (λ_ _=>rfl) a b hI
def aGd{w:gz}{n m k o a:AV}:aN J ((gz.c w++[n,m,k,o,a]).drop 2)=V (sl aOw.c w.aQ.bC):=rfl
def aGf{w:gz}{n m k o a:AV}:aN J ((gz.c w++[n,m,k,o,a]).drop 4)=V (sl cs w.aQ.ay):=rfl
def aGi{w:gz}{n m k o a:AV}:aN J ((gz.c w++[n,m,k,o,a]).drop 7)=V (sl cg.c w.init.gp.ak):=rfl
def aGj{w:gz}{n m k o a:AV}:aN J ((gz.c w++[n,m,k,o,a]).drop 8)=V (iv w.init.gp.tx):=rfl
def aF3{w:gz}{n m k o a:AV}:aN J ((gz.c w++[n,m,k,o,a]).drop 10)=V (sl aoC.c w.init.gp.ay):=rfl
def aF6{w:gz}{n m k o a:AV}:aN J ((gz.c w++[n,m,k,o,a]).drop 13)=V (sl ci w.init.count):=rfl
def aF7{w:gz}{n m k o a:AV}:aN J ((gz.c w++[n,m,k,o,a]).drop 14)=V (sl aP.c w.ac):=rfl
def aF8{w:gz}{n m k o a:AV}:aN J ((gz.c w++[n,m,k,o,a]).drop 15)=V (n):=rfl
def aF9{w:gz}{n m k o a:AV}:aN J ((gz.c w++[n,m,k,o,a]).drop 16)=V (m):=rfl
def aGa{w:gz}{n m k o a:AV}:aN J ((gz.c w++[n,m,k,o,a]).drop 17)=V (k):=rfl
def aGb{w:gz}{n m k o a:AV}:aN J ((gz.c w++[n,m,k,o,a]).drop 18)=V (o):=rfl
def aGc{w:gz}{n m k o a:AV}:aN J ((gz.c w++[n,m,k,o,a]).drop 19)=V (a):=rfl
def rkC:=ai @aGd<|ai @aGf<|ai @aGi<|ai @aGj<|ai @aF3<|ai @aF6<|ai @aF7<|ai @aF8<|ai @aF9<|ai @aGa<|ai @aGb<|@aGc
def ck{a b:AV}{l:List AV}:gt (a::b::l) 1=b:=rfl
def nr{a b c:AV}{l:List AV}:gt (a::b::c::l) 2=c:=rfl
abbrev sB:Nat:=8
structure cm(Y:ae)(b:Id)(w:gz)(ns:List aH8)(out:List<|List Int)(n a:AV):Prop where
 bx:box Y b=V ⟨162,17,U,U,[w.c++[n,a]]⟩
 nm:∃t o,n= .l (ns.map aH8.c) t o
 gr:bc Y 38 1 a (out.map λc=>[sl ci c])
 le:L Y=4096
 sb:b.1=sB
 sa:∀k∈aA a,k.1=11
theorem cm.ne{Y:ae}{b:Id}{w:gz}{ns:List aH8}{out:List (List Int)}{n a:AV}(B:cm Y b w ns out n a):b∉aA a:=by rcases B.gr with⟨_,rfl⟩|⟨c,rfl,h⟩;simp[aA];simp only[aA,cE];intro e;subst e;have:=B.bx;simp_all
theorem cm.fx{Y Y':ae}{b:Id}{w:gz}{ns:List aH8}{out:List (List Int)}{n a:AV}{ks:List Id}(B:cm Y b w ns out n a)(c:Fx Y Y' ks)(e:b∉ks)(f:∀k∈aA a,k∉ks):cm Y' b w ns out n a:=⟨c.keep _ _ e B.bx,B.nm,B.gr.fx c f,c.len.trans B.le,B.sb,B.sa⟩
def cm.kp{Y Y':ae}{b:Id}{w:gz}{ns:List aH8}{out:List (List Int)}{n a:AV}(B:cm Y b w ns out n a)(c:Fx Y Y' []):cm Y' b w ns out n a:=B.fx c (by simp) (by simp)
def dP(ns:List aH8)(x:aH8):Int:=if x∈ns then(ns.idxOf x:Int)+1 else 0
def aS2{fn:Nat}{xs:List AV}{Y:ae}{d:Nat}{K:be}{v:Value}(i:uQ.elem fn=U)(h:∃r c,(r= .s v/\Fx Y c [])/\cZ aS GG fn xs Y r c)(g:K (.s v) Y):cB fn xs Y d K:=by obtain⟨r,c,⟨rfl,e⟩,f⟩:=h;refine⟨_,c,f,e.len,?_⟩;rw[lC<|show GG.rd fn=U from i];exact⟨e.kp,rfl,g⟩
def bwW{fn:Nat}{xs:List AV}{Y:ae}{d z:Nat}{e:TypeId}{bA:List (List AV)}{K:be}(u:uQ.elem fn=U)(h:∃r f,(bc f e z r bA/\Fx Y f []/\∀b∈aA r,ig Y b)/\cZ aS GG fn xs Y r f)(k:∀t,K (.l bA t U) Y):cB fn xs Y d K:=by obtain⟨r,f,⟨g,i,s⟩,q⟩:=h;refine⟨_,f,q,i.len,?_⟩;rw[lC<|show GG.rd fn=U from u];rcases g with⟨rfl,rfl⟩|⟨b,rfl,j⟩;exact⟨i.kp,rfl,k U⟩;have o:eR f (.m b<|L bA)= .l bA I U:=(by simp[eR,gi,j]);rw[o];refine⟨?_,rfl,k I⟩;have p:kills f (eB<|.m b<|L bA)=kill f b:=(by simp[kills,eB,iR,j]);rw[p];exact((i.trans<|Le j).mono (ks':=[])<|by simp only[dW,cE];rintro c rfl;exact .inr (s c<|by simp[aA]).no).kp
section
variable{Y:ae}{b:Id}{w:gz}{ns:List aH8}{out:List (List Int)}{n a:AV}{d:Nat}{K:be}
def lX{i:Int}{K:j4}{t o:Bool}:rV (cz 3 Y (.l (ns.map aH8.c) t o)<|iv i) K=(aF (L ns) i/\K (.q<|aH8.c<|gd ns i.toNat)):=aBz (Y:=Y) (f:=aH8.c) λ_=>rfl
def aPF{b:Id}{i j:Nat}{x:bY}(h:box Y b=V x):cO Y (.p b i j)=V (.p b i j):=by simp[cO,h]
def aR(ns:List aH8)(kd:Int):List aH8:=ns.filter λx=>Q<|x.kind=kd
theorem Qg{ns:List aH8}{kd:Int}{k:Nat}(h:k<L ns):aR (ns.take<|k+1) kd=aR (ns.take k) kd++(if(gd ns k).kind=kd then[gd ns k] else[]):=by grind [iJ,aR,bT]
def uT{l:List aH8}:∀r∈l.map aH8.c,L r=3:=by intro r e;obtain⟨x,_,rfl⟩:=dN.1 e;rfl
def Db{x:aH8}:aX btd 1 Y [(0, .a<|aH8.c x)]=V (.l ([x].map aH8.c) U U,Y):=ua rfl rfl rfl (by decide) rfl (by decide)
end
structure Ad(Y Y1:ae)(b:Id)(a a1:AV):Prop where
 fx:Fx Y Y1 (b::aA a)
 id:∀k∈aA a1,k∈aA a\/ig Y k
theorem Ad.refl(Y:ae)(b:Id)(a:AV):Ad Y Y b a a:=⟨Fx.refl _ _,λk c=> .inl c⟩
theorem Ad.trans{Y e f:ae}{b:Id}{a a1 g:AV}(h:Ad Y e b a a1)(i:Ad e f b a1 g):Ad Y f b a g:=by refine⟨(h.fx.trans i.fx).mono ?_,λk j=>?_⟩;grind [Ad.id,ig.no];rcases i.id k j with c|c;exact h.id k c;exact .inr<|c.old h.fx
theorem Ad.fxn{Y c e:ae}{b:Id}{a a1:AV}(h:Ad Y c b a a1)(f:Fx c e []):Ad Y e b a a1:=⟨(h.fx.trans f).mono (by simp_all),h.id⟩
theorem Ad.pre{Y c e:ae}{b:Id}{a a1:AV}(f:Fx Y c [])(h:Ad c e b a a1):Ad Y e b a a1:=⟨f.trans h.fx,by grind [ig.old,Ad.id]⟩
theorem Ad.keep{Y e:ae}{b:Id}{a a1:AV}(h:Ad Y e b a a1){c:Id}{x:bY}(i:box Y c=V x)(f:c≠b)(g:c∉aA a):box e c=V x:=h.fx.keep c x (by simp[f,g]) i
def cm.nv{Y:ae}{b:Id}{w:gz}{ns:List aH8}{out:List (List Int)}{n a:AV}(B:cm Y b w ns out n a){c:Id}{x:bY}(f:box Y c=V x)(g:x.var=U\/x.elem≠38):c∉aA a:=by rcases B.gr with⟨_,rfl⟩|⟨e,rfl,h⟩;simp[aA];grind [aA]
section
variable{Y:ae}{b:Id}{w:gz}{ns:List aH8}{out:List (List Int)}{n a:AV}{d:Nat}{K:be}
def a5Y{x:Int}:aX bH 1 Y [(0,iv x)]=V (.l ([x].map ci) U U,Y):=iz
def fi{x y:Int}:aX bH 2 Y [(0,iv x),(1,iv y)]=V (.l ([x,y].map ci) U U,Y):=by simp[aX,aly,eY,nrm,gK,eR,gi,eB,iR,kills,bqL,eN,er,bH];rfl
def xA{x y z:Int}:aX bH 3 Y [(0,iv x),(1,iv y),(2,iv z)]=V (.l ([x,y,z].map ci) U U,Y):=by simp[aX,aly,eY,nrm,gK,eR,gi,eB,iR,kills,bqL,eN,er,bH];rfl
def vR{x y z u:Int}:aX bH 4 Y [(0,iv x),(1,iv y),(2,iv z),(3,iv u)]=V (.l ([x,y,z,u].map ci) U U,Y):=by simp[aX,aly,eY,nrm,gK,eR,gi,eB,iR,kills,bqL,eN,er,bH];rfl
end
theorem aEn{x:Int}:cR .neg (iv x)=V (iv<|dq.wrap<|-x):=by simp[cR]
theorem aNG{α:Type}{f:Nat->List α}{k:Nat}:(aH<|k+1).flatMap f=(aH k).flatMap f++f k:=by rw[qn,GC];simp
def fU{α:Type}{f:Nat->List α}{k n:Nat}(h:k<=n):L ((aH k).flatMap f)<=L ((aH n).flatMap f):=by induction n with|zero=>simp_all|succ n c=>grind [aNG]
structure bp where
 aq:Int
 dD:Int
 dY:Int
 read:Bool
 deriving Inhabited,DecidableEq
def bp.c(x:bp):List AV:=[iv x.aq,iv x.dD,iv x.dY,bv x.read]
def lK(w:J9)(lock:Int)(e:aP):Int:=bif Q (lock=L w.ak) then(bif Q (e.kind=12) then lock else-1) else(dD w e).1
def mM(w:J9)(lock:Int)(e:aP):Int:=bif Q (lock=L w.ak) then(bif Q (e.kind=13) then lock else-1) else(dY w e).1
def pK(s:aW)(lock:Int)(u j:Nat):List bp:=(((gd s.ak lock.toNat).bk.take j).filter λx:Int=>Q<|x=(u:Int)).map λ_=>⟨u,-1,-1,U⟩
def pJ(s:aW)(lock:Int)(u:Nat):List bp:=if(gd s.ak lock.toNat).awG=u then[⟨u,-1,-1,I⟩] else[]
def bqI(w:J9)(s:aW)(lock:Int)(u:Nat):List bp:=
 if lock=L w.ak then(if s.tx=u then[⟨u,-1,-1,I⟩] else[]) else pJ s lock u++pK s lock u (L (gd s.ak lock.toNat).bk)
def ma(t i:Int)(x:bp):bp:=if x.aq=t/\x.dY<0 then{x with dY:=i} else x
def tv(w:J9)(lock:Int)(e:aP)(i:Int)(l:List bp):List bp:=if mM w lock e=lock then l.map (ma e.aq i) else l
def oY(w:J9)(lock:Int)(e:aP)(i:Int):List bp:=if lK w lock e=lock then[⟨e.aq,i,-1,(dD w e).2⟩] else[]
def dZ(w:J9)(s:aW)(l:List aP)(lock:Int):Nat->List bp|0=>(aH<|L s.ay).flatMap (bqI w s lock)|k+1=>tv w lock (gd l k) k (dZ w s l lock k)++oY w lock (gd l k) k
def jE(w:J9)(s:aW)(l:List aP)(lock:Int):List bp:=dZ w s l lock<|L l
def nC{l:List bp}:∀r∈l.map bp.c,L r=4:=by intro r e;obtain⟨x,_,rfl⟩:=dN.1 e;rfl
theorem wL{Y:ae}{b:Id}{e:TypeId}{z i j:Nat}{bA:List (List AV)}{r:List AV}{v:Value}{K:ae->Prop}(c:box Y b=V ⟨e,z,U,I,bA⟩)(h:bA[i]?=V r)(k:j<L r)(g:∀Y',Fx Y Y' [b]->box Y' b=V ⟨e,z,U,I,bA.set i<|r.set j<|.s v⟩->K Y'):sV (aK 1 Y (.p b i j)<|.s v) K:=by have f:aK 1 Y (.p b i j) (.s v)=V (wr Y b ⟨e,z,U,I,bA.set i<|r.set j<|.s v⟩):=(by simp only[aK,aBG,c,eE,brW,eB,iR,kills,aRl,pW,eR,gi,nrm,gK,eY,h,bZ,aO1];grind [eN,GP]);rw[f];exact g _ (wc c)<|lO c
def ixI{Y:ae}{e:TypeId}{z:Nat}{a:AV}{bA:List (List AV)}{K:j4}{i:Int}(h:bc Y e z a bA)(c:aF (L bA) i)(j:∀b,a= .m b (L bA)->box Y b=V ⟨e,z,U,I,bA⟩->K (.p b i.toNat 0)):rV (cz z Y a<|iv i) K:=by rcases h with⟨rfl,rfl⟩|⟨b,rfl,f⟩;have:=c.1;have:=c.2;grind;have g:i.toNat<L bA:=(by have:=c.1;have:=c.2;omega);simp only[cz,c.1,aPI,f,aQd,g,aOe];exact j b rfl f
theorem Ln{s:aW}{lock:Int}{u j:Nat}:L (pK s lock u j)<=j:=by grind [pK]
def bhO{α:Type}{f:Nat->List α}{c:Nat}(h:∀k,L (f k)<=c):∀n,L ((aH n).flatMap f)<=n*c
 |0=>by simp
 |n+1=>by
  have e:=bhO h n
  grind [aNG]
def ao6:dO:=ao2
def yQ:eJ ao6:=wQ
def fsM:=@fsL

abbrev lB(ns:List aH8)(x y:Int):Int:=dP ns ⟨1,x,y⟩
abbrev lE(ns:List aH8)(x:Int):Int:=dP ns ⟨2,x,0⟩
abbrev lF(ns:List aH8)(x:Int):Int:=dP ns ⟨3,x,0⟩
def aDc{ns:List aH8}{x:aH8}:0<=dP ns x/\dP ns x<=L ns:=by grind [dP]
def de{ns:List aH8}{x:aH8}(c:L ns<100000):cR .neg (iv<|dP ns x)=V (iv<|-dP ns x):=by have:=aDc (ns:=ns) (x:=x);grind [aEn,eM]
def AI{α:Type}{B:(aG)->(bu)->aG}(mk:α->Int->List AV)(p n c:Nat)(f:c<=n)(Inv:Nat->α->ae->Prop){s0:α}{e:ae}(g:Inv c s0 e)(h:∀(k:Nat) s Y,k<=n->Inv k s Y->B (yI mk n Inv) (gM p n) (mk s k) Y):lV (mk s0 c) e B:=⟨yI mk n Inv,gM p n,⟨c,s0,rfl,f,g⟩,by rintro vs Y ⟨k,s,rfl,j,i⟩;simp_all⟩
theorem aol{α:Type}{f:Nat->List α}{k:Nat}(h:∀j,j<k->f j=[]):(aH k).flatMap f=[]:=by simp_all
section
variable{Y:ae}{b:Id}{w:gz}{ns:List aH8}{out:List (List Int)}{n a:AV}{d:Nat}{K:be}
def fF{l:List Int}:∀r∈l.map ci,L r=1:=by simp
def lL(ns:List aH8):List bqR:=(aR ns 1).map λx=>⟨x.a,x.b,-1⟩
end
def ao7:dO:=ao6
def Bt:eJ ao7:=yQ
def fsN:=@fsM

def my(ns:List aH8)(x y:Nat):List (List Int):=if x<y then[[lB ns x y,lB ns y x]] else[]
def jy(ns:List aH8)(n x:Nat):List (List Int):=(aH n).flatMap<|my ns x
def kY(ns:List aH8)(w:gz)(y:Nat):List (List Int):=if 0<=lw w.ac y then[[lB ns (lw w.ac y) y],[-lE ns y,lE ns<|lw w.ac y]] else[]
def mA(ns:List aH8)(w:gz)(j:Nat):List (List Int):=if 0<=kr w j then[[-lE ns j,lE ns<|kr w j],[-lE ns j,lB ns (kr w j) j]] else[]
def bqD(ns:List aH8)(w:gz):List (List Int):=(aH<|L w.ac).flatMap (jy ns<|L w.ac)++((aH<|L w.ac).flatMap (kY ns w)++(aH<|L w.ac).flatMap (mA ns w))
section
variable{Y:ae}{b:Id}{w:gz}{ns:List aH8}{out:List (List Int)}{n a:AV}{d:Nat}{K:be}
def jI(ns:List aH8)(e f c:Int):List (List Int):=
 if f<0 then[[-lE ns e,-lE ns c,-lB ns e c]] else[[-lE ns e,-lE ns c,-lB ns e c,lE ns f],[-lE ns e,-lE ns c,-lB ns e c,lB ns f c]]
end
def ao8:dO:=ao7
def Bu:eJ ao8:=Bt
def Dn:=@fsN

structure WV(w:gz):Prop where
 ok:kB w
 dp:∀k,k<L w.ac->L (gd w.ac k).dI<10000/\L (gd w.ac k).ep<10000
 th:∀k,k<L w.ac->aF (L w.init.count) (gd w.ac k).aq/\aF (L w.init.gp.ay) (gd w.ac k).aq
 ct:∀u:Int,aF (L w.init.count) u->0<=gd w.init.count u.toNat/\gd w.init.count u.toNat<=100000
 ts:L w.init.gp.ay<=4
 lk:L w.init.gp.ak=L w.aQ.ak/\L w.aQ.ak<=4
 rd:∀l∈w.init.gp.ak,L l.bk<=100
section
variable{Y:ae}{b:Id}{w:gz}{ns:List aH8}{out:List (List Int)}{n a:AV}{d:Nat}{K:be}
def iA(ns:List aH8)(p q:bp):List (List Int):=
 if p.aq=q.aq\/(p.read=U/\q.read=U)\/q.dD<0 then[]
 else if p.dD<0 then[[-lE ns q.dD,lE ns p.dY],[-lE ns q.dD,lB ns p.dY q.dD]]
 else jI ns p.dD p.dY q.dD++jI ns q.dD q.dY p.dD
def mw(ns:List aH8)(s:List bp)(i:Nat):List (List Int):=(aH<|L<|s.drop<|i+1).flatMap λj=>iA ns (gd s i)<|gd (s.drop<|i+1) j
def rL(ns:List aH8)(s:List bp):List (List Int):=(aH<|L s).flatMap<|mw ns s
def pE(ns:List aH8)(w:gz)(k:Nat):List (List Int):=rL ns<|jE w.aQ w.init.gp w.ac k
def oH(ns:List aH8)(w:gz):List (List Int):=(aH<|L w.aQ.ak+1).flatMap<|pE ns w
theorem axk{p q:bp}:L (iA ns p q)<=4:=by grind [iA,jI]
def AG{l:List bp}{i:Int}{K:j4}{t o:Bool}:rV (cz 4 Y (.l (l.map bp.c) t o)<|iv i) K=(aF (L l) i/\K (.q<|bp.c<|gd l i.toNat)):=aBz (Y:=Y) (f:=bp.c) λ_=>rfl
theorem slT{α:Type}{f:α->List AV}{l:List α}{z:Nat}{i:Int}{K:j4}{t o:Bool}(e:∀x,L (f x)=z):rV (fo z Y (.l (l.map f) t o) (V<|iv i) J J) K=((0<=i/\i<=L l)/\K (.l ((l.drop i.toNat).map f) t o)):=by simp only[fo,lM];by_cases c:0<=i;simp only[c,aPI,qY,sD,mi,bJ,dA,GL];grind [rV,GK,oB];simp[c,rV]
def slS{l:List bp}{i:Int}{K:j4}{t o:Bool}:rV (fo 4 Y (.l (l.map bp.c) t o) (V<|iv i) J J) K=((0<=i/\i<=L l)/\K (.l ((l.drop i.toNat).map bp.c) t o)):=slT λ_=>rfl
def aoj{x:bp}:aN J (bp.c x)=V (iv x.aq):=rfl
def En{x:bp}:aN J ((bp.c x).drop 1)=V (iv x.dD):=rfl
def aok{x:bp}:aN J ((bp.c x).drop 3)=V (bv x.read):=rfl
def Bj{x:bp}:aN (V 4) (bp.c x)=V (.a<|bp.c x):=rfl
def D2{x:bp}:vp (V 4) Y (.q<|bp.c x)=V (.a<|bp.c x):=rfl
end
def Rl:dO:=ao8
def jT:eJ Rl:=Bu
def sY:=@Dn
def avd:=lA 11 [(3,([6],[0,5]))]
def akc a s0 R:=(.mk _:NR Rl avd Tryz.f248 [a] [] s0 R).p
def aMG{a:AV}{R:j4}(h:H0 λs0=>akc a s0 R):Ct 248 [a] R:=z0 avd jT Tryz.func248 h
def S0 a a1 s0 R:=(.mk _:NR Rl at1 Tryz.f207 [a,a1] [] s0 R).p
def aJ1{a a1:AV}{R:j4}(h:H0 λs0=>S0 a a1 s0 R):Ct 207 [a,a1] R:=z0 at1 jT Tryz.func207 h
def asx:=lA 29 [(4,([4,5],[0])),(20,([52],[0,4,5,6,51]))]
def SC a s0 R:=(.mk _:NR Rl asx Tryz.f143 [a] [] s0 R).p
def aJY{a:AV}{R:j4}(h:H0 λs0=>SC a s0 R):Ct 143 [a] R:=z0 asx jT Tryz.func143 h
def asz:=lA 18 [(4,([3,4,10],[1,8,9])),(12,([3,4],[1,6,8,9,10]))]
def SV a b R:=(.mk _:NR Rl asz Tryz.f146 [.u] [a] b R).p
def aJ0{c0:List AV}{R:j4}(l0:L c0=6)(h:H1 31 6 1 c0 λia b=>SV ia b R):Ct 146 [.a c0] R:=z1 asz jT Tryz.func146 l0 h
def abM a a1 s0 R:=(.mk _:NR Rl at1 Tryz.f208 [a,a1] [] s0 R).p
def aLb{a a1:AV}{R:j4}(h:H0 λs0=>abM a a1 s0 R):Ct 208 [a,a1] R:=z0 at1 jT Tryz.func208 h
def abL a a1 b R:=(.mk _:NR Rl at1 Tryz.f255 [.u,a1] [a] b R).p
def aLa{c0:List AV}{a1:AV}{R:j4}(l0:L c0=3)(h:H1 138 3 2 c0 λia b=>abL ia a1 b R):Ct 255 [.a c0,a1] R:=z1 at1 jT Tryz.func255 l0 h
def avj:=lA 13 [(4,([3,10],[1,8,9]))]
def JZ a b R:=(.mk _:NR Rl avj Tryz.f75 [.u] [a] b R).p
def aMO{c0:List AV}{R:j4}(l0:L c0=15)(h:H1 43 15 1 c0 λia b=>JZ ia b R):Ct 75 [.a c0] R:=z1 avj jT Tryz.func75 l0 h
def avp:=lA 26 [(3,([11],[1,9,10])),(6,([],[1,9,10,11]))]
def Kc a b R:=(.mk _:NR Rl avp Tryz.f76 [.u] [a] b R).p
def aMU{c0:List AV}{R:j4}(l0:L c0=15)(h:H1 43 15 1 c0 λia b=>Kc ia b R):Ct 76 [.a c0] R:=z1 avp jT Tryz.func76 l0 h
def avm:=lA 11 [(3,([9],[1,7,8]))]
def J0 a b R:=(.mk _:NR Rl avm Tryz.f78 [.u] [a] b R).p
def aMR{c0:List AV}{R:j4}(l0:L c0=7)(h:H1 40 7 1 c0 λia b=>J0 ia b R):Ct 78 [.a c0] R:=z1 avm jT Tryz.func78 l0 h
def au9:=lA 11 [(3,([8],[0,1,7]))]
def JR a a1 s0 R:=(.mk _:NR Rl au9 Tryz.f169 [a,a1] [] s0 R).p
def aMC{a a1:AV}{R:j4}(h:H0 λs0=>JR a a1 s0 R):Ct 169 [a,a1] R:=z0 au9 jT Tryz.func169 h
def YD a b R:=(.mk _:NR Rl at1 Tryz.f167 [.u] [a] b R).p
def aKC{c0:List AV}{R:j4}(l0:L c0=7)(h:H1 62 7 1 c0 λia b=>YD ia b R):Ct 167 [.a c0] R:=z1 at1 jT Tryz.func167 l0 h
def YC a b R:=(.mk _:NR Rl at1 Tryz.f225 [.u] [a] b R).p
def aKB{c0:List AV}{R:j4}(l0:L c0=7)(h:H1 62 7 1 c0 λia b=>YC ia b R):Ct 225 [.a c0] R:=z1 at1 jT Tryz.func225 l0 h
def Zj a a1 b c R:=(.mk _:NR Rl auM Tryz.f226 [.u,a1,b] [a] c R).p
def aKF{c0:List AV}{a1 b:AV}{R:j4}(l0:L c0=15)(h:H1 43 15 3 c0 λia c=>Zj ia a1 b c R):Ct 226 [.a c0,a1,b] R:=z1 auM jT Tryz.func226 l0 h
def aku b a c R:=(.mk _:NR Rl auF Tryz.f211 [.u, .u] [b,a] c R).p
def aML{c0:List AV}{b:List AV}{R:j4}(l0:L c0=6)(l1:L b=7)(h:H2 31 6 2 c0 62 7 3 b λia c d=>aku ia c d R):Ct 211 [.a c0, .a b] R:=z2 auF jT Tryz.func211 l0 l1 h
def ald:=lA 24 [(5,([52],[4,5,8,51])),(15,([11,67],[4,5,8,51,52,65,66]))]
def JY c b a d R:=(.mk _:NR Rl ald Tryz.f212 [.u, .u, .u] [c,b,a] d R).p
def aMJ{c0:List AV}{b:List AV}{c:List AV}{R:j4}(l0:L c0=6)(l1:L b=7)(d:L c=7)(h:H3 31 6 3 c0 40 7 4 b 62 7 5 c λf g i e=>JY f g i e R):Ct 212 [.a c0, .a b, .a c] R:=z3 ald jT Tryz.func212 l0 l1 d h
def avh:=lA 36 [(9,([46],[2,3,13])),(16,([5,6,55],[3,53,54])),(19,([5,6],[3,53,54,55])),(28,([9,96],[3,94,95])),(31,([9],[3,94,95,96]))]
def akv b a c R:=(.mk _:NR Rl avh Tryz.f213 [.u, .u] [b,a] c R).p
def aMM{c0:List AV}{b:List AV}{R:j4}(l0:L c0=7)(l1:L b=7)(h:H2 40 7 2 c0 62 7 3 b λia c d=>akv ia c d R):Ct 213 [.a c0, .a b] R:=z2 avh jT Tryz.func213 l0 l1 h


def bsh{B:aG}{A:(aG)->Prop}(Q:aG)(e:∀c,(∀vs Y',Q vs Y'->c vs Y')->A c)(f:∀vs Y',Q vs Y'->B vs Y'):A B:=e B f
def gA(Y:ae)(e:TypeId)(z:Nat)(a:AV)(bA:List<|List AV):Prop:=(∃o,a= .l bA U o)\/∃b,a= .m b (L bA)/\box Y b=V ⟨e,z,U,I,bA⟩
theorem gA.fx{Y Y':ae}{ks:List Id}{e:TypeId}{z:Nat}{a:AV}{bA:List (List AV)}(g:gA Y e z a bA)(f:Fx Y Y' ks)(i:∀b∈aA a,b∉ks):gA Y' e z a bA:=by rcases g with h|⟨b,rfl,c⟩;exact .inl h;exact .inr ⟨b,rfl,f.keep b _ (i b<|by simp[aA]) c⟩
def ali{Y:ae}{e:TypeId}{x:AV}{l:List Int}(h:gA Y e 1 x<|l.map ci):dG Y x=sl ci l:=by rcases h with⟨o,rfl⟩|⟨b,rfl,c⟩;rfl;simp[dG,eR,gi,c,nrm,gK,sl,oB]
section
variable{Y:ae}{b:Id}{w:gz}{ns:List aH8}{out:List (List Int)}{n a:AV}{d:Nat}{K:be}
abbrev lS(ns:List aH8)(r s:Int):Int:=dP ns ⟨4,r,s⟩
def bpl(ns:List aH8)(w:gz)(r:Nat)(s:Int)(x:Nat):List (List Int):=
 if(x:Int)=s\/aTG (gd w.ac x) (gd w.ac r)=I then[] else if 0<=s then[[-lS ns r s,-lE ns x,lB ns x s,lB ns r x]] else[[-lS ns r s,-lE ns x,lB ns r x]]
def pD(ns:List aH8)(r:Nat)(s:Int)(l:List Int)(j:Nat):List (List Int):=[[-lS ns r s,lF ns<|gd l j]]
def kD(ns:List aH8)(w:gz)(r:Nat)(s:Int):List (List Int):=
 if 0<=s then[[-lS ns r s,lE ns s],[-lS ns r s,lB ns s r]]++(aH<|L<|fg w (gd w.ac s.toNat).aq (gd w.ac s.toNat).ep).flatMap (pD ns r s<|fg w (gd w.ac s.toNat).aq (gd w.ac s.toNat).ep) else[]
def iP(ns:List aH8)(w:gz)(r:Nat)(s:Int):List (List Int):=kD ns w r s++(aH<|L w.ac).flatMap (bpl ns w r s)
def bqN(ns:List aH8)(w:gz)(r:Nat):List (List Int):=
 if fR (gd w.ac r)=U then[[-lF ns r,lE ns r],-lF ns r::(dx w r).map (lS ns r)]++(aH<|L<|dx w r).flatMap (λj=>iP ns w r<|gd (dx w r) j) else[]
def qv(ns:List aH8)(i:Nat)(l:List Int)(j:Nat):List (List Int):=[[-lE ns i,lF ns<|gd l j]]
def kX(ns:List aH8)(w:gz)(i:Nat):List (List Int):=(aH<|L<|fg w (gd w.ac i).aq (gd w.ac i).dI).flatMap<|qv ns i<|fg w (gd w.ac i).aq (gd w.ac i).dI
def rJ(ns:List aH8)(w:gz):List (List Int):=(aH<|L w.ac).flatMap (bqN ns w)++(aH<|L w.ac).flatMap (kX ns w)
end
section
variable{Y:ae}{b:Id}{w:gz}{ns:List aH8}{out:List (List Int)}{n a:AV}{d:Nat}{K:be}
end
def iW(ns:List aH8)(x:aH8):List (List Int):=[[-dP ns x,lE ns x.a]]++(if 0<=x.b then[[-dP ns x,lE ns x.b],[-dP ns x,lB ns x.b x.a]] else[])
def ju(ns:List aH8)(x y:aH8):List (List Int):=if x.b=y.b then[[-dP ns x,-dP ns y]] else[]
def lP(ns l:List aH8)(i:Nat):List (List Int):=(aH<|L<|l.drop<|i+1).flatMap λj=>ju ns (gd l i)<|gd (l.drop<|i+1) j
def jk(ns:List aH8)(w:gz)(x y:aH8):List (List Int):=if x.a=y.a/\(gd w.ac x.a.toNat).kind=18 then[[-dP ns x,-dP ns y]] else[]
def lQ(ns:List aH8)(w:gz)(l:List aH8)(i:Nat):List (List Int):=(aH<|L<|l.drop<|i+1).flatMap λj=>jk ns w (gd l i)<|gd (l.drop<|i+1) j

def aC4{Y:ae}:vp (V 22) Y (.q pI)=V (.a pI):=by kernel_rfl
def avT{k:Nat}(h:k<22):sI 22 1 J (.a pI) (iv k)=V (st<|gd ik k):=by have b:pI[k]?=V (st<|gd ik k):=(by have c:k<L ik:=h;grind [bT,eC]);grind [sI,yy]
def brJ(s:ByteArray):Ct 248 [st s] (·=bv (rZ s)):=by refine aMG λs0 _ e=>?_;simp only[akc,aC4,aY];refine bhZ 22 (λk=>∀j,j<k->gd ik j≠s) (by simp) λk g b=>?_;simp+contextual only[qz 19,aI,u0,u1];refine⟨λh=>?_,λh=>?_⟩;have a:k<22:=(by grind);rw[avT a];simp+contextual only[u0,u1];refine⟨λf=>?_,by grind [gS]⟩;have:rZ s=U:=(by rw[rZ,tL];exact⟨gd ik k,asq (l:=ik) a,by simp_all⟩);rw[this];have a:k=22:=(by grind);have:rZ s=I:=(by rw[rZ,bnI];intro x d;have:=(px (l:=ik) (p:=λx=>x≠s)).1 (λj c=>b j<|by rw[a];exact c) x d;simp_all);rw[this]
def Gg:FT:=lH brJ
def azB{s Lw K}:=np Gg brJ s Lw K
def NM(i n:Int):Ct 207 [iv i,iv n] (·=bv (dh i n)):=by refine aJ1 λs0 b a=>?_;simp+contextual only[S0,u0,u1,dh]
def EZ:FT:=lI NM
def axZ{i n Lw K}:=f200 EZ NM i n Lw K
def OA(i n:Int):Ct 208 [iv i,iv n] (·=bv (dh i n)):=by refine aLb λs0 b a=>?_;simp+contextual only[abM,u0,u1,dh]
def ry:FT:=lI OA
def ayx{i n Lw K}:=f200 ry OA i n Lw K
def Oz(t:aoC)(c:Int):Ct 255 [.a t.c,iv c] (·=bv (Q (t.cQ=3)&&Q (t.cond=c))):=by refine aLa rfl λs0 e b d=>?_;simp+contextual only[abL,u0,u1,b,rk,aj]
def BV:FT:=lI Oz
def ayw{t c Lw K}:=f200 BV Oz t c Lw K
def btG(e:aP):Ct 167 [.a e.c] (·=bv (fR e)):=by refine aKC rfl λs0 f b d=>?_;simp+contextual only[YD,u0,u1,b,rk,aj,fR]
def brV:FT:=lH btG
def ax5{e Lw K}:=np brV btG e Lw K
def NQ(e:aP):Ct 225 [.a e.c] (·=bv (pN e)):=by refine aKB rfl λs0 f b d=>?_;simp+contextual only[YC,u0,u1,b,rk,aj,pN]
def aTR:FT:=lH NQ
def ax4{e Lw K}:=np aTR NQ e Lw K
def PU(w:J9)(e:aP):Ct 211 [.a w.c, .a e.c] (·=bv (!tA w e)):=by refine aML rfl rfl λs0 i b d g=>?_;simp+contextual only[aku,u0,u1,b,d,rk,ix,aj,tA,bie,bkl];refine⟨λh=>?_,λh=>⟨λf=>dX.1 f,?_⟩⟩;simp;simp[dh,BI]
def Gl:FT:=lI PU
def azG{w e Lw K}:=f200 Gl PU w e Lw K
def oW(l:List Int)(n:Int):Int:=match l.findIdx? (λx=>Q<|x=n) with|some i=>i|none=> -1
theorem anR{l:List Int}{n:Int}{k:Nat}(b:k<L l)(h:∀j,j<k->gd l j≠n)(a:gd l k=n):oW l n=k:=by have:l.findIdx? (λx=>Q<|x=n)=V k:=(by grind [RL,bT]);rw[oW,this]
theorem anS{l:List Int}{n:Int}(h:∀j,j<L l->gd l j≠n):oW l n= -1:=by have:l.findIdx? (λx=>Q<|x=n)=J:=(by rw[GB];intro x a;have:=(px (p:=λx=>x≠n)).1 h x a;simp_all);rw[oW,this]
def PO(l:List Int)(n:Int)(e:L l<4611686018427387904):Ct 169 [sl ci l,iv n] (·=iv (oW l n)):=by refine aMC λs0 _ a=>?_;simp only[JR,cT,aY];refine bhZ (L l) (λk=>∀j,j<k->gd l j≠n) (by simp) λk d c=>?_;simp+contextual only[qz 19,u0,u1,ix,rk,bh];refine⟨λh=>⟨u7 h,λb=>?_,by grind [gS,aL]⟩,λh=>?_⟩;grind [anR,aL];grind [anS,bkb,bw]
def Cq:FT:=aIc PO
def bvu{l n Lw K}:=f210 Cq PO l n Lw K
def PX(w:gz)(q:L w.ac<1000000/\L w.init.count<1000000):Ct 75 [.a w.c] (·=bv (rM w)):=by refine aMO rfl λt o d n=>?_;simp only[JZ,u0,u1,d,rk,aj,dc];refine yh (λs:Int×Nat=>[iv s.1,iv s.2]) 1 (L w.init.count) (λs=>s.2<=L w.init.count/\s.1=bhL w.init.count s.2/\∀j,j<s.2->0<=gd w.init.count j/\gd w.init.count j<=400) (0,0) (by grind [bhL]) ?_;rintro⟨g,i⟩ ⟨e,k,b⟩;simp only at e k b;simp+contextual only[qz 25,u0,u1,ix,rk,d,aj,bh];have m:=aoN b e;have r:i<L w.init.count->(Q (gd w.init.count i<0)||Q (400<gd w.init.count i))=U->rM w=I:=(by grind [asq,rM]);refine⟨λh=>⟨u7 h,(by simp_all),λf=>?_⟩,λh=>?_⟩;have:=aL h;simp only[cP,aNK,aqC] at f;refine wN (enc:=λs:Int×Nat=>[iv s.1,iv s.2]) (s:=(g,i)) (s':=(g+gd w.init.count i,i+1)) (i:=i) ?_ rfl rfl (aL h) ⟨aL h,?_,a6p b f⟩;grind [fX,eM];grind [Ra,aL];have l:i=L w.init.count:=(by grind);have hs:bhL w.init.count i=w.init.count.sum:=(by rw[l,bhL,gV]);have p:∀c∈w.init.count,0<=c/\c<=400:=px.1 (by simp_all);grind [eM,rM,decide_eq_true]
def aUv:FT:=mT PX
def azJ{w Lw K}:=f110 aUv PX w Lw K
def aXJ(s:sA)(h:(∀j,j<L s.bU->L s.gp.done=L s.bU/\(gd s.gp.done j=I->gd s.bU j=0))/\L s.bU=L s.gp.done/\L s.bU<1000000):Ct 78 [.a s.c] (·=bv U):=by refine aMR rfl λs0 g b d=>?_;simp+contextual only[J0,u0,u1,b,rk,aj];refine bhZ (L s.gp.done) (λk=>True) trivial λk f e=>?_;simp+contextual only[qz 19,u0,u1,b,ix,rk,bh,aj];grind [dJ,aL,gS,eH,absurd]
def Gs:FT:=mT aXJ
def azM{s Lw K}:=f110 Gs aXJ s Lw K
def Qb(w:gz)(s:uZ w=U/\(∀j,j<L w.init.gp.ay->pX w j=U)/\L w.init.count=L w.init.gp.ay/\L w.init.gp.ay<1000000/\L w.init.gp.ak=L w.aQ.ak/\(∀c∈w.aQ.bC,aF (L w.aQ.ak) c.eg)):Ct 76 [.a w.c] (·=bv U):=by obtain⟨p1,t,y,z,A,B⟩:=s;refine aMU rfl λs0 r f u=>?_;simp+contextual only[Kc,u0,u1,f,rk,aj,dc];refine pQ (L w.init.gp.ay) [4] (λk=>True) trivial λk Y x v g=>?_;have o:box Y (1,1)=_:=g.bt f;simp+contextual only[qz 19,di,qz 41,qy 4,u0,u1,ix,rk,bh];refine⟨λh=>⟨u7 h,?_⟩,λh=>trivial⟩;refine eF rfl rfl (by decide) (by rw[g.1,r];decide) λd m n=>?_;have p:box d (1,1)=_:=m.bt o;have nx:fI s0 [4] (L w.init.gp.ay) (λ_=>True) [iv<|dq.wrap<|(k:Int)+1] d/\fM (L w.init.gp.ay) [iv<|dq.wrap<|(k:Int)+1] d<fM (L w.init.gp.ay) [iv k] Y:=(by grind [oL,aL,Fr.trans]);have hs:=aNR p1 k<|aL h;have e:=t k<|aL h;simp only[aOK,Eu,zX,bN,eH] at hs;simp only[pX,bN,eH] at e;simp+contextual only[qz 39,qz 6,↓iS,u0,u1,p,n,ix,rk,bh,aj,dc];simp only[cP] at hs e;obtain⟨⟨⟨⟨C,D⟩,E⟩,F⟩,G,H⟩:=hs;obtain⟨_,K⟩:=e;refine⟨λq=>?_,λq=>⟨by grind [dJ,aL],λi=>?_,λi=>⟨λl=>⟨λb=>?_,λ_=>nx⟩,λl=>⟨λb=>?_,λb=>?_⟩⟩⟩⟩;grind;simp_all;simp_all;grind [decide,gd,dh];grind [decide,gd,aF,dX,ii]
def Gu:FT:=mT Qb
def azO{w Lw K}:=f110 Gu Qb w Lw K
def brb{x y:Bool}:tY [bv I,bv I] 1 [(0,bv x),(1,bv y)]=V (.a [bv x,bv y]):=rfl
def brl{x y:List Int}:tY [.l [] U U, .l [] U U] 1 [(0,sl ci x),(1,sl ci y)]=V (.a [sl ci x,sl ci y]):=rfl
def ax2{a b:List Int}{k:Nat}(h:k<2):sI 2 1 J (.a [sl ci a,sl ci b]) (iv k)=V (sl ci<|if k=0 then a else b):=by match k,h with|0,_=>rfl|1,_=>rfl
def ia2{Y:ae}{b:Id}{x:bY}{k:Nat}(a:box Y b=V x)(h:k<2):wm 2 1 Y (.p b 0 0) (iv k)=V (.p b 0 k):=by grind [wm]
def ld2{x y:Bool}{k:Nat}(h:k<2):aN J ([bv x,bv y].drop k)=V (bv<|if k=0 then x else y):=by match k,h with|0,_=>rfl|1,_=>rfl
def PS(w:J9)(s:sA)(e:aP)(z:yM w e=I/\yN e=I/\lZ e.dI (gd s.count e.aq.toNat)/\lZ e.ep (gd s.count e.aq.toNat)/\aF (L s.count) e.aq/\(e.kind=3\/e.kind=4->aF (L w.cells) e.f8)/\vo e):Ct 212 [.a w.c, .a s.c, .a e.c] (·=bv U):=by obtain⟨p1,O,P,R,A,S,r⟩:=z;refine aMJ rfl rfl rfl λs0 N m t n D=>?_;simp+contextual only[JY,qy 8,u0,u1,m,n,rk,ix,aj,brb];refine⟨(by simp_all),?_⟩;refine eF rfl rfl (by decide) (by omega) λY F o=>?_;have C:box Y (3,1)=_:=F.bt m;have u:box Y (4,1)=_:=F.bt t;have p:box Y (5,1)=_:=F.bt n;simp+contextual only[qz 10,u0,u1,p,rk,aj,brl];refine bhZ 2 (λ_=>True) trivial λk M _=>?_;simp+contextual only[qz 31,aI,au,u0,u1];refine⟨λh=>?_,λh=>trivial⟩;have g:k<2:=(by grind);rw[ax2 g];have v:lZ (if k=0 then e.dI else e.ep) (gd s.count e.aq.toNat):=(by grind);have y:L (if k=0 then e.dI else e.ep)<4611686018427387904:=(by split;exact r.1;exact r.2);have K:∀a b:Bool,a=(Q (e.kind=5)||(Q (e.kind=3)||Q (e.kind=4))&&Q ((gd w.cells e.f8.toNat).size≠0))->b=(Q (e.kind=4)||Q (e.kind=22))->(Q ((0:Int)<L (if k=0 then e.dI else e.ep))&&!(if k=0 then a else b))=I:=(by grind [yM,yN]);generalize(if k=0 then e.dI else e.ep)=l at*;simp+contextual only[u0,u1,ia2 o g,o,ld2 g];refine⟨λq=>?_,λ_=>?_⟩;grind;refine yh (λa:Int×Nat=>[iv a.1,iv a.2]) 1 (L l) (λa=>a.2<=L l/\a.1=if a.2=0 then 0 else gd l (a.2-1)) (0,0) ⟨by simp,by simp⟩ ?_;rintro⟨B,i⟩ ⟨x,f⟩;simp only at x f;subst f;simp+contextual only[qz 91,aI,au,u0,u1,ix,rk,u,p,aj,bh];refine⟨λd=>⟨u7 d,λ_=>A,λq=>?_,λ_=>?_⟩,by grind [gS]⟩;have j:=v i<|aL d;exfalso;simp only[fH,yp] at q;have E:=j.2.2;have G:=j.1;have H:=j.2.1;omega;refine wN (enc:=λa:Int×Nat=>[iv a.1,iv a.2]) (i:=i) (s:=(_,i)) (s':=(gd l i,i+1)) ?_ rfl rfl (aL d) ⟨aL d,by simp⟩;grind [fX,aL]
def Gj:FT:=qe PS
def azE{w s e Lw K}:=f310 Gj PS w s e Lw K
def PV(s:sA)(e:aP)(A:aO8 s e=U/\L s.gp.ay<1000000/\(e.kind=3->aF (L s.cells) e.f8)/\(e.kind=23->aF (L s.bU) e.f8)):Ct 213 [.a s.c, .a e.c] (·=bv U):=by obtain⟨p1,H,K,M⟩:=A;refine aMM rfl rfl λs0 t x j E=>?_;simp only[akv];simp+contextual only[a7i,qz 59,qz 57,au,aI,↓iS,u0,u1,x,j,rk,ix,aj,aNV];have D:∀v:aG,True:=λ_=>trivial;refine⟨λh=>⟨(by simp_all),?_⟩,λF=>⟨λh=>⟨(by simp_all),?_⟩,λC=>⟨λh=>?_,λG=>⟨λy=>⟨trivial,λh=>nomatch h⟩,λy=>⟨trivial,λB=>⟨λo=>?_,λo=>⟨λq=>?_,λq=>?_⟩⟩⟩⟩⟩⟩⟩;grind [aO8];grind [aO8];grind [aO8];have u:(bif Q ((L (fO s.gp e.f8):Int)=0) then Q (e.value= -1) else Q (0<=e.value)&&(Q (e.value<L s.gp.ay)&&Q (e.value∈fO s.gp e.f8)))=U:=(by grind [aO8]);refine jD (α:=Int×Bool) (λa i=>[iv a.1,bv a.2,iv i]) 2 (L s.gp.ay) (λk a Y'=>a=((L (eh s.gp e.f8 k):Int),Q<|e.value∈eh s.gp e.f8 k)/\Fr s0 Y' [8]) (s0:=(0,I)) ⟨by simp[eh],Fr.refl _ _⟩ ?_;rintro k _ Y z ⟨rfl,b⟩;have f:box Y (3,1)=_:=b.bt j;have w:=wU s.gp e.f8 k;simp+contextual only[qz 97,di,qz 119,qy 6,u0,u1,f,ix,rk,bh,aj];refine⟨λh=>⟨u7 h,?_⟩,λh=>?_⟩;refine eF rfl rfl (by decide) (by rw[b.1,t];decide) λg d l=>?_;have m:box g (3,1)=_:=d.bt f;simp+contextual only[qz 8,u0,u1,m,l,rk,aj,qz 117];refine⟨λn=>?_,λn=>?_⟩;refine dR (mk:=λa i=>[iv a.1,bv a.2,iv i]) (p:=2) (s:=((L (eh s.gp e.f8 k):Int),Q<|e.value∈eh s.gp e.f8 k)) (s':=(dq.wrap ((L (eh s.gp e.f8 k):Int)+1),Q (e.value∈eh s.gp e.f8 k)||Q (e.value=(k:Int)))) (λ_ _=>rfl) (aL h) (by omega) ?_;refine⟨?_,b.trans d⟩;grind [pe,vc,fX];refine dR (mk:=λa i=>[iv a.1,bv a.2,iv i]) (p:=2) (s:=((L (eh s.gp e.f8 k):Int),Q<|e.value∈eh s.gp e.f8 k)) (s':=((L (eh s.gp e.f8 k):Int),Q<|e.value∈eh s.gp e.f8 k)) (λ_ _=>rfl) (aL h) (by omega) ?_;refine⟨?_,b.trans d⟩;grind [pe,vc];have r:k=L s.gp.ay:=(by grind);subst r;change(bif Q ((L (eh s.gp e.f8<|L s.gp.ay):Int)=0) then Q (e.value= -1) else Q (0<=e.value)&&(Q (e.value<L s.gp.ay)&&Q (e.value∈eh s.gp e.f8 (L s.gp.ay))))=U at u;grind;have u:e.value=L (fO s.gp e.f8):=(by grind [aO8]);refine jD (α:=Int) (λa i=>[iv a,iv i]) 1 (L s.gp.ay) (λk a Y'=>a=(L (eh s.gp e.f8 k):Int)/\Fr s0 Y' [11]) (s0:=0) ⟨by simp[eh],Fr.refl _ _⟩ ?_;rintro k _ Y z ⟨rfl,b⟩;have f:box Y (3,1)=_:=b.bt j;have w:=wU s.gp e.f8 k;simp+contextual only[qz 169,di,qz 191,qy 10,u0,u1,f,ix,rk,bh,aj];refine⟨λh=>⟨u7 h,?_⟩,λh=>?_⟩;refine eF rfl rfl (by decide) (by rw[b.1,t];decide) λg d l=>?_;have m:box g (3,1)=_:=d.bt f;simp+contextual only[qz 12,u0,u1,m,l,rk,aj,qz 189];refine⟨λn=>?_,λn=>?_⟩;refine dR (mk:=λa i=>[iv a,iv i]) (s:=_) (s':=dq.wrap<|(L (eh s.gp e.f8 k):Int)+1) (λ_ _=>rfl) (aL h) (by omega) ?_;refine⟨?_,b.trans d⟩;grind [pe,vc,fX];refine dR (mk:=λa i=>[iv a,iv i]) (s:=_) (s':=(L (eh s.gp e.f8 k):Int)) (λ_ _=>rfl) (aL h) (by omega) ?_;refine⟨?_,b.trans d⟩;grind [pe,vc];grind [Nat.le_antisymm,bw,fO];grind [aO8]
def Gm:FT:=aIc PV
def azH{s e Lw K}:=f210 Gm PV s e Lw K
def NU(w:gz)(c u:Int)(O:L w.ac<100000/\L w.init.gp.ay<100000):Ct 226 [.a w.c,iv c,iv u] (λr=>∃t,r= .l ((mR w c u).map ci) t U):=by refine aKF rfl λP D s M=>?_;simp+contextual only[Zj,u0,u1,s,rk,aj,dc];refine iu (λa i=>[a,iv i]) 1 [40,68] [40,68,9] 3 1 (L w.init.gp.ay) (λk=>(iH w c u k).map ci) (λ_=>True) trivial (.inl ⟨rfl,rfl⟩) λk a Y N _ C m=>?_;have B:box Y (3,1)=_:=m.bt s;have o:L Y=4096:=(by rw[m.1,D]);have K:=qX (vf w c u) k;simp only[qz 25,aI,di,u0,u1,qz 47,qy 4,ix,rk,bh,B,aj];refine⟨λh=>⟨u7 h,?_⟩,λh=>?_⟩;refine eF rfl rfl (by decide) (by omega) λy b p=>?_;simp+contextual only[qz 6,qy 8,qy 10,u0,u1,p,rk,aj,iz];have H:=aL h;rw[eM (x:= -1-(k:Int)) (by omega)<|by omega];refine⟨λd=>?_,λd=>?_⟩;refine fP (C.fr b<|by decide) rfl (by decide) (by decide) (by rw[b.1,o];decide) pU (by simp) (by grind [iH,bJ,a6G,bZ,aO1]) λA z v f=>?_;simp only[qz 45,aI,au,fE,cS,aY];refine bcW (mk:=λa i=>[a,iv i]) (λ_ _=>rfl) (aL h) (by omega) trivial ?_ (m.trans<|(b.mono<|by decide).trans<|f.mono<|by decide);grind [vf,iH,yK];simp only[qz 45,aI,au,fE,cS,aY];refine bcW (mk:=λa i=>[a,iv i]) (λ_ _=>rfl) (aL h) (by omega) trivial ?_ (m.trans<|b.mono<|by decide);have F:vf w c u k=I:=d;have e:iH w c u (k+1)=iH w c u k:=(by grind [iH,yK]);grind [Gr.fr];have j:k=L w.init.gp.ay:=(by grind);subst j;refine iu (λa i=>[a,iv i]) 1 [40,68] [40,68,11] 3 1 (L w.ac) (λk=>(iH w c u (L w.init.gp.ay)++fw (wV w c u) k).map ci) (λ_=>True) trivial (by grind [fw]) λk a Y' G _ n g=>?_;have q:L Y'=4096:=(by rw[g.1,o]);have E:=qX (wV w c u) k;simp only[qz 73,aI,di,u0,u1,qz 95,qy 12,ix,rk,bh];refine⟨λh=>⟨u7 h,?_⟩,λh=>?_⟩;refine eF rfl rfl (by decide) (by omega) λy b p=>?_;simp+contextual only[qz 14,qy 16,qy 18,u0,u1,p,rk,aj,iz];refine⟨λd=>?_,λd=>?_⟩;refine fP (n.fr b<|by decide) rfl (by decide) (by decide) (by rw[b.1,q];decide) pU (by simp) (by grind [iH,bJ,a6G,bZ,aO1]) λA z v f=>?_;simp only[qz 93,aI,au,fE,cS,aY];refine bcW (mk:=λa i=>[a,iv i]) (λ_ _=>rfl) (aL h) (by omega) trivial ?_ (g.trans<|(b.mono<|by decide).trans<|f.mono<|by decide);rw[Bo d];exact v;simp only[qz 93,aI,au,fE,cS,aY];refine bcW (mk:=λa i=>[a,iv i]) (λ_ _=>rfl) (aL h) (by omega) trivial ?_ (g.trans<|b.mono<|by decide);rw[yJ d];grind [Gr.fr];have j:k=L w.ac:=(by grind);subst j;exact qV n λt=>⟨t,rfl⟩
def aTS:FT:=vn NU
def ax7{w c u Lw K}:=f311 aTS NU w c u Lw K
def zV(l:List cA):List ByteArray:=(jv l (L l) 0 []).getD []
def aEq{x y:cA}:a6F .neq 2 [(0,2),(1,0),(2,0),(3,1),(4,0)] (.a x.c) (.a y.c)=V (bv<|Q<|x≠y):=by obtain⟨a,b,c,d,e⟩:=x;obtain⟨f,g,h,i,j⟩:=y;have hs:(a.toList==f.toList)=Q (a=f):=(by have:=alq (a:=a) (b:=f);grind [a6F,zP]);by_cases k:a=f<;>by_cases l:b=g<;>by_cases m:c=h<;>by_cases n:d=i<;>by_cases o:e=j<;>simp[a6F,cA.c,nW,sS,hs,k,l,m,n,o]
def NI(l:List cA)(hp:(jv l (L l) 0 []).isSome=U/\L l<=12):Ct 143 [sl cA.c l] (λr=>∃t o,r= .t [.l ((zV l).map cs) t o,bv U]):=by refine aJY λw hl h0=>?_;obtain⟨ns,D⟩:=zz.1 hp.1;have W:zV l=ns:=(by rw[zV,D];rfl);rw[W];have ar:=hp.2;simp only[SC];refine⟨λvs Y=>∃(i f:Nat) (a:AV) (b:List ByteArray),vs=[a,iv i]/\i<=L l/\L b<=i/\L l-i<=f/\jv l f i b=V ns/\Gr Y [20] 9 1 a (b.map cs)/\Fr w Y [20,6],gM 1<|L l,⟨0,L l,_,[],rfl,by omega,by simp,by omega,D,Gr.nil,Fr.refl _ _⟩,?_⟩;rintro vs Y ⟨i,f,a,b,rfl,hi,ah,hf,g,H,T⟩;have C:L Y=4096:=(by rw[T.1,hl]);simp only[qz 25,qy 2,aI,u0,u1,rk,ix,bh];refine⟨λh=>⟨u7 h,?_⟩,λh=>?_⟩;refine eF rfl rfl (by decide) (by omega) λY2 u O=>?_;simp+contextual only[qz 4,qy 6,u0,u1,O,rk,aj,iz];refine fP (H.fr u<|by decide) rfl (by decide) (by decide) (by rw[u.1,C];decide) (by simp) (by simp) (by grind) λq p g3 E=>?_;have P:box p (6,(aZ Y 6).I6+1)=_:=E.bt O;simp+contextual only[qz 8,↓iS,u0,u1,P,rk,aj];have Z:=aL h;obtain⟨f,rfl⟩:∃f',f=f'+1:=⟨f-1,by omega⟩;rw[jv,lC Z] at g;have next:∀j Y',a7d l i=V j->i<j->j<=L l->Gr Y' [20] 9 1 q ((b++[(gd l i).name]).map cs)->Fr w Y' [20,6]->(∃(i f:Nat) (a:AV) (b:List ByteArray),[q,iv (j:Int)]=[a,iv i]/\i<=L l/\L b<=i/\L l-i<=f/\jv l f i b=V ns/\Gr Y' [20] 9 1 a (b.map cs)/\Fr w Y' [20,6])/\gM 1 (L l) [q,iv (j:Int)] Y'<gM 1 (L l) [a,iv i] Y:=(by intro j Y' hs ap hj G' F';rw[hs] at g;refine⟨⟨j,f,q,b++[(gd l i).name],rfl,hj,by simp;omega,by omega,g,G',F'⟩,?_⟩;grind [gM,fE,au,bh]);have z:Gr p [20] 9 1 q ((b++[(gd l i).name]).map cs):=(by simp_all);have y:Fr w p [20,6]:=T.trans ((u.mono<|by decide).trans<|E.mono<|by decide);rw[fX (by omega),eM (x:=(L l:Int)-i) (by omega)<|by omega];have aq:a7d l i≠J:=(by grind);refine⟨λhs=>⟨λhx=>?_,λhx=>next (i+1) p ?_ (by omega) (by omega) z y⟩,λhs=>⟨λK=>?_,λK=>?_⟩⟩;grind [absurd,a7d];grind [decide_eq_false_iff_not,a7d];exfalso;simp only[aNK] at hs;have ab:¬((gd l i).size<1\/4<(gd l i).size\/(L l:Int)-i<(gd l i).size):=(by grind [a7d]);have n:∀k,k<(gd l i).size.toNat->sM (gd l i) (gd l<|i+k) k=U:=(by grind [a7d]);have ao:=n 0 (by omega);grind [sM,eH,cP];simp only[aNK] at hs;simp only[cP,aNK] at K;obtain⟨⟨⟨q1,q2⟩,q3⟩,q4⟩:=K;have ab:¬((gd l i).size<1\/4<(gd l i).size\/(L l:Int)-i<(gd l i).size):=(by omega);have n:∀k,k<(gd l i).size.toNat->sM (gd l i) (gd l<|i+k) k=U:=(by grind [a7d]);have X:a7d l i=V (i+(gd l i).size.toNat):=(by grind [a7d]);refine yV (gd l i).size.toNat (λk _ Y'=>(∃m,box Y' (6,(aZ Y 6).I6+1)=V ⟨175,5,U,U,[cA.c {gd l i with index:=m}]⟩)/\Fr p Y' [6]) ⟨⟨(gd l i).index,P⟩,Fr.refl _ _⟩ ?_;rintro k _ N hk ⟨⟨m,R⟩,F⟩;have am:L N=4096:=(by rw[F.1,E.1,u.1,C]);simp only[qz 121,aI,u0,u1,R,rk,aj];refine⟨λG=>?_,λG=>?_⟩;simp only[yp] at G;have B:k<(gd l i).size.toNat:=(by omega);refine Ev R (by omega) rfl (by simp[cA.c]) λY5 F5 b5=>?_;have S:box Y5 (6,(aZ Y 6).I6+1)=V ⟨175,5,U,U,[cA.c {gd l i with index:=k}]⟩:=b5;simp only[qz 10,au,u0,u1];rw[show dq.wrap ((i:Int)+k)=((i+k:Nat):Int) by grind [eM]];simp only[ix,u0,u1,bh,rk,S,aEq];refine⟨dJ (by omega),λA=>?_,λA=>?_⟩;exfalso;have:=n k B;simp only[sM,eH,cP,aNK,aNS,bsM] at this;obtain⟨⟨⟨⟨w1,w2⟩,w3⟩,w4⟩,w5⟩:=this;refine aNR A ?_;generalize gd l (i+k)=x at*;obtain⟨x1,x2,x3,x4,x5⟩:=x;grind;exact yU B (by grind [Fr.trans]);simp only[aNK] at G;have e:dq.wrap ((i:Int)+(gd l i).size)=((i+(gd l i).size.toNat:Nat):Int):=(by grind [eM]);rw[e];exact next _ N X (by omega) (by omega) (z.fr F<|by decide) (y.trans<|F.mono<|by decide);have M:ns=b:=(by have:=bw h;cases f<;>simp[jv,aYE.2 this] at g<;>exact g.symm);subst M;obtain⟨x,o,e⟩:=sU H;have s:jS Y [a,bv U]= .t [.l (ns.map cs) x o,bv U]:=(by show AV.t [iZ Y a,bv U]=_;have:iZ Y a=dQ Y a:=(by rcases H with⟨_,rfl⟩|⟨d,v,rfl,_⟩<;>rfl);rw[this,e]);refine⟨?_,x,o,s⟩;rw[s];rfl
def EW:FT:=om NI
def axW{l Lw K}:=f111 EW NI l Lw K
def NK(w:J9)(z:(∀j,j<L w.dU->aOg w j=I)/\L w.dU<=60):Ct 146 [.a w.c] (·=bv U):=by refine aJ0 rfl λs0 v f H=>?_;simp+contextual only[SV,u0,u1,f,rk,aj];refine jD (α:=Int×Int) (λa i=>[iv a.1,iv a.2,iv i]) 2 (L w.dU) (λk a Y'=>(a=if k=0 then(0,0) else((gd w.dU<|k-1).aq,(gd w.dU<|k-1).stmt+1))/\(0<=a.2/\a.2<=k)/\Fr s0 Y' [6]) (s0:=(0,0)) (by grind [Fr.refl]) ?_;rintro k ⟨b,nx⟩ Y M ⟨K,m,l⟩;have r:box Y (1,1)=_:=l.bt f;simp+contextual only[qz 25,qy 4,u0,u1,ix,rk,bh];refine⟨λh=>⟨u7 h,?_⟩,λh=>trivial⟩;refine eF rfl rfl (by decide) (by rw[l.1,v];decide) λe o q=>?_;have t:box e (1,1)=_:=o.bt r;have hs:=z.1 k<|aL h;simp only[aOg,cP] at hs;obtain⟨⟨B,C⟩,N⟩:=hs;simp only[aNK] at B C;have n:=aL h;simp only at m;have key:¬((gd w.dU k).aq<b)/\(b<(gd w.dU k).aq->(gd w.dU k).stmt=0)/\(¬b<(gd w.dU k).aq->(gd w.dU k).stmt=nx):=(by grind [eM]);obtain⟨E,F,G⟩:=key;have D:∀x y:Int,x=(gd w.dU k).aq->y=(gd w.dU k).stmt->0<=y->y<=k->yI (λ(a:Int×Int) i=>[iv a.1,iv a.2,iv i]) (L w.dU) (λk a Y'=>(a=if k=0 then(0,0) else((gd w.dU<|k-1).aq,(gd w.dU<|k-1).stmt+1))/\(0<=a.2/\a.2<=k)/\Fr s0 Y' [6]) [iv x,iv<|dq.wrap<|y+1,iv<|dq.wrap<|(k:Int)+1] e/\gM 2 (L w.dU) [iv x,iv<|dq.wrap<|y+1,iv<|dq.wrap<|(k:Int)+1] e<gM 2 (L w.dU) [iv b,iv nx,iv k] Y:=(by rintro x y rfl rfl g d;have A:dq.wrap ((gd w.dU k).stmt+1)=(gd w.dU k).stmt+1:=(by grind [eM]);rw[A];refine dR (mk:=λ(a:Int×Int) i=>[iv a.1,iv a.2,iv i]) (p:=2) (s:=(b,nx)) (s':=((gd w.dU k).aq,(gd w.dU k).stmt+1)) (λ_ _=>rfl) n (by omega) ?_;grind [Fr.trans]);simp+contextual only[qz 6,a7i,qz 77,qz 75,u0,u1,t,q,rk,aj];refine⟨λu=>?_,λu=>⟨λg=>⟨λd=>?_,λd=>?_⟩,λg=>⟨λd=>?_,λd=>?_⟩⟩⟩;grind;simp_all;grind;simp_all;grind
def EY:FT:=mT NK
def axY{w Lw K}:=f110 EY NK w Lw K
def api:dO:=(248,Gg)::(207,EZ)::(208,ry)::(255,BV)::(167,brV)::(225,aTR)::(211,Gl)::(169,Cq)::(75,aUv)::(78,Gs)::(76,Gu)::(212,Gj)::(213,Gm)::(226,aTS)::(143,EW)::(146,EY)::Rl
def sf:eJ api:=ve (nH brJ)<|ve (nI NM)<|ve (nI OA)<|ve (nI Oz)<|ve (nH btG)<|ve (nH NQ)<|ve (nI PU)<|ve (aCb PO)<|ve (pg PX)<|ve (pg aXJ)<|ve (pg Qb)<|ve (tE PS)<|ve (aCb PV)<|ve (By NU)<|ve (rj NI)<|ve (pg NK)<|jT
def aQS:=ai @azB<|ai @axZ<|ai @ayx<|ai @ayw<|ai @ax5<|ai @ax4<|ai @azG<|ai @bvu<|ai @azJ<|ai @azM<|ai @azO<|ai @azE<|ai @azH<|ai @ax7<|ai @axW<|ai @axY<|@sY
def ave:=lA 14 [(6,([],[18]))]
def ake a s0 R:=(.mk _:NR api ave Tryz.f206 [a] [] s0 R).p
def aMH{a:AV}{R:j4}(h:H0 λs0=>ake a s0 R):Ct 206 [a] R:=z0 ave sf Tryz.func206 h
def aYG a a1 b c R:=(.mk _:NR api at1 Tryz.f145 [.u,a1,b] [a] c R).p
def aJX{c0:List AV}{a1 b:AV}{R:j4}(l0:L c0=6)(h:H1 31 6 3 c0 λia c=>aYG ia a1 b c R):Ct 145 [.a c0,a1,b] R:=z1 at1 sf Tryz.func145 l0 h
def bnX:=lA 14 [(6,([35],[2,33,34]))]
def Io b a c R:=(.mk _:NR api bnX Tryz.f147 [.u, .u] [b,a] c R).p
def aK4{c0:List AV}{b:List AV}{R:j4}(l0:L c0=6)(l1:L b=4)(h:H2 31 6 2 c0 36 4 3 b λia c d=>Io ia c d R):Ct 147 [.a c0, .a b] R:=z2 bnX sf Tryz.func147 l0 l1 h
def aa9 a a1 b c R:=(.mk _:NR api at3 Tryz.f249 [.u,a1,b] [a] c R).p
def aK5{c0:List AV}{a1 b:AV}{R:j4}(l0:L c0=6)(h:H1 31 6 3 c0 λia c=>aa9 ia a1 b c R):Ct 249 [.a c0,a1,b] R:=z1 at3 sf Tryz.func249 l0 h
def aj1 a a1 s0 R:=(.mk _:NR api at1 Tryz.f258 [a,a1] [] s0 R).p
def aMz{a a1:AV}{R:j4}(h:H0 λs0=>aj1 a a1 s0 R):Ct 258 [a,a1] R:=z0 at1 sf Tryz.func258 h
def aV0 a a1 s0 R:=(.mk _:NS api at1 Tryz.f148 [a,a1] [] s0 R).p
def aMT{a a1:AV}{s0:ae}{R:be}(hs:L s0=4096)(h:aV0 a a1 s0 R):EB 148 [a,a1] s0 R:=zB at1 sf Tryz.func148 h
def atz:=lA 26 [(7,([6,7],[1,2,5])),(17,([6,69],[1,5,7,67,68])),(20,([6],[1,5,7,67,68,69]))]
def aaH a a1 b R:=(.mk _:NR api atz Tryz.f259 [.u,a1] [a] b R).p
def aK0{c0:List AV}{a1:AV}{R:j4}(l0:L c0=15)(h:H1 43 15 2 c0 λia b=>aaH ia a1 b R):Ct 259 [.a c0,a1] R:=z1 atz sf Tryz.func259 l0 h
def NH(w:J9)(i:Int)(b:Bool):Ct 145 [.a w.c,iv i,bv b] (·=bv (dh i (L w.ak)&&((gd w.ak i.toNat).rw==b))):=by refine aJX rfl λs0 f d e=>?_;simp+contextual only[aYG,u0,u1,d,rk,ix,ar,aQS,cT,aj,DR,aNV,aOe,↓uL];done
def EV:FT:=za NH
def axV{w i b Lw K}:=f300 EV NH w i b Lw K
def Ow(w:J9)(s:aW)(f:lh w s=U/\L w.bC<=2):Ct 147 [.a w.c, .a s.c] (·=bv U):=by refine aK4 rfl rfl λs0 o b j u=>?_;obtain⟨n,q,r,t⟩:=iY f.1;have p:=f.2;simp+contextual only[Io,u0,u1,b,j,rk,ix,cT,aj,↓uL];refine⟨(by simp_all),λ_=>?_⟩;refine pQ (L w.bC) [6] (λk=>True) trivial λk Y x v e=>?_;have d:box Y (2,1)=_:=e.bt b;simp+contextual only[qz 37,qy 6,u0,u1,d,ix,rk,bh,au,aI,aj,↓uL];refine⟨λh=>⟨u7 h,?_⟩,λh=>trivial⟩;refine eF rfl rfl (by decide) (by rw[e.1,o];decide) λi g l=>?_;have m:box i (2,1)=_:=g.bt d;simp+contextual only[qz 8,qz 37,qy 6,Io,u0,u1,m,l,rk,ar,aQS,cT,aj,au,↓uL];have y:dh (gd w.bC k).eg (L w.ak)=U:=dX.2<|n _<|asq<|aL h;grind [oL,aL,Fr.trans]
def zf:FT:=aIc Ow
def ayt{w s Lw K}:=f210 zf Ow w s Lw K
def Ox(w:J9)(kind f8:Int):Ct 249 [.a w.c,iv kind,iv f8] (·=bv (named w kind f8)):=by refine aK5 rfl λf e b d=>?_;simp only[aa9,↓uL];simp only[a7i,qz 23,iM,aY,sw,↓uL];simp only[qz 21,aI,au,↓uL];simp only[a7i,qz 71,iM,aY,sw,↓uL];simp only[qz 69,aI,au,↓uL];simp only[a7i,qz 89,iM,aY,sw,↓uL];simp only[qz 87,aI,au,↓uL];simp only[a7i,qz 107,iM,aY,sw,↓uL];simp only[qz 105,aI,au,↓uL];simp only[a7i,qz 137,iM,aY,sw,↓uL];simp only[qz 135,aI,au,↓uL];simp only[a7i,qz 167,iM,aY,sw,↓uL];simp only[qz 165,aI,au,↓uL];simp only[a7i,qz 185,iM,aY,sw,↓uL];simp only[qz 183,aI,au,↓uL];simp+contextual only[↓iC,↓iB,↓iS,u0,u1,aQS,ar,b,rk,ix,cT,aj,named,bie,bkl,DR,aNV,aOe,↓uL]
def Ft:FT:=za Ox
def ayu{w kind f8 Lw K}:=f300 Ft Ox w kind f8 Lw K
theorem aE7{l:List Int}{n:Int}:Q (0<=oW l n)=Q (n∈l):=by grind [oW,decide,List.findIdx?_isSome,tL,zz,GB,decide_eq_false_iff_not]
def PN(l:List Int)(n:Int)(b:L l<4611686018427387904):Ct 258 [sl ci l,iv n] (·=bv (Q<|n∈l)):=by refine aMz λs0 _ a=>?_;simp+contextual only[aj1,u0,u1,ar,aQS,↓uL];grind [aE7]
def bpB:FT:=aIc PN
def azz{l n Lw K}:=f210 bpB PN l n Lw K
def aFl{s:ByteArray}{Y:ae}{d:Nat}{K:be}(a:d<L Y)(c:∀Y',Fr Y Y' [d]->box Y' (d,(aZ Y d).I6+1)=V ⟨0,0,U,I,[[st s,iv 0]]⟩->K (.g 1 (d,(aZ Y d).I6+1) 0 0) Y'):eV (tu Y d<|st s) K:=by have b:tu Y d (st s)=V (.g 1 (d,(aZ Y d).I6+1) 0 0,put Y d ⟨0,0,U,I,[[st s,iv 0]]⟩):=(by simp[tu,aRI,a,zt]);rw[b];exact c _ ⟨D3,λk f=>yk<|λe=>f<|by simp[e]⟩<|zQ a rfl
def aEA{s:ByteArray}{Y:ae}{b:Id}{p o n:Nat}{K:be}(a:box Y b=V ⟨0,0,U,I,[[st s,iv p]]⟩)(i:b.1<L Y)(c:p<s.size->∀Y',Fr Y Y' [b.1]->box Y' b=V ⟨0,0,U,I,[[st s,iv ((p+(Utf8.decode s p).2:Nat):Int)]]⟩->K (.t [bv U,iv p, .s<|.int .i32 (Utf8.decode s p).1]) Y')(d:s.size<=p->K (.t [bv I]) Y):eV (se Y<|.g 1 b o n) K:=by unfold se;simp only[a,aOe,aPI,bh];by_cases h:p<s.size;rw[lC h];exact c h _ ⟨uC,λk f=>wy<|λe=>f<|by simp[e]⟩<|lO a;rw[j5 h];exact d (by omega)
def av3{a b:Int}:a6F .leq 0 [] (.s<|.int .i32 a) (.s<|.int .i32 b)=V (bv<|Q<|a<=b):=rfl
def avW{a b:Int}:a6F .eql 0 [] (.s<|.int .i32 a) (.s<|.int .i32 b)=V (bv<|Q<|a=b):=rfl
def DV(s:ByteArray)(b:Id):bu:=λ_ Y=>match box Y b with|some ⟨_,_,_,_,[[_, .s (.int _ p)]]⟩=>s.size-p.toNat|_=>0
def aB7{c:Int}(h:oO c=U):c<128:=by grind [oO,wx,zY]
def PQ(s:ByteArray)(w:aQt s=U):Ct 206 [st s] (·=bv U):=by refine aMH λs0 u C=>?_;have e:=w;simp only[aQt,bN,eH,yp,cP,fK,aNK] at e;obtain⟨⟨⟨⟨p1,G⟩,H⟩,x⟩,y⟩:=e;simp+contextual only[ake,qy 2,u0,u1,Qm,ar,aQS,x,↓uL];refine⟨λh=>?_,λ_=>?_⟩;grind;refine aFl (by omega) λB n q=>?_;generalize(aZ s0 18).I6+1=v at*;refine⟨λvs Y=>∃p:Nat,vs=[]/\p<=s.size/\box Y (18,v)=V ⟨0,0,U,I,[[st s,iv p]]⟩/\L Y=4096,DV s (18,v),⟨0,rfl,by omega,q,by rw[n.1,u]⟩,?_⟩;rintro vs Y ⟨p,rfl,A,r,l⟩;simp only[qz 37,aI,↓uL];refine aEA r (by omega) (λa f o g=>?_) (λz=>?_);have b:=y p a;have k:rI s p=((s[p]'a).toNat:Int):=(by simp[rI,a]);have i:(s[p]'a).toNat<128:=(by have:=aB7 b;omega);have j:=decode_ascii s p a i;rw[j] at g⊢;simp only at g⊢;rw[<-k];have d:(∃p:Nat,True/\p<=s.size/\box f (18,v)=V ⟨0,0,U,I,[[st s,iv p]]⟩/\L f=4096)/\DV s (18,v) [] f<DV s (18,v) [] Y:=(by refine⟨⟨p+1,trivial,by omega,g,by rw[o.1,l]⟩,?_⟩;grind [DV,bh]);generalize F:rI s p=c at*;have m:p=0->wx c=U:=(by grind);simp+contextual only[qz 4,oJ,pG,KM,u0,u1,av3,avW,↓uL];refine⟨λ_=>⟨λ_=>d,λD=>⟨λ_=>d,λE=>?_⟩⟩,λh=>(nomatch h)⟩;exfalso;have t:oO c=U:=b;simp only[oO,wx,zY] at t m;grind;simp only[qz 4,oJ,u0,u1,↓uL];simp
def Gh:FT:=mT PQ
def azC{s Lw K}:=f110 Gh PQ s Lw K
def Ot(w:gz)(q:Int)(hp:L w.ac<100000/\(aF (L w.ac) q->((gd w.ac q.toNat).kind=23->aF (L w.init.gp.done) (gd w.ac q.toNat).f8/\aF (L w.init.bU) (gd w.ac q.toNat).f8)/\((gd w.ac q.toNat).kind=3->aF (L w.init.cells) (gd w.ac q.toNat).f8))):Ct 259 [.a w.c,iv q] (λr=>∃t,r= .l ((dx w q).map ci) t U):=by refine aK0 rfl λs2 hl F h0=>?_;simp+contextual only[aaH,qy 4,u0,u1,F,ix,rk,aj,ar,cT,↓uL];have N:(Q (q<0)||Q ((L w.ac:Int)<=q))=!dh q (L w.ac):=(by grind [dh]);rw[N];refine⟨λh=>?_,λh=>?_⟩;simp only[eH] at h;have:dx w q=[]:=(by simp[dx,h]);rw[this];exact⟨rfl,U,rfl⟩;simp only[fK] at h;have hi:=h;have X:=dX.1 h;obtain⟨ax,S⟩:=hp;obtain⟨T,W⟩:=S X;refine⟨X,eF rfl rfl (by decide) (by omega) λp D G=>?_⟩;have H:box p (2,1)=_:=D.bt F;have P:L p=4096:=(by rw[D.1,hl]);generalize(aZ s2 5).I6+1=v at*;have aa:∀b,oM w (gd w.ac q.toNat)=b->fR (gd w.ac q.toNat)=U->dx w q=(bif b then[-1] else[])++fw (mr w q) (L w.ac):=(by grind [dx]);simp only[qz 6,↓uL];refine bpD (λd=>∀a Y (o:List Int) (e:Int),L o<=1->dx w q=o++fw (mr w q) (L w.ac)->(((gd w.ac q.toNat).kind=3/\e=4)\/((gd w.ac q.toNat).kind=23/\e=22))->Fr p Y [105,40,65]->Gr Y [105,40,65] 3 1 a (o.map ci)->d [a,iv e] Y) ?_ λd u=>?_;(focus intro a Y o e ay M an f G4;have d1:box Y (2,1)=_:=f.bt H;have d3:box Y (5,v)=_:=f.bt G;simp only[qz 45,aI,u0,u1,d1,rk,aj,cT,au,↓uL];refine iu (λa i=>[a,iv i]) 1 [105,40,65] [105,40,65,9] 3 1 (L w.ac) (λk=>(o++fw (mr w q) k).map ci) (λ_=>True) trivial (by grind [fw]) λk a' Y' av _ K s=>?_;have e3:box Y' (5,v)=_:=s.bt d3;have R:L Y'=4096:=(by rw[s.1,f.1,P]);simp only[qz 103,aI,di,u0,u1,qz 125,qy 16,ix,rk,bh,au,ck,↓uL];refine⟨λh=>⟨u7 h,?_⟩,λh=>?_⟩;(focus refine eF rfl rfl (by decide) (by omega) λY2 j b2=>?_;have f3:box Y2 (5,v)=_:=j.bt e3;have az:=qX (mr w q) k;simp+contextual only[qz 18,qy 20,qy 22,u0,u1,f3,b2,rk,aj,ar,iz,au,ck,↓uL];have z:mr w q k=(!(Q ((gd w.ac k).kind≠e)||Q ((gd w.ac k).f8≠(gd w.ac q.toNat).f8)||Q ((gd w.ac k).value≠(gd w.ac q.toNat).value))&&(Q ((gd w.ac k).aq≠(gd w.ac q.toNat).aq)||Q ((k:Int)<q))):=(by rw[Bool.eq_iff_iff];have aw:(k:Int)=q->(gd w.ac k).kind=(gd w.ac q.toNat).kind:=(by grind);simp only[mr,aTG,bN,fH,yp,eH,cP,Bool.and_eq_false_iff,aNK,bsM,aNS];grind);refine⟨λm=>?_,λm=>⟨λy=>?_,λy=>?_⟩⟩;rotate_left;have x:mr w q k=U:=(by simp_all);refine fP (K.fr j<|by decide) rfl (by decide) (by decide) (by rw[j.1,R];decide) pU (by simp) (by grind) λa2 Y3 g3 E=>?_;simp only[qz 123,aI,au,ck,cS,aY,↓uL];refine bcW (mk:=λa i=>[a,iv i]) (λ_ _=>rfl) (aL h) (by omega) trivial ?_ (s.trans<|(j.mono<|by decide).trans<|E.mono<|by decide);grind [Bo];all_goals have x:mr w q k=I:=(by first|(rw[z,y];simp)|(rw[z,m];rfl));simp only[qz 123,aI,au,ck,cS,aY,↓uL];refine bcW (mk:=λa i=>[a,iv i]) (λ_ _=>rfl) (aL h) (by omega) trivial ?_ (s.trans<|j.mono<|by decide);rw[yJ x];exact K.fr j<|by decide);have O:k=L w.ac:=(by grind);subst O;rw[M];grind [qV]);simp+contextual only[qz 47,qy 8,qy 10,qy 12,qy 14,u0,u1,H,G,rk,ix,aj,dc,ar,iz,↓uL];refine⟨λZ=>?_,λZ=>⟨λA=>?_,λA=>?_⟩⟩;have n:=aNR Z;refine⟨W n,λm=>?_,λm=>?_⟩;refine fP (bA:=[]) (ds:=[105,40,65]) (new:=[ci<|-1]) Gr.nil rfl (by decide) (by decide) (by omega) (by simp) (by simp) (by decide) λa C B f=>?_;exact u a C [-1] 4 (by simp) (by grind [oM,decide,gd,fR]) (.inl ⟨n,rfl⟩) f B;exact u _ p [] 4 (by simp) (by grind [oM,decide,gd,fR]) (.inl ⟨n,rfl⟩) (Fr.refl _ _) Gr.nil;have g:=aNR A;obtain⟨o1,o2⟩:=T g;refine⟨o1,λ_=>o2,λm=>?_,λm=>?_⟩;refine fP (bA:=[]) (ds:=[105,40,65]) (new:=[ci<|-1]) Gr.nil rfl (by decide) (by decide) (by omega) (by simp) (by simp) (by decide) λa C B f=>?_;exact u a C [-1] 22 (by simp) (by grind [oM,fR]) (.inr ⟨g,rfl⟩) f B;exact u _ p [] 22 (by simp) (by grind [oM,fR]) (.inr ⟨g,rfl⟩) (Fr.refl _ _) Gr.nil;have hr:fR (gd w.ac q.toNat)=I:=(by grind [fR]);have:dx w q=[]:=(by simp[dx,hr]);rw[this];exact⟨rfl,U,rfl⟩
def Fq:FT:=pn Ot
def ayq{w q Lw K}:=f211 Fq Ot w q Lw K
structure jY where
 w:gz
 ss:List aW
 deriving Inhabited,DecidableEq
def jY.c(x:jY):List AV:=x.w.c++[sl aW.c x.ss]
def j9{x y:jY}:(jY.c x=jY.c y)=(x=y):=by apply aPe;constructor;intro h;obtain⟨d,xs⟩:=x;obtain⟨e,ys⟩:=y;have a:d.c=e.c:=(aqH h<|by simp[gz.c]).1;have b:=(aqH h<|by simp[gz.c]).2;simp only[bo0] at a;simp only[kO,aO5,amV] at b;rw[a,b];intro h;rw[h]
def apj:dO:=(145,EV)::(147,zf)::(249,Ft)::(258,bpB)::(206,Gh)::(259,Fq)::api
def rf:eJ apj:=ve (Rs NH)<|ve (aCb Ow)<|ve (Rs Ox)<|ve (aCb PN)<|ve (pg PQ)<|ve (aN0 Ot)<|sf
def rW:=ai @axV<|ai @ayt<|ai @ayu<|ai @azz<|ai @azC<|ai @ayq<|@aQS
def asy:=lA 31 [(5,([5,19],[2,17,18])),(12,([5,32],[2,30,31])),(22,([53],[10,51,52]))]
def aYH a a1 b R:=(.mk _:NR apj asy Tryz.f144 [.u,a1] [a] b R).p
def aJZ{c0:List AV}{a1:AV}{R:j4}(l0:L c0=6)(h:H1 31 6 2 c0 λia b=>aYH ia a1 b R):Ct 144 [.a c0,a1] R:=z1 asy rf Tryz.func144 l0 h
def akI b a c R:=(.mk _:NR apj at1 Tryz.f74 [.u, .u] [b,a] c R).p
def aMP{c0:List AV}{b:List AV}{R:j4}(l0:L c0=6)(l1:L b=7)(h:H2 31 6 2 c0 40 7 3 b λia c d=>akI ia c d R):Ct 74 [.a c0, .a b] R:=z2 at1 rf Tryz.func74 l0 l1 h
def akt b a c R:=(.mk _:NR apj at1 Tryz.f209 [.u, .u] [b,a] c R).p
def aMK{c0:List AV}{b:List AV}{R:j4}(l0:L c0=6)(l1:L b=7)(h:H2 31 6 2 c0 40 7 3 b λia c d=>akt ia c d R):Ct 209 [.a c0, .a b] R:=z2 at1 rf Tryz.func209 l0 l1 h
def atH:=lA 35 [(9,([60],[2,4,5,6,11])),(22,([109],[2,4,5,6,11]))]
def abG b a c d e f R:=(.mk _:NR apj atH Tryz.f250 [.u, .u,c,d,e] [b,a] f R).p
def aK9{c0:List AV}{b:List AV}{c d e:AV}{R:j4}(l0:L c0=6)(l1:L b=4)(h:H2 31 6 5 c0 36 4 6 b λia f g=>abG ia f c d e g R):Ct 250 [.a c0, .a b,c,d,e] R:=z2 atH rf Tryz.func250 l0 l1 h
def avn:=lA 38 [(4,([17],[1,3,15,16])),(17,([6,54],[1,3,15,16,17,52,53])),(30,([89],[3,87,88]))]
def akU a b R:=(.mk _:NR apj avn Tryz.f77 [.u] [a] b R).p
def aMS{c0:List AV}{R:j4}(l0:L c0=15)(h:H1 43 15 1 c0 λia b=>akU ia b R):Ct 77 [.a c0] R:=z1 avn rf Tryz.func77 l0 h
end Go.Ab
