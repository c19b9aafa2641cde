/- Part of the proof of WitnessWalks. -/
import Derived.Test.YthlflpfcfdpedaaGreatDoorB
import Derived.Test.YthlflpfcfdpedaaGreatDoorChecked
import Derived.Lib.LazyBuf
import Derived.Laws.Strings
import Derived.Laws.RangeString
import Derived.Laws.RangeAny
set_option linter.all false
set_option maxRecDepth 100000
open And renaming intro->ai
open Array renaming toList_inj->qb
open Bool renaming and_assoc->BI,and_eq_false_iff->pk,and_eq_true->bN,and_false->qc,false->I,false_and->kM,false_eq_true->eE,not_eq_false'->fK,not_eq_true'->eH,not_false->kN,not_true->fh,or_assoc->yZ,or_eq_false_iff->cP,or_eq_true->fH,true->U,true_and->iw
open ByteArray renaming ext->aqv
open Decidable renaming decide->Q
open Eq renaming mpr->aND
open Go.IntKind renaming i64->dq
open Go.Proofs.Tryz renaming prog->aS
open Go.Value renaming bool.injEq->mV,int.injEq->mW,string.injEq->mX
open Int renaming ofNat_inj->aqD,toNat_natCast->bh,toNat_zero->Gx
open List renaming all_eq_true->dV,any_cons->Cu,any_eq_true->tL,any_nil->Cv,append_inj->aqH,append_nil->cL,cons.injEq->kO,drop->aOz,drop_length->Gz,findIdx?_eq_none_iff->GB,findIdx?_eq_some_iff_getElem->RL,foldl_append->RO,foldl_nil->aRl,getD_cons_zero->RQ,getD_eq_getElem?_getD->eI,getElem?_cons_zero->qh,getElem?_eq_getElem->eC,getElem?_set_ne->oq,getElem_of_mem->ou,length->L,length_cons->bZ,length_filter_le->fZ,length_map->bJ,length_nil->vw,map_append->dg,map_congr_left->ja,map_cons->ji,map_id->zr,map_nil->mU,map_take->bkj,mem_or_eq_of_mem_set->CC,mem_singleton->cE,nil_append->dW,range->aH,replicate->er,set_eq_take_append_cons_drop->GP,take_length->gV,take_succ_eq_append_getElem->iJ,take_zero->CE
open Nat renaming eq_zero_or_pos->oD,le_refl->dA,le_trans->gl,lt_of_le_of_lt->rC,lt_of_lt_of_le->C3,lt_or_ge->jj,reduceAdd->dc,zero_add->aj,zero_le->mh
open Option renaming bind_some->qd,getD_none->sD,getD_some->mi,map->Sb,map_some->df,none->J,some->V
namespace Go.Ab
open Go Go.RowKit Go.Proofs
def aB1:List Nat:=[28,37,38,57,58,75,79,107,108,109,111,151,165,166,167,172,173,176,184,185,188,189,190,213,214,219,221,222,223,228,230,241,242,247,248,249,250,251,252,253,256,257,258,274]
def uQ:List Nat:=[151,188,230,251,256,274]
def nws:List Nat:=[64,131,132,133,182,186,187,204]
def ik:List ByteArray:=[⟨#[118,97,114]⟩,⟨#[118,111,108,97,116,105,108,101]⟩,⟨#[109,117,116,101,120]⟩,⟨#[114,119,108,111,99,107]⟩,⟨#[99,111,110,100]⟩,⟨#[102,117,116,117,114,101]⟩,⟨#[116,104,114,101,97,100]⟩,⟨#[105,102]⟩,⟨#[101,108,115,101]⟩,⟨#[119,104,105,108,101]⟩,⟨#[108,111,99,107]⟩,⟨#[114,101,97,100]⟩,⟨#[119,114,105,116,101]⟩,⟨#[116,114,97,110,115,97,99,116,105,111,110]⟩,⟨#[97,116,111,109,105,99]⟩,⟨#[119,97,105,116]⟩,⟨#[110,111,116,105,102,121]⟩,⟨#[110,111,116,105,102,121,97,108,108]⟩,⟨#[115,112,97,119,110]⟩,⟨#[106,111,105,110]⟩,⟨#[115,101,116]⟩,⟨#[103,101,116]⟩]
abbrev pI:List AV:=ik.map λs=> .s<|.string s
def GG:nn:=⟨λk=>match k with|0=>V pI|_=>J,λf=>aB1.elem f,λf=>uQ.elem f,λf=>nws.elem f,I,λ_=>J⟩
def fps:List (Nat×List Nat):=[(75,[10,14,41]),(107,[14,15,16]),(111,[]),(176,[14,15,16,30]),(241,[12,31])]
def GGV:nn:=⟨GG.glob,GG.imp,GG.rd,GG.nw,U,λf=>fps.lookup f⟩
def aQ9{T:dO}(h:pq aS GG T):pq aS GGV T:=h
def aTc{fn:FuncId}{xs:List AV}{Y:ae}{R:AV->ae->Prop}(h:∃r a,R r a/\cZ aS GGV fn xs Y r a):∃r a,R r a/\cZ aS GG fn xs Y r a:=h
def fnV{fn:FuncId}{xs:List AV}{R:AV->Prop}(h:Fn aS GGV fn xs R):Fn aS GG fn xs R:=h
def ready:tQ aS:=⟨by kernel_rfl,Tryz.co.funcs,by kernel_rfl⟩
abbrev cX(fn:FuncId):FT:=jz aS GG fn
def cB(fn:FuncId)(xs:List AV)(Y:ae)(d:Nat)(K:AV->ae->Prop):Prop:=tR aS GG fn xs Y d K
def cV(fn:FuncId)(xs:List AV)(Y:ae)(d:Nat)(K:AV->ae->Prop):Prop:=tR aS GGV fn xs Y d K
def cN(fn:FuncId)(xs:List AV)(Y:ae)(d:Nat)(K:AV->ae->Prop):Prop:=tS aS GG fn xs Y d K
def cF(f:AV)(xs:List AV)(Y:ae)(d:Nat)(K:AV->ae->Prop):Prop:=rn aS GG f xs Y d K
abbrev Ct(fn:Nat)(xs:List AV)(R:AV->Prop):Prop:=Fn aS GG fn xs R
abbrev eJ(T:dO):Prop:=pq aS GG T
def nX{fn:Nat}{ys:List AV}{R K:AV->Prop}(h:Ct fn ys R)(d:ys.all iX=U)(e:∀r,R r->K r):jz aS GG fn ys K:=by obtain⟨r,a,b,c⟩:=h;exact⟨r,c,d,b,e r a⟩
def it{fn:Nat}{F:FT}{T:dO}(b:∀ys K,F ys K->jz aS GG fn ys K)(c:eJ T):eJ ((fn,F)::T):=by intro p a;rcases List.mem_cons.1 a with rfl|a;exact b;exact c p a
def wO:pq aS GG []:=λp h=>by cases h
def nU(f:Func):Code:=match f.body with|some (.seq _<|.seq _ t)=>t|_=> .skip
abbrev xE(a:AV):List AV:=[a, .u, .l [] U U,a, .s<|.bool I, .u, .u, .u]
def DX{fn:FuncId}{f:Func}{xa xb g:Code}{an:List (Option<|List Nat×List Nat)}(B:aS.funcs[fn]?=V f)(p:f.body=V (.seq xa<|.seq xb g))(hn:(f.name== "runtime.NumGoroutine")=I)(K:∀n c w (R:Ending->World->Prop),R (.returned<|.slice J 0 0) w->Calls aS fn #[.slice J n c] w R)(y:∀A n c w (R:Ending->World->Prop),(nU f).wp aS (bodyPost aS f R) {tmps:=#[.slice (V A) n c,undef, .slice J 0 0, .slice (V A) n c, .bool I,undef,undef,undef],defers:=[]} w->Calls aS fn #[.slice (V A) n c] w R)(X:(gG<|nU f).all (λk=>Nat.blt k 8)=U)(H:oG an (nU f) 0=U){aa:List (List AV)}{R:AV->ae->Prop}(F:iV aS GG [] an (nU f) 0 (tO aS f R) (gt<|xE<|.l aa I I) eK)(S:∀r j,R r j->aa=[]->r= .l [] U U/\j=eK):∃r j,R r j/\cZ aS GG fn [.l aa I I] eK r j:=by have M:nU f=g:=(by rw[nU,p]);simp only[M] at y X H F;have N:qf aS g:=(ready.code B p).1.2.2;have hg:oI g=U:=(by have:=(ready.code B p).2;grind [oI]);have G:=Kj (T:=[]) wO g 0 _ (by simp_all) H F;obtain⟨e,τ',Y',b,a⟩:=Kf g G;obtain⟨_,_,_,q⟩:=b;have:∃r,wG aS f τ' Y'=V r/\R r Y'/\(e= .normal\/e= .ret):=(by(cases e<;>simp only[tO] at q<;>first|exact q.elim|skip);obtain⟨vs,o,h⟩:=Ep _ _ q;exact⟨_,QU o,h, .inl rfl⟩;obtain⟨vs,o,h⟩:=Ep _ _ q;exact⟨_,QU o,h, .inr rfl⟩);obtain⟨r,o,h,k4⟩:=this;refine⟨r,Y',h,⟨f,_,B,p,hn⟩,λκ w β D O W P=>?_⟩;obtain⟨v,rfl⟩:∃v,D=[v]:=List.length_eq_one_iff.1 P.1;have C:=P.2 0 v _ rfl rfl;have z:∀A n c,v= .slice (V A) n c->Calls aS fn #[v] w λe t=>∃v d,e= .returned v/\ba κ t Y' d v r/\cv aS κ t Y' d/\dw w eK β t Y' d:=(by rintro A n c rfl;refine y A n c w _ ?_;have E:jG aS GG κ {tmps:=#[.slice (V A) n c,undef, .slice J 0 0, .slice (V A) n c, .bool I,undef,undef,undef],defers:=[]} w (xE<|.l aa I I) eK β:=(by refine⟨rfl,⟨rfl,λi v x b a=>?_⟩,O,W⟩;have ad:ba κ w eK β (.slice J 0 0) (.l [] U U):= .l0 λ_=>rfl;match i,b,a with|0,b,a=>grind|1,b,a=>(cases a;exact .u)|2,b,a=>grind|3,b,a=>grind|4,b,a=>(cases b;cases a;exact .s rfl)|5,b,a=>(cases a;exact .u)|6,b,a=>(cases a;exact .u)|7,b,a=>(cases a;exact .u)|i+8,b,a=>cases a);refine wp_mono (Kg ready.mixed g N hg _ E a) ?_;rintro e' a' t ⟨_,_,d,⟨rfl,rfl,rfl⟩,m,Z⟩;obtain⟨v,q1,q2⟩:=aoi m o;rcases k4 with rfl|rfl<;>exact⟨m.defers,v,q1,v,d,rfl,q2,m.sim,Z⟩);show Calls aS fn #[v] w _;cases C with|@l0 A c _ _ ht=>(cases A with|none=>obtain⟨rfl,rfl⟩:=S _ _ h rfl;refine K 0 c w _ ⟨_,β,rfl, .l0 λ_=>rfl,O,dw.refl _ _ _⟩|some A=>grind)|l1=>grind

abbrev eQ:=List AV
abbrev o8:=AV->Prop
abbrev fD:=List AV->Nat
abbrev cG:=List AV->Prop
abbrev be:=AV->ae->Prop
abbrev bu:=List AV->ae->Nat
abbrev aG:=List AV->ae->Prop
def bi(n:Nat)(l:List<|Nat×(List Nat×List Nat)):List (Option<|List Nat×List Nat):=(aH n).map λi=>l.lookup i
section congr
@[congr] theorem aNy{o o':Option AV}{K:AV->Prop}(h:o=o'):rV o K=rV o' K:=by rw[h]
@[congr] theorem aNo{o o':Option (AV×ae)}{K:AV->ae->Prop}(h:o=o'):eV o K=eV o' K:=by rw[h]
@[congr] theorem aNz{o o':Option ae}{K:ae->Prop}(h:o=o'):sV o K=sV o' K:=by rw[h]
@[congr] theorem aNv{c a:AV}{A B:Prop}(h:c=a):ah c A B=ah a A B:=by rw[h]
@[congr] theorem aNu{w a:Option Bool}{A:(AV->Prop)->Prop}{K:AV->Prop}(h:w=a):gR w A K=gR a A K:=by rw[h]
@[congr] theorem aNs{w a:Option Bool}{A:(AV->ae->Prop)->Prop}{Y:ae}{K:AV->ae->Prop}(h:w=a):gE w A Y K=gE a A Y K:=by rw[h]
def gB(b:Bool)(A:(AV->Prop)->Prop)(K:AV->Prop):Prop:=bif b then A K else K<|.t []
def gF(b:Bool)(A:(AV->ae->Prop)->Prop)(Y:ae)(K:AV->ae->Prop):Prop:=bif b then A K else K (.t []) Y
@[congr] theorem aNr{b c:Bool}{A a:(AV->Prop)->Prop}{K:AV->Prop}(h:b=c)(d:c=U->∀k,A k=a k):gB b A K=gB c a K:=by subst h;cases b with|true=>show A K=a K;exact d rfl K|false=>rfl
@[congr] theorem aNt{b c:Bool}{A a:(AV->ae->Prop)->Prop}{Y:ae}{K:AV->ae->Prop}(h:b=c)(d:c=U->∀k,A k=a k):gF b A Y K=gF c a Y K:=by subst h;cases b with|true=>show A K=a K;exact d rfl K|false=>rfl
@[congr] theorem aNp{F:FT}{xs a:List AV}{Y:ae}{K:AV->Prop}(h:xs=a):fV F Y xs K=fV F Y a K:=by rw[h]
@[congr] theorem aNq{F:FT}{ys a:List AV}{b K:AV->Prop}(h:ys=a):fW F ys b K=fW F a b K:=by rw[h]
@[congr] theorem aNw{v v':List AV}{B:(List AV->Prop)->(List AV->Nat)->List AV->Prop}(h:v=v'):lR v B=lR v' B:=by rw[h]
@[congr] theorem aNx{v v':List AV}{Y:ae}{B:(List AV->ae->Prop)->(List AV->ae->Nat)->List AV->ae->Prop}(h:v=v'):lV v Y B=lV v' Y B:=by rw[h]
end congr
def gv(b:Bool)(v:AV):AV:=bif b then v else .t []
def gd{α:Type}[Inhabited α](l:List α)(k:Nat):α:=l.getD k default
def aF(n:Nat)(i:Int):Prop:=0<=i/\i<n
def sl{α:Type}(f:α->List AV)(l:List α):AV:= .l (l.map f) I I
abbrev ci(n:Int):List AV:=[iv n]
abbrev cb(b:Bool):List AV:=[bv b]
abbrev st(s:ByteArray):AV:= .s<|.string s
abbrev cs(s:ByteArray):List AV:=[st s]
section rules
variable{K:AV->Prop}{Y:ae}
theorem aY{v:AV}:rV (V v) K=K v:=rfl
def bQ{v:AV}{Y:ae}{K:AV->ae->Prop}:eV (V (v,Y)) K=K v Y:=rfl
def aoq{Y:ae}{K:ae->Prop}:sV (V Y) K=K Y:=rfl
theorem iS{b:Bool}{A B:Prop}:ah (bv b) A B=((b=U->A)/\(b=I->B)):=by grind [ah]
def iC{A B:Prop}:ah (bv U) A B=A:=by simp[ah]
def iB{A B:Prop}:ah (bv I) A B=B:=by simp[ah]
theorem sw{b c:Bool}{a:List AV->Prop}:ah (bv b) (a [bv b]) (a [bv c])=a [bv<|b||c]:=by grind [ah]
def aM2{b:Bool}:gP U (bv b)=V b:=by cases b<;>rfl
def aMZ{b:Bool}:gP I (bv b)=V (!b):=by cases b<;>rfl
def aM3{w:Bool}:gP w (.t [])=V I:=rfl
def aM1{b c:Bool}:gP U (gv b<|bv c)=V (b&&c):=by cases b<;>cases c<;>rfl
def aM0{b c:Bool}:gP I (gv b<|bv c)=V (b&&!c):=by cases b<;>cases c<;>rfl
def aBA{b:Bool}{A:(AV->Prop)->Prop}:gR (V b) A K=gB b A K:=by cases b<;>rfl
def aBy{b:Bool}{A:(AV->ae->Prop)->Prop}{K:AV->ae->Prop}:gE (V b) A Y K=gF b A Y K:=by cases b<;>rfl
def aBv{b c:Bool}{A:(AV->Prop)->Prop}:gB (b&&c) A K=gB b (λk=>gB c A k) K:=by cases b<;>cases c<;>rfl
def aBw{b:Bool}{v:AV}:gB b (λk=>k v) K=K (gv b v):=by cases b<;>rfl
theorem aBx{b:Bool}{S:Prop}{v:AV}:gB b (λk=>S/\k v) K=((b=U->S)/\K (gv b v)):=by grind [gB,gv]
def jA{A:(AV->Prop)->Prop}:gB U A K=A K:=rfl
def jN{A:(AV->Prop)->Prop}:gB I A K=K (.t []):=rfl
def aBL{b c:Bool}{v:AV}:gv b (gv c v)=gv (b&&c) v:=by cases b<;>rfl
def qE{v:AV}:gv U v=v:=rfl
def xM{v:AV}:gv I v= .t []:=rfl
def aE3{c a b:Bool}:mL (bv c) (bv a) (bv b)=V (bv<|bif c then a else b):=by cases c<;>rfl
def uO{c:Bool}{a b:AV}:mL (bv c) a b=V (bif c then a else b):=by cases c<;>rfl
def aE2{c a b:Bool}:mL (bv c) (gv c<|bv a) (bv b)=V (bv<|bif c then a else b):=by cases c<;>rfl
def aE4{c a b:Bool}:mL (bv c) (bv a) (gv (!c)<|bv b)=V (bv<|bif c then a else b):=by cases c<;>rfl
def awq{c a:Bool}:(bif c then a else I)=(c&&a):=by simp
def awr{c a:Bool}:(bif c then U else a)=(c||a):=by simp
def av4{a b:Int}:wl .lss 0 [] (iv a) (iv b)=V (bv<|Q<|a<b):=rfl
def av2{a b:Int}:wl .leq 0 [] (iv a) (iv b)=V (bv<|Q<|a<=b):=rfl
def av1{a b:Int}:wl .gtr 0 [] (iv a) (iv b)=V (bv<|Q<|b<a):=rfl
def avY{a b:Int}:wl .geq 0 [] (iv a) (iv b)=V (bv<|Q<|b<=a):=rfl
def iM{a b:Int}:wl .eql 0 [] (iv a) (iv b)=V (bv<|Q<|a=b):=rfl
def av6{a b:Int}:wl .neq 0 [] (iv a) (iv b)=V (bv<|Q<|a≠b):=by show V (bv<|a !=b)=_;congr 3;by_cases h:a=b<;>simp[h]
def cS{a b:Int}:wl .add 0 [] (iv a) (iv b)=V (iv<|dq.wrap<|a+b):=rfl
def alr{a b:Int}:wl .sub 0 [] (iv a) (iv b)=V (iv<|dq.wrap<|a-b):=rfl
def av5{a b:Int}:wl .mul 0 [] (iv a) (iv b)=V (iv<|dq.wrap<|a*b):=rfl
def avU{a b:Bool}:wl .eql 1 [] (bv a) (bv b)=V (bv<|a==b):=rfl
def avV{a b:Bool}:wl .neq 1 [] (bv a) (bv b)=V (bv<|!(a==b)):=rfl
def alq{a b:ByteArray}:wl .eql 0 [] (st a) (st b)=V (bv<|Q<|a=b):=by show V (bv<|a.toList==b.toList)=_;congr 3;by_cases h:a=b;subst h;simp;have:a.toList≠b.toList:=λe=>h (aqv<|by rw[ByteArray.toList_eq,ByteArray.toList_eq,qb] at e;exact e);simp[h,this]
def aIN{b:Bool}:cR .not (bv b)=V (bv<|!b):=rfl
def aS6{n:Int}{k:IntKind}:sO (V .i64) (.s<|.int k n)=V (iv<|dq.wrap n):=rfl
def aXT{a b:Int}:AO .min (iv a) (iv b)=V (iv<|if b<a then b else a):=rfl
def aRW{a b:Int}:AO .max (iv a) (iv b)=V (iv<|if b>a then b else a):=rfl
def bdM{aa:List (List AV)}{t o:Bool}:fS Y (.l aa t o)=V (iv<|L aa):=rfl
def cT{α:Type}{f:α->List AV}{l:List α}:fS Y (sl f l)=V (iv<|L l):=by simp[fS,sl]
theorem aBz{α:Type}[Inhabited α]{f:α->List AV}{l:List α}{z:Nat}{i:Int}(a:∀x,L (f x)=z):rV (cz z Y (sl f l)<|iv i) K=(aF (L l) i/\K (.q<|f<|gd l i.toNat)):=by grind [aF,cz,sl,rV,gd]
def qM{c:AV}{cs:List AV}:lS J Y (.q (c::cs))=V c:=rfl
def azQ{cs:List AV}{n:Nat}:iQ n Y (.q cs)=V (.q<|cs.drop n):=rfl
def jM{F:FT}{xs:List AV}{K:AV->Prop}:fV F Y xs K=fW F (xs.map<|dG Y) (lo Y xs) K:=rfl
def jt:([]:List AV).map (dG Y)=[]:=rfl
def kU{x:AV}{xs:List AV}:(x::xs).map (dG Y)=dG Y x::xs.map (dG Y):=rfl
def tW{v:Value}:dG Y (.s v)= .s v:=rfl
def alg{α:Type}{f:α->List AV}{l:List α}:dG Y (sl f l)=sl f l:=rfl
def CV{α:Type}{f:α->List AV}{l:List α}{t o:Bool}:dG Y (.l (l.map f) t o)=sl f l:=rfl
def AL{xs:List AV}{v:Value}:lo Y xs (.s v)=True:=by simp[lo,uN,yv,wD]
def Ql{xs:List AV}{l:List Int}{t:Bool}:lo Y xs (.l (l.map ci) t U)=True:=by simp[lo,uN,yv,wD,gY]
def QQ{aa:List (List AV)}{o:Bool}{Q:AV->Prop}:(∀r,(∃t,r=AV.l aa t o)->Q r)=∀t,Q (.l aa t o):=by simp
def gT{α:Type}{f:α->List AV}{l:List α}{t o:Bool}:fS Y (.l (l.map f) t o)=V (iv<|L l):=by simp[fS]
def uR{R:AV->Prop}{b:Bool}:aE R Y [bv b]=R (bv b):=by simp[aE,jS,iZ,dQ,kG,pF,nj]
def aFi{R:AV->Prop}{n:Int}:aE R Y [iv n]=R (iv n):=by simp[aE,jS,iZ,dQ,kG,pF,nj]
def aI{p:Prop}:(∀_:Rg,p)=p:=by simp
end rules
section
def u0:=ai @aY<|ai @bQ<|ai @iS<|ai @aM2<|ai @aMZ<|ai @aM3<|ai @aM1<|ai @aM0<|ai @aBA<|ai @aBy<|ai @aBv<|ai @aBw<|ai @aBx<|ai @aBL<|ai @qE<|ai @xM<|ai @aE2<|ai @aE4<|ai @aE3<|ai @awq<|ai @awr<|ai @kN<|ai @fh<|ai @Bool.and_true<|ai @iw<|@BI
end
def aB(i:Nat)(s:ae)(p:AV)(k:AV->Prop):Prop:=rV (iQ i s p) k
def aM(s:ae)(t:AV)(k:AV->Prop):Prop:=rV (lS J s t) k
def aw(i:Nat)(s:ae)(t:AV)(k:AV->Prop):Prop:=rV (lS (V i) s t) k
def aO(o:BinOp)(a b:AV)(k:AV->Prop):Prop:=rV (wl o 0 [] a b) k
def bf(a b:AV)(k:AV->Prop):Prop:=rV (wl .eql 0 [] a b) k
def aU(a b:AV)(k:AV->Prop):Prop:=rV (wl .lss 0 [] a b) k
def aV(a b:AV)(k:AV->Prop):Prop:=rV (wl .add 0 [] a b) k
def ao(z:Nat)(s:ae)(a i:AV)(k:AV->Prop):Prop:=rV (cz z s a i) k
def aJ(s:ae)(a:AV)(k:AV->Prop):Prop:=rV (fS s a) k
def aD(c a b:AV)(k:AV->Prop):Prop:=rV (mL c a b) k
def cf(a:AV)(k:AV->Prop):Prop:=rV (cR .not a) k
def fm(t e:AV)(k:AV->Prop):Prop:=gR (gP U t) (λg=>g e) k
def bX(t e:AV)(k:AV->Prop):Prop:=gR (gP I t) (λg=>g e) k
def az(t:AV)(f:(AV->Prop)->Prop)(k:AV->Prop):Prop:=gR (gP U t) (λg=>f λv=>g v) k
def aC(t:AV)(f:(AV->Prop)->Prop)(k:AV->Prop):Prop:=gR (gP I t) (λg=>f λv=>g v) k
def ab(i:Nat)(s:ae)(p:AV)(k:AV->Prop):Prop:=rV (iQ i s p) λt=>rV (lS J s t) k
def aT(d:AV)(i:Nat)(s:ae)(p:AV)(k:AV->Prop):Prop:=gR (gP U d) (λg=>rV (iQ i s p) λt=>g t) λt=>gR (gP U d) (λg=>rV (lS J s t) λv=>g v) k
def bn(d:AV)(i:Nat)(s:ae)(p:AV)(k:AV->Prop):Prop:=gR (gP I d) (λg=>rV (iQ i s p) λt=>g t) λt=>gR (gP I d) (λg=>rV (lS J s t) λv=>g v) k
def a8b{i:Nat}{s:ae}{p:AV}{k:AV->Prop}:aB i s p k=(rV (iQ i s p) k):=rfl
def arq{s:ae}{t:AV}{k:AV->Prop}:aM s t k=(rV (lS J s t) k):=rfl
def art{i:Nat}{s:ae}{t:AV}{k:AV->Prop}:aw i s t k=(rV (lS (V i) s t) k):=rfl
def ark{o:BinOp}{a b:AV}{k:AV->Prop}:aO o a b k=(rV (wl o 0 [] a b) k):=rfl
def ari{a b:AV}{k:AV->Prop}:bf a b k=(rV (wl .eql 0 [] a b) k):=rfl
def arj{a b:AV}{k:AV->Prop}:aU a b k=(rV (wl .lss 0 [] a b) k):=rfl
def arh{a b:AV}{k:AV->Prop}:aV a b k=(rV (wl .add 0 [] a b) k):=rfl
def arp{z:Nat}{s:ae}{a i:AV}{k:AV->Prop}:ao z s a i k=(rV (cz z s a i) k):=rfl
def ars{s:ae}{a:AV}{k:AV->Prop}:aJ s a k=(rV (fS s a) k):=rfl
def arx{c a b:AV}{k:AV->Prop}:aD c a b k=(rV (mL c a b) k):=rfl
def ary{a:AV}{k:AV->Prop}:cf a k=(rV (cR .not a) k):=rfl
def bnK{t e:AV}{k:AV->Prop}:fm t e k=(gR (gP U t) (λg=>g e) k):=rfl
def arl{t e:AV}{k:AV->Prop}:bX t e k=(gR (gP I t) (λg=>g e) k):=rfl
def arw{t:AV}{f:(AV->Prop)->Prop}{k:AV->Prop}:az t f k=(gR (gP U t) (λg=>f λv=>g v) k):=rfl
def a8c{t:AV}{f:(AV->Prop)->Prop}{k:AV->Prop}:aC t f k=(gR (gP I t) (λg=>f λv=>g v) k):=rfl
def aro{i:Nat}{s:ae}{p:AV}{k:AV->Prop}:ab i s p k=(rV (iQ i s p) λt=>rV (lS J s t) k):=rfl
def aru{d:AV}{i:Nat}{s:ae}{p:AV}{k:AV->Prop}:aT d i s p k=(gR (gP U d) (λg=>rV (iQ i s p) λt=>g t) λt=>gR (gP U d) (λg=>rV (lS J s t) λv=>g v) k):=rfl
def arr{d:AV}{i:Nat}{s:ae}{p:AV}{k:AV->Prop}:bn d i s p k=(gR (gP I d) (λg=>rV (iQ i s p) λt=>g t) λt=>gR (gP I d) (λg=>rV (lS J s t) λv=>g v) k):=rfl
def km:fY:=lb U [] []
def bo(x:AV):fY:=lb U [x] []
@[simp] theorem aDs:km=lb U [] []:=rfl
@[simp] theorem aDl{x:AV}:bo x=lb U [x] []:=rfl
def uL:=ai @a8b<|ai @arq<|ai @art<|ai @ark<|ai @ari<|ai @arj<|ai @arh<|ai @arp<|ai @ars<|ai @arx<|ai @ary<|ai @bnK<|ai @arl<|ai @arw<|ai @a8c<|ai @aro<|ai @aru<|ai @arr<|ai @aDs<|@aDl
def f8{n:Nat}{B:List AV->Prop}{A:(List AV->Prop)->Prop}:jR n B A=A B:=rfl
def di{n:Nat}{B:List AV->ae->Prop}{A:(List AV->ae->Prop)->Prop}:jV n B A=A B:=rfl
def cI(n:Nat)(Inv:Nat->Prop):List AV->Prop:=λvs=>∃k:Nat,vs=[iv k]/\k<=n/\Inv k
def cM(n:Nat):List AV->Nat:=λvs=>match vs with|[.s (.int _ i)]=>n-i.toNat|_=>0
def C7{B:(List AV->Prop)->(List AV->Nat)->List AV->Prop}(n:Nat)(Inv:Nat->Prop)(a:Inv 0)(h:∀k:Nat,k<=n->Inv k->B (cI n Inv) (cM n) [iv k]):lR [iv 0] B:=⟨cI n Inv,cM n,⟨0,rfl,mh _,a⟩,by rintro vs ⟨k,rfl,c,b⟩;grind⟩
theorem eM{x:Int}(a: -9223372036854775808<=x)(b:x<9223372036854775808):dq.wrap x=x:=by rw[IntKind.wrap_i64];omega
theorem gS{n k:Nat}{Inv:Nat->Prop}(a:k<n)(b:n<4611686018427387904)(h:Inv<|k+1):cI n Inv [iv<|dq.wrap<|(k:Int)+1]/\cM n [iv<|dq.wrap<|(k:Int)+1]<cM n [iv k]:=by rw[eM (by omega)<|by omega];refine⟨⟨k+1,rfl,a,h⟩,?_⟩;show n-((k:Int)+1).toNat<n-((k:Int)).toNat;omega
theorem au{a:AV}{l:List AV}:gt (a::l) 0=a:=rfl
theorem fE{a:AV}{l:List AV}{n:Nat}:gt (a::l) (n+1)=gt l n:=rfl
def tI{S:Type}(enc:S->List AV)(Inv:S->Prop):List AV->Prop:=λvs=>∃s,vs=enc s/\Inv s
def pM(p n:Nat):List AV->Nat:=λvs=>match gt vs p with| .s (.int _ i)=>n-i.toNat|_=>0
def yh{S:Type}(enc:S->List AV)(p n:Nat)(Inv:S->Prop)(s0:S){B:(List AV->Prop)->(List AV->Nat)->List AV->Prop}(a:Inv s0)(h:∀s,Inv s->B (tI enc Inv) (pM p n) (enc s)):lR (enc s0) B:=⟨tI enc Inv,pM p n,⟨s0,rfl,a⟩,by rintro vs ⟨s,rfl,b⟩;exact h s b⟩
def wN{S:Type}{enc:S->List AV}{p n:Nat}{Inv:S->Prop}{s s':S}{i:Nat}{vs:List AV}(a:vs=enc s')(c:gt (enc s) p=iv i)(b:gt (enc s') p=iv ((i+1:Nat):Int))(d:i<n)(hI:Inv s'):tI enc Inv vs/\pM p n vs<pM p n (enc s):=by subst a;refine⟨⟨s',rfl,hI⟩,?_⟩;grind [pM,bh]
theorem fX{k:Nat}(h:k<4611686018427387904):dq.wrap ((k:Int)+1)=((k+1:Nat):Int):=by grind [eM]
abbrev C2:List (Nat×Nat):=[(0,1),(1,1)]
abbrev O7:List (Nat×Nat):=[(0,1),(1,1),(2,1),(3,1),(4,1),(5,1)]
abbrev alz:List (Nat×Nat):=[(0,1),(1,1),(2,1),(3,1)]
abbrev anY:List (Nat×Nat):=[(0,1),(1,1),(2,1),(3,1),(4,1),(5,4),(9,1),(10,1)]
abbrev aon:List (Nat×Nat):=[(0,4),(4,1),(5,1),(6,1)]
abbrev aM7:List (Nat×Nat):=[(0,4),(4,1),(5,1),(6,1),(7,1),(8,1)]
abbrev aOs:List (Nat×Nat):=[(0,1),(1,1),(2,1),(3,1),(4,1),(5,1),(6,1)]
abbrev aOG:List (Nat×Nat):=[(0,1),(1,1),(2,1),(3,1),(4,1)]
abbrev aP0:List (Nat×Nat):=[(0,1),(1,1),(2,1)]
abbrev aQ4:List (Nat×Nat):=[(0,6),(6,1)]
abbrev a6U:List (Nat×Nat):=[(0,6),(6,1),(7,7),(14,1)]
abbrev bnh:List (Nat×Nat):=[(0,1),(1,1),(2,1),(3,1),(4,1),(5,1),(6,1),(7,1)]
structure cA where
 name:ByteArray
 index:Int
 size:Int
 vol:Bool
 init:Int
 deriving Inhabited,DecidableEq
structure dS where
 name:ByteArray
 rw:Bool
 deriving Inhabited,DecidableEq
structure yp where
 name:ByteArray
 eg:Int
 deriving Inhabited,DecidableEq
structure dL where
 aq:Int
 stmt:Int
 line:Int
 deriving Inhabited,DecidableEq
structure br where
 cells:List cA
 ak:List dS
 bC:List yp
 bU:List ByteArray
 ay:List ByteArray
 dU:List dL
 deriving Inhabited,DecidableEq
structure cg where
 pw:Int
 bk:List Int
 deriving Inhabited,DecidableEq
structure kw where
 cQ:Int
 cond:Int
 atomic:Bool
 deriving Inhabited,DecidableEq
structure aW where
 ak:List cg
 tx:Int
 done:List Bool
 ay:List kw
 deriving Inhabited,DecidableEq
structure mn where
 bm:aW
 cells:List Int
 bU:List Int
 count:List Int
 deriving Inhabited,DecidableEq
structure aP where
 aq:Int
 kind:Int
 nt:Int
 value:Int
 site:Int
 dI:List Int
 ep:List Int
 deriving Inhabited,DecidableEq
structure am where
 aQ:br
 start:Int
 init:mn
 ac:List aP
 deriving Inhabited,DecidableEq
structure cJ where
 kind:Int
 ea:Int
 eb:Int
 ec:Int
 ed:Int
 cW:List Int
 deriving Inhabited,DecidableEq
structure aH8 where
 kind:Int
 a:Int
 b:Int
 deriving Inhabited,DecidableEq
structure dr where
 x:Int
 y:Int
 k:Int
 deriving Inhabited,DecidableEq
structure ff where
 ints:Int
 bools:Int
 lL:List dr
 ug:List (List Int)
 deriving Inhabited,DecidableEq
def cA.c(x:cA):List AV:=[st x.name,iv x.index,iv x.size,bv x.vol,iv x.init]
def dS.c(x:dS):List AV:=[st x.name,bv x.rw]
def yp.c(x:yp):List AV:=[st x.name,iv x.eg]
def dL.c(x:dL):List AV:=[iv x.aq,iv x.stmt,iv x.line]
def br.c(x:br):List AV:=[sl cA.c x.cells,sl dS.c x.ak,sl yp.c x.bC,sl cs x.bU,sl cs x.ay,sl dL.c x.dU]
def cg.c(x:cg):List AV:=[iv x.pw,sl ci x.bk]
def kw.c(x:kw):List AV:=[iv x.cQ,iv x.cond,bv x.atomic]
def aW.c(x:aW):List AV:=[sl cg.c x.ak,iv x.tx,sl cb x.done,sl kw.c x.ay]
def mn.c(x:mn):List AV:=[sl cg.c x.bm.ak,iv x.bm.tx,sl cb x.bm.done,sl kw.c x.bm.ay,sl ci x.cells,sl ci x.bU,sl ci x.count]
def aP.c(x:aP):List AV:=[iv x.aq,iv x.kind,iv x.nt,iv x.value,iv x.site,sl ci x.dI,sl ci x.ep]
def am.c(x:am):List AV:=[sl cA.c x.aQ.cells,sl dS.c x.aQ.ak,sl yp.c x.aQ.bC,sl cs x.aQ.bU,sl cs x.aQ.ay,sl dL.c x.aQ.dU,iv x.start,sl cg.c x.init.bm.ak,iv x.init.bm.tx,sl cb x.init.bm.done,sl kw.c x.init.bm.ay,sl ci x.init.cells,sl ci x.init.bU,sl ci x.init.count,sl aP.c x.ac]
def cJ.c(x:cJ):List AV:=[iv x.kind,iv x.ea,iv x.eb,iv x.ec,iv x.ed,sl ci x.cW]
def aH8.c(x:aH8):List AV:=[iv x.kind,iv x.a,iv x.b]
def dr.c(x:dr):List AV:=[iv x.x,iv x.y,iv x.k]
def cl(x:List Int):List AV:=[sl ci x]
def ff.c(x:ff):List AV:=[iv x.ints,iv x.bools,sl dr.c x.lL,sl cl x.ug]
section
variable{K:o8}{Y:ae}{i:Int}
def amX{l:List Int}:rV (cz 1 Y (sl ci l)<|iv i) K=(aF (L l) i/\K (.q<|ci<|gd l i.toNat)):=aBz λ_=>rfl
def aCc{l:List Bool}:rV (cz 1 Y (sl cb l)<|iv i) K=(aF (L l) i/\K (.q<|cb<|gd l i.toNat)):=aBz λ_=>rfl
def amY{l:List ByteArray}:rV (cz 1 Y (sl cs l)<|iv i) K=(aF (L l) i/\K (.q<|cs<|gd l i.toNat)):=aBz λ_=>rfl
def aCd{l:List cA}:rV (cz 5 Y (sl cA.c l)<|iv i) K=(aF (L l) i/\K (.q<|cA.c<|gd l i.toNat)):=aBz λ_=>rfl
def aCk{l:List dS}:rV (cz 2 Y (sl dS.c l)<|iv i) K=(aF (L l) i/\K (.q<|dS.c<|gd l i.toNat)):=aBz λ_=>rfl
def aCf{l:List yp}:rV (cz 2 Y (sl yp.c l)<|iv i) K=(aF (L l) i/\K (.q<|yp.c<|gd l i.toNat)):=aBz λ_=>rfl
def aCl{l:List dL}:rV (cz 3 Y (sl dL.c l)<|iv i) K=(aF (L l) i/\K (.q<|dL.c<|gd l i.toNat)):=aBz λ_=>rfl
def am0{l:List cg}:rV (cz 2 Y (sl cg.c l)<|iv i) K=(aF (L l) i/\K (.q<|cg.c<|gd l i.toNat)):=aBz λ_=>rfl
def am2{l:List kw}:rV (cz 3 Y (sl kw.c l)<|iv i) K=(aF (L l) i/\K (.q<|kw.c<|gd l i.toNat)):=aBz λ_=>rfl
def aCh{l:List aP}:rV (cz 7 Y (sl aP.c l)<|iv i) K=(aF (L l) i/\K (.q<|aP.c<|gd l i.toNat)):=aBz λ_=>rfl
def aCi{l:List cJ}:rV (cz 6 Y (sl cJ.c l)<|iv i) K=(aF (L l) i/\K (.q<|cJ.c<|gd l i.toNat)):=aBz λ_=>rfl
def aCm{l:List aH8}:rV (cz 3 Y (sl aH8.c l)<|iv i) K=(aF (L l) i/\K (.q<|aH8.c<|gd l i.toNat)):=aBz λ_=>rfl
end
def awN{x:cA}:cA.c x=[st x.name,iv x.index,iv x.size,bv x.vol,iv x.init]:=rfl
def cc:=@awN
def ix:=ai @amX<|ai @aCc<|ai @amY<|ai @aCd<|ai @aCk<|ai @aCf<|ai @aCl<|ai @am0<|ai @am2<|ai @aCh<|ai @aCi<|@aCm
section
variable{K:o8}{KE:be}{Y:ae}{d k v:Nat}{x:bY}{e:TypeId}{z:Nat}{cs zs:List AV}
def D3:L (put Y d x)=L Y:=by simp[put]
def uC{b:Id}:L (wr Y b x)=L Y:=by simp[wr]
theorem yk(h:k≠d):aZ (put Y d x) k=aZ Y k:=by grind [aZ,put,oq]
theorem wy{b:Id}(h:k≠b.1):aZ (wr Y b x) k=aZ Y k:=by grind [aZ,wr,oq]
theorem zQ(h:d<L Y)(a:(aZ Y d).lB+1=v):box (put Y d x) (d,v)=V x:=by rw[<-a];exact iy h
theorem aC5{b:Id}{i j:Nat}{q:Option Nat}:lS q Y (.p b i j)=((box Y b).bind λx=>(x.aa[i]?).map (·.drop j)).bind (aN q):=rfl
theorem rR{b:Id}{i j n:Nat}:iQ n Y (.p b i j)=(box Y b).map λ_=> .p b i (j+n):=rfl
end
def aD0{x:bY}{f:bY->AV}:(V x).map f=V (f x):=rfl
def aww{x:bY}{f:bY->Option (List AV)}:(V x).bind f=f x:=rfl
def awx{l:List AV}{f:List AV->Option AV}:(V l).bind f=f l:=rfl
def aD1{l:List AV}{f:List AV->List AV}:(V l).map f=V (f l):=rfl
def aBE{a:AV}{l:List AV}:(a::l)[0]?=V a:=rfl
def aBF{r:List AV}{l:List (List AV)}:(r::l)[0]?=V r:=rfl
def axE{l:List AV}:l.drop 0=l:=rfl
theorem dJ{n k:Nat}(h:k<n):aF n (k:Int):=⟨by omega,by omega⟩
theorem aL{k n:Nat}(h:Q ((k:Int)<(n:Int))=U):k<n:=by simpa using h
theorem bw{k n:Nat}(h:Q ((k:Int)<(n:Int))=I):n<=k:=by simpa using h
theorem bT{α:Type}[Inhabited α]{l:List α}{k:Nat}(h:k<L l):gd l k=l[k]:=by simp[gd,h]
def px{α:Type}[Inhabited α]{l:List α}{p:α->Prop}:(∀j,j<L l->p (gd l j))↔∀x∈l,p x:=by grind [ou,bT,List.getElem_mem]
def a6p{p:Nat->Prop}{k:Nat}(h:∀j,j<k->p j)(a:p k):∀j,j<k+1->p j:=(by grind)
theorem dB{α:Type}[Inhabited α]{l:List α}{k:Nat}(h:k<L l):gd l k∈l:=by grind [bT]
def u1:=ai @av4<|ai @av2<|ai @av1<|ai @avY<|ai @iM<|ai @av6<|ai @cS<|ai @alr<|ai @av5<|ai @avU<|ai @avV<|ai @alq<|ai @aIN<|ai @cT<|ai @azQ<|ai @aC5<|ai @rR<|ai @uR<|ai @aFi<|ai @au<|ai @fE<|ai @f8<|ai @di<|ai @aI<|ai @aD0<|ai @aww<|ai @awx<|ai @aD1<|ai @aBF<|@axE
def br.ext_iff'{x y:br}:(x=y)=(x.cells=y.cells/\x.ak=y.ak/\x.bC=y.bC/\x.bU=y.bU/\x.ay=y.ay/\x.dU=y.dU):=by cases x;cases y;simp
def aW.ext_iff'{x y:aW}:(x=y)=(x.ak=y.ak/\x.tx=y.tx/\x.done=y.done/\x.ay=y.ay):=by cases x;cases y;simp
def mn.ext_iff'{x y:mn}:(x=y)=(x.bm.ak=y.bm.ak/\x.bm.tx=y.bm.tx/\x.bm.done=y.bm.done/\x.bm.ay=y.bm.ay/\x.cells=y.cells/\x.bU=y.bU/\x.count=y.count):=by obtain⟨⟨a,b,c,d⟩,e,f,g⟩:=x;obtain⟨⟨h,j,l,m⟩,n,o,p⟩:=y;grind
theorem kL{α:Type}{f:α->List AV}(a:∀x y,f x=f y->x=y){l l':List α}:(sl f l=sl f l')=(l=l'):=by apply u5;constructor;intro h;simp only[sl,AV.l.injEq,tn] at h;(induction l generalizing l' with|nil=>simp_all|cons x l b=>cases l' with|nil=>simp at h|cons y l'=>grind);simp_all
def aN8{l l':List Int}:(sl ci l=sl ci l')=(l=l'):=kL (by intro x y h;simpa using h)
def mD{l l':List Bool}:(sl cb l=sl cb l')=(l=l'):=kL (by intro x y h;simpa using h)
def mF{l l':List ByteArray}:(sl cs l=sl cs l')=(l=l'):=kL (by intro x y h;simpa using h)
def mE{l l':List (List Int)}:(sl cl l=sl cl l')=(l=l'):=kL (by intro x y h;simpa[cl,aN8] using h)
theorem amH{x y:cA}:(cA.c x=cA.c y)=(x=y):=by apply u5;constructor;intro h;(cases x;cases y);simp only[cA.c,kO,AV.s.injEq,mW,mV,mX,bR,tn,aN8,mD,mF,mE] at h;simp only[cA.mk.injEq,br.ext_iff',aW.ext_iff',mn.ext_iff',aNR];exact h;intro h;rw[h]
def nz{l l':List cA}:(sl cA.c l=sl cA.c l')=(l=l'):=(by grind [kL,amH])
theorem amN{x y:dS}:(dS.c x=dS.c y)=(x=y):=by apply u5;constructor;intro h;(cases x;cases y);simp only[dS.c,kO,AV.s.injEq,mW,mV,mX,bR,tn,aN8,mD,mF,mE,nz] at h;simp only[dS.mk.injEq,br.ext_iff',aW.ext_iff',mn.ext_iff',aNR];exact h;intro h;rw[h]
def nY{l l':List dS}:(sl dS.c l=sl dS.c l')=(l=l'):=(by grind [kL,amN])
theorem amI{x y:yp}:(yp.c x=yp.c y)=(x=y):=by apply u5;constructor;intro h;(cases x;cases y);simp only[yp.c,kO,AV.s.injEq,mW,mV,mX,bR,tn,aN8,mD,mF,mE,nz,nY] at h;simp only[yp.mk.injEq,br.ext_iff',aW.ext_iff',mn.ext_iff',aNR];exact h;intro h;rw[h]
def oN{l l':List yp}:(sl yp.c l=sl yp.c l')=(l=l'):=(by grind [kL,amI])
theorem amP{x y:dL}:(dL.c x=dL.c y)=(x=y):=by apply u5;constructor;intro h;(cases x;cases y);simp only[dL.c,kO,AV.s.injEq,mW,mV,mX,bR,tn,aN8,mD,mF,mE,nz,nY,oN] at h;simp only[dL.mk.injEq,br.ext_iff',aW.ext_iff',mn.ext_iff',aNR];exact h;intro h;rw[h]
def pL{l l':List dL}:(sl dL.c l=sl dL.c l')=(l=l'):=(by grind [kL,amP])
theorem amU{x y:br}:(br.c x=br.c y)=(x=y):=by apply u5;constructor;intro h;(cases x;cases y);simp only[br.c,kO,AV.s.injEq,mW,mV,mX,bR,tn,aN8,mD,mF,mE,nz,nY,oN,pL] at h;simp only[br.mk.injEq,br.ext_iff',aW.ext_iff',mn.ext_iff',aNR];exact h;intro h;rw[h]
def qJ{l l':List br}:(sl br.c l=sl br.c l')=(l=l'):=(by grind [kL,amU])
theorem amO{x y:cg}:(cg.c x=cg.c y)=(x=y):=by apply u5;constructor;intro h;(cases x;cases y);simp only[cg.c,kO,AV.s.injEq,mW,mV,mX,bR,tn,aN8,mD,mF,mE,nz,nY,oN,pL,qJ] at h;simp only[cg.mk.injEq,br.ext_iff',aW.ext_iff',mn.ext_iff',aNR];exact h;intro h;rw[h]
def rY{l l':List cg}:(sl cg.c l=sl cg.c l')=(l=l'):=(by grind [kL,amO])
theorem amS{x y:kw}:(kw.c x=kw.c y)=(x=y):=by apply u5;constructor;intro h;(cases x;cases y);simp only[kw.c,kO,AV.s.injEq,mW,mV,mX,bR,tn,aN8,mD,mF,mE,nz,nY,oN,pL,qJ,rY] at h;simp only[kw.mk.injEq,br.ext_iff',aW.ext_iff',mn.ext_iff',aNR];exact h;intro h;rw[h]
def td{l l':List kw}:(sl kw.c l=sl kw.c l')=(l=l'):=(by grind [kL,amS])
theorem amR{x y:aW}:(aW.c x=aW.c y)=(x=y):=by apply u5;constructor;intro h;(cases x;cases y);simp only[aW.c,kO,AV.s.injEq,mW,mV,mX,bR,tn,aN8,mD,mF,mE,nz,nY,oN,pL,qJ,rY,td] at h;simp only[aW.mk.injEq,br.ext_iff',aW.ext_iff',mn.ext_iff',aNR];exact h;intro h;rw[h]
def uz{l l':List aW}:(sl aW.c l=sl aW.c l')=(l=l'):=(by grind [kL,amR])
theorem amQ{x y:mn}:(mn.c x=mn.c y)=(x=y):=by apply u5;constructor;intro h;(cases x;cases y);simp only[mn.c,kO,AV.s.injEq,mW,mV,mX,bR,tn,aN8,mD,mF,mE,nz,nY,oN,pL,qJ,rY,td,uz] at h;simp only[mn.mk.injEq,br.ext_iff',aW.ext_iff',mn.ext_iff',aNR];exact h;intro h;rw[h]
def wq{l l':List mn}:(sl mn.c l=sl mn.c l')=(l=l'):=(by grind [kL,amQ])
theorem amK{x y:aP}:(aP.c x=aP.c y)=(x=y):=by apply u5;constructor;intro h;(cases x;cases y);simp only[aP.c,kO,AV.s.injEq,mW,mV,mX,bR,tn,aN8,mD,mF,mE,nz,nY,oN,pL,qJ,rY,td,uz,wq] at h;simp only[aP.mk.injEq,br.ext_iff',aW.ext_iff',mn.ext_iff',aNR];exact h;intro h;rw[h]
def yb{l l':List aP}:(sl aP.c l=sl aP.c l')=(l=l'):=(by grind [kL,amK])
theorem bo0{x y:am}:(am.c x=am.c y)=(x=y):=by apply u5;constructor;intro h;(cases x;cases y);simp only[am.c,kO,AV.s.injEq,mW,mV,mX,bR,tn,aN8,mD,mF,mE,nz,nY,oN,pL,qJ,rY,td,uz,wq,yb] at h;simp only[am.mk.injEq,br.ext_iff',aW.ext_iff',mn.ext_iff',aNR];exact h;intro h;rw[h]
def AE{l l':List am}:(sl am.c l=sl am.c l')=(l=l'):=(by grind [kL,bo0])
theorem amM{x y:cJ}:(cJ.c x=cJ.c y)=(x=y):=by apply u5;constructor;intro h;(cases x;cases y);simp only[cJ.c,kO,AV.s.injEq,mW,mV,mX,bR,tn,aN8,mD,mF,mE,nz,nY,oN,pL,qJ,rY,td,uz,wq,yb,AE] at h;simp only[cJ.mk.injEq,br.ext_iff',aW.ext_iff',mn.ext_iff',aNR];exact h;intro h;rw[h]
def DS{l l':List cJ}:(sl cJ.c l=sl cJ.c l')=(l=l'):=(by grind [kL,amM])
theorem amT{x y:aH8}:(aH8.c x=aH8.c y)=(x=y):=by apply u5;constructor;intro h;(cases x;cases y);simp only[aH8.c,kO,AV.s.injEq,mW,mV,mX,bR,tn,aN8,mD,mF,mE,nz,nY,oN,pL,qJ,rY,td,uz,wq,yb,AE,DS] at h;simp only[aH8.mk.injEq,br.ext_iff',aW.ext_iff',mn.ext_iff',aNR];exact h;intro h;rw[h]
def bcT{l l':List aH8}:(sl aH8.c l=sl aH8.c l')=(l=l'):=(by grind [kL,amT])
def amV:=ai @aN8<|ai @mD<|ai @mF<|ai @mE<|ai @nz<|ai @nY<|ai @oN<|ai @pL<|ai @amU<|ai @rY<|ai @amS<|ai @td<|ai @amR<|ai @uz<|ai @amQ<|ai @amK<|ai @yb<|ai @bo0<|ai @amM<|ai @amT<|@bcT
def aGq{x:cA}:aN J (cA.c x)=V (st x.name):=rfl
def aGr{x:cA}:aN J ((cA.c x).drop 1)=V (iv x.index):=rfl
def aGs{x:cA}:aN J ((cA.c x).drop 2)=V (iv x.size):=rfl
def aGt{x:cA}:aN J ((cA.c x).drop 3)=V (bv x.vol):=rfl
def aGu{x:cA}:aN J ((cA.c x).drop 4)=V (iv x.init):=rfl
def aGv{x:cA}:aN (V 5) (cA.c x)=V (.a<|cA.c x):=rfl
def aG0{x:dS}:aN J (dS.c x)=V (st x.name):=rfl
def aG1{x:dS}:aN J ((dS.c x).drop 1)=V (bv x.rw):=rfl
def aG2{x:dS}:aN (V 2) (dS.c x)=V (.a<|dS.c x):=rfl
def aGy{x:yp}:aN J (yp.c x)=V (st x.name):=rfl
def aGz{x:yp}:aN J ((yp.c x).drop 1)=V (iv x.eg):=rfl
def aGA{x:yp}:aN (V 2) (yp.c x)=V (.a<|yp.c x):=rfl
def aG6{x:dL}:aN J (dL.c x)=V (iv x.aq):=rfl
def aG7{x:dL}:aN J ((dL.c x).drop 1)=V (iv x.stmt):=rfl
def aG9{x:dL}:aN (V 3) (dL.c x)=V (.a<|dL.c x):=rfl
def aHP{x:br}:aN J (br.c x)=V (sl cA.c x.cells):=rfl
def aHQ{x:br}:aN J ((br.c x).drop 1)=V (sl dS.c x.ak):=rfl
def aHR{x:br}:aN J ((br.c x).drop 2)=V (sl yp.c x.bC):=rfl
def aHS{x:br}:aN J ((br.c x).drop 3)=V (sl cs x.bU):=rfl
def aHT{x:br}:aN J ((br.c x).drop 4)=V (sl cs x.ay):=rfl
def aHU{x:br}:aN J ((br.c x).drop 5)=V (sl dL.c x.dU):=rfl
def aHV{x:br}:aN (V 6) (br.c x)=V (.a<|br.c x):=rfl
def aG3{x:cg}:aN J (cg.c x)=V (iv x.pw):=rfl
def aG4{x:cg}:aN J ((cg.c x).drop 1)=V (sl ci x.bk):=rfl
def aG5{x:cg}:aN (V 2) (cg.c x)=V (.a<|cg.c x):=rfl
def aHo{x:kw}:aN J (kw.c x)=V (iv x.cQ):=rfl
def aHp{x:kw}:aN J ((kw.c x).drop 1)=V (iv x.cond):=rfl
def aHq{x:kw}:aN J ((kw.c x).drop 2)=V (bv x.atomic):=rfl
def aHr{x:kw}:aN (V 3) (kw.c x)=V (.a<|kw.c x):=rfl
def aHj{x:aW}:aN J (aW.c x)=V (sl cg.c x.ak):=rfl
def aHk{x:aW}:aN J ((aW.c x).drop 1)=V (iv x.tx):=rfl
def aHl{x:aW}:aN J ((aW.c x).drop 2)=V (sl cb x.done):=rfl
def aHm{x:aW}:aN J ((aW.c x).drop 3)=V (sl kw.c x.ay):=rfl
def aHn{x:aW}:aN (V 4) (aW.c x)=V (.a<|aW.c x):=rfl
def aHc{x:mn}:aN J ((mn.c x).drop 2)=V (sl cb x.bm.done):=rfl
def aHd{x:mn}:aN J ((mn.c x).drop 3)=V (sl kw.c x.bm.ay):=rfl
def aHe{x:mn}:aN J ((mn.c x).drop 4)=V (sl ci x.cells):=rfl
def aHf{x:mn}:aN J ((mn.c x).drop 5)=V (sl ci x.bU):=rfl
def aHg{x:mn}:aN J ((mn.c x).drop 6)=V (sl ci x.count):=rfl
def aHh{x:mn}:aN (V 7) (mn.c x)=V (.a<|mn.c x):=rfl
def aHi{x:mn}:aN (V 4) (mn.c x)=V (.a<|aW.c x.bm):=rfl
def aGG{x:aP}:aN J (aP.c x)=V (iv x.aq):=rfl
def aGH{x:aP}:aN J ((aP.c x).drop 1)=V (iv x.kind):=rfl
def aGI{x:aP}:aN J ((aP.c x).drop 2)=V (iv x.nt):=rfl
def aGJ{x:aP}:aN J ((aP.c x).drop 3)=V (iv x.value):=rfl
def aGK{x:aP}:aN J ((aP.c x).drop 4)=V (iv x.site):=rfl
def aGL{x:aP}:aN J ((aP.c x).drop 5)=V (sl ci x.dI):=rfl
def aGM{x:aP}:aN J ((aP.c x).drop 6)=V (sl ci x.ep):=rfl
def aGN{x:aP}:aN (V 7) (aP.c x)=V (.a<|aP.c x):=rfl
def aHw{x:am}:aN J (am.c x)=V (sl cA.c x.aQ.cells):=rfl
def aHx{x:am}:aN J ((am.c x).drop 1)=V (sl dS.c x.aQ.ak):=rfl
def aHD{x:am}:aN J ((am.c x).drop 2)=V (sl yp.c x.aQ.bC):=rfl
def aHE{x:am}:aN J ((am.c x).drop 3)=V (sl cs x.aQ.bU):=rfl
def aHF{x:am}:aN J ((am.c x).drop 4)=V (sl cs x.aQ.ay):=rfl
def aHH{x:am}:aN J ((am.c x).drop 6)=V (iv x.start):=rfl
def aHI{x:am}:aN J ((am.c x).drop 7)=V (sl cg.c x.init.bm.ak):=rfl
def aHJ{x:am}:aN J ((am.c x).drop 8)=V (iv x.init.bm.tx):=rfl
def aHK{x:am}:aN J ((am.c x).drop 9)=V (sl cb x.init.bm.done):=rfl
def aHy{x:am}:aN J ((am.c x).drop 10)=V (sl kw.c x.init.bm.ay):=rfl
def aHz{x:am}:aN J ((am.c x).drop 11)=V (sl ci x.init.cells):=rfl
def aHA{x:am}:aN J ((am.c x).drop 12)=V (sl ci x.init.bU):=rfl
def aHB{x:am}:aN J ((am.c x).drop 13)=V (sl ci x.init.count):=rfl
def aHC{x:am}:aN J ((am.c x).drop 14)=V (sl aP.c x.ac):=rfl
def aHN{x:am}:aN (V 15) (am.c x)=V (.a<|am.c x):=rfl
def aHO{x:am}:aN (V 6) (am.c x)=V (.a<|br.c x.aQ):=rfl
def aHL{x:am}:aN (V 7) ((am.c x).drop 7)=V (.a<|mn.c x.init):=rfl
def aHM{x:am}:aN (V 4) ((am.c x).drop 7)=V (.a<|aW.c x.init.bm):=rfl
def aGT{x:cJ}:aN J (cJ.c x)=V (iv x.kind):=rfl
def aGU{x:cJ}:aN J ((cJ.c x).drop 1)=V (iv x.ea):=rfl
def aGV{x:cJ}:aN J ((cJ.c x).drop 2)=V (iv x.eb):=rfl
def aGW{x:cJ}:aN J ((cJ.c x).drop 3)=V (iv x.ec):=rfl
def aGX{x:cJ}:aN J ((cJ.c x).drop 4)=V (iv x.ed):=rfl
def aGY{x:cJ}:aN J ((cJ.c x).drop 5)=V (sl ci x.cW):=rfl
def aGZ{x:cJ}:aN (V 6) (cJ.c x)=V (.a<|cJ.c x):=rfl
def aHv{x:aH8}:aN (V 3) (aH8.c x)=V (.a<|aH8.c x):=rfl
def aGw{x:Int}:aN J (ci x)=V (iv x):=rfl
def aGp{x:Bool}:aN J (cb x)=V (bv x):=rfl
def aGB{x:ByteArray}:aN J (cs x)=V (st x):=rfl
def aC6{q:Option Nat}{Y:ae}{cs:List AV}:lS q Y (.q cs)=aN q cs:=rfl
def dd{l:List AV}{a b:Nat}:(l.drop a).drop b=l.drop (a+b):=List.drop_drop
def zN{Y:ae}{x:br}:dG Y (.a<|br.c x)= .a (br.c x):=rfl
def avI{Y:ae}{x:kw}:dG Y (.a<|kw.c x)= .a (kw.c x):=rfl
def avH{Y:ae}{x:aW}:dG Y (.a<|aW.c x)= .a (aW.c x):=rfl
def avG{Y:ae}{x:mn}:dG Y (.a<|mn.c x)= .a (mn.c x):=rfl
def CU{Y:ae}{x:aP}:dG Y (.a<|aP.c x)= .a (aP.c x):=rfl
def sH{Y:ae}{x:am}:dG Y (.a<|am.c x)= .a (am.c x):=rfl
def Kl{Y:ae}{x:cJ}:dG Y (.a<|cJ.c x)= .a (cJ.c x):=rfl
def avJ{Y:ae}{x:aH8}:dG Y (.a<|aH8.c x)= .a (aH8.c x):=rfl
def ar:=ai @jM<|ai @jt<|ai @kU<|ai @tW<|ai @alg<|ai @CV<|ai @AL<|ai @Ql<|ai @QQ<|ai @gT<|ai @bR<|ai @zN<|ai @avI<|ai @avH<|ai @avG<|ai @CU<|ai @sH<|ai @Kl<|@avJ
def rk:=ai @aGq<|ai @aGr<|ai @aGs<|ai @aGt<|ai @aGu<|ai @aGv<|ai @aG0<|ai @aG1<|ai @aG2<|ai @aGy<|ai @aGz<|ai @aGA<|ai @aG6<|ai @aG7<|ai @aG9<|ai @aHP<|ai @aHQ<|ai @aHR<|ai @aHS<|ai @aHT<|ai @aHU<|ai @aHV<|ai @aG3<|ai @aG4<|ai @aG5<|ai @aHo<|ai @aHp<|ai @aHq<|ai @aHr<|ai @aHj<|ai @aHk<|ai @aHl<|ai @aHm<|ai @aHn<|ai @aHc<|ai @aHd<|ai @aHe<|ai @aHf<|ai @aHg<|ai @aHh<|ai @aHi<|ai @aGG<|ai @aGH<|ai @aGI<|ai @aGJ<|ai @aGK<|ai @aGL<|ai @aGM<|ai @aGN<|ai @aHw<|ai @aHx<|ai @aHD<|ai @aHE<|ai @aHF<|ai @aHH<|ai @aHI<|ai @aHJ<|ai @aHK<|ai @aHy<|ai @aHz<|ai @aHA<|ai @aHB<|ai @aHC<|ai @aHN<|ai @aHO<|ai @aHL<|ai @aHM<|ai @aGT<|ai @aGU<|ai @aGV<|ai @aGW<|ai @aGX<|ai @aGY<|ai @aGZ<|ai @aHv<|ai @aGw<|ai @aGp<|ai @aGB<|@aC6
def vp{n k:Nat}(h:Q ((k:Int)<(n:Int))=U):aF n (k:Int):=dJ<|aL h
def axz{a b:AV}{l m:List AV}:(a::l=b::m)=(a=b/\l=m):=by simp
def ass{A:Type}:(A->True)=True:=by simp
def asr{p:Prop}:(p->True)=True:=by simp
def ij:=ai @axz<|ai @AV.a.injEq<|ai @AV.s.injEq<|ai @mW<|ai @mV<|ai @mX<|ai @bR<|ai @tn<|ai @amV<|ai @ass<|@asr
abbrev H0(W:ae->Prop):Prop:=∀s:ae,L s=4096->(∀k,aZ s k=mO)->W s
abbrev H1(t n p:Nat)(c:List AV)(W:be):Prop:=∀s:ae,L s=4096->box s (p,1)=V ⟨t,n,U,U,[c]⟩->(∀k,k≠p->aZ s k=mO)->W (.p (p,1) 0 0) s
abbrev H2(t n p:Nat)(c:List AV)(e d a:Nat)(b:List AV)(W:AV->be):Prop:=∀s:ae,L s=4096->box s (p,1)=V ⟨t,n,U,U,[c]⟩->box s (a,1)=V ⟨e,d,U,U,[b]⟩->(∀k,k≠p->k≠a->aZ s k=mO)->W (.p (p,1) 0 0) (.p (a,1) 0 0) s
section
variable{T:dO}(an:List<|Option<|List Nat×List Nat){f:Func}{fn:Nat}{xs:List AV}{R:o8}
def z0{W:ae->Prop}(c:eJ T)(a:aS.funcs[fn]?=V f)(h:H0 W)(b:uM an f (L xs)=U:=by kernel_rfl)(d:ZF aS GG T an f xs R=W (ly f):=by kernel_rfl):Ct fn xs R:=uq ready c a b<|aND d<|h _ uB<|i8 _
def z1{t n p:Nat}{c:List AV}{W:be}(m:eJ T)(g:aS.funcs[fn]?=V f)(l:L c=n)(h:H1 t n p c W)(j:uM an f (L xs)=U:=by kernel_rfl)(b:Q (p<4096/\0<n)=U:=by exact rfl)(o:ZF aS GG T an f xs R=eV (qm t n (ly f) p<|.a c) W:=by kernel_rfl):Ct fn xs R:=by have b:=u4 b;refine uq ready m g j<|aND o ?_;refine mY (N:=4096) rfl l b.2 b.1 uB (by rw[i8]) λr q d s g0=>?_;exact h r q d (λk e=>by rw[g0 k e];exact i8 _ k)
def z2{t n p q d e:Nat}{c l:List AV}{W:AV->be}(B:eJ T)(y:aS.funcs[fn]?=V f)(A:L c=n)(m:L l=d)(h:H2 t n p c q d e l W)(z:uM an f (L xs)=U:=by kernel_rfl)(b:Q ((p<4096/\0<n)/\(e<4096/\0<d)/\p≠e)=U:=by exact rfl)(C:ZF aS GG T an f xs R=eV (qm t n (ly f) p<|.a c) λi s=>eV (qm q d s e<|.a l) λj s=>W i j s:=by kernel_rfl):Ct fn xs R:=by obtain⟨b,g,o⟩:=u4 b;refine uq ready B y z<|aND C ?_;refine mY (N:=4096) rfl A b.2 b.1 uB (by rw[i8]) λK D r H g0=>?_;refine mY (N:=4096) rfl m g.2 g.1 D (by rw[g0 _<|Ne.symm o,i8]) λG E u v g1=>?_;exact h G E (by rw[v _ _ o];exact r) u (λk w x=>by rw[g1 k x,g0 k w];exact i8 _ k)
end
abbrev EB(fn:Nat)(xs:List AV)(Y:ae)(R:be):Prop:=∃r a,R r a/\cZ aS GG fn xs Y r a
def zB{T:dO}(an:List<|Option<|List Nat×List Nat){f:Func}{fn:Nat}{xs:List AV}{Y:ae}{R:be}{Q:Prop}(c:eJ T)(a:aS.funcs[fn]?=V f)(h:Q)(b:uM an f (L xs)=U:=by kernel_rfl)(d:ZB aS GG T an f xs Y R=Q:=by kernel_rfl):EB fn xs Y R:=aBe ready c a b<|aND d h
section
variable{i:Nat}(F:FT)
def BJ{a:List AV}{v:AV}(k:Ct i (a) (·=v)):FT:=λys K=>ys=a/\K (v)
def al2{b:List AV}{v:AV}(k:Ct i (b) (·=v))(a K:o8)(d:F=BJ k:=by exact rfl):fW F (b) a K=(a (v)/\K (v)):=by subst d;apply u5;constructor;rintro⟨h,c⟩;exact c;intro h;exact⟨rfl,h⟩
def apM{a:List AV}{v:AV}(k:Ct i (a) (·=v))(b:∀_:Unit,(a).all iX=U:=by intros;exact rfl):∀ys K,BJ k ys K->jz aS GG i ys K:=by rintro ys K ⟨rfl,h⟩;exact nX (k) (b ()) (λr c=>by rw[c];exact h)
def BK{a:List AV}{b:o8}(k:Ct i (a)<|b):FT:=λys K=>ys=a/\∀r,b r->K r
def al3{b:List AV}{c:o8}(k:Ct i (b)<|c)(a K:o8)(e:F=BK k:=by exact rfl):fW F (b) a K=(∀r,c r->a r/\K r):=by subst e;apply u5;constructor;rintro⟨h,d⟩;exact d;intro h;exact⟨rfl,h⟩
def apN{a:List AV}{d:o8}(k:Ct i (a)<|d)(b:∀_:Unit,(a).all iX=U:=by intros;exact rfl):∀ys K,BK k ys K->jz aS GG i ys K:=by rintro ys K ⟨rfl,h⟩;exact nX (k) (b ()) (λr c=>h r c)
def lH{A:Type}{b:A->List AV}{v:A->AV}(k:∀a,Ct i (b a) (·=v a)):FT:=λys K=>∃a,ys=b a/\K (v a)
def np{A:Type}{b:A->List AV}{v:A->AV}(k:∀a,Ct i (b a) (·=v a))(a:A)(d K:o8)(g:F=lH k:=by exact rfl)(j:∀a c,b a=b c->a=c:=by simp+contextual only[ij]):fW F (b a) d K=(d (v a)/\K (v a)):=by subst g;apply u5;constructor;rintro⟨c,h,e⟩;obtain rfl:=j _ _ h;exact e;intro h;exact⟨_,rfl,h⟩
def nH{A:Type}{b:A->List AV}{v:A->AV}(k:∀a,Ct i (b a) (·=v a))(c:∀a,(b a).all iX=U:=by intros;exact rfl):∀ys K,lH k ys K->jz aS GG i ys K:=by rintro ys K ⟨a,rfl,h⟩;exact nX (k a) (c a) (λr d=>by rw[d];exact h)
def mT{A:Type}{b:A->List AV}{c:A->Prop}{v:A->AV}(k:∀a,c a->Ct i (b a) (·=v a)):FT:=λys K=>∃a,ys=b a/\c a/\K (v a)
def oK{A:Type}{b:A->List AV}{e:A->Prop}{v:A->AV}(k:∀a,e a->Ct i (b a) (·=v a))(a:A)(d K:o8)(l:F=mT k:=by exact rfl)(j:∀a c,b a=b c->a=c:=by simp+contextual only[ij]):fW F (b a) d K=(e a/\d (v a)/\K (v a)):=by subst l;apply u5;constructor;rintro⟨c,h,g⟩;obtain rfl:=j _ _ h;exact g;intro h;exact⟨_,rfl,h⟩
def pg{A:Type}{b:A->List AV}{g:A->Prop}{v:A->AV}(k:∀a,g a->Ct i (b a) (·=v a))(c:∀a,(b a).all iX=U:=by intros;exact rfl):∀ys K,mT k ys K->jz aS GG i ys K:=by rintro ys K ⟨a,rfl,d,h⟩;exact nX (k a d) (c a) (λr e=>by rw[e];exact h)
def om{A:Type}{b:A->List AV}{c:A->Prop}{d:A->o8}(k:∀a,c a->Ct i (b a) (d a)):FT:=λys K=>∃a,ys=b a/\c a/\∀r,d a r->K r
def qz{A:Type}{b:A->List AV}{e:A->Prop}{g:A->o8}(k:∀a,e a->Ct i (b a) (g a))(a:A)(d K:o8)(m:F=om k:=by exact rfl)(j:∀a c,b a=b c->a=c:=by simp+contextual only[ij]):fW F (b a) d K=(e a/\∀r,g a r->d r/\K r):=by subst m;apply u5;constructor;rintro⟨c,h,l⟩;obtain rfl:=j _ _ h;exact l;intro h;exact⟨_,rfl,h⟩
def rj{A:Type}{b:A->List AV}{g:A->Prop}{j:A->o8}(k:∀a,g a->Ct i (b a) (j a))(c:∀a,(b a).all iX=U:=by intros;exact rfl):∀ys K,om k ys K->jz aS GG i ys K:=by rintro ys K ⟨a,rfl,d,h⟩;exact nX (k a d) (c a) (λr e=>h r e)
def lI{A B:Type}{c:A->B->List AV}{v:A->B->AV}(k:∀a b,Ct i (c a b) (·=v a b)):FT:=λys K=>∃a b,ys=c a b/\K (v a b)
def nq{A B:Type}{c:A->B->List AV}{v:A->B->AV}(k:∀a b,Ct i (c a b) (·=v a b))(a:A)(b:B)(g K:o8)(m:F=lI k:=by exact rfl)(j:∀a b d e,c a b=c d e->a=d/\b=e:=by simp+contextual only[ij]):fW F (c a b) g K=(g (v a b)/\K (v a b)):=by subst m;apply u5;constructor;rintro⟨d,e,h,l⟩;obtain⟨rfl,rfl⟩:=j _ _ _ _ h;exact l;intro h;exact⟨_,_,rfl,h⟩
def nI{A B:Type}{c:A->B->List AV}{v:A->B->AV}(k:∀a b,Ct i (c a b) (·=v a b))(d:∀a b,(c a b).all iX=U:=by intros;exact rfl):∀ys K,lI k ys K->jz aS GG i ys K:=by rintro ys K ⟨a,b,rfl,h⟩;exact nX (k a b) (d a b) (λr e=>by rw[e];exact h)
def aIc{A B:Type}{c:A->B->List AV}{d:A->B->Prop}{v:A->B->AV}(k:∀a b,d a b->Ct i (c a b) (·=v a b)):FT:=λys K=>∃a b,ys=c a b/\d a b/\K (v a b)
def gX{A B:Type}{c:A->B->List AV}{l:A->B->Prop}{v:A->B->AV}(k:∀a b,l a b->Ct i (c a b) (·=v a b))(a:A)(b:B)(g K:o8)(n:F=aIc k:=by exact rfl)(j:∀a b d e,c a b=c d e->a=d/\b=e:=by simp+contextual only[ij]):fW F (c a b) g K=(l a b/\g (v a b)/\K (v a b)):=by subst n;apply u5;constructor;rintro⟨d,e,h,m⟩;obtain⟨rfl,rfl⟩:=j _ _ _ _ h;exact m;intro h;exact⟨_,_,rfl,h⟩
def aCb{A B:Type}{c:A->B->List AV}{j:A->B->Prop}{v:A->B->AV}(k:∀a b,j a b->Ct i (c a b) (·=v a b))(d:∀a b,(c a b).all iX=U:=by intros;exact rfl):∀ys K,aIc k ys K->jz aS GG i ys K:=by rintro ys K ⟨a,b,rfl,e,h⟩;exact nX (k a b e) (d a b) (λr g=>by rw[g];exact h)
def pn{A B:Type}{c:A->B->List AV}{d:A->B->Prop}{e:A->B->o8}(k:∀a b,d a b->Ct i (c a b) (e a b)):FT:=λys K=>∃a b,ys=c a b/\d a b/\∀r,e a b r->K r
def rQ{A B:Type}{c:A->B->List AV}{l:A->B->Prop}{m:A->B->o8}(k:∀a b,l a b->Ct i (c a b) (m a b))(a:A)(b:B)(g K:o8)(o:F=pn k:=by exact rfl)(j:∀a b d e,c a b=c d e->a=d/\b=e:=by simp+contextual only[ij]):fW F (c a b) g K=(l a b/\∀r,m a b r->g r/\K r):=by subst o;apply u5;constructor;rintro⟨d,e,h,n⟩;obtain⟨rfl,rfl⟩:=j _ _ _ _ h;exact n;intro h;exact⟨_,_,rfl,h⟩
def aN0{A B:Type}{c:A->B->List AV}{j:A->B->Prop}{l:A->B->o8}(k:∀a b,j a b->Ct i (c a b) (l a b))(d:∀a b,(c a b).all iX=U:=by intros;exact rfl):∀ys K,pn k ys K->jz aS GG i ys K:=by rintro ys K ⟨a,b,rfl,e,h⟩;exact nX (k a b e) (d a b) (λr g=>h r g)
def za{A B C:Type}{d:A->B->C->List AV}{v:A->B->C->AV}(k:∀a b c,Ct i (d a b c) (·=v a b c)):FT:=λys K=>∃a b c,ys=d a b c/\K (v a b c)
def KP{A B C:Type}{d:A->B->C->List AV}{v:A->B->C->AV}(k:∀a b c,Ct i (d a b c) (·=v a b c))(a:A)(b:B)(c:C)(m K:o8)(o:F=za k:=by exact rfl)(j:∀a b c e g l,d a b c=d e g l->a=e/\b=g/\c=l:=by simp+contextual only[ij]):fW F (d a b c) m K=(m (v a b c)/\K (v a b c)):=by subst o;apply u5;constructor;rintro⟨e,g,l,h,n⟩;obtain⟨rfl,rfl,rfl⟩:=j _ _ _ _ _ _ h;exact n;intro h;exact⟨_,_,_,rfl,h⟩
def Rs{A B C:Type}{d:A->B->C->List AV}{v:A->B->C->AV}(k:∀a b c,Ct i (d a b c) (·=v a b c))(e:∀a b c,(d a b c).all iX=U:=by intros;exact rfl):∀ys K,za k ys K->jz aS GG i ys K:=by rintro ys K ⟨a,b,c,rfl,h⟩;exact nX (k a b c) (e a b c) (λr g=>by rw[g];exact h)
def qe{A B C:Type}{d:A->B->C->List AV}{e:A->B->C->Prop}{v:A->B->C->AV}(k:∀a b c,e a b c->Ct i (d a b c) (·=v a b c)):FT:=λys K=>∃a b c,ys=d a b c/\e a b c/\K (v a b c)
def sT{A B C:Type}{d:A->B->C->List AV}{n:A->B->C->Prop}{v:A->B->C->AV}(k:∀a b c,n a b c->Ct i (d a b c) (·=v a b c))(a:A)(b:B)(c:C)(m K:o8)(p:F=qe k:=by exact rfl)(j:∀a b c e g l,d a b c=d e g l->a=e/\b=g/\c=l:=by simp+contextual only[ij]):fW F (d a b c) m K=(n a b c/\m (v a b c)/\K (v a b c)):=by subst p;apply u5;constructor;rintro⟨e,g,l,h,o⟩;obtain⟨rfl,rfl,rfl⟩:=j _ _ _ _ _ _ h;exact o;intro h;exact⟨_,_,_,rfl,h⟩
def tE{A B C:Type}{d:A->B->C->List AV}{l:A->B->C->Prop}{v:A->B->C->AV}(k:∀a b c,l a b c->Ct i (d a b c) (·=v a b c))(e:∀a b c,(d a b c).all iX=U:=by intros;exact rfl):∀ys K,qe k ys K->jz aS GG i ys K:=by rintro ys K ⟨a,b,c,rfl,g,h⟩;exact nX (k a b c g) (e a b c) (λr j=>by rw[j];exact h)
def vn{A B C:Type}{d:A->B->C->List AV}{e:A->B->C->Prop}{g:A->B->C->o8}(k:∀a b c,e a b c->Ct i (d a b c) (g a b c)):FT:=λys K=>∃a b c,ys=d a b c/\e a b c/\∀r,g a b c r->K r
def zZ{A B C:Type}{d:A->B->C->List AV}{n:A->B->C->Prop}{o:A->B->C->o8}(k:∀a b c,n a b c->Ct i (d a b c) (o a b c))(a:A)(b:B)(c:C)(m K:o8)(q:F=vn k:=by exact rfl)(j:∀a b c e g l,d a b c=d e g l->a=e/\b=g/\c=l:=by simp+contextual only[ij]):fW F (d a b c) m K=(n a b c/\∀r,o a b c r->m r/\K r):=by subst q;apply u5;constructor;rintro⟨e,g,l,h,p⟩;obtain⟨rfl,rfl,rfl⟩:=j _ _ _ _ _ _ h;exact p;intro h;exact⟨_,_,_,rfl,h⟩
def By{A B C:Type}{d:A->B->C->List AV}{l:A->B->C->Prop}{m:A->B->C->o8}(k:∀a b c,l a b c->Ct i (d a b c) (m a b c))(e:∀a b c,(d a b c).all iX=U:=by intros;exact rfl):∀ys K,vn k ys K->jz aS GG i ys K:=by rintro ys K ⟨a,b,c,rfl,g,h⟩;exact nX (k a b c g) (e a b c) (λr j=>h r j)
def ER{A B C D:Type}{e:A->B->C->D->List AV}{g:A->B->C->D->Prop}{h:A->B->C->D->o8}(k:∀a b c d,g a b c d->Ct i (e a b c d) (h a b c d)):FT:=λys K=>∃a b c d,ys=e a b c d/\g a b c d/\∀r,h a b c d r->K r
def axQ{A B C D:Type}{e:A->B->C->D->List AV}{p:A->B->C->D->Prop}{q:A->B->C->D->o8}(k:∀a b c d,p a b c d->Ct i (e a b c d) (q a b c d))(a:A)(b:B)(c:C)(d:D)(o K:o8)(t:F=ER k:=by exact rfl)(j:∀a b c d g l m n,e a b c d=e g l m n->a=g/\b=l/\c=m/\d=n:=by simp+contextual only[ij]):fW F (e a b c d) o K=(p a b c d/\∀r,q a b c d r->o r/\K r):=by subst t;apply u5;constructor;rintro⟨g,l,m,n,h,s⟩;obtain⟨rfl,rfl,rfl,rfl⟩:=j _ _ _ _ _ _ _ _ h;exact s;intro h;exact⟨_,_,_,_,rfl,h⟩
def aM6{A B C D:Type}{e:A->B->C->D->List AV}{m:A->B->C->D->Prop}{n:A->B->C->D->o8}(k:∀a b c d,m a b c d->Ct i (e a b c d) (n a b c d))(g:∀a b c d,(e a b c d).all iX=U:=by intros;exact rfl):∀ys K,ER k ys K->jz aS GG i ys K:=by rintro ys K ⟨a,b,c,d,rfl,j,h⟩;exact nX (k a b c d j) (g a b c d) (λr l=>h r l)
def zb{A B C D E:Type}{g:A->B->C->D->E->List AV}{h:A->B->C->D->E->Prop}{v:A->B->C->D->E->AV}(k:∀a b c d e,h a b c d e->Ct i (g a b c d e) (·=v a b c d e)):FT:=λys K=>∃a b c d e,ys=g a b c d e/\h a b c d e/\K (v a b c d e)
def KQ{A B C D E:Type}{g:A->B->C->D->E->List AV}{r:A->B->C->D->E->Prop}{v:A->B->C->D->E->AV}(k:∀a b c d e,r a b c d e->Ct i (g a b c d e) (·=v a b c d e))(a:A)(b:B)(c:C)(d:D)(e:E)(q K:o8)(t:F=zb k:=by exact rfl)(j:∀a b c d e l m n o p,g a b c d e=g l m n o p->a=l/\b=m/\c=n/\d=o/\e=p:=by simp+contextual only[ij]):fW F (g a b c d e) q K=(r a b c d e/\q (v a b c d e)/\K (v a b c d e)):=by subst t;apply u5;constructor;rintro⟨l,m,n,o,p,h,s⟩;obtain⟨rfl,rfl,rfl,rfl,rfl⟩:=j _ _ _ _ _ _ _ _ _ _ h;exact s;intro h;exact⟨_,_,_,_,_,rfl,h⟩
def Rt{A B C D E:Type}{g:A->B->C->D->E->List AV}{n:A->B->C->D->E->Prop}{v:A->B->C->D->E->AV}(k:∀a b c d e,n a b c d e->Ct i (g a b c d e) (·=v a b c d e))(j:∀a b c d e,(g a b c d e).all iX=U:=by intros;exact rfl):∀ys K,zb k ys K->jz aS GG i ys K:=by rintro ys K ⟨a,b,c,d,e,rfl,l,h⟩;exact nX (k a b c d e l) (j a b c d e) (λr m=>by rw[m];exact h)
def BL{A B C D E G:Type}{h:A->B->C->D->E->G->List AV}{j:A->B->C->D->E->G->Prop}{l:A->B->C->D->E->G->o8}(k:∀a b c d e g,j a b c d e g->Ct i (h a b c d e g) (l a b c d e g)):FT:=λys K=>∃a b c d e g,ys=h a b c d e g/\j a b c d e g/\∀r,l a b c d e g r->K r
def al4{A B C D E G:Type}{l:A->B->C->D->E->G->List AV}{u:A->B->C->D->E->G->Prop}{v:A->B->C->D->E->G->o8}(k:∀a b c d e g,u a b c d e g->Ct i (l a b c d e g) (v a b c d e g))(a:A)(b:B)(c:C)(d:D)(e:E)(g:G)(t K:o8)(x:F=BL k:=by exact rfl)(j:∀a b c d e g m n o p q s,l a b c d e g=l m n o p q s->a=m/\b=n/\c=o/\d=p/\e=q/\g=s:=by simp+contextual only[ij]):fW F (l a b c d e g) t K=(u a b c d e g/\∀r,v a b c d e g r->t r/\K r):=by subst x;apply u5;constructor;rintro⟨m,n,o,p,q,s,h,w⟩;obtain⟨rfl,rfl,rfl,rfl,rfl,rfl⟩:=j _ _ _ _ _ _ _ _ _ _ _ _ h;exact w;intro h;exact⟨_,_,_,_,_,_,rfl,h⟩
def apO{A B C D E G:Type}{j:A->B->C->D->E->G->List AV}{o:A->B->C->D->E->G->Prop}{p:A->B->C->D->E->G->o8}(k:∀a b c d e g,o a b c d e g->Ct i (j a b c d e g) (p a b c d e g))(l:∀a b c d e g,(j a b c d e g).all iX=U:=by intros;exact rfl):∀ys K,BL k ys K->jz aS GG i ys K:=by rintro ys K ⟨a,b,c,d,e,g,rfl,m,h⟩;exact nX (k a b c d e g m) (l a b c d e g) (λr n=>h r n)
end
def atS:=bi 10 [(3,([5],[0,1]))]
def aca s0 b e R(d:cG)(m1:fD) a:=Rg->aJ s0 b λf=>aU (gt a 0) f λt3=>ah t3 (ao 1 s0 b (gt a 0) λt4=>aM s0 t4 λg=>bf g e λh=>ah h (aE R s0 [bv U])<|aV (gt a 0) (iv 1) λc=>d [c]/\m1 [c]<m1 a)<|aE R s0 [bv I]
def IB a b s0 R:=lR [iv 0]<|aca s0 a b R
def aLl{a b:AV}{R:o8}(h:H0 λs0=>IB a b s0 R):Ct 81 [a,b] R:=z0 atS wO Tryz.func81 h
def at1:=bi 2 []
def ac8 a b s0 R:=aO .geq a (iv 0) λt1=>fm t1 a λt3=>fm t1 b λc=>az t1 (aU t3 c) λd=>aD t1 d (bv I) λe=>aE R s0 [e]
def aLu{a b:AV}{R:o8}(h:H0 λs0=>ac8 a b s0 R):Ct 139 [a,b] R:=z0 at1 wO Tryz.func139 h
def aLA{a b:AV}{R:o8}(h:H0 λs0=>ac8 a b s0 R):Ct 122 [a,b] R:=z0 at1 wO Tryz.func122 h
def aLJ{a b:AV}{R:o8}(h:H0 λs0=>ac8 a b s0 R):Ct 120 [a,b] R:=z0 at1 wO Tryz.func120 h
def atY:=bi 10 [(3,([5],[2,3]))]
def acU a c R g(M:cG)(i:fD) f:=Rg->ab 2 a c λN=>aJ a N λO=>aU (gt f 0) O λP=>ah P (ab 2 a c λj=>ao 2 a j (gt f 0) λk=>ab 1 a k λl=>aU l (iv 0) λb=>bn b 2 a c λm=>bX b (gt f 0) λn=>aC b (ao 2 a m n) λo=>bn b 1 a o λp=>bn b 1 a c λq=>aC b (aJ a q) λr=>aC b (aO .geq p r) λs=>aD b (bv U) s λt=>ah t (aE R a [bv I])<|aV (gt f 0) (iv 1) λh=>M [h]/\i [h]<i f) (ab 0 a g λu=>aJ a u λv=>ab 1 a c λw=>aJ a w λx=>bf v x λd=>aT d 2 a g λy=>az d (aJ a y) λz=>aT d 3 a c λA=>az d (aJ a A) λB=>az d (bf z B) λC=>aD d C (bv I) λe=>aT e 3 a g λD=>az e (aJ a D) λE=>aT e 4 a c λF=>az e (aJ a F) λG=>az e (bf E G) λH=>aD e H (bv I) λK=>aE R a [K])
def IG b a c R:=lR [iv 0]<|acU c b R a
def aLr{b:List AV}{c:List AV}{R:o8}(l0:L b=6)(l1:L c=4)(h:H2 31 6 2 b 36 4 3 c λd e f=>IG d e f R):Ct 119 [.a b, .a c] R:=z2 atY wO Tryz.func119 l0 l1 h
def dh(i n:Int):Bool:=Q (0<=i)&&Q (i<n)
def DR{i:Int}{n:Nat}:(dh i n=U->aF n i)=True:=by simp[dh,aF]
theorem dX{i:Int}{n:Nat}:dh i n=U↔aF n i:=by simp[dh,aF]
def OR(i n:Int):Ct 139 [iv i,iv n] (·=bv (dh i n)):=by refine aLu λs0 b a=>?_;simp+contextual only[ac8,u0,u1,dh,↓uL]
def su:FT:=lI OR
def ayO{i n Lw K}:=nq su OR i n Lw K
def OW(i n:Int):Ct 122 [iv i,iv n] (·=bv (dh i n)):=by refine aLA λs0 b a=>?_;simp+contextual only[ac8,u0,u1,dh,↓uL]
def Ce:FT:=lI OW
def ayT{i n Lw K}:=nq Ce OW i n Lw K
def Pd(i n:Int):Ct 120 [iv i,iv n] (·=bv (dh i n)):=by refine aLJ λs0 b a=>?_;simp+contextual only[ac8,u0,u1,dh,↓uL]
def Ch:FT:=lI Pd
def ay2{i n Lw K}:=nq Ch Pd i n Lw K
def OK(l:List Int)(n:Int)(g:L l<4611686018427387904):Ct 81 [sl ci l,iv n] (·=bv (Q<|n∈l)):=by refine aLl λs0 _ c=>?_;simp only[IB,aI,↓uL];refine C7 (L l) (λk=>∀j,j<k->gd l j≠n) (by simp) λk f e=>?_;simp+contextual only[aca,IB,u0,u1,ix,rk,bh,↓uL];refine⟨λh=>⟨vp h,λd=>?_,by grind [gS,aL]⟩,λh=>?_⟩;grind [dB,aL];have b:n∉l:=λa=>(by have:=(px (p:=λx=>x≠n)).1 (by grind) n a;omega);simp[b]
def aQF:FT:=aIc OK
def ayH{l n Lw K}:=gX aQF OK l n Lw K
def lh(w:br)(s:aW):Bool:=Q (∀c∈w.bC,0<=c.eg/\c.eg<L w.ak)&&(Q (L s.ak=L w.ak)&&(Q (L s.done=L w.bU)&&Q (L s.ay=L w.ay)))
def OP(w:br)(s:aW)(o:L w.bC<4611686018427387904):Ct 119 [.a w.c, .a s.c] (·=bv (lh w s)):=by refine aLr rfl rfl λq n b d i=>?_;simp only[IG,aI,↓uL];refine C7 (L w.bC) (λk=>∀j,j<k->0<=(gd w.bC j).eg/\(gd w.bC j).eg<L w.ak) (by simp) λk m e=>?_;simp+contextual only[acU,IG,u0,u1,ix,b,d,aj,rk,bh,↓uL];refine⟨λh=>⟨vp h,λ_=>vp h,λl=>?_,by grind [gS,aL]⟩,λh=>?_⟩;grind [dB,aL,lh];have g:=(px (p:=λc:yp=>0<=c.eg/\c.eg<L w.ak)).1 (λj f=>e j<|C3 f<|bw h);simp only[lh,aQl g,iw,aqD]
def BZ:FT:=aIc OP
def ayM{w s Lw K}:=gX BZ OP w s Lw K
def aoS:dO:=(139,su)::(122,Ce)::(120,Ch)::(81,aQF)::(119,BZ)::[]
def Br:eJ aoS:=it (nI OR)<|it (nI OW)<|it (nI Pd)<|it (aCb OK)<|it (aCb OP)<|wO
def z8:=ai @ayO<|ai @ayT<|ai @ay2<|ai @ayH<|@ayM
abbrev fB:List AV:=[iv 0]
abbrev bH:List AV:=[iv 0]
def at3:=bi 34 [(3,([8],[2,3,7])),(11,([18],[2,3,7])),(14,([26],[2,3,7])),(17,([43],[2,3,7])),(22,([61],[2,3,7])),(27,([71],[2,3,7])),(30,([79],[2,3]))]
def adh a f g R b:=Rg->ah (gt b 0) (ab 3 a f λc=>aJ a c λd=>fV su a [g,d] λe=>aE R a [e]) (aE R a [bv I])
def ado c(a:cG):=bf c (iv 22) λb=>ah b (a [b]) (bf c (iv 23) λd=>a [d])
def adf a b d R h c:=Rg->ah (gt c 0) (ab 4 a b λe=>aJ a e λf=>fV su a [d,f] λg=>aE R a [g]) (jR 30 (adh a b d R)<|ado h)
def adm c(a:cG):=bf c (iv 20) λb=>ah b (a [b]) (bf c (iv 21) λd=>a [d])
def ade a b e R d c:=Rg->ah (gt c 0) (ab 2 a b λf=>aJ a f λg=>fV su a [e,g] λh=>aE R a [h]) (jR 27 (adf a b e R d)<|adm d)
def adl b(a:cG):=bf b (iv 16) λc=>ah c (a [c]) (bf b (iv 17) λd=>ah d (a [d])<|bf b (iv 18) λe=>ah e (a [e])<|bf b (iv 19) λf=>a [f])
def adc a c d R f e:=Rg->ah (gt e 0) (ab 1 a c λg=>aJ a g λh=>fV su a [d,h] λb=>aT b 1 a c λi=>fm b d λj=>az b (ao 2 a i j) λk=>aT b 1 a k λl=>aD b l (bv I) λm=>aE R a [m]) (jR 22 (ade a c d R f)<|adl f)
def adk b(a:cG):=bf b (iv 8) λc=>ah c (a [c]) (bf b (iv 9) λd=>ah d (a [d])<|bf b (iv 10) λe=>ah e (a [e])<|bf b (iv 11) λf=>a [f])
def adb b c d R f e:=Rg->ah (gt e 0) (ab 1 b c λg=>aJ b g λh=>fV su b [d,h] λa=>aT a 1 b c λi=>fm a d λj=>az a (ao 2 b i j) λk=>aT a 1 b k λl=>az a (cf l) λm=>aD a m (bv I) λn=>aE R b [n]) (jR 17 (adc b c d R f)<|adk f)
def adj c(a:cG):=bf c (iv 6) λb=>ah b (a [b]) (bf c (iv 7) λd=>a [d])
def ada a b d R c e:=Rg->ah (gt e 0) (ab 0 a b λf=>aJ a f λg=>fV su a [d,g] λh=>aE R a [h]) (jR 14 (adb a b d R c)<|adj c)
def adi c(b:cG):=bf c (iv 3) λa=>ah a (b [a]) (bf c (iv 4) λd=>b [d])
def adg b R c e a d:=Rg->ah (gt d 0) (bf b (iv<|-1) λt4=>aE R c [t4]) (jR 11 (ada c e b R a)<|adi a)
def adn b(a:cG):=bf b (iv 1) λc=>ah c (a [c]) (bf b (iv 2) λd=>ah d (a [d])<|bf b (iv 5) λe=>ah e (a [e])<|bf b (iv 12) λf=>ah f (a [f])<|bf b (iv 13) λg=>ah g (a [g])<|bf b (iv 14) λh=>ah h (a [h])<|bf b (iv 15) λi=>a [i])
def ac9 b a c d R:=jR 3 (adg c R d b a)<|adn a
def aLv{b:List AV}{c d:AV}{R:o8}(l0:L b=6)(h:H1 31 6 3 b λe f=>ac9 e c d f R):Ct 140 [.a b,c,d] R:=z1 at3 Br Tryz.func140 l0 h
def ads e d a R:=aw 6 a e λw=>aB 0 a d λx=>aw 4 a x λy=>fV BZ a [w,y] λf=>aT f 4 a d λg=>az f (aJ a g) λh=>aT f 0 a e λi=>az f (aJ a i) λj=>az f (bf h j) λk=>aD f k (bv I) λb=>aT b 5 a d λl=>az b (aJ a l) λm=>aT b 3 a e λn=>az b (aJ a n) λo=>az b (bf m o) λp=>aD b p (bv I) λc=>aT c 6 a d λq=>az c (aJ a q) λr=>aT c 4 a e λs=>az c (aJ a s) λt=>az c (bf r t) λu=>aD c u (bv I) λv=>aE R a [v]
def aLx{b:List AV}{c:List AV}{R:o8}(l0:L b=6)(l1:L c=7)(h:H2 31 6 2 b 40 7 3 c λd e f=>ads d e f R):Ct 66 [.a b, .a c] R:=z2 at1 Br Tryz.func66 l0 l1 h
def at0:=bi 10 [(4,([5,6],[1,2])),(7,([5],[1,2,6]))]
def ac5 c(f:aG)(e:bu) g d a:=Rg->aV (gt c 1) (iv 1) λb=>f [gt d 0,b] a/\e [gt d 0,b] a<e c g
def ac6 b d c t(e:aG):=ab 3 b d λh=>ao 3 b h (gt c 1) λi=>ab 0 b i λj=>bf j (iv 3) λa=>aT a 3 b d λk=>fm a (gt c 1) λl=>az a (ao 3 b k l) λm=>aT a 1 b m λn=>fm a t λo=>az a (bf n o) λp=>aD a p (bv I) λq=>ah q (eV (aX bH 1 b [(0,gt c 1)]) λr f=>eV (cj 3 fB 8 f 34 (gt c 0) r) λs g=>e [s] g)<|e [gt c 0] b
def ac7 c e R d f a b:=Rg->ab 3 b c λg=>aJ b g λh=>aU (gt a 1) h λi=>ah i (jV 7 (ac5 a d f b)<|ac6 b c a e)<|aE R b [gt a 0]
def II a b c R:=lV [.l [] U U,iv 0] c<|ac7 a b R
def aLt{b:List AV}{c:AV}{R:o8}(l0:L b=4)(h:H1 36 4 2 b λd e=>II d c e R):Ct 78 [.a b,c] R:=z1 at0 Br Tryz.func78 l0 h
def at4:=bi 10 [(4,([5,6],[0,1])),(7,([5],[0,1,6]))]
def adp a(e:aG)(m1:bu) f b c:=Rg->aV (gt a 1) (iv 1) λd=>e [gt b 0,d] c/\m1 [gt b 0,d] c<m1 a f
def adq b d a l(c:aG):=ao 1 b d (gt a 1) λm=>aM b m λn=>aO .neq n l λg=>ah g (ao 1 b d (gt a 1) λh=>aM b h λi=>eV (aX bH 1 b [(0,i)]) λj e=>eV (cj 3 fB 8 e 25 (gt a 0) j) λk f=>c [k] f)<|c [gt a 0] b
def adr c e R d m1 a b:=Rg->aJ b c λt3=>aU (gt a 1) t3 λt4=>ah t4 (jV 7 (adp a d m1 b)<|adq b c a e)<|aE R b [gt a 0]
def IJ a b s0 R:=lV [.l [] U U,iv 0] s0<|adr a b R
def aLw{a b:AV}{R:o8}(h:H0 λs0=>IJ a b s0 R):Ct 142 [a,b] R:=z0 at4 Br Tryz.func142 h
def Gr(Y:ae)(ds:List Nat)(e:TypeId)(z:Nat)(a:AV)(aa:List<|List AV):Prop:=(aa=[]/\a= .l [] U U)\/∃d v,a= .m (d,v) (L aa)/\d∈ds/\box Y (d,v)=V ⟨e,z,U,I,aa⟩
def Fr(Y Y':ae)(ds:List Nat):Prop:=L Y'=L Y/\∀k,k∉ds->aZ Y' k=aZ Y k
theorem Fr.refl(Y:ae)(ds:List Nat):Fr Y Y ds:=⟨rfl,λ_ _=>rfl⟩
theorem Fr.trans{Y Y' a:ae}{ds:List Nat}(h:Fr Y Y' ds)(b:Fr Y' a ds):Fr Y a ds:=⟨b.1.trans h.1,λk c=>(b.2 k c).trans<|h.2 k c⟩
theorem Fr.box{Y Y':ae}{ds:List Nat}(h:Fr Y Y' ds){k v:Nat}(a:k∉ds):box Y' (k,v)=box Y (k,v):=by unfold Ab.box;simp only[h.2 k a]
theorem Gr.nil{Y:ae}{ds:List Nat}{e:TypeId}{z:Nat}:Gr Y ds e z (.l [] U U) []:= .inl ⟨rfl,rfl⟩
def Qi{Y:ae}{b:Id}:L (kill Y b)=L Y:=yg b
theorem ani{Y:ae}{b:Id}{k:Nat}(h:k≠b.1):aZ (kill Y b) k=aZ Y k:=jQ h
def aIQ{Y:ae}{b:Id}{k:Nat}(a:b.1<L Y):(aZ (kill Y b) k).lB=(aZ Y k).lB:=by grind [kill,iD,jQ]
def eF{e:TypeId}{z d:Nat}{b cs:List AV}{Y:ae}{K:be}(n:L b=z)(l:L cs=z)(j:0<z)(i:d<L Y)(g:∀Y',Fr Y Y' [d]->box Y' (d,(aZ Y d).lB+1)=V ⟨e,z,U,U,[cs]⟩->K (.p (d,(aZ Y d).lB+1) 0 0) Y'):eV (bs e b Y d) λp s=>sV (aK z s p<|.a cs) λs'=>K p s':=by have c:bs e b Y d=V (.p (d,(aZ Y d).lB+1) 0 0,put Y d ⟨e,z,U,U,[b]⟩):=(by grind [bs,vg,lA]);rw[c];have h:box (put Y d ⟨e,z,U,U,[b]⟩) (d,(aZ Y d).lB+1)=V ⟨e,z,U,U,[b]⟩:=zQ i rfl;have f:aK z (put Y d ⟨e,z,U,U,[b]⟩) (.p (d,(aZ Y d).lB+1) 0 0) (.a cs)=V (wr (put Y d ⟨e,z,U,U,[b]⟩) (d,(aZ Y d).lB+1) ⟨e,z,U,U,[cs]⟩):=(by grind [aK,aBG,pW,eY,qh]);show sV (aK z (put Y d ⟨e,z,U,U,[b]⟩) (.p (d,(aZ Y d).lB+1) 0 0)<|.a cs) _;rw[f];refine g _ ⟨by rw[uC,D3],λk m=>?_⟩<|lO h;grind [wy,yk]
def fP{Y:ae}{ds:List Nat}{e:TypeId}{z d i:Nat}{B:List AV}{a:AV}{aa new:List (List AV)}{t o:Bool}{K:be}(u:Gr Y ds e z a aa)(p:L B=z)(C:0<z)(n:d∈ds)(w:d<L Y)(F:∀r∈aa,L r=z)(E:∀r∈new,L r=z)(D:(L aa+L new)*(i+1)<=1099511627776)(h:∀q Y',Gr Y' ds e z q (aa++new)->Fr Y Y' ds->K q Y'):eV (cj e B i Y d a<|.l new t o) K:=by unfold cj;simp only[gL];by_cases s:L new=0;rw[d7 s];have A:new=[]:=(by simp_all);subst A;rcases u with⟨b,c⟩|⟨m,v,b,c,f⟩;subst b c;exact h _ _ (.inl ⟨rfl,rfl⟩)<|Fr.refl _ _;subst b;simp only[f,df];exact h _ _ (.inr ⟨m,v,by simp,c,by simpa using f⟩)<|Fr.refl _ _;rw[bA s,d7 ⟨by omega,by simp[vg,w],by simp_all⟩];have g:∀(j:ae) (x:bY),L j=L Y->box (put j d x) (lA j d)=V x:=(by grind [lA,zQ]);rcases u with⟨b,c⟩|⟨m,v,b,c,f⟩;subst b c;simp only;rw[d7 ⟨by simp,by grind [lx]⟩];refine h _ _ (.inr ⟨d,(aZ Y d).lB+1,by simp[lA],n,?_⟩) ⟨by simp[put],λk y=>yk<|λe=>y<|e▸n⟩;rw[<-p];exact g Y _ rfl;subst b;simp only[f];rw[d7 ⟨trivial,trivial,p.symm,dA _,by grind [lx]⟩];refine h _ _ (.inr ⟨d,(aZ (kill Y (m,v)) d).lB+1,by simp[lA,aIQ<|lN f],n,?_⟩) ⟨by simp[put,Qi],λk y=>?_⟩;rw[<-p];simp only[gV];exact g _ _ Qi;grind [yk,ani]
theorem qV{Y:ae}{ds:List Nat}{e:TypeId}{z:Nat}{a:AV}{aa:List (List AV)}{R:o8}(f:Gr Y ds e z a aa)(h:∀t,R<|.l aa t U):aE R Y [a]:=by unfold aE jS;rcases f with⟨b,c⟩|⟨g,v,b,c,d⟩;subst b c;exact⟨rfl,h U⟩;subst b;simp only[iZ,dQ,d,NA,gV];exact⟨rfl,h I⟩
def iz{Y:ae}{z0:AV}{y:Value}:aX [z0] 1 Y [(0, .s y)]=V (.l [[.s y]] U U,Y):=by simp[aX,aly,eY,nrm,gK,eR,gi,eB,iR,kills,kC,eN]
def ua{Y:ae}{b cs:List AV}(d:nrm (eR Y<|.a cs)= .a cs)(e:eB (.a cs)=[])(f:L cs=L b)(g:0<L b)(h:cs.all eN=U)(i:L b<=1000):aX b 1 Y [(0, .a cs)]=V (.l [cs] U U,Y):=by simp only[aX,ji,mU,d,List.flatMap_cons,List.flatMap_nil,e,cL,kills,aRl];have c:(er 1 b).flatten=b:=(by simp);rw[d7 ⟨by omega,g⟩,c];simp only[aly,eY,f,Nat.zero_mul,aj,dA,ld,NA,CE,dW,Gz,cL,qd,h,df];grind [kC]
def gI(mk:AV->Int->List AV)(b:ae)(ds:List Nat)(e:TypeId)(z n:Nat)(aa:Nat->List (List AV))(Inv:Nat->Prop):aG:=λvs Y=>∃(k:Nat) (a:AV),vs=mk a k/\k<=n/\Inv k/\Gr Y ds e z a (aa k)/\Fr b Y ds
def gM(p n:Nat):bu:=λvs _=>match gt vs p with| .s (.int _ i)=>n-i.toNat|_=>0
def am9{B:(aG)->(bu)->aG}(mk:AV->Int->List AV)(p:Nat)(ds:List Nat)(e:TypeId)(z n:Nat)(aa:Nat->List (List AV))(Inv:Nat->Prop){c:AV}{b:ae}(d:Inv 0)(f:Gr b ds e z c<|aa 0)(h:∀(k:Nat) a Y,k<=n->Inv k->Gr Y ds e z a (aa k)->Fr b Y ds->B (gI mk b ds e z n aa Inv) (gM p n) (mk a k) Y):lV (mk c 0) b B:=⟨gI mk b ds e z n aa Inv,gM p n,⟨0,c,rfl,mh _,d,f,Fr.refl _ _⟩,by rintro vs Y ⟨k,a,rfl,l,j,i,g⟩;simp_all⟩
def Dr{mk:AV->Int->List AV}{p:Nat}{c Y Y':ae}{ds:List Nat}{e:TypeId}{z n k:Nat}{aa:Nat->List (List AV)}{Inv:Nat->Prop}{a b:AV}(j:∀a i,gt (mk a i) p=iv i)(g:k<n)(h:n<4611686018427387904)(hI:Inv<|k+1)(f:Gr Y' ds e z b<|aa<|k+1)(d:Fr c Y' ds):gI mk c ds e z n aa Inv (mk b<|dq.wrap<|(k:Int)+1) Y'/\gM p n (mk b<|dq.wrap<|(k:Int)+1) Y'<gM p n (mk a k) Y:=by rw[eM (by omega)<|by omega];refine⟨⟨k+1,b,rfl,g,hI,f,d⟩,?_⟩;grind [gM]
def fI(a:ae)(ds:List Nat)(n:Nat)(Inv:Nat->Prop):aG:=λvs Y=>∃k:Nat,vs=[iv k]/\k<=n/\Inv k/\Fr a Y ds
def fM(n:Nat):bu:=λvs _=>cM n vs
def pQ{B:(aG)->(bu)->aG}{a:ae}(n:Nat)(ds:List Nat)(Inv:Nat->Prop)(b:Inv 0)(h:∀(k:Nat) Y,k<=n->Inv k->Fr a Y ds->B (fI a ds n Inv) (fM n) [iv k] Y):lV [iv 0] a B:=⟨fI a ds n Inv,fM n,⟨0,rfl,mh _,b,Fr.refl _ _⟩,by rintro vs Y ⟨k,rfl,e,d,c⟩;simp_all⟩
theorem oL{n k:Nat}{ds:List Nat}{Inv:Nat->Prop}{a Y Y':ae}(c:k<n)(d:n<4611686018427387904)(h:Inv<|k+1)(b:Fr a Y' ds):fI a ds n Inv [iv<|dq.wrap<|(k:Int)+1] Y'/\fM n [iv<|dq.wrap<|(k:Int)+1] Y'<fM n [iv k] Y:=by rw[fX<|by omega];refine⟨⟨k+1,rfl,c,h,b⟩,?_⟩;grind [fM,cM,bh]
theorem Fr.mono{Y Y':ae}{ds a:List Nat}(h:Fr Y Y' ds)(b:∀k∈ds,k∈a):Fr Y Y' a:=⟨h.1,λk c=>h.2 k<|by grind⟩
def nS{Y:ae}{z0:AV}{a:List AV}:aX (z0::a) 0 Y []=V (.l [] U U,Y):=by simp[aX,aly,kills,kC]
def aIk{α:Type}{f:α->List AV}{l:List α}{z:Nat}{i:Int}{Y:ae}{K:o8}(b:∀x,L (f x)=z):rV (fo z Y (sl f l) J (V<|iv i) J) K=((0<=i/\i<=L l)/\K (sl f<|l.take i.toNat)):=by simp only[fo,lM,sl];by_cases a:0<=i;simp only[a,NA,qY,sD,mi,mh,bR,bJ];grind [rV,bkj];simp[a,rV]
def aIm{α:Type}{f:α->List AV}{l:List α}{z:Nat}{i:Int}{Y:ae}{K:o8}(b:∀x,L (f x)=z):rV (fo z Y (sl f l) (V<|iv i) J J) K=((0<=i/\i<=L l)/\K (sl f<|l.drop i.toNat)):=by simp only[fo,lM,sl];by_cases a:0<=i;simp only[a,NA,qY,sD,mi,bJ,dA,bR];grind [rV,List.map_drop,List.take_of_length_le];simp[a,rV]
def aov{l:List Int}{i:Int}{Y:ae}{K:o8}:rV (fo 1 Y (sl ci l) J (V<|iv i) J) K=((0<=i/\i<=L l)/\K (sl ci<|l.take i.toNat)):=aIk λ_=>rfl
def aIg{l:List Int}{i:Int}{Y:ae}{K:o8}:rV (fo 1 Y (sl ci l) (V<|iv i) J J) K=((0<=i/\i<=L l)/\K (sl ci<|l.drop i.toNat)):=aIm λ_=>rfl
def aFj{α:Type}{f:α->List AV}{l:List α}{R:o8}{Y:ae}:aE R Y [sl f l]=R (sl f l):=by simp[aE,jS,iZ,dQ,sl,kG,pF,nj]
def Fr.bt{Y Y':ae}{ds:List Nat}(h:Fr Y Y' ds){k v:Nat}{x:Option bY}(b:Ab.box Y (k,v)=x)(a:k∉ds:=by decide):Ab.box Y' (k,v)=x:=(h.box a).trans b
def named(w:br)(kind nt:Int):Bool:=
 bif Q (kind=1)||(Q (kind=2)||(Q (kind=5)||(Q (kind=12)||(Q (kind=13)||(Q (kind=14)||Q (kind=15)))))) then Q (nt= -1)
 else bif Q (kind=3)||Q (kind=4) then dh nt (L w.cells)
 else bif Q (kind=6)||Q (kind=7) then dh nt (L w.ak)&&!(gd w.ak nt.toNat).rw
 else bif Q (kind=8)||(Q (kind=9)||(Q (kind=10)||Q (kind=11))) then dh nt (L w.ak)&&(gd w.ak nt.toNat).rw
 else bif Q (kind=16)||(Q (kind=17)||(Q (kind=18)||Q (kind=19))) then dh nt (L w.bC)
 else bif Q (kind=20)||Q (kind=21) then dh nt (L w.ay)
 else bif Q (kind=22)||Q (kind=23) then dh nt (L w.bU)
 else I
def OS(w:br)(kind nt:Int):Ct 140 [.a w.c,iv kind,iv nt] (·=bv (named w kind nt)):=by refine aLv rfl λf e b d=>?_;simp only[ac9,↓uL];simp only[f8,adn,iM,aY,sw,↓uL];simp only[adg,aI,au,↓uL];simp only[f8,adi,iM,aY,sw,↓uL];simp only[ada,aI,au,↓uL];simp only[f8,adj,iM,aY,sw,↓uL];simp only[adb,aI,au,↓uL];simp only[f8,adk,iM,aY,sw,↓uL];simp only[adc,aI,au,↓uL];simp only[f8,adl,iM,aY,sw,↓uL];simp only[ade,aI,au,↓uL];simp only[f8,adm,iM,aY,sw,↓uL];simp only[adf,aI,au,↓uL];simp only[f8,ado,iM,aY,sw,↓uL];simp only[adh,aI,au,↓uL];simp+contextual only[↓iC,↓iB,↓iS,u0,u1,z8,ar,b,rk,ix,aj,named,vb,aoC,DR,hH,ld,↓uL]
def FH:FT:=za OS
def ayP{w kind nt Lw K}:=KP FH OS w kind nt Lw K
def fN(w:br)(s:mn):Bool:=lh w s.bm&&(Q (L s.cells=L w.cells)&&(Q (L s.bU=L w.bU)&&Q (L s.count=L w.ay)))
def OU(w:br)(s:mn)(e:L w.bC<4611686018427387904):Ct 66 [.a w.c, .a s.c] (·=bv (fN w s)):=by refine aLx rfl rfl λh g b d f=>?_;simp+contextual only[ads,u0,u1,z8,ar,b,d,rk,ix,aj,fN,aqD,e,ld,↓uL]
def Cc:FT:=aIc OU
def ayR{w s Lw K}:=gX Cc OU w s Lw K
def pe(s:aW)(c:Int)(i:Nat):Bool:=Q ((gd s.ay i).cQ=3)&&Q ((gd s.ay i).cond=c)
def eh(s:aW)(c:Int)(k:Nat):List Int:=((aH k).filter<|pe s c).map λ(i:Nat)=>(i:Int)
def fO(s:aW)(c:Int):List Int:=eh s c<|L s.ay
theorem vc(s:aW)(c:Int)(k:Nat):eh s c (k+1)=eh s c k++if pe s c k then[(k:Int)] else[]:=by grind [eh,List.range_succ]
theorem wU(s:aW)(c:Int)(k:Nat):L (eh s c k)<=k:=by grind [eh,bJ,gl,fZ]
def OQ(s:aW)(c:Int)(v:L s.ay<1000000):Ct 78 [.a s.c,iv c] (λr=>∃t,r= .l ((fO s c).map ci) t U):=by refine aLt rfl λx n j q=>?_;simp only[II,↓uL];refine am9 (λa i=>[a,iv i]) 1 [34] 3 1 (L s.ay) (λk=>(eh s c k).map ci) (λ_=>True) trivial (.inl ⟨rfl,rfl⟩) λk a Y u _ f b=>?_;have d:box Y (2,1)=_:=b.bt j;simp+contextual only[ac5,ac6,ac7,II,u0,u1,z8,ar,d,rk,ix,aj,bh,iz,↓uL];refine⟨λh=>⟨vp h,λ_=>vp h,λm=>?_,λm=>?_⟩,λh=>?_⟩;have w:=wU s c k;refine fP f rfl (by decide) (by decide) (by rw[b.1,n];decide) (by simp) (by simp) (by simp;omega) λp Y' o e=>?_;refine Dr (mk:=λa i=>[a,iv i]) (λ_ _=>rfl) (aL h) (by omega) trivial ?_<|b.trans e;grind [vc,pe];refine Dr (mk:=λa i=>[a,iv i]) (λ_ _=>rfl) (aL h) (by omega) trivial ?_ b;grind [vc,pe];have g:k=L s.ay:=(by grind);subst g;exact qV f λt=>⟨t,rfl⟩
def w7:FT:=pn OQ
def ayN{s c Lw K}:=rQ w7 OQ s c Lw K
def fJ(l:List Int)(n:Int):List Int:=l.filter λx=>Q<|x≠n
theorem EA{l:List Int}{k:Nat}(h:k<L l):l.take (k+1)=l.take k++[gd l k]:=by rw[bT h,iJ h]
def OT(l:List Int)(n:Int)(q:L l<1000000):Ct 142 [sl ci l,iv n] (λr=>∃t,r= .l ((fJ l n).map ci) t U):=by refine aLw λu g o=>?_;simp only[IJ,↓uL];refine am9 (λa i=>[a,iv i]) 1 [25] 3 1 (L l) (λk=>(fJ (l.take k) n).map ci) (λ_=>True) trivial (.inl ⟨rfl,rfl⟩) λk a Y p _ c b=>?_;simp+contextual only[adp,adq,adr,IJ,u0,u1,z8,ar,rk,ix,aj,bh,iz,↓uL];refine⟨λh=>⟨vp h,λe=>⟨vp h,?_⟩,λe=>?_⟩,λh=>?_⟩;have s:L (fJ (l.take k) n)<=k:=gl (fZ _ _) (by simp;omega);refine fP c rfl (by decide) (by decide) (by rw[b.1,g];decide) (by simp) (by simp) (by simp;omega) λm Y' j d=>?_;refine Dr (mk:=λa i=>[a,iv i]) (λ_ _=>rfl) (aL h) (by omega) trivial ?_<|b.trans d;grind [EA,aL,fJ];refine Dr (mk:=λa i=>[a,iv i]) (λ_ _=>rfl) (aL h) (by omega) trivial ?_ b;rw[EA<|aL h,fJ,List.filter_append,dg];simp only[List.filter_cons,e,List.filter_nil,eE,aPZ,mU,cL];exact c;have f:k=L l:=(by grind);subst f;rw[gV] at c;grind [qV]
def Cb:FT:=pn OT
def ayQ{l n Lw K}:=rQ Cb OT l n Lw K
def aoT:dO:=(140,FH)::(66,Cc)::(78,w7)::(142,Cb)::aoS
def ao9:eJ aoT:=it (Rs OS)<|it (aCb OU)<|it (aN0 OQ)<|it (aN0 OT)<|Br
def K1:=ai @ayP<|ai @ayR<|ai @ayN<|ai @ayQ<|@z8
abbrev aQ2:List AV:=[iv 0,iv 0,bv I]
def atX:=bi 48 [(22,([119],[2,4,5,6,11,70])),(35,([160],[2,4,5,6,70]))]
def acR a d P e h R f g:=Rg->ah (gt g 0) (ab 0 a d λi=>ab 2 a P λj=>ao 2 a j e λk=>ab 1 a k λl=>ao 2 a i l λm=>ab 0 a m λn=>bf n h λo=>aE R a [o]) (bf f (iv 20) λp=>ah p (aO .neq e h λb=>aT b 3 a d λq=>fm b e λr=>az b (ao 3 a q r) λs=>aT b 0 a s λt=>az b (bf t<|iv 0) λu=>aD b u (bv I) λv=>aE R a [v])<|bf f (iv 21) λw=>ah w (aO .neq e h λc=>aT c 3 a d λx=>fm c e λy=>az c (ao 3 a x y) λz=>aT c 0 a z λA=>az c (bf A<|iv 5) λB=>aD c B (bv I) λC=>aE R a [C])<|bf f (iv 22) λD=>ah D (ab 2 a d λE=>ao 1 a E e λF=>aM a F λG=>cf G λH=>aE R a [H])<|bf f (iv 23) λK=>ah K (ab 2 a d λM=>ao 1 a M e λN=>aM a N λO=>aE R a [O])<|aE R a [bv U])
def acT d(a:cG):=bf d (iv 16) λb=>ah b (a [b]) (bf d (iv 18) λc=>ah c (a [c])<|bf d (iv 19) λe=>a [e])
def acQ a b g e R c d B f:=Rg->ah (gt f 0) (ab 0 a b λh=>ao 2 a h g λi=>ab 0 a i λj=>bf j e λk=>aE R a [k]) (bf c (iv 9) λl=>ah l (ab 0 a b λm=>ao 2 a m g λn=>ab 1 a n λo=>fV aQF a [o,e] λp=>aE R a [p])<|bf c (iv 12) λq=>ah q (ab 1 a b λr=>bf r (iv<|-1) λs=>aE R a [s])<|bf c (iv 13) λt=>ah t (ab 1 a b λu=>bf u e λv=>aE R a [v])<|bf c (iv 14) λw=>ah w (ab 2 a d λx=>cf x λy=>aE R a [y])<|bf c (iv 15) λz=>ah z (ab 2 a d λA=>aE R a [A])<|jR 35 (acR a b B g e R c)<|acT c)
def acS d(a:cG):=bf d (iv 7) λb=>ah b (a [b]) (bf d (iv 11) λc=>a [c])
def acP h d R g f j X a:=bf h (iv 1) λZ=>ah Z (ab 0 a d λaa=>bf aa (iv 1) λac=>aE R a [ac]) (bf h (iv 17) λad=>ah ad (ab 0 a d λae=>bf ae (iv 4) λi=>aT i 1 a d λaf=>fm i g λag=>az i (bf af ag) λak=>aD i ak (bv I) λe=>aT e 0 a f λal=>aT e 2 a j λam=>fm e g λan=>az e (ao 2 a am an) λap=>aT e 1 a ap λaq=>az e (ao 2 a al aq) λar=>aT e 0 a ar λau=>az e (bf au<|iv<|-1) λk=>aD e k (bv I) λl=>aE R a [l])<|ab 0 a d λm=>aO .neq m (iv 2) λn=>ah n (aE R a [bv I])<|bf h (iv 6) λo=>ah o (ab 0 a f λp=>ao 2 a p g λq=>ab 0 a q λr=>bf r (iv<|-1) λs=>aE R a [s])<|bf h (iv 10) λt=>ah t (ab 0 a f λu=>ao 2 a u g λv=>ab 0 a v λw=>bf w (iv<|-1) λc=>aT c 0 a f λx=>fm c g λy=>az c (ao 2 a x y) λz=>aT c 1 a z λA=>az c (aJ a A) λB=>az c (bf B<|iv 0) λC=>aD c C (bv I) λD=>aE R a [D])<|bf h (iv 8) λE=>ah E (ab 0 a f λF=>ao 2 a F g λG=>ab 0 a G λH=>bf H (iv<|-1) λb=>aT b 0 a f λK=>fm b g λM=>az b (ao 2 a K M) λN=>aT b 1 a N λO=>fm b X λP=>az b (fV aQF a [O,P]) λS=>az b (cf S) λT=>aD b T (bv I) λW=>aE R a [W])<|jR 22 (acQ a f g X R h d j)<|acS h)
def acO d f g h i a R:=aw 6 a d λy=>aw 4 a f λz=>fV BZ a [y,z] λA=>cf A λe=>bX e g λk=>bn e 4 a d λl=>aC e (aJ a l) λm=>aC e (fV su a [k,m]) λn=>aC e (cf n) λo=>aD e (bv U) o λb=>aC b (aw 6 a d) λp=>bX b h λq=>bX b i λr=>aC b (fV FH a [p,q,r]) λs=>aC b (cf s) λt=>aD b (bv U) t λu=>ah u (aE R a [bv I]) (ab 3 a f λv=>ao 3 a v g λw=>aw 3 a w λx=>eV (bs 85 aQ2 a 11) λc j=>sV (aK 3 j c x)<|acP h c R i f d g)
def aLq{b:List AV}{c:List AV}{d e f:AV}{R:o8}(l0:L b=6)(l1:L c=4)(h:H2 31 6 5 b 36 4 6 c λg i j=>acO g i d e f j R):Ct 76 [.a b, .a c,d,e,f] R:=z2 atX ao9 Tryz.func76 l0 l1 h
def lc(w:br)(s:aW)(t kind nt:Int):Bool:=
 bif Q (kind=1) then Q<|(gd s.ay t.toNat).cQ=1
 else bif Q (kind=17) then Q ((gd s.ay t.toNat).cQ=4)&&(Q ((gd s.ay t.toNat).cond=nt)&&Q ((gd s.ak (gd w.bC nt.toNat).eg.toNat).pw= -1))
 else bif Q ((gd s.ay t.toNat).cQ≠2) then I
 else bif Q (kind=6) then Q<|(gd s.ak nt.toNat).pw= -1
 else bif Q (kind=10) then Q ((gd s.ak nt.toNat).pw= -1)&&Q (L (gd s.ak nt.toNat).bk=0)
 else bif Q (kind=8) then Q ((gd s.ak nt.toNat).pw= -1)&&!Q (t∈(gd s.ak nt.toNat).bk)
 else bif Q (kind=7)||Q (kind=11) then Q ((gd s.ak nt.toNat).pw=t)
 else bif Q (kind=9) then Q<|t∈(gd s.ak nt.toNat).bk
 else bif Q (kind=12) then Q<|s.tx= -1
 else bif Q (kind=13) then Q<|s.tx=t
 else bif Q (kind=14) then !(gd s.ay t.toNat).atomic
 else bif Q (kind=15) then(gd s.ay t.toNat).atomic
 else bif Q (kind=16)||(Q (kind=18)||Q (kind=19)) then Q ((gd s.ak (gd w.bC nt.toNat).eg.toNat).pw=t)
 else bif Q (kind=20) then Q (nt≠t)&&Q ((gd s.ay nt.toNat).cQ=0)
 else bif Q (kind=21) then Q (nt≠t)&&Q ((gd s.ay nt.toNat).cQ=5)
 else bif Q (kind=22) then !(gd s.done nt.toNat)
 else bif Q (kind=23) then gd s.done nt.toNat
 else U
def jm(w:br)(s:aW)(t kind nt:Int):Bool:=lh w s&&(dh t (L w.ay)&&(named w kind nt&&lc w s t kind nt))
theorem mJ{w:br}{kind nt:Int}(h:named w kind nt=U)(a:6<=kind)(b:kind<=11):aF (L w.ak) nt:=by grind [named,dX]
theorem oT{w:br}{kind nt:Int}(h:named w kind nt=U)(a:16<=kind)(b:kind<=19):aF (L w.bC) nt:=by grind [named,dX]
theorem Eb{w:br}{kind nt:Int}(h:named w kind nt=U)(a:20<=kind)(b:kind<=21):aF (L w.ay) nt:=by grind [named,dX]
theorem oU{w:br}{kind nt:Int}(h:named w kind nt=U)(a:22<=kind)(b:kind<=23):aF (L w.bU) nt:=by grind [named,dX]
theorem qP{w:br}{kind nt:Int}(h:named w kind nt=U)(a:3<=kind)(b:kind<=4):aF (L w.cells) nt:=by grind [named,dX]
theorem iY{w:br}{s:aW}(h:lh w s=U):(∀c∈w.bC,0<=c.eg/\c.eg<L w.ak)/\L s.ak=L w.ak/\L s.done=L w.bU/\L s.ay=L w.ay:=by grind [lh]
theorem ii{α:Type}[Inhabited α]{l:List α}{i:Int}(h:aF (L l) i):gd l i.toNat∈l:=dB (by have:=h.1;have:=h.2;omega)
def OO(w:br)(s:aW)(t kind nt:Int)(q:L w.bC<4611686018427387904/\(∀l∈s.ak,L l.bk<4611686018427387904)):Ct 76 [.a w.c, .a s.c,iv t,iv kind,iv nt] (·=bv (jm w s t kind nt)):=by refine aLq rfl rfl λS P b e A=>?_;simp+contextual only[acO,u0,u1,K1,ar,b,e,rk,ix,aj,↓uL];have B:(!lh w s||!dh t (L w.ay)||!named w kind nt)=I->lh w s=U/\dh t (L w.ay)=U/\named w kind nt=U:=(by simp_all);refine⟨q.1,λh=>?_,λh=>?_⟩;grind [jm,lh,dh,named];obtain⟨C,O,R⟩:=B h;obtain⟨y,z,M,N⟩:=iY C;have p:aF (L s.ay) t:=(by grind [dX]);have o:jm w s t kind nt=lc w s t kind nt:=(by grind [jm]);rw[o];refine⟨p,?_⟩;refine eF rfl rfl (by decide) (by omega) λY m n=>?_;rw[A 11 (by decide)<|by decide] at n⊢;have d:box Y (5,1)=_:=m.bt b;have f:box Y (6,1)=_:=m.bt e;simp only[acP,↓uL];simp only[f8,acS,iM,aY,sw,↓uL];simp only[acQ,aI,au,↓uL];simp only[f8,acT,iM,aY,sw,↓uL];simp only[acR,aI,au,↓uL];simp+contextual only[↓iC,↓iB,↓iS,u0,u1,K1,ar,n,d,f,rk,ix,aj,↓uL];have H:aF (L w.bC) nt->aF (L s.ak) (gd w.bC nt.toNat).eg:=λh=>(by rw[z];exact y _<|ii h);have D:Q (kind=6)=U->aF (L s.ak) nt:=(by grind [mJ]);have r:Q (kind=10)=U->aF (L s.ak) nt:=(by grind [mJ]);have F:Q (kind=8)=U->aF (L s.ak) nt:=(by grind [mJ]);have G:Q (kind=9)=U->aF (L s.ak) nt:=(by grind [mJ]);have E:(Q (kind=7)||Q (kind=11))=U->aF (L s.ak) nt:=(by grind [mJ]);have i:Q (kind=17)=U->aF (L w.bC) nt:=(by grind [oT]);have g:(Q (kind=16)||(Q (kind=18)||Q (kind=19)))=U->aF (L w.bC) nt:=(by grind [oT]);have u:Q (kind=20)=U->aF (L s.ay) nt:=(by grind [Eb]);have v:Q (kind=21)=U->aF (L s.ay) nt:=(by grind [Eb]);have j:Q (kind=22)=U->aF (L s.done) nt:=(by grind [oU]);have k:Q (kind=23)=U->aF (L s.done) nt:=(by grind [oU]);have K:aF (L s.ak) nt->L (gd s.ak nt.toNat).bk<4611686018427387904:=λh=>q.2 _<|ii h;have x:(L (gd s.ak nt.toNat).bk:Int)=0↔L (gd s.ak nt.toNat).bk=0:=(by omega);simp+contextual only[lc,vb,aoC,H,D,E,F,G,r,g,i,u,v,j,k,K,x,bR,tn,hH,ld]
def BY:FT:=zb OO
def ayL{w s t kind nt Lw K}:=KQ BY OO w s t kind nt Lw K
def aoU:dO:=(76,BY)::aoT
def wP:eJ aoU:=it (Rt OO)<|ao9
def K3:=ai @ayL<|@K1
def adR s0 e A R(z:cG)(m1:fD) b:=Rg->aJ s0 e λB=>aU (gt b 0) B λt3=>ah t3 (ao 1 s0 e (gt b 0) λt4=>aM s0 t4 λC=>aU C (iv 1) λd=>bX d e λD=>bX d (gt b 0) λg=>aC d (ao 1 s0 D g) λh=>aC d (aM s0 h) λi=>bX d A λj=>aC d (aO .geq i j) λk=>aD d (bv U) k λc=>bX c (gt b 0) λl=>aC c (aO .gtr l<|iv 0) λm=>bX c m λa=>fm a e λn=>fm a (gt b 0) λo=>az a (ao 1 s0 n o) λp=>az a (aM s0 p) λq=>fm a e λr=>fm a (gt b 0) λs=>az a (aO .sub s<|iv 1) λt=>az a (ao 1 s0 r t) λu=>az a (aM s0 u) λv=>az a (aO .leq q v) λw=>aC c (aD a w<|bv I) λx=>aD c (bv U) x λy=>ah y (aE R s0 [bv I])<|aV (gt b 0) (iv 1) λf=>z [f]/\m1 [f]<m1 b)<|aE R s0 [bv U]
def IQ a b s0 R:=lR [iv 0]<|adR s0 a b R
def aLB{a b:AV}{R:o8}(h:H0 λs0=>IQ a b s0 R):Ct 123 [a,b] R:=z0 atS wP Tryz.func123 h
def ad8 c d a R:=aB 7 a c λt3=>ab 6 a t3 λl=>aJ a l λm=>fV Ch a [d,m] λb=>az b (aB 7 a c) λe=>aT b 6 a e λf=>fm b d λg=>az b (ao 1 a f g) λh=>az b (aM a h) λi=>az b (aO .geq i<|iv 1) λj=>aD b j (bv I) λk=>aE R a [k]
def aLG{b:List AV}{c:AV}{R:o8}(l0:L b=15)(h:H1 43 15 2 b λd e=>ad8 d c e R):Ct 121 [.a b,c] R:=z1 at1 wP Tryz.func121 l0 h
def aub:=bi 12 [(3,([2,7],[1,3])),(6,([2],[1,3,7]))]
def adZ a(e:cG)(c:fD) b:=Rg->aV (gt a 1) (iv 1) λd=>e [gt b 0,d]/\c [gt b 0,d]<c a
def ad0 b j a k R(c:cG):=ab 14 b j λd=>ao 7 b d (gt a 1) λe=>ab 0 b e λf=>bf f k λg=>ah g (bf (gt a 0) (iv 0) λh=>ah h (aE R b [gt a 1])<|aO .sub (gt a 0) (iv 1) λi=>c [i])<|c [gt a 0]
def ad1 b c e R d f a:=Rg->ab 14 b c λg=>aJ b g λh=>aU (gt a 1) h λi=>ah i (jR 6 (adZ a d f)<|ad0 b c a e R)<|aE R b [iv<|-1]
def IR a b c d R:=lR [c,iv 0]<|ad1 d a b R
def aLE{b:List AV}{c d:AV}{R:o8}(l0:L b=15)(h:H1 43 15 3 b λe f=>IR e c d f R):Ct 125 [.a b,c,d] R:=z1 aub wP Tryz.func125 l0 h
def aue:=bi 12 [(4,([3,4],[1]))]
def ad9 a e R(D:cG)(h:fD) b:=Rg->aB 7 a e λt4=>ab 6 a t4 λE=>aJ a E λF=>aU (gt b 1) F λG=>ah G (aB 7 a e λH=>ab 6 a H λi=>ao 1 a i (gt b 1) λj=>aM a j λk=>aU k (iv 0) λc=>aC c (aB 7 a e) λl=>bn c 6 a l λm=>bX c (gt b 1) λn=>aC c (ao 1 a m n) λo=>aC c (aM a o) λp=>aC c (aO .gtr p<|iv 400) λq=>aD c (bv U) q λr=>ah r (aE R a [bv I])<|aB 7 a e λs=>ab 6 a s λt=>ao 1 a t (gt b 1) λu=>aM a u λv=>aV (gt b 0) v λf=>aV (gt b 1) (iv 1) λg=>D [f,g]/\h [f,g]<h b) (ab 6 a e λw=>bf w (gt b 0) λd=>fm d (gt b 0) λx=>aT d 14 a e λy=>az d (aJ a y) λz=>az d (aV x z) λA=>az d (aO .leq A<|iv 400) λB=>aD d B (bv I) λC=>aE R a [C])
def IS a b R:=lR [iv 0,iv 0]<|ad9 b a R
def aLH{b:List AV}{R:o8}(l0:L b=15)(h:H1 43 15 1 b λc d=>IS c d R):Ct 67 [.a b] R:=z1 aue wP Tryz.func67 l0 h
def at9:=bi 21 [(9,([40],[2,3,7]))]
def adT R a s e b i:=Rg->ah (gt i 0) (aE R a [bv U]) (bf s (iv 18) λj=>ah j (aB 0 a e λk=>aw 4 a k λl=>ab 2 a b λm=>fV w7 a [l,m] λf=>aJ a f λn=>bf n (iv 0) λo=>ah o (ab 3 a b λp=>bf p (iv<|-1) λq=>aE R a [q])<|ab 3 a b λr=>aO .geq r (iv 0) λc=>aT c 3 a b λt=>az c (aB 0 a e) λu=>aT c 3 a u λv=>az c (aJ a v) λw=>az c (aU t w) λx=>aD c x (bv I) λd=>fm d f λy=>aT d 3 a b λz=>az d (fV aQF a [y,z]) λA=>aD d A (bv I) λB=>aE R a [B])<|bf s (iv 19) λC=>ah C (ab 3 a b λD=>aB 0 a e λE=>aw 4 a E λF=>ab 2 a b λG=>fV w7 a [F,G] λH=>aJ a H λK=>bf D K λM=>aE R a [M])<|ab 3 a b λg=>bf g (iv 0) λh=>aE R a [h])
def adU d(b:cG):=bf d (iv 4) λa=>ah a (b [a]) (bf d (iv 22) λc=>b [c])
def adS c b a R:=ab 1 a b λe=>bf e (iv 3) λw=>ah w (ab 3 a b λx=>ab 4 a c λf=>ab 2 a b λg=>ao 1 a f g λh=>aM a h λi=>bf x i λj=>aE R a [j]) (bf e (iv 23) λk=>ah k (ab 3 a b λl=>ab 5 a c λm=>ab 2 a b λn=>ao 1 a m n λo=>aM a o λp=>bf l p λq=>aE R a [q])<|bf e (iv 5) λr=>ah r (ab 3 a b λs=>bf s (iv 0) λd=>bn d 3 a b λt=>aC d (bf t<|iv 1) λu=>aD d (bv U) u λv=>aE R a [v])<|jR 9 (adT R a e c b)<|adU e)
def aLC{b:List AV}{c:List AV}{R:o8}(l0:L b=7)(l1:L c=7)(h:H2 40 7 2 b 87 7 3 c λd e f=>adS d e f R):Ct 124 [.a b, .a c] R:=z2 at9 wP Tryz.func124 l0 l1 h
def abS s0 b e R(d:cG)(m1:fD) a:=Rg->aJ s0 b λf=>aU (gt a 0) f λt3=>ah t3 (ao 1 s0 b (gt a 0) λt4=>aM s0 t4 λg=>bf g e λh=>ah h (aE R s0 [gt a 0])<|aV (gt a 0) (iv 1) λc=>d [c]/\m1 [c]<m1 a)<|aE R s0 [iv<|-1]
def Iz a b s0 R:=lR [iv 0]<|abS s0 a b R
def aLi{a b:AV}{R:o8}(h:H0 λs0=>Iz a b s0 R):Ct 118 [a,b] R:=z0 atS wP Tryz.func118 h
def uJ(l:List Int)(n:Int)(j:Nat):Prop:=1<=gd l j/\gd l j<n/\(0<j->gd l (j-1)<gd l j)
def lZ(l:List Int)(n:Int):Prop:=∀j,j<L l->uJ l n j
instance{l:List Int}{n:Int}{j:Nat}:Decidable (uJ l n j):=by unfold uJ;infer_instance
instance{l:List Int}{n:Int}:Decidable (lZ l n):=by unfold lZ;infer_instance
def OX(l:List Int)(n:Int)(f:L l<4611686018427387904):Ct 123 [sl ci l,iv n] (·=bv (Q<|lZ l n)):=by refine aLB λs0 _ b=>?_;simp only[IQ,↓uL];refine C7 (L l) (λk=>∀j,j<k->uJ l n j) (by simp) λk e d=>?_;simp+contextual only[adR,IQ,u0,u1,ix,rk,bh,↓uL];have g:0<k->(dq.wrap<|(k:Int)-1).toNat=k-1/\dq.wrap ((k:Int)-1)=((k-1:Nat):Int):=(by grind [eM]);have c:k<L l->((Q (gd l k<1)||Q (n<=gd l k)||Q (0<(k:Int))&&Q (gd l k<=gd l (dq.wrap<|(k:Int)-1).toNat))=I↔uJ l n k):=(by grind [uJ]);refine⟨λh=>⟨vp h,λ_=>vp h,λ_ _=>vp h,λ_ a=>?_,λa=>?_,by grind [gS,aL]⟩,λh=>?_⟩;grind [aL,dJ];grind [lZ,aL];grind [lZ,C3,bw]
def Cf:FT:=aIc OX
def ayU{l n Lw K}:=gX Cf OX l n Lw K
def nO(w:am)(t:Int):Bool:=dh t (L w.init.count)&&Q (1<=gd w.init.count t.toNat)
def Pa(w:am)(t:Int):Ct 121 [.a w.c,iv t] (·=bv (nO w t)):=by refine aLG rfl λf e b d=>?_;simp+contextual only[ad8,u0,u1,K3,ar,ix,rk,b,aj,dc,nO,DR,bR,↓uL]
def w8:FT:=lI Pa
def ayZ{w t Lw K}:=nq w8 Pa w t Lw K
def tX(l:List ByteArray)(s:ByteArray):Int:=match l.findIdx? (λx=>Q<|x=s) with|some i=>i|none=> -1
theorem avQ{l:List ByteArray}{s:ByteArray}{k:Nat}(b:k<L l)(h:∀j,j<k->gd l j≠s)(a:gd l k=s):tX l s=k:=by have:l.findIdx? (λx=>Q<|x=s)=V k:=(by grind [RL,bT]);simp[tX,this]
def avP{l:List ByteArray}{s:ByteArray}(h:s∉l):tX l s= -1:=by grind [decide,GB,decide_eq_false_iff_not,tX]
def OH(l:List ByteArray)(s:ByteArray)(f:L l<4611686018427387904):Ct 118 [sl cs l,st s] (·=iv (tX l s)):=by refine aLi λs0 _ b=>?_;simp only[Iz,↓uL];refine C7 (L l) (λk=>∀j,j<k->gd l j≠s) (by simp) λk e d=>?_;simp+contextual only[abS,Iz,u0,u1,ix,rk,bh,↓uL];refine⟨λh=>⟨vp h,λc=>?_,by grind [gS,aL]⟩,λh=>?_⟩;grind [avQ,aL];rw[avP λa=>(px (p:=λx=>x≠s)).1 (by grind) s a rfl]
def FB:FT:=aIc OH
def ayE{l s Lw K}:=gX FB OH l s Lw K
def pS(t:Int):List aP->Int->Nat->Int|[],_,_=> -1|e::l,k,i=>if e.aq=t then(if k=0 then i else pS t l (k-1) (i+1)) else pS t l k (i+1)
def oV(w:am)(t k:Int):Int:=pS t w.ac k 0
theorem aWc{α:Type}[Inhabited α]{l:List α}{k:Nat}(h:k<L l):l.drop k=gd l k::l.drop (k+1):=by rw[bT h,List.drop_eq_getElem_cons h]
def O0(w:am)(t k:Int)(p:L w.ac<1000000/\ -1000000<=k/\k<9223372036854775808):Ct 125 [.a w.c,iv t,iv k] (·=iv (oV w t k)):=by refine aLE rfl λq o e n=>?_;simp only[IR,↓uL];refine yh (λs:Int×Nat=>[iv s.1,iv s.2]) 1 (L w.ac) (λs=>s.2<=L w.ac/\k-s.2<=s.1/\s.1<=k/\pS t (w.ac.drop s.2) s.1 s.2=oV w t k) (k,0) (by grind [oV]) ?_;rintro⟨b,i⟩ ⟨f,g,j,d⟩;simp only at f g j d;simp+contextual only[adZ,ad0,ad1,IR,u0,u1,ix,rk,e,aj,dc,bh,↓uL];refine⟨λh=>⟨vp h,λm=>⟨λl=>?_,λl=>?_⟩,λm=>?_⟩,λh=>?_⟩;grind [aWc,aL,pS];have:=aL h;refine wN (enc:=λs:Int×Nat=>[iv s.1,iv s.2]) (s:=(b,i)) (s':=(b-1,i+1)) (i:=i) ?_ rfl rfl (aL h) ⟨aL h,by omega,by omega,?_⟩;grind [fX,eM];grind [aWc,aL,pS,of_decide_eq_false];have:=aL h;refine wN (enc:=λs:Int×Nat=>[iv s.1,iv s.2]) (s:=(b,i)) (s':=(b,i+1)) (i:=i) ?_ rfl rfl (aL h) ⟨aL h,by omega,by omega,?_⟩;grind [fX];grind [aWc,aL,pS,of_decide_eq_false];have:i=L w.ac:=(by grind);rw[<-d,this,Gz];rfl
def FJ:FT:=qe O0
def ayX{w t k Lw K}:=sT FJ O0 w t k Lw K
def nE(l:List Int)(k:Nat):Int:=(l.take k).sum
theorem Ra{l:List Int}{k:Nat}(h:k<L l):nE l (k+1)=nE l k+gd l k:=by grind [nE,iJ,bT]
def rM(w:am):Bool:=Q (∀c∈w.init.count,0<=c/\c<=400)&&(Q (w.start=w.init.count.sum)&&Q (w.init.count.sum+L w.ac<=400))
def aoN{l:List Int}{k:Nat}(h:∀j,j<k->0<=gd l j/\gd l j<=400)(d:k<=L l):0<=nE l k/\nE l k<=400*k:=by induction k with|zero=>simp[nE]|succ k a=>have:=a (λj c=>h j<|by omega) (by omega);have b:=h k (by omega);rw[Ra<|by omega];omega
def Pb(w:am)(q:L w.ac<1000000/\L w.init.count<1000000):Ct 67 [.a w.c] (·=bv (rM w)):=by refine aLH rfl λu o g n=>?_;simp only[IS,↓uL];refine yh (λs:Int×Nat=>[iv s.1,iv s.2]) 1 (L w.init.count) (λs=>s.2<=L w.init.count/\s.1=nE w.init.count s.2/\∀j,j<s.2->0<=gd w.init.count j/\gd w.init.count j<=400) (0,0) (by grind [nE]) ?_;rintro⟨f,i⟩ ⟨d,k,b⟩;simp only at d k b;simp+contextual only[ad9,IS,u0,u1,ix,rk,g,aj,dc,bh,↓uL];have m:=aoN b d;have t:i<L w.init.count->(Q (gd w.init.count i<0)||Q (400<gd w.init.count i))=U->rM w=I:=(by grind [dB,rM]);refine⟨λh=>⟨vp h,λ_=>vp h,(by simp_all),λe=>⟨vp h,?_⟩⟩,λh=>?_⟩;have:=aL h;simp only[cP,sA,Int.not_lt] at e;refine wN (enc:=λs:Int×Nat=>[iv s.1,iv s.2]) (s:=(f,i)) (s':=(f+gd w.init.count i,i+1)) (i:=i) ?_ rfl rfl (aL h) ⟨aL h,?_,a6p b e⟩;grind [fX,eM];grind [Ra,aL];have l:i=L w.init.count:=(by grind);have r:nE w.init.count i=w.init.count.sum:=(by rw[l,nE,gV]);have p:∀c∈w.init.count,0<=c/\c<=400:=px.1 (by simp_all);grind [eM,rM,decide_eq_true]
def aUr:FT:=mT Pb
def ay0{w Lw K}:=oK aUr Pb w Lw K
def aO8(s:mn)(e:aP):Bool:=
 bif Q (e.kind=3) then Q<|e.value=gd s.cells e.nt.toNat
 else bif Q (e.kind=23) then Q<|e.value=gd s.bU e.nt.toNat
 else bif Q (e.kind=5) then Q (e.value=0)||Q (e.value=1)
 else bif Q (e.kind=4)||Q (e.kind=22) then U
 else bif Q (e.kind=18) then(bif Q ((L (fO s.bm e.nt):Int)=0) then Q (e.value= -1) else Q (0<=e.value)&&(Q (e.value<L s.bm.ay)&&Q (e.value∈fO s.bm e.nt)))
 else bif Q (e.kind=19) then Q<|e.value=L (fO s.bm e.nt)
 else Q<|e.value=0
def OY(s:mn)(e:aP)(h:L s.bm.ay<1000000/\(e.kind=3->aF (L s.cells) e.nt)/\(e.kind=23->aF (L s.bU) e.nt)):Ct 124 [.a s.c, .a e.c] (·=bv (aO8 s e)):=by refine aLC rfl rfl λl k b d j=>?_;simp only[adS,↓uL];simp only[f8,adU,iM,aY,sw,u1,b,d,rk,aj,↓uL];simp only[adT,aI,au,↓uL];have i:L (fO s.bm e.nt)<4611686018427387904:=rC (wU _ _ _) (by omega);have g:Q (e.kind=3)=U->aF (L s.cells) e.nt:=(by simp_all);have f:Q (e.kind=23)=U->aF (L s.bU) e.nt:=(by simp_all);simp+contextual only[↓iC,↓iB,↓iS,u0,u1,K3,ar,b,d,rk,ix,aj,dc,aO8,vb,aoC,i,h.1,g,f,hH,ld,tn,↓uL]
def FI:FT:=aIc OY
def ayV{s e Lw K}:=gX FI OY s e Lw K
def aoV:dO:=(123,Cf)::(121,w8)::(118,FB)::(125,FJ)::(67,aUr)::(124,FI)::aoU
def Bs:eJ aoV:=it (aCb OX)<|it (nI Pa)<|it (aCb OH)<|it (tE O0)<|it (pg Pb)<|it (aCb OY)<|wP
def ur:=ai @ayU<|ai @ayZ<|ai @ayE<|ai @ayX<|ai @ay0<|ai @ayV<|@K3
abbrev aNC:List AV:=[.l [] U U,iv 0,.l [] U U,.l [] U U]
abbrev aPz:List AV:=[iv 0,.l [] U U]
def atT:=bi 12 [(3,([5],[0,1]))]
def acd g f R c a:=rV (fo 1 a g (V<|gt f 0) J J) λd=>eV (cj 3 fB 8 a 47 c d) λe b=>aE R b [e]
def ace g f e R c a:=eV (aX bH 1 a [(0,g)]) λd b=>eV (cj 3 fB 8 b 42 c d)<|acd f e R
def acf c b f R d a:=rV (fo 1 a c J (V<|gt b 0) J) λe=>eV (cj 3 fB 8 a 38 d e)<|ace f c b R
def acg s0 c e R(s:cG)(m1:fD) b:=Rg->aJ s0 c λt=>aU (gt b 0) t λt3=>fm t3 c λu=>fm t3 (gt b 0) λv=>az t3 (ao 1 s0 u v) λf=>az t3 (aM s0 f) λg=>fm t3 e λh=>az t3 (aU g h) λi=>aD t3 i (bv I) λj=>ah j (aV (gt b 0) (iv 1) λd=>s [d]/\m1 [d]<m1 b) (aJ s0 c λk=>aU (gt b 0) k λa=>fm a c λl=>fm a (gt b 0) λm=>az a (ao 1 s0 l m) λn=>az a (aM s0 n) λo=>fm a e λp=>az a (bf o p) λq=>aD a q (bv I) λr=>ah r (aE R s0 [c])<|eV (aX bH 0 s0 [])<|acf c b e R)
def acb a b s0 R:=lR [iv 0]<|acg s0 a b R
def aLm{a b:AV}{R:o8}(h:H0 λs0=>acb a b s0 R):Ct 191 [a,b] R:=z0 atT Bs Tryz.func191 h
def aui:=bi 16 [(4,([4],[1,3]))]
def aek a h n R(I7:cG)(W:fD) b:=Rg->aJ a h λt8=>aU (gt b 0) t8 λt9=>ah t9 (ao 3 a h (gt b 0) λX=>ab 0 a X λZ=>bf Z (iv 0) λi=>bX i h λaa=>bX i (gt b 0) λac=>aC i (ao 3 a aa ac) λad=>bn i 0 a ad λae=>aC i (bf ae<|iv 1) λaf=>aD i (bv U) af λag=>ao 3 a h (gt b 0) λak=>ab 0 a ak λal=>bf al (iv 3) λj=>bX j h λam=>bX j (gt b 0) λan=>aC j (ao 3 a am an) λap=>bn j 0 a ap λaq=>aC j (bf aq<|iv 4) λar=>aD j (bv U) ar λc=>ao 3 a h (gt b 0) λau=>ab 0 a au λav=>aU av (iv 0) λk=>bX k h λaw=>bX k (gt b 0) λax=>aC k (ao 3 a aw ax) λay=>bn k 0 a ay λaA=>aC k (aO .gtr aA<|iv 5) λaF=>aD k (bv U) aF λd=>bX d ag λaG=>aC d (aB 7 a n) λaI=>bn d 6 a aI λaK=>bX d (gt b 0) λaL=>aC d (ao 1 a aK aL) λaN=>aC d (aM a aN) λaP=>aC d (bf aP<|iv 0) λaQ=>aC d (rV<|wl .neq 1 [] aG aQ) λaR=>aD d (bv U) aR λl=>bX l (gt b 0) λo=>aC l (bf o<|iv 0) λp=>bX l p λe=>fm e h λq=>fm e (gt b 0) λr=>az e (ao 3 a q r) λs=>aT e 0 a s λt=>az e (bf t<|iv 0) λu=>aC l (aD e u<|bv I) λv=>aD l (bv U) v λw=>ah w (aE R a [bv I])<|fm c h λx=>fm c (gt b 0) λy=>az c (ao 3 a x y) λz=>aT c 1 a z λA=>az c (aB 0 a n) λB=>aT c 2 a B λC=>az c (aJ a C) λD=>az c (fV Ch a [A,D]) λE=>az c (cf E) λF=>aD c F (bv I) λg=>bX g c λG=>aC g (cf G) λH=>bX g H λf=>fm f h λK=>fm f (gt b 0) λM=>az f (ao 3 a K M) λN=>aT f 1 a N λO=>az f (aO .neq O<|iv 0) λP=>aC g (aD f P<|bv I) λS=>aD g (bv U) S λT=>ah T (aE R a [bv I])<|aV (gt b 0) (iv 1) λm=>I7 [m]/\W [m]<W b)<|aE R a [bv U]
def IU b a R:=aB 7 a b λt3=>aB 0 a t3 λt4=>ab 3 a t4 λc=>lR [iv 0]<|aek a c b R
def aLL{b:List AV}{R:o8}(l0:L b=15)(h:H1 43 15 1 b λc d=>IU c d R):Ct 68 [.a b] R:=z1 aui Bs Tryz.func68 l0 h
def auf:=bi 35 [(4,([4],[1,3])),(13,([6],[1,3,4,5])),(24,([7],[1,3]))]
def aed a e K R i(M:aG)(E:bu) F(D:cG)(h:fD) c:=Rg->ab 1 a e λG=>aJ a G λH=>aU (gt c 0) H λj=>ah j (aw 15 a K λk=>ab 1 a e λl=>ao 1 a l (gt c 0) λm=>aM a m λn=>fV w8 a [k,n] λo=>cf o λd=>bX d (gt c 0) λp=>aC d (aO .gtr p<|iv 0) λq=>bX d q λb=>aT b 1 a e λr=>fm b (gt c 0) λs=>az b (ao 1 a r s) λt=>az b (aM a t) λu=>aT b 1 a e λv=>fm b (gt c 0) λw=>az b (aO .sub w<|iv 1) λx=>az b (ao 1 a v x) λy=>az b (aM a y) λz=>az b (aO .leq u z) λA=>aC d (aD b A<|bv I) λB=>aD d (bv U) B λC=>ah C (aE R a [bv I])<|aV (gt c 0) (iv 1) λf=>D [f]/\h [f]<h c) (aV (gt i 0) (iv 1) λg=>M [g] a/\E [g] a<E i F)
def aeb c g h R C D i a:=ab 0 a c λj=>aO .neq j (iv<|-1) λe=>az e (aw 15 a g) λk=>aT e 0 a c λl=>az e (fV w8 a [k,l]) λm=>az e (cf m) λn=>aD e n (bv I) λd=>bn d 1 a c λo=>aC d (aJ a o) λp=>aC d (aO .gtr p<|iv 0) λq=>bX d q λb=>az b (aB 0 a g) λr=>aT b 1 a r λs=>fm b (gt h 0) λt=>az b (ao 2 a s t) λu=>aT b 1 a u λv=>az b (cf v) λw=>fm b w λf=>bn f 0 a c λx=>aC f (aO .neq x<|iv<|-1) λy=>az b (aD f (bv U) y) λz=>aC d (aD b z<|bv I) λA=>aD d (bv U) A λB=>ah B (aE R a [bv I])<|lR [iv 0]<|aed a c g R h C D i
def aec c i d R E(j:aG)(g:bu) k a:=ab 2 a c λe=>az e (aw 15 a i) λl=>fm e (gt d 0) λm=>az e (fV w8 a [l,m]) λn=>az e (cf n) λo=>aD e o (bv I) λp=>ah p (aE R a [bv I]) (ab 0 a c λq=>bf q (iv 3) λf=>bn f 0 a c λr=>aC f (bf r<|iv 4) λs=>aD f (bv U) s λb=>aT b 0 a E λt=>az b (aB 0 a i) λu=>aT b 2 a u λv=>aT b 1 a c λw=>az b (ao 2 a v w) λx=>aT b 1 a x λy=>az b (ao 2 a t y) λz=>aT b 0 a z λA=>fm b (gt d 0) λB=>az b (bf A B) λC=>aD b C (bv I) λD=>ah D (aE R a [bv I])<|aV (gt d 0) (iv 1) λh=>j [h] a/\g [h] a<g d k)
def aee d n R e f b a:=Rg->ab 3 a d λh=>aJ a h λi=>aU (gt b 0) i λj=>ah j (ab 3 a d λk=>ao 3 a k (gt b 0) λl=>aw 3 a l λm=>eV (bs 85 aQ2 a 8) λc g=>sV (aK 3 g c m)<|aec c n b R d e f a)<|aE R a [bv U]
def aef c f R t u e a:=Rg->ab 0 a c λn=>aJ a n λo=>aU (gt e 0) o λp=>ah p (ab 0 a c λq=>ao 2 a q (gt e 0) λr=>aw 2 a r λs=>eV (bs 186 aPz a 5) λd m=>sV (aK 2 m d s)<|aeb d f e R t u a) (ab 1 a c λg=>aO .neq g (iv<|-1) λb=>az b (aw 15 a f) λh=>aT b 1 a c λi=>az b (fV w8 a [h,i]) λj=>az b (cf j) λk=>aD b k (bv I) λl=>ah l (aE R a [bv I])<|lV [iv 0] a<|aee c f R)
def aea c a R:=aB 7 a c λt3=>aB 0 a t3 λt4=>aw 4 a t4 λf=>eV (bs 36 aNC a 3) λb d=>sV (aK 4 d b f) λe=>lV [iv 0] e<|aef b c R
def aLI{b:List AV}{R:o8}(l0:L b=15)(h:H1 43 15 1 b λc d=>aea c d R):Ct 69 [.a b] R:=z1 auf Bs Tryz.func69 l0 h
def auh:=bi 13 [(3,([7],[1,2,3])),(6,([],[1,2,3,7]))]
def aeh a(d:cG)(b:fD)(e:eQ):=Rg->aV (gt a 0) (iv 1) λc=>d [c]/\b [c]<b a
def aei a i f d g R(h:cG):=ao 1 a i (gt f 0) λK=>aM a K λM=>aB 7 a d λj=>ab 6 a j λk=>ao 1 a k g λl=>aM a l λm=>aU M m λn=>ah n (h []) (aw 15 a d λo=>ao 1 a i (gt f 0) λp=>aM a p λq=>aB 7 a d λr=>ab 6 a r λs=>ao 1 a s g λt=>aM a t λu=>aO .sub q u λv=>fV FJ a [o,g,v] λe=>aU e (iv 0) λb=>bn b 14 a d λw=>bX b e λx=>aC b (ao 7 a w x) λy=>bn b 1 a y λz=>aC b (aO .neq z<|iv 3) λA=>bX b A λc=>aT c 14 a d λB=>fm c e λC=>az c (ao 7 a B C) λD=>aT c 1 a D λE=>az c (aO .neq E<|iv 23) λF=>aC b (aD c F<|bv I) λG=>aD b (bv U) G λH=>ah H (aE R a [bv I])<|h [])
def aej b c d f R e g a:=Rg->aJ b c λt4=>aU (gt a 0) t4 λh=>ah h (jR 6 (aeh a e g)<|aei b c a d f R)<|aE R b [bv U]
def IT a b c d R:=lR [iv 0]<|aej d c a b R
def aLK{b:List AV}{c d:AV}{R:o8}(l0:L b=15)(h:H1 43 15 3 b λe f=>IT e c d f R):Ct 71 [.a b,c,d] R:=z1 auh Bs Tryz.func71 l0 h
def Eu(w:am)(j:Nat):Bool:=Q ((gd w.init.bm.ay j).cQ<0)||Q (5<(gd w.init.bm.ay j).cQ)||!((Q ((gd w.init.bm.ay j).cQ=0)||Q ((gd w.init.bm.ay j).cQ=1))==Q (gd w.init.count j=0))||Q ((j:Int)=0)&&Q ((gd w.init.bm.ay j).cQ=0)
def zX(w:am)(j:Nat):Bool:=(Q ((gd w.init.bm.ay j).cQ=3)||Q ((gd w.init.bm.ay j).cQ=4))&&!dh (gd w.init.bm.ay j).cond (L w.aQ.bC)||!(Q ((gd w.init.bm.ay j).cQ=3)||Q ((gd w.init.bm.ay j).cQ=4))&&Q ((gd w.init.bm.ay j).cond≠0)
def aOK(w:am)(j:Nat):Bool:=!Eu w j&&!zX w j
def uZ(w:am):Bool:=Q (∀j,j<L w.init.bm.ay->aOK w j=U)
def Pf(w:am)(p:L w.init.bm.ay<1000000/\L w.init.count=L w.init.bm.ay):Ct 68 [.a w.c] (·=bv (uZ w)):=by refine aLL rfl λq o d m=>?_;simp+contextual only[IU,u0,u1,ix,rk,d,aj,dc,bh,↓uL];refine C7 (L w.init.bm.ay) (λk=>∀j,j<k->aOK w j=U) (by simp) λk n l=>?_;simp+contextual (maxSteps:=3000000) only[aek,IU,u0,u1,ur,ar,ix,rk,d,aj,dc,bh,↓uL];have f:k<L w.init.bm.ay->aOK w k=I->bv I=bv (uZ w):=(by grind [aOK,uZ]);refine⟨λh=>?_,λh=>?_⟩;have b:=vp h;have g:aF (L w.init.count) (k:Int):=(by simp_all);simp only[b,g,hH,bR];refine⟨λi=>f (aL h) ?_,λi=>⟨λe=>f (aL h) ?_,λe=>gS (aL h) (by omega)<|a6p l ?_⟩⟩;grind [aOK,Eu];grind [aOK,zX];grind [aOK,Eu,zX];grind [aOK,C3,bw,uZ,decide_eq_true]
def FM:FT:=mT Pf
def ay4{w Lw K}:=oK FM Pf w Lw K
def Qy(t:Int):∀(l:List aP) (k:Int) (i:Nat),pS t l k i<i+L l\/pS t l k i= -1
 |[],_,_=> .inr rfl
 |e::l,k,i=>by
  simp only[pS,bZ]
  have a:=Qy t l (k-1)<|i+1
  have b:=Qy t l k<|i+1
  omega
def aEu(w:am)(t k:Int):oV w t k<L w.ac\/oV w t k= -1:=by have:=Qy t w.ac k 0;grind [oV]
def qU(w:am)(t:Int)(n:Int):Bool:=Q (n<gd w.init.count t.toNat)||(Q (0<=oV w t (n-gd w.init.count t.toNat))&&(Q ((gd w.ac (oV w t<|n-gd w.init.count t.toNat).toNat).kind=3)||Q ((gd w.ac (oV w t<|n-gd w.init.count t.toNat).toNat).kind=23)))
def Pe(w:am)(t:Int)(l:List Int)(d:L l<1000000/\L w.ac<1000000/\aF (L w.init.count) t/\(∀c∈w.init.count,0<=c/\c<=400)/\(∀n∈l,-1000<=n/\n<9223372036854775808)):Ct 71 [.a w.c,iv t,sl ci l] (·=bv (Q (∀n∈l,qU w t n=U))):=by refine aLK rfl λy v f m=>?_;simp only[IT,↓uL];refine C7 (L l) (λk=>∀j,j<k->qU w t (gd l j)=U) (by simp) λk u r=>?_;simp+contextual only[aeh,aei,aej,IT,u0,u1,ur,ar,ix,rk,f,aj,dc,bh,↓uL];have g:k<L l->dq.wrap (gd l k-gd w.init.count t.toNat)=gd l k-gd w.init.count t.toNat:=(by grind [ii,dB,eM]);have q:k<L l->∀x,x=oV w t (gd l k-gd w.init.count t.toNat)->Q (gd l k<gd w.init.count t.toNat)=I->((Q (x<0)||Q ((gd w.ac x.toNat).kind≠3)&&Q ((gd w.ac x.toNat).kind≠23))=I↔qU w t (gd l k)=U):=(by grind [qU]);refine⟨λh=>⟨vp h,d.2.2.1,(by grind [gS,aL,qU]),λs=>?_⟩,λh=>?_⟩;rw[g<|aL h];have o:=d.2.2.2.1 _<|ii d.2.2.1;have p:=d.2.2.2.2 _<|dB<|aL h;have e:∀x,x=oV w t (gd l k-gd w.init.count t.toNat)->(!Q (x<0))=U->aF (L w.ac) x:=λx i b=>(by have:=aEu w t<|gd l k-gd w.init.count t.toNat;simp at b;exact⟨b,by rw[i];omega⟩);refine⟨vp h,d.2.2.1,⟨d.2.1,by omega,by omega⟩,e _ rfl,λb _=>e _ rfl b,λb=>?_,λb=>gS (aL h) (by omega)<|by grind⟩;have:¬(∀n∈l,qU w t n=U):=(by grind [aL,dB]);simp[this];have:∀n∈l,qU w t n=U:=px.1 (by grind);simp_all
def Ci:FT:=qe Pe
def ay3{w t l Lw K}:=sT Ci Pe w t l Lw K
def AM(w:am)(j:Nat):Bool:=Q ((gd w.init.bm.ak j).pw≠-1)&&!nO w (gd w.init.bm.ak j).pw||Q (0<(L (gd w.init.bm.ak j).bk:Int))&&(!(gd w.aQ.ak j).rw||Q ((gd w.init.bm.ak j).pw≠-1))
def yA(w:am)(l:List Int)(i:Nat):Prop:=nO w (gd l i)=U/\(0<i->gd l (i-1)<gd l i)
def QN(w:am)(l:List Int):Prop:=∀i,i<L l->yA w l i
instance{w:am}{l:List Int}{i:Nat}:Decidable (yA w l i):=by unfold yA;infer_instance
instance{w:am}{l:List Int}:Decidable (QN w l):=by unfold QN;infer_instance
def uD(w:am)(j:Nat):Prop:=AM w j=I/\QN w (gd w.init.bm.ak j).bk
instance{w:am}{j:Nat}:Decidable (uD w j):=by unfold uD;infer_instance
def yS(w:am):Bool:=Q (w.init.bm.tx≠-1)&&!nO w w.init.bm.tx
def pX(w:am)(j:Nat):Bool:=!((gd w.init.bm.ay j).atomic&&!nO w j)&&!((Q ((gd w.init.bm.ay j).cQ=3)||Q ((gd w.init.bm.ay j).cQ=4))&&Q ((gd w.init.bm.ak (gd w.aQ.bC (gd w.init.bm.ay j).cond.toNat).eg.toNat).pw=j))
def ny(w:am):Bool:=Q (∀j,j<L w.init.bm.ak->uD w j)&&(!yS w&&Q (∀j,j<L w.init.bm.ay->pX w j=U))
def Pc(w:am)(K:L w.init.bm.ak<1000000/\L w.init.bm.ay<1000000/\L w.init.bm.ak=L w.aQ.ak/\(∀l∈w.init.bm.ak,L l.bk<4611686018427387904)/\(∀c∈w.aQ.bC,aF (L w.aQ.ak) c.eg)/\uZ w=U):Ct 69 [.a w.c] (·=bv (ny w)):=by refine aLI rfl λs4 H A h0=>?_;simp+contextual only[aea,u0,u1,ix,rk,A,aj,dc,bh,↓uL];refine eF rfl rfl (by decide) (by omega) λY u R=>?_;have B:box Y (1,1)=_:=u.bt A;refine pQ (L w.init.bm.ak) [5] (λk=>∀j,j<k->uD w j) (by simp) λk y T x d=>?_;have e:box y (1,1)=_:=d.bt B;have o:box y (3,_)=_:=d.bt R;simp+contextual (maxSteps:=3000000) only[aef,u0,u1,ur,ar,ix,rk,e,o,aj,dc,bh,↓uL];have t:∀j,j<L w.init.bm.ak->¬uD w j->bv I=bv (ny w):=(by grind [uD,ny,decide_eq_false]);refine⟨λh=>⟨vp h,?_⟩,λh=>⟨λZ=>?_,λZ=>?_⟩⟩;refine eF rfl rfl (by decide) (by rw[d.1,u.1,H];decide) λg b s=>?_;have m:box g (1,1)=_:=b.bt e;have p:box g (3,_)=_:=b.bt o;simp+contextual (maxSteps:=3000000) only[aeb,u0,u1,ur,ar,ix,rk,m,p,s,aj,dc,bh,↓uL];refine⟨(by grind [dJ,aL]),λE=>t k (aL h) λv=>?_,λE=>?_⟩;have h1:=v.1;grind [AM];have hR:=K.2.2.2.1 _<|dB<|aL h;refine C7 (L (gd w.init.bm.ak k).bk) (λi=>∀j,j<i->yA w (gd w.init.bm.ak k).bk j) (by simp) λi hi X=>?_;simp+contextual (maxSteps:=3000000) only[aed,u0,u1,ur,ar,ix,rk,m,s,aj,dc,bh,↓uL];have hs:0<i->(dq.wrap<|(i:Int)-1).toNat=i-1/\dq.wrap ((i:Int)-1)=((i-1:Nat):Int):=(by grind [eM]);have W:(!nO w (gd (gd w.init.bm.ak k).bk i)||Q (0<(i:Int))&&Q (gd (gd w.init.bm.ak k).bk i<=gd (gd w.init.bm.ak k).bk (dq.wrap<|(i:Int)-1).toNat))=I↔yA w (gd w.init.bm.ak k).bk i:=(by grind [yA]);refine⟨λf=>⟨vp f,λ_ _=>vp f,λ_ q=>?_,λq=>t k (aL h) λv=>?_,λq=>gS (aL f) (by omega)<|by grind⟩,λf=>?_⟩;grind [aL,dJ];rw[W.2<|v.2 i<|aL f] at q;cases q;refine oL (aL h) (by omega) (a6p x ⟨E,λj S=>X j<|C3 S<|bw f⟩)<|d.trans b;grind [ny,yS];have hA:∀j,j<L w.init.bm.ak->uD w j:=(by grind);have F:∀j,j<L w.init.bm.ay->pX w j=I->bv I=bv (ny w):=(by grind [pX,ny,decide_eq_false]);have M:∀j,j<L w.init.bm.ay->aOK w j=U:=u4 K.2.2.2.2.2;refine pQ (L w.init.bm.ay) [8] (λk=>∀j,j<k->pX w j=U) (by simp) λk g T x b=>?_;have m:box g (1,1)=_:=b.bt e;have p:box g (3,_)=_:=b.bt o;simp+contextual (maxSteps:=3000000) only[aee,u0,u1,ur,ar,ix,rk,m,p,aj,dc,bh,↓uL];refine⟨λh=>⟨vp h,?_⟩,λh=>?_⟩;refine eF rfl rfl (by decide) (by rw[b.1,d.1,u.1,H];decide) λz n G=>?_;have O:box z (1,1)=_:=n.bt m;have P:box z (3,_)=_:=n.bt p;simp+contextual (maxSteps:=3000000) only[aec,u0,u1,ur,ar,ix,rk,O,P,G,aj,dc,bh,↓uL];have r:(Q ((gd w.init.bm.ay k).cQ=3)||Q ((gd w.init.bm.ay k).cQ=4))=U->aF (L w.aQ.bC) (gd w.init.bm.ay k).cond:=λN=>(by have:=M k<|aL h;simp only[aOK,zX,N,iw,fh,kM,Bool.or_false,Bool.not_not,bN] at this;exact dX.1 this.2);refine⟨λC=>F k (aL h) ?_,λC=>⟨r,λN=>?_,λD=>F k (aL h) ?_,λD=>oL (aL h) (by omega) (a6p x ?_)<|b.trans n⟩⟩;rw[pX,C];rfl;grind [ii];rw[pX,D];simp;grind [pX];grind [pX,C3,bw,ny,decide_eq_true,yS]
def FL:FT:=mT Pc
def ay1{w Lw K}:=oK FL Pc w Lw K
def pU{l:List Int}:∀r∈l.map ci,L r=1:=by simp
def fk:List Int->Int->List Int|[],n=>[n]|x::l,n=>if x<n then x::fk l n else if x=n then x::l else n::x::l
def QJ:∀(l:List Int) (n:Int) (k:Nat),k<=L l->(∀j,j<k->gd l j<n)->(k<L l->¬gd l k<n)->fk l n=if k<L l/\gd l k=n then l else l.take k++n::l.drop k
 |[],n,k,b,_,_=>by grind [fk]
 |x::l,n,0,_,_,a=>by
  have:=a (by simp)
  simp only[gd,RQ] at this
  simp only[fk,bA this,gd,RQ,bZ,Nat.zero_lt_succ,bR,CE,List.drop_zero,dW]
 |x::l,n,k+1,b,c,a=>by
  have d:=c 0 (by omega)
  simp only[gd,RQ] at d
  have e:=QJ l n k (by grind) (by grind [gd]) (by grind [gd])
  grind [gd,fk,bZ]
def QK:∀(l:List Int) (n:Int),L (fk l n)<=L l+1
 |[],n=>by simp[fk]
 |x::l,n=>by
  have:=QK l n
  grind [fk]
def OL(l:List Int)(n:Int)(D:L l<1000000):Ct 191 [sl ci l,iv n] (λr=>∃t o,r= .l ((fk l n).map ci) t o):=by refine aLm λs0 e B=>?_;simp only[acb,↓uL];refine C7 (L l) (λk=>∀j,j<k->gd l j<n) (by simp) λk q p=>?_;simp+contextual only[acg,acf,u0,u1,ix,rk,bh,nS,aov,aFj,↓uL];have d:=QJ l n k q p;refine⟨λh=>vp h,λh=>?_,λh=>⟨λa=>vp a,λa=>⟨I,I,?_⟩,λa=>⟨(by omega),?_⟩⟩⟩;grind [gS,aL];rw[bN] at a;have i:=u4 a.2;rw[d (λ_=>by omega),d7 ⟨aL a.1,i⟩];rfl;have C:k<L l->¬gd l k<n:=(by simp_all);have m:¬(k<L l/\gd l k=n):=(by simp_all);rw[bA m] at d;refine fP (ds:=[38,42,47]) Gr.nil rfl (by decide) (by decide) (by omega) (by simp) pU (by grind) λy v g1 b=>?_;rw[dW] at g1;simp only[ace,iz,bQ,↓uL];refine fP g1 rfl (by decide) (by decide) (by rw[b.1,e];decide) pU (pU (l:=[n])) (by grind) λz w c f=>?_;rw[show(l.take k).map ci++[[AV.s<|.int .i64 n]]=(l.take k++[n]).map ci by simp] at c;simp only[acd,au,aIg,bh,↓uL];refine⟨(by omega),?_⟩;refine fP c rfl (by decide) (by decide) (by rw[f.1,b.1,e];decide) pU pU (by grind) λA x g u=>?_;refine qV g λt=>⟨t,U,?_⟩;simp_all
def BX:FT:=pn OL
def ayI{l n Lw K}:=rQ BX OL l n Lw K
def aoW:dO:=(68,FM)::(71,Ci)::(69,FL)::(191,BX)::aoV
def Rb:eJ aoW:=it (pg Pf)<|it (tE Pe)<|it (pg Pc)<|it (aN0 OL)<|Bs
def K7:=ai @ay4<|ai @ay3<|ai @ay1<|ai @ayI<|@ur
abbrev BE:List AV:=[bv I]
abbrev BD:List AV:=[bv I]
abbrev biW:List AV:=[iv 0,iv 0,bv I]
abbrev bh4:List AV:=[iv 0,.l [] I I]
def atW:=bi 9 [(4,([4],[1,2,3]))]
def acE b i e k l a m n q r s t p u o v w j x z y(g:aG)(c:bu) h d:=dH [bo b,bo i,bo e,bo k,km,lb U [l,gt a 0] [],bo m,bo n,lb I [] [],bo e,bo q,km,lb U [r,gt a 0] [],bo s,bo t,lb I [p,u] [38],lb U [o,v] [],lb I [w] [],lb I [j,x] [41],bo b,lb I [z,y] []] [(0,8),(1,8),(2,8),(3,8),(4,8),(5,8),(6,8),(7,8),(8,9),(8,10),(8,11),(8,12),(8,13),(8,14),(0,15),(1,15),(2,15),(3,15),(4,15),(5,15),(6,15),(7,15),(0,17),(1,17)] (aV (gt a 0) (iv 1) λf=>g [f] d/\c [f] d<c a h)
def acF a j i l m e n o r s t u q v p w x k y f g h c b:=aB 0 b a λd=>sV (aK 1 b d c)<|acE a j i l m e n o r s t u q v p w x k y d c f g h
def acG c b a n m o p g q r t u v w s x h i j d k:=rV (bM aPz C2 [(0,c),(1,d)]) λe=>eV (aX bh4 1 k [(0,e)]) λf l=>eV (cj 186 aPz 32 l 41 b f)<|acF a n m o p g q r t u v w s x c d e b f h i j
def acH d c t o b n p q r s k l m e a:=aB 0 a d λf=>aM a f λg=>ao 2 a g (gt c 0) λh=>aB 1 a h λi=>aM a i λj=>eV (cj 3 fB 8 a 38 e j)<|acG t o b n d p q c r s f g h i e j k l m
def acN d b t3 R k l c a:=Rg->ab 0 a d λm=>aJ a m λn=>aU (gt c 0) n λo=>ah o (aB 0 a b λf=>aM a f λp=>aB 0 a d λg=>aM a g λh=>ao 2 a h (gt c 0) λi=>aB 0 a i λj=>aM a j λq=>eV (aX bH 0 a [])<|acH d c q p b f g h i j k l a) (aw 4 a b λr=>sV (aK 4 a t3 r) λe=>aw 4 e t3 λs=>fe R e [s])
def acI b k n m d g f h l e i a j t3 R c:=dH [bo b,bo k,lb I [] [],bo b,bo n,lb I [m,d] [10],lb I [] [],bo b,bo g,lb I [f,h] [14],lb U [l,e,i] [],lb I [] [3],lb I [a,j] []] [(0,2),(1,2),(2,3),(2,4),(0,5),(1,5),(0,6),(1,6),(2,6),(3,6),(4,6),(5,6),(2,7),(5,7),(6,7),(2,8),(5,8),(6,8),(0,9),(1,9),(0,11),(1,11),(2,11),(3,11),(4,11),(5,11),(6,11),(7,11),(8,11),(9,11),(10,11)]<|lV [iv 0] c<|acN b a t3 R
def acJ l b g m o n h j i k t3 R c e:=rV (bM aNC alz [(1,l),(2,b),(3,c)]) λd=>eV (bs 36 aNC e 3) λa f=>sV (aK 4 f a d)<|acI g m o n h j i k l b c a d t3 R
def acK b i g h k j f t3 R c a:=aB 3 a b λd=>aM a d λe=>eV (cj 85 aQ2 24 a 14 c e)<|acJ i g b h k j f d c e t3 R
def acL a i h t3 R f c:=aB 2 c a λg=>aM c g λb=>eV (cj 4 BE 1 c 10 f b) λe d=>eV (aX biW 0 d [])<|acK a i e h g f b t3 R
def acM a R t3 b:=aB 1 b a λc=>aM b c λd=>eV (aX BD 0 b [])<|acL a d c t3 R
def IF a b R:=eV (bs 36 aNC b 2)<|acM a R
def aJs{a:AV}{s0:ae}{R:be}(h:eV (qm 36 4 s0 1 a) λb c=>IF b c R):EB 75 [a] s0 R:=zB atW Rb Tryz.func75 h
def aLp{d:List AV}{s0:ae}{R:be}(g:L s0=4096)(l0:L d=4)(h:∀(b:ae) (c:Nat),Kp s0 b->(∀k,k≠1->aZ b k=aZ s0 k)->(∀x,box s0 (1,c)≠V x)->box b (1,c)=V ⟨36,4,U,U,[d]⟩->IF (.p (1,c) 0 0) b R):EB 75 [.a d] s0 R:=by refine aJs ?_;refine iN rfl l0 (by decide) (by decide) g λb c j g0 l e=>?_;exact h b c j (λk f=>g0 k f) (λx i=>l x<|(Kp.refl _).keep _ _ i) e
def atU:=bi 15 [(4,([5,6],[0,1])),(10,([5,7],[1]))]
def aci s0 d R(i:cG)(e:fD) a:=Rg->aJ s0 d λj=>aU (gt a 1) j λf=>ah f (ao 1 s0 d (gt a 1) λg=>aM s0 g λh=>fV BX s0 [gt a 0,h] λb=>aV (gt a 1) (iv 1) λc=>i [b,c]/\e [b,c]<e a)<|aE R s0 [gt a 0]
def acj s0 b f R(e:cG)(m1:fD) a:=Rg->aJ s0 b λg=>aU (gt a 1) g λt3=>ah t3 (ao 1 s0 b (gt a 1) λt4=>aM s0 t4 λh=>fV BX s0 [gt a 0,h] λc=>aV (gt a 1) (iv 1) λd=>e [c,d]/\m1 [c,d]<m1 a)<|lR [gt a 0,iv 0]<|aci s0 f R
def ach a b s0 R:=lR [.l [] U U,iv 0]<|acj s0 a b R
def aLn{a b:AV}{R:o8}(h:H0 λs0=>ach a b s0 R):Ct 141 [a,b] R:=z0 atU Rb Tryz.func141 h
def fl:AV->Bool| .s _| .l _ _ _| .m _ _=>U|_=>I
def pv{e:TypeId}{z d:Nat}{a:List AV}{Y:ae}{K:be}(i:L a=z)(h:0<z)(f:d<L Y)(c:∀Y',Fr Y Y' [d]->box Y' (d,(aZ Y d).lB+1)=V ⟨e,z,U,U,[a]⟩->K (.p (d,(aZ Y d).lB+1) 0 0) Y'):eV (bs e a Y d) K:=by have b:bs e a Y d=V (.p (d,(aZ Y d).lB+1) 0 0,put Y d ⟨e,z,U,U,[a]⟩):=(by grind [bs,vg,lA]);rw[b];exact c _ ⟨D3,λk g=>yk<|λe=>g<|by simp[e]⟩<|zQ f rfl
def dT{a:List fY}{l:List (Nat×Nat)}{R:Prop}(h:(l.all λp=>eL (a.getD p.1 (U,[]))<|a.getD p.2 (U,[]))=U)(b:R):dH a l R:=by grind [ale,dV]
def uc{Y:ae}{ds:List Nat}{e:TypeId}{z:Nat}{a:AV}{aa:List (List AV)}(b:Gr Y ds e z a aa):eY a=V [a]:=by rcases b with⟨_,rfl⟩|⟨d,v,rfl,_⟩<;>rfl
theorem Gr.fr{Y Y':ae}{ds b:List Nat}{e:TypeId}{z:Nat}{a:AV}{aa:List (List AV)}(j:Gr Y ds e z a aa)(i:Fr Y Y' b)(l:∀k∈ds,k∉b):Gr Y' ds e z a aa:=by rcases j with h|⟨d,v,f,c,g⟩;exact .inl h;exact .inr ⟨d,v,f,c,by rw[i.box<|l d c];exact g⟩
def Ev{Y:ae}{d v j z:Nat}{e:TypeId}{o:Bool}{r:List AV}{x:AV}{K:ae->Prop}(a:box Y (d,v)=V ⟨e,z,o,U,[r]⟩)(h:d<L Y)(g:eY x=V [x])(i:j<L r)(c:∀Y',Fr Y Y' [d]->box Y' (d,v)=V ⟨e,z,o,U,[r.set j x]⟩->K Y'):sV (aK 1 Y (.p (d,v) 0 j) x) K:=by have b:aK 1 Y (.p (d,v) 0 j) x=V (wr Y (d,v) ⟨e,z,o,U,[r.set j x]⟩):=(by simp only[aK,aBG,a,NA,pW,g,qh,bZ,vw];grind [Option.some.injEq,GP]);rw[b];exact c _ ⟨uC,λk f=>wy<|λe=>f<|by simp[e]⟩<|lO a
def gN{Y:ae}{d v z:Nat}{e:TypeId}{o:Bool}{r cs:List AV}{K:ae->Prop}(f:box Y (d,v)=V ⟨e,z,o,U,[r]⟩)(i:d<L Y)(j:L r=z)(h:L cs=z)(c:∀Y',Fr Y Y' [d]->box Y' (d,v)=V ⟨e,z,o,U,[cs]⟩->K Y'):sV (aK z Y (.p (d,v) 0 0)<|.a cs) K:=by have b:aK z Y (.p (d,v) 0 0) (.a cs)=V (wr Y (d,v) ⟨e,z,o,U,[cs]⟩):=(by grind [aK,aBG,pW,eY,qh]);rw[b];exact c _ ⟨uC,λk g=>wy<|λe=>g<|by simp[e]⟩<|lO f
def awE{Y:ae}{b:List AV}{x a:AV}{ds:List Nat}{e:TypeId}{z:Nat}{aa:List (List AV)}{K:be}(n:L b=2)(j:∃y,x= .s y)(f:Gr Y ds e z a aa)(c:∀Y',Fr Y Y' ds->K (.l [[x, .l aa I I]] U U) Y'):eV (aX b 1 Y [(0, .a [x,a])]) K:=by obtain⟨y,rfl⟩:=j;obtain⟨z0,z1,rfl⟩:∃z0 z1,b=[z0,z1]:=(by match b,n with|[z0,z1],_=>simp);rcases f with⟨rfl,rfl⟩|⟨d,v,rfl,h,g⟩;have:aX [z0,z1] 1 Y [(0, .a [.s y, .l [] U U])]=V (.l [[.s y, .l [] I I]] U U,Y):=(by simp[aX,aly,eY,nrm,gK,eR,gi,eB,iR,kills,kC,eN]);rw[this];exact c Y<|Fr.refl _ _;have:aX [z0,z1] 1 Y [(0, .a [.s y, .m (d,v)<|L aa])]=V (.l [[.s y, .l aa I I]] U U,kill Y (d,v)):=(by simp[aX,aly,eY,nrm,gK,eR,gi,g,eB,iR,kills,kC,eN]);rw[this];exact c _ ⟨Qi,λk i=>ani<|λe=>i<|by rw[e];exact h⟩
def xL{Y:ae}{ds:List Nat}{e:TypeId}{z:Nat}{a:AV}{aa:List (List AV)}{K:o8}{i:Int}(h:Gr Y ds e z a aa)(b:aF (L aa) i)(j:∀d v,d∈ds->a= .m (d,v) (L aa)->box Y (d,v)=V ⟨e,z,U,I,aa⟩->K (.p (d,v) i.toNat 0)):rV (cz z Y a<|iv i) K:=by rcases h with⟨rfl,rfl⟩|⟨d,v,rfl,f,c⟩;have:=b.1;have:=b.2;grind;have g:i.toNat<L aa:=(by have:=b.1;have:=b.2;omega);simp only[cz,b.1,NA,c,qd,g,ld];exact j d v f rfl c
def Dz{Y:ae}{e:TypeId}{z d v i j:Nat}{aa:List (List AV)}{r:List AV}{x y:AV}{K:ae->Prop}(a:box Y (d,v)=V ⟨e,z,U,I,aa⟩)(o:d<L Y)(h:aa[i]?=V r)(q:j<L r)(l:nrm (eR Y x)=y)(f:eB x=[])(m:eY y=V [y])(n:eN y=U)(c:∀Y',Fr Y Y' [d]->box Y' (d,v)=V ⟨e,z,U,I,aa.set i<|r.set j y⟩->K Y'):sV (aK 1 Y (.p (d,v) i j) x) K:=by have b:aK 1 Y (.p (d,v) i j) x=V (wr Y (d,v) ⟨e,z,U,I,aa.set i<|r.set j y⟩):=(by simp only[aK,aBG,a,eE,aPZ,f,kills,aRl,pW,l,m,h,bZ,vw];grind [GP]);rw[b];exact c _ ⟨uC,λk g=>wy<|λe=>g<|by simp[e]⟩<|lO a
def anc{Y:ae}{e:TypeId}{z d v i j:Nat}{aa:List (List AV)}{o b:Bool}{r:List AV}{q:Option Nat}(a:box Y (d,v)=V ⟨e,z,o,b,aa⟩)(c:aa[i]?=V r):lS q Y (.p (d,v) i j)=aN q (r.drop j):=by simp[lS,iE,a,c]
def mo{e:TypeId}{z d n:Nat}{a:List AV}{Y:ae}{K:be}(g:L Y=n)(c:∀Y',Fr Y Y' [d]->box Y' (d,(aZ Y d).lB+1)=V ⟨e,z,U,U,[a]⟩->K (.p (d,(aZ Y d).lB+1) 0 0) Y')(h:L a=z:=by exact rfl)(b:0<z:=by decide)(f:d<n:=by decide):eV (bs e a Y d) K:=pv h b (g▸f) c
def qW{α:Type}{f:α->List AV}{z:Nat}(a:∀x,L (f x)=z){l:List α}:∀r∈l.map f,L r=z:=by simp_all
def uS{a b c d:AV}:aN (V 4) [a,b,c,d]=V (.a [a,b,c,d]):=rfl
def iF{a:AV}{l:List AV}:aN J (a::l)=V a:=rfl
def zU{v:Value}:eY (.s v)=V [.s v]:=rfl
def aqx(s:aW)(r:AV)(Y:ae):Prop:=∃b d e,r= .a [b,iv s.tx,d,e]/\Gr Y [41] 186 2 b (s.ak.map cg.c)/\Gr Y [10] 4 1 d (s.done.map cb)/\Gr Y [14] 85 3 e (s.ay.map kw.c)
def aCH(s:aW){s0:ae}(hs:L s0=4096)(hp:L s.ak<100000/\L s.done<100000/\L s.ay<100000/\∀l∈s.ak,L l.bk<1000000):∃r q,(aqx s r q/\Fr s0 q [1,2,3,10,14,38,41])/\cZ aS GG 75 [.a s.c] s0 r q:=by refine aLp hs rfl λz A C ar _ b1=>?_;have n:L z=4096:=C.len.trans hs;have d:Fr s0 z [1]:=⟨C.len,λk hk=>ar k<|by simpa using hk⟩;simp only[IF,↓uL];refine mo n λs4 g b4=>?_;have D:box s4 (1,A)=_:=g.bt b1;simp only[acM,acL,u0,u1,rk,D,aj,nS,↓uL];refine fP (ds:=[10]) Gr.nil rfl (by decide) (by decide) (by rw[g.1,n];decide) (by simp) (by grind) (by grind) λu s6 w i=>?_;rw[dW] at w;have E:box s6 (1,A)=_:=i.bt D;simp only[acK,u0,u1,rk,E,aj,nS,↓uL];refine fP (ds:=[14]) Gr.nil rfl (by decide) (by decide) (by rw[i.1,g.1,n];decide) (by simp) (by grind [kw.c]) (by grind) λv s8 x j=>?_;rw[dW] at x;have ad:=w.fr j (by decide);have an:bM aNC alz [(1,iv s.tx),(2,u),(3,v)]=V (.a [.l [] U U,iv s.tx,u,v]):=(by simp[bM,aly,uc w,uc x,zU]);simp only[acJ,an,u0,↓uL];refine eF rfl rfl (by decide) (by rw[j.1,i.1,g.1,n];decide) λf b S=>?_;simp only[acI,↓uL];refine dT ?_ ?_;rcases w with⟨_,Z⟩|⟨d2,v2,Z,G,_⟩<;>rcases x with⟨_,e3⟩|⟨d3,v3,e3,H,_⟩<;>(try simp only[cE] at G)<;>(try simp only[cE] at H)<;>(try subst G)<;>(try subst H)<;>rw[Z,e3]<;>rfl;have T:box f (1,A)=_:=b.bt<|j.bt E;have W:box f (2,(aZ z 2).lB+1)=_:=b.bt<|j.bt<|i.bt b4;have af:=ad.fr b (by decide);have ag:=x.fr b (by decide);have O:L f=4096:=(by rw[b.1,j.1,i.1,g.1,n]);refine⟨λvs Y=>∃(k:Nat) (t:AV),vs=[iv k]/\k<=L s.ak/\Fr f Y [3,38,41]/\box Y (3,(aZ s8 3).lB+1)=V ⟨36,4,U,U,[[t,iv s.tx,u,v]]⟩/\Gr Y [41] 186 2 t ((s.ak.take k).map cg.c),fM<|L s.ak,⟨0,_,rfl,mh _,Fr.refl _ _,S,Gr.nil⟩,?_⟩;rintro vs Y ⟨k,t,rfl,hk,e,hb,g1⟩;have X:box Y (1,A)=_:=e.bt T;have c4:box Y (2,(aZ z 2).lB+1)=_:=e.bt W;simp+contextual only[acN,u0,u1,rk,uS,iF,X,hb,ix,aBE,aj,dc,bh,nS,↓uL];have P:L Y=4096:=(by rw[e.1,O]);refine⟨λh=>⟨vp h,?_⟩,λh=>?_⟩;have hR:=hp.2.2.2 _<|dB<|aL h;simp only[acH,au,u0,u1,rk,X,ix,aj,dc,bh,↓uL];refine⟨vp h,?_⟩;refine fP (ds:=[38]) Gr.nil rfl (by decide) (by decide) (by omega) (by simp) (by simp) (by grind) λR q y m=>?_;rw[dW] at y;have N:bM aPz C2 [(0,iv (gd s.ak k).pw),(1,R)]=V (.a [iv (gd s.ak k).pw,R]):=(by simp[bM,aly,uc y,zU]);simp only[acG,N,u0,↓uL];refine awE rfl ⟨_,rfl⟩ y λY2 d=>?_;have ac:=(g1.fr m<|by decide).fr d (by decide);refine fP ac rfl (by decide) (by decide) (by rw[d.1,m.1,P];decide) (by grind [cg.c]) (by grind [cg.c,gd]) (by grind) λa5 Y3 g5 M=>?_;have F:box Y3 (3,(aZ s8 3).lB+1)=_:=M.bt<|d.bt<|m.bt hb;simp only[acF,u0,u1,F,aj,Nat.add_zero,↓uL];refine Ev F (by rw[M.1,d.1,m.1,P];decide) (uc g5) (by simp) λY4 B am=>?_;simp only[acE,↓uL];refine dT ?_ ?_;rcases y with⟨_,e4⟩|⟨d4,v4,e4,K,_⟩<;>(try simp only[cE] at K)<;>(try subst K)<;>rw[e4]<;>rfl;simp only[au,cS,aY,↓uL];have o:=aL h;rw[fX<|by omega];refine⟨⟨k+1,a5,rfl,o,?_,am,?_⟩,?_⟩;exact e.trans ((m.mono<|by simp).trans<|(d.mono<|by simp).trans<|(M.mono<|by simp).trans<|B.mono<|by simp);have:=g5.fr B (by decide);rw[show s.ak.take (k+1)=s.ak.take k++[gd s.ak k] by rw[bT o,iJ o],dg];exact this;grind [fM,cM,bh];have ap:k=L s.ak:=(by grind);refine gN c4 (by omega) rfl rfl λY5 p b5=>?_;simp only[b5,u0,u1,uS,fe,aoz,↓uL];rw[ap,gV] at g1;refine⟨⟨t,u,v,rfl,g1.fr p (by decide),(af.fr e<|by decide).fr p (by decide),(ag.fr e<|by decide).fr p<|by decide⟩,?_⟩;exact(d.mono<|by simp).trans ((g.mono<|by simp).trans<|(i.mono<|by simp).trans<|(j.mono<|by simp).trans<|(b.mono<|by simp).trans<|(e.mono<|by simp).trans<|p.mono<|by simp)
def Dj(a b:AV):Prop:=∀k∈cD a,k∉cD b
theorem KJ{Y:ae}{g h:List Nat}{e j:TypeId}{z m:Nat}{a f:AV}{aa b:List (List AV)}(l:Gr Y g e z a aa)(i:Gr Y h j m f b)(p:∀k∈g,k∉h):Dj a f:=by rcases l with⟨_,rfl⟩|⟨d,v,rfl,r,_⟩;intro k c;simp[cD,dC,dK] at c;rcases i with⟨_,rfl⟩|⟨q,v',rfl,n,_⟩;intro k c;simp[cD,dC,dK];intro k c o;grind [cD,dC,dK,cE]
def jH{fn:Nat}{xs:List AV}{Y:ae}{d:Nat}{K Q:be}(f:uQ.elem fn=I)(h:∃r a,Q r a/\cZ aS GG fn xs Y r a)(e:∀r a,Q r a->L a=L Y/\K r a):cB fn xs Y d K:=by obtain⟨r,a,b,c⟩:=h;refine⟨r,a,c,(e r a b).1,?_⟩;rw[bA<|by show¬uQ.elem fn=U;rw[f];simp];simp_all
theorem Gr.sub{Y:ae}{ds b:List Nat}{e:TypeId}{z:Nat}{a:AV}{aa:List (List AV)}(i:Gr Y ds e z a aa)(j:∀k∈ds,k∈b):Gr Y b e z a aa:=by rcases i with h|⟨d,v,c,f,g⟩;exact .inl h;exact .inr ⟨d,v,c,j d f,g⟩
def awZ{s:aW}{Y:ae}{d:Nat}{K:be}(h:L s.ak<100000/\L s.done<100000/\L s.ay<100000/\∀l∈s.ak,L l.bk<1000000)(i:L Y=4096)(n:∀b e f Y',Fr Y Y' [1,2,3,10,14,38,41]->Gr Y' [10,14,41] 186 2 b (s.ak.map cg.c)->Gr Y' [10,14,41] 4 1 e (s.done.map cb)->Gr Y' [10,14,41] 85 3 f (s.ay.map kw.c)->Dj b e->Dj b f->Dj e f->K (.a [b,iv s.tx,e,f]) Y'):cB 75 [.a s.c] Y d K:=by refine jH rfl (aCH s i h) ?_;rintro r j ⟨⟨b,e,f,rfl,g1,k,m⟩,g⟩;exact⟨g.1,by grind [Gr.sub,KJ]⟩
def QS{aa:List (List AV)}{Q:o8}:(∀r,(∃t o,r=AV.l aa t o)->Q r)=∀t o,Q (.l aa t o):=by grind
def ang{Y:ae}{aa:List (List AV)}{t o:Bool}{v:Value}{r:AV}:lo Y [.l aa t o, .s v] r=True:=by simp[lo,nA,eB,iR]
def jh(l:List Int)(a:List Int)(k:Nat):List Int:=(a.take k).foldl fk l
theorem QL{l a:List Int}{k:Nat}(h:k<L a):jh l a (k+1)=fk (jh l a k) (gd a k):=by rw[jh,iJ h,RO,bT h];rfl
def Bh{l a:List Int}:∀{k:Nat},k<=L a->L (jh l a k)<=L l+k
 |0,_=>by simp[jh]
 |k+1,h=>by
  rw[QL<|by omega]
  have:=QK (jh l a k)<|gd a k
  have:=Bh (l:=l) (a:=a) (k:=k) (by omega)
  omega
def mP(a b:List Int):List Int:=jh (jh [] a<|L a) b<|L b
def OM(a b:List Int)(n:L a+L b<900000):Ct 141 [sl ci a,sl ci b] (λr=>∃t o,r= .l ((mP a b).map ci) t o):=by refine aLn λs0 m j=>?_;simp only[ach,↓uL];refine yh (λs:Bool×Bool×Nat=>[.l ((jh [] a s.2.2).map ci) s.1 s.2.1,iv s.2.2]) 1 (L a) (λs=>s.2.2<=L a) (U,U,0) (by simp) ?_;rintro⟨t,o,k⟩ c;simp only at c;have e:=Bh (l:=[]) (a:=a) c;simp+contextual only[acj,u0,u1,K7,ar,ix,rk,bh,QS,ang,↓uL];refine⟨λh=>⟨vp h,by simp only[vw] at e;omega,λf o'=>?_⟩,λh=>?_⟩;have:=aL h;refine wN (enc:=λs:Bool×Bool×Nat=>[.l ((jh [] a s.2.2).map ci) s.1 s.2.1,iv s.2.2]) (s:=(t,o,k)) (s':=(f,o',k+1)) (i:=k) ?_ rfl rfl (aL h)<|aL h;grind [fX,QL,aL];have d:k=L a:=(by grind);subst d;refine yh (λs:Bool×Bool×Nat=>[.l ((jh (jh [] a<|L a) b s.2.2).map ci) s.1 s.2.1,iv s.2.2]) 1 (L b) (λs=>s.2.2<=L b) (t,o,0) (by simp) ?_;rintro⟨t,o,k⟩ c;simp only at c;have g:=Bh (l:=jh [] a<|L a) (a:=b) c;simp+contextual only[aci,u0,u1,K7,ar,ix,rk,bh,QS,ang,↓uL];refine⟨λh=>⟨vp h,by simp only[vw] at e;omega,λf o'=>?_⟩,λh=>?_⟩;have:=aL h;refine wN (enc:=λs:Bool×Bool×Nat=>[.l ((jh (jh [] a<|L a) b s.2.2).map ci) s.1 s.2.1,iv s.2.2]) (s:=(t,o,k)) (s':=(f,o',k+1)) (i:=k) ?_ rfl rfl (aL h)<|aL h;grind [fX,QL,aL];have d:k=L b:=(by grind);subst d;exact⟨rfl,t,o,rfl⟩
def FE:FT:=pn OM
def ayJ{a b Lw K}:=rQ FE OM a b Lw K
def aoX:dO:=(141,FE)::aoW
def apa:eJ aoX:=it (aN0 OM)<|Rb
def wa:=ai @ayJ<|@K7
def atV:=bi 43 [(6,([15],[7,12])),(10,([45],[2,4,5,6,7,12,15,30])),(12,([54],[2,4,5,6,7,12,15,30])),(29,([17],[7,12])),(36,([19],[7,12,18]))]
def acl c R a:=aw 4 a c λb=>aE R a [b,iv 0,bv I]
def aco d R b a:=aw 4 a d λc=>aE R a [c,gt b 0,bv U]
def CP c e R b a:=Rg->aw 4 a c λd=>sV (aK 4 a e d)<|aco e R b
def acp a e h i c j k q l m g o p n(b:aG) d:=dH [bo a,bo e,km,bo a,bo h,km,lb U [i,c] [],bo j,bo k,km,lb I [q] [],Qh [.f 141 [] [],l,m],lb U [g,c] [],bo o,lb I [p,n] []] [(0,10),(1,10),(2,10),(3,10),(4,10),(5,10),(6,10),(7,10),(8,10)]<|b [iv 0] d
def acr c b i j k l m n o p h d a:=fV FE a [c,d] λe=>ao 2 a b i λf=>aB 1 a f λg=>sV (aK 1 a g e)<|acp j k l m i n o p c d b f g e h
def acs a c e d l g h f i j m(k:aG) b:=dH [bo a,bo c,km,bo a,bo e,km,km,lb U [d,l] [],bo g,lb I [h,iv 3] [],lb U [f,l] [],bo i,lb I [j,m] []] [(3,9),(4,9),(5,9),(6,9)]<|k [iv 0] b
def act b k l m e g f h i j a:=ao 3 a b k λc=>aB 1 a c λd=>sV (aK 1 a d l)<|acs m e g f k h i b c d l j
def IE b j k i a:=aB 3 a b λc=>aM a c λd=>aB 3 a b λe=>aM a e λh=>ao 3 a d j λf=>aB 0 a f λg=>sV (aK 1 a g<|iv 3)<|act h j k b c e d f g i
def acu a c e d l g h f i j(k:aG) b:=dH [bo a,bo c,km,bo a,bo e,km,lb U [d,l] [],bo g,lb I [h,iv 2] [],lb U [f,l] [],bo i,lb I [j,iv 0] []] [(3,8),(4,8),(5,8)]<|k [iv 0] b
def acv b k l e g f h i j a:=ao 3 a b k λc=>aB 1 a c λd=>sV (aK 1 a d<|iv 0)<|acu l e g f k h i b c d j
def IC b j i a:=aB 3 a b λc=>aM a c λd=>aB 3 a b λe=>aM a e λh=>ao 3 a d j λf=>aB 0 a f λg=>sV (aK 1 a g<|iv 2)<|acv h j b c e d f g i
def acy a h(g:aG) b:=Rg->ab 3 a h λd=>ao 3 a d (gt b 0) λe=>aB 0 a e λf=>sV (aK 1 a f<|iv 4) λc=>g [gt b 0] c
def acB f b e c(a:cG):=fV aQF f [b,e] λd=>ah d (a [e])<|a [c]
def ID a(e:aG)(b:bu) f c:=aV (gt a 0) (iv 1) λd=>e [d] c/\b [d] c<b a f
def acD c o(n:aG) d e b a:=Rg->aJ a c λf=>aU (gt b 0) f λg=>ah g (ab 3 a o λh=>ao 1 a c (gt b 0) λi=>aM a i λj=>ao 3 a h j λk=>aB 0 a k λl=>sV (aK 1 a l<|iv 4)<|ID b d e a) (aJ a c λm=>n [m] a)
def acx a b e(c:aG) d f m a5 R:=Rg->ah (gt R 0) (ab 0 a b λac=>ao 2 a ac e λad=>aB 0 a ad λae=>sV (aK 1 a ae<|iv<|-1) λS=>c [iv 0] S) (bf d (iv 8) λaf=>ah af (aB 0 a b λh=>aM a h λag=>aB 0 a b λi=>aM a i λj=>ao 2 a j e λk=>aB 1 a k λl=>aM a l λak=>eV (aX bH 1 a [(0,f)])<|acr ak ag e b h i j k l f c)<|bf d (iv 9) λal=>ah al (ab 0 a b λam=>ab 0 a b λan=>ao 2 a an e λap=>ab 1 a ap λaq=>fV Cb a [aq,f] λar=>ao 2 a am e λau=>aB 1 a au λav=>sV (aK 1 a av ar) λT=>c [iv 0] T)<|bf d (iv 12) λax=>ah ax (aB 1 a b λay=>sV (aK 1 a ay f) λW=>c [iv 0] W)<|bf d (iv 13) λaz=>ah az (aB 1 a b λaA=>sV (aK 1 a aA<|iv<|-1) λX=>c [iv 0] X)<|bf d (iv 14) λaC=>ah aC (ab 3 a b λaD=>ao 3 a aD f λaE=>aB 2 a aE λaF=>sV (aK 1 a aF<|bv U) λZ=>c [iv 0] Z)<|bf d (iv 15) λaI=>ah aI (ab 3 a b λaL=>ao 3 a aL f λaN=>aB 2 a aN λaP=>sV (aK 1 a aP<|bv I) λaa=>c [iv 0] aa)<|bf d (iv 16) λaQ=>ah aQ (ab 0 a b λaR=>ab 2 a m λaT=>ao 2 a aT e λaU=>ab 1 a aU λaV=>ao 2 a aR aV λaW=>aB 0 a aW λp=>sV (aK 1 a p<|iv<|-1)<|IE b f e c)<|bf d (iv 17) λq=>ah q (ab 0 a b λr=>ab 2 a m λs=>ao 2 a s e λt=>ab 1 a t λu=>ao 2 a r u λv=>aB 0 a v λw=>sV (aK 1 a w f)<|IC b f c)<|bf d (iv 18) λx=>ah x (aw 4 a b λy=>fV w7 a [y,e] λg=>aJ a g λz=>aO .gtr z (iv 0) λA=>ah A (ao 1 a g (iv 0) λB=>aM a B λC=>jR 29 (acy a b c)<|acB a g a5 C)<|c [iv<|-1] a)<|bf d (iv 19) λD=>ah D (aw 4 a b λE=>fV w7 a [E,e] λF=>lV [iv 0] a<|acD F b c)<|bf d (iv 20) λG=>ah G (ab 3 a b λH=>ao 3 a H e λK=>aB 0 a K λM=>sV (aK 1 a M<|iv 1) λn=>c [iv 0] n)<|bf d (iv 22) λN=>ah N (ab 2 a b λO=>ao 1 a O e λP=>sV (aK 1 a P<|bv U) λo=>c [iv 0] o)<|c [iv 0] a)
def acA d(b:cG):=bf d (iv 7) λa=>ah a (b [a]) (bf d (iv 11) λc=>b [c])
def acw a c g e(b:aG) f l m d:=Rg->ah (gt d 0) (ab 0 a c λi=>ao 2 a i g λj=>aB 0 a j λk=>sV (aK 1 a k e) λh=>b [iv 0] h) (jR 12 (acx a c g b f e l m)<|acA f)
def acz d(b:cG):=bf d (iv 6) λa=>ah a (b [a]) (bf d (iv 10) λc=>b [c])
def acC d a c e q p r(b:aG):=bf d (iv 1) λh=>ah h (ab 3 a c λi=>ao 3 a i e λj=>aB 0 a j λk=>sV (aK 1 a k<|iv 2) λf=>b [iv 0] f) (bf d (iv 2) λl=>ah l (ab 3 a c λm=>ao 3 a m e λn=>aB 0 a n λo=>sV (aK 1 a o<|iv 5) λg=>b [iv 0] g)<|jR 10 (acw a c q e b d p r)<|acz d)
def acm a h R e d f c g b:=jV 6 (CP a h R)<|acC e b a d f c g
def acn c a e f g R m d b:=aw 6 b c λn=>aw 4 b a λo=>fV BY b [n,o,e,f,g] λp=>cf p λi=>ah i (rV (bM aNC alz []) λj=>sV (aK 4 b d j)<|acl d R) (aw 4 b a λk=>cB 75 [k] b 29 λl h=>sV (aK 4 h a l)<|acm a d R f e g c m)
def ack b a c d e f g R:=eV (bs 36 aNC g 12)<|acn b a c d e R f
def aLo{b:List AV}{c:List AV}{d e f g:AV}{R:o8}(l0:L b=6)(l1:L c=4)(h:H2 31 6 6 b 36 4 7 c λi j k=>ack i j d e f g k R):Ct 80 [.a b, .a c,d,e,f,g] R:=z2 atV apa Tryz.func80 l0 l1 h
structure Sy(Y:ae)(d v:Nat)(sp:List Nat)(s:aW)(a1 a2 a3:AV):Prop where
 bx:box Y (d,v)=V ⟨36,4,U,U,[[a1,iv s.tx,a2,a3]]⟩
 g1:Gr Y sp 186 2 a1 (s.ak.map cg.c)
 g2:Gr Y sp 4 1 a2 (s.done.map cb)
 g3:Gr Y sp 85 3 a3 (s.ay.map kw.c)
 d12:Dj a1 a2
 d13:Dj a1 a3
 d23:Dj a2 a3
theorem Dj.no{a b:AV}{d v n:Nat}(h:Dj a b)(e:a= .m (d,v) n):d∉cD b:=h d (by grind [cD,dC,dK])
def Dj.sym{a b:AV}(h:Dj a b):Dj b a:=λk f e=>h k e f
def Gr.other{Y Y':ae}{ds:List Nat}{e:TypeId}{z d:Nat}{a:AV}{aa:List (List AV)}(k:Gr Y ds e z a aa)(j:Fr Y Y' [d])(l:d∉cD a):Gr Y' ds e z a aa:=by rcases k with h|⟨f,v,rfl,g,i⟩;exact .inl h;refine .inr ⟨f,v,rfl,g,?_⟩;rw[j.box<|by grind [cE,cD,dC,dK]];exact i
def map_set{α:Type}{f:α->List AV}{l:List α}{i:Nat}{x:α}:(l.map f).set i (f x)=(l.set i x).map f:=by simp
def aO7{Y:ae}{d v:Nat}{g:List Nat}{s:aW}{n o l:AV}{i:Int}{j:Nat}{x:Value}{K:AV->be}(S:Sy Y d v g s n o l)(u:∀k∈g,k<L Y/\k≠d)(t:aF (L s.ay) i)(A:j<3)(w:kw)(F:(gd s.ay i.toNat).c.set j (.s x)=w.c)(z:∀e v' Y',e∈g->Fr Y Y' g->Sy Y' d v g {s with ay:=s.ay.set i.toNat w} n o l->K (.p (e,v') i.toNat 0) (.p (e,v') i.toNat j) Y'):rV (cz 3 Y l<|iv i) λp=>rV (iQ j Y p) λq=>sV (aK 1 Y q<|.s x) (K p q):=by have E:L (s.ay.map kw.c)=L s.ay:=(by simp);refine xL S.g3 (by simp_all) λe v' f m r=>?_;rw[rR,r];have B:(s.ay.map kw.c)[i.toNat]?=V (gd s.ay i.toNat).c:=(by have D:i.toNat<L s.ay:=(by have:=t.1;have:=t.2;omega);grind [eC,bT]);show sV (aK 1 Y (.p (e,v') i.toNat<|0+j)<|.s x)<|K _<|.p (e,v') i.toNat<|0+j;rw[aj];refine Dz (y:= .s x) r (u e f).1 B A rfl rfl rfl rfl λY' h C=>?_;refine z e v' Y' f (h.mono<|by simp[f]) ⟨?_,?_,?_,?_,S.d12,S.d13,S.d23⟩;rw[h.box<|by grind];exact S.bx;exact S.g1.other h<|S.d13.sym.no m;exact S.g2.other h<|S.d23.sym.no m;refine .inr ⟨e,v',?_,f,?_⟩;rw[m];simp;simp_all
def yO{Y:ae}{d v:Nat}{g:List Nat}{s:aW}{l n o:AV}{i:Int}{j:Nat}{x y:AV}{K:AV->be}(S:Sy Y d v g s l n o)(w:∀k∈g,k<L Y/\k≠d)(u:aF (L s.ak) i)(C:j<2)(E:nrm (eR Y x)=y)(z:eB x=[])(F:eY y=V [y])(t:eN y=U)(A:cg)(N:(gd s.ak i.toNat).c.set j y=A.c)(B:∀e v' Y',e∈g->Fr Y Y' g->Sy Y' d v g {s with ak:=s.ak.set i.toNat A} l n o->K (.p (e,v') i.toNat 0) (.p (e,v') i.toNat j) Y'):rV (cz 2 Y l<|iv i) λp=>rV (iQ j Y p) λq=>sV (aK 1 Y q x) (K p q):=by have M:L (s.ak.map cg.c)=L s.ak:=(by simp);refine xL S.g1 (by simp_all) λe v' f m r=>?_;rw[rR,r];have D:(s.ak.map cg.c)[i.toNat]?=V (gd s.ak i.toNat).c:=(by have H:i.toNat<L s.ak:=(by have:=u.1;have:=u.2;omega);grind [eC,bT]);show sV (aK 1 Y (.p (e,v') i.toNat<|0+j) x)<|K _<|.p (e,v') i.toNat<|0+j;rw[aj];refine Dz (y:=y) r (w e f).1 D C E z F t λY' h G=>?_;refine B e v' Y' f (h.mono<|by simp[f]) ⟨?_,?_,?_,?_,S.d12,S.d13,S.d23⟩;rw[h.box<|by grind];exact S.bx;refine .inr ⟨e,v',?_,f,?_⟩;rw[m];simp;simp_all;exact S.g2.other h<|S.d12.no m;exact S.g3.other h<|S.d13.no m
def aIC{Y:ae}{d v:Nat}{g:List Nat}{s:aW}{l h m:AV}{i:Int}{b:Bool}{K:ae->Prop}(S:Sy Y d v g s l h m)(q:∀k∈g,k<L Y/\k≠d)(o:aF (L s.done) i)(r:∀Y',Fr Y Y' g->Sy Y' d v g {s with done:=s.done.set i.toNat b} l h m->K Y'):rV (cz 1 Y h<|iv i) λp=>sV (aK 1 Y p<|bv b) K:=by have z:L (s.done.map cb)=L s.done:=(by simp);refine xL S.g2 (by simp_all) λn v' e j t=>?_;have u:(s.done.map cb)[i.toNat]?=V (cb<|gd s.done i.toNat):=(by have x:i.toNat<L s.done:=(by have:=o.1;have:=o.2;omega);grind [eC,bT]);refine Dz (y:=bv b) t (q n e).1 u (by simp) rfl rfl rfl rfl λY' f w=>?_;refine r Y' (f.mono<|by simp[e]) ⟨?_,?_,?_,?_,S.d12,S.d13,S.d23⟩;rw[f.box<|by grind];exact S.bx;exact S.g1.other f<|S.d12.sym.no j;refine .inr ⟨n,v',?_,e,?_⟩;rw[j];simp;simp_all;exact S.g3.other f<|S.d23.no j
def ni(s:aW)(i:Int)(e:kw):aW:={s with ay:=s.ay.set i.toNat e}
def lC(s:aW)(i:Int)(e:cg):aW:={s with ak:=s.ak.set i.toNat e}
def fA(s:aW)(i:Int):kw:=gd s.ay i.toNat
def cH(s:aW)(i:Int):cg:=gd s.ak i.toNat
def tD(s:aW)(nt lD:Int):Int:=if lD∈fO s nt then lD else gd (fO s nt) 0
def cU(w:br)(s:aW)(t kind nt lD:Int):aW×Int:=
 if kind=1 then(ni s t {fA s t with cQ:=2},0)
 else if kind=2 then(ni s t {fA s t with cQ:=5},0)
 else if kind=6\/kind=10 then(lC s nt {cH s nt with pw:=t},0)
 else if kind=7\/kind=11 then(lC s nt {cH s nt with pw:= -1},0)
 else if kind=8 then(lC s nt {cH s nt with bk:=mP (cH s nt).bk [t]},0)
 else if kind=9 then(lC s nt {cH s nt with bk:=fJ (cH s nt).bk t},0)
 else if kind=12 then({s with tx:=t},0)
 else if kind=13 then({s with tx:= -1},0)
 else if kind=14 then(ni s t {fA s t with atomic:=U},0)
 else if kind=15 then(ni s t {fA s t with atomic:=I},0)
 else if kind=16 then(ni (lC s (gd w.bC nt.toNat).eg {cH s (gd w.bC nt.toNat).eg with pw:= -1}) t {fA s t with cQ:=3,cond:=nt},0)
 else if kind=17 then(ni (lC s (gd w.bC nt.toNat).eg {cH s (gd w.bC nt.toNat).eg with pw:=t}) t {fA s t with cQ:=2,cond:=0},0)
 else if kind=18 then(if fO s nt=[] then(s,-1) else(ni s (tD s nt lD) {fA s (tD s nt lD) with cQ:=4},tD s nt lD))
 else if kind=19 then((fO s nt).foldl (λs u=>ni s u {fA s u with cQ:=4}) s,L<|fO s nt)
 else if kind=20 then(ni s nt {fA s nt with cQ:=1},0)
 else if kind=22 then({s with done:=s.done.set nt.toNat U},0)
 else(s,0)
def aBt{Y:ae}{ds:List Nat}{e:TypeId}{z:Nat}{a:AV}{aa:List (List AV)}(g:Gr Y ds e z a aa):∃f o,gi Y a= .l aa f o:=by rcases g with⟨rfl,rfl⟩|⟨d,v,rfl,_,h⟩;exact⟨_,_,rfl⟩;simp_all [gi]
def sU{Y:ae}{ds:List Nat}{e:TypeId}{z:Nat}{a:AV}{aa:List (List AV)}(g:Gr Y ds e z a aa):∃f o,dQ Y a= .l aa f o:=by rcases g with⟨rfl,rfl⟩|⟨d,v,rfl,h,i⟩;exact⟨_,_,rfl⟩;simp_all [dQ]
def eD(s:aW)(f:Bool×Bool×Bool×Bool×Bool×Bool):List AV:=[.l (s.ak.map cg.c) f.1 f.2.1,iv s.tx, .l (s.done.map cb) f.2.2.1 f.2.2.2.1, .l (s.ay.map kw.c) f.2.2.2.2.1 f.2.2.2.2.2]
def avt{Y:ae}{m:List Nat}{s':aW}{e g h:AV}{v:Int}{R:o8}{i:Nat}{r:List AV}(S:Sy Y 7 1 m s' e g h)(F:∀k∈m,k≠12)(C:box Y (12,i)=V ⟨36,4,U,U,[r]⟩)(D:L r=4)(G:L Y=4096)(B:∀f,R<|.t [.a<|eD s' f,iv v,bv U]):CP (.p (7,1) 0 0) (.p (12,i) 0 0) R [iv v] Y:=by intro _;have y:lS (V 4) Y (.p (7,1) 0 0)=V (.a [e,iv s'.tx,g,h]):=(by simp[lS,iE,S.bx,aN]);rw[aw,y];refine gN (cs:=[e,iv s'.tx,g,h]) C (by omega) D rfl λY' j n=>?_;have z:lS (V 4) Y' (.p (12,i) 0 0)=V (.a [e,iv s'.tx,g,h]):=(by simp[lS,iE,n,aN]);unfold aco;rw[aw,z];have l:∀k∈m,k∉[12]:=(by simp_all);obtain⟨u,o1,o⟩:=sU<|S.g1.fr j l;obtain⟨w,E,q⟩:=sU<|S.g2.fr j l;obtain⟨x,o3,s⟩:=sU<|S.g3.fr j l;show aE R Y' [.a [e,iv s'.tx,g,h],iv v,bv U];have A:jS Y' [.a [e,iv s'.tx,g,h],iv v,bv U]= .t [.a<|eD s' (u,o1,w,E,x,o3),iv v,bv U]:=(by show AV.t [.a<|[e,iv s'.tx,g,h].map<|dQ Y',iZ Y'<|iv v,iZ Y'<|bv U]=_;simp only[ji,mU,o,q,s];rfl);unfold aE;rw[A];exact⟨rfl,B _⟩
def Qt{Y:ae}{ds:List Nat}{e:TypeId}{z:Nat}{a:AV}{α:Type}{f:α->List AV}{l:List α}(g:Gr Y ds e z a<|l.map f):gK (gi Y a)=sl f l:=by obtain⟨i,o,h⟩:=aBt g;rw[h];rfl
def aoP{Y:ae}{d v:Nat}{h:List Nat}{s:aW}{e f g:AV}(S:Sy Y d v h s e f g):dG Y (.a [e,iv s.tx,f,g])= .a s.c:=by simp only[dG,nrm,eR,ji,mU,Qt S.g1,Qt S.g2,Qt S.g3];rfl
section
variable{a b c d:AV}
def rq0:aN J [a,b,c,d]=V a:=rfl
def rq1:aN J (aOz 1 [a,b,c,d])=V b:=rfl
def rq2:aN J (aOz 2 [a,b,c,d])=V c:=rfl
def yD:aN J (aOz 3 [a,b,c,d])=V d:=rfl
def rq4:aN (V 4) [a,b,c,d]=V (.a [a,b,c,d]):=rfl
end
def tf{K:o8}{Y:ae}{i:Int}{l:List Int}{t o:Bool}:rV (cz 1 Y (.l (l.map ci) t o)<|iv i) K=(aF (L l) i/\K (.q<|ci<|gd l i.toNat)):=amX (Y:=Y)
def aoQ{Y:ae}{d v:Nat}{k:List Nat}{s:aW}{f l m:AV}{i:Int}{K:AV->AV->o8}(S:Sy Y d v k s f l m)(j:aF (L s.ak) i)(n:∀e v',e∈k->K (.p (e,v') i.toNat 0) (.p (e,v') i.toNat 1) (sl ci (gd s.ak i.toNat).bk)):rV (cz 2 Y f<|iv i) λp=>rV (iQ 1 Y p) λq=>rV (lS J Y q) (K p q):=by have u:L (s.ak.map cg.c)=L s.ak:=(by simp);refine xL S.g1 (by simp_all) λe v' h t g=>?_;rw[rR,g];have o:(s.ak.map cg.c)[i.toNat]?=V (gd s.ak i.toNat).c:=(by have r:i.toNat<L s.ak:=(by have:=j.1;have:=j.2;omega);grind [eC,bT]);show rV (lS J Y<|.p (e,v') i.toNat<|0+1)<|K _<|.p (e,v') i.toNat<|0+1;rw[aj,anc g o];exact n e v' h
def aoR{Y:ae}{d v:Nat}{g:List Nat}{s:aW}{h i j:AV}{x:Int}{K:ae->Prop}(S:Sy Y d v g s h i j)(n:d<L Y)(e:∀k∈g,k∉[d])(m:∀Y',Fr Y Y' [d]->Sy Y' d v g {s with tx:=x} h i j->K Y'):sV (aK 1 Y (.p (d,v) 0 1)<|iv x) K:=by refine Ev S.bx n rfl (by simp) λY' f l=>?_;exact m Y' f ⟨l,S.g1.fr f e,S.g2.fr f e,S.g3.fr f e,S.d12,S.d13,S.d23⟩
def Af{α:Type}[Inhabited α]{l:List α}{i:Int}{x:α}(h:aF (L l) i):gd (l.set i.toNat x) i.toNat=x:=by have e:i.toNat<L l:=(by have:=h.1;have:=h.2;omega);grind [bT]
def uE(s:aW)(u:Int):aW:=ni s u {fA s u with cQ:=4}
def aD3{s:aW}{u:Int}:L (uE s u).ay=L s.ay:=by simp[uE,ni]
theorem ans:∀{l:List Int} {s:aW},L (l.foldl uE s).ay=L s.ay
 |[],_=>rfl
 |u::l,s=>by rw[List.foldl_cons,ans,aD3]
theorem apF{s:aW}{c u:Int}(h:u∈fO s c):aF (L s.ay) u:=by grind [fO,eh,dJ]
def wM:aW:=⟨[],0,[],[]⟩
def ON(w:br)(s:aW)(t kind nt lD:Int)(hp:L w.bC<4611686018427387904/\(∀l∈s.ak,L l.bk<100000)/\L s.ak<100000/\L s.done<100000/\L s.ay<100000):Ct 80 [.a w.c, .a s.c,iv t,iv kind,iv nt,iv lD] (λr=>∃f,r=bif jm w s t kind nt then .t [.a<|eD (cU w s t kind nt lD).1 f,iv (cU w s t kind nt lD).2,bv U] else .t [.a<|eD wM f,iv 0,bv I]):=by refine aLo rfl rfl λs4 R b1 b2 h0=>?_;simp only[ack,↓uL];refine mo R λs6 N b6=>?_;have c1:box s6 (6,1)=_:=N.bt b1;have c2:box s6 (7,1)=_:=N.bt b2;simp+contextual only[acn,u0,u1,wa,ar,c1,c2,rk,ix,aj,dc,↓uL];refine⟨(by grind),λhe=>?_,λhe=>?_⟩;simp only[eH] at he;rw[show bM aNC alz []=V (.a aNC) from rfl];refine gN (cs:=aNC) b6 (by rw[N.1,R];decide) rfl rfl λs7 F7 b7=>?_;simp only[acl,u1,b7,↓uL];refine⟨rfl,(U,U,U,U,U,U),?_⟩;rw[he];rfl;simp only[fK] at he;obtain⟨hf,hi,hn⟩:lh w s=U/\dh t (L w.ay)=U/\named w kind nt=U:=(by grind [jm]);obtain⟨f1,f2,f3,f4⟩:=iY hf;have A:aF (L s.ay) t:=(by grind [dX]);refine awZ (by grind) (by rw[N.1,R]) λH a2 B bL E g1 g2 g3 aX a0 a4=>?_;refine gN (cs:=[H,iv s.tx,a2,B]) (E.bt c2) (by rw[E.1,N.1,R];decide) rfl rfl λn D F=>?_;have S:Sy n 7 1 [10,14,41] s H a2 B:=⟨F,g1.fr D (by decide),g2.fr D (by decide),g3.fr D (by decide),aX,a0,a4⟩;have aG:L n=4096:=(by rw[D.1,E.1,N.1,R]);have aQ:box n (12,(aZ s4 12).lB+1)=_:=D.bt<|E.bt b6;have aU:box n (6,1)=_:=D.bt<|E.bt c1;have o:∀Y' s' v,Fr n Y' [7,10,14,41]->Sy Y' 7 1 [10,14,41] s' H a2 B->cU w s t kind nt lD=(s',v)->CP (.p (7,1) 0 0) (.p (12,(aZ s4 12).lB+1) 0 0) (λr=>∃f,r=bif jm w s t kind nt then .t [.a<|eD (cU w s t kind nt lD).1 f,iv (cU w s t kind nt lD).2,bv U] else .t [.a<|eD wM f,iv 0,bv I]) [iv v] Y':=(by intro Y' s' v i j e;refine avt j (by decide) (i.bt aQ) rfl (by rw[i.1,aG]) λf=>⟨f,?_⟩;simp_all);have z:∀k∈[10,14,41],k<L n/\k≠7:=(by grind);have m:∀k∈[10,14,41],k∈[7,10,14,41]:=(by decide);simp only[acm,di,↓uL];generalize CP (.p (7,1) 0 0) (.p (12,(aZ s4 12).lB+1) 0 0) _=g at o⊢;simp+contextual only[acC,u0,u1,F,yD,aj,↓uL];refine⟨λk1=>?_,λk1=>⟨λk2=>?_,λk2=>?_⟩⟩;simp only[j1] at k1;refine aO7 (K:=λ_ _ Y=>g [iv 0] Y) S z A (by decide) {fA s t with cQ:=2} rfl λ_ _ Y' _ i j=>o Y' _ _ (i.mono m) j ?_;simp[cU,k1,ni];simp only[j1] at k2;refine aO7 (K:=λ_ _ Y=>g [iv 0] Y) S z A (by decide) {fA s t with cQ:=5} rfl λ_ _ Y' _ i j=>o Y' _ _ (i.mono m) j ?_;simp[cU,k2,ni];simp only[acz,iM,aY,sw,↓uL];simp+contextual only[acw,u0,u1,F,rq0,aj,↓uL];refine⟨λk6=>?_,λk6=>?_⟩;simp only[fH,j1] at k6;have x:aF (L s.ak) nt:=(by grind [mJ]);refine yO (K:=λ_ _ Y=>g [iv 0] Y) S z x (by decide) (y:=iv t) rfl rfl rfl rfl {cH s nt with pw:=t} rfl λ_ _ Y' _ i j=>o Y' _ _ (i.mono m) j ?_;grind [cU,lC];simp only[acA,iM,aY,sw,↓uL];simp+contextual only[acx,u0,u1,F,aU,rq0,rq1,rq2,yD,rq4,rk,ix,aj,↓uL];refine⟨λk7=>?_,λk7=>⟨λk8=>?_,λk8=>⟨λk9=>?_,λk9=>⟨λW=>?_,λW=>⟨λX=>?_,λX=>⟨λZ=>?_,λZ=>⟨λaa=>?_,λaa=>⟨λab=>?_,λab=>⟨λac=>?_,λac=>⟨λaq=>?_,λaq=>⟨λad=>?_,λad=>⟨λae=>?_,λae=>⟨λaf=>?_,λaf=>?_⟩⟩⟩⟩⟩⟩⟩⟩⟩⟩⟩⟩⟩;simp only[fH,j1] at k7;have x:aF (L s.ak) nt:=(by grind [mJ]);refine yO (K:=λ_ _ Y=>g [iv 0] Y) S z x (by decide) (y:=iv<|-1) rfl rfl rfl rfl {cH s nt with pw:= -1} rfl λ_ _ Y' _ i j=>o Y' _ _ (i.mono m) j ?_;grind [cU,lC];simp only[j1] at k8;have x:aF (L s.ak) nt:=(by grind [mJ]);have be:=hp.2.1 _<|ii x;refine aoQ S x λd' v' a7=>?_;simp only[iz,bQ,acr,↓uL];rw[show(AV.l [[iv t]] U U)=AV.l ([t].map ci) U U from rfl];simp only[ar,wa,QS];refine⟨by grind,λt' o'=>⟨.inl rfl,?_⟩⟩;refine yO (K:=λp q Y=>acp (.p (7,1) 0 0) (.p (7,1) 0 0) (iv nt) (.p (7,1) 0 0) H (.p (d',v') nt.toNat 0) (.p (d',v') nt.toNat 1) (iv t) (sl ci (gd s.ak nt.toNat).bk) (.l [[iv t]] U U) H p q (.l ((mP (gd s.ak nt.toNat).bk [t]).map ci) t' o') g Y) S z x (by decide) (y:=sl ci<|mP (gd s.ak nt.toNat).bk [t]) rfl rfl rfl rfl {cH s nt with bk:=mP (cH s nt).bk [t]} rfl λ_ _ Y' _ i j=>?_;refine dT (by simp[eL,okT,tok,lb,cD,dC,dK])<|o Y' _ _ (i.mono m) j ?_;simp[cU,k8,lC];simp only[j1] at k9;have x:aF (L s.ak) nt:=(by grind [mJ]);have be:=hp.2.1 _<|ii x;refine aoQ (K:=λ_ _ bo=>fV Cb n [bo,iv t] λbp=>rV (cz 2 n H<|iv nt) λbq=>rV (iQ 1 n bq) λbs=>sV (aK 1 n bs bp) λbn=>g [iv 0] bn) S x λd' v' a7=>?_;simp only[ar,wa];refine⟨by omega,λt'=>?_⟩;refine yO (K:=λ_ _ Y=>g [iv 0] Y) S z x (by decide) (y:=sl ci<|fJ (gd s.ak nt.toNat).bk t) rfl rfl rfl rfl {cH s nt with bk:=fJ (cH s nt).bk t} rfl λ_ _ Y' _ i j=>o Y' _ _ (i.mono m) j ?_;simp[cU,k9,lC];simp only[j1] at W;exact aoR S (by omega) (by decide) λY' i j=>o Y' _ _ (i.mono<|by decide) j (by simp[cU,W]);simp only[j1] at X;exact aoR S (by omega) (by decide) λY' i j=>o Y' _ _ (i.mono<|by decide) j (by simp[cU,X]);simp only[j1] at Z;refine aO7 (K:=λ_ _ Y=>g [iv 0] Y) S z A (by decide) {fA s t with atomic:=U} rfl λ_ _ Y' _ i j=>o Y' _ _ (i.mono m) j ?_;simp[cU,Z,ni];simp only[j1] at aa;refine aO7 (K:=λ_ _ Y=>g [iv 0] Y) S z A (by decide) {fA s t with atomic:=I} rfl λ_ _ Y' _ i j=>o Y' _ _ (i.mono m) j ?_;simp[cU,aa,ni];simp only[j1] at ab;have G:aF (L w.bC) nt:=(by grind [oT]);have T:aF (L s.ak) (gd w.bC nt.toNat).eg:=(by rw[f2];exact f1 _<|ii G);refine⟨G,yO (K:=λ_ _ Y=>IE (.p (7,1) 0 0) (iv t) (iv nt) g Y) S z T (by decide) (y:=iv<|-1) rfl rfl rfl rfl {cH s (gd w.bC nt.toNat).eg with pw:= -1} rfl λ_ _ Y' _ i j=>?_⟩;have C:∀k∈[10,14,41],k<L Y'/\k≠7:=(by rw[i.1];exact z);simp only[IE,u0,u1,j.bx,yD,aj,↓uL];refine aO7 (K:=λp q Y=>act B (iv t) (iv nt) (.p (7,1) 0 0) (.p (7,1) 0 3) (.p (7,1) 0 3) B p q g Y) j C A (by decide) {fA s t with cQ:=3} rfl λM v1 Y2 a8 O S2=>?_;have P:∀k∈[10,14,41],k<L Y2/\k≠7:=(by rw[O.1];exact C);refine aO7 (K:=λp q Y=>acs (.p (7,1) 0 0) (.p (7,1) 0 3) (.p (7,1) 0 3) B (iv t) (.p (M,v1) t.toNat 0) (.p (M,v1) t.toNat 0) B p q (iv nt) g Y) S2 P (by grind) (by decide) {fA s t with cQ:=3,cond:=nt} (by simp only[Af A];rfl) λd2 v2 Y3 a9 F3 S3=>?_;have h7:(7:Nat)≠M:=(by grind);refine dT (by simp[eL,okT,tok,lb,cD,dC,dK,h7])<|o Y3 _ _ (((i.mono m).trans<|O.mono m).trans<|F3.mono m) S3 ?_;simp[cU,ab,ni,lC];simp only[j1] at ac;have G:aF (L w.bC) nt:=(by grind [oT]);have T:aF (L s.ak) (gd w.bC nt.toNat).eg:=(by rw[f2];exact f1 _<|ii G);refine⟨G,yO (K:=λ_ _ Y=>IC (.p (7,1) 0 0) (iv t) g Y) S z T (by decide) (y:=iv t) rfl rfl rfl rfl {cH s (gd w.bC nt.toNat).eg with pw:=t} rfl λ_ _ Y' _ i j=>?_⟩;have C:∀k∈[10,14,41],k<L Y'/\k≠7:=(by rw[i.1];exact z);simp only[IC,u0,u1,j.bx,yD,aj,↓uL];refine aO7 (K:=λp q Y=>acv B (iv t) (.p (7,1) 0 0) (.p (7,1) 0 3) (.p (7,1) 0 3) B p q g Y) j C A (by decide) {fA s t with cQ:=2} rfl λM v1 Y2 a8 O S2=>?_;have P:∀k∈[10,14,41],k<L Y2/\k≠7:=(by rw[O.1];exact C);refine aO7 (K:=λp q Y=>acu (.p (7,1) 0 0) (.p (7,1) 0 3) (.p (7,1) 0 3) B (iv t) (.p (M,v1) t.toNat 0) (.p (M,v1) t.toNat 0) B p q g Y) S2 P (by grind) (by decide) {fA s t with cQ:=2,cond:=0} (by simp only[Af A];rfl) λd2 v2 Y3 a9 F3 S3=>?_;have h7:(7:Nat)≠M:=(by grind);refine dT (by simp[eL,okT,tok,lb,cD,dC,dK,h7])<|o Y3 _ _ (((i.mono m).trans<|O.mono m).trans<|F3.mono m) S3 ?_;simp[cU,ac,ni,lC];simp only[j1] at aq;simp only[jM,kU,jt,tW,aoP S,wa,QQ,Ql,bR];refine⟨by omega,λt'=>?_⟩;simp only[gT,u0,u1,↓uL];refine⟨λhg=>?_,λhg=>?_⟩;simp only[j1] at hg;simp only[tf,u0,acB,ar,wa,Gx,rk,u1,qM,↓uL];have bg:gd (fO s nt) 0∈fO s nt:=dB (by omega);have av:∀u:Int,u∈fO s nt->cU w s t kind nt lD=(uE s u,u)->acy n (.p (7,1) 0 0) g [iv u]:=(by intro u hu e _;simp only[au,u0,u1,F,yD,aj,↓uL];exact aO7 (K:=λ_ _ Y=>g [iv u] Y) S z (apF hu) (by decide) {fA s u with cQ:=4} rfl λ_ _ Y' _ i j=>o Y' _ _ (i.mono m) j e);have bK:fO s nt≠[]:=(by grind);have bi:L (fO s nt)<=L s.ay:=wU s nt _;refine⟨⟨by omega,by omega⟩,⟨by omega,λhh=>?_,λhh=>?_⟩⟩;simp only[j1] at hh;exact av lD hh (by grind [cU,tD,uE]);simp only[sA] at hh;exact av _ bg (by grind [cU,tD,uE]);grind [decide_eq_false_iff_not,fO,List.length_eq_zero_iff,Fr.refl,cU];simp only[j1] at ad;simp only[jM,kU,jt,tW,aoP S,wa,QQ,Ql,bR];refine⟨by omega,λt'=>?_⟩;have bi:L (fO s nt)<=L s.ay:=wU s nt _;refine⟨λvs Y=>∃k:Nat,vs=[iv k]/\k<=L (fO s nt)/\Fr n Y [10,14,41]/\Sy Y 7 1 [10,14,41] (((fO s nt).take k).foldl uE s) H a2 B,fM<|L<|fO s nt,(by grind [Fr.refl]),?_⟩;rintro vs Y ⟨k,rfl,hk,Fk,Sk⟩;simp only[acD,aI,gT,u0,u1,Sk.bx,yD,aj,tf,bh,qM,↓uL];refine⟨λh=>⟨vp h,?_⟩,λh=>?_⟩;have ap:=aL h;have C:∀k∈[10,14,41],k<L Y/\k≠7:=(by rw[Fk.1];exact z);refine aO7 (K:=λ_ _ Y'=>ID [iv k] _ _ Y Y') Sk C (by grind [ans,apF,dB]) (by decide) {fA (((fO s nt).take k).foldl uE s) (gd (fO s nt) k) with cQ:=4} rfl λ_ _ Y' _ i j=>?_;simp only[ID,au,cS,aY,↓uL];rw[fX<|by omega];refine⟨⟨k+1,rfl,ap,Fk.trans i,?_⟩,?_⟩;rw[EA ap,RO];exact j;simp only[fM,cM,bh];omega;have bc:k=L (fO s nt):=(by grind);subst bc;rw[gV] at Sk;refine o Y _ _ (Fk.mono m) Sk ?_;simp[cU,ad];rfl;simp only[j1] at ae;have bf:aF (L s.ay) nt:=(by grind [Eb]);refine aO7 (K:=λ_ _ Y=>g [iv 0] Y) S z bf (by decide) {fA s nt with cQ:=1} rfl λ_ _ Y' _ i j=>o Y' _ _ (i.mono m) j ?_;simp[cU,ae,ni];simp only[j1] at af;have ba:aF (L s.done) nt:=(by grind [oU]);refine aIC S z ba λY' i j=>o Y' _ _ (i.mono m) j ?_;simp[cU,af];grind [Fr.refl,cP,decide_eq_false_iff_not,cU]
def FG:FT:=BL ON
def ayK{w s t kind nt lD Lw K}:=al4 FG ON w s t kind nt lD Lw K
def Ew:dO:=(80,FG)::aoX
def nF:eJ Ew:=it (apO ON)<|apa
def z9:=ai @ayK<|@wa
abbrev EN:List AV:=[iv 0]
abbrev yW:List AV:=[iv 0]
abbrev C9:List AV:=[sv []]
abbrev BF:List AV:=[.l [] U U,iv 0,.l [] U U,.l [] U U,.l [] U U,.l [] U U,.l [] U U]
def alb:=bi 31 [(4,([],[3,4,5,6])),(22,([10],[3,4,5,6,9])),(25,([],[5,6,9])),(27,([],[5,6,9]))]
def IM a f R b:=aw 7 b a λd=>sV (aK 7 b f d) λc=>aw 7 c f λe=>aE R c [e,bv U]
def adL b i k R(j:eQ) a:=Rg->ab 6 a b λc=>ab 0 a i λd=>ao 1 a c d λe=>aM a e λf=>aV f (iv 1) λg=>ao 1 a c d λh=>sV (aK 1 a h g)<|IM b k R
def adO a d b(c:aG):=ab 1 a d λf=>bf f (iv 22) λg=>ah g (ab 5 a b λh=>ab 2 a d λi=>ab 3 a d λj=>ao 1 a h i λk=>sV (aK 1 a k j) λe=>c [] e)<|c [] a
def adK a b e R(d:eQ) c:=Rg->jV 27 (adL a b e R) (adO c b a)
def adN a d b(c:aG):=ab 1 a d λf=>bf f (iv 4) λg=>ah g (ab 4 a b λh=>ab 2 a d λi=>ab 3 a d λj=>ao 1 a h i λk=>sV (aK 1 a k j) λe=>c [] e)<|c [] a
def adC a b d R c:=jV 25 (adK a b d R)<|adN c b a
def IN a o n d b r R e:=Rg->aw 6 a o λf=>aB 0 a n λg=>aw 4 a g λh=>ab 0 a d λi=>ab 1 a d λj=>ab 2 a d λk=>fV FG a [f,h,i,j,k,gt e 0] λc=>rV (eO 0 c) λl=>rV (eO 1 c) λp=>rV (eO 2 c) λq=>aB 0 a b λm=>sV (aK 4 a m l)<|adC b d r R
def adM b c(a:cG):=ab 1 b c λd=>bf d (iv 18) λe=>ah e (ab 3 b c λf=>a [f])<|a [iv<|-1]
def adD b f e g j i k n m o h l p a q r d s R c:=dH [lb I [] [],bo b,bo f,lb I [e,g] [159],lb I [] [],bo b,bo j,lb I [i,k] [163],lb I [] [],bo b,bo n,lb I [m,o] [167],lb U [h,l,p] [],lb I [] [9],lb I [a,q] []] [(0,1),(0,2),(0,4),(1,4),(2,4),(3,4),(0,5),(3,5),(4,5),(0,6),(3,6),(4,6),(0,8),(1,8),(2,8),(3,8),(4,8),(5,8),(6,8),(7,8),(0,9),(3,9),(4,9),(7,9),(8,9),(0,10),(3,10),(4,10),(7,10),(8,10),(0,13),(1,13),(2,13),(3,13),(4,13),(5,13),(6,13),(7,13),(8,13),(9,13),(10,13),(11,13),(12,13)]<|jR 22 (IN c r b d a s R)<|adM c d
def adE b c r i h j l k m o n p s q t R d f:=rV (bM BF aon [(1,b),(2,c),(3,d)]) λe=>eV (bs 40 BF f 9) λa g=>sV (aK 7 g a e)<|adD r i h j l k m o n p b c d a e s q t R
def adF e i m g f h k j l o n p R b a:=aB 6 a e λc=>aM a c λd=>eV (cj 3 fB 8 a 167 b d)<|adE i m e g f h k j l c b d o n p R
def adG k e c b d g f h l j m R i a:=eV (aX bH 0 a [])<|adF k e i c b d g f h l j m R
def adH e i g f h k j l R b a:=aB 5 a e λc=>aM a c λd=>eV (cj 2 EN 8 a 163 b d)<|adG e i g f h c b d k j l R
def adI g c b d h f i R e a:=eV (aX yW 0 a [])<|adH g e c b d h f i R
def adJ e g f h R b a:=aB 4 a e λc=>aM a c λd=>eV (cj 2 EN 8 a 159 b d)<|adI e c b d g f h R
def IP b p j R k(aG:eQ) a:=Rg->ab 1 a b λaF=>bf aF (iv 3) λo=>bn o 1 a b λq=>aC o (bf q<|iv 4) λr=>aD o (bv U) r λs=>ab 5 a b λt=>aJ a t λu=>aO .gtr u (iv 0) λg=>aT g 1 a b λv=>az g (aO .neq v<|iv 5) λw=>aD g w (bv I) λe=>fm e s λx=>fm e x λd=>aT d 0 a p λy=>aT d 2 a b λz=>az d (ao 5 a y z) λA=>aT d 2 a A λB=>az d (aO .neq B<|iv 0) λC=>az e (aD d C<|bv I) λD=>az e (cf D) λE=>aD e E (bv I) λF=>ah F (rV (bM BF aon []) λG=>sV (aK 7 a j G) λl=>aw 7 l j λH=>aE R l [H,bv I]) (ab 6 a b λK=>aJ a K λM=>aO .gtr M (iv 0) λh=>aT h 1 a b λN=>az h (aO .neq N<|iv 4) λO=>aD h O (bv I) λi=>aT i 1 a b λP=>az i (aO .neq P<|iv 22) λS=>aD i S (bv I) λT=>ah T (rV (bM BF aon []) λW=>sV (aK 7 a j W) λm=>aw 7 m j λX=>aE R m [X,bv I])<|ab 5 a b λZ=>ab 6 a k λaa=>ab 0 a b λac=>ao 1 a aa ac λad=>aM a ad λae=>fV Cf a [Z,ae] λaf=>cf af λc=>bn c 6 a b λag=>bn c 6 a k λak=>bn c 0 a b λal=>aC c (ao 1 a ak al) λam=>aC c (aM a am) λan=>aC c (fV Cf a [ag,an]) λap=>aC c (cf ap) λaq=>aD c (bv U) aq λf=>aC f (aw 7 a k) λar=>aC f (aw 7 a b) λau=>aC f (fV FI a [ar,au]) λav=>aC f (cf av) λax=>aD f (bv U) ax λay=>ah ay (rV (bM BF aon []) λaA=>sV (aK 7 a j aA) λn=>aw 7 n j λaB=>aE R n [aB,bv I])<|eV (aX yW 0 a [])<|adJ k p b j R)
def adP a c g R i(h:aG):=ab 1 a c λj=>bf j (iv 1) λd=>bn d 1 a c λk=>aC d (bf k<|iv 2) λl=>aD d (bv U) l λm=>ah m (ab 4 a c λn=>aO .neq n (iv<|-1) λo=>ah o (rV (bM BF aon []) λp=>sV (aK 7 a g p) λe=>aw 7 e g λq=>aE R e [q,bv I])<|h [] a) (ab 4 a c λr=>ab 5 a i λs=>aJ a s λt=>fV Ce a [r,t] λu=>cf u λb=>bn b 5 a i λv=>bn b 4 a c λw=>aC b (ao 3 a v w) λx=>bn b 0 a x λy=>bn b 0 a c λz=>aC b (aO .neq y z) λA=>aD b (bv U) A λB=>ah B (rV (bM BF aon []) λC=>sV (aK 7 a g C) λf=>aw 7 f g λD=>aE R f [D,bv I])<|h [] a)
def adB e f c R i a:=aw 6 a e λG=>aw 7 a f λk=>fV Cc a [G,k] λl=>cf l λd=>bn d 0 a c λm=>bn d 4 a e λn=>aC d (aJ a n) λo=>aC d (fV Ce a [m,o]) λp=>aC d (cf p) λq=>aD d (bv U) q λg=>bn g 1 a c λr=>aC g (aU r<|iv 1) λs=>aD g (bv U) s λh=>bn h 1 a c λt=>aC h (aO .gtr t<|iv 23) λu=>aD h (bv U) u λb=>aC b (aw 6 a e) λv=>aC b (aB 0 a f) λw=>aC b (aw 4 a w) λx=>bn b 0 a c λy=>bn b 1 a c λz=>bn b 2 a c λA=>aC b (fV BY a [v,x,y,z,A]) λB=>aC b (cf B) λC=>aD b (bv U) C λD=>ah D (rV (bM BF aon []) λE=>sV (aK 7 a i E) λj=>aw 7 j i λF=>aE R j [F,bv I])<|jV 4 (IP c e i R f)<|adP a c i R e
def IL c b a d R:=eV (bs 40 BF d 6)<|adB c b a R
def aLz{c:List AV}{d:List AV}{e:List AV}{R:o8}(l0:L c=6)(l1:L d=7)(w:L e=7)(h:∀b:ae,L b=4096->box b (3,1)=V ⟨31,6,U,U,[c]⟩->box b (4,1)=V ⟨40,7,U,U,[d]⟩->box b (5,1)=V ⟨87,7,U,U,[e]⟩->(∀k,k≠3->k≠4->k≠5->aZ b k=mO)->IL (.p (3,1) 0 0) (.p (4,1) 0 0) (.p (5,1) 0 0) b R):Fn aS GG 70 [.a c, .a d, .a e] R:=by refine uq ready nF Tryz.func70 (an:=alb) (by kernel_rfl) (aND (show ZF aS GG Ew alb Tryz.f70 [.a c, .a d, .a e] R=(eV (qm 31 6 (ly Tryz.f70) 3<|.a c) λm i=>eV (qm 40 7 i 4<|.a d) λl j=>eV (qm 87 7 j 5<|.a e) λf b=>IL m l f b R) by kernel_rfl) ?_);refine mY (N:=4096) rfl l0 (by decide) (by decide) uB (by rw[i8]) λi x n A g0=>?_;refine mY (N:=4096) rfl l1 (by decide) (by decide) x (by rw[g0 _ (by decide),i8]) λj y o r g1=>?_;refine mY (N:=4096) rfl w (by decide) (by decide) y (by rw[g1 _ (by decide),g0 _ (by decide),i8]) λb z q g s=>?_;exact h b z (by rw[g _ _ (by decide),r _ _<|by decide];exact n) (by rw[g _ _<|by decide];exact o) q (λk t u v=>by rw[s k v,g1 k u,g0 k t];exact i8 _ k)
def abQ c s0 R:=aO .geq c (.s<|.int .u8 97) λt1=>fm t1 c λt3=>az t1 (aO .leq t3<|.s<|.int .u8 122) λi=>aD t1 i (bv I) λb=>bX b c λj=>aC b (aO .geq j<|.s<|.int .u8 65) λd=>bX b d λa=>fm a c λe=>az a (aO .leq e<|.s<|.int .u8 90) λf=>aC b (aD a f<|bv I) λg=>aD b (bv U) g λh=>aE R s0 [h]
def aLg{a:AV}{R:o8}(h:H0 λs0=>abQ a s0 R):Ct 179 [a] R:=z0 at1 nF Tryz.func179 h
def abN a s0 R:=aO .geq a (.s<|.int .u8 48) λt1=>fm t1 a λt3=>az t1 (aO .leq t3<|.s<|.int .u8 57) λb=>aD t1 b (bv I) λc=>aE R s0 [c]
def aLc{a:AV}{R:o8}(h:H0 λs0=>abN a s0 R):Ct 225 [a] R:=z0 at1 nF Tryz.func225 h
def bjB s0 R:=eV (aX C9 22 s0 [(0,sv [118,97,114]),(1,sv [118,111,108,97,116,105,108,101]),(2,sv [109,117,116,101,120]),(3,sv [114,119,108,111,99,107]),(4,sv [99,111,110,100]),(5,sv [102,117,116,117,114,101]),(6,sv [116,104,114,101,97,100]),(7,sv [105,102]),(8,sv [101,108,115,101]),(9,sv [119,104,105,108,101]),(10,sv [108,111,99,107]),(11,sv [114,101,97,100]),(12,sv [119,114,105,116,101]),(13,sv [116,114,97,110,115,97,99,116,105,111,110]),(14,sv [97,116,111,109,105,99]),(15,sv [119,97,105,116]),(16,sv [110,111,116,105,102,121]),(17,sv [110,111,116,105,102,121,97,108,108]),(18,sv [115,112,97,119,110]),(19,sv [106,111,105,110]),(20,sv [115,101,116]),(21,sv [103,101,116])]) λt1 a=>aE R a [t1]
def aLf{R:o8}(h:∀s0:ae,L s0=4096->(∀k,aZ s0 k=mO)->bjB s0 R):Fn aS GG 224 [] R:=by refine uq ready nF Tryz.func224 (an:=at1) (by kernel_rfl) (aND (show ZF aS GG Ew at1 Tryz.f224 [] R=(bjB (ly Tryz.f224) R) by kernel_rfl)<|h (ly Tryz.f224) uB<|i8 _)
def aLS{a b:AV}{R:o8}(h:H0 λs0=>ac8 a b s0 R):Ct 84 [a,b] R:=z0 at1 nF Tryz.func84 h
def ael a b R:=ab 1 b a λt4=>bf t4 (iv 3) λc=>bn c 1 b a λd=>aC c (bf d<|iv 4) λe=>aD c (bv U) e λf=>aE R b [f]
def aLM{b:List AV}{R:o8}(l0:L b=7)(h:H1 87 7 1 b λc d=>ael c d R):Ct 39 [.a b] R:=z1 at1 nF Tryz.func39 l0 h
def alo{a b:Int}:wl .geq 0 [] (.s<|.int .u8 a) (.s<|.int .u8 b)=V (bv<|Q<|b<=a):=rfl
def alp{a b:Int}:wl .leq 0 [] (.s<|.int .u8 a) (.s<|.int .u8 b)=V (bv<|Q<|a<=b):=rfl
def wx(c:Int):Bool:=(Q (97<=c)&&Q (c<=122))||(Q (65<=c)&&Q (c<=90))
def zY(c:Int):Bool:=Q (48<=c)&&Q (c<=57)
def OF(c:Int):Ct 179 [.s<|.int .u8 c] (·=bv (wx c)):=by refine aLg λs0 b a=>?_;simp+contextual only[abQ,u0,u1,alo,alp,wx,↓uL]
def BW:FT:=lH OF
def ayC{c Lw K}:=np BW OF c Lw K
def OB(c:Int):Ct 225 [.s<|.int .u8 c] (·=bv (zY c)):=by refine aLc λs0 b a=>?_;simp+contextual only[abN,u0,u1,alo,alp,zY,↓uL]
def Fv:FT:=lH OB
def ayy{c Lw K}:=np Fv OB c Lw K
def Pn(i n:Int):Ct 84 [iv i,iv n] (·=bv (dh i n)):=by refine aLS λs0 b a=>?_;simp+contextual only[ac8,u0,u1,dh,↓uL]
def vt:FT:=lI Pn
def azb{i n Lw K}:=nq vt Pn i n Lw K
def tT(e:aP):Bool:=Q (e.kind=3)||Q (e.kind=4)
def fR(e:aP):Bool:=Q (e.kind=3)||Q (e.kind=23)
def Pg(e:aP):Ct 39 [.a e.c] (·=bv (tT e)):=by refine aLM rfl λg f b d=>?_;simp+contextual only[ael,u0,u1,b,rk,ix,aj,tT,↓uL]
def Cj:FT:=lH Pg
def ay5{e Lw K}:=np Cj Pg e Lw K
def sd(w:br)(c:Int):Int:=bif dh c (L w.bC) then(gd w.bC c.toNat).eg else-1
def aOL(w:br)(s:mn)(e:aP):Bool:=!fN w s||!dh e.aq (L w.ay)||Q (e.kind<1)||Q (23<e.kind)||!jm w s.bm e.aq e.kind e.nt
def tA(w:br)(e:aP):Bool:=bif Q (e.kind=1)||Q (e.kind=2) then Q (e.site≠-1) else(!dh e.site (L w.dU)||Q ((gd w.dU e.site.toNat).aq≠e.aq))
def yM(w:br)(e:aP):Bool:=Q ((0:Int)<L e.dI)&&(Q (e.kind≠5)&&!((Q (e.kind=3)||Q (e.kind=4))&&Q ((gd w.cells e.nt.toNat).size≠0)))
def yN(e:aP):Bool:=Q ((0:Int)<L e.ep)&&(Q (e.kind≠4)&&Q (e.kind≠22))
def bip(s:mn)(e:aP):Bool:=!Q (lZ e.dI<|gd s.count e.aq.toNat)||!Q (lZ e.ep<|gd s.count e.aq.toNat)||!aO8 s e
def C1(w:br)(s:mn)(e:aP):Bool:=!(aOL w s e||(tA w e||(yM w e||(yN e||bip s e))))
def og(e:aP):Int:=if e.kind=18 then e.value else-1
def oc(w:br)(s:mn)(e:aP):mn:=⟨(cU w s.bm e.aq e.kind e.nt<|og e).1,if e.kind=4 then s.cells.set e.nt.toNat e.value else s.cells,if e.kind=22 then s.bU.set e.nt.toNat e.value else s.bU,s.count.set e.aq.toNat<|dq.wrap<|gd s.count e.aq.toNat+1⟩
def tw:mn:=⟨wM,[],[],[]⟩
def nD(w:br)(s:mn)(e:aP):mn:=bif C1 w s e then oc w s e else tw
def Lk(cs ds:List AV):Prop:=cs.map gK=ds/\cs.all nj=U
def Lk.frz{cs ds:List AV}(h:Lk cs ds)(Y:ae):cs.map (gi Y)=cs:=by have a:=dV.1 h.2;rw[ja (g:=id) ?_,zr];intro c b;have:=a c b;cases c<;>simp[nj] at this<;>rfl
def Lk.fd{cs ds:List AV}(h:Lk cs ds)(Y:ae):cs.map (dQ Y)=cs:=by have a:=dV.1 h.2;rw[ja (g:=id) ?_,zr];intro c b;have:=a c b;cases c<;>simp[nj] at this<;>rfl
def Lk.arg{cs ds:List AV}(h:Lk cs ds)(Y:ae):dG Y (.a cs)= .a ds:=by show AV.a ((cs.map<|gi Y).map gK)= .a ds;rw[h.frz,h.1]
def aIt{Y:ae}{d v z y:Nat}{e:TypeId}{o:Bool}{r cs:List AV}{K:ae->Prop}(f:box Y (d,v)=V ⟨e,z,o,U,[r]⟩)(h:d<L Y)(j:L cs=y)(i:y<=L r)(c:∀Y',Fr Y Y' [d]->box Y' (d,v)=V ⟨e,z,o,U,[cs++r.drop y]⟩->K Y'):sV (aK y Y (.p (d,v) 0 0)<|.a cs) K:=by have b:aK y Y (.p (d,v) 0 0) (.a cs)=V (wr Y (d,v) ⟨e,z,o,U,[cs++r.drop y]⟩):=(by grind [aK,aBG,pW,eY,qh]);rw[b];exact c _ ⟨uC,λk g=>wy<|λe=>g<|by simp[e]⟩<|lO f
def Lm{Y:ae}{ds:List Nat}{e:TypeId}{a:AV}{l:List Int}{i x:Int}{K:ae->Prop}(h:Gr Y ds e 1 a<|l.map ci)(f:aF (L l) i)(c:∀k∈ds,k<L Y)(j:∀Y',Fr Y Y' ds->Gr Y' ds e 1 a ((l.set i.toNat x).map ci)->K Y'):rV (cz 1 Y a<|iv i) λp=>sV (aK 1 Y p<|iv x) K:=by have s:L (l.map ci)=L l:=(by simp);refine xL h (by simp_all) λd v b m n=>?_;have r:i.toNat<L l:=(by have:=f.1;have:=f.2;omega);have o:(l.map ci)[i.toNat]?=V (ci<|gd l i.toNat):=(by grind [eC,bT]);refine Dz (y:=iv x) n (c d b) o (by simp) rfl rfl rfl rfl λY' g q=>?_;refine j Y' (g.mono<|by simp[b])<|.inr ⟨d,v,?_,b,?_⟩;rw[m];simp;simp_all
def aBI{Y:ae}{ds:List Nat}{e:TypeId}{a:AV}{l:List Int}{i:Int}{K:AV->o8}(c:Gr Y ds e 1 a<|l.map ci)(b:aF (L l) i)(f:∀p,K p<|iv<|gd l i.toNat):rV (cz 1 Y a<|iv i) λp=>rV (lS J Y p) (K p):=by have n:L (l.map ci)=L l:=(by simp);refine xL c (by simp_all) λd v m k g=>?_;have j:i.toNat<L l:=(by have:=b.1;have:=b.2;omega);have h:(l.map ci)[i.toNat]?=V (ci<|gd l i.toNat):=(by grind [eC,bT]);rw[anc g h];exact f _
structure On(Y:ae)(v:Nat)(s:mn)(x:List AV)(a4 a5 a6:AV):Prop where
 bx:box Y (9,v)=V ⟨40,7,U,U,[x++[a4,a5,a6]]⟩
 hx:Lk x s.bm.c
 g4:Gr Y [159] 2 1 a4 (s.cells.map ci)
 g5:Gr Y [163] 2 1 a5 (s.bU.map ci)
 g6:Gr Y [167] 3 1 a6 (s.count.map ci)
 le:L Y=4096
def OV(w:br)(s:mn)(e:aP)(hp:L w.bC<4611686018427387904/\(∀l∈s.bm.ak,L l.bk<100000)/\L s.bm.ak<100000/\L s.bm.done<100000/\L s.bm.ay<100000/\L s.cells<100000/\L s.bU<100000/\L s.count<100000/\L e.dI<4611686018427387904/\L e.ep<4611686018427387904):Ct 70 [.a w.c, .a s.c, .a e.c] (λr=>∃cs,r= .t [.a cs,bv<|C1 w s e]/\Lk cs (nD w s e).c):=by refine aLz rfl rfl rfl λu hl b1 b2 b3 h0=>?_;obtain⟨p1,p2,p3,p4,p5,p6,p7,p8,p9,ba⟩:=hp;simp only[IL,↓uL];refine mo hl λT W b7=>?_;have c1:box T (3,1)=_:=W.bt b1;have c2:box T (4,1)=_:=W.bt b2;have c3:box T (5,1)=_:=W.bt b3;have R:L T=4096:=(by rw[W.1,hl]);simp+contextual only[adB,↓iC,↓iB,↓iS,u0,u1,z9,ar,c1,c2,c3,rk,ix,aj,dc,↓uL];have E:C1 w s e=I->rV (bM BF aon []) λbd=>sV (aK 7 T (AV.p (6,(aZ u 6).lB+1) 0 0) bd) λaf=>rV (((box af (6,(aZ u 6).lB+1)).bind λx=>Sb (λx=>x) x.aa[0]?).bind<|aN<|V 7) λbe=>aE (λr=>∃cs,r= .t [.a cs,bv<|C1 w s e]/\Lk cs (nD w s e).c) af [be,bv I]:=(by intro ax;rw[show bM BF aon []=V (.a BF) from rfl];refine gN (cs:=BF) b7 (by omega) rfl rfl λaf bT aU=>?_;simp only[aU];exact⟨rfl,BF,by rw[ax];rfl,by simp only[nD,ax];rfl,rfl⟩);refine⟨p1,(by grind),λhb=>?_,λac=>?_⟩;grind [C1,aOL,fh];have bV:aOL w s e=I:=ac;simp only[cP,fK,sA] at ac;obtain⟨⟨⟨⟨hf,hi⟩,b4⟩,b5⟩,a1⟩:=ac;obtain⟨a2,hn⟩:lh w s.bm=U/\named w e.kind e.nt=U:=(by grind [jm]);obtain⟨f1,f2,f3,f4⟩:=iY a2;obtain⟨q1,q2,q3⟩:L s.cells=L w.cells/\L s.bU=L w.bU/\L s.count=L w.ay:=(by grind [fN]);have P:aF (L s.count) e.aq:=(by grind [dX]);simp+contextual only[adP,↓iC,↓iB,↓iS,u0,u1,z9,ar,c1,c2,c3,rk,ix,aj,dc,↓uL];have G:tA w e=U->C1 w s e=I:=(by grind [C1]);suffices hj4:tA w e=I->IP (AV.p (5,1) 0 0) (AV.p (3,1) 0 0) (AV.p (6,(aZ u 6).lB+1) 0 0) (λr=>∃cs,r=AV.t [AV.a cs,bv<|C1 w s e]/\Lk cs (nD w s e).c) (AV.p (4,1) 0 0) [] T from(by refine⟨λh=>⟨λh'=>E<|G ?_,λh'=>hj4 ?_⟩,λh=>⟨λh'=>?_,λh'=>E<|G ?_,λh'=>hj4 ?_⟩⟩;grind [tA];grind [tA];grind [dX];grind [tA];grind [tA]);intro bW;simp+contextual only[IP,↓iC,↓iB,↓iS,u0,u1,z9,ar,c1,c2,c3,rk,ix,aj,dc,↓uL];refine⟨λ_ _ h=>?_,(by grind [C1,yM,fh]),λbX=>⟨(by grind [C1,yN,fh]),λbY=>⟨P,p9,λ_=>P,λ_=>ba,λ_=>⟨by omega,λh=>?_,λh=>?_⟩,(by grind [C1,bip,fh]),λb0=>?_⟩⟩⟩;grind [qP];grind [qP];grind [oU];have az:C1 w s e=U:=(by grind [yM,yN,bip,C1]);clear E G;simp only[nS,bQ,adJ,u0,u1,c2,rk,aj,↓uL];refine fP (aa:=[]) (ds:=[159]) (new:=s.cells.map ci) Gr.nil rfl (by decide) (by decide) (by omega) (by simp) (by simp) (by grind) λm s8 M B=>?_;rw[dW] at M;have d2:box s8 (4,1)=_:=B.bt c2;simp only[adI,nS,bQ,adH,u0,u1,d2,rk,aj,↓uL];refine fP (aa:=[]) (ds:=[163]) (new:=s.bU.map ci) Gr.nil rfl (by decide) (by decide) (by rw[B.1,R];decide) (by simp) (by simp) (by grind) λn s9 N C=>?_;rw[dW] at N;have e2:box s9 (4,1)=_:=C.bt d2;simp only[adG,nS,bQ,adF,u0,u1,e2,rk,aj,↓uL];refine fP (aa:=[]) (ds:=[167]) (new:=s.count.map ci) Gr.nil rfl (by decide) (by decide) (by rw[C.1,B.1,R];decide) (by simp) (by simp) (by grind) λg bc F i=>?_;rw[dW] at F;have a0:bM BF aon [(1,m),(2,n),(3,g)]=V (.a [.l [] U U,iv 0, .l [] U U, .l [] U U,m,n,g]):=(by simp[bM,aly,uc M,uc N,uc F]);simp only[adE,a0,aY,↓uL];refine eF rfl rfl (by decide) (by rw[i.1,C.1,B.1,R];decide) λq o Z=>?_;have bf:(aZ bc 9).lB=0:=(by rw[i.2 _ (by decide),C.2 _ (by decide),B.2 _ (by decide),W.2 _ (by decide),h0 9 (by decide) (by decide)<|by decide]);rw[bf] at Z⊢;have a8:L q=4096:=(by rw[o.1,i.1,C.1,B.1,R]);have i1:box q (3,1)=_:=o.bt<|i.bt<|C.bt<|B.bt c1;have i2:box q (4,1)=_:=o.bt<|i.bt e2;have i3:box q (5,1)=_:=o.bt<|i.bt<|C.bt<|B.bt c3;have i7:box q (6,(aZ u 6).lB+1)=_:=o.bt<|i.bt<|C.bt<|B.bt b7;have k4:=((M.fr C<|by decide).fr i<|by decide).fr o (by decide);have k5:=(N.fr i<|by decide).fr o (by decide);have k6:=F.fr o (by decide);simp only[adD,↓uL];refine dT ?_ ?_;rcases M with⟨_,H⟩|⟨d4,v4,H,ap,_⟩<;>rcases N with⟨_,e5⟩|⟨d5,v5,e5,av,_⟩<;>rcases F with⟨_,e6⟩|⟨d6,v6,e6,aw,_⟩<;>(try simp only[cE] at ap)<;>(try simp only[cE] at av)<;>(try simp only[cE] at aw)<;>(try subst ap)<;>(try subst av)<;>(try subst aw)<;>rw[H,e5,e6]<;>rfl;simp+contextual only[f8,adM,u0,u1,i3,rk,aj,↓uL];suffices hj:IN q (.p (3,1) 0 0) (.p (4,1) 0 0) (.p (5,1) 0 0) (.p (9,0+1) 0 0) (.p (6,(aZ u 6).lB+1) 0 0) (λr=>∃cs,r=AV.t [AV.a cs,bv<|C1 w s e]/\Lk cs (nD w s e).c) [iv<|og e] from(by refine⟨λh=>?_,λh=>?_⟩;simp only[j1] at h;rw[og,d7 h] at hj;exact hj;simp only[sA] at h;rw[og,bA h] at hj;exact hj);simp only[IN,aI,au,u0,u1,i1,i2,i3,rk,aj,ar,z9,↓uL];refine⟨(by simp_all),?_⟩;rintro r ⟨f,rfl⟩;rw[a1];refine⟨.inl rfl,?_⟩;show rV (Sb (λx=>AV.p (9,1) 0 0)<|box q (9,1)) λaJ=>sV (aK 4 q aJ<|.a<|eD (cU w s.bm e.aq e.kind e.nt<|og e).1 f) _;rw[Z];refine aIt (y:=4) Z (by omega) rfl (by simp) λA z ao=>?_;generalize a7:(cU w s.bm e.aq e.kind e.nt<|og e).1=b at ao;have j:On A 1 ⟨b,s.cells,s.bU,s.count⟩ (eD b f) m n g:=⟨ao,⟨rfl,rfl⟩,k4.fr z (by decide),k5.fr z (by decide),k6.fr z (by decide),by rw[z.1,a8]⟩;have j3:box A (5,1)=_:=z.bt i3;have j7:box A (6,(aZ u 6).lB+1)=_:=z.bt i7;have ad:∀Y D f',Fr A Y [9,159,163,167]->On Y 1 ⟨b,D,f',s.count⟩ (eD b f) m n g->D=(if e.kind=4 then s.cells.set e.nt.toNat e.value else s.cells)->f'=(if e.kind=22 then s.bU.set e.nt.toNat e.value else s.bU)->adL (.p (9,1) 0 0) (.p (5,1) 0 0) (.p (6,(aZ u 6).lB+1) 0 0) (λr=>∃cs,r=AV.t [AV.a cs,bv<|C1 w s e]/\Lk cs (nD w s e).c) [] Y:=(by intro Y D f' S O H e5 _;have m3:box Y (5,1)=_:=S.bt j3;have m7:box Y (6,(aZ u 6).lB+1)=_:=S.bt j7;have r6:aN J (aOz 6<|eD b f++[m,n,g])=V g:=rfl;simp only[u0,u1,O.bx,m3,rk,r6,aj,↓uL];refine aBI (K:=λ_ t=>rV (wl .add 0 [] t<|iv 1) λaL=>rV (cz 1 Y g<|iv e.aq) λaM=>sV (aK 1 Y aM aL)<|IM _ _ _) O.g6 P λp=>?_;simp only[cS,aY,↓uL];refine Lm O.g6 P (by rw[O.le];decide) λX d G2=>?_;have aQ:=(d.box (k:=9) (v:=1)<|by decide).trans O.bx;have a9:box X (6,(aZ u 6).lB+1)=_:=d.bt m7;have r7:aN (V 7) (eD b f++[m,n,g])=V (.a<|eD b f++[m,n,g]):=rfl;simp only[IM,u0,u1,aQ,r7,↓uL];refine gN (cs:=eD b f++[m,n,g]) a9 (by rw[d.1,O.le];decide) rfl rfl λY3 F3 aR=>?_;simp only[aR,u0,u1,r7,↓uL];obtain⟨x4,o4,z4⟩:=sU ((O.g4.fr d<|by decide).fr F3<|by decide);obtain⟨x5,o5,z5⟩:=sU ((O.g5.fr d<|by decide).fr F3<|by decide);obtain⟨x6,o6,z6⟩:=sU (G2.fr F3<|by decide);have aB:jS Y3 [.a<|eD b f++[m,n,g],bv U]= .t [.a<|eD b f++[.l (D.map ci) x4 o4, .l (f'.map ci) x5 o5, .l ((s.count.set e.aq.toNat<|dq.wrap<|gd s.count e.aq.toNat+1).map ci) x6 o6],bv U]:=(by show AV.t [.a<|(eD b f++[m,n,g]).map<|dQ Y3,bv U]=_;rw[dg,O.hx.fd];grind);unfold aE;rw[aB];refine⟨rfl,_,by rw[az],?_,rfl⟩;simp only[nD,az,vb,oc,a7,<-H,<-e5];rfl);have r4:aN J (aOz 4<|eD b f++[m,n,g])=V m:=rfl;have r5:aN J (aOz 5<|eD b f++[m,n,g])=V n:=rfl;have ae:∀Y D,Fr A Y [9,159,163,167]->On Y 1 ⟨b,D,s.bU,s.count⟩ (eD b f) m n g->D=(if e.kind=4 then s.cells.set e.nt.toNat e.value else s.cells)->adK (.p (9,1) 0 0) (.p (5,1) 0 0) (.p (6,(aZ u 6).lB+1) 0 0) (λr=>∃cs,r=AV.t [AV.a cs,bv<|C1 w s e]/\Lk cs (nD w s e).c) [] Y:=(by intro Y D S O H _;have m3:box Y (5,1)=_:=S.bt j3;simp+contextual only[di,adO,u0,u1,O.bx,m3,rk,r5,aj,↓uL];refine⟨λh=>?_,λh=>?_⟩;simp only[j1] at h;refine Lm O.g5 (by grind [aF,oU]) (by rw[O.le];decide) λX d G2=>?_;exact ad X D (s.bU.set e.nt.toNat e.value) (S.trans<|d.mono<|by decide) ⟨d.bt O.bx,O.hx,O.g4.fr d (by decide),G2,O.g6.fr d (by decide),by rw[d.1,O.le]⟩ H (by rw[d7 h]);simp only[sA] at h;exact ad Y _ _ S O H<|by rw[bA h]);simp+contextual only[adC,di,adN,u0,u1,j.bx,j3,rk,r4,aj,↓uL];refine⟨λh=>?_,λh=>?_⟩;simp only[j1] at h;refine Lm j.g4 (by grind [aF,qP]) (by rw[j.le];decide) λX d G2=>?_;exact ae X (s.cells.set e.nt.toNat e.value) (d.mono<|by decide) ⟨d.bt j.bx,j.hx,G2,j.g5.fr d (by decide),j.g6.fr d (by decide),by rw[d.1,j.le]⟩ (by rw[d7 h]);simp only[sA] at h;exact ae A _ (Fr.refl _ _) j (by rw[bA h])
def Cd:FT:=vn OV
def ayS{w s e Lw K}:=zZ Cd OV w s e Lw K
def aCV(s0:ae)(R:o8):bjB s0 R=aE R s0 [.l (ik.map cs) U U]:=by kernel_rfl
def OE:Ct 224 [] (·= .l (ik.map cs) U U):=by refine aLf λs0 b a=>?_;rw[aCV];refine⟨by kernel_rfl,?_⟩;show jS s0 [.l (ik.map cs) U U]= .l (ik.map cs) U U;kernel_rfl
def aTX:FT:=BJ OE
def ayB{Lw K}:=al2 aTX OE Lw K
def aoY:dO:=(179,BW)::(225,Fv)::(84,vt)::(39,Cj)::(70,Cd)::(224,aTX)::Ew
def oZ:eJ aoY:=it (nH OF)<|it (nH OB)<|it (nI Pn)<|it (nH Pg)<|it (By OV)<|it (apM OE)<|nF
def sW:=ai @ayC<|ai @ayy<|ai @azb<|ai @ay5<|ai @ayS<|ai @ayB<|@z9
abbrev zz9:List AV:=[sv []]
abbrev aP3:List AV:=[sv [],iv 0,iv 0,bv I,iv 0]
def atL:=bi 11 [(4,([4],[0,3]))]
def abO s0 t1 e R(d:cG)(b:fD) a:=Rg->aJ s0 t1 λt3=>aU (gt a 0) t3 λt4=>ah t4 (ao 1 s0 t1 (gt a 0) λf=>aM s0 f λg=>bf g e λh=>ah h (aE R s0 [bv U])<|aV (gt a 0) (iv 1) λc=>d [c]/\b [c]<b a)<|aE R s0 [bv I]
def Iw a s0 R:=fV aTX s0 [] λt1=>lR [iv 0]<|abO s0 t1 a R
def aLd{a:AV}{R:o8}(h:H0 λs0=>Iw a s0 R):Ct 180 [a] R:=z0 atL oZ Tryz.func180 h
def abR a s0 R:=fV BW s0 [a] λt1=>bX t1 a λt3=>aC t1 (fV Fv s0 [t3]) λe=>aD t1 (bv U) e λb=>bX b a λf=>aC b (bf f<|.s<|.int .u8 95) λc=>aD b (bv U) c λd=>aE R s0 [d]
def aLh{a:AV}{R:o8}(h:H0 λs0=>abR a s0 R):Ct 181 [a] R:=z0 at1 oZ Tryz.func181 h
def atR:=bi 41 [(4,([4,5],[1])),(20,([7],[1,4,5,6])),(29,([4,9],[1])),(35,([4,10],[1]))]
def ab0 b e d R(t:aG)(j:bu) u a:=ab 1 a b λv=>aO .neq v (gt e 0) λf=>bn f 0 a b λw=>bn f 0 a d λx=>aC f (aO .neq w x) λy=>aD f (bv U) y λg=>bn g 2 a b λk=>bn g 2 a d λm=>aC g (aO .neq k m) λn=>aD g (bv U) n λc=>bn c 4 a b λo=>bn c 4 a d λp=>aC c (aO .neq o p) λq=>aD c (bv U) q λh=>bn h 3 a b λr=>aD h (bv U) r λs=>ah s (aE R a [.l [] U U,bv I]) (aV (gt e 0) (iv 1) λi=>t [i] a/\j [i] a<j e u)
def ab6 b s e R(t:aG) g(j:bu) u i k c a:=Rg->ab 2 a b λm=>aU (gt c 0) m λn=>ah n (ab 0 a s λo=>aV (gt e 1) (gt c 0) λp=>ao 5 a o p λq=>aw 5 a q λr=>eV (bs 142 aP3 a 8) λf l=>sV (aK 5 l f r)<|ab0 f c b R i k a) (ab 2 a b λh=>aV (gt e 1) h λd=>t [g,d] a/\j [g,d] a<j e u)
def ab1 b R d(j:aG)(i:bu) k h e a:=ab 2 a b λm=>bf m (iv 0) λn=>ah n (ab 1 a b λo=>aO .neq o (iv 0) λp=>ah p (aE R a [.l [] U U,bv I])<|aV (gt d 1) (iv 1) λg=>j [e,g] a/\i [e,g] a<i d k) (ab 2 a b λq=>aU q (iv 1) λf=>bn f 2 a b λr=>aC f (aO .gtr r<|iv 4) λs=>aD f (bv U) s λc=>bn c 2 a b λt=>bn c 0 a h λu=>aC c (aJ a u) λv=>bX c (gt d 1) λw=>aC c (aO .sub v w) λx=>aC c (aO .gtr t x) λy=>aD c (bv U) y λz=>ah z (aE R a [.l [] U U,bv I])<|lV [iv 0] a<|ab6 b h d R j e i k)
def ab2 a c R h i j g b:=ab 0 b a λe=>eV (aX C9 1 b [(0,e)]) λf d=>eV (cj 9 zz9 16 d 25 (gt c 0) f)<|ab1 a R c h i j g
def ab3 a(f:aG)(b:bu) g d c:=aV (gt a 1) (iv 1) λe=>f [d,e] c/\b [d,e] c<b a g
def ab5 f R c a:=ab 4 a f λd=>eV (cj 9 zz9 16 a 137 c d) λe b=>aE R b [e,bv U]
def ab8 c R d e b a:=Rg->ab 2 a c λg=>aJ a g λh=>aU (gt b 1) h λi=>ah i (ab 2 a c λj=>ao 2 a j (gt b 1) λk=>ab 0 a k λl=>eV (aX C9 1 a [(0,l)]) λm f=>eV (cj 9 zz9 16 f 129 (gt b 0) m)<|ab3 b d e a) (ab 3 a c λn=>eV (cj 9 zz9 16 a 133 (gt b 0) n)<|ab5 c R)
def ab7 c R d e b a:=Rg->ab 1 a c λg=>aJ a g λh=>aU (gt b 1) h λi=>ah i (ab 1 a c λj=>ao 2 a j (gt b 1) λk=>ab 0 a k λl=>eV (aX C9 1 a [(0,l)]) λm f=>eV (cj 9 zz9 16 f 113 (gt b 0) m)<|ab3 b d e a)<|lV [gt b 0,iv 0] a<|ab8 c R
def ab9 c R i j b a:=Rg->ab 0 a c λk=>aJ a k λl=>aU (gt b 1) l λm=>ah m (ab 0 a c λf=>ao 5 a f (gt b 1) λg=>aw 5 a g λh=>eV (bs 142 aP3 a 6) λd e=>sV (aK 5 e d h)<|ab2 d b R i j a c)<|lV [gt b 0,iv 0] a<|ab7 c R
def abZ a b R:=lV [.l [] U U,iv 0] b<|ab9 a R
def aLk{b:List AV}{R:o8}(l0:L b=6)(h:H1 31 6 1 b λc d=>abZ c d R):Ct 116 [.a b] R:=z1 atR oZ Tryz.func116 l0 h
def aeu d e a R:=aw 7 a d λr=>fV Cj a [r] λg=>az g (aw 7 a e) λs=>az g (fV Cj a [s]) λh=>aD g h (bv I) λc=>aT c 2 a d λi=>aT c 2 a e λj=>az c (bf i j) λk=>aD c k (bv I) λb=>aT b 1 a d λl=>az b (bf l<|iv 4) λm=>fm b m λf=>bn f 1 a e λn=>aC f (bf n<|iv 4) λo=>az b (aD f (bv U) o) λp=>aD b p (bv I) λq=>aE R a [q]
def aLO{b:List AV}{c:List AV}{R:o8}(l0:L b=7)(l1:L c=7)(h:H2 87 7 2 b 87 7 3 c λd e f=>aeu d e f R):Ct 144 [.a b, .a c] R:=z2 at1 oZ Tryz.func144 l0 l1 h
def hI(mk:AV->Int->List AV)(b:ae)(ds fs:List Nat)(e:TypeId)(z n:Nat)(aa:Nat->List (List AV))(Inv:Nat->Prop):aG:=λvs Y=>∃(k:Nat) (a:AV),vs=mk a k/\k<=n/\Inv k/\Gr Y ds e z a (aa k)/\Fr b Y fs
def iu{B:(aG)->(bu)->aG}(mk:AV->Int->List AV)(p:Nat)(ds fs:List Nat)(e:TypeId)(z n:Nat)(aa:Nat->List (List AV))(Inv:Nat->Prop){c:AV}{b:ae}(d:Inv 0)(f:Gr b ds e z c<|aa 0)(h:∀(k:Nat) a Y,k<=n->Inv k->Gr Y ds e z a (aa k)->Fr b Y fs->B (hI mk b ds fs e z n aa Inv) (gM p n) (mk a k) Y):lV (mk c 0) b B:=⟨hI mk b ds fs e z n aa Inv,gM p n,⟨0,c,rfl,mh _,d,f,Fr.refl _ _⟩,by rintro vs Y ⟨k,a,rfl,l,j,i,g⟩;simp_all⟩
def C0{mk:AV->Int->List AV}{p:Nat}{c Y Y':ae}{ds fs:List Nat}{e:TypeId}{z n k:Nat}{aa:Nat->List (List AV)}{Inv:Nat->Prop}{a b:AV}(l:∀a i,gt (mk a i) p=iv i)(h:k<n)(j:n<4611686018427387904)(d:Inv<|k+1)(g:Gr Y' ds e z b<|aa<|k+1)(f:Fr c Y' fs):hI mk c ds fs e z n aa Inv (mk b<|dq.wrap<|(k:Int)+1) Y'/\gM p n (mk b<|dq.wrap<|(k:Int)+1) Y'<gM p n (mk a k) Y:=by rw[eM (by omega)<|by omega];refine⟨⟨k+1,b,rfl,h,d,g,f⟩,?_⟩;grind [gM]
def oX{l:List ByteArray}:∀r∈l.map cs,L r=1:=by simp
theorem Ez{α:Type}[Inhabited α]{a:List ByteArray}{l:List α}{g:α->ByteArray}{k:Nat}(h:k<L l):(a++(l.take<|k+1).map g).map cs=(a++(l.take k).map g).map cs++[cs<|g<|gd l k]:=by grind [iJ,bT,List.append_assoc]
def uo(p:Nat->Bool)(n:Nat):Int:=match(aH n).find? p with|some i=>i|none=> -1
def al8{p:Nat->Bool}{k:Nat}(b:p k=U)(a:∀j,j<k->p j=I):∀n,k<n->(aH n).find? p=V k
 |0,h=>by omega
 |n+1,h=>by
  simp_all
theorem KW{p:Nat->Bool}{n k:Nat}(a:k<n)(c:p k=U)(b:∀j,j<k->p j=I):uo p n=k:=by simp[uo,al8 c b n a]
theorem KX{p:Nat->Bool}{n:Nat}(a:∀j,j<n->p j=I):uo p n= -1:=by grind [aH,List.find?_eq_none,uo]
def QV{R:o8}{Y:ae}{n:Int}{b:Bool}:aE R Y [iv n,bv b]=R (.t [iv n,bv b]):=by simp[aE,jS,iZ,dQ,kG,pF,nj]
def aRN{p:Nat->Bool}{k:Nat}(h:∀j,j<k->p j=I)(a:p k=I):∀j,j<k+1->p j=I:=(by grind)
def oJ{a:AV}{l:List AV}:eO 0 (.t (a::l))=V a:=rfl
def pG{a b:AV}{l:List AV}:eO 1 (.t (a::b::l))=V b:=rfl
def KM{a b c:AV}{l:List AV}:eO 2 (.t (a::b::c::l))=V c:=rfl
def aIl{l:List ByteArray}{t o:Bool}{i:Int}{Y:ae}{K:o8}:rV (fo 1 Y (.l (l.map cs) t o) J (V<|iv i) J) K=((0<=i/\i<=L l)/\K (.l ((l.take i.toNat).map cs) (t&&((i.toNat:Nat)==L l)) o)):=by simp only[fo,lM];by_cases a:0<=i;simp only[a,NA,qY,sD,mi,mh,bR,bJ];grind [rV,bkj];simp[a,rV]
def avX{a b:Int}:wl .eql 0 [] (.s<|.int .u8 a) (.s<|.int .u8 b)=V (bv<|Q<|a=b):=rfl
def amZ{K:o8}{Y:ae}{i:Int}{l:List ByteArray}{t o:Bool}:rV (cz 1 Y (.l (l.map cs) t o)<|iv i) K=(aF (L l) i/\K (.q<|cs<|gd l i.toNat)):=amY (Y:=Y)
def aDm{Y:ae}{r:AV}:lo Y [] r=True:=by simp[lo,nA]
def rZ(s:ByteArray):Bool:=ik.any λx=>Q<|x=s
def OC(s:ByteArray):Ct 180 [st s] (·=bv (rZ s)):=by refine aLd λs0 _ c=>?_;simp only[Iw,ar,sW,aDm,↓uL];refine C7 (L ik) (λk=>∀j,j<k->gd ik j≠s) (by simp) λk e d=>?_;simp+contextual only[abO,Iw,u0,u1,amZ,gT,qM,rk,bh,↓uL];refine⟨λh=>⟨vp h,λa=>?_,λa=>gS (aL h) (by decide)<|by grind⟩,λh=>?_⟩;grind [rZ,tL,dB,aL];have:rZ s=I:=(by rw[rZ,List.any_eq_false];intro x b;have:=(px (p:=λx=>x≠s)).1 (by grind) x b;simp_all);rw[this]
def Fw:FT:=lH OC
def ayz{s Lw K}:=np Fw OC s Lw K
def oO(c:Int):Bool:=wx c||zY c||Q (c=95)
def OG(c:Int):Ct 181 [.s<|.int .u8 c] (·=bv (oO c)):=by refine aLh λs0 _ a=>?_;simp+contextual only[abR,u0,u1,ar,sW,avX,oO,↓uL]
def aTY:FT:=lH OG
def ayD{c Lw K}:=np aTY OG c Lw K
def nh(a b:aP):Bool:=tT a&&tT b&&Q (a.nt=b.nt)&&(Q (a.kind=4)||Q (b.kind=4))
def Pi(a b:aP):Ct 144 [.a a.c, .a b.c] (·=bv (nh a b)):=by refine aLO rfl rfl λh g d e f=>?_;simp+contextual only[aeu,u0,u1,ar,sW,d,e,rk,ix,aj,nh,↓uL]
def zh:FT:=lI Pi
def ay7{a b Lw K}:=nq zh Pi a b Lw K
def dD(w:br)(e:aP):Int×Bool:=bif Q (e.kind=6)||Q (e.kind=10) then(e.nt,I) else bif Q (e.kind=8) then(e.nt,U) else bif Q (e.kind=17) then(sd w e.nt,I) else(-1,I)
def dY(w:br)(e:aP):Int×Bool:=bif Q (e.kind=7)||Q (e.kind=11) then(e.nt,I) else bif Q (e.kind=9) then(e.nt,U) else bif Q (e.kind=16) then(sd w e.nt,I) else(-1,I)
theorem Gr.mono{Y:ae}{ds b:List Nat}{e:TypeId}{z:Nat}{a:AV}{aa:List (List AV)}(i:Gr Y ds e z a aa)(h:∀k∈ds,k∈b):Gr Y b e z a aa:=by rcases i with c|⟨d,v,c,f,g⟩;exact .inl c;exact .inr ⟨d,v,c,h _ f,g⟩
def aEs{a b:ByteArray}:wl .neq 0 [] (st a) (st b)=V (bv<|Q<|a≠b):=by show V (bv<|a.toList !=b.toList)=_;congr 3;grind [aqv,ByteArray.toList_eq,qb]
def sM(c x:cA)(k:Nat):Bool:=!(Q (x.index≠k)||Q (x.name≠c.name)||Q (x.size≠c.size)||Q (x.init≠c.init)||x.vol)
def a7d(l:List cA)(i:Nat):Option Nat:=
 if(gd l i).size=0 then(if(gd l i).index≠0 then J else V (i+1))
 else if((gd l i).size<1\/4<(gd l i).size\/(L l:Int)-i<(gd l i).size) then J
 else if(∀k,k<(gd l i).size.toNat->sM (gd l i) (gd l<|i+k) k=U) then V (i+(gd l i).size.toNat) else J
def jv(l:List cA):Nat->Nat->List ByteArray->Option (List ByteArray)
 |0,i,a=>if i<L l then J else V a
 |f+1,i,a=>if i<L l then(match a7d l i with|none=>J|some j=>jv l f j<|a++[(gd l i).name]) else V a
def lY(w:br):Option (List ByteArray):=(jv w.cells (L w.cells) 0 []).map λa=>a++w.ak.map (·.name)++w.bC.map (·.name)++w.bU++w.ay
def OJ(w:br)(hp:L w.cells<10000/\L w.ak<10000/\L w.bC<10000/\L w.bU<10000/\L w.ay<10000):Ct 116 [.a w.c] (λr=>∃t o,r= .t [.l (((lY w).getD []).map cs) t o,bv (lY w).isSome]):=by refine aLk rfl λG hl b1 h0=>?_;obtain⟨p1,p2,p3,p4,p5⟩:=hp;simp only[abZ,↓uL];refine⟨λvs Y=>∃(i f:Nat) (a:AV) (b:List ByteArray),vs=[a,iv i]/\i<=L w.cells/\L b<=i/\L w.cells-i<=f/\jv w.cells (L w.cells) 0 []=jv w.cells f i b/\Gr Y [25] 9 1 a (b.map cs)/\Fr G Y [25,6,8],gM 1<|L w.cells,⟨0,L w.cells,_,[],rfl,by omega,by simp,by omega,rfl,Gr.nil,Fr.refl _ _⟩,?_⟩;rintro vs Y ⟨i,f,a,b,rfl,hi,aJ,hf,ad,hG,X⟩;have S:box Y (1,1)=_:=X.bt b1;have A:L Y=4096:=(by rw[X.1,hl]);simp only[ab9,aI,u0,u1,S,rk,aj,ix,bh,↓uL];refine⟨λh=>⟨vp h,?_⟩,λh=>?_⟩;refine eF rfl rfl (by decide) (by omega) λB g b2=>?_;simp+contextual only[ab2,u0,u1,b2,rk,aj,iz,↓uL];refine fP (hG.fr g<|by decide) rfl (by decide) (by decide) (by rw[g.1,A];decide) (by simp) (by simp) (by grind) λu q T n=>?_;have b3:box q (6,(aZ Y 6).lB+1)=_:=n.bt b2;have c3:box q (1,1)=_:=n.bt<|g.bt S;simp+contextual only[ab1,↓iC,↓iB,↓iS,u0,u1,b3,c3,rk,aj,↓uL];have a0:=aL h;obtain⟨f,rfl⟩:∃f',f=f'+1:=⟨f-1,by omega⟩;have E:jv w.cells (L w.cells) 0 []=(match a7d w.cells i with|none=>J|some j=>jv w.cells f j<|b++[(gd w.cells i).name]):=(by grind [jv]);have y:a7d w.cells i=J->∀Y',aE (λr=>∃t o,r= .t [.l (((lY w).getD []).map cs) t o,bv (lY w).isSome]) Y' [.l [] U U,bv I]:=(by intro hn Y';rw[hn] at E;have:lY w=J:=(by rw[lY,E];rfl);rw[this];exact⟨rfl,U,U,rfl⟩);have next:∀j Y',a7d w.cells i=V j->i<j->j<=L w.cells->Gr Y' [25] 9 1 u ((b++[(gd w.cells i).name]).map cs)->Fr G Y' [25,6,8]->(∃(i f:Nat) (a:AV) (b:List ByteArray),[u,iv (j:Int)]=[a,iv i]/\i<=L w.cells/\L b<=i/\L w.cells-i<=f/\jv w.cells (L w.cells) 0 []=jv w.cells f i b/\Gr Y' [25] 9 1 a (b.map cs)/\Fr G Y' [25,6,8])/\gM 1 (L w.cells) [u,iv (j:Int)] Y'<gM 1 (L w.cells) [a,iv i] Y:=(by intro j Y' F aV hj G' F';rw[F] at E;refine⟨⟨j,f,u,b++[(gd w.cells i).name],rfl,hj,by simp;omega,by omega,E,G',F'⟩,?_⟩;grind [gM,fE,au,bh]);have N:Gr q [25] 9 1 u ((b++[(gd w.cells i).name]).map cs):=(by grind);have H:Fr G q [25,6,8]:=X.trans ((g.mono<|by decide).trans<|n.mono<|by decide);rw[fX (by omega),eM (x:=(L w.cells:Int)-i) (by omega)<|by omega];refine⟨λF=>⟨λhx=>y ?_ _,λhx=>next (i+1) q ?_ (by omega) (by omega) N H⟩,λF=>⟨λhb=>y ?_ _,λhb=>?_⟩⟩;grind [a7d];grind [decide_eq_false_iff_not,a7d];grind [decide_eq_false_iff_not,a7d];simp only[sA] at F;simp only[cP,sA] at hb;have a5:((gd w.cells i).size.toNat:Int)=(gd w.cells i).size:=(by omega);have O:a7d w.cells i=if(∀k,k<(gd w.cells i).size.toNat->sM (gd w.cells i) (gd w.cells<|i+k) k=U) then V (i+(gd w.cells i).size.toNat) else J:=(by grind [a7d]);refine pQ (gd w.cells i).size.toNat [8] (λk=>∀m,m<k->sM (gd w.cells i) (gd w.cells<|i+m) m=U) (by simp) λk p hk hc s=>?_;have b4:box p (6,(aZ Y 6).lB+1)=_:=s.bt b3;have c4:box p (1,1)=_:=s.bt c3;have aP:L p=4096:=(by rw[s.1,n.1,g.1,A]);simp only[ab6,aI,u0,u1,b4,c4,rk,aj,ix,↓uL];have Z:∀m:Nat,m<=10->dq.wrap ((i:Int)+m)=((i+m:Nat):Int):=(by grind [eM]);refine⟨λz=>?_,λz=>?_⟩;simp only[j1] at z;rw[Z k (by omega),bh];refine⟨dJ (by omega),eF rfl rfl (by decide) (by omega) λY5 F5 b5=>?_⟩;have b6:box Y5 (6,(aZ Y 6).lB+1)=_:=F5.bt b4;simp+contextual only[ab0,u0,u1,b5,b6,rk,aj,aEs,↓uL];have P:k<(gd w.cells i).size.toNat:=(by omega);refine⟨λaq=>y ?_ _,λaq=>?_⟩;rw[O,bA];grind [sM,fh];refine oL P (by omega) (a6p hc ?_)<|s.trans F5;grind [sM,kN];simp only[sA] at z;have P:k=(gd w.cells i).size.toNat:=(by omega);have e:dq.wrap ((i:Int)+(gd w.cells i).size)=((i+(gd w.cells i).size.toNat:Nat):Int):=(by grind);rw[e];refine next _ p ?_ (by omega) (by omega) (N.fr s<|by decide) (H.trans<|s.mono<|by decide);rw[O,d7<|by grind];have aM:jv w.cells (L w.cells) 0 []=V b:=(by rw[ad];have:=bw h;cases f<;>simp[jv,Nat.not_lt.2 this]);have hN:lY w=V (b++w.ak.map (·.name)++w.bC.map (·.name)++w.bU++w.ay):=(by grind [lY]);rw[hN];refine iu (λa i=>[a,iv i]) 1 [25,113] [25,113] 9 1 (L w.ak) (λk=>(b++(w.ak.take k).map (·.name)).map cs) (λ_=>True) trivial (by grind [Gr.mono]) λk a1 Y1 aW _ g1 R=>?_;have K:box Y1 (1,1)=_:=R.bt S;have l1:L Y1=4096:=(by rw[R.1,A]);simp only[ab7,aI,u0,u1,K,rk,aj,ix,bh,iz,↓uL];refine⟨λW=>⟨vp W,?_⟩,λW=>?_⟩;refine fP g1 rfl (by decide) (by decide) (by omega) oX (by simp) (by simp;omega) λa2 B D g=>?_;simp only[ab3,au,fE,cS,aY,↓uL];refine C0 (mk:=λa i=>[a,iv i]) (λ_ _=>rfl) (aL W) (by omega) trivial ?_<|R.trans g;grind [Ez,aL];have aa:k=L w.ak:=(by grind);subst aa;rw[gV] at g1;refine iu (λa i=>[a,iv i]) 1 [25,113,129] [25,113,129] 9 1 (L w.bC) (λk=>(b++w.ak.map (·.name)++(w.bC.take k).map (·.name)).map cs) (λ_=>True) trivial (by grind [Gr.mono]) λk a2 B aX _ D g=>?_;have M:box B (1,1)=_:=g.bt K;have l2:L B=4096:=(by rw[g.1,l1]);simp only[ab8,aI,u0,u1,M,rk,aj,ix,bh,iz,↓uL];refine⟨λz=>⟨vp z,?_⟩,λz=>?_⟩;refine fP D rfl (by decide) (by decide) (by omega) oX (by simp) (by simp;omega) λu q T n=>?_;simp only[ab3,au,fE,cS,aY,↓uL];refine C0 (mk:=λa i=>[a,iv i]) (λ_ _=>rfl) (aL z) (by omega) trivial ?_<|g.trans n;grind [Ez,aL];have ab:k=L w.bC:=(by grind);subst ab;rw[gV] at D;refine fP (ds:=[25,113,129,133,137]) (new:=w.bU.map cs) (D.mono<|by decide) rfl (by decide) (by decide) (by omega) oX oX (by simp;omega) λu q T n=>?_;have an:box q (1,1)=_:=n.bt M;simp only[ab5,u0,u1,an,rk,aj,↓uL];refine fP (new:=w.ay.map cs) T rfl (by decide) (by decide) (by rw[n.1,l2];decide) (by grind) oX (by simp;omega) λC p g4 s=>?_;obtain⟨x,o,e⟩:=sU g4;have ac:jS p [C,bv U]= .t [.l ((b++w.ak.map (·.name)++w.bC.map (·.name)++w.bU++w.ay).map cs) x o,bv U]:=(by show AV.t [iZ p C,bv U]=_;have:iZ p C=dQ p C:=(by rcases g4 with⟨_,rfl⟩|⟨d,v,rfl,_⟩<;>rfl);simp_all);unfold aE;rw[ac];exact⟨rfl,x,o,rfl⟩
def FD:FT:=om OJ
def ayG{w Lw K}:=qz FD OJ w Lw K
def aoZ:dO:=(180,Fw)::(181,aTY)::(144,zh)::(116,FD)::aoY
def Rc:eJ aoZ:=it (nH OC)<|it (nH OG)<|it (nI Pi)<|it (rj OJ)<|oZ
def Dl:=ai @ayz<|ai @ayD<|ai @ay7<|ai @ayG<|@sW
def atM:=bi 13 [(6,([3],[0]))]
def abP e s0 R(d:cG)(b:fD) a:=Rg->rV (lsA e) λf=>aU (gt a 0) f λg=>ah g (rV (sxA e<|gt a 0) λh=>fV aTY s0 [h] λi=>cf i λj=>ah j (aE R s0 [bv I])<|aV (gt a 0) (iv 1) λc=>d [c]/\b [c]<b a)<|aE R s0 [bv U]
def Ix b s0 R:=rV (lsA b) λt1=>aU t1 (iv 1) λd=>bX d b λt4=>aC d (rV<|lsA t4) λm=>aC d (aO .gtr m<|iv 12) λe=>aD d (bv U) e λa=>bX a b λf=>aC a (rV<|sxA f<|iv 0) λg=>aC a (fV BW s0 [g]) λh=>aC a (cf h) λi=>aD a (bv U) i λc=>bX c b λj=>aC c (fV Fw s0 [j]) λk=>aD c (bv U) k λl=>ah l (aE R s0 [bv I])<|lR [iv 0]<|abP b s0 R
def aLe{a:AV}{R:o8}(h:H0 λs0=>Ix a s0 R):Ct 117 [a] R:=z0 atM Rc Tryz.func117 h
def aua:=bi 9 [(4,([6],[1,2,4,5]))]
def adW h k d n o a p l m q e r(i:aG)(b:bu) j c:=dH [bo h,bo k,bo d,bo h,bo n,km,lb U [o,gt a 0] [],bo p,Qh [.f 70 [] [],l,m,q],km,bo e,bo e,lb I [d,r] []] [(11,12)] (aV (gt a 0) (iv 1) λg=>i [g] c/\b [g] c<b a j)
def adY y e d t3 R p q b a:=Rg->aU (gt b 0) y λc=>fm c (gt b 0) λr=>aT c 14 a e λs=>az c (aJ a s) λt=>az c (aU r t) λu=>aD c u (bv I) λv=>ah v (aB 0 a e λh=>aw 6 a h λi=>aw 7 a d λj=>aB 14 a e λk=>aM a k λl=>ao 7 a l (gt b 0) λm=>aw 7 a m λn=>fV Cd a [i,j,n] λf=>rV (eO 0 f) λo=>rV (eO 1 f) λz=>sV (aK 7 a d o)<|adW e h d k l b m i j n f o p q a) (aw 7 a d λw=>sV (aK 7 a t3 w) λg=>aw 7 g t3 λx=>aE R g [x])
def adX b d R t3 c:=aB 7 c b λg=>aw 7 c g λh=>eV (bs 40 BF c 5) λa e=>sV (aK 7 e a h) λf=>lV [iv 0] f<|adY d b a t3 R
def adV a b c R:=eV (bs 40 BF c 4)<|adX a b R
def aLD{b:List AV}{c:AV}{R:o8}(l0:L b=15)(h:H1 43 15 2 b λd e=>adV d c e R):Ct 143 [.a b,c] R:=z1 aua Rc Tryz.func143 l0 h
def rI(s:ByteArray)(i:Nat):Int:=match s[i]? with|some b=>b.toNat|none=>0
def Qm{s:ByteArray}:lsA (st s)=V (iv s.size):=rfl
def aoO{s:ByteArray}{i:Int}{K:o8}:rV (sxA (st s)<|iv i) K=(aF s.size i/\K (.s<|.int .u8<|rI s i.toNat)):=by grind [aF,sxA,rV,rI]
def aQt(s:ByteArray):Bool:=!(Q ((s.size:Int)<1)||Q (12<(s.size:Int))||!wx (rI s 0)||rZ s)&&Q (∀j,j<s.size->oO (rI s j)=U)
def OD(s:ByteArray):Ct 117 [st s] (·=bv (aQt s)):=by refine aLe λs0 _ c=>?_;simp+contextual only[Ix,u0,u1,Qm,aoO,ar,Dl,Gx,↓uL];refine⟨λh=>?_,λh=>?_,λh=>?_⟩;simp at h;exact⟨by omega,by omega⟩;grind [aQt,fh];have b:=h;simp only[cP,sA] at b;refine C7 s.size (λk=>∀j,j<k->oO (rI s j)=U) (by simp) λk f e=>?_;simp+contextual only[abP,Ix,u0,u1,Qm,aoO,ar,Dl,bh,↓uL];refine⟨λa=>⟨vp a,λd=>?_,by grind [gS,aL]⟩,λa=>?_⟩;grind [oO,rI,aL,aQt];grind [oO,rI,C3,bw,aQt,decide_eq_true,kN,Bool.and_self]
def aPd:FT:=lH OD
def ayA{s Lw K}:=np aPd OD s Lw K
def cY(w:am):Nat->mn|0=>w.init|k+1=>nD w.aQ (cY w k)<|gd w.ac k
def GV(s:mn):Prop:=(∀l∈s.bm.ak,L l.bk<100000)/\L s.bm.ak<100000/\L s.bm.done<100000/\L s.bm.ay<100000/\L s.cells<100000/\L s.bU<100000/\L s.count<100000
def vo(e:aP):Prop:=L e.dI<4611686018427387904/\L e.ep<4611686018427387904
theorem oC{ds:List AV}{s:mn}(h:Lk ds s.c):L ds=7:=by have:=aOe L h.1;simp_all [mn.c]
def Bi{ds:List AV}(h:L ds=7):aN (V 7) ds=V (.a ds):=by show(if 7<=L ds then V (AV.a<|ds.take 7) else J)=_;grind
def x9{ds b:List AV}(h:Lk ds b):eB (.a ds)=[]:=by have d:=dV.1 h.2;show ds.flatMap iR=[];rw[List.flatMap_eq_nil_iff];intro c e;have:=d c e;cases c<;>simp[nj] at this<;>rfl
def OZ(w:am)(i:Int)(O:L w.aQ.bC<4611686018427387904/\L w.ac<100000/\(∀k:Nat,(k:Int)<i->k<L w.ac->GV (cY w k))/\(∀e∈w.ac,vo e)):Ct 143 [.a w.c,iv i] (λr=>∃cs,r= .a cs/\Lk cs (cY w<|if i<L w.ac then i.toNat else L w.ac).c):=by refine aLD rfl λC v E N=>?_;obtain⟨p1,p2,R,S⟩:=O;simp only[adV,↓uL];refine mo v λD j F=>?_;have z:box D (2,1)=_:=j.bt E;simp only[adX,u0,u1,z,rk,aj,↓uL];refine eF rfl rfl (by decide) (by rw[j.1,v];decide) λm s y=>?_;have v4:(aZ D 5).lB=0:=(by rw[j.2 _ (by decide),N 5<|by decide]);rw[v4] at y⊢;have P:L m=4096:=(by rw[s.1,j.1,v]);have G:box m (2,1)=_:=s.bt z;have H:box m (4,(aZ C 4).lB+1)=_:=s.bt F;refine⟨λvs Y=>∃(k:Nat) (ds:List AV),vs=[iv k]/\k<=L w.ac/\(k=0\/(k:Int)<=i)/\Lk ds (cY w k).c/\box Y (5,1)=V ⟨40,7,U,U,[ds]⟩/\Fr m Y [5],fM<|L w.ac,⟨0,w.init.c,rfl,mh _, .inl rfl,⟨rfl,rfl⟩,y,Fr.refl _ _⟩,?_⟩;rintro vs Y ⟨k,ds,rfl,hk,ah,b,A,l⟩;have K:box Y (2,1)=_:=l.bt G;have M:box Y (4,(aZ C 4).lB+1)=_:=l.bt H;have o:L Y=4096:=(by rw[l.1,P]);have g:L ds=7:=oC b;have q:=Bi g;simp+contextual only[adY,aI,u0,u1,K,A,q,rk,aj,ix,bh,↓uL];refine⟨λh=>?_,λh=>?_⟩;simp only[bN,j1] at h;have d:k<L w.ac:=(by omega);obtain⟨T,W,X,Z,q5,q6,q7⟩:=R k h.1 d;obtain⟨r1,r2⟩:=S _<|dB d;refine⟨dJ d,?_⟩;simp only[jM,kU,jt,zN,CU,b.arg,Dl];refine⟨⟨p1,T,W,X,Z,q5,q6,q7,r1,r2⟩,?_⟩;rintro r ⟨f,rfl,n⟩;refine⟨.inl ?_,?_⟩;simp only[nA,Cu,Cv,x9 b];rfl;show sV (aK 7 Y (.p (5,1) 0 0)<|.a f) _;refine gN (cs:=f) A (by rw[o];decide) g (oC n) λt x u=>?_;simp only[adW,↓uL];refine dT rfl ?_;simp only[au,cS,aY,↓uL];rw[fX<|by omega];refine⟨⟨k+1,f,rfl,d, .inr (by omega),n,u,l.trans x⟩,?_⟩;simp only[fM,cM,bh];omega;simp only[pk,sA] at h;have B:k=(if i<L w.ac then i.toNat else L w.ac):=(by split<;>omega);refine gN (cs:=ds) M (by rw[o];decide) rfl g λt x u=>?_;simp only[u,u0,u1,q,↓uL];rw[<-B];refine⟨?_,ds,?_,b⟩;show(AV.a (ds.map<|dQ t)|>kG)=U;rw[b.fd];exact b.2;show AV.a (ds.map<|dQ t)= .a ds;rw[b.fd]
def zg:FT:=pn OZ
def ayW{w i Lw K}:=rQ zg OZ w i Lw K
def ao0:dO:=(117,aPd)::(143,zg)::aoZ
def yP:eJ ao0:=it (nH OD)<|it (aN0 OZ)<|Rc
def rT:=ai @ayA<|ai @ayW<|@Dl
abbrev NY:List AV:=[iv 0,iv 0,iv 0,iv 0,iv 0,.l [] U U,.l [] U U]
abbrev bhQ:List AV:=[iv 0,iv 0,iv 0]
def atQ:=bi 41 [(10,([5],[1,3])),(18,([6],[1])),(27,([8],[1])),(30,([],[1,8]))]
def IA a(e:aG)(b:bu) f(g:eQ) c:=Rg->aV (gt a 0) (iv 1) λd=>e [d] c/\b [d] c<b a f
def abU d h R e(i:aG) a:=ab 0 a d λj=>aU j (iv 0) λf=>bn f 0 a d λk=>bn f 4 a h λl=>aC f (aJ a l) λm=>aC f (aO .geq k m) λn=>aD f (bv U) n λo=>ah o (aE R a [bv I]) (bf (gt e 0) (iv 0) λb=>bn b 5 a h λp=>bX b (gt e 0) λq=>aC b (aO .sub q<|iv 1) λr=>aC b (ao 3 a p r) λs=>bn b 0 a s λt=>bn b 0 a d λu=>aC b (aO .neq t u) λv=>aD b (bv U) v λw=>ah w (ab 1 a d λx=>aO .neq x (iv 0) λg=>bX g (gt e 0) λy=>aC g (aO .gtr y<|iv 0) λz=>bX g z λc=>aT c 5 a h λA=>fm c (gt e 0) λB=>az c (aO .sub B<|iv 1) λC=>az c (ao 3 a A C) λD=>aT c 0 a D λE=>aT c 0 a d λF=>az c (aO .gtr E F) λG=>aC g (aD c G<|bv I) λH=>aD g (bv U) H λK=>ah K (aE R a [bv I])<|i [] a)<|ab 1 a d λM=>ab 5 a h λN=>aO .sub (gt e 0) (iv 1) λO=>ao 3 a N O λP=>ab 1 a P λS=>aV S (iv 1) λT=>aO .neq M T λW=>ah W (aE R a [bv I])<|i [] a)
def abV a d c R e:=ab 5 a d λg=>ao 3 a g (gt c 0) λh=>aw 3 a h λi=>eV (bs 148 bhQ a 9) λb f=>sV (aK 3 f b i)<|abU b d R c e
def abY c R d e b a:=Rg->ab 5 a c λf=>aJ a f λg=>aU (gt b 0) g λh=>ah h (jV 30 (IA b d e a)<|abV a c b R)<|aE R a [bv U]
def abX a e R(i:cG)(g:fD) b:=Rg->ab 2 a e λj=>aJ a j λk=>aU (gt b 0) k λl=>ah l (ab 2 a e λm=>ao 2 a m (gt b 0) λn=>ab 1 a n λf=>aU f (iv 0) λc=>bX c f λo=>bn c 1 a e λp=>aC c (aJ a p) λq=>aC c (aO .geq o q) λr=>aD c (bv U) r λd=>bn d 1 a e λs=>bX d f λt=>aC d (ao 2 a s t) λu=>bn d 1 a u λv=>aD d (bv U) v λw=>ah w (aE R a [bv I])<|aV (gt b 0) (iv 1) λh=>i [h]/\g [h]<g b)<|lV [iv 0] a<|abY e R
def abW c d R w(p:cG)(f:fD) b:=Rg->aJ c d λq=>aU (gt b 0) q λr=>ah r (ao 1 c d (gt b 0) λs=>aM c s λt=>fV aPd c [t] λu=>cf u λa=>bX a d λv=>bX a (gt b 0) λg=>aC a (rV<|fo 1 c v J (V g) J) λh=>bX a d λi=>bX a (gt b 0) λj=>aC a (ao 1 c i j) λk=>aC a (aM c k) λl=>aC a (fV FB c [h,l]) λm=>aC a (aO .geq m<|iv 0) λn=>aD a (bv U) n λo=>ah o (aE R c [bv I])<|aV (gt b 0) (iv 1) λe=>p [e]/\f [e]<f b)<|lR [iv 0]<|abX c w R
def abT b a R:=ab 0 a b λt4=>aJ a t4 λG=>aO .gtr G (iv 12) λh=>bn h 1 a b λj=>aC h (aJ a j) λk=>aC h (aO .gtr k<|iv 4) λl=>aD h (bv U) l λc=>bn c 2 a b λm=>aC c (aJ a m) λn=>aC c (aO .gtr n<|iv 2) λo=>aD c (bv U) o λd=>bn d 3 a b λp=>aC d (aJ a p) λq=>aC d (aO .gtr q<|iv 2) λr=>aD d (bv U) r λe=>bn e 4 a b λs=>aC e (aJ a s) λt=>aC e (aU t<|iv 1) λu=>aD e (bv U) u λf=>bn f 4 a b λv=>aC f (aJ a v) λw=>aC f (aO .gtr w<|iv 4) λx=>aD f (bv U) x λg=>bn g 5 a b λy=>aC g (aJ a y) λz=>aC g (aO .gtr z<|iv 60) λA=>aD g (bv U) A λB=>ah B (aE R a [bv I]) (aw 6 a b λC=>fV FD a [C] λi=>rV (eO 0 i) λD=>rV (eO 1 i) λE=>cf E λF=>ah F (aE R a [bv I])<|lR [iv 0]<|abW a D R b)
def aLj{b:List AV}{R:o8}(l0:L b=6)(h:H1 31 6 1 b λc d=>abT c d R):Ct 65 [.a b] R:=z1 atQ yP Tryz.func65 l0 h
def auk:=bi 18 [(8,([31],[3,7,8,9,30]))]
def aes a e c d R f W k:=Rg->ah (gt k 0) (ab 0 a e λl=>ab 2 a c λm=>ao 2 a l m λn=>ab 0 a n λo=>ab 0 a d λp=>bf o p λb=>bn b 0 a e λq=>bn b 2 a c λr=>aC b (ao 2 a q r) λs=>bn b 1 a s λt=>bn b 0 a d λu=>aC b (fV aQF a [t,u]) λv=>aD b (bv U) v λw=>aE R a [w]) (bf f (iv 8) λx=>ah x (ab 0 a e λy=>ab 2 a c λz=>ao 2 a y z λA=>ab 0 a A λB=>ab 0 a d λC=>bf B C λD=>aE R a [D])<|bf f (iv 17) λE=>ah E (ab 0 a e λF=>aB 0 a W λG=>ab 2 a G λH=>ab 2 a c λK=>ao 2 a H K λM=>ab 1 a M λN=>ao 2 a F N λO=>ab 0 a O λP=>ab 0 a d λS=>bf P S λT=>aE R a [T])<|bf f (iv 21) λg=>ah g (ab 2 a c λh=>ab 0 a d λi=>bf h i λj=>aE R a [j])<|aE R a [bv I])
def aet b(J30:cG):=bf b (iv 6) λa=>ah a (J30 [a]) (bf b (iv 10) λc=>J30 [c])
def aen a d e R f b:=ab 1 b a λc=>jR 8 (aes b d a e R c f)<|aet c
def aeo d t3 t4 o p r s f t b q c h R a:=dH [bo d,bo t3,km,lb U [t4,o] [],bo p,bo d,bo r,km,lb U [s,f] [],bo t,lb I [] [7],lb I [] [8],lb I [b,q] [],lb I [c,h] []] [(0,10),(1,10),(2,10),(3,10),(4,10),(5,10),(6,10),(7,10),(8,10),(9,10),(0,11),(1,11),(2,11),(3,11),(4,11),(5,11),(6,11),(7,11),(8,11),(9,11),(10,11),(5,12),(6,12),(7,12),(8,12),(9,12)] (ab 0 a b λi=>ab 0 a c λj=>bf i j λk=>ah k (aE R a [bv I])<|aw 15 a d λl=>fV zg a [l,f] λm=>rV (cK 0 (V 4) m) λn=>eV (bs 36 aNC a 9) λe g=>sV (aK 4 g e n)<|aen b e c R d)
def aep a b e t3 t4 g h j k f l c i R d:=sV (aK 7 d a b)<|aeo e t3 t4 g h j k f l c i a b R
def aeq a e d f t3 t4 h i j k g l R b c:=sV (aK 7 c a e)<|aep b d f t3 t4 h i j k g l a e R
def aer h c d t3 t4 f g i j e k R a b:=eV (bs 87 NY b 8)<|aeq a h c d t3 t4 f g i j e k R
def aem b c d a R:=aB 14 a b λt3=>aM a t3 λt4=>ao 7 a t4 d λf=>aw 7 a f λj=>aB 14 a b λg=>aM a g λh=>ao 7 a h c λi=>aw 7 a i λe=>eV (bs 87 NY a 7)<|aer j e b t3 t4 d f g h c i R
def aLN{b:List AV}{c d:AV}{R:o8}(l0:L b=15)(h:H1 43 15 3 b λe f=>aem e c d f R):Ct 82 [.a b,c,d] R:=z1 auk yP Tryz.func82 l0 h
def aur:=bi 3 []
def aeS k T b X W Z t9 r t s u v d q e w R a:=dH [bo k,bo T,bo b,bo X,lb U [W,Z] [],bo t9,bo k,bo r,bo b,bo t,lb U [s,u] [],bo v,lb I [] [5],lb I [] [6],lb I [d,q] [],lb I [e,w] []] [(0,12),(1,12),(2,12),(3,12),(4,12),(5,12),(6,12),(7,12),(8,12),(9,12),(10,12),(11,12),(0,13),(1,13),(2,13),(3,13),(4,13),(5,13),(6,13),(7,13),(8,13),(9,13),(10,13),(11,13),(12,13),(6,14),(7,14),(8,14),(9,14),(10,14),(11,14)] (ab 1 a b λx=>ab 2 a b λy=>aU x y λi=>aT i 3 a b λz=>az i (bf z<|iv 0) λA=>aD i A (bv I) λj=>aT j 4 a b λB=>az j (bf B<|iv 0) λC=>aD j C (bv I) λf=>aT f 5 a b λD=>az f (aJ a D) λE=>az f (bf E<|iv 0) λF=>aD f F (bv I) λg=>aT g 0 a d λG=>aT g 0 a e λH=>az g (aO .neq G H) λK=>aD g K (bv I) λh=>az h (aw 7 a d) λM=>az h (aw 7 a e) λN=>az h (fV zh a [M,N]) λO=>aD h O (bv I) λc=>az c (aB 0 a k) λP=>aT c 0 a P λS=>aT c 2 a d λl=>az c (ao 5 a S l) λm=>aT c 3 a m λn=>az c (cf n) λo=>aD c o (bv I) λp=>aE R a [p])
def aeT a b l m d o n p q g i h j k c f R e:=sV (aK 7 e a b)<|aeS l m d o n p q g i h j k c f a b R
def aeU a b k l m d o n p q f h g i j R c e:=sV (aK 7 e a b)<|aeT c k l m d o n p q f h g i j a b R
def aeV d j k l b n m o p e g f h i R a c:=eV (bs 87 NY c 6)<|aeU a d j k l b n m o p e g f h i R
def aeR c b a R:=aB 14 a c λk=>aM a k λl=>aB 1 a b λm=>aM a m λn=>ao 7 a l n λo=>aw 7 a o λi=>aB 14 a c λd=>aM a d λe=>aB 2 a b λf=>aM a f λg=>ao 7 a e g λh=>aw 7 a h λj=>eV (bs 87 NY a 5)<|aeV i j c k b m l n o d f e g h R
def aLU{b:List AV}{c:List AV}{R:o8}(l0:L b=15)(l1:L c=6)(h:H2 43 15 2 b 46 6 3 c λd e f=>aeR d e f R):Ct 85 [.a b, .a c] R:=z2 aur yP Tryz.func85 l0 l1 h
def auq:=bi 15 [(7,([7],[2,3,5,6]))]
def aeQ a i j e R f(k:cG)(g:fD) b:=Rg->ab 1 a i λl=>aU (gt b 0) l λm=>ah m (ab 14 a j λn=>ao 7 a n (gt b 0) λo=>ab 0 a o λp=>ab 0 a e λq=>bf p q λr=>ah r (aE R a [bv I])<|aV (gt b 0) (iv 1) λh=>k [h]/\g [h]<g b) (aw 15 a j λs=>ab 1 a i λt=>fV zg a [s,t] λu=>rV (cK 0 (V 4) u) λv=>rV (cK 3 J v) λw=>ab 0 a e λx=>ao 3 a w x λy=>ab 0 a y λz=>bf z (iv 3) λc=>aT c 1 a f λA=>az c (bf A<|iv 19) λB=>fm c B λd=>bn d 3 a f λC=>bn d 0 a e λD=>aC d (bf C D) λE=>az c (aD d (bv U) E) λF=>aD c F (bv I) λG=>aE R a [G])
def aeM m t5 b t7 t6 t8 t9 x z y A B c w d C R a:=dH [bo m,bo t5,bo b,bo t7,lb U [t6,t8] [],bo t9,bo m,bo x,bo b,bo z,lb U [y,A] [],bo B,lb I [] [5],lb I [] [6],lb I [c,w] [],lb I [d,C] []] [(0,12),(1,12),(2,12),(3,12),(4,12),(5,12),(6,12),(7,12),(8,12),(9,12),(10,12),(11,12),(0,13),(1,13),(2,13),(3,13),(4,13),(5,13),(6,13),(7,13),(8,13),(9,13),(10,13),(11,13),(12,13),(6,14),(7,14),(8,14),(9,14),(10,14),(11,14)] (ab 3 a b λD=>aO .neq D (iv 0) λj=>bn j 4 a b λE=>aC j (aO .neq E<|iv 0) λF=>aD j (bv U) F λg=>bn g 5 a b λG=>aC g (aJ a G) λH=>aC g (aO .gtr H<|iv 0) λK=>aD g (bv U) K λf=>bn f 1 a c λM=>aC f (aO .neq M<|iv 18) λN=>bX f N λk=>aT k 1 a c λO=>az k (aO .neq O<|iv 19) λP=>aC f (aD k P<|bv I) λS=>aD f (bv U) S λl=>bn l 1 a d λT=>aC l (aO .neq T<|iv 16) λW=>aD l (bv U) W λh=>bn h 2 a c λX=>bn h 2 a d λZ=>aC h (aO .neq X Z) λaa=>aD h (bv U) aa λi=>bn i 0 a c λn=>bn i 0 a d λo=>aC i (bf n o) λp=>aD i (bv U) p λe=>bn e 2 a b λq=>bn e 1 a b λr=>aC e (aO .geq q r) λs=>aD e (bv U) s λt=>ah t (aE R a [bv I])<|ab 2 a b λu=>aV u (iv 1) λv=>lR [v]<|aeQ a b m d R c)
def aeN a b l m d o n p q g i h j k c f R e:=sV (aK 7 e a b)<|aeM l m d o n p q g i h j k c f a b R
def aeO a b k l m d o n p q f h g i j R c e:=sV (aK 7 e a b)<|aeN c k l m d o n p q f h g i j a b R
def aeP d j k l b n m o p e g f h i R a c:=eV (bs 87 NY c 6)<|aeO a d j k l b n m o p e g f h i R
def aeL c b a R:=aB 14 a c λk=>aM a k λl=>aB 1 a b λm=>aM a m λn=>ao 7 a l n λo=>aw 7 a o λi=>aB 14 a c λd=>aM a d λe=>aB 2 a b λf=>aM a f λg=>ao 7 a e g λh=>aw 7 a h λj=>eV (bs 87 NY a 5)<|aeP i j c k b m l n o d f e g h R
def aLT{b:List AV}{c:List AV}{R:o8}(l0:L b=15)(l1:L c=6)(h:H2 43 15 2 b 46 6 3 c λd e f=>aeL d e f R):Ct 86 [.a b, .a c] R:=z2 auq yP Tryz.func86 l0 l1 h
def aun:=bi 17 [(10,([9],[2,3,5]))]
def aeF a h g d R(i:cG)(e:fD) b:=Rg->ab 2 a h λj=>aU (gt b 0) j λk=>ah k (ab 14 a g λl=>ao 7 a l (gt b 0) λm=>ab 0 a m λn=>ab 0 a d λo=>bf n o λc=>aT c 14 a g λp=>fm c (gt b 0) λq=>az c (ao 7 a p q) λr=>aT c 1 a r λs=>az c (bf s<|iv 15) λt=>aD c t (bv I) λu=>ah u (aE R a [bv I])<|aV (gt b 0) (iv 1) λf=>i [f]/\e [f]<e b) (aw 15 a g λv=>ab 1 a h λw=>fV zg a [v,w] λx=>rV (cK 0 (V 4) x) λy=>rV (cK 3 J y) λz=>ab 0 a d λA=>ao 3 a z A λB=>ab 2 a B λC=>aE R a [C])
def aex g y e A z B C E G F H K N P O S T X aa Z ac ad b D h M f W i ae R a:=dH [bo g,bo y,bo e,bo A,lb U [z,B] [],bo C,bo g,bo E,bo e,bo G,lb U [F,H] [],bo K,bo g,bo N,bo e,bo P,lb U [O,S] [],bo T,bo g,bo X,bo e,bo aa,lb U [Z,ac] [],bo ad,lb I [] [5],lb I [] [6],lb I [] [7],lb I [] [8],lb I [b,D] [],lb I [h,M] [],lb I [f,W] [],lb I [i,ae] []] [(0,24),(1,24),(2,24),(3,24),(4,24),(5,24),(6,24),(7,24),(8,24),(9,24),(10,24),(11,24),(12,24),(13,24),(14,24),(15,24),(16,24),(17,24),(18,24),(19,24),(20,24),(21,24),(22,24),(23,24),(0,25),(1,25),(2,25),(3,25),(4,25),(5,25),(6,25),(7,25),(8,25),(9,25),(10,25),(11,25),(12,25),(13,25),(14,25),(15,25),(16,25),(17,25),(18,25),(19,25),(20,25),(21,25),(22,25),(23,25),(24,25),(0,26),(1,26),(2,26),(3,26),(4,26),(5,26),(6,26),(7,26),(8,26),(9,26),(10,26),(11,26),(12,26),(13,26),(14,26),(15,26),(16,26),(17,26),(18,26),(19,26),(20,26),(21,26),(22,26),(23,26),(24,26),(25,26),(0,27),(1,27),(2,27),(3,27),(4,27),(5,27),(6,27),(7,27),(8,27),(9,27),(10,27),(11,27),(12,27),(13,27),(14,27),(15,27),(16,27),(17,27),(18,27),(19,27),(20,27),(21,27),(22,27),(23,27),(24,27),(25,27),(26,27),(6,28),(7,28),(8,28),(9,28),(10,28),(11,28),(12,28),(13,28),(14,28),(15,28),(16,28),(17,28),(18,28),(19,28),(20,28),(21,28),(22,28),(23,28),(12,29),(13,29),(14,29),(15,29),(16,29),(17,29),(18,29),(19,29),(20,29),(21,29),(22,29),(23,29),(18,30),(19,30),(20,30),(21,30),(22,30),(23,30)] (ab 0 a b λaf=>ab 0 a h λag=>aO .neq af ag λj=>bn j 0 a f λak=>bn j 0 a i λal=>aC j (aO .neq ak al) λam=>aD j (bv U) am λk=>bn k 0 a b λl=>bn k 0 a f λm=>aC k (bf l m) λn=>aD k (bv U) n λc=>aC c (aw 7 a b) λo=>aC c (aw 7 a f) λp=>aC c (fV zh a [o,p]) λq=>aC c (cf q) λr=>aD c (bv U) r λd=>aC d (aw 7 a i) λs=>aC d (aw 7 a h) λt=>aC d (fV zh a [s,t]) λu=>aC d (cf u) λv=>aD d (bv U) v λw=>ah w (aE R a [bv I])<|ab 1 a e λx=>lR [x]<|aeF a e g b R)
def aey a b E h f j i k l n p o q r t v u w x z B A C D c m d s e y R g:=sV (aK 7 g a b)<|aex E h f j i k l n p o q r t v u w x z B A C D c m d s e y a b R
def aez a b e D E h f j i k l n p o q r t v u w x y A z B C c m d s R g:=sV (aK 7 g a b)<|aey e D E h f j i k l n p o q r t v u w x y A z B C c m d s a b R
def aeA a b d x e D E h f j i k l n p o q r s u t v w y A z B C c m R g:=sV (aK 7 g a b)<|aez d x e D E h f j i k l n p o q r s u t v w y A z B C c m a b R
def aeB a b c r d x D E h f j i k l m o n p q s u t v w y A z B C R e g:=sV (aK 7 g a b)<|aeA c r d x e D E h f j i k l m o n p q s u t v w y A z B C a b R
def aeC a k b q w C D f d h g i j l n m o p r t s u v x z y A B R c e:=eV (bs 87 NY e 8)<|aeB a k b q c w C D f d h g i j l n m o p r t s u v x z y A B R
def aeD a j p v B C e c g f h i k m l n o q s r t u w y x z A R b d:=eV (bs 87 NY d 7)<|aeC a j b p v B C e c g f h i k m l n o q s r t u w y x z A R
def aeE i o u A B d b f e g h j l k m n p r q s t v x w y z R a c:=eV (bs 87 NY c 6)<|aeD a i o u A B d b f e g h j l k m n p r q s t v x w y z R
def aew c b a R:=ab 5 a b λN=>aJ a N λO=>aO .gtr O (iv 0) λe=>bn e 1 a b λz=>bn e 2 a b λA=>aC e (aO .geq z A) λB=>aD e (bv U) B λd=>bn d 3 a b λC=>bn d 4 a b λD=>aC d (aO .gtr C D) λE=>aD d (bv U) E λF=>ah F (aE R a [bv I]) (aB 14 a c λf=>aM a f λg=>aB 1 a b λh=>aM a h λi=>ao 7 a g i λj=>aw 7 a j λG=>aB 14 a c λk=>aM a k λl=>aB 2 a b λm=>aM a m λn=>ao 7 a l n λo=>aw 7 a o λH=>aB 14 a c λp=>aM a p λq=>aB 3 a b λr=>aM a r λs=>ao 7 a q s λt=>aw 7 a t λK=>aB 14 a c λu=>aM a u λv=>aB 4 a b λw=>aM a w λx=>ao 7 a v x λy=>aw 7 a y λM=>eV (bs 87 NY a 5)<|aeE G H K M c f b h g i j k m l n o p r q s t u w v x y R)
def aLQ{b:List AV}{c:List AV}{R:o8}(l0:L b=15)(l1:L c=6)(h:H2 43 15 2 b 46 6 3 c λd e f=>aew d e f R):Ct 87 [.a b, .a c] R:=z2 aun yP Tryz.func87 l0 l1 h
def wJ(w:br):Bool:=Q ((12:Int)<L w.cells)||Q ((4:Int)<L w.ak)||Q ((2:Int)<L w.bC)||Q ((2:Int)<L w.bU)||Q ((L w.ay:Int)<1)||Q ((4:Int)<L w.ay)||Q ((60:Int)<L w.dU)
def yn(l:List ByteArray)(j:Nat):Bool:=!aQt (gd l j)||Q (0<=tX (l.take j) (gd l j))
def uh(w:br)(j:Nat):Bool:=Q ((gd w.bC j).eg<0)||Q ((L w.ak:Int)<=(gd w.bC j).eg)||(gd w.ak (gd w.bC j).eg.toNat).rw
def aOg(w:br)(j:Nat):Bool:=
 Q ((gd w.dU j).aq<0)||Q ((L w.ay:Int)<=(gd w.dU j).aq)||
 bif Q ((j:Int)=0)||Q ((gd w.dU<|j-1).aq≠(gd w.dU j).aq) then(Q ((gd w.dU j).stmt≠0)||(Q ((0:Int)<j)&&Q ((gd w.dU j).aq<(gd w.dU<|j-1).aq)))
 else Q<|(gd w.dU j).stmt≠dq.wrap ((gd w.dU<|j-1).stmt+1)
def mQ(w:br):Bool:=
 !wJ w&&(match lY w with
  |none=>I
  |some l=>Q (∀j,j<L l->yn l j=I)&&(Q (∀j,j<L w.bC->uh w j=I)&&Q (∀j,j<L w.dU->aOg w j=I)))
def alH{l:List cA}:∀{f i:Nat} {a r:List ByteArray},jv l f i a=V r->L r<=L a+f
 |0,i,a,r,h=>by
  grind [jv]
 |f+1,i,a,r,h=>by
  simp only[jv] at h
  split at h
  ·split at h
   ·cases h
   ·have:=alH h
    grind
  simp_all
def anD{w:br}{l:List ByteArray}(h:lY w=V l):L l<=L w.cells+L w.ak+L w.bC+L w.bU+L w.ay:=by simp only[lY,Option.map_eq_some_iff] at h;obtain⟨a,b,rfl⟩:=h;have:=alH b;grind
def zM{n:Nat}{p:Nat->Bool}{k:Nat}(a:k<n)(h:p k=U):Q (∀j,j<n->p j=I)=I:=by grind
def OI(w:br):Ct 65 [.a w.c] (·=bv (mQ w)):=by refine aLj rfl λN G q X=>?_;simp+contextual only[abT,u0,u1,q,rk,ar,rT,aj,↓uL];refine⟨λh=>?_,λh=>?_⟩;grind [mQ,wJ,fh];have T:wJ w=I:=h;simp only[cP,sA] at h;refine⟨(by omega),?_⟩;rintro r ⟨t,o,rfl⟩;refine⟨.inl rfl,?_⟩;simp+contextual only[oJ,pG,u0,u1,↓uL];refine⟨λH=>?_,λH=>?_⟩;grind [lY,mQ];obtain⟨l,y⟩:∃l,lY w=V l:=(by cases W:lY w with|none=>simp_all|some l=>simp);have R:L l<1000000:=(by have:=anD y;omega);rw[y];have z:mQ w=(Q (∀j,j<L l->yn l j=I)&&(Q (∀j,j<L w.bC->uh w j=I)&&Q (∀j,j<L w.dU->aOg w j=I))):=(by grind [mQ]);simp only[mi];refine C7 (L l) (λk=>∀j,j<k->yn l j=I) (by simp) λk A m=>?_;simp+contextual only[abW,u0,u1,gT,amZ,qM,rk,ar,rT,aIl,bh,↓uL];refine⟨λb=>⟨vp b,(by omega),λ_=>vp b,λ_=>by simp;omega,λd=>?_,λd=>gS (aL b) (by omega)<|aRN m d⟩,λb=>?_⟩;rw[z,zM (aL b) d,kM];have O:∀j,j<L l->yn l j=I:=(by grind);refine C7 (L w.bC) (λk=>∀j,j<k->uh w j=I) (by simp) λk A m=>?_;simp+contextual only[abX,u0,u1,q,rk,ix,aj,bh,↓uL];refine⟨λb=>⟨vp b,λF=>?_,λd=>?_,λd=>gS (aL b) (by omega)<|aRN m d⟩,λb=>?_⟩;simp at F;exact⟨by omega,by omega⟩;rw[z,zM (aL b) d,kM,qc];have P:∀j,j<L w.bC->uh w j=I:=(by grind);refine pQ (L w.dU) [9] (λk=>∀j,j<k->aOg w j=I) (by simp) λk Y A m x=>?_;have v:box Y (1,1)=_:=x.bt q;simp+contextual only[abY,di,abV,u0,u1,v,rk,ix,aj,bh,↓uL];refine⟨λb=>⟨vp b,?_⟩,λb=>?_⟩;refine eF rfl rfl (by decide) (by rw[x.1,G];decide) λu C D=>?_;have E:box u (1,1)=_:=C.bt v;simp+contextual only[abU,↓iC,↓iB,↓iS,u0,u1,D,E,rk,ix,aj,↓uL];have S:=aL b;have M:dq.wrap ((k:Int)-1)=(k:Int)-1:=(by grind [eM]);have B:((k:Int)-1).toNat=k-1:=(by omega);rw[M,B];have e:aOg w k=U->bv I=bv (mQ w):=(by grind);have p:aOg w k=I->IA [iv k] (fI N [9] (L w.dU) λk=>∀j,j<k->aOg w j=I) (fM<|L w.dU) Y [] u:=λd=>(by simp only[IA,aI,au,cS,aY,↓uL];grind [oL,Fr.trans]);refine⟨(by grind [aOg]),λZ=>⟨λn=>?_,λn=>⟨λg=>?_,λg=>e ?_,λg=>p ?_⟩,λn=>⟨?_,λg=>e ?_,λg=>p ?_⟩⟩⟩;simp at n;exact⟨by omega,by omega⟩;simp at g;exact⟨by omega,by omega⟩;grind [aOg];grind [aOg];simp only[cP,sA] at n;exact⟨by omega,by omega⟩;grind [aOg];grind [aOg];grind
def FC:FT:=lH OI
def ayF{w Lw K}:=np FC OI w Lw K
def yT{α:Type}{c:AV}{f:α->List AV}{l:List α}(h:gK c=sl f l):∃t o,c= .l (l.map f) t o:=by(cases c<;>simp[gK,sl] at h);simp_all
def aIO{c:AV}{v:Value}(h:gK c= .s v):c= .s v:=by(cases c<;>simp[gK] at h);subst h;rfl
def Qj{ds:List AV}{s:mn}(h:Lk ds s.c):∃f d o4 e a g b,ds=eD s.bm f++[.l (s.cells.map ci) d o4, .l (s.bU.map ci) e a, .l (s.count.map ci) g b]:=by have u:=oC h;match ds,u with|[B,C,D,E,F,G,H],_=>have:=h.1;simp only[ji,mU,mn.c,kO,tn] at this;obtain⟨j,k,m,n,p,q,r⟩:=this;obtain⟨x,v,rfl⟩:=yT j;obtain rfl:=aIO k;obtain⟨y,w,rfl⟩:=yT m;obtain⟨t3,o3,rfl⟩:=yT n;obtain⟨t4,o4,rfl⟩:=yT p;obtain⟨z,a,rfl⟩:=yT q;obtain⟨A,b,rfl⟩:=yT r;exact⟨(x,v,y,w,t3,o3),t4,o4,z,a,A,b,rfl⟩
section
variable{s:aW}{f:Bool×Bool×Bool×Bool×Bool×Bool}{K:o8}{Y:ae}{i:Int}{t o:Bool}
def ry0:aN J (eD s f)=V (.l (s.ak.map cg.c) f.1 f.2.1):=rfl
def aCj{l:List cg}:rV (cz 2 Y (.l (l.map cg.c) t o)<|iv i) K=(aF (L l) i/\K (.q<|cg.c<|gd l i.toNat)):=am0 (Y:=Y)
def am1{l:List kw}:rV (cz 3 Y (.l (l.map kw.c) t o)<|iv i) K=(aF (L l) i/\K (.q<|kw.c<|gd l i.toNat)):=am2 (Y:=Y)
def amb:cK 3 J (.a<|eD s f)=V (.l (s.ay.map kw.c) f.2.2.2.2.1 f.2.2.2.2.2):=rfl
def KZ{l:List AV}:cK 0 (V 4) (.a<|eD s f++l)=V (.a<|eD s f):=rfl
end
def aOj(w:am)(f e:Int):Bool:=
 bif Q ((gd w.ac e.toNat).aq=(gd w.ac f.toNat).aq) then I
 else bif Q ((gd w.ac e.toNat).kind=6)||Q ((gd w.ac e.toNat).kind=10) then(Q ((gd (cY w f.toNat).bm.ak (gd w.ac e.toNat).nt.toNat).pw=(gd w.ac f.toNat).aq)||Q ((gd w.ac f.toNat).aq∈(gd (cY w f.toNat).bm.ak (gd w.ac e.toNat).nt.toNat).bk))
 else bif Q ((gd w.ac e.toNat).kind=8) then Q<|(gd (cY w f.toNat).bm.ak (gd w.ac e.toNat).nt.toNat).pw=(gd w.ac f.toNat).aq
 else bif Q ((gd w.ac e.toNat).kind=17) then Q<|(gd (cY w f.toNat).bm.ak (gd w.aQ.bC (gd w.ac e.toNat).nt.toNat).eg.toNat).pw=(gd w.ac f.toNat).aq
 else bif Q ((gd w.ac e.toNat).kind=21) then Q<|(gd w.ac e.toNat).nt=(gd w.ac f.toNat).aq
 else I
structure kB(w:am):Prop where
 ev:L w.ac<=16
 co:L w.aQ.bC<=2
 cc:∀c∈w.aQ.bC,aF (L w.aQ.ak) c.eg
 st:∀k:Nat,k<L w.ac->GV (cY w k)/\fN w.aQ (cY w k)=U
 en:∀k:Nat,k<L w.ac->vo (gd w.ac k)/\C1 w.aQ (cY w k) (gd w.ac k)=U
theorem kB.named{w:am}(h:kB w){k:Nat}(a:k<L w.ac):named w.aQ (gd w.ac k).kind (gd w.ac k).nt=U/\aF (L w.aQ.ay) (gd w.ac k).aq:=by have:=(h.en k a).2;grind [C1,eH,cP,aOL,fK,jm,dX]
def Ph(w:am)(f e:Int)(hp:kB w/\aF (L w.ac) f/\aF (L w.ac) e):Ct 82 [.a w.c,iv f,iv e] (·=bv (aOj w f e)):=by refine aLN rfl λs2 u O h0=>?_;obtain⟨H,E,D⟩:=hp;simp+contextual only[aem,u0,u1,O,rk,ix,aj,↓uL];refine⟨D,E,?_⟩;refine mo u λs3 m b3=>?_;simp only[aer,↓uL];refine mo (m.1.trans u) λs4 n b4=>?_;simp only[aeq,↓uL];refine gN (n.bt b3) (by rw[n.1,m.1,u];decide) rfl rfl λs5 v b5=>?_;simp only[aep,↓uL];refine gN (v.bt b4) (by rw[v.1,n.1,m.1,u];decide) rfl rfl λM B P=>?_;simp only[aeo,↓uL];refine dT (by rfl) ?_;have l6:L M=4096:=(by rw[B.1,v.1,n.1,m.1,u]);have R:box M (3,1)=_:=B.bt<|v.bt<|n.bt<|m.bt O;have S:box M (7,(aZ s2 7).lB+1)=_:=B.bt b5;simp+contextual only[↓iC,↓iB,↓iS,u0,u1,R,S,P,rk,ix,aj,↓uL];refine⟨λh=>by simp only[aOj,h,vb],λh=>?_⟩;have aC:=E.1;have aa:=E.2;have az:=D.1;have aA:=D.2;have aD:f.toNat<L w.ac:=(by omega);have Z:e.toNat<L w.ac:=(by omega);have aB:=H.ev;have ay:=H.co;simp only[jM,kU,jt,sH,tW,rT];refine⟨⟨by omega,by omega,λk _ F=>(H.st k<|by omega).1,λx hx=>by obtain⟨k,F,rfl⟩:=ou hx;rw[<-bT F];exact(H.en k F).1⟩,?_⟩;rintro r ⟨ds,rfl,W⟩;rw[d7 aa] at W;refine⟨.inl rfl,?_⟩;obtain⟨g,f4,o4,f5,o5,f6,o6,rfl⟩:=Qj W;simp only[KZ,aY,↓uL];refine eF (z:=4) (d:=9) (cs:=eD (cY w f.toNat).bm g) rfl rfl (by decide) (by rw[l6];decide) λN C b7=>?_;have d1:box N (3,1)=_:=C.bt R;have T:box N (7,(aZ s2 7).lB+1)=_:=C.bt S;have d6:box N (8,(aZ s3 8).lB+1)=_:=C.bt P;obtain⟨hn,ht⟩:=H.named Z;obtain⟨ad,A⟩:=H.st f.toNat (by omega);have y:L (cY w f.toNat).bm.ak=L w.aQ.ak:=(by simp only[fN,bN] at A;exact(iY A.1).2.1);simp only[aen,u0,u1,T,rk,aj,↓uL];simp only[f8,aet,iM,aY,sw,↓uL];simp only[aes,aI,au,↓uL];simp+contextual only[↓iC,↓iB,↓iS,u0,u1,d1,T,d6,b7,rk,ry0,ix,aCj,ar,rT,aj,↓uL];have lk:6<=(gd w.ac e.toNat).kind->(gd w.ac e.toNat).kind<=11->aF (L (cY w f.toNat).bm.ak) (gd w.ac e.toNat).nt:=λa b=>(by rw[y];exact mJ hn a b);refine⟨λq=>?_,λq=>⟨λj=>?_,λj=>⟨λl=>?_,λl=>⟨λG=>?_,λG=>?_⟩⟩⟩⟩;have p:=lk (by simp at q;omega) (by simp at q;omega);have:=ad.1 _<|ii p;exact⟨p,λ_=>p,λ_=>by omega,by simp only[aOj,h,q,vb,aoC]⟩;have p:=lk (by simp at j;omega) (by simp at j;omega);exact⟨p,by simp only[aOj,h,q,j,vb,aoC]⟩;have X:=oT hn (by simp at l;omega) (by simp at l;omega);exact⟨X,by rw[y];exact H.cc _<|ii X,by simp only[aOj,h,q,j,l,vb,aoC]⟩;simp only[aOj,h,q,j,l,G,vb,aoC];simp only[aOj,h,q,j,l,G,vb,aoC]
def FN:FT:=qe Ph
def ay6{w f e Lw K}:=sT FN Ph w f e Lw K
abbrev jn(w:am)(g:cJ):aP:=gd w.ac g.ea.toNat
abbrev mB(w:am)(g:cJ):aP:=gd w.ac g.eb.toNat
abbrev rP(w:am)(g:cJ):aP:=gd w.ac g.ec.toNat
abbrev xI(w:am)(g:cJ):aP:=gd w.ac g.ed.toNat
def Ek(w:am)(g:cJ):Bool:=Q (g.ea<g.eb)&&(Q (g.ec=0)&&(Q (g.ed=0)&&(Q ((L g.cW:Int)=0)&&(Q ((jn w g).aq≠(mB w g).aq)&&(nh (jn w g) (mB w g)&&!(gd w.aQ.cells (jn w g).nt.toNat).vol)))))
def Pq(w:am)(g:cJ)(E:kB w/\aF (L w.ac) g.ea/\aF (L w.ac) g.eb):Ct 85 [.a w.c, .a g.c] (·=bv (Ek w g)):=by refine aLU rfl rfl λF h n p G=>?_;obtain⟨H,m,C⟩:=E;simp+contextual only[aeR,u0,u1,n,p,rk,ix,aj,↓uL];refine⟨m,C,?_⟩;refine mo h λO b u=>?_;simp only[aeV,↓uL];refine mo (b.1.trans h) λP d v=>?_;simp only[aeU,↓uL];refine gN (d.bt u) (by rw[d.1,b.1,h];decide) rfl rfl λR e x=>?_;simp only[aeT,↓uL];refine gN (e.bt v) (by rw[e.1,d.1,b.1,h];decide) rfl rfl λk j y=>?_;simp only[aeS,↓uL];refine dT (by rfl) ?_;have N:L k=4096:=(by rw[j.1,e.1,d.1,b.1,h]);have z:box k (2,1)=_:=j.bt<|e.bt<|d.bt<|b.bt n;have A:box k (3,1)=_:=j.bt<|e.bt<|d.bt<|b.bt p;have B:box k (5,(aZ F 5).lB+1)=_:=j.bt x;simp+contextual only[↓iC,↓iB,↓iS,u0,u1,z,A,B,y,rk,ix,aj,ar,rT,↓uL];refine⟨λq=>?_,?_⟩;have r:g.ea.toNat<L w.ac:=(by have:=m.1;have:=m.2;omega);have D:=(H.named r).1;simp only[bN] at q;have l:nh (jn w g) (mB w g)=U:=q.2.2.2.2.2;simp only[nh,tT,bN,fH,j1] at l;have M:(gd w.ac g.ea.toNat).kind=3\/(gd w.ac g.ea.toNat).kind=4:=l.1.1.1;exact qP D (by omega) (by omega);simp only[Ek,BI]
def FU:FT:=aIc Pq
def azd{w g Lw K}:=gX FU Pq w g Lw K
def tm(w:am)(g:cJ):Bool:=Q (g.ec≠0)||Q (g.ed≠0)||Q ((0:Int)<L g.cW)||(Q ((jn w g).kind≠18)&&Q ((jn w g).kind≠19))||Q ((mB w g).kind≠16)||Q ((jn w g).nt≠(mB w g).nt)||Q ((jn w g).aq=(mB w g).aq)||Q (g.ea<=g.eb)
def wz(w:am)(g:cJ):Bool:=!tm w g&&(Q (∀j,j<g.ea.toNat->g.eb.toNat<j->(gd w.ac j).aq≠(mB w g).aq)&&(Q ((gd (cY w g.ea.toNat).bm.ay (mB w g).aq.toNat).cQ=3)&&(Q ((jn w g).kind=19)||Q ((jn w g).value=(mB w g).aq))))
def Pp(w:am)(g:cJ)(hp:kB w/\aF (L w.ac) g.ea/\aF (L w.ac) g.eb):Ct 86 [.a w.c, .a g.c] (·=bv (wz w g)):=by refine aLT rfl rfl λs2 n F G h0=>?_;obtain⟨H,C,D⟩:=hp;have af:=C.1;have R:=C.2;have ah:=D.1;have ak:=D.2;have an:=H.ev;have al:=H.co;simp+contextual only[aeL,u0,u1,F,G,rk,ix,aj,↓uL];refine⟨C,D,?_⟩;refine mo n λs3 e Z=>?_;simp only[aeP,↓uL];refine mo (e.1.trans n) λs4 l b4=>?_;simp only[aeO,↓uL];refine gN (l.bt Z) (by rw[l.1,e.1,n];decide) rfl rfl λs5 m b5=>?_;simp only[aeN,↓uL];refine gN (m.bt b4) (by rw[m.1,l.1,e.1,n];decide) rfl rfl λv u z=>?_;simp only[aeM,↓uL];refine dT (by rfl) ?_;have l6:L v=4096:=(by rw[u.1,m.1,l.1,e.1,n]);have M:box v (2,1)=_:=u.bt<|m.bt<|l.bt<|e.bt F;have N:box v (3,1)=_:=u.bt<|m.bt<|l.bt<|e.bt G;have A:box v (5,(aZ s2 5).lB+1)=_:=u.bt b5;simp+contextual only[↓iC,↓iB,↓iS,u0,u1,M,N,A,z,rk,ix,aj,ar,rT,↓uL];refine⟨λq=>?_,λq=>?_⟩;have:tm w g=U:=(by simpa only[tm,yZ] using q);simp only[wz,this,fh,kM];have B:tm w g=I:=(by simpa only[tm,yZ] using q);rw[eM (by omega)<|by omega];refine⟨λvs=>∃k:Nat,vs=[iv k]/\g.eb.toNat<k/\k<=g.ea.toNat+1/\∀j:Nat,g.eb.toNat<j->j<k->(gd w.ac j).aq≠(mB w g).aq,cM 1000,⟨g.eb.toNat+1,by congr 2;omega,by omega,by simp only[tm,cP,sA] at B;omega,λj a b=>by omega⟩,?_⟩;rintro vs ⟨k,rfl,W,ao,T⟩;simp+contextual only[aeQ,↓iC,↓iB,↓iS,u0,u1,M,N,A,z,rk,ix,aj,bh,↓uL];have ap:g.eb.toNat<g.ea.toNat:=(by simp only[tm,cP,sA] at B;omega);refine⟨λh=>?_,λh=>?_⟩;simp only[j1] at h;refine⟨⟨by omega,by omega⟩,λp=>?_,λp=>?_⟩;have:¬∀j,j<g.ea.toNat->g.eb.toNat<j->(gd w.ac j).aq≠(mB w g).aq:=λd=>d k (by omega) W (by simpa using p);simp only[wz,aQd this,kM,qc];rw[fX<|by omega];refine⟨⟨k+1,rfl,by omega,by omega,λj a b=>?_⟩,by simp only[cM,bh];omega⟩;rcases jj j k with O|O;exact T j a O;obtain rfl:j=k:=(by omega);simpa using p;simp only[sA] at h;have d:∀j,j<g.ea.toNat->g.eb.toNat<j->(gd w.ac j).aq≠(mB w g).aq:=λj a b=>T j b (by omega);have ag:g.ea.toNat<L w.ac:=(by omega);have S:g.eb.toNat<L w.ac:=(by omega);simp only[jM,kU,jt,sH,tW,rT];refine⟨⟨by omega,by omega,λk _ E=>(H.st k<|by omega).1,λx p=>by obtain⟨k,E,rfl⟩:=ou p;rw[<-bT E];exact(H.en k E).1⟩,?_⟩;rintro r ⟨ds,rfl,P⟩;rw[d7 R] at P;refine⟨.inl rfl,?_⟩;obtain⟨f,f4,o4,f5,o5,f6,o6,rfl⟩:=Qj P;obtain⟨au,y⟩:=H.st g.ea.toNat (by omega);have X:L (cY w g.ea.toNat).bm.ay=L w.aQ.ay:=(by simp only[fN,bN] at y;exact(iY y.1).2.2.2);simp+contextual only[KZ,amb,u0,u1,am1,rk,A,z,↓uL];refine⟨by rw[X];exact(H.named S).2,?_⟩;simp only[wz,B,kN,iw,aQl d]
def FR:FT:=aIc Pp
def azc{w g Lw K}:=gX FR Pp w g Lw K
def zR(g:cJ):Bool:=Q ((0:Int)<L g.cW)||Q (g.eb<=g.ea)||Q (g.ed<g.ec)
def vQ(w:am)(g:cJ):Bool:=Q ((jn w g).aq≠(mB w g).aq)||Q ((rP w g).aq≠(xI w g).aq)||Q ((jn w g).aq=(rP w g).aq)||!nh (jn w g) (rP w g)||!nh (xI w g) (mB w g)
def tZ(w:am)(g:cJ):Bool:=!zR g&&(!vQ w g&&(Q (∀j,j<g.eb.toNat->g.ea.toNat<=j->((gd w.ac j).aq≠(jn w g).aq\/(gd w.ac j).kind≠15))&&(gd (cY w g.ea.toNat).bm.ay (jn w g).aq.toNat).atomic))
def Pk(w:am)(g:cJ)(hp:kB w/\aF (L w.ac) g.ea/\aF (L w.ac) g.eb/\aF (L w.ac) g.ec/\aF (L w.ac) g.ed):Ct 87 [.a w.c, .a g.c] (·=bv (tZ w g)):=by refine aLQ rfl rfl λs2 p R S h0=>?_;obtain⟨H,N,O,ak,hd⟩:=hp;have ae:=N.1;have af:=N.2;have aI:=O.1;have aJ:=O.2;have aL:=H.ev;have aK:=H.co;simp+contextual only[aew,u0,u1,R,S,rk,ix,aj,↓uL];refine⟨λq=>?_,λq1=>?_⟩;have:zR g=U:=q;simp only[tZ,this,fh,kM];have E:zR g=I:=q1;refine⟨N,O,ak,hd,?_⟩;refine mo p λs3 e b3=>?_;simp only[aeE,↓uL];refine mo (e.1.trans p) λs4 l b4=>?_;simp only[aeD,↓uL];refine pv rfl (by decide) (by rw[l.1,e.1,p];decide) λs5 m b5=>?_;simp only[aeC,↓uL];refine pv rfl (by decide) (by rw[m.1,l.1,e.1,p];decide) λs6 n b6=>?_;simp only[aeB,↓uL];refine gN (n.bt<|m.bt<|l.bt b3) (by rw[n.1,m.1,l.1,e.1,p];decide) rfl rfl λs7 v b7=>?_;simp only[aeA,↓uL];refine gN (v.bt<|n.bt<|m.bt b4) (by rw[v.1,n.1,m.1,l.1,e.1,p];decide) rfl rfl λs8 A b8=>?_;simp only[aez,↓uL];refine gN (A.bt<|v.bt<|n.bt b5) (by rw[A.1,v.1,n.1,m.1,l.1,e.1,p];decide) rfl rfl λs9 C b9=>?_;simp only[aey,↓uL];refine gN (C.bt<|A.bt<|v.bt b6) (by rw[C.1,A.1,v.1,n.1,m.1,l.1,e.1,p];decide) rfl rfl λd z D=>?_;simp only[aex,↓uL];refine dT (by rfl) ?_;have hF:Fr s2 d [5,6,7,8]:=(e.mono<|by decide).trans ((l.mono<|by decide).trans<|(m.mono<|by decide).trans<|(n.mono<|by decide).trans<|(v.mono<|by decide).trans<|(A.mono<|by decide).trans<|(C.mono<|by decide).trans<|z.mono<|by decide);have T:box d (2,1)=_:=hF.bt R;have W:box d (3,1)=_:=hF.bt S;have M:box d (5,(aZ s2 5).lB+1)=_:=z.bt<|C.bt<|A.bt b7;have X:box d (6,(aZ s3 6).lB+1)=_:=z.bt<|C.bt b8;have Z:box d (7,(aZ s4 7).lB+1)=_:=z.bt b9;simp+contextual only[↓iC,↓iB,↓iS,u0,u1,T,W,M,X,Z,D,rk,ix,aj,ar,rT,↓uL];refine⟨λq=>?_,λq=>?_⟩;have:vQ w g=U:=(by simpa only[vQ,yZ] using q);simp only[tZ,this,fh,kM,qc];have aa:vQ w g=I:=(by simpa only[vQ,yZ] using q);have aN:g.ea.toNat<g.eb.toNat:=(by simp only[zR,cP,sA] at E;omega);refine⟨λvs=>∃k:Nat,vs=[iv k]/\g.ea.toNat<=k/\k<=g.eb.toNat/\∀j:Nat,g.ea.toNat<=j->j<k->((gd w.ac j).aq≠(jn w g).aq\/(gd w.ac j).kind≠15),cM 1000,⟨g.ea.toNat,by rw[Int.toNat_of_nonneg ae],by omega,by omega,λj a b=>by omega⟩,?_⟩;rintro vs ⟨k,rfl,al,aM,hc⟩;simp+contextual only[aeF,↓iC,↓iB,↓iS,u0,u1,T,W,M,X,Z,D,rk,ix,aj,bh,↓uL];refine⟨λh=>?_,λh=>?_⟩;simp only[j1] at h;have F:aF (L w.ac) (k:Int):=⟨by omega,by omega⟩;refine⟨F,λ_=>F,λu=>?_,λu=>?_⟩;simp only[bN,j1] at u;have:¬∀j,j<g.eb.toNat->g.ea.toNat<=j->((gd w.ac j).aq≠(jn w g).aq\/(gd w.ac j).kind≠15):=λy=>(by rcases y k (by omega) al with B|B;exact B u.1;exact B u.2);simp only[tZ,aQd this,kM,qc];simp only[pk,sA] at u;rw[fX<|by omega];refine⟨⟨k+1,rfl,by omega,by omega,λj a b=>?_⟩,by simp only[cM,bh];omega⟩;rcases jj j k with B|B;exact hc j a B;obtain rfl:j=k:=(by omega);exact u;simp only[sA] at h;have y:∀j,j<g.eb.toNat->g.ea.toNat<=j->((gd w.ac j).aq≠(jn w g).aq\/(gd w.ac j).kind≠15):=λj a b=>hc j b (by omega);have ag:g.ea.toNat<L w.ac:=(by omega);simp only[jM,kU,jt,sH,tW,rT];refine⟨⟨by omega,by omega,λk _ P=>(H.st k<|by omega).1,λx u=>by obtain⟨k,P,rfl⟩:=ou u;rw[<-bT P];exact(H.en k P).1⟩,?_⟩;rintro r ⟨ds,rfl,hL⟩;rw[d7 af] at hL;refine⟨.inl rfl,?_⟩;obtain⟨f,f4,o4,f5,o5,f6,o6,rfl⟩:=Qj hL;obtain⟨aO,G⟩:=H.st g.ea.toNat (by omega);have an:L (cY w g.ea.toNat).bm.ay=L w.aQ.ay:=(by simp only[fN,bN] at G;exact(iY G.1).2.2.2);simp+contextual only[KZ,amb,u0,u1,am1,rk,M,↓uL];refine⟨by rw[an];exact(H.named ag).2,?_⟩;simp only[tZ,E,aa,kN,iw,aQl y]
def FP:FT:=aIc Pk
def ay9{w g Lw K}:=gX FP Pk w g Lw K
def ao1:dO:=(65,FC)::(82,FN)::(85,FU)::(86,FR)::(87,FP)::ao0
def Ex:eJ ao1:=it (nH OI)<|it (tE Ph)<|it (aCb Pq)<|it (aCb Pp)<|it (aCb Pk)<|yP
def sX:=ai @ayF<|ai @ay6<|ai @azd<|ai @azc<|ai @ay9<|@rT
def auc:=bi 25 [(6,([3],[1])),(15,([5],[1,4]))]
def ad4 l h d R e f g i j k a:=cf l λb=>aC b (aw 15 a h) λm=>bn b 0 a d λn=>bn b 5 a d λo=>aC b (fV Ci a [m,n,o]) λp=>aC b (cf p) λq=>aD b (bv U) q λc=>aC c (aw 15 a h) λr=>bn c 0 a d λs=>bn c 6 a d λt=>aC c (fV Ci a [r,s,t]) λu=>aC c (cf u) λv=>aD c (bv U) v λw=>ah w (aE R a [bv I]) (aw 7 a e λx=>sV (aK 7 a f x)<|ID g i j k)
def ad5 g d c R f h i j a:=aB 0 a g λl=>aw 6 a l λm=>aw 7 a d λn=>aw 7 a c λo=>fV Cd a [m,n,o] λe=>rV (eO 0 e) λp=>rV (eO 1 e) λq=>eV (bs 40 BF a 7) λb k=>sV (aK 7 k b p)<|ad4 q g c R b d f h i j
def ad6 d e R f g b a:=Rg->ab 14 a d λi=>aJ a i λj=>aU (gt b 0) j λk=>ah k (ab 14 a d λl=>ao 7 a l (gt b 0) λm=>aw 7 a m λn=>eV (bs 87 NY a 6) λc h=>sV (aK 7 h c n)<|ad5 d e c R b f g a)<|aE R a [bv U]
def ad7 a d R(n:cG)(g:fD) c:=Rg->aB 7 a d λo=>ab 5 a o λp=>aJ a p λq=>aU (gt c 0) q λr=>ah r (aB 7 a d λs=>aB 0 a s λt=>ab 2 a t λu=>ao 1 a u (gt c 0) λv=>aM a v λw=>cf w λb=>az b (aB 7 a d) λx=>aT b 5 a x λy=>fm b (gt c 0) λz=>az b (ao 1 a y z) λA=>az b (aM a A) λB=>az b (aO .neq B<|iv 0) λj=>aD b j (bv I) λk=>ah k (aE R a [bv I])<|aV (gt c 0) (iv 1) λf=>n [f]/\g [f]<g c) (aB 7 a d λl=>aw 7 a l λm=>eV (bs 40 BF a 4) λe h=>sV (aK 7 h e m) λi=>lV [iv 0] i<|ad6 d e R)
def ad2 b a R:=aB 0 a b λt3=>aw 6 a t3 λt4=>fV FC a [t4] λz=>cf z λc=>aC c (aB 0 a b) λA=>aC c (aw 6 a A) λh=>aC c (aB 7 a b) λi=>aC c (aw 7 a i) λj=>aC c (fV Cc a [h,j]) λk=>aC c (cf k) λl=>aD c (bv U) l λd=>bn d 14 a b λm=>aC d (aJ a m) λn=>aC d (aO .gtr n<|iv 16) λo=>aD d (bv U) o λe=>aC e (aw 15 a b) λp=>aC e (fV aUr a [p]) λq=>aC e (cf q) λr=>aD e (bv U) r λf=>aC f (aw 15 a b) λs=>aC f (fV FM a [s]) λt=>aC f (cf t) λu=>aD f (bv U) u λg=>aC g (aw 15 a b) λv=>aC g (fV FL a [v]) λw=>aC g (cf w) λx=>aD g (bv U) x λy=>ah y (aE R a [bv I])<|lR [iv 0]<|ad7 a b R
def aLF{b:List AV}{R:o8}(l0:L b=15)(h:H1 43 15 1 b λc d=>ad2 c d R):Ct 29 [.a b] R:=z1 auc Ex Tryz.func29 l0 h
def auo:=bi 30 [(7,([6],[2,3,5])),(15,([7],[2,3,5])),(23,([8],[2,3,5,7]))]
def aeI c a i g R(y:cG)(h:fD)(j:cG)(d:fD) b:=Rg->aU (gt b 0) (gt c 0) λk=>ah k (ab 14 a i λl=>ab 5 a g λm=>ao 1 a m (gt c 0) λn=>aM a n λo=>ao 7 a l o λp=>ab 0 a p λq=>ab 14 a i λr=>ab 5 a g λs=>ao 1 a s (gt b 0) λt=>aM a t λu=>ao 7 a r u λv=>ab 0 a v λw=>bf q w λx=>ah x (aE R a [bv I])<|aV (gt b 0) (iv 1) λe=>j [e]/\d [e]<d b) (aV (gt c 0) (iv 1) λf=>y [f]/\h [f]<h c)
def aeH s b d e R n o c:=Rg->aU (gt c 0) s λp=>ah p (ab 5 b d λq=>ao 1 b q (gt c 0) λr=>aM b r λt=>ab 5 b d λu=>ao 1 b u (iv 0) λv=>aM b v λw=>aU t w λa=>aC a (aw 15 b e) λx=>bn a 5 b d λy=>bX a (gt c 0) λz=>aC a (aV z<|iv 1) λA=>bX a s λB=>aC a (aO .rem A B) λC=>aC a (ao 1 b y C) λD=>aC a (aM b D) λf=>bn a 5 b d λg=>bX a (gt c 0) λh=>aC a (ao 1 b g h) λi=>aC a (aM b i) λj=>aC a (fV FN b [x,f,j]) λk=>aC a (cf k) λl=>aD a (bv U) l λm=>ah m (aE R b [bv I])<|lR [iv 0]<|aeI c b e d R n o)<|aE R b [bv U]
def aeJ p b c f R(g:cG)(d:fD) a:=Rg->aU (gt a 0) p λh=>ah h (ab 5 b c λi=>ao 1 b i (gt a 0) λj=>aM b j λk=>ab 14 b f λl=>aJ b l λm=>fV vt b [k,m] λn=>cf n λo=>ah o (aE R b [bv I])<|aV (gt a 0) (iv 1) λe=>g [e]/\d [e]<d a)<|lR [iv 0]<|aeH p b c f R
def aeG t a b R:=ab 5 b a λu=>aJ b u λh=>ab 1 b a λv=>aO .neq v (iv 0) λc=>bn c 2 b a λi=>aC c (aO .neq i<|iv 0) λj=>aD c (bv U) j λd=>bn d 3 b a λk=>aC d (aO .neq k<|iv 0) λl=>aD d (bv U) l λe=>bn e 4 b a λm=>aC e (aO .neq m<|iv 0) λn=>aD e (bv U) n λf=>bX f h λo=>aC f (aU o<|iv 2) λp=>aD f (bv U) p λg=>bX g h λq=>aC g (aO .gtr q<|iv 4) λr=>aD g (bv U) r λs=>ah s (aE R b [bv I])<|lR [iv 0]<|aeJ h b a t R
def aLR{b:List AV}{c:List AV}{R:o8}(l0:L b=15)(l1:L c=6)(h:H2 43 15 2 b 46 6 3 c λd e f=>aeG d e f R):Ct 83 [.a b, .a c] R:=z2 auo Ex Tryz.func83 l0 l1 h
structure jX(n:Nat)(s:aW):Prop where
 lo:L s.ak<=4
 dn:L s.done<=2
 th:L s.ay<=4
 rd:∀l∈s.ak,L l.bk<=4+n
theorem jX.mono{n m:Nat}{s:aW}(h:jX n s)(b:n<=m):jX m s:=⟨h.lo,h.dn,h.th,λl a=>by have:=h.rd l a;omega⟩
theorem jX.ni{n:Nat}{s:aW}(h:jX n s)(i:Int)(t:kw):jX n (ni s i t):=⟨h.lo,h.dn,by simp[Ab.ni];exact h.th,h.rd⟩
theorem jX.lk{n:Nat}{s:aW}(h:jX n s)(i:Int):L (cH s i).bk<=4+n:=by unfold cH gd;rw[eI];cases a:s.ak[i.toNat]? with|none=>exact mh _|some x=>exact h.rd x (by grind)
theorem jX.lC{n:Nat}{s:aW}(h:jX n s)(i:Int)(l:cg)(b:L l.bk<=4+n):jX n (lC s i l):=by refine⟨by simp[Ab.lC];exact h.lo,h.dn,h.th,λx a=>?_⟩;simp only[Ab.lC] at a;rcases CC a with a|rfl;exact h.rd x a;exact b
theorem jX.marks{n:Nat}:∀{l:List Int} {s:aW},jX n s->jX n (l.foldl (λs u=>Ab.ni s u {fA s u with cQ:=4}) s)|[],_,h=>h|u::l,s,h=>jX.marks (l:=l)<|h.ni u _
theorem aIP{a:List Int}{t:Int}:L (mP a [t])<=L a+1:=by have b:=Bh (l:=[]) (a:=a) (k:=L a)<|dA _;have c:=Bh (l:=jh [] a<|L a) (a:=[t]) (k:=1) (by simp);simp only[vw] at b;show L (jh (jh [] a<|L a) [t] 1)<=_;omega
theorem jX.apply{n:Nat}{s:aW}(h:jX n s)(w:br)(t kind nt lD:Int):jX (n+1) (cU w s t kind nt lD).1:=by have a:jX (n+1) s:=h.mono (by omega);have y:∀i,L (cH s i).bk<=4+n:=λi=>h.lk i;have x:∀i,L (cH s i).bk<=4+(n+1):=(by grind);unfold cU;by_cases p:kind=1;grind [jX.ni];rw[bA p];by_cases q:kind=2;grind [jX.ni];rw[bA q];by_cases r:kind=6\/kind=10;grind [jX.lC];rw[bA r];by_cases u:kind=7\/kind=11;grind [jX.lC];rw[bA u];by_cases v:kind=8;grind [jX.lC,aIP];rw[bA v];by_cases o:kind=9;rw[d7 o];refine a.lC _ _ ?_;grind [fZ,decide,cH,fJ];rw[bA o];by_cases b:kind=12;rw[d7 b];exact⟨a.lo,a.dn,a.th,a.rd⟩;rw[bA b];by_cases c:kind=13;rw[d7 c];exact⟨a.lo,a.dn,a.th,a.rd⟩;rw[bA c];by_cases d:kind=14;grind [jX.ni];rw[bA d];by_cases e:kind=15;grind [jX.ni];rw[bA e];by_cases f:kind=16;grind [jX.ni,jX.lC];rw[bA f];by_cases g:kind=17;grind [jX.ni,jX.lC];rw[bA g];by_cases j:kind=18;grind [jX.ni];rw[bA j];by_cases k:kind=19;grind [jX.marks];rw[bA k];by_cases l:kind=20;grind [jX.ni];rw[bA l];by_cases m:kind=22;rw[d7 m];exact⟨a.lo,by simp;exact a.dn,a.th,a.rd⟩;simp_all
structure vH(n:Nat)(s:mn):Prop where
 sy:jX n s.bm
 ce:L s.cells<=12
 fu:L s.bU<=2
 co:L s.count<=4
 cn:∀c∈s.count,0<=c/\c<=400+n
theorem vH.snB{n:Nat}{s:mn}(h:vH n s)(b:n<90000):GV s:=⟨λl a=>by have:=h.sy.rd l a;omega,by have:=h.sy.lo;omega,by have:=h.sy.dn;omega,by have:=h.sy.th;omega,by have:=h.ce;omega,by have:=h.fu;omega,by have:=h.co;omega⟩
theorem vH.step{n:Nat}{w:br}{s:mn}{e:aP}(h:vH n s)(d:n<90000):vH (n+1) (nD w s e):=by unfold nD;(cases C1 w s e);exact⟨⟨by simp[tw,wM],by simp[tw,wM],by simp[tw,wM],by simp[tw,wM]⟩,by simp[tw],by simp[tw],by simp[tw],by simp[tw]⟩;refine⟨h.sy.apply _ _ _ _ _,?_,?_,?_,?_⟩;have:=h.ce;grind [oc];have:=h.fu;grind [oc];have:=h.co;grind [oc,List.length_set];intro c a;simp only[vb,oc] at a;rcases CC a with a|rfl;have:=h.cn c a;omega;have b:0<=gd s.count e.aq.toNat/\gd s.count e.aq.toNat<=400+n:=(by unfold gd;rw[eI];cases f:s.count[e.aq.toNat]? with|none=>simp;omega|some x=>exact h.cn x<|by grind);grind [eM]
def yq{l:List Int}{n:Int}(h:lZ l n):∀j,j<L l->(j:Int)+1<=gd l j
 |0,a=>by have:=(h 0 a).1;omega
 |j+1,a=>by
  have b:=yq h j (by omega)
  have c:=(h (j+1) a).2.2 (by omega)
  grind
def aEw{l:List Int}{n:Int}(h:lZ l n)(d:0<=n):(L l:Int)<=n:=by rcases oD (L l) with a|a;omega;have b:=yq h (L l-1) (by omega);have c:=(h (L l-1)<|by omega).2.1;omega
def Ae(w:am)(j:Nat):Bool:=!gd w.init.bm.done j&&Q (gd w.init.bU j≠0)
def oh(w:am):Bool:=!mQ w.aQ||!fN w.aQ w.init||Q ((16:Int)<L w.ac)||!rM w||!uZ w||!ny w
def xH(w:am)(k:Nat):Bool:=!C1 w.aQ (cY w k) (gd w.ac k)||!Q (∀n∈(gd w.ac k).dI,qU w (gd w.ac k).aq n=U)||!Q (∀n∈(gd w.ac k).ep,qU w (gd w.ac k).aq n=U)
def Po(w:am):Bool:=!oh w&&(Q (∀j,j<L w.init.bU->Ae w j=I)&&Q (∀k,k<L w.ac->xH w k=I))
def hU(w:am):Prop:=L w.aQ.bC<4611686018427387904/\(∀l∈w.init.bm.ak,L l.bk<4611686018427387904)/\(∀e∈w.ac,vo e)/\L w.init.bU<4611686018427387904
theorem tC{w:am}(h:oh w=I):vH 0 w.init/\L w.ac<=16/\(∀c∈w.aQ.bC,aF (L w.aQ.ak) c.eg)/\L w.aQ.bC<=2/\fN w.aQ w.init=U:=by simp only[oh,cP,fK,sA] at h;obtain⟨⟨⟨⟨⟨d,a⟩,A⟩,B⟩,C⟩,f⟩:=h;have n:=d;simp only[mQ,bN,eH] at n;obtain⟨s,D⟩:=n;simp only[wJ,cP,sA] at s;have k:=a;simp only[fN,bN,j1] at k;obtain⟨p,x,y,z⟩:=iY k.1;have u:∀c∈w.init.count,0<=c/\c<=400:=(by grind [rM]);have g:∀c∈w.aQ.bC,aF (L w.aQ.ak) c.eg:=p;have v:∀l∈w.init.bm.ak,L l.bk<=4:=(by intro l r;obtain⟨j,m,rfl⟩:=ou r;simp only[ny,bN,j1] at f;have b:=(f.1 j m).2;rw[bT m] at b;have o:∀i,i<L (w.init.bm.ak[j]).bk->(i:Int)<=gd (w.init.bm.ak[j]).bk i:=(by intro i;induction i with|zero=>intro e;have:=(b 0 e).1;simp only[nO,bN] at this;have:=(dX.1 this.1).1;omega|succ i t=>intro e;have d:=t (by omega);have a:=(b (i+1) e).2 (by omega);grind);rcases oD (L (w.init.bm.ak[j]).bk) with q|q;omega;have d:=o (L (w.init.bm.ak[j]).bk-1) (by omega);have a:=(b (L (w.init.bm.ak[j]).bk-1)<|by omega).1;simp only[nO,bN] at a;have:=(dX.1 a.1).2;omega);refine⟨⟨⟨by omega,by omega,by omega,by omega⟩,by omega,by omega,by omega,by simp_all⟩,by omega,g,by omega,a⟩
theorem wK{w:am}(h:oh w=I):∀k,k<90000->vH k (cY w k)|0,_=>(tC h).1|k+1,a=>(wK h k<|by omega).step (by omega)
def aIw{w:br}{s:mn}{e:aP}(h:C1 w s e=U):lZ e.dI (gd s.count e.aq.toNat)/\lZ e.ep (gd s.count e.aq.toNat)/\aF (L s.count) e.aq/\L s.count=L w.ay:=by simp only[C1,eH,cP] at h;grind [bip,cP,fK,aOL,fN,dX]
theorem anH{l:List Int}{n:Int}(h:lZ l n)(b:0<=n)(d:n<=500):L l<1000000/\∀x∈l,-1000<=x/\x<9223372036854775808:=by refine⟨by have:=aEw h b;omega,λx c=>?_⟩;obtain⟨j,a,rfl⟩:=ou c;have e:=(h j a).1;have f:=(h j a).2.1;grind [bT]
def O8(w:am)(hp:hU w):Ct 29 [.a w.c] (·=bv (Po w)):=by refine aLF rfl λs2 hl u h0=>?_;obtain⟨p1,p2,p3,p4⟩:=hp;simp+contextual only[ad2,u0,u1,u,rk,ar,sX,aj,↓uL];have A:∀{a b:Bool},(!(a||b))=U->a=I/\b=I:=(by simp);have B:∀{a:Bool},(!a)=I->a=U:=(by simp);have aC:fN w.aQ w.init=U->L w.init.count=L w.aQ.ay/\L w.init.bm.ay=L w.aQ.ay/\L w.init.bm.ak=L w.aQ.ak/\(∀c∈w.aQ.bC,aF (L w.aQ.ak) c.eg):=(by intro h;simp only[fN,bN,j1] at h;obtain⟨f1,f2,f3,f4⟩:=iY h.1;exact⟨h.2.2.2,f4,f2,f1⟩);have aO:mQ w.aQ=U->L w.aQ.ay<=4/\L w.aQ.ak<=4:=(by grind [mQ,eH,wJ,cP,decide_eq_false_iff_not]);refine⟨λ_=>p1,λh=>?_,λh=>?_,λh=>?_,λh=>?_,λh=>?_⟩;grind;grind;grind;grind [oh,Po,fh];have S:oh w=I:=h;obtain⟨I0,aM,aG,aJ,aN⟩:=tC S;have hI:=wK S;have T:Po w=(Q (∀j,j<L w.init.bU->Ae w j=I)&&Q (∀k,k<L w.ac->xH w k=I)):=(by grind [Po,kN]);have aK:L w.init.bm.done=L w.init.bU:=(by grind [fN,iY]);refine C7 (L w.init.bU) (λk=>∀j,j<k->Ae w j=I) (by simp) λk hk E=>?_;simp+contextual only[ad7,u0,u1,u,rk,ix,aj,dc,bh,↓uL];refine⟨λm=>⟨by grind [dJ,aL],λ_=>vp m,λi=>?_,λi=>gS (aL m) p4<|aRN E i⟩,λm=>?_⟩;rw[T,zM (aL m) i,kM];have aD:∀j,j<L w.init.bU->Ae w j=I:=(by grind);refine eF rfl rfl (by decide) (by omega) λZ G N=>?_;have c1:box Z (1,1)=_:=G.bt u;have v4:(aZ s2 4).lB=0:=(by simp_all);rw[v4] at N⊢;refine⟨λvs Y=>∃(k:Nat) (ds:List AV),vs=[iv k]/\k<=L w.ac/\(∀j,j<k->xH w j=I)/\Lk ds (cY w k).c/\box Y (4,1)=V ⟨40,7,U,U,[ds]⟩/\Fr Z Y [4,6,7],fM<|L w.ac,⟨0,w.init.c,rfl,mh _,by simp,⟨rfl,rfl⟩,N,Fr.refl _ _⟩,?_⟩;rintro vs Y ⟨k,ds,rfl,hk,W,z,i,y⟩;have P:box Y (1,1)=_:=y.bt c1;have s:L Y=4096:=(by rw[y.1,G.1,hl]);have q:L ds=7:=oC z;have X:=Bi q;simp only[ad6,aI,u0,u1,P,rk,ix,aj,bh,↓uL];refine⟨λv=>⟨vp v,?_⟩,λv=>?_⟩;refine eF rfl rfl (by decide) (by omega) λH f K=>?_;have l:=aL v;have R:box H (1,1)=_:=f.bt P;have o:box H (4,1)=_:=f.bt i;simp only[ad5,u0,u1,R,o,K,X,rk,aj,↓uL];simp only[jM,kU,jt,zN,CU,z.arg,sX];obtain⟨q1,q2,q3,q4,q5,q6,q7⟩:=(hI k<|by omega).snB (by omega);obtain⟨r1,r2⟩:=p3 _<|dB l;refine⟨(by grind),?_⟩;rintro r ⟨n,rfl,e⟩;refine⟨.inl ?_,?_⟩;simp only[nA,Cu,Cv,x9 z];rfl;simp only[oJ,pG,aY,↓uL];refine eF rfl (oC e) (by decide) (by rw[f.1,s];decide) λt d O=>?_;have e3:box t (1,1)=_:=d.bt R;have p:box t (4,1)=_:=d.bt o;have M:box t (6,(aZ Y 6).lB+1)=_:=d.bt K;have F:=Bi<|oC e;simp+contextual only[ad4,u0,u1,e3,p,M,O,F,rk,aj,ar,sX,↓uL];have C:C1 w.aQ (cY w k) (gd w.ac k)=U->(L (gd w.ac k).dI<1000000/\∀x∈(gd w.ac k).dI,-1000<=x/\x<9223372036854775808)/\(L (gd w.ac k).ep<1000000/\∀x∈(gd w.ac k).ep,-1000<=x/\x<9223372036854775808)/\aF (L w.init.count) (gd w.ac k).aq:=(by intro hs;obtain⟨n1,n2,n3,n4⟩:=aIw hs;have aE:=(hI k<|by omega).cn _<|ii n3;grind [anH]);have D:∀c∈w.init.count,0<=c/\c<=400:=λc E=>(by have:=I0.cn c E;omega);refine⟨λg=>?_,λg=>?_,λg=>?_,λg=>?_⟩;grind;grind;rw[T,zM l g,qc];refine gN (cs:=n) p (by rw[d.1,f.1,s];decide) q (oC e) λY4 F4 b4=>?_;simp only[ID,au,cS,aY,↓uL];rw[fX<|by omega];refine⟨⟨k+1,n,rfl,l,aRN W g,e,b4,y.trans<|(f.mono<|by decide).trans<|(d.mono<|by decide).trans<|F4.mono<|by decide⟩,?_⟩;grind [fM,cM,bh];grind
def Cg:FT:=mT O8
def ayY{w Lw K}:=oK Cg O8 w Lw K
theorem aQA{w:am}(h:Po w=U):oh w=I/\∀k,k<L w.ac->C1 w.aQ (cY w k) (gd w.ac k)=U:=by grind [Po,eH,xH,cP,fK]
def Rr{w:am}(f:hU w)(h:Po w=U):kB w:=by obtain⟨e,g⟩:=aQA h;obtain⟨j,d,b,c,i⟩:=tC e;refine⟨d,c,b,λk a=>⟨(by grind [vH.snB,wK]),?_⟩,λk a=>⟨f.2.2.1 _<|dB a,g k a⟩⟩;grind [C1,eH,cP,aOL,fK]
def rO(g:cJ):Bool:=Q (g.ea≠0)||Q (g.eb≠0)||Q (g.ec≠0)||Q (g.ed≠0)||Q ((L g.cW:Int)<2)||Q (4<(L g.cW:Int))
def alP(g:cJ)(i:Nat):Int:=gd g.cW<|(i+1)%L g.cW
def rN(w:am)(g:cJ)(i:Nat):Bool:=Q (gd g.cW i<gd g.cW 0)||!aOj w (alP g i) (gd g.cW i)
def sP(w:am)(g:cJ)(i k:Nat):Bool:=Q<|(gd w.ac (gd g.cW i).toNat).aq=(gd w.ac (gd g.cW k).toNat).aq
def qx(w:am)(g:cJ):Bool:=!rO g&&(Q (∀j,j<L g.cW->dh (gd g.cW j) (L w.ac)=U)&&Q (∀i,i<L g.cW->rN w g i=I/\∀k,k<i->sP w g i k=I))
def aod{a b:Nat}(c:0<b):wl .rem 0 [] (iv a) (iv b)=V (iv ((a%b:Nat):Int)):=by show Sb AV.s (if dq=dq/\(b:Int)≠0 then V (.int .i64<|Int.tmod a b) else J)=_;grind
def Pm(w:am)(g:cJ)(G:kB w/\L g.cW<4611686018427387904):Ct 83 [.a w.c, .a g.c] (·=bv (qx w g)):=by refine aLR rfl rfl λS P r s O=>?_;obtain⟨H,K⟩:=G;have M:=H.ev;simp+contextual only[aeG,u0,u1,r,s,rk,ix,aj,↓uL];refine⟨λq=>?_,λq=>?_⟩;have:rO g=U:=(by simpa only[rO,yZ] using q);simp only[qx,this,fh,kM];have D:rO g=I:=(by simpa only[rO,yZ] using q);have N:2<=L g.cW/\L g.cW<=4:=(by simp only[rO,cP,sA] at D;omega);have u:qx w g=(Q (∀j,j<L g.cW->dh (gd g.cW j) (L w.ac)=U)&&Q (∀i,i<L g.cW->rN w g i=I/\∀k,k<i->sP w g i k=I)):=(by simp only[qx,D,kN,iw]);refine C7 (L g.cW) (λk=>∀j,j<k->dh (gd g.cW j) (L w.ac)=U) (by simp) λk F n=>?_;simp+contextual only[aeJ,u0,u1,r,s,rk,ix,aj,ar,sX,bh,↓uL];refine⟨λh=>⟨vp h,λd=>?_,λd=>gS (aL h) (by omega)<|a6p n<|by simpa using d⟩,λh=>?_⟩;have:¬∀j,j<L g.cW->dh (gd g.cW j) (L w.ac)=U:=λb=>(by rw[b k<|aL h] at d;cases d);rw[u,aQd this,kM];have f:∀j,j<L g.cW->aF (L w.ac) (gd g.cW j):=λj o=>dX.1<|n j<|C3 o<|bw h;have z:∀j,j<L g.cW->dh (gd g.cW j) (L w.ac)=U:=λj o=>n j<|C3 o<|bw h;refine C7 (L g.cW) (λk=>∀i,i<k->rN w g i=I/\∀m,m<i->sP w g i m=I) (by simp) λk F n=>?_;have A:wl .rem 0 [] (iv<|dq.wrap<|(k:Int)+1) (iv<|L g.cW)=V (iv (((k+1)%L g.cW:Nat):Int)):=(by rw[fX<|by omega];exact aod<|by omega);have p:(k+1)%L g.cW<L g.cW:=Nat.mod_lt _ (by omega);simp+contextual only[aeH,u0,u1,r,s,rk,ix,aj,ar,sX,bh,Gx,A,↓uL];refine⟨λe=>⟨vp e,⟨by omega,by omega⟩,λ_=>dJ p,λ_=>vp e,λ_=>⟨H,f _ p,f k<|aL e⟩,λd=>?_,λd=>?_⟩,λe=>?_⟩;have t:rN w g k=U:=d;have:¬∀i,i<L g.cW->rN w g i=I/\∀k,k<i->sP w g i k=I:=λb=>(by rw[(b k<|aL e).1] at t;cases t);rw[u,aQd this,qc];have t:rN w g k=I:=d;refine C7 k (λm=>∀j,j<m->sP w g k j=I) (by simp) λm R v=>?_;simp+contextual only[aeI,u0,u1,r,s,rk,ix,aj,bh,↓uL];have l:=aL e;refine⟨λy=>?_,λy=>?_⟩;have x:=aL y;refine⟨dJ l,f k l,dJ (by omega),f m (by omega),λB=>?_,λB=>gS x (by omega)<|aRN v B⟩;have:¬∀i,i<L g.cW->rN w g i=I/\∀k,k<i->sP w g i k=I:=λb=>(by have:=(b k l).2 m x;simp only[sP,B] at this;cases this);rw[u,aQd this,qc];refine gS l (by omega) λi E=>?_;rcases jj i k with C|C;exact n i C;obtain rfl:i=k:=(by omega);exact⟨t,λj o=>v j<|C3 o<|bw y⟩;have b:∀i,i<L g.cW->rN w g i=I/\∀k,k<i->sP w g i k=I:=λi E=>n i<|C3 E<|bw e;rw[u,aQl z,aQl b];rfl
def FQ:FT:=aIc Pm
def aza{w g Lw K}:=gX FQ Pm w g Lw K
def ao2:dO:=(29,Cg)::(83,FQ)::ao1
def wQ:eJ ao2:=it (pg O8)<|it (aCb Pm)<|Ex
def fsL:=ai @ayY<|ai @aza<|@sX
def aum:=bi 17 []
def aev f b a R:=ab 0 a b λO=>bf O (iv 2) λP=>ah P (aw 15 a f λS=>aw 6 a b λT=>fV FQ a [S,T] λi=>aE R a [i]) (ab 14 a f λj=>aJ a j λg=>ab 1 a b λk=>fV vt a [k,g] λl=>cf l λc=>bn c 2 a b λm=>bX c g λn=>aC c (fV vt a [m,n]) λo=>aC c (cf o) λp=>aD c (bv U) p λd=>bn d 3 a b λq=>bX d g λr=>aC d (fV vt a [q,r]) λs=>aC d (cf s) λt=>aD d (bv U) t λe=>bn e 4 a b λu=>bX e g λv=>aC e (fV vt a [u,v]) λw=>aC e (cf w) λx=>aD e (bv U) x λy=>ah y (aE R a [bv I])<|ab 0 a b λh=>bf h (iv 1) λz=>ah z (aw 15 a f λA=>aw 6 a b λB=>fV FU a [A,B] λC=>aE R a [C])<|bf h (iv 3) λD=>ah D (aw 15 a f λE=>aw 6 a b λF=>fV FR a [E,F] λG=>aE R a [G])<|bf h (iv 4) λH=>ah H (aw 15 a f λK=>aw 6 a b λM=>fV FP a [K,M] λN=>aE R a [N])<|aE R a [bv I])
def aLP{b:List AV}{c:List AV}{R:o8}(l0:L b=15)(l1:L c=6)(h:H2 43 15 2 b 46 6 3 c λd e f=>aev d e f R):Ct 40 [.a b, .a c] R:=z2 aum wQ Tryz.func40 l0 l1 h
structure Fx(Y Y':ae)(ks:List Id):Prop where
 len:L Y'=L Y
 keep:∀b x,b∉ks->box Y b=V x->box Y' b=V x
 lB:∀k,(aZ Y k).lB<=(aZ Y' k).lB
theorem Fx.refl(Y:ae)(ks:List Id):Fx Y Y ks:=⟨rfl,λ_ _ _ h=>h,λ_=>dA _⟩
theorem Fx.trans{Y Y' a:ae}{ks ks':List Id}(h:Fx Y Y' ks)(b:Fx Y' a ks'):Fx Y a (ks++ks'):=⟨b.len.trans h.len,(by grind [Fx.keep]),λk=>gl (h.lB k)<|b.lB k⟩
theorem Fx.mono{Y Y':ae}{ks ks':List Id}(h:Fx Y Y' ks)(a:∀b∈ks,b∈ks'\/∀x,box Y b≠V x):Fx Y Y' ks':=⟨h.len,(by grind [Fx.keep]),h.lB⟩
def Fx.kp{Y Y':ae}(h:Fx Y Y' []):Kp Y Y':=⟨h.len,h.lB,by grind [Fx.keep]⟩
theorem Kp.fx{Y Y':ae}(h:Kp Y Y')(ks:List Id):Fx Y Y' ks:=⟨h.len,(by grind [Kp.keep]),h.lB⟩
def bK(Y:ae)(b:Id):Prop:=(aZ Y b.1).lB<b.2
theorem bK.no{Y:ae}{b:Id}(h:bK Y b)(x:bY):box Y b≠V x:=(by grind [aOm,bK])
theorem bK.ne{Y:ae}{b c:Id}{x:bY}(h:bK Y b)(a:box Y c=V x):c≠b:=λe=>h.no x<|e▸a
theorem bK.old{Y Y':ae}{b:Id}{ks:List Id}(a:Fx Y Y' ks)(h:bK Y' b):bK Y b:=rC (a.lB _) h
def wc{Y:ae}{b:Id}{x x':bY}(a:box Y b=V x):Fx Y (wr Y b x') [b]:=by refine⟨uC,(by grind [DY]),λk=>?_⟩;grind [wr,iD,lN,jQ]
def Le{Y:ae}{b:Id}{x:bY}(a:box Y b=V x):Fx Y (kill Y b) [b]:=by refine⟨yg b,(by grind [Qc]),λk=>?_⟩;grind [kill,iD,lN,jQ]
theorem kH{Y:ae}{d:Nat}{x:bY}(a:d<L Y):Fx Y (put Y d x) []:=(am8 a).fx []
theorem qQ(Y:ae)(d:Nat):bK Y (lA Y d):=by simp[bK,lA]
def alI{e:TypeId}{z d:Nat}{a:List AV}{Y:ae}{K:be}(h:L a=z)(g:0<z)(b:d<L Y)(f:∀v Y',Fx Y Y' []->bK Y (d,v)->box Y' (d,v)=V ⟨e,z,U,U,[a]⟩->K (.p (d,v) 0 0) Y'):eV (bs e a Y d) K:=by have c:bs e a Y d=V (.p (lA Y d) 0 0,put Y d ⟨e,z,U,U,[a]⟩):=(by grind [bs,vg]);rw[c];exact f _ _ (kH b) (qQ Y d)<|iy b
theorem cy{Y:ae}{b:Id}{j z y:Nat}{e:TypeId}{o:Bool}{r cs:List AV}{x:AV}{K:ae->Prop}(a:box Y b=V ⟨e,z,o,U,[r]⟩)(g:eY x=V cs)(h:L cs=y)(f:j+y<=L r)(d:∀Y',Fx Y Y' [b]->box Y' b=V ⟨e,z,o,U,[r.take j++cs++r.drop (j+y)]⟩->K Y'):sV (aK y Y (.p b 0 j) x) K:=by have c:aK y Y (.p b 0 j) x=V (wr Y b ⟨e,z,o,U,[r.take j++cs++r.drop (j+y)]⟩):=(by grind [aK,aBG,pW,qh]);rw[c];exact d _ (wc a)<|lO a
def bc(Y:ae)(e:TypeId)(z:Nat)(a:AV)(aa:List<|List AV):Prop:=(aa=[]/\a= .l [] U U)\/∃b,a= .m b (L aa)/\box Y b=V ⟨e,z,U,I,aa⟩
def aA(a:AV):List Id:=match a with| .m b _=>[b]|_=>[]
theorem bc.nil{Y:ae}{e:TypeId}{z:Nat}:bc Y e z (.l [] U U) []:= .inl ⟨rfl,rfl⟩
theorem bc.fx{Y Y':ae}{ks:List Id}{e:TypeId}{z:Nat}{a:AV}{aa:List (List AV)}(f:bc Y e z a aa)(d:Fx Y Y' ks)(g:∀b∈aA a,b∉ks):bc Y' e z a aa:=by rcases f with h|⟨b,rfl,c⟩;exact .inl h;exact .inr ⟨b,rfl,d.keep b _ (g b<|by simp[aA]) c⟩
def gD{Y:ae}{e:TypeId}{z d i:Nat}{q:List AV}{a:AV}{aa new:List (List AV)}{t o:Bool}{K:be}(n:bc Y e z a aa)(u:L q=z)(v:0<z)(j:d<L Y)(y:∀r∈aa,L r=z)(x:∀r∈new,L r=z)(w:(L aa+L new)*(i+1)<=1099511627776)(h:∀g Y',bc Y' e z g (aa++new)->Fx Y Y' (aA a)->(∀b∈aA g,b∈aA a\/bK Y b)->(∀b∈aA g,b∈aA a\/b.1=d)->K g Y'):eV (cj e q i Y d a<|.l new t o) K:=by unfold cj;simp only[gL];by_cases m:L new=0;rw[d7 m];have p:new=[]:=(by simp_all);subst p;rcases n with⟨c,k⟩|⟨b,c,f⟩;subst c k;exact h _ _ (.inl ⟨rfl,rfl⟩) (Fx.refl _ _) (by simp[aA]) (by simp[aA]);subst c;simp only[f,df];exact h _ _ (.inr ⟨b,by simp,by simpa using f⟩) (Fx.refl _ _) (by simp[aA]) (by simp[aA]);rw[bA m,d7 ⟨by omega,by simp[vg,j],by simp_all⟩];rcases n with⟨c,k⟩|⟨b,c,f⟩;subst c k;simp only;rw[d7 ⟨by simp,by grind [lx]⟩];refine h _ _ (.inr ⟨lA Y d,by simp,?_⟩) ((kH j).mono<|by simp) (by grind [aA,qQ]) (by simp[aA,lA]);grind [iy];subst c;simp only[f];rw[d7 ⟨trivial,trivial,u.symm,dA _,by grind [lx]⟩];have s:d<L (kill Y b):=(by grind [yg]);refine h _ _ (.inr ⟨lA Y d,by simp,?_⟩) (((Le f).trans<|kH s).mono<|by simp[aA]) (by grind [aA,qQ]) (by simp[aA,lA]);grind [gV,anF,iy]
def lnI{Y:ae}{e:TypeId}{z:Nat}{a:AV}{aa:List (List AV)}(f:bc Y e z a aa):fS Y a=V (iv<|L aa):=by rcases f with⟨c,d⟩|⟨b,c,g⟩;subst c d;rfl;grind [fS]
def ms{Y:ae}{e:TypeId}{z:Nat}{a:AV}{aa:List (List AV)}(c:bc Y e z a aa):eY a=V [a]:=by rcases c with⟨_,rfl⟩|⟨b,rfl,_⟩<;>rfl
def yI{α:Type}(mk:α->Int->List AV)(n:Nat)(Inv:Nat->α->ae->Prop):aG:=λvs Y=>∃(k:Nat) (s:α),vs=mk s k/\k<=n/\Inv k s Y
def jD{α:Type}{B:(aG)->(bu)->aG}(mk:α->Int->List AV)(p n:Nat)(Inv:Nat->α->ae->Prop){s0:α}{a:ae}(b:Inv 0 s0 a)(h:∀(k:Nat) s Y,k<=n->Inv k s Y->B (yI mk n Inv) (gM p n) (mk s k) Y):lV (mk s0 0) a B:=⟨yI mk n Inv,gM p n,⟨0,s0,rfl,mh _,b⟩,by rintro vs Y ⟨k,s,rfl,d,c⟩;simp_all⟩
def dR{α:Type}{mk:α->Int->List AV}{p n k:Nat}{Inv:Nat->α->ae->Prop}{s s':α}{Y Y':ae}(c:∀s i,gt (mk s i) p=iv i)(a:k<n)(b:n<4611686018427387904)(hI:Inv (k+1) s' Y'):yI mk n Inv (mk s'<|dq.wrap<|(k:Int)+1) Y'/\gM p n (mk s'<|dq.wrap<|(k:Int)+1) Y'<gM p n (mk s k) Y:=by rw[fX<|by omega];refine⟨⟨k+1,s',rfl,a,hI⟩,?_⟩;grind [gM]
def r7A{a b c d e f g:AV}:aN (V 7) [a,b,c,d,e,f,g]=V (.a [a,b,c,d,e,f,g]):=rfl
def so{e:TypeId}{z d n:Nat}{a:List AV}{Y:ae}{K:be}(g:L Y=n)(c:∀v Y',Fx Y Y' []->bK Y (d,v)->box Y' (d,v)=V ⟨e,z,U,U,[a]⟩->K (.p (d,v) 0 0) Y')(h:L a=z:=by exact rfl)(b:0<z:=by decide)(f:d<n:=by decide):eV (bs e a Y d) K:=alI h b (g▸f) c
def Fx.kq{Y Y':ae}{ks:List Id}(h:Fx Y Y' ks){b:Id}{x:bY}(c:box Y b=V x)(a:b∉ks:=by simp):box Y' b=V x:=h.keep b x a c
def yV{B:(aG)->(bu)->aG}(n:Nat)(Inv:Nat->Unit->ae->Prop){a:ae}(b:Inv 0 () a)(h:∀(k:Nat) s Y,k<=n->Inv k s Y->B (yI (λ_ i=>[iv i]) n Inv) (gM 0 n) [iv k] Y):lV [iv 0] a B:=jD (λ_ i=>[iv i]) 0 n Inv (s0:=()) b h
def yU{n k:Nat}{Inv:Nat->Unit->ae->Prop}{Y Y':ae}(a:k<n)(hI:Inv (k+1) () Y')(b:n<4611686018427387904:=by omega):yI (λ_ i=>[iv i]) n Inv [iv<|dq.wrap<|(k:Int)+1] Y'/\gM 0 n [iv<|dq.wrap<|(k:Int)+1] Y'<gM 0 n [iv k] Y:=dR (mk:=λ_ i=>[iv i]) (s:=()) (s':=()) (λ_ _=>rfl) a b hI
def aFm{w:am}{n:AV}:aN J (am.c w++[n])=V (sl cA.c w.aQ.cells):=rfl
def aFu{w:am}{n:AV}:aN J ((am.c w++[n]).drop 2)=V (sl yp.c w.aQ.bC):=rfl
def aFs{w:am}{n:AV}:aN J ((am.c w++[n]).drop 14)=V (sl aP.c w.ac):=rfl
def aFt{w:am}{n:AV}:aN J ((am.c w++[n]).drop 15)=V (n):=rfl
def kj:=ai @aFm<|ai @aFu<|ai @aFs<|@aFt
def qC(w:am)(g:cJ):Bool:=
 bif Q (g.kind=2) then qx w g
 else(dh g.ea (L w.ac)&&(dh g.eb (L w.ac)&&(dh g.ec (L w.ac)&&dh g.ed (L w.ac))))&&
  (bif Q (g.kind=1) then Ek w g else bif Q (g.kind=3) then wz w g else bif Q (g.kind=4) then tZ w g else I)
def ck{a b:AV}{l:List AV}:gt (a::b::l) 1=b:=rfl
def nr{a b c:AV}{l:List AV}:gt (a::b::c::l) 2=c:=rfl
abbrev sB:Nat:=8
structure cm(Y:ae)(b:Id)(w:am)(ns:List aH8)(out:List<|List Int)(n a:AV):Prop where
 bx:box Y b=V ⟨0,17,U,U,[w.c++[n,a]]⟩
 nm:∃t o,n= .l (ns.map aH8.c) t o
 gr:bc Y 35 1 a (out.map λc=>[sl ci c])
 le:L Y=4096
 sb:b.1=sB
 sa:∀k∈aA a,k.1=11
theorem cm.ne{Y:ae}{b:Id}{w:am}{ns:List aH8}{out:List (List Int)}{n a:AV}(B:cm Y b w ns out n a):b∉aA a:=by rcases B.gr with⟨_,rfl⟩|⟨c,rfl,h⟩;simp[aA];simp only[aA,cE];intro e;subst e;have:=B.bx;simp_all
theorem cm.fx{Y Y':ae}{b:Id}{w:am}{ns:List aH8}{out:List (List Int)}{n a:AV}{ks:List Id}(B:cm Y b w ns out n a)(c:Fx Y Y' ks)(e:b∉ks)(f:∀k∈aA a,k∉ks):cm Y' b w ns out n a:=⟨c.keep _ _ e B.bx,B.nm,B.gr.fx c f,c.len.trans B.le,B.sb,B.sa⟩
def cm.kp{Y Y':ae}{b:Id}{w:am}{ns:List aH8}{out:List (List Int)}{n a:AV}(B:cm Y b w ns out n a)(c:Fx Y Y' []):cm Y' b w ns out n a:=B.fx c (by simp) (by simp)
def aS2{fn:Nat}{xs:List AV}{Y:ae}{d:Nat}{K:be}{v:Value}(i:uQ.elem fn=U)(h:∃r c,(r= .s v/\Fx Y c [])/\cZ aS GG fn xs Y r c)(g:K (.s v) Y):cB fn xs Y d K:=by obtain⟨r,c,⟨rfl,e⟩,f⟩:=h;refine⟨_,c,f,e.len,?_⟩;rw[d7<|show GG.rd fn=U from i];exact⟨e.kp,rfl,g⟩
structure Ad(Y Y1:ae)(b:Id)(a a1:AV):Prop where
 fx:Fx Y Y1 (b::aA a)
 id:∀k∈aA a1,k∈aA a\/bK Y k
theorem Ad.refl(Y:ae)(b:Id)(a:AV):Ad Y Y b a a:=⟨Fx.refl _ _,λk c=> .inl c⟩
theorem Ad.trans{Y e f:ae}{b:Id}{a g i:AV}(h:Ad Y e b a g)(j:Ad e f b g i):Ad Y f b a i:=by refine⟨(h.fx.trans j.fx).mono ?_,λk l=>?_⟩;grind [Ad.id,bK.no];rcases j.id k l with c|c;exact h.id k c;exact .inr<|c.old h.fx
theorem Ad.keep{Y e:ae}{b:Id}{a f:AV}(h:Ad Y e b a f){c:Id}{x:bY}(j:box Y c=V x)(g:c≠b)(i:c∉aA a):box e c=V x:=h.fx.keep c x (by simp[g,i]) j
def cm.nv{Y:ae}{b:Id}{w:am}{ns:List aH8}{out:List (List Int)}{n a:AV}(B:cm Y b w ns out n a){c:Id}{x:bY}(f:box Y c=V x)(g:x.var=U\/x.elem≠35):c∉aA a:=by rcases B.gr with⟨_,rfl⟩|⟨e,rfl,h⟩;simp[aA];grind [aA,cE]
section
variable{Y:ae}{b:Id}{w:am}{ns:List aH8}{out:List (List Int)}{n a:AV}{d:Nat}{K:be}
def a5Y{x:Int}:aX bH 1 Y [(0,iv x)]=V (.l ([x].map ci) U U,Y):=iz
def fi{x y:Int}:aX bH 2 Y [(0,iv x),(1,iv y)]=V (.l ([x,y].map ci) U U,Y):=by simp[aX,aly,eY,nrm,gK,eR,gi,eB,iR,kills,kC,eN,er,bH];rfl
def xA{x y z:Int}:aX bH 3 Y [(0,iv x),(1,iv y),(2,iv z)]=V (.l ([x,y,z].map ci) U U,Y):=by simp[aX,aly,eY,nrm,gK,eR,gi,eB,iR,kills,kC,eN,er,bH];rfl
def vR{x y z u:Int}:aX bH 4 Y [(0,iv x),(1,iv y),(2,iv z),(3,iv u)]=V (.l ([x,y,z,u].map ci) U U,Y):=by simp[aX,aly,eY,nrm,gK,eR,gi,eB,iR,kills,kC,eN,er,bH];rfl
end
def aEn{x:Int}:cR .neg (iv x)=V (iv<|dq.wrap<|-x):=by simp[cR]
structure bp where
 aq:Int
 dD:Int
 dY:Int
 read:Bool
 deriving Inhabited,DecidableEq
def bp.c(x:bp):List AV:=[iv x.aq,iv x.dD,iv x.dY,bv x.read]
theorem wL{Y:ae}{b:Id}{e:TypeId}{z i j:Nat}{aa:List (List AV)}{r:List AV}{v:Value}{K:ae->Prop}(c:box Y b=V ⟨e,z,U,I,aa⟩)(h:aa[i]?=V r)(k:j<L r)(g:∀Y',Fx Y Y' [b]->box Y' b=V ⟨e,z,U,I,aa.set i<|r.set j<|.s v⟩->K Y'):sV (aK 1 Y (.p b i j)<|.s v) K:=by have f:aK 1 Y (.p b i j) (.s v)=V (wr Y b ⟨e,z,U,I,aa.set i<|r.set j<|.s v⟩):=(by simp only[aK,aBG,c,eE,aPZ,eB,iR,kills,aRl,pW,eR,gi,nrm,gK,eY,h,bZ,vw];grind [eN,GP]);rw[f];exact g _ (wc c)<|lO c
def ixI{Y:ae}{e:TypeId}{z:Nat}{a:AV}{aa:List (List AV)}{K:o8}{i:Int}(h:bc Y e z a aa)(c:aF (L aa) i)(j:∀b,a= .m b (L aa)->box Y b=V ⟨e,z,U,I,aa⟩->K (.p b i.toNat 0)):rV (cz z Y a<|iv i) K:=by rcases h with⟨rfl,rfl⟩|⟨b,rfl,f⟩;have:=c.1;have:=c.2;grind;have g:i.toNat<L aa:=(by have:=c.1;have:=c.2;omega);simp only[cz,c.1,NA,f,qd,g,ld];exact j b rfl f
def AI{α:Type}{B:(aG)->(bu)->aG}(mk:α->Int->List AV)(p n c:Nat)(f:c<=n)(Inv:Nat->α->ae->Prop){s0:α}{e:ae}(g:Inv c s0 e)(h:∀(k:Nat) s Y,k<=n->Inv k s Y->B (yI mk n Inv) (gM p n) (mk s k) Y):lV (mk s0 c) e B:=⟨yI mk n Inv,gM p n,⟨c,s0,rfl,f,g⟩,by rintro vs Y ⟨k,s,rfl,j,i⟩;simp_all⟩
section
variable{Y:ae}{b:Id}{w:am}{ns:List aH8}{out:List (List Int)}{n a:AV}{d:Nat}{K:be}
def fF{l:List Int}:∀r∈l.map ci,L r=1:=by simp
end
def gA(Y:ae)(e:TypeId)(z:Nat)(a:AV)(aa:List<|List AV):Prop:=(∃o,a= .l aa U o)\/∃b,a= .m b (L aa)/\box Y b=V ⟨e,z,U,I,aa⟩
theorem gA.fx{Y Y':ae}{ks:List Id}{e:TypeId}{z:Nat}{a:AV}{aa:List (List AV)}(g:gA Y e z a aa)(f:Fx Y Y' ks)(i:∀b∈aA a,b∉ks):gA Y' e z a aa:=by rcases g with h|⟨b,rfl,c⟩;exact .inl h;exact .inr ⟨b,rfl,f.keep b _ (i b<|by simp[aA]) c⟩
section
variable{Y:ae}{b:Id}{w:am}{ns:List aH8}{out:List (List Int)}{n a:AV}{d:Nat}{K:be}
end
def Pj(w:am)(g:cJ)(b:kB w/\L g.cW<4611686018427387904):Ct 40 [.a w.c, .a g.c] (·=bv (qC w g)):=by refine aLP rfl rfl λk j d e i=>?_;have f:=b.1;have h:=b.2;simp+contextual only[aev,u0,u1,fsL,ar,ix,rk,d,e,aj,dc,f,h,bR,ld,qC,vb,aoC,↓uL];grind [dX]
def FO:FT:=aIc Pj
def ay8{w g Lw K}:=gX FO Pj w g Lw K
def bnu:dO:=(40,FO)::ao2
def bh1:eJ bnu:=it (aCb Pj)<|wQ
def boM:=ai @ay8<|@fsL
def aLb{a b:AV}{R:o8}(h:H0 λs0=>ac8 a b s0 R):Ct 199 [a,b] R:=z0 at1 bh1 Tryz.func199 h
def abL b h c R:=ab 0 c b λt4=>bf t4 (iv 3) λa=>aT a 1 c b λd=>fm a h λe=>az a (bf d e) λf=>aD a f (bv I) λg=>aE R c [g]
def aLa{b:List AV}{c:AV}{R:o8}(l0:L b=3)(h:H1 85 3 2 b λd e=>abL d c e R):Ct 231 [.a b,c] R:=z1 at1 bh1 Tryz.func231 l0 h
def au9:=bi 11 [(3,([8],[0,1,7]))]
def aj7 t1 s0 e f R(d:cG)(b:fD) a:=Rg->aU (gt a 0) t1 λt3=>ah t3 (ao 1 s0 e (gt a 0) λt4=>aM s0 t4 λg=>bf f g λh=>ah h (aE R s0 [gt a 0])<|aV (gt a 0) (iv 1) λc=>d [c]/\b [c]<b a)<|aE R s0 [iv<|-1]
def JR a b s0 R:=aJ s0 a λt1=>lR [iv 0]<|aj7 t1 s0 a b R
def aMC{a b:AV}{R:o8}(h:H0 λs0=>JR a b s0 R):Ct 138 [a,b] R:=z0 au9 bh1 Tryz.func138 h
def Zs a b R:=ab 1 b a λt4=>bf t4 (iv 3) λc=>bn c 1 b a λd=>aC c (bf d<|iv 4) λe=>aD c (bv U) e λf=>aE R b [f]
def aKH{b:List AV}{R:o8}(l0:L b=7)(h:H1 87 7 1 b λc d=>Zs c d R):Ct 234 [.a b] R:=z1 at1 bh1 Tryz.func234 l0 h
def atr:=bi 10 [(3,([4],[]))]
def aag R s0 a:=Rg->ah (gt a 0) (aE R s0 [bv U]) (aE R s0 [bv I])
def aah b(a:cG):=bf b (iv 6) λc=>ah c (a [c]) (bf b (iv 8) λt3=>ah t3 (a [t3])<|bf b (iv 10) λt4=>ah t4 (a [t4])<|bf b (iv 17) λd=>ah d (a [d])<|bf b (iv 21) λe=>a [e])
def aaf a s0 R:=jR 3 (aag R s0)<|aah a
def aKS{a:AV}{R:o8}(h:H0 λs0=>aaf a s0 R):Ct 235 [a] R:=z0 atr bh1 Tryz.func235 h
def OA(i n:Int):Ct 199 [iv i,iv n] (·=bv (dh i n)):=by refine aLb λs0 b a=>?_;simp+contextual only[ac8,u0,u1,dh,↓uL]
def ry:FT:=lI OA
def ayx{i n Lw K}:=nq ry OA i n Lw K
def Oz(t:kw)(c:Int):Ct 231 [.a t.c,iv c] (·=bv (Q (t.cQ=3)&&Q (t.cond=c))):=by refine aLa rfl λs0 e b d=>?_;simp+contextual only[abL,u0,u1,b,rk,aj,↓uL]
def BV:FT:=lI Oz
def ayw{t c Lw K}:=nq BV Oz t c Lw K
def NW(e:aP):Ct 234 [.a e.c] (·=bv (tT e)):=by refine aKH rfl λs0 f b d=>?_;simp+contextual only[Zs,u0,u1,b,rk,aj,tT,↓uL]
def BR:FT:=lH NW
def ax9{e Lw K}:=np BR NW e Lw K
def wW(k:Int):Bool:=Q (k=6)||(Q (k=8)||(Q (k=10)||(Q (k=17)||Q (k=21))))
def Oi(k:Int):Ct 235 [iv k] (·=bv (wW k)):=by refine aKS λs0 b a=>?_;simp only[aaf,↓uL];simp only[f8,aah,iM,aY,sw,↓uL];simp only[aag,aI,au,↓uL];simp+contextual only[↓iC,↓iB,↓iS,u0,u1,wW,hH,ld,↓uL]
def Fh:FT:=lH Oi
def ayj{k Lw K}:=np Fh Oi k Lw K
def oW(l:List Int)(n:Int):Int:=match l.findIdx? (λx=>Q<|x=n) with|some i=>i|none=> -1
theorem anR{l:List Int}{n:Int}{k:Nat}(b:k<L l)(h:∀j,j<k->gd l j≠n)(a:gd l k=n):oW l n=k:=by have:l.findIdx? (λx=>Q<|x=n)=V k:=(by grind [RL,bT]);rw[oW,this]
theorem anS{l:List Int}{n:Int}(h:∀j,j<L l->gd l j≠n):oW l n= -1:=by have:l.findIdx? (λx=>Q<|x=n)=J:=(by rw[GB];intro x a;have:=(px (p:=λx=>x≠n)).1 h x a;simp_all);rw[oW,this]
def PO(l:List Int)(n:Int)(e:L l<4611686018427387904):Ct 138 [sl ci l,iv n] (·=iv (oW l n)):=by refine aMC λs0 _ a=>?_;simp only[JR,aI,cT,aY,↓uL];refine C7 (L l) (λk=>∀j,j<k->gd l j≠n) (by simp) λk d c=>?_;simp+contextual only[aj7,JR,u0,u1,ix,rk,bh,au,aI,↓uL];refine⟨λh=>⟨vp h,λb=>?_,by grind [gS,aL]⟩,λh=>?_⟩;grind [anR,aL];grind [anS,C3,bw]
def Cq:FT:=aIc PO
def azA{l n Lw K}:=gX Cq PO l n Lw K
def api:dO:=(199,ry)::(231,BV)::(234,BR)::(235,Fh)::(138,Cq)::bnu
def sf:eJ api:=it (nI OA)<|it (nI Oz)<|it (nH NW)<|it (nH Oi)<|it (aCb PO)<|bh1
def aQS:=ai @ayx<|ai @ayw<|ai @ax9<|ai @ayj<|ai @azA<|@boM
abbrev aYq:List AV:=[sv [],iv 0]
def bnX:=bi 14 [(6,([35],[2,33,34]))]
def aa8 e m R b(f:aG)(c:bu) g a:=ab 1 a e λh=>ab 1 a m λi=>aJ a i λj=>fV ry a [h,j] λk=>cf k λl=>ah l (aE R a [bv I]) (aV (gt b 0) (iv 1) λd=>f [d] a/\c [d] a<c b g)
def Ip h g l R d e b a:=Rg->aU (gt b 0) h λi=>ah i (ao 2 a g (gt b 0) λj=>aw 2 a j λk=>eV (bs 146 aYq a 6) λc f=>sV (aK 2 f c k)<|aa8 c l R b d e a)<|aE R a [bv U]
def Io d e a R:=ab 0 a e λt=>aJ a t λu=>ab 1 a d λv=>aJ a v λg=>aO .neq u g λb=>bn b 2 a e λh=>aC b (aJ a h) λi=>bn b 3 a d λj=>aC b (aJ a j) λk=>aC b (aO .neq i k) λl=>aD b (bv U) l λc=>bn c 3 a e λm=>aC c (aJ a m) λn=>bn c 4 a d λo=>aC c (aJ a o) λp=>aC c (aO .neq n p) λq=>aD c (bv U) q λr=>ah r (aE R a [bv I]) (ab 2 a d λf=>aJ a f λs=>lV [iv 0] a<|Ip s f d R)
def aK4{b:List AV}{c:List AV}{R:o8}(l0:L b=6)(l1:L c=4)(h:H2 31 6 2 b 36 4 3 c λd e f=>Io d e f R):Ct 150 [.a b, .a c] R:=z2 bnX sf Tryz.func150 l0 l1 h
def abg a f g R b:=Rg->ah (gt b 0) (ab 3 a f λc=>aJ a c λd=>fV ry a [g,d] λe=>aE R a [e]) (aE R a [bv I])
def abe a b d R h c:=Rg->ah (gt c 0) (ab 4 a b λe=>aJ a e λf=>fV ry a [d,f] λg=>aE R a [g]) (jR 30 (abg a b d R)<|ado h)
def abd a b e R d c:=Rg->ah (gt c 0) (ab 2 a b λf=>aJ a f λg=>fV ry a [e,g] λh=>aE R a [h]) (jR 27 (abe a b e R d)<|adm d)
def abc a c d R f e:=Rg->ah (gt e 0) (ab 1 a c λg=>aJ a g λh=>fV ry a [d,h] λb=>aT b 1 a c λi=>fm b d λj=>az b (ao 2 a i j) λk=>aT b 1 a k λl=>aD b l (bv I) λm=>aE R a [m]) (jR 22 (abd a c d R f)<|adl f)
def abb b c d R f e:=Rg->ah (gt e 0) (ab 1 b c λg=>aJ b g λh=>fV ry b [d,h] λa=>aT a 1 b c λi=>fm a d λj=>az a (ao 2 b i j) λk=>aT a 1 b k λl=>az a (cf l) λm=>aD a m (bv I) λn=>aE R b [n]) (jR 17 (abc b c d R f)<|adk f)
def aba a b d R c e:=Rg->ah (gt e 0) (ab 0 a b λf=>aJ a f λg=>fV ry a [d,g] λh=>aE R a [h]) (jR 14 (abb a b d R c)<|adj c)
def abf b R c e a d:=Rg->ah (gt d 0) (bf b (iv<|-1) λt4=>aE R c [t4]) (jR 11 (aba c e b R a)<|adi a)
def aa9 b a c d R:=jR 3 (abf c R d b a)<|adn a
def aK5{b:List AV}{c d:AV}{R:o8}(l0:L b=6)(h:H1 31 6 3 b λe f=>aa9 e c d f R):Ct 226 [.a b,c,d] R:=z1 at3 sf Tryz.func226 l0 h
def aj1 a b s0 R:=fV Cq s0 [a,b] λt1=>aO .geq t1 (iv 0) λc=>aE R s0 [c]
def aMz{a b:AV}{R:o8}(h:H0 λs0=>aj1 a b s0 R):Ct 137 [a,b] R:=z0 at1 sf Tryz.func137 h
def ZS h t3 t4 z x A C D i y j b B c k R a:=dH [bo h,bo t3,bo t4,km,lb U [z,x] [],bo A,bo h,bo C,bo D,km,lb U [i,y] [],bo j,lb I [] [7],lb I [] [8],lb I [b,B] [],lb I [c,k] []] [(0,12),(1,12),(2,12),(3,12),(4,12),(5,12),(6,12),(7,12),(8,12),(9,12),(10,12),(11,12),(0,13),(1,13),(2,13),(3,13),(4,13),(5,13),(6,13),(7,13),(8,13),(9,13),(10,13),(11,13),(12,13),(6,14),(7,14),(8,14),(9,14),(10,14),(11,14)] (aw 7 a b λl=>fV BR a [l] λf=>az f (aw 7 a c) λm=>az f (fV BR a [m]) λn=>aD f n (bv I) λe=>aT e 2 a b λo=>aT e 2 a c λp=>az e (bf o p) λq=>aD e q (bv I) λd=>aT d 1 a b λr=>az d (bf r<|iv 4) λs=>fm d s λg=>bn g 1 a c λt=>aC g (bf t<|iv 4) λu=>az d (aD g (bv U) u) λv=>aD d v (bv I) λw=>aE R a [w])
def ZT a b g t3 t4 j h k m n e i f c l R d:=sV (aK 7 d a b)<|ZS g t3 t4 j h k m n e i f c l a b R
def ZU a g f h t3 t4 k i l m n d j e R b c:=sV (aK 7 c a g)<|ZT b f h t3 t4 k i l m n d j e a g R
def ZV k e f t3 t4 i g j l m c h d R a b:=eV (bs 87 NY b 8)<|ZU a k e f t3 t4 i g j l m c h d R
def ZR b e f a R:=aB 0 a b λt3=>aB 14 a t3 λt4=>aM a t4 λh=>ao 7 a h e λi=>aw 7 a i λl=>aB 0 a b λj=>aB 14 a j λk=>aM a k λc=>ao 7 a c f λd=>aw 7 a d λg=>eV (bs 87 NY a 7)<|ZV l g b t3 t4 h e i j k c f d R
def aKM{b:List AV}{c d:AV}{R:o8}(l0:L b=16)(h:H1 174 16 3 b λe f=>ZR e c d f R):Ct 205 [.a b,c,d] R:=z1 aur sf Tryz.func205 l0 h
def atq:=bi 11 [(3,([9],[2,7,8]))]
def aae t3 a o m R(n:cG)(e:fD) b:=Rg->aU (gt b 0) t3 λp=>ah p (ao 1 a o (gt b 0) λq=>aM a q λl=>aU l (iv 0) λc=>bX c l λf=>aC c (aB 0 a m) λg=>bn c 14 a g λh=>aC c (aJ a h) λi=>aC c (aO .geq f i) λj=>aD c (bv U) j λk=>ah k (aE R a [bv I])<|aV (gt b 0) (iv 1) λd=>n [d]/\e [d]<e b)<|aE R a [bv U]
def aad c a b R:=aJ b a λt3=>lR [iv 0]<|aae t3 b a c R
def aKR{b:List AV}{c:AV}{R:o8}(l0:L b=16)(h:H1 174 16 2 b λd e=>aad d c e R):Ct 156 [.a b,c] R:=z1 atq sf Tryz.func156 l0 h
def Ow(w:br)(s:aW)(f:lh w s=U/\L w.bC<=2):Ct 150 [.a w.c, .a s.c] (·=bv U):=by refine aK4 rfl rfl λs0 o b j u=>?_;obtain⟨n,q,r,t⟩:=iY f.1;have p:=f.2;simp+contextual only[Io,u0,u1,b,j,rk,ix,cT,aj,↓uL];refine⟨(by simp_all),λ_=>?_⟩;refine pQ (L w.bC) [6] (λk=>True) trivial λk Y x v e=>?_;have d:box Y (2,1)=_:=e.bt b;simp+contextual only[Ip,u0,u1,d,ix,rk,bh,au,aI,aj,↓uL];refine⟨λh=>⟨vp h,?_⟩,λh=>trivial⟩;refine eF rfl rfl (by decide) (by rw[e.1,o];decide) λi g l=>?_;have m:box i (2,1)=_:=g.bt d;simp+contextual only[aa8,Ip,Io,u0,u1,m,l,rk,ar,aQS,cT,aj,au,↓uL];have y:dh (gd w.bC k).eg (L w.ak)=U:=dX.2<|n _<|dB<|aL h;grind [oL,aL,Fr.trans]
def zf:FT:=aIc Ow
def ayt{w s Lw K}:=gX zf Ow w s Lw K
def Ox(w:br)(kind nt:Int):Ct 226 [.a w.c,iv kind,iv nt] (·=bv (named w kind nt)):=by refine aK5 rfl λf e b d=>?_;simp only[aa9,↓uL];simp only[f8,adn,iM,aY,sw,↓uL];simp only[abf,aI,au,↓uL];simp only[f8,adi,iM,aY,sw,↓uL];simp only[aba,aI,au,↓uL];simp only[f8,adj,iM,aY,sw,↓uL];simp only[abb,aI,au,↓uL];simp only[f8,adk,iM,aY,sw,↓uL];simp only[abc,aI,au,↓uL];simp only[f8,adl,iM,aY,sw,↓uL];simp only[abd,aI,au,↓uL];simp only[f8,adm,iM,aY,sw,↓uL];simp only[abe,aI,au,↓uL];simp only[f8,ado,iM,aY,sw,↓uL];simp only[abg,aI,au,↓uL];simp+contextual only[↓iC,↓iB,↓iS,u0,u1,aQS,ar,b,rk,ix,cT,aj,named,vb,aoC,DR,hH,ld,↓uL]
def Ft:FT:=za Ox
def ayu{w kind nt Lw K}:=KP Ft Ox w kind nt Lw K
theorem aE7{l:List Int}{n:Int}:Q (0<=oW l n)=Q (n∈l):=by grind [oW,decide,List.findIdx?_isSome,tL,Option.isSome_iff_exists,GB,decide_eq_false_iff_not]
def PN(l:List Int)(n:Int)(b:L l<4611686018427387904):Ct 137 [sl ci l,iv n] (·=bv (Q<|n∈l)):=by refine aMz λs0 _ a=>?_;simp+contextual only[aj1,u0,u1,ar,aQS,↓uL];grind [aE7]
def zl:FT:=aIc PN
def azz{l n Lw K}:=gX zl PN l n Lw K
structure jY where
 w:am
 ss:List aW
 deriving Inhabited,DecidableEq
def jY.c(x:jY):List AV:=x.w.c++[sl aW.c x.ss]
def j9{x y:jY}:(jY.c x=jY.c y)=(x=y):=by apply u5;constructor;intro h;obtain⟨d,xs⟩:=x;obtain⟨e,ys⟩:=y;have a:d.c=e.c:=(aqH h<|by simp[am.c]).1;have b:=(aqH h<|by simp[am.c]).2;simp only[bo0] at a;simp only[kO,tn,amV] at b;rw[a,b];intro h;rw[h]
def ND{l:List aW}{i:Int}{Y:ae}{K:o8}:rV (cz 4 Y (sl aW.c l)<|iv i) K=(aF (L l) i/\K (.q<|aW.c<|gd l i.toNat)):=aBz λ_=>rfl
def Oc(x:jY)(i j:Int)(h:aF (L x.w.ac) i/\aF (L x.w.ac) j):Ct 205 [.a x.c,iv i,iv j] (·=bv (nh (gd x.w.ac i.toNat)<|gd x.w.ac j.toNat)):=by refine aKM rfl λy b f A=>?_;have f:box y (3,1)=V ⟨174,16,U,U,[x.w.c++[sl aW.c x.ss]]⟩:=f;have q:=f;simp+contextual only[ZR,u0,u1,q,kj,ix,rk,aj,↓uL];refine⟨h.1,h.2,?_⟩;refine mo b λz d o=>?_;simp only[ZV,↓uL];refine mo (d.1.trans b) λl e p=>?_;simp only[ZU,↓uL];have r:box l (7,_)=_:=e.bt o;refine gN (cs:=aP.c<|gd x.w.ac i.toNat) r (by rw[e.1,d.1,b];decide) rfl rfl λm g s=>?_;have t:box m (8,_)=_:=g.bt p;simp only[ZT,↓uL];refine gN (cs:=aP.c<|gd x.w.ac j.toNat) t (by rw[g.1,e.1,d.1,b];decide) rfl rfl λn k v=>?_;have u:box n (7,_)=_:=k.bt s;simp only[ZS,↓uL];refine dT rfl ?_;simp+contextual only[u0,u1,u,v,rk,ar,aQS,aj,nh,hH,ld,BI,↓uL]
def zd:FT:=qe Oc
def aye{x i j Lw K}:=sT zd Oc x i j Lw K (j:=by simp+contextual only[ij,j9])
def Oh(x:jY)(l:List Int)(q:L l<100000):Ct 156 [.a x.c,sl ci l] (·=bv (l.all λi=>dh i<|L x.w.ac)):=by refine aKR rfl λm p e n=>?_;have b:box m (2,1)=V ⟨174,16,U,U,[x.w.c++[sl aW.c x.ss]]⟩:=e;simp+contextual only[aad,u0,u1,b,kj,ix,rk,aj,cT,↓uL];refine C7 (L l) (λk=>∀j,j<k->aF (L x.w.ac) (gd l j)) (by simp) λk o f=>?_;simp+contextual only[aae,aI,u0,u1,ix,rk,bh,au,b,kj,aj,cT,↓uL];refine⟨λh=>⟨vp h,λd=>?_,λd=>gS (aL h) (by omega)<|a6p f ?_⟩,λh=>?_⟩;grind [dh,List.all_eq_false,dB,aL,dX,aF];simp only[cP,sA] at d;exact⟨by omega,by omega⟩;have:(l.all λi=>dh i<|L x.w.ac)=U:=dV.2 λy g=>dX.2 (px.1 (by grind) y g);rw[this]
def wZ:FT:=aIc Oh
def ayi{x l Lw K}:=gX wZ Oh x l Lw K (j:=by simp+contextual only[ij,j9])
def apj:dO:=(150,zf)::(226,Ft)::(137,zl)::(205,zd)::(156,wZ)::api
def rf:eJ apj:=it (aCb Ow)<|it (Rs Ox)<|it (aCb PN)<|it (tE Oc)<|it (aCb Oh)<|sf
def rW:=ai @ayt<|ai @ayu<|ai @azz<|ai @aye<|ai @ayi<|@aQS
def atH:=bi 35 [(9,([60],[2,4,5,6,11])),(22,([109],[2,4,5,6,11]))]
def abI a b e d R c E n:=Rg->ah (gt n 0) (ab 0 a b λo=>ao 2 a o e λp=>ab 0 a p λq=>bf q d λr=>aE R a [r]) (bf c (iv 9) λs=>ah s (ab 0 a b λt=>ao 2 a t e λu=>ab 1 a u λv=>fV zl a [v,d] λw=>aE R a [w])<|bf c (iv 12) λx=>ah x (ab 1 a b λy=>bf y (iv<|-1) λz=>aE R a [z])<|bf c (iv 13) λA=>ah A (ab 1 a b λB=>bf B d λC=>aE R a [C])<|bf c (iv 14) λD=>ah D (ab 3 a b λf=>ao 3 a f d λg=>ab 2 a g λh=>cf h λi=>aE R a [i])<|bf c (iv 15) λj=>ah j (ab 3 a b λk=>ao 3 a k d λl=>ab 2 a l λm=>aE R a [m])<|jR 22 (acR a b E e d R c)<|acT c)
def abG G d g f e a R:=bf f (iv 6) λH=>ah H (ab 0 a d λK=>ao 2 a K e λM=>ab 0 a M λh=>bf h (iv<|-1) λi=>aE R a [i]) (bf f (iv 10) λj=>ah j (ab 0 a d λk=>ao 2 a k e λl=>ab 0 a l λm=>bf m (iv<|-1) λc=>aT c 0 a d λn=>fm c e λo=>az c (ao 2 a n o) λp=>aT c 1 a p λq=>az c (aJ a q) λr=>az c (bf r<|iv 0) λs=>aD c s (bv I) λt=>aE R a [t])<|bf f (iv 8) λu=>ah u (ab 0 a d λv=>ao 2 a v e λw=>ab 0 a w λx=>bf x (iv<|-1) λb=>aT b 0 a d λy=>fm b e λz=>az b (ao 2 a y z) λA=>aT b 1 a A λB=>fm b g λC=>az b (fV zl a [B,C]) λD=>az b (cf D) λE=>aD b E (bv I) λF=>aE R a [F])<|jR 9 (abI a d e g R f G)<|acA f)
def aK9{b:List AV}{c:List AV}{d e f:AV}{R:o8}(l0:L b=6)(l1:L c=4)(h:H2 31 6 5 b 36 4 6 c λg i j=>abG g i d e f j R):Ct 227 [.a b, .a c,d,e,f] R:=z2 atH rf Tryz.func227 l0 l1 h
def ato:=bi 6 []
def Z8 e f g h z i k l m A n c j d o R a:=dH [bo e,bo f,bo g,km,lb U [h,z] [],bo i,bo e,bo k,bo l,km,lb U [m,A] [],bo n,lb I [] [7],lb I [] [8],lb I [c,j] [],lb I [d,o] []] [(0,12),(1,12),(2,12),(3,12),(4,12),(5,12),(6,12),(7,12),(8,12),(9,12),(10,12),(11,12),(0,13),(1,13),(2,13),(3,13),(4,13),(5,13),(6,13),(7,13),(8,13),(9,13),(10,13),(11,13),(12,13),(6,14),(7,14),(8,14),(9,14),(10,14),(11,14)] (ab 0 a c λp=>ab 0 a d λq=>aO .neq p q λb=>az b (aB 0 a e) λr=>az b (aB 0 a r) λs=>aT b 0 a s λt=>aT b 2 a c λu=>az b (ao 5 a t u) λv=>aT b 3 a v λw=>az b (cf w) λx=>aD b x (bv I) λy=>aE R a [y])
def Z9 a b n e f g o h j k l p m c i R d:=sV (aK 7 d a b)<|Z8 n e f g o h j k l p m c i a b R
def aaa a b m n e f g o h i j k p l R c d:=sV (aK 7 d a b)<|Z9 c m n e f g o h i j k p l a b R
def aab g l m c d e n f h i j o k R a b:=eV (bs 87 NY b 8)<|aaa a g l m c d e n f h i j o k R
def aac t3 d e c R t4 a:=fV wZ a [t3,t4] λy=>cf y λf=>bX f d λz=>bX f e λo=>aC f (aO .geq z o) λp=>aD f (bv U) p λb=>aC b (aw 16 a c) λq=>bX b d λr=>bX b e λs=>aC b (fV zd a [q,r,s]) λt=>aC b (cf t) λu=>aD b (bv U) u λv=>ah v (aE R a [bv I]) (aB 0 a c λg=>aB 14 a g λh=>aM a h λi=>ao 7 a i d λj=>aw 7 a j λw=>aB 0 a c λk=>aB 14 a k λl=>aM a l λm=>ao 7 a m e λn=>aw 7 a n λx=>eV (bs 87 NY a 7)<|aab w x c g h i d j k l m e n R)
def Z7 a b c d R:=aw 16 d a λt3=>eV (aX bH 2 d [(0,b),(1,c)])<|aac t3 b c a R
def aKP{b:List AV}{c d:AV}{R:o8}(l0:L b=16)(h:H1 174 16 3 b λe f=>Z7 e c d f R):Ct 153 [.a b,c,d] R:=z1 ato rf Tryz.func153 l0 h
def atj:=bi 17 [(6,([9,10],[1,3,8])),(8,([39],[1,3,7,8,9,10,38]))]
def Ig e d f R a:=ab 0 a e λg=>ab 0 a d λh=>bf g h λb=>bX b (gt f 1) λi=>bX b i λc=>aT c 1 a e λj=>aT c 0 a d λk=>az c (fV zl a [j,k]) λl=>aC b (aD c l<|bv I) λm=>aD b (bv U) m λn=>aE R a [n]
def ZM a k l d R b:=Rg->ab 15 a k λf=>ao 4 a f l λg=>ab 0 a g λh=>ao 2 a h (gt b 0) λi=>aw 2 a i λj=>eV (bs 186 aPz a 11) λc e=>sV (aK 2 e c j)<|Ig c d b R
def ZN(b:cG) e d a t c f R g:=Rg->ah (gt g 0) (b [e,bv U]) (bf d (iv 8) λh=>ah h (b [e,bv I])<|bf d (iv 17) λi=>ah i (aB 0 a t λj=>aB 0 a j λk=>ab 2 a k λl=>ab 2 a c λm=>ao 2 a l m λn=>ab 1 a n λo=>b [o,bv I])<|bf d (iv 21) λp=>ah p (ab 2 a c λq=>ab 0 a f λr=>bf q r λs=>aE R a [s])<|aE R a [bv I])
def ZP b(a:cG):=bf b (iv 6) λc=>ah c (a [c]) (bf b (iv 10) λd=>a [d])
def ZO b a f g d R e:=ab 1 b a λc=>jR 8 (ZN e f c b g a d R)<|ZP c
def ZI e t3 t4 r q s u v g f h c t b i R a:=dH [bo e,bo t3,bo t4,km,lb U [r,q] [],bo s,bo e,bo u,bo v,km,lb U [g,f] [],bo h,lb I [] [7],lb I [] [8],lb I [c,t] [],lb I [b,i] []] [(0,12),(1,12),(2,12),(3,12),(4,12),(5,12),(6,12),(7,12),(8,12),(9,12),(10,12),(11,12),(0,13),(1,13),(2,13),(3,13),(4,13),(5,13),(6,13),(7,13),(8,13),(9,13),(10,13),(11,13),(12,13),(6,14),(7,14),(8,14),(9,14),(10,14),(11,14)] (ab 0 a c λj=>ab 0 a b λk=>bf j k λd=>bn d 1 a b λl=>aC d (fV Fh a [l]) λm=>aC d (cf m) λn=>aD d (bv U) n λo=>ah o (aE R a [bv I])<|ab 2 a c λp=>jR 6 (ZM a e f b R)<|ZO a c p e b R)
def ZJ a b g t3 t4 j i k m n e h f c l R d:=sV (aK 7 d a b)<|ZI g t3 t4 j i k m n e h f c l a b R
def ZK a g f h t3 t4 k j l m n d i e R b c:=sV (aK 7 c a g)<|ZJ b f h t3 t4 k j l m n d i e a g R
def ZL k e f t3 t4 i h j l m c g d R a b:=eV (bs 87 NY b 8)<|ZK a k e f t3 t4 i h j l m c g d R
def ZH b e f a R:=aB 0 a b λt3=>aB 14 a t3 λt4=>aM a t4 λh=>ao 7 a h f λi=>aw 7 a i λl=>aB 0 a b λj=>aB 14 a j λk=>aM a k λc=>ao 7 a c e λd=>aw 7 a d λg=>eV (bs 87 NY a 7)<|ZL l g b t3 t4 h f i j k c e d R
def aKK{b:List AV}{c d:AV}{R:o8}(l0:L b=16)(h:H1 174 16 3 b λe f=>ZH e c d f R):Ct 206 [.a b,c,d] R:=z1 atj rf Tryz.func206 l0 h
def atn:=bi 21 [(10,([69],[1,3,7,8,67,68]))]
def Z0 f e R c(j:aG)(d:bu) k a:=ab 0 a f λg=>ab 0 a e λh=>bf g h λi=>ah i (aE R a [bv I]) (aV (gt c 0) (iv 1) λb=>j [b] a/\d [b] a<d c k)
def Z6 w v c R A B e s t d a:=Rg->aU (gt d 0) w λx=>ah x (ao 7 a v (gt d 0) λy=>aw 7 a y λz=>eV (bs 87 NY a 10) λf u=>sV (aK 7 u f z)<|Z0 f c R d s t a) (ab 15 a A λg=>ao 4 a g B λh=>ab 3 a h λi=>ab 0 a c λj=>ao 3 a i j λk=>ab 0 a k λl=>aO .neq l (iv 3) λm=>ah m (aE R a [bv I])<|ab 1 a e λn=>bf n (iv 19) λb=>bn b 3 a e λo=>bn b 0 a c λp=>aC b (bf o p) λq=>aD b (bv U) q λr=>aE R a [r])
def Z1 f l m n j o q r s k t b p c u R a:=dH [bo f,bo l,bo m,km,lb U [n,j] [],bo o,bo f,bo q,bo r,km,lb U [s,k] [],bo t,lb I [] [7],lb I [] [8],lb I [b,p] [],lb I [c,u] []] [(0,12),(1,12),(2,12),(3,12),(4,12),(5,12),(6,12),(7,12),(8,12),(9,12),(10,12),(11,12),(0,13),(1,13),(2,13),(3,13),(4,13),(5,13),(6,13),(7,13),(8,13),(9,13),(10,13),(11,13),(12,13),(6,14),(7,14),(8,14),(9,14),(10,14),(11,14)] (ab 1 a b λv=>aO .neq v (iv 18) λg=>aT g 1 a b λw=>az g (aO .neq w<|iv 19) λx=>aD g x (bv I) λh=>bn h 1 a c λy=>aC h (aO .neq y<|iv 16) λz=>aD h (bv U) z λd=>bn d 2 a b λA=>bn d 2 a c λB=>aC d (aO .neq A B) λC=>aD d (bv U) C λe=>bn e 0 a b λD=>bn e 0 a c λE=>aC e (bf D E) λF=>aD e (bv U) F λG=>ah G (aE R a [bv I])<|aB 0 a f λH=>ab 14 a H λK=>aV k (iv 1) λM=>rV (fo 7 a K (V M) (V j) J) λi=>aJ a i λN=>lV [iv 0] a<|Z6 N i c R f j b)
def Z2 a b n e f g o h j k l p m c i R d:=sV (aK 7 d a b)<|Z1 n e f g o h j k l p m c i a b R
def Z3 a b m n e f g o h i j k p l R c d:=sV (aK 7 d a b)<|Z2 c m n e f g o h i j k p l a b R
def Z4 g l m c d e n f h i j o k R a b:=eV (bs 87 NY b 8)<|Z3 a g l m c d e n f h i j o k R
def Z5 t3 m l R b t4 a:=fV wZ a [t3,t4] λs=>cf s λc=>bX c m λt=>bX c l λn=>aC c (aO .geq t n) λo=>aD c (bv U) o λp=>ah p (aE R a [bv I]) (aB 0 a b λd=>aB 14 a d λe=>aM a e λf=>ao 7 a f l λg=>aw 7 a g λq=>aB 0 a b λh=>aB 14 a h λi=>aM a i λj=>ao 7 a j m λk=>aw 7 a k λr=>eV (bs 87 NY a 7)<|Z4 q r b d e f l g h i j m k R)
def ZZ a b c d R:=aw 16 d a λt3=>eV (aX bH 2 d [(0,b),(1,c)])<|Z5 t3 c b R a
def aKO{b:List AV}{c d:AV}{R:o8}(l0:L b=16)(h:H1 174 16 3 b λe f=>ZZ e c d f R):Ct 155 [.a b,c,d] R:=z1 atn rf Tryz.func155 l0 h
def ati:=bi 15 [(7,([52],[7,50,51]))]
def ZG b m R d(g:aG)(e:bu) h a:=ab 0 a b λi=>bf i m λc=>aT c 1 a b λj=>az c (bf j<|iv 15) λk=>aD c k (bv I) λl=>ah l (aE R a [bv I]) (aV (gt d 0) (iv 1) λf=>g [f] a/\e [f] a<e d h)
def If h g l R d e b a:=Rg->aU (gt b 0) h λi=>ah i (ao 7 a g (gt b 0) λj=>aw 7 a j λk=>eV (bs 87 NY a 9) λc f=>sV (aK 7 f c k)<|ZG c l R b d e a)<|aE R a [bv U]
def Ie d e g a R:=aB 0 a d λt3=>ab 14 a t3 λC=>ao 7 a C e λD=>ab 0 a D λh=>aO .geq e g λc=>aC c (aB 0 a d) λi=>bn c 14 a i λj=>bX c g λk=>aC c (ao 7 a j k) λl=>bn c 0 a l λm=>bX c h λn=>aC c (aO .neq m n) λo=>aD c (bv U) o λb=>bn b 15 a d λp=>bX b e λq=>aC b (ao 4 a p q) λr=>bn b 3 a r λs=>bX b h λt=>aC b (ao 3 a s t) λu=>bn b 2 a u λv=>aC b (cf v) λw=>aD b (bv U) w λx=>ah x (aE R a [bv I]) (aB 0 a d λy=>ab 14 a y λz=>aV e (iv 1) λA=>rV (fo 7 a z (V A) (V g) J) λf=>aJ a f λB=>lV [iv 0] a<|If B f h R)
def aKJ{b:List AV}{c d:AV}{R:o8}(l0:L b=16)(h:H1 174 16 3 b λe f=>Ie e c d f R):Ct 157 [.a b,c,d] R:=z1 ati rf Tryz.func157 l0 h
def ZQ g b a R:=aB 0 a g λN=>ab 14 a N λh=>ab 3 a b λO=>ab 4 a b λp=>aO .leq O p λc=>fm c h λq=>aT c 3 a b λr=>az c (ao 7 a q r) λs=>aT c 0 a s λt=>fm c h λu=>aT c 4 a b λv=>az c (ao 7 a u v) λw=>aT c 0 a w λx=>az c (bf t x) λy=>aD c y (bv I) λd=>fm d h λz=>aT d 3 a b λA=>az d (ao 7 a z A) λB=>aT d 0 a B λC=>fm d h λD=>aT d 1 a b λE=>az d (ao 7 a D E) λF=>aT d 0 a F λG=>az d (aO .neq C G) λH=>aD d H (bv I) λf=>az f (aw 16 a g) λK=>aT f 1 a b λM=>aT f 3 a b λi=>az f (fV zd a [K,M,i]) λj=>aD f j (bv I) λe=>az e (aw 16 a g) λk=>aT e 4 a b λl=>aT e 2 a b λm=>az e (fV zd a [k,l,m]) λn=>aD e n (bv I) λo=>aE R a [o]
def aKL{b:List AV}{c:List AV}{R:o8}(l0:L b=16)(l1:L c=6)(h:H2 174 16 2 b 46 6 3 c λd e f=>ZQ d e f R):Ct 158 [.a b, .a c] R:=z2 aur rf Tryz.func158 l0 l1 h
end Go.Ab
