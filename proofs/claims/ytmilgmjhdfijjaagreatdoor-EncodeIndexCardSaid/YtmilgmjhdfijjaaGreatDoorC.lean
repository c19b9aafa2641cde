/- Part of the proof of EncodeIndex, made short by a program. -/
import Derived.Test.YtmilgmjhdfijjaaGreatDoorB
import Derived.Test.YtmilgmjhdfijjaaGreatDoorChecked
import Derived.Lib.LazyBuf
import Derived.Laws.Strings
set_option linter.all false
set_option maxRecDepth 100000
open And renaming intro->ai
open Array renaming toList_inj->qb
open Bool renaming and_assoc->BI,and_eq_true->bN,and_false->qc,false->I,false_and->kM,false_eq_true->eE,not_eq_false'->fK,not_eq_true'->eH,not_false->kN,not_true->fh,or_eq_false_iff->cP,or_eq_true->fH,true->U,true_and->iw
open ByteArray renaming ext->aqv
open Decidable renaming decide->Q,not_not->aNS
open Eq renaming mpr->aND
open Go.IntKind renaming i64->dq
open Go.Proofs.Tryz renaming prog->aS
open Go.Value renaming bool.injEq->mV,int.injEq->mW,string.injEq->mX
open Int renaming not_lt->aqC,ofNat_inj->aqD,toNat_natCast->bh,toNat_zero->Gx
open List renaming all_eq_true->dV,any_eq_false->Gy,any_eq_true->tL,append_assoc->cC,append_nil->cL,cons.injEq->kO,drop->aOz,drop_length->Gz,findIdx?_eq_none_iff->GB,findIdx?_eq_some_iff_getElem->RL,flatMap_cons->Cz,foldl_append->RO,foldl_nil->aRl,getD_cons_zero->RQ,getD_eq_getElem?_getD->eI,getElem?_cons_zero->qh,getElem?_eq_getElem->eC,getElem?_set_ne->oq,getElem_of_mem->ou,length->L,length_append->P8,length_cons->bZ,length_filter_le->fZ,length_map->bJ,length_nil->vw,map_append->dg,map_congr_left->ja,map_cons->ji,map_id->zr,map_nil->mU,map_take->GL,mem_or_eq_of_mem_set->CC,mem_singleton->cE,nil_append->dW,range->aH,range_succ->qn,replicate->er,set_eq_take_append_cons_drop->GP,take_length->gV,take_succ_eq_append_getElem->iJ,take_zero->CE
open Nat renaming eq_zero_or_pos->oD,le_refl->dA,le_trans->gl,lt_of_le_of_lt->rC,lt_of_lt_of_le->C3,not_lt->aYE,reduceAdd->dc,zero_add->aj,zero_le->mh
open Option renaming bind_some->qd,getD_none->sD,getD_some->mi,map->Sb,map_some->df,none->J,some->V
namespace Go.Ab
open Go Go.RowKit Go.Proofs
def aB1:List Nat:=[27,28,29,49,50,51,52,53,54,55,56,57,58,66,67,68,71,81,86,87,88,89,90,91,92,93,94,95,96,97,99,113,114,115,120,121,124,143,144,145,146,147,148,149,150,151,152,161,169,170,175,177,178,179,183,184,187,188,189,200,201,206,207,208,209,210,211,212,215,216,220,222,231,237]
def uQ:List Nat:=[52,54,56,57,81,89,90,95,96,97,99,143,146,147,149,150,187,210,215,222,231]
def nws:List Nat:=[69,98,136,185,186,218,219]
def ik:List ByteArray:=[⟨#[118,97,114]⟩,⟨#[118,111,108,97,116,105,108,101]⟩,⟨#[109,117,116,101,120]⟩,⟨#[114,119,108,111,99,107]⟩,⟨#[99,111,110,100]⟩,⟨#[102,117,116,117,114,101]⟩,⟨#[116,104,114,101,97,100]⟩,⟨#[105,102]⟩,⟨#[101,108,115,101]⟩,⟨#[119,104,105,108,101]⟩,⟨#[108,111,99,107]⟩,⟨#[114,101,97,100]⟩,⟨#[119,114,105,116,101]⟩,⟨#[116,114,97,110,115,97,99,116,105,111,110]⟩,⟨#[97,116,111,109,105,99]⟩,⟨#[119,97,105,116]⟩,⟨#[110,111,116,105,102,121]⟩,⟨#[110,111,116,105,102,121,97,108,108]⟩,⟨#[115,112,97,119,110]⟩,⟨#[106,111,105,110]⟩,⟨#[115,101,116]⟩,⟨#[103,101,116]⟩]
abbrev pI:List AV:=ik.map λs=> .s (.string s)
def GG:nn:=⟨λk=>match k with|0=>V pI|_=>J,λf=>aB1.elem f,λf=>uQ.elem f,λf=>nws.elem f,I,λ_=>J⟩
def fps:List (Nat×List Nat):=[(66,[14,15,16]),(71,[]),(124,[14,15,16,30]),(161,[10,14,41]),(200,[12,31])]
def GGV:nn:=⟨GG.glob,GG.imp,GG.rd,GG.nw,U,λf=>fps.lookup f⟩
def aQ9{T:dO}(h:pq aS GG T):pq aS GGV T:=h
def aTc{fn:FuncId}{xs:List AV}{Y:ae}{R:AV->ae->Prop}(h:∃r a,R r a/\cZ aS GGV fn xs Y r a):∃r a,R r a/\cZ aS GG fn xs Y r a:=h
def fnV{fn:FuncId}{xs:List AV}{R:AV->Prop}(h:Fn aS GGV fn xs R):Fn aS GG fn xs R:=h
def ready:tQ aS:=⟨by kernel_rfl,Tryz.co.funcs,by kernel_rfl⟩
abbrev cX(fn:FuncId):FT:=jz aS GG fn
def cB(fn:FuncId)(xs:List AV)(Y:ae)(d:Nat)(K:AV->ae->Prop):Prop:=tR aS GG fn xs Y d K
def cV(fn:FuncId)(xs:List AV)(Y:ae)(d:Nat)(K:AV->ae->Prop):Prop:=tR aS GGV fn xs Y d K
def cN(fn:FuncId)(xs:List AV)(Y:ae)(d:Nat)(K:AV->ae->Prop):Prop:=tS aS GG fn xs Y d K
def cF(f:AV)(xs:List AV)(Y:ae)(d:Nat)(K:AV->ae->Prop):Prop:=rn aS GG f xs Y d K
abbrev Ct(fn:Nat)(xs:List AV)(R:AV->Prop):Prop:=Fn aS GG fn xs R
abbrev eJ(T:dO):Prop:=pq aS GG T
def nX{fn:Nat}{ys:List AV}{R K:AV->Prop}(h:Ct fn ys R)(d:ys.all iX=U)(e:∀r,R r->K r):jz aS GG fn ys K:=by obtain⟨r,a,b,c⟩:=h;exact⟨r,c,d,b,e r a⟩
def it{fn:Nat}{F:FT}{T:dO}(b:∀ys K,F ys K->jz aS GG fn ys K)(c:eJ T):eJ ((fn,F)::T):=by intro p a;rcases List.mem_cons.1 a with rfl|a;exact b;exact c p a
def wO:pq aS GG []:=λp h=>by cases h
def nU(f:Func):Code:=match f.body with|some (.seq _ (.seq _ t))=>t|_=> .skip
abbrev xE(a:AV):List AV:=[a, .u, .l [] U U,a, .s (.bool I), .u, .u, .u]
def DX{fn:FuncId}{f:Func}{xa xb g:Code}{an:List (Option (List Nat×List Nat))}(B:aS.funcs[fn]?=V f)(p:f.body=V (.seq xa (.seq xb g)))(hn:(f.name== "runtime.NumGoroutine")=I)(K:∀n c w (R:Ending->World->Prop),R (.returned (.slice J 0 0)) w->Calls aS fn #[.slice J n c] w R)(y:∀A n c w (R:Ending->World->Prop),(nU f).wp aS (bodyPost aS f R) {tmps:=#[.slice (V A) n c,undef, .slice J 0 0, .slice (V A) n c, .bool I,undef,undef,undef],defers:=[]} w->Calls aS fn #[.slice (V A) n c] w R)(X:(gG (nU f)).all (λk=>Nat.blt k 8)=U)(H:oG an (nU f) 0=U){aa:List (List AV)}{R:AV->ae->Prop}(F:iV aS GG [] an (nU f) 0 (tO aS f R) (gt (xE (.l aa I I))) eK)(S:∀r j,R r j->aa=[]->r= .l [] U U/\j=eK):∃r j,R r j/\cZ aS GG fn [.l aa I I] eK r j:=by have M:nU f=g:=(by rw[nU,p]);simp only[M] at y X H F;have N:qf aS g:=(ready.code B p).1.2.2;have hg:oI g=U:=(by have:=(ready.code B p).2;grind [oI]);have G:=Kj (T:=[]) wO g 0 _ (by simp_all) H F;obtain⟨e,τ',Y',b,a⟩:=Kf g G;obtain⟨_,_,_,q⟩:=b;have:∃r,wG aS f τ' Y'=V r/\R r Y'/\(e= .normal\/e= .ret):=(by(cases e<;>simp only[tO] at q<;>first|exact q.elim|skip);obtain⟨vs,o,h⟩:=Ep _ _ q;exact⟨_,QU o,h, .inl rfl⟩;obtain⟨vs,o,h⟩:=Ep _ _ q;exact⟨_,QU o,h, .inr rfl⟩);obtain⟨r,o,h,k4⟩:=this;refine⟨r,Y',h,⟨f,_,B,p,hn⟩,λκ w β D O W P=>?_⟩;obtain⟨v,rfl⟩:∃v,D=[v]:=List.length_eq_one_iff.1 P.1;have C:=P.2 0 v _ rfl rfl;have z:∀A n c,v= .slice (V A) n c->Calls aS fn #[v] w λe t=>∃v d,e= .returned v/\ba κ t Y' d v r/\cv aS κ t Y' d/\dw w eK β t Y' d:=(by rintro A n c rfl;refine y A n c w _ ?_;have E:jG aS GG κ {tmps:=#[.slice (V A) n c,undef, .slice J 0 0, .slice (V A) n c, .bool I,undef,undef,undef],defers:=[]} w (xE (.l aa I I)) eK β:=(by refine⟨rfl,⟨rfl,λi v x b a=>?_⟩,O,W⟩;have ad:ba κ w eK β (.slice J 0 0) (.l [] U U):= .l0 λ_=>rfl;match i,b,a with|0,b,a=>grind|1,b,a=>(cases a;exact .u)|2,b,a=>grind|3,b,a=>grind|4,b,a=>(cases b;cases a;exact .s rfl)|5,b,a=>(cases a;exact .u)|6,b,a=>(cases a;exact .u)|7,b,a=>(cases a;exact .u)|i+8,b,a=>cases a);refine wp_mono (Kg ready.mixed g N hg _ E a) ?_;rintro e' a' t ⟨_,_,d,⟨rfl,rfl,rfl⟩,m,Z⟩;obtain⟨v,q1,q2⟩:=aoi m o;rcases k4 with rfl|rfl<;>exact⟨m.defers,v,q1,v,d,rfl,q2,m.sim,Z⟩);show Calls aS fn #[v] w _;cases C with|@l0 A c _ _ ht=>(cases A with|none=>obtain⟨rfl,rfl⟩:=S _ _ h rfl;refine K 0 c w _ ⟨_,β,rfl, .l0 λ_=>rfl,O,dw.refl _ _ _⟩|some A=>grind)|l1=>grind

abbrev eQ:=List AV
abbrev d7:=AV->Prop
abbrev fD:=List AV->Nat
abbrev cG:=List AV->Prop
abbrev be:=AV->ae->Prop
abbrev bu:=List AV->ae->Nat
abbrev aG:=List AV->ae->Prop
def bi(n:Nat)(l:List (Nat×(List Nat×List Nat))):List (Option (List Nat×List Nat)):=(aH n).map λi=>l.lookup i
section congr
@[congr] theorem aNy{o o':Option AV}{K:AV->Prop}(h:o=o'):rV o K=rV o' K:=by rw[h]
@[congr] theorem aNo{o o':Option (AV×ae)}{K:AV->ae->Prop}(h:o=o'):eV o K=eV o' K:=by rw[h]
@[congr] theorem aNz{o o':Option ae}{K:ae->Prop}(h:o=o'):sV o K=sV o' K:=by rw[h]
@[congr] theorem aNv{c a:AV}{A B:Prop}(h:c=a):ah c A B=ah a A B:=by rw[h]
@[congr] theorem aNu{w a:Option Bool}{A:(AV->Prop)->Prop}{K:AV->Prop}(h:w=a):gR w A K=gR a A K:=by rw[h]
@[congr] theorem aNs{w a:Option Bool}{A:(AV->ae->Prop)->Prop}{Y:ae}{K:AV->ae->Prop}(h:w=a):gE w A Y K=gE a A Y K:=by rw[h]
def gB(b:Bool)(A:(AV->Prop)->Prop)(K:AV->Prop):Prop:=bif b then A K else K (.t [])
def gF(b:Bool)(A:(AV->ae->Prop)->Prop)(Y:ae)(K:AV->ae->Prop):Prop:=bif b then A K else K (.t []) Y
@[congr] theorem aNr{b c:Bool}{A a:(AV->Prop)->Prop}{K:AV->Prop}(h:b=c)(d:c=U->∀k,A k=a k):gB b A K=gB c a K:=by subst h;cases b with|true=>show A K=a K;exact d rfl K|false=>rfl
@[congr] theorem aNt{b c:Bool}{A a:(AV->ae->Prop)->Prop}{Y:ae}{K:AV->ae->Prop}(h:b=c)(d:c=U->∀k,A k=a k):gF b A Y K=gF c a Y K:=by subst h;cases b with|true=>show A K=a K;exact d rfl K|false=>rfl
@[congr] theorem aNp{F:FT}{xs a:List AV}{Y:ae}{K:AV->Prop}(h:xs=a):fV F Y xs K=fV F Y a K:=by rw[h]
@[congr] theorem aNq{F:FT}{ys a:List AV}{b K:AV->Prop}(h:ys=a):fW F ys b K=fW F a b K:=by rw[h]
@[congr] theorem aNw{v v':List AV}{B:(List AV->Prop)->(List AV->Nat)->List AV->Prop}(h:v=v'):lR v B=lR v' B:=by rw[h]
@[congr] theorem aNx{v v':List AV}{Y:ae}{B:(List AV->ae->Prop)->(List AV->ae->Nat)->List AV->ae->Prop}(h:v=v'):lV v Y B=lV v' Y B:=by rw[h]
end congr
def gv(b:Bool)(v:AV):AV:=bif b then v else .t []
def gd{α:Type}[Inhabited α](l:List α)(k:Nat):α:=l.getD k default
def aF(n:Nat)(i:Int):Prop:=0<=i/\i<n
def sl{α:Type}(f:α->List AV)(l:List α):AV:= .l (l.map f) I I
abbrev ci(n:Int):List AV:=[iv n]
abbrev cb(b:Bool):List AV:=[bv b]
abbrev st(s:ByteArray):AV:= .s (.string s)
abbrev cs(s:ByteArray):List AV:=[st s]
section rules
variable{K:AV->Prop}{Y:ae}
def aY{v:AV}:rV (V v) K=K v:=rfl
def bQ{v:AV}{Y:ae}{K:AV->ae->Prop}:eV (V (v,Y)) K=K v Y:=rfl
def aoq{Y:ae}{K:ae->Prop}:sV (V Y) K=K Y:=rfl
def iS{b:Bool}{A B:Prop}:ah (bv b) A B=((b=U->A)/\(b=I->B)):=by grind [ah]
def iC{A B:Prop}:ah (bv U) A B=A:=by simp[ah]
def iB{A B:Prop}:ah (bv I) A B=B:=by simp[ah]
def sw{b c:Bool}{a:List AV->Prop}:ah (bv b) (a [bv b]) (a [bv c])=a [bv (b||c)]:=by grind [ah]
def aM2{b:Bool}:gP U (bv b)=V b:=by cases b<;>rfl
def aMZ{b:Bool}:gP I (bv b)=V (!b):=by cases b<;>rfl
def aM3{w:Bool}:gP w (.t [])=V I:=rfl
def aM1{b c:Bool}:gP U (gv b (bv c))=V (b&&c):=by cases b<;>cases c<;>rfl
def aM0{b c:Bool}:gP I (gv b (bv c))=V (b&&!c):=by cases b<;>cases c<;>rfl
def aBA{b:Bool}{A:(AV->Prop)->Prop}:gR (V b) A K=gB b A K:=by cases b<;>rfl
def aBy{b:Bool}{A:(AV->ae->Prop)->Prop}{K:AV->ae->Prop}:gE (V b) A Y K=gF b A Y K:=by cases b<;>rfl
def aBv{b c:Bool}{A:(AV->Prop)->Prop}:gB (b&&c) A K=gB b (λk=>gB c A k) K:=by cases b<;>cases c<;>rfl
def aBw{b:Bool}{v:AV}:gB b (λk=>k v) K=K (gv b v):=by cases b<;>rfl
def aBx{b:Bool}{S:Prop}{v:AV}:gB b (λk=>S/\k v) K=((b=U->S)/\K (gv b v)):=by grind [gB,gv]
def jA{A:(AV->Prop)->Prop}:gB U A K=A K:=rfl
def jN{A:(AV->Prop)->Prop}:gB I A K=K (.t []):=rfl
def aBL{b c:Bool}{v:AV}:gv b (gv c v)=gv (b&&c) v:=by cases b<;>rfl
def qE{v:AV}:gv U v=v:=rfl
def xM{v:AV}:gv I v= .t []:=rfl
def aE3{c a b:Bool}:mL (bv c) (bv a) (bv b)=V (bv (bif c then a else b)):=by cases c<;>rfl
def uO{c:Bool}{a b:AV}:mL (bv c) a b=V (bif c then a else b):=by cases c<;>rfl
def aE2{c a b:Bool}:mL (bv c) (gv c (bv a)) (bv b)=V (bv (bif c then a else b)):=by cases c<;>rfl
def aE4{c a b:Bool}:mL (bv c) (bv a) (gv (!c) (bv b))=V (bv (bif c then a else b)):=by cases c<;>rfl
def awq{c a:Bool}:(bif c then a else I)=(c&&a):=by simp
def awr{c a:Bool}:(bif c then U else a)=(c||a):=by simp
def av4{a b:Int}:wl .lss 0 [] (iv a) (iv b)=V (bv (Q (a<b))):=rfl
def av2{a b:Int}:wl .leq 0 [] (iv a) (iv b)=V (bv (Q (a<=b))):=rfl
def av1{a b:Int}:wl .gtr 0 [] (iv a) (iv b)=V (bv (Q (b<a))):=rfl
def avY{a b:Int}:wl .geq 0 [] (iv a) (iv b)=V (bv (Q (b<=a))):=rfl
def iM{a b:Int}:wl .eql 0 [] (iv a) (iv b)=V (bv (Q (a=b))):=rfl
def av6{a b:Int}:wl .neq 0 [] (iv a) (iv b)=V (bv (Q (a≠b))):=by show V (bv (a !=b))=_;congr 3;by_cases h:a=b<;>simp[h]
def cS{a b:Int}:wl .add 0 [] (iv a) (iv b)=V (iv (dq.wrap (a+b))):=rfl
def alr{a b:Int}:wl .sub 0 [] (iv a) (iv b)=V (iv (dq.wrap (a-b))):=rfl
def av5{a b:Int}:wl .mul 0 [] (iv a) (iv b)=V (iv (dq.wrap (a*b))):=rfl
def avU{a b:Bool}:wl .eql 1 [] (bv a) (bv b)=V (bv (a==b)):=rfl
def avV{a b:Bool}:wl .neq 1 [] (bv a) (bv b)=V (bv (!(a==b))):=rfl
def alq{a b:ByteArray}:wl .eql 0 [] (st a) (st b)=V (bv (Q (a=b))):=by show V (bv (a.toList==b.toList))=_;congr 3;by_cases h:a=b;subst h;simp;have:a.toList≠b.toList:=λe=>h (aqv (by rw[ByteArray.toList_eq,ByteArray.toList_eq,qb] at e;exact e));simp[h,this]
def aIN{b:Bool}:cR .not (bv b)=V (bv (!b)):=rfl
def aS6{n:Int}{k:IntKind}:sO (V .i64) (.s (.int k n))=V (iv (dq.wrap n)):=rfl
def aXT{a b:Int}:AO .min (iv a) (iv b)=V (iv (if b<a then b else a)):=rfl
def aRW{a b:Int}:AO .max (iv a) (iv b)=V (iv (if b>a then b else a)):=rfl
def bdM{aa:List (List AV)}{t o:Bool}:fS Y (.l aa t o)=V (iv (L aa)):=rfl
def cT{α:Type}{f:α->List AV}{l:List α}:fS Y (sl f l)=V (iv (L l)):=by simp[fS,sl]
def aBz{α:Type}[Inhabited α]{f:α->List AV}{l:List α}{z:Nat}{i:Int}(a:∀x,L (f x)=z):rV (cz z Y (sl f l) (iv i)) K=(aF (L l) i/\K (.q (f (gd l i.toNat)))):=by grind [aF,cz,sl,rV,gd]
def qM{c:AV}{cs:List AV}:kb J Y (.q (c::cs))=V c:=rfl
def azQ{cs:List AV}{n:Nat}:iQ n Y (.q cs)=V (.q (cs.drop n)):=rfl
def jM{F:FT}{xs:List AV}{K:AV->Prop}:fV F Y xs K=fW F (xs.map (dG Y)) (lo Y xs) K:=rfl
def jt:([]:List AV).map (dG Y)=[]:=rfl
def kU{x:AV}{xs:List AV}:(x::xs).map (dG Y)=dG Y x::xs.map (dG Y):=rfl
def tW{v:Value}:dG Y (.s v)= .s v:=rfl
def alg{α:Type}{f:α->List AV}{l:List α}:dG Y (sl f l)=sl f l:=rfl
def CV{α:Type}{f:α->List AV}{l:List α}{t o:Bool}:dG Y (.l (l.map f) t o)=sl f l:=rfl
def AL{xs:List AV}{v:Value}:lo Y xs (.s v)=True:=by simp[lo,uN,yv,wD]
def Ql{xs:List AV}{l:List Int}{t:Bool}:lo Y xs (.l (l.map ci) t U)=True:=by simp[lo,uN,yv,wD,gY]
def QQ{aa:List (List AV)}{o:Bool}{Q:AV->Prop}:(∀r,(∃t,r=AV.l aa t o)->Q r)=∀t,Q (.l aa t o):=by simp
def gT{α:Type}{f:α->List AV}{l:List α}{t o:Bool}:fS Y (.l (l.map f) t o)=V (iv (L l)):=by simp[fS]
def uR{R:AV->Prop}{b:Bool}:aE R Y [bv b]=R (bv b):=by simp[aE,jS,iZ,dQ,kG,pF,nj]
def aFi{R:AV->Prop}{n:Int}:aE R Y [iv n]=R (iv n):=by simp[aE,jS,iZ,dQ,kG,pF,nj]
def aI{p:Prop}:(∀_:Rg,p)=p:=by simp
end rules
section
def u0:=ai @aY<|ai @bQ<|ai @iS<|ai @aM2<|ai @aMZ<|ai @aM3<|ai @aM1<|ai @aM0<|ai @aBA<|ai @aBy<|ai @aBv<|ai @aBw<|ai @aBx<|ai @aBL<|ai @qE<|ai @xM<|ai @aE2<|ai @aE4<|ai @aE3<|ai @awq<|ai @awr<|ai @kN<|ai @fh<|ai @Bool.and_true<|ai @iw<|@BI
end
def aB(i:Nat)(s:ae)(p:AV)(k:AV->Prop):Prop:=rV (iQ i s p) k
def aM(s:ae)(t:AV)(k:AV->Prop):Prop:=rV (kb J s t) k
def aw(i:Nat)(s:ae)(t:AV)(k:AV->Prop):Prop:=rV (kb (V i) s t) k
def aO(o:BinOp)(a b:AV)(k:AV->Prop):Prop:=rV (wl o 0 [] a b) k
def bf(a b:AV)(k:AV->Prop):Prop:=rV (wl .eql 0 [] a b) k
def aU(a b:AV)(k:AV->Prop):Prop:=rV (wl .lss 0 [] a b) k
def aV(a b:AV)(k:AV->Prop):Prop:=rV (wl .add 0 [] a b) k
def ao(z:Nat)(s:ae)(a i:AV)(k:AV->Prop):Prop:=rV (cz z s a i) k
def aJ(s:ae)(a:AV)(k:AV->Prop):Prop:=rV (fS s a) k
def aD(c a b:AV)(k:AV->Prop):Prop:=rV (mL c a b) k
def cf(a:AV)(k:AV->Prop):Prop:=rV (cR .not a) k
def fm(t e:AV)(k:AV->Prop):Prop:=gR (gP U t) (λg=>g e) k
def ic(t e:AV)(k:AV->Prop):Prop:=gR (gP I t) (λg=>g e) k
def az(t:AV)(f:(AV->Prop)->Prop)(k:AV->Prop):Prop:=gR (gP U t) (λg=>f λv=>g v) k
def aC(t:AV)(f:(AV->Prop)->Prop)(k:AV->Prop):Prop:=gR (gP I t) (λg=>f λv=>g v) k
def ab(i:Nat)(s:ae)(p:AV)(k:AV->Prop):Prop:=rV (iQ i s p) λt=>rV (kb J s t) k
def aT(d:AV)(i:Nat)(s:ae)(p:AV)(k:AV->Prop):Prop:=gR (gP U d) (λg=>rV (iQ i s p) λt=>g t) λt=>gR (gP U d) (λg=>rV (kb J s t) λv=>g v) k
def bn(d:AV)(i:Nat)(s:ae)(p:AV)(k:AV->Prop):Prop:=gR (gP I d) (λg=>rV (iQ i s p) λt=>g t) λt=>gR (gP I d) (λg=>rV (kb J s t) λv=>g v) k
def a8b{i:Nat}{s:ae}{p:AV}{k:AV->Prop}:aB i s p k=(rV (iQ i s p) k):=rfl
def arq{s:ae}{t:AV}{k:AV->Prop}:aM s t k=(rV (kb J s t) k):=rfl
def art{i:Nat}{s:ae}{t:AV}{k:AV->Prop}:aw i s t k=(rV (kb (V i) s t) k):=rfl
def ark{o:BinOp}{a b:AV}{k:AV->Prop}:aO o a b k=(rV (wl o 0 [] a b) k):=rfl
def ari{a b:AV}{k:AV->Prop}:bf a b k=(rV (wl .eql 0 [] a b) k):=rfl
def arj{a b:AV}{k:AV->Prop}:aU a b k=(rV (wl .lss 0 [] a b) k):=rfl
def arh{a b:AV}{k:AV->Prop}:aV a b k=(rV (wl .add 0 [] a b) k):=rfl
def arp{z:Nat}{s:ae}{a i:AV}{k:AV->Prop}:ao z s a i k=(rV (cz z s a i) k):=rfl
def ars{s:ae}{a:AV}{k:AV->Prop}:aJ s a k=(rV (fS s a) k):=rfl
def arx{c a b:AV}{k:AV->Prop}:aD c a b k=(rV (mL c a b) k):=rfl
def ary{a:AV}{k:AV->Prop}:cf a k=(rV (cR .not a) k):=rfl
def arm{t e:AV}{k:AV->Prop}:fm t e k=(gR (gP U t) (λg=>g e) k):=rfl
def arl{t e:AV}{k:AV->Prop}:ic t e k=(gR (gP I t) (λg=>g e) k):=rfl
def arw{t:AV}{f:(AV->Prop)->Prop}{k:AV->Prop}:az t f k=(gR (gP U t) (λg=>f λv=>g v) k):=rfl
def a8c{t:AV}{f:(AV->Prop)->Prop}{k:AV->Prop}:aC t f k=(gR (gP I t) (λg=>f λv=>g v) k):=rfl
def aro{i:Nat}{s:ae}{p:AV}{k:AV->Prop}:ab i s p k=(rV (iQ i s p) λt=>rV (kb J s t) k):=rfl
def aru{d:AV}{i:Nat}{s:ae}{p:AV}{k:AV->Prop}:aT d i s p k=(gR (gP U d) (λg=>rV (iQ i s p) λt=>g t) λt=>gR (gP U d) (λg=>rV (kb J s t) λv=>g v) k):=rfl
def arr{d:AV}{i:Nat}{s:ae}{p:AV}{k:AV->Prop}:bn d i s p k=(gR (gP I d) (λg=>rV (iQ i s p) λt=>g t) λt=>gR (gP I d) (λg=>rV (kb J s t) λv=>g v) k):=rfl
def km:fY:=lb U [] []
def bo(x:AV):fY:=lb U [x] []
@[simp] theorem aDs:km=lb U [] []:=rfl
@[simp] theorem aDl{x:AV}:bo x=lb U [x] []:=rfl
def uL:=ai @a8b<|ai @arq<|ai @art<|ai @ark<|ai @ari<|ai @arj<|ai @arh<|ai @arp<|ai @ars<|ai @arx<|ai @ary<|ai @arm<|ai @arl<|ai @arw<|ai @a8c<|ai @aro<|ai @aru<|ai @arr<|ai @aDs<|@aDl
def f8{n:Nat}{B:List AV->Prop}{A:(List AV->Prop)->Prop}:jR n B A=A B:=rfl
def di{n:Nat}{B:List AV->ae->Prop}{A:(List AV->ae->Prop)->Prop}:jV n B A=A B:=rfl
def cI(n:Nat)(Inv:Nat->Prop):List AV->Prop:=λvs=>∃k:Nat,vs=[iv k]/\k<=n/\Inv k
def cM(n:Nat):List AV->Nat:=λvs=>match vs with|[.s (.int _ i)]=>n-i.toNat|_=>0
def C7{B:(List AV->Prop)->(List AV->Nat)->List AV->Prop}(n:Nat)(Inv:Nat->Prop)(a:Inv 0)(h:∀k:Nat,k<=n->Inv k->B (cI n Inv) (cM n) [iv k]):lR [iv 0] B:=⟨cI n Inv,cM n,⟨0,rfl,mh _,a⟩,by rintro vs ⟨k,rfl,c,b⟩;grind⟩
theorem eM{x:Int}(a: -9223372036854775808<=x)(b:x<9223372036854775808):dq.wrap x=x:=by rw[IntKind.wrap_i64];omega
theorem gS{n k:Nat}{Inv:Nat->Prop}(a:k<n)(b:n<4611686018427387904)(h:Inv (k+1)):cI n Inv [iv (dq.wrap ((k:Int)+1))]/\cM n [iv (dq.wrap ((k:Int)+1))]<cM n [iv k]:=by rw[eM (by omega) (by omega)];refine⟨⟨k+1,rfl,a,h⟩,?_⟩;show n-((k:Int)+1).toNat<n-((k:Int)).toNat;omega
theorem au{a:AV}{l:List AV}:gt (a::l) 0=a:=rfl
theorem fE{a:AV}{l:List AV}{n:Nat}:gt (a::l) (n+1)=gt l n:=rfl
def tI{S:Type}(enc:S->List AV)(Inv:S->Prop):List AV->Prop:=λvs=>∃s,vs=enc s/\Inv s
def pM(p n:Nat):List AV->Nat:=λvs=>match gt vs p with| .s (.int _ i)=>n-i.toNat|_=>0
def yh{S:Type}(enc:S->List AV)(p n:Nat)(Inv:S->Prop)(s0:S){B:(List AV->Prop)->(List AV->Nat)->List AV->Prop}(a:Inv s0)(h:∀s,Inv s->B (tI enc Inv) (pM p n) (enc s)):lR (enc s0) B:=⟨tI enc Inv,pM p n,⟨s0,rfl,a⟩,by rintro vs ⟨s,rfl,b⟩;exact h s b⟩
def wN{S:Type}{enc:S->List AV}{p n:Nat}{Inv:S->Prop}{s s':S}{i:Nat}{vs:List AV}(a:vs=enc s')(c:gt (enc s) p=iv i)(b:gt (enc s') p=iv ((i+1:Nat):Int))(d:i<n)(hI:Inv s'):tI enc Inv vs/\pM p n vs<pM p n (enc s):=by subst a;refine⟨⟨s',rfl,hI⟩,?_⟩;grind [pM,bh]
theorem fX{k:Nat}(h:k<4611686018427387904):dq.wrap ((k:Int)+1)=((k+1:Nat):Int):=by grind [eM]
abbrev C2:List (Nat×Nat):=[(0,1),(1,1),(2,1),(3,1),(4,1),(5,1)]
abbrev O7:List (Nat×Nat):=[(0,1),(1,1)]
abbrev alz:List (Nat×Nat):=[(0,1),(1,1),(2,1),(3,1)]
abbrev anY:List (Nat×Nat):=[(0,4),(4,1),(5,1),(6,1)]
abbrev aon:List (Nat×Nat):=[(0,1),(1,1),(2,1),(3,1),(4,1),(5,4),(9,1),(10,1)]
abbrev aM7:List (Nat×Nat):=[(0,1),(1,1),(2,1)]
abbrev aOs:List (Nat×Nat):=[(0,1),(1,1),(2,1),(3,1),(4,1),(5,1),(6,1)]
abbrev aOG:List (Nat×Nat):=[(0,1),(1,1),(2,1),(3,1),(4,1)]
abbrev aP0:List (Nat×Nat):=[(0,6),(6,1)]
abbrev aQ4:List (Nat×Nat):=[(0,6),(6,1),(7,7),(14,1)]
abbrev a6U:List (Nat×Nat):=[(0,1),(1,1),(2,1),(3,1),(4,1),(5,1),(6,1),(7,1)]
structure cA where
 name:ByteArray
 index:Int
 size:Int
 vol:Bool
 init:Int
 deriving Inhabited,DecidableEq
structure dS where
 name:ByteArray
 rw:Bool
 deriving Inhabited,DecidableEq
structure yp where
 name:ByteArray
 eg:Int
 deriving Inhabited,DecidableEq
structure dL where
 aq:Int
 stmt:Int
 line:Int
 deriving Inhabited,DecidableEq
structure br where
 cells:List cA
 ak:List dS
 bC:List yp
 bU:List ByteArray
 ay:List ByteArray
 dU:List dL
 deriving Inhabited,DecidableEq
structure cg where
 pw:Int
 bk:List Int
 deriving Inhabited,DecidableEq
structure bF where
 cQ:Int
 cond:Int
 atomic:Bool
 deriving Inhabited,DecidableEq
structure aW where
 ak:List cg
 tx:Int
 done:List Bool
 ay:List bF
 deriving Inhabited,DecidableEq
structure bW where
 bm:aW
 cells:List Int
 bU:List Int
 count:List Int
 deriving Inhabited,DecidableEq
structure aP where
 aq:Int
 kind:Int
 bb:Int
 value:Int
 site:Int
 dI:List Int
 ep:List Int
 deriving Inhabited,DecidableEq
structure am where
 aQ:br
 start:Int
 init:bW
 ac:List aP
 deriving Inhabited,DecidableEq
structure cJ where
 kind:Int
 ea:Int
 eb:Int
 ec:Int
 ed:Int
 cW:List Int
 deriving Inhabited,DecidableEq
structure ap where
 kind:Int
 a:Int
 b:Int
 deriving Inhabited,DecidableEq
structure dr where
 x:Int
 y:Int
 k:Int
 deriving Inhabited,DecidableEq
structure ff where
 ints:Int
 bools:Int
 lL:List dr
 ug:List (List Int)
 deriving Inhabited,DecidableEq
def cA.c(x:cA):List AV:=[st x.name,iv x.index,iv x.size,bv x.vol,iv x.init]
def dS.c(x:dS):List AV:=[st x.name,bv x.rw]
def yp.c(x:yp):List AV:=[st x.name,iv x.eg]
def dL.c(x:dL):List AV:=[iv x.aq,iv x.stmt,iv x.line]
def br.c(x:br):List AV:=[sl cA.c x.cells,sl dS.c x.ak,sl yp.c x.bC,sl cs x.bU,sl cs x.ay,sl dL.c x.dU]
def cg.c(x:cg):List AV:=[iv x.pw,sl ci x.bk]
def bF.c(x:bF):List AV:=[iv x.cQ,iv x.cond,bv x.atomic]
def aW.c(x:aW):List AV:=[sl cg.c x.ak,iv x.tx,sl cb x.done,sl bF.c x.ay]
def bW.c(x:bW):List AV:=[sl cg.c x.bm.ak,iv x.bm.tx,sl cb x.bm.done,sl bF.c x.bm.ay,sl ci x.cells,sl ci x.bU,sl ci x.count]
def aP.c(x:aP):List AV:=[iv x.aq,iv x.kind,iv x.bb,iv x.value,iv x.site,sl ci x.dI,sl ci x.ep]
def am.c(x:am):List AV:=[sl cA.c x.aQ.cells,sl dS.c x.aQ.ak,sl yp.c x.aQ.bC,sl cs x.aQ.bU,sl cs x.aQ.ay,sl dL.c x.aQ.dU,iv x.start,sl cg.c x.init.bm.ak,iv x.init.bm.tx,sl cb x.init.bm.done,sl bF.c x.init.bm.ay,sl ci x.init.cells,sl ci x.init.bU,sl ci x.init.count,sl aP.c x.ac]
def cJ.c(x:cJ):List AV:=[iv x.kind,iv x.ea,iv x.eb,iv x.ec,iv x.ed,sl ci x.cW]
def ap.c(x:ap):List AV:=[iv x.kind,iv x.a,iv x.b]
def dr.c(x:dr):List AV:=[iv x.x,iv x.y,iv x.k]
def cl(x:List Int):List AV:=[sl ci x]
def ff.c(x:ff):List AV:=[iv x.ints,iv x.bools,sl dr.c x.lL,sl cl x.ug]
section
variable{K:d7}{Y:ae}{i:Int}
def amX{l:List Int}:rV (cz 1 Y (sl ci l) (iv i)) K=(aF (L l) i/\K (.q (ci (gd l i.toNat)))):=aBz λ_=>rfl
def aCc{l:List Bool}:rV (cz 1 Y (sl cb l) (iv i)) K=(aF (L l) i/\K (.q (cb (gd l i.toNat)))):=aBz λ_=>rfl
def amY{l:List ByteArray}:rV (cz 1 Y (sl cs l) (iv i)) K=(aF (L l) i/\K (.q (cs (gd l i.toNat)))):=aBz λ_=>rfl
def aCd{l:List cA}:rV (cz 5 Y (sl cA.c l) (iv i)) K=(aF (L l) i/\K (.q (cA.c (gd l i.toNat)))):=aBz λ_=>rfl
def aCk{l:List dS}:rV (cz 2 Y (sl dS.c l) (iv i)) K=(aF (L l) i/\K (.q (dS.c (gd l i.toNat)))):=aBz λ_=>rfl
def aCf{l:List yp}:rV (cz 2 Y (sl yp.c l) (iv i)) K=(aF (L l) i/\K (.q (yp.c (gd l i.toNat)))):=aBz λ_=>rfl
def aCl{l:List dL}:rV (cz 3 Y (sl dL.c l) (iv i)) K=(aF (L l) i/\K (.q (dL.c (gd l i.toNat)))):=aBz λ_=>rfl
def am0{l:List cg}:rV (cz 2 Y (sl cg.c l) (iv i)) K=(aF (L l) i/\K (.q (cg.c (gd l i.toNat)))):=aBz λ_=>rfl
def am2{l:List bF}:rV (cz 3 Y (sl bF.c l) (iv i)) K=(aF (L l) i/\K (.q (bF.c (gd l i.toNat)))):=aBz λ_=>rfl
def aCh{l:List aP}:rV (cz 7 Y (sl aP.c l) (iv i)) K=(aF (L l) i/\K (.q (aP.c (gd l i.toNat)))):=aBz λ_=>rfl
def aCm{l:List ap}:rV (cz 3 Y (sl ap.c l) (iv i)) K=(aF (L l) i/\K (.q (ap.c (gd l i.toNat)))):=aBz λ_=>rfl
end
def awN{x:cA}:cA.c x=[st x.name,iv x.index,iv x.size,bv x.vol,iv x.init]:=rfl
def cc:=@awN
def ix:=ai @amX<|ai @aCc<|ai @amY<|ai @aCd<|ai @aCk<|ai @aCf<|ai @aCl<|ai @am0<|ai @am2<|ai @aCh<|@aCm
section
variable{K:d7}{KE:be}{Y:ae}{d k v:Nat}{x:bY}{e:TypeId}{z:Nat}{cs zs:List AV}
def D3:L (put Y d x)=L Y:=by simp[put]
def uC{b:Id}:L (wr Y b x)=L Y:=by simp[wr]
theorem yk(h:k≠d):aZ (put Y d x) k=aZ Y k:=by grind [aZ,put,oq]
theorem wy{b:Id}(h:k≠b.1):aZ (wr Y b x) k=aZ Y k:=by grind [aZ,wr,oq]
theorem zQ(h:d<L Y)(a:(aZ Y d).lB+1=v):box (put Y d x) (d,v)=V x:=by rw[<-a];exact iy h
def aC5{b:Id}{i j:Nat}{q:Option Nat}:kb q Y (.p b i j)=((box Y b).bind λx=>(x.aa[i]?).map (·.drop j)).bind (aN q):=rfl
def rR{b:Id}{i j n:Nat}:iQ n Y (.p b i j)=(box Y b).map λ_=> .p b i (j+n):=rfl
end
def aD0{x:bY}{f:bY->AV}:(V x).map f=V (f x):=rfl
def aww{x:bY}{f:bY->Option (List AV)}:(V x).bind f=f x:=rfl
def awx{l:List AV}{f:List AV->Option AV}:(V l).bind f=f l:=rfl
def aD1{l:List AV}{f:List AV->List AV}:(V l).map f=V (f l):=rfl
def aBE{a:AV}{l:List AV}:(a::l)[0]?=V a:=rfl
def aBF{r:List AV}{l:List (List AV)}:(r::l)[0]?=V r:=rfl
def axE{l:List AV}:l.drop 0=l:=rfl
theorem dJ{n k:Nat}(h:k<n):aF n (k:Int):=⟨by omega,by omega⟩
theorem aL{k n:Nat}(h:Q ((k:Int)<(n:Int))=U):k<n:=by simpa using h
theorem bw{k n:Nat}(h:Q ((k:Int)<(n:Int))=I):n<=k:=by simpa using h
theorem bT{α:Type}[Inhabited α]{l:List α}{k:Nat}(h:k<L l):gd l k=l[k]:=by simp[gd,h]
def px{α:Type}[Inhabited α]{l:List α}{p:α->Prop}:(∀j,j<L l->p (gd l j))↔∀x∈l,p x:=by grind [ou,bT,List.getElem_mem]
def jf{p:Nat->Prop}{k:Nat}(h:∀j,j<k->p j)(a:p k):∀j,j<k+1->p j:=(by grind)
theorem dB{α:Type}[Inhabited α]{l:List α}{k:Nat}(h:k<L l):gd l k∈l:=by grind [bT]
def u1:=ai @av4<|ai @av2<|ai @av1<|ai @avY<|ai @iM<|ai @av6<|ai @cS<|ai @alr<|ai @av5<|ai @avU<|ai @avV<|ai @alq<|ai @aIN<|ai @cT<|ai @azQ<|ai @aC5<|ai @rR<|ai @uR<|ai @aFi<|ai @au<|ai @fE<|ai @f8<|ai @di<|ai @aI<|ai @aD0<|ai @aww<|ai @awx<|ai @aD1<|ai @aBF<|@axE
def br.ext_iff'{x y:br}:(x=y)=(x.cells=y.cells/\x.ak=y.ak/\x.bC=y.bC/\x.bU=y.bU/\x.ay=y.ay/\x.dU=y.dU):=by cases x;cases y;simp
def aW.ext_iff'{x y:aW}:(x=y)=(x.ak=y.ak/\x.tx=y.tx/\x.done=y.done/\x.ay=y.ay):=by cases x;cases y;simp
def bW.ext_iff'{x y:bW}:(x=y)=(x.bm.ak=y.bm.ak/\x.bm.tx=y.bm.tx/\x.bm.done=y.bm.done/\x.bm.ay=y.bm.ay/\x.cells=y.cells/\x.bU=y.bU/\x.count=y.count):=by obtain⟨⟨a,b,c,d⟩,e,f,g⟩:=x;obtain⟨⟨h,j,l,m⟩,n,o,p⟩:=y;grind
theorem kL{α:Type}{f:α->List AV}(a:∀x y,f x=f y->x=y){l l':List α}:(sl f l=sl f l')=(l=l'):=by apply vb;constructor;intro h;simp only[sl,AV.l.injEq,o8] at h;(induction l generalizing l' with|nil=>simp_all|cons x l b=>cases l' with|nil=>simp at h|cons y l'=>grind);simp_all
def aN8{l l':List Int}:(sl ci l=sl ci l')=(l=l'):=kL (by intro x y h;simpa using h)
def mD{l l':List Bool}:(sl cb l=sl cb l')=(l=l'):=kL (by intro x y h;simpa using h)
def mF{l l':List ByteArray}:(sl cs l=sl cs l')=(l=l'):=kL (by intro x y h;simpa using h)
def mE{l l':List (List Int)}:(sl cl l=sl cl l')=(l=l'):=kL (by intro x y h;simpa[cl,aN8] using h)
theorem amH{x y:cA}:(cA.c x=cA.c y)=(x=y):=by apply vb;constructor;intro h;(cases x;cases y);simp only[cA.c,kO,AV.s.injEq,mW,mV,mX,lS,o8,aN8,mD,mF,mE] at h;simp only[cA.mk.injEq,br.ext_iff',aW.ext_iff',bW.ext_iff',aoC];exact h;intro h;rw[h]
def nz{l l':List cA}:(sl cA.c l=sl cA.c l')=(l=l'):=(by grind [kL,amH])
theorem amN{x y:dS}:(dS.c x=dS.c y)=(x=y):=by apply vb;constructor;intro h;(cases x;cases y);simp only[dS.c,kO,AV.s.injEq,mW,mV,mX,lS,o8,aN8,mD,mF,mE,nz] at h;simp only[dS.mk.injEq,br.ext_iff',aW.ext_iff',bW.ext_iff',aoC];exact h;intro h;rw[h]
def nY{l l':List dS}:(sl dS.c l=sl dS.c l')=(l=l'):=(by grind [kL,amN])
theorem amI{x y:yp}:(yp.c x=yp.c y)=(x=y):=by apply vb;constructor;intro h;(cases x;cases y);simp only[yp.c,kO,AV.s.injEq,mW,mV,mX,lS,o8,aN8,mD,mF,mE,nz,nY] at h;simp only[yp.mk.injEq,br.ext_iff',aW.ext_iff',bW.ext_iff',aoC];exact h;intro h;rw[h]
def oN{l l':List yp}:(sl yp.c l=sl yp.c l')=(l=l'):=(by grind [kL,amI])
theorem amP{x y:dL}:(dL.c x=dL.c y)=(x=y):=by apply vb;constructor;intro h;(cases x;cases y);simp only[dL.c,kO,AV.s.injEq,mW,mV,mX,lS,o8,aN8,mD,mF,mE,nz,nY,oN] at h;simp only[dL.mk.injEq,br.ext_iff',aW.ext_iff',bW.ext_iff',aoC];exact h;intro h;rw[h]
def pL{l l':List dL}:(sl dL.c l=sl dL.c l')=(l=l'):=(by grind [kL,amP])
theorem amU{x y:br}:(br.c x=br.c y)=(x=y):=by apply vb;constructor;intro h;(cases x;cases y);simp only[br.c,kO,AV.s.injEq,mW,mV,mX,lS,o8,aN8,mD,mF,mE,nz,nY,oN,pL] at h;simp only[br.mk.injEq,br.ext_iff',aW.ext_iff',bW.ext_iff',aoC];exact h;intro h;rw[h]
def qJ{l l':List br}:(sl br.c l=sl br.c l')=(l=l'):=(by grind [kL,amU])
theorem amO{x y:cg}:(cg.c x=cg.c y)=(x=y):=by apply vb;constructor;intro h;(cases x;cases y);simp only[cg.c,kO,AV.s.injEq,mW,mV,mX,lS,o8,aN8,mD,mF,mE,nz,nY,oN,pL,qJ] at h;simp only[cg.mk.injEq,br.ext_iff',aW.ext_iff',bW.ext_iff',aoC];exact h;intro h;rw[h]
def rY{l l':List cg}:(sl cg.c l=sl cg.c l')=(l=l'):=(by grind [kL,amO])
theorem amS{x y:bF}:(bF.c x=bF.c y)=(x=y):=by apply vb;constructor;intro h;(cases x;cases y);simp only[bF.c,kO,AV.s.injEq,mW,mV,mX,lS,o8,aN8,mD,mF,mE,nz,nY,oN,pL,qJ,rY] at h;simp only[bF.mk.injEq,br.ext_iff',aW.ext_iff',bW.ext_iff',aoC];exact h;intro h;rw[h]
def td{l l':List bF}:(sl bF.c l=sl bF.c l')=(l=l'):=(by grind [kL,amS])
theorem amR{x y:aW}:(aW.c x=aW.c y)=(x=y):=by apply vb;constructor;intro h;(cases x;cases y);simp only[aW.c,kO,AV.s.injEq,mW,mV,mX,lS,o8,aN8,mD,mF,mE,nz,nY,oN,pL,qJ,rY,td] at h;simp only[aW.mk.injEq,br.ext_iff',aW.ext_iff',bW.ext_iff',aoC];exact h;intro h;rw[h]
def uz{l l':List aW}:(sl aW.c l=sl aW.c l')=(l=l'):=(by grind [kL,amR])
theorem amQ{x y:bW}:(bW.c x=bW.c y)=(x=y):=by apply vb;constructor;intro h;(cases x;cases y);simp only[bW.c,kO,AV.s.injEq,mW,mV,mX,lS,o8,aN8,mD,mF,mE,nz,nY,oN,pL,qJ,rY,td,uz] at h;simp only[bW.mk.injEq,br.ext_iff',aW.ext_iff',bW.ext_iff',aoC];exact h;intro h;rw[h]
def wq{l l':List bW}:(sl bW.c l=sl bW.c l')=(l=l'):=(by grind [kL,amQ])
theorem amK{x y:aP}:(aP.c x=aP.c y)=(x=y):=by apply vb;constructor;intro h;(cases x;cases y);simp only[aP.c,kO,AV.s.injEq,mW,mV,mX,lS,o8,aN8,mD,mF,mE,nz,nY,oN,pL,qJ,rY,td,uz,wq] at h;simp only[aP.mk.injEq,br.ext_iff',aW.ext_iff',bW.ext_iff',aoC];exact h;intro h;rw[h]
def yb{l l':List aP}:(sl aP.c l=sl aP.c l')=(l=l'):=(by grind [kL,amK])
theorem NA{x y:am}:(am.c x=am.c y)=(x=y):=by apply vb;constructor;intro h;(cases x;cases y);simp only[am.c,kO,AV.s.injEq,mW,mV,mX,lS,o8,aN8,mD,mF,mE,nz,nY,oN,pL,qJ,rY,td,uz,wq,yb] at h;simp only[am.mk.injEq,br.ext_iff',aW.ext_iff',bW.ext_iff',aoC];exact h;intro h;rw[h]
def AE{l l':List am}:(sl am.c l=sl am.c l')=(l=l'):=(by grind [kL,NA])
theorem amM{x y:cJ}:(cJ.c x=cJ.c y)=(x=y):=by apply vb;constructor;intro h;(cases x;cases y);simp only[cJ.c,kO,AV.s.injEq,mW,mV,mX,lS,o8,aN8,mD,mF,mE,nz,nY,oN,pL,qJ,rY,td,uz,wq,yb,AE] at h;simp only[cJ.mk.injEq,br.ext_iff',aW.ext_iff',bW.ext_iff',aoC];exact h;intro h;rw[h]
def DS{l l':List cJ}:(sl cJ.c l=sl cJ.c l')=(l=l'):=(by grind [kL,amM])
theorem amT{x y:ap}:(ap.c x=ap.c y)=(x=y):=by apply vb;constructor;intro h;(cases x;cases y);simp only[ap.c,kO,AV.s.injEq,mW,mV,mX,lS,o8,aN8,mD,mF,mE,nz,nY,oN,pL,qJ,rY,td,uz,wq,yb,AE,DS] at h;simp only[ap.mk.injEq,br.ext_iff',aW.ext_iff',bW.ext_iff',aoC];exact h;intro h;rw[h]
def bcT{l l':List ap}:(sl ap.c l=sl ap.c l')=(l=l'):=(by grind [kL,amT])
def amV:=ai @aN8<|ai @mD<|ai @mF<|ai @mE<|ai @nz<|ai @nY<|ai @oN<|ai @pL<|ai @amU<|ai @rY<|ai @amS<|ai @td<|ai @amR<|ai @uz<|ai @amQ<|ai @amK<|ai @yb<|ai @NA<|ai @amT<|@bcT
def aGq{x:cA}:aN J (cA.c x)=V (st x.name):=rfl
def aGr{x:cA}:aN J ((cA.c x).drop 1)=V (iv x.index):=rfl
def aGs{x:cA}:aN J ((cA.c x).drop 2)=V (iv x.size):=rfl
def aGt{x:cA}:aN J ((cA.c x).drop 3)=V (bv x.vol):=rfl
def aGu{x:cA}:aN J ((cA.c x).drop 4)=V (iv x.init):=rfl
def aGv{x:cA}:aN (V 5) (cA.c x)=V (.a (cA.c x)):=rfl
def aG0{x:dS}:aN J (dS.c x)=V (st x.name):=rfl
def aG1{x:dS}:aN J ((dS.c x).drop 1)=V (bv x.rw):=rfl
def aG2{x:dS}:aN (V 2) (dS.c x)=V (.a (dS.c x)):=rfl
def aGy{x:yp}:aN J (yp.c x)=V (st x.name):=rfl
def aGz{x:yp}:aN J ((yp.c x).drop 1)=V (iv x.eg):=rfl
def aGA{x:yp}:aN (V 2) (yp.c x)=V (.a (yp.c x)):=rfl
def aG6{x:dL}:aN J (dL.c x)=V (iv x.aq):=rfl
def aG7{x:dL}:aN J ((dL.c x).drop 1)=V (iv x.stmt):=rfl
def aG9{x:dL}:aN (V 3) (dL.c x)=V (.a (dL.c x)):=rfl
def aHP{x:br}:aN J (br.c x)=V (sl cA.c x.cells):=rfl
def aHQ{x:br}:aN J ((br.c x).drop 1)=V (sl dS.c x.ak):=rfl
def aHR{x:br}:aN J ((br.c x).drop 2)=V (sl yp.c x.bC):=rfl
def aHS{x:br}:aN J ((br.c x).drop 3)=V (sl cs x.bU):=rfl
def aHT{x:br}:aN J ((br.c x).drop 4)=V (sl cs x.ay):=rfl
def aHU{x:br}:aN J ((br.c x).drop 5)=V (sl dL.c x.dU):=rfl
def aHV{x:br}:aN (V 6) (br.c x)=V (.a (br.c x)):=rfl
def aG3{x:cg}:aN J (cg.c x)=V (iv x.pw):=rfl
def aG4{x:cg}:aN J ((cg.c x).drop 1)=V (sl ci x.bk):=rfl
def aG5{x:cg}:aN (V 2) (cg.c x)=V (.a (cg.c x)):=rfl
def aHo{x:bF}:aN J (bF.c x)=V (iv x.cQ):=rfl
def aHp{x:bF}:aN J ((bF.c x).drop 1)=V (iv x.cond):=rfl
def aHq{x:bF}:aN J ((bF.c x).drop 2)=V (bv x.atomic):=rfl
def aHr{x:bF}:aN (V 3) (bF.c x)=V (.a (bF.c x)):=rfl
def aHj{x:aW}:aN J (aW.c x)=V (sl cg.c x.ak):=rfl
def aHk{x:aW}:aN J ((aW.c x).drop 1)=V (iv x.tx):=rfl
def aHl{x:aW}:aN J ((aW.c x).drop 2)=V (sl cb x.done):=rfl
def aHm{x:aW}:aN J ((aW.c x).drop 3)=V (sl bF.c x.ay):=rfl
def aHn{x:aW}:aN (V 4) (aW.c x)=V (.a (aW.c x)):=rfl
def aHc{x:bW}:aN J ((bW.c x).drop 2)=V (sl cb x.bm.done):=rfl
def aHd{x:bW}:aN J ((bW.c x).drop 3)=V (sl bF.c x.bm.ay):=rfl
def aHe{x:bW}:aN J ((bW.c x).drop 4)=V (sl ci x.cells):=rfl
def aHf{x:bW}:aN J ((bW.c x).drop 5)=V (sl ci x.bU):=rfl
def aHg{x:bW}:aN J ((bW.c x).drop 6)=V (sl ci x.count):=rfl
def aHh{x:bW}:aN (V 7) (bW.c x)=V (.a (bW.c x)):=rfl
def aHi{x:bW}:aN (V 4) (bW.c x)=V (.a (aW.c x.bm)):=rfl
def aGG{x:aP}:aN J (aP.c x)=V (iv x.aq):=rfl
def aGH{x:aP}:aN J ((aP.c x).drop 1)=V (iv x.kind):=rfl
def aGI{x:aP}:aN J ((aP.c x).drop 2)=V (iv x.bb):=rfl
def aGJ{x:aP}:aN J ((aP.c x).drop 3)=V (iv x.value):=rfl
def aGK{x:aP}:aN J ((aP.c x).drop 4)=V (iv x.site):=rfl
def aGL{x:aP}:aN J ((aP.c x).drop 5)=V (sl ci x.dI):=rfl
def aGM{x:aP}:aN J ((aP.c x).drop 6)=V (sl ci x.ep):=rfl
def aGN{x:aP}:aN (V 7) (aP.c x)=V (.a (aP.c x)):=rfl
def aHx{x:am}:aN J ((am.c x).drop 1)=V (sl dS.c x.aQ.ak):=rfl
def aHD{x:am}:aN J ((am.c x).drop 2)=V (sl yp.c x.aQ.bC):=rfl
def aHF{x:am}:aN J ((am.c x).drop 4)=V (sl cs x.aQ.ay):=rfl
def aHH{x:am}:aN J ((am.c x).drop 6)=V (iv x.start):=rfl
def aHI{x:am}:aN J ((am.c x).drop 7)=V (sl cg.c x.init.bm.ak):=rfl
def aHJ{x:am}:aN J ((am.c x).drop 8)=V (iv x.init.bm.tx):=rfl
def aHK{x:am}:aN J ((am.c x).drop 9)=V (sl cb x.init.bm.done):=rfl
def aHy{x:am}:aN J ((am.c x).drop 10)=V (sl bF.c x.init.bm.ay):=rfl
def aHz{x:am}:aN J ((am.c x).drop 11)=V (sl ci x.init.cells):=rfl
def aHA{x:am}:aN J ((am.c x).drop 12)=V (sl ci x.init.bU):=rfl
def aHB{x:am}:aN J ((am.c x).drop 13)=V (sl ci x.init.count):=rfl
def aHC{x:am}:aN J ((am.c x).drop 14)=V (sl aP.c x.ac):=rfl
def aHN{x:am}:aN (V 15) (am.c x)=V (.a (am.c x)):=rfl
def aHO{x:am}:aN (V 6) (am.c x)=V (.a (br.c x.aQ)):=rfl
def aHL{x:am}:aN (V 7) ((am.c x).drop 7)=V (.a (bW.c x.init)):=rfl
def aHM{x:am}:aN (V 4) ((am.c x).drop 7)=V (.a (aW.c x.init.bm)):=rfl
def aHv{x:ap}:aN (V 3) (ap.c x)=V (.a (ap.c x)):=rfl
def aGw{x:Int}:aN J (ci x)=V (iv x):=rfl
def aGp{x:Bool}:aN J (cb x)=V (bv x):=rfl
def aGB{x:ByteArray}:aN J (cs x)=V (st x):=rfl
def aC6{q:Option Nat}{Y:ae}{cs:List AV}:kb q Y (.q cs)=aN q cs:=rfl
def dd{l:List AV}{a b:Nat}:(l.drop a).drop b=l.drop (a+b):=List.drop_drop
def zN{Y:ae}{x:br}:dG Y (.a (br.c x))= .a (br.c x):=rfl
def avI{Y:ae}{x:bF}:dG Y (.a (bF.c x))= .a (bF.c x):=rfl
def avH{Y:ae}{x:aW}:dG Y (.a (aW.c x))= .a (aW.c x):=rfl
def avG{Y:ae}{x:bW}:dG Y (.a (bW.c x))= .a (bW.c x):=rfl
def CU{Y:ae}{x:aP}:dG Y (.a (aP.c x))= .a (aP.c x):=rfl
def sH{Y:ae}{x:am}:dG Y (.a (am.c x))= .a (am.c x):=rfl
def avJ{Y:ae}{x:ap}:dG Y (.a (ap.c x))= .a (ap.c x):=rfl
def ar:=ai @jM<|ai @jt<|ai @kU<|ai @tW<|ai @alg<|ai @CV<|ai @AL<|ai @Ql<|ai @QQ<|ai @gT<|ai @lS<|ai @zN<|ai @avI<|ai @avH<|ai @avG<|ai @CU<|ai @sH<|@avJ
def rk:=ai @aGq<|ai @aGr<|ai @aGs<|ai @aGt<|ai @aGu<|ai @aGv<|ai @aG0<|ai @aG1<|ai @aG2<|ai @aGy<|ai @aGz<|ai @aGA<|ai @aG6<|ai @aG7<|ai @aG9<|ai @aHP<|ai @aHQ<|ai @aHR<|ai @aHS<|ai @aHT<|ai @aHU<|ai @aHV<|ai @aG3<|ai @aG4<|ai @aG5<|ai @aHo<|ai @aHp<|ai @aHq<|ai @aHr<|ai @aHj<|ai @aHk<|ai @aHl<|ai @aHm<|ai @aHn<|ai @aHc<|ai @aHd<|ai @aHe<|ai @aHf<|ai @aHg<|ai @aHh<|ai @aHi<|ai @aGG<|ai @aGH<|ai @aGI<|ai @aGJ<|ai @aGK<|ai @aGL<|ai @aGM<|ai @aGN<|ai @aHx<|ai @aHD<|ai @aHF<|ai @aHH<|ai @aHI<|ai @aHJ<|ai @aHK<|ai @aHy<|ai @aHz<|ai @aHA<|ai @aHB<|ai @aHC<|ai @aHN<|ai @aHO<|ai @aHL<|ai @aHM<|ai @aHv<|ai @aGw<|ai @aGp<|ai @aGB<|@aC6
def bA{n k:Nat}(h:Q ((k:Int)<(n:Int))=U):aF n (k:Int):=dJ (aL h)
def axz{a b:AV}{l m:List AV}:(a::l=b::m)=(a=b/\l=m):=by simp
def ass{A:Type}:(A->True)=True:=by simp
def asr{p:Prop}:(p->True)=True:=by simp
def ij:=ai @axz<|ai @AV.a.injEq<|ai @AV.s.injEq<|ai @mW<|ai @mV<|ai @mX<|ai @lS<|ai @o8<|ai @amV<|ai @ass<|@asr
abbrev H0(W:ae->Prop):Prop:=∀s:ae,L s=4096->(∀k,aZ s k=mO)->W s
abbrev H1(t n p:Nat)(c:List AV)(W:be):Prop:=∀s:ae,L s=4096->box s (p,1)=V ⟨t,n,U,U,[c]⟩->(∀k,k≠p->aZ s k=mO)->W (.p (p,1) 0 0) s
abbrev H2(t n p:Nat)(c:List AV)(e d a:Nat)(b:List AV)(W:AV->be):Prop:=∀s:ae,L s=4096->box s (p,1)=V ⟨t,n,U,U,[c]⟩->box s (a,1)=V ⟨e,d,U,U,[b]⟩->(∀k,k≠p->k≠a->aZ s k=mO)->W (.p (p,1) 0 0) (.p (a,1) 0 0) s
section
variable{T:dO}(an:List (Option (List Nat×List Nat))){f:Func}{fn:Nat}{xs:List AV}{R:d7}
def z0{W:ae->Prop}(c:eJ T)(a:aS.funcs[fn]?=V f)(h:H0 W)(b:uM an f (L xs)=U:=by kernel_rfl)(d:ZF aS GG T an f xs R=W (ly f):=by kernel_rfl):Ct fn xs R:=uq ready c a b (aND d (h _ uB (i8 _)))
def z1{t n p:Nat}{c:List AV}{W:be}(m:eJ T)(g:aS.funcs[fn]?=V f)(l:L c=n)(h:H1 t n p c W)(j:uM an f (L xs)=U:=by kernel_rfl)(b:Q (p<4096/\0<n)=U:=by exact rfl)(o:ZF aS GG T an f xs R=eV (qm t n (ly f) p (.a c)) W:=by kernel_rfl):Ct fn xs R:=by have b:=nt b;refine uq ready m g j (aND o ?_);refine mY (N:=4096) rfl l b.2 b.1 uB (by rw[i8]) λr q d s g0=>?_;exact h r q d (λk e=>by rw[g0 k e];exact i8 _ k)
def z2{t n p q d e:Nat}{c l:List AV}{W:AV->be}(B:eJ T)(y:aS.funcs[fn]?=V f)(A:L c=n)(m:L l=d)(h:H2 t n p c q d e l W)(z:uM an f (L xs)=U:=by kernel_rfl)(b:Q ((p<4096/\0<n)/\(e<4096/\0<d)/\p≠e)=U:=by exact rfl)(C:ZF aS GG T an f xs R=eV (qm t n (ly f) p (.a c)) λi s=>eV (qm q d s e (.a l)) λj s=>W i j s:=by kernel_rfl):Ct fn xs R:=by obtain⟨b,g,o⟩:=nt b;refine uq ready B y z (aND C ?_);refine mY (N:=4096) rfl A b.2 b.1 uB (by rw[i8]) λK D r H g0=>?_;refine mY (N:=4096) rfl m g.2 g.1 D (by rw[g0 _ (Ne.symm o),i8]) λG E u v g1=>?_;exact h G E (by rw[v _ _ o];exact r) u (λk w x=>by rw[g1 k x,g0 k w];exact i8 _ k)
end
abbrev EB(fn:Nat)(xs:List AV)(Y:ae)(R:be):Prop:=∃r a,R r a/\cZ aS GG fn xs Y r a
def zB{T:dO}(an:List (Option (List Nat×List Nat))){f:Func}{fn:Nat}{xs:List AV}{Y:ae}{R:be}{Q:Prop}(c:eJ T)(a:aS.funcs[fn]?=V f)(h:Q)(b:uM an f (L xs)=U:=by kernel_rfl)(d:ZB aS GG T an f xs Y R=Q:=by kernel_rfl):EB fn xs Y R:=aBe ready c a b (aND d h)
section
variable{i:Nat}(F:FT)
def BJ{a:List AV}{v:AV}(k:Ct i (a) (·=v)):FT:=λys K=>ys=a/\K (v)
def al2{b:List AV}{v:AV}(k:Ct i (b) (·=v))(a K:d7)(d:F=BJ k:=by exact rfl):fW F (b) a K=(a (v)/\K (v)):=by subst d;apply vb;constructor;rintro⟨h,c⟩;exact c;intro h;exact⟨rfl,h⟩
def apM{a:List AV}{v:AV}(k:Ct i (a) (·=v))(b:∀_:Unit,(a).all iX=U:=by intros;exact rfl):∀ys K,BJ k ys K->jz aS GG i ys K:=by rintro ys K ⟨rfl,h⟩;exact nX (k) (b ()) (λr c=>by rw[c];exact h)
def BK{a:List AV}{b:d7}(k:Ct i (a) (b)):FT:=λys K=>ys=a/\∀r,b r->K r
def al3{b:List AV}{c:d7}(k:Ct i (b) (c))(a K:d7)(e:F=BK k:=by exact rfl):fW F (b) a K=(∀r,c r->a r/\K r):=by subst e;apply vb;constructor;rintro⟨h,d⟩;exact d;intro h;exact⟨rfl,h⟩
def apN{a:List AV}{d:d7}(k:Ct i (a) (d))(b:∀_:Unit,(a).all iX=U:=by intros;exact rfl):∀ys K,BK k ys K->jz aS GG i ys K:=by rintro ys K ⟨rfl,h⟩;exact nX (k) (b ()) (λr c=>h r c)
def lH{A:Type}{b:A->List AV}{v:A->AV}(k:∀a,Ct i (b a) (·=v a)):FT:=λys K=>∃a,ys=b a/\K (v a)
def np{A:Type}{b:A->List AV}{v:A->AV}(k:∀a,Ct i (b a) (·=v a))(a:A)(d K:d7)(g:F=lH k:=by exact rfl)(j:∀a c,b a=b c->a=c:=by simp+contextual only[ij]):fW F (b a) d K=(d (v a)/\K (v a)):=by subst g;apply vb;constructor;rintro⟨c,h,e⟩;obtain rfl:=j _ _ h;exact e;intro h;exact⟨_,rfl,h⟩
def nH{A:Type}{b:A->List AV}{v:A->AV}(k:∀a,Ct i (b a) (·=v a))(c:∀a,(b a).all iX=U:=by intros;exact rfl):∀ys K,lH k ys K->jz aS GG i ys K:=by rintro ys K ⟨a,rfl,h⟩;exact nX (k a) (c a) (λr d=>by rw[d];exact h)
def mT{A:Type}{b:A->List AV}{c:A->Prop}{v:A->AV}(k:∀a,c a->Ct i (b a) (·=v a)):FT:=λys K=>∃a,ys=b a/\c a/\K (v a)
def oK{A:Type}{b:A->List AV}{e:A->Prop}{v:A->AV}(k:∀a,e a->Ct i (b a) (·=v a))(a:A)(d K:d7)(l:F=mT k:=by exact rfl)(j:∀a c,b a=b c->a=c:=by simp+contextual only[ij]):fW F (b a) d K=(e a/\d (v a)/\K (v a)):=by subst l;apply vb;constructor;rintro⟨c,h,g⟩;obtain rfl:=j _ _ h;exact g;intro h;exact⟨_,rfl,h⟩
def pg{A:Type}{b:A->List AV}{g:A->Prop}{v:A->AV}(k:∀a,g a->Ct i (b a) (·=v a))(c:∀a,(b a).all iX=U:=by intros;exact rfl):∀ys K,mT k ys K->jz aS GG i ys K:=by rintro ys K ⟨a,rfl,d,h⟩;exact nX (k a d) (c a) (λr e=>by rw[e];exact h)
def om{A:Type}{b:A->List AV}{c:A->Prop}{d:A->d7}(k:∀a,c a->Ct i (b a) (d a)):FT:=λys K=>∃a,ys=b a/\c a/\∀r,d a r->K r
def qz{A:Type}{b:A->List AV}{e:A->Prop}{g:A->d7}(k:∀a,e a->Ct i (b a) (g a))(a:A)(d K:d7)(m:F=om k:=by exact rfl)(j:∀a c,b a=b c->a=c:=by simp+contextual only[ij]):fW F (b a) d K=(e a/\∀r,g a r->d r/\K r):=by subst m;apply vb;constructor;rintro⟨c,h,l⟩;obtain rfl:=j _ _ h;exact l;intro h;exact⟨_,rfl,h⟩
def rj{A:Type}{b:A->List AV}{g:A->Prop}{j:A->d7}(k:∀a,g a->Ct i (b a) (j a))(c:∀a,(b a).all iX=U:=by intros;exact rfl):∀ys K,om k ys K->jz aS GG i ys K:=by rintro ys K ⟨a,rfl,d,h⟩;exact nX (k a d) (c a) (λr e=>h r e)
def lI{A B:Type}{c:A->B->List AV}{v:A->B->AV}(k:∀a b,Ct i (c a b) (·=v a b)):FT:=λys K=>∃a b,ys=c a b/\K (v a b)
def nq{A B:Type}{c:A->B->List AV}{v:A->B->AV}(k:∀a b,Ct i (c a b) (·=v a b))(a:A)(b:B)(g K:d7)(m:F=lI k:=by exact rfl)(j:∀a b d e,c a b=c d e->a=d/\b=e:=by simp+contextual only[ij]):fW F (c a b) g K=(g (v a b)/\K (v a b)):=by subst m;apply vb;constructor;rintro⟨d,e,h,l⟩;obtain⟨rfl,rfl⟩:=j _ _ _ _ h;exact l;intro h;exact⟨_,_,rfl,h⟩
def nI{A B:Type}{c:A->B->List AV}{v:A->B->AV}(k:∀a b,Ct i (c a b) (·=v a b))(d:∀a b,(c a b).all iX=U:=by intros;exact rfl):∀ys K,lI k ys K->jz aS GG i ys K:=by rintro ys K ⟨a,b,rfl,h⟩;exact nX (k a b) (d a b) (λr e=>by rw[e];exact h)
def gz{A B:Type}{c:A->B->List AV}{d:A->B->Prop}{v:A->B->AV}(k:∀a b,d a b->Ct i (c a b) (·=v a b)):FT:=λys K=>∃a b,ys=c a b/\d a b/\K (v a b)
def gX{A B:Type}{c:A->B->List AV}{l:A->B->Prop}{v:A->B->AV}(k:∀a b,l a b->Ct i (c a b) (·=v a b))(a:A)(b:B)(g K:d7)(n:F=gz k:=by exact rfl)(j:∀a b d e,c a b=c d e->a=d/\b=e:=by simp+contextual only[ij]):fW F (c a b) g K=(l a b/\g (v a b)/\K (v a b)):=by subst n;apply vb;constructor;rintro⟨d,e,h,m⟩;obtain⟨rfl,rfl⟩:=j _ _ _ _ h;exact m;intro h;exact⟨_,_,rfl,h⟩
def aCb{A B:Type}{c:A->B->List AV}{j:A->B->Prop}{v:A->B->AV}(k:∀a b,j a b->Ct i (c a b) (·=v a b))(d:∀a b,(c a b).all iX=U:=by intros;exact rfl):∀ys K,gz k ys K->jz aS GG i ys K:=by rintro ys K ⟨a,b,rfl,e,h⟩;exact nX (k a b e) (d a b) (λr g=>by rw[g];exact h)
def pn{A B:Type}{c:A->B->List AV}{d:A->B->Prop}{e:A->B->d7}(k:∀a b,d a b->Ct i (c a b) (e a b)):FT:=λys K=>∃a b,ys=c a b/\d a b/\∀r,e a b r->K r
def rQ{A B:Type}{c:A->B->List AV}{l:A->B->Prop}{m:A->B->d7}(k:∀a b,l a b->Ct i (c a b) (m a b))(a:A)(b:B)(g K:d7)(o:F=pn k:=by exact rfl)(j:∀a b d e,c a b=c d e->a=d/\b=e:=by simp+contextual only[ij]):fW F (c a b) g K=(l a b/\∀r,m a b r->g r/\K r):=by subst o;apply vb;constructor;rintro⟨d,e,h,n⟩;obtain⟨rfl,rfl⟩:=j _ _ _ _ h;exact n;intro h;exact⟨_,_,rfl,h⟩
def aN0{A B:Type}{c:A->B->List AV}{j:A->B->Prop}{l:A->B->d7}(k:∀a b,j a b->Ct i (c a b) (l a b))(d:∀a b,(c a b).all iX=U:=by intros;exact rfl):∀ys K,pn k ys K->jz aS GG i ys K:=by rintro ys K ⟨a,b,rfl,e,h⟩;exact nX (k a b e) (d a b) (λr g=>h r g)
def za{A B C:Type}{d:A->B->C->List AV}{v:A->B->C->AV}(k:∀a b c,Ct i (d a b c) (·=v a b c)):FT:=λys K=>∃a b c,ys=d a b c/\K (v a b c)
def KP{A B C:Type}{d:A->B->C->List AV}{v:A->B->C->AV}(k:∀a b c,Ct i (d a b c) (·=v a b c))(a:A)(b:B)(c:C)(m K:d7)(o:F=za k:=by exact rfl)(j:∀a b c e g l,d a b c=d e g l->a=e/\b=g/\c=l:=by simp+contextual only[ij]):fW F (d a b c) m K=(m (v a b c)/\K (v a b c)):=by subst o;apply vb;constructor;rintro⟨e,g,l,h,n⟩;obtain⟨rfl,rfl,rfl⟩:=j _ _ _ _ _ _ h;exact n;intro h;exact⟨_,_,_,rfl,h⟩
def Rs{A B C:Type}{d:A->B->C->List AV}{v:A->B->C->AV}(k:∀a b c,Ct i (d a b c) (·=v a b c))(e:∀a b c,(d a b c).all iX=U:=by intros;exact rfl):∀ys K,za k ys K->jz aS GG i ys K:=by rintro ys K ⟨a,b,c,rfl,h⟩;exact nX (k a b c) (e a b c) (λr g=>by rw[g];exact h)
def qe{A B C:Type}{d:A->B->C->List AV}{e:A->B->C->Prop}{v:A->B->C->AV}(k:∀a b c,e a b c->Ct i (d a b c) (·=v a b c)):FT:=λys K=>∃a b c,ys=d a b c/\e a b c/\K (v a b c)
def sT{A B C:Type}{d:A->B->C->List AV}{n:A->B->C->Prop}{v:A->B->C->AV}(k:∀a b c,n a b c->Ct i (d a b c) (·=v a b c))(a:A)(b:B)(c:C)(m K:d7)(p:F=qe k:=by exact rfl)(j:∀a b c e g l,d a b c=d e g l->a=e/\b=g/\c=l:=by simp+contextual only[ij]):fW F (d a b c) m K=(n a b c/\m (v a b c)/\K (v a b c)):=by subst p;apply vb;constructor;rintro⟨e,g,l,h,o⟩;obtain⟨rfl,rfl,rfl⟩:=j _ _ _ _ _ _ h;exact o;intro h;exact⟨_,_,_,rfl,h⟩
def tE{A B C:Type}{d:A->B->C->List AV}{l:A->B->C->Prop}{v:A->B->C->AV}(k:∀a b c,l a b c->Ct i (d a b c) (·=v a b c))(e:∀a b c,(d a b c).all iX=U:=by intros;exact rfl):∀ys K,qe k ys K->jz aS GG i ys K:=by rintro ys K ⟨a,b,c,rfl,g,h⟩;exact nX (k a b c g) (e a b c) (λr j=>by rw[j];exact h)
def vn{A B C:Type}{d:A->B->C->List AV}{e:A->B->C->Prop}{g:A->B->C->d7}(k:∀a b c,e a b c->Ct i (d a b c) (g a b c)):FT:=λys K=>∃a b c,ys=d a b c/\e a b c/\∀r,g a b c r->K r
def zZ{A B C:Type}{d:A->B->C->List AV}{n:A->B->C->Prop}{o:A->B->C->d7}(k:∀a b c,n a b c->Ct i (d a b c) (o a b c))(a:A)(b:B)(c:C)(m K:d7)(q:F=vn k:=by exact rfl)(j:∀a b c e g l,d a b c=d e g l->a=e/\b=g/\c=l:=by simp+contextual only[ij]):fW F (d a b c) m K=(n a b c/\∀r,o a b c r->m r/\K r):=by subst q;apply vb;constructor;rintro⟨e,g,l,h,p⟩;obtain⟨rfl,rfl,rfl⟩:=j _ _ _ _ _ _ h;exact p;intro h;exact⟨_,_,_,rfl,h⟩
def By{A B C:Type}{d:A->B->C->List AV}{l:A->B->C->Prop}{m:A->B->C->d7}(k:∀a b c,l a b c->Ct i (d a b c) (m a b c))(e:∀a b c,(d a b c).all iX=U:=by intros;exact rfl):∀ys K,vn k ys K->jz aS GG i ys K:=by rintro ys K ⟨a,b,c,rfl,g,h⟩;exact nX (k a b c g) (e a b c) (λr j=>h r j)
def ER{A B C D:Type}{e:A->B->C->D->List AV}{g:A->B->C->D->Prop}{h:A->B->C->D->d7}(k:∀a b c d,g a b c d->Ct i (e a b c d) (h a b c d)):FT:=λys K=>∃a b c d,ys=e a b c d/\g a b c d/\∀r,h a b c d r->K r
def axQ{A B C D:Type}{e:A->B->C->D->List AV}{p:A->B->C->D->Prop}{q:A->B->C->D->d7}(k:∀a b c d,p a b c d->Ct i (e a b c d) (q a b c d))(a:A)(b:B)(c:C)(d:D)(o K:d7)(t:F=ER k:=by exact rfl)(j:∀a b c d g l m n,e a b c d=e g l m n->a=g/\b=l/\c=m/\d=n:=by simp+contextual only[ij]):fW F (e a b c d) o K=(p a b c d/\∀r,q a b c d r->o r/\K r):=by subst t;apply vb;constructor;rintro⟨g,l,m,n,h,s⟩;obtain⟨rfl,rfl,rfl,rfl⟩:=j _ _ _ _ _ _ _ _ h;exact s;intro h;exact⟨_,_,_,_,rfl,h⟩
def aM6{A B C D:Type}{e:A->B->C->D->List AV}{m:A->B->C->D->Prop}{n:A->B->C->D->d7}(k:∀a b c d,m a b c d->Ct i (e a b c d) (n a b c d))(g:∀a b c d,(e a b c d).all iX=U:=by intros;exact rfl):∀ys K,ER k ys K->jz aS GG i ys K:=by rintro ys K ⟨a,b,c,d,rfl,j,h⟩;exact nX (k a b c d j) (g a b c d) (λr l=>h r l)
def zb{A B C D E:Type}{g:A->B->C->D->E->List AV}{h:A->B->C->D->E->Prop}{v:A->B->C->D->E->AV}(k:∀a b c d e,h a b c d e->Ct i (g a b c d e) (·=v a b c d e)):FT:=λys K=>∃a b c d e,ys=g a b c d e/\h a b c d e/\K (v a b c d e)
def KQ{A B C D E:Type}{g:A->B->C->D->E->List AV}{r:A->B->C->D->E->Prop}{v:A->B->C->D->E->AV}(k:∀a b c d e,r a b c d e->Ct i (g a b c d e) (·=v a b c d e))(a:A)(b:B)(c:C)(d:D)(e:E)(q K:d7)(t:F=zb k:=by exact rfl)(j:∀a b c d e l m n o p,g a b c d e=g l m n o p->a=l/\b=m/\c=n/\d=o/\e=p:=by simp+contextual only[ij]):fW F (g a b c d e) q K=(r a b c d e/\q (v a b c d e)/\K (v a b c d e)):=by subst t;apply vb;constructor;rintro⟨l,m,n,o,p,h,s⟩;obtain⟨rfl,rfl,rfl,rfl,rfl⟩:=j _ _ _ _ _ _ _ _ _ _ h;exact s;intro h;exact⟨_,_,_,_,_,rfl,h⟩
def Rt{A B C D E:Type}{g:A->B->C->D->E->List AV}{n:A->B->C->D->E->Prop}{v:A->B->C->D->E->AV}(k:∀a b c d e,n a b c d e->Ct i (g a b c d e) (·=v a b c d e))(j:∀a b c d e,(g a b c d e).all iX=U:=by intros;exact rfl):∀ys K,zb k ys K->jz aS GG i ys K:=by rintro ys K ⟨a,b,c,d,e,rfl,l,h⟩;exact nX (k a b c d e l) (j a b c d e) (λr m=>by rw[m];exact h)
def BL{A B C D E G:Type}{h:A->B->C->D->E->G->List AV}{j:A->B->C->D->E->G->Prop}{l:A->B->C->D->E->G->d7}(k:∀a b c d e g,j a b c d e g->Ct i (h a b c d e g) (l a b c d e g)):FT:=λys K=>∃a b c d e g,ys=h a b c d e g/\j a b c d e g/\∀r,l a b c d e g r->K r
def al4{A B C D E G:Type}{l:A->B->C->D->E->G->List AV}{u:A->B->C->D->E->G->Prop}{v:A->B->C->D->E->G->d7}(k:∀a b c d e g,u a b c d e g->Ct i (l a b c d e g) (v a b c d e g))(a:A)(b:B)(c:C)(d:D)(e:E)(g:G)(t K:d7)(x:F=BL k:=by exact rfl)(j:∀a b c d e g m n o p q s,l a b c d e g=l m n o p q s->a=m/\b=n/\c=o/\d=p/\e=q/\g=s:=by simp+contextual only[ij]):fW F (l a b c d e g) t K=(u a b c d e g/\∀r,v a b c d e g r->t r/\K r):=by subst x;apply vb;constructor;rintro⟨m,n,o,p,q,s,h,w⟩;obtain⟨rfl,rfl,rfl,rfl,rfl,rfl⟩:=j _ _ _ _ _ _ _ _ _ _ _ _ h;exact w;intro h;exact⟨_,_,_,_,_,_,rfl,h⟩
def apO{A B C D E G:Type}{j:A->B->C->D->E->G->List AV}{o:A->B->C->D->E->G->Prop}{p:A->B->C->D->E->G->d7}(k:∀a b c d e g,o a b c d e g->Ct i (j a b c d e g) (p a b c d e g))(l:∀a b c d e g,(j a b c d e g).all iX=U:=by intros;exact rfl):∀ys K,BL k ys K->jz aS GG i ys K:=by rintro ys K ⟨a,b,c,d,e,g,rfl,m,h⟩;exact nX (k a b c d e g m) (l a b c d e g) (λr n=>h r n)
end
def atS:=bi 10 [(3,([5],[0,1]))]
def aca s0 b e R(d:cG)(m1:fD) a:=∀_:Rg,aJ s0 b λf=>aU (gt a 0) f λt3=>ah t3 (ao 1 s0 b (gt a 0) λt4=>aM s0 t4 λg=>bf g e λh=>ah h (aE R s0 [(bv U)]) (aV (gt a 0) (iv 1) λc=>d [c]/\m1 [c]<m1 a)) (aE R s0 [(bv I)])
def IB a b s0 R:=lR [(iv 0)] (aca s0 a b R)
def aLl{a:AV}{b:AV}{R:d7}(h:H0 λs0=>IB a b s0 R):Ct 159 [a,b] R:=z0 atS wO Tryz.func159 h
def at1:=bi 2 []
def ac8 a b s0 R:=aO .geq a (iv 0) λt1=>fm t1 a λt3=>fm t1 b λc=>az t1 (aU t3 c) λd=>aD t1 d (bv I) λe=>aE R s0 [e]
def aLu{a:AV}{b:AV}{R:d7}(h:H0 λs0=>ac8 a b s0 R):Ct 157 [a,b] R:=z0 at1 wO Tryz.func157 h
def at7:=bi 2 []
def adQ a b s0 R:=aO .geq a (iv 0) λt1=>fm t1 a λt3=>fm t1 b λc=>az t1 (aU t3 c) λd=>aD t1 d (bv I) λe=>aE R s0 [e]
def aLA{a:AV}{b:AV}{R:d7}(h:H0 λs0=>adQ a b s0 R):Ct 106 [a,b] R:=z0 at7 wO Tryz.func106 h
def aug:=bi 2 []
def aeg a b s0 R:=aO .geq a (iv 0) λt1=>fm t1 a λt3=>fm t1 b λc=>az t1 (aU t3 c) λd=>aD t1 d (bv I) λe=>aE R s0 [e]
def aLJ{a:AV}{b:AV}{R:d7}(h:H0 λs0=>aeg a b s0 R):Ct 104 [a,b] R:=z0 aug wO Tryz.func104 h
def atY:=bi 10 [(3,([5],[2,3]))]
def acU a c R g(M:cG)(i:fD) f:=∀_:Rg,ab 2 a c λN=>aJ a N λO=>aU (gt f 0) O λP=>ah P (ab 2 a c λj=>ao 2 a j (gt f 0) λk=>ab 1 a k λl=>aU l (iv 0) λb=>bn b 2 a c λm=>ic b (gt f 0) λn=>aC b (ao 2 a m n) λo=>bn b 1 a o λp=>bn b 1 a c λq=>aC b (aJ a q) λr=>aC b (aO .geq p r) λs=>aD b (bv U) s λt=>ah t (aE R a [(bv I)]) (aV (gt f 0) (iv 1) λh=>M [h]/\i [h]<i f)) (ab 0 a g λu=>aJ a u λv=>ab 1 a c λw=>aJ a w λx=>bf v x λd=>aT d 2 a g λy=>az d (aJ a y) λz=>aT d 3 a c λA=>az d (aJ a A) λB=>az d (bf z B) λC=>aD d C (bv I) λe=>aT e 3 a g λD=>az e (aJ a D) λE=>aT e 4 a c λF=>az e (aJ a F) λG=>az e (bf E G) λH=>aD e H (bv I) λK=>aE R a [K])
def IG b a c R:=lR [(iv 0)] (acU c b R a)
def aLr{b:List AV}{c:List AV}{R:d7}(l0:L b=6)(l1:L c=4)(h:H2 31 6 2 b 36 4 3 c λd e f=>IG d e f R):Ct 103 [.a b, .a c] R:=z2 atY wO Tryz.func103 l0 l1 h
def dh(i n:Int):Bool:=Q (0<=i)&&Q (i<n)
def DR{i:Int}{n:Nat}:(dh i n=U->aF n i)=True:=by simp[dh,aF]
theorem dX{i:Int}{n:Nat}:dh i n=U↔aF n i:=by simp[dh,aF]
def OR(i n:Int):Ct 157 [iv i,iv n] (·=bv (dh i n)):=by refine aLu λs0 b a=>?_;simp+contextual only[ac8,u0,u1,dh,↓uL]
def su:FT:=lI OR
def ayO{i n Lw K}:=nq su OR i n Lw K
def OW(i n:Int):Ct 106 [iv i,iv n] (·=bv (dh i n)):=by refine aLA λs0 b a=>?_;simp+contextual only[adQ,u0,u1,dh,↓uL]
def Ce:FT:=lI OW
def ayT{i n Lw K}:=nq Ce OW i n Lw K
def Pd(i n:Int):Ct 104 [iv i,iv n] (·=bv (dh i n)):=by refine aLJ λs0 b a=>?_;simp+contextual only[aeg,u0,u1,dh,↓uL]
def Ch:FT:=lI Pd
def ay2{i n Lw K}:=nq Ch Pd i n Lw K
def OK(l:List Int)(n:Int)(g:L l<4611686018427387904):Ct 159 [sl ci l,iv n] (·=bv (Q (n∈l))):=by refine aLl λs0 _ c=>?_;simp only[IB,aI,↓uL];refine C7 (L l) (λk=>∀j,j<k->gd l j≠n) (by simp) λk f e=>?_;simp+contextual only[aca,IB,u0,u1,ix,rk,bh,↓uL];refine⟨λh=>⟨bA h,λd=>?_,(by grind [gS,aL])⟩,λh=>?_⟩;grind [dB,aL];have b:n∉l:=λa=>(by have:=(px (p:=λx=>x≠n)).1 (by grind) n a;omega);simp[b]
def aQF:FT:=gz OK
def ayH{l n Lw K}:=gX aQF OK l n Lw K
def lh(w:br)(s:aW):Bool:=Q (∀c∈w.bC,0<=c.eg/\c.eg<L w.ak)&&(Q (L s.ak=L w.ak)&&(Q (L s.done=L w.bU)&&Q (L s.ay=L w.ay)))
def OP(w:br)(s:aW)(o:L w.bC<4611686018427387904):Ct 103 [.a w.c, .a s.c] (·=bv (lh w s)):=by refine aLr rfl rfl λq n b d i=>?_;simp only[IG,aI,↓uL];refine C7 (L w.bC) (λk=>∀j,j<k->0<=(gd w.bC j).eg/\(gd w.bC j).eg<L w.ak) (by simp) λk m e=>?_;simp+contextual only[acU,IG,u0,u1,ix,b,d,aj,rk,bh,↓uL];refine⟨λh=>⟨bA h,λ_=>bA h,λl=>?_,(by grind [gS,aL])⟩,λh=>?_⟩;grind [dB,aL,lh];have g:=(px (p:=λc:yp=>0<=c.eg/\c.eg<L w.ak)).1 (λj f=>e j (C3 f (bw h)));simp only[lh,aPI g,iw,aqD]
def BZ:FT:=gz OP
def ayM{w s Lw K}:=gX BZ OP w s Lw K
def aoS:dO:=(157,su)::(106,Ce)::(104,Ch)::(159,aQF)::(103,BZ)::[]
def Br:eJ aoS:=it (nI OR) (it (nI OW) (it (nI Pd) (it (aCb OK) (it (aCb OP) (wO)))))
def z8:=ai @ayO<|ai @ayT<|ai @ay2<|ai @ayH<|@ayM
abbrev fB:List AV:=[(iv 0)]
abbrev bH:List AV:=[(iv 0)]
def at3:=bi 34 [(3,([8],[2,3,7])),(11,([18],[2,3,7])),(14,([26],[2,3,7])),(17,([43],[2,3,7])),(22,([61],[2,3,7])),(27,([71],[2,3,7])),(30,([79],[2,3]))]
def adh a f g R b:=∀_:Rg,ah (gt b 0) (ab 3 a f λc=>aJ a c λd=>fV su a [g,d] λe=>aE R a [e]) (aE R a [(bv I)])
def ado c(a:cG):=bf c (iv 22) λb=>ah b (a [b]) (bf c (iv 23) λd=>a [d])
def adf a b d R h c:=∀_:Rg,ah (gt c 0) (ab 4 a b λe=>aJ a e λf=>fV su a [d,f] λg=>aE R a [g]) (jR 30 (adh a b d R) (ado h))
def adm c(a:cG):=bf c (iv 20) λb=>ah b (a [b]) (bf c (iv 21) λd=>a [d])
def ade a b e R d c:=∀_:Rg,ah (gt c 0) (ab 2 a b λf=>aJ a f λg=>fV su a [e,g] λh=>aE R a [h]) (jR 27 (adf a b e R d) (adm d))
def adl b(a:cG):=bf b (iv 16) λc=>ah c (a [c]) (bf b (iv 17) λd=>ah d (a [d]) (bf b (iv 18) λe=>ah e (a [e]) (bf b (iv 19) λf=>a [f])))
def adc a c d R f e:=∀_:Rg,ah (gt e 0) (ab 1 a c λg=>aJ a g λh=>fV su a [d,h] λb=>aT b 1 a c λi=>fm b d λj=>az b (ao 2 a i j) λk=>aT b 1 a k λl=>aD b l (bv I) λm=>aE R a [m]) (jR 22 (ade a c d R f) (adl f))
def adk b(a:cG):=bf b (iv 8) λc=>ah c (a [c]) (bf b (iv 9) λd=>ah d (a [d]) (bf b (iv 10) λe=>ah e (a [e]) (bf b (iv 11) λf=>a [f])))
def adb b c d R f e:=∀_:Rg,ah (gt e 0) (ab 1 b c λg=>aJ b g λh=>fV su b [d,h] λa=>aT a 1 b c λi=>fm a d λj=>az a (ao 2 b i j) λk=>aT a 1 b k λl=>az a (cf l) λm=>aD a m (bv I) λn=>aE R b [n]) (jR 17 (adc b c d R f) (adk f))
def adj c(a:cG):=bf c (iv 6) λb=>ah b (a [b]) (bf c (iv 7) λd=>a [d])
def ada a b d R c e:=∀_:Rg,ah (gt e 0) (ab 0 a b λf=>aJ a f λg=>fV su a [d,g] λh=>aE R a [h]) (jR 14 (adb a b d R c) (adj c))
def adi c(b:cG):=bf c (iv 3) λa=>ah a (b [a]) (bf c (iv 4) λd=>b [d])
def adg b R c e a d:=∀_:Rg,ah (gt d 0) (bf b (iv (-1)) λt4=>aE R c [t4]) (jR 11 (ada c e b R a) (adi a))
def adn b(a:cG):=bf b (iv 1) λc=>ah c (a [c]) (bf b (iv 2) λd=>ah d (a [d]) (bf b (iv 5) λe=>ah e (a [e]) (bf b (iv 12) λf=>ah f (a [f]) (bf b (iv 13) λg=>ah g (a [g]) (bf b (iv 14) λh=>ah h (a [h]) (bf b (iv 15) λi=>a [i]))))))
def ac9 b a c d R:=jR 3 (adg c R d b a) (adn a)
def aLv{b:List AV}{c:AV}{d:AV}{R:d7}(l0:L b=6)(h:H1 31 6 3 b λe f=>ac9 e c d f R):Ct 158 [.a b,c,d] R:=z1 at3 Br Tryz.func158 l0 h
def at5:=bi 2 []
def ads e d a R:=aw 6 a e λw=>aB 0 a d λx=>aw 4 a x λy=>fV BZ a [w,y] λf=>aT f 4 a d λg=>az f (aJ a g) λh=>aT f 0 a e λi=>az f (aJ a i) λj=>az f (bf h j) λk=>aD f k (bv I) λb=>aT b 5 a d λl=>az b (aJ a l) λm=>aT b 3 a e λn=>az b (aJ a n) λo=>az b (bf m o) λp=>aD b p (bv I) λc=>aT c 6 a d λq=>az c (aJ a q) λr=>aT c 4 a e λs=>az c (aJ a s) λt=>az c (bf r t) λu=>aD c u (bv I) λv=>aE R a [v]
def aLx{b:List AV}{c:List AV}{R:d7}(l0:L b=6)(l1:L c=7)(h:H2 31 6 2 b 40 7 3 c λd e f=>ads d e f R):Ct 60 [.a b, .a c] R:=z2 at5 Br Tryz.func60 l0 l1 h
def at0:=bi 10 [(4,([5,6],[1,2])),(7,([5],[1,2,6]))]
def ac5 c(f:aG)(e:bu) g d a:=∀_:Rg,aV (gt c 1) (iv 1) λb=>f [(gt d 0),b] a/\e [(gt d 0),b] a<e c g
def ac6 b d c t(e:aG):=ab 3 b d λh=>ao 3 b h (gt c 1) λi=>ab 0 b i λj=>bf j (iv 3) λa=>aT a 3 b d λk=>fm a (gt c 1) λl=>az a (ao 3 b k l) λm=>aT a 1 b m λn=>fm a t λo=>az a (bf n o) λp=>aD a p (bv I) λq=>ah q (eV (aX bH 1 b [(0,(gt c 1))]) λr f=>eV (j5 3 fB 8 f 34 (gt c 0) r) λs g=>e [s] g) (e [(gt c 0)] b)
def ac7 c e R d f a b:=∀_:Rg,ab 3 b c λg=>aJ b g λh=>aU (gt a 1) h λi=>ah i (jV 7 (ac5 a d f b) (ac6 b c a e)) (aE R b [(gt a 0)])
def II a b c R:=lV [(.l [] U U),(iv 0)] c (ac7 a b R)
def aLt{b:List AV}{c:AV}{R:d7}(l0:L b=4)(h:H1 36 4 2 b λd e=>II d c e R):Ct 160 [.a b,c] R:=z1 at0 Br Tryz.func160 l0 h
def at4:=bi 10 [(4,([5,6],[0,1])),(7,([5],[0,1,6]))]
def adp a(e:aG)(m1:bu) f b c:=∀_:Rg,aV (gt a 1) (iv 1) λd=>e [(gt b 0),d] c/\m1 [(gt b 0),d] c<m1 a f
def adq b d a l(c:aG):=ao 1 b d (gt a 1) λm=>aM b m λn=>aO .neq n l λg=>ah g (ao 1 b d (gt a 1) λh=>aM b h λi=>eV (aX bH 1 b [(0,i)]) λj e=>eV (j5 3 fB 8 e 25 (gt a 0) j) λk f=>c [k] f) (c [(gt a 0)] b)
def adr c e R d m1 a b:=∀_:Rg,aJ b c λt3=>aU (gt a 1) t3 λt4=>ah t4 (jV 7 (adp a d m1 b) (adq b c a e)) (aE R b [(gt a 0)])
def IJ a b s0 R:=lV [(.l [] U U),(iv 0)] s0 (adr a b R)
def aLw{a:AV}{b:AV}{R:d7}(h:H0 λs0=>IJ a b s0 R):Ct 163 [a,b] R:=z0 at4 Br Tryz.func163 h
def Gr(Y:ae)(ds:List Nat)(e:TypeId)(z:Nat)(a:AV)(aa:List (List AV)):Prop:=(aa=[]/\a= .l [] U U)\/∃d v,a= .m (d,v) (L aa)/\d∈ds/\box Y (d,v)=V ⟨e,z,U,I,aa⟩
def Fr(Y Y':ae)(ds:List Nat):Prop:=L Y'=L Y/\∀k,k∉ds->aZ Y' k=aZ Y k
theorem Fr.refl(Y:ae)(ds:List Nat):Fr Y Y ds:=⟨rfl,λ_ _=>rfl⟩
theorem Fr.trans{Y Y' a:ae}{ds:List Nat}(h:Fr Y Y' ds)(b:Fr Y' a ds):Fr Y a ds:=⟨b.1.trans h.1,λk c=>(b.2 k c).trans (h.2 k c)⟩
theorem Fr.box{Y Y':ae}{ds:List Nat}(h:Fr Y Y' ds){k v:Nat}(a:k∉ds):box Y' (k,v)=box Y (k,v):=by unfold Ab.box;simp only[h.2 k a]
theorem Gr.nil{Y:ae}{ds:List Nat}{e:TypeId}{z:Nat}:Gr Y ds e z (.l [] U U) []:= .inl ⟨rfl,rfl⟩
def Qi{Y:ae}{b:Id}:L (kill Y b)=L Y:=yg b
theorem ani{Y:ae}{b:Id}{k:Nat}(h:k≠b.1):aZ (kill Y b) k=aZ Y k:=jQ h
def aIQ{Y:ae}{b:Id}{k:Nat}(a:b.1<L Y):(aZ (kill Y b) k).lB=(aZ Y k).lB:=by grind [kill,iD,jQ]
def eF{e:TypeId}{z d:Nat}{zs cs:List AV}{Y:ae}{K:be}(m:L zs=z)(j:L cs=z)(i:0<z)(h:d<L Y)(f:∀Y',Fr Y Y' [d]->box Y' (d,(aZ Y d).lB+1)=V ⟨e,z,U,U,[cs]⟩->K (.p (d,(aZ Y d).lB+1) 0 0) Y'):eV (bs e zs Y d) λp s=>sV (aK z s p (.a cs)) λs'=>K p s':=by have b:bs e zs Y d=V (.p (d,(aZ Y d).lB+1) 0 0,put Y d ⟨e,z,U,U,[zs]⟩):=(by grind [bs,y7,lA]);rw[b];have g:box (put Y d ⟨e,z,U,U,[zs]⟩) (d,(aZ Y d).lB+1)=V ⟨e,z,U,U,[zs]⟩:=zQ h rfl;have c:aK z (put Y d ⟨e,z,U,U,[zs]⟩) (.p (d,(aZ Y d).lB+1) 0 0) (.a cs)=V (wr (put Y d ⟨e,z,U,U,[zs]⟩) (d,(aZ Y d).lB+1) ⟨e,z,U,U,[cs]⟩):=(by grind [aK,aBG,pW,eY,qh]);show sV (aK z (put Y d ⟨e,z,U,U,[zs]⟩) (.p (d,(aZ Y d).lB+1) 0 0) (.a cs)) _;rw[c];refine f _ ⟨by rw[uC,D3],λk l=>?_⟩ (lO g);grind [wy,yk]
def fP{Y:ae}{ds:List Nat}{e:TypeId}{z d by':Nat}{zs:List AV}{a:AV}{aa new:List (List AV)}{t o:Bool}{K:be}(s:Gr Y ds e z a aa)(n:L zs=z)(A:0<z)(m:d∈ds)(u:d<L Y)(D:∀r∈aa,L r=z)(C:∀r∈new,L r=z)(B:(L aa+L new)*(by'+1)<=1099511627776)(h:∀p Y',Gr Y' ds e z p (aa++new)->Fr Y Y' ds->K p Y'):eV (j5 e zs by' Y d a (.l new t o)) K:=by unfold j5;simp only[gL];by_cases q:L new=0;rw[bX q];have y:new=[]:=(by simp_all);subst y;rcases s with⟨b,c⟩|⟨j,v,b,c,f⟩;subst b c;exact h _ _ (.inl ⟨rfl,rfl⟩) (Fr.refl _ _);subst b;simp only[f,df];exact h _ _ (.inr ⟨j,v,by simp,c,by simpa using f⟩) (Fr.refl _ _);rw[cj q,bX ⟨by omega,by simp[y7,u],by simp_all⟩];have g:∀(i:ae) (x:bY),L i=L Y->box (put i d x) (lA i d)=V x:=(by grind [lA,zQ]);rcases s with⟨b,c⟩|⟨j,v,b,c,f⟩;subst b c;simp only;rw[bX ⟨by simp,by grind [lx]⟩];refine h _ _ (.inr ⟨d,(aZ Y d).lB+1,by simp[lA],m,?_⟩) ⟨by simp[put],λk w=>yk (λe=>w (e▸m))⟩;rw[<-n];exact g Y _ rfl;subst b;simp only[f];rw[bX ⟨trivial,trivial,n.symm,dA _,by grind [lx]⟩];refine h _ _ (.inr ⟨d,(aZ (kill Y (j,v)) d).lB+1,by simp[lA,aIQ (lN f)],m,?_⟩) ⟨by simp[put,Qi],λk w=>?_⟩;rw[<-n];simp only[gV];exact g _ _ Qi;grind [yk,ani]
theorem qV{Y:ae}{ds:List Nat}{e:TypeId}{z:Nat}{a:AV}{aa:List (List AV)}{R:d7}(f:Gr Y ds e z a aa)(h:∀t,R (.l aa t U)):aE R Y [a]:=by unfold aE jS;rcases f with⟨b,c⟩|⟨g,v,b,c,d⟩;subst b c;exact⟨rfl,h U⟩;subst b;simp only[iZ,dQ,d,vm,gV];exact⟨rfl,h I⟩
def aDk{Y:ae}{ds:List Nat}{e:TypeId}{z:Nat}{a:AV}{aa:List (List AV)}(d:Gr Y ds e z a aa):fS Y a=V (iv (L aa)):=by rcases d with⟨b,c⟩|⟨f,v,b,c,g⟩;subst b c;rfl;grind [fS]
def iz{Y:ae}{z0:AV}{y:Value}:aX [z0] 1 Y [(0, .s y)]=V (.l [[.s y]] U U,Y):=by simp[aX,gp,eY,nrm,gK,eR,gi,eB,iR,kills,kC,eN]
def ua{Y:ae}{zs cs:List AV}(c:nrm (eR Y (.a cs))= .a cs)(d:eB (.a cs)=[])(e:L cs=L zs)(f:0<L zs)(g:cs.all eN=U)(h:L zs<=1000):aX zs 1 Y [(0, .a cs)]=V (.l [cs] U U,Y):=by simp only[aX,ji,mU,c,Cz,List.flatMap_nil,d,cL,kills,aRl];have b:(er 1 zs).flatten=zs:=(by simp);rw[bX ⟨by omega,f⟩,b];simp only[gp,eY,e,Nat.zero_mul,aj,dA,vg,vm,CE,dW,Gz,cL,qd,g,df];grind [kC]
def gI(mk:AV->Int->List AV)(b:ae)(ds:List Nat)(e:TypeId)(z n:Nat)(aa:Nat->List (List AV))(Inv:Nat->Prop):aG:=λvs Y=>∃(k:Nat) (a:AV),vs=mk a k/\k<=n/\Inv k/\Gr Y ds e z a (aa k)/\Fr b Y ds
def gM(p n:Nat):bu:=λvs _=>match gt vs p with| .s (.int _ i)=>n-i.toNat|_=>0
def am9{B:(aG)->(bu)->aG}(mk:AV->Int->List AV)(p:Nat)(ds:List Nat)(e:TypeId)(z n:Nat)(aa:Nat->List (List AV))(Inv:Nat->Prop){c:AV}{b:ae}(d:Inv 0)(f:Gr b ds e z c (aa 0))(h:∀(k:Nat) a Y,k<=n->Inv k->Gr Y ds e z a (aa k)->Fr b Y ds->B (gI mk b ds e z n aa Inv) (gM p n) (mk a k) Y):lV (mk c 0) b B:=⟨gI mk b ds e z n aa Inv,gM p n,⟨0,c,rfl,mh _,d,f,Fr.refl _ _⟩,by rintro vs Y ⟨k,a,rfl,l,j,i,g⟩;simp_all⟩
def Dr{mk:AV->Int->List AV}{p:Nat}{c Y Y':ae}{ds:List Nat}{e:TypeId}{z n k:Nat}{aa:Nat->List (List AV)}{Inv:Nat->Prop}{a b:AV}(j:∀a i,gt (mk a i) p=iv i)(g:k<n)(h:n<4611686018427387904)(hI:Inv (k+1))(f:Gr Y' ds e z b (aa (k+1)))(d:Fr c Y' ds):gI mk c ds e z n aa Inv (mk b (dq.wrap ((k:Int)+1))) Y'/\gM p n (mk b (dq.wrap ((k:Int)+1))) Y'<gM p n (mk a k) Y:=by rw[eM (by omega) (by omega)];refine⟨⟨k+1,b,rfl,g,hI,f,d⟩,?_⟩;grind [gM]
def fI(a:ae)(ds:List Nat)(n:Nat)(Inv:Nat->Prop):aG:=λvs Y=>∃k:Nat,vs=[iv k]/\k<=n/\Inv k/\Fr a Y ds
def fM(n:Nat):bu:=λvs _=>cM n vs
def pQ{B:(aG)->(bu)->aG}{a:ae}(n:Nat)(ds:List Nat)(Inv:Nat->Prop)(b:Inv 0)(h:∀(k:Nat) Y,k<=n->Inv k->Fr a Y ds->B (fI a ds n Inv) (fM n) [iv k] Y):lV [iv 0] a B:=⟨fI a ds n Inv,fM n,⟨0,rfl,mh _,b,Fr.refl _ _⟩,by rintro vs Y ⟨k,rfl,e,d,c⟩;simp_all⟩
theorem oL{n k:Nat}{ds:List Nat}{Inv:Nat->Prop}{a Y Y':ae}(c:k<n)(d:n<4611686018427387904)(h:Inv (k+1))(b:Fr a Y' ds):fI a ds n Inv [iv (dq.wrap ((k:Int)+1))] Y'/\fM n [iv (dq.wrap ((k:Int)+1))] Y'<fM n [iv k] Y:=by rw[fX (by omega)];refine⟨⟨k+1,rfl,c,h,b⟩,?_⟩;grind [fM,cM,bh]
theorem Fr.mono{Y Y':ae}{ds a:List Nat}(h:Fr Y Y' ds)(b:∀k∈ds,k∈a):Fr Y Y' a:=⟨h.1,λk c=>h.2 k (by grind)⟩
def nS{Y:ae}{z0:AV}{zs:List AV}:aX (z0::zs) 0 Y []=V (.l [] U U,Y):=by simp[aX,gp,kills,kC]
def aIk{α:Type}{f:α->List AV}{l:List α}{z:Nat}{i:Int}{Y:ae}{K:d7}(b:∀x,L (f x)=z):rV (fo z Y (sl f l) J (V (iv i)) J) K=((0<=i/\i<=L l)/\K (sl f (l.take i.toNat))):=by simp only[fo,lM,sl];by_cases a:0<=i;simp only[a,vm,qY,sD,mi,mh,lS,bJ];grind [rV,GL];simp[a,rV]
def aIm{α:Type}{f:α->List AV}{l:List α}{z:Nat}{i:Int}{Y:ae}{K:d7}(b:∀x,L (f x)=z):rV (fo z Y (sl f l) (V (iv i)) J J) K=((0<=i/\i<=L l)/\K (sl f (l.drop i.toNat))):=by simp only[fo,lM,sl];by_cases a:0<=i;simp only[a,vm,qY,sD,mi,bJ,dA,lS];grind [rV,List.map_drop,List.take_of_length_le];simp[a,rV]
def aov{l:List Int}{i:Int}{Y:ae}{K:d7}:rV (fo 1 Y (sl ci l) J (V (iv i)) J) K=((0<=i/\i<=L l)/\K (sl ci (l.take i.toNat))):=aIk λ_=>rfl
def aIg{l:List Int}{i:Int}{Y:ae}{K:d7}:rV (fo 1 Y (sl ci l) (V (iv i)) J J) K=((0<=i/\i<=L l)/\K (sl ci (l.drop i.toNat))):=aIm λ_=>rfl
def aFj{α:Type}{f:α->List AV}{l:List α}{R:d7}{Y:ae}:aE R Y [sl f l]=R (sl f l):=by simp[aE,jS,iZ,dQ,sl,kG,pF,nj]
def Fr.bt{Y Y':ae}{ds:List Nat}(h:Fr Y Y' ds){k v:Nat}{x:Option bY}(b:Ab.box Y (k,v)=x)(a:k∉ds:=by decide):Ab.box Y' (k,v)=x:=(h.box a).trans b
def named(w:br)(a bb:Int):Bool:=
 bif Q (a=1)||(Q (a=2)||(Q (a=5)||(Q (a=12)||(Q (a=13)||(Q (a=14)||Q (a=15)))))) then Q (bb= -1)
 else bif Q (a=3)||Q (a=4) then dh bb (L w.cells)
 else bif Q (a=6)||Q (a=7) then dh bb (L w.ak)&&!(gd w.ak bb.toNat).rw
 else bif Q (a=8)||(Q (a=9)||(Q (a=10)||Q (a=11))) then dh bb (L w.ak)&&(gd w.ak bb.toNat).rw
 else bif Q (a=16)||(Q (a=17)||(Q (a=18)||Q (a=19))) then dh bb (L w.bC)
 else bif Q (a=20)||Q (a=21) then dh bb (L w.ay)
 else bif Q (a=22)||Q (a=23) then dh bb (L w.bU)
 else I
def OS(w:br)(b bb:Int):Ct 158 [.a w.c,iv b,iv bb] (·=bv (named w b bb)):=by refine aLv rfl λg f d e=>?_;simp only[ac9,↓uL];simp only[f8,adn,iM,aY,sw,↓uL];simp only[adg,aI,au,↓uL];simp only[f8,adi,iM,aY,sw,↓uL];simp only[ada,aI,au,↓uL];simp only[f8,adj,iM,aY,sw,↓uL];simp only[adb,aI,au,↓uL];simp only[f8,adk,iM,aY,sw,↓uL];simp only[adc,aI,au,↓uL];simp only[f8,adl,iM,aY,sw,↓uL];simp only[ade,aI,au,↓uL];simp only[f8,adm,iM,aY,sw,↓uL];simp only[adf,aI,au,↓uL];simp only[f8,ado,iM,aY,sw,↓uL];simp only[adh,aI,au,↓uL];simp+contextual only[↓iC,↓iB,↓iS,u0,u1,z8,ar,d,rk,ix,aj,named,asq,aOl,DR,oe,vg,↓uL]
def FH:FT:=za OS
def ayP{w kind bb Lw K}:=KP FH OS w kind bb Lw K
def fN(w:br)(s:bW):Bool:=lh w s.bm&&(Q (L s.cells=L w.cells)&&(Q (L s.bU=L w.bU)&&Q (L s.count=L w.ay)))
def OU(w:br)(s:bW)(e:L w.bC<4611686018427387904):Ct 60 [.a w.c, .a s.c] (·=bv (fN w s)):=by refine aLx rfl rfl λh g b d f=>?_;simp+contextual only[ads,u0,u1,z8,ar,b,d,rk,ix,aj,fN,aqD,e,vg,↓uL]
def Cc:FT:=gz OU
def ayR{w s Lw K}:=gX Cc OU w s Lw K
def pe(s:aW)(c:Int)(i:Nat):Bool:=Q ((gd s.ay i).cQ=3)&&Q ((gd s.ay i).cond=c)
def eh(s:aW)(c:Int)(k:Nat):List Int:=((aH k).filter (pe s c)).map λ(i:Nat)=>(i:Int)
def fO(s:aW)(c:Int):List Int:=eh s c (L s.ay)
theorem vc(s:aW)(c:Int)(k:Nat):eh s c (k+1)=eh s c k++if pe s c k then[(k:Int)] else[]:=by grind [eh,qn]
def wU(s:aW)(c:Int)(k:Nat):L (eh s c k)<=k:=by grind [eh,bJ,gl,fZ]
def OQ(s:aW)(c:Int)(v:L s.ay<1000000):Ct 160 [.a s.c,iv c] (λr=>∃t,r= .l ((fO s c).map ci) t U):=by refine aLt rfl λx n j q=>?_;simp only[II,↓uL];refine am9 (λa i=>[a,iv i]) 1 [34] 3 1 (L s.ay) (λk=>(eh s c k).map ci) (λ_=>True) trivial (.inl ⟨rfl,rfl⟩) λk a Y u _ f b=>?_;have d:box Y (2,1)=_:=b.bt j;simp+contextual only[ac5,ac6,ac7,II,u0,u1,z8,ar,d,rk,ix,aj,bh,iz,↓uL];refine⟨λh=>⟨bA h,λ_=>bA h,λm=>?_,λm=>?_⟩,λh=>?_⟩;have w:=wU s c k;refine fP f rfl (by decide) (by decide) (by rw[b.1,n];decide) (by simp) (by simp) (by simp;omega) λp Y' o e=>?_;refine Dr (mk:=λa i=>[a,iv i]) (λ_ _=>rfl) (aL h) (by omega) trivial ?_ (b.trans e);grind [vc,pe];refine Dr (mk:=λa i=>[a,iv i]) (λ_ _=>rfl) (aL h) (by omega) trivial ?_ b;grind [vc,pe];have g:k=L s.ay:=(by grind);subst g;exact qV f λt=>⟨t,rfl⟩
def w7:FT:=pn OQ
def ayN{s c Lw K}:=rQ w7 OQ s c Lw K
def fJ(l:List Int)(n:Int):List Int:=l.filter λx=>Q (x≠n)
theorem EA{l:List Int}{k:Nat}(h:k<L l):l.take (k+1)=l.take k++[gd l k]:=by rw[bT h,iJ h]
def OT(l:List Int)(n:Int)(q:L l<1000000):Ct 163 [sl ci l,iv n] (λr=>∃t,r= .l ((fJ l n).map ci) t U):=by refine aLw λu g o=>?_;simp only[IJ,↓uL];refine am9 (λa i=>[a,iv i]) 1 [25] 3 1 (L l) (λk=>(fJ (l.take k) n).map ci) (λ_=>True) trivial (.inl ⟨rfl,rfl⟩) λk a Y p _ c b=>?_;simp+contextual only[adp,adq,adr,IJ,u0,u1,z8,ar,rk,ix,aj,bh,iz,↓uL];refine⟨λh=>⟨bA h,λe=>⟨bA h,?_⟩,λe=>?_⟩,λh=>?_⟩;have s:L (fJ (l.take k) n)<=k:=gl (fZ _ _) (by simp;omega);refine fP c rfl (by decide) (by decide) (by rw[b.1,g];decide) (by simp) (by simp) (by simp;omega) λm Y' j d=>?_;refine Dr (mk:=λa i=>[a,iv i]) (λ_ _=>rfl) (aL h) (by omega) trivial ?_ (b.trans d);grind [EA,aL,fJ];refine Dr (mk:=λa i=>[a,iv i]) (λ_ _=>rfl) (aL h) (by omega) trivial ?_ b;rw[EA (aL h),fJ,List.filter_append,dg];simp only[List.filter_cons,e,List.filter_nil,eE,aNV,mU,cL];exact c;have f:k=L l:=(by grind);subst f;rw[gV] at c;grind [qV]
def Cb:FT:=pn OT
def ayQ{l n Lw K}:=rQ Cb OT l n Lw K
def aoT:dO:=(158,FH)::(60,Cc)::(160,w7)::(163,Cb)::aoS
def ao9:eJ aoT:=it (Rs OS) (it (aCb OU) (it (aN0 OQ) (it (aN0 OT) (Br))))
def K1:=ai @ayP<|ai @ayR<|ai @ayN<|ai @ayQ<|@z8
abbrev aNB:List AV:=[(iv 0),(iv 0),(bv I)]
def atX:=bi 48 [(22,([119],[2,4,5,6,11,70])),(35,([160],[2,4,5,6,70]))]
def acR a d P e h R f g:=∀_:Rg,ah (gt g 0) (ab 0 a d λi=>ab 2 a P λj=>ao 2 a j e λk=>ab 1 a k λl=>ao 2 a i l λm=>ab 0 a m λn=>bf n h λo=>aE R a [o]) (bf f (iv 20) λp=>ah p (aO .neq e h λb=>aT b 3 a d λq=>fm b e λr=>az b (ao 3 a q r) λs=>aT b 0 a s λt=>az b (bf t (iv 0)) λu=>aD b u (bv I) λv=>aE R a [v]) (bf f (iv 21) λw=>ah w (aO .neq e h λc=>aT c 3 a d λx=>fm c e λy=>az c (ao 3 a x y) λz=>aT c 0 a z λA=>az c (bf A (iv 5)) λB=>aD c B (bv I) λC=>aE R a [C]) (bf f (iv 22) λD=>ah D (ab 2 a d λE=>ao 1 a E e λF=>aM a F λG=>cf G λH=>aE R a [H]) (bf f (iv 23) λK=>ah K (ab 2 a d λM=>ao 1 a M e λN=>aM a N λO=>aE R a [O]) (aE R a [(bv U)])))))
def acT d(a:cG):=bf d (iv 16) λb=>ah b (a [b]) (bf d (iv 18) λc=>ah c (a [c]) (bf d (iv 19) λe=>a [e]))
def acQ a b g e R c d B f:=∀_:Rg,ah (gt f 0) (ab 0 a b λh=>ao 2 a h g λi=>ab 0 a i λj=>bf j e λk=>aE R a [k]) (bf c (iv 9) λl=>ah l (ab 0 a b λm=>ao 2 a m g λn=>ab 1 a n λo=>fV aQF a [o,e] λp=>aE R a [p]) (bf c (iv 12) λq=>ah q (ab 1 a b λr=>bf r (iv (-1)) λs=>aE R a [s]) (bf c (iv 13) λt=>ah t (ab 1 a b λu=>bf u e λv=>aE R a [v]) (bf c (iv 14) λw=>ah w (ab 2 a d λx=>cf x λy=>aE R a [y]) (bf c (iv 15) λz=>ah z (ab 2 a d λA=>aE R a [A]) (jR 35 (acR a b B g e R c) (acT c)))))))
def acS d(a:cG):=bf d (iv 7) λb=>ah b (a [b]) (bf d (iv 11) λc=>a [c])
def acP h d R g f j X a:=bf h (iv 1) λZ=>ah Z (ab 0 a d λaa=>bf aa (iv 1) λac=>aE R a [ac]) (bf h (iv 17) λad=>ah ad (ab 0 a d λae=>bf ae (iv 4) λi=>aT i 1 a d λaf=>fm i g λag=>az i (bf af ag) λak=>aD i ak (bv I) λe=>aT e 0 a f λal=>aT e 2 a j λam=>fm e g λan=>az e (ao 2 a am an) λap=>aT e 1 a ap λaq=>az e (ao 2 a al aq) λar=>aT e 0 a ar λau=>az e (bf au (iv (-1))) λk=>aD e k (bv I) λl=>aE R a [l]) (ab 0 a d λm=>aO .neq m (iv 2) λn=>ah n (aE R a [(bv I)]) (bf h (iv 6) λo=>ah o (ab 0 a f λp=>ao 2 a p g λq=>ab 0 a q λr=>bf r (iv (-1)) λs=>aE R a [s]) (bf h (iv 10) λt=>ah t (ab 0 a f λu=>ao 2 a u g λv=>ab 0 a v λw=>bf w (iv (-1)) λc=>aT c 0 a f λx=>fm c g λy=>az c (ao 2 a x y) λz=>aT c 1 a z λA=>az c (aJ a A) λB=>az c (bf B (iv 0)) λC=>aD c C (bv I) λD=>aE R a [D]) (bf h (iv 8) λE=>ah E (ab 0 a f λF=>ao 2 a F g λG=>ab 0 a G λH=>bf H (iv (-1)) λb=>aT b 0 a f λK=>fm b g λM=>az b (ao 2 a K M) λN=>aT b 1 a N λO=>fm b X λP=>az b (fV aQF a [O,P]) λS=>az b (cf S) λT=>aD b T (bv I) λW=>aE R a [W]) (jR 22 (acQ a f g X R h d j) (acS h)))))))
def acO d f g h i a R:=aw 6 a d λy=>aw 4 a f λz=>fV BZ a [y,z] λA=>cf A λe=>ic e g λk=>bn e 4 a d λl=>aC e (aJ a l) λm=>aC e (fV su a [k,m]) λn=>aC e (cf n) λo=>aD e (bv U) o λb=>aC b (aw 6 a d) λp=>ic b h λq=>ic b i λr=>aC b (fV FH a [p,q,r]) λs=>aC b (cf s) λt=>aD b (bv U) t λu=>ah u (aE R a [(bv I)]) (ab 3 a f λv=>ao 3 a v g λw=>aw 3 a w λx=>eV (bs 105 aNB a 11) λc j=>sV (aK 3 j c x) (acP h c R i f d g))
def aLq{b:List AV}{c:List AV}{d:AV}{e:AV}{f:AV}{R:d7}(l0:L b=6)(l1:L c=4)(h:H2 31 6 5 b 36 4 6 c λg i j=>acO g i d e f j R):Ct 107 [.a b, .a c,d,e,f] R:=z2 atX ao9 Tryz.func107 l0 l1 h
def lc(w:br)(s:aW)(t a bb:Int):Bool:=
 bif Q (a=1) then Q ((gd s.ay t.toNat).cQ=1)
 else bif Q (a=17) then Q ((gd s.ay t.toNat).cQ=4)&&(Q ((gd s.ay t.toNat).cond=bb)&&Q ((gd s.ak (gd w.bC bb.toNat).eg.toNat).pw= -1))
 else bif Q ((gd s.ay t.toNat).cQ≠2) then I
 else bif Q (a=6) then Q ((gd s.ak bb.toNat).pw= -1)
 else bif Q (a=10) then Q ((gd s.ak bb.toNat).pw= -1)&&Q (L (gd s.ak bb.toNat).bk=0)
 else bif Q (a=8) then Q ((gd s.ak bb.toNat).pw= -1)&&!Q (t∈(gd s.ak bb.toNat).bk)
 else bif Q (a=7)||Q (a=11) then Q ((gd s.ak bb.toNat).pw=t)
 else bif Q (a=9) then Q (t∈(gd s.ak bb.toNat).bk)
 else bif Q (a=12) then Q (s.tx= -1)
 else bif Q (a=13) then Q (s.tx=t)
 else bif Q (a=14) then !(gd s.ay t.toNat).atomic
 else bif Q (a=15) then(gd s.ay t.toNat).atomic
 else bif Q (a=16)||(Q (a=18)||Q (a=19)) then Q ((gd s.ak (gd w.bC bb.toNat).eg.toNat).pw=t)
 else bif Q (a=20) then Q (bb≠t)&&Q ((gd s.ay bb.toNat).cQ=0)
 else bif Q (a=21) then Q (bb≠t)&&Q ((gd s.ay bb.toNat).cQ=5)
 else bif Q (a=22) then !(gd s.done bb.toNat)
 else bif Q (a=23) then gd s.done bb.toNat
 else U
def jm(w:br)(s:aW)(t a bb:Int):Bool:=lh w s&&(dh t (L w.ay)&&(named w a bb&&lc w s t a bb))
theorem mJ{w:br}{a bb:Int}(h:named w a bb=U)(b:6<=a)(c:a<=11):aF (L w.ak) bb:=by grind [named,dX]
theorem oT{w:br}{a bb:Int}(h:named w a bb=U)(b:16<=a)(c:a<=19):aF (L w.bC) bb:=by grind [named,dX]
theorem Eb{w:br}{a bb:Int}(h:named w a bb=U)(b:20<=a)(c:a<=21):aF (L w.ay) bb:=by grind [named,dX]
theorem oU{w:br}{a bb:Int}(h:named w a bb=U)(b:22<=a)(c:a<=23):aF (L w.bU) bb:=by grind [named,dX]
theorem qP{w:br}{a bb:Int}(h:named w a bb=U)(b:3<=a)(c:a<=4):aF (L w.cells) bb:=by grind [named,dX]
theorem iY{w:br}{s:aW}(h:lh w s=U):(∀c∈w.bC,0<=c.eg/\c.eg<L w.ak)/\L s.ak=L w.ak/\L s.done=L w.bU/\L s.ay=L w.ay:=by grind [lh]
theorem ii{α:Type}[Inhabited α]{l:List α}{i:Int}(h:aF (L l) i):gd l i.toNat∈l:=dB (by have:=h.1;have:=h.2;omega)
def OO(w:br)(s:aW)(t b bb:Int)(r:L w.bC<4611686018427387904/\(∀l∈s.ak,L l.bk<4611686018427387904)):Ct 107 [.a w.c, .a s.c,iv t,iv b,iv bb] (·=bv (jm w s t b bb)):=by refine aLq rfl rfl λT R d f B=>?_;simp+contextual only[acO,u0,u1,K1,ar,d,f,rk,ix,aj,↓uL];have C:(!lh w s||!dh t (L w.ay)||!named w b bb)=I->lh w s=U/\dh t (L w.ay)=U/\named w b bb=U:=(by simp_all);refine⟨r.1,λh=>?_,λh=>?_⟩;grind [jm,lh,dh,named];obtain⟨D,P,S⟩:=C h;obtain⟨z,A,N,O⟩:=iY D;have q:aF (L s.ay) t:=(by grind [dX]);have p:jm w s t b bb=lc w s t b bb:=(by grind [jm]);rw[p];refine⟨q,?_⟩;refine eF rfl rfl (by decide) (by omega) λY n o=>?_;rw[B 11 (by decide) (by decide)] at o⊢;have e:box Y (5,1)=_:=n.bt d;have g:box Y (6,1)=_:=n.bt f;simp only[acP,↓uL];simp only[f8,acS,iM,aY,sw,↓uL];simp only[acQ,aI,au,↓uL];simp only[f8,acT,iM,aY,sw,↓uL];simp only[acR,aI,au,↓uL];simp+contextual only[↓iC,↓iB,↓iS,u0,u1,K1,ar,o,e,g,rk,ix,aj,↓uL];have K:aF (L w.bC) bb->aF (L s.ak) (gd w.bC bb.toNat).eg:=λh=>(by rw[A];exact z _ (ii h));have E:Q (b=6)=U->aF (L s.ak) bb:=(by grind [mJ]);have u:Q (b=10)=U->aF (L s.ak) bb:=(by grind [mJ]);have G:Q (b=8)=U->aF (L s.ak) bb:=(by grind [mJ]);have H:Q (b=9)=U->aF (L s.ak) bb:=(by grind [mJ]);have F:(Q (b=7)||Q (b=11))=U->aF (L s.ak) bb:=(by grind [mJ]);have j:Q (b=17)=U->aF (L w.bC) bb:=(by grind [oT]);have i:(Q (b=16)||(Q (b=18)||Q (b=19)))=U->aF (L w.bC) bb:=(by grind [oT]);have v:Q (b=20)=U->aF (L s.ay) bb:=(by grind [Eb]);have x:Q (b=21)=U->aF (L s.ay) bb:=(by grind [Eb]);have k:Q (b=22)=U->aF (L s.done) bb:=(by grind [oU]);have m:Q (b=23)=U->aF (L s.done) bb:=(by grind [oU]);have M:aF (L s.ak) bb->L (gd s.ak bb.toNat).bk<4611686018427387904:=λh=>r.2 _ (ii h);have y:(L (gd s.ak bb.toNat).bk:Int)=0↔L (gd s.ak bb.toNat).bk=0:=(by omega);simp+contextual only[lc,asq,aOl,K,E,F,G,H,u,i,j,v,x,k,m,M,y,lS,o8,oe,vg]
def BY:FT:=zb OO
def ayL{w s t kind bb Lw K}:=KQ BY OO w s t kind bb Lw K
def aoU:dO:=(107,BY)::aoT
def wP:eJ aoU:=it (Rt OO) (ao9)
def K3:=ai @ayL<|@K1
def a9R:=bi 10 [(3,([5],[0,1]))]
def adR s0 e A R(z:cG)(m1:fD) b:=∀_:Rg,aJ s0 e λB=>aU (gt b 0) B λt3=>ah t3 (ao 1 s0 e (gt b 0) λt4=>aM s0 t4 λC=>aU C (iv 1) λd=>ic d e λD=>ic d (gt b 0) λg=>aC d (ao 1 s0 D g) λh=>aC d (aM s0 h) λi=>ic d A λj=>aC d (aO .geq i j) λk=>aD d (bv U) k λc=>ic c (gt b 0) λl=>aC c (aO .gtr l (iv 0)) λm=>ic c m λa=>fm a e λn=>fm a (gt b 0) λo=>az a (ao 1 s0 n o) λp=>az a (aM s0 p) λq=>fm a e λr=>fm a (gt b 0) λs=>az a (aO .sub s (iv 1)) λt=>az a (ao 1 s0 r t) λu=>az a (aM s0 u) λv=>az a (aO .leq q v) λw=>aC c (aD a w (bv I)) λx=>aD c (bv U) x λy=>ah y (aE R s0 [(bv I)]) (aV (gt b 0) (iv 1) λf=>z [f]/\m1 [f]<m1 b)) (aE R s0 [(bv U)])
def IQ a b s0 R:=lR [(iv 0)] (adR s0 a b R)
def aLB{a:AV}{b:AV}{R:d7}(h:H0 λs0=>IQ a b s0 R):Ct 108 [a,b] R:=z0 a9R wP Tryz.func108 h
def aud:=bi 2 []
def ad8 c d a R:=aB 7 a c λt3=>ab 6 a t3 λl=>aJ a l λm=>fV Ch a [d,m] λb=>az b (aB 7 a c) λe=>aT b 6 a e λf=>fm b d λg=>az b (ao 1 a f g) λh=>az b (aM a h) λi=>az b (aO .geq i (iv 1)) λj=>aD b j (bv I) λk=>aE R a [k]
def aLG{b:List AV}{c:AV}{R:d7}(l0:L b=15)(h:H1 43 15 2 b λd e=>ad8 d c e R):Ct 105 [.a b,c] R:=z1 aud wP Tryz.func105 l0 h
def aub:=bi 12 [(3,([2,7],[1,3])),(6,([2],[1,3,7]))]
def adZ a(e:cG)(c:fD) b:=∀_:Rg,aV (gt a 1) (iv 1) λd=>e [(gt b 0),d]/\c [(gt b 0),d]<c a
def ad0 b j a k R(c:cG):=ab 14 b j λd=>ao 7 b d (gt a 1) λe=>ab 0 b e λf=>bf f k λg=>ah g (bf (gt a 0) (iv 0) λh=>ah h (aE R b [(gt a 1)]) (aO .sub (gt a 0) (iv 1) λi=>c [i])) (c [(gt a 0)])
def ad1 b c e R d f a:=∀_:Rg,ab 14 b c λg=>aJ b g λh=>aU (gt a 1) h λi=>ah i (jR 6 (adZ a d f) (ad0 b c a e R)) (aE R b [(iv (-1))])
def IR a b c d R:=lR [c,(iv 0)] (ad1 d a b R)
def aLE{b:List AV}{c:AV}{d:AV}{R:d7}(l0:L b=15)(h:H1 43 15 3 b λe f=>IR e c d f R):Ct 111 [.a b,c,d] R:=z1 aub wP Tryz.func111 l0 h
def aue:=bi 12 [(4,([3,4],[1]))]
def ad9 a e R(D:cG)(h:fD) b:=∀_:Rg,aB 7 a e λt4=>ab 6 a t4 λE=>aJ a E λF=>aU (gt b 1) F λG=>ah G (aB 7 a e λH=>ab 6 a H λi=>ao 1 a i (gt b 1) λj=>aM a j λk=>aU k (iv 0) λc=>aC c (aB 7 a e) λl=>bn c 6 a l λm=>ic c (gt b 1) λn=>aC c (ao 1 a m n) λo=>aC c (aM a o) λp=>aC c (aO .gtr p (iv 400)) λq=>aD c (bv U) q λr=>ah r (aE R a [(bv I)]) (aB 7 a e λs=>ab 6 a s λt=>ao 1 a t (gt b 1) λu=>aM a u λv=>aV (gt b 0) v λf=>aV (gt b 1) (iv 1) λg=>D [f,g]/\h [f,g]<h b)) (ab 6 a e λw=>bf w (gt b 0) λd=>fm d (gt b 0) λx=>aT d 14 a e λy=>az d (aJ a y) λz=>az d (aV x z) λA=>az d (aO .leq A (iv 400)) λB=>aD d B (bv I) λC=>aE R a [C])
def IS a b R:=lR [(iv 0),(iv 0)] (ad9 b a R)
def aLH{b:List AV}{R:d7}(l0:L b=15)(h:H1 43 15 1 b λc d=>IS c d R):Ct 61 [.a b] R:=z1 aue wP Tryz.func61 l0 h
def at9:=bi 21 [(9,([40],[2,3,7]))]
def adT R a s e b i:=∀_:Rg,ah (gt i 0) (aE R a [(bv U)]) (bf s (iv 18) λj=>ah j (aB 0 a e λk=>aw 4 a k λl=>ab 2 a b λm=>fV w7 a [l,m] λf=>aJ a f λn=>bf n (iv 0) λo=>ah o (ab 3 a b λp=>bf p (iv (-1)) λq=>aE R a [q]) (ab 3 a b λr=>aO .geq r (iv 0) λc=>aT c 3 a b λt=>az c (aB 0 a e) λu=>aT c 3 a u λv=>az c (aJ a v) λw=>az c (aU t w) λx=>aD c x (bv I) λd=>fm d f λy=>aT d 3 a b λz=>az d (fV aQF a [y,z]) λA=>aD d A (bv I) λB=>aE R a [B])) (bf s (iv 19) λC=>ah C (ab 3 a b λD=>aB 0 a e λE=>aw 4 a E λF=>ab 2 a b λG=>fV w7 a [F,G] λH=>aJ a H λK=>bf D K λM=>aE R a [M]) (ab 3 a b λg=>bf g (iv 0) λh=>aE R a [h])))
def adU d(b:cG):=bf d (iv 4) λa=>ah a (b [a]) (bf d (iv 22) λc=>b [c])
def adS c b a R:=ab 1 a b λe=>bf e (iv 3) λw=>ah w (ab 3 a b λx=>ab 4 a c λf=>ab 2 a b λg=>ao 1 a f g λh=>aM a h λi=>bf x i λj=>aE R a [j]) (bf e (iv 23) λk=>ah k (ab 3 a b λl=>ab 5 a c λm=>ab 2 a b λn=>ao 1 a m n λo=>aM a o λp=>bf l p λq=>aE R a [q]) (bf e (iv 5) λr=>ah r (ab 3 a b λs=>bf s (iv 0) λd=>bn d 3 a b λt=>aC d (bf t (iv 1)) λu=>aD d (bv U) u λv=>aE R a [v]) (jR 9 (adT R a e c b) (adU e))))
def aLC{b:List AV}{c:List AV}{R:d7}(l0:L b=7)(l1:L c=7)(h:H2 40 7 2 b 64 7 3 c λd e f=>adS d e f R):Ct 109 [.a b, .a c] R:=z2 at9 wP Tryz.func109 l0 l1 h
def atP:=bi 10 [(3,([5],[0,1]))]
def abS s0 b e R(d:cG)(m1:fD) a:=∀_:Rg,aJ s0 b λf=>aU (gt a 0) f λt3=>ah t3 (ao 1 s0 b (gt a 0) λt4=>aM s0 t4 λg=>bf g e λh=>ah h (aE R s0 [(gt a 0)]) (aV (gt a 0) (iv 1) λc=>d [c]/\m1 [c]<m1 a)) (aE R s0 [(iv (-1))])
def Iz a b s0 R:=lR [(iv 0)] (abS s0 a b R)
def aLi{a:AV}{b:AV}{R:d7}(h:H0 λs0=>Iz a b s0 R):Ct 102 [a,b] R:=z0 atP wP Tryz.func102 h
def uJ(l:List Int)(n:Int)(j:Nat):Prop:=1<=gd l j/\gd l j<n/\(0<j->gd l (j-1)<gd l j)
def lZ(l:List Int)(n:Int):Prop:=∀j,j<L l->uJ l n j
instance{l:List Int}{n:Int}{j:Nat}:Decidable (uJ l n j):=by unfold uJ;infer_instance
instance{l:List Int}{n:Int}:Decidable (lZ l n):=by unfold lZ;infer_instance
def OX(l:List Int)(n:Int)(f:L l<4611686018427387904):Ct 108 [sl ci l,iv n] (·=bv (Q (lZ l n))):=by refine aLB λs0 _ b=>?_;simp only[IQ,↓uL];refine C7 (L l) (λk=>∀j,j<k->uJ l n j) (by simp) λk e d=>?_;simp+contextual only[adR,IQ,u0,u1,ix,rk,bh,↓uL];have g:0<k->(dq.wrap ((k:Int)-1)).toNat=k-1/\dq.wrap ((k:Int)-1)=((k-1:Nat):Int):=(by grind [eM]);have c:k<L l->((Q (gd l k<1)||Q (n<=gd l k)||Q (0<(k:Int))&&Q (gd l k<=gd l (dq.wrap ((k:Int)-1)).toNat))=I↔uJ l n k):=(by grind [uJ]);refine⟨λh=>⟨bA h,λ_=>bA h,λ_ _=>bA h,λ_ a=>?_,λa=>?_,(by grind [gS,aL])⟩,λh=>?_⟩;grind [aL,dJ];grind [lZ,aL];grind [lZ,C3,bw]
def Cf:FT:=gz OX
def ayU{l n Lw K}:=gX Cf OX l n Lw K
def nO(w:am)(t:Int):Bool:=dh t (L w.init.count)&&Q (1<=gd w.init.count t.toNat)
def Pa(w:am)(t:Int):Ct 105 [.a w.c,iv t] (·=bv (nO w t)):=by refine aLG rfl λf e b d=>?_;simp+contextual only[ad8,u0,u1,K3,ar,ix,rk,b,aj,dc,nO,DR,lS,↓uL]
def w8:FT:=lI Pa
def ayZ{w t Lw K}:=nq w8 Pa w t Lw K
def tX(l:List ByteArray)(s:ByteArray):Int:=match l.findIdx? (λx=>Q (x=s)) with|some i=>i|none=> -1
theorem avQ{l:List ByteArray}{s:ByteArray}{k:Nat}(b:k<L l)(h:∀j,j<k->gd l j≠s)(a:gd l k=s):tX l s=k:=by have:l.findIdx? (λx=>Q (x=s))=V k:=(by grind [RL,bT]);simp[tX,this]
def avP{l:List ByteArray}{s:ByteArray}(h:s∉l):tX l s= -1:=by grind [decide,GB,decide_eq_false_iff_not,tX]
def OH(l:List ByteArray)(s:ByteArray)(f:L l<4611686018427387904):Ct 102 [sl cs l,st s] (·=iv (tX l s)):=by refine aLi λs0 _ b=>?_;simp only[Iz,↓uL];refine C7 (L l) (λk=>∀j,j<k->gd l j≠s) (by simp) λk e d=>?_;simp+contextual only[abS,Iz,u0,u1,ix,rk,bh,↓uL];refine⟨λh=>⟨bA h,λc=>?_,(by grind [gS,aL])⟩,λh=>?_⟩;grind [avQ,aL];rw[avP λa=>(px (p:=λx=>x≠s)).1 (by grind) s a rfl]
def FB:FT:=gz OH
def ayE{l s Lw K}:=gX FB OH l s Lw K
def pS(t:Int):List aP->Int->Nat->Int|[],_,_=> -1|e::l,k,i=>if e.aq=t then(if k=0 then i else pS t l (k-1) (i+1)) else pS t l k (i+1)
def oV(w:am)(t k:Int):Int:=pS t w.ac k 0
theorem aWc{α:Type}[Inhabited α]{l:List α}{k:Nat}(h:k<L l):l.drop k=gd l k::l.drop (k+1):=by rw[bT h,List.drop_eq_getElem_cons h]
def O0(w:am)(t k:Int)(p:L w.ac<1000000/\ -1000000<=k/\k<9223372036854775808):Ct 111 [.a w.c,iv t,iv k] (·=iv (oV w t k)):=by refine aLE rfl λq o e n=>?_;simp only[IR,↓uL];refine yh (λs:Int×Nat=>[iv s.1,iv s.2]) 1 (L w.ac) (λs=>s.2<=L w.ac/\k-s.2<=s.1/\s.1<=k/\pS t (w.ac.drop s.2) s.1 s.2=oV w t k) (k,0) (by grind [oV]) ?_;rintro⟨b,i⟩ ⟨f,g,j,d⟩;simp only at f g j d;simp+contextual only[adZ,ad0,ad1,IR,u0,u1,ix,rk,e,aj,dc,bh,↓uL];refine⟨λh=>⟨bA h,λm=>⟨λl=>?_,λl=>?_⟩,λm=>?_⟩,λh=>?_⟩;grind [aWc,aL,pS];have:=aL h;refine wN (enc:=λs:Int×Nat=>[iv s.1,iv s.2]) (s:=(b,i)) (s':=(b-1,i+1)) (i:=i) ?_ rfl rfl (aL h) ⟨aL h,by omega,by omega,?_⟩;grind [fX,eM];grind [aWc,aL,pS,of_decide_eq_false];have:=aL h;refine wN (enc:=λs:Int×Nat=>[iv s.1,iv s.2]) (s:=(b,i)) (s':=(b,i+1)) (i:=i) ?_ rfl rfl (aL h) ⟨aL h,by omega,by omega,?_⟩;grind [fX];grind [aWc,aL,pS,of_decide_eq_false];have:i=L w.ac:=(by grind);rw[<-d,this,Gz];rfl
def FJ:FT:=qe O0
def ayX{w t k Lw K}:=sT FJ O0 w t k Lw K
def nE(l:List Int)(k:Nat):Int:=(l.take k).sum
theorem Ra{l:List Int}{k:Nat}(h:k<L l):nE l (k+1)=nE l k+gd l k:=by grind [nE,iJ,bT]
def rM(w:am):Bool:=Q (∀c∈w.init.count,0<=c/\c<=400)&&(Q (w.start=w.init.count.sum)&&Q (w.init.count.sum+L w.ac<=400))
def aoN{l:List Int}{k:Nat}(h:∀j,j<k->0<=gd l j/\gd l j<=400)(d:k<=L l):0<=nE l k/\nE l k<=400*k:=by induction k with|zero=>simp[nE]|succ k a=>have:=a (λj c=>h j (by omega)) (by omega);have b:=h k (by omega);rw[Ra (by omega)];omega
def Pb(w:am)(q:L w.ac<1000000/\L w.init.count<1000000):Ct 61 [.a w.c] (·=bv (rM w)):=by refine aLH rfl λu o g n=>?_;simp only[IS,↓uL];refine yh (λs:Int×Nat=>[iv s.1,iv s.2]) 1 (L w.init.count) (λs=>s.2<=L w.init.count/\s.1=nE w.init.count s.2/\∀j,j<s.2->0<=gd w.init.count j/\gd w.init.count j<=400) (0,0) (by grind [nE]) ?_;rintro⟨f,i⟩ ⟨d,k,b⟩;simp only at d k b;simp+contextual only[ad9,IS,u0,u1,ix,rk,g,aj,dc,bh,↓uL];have m:=aoN b d;have t:i<L w.init.count->(Q (gd w.init.count i<0)||Q (400<gd w.init.count i))=U->rM w=I:=(by grind [dB,rM]);refine⟨λh=>⟨bA h,λ_=>bA h,(by simp_all),λe=>⟨bA h,?_⟩⟩,λh=>?_⟩;have:=aL h;simp only[cP,nl,aqC] at e;refine wN (enc:=λs:Int×Nat=>[iv s.1,iv s.2]) (s:=(f,i)) (s':=(f+gd w.init.count i,i+1)) (i:=i) ?_ rfl rfl (aL h) ⟨aL h,?_,jf b e⟩;grind [fX,eM];grind [Ra,aL];have l:i=L w.init.count:=(by grind);have r:nE w.init.count i=w.init.count.sum:=(by rw[l,nE,gV]);have p:∀c∈w.init.count,0<=c/\c<=400:=px.1 (by simp_all);grind [eM,rM,decide_eq_true]
def aUr:FT:=mT Pb
def ay0{w Lw K}:=oK aUr Pb w Lw K
def aO8(s:bW)(e:aP):Bool:=
 bif Q (e.kind=3) then Q (e.value=gd s.cells e.bb.toNat)
 else bif Q (e.kind=23) then Q (e.value=gd s.bU e.bb.toNat)
 else bif Q (e.kind=5) then Q (e.value=0)||Q (e.value=1)
 else bif Q (e.kind=4)||Q (e.kind=22) then U
 else bif Q (e.kind=18) then(bif Q ((L (fO s.bm e.bb):Int)=0) then Q (e.value= -1) else Q (0<=e.value)&&(Q (e.value<L s.bm.ay)&&Q (e.value∈fO s.bm e.bb)))
 else bif Q (e.kind=19) then Q (e.value=L (fO s.bm e.bb))
 else Q (e.value=0)
def OY(s:bW)(e:aP)(h:L s.bm.ay<1000000/\(e.kind=3->aF (L s.cells) e.bb)/\(e.kind=23->aF (L s.bU) e.bb)):Ct 109 [.a s.c, .a e.c] (·=bv (aO8 s e)):=by refine aLC rfl rfl λl k b d j=>?_;simp only[adS,↓uL];simp only[f8,adU,iM,aY,sw,u1,b,d,rk,aj,↓uL];simp only[adT,aI,au,↓uL];have i:L (fO s.bm e.bb)<4611686018427387904:=rC (wU _ _ _) (by omega);have g:Q (e.kind=3)=U->aF (L s.cells) e.bb:=(by simp_all);have f:Q (e.kind=23)=U->aF (L s.bU) e.bb:=(by simp_all);simp+contextual only[↓iC,↓iB,↓iS,u0,u1,K3,ar,b,d,rk,ix,aj,dc,aO8,asq,aOl,i,h.1,g,f,oe,vg,o8,↓uL]
def FI:FT:=gz OY
def ayV{s e Lw K}:=gX FI OY s e Lw K
def aoV:dO:=(108,Cf)::(105,w8)::(102,FB)::(111,FJ)::(61,aUr)::(109,FI)::aoU
def Bs:eJ aoV:=it (aCb OX) (it (nI Pa) (it (aCb OH) (it (tE O0) (it (pg Pb) (it (aCb OY) (wP))))))
def ur:=ai @ayU<|ai @ayZ<|ai @ayE<|ai @ayX<|ai @ay0<|ai @ayV<|@K3
abbrev aNC:List AV:=[(.l [] U U),(iv 0),(.l [] U U),(.l [] U U)]
abbrev aO9:List AV:=[(iv 0),(.l [] U U)]
def atT:=bi 12 [(3,([5],[0,1]))]
def acd g f R c a:=rV (fo 1 a g (V (gt f 0)) J J) λd=>eV (j5 3 fB 8 a 47 c d) λe b=>aE R b [e]
def ace g f e R c a:=eV (aX bH 1 a [(0,g)]) λd b=>eV (j5 3 fB 8 b 42 c d) (acd f e R)
def acf c b f R d a:=rV (fo 1 a c J (V (gt b 0)) J) λe=>eV (j5 3 fB 8 a 38 d e) (ace f c b R)
def acg s0 c e R(s:cG)(m1:fD) b:=∀_:Rg,aJ s0 c λt=>aU (gt b 0) t λt3=>fm t3 c λu=>fm t3 (gt b 0) λv=>az t3 (ao 1 s0 u v) λf=>az t3 (aM s0 f) λg=>fm t3 e λh=>az t3 (aU g h) λi=>aD t3 i (bv I) λj=>ah j (aV (gt b 0) (iv 1) λd=>s [d]/\m1 [d]<m1 b) (aJ s0 c λk=>aU (gt b 0) k λa=>fm a c λl=>fm a (gt b 0) λm=>az a (ao 1 s0 l m) λn=>az a (aM s0 n) λo=>fm a e λp=>az a (bf o p) λq=>aD a q (bv I) λr=>ah r (aE R s0 [c]) (eV (aX bH 0 s0 []) (acf c b e R)))
def acb a b s0 R:=lR [(iv 0)] (acg s0 a b R)
def aLm{a:AV}{b:AV}{R:d7}(h:H0 λs0=>acb a b s0 R):Ct 194 [a,b] R:=z0 atT Bs Tryz.func194 h
def aui:=bi 16 [(4,([4],[1,3]))]
def aek a h n R(I7:cG)(W:fD) b:=∀_:Rg,aJ a h λt8=>aU (gt b 0) t8 λt9=>ah t9 (ao 3 a h (gt b 0) λX=>ab 0 a X λZ=>bf Z (iv 0) λi=>ic i h λaa=>ic i (gt b 0) λac=>aC i (ao 3 a aa ac) λad=>bn i 0 a ad λae=>aC i (bf ae (iv 1)) λaf=>aD i (bv U) af λag=>ao 3 a h (gt b 0) λak=>ab 0 a ak λal=>bf al (iv 3) λj=>ic j h λam=>ic j (gt b 0) λan=>aC j (ao 3 a am an) λap=>bn j 0 a ap λaq=>aC j (bf aq (iv 4)) λar=>aD j (bv U) ar λc=>ao 3 a h (gt b 0) λau=>ab 0 a au λav=>aU av (iv 0) λk=>ic k h λaw=>ic k (gt b 0) λax=>aC k (ao 3 a aw ax) λay=>bn k 0 a ay λaA=>aC k (aO .gtr aA (iv 5)) λaF=>aD k (bv U) aF λd=>ic d ag λaG=>aC d (aB 7 a n) λaI=>bn d 6 a aI λaK=>ic d (gt b 0) λaL=>aC d (ao 1 a aK aL) λaN=>aC d (aM a aN) λaP=>aC d (bf aP (iv 0)) λaQ=>aC d (rV (wl .neq 1 [] aG aQ)) λaR=>aD d (bv U) aR λl=>ic l (gt b 0) λo=>aC l (bf o (iv 0)) λp=>ic l p λe=>fm e h λq=>fm e (gt b 0) λr=>az e (ao 3 a q r) λs=>aT e 0 a s λt=>az e (bf t (iv 0)) λu=>aC l (aD e u (bv I)) λv=>aD l (bv U) v λw=>ah w (aE R a [(bv I)]) (fm c h λx=>fm c (gt b 0) λy=>az c (ao 3 a x y) λz=>aT c 1 a z λA=>az c (aB 0 a n) λB=>aT c 2 a B λC=>az c (aJ a C) λD=>az c (fV Ch a [A,D]) λE=>az c (cf E) λF=>aD c F (bv I) λg=>ic g c λG=>aC g (cf G) λH=>ic g H λf=>fm f h λK=>fm f (gt b 0) λM=>az f (ao 3 a K M) λN=>aT f 1 a N λO=>az f (aO .neq O (iv 0)) λP=>aC g (aD f P (bv I)) λS=>aD g (bv U) S λT=>ah T (aE R a [(bv I)]) (aV (gt b 0) (iv 1) λm=>I7 [m]/\W [m]<W b))) (aE R a [(bv U)])
def IU b a R:=aB 7 a b λt3=>aB 0 a t3 λt4=>ab 3 a t4 λc=>lR [(iv 0)] (aek a c b R)
def aLL{b:List AV}{R:d7}(l0:L b=15)(h:H1 43 15 1 b λc d=>IU c d R):Ct 62 [.a b] R:=z1 aui Bs Tryz.func62 l0 h
def auf:=bi 35 [(4,([4],[1,3])),(13,([6],[1,3,4,5])),(24,([7],[1,3]))]
def aed a e K R i(M:aG)(E:bu) F(D:cG)(h:fD) c:=∀_:Rg,ab 1 a e λG=>aJ a G λH=>aU (gt c 0) H λj=>ah j (aw 15 a K λk=>ab 1 a e λl=>ao 1 a l (gt c 0) λm=>aM a m λn=>fV w8 a [k,n] λo=>cf o λd=>ic d (gt c 0) λp=>aC d (aO .gtr p (iv 0)) λq=>ic d q λb=>aT b 1 a e λr=>fm b (gt c 0) λs=>az b (ao 1 a r s) λt=>az b (aM a t) λu=>aT b 1 a e λv=>fm b (gt c 0) λw=>az b (aO .sub w (iv 1)) λx=>az b (ao 1 a v x) λy=>az b (aM a y) λz=>az b (aO .leq u z) λA=>aC d (aD b A (bv I)) λB=>aD d (bv U) B λC=>ah C (aE R a [(bv I)]) (aV (gt c 0) (iv 1) λf=>D [f]/\h [f]<h c)) (aV (gt i 0) (iv 1) λg=>M [g] a/\E [g] a<E i F)
def aeb c g h R C D i a:=ab 0 a c λj=>aO .neq j (iv (-1)) λe=>az e (aw 15 a g) λk=>aT e 0 a c λl=>az e (fV w8 a [k,l]) λm=>az e (cf m) λn=>aD e n (bv I) λd=>bn d 1 a c λo=>aC d (aJ a o) λp=>aC d (aO .gtr p (iv 0)) λq=>ic d q λb=>az b (aB 0 a g) λr=>aT b 1 a r λs=>fm b (gt h 0) λt=>az b (ao 2 a s t) λu=>aT b 1 a u λv=>az b (cf v) λw=>fm b w λf=>bn f 0 a c λx=>aC f (aO .neq x (iv (-1))) λy=>az b (aD f (bv U) y) λz=>aC d (aD b z (bv I)) λA=>aD d (bv U) A λB=>ah B (aE R a [(bv I)]) (lR [(iv 0)] (aed a c g R h C D i))
def aec c i d R E(j:aG)(g:bu) k a:=ab 2 a c λe=>az e (aw 15 a i) λl=>fm e (gt d 0) λm=>az e (fV w8 a [l,m]) λn=>az e (cf n) λo=>aD e o (bv I) λp=>ah p (aE R a [(bv I)]) (ab 0 a c λq=>bf q (iv 3) λf=>bn f 0 a c λr=>aC f (bf r (iv 4)) λs=>aD f (bv U) s λb=>aT b 0 a E λt=>az b (aB 0 a i) λu=>aT b 2 a u λv=>aT b 1 a c λw=>az b (ao 2 a v w) λx=>aT b 1 a x λy=>az b (ao 2 a t y) λz=>aT b 0 a z λA=>fm b (gt d 0) λB=>az b (bf A B) λC=>aD b C (bv I) λD=>ah D (aE R a [(bv I)]) (aV (gt d 0) (iv 1) λh=>j [h] a/\g [h] a<g d k))
def aee d n R e f b a:=∀_:Rg,ab 3 a d λh=>aJ a h λi=>aU (gt b 0) i λj=>ah j (ab 3 a d λk=>ao 3 a k (gt b 0) λl=>aw 3 a l λm=>eV (bs 105 aNB a 8) λc g=>sV (aK 3 g c m) (aec c n b R d e f a)) (aE R a [(bv U)])
def aef c f R t u e a:=∀_:Rg,ab 0 a c λn=>aJ a n λo=>aU (gt e 0) o λp=>ah p (ab 0 a c λq=>ao 2 a q (gt e 0) λr=>aw 2 a r λs=>eV (bs 131 aO9 a 5) λd m=>sV (aK 2 m d s) (aeb d f e R t u a)) (ab 1 a c λg=>aO .neq g (iv (-1)) λb=>az b (aw 15 a f) λh=>aT b 1 a c λi=>az b (fV w8 a [h,i]) λj=>az b (cf j) λk=>aD b k (bv I) λl=>ah l (aE R a [(bv I)]) (lV [(iv 0)] a (aee c f R)))
def aea c a R:=aB 7 a c λt3=>aB 0 a t3 λt4=>aw 4 a t4 λf=>eV (bs 36 aNC a 3) λb d=>sV (aK 4 d b f) λe=>lV [(iv 0)] e (aef b c R)
def aLI{b:List AV}{R:d7}(l0:L b=15)(h:H1 43 15 1 b λc d=>aea c d R):Ct 63 [.a b] R:=z1 auf Bs Tryz.func63 l0 h
def auh:=bi 13 [(3,([7],[1,2,3])),(6,([],[1,2,3,7]))]
def aeh a(d:cG)(b:fD)(e:eQ):=∀_:Rg,aV (gt a 0) (iv 1) λc=>d [c]/\b [c]<b a
def aei a i f d g R(h:cG):=ao 1 a i (gt f 0) λK=>aM a K λM=>aB 7 a d λj=>ab 6 a j λk=>ao 1 a k g λl=>aM a l λm=>aU M m λn=>ah n (h []) (aw 15 a d λo=>ao 1 a i (gt f 0) λp=>aM a p λq=>aB 7 a d λr=>ab 6 a r λs=>ao 1 a s g λt=>aM a t λu=>aO .sub q u λv=>fV FJ a [o,g,v] λe=>aU e (iv 0) λb=>bn b 14 a d λw=>ic b e λx=>aC b (ao 7 a w x) λy=>bn b 1 a y λz=>aC b (aO .neq z (iv 3)) λA=>ic b A λc=>aT c 14 a d λB=>fm c e λC=>az c (ao 7 a B C) λD=>aT c 1 a D λE=>az c (aO .neq E (iv 23)) λF=>aC b (aD c F (bv I)) λG=>aD b (bv U) G λH=>ah H (aE R a [(bv I)]) (h []))
def aej b c d f R e g a:=∀_:Rg,aJ b c λt4=>aU (gt a 0) t4 λh=>ah h (jR 6 (aeh a e g) (aei b c a d f R)) (aE R b [(bv U)])
def IT a b c d R:=lR [(iv 0)] (aej d c a b R)
def aLK{b:List AV}{c:AV}{d:AV}{R:d7}(l0:L b=15)(h:H1 43 15 3 b λe f=>IT e c d f R):Ct 65 [.a b,c,d] R:=z1 auh Bs Tryz.func65 l0 h
def Eu(w:am)(j:Nat):Bool:=Q ((gd w.init.bm.ay j).cQ<0)||Q (5<(gd w.init.bm.ay j).cQ)||!((Q ((gd w.init.bm.ay j).cQ=0)||Q ((gd w.init.bm.ay j).cQ=1))==Q (gd w.init.count j=0))||Q ((j:Int)=0)&&Q ((gd w.init.bm.ay j).cQ=0)
def zX(w:am)(j:Nat):Bool:=(Q ((gd w.init.bm.ay j).cQ=3)||Q ((gd w.init.bm.ay j).cQ=4))&&!dh (gd w.init.bm.ay j).cond (L w.aQ.bC)||!(Q ((gd w.init.bm.ay j).cQ=3)||Q ((gd w.init.bm.ay j).cQ=4))&&Q ((gd w.init.bm.ay j).cond≠0)
def aOK(w:am)(j:Nat):Bool:=!Eu w j&&!zX w j
def uZ(w:am):Bool:=Q (∀j,j<L w.init.bm.ay->aOK w j=U)
def Pf(w:am)(p:L w.init.bm.ay<1000000/\L w.init.count=L w.init.bm.ay):Ct 62 [.a w.c] (·=bv (uZ w)):=by refine aLL rfl λq o d m=>?_;simp+contextual only[IU,u0,u1,ix,rk,d,aj,dc,bh,↓uL];refine C7 (L w.init.bm.ay) (λk=>∀j,j<k->aOK w j=U) (by simp) λk n l=>?_;simp+contextual (maxSteps:=3000000) only[aek,IU,u0,u1,ur,ar,ix,rk,d,aj,dc,bh,↓uL];have f:k<L w.init.bm.ay->aOK w k=I->bv I=bv (uZ w):=(by grind [aOK,uZ]);refine⟨λh=>?_,λh=>?_⟩;have b:=bA h;have g:aF (L w.init.count) (k:Int):=(by simp_all);simp only[b,g,oe,lS];refine⟨λi=>f (aL h) ?_,λi=>⟨λe=>f (aL h) ?_,λe=>gS (aL h) (by omega) (jf l ?_)⟩⟩;grind [aOK,Eu];grind [aOK,zX];grind [aOK,Eu,zX];grind [aOK,C3,bw,uZ,decide_eq_true]
def FM:FT:=mT Pf
def ay4{w Lw K}:=oK FM Pf w Lw K
def Qy(t:Int):∀(l:List aP) (k:Int) (i:Nat),pS t l k i<i+L l\/pS t l k i= -1
 |[],_,_=> .inr rfl
 |e::l,k,i=>by
  simp only[pS,bZ]
  have a:=Qy t l (k-1) (i+1)
  have b:=Qy t l k (i+1)
  omega
def aEu(w:am)(t k:Int):oV w t k<L w.ac\/oV w t k= -1:=by have:=Qy t w.ac k 0;grind [oV]
def qU(w:am)(t:Int)(n:Int):Bool:=Q (n<gd w.init.count t.toNat)||(Q (0<=oV w t (n-gd w.init.count t.toNat))&&(Q ((gd w.ac (oV w t (n-gd w.init.count t.toNat)).toNat).kind=3)||Q ((gd w.ac (oV w t (n-gd w.init.count t.toNat)).toNat).kind=23)))
def Pe(w:am)(t:Int)(l:List Int)(d:L l<1000000/\L w.ac<1000000/\aF (L w.init.count) t/\(∀c∈w.init.count,0<=c/\c<=400)/\(∀n∈l,-1000<=n/\n<9223372036854775808)):Ct 65 [.a w.c,iv t,sl ci l] (·=bv (Q (∀n∈l,qU w t n=U))):=by refine aLK rfl λy v f m=>?_;simp only[IT,↓uL];refine C7 (L l) (λk=>∀j,j<k->qU w t (gd l j)=U) (by simp) λk u r=>?_;simp+contextual only[aeh,aei,aej,IT,u0,u1,ur,ar,ix,rk,f,aj,dc,bh,↓uL];have g:k<L l->dq.wrap (gd l k-gd w.init.count t.toNat)=gd l k-gd w.init.count t.toNat:=(by grind [ii,dB,eM]);have q:k<L l->∀x,x=oV w t (gd l k-gd w.init.count t.toNat)->Q (gd l k<gd w.init.count t.toNat)=I->((Q (x<0)||Q ((gd w.ac x.toNat).kind≠3)&&Q ((gd w.ac x.toNat).kind≠23))=I↔qU w t (gd l k)=U):=(by grind [qU]);refine⟨λh=>⟨bA h,d.2.2.1,(by grind [gS,aL,qU]),λs=>?_⟩,λh=>?_⟩;rw[g (aL h)];have o:=d.2.2.2.1 _ (ii d.2.2.1);have p:=d.2.2.2.2 _ (dB (aL h));have e:∀x,x=oV w t (gd l k-gd w.init.count t.toNat)->(!Q (x<0))=U->aF (L w.ac) x:=λx i b=>(by have:=aEu w t (gd l k-gd w.init.count t.toNat);simp at b;exact⟨b,by rw[i];omega⟩);refine⟨bA h,d.2.2.1,⟨d.2.1,by omega,by omega⟩,e _ rfl,λb _=>e _ rfl b,λb=>?_,λb=>gS (aL h) (by omega) (by grind)⟩;have:¬(∀n∈l,qU w t n=U):=(by grind [aL,dB]);simp[this];have:∀n∈l,qU w t n=U:=px.1 (by grind);simp_all
def Ci:FT:=qe Pe
def ay3{w t l Lw K}:=sT Ci Pe w t l Lw K
def AM(w:am)(j:Nat):Bool:=Q ((gd w.init.bm.ak j).pw≠-1)&&!nO w (gd w.init.bm.ak j).pw||Q (0<(L (gd w.init.bm.ak j).bk:Int))&&(!(gd w.aQ.ak j).rw||Q ((gd w.init.bm.ak j).pw≠-1))
def yA(w:am)(l:List Int)(i:Nat):Prop:=nO w (gd l i)=U/\(0<i->gd l (i-1)<gd l i)
def QN(w:am)(l:List Int):Prop:=∀i,i<L l->yA w l i
instance{w:am}{l:List Int}{i:Nat}:Decidable (yA w l i):=by unfold yA;infer_instance
instance{w:am}{l:List Int}:Decidable (QN w l):=by unfold QN;infer_instance
def uD(w:am)(j:Nat):Prop:=AM w j=I/\QN w (gd w.init.bm.ak j).bk
instance{w:am}{j:Nat}:Decidable (uD w j):=by unfold uD;infer_instance
def yS(w:am):Bool:=Q (w.init.bm.tx≠-1)&&!nO w w.init.bm.tx
def pX(w:am)(j:Nat):Bool:=!((gd w.init.bm.ay j).atomic&&!nO w j)&&!((Q ((gd w.init.bm.ay j).cQ=3)||Q ((gd w.init.bm.ay j).cQ=4))&&Q ((gd w.init.bm.ak (gd w.aQ.bC (gd w.init.bm.ay j).cond.toNat).eg.toNat).pw=j))
def ny(w:am):Bool:=Q (∀j,j<L w.init.bm.ak->uD w j)&&(!yS w&&Q (∀j,j<L w.init.bm.ay->pX w j=U))
def Pc(w:am)(K:L w.init.bm.ak<1000000/\L w.init.bm.ay<1000000/\L w.init.bm.ak=L w.aQ.ak/\(∀l∈w.init.bm.ak,L l.bk<4611686018427387904)/\(∀c∈w.aQ.bC,aF (L w.aQ.ak) c.eg)/\uZ w=U):Ct 63 [.a w.c] (·=bv (ny w)):=by refine aLI rfl λs4 H A h0=>?_;simp+contextual only[aea,u0,u1,ix,rk,A,aj,dc,bh,↓uL];refine eF rfl rfl (by decide) (by omega) λY u R=>?_;have B:box Y (1,1)=_:=u.bt A;refine pQ (L w.init.bm.ak) [5] (λk=>∀j,j<k->uD w j) (by simp) λk y T x d=>?_;have e:box y (1,1)=_:=d.bt B;have o:box y (3,_)=_:=d.bt R;simp+contextual (maxSteps:=3000000) only[aef,u0,u1,ur,ar,ix,rk,e,o,aj,dc,bh,↓uL];have t:∀j,j<L w.init.bm.ak->¬uD w j->bv I=bv (ny w):=(by grind [uD,ny,decide_eq_false]);refine⟨λh=>⟨bA h,?_⟩,λh=>⟨λZ=>?_,λZ=>?_⟩⟩;refine eF rfl rfl (by decide) (by rw[d.1,u.1,H];decide) λg b s=>?_;have m:box g (1,1)=_:=b.bt e;have p:box g (3,_)=_:=b.bt o;simp+contextual (maxSteps:=3000000) only[aeb,u0,u1,ur,ar,ix,rk,m,p,s,aj,dc,bh,↓uL];refine⟨(by grind [dJ,aL]),λE=>t k (aL h) λv=>?_,λE=>?_⟩;have h1:=v.1;grind [AM];have hR:=K.2.2.2.1 _ (dB (aL h));refine C7 (L (gd w.init.bm.ak k).bk) (λi=>∀j,j<i->yA w (gd w.init.bm.ak k).bk j) (by simp) λi hi X=>?_;simp+contextual (maxSteps:=3000000) only[aed,u0,u1,ur,ar,ix,rk,m,s,aj,dc,bh,↓uL];have hs:0<i->(dq.wrap ((i:Int)-1)).toNat=i-1/\dq.wrap ((i:Int)-1)=((i-1:Nat):Int):=(by grind [eM]);have W:(!nO w (gd (gd w.init.bm.ak k).bk i)||Q (0<(i:Int))&&Q (gd (gd w.init.bm.ak k).bk i<=gd (gd w.init.bm.ak k).bk (dq.wrap ((i:Int)-1)).toNat))=I↔yA w (gd w.init.bm.ak k).bk i:=(by grind [yA]);refine⟨λf=>⟨bA f,λ_ _=>bA f,λ_ q=>?_,λq=>t k (aL h) λv=>?_,λq=>gS (aL f) (by omega) (by grind)⟩,λf=>?_⟩;grind [aL,dJ];rw[W.2 (v.2 i (aL f))] at q;cases q;refine oL (aL h) (by omega) (jf x ⟨E,λj S=>X j (C3 S (bw f))⟩) (d.trans b);grind [ny,yS];have hA:∀j,j<L w.init.bm.ak->uD w j:=(by grind);have F:∀j,j<L w.init.bm.ay->pX w j=I->bv I=bv (ny w):=(by grind [pX,ny,decide_eq_false]);have M:∀j,j<L w.init.bm.ay->aOK w j=U:=nt K.2.2.2.2.2;refine pQ (L w.init.bm.ay) [8] (λk=>∀j,j<k->pX w j=U) (by simp) λk g T x b=>?_;have m:box g (1,1)=_:=b.bt e;have p:box g (3,_)=_:=b.bt o;simp+contextual (maxSteps:=3000000) only[aee,u0,u1,ur,ar,ix,rk,m,p,aj,dc,bh,↓uL];refine⟨λh=>⟨bA h,?_⟩,λh=>?_⟩;refine eF rfl rfl (by decide) (by rw[b.1,d.1,u.1,H];decide) λz n G=>?_;have O:box z (1,1)=_:=n.bt m;have P:box z (3,_)=_:=n.bt p;simp+contextual (maxSteps:=3000000) only[aec,u0,u1,ur,ar,ix,rk,O,P,G,aj,dc,bh,↓uL];have r:(Q ((gd w.init.bm.ay k).cQ=3)||Q ((gd w.init.bm.ay k).cQ=4))=U->aF (L w.aQ.bC) (gd w.init.bm.ay k).cond:=λN=>(by have:=M k (aL h);simp only[aOK,zX,N,iw,fh,kM,Bool.or_false,Bool.not_not,bN] at this;exact dX.1 this.2);refine⟨λC=>F k (aL h) ?_,λC=>⟨r,λN=>?_,λD=>F k (aL h) ?_,λD=>oL (aL h) (by omega) (jf x ?_) (b.trans n)⟩⟩;rw[pX,C];rfl;grind [ii];rw[pX,D];simp;grind [pX];grind [pX,C3,bw,ny,decide_eq_true,yS]
def FL:FT:=mT Pc
def ay1{w Lw K}:=oK FL Pc w Lw K
def pU{l:List Int}:∀r∈l.map ci,L r=1:=by simp
def fk:List Int->Int->List Int|[],n=>[n]|x::l,n=>if x<n then x::fk l n else if x=n then x::l else n::x::l
def QJ:∀(l:List Int) (n:Int) (k:Nat),k<=L l->(∀j,j<k->gd l j<n)->(k<L l->¬gd l k<n)->fk l n=if k<L l/\gd l k=n then l else l.take k++n::l.drop k
 |[],n,k,b,_,_=>by grind [fk]
 |x::l,n,0,_,_,a=>by
  have:=a (by simp)
  simp only[gd,RQ] at this
  simp only[fk,cj this,gd,RQ,bZ,Nat.zero_lt_succ,lS,CE,List.drop_zero,dW]
 |x::l,n,k+1,b,c,a=>by
  have d:=c 0 (by omega)
  simp only[gd,RQ] at d
  have e:=QJ l n k (by grind) (by grind [gd]) (by grind [gd])
  grind [gd,fk,bZ]
def QK:∀(l:List Int) (n:Int),L (fk l n)<=L l+1
 |[],n=>by simp[fk]
 |x::l,n=>by
  have:=QK l n
  grind [fk]
def OL(l:List Int)(n:Int)(D:L l<1000000):Ct 194 [sl ci l,iv n] (λr=>∃t o,r= .l ((fk l n).map ci) t o):=by refine aLm λs0 e B=>?_;simp only[acb,↓uL];refine C7 (L l) (λk=>∀j,j<k->gd l j<n) (by simp) λk q p=>?_;simp+contextual only[acg,acf,u0,u1,ix,rk,bh,nS,aov,aFj,↓uL];have d:=QJ l n k q p;refine⟨λh=>bA h,λh=>?_,λh=>⟨λa=>bA a,λa=>⟨I,I,?_⟩,λa=>⟨(by omega),?_⟩⟩⟩;grind [gS,aL];rw[bN] at a;have i:=nt a.2;rw[d (λ_=>by omega),bX ⟨aL a.1,i⟩];rfl;have C:k<L l->¬gd l k<n:=(by simp_all);have m:¬(k<L l/\gd l k=n):=(by simp_all);rw[cj m] at d;refine fP (ds:=[38,42,47]) Gr.nil rfl (by decide) (by decide) (by omega) (by simp) pU (by grind) λy v g1 b=>?_;rw[dW] at g1;simp only[ace,iz,bQ,↓uL];refine fP g1 rfl (by decide) (by decide) (by rw[b.1,e];decide) pU (pU (l:=[n])) (by grind) λz w c f=>?_;rw[show(l.take k).map ci++[[AV.s (.int .i64 n)]]=(l.take k++[n]).map ci by simp] at c;simp only[acd,au,aIg,bh,↓uL];refine⟨(by omega),?_⟩;refine fP c rfl (by decide) (by decide) (by rw[f.1,b.1,e];decide) pU pU (by grind) λA x g u=>?_;refine qV g λt=>⟨t,U,?_⟩;simp_all
def BX:FT:=pn OL
def ayI{l n Lw K}:=rQ BX OL l n Lw K
def aoW:dO:=(62,FM)::(65,Ci)::(63,FL)::(194,BX)::aoV
def Rb:eJ aoW:=it (pg Pf) (it (tE Pe) (it (pg Pc) (it (aN0 OL) (Bs))))
def K7:=ai @ay4<|ai @ay3<|ai @ay1<|ai @ayI<|@ur
abbrev BE:List AV:=[(bv I)]
abbrev BD:List AV:=[(bv I)]
abbrev aTI:List AV:=[(iv 0),(iv 0),(bv I)]
abbrev aTL:List AV:=[(iv 0),(.l [] I I)]
def atW:=bi 9 [(4,([4],[1,2,3]))]
def acE b i e k l a m n q r s t p u o v w j x z y(g:aG)(c:bu) h d:=dH [(bo b),(bo i),(bo e),(bo k),km,(lb U [l,(gt a 0)] []),(bo m),(bo n),(lb I [] []),(bo e),(bo q),km,(lb U [r,(gt a 0)] []),(bo s),(bo t),(lb I [p,u] [38]),(lb U [o,v] []),(lb I [w] []),(lb I [j,x] [41]),(bo b),(lb I [z,y] [])] [(0,8),(1,8),(2,8),(3,8),(4,8),(5,8),(6,8),(7,8),(8,9),(8,10),(8,11),(8,12),(8,13),(8,14),(0,15),(1,15),(2,15),(3,15),(4,15),(5,15),(6,15),(7,15),(0,17),(1,17)] (aV (gt a 0) (iv 1) λf=>g [f] d/\c [f] d<c a h)
def acF a j i l m e n o r s t u q v p w x k y f g h c b:=aB 0 b a λd=>sV (aK 1 b d c) (acE a j i l m e n o r s t u q v p w x k y d c f g h)
def acG c b a n m o p g q r t u v w s x h i j d k:=rV (bM aO9 O7 [(0,c),(1,d)]) λe=>eV (aX aTL 1 k [(0,e)]) λf l=>eV (j5 131 aO9 32 l 41 b f) (acF a n m o p g q r t u v w s x c d e b f h i j)
def acH d c t o b n p q r s k l m e a:=aB 0 a d λf=>aM a f λg=>ao 2 a g (gt c 0) λh=>aB 1 a h λi=>aM a i λj=>eV (j5 3 fB 8 a 38 e j) (acG t o b n d p q c r s f g h i e j k l m)
def acN d b t3 R k l c a:=∀_:Rg,ab 0 a d λm=>aJ a m λn=>aU (gt c 0) n λo=>ah o (aB 0 a b λf=>aM a f λp=>aB 0 a d λg=>aM a g λh=>ao 2 a h (gt c 0) λi=>aB 0 a i λj=>aM a j λq=>eV (aX bH 0 a []) (acH d c q p b f g h i j k l a)) (aw 4 a b λr=>sV (aK 4 a t3 r) λe=>aw 4 e t3 λs=>fe R e [s])
def acI b k n m d g f h l e i a j t3 R c:=dH [(bo b),(bo k),(lb I [] []),(bo b),(bo n),(lb I [m,d] [10]),(lb I [] []),(bo b),(bo g),(lb I [f,h] [14]),(lb U [l,e,i] []),(lb I [] [3]),(lb I [a,j] [])] [(0,2),(1,2),(2,3),(2,4),(0,5),(1,5),(0,6),(1,6),(2,6),(3,6),(4,6),(5,6),(2,7),(5,7),(6,7),(2,8),(5,8),(6,8),(0,9),(1,9),(0,11),(1,11),(2,11),(3,11),(4,11),(5,11),(6,11),(7,11),(8,11),(9,11),(10,11)] (lV [(iv 0)] c (acN b a t3 R))
def acJ l b g m o n h j i k t3 R c e:=rV (bM aNC alz [(1,l),(2,b),(3,c)]) λd=>eV (bs 36 aNC e 3) λa f=>sV (aK 4 f a d) (acI g m o n h j i k l b c a d t3 R)
def acK b i g h k j f t3 R c a:=aB 3 a b λd=>aM a d λe=>eV (j5 105 aNB 24 a 14 c e) (acJ i g b h k j f d c e t3 R)
def acL a i h t3 R f c:=aB 2 c a λg=>aM c g λb=>eV (j5 4 BE 1 c 10 f b) λe d=>eV (aX aTI 0 d []) (acK a i e h g f b t3 R)
def acM a R t3 b:=aB 1 b a λc=>aM b c λd=>eV (aX BD 0 b []) (acL a d c t3 R)
def IF a b R:=eV (bs 36 aNC b 2) (acM a R)
def aJs{a:AV}{s0:ae}{R:be}(h:eV (qm 36 4 s0 1 a) λb c=>IF b c R):EB 161 [a] s0 R:=zB atW Rb Tryz.func161 h
def aLp{d:List AV}{s0:ae}{R:be}(g:L s0=4096)(l0:L d=4)(h:∀(b:ae) (c:Nat),Kp s0 b->(∀k,k≠1->aZ b k=aZ s0 k)->(∀x,box s0 (1,c)≠V x)->box b (1,c)=V ⟨36,4,U,U,[d]⟩->IF (.p (1,c) 0 0) b R):EB 161 [.a d] s0 R:=by refine aJs ?_;refine iN rfl l0 (by decide) (by decide) g λb c j g0 l e=>?_;exact h b c j (λk f=>g0 k f) (λx i=>l x ((Kp.refl _).keep _ _ i)) e
def atU:=bi 15 [(4,([5,6],[0,1])),(10,([5,7],[1]))]
def aci s0 d R(i:cG)(e:fD) a:=∀_:Rg,aJ s0 d λj=>aU (gt a 1) j λf=>ah f (ao 1 s0 d (gt a 1) λg=>aM s0 g λh=>fV BX s0 [(gt a 0),h] λb=>aV (gt a 1) (iv 1) λc=>i [b,c]/\e [b,c]<e a) (aE R s0 [(gt a 0)])
def acj s0 b f R(e:cG)(m1:fD) a:=∀_:Rg,aJ s0 b λg=>aU (gt a 1) g λt3=>ah t3 (ao 1 s0 b (gt a 1) λt4=>aM s0 t4 λh=>fV BX s0 [(gt a 0),h] λc=>aV (gt a 1) (iv 1) λd=>e [c,d]/\m1 [c,d]<m1 a) (lR [(gt a 0),(iv 0)] (aci s0 f R))
def ach a b s0 R:=lR [(.l [] U U),(iv 0)] (acj s0 a b R)
def aLn{a:AV}{b:AV}{R:d7}(h:H0 λs0=>ach a b s0 R):Ct 162 [a,b] R:=z0 atU Rb Tryz.func162 h
def fl:AV->Bool| .s _| .l _ _ _| .m _ _=>U|_=>I
def pv{e:TypeId}{z d:Nat}{zs:List AV}{Y:ae}{K:be}(h:L zs=z)(g:0<z)(c:d<L Y)(b:∀Y',Fr Y Y' [d]->box Y' (d,(aZ Y d).lB+1)=V ⟨e,z,U,U,[zs]⟩->K (.p (d,(aZ Y d).lB+1) 0 0) Y'):eV (bs e zs Y d) K:=by have a:bs e zs Y d=V (.p (d,(aZ Y d).lB+1) 0 0,put Y d ⟨e,z,U,U,[zs]⟩):=(by grind [bs,y7,lA]);rw[a];exact b _ ⟨D3,λk f=>yk (λe=>f (by simp[e]))⟩ (zQ c rfl)
def dT{a:List fY}{l:List (Nat×Nat)}{R:Prop}(h:(l.all λp=>eL (a.getD p.1 (U,[])) (a.getD p.2 (U,[])))=U)(b:R):dH a l R:=by grind [ale,dV]
def uc{Y:ae}{ds:List Nat}{e:TypeId}{z:Nat}{a:AV}{aa:List (List AV)}(b:Gr Y ds e z a aa):eY a=V [a]:=by rcases b with⟨_,rfl⟩|⟨d,v,rfl,_⟩<;>rfl
theorem Gr.fr{Y Y':ae}{ds b:List Nat}{e:TypeId}{z:Nat}{a:AV}{aa:List (List AV)}(j:Gr Y ds e z a aa)(i:Fr Y Y' b)(l:∀k∈ds,k∉b):Gr Y' ds e z a aa:=by rcases j with h|⟨d,v,f,c,g⟩;exact .inl h;exact .inr ⟨d,v,f,c,by rw[i.box (l d c)];exact g⟩
def Ev{Y:ae}{d v j z:Nat}{e:TypeId}{o:Bool}{r:List AV}{x:AV}{K:ae->Prop}(a:box Y (d,v)=V ⟨e,z,o,U,[r]⟩)(h:d<L Y)(g:eY x=V [x])(i:j<L r)(c:∀Y',Fr Y Y' [d]->box Y' (d,v)=V ⟨e,z,o,U,[r.set j x]⟩->K Y'):sV (aK 1 Y (.p (d,v) 0 j) x) K:=by have b:aK 1 Y (.p (d,v) 0 j) x=V (wr Y (d,v) ⟨e,z,o,U,[r.set j x]⟩):=(by simp only[aK,aBG,a,vm,pW,g,qh,bZ,vw];grind [Option.some.injEq,GP]);rw[b];exact c _ ⟨uC,λk f=>wy (λe=>f (by simp[e]))⟩ (lO a)
def gN{Y:ae}{d v z:Nat}{e:TypeId}{o:Bool}{r cs:List AV}{K:ae->Prop}(f:box Y (d,v)=V ⟨e,z,o,U,[r]⟩)(i:d<L Y)(j:L r=z)(h:L cs=z)(c:∀Y',Fr Y Y' [d]->box Y' (d,v)=V ⟨e,z,o,U,[cs]⟩->K Y'):sV (aK z Y (.p (d,v) 0 0) (.a cs)) K:=by have b:aK z Y (.p (d,v) 0 0) (.a cs)=V (wr Y (d,v) ⟨e,z,o,U,[cs]⟩):=(by grind [aK,aBG,pW,eY,qh]);rw[b];exact c _ ⟨uC,λk g=>wy (λe=>g (by simp[e]))⟩ (lO f)
def awE{Y:ae}{zs:List AV}{x a:AV}{ds:List Nat}{e:TypeId}{z:Nat}{aa:List (List AV)}{K:be}(j:L zs=2)(i:∃y,x= .s y)(c:Gr Y ds e z a aa)(b:∀Y',Fr Y Y' ds->K (.l [[x, .l aa I I]] U U) Y'):eV (aX zs 1 Y [(0, .a [x,a])]) K:=by obtain⟨y,rfl⟩:=i;obtain⟨z0,z1,rfl⟩:∃z0 z1,zs=[z0,z1]:=(by match zs,j with|[z0,z1],_=>simp);rcases c with⟨rfl,rfl⟩|⟨d,v,rfl,g,f⟩;have:aX [z0,z1] 1 Y [(0, .a [.s y, .l [] U U])]=V (.l [[.s y, .l [] I I]] U U,Y):=(by simp[aX,gp,eY,nrm,gK,eR,gi,eB,iR,kills,kC,eN]);rw[this];exact b Y (Fr.refl _ _);have:aX [z0,z1] 1 Y [(0, .a [.s y, .m (d,v) (L aa)])]=V (.l [[.s y, .l aa I I]] U U,kill Y (d,v)):=(by simp[aX,gp,eY,nrm,gK,eR,gi,f,eB,iR,kills,kC,eN]);rw[this];exact b _ ⟨Qi,λk h=>ani (λe=>h (by rw[e];exact g))⟩
def xL{Y:ae}{ds:List Nat}{e:TypeId}{z:Nat}{a:AV}{aa:List (List AV)}{K:d7}{i:Int}(h:Gr Y ds e z a aa)(b:aF (L aa) i)(j:∀d v,d∈ds->a= .m (d,v) (L aa)->box Y (d,v)=V ⟨e,z,U,I,aa⟩->K (.p (d,v) i.toNat 0)):rV (cz z Y a (iv i)) K:=by rcases h with⟨rfl,rfl⟩|⟨d,v,rfl,f,c⟩;have:=b.1;have:=b.2;grind;have g:i.toNat<L aa:=(by have:=b.1;have:=b.2;omega);simp only[cz,b.1,vm,c,qd,g,vg];exact j d v f rfl c
def Dz{Y:ae}{e:TypeId}{z d v i j:Nat}{aa:List (List AV)}{r:List AV}{x y:AV}{K:ae->Prop}(a:box Y (d,v)=V ⟨e,z,U,I,aa⟩)(o:d<L Y)(h:aa[i]?=V r)(q:j<L r)(l:nrm (eR Y x)=y)(f:eB x=[])(m:eY y=V [y])(n:eN y=U)(c:∀Y',Fr Y Y' [d]->box Y' (d,v)=V ⟨e,z,U,I,aa.set i (r.set j y)⟩->K Y'):sV (aK 1 Y (.p (d,v) i j) x) K:=by have b:aK 1 Y (.p (d,v) i j) x=V (wr Y (d,v) ⟨e,z,U,I,aa.set i (r.set j y)⟩):=(by simp only[aK,aBG,a,eE,aNV,f,kills,aRl,pW,l,m,h,bZ,vw];grind [GP]);rw[b];exact c _ ⟨uC,λk g=>wy (λe=>g (by simp[e]))⟩ (lO a)
def anc{Y:ae}{e:TypeId}{z d v i j:Nat}{aa:List (List AV)}{o b:Bool}{r:List AV}{q:Option Nat}(a:box Y (d,v)=V ⟨e,z,o,b,aa⟩)(c:aa[i]?=V r):kb q Y (.p (d,v) i j)=aN q (r.drop j):=by simp[kb,iE,a,c]
def mo{e:TypeId}{z d n:Nat}{zs:List AV}{Y:ae}{K:be}(f:L Y=n)(b:∀Y',Fr Y Y' [d]->box Y' (d,(aZ Y d).lB+1)=V ⟨e,z,U,U,[zs]⟩->K (.p (d,(aZ Y d).lB+1) 0 0) Y')(g:L zs=z:=by exact rfl)(a:0<z:=by decide)(c:d<n:=by decide):eV (bs e zs Y d) K:=pv g a (f▸c) b
def qW{α:Type}{f:α->List AV}{z:Nat}(a:∀x,L (f x)=z){l:List α}:∀r∈l.map f,L r=z:=by simp_all
def uS{a b c d:AV}:aN (V 4) [a,b,c,d]=V (.a [a,b,c,d]):=rfl
def iF{a:AV}{l:List AV}:aN J (a::l)=V a:=rfl
def zU{v:Value}:eY (.s v)=V [.s v]:=rfl
def aqx(s:aW)(r:AV)(Y:ae):Prop:=∃b d e,r= .a [b,iv s.tx,d,e]/\Gr Y [41] 131 2 b (s.ak.map cg.c)/\Gr Y [10] 4 1 d (s.done.map cb)/\Gr Y [14] 105 3 e (s.ay.map bF.c)
def aCH(s:aW){s0:ae}(hs:L s0=4096)(hp:L s.ak<100000/\L s.done<100000/\L s.ay<100000/\∀l∈s.ak,L l.bk<1000000):∃r p,(aqx s r p/\Fr s0 p [1,2,3,10,14,38,41])/\cZ aS GG 161 [.a s.c] s0 r p:=by refine aLp hs rfl λz A C ar _ b1=>?_;have y:L z=4096:=C.len.trans hs;have d:Fr s0 z [1]:=⟨C.len,λk hk=>ar k (by simpa using hk)⟩;simp only[IF,↓uL];refine pv rfl (by decide) (by omega) λs4 g b4=>?_;have D:box s4 (1,A)=_:=g.bt b1;simp only[acM,acL,u0,u1,rk,D,aj,nS,↓uL];refine fP (ds:=[10]) Gr.nil rfl (by decide) (by decide) (by rw[g.1,y];decide) (by simp) (by grind) (by grind) λt s6 v i=>?_;rw[dW] at v;have E:box s6 (1,A)=_:=i.bt D;simp only[acK,u0,u1,rk,E,aj,nS,↓uL];refine fP (ds:=[14]) Gr.nil rfl (by decide) (by decide) (by rw[i.1,g.1,y];decide) (by simp) (by grind [bF.c]) (by grind) λu s8 w j=>?_;rw[dW] at w;have ad:=v.fr j (by decide);have an:bM aNC alz [(1,iv s.tx),(2,t),(3,u)]=V (.a [.l [] U U,iv s.tx,t,u]):=(by simp[bM,gp,uc v,uc w,zU]);simp only[acJ,an,u0,↓uL];refine eF rfl rfl (by decide) (by rw[j.1,i.1,g.1,y];decide) λf b S=>?_;simp only[acI,↓uL];refine dT ?_ ?_;rcases v with⟨_,Z⟩|⟨d2,v2,Z,G,_⟩<;>rcases w with⟨_,e3⟩|⟨d3,v3,e3,H,_⟩<;>(try simp only[cE] at G)<;>(try simp only[cE] at H)<;>(try subst G)<;>(try subst H)<;>rw[Z,e3]<;>rfl;have T:box f (1,A)=_:=b.bt (j.bt E);have W:box f (2,(aZ z 2).lB+1)=_:=b.bt (j.bt (i.bt b4));have af:=ad.fr b (by decide);have ag:=w.fr b (by decide);have O:L f=4096:=(by rw[b.1,j.1,i.1,g.1,y]);refine⟨λvs Y=>∃(k:Nat) (q:AV),vs=[iv k]/\k<=L s.ak/\Fr f Y [3,38,41]/\box Y (3,(aZ s8 3).lB+1)=V ⟨36,4,U,U,[[q,iv s.tx,t,u]]⟩/\Gr Y [41] 131 2 q ((s.ak.take k).map cg.c),fM (L s.ak),⟨0,_,rfl,mh _,Fr.refl _ _,S,Gr.nil⟩,?_⟩;rintro vs Y ⟨k,q,rfl,hk,e,hb,g1⟩;have X:box Y (1,A)=_:=e.bt T;have c4:box Y (2,(aZ z 2).lB+1)=_:=e.bt W;simp+contextual only[acN,u0,u1,rk,uS,iF,X,hb,ix,aBE,aj,dc,bh,nS,↓uL];have P:L Y=4096:=(by rw[e.1,O]);refine⟨λh=>⟨bA h,?_⟩,λh=>?_⟩;have hR:=hp.2.2.2 _ (dB (aL h));simp only[acH,au,u0,u1,rk,X,ix,aj,dc,bh,↓uL];refine⟨bA h,?_⟩;refine fP (ds:=[38]) Gr.nil rfl (by decide) (by decide) (by omega) (by simp) (by simp) (by grind) λR p x m=>?_;rw[dW] at x;have N:bM aO9 O7 [(0,iv (gd s.ak k).pw),(1,R)]=V (.a [iv (gd s.ak k).pw,R]):=(by simp[bM,gp,uc x,zU]);simp only[acG,N,u0,↓uL];refine awE rfl ⟨_,rfl⟩ x λY2 d=>?_;have ac:=(g1.fr m (by decide)).fr d (by decide);refine fP ac rfl (by decide) (by decide) (by rw[d.1,m.1,P];decide) (by grind [cg.c]) (by grind [cg.c,gd]) (by grind) λa5 Y3 g5 M=>?_;have F:box Y3 (3,(aZ s8 3).lB+1)=_:=M.bt (d.bt (m.bt hb));simp only[acF,u0,u1,F,aj,Nat.add_zero,↓uL];refine Ev F (by rw[M.1,d.1,m.1,P];decide) (uc g5) (by simp) λY4 B am=>?_;simp only[acE,↓uL];refine dT ?_ ?_;rcases x with⟨_,e4⟩|⟨d4,v4,e4,K,_⟩<;>(try simp only[cE] at K)<;>(try subst K)<;>rw[e4]<;>rfl;simp only[au,cS,aY,↓uL];have n:=aL h;rw[fX (by omega)];refine⟨⟨k+1,a5,rfl,n,?_,am,?_⟩,?_⟩;exact e.trans ((m.mono (by simp)).trans ((d.mono (by simp)).trans ((M.mono (by simp)).trans (B.mono (by simp)))));have:=g5.fr B (by decide);rw[show s.ak.take (k+1)=s.ak.take k++[gd s.ak k] by rw[bT n,iJ n],dg];exact this;grind [fM,cM,bh];have ap:k=L s.ak:=(by grind);refine gN c4 (by omega) rfl rfl λY5 o b5=>?_;simp only[b5,u0,u1,uS,fe,aoz,↓uL];rw[ap,gV] at g1;refine⟨⟨q,t,u,rfl,g1.fr o (by decide),(af.fr e (by decide)).fr o (by decide),(ag.fr e (by decide)).fr o (by decide)⟩,?_⟩;exact(d.mono (by simp)).trans ((g.mono (by simp)).trans ((i.mono (by simp)).trans ((j.mono (by simp)).trans ((b.mono (by simp)).trans ((e.mono (by simp)).trans (o.mono (by simp)))))))
def Dj(a b:AV):Prop:=∀k∈cD a,k∉cD b
theorem KJ{Y:ae}{g h:List Nat}{e j:TypeId}{z m:Nat}{a f:AV}{aa b:List (List AV)}(l:Gr Y g e z a aa)(i:Gr Y h j m f b)(p:∀k∈g,k∉h):Dj a f:=by rcases l with⟨_,rfl⟩|⟨d,v,rfl,r,_⟩;intro k c;simp[cD,dC,dK] at c;rcases i with⟨_,rfl⟩|⟨q,v',rfl,n,_⟩;intro k c;simp[cD,dC,dK];intro k c o;grind [cD,dC,dK,cE]
def jH{fn:Nat}{xs:List AV}{Y:ae}{d:Nat}{K Q:be}(f:uQ.elem fn=I)(h:∃r a,Q r a/\cZ aS GG fn xs Y r a)(e:∀r a,Q r a->L a=L Y/\K r a):cB fn xs Y d K:=by obtain⟨r,a,b,c⟩:=h;refine⟨r,a,c,(e r a b).1,?_⟩;rw[cj (by show¬uQ.elem fn=U;rw[f];simp)];simp_all
theorem Gr.sub{Y:ae}{ds b:List Nat}{e:TypeId}{z:Nat}{a:AV}{aa:List (List AV)}(i:Gr Y ds e z a aa)(j:∀k∈ds,k∈b):Gr Y b e z a aa:=by rcases i with h|⟨d,v,c,f,g⟩;exact .inl h;exact .inr ⟨d,v,c,j d f,g⟩
def awZ{s:aW}{Y:ae}{d:Nat}{K:be}(h:L s.ak<100000/\L s.done<100000/\L s.ay<100000/\∀l∈s.ak,L l.bk<1000000)(i:L Y=4096)(n:∀b e f Y',Fr Y Y' [1,2,3,10,14,38,41]->Gr Y' [10,14,41] 131 2 b (s.ak.map cg.c)->Gr Y' [10,14,41] 4 1 e (s.done.map cb)->Gr Y' [10,14,41] 105 3 f (s.ay.map bF.c)->Dj b e->Dj b f->Dj e f->K (.a [b,iv s.tx,e,f]) Y'):cB 161 [.a s.c] Y d K:=by refine jH rfl (aCH s i h) ?_;rintro r j ⟨⟨b,e,f,rfl,g1,k,m⟩,g⟩;exact⟨g.1,(by grind [Gr.sub,KJ])⟩
def QS{aa:List (List AV)}{Q:d7}:(∀r,(∃t o,r=AV.l aa t o)->Q r)=∀t o,Q (.l aa t o):=by grind
def ang{Y:ae}{aa:List (List AV)}{t o:Bool}{v:Value}{r:AV}:lo Y [.l aa t o, .s v] r=True:=by simp[lo,nA,eB,iR]
def jh(l:List Int)(a:List Int)(k:Nat):List Int:=(a.take k).foldl fk l
theorem QL{l a:List Int}{k:Nat}(h:k<L a):jh l a (k+1)=fk (jh l a k) (gd a k):=by rw[jh,iJ h,RO,bT h];rfl
def Bh{l a:List Int}:∀{k:Nat},k<=L a->L (jh l a k)<=L l+k
 |0,_=>by simp[jh]
 |k+1,h=>by
  rw[QL (by omega)]
  have:=QK (jh l a k) (gd a k)
  have:=Bh (l:=l) (a:=a) (k:=k) (by omega)
  omega
def mP(a b:List Int):List Int:=jh (jh [] a (L a)) b (L b)
def OM(a b:List Int)(n:L a+L b<900000):Ct 162 [sl ci a,sl ci b] (λr=>∃t o,r= .l ((mP a b).map ci) t o):=by refine aLn λs0 m j=>?_;simp only[ach,↓uL];refine yh (λs:Bool×Bool×Nat=>[.l ((jh [] a s.2.2).map ci) s.1 s.2.1,iv s.2.2]) 1 (L a) (λs=>s.2.2<=L a) (U,U,0) (by simp) ?_;rintro⟨t,o,k⟩ c;simp only at c;have e:=Bh (l:=[]) (a:=a) c;simp+contextual only[acj,u0,u1,K7,ar,ix,rk,bh,QS,ang,↓uL];refine⟨λh=>⟨bA h,by simp only[vw] at e;omega,λf o'=>?_⟩,λh=>?_⟩;have:=aL h;refine wN (enc:=λs:Bool×Bool×Nat=>[.l ((jh [] a s.2.2).map ci) s.1 s.2.1,iv s.2.2]) (s:=(t,o,k)) (s':=(f,o',k+1)) (i:=k) ?_ rfl rfl (aL h) (aL h);grind [fX,QL,aL];have d:k=L a:=(by grind);subst d;refine yh (λs:Bool×Bool×Nat=>[.l ((jh (jh [] a (L a)) b s.2.2).map ci) s.1 s.2.1,iv s.2.2]) 1 (L b) (λs=>s.2.2<=L b) (t,o,0) (by simp) ?_;rintro⟨t,o,k⟩ c;simp only at c;have g:=Bh (l:=jh [] a (L a)) (a:=b) c;simp+contextual only[aci,u0,u1,K7,ar,ix,rk,bh,QS,ang,↓uL];refine⟨λh=>⟨bA h,by simp only[vw] at e;omega,λf o'=>?_⟩,λh=>?_⟩;have:=aL h;refine wN (enc:=λs:Bool×Bool×Nat=>[.l ((jh (jh [] a (L a)) b s.2.2).map ci) s.1 s.2.1,iv s.2.2]) (s:=(t,o,k)) (s':=(f,o',k+1)) (i:=k) ?_ rfl rfl (aL h) (aL h);grind [fX,QL,aL];have d:k=L b:=(by grind);subst d;exact⟨rfl,t,o,rfl⟩
def FE:FT:=pn OM
def ayJ{a b Lw K}:=rQ FE OM a b Lw K
def aoX:dO:=(162,FE)::aoW
def apa:eJ aoX:=it (aN0 OM) (Rb)
def wa:=ai @ayJ<|@K7
def atV:=bi 43 [(6,([15],[7,12])),(10,([45],[2,4,5,6,7,12,15,30])),(12,([54],[2,4,5,6,7,12,15,30])),(29,([17],[7,12])),(36,([19],[7,12,18]))]
def acl c R a:=aw 4 a c λb=>aE R a [b,(iv 0),(bv I)]
def aco d R b a:=aw 4 a d λc=>aE R a [c,(gt b 0),(bv U)]
def CP c e R b a:=∀_:Rg,aw 4 a c λd=>sV (aK 4 a e d) (aco e R b)
def acp a e h i c j k q l m g o p n(b:aG) d:=dH [(bo a),(bo e),km,(bo a),(bo h),km,(lb U [i,c] []),(bo j),(bo k),km,(lb I [q] []),(Qh [(.f 162 [] []),l,m]),(lb U [g,c] []),(bo o),(lb I [p,n] [])] [(0,10),(1,10),(2,10),(3,10),(4,10),(5,10),(6,10),(7,10),(8,10)] (b [(iv 0)] d)
def acr c b i j k l m n o p h d a:=fV FE a [c,d] λe=>ao 2 a b i λf=>aB 1 a f λg=>sV (aK 1 a g e) (acp j k l m i n o p c d b f g e h)
def acs a c e d l g h f i j m(k:aG) b:=dH [(bo a),(bo c),km,(bo a),(bo e),km,km,(lb U [d,l] []),(bo g),(lb I [h,(iv 3)] []),(lb U [f,l] []),(bo i),(lb I [j,m] [])] [(3,9),(4,9),(5,9),(6,9)] (k [(iv 0)] b)
def act b k l m e g f h i j a:=ao 3 a b k λc=>aB 1 a c λd=>sV (aK 1 a d l) (acs m e g f k h i b c d l j)
def IE b j k i a:=aB 3 a b λc=>aM a c λd=>aB 3 a b λe=>aM a e λh=>ao 3 a d j λf=>aB 0 a f λg=>sV (aK 1 a g (iv 3)) (act h j k b c e d f g i)
def acu a c e d l g h f i j(k:aG) b:=dH [(bo a),(bo c),km,(bo a),(bo e),km,(lb U [d,l] []),(bo g),(lb I [h,(iv 2)] []),(lb U [f,l] []),(bo i),(lb I [j,(iv 0)] [])] [(3,8),(4,8),(5,8)] (k [(iv 0)] b)
def acv b k l e g f h i j a:=ao 3 a b k λc=>aB 1 a c λd=>sV (aK 1 a d (iv 0)) (acu l e g f k h i b c d j)
def IC b j i a:=aB 3 a b λc=>aM a c λd=>aB 3 a b λe=>aM a e λh=>ao 3 a d j λf=>aB 0 a f λg=>sV (aK 1 a g (iv 2)) (acv h j b c e d f g i)
def acy a h(g:aG) b:=∀_:Rg,ab 3 a h λd=>ao 3 a d (gt b 0) λe=>aB 0 a e λf=>sV (aK 1 a f (iv 4)) λc=>g [(gt b 0)] c
def acB f b e c(a:cG):=fV aQF f [b,e] λd=>ah d (a [e]) (a [c])
def ID a(e:aG)(b:bu) f c:=aV (gt a 0) (iv 1) λd=>e [d] c/\b [d] c<b a f
def acD c o(n:aG) d e b a:=∀_:Rg,aJ a c λf=>aU (gt b 0) f λg=>ah g (ab 3 a o λh=>ao 1 a c (gt b 0) λi=>aM a i λj=>ao 3 a h j λk=>aB 0 a k λl=>sV (aK 1 a l (iv 4)) (ID b d e a)) (aJ a c λm=>n [m] a)
def acx a b e(c:aG) d f m a5 R:=∀_:Rg,ah (gt R 0) (ab 0 a b λac=>ao 2 a ac e λad=>aB 0 a ad λae=>sV (aK 1 a ae (iv (-1))) λS=>c [(iv 0)] S) (bf d (iv 8) λaf=>ah af (aB 0 a b λh=>aM a h λag=>aB 0 a b λi=>aM a i λj=>ao 2 a j e λk=>aB 1 a k λl=>aM a l λak=>eV (aX bH 1 a [(0,f)]) (acr ak ag e b h i j k l f c)) (bf d (iv 9) λal=>ah al (ab 0 a b λam=>ab 0 a b λan=>ao 2 a an e λap=>ab 1 a ap λaq=>fV Cb a [aq,f] λar=>ao 2 a am e λau=>aB 1 a au λav=>sV (aK 1 a av ar) λT=>c [(iv 0)] T) (bf d (iv 12) λax=>ah ax (aB 1 a b λay=>sV (aK 1 a ay f) λW=>c [(iv 0)] W) (bf d (iv 13) λaz=>ah az (aB 1 a b λaA=>sV (aK 1 a aA (iv (-1))) λX=>c [(iv 0)] X) (bf d (iv 14) λaC=>ah aC (ab 3 a b λaD=>ao 3 a aD f λaE=>aB 2 a aE λaF=>sV (aK 1 a aF (bv U)) λZ=>c [(iv 0)] Z) (bf d (iv 15) λaI=>ah aI (ab 3 a b λaL=>ao 3 a aL f λaN=>aB 2 a aN λaP=>sV (aK 1 a aP (bv I)) λaa=>c [(iv 0)] aa) (bf d (iv 16) λaQ=>ah aQ (ab 0 a b λaR=>ab 2 a m λaT=>ao 2 a aT e λaU=>ab 1 a aU λaV=>ao 2 a aR aV λaW=>aB 0 a aW λp=>sV (aK 1 a p (iv (-1))) (IE b f e c)) (bf d (iv 17) λq=>ah q (ab 0 a b λr=>ab 2 a m λs=>ao 2 a s e λt=>ab 1 a t λu=>ao 2 a r u λv=>aB 0 a v λw=>sV (aK 1 a w f) (IC b f c)) (bf d (iv 18) λx=>ah x (aw 4 a b λy=>fV w7 a [y,e] λg=>aJ a g λz=>aO .gtr z (iv 0) λA=>ah A (ao 1 a g (iv 0) λB=>aM a B λC=>jR 29 (acy a b c) (acB a g a5 C)) (c [(iv (-1))] a)) (bf d (iv 19) λD=>ah D (aw 4 a b λE=>fV w7 a [E,e] λF=>lV [(iv 0)] a (acD F b c)) (bf d (iv 20) λG=>ah G (ab 3 a b λH=>ao 3 a H e λK=>aB 0 a K λM=>sV (aK 1 a M (iv 1)) λn=>c [(iv 0)] n) (bf d (iv 22) λN=>ah N (ab 2 a b λO=>ao 1 a O e λP=>sV (aK 1 a P (bv U)) λo=>c [(iv 0)] o) (c [(iv 0)] a)))))))))))))
def acA d(b:cG):=bf d (iv 7) λa=>ah a (b [a]) (bf d (iv 11) λc=>b [c])
def acw a c g e(b:aG) f l m d:=∀_:Rg,ah (gt d 0) (ab 0 a c λi=>ao 2 a i g λj=>aB 0 a j λk=>sV (aK 1 a k e) λh=>b [(iv 0)] h) (jR 12 (acx a c g b f e l m) (acA f))
def acz d(b:cG):=bf d (iv 6) λa=>ah a (b [a]) (bf d (iv 10) λc=>b [c])
def acC d a c e q p r(b:aG):=bf d (iv 1) λh=>ah h (ab 3 a c λi=>ao 3 a i e λj=>aB 0 a j λk=>sV (aK 1 a k (iv 2)) λf=>b [(iv 0)] f) (bf d (iv 2) λl=>ah l (ab 3 a c λm=>ao 3 a m e λn=>aB 0 a n λo=>sV (aK 1 a o (iv 5)) λg=>b [(iv 0)] g) (jR 10 (acw a c q e b d p r) (acz d)))
def acm a h R e d f c g b:=jV 6 (CP a h R) (acC e b a d f c g)
def acn c a e f g R m d b:=aw 6 b c λn=>aw 4 b a λo=>fV BY b [n,o,e,f,g] λp=>cf p λi=>ah i (rV (bM aNC alz []) λj=>sV (aK 4 b d j) (acl d R)) (aw 4 b a λk=>cB 161 [k] b 29 λl h=>sV (aK 4 h a l) (acm a d R f e g c m))
def ack b a c d e f g R:=eV (bs 36 aNC g 12) (acn b a c d e R f)
def aLo{b:List AV}{c:List AV}{d:AV}{e:AV}{f:AV}{g:AV}{R:d7}(l0:L b=6)(l1:L c=4)(h:H2 31 6 6 b 36 4 7 c λi j k=>ack i j d e f g k R):Ct 110 [.a b, .a c,d,e,f,g] R:=z2 atV apa Tryz.func110 l0 l1 h
structure Sy(Y:ae)(d v:Nat)(sp:List Nat)(s:aW)(a1 a2 a3:AV):Prop where
 bx:box Y (d,v)=V ⟨36,4,U,U,[[a1,iv s.tx,a2,a3]]⟩
 g1:Gr Y sp 131 2 a1 (s.ak.map cg.c)
 g2:Gr Y sp 4 1 a2 (s.done.map cb)
 g3:Gr Y sp 105 3 a3 (s.ay.map bF.c)
 d12:Dj a1 a2
 d13:Dj a1 a3
 d23:Dj a2 a3
theorem Dj.no{a b:AV}{d v n:Nat}(h:Dj a b)(e:a= .m (d,v) n):d∉cD b:=h d (by grind [cD,dC,dK])
def Dj.sym{a b:AV}(h:Dj a b):Dj b a:=λk f e=>h k e f
def Gr.other{Y Y':ae}{ds:List Nat}{e:TypeId}{z d:Nat}{a:AV}{aa:List (List AV)}(k:Gr Y ds e z a aa)(j:Fr Y Y' [d])(l:d∉cD a):Gr Y' ds e z a aa:=by rcases k with h|⟨f,v,rfl,g,i⟩;exact .inl h;refine .inr ⟨f,v,rfl,g,?_⟩;rw[j.box (by grind [cE,cD,dC,dK])];exact i
def map_set{α:Type}{f:α->List AV}{l:List α}{i:Nat}{x:α}:(l.map f).set i (f x)=(l.set i x).map f:=by simp
def aO7{Y:ae}{d v:Nat}{g:List Nat}{s:aW}{n o l:AV}{i:Int}{j:Nat}{x:Value}{K:AV->be}(S:Sy Y d v g s n o l)(u:∀k∈g,k<L Y/\k≠d)(t:aF (L s.ay) i)(A:j<3)(w:bF)(F:(gd s.ay i.toNat).c.set j (.s x)=w.c)(z:∀e v' Y',e∈g->Fr Y Y' g->Sy Y' d v g {s with ay:=s.ay.set i.toNat w} n o l->K (.p (e,v') i.toNat 0) (.p (e,v') i.toNat j) Y'):rV (cz 3 Y l (iv i)) λp=>rV (iQ j Y p) λq=>sV (aK 1 Y q (.s x)) (K p q):=by have E:L (s.ay.map bF.c)=L s.ay:=(by simp);refine xL S.g3 (by simp_all) λe v' f m r=>?_;rw[rR,r];have B:(s.ay.map bF.c)[i.toNat]?=V (gd s.ay i.toNat).c:=(by have D:i.toNat<L s.ay:=(by have:=t.1;have:=t.2;omega);grind [eC,bT]);show sV (aK 1 Y (.p (e,v') i.toNat (0+j)) (.s x)) (K _ (.p (e,v') i.toNat (0+j)));rw[aj];refine Dz (y:= .s x) r (u e f).1 B A rfl rfl rfl rfl λY' h C=>?_;refine z e v' Y' f (h.mono (by simp[f])) ⟨?_,?_,?_,?_,S.d12,S.d13,S.d23⟩;rw[h.box (by grind)];exact S.bx;exact S.g1.other h (S.d13.sym.no m);exact S.g2.other h (S.d23.sym.no m);refine .inr ⟨e,v',?_,f,?_⟩;rw[m];simp;simp_all
def yO{Y:ae}{d v:Nat}{g:List Nat}{s:aW}{l n o:AV}{i:Int}{j:Nat}{x y:AV}{K:AV->be}(S:Sy Y d v g s l n o)(w:∀k∈g,k<L Y/\k≠d)(u:aF (L s.ak) i)(C:j<2)(E:nrm (eR Y x)=y)(z:eB x=[])(F:eY y=V [y])(t:eN y=U)(A:cg)(N:(gd s.ak i.toNat).c.set j y=A.c)(B:∀e v' Y',e∈g->Fr Y Y' g->Sy Y' d v g {s with ak:=s.ak.set i.toNat A} l n o->K (.p (e,v') i.toNat 0) (.p (e,v') i.toNat j) Y'):rV (cz 2 Y l (iv i)) λp=>rV (iQ j Y p) λq=>sV (aK 1 Y q x) (K p q):=by have M:L (s.ak.map cg.c)=L s.ak:=(by simp);refine xL S.g1 (by simp_all) λe v' f m r=>?_;rw[rR,r];have D:(s.ak.map cg.c)[i.toNat]?=V (gd s.ak i.toNat).c:=(by have H:i.toNat<L s.ak:=(by have:=u.1;have:=u.2;omega);grind [eC,bT]);show sV (aK 1 Y (.p (e,v') i.toNat (0+j)) x) (K _ (.p (e,v') i.toNat (0+j)));rw[aj];refine Dz (y:=y) r (w e f).1 D C E z F t λY' h G=>?_;refine B e v' Y' f (h.mono (by simp[f])) ⟨?_,?_,?_,?_,S.d12,S.d13,S.d23⟩;rw[h.box (by grind)];exact S.bx;refine .inr ⟨e,v',?_,f,?_⟩;rw[m];simp;simp_all;exact S.g2.other h (S.d12.no m);exact S.g3.other h (S.d13.no m)
def aIC{Y:ae}{d v:Nat}{g:List Nat}{s:aW}{l h m:AV}{i:Int}{b:Bool}{K:ae->Prop}(S:Sy Y d v g s l h m)(q:∀k∈g,k<L Y/\k≠d)(o:aF (L s.done) i)(r:∀Y',Fr Y Y' g->Sy Y' d v g {s with done:=s.done.set i.toNat b} l h m->K Y'):rV (cz 1 Y h (iv i)) λp=>sV (aK 1 Y p (bv b)) K:=by have z:L (s.done.map cb)=L s.done:=(by simp);refine xL S.g2 (by simp_all) λn v' e j t=>?_;have u:(s.done.map cb)[i.toNat]?=V (cb (gd s.done i.toNat)):=(by have x:i.toNat<L s.done:=(by have:=o.1;have:=o.2;omega);grind [eC,bT]);refine Dz (y:=bv b) t (q n e).1 u (by simp) rfl rfl rfl rfl λY' f w=>?_;refine r Y' (f.mono (by simp[e])) ⟨?_,?_,?_,?_,S.d12,S.d13,S.d23⟩;rw[f.box (by grind)];exact S.bx;exact S.g1.other f (S.d12.sym.no j);refine .inr ⟨n,v',?_,e,?_⟩;rw[j];simp;simp_all;exact S.g3.other f (S.d23.no j)
def ni(s:aW)(i:Int)(e:bF):aW:={s with ay:=s.ay.set i.toNat e}
def lC(s:aW)(i:Int)(e:cg):aW:={s with ak:=s.ak.set i.toNat e}
def fA(s:aW)(i:Int):bF:=gd s.ay i.toNat
def cH(s:aW)(i:Int):cg:=gd s.ak i.toNat
def tD(s:aW)(bb lD:Int):Int:=if lD∈fO s bb then lD else gd (fO s bb) 0
def cU(w:br)(s:aW)(t e bb lD:Int):aW×Int:=
 if e=1 then(ni s t {fA s t with cQ:=2},0)
 else if e=2 then(ni s t {fA s t with cQ:=5},0)
 else if e=6\/e=10 then(lC s bb {cH s bb with pw:=t},0)
 else if e=7\/e=11 then(lC s bb {cH s bb with pw:= -1},0)
 else if e=8 then(lC s bb {cH s bb with bk:=mP (cH s bb).bk [t]},0)
 else if e=9 then(lC s bb {cH s bb with bk:=fJ (cH s bb).bk t},0)
 else if e=12 then({s with tx:=t},0)
 else if e=13 then({s with tx:= -1},0)
 else if e=14 then(ni s t {fA s t with atomic:=U},0)
 else if e=15 then(ni s t {fA s t with atomic:=I},0)
 else if e=16 then(ni (lC s (gd w.bC bb.toNat).eg {cH s (gd w.bC bb.toNat).eg with pw:= -1}) t {fA s t with cQ:=3,cond:=bb},0)
 else if e=17 then(ni (lC s (gd w.bC bb.toNat).eg {cH s (gd w.bC bb.toNat).eg with pw:=t}) t {fA s t with cQ:=2,cond:=0},0)
 else if e=18 then(if fO s bb=[] then(s,-1) else(ni s (tD s bb lD) {fA s (tD s bb lD) with cQ:=4},tD s bb lD))
 else if e=19 then((fO s bb).foldl (λs u=>ni s u {fA s u with cQ:=4}) s,L (fO s bb))
 else if e=20 then(ni s bb {fA s bb with cQ:=1},0)
 else if e=22 then({s with done:=s.done.set bb.toNat U},0)
 else(s,0)
def aBt{Y:ae}{ds:List Nat}{e:TypeId}{z:Nat}{a:AV}{aa:List (List AV)}(g:Gr Y ds e z a aa):∃f o,gi Y a= .l aa f o:=by rcases g with⟨rfl,rfl⟩|⟨d,v,rfl,_,h⟩;exact⟨_,_,rfl⟩;simp_all [gi]
def sU{Y:ae}{ds:List Nat}{e:TypeId}{z:Nat}{a:AV}{aa:List (List AV)}(g:Gr Y ds e z a aa):∃f o,dQ Y a= .l aa f o:=by rcases g with⟨rfl,rfl⟩|⟨d,v,rfl,h,i⟩;exact⟨_,_,rfl⟩;simp_all [dQ]
def eD(s:aW)(f:Bool×Bool×Bool×Bool×Bool×Bool):List AV:=[.l (s.ak.map cg.c) f.1 f.2.1,iv s.tx, .l (s.done.map cb) f.2.2.1 f.2.2.2.1, .l (s.ay.map bF.c) f.2.2.2.2.1 f.2.2.2.2.2]
def avt{Y:ae}{m:List Nat}{s':aW}{e g h:AV}{v:Int}{R:d7}{i:Nat}{r:List AV}(S:Sy Y 7 1 m s' e g h)(F:∀k∈m,k≠12)(C:box Y (12,i)=V ⟨36,4,U,U,[r]⟩)(D:L r=4)(G:L Y=4096)(B:∀f,R (.t [.a (eD s' f),iv v,bv U])):CP (.p (7,1) 0 0) (.p (12,i) 0 0) R [iv v] Y:=by intro _;have y:kb (V 4) Y (.p (7,1) 0 0)=V (.a [e,iv s'.tx,g,h]):=(by simp[kb,iE,S.bx,aN]);rw[aw,y];refine gN (cs:=[e,iv s'.tx,g,h]) C (by omega) D rfl λY' j n=>?_;have z:kb (V 4) Y' (.p (12,i) 0 0)=V (.a [e,iv s'.tx,g,h]):=(by simp[kb,iE,n,aN]);unfold aco;rw[aw,z];have l:∀k∈m,k∉[12]:=(by simp_all);obtain⟨u,o1,o⟩:=sU (S.g1.fr j l);obtain⟨w,E,q⟩:=sU (S.g2.fr j l);obtain⟨x,o3,s⟩:=sU (S.g3.fr j l);show aE R Y' [.a [e,iv s'.tx,g,h],iv v,bv U];have A:jS Y' [.a [e,iv s'.tx,g,h],iv v,bv U]= .t [.a (eD s' (u,o1,w,E,x,o3)),iv v,bv U]:=(by show AV.t [.a ([e,iv s'.tx,g,h].map (dQ Y')),iZ Y' (iv v),iZ Y' (bv U)]=_;simp only[ji,mU,o,q,s];rfl);unfold aE;rw[A];exact⟨rfl,B _⟩
def Qt{Y:ae}{ds:List Nat}{e:TypeId}{z:Nat}{a:AV}{α:Type}{f:α->List AV}{l:List α}(g:Gr Y ds e z a (l.map f)):gK (gi Y a)=sl f l:=by obtain⟨i,o,h⟩:=aBt g;rw[h];rfl
def aoP{Y:ae}{d v:Nat}{h:List Nat}{s:aW}{e f g:AV}(S:Sy Y d v h s e f g):dG Y (.a [e,iv s.tx,f,g])= .a s.c:=by simp only[dG,nrm,eR,ji,mU,Qt S.g1,Qt S.g2,Qt S.g3];rfl
section
variable{a b c d:AV}
def rq0:aN J [a,b,c,d]=V a:=rfl
def rq1:aN J (aOz 1 [a,b,c,d])=V b:=rfl
def rq2:aN J (aOz 2 [a,b,c,d])=V c:=rfl
def yD:aN J (aOz 3 [a,b,c,d])=V d:=rfl
def rq4:aN (V 4) [a,b,c,d]=V (.a [a,b,c,d]):=rfl
end
def tf{K:d7}{Y:ae}{i:Int}{l:List Int}{t o:Bool}:rV (cz 1 Y (.l (l.map ci) t o) (iv i)) K=(aF (L l) i/\K (.q (ci (gd l i.toNat)))):=amX (Y:=Y)
def aoQ{Y:ae}{d v:Nat}{k:List Nat}{s:aW}{f l m:AV}{i:Int}{K:AV->AV->d7}(S:Sy Y d v k s f l m)(j:aF (L s.ak) i)(n:∀e v',e∈k->K (.p (e,v') i.toNat 0) (.p (e,v') i.toNat 1) (sl ci (gd s.ak i.toNat).bk)):rV (cz 2 Y f (iv i)) λp=>rV (iQ 1 Y p) λq=>rV (kb J Y q) (K p q):=by have u:L (s.ak.map cg.c)=L s.ak:=(by simp);refine xL S.g1 (by simp_all) λe v' h t g=>?_;rw[rR,g];have o:(s.ak.map cg.c)[i.toNat]?=V (gd s.ak i.toNat).c:=(by have r:i.toNat<L s.ak:=(by have:=j.1;have:=j.2;omega);grind [eC,bT]);show rV (kb J Y (.p (e,v') i.toNat (0+1))) (K _ (.p (e,v') i.toNat (0+1)));rw[aj,anc g o];exact n e v' h
def aoR{Y:ae}{d v:Nat}{g:List Nat}{s:aW}{h i j:AV}{x:Int}{K:ae->Prop}(S:Sy Y d v g s h i j)(n:d<L Y)(e:∀k∈g,k∉[d])(m:∀Y',Fr Y Y' [d]->Sy Y' d v g {s with tx:=x} h i j->K Y'):sV (aK 1 Y (.p (d,v) 0 1) (iv x)) K:=by refine Ev S.bx n rfl (by simp) λY' f l=>?_;exact m Y' f ⟨l,S.g1.fr f e,S.g2.fr f e,S.g3.fr f e,S.d12,S.d13,S.d23⟩
def Af{α:Type}[Inhabited α]{l:List α}{i:Int}{x:α}(h:aF (L l) i):gd (l.set i.toNat x) i.toNat=x:=by have e:i.toNat<L l:=(by have:=h.1;have:=h.2;omega);grind [bT]
def uE(s:aW)(u:Int):aW:=ni s u {fA s u with cQ:=4}
def aD3{s:aW}{u:Int}:L (uE s u).ay=L s.ay:=by simp[uE,ni]
theorem ans:∀{l:List Int} {s:aW},L (l.foldl uE s).ay=L s.ay
 |[],_=>rfl
 |u::l,s=>by rw[List.foldl_cons,ans,aD3]
theorem apF{s:aW}{c u:Int}(h:u∈fO s c):aF (L s.ay) u:=by grind [fO,eh,dJ]
def wM:aW:=⟨[],0,[],[]⟩
def ON(w:br)(s:aW)(t n bb lD:Int)(hp:L w.bC<4611686018427387904/\(∀l∈s.ak,L l.bk<100000)/\L s.ak<100000/\L s.done<100000/\L s.ay<100000):Ct 110 [.a w.c, .a s.c,iv t,iv n,iv bb,iv lD] (λr=>∃f,r=bif jm w s t n bb then .t [.a (eD (cU w s t n bb lD).1 f),iv (cU w s t n bb lD).2,bv U] else .t [.a (eD wM f),iv 0,bv I]):=by refine aLo rfl rfl λs4 hl b1 b2 h0=>?_;simp only[ack,↓uL];refine pv rfl (by decide) (by omega) λs6 O b6=>?_;have c1:box s6 (6,1)=_:=O.bt b1;have c2:box s6 (7,1)=_:=O.bt b2;simp+contextual only[acn,u0,u1,wa,ar,c1,c2,rk,ix,aj,dc,↓uL];refine⟨(by grind),λhe=>?_,λhe=>?_⟩;simp only[eH] at he;rw[show bM aNC alz []=V (.a aNC) from rfl];refine gN (cs:=aNC) b6 (by rw[O.1,hl];decide) rfl rfl λs7 F7 b7=>?_;simp only[acl,u1,b7,↓uL];refine⟨rfl,(U,U,U,U,U,U),?_⟩;rw[he];rfl;simp only[fK] at he;obtain⟨hf,hi,hn⟩:lh w s=U/\dh t (L w.ay)=U/\named w n bb=U:=(by grind [jm]);obtain⟨f1,f2,f3,f4⟩:=iY hf;have B:aF (L s.ay) t:=(by grind [dX]);refine awZ (by grind) (by rw[O.1,hl]) λM a2 C bR F g1 g2 g3 a0 a4 a5=>?_;refine gN (cs:=[M,iv s.tx,a2,C]) (F.bt c2) (by rw[F.1,O.1,hl];decide) rfl rfl λo E G=>?_;have S:Sy o 7 1 [10,14,41] s M a2 C:=⟨G,g1.fr E (by decide),g2.fr E (by decide),g3.fr E (by decide),a0,a4,a5⟩;have aJ:L o=4096:=(by rw[E.1,F.1,O.1,hl]);have aR:box o (12,(aZ s4 12).lB+1)=_:=E.bt (F.bt b6);have aV:box o (6,1)=_:=E.bt (F.bt c1);have x:∀Y' s' v,Fr o Y' [7,10,14,41]->Sy Y' 7 1 [10,14,41] s' M a2 C->cU w s t n bb lD=(s',v)->CP (.p (7,1) 0 0) (.p (12,(aZ s4 12).lB+1) 0 0) (λr=>∃f,r=bif jm w s t n bb then .t [.a (eD (cU w s t n bb lD).1 f),iv (cU w s t n bb lD).2,bv U] else .t [.a (eD wM f),iv 0,bv I]) [iv v] Y':=(by intro Y' s' v i j e;refine avt j (by decide) (i.bt aR) rfl (by rw[i.1,aJ]) λf=>⟨f,?_⟩;simp_all);have A:∀k∈[10,14,41],k<L o/\k≠7:=(by grind);have m:∀k∈[10,14,41],k∈[7,10,14,41]:=(by decide);simp only[acm,di,↓uL];generalize CP (.p (7,1) 0 0) (.p (12,(aZ s4 12).lB+1) 0 0) _=g at x⊢;simp+contextual only[acC,u0,u1,G,yD,aj,↓uL];refine⟨λk1=>?_,λk1=>⟨λk2=>?_,λk2=>?_⟩⟩;simp only[mn] at k1;refine aO7 (K:=λ_ _ Y=>g [iv 0] Y) S A B (by decide) {fA s t with cQ:=2} rfl λ_ _ Y' _ i j=>x Y' _ _ (i.mono m) j ?_;simp[cU,k1,ni];simp only[mn] at k2;refine aO7 (K:=λ_ _ Y=>g [iv 0] Y) S A B (by decide) {fA s t with cQ:=5} rfl λ_ _ Y' _ i j=>x Y' _ _ (i.mono m) j ?_;simp[cU,k2,ni];simp only[acz,iM,aY,sw,↓uL];simp+contextual only[acw,u0,u1,G,rq0,aj,↓uL];refine⟨λk6=>?_,λk6=>?_⟩;simp only[fH,mn] at k6;have z:aF (L s.ak) bb:=(by grind [mJ]);refine yO (K:=λ_ _ Y=>g [iv 0] Y) S A z (by decide) (y:=iv t) rfl rfl rfl rfl {cH s bb with pw:=t} rfl λ_ _ Y' _ i j=>x Y' _ _ (i.mono m) j ?_;grind [cU,lC];simp only[acA,iM,aY,sw,↓uL];simp+contextual only[acx,u0,u1,G,aV,rq0,rq1,rq2,yD,rq4,rk,ix,aj,↓uL];refine⟨λk7=>?_,λk7=>⟨λk8=>?_,λk8=>⟨λk9=>?_,λk9=>⟨λW=>?_,λW=>⟨λX=>?_,λX=>⟨λZ=>?_,λZ=>⟨λaa=>?_,λaa=>⟨λab=>?_,λab=>⟨λac=>?_,λac=>⟨λav=>?_,λav=>⟨λad=>?_,λad=>⟨λae=>?_,λae=>⟨λaf=>?_,λaf=>?_⟩⟩⟩⟩⟩⟩⟩⟩⟩⟩⟩⟩⟩;simp only[fH,mn] at k7;have z:aF (L s.ak) bb:=(by grind [mJ]);refine yO (K:=λ_ _ Y=>g [iv 0] Y) S A z (by decide) (y:=iv (-1)) rfl rfl rfl rfl {cH s bb with pw:= -1} rfl λ_ _ Y' _ i j=>x Y' _ _ (i.mono m) j ?_;grind [cU,lC];simp only[mn] at k8;have z:aF (L s.ak) bb:=(by grind [mJ]);have bg:=hp.2.1 _ (ii z);refine aoQ S z λd' v' a8=>?_;simp only[iz,bQ,acr,↓uL];rw[show(AV.l [[iv t]] U U)=AV.l ([t].map ci) U U from rfl];simp only[ar,wa,QS];refine⟨by grind,λt' o'=>⟨.inl rfl,?_⟩⟩;refine yO (K:=λp q Y=>acp (.p (7,1) 0 0) (.p (7,1) 0 0) (iv bb) (.p (7,1) 0 0) M (.p (d',v') bb.toNat 0) (.p (d',v') bb.toNat 1) (iv t) (sl ci (gd s.ak bb.toNat).bk) (.l [[iv t]] U U) M p q (.l ((mP (gd s.ak bb.toNat).bk [t]).map ci) t' o') g Y) S A z (by decide) (y:=sl ci (mP (gd s.ak bb.toNat).bk [t])) rfl rfl rfl rfl {cH s bb with bk:=mP (cH s bb).bk [t]} rfl λ_ _ Y' _ i j=>?_;refine dT (by simp[eL,okT,tok,lb,cD,dC,dK]) (x Y' _ _ (i.mono m) j ?_);simp[cU,k8,lC];simp only[mn] at k9;have z:aF (L s.ak) bb:=(by grind [mJ]);have bg:=hp.2.1 _ (ii z);refine aoQ (K:=λ_ _ bq=>fV Cb o [bq,iv t] λbs=>rV (cz 2 o M (iv bb)) λbu=>rV (iQ 1 o bu) λbw=>sV (aK 1 o bw bs) λbp=>g [iv 0] bp) S z λd' v' a8=>?_;simp only[ar,wa];refine⟨by omega,λt'=>?_⟩;refine yO (K:=λ_ _ Y=>g [iv 0] Y) S A z (by decide) (y:=sl ci (fJ (gd s.ak bb.toNat).bk t)) rfl rfl rfl rfl {cH s bb with bk:=fJ (cH s bb).bk t} rfl λ_ _ Y' _ i j=>x Y' _ _ (i.mono m) j ?_;simp[cU,k9,lC];simp only[mn] at W;exact aoR S (by omega) (by decide) λY' i j=>x Y' _ _ (i.mono (by decide)) j (by simp[cU,W]);simp only[mn] at X;exact aoR S (by omega) (by decide) λY' i j=>x Y' _ _ (i.mono (by decide)) j (by simp[cU,X]);simp only[mn] at Z;refine aO7 (K:=λ_ _ Y=>g [iv 0] Y) S A B (by decide) {fA s t with atomic:=U} rfl λ_ _ Y' _ i j=>x Y' _ _ (i.mono m) j ?_;simp[cU,Z,ni];simp only[mn] at aa;refine aO7 (K:=λ_ _ Y=>g [iv 0] Y) S A B (by decide) {fA s t with atomic:=I} rfl λ_ _ Y' _ i j=>x Y' _ _ (i.mono m) j ?_;simp[cU,aa,ni];simp only[mn] at ab;have H:aF (L w.bC) bb:=(by grind [oT]);have T:aF (L s.ak) (gd w.bC bb.toNat).eg:=(by rw[f2];exact f1 _ (ii H));refine⟨H,yO (K:=λ_ _ Y=>IE (.p (7,1) 0 0) (iv t) (iv bb) g Y) S A T (by decide) (y:=iv (-1)) rfl rfl rfl rfl {cH s (gd w.bC bb.toNat).eg with pw:= -1} rfl λ_ _ Y' _ i j=>?_⟩;have D:∀k∈[10,14,41],k<L Y'/\k≠7:=(by rw[i.1];exact A);simp only[IE,u0,u1,j.bx,yD,aj,↓uL];refine aO7 (K:=λp q Y=>act C (iv t) (iv bb) (.p (7,1) 0 0) (.p (7,1) 0 3) (.p (7,1) 0 3) C p q g Y) j D B (by decide) {fA s t with cQ:=3} rfl λN v1 Y2 a9 P S2=>?_;have R:∀k∈[10,14,41],k<L Y2/\k≠7:=(by rw[P.1];exact D);refine aO7 (K:=λp q Y=>acs (.p (7,1) 0 0) (.p (7,1) 0 3) (.p (7,1) 0 3) C (iv t) (.p (N,v1) t.toNat 0) (.p (N,v1) t.toNat 0) C p q (iv bb) g Y) S2 R (by grind) (by decide) {fA s t with cQ:=3,cond:=bb} (by simp only[Af B];rfl) λd2 v2 Y3 ba F3 S3=>?_;have h7:(7:Nat)≠N:=(by grind);refine dT (by simp[eL,okT,tok,lb,cD,dC,dK,h7]) (x Y3 _ _ (((i.mono m).trans (P.mono m)).trans (F3.mono m)) S3 ?_);simp[cU,ab,ni,lC];simp only[mn] at ac;have H:aF (L w.bC) bb:=(by grind [oT]);have T:aF (L s.ak) (gd w.bC bb.toNat).eg:=(by rw[f2];exact f1 _ (ii H));refine⟨H,yO (K:=λ_ _ Y=>IC (.p (7,1) 0 0) (iv t) g Y) S A T (by decide) (y:=iv t) rfl rfl rfl rfl {cH s (gd w.bC bb.toNat).eg with pw:=t} rfl λ_ _ Y' _ i j=>?_⟩;have D:∀k∈[10,14,41],k<L Y'/\k≠7:=(by rw[i.1];exact A);simp only[IC,u0,u1,j.bx,yD,aj,↓uL];refine aO7 (K:=λp q Y=>acv C (iv t) (.p (7,1) 0 0) (.p (7,1) 0 3) (.p (7,1) 0 3) C p q g Y) j D B (by decide) {fA s t with cQ:=2} rfl λN v1 Y2 a9 P S2=>?_;have R:∀k∈[10,14,41],k<L Y2/\k≠7:=(by rw[P.1];exact D);refine aO7 (K:=λp q Y=>acu (.p (7,1) 0 0) (.p (7,1) 0 3) (.p (7,1) 0 3) C (iv t) (.p (N,v1) t.toNat 0) (.p (N,v1) t.toNat 0) C p q g Y) S2 R (by grind) (by decide) {fA s t with cQ:=2,cond:=0} (by simp only[Af B];rfl) λd2 v2 Y3 ba F3 S3=>?_;have h7:(7:Nat)≠N:=(by grind);refine dT (by simp[eL,okT,tok,lb,cD,dC,dK,h7]) (x Y3 _ _ (((i.mono m).trans (P.mono m)).trans (F3.mono m)) S3 ?_);simp[cU,ac,ni,lC];simp only[mn] at av;simp only[jM,kU,jt,tW,aoP S,wa,QQ,Ql,lS];refine⟨by omega,λt'=>?_⟩;simp only[gT,u0,u1,↓uL];refine⟨λhg=>?_,λhg=>?_⟩;simp only[mn] at hg;simp only[tf,u0,acB,ar,wa,Gx,rk,u1,qM,↓uL];have bj:gd (fO s bb) 0∈fO s bb:=dB (by omega);have aw:∀u:Int,u∈fO s bb->cU w s t n bb lD=(uE s u,u)->acy o (.p (7,1) 0 0) g [iv u]:=(by intro u hu e _;simp only[au,u0,u1,G,yD,aj,↓uL];exact aO7 (K:=λ_ _ Y=>g [iv u] Y) S A (apF hu) (by decide) {fA s u with cQ:=4} rfl λ_ _ Y' _ i j=>x Y' _ _ (i.mono m) j e);have bO:fO s bb≠[]:=(by grind);have bl:L (fO s bb)<=L s.ay:=wU s bb _;refine⟨⟨by omega,by omega⟩,⟨by omega,λhh=>?_,λhh=>?_⟩⟩;simp only[mn] at hh;exact aw lD hh (by grind [cU,tD,uE]);simp only[nl] at hh;exact aw _ bj (by grind [cU,tD,uE]);grind [decide_eq_false_iff_not,fO,List.length_eq_zero_iff,Fr.refl,cU];simp only[mn] at ad;simp only[jM,kU,jt,tW,aoP S,wa,QQ,Ql,lS];refine⟨by omega,λt'=>?_⟩;have bl:L (fO s bb)<=L s.ay:=wU s bb _;refine⟨λvs Y=>∃k:Nat,vs=[iv k]/\k<=L (fO s bb)/\Fr o Y [10,14,41]/\Sy Y 7 1 [10,14,41] (((fO s bb).take k).foldl uE s) M a2 C,fM (L (fO s bb)),(by grind [Fr.refl]),?_⟩;rintro vs Y ⟨k,rfl,hk,Fk,Sk⟩;simp only[acD,aI,gT,u0,u1,Sk.bx,yD,aj,tf,bh,qM,↓uL];refine⟨λh=>⟨bA h,?_⟩,λh=>?_⟩;have aq:=aL h;have D:∀k∈[10,14,41],k<L Y/\k≠7:=(by rw[Fk.1];exact A);refine aO7 (K:=λ_ _ Y'=>ID [iv k] _ _ Y Y') Sk D (by grind [ans,apF,dB]) (by decide) {fA (((fO s bb).take k).foldl uE s) (gd (fO s bb) k) with cQ:=4} rfl λ_ _ Y' _ i j=>?_;simp only[ID,au,cS,aY,↓uL];rw[fX (by omega)];refine⟨⟨k+1,rfl,aq,Fk.trans i,?_⟩,?_⟩;rw[EA aq,RO];exact j;simp only[fM,cM,bh];omega;have be:k=L (fO s bb):=(by grind);subst be;rw[gV] at Sk;refine x Y _ _ (Fk.mono m) Sk ?_;simp[cU,ad];rfl;simp only[mn] at ae;have bi:aF (L s.ay) bb:=(by grind [Eb]);refine aO7 (K:=λ_ _ Y=>g [iv 0] Y) S A bi (by decide) {fA s bb with cQ:=1} rfl λ_ _ Y' _ i j=>x Y' _ _ (i.mono m) j ?_;simp[cU,ae,ni];simp only[mn] at af;have bc:aF (L s.done) bb:=(by grind [oU]);refine aIC S A bc λY' i j=>x Y' _ _ (i.mono m) j ?_;simp[cU,af];grind [Fr.refl,cP,decide_eq_false_iff_not,cU]
def FG:FT:=BL ON
def ayK{w s t kind bb lD Lw K}:=al4 FG ON w s t kind bb lD Lw K
def Ew:dO:=(110,FG)::aoX
def nF:eJ Ew:=it (apO ON) (apa)
def z9:=ai @ayK<|@wa
abbrev EN:List AV:=[(iv 0)]
abbrev yW:List AV:=[(iv 0)]
abbrev C9:List AV:=[(sv [])]
abbrev BF:List AV:=[(.l [] U U),(iv 0),(.l [] U U),(.l [] U U),(.l [] U U),(.l [] U U),(.l [] U U)]
def alb:=bi 31 [(4,([],[3,4,5,6])),(22,([10],[3,4,5,6,9])),(25,([],[5,6,9])),(27,([],[5,6,9]))]
def IM a f R b:=aw 7 b a λd=>sV (aK 7 b f d) λc=>aw 7 c f λe=>aE R c [e,(bv U)]
def adL b i k R(j:eQ) a:=∀_:Rg,ab 6 a b λc=>ab 0 a i λd=>ao 1 a c d λe=>aM a e λf=>aV f (iv 1) λg=>ao 1 a c d λh=>sV (aK 1 a h g) (IM b k R)
def adO a d b(c:aG):=ab 1 a d λf=>bf f (iv 22) λg=>ah g (ab 5 a b λh=>ab 2 a d λi=>ab 3 a d λj=>ao 1 a h i λk=>sV (aK 1 a k j) λe=>c [] e) (c [] a)
def adK a b e R(d:eQ) c:=∀_:Rg,jV 27 (adL a b e R) (adO c b a)
def adN a d b(c:aG):=ab 1 a d λf=>bf f (iv 4) λg=>ah g (ab 4 a b λh=>ab 2 a d λi=>ab 3 a d λj=>ao 1 a h i λk=>sV (aK 1 a k j) λe=>c [] e) (c [] a)
def adC a b d R c:=jV 25 (adK a b d R) (adN c b a)
def IN a o n d b r R e:=∀_:Rg,aw 6 a o λf=>aB 0 a n λg=>aw 4 a g λh=>ab 0 a d λi=>ab 1 a d λj=>ab 2 a d λk=>fV FG a [f,h,i,j,k,(gt e 0)] λc=>rV (eO 0 c) λl=>rV (eO 1 c) λp=>rV (eO 2 c) λq=>aB 0 a b λm=>sV (aK 4 a m l) (adC b d r R)
def adM b c(a:cG):=ab 1 b c λd=>bf d (iv 18) λe=>ah e (ab 3 b c λf=>a [f]) (a [(iv (-1))])
def adD b f e g j i k n m o h l p a q r d s R c:=dH [(lb I [] []),(bo b),(bo f),(lb I [e,g] [159]),(lb I [] []),(bo b),(bo j),(lb I [i,k] [163]),(lb I [] []),(bo b),(bo n),(lb I [m,o] [167]),(lb U [h,l,p] []),(lb I [] [9]),(lb I [a,q] [])] [(0,1),(0,2),(0,4),(1,4),(2,4),(3,4),(0,5),(3,5),(4,5),(0,6),(3,6),(4,6),(0,8),(1,8),(2,8),(3,8),(4,8),(5,8),(6,8),(7,8),(0,9),(3,9),(4,9),(7,9),(8,9),(0,10),(3,10),(4,10),(7,10),(8,10),(0,13),(1,13),(2,13),(3,13),(4,13),(5,13),(6,13),(7,13),(8,13),(9,13),(10,13),(11,13),(12,13)] (jR 22 (IN c r b d a s R) (adM c d))
def adE b c r i h j l k m o n p s q t R d f:=rV (bM BF anY [(1,b),(2,c),(3,d)]) λe=>eV (bs 40 BF f 9) λa g=>sV (aK 7 g a e) (adD r i h j l k m o n p b c d a e s q t R)
def adF e i m g f h k j l o n p R b a:=aB 6 a e λc=>aM a c λd=>eV (j5 3 fB 8 a 167 b d) (adE i m e g f h k j l c b d o n p R)
def adG k e c b d g f h l j m R i a:=eV (aX bH 0 a []) (adF k e i c b d g f h l j m R)
def adH e i g f h k j l R b a:=aB 5 a e λc=>aM a c λd=>eV (j5 2 EN 8 a 163 b d) (adG e i g f h c b d k j l R)
def adI g c b d h f i R e a:=eV (aX yW 0 a []) (adH g e c b d h f i R)
def adJ e g f h R b a:=aB 4 a e λc=>aM a c λd=>eV (j5 2 EN 8 a 159 b d) (adI e c b d g f h R)
def IP b p j R k(aG:eQ) a:=∀_:Rg,ab 1 a b λaF=>bf aF (iv 3) λo=>bn o 1 a b λq=>aC o (bf q (iv 4)) λr=>aD o (bv U) r λs=>ab 5 a b λt=>aJ a t λu=>aO .gtr u (iv 0) λg=>aT g 1 a b λv=>az g (aO .neq v (iv 5)) λw=>aD g w (bv I) λe=>fm e s λx=>fm e x λd=>aT d 0 a p λy=>aT d 2 a b λz=>az d (ao 5 a y z) λA=>aT d 2 a A λB=>az d (aO .neq B (iv 0)) λC=>az e (aD d C (bv I)) λD=>az e (cf D) λE=>aD e E (bv I) λF=>ah F (rV (bM BF anY []) λG=>sV (aK 7 a j G) λl=>aw 7 l j λH=>aE R l [H,(bv I)]) (ab 6 a b λK=>aJ a K λM=>aO .gtr M (iv 0) λh=>aT h 1 a b λN=>az h (aO .neq N (iv 4)) λO=>aD h O (bv I) λi=>aT i 1 a b λP=>az i (aO .neq P (iv 22)) λS=>aD i S (bv I) λT=>ah T (rV (bM BF anY []) λW=>sV (aK 7 a j W) λm=>aw 7 m j λX=>aE R m [X,(bv I)]) (ab 5 a b λZ=>ab 6 a k λaa=>ab 0 a b λac=>ao 1 a aa ac λad=>aM a ad λae=>fV Cf a [Z,ae] λaf=>cf af λc=>bn c 6 a b λag=>bn c 6 a k λak=>bn c 0 a b λal=>aC c (ao 1 a ak al) λam=>aC c (aM a am) λan=>aC c (fV Cf a [ag,an]) λap=>aC c (cf ap) λaq=>aD c (bv U) aq λf=>aC f (aw 7 a k) λar=>aC f (aw 7 a b) λau=>aC f (fV FI a [ar,au]) λav=>aC f (cf av) λax=>aD f (bv U) ax λay=>ah ay (rV (bM BF anY []) λaA=>sV (aK 7 a j aA) λn=>aw 7 n j λaB=>aE R n [aB,(bv I)]) (eV (aX yW 0 a []) (adJ k p b j R))))
def adP a c g R i(h:aG):=ab 1 a c λj=>bf j (iv 1) λd=>bn d 1 a c λk=>aC d (bf k (iv 2)) λl=>aD d (bv U) l λm=>ah m (ab 4 a c λn=>aO .neq n (iv (-1)) λo=>ah o (rV (bM BF anY []) λp=>sV (aK 7 a g p) λe=>aw 7 e g λq=>aE R e [q,(bv I)]) (h [] a)) (ab 4 a c λr=>ab 5 a i λs=>aJ a s λt=>fV Ce a [r,t] λu=>cf u λb=>bn b 5 a i λv=>bn b 4 a c λw=>aC b (ao 3 a v w) λx=>bn b 0 a x λy=>bn b 0 a c λz=>aC b (aO .neq y z) λA=>aD b (bv U) A λB=>ah B (rV (bM BF anY []) λC=>sV (aK 7 a g C) λf=>aw 7 f g λD=>aE R f [D,(bv I)]) (h [] a))
def adB e f c R i a:=aw 6 a e λG=>aw 7 a f λk=>fV Cc a [G,k] λl=>cf l λd=>bn d 0 a c λm=>bn d 4 a e λn=>aC d (aJ a n) λo=>aC d (fV Ce a [m,o]) λp=>aC d (cf p) λq=>aD d (bv U) q λg=>bn g 1 a c λr=>aC g (aU r (iv 1)) λs=>aD g (bv U) s λh=>bn h 1 a c λt=>aC h (aO .gtr t (iv 23)) λu=>aD h (bv U) u λb=>aC b (aw 6 a e) λv=>aC b (aB 0 a f) λw=>aC b (aw 4 a w) λx=>bn b 0 a c λy=>bn b 1 a c λz=>bn b 2 a c λA=>aC b (fV BY a [v,x,y,z,A]) λB=>aC b (cf B) λC=>aD b (bv U) C λD=>ah D (rV (bM BF anY []) λE=>sV (aK 7 a i E) λj=>aw 7 j i λF=>aE R j [F,(bv I)]) (jV 4 (IP c e i R f) (adP a c i R e))
def IL c b a d R:=eV (bs 40 BF d 6) (adB c b a R)
def aLz{c:List AV}{d:List AV}{e:List AV}{R:d7}(l0:L c=6)(l1:L d=7)(w:L e=7)(h:∀b:ae,L b=4096->box b (3,1)=V ⟨31,6,U,U,[c]⟩->box b (4,1)=V ⟨40,7,U,U,[d]⟩->box b (5,1)=V ⟨64,7,U,U,[e]⟩->(∀k,k≠3->k≠4->k≠5->aZ b k=mO)->IL (.p (3,1) 0 0) (.p (4,1) 0 0) (.p (5,1) 0 0) b R):Fn aS GG 64 [.a c, .a d, .a e] R:=by refine uq ready nF Tryz.func64 (an:=alb) (by kernel_rfl) (aND (show ZF aS GG Ew alb Tryz.f64 [.a c, .a d, .a e] R=(eV (qm 31 6 (ly Tryz.f64) 3 (.a c)) λm i=>eV (qm 40 7 i 4 (.a d)) λl j=>eV (qm 64 7 j 5 (.a e)) λf b=>IL m l f b R) by kernel_rfl) ?_);refine mY (N:=4096) rfl l0 (by decide) (by decide) uB (by rw[i8]) λi x n A g0=>?_;refine mY (N:=4096) rfl l1 (by decide) (by decide) x (by rw[g0 _ (by decide),i8]) λj y o r g1=>?_;refine mY (N:=4096) rfl w (by decide) (by decide) y (by rw[g1 _ (by decide),g0 _ (by decide),i8]) λb z q g s=>?_;exact h b z (by rw[g _ _ (by decide),r _ _ (by decide)];exact n) (by rw[g _ _ (by decide)];exact o) q (λk t u v=>by rw[s k v,g1 k u,g0 k t];exact i8 _ k)
def atN:=bi 2 []
def abQ c s0 R:=aO .geq c (.s (.int .u8 97)) λt1=>fm t1 c λt3=>az t1 (aO .leq t3 (.s (.int .u8 122))) λi=>aD t1 i (bv I) λb=>ic b c λj=>aC b (aO .geq j (.s (.int .u8 65))) λd=>ic b d λa=>fm a c λe=>az a (aO .leq e (.s (.int .u8 90))) λf=>aC b (aD a f (bv I)) λg=>aD b (bv U) g λh=>aE R s0 [h]
def aLg{a:AV}{R:d7}(h:H0 λs0=>abQ a s0 R):Ct 154 [a] R:=z0 atN nF Tryz.func154 h
def atK:=bi 2 []
def abN a s0 R:=aO .geq a (.s (.int .u8 48)) λt1=>fm t1 a λt3=>az t1 (aO .leq t3 (.s (.int .u8 57))) λb=>aD t1 b (bv I) λc=>aE R s0 [c]
def aLc{a:AV}{R:d7}(h:H0 λs0=>abN a s0 R):Ct 193 [a] R:=z0 atK nF Tryz.func193 h
def ala:=bi 2 []
def Iy s0 R:=eV (aX C9 22 s0 [(0,(sv [118,97,114])),(1,(sv [118,111,108,97,116,105,108,101])),(2,(sv [109,117,116,101,120])),(3,(sv [114,119,108,111,99,107])),(4,(sv [99,111,110,100])),(5,(sv [102,117,116,117,114,101])),(6,(sv [116,104,114,101,97,100])),(7,(sv [105,102])),(8,(sv [101,108,115,101])),(9,(sv [119,104,105,108,101])),(10,(sv [108,111,99,107])),(11,(sv [114,101,97,100])),(12,(sv [119,114,105,116,101])),(13,(sv [116,114,97,110,115,97,99,116,105,111,110])),(14,(sv [97,116,111,109,105,99])),(15,(sv [119,97,105,116])),(16,(sv [110,111,116,105,102,121])),(17,(sv [110,111,116,105,102,121,97,108,108])),(18,(sv [115,112,97,119,110])),(19,(sv [106,111,105,110])),(20,(sv [115,101,116])),(21,(sv [103,101,116]))]) λt1 a=>aE R a [t1]
def aLf{R:d7}(h:∀s0:ae,L s0=4096->(∀k,aZ s0 k=mO)->Iy s0 R):Fn aS GG 192 [] R:=by refine uq ready nF Tryz.func192 (an:=ala) (by kernel_rfl) (aND (show ZF aS GG Ew ala Tryz.f192 [] R=(Iy (ly Tryz.f192) R) by kernel_rfl) (h (ly Tryz.f192) uB (i8 _)))
def auB:=bi 2 []
def afz a b R:=ab 1 b a λt4=>bf t4 (iv 3) λc=>bn c 1 b a λd=>aC c (bf d (iv 23)) λe=>aD c (bv U) e λf=>aE R b [f]
def aL4{b:List AV}{R:d7}(l0:L b=7)(h:H1 64 7 1 b λc d=>afz c d R):Ct 17 [.a b] R:=z1 auB nF Tryz.func17 l0 h
def auE:=bi 2 []
def afG e d b R:=ab 2 b e λt=>ab 2 b d λu=>bf t u λc=>aT c 1 b e λh=>az c (bf h (iv 4)) λi=>fm c i λf=>aT f 1 b d λj=>az f (bf j (iv 3)) λk=>az c (aD f k (bv I)) λl=>fm c l λa=>bn a 1 b e λm=>aC a (bf m (iv 22)) λn=>ic a n λg=>aT g 1 b d λo=>az g (bf o (iv 23)) λp=>aC a (aD g p (bv I)) λq=>az c (aD a (bv U) q) λr=>aD c r (bv I) λs=>aE R b [s]
def aL7{b:List AV}{c:List AV}{R:d7}(l0:L b=7)(l1:L c=7)(h:H2 64 7 2 b 64 7 3 c λd e f=>afG d e f R):Ct 47 [.a b, .a c] R:=z2 auE nF Tryz.func47 l0 l1 h
def auF:=bi 5 []
def afH d c a R:=ab 1 a c λw=>bf w (iv 23) λx=>ah x (aB 7 a d λy=>aB 0 a y λz=>ab 2 a z λe=>ab 2 a c λf=>ao 1 a e f λg=>aM a g λb=>az b (aB 7 a d) λh=>aT b 5 a h λi=>aT b 2 a c λj=>az b (ao 1 a i j) λk=>az b (aM a k) λl=>aT b 3 a c λm=>az b (bf l m) λn=>aD b n (bv I) λo=>aE R a [o]) (aB 7 a d λp=>ab 4 a p λq=>ab 2 a c λr=>ao 1 a q r λs=>aM a s λt=>ab 3 a c λu=>bf t u λv=>aE R a [v])
def aL8{b:List AV}{c:List AV}{R:d7}(l0:L b=15)(l1:L c=7)(h:H2 43 15 2 b 64 7 3 c λd e f=>afH d e f R):Ct 46 [.a b, .a c] R:=z2 auF nF Tryz.func46 l0 l1 h
def auL:=bi 2 []
def aga a b R:=ab 1 b a λt4=>bf t4 (iv 18) λc=>bn c 1 b a λd=>aC c (bf d (iv 19)) λe=>aD c (bv U) e λf=>aE R b [f]
def aMe{b:List AV}{R:d7}(l0:L b=7)(h:H1 64 7 1 b λc d=>aga c d R):Ct 19 [.a b] R:=z1 auL nF Tryz.func19 l0 h
def atu:=bi 14 [(6,([13],[0,1,12]))]
def aam t4 s0 g h R(f:cG)(c:fD) a:=∀_:Rg,aU (gt a 0) t4 λi=>ah i (ao 3 s0 g (gt a 0) λj=>aw 3 s0 j λk=>ao 3 s0 h (gt a 0) λl=>aw 3 s0 l λd=>rV (wl .neq 2 [(0,0),(1,0),(2,0)] k d) λe=>ah e (aE R s0 [(bv I)]) (aV (gt a 0) (iv 1) λb=>f [b]/\c [b]<c a)) (aE R s0 [(bv U)])
def Ih a b s0 R:=aJ s0 a λt1=>aJ s0 b λc=>aO .neq t1 c λt3=>ah t3 (aE R s0 [(bv I)]) (aJ s0 a λt4=>lR [(iv 0)] (aam t4 s0 a b R))
def aKV{a:AV}{b:AV}{R:d7}(h:H0 λs0=>Ih a b s0 R):Ct 6 [a,b] R:=z0 atu nF Tryz.func6 h
def alo{a b:Int}:wl .geq 0 [] (.s (.int .u8 a)) (.s (.int .u8 b))=V (bv (Q (b<=a))):=rfl
def alp{a b:Int}:wl .leq 0 [] (.s (.int .u8 a)) (.s (.int .u8 b))=V (bv (Q (a<=b))):=rfl
theorem alW{α:Type}[Inhabited α]{a b:List α}(h:L a=L b)(c:∀j,j<L a->gd a j=gd b j):a=b:=by grind [List.ext_getElem,bT]
def aEt{x y:ap}:wl .neq 2 [(0,0),(1,0),(2,0)] (.a x.c) (.a y.c)=V (bv (Q (x≠y))):=by obtain⟨a,b,c⟩:=x;obtain⟨d,e,f⟩:=y;have h:∀p q:Int,sS 0 (.int .i64 p) (.int .i64 q)=V (Q (p=q)):=λp q=>rfl;simp[wl,ap.c,nW,h];grind
def wx(c:Int):Bool:=(Q (97<=c)&&Q (c<=122))||(Q (65<=c)&&Q (c<=90))
def zY(c:Int):Bool:=Q (48<=c)&&Q (c<=57)
def OF(c:Int):Ct 154 [.s (.int .u8 c)] (·=bv (wx c)):=by refine aLg λs0 b a=>?_;simp+contextual only[abQ,u0,u1,alo,alp,wx,↓uL]
def BW:FT:=lH OF
def ayC{c Lw K}:=np BW OF c Lw K
def OB(c:Int):Ct 193 [.s (.int .u8 c)] (·=bv (zY c)):=by refine aLc λs0 b a=>?_;simp+contextual only[abN,u0,u1,alo,alp,zY,↓uL]
def Fv:FT:=lH OB
def ayy{c Lw K}:=np Fv OB c Lw K
def fR(e:aP):Bool:=Q (e.kind=3)||Q (e.kind=23)
def pN(e:aP):Bool:=Q (e.kind=18)||Q (e.kind=19)
def PA(e:aP):Ct 17 [.a e.c] (·=bv (fR e)):=by refine aL4 rfl λg f b d=>?_;simp+contextual only[afz,u0,u1,b,rk,ix,aj,fR,↓uL]
def zk:FT:=lH PA
def azm{e Lw K}:=np zk PA e Lw K
def aXC(e:aP):Ct 19 [.a e.c] (·=bv (pN e)):=by refine aMe rfl λg f b d=>?_;simp+contextual only[aga,u0,u1,b,rk,ix,aj,pN,↓uL]
def Gd:FT:=lH aXC
def azw{e Lw K}:=np Gd aXC e Lw K
def aTG(s r:aP):Bool:=Q (s.bb=r.bb)&&((Q (s.kind=4)&&Q (r.kind=3))||(Q (s.kind=22)&&Q (r.kind=23)))
def PD(s r:aP):Ct 47 [.a s.c, .a r.c] (·=bv (aTG s r)):=by refine aL7 rfl rfl λg f b d e=>?_;simp+contextual only[afG,u0,u1,b,d,rk,ix,aj,aTG,↓uL]
def Cn:FT:=lI PD
def azp{s r Lw K}:=nq Cn PD s r Lw K
def oM(w:am)(e:aP):Bool:=bif Q (e.kind=23) then gd w.init.bm.done e.bb.toNat&&Q (gd w.init.bU e.bb.toNat=e.value) else Q (gd w.init.cells e.bb.toNat=e.value)
def PE(w:am)(e:aP)(h:(e.kind=23->aF (L w.init.bm.done) e.bb/\aF (L w.init.bU) e.bb)/\(e.kind≠23->aF (L w.init.cells) e.bb)):Ct 46 [.a w.c, .a e.c] (·=bv (oM w e)):=by refine aL8 rfl rfl λi g b d f=>?_;simp+contextual only[afH,u0,u1,b,d,rk,ix,aj,dc,oM,↓uL];simp_all
def Ga:FT:=gz PE
def azq{w e Lw K}:=gX Ga PE w e Lw K
def sd(w:br)(c:Int):Int:=bif dh c (L w.bC) then(gd w.bC c.toNat).eg else-1
def Ok(a b:List ap)(m:L a<4611686018427387904):Ct 6 [sl ap.c a,sl ap.c b] (·=bv (Q (a=b))):=by refine aKV λs0 l e=>?_;simp+contextual only[Ih,u0,u1,↓uL];refine⟨λh=>?_,λh=>?_⟩;have:a≠b:=(by grind);simp[this];have d:L a=L b:=(by grind);refine C7 (L a) (λk=>∀j,j<k->gd a j=gd b j) (by simp) λk i g=>?_;simp+contextual only[aam,Ih,u0,u1,ix,rk,bh,aEt,↓uL];refine⟨λh=>⟨bA h,by grind [dJ,aL],λf=>?_,(by grind [gS,aL])⟩,λh=>?_⟩;have:a≠b:=(by grind);simp[this];grind [alW,C3,bw]
def Fi:FT:=gz Ok
def ayl{a b Lw K}:=gX Fi Ok a b Lw K
def aOL(w:br)(s:bW)(e:aP):Bool:=!fN w s||!dh e.aq (L w.ay)||Q (e.kind<1)||Q (23<e.kind)||!jm w s.bm e.aq e.kind e.bb
def tA(w:br)(e:aP):Bool:=bif Q (e.kind=1)||Q (e.kind=2) then Q (e.site≠-1) else(!dh e.site (L w.dU)||Q ((gd w.dU e.site.toNat).aq≠e.aq))
def yM(w:br)(e:aP):Bool:=Q ((0:Int)<L e.dI)&&(Q (e.kind≠5)&&!((Q (e.kind=3)||Q (e.kind=4))&&Q ((gd w.cells e.bb.toNat).size≠0)))
def yN(e:aP):Bool:=Q ((0:Int)<L e.ep)&&(Q (e.kind≠4)&&Q (e.kind≠22))
def u7(s:bW)(e:aP):Bool:=!Q (lZ e.dI (gd s.count e.aq.toNat))||!Q (lZ e.ep (gd s.count e.aq.toNat))||!aO8 s e
def C1(w:br)(s:bW)(e:aP):Bool:=!(aOL w s e||(tA w e||(yM w e||(yN e||u7 s e))))
def og(e:aP):Int:=if e.kind=18 then e.value else-1
def oc(w:br)(s:bW)(e:aP):bW:=⟨(cU w s.bm e.aq e.kind e.bb (og e)).1,if e.kind=4 then s.cells.set e.bb.toNat e.value else s.cells,if e.kind=22 then s.bU.set e.bb.toNat e.value else s.bU,s.count.set e.aq.toNat (dq.wrap (gd s.count e.aq.toNat+1))⟩
def tw:bW:=⟨wM,[],[],[]⟩
def nD(w:br)(s:bW)(e:aP):bW:=bif C1 w s e then oc w s e else tw
def Lk(cs ds:List AV):Prop:=cs.map gK=ds/\cs.all nj=U
def Lk.frz{cs ds:List AV}(h:Lk cs ds)(Y:ae):cs.map (gi Y)=cs:=by have a:=dV.1 h.2;rw[ja (g:=id) ?_,zr];intro c b;have:=a c b;cases c<;>simp[nj] at this<;>rfl
def Lk.fd{cs ds:List AV}(h:Lk cs ds)(Y:ae):cs.map (dQ Y)=cs:=by have a:=dV.1 h.2;rw[ja (g:=id) ?_,zr];intro c b;have:=a c b;cases c<;>simp[nj] at this<;>rfl
def Lk.arg{cs ds:List AV}(h:Lk cs ds)(Y:ae):dG Y (.a cs)= .a ds:=by show AV.a ((cs.map (gi Y)).map gK)= .a ds;rw[h.frz,h.1]
def aIt{Y:ae}{d v z y:Nat}{e:TypeId}{o:Bool}{r cs:List AV}{K:ae->Prop}(f:box Y (d,v)=V ⟨e,z,o,U,[r]⟩)(h:d<L Y)(j:L cs=y)(i:y<=L r)(c:∀Y',Fr Y Y' [d]->box Y' (d,v)=V ⟨e,z,o,U,[cs++r.drop y]⟩->K Y'):sV (aK y Y (.p (d,v) 0 0) (.a cs)) K:=by have b:aK y Y (.p (d,v) 0 0) (.a cs)=V (wr Y (d,v) ⟨e,z,o,U,[cs++r.drop y]⟩):=(by grind [aK,aBG,pW,eY,qh]);rw[b];exact c _ ⟨uC,λk g=>wy (λe=>g (by simp[e]))⟩ (lO f)
def Lm{Y:ae}{ds:List Nat}{e:TypeId}{a:AV}{l:List Int}{i x:Int}{K:ae->Prop}(h:Gr Y ds e 1 a (l.map ci))(f:aF (L l) i)(c:∀k∈ds,k<L Y)(j:∀Y',Fr Y Y' ds->Gr Y' ds e 1 a ((l.set i.toNat x).map ci)->K Y'):rV (cz 1 Y a (iv i)) λp=>sV (aK 1 Y p (iv x)) K:=by have s:L (l.map ci)=L l:=(by simp);refine xL h (by simp_all) λd v b m n=>?_;have r:i.toNat<L l:=(by have:=f.1;have:=f.2;omega);have o:(l.map ci)[i.toNat]?=V (ci (gd l i.toNat)):=(by grind [eC,bT]);refine Dz (y:=iv x) n (c d b) o (by simp) rfl rfl rfl rfl λY' g q=>?_;refine j Y' (g.mono (by simp[b])) (.inr ⟨d,v,?_,b,?_⟩);rw[m];simp;simp_all
def aBI{Y:ae}{ds:List Nat}{e:TypeId}{a:AV}{l:List Int}{i:Int}{K:AV->d7}(c:Gr Y ds e 1 a (l.map ci))(b:aF (L l) i)(f:∀p,K p (iv (gd l i.toNat))):rV (cz 1 Y a (iv i)) λp=>rV (kb J Y p) (K p):=by have n:L (l.map ci)=L l:=(by simp);refine xL c (by simp_all) λd v m k g=>?_;have j:i.toNat<L l:=(by have:=b.1;have:=b.2;omega);have h:(l.map ci)[i.toNat]?=V (ci (gd l i.toNat)):=(by grind [eC,bT]);rw[anc g h];exact f _
structure On(Y:ae)(v:Nat)(s:bW)(x:List AV)(a4 a5 a6:AV):Prop where
 bx:box Y (9,v)=V ⟨40,7,U,U,[x++[a4,a5,a6]]⟩
 hx:Lk x s.bm.c
 g4:Gr Y [159] 2 1 a4 (s.cells.map ci)
 g5:Gr Y [163] 2 1 a5 (s.bU.map ci)
 g6:Gr Y [167] 3 1 a6 (s.count.map ci)
 le:L Y=4096
def OV(w:br)(s:bW)(e:aP)(hp:L w.bC<4611686018427387904/\(∀l∈s.bm.ak,L l.bk<100000)/\L s.bm.ak<100000/\L s.bm.done<100000/\L s.bm.ay<100000/\L s.cells<100000/\L s.bU<100000/\L s.count<100000/\L e.dI<4611686018427387904/\L e.ep<4611686018427387904):Ct 64 [.a w.c, .a s.c, .a e.c] (λr=>∃cs,r= .t [.a cs,bv (C1 w s e)]/\Lk cs (nD w s e).c):=by refine aLz rfl rfl rfl λu hl b1 b2 b3 h0=>?_;obtain⟨p1,p2,p3,p4,p5,p6,p7,p8,p9,a9⟩:=hp;simp only[IL,↓uL];refine pv rfl (by decide) (by omega) λT W b7=>?_;have c1:box T (3,1)=_:=W.bt b1;have c2:box T (4,1)=_:=W.bt b2;have c3:box T (5,1)=_:=W.bt b3;have R:L T=4096:=(by rw[W.1,hl]);simp+contextual only[adB,↓iC,↓iB,↓iS,u0,u1,z9,ar,c1,c2,c3,rk,ix,aj,dc,↓uL];have E:C1 w s e=I->rV (bM BF anY []) λbd=>sV (aK 7 T (AV.p (6,(aZ u 6).lB+1) 0 0) bd) λaf=>rV (((box af (6,(aZ u 6).lB+1)).bind λx=>Sb (λx=>x) x.aa[0]?).bind (aN (V 7))) λbe=>aE (λr=>∃cs,r= .t [.a cs,bv (C1 w s e)]/\Lk cs (nD w s e).c) af [be,bv I]:=(by intro ax;rw[show bM BF anY []=V (.a BF) from rfl];refine gN (cs:=BF) b7 (by omega) rfl rfl λaf bT aU=>?_;simp only[aU];exact⟨rfl,BF,by rw[ax];rfl,by simp only[nD,ax];rfl,rfl⟩);refine⟨p1,(by grind),λhb=>?_,λac=>?_⟩;grind [C1,aOL,fh];have bV:aOL w s e=I:=ac;simp only[cP,fK,nl] at ac;obtain⟨⟨⟨⟨hf,hi⟩,b6⟩,b8⟩,a1⟩:=ac;obtain⟨a2,hn⟩:lh w s.bm=U/\named w e.kind e.bb=U:=(by grind [jm]);obtain⟨f1,f2,f3,f4⟩:=iY a2;obtain⟨q1,q2,q3⟩:L s.cells=L w.cells/\L s.bU=L w.bU/\L s.count=L w.ay:=(by grind [fN]);have P:aF (L s.count) e.aq:=(by grind [dX]);simp+contextual only[adP,↓iC,↓iB,↓iS,u0,u1,z9,ar,c1,c2,c3,rk,ix,aj,dc,↓uL];have G:tA w e=U->C1 w s e=I:=(by grind [C1]);suffices hj4:tA w e=I->IP (AV.p (5,1) 0 0) (AV.p (3,1) 0 0) (AV.p (6,(aZ u 6).lB+1) 0 0) (λr=>∃cs,r=AV.t [AV.a cs,bv (C1 w s e)]/\Lk cs (nD w s e).c) (AV.p (4,1) 0 0) [] T from(by refine⟨λh=>⟨λh'=>E (G ?_),λh'=>hj4 ?_⟩,λh=>⟨λh'=>?_,λh'=>E (G ?_),λh'=>hj4 ?_⟩⟩;grind [tA];grind [tA];grind [dX];grind [tA];grind [tA]);intro bY;simp+contextual only[IP,↓iC,↓iB,↓iS,u0,u1,z9,ar,c1,c2,c3,rk,ix,aj,dc,↓uL];refine⟨λ_ _ h=>?_,(by grind [C1,yM,fh]),λb0=>⟨(by grind [C1,yN,fh]),λb4=>⟨P,p9,λ_=>P,λ_=>a9,λ_=>⟨by omega,λh=>?_,λh=>?_⟩,(by grind [C1,u7,fh]),λb5=>?_⟩⟩⟩;grind [qP];grind [qP];grind [oU];have az:C1 w s e=U:=(by grind [yM,yN,u7,C1]);clear E G;simp only[nS,bQ,adJ,u0,u1,c2,rk,aj,↓uL];refine fP (aa:=[]) (ds:=[159]) (new:=s.cells.map ci) Gr.nil rfl (by decide) (by decide) (by omega) (by simp) (by simp) (by grind) λm s8 M B=>?_;rw[dW] at M;have d2:box s8 (4,1)=_:=B.bt c2;simp only[adI,nS,bQ,adH,u0,u1,d2,rk,aj,↓uL];refine fP (aa:=[]) (ds:=[163]) (new:=s.bU.map ci) Gr.nil rfl (by decide) (by decide) (by rw[B.1,R];decide) (by simp) (by simp) (by grind) λn s9 N C=>?_;rw[dW] at N;have e2:box s9 (4,1)=_:=C.bt d2;simp only[adG,nS,bQ,adF,u0,u1,e2,rk,aj,↓uL];refine fP (aa:=[]) (ds:=[167]) (new:=s.count.map ci) Gr.nil rfl (by decide) (by decide) (by rw[C.1,B.1,R];decide) (by simp) (by simp) (by grind) λg bc F i=>?_;rw[dW] at F;have a0:bM BF anY [(1,m),(2,n),(3,g)]=V (.a [.l [] U U,iv 0, .l [] U U, .l [] U U,m,n,g]):=(by simp[bM,gp,uc M,uc N,uc F]);simp only[adE,a0,aY,↓uL];refine eF rfl rfl (by decide) (by rw[i.1,C.1,B.1,R];decide) λq o Z=>?_;have bf:(aZ bc 9).lB=0:=(by rw[i.2 _ (by decide),C.2 _ (by decide),B.2 _ (by decide),W.2 _ (by decide),h0 9 (by decide) (by decide) (by decide)]);rw[bf] at Z⊢;have a7:L q=4096:=(by rw[o.1,i.1,C.1,B.1,R]);have i1:box q (3,1)=_:=o.bt (i.bt (C.bt (B.bt c1)));have i2:box q (4,1)=_:=o.bt (i.bt e2);have i3:box q (5,1)=_:=o.bt (i.bt (C.bt (B.bt c3)));have i7:box q (6,(aZ u 6).lB+1)=_:=o.bt (i.bt (C.bt (B.bt b7)));have k4:=((M.fr C (by decide)).fr i (by decide)).fr o (by decide);have k5:=(N.fr i (by decide)).fr o (by decide);have k6:=F.fr o (by decide);simp only[adD,↓uL];refine dT ?_ ?_;rcases M with⟨_,H⟩|⟨d4,v4,H,ap,_⟩<;>rcases N with⟨_,e5⟩|⟨d5,v5,e5,av,_⟩<;>rcases F with⟨_,e6⟩|⟨d6,v6,e6,aw,_⟩<;>(try simp only[cE] at ap)<;>(try simp only[cE] at av)<;>(try simp only[cE] at aw)<;>(try subst ap)<;>(try subst av)<;>(try subst aw)<;>rw[H,e5,e6]<;>rfl;simp+contextual only[f8,adM,u0,u1,i3,rk,aj,↓uL];suffices hj:IN q (.p (3,1) 0 0) (.p (4,1) 0 0) (.p (5,1) 0 0) (.p (9,0+1) 0 0) (.p (6,(aZ u 6).lB+1) 0 0) (λr=>∃cs,r=AV.t [AV.a cs,bv (C1 w s e)]/\Lk cs (nD w s e).c) [iv (og e)] from(by refine⟨λh=>?_,λh=>?_⟩;simp only[mn] at h;rw[og,bX h] at hj;exact hj;simp only[nl] at h;rw[og,cj h] at hj;exact hj);simp only[IN,aI,au,u0,u1,i1,i2,i3,rk,aj,ar,z9,↓uL];refine⟨(by simp_all),?_⟩;rintro r ⟨f,rfl⟩;rw[a1];refine⟨.inl rfl,?_⟩;show rV (Sb (λx=>AV.p (9,1) 0 0) (box q (9,1))) λaJ=>sV (aK 4 q aJ (.a (eD (cU w s.bm e.aq e.kind e.bb (og e)).1 f))) _;rw[Z];refine aIt (y:=4) Z (by omega) rfl (by simp) λA z ao=>?_;generalize a3:(cU w s.bm e.aq e.kind e.bb (og e)).1=b at ao;have j:On A 1 ⟨b,s.cells,s.bU,s.count⟩ (eD b f) m n g:=⟨ao,⟨rfl,rfl⟩,k4.fr z (by decide),k5.fr z (by decide),k6.fr z (by decide),by rw[z.1,a7]⟩;have j3:box A (5,1)=_:=z.bt i3;have j7:box A (6,(aZ u 6).lB+1)=_:=z.bt i7;have ad:∀Y D f',Fr A Y [9,159,163,167]->On Y 1 ⟨b,D,f',s.count⟩ (eD b f) m n g->D=(if e.kind=4 then s.cells.set e.bb.toNat e.value else s.cells)->f'=(if e.kind=22 then s.bU.set e.bb.toNat e.value else s.bU)->adL (.p (9,1) 0 0) (.p (5,1) 0 0) (.p (6,(aZ u 6).lB+1) 0 0) (λr=>∃cs,r=AV.t [AV.a cs,bv (C1 w s e)]/\Lk cs (nD w s e).c) [] Y:=(by intro Y D f' S O H e5 _;have m3:box Y (5,1)=_:=S.bt j3;have m7:box Y (6,(aZ u 6).lB+1)=_:=S.bt j7;have r6:aN J (aOz 6 (eD b f++[m,n,g]))=V g:=rfl;simp only[u0,u1,O.bx,m3,rk,r6,aj,↓uL];refine aBI (K:=λ_ t=>rV (wl .add 0 [] t (iv 1)) λaL=>rV (cz 1 Y g (iv e.aq)) λaM=>sV (aK 1 Y aM aL) (IM _ _ _)) O.g6 P λp=>?_;simp only[cS,aY,↓uL];refine Lm O.g6 P (by rw[O.le];decide) λX d G2=>?_;have aQ:=(d.box (k:=9) (v:=1) (by decide)).trans O.bx;have a8:box X (6,(aZ u 6).lB+1)=_:=d.bt m7;have r7:aN (V 7) (eD b f++[m,n,g])=V (.a (eD b f++[m,n,g])):=rfl;simp only[IM,u0,u1,aQ,r7,↓uL];refine gN (cs:=eD b f++[m,n,g]) a8 (by rw[d.1,O.le];decide) rfl rfl λY3 F3 aR=>?_;simp only[aR,u0,u1,r7,↓uL];obtain⟨x4,o4,z4⟩:=sU ((O.g4.fr d (by decide)).fr F3 (by decide));obtain⟨x5,o5,z5⟩:=sU ((O.g5.fr d (by decide)).fr F3 (by decide));obtain⟨x6,o6,z6⟩:=sU (G2.fr F3 (by decide));have aB:jS Y3 [.a (eD b f++[m,n,g]),bv U]= .t [.a (eD b f++[.l (D.map ci) x4 o4, .l (f'.map ci) x5 o5, .l ((s.count.set e.aq.toNat (dq.wrap (gd s.count e.aq.toNat+1))).map ci) x6 o6]),bv U]:=(by show AV.t [.a ((eD b f++[m,n,g]).map (dQ Y3)),bv U]=_;rw[dg,O.hx.fd];grind);unfold aE;rw[aB];refine⟨rfl,_,by rw[az],?_,rfl⟩;simp only[nD,az,asq,oc,a3,<-H,<-e5];rfl);have r4:aN J (aOz 4 (eD b f++[m,n,g]))=V m:=rfl;have r5:aN J (aOz 5 (eD b f++[m,n,g]))=V n:=rfl;have ae:∀Y D,Fr A Y [9,159,163,167]->On Y 1 ⟨b,D,s.bU,s.count⟩ (eD b f) m n g->D=(if e.kind=4 then s.cells.set e.bb.toNat e.value else s.cells)->adK (.p (9,1) 0 0) (.p (5,1) 0 0) (.p (6,(aZ u 6).lB+1) 0 0) (λr=>∃cs,r=AV.t [AV.a cs,bv (C1 w s e)]/\Lk cs (nD w s e).c) [] Y:=(by intro Y D S O H _;have m3:box Y (5,1)=_:=S.bt j3;simp+contextual only[di,adO,u0,u1,O.bx,m3,rk,r5,aj,↓uL];refine⟨λh=>?_,λh=>?_⟩;simp only[mn] at h;refine Lm O.g5 (by grind [aF,oU]) (by rw[O.le];decide) λX d G2=>?_;exact ad X D (s.bU.set e.bb.toNat e.value) (S.trans (d.mono (by decide))) ⟨d.bt O.bx,O.hx,O.g4.fr d (by decide),G2,O.g6.fr d (by decide),by rw[d.1,O.le]⟩ H (by rw[bX h]);simp only[nl] at h;exact ad Y _ _ S O H (by rw[cj h]));simp+contextual only[adC,di,adN,u0,u1,j.bx,j3,rk,r4,aj,↓uL];refine⟨λh=>?_,λh=>?_⟩;simp only[mn] at h;refine Lm j.g4 (by grind [aF,qP]) (by rw[j.le];decide) λX d G2=>?_;exact ae X (s.cells.set e.bb.toNat e.value) (d.mono (by decide)) ⟨d.bt j.bx,j.hx,G2,j.g5.fr d (by decide),j.g6.fr d (by decide),by rw[d.1,j.le]⟩ (by rw[bX h]);simp only[nl] at h;exact ae A _ (Fr.refl _ _) j (by rw[cj h])
def Cd:FT:=vn OV
def ayS{w s e Lw K}:=zZ Cd OV w s e Lw K
def aCV(s0:ae)(R:d7):Iy s0 R=aE R s0 [.l (ik.map cs) U U]:=by kernel_rfl
def OE:Ct 192 [] (·= .l (ik.map cs) U U):=by refine aLf λs0 b a=>?_;rw[aCV];refine⟨by kernel_rfl,?_⟩;show jS s0 [.l (ik.map cs) U U]= .l (ik.map cs) U U;kernel_rfl
def aTX:FT:=BJ OE
def ayB{Lw K}:=al2 aTX OE Lw K
def aoY:dO:=(154,BW)::(193,Fv)::(17,zk)::(19,Gd)::(47,Cn)::(46,Ga)::(6,Fi)::(64,Cd)::(192,aTX)::Ew
def oZ:eJ aoY:=it (nH OF) (it (nH OB) (it (nH PA) (it (nH aXC) (it (nI PD) (it (aCb PE) (it (aCb Ok) (it (By OV) (it (apM OE) (nF)))))))))
def sW:=ai @ayC<|ai @ayy<|ai @azm<|ai @azw<|ai @azp<|ai @azq<|ai @ayl<|ai @ayS<|ai @ayB<|@z9
abbrev zz9:List AV:=[(sv [])]
abbrev y8:List AV:=[(iv 0),(iv 0),(iv 0),(iv 0),(iv 0),(.l [] U U),(.l [] U U)]
abbrev aN1:List AV:=[(sv []),(iv 0),(iv 0),(bv I),(iv 0)]
def atL:=bi 11 [(4,([4],[0,3]))]
def abO s0 t1 e R(d:cG)(b:fD) a:=∀_:Rg,aJ s0 t1 λt3=>aU (gt a 0) t3 λt4=>ah t4 (ao 1 s0 t1 (gt a 0) λf=>aM s0 f λg=>bf g e λh=>ah h (aE R s0 [(bv U)]) (aV (gt a 0) (iv 1) λc=>d [c]/\b [c]<b a)) (aE R s0 [(bv I)])
def Iw a s0 R:=fV aTX s0 [] λt1=>lR [(iv 0)] (abO s0 t1 a R)
def aLd{a:AV}{R:d7}(h:H0 λs0=>Iw a s0 R):Ct 155 [a] R:=z0 atL oZ Tryz.func155 h
def atO:=bi 2 []
def abR a s0 R:=fV BW s0 [a] λt1=>ic t1 a λt3=>aC t1 (fV Fv s0 [t3]) λe=>aD t1 (bv U) e λb=>ic b a λf=>aC b (bf f (.s (.int .u8 95))) λc=>aD b (bv U) c λd=>aE R s0 [d]
def aLh{a:AV}{R:d7}(h:H0 λs0=>abR a s0 R):Ct 156 [a] R:=z0 atO oZ Tryz.func156 h
def atR:=bi 41 [(4,([4,5],[1])),(20,([7],[1,4,5,6])),(29,([4,9],[1])),(35,([4,10],[1]))]
def ab0 b e d R(t:aG)(j:bu) u a:=ab 1 a b λv=>aO .neq v (gt e 0) λf=>bn f 0 a b λw=>bn f 0 a d λx=>aC f (aO .neq w x) λy=>aD f (bv U) y λg=>bn g 2 a b λk=>bn g 2 a d λm=>aC g (aO .neq k m) λn=>aD g (bv U) n λc=>bn c 4 a b λo=>bn c 4 a d λp=>aC c (aO .neq o p) λq=>aD c (bv U) q λh=>bn h 3 a b λr=>aD h (bv U) r λs=>ah s (aE R a [(.l [] U U),(bv I)]) (aV (gt e 0) (iv 1) λi=>t [i] a/\j [i] a<j e u)
def ab6 b s e R(t:aG) g(j:bu) u i k c a:=∀_:Rg,ab 2 a b λm=>aU (gt c 0) m λn=>ah n (ab 0 a s λo=>aV (gt e 1) (gt c 0) λp=>ao 5 a o p λq=>aw 5 a q λr=>eV (bs 122 aN1 a 8) λf l=>sV (aK 5 l f r) (ab0 f c b R i k a)) (ab 2 a b λh=>aV (gt e 1) h λd=>t [g,d] a/\j [g,d] a<j e u)
def ab1 b R d(j:aG)(i:bu) k h e a:=ab 2 a b λm=>bf m (iv 0) λn=>ah n (ab 1 a b λo=>aO .neq o (iv 0) λp=>ah p (aE R a [(.l [] U U),(bv I)]) (aV (gt d 1) (iv 1) λg=>j [e,g] a/\i [e,g] a<i d k)) (ab 2 a b λq=>aU q (iv 1) λf=>bn f 2 a b λr=>aC f (aO .gtr r (iv 4)) λs=>aD f (bv U) s λc=>bn c 2 a b λt=>bn c 0 a h λu=>aC c (aJ a u) λv=>ic c (gt d 1) λw=>aC c (aO .sub v w) λx=>aC c (aO .gtr t x) λy=>aD c (bv U) y λz=>ah z (aE R a [(.l [] U U),(bv I)]) (lV [(iv 0)] a (ab6 b h d R j e i k)))
def ab2 a c R h i j g b:=ab 0 b a λe=>eV (aX C9 1 b [(0,e)]) λf d=>eV (j5 9 zz9 16 d 25 (gt c 0) f) (ab1 a R c h i j g)
def ab3 a(f:aG)(b:bu) g d c:=aV (gt a 1) (iv 1) λe=>f [d,e] c/\b [d,e] c<b a g
def ab4 a(f:aG)(b:bu) g d c:=aV (gt a 1) (iv 1) λe=>f [d,e] c/\b [d,e] c<b a g
def ab5 f R c a:=ab 4 a f λd=>eV (j5 9 zz9 16 a 137 c d) λe b=>aE R b [e,(bv U)]
def ab8 c R d e b a:=∀_:Rg,ab 2 a c λg=>aJ a g λh=>aU (gt b 1) h λi=>ah i (ab 2 a c λj=>ao 2 a j (gt b 1) λk=>ab 0 a k λl=>eV (aX C9 1 a [(0,l)]) λm f=>eV (j5 9 zz9 16 f 129 (gt b 0) m) (ab4 b d e a)) (ab 3 a c λn=>eV (j5 9 zz9 16 a 133 (gt b 0) n) (ab5 c R))
def ab7 c R d e b a:=∀_:Rg,ab 1 a c λg=>aJ a g λh=>aU (gt b 1) h λi=>ah i (ab 1 a c λj=>ao 2 a j (gt b 1) λk=>ab 0 a k λl=>eV (aX C9 1 a [(0,l)]) λm f=>eV (j5 9 zz9 16 f 113 (gt b 0) m) (ab3 b d e a)) (lV [(gt b 0),(iv 0)] a (ab8 c R))
def ab9 c R i j b a:=∀_:Rg,ab 0 a c λk=>aJ a k λl=>aU (gt b 1) l λm=>ah m (ab 0 a c λf=>ao 5 a f (gt b 1) λg=>aw 5 a g λh=>eV (bs 122 aN1 a 6) λd e=>sV (aK 5 e d h) (ab2 d b R i j a c)) (lV [(gt b 0),(iv 0)] a (ab7 c R))
def abZ a b R:=lV [(.l [] U U),(iv 0)] b (ab9 a R)
def aLk{b:List AV}{R:d7}(l0:L b=6)(h:H1 31 6 1 b λc d=>abZ c d R):Ct 100 [.a b] R:=z1 atR oZ Tryz.func100 l0 h
def auz:=bi 17 [(6,([6],[1,2,5])),(10,([6,41],[1,5,39,40])),(13,([6],[1,5,39,40,41]))]
def Jc a(f:aG)(c:bu) g b d:=∀_:Rg,aV (gt a 1) (iv 1) λe=>f [(gt b 0),e] d/\c [(gt b 0),e] d<c a g
def afm e d c A(h:aG) a:=aw 7 a e λs=>aw 7 a d λt=>fV Cn a [s,t] λf=>aT f 3 a e λu=>aT f 3 a d λv=>az f (bf u v) λw=>aD f w (bv I) λb=>aT b 0 a e λx=>aT b 0 a d λy=>az b (bf x y) λz=>fm b z λg=>fm g (gt c 1) λk=>fm g A λl=>az g (aO .gtr k l) λm=>az b (aD g m (bv I)) λn=>az b (cf n) λo=>aD b o (bv I) λp=>ah p (eV (aX bH 1 a [(0,(gt c 1))]) λq i=>eV (j5 3 fB 8 i 72 (gt c 0) q) λr j=>h [r] j) (h [(gt c 0)] a)
def afp a g c d j e:=ao 7 a g (gt c 1) λh=>aw 7 a h λi=>eV (bs 64 y8 a 8) λb f=>sV (aK 7 f b i) (afm b d c j e)
def afr g f c i R d e a b:=∀_:Rg,aU (gt a 1) g λh=>ah h (jV 13 (Jc a d e b) (afp b f a c i)) (aE R b [(gt a 0)])
def afo f c g R d a:=∀_:Rg,ab 14 a f λb=>aJ a b λe=>lV [(gt d 0),(iv 0)] a (afr e b c g R)
def afq a k c(b:aG):=aw 15 a k λf=>aw 7 a c λg=>fV Ga a [f,g] λh=>ah h (eV (aX bH 1 a [(0,(iv (-1)))]) λi d=>eV (j5 3 fB 8 d 37 (.l [] U U) i) λj e=>b [j] e) (b [(.l [] U U)] a)
def afn b a d R c:=jV 6 (afo b a d R) (afq c b a)
def afl c d a R:=aU d (iv 0) λt3=>ic t3 d λu=>bn t3 14 a c λg=>aC t3 (aJ a g) λh=>aC t3 (aO .geq u h) λi=>aD t3 (bv U) i λb=>bn b 14 a c λj=>ic b d λk=>aC b (ao 7 a j k) λm=>aC b (aw 7 a m) λn=>aC b (fV zk a [n]) λo=>aC b (cf o) λp=>aD b (bv U) p λq=>ah q (aE R a [(.l [] U U)]) (ab 14 a c λr=>ao 7 a r d λs=>aw 7 a s λt=>eV (bs 64 y8 a 5) λe f=>sV (aK 7 f e t) (afn c e d R))
def aL2{b:List AV}{c:AV}{R:d7}(l0:L b=15)(h:H1 43 15 2 b λd e=>afl d c e R):Ct 18 [.a b,c] R:=z1 auz oZ Tryz.func18 l0 h
def auM:=bi 19 [(4,([7,17],[1,2,3,15,16])),(7,([7],[1,2,3,15,16,17])),(12,([7,45],[1,2,43,44])),(15,([7],[1,2,43,44,45]))]
def Jj d(f:aG)(e:bu) g a b:=∀_:Rg,aV (gt d 1) (iv 1) λc=>f [(gt a 0),c] b/\e [(gt a 0),c] b<e d g
def agc c s d r(f:aG) a:=aO .neq (gt c 1) s λe=>aT e 0 a d λi=>az e (bf i (iv 3)) λj=>aD e j (bv I) λb=>aT b 1 a d λk=>fm b r λl=>az b (bf k l) λm=>aD b m (bv I) λn=>ah n (aO .sub (iv (-1)) (gt c 1) λo=>eV (aX bH 1 a [(0,o)]) λp g=>eV (j5 3 fB 8 g 40 (gt c 0) p) λq h=>f [q] h) (f [(gt c 0)] a)
def agf c j b i h d:=ao 3 c j (gt b 1) λf=>aw 3 c f λg=>eV (bs 105 aNB c 9) λa e=>sV (aK 3 e a g) (agc b i a h d)
def Ji a(f:aG)(c:bu) g b d:=∀_:Rg,aV (gt a 1) (iv 1) λe=>f [(gt b 0),e] d/\c [(gt b 0),e] d<c a g
def agd b s r c(f:aG) a:=ab 0 a b λi=>aO .neq i s λe=>aT e 1 a b λj=>az e (bf j (iv 16)) λk=>aD e k (bv I) λd=>aT d 2 a b λl=>fm d r λm=>az d (bf l m) λn=>aD d n (bv I) λo=>ah o (eV (aX bH 1 a [(0,(gt c 1))]) λp g=>eV (j5 3 fB 8 g 68 (gt c 0) p) λq h=>f [q] h) (f [(gt c 0)] a)
def age b f c j i d:=ao 7 b f (gt c 1) λg=>aw 7 b g λh=>eV (bs 64 y8 b 11) λa e=>sV (aK 7 e a h) (agd a j i c d)
def agh f e i h R c d a b:=∀_:Rg,aU (gt a 1) f λg=>ah g (jV 15 (Ji a c d b) (age b e a i h)) (aE R b [(gt a 0)])
def agi l k e d h R i j a b:=∀_:Rg,aU (gt a 1) l λf=>ah f (jV 7 (Jj a i j b) (agf b k a e d)) (ab 14 b h λc=>aJ b c λg=>lV [(gt a 0),(iv 0)] b (agh g c e d R))
def agb b d e a R:=aB 7 a b λt3=>aB 0 a t3 λt4=>ab 3 a t4 λc=>aJ a c λf=>lV [(.l [] U U),(iv 0)] a (agi f c e d b R)
def aMf{b:List AV}{c:AV}{d:AV}{R:d7}(l0:L b=15)(h:H1 43 15 3 b λe f=>agb e c d f R):Ct 20 [.a b,c,d] R:=z1 auM oZ Tryz.func20 l0 h
def hI(mk:AV->Int->List AV)(b:ae)(ds fs:List Nat)(e:TypeId)(z n:Nat)(aa:Nat->List (List AV))(Inv:Nat->Prop):aG:=λvs Y=>∃(k:Nat) (a:AV),vs=mk a k/\k<=n/\Inv k/\Gr Y ds e z a (aa k)/\Fr b Y fs
def iu{B:(aG)->(bu)->aG}(mk:AV->Int->List AV)(p:Nat)(ds fs:List Nat)(e:TypeId)(z n:Nat)(aa:Nat->List (List AV))(Inv:Nat->Prop){c:AV}{b:ae}(d:Inv 0)(f:Gr b ds e z c (aa 0))(h:∀(k:Nat) a Y,k<=n->Inv k->Gr Y ds e z a (aa k)->Fr b Y fs->B (hI mk b ds fs e z n aa Inv) (gM p n) (mk a k) Y):lV (mk c 0) b B:=⟨hI mk b ds fs e z n aa Inv,gM p n,⟨0,c,rfl,mh _,d,f,Fr.refl _ _⟩,by rintro vs Y ⟨k,a,rfl,l,j,i,g⟩;simp_all⟩
def C0{mk:AV->Int->List AV}{p:Nat}{c Y Y':ae}{ds fs:List Nat}{e:TypeId}{z n k:Nat}{aa:Nat->List (List AV)}{Inv:Nat->Prop}{a b:AV}(l:∀a i,gt (mk a i) p=iv i)(h:k<n)(j:n<4611686018427387904)(d:Inv (k+1))(g:Gr Y' ds e z b (aa (k+1)))(f:Fr c Y' fs):hI mk c ds fs e z n aa Inv (mk b (dq.wrap ((k:Int)+1))) Y'/\gM p n (mk b (dq.wrap ((k:Int)+1))) Y'<gM p n (mk a k) Y:=by rw[eM (by omega) (by omega)];refine⟨⟨k+1,b,rfl,h,d,g,f⟩,?_⟩;grind [gM]
def fw(p:Nat->Bool)(k:Nat):List Int:=((aH k).filter p).map λ(i:Nat)=>(i:Int)
theorem yK(p:Nat->Bool)(k:Nat):fw p (k+1)=fw p k++if p k then[(k:Int)] else[]:=by grind [fw,qn]
theorem qX(p:Nat->Bool)(k:Nat):L (fw p k)<=k:=by grind [fw,bJ,gl,fZ]
theorem Bo{a:List Int}{p:Nat->Bool}{k:Nat}(h:p k=U):(a++fw p (k+1)).map ci=(a++fw p k).map ci++[ci k]:=by grind [yK]
theorem yJ{a:List Int}{p:Nat->Bool}{k:Nat}(h:p k=I):(a++fw p (k+1)).map ci=(a++fw p k).map ci:=by rw[yK,h];simp
def jo{α β:Type}{f:α->List β}{m:Nat}:∀{l:List α},(∀x∈l,L (f x)<=m)->L (l.flatMap f)<=L l*m
 |[],_=>by simp
 |a::l,h=>by
  have b:=h a (by simp)
  have c:=jo (f:=f) (m:=m) (l:=l) (by simp_all)
  rw[Cz,P8,bZ,Nat.succ_mul]
  omega
def oX{l:List ByteArray}:∀r∈l.map cs,L r=1:=by simp
theorem Ez{α:Type}[Inhabited α]{a:List ByteArray}{l:List α}{g:α->ByteArray}{k:Nat}(h:k<L l):(a++(l.take (k+1)).map g).map cs=(a++(l.take k).map g).map cs++[cs (g (gd l k))]:=by grind [iJ,bT,cC]
def uo(p:Nat->Bool)(n:Nat):Int:=match(aH n).find? p with|some i=>i|none=> -1
def al8{p:Nat->Bool}{k:Nat}(b:p k=U)(a:∀j,j<k->p j=I):∀n,k<n->(aH n).find? p=V k
 |0,h=>by omega
 |n+1,h=>by
  simp_all
def KW{p:Nat->Bool}{n k:Nat}(a:k<n)(c:p k=U)(b:∀j,j<k->p j=I):uo p n=k:=by simp[uo,al8 c b n a]
def KX{p:Nat->Bool}{n:Nat}(a:∀j,j<n->p j=I):uo p n= -1:=by grind [aH,List.find?_eq_none,uo]
def QV{R:d7}{Y:ae}{n:Int}{b:Bool}:aE R Y [iv n,bv b]=R (.t [iv n,bv b]):=by simp[aE,jS,iZ,dQ,kG,pF,nj]
def aRN{p:Nat->Bool}{k:Nat}(h:∀j,j<k->p j=I)(a:p k=I):∀j,j<k+1->p j=I:=(by grind)
def oJ{a:AV}{l:List AV}:eO 0 (.t (a::l))=V a:=rfl
def pG{a b:AV}{l:List AV}:eO 1 (.t (a::b::l))=V b:=rfl
def KM{a b c:AV}{l:List AV}:eO 2 (.t (a::b::c::l))=V c:=rfl
def aIl{l:List ByteArray}{t o:Bool}{i:Int}{Y:ae}{K:d7}:rV (fo 1 Y (.l (l.map cs) t o) J (V (iv i)) J) K=((0<=i/\i<=L l)/\K (.l ((l.take i.toNat).map cs) (t&&((i.toNat:Nat)==L l)) o)):=by simp only[fo,lM];by_cases a:0<=i;simp only[a,vm,qY,sD,mi,mh,lS,bJ];grind [rV,GL];simp[a,rV]
def avX{a b:Int}:wl .eql 0 [] (.s (.int .u8 a)) (.s (.int .u8 b))=V (bv (Q (a=b))):=rfl
def amZ{K:d7}{Y:ae}{i:Int}{l:List ByteArray}{t o:Bool}:rV (cz 1 Y (.l (l.map cs) t o) (iv i)) K=(aF (L l) i/\K (.q (cs (gd l i.toNat)))):=amY (Y:=Y)
def aDm{Y:ae}{r:AV}:lo Y [] r=True:=by simp[lo,nA]
def rZ(s:ByteArray):Bool:=ik.any λx=>Q (x=s)
def OC(s:ByteArray):Ct 155 [st s] (·=bv (rZ s)):=by refine aLd λs0 _ c=>?_;simp only[Iw,ar,sW,aDm,↓uL];refine C7 (L ik) (λk=>∀j,j<k->gd ik j≠s) (by simp) λk e d=>?_;simp+contextual only[abO,Iw,u0,u1,amZ,gT,qM,rk,bh,↓uL];refine⟨λh=>⟨bA h,λa=>?_,λa=>gS (aL h) (by decide) (by grind)⟩,λh=>?_⟩;grind [rZ,tL,dB,aL];have:rZ s=I:=(by rw[rZ,Gy];intro x b;have:=(px (p:=λx=>x≠s)).1 (by grind) x b;simp_all);rw[this]
def Fw:FT:=lH OC
def ayz{s Lw K}:=np Fw OC s Lw K
def oO(c:Int):Bool:=wx c||zY c||Q (c=95)
def OG(c:Int):Ct 156 [.s (.int .u8 c)] (·=bv (oO c)):=by refine aLh λs0 _ a=>?_;simp+contextual only[abR,u0,u1,ar,sW,avX,oO,↓uL]
def aTY:FT:=lH OG
def ayD{c Lw K}:=np aTY OG c Lw K
def dD(w:br)(e:aP):Int×Bool:=bif Q (e.kind=6)||Q (e.kind=10) then(e.bb,I) else bif Q (e.kind=8) then(e.bb,U) else bif Q (e.kind=17) then(sd w e.bb,I) else(-1,I)
def dY(w:br)(e:aP):Int×Bool:=bif Q (e.kind=7)||Q (e.kind=11) then(e.bb,I) else bif Q (e.kind=9) then(e.bb,U) else bif Q (e.kind=16) then(sd w e.bb,I) else(-1,I)
def mr(w:am)(r:Int)(i:Nat):Bool:=aTG (gd w.ac i) (gd w.ac r.toNat)&&(Q ((gd w.ac i).value=(gd w.ac r.toNat).value)&&!(Q ((gd w.ac i).aq=(gd w.ac r.toNat).aq)&&Q (r<i)))
def dx(w:am)(r:Int):List Int:=bif dh r (L w.ac)&&fR (gd w.ac r.toNat) then(bif oM w (gd w.ac r.toNat) then[-1] else[])++fw (mr w r) (L w.ac) else[]
def Px(w:am)(q:Int)(W:L w.ac<100000/\(aF (L w.ac) q->((gd w.ac q.toNat).kind=23->aF (L w.init.bm.done) (gd w.ac q.toNat).bb/\aF (L w.init.bU) (gd w.ac q.toNat).bb)/\((gd w.ac q.toNat).kind=3->aF (L w.init.cells) (gd w.ac q.toNat).bb))):Ct 18 [.a w.c,iv q] (λr=>∃t,r= .l ((dx w q).map ci) t U):=by refine aL2 rfl λg T s h0=>?_;simp+contextual only[afl,u0,u1,s,ix,rk,aj,ar,sW,↓uL];have z:(Q (q<0)||Q ((L w.ac:Int)<=q))=!dh q (L w.ac):=(by grind [dh]);rw[z];refine⟨(by grind [dX]),λh=>?_,λh=>?_⟩;have:dx w q=[]:=(by grind [Bool.not_and,eH,dx]);rw[this];exact⟨rfl,U,rfl⟩;simp only[cP,fK] at h;obtain⟨y,X⟩:=h;have F:=dX.1 y;obtain⟨ad,E⟩:=W;obtain⟨ae,af⟩:=E F;have hc:dx w q=(bif oM w (gd w.ac q.toNat) then[-1] else[])++fw (mr w q) (L w.ac):=(by simp[dx,y,X]);refine⟨F,eF rfl rfl (by decide) (by omega) λj n u=>?_⟩;have v:box j (2,1)=_:=n.bt s;have hk:(gd w.ac q.toNat).kind=3\/(gd w.ac q.toNat).kind=23:=(by grind [fR]);have C:L j=4096:=(by rw[n.1,T]);have A:∀a Y (e:List Int),L e<=1->dx w q=e++fw (mr w q) (L w.ac)->Fr j Y [37,72]->Gr Y [37,72] 3 1 a (e.map ci)->afo (.p (2,1) 0 0) (.p (5,(aZ g 5).lB+1) 0 0) (iv q) (λr=>∃t,r= .l ((dx w q).map ci) t U) [a] Y:=(by intro a Y e ag x d G4 _;have K:box Y (2,1)=_:=d.bt v;have M:box Y (5,(aZ g 5).lB+1)=_:=d.bt u;simp only[u0,u1,K,rk,aj,↓uL];refine iu (λa i=>[a,iv i]) 1 [37,72] [37,72,8] 3 1 (L w.ac) (λk=>(e++fw (mr w q) k).map ci) (λ_=>True) trivial (by grind [fw]) λk a' Y' ab _ S f=>?_;have N:box Y' (5,(aZ g 5).lB+1)=_:=f.bt M;have D:L Y'=4096:=(by rw[f.1,d.1,C]);simp only[afr,aI,di,u0,u1,afp,ix,rk,bh,↓uL];refine⟨λh=>⟨bA h,?_⟩,λh=>?_⟩;refine eF rfl rfl (by decide) (by omega) λG b H=>?_;have O:box G (5,(aZ g 5).lB+1)=_:=b.bt N;simp+contextual only[afm,u0,u1,O,H,rk,aj,ar,sW,iz,↓uL];have ah:=qX (mr w q) k;refine⟨λm=>?_,λm=>?_⟩;refine fP (S.fr b (by decide)) rfl (by decide) (by decide) (by rw[b.1,D];decide) pU (by simp) (by grind) λa2 Y3 P o=>?_;simp only[Jc,aI,au,fE,cS,aY,↓uL];refine C0 (mk:=λa i=>[a,iv i]) (λ_ _=>rfl) (aL h) (by omega) trivial ?_ (f.trans ((b.mono (by decide)).trans (o.mono (by decide))));rw[Bo m];exact P;simp only[Jc,aI,au,fE,cS,aY,↓uL];refine C0 (mk:=λa i=>[a,iv i]) (λ_ _=>rfl) (aL h) (by omega) trivial ?_ (f.trans (b.mono (by decide)));rw[yJ m];grind [Gr.fr];have B:k=L w.ac:=(by grind);subst B;rw[x];grind [qV]);simp+contextual only[afn,di,afq,u0,u1,v,u,rk,aj,ar,sW,iz,↓uL];refine⟨(by grind),λh=>?_,λh=>?_⟩;refine fP (aa:=[]) (ds:=[37,72]) (new:=[ci (-1)]) Gr.nil rfl (by decide) (by decide) (by omega) (by simp) (by simp) (by decide) λa Z R d=>?_;exact A a Z [-1] (by simp) (by grind) d R;exact A _ j [] (by simp) (by grind) (Fr.refl _ _) Gr.nil
def zi:FT:=pn Px
def azk{w q Lw K}:=rQ zi Px w q Lw K
def vf(w:am)(c u:Int)(i:Nat):Bool:=Q ((i:Int)≠u)&&(Q ((gd w.init.bm.ay i).cQ=3)&&Q ((gd w.init.bm.ay i).cond=c))
def wV(w:am)(c u:Int)(i:Nat):Bool:=Q ((gd w.ac i).aq≠u)&&(Q ((gd w.ac i).kind=16)&&Q ((gd w.ac i).bb=c))
def iH(w:am)(c u:Int)(k:Nat):List Int:=(fw (vf w c u) k).map λt=> -1-t
def mR(w:am)(c u:Int):List Int:=iH w c u (L w.init.bm.ay)++fw (wV w c u) (L w.ac)
def PL(w:am)(c u:Int)(O:L w.ac<100000/\L w.init.bm.ay<100000):Ct 20 [.a w.c,iv c,iv u] (λr=>∃t,r= .l ((mR w c u).map ci) t U):=by refine aMf rfl λP D s M=>?_;simp+contextual only[agb,u0,u1,s,ix,rk,aj,dc,↓uL];refine iu (λa i=>[a,iv i]) 1 [40,68] [40,68,9] 3 1 (L w.init.bm.ay) (λk=>(iH w c u k).map ci) (λ_=>True) trivial (.inl ⟨rfl,rfl⟩) λk a Y N _ C m=>?_;have B:box Y (3,1)=_:=m.bt s;have o:L Y=4096:=(by rw[m.1,D]);have K:=qX (vf w c u) k;simp only[agi,aI,di,u0,u1,agf,ix,rk,bh,B,aj,↓uL];refine⟨λh=>⟨bA h,?_⟩,λh=>?_⟩;refine eF rfl rfl (by decide) (by omega) λy b p=>?_;simp+contextual only[agc,u0,u1,p,rk,aj,iz,↓uL];have H:=aL h;rw[eM (x:= -1-(k:Int)) (by omega) (by omega)];refine⟨λd=>?_,λd=>?_⟩;refine fP (C.fr b (by decide)) rfl (by decide) (by decide) (by rw[b.1,o];decide) pU (by simp) (by grind [iH,bJ,P8,bZ,vw]) λA z v f=>?_;simp only[Jj,aI,au,fE,cS,aY,↓uL];refine C0 (mk:=λa i=>[a,iv i]) (λ_ _=>rfl) (aL h) (by omega) trivial ?_ (m.trans ((b.mono (by decide)).trans (f.mono (by decide))));grind [vf,iH,yK];simp only[Jj,aI,au,fE,cS,aY,↓uL];refine C0 (mk:=λa i=>[a,iv i]) (λ_ _=>rfl) (aL h) (by omega) trivial ?_ (m.trans (b.mono (by decide)));have F:vf w c u k=I:=d;have e:iH w c u (k+1)=iH w c u k:=(by grind [iH,yK]);grind [Gr.fr];have j:k=L w.init.bm.ay:=(by grind);subst j;refine iu (λa i=>[a,iv i]) 1 [40,68] [40,68,11] 3 1 (L w.ac) (λk=>(iH w c u (L w.init.bm.ay)++fw (wV w c u) k).map ci) (λ_=>True) trivial (by grind [fw]) λk a Y' G _ n g=>?_;have q:L Y'=4096:=(by rw[g.1,o]);have E:=qX (wV w c u) k;simp only[agh,aI,di,u0,u1,age,ix,rk,bh,↓uL];refine⟨λh=>⟨bA h,?_⟩,λh=>?_⟩;refine eF rfl rfl (by decide) (by omega) λy b p=>?_;simp+contextual only[agd,u0,u1,p,rk,aj,iz,↓uL];refine⟨λd=>?_,λd=>?_⟩;refine fP (n.fr b (by decide)) rfl (by decide) (by decide) (by rw[b.1,q];decide) pU (by simp) (by grind [iH,bJ,P8,bZ,vw]) λA z v f=>?_;simp only[Ji,aI,au,fE,cS,aY,↓uL];refine C0 (mk:=λa i=>[a,iv i]) (λ_ _=>rfl) (aL h) (by omega) trivial ?_ (g.trans ((b.mono (by decide)).trans (f.mono (by decide))));rw[Bo d];exact v;simp only[Ji,aI,au,fE,cS,aY,↓uL];refine C0 (mk:=λa i=>[a,iv i]) (λ_ _=>rfl) (aL h) (by omega) trivial ?_ (g.trans (b.mono (by decide)));rw[yJ d];grind [Gr.fr];have j:k=L w.ac:=(by grind);subst j;exact qV n λt=>⟨t,rfl⟩
def Ge:FT:=vn PL
def azx{w c u Lw K}:=zZ Ge PL w c u Lw K
theorem Gr.mono{Y:ae}{ds b:List Nat}{e:TypeId}{z:Nat}{a:AV}{aa:List (List AV)}(i:Gr Y ds e z a aa)(h:∀k∈ds,k∈b):Gr Y b e z a aa:=by rcases i with c|⟨d,v,c,f,g⟩;exact .inl c;exact .inr ⟨d,v,c,h _ f,g⟩
def aEs{a b:ByteArray}:wl .neq 0 [] (st a) (st b)=V (bv (Q (a≠b))):=by show V (bv (a.toList !=b.toList))=_;congr 3;grind [aqv,ByteArray.toList_eq,qb]
def sM(c x:cA)(k:Nat):Bool:=!(Q (x.index≠k)||Q (x.name≠c.name)||Q (x.size≠c.size)||Q (x.init≠c.init)||x.vol)
def kW(l:List cA)(i:Nat):Option Nat:=
 if(gd l i).size=0 then(if(gd l i).index≠0 then J else V (i+1))
 else if((gd l i).size<1\/4<(gd l i).size\/(L l:Int)-i<(gd l i).size) then J
 else if(∀k,k<(gd l i).size.toNat->sM (gd l i) (gd l (i+k)) k=U) then V (i+(gd l i).size.toNat) else J
def jv(l:List cA):Nat->Nat->List ByteArray->Option (List ByteArray)
 |0,i,a=>if i<L l then J else V a
 |f+1,i,a=>if i<L l then(match kW l i with|none=>J|some j=>jv l f j (a++[(gd l i).name])) else V a
def lY(w:br):Option (List ByteArray):=(jv w.cells (L w.cells) 0 []).map λa=>a++w.ak.map (·.name)++w.bC.map (·.name)++w.bU++w.ay
def OJ(w:br)(hp:L w.cells<10000/\L w.ak<10000/\L w.bC<10000/\L w.bU<10000/\L w.ay<10000):Ct 100 [.a w.c] (λr=>∃t o,r= .t [.l (((lY w).getD []).map cs) t o,bv (lY w).isSome]):=by refine aLk rfl λG hl b1 h0=>?_;obtain⟨p1,p2,p3,p4,p5⟩:=hp;simp only[abZ,↓uL];refine⟨λvs Y=>∃(i f:Nat) (a:AV) (b:List ByteArray),vs=[a,iv i]/\i<=L w.cells/\L b<=i/\L w.cells-i<=f/\jv w.cells (L w.cells) 0 []=jv w.cells f i b/\Gr Y [25] 9 1 a (b.map cs)/\Fr G Y [25,6,8],gM 1 (L w.cells),⟨0,L w.cells,_,[],rfl,by omega,by simp,by omega,rfl,Gr.nil,Fr.refl _ _⟩,?_⟩;rintro vs Y ⟨i,f,a,b,rfl,hi,aJ,hf,ad,hG,X⟩;have S:box Y (1,1)=_:=X.bt b1;have A:L Y=4096:=(by rw[X.1,hl]);simp only[ab9,aI,u0,u1,S,rk,aj,ix,bh,↓uL];refine⟨λh=>⟨bA h,?_⟩,λh=>?_⟩;refine eF rfl rfl (by decide) (by omega) λB g b2=>?_;simp+contextual only[ab2,u0,u1,b2,rk,aj,iz,↓uL];refine fP (hG.fr g (by decide)) rfl (by decide) (by decide) (by rw[g.1,A];decide) (by simp) (by simp) (by grind) λu q T n=>?_;have b3:box q (6,(aZ Y 6).lB+1)=_:=n.bt b2;have c3:box q (1,1)=_:=n.bt (g.bt S);simp+contextual only[ab1,↓iC,↓iB,↓iS,u0,u1,b3,c3,rk,aj,↓uL];have a0:=aL h;obtain⟨f,rfl⟩:∃f',f=f'+1:=⟨f-1,by omega⟩;have E:jv w.cells (L w.cells) 0 []=(match kW w.cells i with|none=>J|some j=>jv w.cells f j (b++[(gd w.cells i).name])):=(by grind [jv]);have y:kW w.cells i=J->∀Y',aE (λr=>∃t o,r= .t [.l (((lY w).getD []).map cs) t o,bv (lY w).isSome]) Y' [.l [] U U,bv I]:=(by intro hn Y';rw[hn] at E;have:lY w=J:=(by rw[lY,E];rfl);rw[this];exact⟨rfl,U,U,rfl⟩);have next:∀j Y',kW w.cells i=V j->i<j->j<=L w.cells->Gr Y' [25] 9 1 u ((b++[(gd w.cells i).name]).map cs)->Fr G Y' [25,6,8]->(∃(i f:Nat) (a:AV) (b:List ByteArray),[u,iv (j:Int)]=[a,iv i]/\i<=L w.cells/\L b<=i/\L w.cells-i<=f/\jv w.cells (L w.cells) 0 []=jv w.cells f i b/\Gr Y' [25] 9 1 a (b.map cs)/\Fr G Y' [25,6,8])/\gM 1 (L w.cells) [u,iv (j:Int)] Y'<gM 1 (L w.cells) [a,iv i] Y:=(by intro j Y' F aV hj G' F';rw[F] at E;refine⟨⟨j,f,u,b++[(gd w.cells i).name],rfl,hj,by simp;omega,by omega,E,G',F'⟩,?_⟩;grind [gM,fE,au,bh]);have N:Gr q [25] 9 1 u ((b++[(gd w.cells i).name]).map cs):=(by grind);have H:Fr G q [25,6,8]:=X.trans ((g.mono (by decide)).trans (n.mono (by decide)));rw[fX (by omega),eM (x:=(L w.cells:Int)-i) (by omega) (by omega)];refine⟨λF=>⟨λhx=>y ?_ _,λhx=>next (i+1) q ?_ (by omega) (by omega) N H⟩,λF=>⟨λhb=>y ?_ _,λhb=>?_⟩⟩;grind [kW];grind [decide_eq_false_iff_not,kW];grind [decide_eq_false_iff_not,kW];simp only[nl] at F;simp only[cP,nl] at hb;have a5:((gd w.cells i).size.toNat:Int)=(gd w.cells i).size:=(by omega);have O:kW w.cells i=if(∀k,k<(gd w.cells i).size.toNat->sM (gd w.cells i) (gd w.cells (i+k)) k=U) then V (i+(gd w.cells i).size.toNat) else J:=(by grind [kW]);refine pQ (gd w.cells i).size.toNat [8] (λk=>∀m,m<k->sM (gd w.cells i) (gd w.cells (i+m)) m=U) (by simp) λk p hk hc s=>?_;have b4:box p (6,(aZ Y 6).lB+1)=_:=s.bt b3;have c4:box p (1,1)=_:=s.bt c3;have aP:L p=4096:=(by rw[s.1,n.1,g.1,A]);simp only[ab6,aI,u0,u1,b4,c4,rk,aj,ix,↓uL];have Z:∀m:Nat,m<=10->dq.wrap ((i:Int)+m)=((i+m:Nat):Int):=(by grind [eM]);refine⟨λz=>?_,λz=>?_⟩;simp only[mn] at z;rw[Z k (by omega),bh];refine⟨dJ (by omega),eF rfl rfl (by decide) (by omega) λY5 F5 b5=>?_⟩;have b6:box Y5 (6,(aZ Y 6).lB+1)=_:=F5.bt b4;simp+contextual only[ab0,u0,u1,b5,b6,rk,aj,aEs,↓uL];have P:k<(gd w.cells i).size.toNat:=(by omega);refine⟨λaq=>y ?_ _,λaq=>?_⟩;rw[O,cj];grind [sM,fh];refine oL P (by omega) (jf hc ?_) (s.trans F5);grind [sM,kN];simp only[nl] at z;have P:k=(gd w.cells i).size.toNat:=(by omega);have e:dq.wrap ((i:Int)+(gd w.cells i).size)=((i+(gd w.cells i).size.toNat:Nat):Int):=(by grind);rw[e];refine next _ p ?_ (by omega) (by omega) (N.fr s (by decide)) (H.trans (s.mono (by decide)));rw[O,bX (by grind)];have aM:jv w.cells (L w.cells) 0 []=V b:=(by rw[ad];have:=bw h;cases f<;>simp[jv,aYE.2 this]);have hN:lY w=V (b++w.ak.map (·.name)++w.bC.map (·.name)++w.bU++w.ay):=(by grind [lY]);rw[hN];refine iu (λa i=>[a,iv i]) 1 [25,113] [25,113] 9 1 (L w.ak) (λk=>(b++(w.ak.take k).map (·.name)).map cs) (λ_=>True) trivial (by grind [Gr.mono]) λk a1 Y1 aW _ g1 R=>?_;have K:box Y1 (1,1)=_:=R.bt S;have l1:L Y1=4096:=(by rw[R.1,A]);simp only[ab7,aI,u0,u1,K,rk,aj,ix,bh,iz,↓uL];refine⟨λW=>⟨bA W,?_⟩,λW=>?_⟩;refine fP g1 rfl (by decide) (by decide) (by omega) oX (by simp) (by simp;omega) λa2 B D g=>?_;simp only[ab3,au,fE,cS,aY,↓uL];refine C0 (mk:=λa i=>[a,iv i]) (λ_ _=>rfl) (aL W) (by omega) trivial ?_ (R.trans g);grind [Ez,aL];have aa:k=L w.ak:=(by grind);subst aa;rw[gV] at g1;refine iu (λa i=>[a,iv i]) 1 [25,113,129] [25,113,129] 9 1 (L w.bC) (λk=>(b++w.ak.map (·.name)++(w.bC.take k).map (·.name)).map cs) (λ_=>True) trivial (by grind [Gr.mono]) λk a2 B aX _ D g=>?_;have M:box B (1,1)=_:=g.bt K;have l2:L B=4096:=(by rw[g.1,l1]);simp only[ab8,aI,u0,u1,M,rk,aj,ix,bh,iz,↓uL];refine⟨λz=>⟨bA z,?_⟩,λz=>?_⟩;refine fP D rfl (by decide) (by decide) (by omega) oX (by simp) (by simp;omega) λu q T n=>?_;simp only[ab4,au,fE,cS,aY,↓uL];refine C0 (mk:=λa i=>[a,iv i]) (λ_ _=>rfl) (aL z) (by omega) trivial ?_ (g.trans n);grind [Ez,aL];have ab:k=L w.bC:=(by grind);subst ab;rw[gV] at D;refine fP (ds:=[25,113,129,133,137]) (new:=w.bU.map cs) (D.mono (by decide)) rfl (by decide) (by decide) (by omega) oX oX (by simp;omega) λu q T n=>?_;have an:box q (1,1)=_:=n.bt M;simp only[ab5,u0,u1,an,rk,aj,↓uL];refine fP (new:=w.ay.map cs) T rfl (by decide) (by decide) (by rw[n.1,l2];decide) (by grind) oX (by simp;omega) λC p g4 s=>?_;obtain⟨x,o,e⟩:=sU g4;have ac:jS p [C,bv U]= .t [.l ((b++w.ak.map (·.name)++w.bC.map (·.name)++w.bU++w.ay).map cs) x o,bv U]:=(by show AV.t [iZ p C,bv U]=_;have:iZ p C=dQ p C:=(by rcases g4 with⟨_,rfl⟩|⟨d,v,rfl,_⟩<;>rfl);simp_all);unfold aE;rw[ac];exact⟨rfl,x,o,rfl⟩
def FD:FT:=om OJ
def ayG{w Lw K}:=qz FD OJ w Lw K
def aoZ:dO:=(155,Fw)::(156,aTY)::(18,zi)::(20,Ge)::(100,FD)::aoY
def Rc:eJ aoZ:=it (nH OC) (it (nH OG) (it (aN0 Px) (it (By PL) (it (rj OJ) (oZ)))))
def Dl:=ai @ayz<|ai @ayD<|ai @azk<|ai @azx<|ai @ayG<|@sW
def atM:=bi 13 [(6,([3],[0]))]
def abP e s0 R(d:cG)(b:fD) a:=∀_:Rg,rV (lsA e) λf=>aU (gt a 0) f λg=>ah g (rV (sxA e (gt a 0)) λh=>fV aTY s0 [h] λi=>cf i λj=>ah j (aE R s0 [(bv I)]) (aV (gt a 0) (iv 1) λc=>d [c]/\b [c]<b a)) (aE R s0 [(bv U)])
def Ix b s0 R:=rV (lsA b) λt1=>aU t1 (iv 1) λd=>ic d b λt4=>aC d (rV (lsA t4)) λm=>aC d (aO .gtr m (iv 12)) λe=>aD d (bv U) e λa=>ic a b λf=>aC a (rV (sxA f (iv 0))) λg=>aC a (fV BW s0 [g]) λh=>aC a (cf h) λi=>aD a (bv U) i λc=>ic c b λj=>aC c (fV Fw s0 [j]) λk=>aD c (bv U) k λl=>ah l (aE R s0 [(bv I)]) (lR [(iv 0)] (abP b s0 R))
def aLe{a:AV}{R:d7}(h:H0 λs0=>Ix a s0 R):Ct 101 [a] R:=z0 atM Rc Tryz.func101 h
def rI(s:ByteArray)(i:Nat):Int:=match s[i]? with|some b=>b.toNat|none=>0
def Qm{s:ByteArray}:lsA (st s)=V (iv s.size):=rfl
def aoO{s:ByteArray}{i:Int}{K:d7}:rV (sxA (st s) (iv i)) K=(aF s.size i/\K (.s (.int .u8 (rI s i.toNat)))):=by grind [aF,sxA,rV,rI]
def aQt(s:ByteArray):Bool:=!(Q ((s.size:Int)<1)||Q (12<(s.size:Int))||!wx (rI s 0)||rZ s)&&Q (∀j,j<s.size->oO (rI s j)=U)
def OD(s:ByteArray):Ct 101 [st s] (·=bv (aQt s)):=by refine aLe λs0 _ c=>?_;simp+contextual only[Ix,u0,u1,Qm,aoO,ar,Dl,Gx,↓uL];refine⟨λh=>?_,λh=>?_,λh=>?_⟩;simp at h;exact⟨by omega,by omega⟩;grind [aQt,fh];have b:=h;simp only[cP,nl] at b;refine C7 s.size (λk=>∀j,j<k->oO (rI s j)=U) (by simp) λk f e=>?_;simp+contextual only[abP,Ix,u0,u1,Qm,aoO,ar,Dl,bh,↓uL];refine⟨λa=>⟨bA a,λd=>?_,(by grind [gS,aL])⟩,λa=>?_⟩;grind [oO,rI,aL,aQt];grind [oO,rI,C3,bw,aQt,decide_eq_true,kN,Bool.and_self]
def aPd:FT:=lH OD
def ayA{s Lw K}:=np aPd OD s Lw K
def cY(w:am):Nat->bW|0=>w.init|k+1=>nD w.aQ (cY w k) (gd w.ac k)
def GV(s:bW):Prop:=(∀l∈s.bm.ak,L l.bk<100000)/\L s.bm.ak<100000/\L s.bm.done<100000/\L s.bm.ay<100000/\L s.cells<100000/\L s.bU<100000/\L s.count<100000
def vo(e:aP):Prop:=L e.dI<4611686018427387904/\L e.ep<4611686018427387904
def oC{ds:List AV}{s:bW}(h:Lk ds s.c):L ds=7:=by have:=aNJ L h.1;simp_all [bW.c]
def Bi{ds:List AV}(h:L ds=7):aN (V 7) ds=V (.a ds):=by show(if 7<=L ds then V (AV.a (ds.take 7)) else J)=_;grind
def x9{ds b:List AV}(h:Lk ds b):eB (.a ds)=[]:=by have d:=dV.1 h.2;show ds.flatMap iR=[];rw[List.flatMap_eq_nil_iff];intro c e;have:=d c e;cases c<;>simp[nj] at this<;>rfl
def ao0:dO:=(101,aPd)::aoZ
def yP:eJ ao0:=it (nH OD) (Rc)
def rT:=ai @ayA<|@Dl
abbrev aP5:List AV:=[(iv 0),(iv 0),(iv 0)]
def atQ:=bi 41 [(10,([5],[1,3])),(18,([6],[1])),(27,([8],[1])),(30,([],[1,8]))]
def IA a(e:aG)(b:bu) f(g:eQ) c:=∀_:Rg,aV (gt a 0) (iv 1) λd=>e [d] c/\b [d] c<b a f
def abU d h R e(i:aG) a:=ab 0 a d λj=>aU j (iv 0) λf=>bn f 0 a d λk=>bn f 4 a h λl=>aC f (aJ a l) λm=>aC f (aO .geq k m) λn=>aD f (bv U) n λo=>ah o (aE R a [(bv I)]) (bf (gt e 0) (iv 0) λb=>bn b 5 a h λp=>ic b (gt e 0) λq=>aC b (aO .sub q (iv 1)) λr=>aC b (ao 3 a p r) λs=>bn b 0 a s λt=>bn b 0 a d λu=>aC b (aO .neq t u) λv=>aD b (bv U) v λw=>ah w (ab 1 a d λx=>aO .neq x (iv 0) λg=>ic g (gt e 0) λy=>aC g (aO .gtr y (iv 0)) λz=>ic g z λc=>aT c 5 a h λA=>fm c (gt e 0) λB=>az c (aO .sub B (iv 1)) λC=>az c (ao 3 a A C) λD=>aT c 0 a D λE=>aT c 0 a d λF=>az c (aO .gtr E F) λG=>aC g (aD c G (bv I)) λH=>aD g (bv U) H λK=>ah K (aE R a [(bv I)]) (i [] a)) (ab 1 a d λM=>ab 5 a h λN=>aO .sub (gt e 0) (iv 1) λO=>ao 3 a N O λP=>ab 1 a P λS=>aV S (iv 1) λT=>aO .neq M T λW=>ah W (aE R a [(bv I)]) (i [] a)))
def abV a d c R e:=ab 5 a d λg=>ao 3 a g (gt c 0) λh=>aw 3 a h λi=>eV (bs 128 aP5 a 9) λb f=>sV (aK 3 f b i) (abU b d R c e)
def abY c R d e b a:=∀_:Rg,ab 5 a c λf=>aJ a f λg=>aU (gt b 0) g λh=>ah h (jV 30 (IA b d e a) (abV a c b R)) (aE R a [(bv U)])
def abX a e R(i:cG)(g:fD) b:=∀_:Rg,ab 2 a e λj=>aJ a j λk=>aU (gt b 0) k λl=>ah l (ab 2 a e λm=>ao 2 a m (gt b 0) λn=>ab 1 a n λf=>aU f (iv 0) λc=>ic c f λo=>bn c 1 a e λp=>aC c (aJ a p) λq=>aC c (aO .geq o q) λr=>aD c (bv U) r λd=>bn d 1 a e λs=>ic d f λt=>aC d (ao 2 a s t) λu=>bn d 1 a u λv=>aD d (bv U) v λw=>ah w (aE R a [(bv I)]) (aV (gt b 0) (iv 1) λh=>i [h]/\g [h]<g b)) (lV [(iv 0)] a (abY e R))
def abW c d R w(p:cG)(f:fD) b:=∀_:Rg,aJ c d λq=>aU (gt b 0) q λr=>ah r (ao 1 c d (gt b 0) λs=>aM c s λt=>fV aPd c [t] λu=>cf u λa=>ic a d λv=>ic a (gt b 0) λg=>aC a (rV (fo 1 c v J (V g) J)) λh=>ic a d λi=>ic a (gt b 0) λj=>aC a (ao 1 c i j) λk=>aC a (aM c k) λl=>aC a (fV FB c [h,l]) λm=>aC a (aO .geq m (iv 0)) λn=>aD a (bv U) n λo=>ah o (aE R c [(bv I)]) (aV (gt b 0) (iv 1) λe=>p [e]/\f [e]<f b)) (lR [(iv 0)] (abX c w R))
def abT b a R:=ab 0 a b λt4=>aJ a t4 λG=>aO .gtr G (iv 12) λh=>bn h 1 a b λj=>aC h (aJ a j) λk=>aC h (aO .gtr k (iv 4)) λl=>aD h (bv U) l λc=>bn c 2 a b λm=>aC c (aJ a m) λn=>aC c (aO .gtr n (iv 2)) λo=>aD c (bv U) o λd=>bn d 3 a b λp=>aC d (aJ a p) λq=>aC d (aO .gtr q (iv 2)) λr=>aD d (bv U) r λe=>bn e 4 a b λs=>aC e (aJ a s) λt=>aC e (aU t (iv 1)) λu=>aD e (bv U) u λf=>bn f 4 a b λv=>aC f (aJ a v) λw=>aC f (aO .gtr w (iv 4)) λx=>aD f (bv U) x λg=>bn g 5 a b λy=>aC g (aJ a y) λz=>aC g (aO .gtr z (iv 60)) λA=>aD g (bv U) A λB=>ah B (aE R a [(bv I)]) (aw 6 a b λC=>fV FD a [C] λi=>rV (eO 0 i) λD=>rV (eO 1 i) λE=>cf E λF=>ah F (aE R a [(bv I)]) (lR [(iv 0)] (abW a D R b)))
def aLj{b:List AV}{R:d7}(l0:L b=6)(h:H1 31 6 1 b λc d=>abT c d R):Ct 59 [.a b] R:=z1 atQ yP Tryz.func59 l0 h
def wJ(w:br):Bool:=Q ((12:Int)<L w.cells)||Q ((4:Int)<L w.ak)||Q ((2:Int)<L w.bC)||Q ((2:Int)<L w.bU)||Q ((L w.ay:Int)<1)||Q ((4:Int)<L w.ay)||Q ((60:Int)<L w.dU)
def yn(l:List ByteArray)(j:Nat):Bool:=!aQt (gd l j)||Q (0<=tX (l.take j) (gd l j))
def uh(w:br)(j:Nat):Bool:=Q ((gd w.bC j).eg<0)||Q ((L w.ak:Int)<=(gd w.bC j).eg)||(gd w.ak (gd w.bC j).eg.toNat).rw
def aOg(w:br)(j:Nat):Bool:=
 Q ((gd w.dU j).aq<0)||Q ((L w.ay:Int)<=(gd w.dU j).aq)||
 bif Q ((j:Int)=0)||Q ((gd w.dU (j-1)).aq≠(gd w.dU j).aq) then(Q ((gd w.dU j).stmt≠0)||(Q ((0:Int)<j)&&Q ((gd w.dU j).aq<(gd w.dU (j-1)).aq)))
 else Q ((gd w.dU j).stmt≠dq.wrap ((gd w.dU (j-1)).stmt+1))
def mQ(w:br):Bool:=
 !wJ w&&(match lY w with
  |none=>I
  |some l=>Q (∀j,j<L l->yn l j=I)&&(Q (∀j,j<L w.bC->uh w j=I)&&Q (∀j,j<L w.dU->aOg w j=I)))
def alH{l:List cA}:∀{f i:Nat} {a r:List ByteArray},jv l f i a=V r->L r<=L a+f
 |0,i,a,r,h=>by
  grind [jv]
 |f+1,i,a,r,h=>by
  simp only[jv] at h
  split at h
  ·split at h
   ·cases h
   ·have:=alH h
    grind
  simp_all
def anD{w:br}{l:List ByteArray}(h:lY w=V l):L l<=L w.cells+L w.ak+L w.bC+L w.bU+L w.ay:=by simp only[lY,Option.map_eq_some_iff] at h;obtain⟨a,b,rfl⟩:=h;have:=alH b;grind
def zM{n:Nat}{p:Nat->Bool}{k:Nat}(a:k<n)(h:p k=U):Q (∀j,j<n->p j=I)=I:=by grind
def OI(w:br):Ct 59 [.a w.c] (·=bv (mQ w)):=by refine aLj rfl λN G q X=>?_;simp+contextual only[abT,u0,u1,q,rk,ar,rT,aj,↓uL];refine⟨λh=>?_,λh=>?_⟩;grind [mQ,wJ,fh];have T:wJ w=I:=h;simp only[cP,nl] at h;refine⟨(by omega),?_⟩;rintro r ⟨t,o,rfl⟩;refine⟨.inl rfl,?_⟩;simp+contextual only[oJ,pG,u0,u1,↓uL];refine⟨λH=>?_,λH=>?_⟩;grind [lY,mQ];obtain⟨l,y⟩:∃l,lY w=V l:=(by cases W:lY w with|none=>simp_all|some l=>simp);have R:L l<1000000:=(by have:=anD y;omega);rw[y];have z:mQ w=(Q (∀j,j<L l->yn l j=I)&&(Q (∀j,j<L w.bC->uh w j=I)&&Q (∀j,j<L w.dU->aOg w j=I))):=(by grind [mQ]);simp only[mi];refine C7 (L l) (λk=>∀j,j<k->yn l j=I) (by simp) λk A m=>?_;simp+contextual only[abW,u0,u1,gT,amZ,qM,rk,ar,rT,aIl,bh,↓uL];refine⟨λb=>⟨bA b,(by omega),λ_=>bA b,λ_=>by simp;omega,λd=>?_,λd=>gS (aL b) (by omega) (aRN m d)⟩,λb=>?_⟩;rw[z,zM (aL b) d,kM];have O:∀j,j<L l->yn l j=I:=(by grind);refine C7 (L w.bC) (λk=>∀j,j<k->uh w j=I) (by simp) λk A m=>?_;simp+contextual only[abX,u0,u1,q,rk,ix,aj,bh,↓uL];refine⟨λb=>⟨bA b,λF=>?_,λd=>?_,λd=>gS (aL b) (by omega) (aRN m d)⟩,λb=>?_⟩;simp at F;exact⟨by omega,by omega⟩;rw[z,zM (aL b) d,kM,qc];have P:∀j,j<L w.bC->uh w j=I:=(by grind);refine pQ (L w.dU) [9] (λk=>∀j,j<k->aOg w j=I) (by simp) λk Y A m x=>?_;have v:box Y (1,1)=_:=x.bt q;simp+contextual only[abY,di,abV,u0,u1,v,rk,ix,aj,bh,↓uL];refine⟨λb=>⟨bA b,?_⟩,λb=>?_⟩;refine eF rfl rfl (by decide) (by rw[x.1,G];decide) λu C D=>?_;have E:box u (1,1)=_:=C.bt v;simp+contextual only[abU,↓iC,↓iB,↓iS,u0,u1,D,E,rk,ix,aj,↓uL];have S:=aL b;have M:dq.wrap ((k:Int)-1)=(k:Int)-1:=(by grind [eM]);have B:((k:Int)-1).toNat=k-1:=(by omega);rw[M,B];have e:aOg w k=U->bv I=bv (mQ w):=(by grind);have p:aOg w k=I->IA [iv k] (fI N [9] (L w.dU) λk=>∀j,j<k->aOg w j=I) (fM (L w.dU)) Y [] u:=λd=>(by simp only[IA,aI,au,cS,aY,↓uL];grind [oL,Fr.trans]);refine⟨(by grind [aOg]),λZ=>⟨λn=>?_,λn=>⟨λg=>?_,λg=>e ?_,λg=>p ?_⟩,λn=>⟨?_,λg=>e ?_,λg=>p ?_⟩⟩⟩;simp at n;exact⟨by omega,by omega⟩;simp at g;exact⟨by omega,by omega⟩;grind [aOg];grind [aOg];simp only[cP,nl] at n;exact⟨by omega,by omega⟩;grind [aOg];grind [aOg];grind
def FC:FT:=lH OI
def ayF{w Lw K}:=np FC OI w Lw K
section
variable{s:aW}{f:Bool×Bool×Bool×Bool×Bool×Bool}{K:d7}{Y:ae}{i:Int}{t o:Bool}
end
structure kB(w:am):Prop where
 ev:L w.ac<=16
 co:L w.aQ.bC<=2
 cc:∀c∈w.aQ.bC,aF (L w.aQ.ak) c.eg
 st:∀k:Nat,k<L w.ac->GV (cY w k)/\fN w.aQ (cY w k)=U
 en:∀k:Nat,k<L w.ac->vo (gd w.ac k)/\C1 w.aQ (cY w k) (gd w.ac k)=U
theorem kB.named{w:am}(h:kB w){k:Nat}(a:k<L w.ac):named w.aQ (gd w.ac k).kind (gd w.ac k).bb=U/\aF (L w.aQ.ay) (gd w.ac k).aq:=by have:=(h.en k a).2;grind [C1,eH,cP,aOL,fK,jm,dX]
def ao1:dO:=(59,FC)::ao0
def Ex:eJ ao1:=it (nH OI) (yP)
def sX:=ai @ayF<|@rT
abbrev aBH:List AV:=[(iv 0),(iv 0),(iv 0)]
abbrev aON:List AV:=[(iv 0),(iv 0),(iv 0)]
def auc:=bi 25 [(6,([3],[1])),(15,([5],[1,4]))]
def ad3 a(e:aG)(b:bu) f c:=aV (gt a 0) (iv 1) λd=>e [d] c/\b [d] c<b a f
def ad4 l h d R e f g i j k a:=cf l λb=>aC b (aw 15 a h) λm=>bn b 0 a d λn=>bn b 5 a d λo=>aC b (fV Ci a [m,n,o]) λp=>aC b (cf p) λq=>aD b (bv U) q λc=>aC c (aw 15 a h) λr=>bn c 0 a d λs=>bn c 6 a d λt=>aC c (fV Ci a [r,s,t]) λu=>aC c (cf u) λv=>aD c (bv U) v λw=>ah w (aE R a [(bv I)]) (aw 7 a e λx=>sV (aK 7 a f x) (ad3 g i j k))
def ad5 g d c R f h i j a:=aB 0 a g λl=>aw 6 a l λm=>aw 7 a d λn=>aw 7 a c λo=>fV Cd a [m,n,o] λe=>rV (eO 0 e) λp=>rV (eO 1 e) λq=>eV (bs 40 BF a 7) λb k=>sV (aK 7 k b p) (ad4 q g c R b d f h i j)
def ad6 d e R f g b a:=∀_:Rg,ab 14 a d λi=>aJ a i λj=>aU (gt b 0) j λk=>ah k (ab 14 a d λl=>ao 7 a l (gt b 0) λm=>aw 7 a m λn=>eV (bs 64 y8 a 6) λc h=>sV (aK 7 h c n) (ad5 d e c R b f g a)) (aE R a [(bv U)])
def ad7 a d R(n:cG)(g:fD) c:=∀_:Rg,aB 7 a d λo=>ab 5 a o λp=>aJ a p λq=>aU (gt c 0) q λr=>ah r (aB 7 a d λs=>aB 0 a s λt=>ab 2 a t λu=>ao 1 a u (gt c 0) λv=>aM a v λw=>cf w λb=>az b (aB 7 a d) λx=>aT b 5 a x λy=>fm b (gt c 0) λz=>az b (ao 1 a y z) λA=>az b (aM a A) λB=>az b (aO .neq B (iv 0)) λj=>aD b j (bv I) λk=>ah k (aE R a [(bv I)]) (aV (gt c 0) (iv 1) λf=>n [f]/\g [f]<g c)) (aB 7 a d λl=>aw 7 a l λm=>eV (bs 40 BF a 4) λe h=>sV (aK 7 h e m) λi=>lV [(iv 0)] i (ad6 d e R))
def ad2 b a R:=aB 0 a b λt3=>aw 6 a t3 λt4=>fV FC a [t4] λz=>cf z λc=>aC c (aB 0 a b) λA=>aC c (aw 6 a A) λh=>aC c (aB 7 a b) λi=>aC c (aw 7 a i) λj=>aC c (fV Cc a [h,j]) λk=>aC c (cf k) λl=>aD c (bv U) l λd=>bn d 14 a b λm=>aC d (aJ a m) λn=>aC d (aO .gtr n (iv 16)) λo=>aD d (bv U) o λe=>aC e (aw 15 a b) λp=>aC e (fV aUr a [p]) λq=>aC e (cf q) λr=>aD e (bv U) r λf=>aC f (aw 15 a b) λs=>aC f (fV FM a [s]) λt=>aC f (cf t) λu=>aD f (bv U) u λg=>aC g (aw 15 a b) λv=>aC g (fV FL a [v]) λw=>aC g (cf w) λx=>aD g (bv U) x λy=>ah y (aE R a [(bv I)]) (lR [(iv 0)] (ad7 a b R))
def aLF{b:List AV}{R:d7}(l0:L b=15)(h:H1 43 15 1 b λc d=>ad2 c d R):Ct 23 [.a b] R:=z1 auc Ex Tryz.func23 l0 h
def auK:=bi 60 [(4,([3,19],[1,18])),(10,([3,25],[1,4,18,19,24])),(13,([3],[1,4,18,19,24,25])),(18,([3,42],[1,41])),(25,([3,54],[1,52,53])),(28,([3],[1,52,53,54])),(33,([3,70],[1,69])),(39,([3,77],[1,9,69,70,75,76])),(46,([3,92],[1,90,91])),(49,([3],[1,90,91,92])),(54,([3,107],[1,12,90,91,92,105,106]))]
def Jf a(f:aG)(c:bu) g b d:=∀_:Rg,aV (gt a 1) (iv 1) λe=>f [(gt b 0),e] d/\c [(gt b 0),e] d<c a g
def afZ c a b(J15:aG):=aO .neq (gt c 1) (gt a 1) λf=>ah f (rV (bM aBH aM7 [(0,(iv 1)),(1,(gt c 1)),(2,(gt a 1))]) λg=>eV (aX aON 1 b [(0,g)]) λh d=>eV (j5 51 aBH 24 d 36 (gt a 0) h) λi e=>J15 [i] e) (J15 [(gt a 0)] b)
def af2 h c(j:aG)(g:bu) k e f a b:=∀_:Rg,aU (gt a 1) h λi=>ah i (jV 13 (Jf a e f b) (afZ c a b)) (aV (gt c 1) (iv 1) λd=>j [(gt a 0),d] b/\g [(gt a 0),d] b<g c k)
def afU a(f:aG)(b:bu) g d c:=aV (gt a 1) (iv 1) λe=>f [d,e] c/\b [d,e] c<b a g
def Jg a(f:aG)(c:bu) g b d:=∀_:Rg,aV (gt a 1) (iv 1) λe=>f [(gt b 0),e] d/\c [(gt b 0),e] d<c a g
def afV d a(c:aG) b:=aw 7 b d λg=>fV zk b [g] λh=>ah h (rV (bM aBH aM7 [(0,(iv 3)),(1,(gt a 1))]) λi=>eV (aX aON 1 b [(0,i)]) λj e=>eV (j5 51 aBH 24 e 65 (gt a 0) j) λk f=>c [k] f) (c [(gt a 0)] b)
def af0 b f c d:=ao 7 b f (gt c 1) λg=>aw 7 b g λh=>eV (bs 64 y8 b 8) λa e=>sV (aK 7 e a h) (afV a c d)
def afW a(f:aG)(b:bu) g d c:=aV (gt a 1) (iv 1) λe=>f [d,e] c/\b [d,e] c<b a g
def af6 l k c(f:aG)(d:bu) i g h a b:=∀_:Rg,aU (gt a 1) l λm=>ah m (ao 1 b k (gt a 1) λn=>aM b n λo=>rV (bM aBH aM7 [(0,(iv 4)),(1,(gt c 1)),(2,o)]) λp=>eV (aX aON 1 b [(0,p)]) λq j=>eV (j5 51 aBH 24 j 86 (gt a 0) q) (afW a g h b)) (aV (gt c 1) (iv 1) λe=>f [(gt a 0),e] b/\d [(gt a 0),e] b<d c i)
def Jh a(f:aG)(c:bu) g b d:=∀_:Rg,aV (gt a 1) (iv 1) λe=>f [(gt b 0),e] d/\c [(gt b 0),e] d<c a g
def afX a(f:aG)(b:bu) g d c:=aV (gt a 1) (iv 1) λe=>f [d,e] c/\b [d,e] c<b a g
def af9 g f m(n:aG) c d a b:=∀_:Rg,aU (gt a 1) g λh=>ah h (ao 1 b f (gt a 1) λi=>aM b i λj=>rV (bM aBH aM7 [(0,(iv 5)),(1,(gt m 1)),(2,j)]) λk=>eV (aX aON 1 b [(0,k)]) λl e=>eV (j5 51 aBH 24 e 116 (gt a 0) l) (afX a c d b)) (n [(gt a 0)] b)
def afY b(e:aG) c m a:=aw 7 a b λh=>fV Gd a [h] λi=>cf i λj=>ah j (e [(gt c 0)] a) (aw 15 a m λk=>ab 2 a b λl=>ab 0 a b λf=>fV Ge a [k,l,f] λd=>aJ a d λg=>lV [(gt c 0),(iv 0)] a (af9 g d c e))
def af1 b f c i d:=ao 7 b f (gt c 1) λg=>aw 7 b g λh=>eV (bs 64 y8 b 13) λa e=>sV (aK 7 e a h) (afY a d c i)
def af8 f e h R c d a b:=∀_:Rg,aU (gt a 1) f λg=>ah g (jV 49 (Jh a c d b) (af1 b e a h)) (aE R b [(gt a 0)])
def af5 h c R f g b a:=∀_:Rg,aU (gt b 1) h λi=>ah i (aw 15 a c λj=>fV zi a [j,(gt b 1)] λd=>aJ a d λk=>lV [(gt b 0),(iv 0)] a (af6 k d b f g a)) (ab 14 a c λe=>aJ a e λl=>lV [(gt b 0),(iv 0)] a (af8 l e c R))
def af4 g f c R d e a b:=∀_:Rg,aU (gt a 1) g λh=>ah h (jV 28 (Jg a d e b) (af0 b f a)) (ab 14 b c λi=>aJ b i λj=>lV [(gt a 0),(iv 0)] b (af5 j c R))
def af3 h d R e f a b:=∀_:Rg,aU (gt a 1) h λi=>ah i (rV (bM aBH aM7 [(0,(iv 2)),(1,(gt a 1))]) λj=>eV (aX aON 1 b [(0,j)]) λk g=>eV (j5 51 aBH 24 g 49 (gt a 0) k) (afU a e f b)) (ab 14 b d λc=>aJ b c λl=>lV [(gt a 0),(iv 0)] b (af4 l c d R))
def af7 j c R h i b a:=∀_:Rg,aU (gt b 1) j λk=>ah k (ab 14 a c λd=>aJ a d λe=>lV [(gt b 0),(iv 0)] a (af2 e b h i a)) (ab 14 a c λf=>aJ a f λg=>lV [(gt b 0),(iv 0)] a (af3 g c R))
def afT a b R:=ab 14 b a λt4=>aJ b t4 λc=>lV [(.l [] U U),(iv 0)] b (af7 c a R)
def aMd{b:List AV}{R:d7}(l0:L b=15)(h:H1 43 15 1 b λc d=>afT c d R):Ct 8 [.a b] R:=z1 auK Ex Tryz.func8 l0 h
structure jX(n:Nat)(s:aW):Prop where
 lo:L s.ak<=4
 dn:L s.done<=2
 th:L s.ay<=4
 rd:∀l∈s.ak,L l.bk<=4+n
theorem jX.mono{n m:Nat}{s:aW}(h:jX n s)(b:n<=m):jX m s:=⟨h.lo,h.dn,h.th,λl a=>by have:=h.rd l a;omega⟩
theorem jX.ni{n:Nat}{s:aW}(h:jX n s)(i:Int)(t:bF):jX n (ni s i t):=⟨h.lo,h.dn,by simp[Ab.ni];exact h.th,h.rd⟩
def jX.lk{n:Nat}{s:aW}(h:jX n s)(i:Int):L (cH s i).bk<=4+n:=by unfold cH gd;rw[eI];cases a:s.ak[i.toNat]? with|none=>exact mh _|some x=>exact h.rd x (by grind)
theorem jX.lC{n:Nat}{s:aW}(h:jX n s)(i:Int)(l:cg)(b:L l.bk<=4+n):jX n (lC s i l):=by refine⟨by simp[Ab.lC];exact h.lo,h.dn,h.th,λx a=>?_⟩;simp only[Ab.lC] at a;rcases CC a with a|rfl;exact h.rd x a;exact b
theorem jX.marks{n:Nat}:∀{l:List Int} {s:aW},jX n s->jX n (l.foldl (λs u=>Ab.ni s u {fA s u with cQ:=4}) s)|[],_,h=>h|u::l,s,h=>jX.marks (l:=l) (h.ni u _)
theorem aIP{a:List Int}{t:Int}:L (mP a [t])<=L a+1:=by have b:=Bh (l:=[]) (a:=a) (k:=L a) (dA _);have c:=Bh (l:=jh [] a (L a)) (a:=[t]) (k:=1) (by simp);simp only[vw] at b;show L (jh (jh [] a (L a)) [t] 1)<=_;omega
def jX.apply{n:Nat}{s:aW}(h:jX n s)(w:br)(t a bb lD:Int):jX (n+1) (cU w s t a bb lD).1:=by have b:jX (n+1) s:=h.mono (by omega);have z:∀i,L (cH s i).bk<=4+n:=λi=>h.lk i;have y:∀i,L (cH s i).bk<=4+(n+1):=(by grind);unfold cU;by_cases q:a=1;grind [jX.ni];rw[cj q];by_cases r:a=2;grind [jX.ni];rw[cj r];by_cases u:a=6\/a=10;grind [jX.lC];rw[cj u];by_cases v:a=7\/a=11;grind [jX.lC];rw[cj v];by_cases x:a=8;grind [jX.lC,aIP];rw[cj x];by_cases p:a=9;rw[bX p];refine b.lC _ _ ?_;grind [fZ,decide,cH,fJ];rw[cj p];by_cases c:a=12;rw[bX c];exact⟨b.lo,b.dn,b.th,b.rd⟩;rw[cj c];by_cases d:a=13;rw[bX d];exact⟨b.lo,b.dn,b.th,b.rd⟩;rw[cj d];by_cases e:a=14;grind [jX.ni];rw[cj e];by_cases f:a=15;grind [jX.ni];rw[cj f];by_cases g:a=16;grind [jX.ni,jX.lC];rw[cj g];by_cases j:a=17;grind [jX.ni,jX.lC];rw[cj j];by_cases k:a=18;grind [jX.ni];rw[cj k];by_cases l:a=19;grind [jX.marks];rw[cj l];by_cases m:a=20;grind [jX.ni];rw[cj m];by_cases o:a=22;rw[bX o];exact⟨b.lo,by simp;exact b.dn,b.th,b.rd⟩;simp_all
structure vH(n:Nat)(s:bW):Prop where
 sy:jX n s.bm
 ce:L s.cells<=12
 fu:L s.bU<=2
 co:L s.count<=4
 cn:∀c∈s.count,0<=c/\c<=400+n
theorem vH.snB{n:Nat}{s:bW}(h:vH n s)(b:n<90000):GV s:=⟨λl a=>by have:=h.sy.rd l a;omega,by have:=h.sy.lo;omega,by have:=h.sy.dn;omega,by have:=h.sy.th;omega,by have:=h.ce;omega,by have:=h.fu;omega,by have:=h.co;omega⟩
def vH.step{n:Nat}{w:br}{s:bW}{e:aP}(h:vH n s)(d:n<90000):vH (n+1) (nD w s e):=by unfold nD;(cases C1 w s e);exact⟨⟨by simp[tw,wM],by simp[tw,wM],by simp[tw,wM],by simp[tw,wM]⟩,by simp[tw],by simp[tw],by simp[tw],by simp[tw]⟩;refine⟨h.sy.apply _ _ _ _ _,?_,?_,?_,?_⟩;have:=h.ce;grind [oc];have:=h.fu;grind [oc];have:=h.co;grind [oc,List.length_set];intro c a;simp only[asq,oc] at a;rcases CC a with a|rfl;have:=h.cn c a;omega;have b:0<=gd s.count e.aq.toNat/\gd s.count e.aq.toNat<=400+n:=(by unfold gd;rw[eI];cases f:s.count[e.aq.toNat]? with|none=>simp;omega|some x=>exact h.cn x (by grind));grind [eM]
def yq{l:List Int}{n:Int}(h:lZ l n):∀j,j<L l->(j:Int)+1<=gd l j
 |0,a=>by have:=(h 0 a).1;omega
 |j+1,a=>by
  have b:=yq h j (by omega)
  have c:=(h (j+1) a).2.2 (by omega)
  grind
def aEw{l:List Int}{n:Int}(h:lZ l n)(d:0<=n):(L l:Int)<=n:=by rcases oD (L l) with a|a;omega;have b:=yq h (L l-1) (by omega);have c:=(h (L l-1) (by omega)).2.1;omega
def Ae(w:am)(j:Nat):Bool:=!gd w.init.bm.done j&&Q (gd w.init.bU j≠0)
def oh(w:am):Bool:=!mQ w.aQ||!fN w.aQ w.init||Q ((16:Int)<L w.ac)||!rM w||!uZ w||!ny w
def xH(w:am)(k:Nat):Bool:=!C1 w.aQ (cY w k) (gd w.ac k)||!Q (∀n∈(gd w.ac k).dI,qU w (gd w.ac k).aq n=U)||!Q (∀n∈(gd w.ac k).ep,qU w (gd w.ac k).aq n=U)
def Po(w:am):Bool:=!oh w&&(Q (∀j,j<L w.init.bU->Ae w j=I)&&Q (∀k,k<L w.ac->xH w k=I))
def hU(w:am):Prop:=L w.aQ.bC<4611686018427387904/\(∀l∈w.init.bm.ak,L l.bk<4611686018427387904)/\(∀e∈w.ac,vo e)/\L w.init.bU<4611686018427387904
def tC{w:am}(h:oh w=I):vH 0 w.init/\L w.ac<=16/\(∀c∈w.aQ.bC,aF (L w.aQ.ak) c.eg)/\L w.aQ.bC<=2/\fN w.aQ w.init=U:=by simp only[oh,cP,fK,nl] at h;obtain⟨⟨⟨⟨⟨d,a⟩,A⟩,B⟩,C⟩,f⟩:=h;have n:=d;simp only[mQ,bN,eH] at n;obtain⟨s,D⟩:=n;simp only[wJ,cP,nl] at s;have k:=a;simp only[fN,bN,mn] at k;obtain⟨p,x,y,z⟩:=iY k.1;have u:∀c∈w.init.count,0<=c/\c<=400:=(by grind [rM]);have g:∀c∈w.aQ.bC,aF (L w.aQ.ak) c.eg:=p;have v:∀l∈w.init.bm.ak,L l.bk<=4:=(by intro l r;obtain⟨j,m,rfl⟩:=ou r;simp only[ny,bN,mn] at f;have b:=(f.1 j m).2;rw[bT m] at b;have o:∀i,i<L (w.init.bm.ak[j]).bk->(i:Int)<=gd (w.init.bm.ak[j]).bk i:=(by intro i;induction i with|zero=>intro e;have:=(b 0 e).1;simp only[nO,bN] at this;have:=(dX.1 this.1).1;omega|succ i t=>intro e;have d:=t (by omega);have a:=(b (i+1) e).2 (by omega);grind);rcases oD (L (w.init.bm.ak[j]).bk) with q|q;omega;have d:=o (L (w.init.bm.ak[j]).bk-1) (by omega);have a:=(b (L (w.init.bm.ak[j]).bk-1) (by omega)).1;simp only[nO,bN] at a;have:=(dX.1 a.1).2;omega);refine⟨⟨⟨by omega,by omega,by omega,(by omega)⟩,by omega,by omega,by omega,(by simp_all)⟩,by omega,g,by omega,a⟩
theorem wK{w:am}(h:oh w=I):∀k,k<90000->vH k (cY w k)|0,_=>(tC h).1|k+1,a=>(wK h k (by omega)).step (by omega)
def aIw{w:br}{s:bW}{e:aP}(h:C1 w s e=U):lZ e.dI (gd s.count e.aq.toNat)/\lZ e.ep (gd s.count e.aq.toNat)/\aF (L s.count) e.aq/\L s.count=L w.ay:=by simp only[C1,eH,cP] at h;grind [u7,cP,fK,aOL,fN,dX]
theorem anH{l:List Int}{n:Int}(h:lZ l n)(b:0<=n)(d:n<=500):L l<1000000/\∀x∈l,-1000<=x/\x<9223372036854775808:=by refine⟨by have:=aEw h b;omega,λx c=>?_⟩;obtain⟨j,a,rfl⟩:=ou c;have e:=(h j a).1;have f:=(h j a).2.1;grind [bT]
def O8(w:am)(hp:hU w):Ct 23 [.a w.c] (·=bv (Po w)):=by refine aLF rfl λs2 hl u h0=>?_;obtain⟨p1,p2,p3,p4⟩:=hp;simp+contextual only[ad2,u0,u1,u,rk,ar,sX,aj,↓uL];have A:∀{a b:Bool},(!(a||b))=U->a=I/\b=I:=(by simp);have B:∀{a:Bool},(!a)=I->a=U:=(by simp);have aC:fN w.aQ w.init=U->L w.init.count=L w.aQ.ay/\L w.init.bm.ay=L w.aQ.ay/\L w.init.bm.ak=L w.aQ.ak/\(∀c∈w.aQ.bC,aF (L w.aQ.ak) c.eg):=(by intro h;simp only[fN,bN,mn] at h;obtain⟨f1,f2,f3,f4⟩:=iY h.1;exact⟨h.2.2.2,f4,f2,f1⟩);have aO:mQ w.aQ=U->L w.aQ.ay<=4/\L w.aQ.ak<=4:=(by grind [mQ,eH,wJ,cP,decide_eq_false_iff_not]);refine⟨λ_=>p1,λh=>?_,λh=>?_,λh=>?_,λh=>?_,λh=>?_⟩;grind;grind;grind;grind [oh,Po,fh];have S:oh w=I:=h;obtain⟨I0,aM,aG,aJ,aN⟩:=tC S;have hI:=wK S;have T:Po w=(Q (∀j,j<L w.init.bU->Ae w j=I)&&Q (∀k,k<L w.ac->xH w k=I)):=(by grind [Po,kN]);have aK:L w.init.bm.done=L w.init.bU:=(by grind [fN,iY]);refine C7 (L w.init.bU) (λk=>∀j,j<k->Ae w j=I) (by simp) λk hk E=>?_;simp+contextual only[ad7,u0,u1,u,rk,ix,aj,dc,bh,↓uL];refine⟨λm=>⟨by grind [dJ,aL],λ_=>bA m,λi=>?_,λi=>gS (aL m) p4 (aRN E i)⟩,λm=>?_⟩;rw[T,zM (aL m) i,kM];have aD:∀j,j<L w.init.bU->Ae w j=I:=(by grind);refine eF rfl rfl (by decide) (by omega) λZ G N=>?_;have c1:box Z (1,1)=_:=G.bt u;have v4:(aZ s2 4).lB=0:=(by simp_all);rw[v4] at N⊢;refine⟨λvs Y=>∃(k:Nat) (ds:List AV),vs=[iv k]/\k<=L w.ac/\(∀j,j<k->xH w j=I)/\Lk ds (cY w k).c/\box Y (4,1)=V ⟨40,7,U,U,[ds]⟩/\Fr Z Y [4,6,7],fM (L w.ac),⟨0,w.init.c,rfl,mh _,by simp,⟨rfl,rfl⟩,N,Fr.refl _ _⟩,?_⟩;rintro vs Y ⟨k,ds,rfl,hk,W,z,i,y⟩;have P:box Y (1,1)=_:=y.bt c1;have s:L Y=4096:=(by rw[y.1,G.1,hl]);have q:L ds=7:=oC z;have X:=Bi q;simp only[ad6,aI,u0,u1,P,rk,ix,aj,bh,↓uL];refine⟨λv=>⟨bA v,?_⟩,λv=>?_⟩;refine eF rfl rfl (by decide) (by omega) λH f K=>?_;have l:=aL v;have R:box H (1,1)=_:=f.bt P;have o:box H (4,1)=_:=f.bt i;simp only[ad5,u0,u1,R,o,K,X,rk,aj,↓uL];simp only[jM,kU,jt,zN,CU,z.arg,sX];obtain⟨q1,q2,q3,q4,q5,q6,q7⟩:=(hI k (by omega)).snB (by omega);obtain⟨r1,r2⟩:=p3 _ (dB l);refine⟨(by grind),?_⟩;rintro r ⟨n,rfl,e⟩;refine⟨.inl ?_,?_⟩;simp only[nA,List.any_cons,List.any_nil,x9 z];rfl;simp only[oJ,pG,aY,↓uL];refine eF rfl (oC e) (by decide) (by rw[f.1,s];decide) λt d O=>?_;have e3:box t (1,1)=_:=d.bt R;have p:box t (4,1)=_:=d.bt o;have M:box t (6,(aZ Y 6).lB+1)=_:=d.bt K;have F:=Bi (oC e);simp+contextual only[ad4,u0,u1,e3,p,M,O,F,rk,aj,ar,sX,↓uL];have C:C1 w.aQ (cY w k) (gd w.ac k)=U->(L (gd w.ac k).dI<1000000/\∀x∈(gd w.ac k).dI,-1000<=x/\x<9223372036854775808)/\(L (gd w.ac k).ep<1000000/\∀x∈(gd w.ac k).ep,-1000<=x/\x<9223372036854775808)/\aF (L w.init.count) (gd w.ac k).aq:=(by intro hs;obtain⟨n1,n2,n3,n4⟩:=aIw hs;have aE:=(hI k (by omega)).cn _ (ii n3);grind [anH]);have D:∀c∈w.init.count,0<=c/\c<=400:=λc E=>(by have:=I0.cn c E;omega);refine⟨λg=>?_,λg=>?_,λg=>?_,λg=>?_⟩;grind;grind;rw[T,zM l g,qc];refine gN (cs:=n) p (by rw[d.1,f.1,s];decide) q (oC e) λY4 F4 b4=>?_;simp only[ad3,au,cS,aY,↓uL];rw[fX (by omega)];refine⟨⟨k+1,n,rfl,l,aRN W g,e,b4,y.trans ((f.mono (by decide)).trans ((d.mono (by decide)).trans (F4.mono (by decide))))⟩,?_⟩;grind [fM,cM,bh];grind
def Cg:FT:=mT O8
def ayY{w Lw K}:=oK Cg O8 w Lw K
def aQA{w:am}(h:Po w=U):oh w=I/\∀k,k<L w.ac->C1 w.aQ (cY w k) (gd w.ac k)=U:=by grind [Po,eH,xH,cP,fK]
def Rr{w:am}(f:hU w)(h:Po w=U):kB w:=by obtain⟨e,g⟩:=aQA h;obtain⟨j,d,b,c,i⟩:=tC e;refine⟨d,c,b,λk a=>⟨(by grind [vH.snB,wK]),?_⟩,λk a=>⟨f.2.2.1 _ (dB a),g k a⟩⟩;grind [C1,eH,cP,aOL,fK]
def nB(a k:Nat):List ap:=((aH k).filter λb:Nat=>Q ((a:Int)≠(b:Int))).map λb:Nat=>⟨1,(a:Int),(b:Int)⟩
def lr(n k:Nat):List ap:=(aH k).flatMap λa=>nB a n
def mK(k:Nat):List ap:=(aH k).map λa:Nat=>⟨2,(a:Int),0⟩
def kh(l:List aP)(k:Nat):List ap:=((aH k).filter λa=>fR (gd l a)).map λa:Nat=>⟨3,(a:Int),0⟩
def ki(w:am)(k:Nat):List ap:=(aH k).flatMap λa:Nat=>(dx w a).map λb=>⟨4,(a:Int),b⟩
def pR(w:am)(a:Nat):List ap:=if pN (gd w.ac a) then(mR w (gd w.ac a).bb (gd w.ac a).aq).map λb=>⟨5,(a:Int),b⟩ else[]
def jp(w:am)(k:Nat):List ap:=(aH k).flatMap (pR w)
def cw(w:am):List ap:=lr (L w.ac) (L w.ac)++mK (L w.ac)++kh w.ac (L w.ac)++ki w (L w.ac)++jp w (L w.ac)
theorem tq{β:Type}{f:Nat->List β}{k:Nat}:(aH (k+1)).flatMap f=(aH k).flatMap f++f k:=by rw[qn,List.flatMap_append];simp
theorem an5{β:Type}{f:Nat->β}{k:Nat}:(aH (k+1)).map f=(aH k).map f++[f k]:=by rw[qn,dg];simp
theorem uP{β:Type}{p:Nat->Bool}{f:Nat->β}{k:Nat}:((aH (k+1)).filter p).map f=((aH k).filter p).map f++if p k then[f k] else[]:=by grind [qn]
theorem EC{β:Type}{P:List β}{l:List Int}{f:Int->β}{m:Nat}(h:m<L l):P++(l.take (m+1)).map f=(P++(l.take m).map f)++[f (gd l m)]:=by rw[EA h];simp
def Qu(a k:Nat):L (nB a k)<=k:=by grind [nB,bJ,gl,fZ]
def AS(n k:Nat):L (lr n k)<=k*n:=by have:=jo (f:=λa=>nB a n) (m:=n) (l:=aH k) λa _=>Qu a n;grind [lr]
def AT(k:Nat):L (mK k)=k:=by simp[mK]
theorem AU(l:List aP)(k:Nat):L (kh l k)<=k:=by grind [kh,bJ,gl,fZ]
theorem vU(w:am)(q:Int):L (dx w q)<=1+L w.ac:=by grind [qX,mr,dx,dh,fR,gd,oM]
theorem AW(w:am)(k:Nat):L (ki w k)<=k*(1+L w.ac):=by have:=jo (f:=λa:Nat=>(dx w a).map λb=>(⟨4,(a:Int),b⟩:ap)) (m:=1+L w.ac) (l:=aH k) (by grind [vU]);grind [ki]
theorem Rp(w:am)(c u:Int):L (mR w c u)<=L w.init.bm.ay+L w.ac:=by grind [qX,vf,wV,mR,iH,P8,bJ]
def Qv(w:am)(k:Nat):L (jp w k)<=k*(L w.init.bm.ay+L w.ac):=by have:=jo (f:=pR w) (m:=L w.init.bm.ay+L w.ac) (l:=aH k) (by grind [pR,Rp]);grind [jp]
def xy{x y z:Value}:bM aBH aM7 [(0, .s x),(1, .s y),(2, .s z)]=V (.a [.s x, .s y, .s z]):=rfl
def CW{x y:Value}:bM aBH aM7 [(0, .s x),(1, .s y)]=V (.a [.s x, .s y,iv 0]):=rfl
def aH5{l:List ap}:∀r∈l.map ap.c,L r=3:=by intro r a;obtain⟨x,_,rfl⟩:=List.mem_map.1 a;rfl
def rF{Y:ae}{d:Nat}{ds:List Nat}{a:AV}{l:List ap}(x:ap){K:be}(f:Gr Y ds 51 3 a (l.map ap.c))(i:d∈ds)(j:d<L Y)(k:L l<=100000)(h:∀e Y',Gr Y' ds 51 3 e ((l++[x]).map ap.c)->Fr Y Y' ds->K e Y'):eV (aX aON 1 Y [(0, .a [iv x.kind,iv x.a,iv x.b])]) λt s=>eV (j5 51 aBH 24 s d a t) K:=by rw[ua (zs:=aON) (cs:=[iv x.kind,iv x.a,iv x.b]) rfl rfl rfl (by decide) rfl (by decide)];refine fP f rfl (by decide) i j aH5 (by simp) (by grind) λe Y' g F=>h e Y' ?_ F;rw[dg];exact g
abbrev uG:List Nat:=[36,49,65,86,116]
abbrev uH:List Nat:=[36,49,65,86,116,8,13]
def PJ(w:am)(hp:kB w/\L w.init.bm.ay<=4/\fN w.aQ w.init=U):Ct 8 [.a w.c] (λr=>∃t,r= .l ((cw w).map ap.c) t U):=by refine aMd rfl λs2 hl b1 h0=>?_;obtain⟨H,be,P⟩:=hp;have aZ:=H.ev;simp+contextual only[afT,u0,u1,b1,rk,ix,aj,↓uL];have x:∀k m:Nat,k<=16->m<=100->k*m<=16*100:=λk m a b=>Nat.mul_le_mul a b;refine iu (λa i=>[a,iv i]) 1 uG uH 51 3 (L w.ac) (λk=>(lr (L w.ac) k).map ap.c) (λ_=>True) trivial (.inl ⟨rfl,rfl⟩) λk a Y s _ hG T=>?_;have c1:box Y (1,1)=_:=T.bt b1;have O:L Y=4096:=(by rw[T.1,hl]);simp only[af7,aI,u0,u1,c1,rk,ix,aj,bh,↓uL];refine⟨λh=>?_,λh=>?_⟩;have n:=aL h;have a8:=AS (L w.ac) k;have a9:=x k (L w.ac) (by omega) (by omega);refine iu (λa i=>[a,iv i]) 1 uG uH 51 3 (L w.ac) (λm=>(lr (L w.ac) k++nB k m).map ap.c) (λ_=>True) trivial (by grind [nB]) λm a2 M hm _ q d=>?_;have u:L M=4096:=(by rw[d.1,O]);have ba:=Qu k m;simp only[af2,aI,di,u0,u1,afZ,xy,↓uL];refine⟨λj=>⟨λy=>?_,λy=>?_⟩,λj=>?_⟩;refine rF ⟨1,k,m⟩ q (by decide) (by omega) (by simp;omega) λS z g3 o=>?_;simp only[Jf,aI,au,fE,cS,aY,↓uL];refine C0 (mk:=λa i=>[a,iv i]) (λ_ _=>rfl) (aL j) (by omega) trivial ?_ (d.trans (o.mono (by decide)));grind [nB,uP,cC];simp only[Jf,aI,au,fE,cS,aY,↓uL];refine C0 (mk:=λa i=>[a,iv i]) (λ_ _=>rfl) (aL j) (by omega) trivial ?_ d;grind [nB,uP];have f:m=L w.ac:=(by grind);subst f;refine C0 (mk:=λa i=>[a,iv i]) (λ_ _=>rfl) n (by omega) trivial ?_ (T.trans d);grind [lr,tq];have e:k=L w.ac:=(by grind);subst e;have aV:=AS (L w.ac) (L w.ac);have aW:=x (L w.ac) (L w.ac) (by omega) (by omega);clear h s;refine iu (λa i=>[a,iv i]) 1 uG uH 51 3 (L w.ac) (λk=>(lr (L w.ac) (L w.ac)++mK k).map ap.c) (λ_=>True) trivial (by grind [mK]) λk a1 X s _ N B=>?_;have c2:box X (1,1)=_:=B.bt c1;have W:L X=4096:=(by rw[B.1,O]);simp only[af3,aI,u0,u1,c2,rk,ix,aj,CW,↓uL];refine⟨λh=>?_,λh=>?_⟩;refine rF ⟨2,k,0⟩ N (by decide) (by omega) (by simp[AT];omega) λS z g3 o=>?_;simp only[afU,au,fE,cS,aY,↓uL];refine C0 (mk:=λa i=>[a,iv i]) (λ_ _=>rfl) (aL h) (by omega) trivial ?_ (B.trans (o.mono (by decide)));grind [mK,an5,cC];have e:k=L w.ac:=(by grind);subst e;clear h s;generalize an:lr (L w.ac) (L w.ac)++mK (L w.ac)=R at N;have aG:L R<=1700:=(by rw[<-an,P8,AT];omega);refine iu (λa i=>[a,iv i]) 1 uG uH 51 3 (L w.ac) (λk=>(R++kh w.ac k).map ap.c) (λ_=>True) trivial (by grind [kh]) λk a2 M s _ q d=>?_;have c3:box M (1,1)=_:=d.bt c2;have u:L M=4096:=(by rw[d.1,W]);simp only[af4,aI,di,af0,u0,u1,c3,rk,ix,aj,bh,↓uL];refine⟨λh=>⟨bA h,?_⟩,λh=>?_⟩;refine eF rfl rfl (by decide) (by omega) λz o b3=>?_;have a0:=AU w.ac k;simp+contextual only[afV,u0,u1,b3,rk,aj,ar,sX,CW,↓uL];refine⟨λy=>?_,λy=>?_⟩;refine rF ⟨3,k,0⟩ (q.fr o (by decide)) (by decide) (by rw[o.1,u];decide) (by simp;omega) λS A g3 F4=>?_;simp only[Jg,aI,au,fE,cS,aY,↓uL];refine C0 (mk:=λa i=>[a,iv i]) (λ_ _=>rfl) (aL h) (by omega) trivial ?_ (d.trans ((o.mono (by decide)).trans (F4.mono (by decide))));grind [kh,uP,cC];simp only[Jg,aI,au,fE,cS,aY,↓uL];refine C0 (mk:=λa i=>[a,iv i]) (λ_ _=>rfl) (aL h) (by omega) trivial ?_ (d.trans (o.mono (by decide)));rw[kh,uP,y];simpa[kh] using q.fr o (by decide);have e:k=L w.ac:=(by grind);subst e;clear h s;generalize aT:R++kh w.ac (L w.ac)=G at q;have aJ:L G<=1800:=(by grind [AU,P8]);refine iu (λa i=>[a,iv i]) 1 uG uH 51 3 (L w.ac) (λk=>(G++ki w k).map ap.c) (λ_=>True) trivial (by grind [ki]) λk S z s _ ak C=>?_;have c4:box z (1,1)=_:=C.bt c3;have E:L z=4096:=(by rw[C.1,u]);simp only[af5,aI,u0,u1,c4,rk,ix,aj,bh,ar,sX,↓uL];refine⟨λh=>?_,λh=>?_⟩;have n:=aL h;refine⟨⟨by omega,λhq=>?_⟩,λt'=>?_⟩;obtain⟨bc,_⟩:=H.named (k:=k) n;simp only[fN,bN,mn] at P;obtain⟨f1,f2,f3,f4⟩:=iY P.1;grind [oU,qP];have aX:=vU w (k:Int);have bd:=AW w k;have av:=x k (1+L w.ac) (by omega) (by omega);refine iu (λa i=>[a,iv i]) 1 uG uH 51 3 (L (dx w (k:Int))) (λm=>(G++ki w k++((dx w (k:Int)).take m).map λb=>(⟨4,(k:Int),b⟩:ap)).map ap.c) (λ_=>True) trivial (by grind) λm a4 A hm _ v g=>?_;have F:L A=4096:=(by rw[g.1,E]);simp only[af6,aI,u0,u1,tf,rk,qM,bh,xy,↓uL];refine⟨λj=>⟨bA j,?_⟩,λj=>?_⟩;have f:=aL j;refine rF ⟨4,k,gd (dx w (k:Int)) m⟩ v (by decide) (by omega) (by simp;omega) λa5 Z g5 p=>?_;simp only[afW,au,fE,cS,aY,↓uL];refine C0 (mk:=λa i=>[a,iv i]) (λ_ _=>rfl) f (by omega) trivial ?_ (g.trans (p.mono (by decide)));grind [EC];have f:m=L (dx w (k:Int)):=(by grind);subst f;refine C0 (mk:=λa i=>[a,iv i]) (λ_ _=>rfl) n (by omega) trivial ?_ (C.trans g);grind [ki,tq,cC,gV];have e:k=L w.ac:=(by grind);subst e;clear h s;generalize aU:G++ki w (L w.ac)=K at ak;have aK:L K<=3500:=(by grind [AW,P8]);have hN:cw w=K++jp w (L w.ac):=(by grind [cw]);refine iu (λa i=>[a,iv i]) 1 uG uH 51 3 (L w.ac) (λk=>(K++jp w k).map ap.c) (λ_=>True) trivial (by grind [jp]) λk a4 A s _ v g=>?_;have c5:box A (1,1)=_:=g.bt c4;have F:L A=4096:=(by rw[g.1,E]);simp only[af8,aI,di,af1,u0,u1,c5,rk,ix,aj,bh,↓uL];refine⟨λh=>⟨bA h,?_⟩,λh=>?_⟩;refine eF rfl rfl (by decide) (by omega) λZ p b5=>?_;have n:=aL h;have c6:box Z (1,1)=_:=p.bt c5;have bg:=Qv w k;have av:=x k (L w.init.bm.ay+L w.ac) (by omega) (by omega);simp+contextual only[afY,u0,u1,b5,c6,rk,aj,ar,sX,↓uL];refine⟨λy=>?_,λy=>⟨(by omega),λt'=>?_⟩⟩;simp only[Jh,aI,au,fE,cS,aY,↓uL];refine C0 (mk:=λa i=>[a,iv i]) (λ_ _=>rfl) n (by omega) trivial ?_ (g.trans (p.mono (by decide)));have:pR w k=[]:=(by grind [pR]);rw[jp,tq,this,cL];exact v.fr p (by decide);have aR:pN (gd w.ac k)=U:=(by grind);have bf:=Rp w (gd w.ac k).bb (gd w.ac k).aq;refine iu (λa i=>[a,iv i]) 1 uG uH 51 3 (L (mR w (gd w.ac k).bb (gd w.ac k).aq)) (λm=>(K++jp w k++((mR w (gd w.ac k).bb (gd w.ac k).aq).take m).map λb=>(⟨5,(k:Int),b⟩:ap)).map ap.c) (λ_=>True) trivial (by simpa using v.fr p (by decide)) λm a6 Y6 hm _ al D=>?_;have aN:L Y6=4096:=(by rw[D.1,p.1,F]);simp only[af9,aI,u0,u1,tf,rk,qM,bh,xy,↓uL];refine⟨λj=>⟨bA j,?_⟩,λj=>?_⟩;have f:=aL j;refine rF ⟨5,k,gd (mR w (gd w.ac k).bb (gd w.ac k).aq) m⟩ al (by decide) (by omega) (by simp;omega) λa7 Y7 g7 F7=>?_;simp only[afX,au,fE,cS,aY,↓uL];refine C0 (mk:=λa i=>[a,iv i]) (λ_ _=>rfl) f (by omega) trivial ?_ (D.trans (F7.mono (by decide)));grind [EC];have f:m=L (mR w (gd w.ac k).bb (gd w.ac k).aq):=(by grind);subst f;simp only[Jh,aI,au,fE,cS,aY,↓uL];refine C0 (mk:=λa i=>[a,iv i]) (λ_ _=>rfl) n (by omega) trivial ?_ (g.trans ((p.mono (by decide)).trans D));simp_all [jp,tq,cC,pR,bX,gV];have e:k=L w.ac:=(by grind);subst e;rw[hN];grind [qV]
def Cp:FT:=om PJ
def azv{w Lw K}:=qz Cp PJ w Lw K
def ao2:dO:=(23,Cg)::(8,Cp)::ao1
def wQ:eJ ao2:=it (pg O8) (it (rj PJ) (Ex))
def fsL:=ai @ayY<|ai @azv<|@sX
abbrev a73:List AV:=[(.l [] U U),(.l [] U U)]
abbrev a77:List AV:=[(bv I),(bv I)]
def avd:=bi 11 [(3,([6],[0,5]))]
def akd t1 e R s0(d:cG)(b:fD) a:=∀_:Rg,aU (gt a 0) (iv 22) λt3=>ah t3 (rV (sI 22 1 J t1 (gt a 0)) λt4=>bf e t4 λf=>ah f (aE R s0 [(bv U)]) (aV (gt a 0) (iv 1) λc=>d [c]/\b [c]<b a)) (aE R s0 [(bv I)])
def akc a s0 R:=aw 22 s0 (.q pI) λt1=>lR [(iv 0)] (akd t1 a R s0)
def aMG{a:AV}{R:d7}(h:H0 λs0=>akc a s0 R):Ct 180 [a] R:=z0 avd wQ Tryz.func180 h
def asA:=bi 2 []
def S0 a b s0 R:=aO .geq a (iv 0) λt1=>fm t1 a λt3=>fm t1 b λc=>az t1 (aU t3 c) λd=>aD t1 d (bv I) λe=>aE R s0 [e]
def aJ1{a:AV}{b:AV}{R:d7}(h:H0 λs0=>S0 a b s0 R):Ct 128 [a,b] R:=z0 asA wQ Tryz.func128 h
def asx:=bi 29 [(4,([4,5],[0])),(20,([52],[0,4,5,6,51]))]
def SD n b o c R(f:aG)(d:bu) g a:=aV (gt n 1) (gt b 0) λh=>ao 5 a o h λi=>aw 5 a i λj=>aw 5 a c λk=>rV (wl .neq 2 [(0,2),(1,0),(2,0),(3,1),(4,0)] j k) λm=>ah m (aE R a [(.l [] U U),(bv I)]) (aV (gt b 0) (iv 1) λe=>f [e] a/\d [e] a<d b g)
def SG i a d n R(m:aG) e(m1:bu) o g h c b:=∀_:Rg,aU (gt c 0) i λj=>ah j (aB 1 b a λk=>sV (aK 1 b k (gt c 0)) (SD d c n a R g h b)) (ab 2 b a λl=>aV (gt d 1) l λf=>m [e,f] b/\m1 [e,f] b<m1 d o)
def SE a R d(i:aG)(m1:bu) k j e b:=ab 2 b a λm=>bf m (iv 0) λn=>ah n (ab 1 b a λo=>aO .neq o (iv 0) λp=>ah p (aE R b [(.l [] U U),(bv I)]) (aV (gt d 1) (iv 1) λg=>i [e,g] b/\m1 [e,g] b<m1 d k)) (ab 2 b a λq=>aU q (iv 1) λf=>bn f 2 b a λr=>aC f (aO .gtr r (iv 4)) λs=>aD f (bv U) s λh=>bn h 3 b a λt=>aD h (bv U) t λc=>bn c 2 b a λu=>ic c j λv=>aC c (aJ b v) λw=>ic c (gt d 1) λx=>aC c (aO .sub w x) λy=>aC c (aO .gtr u y) λz=>aD c (bv U) z λA=>ah A (aE R b [(.l [] U U),(bv I)]) (ab 2 b a λB=>lV [(iv 0)] b (SG B a d j R i e m1 k)))
def SF a b R g m1 i h d:=ab 0 d a λe=>eV (aX C9 1 d [(0,e)]) λf c=>eV (j5 9 zz9 16 c 20 (gt b 0) f) (SE a R b g m1 i h)
def SH d R e m1 b c:=∀_:Rg,aJ c d λt3=>aU (gt b 1) t3 λt4=>ah t4 (ao 5 c d (gt b 1) λg=>aw 5 c g λh=>eV (bs 122 aN1 c 6) λa f=>sV (aK 5 f a h) (SF a b R e m1 c d)) (aE R c [(gt b 0),(bv U)])
def SC a s0 R:=lV [(.l [] U U),(iv 0)] s0 (SH a R)
def aJY{a:AV}{R:d7}(h:H0 λs0=>SC a s0 R):Ct 76 [a] R:=z0 asx wQ Tryz.func76 h
def asz:=bi 18 [(4,([3,4,10],[1,8,9])),(12,([3,4],[1,6,8,9,10]))]
def SX b f R e(j:aG)(g:bu) k a:=∀_:Rg,ab 1 b f λh=>aO .neq h (gt a 1) λi=>ah i (aE R b [(bv I)]) (aV (gt a 1) (iv 1) λc=>aV (gt e 2) (iv 1) λd=>j [(gt a 0),c,d] b/\g [(gt a 0),c,d] b<g e k)
def SY d a b(c:cG):=ab 0 d a λe=>aO .gtr e (gt b 0) λf=>ah f (ab 0 d a λg=>c [g,(iv 0)]) (c [(gt b 0),(gt b 1)])
def SW b d k R l m n a:=ab 0 a b λe=>aU e (gt d 0) λc=>bn c 0 a b λf=>bn c 4 a k λg=>aC c (aJ a g) λh=>aC c (aO .geq f h) λi=>aD c (bv U) i λj=>ah j (aE R a [(bv I)]) (jR 12 (SX a b R d l m n) (SY a b d))
def SZ i t4 f R g h c a:=∀_:Rg,aU (gt c 2) i λj=>ah j (ao 3 a t4 (gt c 2) λk=>aw 3 a k λe=>eV (bs 128 aP5 a 6) λb d=>sV (aK 3 d b e) (SW b c f R g h a)) (aE R a [(bv U)])
def SV a b R:=ab 5 b a λt4=>aJ b t4 λc=>lV [(iv 0),(iv 0),(iv 0)] b (SZ c t4 a R)
def aJ0{b:List AV}{R:d7}(l0:L b=6)(h:H1 31 6 1 b λc d=>SV c d R):Ct 79 [.a b] R:=z1 asz wQ Tryz.func79 l0 h
def atJ:=bi 2 []
def abM a b s0 R:=aO .geq a (iv 0) λt1=>fm t1 a λt3=>fm t1 b λc=>az t1 (aU t3 c) λd=>aD t1 d (bv I) λe=>aE R s0 [e]
def aLb{a:AV}{b:AV}{R:d7}(h:H0 λs0=>abM a b s0 R):Ct 129 [a,b] R:=z0 atJ wQ Tryz.func129 h
def atI:=bi 2 []
def abL b h c R:=ab 0 c b λt4=>bf t4 (iv 3) λa=>aT a 1 c b λd=>fm a h λe=>az a (bf d e) λf=>aD a f (bv I) λg=>aE R c [g]
def aLa{b:List AV}{c:AV}{R:d7}(l0:L b=3)(h:H1 105 3 2 b λd e=>abL d c e R):Ct 223 [.a b,c] R:=z1 atI wQ Tryz.func223 l0 h
def avj:=bi 13 [(4,([3,10],[1,8,9]))]
def akH v c u R h(t:cG)(i:fD) a:=∀_:Rg,aU (gt a 1) v λw=>ah w (ao 1 c u (gt a 1) λx=>aM c x λd=>aU d (iv 0) λe=>ic e d λj=>aC e (aO .gtr j (iv 400)) λk=>aD e (bv U) k λl=>ah l (aE R c [(bv I)]) (aV (gt a 0) d λf=>aV (gt a 1) (iv 1) λg=>t [f,g]/\i [f,g]<i a)) (ab 6 c h λm=>bf m (gt a 0) λb=>fm b (gt a 0) λn=>aT b 14 c h λo=>az b (aJ c o) λp=>az b (aV n p) λq=>az b (aO .leq q (iv 400)) λr=>aD b r (bv I) λs=>aE R c [s])
def JZ b a R:=aB 7 a b λt3=>ab 6 a t3 λc=>aJ a c λd=>lR [(iv 0),(iv 0)] (akH d a c R b)
def aMO{b:List AV}{R:d7}(l0:L b=15)(h:H1 43 15 1 b λc d=>JZ c d R):Ct 37 [.a b] R:=z1 avj wQ Tryz.func37 l0 h
def avp:=bi 26 [(3,([11],[1,9,10])),(6,([],[1,9,10,11]))]
def akZ c(e:aG)(d:bu) f(g:eQ) a:=∀_:Rg,aV (gt c 0) (iv 1) λb=>e [b] a/\d [b] a<d c f
def akY b j R e(k:aG) a:=ab 0 a b λA=>aU A (iv 0) λf=>bn f 0 a b λB=>aC f (aO .gtr B (iv 5)) λC=>aD f (bv U) C λd=>ic d (gt j 0) λD=>aC d (bf D (iv 0)) λE=>ic d E λg=>aT g 0 a b λF=>az g (bf F (iv 0)) λG=>aC d (aD g G (bv I)) λH=>aD d (bv U) H λK=>ah K (aE R a [(bv I)]) (ab 0 a b λM=>bf M (iv 0) λh=>bn h 0 a b λN=>aC h (bf N (iv 1)) λO=>aD h (bv U) O λP=>aB 7 a e λS=>ab 6 a S λT=>ao 1 a T (gt j 0) λW=>aM a W λX=>bf X (iv 0) λZ=>rV (wl .neq 1 [] Z P) λaa=>ah aa (aE R a [(bv I)]) (ab 0 a b λac=>aO .neq ac (iv 3) λi=>aT i 0 a b λad=>az i (aO .neq ad (iv 4)) λae=>aD i ae (bv I) λaf=>ah af (ab 1 a b λag=>aO .neq ag (iv 0) λak=>ah ak (aE R a [(bv I)]) (k [] a)) (ab 1 a b λal=>aU al (iv 0) λc=>bn c 1 a b λam=>aC c (aB 0 a e) λan=>bn c 2 a an λl=>aC c (aJ a l) λm=>aC c (aO .geq am m) λn=>aD c (bv U) n λo=>ah o (aE R a [(bv I)]) (aB 7 a e λp=>aB 0 a p λq=>ab 0 a q λr=>aB 0 a e λs=>ab 2 a s λt=>ab 1 a b λu=>ao 2 a t u λv=>ab 1 a v λw=>ao 2 a r w λx=>ab 0 a x λy=>bf y (gt j 0) λz=>ah z (aE R a [(bv I)]) (k [] a)))))
def Kd c i b R h d:=ao 3 c i (gt b 0) λf=>aw 3 c f λg=>eV (bs 105 aNB c 4) λa e=>sV (aK 3 e a g) (akY a b R h d)
def Ke h g R d e f a b:=∀_:Rg,aU (gt a 0) h λc=>ah c (jV 6 (akZ a e f b) (Kd b g a R d)) (aE R b [(bv U)])
def Kc b a R:=aB 7 a b λt3=>aB 0 a t3 λt4=>ab 3 a t4 λc=>aJ a c λd=>lV [(iv 0)] a (Ke d c R b)
def aMU{b:List AV}{R:d7}(l0:L b=15)(h:H1 43 15 1 b λc d=>Kc c d R):Ct 38 [.a b] R:=z1 avp wQ Tryz.func38 l0 h
def avm:=bi 11 [(3,([9],[1,7,8]))]
def akT p c o f R(n:cG)(e:fD) b:=∀_:Rg,aU (gt b 0) p λq=>ah q (ao 1 c o (gt b 0) λr=>aM c r λg=>cf g λa=>aT a 5 c f λh=>fm a (gt b 0) λi=>az a (ao 1 c h i) λj=>az a (aM c j) λk=>az a (aO .neq k (iv 0)) λl=>aD a l (bv I) λm=>ah m (aE R c [(bv I)]) (aV (gt b 0) (iv 1) λd=>n [d]/\e [d]<e b)) (aE R c [(bv U)])
def J0 b a R:=aB 0 a b λt3=>ab 2 a t3 λc=>aJ a c λd=>lR [(iv 0)] (akT d a c b R)
def aMR{b:List AV}{R:d7}(l0:L b=7)(h:H1 40 7 1 b λc d=>J0 c d R):Ct 40 [.a b] R:=z1 avm wQ Tryz.func40 l0 h
def au9:=bi 11 [(3,([8],[0,1,7]))]
def aj7 t1 s0 e f R(d:cG)(b:fD) a:=∀_:Rg,aU (gt a 0) t1 λt3=>ah t3 (ao 1 s0 e (gt a 0) λt4=>aM s0 t4 λg=>bf f g λh=>ah h (aE R s0 [(gt a 0)]) (aV (gt a 0) (iv 1) λc=>d [c]/\b [c]<b a)) (aE R s0 [(iv (-1))])
def JR a b s0 R:=aJ s0 a λt1=>lR [(iv 0)] (aj7 t1 s0 a b R)
def aMC{a:AV}{b:AV}{R:d7}(h:H0 λs0=>JR a b s0 R):Ct 153 [a,b] R:=z0 au9 wQ Tryz.func153 h
def atb:=bi 2 []
def YD a b R:=ab 1 b a λt4=>bf t4 (iv 3) λc=>bn c 1 b a λd=>aC c (bf d (iv 23)) λe=>aD c (bv U) e λf=>aE R b [f]
def aKC{b:List AV}{R:d7}(l0:L b=7)(h:H1 64 7 1 b λc d=>YD c d R):Ct 42 [.a b] R:=z1 atb wQ Tryz.func42 l0 h
def ata:=bi 2 []
def YC a b R:=ab 1 b a λt4=>bf t4 (iv 18) λc=>bn c 1 b a λd=>aC c (bf d (iv 19)) λe=>aD c (bv U) e λf=>aE R b [f]
def aKB{b:List AV}{R:d7}(l0:L b=7)(h:H1 64 7 1 b λc d=>YC c d R):Ct 44 [.a b] R:=z1 ata wQ Tryz.func44 l0 h
def ate:=bi 19 [(4,([7,17],[1,2,3,15,16])),(7,([7],[1,2,3,15,16,17])),(12,([7,45],[1,2,43,44])),(15,([7],[1,2,43,44,45]))]
def Ib d(f:aG)(e:bu) g a b:=∀_:Rg,aV (gt d 1) (iv 1) λc=>f [(gt a 0),c] b/\e [(gt a 0),c] b<e d g
def Zk c s d r(f:aG) a:=aO .neq (gt c 1) s λe=>aT e 0 a d λi=>az e (bf i (iv 3)) λj=>aD e j (bv I) λb=>aT b 1 a d λk=>fm b r λl=>az b (bf k l) λm=>aD b m (bv I) λn=>ah n (aO .sub (iv (-1)) (gt c 1) λo=>eV (aX bH 1 a [(0,o)]) λp g=>eV (j5 3 fB 8 g 40 (gt c 0) p) λq h=>f [q] h) (f [(gt c 0)] a)
def Zn c j b i h d:=ao 3 c j (gt b 1) λf=>aw 3 c f λg=>eV (bs 105 aNB c 9) λa e=>sV (aK 3 e a g) (Zk b i a h d)
def Ia a(f:aG)(c:bu) g b d:=∀_:Rg,aV (gt a 1) (iv 1) λe=>f [(gt b 0),e] d/\c [(gt b 0),e] d<c a g
def Zl b s r c(f:aG) a:=ab 0 a b λi=>aO .neq i s λe=>aT e 1 a b λj=>az e (bf j (iv 16)) λk=>aD e k (bv I) λd=>aT d 2 a b λl=>fm d r λm=>az d (bf l m) λn=>aD d n (bv I) λo=>ah o (eV (aX bH 1 a [(0,(gt c 1))]) λp g=>eV (j5 3 fB 8 g 68 (gt c 0) p) λq h=>f [q] h) (f [(gt c 0)] a)
def Zm b f c j i d:=ao 7 b f (gt c 1) λg=>aw 7 b g λh=>eV (bs 64 y8 b 11) λa e=>sV (aK 7 e a h) (Zl a j i c d)
def Zo f e i h R c d a b:=∀_:Rg,aU (gt a 1) f λg=>ah g (jV 15 (Ia a c d b) (Zm b e a i h)) (aE R b [(gt a 0)])
def Zp l k e d h R i j a b:=∀_:Rg,aU (gt a 1) l λf=>ah f (jV 7 (Ib a i j b) (Zn b k a e d)) (ab 14 b h λc=>aJ b c λg=>lV [(gt a 0),(iv 0)] b (Zo g c e d R))
def Zj b d e a R:=aB 7 a b λt3=>aB 0 a t3 λt4=>ab 3 a t4 λc=>aJ a c λf=>lV [(.l [] U U),(iv 0)] a (Zp f c e d b R)
def aKF{b:List AV}{c:AV}{d:AV}{R:d7}(l0:L b=15)(h:H1 43 15 3 b λe f=>Zj e c d f R):Ct 45 [.a b,c,d] R:=z1 ate wQ Tryz.func45 l0 h
def avg:=bi 5 []
def aku e b a R:=ab 1 a b λx=>bf x (iv 1) λf=>bn f 1 a b λg=>aC f (bf g (iv 2)) λh=>aD f (bv U) h λi=>ah i (ab 4 a b λj=>bf j (iv (-1)) λk=>aE R a [k]) (ab 4 a b λl=>aO .geq l (iv 0) λd=>aT d 4 a b λm=>aT d 5 a e λn=>az d (aJ a n) λo=>az d (aU m o) λp=>aD d p (bv I) λc=>aT c 5 a e λq=>aT c 4 a b λr=>az c (ao 3 a q r) λs=>aT c 0 a s λt=>aT c 0 a b λu=>az c (bf t u) λv=>aD c v (bv I) λw=>aE R a [w])
def aML{b:List AV}{c:List AV}{R:d7}(l0:L b=6)(l1:L c=7)(h:H2 31 6 2 b 64 7 3 c λd e f=>aku d e f R):Ct 132 [.a b, .a c] R:=z2 avg wQ Tryz.func132 l0 l1 h
def ald:=bi 24 [(5,([52],[4,5,8,51])),(15,([11,67],[4,5,8,51,52,65,66]))]
def akr u a t s r R g(p:cG)(h:fD)(q:cG)(i:fD) c:=∀_:Rg,aU (gt c 1) u λv=>ah v (ao 1 a t (gt c 1) λw=>aM a w λd=>aO .leq d (gt c 0) λb=>ic b d λx=>bn b 6 a s λj=>bn b 0 a r λk=>aC b (ao 1 a j k) λl=>aC b (aM a l) λm=>aC b (aO .geq x m) λn=>aD b (bv U) n λo=>ah o (aE R a [(bv I)]) (aV (gt c 1) (iv 1) λe=>q [d,e]/\i [d,e]<i c)) (aV (gt g 0) (iv 1) λf=>p [f]/\h [f]<h g)
def aks j a b R i g f h c:=∀_:Rg,aU (gt c 0) (iv 2) λk=>ah k (rV (sI 2 1 J j (gt c 0)) λe=>aJ a e λl=>aO .gtr l (iv 0) λd=>fm d (gt c 0) λm=>az d (rV (wm 2 1 a b m)) λn=>az d (aM a n) λo=>az d (cf o) λp=>aD d p (bv I) λq=>ah q (aE R a [(bv I)]) (aJ a e λr=>lR [(iv 0),(iv 0)] (akr r a e i g R c f h))) (aE R a [(bv U)])
def akq b a R d c:=ab 5 c b λe=>ab 6 c b λf=>rV (tY a73 1 [(0,e),(1,f)]) λg=>lR [(iv 0)] (aks g c a R d b)
def JY z i b c R:=ab 1 c b λA=>bf A (iv 3) λg=>bn g 1 c b λj=>aC g (bf j (iv 4)) λk=>aD g (bv U) k λd=>aT d 0 c z λl=>aT d 2 c b λm=>az d (ao 5 c l m) λn=>aT d 2 c n λo=>az d (aO .neq o (iv 0)) λp=>aD d p (bv I) λq=>ab 1 c b λr=>bf r (iv 5) λf=>ic f q λs=>aD f (bv U) s λt=>ab 1 c b λu=>bf u (iv 4) λe=>bn e 1 c b λv=>aC e (bf v (iv 22)) λw=>aD e (bv U) w λx=>rV (tY a77 1 [(0,t),(1,x)]) λy=>eV (bs 263 a77 c 8) λa h=>sV (aK 2 h a y) (akq b a R i)
def aMJ{c:List AV}{d:List AV}{e:List AV}{R:d7}(l0:L c=6)(l1:L d=7)(w:L e=7)(h:∀b:ae,L b=4096->box b (3,1)=V ⟨31,6,U,U,[c]⟩->box b (4,1)=V ⟨40,7,U,U,[d]⟩->box b (5,1)=V ⟨64,7,U,U,[e]⟩->(∀k,k≠3->k≠4->k≠5->aZ b k=mO)->JY (.p (3,1) 0 0) (.p (4,1) 0 0) (.p (5,1) 0 0) b R):Fn aS GG 133 [.a c, .a d, .a e] R:=by refine uq ready wQ Tryz.func133 (an:=ald) (by kernel_rfl) (aND (show ZF aS GG ao2 ald Tryz.f133 [.a c, .a d, .a e] R=(eV (qm 31 6 (ly Tryz.f133) 3 (.a c)) λm i=>eV (qm 40 7 i 4 (.a d)) λl j=>eV (qm 64 7 j 5 (.a e)) λf b=>JY m l f b R) by kernel_rfl) ?_);refine mY (N:=4096) rfl l0 (by decide) (by decide) uB (by rw[i8]) λi x n A g0=>?_;refine mY (N:=4096) rfl l1 (by decide) (by decide) x (by rw[g0 _ (by decide),i8]) λj y o r g1=>?_;refine mY (N:=4096) rfl w (by decide) (by decide) y (by rw[g1 _ (by decide),g0 _ (by decide),i8]) λb z q g s=>?_;exact h b z (by rw[g _ _ (by decide),r _ _ (by decide)];exact n) (by rw[g _ _ (by decide)];exact o) q (λk t u v=>by rw[s k v,g1 k u,g0 k t];exact i8 _ k)
def avh:=bi 36 [(9,([46],[2,3,13])),(16,([5,6,55],[3,53,54])),(19,([5,6],[3,53,54,55])),(28,([9,96],[3,94,95])),(31,([9],[3,94,95,96]))]
def aky b(f:aG)(c:bu) g a d:=∀_:Rg,aV (gt b 2) (iv 1) λe=>f [(gt a 0),(gt a 1),e] d/\c [(gt a 0),(gt a 1),e] d<c b g
def akw d f a(e:aG) b:=ab 0 b d λg=>bf g (iv 3) λc=>aT c 1 b d λh=>aT c 2 b f λi=>az c (bf h i) λj=>aD c j (bv I) λk=>ah k (aV (gt a 0) (iv 1) λl=>bn (gt a 1) 3 b f λm=>ic (gt a 1) (gt a 2) λn=>aC (gt a 1) (bf m n) λo=>aD (gt a 1) (bv U) o λp=>e [l,p] b) (e [(gt a 0),(gt a 1)] b)
def akB a g b e d:=ao 3 a g (gt b 2) λh=>aw 3 a h λi=>eV (bs 105 aNB a 8) λc f=>sV (aK 3 f c i) (akw c e b d)
def akE l k d R i j a b:=∀_:Rg,aU (gt a 2) l λm=>ah m (jV 19 (aky a i j b) (akB b k a d)) (ic (gt a 1) (gt a 0) λn=>aC (gt a 1) (bf n (iv 0)) λo=>ic (gt a 1) o λc=>aT c 3 b d λe=>az c (bf e (iv (-1))) λf=>aC (gt a 1) (aD c f (bv I)) λg=>aD (gt a 1) (bv U) g λh=>aE R b [h])
def akz a(f:aG)(c:bu) g b d:=∀_:Rg,aV (gt a 1) (iv 1) λe=>f [(gt b 0),e] d/\c [(gt b 0),e] d<c a g
def akx d l c(e:aG) a:=ab 0 a d λf=>bf f (iv 3) λb=>aT b 1 a d λg=>aT b 2 a l λh=>az b (bf g h) λi=>aD b i (bv I) λj=>ah j (aV (gt c 0) (iv 1) λk=>e [k] a) (e [(gt c 0)] a)
def akC a f b i d:=ao 3 a f (gt b 1) λg=>aw 3 a g λh=>eV (bs 105 aNB a 11) λc e=>sV (aK 3 e c h) (akx c i b d)
def akF g f c R d e a b:=∀_:Rg,aU (gt a 1) g λh=>ah h (jV 31 (akz a d e b) (akC b f a c)) (ab 3 b c λi=>bf i (gt a 0) λj=>aE R b [j])
def akA R a o d b k:=∀_:Rg,ah (gt k 0) (aE R a [(bv U)]) (bf o (iv 18) λl=>ah l (aB 0 a d λm=>ab 3 a m λe=>aJ a e λn=>lV [(iv 0),(bv I),(iv 0)] a (akE n e b R)) (bf o (iv 19) λf=>ah f (aB 0 a d λg=>ab 3 a g λc=>aJ a c λh=>lV [(iv 0),(iv 0)] a (akF h c b R)) (ab 3 a b λi=>bf i (iv 0) λj=>aE R a [j])))
def akD d(b:cG):=bf d (iv 4) λa=>ah a (b [a]) (bf d (iv 22) λc=>b [c])
def akv c b a R:=ab 1 a b λe=>bf e (iv 3) λw=>ah w (ab 3 a b λx=>ab 4 a c λf=>ab 2 a b λg=>ao 1 a f g λh=>aM a h λi=>bf x i λj=>aE R a [j]) (bf e (iv 23) λk=>ah k (ab 3 a b λl=>ab 5 a c λm=>ab 2 a b λn=>ao 1 a m n λo=>aM a o λp=>bf l p λq=>aE R a [q]) (bf e (iv 5) λr=>ah r (ab 3 a b λs=>bf s (iv 0) λd=>bn d 3 a b λt=>aC d (bf t (iv 1)) λu=>aD d (bv U) u λv=>aE R a [v]) (jR 9 (akA R a e c b) (akD e))))
def aMM{b:List AV}{c:List AV}{R:d7}(l0:L b=7)(l1:L c=7)(h:H2 40 7 2 b 64 7 3 c λd e f=>akv d e f R):Ct 134 [.a b, .a c] R:=z2 avh wQ Tryz.func134 l0 l1 h
structure Fx(Y Y':ae)(ks:List Id):Prop where
 len:L Y'=L Y
 keep:∀b x,b∉ks->box Y b=V x->box Y' b=V x
 lB:∀k,(aZ Y k).lB<=(aZ Y' k).lB
theorem Fx.refl(Y:ae)(ks:List Id):Fx Y Y ks:=⟨rfl,λ_ _ _ h=>h,λ_=>dA _⟩
theorem Fx.trans{Y Y' a:ae}{ks ks':List Id}(h:Fx Y Y' ks)(b:Fx Y' a ks'):Fx Y a (ks++ks'):=⟨b.len.trans h.len,(by grind [Fx.keep]),λk=>gl (h.lB k) (b.lB k)⟩
theorem Fx.mono{Y Y':ae}{ks ks':List Id}(h:Fx Y Y' ks)(a:∀b∈ks,b∈ks'\/∀x,box Y b≠V x):Fx Y Y' ks':=⟨h.len,(by grind [Fx.keep]),h.lB⟩
def Fx.kp{Y Y':ae}(h:Fx Y Y' []):Kp Y Y':=⟨h.len,h.lB,(by grind [Fx.keep])⟩
theorem Kp.fx{Y Y':ae}(h:Kp Y Y')(ks:List Id):Fx Y Y' ks:=⟨h.len,(by grind [Kp.keep]),h.lB⟩
def bK(Y:ae)(b:Id):Prop:=(aZ Y b.1).lB<b.2
theorem bK.no{Y:ae}{b:Id}(h:bK Y b)(x:bY):box Y b≠V x:=(by grind [aOm,bK])
def bK.ne{Y:ae}{b c:Id}{x:bY}(h:bK Y b)(a:box Y c=V x):c≠b:=λe=>h.no x (e▸a)
def bK.old{Y Y':ae}{b:Id}{ks:List Id}(a:Fx Y Y' ks)(h:bK Y' b):bK Y b:=rC (a.lB _) h
def wc{Y:ae}{b:Id}{x x':bY}(a:box Y b=V x):Fx Y (wr Y b x') [b]:=by refine⟨uC,(by grind [DY]),λk=>?_⟩;grind [wr,iD,lN,jQ]
def Le{Y:ae}{b:Id}{x:bY}(a:box Y b=V x):Fx Y (kill Y b) [b]:=by refine⟨yg b,(by grind [Qc]),λk=>?_⟩;grind [kill,iD,lN,jQ]
def kH{Y:ae}{d:Nat}{x:bY}(a:d<L Y):Fx Y (put Y d x) []:=(am8 a).fx []
theorem qQ(Y:ae)(d:Nat):bK Y (lA Y d):=by simp[bK,lA]
def alI{e:TypeId}{z d:Nat}{zs:List AV}{Y:ae}{K:be}(g:L zs=z)(f:0<z)(a:d<L Y)(c:∀v Y',Fx Y Y' []->bK Y (d,v)->box Y' (d,v)=V ⟨e,z,U,U,[zs]⟩->K (.p (d,v) 0 0) Y'):eV (bs e zs Y d) K:=by have b:bs e zs Y d=V (.p (lA Y d) 0 0,put Y d ⟨e,z,U,U,[zs]⟩):=(by grind [bs,y7]);rw[b];exact c _ _ (kH a) (qQ Y d) (iy a)
theorem cy{Y:ae}{b:Id}{j z y:Nat}{e:TypeId}{o:Bool}{r cs:List AV}{x:AV}{K:ae->Prop}(a:box Y b=V ⟨e,z,o,U,[r]⟩)(g:eY x=V cs)(h:L cs=y)(f:j+y<=L r)(d:∀Y',Fx Y Y' [b]->box Y' b=V ⟨e,z,o,U,[r.take j++cs++r.drop (j+y)]⟩->K Y'):sV (aK y Y (.p b 0 j) x) K:=by have c:aK y Y (.p b 0 j) x=V (wr Y b ⟨e,z,o,U,[r.take j++cs++r.drop (j+y)]⟩):=(by grind [aK,aBG,pW,qh]);rw[c];exact d _ (wc a) (lO a)
def bc(Y:ae)(e:TypeId)(z:Nat)(a:AV)(aa:List (List AV)):Prop:=(aa=[]/\a= .l [] U U)\/∃b,a= .m b (L aa)/\box Y b=V ⟨e,z,U,I,aa⟩
def aA(a:AV):List Id:=match a with| .m b _=>[b]|_=>[]
theorem bc.nil{Y:ae}{e:TypeId}{z:Nat}:bc Y e z (.l [] U U) []:= .inl ⟨rfl,rfl⟩
theorem bc.fx{Y Y':ae}{ks:List Id}{e:TypeId}{z:Nat}{a:AV}{aa:List (List AV)}(f:bc Y e z a aa)(d:Fx Y Y' ks)(g:∀b∈aA a,b∉ks):bc Y' e z a aa:=by rcases f with h|⟨b,rfl,c⟩;exact .inl h;exact .inr ⟨b,rfl,d.keep b _ (g b (by simp[aA])) c⟩
def gD{Y:ae}{e:TypeId}{z d by':Nat}{zs:List AV}{a:AV}{aa new:List (List AV)}{t o:Bool}{K:be}(m:bc Y e z a aa)(q:L zs=z)(s:0<z)(i:d<L Y)(w:∀r∈aa,L r=z)(v:∀r∈new,L r=z)(u:(L aa+L new)*(by'+1)<=1099511627776)(h:∀g Y',bc Y' e z g (aa++new)->Fx Y Y' (aA a)->(∀b∈aA g,b∈aA a\/bK Y b)->(∀b∈aA g,b∈aA a\/b.1=d)->K g Y'):eV (j5 e zs by' Y d a (.l new t o)) K:=by unfold j5;simp only[gL];by_cases k:L new=0;rw[bX k];have n:new=[]:=(by simp_all);subst n;rcases m with⟨c,j⟩|⟨b,c,f⟩;subst c j;exact h _ _ (.inl ⟨rfl,rfl⟩) (Fx.refl _ _) (by simp[aA]) (by simp[aA]);subst c;simp only[f,df];exact h _ _ (.inr ⟨b,by simp,by simpa using f⟩) (Fx.refl _ _) (by simp[aA]) (by simp[aA]);rw[cj k,bX ⟨by omega,by simp[y7,i],by simp_all⟩];rcases m with⟨c,j⟩|⟨b,c,f⟩;subst c j;simp only;rw[bX ⟨by simp,by grind [lx]⟩];refine h _ _ (.inr ⟨lA Y d,by simp,?_⟩) ((kH i).mono (by simp)) (by grind [aA,qQ]) (by simp[aA,lA]);grind [iy];subst c;simp only[f];rw[bX ⟨trivial,trivial,q.symm,dA _,by grind [lx]⟩];have p:d<L (kill Y b):=(by grind [yg]);refine h _ _ (.inr ⟨lA Y d,by simp,?_⟩) (((Le f).trans (kH p)).mono (by simp[aA])) (by grind [aA,qQ]) (by simp[aA,lA]);grind [gV,anF,iy]
def lnI{Y:ae}{e:TypeId}{z:Nat}{a:AV}{aa:List (List AV)}(f:bc Y e z a aa):fS Y a=V (iv (L aa)):=by rcases f with⟨c,d⟩|⟨b,c,g⟩;subst c d;rfl;grind [fS]
def ms{Y:ae}{e:TypeId}{z:Nat}{a:AV}{aa:List (List AV)}(c:bc Y e z a aa):eY a=V [a]:=by rcases c with⟨_,rfl⟩|⟨b,rfl,_⟩<;>rfl
def yI{α:Type}(mk:α->Int->List AV)(n:Nat)(Inv:Nat->α->ae->Prop):aG:=λvs Y=>∃(k:Nat) (s:α),vs=mk s k/\k<=n/\Inv k s Y
def jD{α:Type}{B:(aG)->(bu)->aG}(mk:α->Int->List AV)(p n:Nat)(Inv:Nat->α->ae->Prop){s0:α}{a:ae}(b:Inv 0 s0 a)(h:∀(k:Nat) s Y,k<=n->Inv k s Y->B (yI mk n Inv) (gM p n) (mk s k) Y):lV (mk s0 0) a B:=⟨yI mk n Inv,gM p n,⟨0,s0,rfl,mh _,b⟩,by rintro vs Y ⟨k,s,rfl,d,c⟩;simp_all⟩
def dR{α:Type}{mk:α->Int->List AV}{p n k:Nat}{Inv:Nat->α->ae->Prop}{s s':α}{Y Y':ae}(c:∀s i,gt (mk s i) p=iv i)(a:k<n)(b:n<4611686018427387904)(hI:Inv (k+1) s' Y'):yI mk n Inv (mk s' (dq.wrap ((k:Int)+1))) Y'/\gM p n (mk s' (dq.wrap ((k:Int)+1))) Y'<gM p n (mk s k) Y:=by rw[fX (by omega)];refine⟨⟨k+1,s',rfl,a,hI⟩,?_⟩;grind [gM]
def r7A{a b c d e f g:AV}:aN (V 7) [a,b,c,d,e,f,g]=V (.a [a,b,c,d,e,f,g]):=rfl
def so{e:TypeId}{z d n:Nat}{zs:List AV}{Y:ae}{K:be}(f:L Y=n)(b:∀v Y',Fx Y Y' []->bK Y (d,v)->box Y' (d,v)=V ⟨e,z,U,U,[zs]⟩->K (.p (d,v) 0 0) Y')(g:L zs=z:=by exact rfl)(a:0<z:=by decide)(c:d<n:=by decide):eV (bs e zs Y d) K:=alI g a (f▸c) b
def Fx.kq{Y Y':ae}{ks:List Id}(h:Fx Y Y' ks){b:Id}{x:bY}(c:box Y b=V x)(a:b∉ks:=by simp):box Y' b=V x:=h.keep b x a c
def Fx.tn{Y Y' a:ae}{b:Id}(h:Fx Y Y' [])(c:Fx Y' a [b])(d:∀x,box Y b≠V x):Fx Y a []:=(h.trans c).mono (by simp only[dW,cE];rintro e rfl;exact .inr d)
def yV{B:(aG)->(bu)->aG}(n:Nat)(Inv:Nat->Unit->ae->Prop){a:ae}(b:Inv 0 () a)(h:∀(k:Nat) s Y,k<=n->Inv k s Y->B (yI (λ_ i=>[iv i]) n Inv) (gM 0 n) [iv k] Y):lV [iv 0] a B:=jD (λ_ i=>[iv i]) 0 n Inv (s0:=()) b h
def yU{n k:Nat}{Inv:Nat->Unit->ae->Prop}{Y Y':ae}(a:k<n)(hI:Inv (k+1) () Y')(b:n<4611686018427387904:=by omega):yI (λ_ i=>[iv i]) n Inv [iv (dq.wrap ((k:Int)+1))] Y'/\gM 0 n [iv (dq.wrap ((k:Int)+1))] Y'<gM 0 n [iv k] Y:=dR (mk:=λ_ i=>[iv i]) (s:=()) (s':=()) (λ_ _=>rfl) a b hI

def ck{a b:AV}{l:List AV}:gt (a::b::l) 1=b:=rfl
def nr{a b c:AV}{l:List AV}:gt (a::b::c::l) 2=c:=rfl
abbrev sB:Nat:=8
structure cm(Y:ae)(b:Id)(w:am)(ns:List ap)(out:List (List Int))(n a:AV):Prop where
 bx:box Y b=V ⟨0,17,U,U,[w.c++[n,a]]⟩
 nm:∃t o,n= .l (ns.map ap.c) t o
 gr:bc Y 35 1 a (out.map λc=>[sl ci c])
 le:L Y=4096
 sb:b.1=sB
 sa:∀k∈aA a,k.1=11
def cm.ne{Y:ae}{b:Id}{w:am}{ns:List ap}{out:List (List Int)}{n a:AV}(B:cm Y b w ns out n a):b∉aA a:=by rcases B.gr with⟨_,rfl⟩|⟨c,rfl,h⟩;simp[aA];simp only[aA,cE];intro e;subst e;have:=B.bx;simp_all
theorem cm.fx{Y Y':ae}{b:Id}{w:am}{ns:List ap}{out:List (List Int)}{n a:AV}{ks:List Id}(B:cm Y b w ns out n a)(c:Fx Y Y' ks)(e:b∉ks)(f:∀k∈aA a,k∉ks):cm Y' b w ns out n a:=⟨c.keep _ _ e B.bx,B.nm,B.gr.fx c f,c.len.trans B.le,B.sb,B.sa⟩
def cm.kp{Y Y':ae}{b:Id}{w:am}{ns:List ap}{out:List (List Int)}{n a:AV}(B:cm Y b w ns out n a)(c:Fx Y Y' []):cm Y' b w ns out n a:=B.fx c (by simp) (by simp)
def aS2{fn:Nat}{xs:List AV}{Y:ae}{d:Nat}{K:be}{v:Value}(i:uQ.elem fn=U)(h:∃r c,(r= .s v/\Fx Y c [])/\cZ aS GG fn xs Y r c)(g:K (.s v) Y):cB fn xs Y d K:=by obtain⟨r,c,⟨rfl,e⟩,f⟩:=h;refine⟨_,c,f,e.len,?_⟩;rw[bX (show GG.rd fn=U from i)];exact⟨e.kp,rfl,g⟩
structure Ad(Y Y1:ae)(b:Id)(a a1:AV):Prop where
 fx:Fx Y Y1 (b::aA a)
 id:∀k∈aA a1,k∈aA a\/bK Y k
theorem Ad.refl(Y:ae)(b:Id)(a:AV):Ad Y Y b a a:=⟨Fx.refl _ _,λk c=> .inl c⟩
theorem Ad.trans{Y e f:ae}{b:Id}{a g i:AV}(h:Ad Y e b a g)(j:Ad e f b g i):Ad Y f b a i:=by refine⟨(h.fx.trans j.fx).mono ?_,λk l=>?_⟩;grind [Ad.id,bK.no];rcases j.id k l with c|c;exact h.id k c;exact .inr (c.old h.fx)
theorem Ad.keep{Y e:ae}{b:Id}{a f:AV}(h:Ad Y e b a f){c:Id}{x:bY}(j:box Y c=V x)(g:c≠b)(i:c∉aA a):box e c=V x:=h.fx.keep c x (by simp[g,i]) j
def cm.nv{Y:ae}{b:Id}{w:am}{ns:List ap}{out:List (List Int)}{n a:AV}(B:cm Y b w ns out n a){c:Id}{x:bY}(f:box Y c=V x)(g:x.var=U\/x.elem≠35):c∉aA a:=by rcases B.gr with⟨_,rfl⟩|⟨e,rfl,h⟩;simp[aA];grind [aA,cE]
section
variable{Y:ae}{b:Id}{w:am}{ns:List ap}{out:List (List Int)}{n a:AV}{d:Nat}{K:be}
def a5Y{x:Int}:aX bH 1 Y [(0,iv x)]=V (.l ([x].map ci) U U,Y):=iz
def fi{x y:Int}:aX bH 2 Y [(0,iv x),(1,iv y)]=V (.l ([x,y].map ci) U U,Y):=by simp[aX,gp,eY,nrm,gK,eR,gi,eB,iR,kills,kC,eN,er,bH];rfl
def xA{x y z:Int}:aX bH 3 Y [(0,iv x),(1,iv y),(2,iv z)]=V (.l ([x,y,z].map ci) U U,Y):=by simp[aX,gp,eY,nrm,gK,eR,gi,eB,iR,kills,kC,eN,er,bH];rfl
end
def aEn{x:Int}:cR .neg (iv x)=V (iv (dq.wrap (-x))):=by simp[cR]
structure bp where
 aq:Int
 dD:Int
 dY:Int
 read:Bool
 deriving Inhabited,DecidableEq
def bp.c(x:bp):List AV:=[iv x.aq,iv x.dD,iv x.dY,bv x.read]
theorem wL{Y:ae}{b:Id}{e:TypeId}{z i j:Nat}{aa:List (List AV)}{r:List AV}{v:Value}{K:ae->Prop}(c:box Y b=V ⟨e,z,U,I,aa⟩)(h:aa[i]?=V r)(k:j<L r)(g:∀Y',Fx Y Y' [b]->box Y' b=V ⟨e,z,U,I,aa.set i (r.set j (.s v))⟩->K Y'):sV (aK 1 Y (.p b i j) (.s v)) K:=by have f:aK 1 Y (.p b i j) (.s v)=V (wr Y b ⟨e,z,U,I,aa.set i (r.set j (.s v))⟩):=(by simp only[aK,aBG,c,eE,aNV,eB,iR,kills,aRl,pW,eR,gi,nrm,gK,eY,h,bZ,vw];grind [eN,GP]);rw[f];exact g _ (wc c) (lO c)
def ixI{Y:ae}{e:TypeId}{z:Nat}{a:AV}{aa:List (List AV)}{K:d7}{i:Int}(h:bc Y e z a aa)(c:aF (L aa) i)(j:∀b,a= .m b (L aa)->box Y b=V ⟨e,z,U,I,aa⟩->K (.p b i.toNat 0)):rV (cz z Y a (iv i)) K:=by rcases h with⟨rfl,rfl⟩|⟨b,rfl,f⟩;have:=c.1;have:=c.2;grind;have g:i.toNat<L aa:=(by have:=c.1;have:=c.2;omega);simp only[cz,c.1,vm,f,qd,g,vg];exact j b rfl f
def AI{α:Type}{B:(aG)->(bu)->aG}(mk:α->Int->List AV)(p n c:Nat)(f:c<=n)(Inv:Nat->α->ae->Prop){s0:α}{e:ae}(g:Inv c s0 e)(h:∀(k:Nat) s Y,k<=n->Inv k s Y->B (yI mk n Inv) (gM p n) (mk s k) Y):lV (mk s0 c) e B:=⟨yI mk n Inv,gM p n,⟨c,s0,rfl,f,g⟩,by rintro vs Y ⟨k,s,rfl,j,i⟩;simp_all⟩
section
variable{Y:ae}{b:Id}{w:am}{ns:List ap}{out:List (List Int)}{n a:AV}{d:Nat}{K:be}
def fF{l:List Int}:∀r∈l.map ci,L r=1:=by simp
end
def gA(Y:ae)(e:TypeId)(z:Nat)(a:AV)(aa:List (List AV)):Prop:=(∃o,a= .l aa U o)\/∃b,a= .m b (L aa)/\box Y b=V ⟨e,z,U,I,aa⟩
theorem gA.fx{Y Y':ae}{ks:List Id}{e:TypeId}{z:Nat}{a:AV}{aa:List (List AV)}(g:gA Y e z a aa)(f:Fx Y Y' ks)(i:∀b∈aA a,b∉ks):gA Y' e z a aa:=by rcases g with h|⟨b,rfl,c⟩;exact .inl h;exact .inr ⟨b,rfl,f.keep b _ (i b (by simp[aA])) c⟩
section
variable{Y:ae}{b:Id}{w:am}{ns:List ap}{out:List (List Int)}{n a:AV}{d:Nat}{K:be}
end
def aC4{Y:ae}:kb (V 22) Y (.q pI)=V (.a pI):=by kernel_rfl
def avT{k:Nat}(h:k<22):sI 22 1 J (.a pI) (iv k)=V (st (gd ik k)):=by have b:pI[k]?=V (st (gd ik k)):=(by have c:k<L ik:=h;grind [bT,eC]);grind [sI,yy]
def PP(s:ByteArray):Ct 180 [st s] (·=bv (rZ s)):=by refine aMG λs0 _ e=>?_;simp only[akc,aC4,aY,↓uL];refine C7 22 (λk=>∀j,j<k->gd ik j≠s) (by simp) λk g b=>?_;simp+contextual only[akd,aI,u0,u1,au,↓uL];refine⟨λh=>?_,λh=>?_⟩;have a:k<22:=(by grind);rw[avT a];simp+contextual only[u0,u1,↓uL];refine⟨λf=>?_,(by grind [gS])⟩;have:rZ s=U:=(by rw[rZ,tL];exact⟨gd ik k,dB (l:=ik) a,by simp_all⟩);rw[this];have a:k=22:=(by grind);have:rZ s=I:=(by rw[rZ,Gy];intro x d;have:=(px (l:=ik) (p:=λx=>x≠s)).1 (λj c=>b j (by rw[a];exact c)) x d;simp_all);rw[this]
def Gg:FT:=lH PP
def azB{s Lw K}:=np Gg PP s Lw K
def NM(i n:Int):Ct 128 [iv i,iv n] (·=bv (dh i n)):=by refine aJ1 λs0 b a=>?_;simp+contextual only[S0,u0,u1,dh,↓uL]
def EZ:FT:=lI NM
def axZ{i n Lw K}:=nq EZ NM i n Lw K
def OA(i n:Int):Ct 129 [iv i,iv n] (·=bv (dh i n)):=by refine aLb λs0 b a=>?_;simp+contextual only[abM,u0,u1,dh,↓uL]
def ry:FT:=lI OA
def ayx{i n Lw K}:=nq ry OA i n Lw K
def Oz(t:bF)(c:Int):Ct 223 [.a t.c,iv c] (·=bv (Q (t.cQ=3)&&Q (t.cond=c))):=by refine aLa rfl λs0 e b d=>?_;simp+contextual only[abL,u0,u1,b,rk,aj,↓uL]
def BV:FT:=lI Oz
def ayw{t c Lw K}:=nq BV Oz t c Lw K
def NS(e:aP):Ct 42 [.a e.c] (·=bv (fR e)):=by refine aKC rfl λs0 f b d=>?_;simp+contextual only[YD,u0,u1,b,rk,aj,fR,↓uL]
def zc:FT:=lH NS
def ax5{e Lw K}:=np zc NS e Lw K
def NQ(e:aP):Ct 44 [.a e.c] (·=bv (pN e)):=by refine aKB rfl λs0 f b d=>?_;simp+contextual only[YC,u0,u1,b,rk,aj,pN,↓uL]
def aTR:FT:=lH NQ
def ax4{e Lw K}:=np aTR NQ e Lw K
def PU(w:br)(e:aP):Ct 132 [.a w.c, .a e.c] (·=bv (!tA w e)):=by refine aML rfl rfl λs0 i b d g=>?_;simp+contextual only[aku,u0,u1,b,d,rk,ix,aj,tA,asq,aOl,↓uL];refine⟨λh=>?_,λh=>⟨λf=>dX.1 f,?_⟩⟩;simp;simp[dh,BI]
def Gl:FT:=lI PU
def azG{w e Lw K}:=nq Gl PU w e Lw K
def oW(l:List Int)(n:Int):Int:=match l.findIdx? (λx=>Q (x=n)) with|some i=>i|none=> -1
theorem anR{l:List Int}{n:Int}{k:Nat}(b:k<L l)(h:∀j,j<k->gd l j≠n)(a:gd l k=n):oW l n=k:=by have:l.findIdx? (λx=>Q (x=n))=V k:=(by grind [RL,bT]);rw[oW,this]
theorem anS{l:List Int}{n:Int}(h:∀j,j<L l->gd l j≠n):oW l n= -1:=by have:l.findIdx? (λx=>Q (x=n))=J:=(by rw[GB];intro x a;have:=(px (p:=λx=>x≠n)).1 h x a;simp_all);rw[oW,this]
def PO(l:List Int)(n:Int)(e:L l<4611686018427387904):Ct 153 [sl ci l,iv n] (·=iv (oW l n)):=by refine aMC λs0 _ a=>?_;simp only[JR,aI,cT,aY,↓uL];refine C7 (L l) (λk=>∀j,j<k->gd l j≠n) (by simp) λk d c=>?_;simp+contextual only[aj7,JR,u0,u1,ix,rk,bh,au,aI,↓uL];refine⟨λh=>⟨bA h,λb=>?_,(by grind [gS,aL])⟩,λh=>?_⟩;grind [anR,aL];grind [anS,C3,bw]
def Cq:FT:=gz PO
def azA{l n Lw K}:=gX Cq PO l n Lw K
def PX(w:am)(q:L w.ac<1000000/\L w.init.count<1000000):Ct 37 [.a w.c] (·=bv (rM w)):=by refine aMO rfl λu o d n=>?_;simp only[JZ,u0,u1,d,rk,aj,dc,cT,↓uL];refine yh (λs:Int×Nat=>[iv s.1,iv s.2]) 1 (L w.init.count) (λs=>s.2<=L w.init.count/\s.1=nE w.init.count s.2/\∀j,j<s.2->0<=gd w.init.count j/\gd w.init.count j<=400) (0,0) (by grind [nE]) ?_;rintro⟨g,i⟩ ⟨e,k,b⟩;simp only at e k b;simp+contextual only[akH,JZ,u0,u1,ix,rk,d,aj,dc,bh,au,ck,aI,↓uL];have m:=aoN b e;have t:i<L w.init.count->(Q (gd w.init.count i<0)||Q (400<gd w.init.count i))=U->rM w=I:=(by grind [dB,rM]);refine⟨λh=>⟨bA h,(by simp_all),λf=>?_⟩,λh=>?_⟩;have:=aL h;simp only[cP,nl,aqC] at f;refine wN (enc:=λs:Int×Nat=>[iv s.1,iv s.2]) (s:=(g,i)) (s':=(g+gd w.init.count i,i+1)) (i:=i) ?_ rfl rfl (aL h) ⟨aL h,?_,jf b f⟩;grind [fX,eM];grind [Ra,aL];have l:i=L w.init.count:=(by grind);have r:nE w.init.count i=w.init.count.sum:=(by rw[l,nE,gV]);have p:∀c∈w.init.count,0<=c/\c<=400:=px.1 (by simp_all);grind [eM,rM,decide_eq_true]
def aUv:FT:=mT PX
def azJ{w Lw K}:=oK aUv PX w Lw K
def aXJ(s:bW)(h:(∀j,j<L s.bU->L s.bm.done=L s.bU/\(gd s.bm.done j=I->gd s.bU j=0))/\L s.bU=L s.bm.done/\L s.bU<1000000):Ct 40 [.a s.c] (·=bv U):=by refine aMR rfl λs0 g b d=>?_;simp+contextual only[J0,u0,u1,b,rk,ix,aj,dc,cT,↓uL];refine C7 (L s.bm.done) (λk=>True) trivial λk f e=>?_;simp+contextual only[akT,J0,u0,u1,b,ix,rk,bh,au,aI,aj,dc,↓uL];grind [dJ,aL,gS,eH,absurd]
def Gs:FT:=mT aXJ
def azM{s Lw K}:=oK Gs aXJ s Lw K
def Qb(w:am)(t:uZ w=U/\(∀j,j<L w.init.bm.ay->pX w j=U)/\L w.init.count=L w.init.bm.ay/\L w.init.bm.ay<1000000/\L w.init.bm.ak=L w.aQ.ak/\(∀c∈w.aQ.bC,aF (L w.aQ.ak) c.eg)):Ct 38 [.a w.c] (·=bv U):=by obtain⟨p1,v,A,B,C,D⟩:=t;refine aMU rfl λs0 s g x=>?_;simp+contextual only[Kc,u0,u1,g,rk,ix,aj,dc,cT,↓uL];refine pQ (L w.init.bm.ay) [4] (λk=>True) trivial λk Y z y l=>?_;have i:box Y (1,1)=_:=l.bt g;simp+contextual only[Ke,di,Kd,u0,u1,i,ix,rk,bh,au,aI,aj,dc,↓uL];refine⟨λh=>⟨bA h,?_⟩,λh=>trivial⟩;refine eF rfl rfl (by decide) (by rw[l.1,s];decide) λd o p=>?_;have q:box d (1,1)=_:=o.bt i;have u:fI s0 [4] (L w.init.bm.ay) (λ_=>True) [iv (dq.wrap ((k:Int)+1))] d/\fM (L w.init.bm.ay) [iv (dq.wrap ((k:Int)+1))] d<fM (L w.init.bm.ay) [iv k] Y:=(by grind [oL,aL,Fr.trans]);have e:=nt p1 k (aL h);have f:=v k (aL h);simp only[aOK,Eu,zX,bN,eH] at e;simp only[pX,bN,eH] at f;simp+contextual only[akZ,akY,Kd,Ke,Kc,↓iC,↓iB,↓iS,u0,u1,q,p,ix,rk,bh,au,aI,aj,dc,↓uL];simp only[cP] at e f;obtain⟨⟨⟨⟨E,F⟩,G⟩,H⟩,K,M⟩:=e;obtain⟨_,N⟩:=f;refine⟨λr=>?_,λr=>⟨by grind [dJ,aL],λm=>?_,λm=>⟨λn=>⟨λb=>?_,λ_=>u⟩,λn=>⟨λb=>?_,λb=>?_⟩⟩⟩⟩;grind;simp_all;simp_all;grind [decide,gd,dh];grind [decide,gd,aF,dX,ii]
def Gu:FT:=mT Qb
def azO{w Lw K}:=oK Gu Qb w Lw K
def brb{x y:Bool}:tY [bv I,bv I] 1 [(0,bv x),(1,bv y)]=V (.a [bv x,bv y]):=rfl
def brl{x y:List Int}:tY [.l [] U U, .l [] U U] 1 [(0,sl ci x),(1,sl ci y)]=V (.a [sl ci x,sl ci y]):=rfl
def ax2{a b:List Int}{k:Nat}(h:k<2):sI 2 1 J (.a [sl ci a,sl ci b]) (iv k)=V (sl ci (if k=0 then a else b)):=by match k,h with|0,_=>rfl|1,_=>rfl
def ia2{Y:ae}{b:Id}{x:bY}{k:Nat}(a:box Y b=V x)(h:k<2):wm 2 1 Y (.p b 0 0) (iv k)=V (.p b 0 k):=by grind [wm]
def ld2{x y:Bool}{k:Nat}(h:k<2):aN J ([bv x,bv y].drop k)=V (bv (if k=0 then x else y)):=by match k,h with|0,_=>rfl|1,_=>rfl
def PS(w:br)(s:bW)(e:aP)(A:yM w e=I/\yN e=I/\lZ e.dI (gd s.count e.aq.toNat)/\lZ e.ep (gd s.count e.aq.toNat)/\aF (L s.count) e.aq/\(e.kind=3\/e.kind=4->aF (L w.cells) e.bb)/\vo e):Ct 133 [.a w.c, .a s.c, .a e.c] (·=bv U):=by obtain⟨p1,O,P,R,B,S,u⟩:=A;refine aMJ rfl rfl rfl λs0 N n o p D=>?_;simp+contextual only[JY,u0,u1,n,o,p,rk,ix,aj,dc,cT,brb,↓uL];refine⟨(by simp_all),?_⟩;refine eF rfl rfl (by decide) (by omega) λY F g=>?_;have v:box Y (3,1)=_:=F.bt n;have q:box Y (4,1)=_:=F.bt o;have r:box Y (5,1)=_:=F.bt p;simp+contextual only[akq,u0,u1,v,q,r,g,rk,ix,aj,dc,cT,brl,↓uL];refine C7 2 (λ_=>True) trivial λk M _=>?_;simp+contextual only[aks,aI,au,u0,u1,uR,↓uL];refine⟨λh=>?_,λh=>trivial⟩;have j:k<2:=(by grind);rw[ax2 j];have x:lZ (if k=0 then e.dI else e.ep) (gd s.count e.aq.toNat):=(by grind);have z:L (if k=0 then e.dI else e.ep)<4611686018427387904:=(by split;exact u.1;exact u.2);have K:∀a b:Bool,a=(Q (e.kind=5)||(Q (e.kind=3)||Q (e.kind=4))&&Q ((gd w.cells e.bb.toNat).size≠0))->b=(Q (e.kind=4)||Q (e.kind=22))->(Q ((0:Int)<L (if k=0 then e.dI else e.ep))&&!(if k=0 then a else b))=I:=(by grind [yM,yN]);generalize(if k=0 then e.dI else e.ep)=l at*;simp+contextual only[u0,u1,cT,ia2 g j,g,aj,ld2 j,↓uL];refine⟨λt=>?_,λ_=>?_⟩;grind;refine yh (λa:Int×Nat=>[iv a.1,iv a.2]) 1 (L l) (λa=>a.2<=L l/\a.1=if a.2=0 then 0 else gd l (a.2-1)) (0,0) ⟨by simp,by simp⟩ ?_;rintro⟨C,i⟩ ⟨y,f⟩;simp only at y f;subst f;simp+contextual only[akr,aI,au,ck,u0,u1,ix,rk,q,r,aj,bh,↓uL];refine⟨λd=>⟨bA d,λ_=>B,λt=>?_,λ_=>?_⟩,(by grind [gS])⟩;have m:=x i (aL d);exfalso;simp only[fH,mn] at t;have E:=m.2.2;have G:=m.1;have H:=m.2.1;omega;refine wN (enc:=λa:Int×Nat=>[iv a.1,iv a.2]) (i:=i) (s:=(_,i)) (s':=(gd l i,i+1)) ?_ rfl rfl (aL d) ⟨aL d,by simp⟩;grind [fX,aL]
def Gj:FT:=qe PS
def azE{w s e Lw K}:=sT Gj PS w s e Lw K
def PV(s:bW)(e:aP)(A:aO8 s e=U/\L s.bm.ay<1000000/\(e.kind=3->aF (L s.cells) e.bb)/\(e.kind=23->aF (L s.bU) e.bb)):Ct 134 [.a s.c, .a e.c] (·=bv U):=by obtain⟨p1,H,K,M⟩:=A;refine aMM rfl rfl λs0 t x j E=>?_;simp only[akv,↓uL];simp+contextual only[f8,akD,akA,au,aI,↓iC,↓iB,↓iS,u0,u1,x,j,rk,ix,aj,dc,cT,oe,vg,o8,↓uL];have D:∀v:aG,True:=λ_=>trivial;refine⟨λh=>⟨(by simp_all),?_⟩,λF=>⟨λh=>⟨(by simp_all),?_⟩,λC=>⟨λh=>?_,λG=>⟨λy=>⟨trivial,λh=>nomatch h⟩,λy=>⟨trivial,λB=>⟨λo=>?_,λo=>⟨λq=>?_,λq=>?_⟩⟩⟩⟩⟩⟩⟩;grind [aO8];grind [aO8];grind [aO8];have u:(bif Q ((L (fO s.bm e.bb):Int)=0) then Q (e.value= -1) else Q (0<=e.value)&&(Q (e.value<L s.bm.ay)&&Q (e.value∈fO s.bm e.bb)))=U:=(by grind [aO8]);refine jD (α:=Int×Bool) (λa i=>[iv a.1,bv a.2,iv i]) 2 (L s.bm.ay) (λk a Y'=>a=((L (eh s.bm e.bb k):Int),Q (e.value∈eh s.bm e.bb k))/\Fr s0 Y' [8]) (s0:=(0,I)) ⟨by simp[eh],Fr.refl _ _⟩ ?_;rintro k _ Y z ⟨rfl,b⟩;have f:box Y (3,1)=_:=b.bt j;have w:=wU s.bm e.bb k;simp+contextual only[akE,di,akB,u0,u1,f,ix,rk,bh,au,ck,nr,aI,aj,dc,↓uL];refine⟨λh=>⟨bA h,?_⟩,λh=>?_⟩;refine eF rfl rfl (by decide) (by rw[b.1,t];decide) λg d l=>?_;have m:box g (3,1)=_:=d.bt f;simp+contextual only[akw,u0,u1,m,l,rk,aj,dc,au,ck,nr,aky,aI,↓uL];refine⟨λn=>?_,λn=>?_⟩;refine dR (mk:=λa i=>[iv a.1,bv a.2,iv i]) (p:=2) (s:=((L (eh s.bm e.bb k):Int),Q (e.value∈eh s.bm e.bb k))) (s':=(dq.wrap ((L (eh s.bm e.bb k):Int)+1),(Q (e.value∈eh s.bm e.bb k)||Q (e.value=(k:Int))))) (λ_ _=>rfl) (aL h) (by omega) ?_;refine⟨?_,b.trans d⟩;grind [pe,vc,fX];refine dR (mk:=λa i=>[iv a.1,bv a.2,iv i]) (p:=2) (s:=((L (eh s.bm e.bb k):Int),Q (e.value∈eh s.bm e.bb k))) (s':=((L (eh s.bm e.bb k):Int),Q (e.value∈eh s.bm e.bb k))) (λ_ _=>rfl) (aL h) (by omega) ?_;refine⟨?_,b.trans d⟩;grind [pe,vc];have r:k=L s.bm.ay:=(by grind);subst r;change(bif Q ((L (eh s.bm e.bb (L s.bm.ay)):Int)=0) then Q (e.value= -1) else Q (0<=e.value)&&(Q (e.value<L s.bm.ay)&&Q (e.value∈eh s.bm e.bb (L s.bm.ay))))=U at u;grind;have u:e.value=L (fO s.bm e.bb):=(by grind [aO8]);refine jD (α:=Int) (λa i=>[iv a,iv i]) 1 (L s.bm.ay) (λk a Y'=>a=(L (eh s.bm e.bb k):Int)/\Fr s0 Y' [11]) (s0:=0) ⟨by simp[eh],Fr.refl _ _⟩ ?_;rintro k _ Y z ⟨rfl,b⟩;have f:box Y (3,1)=_:=b.bt j;have w:=wU s.bm e.bb k;simp+contextual only[akF,di,akC,u0,u1,f,ix,rk,bh,au,ck,nr,aI,aj,dc,↓uL];refine⟨λh=>⟨bA h,?_⟩,λh=>?_⟩;refine eF rfl rfl (by decide) (by rw[b.1,t];decide) λg d l=>?_;have m:box g (3,1)=_:=d.bt f;simp+contextual only[akx,u0,u1,m,l,rk,aj,dc,au,ck,nr,akz,aI,↓uL];refine⟨λn=>?_,λn=>?_⟩;refine dR (mk:=λa i=>[iv a,iv i]) (s:=_) (s':=dq.wrap ((L (eh s.bm e.bb k):Int)+1)) (λ_ _=>rfl) (aL h) (by omega) ?_;refine⟨?_,b.trans d⟩;grind [pe,vc,fX];refine dR (mk:=λa i=>[iv a,iv i]) (s:=_) (s':=(L (eh s.bm e.bb k):Int)) (λ_ _=>rfl) (aL h) (by omega) ?_;refine⟨?_,b.trans d⟩;grind [pe,vc];grind [Nat.le_antisymm,bw,fO];grind [aO8]
def Gm:FT:=gz PV
def azH{s e Lw K}:=gX Gm PV s e Lw K
def NU(w:am)(c u:Int)(O:L w.ac<100000/\L w.init.bm.ay<100000):Ct 45 [.a w.c,iv c,iv u] (λr=>∃t,r= .l ((mR w c u).map ci) t U):=by refine aKF rfl λP D s M=>?_;simp+contextual only[Zj,u0,u1,s,ix,rk,aj,dc,↓uL];refine iu (λa i=>[a,iv i]) 1 [40,68] [40,68,9] 3 1 (L w.init.bm.ay) (λk=>(iH w c u k).map ci) (λ_=>True) trivial (.inl ⟨rfl,rfl⟩) λk a Y N _ C m=>?_;have B:box Y (3,1)=_:=m.bt s;have o:L Y=4096:=(by rw[m.1,D]);have K:=qX (vf w c u) k;simp only[Zp,aI,di,u0,u1,Zn,ix,rk,bh,B,aj,↓uL];refine⟨λh=>⟨bA h,?_⟩,λh=>?_⟩;refine eF rfl rfl (by decide) (by omega) λy b p=>?_;simp+contextual only[Zk,u0,u1,p,rk,aj,iz,↓uL];have H:=aL h;rw[eM (x:= -1-(k:Int)) (by omega) (by omega)];refine⟨λd=>?_,λd=>?_⟩;refine fP (C.fr b (by decide)) rfl (by decide) (by decide) (by rw[b.1,o];decide) pU (by simp) (by grind [iH,bJ,P8,bZ,vw]) λA z v f=>?_;simp only[Ib,aI,au,fE,cS,aY,↓uL];refine C0 (mk:=λa i=>[a,iv i]) (λ_ _=>rfl) (aL h) (by omega) trivial ?_ (m.trans ((b.mono (by decide)).trans (f.mono (by decide))));grind [vf,iH,yK];simp only[Ib,aI,au,fE,cS,aY,↓uL];refine C0 (mk:=λa i=>[a,iv i]) (λ_ _=>rfl) (aL h) (by omega) trivial ?_ (m.trans (b.mono (by decide)));have F:vf w c u k=I:=d;have e:iH w c u (k+1)=iH w c u k:=(by grind [iH,yK]);grind [Gr.fr];have j:k=L w.init.bm.ay:=(by grind);subst j;refine iu (λa i=>[a,iv i]) 1 [40,68] [40,68,11] 3 1 (L w.ac) (λk=>(iH w c u (L w.init.bm.ay)++fw (wV w c u) k).map ci) (λ_=>True) trivial (by grind [fw]) λk a Y' G _ n g=>?_;have q:L Y'=4096:=(by rw[g.1,o]);have E:=qX (wV w c u) k;simp only[Zo,aI,di,u0,u1,Zm,ix,rk,bh,↓uL];refine⟨λh=>⟨bA h,?_⟩,λh=>?_⟩;refine eF rfl rfl (by decide) (by omega) λy b p=>?_;simp+contextual only[Zl,u0,u1,p,rk,aj,iz,↓uL];refine⟨λd=>?_,λd=>?_⟩;refine fP (n.fr b (by decide)) rfl (by decide) (by decide) (by rw[b.1,q];decide) pU (by simp) (by grind [iH,bJ,P8,bZ,vw]) λA z v f=>?_;simp only[Ia,aI,au,fE,cS,aY,↓uL];refine C0 (mk:=λa i=>[a,iv i]) (λ_ _=>rfl) (aL h) (by omega) trivial ?_ (g.trans ((b.mono (by decide)).trans (f.mono (by decide))));rw[Bo d];exact v;simp only[Ia,aI,au,fE,cS,aY,↓uL];refine C0 (mk:=λa i=>[a,iv i]) (λ_ _=>rfl) (aL h) (by omega) trivial ?_ (g.trans (b.mono (by decide)));rw[yJ d];grind [Gr.fr];have j:k=L w.ac:=(by grind);subst j;exact qV n λt=>⟨t,rfl⟩
def aTS:FT:=vn NU
def ax7{w c u Lw K}:=zZ aTS NU w c u Lw K
def zV(l:List cA):List ByteArray:=(jv l (L l) 0 []).getD []
def aEq{x y:cA}:wl .neq 2 [(0,2),(1,0),(2,0),(3,1),(4,0)] (.a x.c) (.a y.c)=V (bv (Q (x≠y))):=by obtain⟨a,b,c,d,e⟩:=x;obtain⟨f,g,h,i,j⟩:=y;have p:(a.toList==f.toList)=Q (a=f):=(by have:=alq (a:=a) (b:=f);grind [wl,zP]);by_cases k:a=f<;>by_cases l:b=g<;>by_cases m:c=h<;>by_cases n:d=i<;>by_cases o:e=j<;>simp[wl,cA.c,nW,sS,p,k,l,m,n,o]
def NI(l:List cA)(hp:(jv l (L l) 0 []).isSome=U/\L l<=12):Ct 76 [sl cA.c l] (λr=>∃t o,r= .t [.l ((zV l).map cs) t o,bv U]):=by refine aJY λz hl h0=>?_;obtain⟨w,F⟩:=Option.isSome_iff_exists.1 hp.1;have Z:zV l=w:=(by rw[zV,F];rfl);rw[Z];have aw:=hp.2;simp only[SC,↓uL];refine⟨λvs Y=>∃(i f:Nat) (a:AV) (b:List ByteArray),vs=[a,iv i]/\i<=L l/\L b<=i/\L l-i<=f/\jv l f i b=V w/\Gr Y [20] 9 1 a (b.map cs)/\Fr z Y [20,6],gM 1 (L l),⟨0,L l,_,[],rfl,by omega,by simp,by omega,F,Gr.nil,Fr.refl _ _⟩,?_⟩;rintro vs Y ⟨i,f,a,b,rfl,hi,al,hf,g,M,X⟩;have E:L Y=4096:=(by rw[X.1,hl]);simp only[SH,aI,u0,u1,rk,aj,ix,bh,au,ck,cT,↓uL];refine⟨λh=>⟨bA h,?_⟩,λh=>?_⟩;refine eF rfl rfl (by decide) (by omega) λY2 y R=>?_;simp+contextual only[SF,u0,u1,R,rk,aj,iz,au,↓uL];refine fP (M.fr y (by decide)) rfl (by decide) (by decide) (by rw[y.1,E];decide) (by simp) (by simp) (by grind) λq p g3 G=>?_;have S:box p (6,(aZ Y 6).lB+1)=_:=G.bt R;simp+contextual only[SE,↓iC,↓iB,↓iS,u0,u1,S,rk,aj,au,ck,cT,↓uL];have ab:=aL h;obtain⟨f,rfl⟩:∃f',f=f'+1:=⟨f-1,by omega⟩;rw[jv,bX ab] at g;have next:∀j Y',kW l i=V j->i<j->j<=L l->Gr Y' [20] 9 1 q ((b++[(gd l i).name]).map cs)->Fr z Y' [20,6]->(∃(i f:Nat) (a:AV) (b:List ByteArray),[q,iv (j:Int)]=[a,iv i]/\i<=L l/\L b<=i/\L l-i<=f/\jv l f i b=V w/\Gr Y' [20] 9 1 a (b.map cs)/\Fr z Y' [20,6])/\gM 1 (L l) [q,iv (j:Int)] Y'<gM 1 (L l) [a,iv i] Y:=(by intro j Y' u ar hj G' F';rw[u] at g;refine⟨⟨j,f,q,b++[(gd l i).name],rfl,hj,by simp;omega,by omega,g,G',F'⟩,?_⟩;grind [gM,fE,au,bh]);have B:Gr p [20] 9 1 q ((b++[(gd l i).name]).map cs):=(by simp_all);have A:Fr z p [20,6]:=X.trans ((y.mono (by decide)).trans (G.mono (by decide)));rw[fX (by omega),eM (x:=(L l:Int)-i) (by omega) (by omega)];have av:kW l i≠J:=(by grind);refine⟨λu=>⟨λhx=>?_,λhx=>next (i+1) p ?_ (by omega) (by omega) B A⟩,λu=>⟨λN=>?_,λN=>?_⟩⟩;grind [absurd,kW];grind [decide_eq_false_iff_not,kW];exfalso;simp only[nl] at u;have ad:¬((gd l i).size<1\/4<(gd l i).size\/(L l:Int)-i<(gd l i).size):=(by grind [kW]);have n:∀k,k<(gd l i).size.toNat->sM (gd l i) (gd l (i+k)) k=U:=(by grind [kW]);have aq:=n 0 (by omega);grind [sM,eH,cP];simp only[nl] at u;simp only[cP,nl] at N;obtain⟨⟨⟨q1,q2⟩,q3⟩,q4⟩:=N;have ad:¬((gd l i).size<1\/4<(gd l i).size\/(L l:Int)-i<(gd l i).size):=(by omega);have n:∀k,k<(gd l i).size.toNat->sM (gd l i) (gd l (i+k)) k=U:=(by grind [kW]);have aa:kW l i=V (i+(gd l i).size.toNat):=(by grind [kW]);refine yV (gd l i).size.toNat (λk _ Y'=>(∃m,box Y' (6,(aZ Y 6).lB+1)=V ⟨122,5,U,U,[cA.c {gd l i with index:=m}]⟩)/\Fr p Y' [6]) ⟨⟨(gd l i).index,S⟩,Fr.refl _ _⟩ ?_;rintro k _ P hk ⟨⟨m,T⟩,H⟩;have ao:L P=4096:=(by rw[H.1,G.1,y.1,E]);simp only[SG,aI,u0,u1,T,rk,aj,au,ck,↓uL];refine⟨λK=>?_,λK=>?_⟩;simp only[mn] at K;have D:k<(gd l i).size.toNat:=(by omega);refine Ev T (by omega) rfl (by simp[cA.c]) λY5 F5 b5=>?_;have W:box Y5 (6,(aZ Y 6).lB+1)=V ⟨122,5,U,U,[cA.c {gd l i with index:=k}]⟩:=b5;simp only[SD,au,ck,u0,u1,↓uL];rw[show dq.wrap ((i:Int)+k)=((i+k:Nat):Int) by grind [eM]];simp only[ix,u0,u1,bh,rk,W,aEq,↓uL];refine⟨dJ (by omega),λC=>?_,λC=>?_⟩;exfalso;have:=n k D;simp only[sM,eH,cP,nl,aNS,aN2] at this;obtain⟨⟨⟨⟨w1,w2⟩,w3⟩,w4⟩,w5⟩:=this;refine nt C ?_;generalize gd l (i+k)=x at*;obtain⟨x1,x2,x3,x4,x5⟩:=x;grind;exact yU D (by grind [Fr.trans]);simp only[nl] at K;have e:dq.wrap ((i:Int)+(gd l i).size)=((i+(gd l i).size.toNat:Nat):Int):=(by grind [eM]);rw[e];exact next _ P aa (by omega) (by omega) (B.fr H (by decide)) (A.trans (H.mono (by decide)));have O:w=b:=(by have:=bw h;cases f<;>simp[jv,aYE.2 this] at g<;>exact g.symm);subst O;obtain⟨x,o,e⟩:=sU M;have s:jS Y [a,bv U]= .t [.l (w.map cs) x o,bv U]:=(by show AV.t [iZ Y a,bv U]=_;have:iZ Y a=dQ Y a:=(by rcases M with⟨_,rfl⟩|⟨d,v,rfl,_⟩<;>rfl);rw[this,e]);refine⟨?_,x,o,s⟩;rw[s];rfl
def EW:FT:=om NI
def axW{l Lw K}:=qz EW NI l Lw K
def NK(w:br)(C:(∀j,j<L w.dU->aOg w j=I)/\L w.dU<=60):Ct 79 [.a w.c] (·=bv U):=by refine aJ0 rfl λs0 B g N=>?_;simp+contextual only[SV,u0,u1,g,rk,ix,aj,dc,cT,↓uL];refine jD (α:=Int×Int) (λa i=>[iv a.1,iv a.2,iv i]) 2 (L w.dU) (λk a Y'=>(a=if k=0 then(0,0) else((gd w.dU (k-1)).aq,(gd w.dU (k-1)).stmt+1))/\(0<=a.2/\a.2<=k)/\Fr s0 Y' [6]) (s0:=(0,0)) (by grind [Fr.refl]) ?_;rintro k ⟨b,f⟩ Y P ⟨O,o,n⟩;have l:box Y (1,1)=_:=n.bt g;simp+contextual only[SZ,u0,u1,l,ix,rk,bh,au,ck,nr,aI,aj,dc,↓uL];refine⟨λh=>⟨bA h,?_⟩,λh=>trivial⟩;refine eF rfl rfl (by decide) (by rw[n.1,B];decide) λe u v=>?_;have z:box e (1,1)=_:=u.bt l;have r:=C.1 k (aL h);simp only[aOg,cP] at r;obtain⟨⟨E,F⟩,R⟩:=r;simp only[nl] at E F;have q:=aL h;simp only at o;have t:¬((gd w.dU k).aq<b)/\(b<(gd w.dU k).aq->(gd w.dU k).stmt=0)/\(¬b<(gd w.dU k).aq->(gd w.dU k).stmt=f):=(by grind [eM]);obtain⟨H,K,M⟩:=t;have G:∀x y:Int,x=(gd w.dU k).aq->y=(gd w.dU k).stmt->0<=y->y<=k->yI (λ(a:Int×Int) i=>[iv a.1,iv a.2,iv i]) (L w.dU) (λk a Y'=>(a=if k=0 then(0,0) else((gd w.dU (k-1)).aq,(gd w.dU (k-1)).stmt+1))/\(0<=a.2/\a.2<=k)/\Fr s0 Y' [6]) [iv x,iv (dq.wrap (y+1)),iv (dq.wrap ((k:Int)+1))] e/\gM 2 (L w.dU) [iv x,iv (dq.wrap (y+1)),iv (dq.wrap ((k:Int)+1))] e<gM 2 (L w.dU) [iv b,iv f,iv k] Y:=(by rintro x y rfl rfl m d;have D:dq.wrap ((gd w.dU k).stmt+1)=(gd w.dU k).stmt+1:=(by grind [eM]);rw[D];refine dR (mk:=λ(a:Int×Int) i=>[iv a.1,iv a.2,iv i]) (p:=2) (s:=(b,f)) (s':=((gd w.dU k).aq,(gd w.dU k).stmt+1)) (λ_ _=>rfl) q (by omega) ?_;grind [Fr.trans]);simp+contextual only[SW,f8,SY,SX,u0,u1,z,v,rk,aj,dc,au,ck,nr,aI,cT,↓uL];refine⟨λA=>?_,λA=>⟨λm=>⟨λd=>?_,λd=>?_⟩,λm=>⟨λd=>?_,λd=>?_⟩⟩⟩;grind;simp_all;grind;simp_all;grind
def EY:FT:=mT NK
def axY{w Lw K}:=oK EY NK w Lw K
def api:dO:=(180,Gg)::(128,EZ)::(129,ry)::(223,BV)::(42,zc)::(44,aTR)::(132,Gl)::(153,Cq)::(37,aUv)::(40,Gs)::(38,Gu)::(133,Gj)::(134,Gm)::(45,aTS)::(76,EW)::(79,EY)::ao2
def sf:eJ api:=it (nH PP) (it (nI NM) (it (nI OA) (it (nI Oz) (it (nH NS) (it (nH NQ) (it (nI PU) (it (aCb PO) (it (pg PX) (it (pg aXJ) (it (pg Qb) (it (tE PS) (it (aCb PV) (it (By NU) (it (rj NI) (it (pg NK) (wQ))))))))))))))))
def aQS:=ai @azB<|ai @axZ<|ai @ayx<|ai @ayw<|ai @ax5<|ai @ax4<|ai @azG<|ai @azA<|ai @azJ<|ai @azM<|ai @azO<|ai @azE<|ai @azH<|ai @ax7<|ai @axW<|ai @axY<|@fsL
abbrev aPp:List AV:=[(sv []),(iv 0)]
def ave:=bi 14 [(6,([],[18]))]
def JV(l:aG)(f:bu) k m R g b:=rV (eO 0 g) λn=>ah n (rV (eO 1 g) λo=>rV (eO 2 g) λa=>aO .leq (.s (.int .i32 97)) a λh=>fm h a λp=>az h (aO .leq p (.s (.int .i32 122))) λq=>aD h q (bv I) λc=>ic c a λr=>aC c (aO .leq (.s (.int .i32 65)) r) λt=>ic c t λi=>fm i a λu=>az i (aO .leq u (.s (.int .i32 90))) λv=>aC c (aD i v (bv I)) λw=>aD c (bv U) w λx=>ah x (l [] b/\f [] b<f k m) (aO .gtr o (iv 0) λd=>fm d a λy=>az d (bf y (.s (.int .i32 95))) λz=>fm d z λe=>ic e a λA=>aC e (aO .leq (.s (.int .i32 48)) A) λB=>ic e B λj=>fm j a λC=>az j (aO .leq C (.s (.int .i32 57))) λD=>aC e (aD j D (bv I)) λE=>az d (aD e (bv U) E) λF=>aD d F (bv I) λG=>ah G (l [] b/\f [] b<f k m) (aE R b [(bv I)]))) (aE R b [(bv U)])
def akf e R c d b a:=∀_:Rg,eV (se a e) (JV c d b a R)
def ake b s0 R:=rV (lsA b) λt1=>aU t1 (iv 1) λc=>ic c b λt4=>aC c (rV (lsA t4)) λj=>aC c (aO .gtr j (iv 12)) λe=>aD c (bv U) e λa=>ic a b λf=>aC a (fV Gg s0 [f]) λg=>aD a (bv U) g λh=>ah h (aE R s0 [(bv I)]) (eV (tu s0 18 b) λi d=>lV [] d (akf i R))
def aMH{a:AV}{R:d7}(h:H0 λs0=>ake a s0 R):Ct 127 [a] R:=z0 ave sf Tryz.func127 h
def asw:=bi 2 []
def aYG c d l a R:=ab 1 a c λt4=>aJ a t4 λm=>fV EZ a [d,m] λb=>aT b 1 a c λe=>fm b d λf=>az b (ao 2 a e f) λg=>aT b 1 a g λh=>fm b l λi=>az b (rV (wl .eql 1 [] h i)) λj=>aD b j (bv I) λk=>aE R a [k]
def aJX{b:List AV}{c:AV}{d:AV}{R:d7}(l0:L b=6)(h:H1 31 6 3 b λe f=>aYG e c d f R):Ct 78 [.a b,c,d] R:=z1 asw sf Tryz.func78 l0 h
def atC:=bi 14 [(6,([35],[2,33,34]))]
def aa8 e m R b(f:aG)(c:bu) g a:=ab 1 a e λh=>ab 1 a m λi=>aJ a i λj=>fV ry a [h,j] λk=>cf k λl=>ah l (aE R a [(bv I)]) (aV (gt b 0) (iv 1) λd=>f [d] a/\c [d] a<c b g)
def Ip h g l R d e b a:=∀_:Rg,aU (gt b 0) h λi=>ah i (ao 2 a g (gt b 0) λj=>aw 2 a j λk=>eV (bs 126 aPp a 6) λc f=>sV (aK 2 f c k) (aa8 c l R b d e a)) (aE R a [(bv U)])
def Io d e a R:=ab 0 a e λt=>aJ a t λu=>ab 1 a d λv=>aJ a v λg=>aO .neq u g λb=>bn b 2 a e λh=>aC b (aJ a h) λi=>bn b 3 a d λj=>aC b (aJ a j) λk=>aC b (aO .neq i k) λl=>aD b (bv U) l λc=>bn c 3 a e λm=>aC c (aJ a m) λn=>bn c 4 a d λo=>aC c (aJ a o) λp=>aC c (aO .neq n p) λq=>aD c (bv U) q λr=>ah r (aE R a [(bv I)]) (ab 2 a d λf=>aJ a f λs=>lV [(iv 0)] a (Ip s f d R))
def aK4{b:List AV}{c:List AV}{R:d7}(l0:L b=6)(l1:L c=4)(h:H2 31 6 2 b 36 4 3 c λd e f=>Io d e f R):Ct 80 [.a b, .a c] R:=z2 atC sf Tryz.func80 l0 l1 h
def atD:=bi 34 [(3,([8],[2,3,7])),(11,([18],[2,3,7])),(14,([26],[2,3,7])),(17,([43],[2,3,7])),(22,([61],[2,3,7])),(27,([71],[2,3,7])),(30,([79],[2,3]))]
def abg a f g R b:=∀_:Rg,ah (gt b 0) (ab 3 a f λc=>aJ a c λd=>fV ry a [g,d] λe=>aE R a [e]) (aE R a [(bv I)])
def abn c(a:cG):=bf c (iv 22) λb=>ah b (a [b]) (bf c (iv 23) λd=>a [d])
def abe a b d R h c:=∀_:Rg,ah (gt c 0) (ab 4 a b λe=>aJ a e λf=>fV ry a [d,f] λg=>aE R a [g]) (jR 30 (abg a b d R) (abn h))
def abl c(a:cG):=bf c (iv 20) λb=>ah b (a [b]) (bf c (iv 21) λd=>a [d])
def abd a b e R d c:=∀_:Rg,ah (gt c 0) (ab 2 a b λf=>aJ a f λg=>fV ry a [e,g] λh=>aE R a [h]) (jR 27 (abe a b e R d) (abl d))
def abk b(a:cG):=bf b (iv 16) λc=>ah c (a [c]) (bf b (iv 17) λd=>ah d (a [d]) (bf b (iv 18) λe=>ah e (a [e]) (bf b (iv 19) λf=>a [f])))
def abc a c d R f e:=∀_:Rg,ah (gt e 0) (ab 1 a c λg=>aJ a g λh=>fV ry a [d,h] λb=>aT b 1 a c λi=>fm b d λj=>az b (ao 2 a i j) λk=>aT b 1 a k λl=>aD b l (bv I) λm=>aE R a [m]) (jR 22 (abd a c d R f) (abk f))
def abj b(a:cG):=bf b (iv 8) λc=>ah c (a [c]) (bf b (iv 9) λd=>ah d (a [d]) (bf b (iv 10) λe=>ah e (a [e]) (bf b (iv 11) λf=>a [f])))
def abb b c d R f e:=∀_:Rg,ah (gt e 0) (ab 1 b c λg=>aJ b g λh=>fV ry b [d,h] λa=>aT a 1 b c λi=>fm a d λj=>az a (ao 2 b i j) λk=>aT a 1 b k λl=>az a (cf l) λm=>aD a m (bv I) λn=>aE R b [n]) (jR 17 (abc b c d R f) (abj f))
def abi c(a:cG):=bf c (iv 6) λb=>ah b (a [b]) (bf c (iv 7) λd=>a [d])
def aba a b d R c e:=∀_:Rg,ah (gt e 0) (ab 0 a b λf=>aJ a f λg=>fV ry a [d,g] λh=>aE R a [h]) (jR 14 (abb a b d R c) (abi c))
def abh c(b:cG):=bf c (iv 3) λa=>ah a (b [a]) (bf c (iv 4) λd=>b [d])
def abf b R c e a d:=∀_:Rg,ah (gt d 0) (bf b (iv (-1)) λt4=>aE R c [t4]) (jR 11 (aba c e b R a) (abh a))
def abm b(a:cG):=bf b (iv 1) λc=>ah c (a [c]) (bf b (iv 2) λd=>ah d (a [d]) (bf b (iv 5) λe=>ah e (a [e]) (bf b (iv 12) λf=>ah f (a [f]) (bf b (iv 13) λg=>ah g (a [g]) (bf b (iv 14) λh=>ah h (a [h]) (bf b (iv 15) λi=>a [i]))))))
def aa9 b a c d R:=jR 3 (abf c R d b a) (abm a)
def aK5{b:List AV}{c:AV}{d:AV}{R:d7}(l0:L b=6)(h:H1 31 6 3 b λe f=>aa9 e c d f R):Ct 181 [.a b,c,d] R:=z1 atD sf Tryz.func181 l0 h
def au6:=bi 2 []
def aj1 a b s0 R:=fV Cq s0 [a,b] λt1=>aO .geq t1 (iv 0) λc=>aE R s0 [c]
def aMz{a:AV}{b:AV}{R:d7}(h:H0 λs0=>aj1 a b s0 R):Ct 217 [a,b] R:=z0 au6 sf Tryz.func217 h
def avo:=bi 2 []
def aV0 b c s0 R:=aO .geq b (iv 0) λt1=>fm t1 b λt3=>az t1 (aB 7 s0 c) λn=>aT t1 6 s0 n λd=>az t1 (aJ s0 d) λe=>az t1 (aU t3 e) λf=>aD t1 f (bv I) λa=>az a (aB 7 s0 c) λg=>aT a 6 s0 g λh=>fm a b λi=>az a (ao 1 s0 h i) λj=>az a (aM s0 j) λk=>az a (aO .geq k (iv 1)) λl=>aD a l (bv I) λm=>fe R s0 [m]
def aJT{a b:AV}{s0:ae}{R:be}(h:aV0 a b s0 R):EB 81 [a,b] s0 R:=zB avo sf Tryz.func81 h
def aMT{a:AV}{b:AV}{s0:ae}{R:be}(c:L s0=4096)(h:aV0 a b s0 R):EB 81 [a,b] s0 R:=by refine aJT ?_;exact h
def atz:=bi 26 [(7,([6,7],[1,2,5])),(17,([6,69],[1,5,7,67,68])),(20,([6],[1,5,7,67,68,69]))]
def CO a(f:aG)(c:bu) g b d:=∀_:Rg,aV (gt a 1) (iv 1) λe=>f [(gt b 0),e] d/\c [(gt b 0),e] d<c a g
def aaI c i d(h:aG) b B a:=ab 1 a c λl=>aO .neq l (gt i 1) λe=>bn e 2 a c λm=>bn e 2 a d λn=>aC e (aO .neq m n) λo=>aD e (bv U) o λf=>bn f 3 a c λp=>bn f 3 a d λq=>aC f (aO .neq p q) λr=>aD f (bv U) r λs=>ah s (h [(gt b 0)] a) (ab 0 a c λt=>ab 0 a d λu=>aO .neq t u λg=>ic g (gt b 1) λv=>ic g B λw=>aC g (aU v w) λx=>aD g (bv U) x λy=>ah y (eV (aX bH 1 a [(0,(gt b 1))]) λz j=>eV (j5 3 fB 8 j 105 (gt b 0) z) λA k=>h [A] k) (h [(gt b 0)] a))
def aaL a h c e d k f:=ao 7 a h (gt c 1) λi=>aw 7 a i λj=>eV (bs 64 y8 a 9) λb g=>sV (aK 7 g b j) (aaI b e d f c k)
def aaN h g d c j R e f a b:=∀_:Rg,aU (gt a 1) h λi=>ah i (jV 20 (CO a e f b) (aaL b g a d c j)) (aE R b [(gt a 0)])
def aaK f d g R b a:=∀_:Rg,ab 14 a f λc=>aJ a c λe=>lV [(gt b 0),(iv 0)] a (aaN e c b d g R)
def aaM a c e R(d:aG):=ab 1 a c λf=>bf f (iv 3) λK=>ah K (aB 7 a e λM=>ab 4 a M λN=>ab 2 a c λk=>ao 1 a N k λm=>aM a m λn=>ab 3 a c λo=>bf n o λp=>ah p (eV (aX bH 1 a [(0,(iv (-1)))]) λq g=>eV (j5 3 fB 8 g 40 (.l [] U U) q) λr h=>d [r,(iv 4)] h) (d [(.l [] U U),(iv 4)] a)) (bf f (iv 23) λs=>ah s (aB 7 a e λt=>aB 0 a t λu=>ab 2 a u λv=>ab 2 a c λw=>ao 1 a v w λx=>aM a x λb=>az b (aB 7 a e) λy=>aT b 5 a y λz=>aT b 2 a c λA=>az b (ao 1 a z A) λB=>az b (aM a B) λC=>aT b 3 a c λD=>az b (bf C D) λE=>aD b E (bv I) λF=>ah F (eV (aX bH 1 a [(0,(iv (-1)))]) λG i=>eV (j5 3 fB 8 i 65 (.l [] U U) G) λH j=>d [H,(iv 22)] j) (d [(.l [] U U),(iv 22)] a)) (aE R a [(.l [] U U)]))
def aaJ b a d R c:=jV 7 (aaK b a d R) (aaM c a b R)
def aaH c d a R:=aU d (iv 0) λt3=>ic t3 d λn=>bn t3 14 a c λf=>aC t3 (aJ a f) λg=>aC t3 (aO .geq n g) λh=>aD t3 (bv U) h λi=>ah i (aE R a [(.l [] U U)]) (ab 14 a c λj=>ao 7 a j d λk=>aw 7 a k λm=>eV (bs 64 y8 a 5) λb e=>sV (aK 7 e b m) (aaJ c b d R))
def aK0{b:List AV}{c:AV}{R:d7}(l0:L b=15)(h:H1 43 15 2 b λd e=>aaH d c e R):Ct 83 [.a b,c] R:=z1 atz sf Tryz.func83 l0 h
end Go.Ab
