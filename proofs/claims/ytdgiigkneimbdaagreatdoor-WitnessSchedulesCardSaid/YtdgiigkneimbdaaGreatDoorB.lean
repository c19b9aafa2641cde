/- Part of the proof of WitnessSchedules. -/
import Derived.Test.YtdgiigkneimbdaaGreatDoorA
set_option linter.all false
open Bool renaming and_eq_true->bN,false->I,false_eq_true->eE,or_eq_false_iff->cP,or_eq_true->fH,true->U
open Decidable renaming decide->Q
open List renaming all_eq_true->dV,append_nil->cL,getElem?_set_ne->oq,length->L,length_append->a6G,length_eq_one_iff->buE,length_nil->bhZ,length_replicate->oA,mapM_cons->aQa,mapM_nil->aqT,mem_range->fq,range->aH,replicate->er
open Nat renaming beq->aOU,beq_eq->zv
open Option renaming bind_eq_bind->xp,bind_some->a6X,map_map->Sc,map_some->df,none->J,pure_def->xq,some->V,some.injEq->aOe
namespace Go.Ab
open Go Go.RowKit
abbrev Rg:=Nat->AV
def gt(a:dM)(i:Nat):AV:=a.getD i .u
def AY(G:Env)(a:Rg):Operand->AV
 | .tmp t=>a t
 | .const v=>Dg v
 | .global g=>match G g with|some cs=> .q cs|none=> .u
 | .func f=> .f f [] []
theorem Ef(G)(a):AY G (gt a)=du G a:=by funext x;cases x<;>rfl
def rV(o:Option AV)(K:AV->Prop):Prop:=match o with|some v=>K v|none=>False
def eV(o:Option<|AV×ae)(K:AV->ae->Prop):Prop:=match o with|some p=>K p.1 p.2|none=>False
def sV(o:Option ae)(K:ae->Prop):Prop:=match o with|some p=>K p|none=>False
def mL(c a b:AV):Option AV:=match c with| .s (.bool t)=>V (if t then a else b)|_=>J
def aN(k:Option Nat)(cs:dM):Option AV:=
 match k with
 |some n=>if n<=L cs then V (.a<|cs.take n) else J
 |none=>cs[0]?
def qK(P:Program)(t:TypeId):Option (Option Nat):=
 match tU P t,fG P t with
 |some true,some n=>V<|V n
 |some false,_=>V J
 |_,_=>J
def sA(k:Option Nat)(Y:ae)(x:AV):Option AV:=(iE Y x).bind<|aN k
def cO(Y:ae)(x:AV):Option AV:=
 match x with
 | .p b i j=>(box Y b).map λ_=> .p b i j
 | .q cs=>V<|.q cs
 | .f fn a b=>V<|.f fn a b
 |_=>J
def zP(op:BinOp)(c:Nat):Value->Value->Option Value
 | .int k a, .int d b=>
  match op with
  | .shl=>if b<0 then J else V (.int k<|k.wrap<|a*2^(min b.toNat k.bits))
  | .shr=>if b<0 then J else V (.int k<|a.fdiv<|2^(min b.toNat k.bits))
  | .add=>if k=d then V (.int k<|k.wrap<|a+b) else J
  | .sub=>if k=d then V (.int k<|k.wrap<|a-b) else J
  | .mul=>if k=d then V (.int k<|k.wrap<|a*b) else J
  | .quo=>if k=d/\b≠0 then V (.int k<|k.wrap<|a.tdiv b) else J
  | .rem=>if k=d/\b≠0 then V (.int k<|a.tmod b) else J
  | .and=>if k=d then V (.int k<|k.wrap (BitVec.ofInt k.bits a&&&BitVec.ofInt k.bits b).toNat) else J
  | .or=>if k=d then V (.int k<|k.wrap (BitVec.ofInt k.bits a|||BitVec.ofInt k.bits b).toNat) else J
  | .xor=>if k=d then V (.int k<|k.wrap (BitVec.ofInt k.bits a^^^BitVec.ofInt k.bits b).toNat) else J
  | .andNot=>if k=d then V (.int k<|k.wrap (BitVec.ofInt k.bits a&&&~~~(BitVec.ofInt k.bits b)).toNat) else J
  | .eql=>if k=d then V (.bool<|a==b) else J
  | .neq=>if k=d then V (.bool<|a !=b) else J
  | .lss=>if k=d then V (.bool<|Q<|a<b) else J
  | .leq=>if k=d then V (.bool<|Q<|a<=b) else J
  | .gtr=>if k=d then V (.bool<|Q<|b<a) else J
  | .geq=>if k=d then V (.bool<|Q<|b<=a) else J
 | .string a, .string b=>
  match op with
  | .eql=>V<|.bool<|a.toList==b.toList
  | .neq=>V<|.bool<|!(a.toList==b.toList)
  | .lss=>V<|.bool<|Op.bytesLess a.toList b.toList
  | .leq=>V<|.bool<|Op.bytesLess a.toList b.toList||a.toList==b.toList
  | .gtr=>V<|.bool<|!(Op.bytesLess a.toList b.toList||a.toList==b.toList)
  | .geq=>V<|.bool<|!(Op.bytesLess a.toList b.toList)
  | .add=>if a.size+b.size<=1099511627776 then V (.string<|a++b) else J
  |_=>J
 | .bool a, .bool b=>
  match op with
  | .eql=>if c=1 then V (.bool<|a==b) else J
  | .neq=>if c=1 then V (.bool<|!(a==b)) else J
  |_=>J
 |_,_=>J
def bc4(op:BinOp)(c:Nat)(fs:List<|Nat×Nat)(x y:AV):Option AV:=
 match x,y with
 | .s a, .s b=>(zP op c a b).map .s
 | .a xs, .a ys=>
  match op with
  | .eql=>if c=2 then(nW xs ys fs).map λr=> .s (.bool r) else J
  | .neq=>if c=2 then(nW xs ys fs).map λr=> .s (.bool<|!r) else J
  |_=>J
 |_,_=>J
def tyK(P:Program)(t:TypeId):Nat×List (Nat×Nat):=
 match P.underlying t with
 |some .bool=>(1,[])
 |some (.struct fs)=>if P.stoodInHeld t=I/\P.eqGuardType P.depth t=I then(match nk P fs.toList with|some l=>(2,l)|none=>(0,[])) else(0,[])
 |_=>(0,[])
def cR(op:UnOp)(x:AV):Option AV:=
 match op,x with
 | .not, .s (.bool b)=>V<|.s<|.bool<|!b
 | .neg, .s (.int k n)=>V<|.s<|.int k<|k.wrap<|0-n
 |_,_=>J
def KD(P:Program)(b a:TypeId):Option (Option IntKind):=
 match P.underlying b,P.underlying a with
 |some _,some (.int k)=>V<|V k
 |some .string,some .string=>V J
 |_,_=>J
def sO(k:Option IntKind)(x:AV):Option AV:=
 match k,x with
 |some k, .s (.int _ n)=>V<|.s<|.int k<|k.wrap n
 |none, .s (.string s)=>V<|.s<|.string s
 |_,_=>J
def KR(P:Program)(s:TypeId)(f:Nat):Option Nat:=
 match P.underlying s with
 |some (.struct fs)=>
  match fs[f]? with
  |some a=>
   match fG P a.type with
   |some (_+1)=>V a.offset
   |_=>J
  |none=>J
 |_=>J
def iQ(a:Nat)(Y:ae)(x:AV):Option AV:=
 match x with
 | .p b i j=>(box Y b).map λ_=> .p b i<|j+a
 | .q cs=>V<|.q<|cs.drop a
 |_=>J
def yy(k:Option Nat)(cs:dM)(b:Nat):Option AV:=
 match k with
 |some n=>V<|.a<|(cs.drop b).take n
 |none=>cs[b]?
def QF(P:Program)(t:TypeId)(f:Nat):Option (Nat×Option Nat):=
 match P.underlying t with
 |some (.struct fs)=>match fs[f]? with|some a=>(qK P a.type).map λk=>(a.offset,k)|none=>J
 |_=>J
def cK(b:Nat)(k:Option Nat)(x:AV):Option AV:=match x with| .a cs=>yy k cs b|_=>J
def cz(z:Nat)(Y:ae)(x ix:AV):Option AV:=
 match ix with
 | .s (.int _ i)=>
  if 0<=i then
   match x with
   | .l bA _ _=>(bA[i.toNat]?).bind λr=>if z=L r then V (.q r) else J
   | .m b n=>(box Y b).bind λbx=>if i.toNat<n/\z=bx.size then V (.p b i.toNat 0) else J
   | .g k b o n=>(box Y b).bind λbx=>if k=2/\i.toNat<n/\z=bx.size then V (.p b (o+i.toNat) 0) else J
   |_=>J
  else J
 |_=>J
def wm(n z:Nat)(Y:ae)(x ix:AV):Option AV:=
 match ix with
 | .s (.int _ i)=>
  if 0<=i then
   if i.toNat<n then
    match x with
    | .p b k j=>(box Y b).map λ_=> .p b k<|j+i.toNat*z
    | .q cs=>V<|.q<|cs.drop<|i.toNat*z
    |_=>J
   else J
  else J
 |_=>J
def sxA(x ix:AV):Option AV:=
 match ix,x with
 | .s (.int _ i), .s (.string s)=>if 0<=i then(s[i.toNat]?).map λb=> .s (.int .u8 b.toNat) else J
 |_,_=>J
def sI(n z:Nat)(k:Option Nat)(x ix:AV):Option AV:=
 match ix,x with
 | .s (.int _ i), .a cs=>if 0<=i/\i<n then yy k cs (i.toNat*z) else J
 |_,_=>J
def eO(i:Nat)(x:AV):Option AV:=match x with| .t vs=>vs[i]?|_=>J
def lM(x:Option AV):Option (Option Nat):=
 match x with
 |none=>V J
 |some v=>match v with| .s (.int _ n)=>if 0<=n then V (V n.toNat) else J|_=>J
def qY(z:Nat)(Y:ae)(x:AV)(lo a mx:Option Nat):Option AV:=
 match x with
 | .l bA c own=>
  if lo.getD 0<=a.getD (L bA)/\a.getD (L bA)<=L bA/\(∀r∈bA,z=L r) then
   if mx=J then V (.l ((bA.drop<|lo.getD 0).take<|a.getD (L bA)-lo.getD 0) (c&&a.getD (L bA)==L bA) own)
   else if a.getD (L bA)<=mx.getD 0/\mx.getD 0<=L bA/\a.isSome then V (.l ((bA.drop<|lo.getD 0).take<|a.getD (L bA)-lo.getD 0) (mx.getD 0==a.getD (L bA)) own)
   else J
  else J
 | .m b n=>(box Y b).bind λbx=>if lo=J/\mx=J/\a.getD n<=n then V (.m b<|a.getD n) else if mx=J/\lo.getD 0<=a.getD n/\a.getD n<=n/\z=bx.size then V (if lo.getD 0=a.getD n then .l [] I I else .g 2 b (lo.getD 0) (a.getD n-lo.getD 0)) else J
 |_=>J
def fo(z:Nat)(Y:ae)(x:AV)(lo a mx:Option AV):Option AV:=
 match lM lo,lM a,lM mx with
 |some l,some h,some m=>qY z Y x l h m
 |_,_,_=>J
def ssK(x:AV)(lo a mx:Option Nat):Option AV:=
 match x with
 | .s (.string s)=>if mx=J/\lo.getD 0<=a.getD s.size/\a.getD s.size<=s.size then V (.s<|.string<|s.extract (lo.getD 0)<|a.getD s.size) else J
 |_=>J
def Q8(x:AV)(lo a mx:Option AV):Option AV:=
 match lM lo,lM a,lM mx with
 |some l,some h,some m=>ssK x l h m
 |_,_,_=>J
def fS(Y:ae)(x:AV):Option AV:=
 match x with
 | .l bA _ _=>V<|.s<|.int .i64<|L bA
 | .m b n=>(box Y b).map λ_=> .s<|.int .i64 n
 | .g k b _ n=>(box Y b).bind λ_=>if k=2 then V (.s<|.int .i64 n) else J
 |_=>J
def lsA(x:AV):Option AV:=match x with| .s (.string s)=>V (.s<|.int .i64 s.size)|_=>J
def alA(e:TypeId)(zs:dM)(Y:ae)(d:Nat):Option (AV×ae):=
 if 0<L zs/\vg Y d=U then V (.p (lA Y d) 0 0,put Y d ⟨e,L zs,U,U,[zs]⟩) else J
def bxA(e:TypeId)(z:Nat)(Y:ae)(d:Nat)(x:AV):Option (AV×ae):=
 match eY x with
 |some cs=>if L cs=z/\0<z/\vg Y d=U then V (.p (lA Y d) 0 0,put Y d ⟨e,z,U,U,[cs]⟩) else J
 |none=>J
def QG(P:Program)(t:TypeId):Option (List<|Nat×Nat):=
 match P.underlying t with
 |some (.struct a)=>a.toList.mapM (λf=>(P.info? f.type).map λi=>(f.offset,i.size))
 |_=>J
def bM(zs:dM)(b:List<|Nat×Nat)(c:List<|Nat×AV):Option AV:=(aly (λi=>b[i]?) zs c).map .a
def tY(zs:dM)(z:Nat)(b:List<|Nat×AV):Option AV:=(aly (λi=>V (i*z,z)) zs b).map .a
def aX(zs:dM)(len:Nat)(Y:ae)(a:List<|Nat×AV):Option (AV×ae):=(if len*L zs<=16777216/\0<L zs then(aly (λi=>V (i*L zs,L zs)) ((er len zs).flatten)<|a.map λp=>(p.1,nrm<|eR Y p.2)).bind (λfl=>if fl.all eN=U then V (bsm (L zs) len fl) else J) else J).map λbA=>(.l bA U U,kills Y<|a.flatMap λp=>aNN p.2)
def qO(e:TypeId)(zs:dM)(by':Nat)(Y:ae)(d:Nat)(l c:AV):Option (AV×ae):=
 match l,c with
 | .s (.int _ l), .s (.int _ c)=>if 0<=l/\l<=c/\0<L zs/\zs.all eN=U/\vg Y d=U/\c*(by'+1)<=lx then V (.m (lA Y d) l.toNat,put Y d ⟨e,L zs,U,uj zs,er l.toNat<|mz zs⟩) else J
 |_,_=>J
def azA(e:TypeId)(zs:dM)(by':Nat)(Y:ae)(d:Nat)(s x:AV):Option (AV×ae):=
 match s,x with
 | .l [] true _, .s (.int _ l)=>if 0<l then qO e zs by' Y d x x else J
 |_,_=>J
def pW(z:Nat)(Y:ae)(x v:AV):Option ae:=
 match x with
 | .p b i j=>
  match box Y b,eY v with
  |some bx,some cs=>
   match bx.bA[i]? with
   |some r=>if z=L cs/\j+L cs<=L r/\(bx.var=I->cs.all eN=U) then V (wr Y b ⟨bx.elem,bx.size,bx.own,bx.var,bx.bA.set i<|r.take j++cs++r.drop (j+L cs)⟩) else J
   |none=>J
  |_,_=>J
 |_=>J
def aK(z:Nat)(Y:ae)(x v:AV):Option ae:=
 if aBG Y x=U then pW z Y x v else pW z (kills Y<|aNN v) x (nrm<|eR Y v)
def apA(e:TypeId)(zs:dM)(by':Nat)(Y:ae)(d:Nat)(s x:AV):Option (AV×ae):=
 match gL Y x with
 |some new=>
  if L new=0 then
   match s with
   | .l bA a own=>V (.l bA a own,Y)
   | .m b n=>(box Y b).map λ_=>(.m b n,Y)
   |_=>J
  else if 0<L zs/\vg Y d=U/\(∀r∈new,L r=L zs) then
   match s with
   | .l bA true _=>
    if(∀r∈bA,L r=L zs)/\(L bA+L new)*(by'+1)<=lx then
     V (.m (lA Y d)<|L bA+L new,put Y d ⟨e,L zs,U,I,bA++new⟩)
    else J
   | .m b n=>
    match box Y b with
    |some bx=>
     if bx.elem=e/\bx.var=I/\bx.size=L zs/\n<=L bx.bA/\(n+L new)*(by'+1)<=lx then
      V (.m (lA Y d)<|n+L new,put (kill Y b) d ⟨e,L zs,bx.own,I,bx.bA.take n++new⟩)
     else J
    |none=>J
   |_=>J
  else J
 |none=>J
def avA(e:TypeId)(zs:dM)(by':Nat)(Y:ae)(d:Nat)(s x:AV):Option (AV×ae):=
 match aEx U Y x with
 |some new=>
  if L new=0 then
   match s with
   | .l bA a own=>V (.l bA a own,Y)
   | .m b n=>(box Y b).map λ_=>(.m b n,Y)
   |_=>J
  else if 0<L zs/\vg Y d=U/\(∀r∈new,L r=L zs) then
   match s with
   | .l bA true _=>
    if(∀r∈bA,L r=L zs)/\(L bA+L new)*(by'+1)<=lx then
     V (.m (lA Y d)<|L bA+L new,put Y d ⟨e,L zs,U,U,bA++new⟩)
    else J
   | .m b n=>
    match box Y b with
    |some bx=>
     if bx.elem=e/\bx.var=U/\bx.size=L zs/\n<=L bx.bA/\(n+L new)*(by'+1)<=lx then
      V (.m (lA Y d)<|n+L new,put (kill Y b) d ⟨e,L zs,bx.own,U,bx.bA.take n++new⟩)
     else J
    |none=>J
   |_=>J
  else J
 |none=>J
def lvS(e:TypeId)(zs:dM)(len:Nat)(Y:ae)(d:Nat)(a:List<|Nat×AV):Option (AV×ae):=
 match a with
 |[(0,x)]=>(match eY x with|some cs=>if len=1/\L cs=L zs/\0<L zs/\L zs<=1000/\vg Y d=U then V (.m (lA Y d) 1,put Y d ⟨e,L zs,U,U,[cs]⟩) else J|none=>J)
 |_=>J
section
variable{P:Program}{G:Env}{E:Operand->AV}{Y:ae}
theorem an8{t k cs}(h:qK P t=V k):yz P t cs=aN k cs:=by grind [qK,yz,aN]
theorem aC3{t k x}(h:qK P t=V k):dz P E Y (.load t x)=sA k Y (E x):=by simp only[dz,sA];congr 1;grind [an8]
theorem anQ{t k cs a}(h:qK P t=V k):yx P t cs a=yy k cs a:=by grind [qK,yx,yy]
theorem awv{t op a b v}(h:zP op (tyK P t).1 a b=V v):vP P t op a b=V v:=by unfold zP at h;grind [vP,tyK,bool]
theorem awt{t f op x y v}(h:bc4 op (tyK P t).1 (tyK P t).2 (E x) (E y)=V v):dz P E Y (.binOp op t x y f)=V v:=by unfold bc4 at h;simp only[dz];split at h;rename_i a b c d;rw[c,d];simp only;(cases g:zP op (tyK P t).1 a b with|none=>simp_all|some u=>grind [awv]);rename_i xs ys c d;rw[c,d];have key:∀r,(tyK P t).1=2->nW xs ys (tyK P t).2=V r->sR P t xs ys=V r:=(by grind [tyK,sR,alU]);(cases op<;>simp only at h⊢<;>first|(cases h;done)|skip);split at h;rename_i c;(cases e:nW xs ys (tyK P t).2 with|none=>simp_all|some r=>simp_all);(cases h);split at h;rename_i c;(cases e:nW xs ys (tyK P t).2 with|none=>simp_all|some r=>simp_all);(cases h);cases h
theorem axC{c a k x v}(b:KD P c a=V k)(h:sO k (E x)=V v):dz P E Y (.convert c a x)=V v:=by simp only[dz];unfold KD at b;generalize P.underlying c=e at*;generalize P.underlying a=d at*;generalize E x=ax at*;split at b;(cases b);unfold sO at h;grind;(cases b);unfold sO at h;grind;cases b
theorem azP{s f b x}(a:KR P s f=V b):dz P E Y (.fieldAddr s x f)=iQ b Y (E x):=by unfold KR at a;simp only[dz,vX];split at a;rename_i fs d;simp only[d];split at a;rename_i e c;simp only[c];split at a;rename_i n hs;cases a;simp only[hs];rfl;(cases a);(cases a);cases a
theorem aBd{t f a k x}(b:QF P t f=V (a,k)):dz P E Y (.field t x f)=cK a k (E x):=by unfold QF at b;simp only[dz,cK];grind [qK,aOe,Prod.mk.injEq,anQ]
theorem aCa{t e z x ix}(a:P.underlying t=V (.slice e))(b:fG P e=V z):dz P E Y (.indexAddr t x ix)=cz z Y (E x) (E ix):=by simp only[dz,cz];grind [uy,aOe]
theorem aBZ{t e n z x ix}(a:P.underlying t=V (.array n e))(b:fG P e=V z):dz P E Y (.indexAddr t x ix)=wm n z Y (E x) (E ix):=by simp only[dz,wm];grind [uy]
theorem aIB{t x ix}(a:P.underlying t=V .string):dz P E Y (.index t x ix)=sxA (E x) (E ix):=by simp only[dz,sxA,a];grind
theorem avS{t e n z k x ix}(a:P.underlying t=V (.array n e))(c:fG P e=V z)(b:qK P e=V k):dz P E Y (.index t x ix)=sI n z k (E x) (E ix):=by simp only[dz,sI,a];grind [anQ]
def alu(lo):rH E lo=lM (lo.map E):=by cases lo<;>rfl
theorem aIj{t e z x lo a mx}(b:P.underlying t=V (.slice e))(c:fG P e=V z):dz P E Y (.slice t x lo a mx)=fo z Y (E x) (lo.map E) (a.map E) (mx.map E):=by simp only[dz,fo,alu];split<;>simp_all only;simp only[uX,qY,b,c];cases E x<;>simp
theorem aIq{t x lo a mx}(b:P.underlying t=V .string):dz P E Y (.slice t x lo a mx)=Q8 (E x) (lo.map E) (a.map E) (mx.map E):=by simp only[dz,Q8,alu];split<;>simp_all only;simp only[uX,ssK,b];rfl
theorem aDj{t e x c}(d:P.underlying t=V (.slice e))(a:c.argTypes[0]?=V t)(b:c.args[0]?=V x):nP P E Y .len c=fS Y (E x):=by simp only[nP,a,b,yj,aPH,d,fS];grind
theorem aDn{t x c}(d:P.underlying t=V .string)(a:c.argTypes[0]?=V t)(b:c.args[0]?=V x):nP P E Y .len c=lsA (E x):=by simp only[nP,a,b,yj,aPH,d,lsA];grind
theorem aCW{t e n x c}(d:P.underlying t=V (.array n e))(a:c.argTypes[0]?=V t)(b:c.args[0]?=V x):nP P E Y .len c=V (.s<|.int .i64 n):=by simp_all [nP,yj,aPH]
def by4{t e x c}(d:P.underlying t=V (.slice e))(a:c.argTypes[0]?=V t)(b:c.args[0]?=V x):nP P E Y .cap c=cpA (E x):=by simp only[nP,a,b,d]
theorem asp{e zs d}(h:jF P e=V zs):eA P E Y d (.alloc e)=alA e zs Y d:=by simp only[eA,h,alA]
theorem awK{e z d x}(h:fG P e=V z):eA P E Y d (.box e x)=bxA e z Y d (E x):=by grind [eA,bxA,eY]
theorem av8{t zs pl d a}(c:jF P t=V zs)(b:QG P t=V pl):eA P E Y d (.build t a)=(bM zs pl<|a.toList.map λp=>(p.1,E p.2)).map λv=>(v,Y):=by unfold QG at b;split at b;rename_i fs e;simp only[eA,vS,e,c,b,bM,Sc];rfl;cases b
theorem awC{t e n z zs d a}(b:jF P t=V zs)(c:P.underlying t=V (.array n e))(f:fG P e=V z):eA P E Y d (.build t a)=(tY zs z<|a.toList.map λp=>(p.1,E p.2)).map λv=>(v,Y):=by simp only[eA,vS,c,b,f,tY,Sc];rfl
theorem awF{t e len d zs a}(c:P.underlying t=V (.slice e))(f:aOy P e=V zs)(b:aPm P t=I):eA P E Y d (.buildSlice t len a)=aX zs len Y (a.toList.map λp=>(p.1,E p.2)):=by simp only[eA,b,eE,btd,xB,c,f,aX,List.map_map,List.flatMap_map];rfl
theorem aD4{t e d zs l c}(a:P.underlying t=V (.slice e))(b:aOy P e=V zs):eA P E Y d (.makeSlice t l c)=qO e zs (mZ P e) Y d (E l) (E c):=by grind [eA,qO,wA]
theorem byX{t a e k d zs s x}(c:P.underlying t=V (.slice e))(b:P.underlying a=V (.int k))(f:aOy P e=V zs):bt1 P Y d t a s x=azA e zs (mZ P e) Y d s x:=by simp only[bt1,azA];split<;>simp_all only[qO,wA]
theorem aIs{t z x v Y}(a:fG P t=V z):ra P Y t x v=pW z Y x v:=by simp only[ra,pW,a,aOe];rfl
theorem aIr{t z d x v}(a:fG P t=V z):eA P E Y d (.store t x v)=(aK z Y (E x)<|E v).map λY'=>(.t [],Y'):=by grind [eA,aK,aIs]
theorem bdR{t e len d zs a}(c:P.underlying t=V (.slice e))(f:aOy P e=V zs)(b:aPm P t=U):eA P E Y d (.buildSlice t len a)=lvS e zs len Y d (a.toList.map λp=>(p.1,E p.2)):=by simp only[eA,b,a6F,lvA,lvS,c];grind
theorem bak{t e d zs s x}(a:P.underlying t=V (.slice e))(b:jF P e=V zs):tV U P Y d t s x=avA e zs (mZ P e) Y d s x:=by simp only[tV,avA,a,b];grind
theorem avr{t e d zs s x}(a:P.underlying t=V (.slice e))(b:jF P e=V zs):tV I P Y d t s x=apA e zs (mZ P e) Y d s x:=by simp only[tV,apA,a,b,aXZ];grind
end
abbrev FT:=dM->(AV->Prop)->Prop
abbrev dO:=List<|Nat×FT
def jz(P:Program)(G:Env)(fn:Nat):FT:=λys K=>∃r,btY P G fn ys (·=r)/\ys.all iX=U/\kG r=U/\K r
def Bw(D:FT)(fn:Nat):dO->FT|[]=>D|p::T=>bif aOU fn p.1 then p.2 else Bw D fn T
def pq(P:Program)(G:Env)(T:dO):Prop:=∀p∈T,∀ys K,p.2 ys K->jz P G p.1 ys K
def lo(Y:ae)(xs:dM)(r:AV):Prop:=nA Y xs=I\/uN r=U
def fW(F:FT)(ys:dM)(Lw:AV->Prop)(K:AV->Prop):Prop:=F ys λr=>Lw r/\K r
def fV(F:FT)(Y:ae)(xs:dM)(K:AV->Prop):Prop:=fW F (xs.map<|dG Y) (lo Y xs) K
def aIJ{P G fn ys K}:∀{T},pq P G T->Bw (jz P G fn) fn T ys K->jz P G fn ys K:=by intro T;induction T with|nil=>intro _ h;exact h|cons p T d=>intro a h;simp only[Bw] at h;cases b:aOU fn p.1 with|true=>rw[b] at h;have:fn=p.1:=vB;subst this;exact a p O ys K h|false=>rw[b] at h;exact d (λq c=>a q<|by simp[c]) h
theorem axR{P G fn xs Y K T}(f:pq P G T)(h:fV (Bw (jz P G fn) fn T) Y xs K):Kh P G fn xs Y K:=by obtain⟨r,a,b,c,d,e⟩:=aIJ f h;exact⟨r,a,b,c,d,e⟩
def zrd(P:Program)(G:Env)(T:dO)(E:Operand->AV)(Y:ae)(op:Op)(K:AV->Prop):Prop:=
 match op with
 | .move x=>K<|E x
 | .assign x=>K<|E x
 | .pick c a b=>rV (mL (E c) (E a)<|E b) K
 | .load t x=>match qK P t with|some k=>rV (sA k Y<|E x) K|none=>False
 | .nilCheck x=>rV (cO Y<|E x) K
 | .binOp op t x y _=>rV (bc4 op (tyK P t).1 (tyK P t).2 (E x)<|E y) K
 | .unOp op _ x=>rV (cR op<|E x) K
 | .convert s d x=>match KD P s d with|some k=>rV (sO k<|E x) K|none=>False
 | .fieldAddr s x f=>match KR P s f with|some j=>rV (iQ j Y<|E x) K|none=>False
 | .field t x f=>match QF P t f with|some p=>rV (cK p.1 p.2<|E x) K|none=>False
 | .indexAddr t x ix=>
  match P.underlying t with
  |some (.slice e)=>match fG P e with|some z=>rV (cz z Y (E x)<|E ix) K|none=>False
  |some (.array n e)=>match fG P e with|some z=>rV (wm n z Y (E x)<|E ix) K|none=>False
  |_=>False
 | .index t x ix=>
  match P.underlying t with
  |some .string=>rV (sxA (E x)<|E ix) K
  |some (.array n e)=>match fG P e,qK P e with|some z,some k=>rV (sI n z k (E x)<|E ix) K|_,_=>False
  |_=>False
 | .extract x i=>rV (eO i<|E x) K
 | .lookup t x ix m=>match a6q P t with|some l=>rV (oP l Y (E x) (E ix) m) K|none=>False
 | .slice t x lo h mx=>
  match P.underlying t with
  |some .string=>rV (Q8 (E x) (lo.map E) (h.map E)<|mx.map E) K
  |some (.slice e)=>match fG P e with|some z=>rV (fo z Y (E x) (lo.map E) (h.map E)<|mx.map E) K|none=>False
  |_=>False
 | .makeFunc fn first cap=>match fn with| .func f=>K (.f f (first.toList.map E)<|cap.toList.map E)|_=>False
 | .build t g=>
  match P.underlying t with
  |some (.array n e)=>match jF P t,fG P e with|some zs,some z=>rV (tY zs z<|g.toList.map λp=>(p.1,E p.2)) K|_,_=>False
  |_=>match jF P t,QG P t with|some zs,some pl=>rV (bM zs pl<|g.toList.map λp=>(p.1,E p.2)) K|_,_=>False
 | .call c=>
  match c.callee with
  | .builtin .len=>
   match c.argTypes[0]?,c.args[0]? with
   |some t,some x=>
    match P.underlying t with
    |some (.slice _)=>rV (fS Y<|E x) K
    |some .string=>rV (lsA<|E x) K
    |some (.array n _)=>K<|.s<|.int .i64 n
    |_=>False
   |_,_=>False
  | .builtin .cap=>
   match c.argTypes[0]?,c.args[0]? with
   |some t,some x=>match P.underlying t with|some (.slice _)=>rV (cpA<|E x) K|_=>False
   |_,_=>False
  | .builtin .min=>match c.args.toList with|[x,y]=>rV (AO .min (E x)<|E y) K|_=>False
  | .builtin .max=>match c.args.toList with|[x,y]=>rV (AO .max (E x)<|E y) K|_=>False
  | .value (.func fn)=>if G.nw fn=U then False else if G.imp fn=U then False else fV (Bw (jz P G fn) fn T) Y (c.args.toList.map E) K
  |_=>False
 |_=>False
def btX(P:Program)(G:Env)(f:AV)(xs:dM)(Y:ae)(d:Nat)(K:AV->ae->Prop):Prop:=
 match f with
 | .f fn first cap=>if G.nw fn=U then tS P G fn (first++xs++cap) Y d K else if G.imp fn=U then tR P G fn (first++xs++cap) Y d K else Kh P G fn (first++xs++cap) Y λr=>K r Y
 |_=>False
def pY(P:Program)(G:Env)(E:Operand->AV)(Y:ae)(d:Nat)(op:Op)(K:AV->ae->Prop):Prop:=
 match op with
 | .alloc e=>match jF P e with|some zs=>eV (alA e zs Y d) K|none=>False
 | .box e x=>match fG P e with|some z=>eV (bxA e z Y d<|E x) K|none=>False
 | .buildSlice t len a=>
  match P.underlying t with
  |some (.slice e)=>match aOy P e with|some zs=>(match aPm P t with|true=>eV (lvS e zs len Y d<|a.toList.map λp=>(p.1,E p.2)) K|false=>eV (aX zs len Y<|a.toList.map λp=>(p.1,E p.2)) K)|none=>False
  |_=>False
 | .makeSlice t l c=>
  match P.underlying t with
  |some (.slice e)=>match aOy P e with|some zs=>eV (qO e zs (mZ P e) Y d (E l)<|E c) K|none=>False
  |_=>False
 | .store t x v=>match fG P t with|some z=>sV (aK z Y (E x)<|E v) (λY'=>K (.t []) Y')|none=>False
 | .call c=>
  match c.callee with
  | .builtin .append=>
   match c.args.toList,c.argTypes.toList with
   |[s,x],[t,b]=>
    if t=b then
     match P.underlying t with
     |some (.slice e)=>match jF P e with|some zs=>(match aPm P t with|true=>eV (avA e zs (mZ P e) Y d (E s)<|E x) K|false=>eV (apA e zs (mZ P e) Y d (E s)<|E x) K)|none=>False
     |_=>False
    else
     match P.underlying t,P.underlying b with
     |some (.slice e),some (.int _)=>match aOy P e with|some zs=>eV (azA e zs (mZ P e) Y d (E s)<|E x) K|none=>False
     |_,_=>False
   |_,_=>False
  | .builtin .clear=>
   match c.args.toList,c.argTypes.toList with
   |[x],[t]=>match xD P t with|some z=>sV (pA z Y<|E x) (λY'=>K (.t []) Y')|none=>False
   |_,_=>False
  | .builtin .copy=>
   match c.args.toList,c.argTypes.toList with
   |[x,y],[t,b]=>if cyT P t b=U then eV (cyA Y (E x)<|E y) K else False
   |_,_=>False
  | .value f=>btX P G (E f) (c.args.toList.map E) Y d K
  |_=>False
 | .makeMap t r=>match r with|none=>eV (oS t Y d) K|some _=>False
 | .mapUpdate t x k v=>match a6q P t with|some g=>sV (muA g Y (E x) (E k)<|E v) (λY'=>K (.t []) Y')|none=>False
 | .range t x=>match P.underlying t with|some .string=>eV (tu Y d<|E x) K|_=>False
 | .next x st=>if st=U then eV (se Y<|E x) K else False
 |_=>False
section
variable{P:Program}{G:Env}{τ:dM}{Y:ae}
theorem jq{o K}(h:rV o K):∃v,o=V v/\K v:=by cases o with|none=>exact h.elim|some v=>exact⟨v,rfl,h⟩
def uk{o K}(h:eV o K):∃v Y',o=V (v,Y')/\K v Y':=by cases o with|none=>exact h.elim|some p=>exact⟨p.1,p.2,rfl,h⟩
def Q2{o K}(h:sV o K):∃Y',o=V Y'/\K Y':=by cases o with|none=>exact h.elim|some p=>exact⟨p,rfl,h⟩
theorem awD{o v K}(h:dz P (du G τ) Y o.op=V v)(a:K v Y):j0 P G τ Y o K:=by grind [j0]
theorem ph{o v Y' K}(a:dz P (du G τ) Y o.op=J)(h:eA P (du G τ) Y (o.dst.getD 0) o.op=V (v,Y'))(b:K v Y'):j0 P G τ Y o K:=by grind [j0]
theorem a7X{o c f K}(b:o.op= .call c)(a:c.callee= .value f)(h:btX P G (du G τ f) (c.args.toList.map<|du G τ) Y (o.dst.getD 0) K):j0 P G τ Y o K:=by unfold j0;have:dz P (du G τ) Y o.op=J:=(by simp_all [dz]);grind [eA,du,btX]
theorem aNn{T}(u:pq P G T){o K}(h:zrd P G T (du G τ) Y o.op<|λv=>K v Y):j0 P G τ Y o K:=by generalize k:o.op=op at h;cases op with|move x=>exact awD (by rw[k];rfl) h|assign x=>exact awD (by rw[k];rfl) h|pick c a b=>obtain⟨v,j,g⟩:=jq h;exact awD (by rwa [k]) g|load t x=>grind [zrd,jq,awD,aC3]|nilCheck x=>obtain⟨v,j,g⟩:=jq h;exact awD (by rwa [k]) g|binOp op t x y E=>obtain⟨v,j,g⟩:=jq h;grind [awD,awt]|unOp op t x=>obtain⟨v,j,g⟩:=jq h;exact awD (by rwa [k]) g|convert s d x=>grind [zrd,jq,awD,axC]|fieldAddr s x f=>grind [zrd,jq,awD,azP]|field t x f=>grind [zrd,jq,awD,aBd]|indexAddr t x ix=>grind [zrd,jq,awD,aCa,aBZ]|index t x ix=>grind [zrd,jq,awD,aIB,avS]|extract x i=>obtain⟨v,j,g⟩:=jq h;exact awD (by rwa [k]) g|lookup t x ix D=>simp only[zrd] at h;split at h;rename_i C B;obtain⟨v,j,g⟩:=jq h;simp_all [awD,dz];grind|slice t x lo w mx=>grind [zrd,jq,awD,aIq,aIj]|makeFunc fn first cap=>simp only[zrd] at h;split at h;exact awD (by rw[k];rfl) h;grind|build t r=>simp only[zrd] at h;split at h;rename_i n e q;split at h;rename_i zs z j g;obtain⟨v,p,l⟩:=jq h;exact ph (by rw[k];rfl) (by grind [awC]) l;grind;split at h;rename_i zs z j g;obtain⟨v,p,l⟩:=jq h;exact ph (by rw[k];rfl) (by grind [av8]) l;grind|call c=>simp only[zrd] at h;split at h;rename_i m;split at h;rename_i t x j g;split at h;rename_i e q;obtain⟨v,p,l⟩:=jq h;exact awD (by rw[k];simp only[dz,m];grind [aDj]) l;rename_i q;obtain⟨v,p,l⟩:=jq h;exact awD (by rw[k];simp only[dz,m];grind [aDn]) l;rename_i n e q;exact awD (by rw[k];simp only[dz,m];rw[aCW q j g]) h;grind;grind;rename_i m;split at h;rename_i t x j g;split at h;rename_i e q;obtain⟨v,p,l⟩:=jq h;exact awD (by rw[k];simp only[dz,m];rwa [by4 q j g]) l;grind;grind;rename_i m;split at h;rename_i x y j;obtain⟨v,p,l⟩:=jq h;simp_all [awD,dz,nP];exact h.elim;rename_i m;split at h;rename_i x y j;obtain⟨v,p,l⟩:=jq h;simp_all [awD,dz,nP];exact h.elim;grind [a7X,du,btX,axR];exact h.elim|_=>exact h.elim
theorem aNk{o K}(h:pY P G (du G τ) Y (o.dst.getD 0) o.op K):j0 P G τ Y o K:=by generalize b:o.op=op at h;cases op with|alloc e=>simp only[pY] at h;split at h;rename_i zs g;obtain⟨v,Y',d,a⟩:=uk h;exact ph (by rw[b];rfl) (by grind [asp]) a;grind|box e x=>simp only[pY] at h;split at h;rename_i zs g;obtain⟨v,Y',d,a⟩:=uk h;exact ph (by rw[b];rfl) (by grind [awK]) a;grind|buildSlice t len u=>simp only[pY] at h;split at h;rename_i e m;split at h;rename_i zs g;split at h;rename_i p;obtain⟨v,Y',d,a⟩:=uk h;exact ph (by rw[b];rfl) (by grind [bdR]) a;rename_i p;obtain⟨v,Y',d,a⟩:=uk h;exact ph (by rw[b];rfl) (by grind [awF]) a;grind;grind|makeSlice t l c=>simp only[pY] at h;split at h;rename_i e m;split at h;rename_i zs g;obtain⟨v,Y',d,a⟩:=uk h;exact ph (by rw[b];rfl) (by grind [aD4]) a;grind;grind|store t x v=>simp only[pY] at h;split at h;rename_i z g;obtain⟨Y',d,a⟩:=Q2 h;exact ph (by rw[b];rfl) (by grind [aIr]) a;grind|call c=>simp only[pY] at h;split at h;rename_i j;split at h;rename_i s x t B d a;split at h;rename_i n;split at h;rename_i e m;split at h;rename_i zs g;split at h;rename_i p;obtain⟨v,Y',i,f⟩:=uk h;refine ph (by simp_all [dz,nP]) ?_ f;grind [eA,bak];rename_i p;obtain⟨v,Y',i,f⟩:=uk h;refine ph (by simp_all [dz,nP]) ?_ f;grind [eA,avr];grind;grind;rename_i n;split at h;rename_i e k m w;split at h;rename_i zs g;obtain⟨v,Y',i,f⟩:=uk h;refine ph (by simp_all [dz,nP]) ?_ f;rw[b];simp only[eA,j,d,a,za n,byX m w g];exact i;grind;grind;grind;rename_i j;split at h;rename_i x t d a;split at h;rename_i z g;obtain⟨Y',i,f⟩:=Q2 h;refine ph (by rw[b];simp only[dz,j,nP]) ?_ f;grind [eA];grind;grind;rename_i j;split at h;rename_i x y t B d a;split at h;rename_i q;obtain⟨v,Y',i,f⟩:=uk h;refine ph (by rw[b];simp only[dz,j,nP]) ?_ f;rw[b];simp only[eA,j,d,a,zg q];exact i;grind;grind;grind [a7X];grind|makeMap t r=>simp only[pY] at h;split at h;obtain⟨v,Y',d,a⟩:=uk h;exact ph (by rw[b];rfl) (by rwa [b]) a;grind|mapUpdate t x k v=>simp only[pY] at h;split at h;rename_i D C;obtain⟨Y',d,a⟩:=Q2 h;exact ph (by rw[b];rfl) (by grind [eA]) a;exact h.elim|range t x=>simp only[pY] at h;split at h;rename_i m;obtain⟨v,Y',d,a⟩:=uk h;exact ph (by rw[b];rfl) (by grind [eA]) a;exact h.elim|next x st=>simp only[pY] at h;split at h;rename_i hs;obtain⟨v,Y',d,a⟩:=uk h;exact ph (by rw[b];rfl) (by grind [eA]) a;exact h.elim|_=>exact h.elim
end
def gP(a:Bool)(v:AV):Option Bool:=
 match v with
 | .s (.bool b)=>V<|b==a
 | .t _=>V I
 |_=>J
def brq(ops:Array Oper)(a:Rg)(o:Oper):Option Bool:=
 match o.guard with
 |none=>V U
 |some g=>match(ops[g.1]?).bind (·.dst) with|none=>V I|some t=>gP g.2<|a t
def gR(w:Option Bool)(a:(AV->Prop)->Prop)(K:AV->Prop):Prop:=
 match w with|some true=>a K|some false=>K (.t [])|none=>False
def gE(w:Option Bool)(a:(AV->ae->Prop)->Prop)(Y:ae)(K:AV->ae->Prop):Prop:=
 match w with|some true=>a K|some false=>K (.t []) Y|none=>False
def pu(a:Rg)(d:Option Nat)(v:AV):Rg:=
 match d with|some d=>λk=>bif aOU k d then v else a k|none=>a
def up(a:Rg)(d:Nat)(v:AV):Rg:=λk=>bif aOU k d then v else a k
def kp(K:Rg->ae->Prop)(a:Rg)(d:Option Nat)(v:AV)(Y:ae):Prop:=
 match d with|some d=>K (up a d v) Y|none=>K a Y
def aCT{K a d v Y}:kp K a d v Y=K (pu a d v) Y:=by cases d<;>rfl
def mv(a:Rg)(d s:Nat):Rg:=λk=>bif aOU k d then a s else a k
def kv(K:Rg->ae->Prop)(a:Rg)(d:Option Nat)(s:Nat)(Y:ae):Prop:=
 match d with|some d=>K (mv a d s) Y|none=>K a Y
def aCU{K a d s Y}:kv K a d s Y=K (pu a d<|a s) Y:=by cases d<;>rfl
def mvS(o:Oper):Option Nat:=
 match o.guard with
 |some _=>J
 |none=>
  match o.op with
  | .move x=>match x with| .tmp s=>V s|_=>J
  | .assign x=>match x with| .tmp s=>V s|_=>J
  |_=>J
def EL(P:Program)(G:Env)(T:dO)(ops:Array Oper)(o:Oper)(K:Rg->ae->Prop)(a:Rg)(Y:ae):Prop:=
 match mvS o with
 |some s=>kv K a o.dst s Y
 |none=>
 match iT G o.op with
 |true=>gR (brq ops a o) (λk=>zrd P G T (AY G a) Y o.op k) (λv=>kp K a o.dst v Y)
 |false=>gE (brq ops a o) (λk=>pY P G (AY G a) Y (o.dst.getD 0) o.op k) Y (λv Y'=>kp K a o.dst v Y')
def EM(P:Program)(G:Env)(T:dO)(ops:Array Oper):List Oper->(Rg->ae->Prop)->Rg->ae->Prop|[],K=>K|o::l,K=>EL P G T ops o<|EM P G T ops l K
def ti(P:Program)(G:Env)(E:Operand->AV)(Y:ae)(d:Nat)(op:Op):fY:=
 match op with
 | .call c=>
  match c.callee with
  | .value f=>
   match E f with
   | .f fn first cap=>if G.nw fn=U then(I,iU E op++[d]) else if G.imp fn=U then(G.rd fn,aQn G fn Y) else(U,iU E op)
   |_=>(U,[])
  |_=>(iT G op,iU E op++if iT G op||!btH op then[] else[d])
 | .buildSlice t _ _=>(I,iU E op++(match aPm P t with|true=>[d]|false=>[]))
 | .store _ x _=>(I,(bif G.sv then(if aBG Y (E x)=U then aNG (E x) else iU E op) else iU E op)++[])
 |_=>(iT G op,iU E op++if iT G op||!btH op then[] else[d])
def EK(P:Program)(G:Env)(T:dO)(ops:Array Oper):List Oper->List fY->(List fY->Rg->ae->Prop)->Rg->ae->Prop|[],acc,K=>K acc|o::l,acc,K=>λa Y=>EL P G T ops o (EK P G T ops l (acc++[ti P G (AY G a) Y (o.dst.getD 0) o.op]) K) a Y
def prs(G:Env)(ops:Array Oper):List (Nat×Nat):=
 (aH ops.size).flatMap λj=>(aH j).filterMap λi=>
  if((Region.before ops).getD j 0).testBit i||(iT G (ops.getD i default).op&&iT G (ops.getD j default).op) then J else V (i,j)
def dH(a:List fY):List (Nat×Nat)->Prop->Prop|[],R=>R|p::l,R=>eL (a.getD p.1 (U,[])) (a.getD p.2 (U,[]))=U/\dH a l R
def Rv(P:Program)(G:Env)(T:dO)(ops:Array Oper)(K:Rg->ae->Prop)(a:Rg)(Y:ae):Prop:=
 match rG G ops.toList with
 |true=>EM P G T ops ops.toList K a Y
 |false=>EK P G T ops ops.toList [] (λb a Y=>dH b (prs G ops)<|K a Y) a Y
abbrev QZ:=Exit->Rg->ae->Prop
def QZ.then(K:Rg->ae->Prop)(Q:QZ):QZ:=λe a Y=>match e with| .normal=>K a Y|e=>Q e a Y
def QZ.inBlock(b:Nat)(Q:QZ):QZ:=λe a Y=>match e with| .exit j=>bif aOU j b then Q .normal a Y else Q (.exit j) a Y|e=>Q e a Y
def cnt:Code->Nat| .seq x y=>cnt x+cnt y+1| .cond _ x y=>cnt x+cnt y| .block _ c=>cnt c| .loop c=>cnt c+1|_=>0
def jL(G:Env):Code->Bool| .region _ ops _=>!rG G ops.toList| .seq x y=>jL G x||jL G y| .cond _ x y=>jL G x||jL G y| .block _ c=>jL G c| .loop c=>jL G c|_=>I
def gG:Code->eP| .region _ ops _=>ops.toList.filterMap (·.dst)| .seq x y=>gG x++gG y| .cond _ x y=>gG x++gG y| .block _ c=>gG c| .loop c=>gG c|_=>[]
def AZ(vs:dM)(d:AV)(k:Nat):eP->Nat->AV|[],_=>d|x::Lw,i=>bif aOU k x then gt vs i else AZ vs d k Lw<|i+1
def ov(b:Rg)(Lw a:eP)(vs:dM)(j:Rg):Rg:=λk=>AZ vs (bif a.elem k then b k else j k) k Lw 0
def ah(c:AV)(a B:Prop):Prop:=match c with| .s (.bool t)=>if t=U then a else B|_=>False
def jV(n:Nat)(B:dM->ae->Prop)(a:(dM->ae->Prop)->Prop):Prop:=a B
def jR(n:Nat)(B:dM->Prop)(a:(dM->Prop)->Prop):Prop:=a B
def lV(b:dM)(c:ae)(B:(dM->ae->Prop)->(dM->ae->Nat)->dM->ae->Prop):Prop:=∃a d,a b c/\∀vs Y,a vs Y->B a d vs Y
def lR(b:dM)(B:(dM->Prop)->(dM->Nat)->dM->Prop):Prop:=∃a c,a b/\∀vs,a vs->B a c vs
def Zq(P:Program)(G:Env)(T:dO)(an:List<|Option<|eP×eP):Code->Nat->QZ->Rg->ae->Prop
 | .skip,_,Q=>Q .normal
 | .label _,_,Q=>Q .normal
 | .region _ ops false,_,Q=>EM P G T ops ops.toList<|Q .normal
 | .region _ ops true,_,Q=>Rv P G T ops<|Q .normal
 | .seq x y,i,Q=>λd Y=>
  match an.getD i J with
  |none=>Zq P G T an x (i+1) (QZ.then (Zq P G T an y (i+1+cnt x) Q) Q) d Y
  |some p=>
   match jL G x with
   |true=>jV i (λvs Y=>∀j,Zq P G T an y (i+1+cnt x) Q (ov d p.1 p.2 vs j) Y) λb=>Zq P G T an x (i+1) (QZ.then (λe Y'=>b (p.1.map e) Y') Q) d Y
   |false=>jR i (λvs=>∀j,Zq P G T an y (i+1+cnt x) Q (ov d p.1 p.2 vs j) Y) λb=>Zq P G T an x (i+1) (QZ.then (λe _=>b<|p.1.map e) Q) d Y
 | .cond c x y,i,Q=>λd Y=>ah (AY G d c) (Zq P G T an x i Q d Y)<|Zq P G T an y (i+cnt x) Q d Y
 | .block g c,i,Q=>Zq P G T an c i<|QZ.inBlock g Q
 | .loop c,i,Q=>λd Y=>
  match an.getD i J with
  |none=>False
  |some p=>
   match jL G c with
   |true=>lV (p.1.map d) Y λa f vs Y=>∀j,Zq P G T an c (i+1) (QZ.then (λe Y'=>a (p.1.map e) Y'/\f (p.1.map e) Y'<f vs Y) Q) (ov d p.1 p.2 vs j) Y
   |false=>lR (p.1.map d) λa f vs=>∀j,Zq P G T an c (i+1) (QZ.then (λe _=>a (p.1.map e)/\f (p.1.map e)<f vs) Q) (ov d p.1 p.2 vs j) Y
 | .exit g,_,Q=>Q<|.exit g
 | .ret,_,Q=>Q .ret
 |_,_,_=>λ_ _=>False
def oG(an:List<|Option<|eP×eP):Code->Nat->Bool
 | .seq x y,i=>(match an.getD i J with|none=>U|some p=>p.2.all λk=>!(gG x).elem k)&&oG an x (i+1)&&oG an y (i+1+cnt x)
 | .cond _ x y,i=>oG an x i&&oG an y (i+cnt x)
 | .block _ c,i=>oG an c i
 | .loop c,i=>(match an.getD i J with|none=>U|some p=>p.2.all λk=>!(gG c).elem k)&&oG an c (i+1)
 |_,_=>U
section
variable{P:Program}{G:Env}{T:dO}{an:List (Option<|eP×eP)}{N:Nat}
theorem aBK{a}{d:Nat}{v}(h:d<L a):gt (a.set d v)=λk=>bif aOU k d then v else gt a k:=by grind [gt,aOU,zv]
theorem wd{a d v}(h:∀x,d=V x->x<L a):gt (ge a d v)=pu (gt a) d v:=by cases d with|none=>rfl|some d=>exact aBK<|h d rfl
theorem Be{a d v}:L (ge a d v)=L a:=by cases d<;>simp[ge]
theorem aRX{a d v k}(h:d≠V k):gt (ge a d v) k=gt a k:=by cases d with|none=>rfl|some d=>grind [gt,ge,oq]
theorem EE{ops a o b}(h:brq ops (gt a) o=V b):rh ops a o=V b:=by unfold brq at h;unfold rh;split at h;simp_all;rename_i g d;rw[d];simp only;split at h;grind;rename_i t c;rw[c];simp only;by_cases f:t<L a;have e:gt a t=a[t]:=(by grind [gt]);rw[List.getElem?_eq_getElem f];rw[e] at h;unfold gP at h;grind;have e:gt a t= .u:=(by grind [gt,List.getElem?_eq_none,Nat.le_of_not_lt]);rw[e] at h;cases h
theorem aqb(e:pq P G T){ops}{o:Oper}{K a Y}(f:∀x,o.dst=V x->x<L a)(h:EL P G T ops o K (gt a) Y):kS P G ops o (λτ' Y'=>L τ'=L a/\(∀k,o.dst≠V k->gt τ' k=gt a k)/\(iT G o.op=U->Y'=Y)/\K (gt τ') Y') a Y:=by unfold EL at h;simp only[aCT,aCU] at h;unfold kS;split at h;rename_i s hs;unfold mvS at hs;split at hs;(cases hs);rename_i g;have c:rh ops a o=V U:=(by grind [rh]);rw[c];have i:dz P (du G a) Y o.op=V (gt a s):=(by split at hs;rename_i b;split at hs;(cases hs;rw[b];rfl);(cases hs);rename_i b;split at hs;(cases hs;rw[b];rfl);(cases hs);cases hs);grind [awD,Be,aRX,wd];split at h;rename_i d;unfold gR at h;grind [EE,aNn,wd,Be,aRX,Ef];rename_i d;unfold gE at h;split at h;rename_i c;rw[EE c];rw[Ef] at h;refine aNk (K:=λav Y'=>_/\_/\(_->Y'=Y)/\K (gt<|ge a o.dst av) Y') ?_;grind [wd,Be,aRX];grind [EE,Be,aRX,wd];grind
theorem ak4{ops o K b a Y}(h:kS P G ops o K a Y)(c:∀a Y,K a Y->b a Y):kS P G ops o b a Y:=by grind [oE]
theorem aqc(b:pq P G T){ops K}:∀(l:List Oper) {a Y},(∀o∈l,∀x,o.dst=V x->x<L a)->EM P G T ops l K (gt a) Y->rE P G ops l (λτ' Y'=>L τ'=L a/\(∀k,k∉l.filterMap (·.dst)->gt τ' k=gt a k)/\(rG G l=U->Y'=Y)/\K (gt τ') Y') a Y:=λl=>by induction l with|nil=>intro a Y _ h;exact⟨A,λ_ _=>A,λ_=>A,h⟩|cons o l d=>intro a Y c h;refine ak4 (aqb b (c o O) h) ?_;grind [vN,rG]
end
section
variable{P:Program}{G:Env}{T:dO}{an:List (Option<|eP×eP)}{N:Nat}
def AK(a b:fY):Prop:=(b.1=U->a.1=U)/\∀k∈a.2,k∈b.2
def aCX{a b d e}(h:AK a d)(f:AK b e)(c:eL d e=U):eL a b=U:=by unfold eL at c⊢;rw[fH] at c⊢;obtain c|c:=c;left;rw[bN] at c⊢;exact⟨h.1 c.1,f.1 c.2⟩;right;rw[dV] at c⊢;intro k g;have:=c k<|h.2 k g;simp only[Bool.not_eq_true',List.contains_eq_mem,aPs] at this⊢;exactλi=>this<|f.2 k i
theorem aCZ{ops d Y o}:AK (lab P G ops d Y o) (ti P G (du G d) Y (o.dst.getD 0) o.op):=by unfold lab;split;generalize F:o.op=op;have m:∀c f,op= .call c->c.callee= .value f->vT G d Y o=ti P G (du G d) Y (o.dst.getD 0) op:=(by grind [vT,ti]);by_cases n:∃t x v,op= .store t x v;obtain⟨t,x,v,rfl⟩:=n;have l:vT G d Y o=(U,[]):=(by grind [vT]);simp only[dz,l];split;simp_all;refine⟨(by grind [ti]),λk a=>?_⟩;simp only[btH,aO3,Bool.or_self,eE,btd,cL] at a;simp only[ti,cL];(cases D:G.sv with|false=>exact a6O a|true=>exact a);exact⟨λ_=>A,λk a=>by simp at a⟩;by_cases C:∃c f,op= .call c/\c.callee= .value f;obtain⟨c,f,z,B⟩:=C;have u:dz P (du G d) Y op=J:=(by simp_all [dz]);have w:eA P (du G d) Y (o.dst.getD 0) op=J:=(by grind [eA]);rw[u,w];simp only;rw[m c f z B];exact⟨id,λk h=>h⟩;have y:ti P G (du G d) Y (o.dst.getD 0) op=(iT G op,iU (du G d) op++if iT G op||!(btH op||aO3 P op) then[] else[o.dst.getD 0]):=(by cases op with|buildSlice t len s=>grind [ti,iT,btH,aO3,aPm]|call c=>grind [ti,aO3,absurd]|store t x v=>simp_all|_=>grind [ti,aO3]);have l:vT G d Y o=(U,[]):=(by grind [vT,absurd]);rw[y];split;exact⟨λ_=>A,λk a=>by simp[a]⟩;rename_i p E e;refine⟨λi=>?_,λk a=>?_⟩;simp only at i⊢;(cases op<;>first|(simp[eA] at e;done)|(simp[iT] at i;done)|rfl|skip);rename_i c;obtain⟨g,j,r⟩:=c;(cases g with|builtin b=>(cases b<;>first|(simp[eA] at e;done)|grind [iT])|value f=>simp_all|invoke _ _=>simp[eA] at e);simp only[List.mem_append] at a⊢;obtain a|a:=a;grind [a6O];refine .inr ?_;split at a;rename_i q;simp only[q,Bool.not_true,Bool.or_false];split;rename_i i;exfalso;(cases op<;>first|(simp[eA] at e;done)|(simp[iT] at i;done)|(simp[btH,aO3] at q;done)|skip);rename_i c;obtain⟨g,j,r⟩:=c;(cases g with|builtin b=>(cases b<;>first|(simp[eA] at e;done)|grind [iT])|value f=>simp_all|invoke _ _=>simp[eA] at e);exact a;simp at a;rw[l];exact⟨λ_=>A,λk a=>by simp at a⟩;exact⟨λ_=>A,λk a=>by simp at a⟩
theorem aCY{E Y d op}(i:∀f,E (.func f)= .f f [] [])(h:iT G op=U):(ti P G E Y d op).1=U:=by unfold ti;split;rename_i c;split;rename_i f a;split;rename_i fn first cap j;obtain⟨e,b,g⟩:=c;simp only at a;subst a;(cases f<;>simp[iT] at h);simp_all;rfl;exact h;simp[iT] at h;simp[iT] at h;exact h
theorem aNm(q:pq P G T){ops K}:∀(l:List Oper) (acc a) {c Y},(∀o∈l,∀x,o.dst=V x->x<L c)->L acc=L a->(∀i,AK (acc.getD i (U,[]))<|a.getD i (U,[]))->(∀i,i<L a->iT G (ops.getD i default).op=U->(a.getD i (U,[])).1=U)->L a+L l=ops.size->(∀i o,l[i]?=V o->ops.getD (L a+i) default=o)->EK P G T ops l a K (gt c) Y->qq P G ops l acc (λd τ' Y'=>∃b,(∀i,AK (d.getD i (U,[]))<|b.getD i (U,[]))/\(∀i,i<ops.size->iT G (ops.getD i default).op=U->(b.getD i (U,[])).1=U)/\L τ'=L c/\(∀k,k∉l.filterMap (·.dst)->gt τ' k=gt c k)/\K b (gt τ') Y') c Y:=λl=>by induction l with|nil=>intro acc a c Y _ f g n p _ h;exact⟨a,g,vB,A,λ_ _=>A,h⟩|cons o l s=>intro acc a c Y r f g n p j h;simp only[EK,Ef] at h;refine ak4 (aqb q (r o O) h) ?_;rintro v w ⟨z,B,_,t⟩;refine zK ?_ l _ (s (acc++[lab P G ops c Y o]) (a++[ti P G (du G c) Y (o.dst.getD 0) o.op]) X (by simp[f]) ?_ ?_ X ?_ t);grind;grind [aCZ];intro i y m;simp only[List.getD_eq_getElem?_getD,List.getElem?_append];split;grind;obtain rfl:i=L a:=X;have e:=j 0 o O;rw[Nat.add_zero] at e;rw[e] at m;simp only[Nat.sub_self,List.getElem?_cons_zero,Option.getD_some];exact aCY (λ_=>A) m;intro i o' u;have:=j (i+1) o' X;rw[<-this];congr 1;grind
theorem ale{a R}:∀(l),dH a l R↔(∀p∈l,eL (a.getD p.1 (U,[])) (a.getD p.2 (U,[]))=U)/\R:=λl=>by induction l with|nil=>simp[dH]|cons p l b=>grind [dH]
theorem aNj(p:pq P G T){ops:Array Oper}{K a Y}(r:∀o∈ops.toList,∀x,o.dst=V x->x<L a)(h:Rv P G T ops K (gt a) Y):sF P G ops (λτ' Y'=>L τ'=L a/\(∀k,k∉ops.toList.filterMap (·.dst)->gt τ' k=gt a k)/\(rG G ops.toList=U->Y'=Y)/\K (gt τ') Y') a Y:=by unfold Rv at h;unfold sF;split at h;grind [aqc];rename_i s;rw[za<|by simp[s]];refine zK ?_ _ _ (aNm p ops.toList [] [] r A (λi=>⟨id,λk h=>h⟩) O O vB h);rintro t τ' Y' ⟨l,b,f,m,n,d⟩;rw[ale] at d;refine⟨?_,m,n,vB,d.2⟩;unfold xG;rw[fH];right;rw[dV];intro j e;rw[dV];intro i g;rw[fq] at e g;rw[fH];by_cases q:((Region.before ops).getD j 0).testBit i=U;exact .inl q;right;by_cases c:iT G (ops.getD i default).op=U/\iT G (ops.getD j default).op=U;unfold eL;have u:=(b i).1<|f i Z c.1;have v:=(b j).1<|f j e c.2;simp_all;refine aCX (b i) (b j)<|d.1 (i,j) ?_;unfold prs;rw[List.mem_flatMap];refine⟨j,fq.2 e,List.mem_filterMap.2 ⟨i,fq.2 g,?_⟩⟩;simp_all
theorem aEX{f:Rg}{d k}:∀(Lw) (a),AZ (a++Lw.map f) d k Lw (L a)=if k∈Lw then f k else d:=λLw=>by induction Lw with|nil=>grind [AZ]|cons x Lw c=>intro a;simp only[AZ];have:a++(x::Lw).map f=(a++[f x])++Lw.map f:=O;by_cases b:k=x;grind [aOU,zv,gt];grind [aOU,zv,a6G,List.length_cons,bhZ]
theorem Eg{c a:Rg}{Lw b}(h:∀k∈b,a k=c k):ov c Lw b (Lw.map a) a=a:=by funext k;unfold ov;have:=aEX (f:=a) (d:=bif b.elem k then c k else a k) (k:=k) Lw [];simp only[List.nil_append,bhZ] at this;rw[this];split;rfl;cases e:b.elem k with|false=>rfl|true=>rw[aRa];exact(h k<|List.elem_iff.1 e).symm
theorem Kj(hT:pq P G T):∀(c) (i) (Q) {b Y},(∀k∈gG c,k<L b)->oG an c i=U->Zq P G T an c i Q (gt b) Y->
  Xq P G c (λe τ' Y'=>L τ'=L b/\(∀k,k∉gG c->gt τ' k=gt b k)/\(jL G c=I->Y'=Y)/\Q e (gt τ') Y') b Y:=by
 intro c
 induction c with
 |skip=>intro i Q b Y t r h;exact⟨A,λ_ _=>A,λ_=>A,h⟩
 |label l=>intro i Q b Y t r h;exact⟨A,λ_ _=>A,λ_=>A,h⟩
 |exit C=>intro i Q b Y t r h;exact⟨A,λ_ _=>A,λ_=>A,h⟩
 |ret=>intro i Q b Y t r h;exact⟨A,λ_ _=>A,λ_=>A,h⟩
 |region C ops d=>
  intro i Q b Y t r h
  have M:∀o∈ops.toList,∀x,o.dst=V x->x<L b:=λo ho x hx=>t x (by grind [gG])
  cases d with
  |false=>
   refine vN ?_ _<|aqc hT _ M h
   rintro τ' Y' ⟨g,n,q,m⟩
   exact⟨g,n,(by grind [jL]),m⟩
  |true=>
   have:=aNj hT M h
   simp only[Xq]
   unfold sF at this⊢
   split at this
   ·rename_i W;rw[zg W]
    refine vN ?_ _ this
    rintro τ' Y' ⟨g,n,q,m⟩
    exact⟨g,n,vB,m⟩
   ·rename_i W;rw[za W]
    refine zK ?_ _ _ this
    rintro l τ' Y' ⟨S,g,n,q,m⟩
    exact⟨S,g,n,(by grind [jL]),m⟩
 |seq x y R am=>
  intro i Q b Y t r h
  simp only[oG,bN] at r
  have ag:∀k∈gG x,k<L b:=λk v=>t k (by simp[gG,v])
  have au:∀k∈gG y,k<L b:=λk v=>t k (by simp[gG,v])
  have ad:∀{f:dM} {s:ae},L f=L b->(∀k,k∉gG x->gt f k=gt b k)->(jL G x=I->s=Y)->Zq P G T an y (i+1+cnt x) Q (gt f) s->
    Xq P G y (λe τ' Y'=>L τ'=L b/\(∀k,k∉gG (.seq x y)->gt τ' k=gt b k)/\(jL G (.seq x y)=I->Y'=Y)/\Q e (gt τ') Y') f s:=by
   grind [kR,gG,jL,cP]
  have w:∀(K:Rg->ae->Prop),(∀f s,L f=L b->(∀k,k∉gG x->gt f k=gt b k)->(jL G x=I->s=Y)->K (gt f) s->Zq P G T an y (i+1+cnt x) Q (gt f) s)->Zq P G T an x (i+1) (QZ.then K Q) (gt b) Y->
    Xq P G (.seq x y) (λe τ' Y'=>L τ'=L b/\(∀k,k∉gG (.seq x y)->gt τ' k=gt b k)/\(jL G (.seq x y)=I->Y'=Y)/\Q e (gt τ') Y') b Y:=by
   intro K hK hx
   refine kR x ?_<|R _ _ ag r.1.2 hx
   rintro e f s ⟨g,n,q,m⟩
   cases e<;>first
    |exact ad g n q (hK _ _ g n q m)
    |(refine⟨g,(by grind [gG]),λB=>q ?_,m⟩;grind [jL,cP])
  simp only[Zq] at h
  split at h
  ·grind
  ·rename_i p hp
   have E:∀k∈p.2,k∉gG x:=by
    simp_all
   split at h
   ·refine w _ (λf s g n q m=>?_) h
    have:=m<|gt f
    grind [Eg]
   ·rename_i B
    refine w _ (λf s g n q m=>?_) h
    have:=m<|gt f
    grind [Eg]
 |cond c x y R am=>
  intro i Q b Y t r h
  simp only[oG,bN] at r
  simp only[Zq,ah,Ef] at h
  grind [Xq,kR,gG,jL,cP]
 |block C c F=>
  intro i Q b Y t r h
  refine kR c ?_<|F i _ t r h
  rintro e f s ⟨g,n,q,m⟩
  cases e with
  |exit j=>
   simp only[QX.inBlock]
   simp only[QZ.inBlock] at m
   by_cases hj:j=C
   ·rw[zg hj]
    have:aOU j C=U:=vB
    rw[this] at m
    exact⟨g,n,q,m⟩
   ·rw[za hj]
    have:aOU j C=I:=by grind [zv]
    rw[this] at m
    exact⟨g,n,q,m⟩
  |_=>exact⟨g,n,q,m⟩
 |loop c F=>
  intro i Q b Y t r h
  simp only[oG,bN] at r
  simp only[Zq] at h
  split at h
  ·exact h.elim
  ·rename_i p hp
   have E:∀k∈p.2,k∉gG c:=by
    simp_all
   split at h
   ·rename_i B
    obtain⟨a,μ,S,u⟩:=h
    refine⟨λτ' Y'=>L τ'=L b/\(∀k,k∉gG c->gt τ' k=gt b k)/\a (p.1.map<|gt τ') Y',λτ' Y'=>μ (p.1.map<|gt τ') Y',vB,?_⟩
    rintro f s ⟨g,n,q⟩
    have:=u _ _ q<|gt f
    rw[Eg vB] at this
    refine kR c ?_ (F _ _ (by rwa [g]) r.2 this)
    rintro e ao Y2 ⟨D,k2,k3,z⟩
    cases e<;>first
     |exact⟨⟨D.trans g,vB,z.1⟩,z.2⟩
     |exact⟨D.trans g,λk v=>(k2 k v).trans<|n k v,(by grind [absurd,jL]),z⟩
   ·rename_i B
    obtain⟨a,μ,S,u⟩:=h
    refine⟨λτ' Y'=>L τ'=L b/\(∀k,k∉gG c->gt τ' k=gt b k)/\Y'=Y/\a (p.1.map<|gt τ'),λτ' Y'=>μ<|p.1.map<|gt τ',vB,?_⟩
    rintro f s ⟨g,n,rfl,q⟩
    have:=u _ q<|gt f
    rw[Eg vB] at this
    refine kR c ?_ (F _ _ (by rwa [g]) r.2 this)
    rintro e ao Y2 ⟨D,k2,k3,z⟩
    cases e<;>first
     |exact⟨⟨D.trans g,vB,k3 B,z.1⟩,z.2⟩
     |exact⟨D.trans g,λk v=>(k2 k v).trans<|n k v,λ_=>k3 B,z⟩
 |_=>intro i Q b Y t r h;exact h.elim
end
def jS(Y:ae)(vs:dM):AV:=match vs with|[v]=>iZ Y v|vs=> .t<|vs.map<|iZ Y
def aE(R:AV->Prop)(Y:ae)(vs:dM):Prop:=kG (jS Y vs)=U/\R (jS Y vs)
def aoz(vs:dM):AV:=match vs with|[v]=>v|vs=> .t vs
def aRf(R:AV->ae->Prop)(Y:ae)(vs:dM):Prop:=R (aoz vs) Y
def uV(P:Program)(b:Rg)(Y:ae):List ResultVar->(dM->Prop)->Prop
 |[],K=>K []
 |x::l,K=>
  match x with
  | .tmp t=>uV P b Y l λvs=>K (b t::vs)
  | .cell a t=>match qK P t with|some k=>rV (sA k Y<|b a) λv=>uV P b Y l λvs=>K (v::vs)|none=>False
def Sg(P:Program)(f:Func)(R:AV->Prop):QZ:=λe a Y=>
 match e with
 | .normal=>uV P a Y f.results.toList λvs=>aE R Y vs
 | .ret=>uV P a Y f.results.toList λvs=>aE R Y vs
 |_=>False
def tO(P:Program)(f:Func)(R:AV->ae->Prop):QZ:=λe a Y=>
 match e with
 | .normal=>uV P a Y f.results.toList λvs=>aRf R Y vs
 | .ret=>uV P a Y f.results.toList λvs=>aRf R Y vs
 |_=>False
def ZF(P:Program)(G:Env)(T:dO)(an:List<|Option<|eP×eP)(f:Func)(ys:dM)(R:AV->Prop):Prop:=
 match f.body with
 |some c=>Zq P G T an c 0 (Sg P f R) (gt<|start f ys)<|ly f
 |none=>False
def ZB(P:Program)(G:Env)(T:dO)(an:List<|Option<|eP×eP)(f:Func)(ys:dM)(Y:ae)(R:AV->ae->Prop):Prop:=
 match f.body with
 |some c=>Zq P G T an c 0 (tO P f R) (gt<|start f ys) Y
 |none=>False
def uM(an:List<|Option<|eP×eP)(f:Func)(n:Nat):Bool:=
 match f.body with
 |some c=>(gG c).all (λk=>Nat.blt k f.ntmps)&&oG an c 0&&!(f.name== "runtime.NumGoroutine")&&Nat.ble n f.ntmps
 |none=>I
section
variable{P:Program}{G:Env}{T:dO}{an:List (Option<|eP×eP)}
theorem Ep{b Y}:∀(l) (K),uV P (gt b) Y l K->∃vs,(l.map<|kK P b Y).mapM id=V vs/\K vs:=λl=>by induction l with|nil=>intro K h;exact⟨[],A,h⟩|cons x l d=>intro K h;simp only[uV] at h;split at h;rename_i t;obtain⟨vs,g,c⟩:=d _ h;grind [gt,kK,xp,xq];rename_i a t;split at h;rename_i k i;obtain⟨v,f,h⟩:=jq h;obtain⟨vs,g,c⟩:=d _ h;refine⟨v::vs,?_,c⟩;have e:kK P b Y (.cell a t)=V v:=(by simp only[kK];rw[<-f];unfold sA gt;congr 1;grind [an8]);simp_all;grind
theorem aFg{f a Y vs}(h:(f.results.toList.map<|kK P a Y).mapM id=V vs):bt8 P f a Y=V (jS Y vs):=by unfold bt8;split;rename_i r c;rw[c] at h;simp only[aQa,aqT,id,xp,xq,a6X] at h;(cases r with|none=>(cases h)|some v=>simp only[a6X,aOe] at h;subst h;rfl);rename_i d;rw[h];simp only[df,aOe];unfold jS;split;rename_i v;have b:=Qn _ _ h;grind [buE,absurd];rfl
theorem QU{f a Y vs}(h:(f.results.toList.map<|kK P a Y).mapM id=V vs):wG P f a Y=V (aoz vs):=by unfold wG;split;rename_i r c;rw[c] at h;simp only[aQa,aqT,id,xp,xq,a6X] at h;(cases r with|none=>(cases h)|some v=>simp only[a6X,aOe] at h;subst h;rfl);rename_i d;rw[h];simp only[df,aOe];unfold aoz;split;rename_i v;have b:=Qn _ _ h;grind [buE,absurd];rfl
theorem aoI{f ys}(h:L ys<=f.ntmps):L (start f ys)=f.ntmps:=by grind [start,a6G,oA]
theorem anI{f n}(h:uM an f n=U):∃c,f.body=V c/\(∀k∈gG c,k<f.ntmps)/\oG an c 0=U/\(f.name== "runtime.NumGoroutine")=I/\n<=f.ntmps:=by unfold uM at h;split at h;simp_all;cases h
def uq(m:tQ P)(j:pq P G T){fn f ys R}(k:P.funcs[fn]?=V f)(l:uM an f (L ys)=U)(h:ZF P G T an f ys R):Fn P G fn ys R:=by obtain⟨c,d,q,g,i,b⟩:=anI l;unfold ZF at h;rw[d] at h;simp only at h;refine aBg m k d i b (kR c ?_<|Kj j c 0 _ (by rwa [aoI b]) g h);rintro e r Y ⟨_,_,_,a⟩;(cases e<;>simp only[Sg] at a<;>first|exact a.elim|skip);all_goals obtain⟨vs,n,o,p⟩:=Ep _ _ a;exact⟨_,aFg n,o,p⟩
def aBe(n:tQ P)(k:pq P G T){fn f ys Y R}(l:P.funcs[fn]?=V f)(m:uM an f (L ys)=U)(h:ZB P G T an f ys Y R):∃r b,R r b/\cZ P G fn ys Y r b:=by obtain⟨c,d,q,g,i,j⟩:=anI m;unfold ZB at h;rw[d] at h;simp only at h;refine aBf n l d i (kR c ?_<|Kj k c 0 _ (by rwa [aoI j]) g h);rintro e s Y ⟨_,_,_,a⟩;(cases e<;>simp only[tO] at a<;>first|exact a.elim|skip);all_goals obtain⟨vs,o,p⟩:=Ep _ _ a;exact⟨_,QU o,p⟩
end
abbrev iv(n:Int):AV:= .s<|.int .i64 n
abbrev bv(b:Bool):AV:= .s<|.bool b
abbrev sv(l:List UInt8):AV:= .s<|.string ⟨l.toArray⟩
def lb(r:Bool)(xs:dM)(d:eP):fY:=(r,xs.flatMap aNG++d)
def lbV(Y:ae)(x v:AV):fY:=(I,(if aBG Y x=U then aNG x else[x,v].flatMap aNG)++[])
def Qh(xs:dM):fY:=(U,xs.flatMap aNG)
def cq(r:Bool)(Y:ae):fY:=(r,vO Y)
def lbF(G:Env)(f:AV)(xs:dM)(Y:ae)(d:Nat):fY:=
 match f with
 | .f fn first cap=>if G.nw fn=U then(I,(f::xs).flatMap aNG++[d]) else if G.imp fn=U then(G.rd fn,aQn G fn Y) else(U,(f::xs).flatMap aNG)
 |_=>(U,[])
def mY{e z d N cs a Y b}(j:eY a=V cs)(n:L cs=z)(i:0<z)(l:d<N)(g:L Y=N)(m:(aZ Y d).ver=0)(f:∀Y',L Y'=N->box Y' (d,1)=V ⟨e,z,U,U,[cs]⟩->(∀k v,k≠d->box Y' (k,v)=box Y (k,v))->(∀k,k≠d->aZ Y' k=aZ Y k)->b (.p (d,1) 0 0) Y'):eV (bxA e z Y d a) b:=by have:d<L Y:=Z;have c:bxA e z Y d a=V (.p (d,1) 0 0,put Y d ⟨e,z,U,U,[cs]⟩):=(by grind [bxA,vg,lA]);rw[c];have h:∀k,k≠d->aZ (put Y d ⟨e,z,U,U,[cs]⟩) k=aZ Y k:=(by grind [aZ,put,oq]);refine f _ (by simp[put,g]) ?_ (by grind [box]) h;grind [iy,lA]
def iN{e z d cs a Y c}(l:eY a=V cs)(o:L cs=z)(j:0<z)(m:d<4096)(n:L Y=4096)(g:∀(Y') (v),Kp Y Y'->(∀k,k≠d->aZ Y' k=aZ Y k)->(∀x,box Y (d,v)≠V x)->box Y' (d,v)=V ⟨e,z,U,U,[cs]⟩->c (.p (d,v) 0 0) Y'):eV (bxA e z Y d a) c:=by have b:d<L Y:=Z;have f:bxA e z Y d a=V (.p (lA Y d) 0 0,put Y d ⟨e,z,U,U,[cs]⟩):=(by grind [bxA,vg]);rw[f];exact g _ _ (am8 b) (λk h=>jQ h) (λx i=>AR i A)<|iy b
def uB{f}:L (ly f)=4096:=oA ..
end Go.Ab
