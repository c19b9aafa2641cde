/- Part of the proof of EncodeNames, made short by a program. -/
import Derived.Test.YtmilgmjhdfijjaaGreatDoorA
set_option linter.all false
open Bool renaming and_eq_true->bN,false->I,false_eq_true->eE,not_eq_true->EQ,not_eq_true'->eH,or_eq_false_iff->cP,or_eq_true->fH,or_false->kz,true->U
open Decidable renaming decide->Q
open List renaming all_eq_true->dV,append_nil->cL,elem_iff->RI,getD_eq_getElem?_getD->eI,getElem?_append->rA,getElem?_set_ne->oq,length->L,length_append->P8,length_cons->bZ,length_eq_one_iff->xj,length_nil->vw,length_replicate->oA,mapM_cons->aQa,mapM_nil->aqT,map_cons->ji,mem_append->dF,mem_filterMap->xk,mem_range->fq,nil_append->dW,range->aH,replicate->er
open Nat renaming add_zero->kP,beq->pp,beq_eq->zv,zero_add->aj
open Option renaming bind_eq_bind->xp,bind_some->qd,map_map->Sc,map_some->df,none->J,pure_def->xq,some->V,some.injEq->bE
namespace Go.Ab
open Go Go.RowKit
abbrev Rg:=Nat->AV
def gt(a:List AV)(i:Nat):AV:=a.getD i .u
def AY(G:nn)(a:Rg):Operand->AV
 | .tmp t=>a t
 | .const v=>Dg v
 | .global g=>match G g with|some cs=> .q cs|none=> .u
 | .func f=> .f f [] []
def Ef(G:nn)(a:List AV):AY G (gt a)=du G a:=by funext x;cases x<;>rfl
def rV(o:Option AV)(K:AV->Prop):Prop:=match o with|some v=>K v|none=>False
def eV(o:Option (AV×ae))(K:AV->ae->Prop):Prop:=match o with|some p=>K p.1 p.2|none=>False
def sV(o:Option ae)(K:ae->Prop):Prop:=match o with|some p=>K p|none=>False
def mL(c a b:AV):Option AV:=match c with| .s (.bool t)=>V (if t then a else b)|_=>J
def aN(k:Option Nat)(cs:List AV):Option AV:=
 match k with
 |some n=>if n<=L cs then V (.a (cs.take n)) else J
 |none=>cs[0]?
def qK(P:Program)(t:TypeId):Option (Option Nat):=
 match tU P t,fG P t with
 |some true,some n=>V (V n)
 |some false,_=>V J
 |_,_=>J
def kb(k:Option Nat)(Y:ae)(x:AV):Option AV:=(iE Y x).bind (aN k)
def cO(Y:ae)(x:AV):Option AV:=
 match x with
 | .p b i j=>(box Y b).map λ_=> .p b i j
 | .q cs=>V (.q cs)
 | .f fn a b=>V (.f fn a b)
 |_=>J
def zP(op:BinOp)(c:Nat):Value->Value->Option Value
 | .int k a, .int d b=>
  match op with
  | .shl=>if b<0 then J else V (.int k (k.wrap (a*2^(min b.toNat k.bits))))
  | .shr=>if b<0 then J else V (.int k (a.fdiv (2^(min b.toNat k.bits))))
  | .add=>if k=d then V (.int k (k.wrap (a+b))) else J
  | .sub=>if k=d then V (.int k (k.wrap (a-b))) else J
  | .mul=>if k=d then V (.int k (k.wrap (a*b))) else J
  | .quo=>if k=d/\b≠0 then V (.int k (k.wrap (a.tdiv b))) else J
  | .rem=>if k=d/\b≠0 then V (.int k (a.tmod b)) else J
  | .and=>if k=d then V (.int k (k.wrap (BitVec.ofInt k.bits a&&&BitVec.ofInt k.bits b).toNat)) else J
  | .or=>if k=d then V (.int k (k.wrap (BitVec.ofInt k.bits a|||BitVec.ofInt k.bits b).toNat)) else J
  | .xor=>if k=d then V (.int k (k.wrap (BitVec.ofInt k.bits a^^^BitVec.ofInt k.bits b).toNat)) else J
  | .andNot=>if k=d then V (.int k (k.wrap (BitVec.ofInt k.bits a&&&~~~(BitVec.ofInt k.bits b)).toNat)) else J
  | .eql=>if k=d then V (.bool (a==b)) else J
  | .neq=>if k=d then V (.bool (a !=b)) else J
  | .lss=>if k=d then V (.bool (Q (a<b))) else J
  | .leq=>if k=d then V (.bool (Q (a<=b))) else J
  | .gtr=>if k=d then V (.bool (Q (b<a))) else J
  | .geq=>if k=d then V (.bool (Q (b<=a))) else J
 | .string a, .string b=>
  match op with
  | .eql=>V (.bool (a.toList==b.toList))
  | .neq=>V (.bool (!(a.toList==b.toList)))
  | .lss=>V (.bool (Op.bytesLess a.toList b.toList))
  | .leq=>V (.bool (Op.bytesLess a.toList b.toList||a.toList==b.toList))
  | .gtr=>V (.bool (!(Op.bytesLess a.toList b.toList||a.toList==b.toList)))
  | .geq=>V (.bool (!(Op.bytesLess a.toList b.toList)))
  | .add=>if a.size+b.size<=1099511627776 then V (.string (a++b)) else J
  |_=>J
 | .bool a, .bool b=>
  match op with
  | .eql=>if c=1 then V (.bool (a==b)) else J
  | .neq=>if c=1 then V (.bool (!(a==b))) else J
  |_=>J
 |_,_=>J
def wl(op:BinOp)(c:Nat)(fs:List (Nat×Nat))(x y:AV):Option AV:=
 match x,y with
 | .s a, .s b=>(zP op c a b).map .s
 | .a xs, .a ys=>
  match op with
  | .eql=>if c=2 then(nW xs ys fs).map λr=> .s (.bool r) else J
  | .neq=>if c=2 then(nW xs ys fs).map λr=> .s (.bool (!r)) else J
  |_=>J
 |_,_=>J
def tyK(P:Program)(t:TypeId):Nat×List (Nat×Nat):=
 match P.underlying t with
 |some .bool=>(1,[])
 |some (.struct fs)=>if P.stoodInHeld t=I/\P.eqGuardType P.depth t=I then(match nk P fs.toList with|some l=>(2,l)|none=>(0,[])) else(0,[])
 |_=>(0,[])
def cR(op:UnOp)(x:AV):Option AV:=
 match op,x with
 | .not, .s (.bool b)=>V (.s (.bool (!b)))
 | .neg, .s (.int k n)=>V (.s (.int k (k.wrap (0-n))))
 |_,_=>J
def KD(P:Program)(b a:TypeId):Option (Option IntKind):=
 match P.underlying b,P.underlying a with
 |some _,some (.int k)=>V (V k)
 |some .string,some .string=>V J
 |_,_=>J
def sO(k:Option IntKind)(x:AV):Option AV:=
 match k,x with
 |some k, .s (.int _ n)=>V (.s (.int k (k.wrap n)))
 |none, .s (.string s)=>V (.s (.string s))
 |_,_=>J
def KR(P:Program)(s:TypeId)(f:Nat):Option Nat:=
 match P.underlying s with
 |some (.struct fs)=>
  match fs[f]? with
  |some a=>
   match fG P a.type with
   |some (_+1)=>V a.offset
   |_=>J
  |none=>J
 |_=>J
def iQ(off:Nat)(Y:ae)(x:AV):Option AV:=
 match x with
 | .p b i j=>(box Y b).map λ_=> .p b i (j+off)
 | .q cs=>V (.q (cs.drop off))
 |_=>J
def yy(k:Option Nat)(cs:List AV)(off:Nat):Option AV:=
 match k with
 |some n=>V (.a ((cs.drop off).take n))
 |none=>cs[off]?
def QF(P:Program)(t:TypeId)(f:Nat):Option (Nat×Option Nat):=
 match P.underlying t with
 |some (.struct fs)=>match fs[f]? with|some a=>(qK P a.type).map λk=>(a.offset,k)|none=>J
 |_=>J
def cK(off:Nat)(k:Option Nat)(x:AV):Option AV:=match x with| .a cs=>yy k cs off|_=>J
def cz(z:Nat)(Y:ae)(x ix:AV):Option AV:=
 match ix with
 | .s (.int _ i)=>
  if 0<=i then
   match x with
   | .l aa _ _=>(aa[i.toNat]?).bind λr=>if z=L r then V (.q r) else J
   | .m b n=>(box Y b).bind λa=>if i.toNat<n/\z=a.size then V (.p b i.toNat 0) else J
   | .g k b o n=>(box Y b).bind λa=>if k=2/\i.toNat<n/\z=a.size then V (.p b (o+i.toNat) 0) else J
   |_=>J
  else J
 |_=>J
def wm(n z:Nat)(Y:ae)(x ix:AV):Option AV:=
 match ix with
 | .s (.int _ i)=>
  if 0<=i then
   if i.toNat<n then
    match x with
    | .p b k j=>(box Y b).map λ_=> .p b k (j+i.toNat*z)
    | .q cs=>V (.q (cs.drop (i.toNat*z)))
    |_=>J
   else J
  else J
 |_=>J
def sxA(x ix:AV):Option AV:=
 match ix,x with
 | .s (.int _ i), .s (.string s)=>if 0<=i then(s[i.toNat]?).map λb=> .s (.int .u8 b.toNat) else J
 |_,_=>J
def sI(n z:Nat)(k:Option Nat)(x ix:AV):Option AV:=
 match ix,x with
 | .s (.int _ i), .a cs=>if 0<=i/\i<n then yy k cs (i.toNat*z) else J
 |_,_=>J
def eO(i:Nat)(x:AV):Option AV:=match x with| .t vs=>vs[i]?|_=>J
def lM(x:Option AV):Option (Option Nat):=
 match x with
 |none=>V J
 |some v=>match v with| .s (.int _ n)=>if 0<=n then V (V n.toNat) else J|_=>J
def qY(z:Nat)(Y:ae)(x:AV)(lo a mx:Option Nat):Option AV:=
 match x with
 | .l aa c own=>
  if lo.getD 0<=a.getD (L aa)/\a.getD (L aa)<=L aa/\(∀r∈aa,z=L r) then
   if mx=J then V (.l ((aa.drop (lo.getD 0)).take (a.getD (L aa)-lo.getD 0)) (c&&a.getD (L aa)==L aa) own)
   else if a.getD (L aa)<=mx.getD 0/\mx.getD 0<=L aa/\a.isSome then V (.l ((aa.drop (lo.getD 0)).take (a.getD (L aa)-lo.getD 0)) (mx.getD 0==a.getD (L aa)) own)
   else J
  else J
 | .m b n=>(box Y b).bind λd=>if lo=J/\mx=J/\a.getD n<=n then V (.m b (a.getD n)) else if mx=J/\lo.getD 0<=a.getD n/\a.getD n<=n/\z=d.size then V (if lo.getD 0=a.getD n then .l [] I I else .g 2 b (lo.getD 0) (a.getD n-lo.getD 0)) else J
 |_=>J
def fo(z:Nat)(Y:ae)(x:AV)(lo a mx:Option AV):Option AV:=
 match lM lo,lM a,lM mx with
 |some l,some h,some m=>qY z Y x l h m
 |_,_,_=>J
def ssK(x:AV)(lo a mx:Option Nat):Option AV:=
 match x with
 | .s (.string s)=>if mx=J/\lo.getD 0<=a.getD s.size/\a.getD s.size<=s.size then V (.s (.string (s.extract (lo.getD 0) (a.getD s.size)))) else J
 |_=>J
def Q8(x:AV)(lo a mx:Option AV):Option AV:=
 match lM lo,lM a,lM mx with
 |some l,some h,some m=>ssK x l h m
 |_,_,_=>J
def fS(Y:ae)(x:AV):Option AV:=
 match x with
 | .l aa _ _=>V (.s (.int .i64 (L aa)))
 | .m b n=>(box Y b).map λ_=> .s (.int .i64 n)
 | .g k b _ n=>(box Y b).bind λ_=>if k=2 then V (.s (.int .i64 n)) else J
 |_=>J
def lsA(x:AV):Option AV:=match x with| .s (.string s)=>V (.s (.int .i64 s.size))|_=>J
def bs(e:TypeId)(zs:List AV)(Y:ae)(d:Nat):Option (AV×ae):=
 if 0<L zs/\y7 Y d=U then V (.p (lA Y d) 0 0,put Y d ⟨e,L zs,U,U,[zs]⟩) else J
def qm(e:TypeId)(z:Nat)(Y:ae)(d:Nat)(x:AV):Option (AV×ae):=
 match eY x with
 |some cs=>if L cs=z/\0<z/\y7 Y d=U then V (.p (lA Y d) 0 0,put Y d ⟨e,z,U,U,[cs]⟩) else J
 |none=>J
def QG(P:Program)(t:TypeId):Option (List (Nat×Nat)):=
 match P.underlying t with
 |some (.struct a)=>a.toList.mapM (λf=>(P.info? f.type).map λi=>(f.offset,i.size))
 |_=>J
def bM(zs:List AV)(b:List (Nat×Nat))(c:List (Nat×AV)):Option AV:=(gp (λi=>b[i]?) zs c).map .a
def tY(zs:List AV)(z:Nat)(b:List (Nat×AV)):Option AV:=(gp (λi=>V (i*z,z)) zs b).map .a
def aX(zs:List AV)(len:Nat)(Y:ae)(a:List (Nat×AV)):Option (AV×ae):=(if len*L zs<=16777216/\0<L zs then(gp (λi=>V (i*L zs,L zs)) ((er len zs).flatten) (a.map λp=>(p.1,nrm (eR Y p.2)))).bind (λfl=>if fl.all eN=U then V (kC (L zs) len fl) else J) else J).map λaa=>(.l aa U U,kills Y (a.flatMap λp=>eB p.2))
def qO(e:TypeId)(zs:List AV)(by':Nat)(Y:ae)(d:Nat)(l c:AV):Option (AV×ae):=
 match l,c with
 | .s (.int _ l), .s (.int _ c)=>if 0<=l/\l<=c/\0<L zs/\zs.all eN=U/\y7 Y d=U/\c*(by'+1)<=lx then V (.m (lA Y d) l.toNat,put Y d ⟨e,L zs,U,uj zs,er l.toNat (mz zs)⟩) else J
 |_,_=>J
def pW(z:Nat)(Y:ae)(x v:AV):Option ae:=
 match x with
 | .p b i j=>
  match box Y b,eY v with
  |some a,some cs=>
   match a.aa[i]? with
   |some r=>if z=L cs/\j+L cs<=L r/\(a.var=I->cs.all eN=U) then V (wr Y b ⟨a.elem,a.size,a.own,a.var,a.aa.set i (r.take j++cs++r.drop (j+L cs))⟩) else J
   |none=>J
  |_,_=>J
 |_=>J
def aK(z:Nat)(Y:ae)(x v:AV):Option ae:=
 if aBG Y x=U then pW z Y x v else pW z (kills Y (eB v)) x (nrm (eR Y v))
def j5(e:TypeId)(zs:List AV)(by':Nat)(Y:ae)(d:Nat)(s x:AV):Option (AV×ae):=
 match gL Y x with
 |some new=>
  if L new=0 then
   match s with
   | .l aa c own=>V (.l aa c own,Y)
   | .m b n=>(box Y b).map λ_=>(.m b n,Y)
   |_=>J
  else if 0<L zs/\y7 Y d=U/\(∀r∈new,L r=L zs) then
   match s with
   | .l aa true _=>
    if(∀r∈aa,L r=L zs)/\(L aa+L new)*(by'+1)<=lx then
     V (.m (lA Y d) (L aa+L new),put Y d ⟨e,L zs,U,I,aa++new⟩)
    else J
   | .m b n=>
    match box Y b with
    |some a=>
     if a.elem=e/\a.var=I/\a.size=L zs/\n<=L a.aa/\(n+L new)*(by'+1)<=lx then
      V (.m (lA Y d) (n+L new),put (kill Y b) d ⟨e,L zs,a.own,I,a.aa.take n++new⟩)
     else J
    |none=>J
   |_=>J
  else J
 |none=>J
def avA(e:TypeId)(zs:List AV)(by':Nat)(Y:ae)(d:Nat)(s x:AV):Option (AV×ae):=
 match aEx U Y x with
 |some new=>
  if L new=0 then
   match s with
   | .l aa c own=>V (.l aa c own,Y)
   | .m b n=>(box Y b).map λ_=>(.m b n,Y)
   |_=>J
  else if 0<L zs/\y7 Y d=U/\(∀r∈new,L r=L zs) then
   match s with
   | .l aa true _=>
    if(∀r∈aa,L r=L zs)/\(L aa+L new)*(by'+1)<=lx then
     V (.m (lA Y d) (L aa+L new),put Y d ⟨e,L zs,U,U,aa++new⟩)
    else J
   | .m b n=>
    match box Y b with
    |some a=>
     if a.elem=e/\a.var=U/\a.size=L zs/\n<=L a.aa/\(n+L new)*(by'+1)<=lx then
      V (.m (lA Y d) (n+L new),put (kill Y b) d ⟨e,L zs,a.own,U,a.aa.take n++new⟩)
     else J
    |none=>J
   |_=>J
  else J
 |none=>J
def lvS(e:TypeId)(zs:List AV)(len:Nat)(Y:ae)(d:Nat)(a:List (Nat×AV)):Option (AV×ae):=
 match a with
 |[(0,x)]=>(match eY x with|some cs=>if len=1/\L cs=L zs/\0<L zs/\L zs<=1000/\y7 Y d=U then V (.m (lA Y d) 1,put Y d ⟨e,L zs,U,U,[cs]⟩) else J|none=>J)
 |_=>J
section
variable{P:Program}{G:nn}{E:Operand->AV}{Y:ae}
def an8{t:TypeId}{k:Option Nat}{cs:List AV}(h:qK P t=V k):yz P t cs=aN k cs:=by unfold qK at h;unfold yz;split at h;rename_i n a b;cases h;simp only[a,b,aN];rename_i a;cases h;simp only[a,aN];cases h
def aC3{t:TypeId}{k:Option Nat}{x:Operand}(h:qK P t=V k):dz P E Y (.load t x)=kb k Y (E x):=by simp only[dz,kb];congr 1;funext cs;exact an8 h
def anQ{t:TypeId}{k:Option Nat}{cs:List AV}{off:Nat}(h:qK P t=V k):yx P t cs off=yy k cs off:=by unfold qK at h;unfold yx;split at h;rename_i n a b;cases h;simp only[a,b,yy];rename_i a;cases h;simp only[a,yy];cases h
def awv{t:TypeId}{op:BinOp}{a b v:Value}(h:zP op (tyK P t).1 a b=V v):vP P t op a b=V v:=by unfold zP at h;unfold vP;split at h;exact h;exact h;rename_i a b;have d:(tyK P t).1=1->P.underlying t=V .bool:=(by intro c;unfold tyK at c;split at c;assumption;split at c;split at c<;>simp at c;simp at c;simp at c);(cases op<;>simp only at h<;>first|(cases h;done)|skip);split at h;rename_i c;rw[d c];exact h;(cases h);split at h;rename_i c;rw[d c];exact h;(cases h);cases h
def awt{t m:TypeId}{op:BinOp}{x y:Operand}{v:AV}(h:wl op (tyK P t).1 (tyK P t).2 (E x) (E y)=V v):dz P E Y (.binOp op t x y m)=V v:=by unfold wl at h;simp only[dz];split at h;rename_i a b c d;rw[c,d];simp only;(cases g:zP op (tyK P t).1 a b with|none=>rw[g] at h;cases h|some u=>rw[g] at h;rw[awv g];exact h);rename_i xs ys c d;rw[c,d];have f:∀r,(tyK P t).1=2->nW xs ys (tyK P t).2=V r->sR P t xs ys=V r:=(by intro r c d;unfold tyK at c d;unfold sR;split at c;simp at c;rename_i fs j;rw[j] at d;simp only[j] at d⊢;split at c;rename_i k;rw[bX k] at d⊢;split at c;rename_i l i;simp only[i] at d;exact alU _ _ i d;simp at c;simp at c;simp at c);(cases op<;>simp only at h⊢<;>first|(cases h;done)|skip);split at h;rename_i c;(cases e:nW xs ys (tyK P t).2 with|none=>rw[e] at h;cases h|some r=>rw[e] at h;rw[f r c e];exact h);(cases h);split at h;rename_i c;(cases e:nW xs ys (tyK P t).2 with|none=>rw[e] at h;cases h|some r=>rw[e] at h;rw[f r c e];exact h);(cases h);cases h
def axC{d a:TypeId}{k:Option IntKind}{x:Operand}{v:AV}(c:KD P d a=V k)(h:sO k (E x)=V v):dz P E Y (.convert d a x)=V v:=by simp only[dz];unfold KD at c;generalize P.underlying d=g at*;generalize P.underlying a=f at*;generalize E x=e at*;split at c;(cases c);unfold sO at h;split at h;rename_i b;cases b;exact h;rename_i b;cases b;(cases h);(cases c);unfold sO at h;split at h;rename_i b;cases b;exact h;(cases h);cases c
def azP{s:TypeId}{f off:Nat}{x:Operand}(a:KR P s f=V off):dz P E Y (.fieldAddr s x f)=iQ off Y (E x):=by unfold KR at a;simp only[dz,vX];split at a;rename_i fs d;simp only[d];split at a;rename_i e b;simp only[b];split at a;rename_i n c;cases a;simp only[c];rfl;(cases a);(cases a);cases a
def aBd{t:TypeId}{f off:Nat}{k:Option Nat}{x:Operand}(a:QF P t f=V (off,k)):dz P E Y (.field t x f)=cK off k (E x):=by unfold QF at a;simp only[dz,cK];split at a;rename_i fs e;simp only[e];split at a;rename_i c d;(cases b:qK P c.type with|none=>rw[b] at a;cases a|some g=>rw[b] at a;simp only[df,bE,Prod.mk.injEq] at a;obtain⟨rfl,rfl⟩:=a;(cases E x<;>simp only);rw[d];simp only[qd];exact anQ b);(cases a);cases a
def aCa{t e:TypeId}{z:Nat}{x ix:Operand}(a:P.underlying t=V (.slice e))(b:fG P e=V z):dz P E Y (.indexAddr t x ix)=cz z Y (E x) (E ix):=by simp only[dz,cz];split<;>simp_all only;split;simp only[uy,a,b,bE];(cases E x<;>rfl);rfl
def aBZ{t e:TypeId}{n z:Nat}{x ix:Operand}(a:P.underlying t=V (.array n e))(b:fG P e=V z):dz P E Y (.indexAddr t x ix)=wm n z Y (E x) (E ix):=by simp only[dz,wm];split<;>simp_all only;split;simp only[uy,a,b];split<;>rfl;rfl
def aIB{t:TypeId}{x ix:Operand}(c:P.underlying t=V .string):dz P E Y (.index t x ix)=sxA (E x) (E ix):=by simp only[dz,sxA,c];generalize E ix=a;generalize E x=b;(cases a<;>(try rfl));rename_i v;(cases v<;>(try rfl));(all_goals(cases b<;>(try rfl)));rename_i v;cases v<;>rfl
def avS{t e:TypeId}{n z:Nat}{k:Option Nat}{x ix:Operand}(d:P.underlying t=V (.array n e))(f:fG P e=V z)(c:qK P e=V k):dz P E Y (.index t x ix)=sI n z k (E x) (E ix):=by simp only[dz,sI,d];generalize E ix=a;generalize E x=b;(cases a<;>(try rfl));rename_i v;(cases v<;>(try rfl));(cases b<;>(try rfl));simp only[f,qd,anQ c]
def alu(lo:Option Operand):rH E lo=lM (lo.map E):=by cases lo<;>rfl
def aIj{t e:TypeId}{z:Nat}{x:Operand}{lo a mx:Option Operand}(b:P.underlying t=V (.slice e))(c:fG P e=V z):dz P E Y (.slice t x lo a mx)=fo z Y (E x) (lo.map E) (a.map E) (mx.map E):=by simp only[dz,fo,alu];split<;>simp_all only;simp only[uX,qY,b,c];cases E x<;>simp
def aIq{t:TypeId}{x:Operand}{lo a mx:Option Operand}(b:P.underlying t=V .string):dz P E Y (.slice t x lo a mx)=Q8 (E x) (lo.map E) (a.map E) (mx.map E):=by simp only[dz,Q8,alu];split<;>simp_all only;simp only[uX,ssK,b];rfl
def aDj{t e:TypeId}{x:Operand}{c:Call}(d:P.underlying t=V (.slice e))(a:c.argTypes[0]?=V t)(b:c.args[0]?=V x):nP P E Y .len c=fS Y (E x):=by simp only[nP,a,b,yj,aPH,d,fS];cases E x<;>simp
def aDn{t:TypeId}{x:Operand}{c:Call}(d:P.underlying t=V .string)(a:c.argTypes[0]?=V t)(b:c.args[0]?=V x):nP P E Y .len c=lsA (E x):=by simp only[nP,a,b,yj,aPH,d,lsA];(cases E x<;>simp);rename_i v;cases v<;>simp
def aCW{t e:TypeId}{n:Nat}{x:Operand}{c:Call}(d:P.underlying t=V (.array n e))(a:c.argTypes[0]?=V t)(b:c.args[0]?=V x):nP P E Y .len c=V (.s (.int .i64 n)):=by simp only[nP,a,b,yj,aPH,d];cases E x<;>simp
def asp{e:TypeId}{zs:List AV}{d:Nat}(h:jF P e=V zs):eA P E Y d (.alloc e)=bs e zs Y d:=by simp only[eA,h,bs]
def awK{e:TypeId}{z d:Nat}{x:Operand}(h:fG P e=V z):eA P E Y d (.box e x)=qm e z Y d (E x):=by simp only[eA,h,qm];generalize E x=a;cases eY a<;>rfl
def av8{t:TypeId}{zs:List AV}{pl:List (Nat×Nat)}{d:Nat}{a:Array (Nat×Operand)}(c:jF P t=V zs)(b:QG P t=V pl):eA P E Y d (.build t a)=(bM zs pl (a.toList.map λp=>(p.1,E p.2))).map λv=>(v,Y):=by unfold QG at b;split at b;rename_i fs e;simp only[eA,vS,e,c,b,bM,Sc];rfl;cases b
def awC{t e:TypeId}{n z:Nat}{zs:List AV}{d:Nat}{a:Array (Nat×Operand)}(b:jF P t=V zs)(c:P.underlying t=V (.array n e))(f:fG P e=V z):eA P E Y d (.build t a)=(tY zs z (a.toList.map λp=>(p.1,E p.2))).map λv=>(v,Y):=by simp only[eA,vS,c,b,f,tY,Sc];rfl
def awF{t e:TypeId}{len d:Nat}{zs:List AV}{a:Array (Nat×Operand)}(c:P.underlying t=V (.slice e))(f:aOy P e=V zs)(b:aPm P t=I):eA P E Y d (.buildSlice t len a)=aX zs len Y (a.toList.map λp=>(p.1,E p.2)):=by simp only[eA,b,eE,aB9,xB,c,f,aX,List.map_map,List.flatMap_map];rfl
def aD4{t e:TypeId}{d:Nat}{zs:List AV}{l c:Operand}(a:P.underlying t=V (.slice e))(b:aOy P e=V zs):eA P E Y d (.makeSlice t l c)=qO e zs (mZ P e) Y d (E l) (E c):=by simp only[eA,qO];split<;>simp_all only;simp only[wA,a,b]
def aIs{t:TypeId}{z:Nat}{x v:AV}{Y:ae}(a:fG P t=V z):ra P Y t x v=pW z Y x v:=by simp only[ra,pW,a,bE];rfl
def aIr{t:TypeId}{z d:Nat}{x v:Operand}(a:fG P t=V z):eA P E Y d (.store t x v)=(aK z Y (E x) (E v)).map λY'=>(.t [],Y'):=by simp only[eA,aK,aIs a];split<;>rfl
def bdR{t e:TypeId}{len d:Nat}{zs:List AV}{a:Array (Nat×Operand)}(c:P.underlying t=V (.slice e))(f:aOy P e=V zs)(b:aPm P t=U):eA P E Y d (.buildSlice t len a)=lvS e zs len Y d (a.toList.map λp=>(p.1,E p.2)):=by simp only[eA,b,vg,lvA,lvS,c];generalize(a.toList.map λp=>(p.1,E p.2))=l;match l with|[]=>rfl|[(0,x)]=>simp only[f];cases eY x<;>rfl|[(n+1,x)]=>rfl|(0,_)::_::_=>rfl|(_+1,_)::_::_=>rfl
def bak{t e:TypeId}{d:Nat}{zs:List AV}{s x:AV}(a:P.underlying t=V (.slice e))(b:jF P e=V zs):tV U P Y d t s x=avA e zs (mZ P e) Y d s x:=by simp only[tV,avA,a,b];cases aEx U Y x<;>rfl
def avr{t e:TypeId}{d:Nat}{zs:List AV}{s x:AV}(a:P.underlying t=V (.slice e))(b:jF P e=V zs):tV I P Y d t s x=j5 e zs (mZ P e) Y d s x:=by simp only[tV,j5,a,b,aXZ];cases gL Y x<;>rfl
end
abbrev FT:=List AV->(AV->Prop)->Prop
abbrev dO:=List (Nat×FT)
def jz(P:Program)(G:nn)(fn:Nat):FT:=λys K=>∃r,zm P G fn ys (·=r)/\ys.all iX=U/\kG r=U/\K r
def Bw(D:FT)(fn:Nat):dO->FT|[]=>D|p::T=>bif pp fn p.1 then p.2 else Bw D fn T
def pq(P:Program)(G:nn)(T:dO):Prop:=∀p∈T,∀ys K,p.2 ys K->jz P G p.1 ys K
def lo(Y:ae)(xs:List AV)(r:AV):Prop:=nA Y xs=I\/uN r=U
def fW(F:FT)(ys:List AV)(a:AV->Prop)(K:AV->Prop):Prop:=F ys λr=>a r/\K r
def fV(F:FT)(Y:ae)(xs:List AV)(K:AV->Prop):Prop:=fW F (xs.map (dG Y)) (lo Y xs) K
def aIJ{P:Program}{G:nn}{fn:Nat}{ys:List AV}{K:AV->Prop}:∀{T:dO},pq P G T->Bw (jz P G fn) fn T ys K->jz P G fn ys K:=by intro T;induction T with|nil=>intro _ h;exact h|cons p T d=>intro b h;simp only[Bw] at h;cases a:pp fn p.1 with|true=>rw[a] at h;have:fn=p.1:=(by rw[zv] at a;exact a);subst this;exact b p (by simp) ys K h|false=>rw[a] at h;exact d (λq c=>b q (by simp[c])) h
def axR{P:Program}{G:nn}{fn:Nat}{xs:List AV}{Y:ae}{K:AV->Prop}{T:dO}(f:pq P G T)(h:fV (Bw (jz P G fn) fn T) Y xs K):Kh P G fn xs Y K:=by obtain⟨r,a,b,c,d,e⟩:=aIJ f h;exact⟨r,a,b,c,d,e⟩
def pi(P:Program)(G:nn)(T:dO)(E:Operand->AV)(Y:ae)(op:Op)(K:AV->Prop):Prop:=
 match op with
 | .move x=>K (E x)
 | .assign x=>K (E x)
 | .pick c a b=>rV (mL (E c) (E a) (E b)) K
 | .load t x=>match qK P t with|some k=>rV (kb k Y (E x)) K|none=>False
 | .nilCheck x=>rV (cO Y (E x)) K
 | .binOp op t x y _=>rV (wl op (tyK P t).1 (tyK P t).2 (E x) (E y)) K
 | .unOp op _ x=>rV (cR op (E x)) K
 | .convert s d x=>match KD P s d with|some k=>rV (sO k (E x)) K|none=>False
 | .fieldAddr s x f=>match KR P s f with|some off=>rV (iQ off Y (E x)) K|none=>False
 | .field t x f=>match QF P t f with|some p=>rV (cK p.1 p.2 (E x)) K|none=>False
 | .indexAddr t x ix=>
  match P.underlying t with
  |some (.slice e)=>match fG P e with|some z=>rV (cz z Y (E x) (E ix)) K|none=>False
  |some (.array n e)=>match fG P e with|some z=>rV (wm n z Y (E x) (E ix)) K|none=>False
  |_=>False
 | .index t x ix=>
  match P.underlying t with
  |some .string=>rV (sxA (E x) (E ix)) K
  |some (.array n e)=>match fG P e,qK P e with|some z,some k=>rV (sI n z k (E x) (E ix)) K|_,_=>False
  |_=>False
 | .extract x i=>rV (eO i (E x)) K
 | .lookup t x ix l=>match r9 P t with|some j=>rV (oP j Y (E x) (E ix) l) K|none=>False
 | .slice t x lo h mx=>
  match P.underlying t with
  |some .string=>rV (Q8 (E x) (lo.map E) (h.map E) (mx.map E)) K
  |some (.slice e)=>match fG P e with|some z=>rV (fo z Y (E x) (lo.map E) (h.map E) (mx.map E)) K|none=>False
  |_=>False
 | .makeFunc fn first cap=>match fn with| .func f=>K (.f f (first.toList.map E) (cap.toList.map E))|_=>False
 | .build t g=>
  match P.underlying t with
  |some (.array n e)=>match jF P t,fG P e with|some zs,some z=>rV (tY zs z (g.toList.map λp=>(p.1,E p.2))) K|_,_=>False
  |_=>match jF P t,QG P t with|some zs,some pl=>rV (bM zs pl (g.toList.map λp=>(p.1,E p.2))) K|_,_=>False
 | .call c=>
  match c.callee with
  | .builtin .len=>
   match c.argTypes[0]?,c.args[0]? with
   |some t,some x=>
    match P.underlying t with
    |some (.slice _)=>rV (fS Y (E x)) K
    |some .string=>rV (lsA (E x)) K
    |some (.array n _)=>K (.s (.int .i64 n))
    |_=>False
   |_,_=>False
  | .builtin .min=>match c.args.toList with|[x,y]=>rV (AO .min (E x) (E y)) K|_=>False
  | .builtin .max=>match c.args.toList with|[x,y]=>rV (AO .max (E x) (E y)) K|_=>False
  | .value (.func fn)=>if G.nw fn=U then False else if G.imp fn=U then False else fV (Bw (jz P G fn) fn T) Y (c.args.toList.map E) K
  |_=>False
 |_=>False
def rn(P:Program)(G:nn)(f:AV)(xs:List AV)(Y:ae)(d:Nat)(K:AV->ae->Prop):Prop:=
 match f with
 | .f fn first cap=>if G.nw fn=U then tS P G fn (first++xs++cap) Y d K else if G.imp fn=U then tR P G fn (first++xs++cap) Y d K else Kh P G fn (first++xs++cap) Y λr=>K r Y
 |_=>False
def pY(P:Program)(G:nn)(E:Operand->AV)(Y:ae)(d:Nat)(op:Op)(K:AV->ae->Prop):Prop:=
 match op with
 | .alloc e=>match jF P e with|some zs=>eV (bs e zs Y d) K|none=>False
 | .box e x=>match fG P e with|some z=>eV (qm e z Y d (E x)) K|none=>False
 | .buildSlice t len a=>
  match P.underlying t with
  |some (.slice e)=>match aOy P e with|some zs=>(match aPm P t with|true=>eV (lvS e zs len Y d (a.toList.map λp=>(p.1,E p.2))) K|false=>eV (aX zs len Y (a.toList.map λp=>(p.1,E p.2))) K)|none=>False
  |_=>False
 | .makeSlice t l c=>
  match P.underlying t with
  |some (.slice e)=>match aOy P e with|some zs=>eV (qO e zs (mZ P e) Y d (E l) (E c)) K|none=>False
  |_=>False
 | .store t x v=>match fG P t with|some z=>sV (aK z Y (E x) (E v)) (λY'=>K (.t []) Y')|none=>False
 | .call c=>
  match c.callee with
  | .builtin .append=>
   match c.args.toList,c.argTypes.toList with
   |[s,x],[t,g]=>
    if t=g then
     match P.underlying t with
     |some (.slice e)=>match jF P e with|some zs=>(match aPm P t with|true=>eV (avA e zs (mZ P e) Y d (E s) (E x)) K|false=>eV (j5 e zs (mZ P e) Y d (E s) (E x)) K)|none=>False
     |_=>False
    else False
   |_,_=>False
  | .builtin .clear=>
   match c.args.toList,c.argTypes.toList with
   |[x],[t]=>match xD P t with|some z=>sV (pA z Y (E x)) (λY'=>K (.t []) Y')|none=>False
   |_,_=>False
  | .value f=>rn P G (E f) (c.args.toList.map E) Y d K
  |_=>False
 | .makeMap t r=>match r with|none=>eV (oS t Y d) K|some _=>False
 | .mapUpdate t x k v=>match r9 P t with|some b=>sV (muA b Y (E x) (E k) (E v)) (λY'=>K (.t []) Y')|none=>False
 | .range t x=>match P.underlying t with|some .string=>eV (tu Y d (E x)) K|_=>False
 | .next x st=>if st=U then eV (se Y (E x)) K else False
 |_=>False
section
variable{P:Program}{G:nn}{τ:List AV}{Y:ae}
def jq{o:Option AV}{K:AV->Prop}(h:rV o K):∃v,o=V v/\K v:=by cases o with|none=>exact h.elim|some v=>exact⟨v,rfl,h⟩
def uk{o:Option (AV×ae)}{K:AV->ae->Prop}(h:eV o K):∃v Y',o=V (v,Y')/\K v Y':=by cases o with|none=>exact h.elim|some p=>exact⟨p.1,p.2,rfl,h⟩
def Q2{o:Option ae}{K:ae->Prop}(h:sV o K):∃Y',o=V Y'/\K Y':=by cases o with|none=>exact h.elim|some p=>exact⟨p,rfl,h⟩
def awD{o:Oper}{v:AV}{K:AV->ae->Prop}(h:dz P (du G τ) Y o.op=V v)(a:K v Y):j0 P G τ Y o K:=by unfold j0;rw[h];exact a
def ph{o:Oper}{v:AV}{Y':ae}{K:AV->ae->Prop}(a:dz P (du G τ) Y o.op=J)(h:eA P (du G τ) Y (o.dst.getD 0) o.op=V (v,Y'))(b:K v Y'):j0 P G τ Y o K:=by unfold j0;rw[a,h];exact b
def a7X{o:Oper}{c:Call}{f:Operand}{K:AV->ae->Prop}(b:o.op= .call c)(a:c.callee= .value f)(h:rn P G (du G τ f) (c.args.toList.map (du G τ)) Y (o.dst.getD 0) K):j0 P G τ Y o K:=by unfold j0;have d:dz P (du G τ) Y o.op=J:=(by rw[b];simp only[dz,a]);have e:eA P (du G τ) Y (o.dst.getD 0) o.op=J:=(by rw[b];simp only[eA,a]);rw[d,e,b];simp only[a];unfold rn at h;split at h;rename_i g;rw[g];exact h;exact h.elim
def aNn{T:dO}(D:pq P G T){o:Oper}{K:AV->ae->Prop}(h:pi P G T (du G τ) Y o.op (λv=>K v Y)):j0 P G τ Y o K:=by generalize l:o.op=op at h;cases op with|move x=>exact awD (by rw[l];rfl) h|assign x=>exact awD (by rw[l];rfl) h|pick c a b=>obtain⟨v,g,j⟩:=jq h;exact awD (by rw[l];exact g) j|load t x=>simp only[pi] at h;split at h;rename_i k u;obtain⟨v,g,j⟩:=jq h;exact awD (by rw[l,aC3 u];exact g) j;exact h.elim|nilCheck x=>obtain⟨v,g,j⟩:=jq h;exact awD (by rw[l];exact g) j|binOp op t x y M=>obtain⟨v,g,j⟩:=jq h;exact awD (by rw[l];exact awt g) j|unOp op t x=>obtain⟨v,g,j⟩:=jq h;exact awD (by rw[l];exact g) j|convert s d x=>simp only[pi] at h;split at h;rename_i k u;obtain⟨v,g,j⟩:=jq h;exact awD (by rw[l];exact axC u g) j;exact h.elim|fieldAddr s x f=>simp only[pi] at h;split at h;rename_i k u;obtain⟨v,g,j⟩:=jq h;exact awD (by rw[l,azP u];exact g) j;exact h.elim|field t x f=>simp only[pi] at h;split at h;rename_i k u;obtain⟨v,g,j⟩:=jq h;exact awD (by rw[l,aBd (off:=k.1) (k:=k.2) u];exact g) j;exact h.elim|indexAddr t x ix=>simp only[pi] at h;split at h;rename_i e m;split at h;rename_i z w;obtain⟨v,g,j⟩:=jq h;exact awD (by rw[l,aCa m w];exact g) j;exact h.elim;rename_i n e m;split at h;rename_i z w;obtain⟨v,g,j⟩:=jq h;exact awD (by rw[l,aBZ m w];exact g) j;exact h.elim;exact h.elim|index t x ix=>simp only[pi] at h;split at h;rename_i m;obtain⟨v,g,j⟩:=jq h;exact awD (by rw[l,aIB m];exact g) j;rename_i n e m;split at h;rename_i z k w u;obtain⟨v,g,j⟩:=jq h;exact awD (by rw[l,avS m w u];exact g) j;exact h.elim;exact h.elim|extract x i=>obtain⟨v,g,j⟩:=jq h;exact awD (by rw[l];exact g) j|lookup t x ix H=>simp only[pi] at h;split at h;rename_i F E;obtain⟨v,g,j⟩:=jq h;exact awD (by rw[l];simp only[dz,E];exact g) j;exact h.elim|slice t x lo A mx=>simp only[pi] at h;split at h;rename_i m;obtain⟨v,g,j⟩:=jq h;exact awD (by rw[l,aIq m];exact g) j;rename_i e m;split at h;rename_i z w;obtain⟨v,g,j⟩:=jq h;exact awD (by rw[l,aIj m w];exact g) j;exact h.elim;exact h.elim|makeFunc fn first cap=>simp only[pi] at h;split at h;exact awD (by rw[l];rfl) h;exact h.elim|build t C=>simp only[pi] at h;split at h;rename_i n e m;split at h;rename_i zs z g j;obtain⟨v,p,q⟩:=jq h;exact ph (by rw[l];rfl) (by rw[l,awC g m j,p];rfl) q;exact h.elim;split at h;rename_i zs z g j;obtain⟨v,p,q⟩:=jq h;exact ph (by rw[l];rfl) (by rw[l,av8 g j,p];rfl) q;exact h.elim|call c=>simp only[pi] at h;split at h;rename_i r;split at h;rename_i t x g j;split at h;rename_i e m;obtain⟨v,p,q⟩:=jq h;exact awD (by rw[l];simp only[dz,r];rw[aDj m g j];exact p) q;rename_i m;obtain⟨v,p,q⟩:=jq h;exact awD (by rw[l];simp only[dz,r];rw[aDn m g j];exact p) q;rename_i n e m;exact awD (by rw[l];simp only[dz,r];rw[aCW m g j]) h;exact h.elim;exact h.elim;rename_i r;split at h;rename_i x y g;obtain⟨v,p,q⟩:=jq h;exact awD (by rw[l];simp only[dz,r,nP,g];exact p) q;exact h.elim;rename_i r;split at h;rename_i x y g;obtain⟨v,p,q⟩:=jq h;exact awD (by rw[l];simp only[dz,r,nP,g];exact p) q;exact h.elim;rename_i fn r;split at h;exact h.elim;rename_i B;split at h;exact h.elim;rename_i A;refine a7X l r ?_;simp only[du,rn,dW,cL];rw[cj B,cj A];exact axR D h;exact h.elim|_=>exact h.elim
def aNk{o:Oper}{K:AV->ae->Prop}(h:pY P G (du G τ) Y (o.dst.getD 0) o.op K):j0 P G τ Y o K:=by generalize a:o.op=op at h;cases op with|alloc e=>simp only[pY] at h;split at h;rename_i zs g;obtain⟨v,Y',b,d⟩:=uk h;exact ph (by rw[a];rfl) (by rw[a,asp g];exact b) d;exact h.elim|box e x=>simp only[pY] at h;split at h;rename_i zs g;obtain⟨v,Y',b,d⟩:=uk h;exact ph (by rw[a];rfl) (by rw[a,awK g];exact b) d;exact h.elim|buildSlice t len u=>simp only[pY] at h;split at h;rename_i e j;split at h;rename_i zs g;split at h;rename_i m;obtain⟨v,Y',b,d⟩:=uk h;exact ph (by rw[a];rfl) (by rw[a,bdR j g m];exact b) d;rename_i m;obtain⟨v,Y',b,d⟩:=uk h;exact ph (by rw[a];rfl) (by rw[a,awF j g m];exact b) d;exact h.elim;exact h.elim|makeSlice t l c=>simp only[pY] at h;split at h;rename_i e j;split at h;rename_i zs g;obtain⟨v,Y',b,d⟩:=uk h;exact ph (by rw[a];rfl) (by rw[a,aD4 j g];exact b) d;exact h.elim;exact h.elim|store t x v=>simp only[pY] at h;split at h;rename_i z g;obtain⟨Y',b,d⟩:=Q2 h;exact ph (by rw[a];rfl) (by rw[a,aIr g,b];rfl) d;exact h.elim|call c=>simp only[pY] at h;split at h;rename_i i;split at h;rename_i s x t B b d;split at h;rename_i q;split at h;rename_i e j;split at h;rename_i zs g;split at h;rename_i m;obtain⟨v,Y',n,p⟩:=uk h;refine ph (by rw[a];simp only[dz,i,nP]) ?_ p;rw[a];simp only[eA,i,b,d,bX q,m,bak j g];exact n;rename_i m;obtain⟨v,Y',n,p⟩:=uk h;refine ph (by rw[a];simp only[dz,i,nP]) ?_ p;rw[a];simp only[eA,i,b,d,bX q,m,avr j g];exact n;exact h.elim;exact h.elim;exact h.elim;exact h.elim;rename_i i;split at h;rename_i x t b d;split at h;rename_i z g;obtain⟨Y',n,p⟩:=Q2 h;refine ph (by rw[a];simp only[dz,i,nP]) ?_ p;rw[a];simp only[eA,i,b,d,g,n,df];exact h.elim;exact h.elim;rename_i f i;exact a7X a i h;exact h.elim|makeMap t r=>simp only[pY] at h;split at h;obtain⟨v,Y',b,d⟩:=uk h;exact ph (by rw[a];rfl) (by rw[a];exact b) d;exact h.elim|mapUpdate t x k v=>simp only[pY] at h;split at h;rename_i A w;obtain⟨Y',b,d⟩:=Q2 h;exact ph (by rw[a];rfl) (by rw[a];simp only[eA,w,b,df]) d;exact h.elim|range t x=>simp only[pY] at h;split at h;rename_i j;obtain⟨v,Y',b,d⟩:=uk h;exact ph (by rw[a];rfl) (by rw[a];simp only[eA,j];exact b) d;exact h.elim|next x st=>simp only[pY] at h;split at h;rename_i y;obtain⟨v,Y',b,d⟩:=uk h;exact ph (by rw[a];rfl) (by rw[a];simp only[eA,bX y];exact b) d;exact h.elim|_=>exact h.elim
end
def gP(a:Bool)(v:AV):Option Bool:=
 match v with
 | .s (.bool b)=>V (b==a)
 | .t _=>V I
 |_=>J
def ED(ops:Array Oper)(a:Rg)(o:Oper):Option Bool:=
 match o.guard with
 |none=>V U
 |some g=>match(ops[g.1]?).bind (·.dst) with|none=>V I|some t=>gP g.2 (a t)
def gR(w:Option Bool)(A:(AV->Prop)->Prop)(K:AV->Prop):Prop:=
 match w with|some true=>A K|some false=>K (.t [])|none=>False
def gE(w:Option Bool)(A:(AV->ae->Prop)->Prop)(Y:ae)(K:AV->ae->Prop):Prop:=
 match w with|some true=>A K|some false=>K (.t []) Y|none=>False
def pu(a:Rg)(d:Option Nat)(v:AV):Rg:=
 match d with|some d=>λk=>bif pp k d then v else a k|none=>a
def up(a:Rg)(d:Nat)(v:AV):Rg:=λk=>bif pp k d then v else a k
def kp(K:Rg->ae->Prop)(a:Rg)(d:Option Nat)(v:AV)(Y:ae):Prop:=
 match d with|some d=>K (up a d v) Y|none=>K a Y
def aCT{K:Rg->ae->Prop}{a:Rg}{d:Option Nat}{v:AV}{Y:ae}:kp K a d v Y=K (pu a d v) Y:=by cases d<;>rfl
def mv(a:Rg)(d s:Nat):Rg:=λk=>bif pp k d then a s else a k
def kv(K:Rg->ae->Prop)(a:Rg)(d:Option Nat)(s:Nat)(Y:ae):Prop:=
 match d with|some d=>K (mv a d s) Y|none=>K a Y
def aCU{K:Rg->ae->Prop}{a:Rg}{d:Option Nat}{s:Nat}{Y:ae}:kv K a d s Y=K (pu a d (a s)) Y:=by cases d<;>rfl
def mvS(o:Oper):Option Nat:=
 match o.guard with
 |some _=>J
 |none=>
  match o.op with
  | .move x=>match x with| .tmp s=>V s|_=>J
  | .assign x=>match x with| .tmp s=>V s|_=>J
  |_=>J
def EL(P:Program)(G:nn)(T:dO)(ops:Array Oper)(o:Oper)(K:Rg->ae->Prop)(a:Rg)(Y:ae):Prop:=
 match mvS o with
 |some s=>kv K a o.dst s Y
 |none=>
 match iT G o.op with
 |true=>gR (ED ops a o) (λk=>pi P G T (AY G a) Y o.op k) (λv=>kp K a o.dst v Y)
 |false=>gE (ED ops a o) (λk=>pY P G (AY G a) Y (o.dst.getD 0) o.op k) Y (λv Y'=>kp K a o.dst v Y')
def EM(P:Program)(G:nn)(T:dO)(ops:Array Oper):List Oper->(Rg->ae->Prop)->Rg->ae->Prop|[],K=>K|o::l,K=>EL P G T ops o (EM P G T ops l K)
def ti(P:Program)(G:nn)(E:Operand->AV)(Y:ae)(d:Nat)(op:Op):fY:=
 match op with
 | .call c=>
  match c.callee with
  | .value f=>
   match E f with
   | .f fn first cap=>if G.nw fn=U then(I,iU E op++[d]) else if G.imp fn=U then(G.rd fn,aQn G fn Y) else(U,iU E op)
   |_=>(U,[])
  |_=>(iT G op,iU E op++if iT G op||!wT op then[] else[d])
 | .buildSlice t _ _=>(I,iU E op++(match aPm P t with|true=>[d]|false=>[]))
 | .store _ x _=>(I,(bif G.sv then(if aBG Y (E x)=U then cD (E x) else iU E op) else iU E op)++[])
 |_=>(iT G op,iU E op++if iT G op||!wT op then[] else[d])
def EK(P:Program)(G:nn)(T:dO)(ops:Array Oper):List Oper->List fY->(List fY->Rg->ae->Prop)->Rg->ae->Prop|[],a,K=>K a|o::l,a,K=>λb Y=>EL P G T ops o (EK P G T ops l (a++[ti P G (AY G b) Y (o.dst.getD 0) o.op]) K) b Y
def prs(G:nn)(ops:Array Oper):List (Nat×Nat):=
 (aH ops.size).flatMap λj=>(aH j).filterMap λi=>
  if((Region.before ops).getD j 0).testBit i||(iT G (ops.getD i default).op&&iT G (ops.getD j default).op) then J else V (i,j)
def dH(a:List fY):List (Nat×Nat)->Prop->Prop|[],R=>R|p::l,R=>eL (a.getD p.1 (U,[])) (a.getD p.2 (U,[]))=U/\dH a l R
def Rv(P:Program)(G:nn)(T:dO)(ops:Array Oper)(K:Rg->ae->Prop)(a:Rg)(Y:ae):Prop:=
 match rG G ops.toList with
 |true=>EM P G T ops ops.toList K a Y
 |false=>EK P G T ops ops.toList [] (λb a Y=>dH b (prs G ops) (K a Y)) a Y
abbrev QZ:=Exit->Rg->ae->Prop
def QZ.then(K:Rg->ae->Prop)(Q:QZ):QZ:=λe a Y=>match e with| .normal=>K a Y|e=>Q e a Y
def QZ.inBlock(b:Nat)(Q:QZ):QZ:=λe a Y=>match e with| .exit j=>bif pp j b then Q .normal a Y else Q (.exit j) a Y|e=>Q e a Y
def cnt:Code->Nat| .seq x y=>cnt x+cnt y+1| .cond _ x y=>cnt x+cnt y| .block _ c=>cnt c| .loop c=>cnt c+1|_=>0
def jL(G:nn):Code->Bool| .region _ ops _=>!rG G ops.toList| .seq x y=>jL G x||jL G y| .cond _ x y=>jL G x||jL G y| .block _ c=>jL G c| .loop c=>jL G c|_=>I
def gG:Code->List Nat| .region _ ops _=>ops.toList.filterMap (·.dst)| .seq x y=>gG x++gG y| .cond _ x y=>gG x++gG y| .block _ c=>gG c| .loop c=>gG c|_=>[]
def AZ(vs:List AV)(d:AV)(k:Nat):List Nat->Nat->AV|[],_=>d|x::a,i=>bif pp k x then gt vs i else AZ vs d k a (i+1)
def ov(c:Rg)(b a:List Nat)(vs:List AV)(j:Rg):Rg:=λk=>AZ vs (bif a.elem k then c k else j k) k b 0
def ah(c:AV)(A B:Prop):Prop:=match c with| .s (.bool t)=>if t=U then A else B|_=>False
def jV(n:Nat)(B:List AV->ae->Prop)(A:(List AV->ae->Prop)->Prop):Prop:=A B
def jR(n:Nat)(B:List AV->Prop)(A:(List AV->Prop)->Prop):Prop:=A B
def lV(b:List AV)(c:ae)(B:(List AV->ae->Prop)->(List AV->ae->Nat)->List AV->ae->Prop):Prop:=∃a d,a b c/\∀vs Y,a vs Y->B a d vs Y
def lR(b:List AV)(B:(List AV->Prop)->(List AV->Nat)->List AV->Prop):Prop:=∃a c,a b/\∀vs,a vs->B a c vs
def iV(P:Program)(G:nn)(T:dO)(an:List (Option (List Nat×List Nat))):Code->Nat->QZ->Rg->ae->Prop
 | .skip,_,Q=>Q .normal
 | .label _,_,Q=>Q .normal
 | .region _ ops false,_,Q=>EM P G T ops ops.toList (Q .normal)
 | .region _ ops true,_,Q=>Rv P G T ops (Q .normal)
 | .seq x y,i,Q=>λd Y=>
  match an.getD i J with
  |none=>iV P G T an x (i+1) (QZ.then (iV P G T an y (i+1+cnt x) Q) Q) d Y
  |some p=>
   match jL G x with
   |true=>jV i (λvs Y=>∀j,iV P G T an y (i+1+cnt x) Q (ov d p.1 p.2 vs j) Y) λb=>iV P G T an x (i+1) (QZ.then (λe Y'=>b (p.1.map e) Y') Q) d Y
   |false=>jR i (λvs=>∀j,iV P G T an y (i+1+cnt x) Q (ov d p.1 p.2 vs j) Y) λb=>iV P G T an x (i+1) (QZ.then (λe _=>b (p.1.map e)) Q) d Y
 | .cond c x y,i,Q=>λd Y=>ah (AY G d c) (iV P G T an x i Q d Y) (iV P G T an y (i+cnt x) Q d Y)
 | .block g c,i,Q=>iV P G T an c i (QZ.inBlock g Q)
 | .loop c,i,Q=>λd Y=>
  match an.getD i J with
  |none=>False
  |some p=>
   match jL G c with
   |true=>lV (p.1.map d) Y λa f vs Y=>∀j,iV P G T an c (i+1) (QZ.then (λe Y'=>a (p.1.map e) Y'/\f (p.1.map e) Y'<f vs Y) Q) (ov d p.1 p.2 vs j) Y
   |false=>lR (p.1.map d) λa f vs=>∀j,iV P G T an c (i+1) (QZ.then (λe _=>a (p.1.map e)/\f (p.1.map e)<f vs) Q) (ov d p.1 p.2 vs j) Y
 | .exit g,_,Q=>Q (.exit g)
 | .ret,_,Q=>Q .ret
 |_,_,_=>λ_ _=>False
def oG(an:List (Option (List Nat×List Nat))):Code->Nat->Bool
 | .seq x y,i=>(match an.getD i J with|none=>U|some p=>p.2.all λk=>!(gG x).elem k)&&oG an x (i+1)&&oG an y (i+1+cnt x)
 | .cond _ x y,i=>oG an x i&&oG an y (i+cnt x)
 | .block _ c,i=>oG an c i
 | .loop c,i=>(match an.getD i J with|none=>U|some p=>p.2.all λk=>!(gG c).elem k)&&oG an c (i+1)
 |_,_=>U
section
variable{P:Program}{G:nn}{T:dO}{an:List (Option (List Nat×List Nat))}{N:Nat}
def aBK{a:List AV}{d:Nat}{v:AV}(h:d<L a):gt (a.set d v)=λk=>bif pp k d then v else gt a k:=by funext k;unfold gt;rw[eI,List.getElem?_set,eI];by_cases e:d=k;subst e;simp[h];have:pp k d=I:=(by rw[<-EQ,zv];exactλh=>e h.symm);simp[e,this]
def wd{a:List AV}{d:Option Nat}{v:AV}(h:∀x,d=V x->x<L a):gt (ge a d v)=pu (gt a) d v:=by cases d with|none=>rfl|some d=>exact aBK (h d rfl)
def Be{a:List AV}{d:Option Nat}{v:AV}:L (ge a d v)=L a:=by cases d<;>simp[ge]
def aRX{a:List AV}{d:Option Nat}{v:AV}{k:Nat}(h:d≠V k):gt (ge a d v) k=gt a k:=by cases d with|none=>rfl|some d=>unfold gt ge;rw[eI,eI,oq (λe=>h (by rw[e]))]
def EE{ops:Array Oper}{a:List AV}{o:Oper}{b:Bool}(h:ED ops (gt a) o=V b):rh ops a o=V b:=by unfold ED at h;unfold rh;split at h;rename_i d;rw[d];exact h;rename_i g d;rw[d];simp only;split at h;rename_i c;rw[c];exact h;rename_i t c;rw[c];simp only;by_cases f:t<L a;have e:gt a t=a[t]:=(by unfold gt;simp[f]);rw[List.getElem?_eq_getElem f];rw[e] at h;unfold gP at h;generalize a[t]=x at*;(cases x<;>first|exact h|(cases h;done)|skip);rename_i v;(cases v<;>first|exact h|(cases h;done));have e:gt a t= .u:=(by unfold gt;simp[List.getElem?_eq_none (Nat.le_of_not_lt f)]);rw[e] at h;cases h
def aqb(m:pq P G T){ops:Array Oper}{o:Oper}{K:Rg->ae->Prop}{a:List AV}{Y:ae}(f:∀x,o.dst=V x->x<L a)(h:EL P G T ops o K (gt a) Y):kS P G ops o (λτ' Y'=>L τ'=L a/\(∀k,o.dst≠V k->gt τ' k=gt a k)/\(iT G o.op=U->Y'=Y)/\K (gt τ') Y') a Y:=by unfold EL at h;simp only[aCT,aCU] at h;unfold kS;split at h;rename_i s b;unfold mvS at b;split at b;(cases b);rename_i n;have d:rh ops a o=V U:=(by unfold rh;rw[n]);rw[d];have p:dz P (du G a) Y o.op=V (gt a s):=(by split at b;rename_i i;split at b;(cases b;rw[i];rfl);(cases b);rename_i i;split at b;(cases b;rw[i];rfl);(cases b);cases b);refine awD p ⟨Be,λk c=>aRX c,λ_=>rfl,?_⟩;rw[wd f];exact h;split at h;rename_i j;unfold gR at h;split at h;rename_i d;rw[EE d];rw[Ef] at h;refine aNn m (K:=λg Y'=>_/\_/\(_->Y'=Y)/\K (gt (ge a o.dst g)) Y') ?_;have e:(λv=>K (pu (gt a) o.dst v) Y)=λv=>L (ge a o.dst v)=L a/\(∀k,o.dst≠V k->gt (ge a o.dst v) k=gt a k)/\(iT G o.op=U->Y=Y)/\K (gt (ge a o.dst v)) Y:=(by funext v;rw[wd f];exact vp ⟨λh=>⟨Be,λk c=>by rw[<-wd f];exact aRX c,λ_=>rfl,h⟩,λh=>h.2.2.2⟩);rw[e] at h;exact h;rename_i d;rw[EE d];exact⟨Be,λk c=>aRX c,λ_=>rfl,by rw[wd f];exact h⟩;exact h.elim;rename_i j;unfold gE at h;split at h;rename_i d;rw[EE d];rw[Ef] at h;refine aNk (K:=λg Y'=>_/\_/\(_->Y'=Y)/\K (gt (ge a o.dst g)) Y') ?_;have e:(λv Y'=>K (pu (gt a) o.dst v) Y')=λv Y'=>L (ge a o.dst v)=L a/\(∀k,o.dst≠V k->gt (ge a o.dst v) k=gt a k)/\(iT G o.op=U->Y'=Y)/\K (gt (ge a o.dst v)) Y':=(by funext v Y';rw[wd f];exact vp ⟨λh=>⟨Be,λk c=>by rw[<-wd f];exact aRX c,λl=>nl l (by simp[j]),h⟩,λh=>h.2.2.2⟩);rw[e] at h;exact h;rename_i d;rw[EE d];exact⟨Be,λk c=>aRX c,λ_=>rfl,by rw[wd f];exact h⟩;exact h.elim
def ak4{ops:Array Oper}{o:Oper}{K b:List AV->ae->Prop}{a:List AV}{Y:ae}(h:kS P G ops o K a Y)(g:∀a Y,K a Y->b a Y):kS P G ops o b a Y:=by obtain⟨c,d,e,f⟩:=oE.1 h;exact oE.2 ⟨c,d,e,g _ _ f⟩
def aqc(n:pq P G T){ops:Array Oper}{K:Rg->ae->Prop}:∀(l:List Oper) {a:List AV} {Y:ae},(∀o∈l,∀x,o.dst=V x->x<L a)->EM P G T ops l K (gt a) Y->rE P G ops l (λτ' Y'=>L τ'=L a/\(∀k,k∉l.filterMap (·.dst)->gt τ' k=gt a k)/\(rG G l=U->Y'=Y)/\K (gt τ') Y') a Y:=by intro l;induction l with|nil=>intro a Y _ h;exact⟨rfl,λ_ _=>rfl,λ_=>rfl,h⟩|cons o l p=>intro a Y g h;refine ak4 (aqb n (g o (by simp)) h) ?_;rintro u w ⟨f,i,j,m⟩;refine vN ?_ l (p (λo' d=>by rw[f];exact g o' (by simp[d])) m);rintro v y ⟨q,r,s,t⟩;refine⟨q.trans f,λk c=>?_,λe=>?_,t⟩;rw[xk] at c;rw[r k,i k];exactλb=>c ⟨o,by simp,b⟩;rw[xk];rintro⟨o',d,b⟩;exact c ⟨o',by simp[d],b⟩;simp only[rG,bN] at e;rw[s e.2,j e.1]
end
section
variable{P:Program}{G:nn}{T:dO}{an:List (Option (List Nat×List Nat))}{N:Nat}
def AK(a b:fY):Prop:=(b.1=U->a.1=U)/\∀k∈a.2,k∈b.2
def aCX{a b d e:fY}(h:AK a d)(f:AK b e)(c:eL d e=U):eL a b=U:=by unfold eL at c⊢;rw[fH] at c⊢;rcases c with c|c;left;rw[bN] at c⊢;exact⟨h.1 c.1,f.1 c.2⟩;right;rw[dV] at c⊢;intro k g;have:=c k (h.2 k g);simp only[eH,List.contains_eq_mem,o8] at this⊢;exactλi=>this (f.2 k i)
def aCZ{ops:Array Oper}{d:List AV}{Y:ae}{o:Oper}:AK (C4 P G ops d Y o) (ti P G (du G d) Y (o.dst.getD 0) o.op):=by unfold C4;split;generalize u:o.op=op;have w:∀c f,op= .call c->c.callee= .value f->vT G d Y o=ti P G (du G d) Y (o.dst.getD 0) op:=(by intro c f j l;subst j;unfold vT ti;rw[u];simp only[l];rfl);by_cases n:∃t x v,op= .store t x v;obtain⟨t,x,v,rfl⟩:=n;have r:vT G d Y o=(U,[]):=(by unfold vT;rw[u]);simp only[dz,r];split;rename_i E;simp at E;refine⟨λe=>by simp[ti] at e,λk a=>?_⟩;simp only[wT,aO3,Bool.or_self,eE,aB9,cL] at a;simp only[ti,cL];(cases F:G.sv with|false=>exact a6O a|true=>exact a);exact⟨λ_=>rfl,λk a=>by simp at a⟩;by_cases m:∃c f,op= .call c/\c.callee= .value f;obtain⟨c,f,j,l⟩:=m;have B:dz P (du G d) Y op=J:=(by rw[j];simp only[dz,l]);have C:eA P (du G d) Y (o.dst.getD 0) op=J:=(by rw[j];simp only[eA,l]);rw[B,C];simp only;rw[w c f j l];exact⟨id,λk h=>h⟩;have D:ti P G (du G d) Y (o.dst.getD 0) op=(iT G op,iU (du G d) op++if iT G op||!(wT op||aO3 P op) then[] else[o.dst.getD 0]):=(by cases op with|buildSlice t len A=>simp only[ti,iT,wT,aO3,Bool.false_or];cases aPm P t<;>rfl|call c=>simp only[ti,aO3,kz];split;rename_i f s;exact nl ⟨c,f,rfl,s⟩ m;rfl|store t x v=>exact nl ⟨t,x,v,rfl⟩ n|_=>simp only[ti,aO3,kz]);have r:vT G d Y o=(U,[]):=(by unfold vT;rw[u];split;split;rename_i c _ _ f s;exact nl ⟨_,f,rfl,s⟩ m;rfl;rfl);rw[D];split;exact⟨λ_=>rfl,λk a=>by simp[a]⟩;rename_i p H g;refine⟨λe=>?_,λk a=>?_⟩;simp only at e⊢;(cases op<;>first|(simp[eA] at g;done)|(simp[iT] at e;done)|rfl|skip);rename_i c;obtain⟨i,q,z⟩:=c;(cases i with|builtin b=>(cases b<;>first|(simp[eA] at g;done)|(simp[iT] at e;done))|value f=>exact nl ⟨_,f,rfl,rfl⟩ m|invoke _ _=>simp[eA] at g);simp only[dF] at a⊢;rcases a with a|a;exact .inl (a6O a);refine .inr ?_;split at a;rename_i y;simp only[y,Bool.not_true,kz];split;rename_i e;exfalso;(cases op<;>first|(simp[eA] at g;done)|(simp[iT] at e;done)|(simp[wT,aO3] at y;done)|skip);rename_i c;obtain⟨i,q,z⟩:=c;(cases i with|builtin b=>(cases b<;>first|(simp[eA] at g;done)|(simp[iT] at e;done))|value f=>exact nl ⟨_,f,rfl,rfl⟩ m|invoke _ _=>simp[eA] at g);exact a;simp at a;rw[r];exact⟨λ_=>rfl,λk a=>by simp at a⟩;exact⟨λ_=>rfl,λk a=>by simp at a⟩
def aCY{E:Operand->AV}{Y:ae}{d:Nat}{op:Op}(i:∀f,E (.func f)= .f f [] [])(h:iT G op=U):(ti P G E Y d op).1=U:=by unfold ti;split;rename_i c;split;rename_i f b;split;rename_i fn first cap a;obtain⟨j,e,k⟩:=c;simp only at b;subst b;(cases f<;>simp[iT] at h);rename_i g;rw[i] at a;(cases a);simp[h];rfl;exact h;simp[iT] at h;simp[iT] at h;exact h
def aNm(C:pq P G T){ops:Array Oper}{K:List fY->Rg->ae->Prop}:∀(l:List Oper) (c a:List fY) {d:List AV} {Y:ae},(∀o∈l,∀x,o.dst=V x->x<L d)->L c=L a->(∀i,AK (c.getD i (U,[])) (a.getD i (U,[])))->(∀i,i<L a->iT G (ops.getD i default).op=U->(a.getD i (U,[])).1=U)->L a+L l=ops.size->(∀i o,l[i]?=V o->ops.getD (L a+i) default=o)->EK P G T ops l a K (gt d) Y->qq P G ops l c (λg τ' Y'=>∃b,(∀i,AK (g.getD i (U,[])) (b.getD i (U,[])))/\(∀i,i<ops.size->iT G (ops.getD i default).op=U->(b.getD i (U,[])).1=U)/\L τ'=L d/\(∀k,k∉l.filterMap (·.dst)->gt τ' k=gt d k)/\K b (gt τ') Y') d Y:=by intro l;induction l with|nil=>intro c a d Y _ m p q j _ h;exact⟨a,p,λi f=>q i (by simp only[vw,kP] at j;rw[j];exact f),rfl,λ_ _=>rfl,h⟩|cons o l D=>intro c a d Y y m p q j w h;simp only[EK,Ef] at h;refine ak4 (aqb C (y o (by simp)) h) ?_;rintro S X ⟨B,E,_,F⟩;refine zK ?_ l _ (D (c++[C4 P G ops d Y o]) (a++[ti P G (du G d) Y (o.dst.getD 0) o.op]) (λo' t=>by rw[B];exact y o' (by simp[t])) (by simp[m]) ?_ ?_ (by simp only[P8,bZ,vw] at j⊢;omega) ?_ F);rintro g W Z ⟨b,m1,H,M,O,R⟩;refine⟨b,m1,H,M.trans B,λk s=>?_,R⟩;rw[xk] at s;rw[O k,E k];exactλr=>s ⟨o,by simp,r⟩;rw[xk];rintro⟨o',t,r⟩;exact s ⟨o',by simp[t],r⟩;intro i;simp only[eI,rA,m];split;have:=p i;simpa only[eI] using this;(cases f:i-L a with|zero=>simpa[f] using aCZ|succ n=>simp[f];exact⟨λ_=>rfl,λk h=>h⟩);intro i f u;simp only[eI,rA];split;rename_i z;have:=q i z u;simpa only[eI] using this;have e:i=L a:=(by simp only[P8,bZ,vw] at f;omega);subst e;have v:=w 0 o (by simp);rw[kP] at v;rw[v] at u;simp only[Nat.sub_self,List.getElem?_cons_zero,Option.getD_some];exact aCY (λ_=>rfl) u;intro i o' A;have:=w (i+1) o' (by simpa using A);rw[<-this];congr 1;simp only[P8,bZ,vw];omega
def ale{a:List fY}{R:Prop}:∀(l:List (Nat×Nat)),dH a l R↔(∀p∈l,eL (a.getD p.1 (U,[])) (a.getD p.2 (U,[]))=U)/\R:=by intro l;induction l with|nil=>simp[dH]|cons p l b=>simp only[dH,b,List.mem_cons,forall_eq_or_imp,aoA]
def aNj(m:pq P G T){ops:Array Oper}{K:Rg->ae->Prop}{b:List AV}{Y:ae}(p:∀o∈ops.toList,∀x,o.dst=V x->x<L b)(h:Rv P G T ops K (gt b) Y):
  sF P G ops (λτ' Y'=>L τ'=L b/\(∀k,k∉ops.toList.filterMap (·.dst)->gt τ' k=gt b k)/\(rG G ops.toList=U->Y'=Y)/\K (gt τ') Y') b Y:=by
 unfold Rv at h
 unfold sF
 split at h
 ·rename_i e
  rw[bX e]
  exact aqc m _ p h
 ·rename_i e
  rw[cj (by simp[e])]
  refine zK ?_ _ _ (aNm m ops.toList [] [] p rfl (λi=>⟨id,λk h=>h⟩) (λi d=>by simp at d) (by simp) (λi o q=>by
   simp only[vw,aj,Array.getD_eq_getD_getElem?]
   rw[Array.getElem?_toList] at q
   rw[q];rfl) h)
  rintro y τ' Y' ⟨r,c,l,v,w,f⟩
  rw[ale] at f
  refine⟨?_,v,w,λu=>nl u (by simp[e]),f.2⟩
  unfold xG
  rw[fH]
  right
  rw[dV]
  intro j g
  rw[dV]
  intro i d
  rw[fq] at g d
  rw[fH]
  by_cases n:((Region.before ops).getD j 0).testBit i=U
  ·exact .inl n
  ·right
   by_cases a:iT G (ops.getD i default).op=U/\iT G (ops.getD j default).op=U
   ·unfold eL
    have s:=(c i).1 (l i (by omega) a.1)
    have t:=(c j).1 (l j g a.2)
    rw[s,t];rfl
   ·refine aCX (c i) (c j) (f.1 (i,j) ?_)
    unfold prs
    rw[List.mem_flatMap]
    refine⟨j,fq.2 g,xk.2 ⟨i,fq.2 d,?_⟩⟩
    rw[cj]
    rw[fH,bN]
    rintro(h|h)
    ·exact n h
    ·exact a h
def aEX{f:Rg}{d:AV}{k:Nat}:∀(b:List Nat) (a:List AV),AZ (a++b.map f) d k b (L a)=if k∈b then f k else d:=by intro b;induction b with|nil=>intro a;simp[AZ]|cons x b g=>intro a;simp only[AZ];have e:a++(x::b).map f=(a++[f x])++b.map f:=(by simp);by_cases c:k=x;subst c;have:pp k k=U:=(by rw[zv]);rw[this];simp[gt];have:pp k x=I:=(by rw[<-EQ,zv];exact c);rw[this,aIc,e];have:=g (a++[f x]);simp only[P8,bZ,vw,aj] at this;rw[this];simp[c]
def Eg{e a:Rg}{c b:List Nat}(h:∀k∈b,a k=e k):ov e c b (c.map a) a=a:=by funext k;unfold ov;have:=aEX (f:=a) (d:=bif b.elem k then e k else a k) (k:=k) c [];simp only[dW,vw] at this;rw[this];split;rfl;cases g:b.elem k with|false=>rfl|true=>rw[aly];exact(h k (RI.1 g)).symm
def Kj(hT:pq P G T):∀(c:Code) (i:Nat) (Q:QZ) {g:List AV} {Y:ae},(∀k∈gG c,k<L g)->oG an c i=U->iV P G T an c i Q (gt g) Y->
  iq P G c (λe τ' Y'=>L τ'=L g/\(∀k,k∉gG c->gt τ' k=gt g k)/\(jL G c=I->Y'=Y)/\Q e (gt τ') Y') g Y:=by
 intro c
 induction c with
 |skip=>intro i Q g Y w u h;exact⟨rfl,λ_ _=>rfl,λ_=>rfl,h⟩
 |label l=>intro i Q g Y w u h;exact⟨rfl,λ_ _=>rfl,λ_=>rfl,h⟩
 |exit M=>intro i Q g Y w u h;exact⟨rfl,λ_ _=>rfl,λ_=>rfl,h⟩
 |ret=>intro i Q g Y w u h;exact⟨rfl,λ_ _=>rfl,λ_=>rfl,h⟩
 |region M ops d=>
  intro i Q g Y w u h
  have Z:∀o∈ops.toList,∀x,o.dst=V x->x<L g:=λo ho x hx=>w x (by simp only[gG,xk];exact⟨o,ho,hx⟩)
  cases d with
  |false=>
   refine vN ?_ _ (aqc hT _ Z h)
   rintro τ' Y' ⟨n,m,r,q⟩
   exact⟨n,m,λs=>r (by simpa[jL] using s),q⟩
  |true=>
   have:=aNj hT Z h
   simp only[iq]
   unfold sF at this⊢
   split at this
   ·rename_i hr;rw[bX hr]
    refine vN ?_ _ this
    rintro τ' Y' ⟨n,m,r,q⟩
    exact⟨n,m,λs=>r (by simpa[jL] using s),q⟩
   ·rename_i hr;rw[cj hr]
    refine zK ?_ _ _ this
    rintro l τ' Y' ⟨A,n,m,r,q⟩
    exact⟨A,n,m,λs=>r (by simpa[jL] using s),q⟩
 |seq x y O R=>
  intro i Q g Y w u h
  simp only[oG,bN] at u
  have ao:∀k∈gG x,k<L g:=λk b=>w k (by simp[gG,b])
  have ap:∀k∈gG y,k<L g:=λk b=>w k (by simp[gG,b])
  have al:∀{f:List AV} {v:ae},L f=L g->(∀k,k∉gG x->gt f k=gt g k)->(jL G x=I->v=Y)->iV P G T an y (i+1+cnt x) Q (gt f) v->
    iq P G y (λe τ' Y'=>L τ'=L g/\(∀k,k∉gG (.seq x y)->gt τ' k=gt g k)/\(jL G (.seq x y)=I->Y'=Y)/\Q e (gt τ') Y') f v:=by
   intro f v n m r q
   refine kR y ?_ (R _ Q (by rw[n];exact ap) u.2 q)
   rintro e aa Y2 ⟨E,F,S,D⟩
   refine⟨E.trans n,λk b=>?_,λs=>?_,D⟩
   ·simp only[gG,dF,not_or] at b
    rw[F k b.2,m k b.1]
   ·simp only[jL,cP] at s
    rw[S s.2,r s.1]
  have C:∀(K:Rg->ae->Prop),(∀f v,L f=L g->(∀k,k∉gG x->gt f k=gt g k)->(jL G x=I->v=Y)->K (gt f) v->iV P G T an y (i+1+cnt x) Q (gt f) v)->iV P G T an x (i+1) (QZ.then K Q) (gt g) Y->
    iq P G (.seq x y) (λe τ' Y'=>L τ'=L g/\(∀k,k∉gG (.seq x y)->gt τ' k=gt g k)/\(jL G (.seq x y)=I->Y'=Y)/\Q e (gt τ') Y') g Y:=by
   intro K hK hx
   refine kR x ?_ (O _ _ ao u.1.2 hx)
   rintro e f v ⟨n,m,r,q⟩
   cases e<;>first
    |exact al n m r (hK _ _ n m r q)
    |(refine⟨n,λk b=>m k (λH=>b (by simp[gG,H])),λs=>r ?_,q⟩;simp only[jL,cP] at s;exact s.1)
  simp only[iV] at h
  split at h
  ·exact C _ (λf v _ _ _ q=>q) h
  ·rename_i p hp
   have z:∀k∈p.2,k∉gG x:=by
    have A:=u.1.1
    rw[hp] at A
    simp only[dV,eH] at A
    intro k b hm
    have:=A k b
    rw[RI.2 hm] at this
    cases this
   split at h
   ·refine C _ (λf v n m r q=>?_) h
    have:=q (gt f)
    rw[Eg (λk b=>m k (z k b))] at this
    exact this
   ·rename_i s
    refine C _ (λf v n m r q=>?_) h
    have:=q (gt f)
    rw[Eg (λk b=>m k (z k b)),<-r s] at this
    exact this
 |cond c x y O R=>
  intro i Q g Y w u h
  simp only[oG,bN] at u
  simp only[iV,ah,Ef] at h
  simp only[iq]
  split at h
  ·rename_i t hc
   try rw[hc]
   try simp only
   cases t with
   |true=>
    refine kR x ?_ (O _ Q (λk b=>w k (by simp[gG,b])) u.1 h)
    rintro e f v ⟨n,m,r,q⟩
    refine⟨n,λk b=>m k (λH=>b (by simp[gG,H])),λs=>r ?_,q⟩
    simp only[jL,cP] at s
    exact s.1
   |false=>
    refine kR y ?_ (R _ Q (λk b=>w k (by simp[gG,b])) u.2 h)
    rintro e f v ⟨n,m,r,q⟩
    refine⟨n,λk b=>m k (λH=>b (by simp[gG,H])),λs=>r ?_,q⟩
    simp only[jL,cP] at s
    exact s.2
  ·exact h.elim
 |block M c X=>
  intro i Q g Y w u h
  refine kR c ?_ (X i _ w u h)
  rintro e f v ⟨n,m,r,q⟩
  cases e with
  |exit j=>
   simp only[QX.inBlock]
   simp only[QZ.inBlock] at q
   by_cases W:j=M
   ·rw[bX W]
    have:pp j M=U:=by rw[zv];exact W
    rw[this] at q
    exact⟨n,m,r,q⟩
   ·rw[cj W]
    have:pp j M=I:=by rw[<-EQ,zv];exact W
    rw[this] at q
    exact⟨n,m,r,q⟩
  |_=>exact⟨n,m,r,q⟩
 |loop c X=>
  intro i Q g Y w u h
  simp only[oG,bN] at u
  simp only[iV] at h
  split at h
  ·exact h.elim
  ·rename_i p hp
   have z:∀k∈p.2,k∉gG c:=by
    have A:=u.1
    rw[hp] at A
    simp only[dV,eH] at A
    intro k b hm
    have:=A k b
    rw[RI.2 hm] at this
    cases this
   split at h
   ·rename_i s
    obtain⟨a,μ,A,B⟩:=h
    refine⟨λτ' Y'=>L τ'=L g/\(∀k,k∉gG c->gt τ' k=gt g k)/\a (p.1.map (gt τ')) Y',λτ' Y'=>μ (p.1.map (gt τ')) Y',⟨rfl,λ_ _=>rfl,A⟩,?_⟩
    rintro f v ⟨n,m,r⟩
    have:=B _ _ r (gt f)
    rw[Eg (λk b=>m k (z k b))] at this
    refine kR c ?_ (X _ _ (by rw[n];exact w) u.2 this)
    rintro e aa Y2 ⟨E,F,S,D⟩
    cases e<;>first
     |exact⟨⟨E.trans n,λk b=>(F k b).trans (m k b),D.1⟩,D.2⟩
     |exact⟨E.trans n,λk b=>(F k b).trans (m k b),λaq=>nl aq (by simp[jL,s]),D⟩
   ·rename_i s
    obtain⟨a,μ,A,B⟩:=h
    refine⟨λτ' Y'=>L τ'=L g/\(∀k,k∉gG c->gt τ' k=gt g k)/\Y'=Y/\a (p.1.map (gt τ')),λτ' Y'=>μ (p.1.map (gt τ')),⟨rfl,λ_ _=>rfl,rfl,A⟩,?_⟩
    rintro f v ⟨n,m,rfl,r⟩
    have:=B _ r (gt f)
    rw[Eg (λk b=>m k (z k b))] at this
    refine kR c ?_ (X _ _ (by rw[n];exact w) u.2 this)
    rintro e aa Y2 ⟨E,F,S,D⟩
    cases e<;>first
     |exact⟨⟨E.trans n,λk b=>(F k b).trans (m k b),S s,D.1⟩,D.2⟩
     |exact⟨E.trans n,λk b=>(F k b).trans (m k b),λ_=>S s,D⟩
 |_=>intro i Q g Y w u h;exact h.elim
end
def jS(Y:ae)(vs:List AV):AV:=match vs with|[v]=>iZ Y v|vs=> .t (vs.map (iZ Y))
def aE(R:AV->Prop)(Y:ae)(vs:List AV):Prop:=kG (jS Y vs)=U/\R (jS Y vs)
def aoz(vs:List AV):AV:=match vs with|[v]=>v|vs=> .t vs
def fe(R:AV->ae->Prop)(Y:ae)(vs:List AV):Prop:=R (aoz vs) Y
def uV(P:Program)(b:Rg)(Y:ae):List ResultVar->(List AV->Prop)->Prop
 |[],K=>K []
 |x::l,K=>
  match x with
  | .tmp t=>uV P b Y l λvs=>K (b t::vs)
  | .cell a t=>match qK P t with|some k=>rV (kb k Y (b a)) λv=>uV P b Y l λvs=>K (v::vs)|none=>False
def Sg(P:Program)(f:Func)(R:AV->Prop):QZ:=λe a Y=>
 match e with
 | .normal=>uV P a Y f.results.toList λvs=>aE R Y vs
 | .ret=>uV P a Y f.results.toList λvs=>aE R Y vs
 |_=>False
def tO(P:Program)(f:Func)(R:AV->ae->Prop):QZ:=λe a Y=>
 match e with
 | .normal=>uV P a Y f.results.toList λvs=>fe R Y vs
 | .ret=>uV P a Y f.results.toList λvs=>fe R Y vs
 |_=>False
def ZF(P:Program)(G:nn)(T:dO)(an:List (Option (List Nat×List Nat)))(f:Func)(ys:List AV)(R:AV->Prop):Prop:=
 match f.body with
 |some c=>iV P G T an c 0 (Sg P f R) (gt (start f ys)) (ly f)
 |none=>False
def ZB(P:Program)(G:nn)(T:dO)(an:List (Option (List Nat×List Nat)))(f:Func)(ys:List AV)(Y:ae)(R:AV->ae->Prop):Prop:=
 match f.body with
 |some c=>iV P G T an c 0 (tO P f R) (gt (start f ys)) Y
 |none=>False
def uM(an:List (Option (List Nat×List Nat)))(f:Func)(n:Nat):Bool:=
 match f.body with
 |some c=>(gG c).all (λk=>Nat.blt k f.ntmps)&&oG an c 0&&!(f.name== "runtime.NumGoroutine")&&Nat.ble n f.ntmps
 |none=>I
section
variable{P:Program}{G:nn}{T:dO}{an:List (Option (List Nat×List Nat))}
def Ep{b:List AV}{Y:ae}:∀(l:List ResultVar) (K:List AV->Prop),uV P (gt b) Y l K->∃vs,(l.map (kK P b Y)).mapM id=V vs/\K vs:=by intro l;induction l with|nil=>intro K h;exact⟨[],rfl,h⟩|cons x l f=>intro K h;simp only[uV] at h;split at h;rename_i t;obtain⟨vs,c,d⟩:=f _ h;refine⟨gt b t::vs,?_,d⟩;simp only[ji,aQa,kK,id,xp,qd,c,xq];rfl;rename_i a t;split at h;rename_i k i;obtain⟨v,g,h⟩:=jq h;obtain⟨vs,c,d⟩:=f _ h;refine⟨v::vs,?_,d⟩;have e:kK P b Y (.cell a t)=V v:=(by simp only[kK];rw[<-g];unfold kb gt;congr 1;funext cs;exact an8 i);simp only[ji,aQa,e,id,xp,qd,c,xq];exact h.elim
def aFg{f:Func}{c:List AV}{Y:ae}{vs:List AV}(h:(f.results.toList.map (kK P c Y)).mapM id=V vs):yB P f c Y=V (jS Y vs):=by unfold yB;split;rename_i r d;rw[d] at h;simp only[aQa,aqT,id,xp,xq,qd] at h;(cases r with|none=>(cases h)|some v=>simp only[qd,bE] at h;subst h;rfl);rename_i b;rw[h];simp only[df,bE];unfold jS;split;rename_i v;have a:=Qn _ _ h;obtain⟨y,e⟩:=xj.1 a;exact nl e (b y);rfl
def QU{f:Func}{c:List AV}{Y:ae}{vs:List AV}(h:(f.results.toList.map (kK P c Y)).mapM id=V vs):wG P f c Y=V (aoz vs):=by unfold wG;split;rename_i r d;rw[d] at h;simp only[aQa,aqT,id,xp,xq,qd] at h;(cases r with|none=>(cases h)|some v=>simp only[qd,bE] at h;subst h;rfl);rename_i b;rw[h];simp only[df,bE];unfold aoz;split;rename_i v;have a:=Qn _ _ h;obtain⟨y,e⟩:=xj.1 a;exact nl e (b y);rfl
def aoI{f:Func}{ys:List AV}(h:L ys<=f.ntmps):L (start f ys)=f.ntmps:=by unfold start;simp only[P8,oA];omega
def anI{f:Func}{n:Nat}(h:uM an f n=U):∃c,f.body=V c/\(∀k∈gG c,k<f.ntmps)/\oG an c 0=U/\(f.name== "runtime.NumGoroutine")=I/\n<=f.ntmps:=by unfold uM at h;split at h;rename_i c a;simp only[bN,dV,eH] at h;exact⟨c,a,λk b=>Nat.blt_eq.mp (h.1.1.1 k b),h.1.1.2,h.1.2,Nat.ble_eq.mp h.2⟩;cases h
def uq(n:tQ P)(k:pq P G T){fn:FuncId}{f:Func}{ys:List AV}{R:AV->Prop}(l:P.funcs[fn]?=V f)(m:uM an f (L ys)=U)(h:ZF P G T an f ys R):Fn P G fn ys R:=by obtain⟨c,d,g,i,j,b⟩:=anI m;unfold ZF at h;rw[d] at h;simp only at h;refine aBg n l d j b (kR c ?_ (Kj k c 0 _ (by rw[aoI b];exact g) i h));rintro e r Y ⟨_,_,_,a⟩;(cases e<;>simp only[Sg] at a<;>first|exact a.elim|skip);all_goals obtain⟨vs,o,p,q⟩:=Ep _ _ a;exact⟨_,aFg o,p,q⟩
def aBe(o:tQ P)(l:pq P G T){fn:FuncId}{f:Func}{ys:List AV}{Y:ae}{R:AV->ae->Prop}(m:P.funcs[fn]?=V f)(n:uM an f (L ys)=U)(h:ZB P G T an f ys Y R):∃r b,R r b/\cZ P G fn ys Y r b:=by obtain⟨c,d,g,i,j,k⟩:=anI n;unfold ZB at h;rw[d] at h;simp only at h;refine aBf o m d j (kR c ?_ (Kj l c 0 _ (by rw[aoI k];exact g) i h));rintro e s Y ⟨_,_,_,a⟩;(cases e<;>simp only[tO] at a<;>first|exact a.elim|skip);all_goals obtain⟨vs,p,q⟩:=Ep _ _ a;exact⟨_,QU p,q⟩
end
abbrev iv(n:Int):AV:= .s (.int .i64 n)
abbrev bv(b:Bool):AV:= .s (.bool b)
abbrev sv(l:List UInt8):AV:= .s (.string ⟨l.toArray⟩)
def lb(r:Bool)(xs:List AV)(d:List Nat):fY:=(r,xs.flatMap cD++d)
def lbV(Y:ae)(x v:AV):fY:=(I,(if aBG Y x=U then cD x else[x,v].flatMap cD)++[])
def Qh(xs:List AV):fY:=(U,xs.flatMap cD)
def cq(r:Bool)(Y:ae):fY:=(r,vO Y)
def mY{e:TypeId}{z d N:Nat}{cs:List AV}{a:AV}{Y:ae}{c:AV->ae->Prop}(o:eY a=V cs)(s:L cs=z)(m:0<z)(q:d<N)(g:L Y=N)(i:(aZ Y d).lB=0)(r:∀Y':ae,L Y'=N->box Y' (d,1)=V ⟨e,z,U,U,[cs]⟩->(∀k v,k≠d->box Y' (k,v)=box Y (k,v))->(∀k,k≠d->aZ Y' k=aZ Y k)->c (.p (d,1) 0 0) Y'):eV (qm e z Y d a) c:=by have b:d<L Y:=(by rw[g];exact q);have l:qm e z Y d a=V (.p (d,1) 0 0,put Y d ⟨e,z,U,U,[cs]⟩):=(by simp[qm,o,s,m,y7,b,lA,i]);rw[l];have j:∀k,k≠d->aZ (put Y d ⟨e,z,U,U,[cs]⟩) k=aZ Y k:=λk h=>(by unfold aZ put;rw[eI,oq (λe=>h e.symm),<-eI]);refine r _ (by simp[put,g]) ?_ (λk v h=>by unfold box;simp only[j k h]) j;have f:=iy (Y:=Y) (x:=⟨e,z,U,U,[cs]⟩) b;have n:lA Y d=(d,1):=(by simp[lA,i]);rw[n] at f;exact f
def iN{e:TypeId}{z d:Nat}{cs:List AV}{a:AV}{Y:ae}{c:AV->ae->Prop}(i:eY a=V cs)(o:L cs=z)(g:0<z)(j:d<4096)(m:L Y=4096)(l:∀(Y':ae) (v:Nat),Kp Y Y'->(∀k,k≠d->aZ Y' k=aZ Y k)->(∀x,box Y (d,v)≠V x)->box Y' (d,v)=V ⟨e,z,U,U,[cs]⟩->c (.p (d,v) 0 0) Y'):eV (qm e z Y d a) c:=by have b:d<L Y:=(by rw[m];exact j);have f:qm e z Y d a=V (.p (lA Y d) 0 0,put Y d ⟨e,z,U,U,[cs]⟩):=(by simp[qm,i,o,g,y7,b]);rw[f];exact l _ _ (am8 b) (λk h=>jQ h) (λx n=>AR n rfl) (iy b)
def uB{f:Func}:L (ly f)=4096:=oA ..
end Go.Ab
