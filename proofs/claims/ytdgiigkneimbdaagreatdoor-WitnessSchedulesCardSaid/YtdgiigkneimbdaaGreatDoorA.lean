/- Part of the proof of WitnessSchedules. -/
import Derived.Orders
import GoSem.Core.CheckCode
import Derived.WalkKit
import Derived.Below
import Derived.Laws.OwnMore
import Derived.ArgAppend
import Derived.Laws.Small
import Derived.Laws.StructEq
import Derived.MapKept
import Derived.WideKeyRuns
import Derived.Laws.Tables
import Derived.Laws.MakeOwn
import Derived.Laws.CopyRow
import Derived.Great.BuildSlice
import GoSem.Builtin.Clear
import GoSem.Builtin.Copy
import Derived.Lib.AppendZeros
set_option linter.all false
open Array renaming foldl_toList->yY,getD->pZ,getElem?_eq_some_iff->vh,getElem_push_lt->aql,length_toList->Rz,mapM_eq_mapM_toList->aqm,mem_toList_iff->vj,replicate->aqn,toList_append->aqo,toList_inj->qb,toList_replicate->aqp,toList_setIfInBounds->aqq
open Bool renaming and_eq_true->bN,eq_false_iff->aqs,eq_false_or_eq_true->sq,false->I,not_eq_true'->eH,or_eq_true->fH,true->U,true_eq_false->sr
open Decidable renaming decide->Q
open Go.IntKind renaming i64->dq
open Go.World renaming cell?_of_block->ar6
open Int renaming natCast_add->Gw,natCast_mul->RE,toNat_natCast->bh
open List renaming all_cons->Cs,all_eq_true->dV,any_eq_true->tL,contains_iff_mem->aYv,eq_of_mem_replicate->RJ,ext_getElem->biF,ext_getElem?->aqI,flatten_cons->aqM,foldl_cons->GE,getD_eq_getElem?_getD->btc,getElem?_append->rA,getElem?_cons_zero->qh,getElem?_drop->mf,getElem?_eq_getElem->eC,getElem?_eq_none->qi,getElem?_eq_some_iff->mg,getElem?_map->ve,getElem?_of_mem->aqN,getElem?_range->GH,getElem?_set->xh,getElem?_set_ne->oq,getElem?_take->bwE,getElem?_toArray->RR,getElem_cons_zero->aqP,getElem_mem->qj,getElem_toArray->aqR,length->L,length_cons->bZ,length_eq_one_iff->buE,length_replicate->oA,length_singleton->GJ,length_take->gC,mapM_cons->aQa,map_congr_left->ja,map_cons->ji,map_id->brw,map_nil->mU,map_toArray->aqV,mem_append->dF,mem_append_left->qk,mem_append_right->biG,mem_cons->eW,mem_flatMap->iI,mem_map->dN,mem_map_of_mem->CA,mem_of_getElem?->fC,mem_of_mem_drop->CB,mem_of_mem_take->bnL,mem_or_eq_of_mem_set->CC,mem_range->fq,mem_singleton->cE,nil_append->dW,pairwise_cons->aqX,pairwise_iff_getElem->GN,range->aH,range'->GO,range'_succ->RX,range_eq_range'->aqY,replicate->er,replicate_succ->aqZ,size_toArray->xm,tail->GQ,take_zero->CE,toArray->aq1
open Nat renaming add_assoc->aYz,add_mul->aYA,add_zero->kP,div_add_mod->aq4,div_lt_of_lt_mul->aq5,eq_of_mul_eq_mul_right->aq6,eq_zero_or_pos->oD,le_of_eq->aSp,le_refl->dA,le_trans->gl,lt_of_lt_of_le->bpL,lt_or_ge->jj,lt_succ_of_lt->aq8,min_eq_left->rD,mod_eq_of_lt->aYD,mod_lt->bu8,mul_add_mod->aq9,mul_comm->vD,mul_le_mul_right->qo,mul_one->zx,sub_zero->ara,succ_mul->tN,zero_add->aj,zero_le->mh
open Ne renaming symm->Sa
open Option renaming bind_eq_bind->xp,bind_some->a6X,getD_none->sD,getD_some->mi,isSome_iff_exists->zz,map_some->df,none->J,pure_def->xq,some->V,some.inj->xu,some.injEq->aOe
open Prod renaming ext->GT,fst->Se,mk.injEq->iK,snd->Sf
namespace Go.Ab
open Go Go.RowKit
def aYx:=@absurd
def aNR:=@and_self
def aRI:=@and_true
def bih:=@cond_false
def aRa:=@cond_true
def bss:=@congrArg
def bqN:=@decide_eq_false
def aPs:=@decide_eq_false_iff_not
def bsi:=@decide_eq_true
def awG:=@decide_eq_true_eq
def bqF:=@decide_false
def bqQ:=@decide_true
def bwX:=@eq_true
def aPZ:=@false_implies
def btd:=@if_false
def za:=@if_neg
def zg:=@if_pos
def a6F:=@if_true
def FA:=@implies_true
def btD:=@ne_eq
def bCa:=@not_false_eq_true
def bFD:=@not_true_eq_false
def bsX:=@of_decide_eq_false
def aNQ:=@of_decide_eq_true
def brT:=@or_false
def bqL:=@propext
def Cq:=@true_and
def nJ:=And.intro @Cq @aRI
def aQl:=@true_implies
def fL:=And.intro @aPZ @aQl
def im:=And.intro @Cq @fL
def mb:=And.intro @aRI @fL
def A:=@rfl
def aYF{p a:Prop}(x:a)(h:a->p:=by omega):p:=h x
def be7{p a b:Prop}(x:a)(y:b)(h:a->b->p:=by omega):p:=h x y
def bic{α β:Type}{x}{f:α->Except String β}{b}(h:(x>>=f)= .ok b):∃a,x= .ok a/\f a= .ok b:=by cases x with|error e=>(cases h)|ok a=>exact⟨a,rfl,h⟩
def qf(p:Program):Code->Prop| .region _ ops d=>Region.ok p.types ops d=U| .seq a b=>qf p a/\qf p b| .cond _ a b=>qf p a/\qf p b| .block _ c=>qf p c| .loop c=>qf p c|_=>True
def aFc{p f c ops a}(h:CheckCode.region p f c ops a= .ok ()):Region.ok p.types ops a=U:=by unfold CheckCode.region at h;obtain⟨_,_,h⟩:=bic h;obtain⟨_,_,h⟩:=bic h;cases b:Region.ok p.types ops a with|true=>rfl|false=>rw[b] at h;cases h
def axx{p f}:∀(c) (d lb),CheckCode.code p f d lb c= .ok ()->qf p c:=λc=>by induction c with|region m ops l=>intro d lb h;exact aFc h|seq a b e g=>intro d lb h;obtain⟨_,i,j⟩:=bic h;exact⟨e d lb i,g d lb j⟩|cond c a b e g=>intro d lb h;obtain⟨_,_,h⟩:=bic h;obtain⟨_,i,j⟩:=bic h;exact⟨e d lb i,g d lb j⟩|block m c k=>intro d lb h;exact k _ _ h|loop c k=>intro d lb h;exact k _ _ h|_=>intro d lb h;trivial
def ame{α:Type}{g:α->Except String Unit}:∀(l:List α),l.forM g= .ok ()->∀x∈l,g x= .ok ()
 |[],_,x,a=>by cases a
 |y::l,h,x,a=>by
  have b:(g y>>=λ_=>l.forM g)= .ok ():=h
  obtain⟨_,c,d⟩:=bic b
  obtain rfl|a:=eW.1 a
  ·exact c
  ·exact ame l d x a
def X{p:Prop}(h:p:=by grind):p:=h
theorem aBs{p}(h:(aH p.funcs.size).forM (CheckCode.funcAt p)= .ok ()){fn:FuncId}{f c}(j:p.funcs[fn]?=V f)(i:f.body=V c):qf p c:=by have d:fn<p.funcs.size:=X;have b:=ame _ h fn<|fq.2 d;unfold CheckCode.funcAt at b;rw[j] at b;have a:CheckCode.func p f= .ok ():=(by cases k:CheckCode.func p f with|error e=>simp only[k] at b;cases b|ok u=>rfl);unfold CheckCode.func at a;obtain⟨_,_,a⟩:=bic a;obtain⟨_,_,a⟩:=bic a;obtain⟨_,_,a⟩:=bic a;rw[i] at a;obtain⟨_,_,a⟩:=bic a;obtain⟨_,g,_⟩:=bic a;exact axx c _ _ g
abbrev Id:=Nat×Nat
inductive AV where
 |s(v:Value)
 |u
 |l(bA:List<|List AV)(tight own:Bool)
 |a(cs:List AV)
 |t(cs:List AV)
 |p(b:Id)(i j:Nat)
 |q(cs:List AV)
 |m(b:Id)(n:Nat)
 |f(fn:FuncId)(first cap:List AV)
 |g(k:Nat)(b:Id)(o n:Nat)
 deriving Inhabited
abbrev dM:=List AV
abbrev eu:=List Int
abbrev eP:=List Nat
structure Env where
 glob:Nat->Option (dM)
 imp:FuncId->Bool
 rd:FuncId->Bool
 nw:FuncId->Bool
 sv:Bool
 fp:FuncId->Option (eP)
instance:CoeFun Env (λ_=>Nat->Option (dM)):=⟨Env.glob⟩
structure bY where
 elem:TypeId
 size:Nat
 own:Bool
 var:Bool
 bA:List (dM)
structure vG where
 ver:Nat
 val:Nat->Option bY
abbrev mO:vG:=⟨0,λ_=>J⟩
abbrev ae:=List vG
structure Ctx where
 F:Nat->Prop
 base:Nat
def aZ(Y:ae)(k:Nat):vG:=Y.getD k mO
def box(Y:ae)(b:Id):Option bY:=if b.2<=(aZ Y b.1).ver then(aZ Y b.1).val b.2 else J
def jO(Y:ae)(b:Id):Bool:=Q (b.2<=(aZ Y b.1).ver)&&((aZ Y b.1).val b.2).isNone
def eN:AV->Bool| .s _=>U| .l _ a own=>!a&&!own|_=>I
def db(bA:List<|dM)(i j:Nat):Option AV:=(bA[i]?).bind (λr=>r[j]?)
def sc:Value->Bool| .bool _| .int _ _| .string _| .pointer none| .nilFunc| .nilIface| .map none| .chan none| .float _ _| .complex _ _ _=>U|_=>I
def amk:Value->Bool| .agg _| .tuple _=>I|_=>U
def AF{v}(h:sc v=U):amk v=U:=by cases v<;>simp_all [sc,amk]
def XV(k z m a o n:Nat)(v:Value):Prop:=(k=0/\z=0/\v= .map (V a))\/(k=1/\z=0/\v= .pointer (V ⟨a,0,J⟩))\/(k=2/\0<z/\o+n<=m/\∃cap,v= .slice (V ⟨a,o*z,J⟩) n cap)
theorem XV.cell{k z m a o n v}(h:XV k z m a o n v):amk v=U:=by obtain⟨_,_,rfl⟩|⟨_,_,rfl⟩|⟨_,_,_,_,rfl⟩:=h<;>rfl
def ent(p:Value×Value):AV:= .t [.s p.1, .s p.2]
def oQ:Nat->List (Value×Value)->List MapEntry|_,[]=>[]|i,p::a=>⟨p.1,p.2,i⟩::oQ (i+1) a
def DW(v:Value):Bool:=match v with| .agg a=>a.toList.all sc|_=>U
def uK(p:Value×Value):Bool:=sc p.2&&DW p.1
def GW(x:bY)(o:Option Obj):Prop:=(x.var=U/\∃a:List<|Value×Value,x.bA=[a.map ent]/\a.all uK=U/\o=V (.map (oQ 0 a).toArray<|L a))\/(x.var=I/\∃(s:ByteArray) (b:Nat),x.bA=[[.s<|.string s, .s<|.int .i64 b]]/\o=V (.stringIter s b))
inductive ba(κ:Ctx)(w:World)(Y:ae)(β:Id->Nat):Value->AV->Prop
 |s {v:Value} (h:sc v=U):ba κ w Y β v (.s v)
 |u {v:Value}:ba κ w Y β v .u
 |a {vs:List Value} {cs:dM} (hl:L vs=L cs) (hc:∀v∈vs,amk v=U)
   (h:∀(i:Nat) v c,vs[i]?=V v->cs[i]?=V c->ba κ w Y β v c):ba κ w Y β (.agg vs.toArray) (.a cs)
 |t {vs:List Value} {cs:dM} (hl:L vs=L cs)
   (h:∀(i:Nat) v c,vs[i]?=V v->cs[i]?=V c->ba κ w Y β v c):ba κ w Y β (.tuple vs.toArray) (.t cs)
 |l0 {Aq:Option Addr} {c:Nat} {tight own:Bool} (ht:tight=U->c=0):ba κ w Y β (.slice Aq 0 c) (.l [] tight own)
 |l1 {blk off n c size:Nat} {bA:List (dM)} {tight own:Bool} (ho:own=U->κ.base<=blk) (nf:¬κ.F blk) (hd:∀i j x,db bA i j=V x->eN x=U) (g:Nat->Nat->Value) (hn:L bA=n) (hne:0<n) (hlen:n<=c) (ht:tight=U->c=n)
   (hb:blk<w.heap.size) (nd:∀b x,box Y b=V x->β b≠blk) (hs:∀r∈bA,L r=size)
   (hc:∀i j x,db bA i j=V x->w.cell? ⟨blk,off+i*size+j,J⟩=V (g i j))
   (hr:∀i j x,db bA i j=V x->ba κ w Y β (g i j) x) (hk:∀i j x,db bA i j=V x->amk (g i j)=U):ba κ w Y β (.slice (V ⟨blk,off,J⟩) n c) (.l bA tight own)
 |p1 {b:Id} {i j o:Nat} {x:bY} (h:box Y b=V x) (hz:0<x.size) (ho:o=i*x.size+j):ba κ w Y β (.pointer<|V ⟨β b,o,J⟩) (.p b i j)
 |p0 {v:Value} {b:Id} {i j:Nat} (h:jO Y b=U) (hv:amk v=U):ba κ w Y β v (.p b i j)
 |q {blk off:Nat} {cs:dM} (nf:¬κ.F blk) (g:Nat->Value) (hb:blk<w.heap.size) (nd:∀b x,box Y b=V x->β b≠blk)
   (hc:∀j x,cs[j]?=V x->w.cell? ⟨blk,off+j,J⟩=V (g j)) (hr:∀j x,cs[j]?=V x->ba κ w Y β (g j) x)
   (hk:∀j x,cs[j]?=V x->amk (g j)=U):ba κ w Y β (.pointer<|V ⟨blk,off,J⟩) (.q cs)
 |m1 {b:Id} {n cap:Nat} {x:bY} {cur:Array Value} (h:box Y b=V x) (hn:n<=L x.bA) (hh:w.heap[β b]?=V (.cells cur x.elem (0,0))) (hcap:cur.size=cap*x.size) (hz:0<x.size):
   ba κ w Y β (.slice (V ⟨β b,0,J⟩) n cap)<|.m b n
 |m0 {v:Value} {b:Id} {n:Nat} (h:jO Y b=U) (hv:amk v=U):ba κ w Y β v (.m b n)
 |g1 {v:Value} {b:Id} {k o n:Nat} {x:bY} (h:box Y b=V x) (hv:XV k x.size (L x.bA) (β b) o n v):ba κ w Y β v (.g k b o n)
 |g0 {v:Value} {b:Id} {k o n:Nat} (h:jO Y b=U) (hv:amk v=U):ba κ w Y β v (.g k b o n)
 |f {fn:FuncId} {fs cs:List Value} {fa ca:dM} (hl:L fs=L fa) (hl':L cs=L ca)
   (h:∀(i:Nat) v c,fs[i]?=V v->fa[i]?=V c->ba κ w Y β v c) (h':∀(i:Nat) v c,cs[i]?=V v->ca[i]?=V c->ba κ w Y β v c):
   ba κ w Y β (.func (.func fn) fs.toArray cs.toArray)<|.f fn fa ca
def one:AV->Bool| .a _| .t _| .u=>I|_=>U
theorem ba.cell{κ w Y β v x}(h:ba κ w Y β v x)(a:one x=U):amk v=U:=by cases h<;>first|rfl|assumption|(simp[one] at a;done)|(exact AF ‹_›)|grind [XV.cell]
structure dw(w:World)(Y:ae)(β:Id->Nat)(w':World)(Y':ae)(β':Id->Nat):Prop where
 os:w'.os=w.os
 tape:w'.tape=w.tape
 output:w'.output=w.output
 size:w.heap.size<=w'.heap.size
 keep:∀k,k<w.heap.size->(∀b x,box Y b=V x->β b≠k)->w'.heap[k]?=w.heap[k]?
 dead:∀b,jO Y b=U->jO Y' b=U
 live:∀b x,box Y b=V x->jO Y' b=U\/∃x',box Y' b=V x'/\x'.size=x.size/\x'.elem=x.elem/\L x'.bA=L x.bA/\β' b=β b/\
  ∀cur,w.heap[β b]?=V (.cells cur x.elem (0,0))->∃cur',w'.heap[β b]?=V (.cells cur' x.elem (0,0))/\cur'.size=cur.size
 fresh:∀b' x',box Y' b'=V x'->w.heap.size<=β' b'\/∃b x,box Y b=V x/\β b=β' b'
section
variable{κ:Ctx}{w w' w'':World}{Y Y' Y'':ae}{β β' β'':Id->Nat}
theorem dw.nd(e:dw w Y β w' Y' β'){k}(j:k<w.heap.size)(c:∀b x,box Y b=V x->β b≠k):∀b x,box Y' b=V x->β' b≠k:=λb x a i=>by obtain h|⟨d,x0,f,g⟩:=e.fresh b x a;omega;simp_all
def Z{p:Prop}(h:p:=by omega):p:=h
theorem vB{p:Prop}(h:p:=by simp_all):p:=h
theorem ba.ext{v x}(h:ba κ w Y β v x)(e:dw w Y β w' Y' β'):ba κ w' Y' β' v x:=by induction h with|s h=>exact .s h|u=>exact .u|a p C h c=>exact .a p C c|t p h c=>exact .t p c|l0 G=>exact .l0 G|l1 F nf m g N P E G l y hs C hr D c=>refine .l1 F nf m g N P E G (bpL l e.size) (e.nd l y) hs (λi j x hx=>?_) c D;rw[ar6<|e.keep _ l y];simp_all|@p1 b i j o x h hz F=>obtain m|⟨x',z,hs,_,_,d,_⟩:=e.live b x h;exact .p0 m A;rw[<-d];exact .p1 z Z (by rw[F,hs])|p0 h r=>exact .p0 (e.dead _ h) r|q nf g l y C hr D c=>refine .q nf g (bpL l e.size) (e.nd l y) (λj x hx=>?_) c D;rw[ar6<|e.keep _ l y];grind|@m1 b n cap x cur h N W T hz=>obtain m|⟨x',z,hs,K,p,d,B⟩:=e.live b x h;exact .m0 m A;obtain⟨S,h1,h2⟩:=B cur W;rw[<-d];exact .m1 z Z (by rwa [d,K]) vB Z|m0 h r=>exact .m0 (e.dead _ h) r|@g1 v b k o n x h r=>obtain m|⟨x',z,hs,K,p,d,B⟩:=e.live b x h;exact .g0 m r.cell;exact .g1 z vB|g0 h r=>exact .g0 (e.dead _ h) r|f p M h z c R=>exact .f p M c R
theorem dw.refl(w)(Y)(β):dw w Y β w Y β:=⟨A,A,A,dA _,λ_ _ _=>A,λ_ h=>h,vB,X⟩
theorem qD{b x}(h:jO Y b=U)(a:box Y b=V x):False:=by grind [jO,box]
theorem dw.trans(e:dw w Y β w' Y' β')(a:dw w' Y' β' w'' Y'' β''):dw w Y β w'' Y'' β'':=by refine⟨a.os.trans e.os,a.tape.trans e.tape,a.output.trans e.output,gl e.size a.size,λk f g=>?_,λb h=>a.dead b<|e.dead b h,λb x h=>?_,λb x h=>?_⟩;exact(a.keep k (bpL f e.size)<|e.nd f g).trans<|e.keep k f g;obtain d|⟨j,c,hs,y,z,t,o⟩:=e.live b x h;exact .inl<|a.dead b d;obtain d|⟨x2,i,s,q,r,p,l⟩:=a.live b j c;exact .inl d;grind;obtain c|⟨m,x0,n,c⟩:=a.fresh b x h;exact .inl<|gl e.size c;obtain i|⟨u,j,i,v⟩:=e.fresh m x0 n;omega;grind
end
structure ES(P:Program)(κ:Ctx)(w:World)(Y:ae)(β:Id->Nat)(b:Id)(x:bY):Prop where
 pos:0<x.size
 info:(P.info? x.elem).map (·.size)=V x.size
 rl:∀r∈x.bA,L r=x.size
 dt:x.var=I->∀i j y,db x.bA i j=V y->eN y=U
 ex:∃(cur:Array Value) (cap:Nat),w.heap[β b]?=V (.cells cur x.elem (0,0))/\cur.size=cap*x.size/\L x.bA<=cap/\cap<=maxLen/\
  ∀i j y,db x.bA i j=V y->∃v,cur[i*x.size+j]?=V v/\amk v=U/\ba κ w Y β v y
structure rv(P:Program)(κ:Ctx)(w:World)(Y:ae)(β:Id->Nat)(b:Id)(x:bY):Prop where
 ow:x.own=U->κ.base<=β b
 nf:¬κ.F (β b)
 cl:0<x.size->ES P κ w Y β b x
 sp:x.size=0->GW x w.heap[β b]?
def rv.cells{P κ w Y β b x}(k:rv P κ w Y β b x){cur e z}(h:w.heap[β b]?=V (.cells cur e z)):ES P κ w Y β b x:=by obtain a|a:=oD x.size;obtain⟨_,_,_,_,c⟩|⟨_,_,_,_,c⟩:=k.sp a<;>(simp_all);exact k.cl a
def rv.some{P κ w Y β b x}(k:rv P κ w Y β b x):∃o,w.heap[β b]?=V o:=by obtain a|a:=oD x.size;obtain⟨_,_,_,_,c⟩|⟨_,_,_,_,c⟩:=k.sp a<;>exact⟨_,c⟩;obtain⟨_,_,c,_⟩:=(k.cl a).ex;simp_all
structure zw(P:Program)(κ:Ctx)(w:World)(Y:ae)(β:Id->Nat):Prop where
 ok:∀b x,box Y b=V x->rv P κ w Y β b x
 inj:∀b b' x x',box Y b=V x->box Y b'=V x'->β b=β b'->b=b'
 old:∀k,κ.F k->k<w.heap.size
 base:κ.base<=w.heap.size
def zw.lt{P κ w Y β}(s:zw P κ w Y β){b x}(h:box Y b=V x):β b<w.heap.size:=by obtain⟨o,a⟩:=(s.ok b x h).some;grind
def zw.new{P κ w Y β}(s:zw P κ w Y β){k}(h:w.heap.size<=k):¬κ.F k/\κ.base<=k:=⟨λa=>by have:=s.old k a;omega,gl s.base h⟩
def zO{bA i j size x}(hs:∀r∈bA,L r=size)(h:db bA i j=V x):i<L bA/\j<size:=by grind [db,mg,qj]
def upd(β:Id->Nat)(b:Id)(k:Nat):Id->Nat:=λc=>if c=b then k else β c
theorem gx(β)(b)(k):upd β b k b=k:=by simp[upd]
theorem iG{β b c k}(h:c≠b):upd β b k c=β c:=by simp[upd,h]
def lA(Y:ae)(k:Nat):Id:=(k,(aZ Y k).ver+1)
def put(Y:ae)(k:Nat)(x:bY):ae:=Y.set k ⟨(aZ Y k).ver+1,λv=>if v=(aZ Y k).ver+1 then V x else(aZ Y k).val v⟩
def kill(Y:ae)(b:Id):ae:=Y.set b.1 ⟨(aZ Y b.1).ver,λv=>if v=b.2 then J else(aZ Y b.1).val v⟩
def wr(Y:ae)(b:Id)(x:bY):ae:=Y.set b.1 ⟨(aZ Y b.1).ver,λv=>if v=b.2 then V x else(aZ Y b.1).val v⟩
section
variable{P:Program}{κ:Ctx}{w w':World}{Y:ae}{β:Id->Nat}
theorem iD{k s}(h:k<L Y):aZ (Y.set k s) k=s:=by simp[aZ,h]
theorem jQ{k j s}(h:j≠k):aZ (Y.set k s) j=aZ Y j:=by grind [aZ,oq]
theorem lN{b x}(h:box Y b=V x):b.1<L Y:=by obtain a|a:=jj b.1<|L Y;exact a;simp_all [aZ,mO,box]
theorem aOm{b x}(h:box Y b=V x):b.2<=(aZ Y b.1).ver/\(aZ Y b.1).val b.2=V x:=by grind [box]
theorem nR{b x}(a:b.2<=(aZ Y b.1).ver)(c:(aZ Y b.1).val b.2=V x):box Y b=V x:=by simp[box,a,c]
theorem Dx{b}:jO Y b=U↔b.2<=(aZ Y b.1).ver/\(aZ Y b.1).val b.2=J:=by simp[jO]
theorem iy{k x}(h:k<L Y):box (put Y k x) (lA Y k)=V x:=(by grind [nR,put,lA,iD])
theorem aRn{k x y c}(h:k<L Y)(g:box (put Y k x) c=V y):(c=lA Y k/\y=x)\/(c≠lA Y k/\box Y c=V y):=by obtain⟨d,a⟩:=aOm g;by_cases f:c.1=k;subst f;simp only[put,iD h] at d a;by_cases b:c.2=(aZ Y c.1).ver+1;rw[zg b] at a;exact .inl ⟨GT A b,vB⟩;rw[za b] at a;exact .inr ⟨λe=>b (by rw[e];rfl),nR Z a⟩;right;simp only[put,jQ f] at d a;exact⟨λe=>f (by rw[e];rfl),nR d a⟩
theorem uA{k x y c}(h:k<L Y)(a:box Y c=V y):box (put Y k x) c=V y:=by grind [aOm,nR,put,iD,jQ]
theorem Dy{k x c}(h:k<L Y)(a:jO Y c=U):jO (put Y k x) c=U:=by grind [Dx,put,iD,jQ]
theorem AR{k y c}(a:box Y c=V y):c≠lA Y k:=(by grind [aOm,lA])
theorem amv{b x}(a:box Y b=V x):jO (kill Y b) b=U:=by grind [Dx,aOm,kill,iD,lN]
theorem xz{b c x y}(a:box Y b=V x)(d:box (kill Y b) c=V y):c≠b/\box Y c=V y:=by grind [aOm,kill,iD,lN,nR,jQ]
theorem Qc{b c x y}(d:box Y b=V x)(e:box Y c=V y)(a:c≠b):box (kill Y b) c=V y:=by grind [aOm,GT,nR,kill,iD,lN,jQ]
theorem amu{b c x}(a:box Y b=V x)(d:jO Y c=U):jO (kill Y b) c=U:=by grind [Dx,kill,iD,lN,jQ]
theorem yg(b):L (kill Y b)=L Y:=by simp[kill]
def Bf(k)(x):L (put Y k x)=L Y:=by simp[put]
theorem lO{b x x'}(a:box Y b=V x):box (wr Y b x') b=V x':=by grind [aOm,nR,wr,iD,lN]
theorem sL{b c x x' y}(f:box Y b=V x)(a:box (wr Y b x') c=V y):(c=b/\y=x')\/(c≠b/\box Y c=V y):=by obtain⟨d,e⟩:=aOm a;by_cases g:c.1=b.1;grind [wr,iD,lN,GT,xu,nR];grind [wr,jQ,nR]
theorem DY{b c x x' y}(d:box Y b=V x)(e:box Y c=V y)(a:c≠b):box (wr Y b x') c=V y:=by grind [aOm,GT,nR,wr,iD,lN,jQ]
theorem Ll{b c x x'}(a:box Y b=V x)(d:jO Y c=U):jO (wr Y b x') c=U:=by grind [aOm,Dx,wr,iD,lN,jQ]
theorem rv.ext{Y' c b x}(h:rv P κ w Y β b x)(e:dw w Y β w' Y' c)(a:c b=β b)(n:w'.heap[β b]?=w.heap[β b]?):rv P κ w' Y' c b x:=by
 refine⟨by rw[a];exact h.ow,by rw[a];exact h.nf,λd=>?_,λd=>by rw[a,n];exact h.sp d⟩
 have k:=h.cl d
 obtain⟨cur,cap,s,f,g,l,m⟩:=k.ex
 exact⟨k.pos,k.info,k.rl,k.dt,cur,cap,vB,f,g,l,λi j y o=>by
  obtain⟨v,p,q,r⟩:=m i j y o
  exact⟨v,p,q,r.ext e⟩⟩
def rv.of{b x}(ow:x.own=U->κ.base<=β b)(nf:¬κ.F (β b))(k:ES P κ w Y β b x):rv P κ w Y β b x:=⟨ow,nf,λ_=>k,λh=>aYx k.pos Z⟩
theorem xJ(s:zw P κ w Y β)(h:Below w.heap.size w w'):dw w Y β w' Y β:=⟨h.os,h.tape,h.output,h.size,λk c _=>h.block k c,λ_ h=>h,λb x a=> .inr ⟨x,a,A,A,A,A,λcur d=>⟨cur,by rwa [h.block _<|s.lt a],A⟩⟩,X⟩
def Es(s:zw P κ w Y β)(h:Below w.heap.size w w'):zw P κ w' Y β:=⟨λb x a=>(s.ok b x a).ext (xJ s h) A<|h.block _<|s.lt a,s.inj,λk c=>bpL (s.old k c) h.size,gl s.base h.size⟩
theorem um{d b x}(s:zw P κ w Y β)(h:Below w.heap.size w w')(e:d<L Y)(f:w.heap.size<=b):dw w Y β w' (put Y d x) (upd β (lA Y d) b):=by refine⟨h.os,h.tape,h.output,h.size,λk i _=>h.block k i,λc a=>Dy e a,λc y a=>?_,λc y a=>?_⟩;exact .inr ⟨y,uA e a,A,A,A,iG<|AR a,λcur g=>⟨cur,by rwa [h.block _<|s.lt a],A⟩⟩;grind [aRn,gx,iG]
def Et{d f cap x cur}(s:zw P κ w Y β)(h:Below w.heap.size w w')(n:d<L Y)(a:w.heap.size<=f)
  (C:0<x.size)(q:(P.info? x.elem).map (·.size)=V x.size)(S:∀r∈x.bA,L r=x.size)(E:x.var=I->∀i j y,db x.bA i j=V y->eN y=U)
  (T:w'.heap[f]?=V (.cells cur x.elem (0,0)))(B:cur.size=cap*x.size)(t:L x.bA<=cap)(u:cap<=maxLen)
  (F:∀i j y,db x.bA i j=V y->∃v,cur[i*x.size+j]?=V v/\amk v=U/\ba κ w Y β v y):zw P κ w' (put Y d x) (upd β (lA Y d) f):=by
 have e:=um (x:=x) s h n a
 refine⟨λc y m=>?_,λc D y z m K o=>?_,λk G=>bpL (s.old k G) h.size,gl s.base h.size⟩
 ·obtain⟨rfl,rfl⟩|⟨b,g⟩:=aRn n m
  ·exact .of (by rw[gx];exactλ_=>(s.new a).2) (by rw[gx];exact(s.new a).1) ⟨C,q,S,E,cur,cap,by rwa [gx],B,t,u,λi j y m=>by
    obtain⟨v,M,N,R⟩:=F i j y m
    exact⟨v,M,N,R.ext e⟩⟩
  ·exact(s.ok c y g).ext e (iG b) (h.block _<|s.lt g)
 ·obtain⟨rfl,rfl⟩|⟨b,g⟩:=aRn n m<;>obtain⟨rfl,rfl⟩|⟨l,p⟩:=aRn n K
  ·rfl
  ·rw[gx,iG l] at o
   have:=s.lt p
   omega
  ·rw[gx,iG b] at o
   have:=s.lt g
   omega
  ·rw[iG b,iG l] at o
   exact s.inj c D y z g p o
structure vM(w w':World)(k:Nat):Prop where
 os:w'.os=w.os
 tape:w'.tape=w.tape
 output:w'.output=w.output
 size:w'.heap.size=w.heap.size
 block:∀i,i≠k->w'.heap[i]?=w.heap[i]?
theorem KN{b x x' cur a}(s:zw P κ w Y β)(f:box Y b=V x)(h:vM w w'<|β b)(r:x'.size=x.size)(n:x'.elem=x.elem)(q:L x'.bA=L x.bA)(o:w.heap[β b]?=V (.cells cur x.elem (0,0)))(l:w'.heap[β b]?=V (.cells a x.elem (0,0)))(j:a.size=cur.size):dw w Y β w' (wr Y b x') β:=by refine⟨h.os,h.tape,h.output,aSp h.size.symm,λk p t=>h.block k X,λc d=>Ll f d,λc y d=> .inr ?_,λc y d=> .inr ?_⟩;by_cases e:c=b;grind [lO];exact⟨y,DY f d e,A,A,A,A,λg m=>⟨g,by rwa [h.block _<|λi=>e<|s.inj c b y x d f i],A⟩⟩;grind [sL]
theorem aox{b cap x x' cur a}(s:zw P κ w Y β)(l:box Y b=V x)(h:vM w w'<|β b)(n:x'.size=x.size)(q:x'.elem=x.elem)(W:x'.own=x.own)(T:L x'.bA=L x.bA)(ad:∀r∈x'.bA,L r=x.size)(F:x'.var=I->∀i j y,db x'.bA i j=V y->eN y=U)
  (u:w.heap[β b]?=V (.cells cur x.elem (0,0)))(B:w'.heap[β b]?=V (.cells a x.elem (0,0)))(p:a.size=cur.size)(R:cur.size=cap*x.size)(ac:L x.bA<=cap)(C:cap<=maxLen)
  (N:∀i j y,db x'.bA i j=V y->∃v,a[i*x.size+j]?=V v/\amk v=U/\ba κ w Y β v y):zw P κ w' (wr Y b x') β:=by
 have e:=KN s l h n q T u B p
 have g:∀c y,box (wr Y b x') c=V y->∃y0,box Y c=V y0:=(by grind [sL])
 refine⟨λc y f=>?_,λc d y z f E t=>?_,λk S=>by rw[h.size];exact s.old k S,by rw[h.size];exact s.base⟩
 ·obtain⟨rfl,rfl⟩|⟨D,m⟩:=sL l f
  ·have o:=s.ok c x l
   have k:=o.cells u
   exact .of (by rw[W];exact o.ow) o.nf ⟨by rw[n];exact k.pos,by rw[q,n];exact k.info,vB,F,a,cap,vB,vB,Z,C,λi j y f=>by
    obtain⟨v,k1,k2,k3⟩:=N i j y f
    exact⟨v,vB,k2,k3.ext e⟩⟩
  ·exact(s.ok c y m).ext e A (h.block _<|λG=>D<|s.inj c b y x m l G)
 ·obtain⟨y0,K⟩:=g c y f
  obtain⟨z0,M⟩:=g d z E
  exact s.inj c d y0 z0 K M t
theorem D9{b d x x' y c}(g:box Y b=V x)(h:d<L Y)(f:box (put (kill Y b) d x') c=V y):(c=lA Y d/\y=x')\/(c≠lA Y d/\c≠b/\box Y c=V y):=by have:lA (kill Y b) d=lA Y d:=(by grind [lA,kill,iD,lN,jQ]);obtain⟨a,e⟩|⟨a,e⟩:=aRn (by rwa [yg]) f;simp_all;grind [xz]
theorem anF{b d x}(a:box Y b=V x):lA (kill Y b) d=lA Y d:=by grind [lA,kill,iD,lN,jQ]
theorem awB{b d x x'}(a:box Y b=V x)(c:d<L Y):box (put (kill Y b) d x') (lA Y d)=V x':=by grind [anF,iy,yg]
theorem al1{b d a x x'}(s:zw P κ w Y β)(g:box Y b=V x)(o:d<L Y)(h:w.grownBy w'<|V<|β b)(j:w.heap.size<=a\/a=β b):dw w Y β w' (put (kill Y b) d x') (upd β (lA Y d) a):=by have i:d<L (kill Y b):=(by rwa [yg]);refine⟨h.os,h.tape,h.output,h.size,λk m p=>h.block k m X,(by grind [Dy,amu]),λc y f=>?_,λc y f=>?_⟩;by_cases e:c=b;grind [Dy,amv];have k:=Qc g f e;refine .inr ⟨y,uA i k,A,A,A,iG<|AR f,λcur l=>⟨cur,?_,A⟩⟩;rwa [h.block _ (s.lt f)<|λn=>e<|s.inj c b y x f g X];grind [D9,gx,iG]
theorem aIi{b d a cap x x' cur}(s:zw P κ w Y β)(l:box Y b=V x)(q:d<L Y)(h:w.grownBy w'<|V<|β b)(m:w.heap.size<=a\/a=β b)
  (hz:x'.size=x.size)(he:x'.elem=x.elem)(hw:x'.own=x.own)(ag:∀r∈x'.bA,L r=x.size)(T:x'.var=I->∀i j y,db x'.bA i j=V y->eN y=U)
  (C:0<x.size)(hh:w'.heap[a]?=V (.cells cur x.elem (0,0)))(ah:cur.size=cap*x.size)(K:L x'.bA<=cap)(M:cap<=maxLen)
  (W:∀i j y,db x'.bA i j=V y->∃v,cur[i*x.size+j]?=V v/\amk v=U/\ba κ w Y β v y):zw P κ w' (put (kill Y b) d x') (upd β (lA Y d) a):=by
 have e:=al1 (x':=x') s l q h m
 have D:=s.ok b x l
 have k:=D.cl C
 have:(x.own=U->κ.base<=a)/\¬κ.F a:=by
  obtain g|g:=m
  ·exact⟨λ_=>(s.new g).2,(s.new g).1⟩
  ·rw[g];exact⟨D.ow,D.nf⟩
 refine⟨λc y f=>?_,λc S y z f R u=>?_,λk hk=>bpL (s.old k hk) h.size,gl s.base h.size⟩
 ·obtain⟨rfl,rfl⟩|⟨p,t,f⟩:=D9 l q f
  ·exact .of (by grind [gx]) (by grind [gx]) ⟨Z,by rw[he,hz];exact k.info,vB,T,cur,cap,by grind [gx],vB,K,M,λi j y f=>by
    obtain⟨v,k1,k2,k3⟩:=W i j y f
    exact⟨v,vB,k2,k3.ext e⟩⟩
  ·exact(s.ok c y f).ext e (iG p) (h.block _ (s.lt f)<|λe3=>t<|s.inj c b y x f l X)
 ·have:∀o z,box Y o=V z->o≠b->β o≠a:=λo z n E G=>by
   obtain g|g:=m
   ·have:=s.lt n;omega
   ·exact E (s.inj o b z x n l<|G.trans g)
  obtain⟨rfl,rfl⟩|⟨p,t,N⟩:=D9 l q f<;>obtain⟨rfl,rfl⟩|⟨B,aa,n⟩:=D9 l q R
  ·rfl
  ·grind [gx,iG,absurd]
  ·grind [gx,iG,absurd]
  ·rw[iG p,iG B] at u
   exact s.inj c S y z N n u
theorem aow{d f x}(s:zw P κ w Y β)(h:Below w.heap.size w w')(j:d<L Y)(a:w.heap.size<=f)(r:x.size=0)(t:GW x w'.heap[f]?):zw P κ w' (put Y d x) (upd β (lA Y d) f):=by have e:=um (x:=x) s h j a;refine⟨λc y n=>?_,λc o y z n q l=>?_,λk p=>bpL (s.old k p) h.size,gl s.base h.size⟩;obtain⟨rfl,rfl⟩|⟨b,g⟩:=aRn j n;exact⟨by rw[gx];exactλ_=>(s.new a).2,by rw[gx];exact(s.new a).1,Z,by grind [gx]⟩;exact(s.ok c y g).ext e (iG b)<|h.block _<|s.lt g;obtain⟨rfl,rfl⟩|⟨b,g⟩:=aRn j n<;>obtain⟨rfl,rfl⟩|⟨i,m⟩:=aRn j q;rfl;rw[gx,iG i] at l;have:=s.lt m;omega;rw[gx,iG b] at l;have:=s.lt g;omega;rw[iG b,iG i] at l;exact s.inj c o y z g m l
theorem KO{b x x'}(s:zw P κ w Y β)(d:box Y b=V x)(h:vM w w'<|β b)(n:x.size=0)(m:x'.size=x.size)(j:x'.elem=x.elem)(l:L x'.bA=L x.bA):dw w Y β w' (wr Y b x') β:=by refine⟨h.os,h.tape,h.output,aSp h.size.symm,λk o p=>h.block k X,λc a=>Ll d a,λc y a=> .inr ?_,λc y a=> .inr ?_⟩;by_cases e:c=b;subst e;rw[d] at a;cases a;refine⟨x',lO d,m,j,l,A,λf g=>?_⟩;have:=((s.ok c x d).cells g).pos;omega;exact⟨y,DY d a e,A,A,A,A,λf g=>⟨f,by rwa [h.block _<|λi=>e<|s.inj c b y x a d i],A⟩⟩;grind [sL]
theorem aoy{b x x'}(s:zw P κ w Y β)(f:box Y b=V x)(h:vM w w'<|β b)(i:x.size=0)(C:x'.size=x.size)(r:x'.elem=x.elem)(v:L x'.bA=L x.bA)(B:x'.own=x.own)(t:GW x' w'.heap[β b]?):zw P κ w' (wr Y b x') β:=by have e:=KO s f h i C r v;have a:∀c y,box (wr Y b x') c=V y->∃y0,box Y c=V y0:=(by grind [sL]);refine⟨λc y j=>?_,λc d y z j n l=>?_,λk u=>by rw[h.size];exact s.old k u,by rw[h.size];exact s.base⟩;obtain⟨rfl,rfl⟩|⟨m,g⟩:=sL f j;have o:=s.ok c x f;exact⟨by rw[B];exact o.ow,o.nf,Z,λ_=>t⟩;exact(s.ok c y g).ext e A (h.block _<|λp=>m<|s.inj c b y x g f p);obtain⟨y0,i⟩:=a c y j;obtain⟨z0,q⟩:=a d z n;exact s.inj c d y0 z0 i q l
end
def fG(P:Program)(t:TypeId):Option Nat:=(P.info? t).map (·.size)
def tU(P:Program)(t:TypeId):Option Bool:=
 match P.underlying t with
 |some (.struct _)=>V U
 |some (.array _ _)=>V U
 |some _=>V I
 |none=>J
def yz(P:Program)(t:TypeId)(cs:dM):Option AV:=
 match tU P t,fG P t with
 |some true,some n=>if n<=L cs then V (.a<|cs.take n) else J
 |some false,_=>cs[0]?
 |_,_=>J
def iE(Y:ae):AV->Option (dM)| .p b i j=>(box Y b).bind λx=>(x.bA[i]?).map (·.drop j)| .q cs=>V cs|_=>J
section
variable{P:Program}{κ:Ctx}{w:World}{Y:ae}{β:Id->Nat}
theorem Df{k i cur e fz}(h:w.heap[k]?=V (.cells cur e fz)):w.cell? ⟨k,i,J⟩=cur[i]?:=by simp[World.cell?,h]
def arf(κ:Ctx)(w:World)(Y:ae)(β:Id->Nat)(v:Value)(cs:dM):Prop:=∃(a b:Nat) (g:Nat->Value),v= .pointer (V ⟨a,b,J⟩)/\∀k y,cs[k]?=V y->w.cell? ⟨a,b+k,J⟩=V (g k)/\amk (g k)=U/\ba κ w Y β (g k) y
theorem anZ{v x cs}(s:zw P κ w Y β)(h:ba κ w Y β v x)(a:iE Y x=V cs):arf κ w Y β v cs:=by cases x with|p b i j=>simp only[iE] at a;(cases c:box Y b with|none=>simp_all|some bx=>rw[c] at a;simp only[a6X] at a;cases d:bx.bA[i]? with|none=>simp_all|some r=>rw[d] at a;simp only[df,aOe] at a;subst a;cases h with|p0 h _=>grind [qD]|@p1 b i j o x' h l E=>rw[c] at h;cases h;obtain⟨cur,cap,t,u,z,B,f⟩:=((s.ok b bx c).cl l).ex;refine⟨β b,o,λk=>cur.getD (o+k)<|.bool I,A,λk y e=>?_⟩;rw[mf] at e;obtain⟨v,m,F,G⟩:=f i (j+k) y (by simp[db,d,e]);rw[show i*bx.size+(j+k)=o+k by omega] at m;have K:cur.getD (o+k) (.bool I)=v:=vB;grind [bool,amk,Df])|q n=>simp only[iE,aOe] at a;subst a;(cases h with|q nf g c M C d D=>exact⟨_,_,g,rfl,vB⟩)|_=>simp[iE] at a
theorem a61(b o n):(⟨b,o,J⟩:Addr).add n=⟨b,o+n,J⟩:=by grind [Addr.add]
theorem aIa(b o)(g):∀(n i) (acc),(∀k,i<=k->k<i+n->w.cell? ⟨b,o+k,J⟩=V (g k))->(loadCellsFrom ⟨b,o,J⟩ i n acc).run P w= .ok (acc++((GO i n).map g).toArray) w:=λn=>by induction n with|zero=>simp_all [loadCellsFrom]|succ n c=>intro i acc h;have a:=h i (dA _) Z;simp only[loadCellsFrom,load,a61,Sem.run_bind,Sem.run,a,Result.andThen_ok];rw[c (i+1) _ X];simp_all [RX]
theorem mN{t n}(h:fG P t=V n):(sizeOf t).run P w= .ok n w:=by unfold fG at h;cases a:P.info? t with|none=>simp_all|some i=>simp_all [df,aOe,sizeOf,typeInfo]
theorem wH{t b}(h:tU P t=V b):(isAgg t).run P w= .ok b w:=by unfold tU at h;cases a:P.underlying t with|none=>simp_all|some d=>rw[a] at h;simp only[isAgg,Sem.run_bind,run_underlying a,Result.andThen_ok];cases d<;>simp_all
def O{p:Prop}(h:p:=by simp):p:=h
def NA{p:Prop}(h:p:=by simp;omega):p:=h
theorem anh{t d e}{g:Nat->Value}{cs av}(j:∀k y,cs[k]?=V y->w.cell? ⟨d,e+k,J⟩=V (g k)/\amk (g k)=U/\ba κ w Y β (g k) y)(h:yz P t cs=V av):∃v,(loadVar t ⟨d,e,J⟩).run P w= .ok v w/\ba κ w Y β v av:=by unfold yz at h;cases f:tU P t with|none=>simp_all|some b=>cases b with|true=>(cases hs:fG P t with|none=>simp_all|some n=>rw[f,hs] at h;simp only at h;split at h;rename_i o;simp only[aOe] at h;subst h;have p:∀k,k<n->∃y,cs[k]?=V y:=λk s=>⟨cs[k]'(by omega),O⟩;refine⟨.agg ((GO 0 n).map g).toArray,?_,?_⟩;simp only[loadVar,Sem.run_bind,wH f,Result.andThen_ok,a6F,mN hs,loadCells];rw[aIa d e g n 0 #[] X];simp;refine .a NA (λv l=>?_) (λi v c l m=>?_);grind;grind;cases h)|false=>rw[f] at h;simp only at h;obtain⟨q,_,r⟩:=j 0 av h;simp_all [loadVar,Sem.run_bind,wH,Result.andThen_ok,load,kP,Sem.run]
end
def vP(P:Program)(ty:TypeId)(op:BinOp):Value->Value->Option Value
 | .int k a, .int c b=>
  match op with
  | .shl=>if b<0 then J else V (.int k<|k.wrap<|a*2^(min b.toNat k.bits))
  | .shr=>if b<0 then J else V (.int k<|a.fdiv<|2^(min b.toNat k.bits))
  | .add=>if k=c then V (.int k<|k.wrap<|a+b) else J
  | .sub=>if k=c then V (.int k<|k.wrap<|a-b) else J
  | .mul=>if k=c then V (.int k<|k.wrap<|a*b) else J
  | .quo=>if k=c/\b≠0 then V (.int k<|k.wrap<|a.tdiv b) else J
  | .rem=>if k=c/\b≠0 then V (.int k<|a.tmod b) else J
  | .and=>if k=c then V (.int k<|k.wrap (BitVec.ofInt k.bits a&&&BitVec.ofInt k.bits b).toNat) else J
  | .or=>if k=c then V (.int k<|k.wrap (BitVec.ofInt k.bits a|||BitVec.ofInt k.bits b).toNat) else J
  | .xor=>if k=c then V (.int k<|k.wrap (BitVec.ofInt k.bits a^^^BitVec.ofInt k.bits b).toNat) else J
  | .andNot=>if k=c then V (.int k<|k.wrap (BitVec.ofInt k.bits a&&&~~~(BitVec.ofInt k.bits b)).toNat) else J
  | .eql=>if k=c then V (.bool<|a==b) else J
  | .neq=>if k=c then V (.bool<|a !=b) else J
  | .lss=>if k=c then V (.bool<|Q<|a<b) else J
  | .leq=>if k=c then V (.bool<|Q<|a<=b) else J
  | .gtr=>if k=c then V (.bool<|Q<|b<a) else J
  | .geq=>if k=c then V (.bool<|Q<|b<=a) else J
 | .string a, .string b=>
  match op with
  | .eql=>V<|.bool<|a.toList==b.toList
  | .neq=>V<|.bool<|!(a.toList==b.toList)
  | .lss=>V<|.bool<|Op.bytesLess a.toList b.toList
  | .leq=>V<|.bool<|Op.bytesLess a.toList b.toList||a.toList==b.toList
  | .gtr=>V<|.bool<|!(Op.bytesLess a.toList b.toList||a.toList==b.toList)
  | .geq=>V<|.bool<|!(Op.bytesLess a.toList b.toList)
  | .add=>if a.size+b.size<=1099511627776 then V (.string<|a++b) else J
  |_=>J
 | .bool a, .bool b=>
  match op,P.underlying ty with
  | .eql,some .bool=>V<|.bool<|a==b
  | .neq,some .bool=>V<|.bool<|!(a==b)
  |_,_=>J
 |_,_=>J
section
variable{P:Program}{κ:Ctx}{w:World}{Y:ae}{β:Id->Nat}
theorem aH9{op ty x y a b}(h:(match a with| .int _ _=>U| .string _=>U| .bool _=>U|_=>I)=U):(eqGuard op ty x y a b).run P w= .ok () w:=by(cases a<;>first|(simp at h;done)|skip);all_goals simp_all [eqGuard]
def alX{ty a b}(h:P.underlying ty=V .bool):(Op.equal ty (.bool a)<|.bool b).run P w= .ok (a==b) w:=run_equal_bool w ty a b h
theorem awu{ty op a b v}(h:vP P ty op a b=V v):(binOp op ty a b).run P w= .ok v w/\sc v=U:=by unfold vP at h;split at h;(cases op<;>simp only at h<;>first|((split at h<;>first|(cases h;done)|skip);rename_i c;first|(obtain⟨rfl,e⟩:=c;simp only[aOe] at h;subst h;constructor<;>simp[binOp,Op.intDiv,e,sc])|(subst c;simp only[aOe] at h;subst h;simp_all [binOp,Op.intArith,Op.intCmp,Op.intBits,sc])|(simp only[aOe] at h;subst h;constructor<;>simp[binOp,Op.shift,c,sc])));(cases op<;>simp only at h<;>first|(cases h;done)|(simp only[aOe] at h;subst h;simp_all [binOp,Op.stringOp,sc])|((split at h<;>first|(cases h;done)|skip);simp only[aOe] at h;subst h;refine⟨?_,A⟩;rename_i c;simp[binOp,Op.stringOp];omega));split at h;simp only[aOe] at h;subst h;rename_i d;exact⟨by simp[binOp,alX d],A⟩;simp only[aOe] at h;subst h;rename_i d;exact⟨by simp[binOp,alX d],A⟩;(cases h);cases h
end
def ui:Value->AV| .slice none 0 0=> .l [] U U|v=>if sc v then .s v else .u
def Dg:Value->AV| .agg cs=>if cs.all amk then .a (cs.toList.map ui) else .u|v=>ui v
def du(G:Env)(a:dM):Operand->AV
 | .tmp t=>a.getD t .u
 | .const v=>Dg v
 | .global g=>match G g with|some cs=> .q cs|none=> .u
 | .func f=> .f f [] []
def vW(P:Program)(t:TypeId):Value->Value->Option Bool
 | .int k a, .int c b=>match P.underlying t with|some (.int _)=>if k=c then V (a==b) else J|_=>J
 | .bool a, .bool b=>match P.underlying t with|some .bool=>V (a==b)|_=>J
 | .string a, .string b=>match P.underlying t with|some .string=>V (a.toList==b.toList)|_=>J
 |_,_=>J
def vV(P:Program)(xs ys:dM):List Field->Option Bool
 |[]=>V U
 |f::fs=>
  if f.name≠ "_" /\tU P f.type=V I then
   match xs[f.offset]?,ys[f.offset]? with
   |some (.s a),some (.s b)=>
    match vW P f.type a b with
    |some r=>if r then vV P xs ys fs else V I
    |none=>J
   |_,_=>J
  else J
def sR(P:Program)(t:TypeId)(xs ys:dM):Option Bool:=
 match P.underlying t with
 |some (.struct fs)=>if P.stoodInHeld t=I/\P.eqGuardType P.depth t=I then vV P xs ys fs.toList else J
 |_=>J
def sS(k:Nat):Value->Value->Option Bool| .int c a, .int d b=>if k=0/\c=d then V (a==b) else J| .bool a, .bool b=>if k=1 then V (a==b) else J| .string a, .string b=>if k=2 then V (a.toList==b.toList) else J|_,_=>J
def nW(xs ys:dM):List (Nat×Nat)->Option Bool
 |[]=>V U
 |f::fs=>
  match xs[f.1]?,ys[f.1]? with
  |some (.s a),some (.s b)=>
   match sS f.2 a b with
   |some r=>if r then nW xs ys fs else V I
   |none=>J
  |_,_=>J
def qL(P:Program)(t:TypeId):Nat:=
 match P.underlying t with
 |some (.int _)=>0
 |some .bool=>1
 |some .string=>2
 |_=>3
def nk(P:Program):List Field->Option (List<|Nat×Nat)|[]=>V []|f::fs=>if f.name≠ "_" /\tU P f.type=V I then(nk P fs).map ((f.offset,qL P f.type)::·) else J
structure MT where
 st:Bool
 fs:List (Nat×Nat)
 zero:Value
def a6q(P:Program)(t:TypeId):Option MT:=
 match P.underlying t with
 |some (.map k e)=>
  match(P.info? e).bind (·.zero),P.underlying k with
  |some z,some (.struct fs)=>if sc z=U/\P.stoodInHeld k=I/\P.eqGuardType P.depth k=I then(nk P fs.toList).bind λl=>if l.all (λf=>Q<|f.2<3)=U then V ⟨U,l,z⟩ else J else J
  |some z,some .string=>if sc z=U then V ⟨I,[],z⟩ else J
  |some z,some (.int _)=>if sc z=U then V ⟨I,[(0,0)],z⟩ else J
  |_,_=>J
 |_=>J
def uW:dM->Option (List Value)|[]=>V []| .s v::l=>(uW l).map (v::·)|_::_=>J
def ww(st:Bool)(x:AV):Option Value:=
 match st,x with
 |false, .s (.string s)=>V<|.string s
 |false, .s (.int k n)=>V<|.int k n
 |true, .a cs=>(uW cs).map λl=> .agg l.toArray
 |_,_=>J
def xF:dM->Option (List<|Value×Value)|[]=>V []| .t [.s k, .s v]::l=>(xF l).map ((k,v)::·)|_::_=>J
def pO(c:MT)(a b:Value):Option Bool:=
 match c.st,a,b with
 |true, .agg xs, .agg ys=>nW (xs.toList.map .s) (ys.toList.map .s) c.fs
 |false, .string a, .string b=>V<|a==b
 |false, .int k a, .int d b=>if k=d then V (a==b) else J
 |_,_,_=>J
def lg(a:MT)(k:Value):List (Value×Value)->Nat->Option (Option<|Nat×Value)
 |[],_=>V J
 |p::b,i=>
  match pO a k p.1 with
  |some true=>V<|V (i,p.2)
  |some false=>lg a k b<|i+1
  |none=>J
def qR(a:MT)(k:Value):Bool:=
 match a.st,a.fs,k with
 |true,fs, .agg xs=>fs.all λf=>Q<|f.1<xs.size
 |false,[], .string _=>U
 |false,_::_, .int _ _=>U
 |_,_,_=>I
def ul(x:bY):Option (List<|Value×Value):=
 if x.size=0/\x.var=U then match x.bA with|[cs]=>xF cs|_=>J else J
def oP(a:MT)(Y:ae)(x ix:AV)(c:Bool):Option AV:=
 match x,ww a.st ix with
 | .g 0 b _ _,some k=>
  match(box Y b).bind ul with
  |some d=>
   if qR a k=U then
    match lg a k d 0 with
    |some (some r)=>V (if c then .t [.s r.2, .s<|.bool U] else .s r.2)
    |some none=>V (if c then .t [.s a.zero, .s<|.bool I] else .s a.zero)
    |none=>J
   else J
  |none=>J
 |_,_=>J
def vX(P:Program)(Y:ae)(s:TypeId)(x:AV)(f:Nat):Option AV:=
 match P.underlying s with
 |some (.struct fs)=>
  match fs[f]? with
  |some a=>
   match fG P a.type with
   |some (_+1)=>
    match x with
    | .p b i j=>(box Y b).map λ_=> .p b i<|j+a.offset
    | .q cs=>V<|.q<|cs.drop a.offset
    |_=>J
   |_=>J
  |none=>J
 |_=>J
def yx(P:Program)(t:TypeId)(cs:dM)(b:Nat):Option AV:=
 match tU P t,fG P t with
 |some true,some n=>V<|.a<|(cs.drop b).take n
 |some false,_=>cs[b]?
 |_,_=>J
def uy(P:Program)(Y:ae)(t:TypeId)(x:AV)(i:Nat):Option AV:=
 match P.underlying t with
 |some (.slice e)=>
  match x with
  | .l bA _ _=>(bA[i]?).bind λr=>if fG P e=V (L r) then V (.q r) else J
  | .m b n=>(box Y b).bind λbx=>if i<n/\fG P e=V bx.size then V (.p b i 0) else J
  | .g k b o n=>(box Y b).bind λbx=>if k=2/\i<n/\fG P e=V bx.size then V (.p b (o+i) 0) else J
  |_=>J
 |some (.array n e)=>
  match fG P e with
  |some z=>
   if i<n then
    match x with
    | .p b k j=>(box Y b).map λ_=> .p b k<|j+i*z
    | .q cs=>V<|.q<|cs.drop<|i*z
    |_=>J
   else J
  |none=>J
 |_=>J
def rH(E:Operand->AV):Option Operand->Option (Option Nat)
 |none=>V J
 |some x=>match E x with| .s (.int _ n)=>if 0<=n then V (V n.toNat) else J|_=>J
def uX(P:Program)(Y:ae)(t:TypeId)(x:AV)(lo a mx:Option Nat):Option AV:=
 match P.underlying t with
 |some .string=>
  match x with
  | .s (.string s)=>if mx=J/\lo.getD 0<=a.getD s.size/\a.getD s.size<=s.size then V (.s<|.string<|s.extract (lo.getD 0)<|a.getD s.size) else J
  |_=>J
 |some (.slice e)=>
  match x with
  | .l bA c own=>
   if lo.getD 0<=a.getD (L bA)/\a.getD (L bA)<=L bA/\(fG P e).isSome/\(∀r∈bA,fG P e=V (L r)) then
    if mx=J then V (.l ((bA.drop<|lo.getD 0).take<|a.getD (L bA)-lo.getD 0) (c&&a.getD (L bA)==L bA) own)
    else if a.getD (L bA)<=mx.getD 0/\mx.getD 0<=L bA/\a.isSome then V (.l ((bA.drop<|lo.getD 0).take<|a.getD (L bA)-lo.getD 0) (mx.getD 0==a.getD (L bA)) own)
    else J
   else J
  | .m b n=>(box Y b).bind λbx=>if lo=J/\mx=J/\(a.getD n<=n)/\(fG P e).isSome then V (.m b<|a.getD n) else if mx=J/\lo.getD 0<=a.getD n/\a.getD n<=n/\fG P e=V bx.size then V (if lo.getD 0=a.getD n then .l [] I I else .g 2 b (lo.getD 0) (a.getD n-lo.getD 0)) else J
  |_=>J
 |_=>J
def AO(b:Builtin)(x y:AV):Option AV:=
 match b,x,y with
 | .min, .s (.int k a), .s (.int c b)=>V (.s<|.int k<|if b<a then b else a)
 | .max, .s (.int k a), .s (.int c b)=>V (.s<|.int k<|if b>a then b else a)
 |_,_,_=>J
def yj(P:Program)(t:TypeId)(x:AV):Option AV:=
 match P.underlying t,x with
 |some .string, .s (.string s)=>V<|.s<|.int .i64 s.size
 |some (.slice _), .l bA _ _=>V<|.s<|.int .i64<|L bA
 |some (.array n _),_=>V<|.s<|.int .i64 n
 |_,_=>J
def aPH(P:Program)(Y:ae)(t:TypeId)(x:AV):Option AV:=
 match P.underlying t,x with
 |some (.slice _), .m b n=>(box Y b).map λ_=> .s<|.int .i64 n
 |some (.slice _), .g k b _ n=>(box Y b).bind λ_=>if k=2 then V (.s<|.int .i64 n) else J
 |_,_=>J
def cpA(x:AV):Option AV:=match x with| .l bA true _=>V (.s<|.int .i64<|L bA)|_=>J
def nP(P:Program)(E:Operand->AV)(Y:ae)(b:Builtin)(c:Call):Option AV:=
 match b with
 | .len=>
  match c.argTypes[0]?,c.args[0]? with
  |some t,some x=>(yj P t<|E x).or<|aPH P Y t<|E x
  |_,_=>J
 | .cap=>
  match c.argTypes[0]?,c.args[0]? with
  |some t,some x=>(match P.underlying t with|some (.slice _)=>cpA (E x)|_=>J)
  |_,_=>J
 | .min| .max=>
  match c.args.toList with
  |[x,y]=>AO b (E x)<|E y
  |_=>J
 |_=>J
def dz(P:Program)(E:Operand->AV)(Y:ae):Op->Option AV
 | .move x=>V<|E x
 | .assign x=>V<|E x
 | .pick c a b=>match E c with| .s (.bool t)=>V (if t then E a else E b)|_=>J
 | .load t x=>(iE Y<|E x).bind<|yz P t
 | .nilCheck x=>match E x with| .p b i j=>(box Y b).map λ_=> .p b i j| .q cs=>V (.q cs)| .f fn a b=>V (.f fn a b)|_=>J
 | .binOp op ty x y _=>
  match E x,E y with
  | .s a, .s b=>(vP P ty op a b).map .s
  | .a xs, .a ys=>
   match op with
   | .eql=>(sR P ty xs ys).map λr=> .s<|.bool r
   | .neq=>(sR P ty xs ys).map λr=> .s<|.bool<|!r
   |_=>J
  |_,_=>J
 | .unOp op _ x=>
  match op,E x with
  | .not, .s (.bool b)=>V<|.s<|.bool<|!b
  | .neg, .s (.int k n)=>V<|.s<|.int k<|k.wrap<|0-n
  |_,_=>J
 | .convert o d x=>
  match P.underlying o,P.underlying d,E x with
  |some _,some (.int k), .s (.int _ n)=>V<|.s<|.int k<|k.wrap n
  |some .string,some .string, .s (.string s)=>V<|.s<|.string s
  |_,_,_=>J
 | .fieldAddr s x f=>vX P Y s (E x) f
 | .field t x f=>
  match P.underlying t,E x with
  |some (.struct fs), .a cs=>(fs[f]?).bind λg=>yx P g.type cs g.offset
  |_,_=>J
 | .indexAddr t x ix=>match E ix with| .s (.int _ i)=>if 0<=i then uy P Y t (E x) i.toNat else J|_=>J
 | .index t x ix=>
  match E ix,P.underlying t,E x with
  | .s (.int _ i),some .string, .s (.string s)=>if 0<=i then(s[i.toNat]?).map λb=> .s (.int .u8 b.toNat) else J
  | .s (.int _ i),some (.array n e), .a cs=>if 0<=i/\i<n then(fG P e).bind λz=>yx P e cs (i.toNat*z) else J
  |_,_,_=>J
 | .extract x i=>match E x with| .t vs=>vs[i]?|_=>J
 | .lookup t x ix B=>match a6q P t with|some v=>oP v Y (E x) (E ix) B|none=>J
 | .slice t x lo u mx=>
  match rH E lo,rH E u,rH E mx with
  |some l,some h,some m=>uX P Y t (E x) l h m
  |_,_,_=>J
 | .makeFunc (.func fn) first cap=>V<|.f fn (first.toList.map E)<|cap.toList.map E
 | .call c=>match c.callee with| .builtin b=>nP P E Y b c|_=>J
 |_=>J
section
variable{P:Program}{κ:Ctx}{w:World}{Y:ae}{β:Id->Nat}
theorem ba.s_inv{v a}(h:ba κ w Y β v<|.s a):v=a/\sc a=U:=by cases h;simp_all
theorem KC(v):ba κ w Y β v (ui v):=by unfold ui;split;exact .l0 (λ_=>A);split;exact .s ‹_›;exact .u
theorem axB(v):ba κ w Y β v (Dg v):=by unfold Dg;split;rename_i cs;split;rename_i h;obtain⟨l⟩:=cs;refine .a O (λv b=>?_) (λi v c b d=>?_);simp_all;grind [aOe,KC];exact .u;exact KC _
theorem axN{d t a b r}(h:vW P t a b=V r):(Op.equalIn (d+1) t a b).run P w= .ok r w:=by unfold vW at h;split at h;grind [run_equalIn_int];grind [run_equalIn_bool];split at h;(cases h);rename_i c;simp[Op.equalIn,run_underlying c,beq_toListBytes];(cases h);cases h
theorem axM{d xs ys}{vs g:List Value}(s:∀(i:Nat) v c,vs[i]?=V v->xs[i]?=V c->ba κ w Y β v c)(q:∀(i:Nat) v c,g[i]?=V v->ys[i]?=V c->ba κ w Y β v c)(lv:L vs=L xs)(lu:L g=L ys):∀(fs) {r},vV P xs ys fs=V r->(Op.eqFields (d+1) vs.toArray g.toArray fs).run P w= .ok r w:=λfs=>by induction fs with|nil=>simp_all [vV,aOe,Op.eqFields]|cons f fs y=>intro r h;simp only[vV] at h;split at h;rename_i j;split at h;rename_i a b n o;have l:vs[f.offset]?=V a:=(by have e:f.offset<L vs:=X;have k:=s f.offset _ _ (eC e) n;rw[eC e,k.s_inv.1]);have m:g[f.offset]?=V b:=(by have e:f.offset<L g:=X;have k:=q f.offset _ _ (eC e) o;rw[eC e,k.s_inv.1]);have t:(part f.type vs.toArray f.offset).run P w= .ok a w:=(by simp[part,wH j.2,l]);have u:(part f.type g.toArray f.offset).run P w= .ok b w:=(by simp[part,wH j.2,m]);split at h;rename_i x p;simp only[Op.eqFields,zg j.1,Sem.run_bind,t,u,Result.andThen_ok,axN p];(cases x with|true=>grind|false=>simp_all);(cases h);(cases h);cases h
theorem KL{t xs ys v u r}(c:ba κ w Y β v<|.a xs)(b:ba κ w Y β u<|.a ys)(h:sR P t xs ys=V r)(op)(x y):(eqGuard op t x y v u).run P w= .ok () w/\(Op.equal t v u).run P w= .ok r w:=by unfold sR at h;split at h;rename_i fs f;split at h;rename_i k;(cases c with|@a vs _ l n c=>cases b with|@a g _ e m b=>constructor;simp_all [eqGuard];have i:P.underlying t=V (.struct<|P.fieldsOf t):=(by simp[Program.fieldsOf,f]);have j:P.fieldsOf t=fs:=vB;rw[show Op.equal t (.agg vs.toArray) (.agg g.toArray)=Op.equalIn (9999+1) t (.agg vs.toArray) (.agg g.toArray) from A,run_equalIn_struct w 9999 t _ _ i k.1,j];exact axM (d:=9998) c b l e fs.toList h);(cases h);cases h
theorem axO{t a b r}(h:sS (qL P t) a b=V r):vW P t a b=V r:=by have:qL P t=0->∃k,P.underlying t=V (.int k):=(by grind [qL]);have:qL P t=1->P.underlying t=V .bool:=(by grind [qL]);have:qL P t=2->P.underlying t=V .string:=(by grind [qL]);generalize qL P t=k at*;unfold sS at h;grind [vW]
theorem alU{xs ys}:∀(fs) (l) {r},nk P fs=V l->nW xs ys l=V r->vV P xs ys fs=V r:=λfs=>by induction fs with|nil=>intro l r h a;simp only[nk,aOe] at h;subst h;exact a|cons f fs d=>intro l r h a;simp only[nk] at h;split at h;rename_i c;(cases b:nk P fs with|none=>simp_all|some l'=>rw[b] at h;simp only[df,aOe] at h;grind [nW,vV,sS,qL,axO]);cases h
end
section
variable{P:Program}{κ:Ctx}{w:World}{Y:ae}{β:Id->Nat}
theorem Eh{v b i j x}(h:ba κ w Y β v<|.p b i j)(a:box Y b=V x):v= .pointer (V ⟨β b,i*x.size+j,J⟩):=by cases h with|p0 h _=>grind [qD]|p1 h d c=>simp_all
theorem Ei{v b i j x}(h:ba κ w Y β v<|.p b i j)(a:box Y b=V x):0<x.size:=by cases h with|p0 h _=>grind [qD]|p1 h d c=>simp_all
theorem oR{v b n x}(h:ba κ w Y β v<|.m b n)(c:box Y b=V x):∃cap cur,v= .slice (V ⟨β b,0,J⟩) n cap/\n<=L x.bA/\w.heap[β b]?=V (.cells cur x.elem (0,0))/\cur.size=cap*x.size:=by cases h with|m0 h _=>grind [qD]|m1 h e d a f=>simp_all
theorem nZ{v b n x}(h:ba κ w Y β v<|.m b n)(c:box Y b=V x):0<x.size:=by cases h with|m0 h _=>grind [qD]|m1 h e d a f=>simp_all
theorem Lh{v b k o n x}(h:ba κ w Y β v<|.g k b o n)(a:box Y b=V x):XV k x.size (L x.bA) (β b) o n v:=by cases h with|g0 h _=>grind [qD]|g1 h c=>simp_all
theorem Lf{v b o n x}(h:ba κ w Y β v<|.g 2 b o n)(c:box Y b=V x):∃cap,v= .slice (V ⟨β b,o*x.size,J⟩) n cap/\0<x.size/\o+n<=L x.bA:=by obtain⟨a,_⟩|⟨a,_⟩|⟨_,a,d,cap,e⟩:=Lh h c;(cases a);(cases a);simp_all
theorem amp{v b o n x}(h:ba κ w Y β v<|.g 0 b o n)(c:box Y b=V x):v= .map (V<|β b)/\x.size=0:=by obtain⟨_,d,e⟩|⟨a,_⟩|⟨a,_⟩:=Lh h c;simp_all;(cases a);cases a
theorem aBu{v b o n x}(h:ba κ w Y β v<|.g 1 b o n)(c:box Y b=V x):v= .pointer (V ⟨β b,0,J⟩)/\x.size=0:=by obtain⟨a,_⟩|⟨_,d,e⟩|⟨a,_⟩:=Lh h c;(cases a);simp_all;cases a
theorem QM{v cs}(h:ba κ w Y β v<|.q cs)(n):∃a b,v= .pointer (V ⟨a,b,J⟩)/\ba κ w Y β (.pointer<|V ⟨a,b+n,J⟩) (.q<|cs.drop n):=by cases h with|@q a b _ nf g d e f k i=>refine⟨a,b,rfl, .q nf (λj=>g<|n+j) d e (λj x c=>?_) (λj x c=>?_) (λj x c=>?_)⟩;grind;simp_all;simp_all
theorem azS{t v x av f}(c:ba κ w Y β v x)(h:vX P Y t x f=V av):∃u,(Instr.fieldAt t v f).run P w= .ok u w/\ba κ w Y β u av:=by unfold vX at h;split at h;rename_i fs g;split at h;rename_i d e;split at h;rename_i z k;have m:¬(z+1=0):=Z;split at h;rename_i b i j;(cases a:box Y b with|none=>simp_all|some bx=>rw[a] at h;simp only[df,aOe] at h;subst h;rw[Eh c a];refine⟨.pointer<|V ⟨β b,i*bx.size+(j+d.offset),J⟩,?_, .p1 a (Ei c a) A⟩;simp[Instr.fieldAt,run_underlying g,e,Instr.sureAddr,fieldPlace,mN k,a61,aYz]);simp only[aOe] at h;subst h;obtain⟨l,n,rfl,o⟩:=QM c d.offset;simp_all [Instr.fieldAt,run_underlying,Instr.sureAddr,fieldPlace,mN,a61];(cases h);(cases h);(cases h);cases h
theorem anP{t}{vs:List Value}{cs b av}(f:L vs=L cs)(j:∀v∈vs,amk v=U)(k:∀(i:Nat) v c,vs[i]?=V v->cs[i]?=V c->ba κ w Y β v c)(h:yx P t cs b=V av):∃u,(part t vs.toArray b).run P w= .ok u w/\ba κ w Y β u av:=by unfold yx at h;split at h;rename_i n d hs;simp only[aOe] at h;subst h;refine⟨.agg ((vs.drop b).take n).toArray,?_, .a (by simp[f]) X<|λi v c l g=>?_⟩;simp[part,wH d,mN hs];grind;rename_i d;have e:b<L vs:=X;refine⟨vs[b],?_,X⟩;simp[part,wH d,e];cases h
theorem aB4{t}{v iv:Value}{x av k i}(d:ba κ w Y β v x)(m:0<=i)(h:uy P Y t x i.toNat=V av):∃u,(Instr.indexAt t v<|.int k i).run P w= .ok u w/\ba κ w Y β u av:=by unfold uy at h;split at h;rename_i e p;split at h;rename_i bA G own;(cases R:bA[i.toNat]? with|none=>simp_all|some r=>rw[R] at h;simp only[a6X] at h;split at h;rename_i f;simp only[aOe] at h;subst h;have C:i.toNat<L bA:=X;have B:r∈bA:=X;(cases d with|l0=>simp at C|@l1 s y n c size _ _ _ ho nf hd g hn aa K ht a S hs hc ab hk=>have D:=hs r B;have l:i<(n:Int):=Z;refine⟨.pointer<|V ⟨s,y+i.toNat*size,J⟩,?_, .q nf (g i.toNat) a S (λj x d=>?_) (λj x d=>?_)<|λj x d=>?_⟩;rw[D] at f;simp[Instr.indexAt,asIntOf,run_underlying p,m,l,mN f,a61];grind [db];grind [db];grind [db]);cases h);rename_i b n;(cases a:box Y b with|none=>simp_all|some bx=>rw[a] at h;simp only[a6X] at h;split at h;rename_i f;simp only[aOe] at h;subst h;obtain⟨cap,cur,rfl,_⟩:=oR d a;have l:i<(n:Int):=Z;refine⟨.pointer<|V ⟨β b,i.toNat*bx.size+0,J⟩,?_, .p1 a (nZ d a) A⟩;simp[Instr.indexAt,asIntOf,run_underlying p,m,l,mN f.2,a61];cases h);rename_i F b o n;(cases a:box Y b with|none=>simp_all|some bx=>rw[a] at h;simp only[a6X] at h;split at h;rename_i f;obtain⟨rfl,ac,E⟩:=f;simp only[aOe] at h;subst h;obtain⟨cap,rfl,M,W⟩:=Lf d a;have l:i<(n:Int):=Z;refine⟨.pointer<|V ⟨β b,(o+i.toNat)*bx.size+0,J⟩,?_, .p1 a M A⟩;simp[Instr.indexAt,asIntOf,run_underlying p,m,l,mN E,a61,aYA];cases h);(cases h);rename_i n e p;split at h;rename_i z f;split at h;rename_i T;have l:i<(n:Int):=Z;split at h;rename_i b F j;(cases a:box Y b with|none=>simp_all|some bx=>rw[a] at h;simp only[df,aOe] at h;subst h;rw[Eh d a];refine⟨.pointer<|V ⟨β b,F*bx.size+(j+i.toNat*z),J⟩,?_, .p1 a (Ei d a) A⟩;simp[Instr.indexAt,asIntOf,run_underlying p,m,l,mN f,a61,Instr.sureAddr,aYz]);simp only[aOe] at h;subst h;obtain⟨s,y,rfl,N⟩:=QM d<|i.toNat*z;refine⟨_,?_,N⟩;simp[Instr.indexAt,asIntOf,run_underlying p,m,l,mN f,a61,Instr.sureAddr];(cases h);(cases h);(cases h);cases h
end
section
variable{P:Program}{κ:Ctx}{w:World}{Y:ae}{β:Id->Nat}
def Bd(x:Option Value)(r:Option Nat):Prop:=(r=J/\x=J)\/∃(n:Nat) (k:IntKind),r=V n/\x=V (.int k n)
theorem Ko{a E}(b:∀x,ba κ w Y β (a x)<|E x){x r}(h:rH E x=V r):Bd (x.map a) r:=by cases x with|none=>simp only[rH,aOe] at h;exact .inl ⟨h.symm,A⟩|some x=>simp only[rH] at h;split at h;rename_i k n c;split at h;simp only[aOe] at h;have:=(b x);rw[c] at this;refine .inr ⟨n.toNat,k,h.symm,?_⟩;rw[df,this.s_inv.1];grind;(cases h);cases h
theorem Q1{k}{n y:Nat}{a}(h:n<=y):(Instr.sliceBound (.int k n) y a).run P w= .ok n w:=by simp_all [Instr.sliceBound,asIntOf]
theorem Bm{gY len cap lo a mx l h m}(c:Bd lo l)(b:Bd a h)(d:Bd mx m)(e:l.getD 0<=h.getD len)(f:h.getD len<=m.getD cap)(g:m.getD cap<=cap)(i:m.isSome=U->h.isSome=U):(Instr.sliceBounds gY len cap lo a mx).run P w= .ok (l.getD 0,h.getD len,m.getD cap) w:=by obtain⟨rfl,rfl⟩|⟨o,j,rfl,rfl⟩:=c<;>obtain⟨rfl,rfl⟩|⟨p,k,rfl,rfl⟩:=b<;>obtain⟨rfl,rfl⟩|⟨q,n,rfl,rfl⟩:=d<;>simp only[sD,mi,Option.isSome_none,Option.isSome_some] at*;all_goals simp_all [Instr.sliceBounds,Q1]
theorem buh{p:Prop}(h:p:=by grind [Go.Ab.db]):p:=h
theorem Du{bA l n}:∀i j,db ((bA.drop l).take n) i j=if i<n then db bA (l+i) j else J:=buh
def boa{b x cur cap}(s:zw P κ w Y β)(h:box Y b=V x)(e:w.heap[β b]?=V (.cells cur x.elem (0,0)))(c:cur.size=cap*x.size):L x.bA<=cap:=by have k:=(s.ok b x h).cells e;obtain⟨g,f,a,d,i,_⟩:=k.ex;rw[e] at a;simp only[aOe,Obj.cells.injEq,aRI] at a;subst a;rw[c] at d;have:=aq6 k.pos d;omega
theorem aoE{d bA b h own c mm Lw a z}(e:ba κ w Y β (.slice d (L bA) c)<|.l bA b own)(C:L bA<=c)(v:mm<=c)(G:Lw<=a)(K:a<=L bA)(u:a<=mm)(E:h=U->mm=a)(T:∀r∈bA,L r=z):ba κ w Y β (.slice (if mm=Lw then d else d.map (·.add (Lw*z))) (a-Lw)<|mm-Lw) (.l ((bA.drop Lw).take<|a-Lw) h own):=by by_cases k:a-Lw=0;rw[k,CE];exact .l0 vB;generalize R:L bA=n at*;cases e with|l0=>omega|@l1 s F n _ size _ _ _ p nf M g y B o S m q hs t D N=>obtain rfl:size=z:=(by cases bA with|nil=>simp_all|cons r W=>simp_all);rw[za Z];simp only[df,a61];refine .l1 p nf (by grind [Du]) (λi j=>g (Lw+i) j) NA Z Z vB m q (λr e=>hs r<|CB<|bnL e) (λi j x f=>?_) (λi j x f=>?_) (λi j x f=>?_);grind [Du,aYA];grind [Du];grind [Du]
theorem AJ{v bA a own}(h:ba κ w Y β v<|.l bA a own):∃b c,v= .slice b (L bA) c/\L bA<=c/\(a=U->c=L bA):=by cases h with|l0 f=>exact⟨_,_,rfl,O,Z⟩|l1 k nf j g e i d f=>subst e;grind
def aIo{t v x av lo T mx l h m}(s:zw P κ w Y β)(i:ba κ w Y β v x)(B:Bd lo l)(y:Bd T h)(C:Bd mx m)(a:uX P Y t x l h m=V av):∃u,(Instr.sliceAt t v lo T mx).run P w= .ok u w/\ba κ w Y β u av:=by unfold uX at a;split at a;rename_i k;split at a;rename_i s;split at a;rename_i j;obtain⟨rfl,g,p⟩:=j;(cases a);(cases i with|s=>obtain⟨_,rfl⟩|⟨_,_,h,_⟩:=C;refine⟨_,?_, .s A⟩;have:=Bm (P:=P) (w:=w) (gY:=I) (len:=s.size) (cap:=s.size) (mx:=J) (m:=J) B y (.inl ⟨A,A⟩) g p (dA _) O;simp[Instr.sliceAt,run_underlying k,Instr.slice,this];cases h);(cases a);(cases a);rename_i e k;split at a;rename_i bA aa own;split at a;rename_i j;obtain⟨g,p,R,q⟩:=j;obtain⟨z,G⟩:=zz.1 R;have K:=λr hr=>(by have:=q r hr;rw[G] at this;simpa using this.symm);obtain⟨Aq,c,rfl,M,S⟩:=AJ i;split at a;rename_i E;subst E;simp only[aOe] at a;subst a;obtain⟨_,rfl⟩|⟨_,_,h,_⟩:=C;refine⟨_,?_,aoE i M (dA c) g p Z (λF=>by simp at F;rw[S F.1];exact F.2.symm) K⟩;have:=Bm (P:=P) (w:=w) (gY:=U) (len:=L bA) (cap:=c) (mx:=J) (m:=J) B y (.inl ⟨A,A⟩) g NA (dA _) O;simp only[sD] at this;simp[Instr.sliceAt,run_underlying k,Instr.slice,this,mN G];(cases h);rename_i E;split at a;rename_i D;simp only[aOe] at a;subst a;obtain⟨m',rfl⟩:∃m',m=V m':=(by cases m with|none=>exact aYx rfl E|some m'=>exact⟨m',rfl⟩);simp only[mi] at D⊢;refine⟨_,?_,aoE i M (show m'<=c by omega) g p D.1 (λF=>by simpa using F) K⟩;have:=Bm (P:=P) (w:=w) (gY:=U) (len:=L bA) (cap:=c) (m:=V m') B y C g NA NA (λ_=>D.2.2);simp only[mi] at this;simp[Instr.sliceAt,run_underlying k,Instr.slice,this,mN G];(cases a);(cases a);rename_i b n;(cases d:box Y b with|none=>rw[d] at a;cases a|some bx=>rw[d] at a;simp only[a6X] at a;split at a;rename_i j;obtain⟨rfl,rfl,p,q⟩:=j;simp only[aOe] at a;subst a;obtain⟨cap,cur,rfl,hn,o,f⟩:=oR i d;obtain⟨z,G⟩:=zz.1 q;have W:=boa s d o f;refine⟨.slice (V ⟨β b,0,J⟩) (h.getD n) cap,?_, .m1 d Z o f<|nZ i d⟩;have:=Bm (P:=P) (w:=w) (gY:=U) (len:=n) (cap:=cap) B y C O NA (dA _) O;simp only[sD] at this;simp only[Instr.sliceAt,Sem.run_bind,run_underlying k,Instr.slice,this,mN G,Result.andThen_ok,Sem.run_pure,ara,Nat.zero_mul,df,a61,kP,ite_self];split at a;rename_i j;obtain⟨rfl,g,p,q⟩:=j;simp only[aOe] at a;obtain⟨cap,cur,rfl,hn,o,f⟩:=oR i d;have W:=boa s d o f;have:=Bm (P:=P) (w:=w) (gY:=U) (len:=n) (cap:=cap) B y C (by simpa using g) NA (dA _) O;simp only[sD] at this;by_cases N:l.getD 0=h.getD n;rw[zg N] at a;subst a;refine⟨.slice (if cap=l.getD 0 then V ⟨β b,0,J⟩ else V ⟨β b,l.getD 0*bx.size,J⟩) 0<|cap-l.getD 0,?_, .l0<|λh=>by cases h⟩;simp only[Instr.sliceAt,Sem.run_bind,run_underlying k,Instr.slice,this,mN q,Result.andThen_ok,Sem.run_pure,df,a61,aj,N,Nat.sub_self];rw[za N] at a;subst a;refine⟨.slice (V ⟨β b,l.getD 0*bx.size,J⟩) (h.getD n-l.getD 0)<|cap-l.getD 0,?_, .g1 d<|.inr<|.inr ⟨A,nZ i d,Z,_,A⟩⟩;simp only[Instr.sliceAt,Sem.run_bind,run_underlying k,Instr.slice,this,mN q,Result.andThen_ok,Sem.run_pure,df,a61,aj,za<|show¬cap=l.getD 0 by omega];cases a);(cases a);cases a
end
section
variable{P:Program}{κ:Ctx}{w:World}{Y:ae}{β:Id->Nat}
theorem KG:∀a,xF (a.map ent)=V a:=λa=>by induction a with|nil=>rfl|cons p a b=>grind [ent,xF]
theorem aIf:∀{cs l},uW cs=V l->cs=l.map .s:=by intro cs;induction cs with|nil=>grind [uW,aOe]|cons c cs b=>intro l h;cases c with|s v=>simp only[uW] at h;(cases a:uW cs with|none=>simp_all|some l'=>grind)|_=>simp[uW] at h
theorem aFd{v}{l:List Value}(h:ba κ w Y β v<|.a<|l.map .s):v= .agg l.toArray/\l.all sc=U:=by cases h with|@a vs cs e d h=>have key:∀i (c:i<L vs),∃b:i<L l,vs[i]=l[i]/\sc l[i]=U:=λi c=>(by have b:i<L l:=vB;have:=h i vs[i] (.s l[i]) O (by simp[b]);exact⟨b,this.s_inv⟩);grind [biF,dV,List.getElem_of_mem]
theorem aof{l:List Value}(d:l.all sc=U):∀(i:Nat) v c,l[i]?=V v->(l.map AV.s)[i]?=V c->ba κ w Y β v c:=λi v c b a=>by rw[ve,b] at a;simp only[df,aOe] at a;subst a;exact .s X
theorem am5{st v k x}(h:ba κ w Y β v x)(a:ww st x=V k):v=k/\DW k=U:=by unfold ww at a;split at a;(cases a;exact⟨h.s_inv.1,A⟩);(cases a;exact⟨h.s_inv.1,A⟩);rename_i cs;(cases b:uW cs with|none=>simp_all|some l=>rw[b] at a;simp only[df,aOe] at a;subst a;rw[aIf b] at h;obtain⟨c,d⟩:=aFd h;exact⟨c,d⟩);cases a
theorem ano{t a}(h:a6q P t=V a):∃k e i,P.underlying t=V (.map k e)/\P.info? e=V i/\i.zero=V a.zero/\sc a.zero=U/\((a.st=I/\((a.fs=[]/\P.underlying k=V .string)\/a.fs=[(0,0)]/\∃i,P.underlying k=V (.int i)))\/∃fs,a.st=U/\P.underlying k=V (.struct fs)/\P.stoodInHeld k=I/\P.eqGuardType P.depth k=I/\nk P fs.toList=V a.fs/\a.fs.all (λf=>Q<|f.2<3)=U):=by unfold a6q at h;split at h;rename_i k e j;(cases g:P.info? e with|none=>simp_all|some i=>rw[g] at h;simp only[a6X] at h;split at h;rename_i z fs d c;split at h;rename_i b;(cases m:nk P fs.toList with|none=>simp_all|some l=>grind);(cases h);rename_i z d c;split at h;rename_i b;(cases h);exact⟨k,e,i,j,g,d,b, .inl ⟨A, .inl ⟨A,c⟩⟩⟩;(cases h);rename_i z _ d c;split at h;rename_i b;(cases h);exact⟨k,e,i,j,g,d,b, .inl ⟨A, .inr ⟨A,_,c⟩⟩⟩;(cases h);cases h);cases h
theorem axc{e n xs}:∀(fs) (l),nk P fs=V l->l.all (λf=>Q<|f.2<3)=U->l.all (λf=>Q<|f.1<xs.size)=U->
  (forIn (m:=Sem) fs PUnit.unit λf r=>do
   if f.name≠ "_" then(do
    let a<-part f.type xs f.offset
    Instr.checkKey e (n+1) f.type a
    pure<|ForInStep.yield PUnit.unit) else pure (ForInStep.yield PUnit.unit)).run P w= .ok PUnit.unit w:=by
 intro fs
 induction fs with
 |nil=>simp
 |cons f fs k=>
  intro l h c d
  simp only[nk] at h
  split at h
  ·rename_i j
   cases i:nk P fs with
   |none=>simp_all
   |some l'=>
    rw[i] at h
    simp only[df,aOe] at h
    subst h
    simp only[Cs,bN,awG] at c d
    have p:(part f.type xs f.offset).run P w= .ok xs[f.offset] w:=by simp[part,wH j.2,d.1]
    have o:(Instr.checkKey e (n+1) f.type xs[f.offset]).run P w= .ok () w:=by
     have g:=c.1
     unfold qL at g
     split at g
     ·rename_i b;simp[Instr.checkKey,run_underlying b]
     ·rename_i b;simp[Instr.checkKey,run_underlying b]
     ·rename_i b;simp[Instr.checkKey,run_underlying b]
     ·omega
    have:=k l' i c.2 d.2
    simp_all
  ·cases h
def alL{t k e:TypeId}{a g v}(l:(a.st=I/\((a.fs=[]/\P.underlying k=V .string)\/a.fs=[(0,0)]/\∃i,P.underlying k=V (.int i)))\/∃fs,a.st=U/\P.underlying k=V (.struct fs)/\P.stoodInHeld k=I/\P.eqGuardType P.depth k=I/\nk P fs.toList=V a.fs/\a.fs.all (λf=>Q<|f.2<3)=U)(c:qR a v=U):(Instr.checkKey g 10000 k v).run P w= .ok () w:=by obtain⟨hs,⟨_,b⟩|⟨_,i,b⟩⟩|⟨fs,hs,b,_,_,h,j⟩:=l;rw[show(10000:Nat)=9999+1 from A,Instr.checkKey];simp only[Sem.run_bind,run_underlying b,Result.andThen_ok,Sem.run_pure];rw[show(10000:Nat)=9999+1 from A,Instr.checkKey];simp only[Sem.run_bind,run_underlying b,Result.andThen_ok,Sem.run_pure];cases v with|agg xs=>have d:a.fs.all (λf=>Q<|f.1<xs.size)=U:=(by simpa only[qR,hs] using c);rw[show(10000:Nat)=9998+1+1 from A,Instr.checkKey];simp only[Sem.run_bind,run_underlying b,Result.andThen_ok];rw[<-Array.forIn_toList];rw[axc (n:=9998) fs.toList a.fs h j d];simp|_=>simp[qR,hs] at c
def azX{k b d}(hs:b.st=I)(g:(b.fs=[]/\d= .string)\/(b.fs=[(0,0)]/\∃i,d= .int i)):∀(c) (i j) {r},qR b k=U->lg b k c i=V r->Instr.findNow d k (oQ j c) i=V r:=λc=>by induction c with|nil=>intro i j r _ h;exact h|cons p c l=>intro i j r f h;simp only[lg] at h;simp only[oQ,Instr.findNow];cases a:pO b k p.1 with|none=>rw[a] at h;cases h|some q=>rw[a] at h;have:Instr.sameNow d k p.1=V q:=(by generalize m:p.1=y at a;obtain⟨e,rfl⟩|⟨e,i,rfl⟩:=g<;>cases k<;>(try(simp[qR,hs,e] at f;done))<;>cases y<;>(try(simp[pO,hs] at a;done))<;>simp only[pO,hs] at a<;>exact a);rw[this];cases q with|true=>exact h|false=>exact l (i+1) (j+1) f h
theorem azV{e fs k f}(hs:f.st=U)(x:P.underlying e=V (.struct fs))(o:P.stoodInHeld e=I)(t:P.eqGuardType P.depth e=I)(u:nk P fs.toList=V f.fs)(l:DW k=U):∀(c) (i j) {r},c.all uK=U->lg f k c i=V r->(Instr.findAsking e k (oQ j c) i).run P w= .ok r w:=λc=>by induction c with|nil=>simp_all [lg,aOe,oQ,Instr.findAsking]|cons p c z=>intro i j r m h;simp only[Cs,bN] at m;simp only[lg] at h;cases d:pO f k p.1 with|none=>simp_all|some q=>rw[d] at h;have:(Op.equal e k p.1).run P w= .ok q w:=(by have b:=m.1;simp only[uK,bN] at b;generalize n:p.1=y at d b;(cases k<;>(try(simp[pO,hs] at d;done)));(cases y<;>(try(simp[pO,hs] at d;done)));rename_i xs ys;simp only[pO,hs] at d;refine(KL (κ:=⟨λ_=>False,0⟩) (Y:=[]) (β:=λ_=>0) (xs:=xs.toList.map .s) (ys:=ys.toList.map .s) ?_ ?_ ?_ .eql default default).2;exact .a (vs:=xs.toList) O (λv g=>AF<|dV.1 l v g)<|aof l;exact .a (vs:=ys.toList) O (λv g=>AF<|dV.1 b.2 v g)<|aof b.2;grind [sR,alU]);simp only[oQ,Instr.findAsking,Sem.run_bind,this,Result.andThen_ok];cases q with|true=>simp_all|false=>simp_all
theorem azW{k b}:∀(a) (i) {r},a.all uK=U->lg b k a i=V (V r)->sc r.2=U:=λa=>by induction a with|nil=>intro i r _ h;cases h|cons p a c=>grind [lg,uK]
def KV{d k a b r}(o:(a.st=I/\((a.fs=[]/\P.underlying d=V .string)\/a.fs=[(0,0)]/\∃i,P.underlying d=V (.int i)))\/∃fs,a.st=U/\P.underlying d=V (.struct fs)/\P.stoodInHeld d=I/\P.eqGuardType P.depth d=I/\nk P fs.toList=V a.fs/\a.fs.all (λf=>Q<|f.2<3)=U)(g:qR a k=U)(j:DW k=U)(n:b.all uK=U)(h:lg a k b 0=V r):(Instr.findKey d k<|oQ 0 b).run P w= .ok r w:=by obtain⟨hs,⟨e,c⟩|⟨e,i,c⟩⟩|⟨fs,hs,c,e,l,m,p⟩:=o;exact MapKept.run_findKey c<|azX hs (.inl ⟨e,A⟩) b 0 0 g h;exact MapKept.run_findKey c<|azX hs (.inr ⟨e,i,A⟩) b 0 0 g h;rw[run_findKey_eq w<|by rw[c]];exact azV hs c e l m j b 0 0 n h
theorem alT{b x a}(s:zw P κ w Y β)(d:box Y b=V x)(h:ul x=V a):w.heap[β b]?=V (.map (oQ 0 a).toArray<|L a)/\a.all uK=U/\x.size=0/\x.var=U/\x.bA=[a.map ent]:=by unfold ul at h;split at h;rename_i e;obtain⟨_,f,c,g,i⟩|⟨c,_⟩:=(s.ok b x d).sp e.1;grind [KG];simp_all;cases h
def aDp{t p R C x ix av d}(s:zw P κ w Y β)(hm:a6q P t=V p)(hx:ba κ w Y β R x)(W:ba κ w Y β C ix)(h:oP p Y x ix d=V av):∃v,(Instr.lookup t R C d).run P w= .ok v w/\ba κ w Y β v av:=by obtain⟨kt,e,i,M,K,hz,y,B⟩:=ano hm;unfold oP at h;split at h;rename_i b _ _ k hk;(cases m:box Y b with|none=>rw[m] at h;cases h|some bx=>rw[m] at h;simp only[a6X] at h;split at h;rename_i S F;split at h;rename_i j;obtain⟨rfl,h0⟩:=amp hx m;obtain⟨G,z,_,_,_⟩:=alT s m F;obtain⟨rfl,q⟩:=am5 W hk;have E:∀D,(Instr.checkKey D 10000 kt C).run P w= .ok () w:=λD=>alL (t:=t) (e:=e) B j;have N:∀(a:Value) (b:Bool),sc a=U->ba κ w Y β (.tuple #[a, .bool b]) (.t [.s a, .s<|.bool b]):=λa b T=>(by refine .t (vs:=[a, .bool b]) A (λi v c f l=>?_);match i with|0=>simp at f l;subst f;subst l;exact .s T|1=>simp at f l;subst f;subst l;exact .s A|n+2=>simp at f);split at h;rename_i r o;have g:=KV (w:=w) B j q z o;have u:=azW S 0 z o;simp only[aOe] at h;subst h;refine⟨if d then .tuple #[r.2, .bool U] else r.2,?_,?_⟩;simp[Instr.lookup,run_underlying M,MapKept.run_getObj_map G,E,g];(cases d);exact .s u;exact N _ _ u;rename_i o;have g:=KV (w:=w) B j q z o;simp only[aOe] at h;subst h;refine⟨if d then .tuple #[p.zero, .bool I] else p.zero,?_,?_⟩;simp[Instr.lookup,run_underlying M,MapKept.run_getObj_map G,E,g,zeroValue,typeInfo,K,hz];(cases d);exact .s y;exact N _ _ y;(cases h);(cases h);cases h);cases h
end
section
variable{P:Program}{κ:Ctx}{w:World}{Y:ae}{β:Id->Nat}
theorem aC7{t v x av ts ty as}(j:ts[0]?=V t)(i:as[0]?=V v)(d:ba κ w Y β v x)(h:(yj P t x).or (aPH P Y t x)=V av):∃u,(Builtin.len_ ts ty as).run P w= .ok u w/\ba κ w Y β u av:=by rw[Option.or_eq_some_iff] at h;obtain h|⟨_,h⟩:=h;unfold yj at h;split at h;(cases h;cases d with|s=>exact⟨_,by simp_all [Builtin.len_,run_underlying,goInt], .s rfl⟩);(cases h);obtain⟨g,c,rfl,_⟩:=AJ d;exact⟨_,by simp_all [Builtin.len_,run_underlying,goInt], .s A⟩;(cases h);exact⟨_,by simp_all [Builtin.len_,run_underlying,goInt], .s A⟩;(cases h);unfold aPH at h;split at h;rename_i b n f _;(cases a:box Y b with|none=>simp_all|some bx=>rw[a] at h;simp only[df,aOe] at h;subst h;obtain⟨cap,cur,rfl,_⟩:=oR d a;exact⟨_,by simp_all [Builtin.len_,run_underlying,goInt], .s A⟩);rename_i k b o n f _;(cases a:box Y b with|none=>simp_all|some bx=>rw[a] at h;simp only[a6X] at h;split at h;rename_i e;subst e;simp only[aOe] at h;subst h;obtain⟨cap,rfl,_⟩:=Lf d a;exact⟨_,by simp_all [Builtin.len_,run_underlying,goInt], .s A⟩;cases h);cases h
def by5{t e v x av ts ty as}(d:ts[0]?=V t)(b:as[0]?=V v)(f:P.underlying t=V (.slice e))(g:ba κ w Y β v x)(h:cpA x=V av):∃u,(Builtin.cap_ ts ty as).run P w= .ok u w/\ba κ w Y β u av:=by unfold cpA at h;split at h;(cases h);obtain⟨i,c,rfl,_,a⟩:=AJ g;obtain rfl:=a A;exact⟨_,by simp[Builtin.cap_,d,b,run_underlying f,goInt];try rfl, .s A⟩;cases h
theorem awA{g E b c ty av cs}(a:∀x,ba κ w Y β (g x)<|E x)(h:nP P E Y b c=V av):∃v,(builtin b c.argTypes ty cs<|c.args.map g).run P w= .ok (.value v) w/\ba κ w Y β v av:=by unfold nP at h;split at h;split at h;rename_i t x l m;have⟨u,n,o⟩:=aC7 (P:=P) (w:=w) (Y:=Y) (β:=β) (ts:=c.argTypes) (ty:=ty) (as:=c.args.map g) l (by simp[m]) (a x) h;simp_all [builtin];(cases h);split at h;rename_i t x l m;split at h;rename_i e p;have⟨u,n,o⟩:=by5 (P:=P) (w:=w) (Y:=Y) (β:=β) (ts:=c.argTypes) (ty:=ty) (as:=c.args.map g) l (by simp[m]) p (a x) h;exact⟨u,by simp[builtin,n],o⟩;(cases h);(cases h);split at h;rename_i x y k;have d:=a x;have f:=a y;unfold AO at h;split at h;rename_i i j;simp only[aOe] at h;subst h;rw[i] at d;rw[j] at f;exact⟨_,by simp[builtin,Builtin.min_,k,d.s_inv.1,f.s_inv.1,Builtin.min2];try rfl, .s A⟩;simp_all;(cases h);(cases h);split at h;rename_i x y k;have d:=a x;have f:=a y;unfold AO at h;split at h;simp_all;rename_i i j;simp only[aOe] at h;subst h;rw[i] at d;rw[j] at f;exact⟨_,by simp[builtin,Builtin.max_,k,d.s_inv.1,f.s_inv.1,Builtin.max2];try rfl, .s A⟩;(cases h);(cases h);cases h
theorem aHZ{G E o av}(s:zw P κ w Y β)(q:∀x,ba κ w Y β (G x)<|E x)(h:dz P E Y o.op=V av):∃v,(execOp G o).run P w= .ok (.value v) w/\ba κ w Y β v av:=by obtain⟨ah,op,ty,aB,af,gd⟩:=o;dsimp only at h;unfold dz at h;split at h;(cases h;simp_all [execOp]);(cases h;simp_all [execOp]);rename_i c a b;split at h;rename_i t K;(cases h);have k:=q c;rw[K] at k;(cases t);exact⟨_,by simp[execOp,k.s_inv.1,asBool];try rfl,q _⟩;exact⟨_,by simp[execOp,k.s_inv.1,asBool];try rfl,q _⟩;(cases h);rename_i t x;(cases hp:iE Y (E x) with|none=>simp_all|some cs=>rw[hp] at h;obtain⟨ag,ap,g,e,K⟩:=anZ s (q x) hp;obtain⟨v,B,C⟩:=anh (P:=P) (t:=t) K h;simp_all [execOp,Instr.loadAt,Instr.sureAddr]);rename_i x;split at h;rename_i b i j p;have k:=q x;rw[p] at k;(cases F:box Y b with|none=>simp_all|some bx=>rw[F] at h;simp only[df,aOe] at h;subst h;exact⟨_,by simp[execOp,Eh k F];try rfl, .p1 F (Ei k F) A⟩);rename_i cs p;have k:=q x;rw[p] at k;(cases h);obtain⟨ag,ap,e,_⟩:=QM k 0;simp_all [execOp];rename_i fn a b p;have k:=q x;rw[p] at k;(cases h);generalize M:G x=v at k;(cases k with|f S al h h'=>exact⟨_,by simp_all [execOp], .f S al h h'⟩);(cases h);rename_i op ty x y yt;have D:=q x;have N:=q y;split at h;rename_i a b p hy;rw[p] at D;rw[hy] at N;(cases F:vP P ty op a b with|none=>simp_all|some v=>rw[F] at h;simp only[df,aOe] at h;subst h;obtain⟨B,C⟩:=awu (w:=w) F;refine⟨v,?_, .s C⟩;have hg:(eqGuard op ty x y a b).run P w= .ok () w:=(aH9<|by unfold vP at F;grind);simp[execOp,D.s_inv.1,N.s_inv.1,hg,B]);rename_i xs ys p hy;rw[p] at D;rw[hy] at N;have fx:∃vs:List Value,G x= .agg vs.toArray:=(by generalize G x=v at D;cases D;simp);have fy:∃vs:List Value,G y= .agg vs.toArray:=(by generalize G y=v at N;cases N;simp);obtain⟨vx,ex⟩:=fx;obtain⟨vy,ey⟩:=fy;split at h;(cases T:sR P ty xs ys with|none=>simp_all|some r=>rw[T] at h;(cases h);obtain⟨B,C⟩:=KL D N T .eql x y;rw[ex,ey] at B C;exact⟨_,by simp_all [execOp,binOp], .s A⟩);(cases T:sR P ty xs ys with|none=>simp_all|some r=>rw[T] at h;(cases h);obtain⟨B,C⟩:=KL D N T .neq x y;rw[ex,ey] at B C;exact⟨_,by simp_all [execOp,binOp], .s A⟩);(cases h);(cases h);rename_i op t x;have k:=q x;split at h;rename_i b p;rw[p] at k;(cases h);exact⟨_,by simp[execOp,k.s_inv.1,Op.unary];try rfl, .s A⟩;rename_i kk n p;rw[p] at k;(cases h);exact⟨_,by simp[execOp,k.s_inv.1,Op.unary,Op.intArith];try rfl, .s A⟩;(cases h);rename_i aC ah x;have k:=q x;split at h;rename_i d kk k' n hs hd p;rw[p] at k;(cases h);exact⟨_,by cases d<;>(simp[execOp,k.s_inv.1,convert,run_underlying hs,run_underlying hd,Conv.intToInt];try rfl), .s A⟩;rename_i s' hs hd p;rw[p] at k;(cases h);exact⟨_,by simp[execOp,k.s_inv.1,convert,run_underlying hs,run_underlying hd];try rfl, .s A⟩;(cases h);rename_i st x f;obtain⟨u,B,C⟩:=azS (q x) h;simp_all [execOp];rename_i t x f;have k:=q x;split at h;rename_i fs cs hu p;rw[p] at k;(cases hf:fs[f]? with|none=>simp_all|some fd=>rw[hf] at h;simp only[a6X] at h;generalize M:G x=v at k;cases k with|a S K hr=>obtain⟨u,B,C⟩:=anP S K hr h;simp_all [execOp,Instr.field,run_underlying,asAgg]);(cases h);rename_i t x ix;have k:=q ix;split at h;rename_i kk i p;rw[p] at k;split at h;rename_i R;obtain⟨u,B,C⟩:=aB4 (iv:= .bool I) (k:=kk) (q x) R h;exact⟨u,by simp[execOp,k.s_inv.1,B],C⟩;(cases h);(cases h);rename_i t x ix;have k:=q ix;have D:=q x;split at h;rename_i kk i s' W hu p;rw[W] at k;rw[p] at D;split at h;rename_i R;(cases F:s'[i.toNat]? with|none=>simp_all|some b=>rw[F] at h;(cases h);exact⟨_,by simp[execOp,k.s_inv.1,D.s_inv.1,Instr.index,asIntOf,run_underlying hu,R,F];try rfl, .s A⟩);(cases h);rename_i kk i n e cs W hu p;rw[W] at k;rw[p] at D;split at h;rename_i R;(cases hz:fG P e with|none=>simp_all|some z=>rw[hz] at h;simp only[a6X] at h;generalize M:G x=v at D;cases D with|a S K hr=>obtain⟨u,B,C⟩:=anP S K hr h;exact⟨u,by simp[execOp,M,k.s_inv.1,Instr.index,asIntOf,run_underlying hu,R,mN hz,B],C⟩);(cases h);(cases h);rename_i x i;have k:=q x;split at h;rename_i vs p;rw[p] at k;generalize M:G x=v at k;(cases k with|@t us _ S hr=>have am:i<L us:=X;exact⟨us[i],by simp[execOp,M,Instr.extract,am],X⟩);(cases h);rename_i t x ix ok;split at h;rename_i mt hm;have⟨v,B,C⟩:=aDp s hm (q x) (q ix) h;simp_all [execOp];(cases h);rename_i t x lo R mx;split at h;rename_i l hh m B C h3;have⟨u,k1,k2⟩:=aIo s (q x) (Ko q B) (Ko q C) (Ko q h3) h;simp_all [execOp];(cases h);rename_i fn first cap;(cases h);refine⟨.func (.func fn) (first.toList.map G).toArray (cap.toList.map G).toArray,?_, .f O O (λi v c M K=>?_)<|λi v c M K=>?_⟩;simp only[execOp,Instr.makeFunc,Sem.run_bind,Sem.run_pure,Result.andThen_ok];congr 3<;>exact X;grind;grind;rename_i c;split at h;rename_i b F;(have⟨v,B,C⟩:=awA (ty:=ty) (cs:=(c.args.map λ| .const _=>U|_=>I)) q h);grind [execOp,resolve,invoke,Sem.run_bind,Sem.run_pure,Result.andThen_ok];(cases h);cases h
end
def eY:AV->Option (dM)| .a cs=>V cs| .t _=>J| .u=>J|x=>V [x]
def CR(κ:Ctx)(w:World)(Y:ae)(β:Id->Nat)(vs:List Value)(cs:dM):Prop:=L vs=L cs/\(∀v∈vs,amk v=U)/\∀(i:Nat) v c,vs[i]?=V v->cs[i]?=V c->ba κ w Y β v c
def aly(a:Nat->Option (Nat×Nat)):dM->List (Nat×AV)->Option (dM)
 |cs,[]=>V cs
 |cs,(i,x)::c=>
  match a i,eY x with
  |some (b,size),some ys=>if L ys=size/\b+size<=L cs then aly a (cs.take b++ys++cs.drop (b+size)) c else J
  |_,_=>J
def jF(P:Program)(t:TypeId):Option (dM):=
 match P.info? t with
 |some i=>
  match i.zero with
  |some z=>if z.cells.all amk=U/\z.cells.size=i.size then V (z.cells.toList.map ui) else J
  |none=>J
 |none=>J
def gK:AV->AV| .l bA _ _=> .l bA I I|x=>x
def nrm:AV->AV| .a cs=> .a (cs.map gK)|x=>gK x
def aOy(P:Program)(t:TypeId):Option (dM):=(jF P t).map (·.map gK)
def vS(P:Program)(t:TypeId)(a:List<|Nat×AV):Option (dM):=
 match P.underlying t with
 |some (.struct b)=>
  match jF P t,b.toList.mapM (λf=>(P.info? f.type).map λi=>(f.offset,i.size)) with
  |some zs,some c=>aly (λi=>c[i]?) zs a
  |_,_=>J
 |some (.array _ e)=>
  match jF P t,fG P e with
  |some zs,some z=>aly (λi=>V (i*z,z)) zs a
  |_,_=>J
 |_=>J
def bsm(size len:Nat)(flat:dM):List (dM):=(aH len).map λi=>(flat.drop<|i*size).take size
def xB(P:Program)(t:TypeId)(len:Nat)(a:List<|Nat×AV):Option (List<|dM):=
 match P.underlying t with
 |some (.slice e)=>
  match aOy P e with
  |some zs=>if len*L zs<=16777216/\0<L zs then(aly (λi=>V (i*L zs,L zs)) ((er len zs).flatten) a).bind (λfl=>if fl.all eN=U then V (bsm (L zs) len fl) else J) else J
  |none=>J
 |_=>J
section
variable{P:Program}{κ:Ctx}{w:World}{Y:ae}{β:Id->Nat}
theorem CR.ext{b Y' a vs cs}(h:CR κ w Y β vs cs)(e:dw w Y β b Y' a):CR κ b Y' a vs cs:=⟨h.1,h.2.1,λi v c d f=>(h.2.2 i v c d f).ext e⟩
def CR.append{vs f cs ds}(h:CR κ w Y β vs cs)(k:CR κ w Y β f ds):CR κ w Y β (vs++f) (cs++ds):=by refine⟨by simp[h.1,k.1],λv a=>?_,λi v c b d=>?_⟩;rw[dF] at a;obtain a|a:=a;exact h.2.1 v a;exact k.2.1 v a;rw[rA] at b d;rw[h.1] at b;split at b;rename_i e;rw[zg e] at d;exact h.2.2 i v c b d;rename_i e;rw[za e] at d;exact k.2.2 _ v c b d
theorem CR.take{vs cs}(h:CR κ w Y β vs cs)(n):CR κ w Y β (vs.take n) (cs.take n):=by refine⟨by simp[h.1],λv e=>h.2.1 v X,λi v c a b=>?_⟩;rw[bwE] at a b;split at a;rename_i d;rw[zg d] at b;exact h.2.2 i v c a b;cases a
theorem CR.drop{vs cs}(h:CR κ w Y β vs cs)(n):CR κ w Y β (vs.drop n) (cs.drop n):=by refine⟨by simp[h.1],λv d=>h.2.1 v X,λi v c a b=>?_⟩;rw[mf] at a b;exact h.2.2 _ v c a b
theorem CR.nil:CR κ w Y β [] []:=⟨A,λ_ h=>(by simp at h),λ_ _ _ h=>(by simp at h)⟩
theorem CR.rep{vs cs}(h:CR κ w Y β vs cs)(n):CR κ w Y β (er n vs).flatten (er n cs).flatten:=by induction n with|zero=>exact CR.nil|succ n a=>simp only[aqZ,aqM];exact h.append a
theorem Ku{v x cs}(h:ba κ w Y β v x)(b:eY x=V cs):CR κ w Y β v.cells.toList cs:=by have d:∀x,one x=U->ba κ w Y β v x->CR κ w Y β v.cells.toList [x]:=λx f h=>(by have l:=h.cell f;(have:v.cells.toList=[v]:=by cases v<;>first|rfl|grind [amk]);rw[this];refine⟨A,λu k=>?_,λi u c k b=>?_⟩;simp_all;grind);cases x with|a ds=>simp only[eY,aOe] at b;subst b;(cases h with|a g e j=>exact⟨g,e,j⟩)|t ds=>simp[eY] at b|u=>simp[eY] at b|_=>simp only[eY,aOe] at b;subst b;exact d _ A h
theorem aBi:∀(vs) (k a) (acc:Array Value),a+k+L vs<=acc.size->((vs.zipIdx k).foldl (λ(cs:Array Value) (p:Value×Nat)=>cs.setIfInBounds (a+p.2) p.1) acc).toList=acc.toList.take (a+k)++vs++acc.toList.drop (a+k+L vs):=λvs=>by induction vs with|nil=>simp|cons v vs b=>intro k a acc h;simp only[List.zipIdx_cons,GE];rw[b (k+1) a _ X];simp only[aqq,bZ] at*;grind [list_seg_step]
theorem aTa{f:Operand->Value}{E:Operand->AV}(l:∀x,ba κ w Y β (f x)<|E x){pl}:∀(a:List<|Nat×Operand) (vs) (cs c),CR κ w Y β vs cs->aly pl cs (a.map λp=>(p.1,E p.2))=V c->∃vs',Instr.fill pl vs.toArray (a.map λp=>(p.1,f p.2))=V vs'.toArray/\CR κ w Y β vs' c:=λa=>by induction a with|nil=>intro vs cs c h b;simp only[mU,aly,aOe] at b;subst b;exact⟨vs,A,h⟩|cons p a q=>intro vs cs c h b;simp only[ji,aly] at b;split at b;rename_i d size ys n o;split at b;rename_i m;have k:=Ku (l p.2) o;have r:(f p.2).cells.size=size:=(by rw[<-Rz,k.1];exact m.1);have s:=h.1;have e:=aBi (f p.2).cells.toList 0 d vs.toArray vB;simp only[kP] at e;have g:=((h.take d).append k).append<|h.drop<|d+size;obtain⟨vs',i,j⟩:=q _ _ _ g b;refine⟨vs',?_,j⟩;simp only[ji,Instr.fill,n];rw[za vB];rw[<-i];congr 1;grind [qb,Array.foldl,Array.toList_zipIdx];(cases b);cases b
theorem tF{t zs}(h:jF P t=V zs):∃(i:TypeInfo) (z:Value),P.info? t=V i/\i.zero=V z/\z.cells.size=i.size/\L zs=i.size/\CR κ w Y β z.cells.toList zs:=by unfold jF at h;split at h;rename_i i b;split at h;rename_i z e;split at h;rename_i a;simp only[aOe] at h;subst h;refine⟨i,z,b,e,a.2,by simp[a.2],O,λv d=>?_,λk v c d f=>?_⟩;grind [Array.all_eq_true'];grind [aOe,KC];(cases h);(cases h);cases h
def Qx{v x}(h:ba κ w Y β v x):ba κ w Y β v (gK x):=by cases h with|l0=>exact .l0 (λh=>by cases h)|l1 y nf B g l r k D e o hs c m j=>exact .l1 (λh=>by cases h) nf B g l r k (λh=>by cases h) e o hs c m j|s h=>exact .s h|u=>exact .u|a d c h=>exact .a d c h|t d h=>exact .t d h|p1 h n y=>exact .p1 h n y|p0 h b=>exact .p0 h b|q nf g e o c m j=>exact .q nf g e o c m j|m1 h l C i n=>exact .m1 h l C i n|g1 h b=>exact .g1 h b|g0 h b=>exact .g0 h b|m0 h b=>exact .m0 h b|f d p h z=>exact .f d p h z
theorem CR.nrm{vs cs}(h:CR κ w Y β vs cs):CR κ w Y β vs (cs.map gK):=by refine⟨by simp[h.1],h.2.1,λi v c d a=>?_⟩;rw[ve] at a;cases b:cs[i]? with|none=>simp_all|some y=>rw[b] at a;simp only[df,aOe] at a;subst a;exact Qx<|h.2.2 i v y d b
theorem yo{v x}(h:ba κ w Y β v x):ba κ w Y β v (nrm x):=by cases x with|a cs=>simp only[Ab.nrm];(cases h with|a c b d=>have:=CR.nrm ⟨c,b,d⟩;exact .a this.1 this.2.1 this.2.2)|_=>exact Qx h
theorem Rw{t zs}(h:aOy P t=V zs):∃(i:TypeInfo) (z:Value),P.info? t=V i/\i.zero=V z/\z.cells.size=i.size/\L zs=i.size/\CR κ w Y β z.cells.toList zs:=by unfold aOy at h;cases a:jF P t with|none=>simp_all|some ys=>rw[a] at h;simp only[df,aOe] at h;subst h;obtain⟨i,z,b,c,d,e,f⟩:=tF (κ:=κ) (w:=w) (Y:=Y) (β:=β) a;exact⟨i,z,b,c,d,by simp[e],f.nrm⟩
theorem awJ{k:Operand->Value}{E:Operand->AV}(g:∀x,ba κ w Y β (k x)<|E x){t}{a:List (Nat×Operand)}{cs}(h:vS P t (a.map λp=>(p.1,E p.2))=V cs):∃vs:List Value,P.built t (a.map λp=>(p.1,k p.2))=V vs.toArray/\CR κ w Y β vs cs:=by unfold vS at h;split at h;rename_i d q;split at h;rename_i zs j c s;obtain⟨i,z,l,m,_,_,b⟩:=tF (w:=w) (Y:=Y) (β:=β) c;obtain⟨vs,o,f⟩:=aTa g a _ _ _ b h;simp_all [Program.built];(cases h);rename_i n e q;split at h;rename_i zs z c hs;obtain⟨i,v,l,m,_,_,b⟩:=tF (w:=w) (Y:=Y) (β:=β) c;obtain⟨vs,o,f⟩:=aTa g a _ _ _ b h;refine⟨vs,?_,f⟩;unfold fG at hs;(cases r:P.info? e with|none=>simp_all|some u=>simp_all [df,aOe,Program.built]);(cases h);cases h
theorem alj{size len flat i j x}(h:db (bsm size len flat) i j=V x):i<len/\j<size/\flat[i*size+j]?=V x:=by unfold db bsm at h;grind
theorem axf{size len flat}(c:L flat=len*size):∀r∈bsm size len flat,L r=size:=λr a=>by simp only[bsm,dN,fq] at a;obtain⟨i,b,rfl⟩:=a;have:i*size+size<=len*size:=(by have:=qo size b;grind);simp;omega
theorem azT{pl}:∀(a) (cs b),aly pl cs a=V b->L b=L cs:=λa=>by induction a with|nil=>grind [aly,aOe]|cons p a c=>grind [aly]
def aFe{p d size n c e vs flat bA g own}(z:¬κ.F d)(C:own=U->κ.base<=d)(u:∀i j x,db bA i j=V x->eN x=U)(q:p.heap[d]?=V (.cells vs.toArray e (0,0)))(G:∀b x,box Y b=V x->β b≠d)(m:CR κ p Y β vs flat)(B:L bA=n)(t:0<n)(o:n<=c)(D:g=U->c=n)(hs:∀r∈bA,L r=size)(f:∀i j x,db bA i j=V x->flat[i*size+j]?=V x):ba κ p Y β (.slice (V ⟨d,0,J⟩) n c) (.l bA g own):=by have s:=(vh.1 q).1;have a:∀k y,flat[k]?=V y->∃v,vs[k]?=V v:=λk y E=>(by have:=(mg.1 E).1;exact⟨vs[k]'(by rw[m.1];exact this),eC _⟩);refine .l1 C z u (λi j=>vs.getD (i*size+j)<|.bool I) B t o D s G hs (λi j x h=>?_) (λi j x h=>?_) (λi j x h=>?_);obtain⟨v,a⟩:=a _ _<|f i j x h;rw[Df q];simp[a];obtain⟨v,a⟩:=a _ _<|f i j x h;simp only[btc,a,mi];exact m.2.2 _ _ _ a<|f i j x h;obtain⟨v,a⟩:=a _ _<|f i j x h;simp only[btc,a,mi];exact m.2.1 v<|fC a
theorem aoe(z:List Value):∀(n k),k<n*L z->(er n z).flatten[k]?=z[k%L z]?:=λn=>by induction n with|zero=>omega|succ n a=>intro k h;simp only[aqZ,aqM,rA];split;grind [aYD];grind [tN,Nat.mod_eq_sub_mod]
theorem an4(z:List Value)(len):(Array.range<|len*L z).map (z.toArray[·%z.toArray.size]!)=(er len z).flatten.toArray:=by rw[<-qb];apply aqI;intro k;simp only[Array.toList_map,Array.toList_range,ve,xm];by_cases a:k<len*L z;grind [aoe,GH,oD,bu8];simp_all
theorem awI{r:Operand->Value}{E:Operand->AV}(s:zw P κ w Y β)(G:∀x,ba κ w Y β (r x)<|E x){t len}{a:List (Nat×Operand)}{bA}(h:xB P t len (a.map λp=>(p.1,E p.2))=V bA):
  ∃v q,(Instr.buildSlice t len (a.map λp=>(p.1,r p.2)).toArray).run P w= .ok v q/\Below w.heap.size w q/\ba κ q Y β v (.l bA U U):=by
 unfold xB at h
 split at h
 ·rename_i e N
  split at h
  ·rename_i zs R
   split at h
   ·rename_i hc
    obtain⟨i,z,C,D,T,W,F⟩:=Rw (w:=w) (Y:=Y) (β:=β) R
    cases f:aly (λi=>V (i*L zs,L zs)) ((er len zs).flatten) (a.map λp=>(p.1,E p.2)) with
    |none=>rw[f] at h;cases h
    |some flat=>
     rw[f] at h
     simp only[a6X] at h
     split at h
     ·rename_i k
      simp only[aOe] at h
      subst h
      obtain⟨vs,h4,u⟩:=aTa G a _ _ _ (F.rep len) f
      have y:L flat=len*L zs:=by rw[azT _ _ _ f];simp
      have g:L z.cells.toList=i.size:=Z
      have c:∀o,Below w.heap.size w (w.alloc o):=λo=>(Below.refl _ _).alloc (dA _) _
      by_cases B:len=0
      ·subst B
       have m:flat=[]:=X
       have n:vs=[]:=by have:=u.1;simp_all
       subst m n
       refine⟨.slice (V ⟨w.heap.size,0,J⟩) 0 0,w.alloc<|.cells #[] e,?_,c _, .l0<|λ_=>A⟩
       simp_all [List.replicate_zero,List.flatten_nil,sizeOf,typeInfo,Instr.buildSlice,run_underlying,newRow,Array.range_zero']
      ·have M:=run_buildSlice (P:=P) w t e len (a.map λp=>(p.1,r p.2)).toArray vs.toArray i z N C D vB (by grind [Nat.mul_eq_zero]) (by
        rw[<-g,show z.cells=z.cells.toList.toArray by simp,an4,g]
        simp_all)
       refine⟨_,_,M,c _,?_⟩
       have K:=heap_alloc_new w<|.cells vs.toArray e
       exact aFe (e:=e) (flat:=flat) (size:=L zs) (s.new<|dA _).1 (λ_=>(s.new<|dA _).2) (λi j x d=>dV.1 k x<|fC (alj d).2.2) K (λb x d S=>by have:=s.lt d;omega) (u.ext<|xJ s<|c _) (by simp[bsm]) Z (dA _) (λ_=>A) (axf y) (λi j x d=>(alj d).2.2)
     ·cases h
   ·cases h
  ·cases h
 ·cases h
end
def vg(Y:ae)(d:Nat):Bool:=Q<|d<L Y
def mZ(P:Program)(t:TypeId):Nat:=match P.info? t with|some i=>i.bytes|none=>0
def aEx(v:Bool)(Y:ae):AV->Option (List<|dM)| .l bA _ _=>if v=U then J else V bA| .m b n=>(box Y b).bind λx=>if x.var=v then V (x.bA.take n) else J|_=>J
def gL(Y:ae):AV->Option (List<|dM)| .l bA _ _=>V bA| .m b n=>(box Y b).bind λx=>if x.var=I then V (x.bA.take n) else J|_=>J
theorem aXZ{Y x}:aEx I Y x=gL Y x:=by cases x<;>rfl
def lx:Nat:=1099511627776
def aTH(Y:ae):AV->AV
 | .m b n=>match box Y b with|some x=>if x.var=I then .l (x.bA.take n) I x.own else .m b n|none=> .m b n
 |x=>x
def eR(Y:ae):AV->AV| .a cs=> .a (cs.map<|aTH Y)|x=>aTH Y x
def iR:AV->List Id| .m b _=>[b]|_=>[]
def aNN:AV->List Id| .a cs=>cs.flatMap iR|x=>iR x
def kills(Y:ae)(l:List Id):ae:=l.foldl (λY b=>if(box Y b).isSome then kill Y b else Y) Y
def tV(v:Bool)(P:Program)(Y:ae)(d:Nat)(t:TypeId)(s x:AV):Option (AV×ae):=
 match P.underlying t with
 |some (.slice e)=>
  match jF P e,aEx v Y x with
  |some zs,some new=>
   if L new=0 then
    match s with
    | .l bA a own=>V (.l bA a own,Y)
    | .m b n=>(box Y b).map λ_=>(.m b n,Y)
    |_=>J
   else if 0<L zs/\vg Y d=U/\(∀r∈new,L r=L zs) then
    match s with
    | .l bA true _=>
     if(∀r∈bA,L r=L zs)/\(L bA+L new)*(mZ P e+1)<=lx then
      V (.m (lA Y d)<|L bA+L new,put Y d ⟨e,L zs,U,v,bA++new⟩)
     else J
    | .m b n=>
     match box Y b with
     |some bx=>
      if bx.elem=e/\bx.var=v/\bx.size=L zs/\n<=L bx.bA/\(n+L new)*(mZ P e+1)<=lx then
       V (.m (lA Y d)<|n+L new,put (kill Y b) d ⟨e,L zs,bx.own,v,bx.bA.take n++new⟩)
      else J
     |none=>J
    |_=>J
   else J
  |_,_=>J
 |_=>J
def ra(P:Program)(Y:ae)(t:TypeId)(x v:AV):Option ae:=
 match x with
 | .p b i j=>
  match box Y b,eY v with
  |some bx,some cs=>
   match bx.bA[i]? with
   |some r=>if fG P t=V (L cs)/\j+L cs<=L r/\(bx.var=I->cs.all eN=U) then V (wr Y b ⟨bx.elem,bx.size,bx.own,bx.var,bx.bA.set i<|r.take j++cs++r.drop (j+L cs)⟩) else J
   |none=>J
  |_,_=>J
 |_=>J
def aBG(Y:ae):AV->Bool
 | .p b _ _=>match box Y b with|some x=>x.var|none=>U
 |_=>U
def isL:AV->Bool| .l _ _ _=>U|_=>I
def uj(zs:dM):Bool:=zs.any isL
def tz:AV->AV| .l [] _ _=> .l [] U U|x=>x
def mz(zs:dM):dM:=bif uj zs then zs.map tz else zs
def anv(zs):L (mz zs)=L zs:=by grind [mz,uj]
def wA(P:Program)(Y:ae)(d:Nat)(t:TypeId)(l c:Int):Option (AV×ae):=
 match P.underlying t with
 |some (.slice e)=>
  match aOy P e with
  |some zs=>if 0<=l/\l<=c/\0<L zs/\zs.all eN=U/\vg Y d=U/\c*(mZ P e+1)<=lx then V (.m (lA Y d) l.toNat,put Y d ⟨e,L zs,U,uj zs,er l.toNat<|mz zs⟩) else J
  |none=>J
 |_=>J
def bt1(P:Program)(Y:ae)(d:Nat)(t a:TypeId)(s x:AV):Option (AV×ae):=
 match s,x with
 | .l [] true _, .s (.int _ l)=>
  match P.underlying a with
  |some (.int _)=>if 0<l then wA P Y d t l l else J
  |_=>J
 |_,_=>J
def oS(t:TypeId)(Y:ae)(d:Nat):Option (AV×ae):=if vg Y d=U then V (.g 0 (lA Y d) 0 0,put Y d ⟨t,0,U,U,[[]]⟩) else J
def muA(c:MT)(Y:ae)(x k v:AV):Option ae:=
 match x,ww c.st k,v with
 | .g 0 b _ _,some kv, .s vv=>
  match box Y b with
  |some bx=>
   match ul bx with
   |some a=>if qR c kv=U then(match lg c kv a 0 with|some none=>V (wr Y b ⟨bx.elem,bx.size,bx.own,bx.var,[(a++[(kv,vv)]).map ent]⟩)|some (some r)=>if(a[r.1]?).any (λp=>Instr.sameBits 10000 p.1 kv)=U then V (wr Y b ⟨bx.elem,bx.size,bx.own,bx.var,[(a.set r.1 (kv,vv)).map ent]⟩) else J|_=>J) else J
   |none=>J
  |none=>J
 |_,_,_=>J
def tu(Y:ae)(d:Nat)(x:AV):Option (AV×ae):=
 match x with
 | .s (.string s)=>if vg Y d=U then V (.g 1 (lA Y d) 0 0,put Y d ⟨0,0,U,I,[[.s<|.string s, .s<|.int .i64 0]]⟩) else J
 |_=>J
def se(Y:ae)(x:AV):Option (AV×ae):=
 match x with
 | .g 1 b _ _=>
  match box Y b with
  |some bx=>
   if bx.size=0/\bx.var=I then
    match bx.bA with
    |[[.s<|.string s, .s<|.int .i64 p]]=>
     if p.toNat<s.size then V (.t [.s<|.bool U, .s<|.int .i64 p, .s<|.int .i32 (Utf8.decode s p.toNat).1],wr Y b ⟨bx.elem,bx.size,bx.own,bx.var,[[.s<|.string s, .s<|.int .i64 ((p.toNat+(Utf8.decode s p.toNat).2:Nat):Int)]]⟩)
     else V (.t [.s<|.bool I],Y)
    |_=>J
   else J
  |none=>J
 |_=>J
def xD(P:Program)(t:TypeId):Option Value:=
 match P.underlying t with
 |some (.slice e)=>match(P.info? e).bind (·.zero),fG P e with|some z,some 1=>if sc z=U then V z else J|_,_=>J
 |_=>J
def pA(z:Value)(Y:ae)(x:AV):Option ae:=
 match x with
 | .l [] _ _=>V Y
 | .g 2 b o n=>
  match box Y b with
  |some bx=>if bx.size=1/\0<n then V (wr Y b ⟨bx.elem,bx.size,bx.own,bx.var,bx.bA.take o++er n [.s z]++bx.bA.drop (o+n)⟩) else J
  |none=>J
 |_=>J
def cyT(P:Program)(t a:TypeId):Bool:=
 match P.underlying t,P.underlying a with
 |some (.slice e),some (.slice _)=>Q<|fG P e=V 1
 |_,_=>I
def scR(r:dM):Bool:=match r with|[.s _]=>U|_=>I
def cyA(Y:ae)(x y:AV):Option (AV×ae):=
 match x,y with
 | .m b n, .l new _ _=>
  match box Y b with
  |some bx=>if bx.size=1/\new.all scR=U then V (.s<|.int .i64 (min (L new) n:Nat),if min (L new) n=0 then Y else wr Y b ⟨bx.elem,bx.size,bx.own,bx.var,new.take (min (L new) n)++bx.bA.drop (min (L new) n)⟩) else J
  |none=>J
 |_,_=>J
def aPm(P:Program)(t:TypeId):Bool:=
 match P.underlying t with
 |some (.slice e)=>(match P.info? e with|some i=>i.str== "api.ThreadState" |none=>I)
 |_=>I
def aO3(P:Program):Op->Bool| .buildSlice t _ _=>aPm P t|_=>I
def lvA(P:Program)(Y:ae)(d:Nat)(t:TypeId)(len:Nat)(a:List<|Nat×AV):Option (AV×ae):=
 match P.underlying t,a with
 |some (.slice e),[(0,x)]=>
  match eY x,aOy P e with
  |some cs,some zs=>if len=1/\L cs=L zs/\0<L zs/\L zs<=1000/\vg Y d=U then V (.m (lA Y d) 1,put Y d ⟨e,L zs,U,U,[cs]⟩) else J
  |_,_=>J
 |_,_=>J
def eA(P:Program)(E:Operand->AV)(Y:ae)(d:Nat):Op->Option (AV×ae)
 | .alloc e=>
  match jF P e with
  |some zs=>if 0<L zs/\vg Y d=U then V (.p (lA Y d) 0 0,put Y d ⟨e,L zs,U,U,[zs]⟩) else J
  |none=>J
 | .box e x=>
  match eY (E x),fG P e with
  |some cs,some z=>if L cs=z/\0<z/\vg Y d=U then V (.p (lA Y d) 0 0,put Y d ⟨e,z,U,U,[cs]⟩) else J
  |_,_=>J
 | .build t b=>(vS P t<|b.toList.map λp=>(p.1,E p.2)).map λcs=>(.a cs,Y)
 | .buildSlice t len b=>if aPm P t=U then lvA P Y d t len (b.toList.map λp=>(p.1,E p.2)) else(xB P t len<|b.toList.map λp=>(p.1,nrm<|eR Y<|E p.2)).map λbA=>(.l bA U U,kills Y<|b.toList.flatMap λp=>aNN<|E p.2)
 | .makeSlice t l c=>match E l,E c with| .s (.int _ l), .s (.int _ c)=>wA P Y d t l c|_,_=>J
 | .store t x v=>
  if aBG Y (E x)=U then(ra P Y t (E x)<|E v).map λY'=>(.t [],Y')
  else(ra P (kills Y<|aNN<|E v) t (E x)<|nrm<|eR Y<|E v).map λY'=>(.t [],Y')
 | .call c=>
  match c.callee with
  | .builtin .append=>
   match c.args.toList,c.argTypes.toList with
   |[s,x],[t,f]=>if t=f then tV (aPm P t) P Y d t (E s) (E x) else bt1 P Y d t f (E s) (E x)
   |_,_=>J
  | .builtin .clear=>
   match c.args.toList,c.argTypes.toList with
   |[x],[t]=>match xD P t with|some z=>(pA z Y<|E x).map λY'=>(.t [],Y')|none=>J
   |_,_=>J
  | .builtin .copy=>
   match c.args.toList,c.argTypes.toList with
   |[x,y],[t,f]=>if cyT P t f=U then cyA Y (E x) (E y) else J
   |_,_=>J
  |_=>J
 | .makeMap t r=>match r with|none=>oS t Y d|some _=>J
 | .mapUpdate t x k v=>match a6q P t with|some g=>(muA g Y (E x) (E k)<|E v).map λY'=>(.t [],Y')|none=>J
 | .range t x=>match P.underlying t with|some .string=>tu Y d (E x)|_=>J
 | .next x st=>if st=U then se Y (E x) else J
 |_=>J
def ard(P:Program)(κ:Ctx)(w:World)(Y:ae)(β:Id->Nat)(c:Operand->Value)(o:Oper)(av:AV)(Y':ae):Prop:=∃nx v b a,(execOp c o).run P w= .ok nx b/\(nx= .value v\/nx= .skip/\v=undef)/\ba κ b Y' a v av/\zw P κ b Y' a/\dw w Y β b Y' a
section
variable{P:Program}{κ:Ctx}{w:World}{Y:ae}{β:Id->Nat}
theorem te{d}(h:vg Y d=U):d<L Y:=by grind [vg]
theorem avN{cs i j y}(h:db [cs] i j=V y):i=0/\cs[j]?=V y:=buh
def amG{e zs}(h:jF P e=V zs):(P.info? e).map (·.size)=V (L zs):=by obtain⟨i,z,a,_,_,b,_⟩:=tF (P:=P) (κ:=⟨λ_=>False,0⟩) (w:=default) (Y:=[]) (β:=λ_=>0) h;simp[a,b]
def aB5{e zs}(h:aOy P e=V zs):(P.info? e).map (·.size)=V (L zs):=by obtain⟨i,z,a,_,_,b,_⟩:=Rw (P:=P) (κ:=⟨λ_=>False,0⟩) (w:=default) (Y:=[]) (β:=λ_=>0) h;simp[a,b]
theorem alw{d e vs cs}(s:zw P κ w Y β)(l:vg Y d=U)(a:CR κ w Y β vs cs)(b:0<L cs)(m:(P.info? e).map (·.size)=V (L cs)):∃c,ba κ (w.alloc<|.cells vs.toArray e) (put Y d ⟨e,L cs,U,U,[cs]⟩) c (.pointer<|V ⟨w.heap.size,0,J⟩) (.p (lA Y d) 0 0)/\zw P κ (w.alloc<|.cells vs.toArray e) (put Y d ⟨e,L cs,U,U,[cs]⟩) c/\dw w Y β (w.alloc<|.cells vs.toArray e) (put Y d ⟨e,L cs,U,U,[cs]⟩) c:=by have f:=te l;have k:Below w.heap.size w (w.alloc<|.cells vs.toArray e):=(Below.refl _ _).alloc (dA _) _;refine⟨upd β (lA Y d) w.heap.size,?_,?_,by grind [um]⟩;have:=ba.p1 (κ:=κ) (w:=w.alloc<|.cells vs.toArray e) (β:=upd β (lA Y d) w.heap.size) (i:=0) (j:=0) (iy (x:=⟨e,L cs,U,U,[cs]⟩) f) b A;grind [gx];refine Et (cap:=1) (cur:=vs.toArray) s k f (dA _) b m O (λh=>by cases h) (heap_alloc_new w _) (by simp[a.1]) O (by simp[maxLen]) (λi j y q=>?_);obtain⟨rfl,n⟩:=avN q;have g:j<L vs:=(by rw[a.1];grind);have o:vs[j]?=V vs[j]:=O;exact⟨vs[j],by simp[g],a.2.1 _<|qj _,a.2.2 j _ y o n⟩
theorem aot(w:World)(g)(cs)(k)(h:k≠g):(w.setRow g cs).heap[k]?=w.heap[k]?:=by grind [World.setRow]
def aou(w:World)(g)(cs):(w.setRow g cs).heap.size=w.heap.size:=O
theorem Bn{α:Type}(l ys:List α)(k n)(h:k+L ys<=L l):(l.take k++ys++l.drop (k+L ys))[n]?=if k<=n/\n<k+L ys then ys[n-k]? else l[n]?:=by grind [List.length_append,gC,min]
theorem aoK{t vx vv x v Y'}(s:zw P κ w Y β)(hx:ba κ w Y β vx x)(hv:ba κ w Y β vv v)(h:ra P Y t x v=V Y'):
  ∃K,(Instr.storeAt t vx vv).run P w= .ok () K/\zw P κ K Y' β/\dw w Y β K Y' β:=by
 unfold ra at h
 split at h
 ·rename_i b i j
  split at h
  ·rename_i bx cs o hc
   split at h
   ·rename_i r T
    split at h
    ·rename_i F
     simp only[aOe] at h
     subst h
     have g:=Ku hv hc
     have f:=(s.ok b bx o).cl<|Ei hx o
     obtain⟨cur,cap,C,h2,h3,h4,h5⟩:=f.ex
     have W:=fC T
     have aq:=f.rl r W
     have q:i<L bx.bA:=X
     have ak:i*bx.size+bx.size<=cap*bx.size:=by
      have:=qo bx.size (show i+1<=cap by omega)
      rw[tN] at this;exact this
     have M:=g.1
     have ah:vv.cells.size=L cs:=Z
     have B:=run_storeCells_at P (β b) (i*bx.size+j) bx.elem vv.cells.toList 0 cur w C Z (λu hu=>g.2.1 u hu)
     simp only[kP] at B
     generalize p:(cur.toList.take (i*bx.size+j)++vv.cells.toList++cur.toList.drop (i*bx.size+j+L vv.cells.toList)).toArray=c at B
     have E:∀n,c[n]?=if i*bx.size+j<=n/\n<i*bx.size+j+L cs then vv.cells.toList[n-(i*bx.size+j)]? else cur[n]?:=by
      intro n
      rw[<-p,RR,Bn _ _ _ _ NA,M]
      simp
     have N:c.size=cur.size:=X
     have R:=setRow_heap w (β b) cur c bx.elem (0,0) C
     have hw:vM w (w.setRow (β b) c) (β b):=⟨A,A,A,aou _ _ _,by grind [aot]⟩
     have al:L (r.take j++cs++r.drop (j+L cs))=bx.size:=NA
     refine⟨w.setRow (β b) c,?_,?_,?_⟩
     ·rw[Eh hx o]
      have ar:(sizeOf t).run P w= .ok (L cs) w:=mN F.1
      simp_all [Instr.storeAt,Instr.sureAddr,storeVar]
     ·refine aox (x:=bx) (x':=⟨bx.elem,bx.size,bx.own,bx.var,bx.bA.set i<|r.take j++cs++r.drop (j+L cs)⟩) s o hw A rfl rfl O (λG l=>?_) ?_ C R N h2 h3 h4 (λd e y a=>?_)
      ·obtain h|h:=CC l
       ·exact f.rl G h
       simp_all
      ·intro m d e y a
       unfold db at a
       rw[xh] at a
       by_cases k:i=d
       ·subst k
        rw[zg A,zg q] at a
        simp only[a6X] at a
        rw[Bn _ _ _ _ F.2.1] at a
        split at a
        ·grind
        ·exact f.dt m i e y (by simp[db,T,a])
       ·rw[za k] at a
        exact f.dt m d e y a
      ·dsimp only at a
       have ap:d<L bx.bA/\e<bx.size:=by
        have:=zO (size:=bx.size) (λG l=>by
         obtain h|h:=CC l
         ·exact f.rl G h
         simp_all) a
        simp_all
       unfold db at a
       rw[xh] at a
       rw[E]
       by_cases k:i=d
       ·subst k
        rw[zg A,zg q] at a
        simp only[a6X] at a
        rw[Bn _ _ _ _ F.2.1] at a
        split at a
        ·rename_i S
         rw[zg Z,show i*bx.size+e-(i*bx.size+j)=e-j by omega]
         have z:e-j<L vv.cells.toList:=Z
         exact⟨_,eC z,g.2.1 _<|qj _,g.2.2 _ _ y (eC z) a⟩
        ·rename_i S
         rw[za Z]
         simp_all [db]
       ·rw[za k] at a
        have D:¬(i*bx.size+j<=d*bx.size+e/\d*bx.size+e<i*bx.size+j+L cs):=by
         rintro⟨g1,g2⟩
         obtain h|h:=Nat.lt_or_gt_of_ne k
         ·have:=qo bx.size (show i+1<=d by omega)
          rw[tN] at this;omega
         ·have:=qo bx.size (show d+1<=i by omega)
          rw[tN] at this;omega
        rw[za D]
        exact h5 d e y a
     grind [KN]
    ·cases h
   ·cases h
  ·cases h
 ·cases h
end
section
variable{P:Program}{κ:Ctx}{w:World}{Y:ae}{β:Id->Nat}
def tK(κ:Ctx)(w:World)(Y:ae)(β:Id->Nat)(a b size:Nat)(bA:List<|dM)(vs:List Value):Prop:=L vs=L bA*size/\(∀j u,vs[j]?=V u->w.cell? ⟨a,b+j,J⟩=V u)/\(∀u∈vs,amk u=U)/\∀i j y,db bA i j=V y->∃u,vs[i*size+j]?=V u/\ba κ w Y β u y
theorem alm{bA size i j}(hs:∀r∈bA,L r=size)(a:i<L bA)(b:j<size):∃y,db bA i j=V y:=by simp_all [qj,db]
def amc{q d n c bA p own size}(h:ba κ w Y β (.slice (V ⟨q,d,J⟩) n c)<|.l bA p own)(hs:∀r∈bA,L r=size)(m:0<size):∃vs,tK κ w Y β q d size bA vs:=by cases h with|l0=>exact⟨[],O,λj u h=>(by simp at h),λu h=>(by simp at h),λi j y h=>(by simp[db] at h)⟩|@l1 _ _ n _ a _ _ _ T nf S g G M F W R nd o E K t=>obtain rfl:a=size:=(by cases bA with|nil=>simp at G;omega|cons r rs=>rw[<-o r O,hs r O]);have C:∀i j,j<a->(i*a+j)/a=i/\(i*a+j)%a=j:=λi j f=>(by constructor;rw[vD,Nat.mul_add_div m,Nat.div_eq_of_lt f,kP];rw[vD,aq9,aYD f]);have s:∀k,k<L bA*a->∃y,db bA (k/a) (k%a)=V y:=λk t=>alm o (aq5<|by rwa [vD])<|bu8 _ m;refine⟨(aH<|L bA*a).map λk=>g (k/a)<|k%a,O,λj u b=>?_,λu b=>?_,λi j y e=>?_⟩;rw[ve] at b;by_cases f:j<L bA*a;rw[GH f] at b;simp only[df,aOe] at b;subst b;obtain⟨y,e⟩:=s j f;have:=E _ _ y e;rw[show d+j/a*a+j%a=d+j by have:=aq4 j a;rw[vD] at this;omega] at this;exact this;rw[qi NA] at b;cases b;simp only[dN,fq] at b;obtain⟨k,v,rfl⟩:=b;obtain⟨y,e⟩:=s k v;exact t _ _ y e;obtain⟨N,D⟩:=zO o e;obtain⟨z,B⟩:=C i j D;have x:i*a+j<L bA*a:=(by have:=qo a (show i+1<=L bA by omega);rw[tN] at this;omega);refine⟨g i j,?_,K i j y e⟩;rw[ve,GH x,df,z,B]
theorem KY{b n bx}(s:zw P κ w Y β)(z:box Y b=V bx)(g:0<bx.size)(G:n<=L bx.bA):∃cur cap vs,w.heap[β b]?=V (.cells cur bx.elem (0,0))/\cur.size=cap*bx.size/\L bx.bA<=cap/\cap<=maxLen/\vs=cur.toList.take (n*bx.size)/\tK κ w Y β (β b) 0 bx.size (bx.bA.take n) vs:=by have a:=(s.ok b bx z).cl g;obtain⟨cur,cap,p,e,q,t,x⟩:=a.ex;have E:n*bx.size<=cur.size:=(by rw[e];exact qo _ Z);have l:∀r∈bx.bA.take n,L r=bx.size:=λr h=>a.rl r X;have f:∀i j y,db (bx.bA.take n) i j=V y->db bx.bA i j=V y:=buh;refine⟨cur,cap,_,p,e,q,t,A,vB,λj u m=>?_,λu m=>?_,λi j y d=>?_⟩;grind [Df];obtain⟨k,c⟩:=aqN m;rw[bwE] at c;split at c;rename_i D;have B:=aq4 k bx.size;have C:k/bx.size<n:=aq5 X;obtain⟨y,d⟩:=alm (i:=k/bx.size) (j:=k%bx.size) (λr h=>a.rl r h) Z<|bu8 _ a.pos;grind;(cases c);obtain⟨v,g1,F,o⟩:=x i j y<|f i j y d;obtain⟨l1,K⟩:=zO l d;refine⟨v,?_,o⟩;rw[bwE];have:i*bx.size+j<n*bx.size:=(by have:=qo bx.size (show i+1<=n by simp at l1;omega);grind);simp_all
theorem tK.bA{size g m d f bA a vs n}(h:tK κ w Y β g m size bA vs)(k:tK κ w Y β d f size a n)(hs:∀r∈bA,L r=size)(q:∀r∈a,L r=size):∀i j y,db (bA++a) i j=V y->∃u,(vs++n)[i*size+j]?=V u/\amk u=U/\ba κ w Y β u y:=λi j y c=>by unfold db at c;rw[rA] at c;split at c;rename_i o;have b:db bA i j=V y:=c;obtain⟨l1,s⟩:=zO hs b;obtain⟨u,l,e⟩:=h.2.2.2 i j y b;have p:=(mg.1 l).1;exact⟨u,X,h.2.2.1 u X,e⟩;rename_i o;have b:db a (i-L bA) j=V y:=c;obtain⟨u,l,e⟩:=k.2.2.2 _ j y b;refine⟨u,?_,k.2.2.1 u X,e⟩;rw[List.getElem?_append_right (by rw[h.1];have:=qo size (show L bA<=i by omega);omega),h.1];rwa [show i*size+j-L bA*size=(i-L bA)*size+j by rw[Nat.sub_mul];have:=qo size (show L bA<=i by omega);omega]
theorem aoG{q v x new size}(s:zw P κ w Y β)(f:ba κ w Y β v x)(h:aEx q Y x=V new)(hs:∀r∈new,L r=size)(i:0<size)(l:0<L new):∃d a c j,v= .slice (V ⟨d,a,J⟩) (L new) c/\tK κ w Y β d a size new j:=by unfold aEx at h;split at h;rename_i bA p own;split at h;(cases h);simp only[aOe] at h;subst h;obtain⟨vs,o⟩:∃d a c,v= .slice (V ⟨d,a,J⟩) (L bA) c:=(by cases f with|l0=>simp at l|l1 G nf E g k=>simp_all);obtain⟨a,c,rfl⟩:=o;obtain⟨N,y⟩:=amc f hs i;grind;rename_i b n;(cases e:box Y b with|none=>simp_all|some bx=>rw[e] at h;simp only[a6X] at h;split at h<;>simp only[aOe,reduceCtorEq] at h;subst h;obtain⟨cap,cur,rfl,k,_⟩:=oR f e;obtain⟨u,t,vs,z,B,C,D,rfl,F⟩:=KY s e (nZ f e) k;have K:bx.size=size:=(by cases m:bx.bA.take n with|nil=>simp_all|cons r M=>rw[<-((s.ok b bx e).cl<|nZ f e).rl r (bnL<|by rw[m];simp),hs r (by rw[m];simp)]);grind);cases h
theorem QY{n b}(h:n*(b+1)<=lx):n<=maxLen/\n*b<=140737488355328:=by grind [Nat.mul_add,lx,maxLen]
def QE{b:World}{a e size n:Nat}{v xs}(h:b.ownsRow a e size v n xs)(f:0<n):∃g cap cur,v= .slice (V ⟨g,0,J⟩) n cap/\a<=g/\b.heap[g]?=V (.cells cur e (0,0))/\n<=cap/\cap<=maxLen/\cur.size=cap*size/\cur.toList.take (n*size)=xs:=by obtain⟨_,d⟩|c:=h.2;omega;exact c
theorem aH3{q d y new}(i:ba κ w Y β d y)(a:aEx q Y y=V new)(g:L new=0):∃f c,d= .slice f 0 c:=by cases y with|l bA e own=>grind [aEx,aOe,AJ]|m b n=>simp only[aEx] at a;(cases h:box Y b with|none=>simp_all|some bx=>grind [aOe,reduceCtorEq,oR,gC,rD])|_=>simp[aEx] at a
theorem ana{d n c bA a own}(hs:ba κ w Y β (.slice d n c)<|.l bA a own):bA=[]\/∃b o,d=V ⟨b,o,J⟩:=by cases hs with|l0=>simp|l1=>simp
theorem alR{v bA a own}(h:ba κ w Y β v<|.l bA a own):∀i j y,db bA i j=V y->eN y=U:=by cases h with|l0=>grind [db]|l1 c nf b=>exact b
theorem Dh{v x bA}(s:zw P κ w Y β)(h:ba κ w Y β v x)(a:gL Y x=V bA):∀i j y,db bA i j=V y->eN y=U:=by cases x with|l d e own=>grind [gL,aOe,alR]|m b n=>simp only[gL] at a;(cases c:box Y b with|none=>simp_all|some bx=>rw[c] at a;simp only[a6X] at a;split at a;rename_i f;simp only[aOe] at a;subst a;intro i j y g;refine((s.ok b bx c).cl<|nZ h c).dt f i j y ?_;grind [db];cases a)|_=>simp[gL] at a
theorem alQ{a b}(d:∀i j y,db a i j=V y->eN y=U)(e:∀i j y,db b i j=V y->eN y=U):∀i j y,db (a++b) i j=V y->eN y=U:=λi j y c=>by unfold db at c;rw[rA] at c;split at c;exact d i j y c;exact e _ j y c
theorem avx{q t ty e d vs vx bA new zs own y}(s:zw P κ w Y β)(hs:ba κ w Y β vs<|.l bA U own)(hx:ba κ w Y β vx y)(B:P.underlying t=V (.slice e))(hz:jF P e=V zs)(hr:aEx q Y y=V new)
  (aB:0<L new)(p:0<L zs)(aa:vg Y d=U)(af:∀r∈new,L r=L zs)(ax:(∀r∈bA,L r=L zs)/\(L bA+L new)*(mZ P e+1)<=lx):
  ∃v f T,(Builtin.append_ #[t,t] ty #[vs,vx]).run P w= .ok v f/\ba κ f (put Y d ⟨e,L zs,U,q,bA++new⟩) T v (.m (lA Y d)<|L bA+L new)/\zw P κ f (put Y d ⟨e,L zs,U,q,bA++new⟩) T/\dw w Y β f (put Y d ⟨e,L zs,U,q,bA++new⟩) T:=by
 obtain⟨i,z,hi,ae,ak,F,_⟩:=tF (κ:=κ) (w:=w) (Y:=Y) (β:=β) hz
 have M:=te aa
 obtain⟨G,S,cx,E,rfl,o⟩:=aoG s hx hr af p aB
 have N:=o.1
 have au:mZ P e=i.bytes:=by simp[mZ,hi]
 obtain⟨ag,ah⟩:=ax
 rw[au] at ah
 obtain⟨az,aA⟩:=QY ah
 obtain⟨Aq,c,rfl,hc,ay⟩:=AJ hs
 have av:=ay A
 subst av
 have key:∃b v' f,(Builtin.append_ #[t,t] ty #[.slice Aq (L bA)<|L bA, .slice (V ⟨G,S,J⟩) (L new) cx]).run P w= .ok v' f/\f.ownsRow w.heap.size e (L zs) v' (L bA+L new) (b++E)/\w.grownBy f J/\
   (∃C o',tK κ w Y β C o' (L zs) bA b):=by
  cases Aq with
  |none=>
   have aD:bA=[]:=by
    grind [ana]
   subst aD
   obtain⟨v',f,k1,k2,D,_⟩:=run_append_own (P:=P) w w.heap.size t ty e i z (L zs) i.bytes B hi ae F.symm A (by rw[ak,F]) p (.slice J 0 0) 0 [] (World.ownsRow_nil w _ _ _) ⟨G,S,J⟩ (L new) cx E N
    (λj u B=>by rw[a61];exact o.2.1 j u B) (λu B=>o.2.2.1 u B) Z Z<|dA _
   refine⟨[],v',f,k1,Z,by grind [Value.ownBlock],0,0,O,O,O,buh⟩
  |some a=>
   have ha:∃C o',a=⟨C,o',J⟩\/bA=[]:=by
    obtain h|⟨C,o',h⟩:=ana hs
    ·simp_all
    grind
   obtain⟨C,o',ha⟩:=ha
   have ab:∃b,(∃C o',tK κ w Y β C o' (L zs) bA b)/\∀j u,b[j]?=V u->w.cell? (a.add j)=V u:=by
    obtain rfl|rfl:=ha
    ·obtain⟨b,ho⟩:=amc hs ag p
     exact⟨b,⟨_,_,ho⟩,λj u B=>by rw[a61];exact ho.2.1 j u B⟩
    ·exact⟨[],⟨0,0,O,O,O,buh⟩,O⟩
   obtain⟨b,⟨b1,o1,R⟩,W⟩:=ab
   obtain⟨v',f,k1,k2,D⟩:=run_append_arg_grows (P:=P) w t ty e i z (L zs) i.bytes B hi ae F.symm A (by rw[ak,F]) p a (L bA) (L bA) b R.1 W ⟨G,S,J⟩ (L new) cx E N (λj u B=>by rw[a61];exact o.2.1 j u B) Z az aA
   grind
 obtain⟨b,v',f,k1,k2,D,b1,o1,R⟩:=key
 obtain⟨g,cap,cur,rfl,g1,g2,g3,g4,g5,g6⟩:=QE k2 Z
 have K:Below w.heap.size w f:=⟨D.os,D.tape,D.output,D.size,λk hk=>D.block k hk O⟩
 have ac:∀r∈bA++new,L r=L zs:=X
 have aw:=R.bA o ag af
 have am:q=I->∀i j y,db (bA++new) i j=V y->eN y=U:=(by grind [alQ,alR,Dh,aXZ])
 have ao:zw P κ f (put Y d ⟨e,L zs,U,q,bA++new⟩) (upd β (lA Y d) g):=by
  refine Et (cap:=cap) (cur:=cur) s K M g1 p (amG hz) ac am g2 g5 NA g4 (λi j y hy=>?_)
  grind
 refine⟨_,f,upd β (lA Y d) g,k1,?_,ao,um s K M g1⟩
 have:=ba.m1 (κ:=κ) (w:=f) (β:=upd β (lA Y d) g) (n:=L bA+L new) (cap:=cap) (cur:=cur) (iy (Y:=Y) (x:=⟨e,L zs,U,q,bA++new⟩) M) O (by rwa [gx]) g5 p
 grind [gx]
theorem avy{q t ty d n vs vx new zs b bx y}(s:zw P κ w Y β)(hs:ba κ w Y β vs<|.m b n)(hx:ba κ w Y β vx y)(h:box Y b=V bx)(f:P.underlying t=V (.slice bx.elem))(hz:jF P bx.elem=V zs)(hr:aEx q Y y=V new)
  (aC:0<L new)(l:0<L zs)(af:vg Y d=U)(al:∀r∈new,L r=L zs)(aN:bx.var=q)(aw:bx.size=L zs/\n<=L bx.bA/\(n+L new)*(mZ P bx.elem+1)<=lx):
  ∃v a aa,(Builtin.append_ #[t,t] ty #[vs,vx]).run P w= .ok v a/\ba κ a (put (kill Y b) d ⟨bx.elem,L zs,bx.own,q,bx.bA.take n++new⟩) aa v (.m (lA Y d)<|n+L new)/\zw P κ a (put (kill Y b) d ⟨bx.elem,L zs,bx.own,q,bx.bA.take n++new⟩) aa/\dw w Y β a (put (kill Y b) d ⟨bx.elem,L zs,bx.own,q,bx.bA.take n++new⟩) aa:=by
 obtain⟨i,z,hi,ay,aF,S,_⟩:=tF (κ:=κ) (w:=w) (Y:=Y) (β:=β) hz
 have M:=te af
 obtain⟨C,W,cx,p,rfl,e⟩:=aoG s hx hr al l aC
 have N:=e.1
 have av:mZ P bx.elem=i.bytes:=by simp[mZ,hi]
 obtain⟨B,hn,am⟩:=aw
 rw[av] at am
 obtain⟨az,aA⟩:=QY am
 obtain⟨c,D,rfl,_,hh,aK⟩:=oR hs h
 obtain⟨aI,an,aQ,f1,f2,f3,f4,rfl,hf⟩:=KY s h (nZ hs h) hn
 rw[hh] at f1
 simp only[aOe,Obj.cells.injEq,aRI] at f1
 subst f1
 have ax:c=an:=(by grind [aq6,nZ])
 subst ax
 have R:w.ownsRow 0 bx.elem (L zs) (.slice (V ⟨β b,0,J⟩) n c) n (D.toList.take<|n*bx.size):=by
  refine⟨by rw[<-B,hf.1,gC,rD hn],X⟩
 have key:∃v' a g cap cur,(Builtin.append_ #[t,t] ty #[.slice (V ⟨β b,0,J⟩) n c, .slice (V ⟨C,W,J⟩) (L new) cx]).run P w= .ok v' a/\v'= .slice (V ⟨g,0,J⟩) (n+L new) cap/\w.grownBy a (V<|β b)/\(w.heap.size<=g\/g=β b)/\
   a.heap[g]?=V (.cells cur bx.elem (0,0))/\n+L new<=cap/\cap<=maxLen/\cur.size=cap*L zs/\cur.toList.take ((n+L new)*L zs)=D.toList.take (n*bx.size)++p:=by
  by_cases ag:n+L new<=c
  ·obtain⟨a,T,k2,o⟩:=run_append_fits (P:=P) w 0 t ty bx.elem i (L zs) f hi S.symm (β b) n c _ R ⟨C,W,J⟩ (L new) cx p N (λj u f=>by rw[a61];exact e.2.1 j u f) (λu f=>e.2.2.1 u f) ag
   obtain⟨g,cap,cur,e1,g1,E,g3,F,G,g6⟩:=QE k2 Z
   simp only[Value.slice.injEq,aOe,Addr.mk.injEq,nJ] at e1
   obtain⟨e1,e2⟩:=e1
   subst e1 e2
   exact⟨_,a,β b,c,cur,T,A,o, .inr A,E,g3,F,G,g6⟩
  ·obtain⟨v',a,T,k2,o⟩:=run_append_arg_grows (P:=P) w t ty bx.elem i z (L zs) i.bytes f hi ay S.symm A (by rw[aF,S]) l ⟨β b,0,J⟩ n c _ R.1 (λj u f=>by rw[a61];exact hf.2.1 j u f) ⟨C,W,J⟩ (L new) cx p N (λj u f=>by rw[a61];exact e.2.1 j u f) Z az aA
   obtain⟨g,cap,cur,rfl,g1,E,g3,F,G,g6⟩:=QE k2 Z
   exact⟨_,a,g,cap,cur,T,A,⟨o.os,o.tape,o.output,o.size,λk hk _=>o.block k hk O⟩, .inl g1,E,g3,F,G,g6⟩
 obtain⟨v',a,g,cap,cur,T,rfl,ak,K,E,g3,F,G,g6⟩:=key
 have aE:∀r∈bx.bA.take n,L r=L zs:=λr hr=>by rw[<-B];exact((s.ok b bx h).cl<|nZ hs h).rl r X
 rw[B] at hf
 have:=hf.bA e aE al
 have ap:q=I->∀i j y,db (bx.bA.take n++new) i j=V y->eN y=U:=λhq=>alQ (Dh (bA:=bx.bA.take n) s hs<|by grind [gL]) (by grind [Dh,aXZ])
 have ah:∀r∈bx.bA.take n++new,L r=bx.size:=X
 have ar:zw P κ a (put (kill Y b) d ⟨bx.elem,L zs,bx.own,q,bx.bA.take n++new⟩) (upd β (lA Y d) g):=by
  refine aIi (x:=bx) (x':=⟨bx.elem,L zs,bx.own,q,bx.bA.take n++new⟩) (cap:=cap) (cur:=cur) s h M ak K B.symm A rfl ah ap (nZ hs h) E vB NA F (λi j y hy=>?_)
  grind
 refine⟨_,a,upd β (lA Y d) g,T,?_,ar,al1 s h M ak K⟩
 have:=ba.m1 (κ:=κ) (w:=a) (β:=upd β (lA Y d) g) (n:=n+L new) (cap:=cap) (cur:=cur) (awB (x':=⟨bx.elem,L zs,bx.own,q,bx.bA.take n++new⟩) h M) NA (by rwa [gx]) G l
 grind [gx]
theorem avw{q t ty d vs vx x y av Y'}(s:zw P κ w Y β)(hs:ba κ w Y β vs x)(N:ba κ w Y β vx y)(h:tV q P Y d t x y=V (av,Y')):∃v E p,(Builtin.append_ #[t,t] ty #[vs,vx]).run P w= .ok v E/\ba κ E Y' p v av/\zw P κ E Y' p/\dw w Y β E Y' p:=by unfold tV at h;cases C:P.underlying t with|none=>grind|some S=>(cases S<;>simp only[C] at h<;>first|(cases h;done)|skip);rename_i e;cases D:jF P e with|none=>grind|some zs=>cases B:aEx q Y y with|none=>simp_all|some new=>simp only[D,B] at h;by_cases G:L new=0;rw[zg G] at h;obtain⟨i,z,hi,af,ah,ag,_⟩:=tF (κ:=κ) (w:=w) (Y:=Y) (β:=β) D;have ab:(sizeOf e).run P w= .ok i.size w:=(by simp[sizeOf,typeInfo,hi]);obtain⟨R,cx,rfl⟩:=aH3 N B G;have o:∀(u:Option Addr) (n c:Nat),n<=c->(Builtin.append_ #[t,t] ty #[.slice u n c, .slice R 0 cx]).run P w= .ok (.slice u n c) w:=(λu n c aa=>by cases u<;>cases R<;>simp[Builtin.append_,run_underlying C,ab,Builtin.lenOf,aa,Builtin.firstCells,loadCells,loadCellsFrom,storeCells]);(cases x with|l bA f own=>grind [aOe,iK,AJ,dw.refl]|m b n=>simp only at h;(cases g:box Y b with|none=>simp_all|some bx=>rw[g] at h;simp only[df,aOe,iK] at h;obtain⟨rfl,rfl⟩:=h;obtain⟨cap,cur,rfl,hn,hh,K⟩:=oR hs g;have:=boa s g hh K;grind [dw.refl])|_=>simp at h);rw[za G] at h;by_cases T:0<L zs/\vg Y d=U/\(∀r∈new,L r=L zs);rw[zg T] at h;obtain⟨k,a,F⟩:=T;(cases x with|l bA f own=>(cases f with|false=>simp at h|true=>simp only at h;split at h;rename_i W;simp only[aOe,iK] at h;obtain⟨rfl,rfl⟩:=h;exact avx s hs N C D B Z k a F W;cases h)|m b n=>simp only at h;(cases g:box Y b with|none=>simp_all|some bx=>rw[g] at h;simp only at h;split at h;rename_i j;simp only[aOe,iK] at h;obtain⟨rfl,rfl⟩:=h;obtain⟨rfl,M,j⟩:=j;exact avy s hs N g C D B Z k a F M j;cases h)|_=>simp at h);simp_all
end
section
variable{P:Program}{κ:Ctx}{w:World}{Y:ae}{β:Id->Nat}
theorem CX(w)(o):Below w.heap.size w (w.alloc o):=(Below.refl _ _).alloc (dA _) _
def ak8(w:World)(o):(w.alloc o).heap[w.heap.size]?=V o:=(MapKept.heap_alloc w o).1
theorem aD5{t d av Y'}(s:zw P κ w Y β)(h:oS t Y d=V (av,Y')):∃v b a,(Instr.makeMap t J).run P w= .ok v b/\ba κ b Y' a v av/\zw P κ b Y' a/\dw w Y β b Y' a:=by unfold oS at h;split at h;rename_i e;simp only[aOe,iK] at h;obtain⟨rfl,rfl⟩:=h;have c:=te e;refine⟨.map<|V w.heap.size,w.alloc<|.map #[] 0,upd β (lA Y d) w.heap.size,?_,?_,?_,?_⟩;simp[Instr.makeMap];exact .g1 (iy c) (.inl ⟨A,A,by rw[gx]⟩);exact aow s (CX _ _) c (dA _) A (.inl ⟨A,[],A,A,by rw[ak8];rfl⟩);grind [um,CX];cases h
theorem aDt(p):∀(a) (j),oQ j (a++[p])=oQ j a++[⟨p.1,p.2,j+L a⟩]:=λa=>by induction a with|nil=>intro j;rfl|cons q a b=>grind [oQ,bZ]
def bxu(p):∀(a) (i j),oQ j (a.set i p)=(oQ j a).modify i λe=>{e with key:=p.1,val:=p.2}
 |[],i,j=>by cases i<;>rfl
 |q::a,0,j=>rfl
 |q::a,i+1,j=>by simp only[List.set_cons_succ,oQ,bxu p a i<|j+1,List.modify_succ_cons]
def bxt:∀(a) (i j:Nat),((oQ j a)[i]?).map (·.key)=(a[i]?).map (·.1)
 |[],i,j=>rfl
 |q::a,0,j=>rfl
 |q::a,i+1,j=>by simp only[oQ,List.getElem?_cons_succ,bxt a i<|j+1]
theorem apL{b o o'}(h:w.heap[b]?=V o):vM w {w with heap:=w.heap.setIfInBounds b o'} b/\(w.heap.setIfInBounds b o')[b]?=V o':=⟨⟨A,A,A,O,X⟩,(MapKept.heap_set h).1⟩
theorem aD9{t mt vx a vv x k v Y'}(s:zw P κ w Y β)(hm:a6q P t=V mt)(m:ba κ w Y β vx x)(N:ba κ w Y β a k)(T:ba κ w Y β vv v)(h:muA mt Y x k v=V Y'):∃M,(Instr.mapUpdate t vx a vv).run P w= .ok () M/\zw P κ M Y' β/\dw w Y β M Y' β:=by obtain⟨W,e,i,S,af,hz,ag,z⟩:=ano hm;unfold muA at h;split at h;rename_i b _ _ kv ah D;split at h;rename_i bx d;split at h;rename_i c C;split at h;rename_i j;split at h;rename_i G;simp only[aOe] at h;subst h;obtain⟨rfl,r⟩:=amp m d;obtain⟨f,u,_,p,l⟩:=alT s d C;obtain⟨rfl,g⟩:=am5 N D;obtain⟨rfl,E⟩:=T.s_inv;have F:∀n,(Instr.checkKey n 10000 W a).run P w= .ok () w:=λn=>alL (t:=t) (e:=e) z j;have o:=KV (w:=w) z j g u G;obtain⟨B,K⟩:=apL (o':= .map (oQ 0<|c++[(a,vv)]).toArray<|L<|c++[(a,vv)]) f;refine⟨_,?_,aoy s d B r A rfl (by rw[l];rfl) A<|.inl ⟨p,c++[(a,vv)],A,?_,K⟩,by grind [KO]⟩;simp[Instr.mapUpdate,run_underlying S,MapKept.run_getObj_map f,F,o,MapKept.run_setObj_map _ f,aDt];grind [uK];rename_i q G;split at h;rename_i hs;simp only[aOe] at h;subst h;obtain⟨rfl,r⟩:=amp m d;obtain⟨f,u,_,p,l⟩:=alT s d C;obtain⟨rfl,g⟩:=am5 N D;obtain⟨rfl,E⟩:=T.s_inv;have F:∀n,(Instr.checkKey n 10000 W a).run P w= .ok () w:=λn=>alL (t:=t) (e:=e) z j;have o:=KV (w:=w) z j g u G;obtain⟨y,hy,hs⟩:=(Option.any_eq_true _ _).1 hs;have hg:((oQ 0 c)[q.1]?).map (·.key)=V y.1:=(by rw[bxt,hy];rfl);have R:(Instr.keyThatStays y.1 a).run P w= .ok a w:=(by simp[Instr.keyThatStays,hs]);obtain⟨B,K⟩:=apL (o':= .map (oQ 0<|c.set q.1 (a,vv)).toArray<|L<|c.set q.1 (a,vv)) f;refine⟨_,?_,aoy s d B r A rfl (by rw[l];rfl) A<|.inl ⟨p,c.set q.1 (a,vv),A,?_,K⟩,KO s d B r A rfl<|by rw[l];rfl⟩;obtain⟨q1,q2⟩:=q;simp[Instr.mapUpdate,run_underlying S,MapKept.run_getObj_map f,F,o,hg,R,MapKept.run_setObj_map _ f,bxu];refine dV.2 λx m=>?_;obtain m|rfl:=CC m;exact dV.1 u x m;simp only[uK,E,g,Bool.and_true];(cases h);(cases h);(cases h);(cases h);(cases h);cases h
theorem aFk{t d f x av Y'}(s:zw P κ w Y β)(i:P.underlying t=V .string)(j:ba κ w Y β f x)(h:tu Y d x=V (av,Y')):∃v b a,(Instr.range t f).run P w= .ok v b/\ba κ b Y' a v av/\zw P κ b Y' a/\dw w Y β b Y' a:=by unfold tu at h;split at h;rename_i c;split at h;rename_i g;simp only[aOe,iK] at h;obtain⟨rfl,rfl⟩:=h;have e:=te g;obtain⟨rfl,_⟩:=j.s_inv;refine⟨.pointer<|V ⟨w.heap.size,0,J⟩,w.alloc<|.stringIter c 0,upd β (lA Y d) w.heap.size,?_,?_,?_,?_⟩;simp[Instr.range,run_underlying i];exact .g1 (iy e) (.inr<|.inl ⟨A,A,by rw[gx]⟩);exact aow s (CX _ _) e (dA _) A (.inr ⟨A,c,0,A,by rw[ak8]⟩);grind [um,CX];(cases h);cases h
def aoo{r a p}(b:w.heap[r]?=V (.stringIter a p)):(getObj r).run P w= .ok (.stringIter a p) w:=by simp[getObj,Sem.run,b]
def aIb{r a p}(o)(b:w.heap[r]?=V (.stringIter a p)):(setObj r o).run P w= .ok () {w with heap:=w.heap.setIfInBounds r o}:=by simp[setObj,Sem.run,b]
theorem aEz{t p x av Y'}(s:zw P κ w Y β)(y:ba κ w Y β p x)(h:se Y x=V (av,Y')):∃v k,(Instr.next p U t).run P w= .ok v k/\ba κ k Y' β v av/\zw P κ k Y' β/\dw w Y β k Y' β:=by unfold se at h;split at h;rename_i b _ _;split at h;rename_i bx m;split at h;rename_i o;obtain⟨rfl,q⟩:=aBu y m;obtain⟨a,_⟩|⟨_,f,d,l,j⟩:=(s.ok b bx m).sp o.1;simp_all;rw[l] at h;simp only[bh] at h;split at h;rename_i g;simp only[aOe,iK] at h;obtain⟨rfl,rfl⟩:=h;obtain⟨u,r⟩:=apL (o':= .stringIter f<|d+(Utf8.decode f d).2) j;refine⟨.tuple #[.bool U, .int .i64 d, .int .i32 (Utf8.decode f d).1],_,?_,?_,aoy s m u q A rfl (by rw[l];rfl) A<|.inr ⟨o.2,f,_,A,r⟩,by grind [KO]⟩;simp[Instr.next,aoo j,g,aIb _ j,goInt];refine .t (vs:=[.bool U, .int .i64 d, .int .i32 (Utf8.decode f d).1]) A (λi v c a e=>?_);(match i with|0=>simp at a e;subst a;subst e;exact .s A|1=>simp at a e;subst a;subst e;exact .s A|2=>simp at a e;subst a;subst e;exact .s A|n+3=>simp at a);rename_i g;simp only[aOe,iK] at h;obtain⟨rfl,rfl⟩:=h;refine⟨.tuple #[.bool I],w,?_,?_,s,dw.refl _ _ _⟩;simp[Instr.next,aoo j,g];refine .t (vs:=[.bool I]) A (λi v c a e=>?_);(match i with|0=>simp at a e;subst a;subst e;exact .s A|n+1=>simp at a);(cases h);(cases h);cases h
theorem axm{t z}(h:xD P t=V z):∃e i,P.underlying t=V (.slice e)/\P.info? e=V i/\i.zero=V z/\i.size=1/\sc z=U:=by unfold xD at h;split at h;rename_i e b;(cases a:P.info? e with|none=>simp_all|some i=>grind [fG,aOe]);cases h
theorem aIe{z}(h:sc z=U):z.cells=#[z]:=by cases z<;>first|rfl|grind [sc]
theorem aNl(z)(n):Builtin.zeroCells #[z] n=(er n z).toArray:=by grind [Array.ext,Builtin.zeroCells]
theorem axh{t z vx x Y' ty}(s:zw P κ w Y β)(ht:xD P t=V z)(W:ba κ w Y β vx x)(h:pA z Y x=V Y'):∃S,(Builtin.clear_ #[t] ty #[vx]).run P w= .ok (.tuple #[]) S/\zw P κ S Y' β/\dw w Y β S Y' β:=by obtain⟨e,i,N,hi,hz,ap,hs⟩:=axm ht;unfold pA at h;split at h;(cases h);refine⟨w,?_,s,dw.refl _ _ _⟩;(cases W with|@l0 Aq c _ _ _=>(cases Aq<;>simp[Builtin.clear_,run_underlying N])|l1 ho nf hd g hn ao=>simp_all);rename_i b o n;split at h;rename_i bx q;split at h;rename_i f;obtain⟨f,an⟩:=f;(cases h);obtain⟨cap,rfl,hp,am⟩:=Lf W q;have k:=(s.ok b bx q).cl hp;obtain⟨cur,cp,C,q2,q3,q4,q5⟩:=k.ex;rw[f] at q2;simp only[f,zx] at q2 q5⊢;have G:=run_storeCells_at P (β b) o bx.elem (er n z) 0 cur w C NA (λu N=>by rw[RJ N];exact AF hs);simp only[kP,oA] at G;generalize ad:(cur.toList.take o++er n z++cur.toList.drop (o+n)).toArray=d at G;have K:∀m,d[m]?=if o<=m/\m<o+n then V z else cur[m]?:=(by grind [Bn,er,oA]);have l:∀m,(bx.bA.take o++er n [AV.s z]++bx.bA.drop (o+n))[m]?=if o<=m/\m<o+n then V [AV.s z] else bx.bA[m]?:=(by grind [Bn,er,oA]);have D:d.size=cur.size:=X;have E:=setRow_heap w (β b) cur d bx.elem (0,0) C;have T:vM w (w.setRow (β b) d) (β b):=⟨A,A,A,aou _ _ _,by grind [aot]⟩;have F:L (bx.bA.take o++er n [AV.s z]++bx.bA.drop (o+n))=L bx.bA:=NA;refine⟨w.setRow (β b) d,?_,?_,?_⟩;(cases n with|zero=>omega|succ n=>simp_all [Builtin.clear_,run_underlying,zeroValue,typeInfo,aIe,aNl]);refine aox (x:=bx) (x':=⟨bx.elem,1,bx.own,bx.var,bx.bA.take o++er n [.s z]++bx.bA.drop (o+n)⟩) s q T f.symm A rfl F (λr M=>?_) ?_ C E D (cap:=cp) vB q3 q4 (λB p y a=>?_);obtain⟨m,v⟩:=aqN M;rw[l] at v;split at v;grind;exact k.rl r X;intro R B p y a;unfold db at a;rw[l] at a;split at a;simp only[a6X] at a;rw[cE.1<|fC a];rfl;exact k.dt R B p y a;dsimp only at a;rw[f,zx,K];unfold db at a;rw[l] at a;split at a;rename_i v;simp only[a6X] at a;have hj:p=0:=X;subst hj;simp at a;subst a;rw[zg Z];exact⟨z,A,AF hs, .s hs⟩;rename_i v;obtain rfl:p=0:=(by have hl:=zO (size:=bx.size) (λr M=>k.rl r M) (i:=B) (j:=p) (x:=y) a;omega);rw[za Z];exact q5 B 0 y a;exact KN (x:=bx) (x':=⟨bx.elem,1,bx.own,bx.var,bx.bA.take o++er n [.s z]++bx.bA.drop (o+n)⟩) s q T f.symm A F C E D;(cases h);(cases h);cases h
def H{p:Prop}(h:p:=by decide):p:=h
def by7{t t' ty:TypeId}{vx vy:Value}{x y av:AV}{Y':ae}(s:zw P κ w Y β)(T:cyT P t t'=U)(hx:ba κ w Y β vx x)(hy:ba κ w Y β vy y)(h:cyA Y x y=V (av,Y')):
  ∃v w',(Builtin.copy_ #[t,t'] ty #[vx,vy]).run P w= .ok v w'/\ba κ w' Y' β v av/\zw P κ w' Y' β/\dw w Y β w' Y' β:=by
 unfold cyT at T
 split at T
 ·rename_i e e' W a0
  have o:=aNQ T
  unfold fG at o
  cases hi:P.info? e with
  |none=>rw[hi] at o;cases o
  |some i=>
  rw[hi] at o
  have aD:i.size=1:=xu o
  have ag:(sizeOf e).run P w= .ok 1 w:=by simp[sizeOf,typeInfo,hi,aD]
  unfold cyA at h
  split at h
  ·rename_i b n new _ _
   split at h
   ·rename_i bx G
    split at h
    ·rename_i g
     obtain⟨g,ah⟩:=g
     simp only[aOe,iK] at h
     obtain⟨rfl,rfl⟩:=h
     obtain⟨cap,cur,rfl,hn,R,aT⟩:=oR hx G
     obtain⟨Aq,c,rfl,aZ,_⟩:=AJ hy
     by_cases z:min (L new) n=0
     ·rw[zg z]
      refine⟨.int .i64 0,w,?_,by rw[z];exact .s A,s,dw.refl _ _ _⟩
      have K:Nat.min (L new) n=0:=z
      cases Aq<;>simp[Builtin.copy_,run_underlying W,ag,Builtin.lenOf,K,Builtin.firstCells,loadCells,loadCellsFrom,storeCells,goInt]
     ·rw[za z]
      have hp:=nZ hx G
      have D:=(s.ok b bx G).cl hp
      obtain⟨aN,cp,S,q2,q3,q4,q5⟩:=D.ex
      rw[R] at S
      simp only[aOe,Obj.cells.injEq,aRI] at S
      subst S
      rw[g] at q2
      simp only[g,zx] at q2 q5⊢
      have M:∀r∈new,L r=1:=λr l=>by
       have:=dV.1 ah r l
       unfold scR at this
       split at this
       ·rfl
       ·cases this
      obtain⟨ar,aE,c',d,e1,f1,f2,f3,f4⟩:=aoG (q:=I) (size:=1) s hy A M H Z
      cases e1
      generalize ay:min (L new) n=k at z⊢
      have K:Nat.min (L new) n=k:=ay
      have aX:k<=L d:=Z
      have aY:k<=L bx.bA:=Z
      have aw:=run_firstCells_some (P:=P) w 1 k ⟨ar,aE,J⟩ (L new) c (d.take k) NA (λj u p=>by
       rw[a61]
       refine f2 j u ?_
       rw[bwE] at p
       split at p
       ·exact p
       ·cases p)
      have N:=run_storeCells_at P (β b) 0 bx.elem (d.take k) 0 cur w R NA (λu W=>f3 u<|bnL W)
      have ak:L (d.take k)=k:=NA
      simp only[aj,kP,ak] at N
      generalize C:(cur.toList.take 0++d.take k++cur.toList.drop k).toArray=f at N
      have al:∀m,f[m]?=if m<k then d[m]? else cur[m]?:=by
       intro m
       have:=Bn cur.toList (d.take k) 0 m NA
       rw[ak] at this
       simp only[aj,mh,Cq,ara] at this
       rw[<-C,RR,this]
       split
       ·rw[bwE,zg<|by assumption]
       ·simp
      have ac:∀m,(new.take k++bx.bA.drop k)[m]?=if m<k then new[m]? else bx.bA[m]?:=by
       intro m
       have:=Bn bx.bA (new.take k) 0 m NA
       have aq:L (new.take k)=k:=NA
       rw[aq] at this
       simp only[aj,mh,Cq,ara,CE,dW] at this
       rw[this]
       split
       ·rw[bwE,zg<|by assumption]
       ·rfl
      have ab:f.size=cur.size:=by rw[<-C];simp;omega
      have ad:=setRow_heap w (β b) cur f bx.elem (0,0) R
      have hw:vM w (w.setRow (β b) f) (β b):=⟨A,A,A,aou _ _ _,λk z=>aot _ _ _ _ z⟩
      have af:L (new.take k++bx.bA.drop k)=L bx.bA:=NA
      refine⟨.int .i64 (k:Nat),w.setRow (β b) f,?_, .s A,?_,?_⟩
      ·have aA:dq.wrap (k:Int)=k:=by
        rw[IntKind.wrap_i64]
        have:=q4
        simp only[maxLen] at this
        omega
       simp[Builtin.copy_,run_underlying W,ag,Builtin.lenOf,K,aw,N,goInt,aA]
      ·refine aox (x:=bx) (x':=⟨bx.elem,1,bx.own,bx.var,new.take k++bx.bA.drop k⟩) s G hw g.symm A rfl af (λr l=>?_) ?_ R ad ab (cap:=cp) (by rwa [g,zx]) q3 q4 (λB E F a=>?_)
       ·rw[g]
        obtain h|h:=dF.1 l
        ·exact M r (bnL h)
        ·rw[<-g];exact D.rl r<|CB h
       ·intro ap B E F a
        unfold db at a
        rw[ac] at a
        split at a
        ·have ao:=λr l=>dV.1 ah r l
         cases l:new[B]? with
         |none=>rw[l] at a;cases a
         |some r=>
          rw[l] at a
          have:=ao r<|fC l
          unfold scR at this
          split at this
          ·simp only[a6X] at a
           rw[cE.1<|fC a];rfl
          ·cases this
        ·exact D.dt ap B E F a
       ·dsimp only at a
        rw[g,zx,al]
        unfold db at a
        rw[ac] at a
        split at a
        ·rename_i hm
         have p:=zO (size:=1) M (i:=B) (j:=E) (x:=F) a
         have ax:E=0:=Z
         subst ax
         rw[zg<|by simpa using hm]
         obtain⟨u,g1,g2⟩:=f4 B 0 F a
         rw[zx] at g1
         exact⟨u,g1,f3 u<|fC g1,g2⟩
        ·rename_i hm
         have p:E=0:=by
          have hl:=zO (size:=bx.size) (λr l=>D.rl r l) (i:=B) (j:=E) (x:=F) a
          rw[g] at hl
          omega
         subst p
         rw[za<|by simpa using hm]
         exact q5 B 0 F a
      ·exact KN (x:=bx) (x':=⟨bx.elem,1,bx.own,bx.var,new.take k++bx.bA.drop k⟩) s G hw g.symm A af R ad ab
    ·cases h
   ·cases h
  ·cases h
 ·cases T
end
section
variable{P:Program}{κ:Ctx}{w:World}{Y:ae}{β:Id->Nat}
theorem alk{zs l i j y}(h:db (er l zs) i j=V y):i<l/\zs[j]?=V y:=buh
theorem aIM(v):tz (gK<|ui v)=ui v:=by unfold ui;split<;>first|rfl|(split<;>rfl)
theorem aEc{t zs}(h:aOy P t=V zs):∃(i:TypeInfo) (z:Value),P.info? t=V i/\i.zero=V z/\z.cells.size=i.size/\L zs=i.size/\CR κ w Y β z.cells.toList (mz zs):=by obtain⟨i,z,a,b,f,g,j⟩:=Rw (κ:=κ) (w:=w) (Y:=Y) (β:=β) h;refine⟨i,z,a,b,f,g,?_⟩;unfold mz;cases k:uj zs with|false=>exact j|true=>show CR κ w Y β z.cells.toList<|zs.map tz;unfold aOy at h;cases c:jF P t with|none=>simp_all|some ys=>rw[c] at h;simp only[df,aOe] at h;subst h;obtain⟨l,p,d,e,m,n,o⟩:=tF (κ:=κ) (w:=w) (Y:=Y) (β:=β) c;rw[a] at d;cases d;rw[b] at e;cases e;have:(ys.map gK).map tz=ys:=(by rw[List.map_map];grind [brw,ja,jF,aOe,aIM]);simp_all
theorem bdQ{q:Operand->Value}{E:Operand->AV}(s:zw P κ w Y β)(M:∀x,ba κ w Y β (q x)<|E x){t len d}{a:List (Nat×Operand)}{av Y'}(h:lvA P Y d t len (a.map λp=>(p.1,E p.2))=V (av,Y')):
  ∃v k f,(Instr.buildSlice t len (a.map λp=>(p.1,q p.2)).toArray).run P w= .ok v k/\ba κ k Y' f v av/\zw P κ k Y' f/\dw w Y β k Y' f:=by
 unfold lvA at h
 split at h
 ·rename_i e x W hp
  split at h
  ·rename_i cs zs hc D
   split at h
   ·rename_i S
    simp only[aOe,iK] at h
    obtain⟨rfl,rfl⟩:=h
    obtain⟨rfl,r,c,aa,g⟩:=S
    have l:=te g
    obtain⟨i,z,F,G,ab,ac,K⟩:=Rw (κ:=κ) (w:=w) (Y:=Y) (β:=β) D
    have R:aly (λi=>V (i*L zs,L zs)) ((er 1 zs).flatten) (a.map λp=>(p.1,E p.2))=V cs:=by
     grind [aly]
    obtain⟨vs,h4,b⟩:=aTa M a _ _ _ (K.rep 1) R
    have m:L z.cells.toList=i.size:=Z
    have o:Below w.heap.size w (w.alloc<|.cells vs.toArray e):=(Below.refl _ _).alloc (dA _) _
    have T:=run_buildSlice (P:=P) w t e 1 (a.map λp=>(p.1,q p.2)).toArray vs.toArray i z W F G Z Z (by
     rw[<-m,show z.cells=z.cells.toList.toArray by simp,an4,m]
     simp_all)
    have N:=heap_alloc_new w<|.cells vs.toArray e
    refine⟨_,_,upd β (lA Y d) w.heap.size,T,?_,?_,by grind [um]⟩
    ·have:=ba.m1 (κ:=κ) (w:=w.alloc<|.cells vs.toArray e) (β:=upd β (lA Y d) w.heap.size) (n:=1) (cap:=1) (cur:=vs.toArray) (iy (Y:=Y) (x:=⟨e,L zs,U,U,[cs]⟩) l) O (by rwa [gx]) (by have:=b.1;simp;omega) c
     grind [gx]
    ·refine Et (cap:=1) (cur:=vs.toArray) s o l (dA _) c (aB5 D) (by simp[r]) (λh=>by cases h) N (by have:=b.1;simp;omega) O H (λi j y hy=>?_)
     have u:i=0:=by
      grind [db]
     subst u
     have C:cs[j]?=V y:=buh
     have B:j<L vs:=by rw[b.1];grind
     exact⟨vs[j],by simp[B],b.2.1 _<|qj B,b.2.2 j _ _ O C⟩
   ·cases h
  ·cases h
 ·cases h
def aDZ{t d l c kl kc av Y'}(s:zw P κ w Y β)(h:wA P Y d t l c=V (av,Y')):
  ∃v F B,(Instr.makeSlice t (.int kl l)<|.int kc c).run P w= .ok v F/\ba κ F Y' B v av/\zw P κ F Y' B/\dw w Y β F Y' B:=by
 unfold wA at h
 split at h
 ·rename_i e hu
  split at h
  ·rename_i zs hz
   split at h
   ·rename_i hc
    simp only[aOe,iK] at h
    obtain⟨rfl,rfl⟩:=h
    obtain⟨ae,af,o,ak,C,E⟩:=hc
    have m:=te C
    obtain⟨i,z,hi,ad,u,R,G⟩:=aEc (κ:=κ) (w:=w) (Y:=Y) (β:=β) hz
    have ab:mZ P e=i.bytes:=by simp[mZ,hi]
    rw[ab] at E
    obtain⟨f,rfl⟩:=Int.eq_ofNat_of_zero_le (show 0<=c by omega)
    have p:f*(i.bytes+1)<=lx:=by
     have:((f*(i.bytes+1):Nat):Int)<=(lx:Int):=by
      rwa [RE,Gw]
     omega
    obtain⟨M,an⟩:=QY p
    have D:=run_make (P:=P) w t e i z hu hi ad kl kc l f ae af (by
     have:((i.bytes*f:Nat):Int)<=281474976710656:=by rw[vD];omega
     rw[RE] at this;exact this) (by simp only[maxLen] at M;omega)
    have j:Below w.heap.size w (w.alloc<|.cells (madeCells z.cells<|f*i.size) e):=(Below.refl _ _).alloc (dA _) _
    have k:madeCells z.cells (f*i.size)=(er f z.cells.toList).flatten.toArray:=by
     have:=an4 z.cells.toList f
     simp only[Rz,u,Array.toArray_toList] at this
     unfold madeCells
     rw[<-this,u]
    have T:=heap_alloc_new w<|.cells (madeCells z.cells<|f*i.size) e
    simp only[bh] at D
    have N:(madeCells z.cells<|f*i.size).size=f*L zs:=by rw[size_madeCells,R]
    refine⟨_,_,upd β (lA Y d) w.heap.size,D,?_,?_,um s j m<|dA _⟩
    ·have:=ba.m1 (κ:=κ) (w:=w.alloc<|.cells (madeCells z.cells<|f*i.size) e) (β:=upd β (lA Y d) w.heap.size) (n:=l.toNat) (cap:=f) (iy (Y:=Y) (x:=⟨e,L zs,U,uj zs,er l.toNat<|mz zs⟩) m) O (by rwa [gx]) N o
     rw[gx] at this
     exact this
    ·refine Et (cap:=f) s j m (dA _) o (aB5 hz) (λr D=>by rw[RJ D,anv]) (λq a b y W=>by have g:=(alk W).2;simp only at q;simp only[mz,q,bih] at g;exact dV.1 ak y<|fC g) T N NA M (λa b y W=>?_)
     obtain⟨h1,g⟩:=alk W
     have hb:=(mg.1 g).1
     rw[anv] at hb
     have K:L z.cells.toList=L zs:=by simp[u,R]
     have ag:a*L zs+b<f*L z.cells.toList:=by
      rw[K]
      have:=qo (L zs) (show a+1<=f by omega)
      rw[tN] at this;omega
     have S:(a*L zs+b)%L z.cells.toList=b:=by rw[K,vD,aq9,aYD hb]
     have q:z.cells.toList[b]?=V (z.cells.toList[b]'(by omega)):=eC _
     refine⟨z.cells.toList[b]'(by omega),?_,G.2.1 _<|qj _,G.2.2 b _ y q g⟩
     rw[k,RR,aoe _ _ _ ag,S,q]
   ·cases h
  ·cases h
 ·cases h
def bz1{P}(w)(t l ty e)(i)(z)(k B)(x:P.underlying t=V (.slice e))(b:P.underlying l=V (.int B))(r:P.info? e=V i)(y:i.zero=V z)(m)(n:Nat)(o:0<n)(hs:0<i.size)(q:(n:Int)<=9223372036854775807)(p:n*i.bytes<=281474976710656):(Builtin.append_ #[t,l] ty #[.slice m 0 0, .int k n]).run P w= .ok (.slice (V ⟨w.heap.size,0,J⟩) n<|grownCap w n 0 e) (w.drew.alloc<|.cells (Builtin.zeroCells z.cells n++Builtin.zeroCells z.cells (grownCap w n 0 e-n)) e):=by cases m with|none=>exact Lib.run_append_nil_zeros w t l ty e i z k B x b r y n o hs q p|some a=>have s:n≠0:=Z;have D:dq.wrap (n:Int)=n:=(by rw[IntKind.wrap_i64];omega);have f:¬(9223372036854775807<(n:Int)):=Z;have c:¬(281474976710656<Builtin.nextslicecap n 0*i.bytes):=(by rw[nextslicecap_zero o];omega);have d:¬(281474976710656<(n:Int)*(i.bytes:Int)):=(by rw[<-RE];omega);have g:¬((n:Int)<0):=Z;have u:¬(n*i.size=0):=Nat.mul_ne_zero s Z;have C:=run_firstCells_some (P:=P) w.drew i.size 0 a 0 0 [] O (λj v h=>by simp at h);simp[Builtin.append_,run_underlying x,run_underlying b,sizeOf,typeInfo,zeroValue,r,y,asInt,asIntOf,D,s,g,u,f,c,d,Question.forced,C,newRow,grownCap]
def byr(z)(n):Builtin.zeroCells z n=(er n z.toList).flatten.toArray:=by have:=an4 z.toList n;simpa[Builtin.zeroCells] using this
def byU{t W ty d vs vx x y av Y'}(s:zw P κ w Y β)(hs:ba κ w Y β vs x)(hx:ba κ w Y β vx y)(h:bt1 P Y d t W x y=V (av,Y')):∃v E B,(Builtin.append_ #[t,W] ty #[vs,vx]).run P w= .ok v E/\ba κ E Y' B v av/\zw P κ E Y' B/\dw w Y β E Y' B:=by unfold bt1 at h;split at h;rename_i own kl l;split at h;rename_i kn ah;split at h;rename_i aA;obtain⟨Aq,c,rfl,_,ad⟩:=AJ hs;have ac:=ad A;subst ac;have ak:=hx.s_inv.1;subst ak;unfold wA at h;split at h;rename_i e hu;split at h;rename_i zs hz;split at h;rename_i hc;simp only[aOe,iK] at h;obtain⟨rfl,rfl⟩:=h;obtain⟨_,_,o,am,C,D⟩:=hc;have k:=te C;obtain⟨i,z,hi,af,ao,an,G⟩:=aEc (κ:=κ) (w:=w) (Y:=Y) (β:=β) hz;have ab:mZ P e=i.bytes:=(by simp[mZ,hi]);rw[ab] at D;obtain⟨n,rfl⟩:=Int.eq_ofNat_of_zero_le (show 0<=l by omega);have q:n*(i.bytes+1)<=lx:=(by have:((n*(i.bytes+1):Nat):Int)<=(lx:Int):=(by rwa [RE,Gw]);omega);obtain⟨M,aB⟩:=QY q;have h0:0<n:=Z;have p:=bz1 (P:=P) w t W ty e i z kl kn hu ah hi af Aq n h0 Z (by simp only[maxLen] at M;omega) Z;have K:=grownCap_ge w n 0 e;have F:=grownCap_le_maxLen w n 0 e M;generalize aw:grownCap w n 0 e=cap at p K F;have j:Builtin.zeroCells z.cells n++Builtin.zeroCells z.cells (cap-n)=(er cap z.cells.toList).flatten.toArray:=(by rw[byr,byr,List.append_toArray,<-List.flatten_append,List.replicate_append_replicate,Nat.add_sub_cancel' K]);rw[j] at p;have m:L z.cells.toList=L zs:=(by simp[ao,an]);have g:Below w.heap.size w (w.drew.alloc<|.cells (er cap z.cells.toList).flatten.toArray e):=(Below.refl _ _).drew.alloc (dA _) _;have S:(w.drew.alloc<|.cells (er cap z.cells.toList).flatten.toArray e).heap[w.heap.size]?=V (.cells (er cap z.cells.toList).flatten.toArray e (0,0)):=heap_alloc_new w.drew _;have N:(er cap z.cells.toList).flatten.toArray.size=cap*L zs:=(by simp[List.length_flatten,m]);simp only[bh];refine⟨_,_,upd β (lA Y d) w.heap.size,p,?_,?_,um s g k<|dA _⟩;have:=ba.m1 (κ:=κ) (w:=w.drew.alloc<|.cells (er cap z.cells.toList).flatten.toArray e) (β:=upd β (lA Y d) w.heap.size) (n:=n) (cap:=cap) (iy (Y:=Y) (x:=⟨e,L zs,U,uj zs,er n<|mz zs⟩) k) O (by rwa [gx]) N o;rw[gx] at this;exact this;refine Et (cap:=cap) s g k (dA _) o (aB5 hz) (λr p=>by rw[RJ p,anv]) (λu a b y T=>by have f:=(alk T).2;simp only at u;simp only[mz,u,bih] at f;exact dV.1 am y<|fC f) S N NA F (λa b y T=>?_);obtain⟨h1,f⟩:=alk T;have hb:=(mg.1 f).1;rw[anv] at hb;have ag:a*L zs+b<cap*L z.cells.toList:=(by rw[m];have:=qo (L zs) (show a+1<=cap by omega);rw[tN] at this;omega);have R:(a*L zs+b)%L z.cells.toList=b:=(by rw[m,vD,aq9,aYD hb]);have u:z.cells.toList[b]?=V (z.cells.toList[b]'(by omega)):=eC _;refine⟨z.cells.toList[b]'(by omega),?_,G.2.1 _<|qj _,G.2.2 b _ y u f⟩;rw[RR,aoe _ _ _ ag,R,u];(cases h);(cases h);(cases h);(cases h);(cases h);cases h
theorem am7{b x}(s:zw P κ w Y β)(d:box Y b=V x):dw w Y β w (kill Y b) β:=
 ⟨A,A,A,dA _,λ_ _ _=>A,λc a=>amu d a,λc y a=>by
  by_cases e:c=b
  ·grind [amv]
  grind [Qc],by grind [xz]⟩
def aCS{b x}(s:zw P κ w Y β)(a:box Y b=V x):zw P κ w (kill Y b) β:=⟨λc y e=>(s.ok c y (xz a e).2).ext (am7 s a) A rfl,λc d y z e f g=>s.inj c d y z (xz a e).2 (xz a f).2 g,s.old,s.base⟩
theorem D1:∀(l) {Y},zw P κ w Y β->dw w Y β w (kills Y l) β/\zw P κ w (kills Y l) β/\∀c y,box (kills Y l) c=V y->box Y c=V y/\c∉l:=λl=>by induction l with|nil=>intro Y s;exact⟨dw.refl _ _ _,s,λc y h=>⟨h,O⟩⟩|cons b l g=>intro Y s;cases a:box Y b with|none=>grind [kills]|some x=>have e:kills Y (b::l)=kills (kill Y b) l:=(by simp[kills,a]);rw[e];obtain⟨d,f,i⟩:=g<|aCS s a;refine⟨(am7 s a).trans d,f,λc y j=>?_⟩;grind [xz]
theorem Di{v x l}(s:zw P κ w Y β)(h:ba κ w Y β v x)(T:∀b∈iR x,b∈l):ba κ w (kills Y l) β v (aTH Y x):=by obtain⟨e,s',M⟩:=D1 l s;cases x with|m b n=>simp only[aTH];(cases a:box Y b with|none=>exact h.ext e|some bx=>simp only;obtain k|k:=sq bx.var;rw[za X];exact h.ext e;rw[zg k];obtain⟨cap,cur,rfl,N,t,q⟩:=oR h a;have g:=s.ok b bx a;have R:=boa s a t q;by_cases D:n=0;subst D;rw[CE];exact .l0 (λh=>by cases h);obtain⟨C,B,vs,S,_,_,_,_,f⟩:=KY s a (nZ h a) N;have z:=s.lt a;refine .l1 (size:=bx.size) g.ow g.nf (Dh (bA:=bx.bA.take n) s h<|by grind [gL]) (λi j=>vs.getD (i*bx.size+j)<|.bool I) vB Z Z (λh=>by cases h) z (λc y G K=>?_) (λr W=>(g.cells t).rl r X) (λi j y o=>?_) (λi j y o=>?_) (λi j y o=>?_);obtain⟨E,F⟩:=M c y G;exact F (by rw[s.inj c b y bx E a K];grind [iR]);obtain⟨u,d,p⟩:=f.2.2.2 i j y o;have:=f.2.1 _ u d;simp_all;obtain⟨u,d,p⟩:=f.2.2.2 i j y o;simp only[btc,d,mi];exact p.ext e;obtain⟨u,d,p⟩:=f.2.2.2 i j y o;simp only[btc,d,mi];exact f.2.2.1 u X)|_=>exact h.ext e
theorem xK{v x l}(s:zw P κ w Y β)(h:ba κ w Y β v x)(f:∀b∈aNN x,b∈l):ba κ w (kills Y l) β v (eR Y x):=by cases x with|a cs=>simp only[eR];(cases h with|a d e j=>refine .a (by simp[d]) e (λi v c k g=>?_);grind [aOe,Di,aNN,fC])|_=>exact Di s h f
theorem anp{b:Operand->Value}(a:Array<|Nat×Operand):(a.map λ(i,x)=>(i,b x))=(a.toList.map λp=>(p.1,b p.2)).toArray:=X
def axL{R E o d av Y'}(s:zw P κ w Y β)(q:∀x,ba κ w Y β (R x)<|E x)(h:eA P E Y d o.op=V (av,Y')):ard P κ w Y β R o av Y':=by obtain⟨aA,op,ty,aD,af,gd⟩:=o;dsimp only at h;unfold eA at h;split at h;rename_i e;split at h;rename_i zs N;split at h;rename_i M;simp only[aOe,iK] at h;obtain⟨rfl,rfl⟩:=h;obtain⟨i,z,hi,ah,aC,aB,ae⟩:=tF (w:=w) (Y:=Y) (β:=β) N;obtain⟨n,g,f,j⟩:=alw (e:=e) s M.2 ae M.1<|amG N;refine⟨.value _,_,_,n,?_, .inl A,g,f,j⟩;simp[execOp,Instr.alloc,zeroValue,typeInfo,hi,ah,newVar,newRow];(cases h);(cases h);rename_i e x;split at h;rename_i cs z M N;split at h;rename_i hh;simp only[aOe,iK] at h;obtain⟨rfl,rfl⟩:=h;obtain⟨rfl,h0,hf⟩:=hh;obtain⟨n,g,f,j⟩:=alw (e:=e) s hf (Ku (q x) M) h0 N;refine⟨.value _,_,_,n,?_, .inl A,g,f,j⟩;simp[execOp,Instr.box,newVar,newRow];(cases h);(cases h);rename_i t B;(cases D:vS P t (B.toList.map λp=>(p.1,E p.2)) with|none=>rw[D] at h;cases h|some cs=>rw[D] at h;simp only[df,aOe,iK] at h;obtain⟨rfl,rfl⟩:=h;obtain⟨vs,g,f⟩:=awJ q D;refine⟨.value<|.agg vs.toArray,_,w,β,?_, .inl A, .a f.1 f.2.1 f.2.2,s,dw.refl _ _ _⟩;have:=run_build (P:=P) w t (B.map λ(i,x)=>(i,R x)) vs.toArray (by rwa [anp]);simp[execOp,this]);rename_i t len B;split at h;obtain⟨v,m,n,g,f,j,C⟩:=bdQ s q h;refine⟨.value v,v,m,n,?_, .inl A,f,j,C⟩;simp only[execOp,anp,Sem.run_bind,g,Result.andThen_ok,Sem.run_pure];(cases D:xB P t len (B.toList.map λp=>(p.1,nrm<|eR Y<|E p.2)) with|none=>rw[D] at h;cases h|some bA=>rw[D] at h;simp only[df,aOe,iK] at h;obtain⟨rfl,rfl⟩:=h;generalize T:(B.toList.flatMap λp=>aNN<|E p.2)=ids;obtain⟨e,s',_⟩:=D1 ids s;have ac:∀x,ba κ w (kills Y ids) β (R x) (if((aNN<|E x).all λb=>ids.contains b)=U then nrm (eR Y<|E x) else .u):=λx=>(by split;rename_i W;refine yo (xK s (q x) (λb D=>by have:=dV.1 W b D;simpa using this));exact .u);have aa:(B.toList.map λp=>(p.1,nrm<|eR Y<|E p.2))=B.toList.map λp=>(p.1,if((aNN<|E p.2).all λb=>ids.contains b)=U then nrm (eR Y<|E p.2) else .u):=(by apply ja;intro p hp;rw[zg (dV.2 λb D=>by rw[<-T,aYv];exact iI.2 ⟨p,hp,D⟩)]);rw[aa] at D;obtain⟨v,m,g,f,j⟩:=awI s' ac D;refine⟨.value v,_,m,β,?_, .inl A,j,Es s' f,e.trans<|xJ s' f⟩;simp only[execOp,anp,Sem.run_bind,g,Result.andThen_ok,Sem.run_pure]);rename_i t l c;split at h;rename_i kl l' kc c' hl M;have k1:=q l;have k2:=q c;rw[hl] at k1;rw[M] at k2;obtain⟨v,m,n,g,f,j,C⟩:=aDZ (kl:=kl) (kc:=kc) s h;exact⟨.value v,v,m,n,by simp[execOp,k1.s_inv.1,k2.s_inv.1,g], .inl A,f,j,C⟩;(cases h);rename_i t x v;split at h;(cases hs:ra P Y t (E x) (E v) with|none=>rw[hs] at h;cases h|some S=>rw[hs] at h;simp only[df,aOe,iK] at h;obtain⟨rfl,rfl⟩:=h;obtain⟨m,g,f,j⟩:=aoK s (q x) (q v) hs;exact⟨.skip,undef,m,β,by simp[execOp,g], .inr ⟨A,A⟩, .t (vs:=[]) A (λi v c h=>by simp at h),f,j⟩);(cases hs:ra P (kills Y<|aNN<|E v) t (E x) (nrm<|eR Y<|E v) with|none=>rw[hs] at h;cases h|some S=>rw[hs] at h;simp only[df,aOe,iK] at h;obtain⟨rfl,rfl⟩:=h;obtain⟨e,s',_⟩:=D1 (aNN<|E v) s;obtain⟨m,g,f,j⟩:=aoK s' ((q x).ext e) (yo<|xK s (q v)<|λb D=>D) hs;exact⟨.skip,undef,m,β,by simp[execOp,g], .inr ⟨A,A⟩, .t (vs:=[]) A (λi v c h=>by simp at h),f,e.trans j⟩);rename_i c;split at h;rename_i F;split at h;rename_i sx x t t' ha ht;split at h;rename_i am;subst am;obtain⟨v,m,n,g,f,j,C⟩:=avw (ty:=ty) s (q sx) (q x) h;refine⟨.value v,v,m,n,?_, .inl A,f,j,C⟩;have G:c.args=#[sx,x]:=(by rwa [<-qb]);have K:c.argTypes=#[t,t]:=(by rwa [<-qb]);simp only[execOp,resolve,F,invoke,builtin,Sem.run_bind,Sem.run_pure,Result.andThen_ok,G,K,aqV,ji,mU,g];obtain⟨v,m,n,g,f,j,C⟩:=byU (ty:=ty) s (q sx) (q x) h;refine⟨.value v,v,m,n,?_, .inl A,f,j,C⟩;have G:c.args=#[sx,x]:=(by rwa [<-qb]);have K:c.argTypes=#[t,t']:=(by rwa [<-qb]);simp only[execOp,resolve,F,invoke,builtin,Sem.run_bind,Sem.run_pure,Result.andThen_ok,G,K,aqV,ji,mU,g];(cases h);rename_i F;split at h;rename_i x t ha ht;split at h;rename_i z N;(cases hs:pA z Y (E x) with|none=>rw[hs] at h;cases h|some S=>rw[hs] at h;simp only[df,aOe,iK] at h;obtain⟨rfl,rfl⟩:=h;obtain⟨m,g,f,j⟩:=axh (ty:=ty) s N (q x) hs;refine⟨.value<|.tuple #[],_,m,β,?_, .inl A, .t (vs:=[]) A (λi v c h=>by simp at h),f,j⟩;have G:c.args=#[x]:=(by rwa [<-qb]);have K:c.argTypes=#[t]:=(by rwa [<-qb]);simp only[execOp,resolve,F,invoke,builtin,Sem.run_bind,Sem.run_pure,Result.andThen_ok,G,K,aqV,ji,mU,g]);(cases h);(cases h);rename_i F;split at h;rename_i x y t t' ha ht;split at h;rename_i ag;obtain⟨v,m,g,f,j,C⟩:=by7 (ty:=ty) s ag (q x) (q y) h;refine⟨.value v,v,m,β,?_, .inl A,f,j,C⟩;have G:c.args=#[x,y]:=(by rwa [<-qb]);have K:c.argTypes=#[t,t']:=(by rwa [<-qb]);simp only[execOp,resolve,F,invoke,builtin,Sem.run_bind,Sem.run_pure,Result.andThen_ok,G,K,aqV,ji,mU,g];(cases h);(cases h);(cases h);rename_i t r;split at h;obtain⟨v,m,n,g,f,j,C⟩:=aD5 s h;exact⟨.value v,v,m,n,by simp[execOp,g], .inl A,f,j,C⟩;(cases h);rename_i t x k v;split at h;rename_i mt W;(cases hs:muA mt Y (E x) (E k) (E v) with|none=>rw[hs] at h;cases h|some S=>rw[hs] at h;simp only[df,aOe,iK] at h;obtain⟨rfl,rfl⟩:=h;obtain⟨m,g,f,j⟩:=aD9 s W (q x) (q k) (q v) hs;exact⟨.skip,undef,m,β,by simp[execOp,g], .inr ⟨A,A⟩, .t (vs:=[]) A (λi v c h=>by simp at h),f,j⟩);(cases h);rename_i t x;split at h;rename_i hu;obtain⟨v,m,n,g,f,j,C⟩:=aFk s hu (q x) h;exact⟨.value v,v,m,n,by simp[execOp,g], .inl A,f,j,C⟩;(cases h);rename_i x st;split at h;rename_i ak;subst ak;obtain⟨v,m,g,f,j,C⟩:=aEz (t:=ty) s (q x) h;exact⟨.value v,v,m,β,by simp[execOp,g], .inl A,f,j,C⟩;(cases h);cases h
end
def nj:AV->Bool| .s _=>U| .l _ _ _=>U|_=>I
def iX:AV->Bool| .a cs=>cs.all eN|x=>eN x
def pF:AV->Bool| .a cs=>cs.all nj|x=>nj x
def kG:AV->Bool| .t vs=>vs.all pF|x=>pF x
def gY:AV->Bool| .s _=>U|_=>I
def wD:AV->Bool| .s _=>U| .l bA _ own=>own&&bA.all (λr=>r.all gY)|_=>I
def btE:AV->Bool| .a cs=>cs.all wD|x=>wD x
def uN:AV->Bool| .t vs=>vs.all btE|x=>btE x
def dG(Y:ae)(x:AV):AV:=nrm<|eR Y x
def nA(Y:ae)(xs:dM):Bool:=xs.any λx=>(aNN x).any λb=>(box Y b).isSome
def β0:Id->Nat:=λ_=>0
def md(G:Env)(κ:Ctx)(w:World)(Y:ae)(β:Id->Nat):Prop:=∀g cs,G g=V cs->cs.all eN=U/\ba κ w Y β (.pointer<|V ⟨g,0,J⟩) (.q cs)
def tJ(P:Program)(fn:FuncId):Prop:=∃f c,P.funcs[fn]?=V f/\f.body=V c/\(f.name== "runtime.NumGoroutine")=I
def js(κ:Ctx)(w:World)(Y:ae)(β:Id->Nat)(vs:List Value)(xs:dM):Prop:=L vs=L xs/\∀(i:Nat) v x,vs[i]?=V v->xs[i]?=V x->ba κ w Y β v x
def btY(P:Program)(G:Env)(fn:FuncId)(ys:dM)(R:AV->Prop):Prop:=tJ P fn/\∀(F:Nat->Prop) (w:World) (a:List Value),(∀k,F k->k<w.heap.size)->md G ⟨F,w.heap.size⟩ w [] β0->js ⟨F,w.heap.size⟩ w [] β0 a ys->Calls P fn a.toArray w λe w'=>∃v r,e= .returned v/\R r/\ba ⟨F,w.heap.size⟩ w' [] β0 v r/\Below w.heap.size w w'
section
variable{P:Program}{G:Env}{κ κ':Ctx}{w w':World}{Y Y':ae}{β β':Id->Nat}
def nN(κ:Ctx)(Y:ae)(β:Id->Nat)(κ':Ctx)(Y':ae)(β':Id->Nat):Prop:=∀k,¬κ.F k->(∀b y,box Y b=V y->β b≠k)->¬κ'.F k/\∀b y,box Y' b=V y->β' b≠k
theorem ba.conv{v x}(h:ba κ w Y β v x)(e:eN x=U)(hs:nN κ Y β κ' Y' β'):ba κ' w Y' β' v x:=by induction h with|s h=>exact .s h|l0 b=>exact .l0 b|@l1 d u n c size bA k own y nf f g r i a b o t j p z q B=>obtain⟨l,m⟩:=hs d nf t;simp only[eN,bN,eH] at e;refine .l1 (λh=>?_) l f g r i a b o m j p X q;simp_all|_=>simp[eN] at e
theorem ba.conv1{v x}(h:ba κ w Y β v x)(p:nj x=U)(hs:nN κ Y β κ' Y' β')(y:κ'.base<=κ.base):ba κ' w Y' β' v x:=by cases h with|s h=>exact .s h|l0 b=>exact .l0 b|@l1 d u n c size bA k own z nf f g r i a b e t j o B q=>obtain⟨l,m⟩:=hs d nf t;exact .l1 X l f g r i a b e m j o (by grind [conv]) q|_=>simp[nj] at p
theorem ba.convR{v x}(h:ba κ w Y β v x)(b:pF x=U)(hs:nN κ Y β κ' Y' β')(c:κ'.base<=κ.base):ba κ' w Y' β' v x:=by cases x with|a cs=>simp only[pF] at b;(cases h with|a e d f=>exact .a e d<|by grind [conv1,dV,fC])|_=>exact h.conv1 b hs c
theorem ba.convT{v x}(h:ba κ w Y β v x)(a:kG x=U)(hs:nN κ Y β κ' Y' β')(b:κ'.base<=κ.base):ba κ' w Y' β' v x:=by cases x with|t cs=>simp only[kG] at a;(cases h with|t c d=>exact .t c<|by grind [convR,dV,fC])|_=>exact h.convR a hs b
theorem ba.convA{v x}(h:ba κ w Y β v x)(b:iX x=U)(hs:nN κ Y β κ' Y' β'):ba κ' w Y' β' v x:=by cases x with|a cs=>simp only[iX] at b;(cases h with|a d c e=>exact .a d c<|by grind [conv,dV,fC])|_=>exact h.conv b hs
theorem md.conv(h:md G κ w Y β)(hs:nN κ Y β κ' Y' β'):md G κ' w Y' β':=by intro g cs k;obtain⟨b,c⟩:=h g cs k;refine⟨b,?_⟩;cases c with|q nf a f o i m l=>obtain⟨d,e⟩:=hs g nf o;exact .q d a f e i (λj x n=>(m j x n).conv X hs) l
theorem md.ext(h:md G κ w Y β)(e:dw w Y β w' Y' β'):md G κ w' Y' β':=λg cs a=>⟨(h g cs a).1,(h g cs a).2.ext e⟩
theorem ba.young1{v x}(h:ba κ w Y β v x)(a:wD x=U)(M:∀k,κ.base<=k->¬κ'.F k/\∀b y,box Y' b=V y->β' b≠k)(hb:κ'.base<=κ.base):ba κ' w Y' β' v x:=by cases h with|s h=>exact .s h|l0 l=>exact .l0 l|@l1 m aa n c size bA z own T nf p g S q f l o nd t N W R=>simp only[wD,bN] at a;obtain⟨B,C⟩:=M m<|T a.1;refine .l1 X B p g S q f l o C t N (λi j x d=>?_) R;have u:gY x=U:=(by unfold db at d;cases e:bA[i]? with|none=>simp_all|some r=>rw[e] at d;simp only[a6X] at d;exact dV.1 (dV.1 a.2 r<|fC e) x X);have D:=W i j x d;(cases x<;>first|(simp[gY] at u;done)|skip);obtain⟨E,K⟩:=D.s_inv;rw[E];exact .s K|_=>simp[wD] at a
theorem ba.youngT{v x}(h:ba κ w Y β v x)(c:uN x=U)(e:∀k,κ.base<=k->¬κ'.F k/\∀b y,box Y' b=V y->β' b≠k)(g:κ'.base<=κ.base):ba κ' w Y' β' v x:=by have f:∀v x,ba κ w Y β v x->btE x=U->ba κ' w Y' β' v x:=λv x h c=>(by cases x with|a cs=>simp only[btE] at c;(cases h with|a d i j=>exact .a d i<|by grind [young1,dV,fC])|_=>exact h.young1 c e g);cases x with|t cs=>simp only[uN] at c;(cases h with|t d j=>exact .t d X)|_=>exact f v _ h c
theorem amg{x}(h:∀b∈iR x,box Y b=J):aTH Y x=x:=by cases x with|m b n=>grind [aTH,iR]|_=>rfl
theorem aBj{x}(h:∀b∈aNN x,box Y b=J):eR Y x=x:=by cases x with|a cs=>simp only[eR];congr 1;(conv=>rhs;rw[<-brw cs]);grind [ja,amg,aNN]|m b n=>exact amg (x:= .m b n) h|_=>rfl
theorem sK(b):box [] b=J:=by simp[box,aZ]
theorem axb{fn m xs R}(s:zw P κ w Y β)(S:md G κ w Y β)(o:js κ w Y β m xs)(f:btY P G fn (xs.map<|dG Y) R)
  (W:(xs.map<|dG Y).all iX=U)(hr:∀r,R r->kG r=U/\(nA Y xs=I\/uN r=U)):
  Calls P fn m.toArray w λe w'=>∃v r,e= .returned v/\R r/\ba κ w' Y β v r/\Below w.heap.size w w':=by
 have D:∀i x,xs[i]?=V x->iX (dG Y x)=U:=λi x o=>dV.1 W _<|dN.2 ⟨x,fC o,A⟩
 have C:∀(i:Nat) y,(xs.map<|dG Y)[i]?=V y->∃x,xs[i]?=V x/\y=dG Y x:=vB
 by_cases g:nA Y xs=I
 ·
  have T:∀i x,xs[i]?=V x->∀b∈aNN x,box Y b=J:=λi x o b a=>by
   unfold nA at g
   rw[List.any_eq_false] at g
   have:=g x<|fC o
   simp_all
  let E:Nat->Prop:=λk=>κ.F k\/∃b x,box Y b=V x/\β b=k
  have K:∀k,E k->k<w.heap.size:=λk t=>by
   obtain t|⟨b,x,a,rfl⟩:=t
   ·exact s.old k t
   ·exact s.lt a
  have j:nN κ Y β ⟨E,w.heap.size⟩ [] β0:=λk c n=>⟨λh=>by
   obtain h|⟨b,x,a,p⟩:=h
   ·exact c h
   ·exact n b x a p,λb y a=>by rw[sK] at a;cases a⟩
  refine(f.2 E w m K (S.conv j) ⟨by simp[o.1],λi v y q N=>?_⟩).mono ?_
  ·obtain⟨x,d,rfl⟩:=C i y N
   have c:=o.2 i v x q d
   have n:=D i x d
   unfold dG at n⊢
   rw[aBj<|T i x d] at n⊢
   exact(yo c).convA n j
  ·rintro e w' ⟨v,r,p,u,q,a⟩
   refine⟨v,r,p,u,?_,a⟩
   refine q.convT (hr r u).1 (λk c n=>⟨λh=>c<|.inl h,λb y z p=>c<|.inr ⟨b,y,z,p⟩⟩) s.base
 ·have M:∀r,R r->uN r=U:=vB
  have K:=λk t=>s.old k t
  have j:∀l,nN κ (kills Y l) β ⟨κ.F,w.heap.size⟩ [] β0:=λl k c n=>⟨c,λb y a=>by rw[sK] at a;cases a⟩
  have B:nN κ Y β ⟨κ.F,w.heap.size⟩ [] β0:=λk c n=>⟨c,λb y a=>by rw[sK] at a;cases a⟩
  refine(f.2 κ.F w m K (S.conv B) ⟨by simp[o.1],λi v y q N=>?_⟩).mono ?_
  ·obtain⟨x,d,rfl⟩:=C i y N
   have c:=o.2 i v x q d
   exact(yo<|xK (l:=aNN x) s c<|λb a=>a).convA (D i x d)<|j _
  ·rintro e w' ⟨v,r,p,u,q,a⟩
   refine⟨v,r,p,u,?_,a⟩
   refine q.youngT (M r u) (λk t=>⟨X,λb y z ab=>by have:=s.lt z;grind⟩) s.base
end
def cZ(P:Program)(G:Env)(fn:FuncId)(ys:dM)(Y0:ae)(r:AV)(Y1:ae):Prop:=tJ P fn/\∀(κ:Ctx) (w:World) (β:Id->Nat) (a:List Value),zw P κ w Y0 β->md G κ w Y0 β->js κ w Y0 β a ys->Calls P fn a.toArray w λe w'=>∃v β',e= .returned v/\ba κ w' Y1 β' v r/\zw P κ w' Y1 β'/\dw w Y0 β w' Y1 β'
structure Kp(Y Y':ae):Prop where
 len:L Y'=L Y
 ver:∀k,(aZ Y k).ver<=(aZ Y' k).ver
 keep:∀b x,box Y b=V x->box Y' b=V x
theorem Kp.refl(Y):Kp Y Y:=⟨A,λ_=>dA _,λ_ _ h=>h⟩
theorem Kp.trans{Y Y' a}(h:Kp Y Y')(c:Kp Y' a):Kp Y a:=⟨c.len.trans h.len,λk=>gl (h.ver k)<|c.ver k,λb x d=>c.keep b x<|h.keep b x d⟩
def am8{Y d x}(c:d<L Y):Kp Y (put Y d x):=by refine⟨Bf _ _,λk=>?_,λb y a=>uA c a⟩;grind [put,iD,jQ]
def ba.shrink{κ au w w0 Y Y1 β β0}(E:Kp Y Y1){v x}(h:ba κ w Y1 β v x):∀{m},ba au w0 Y β0 m x->ba κ w Y β v x:=by have nb:∀{R:Nat},(∀b x,box Y1 b=V x->β b≠R)->∀b x,box Y b=V x->β b≠R:=λK b x y=>K b x<|E.keep b x y;have gn:∀{b:Id},jO Y1 b=U->(∀x,box Y b≠V x):=λhg x y=>qD hg<|E.keep _ _ y;have aE:∀{vs:List Value} {cs:dM} {i:Nat} {c:AV},L vs=L cs->cs[i]?=V c->∃v,vs[i]?=V v:=λ{vs cs i c} C z=>(by obtain⟨h1,_⟩:=mg.1 z;simp_all);induction h with|s h=>intro m _;exact .s h|u=>intro m _;exact .u|a C z h N=>intro m e;(cases e with|a T S B=>refine .a C z λi v c p D=>?_;grind)|t C h N=>intro m e;(cases e with|t T B=>refine .t C λi v c p D=>?_;grind)|l0 ht=>intro m _;exact .l0 ht|l1 ho nf hd g hn am aa ht y K hs z hr F N=>intro m e;(cases e with|l0 ao=>simp_all|l1 aI ar aF g0 aG aA av ao af aq aJ S B ah=>exact .l1 ho nf hd g hn am aa ht y (nb K) hs z X F)|@p1 b i j o x h hz ho=>intro m e;(cases e with|p1 d G an=>have:=E.keep _ _ d;rw[h] at this;cases this;exact .p1 d hz ho|p0 d r=>exact .p0 d A)|p0 h p=>intro m e;(cases e with|p1 d G an=>simp_all|p0 d r=>exact .p0 d p)|q nf g y K z hr F N=>intro m e;(cases e with|q ar g0 af aq S B ah=>exact .q nf g y (nb K) z X F)|@m1 b n cap x cur h hn hh W hz=>intro m e;(cases e with|m1 d al ag M G=>have:=E.keep _ _ d;rw[h] at this;cases this;exact .m1 d hn hh W hz|m0 d r=>exact .m0 d A)|m0 h p=>intro m e;(cases e with|m1 d al ag M G=>simp_all|m0 d r=>exact .m0 d p)|@g1 v b k o n x h p=>intro m e;(cases e with|g1 d r=>have:=E.keep _ _ d;rw[h] at this;cases this;exact .g1 d p|g0 d r=>exact .g0 d p.cell)|g0 h p=>intro m e;(cases e with|g1 d r=>simp_all|g0 d r=>exact .g0 d p)|f C ak h h' N aK=>intro m e;cases e with|f T az B aC=>refine .f C ak (λi v c p D=>?_) (λi v c p D=>?_);grind;grind
def zw.shrink{P κ w w' Y Y1 β β'}(s0:zw P κ w Y β)(c:Kp Y Y1)(s:zw P κ w' Y1 β'):zw P κ w' Y β':=by refine⟨λb x a=>?_,λb h x x' a e B=>s.inj b h x x' (c.keep _ _ a) (c.keep _ _ e) B,s.old,s.base⟩;have d:=s.ok b x<|c.keep _ _ a;refine⟨d.ow,d.nf,λg=>?_,d.sp⟩;have k:=d.cl g;obtain⟨cur,cap,q,r,t,u,z⟩:=k.ex;refine⟨k.pos,k.info,k.rl,k.dt,cur,cap,q,r,t,u,λi j y f=>?_⟩;obtain⟨v,C,D,E⟩:=z i j y f;obtain⟨n,m,_,_,_,_,p⟩:=((s0.ok b x a).cl g).ex;obtain⟨F,_,_,o⟩:=p i j y f;exact⟨v,C,D,E.shrink c o⟩
def dw.shrink{w w' Y Y1 β β'}(e:dw w Y β w' Y1 β')(d:Kp Y Y1):dw w Y β w' Y β':=by refine⟨e.os,e.tape,e.output,e.size,e.keep,λ_ h=>h,λb x a=>?_,λb x a=>?_⟩;obtain h|⟨x',f,g,i,j,k,m⟩:=e.live b x a;exact aYx (d.keep _ _ a) (λc=>qD h c);simp_all;obtain h|⟨x',f,g,i,j,k,m⟩:=e.live b x a;exact aYx (d.keep _ _ a) (λc=>qD h c);grind
def bnq(ks:eP)(l:List Id)(Y:ae):ae:=(aH<|L Y).map λk=>if k∈ks then⟨(aZ Y k).ver,λv=>if(k,v)∈l then(aZ Y k).val v else J⟩ else mO
def avs(ks:eP)(l:List Id)(Y Y1:ae):ae:=(aH<|L Y).map λk=>if k∈ks then⟨(aZ Y1 k).ver,λv=>if(k,v)∈l then(aZ Y1 k).val v else J⟩ else aZ Y k
def okI(ks:eP)(l:List Id)(b:Id):Prop:=b.1∈ks/\b∈l
def okC(ks:eP)(l:List Id):AV->Prop| .s _=>True| .l bA t o=>eN (.l bA t o)=U\/bA=[]| .p b _ _=>okI ks l b| .m b _=>okI ks l b|_=>False
def okR(ks:eP)(l:List Id):AV->Prop| .a cs=>∀c∈cs,okC ks l c|x=>okC ks l x
def okX(ks:eP)(l:List Id):AV->Prop| .t vs=>∀v∈vs,okR ks l v|x=>okR ks l x
def okB(ks:eP)(l:List Id)(Y:ae):Prop:=∀b∈l,∀x,box Y b=V x->x.var=U->∀q∈x.bA,∀y∈q,okC ks l y
section
variable{ks:eP}{l l':List Id}{Y Y0 Y1:ae}{P:Program}{κ κ':Ctx}{w w':World}{β β' β2:Id->Nat}
theorem aPl:L (avs ks l Y Y1)=L Y:=by simp[avs]
theorem aOr:L (bnq ks l Y)=L Y:=by simp[bnq]
theorem aOa{Y k}(h:L Y<=k):aZ Y k=mO:=by grind [aZ,qi]
theorem aQ3{k}(h:k<L Y):aZ (avs ks l Y Y1) k=if k∈ks then⟨(aZ Y1 k).ver,λv=>if(k,v)∈l then(aZ Y1 k).val v else J⟩ else aZ Y k:=by grind [avs,aPl,aZ,eC]
theorem aTs{k}(h:k<L Y):aZ (bnq ks l Y) k=if k∈ks then⟨(aZ Y k).ver,λv=>if(k,v)∈l then(aZ Y k).val v else J⟩ else mO:=by grind [bnq,aOr,aZ,eC]
theorem aTt{k}(h:k∉ks):aZ (avs ks l Y Y1) k=aZ Y k:=by grind [jj,aQ3,aOa,aPl]
theorem bdP{k}(h:k∉ks):aZ (bnq ks l Y) k=mO:=by grind [jj,aTs,aOa,aOr]
theorem aPt{b}(h:b.1∉ks):box (avs ks l Y Y1) b=box Y b:=by unfold box;rw[aTt h]
theorem bcL{b}(h:b.1∉ks):jO (avs ks l Y Y1) b=jO Y b:=by unfold jO;rw[aTt h]
theorem baE{b}(h:b.1∉ks):box (bnq ks l Y) b=J:=by simp_all [box,bdP,mO]
theorem aPT(a:L Y1=L Y){b}(h:b.1∈ks):box (avs ks l Y Y1) b=if b∈l then box Y1 b else J:=by grind [jj,box,aQ3,aOa,aPl]
theorem aOV{b}(h:b.1∈ks):box (bnq ks l Y) b=if b∈l then box Y b else J:=by grind [jj,box,aTs,aOa,aOr]
theorem aTh(c:L Y1=L Y){b}(h:b.1∈ks)(a:jO Y1 b=U):jO (avs ks l Y Y1) b=U:=by grind [jj,jO,aQ3,Option.isNone_iff_eq_none,aOa,aPl]
theorem a6x{b}(h:b.1∈ks)(a:jO Y b=U):jO (bnq ks l Y) b=U:=by grind [jj,jO,aTs,Option.isNone_iff_eq_none,aOa,aOr]
theorem bcK(f:L Y1=L Y){b x}(h:b.1∈ks)(d:box Y1 b=V x)(g:b∉l):jO (avs ks l Y Y1) b=U:=by obtain⟨c,e⟩:=b;have a:c<L Y:=(by obtain a|a:=jj c<|L Y;exact a;simp_all [box,aOa,mO]);have:=(aOm d).1;grind [jO,aQ3,Option.isNone_none]
theorem bcJ{b x}(h:b.1∈ks)(d:box Y b=V x)(f:b∉l):jO (bnq ks l Y) b=U:=by obtain⟨c,e⟩:=b;have a:c<L Y:=(by obtain a|a:=jj c<|L Y;exact a;simp_all [box,aOa,mO]);have:=(aOm d).1;grind [jO,aTs,Option.isNone_none]
theorem aPV{b x}(h:box (bnq ks l Y) b=V x):box Y b=V x/\b.1∈ks/\b∈l:=by grind [aOV,baE]
theorem ba4(a:L Y=L Y0)(h:∀k∈ks,aZ Y k=aZ Y0 k):bnq ks l Y=bnq ks l Y0:=by grind [bnq,ja]
theorem aTw{m n e i j k v y}(h:ba j w m e v y)(c:okC ks l y)(B:k.base<=j.base)(N:nN j m e k n i)(o:∀b x,okI ks l b->box m b=V x->box n b=V x/\i b=e b)(R:∀b,okI ks l b->jO m b=U->jO n b=U):ba k w n i v y:=by cases h with|s h=>exact .s h|u=>exact c.elim|a T C h=>exact c.elim|t T h=>exact c.elim|l0 K=>exact .l0 K|l1 G nf hd g F W E K B nd hs C hr p=>obtain c|c:=c;exact(ba.l1 G nf hd g F W E K B nd hs C hr p).conv c N;simp_all|p1 h M G=>obtain⟨r,z⟩:=o _ _ c h;rw[<-z];exact .p1 r M G|p0 h d=>exact .p0 (R _ c h) d|q nf g B nd C hr p=>exact c.elim|m1 h F S D M=>obtain⟨r,z⟩:=o _ _ c h;rw[<-z] at S⊢;exact .m1 r F S D M|m0 h d=>exact .m0 (R _ c h) d|g1 h d=>exact c.elim|g0 h d=>exact c.elim|f T ad h h'=>exact c.elim
theorem a67{k m e f g j v y}(h:ba g w k e v y)(r:okR ks l y)(o:j.base<=g.base)(d:nN g k e j m f)(n:∀b x,okI ks l b->box k b=V x->box m b=V x/\f b=e b)(q:∀b,okI ks l b->jO k b=U->jO m b=U):ba j w m f v y:=by cases y with|a cs=>(cases h with|a t s h=>exact .a t s λi v c u p=>aTw (h i v c u p) (r c X) o d n q)|_=>exact aTw h r o d n q
theorem a66{j k d e f g v y}(h:ba f w j d v y)(q:okX ks l y)(n:g.base<=f.base)(a:nN f j d g k e)(m:∀b x,okI ks l b->box j b=V x->box k b=V x/\e b=d b)(p:∀b,okI ks l b->jO j b=U->jO k b=U):ba g w k e v y:=by cases y with|t vs=>(cases h with|t r h=>exact .t r λi v c s o=>a67 (h i v c s o) (q c X) n a m p)|_=>exact a67 h q n a m p
theorem a5L{bA i j y}(h:db bA i j=V y):∃r∈bA,y∈r:=by unfold db at h;cases a:bA[i]? with|none=>simp_all|some r=>rw[a] at h;exact⟨r,fC a,fC h⟩
theorem ba5{G fn xs E r}(s:zw P κ w Y β)(hG:md G κ w Y β)(hx:js κ w Y β E xs)(hl:L Y1=L Y)(aI:∀x∈xs,okX ks l x)(c0:okB ks l<|bnq ks l Y)(c1:okB ks l' Y1)(hr:okX ks l' r)(h:cZ P G fn xs (bnq ks l Y) r Y1):
  tJ P fn/\Calls P fn E.toArray w λe w'=>∃v β2,e= .returned v/\ba κ w' (avs ks l' Y Y1) β2 v r/\zw P κ w' (avs ks l' Y Y1) β2/\dw w Y β w' (avs ks l' Y Y1) β2:=by
 let S:Nat->Prop:=λk=>κ.F k\/∃b x,box Y b=V x/\(b.1∉ks\/b∉l)/\β b=k
 have N:nN κ Y β ⟨S,κ.base⟩ (bnq ks l Y) β:=λk t C=>⟨X,λb y c=>C b y (aPV c).1⟩
 have al:∀b x,okI ks l b->box Y b=V x->box (bnq ks l Y) b=V x/\β b=β b:=λb x B c=>⟨by rwa [aOV B.1,zg B.2],A⟩
 have am:∀b,okI ks l b->jO Y b=U->jO (bnq ks l Y) b=U:=λb B hg=>a6x B.1 hg
 have s0:zw P ⟨S,κ.base⟩ w (bnq ks l Y) β:=by
  refine⟨λb x c=>?_,λb o x x' c d g=>s.inj b o x x' (aPV c).1 (aPV d).1 g,λk z=>?_,s.base⟩
  ·obtain⟨ah,a,W⟩:=aPV c
   have D:=s.ok b x ah
   refine⟨D.ow,λz=>?_,λhz=>?_,D.sp⟩
   ·obtain z|⟨o,x',d,hn,g⟩:=z
    ·exact D.nf z
    ·have:=s.inj o b x' x d ah g
     simp_all
   ·have k:=D.cl hz
    obtain⟨cur,cap,t,C,h3,h4,h5⟩:=k.ex
    refine⟨k.pos,k.info,k.rl,k.dt,cur,cap,t,C,h3,h4,λi j y M=>?_⟩
    obtain⟨u,p1,p2,p3⟩:=h5 i j y M
    refine⟨u,p1,p2,aTw (ks:=ks) (l:=l) p3 ?_ (dA _) N al am⟩
    obtain⟨q,hq,aa⟩:=a5L M
    cases K:x.var with
    |true=>exact c0 b W x c K q hq y aa
    |false=>
     have T:=k.dt K i j y M
     cases y<;>first|trivial|exact .inl T|(simp[eN] at T;done)
  ·obtain z|⟨b,x,c,_,rfl⟩:=z
   ·exact s.old k z
   ·exact s.lt c
 have az:js ⟨S,κ.base⟩ w (bnq ks l Y) β E xs:=⟨hx.1,λi v x K aA=>a66 (hx.2 i v x K aA) X (dA _) N al am⟩
 refine⟨h.1,(h.2 ⟨S,κ.base⟩ w β E s0 (hG.conv N) az).mono ?_⟩
 rintro e w' ⟨v,β',k1,k2,k3,n⟩
 let β2:Id->Nat:=λb=>if b.1∈ks then β' b else β b
 have p:∀{b:Id},b.1∈ks->β2 b=β' b:=λ{b} h=>zg h
 have R:∀{b:Id},b.1∉ks->β2 b=β b:=λ{b} h=>za h
 have f:∀{b x},b.1∈ks->box (avs ks l' Y Y1) b=V x->box Y1 b=V x/\b∈l':=(by grind [aPT])
 have ad:∀b x,box Y b=V x->b.1∉ks->w'.heap[β b]?=w.heap[β b]?:=λb x c a=>
  n.keep _ (s.lt c) λo x' d g=>by
   have:=s.inj o b x' x (aPV d).1 c g
   subst this
   exact a (aPV d).2.1
 have e2:dw w Y β w' (avs ks l' Y Y1) β2:=by
  refine⟨n.os,n.tape,n.output,n.size,λk a nd=>n.keep k a λb x c=>nd b x (aPV c).1,λb c=>?_,λb x c=>?_,λb x c=>?_⟩
  ·by_cases a:b.1∈ks
   ·exact aTh hl a (n.dead b<|a6x a c)
   grind [bcL]
  ·by_cases a:b.1∈ks
   ·by_cases W:b∈l
    ·obtain hg|⟨x',q1,q2,q3,q4,q5,q6⟩:=n.live b x (by grind [aOV])
     ·grind [aTh]
     grind [aPT,bcK]
    ·exact .inl (aTh hl a<|n.dead b<|bcJ a c W)
   grind [aPt]
  ·by_cases a:b.1∈ks
   ·rw[p a]
    obtain t|⟨b0,x0,t,C⟩:=n.fresh b x (f a c).1
    ·exact .inl t
    ·exact .inr ⟨b0,x0,(aPV t).1,C⟩
   grind [aPt]
 have ag:nN ⟨S,κ.base⟩ Y1 β' κ (avs ks l' Y Y1) β2:=λk t C=>⟨λz=>t<|.inl z,λb y c=>by
  by_cases a:b.1∈ks
  ·rw[p a];exact C b y (f a c).1
  ·rw[aPt a] at c
   rw[R a]
   exactλg=>t<|.inr ⟨b,y,c, .inl a,g⟩⟩
 have aq:∀b x,okI ks l' b->box Y1 b=V x->box (avs ks l' Y Y1) b=V x/\β2 b=β' b:=λb x B c=>⟨by rwa [aPT hl B.1,zg B.2],p B.1⟩
 have ar:∀b,okI ks l' b->jO Y1 b=U->jO (avs ks l' Y Y1) b=U:=λb B hg=>aTh hl B.1 hg
 refine⟨v,β2,k1,(by grind [a66]),?_,e2⟩
 refine⟨λb x c=>?_,λb o x x' c d g=>?_,λk a=>bpL (s.old k a) n.size,gl s.base n.size⟩
 ·by_cases a:b.1∈ks
  ·obtain⟨ak,W⟩:=f a c
   have D:=k3.ok b x ak
   refine⟨λho=>by rw[p a];exact D.ow ho,λz=>D.nf<|.inl<|by rwa [<-p a],λhz=>?_,λhz=>by rw[p a];exact D.sp hz⟩
   have k:=D.cl hz
   obtain⟨cur,cap,t,C,h3,h4,h5⟩:=k.ex
   refine⟨k.pos,k.info,k.rl,k.dt,cur,cap,vB,C,h3,h4,λi j y M=>?_⟩
   obtain⟨u,p1,p2,p3⟩:=h5 i j y M
   refine⟨u,p1,p2,aTw (ks:=ks) (l:=l') p3 ?_ (dA _) ag aq ar⟩
   obtain⟨q,hq,aa⟩:=a5L M
   cases K:x.var with
   |true=>exact c1 b W x ak K q hq y aa
   |false=>
    have T:=k.dt K i j y M
    cases y<;>first|trivial|exact .inl T|(simp[eN] at T;done)
  ·rw[aPt a] at c
   exact(s.ok b x c).ext e2 (R a)<|ad b x c a
 ·by_cases a:b.1∈ks<;>by_cases m:o.1∈ks
  ·rw[p a,p m] at g
   exact k3.inj b o x x' (f a c).1 (f m d).1 g
  ·rw[p a,R m] at g
   rw[aPt m] at d
   exact aYx (.inr X)<|(k3.ok b x (f a c).1).nf
  ·rw[R a,p m] at g
   rw[aPt a] at c
   exact aYx (.inr X)<|(k3.ok o x' (f m d).1).nf
  ·rw[R a,R m] at g
   rw[aPt a] at c
   rw[aPt m] at d
   exact s.inj b o x x' c d g
end
def aSX(P:Program)(G:Env)(fn:FuncId)(xs:dM)(Y:ae)(ks:eP)(K:AV->ae->Prop):Prop:=∃l l' r Y1,cZ P G fn xs (bnq ks l Y) r Y1/\L Y1=L Y/\(∀x∈xs,okX ks l x)/\okB ks l (bnq ks l Y)/\okB ks l' Y1/\okX ks l' r/\K r (avs ks l' Y Y1)
def aPf(G:Env)(fn:FuncId):Option (eP):=
 match G.fp fn with
 |none=>J
 |some ks=>bif G.rd fn then J else V ks
theorem bcp{G fn ks}(h:aPf G fn=V ks):G.rd fn=I:=by grind [aPf]
def tR(P:Program)(G:Env)(fn:FuncId)(xs:dM)(Y:ae)(d:Nat)(K:AV->ae->Prop):Prop:=
 match aPf G fn with
 |some ks=>aSX P G fn xs Y ks K
 |none=>∃r Y1,cZ P G fn xs Y r Y1/\L Y1=L Y/\(if G.rd fn=U then Kp Y (kills Y1<|aNN r)/\kG (eR Y1 r)=U/\K (eR Y1 r) Y else K r Y1)
def asb{P G κ w Y β fn a xs d K}(s:zw P κ w Y β)(m:md G κ w Y β)(n:js κ w Y β a xs)(h:tR P G fn xs Y d K):tJ P fn/\Calls P fn a.toArray w λe w'=>∃v av Y' β2,e= .returned v/\K av Y'/\ba κ w' Y' β2 v av/\zw P κ w' Y' β2/\dw w Y β w' Y' β2:=by unfold tR at h;split at h;obtain⟨l,l',r,Y1,c,g,t,f,u,x,M⟩:=h;obtain⟨g1,q⟩:=ba5 s m n g t f u x c;refine⟨g1,q.mono ?_⟩;grind;obtain⟨r,Y1,c,_,f⟩:=h;refine⟨c.1,(c.2 κ w β a s m n).mono ?_⟩;rintro e w' ⟨v,β2,z,B,o,C⟩;split at f;obtain⟨j,D,E⟩:=f;obtain⟨p,F,_⟩:=D1 (aNN r) o;exact⟨v,_,_,β2,z,E,(xK (l:=aNN r) o B<|λb i=>i).convT D (λk c g=>⟨c,λb y i=>g b y<|j.keep _ _ i⟩)<|dA _,s.shrink j F,(C.trans p).shrink j⟩;grind
theorem Ki{P G fn xs Y d K}:tR P G fn xs Y d K↔∃av s,tR P G fn xs Y d (λa b=>a=av/\b=s)/\K av s:=by unfold tR;split;constructor;rintro⟨l,l',r,Y1,c,e,f,g,h,i,k⟩;exact⟨_,_,⟨l,l',r,Y1,c,e,f,g,h,i,A,A⟩,k⟩;rintro⟨av,s,⟨l,l',r,Y1,c,e,f,g,h,i,rfl,rfl⟩,j⟩;exact⟨l,l',r,Y1,c,e,f,g,h,i,j⟩;constructor;rintro⟨r,Y1,c,e,f⟩;split at f;rename_i m;exact⟨eR Y1 r,Y,⟨r,Y1,c,e,vB⟩,f.2.2⟩;rename_i m;exact⟨r,Y1,⟨r,Y1,c,e,vB⟩,f⟩;rintro⟨av,s,⟨r,Y1,c,e,f⟩,j⟩;refine⟨r,Y1,c,e,?_⟩;grind
def asa{P G fn xs Y s av d}(c:aPf G fn=J)(h:tR P G fn xs Y d<|λa b=>a=av/\b=s):L s=L Y/\(G.rd fn=U->s=Y):=by grind [tR,absurd]
def a8E{P G fn xs Y Y0 s av ks}(d:L Y=L Y0)(m:∀k∈ks,aZ Y k=aZ Y0 k)(h:aSX P G fn xs Y ks<|λa b=>a=av/\b=s):∃s0,aSX P G fn xs Y0 ks (λa b=>a=av/\b=s0)/\L s=L Y/\L s0=L Y0/\(∀k∈ks,aZ s k=aZ s0 k)/\(∀k,k∉ks->aZ s k=aZ Y k)/\∀k,k∉ks->aZ s0 k=aZ Y0 k:=by obtain⟨l,l',r,Y1,n,f,g,o,i,j,rfl,rfl⟩:=h;have e:=ba4 (l:=l) d m;refine⟨avs ks l' Y0 Y1,⟨l,l',r,Y1,by rwa [<-e],f.trans d,g,vB,i,j,A,A⟩,aPl,aPl,λk c=>?_,λk c=>aTt c,λk c=>aTt c⟩;grind [jj,aQ3,aOa,aPl]
def vO(Y:ae):eP:=aH<|L Y
def aQn(G:Env)(fn:FuncId)(Y:ae):eP:=
 match aPf G fn with
 |none=>vO Y
 |some ks=>ks
def dK:AV->eP| .p b _ _=>[b.1]| .m b _=>[b.1]| .g _ b _ _=>[b.1]|_=>[]
def dC:AV->eP| .a cs=>cs.flatMap dK|x=>dK x
def pP:AV->eP| .f _ fs cs=>(fs++cs).flatMap dC|x=>dC x
def aNG:AV->eP| .f _ fs cs=>(fs++cs).flatMap pP|x=>dC x
theorem AH{x k}(h:k∈dC x):k∈pP x:=by cases x with|f fn fs cs=>simp[dC,dK] at h|_=>exact h
def aCR{x k}(h:k∈pP x):k∈aNG x:=by cases x with|f fn fs cs=>grind [pP,aNG,AH]|_=>exact h
def eK:ae:=er 4096 mO
theorem py(b):box eK b=J:=by grind [box,aZ,eK]
def qA(x:bY):Bool:=!x.var&&x.own&&x.bA.all λr=>r.all gY
def zI(P:Program)(G:Env)(fn:FuncId)(xs:dM)(Y:ae)(d:Nat)(K:AV->ae->Prop):Prop:=(xs.map<|dG Y).all iX=U/\vg Y d=U/\∃r a,cZ P G fn (xs.map<|dG Y) eK r a/\((r= .l [] U U/\K (.l [] U U) Y)\/∃b n x,r= .m b n/\box a b=V x/\qA x=U/\K (.m (lA Y d) n) (put Y d x))
def buJ{p:Prop}(h:p:=by grind [Go.Ab.py]):p:=h
theorem ase{P G κ w Y β fn m xs d K}(s:zw P κ w Y β)(hG:md G κ w Y β)(D:js κ w Y β m xs)(h:zI P G fn xs Y d K):tJ P fn/\Calls P fn m.toArray w λe w'=>∃v av Y' B,e= .returned v/\K av Y'/\ba κ w' Y' B v av/\zw P κ w' Y' B/\dw w Y β w' Y' B:=by obtain⟨hd,C,r,Y1,o,S⟩:=h;have q:=te C;have hF:=λk hk=>s.old k hk;have ad:∀l,nN κ (kills Y l) β ⟨κ.F,w.heap.size⟩ eK β0:=λl k o S=>⟨o,λb y a=>by rw[py] at a;cases a⟩;have E:nN κ Y β ⟨κ.F,w.heap.size⟩ eK β0:=λk o S=>⟨o,λb y a=>by rw[py] at a;cases a⟩;have ae:∀i x,xs[i]?=V x->iX (dG Y x)=U:=λi x D=>dV.1 hd _<|dN.2 ⟨x,fC D,A⟩;have s0:zw P ⟨κ.F,w.heap.size⟩ w eK β0:=⟨buJ,buJ,hF,dA _⟩;refine⟨o.1,(o.2 ⟨κ.F,w.heap.size⟩ w β0 m s0 (hG.conv E) ⟨by simp[D.1],λi v y hv c=>?_⟩).mono ?_⟩;rw[ve] at c;(cases t:xs[i]? with|none=>simp_all|some x=>rw[t] at c;simp only[df,aOe] at c;subst c;exact(yo<|xK (l:=aNN x) s (D.2 i v x hv t)<|λb a=>a).convA (ae i x t)<|ad _);rintro e w' ⟨v,z,he,hr,s1,ex⟩;have f:Below w.heap.size w w':=⟨ex.os,ex.tape,ex.output,ex.size,λk hk=>ex.keep k hk buJ⟩;obtain⟨rfl,T⟩|⟨b,n,x,rfl,a,M,T⟩:=S;refine⟨v,_,Y,β,he,T,?_,Es s f,xJ s f⟩;(cases hr with|l0 ht=>exact .l0 ht|l1 ho nf aC g hn aD=>simp_all);simp only[qA,bN,eH] at M;have k:=(s1.ok b x a).cl<|nZ hr a;obtain⟨cur,cap,q1,q2,q3,q4,q5⟩:=k.ex;have p:w.heap.size<=z b:=(by obtain h|⟨b0,x0,h0,_⟩:=ex.fresh b x a;exact h;grind [py]);have ac:∀i j y,db x.bA i j=V y->gY y=U:=λi j y c=>(by unfold db at c;cases N:x.bA[i]? with|none=>simp_all|some r=>rw[N] at c;simp only[a6X] at c;exact dV.1 (dV.1 M.2 r<|fC N) y X);refine⟨v,_,_,upd β (lA Y d)<|z b,he,T,?_,?_,um s f q p⟩;obtain⟨R,ah,rfl,hn,hh,W⟩:=oR hr a;have:=ba.m1 (κ:=κ) (w:=w') (β:=upd β (lA Y d)<|z b) (n:=n) (cap:=R) (iy (Y:=Y) (x:=x) q) hn (by rwa [gx]) W k.pos;grind [gx];refine Et (cap:=cap) s f q p k.pos k.info k.rl k.dt q1 q2 q3 q4 λi j y c=>?_;obtain⟨u,u1,u2,u3⟩:=q5 i j y c;refine⟨u,u1,u2,?_⟩;have hs:=ac i j y c;(cases y<;>first|(simp[gY] at hs;done)|skip);obtain⟨h4,h5⟩:=u3.s_inv;rw[h4];exact .s h5
theorem ak2{P G fn xs Y d K}:zI P G fn xs Y d K↔∃av s,zI P G fn xs Y d (λa b=>a=av/\b=s)/\K av s:=by grind [zI]
def DU:AV->Bool| .s _=>U| .l [] false false=>U|_=>I
def vY(x:bY):Bool:=!x.var&&x.own&&x.bA.all λr=>r.all DU
def gU(a:ae)(d:Nat):ae->dM->Option (dM×ae)
 |Y,[]=>V ([],Y)
 |Y,c::cs=>
  match c with
  | .s v=>(gU a d Y cs).map λp=>(.s v::p.1,p.2)
  | .l [] true true=>(gU a d Y cs).map λp=>(.l [] U U::p.1,p.2)
  | .m b n=>
   match box a b with
   |some x=>if vY x=U then(gU a d (put Y d x) cs).map λp=>(.m (lA Y d) n::p.1,p.2) else J
   |none=>J
  |_=>J
def wn(cs:dM):List Id:=cs.flatMap λc=>match c with| .m b _=>[b]|_=>[]
def zJ(P:Program)(G:Env)(fn:FuncId)(xs:dM)(Y:ae)(d:Nat)(K:AV->ae->Prop):Prop:=(xs.map<|dG Y).all iX=U/\vg Y d=U/\∃cs c b Y',cZ P G fn (xs.map<|dG Y) eK (.a cs) c/\(wn cs).Nodup/\gU c d Y cs=V (b,Y')/\K (.a b) Y'
theorem ak3{P G fn xs Y d K}:zJ P G fn xs Y d K↔∃av s,zJ P G fn xs Y d (λa b=>a=av/\b=s)/\K av s:=by grind [zJ]
structure Gv(P:Program)(w:World)(x:bY)(B:Nat):Prop where
 own:x.own=U
 pos:0<x.size
 info:(P.info? x.elem).map (·.size)=V x.size
 rl:∀r∈x.bA,L r=x.size
 dt:x.var=I->∀i j y,db x.bA i j=V y->eN y=U
 ex:∃(cur:Array Value) (cap:Nat),w.heap[B]?=V (.cells cur x.elem (0,0))/\cur.size=cap*x.size/\L x.bA<=cap/\cap<=maxLen/\
  ∀i j y,db x.bA i j=V y->∃v,cur[i*x.size+j]?=V v/\amk v=U/\∀(κ:Ctx) (Y:ae) (β:Id->Nat),ba κ w Y β v y
structure bh7(P:Program)(w w':World)(Y:ae)(β:Id->Nat)(Yc:ae)(βc:Id->Nat):Prop where
 len:L Yc=L Y
 old:∀c y,box Y c=V y->box Yc c=V y/\βc c=β c
 cas:∀c y,box Yc c=V y->(box Y c=V y/\βc c=β c)\/(w.heap.size<=βc c/\Gv P w' y (βc c))
 inj:∀c c' y y',box Yc c=V y->box Yc c'=V y'->βc c=βc c'->c=c'
 dead:∀c,jO Y c=U->jO Yc c=U
section
variable{P:Program}{κ:Ctx}{w w':World}{Y Yc:ae}{β βc:Id->Nat}
theorem bh7.ext(N:bh7 P w w' Y β Yc βc)(s:zw P κ w Y β)(h:Below w.heap.size w w'):dw w Y β w' Yc βc:=
 ⟨h.os,h.tape,h.output,h.size,λk d _=>h.block k d,N.dead,λb x a=> .inr ⟨x,(N.old b x a).1,A,A,A,(N.old b x a).2,λcur f=>⟨cur,by rwa [h.block _<|s.lt a],A⟩⟩,λb x a=>by
  obtain⟨c,e⟩|⟨c,_⟩:=N.cas b x a
  ·grind
  omega⟩
theorem bh7.sim(N:bh7 P w w' Y β Yc βc)(s:zw P κ w Y β)(h:Below w.heap.size w w'):zw P κ w' Yc βc:=by have e:=N.ext s h;refine⟨λc y b=>?_,λc d y z b l i=>N.inj c d y z b l i,λk j=>bpL (s.old k j) h.size,gl s.base h.size⟩;obtain⟨a,g⟩|⟨a,f⟩:=N.cas c y b;exact(s.ok c y a).ext e g<|h.block _<|s.lt a;obtain⟨cur,cap,m,n,o,p,q⟩:=f.ex;exact .of (λ_=>(s.new a).2) (s.new a).1 ⟨f.pos,f.info,f.rl,f.dt,cur,cap,m,n,o,p,X⟩
theorem bh7.put{d x B}(N:bh7 P w w' Y β Yc βc)(e:d<L Yc)(o:w.heap.size<=B)(p:Gv P w' x B)(q:∀c y,box Yc c=V y->βc c≠B):bh7 P w w' Y β (Go.Ab.put Yc d x) (upd βc (lA Yc d) B):=by refine⟨by rw[Bf];exact N.len,λc y a=>?_,λc y a=>?_,λc j y z k l i=>?_,λc a=>Dy e<|N.dead c a⟩;obtain⟨m,n⟩:=N.old c y a;grind [uA,iG,AR];obtain⟨rfl,rfl⟩|⟨b,f⟩:=aRn e a;grind [gx];rw[iG b];exact N.cas c y f;obtain⟨rfl,rfl⟩|⟨b,f⟩:=aRn e k<;>obtain⟨rfl,rfl⟩|⟨g,h⟩:=aRn e l;rfl;grind [gx,iG,absurd];grind [gx,iG,absurd];rw[iG b,iG g] at i;exact N.inj c j y z f h i
theorem aIG{M z q d}(s1:zw P M w' z q)(ao:∀b x,box z b=V x->w.heap.size<=q b):
  ∀(cs) (Yc) (βc) (vs:List Value) (f) (s),bh7 P w w' Y β Yc βc->d<L Yc->(∀b∈wn cs,∀x,box z b=V x->∀c y,box Yc c=V y->βc c≠q b)->(wn cs).Nodup->
   L vs=L cs->(∀(i:Nat) v c,vs[i]?=V v->cs[i]?=V c->ba M w' z q v c)->gU z d Yc cs=V (f,s)->
   ∃e,bh7 P w w' Y β s e/\(∀c y,box Yc c=V y->box s c=V y/\e c=βc c)/\L f=L cs/\∀(i:Nat) v c,vs[i]?=V v->f[i]?=V c->ba κ w' s e v c:=by
 intro cs
 induction cs with
 |nil=>
  grind [gU,aOe,iK]
 |cons c0 cs ih=>
  intro Yc βc vs f s N hd hB W hl hr a
  obtain⟨K,vs,rfl⟩:∃K vs',vs=K::vs':=by
   cases vs with
   |nil=>simp at hl
   |cons v vs=>simp
  have ap:L vs=L cs:=X
  have D:=hr 0 K c0 A rfl
  have ar:∀(i:Nat) v c,vs[i]?=V v->cs[i]?=V c->ba M w' z q v c:=λi v c R B=>hr (i+1) v c R B
  have G:∀x,(∀(κ:Ctx) (Y:ae) (β:Id->Nat),ba κ w' Y β K x)->wn (c0::cs)=wn cs->(gU z d Yc cs).map (λp=>(x::p.1,p.2))=V (f,s)->∃e,bh7 P w w' Y β s e/\(∀c y,box Yc c=V y->box s c=V y/\e c=βc c)/\L f=L (c0::cs)/\∀(i:Nat) v c,(K::vs)[i]?=V v->f[i]?=V c->ba κ w' s e v c:=by
   intro x hx T a
   cases B:gU z d Yc cs with
   |none=>grind
   |some p=>
    grind
  cases c0 with
  |s v=>
   simp only[gU] at a
   refine G (.s v) (λκ Y β=>?_) A a
   obtain⟨F,h5⟩:=D.s_inv
   rw[F];exact .s h5
  |l bA t o=>
   cases bA with
   |nil=>
    cases t with
    |false=>simp[gU] at a
    |true=>
     cases o with
     |false=>simp[gU] at a
     |true=>
      simp only[gU] at a
      refine G (.l [] U U) (λκ Y β=>?_) A a
      cases D with
      |l0 h=>exact .l0 h
      |l1 ho nf an g hn aa=>grind
   |cons r bA=>simp[gU] at a
  |m b n=>
   simp only[gU] at a
   cases E:box z b with
   |none=>grind
   |some x=>
    rw[E] at a
    simp only at a
    by_cases C:vY x=U
    ·rw[zg C] at a
     cases B:gU z d (Go.Ab.put Yc d x) cs with
     |none=>grind
     |some p=>
      rw[B] at a
      simp only[df,aOe,iK] at a
      obtain⟨rfl,rfl⟩:=a
      have T:wn (.m b n::cs)=b::wn cs:=A
      rw[T] at hB W
      obtain⟨aU,ak⟩:=List.nodup_cons.1 W
      simp only[vY,bN,eH] at C
      have k:=(s1.ok b x E).cl<|nZ D E
      obtain⟨cur,cap,k1,k2,k3,k4,k5⟩:=k.ex
      have hf:Gv P w' x (q b):=by
       refine⟨C.1.2,k.pos,k.info,k.rl,k.dt,cur,cap,k1,k2,k3,k4,λi j y S=>?_⟩
       obtain⟨u,u1,u2,u3⟩:=k5 i j y S
       refine⟨u,u1,u2,λκ Y β=>?_⟩
       have hs:DU y=U:=by
        unfold db at S
        cases ab:x.bA[i]? with
        |none=>grind
        |some r=>
         rw[ab] at S
         simp only[a6X] at S
         exact dV.1 (dV.1 C.2 r<|fC ab) y X
       cases y with
       |s v=>
        obtain⟨F,h5⟩:=u3.s_inv
        rw[F];exact .s h5
       |l bA t o=>
        cases bA with
        |nil=>
         cases u3 with
         |l0 h=>exact .l0 h
         |l1 ho nf an g hn aa=>grind
        |cons r bA=>simp[DU] at hs
       |_=>simp[DU] at hs
      have N':=N.put hd (ao b x E) hf X
      obtain⟨e,q1,q2,q3,q4⟩:=ih (Go.Ab.put Yc d x) (upd βc (lA Yc d)<|q b) vs p.1 p.2 N' (by rwa [Bf]) (λb2 aR x2 au c y hc=>by
       obtain⟨am,aV⟩|⟨aa,aT⟩:=aRn hd hc
       ·rw[am,gx]
        intro he
        have:=s1.inj b b2 x x2 E au he
        grind
       grind [iG,List.mem_cons_of_mem]) ak ap ar B
      refine⟨e,q1,λc y hc=>?_,by simp[q3],λi v c R B=>?_⟩
      ·grind [uA,iG,AR]
      ·cases i with
       |zero=>
        simp at R B
        subst R B
        obtain⟨ac,az,rfl,hn,hh,af⟩:=oR D E
        obtain⟨h3,F⟩:=q2 (lA Yc d) x<|iy hd
        rw[gx] at F
        have:=ba.m1 (κ:=κ) (w:=w') (β:=e) (n:=n) (cap:=ac) h3 hn X af k.pos
        grind
       |succ i=>grind
    grind
  |_=>simp[gU] at a
end
theorem asf{P G κ w Y β fn j xs d K}
  (s:zw P κ w Y β)(hG:md G κ w Y β)(q:js κ w Y β j xs)(h:zJ P G fn xs Y d K):
  tJ P fn/\Calls P fn j.toArray w λe w'=>∃v av Y' g,e= .returned v/\K av Y'/\ba κ w' Y' g v av/\zw P κ w' Y' g/\dw w Y β w' Y' g:=by
 obtain⟨hd,p,cs,Y1,D,Y',m,S,W,hK⟩:=h
 have R:=te p
 have hF:=λk B=>s.old k B
 have C:∀l,nN κ (kills Y l) β ⟨κ.F,w.heap.size⟩ eK β0:=λl k m E=>⟨m,λb y f=>by rw[py] at f;cases f⟩
 have t:nN κ Y β ⟨κ.F,w.heap.size⟩ eK β0:=λk m E=>⟨m,λb y f=>by rw[py] at f;cases f⟩
 have M:∀i x,xs[i]?=V x->iX (dG Y x)=U:=λi x q=>dV.1 hd _<|dN.2 ⟨x,fC q,A⟩
 have s0:zw P ⟨κ.F,w.heap.size⟩ w eK β0:=⟨buJ,buJ,hF,dA _⟩
 refine⟨m.1,(m.2 ⟨κ.F,w.heap.size⟩ w β0 j s0 (hG.conv t) ⟨by simp[q.1],λi v y hv r=>?_⟩).mono ?_⟩
 ·rw[ve] at r
  cases o:xs[i]? with
  |none=>simp_all
  |some x=>
   rw[o] at r
   simp only[df,aOe] at r
   subst r
   exact(yo<|xK (l:=aNN x) s (q.2 i v x hv o)<|λb f=>f).convA (M i x o)<|C _
 ·rintro e w' ⟨v,ab,N,hr,s1,ex⟩
  have n:Below w.heap.size w w':=⟨ex.os,ex.tape,ex.output,ex.size,λk B=>ex.keep k B buJ⟩
  have z:∀b x,box Y1 b=V x->w.heap.size<=ab b:=λb x f=>by
   obtain h|⟨b0,x0,h0,_⟩:=ex.fresh b x f
   ·exact h
   grind [py]
  cases hr with
  |@a vs cs hl u T=>
   have N0:bh7 P w w' Y β Y β:=⟨A,O,vB,s.inj,λc h=>h⟩
   obtain⟨g,q1,q2,q3,q4⟩:=aIG (κ:=κ) s1 z cs Y β vs D Y' N0 R (λb _ x f c y u N=>by
    have E:=s.lt u
    grind) S hl T W
   refine⟨_,_,Y',g,N,hK,?_,q1.sim s n,q1.ext s n⟩
   exact .a Z u q4
structure LoC(b:Id)(x1:bY)(Y0 Y1:ae):Prop where
 len:L Y1=L Y0
 ver:∀k,(aZ Y0 k).ver<=(aZ Y1 k).ver
 keep:∀c y,c≠b->box Y0 c=V y->box Y1 c=V y
 here:box Y1 b=V x1
def zH(P:Program)(G:Env)(fn:FuncId)(xs:dM)(Y:ae)(K:AV->ae->Prop):Prop:=∃r b x a n,xs.head?=V (.m b n)/\box Y b=V x/\(qA a=U/\a.elem=x.elem/\a.size=x.size/\a.own=x.own/\a.var=x.var/\L a.bA=L x.bA)/\(r= .t []\/∃e,r= .m b e)/\(∀c,L c=L Y->(∀k∈xs.flatMap pP,aZ Y k=aZ c k)->∃d,cZ P G fn xs c r d/\LoC b a c d)/\K r (wr Y b a)
theorem ak0{P G fn xs Y K}:zH P G fn xs Y K↔∃av s,zH P G fn xs Y (λa b=>a=av/\b=s)/\K av s:=by unfold zH;constructor;rintro⟨r,b,x,h,n,c,d,e,f,g,i⟩;exact⟨_,_,⟨r,b,x,h,n,c,d,e,f,g,A,A⟩,i⟩;rintro⟨av,s,⟨r,b,x,h,n,c,d,e,f,g,rfl,rfl⟩,j⟩;exact⟨r,b,x,h,n,c,d,e,f,g,j⟩
theorem asc{P G κ w Y β fn g xs K}(s:zw P κ w Y β)(hG:md G κ w Y β)(hx:js κ w Y β g xs)(h:zH P G fn xs Y K):tJ P fn/\Calls P fn g.toArray w λe w'=>∃v av Y' z,e= .returned v/\K av Y'/\ba κ w' Y' z v av/\zw P κ w' Y' z/\dw w Y β w' Y' z:=by obtain⟨r,b,x,l,n,hh,o,⟨E,he,hz,hw,hv,hl⟩,hr,S,hK⟩:=h;obtain⟨Y1,B,lo⟩:=S Y A λ_ _=>A;refine⟨B.1,(B.2 κ w β g s hG hx).mono ?_⟩;rintro e w' ⟨v,p,k0,W,C,f⟩;have ab:box (wr Y b l) b=V l:=lO o;have kp:Kp (wr Y b l) Y1:=(by refine⟨by rw[lo.len,wr,List.length_set],λk=>?_,λc y d=>?_⟩;by_cases hk:k=b.1;subst hk;rw[wr,iD<|lN o];exact lo.ver _;rw[wr,jQ hk];exact lo.ver _;obtain⟨rfl,rfl⟩|⟨B,h2⟩:=sL o d;exact lo.here;exact lo.keep c y B h2);have ak:∀c y,box (wr Y b l) c=V y->∃y0,box Y c=V y0:=(by grind [sL]);have al:∀c y,box Y c=V y->∃D,box (wr Y b l) c=V D:=(by grind [DY]);have e':dw w Y β w' (wr Y b l) p:=(by refine⟨f.os,f.tape,f.output,f.size,f.keep,λc d=>Ll o d,λc y d=>?_,λc y d=>?_⟩;obtain⟨D,M⟩:=al c y d;obtain h|⟨x',q1,q2,q3,q4,q5,q6⟩:=f.live c y d;exact aYx (kp.keep _ _ M) (λR=>qD h R);have:=kp.keep _ _ M;simp_all;obtain⟨y0,ah⟩:=ak c y d;obtain h|⟨x',q1,q2,q3,q4,q5,q6⟩:=f.live c y0 ah;exact aYx (kp.keep _ _ d) (λR=>qD h R);grind);have s':zw P κ w' (wr Y b l) p:=(by refine⟨λc y d=>?_,λc c' y D d ac e=>C.inj c c' y D (kp.keep _ _ d) (kp.keep _ _ ac) e,C.old,C.base⟩;have q:=C.ok c y<|kp.keep _ _ d;refine⟨q.ow,q.nf,λN=>?_,q.sp⟩;have k:=q.cl N;obtain⟨cur,cap,p1,p2,p3,p4,p5⟩:=k.ex;refine⟨k.pos,k.info,k.rl,k.dt,cur,cap,p1,p2,p3,p4,λi j a m=>?_⟩;obtain⟨u,u1,u2,u3⟩:=p5 i j a m;refine⟨u,u1,u2,?_⟩;obtain⟨rfl,rfl⟩|⟨aU,ad⟩:=sL o d;have hs:gY a=U:=(by simp only[qA,bN] at E;unfold db at m;cases F:y.bA[i]? with|none=>simp_all|some rr=>rw[F] at m;simp only[a6X] at m;exact dV.1 (dV.1 E.2 rr<|fC F) a X);(cases a<;>first|(simp[gY] at hs;done)|skip);obtain⟨h4,h5⟩:=u3.s_inv;rw[h4];exact .s h5;obtain⟨au,aq,_,_,_,_,g5⟩:=((s.ok c y ad).cl N).ex;obtain⟨v0,_,_,g3⟩:=g5 i j a m;exact u3.shrink kp<|g3.ext e');refine⟨v,r,_,p,k0,hK,?_,s',e'⟩;obtain rfl|⟨n',rfl⟩:=hr;(cases W with|t hl h=>exact .t hl O);obtain⟨ap,ar,rfl,hn,ae,T⟩:=oR W lo.here;exact .m1 ab hn ae T<|nZ W lo.here
def tS(P:Program)(G:Env)(fn:FuncId)(xs:dM)(Y:ae)(d:Nat)(K:AV->ae->Prop):Prop:=zI P G fn xs Y d K\/zH P G fn xs Y K\/zJ P G fn xs Y d K
def asd{P G κ w Y β fn a xs d K}(s:zw P κ w Y β)(c:md G κ w Y β)(f:js κ w Y β a xs)(h:tS P G fn xs Y d K):tJ P fn/\Calls P fn a.toArray w λe w'=>∃v av Y' b,e= .returned v/\K av Y'/\ba κ w' Y' b v av/\zw P κ w' Y' b/\dw w Y β w' Y' b:=by obtain h|h|h:=h;grind [ase];grind [asc];grind [asf]
theorem ak1{P G fn xs Y d K}:tS P G fn xs Y d K↔∃av s,tS P G fn xs Y d (λa b=>a=av/\b=s)/\K av s:=by grind [tS,ak2,ak0,ak3]
def ge(τ:dM)(d:Option Nat)(v:AV):dM:=
 match d with
 |some d=>τ.set d v
 |none=>τ
def rh(ops:Array Oper)(τ:dM)(o:Oper):Option Bool:=
 match o.guard with
 |none=>V U
 |some (j,c)=>
  match(ops[j]?).bind (·.dst) with
  |none=>V I
  |some t=>
   match τ[t]? with
   |some (.s<|.bool b)=>V<|b==c
   |some (.t _)=>V I
   |none=>V I
   |_=>J
def Kh(P:Program)(G:Env)(fn:FuncId)(xs:dM)(Y:ae)(K:AV->Prop):Prop:=∃r,btY P G fn (xs.map<|dG Y) (·=r)/\(xs.map<|dG Y).all iX=U/\kG r=U/\(nA Y xs=I\/uN r=U)/\K r
def j0(P:Program)(G:Env)(τ:dM)(Y:ae)(o:Oper)(K:AV->ae->Prop):Prop:=
 match dz P (du G τ) Y o.op with
 |some av=>K av Y
 |none=>
  match eA P (du G τ) Y (o.dst.getD 0) o.op with
  |some (av,Y')=>K av Y'
  |none=>
   match o.op with
   | .call c=>
    match c.callee with
    | .value f=>
     match du G τ f with
     | .f fn first cap=>
      if G.nw fn=U then tS P G fn (first++c.args.toList.map (du G τ)++cap) Y (o.dst.getD 0) K
      else if G.imp fn=U then tR P G fn (first++c.args.toList.map (du G τ)++cap) Y (o.dst.getD 0) K
      else Kh P G fn (first++c.args.toList.map (du G τ)++cap) Y λr=>K r Y
     |_=>False
    |_=>False
   |_=>False
def kS(P:Program)(G:Env)(ops:Array Oper)(o:Oper)(K:dM->ae->Prop)(τ:dM)(Y:ae):Prop:=
 match rh ops τ o with
 |some true=>j0 P G τ Y o λav Y'=>K (ge τ o.dst av) Y'
 |some false=>K (ge τ o.dst<|.t []) Y
 |none=>False
def rE(P:Program)(G:Env)(ops:Array Oper):List Oper->(dM->ae->Prop)->dM->ae->Prop|[],K=>K|o::l,K=>kS P G ops o<|rE P G ops l K
structure jG(P:Program)(G:Env)(κ:Ctx)(a:Act)(w:World)(τ:dM)(Y:ae)(β:Id->Nat):Prop where
 defers:a.defers=[]
 reps:js κ w Y β a.tmps.toList τ
 sim:zw P κ w Y β
 glob:md G κ w Y β
section
variable{P:Program}{G:Env}{κ:Ctx}{a:Act}{w w':World}{τ τ':dM}{Y Y':ae}{β β':Id->Nat}
theorem js.ext{vs xs}(h:js κ w Y β vs xs)(e:dw w Y β w' Y' β'):js κ w' Y' β' vs xs:=⟨h.1,λi v x b c=>(h.2 i v x b c).ext e⟩
theorem js.get{vs:Array Value}{xs}(h:js κ w Y β vs.toList xs)(t):ba κ w Y β (vs.getD t undef) (xs.getD t .u):=by by_cases e:t<L xs;have f:t<L vs.toList:=(by rwa [h.1]);have b:vs.toList[t]?=V vs.toList[t]:=O;have c:xs[t]?=V xs[t]:=O;have:=h.2 t _ _ b c;have d:vs.getD t undef=vs.toList[t]:=(by have:t<vs.size:=Z;simp_all);simp_all;have:xs.getD t .u= .u:=vB;rw[this];exact .u
def jG.eval(h:jG P G κ a w τ Y β)(x):ba κ w Y β (a.eval x) (du G τ x):=by cases x with|tmp t=>exact h.reps.get t|const v=>exact axB v|global g=>simp only[Act.eval,du];(cases b:G g with|none=>exact .u|some cs=>exact(h.glob g cs b).2)|func f=>exact .f A rfl O O
theorem js.set{vs:Array Value}{xs v x}(h:js κ w Y β vs.toList xs)(d)(f:ba κ w Y β v x):js κ w Y β (vs.setIfInBounds d v).toList (xs.set d x):=by refine⟨by simpa using h.1,λi u y b c=>?_⟩;rw[aqq,xh] at b;rw[xh] at c;by_cases e:d=i;simp_all;rw[za e] at b c;exact h.2 i u y b c
theorem jG.put(h:jG P G κ a w τ Y β)(e:dw w Y β w' Y' β')(s:zw P κ w' Y' β')(d:Option Nat){v x}(b:ba κ w' Y' β' v x):jG P G κ (a.put d v) w' (ge τ d x) Y' β':=by cases d with|none=>exact⟨h.defers,h.reps.ext e,s,h.glob.ext e⟩|some d=>exact⟨h.defers,(h.reps.ext e).set d b,s,h.glob.ext e⟩
theorem QT:ba κ w Y β undef (.t []):= .t (vs:=[]) A O
theorem apG{ops o b}(h:jG P G κ a w τ Y β)(d:rh ops τ o=V b):Region.wanted o (yielded ops a.tmps)=b:=by unfold rh at d;unfold Region.wanted;split at d;simp_all;rename_i j e m;rw[m];simp only;unfold yielded;cases l:(ops[j]?).bind (·.dst) with|none=>simp_all|some t=>rw[l] at d;simp only[a6X] at d⊢;by_cases n:t<L τ;have p:t<L a.tmps.toList:=(by rwa [h.reps.1]);have f:τ[t]?=V τ[t]:=O;have i:a.tmps[t]?=V (a.tmps.toList[t]):=O;have k:=h.reps.2 t _ _ (eC p) f;rw[f] at d;rw[i];generalize a.tmps.toList[t]=v at*;generalize τ[t]=x at*;(cases x with|s u=>obtain⟨rfl,_⟩:=k.s_inv;(cases v<;>simp only at d<;>first|(cases d;done)|skip);(cases d);rename_i c;(cases c<;>cases e<;>rfl)|t vs=>(cases d);(cases k with|t=>rfl)|_=>cases d);have g:=Nat.le_of_not_lt n;rw[qi g] at d;(cases d);have:a.tmps[t]?=J:=(by have q:=h.reps.1;simp_all);grind
def vE(P:Program)(G:Env)(κ:Ctx)(w:World)(Y:ae)(β:Id->Nat)(K:dM->ae->Prop)(b:Act)(w':World):Prop:=∃τ' Y' β',K τ' Y'/\jG P G κ b w' τ' Y' β'/\dw w Y β w' Y' β'
theorem ash{o K N Q}(h:jG P G κ a w τ Y β)(b:j0 P G τ Y o K)(q:∀av Y' v w' β',K av Y'->ba κ w' Y' β' v av->zw P κ w' Y' β'->dw w Y β w' Y' β'->N (a.put o.dst v) w'):o.wp P a w N Q:=by unfold j0 at b;split at b;rename_i av B;obtain⟨v,l,p⟩:=aHZ h.sim h.eval B;unfold Oper.wp;rw[l];exact q av Y v w β b p h.sim<|dw.refl _ _ _;split at b;rename_i av Y' he;obtain⟨nx,v,w',β',l,p,F,M,R⟩:=axL h.sim h.eval he;unfold Oper.wp;rw[l];obtain rfl|⟨rfl,rfl⟩:=p;exact q av Y' v w' β' b F M R;exact q av Y' undef w' β' b F M R;split at b;rename_i c aa;split at b;rename_i f u;split at b;rename_i fn first cap hf;have C:=h.eval f;rw[hf] at C;generalize T:a.eval f=fv at C;(cases C with|@f _ fs cs _ _ hl W B ab=>have j:js κ w Y β (fs++c.args.toList.map a.eval++cs) (first++c.args.toList.map (du G τ)++cap):=(by have t:∀{vs D:List Value} {xs ys:dM},js κ w Y β vs xs->js κ w Y β D ys->js κ w Y β (vs++D) (xs++ys):=λ{vs D xs ys} l p=>(by refine⟨by simp[l.1,p.1],λi v x g k=>?_⟩;rw[rA] at g k;rw[l.1] at g;split at g;rename_i z;rw[zg z] at k;exact l.2 i v x g k;rename_i z;rw[za z] at k;exact p.2 _ v x g k);refine t (t ⟨hl,B⟩ ⟨O,λi v x g k=>?_⟩) ⟨W,ab⟩;rw[ve] at g k;cases hc:c.args.toList[i]? with|none=>simp_all|some y=>rw[hc] at g k;cases g;cases k;exact h.eval y);have n:tJ P fn->(execOp a.eval o).run P w= .ok (.enter fn (fs++c.args.toList.map a.eval++cs).toArray) w:=(by rintro⟨fd,cd,e1,e2,e3⟩;have s:fs.toArray++Array.map a.eval c.args++cs.toArray=(fs++c.args.toList.map a.eval++cs).toArray:=O;simp only[execOp,aa,resolve,u,T,Deferred.ofValue,invoke,Sem.run_bind,Sem.run_pure,Result.andThen_ok,callFunc,s];simp_all);split at b;obtain⟨m,d⟩:=asd h.sim h.glob j b;unfold Oper.wp;rw[n m];refine Calls.mono d ?_;grind;split at b;obtain⟨m,d⟩:=asb h.sim h.glob j b;unfold Oper.wp;rw[n m];refine Calls.mono d ?_;grind;obtain⟨r0,E,f2,f3⟩:=b;have d:=axb h.sim h.glob j E f2 vB;unfold Oper.wp;rw[n E.1];refine Calls.mono d ?_;rintro e w' ⟨v,r,rfl,hR,g,S⟩;subst hR;exact q r Y v w' β f3.2.2 g (Es h.sim S)<|xJ h.sim S);simp_all;simp_all;simp_all
theorem ak5{ops o K N Q}(h:jG P G κ a w τ Y β)(b:kS P G ops o K τ Y)(f:∀d w',vE P G κ w Y β K d w'->N d w'):if Region.wanted o (yielded ops a.tmps) then o.wp P a w N Q\/(o.asks P a w/\LetsOut Q) else N (a.put o.dst undef) w:=by unfold kS at b;split at b;rename_i c;rw[apG h c,zg A];left;refine ash h b (λav Y' v w' β' g i s e=>f _ _ ⟨_,_,β',g,h.put e s o.dst i,e⟩);rename_i c;rw[apG h c,za O];exact f _ _ ⟨_,_,β,b,h.put (dw.refl _ _ _) h.sim o.dst QT,dw.refl _ _ _⟩;simp_all
theorem vE.trans{K f c b d}(h:vE P G κ w Y β K d w')(e:dw f c b w Y β):vE P G κ f c b K d w':=by obtain⟨τ',Y',β',g,i,j⟩:=h;exact⟨τ',Y',β',g,i,e.trans j⟩
theorem asm{ops Q K}:∀(l) (k) {a w τ Y β},ops.toList.drop k=l->jG P G κ a w τ Y β->rE P G ops l K τ Y->(∀b w',vE P G κ w Y β K b w'->Q .normal b w')->wpOps P ops Q (GO k<|ops.size-k) a w:=λl=>by induction l with|nil=>intro k a w τ Y β e h d c;have:ops.size-k=0:=vB;rw[this];exact c a w ⟨τ,Y,β,d,h,dw.refl _ _ _⟩|cons o l r=>intro k a w τ Y β e h d c;have t:k<ops.size:=(by have:=bss L e;grind);have q:ops[k]?=V o:=(by grind [qh]);have f:ops.toList.drop (k+1)=l:=(by have:=bss GQ e;simpa using this);rw[show ops.size-k=(ops.size-(k+1))+1 by omega,RX];simp only[wpOps,q];refine ak5 h d (λb w' p=>?_);obtain⟨τ',Y',β',j,m,n⟩:=p;exact r (k+1) f m j (λi s g=>c i s<|g.trans n)
end
def yf:Op->Bool| .move _| .assign _=>U|_=>I
def iU(E:Operand->AV)(op:Op):eP:=bif yf op then[] else op.operands.toList.flatMap λx=>aNG<|E x
theorem aOt{E op x k}(h:yf op=I)(b:x∈op.operands.toList)(a:k∈aNG (E x)):k∈iU E op:=by grind [iU]
theorem nQ{Y Y0 b}(h:aZ Y b.1=aZ Y0 b.1):box Y b=box Y0 b:=by unfold box;rw[h]
def iL(Y Y0:ae)(ks:eP):Prop:=∀k∈ks,aZ Y k=aZ Y0 k
def RG(E E0:Operand->AV)(Y Y0:ae)(x:Operand):Prop:=E x=E0 x/\iL Y Y0 (aNG<|E x)
section
variable{P:Program}{E E0:Operand->AV}{Y Y0:ae}
def btp{p:Prop}(h:p:=by simp[Go.Ab.aNG,Go.Ab.dC,Go.Ab.dK]):p:=h
theorem yF{b i j}(h:iL Y Y0<|aNG<|.p b i j):box Y b=box Y0 b:=nQ<|h _ btp
theorem yE{b n}(h:iL Y Y0<|aNG<|.m b n):box Y b=box Y0 b:=nQ<|h _ btp
theorem Q3{k b o n}(h:iL Y Y0<|aNG<|.g k b o n):box Y b=box Y0 b:=nQ<|h _ btp
def aE8{x}(h:iL Y Y0<|aNG x):iE Y x=iE Y0 x:=by(cases x<;>simp only[iE]);rw[yF h]
def azR{s x f}(h:iL Y Y0<|aNG x):vX P Y s x f=vX P Y0 s x f:=by(cases x<;>simp only[vX]);rw[yF h]
def aB3{t x i}(h:iL Y Y0<|aNG x):uy P Y t x i=uy P Y0 t x i:=by(cases x<;>simp only[uy]);rw[yF h];rw[yE h];rw[Q3 h]
def aIn{t x lo a mx}(h:iL Y Y0<|aNG x):uX P Y t x lo a mx=uX P Y0 t x lo a mx:=by(cases x<;>simp only[uX]);rw[yE h]
theorem aC8{t x}(h:iL Y Y0<|aNG x):aPH P Y t x=aPH P Y0 t x:=by unfold aPH;grind [yE,Q3]
theorem aDo{a x ix b}(h:iL Y Y0<|aNG x):oP a Y x ix b=oP a Y0 x ix b:=by unfold oP;grind [Q3]
theorem Kn{x}(h:∀y,x=V y->E y=E0 y):rH E x=rH E0 x:=by cases x with|none=>rfl|some y=>grind [rH]
theorem aHY{op}(h:∀x∈op.operands.toList,RG E E0 Y Y0 x):dz P E Y op=dz P E0 Y0 op:=by cases op with|move x=>simp only[dz];rw[(h x<|by simp[Op.operands]).1]|assign x=>simp only[dz];rw[(h x<|by simp[Op.operands]).1]|pick c a b=>simp only[dz];rw[(h c<|by simp[Op.operands]).1,(h a<|by simp[Op.operands]).1,(h b<|by simp[Op.operands]).1]|load t x=>obtain⟨e,k⟩:=h x (by simp[Op.operands]);simp only[dz];rw[<-e,aE8 k]|nilCheck x=>obtain⟨e,k⟩:=h x (by simp[Op.operands]);simp only[dz];grind [yF]|binOp op ty x y _=>simp only[dz];rw[(h x<|by simp[Op.operands]).1,(h y<|by simp[Op.operands]).1]|unOp op _ x=>simp only[dz];rw[(h x<|by simp[Op.operands]).1]|convert s d x=>simp only[dz];rw[(h x<|by simp[Op.operands]).1]|fieldAddr s x f=>obtain⟨e,k⟩:=h x (by simp[Op.operands]);simp only[dz];rw[<-e,azR k]|field t x f=>simp only[dz];rw[(h x<|by simp[Op.operands]).1]|indexAddr t x ix=>obtain⟨e,k⟩:=h x (by simp[Op.operands]);simp only[dz];rw[<-e,(h ix<|by simp[Op.operands]).1];simp only[aB3 k]|index t x ix=>simp only[dz];rw[(h x<|by simp[Op.operands]).1,(h ix<|by simp[Op.operands]).1]|extract x i=>simp only[dz];rw[(h x<|by simp[Op.operands]).1]|lookup t x ix v=>obtain⟨e,k⟩:=h x (by simp[Op.operands]);simp only[dz];rw[<-e,<-(h ix<|by simp[Op.operands]).1];grind [a6q,aDo]|slice t x lo r mx=>obtain⟨e,k⟩:=h x (by simp[Op.operands]);simp only[dz];rw[<-e,Kn (x:=lo)<|λy n=>(h y<|by simp[Op.operands,n]).1,Kn (x:=r)<|λy n=>(h y<|by simp[Op.operands,n]).1,Kn (x:=mx)<|λy n=>(h y<|by simp[Op.operands,n]).1];simp only[aIn k]|makeFunc c first cap=>(cases c<;>simp only[dz]);rw[ja (f:=E) (g:=E0) (l:=first.toList)<|λx m=>(h x<|by simp[Op.operands,vj.1 m]).1,ja (f:=E) (g:=E0) (l:=cap.toList)<|λx m=>(h x<|by simp[Op.operands,vj.1 m]).1]|call c=>simp only[dz];(cases u:c.callee with|builtin b=>have j:∀x∈c.args.toList,RG E E0 Y Y0 x:=(by grind [Op.operands,Call.operands]);simp only;unfold nP;split;split;rename_i t x q o;have m:x∈c.args.toList:=X;obtain⟨e,k⟩:=j x m;rw[<-e,aC8 k];rfl;split;rename_i t x q o;have m:x∈c.args.toList:=(by rw[<-Array.getElem?_toList] at o;exact fC o);rw[(j x m).1];rfl;split;rename_i x y p;rw[p] at j;rw[(j x O).1,(j y O).1];rfl;split;rename_i x y p;rw[p] at j;rw[(j x O).1,(j y O).1];rfl;rfl|_=>rfl)|_=>rfl
theorem aom{op}(c:∀x∈op.operands.toList,E x=E0 x)(hs:∀k∈iU E op,aZ Y k=aZ Y0 k):dz P E Y op=dz P E0 Y0 op:=by cases a:yf op with|false=>exact aHY λx b=>⟨c x b,λk d=>hs k (aOt a b d)⟩|true=>(cases op<;>first|(simp[yf] at a;done)|skip);simp_all [dz,Op.operands];simp_all [dz,Op.operands]
end
def Ag(ks:eP)(Y Y0:ae):Prop:=L Y=L Y0/\iL Y Y0 ks
def vF(ks:eP)(Y Y':ae):Prop:=L Y'=L Y/\∀k,k∉ks->aZ Y' k=aZ Y k
def St(ks:eP)(Y Y0 Y' Y0':ae):Prop:=Ag ks Y' Y0'/\vF ks Y Y'/\vF ks Y0 Y0'
def LR(ks:eP)(Y Y0:ae)(x y:Option<|AV×ae):Prop:=(x=J/\y=J)\/∃a Y' Y0',x=V (a,Y')/\y=V (a,Y0')/\St ks Y Y0 Y' Y0'
section
variable{P:Program}{E E0:Operand->AV}{Y Y0 Y' Y0' Y'' Y0'':ae}{ks:eP}
theorem St.refl(h:Ag ks Y Y0):St ks Y Y0 Y Y0:=⟨h,⟨A,λ_ _=>A⟩,⟨A,λ_ _=>A⟩⟩
theorem vF.trans(h:vF ks Y Y')(a:vF ks Y' Y''):vF ks Y Y'':=⟨a.1.trans h.1,λk b=>(a.2 k b).trans<|h.2 k b⟩
theorem St.trans(h:St ks Y Y0 Y' Y0')(a:St ks Y' Y0' Y'' Y0''):St ks Y Y0 Y'' Y0'':=⟨a.1,h.2.1.trans a.2.1,h.2.2.trans a.2.2⟩
theorem D4(Y)(k j)(v):aZ (Y.set k v) j=if k=j/\k<L Y then v else aZ Y j:=by grind [aZ]
theorem St.set(h:Ag ks Y Y0){k}(b:k∈ks)(v):St ks Y Y0 (Y.set k v) (Y0.set k v):=by refine⟨⟨by simp[h.1],λj a=>?_⟩,⟨O,λj a=>?_⟩,⟨O,λj a=>?_⟩⟩;rw[D4,D4,h.1,h.2 j a];grind [D4];grind [D4]
theorem St.put(h:Ag ks Y Y0){d}(a:d∈ks)(x):St ks Y Y0 (put Y d x) (put Y0 d x):=by unfold Ab.put;rw[<-h.2 d a];exact .set h a _
theorem uI(h:Ag ks Y Y0){d}(a:d∈ks):lA Y0 d=lA Y d:=by unfold lA;rw[h.2 d a]
theorem St.kill(h:Ag ks Y Y0){b}(a:b.1∈ks):St ks Y Y0 (kill Y b) (kill Y0 b):=by unfold Ab.kill;rw[<-h.2 _ a];exact .set h a _
theorem St.wr(h:Ag ks Y Y0){b}(a:b.1∈ks)(x):St ks Y Y0 (wr Y b x) (wr Y0 b x):=by unfold Ab.wr;rw[<-h.2 _ a];exact .set h a _
theorem St.kills:∀(l) {Y Y0},Ag ks Y Y0->(∀b∈l,b.1∈ks)->St ks Y Y0 (kills Y l) (kills Y0 l):=λl=>by induction l with|nil=>intro Y Y0 h _;exact .refl h|cons b l e=>intro Y Y0 h c;have d:=c b O;have:=nQ<|h.2 _ d;have a:St ks Y Y0 (if(box Y b).isSome then Ab.kill Y b else Y) (if(box Y0 b).isSome then Ab.kill Y0 b else Y0):=(by grind [kill,refl]);exact a.trans<|e a.1 X
def ye(h:Ag ks Y Y0)(d):vg Y0 d=vg Y d:=by unfold vg;rw[h.1]
def amf{x}(h:iL Y Y0<|dK x):aTH Y x=aTH Y0 x:=by cases x with|m b n=>simp only[aTH];rw[nQ (h _<|by simp[dK])]|_=>rfl
theorem iL.of_mem{l:dM}{f}(h:iL Y Y0<|l.flatMap f){x}(b:x∈l):iL Y Y0 (f x):=λk a=>h k X
def amh{x}(h:iL Y Y0<|dC x):eR Y x=eR Y0 x:=by cases x with|a cs=>simp only[eR];rw[ja (λx c=>amf<|iL.of_mem (f:=dK) h c)]|m b n=>exact amf (x:= .m b n) h|_=>rfl
def DZ{x k}(h:k∈dC x):k∈aNG x:=by cases x with|f fn a b=>simp[dC,dK] at h|_=>exact h
def ami{x}(h:iL Y Y0<|aNG x):eR Y x=eR Y0 x:=amh (λk a=>h k<|DZ a)
def aH2{q x}(h:iL Y Y0<|aNG x):aEx q Y x=aEx q Y0 x:=by(cases x<;>simp only[aEx]);rw[yE h]
def aIK{x}(h:iL Y Y0<|aNG x):aBG Y x=aBG Y0 x:=by(cases x<;>simp only[aBG]);rw[yF h]
theorem amC{x b}(h:b∈iR x):b.1∈dK x:=by(cases x<;>simp[iR,dK] at h⊢);rw[h]
theorem Nx{x b}(h:b∈aNN x):b.1∈aNG x:=by apply DZ;cases x with|a cs=>grind [aNN,dC,amC]|m b n=>exact amC (x:= .m b n) h|_=>simp[aNN,iR] at h
def LR.same(h:Ag ks Y Y0)(x:Option AV):LR ks Y Y0 (x.map λa=>(a,Y)) (x.map λa=>(a,Y0)):=by cases x with|none=>exact .inl ⟨rfl,rfl⟩|some a=>exact .inr ⟨a,Y,Y0,rfl,rfl, .refl h⟩
theorem LR.none:LR ks Y Y0 J J:= .inl ⟨A,A⟩
def LR.some{a}(h:St ks Y Y0 Y' Y0'):LR ks Y Y0 (V (a,Y')) (V (a,Y0')):= .inr ⟨a,Y',Y0',A,A,h⟩
theorem LR.ite{c}[Decidable c]{x y x' a}(b:c->LR ks Y Y0 x x')(d:¬c->LR ks Y Y0 y a):LR ks Y Y0 (if c then x else y) (if c then x' else a):=X
theorem LR.step{x y}(h:St ks Y Y0 Y' Y0')(k:LR ks Y' Y0' x y):LR ks Y Y0 x y:=by obtain k|⟨a,s,s0,b,c,d⟩:=k;exact .inl k;exact .inr ⟨a,s,s0,b,c,h.trans d⟩
def avv{q d t s x}(h:Ag ks Y Y0)(e:d∈ks)(hs:∀k∈aNG s,k∈ks)(j:∀k∈aNG x,k∈ks):LR ks Y Y0 (tV q P Y d t s x) (tV q P Y0 d t s x):=by have ks':iL Y Y0 (aNG s):=λk f=>h.2 k<|hs k f;have g:iL Y Y0 (aNG x):=λk f=>h.2 k<|j k f;unfold tV;rw[<-aH2 g];split;split;refine LR.ite (λc=>?_) (λc=>?_);(cases s<;>simp only<;>first|exact LR.none|exact LR.some (.refl h)|skip);rw[<-yE ks'];rename_i b n;(cases box Y b with|none=>exact LR.none|some _=>exact LR.some<|.refl h);rw[ye h,uI h e];refine LR.ite (λc=>?_) (λc=>LR.none);(cases s with|l bA a own=>(cases a with|false=>exact LR.none|true=>exact LR.ite (λ_=>LR.some<|.put h e _)<|λ_=>LR.none)|m b n=>simp only;rw[<-yE ks'];(cases o:box Y b with|none=>exact LR.none|some bx=>refine LR.ite (λ_=>?_) (λ_=>LR.none);have i:St ks Y Y0 (kill Y b) (kill Y0 b):= .kill h<|hs _ btp;exact LR.some<|i.trans<|.put i.1 e _)|_=>exact LR.none);exact LR.none;exact LR.none
def aoJ{t x v}(h:Ag ks Y Y0)(a:∀k∈aNG x,k∈ks):LR ks Y Y0 ((ra P Y t x v).map λY'=>(AV.t [],Y')) ((ra P Y0 t x v).map λY'=>(AV.t [],Y')):=by have c:iL Y Y0 (aNG x):=λk d=>h.2 k<|a k d;cases x with|p b i j=>simp only[ra];rw[<-yF c];(cases box Y b with|none=>exact LR.none|some bx=>cases eY v with|none=>exact LR.none|some cs=>simp only;cases bx.bA[i]? with|none=>exact LR.none|some r=>simp only;split;exact LR.some<|.wr h (a _ btp) _;exact LR.none)|_=>exact LR.none
def aDY{d t l c}(h:Ag ks Y Y0)(a:d∈ks):LR ks Y Y0 (wA P Y d t l c) (wA P Y0 d t l c):=by unfold wA;split;split;rw[ye h,uI h a];exact LR.ite (λ_=>LR.some<|.put h a _) (λ_=>LR.none);exact LR.none;exact LR.none
def byT{d t a s x}(h:Ag ks Y Y0)(b:d∈ks):LR ks Y Y0 (bt1 P Y d t a s x) (bt1 P Y0 d t a s x):=by unfold bt1;split;split;exact LR.ite (λ_=>aDY h b) (λ_=>LR.none);exact LR.none;exact LR.none
theorem axg{z x}(h:Ag ks Y Y0)(c:∀k∈aNG x,k∈ks):LR ks Y Y0 ((pA z Y x).map λY'=>(AV.t [],Y')) ((pA z Y0 x).map λY'=>(AV.t [],Y')):=by unfold pA;split;exact LR.some<|.refl h;rename_i b o n;have a:b.1∈ks:=c _ btp;rw[<-nQ (h.2 _ a)];split;split;exact LR.some<|.wr h a _;exact LR.none;exact LR.none;exact LR.none
def by6{x y:AV}(h:Ag ks Y Y0)(d:∀k∈aNG x,k∈ks):LR ks Y Y0 (cyA Y x y) (cyA Y0 x y):=by unfold cyA;split;rename_i b n new _ _;have c:b.1∈ks:=d _ btp;rw[<-nQ (h.2 _ c)];split;split;by_cases a:min (L new) n=0;rw[zg a,zg a];exact LR.some<|.refl h;rw[za a,za a];exact LR.some<|.wr h c _;exact LR.none;exact LR.none;exact LR.none
theorem aD8{c x k v}(h:Ag ks Y Y0)(d:∀k∈aNG x,k∈ks):LR ks Y Y0 ((muA c Y x k v).map λY'=>(AV.t [],Y')) ((muA c Y0 x k v).map λY'=>(AV.t [],Y')):=by unfold muA;split;rename_i b _ _ kv vv _;have a:b.1∈ks:=d _ btp;rw[<-nQ (h.2 _ a)];split;split;split;split;exact LR.some<|.wr h a _;split;exact LR.some<|.wr h a _;exact LR.none;exact LR.none;exact LR.none;exact LR.none;exact LR.none;exact LR.none
theorem aEy{x}(h:Ag ks Y Y0)(c:∀k∈aNG x,k∈ks):LR ks Y Y0 (se Y x) (se Y0 x):=by unfold se;split;rename_i b _ _;have a:b.1∈ks:=c _ btp;rw[<-nQ (h.2 _ a)];split;split;split;split;exact LR.some<|.wr h a _;exact LR.some<|.refl h;exact LR.none;exact LR.none;exact LR.none;exact LR.none
def aOF(E:Operand->AV)(Y:ae)(op:Op):eP:=
 match op with
 | .store _ x _=>if aBG Y (E x)=U then aNG (E x) else iU E op
 |_=>iU E op
theorem a6O{E Y op k}(h:k∈aOF E Y op):k∈iU E op:=by cases op with|store t x v=>simp only[aOF] at h;split at h;exact aOt A (by simp[Op.operands]) h;exact h|_=>exact h
theorem a6P{E Y t x v k}(h:k∈aNG (E x)):k∈aOF E Y (.store t x v):=by simp only[aOF];split;exact h;exact aOt A (by simp[Op.operands]) h
def btH:Op->Bool| .store .. | .build .. | .buildSlice .. | .mapUpdate .. | .next .. =>I|_=>U
theorem axK{op d}(h:Ag ks Y Y0)(j:∀x∈op.operands.toList,E x=E0 x)(W:∀k∈iU E op,k∈ks)(n:(btH op||aO3 P op)=U->d∈ks):LR ks Y Y0 (eA P E Y d op) (eA P E0 Y0 d op):=by by_cases D:yf op=U;(cases op<;>first|(simp[yf] at D;done)|exact LR.none);have q:∀x∈op.operands.toList,∀k∈aNG (E x),k∈ks:=(by grind [aOt]);cases op with|alloc e=>have i:=n rfl;simp only[eA];split;rw[ye h,uI h i];exact LR.ite (λ_=>LR.some<|.put h i _) (λ_=>LR.none);exact LR.none|box e x=>have i:=n A;simp only[eA];rw[<-j x (by simp[Op.operands])];split;rw[ye h,uI h i];exact LR.ite (λ_=>LR.some<|.put h i _) (λ_=>LR.none);exact LR.none|build t f=>simp only[eA];rw[ja (g:=λp=>(p.1,E0 p.2))<|by grind [Op.operands,CA]];have:=LR.same (ks:=ks) h ((vS P t<|f.toList.map λp=>(p.1,E0 p.2)).map AV.a);simpa[Option.map_map,Function.comp_def] using this|buildSlice t len f=>simp only[eA];by_cases o:aPm P t=U;have i:=n (by simp[aO3,o]);rw[zg o,zg o,ja (g:=λp=>(p.1,E0 p.2))<|by grind [Op.operands,CA]];unfold lvA;split;split;rw[ye h,uI h i];exact LR.ite (λ_=>LR.some<|.put h i _) (λ_=>LR.none);exact LR.none;exact LR.none;rw[za o,za o];have S:∀p∈f.toList,p.2∈(Op.buildSlice t len f).operands.toList:=(by grind [Op.operands,CA]);have N:(f.toList.map λp=>(p.1,nrm<|eR Y0<|E0 p.2))=f.toList.map λp=>(p.1,nrm<|eR Y<|E p.2):=ja (λp F=>by rw[<-j _ (S p F),ami<|λk u=>h.2 k X]);have R:(f.toList.flatMap λp=>aNN<|E0 p.2)=f.toList.flatMap λp=>aNN (E p.2):=(by grind [ja]);rw[N,R];(cases xB P t len (f.toList.map λp=>(p.1,nrm<|eR Y<|E p.2)) with|none=>exact LR.none|some bA=>refine LR.some (.kills _ h<|λb C=>?_);grind [Nx])|makeSlice t l c=>have i:=n A;simp only[eA];rw[<-j l (by simp[Op.operands]),<-j c (by simp[Op.operands])];split;exact aDY h i;exact LR.none|store t x v=>simp only[eA];have w:=q x (by simp[Op.operands]);have K:=q v (by simp[Op.operands]);rw[<-j x (by simp[Op.operands]),<-j v (by simp[Op.operands]),<-aIK (λk u=>h.2 k<|w k u),<-ami (λk u=>h.2 k<|K k u)];refine LR.ite (λ_=>aoJ h w) (λ_=>?_);have M:St ks Y Y0 (kills Y<|aNN<|E v) (kills Y0<|aNN<|E v):= .kills _ h (λb C=>K _<|Nx C);exact LR.step M (aoJ M.1 w)|call c=>have i:=n A;simp only[eA];split;rename_i B;have m:∀x∈c.args.toList,x∈(Op.call c).operands.toList:=(by grind [Op.operands,Call.operands]);split;rename_i s x t T o G;rw[o] at m;rw[<-j s (m s O),<-j x (m x O)];exact LR.ite (λ_=>avv h i (q s<|m s O)<|q x<|m x O) (λ_=>byT h i);exact LR.none;rename_i B;have m:∀x∈c.args.toList,x∈(Op.call c).operands.toList:=(by grind [Op.operands,Call.operands]);split;rename_i x t o G;rw[o] at m;rw[<-j x (m x O)];(cases xD P t with|none=>exact LR.none|some z=>grind [axg]);exact LR.none;rename_i B;have m:∀x∈c.args.toList,x∈(Op.call c).operands.toList:=λx w=>(by simp[Op.operands,Call.operands,B,vj.1 w]);split;rename_i x y t T o G;rw[o] at m;rw[<-j x (m x O),<-j y (m y O)];exact LR.ite (λ_=>by6 h<|q x<|m x O) (λ_=>LR.none);exact LR.none;exact LR.none|makeMap t r=>have i:=n A;simp only[eA];(cases r with|none=>simp only[oS];rw[ye h,uI h i];exact LR.ite (λ_=>LR.some<|.put h i _) (λ_=>LR.none)|some _=>exact LR.none)|mapUpdate t x k v=>simp only[eA];rw[<-j x (by simp[Op.operands]),<-j k (by simp[Op.operands]),<-j v (by simp[Op.operands])];(cases a6q P t with|none=>exact LR.none|some mt=>grind [aD8,Op.operands])|range t x=>have i:=n A;simp only[eA];rw[<-j x (by simp[Op.operands])];split;unfold tu;split;rw[ye h,uI h i];exact LR.ite (λ_=>LR.some<|.put h i _) (λ_=>LR.none);exact LR.none;exact LR.none|next x st=>grind [eA,Op.operands,aEy,LR.none]|_=>exact LR.none
theorem bbg{op d}(h:Ag ks Y Y0)(a:∀x∈op.operands.toList,E x=E0 x)(i:∀k∈aOF E Y op,k∈ks)(c:(btH op||aO3 P op)=U->d∈ks):LR ks Y Y0 (eA P E Y d op) (eA P E0 Y0 d op):=by by_cases hs:∃t x v,op= .store t x v/\aBG Y (E x)=U;obtain⟨t,x,v,rfl,b⟩:=hs;have g:∀k∈aNG (E x),k∈ks:=(by grind [a6P]);simp only[eA];rw[<-a x (by simp[Op.operands]),<-a v (by simp[Op.operands]),<-aIK (λk f=>h.2 k<|g k f),zg b,zg b];exact aoJ h g;refine axK h a (λk e=>i k ?_) c;cases op with|store t x v=>grind [aOF]|_=>exact e
end
section
variable{P:Program}{G:Env}{Y Y0:ae}{ks:eP}
theorem Ag.all(h:Ag (vO Y) Y Y0):Y0=Y:=aqI λk=>by obtain a|a:=jj k<|L Y;have:=h.2 k<|fq.2 a;have:k<L Y0:=(by rwa [<-h.1]);grind [aZ,eC];rw[qi a,qi<|by rwa [<-h.1]]
theorem St.all{Y'}(c:L Y'=L Y):St (vO Y) Y Y Y' Y':=by
 have a:vF (vO Y) Y Y':=⟨c,λk b=>by
  have:L Y<=k:=by
   obtain h|h:=jj k<|L Y
   ·exact aYx (fq.2 h) b
   ·exact h
  grind [aZ,qi]⟩
 exact⟨⟨A,λk _=>A⟩,a,a⟩
end
abbrev fY:=Bool×eP
def NC:Op->Bool| .build .. =>U|_=>I
def vT(G:Env)(τ:dM)(Y:ae)(o:Oper):fY:=
 match o.op with
 | .call c=>
  match c.callee with
  | .value f=>
   match du G τ f with
   | .f fn first cap=>if G.nw fn=U then(I,iU (du G τ) o.op++[o.dst.getD 0]) else if G.imp fn=U then(G.rd fn,aQn G fn Y) else(U,iU (du G τ) o.op)
   |_=>(U,[])
  |_=>(U,[])
 |_=>(U,[])
def lab(P:Program)(G:Env)(ops:Array Oper)(τ:dM)(Y:ae)(o:Oper):fY:=
 match rh ops τ o with
 |some true=>
  match dz P (du G τ) Y o.op,eA P (du G τ) Y (o.dst.getD 0) o.op with
  |some _,_=>(U,iU (du G τ) o.op)
  |none,some _=>(NC o.op,aOF (du G τ) Y o.op++if(btH o.op||aO3 P o.op)=U then[o.dst.getD 0] else[])
  |none,none=>vT G τ Y o
 |_=>(U,[])
abbrev tok:Nat:=5000
def okT(a b:fY):Bool:=a.1||b.1
def eL(a b:fY):Bool:=(a.1&&b.1)||a.2.all λk=>!b.2.contains k
def Ej(ops:Array Oper)(x y:Oper)(a b:fY):Bool:=x.apart ops y&&eL a b
section
variable{P:Program}{G:Env}{ops:Array Oper}{τ τ0 τ1 τ2 τ':dM}{Y Y0 Y1 Y2 Y':ae}
def aNM(P:Program)(G:Env)(ops:Array Oper)(o:Oper)(τ:dM)(Y:ae)(τ':dM)(Y':ae):Prop:=kS P G ops o (λa b=>a=τ'/\b=Y') τ Y
theorem CT{o K}:j0 P G τ Y o K↔∃av Y',j0 P G τ Y o (λa b=>a=av/\b=Y')/\K av Y':=by unfold j0;split;grind;split;grind;split;split;split;split;exact ak1;split;exact Ki;exact⟨λ⟨r,c,d,e,f,g⟩=>⟨r,Y,⟨r,c,d,e,f,A,A⟩,g⟩,λ⟨av,s,⟨r,c,d,e,f,g,i⟩,h⟩=>by subst g i;exact⟨r,c,d,e,f,h⟩⟩;simp;simp;simp
theorem oE{o K}:kS P G ops o K τ Y↔∃τ' Y',aNM P G ops o τ Y τ' Y'/\K τ' Y':=by unfold aNM kS;split;constructor;grind [CT];rintro⟨t,s,a,d⟩;obtain⟨av,s',e,b,c⟩:=CT.1 a;subst b c;grind [CT];grind;simp
theorem aEB{x}(h:∀t,x= .tmp t->τ0[t]?=τ[t]?):du G τ0 x=du G τ x:=by cases x with|tmp t=>grind [du]|_=>rfl
theorem yl{o:Oper}(h:∀t∈o.looksAt ops,τ0[t]?=τ[t]?):∀x∈o.op.operands.toList,du G τ0 x=du G τ x:=λx b=>
 aEB (λt a=>h t (by
  grind [Oper.looksAt,qk]))
theorem r8{o}(h:∀t∈o.looksAt ops,τ0[t]?=τ[t]?):rh ops τ0 o=rh ops τ o:=by grind [rh,bind,Oper.looksAt]
theorem Qe{E E0 op}(h:∀x∈op.operands.toList,E0 x=E x):iU E0 op=iU E op:=by grind [iU,ja]
theorem bdE{E E0 op}(h:∀x∈op.operands.toList,E0 x=E x)(hs:∀k∈aOF E Y op,aZ Y k=aZ Y0 k):aOF E0 Y0 op=aOF E Y op:=by cases op with|store t x v=>have e:=(aIK λk a=>hs k<|a6P a).symm;grind [aOF,Op.operands,Qe]|_=>exact Qe h
def alh{x}(h:iL Y Y0<|dC x):dG Y x=dG Y0 x:=by unfold dG;rw[amh h]
def amD{x b}(h:b∈aNN x):b.1∈dC x:=by have:=Nx h;cases x with|f fn a b=>simp[aNN,iR] at h|_=>exact this
def aC9{xs}(h:∀x∈xs,iL Y Y0<|dC x):nA Y xs=nA Y0 xs:=by unfold nA;rw[Bool.eq_iff_iff,tL,tL];constructor;rintro⟨x,d,a⟩;refine⟨x,d,?_⟩;rw[tL] at a⊢;obtain⟨b,c,e⟩:=a;exact⟨b,c,by rwa [<-nQ (h x d _<|amD c)]⟩;rintro⟨x,d,a⟩;refine⟨x,d,?_⟩;rw[tL] at a⊢;obtain⟨b,c,e⟩:=a;exact⟨b,c,by rwa [nQ<|h x d _<|amD c]⟩
theorem aIH{ks g d}:∀{cs Y Y0 f s'},Ag ks Y Y0->d∈ks->gU g d Y cs=V (f,s')->∃e,gU g d Y0 cs=V (f,e)/\St ks Y Y0 s' e:=by intro cs;induction cs with|nil=>intro Y Y0 f s' h q a;simp only[gU,aOe,iK] at a;obtain⟨rfl,rfl⟩:=a;exact⟨Y0,A, .refl h⟩|cons c cs y=>intro Y Y0 f s' h q a;have i:∀x,(gU g d Y cs).map (λp=>(x::p.1,p.2))=V (f,s')->∃e,(gU g d Y0 cs).map (λp=>(x::p.1,p.2))=V (f,e)/\St ks Y Y0 s' e:=(λx B=>by cases k:gU g d Y cs with|none=>simp_all|some p=>grind);cases c with|s v=>simp only[gU] at a⊢;exact i _ a|l bA t o=>(cases bA with|nil=>(cases t with|false=>simp[gU] at a|true=>cases o with|false=>simp[gU] at a|true=>simp only[gU] at a⊢;exact i _ a)|cons r bA=>simp[gU] at a)|m b n=>simp only[gU] at a⊢;(cases u:box g b with|none=>simp_all|some x=>rw[u] at a;simp only at a⊢;by_cases w:vY x=U;rw[zg w] at a⊢;(cases k:gU g d (put Y d x) cs with|none=>simp_all|some p=>rw[k] at a;simp only[df,aOe,iK] at a;obtain⟨rfl,rfl⟩:=a;have j:=St.put h q x;obtain⟨e,C,z⟩:=y j.1 q k;exact⟨e,by grind [uI],j.trans z⟩);simp_all)|_=>simp[gU] at a
theorem Sh{o}(h:aNM P G ops o τ Y τ' Y'):∃av,τ'=ge τ o.dst av/\∀τ0 Y0,(∀t∈o.looksAt ops,τ0[t]?=τ[t]?)->Ag (lab P G ops τ Y o).2 Y Y0->
  lab P G ops τ0 Y0 o=lab P G ops τ Y o/\∃m,aNM P G ops o τ0 Y0 (ge τ0 o.dst av) m/\St (lab P G ops τ Y o).2 Y Y0 Y' m/\((lab P G ops τ Y o).1=U->Y'=Y/\m=Y0):=by
 unfold aNM kS at h
 split at h
 ·rename_i hw
  unfold j0 at h
  split at h
  ·rename_i av hr
   obtain⟨rfl,rfl⟩:=h
   refine⟨av,A,λτ0 Y0 i e=>?_⟩
   have p:=yl (G:=G) i
   have l:lab P G ops τ Y o=(U,iU (du G τ) o.op):=by grind [lab]
   rw[l] at e⊢
   have ar:dz P (du G τ0) Y0 o.op=V av:=by
    rw[<-hr]
    exact(aom vB<|λk g=>e.2 k g).symm
   refine⟨by grind [lab,r8,Qe],Y0,?_, .refl e,λ_=>⟨A,A⟩⟩
   grind [aNM,kS,r8,j0]
  ·rename_i hr
   split at h
   ·rename_i av s he
    obtain⟨rfl,rfl⟩:=h
    refine⟨av,A,λτ0 Y0 i e=>?_⟩
    have p:=yl (G:=G) i
    have l:lab P G ops τ Y o=(NC o.op,aOF (du G τ) Y o.op++if(btH o.op||aO3 P o.op)=U then[o.dst.getD 0] else[]):=by grind [lab]
    rw[l] at e⊢
    have ar:dz P (du G τ0) Y0 o.op=J:=by
     rw[<-hr]
     cases ab:o.op with
     |store t x v=>rfl
     |_=>
      rw[<-ab]
      exact(aom vB<|λk g=>e.2 k<|qk _<|by rw[ab] at g⊢;exact g).symm
    have aB:=bbg (P:=P) (E:=du G τ) (E0:=du G τ0) (op:=o.op) (d:=o.dst.getD 0) e (λx j=>(p x j).symm) (λk g=>qk _ g) (λhu=>by simp[hu])
    obtain⟨W,_⟩|⟨a2,s2,aT,W,h2,h3⟩:=aB
    ·simp_all
    ·rw[he] at W
     cases W
     refine⟨by unfold lab;rw[r8 i,hw,ar,h2];simp only;rw[bdE p<|λk g=>e.2 k vB],aT,?_,h3,λhb=>?_⟩
     ·grind [aNM,kS,r8,j0]
     ·cases aC:o.op<;>rw[aC] at hb he h2<;>first|(simp[NC] at hb;done)|skip
      grind [eA,Option.map_eq_some_iff]
   ·rename_i he
    split at h
    ·rename_i c C
     split at h
     ·rename_i f ay
      split at h
      ·rename_i fn first cap hf
       have ak:∀E s,dz P E s o.op=J:=λE s=>by simp_all [dz]
       have ah:∀E s d,eA P E s d o.op=J:=(by grind [eA])
       have u:f∈o.op.operands.toList:=by grind [Op.operands,Call.operands]
       have af:∀x∈c.args.toList,x∈o.op.operands.toList:=(by grind [Op.operands,Call.operands])
       have T:∀τ0 Y0,(∀t∈o.looksAt ops,τ0[t]?=τ[t]?)->lab P G ops τ0 Y0 o=if G.nw fn=U then(I,iU (du G τ) o.op++[o.dst.getD 0]) else if G.imp fn=U then(G.rd fn,aQn G fn Y0) else(U,iU (du G τ) o.op):=λτ0 Y0 i=>by
        have p:=yl (G:=G) i
        have M:c.args.toList.map (du G τ0)=c.args.toList.map (du G τ):=vB
        unfold lab
        rw[r8 i,hw,ak,ah]
        grind [vT,Qe]
       split at h
       ·rename_i D
        have l:=T τ Y (λ_ _=>A)
        rw[zg D] at l
        have an:∃av,τ'=ge τ o.dst av/\∀Y0,Ag (iU (du G τ) o.op++[o.dst.getD 0]) Y Y0->∃m,(tS P G fn (first++c.args.toList.map (du G τ)++cap) Y0 (o.dst.getD 0) λa b=>a=av/\b=m)/\St (iU (du G τ) o.op++[o.dst.getD 0]) Y Y0 Y' m:=by
         have R:∀Y0,Ag (iU (du G τ) o.op++[o.dst.getD 0]) Y Y0->(first++c.args.toList.map (du G τ)++cap).map (dG Y0)=(first++c.args.toList.map (du G τ)++cap).map (dG Y):=λY0 e=>by
          refine(ja λx j=>(alh ?_)).symm
          intro k g
          refine e.2 k<|qk _ ?_
          rw[dF,dF] at j
          obtain(j|j)|j:=j
          ·exact aOt (by rw[C];rfl) u (by grind [aNG,qk,AH])
          ·obtain⟨y,B,rfl⟩:=dN.1 j
           exact aOt (by rw[C];rfl) (af y B)<|DZ g
          ·exact aOt (by rw[C];rfl) u (by grind [aNG,biG,AH])
         have S:vg Y (o.dst.getD 0)=U->∀Y0,Ag (iU (du G τ) o.op++[o.dst.getD 0]) Y Y0->vg Y0 (o.dst.getD 0)=U:=λN Y0 e=>by
          have:=te N
          simp only[vg,awG]
          rw[<-e.1];exact this
         obtain h|h|h:=h
         case inr.inr=>
          obtain⟨f1,N,cs,s1,aI,s',f3,f4,f5,F,e2⟩:=h
          subst e2
          refine⟨_,F.symm,λY0 e=>?_⟩
          obtain⟨q,aJ,ab⟩:=aIH e O f5
          exact⟨q, .inr (.inr ⟨vB,S N Y0 e,cs,s1,aI,q,by rwa [R Y0 e],f4,aJ,A,A⟩),ab⟩
         case inr.inl=>
          obtain⟨r,b,x,x1,n,g1,g2,g3,g4,g5,g6,g7⟩:=h
          have aE:∀y∈first++c.args.toList.map (du G τ)++cap,∀k∈pP y,k∈iU (du G τ) o.op:=by
           intro y B k g
           rw[dF,dF] at B
           obtain(B|B)|B:=B
           ·exact aOt (by rw[C];rfl) u (by grind [aNG,qk])
           ·obtain⟨z,hz,rfl⟩:=dN.1 B
            exact aOt (by rw[C];rfl) (af z hz)<|aCR g
           ·exact aOt (by rw[C];rfl) u (by grind [aNG,biG])
          have aq:b.1∈iU (du G τ) o.op++[o.dst.getD 0]:=qk _ (aE _ (List.mem_of_head? g1) _<|by simp[pP,dC,dK])
          subst g7
          refine⟨_,g6.symm,λY0 e=>⟨wr Y0 b x1, .inr<|.inl ⟨r,b,x,x1,n,g1,by rw[<-g2];exact(nQ<|e.2 _ aq).symm,g3,g4,λY2 aN bb=>g5 Y2 (aN.trans e.1.symm)<|λk g=>?_,A,A⟩, .wr e aq x1⟩⟩
          obtain⟨y,B,ba⟩:=iI.1 g
          rw[e.2 k X]
          grind
         obtain⟨f1,N,r,s1,f3,f4⟩:=h
         obtain⟨rfl,F,e2⟩|⟨b,n,x,rfl,e3,e4,F,e2⟩:=f4
         ·subst e2
          refine⟨_,F.symm,λY0 e=>⟨Y0, .inl ⟨vB,S N Y0 e,_,s1,by rwa [R Y0 e],O⟩, .refl e⟩⟩
         ·subst e2
          refine⟨_,F.symm,λY0 e=>⟨put Y0 (o.dst.getD 0) x, .inl ⟨vB,S N Y0 e,_,s1,by rwa [R Y0 e],by grind [uI]⟩, .put e O x⟩⟩
        obtain⟨av,aP,ax⟩:=an
        refine⟨av,aP,λτ0 Y0 i e=>?_⟩
        have p:=yl (G:=G) i
        rw[l] at e⊢
        obtain⟨m,x1,x2⟩:=ax Y0 e
        refine⟨vB,m,?_,x2,λhb=>by cases hb⟩
        unfold aNM kS
        rw[r8 i,hw]
        simp only
        unfold j0
        grind [du,ja,ak1]
       rename_i D
       split at h
       ·rename_i w
        have h0:=h
        obtain⟨ad,s0,W,q4,q5⟩:=Ki.1 h0
        subst q5
        refine⟨ad,q4.symm,λτ0 Y0 i e=>?_⟩
        have p:=yl (G:=G) i
        have l:=T τ Y (λ_ _=>A)
        rw[za D,zg w] at l
        rw[l] at e⊢
        have M:c.args.toList.map (du G τ0)=c.args.toList.map (du G τ):=vB
        have aK:∀q,tR P G fn (first++c.args.toList.map (du G τ)++cap) Y0 (o.dst.getD 0) (λa b=>a=ad/\b=q)->aNM P G ops o τ0 Y0 (ge τ0 o.dst ad) q:=λq a9=>by
         unfold aNM kS
         grind [r8,j0,Ki]
        rw[T τ0 Y0 i,za D,zg w]
        cases aM:aPf G fn with
        |none=>
         have F:∀s,aQn G fn s=vO s:=(by grind [aQn])
         simp only[F] at e⊢
         have aO:=Ag.all e
         subst aO
         have aA:=asa aM W
         refine⟨A,s0,aK s0 W,St.all aA.1,vB⟩
        |some ks=>
         have F:∀s,aQn G fn s=ks:=(by grind [aQn])
         simp only[F] at e⊢
         have eX:∀s K,tR P G fn (first++c.args.toList.map (du G τ)++cap) s (o.dst.getD 0) K=aSX P G fn (first++c.args.toList.map (du G τ)++cap) s ks K:=(by grind [tR])
         rw[eX] at W
         obtain⟨q,q1,q2,q3,q4,q5,q6⟩:=a8E e.1 e.2 W
         refine⟨trivial,q,vB,⟨⟨by rw[q2,q3,e.1],λk g=>q4 k g⟩,⟨q2,λk g=>q5 k g⟩,⟨q3,λk g=>q6 k g⟩⟩,λhb=>?_⟩
         grind [bcp]
       rename_i w
       obtain⟨r,f1,N,f3,f4,rfl,rfl⟩:=h
       refine⟨r,A,λτ0 Y0 i e=>?_⟩
       have p:=yl (G:=G) i
       have l:=T τ Y (λ_ _=>A)
       rw[za D,za w] at l
       rw[l] at e⊢
       refine⟨vB,Y0,?_, .refl e,λ_=>⟨A,A⟩⟩
       unfold aNM kS
       rw[r8 i,hw]
       simp only
       unfold j0
       rw[ak,ah]
       have M:c.args.toList.map (du G τ0)=c.args.toList.map (du G τ):=vB
       simp only[C,ay,p f u,hf,M]
       rw[za D,za w]
       have aa:∀x∈first++c.args.toList.map (du G τ)++cap,iL Y Y0 (dC x):=by
        intro x j k g
        rw[dF,dF] at j
        obtain(j|j)|j:=j
        ·exact e.2 k (aOt (by rw[C];rfl) u<|by grind [aNG,qk,AH])
        ·obtain⟨y,B,rfl⟩:=dN.1 j
         exact e.2 k (aOt (by rw[C];rfl) (af y B)<|DZ g)
        ·exact e.2 k (aOt (by rw[C];rfl) u<|by grind [aNG,biG,AH])
       have au:=ja (λx j=>alh<|aa x j)
       rw[au] at f1 N
       rw[aC9 aa] at f4
       exact⟨r,f1,N,f3,f4,A,trivial⟩
      grind
     grind
    grind
 ·rename_i hw
  obtain⟨rfl,rfl⟩:=h
  refine⟨_,A,λτ0 Y0 i e=>?_⟩
  have l:lab P G ops τ Y o=(U,[]):=by grind [lab]
  rw[l] at e⊢
  refine⟨by grind [lab,r8],Y0,?_, .refl e,λ_=>⟨A,A⟩⟩
  grind [aNM,kS,r8]
 grind
theorem an2{d v t}(h:∀e,d=V e->e≠t):(ge τ d v)[t]?=τ[t]?:=by cases d with|none=>rfl|some e=>grind [ge,oq]
theorem aFb{d e a v}(h:∀x,d=V x->e≠V x):ge (ge τ d a) e v=ge (ge τ e v) d a:=by cases d with|none=>rfl|some d=>cases e with|none=>rfl|some e=>grind [ge,List.set_comm]
theorem aIx(a:L Y=L Y0)(h:∀k,aZ Y k=aZ Y0 k):Y=Y0:=by apply biF a;intro i b c;have:=h i;grind [aZ,eC]
theorem byH{x y}(w:aNM P G ops x τ Y τ1 Y1)(z:aNM P G ops y τ1 Y1 τ2 Y2)(n:Ej ops x y (lab P G ops τ Y x) (lab P G ops τ1 Y1 y)=U):∃e b,aNM P G ops y τ Y e b/\aNM P G ops x e b τ2 Y2/\lab P G ops τ Y y=lab P G ops τ1 Y1 y/\lab P G ops e b x=lab P G ops τ Y x:=by unfold Ej at n;rw[bN] at n;obtain⟨s,c⟩:=n;unfold eL at c;obtain⟨a1,u,N⟩:=Oper.apart_spec s;obtain⟨i,rfl,t⟩:=Sh w;obtain⟨v,rfl,C⟩:=Sh z;have j:=t τ Y (λ_ _=>A) ⟨A,λ_ _=>A⟩;obtain⟨_,M,_,g,E⟩:=j;have r:Ag (lab P G ops (ge τ x.dst i) Y1 y).2 Y1 Y:=(by refine⟨g.2.1.1,λk B=>?_⟩;rw[fH,bN] at c;obtain l|hdis:=c;simp_all;refine g.2.1.2 k (λf=>?_);simp_all);obtain⟨q,b,D,a,K⟩:=C τ Y (by grind [an2]) r;have m:Ag (lab P G ops τ Y x).2 Y b:=(by refine⟨a.2.2.1.symm,λk B=>?_⟩;rw[fH,bN] at c;obtain l|hdis:=c;simp_all;refine(a.2.2.2 k<|λd=>?_).symm;simp_all);obtain⟨p,o,sx,h,F⟩:=t (ge τ y.dst v) b (by grind [an2]) m;refine⟨ge τ y.dst v,b,D,?_,q,p⟩;have:ge (ge τ x.dst i) y.dst v=ge (ge τ y.dst v) x.dst i:=aFb u;have:o=Y2:=(by refine aIx ?_ (λk=>?_);rw[h.2.2.1,a.2.2.1,a.2.1.1,g.2.1.1];rw[fH,bN] at c;obtain l|hdis:=c;simp_all;by_cases f:k∈(lab P G ops τ Y x).2;have d:k∉(lab P G ops (ge τ x.dst i) Y1 y).2:=vB;rw[<-h.1.2 k f,a.2.1.2 k d];rw[h.2.2.2 k f];by_cases d:k∈(lab P G ops (ge τ x.dst i) Y1 y).2;exact(a.1.2 k d).symm;rw[a.2.2.2 k d,a.2.1.2 k d,g.2.1.2 k f]);simp_all
end
def qq(P:Program)(G:Env)(ops:Array Oper):List Oper->List fY->(List fY->dM->ae->Prop)->dM->ae->Prop|[],acc,K=>K acc|o::l,acc,K=>λτ Y=>kS P G ops o (qq P G ops l (acc++[lab P G ops τ Y o]) K) τ Y
def zA(P:Program)(G:Env)(ops:Array Oper):List (Nat×fY)->dM->ae->dM->ae->Prop|[],τ,Y,τ',Y'=>τ'=τ/\Y'=Y|z::zs,τ,Y,τ',Y'=>∃o a b,ops[z.1]?=V o/\z.2=lab P G ops τ Y o/\aNM P G ops o τ Y a b/\zA P G ops zs a b τ' Y'
def QA(ops:Array Oper)(x y:Nat×fY):Prop:=∀a b,ops[x.1]?=V a->ops[y.1]?=V b->Ej ops a b x.2 y.2=U
def sk(ops:Array Oper)(i j:Nat):Prop:=((Region.before ops).getD j 0).testBit i=U
section
variable{P:Program}{G:Env}{ops:Array Oper}{τ τ':dM}{Y Y':ae}
theorem arz{y b}:∀(a) {τ Y},(∀z∈a,QA ops z y)->zA P G ops (a++y::b) τ Y τ' Y'->zA P G ops (y::(a++b)) τ Y τ' Y':=λa=>by induction a with|nil=>simp|cons z a s=>intro τ Y l h;obtain⟨o,w,x,k,j,hs,f⟩:=h;obtain⟨p,q,r,e,d,n,c⟩:=s vB f;have m:=l z O o p k e;rw[j,d] at m;obtain⟨g,i,u,v,l1,t⟩:=byH hs n m;exact⟨p,g,i,e,by rw[d,l1],u,o,q,r,k,by rw[j,t],v,c⟩
theorem asj{K}:∀(l) (acc) (k) {τ Y},ops.toList.drop k=l->qq P G ops l acc K τ Y->∃zs τ' Y',zs.map Se=GO k (ops.size-k)/\zA P G ops zs τ Y τ' Y'/\K (acc++zs.map Sf) τ' Y':=λl=>by induction l with|nil=>intro acc k τ Y a h;have:ops.size-k=0:=vB;exact⟨[],τ,Y,X,⟨A,A⟩,by simpa[qq] using h⟩|cons o l j=>intro acc k τ Y a h;have n:k<ops.size:=(by have:=bss L a;grind);have g:ops[k]?=V o:=(by grind [qh]);have b:ops.toList.drop (k+1)=l:=(by have:=bss GQ a;simpa using this);obtain⟨c,d,hs,i⟩:=oE.1 h;obtain⟨zs,τ',Y',e,f,m⟩:=j _ (k+1) b i;refine⟨(k,lab P G ops τ Y o)::zs,τ',Y',?_,⟨o,c,d,g,A,hs,f⟩,X⟩;rw[show ops.size-k=(ops.size-(k+1))+1 by omega,RX];simp[e]
theorem bits{acc:Array Nat}{j}:∀(a:List Edge) (s),(a.foldl (λs e=>if Region.binds .any e then s|||2^e.on|||acc.getD e.on 0 else s) s).testBit j=U->s.testBit j=U\/∃e∈a,Region.binds .any e=U/\(j=e.on\/(acc.getD e.on 0).testBit j=U):=λa=>by induction a with|nil=>simp|cons e a c=>intro s h;obtain b|⟨d,b,f,g⟩:=c _ h;grind;grind
theorem awj:∀(l) (acc:Array Nat),ops.toList.drop acc.size=l->(∀i j,(acc.getD i 0).testBit j=U->∃o,ops[i]?=V o/\∃e∈o.after,Region.binds .any e=U/\(j=e.on\/(e.on<i/\(acc.getD e.on 0).testBit j=U)))->∀a,l.foldl (λacc o=>acc.push<|o.after.foldl (λs e=>if Region.binds .any e then s|||2^e.on|||acc.getD e.on 0 else s) 0) acc=a->∀i j,(a.getD i 0).testBit j=U->∃o,ops[i]?=V o/\∃e∈o.after,Region.binds .any e=U/\(j=e.on\/(e.on<i/\(a.getD e.on 0).testBit j=U)):=λl=>by induction l with|nil=>simp|cons o l r=>intro acc q g a h;have w:ops[acc.size]?=V o:=(by grind [qh]);have t:ops.toList.drop (acc.size+1)=l:=(by have:=bss GQ q;simpa using this);refine r _ X ?_ a h;intro i j c;have f:∀(v i:Nat),i<acc.size->(acc.push v).getD i 0=acc.getD i 0:=λv i b=>(by simp[pZ,b,aq8 b,aql b]);have p:∀e:Edge,(acc.getD e.on 0).testBit j=U->e.on<acc.size:=X;obtain b|b|b:=Nat.lt_trichotomy i acc.size;rw[f _ _ b] at c;obtain⟨o',d,e,m,n,u⟩:=g i j c;grind;subst b;have k:∀v,(acc.push v).getD acc.size 0=v:=O;rw[k,<-yY] at c;obtain d|⟨e,d,m,n⟩:=bits o.after.toList 0 c;simp at d;grind;grind
theorem alv{i j}(h:sk ops j i):∃o,ops[i]?=V o/\∃e∈o.after,Region.binds .any e=U/\(j=e.on\/(e.on<i/\sk ops j e.on)):=by refine awj (ops:=ops) ops.toList #[] O O (Region.before ops) ?_ i j h;unfold Region.before;simp
theorem awh{a:Array Bool}(b:∀i o,ops[i]?=V o->a.getD i I=U->∀e∈o.after,Region.binds .any e=U->a.getD e.on I=U):∀i o,ops[i]?=V o->(∀e∈o.after,Region.binds .any e=U->a.getD e.on I=U)->∀j,sk ops j i->a.getD j I=U:=λi=>by induction i using Nat.strongRecOn with|_ i c=>grind [alv]
theorem avq{κ K Q}(r:∀i o,ops[i]?=V o->∀e∈o.after,Region.binds .any e=U->e.on<i)(T:K τ' Y'):∀(fuel) (zs) (b) {a w τ Y β},L zs<=fuel->zA P G ops zs τ Y τ' Y'->zs.Pairwise (λx y=>sk ops x.1 y.1\/QA ops x y)->zs.Pairwise (λx y=>x.1<y.1)->(∀i,i∈zs.map Se↔i<ops.size/\b.getD i U=I)->b.size=ops.size->(∀i o,ops[i]?=V o->b.getD i I=U->∀e∈o.after,Region.binds .any e=U->b.getD e.on I=U)->jG P G κ a w τ Y β->(∀E S,vE P G κ w Y β K E S->Q .normal E S)->wpAny P .any ops Q fuel b a w:=by have af:∀(b:Array Bool) (i:Nat),b.size=ops.size->i<ops.size->b.getD i U=b.getD i I:=vB;intro fuel;induction fuel with|zero=>intro zs b a w τ Y β hf d _ _ u p B h F;have:zs=[]:=vB;subst this;obtain⟨rfl,rfl⟩:=d;refine⟨?_,F a w ⟨_,_,β,T,h,dw.refl _ _ _⟩⟩;apply List.eq_nil_iff_forall_not_mem.2;grind [mem_ready,vh]|succ fuel ih=>intro zs b a w τ Y β hf d D R u p B h F;refine⟨λar=>?_,λi hi=>?_⟩;(cases zs with|nil=>obtain⟨rfl,rfl⟩:=d;exact F a w ⟨_,_,β,T,h,dw.refl _ _ _⟩|cons z zs=>exfalso;obtain⟨ac,ad⟩:=(u z.1).1 O;have g:ops[z.1]?=V ops[z.1]:=O;have:z.1∈Region.ready .any ops b:=(by refine mem_ready.2 ⟨ad,_,g,λe W q=>?_⟩;have m:=r _ _ g e W q;have ap:=Nat.lt_trans m ac;grind [aqX]);grind);obtain⟨h0,o,g,M⟩:=mem_ready.1 hi;have m:=(vh.1 g).1;obtain⟨y,hy,rfl⟩:=dN.1<|(u i).2 ⟨m,h0⟩;obtain⟨f,j,rfl⟩:=List.append_of_mem hy;have N:∀z∈f,QA ops z y:=λz hz=>(by obtain q|c:=(List.pairwise_append.1 D).2.2 z hz y O;exfalso;have h1:=awh B y.1 o g M z.1 q;grind;exact c);obtain⟨o',ae,Y1,C,hl,hs,v⟩:=arz f N d;rw[g] at C;(cases C);unfold wpOp;rw[g];simp only;refine ak5 (K:=λt s=>t=ae/\s=Y1) h hs (λE S hn=>?_);obtain⟨_,_,ay,⟨rfl,rfl⟩,aa,am⟩:=hn;have n:(f++j).Sublist (f++y::j):=O;refine ih (f++j) (b.setIfInBounds y.1 U) ?_ v (D.sublist n) (R.sublist n) ?_ (by simp[p]) ?_ aa (by grind [vE.trans]);grind;intro k;by_cases l:k=y.1;constructor;intro c;exfalso;rw[List.map_append,dF] at c;obtain c|c:=c;grind;obtain⟨z,hz,ax⟩:=dN.1 c;grind [aqX];rintro⟨h1,h2⟩;exfalso;subst l;simp[pZ,p,m] at h2;rw[getD_set_ne U<|Sa l,<-u k];grind;intro k ok aw c e W q;refine getD_set_true ?_;by_cases l:k=y.1;grind;rw[getD_set_ne I<|Sa l] at c;grind
end
section
variable{types:Array TypeInfo}{ops:Array Oper}{draw:Bool}
theorem aqa{g}(h:(ops.zipIdx.all g)=U){i o}(a:ops[i]?=V o):g (o,i)=U:=X
theorem anK(h:Region.ok types ops draw=U):(∀(i) (o),ops[i]?=V o->∀e∈o.after,Region.binds .any e=U->e.on<i)/\(∀(i:Nat) (o) (j) (a),ops[i]?=V o->o.guard=V (j,a)->∃e∈o.after,e.on=j/\Region.binds .any e=U)/\Region.temporariesOk ops (Region.before ops)=U:=by unfold Region.ok at h;simp only[bN] at h;obtain⟨⟨⟨⟨c,d⟩,_⟩,_⟩,_⟩:=h;refine⟨λi o b e f g=>?_,λi o j a b k=>?_,d⟩;have:=aqa c b;simp only[bN] at this;have:=Array.all_eq_true_iff_forall_mem.1 this.1 e f;grind [Region.binds];grind
theorem awy{acc:Array Nat}{j}:∀(a:List Edge) (s),(s.testBit j=U\/∃e∈a,Region.binds .any e=U/\(j=e.on\/(acc.getD e.on 0).testBit j=U))->(a.foldl (λs e=>if Region.binds .any e then s|||2^e.on|||acc.getD e.on 0 else s) s).testBit j=U:=λa=>by induction a with|nil=>simp|cons e a c=>intro s h;refine c _ ?_;simp only;obtain h|⟨d,b,f,g⟩:=h;grind;obtain rfl|b:=eW.1 b;grind;grind
theorem awi:∀(l) (acc:Array Nat),ops.toList.drop acc.size=l->(∀i o e j,i<acc.size->ops[i]?=V o->e∈o.after->Region.binds .any e=U->e.on<i->(j=e.on\/(acc.getD e.on 0).testBit j=U)->(acc.getD i 0).testBit j=U)->∀a,l.foldl (λacc o=>acc.push<|o.after.foldl (λs e=>if Region.binds .any e then s|||2^e.on|||acc.getD e.on 0 else s) 0) acc=a->∀i o e j,i<a.size->ops[i]?=V o->e∈o.after->Region.binds .any e=U->e.on<i->(j=e.on\/(a.getD e.on 0).testBit j=U)->(a.getD i 0).testBit j=U:=λl=>by induction l with|nil=>simp|cons o l r=>intro acc p m a h;have q:ops[acc.size]?=V o:=(by grind [qh]);have t:ops.toList.drop (acc.size+1)=l:=(by have:=bss GQ p;simpa using this);refine r _ X ?_ a h;intro i o' e j b c w u k n;have d:∀(v i:Nat),i<acc.size->(acc.push v).getD i 0=acc.getD i 0:=λv i b=>(by simp[pZ,b,aq8 b,aql b]);simp only[Array.size_push] at b;obtain g|g:=jj i acc.size;grind;have:i=acc.size:=Z;subst this;rw[q] at c;(cases c);rw[d _ _ k] at n;have f:∀v,(acc.push v).getD acc.size 0=v:=O;rw[f,<-yY];exact awy _ _ X
theorem awk:(Region.before ops).size=ops.size:=by unfold Region.before;rw[<-yY];have:∀(l:List Oper) (acc:Array Nat),(l.foldl (λacc o=>acc.push<|o.after.foldl (λs e=>if Region.binds .any e then s|||2^e.on|||acc.getD e.on 0 else s) 0) acc).size=acc.size+L l:=(λl=>by induction l with|nil=>simp|cons o l a=>grind);grind
theorem awg{i o e}(d:ops[i]?=V o)(c:e∈o.after)(b:Region.binds .any e=U)(a:e.on<i):sk ops e.on i:=by refine awi (ops:=ops) ops.toList #[] O O (Region.before ops) ?_ i o e e.on ?_ d c b a (.inl A);unfold Region.before;simp;grind [awk,vh]
theorem aM5{n}(f:0<n):∀(l:List<|Oper×Nat) (acc:Array<|List<|Tmp×Nat),acc.size=n->∀d i,((d,i)∈acc.getD (d%n) []\/∃o,(o,i)∈l/\o.dst=V d)->(d,i)∈(l.foldl (λw (p:Oper×Nat)=>match p.1.dst with|some d=>w.modify (d%n) ((d,p.2)::·)|none=>w) acc).getD (d%n) []:=λl=>by induction l with|nil=>simp|cons p l e=>intro acc hs d i h;rw[GE];have b:∀(a k:Nat) (x:Tmp×Nat),a<n->(acc.modify a (x::·)).getD k []=if a=k then x::acc.getD k [] else acc.getD k []:=λa k x m=>(by simp only[Array.getD_eq_getD_getElem?,Array.getElem?_modify];by_cases c:a=k;simp_all;simp[c]);cases q:p.1.dst with|none=>refine e acc hs d i<|h.imp id ?_;grind|some j=>simp only;refine e _ (by simp[hs]) d i ?_;rw[b _ _ _<|bu8 _ f];obtain h|⟨o,r,g⟩:=h;left;split;simp_all;exact h;grind
def Qr(o:Oper):List Tmp:=o.dst.toList++o.op.operands.toList.filterMap λ| .tmp t=>V t|_=>J
theorem apD(h:Region.temporariesOk ops (Region.before ops)=U){i j x y t}(f:ops[i]?=V x)(g:ops[j]?=V y)(e:x.dst=V t)(c:t∈Qr y)(d:i≠j):sk ops (min i j) (max i j):=by unfold Region.temporariesOk at h;simp only[dV] at h;have b:0<ops.size:=X;have a:=h (y,j) X t c (t,i)<|aM5 b ops.toList.zipIdx _ O t i X;simp only[fH,bne_self_eq_false,Bool.false_eq_true,false_or,beq_iff_eq] at a;obtain a|a:=a;omega;exact a
end
def Ah(ops:Array Oper):Bool:=
 ops.toList.all λo=>
  match o.guard with
  |none=>U
  |some (g,_)=>
   match(ops[g]?).bind (·.dst) with
   |some t=>ops.toList.zipIdx.all λp=>p.2==g||p.1.dst !=V t
   |none=>U
def oI:Code->Bool| .region _ ops true=>Ah ops| .seq a b=>oI a&&oI b| .cond _ a b=>oI a&&oI b| .block _ c=>oI c| .loop c=>oI c|_=>U
structure tQ(P:Program):Prop where
 mixed:P.follows .mixedOrders=U
 funcs:(aH P.funcs.size).forM (CheckCode.funcAt P)= .ok ()
 guards:(P.funcs.toList.all λf=>match f.body with|some c=>oI c|none=>U)=U
def xG(ops:Array Oper)(a:List fY):Bool:=
 a.all (·.1)||(aH ops.size).all λj=>(aH j).all λi=>
  ((Region.before ops).getD j 0).testBit i||eL (a.getD i (U,[])) (a.getD j (U,[]))
def iT(G:Env):Op->Bool| .move _| .assign _| .pick .. | .load .. | .nilCheck _| .binOp .. | .unOp .. | .convert .. | .fieldAddr .. | .field .. | .indexAddr .. | .index .. | .lookup .. | .extract .. | .slice .. | .makeFunc .. | .build .. =>U| .call ⟨.builtin .len,_,_⟩=>U| .call ⟨.builtin .cap,_,_⟩=>U| .call ⟨.builtin .min,_,_⟩=>U| .call ⟨.builtin .max,_,_⟩=>U| .call ⟨.value<|.func fn,_,_⟩=>!G.nw fn&&!G.imp fn|_=>I
def rG(G:Env):List Oper->Bool|[]=>U|o::l=>iT G o.op&&rG G l
def sF(P:Program)(G:Env)(ops:Array Oper)(K:dM->ae->Prop)(τ:dM)(Y:ae):Prop:=
 if rG G ops.toList=U then rE P G ops ops.toList K τ Y
 else qq P G ops ops.toList [] (λa τ Y=>xG ops a=U/\K τ Y) τ Y
section
variable{P:Program}{G:Env}{types:Array TypeInfo}{ops:Array Oper}{draw:Bool}{τ:dM}{Y:ae}
theorem amw(h:Ah ops=U){o}{j g i:Nat}{b t x}(d:ops[j]?=V o)(c:o.guard=V (g,b))(e:(ops[g]?).bind (·.dst)=V t)(k:ops[i]?=V x)(f:x.dst=V t):i=g:=by unfold Ah at h;rw[dV] at h;have a:=h o (by rw[vj];exact Array.mem_of_getElem? d);rw[c] at a;simp only[e,dV] at a;have:=a (x,i) X;simp_all
theorem anj{o:Oper}{t}(h:t∈o.looksAt ops):(t∈o.op.operands.toList.filterMap λ| .tmp t=>V t|_=>J)\/∃g a,o.guard=V (g,a)/\(ops[g]?).bind (·.dst)=V t:=by grind [Oper.looksAt]
theorem avu(e:Region.ok types ops draw=U)(u:Ah ops=U){i j x y}(v:ops[i]?=V x)(w:ops[j]?=V y)(o:i<j)(t:¬sk ops i j):x.apart ops y=U:=by obtain⟨z,B,C⟩:=anK e;have p:min i j=i:=Z;have q:max i j=j:=Z;have r:min j i=i:=Z;have s:max j i=j:=Z;have f:∀d,x.dst=V d->d∉Qr y:=(by grind [apD]);have n:∀d,y.dst=V d->d∉Qr x:=(by grind [apD]);unfold Oper.apart;rw[bN];constructor;(cases b:x.dst with|none=>rfl|some d=>simp only[bN,eH,bne_iff_ne,btD];constructor;rw[aqs];intro a;rw[aYv] at a;obtain h|⟨g,c,k,l⟩:=anj a;exact f d b<|biG _ h;grind [amw,awg];intro m;exact f d b<|qk _<|by simp[m]);cases b:y.dst with|none=>rfl|some d=>simp only[eH];rw[aqs];intro a;rw[aYv] at a;obtain h|⟨g,c,k,l⟩:=anj a;exact n d b<|biG _ h;grind [amw]
theorem aC0{o}(h:iT G o.op=U):(lab P G ops τ Y o).1=U:=by unfold lab;split;split;rfl;rename_i l x d;(cases i:o.op<;>rw[i] at h d<;>first|rfl|(cases d;done)|(cases h;done)|skip);rename_i c;obtain⟨a,as,ts⟩:=c;(cases a with|value f=>(cases d)|builtin b=>(cases b<;>first|(cases h;done)|(cases d;done))|invoke r m=>cases d);unfold vT;split;rename_i c i;rw[i] at h;split;rename_i f e;split;rename_i fn first cap n;split;rename_i k;exfalso;obtain⟨a,as,ts⟩:=c;simp only at e;subst e;(cases f with|func g=>grind [du,iT]|_=>cases h);split;rename_i j;exfalso;obtain⟨a,as,ts⟩:=c;simp only at e;subst e;(cases f with|func g=>grind [du,iT]|_=>cases h);rfl;rfl;rfl;rfl;rfl
theorem asl{K}:∀(l) (acc) {τ Y},rG G l=U->(acc.all (·.1))=U->rE P G ops l K τ Y->qq P G ops l acc (λb τ Y=>xG ops b=U/\K τ Y) τ Y:=λl=>by induction l with|nil=>intro acc τ Y _ g h;exact⟨by grind [xG],h⟩|cons o l i=>intro acc τ Y a g h;unfold rG at a;rw[bN] at a;obtain⟨c,d,e,f⟩:=oE.1 h;refine oE.2 ⟨c,d,e,i _ a.2 ?_ f⟩;grind [aC0]
theorem axF{κ K Q a w β y}(x:P.follows .mixedOrders=U)(q:Region.ok types ops draw=U)(F:Ah ops=U)(h:jG P G κ a w τ Y β)(o:sF P G ops K τ Y)(E:∀m s,vE P G κ w Y β K m s->Q .normal m s):(Code.region y ops U).wp P Q a w:=by have o:qq P G ops ops.toList [] (λl τ Y=>xG ops l=U/\K τ Y) τ Y:=(by grind [sF,asl]);obtain⟨zs,τ',Y',n,u,b,v⟩:=asj ops.toList [] 0 O o;rw[ara,<-aqY] at n;simp only[dW] at b;have f:L zs=ops.size:=(by simpa using bss L n);have c:∀i (d:i<L zs),zs[i].1=i:=λi d=>(by have e:(zs.map Se)[i]'(by grind)=(aH ops.size)[i]'(by simp_all):=X;simpa using e);have t:∀i j (d:i<L zs) (g:j<L zs),i<j->sk ops i j\/eL zs[i].2 zs[j].2=U:=λi j d g k=>(by unfold xG at b;rw[fH] at b;obtain b|b:=b;grind [dV,CA,qj,eL];rw[dV] at b;have:=b j<|fq.2<|f▸g;rw[dV] at this;have:=this i<|fq.2 k;rw[fH] at this;have l1:(zs.map Sf).getD i (U,[])=zs[i].2:=X;have z:(zs.map Sf).getD j (U,[])=zs[j].2:=X;rw[l1,z] at this;exact this);refine wp_region_any x ?_;have p:Below w.heap.size w {w with drawn:=w.drawn+1}:={os:=rfl,tape:=rfl,output:=rfl,size:=dA _,block:=λ_ _=>A};have r:=xJ h.sim p;refine avq (K:=K) (anK q).1 v ops.size zs _ (aSp f) u ?_ ?_ ?_ O ?_ ⟨h.defers,h.reps.ext r,Es h.sim p,h.glob.ext r⟩ (by grind [vE.trans]);rw[GN];intro i j d g k;rw[c i d,c j g];by_cases B:sk ops i j;grind;right;intro M N C D;grind [Ej,avu];grind [GN];simp_all;simp_all [vh,pZ]
end
abbrev QX:=Exit->dM->ae->Prop
def QX.then(K:dM->ae->Prop)(Q:QX):QX:=λe a Y=>match e with| .normal=>K a Y|e=>Q e a Y
def QX.inBlock(b:Nat)(Q:QX):QX:=λe a Y=>match e with| .exit j=>if j=b then Q .normal a Y else Q (.exit j) a Y|e=>Q e a Y
def Xq(P:Program)(G:Env):Code->QX->dM->ae->Prop
 | .skip,Q=>Q .normal
 | .label _,Q=>Q .normal
 | .region _ ops false,Q=>rE P G ops ops.toList<|Q .normal
 | .region _ ops true,Q=>sF P G ops<|Q .normal
 | .seq x y,Q=>Xq P G x<|QX.then (Xq P G y Q) Q
 | .cond c x y,Q=>λb Y=>match du G b c with| .s (.bool t)=>if t=U then Xq P G x Q b Y else Xq P G y Q b Y|_=>False
 | .block d c,Q=>Xq P G c<|QX.inBlock d Q
 | .loop c,Q=>λb Y=>∃(a:dM->ae->Prop) (e:dM->ae->Nat),a b Y/\∀b Y,a b Y->Xq P G c (QX.then (λτ' Y'=>a τ' Y'/\e τ' Y'<e b Y) Q) b Y
 | .exit d,Q=>Q<|.exit d
 | .ret,Q=>Q .ret
 |_,_=>λ_ _=>False
section
variable{P:Program}{G:Env}{κ:Ctx}
def aM4{Q c}(d:Nat->Act->World->Prop)(s:∀n a w,d n a w->c.wp P (Exit.then (λj p=>∃m,m<n/\d m j p) Q) a w):∀n a w,d n a w->(Code.loop c).wp P Q a w:=λn a w z b k cs=>by have key:∀n a w,d n a w->∃e j p,Q e j p/\Arrives P (lone (b.at a (.code c:: .inLoop c::k)) cs w) b k cs e j p:=(λn=>by induction n using Nat.strongRecOn with|_ n B=>intro a w hJ;obtain⟨e,g,h,i,f⟩:=s n a w hJ b (.inLoop c::k) cs;cases e with|normal=>obtain⟨m,y,q⟩:=i;obtain⟨u,t,v,r,o⟩:=B m y g h q;exact⟨u,t,v,r, .of_steps (Steps.trans f<|.one step_inLoop) o⟩|exit C=>exact⟨_,g,h,i, .pass (x:= .inLoop c) A O f⟩|goto l=>exact⟨_,g,h,i, .pass (x:= .inLoop c) A O f⟩|ret=>exact⟨_,g,h,i, .pass (x:= .inLoop c) A O f⟩|panic ch=>exact⟨_,g,h,i, .pass (x:= .inLoop c) A O f⟩|outgrown=>exact⟨_,g,h,i, .pass (x:= .inLoop c) A O f⟩);obtain⟨e,j,p,i,f⟩:=key n a w z;exact⟨e,j,p,i, .of_steps (.one step_loop) f⟩
def aqz(P:Program)(G:Env)(κ:Ctx)(w:World)(Y:ae)(β:Id->Nat)(Q:QX)(e:Exit)(c:Act)(b:World):Prop:=∃τ' Y' a,Q e τ' Y'/\jG P G κ c b τ' Y' a/\dw w Y β b Y' a
theorem Kg(hm:P.follows .mixedOrders=U):∀(c) (f:qf P c) (i:oI c=U) (Q) {a w m Y β},jG P G κ a w m Y β->Xq P G c Q m Y->c.wp P (aqz P G κ w Y β Q) a w:=λc=>by induction c with|skip=>intro f i Q a w m Y β h g;exact wp_skip ⟨m,Y,β,g,h,dw.refl _ _ _⟩|label l=>intro f i Q a w m Y β h g;exact wp_label ⟨m,Y,β,g,h,dw.refl _ _ _⟩|exit W=>intro f i Q a w m Y β h g;exact wp_exit ⟨m,Y,β,g,h,dw.refl _ _ _⟩|ret=>intro f i Q a w m Y β h g;exact wp_ret ⟨m,Y,β,g,h,dw.refl _ _ _⟩|region W ops d=>intro f i Q a w m Y β h g;(cases d with|false=>refine wp_region ?_;rw[aqY];exact asm ops.toList 0 O h g (λD v R=>R)|true=>exact axF hm f i h g<|λD v R=>R)|seq x y K M=>intro f i Q a w m Y β h g;rw[oI,bN] at i;refine wp_seq<|wp_mono (K f.1 i.1 _ h g) ?_;rintro e D v ⟨τ',Y',o,r,q,p⟩;(cases e<;>first|(refine wp_mono (M f.2 i.2 Q q r) ?_;rintro e2 a2 w2 ⟨u,E,C,s,B,z⟩;exact⟨u,E,C,s,B,p.trans z⟩)|exact⟨τ',Y',o,r,q,p⟩)|cond c x y K M=>intro f i Q a w m Y β h g;rw[oI,bN] at i;simp only[Xq] at g;split at g;rename_i t hc;have k:=h.eval c;rw[hc] at k;refine wp_cond k.s_inv.1 ?_;(cases t with|true=>exact K f.1 i.1 Q h g|false=>exact M f.2 i.2 Q h g);simp_all|block W c S=>intro f i Q a w m Y β h g;refine wp_block<|wp_mono (S f i _ h g) ?_;rintro e D v ⟨τ',Y',o,r,q,p⟩;(cases e with|exit j=>simp only[QX.inBlock] at r;simp only[Exit.inBlock];split at r;rename_i N;rw[zg N];exact⟨τ',Y',o,r,q,p⟩;rename_i N;rw[za N];exact⟨τ',Y',o,r,q,p⟩|_=>exact⟨τ',Y',o,r,q,p⟩)|loop c S=>intro f i Q a w m Y β h g;obtain⟨b,T,h0,F⟩:=g;refine aM4 (λn D v=>∃τ' Y' o,b τ' Y'/\T τ' Y'=n/\jG P G κ D v τ' Y' o/\dw w Y β v Y' o) ?_ (T m Y) a w (by grind [dw.refl]);rintro n D v ⟨τ',Y',o,hI,rfl,q,p⟩;refine wp_mono (S f i _ q<|F τ' Y' hI) ?_;rintro e a2 w2 ⟨u,E,C,s,B,z⟩;(cases e with|normal=>exact⟨T u E,s.2,u,E,C,s.1,rfl,B,p.trans z⟩|_=>exact⟨u,E,C,s,B,p.trans z⟩)|_=>intro f i Q a w m Y β h g;exact g.elim
def frM(Y:ae)(c:AV):AV:=gK<|aTH Y c
def aOn(Y:ae):AV->AV
 | .m b n=>match box Y b with
  |some x=>if x.var=I then .l (x.bA.take n) I x.own else if((x.bA.take n).all λr=>r.all λc=>eN<|frM Y c)=U then .l ((x.bA.take n).map (·.map (frM Y))) I x.own else .m b n
  |none=> .m b n
 |x=>x
def frN(Y:ae)(c:AV):AV:=gK<|aOn Y c
def dQ(Y:ae):AV->AV
 | .m b n=>match box Y b with
  |some x=>if x.var=I then .l (x.bA.take n) I x.own else if((x.bA.take n).all λr=>r.all λc=>eN<|frN Y c)=U then .l ((x.bA.take n).map (·.map (frN Y))) I x.own else .m b n
  |none=> .m b n
 |x=>x
def iZ(Y:ae):AV->AV| .a cs=> .a (cs.map<|dQ Y)|x=>dQ Y x
def kK(P:Program)(b:dM)(Y:ae):ResultVar->Option AV| .tmp t=>V (b.getD t .u)| .cell a t=>(iE Y<|b.getD a .u).bind<|yz P t
def bt8(P:Program)(f:Func)(b:dM)(Y:ae):Option AV:=
 match(f.results.toList.map<|kK P b Y) with
 |[r]=>r.map<|iZ Y
 |a=>(a.mapM id).map λvs=> .t<|vs.map<|iZ Y
def start(f:Func)(ys:dM):dM:=ys++er (f.ntmps-L ys) (.t [])
def ly(f:Func):ae:=er 4096 mO
def QR(P:Program)(f:Func)(R:AV->Prop):QX:=λe a Y=>
 match e with
 | .normal| .ret=>∃r,bt8 P f a Y=V r/\kG r=U/\R r
 |_=>False
theorem aFf{a w d Y β x r}(h:jG P G κ a w d Y β)(b:kK P d Y x=V r):
  ∃v,((match x with| .tmp t=>pure (a.tmps.getD t undef)| .cell c t=>do loadVar t (<-asAddr (a.tmps.getD c undef)):Sem Value)).run P w= .ok v w/\ba κ w Y β v r:=by
 cases x with
 |tmp t=>
  simp only[kK,aOe] at b
  subst b
  exact⟨_,O,h.reps.get t⟩
 |cell c t=>
  simp only[kK] at b
  cases f:iE Y (d.getD c .u) with
  |none=>simp_all
  |some cs=>
   rw[f] at b
   obtain⟨j,k,g,e,i⟩:=anZ h.sim (h.reps.get c) f
   obtain⟨v,l,m⟩:=anh (P:=P) (t:=t) i b
   grind [asAddr]
theorem aoh{a w d Y β}(h:jG P G κ a w d Y β):∀(l:List ResultVar) (c),(l.map<|kK P d Y).mapM id=V c->
  ∃vs,(l.mapM λx=>(match x with| .tmp t=>pure (a.tmps.getD t undef)| .cell k t=>do loadVar t (<-asAddr (a.tmps.getD k undef)):Sem Value)).run P w= .ok vs w/\js κ w Y β vs c:=by
 intro l
 induction l with
 |nil=>intro c b;simp at b;subst b;exact⟨[],O,A,O⟩
 |cons x l m=>
  intro c b
  simp only[ji,aQa,id,xp,xq] at b
  cases e:kK P d Y x with
  |none=>simp_all
  |some r=>
   rw[e] at b
   simp only[a6X] at b
   cases f:(l.map<|kK P d Y).mapM id with
   |none=>simp_all
   |some j=>
    rw[f] at b
    simp only[a6X,aOe] at b
    subst b
    obtain⟨v,p,q⟩:=aFf h e
    obtain⟨vs,s,g⟩:=m j f
    refine⟨v::vs,vB,by simp[g.1],λi u y n o=>?_⟩
    cases i with
    |zero=>simp_all
    |succ i=>exact g.2 i u y X X
theorem i8(f)(k):aZ (ly f) k=mO:=by grind [aZ,ly]
theorem CY(f)(b):box (ly f) b=J:=by simp[box,i8]
theorem axP(f)(w):dw w [] β0 w (ly f) β0:=by refine⟨A,A,A,dA _,λ_ _ _=>A,λb h=>?_,λb x h=>?_,λb x h=>?_⟩;grind [aZ,jO,i8];grind [sK];grind [CY]
theorem avM{bA f i j y}(h:db (bA.map (·.map f)) i j=V y):∃c,db bA i j=V c/\y=f c:=by grind [db,aOe]
theorem avO{bA n i j y}(h:db (bA.take n) i j=V y):db bA i j=V y:=buh
theorem avL{bA p i j y}(b:(bA.all λr=>r.all p)=U)(h:db bA i j=V y):p y=U:=by unfold db at h;cases a:bA[i]? with|none=>simp_all|some r=>rw[a] at h;simp only[a6X] at h;exact dV.1 (dV.1 b r<|fC a) y X
theorem bct{κ w Y β v x}(s:zw P κ w Y β)(h:ba κ w Y β v x)(E:nj (aOn Y x)=U):ba κ w [] β0 v (aOn Y x):=by have p:∀l,nN κ (kills Y l) β κ [] β0:=λl k g _=>⟨g,λb y a=>(by rw[sK] at a;cases a)⟩;have F:aOn Y x=aTH Y x->ba κ w [] β0 v (aOn Y x):=λe=>(by rw[e] at E⊢;exact(Di (l:=iR x) s h<|λb a=>a).conv1 E (p _)<|dA _);cases x with|m b n=>(cases a:box Y b with|none=>grind [aOn,aTH]|some bx=>obtain B|B:=sq bx.var;by_cases C:((bx.bA.take n).all λr=>r.all λc=>eN<|frM Y c)=U;have e:aOn Y (.m b n)= .l ((bx.bA.take n).map (·.map (frM Y))) I bx.own:=(by grind [aOn,sr]);rw[e];obtain⟨cap,cur,rfl,hn,t,q⟩:=oR h a;have d:=s.ok b bx a;have ab:=boa s a t q;by_cases R:n=0;subst R;rw[CE];exact .l0 (λh=>by cases h);have z:=d.cells t;obtain⟨N,K,g,h2,h3,h4,S⟩:=z.ex;rw[t] at g;(cases g);have M:∀i j y,db ((bx.bA.take n).map (·.map (frM Y))) i j=V y->∃u,cur[i*bx.size+j]?=V u/\amk u=U/\ba κ w [] β0 u y/\eN y=U:=λi j y f=>(by obtain⟨c,D,rfl⟩:=avM f;have o:=avL C D;obtain⟨u,T,W,k3⟩:=S i j c<|avO D;exact⟨u,T,W,(Qx<|Di (l:=iR c) s k3<|λb a=>a).conv o (p _),o⟩);refine .l1 (size:=bx.size) d.ow d.nf (λi j y f=>?_) (λi j=>(cur[i*bx.size+j]?).getD<|.bool I) vB Z Z (λh=>by cases h) (s.lt a) (by grind [sK]) (λr hr=>?_) (λi j y f=>?_) (λi j y f=>?_) (λi j y f=>?_);grind;grind [ES.rl];grind [Df];grind;grind;grind [aOn,aTH,sr];grind [aOn,aTH])|_=>exact F rfl
def ba6{x}(h:eN (gK x)=U):nj x=U:=by cases x<;>first|rfl|exact h|(simp[gK,eN] at h;done)
theorem K0{κ w Y β v x}(s:zw P κ w Y β)(h:ba κ w Y β v x)(D:nj (dQ Y x)=U):ba κ w [] β0 v (dQ Y x):=by have F:∀l,nN κ (kills Y l) β κ [] β0:=λl k g _=>⟨g,λb y a=>(by rw[sK] at a;cases a)⟩;have E:dQ Y x=aTH Y x->ba κ w [] β0 v (dQ Y x):=λe=>(by rw[e] at D⊢;exact(Di (l:=iR x) s h<|λb a=>a).conv1 D (F _)<|dA _);cases x with|m b n=>(cases a:box Y b with|none=>grind [dQ,aTH]|some bx=>obtain z|z:=sq bx.var;by_cases B:((bx.bA.take n).all λr=>r.all λc=>eN<|frN Y c)=U;have e:dQ Y (.m b n)= .l ((bx.bA.take n).map (·.map (frN Y))) I bx.own:=(by grind [dQ,sr]);rw[e];obtain⟨cap,cur,rfl,hn,q,p⟩:=oR h a;have d:=s.ok b bx a;have ab:=boa s a q p;by_cases R:n=0;subst R;rw[CE];exact .l0 (λh=>by cases h);have t:=d.cells q;obtain⟨N,K,g,h2,h3,h4,S⟩:=t.ex;rw[q] at g;(cases g);have M:∀i j y,db ((bx.bA.take n).map (·.map (frN Y))) i j=V y->∃u,cur[i*bx.size+j]?=V u/\amk u=U/\ba κ w [] β0 u y/\eN y=U:=λi j y f=>(by obtain⟨c,C,rfl⟩:=avM f;have o:=avL B C;obtain⟨u,T,W,k3⟩:=S i j c<|avO C;exact⟨u,T,W,Qx<|bct s k3<|ba6 o,o⟩);refine .l1 (size:=bx.size) d.ow d.nf (λi j y f=>?_) (λi j=>(cur[i*bx.size+j]?).getD<|.bool I) vB Z Z (λh=>by cases h) (s.lt a) (by grind [sK]) (λr hr=>?_) (λi j y f=>?_) (λi j y f=>?_) (λi j y f=>?_);grind;grind [ES.rl];grind [Df];grind;grind;grind [dQ,aTH,sr];grind [dQ,aTH])|_=>exact E rfl
theorem Dk{κ w Y β v x}(s:zw P κ w Y β)(h:ba κ w Y β v x)(d:pF (iZ Y x)=U):ba κ w [] β0 v (iZ Y x):=by cases x with|a cs=>(cases h with|a g f o=>simp only[iZ,pF] at d⊢;refine .a (by simp[g]) f λi v c p k=>?_;grind [aOe,K0,dV,fC])|m b n=>have e:nj (dQ Y<|.m b n)=U:=(by have:∀y,(∀cs,y≠ .a cs)->pF y=U->nj y=U:=λy l j=>(by cases y with|a cs=>simp_all|_=>exact j);refine this _ (λcs=>?_) d;grind [dQ]);exact K0 s h e|_=>exact K0 s h d
theorem aBk{κ w Y β v x}(s:zw P κ w Y β)(h:ba κ w Y β v x)(c:kG (iZ Y x)=U):ba κ w [] β0 v (iZ Y x):=by cases x with|t cs=>exact h.convT c (λk e _=>⟨e,λb y d=>(by rw[sK] at d;cases d)⟩) (dA _)|a cs=>exact Dk s h c|m b n=>grind [Dk,iZ,kG,pF,absurd,dQ]|_=>exact Dk s h c
theorem tQ.code(d:tQ P){fn:FuncId}{f c}(b:P.funcs[fn]?=V f)(a:f.body=V c):qf P c/\oI c=U:=by grind [aBs,tQ.funcs,tQ.guards]
theorem aBh(g:tQ P){fn f c ys R}(C:P.funcs[fn]?=V f)(u:f.body=V c)(hn:(f.name== "runtime.NumGoroutine")=I)(hl:L ys<=f.ntmps)
  (h:Xq P G c (QR P f R) (start f ys)<|ly f):btY P G fn ys R:=by
 refine⟨⟨f,c,C,u,hn⟩,λF w s hF hG E=>calls_of_wp C u ?_⟩
 have e0:=axP f w
 have W:jG P G ⟨F,w.heap.size⟩ {tmps:=s.toArray++aqn (f.ntmps-s.toArray.size) undef,defers:=[]} w (start f ys) (ly f) β0:=by
  refine⟨A,?_,⟨(by grind [CY]),(by grind [CY]),hF,dA _⟩,hG.ext e0⟩
  have k:=E.1
  refine⟨by simp[start,k],λi v x b d=>?_⟩
  simp only[aqo,aqp,xm,start] at b d
  rw[rA] at b d
  rw[k] at b
  split at b
  ·rename_i hi;rw[zg hi] at d;exact(E.2 i v x b d).ext e0
  grind [QT]
 refine wp_mono (Kg g.mixed c (g.code C u).1 (g.code C u).2 _ W h) ?_
 rintro e n j ⟨τ',Y',aq,D,m,B⟩
 have S:Below w.heap.size w j:=⟨B.os,B.tape,B.output,B.size,by grind [dw.keep,CY]⟩
 have M:∀r,bt8 P f τ' Y'=V r->kG r=U->R r->n.defers=[]/\∃v,(results f n.tmps).run P j= .ok v j/\∃v' r,Ending.returned v= .returned v'/\R r/\ba ⟨F,w.heap.size⟩ j [] β0 v' r/\Below w.heap.size w j:=by
  intro r g hd hR
  refine⟨m.defers,?_⟩
  have key:∃a,(f.results.toList.map<|kK P τ' Y').mapM id=V a/\((∃x,a=[x]/\r=iZ Y' x)\/(L a≠1/\r= .t (a.map<|iZ Y'))):=by
   unfold bt8 at g
   split at g
   ·rename_i x K
    cases ao:x with
    |none=>simp_all
    |some y=>
     grind
   ·rename_i K
    cases hm:(f.results.toList.map<|kK P τ' Y').mapM id with
    |none=>simp_all
    |some a=>
     rw[hm] at g
     simp only[df,aOe] at g
     refine⟨a,A, .inr ⟨λb=>?_,g.symm⟩⟩
     have k:L (f.results.toList.map<|kK P τ' Y')=L a:=by
      have:∀(l:List<|Option AV) a,l.mapM id=V a->L l=L a:=by
       intro l
       induction l with
       |nil=>simp
       |cons y l ih=>
        intro a h
        simp only[aQa,id,xp,xq] at h
        cases y with
        |none=>cases h
        |some y=>
         simp only[a6X] at h
         cases d:l.mapM id with
         |none=>simp_all
         |some ap=>
          grind
      simp_all
     grind [buE]
  obtain⟨a,ab,o⟩:=key
  obtain⟨vs,k1,q⟩:=aoh m f.results.toList a ab
  have T:(results f n.tmps).run P j= .ok (if h:vs.toArray.size=1 then vs.toArray[0] else .tuple vs.toArray) j:=by
   unfold results
   rw[aqm]
   simp only[Sem.run_bind]
   have ac:Sem.run P (Functor.map aq1<|f.results.toList.mapM λx=>(match x with| .tmp t=>pure (n.tmps.getD t undef)| .cell ad t=>do loadVar t (<-asAddr (n.tmps.getD ad undef)):Sem Value)) j= .ok vs.toArray j:=by
    simp_all
   erw [ac]
   simp
  refine⟨_,T,_,r,A,hR,?_,S⟩
  obtain⟨x,rfl,rfl⟩|⟨an,rfl⟩:=o
  ·have p:L vs=1:=by rw[q.1];rfl
   obtain⟨v,rfl⟩:=buE.1 p
   simp only[xm,GJ,dite_true,aqR,aqP]
   exact aBk m.sim (q.2 0 v x A rfl) hd
  ·have p:¬vs.toArray.size=1:=by simp only[xm];rwa [q.1]
   rw[dif_neg p]
   simp only[kG] at hd
   refine .t (by simp[q.1]) (λi v c E z=>?_)
   rw[ve] at z
   cases K:a[i]? with
   |none=>simp_all
   |some x=>
    rw[K] at z
    simp only[df,aOe] at z
    subst z
    exact Dk m.sim (q.2 i v x E K) X
 cases e<;>simp only[QR] at D<;>first|exact D.elim|skip
 ·obtain⟨r,b,d,N⟩:=D;exact M r b d N
 ·obtain⟨r,b,d,N⟩:=D;exact M r b d N
theorem vN{ops K b}(g:∀a Y,K a Y->b a Y):∀(l) {a Y},rE P G ops l K a Y->rE P G ops l b a Y:=λl=>by induction l with|nil=>intro a Y h;exact g _ _ h|cons o l i=>intro a Y h;obtain⟨c,d,e,f⟩:=oE.1 h;exact oE.2 ⟨c,d,e,i f⟩
theorem zK{ops K b}(g:∀l a Y,K l a Y->b l a Y):∀(l) (acc) {a Y},qq P G ops l acc K a Y->qq P G ops l acc b a Y:=λl=>by induction l with|nil=>intro acc a Y h;exact g _ _ _ h|cons o l i=>intro acc a Y h;obtain⟨c,d,e,f⟩:=oE.1 h;exact oE.2 ⟨c,d,e,i _ f⟩
theorem ak6{ops K}:∀(l) {c Y},rE P G ops l K c Y->∃τ' Y',K τ' Y'/\rE P G ops l (λa b=>a=τ'/\b=Y') c Y:=λl=>by induction l with|nil=>intro c Y h;exact⟨c,Y,h,A,A⟩|cons o l k=>intro c Y h;obtain⟨d,e,f,g⟩:=oE.1 h;obtain⟨τ',Y',i,j⟩:=k g;exact⟨τ',Y',i,oE.2 ⟨d,e,f,j⟩⟩
def asi{ops K}:∀(l) (acc) {d Y},qq P G ops l acc K d Y->∃ls τ' Y',K ls τ' Y'/\qq P G ops l acc (λc a b=>c=ls/\a=τ'/\b=Y') d Y:=λl=>by induction l with|nil=>intro acc d Y h;exact⟨acc,d,Y,h,A,A,A⟩|cons o l m=>intro acc d Y h;obtain⟨e,f,g,i⟩:=oE.1 h;obtain⟨ls,τ',Y',j,k⟩:=m _ i;exact⟨ls,τ',Y',j,oE.2 ⟨e,f,g,k⟩⟩
theorem kR:∀(c) {Q g b Y},(∀e b Y,Q e b Y->g e b Y)->Xq P G c Q b Y->Xq P G c g b Y:=λc=>by induction c with|skip=>intro Q g b Y f h;exact f _ _ _ h|label l=>intro Q g b Y f h;exact f _ _ _ h|exit o=>intro Q g b Y f h;exact f _ _ _ h|ret=>intro Q g b Y f h;exact f _ _ _ h|region o ops d=>intro Q g b Y f h;(cases d with|false=>exact vN (f .normal) _ h|true=>simp only[Xq,sF] at h⊢;grind [vN,zK])|seq x y k m=>intro Q g b Y f h;refine k ?_ h;intro e b Y i;(cases e<;>first|exact m f i|exact f _ _ _ i)|cond c x y k m=>grind [Xq]|block o c n=>intro Q g b Y f h;refine n ?_ h;intro e b Y i;(cases e with|exit j=>grind [QX.inBlock]|_=>exact f _ _ _ i)|loop c n=>intro Q g b Y f h;obtain⟨a,r,p,q⟩:=h;refine⟨a,r,p,λb Y hI=>n ?_<|q b Y hI⟩;intro e b Y i;(cases e<;>first|exact i|exact f _ _ _ i)|_=>intro Q g b Y f h;exact h.elim
theorem Kf:∀(c) {Q g Y},Xq P G c Q g Y->∃e τ' Y',Q e τ' Y'/\Xq P G c (λk a b=>k=e/\a=τ'/\b=Y') g Y:=λc=>by induction c with|skip=>intro Q g Y h;exact⟨_,_,_,h,A,A,A⟩|label l=>intro Q g Y h;exact⟨_,_,_,h,A,A,A⟩|exit t=>intro Q g Y h;exact⟨_,_,_,h,A,A,A⟩|ret=>intro Q g Y h;exact⟨_,_,_,h,A,A,A⟩|region t ops d=>intro Q g Y h;(cases d with|false=>obtain⟨τ',Y',i,o⟩:=ak6 _ h;exact⟨.normal,τ',Y',i,vN (λa b r=>⟨A,r⟩) _ o⟩|true=>by_cases R:rG G ops.toList=U;simp only[Xq,sF,zg R] at h⊢;grind [ak6,vN];simp only[Xq,sF,za R] at h⊢;obtain⟨ls,τ',Y',i,o⟩:=asi _ _ h;grind [zK])|seq x y v w=>intro Q g Y h;obtain⟨e,m,p,i,o⟩:=v h;by_cases q:e= .normal;subst q;obtain⟨B,τ',Y',C,D⟩:=w i;refine⟨B,τ',Y',C,kR x ?_ o⟩;rintro k a b ⟨rfl,rfl,rfl⟩;exact D;refine⟨e,m,p,?_,kR x ?_ o⟩;(cases e<;>first|exact aYx A q|exact i);rintro k a b ⟨rfl,rfl,rfl⟩;(cases k<;>first|exact absurd rfl q|exact⟨rfl,rfl,rfl⟩)|cond c x y v w=>intro Q g Y h;simp only[Xq] at h⊢;grind|block t c F=>intro Q g Y h;obtain⟨e,m,p,i,o⟩:=F h;(cases e with|exit j=>by_cases M:j=t;simp only[QX.inBlock] at i;rw[zg M] at i;refine⟨.normal,m,p,i,kR c ?_ o⟩;rintro k a b ⟨rfl,rfl,rfl⟩;show(if j=t then _ else _);simp_all;simp only[QX.inBlock] at i;rw[za M] at i;refine⟨.exit j,m,p,i,kR c ?_ o⟩;rintro k a b ⟨rfl,rfl,rfl⟩;show(if j=t then _ else _);simp_all|_=>refine⟨_,m,p,i,kR c ?_ o⟩;rintro k a b ⟨rfl,rfl,rfl⟩;exact⟨A,A,A⟩)|loop c F=>intro Q g Y h;obtain⟨f,W,h0,s⟩:=h;have key:∀n g Y,f g Y->W g Y=n->∃e τ' Y',Q e τ' Y'/\Xq P G (.loop c) (λk a b=>k=e/\a=τ'/\b=Y') g Y:=(λn=>by induction n using Nat.strongRecOn with|_ n S=>rintro g Y hI rfl;obtain⟨e,m,p,i,o⟩:=F<|s g Y hI;by_cases q:e= .normal;subst q;obtain⟨K,N⟩:=i;obtain⟨B,τ',Y',C,I1,z,D,T⟩:=S _ N m p K A;classical refine⟨B,τ',Y',C,λa b=>(a=g/\b=Y)\/I1 a b,λa b=>if I1 a b then z a b else z m p+1, .inl ⟨A,A⟩,λa b r=>?_⟩;by_cases E:I1 a b;refine kR c ?_<|T a b E;intro k x y u;(cases k<;>first|(refine⟨.inr u.1,?_⟩;simp only[zg<|show I1 x y from u.1,zg E];exact u.2)|exact u);obtain⟨rfl,rfl⟩:=r.resolve_right E;refine kR c ?_ o;rintro k x y ⟨rfl,rfl,rfl⟩;refine⟨.inr D,?_⟩;simp_all;refine⟨e,m,p,?_,λa b=>a=g/\b=Y,λ_ _=>0,⟨A,A⟩,?_⟩;(cases e<;>first|exact aYx A q|exact i);rintro a b ⟨rfl,rfl⟩;refine kR c ?_ o;rintro k x y ⟨rfl,rfl,rfl⟩;cases k<;>first|exact aYx A q|exact⟨A,A,A⟩);simp_all|_=>intro Q g Y h;exact h.elim
def Fn(P:Program)(G:Env)(fn:FuncId)(ys:dM)(R:AV->Prop):Prop:=∃r,R r/\kG r=U/\btY P G fn ys (·=r)
theorem Fn.mono{fn ys R a}(h:Fn P G fn ys R)(e:∀r,R r->a r):Fn P G fn ys a:=by obtain⟨r,b,c,d⟩:=h;exact⟨r,e r b,c,d⟩
theorem aBg(n:tQ P){fn f c ys R}(k:P.funcs[fn]?=V f)(j:f.body=V c)(m:(f.name== "runtime.NumGoroutine")=I)(l:L ys<=f.ntmps)(h:Xq P G c (QR P f R) (start f ys)<|ly f):Fn P G fn ys R:=by obtain⟨e,τ',Y',d,i⟩:=Kf c h;have:∃r,bt8 P f τ' Y'=V r/\kG r=U/\R r/\(e= .normal\/e= .ret):=(by(cases e<;>simp only[QR] at d<;>first|exact d.elim|skip);simp_all;simp_all);obtain⟨r,o,g,p,q⟩:=this;refine⟨r,p,g,aBh n k j m l<|kR c ?_ i⟩;rintro s a b ⟨rfl,rfl,rfl⟩;obtain rfl|rfl:=q<;>exact⟨r,o,g,A⟩
def wG(P:Program)(f:Func)(b:dM)(Y:ae):Option AV:=
 match f.results.toList.map (kK P b Y) with
 |[r]=>r
 |a=>(a.mapM id).map .t
def QB(P:Program)(f:Func)(R:AV->ae->Prop):QX:=λe a Y=>
 match e with
 | .normal| .ret=>∃r,wG P f a Y=V r/\R r Y
 |_=>False
theorem Qn:∀(l:List<|Option AV) (a),l.mapM id=V a->L l=L a:=λl=>by induction l with|nil=>simp|cons y l d=>intro a h;simp only[aQa,id,xp,xq] at h;cases y with|none=>(cases h)|some y=>simp only[a6X] at h;cases c:l.mapM id with|none=>simp_all|some b=>grind
theorem aoi{f a w i Y β r}(h:jG P G κ a w i Y β)(c:wG P f i Y=V r):∃v,(results f a.tmps).run P w= .ok v w/\ba κ w Y β v r:=by
 have key:∃b,(f.results.toList.map<|kK P i Y).mapM id=V b/\(b=[r]\/(L b≠1/\r= .t b)):=by
  unfold wG at c
  split at c
  ·rename_i x m
   subst c
   exact⟨[r],by rw[m];rfl, .inl A⟩
  ·rename_i m
   cases k:(f.results.toList.map<|kK P i Y).mapM id with
   |none=>simp_all
   |some b=>
    rw[k] at c
    simp only[df,aOe] at c
    refine⟨b,A, .inr ⟨λs=>?_,c.symm⟩⟩
    have p:=Qn _ _ k
    grind [buE]
 obtain⟨b,l,d⟩:=key
 obtain⟨vs,u,g⟩:=aoh h f.results.toList b l
 have j:(results f a.tmps).run P w= .ok (if h:vs.toArray.size=1 then vs.toArray[0] else .tuple vs.toArray) w:=by
  unfold results
  rw[aqm]
  simp only[Sem.run_bind]
  have n:Sem.run P (Functor.map aq1<|f.results.toList.mapM λx=>(match x with| .tmp t=>pure (a.tmps.getD t undef)| .cell o t=>do loadVar t (<-asAddr (a.tmps.getD o undef)):Sem Value)) w= .ok vs.toArray w:=by
   simp_all
  erw [n]
  simp
 refine⟨_,j,?_⟩
 obtain rfl|⟨q,rfl⟩:=d
 ·have e:L vs=1:=by rw[g.1];rfl
  obtain⟨v,rfl⟩:=buE.1 e
  simp only[xm,GJ,dite_true,aqR,aqP]
  exact g.2 0 v r A rfl
 ·have e:¬vs.toArray.size=1:=by simp only[xm];rwa [g.1]
  rw[dif_neg e]
  exact .t g.1 g.2
theorem aBf(n:tQ P){fn f c ys m R}(l:P.funcs[fn]?=V f)(k:f.body=V c)(z:(f.name== "runtime.NumGoroutine")=I)(h:Xq P G c (QB P f R) (start f ys) m):∃r o,R r o/\cZ P G fn ys m r o:=by obtain⟨e,τ',Y',a,b⟩:=Kf c h;have:∃r,wG P f τ' Y'=V r/\R r Y'/\(e= .normal\/e= .ret):=(by(cases e<;>simp only[QB] at a<;>first|exact a.elim|skip);simp_all;simp_all);obtain⟨r,B,C,D⟩:=this;refine⟨r,Y',C,⟨f,c,l,k,z⟩,λκ w β j hs t q=>calls_of_wp l k ?_⟩;have p:jG P G κ {tmps:=j.toArray++aqn (f.ntmps-j.toArray.size) undef,defers:=[]} w (start f ys) m β:=(by refine⟨A,?_,hs,t⟩;have g:=q.1;refine⟨by simp[start,g],λi v x a b=>?_⟩;simp only[aqo,aqp,xm,start] at a b;rw[rA] at a b;rw[g] at a;split at a;rename_i y;rw[zg y] at b;exact q.2 i v x a b;grind [QT]);refine wp_mono (Kg n.mixed c (n.code l k).1 (n.code l k).2 _ p b) ?_;rintro M K N ⟨_,_,s,⟨rfl,rfl,rfl⟩,d,u⟩;obtain⟨v,E,F⟩:=aoi d B;obtain rfl|rfl:=D<;>exact⟨d.defers,v,E,v,s,A,F,d.sim,u⟩
end
end Go.Ab
