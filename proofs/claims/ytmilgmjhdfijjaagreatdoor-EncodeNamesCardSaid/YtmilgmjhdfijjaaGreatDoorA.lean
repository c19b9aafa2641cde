/- Part of the proof of EncodeNames, made short by a program. -/
import Derived.Orders
import GoSem.Core.CheckCode
import Derived.WalkKit
import Derived.Below
import Derived.Laws.OwnMore
import Derived.ArgAppend
import Derived.Laws.Small
import Derived.Laws.StructEq
import Derived.MapKept
import Derived.WideKeyRuns
import Derived.Laws.Tables
import Derived.Laws.MakeOwn
import Derived.Laws.CopyRow
import Derived.Great.BuildSlice
import GoSem.Builtin.Clear
set_option linter.all false
open Array renaming all_eq_true_iff_forall_mem->aqi,foldl_toList->yY,getD->pZ,getD_eq_getD_getElem?->Ry,getElem?_eq_none->aqj,getElem?_eq_some_iff->vh,getElem?_modify->aqk,getElem_push_lt->aql,length_toList->Rz,mapM_eq_mapM_toList->aqm,mem_of_getElem?->RA,mem_toList_iff->vj,replicate->aqn,toList_append->aqo,toList_inj->qb,toList_replicate->aqp,toList_setIfInBounds->aqq
open Bool renaming and_eq_true->bN,and_true->ru,eq_false_iff->aqs,eq_false_or_eq_true->sq,false->I,false_eq_true->eE,not_eq_true'->eH,or_eq_true->fH,true->U,true_eq_false->sr
open Decidable renaming decide->Q
open Go.World renaming cell?_of_block->ar6,setRow->ar9
open Int renaming natCast_mul->RE,toNat_natCast->bh
open List renaming Sublist->aqE,all_append->aqF,all_cons->Cs,all_eq_true->dV,any_eq_false->Gy,any_eq_true->tL,contains_iff_mem->aYv,eq_of_mem_replicate->RJ,ext_getElem->zp,ext_getElem?->aqI,flatMap_def->GD,flatten_cons->aqM,foldl_cons->GE,getD->GF,getD_eq_getElem?_getD->eI,getElem?_append->rA,getElem?_cons_zero->qh,getElem?_drop->mf,getElem?_eq_getElem->eC,getElem?_eq_none->qi,getElem?_eq_some_iff->mg,getElem?_map->ve,getElem?_of_mem->aqN,getElem?_range->GH,getElem?_replicate->xg,getElem?_set->xh,getElem?_set_ne->oq,getElem?_take->ot,getElem?_toArray->RR,getElem_cons_zero->aqP,getElem_mem->qj,getElem_toArray->aqR,length->L,length_append->P8,length_cons->bZ,length_eq_one_iff->xj,length_map->bJ,length_replicate->oA,length_singleton->GJ,length_take->gC,mapM_cons->aQa,map_append->dg,map_congr_left->ja,map_cons->ji,map_id->zr,map_nil->mU,map_toArray->aqV,mem_append->dF,mem_append_left->qk,mem_append_right->zt,mem_cons->eW,mem_cons_of_mem->zu,mem_flatMap->iI,mem_map->dN,mem_map_of_mem->CA,mem_of_getElem?->fC,mem_of_mem_drop->CB,mem_of_mem_take->sA,mem_or_eq_of_mem_set->CC,mem_range->fq,mem_singleton->cE,mem_zipIdx_iff_getElem?->RV,pairwise_append->RW,pairwise_cons->aqX,pairwise_iff_getElem->GN,range->aH,range'->GO,range'_succ->RX,range_eq_range'->aqY,replicate->er,replicate_succ->aqZ,size_toArray->xm,tail->GQ,take_zero->CE,toArray->aq1
open Nat renaming add_assoc->aYz,add_mul->aYA,add_zero->kP,div_add_mod->aq4,div_lt_of_lt_mul->aq5,eq_of_mul_eq_mul_right->aq6,eq_zero_or_pos->oD,le_of_eq->aSp,le_refl->dA,le_trans->gl,lt_of_lt_of_le->C3,lt_or_ge->jj,lt_succ_of_lt->aq8,lt_trans->aYC,min_eq_left->rD,mod_eq_of_lt->aYD,mod_lt->zw,mul_add_mod->aq9,mul_comm->vD,mul_le_mul_right->qo,mul_one->zx,sub_zero->ara,succ_mul->tN,testBit_or->zy,testBit_two_pow->arb,zero_add->aj,zero_le->mh
open Ne renaming symm->Sa
open Option renaming bind_eq_bind->xp,bind_some->qd,getD_none->sD,getD_some->mi,isSome_iff_exists->zz,map_some->df,none->J,pure_def->xq,some->V,some.inj->xu,some.injEq->bE
open Prod renaming ext->GT,fst->Se,mk.injEq->iK,snd->Sf
namespace Go.Ab
open Go Go.RowKit
def nl:=@absurd
def aoA:=@and_assoc
def y6:=@and_self
def vm:=@and_true
def aIc:=@cond_false
def aly:=@cond_true
def aC2:=@congrArg
def aPy:=@decide_eq_false
def o8:=@decide_eq_false_iff_not
def aID:=@decide_eq_true
def lS:=@decide_eq_true_eq
def aNE:=@decide_false
def aNV:=@decide_true
def aRI:=@eq_true
def Ca:=@false_implies
def aB9:=@if_false
def cj:=@if_neg
def bX:=@if_pos
def vg:=@if_true
def vb:=@implies_true
def aNQ:=@ne_eq
def bdT:=@not_false_eq_true
def bdU:=@not_true_eq_false
def aNG:=@of_decide_eq_false
def nt:=@of_decide_eq_true
def C8:=@or_false
def vp:=@propext
def mn:=@true_and
def O9:=@true_implies
def qy{α β:Type}{x:Except String α}{f:α->Except String β}{b:β}(h:(x>>=f)= .ok b):∃a,x= .ok a/\f a= .ok b:=by cases x with|error e=>(cases h)|ok a=>exact⟨a,rfl,h⟩
def qf(p:Program):Code->Prop| .region _ ops d=>Region.ok p.types ops d=U| .seq a b=>qf p a/\qf p b| .cond _ a b=>qf p a/\qf p b| .block _ c=>qf p c| .loop c=>qf p c|_=>True
def aFc{p:Program}{f:Func}{c:Nat}{ops:Array Oper}{a:Bool}(h:CheckCode.region p f c ops a= .ok ()):Region.ok p.types ops a=U:=by unfold CheckCode.region at h;obtain⟨_,_,h⟩:=qy h;obtain⟨_,_,h⟩:=qy h;cases b:Region.ok p.types ops a with|true=>rfl|false=>rw[b] at h;cases h
def axx{p:Program}{f:Func}:∀(c:Code) (d lb:List Nat),CheckCode.code p f d lb c= .ok ()->qf p c:=by intro c;induction c with|region m ops l=>intro d lb h;exact aFc h|seq a b e g=>intro d lb h;obtain⟨_,i,j⟩:=qy h;exact⟨e d lb i,g d lb j⟩|cond c a b e g=>intro d lb h;obtain⟨_,_,h⟩:=qy h;obtain⟨_,i,j⟩:=qy h;exact⟨e d lb i,g d lb j⟩|block m c k=>intro d lb h;exact k _ _ h|loop c k=>intro d lb h;exact k _ _ h|_=>intro d lb h;trivial
def ame{α:Type}{g:α->Except String Unit}:∀(l:List α),l.forM g= .ok ()->∀x∈l,g x= .ok ()
 |[],_,x,a=>by cases a
 |y::l,h,x,a=>by
  have b:(g y>>=λ_=>l.forM g)= .ok ():=h
  obtain⟨_,c,d⟩:=qy b
  rcases eW.1 a with rfl|a
  ·exact c
  ·exact ame l d x a
def aBs{p:Program}(h:(aH p.funcs.size).forM (CheckCode.funcAt p)= .ok ()){fn:FuncId}{f:Func}{c:Code}(d:p.funcs[fn]?=V f)(j:f.body=V c):qf p c:=by have g:fn<p.funcs.size:=(vh.1 d).1;have b:=ame _ h fn (fq.2 g);unfold CheckCode.funcAt at b;rw[d] at b;have a:CheckCode.func p f= .ok ():=(by cases k:CheckCode.func p f with|error e=>simp only[k] at b;cases b|ok u=>rfl);unfold CheckCode.func at a;obtain⟨_,_,a⟩:=qy a;obtain⟨_,_,a⟩:=qy a;obtain⟨_,_,a⟩:=qy a;rw[j] at a;obtain⟨_,_,a⟩:=qy a;obtain⟨_,i,_⟩:=qy a;exact axx c _ _ i
abbrev Id:=Nat×Nat
inductive AV where
 |s(v:Value)
 |u
 |l(aa:List (List AV))(tight own:Bool)
 |a(cs:List AV)
 |t(cs:List AV)
 |p(b:Id)(i j:Nat)
 |q(cs:List AV)
 |m(b:Id)(n:Nat)
 |f(fn:FuncId)(first cap:List AV)
 |g(k:Nat)(b:Id)(o n:Nat)
 deriving Inhabited
structure nn where
 glob:Nat->Option (List AV)
 imp:FuncId->Bool
 rd:FuncId->Bool
 nw:FuncId->Bool
 sv:Bool
 fp:FuncId->Option (List Nat)
instance:CoeFun nn (λ_=>Nat->Option (List AV)):=⟨nn.glob⟩
structure bY where
 elem:TypeId
 size:Nat
 own:Bool
 var:Bool
 aa:List (List AV)
structure vG where
 lB:Nat
 val:Nat->Option bY
abbrev mO:vG:=⟨0,λ_=>J⟩
abbrev ae:=List vG
structure rm where
 F:Nat->Prop
 base:Nat
def aZ(Y:ae)(k:Nat):vG:=Y.getD k mO
def box(Y:ae)(b:Id):Option bY:=if b.2<=(aZ Y b.1).lB then(aZ Y b.1).val b.2 else J
def jO(Y:ae)(b:Id):Bool:=Q (b.2<=(aZ Y b.1).lB)&&((aZ Y b.1).val b.2).isNone
def eN:AV->Bool| .s _=>U| .l _ a own=>!a&&!own|_=>I
def db(aa:List (List AV))(i j:Nat):Option AV:=(aa[i]?).bind (λr=>r[j]?)
def sc:Value->Bool| .bool _| .int _ _| .string _| .pointer none| .nilFunc| .nilIface| .map none| .chan none| .float _ _| .complex _ _ _=>U|_=>I
def amk:Value->Bool| .agg _| .tuple _=>I|_=>U
def AF{v:Value}(h:sc v=U):amk v=U:=by cases v<;>simp_all [sc,amk]
def XV(k z m a o n:Nat)(v:Value):Prop:=(k=0/\z=0/\v= .map (V a))\/(k=1/\z=0/\v= .pointer (V ⟨a,0,J⟩))\/(k=2/\0<z/\o+n<=m/\∃cap,v= .slice (V ⟨a,o*z,J⟩) n cap)
def XV.cell{k z m a o n:Nat}{v:Value}(h:XV k z m a o n v):amk v=U:=by rcases h with⟨_,_,rfl⟩|⟨_,_,rfl⟩|⟨_,_,_,_,rfl⟩<;>rfl
def ent(p:Value×Value):AV:= .t [.s p.1, .s p.2]
def oQ:Nat->List (Value×Value)->List MapEntry|_,[]=>[]|i,p::a=>⟨p.1,p.2,i⟩::oQ (i+1) a
def DW(v:Value):Bool:=match v with| .agg a=>a.toList.all sc|_=>U
def uK(p:Value×Value):Bool:=sc p.2&&DW p.1
def GW(x:bY)(o:Option Obj):Prop:=(x.var=U/\∃a:List (Value×Value),x.aa=[a.map ent]/\a.all uK=U/\o=V (.map (oQ 0 a).toArray (L a)))\/(x.var=I/\∃(s:ByteArray) (b:Nat),x.aa=[[.s (.string s), .s (.int .i64 b)]]/\o=V (.stringIter s b))
inductive ba(κ:rm)(w:World)(Y:ae)(β:Id->Nat):Value->AV->Prop
 |s {v:Value} (h:sc v=U):ba κ w Y β v (.s v)
 |u {v:Value}:ba κ w Y β v .u
 |a {vs:List Value} {cs:List AV} (hl:L vs=L cs) (hc:∀v∈vs,amk v=U)
   (h:∀(i:Nat) v c,vs[i]?=V v->cs[i]?=V c->ba κ w Y β v c):ba κ w Y β (.agg vs.toArray) (.a cs)
 |t {vs:List Value} {cs:List AV} (hl:L vs=L cs)
   (h:∀(i:Nat) v c,vs[i]?=V v->cs[i]?=V c->ba κ w Y β v c):ba κ w Y β (.tuple vs.toArray) (.t cs)
 |l0 {A:Option Addr} {c:Nat} {tight own:Bool} (ht:tight=U->c=0):ba κ w Y β (.slice A 0 c) (.l [] tight own)
 |l1 {blk off n c size:Nat} {aa:List (List AV)} {tight own:Bool} (ho:own=U->κ.base<=blk) (nf:¬κ.F blk) (hd:∀i j x,db aa i j=V x->eN x=U) (g:Nat->Nat->Value) (hn:L aa=n) (hne:0<n) (hlen:n<=c) (ht:tight=U->c=n)
   (hb:blk<w.heap.size) (nd:∀b x,box Y b=V x->β b≠blk) (hs:∀r∈aa,L r=size)
   (hc:∀i j x,db aa i j=V x->w.cell? ⟨blk,off+i*size+j,J⟩=V (g i j))
   (hr:∀i j x,db aa i j=V x->ba κ w Y β (g i j) x) (hk:∀i j x,db aa i j=V x->amk (g i j)=U):ba κ w Y β (.slice (V ⟨blk,off,J⟩) n c) (.l aa tight own)
 |p1 {b:Id} {i j o:Nat} {x:bY} (h:box Y b=V x) (hz:0<x.size) (ho:o=i*x.size+j):ba κ w Y β (.pointer (V ⟨β b,o,J⟩)) (.p b i j)
 |p0 {v:Value} {b:Id} {i j:Nat} (h:jO Y b=U) (hv:amk v=U):ba κ w Y β v (.p b i j)
 |q {blk off:Nat} {cs:List AV} (nf:¬κ.F blk) (g:Nat->Value) (hb:blk<w.heap.size) (nd:∀b x,box Y b=V x->β b≠blk)
   (hc:∀j x,cs[j]?=V x->w.cell? ⟨blk,off+j,J⟩=V (g j)) (hr:∀j x,cs[j]?=V x->ba κ w Y β (g j) x)
   (hk:∀j x,cs[j]?=V x->amk (g j)=U):ba κ w Y β (.pointer (V ⟨blk,off,J⟩)) (.q cs)
 |m1 {b:Id} {n cap:Nat} {x:bY} {cur:Array Value} (h:box Y b=V x) (hn:n<=L x.aa) (hh:w.heap[β b]?=V (.cells cur x.elem (0,0))) (hcap:cur.size=cap*x.size) (hz:0<x.size):
   ba κ w Y β (.slice (V ⟨β b,0,J⟩) n cap) (.m b n)
 |m0 {v:Value} {b:Id} {n:Nat} (h:jO Y b=U) (hv:amk v=U):ba κ w Y β v (.m b n)
 |g1 {v:Value} {b:Id} {k o n:Nat} {x:bY} (h:box Y b=V x) (hv:XV k x.size (L x.aa) (β b) o n v):ba κ w Y β v (.g k b o n)
 |g0 {v:Value} {b:Id} {k o n:Nat} (h:jO Y b=U) (hv:amk v=U):ba κ w Y β v (.g k b o n)
 |f {fn:FuncId} {fs cs:List Value} {fa ca:List AV} (hl:L fs=L fa) (hl':L cs=L ca)
   (h:∀(i:Nat) v c,fs[i]?=V v->fa[i]?=V c->ba κ w Y β v c) (h':∀(i:Nat) v c,cs[i]?=V v->ca[i]?=V c->ba κ w Y β v c):
   ba κ w Y β (.func (.func fn) fs.toArray cs.toArray) (.f fn fa ca)
def one:AV->Bool| .a _| .t _| .u=>I|_=>U
def ba.cell{κ:rm}{w:World}{Y:ae}{β:Id->Nat}{v:Value}{x:AV}(h:ba κ w Y β v x)(a:one x=U):amk v=U:=by cases h<;>first|rfl|assumption|(simp[one] at a;done)|(exact AF ‹_›)|(exact XV.cell ‹_›)
structure dw(w:World)(Y:ae)(β:Id->Nat)(w':World)(Y':ae)(β':Id->Nat):Prop where
 os:w'.os=w.os
 tape:w'.tape=w.tape
 output:w'.output=w.output
 size:w.heap.size<=w'.heap.size
 keep:∀k,k<w.heap.size->(∀b x,box Y b=V x->β b≠k)->w'.heap[k]?=w.heap[k]?
 dead:∀b,jO Y b=U->jO Y' b=U
 live:∀b x,box Y b=V x->jO Y' b=U\/∃x',box Y' b=V x'/\x'.size=x.size/\x'.elem=x.elem/\L x'.aa=L x.aa/\β' b=β b/\
  ∀cur,w.heap[β b]?=V (.cells cur x.elem (0,0))->∃cur',w'.heap[β b]?=V (.cells cur' x.elem (0,0))/\cur'.size=cur.size
 fresh:∀b' x',box Y' b'=V x'->w.heap.size<=β' b'\/∃b x,box Y b=V x/\β b=β' b'
section
variable{κ:rm}{w w' w'':World}{Y Y' Y'':ae}{β β' β'':Id->Nat}
def dw.nd(e:dw w Y β w' Y' β'){k:Nat}(j:k<w.heap.size)(a:∀b x,box Y b=V x->β b≠k):∀b x,box Y' b=V x->β' b≠k:=by intro b x g i;rcases e.fresh b x g with h|⟨c,x0,d,f⟩;omega;exact a c x0 d (f.trans i)
def ba.ext{v:Value}{x:AV}(h:ba κ w Y β v x)(e:dw w Y β w' Y' β'):ba κ w' Y' β' v x:=by induction h with|s h=>exact .s h|u=>exact .u|a d B h m=>exact .a d B m|t d h m=>exact .t d m|l0 K=>exact .l0 K|l1 H O y g G S F K r z l B hr E m=>refine .l1 H O y g G S F K (C3 r e.size) (e.nd r z) l (λi j x M=>?_) m E;rw[ar6 (e.keep _ r z)];exact B i j x M|@p1 b i j o x h N H=>rcases e.live b x h with y|⟨x',A,l,_,_,c,_⟩;exact .p0 y rfl;rw[<-c];exact .p1 A (by rw[l];exact N) (by rw[H,l])|p0 h p=>exact .p0 (e.dead _ h) p|q O g r z B hr E m=>refine .q O g (C3 r e.size) (e.nd r z) (λj x M=>?_) m E;rw[ar6 (e.keep _ r z)];exact B j x M|@m1 b n cap x cur h G hh D N=>rcases e.live b x h with y|⟨x',A,l,P,d,c,C⟩;exact .m0 y rfl;obtain⟨W,X,Z⟩:=C cur hh;rw[<-c];exact .m1 A (by rw[d];exact G) (by rw[c,P];exact X) (by rw[Z,l];exact D) (by rw[l];exact N)|m0 h p=>exact .m0 (e.dead _ h) p|@g1 v b k o n x h p=>rcases e.live b x h with y|⟨x',A,l,P,d,c,C⟩;exact .g0 y p.cell;exact .g1 A (by rw[l,d,c];exact p)|g0 h p=>exact .g0 (e.dead _ h) p|f d R h A m T=>exact .f d R m T
def dw.refl(w:World)(Y:ae)(β:Id->Nat):dw w Y β w Y β:=⟨rfl,rfl,rfl,dA _,λ_ _ _=>rfl,λ_ h=>h,λb x h=> .inr ⟨x,h,rfl,rfl,rfl,rfl,λcur a=>⟨cur,a,rfl⟩⟩,λb x h=> .inr ⟨b,x,h,rfl⟩⟩
def qD{b:Id}{x:bY}(h:jO Y b=U)(a:box Y b=V x):False:=by unfold jO at h;unfold box at a;split at a;rw[a] at h;simp at h;cases a
def dw.trans(e:dw w Y β w' Y' β')(a:dw w' Y' β' w'' Y'' β''):dw w Y β w'' Y'' β'':=by refine⟨a.os.trans e.os,a.tape.trans e.tape,a.output.trans e.output,gl e.size a.size,λk m o=>?_,λb h=>a.dead b (e.dead b h),λb x h=>?_,λb x h=>?_⟩;exact(a.keep k (C3 m e.size) (e.nd m o)).trans (e.keep k m o);rcases e.live b x h with j|⟨p,c,E,l,D,d,i⟩;exact .inl (a.dead b j);rcases a.live b p c with j|⟨x2,f,s,q,r,n,g⟩;exact .inl j;refine .inr ⟨x2,f,s.trans E,q.trans l,r.trans D,n.trans d,λcur C=>?_⟩;obtain⟨y,F,G⟩:=i cur C;obtain⟨z,t,H⟩:=g y (by rw[d,l];exact F);exact⟨z,by rw[d,l] at t;exact t,H.trans G⟩;rcases a.fresh b x h with c|⟨u,x0,A,c⟩;exact .inl (gl e.size c);rcases e.fresh u x0 A with f|⟨v,p,f,B⟩;exact .inl (by omega);exact .inr ⟨v,p,f,B.trans c⟩
end
structure ES(P:Program)(κ:rm)(w:World)(Y:ae)(β:Id->Nat)(b:Id)(x:bY):Prop where
 pos:0<x.size
 info:(P.info? x.elem).map (·.size)=V x.size
 rl:∀r∈x.aa,L r=x.size
 dt:x.var=I->∀i j y,db x.aa i j=V y->eN y=U
 ex:∃(cur:Array Value) (cap:Nat),w.heap[β b]?=V (.cells cur x.elem (0,0))/\cur.size=cap*x.size/\L x.aa<=cap/\cap<=maxLen/\
  ∀i j y,db x.aa i j=V y->∃v,cur[i*x.size+j]?=V v/\amk v=U/\ba κ w Y β v y
structure rv(P:Program)(κ:rm)(w:World)(Y:ae)(β:Id->Nat)(b:Id)(x:bY):Prop where
 ow:x.own=U->κ.base<=β b
 nf:¬κ.F (β b)
 cl:0<x.size->ES P κ w Y β b x
 sp:x.size=0->GW x w.heap[β b]?
def rv.cells{P:Program}{κ:rm}{w:World}{Y:ae}{β:Id->Nat}{b:Id}{x:bY}(k:rv P κ w Y β b x){cur:Array Value}{e:TypeId}{z:Nat×Nat}(h:w.heap[β b]?=V (.cells cur e z)):ES P κ w Y β b x:=by rcases oD x.size with a|a;rcases k.sp a with⟨_,_,_,_,c⟩|⟨_,_,_,_,c⟩<;>(rw[h] at c;cases c);exact k.cl a
def rv.some{P:Program}{κ:rm}{w:World}{Y:ae}{β:Id->Nat}{b:Id}{x:bY}(k:rv P κ w Y β b x):∃o,w.heap[β b]?=V o:=by rcases oD x.size with c|c;rcases k.sp c with⟨_,_,_,_,a⟩|⟨_,_,_,_,a⟩<;>exact⟨_,a⟩;obtain⟨_,_,a,_⟩:=(k.cl c).ex;exact⟨_,a⟩
structure cv(P:Program)(κ:rm)(w:World)(Y:ae)(β:Id->Nat):Prop where
 ok:∀b x,box Y b=V x->rv P κ w Y β b x
 inj:∀b b' x x',box Y b=V x->box Y b'=V x'->β b=β b'->b=b'
 old:∀k,κ.F k->k<w.heap.size
 base:κ.base<=w.heap.size
def cv.lt{P:Program}{κ:rm}{w:World}{Y:ae}{β:Id->Nat}(s:cv P κ w Y β){b:Id}{x:bY}(h:box Y b=V x):β b<w.heap.size:=by obtain⟨o,c⟩:=(s.ok b x h).some;rcases jj (β b) w.heap.size with a|a;exact a;rw[aqj a] at c;cases c
def cv.new{P:Program}{κ:rm}{w:World}{Y:ae}{β:Id->Nat}(s:cv P κ w Y β){k:Nat}(h:w.heap.size<=k):¬κ.F k/\κ.base<=k:=⟨λa=>by have:=s.old k a;omega,gl s.base h⟩
def zO{aa:List (List AV)}{i j size:Nat}{x:AV}(e:∀r∈aa,L r=size)(h:db aa i j=V x):i<L aa/\j<size:=by unfold db at h;cases a:aa[i]? with|none=>rw[a] at h;cases h|some r=>rw[a] at h;simp only[qd] at h;obtain⟨b,c⟩:=mg.1 a;obtain⟨d,_⟩:=mg.1 h;exact⟨b,by rw[<-e r (by rw[<-c];exact qj _)];exact d⟩
def upd(β:Id->Nat)(b:Id)(k:Nat):Id->Nat:=λc=>if c=b then k else β c
def gx(β:Id->Nat)(b:Id)(k:Nat):upd β b k b=k:=by simp[upd]
def iG{β:Id->Nat}{b c:Id}{k:Nat}(h:c≠b):upd β b k c=β c:=by simp[upd,h]
def lA(Y:ae)(k:Nat):Id:=(k,(aZ Y k).lB+1)
def put(Y:ae)(k:Nat)(x:bY):ae:=Y.set k ⟨(aZ Y k).lB+1,λv=>if v=(aZ Y k).lB+1 then V x else(aZ Y k).val v⟩
def kill(Y:ae)(b:Id):ae:=Y.set b.1 ⟨(aZ Y b.1).lB,λv=>if v=b.2 then J else(aZ Y b.1).val v⟩
def wr(Y:ae)(b:Id)(x:bY):ae:=Y.set b.1 ⟨(aZ Y b.1).lB,λv=>if v=b.2 then V x else(aZ Y b.1).val v⟩
section
variable{P:Program}{κ:rm}{w w':World}{Y:ae}{β:Id->Nat}
def iD{k:Nat}{s:vG}(h:k<L Y):aZ (Y.set k s) k=s:=by simp[aZ,h]
def jQ{k j:Nat}{s:vG}(h:j≠k):aZ (Y.set k s) j=aZ Y j:=by unfold aZ;rw[eI,eI,oq (λe=>h e.symm)]
def lN{b:Id}{x:bY}(h:box Y b=V x):b.1<L Y:=by rcases jj b.1 (L Y) with a|a;exact a;have:aZ Y b.1=mO:=(by simp[aZ,a]);simp[box,this,mO] at h
def aOm{b:Id}{x:bY}(h:box Y b=V x):b.2<=(aZ Y b.1).lB/\(aZ Y b.1).val b.2=V x:=by unfold box at h;split at h;exact⟨‹_›,h⟩;cases h
def nR{b:Id}{x:bY}(a:b.2<=(aZ Y b.1).lB)(c:(aZ Y b.1).val b.2=V x):box Y b=V x:=by simp[box,a,c]
def Dx{b:Id}:jO Y b=U↔b.2<=(aZ Y b.1).lB/\(aZ Y b.1).val b.2=J:=by simp[jO]
def iy{k:Nat}{x:bY}(h:k<L Y):box (put Y k x) (lA Y k)=V x:=nR (by simp[put,lA,iD h]) (by simp[put,lA,iD h])
def pz{k:Nat}{x y:bY}{c:Id}(h:k<L Y)(g:box (put Y k x) c=V y):(c=lA Y k/\y=x)\/(c≠lA Y k/\box Y c=V y):=by obtain⟨d,a⟩:=aOm g;by_cases f:c.1=k;subst f;simp only[put,iD h] at d a;by_cases b:c.2=(aZ Y c.1).lB+1;rw[bX b] at a;exact .inl ⟨GT rfl b,(xu a).symm⟩;rw[cj b] at a;exact .inr ⟨λe=>b (by rw[e];rfl),nR (by omega) a⟩;right;simp only[put,jQ f] at d a;exact⟨λe=>f (by rw[e];rfl),nR d a⟩
def uA{k:Nat}{x y:bY}{c:Id}(h:k<L Y)(e:box Y c=V y):box (put Y k x) c=V y:=by obtain⟨d,b⟩:=aOm e;by_cases a:c.1=k;subst a;refine nR (by rw[put,iD h];simp only;omega) ?_;rw[put,iD h];simp only;rw[cj (by omega)];exact b;exact nR (by simp[put,jQ a,d]) (by simp[put,jQ a,b])
def Dy{k:Nat}{x:bY}{c:Id}(h:k<L Y)(a:jO Y c=U):jO (put Y k x) c=U:=by rw[Dx] at*;by_cases b:c.1=k;rw[b,put,iD h];rw[b] at a;refine⟨by simp only;omega,?_⟩;simp only;rw[cj (by omega)];exact a.2;rw[put,jQ b];exact a
def AR{k:Nat}{y:bY}{c:Id}(b:box Y c=V y):c≠lA Y k:=λe=>by
 have a:=(aOm b).1
 rw[e] at a
 simp only[lA] at a
 omega
def amv{b:Id}{x:bY}(a:box Y b=V x):jO (kill Y b) b=U:=by rw[Dx];have h:=(aOm a).1;simp[kill,h,iD (lN a)]
def xz{b c:Id}{x y:bY}(h:box Y b=V x)(i:box (kill Y b) c=V y):c≠b/\box Y c=V y:=by obtain⟨d,a⟩:=aOm i;simp only[kill] at d a;by_cases f:c.1=b.1;rw[f,iD (lN h)] at d a;simp only at d a;by_cases g:c.2=b.2;rw[bX g] at a;cases a;rw[cj g] at a;exact⟨λe=>g (by rw[e]),nR (by rw[f];exact d) (by rw[f];exact a)⟩;rw[jQ f] at d a;exact⟨λe=>f (by rw[e]),nR d a⟩
def Qc{b c:Id}{x y:bY}(g:box Y b=V x)(i:box Y c=V y)(h:c≠b):box (kill Y b) c=V y:=by obtain⟨d,f⟩:=aOm i;by_cases a:c.1=b.1;have j:c.2≠b.2:=λe=>h (GT a e);rw[a] at d f;refine nR ?_ ?_;rw[a,kill,iD (lN g)];exact d;rw[a,kill,iD (lN g)];simp only;rw[cj j];exact f;exact nR (by simp[kill,jQ a,d]) (by simp[kill,jQ a,f])
def amu{b c:Id}{x:bY}(f:box Y b=V x)(a:jO Y c=U):jO (kill Y b) c=U:=by rw[Dx] at*;by_cases d:c.1=b.1;rw[d,kill,iD (lN f)];rw[d] at a;refine⟨a.1,?_⟩;simp only;by_cases e:c.2=b.2;rw[bX e];rw[cj e];exact a.2;rw[kill,jQ d];exact a
def yg(b:Id):L (kill Y b)=L Y:=by simp[kill]
def Bf(k:Nat)(x:bY):L (put Y k x)=L Y:=by simp[put]
def lO{b:Id}{x x':bY}(a:box Y b=V x):box (wr Y b x') b=V x':=by have h:=(aOm a).1;exact nR (by simp[wr,iD (lN a),h]) (by simp[wr,iD (lN a)])
def sL{b c:Id}{x x' y:bY}(h:box Y b=V x)(i:box (wr Y b x') c=V y):(c=b/\y=x')\/(c≠b/\box Y c=V y):=by obtain⟨f,a⟩:=aOm i;by_cases d:c.1=b.1;rw[d,wr,iD (lN h)] at f a;simp only at f a;by_cases g:c.2=b.2;rw[bX g] at a;exact .inl ⟨GT d g,(xu a).symm⟩;rw[cj g] at a;exact .inr ⟨λe=>g (by rw[e]),nR (by rw[d];exact f) (by rw[d];exact a)⟩;right;rw[wr,jQ d] at f a;exact⟨λe=>d (by rw[e]),nR f a⟩
def DY{b c:Id}{x x' y:bY}(g:box Y b=V x)(i:box Y c=V y)(h:c≠b):box (wr Y b x') c=V y:=by obtain⟨d,f⟩:=aOm i;by_cases a:c.1=b.1;have j:c.2≠b.2:=λe=>h (GT a e);rw[a] at d f;refine nR ?_ ?_;rw[a,wr,iD (lN g)];exact d;rw[a,wr,iD (lN g)];simp only;rw[cj j];exact f;exact nR (by simp[wr,jQ a,d]) (by simp[wr,jQ a,f])
def Ll{b c:Id}{x x':bY}(f:box Y b=V x)(a:jO Y c=U):jO (wr Y b x') c=U:=by have g:=(aOm f);rw[Dx] at*;by_cases d:c.1=b.1;rw[d,wr,iD (lN f)];rw[d] at a;refine⟨a.1,?_⟩;simp only;by_cases e:c.2=b.2;rw[e,g.2] at a;cases a.2;rw[cj e];exact a.2;rw[wr,jQ d];exact a
def rv.ext{Y':ae}{c:Id->Nat}{b:Id}{x:bY}(h:rv P κ w Y β b x)(e:dw w Y β w' Y' c)(a:c b=β b)(f:w'.heap[β b]?=w.heap[β b]?):rv P κ w' Y' c b x:=by
 refine⟨by rw[a];exact h.ow,by rw[a];exact h.nf,λd=>?_,λd=>by rw[a,f];exact h.sp d⟩
 have k:=h.cl d
 obtain⟨cur,cap,g,l,m,n,o⟩:=k.ex
 exact⟨k.pos,k.info,k.rl,k.dt,cur,cap,by rw[a,f];exact g,l,m,n,λi j y p=>by
  obtain⟨v,q,r,s⟩:=o i j y p
  exact⟨v,q,r,s.ext e⟩⟩
def rv.of{b:Id}{x:bY}(c:x.own=U->κ.base<=β b)(a:¬κ.F (β b))(k:ES P κ w Y β b x):rv P κ w Y β b x:=⟨c,a,λ_=>k,λh=>nl k.pos (by omega)⟩
def xJ(s:cv P κ w Y β)(h:Below w.heap.size w w'):dw w Y β w' Y β:=⟨h.os,h.tape,h.output,h.size,λk d _=>h.block k d,λ_ h=>h,λb x a=> .inr ⟨x,a,rfl,rfl,rfl,rfl,λcur c=>⟨cur,by rw[h.block _ (s.lt a)];exact c,rfl⟩⟩,λb x a=> .inr ⟨b,x,a,rfl⟩⟩
def Es(s:cv P κ w Y β)(h:Below w.heap.size w w'):cv P κ w' Y β:=⟨λb x a=>(s.ok b x a).ext (xJ s h) rfl (h.block _ (s.lt a)),s.inj,λk c=>C3 (s.old k c) h.size,gl s.base h.size⟩
def um{d b:Nat}{x:bY}(s:cv P κ w Y β)(h:Below w.heap.size w w')(g:d<L Y)(e:w.heap.size<=b):dw w Y β w' (put Y d x) (upd β (lA Y d) b):=by refine⟨h.os,h.tape,h.output,h.size,λk l _=>h.block k l,λc a=>Dy g a,λc y a=>?_,λc y a=>?_⟩;exact .inr ⟨y,uA g a,rfl,rfl,rfl,iG (AR a),λcur f=>⟨cur,by rw[h.block _ (s.lt a)];exact f,rfl⟩⟩;rcases pz g a with⟨rfl,rfl⟩|⟨i,j⟩;rw[gx];exact .inl e;rw[iG i];exact .inr ⟨c,y,j,rfl⟩
def Et{d f cap:Nat}{x:bY}{cur:Array Value}(s:cv P κ w Y β)(h:Below w.heap.size w w')(n:d<L Y)(a:w.heap.size<=f)
  (B:0<x.size)(q:(P.info? x.elem).map (·.size)=V x.size)(O:∀r∈x.aa,L r=x.size)(D:x.var=I->∀i j y,db x.aa i j=V y->eN y=U)
  (F:w'.heap[f]?=V (.cells cur x.elem (0,0)))(A:cur.size=cap*x.size)(t:L x.aa<=cap)(u:cap<=maxLen)
  (E:∀i j y,db x.aa i j=V y->∃v,cur[i*x.size+j]?=V v/\amk v=U/\ba κ w Y β v y):cv P κ w' (put Y d x) (upd β (lA Y d) f):=by
 have e:=um (x:=x) s h n a
 refine⟨λc y m=>?_,λc C y z m H o=>?_,λk G=>C3 (s.old k G) h.size,gl s.base h.size⟩
 ·rcases pz n m with⟨rfl,rfl⟩|⟨b,g⟩
  ·exact .of (by rw[gx];exactλ_=>(s.new a).2) (by rw[gx];exact(s.new a).1) ⟨B,q,O,D,cur,cap,by rw[gx];exact F,A,t,u,λi j y m=>by
    obtain⟨v,K,M,N⟩:=E i j y m
    exact⟨v,K,M,N.ext e⟩⟩
  ·exact(s.ok c y g).ext e (iG b) (h.block _ (s.lt g))
 ·rcases pz n m with⟨rfl,rfl⟩|⟨b,g⟩<;>rcases pz n H with⟨rfl,rfl⟩|⟨l,p⟩
  ·rfl
  ·rw[gx,iG l] at o
   have:=s.lt p
   omega
  ·rw[gx,iG b] at o
   have:=s.lt g
   omega
  ·rw[iG b,iG l] at o
   exact s.inj c C y z g p o
structure vM(w w':World)(k:Nat):Prop where
 os:w'.os=w.os
 tape:w'.tape=w.tape
 output:w'.output=w.output
 size:w'.heap.size=w.heap.size
 block:∀i,i≠k->w'.heap[i]?=w.heap[i]?
def KN{b:Id}{x x':bY}{cur f:Array Value}(s:cv P κ w Y β)(d:box Y b=V x)(h:vM w w' (β b))(q:x'.size=x.size)(n:x'.elem=x.elem)(p:L x'.aa=L x.aa)(o:w.heap[β b]?=V (.cells cur x.elem (0,0)))(l:w'.heap[β b]?=V (.cells f x.elem (0,0)))(j:f.size=cur.size):dw w Y β w' (wr Y b x') β:=by refine⟨h.os,h.tape,h.output,aSp h.size.symm,λk t r=>h.block k (λe=>r b x d e.symm),λc a=>Ll d a,λc y a=> .inr ?_,λc y a=> .inr ?_⟩;by_cases e:c=b;subst e;rw[d] at a;cases a;exact⟨x',lO d,q,n,p,rfl,λi g=>⟨f,l,by rw[o] at g;cases g;exact j⟩⟩;exact⟨y,DY d a e,rfl,rfl,rfl,rfl,λi g=>⟨i,by rw[h.block _ (λm=>e (s.inj c b y x a d m))];exact g,rfl⟩⟩;rcases sL d a with⟨rfl,rfl⟩|⟨_,a⟩;exact⟨c,x,d,rfl⟩;exact⟨c,y,a,rfl⟩
def aox{b:Id}{cap:Nat}{x x':bY}{cur a:Array Value}(s:cv P κ w Y β)(g:box Y b=V x)(h:vM w w' (β b))(l:x'.size=x.size)(u:x'.elem=x.elem)(W:x'.own=x.own)(E:L x'.aa=L x.aa)(K:∀r∈x'.aa,L r=x.size)(N:x'.var=I->∀i j y,db x'.aa i j=V y->eN y=U)
  (D:w.heap[β b]?=V (.cells cur x.elem (0,0)))(p:w'.heap[β b]?=V (.cells a x.elem (0,0)))(o:a.size=cur.size)(t:cur.size=cap*x.size)(F:L x.aa<=cap)(G:cap<=maxLen)
  (q:∀i j y,db x'.aa i j=V y->∃v,a[i*x.size+j]?=V v/\amk v=U/\ba κ w Y β v y):cv P κ w' (wr Y b x') β:=by
 have e:=KN s g h l u E D p o
 have m:∀c y,box (wr Y b x') c=V y->∃B,box Y c=V B:=λc y f=>by
  rcases sL g f with⟨rfl,rfl⟩|⟨_,q⟩
  ·exact⟨x,g⟩
  ·exact⟨y,q⟩
 refine⟨λc y f=>?_,λc d y z f M C=>?_,λk T=>by rw[h.size];exact s.old k T,by rw[h.size];exact s.base⟩
 ·rcases sL g f with⟨rfl,rfl⟩|⟨H,n⟩
  ·have A:=s.ok c x g
   have k:=A.cells D
   exact .of (by rw[W];exact A.ow) A.nf ⟨by rw[l];exact k.pos,by rw[u,l];exact k.info,by rw[l];exact K,N,a,cap,by rw[u];exact p,by rw[o,l];exact t,by rw[E];exact F,G,λi j y f=>by
    obtain⟨v,X,Z,k3⟩:=q i j y f
    exact⟨v,by rw[l];exact X,Z,k3.ext e⟩⟩
  ·exact(s.ok c y n).ext e rfl (h.block _ (λO=>H (s.inj c b y x n g O)))
 ·obtain⟨B,R⟩:=m c y f
  obtain⟨z0,S⟩:=m d z M
  exact s.inj c d B z0 R S C
def D9{b:Id}{d:Nat}{x x' y:bY}{c:Id}(f:box Y b=V x)(l:d<L Y)(k:box (put (kill Y b) d x') c=V y):(c=lA Y d/\y=x')\/(c≠lA Y d/\c≠b/\box Y c=V y):=by have h:lA (kill Y b) d=lA Y d:=(by unfold lA kill;by_cases g:d=b.1;rw[g,iD (lN f)];rw[jQ g]);rcases pz (by rw[yg];exact l) k with⟨a,e⟩|⟨a,e⟩;exact .inl ⟨a.trans h,e⟩;obtain⟨i,j⟩:=xz f e;exact .inr ⟨by rw[<-h];exact a,i,j⟩
def anF{b:Id}{d:Nat}{x:bY}(c:box Y b=V x):lA (kill Y b) d=lA Y d:=by unfold lA kill;by_cases a:d=b.1;rw[a,iD (lN c)];rw[jQ a]
def awB{b:Id}{d:Nat}{x x':bY}(a:box Y b=V x)(c:d<L Y):box (put (kill Y b) d x') (lA Y d)=V x':=by rw[<-anF a];exact iy (by rw[yg];exact c)
def al1{b:Id}{d g:Nat}{x x':bY}(s:cv P κ w Y β)(f:box Y b=V x)(n:d<L Y)(h:w.grownBy w' (V (β b)))(l:w.heap.size<=g\/g=β b):dw w Y β w' (put (kill Y b) d x') (upd β (lA Y d) g):=by have i:d<L (kill Y b):=(by rw[yg];exact n);refine⟨h.os,h.tape,h.output,h.size,λk q r=>h.block k q (λe=>r b x f (by simpa using e.symm)),λc a=>Dy i (amu f a),λc y a=>?_,λc y a=>?_⟩;by_cases e:c=b;subst e;exact .inl (Dy i (amv f));have k:=Qc f a e;refine .inr ⟨y,uA i k,rfl,rfl,rfl,iG (AR a),λcur m=>⟨cur,?_,rfl⟩⟩;rw[h.block _ (s.lt a) (λp=>e (s.inj c b y x a f (by simpa using p)))];exact m;rcases D9 f n a with⟨rfl,rfl⟩|⟨o,_,a⟩;rw[gx];rcases l with j|j;exact .inl j;exact .inr ⟨b,x,f,j.symm⟩;rw[iG o];exact .inr ⟨c,y,a,rfl⟩
def aIi{b:Id}{d a cap:Nat}{x x':bY}{cur:Array Value}(s:cv P κ w Y β)(n:box Y b=V x)(C:d<L Y)(h:w.grownBy w' (V (β b)))(o:w.heap.size<=a\/a=β b)
  (B:x'.size=x.size)(O:x'.elem=x.elem)(hw:x'.own=x.own)(W:∀r∈x'.aa,L r=x.size)(dt:x'.var=I->∀i j y,db x'.aa i j=V y->eN y=U)
  (H:0<x.size)(hh:w'.heap[a]?=V (.cells cur x.elem (0,0)))(X:cur.size=cap*x.size)(S:L x'.aa<=cap)(T:cap<=maxLen)
  (hc:∀i j y,db x'.aa i j=V y->∃v,cur[i*x.size+j]?=V v/\amk v=U/\ba κ w Y β v y):cv P κ w' (put (kill Y b) d x') (upd β (lA Y d) a):=by
 have e:=al1 (x':=x') s n C h o
 have K:=s.ok b x n
 have k:=K.cl H
 have A:(x.own=U->κ.base<=a)/\¬κ.F a:=by
  rcases o with m|m
  ·exact⟨λ_=>(s.new m).2,(s.new m).1⟩
  ·rw[m];exact⟨K.ow,K.nf⟩
 refine⟨λc y g=>?_,λc M y z g Z f=>?_,λk hk=>C3 (s.old k hk) h.size,gl s.base h.size⟩
 ·rcases D9 n C g with⟨rfl,rfl⟩|⟨p,t,g⟩
  ·exact .of (by rw[hw,gx];exact A.1) (by rw[gx];exact A.2) ⟨by rw[B];exact k.pos,by rw[O,B];exact k.info,by rw[B];exact W,dt,cur,cap,by rw[gx,O];exact hh,by rw[B];exact X,S,T,λi j y g=>by
    obtain⟨v,k1,k2,k3⟩:=hc i j y g
    exact⟨v,by rw[B];exact k1,k2,k3.ext e⟩⟩
  ·exact(s.ok c y g).ext e (iG p) (h.block _ (s.lt g) (λe3=>t (s.inj c b y x g n (by simpa using e3))))
 ·have E:∀q z,box Y q=V z->q≠b->β q≠a:=λq z l N R=>by
   rcases o with m|m
   ·have:=s.lt l;omega
   ·exact N (s.inj q b z x l n (R.trans m))
  rcases D9 n C g with⟨rfl,rfl⟩|⟨p,t,D⟩<;>rcases D9 n C Z with⟨rfl,rfl⟩|⟨u,G,l⟩
  ·rfl
  ·rw[gx,iG u] at f;exact nl f.symm (E M z l G)
  ·rw[gx,iG p] at f;exact nl f (E c y D t)
  ·rw[iG p,iG u] at f
   exact s.inj c M y z D l f
def aow{d f:Nat}{x:bY}(s:cv P κ w Y β)(h:Below w.heap.size w w')(j:d<L Y)(a:w.heap.size<=f)(u:x.size=0)(p:GW x w'.heap[f]?):cv P κ w' (put Y d x) (upd β (lA Y d) f):=by have e:=um (x:=x) s h j a;refine⟨λc y n=>?_,λc o y z n t l=>?_,λk q=>C3 (s.old k q) h.size,gl s.base h.size⟩;rcases pz j n with⟨rfl,rfl⟩|⟨b,g⟩;exact⟨by rw[gx];exactλ_=>(s.new a).2,by rw[gx];exact(s.new a).1,λr=>nl r (by omega),λ_=>by rw[gx];exact p⟩;exact(s.ok c y g).ext e (iG b) (h.block _ (s.lt g));rcases pz j n with⟨rfl,rfl⟩|⟨b,g⟩<;>rcases pz j t with⟨rfl,rfl⟩|⟨i,m⟩;rfl;rw[gx,iG i] at l;have:=s.lt m;omega;rw[gx,iG b] at l;have:=s.lt g;omega;rw[iG b,iG i] at l;exact s.inj c o y z g m l
def KO{b:Id}{x x':bY}(s:cv P κ w Y β)(d:box Y b=V x)(h:vM w w' (β b))(o:x.size=0)(m:x'.size=x.size)(j:x'.elem=x.elem)(l:L x'.aa=L x.aa):dw w Y β w' (wr Y b x') β:=by refine⟨h.os,h.tape,h.output,aSp h.size.symm,λk p n=>h.block k (λe=>n b x d e.symm),λc a=>Ll d a,λc y a=> .inr ?_,λc y a=> .inr ?_⟩;by_cases e:c=b;subst e;rw[d] at a;cases a;refine⟨x',lO d,m,j,l,rfl,λg f=>?_⟩;have:=((s.ok c x d).cells f).pos;omega;exact⟨y,DY d a e,rfl,rfl,rfl,rfl,λg f=>⟨g,by rw[h.block _ (λi=>e (s.inj c b y x a d i))];exact f,rfl⟩⟩;rcases sL d a with⟨rfl,rfl⟩|⟨_,a⟩;exact⟨c,x,d,rfl⟩;exact⟨c,y,a,rfl⟩
def aoy{b:Id}{x x':bY}(s:cv P κ w Y β)(a:box Y b=V x)(h:vM w w' (β b))(j:x.size=0)(E:x'.size=x.size)(u:x'.elem=x.elem)(B:L x'.aa=L x.aa)(D:x'.own=x.own)(v:GW x' w'.heap[β b]?):cv P κ w' (wr Y b x') β:=by have e:=KO s a h j E u B;have g:∀c y,box (wr Y b x') c=V y->∃l,box Y c=V l:=λc y f=>(by rcases sL a f with⟨rfl,rfl⟩|⟨_,t⟩;exact⟨x,a⟩;exact⟨y,t⟩);refine⟨λc y f=>?_,λc d y z f o m=>?_,λk A=>by rw[h.size];exact s.old k A,by rw[h.size];exact s.base⟩;rcases sL a f with⟨rfl,rfl⟩|⟨n,i⟩;have p:=s.ok c x a;exact⟨by rw[D];exact p.ow,p.nf,λC=>nl C (by omega),λ_=>v⟩;exact(s.ok c y i).ext e rfl (h.block _ (λq=>n (s.inj c b y x i a q)));obtain⟨l,j⟩:=g c y f;obtain⟨z0,r⟩:=g d z o;exact s.inj c d l z0 j r m
end
def fG(P:Program)(t:TypeId):Option Nat:=(P.info? t).map (·.size)
def tU(P:Program)(t:TypeId):Option Bool:=
 match P.underlying t with
 |some (.struct _)=>V U
 |some (.array _ _)=>V U
 |some _=>V I
 |none=>J
def yz(P:Program)(t:TypeId)(cs:List AV):Option AV:=
 match tU P t,fG P t with
 |some true,some n=>if n<=L cs then V (.a (cs.take n)) else J
 |some false,_=>cs[0]?
 |_,_=>J
def iE(Y:ae):AV->Option (List AV)| .p b i j=>(box Y b).bind λx=>(x.aa[i]?).map (·.drop j)| .q cs=>V cs|_=>J
section
variable{P:Program}{κ:rm}{w:World}{Y:ae}{β:Id->Nat}
def Df{k i:Nat}{cur:Array Value}{e:TypeId}{fz:Nat×Nat}(h:w.heap[k]?=V (.cells cur e fz)):w.cell? ⟨k,i,J⟩=cur[i]?:=by simp[World.cell?,h]
def arf(κ:rm)(w:World)(Y:ae)(β:Id->Nat)(v:Value)(cs:List AV):Prop:=∃(a off:Nat) (g:Nat->Value),v= .pointer (V ⟨a,off,J⟩)/\∀k y,cs[k]?=V y->w.cell? ⟨a,off+k,J⟩=V (g k)/\amk (g k)=U/\ba κ w Y β (g k) y
def anZ{v:Value}{x:AV}{cs:List AV}(s:cv P κ w Y β)(h:ba κ w Y β v x)(a:iE Y x=V cs):arf κ w Y β v cs:=by cases x with|p b i j=>simp only[iE] at a;(cases c:box Y b with|none=>rw[c] at a;cases a|some f=>rw[c] at a;simp only[qd] at a;cases e:f.aa[i]? with|none=>rw[e] at a;cases a|some r=>rw[e] at a;simp only[df,bE] at a;subst a;cases h with|p0 h _=>exact(qD h c).elim|@p1 b i j o x' h z H=>rw[c] at h;cases h;obtain⟨cur,cap,m,E,F,G,n⟩:=((s.ok b f c).cl z).ex;refine⟨β b,o,λk=>cur.getD (o+k) (.bool I),rfl,λk y d=>?_⟩;rw[mf] at d;obtain⟨v,l,A,B⟩:=n i (j+k) y (by simp[db,e,d]);rw[show i*f.size+(j+k)=o+k by omega] at l;have C:cur.getD (o+k) (.bool I)=v:=(by simp[Ry,l]);show w.cell? ⟨β b,o+k,J⟩=V (cur.getD (o+k) (.bool I))/\amk (cur.getD (o+k) (.bool I))=U/\ba κ w Y β (cur.getD (o+k) (.bool I)) y;rw[Df m,C];exact⟨l,A,B⟩)|q D=>simp only[iE,bE] at a;subst a;(cases h with|q M g c K t e u=>exact⟨_,_,g,rfl,λk y d=>⟨t k y d,u k y d,e k y d⟩⟩)|_=>simp[iE] at a
def kT(b o n:Nat):(⟨b,o,J⟩:Addr).add n=⟨b,o+n,J⟩:=by unfold Addr.add;split<;>simp_all
def aIa(b o:Nat)(g:Nat->Value):∀(n i:Nat) (a:Array Value),(∀k,i<=k->k<i+n->w.cell? ⟨b,o+k,J⟩=V (g k))->(loadCellsFrom ⟨b,o,J⟩ i n a).run P w= .ok (a++((GO i n).map g).toArray) w:=by intro n;induction n with|zero=>intro i a _;simp[loadCellsFrom]|succ n d=>intro i a h;have c:=h i (dA _) (by omega);simp only[loadCellsFrom,load,kT,Sem.run_bind,Sem.run,c,Result.andThen_ok];rw[d (i+1) _ (λk e f=>h k (by omega) (by omega))];congr 1;rw[<-qb];simp[RX]
def mN{t:TypeId}{n:Nat}(h:fG P t=V n):(sizeOf t).run P w= .ok n w:=by unfold fG at h;cases a:P.info? t with|none=>rw[a] at h;cases h|some i=>rw[a] at h;simp only[df,bE] at h;simp[sizeOf,typeInfo,a,h]
def wH{t:TypeId}{b:Bool}(h:tU P t=V b):(isAgg t).run P w= .ok b w:=by unfold tU at h;cases a:P.underlying t with|none=>rw[a] at h;cases h|some d=>rw[a] at h;simp only[isAgg,Sem.run_bind,run_underlying a,Result.andThen_ok];cases d<;>simp_all
def anh{t:TypeId}{j off:Nat}{g:Nat->Value}{cs:List AV}{o:AV}(l:∀k y,cs[k]?=V y->w.cell? ⟨j,off+k,J⟩=V (g k)/\amk (g k)=U/\ba κ w Y β (g k) y)(h:yz P t cs=V o):∃v,(loadVar t ⟨j,off,J⟩).run P w= .ok v w/\ba κ w Y β v o:=by unfold yz at h;cases f:tU P t with|none=>rw[f] at h;simp at h|some b=>cases b with|true=>(cases p:fG P t with|none=>rw[f,p] at h;simp at h|some n=>rw[f,p] at h;simp only at h;split at h;rename_i z;simp only[bE] at h;subst h;have m:∀k,k<n->∃y,cs[k]?=V y:=λk u=>⟨cs[k]'(by omega),eC (by omega)⟩;refine⟨.agg ((GO 0 n).map g).toArray,?_,?_⟩;simp only[loadVar,Sem.run_bind,wH f,Result.andThen_ok,vg,mN p,loadCells];rw[aIa j off g n 0 #[] (λk _ u=>by obtain⟨y,q⟩:=m k (by omega);exact(l k y q).1)];simp;refine .a (by simp;omega) (λv d=>?_) (λi v c d e=>?_);simp only[dN,List.mem_range'_1] at d;obtain⟨k,u,rfl⟩:=d;obtain⟨y,q⟩:=m k (by omega);exact(l k y q).2.1;rw[ve] at d;rw[ot] at e;split at e;rename_i s;rw[List.getElem?_range' s] at d;simp only[df,bE,aj,Nat.one_mul] at d;subst d;exact(l i c e).2.2;(cases e);cases h)|false=>rw[f] at h;simp only at h;obtain⟨r,_,x⟩:=l 0 o h;refine⟨g 0,?_,x⟩;simp only[loadVar,Sem.run_bind,wH f,Result.andThen_ok,load];simp only[kP] at r;simp[Sem.run,r]
end
def vP(P:Program)(ty:TypeId)(op:BinOp):Value->Value->Option Value
 | .int k a, .int c b=>
  match op with
  | .shl=>if b<0 then J else V (.int k (k.wrap (a*2^(min b.toNat k.bits))))
  | .shr=>if b<0 then J else V (.int k (a.fdiv (2^(min b.toNat k.bits))))
  | .add=>if k=c then V (.int k (k.wrap (a+b))) else J
  | .sub=>if k=c then V (.int k (k.wrap (a-b))) else J
  | .mul=>if k=c then V (.int k (k.wrap (a*b))) else J
  | .quo=>if k=c/\b≠0 then V (.int k (k.wrap (a.tdiv b))) else J
  | .rem=>if k=c/\b≠0 then V (.int k (a.tmod b)) else J
  | .and=>if k=c then V (.int k (k.wrap (BitVec.ofInt k.bits a&&&BitVec.ofInt k.bits b).toNat)) else J
  | .or=>if k=c then V (.int k (k.wrap (BitVec.ofInt k.bits a|||BitVec.ofInt k.bits b).toNat)) else J
  | .xor=>if k=c then V (.int k (k.wrap (BitVec.ofInt k.bits a^^^BitVec.ofInt k.bits b).toNat)) else J
  | .andNot=>if k=c then V (.int k (k.wrap (BitVec.ofInt k.bits a&&&~~~(BitVec.ofInt k.bits b)).toNat)) else J
  | .eql=>if k=c then V (.bool (a==b)) else J
  | .neq=>if k=c then V (.bool (a !=b)) else J
  | .lss=>if k=c then V (.bool (Q (a<b))) else J
  | .leq=>if k=c then V (.bool (Q (a<=b))) else J
  | .gtr=>if k=c then V (.bool (Q (b<a))) else J
  | .geq=>if k=c then V (.bool (Q (b<=a))) else J
 | .string a, .string b=>
  match op with
  | .eql=>V (.bool (a.toList==b.toList))
  | .neq=>V (.bool (!(a.toList==b.toList)))
  | .lss=>V (.bool (Op.bytesLess a.toList b.toList))
  | .leq=>V (.bool (Op.bytesLess a.toList b.toList||a.toList==b.toList))
  | .gtr=>V (.bool (!(Op.bytesLess a.toList b.toList||a.toList==b.toList)))
  | .geq=>V (.bool (!(Op.bytesLess a.toList b.toList)))
  | .add=>if a.size+b.size<=1099511627776 then V (.string (a++b)) else J
  |_=>J
 | .bool a, .bool b=>
  match op,P.underlying ty with
  | .eql,some .bool=>V (.bool (a==b))
  | .neq,some .bool=>V (.bool (!(a==b)))
  |_,_=>J
 |_,_=>J
section
variable{P:Program}{κ:rm}{w:World}{Y:ae}{β:Id->Nat}
def aH9{op:BinOp}{ty:TypeId}{x y:Operand}{a b:Value}(h:(match a with| .int _ _=>U| .string _=>U| .bool _=>U|_=>I)=U):(eqGuard op ty x y a b).run P w= .ok () w:=by(cases a<;>first|(simp at h;done)|skip);all_goals(cases op<;>simp[eqGuard])
def alX{ty:TypeId}{a b:Bool}(h:P.underlying ty=V .bool):(Op.equal ty (.bool a) (.bool b)).run P w= .ok (a==b) w:=run_equal_bool w ty a b h
def awu{ty:TypeId}{op:BinOp}{a b v:Value}(h:vP P ty op a b=V v):(binOp op ty a b).run P w= .ok v w/\sc v=U:=by unfold vP at h;split at h;(cases op<;>simp only at h<;>first|((split at h<;>first|(cases h;done)|skip);rename_i c;first|(obtain⟨rfl,e⟩:=c;simp only[bE] at h;subst h;constructor<;>simp[binOp,Op.intDiv,e,sc])|(subst c;simp only[bE] at h;subst h;constructor<;>simp[binOp,Op.intArith,Op.intCmp,Op.intBits,sc])|(simp only[bE] at h;subst h;constructor<;>simp[binOp,Op.shift,c,sc])));(cases op<;>simp only at h<;>first|(cases h;done)|(simp only[bE] at h;subst h;constructor<;>simp[binOp,Op.stringOp,sc])|((split at h<;>first|(cases h;done)|skip);simp only[bE] at h;subst h;refine⟨?_,rfl⟩;rename_i c;simp[binOp,Op.stringOp];omega));split at h;simp only[bE] at h;subst h;rename_i d;exact⟨by simp[binOp,alX d],rfl⟩;simp only[bE] at h;subst h;rename_i d;exact⟨by simp[binOp,alX d],rfl⟩;(cases h);cases h
end
def ui:Value->AV| .slice none 0 0=> .l [] U U|v=>if sc v then .s v else .u
def Dg:Value->AV| .agg cs=>if cs.all amk then .a (cs.toList.map ui) else .u|v=>ui v
def du(G:nn)(a:List AV):Operand->AV
 | .tmp t=>a.getD t .u
 | .const v=>Dg v
 | .global g=>match G g with|some cs=> .q cs|none=> .u
 | .func f=> .f f [] []
def vW(P:Program)(t:TypeId):Value->Value->Option Bool
 | .int k a, .int c b=>match P.underlying t with|some (.int _)=>if k=c then V (a==b) else J|_=>J
 | .bool a, .bool b=>match P.underlying t with|some .bool=>V (a==b)|_=>J
 | .string a, .string b=>match P.underlying t with|some .string=>V (a.toList==b.toList)|_=>J
 |_,_=>J
def vV(P:Program)(xs ys:List AV):List Field->Option Bool
 |[]=>V U
 |f::fs=>
  if f.name≠ "_" /\tU P f.type=V I then
   match xs[f.offset]?,ys[f.offset]? with
   |some (.s a),some (.s b)=>
    match vW P f.type a b with
    |some r=>if r then vV P xs ys fs else V I
    |none=>J
   |_,_=>J
  else J
def sR(P:Program)(t:TypeId)(xs ys:List AV):Option Bool:=
 match P.underlying t with
 |some (.struct fs)=>if P.stoodInHeld t=I/\P.eqGuardType P.depth t=I then vV P xs ys fs.toList else J
 |_=>J
def sS(k:Nat):Value->Value->Option Bool| .int c a, .int d b=>if k=0/\c=d then V (a==b) else J| .bool a, .bool b=>if k=1 then V (a==b) else J| .string a, .string b=>if k=2 then V (a.toList==b.toList) else J|_,_=>J
def nW(xs ys:List AV):List (Nat×Nat)->Option Bool
 |[]=>V U
 |f::fs=>
  match xs[f.1]?,ys[f.1]? with
  |some (.s a),some (.s b)=>
   match sS f.2 a b with
   |some r=>if r then nW xs ys fs else V I
   |none=>J
  |_,_=>J
def qL(P:Program)(t:TypeId):Nat:=
 match P.underlying t with
 |some (.int _)=>0
 |some .bool=>1
 |some .string=>2
 |_=>3
def nk(P:Program):List Field->Option (List (Nat×Nat))|[]=>V []|f::fs=>if f.name≠ "_" /\tU P f.type=V I then(nk P fs).map ((f.offset,qL P f.type)::·) else J
structure MT where
 st:Bool
 fs:List (Nat×Nat)
 zero:Value
def r9(P:Program)(t:TypeId):Option MT:=
 match P.underlying t with
 |some (.map k e)=>
  match(P.info? e).bind (·.zero),P.underlying k with
  |some z,some (.struct fs)=>if sc z=U/\P.stoodInHeld k=I/\P.eqGuardType P.depth k=I then(nk P fs.toList).bind λl=>if l.all (λf=>Q (f.2<3))=U then V ⟨U,l,z⟩ else J else J
  |some z,some .string=>if sc z=U then V ⟨I,[],z⟩ else J
  |_,_=>J
 |_=>J
def uW:List AV->Option (List Value)|[]=>V []| .s v::l=>(uW l).map (v::·)|_::_=>J
def ww(st:Bool)(x:AV):Option Value:=
 match st,x with
 |false, .s (.string s)=>V (.string s)
 |true, .a cs=>(uW cs).map λl=> .agg l.toArray
 |_,_=>J
def xF:List AV->Option (List (Value×Value))|[]=>V []| .t [.s k, .s v]::l=>(xF l).map ((k,v)::·)|_::_=>J
def pO(c:MT)(a b:Value):Option Bool:=
 match c.st,a,b with
 |true, .agg xs, .agg ys=>nW (xs.toList.map .s) (ys.toList.map .s) c.fs
 |false, .string a, .string b=>V (a==b)
 |_,_,_=>J
def lg(a:MT)(k:Value):List (Value×Value)->Nat->Option (Option (Nat×Value))
 |[],_=>V J
 |p::b,i=>
  match pO a k p.1 with
  |some true=>V (V (i,p.2))
  |some false=>lg a k b (i+1)
  |none=>J
def qR(a:MT)(k:Value):Bool:=
 match a.st,k with
 |true, .agg xs=>a.fs.all λf=>Q (f.1<xs.size)
 |false, .string _=>U
 |_,_=>I
def ul(x:bY):Option (List (Value×Value)):=
 if x.size=0/\x.var=U then match x.aa with|[cs]=>xF cs|_=>J else J
def oP(a:MT)(Y:ae)(x ix:AV)(c:Bool):Option AV:=
 match x,ww a.st ix with
 | .g 0 b _ _,some k=>
  match(box Y b).bind ul with
  |some d=>
   if qR a k=U then
    match lg a k d 0 with
    |some (some r)=>V (if c then .t [.s r.2, .s (.bool U)] else .s r.2)
    |some none=>V (if c then .t [.s a.zero, .s (.bool I)] else .s a.zero)
    |none=>J
   else J
  |none=>J
 |_,_=>J
def vX(P:Program)(Y:ae)(s:TypeId)(x:AV)(f:Nat):Option AV:=
 match P.underlying s with
 |some (.struct fs)=>
  match fs[f]? with
  |some a=>
   match fG P a.type with
   |some (_+1)=>
    match x with
    | .p b i j=>(box Y b).map λ_=> .p b i (j+a.offset)
    | .q cs=>V (.q (cs.drop a.offset))
    |_=>J
   |_=>J
  |none=>J
 |_=>J
def yx(P:Program)(t:TypeId)(cs:List AV)(off:Nat):Option AV:=
 match tU P t,fG P t with
 |some true,some n=>V (.a ((cs.drop off).take n))
 |some false,_=>cs[off]?
 |_,_=>J
def uy(P:Program)(Y:ae)(t:TypeId)(x:AV)(i:Nat):Option AV:=
 match P.underlying t with
 |some (.slice e)=>
  match x with
  | .l aa _ _=>(aa[i]?).bind λr=>if fG P e=V (L r) then V (.q r) else J
  | .m b n=>(box Y b).bind λa=>if i<n/\fG P e=V a.size then V (.p b i 0) else J
  | .g k b o n=>(box Y b).bind λa=>if k=2/\i<n/\fG P e=V a.size then V (.p b (o+i) 0) else J
  |_=>J
 |some (.array n e)=>
  match fG P e with
  |some z=>
   if i<n then
    match x with
    | .p b k j=>(box Y b).map λ_=> .p b k (j+i*z)
    | .q cs=>V (.q (cs.drop (i*z)))
    |_=>J
   else J
  |none=>J
 |_=>J
def rH(E:Operand->AV):Option Operand->Option (Option Nat)
 |none=>V J
 |some x=>match E x with| .s (.int _ n)=>if 0<=n then V (V n.toNat) else J|_=>J
def uX(P:Program)(Y:ae)(t:TypeId)(x:AV)(lo a mx:Option Nat):Option AV:=
 match P.underlying t with
 |some .string=>
  match x with
  | .s (.string s)=>if mx=J/\lo.getD 0<=a.getD s.size/\a.getD s.size<=s.size then V (.s (.string (s.extract (lo.getD 0) (a.getD s.size)))) else J
  |_=>J
 |some (.slice e)=>
  match x with
  | .l aa c own=>
   if lo.getD 0<=a.getD (L aa)/\a.getD (L aa)<=L aa/\(fG P e).isSome/\(∀r∈aa,fG P e=V (L r)) then
    if mx=J then V (.l ((aa.drop (lo.getD 0)).take (a.getD (L aa)-lo.getD 0)) (c&&a.getD (L aa)==L aa) own)
    else if a.getD (L aa)<=mx.getD 0/\mx.getD 0<=L aa/\a.isSome then V (.l ((aa.drop (lo.getD 0)).take (a.getD (L aa)-lo.getD 0)) (mx.getD 0==a.getD (L aa)) own)
    else J
   else J
  | .m b n=>(box Y b).bind λd=>if lo=J/\mx=J/\(a.getD n<=n)/\(fG P e).isSome then V (.m b (a.getD n)) else if mx=J/\lo.getD 0<=a.getD n/\a.getD n<=n/\fG P e=V d.size then V (if lo.getD 0=a.getD n then .l [] I I else .g 2 b (lo.getD 0) (a.getD n-lo.getD 0)) else J
  |_=>J
 |_=>J
def AO(b:Builtin)(x y:AV):Option AV:=
 match b,x,y with
 | .min, .s (.int k a), .s (.int c b)=>V (.s (.int k (if b<a then b else a)))
 | .max, .s (.int k a), .s (.int c b)=>V (.s (.int k (if b>a then b else a)))
 |_,_,_=>J
def yj(P:Program)(t:TypeId)(x:AV):Option AV:=
 match P.underlying t,x with
 |some .string, .s (.string s)=>V (.s (.int .i64 s.size))
 |some (.slice _), .l aa _ _=>V (.s (.int .i64 (L aa)))
 |some (.array n _),_=>V (.s (.int .i64 n))
 |_,_=>J
def aPH(P:Program)(Y:ae)(t:TypeId)(x:AV):Option AV:=
 match P.underlying t,x with
 |some (.slice _), .m b n=>(box Y b).map λ_=> .s (.int .i64 n)
 |some (.slice _), .g k b _ n=>(box Y b).bind λ_=>if k=2 then V (.s (.int .i64 n)) else J
 |_,_=>J
def nP(P:Program)(E:Operand->AV)(Y:ae)(b:Builtin)(c:Call):Option AV:=
 match b with
 | .len=>
  match c.argTypes[0]?,c.args[0]? with
  |some t,some x=>(yj P t (E x)).or (aPH P Y t (E x))
  |_,_=>J
 | .min| .max=>
  match c.args.toList with
  |[x,y]=>AO b (E x) (E y)
  |_=>J
 |_=>J
def dz(P:Program)(E:Operand->AV)(Y:ae):Op->Option AV
 | .move x=>V (E x)
 | .assign x=>V (E x)
 | .pick c a b=>match E c with| .s (.bool t)=>V (if t then E a else E b)|_=>J
 | .load t x=>(iE Y (E x)).bind (yz P t)
 | .nilCheck x=>match E x with| .p b i j=>(box Y b).map λ_=> .p b i j| .q cs=>V (.q cs)| .f fn a b=>V (.f fn a b)|_=>J
 | .binOp op ty x y _=>
  match E x,E y with
  | .s a, .s b=>(vP P ty op a b).map .s
  | .a xs, .a ys=>
   match op with
   | .eql=>(sR P ty xs ys).map λr=> .s (.bool r)
   | .neq=>(sR P ty xs ys).map λr=> .s (.bool (!r))
   |_=>J
  |_,_=>J
 | .unOp op _ x=>
  match op,E x with
  | .not, .s (.bool b)=>V (.s (.bool (!b)))
  | .neg, .s (.int k n)=>V (.s (.int k (k.wrap (0-n))))
  |_,_=>J
 | .convert o d x=>
  match P.underlying o,P.underlying d,E x with
  |some _,some (.int k), .s (.int _ n)=>V (.s (.int k (k.wrap n)))
  |some .string,some .string, .s (.string s)=>V (.s (.string s))
  |_,_,_=>J
 | .fieldAddr s x f=>vX P Y s (E x) f
 | .field t x f=>
  match P.underlying t,E x with
  |some (.struct fs), .a cs=>(fs[f]?).bind λg=>yx P g.type cs g.offset
  |_,_=>J
 | .indexAddr t x ix=>match E ix with| .s (.int _ i)=>if 0<=i then uy P Y t (E x) i.toNat else J|_=>J
 | .index t x ix=>
  match E ix,P.underlying t,E x with
  | .s (.int _ i),some .string, .s (.string s)=>if 0<=i then(s[i.toNat]?).map λb=> .s (.int .u8 b.toNat) else J
  | .s (.int _ i),some (.array n e), .a cs=>if 0<=i/\i<n then(fG P e).bind λz=>yx P e cs (i.toNat*z) else J
  |_,_,_=>J
 | .extract x i=>match E x with| .t vs=>vs[i]?|_=>J
 | .lookup t x ix A=>match r9 P t with|some v=>oP v Y (E x) (E ix) A|none=>J
 | .slice t x lo u mx=>
  match rH E lo,rH E u,rH E mx with
  |some l,some h,some m=>uX P Y t (E x) l h m
  |_,_,_=>J
 | .makeFunc (.func fn) first cap=>V (.f fn (first.toList.map E) (cap.toList.map E))
 | .call c=>match c.callee with| .builtin b=>nP P E Y b c|_=>J
 |_=>J
section
variable{P:Program}{κ:rm}{w:World}{Y:ae}{β:Id->Nat}
def ba.s_inv{v a:Value}(h:ba κ w Y β v (.s a)):v=a/\sc a=U:=by cases h;exact⟨rfl,‹_›⟩
def KC(v:Value):ba κ w Y β v (ui v):=by unfold ui;split;exact .l0 (λ_=>rfl);split;exact .s ‹_›;exact .u
def axB(v:Value):ba κ w Y β v (Dg v):=by unfold Dg;split;rename_i cs;split;rename_i h;obtain⟨l⟩:=cs;refine .a (by simp) (λv b=>?_) (λi v c b d=>?_);simp only[List.all_toArray] at h;exact dV.1 h v b;simp only[ve,b,df,bE] at d;subst d;exact KC v;exact .u;exact KC _
def axN{d:Nat}{t:TypeId}{a b:Value}{r:Bool}(h:vW P t a b=V r):(Op.equalIn (d+1) t a b).run P w= .ok r w:=by unfold vW at h;split at h;split at h;split at h;rename_i c e;subst e;(cases h);exact run_equalIn_int w d t _ _ _ _ c;(cases h);(cases h);split at h;(cases h;exact run_equalIn_bool w d t _ _ ‹_›);(cases h);split at h;(cases h);rename_i c;simp[Op.equalIn,run_underlying c,beq_toListBytes];(cases h);cases h
def axM{d:Nat}{xs ys:List AV}{vs g:List Value}(s:∀(i:Nat) v c,vs[i]?=V v->xs[i]?=V c->ba κ w Y β v c)(q:∀(i:Nat) v c,g[i]?=V v->ys[i]?=V c->ba κ w Y β v c)(x:L vs=L xs)(u:L g=L ys):∀(fs:List Field) {r:Bool},vV P xs ys fs=V r->(Op.eqFields (d+1) vs.toArray g.toArray fs).run P w= .ok r w:=by intro fs;induction fs with|nil=>intro r h;simp only[vV,bE] at h;subst h;simp[Op.eqFields]|cons f fs t=>intro r h;simp only[vV] at h;split at h;rename_i j;split at h;rename_i a b l m;have n:vs[f.offset]?=V a:=(by have e:f.offset<L vs:=(by rw[x];exact(mg.1 l).1);have k:=s f.offset _ _ (eC e) l;rw[eC e,k.s_inv.1]);have o:g[f.offset]?=V b:=(by have e:f.offset<L g:=(by rw[u];exact(mg.1 m).1);have k:=q f.offset _ _ (eC e) m;rw[eC e,k.s_inv.1]);have y:(part f.type vs.toArray f.offset).run P w= .ok a w:=(by simp[part,wH j.2,n]);have z:(part f.type g.toArray f.offset).run P w= .ok b w:=(by simp[part,wH j.2,o]);split at h;rename_i A p;simp only[Op.eqFields,bX j.1,Sem.run_bind,y,z,Result.andThen_ok,axN p];(cases A with|true=>simp only[vg] at h;simp[t h]|false=>simp only[eE,aB9,bE] at h;subst h;simp);(cases h);(cases h);cases h
def KL{t:TypeId}{xs ys:List AV}{v u:Value}{r:Bool}(e:ba κ w Y β v (.a xs))(c:ba κ w Y β u (.a ys))(h:sR P t xs ys=V r)(op:BinOp)(x y:Operand):(eqGuard op t x y v u).run P w= .ok () w/\(Op.equal t v u).run P w= .ok r w:=by unfold sR at h;split at h;rename_i fs b;split at h;rename_i f;(cases e with|@a vs _ l n e=>cases c with|@a i _ g m c=>constructor;(cases op<;>simp[eqGuard,f.2]);have j:P.underlying t=V (.struct (P.fieldsOf t)):=(by simp[Program.fieldsOf,b]);have k:P.fieldsOf t=fs:=(by simp[Program.fieldsOf,b]);rw[show Op.equal t (.agg vs.toArray) (.agg i.toArray)=Op.equalIn (9999+1) t (.agg vs.toArray) (.agg i.toArray) from rfl,run_equalIn_struct w 9999 t _ _ j f.1,k];exact axM (d:=9998) e c l g fs.toList h);(cases h);cases h
def axO{t:TypeId}{a b:Value}{r:Bool}(h:sS (qL P t) a b=V r):vW P t a b=V r:=by have d:qL P t=0->∃k,P.underlying t=V (.int k):=(by unfold qL;split<;>intro h<;>first|(simp at h;done)|exact⟨_,by assumption⟩);have e:qL P t=1->P.underlying t=V .bool:=(by unfold qL;split<;>intro h<;>first|(simp at h;done)|assumption);have f:qL P t=2->P.underlying t=V .string:=(by unfold qL;split<;>intro h<;>first|(simp at h;done)|assumption);generalize qL P t=k at*;unfold sS at h;split at h;split at h;rename_i c;obtain⟨k,g⟩:=d c.1;simp only[vW,g,bX c.2];exact h;(cases h);split at h;rename_i c;simp only[vW,e c];exact h;(cases h);split at h;rename_i c;simp only[vW,f c];exact h;(cases h);cases h
def alU{xs ys:List AV}:∀(fs:List Field) (l:List (Nat×Nat)) {r:Bool},nk P fs=V l->nW xs ys l=V r->vV P xs ys fs=V r:=by intro fs;induction fs with|nil=>intro l r h c;simp only[nk,bE] at h;subst h;exact c|cons f fs k=>intro l r h c;simp only[nk] at h;split at h;rename_i j;(cases d:nk P fs with|none=>rw[d] at h;cases h|some l'=>rw[d] at h;simp only[df,bE] at h;subst h;simp only[nW] at c;simp only[vV];rw[bX j];split at c;rename_i a b g i;(try rw[g,i]);(try simp only);(cases e:sS (qL P f.type) a b with|none=>rw[e] at c;cases c|some q=>rw[e] at c;rw[axO e];cases q with|true=>exact k l' d c|false=>exact c);cases c);cases h
end
section
variable{P:Program}{κ:rm}{w:World}{Y:ae}{β:Id->Nat}
def Eh{v:Value}{b:Id}{i j:Nat}{x:bY}(h:ba κ w Y β v (.p b i j))(a:box Y b=V x):v= .pointer (V ⟨β b,i*x.size+j,J⟩):=by cases h with|p0 h _=>exact(qD h a).elim|p1 h d c=>rw[a] at h;cases h;rw[c]
def Ei{v:Value}{b:Id}{i j:Nat}{x:bY}(h:ba κ w Y β v (.p b i j))(a:box Y b=V x):0<x.size:=by cases h with|p0 h _=>exact(qD h a).elim|p1 h c d=>rw[a] at h;cases h;exact c
def oR{v:Value}{b:Id}{n:Nat}{x:bY}(h:ba κ w Y β v (.m b n))(c:box Y b=V x):∃cap cur,v= .slice (V ⟨β b,0,J⟩) n cap/\n<=L x.aa/\w.heap[β b]?=V (.cells cur x.elem (0,0))/\cur.size=cap*x.size:=by cases h with|m0 h _=>exact(qD h c).elim|m1 h e d a f=>rw[c] at h;cases h;exact⟨_,_,rfl,e,d,a⟩
def nZ{v:Value}{b:Id}{n:Nat}{x:bY}(h:ba κ w Y β v (.m b n))(a:box Y b=V x):0<x.size:=by cases h with|m0 h _=>exact(qD h a).elim|m1 h f e c d=>rw[a] at h;cases h;exact d
def Lh{v:Value}{b:Id}{k o n:Nat}{x:bY}(h:ba κ w Y β v (.g k b o n))(a:box Y b=V x):XV k x.size (L x.aa) (β b) o n v:=by cases h with|g0 h _=>exact(qD h a).elim|g1 h c=>rw[a] at h;cases h;exact c
def Lf{v:Value}{b:Id}{o n:Nat}{x:bY}(h:ba κ w Y β v (.g 2 b o n))(e:box Y b=V x):∃cap,v= .slice (V ⟨β b,o*x.size,J⟩) n cap/\0<x.size/\o+n<=L x.aa:=by rcases Lh h e with⟨a,_⟩|⟨a,_⟩|⟨_,a,c,cap,d⟩;(cases a);(cases a);exact⟨cap,d,a,c⟩
def amp{v:Value}{b:Id}{o n:Nat}{x:bY}(h:ba κ w Y β v (.g 0 b o n))(e:box Y b=V x):v= .map (V (β b))/\x.size=0:=by rcases Lh h e with⟨_,c,d⟩|⟨a,_⟩|⟨a,_⟩;exact⟨d,c⟩;(cases a);cases a
def aBu{v:Value}{b:Id}{o n:Nat}{x:bY}(h:ba κ w Y β v (.g 1 b o n))(e:box Y b=V x):v= .pointer (V ⟨β b,0,J⟩)/\x.size=0:=by rcases Lh h e with⟨a,_⟩|⟨_,c,d⟩|⟨a,_⟩;(cases a);exact⟨d,c⟩;cases a
def QM{v:Value}{cs:List AV}(h:ba κ w Y β v (.q cs))(n:Nat):∃b off,v= .pointer (V ⟨b,off,J⟩)/\ba κ w Y β (.pointer (V ⟨b,off+n,J⟩)) (.q (cs.drop n)):=by cases h with|@q b off _ k g c i d f e=>refine⟨b,off,rfl, .q k (λj=>g (n+j)) c i (λj x a=>?_) (λj x a=>?_) (λj x a=>?_)⟩;rw[mf] at a;rw[aYz];exact d _ x a;rw[mf] at a;exact f _ x a;rw[mf] at a;exact e _ x a
def azS{t:TypeId}{v:Value}{x d:AV}{f:Nat}(c:ba κ w Y β v x)(h:vX P Y t x f=V d):∃u,(Instr.fieldAt t v f).run P w= .ok u w/\ba κ w Y β u d:=by unfold vX at h;split at h;rename_i fs k;split at h;rename_i e g;split at h;rename_i z l;have p:¬(z+1=0):=(by omega);split at h;rename_i b i j;(cases a:box Y b with|none=>rw[a] at h;cases h|some m=>rw[a] at h;simp only[df,bE] at h;subst h;rw[Eh c a];refine⟨.pointer (V ⟨β b,i*m.size+(j+e.offset),J⟩),?_, .p1 a (Ei c a) rfl⟩;simp[Instr.fieldAt,run_underlying k,g,Instr.sureAddr,fieldPlace,mN l,kT,aYz]);simp only[bE] at h;subst h;obtain⟨o,off,rfl,n⟩:=QM c e.offset;refine⟨_,?_,n⟩;simp[Instr.fieldAt,run_underlying k,g,Instr.sureAddr,fieldPlace,mN l,kT];(cases h);(cases h);(cases h);cases h
def anP{t:TypeId}{vs:List Value}{cs:List AV}{off:Nat}{g:AV}(j:L vs=L cs)(l:∀v∈vs,amk v=U)(k:∀(i:Nat) v c,vs[i]?=V v->cs[i]?=V c->ba κ w Y β v c)(h:yx P t cs off=V g):∃u,(part t vs.toArray off).run P w= .ok u w/\ba κ w Y β u g:=by unfold yx at h;split at h;rename_i n f o;simp only[bE] at h;subst h;refine⟨.agg ((vs.drop off).take n).toArray,?_, .a (by simp[j]) (λv b=>l v (CB (sA b))) (λi v c b d=>?_)⟩;simp[part,wH f,mN o];rw[ot] at b d;split at b;rename_i m;rw[bX m] at d;rw[mf] at b d;exact k _ v c b d;(cases b);rename_i f;have e:off<L vs:=(by rw[j];exact(mg.1 h).1);refine⟨vs[off],?_,k off _ _ (eC e) h⟩;simp[part,wH f,e];cases h
def aB4{t:TypeId}{v iv:Value}{x C:AV}{k:IntKind}{i:Int}(d:ba κ w Y β v x)(m:0<=i)(h:uy P Y t x i.toNat=V C):∃u,(Instr.indexAt t v (.int k i)).run P w= .ok u w/\ba κ w Y β u C:=by unfold uy at h;split at h;rename_i e s;split at h;rename_i aa K own;(cases p:aa[i.toNat]? with|none=>rw[p] at h;cases h|some r=>rw[p] at h;simp only[qd] at h;split at h;rename_i f;simp only[bE] at h;subst h;have D:i.toNat<L aa:=(mg.1 p).1;have B:r∈aa:=(by obtain⟨h1,M⟩:=mg.1 p;rw[<-M];exact qj _);(cases d with|l0=>simp at D|@l1 A off n c size _ _ _ ho Z hd g hn ad R ht a X W N E O=>have F:=W r B;have l:i<(n:Int):=(by omega);refine⟨.pointer (V ⟨A,off+i.toNat*size,J⟩),?_, .q Z (g i.toNat) a X (λj x d=>?_) (λj x d=>?_) (λj x d=>?_)⟩;rw[F] at f;simp[Instr.indexAt,asIntOf,run_underlying s,m,l,mN f,kT];exact N i.toNat j x (by simp[db,p,d]);exact E i.toNat j x (by simp[db,p,d]);exact O i.toNat j x (by simp[db,p,d]));cases h);rename_i b n;(cases a:box Y b with|none=>rw[a] at h;cases h|some y=>rw[a] at h;simp only[qd] at h;split at h;rename_i f;simp only[bE] at h;subst h;obtain⟨cap,cur,rfl,_⟩:=oR d a;have l:i<(n:Int):=(by omega);refine⟨.pointer (V ⟨β b,i.toNat*y.size+0,J⟩),?_, .p1 a (nZ d a) rfl⟩;simp[Instr.indexAt,asIntOf,run_underlying s,m,l,mN f.2,kT];cases h);rename_i H b o n;(cases a:box Y b with|none=>rw[a] at h;cases h|some y=>rw[a] at h;simp only[qd] at h;split at h;rename_i f;obtain⟨rfl,ae,G⟩:=f;simp only[bE] at h;subst h;obtain⟨cap,rfl,S,ac⟩:=Lf d a;have l:i<(n:Int):=(by omega);refine⟨.pointer (V ⟨β b,(o+i.toNat)*y.size+0,J⟩),?_, .p1 a S rfl⟩;simp[Instr.indexAt,asIntOf,run_underlying s,m,l,mN G,kT,aYA];cases h);(cases h);rename_i n e s;split at h;rename_i z f;split at h;rename_i ab;have l:i<(n:Int):=(by omega);split at h;rename_i b H j;(cases a:box Y b with|none=>rw[a] at h;cases h|some y=>rw[a] at h;simp only[df,bE] at h;subst h;rw[Eh d a];refine⟨.pointer (V ⟨β b,H*y.size+(j+i.toNat*z),J⟩),?_, .p1 a (Ei d a) rfl⟩;simp[Instr.indexAt,asIntOf,run_underlying s,m,l,mN f,kT,Instr.sureAddr,aYz]);simp only[bE] at h;subst h;obtain⟨A,off,rfl,T⟩:=QM d (i.toNat*z);refine⟨_,?_,T⟩;simp[Instr.indexAt,asIntOf,run_underlying s,m,l,mN f,kT,Instr.sureAddr];(cases h);(cases h);(cases h);cases h
end
section
variable{P:Program}{κ:rm}{w:World}{Y:ae}{β:Id->Nat}
def Bd(x:Option Value)(r:Option Nat):Prop:=(r=J/\x=J)\/∃(n:Nat) (k:IntKind),r=V n/\x=V (.int k n)
def Ko{a:Operand->Value}{E:Operand->AV}(b:∀x,ba κ w Y β (a x) (E x)){x:Option Operand}{r:Option Nat}(h:rH E x=V r):Bd (x.map a) r:=by cases x with|none=>simp only[rH,bE] at h;exact .inl ⟨h.symm,rfl⟩|some x=>simp only[rH] at h;split at h;rename_i k n c;split at h;simp only[bE] at h;have:=(b x);rw[c] at this;refine .inr ⟨n.toNat,k,h.symm,?_⟩;rw[df,this.s_inv.1];congr 2;omega;(cases h);cases h
def Q1{k:IntKind}{n y:Nat}{a:BoundsCode}(h:n<=y):(Instr.sliceBound (.int k n) y a).run P w= .ok n w:=by have:(n:Int)<=(y:Int):=(by omega);simp[Instr.sliceBound,asIntOf,this]
def Bm{gY:Bool}{len cap:Nat}{lo a mx:Option Value}{l h m:Option Nat}(g:Bd lo l)(f:Bd a h)(i:Bd mx m)(b:l.getD 0<=h.getD len)(c:h.getD len<=m.getD cap)(d:m.getD cap<=cap)(e:m.isSome=U->h.isSome=U):(Instr.sliceBounds gY len cap lo a mx).run P w= .ok (l.getD 0,h.getD len,m.getD cap) w:=by rcases g with⟨rfl,rfl⟩|⟨o,j,rfl,rfl⟩<;>rcases f with⟨rfl,rfl⟩|⟨p,k,rfl,rfl⟩<;>rcases i with⟨rfl,rfl⟩|⟨q,n,rfl,rfl⟩<;>simp only[sD,mi,Option.isSome_none,Option.isSome_some] at*;all_goals first|(simp at e;done)|simp[Instr.sliceBounds,Q1 b,Q1 c,Q1 d]
def Du{aa:List (List AV)}{l n:Nat}:∀i j,db ((aa.drop l).take n) i j=if i<n then db aa (l+i) j else J:=by intro i j;unfold db;rw[ot];split;rw[mf];rfl
def zT{b:Id}{x:bY}{cur:Array Value}{cap:Nat}(s:cv P κ w Y β)(h:box Y b=V x)(e:w.heap[β b]?=V (.cells cur x.elem (0,0)))(c:cur.size=cap*x.size):L x.aa<=cap:=by have k:=(s.ok b x h).cells e;obtain⟨g,f,a,d,i,_⟩:=k.ex;rw[e] at a;simp only[bE,Obj.cells.injEq,vm] at a;subst a;rw[c] at d;have:=aq6 k.pos d;omega
def aoE{A:Option Addr}{aa:List (List AV)}{f t own:Bool}{c d b H z:Nat}(k:ba κ w Y β (.slice A (L aa) c) (.l aa f own))(S:L aa<=c)(N:d<=c)(T:b<=H)(W:H<=L aa)(M:H<=d)
  (h:t=U->d=H)(E:∀r∈aa,L r=z):
  ba κ w Y β (.slice (if d=b then A else A.map (·.add (b*z))) (H-b) (d-b)) (.l ((aa.drop b).take (H-b)) t own):=by
 by_cases u:H-b=0
 ·rw[u,CE]
  exact .l0 (λe=>by have:=h e;omega)
 ·generalize o:L aa=n at*
  cases k with
  |l0=>simp at o;omega
  |@l1 K off n _ size _ _ _ D G y g O R C e v F q m p B=>
   have s:size=z:=by
    cases aa with
    |nil=>simp at o;omega
    |cons r X=>rw[<-q r (by simp),E r (by simp)]
   subst s
   rw[cj (by omega)]
   simp only[df,kT]
   refine .l1 D G (λi j x a=>by
    rw[Du] at a
    split at a
    ·exact y _ j x a
    ·cases a) (λi j=>g (b+i) j) (by simp;omega) (by omega) (by omega) (λe=>by have:=h e;omega) v F (λr k=>q r (CB (sA k))) (λi j x a=>?_) (λi j x a=>?_) (λi j x a=>?_)
   ·rw[Du] at a
    split at a
    ·rw[show off+b*size+i*size+j=off+(b+i)*size+j by rw[aYA];omega];exact m _ j x a
    ·cases a
   ·rw[Du] at a
    split at a
    ·exact p _ j x a
    ·cases a
   ·rw[Du] at a
    split at a
    ·exact B _ j x a
    ·cases a
def AJ{v:Value}{aa:List (List AV)}{a own:Bool}(f:ba κ w Y β v (.l aa a own)):∃A c,v= .slice A (L aa) c/\L aa<=c/\(a=U->c=L aa):=by cases f with|l0 d=>exact⟨_,_,rfl,by simp,by simpa using d⟩|l1 j k i g e h b d=>subst e;exact⟨_,_,rfl,b,d⟩
def aIo{t:TypeId}{v:Value}{x N:AV}{lo T mx:Option Value}{l h m:Option Nat}(s:cv P κ w Y β)(i:ba κ w Y β v x)(B:Bd lo l)(y:Bd T h)(C:Bd mx m)(a:uX P Y t x l h m=V N):∃u,(Instr.sliceAt t v lo T mx).run P w= .ok u w/\ba κ w Y β u N:=by unfold uX at a;split at a;rename_i k;split at a;rename_i s;split at a;rename_i j;obtain⟨rfl,g,p⟩:=j;(cases a);(cases i with|s=>rcases C with⟨_,rfl⟩|⟨_,_,h,_⟩;refine⟨_,?_, .s rfl⟩;have:=Bm (P:=P) (w:=w) (gY:=I) (len:=s.size) (cap:=s.size) (mx:=J) (m:=J) B y (.inl ⟨rfl,rfl⟩) g p (dA _) (by simp);simp[Instr.sliceAt,run_underlying k,Instr.slice,this];cases h);(cases a);(cases a);rename_i e k;split at a;rename_i aa X own;split at a;rename_i j;obtain⟨g,p,R,q⟩:=j;obtain⟨z,G⟩:=zz.1 R;have H:∀r∈aa,L r=z:=λr hr=>(by have:=q r hr;rw[G] at this;simpa using this.symm);obtain⟨A,c,rfl,K,S⟩:=AJ i;split at a;rename_i E;subst E;simp only[bE] at a;subst a;rcases C with⟨_,rfl⟩|⟨_,_,h,_⟩;refine⟨_,?_,aoE i K (dA c) g p (by omega) (λF=>by simp at F;rw[S F.1];exact F.2.symm) H⟩;have:=Bm (P:=P) (w:=w) (gY:=U) (len:=L aa) (cap:=c) (mx:=J) (m:=J) B y (.inl ⟨rfl,rfl⟩) g (by simp;omega) (dA _) (by simp);simp only[sD] at this;simp[Instr.sliceAt,run_underlying k,Instr.slice,this,mN G];(cases h);rename_i E;split at a;rename_i D;simp only[bE] at a;subst a;obtain⟨m',rfl⟩:∃m',m=V m':=(by cases m with|none=>exact nl rfl E|some m'=>exact⟨m',rfl⟩);simp only[mi] at D⊢;refine⟨_,?_,aoE i K (show m'<=c by omega) g p D.1 (λF=>by simpa using F) H⟩;have:=Bm (P:=P) (w:=w) (gY:=U) (len:=L aa) (cap:=c) (m:=V m') B y C g (by simp;omega) (by simp;omega) (λ_=>D.2.2);simp only[mi] at this;simp[Instr.sliceAt,run_underlying k,Instr.slice,this,mN G];(cases a);(cases a);rename_i b n;(cases d:box Y b with|none=>rw[d] at a;cases a|some O=>rw[d] at a;simp only[qd] at a;split at a;rename_i j;obtain⟨rfl,rfl,p,q⟩:=j;simp only[bE] at a;subst a;obtain⟨cap,cur,rfl,Z,o,f⟩:=oR i d;obtain⟨z,G⟩:=zz.1 q;have W:=zT s d o f;refine⟨.slice (V ⟨β b,0,J⟩) (h.getD n) cap,?_, .m1 d (by omega) o f (nZ i d)⟩;have:=Bm (P:=P) (w:=w) (gY:=U) (len:=n) (cap:=cap) B y C (by simp) (by simp;omega) (dA _) (by simp);simp only[sD] at this;simp only[Instr.sliceAt,Sem.run_bind,run_underlying k,Instr.slice,this,mN G,Result.andThen_ok,Sem.run_pure,ara,Nat.zero_mul,df,kT,kP,ite_self];split at a;rename_i j;obtain⟨rfl,g,p,q⟩:=j;simp only[bE] at a;obtain⟨cap,cur,rfl,Z,o,f⟩:=oR i d;have W:=zT s d o f;have:=Bm (P:=P) (w:=w) (gY:=U) (len:=n) (cap:=cap) B y C (by simpa using g) (by simp;omega) (dA _) (by simp);simp only[sD] at this;by_cases M:l.getD 0=h.getD n;rw[bX M] at a;subst a;refine⟨.slice (if cap=l.getD 0 then V ⟨β b,0,J⟩ else V ⟨β b,l.getD 0*O.size,J⟩) 0 (cap-l.getD 0),?_, .l0 (λh=>by cases h)⟩;simp only[Instr.sliceAt,Sem.run_bind,run_underlying k,Instr.slice,this,mN q,Result.andThen_ok,Sem.run_pure,df,kT,aj,M,Nat.sub_self];rw[cj M] at a;subst a;refine⟨.slice (V ⟨β b,l.getD 0*O.size,J⟩) (h.getD n-l.getD 0) (cap-l.getD 0),?_, .g1 d (.inr (.inr ⟨rfl,nZ i d,by omega,_,rfl⟩))⟩;simp only[Instr.sliceAt,Sem.run_bind,run_underlying k,Instr.slice,this,mN q,Result.andThen_ok,Sem.run_pure,df,kT,aj,cj (show¬cap=l.getD 0 by omega)];cases a);(cases a);cases a
end
section
variable{P:Program}{κ:rm}{w:World}{Y:ae}{β:Id->Nat}
def KG:∀a:List (Value×Value),xF (a.map ent)=V a:=by intro a;induction a with|nil=>rfl|cons p a b=>simp only[ji,ent,xF] at*;rw[b];rfl
def aIf:∀{cs:List AV} {l:List Value},uW cs=V l->cs=l.map .s:=by intro cs;induction cs with|nil=>intro l h;simp only[uW,bE] at h;subst h;rfl|cons c cs b=>intro l h;cases c with|s v=>simp only[uW] at h;(cases a:uW cs with|none=>rw[a] at h;cases h|some l'=>rw[a] at h;simp only[df,bE] at h;subst h;rw[b a];rfl)|_=>simp[uW] at h
def aFd{v:Value}{l:List Value}(h:ba κ w Y β v (.a (l.map .s))):v= .agg l.toArray/\l.all sc=U:=by
 cases h with
 |@a vs cs f m h=>
  have d:∀i (b:i<L vs),∃c:i<L l,vs[i]=l[i]/\sc l[i]=U:=λi b=>by
   have c:i<L l:=by simpa[f] using b
   have:=h i vs[i] (.s l[i]) (eC b) (by simp[c])
   exact⟨c,this.s_inv⟩
  have e:vs=l:=zp (by simpa using f) (λi g k=>(d i g).2.1)
  subst e
  exact⟨rfl,dV.2 λx j=>by
   obtain⟨i,b,rfl⟩:=List.getElem_of_mem j
   exact(d i b).2.2⟩
def aof{l:List Value}(d:l.all sc=U):∀(i:Nat) v c,l[i]?=V v->(l.map AV.s)[i]?=V c->ba κ w Y β v c:=by intro i v c b a;rw[ve,b] at a;simp only[df,bE] at a;subst a;exact .s (dV.1 d v (fC b))
def am5{st:Bool}{v k:Value}{x:AV}(h:ba κ w Y β v x)(a:ww st x=V k):v=k/\DW k=U:=by unfold ww at a;split at a;(cases a;exact⟨h.s_inv.1,rfl⟩);rename_i cs;(cases b:uW cs with|none=>rw[b] at a;cases a|some l=>rw[b] at a;simp only[df,bE] at a;subst a;rw[aIf b] at h;obtain⟨c,d⟩:=aFd h;exact⟨c,d⟩);cases a
def ano{t:TypeId}{a:MT}(h:r9 P t=V a):∃k e i,P.underlying t=V (.map k e)/\P.info? e=V i/\i.zero=V a.zero/\sc a.zero=U/\((a.st=I/\P.underlying k=V .string)\/∃fs,a.st=U/\P.underlying k=V (.struct fs)/\P.stoodInHeld k=I/\P.eqGuardType P.depth k=I/\nk P fs.toList=V a.fs/\a.fs.all (λf=>Q (f.2<3))=U):=by unfold r9 at h;split at h;rename_i k e m;(cases c:P.info? e with|none=>rw[c] at h;cases h|some i=>rw[c] at h;simp only[qd] at h;split at h;rename_i z fs j g;split at h;rename_i b;(cases d:nk P fs.toList with|none=>rw[d] at h;cases h|some l=>rw[d] at h;simp only[qd] at h;split at h;rename_i n;(cases h);exact⟨k,e,i,m,c,j,b.1, .inr ⟨fs,rfl,g,b.2.1,b.2.2,d,n⟩⟩;cases h);(cases h);rename_i z j g;split at h;rename_i b;(cases h);exact⟨k,e,i,m,c,j,b, .inl ⟨rfl,g⟩⟩;(cases h);cases h);cases h
def axc{g:Bool}{n:Nat}{xs:Array Value}:∀(fs:List Field) (l:List (Nat×Nat)),nk P fs=V l->l.all (λf=>Q (f.2<3))=U->l.all (λf=>Q (f.1<xs.size))=U->
  (forIn (m:=Sem) fs PUnit.unit λf r=>do
   if f.name≠ "_" then(do
    let a<-part f.type xs f.offset
    Instr.checkKey g (n+1) f.type a
    pure (ForInStep.yield PUnit.unit)) else pure (ForInStep.yield PUnit.unit)).run P w= .ok PUnit.unit w:=by
 intro fs
 induction fs with
 |nil=>intro l _ _ _;simp
 |cons f fs p=>
  intro l h c d
  simp only[nk] at h
  split at h
  ·rename_i j
   cases e:nk P fs with
   |none=>rw[e] at h;cases h
   |some l'=>
    rw[e] at h
    simp only[df,bE] at h
    subst h
    simp only[Cs,bN,lS] at c d
    have o:(part f.type xs f.offset).run P w= .ok xs[f.offset] w:=by simp[part,wH j.2,d.1]
    have k:(Instr.checkKey g (n+1) f.type xs[f.offset]).run P w= .ok () w:=by
     have i:=c.1
     unfold qL at i
     split at i
     ·rename_i b;simp[Instr.checkKey,run_underlying b]
     ·rename_i b;simp[Instr.checkKey,run_underlying b]
     ·rename_i b;simp[Instr.checkKey,run_underlying b]
     ·omega
    have:=p l' e c.2 d.2
    simp only[List.forIn_cons,Sem.run_bind,bX j.1,o,k,Result.andThen_ok,Sem.run_pure]
    exact this
  ·cases h
def alL{t k e:TypeId}{a:MT}{h:Bool}{v:Value}(l:(a.st=I/\P.underlying k=V .string)\/∃fs,a.st=U/\P.underlying k=V (.struct fs)/\P.stoodInHeld k=I/\P.eqGuardType P.depth k=I/\nk P fs.toList=V a.fs/\a.fs.all (λf=>Q (f.2<3))=U)(d:qR a v=U):(Instr.checkKey h 10000 k v).run P w= .ok () w:=by rcases l with⟨b,c⟩|⟨fs,b,c,_,_,i,j⟩;rw[show(10000:Nat)=9999+1 from rfl,Instr.checkKey];simp only[Sem.run_bind,run_underlying c,Result.andThen_ok,Sem.run_pure];cases v with|agg xs=>have g:a.fs.all (λf=>Q (f.1<xs.size))=U:=(by simpa only[qR,b] using d);rw[show(10000:Nat)=9998+1+1 from rfl,Instr.checkKey];simp only[Sem.run_bind,run_underlying c,Result.andThen_ok];rw[<-Array.forIn_toList];rw[axc (n:=9998) fs.toList a.fs i j g];simp|_=>simp[qR,b] at d
def azX{k:Value}{c:MT}(d:c.st=I):∀(b:List (Value×Value)) (i j:Nat) {r:Option (Nat×Value)},qR c k=U->lg c k b i=V r->Instr.findNow .string k (oQ j b) i=V r:=by intro b;induction b with|nil=>intro i j r _ h;exact h|cons p b f=>intro i j r e h;simp only[lg] at h;simp only[oQ,Instr.findNow];cases a:pO c k p.1 with|none=>rw[a] at h;cases h|some q=>rw[a] at h;have:Instr.sameNow .string k p.1=V q:=(by generalize g:p.1=y at a;(cases k<;>(try(simp[pO,d] at a;done)));(cases y<;>(try(simp[pO,d] at a;done)));simp only[pO,d] at a;exact a);rw[this];cases q with|true=>exact h|false=>exact f (i+1) (j+1) e h
def azV{e:TypeId}{fs:Array Field}{k:Value}{f:MT}(l:f.st=U)(x:P.underlying e=V (.struct fs))(o:P.stoodInHeld e=I)(t:P.eqGuardType P.depth e=I)(u:nk P fs.toList=V f.fs)(n:DW k=U):∀(d:List (Value×Value)) (i j:Nat) {r:Option (Nat×Value)},d.all uK=U->lg f k d i=V r->(Instr.findAsking e k (oQ j d) i).run P w= .ok r w:=by intro d;induction d with|nil=>intro i j r _ h;simp only[lg,bE] at h;subst h;simp[oQ,Instr.findAsking]|cons p d z=>intro i j r g h;simp only[Cs,bN] at g;simp only[lg] at h;cases b:pO f k p.1 with|none=>rw[b] at h;cases h|some q=>rw[b] at h;have:(Op.equal e k p.1).run P w= .ok q w:=(by have c:=g.1;simp only[uK,bN] at c;generalize A:p.1=y at b c;(cases k<;>(try(simp[pO,l] at b;done)));(cases y<;>(try(simp[pO,l] at b;done)));rename_i xs ys;simp only[pO,l] at b;refine(KL (κ:=⟨λ_=>False,0⟩) (Y:=[]) (β:=λ_=>0) (xs:=xs.toList.map .s) (ys:=ys.toList.map .s) ?_ ?_ ?_ .eql default default).2;exact .a (vs:=xs.toList) (by simp) (λv m=>AF (dV.1 n v m)) (aof n);exact .a (vs:=ys.toList) (by simp) (λv m=>AF (dV.1 c.2 v m)) (aof c.2);simp only[sR,x,o,t,y6,vg];exact alU _ _ u b);simp only[oQ,Instr.findAsking,Sem.run_bind,this,Result.andThen_ok];cases q with|true=>simp only[bE] at h;subst h;simp|false=>simpa using z (i+1) (j+1) g.2 h
def azW{k:Value}{d:MT}:∀(a:List (Value×Value)) (i:Nat) {r:Nat×Value},a.all uK=U->lg d k a i=V (V r)->sc r.2=U:=by intro a;induction a with|nil=>intro i r _ h;cases h|cons p a c=>intro i r b h;simp only[Cs,bN] at b;simp only[lg] at h;split at h;(cases h);have:=b.1;simp only[uK,bN] at this;exact this.1;exact c (i+1) b.2 h;cases h
def KV{c:TypeId}{k:Value}{a:MT}{b:List (Value×Value)}{r:Option (Nat×Value)}(o:(a.st=I/\P.underlying c=V .string)\/∃fs,a.st=U/\P.underlying c=V (.struct fs)/\P.stoodInHeld c=I/\P.eqGuardType P.depth c=I/\nk P fs.toList=V a.fs/\a.fs.all (λf=>Q (f.2<3))=U)(m:qR a k=U)(g:DW k=U)(n:b.all uK=U)(h:lg a k b 0=V r):(Instr.findKey c k (oQ 0 b)).run P w= .ok r w:=by rcases o with⟨e,d⟩|⟨fs,e,d,i,j,l,p⟩;exact MapKept.run_findKey d (azX e b 0 0 m h);rw[run_findKey_eq w (by rw[d])];exact azV e d i j l g b 0 0 n h
def alT{b:Id}{x:bY}{a:List (Value×Value)}(s:cv P κ w Y β)(g:box Y b=V x)(h:ul x=V a):w.heap[β b]?=V (.map (oQ 0 a).toArray (L a))/\a.all uK=U/\x.size=0/\x.var=U/\x.aa=[a.map ent]:=by unfold ul at h;split at h;rename_i d;rcases(s.ok b x g).sp d.1 with⟨_,i,c,e,f⟩|⟨c,_⟩;rw[c] at h;simp only at h;rw[KG] at h;(cases h);exact⟨f,e,d.1,d.2,c⟩;rw[d.2] at c;cases c;cases h
def aDp{t:TypeId}{p:MT}{N B:Value}{x ix C:AV}{d:Bool}(s:cv P κ w Y β)(W:r9 P t=V p)(X:ba κ w Y β N x)(S:ba κ w Y β B ix)(h:oP p Y x ix d=V C):∃v,(Instr.lookup t N B d).run P w= .ok v w/\ba κ w Y β v C:=by obtain⟨kt,e,i,K,H,Z,y,A⟩:=ano W;unfold oP at h;split at h;rename_i b _ _ k T;(cases m:box Y b with|none=>rw[m] at h;cases h|some bx=>rw[m] at h;simp only[qd] at h;split at h;rename_i O F;split at h;rename_i j;obtain⟨rfl,h0⟩:=amp X m;obtain⟨G,z,_,_,_⟩:=alT s m F;obtain⟨rfl,q⟩:=am5 S T;have E:∀D,(Instr.checkKey D 10000 kt B).run P w= .ok () w:=λD=>alL (t:=t) (e:=e) A j;have M:∀(a:Value) (b:Bool),sc a=U->ba κ w Y β (.tuple #[a, .bool b]) (.t [.s a, .s (.bool b)]):=λa b R=>(by refine .t (vs:=[a, .bool b]) rfl (λi v c f l=>?_);match i with|0=>simp at f l;subst f;subst l;exact .s R|1=>simp at f l;subst f;subst l;exact .s rfl|n+2=>simp at f);split at h;rename_i r o;have g:=KV (w:=w) A j q z o;have u:sc r.2=U:=azW O 0 z o;simp only[bE] at h;subst h;refine⟨if d then .tuple #[r.2, .bool U] else r.2,?_,?_⟩;simp[Instr.lookup,run_underlying K,MapKept.run_getObj_map G,E,g];(cases d);exact .s u;exact M _ _ u;rename_i o;have g:=KV (w:=w) A j q z o;simp only[bE] at h;subst h;refine⟨if d then .tuple #[p.zero, .bool I] else p.zero,?_,?_⟩;simp[Instr.lookup,run_underlying K,MapKept.run_getObj_map G,E,g,zeroValue,typeInfo,H,Z];(cases d);exact .s y;exact M _ _ y;(cases h);(cases h);cases h);cases h
end
section
variable{P:Program}{κ:rm}{w:World}{Y:ae}{β:Id->Nat}
def aC7{t:TypeId}{v:Value}{x i:AV}{ts:Array TypeId}{ty:TypeId}{as:Array Value}(e:ts[0]?=V t)(d:as[0]?=V v)(f:ba κ w Y β v x)(h:(yj P t x).or (aPH P Y t x)=V i):∃u,(Builtin.len_ ts ty as).run P w= .ok u w/\ba κ w Y β u i:=by rw[Option.or_eq_some_iff] at h;rcases h with h|⟨_,h⟩;unfold yj at h;split at h;(cases h;cases f with|s=>exact⟨_,by simp[Builtin.len_,e,d,run_underlying ‹_›,goInt];try rfl, .s rfl⟩);(cases h);obtain⟨A,c,rfl,_⟩:=AJ f;exact⟨_,by simp[Builtin.len_,e,d,run_underlying ‹_›,goInt];try rfl, .s rfl⟩;(cases h);exact⟨_,by simp[Builtin.len_,e,d,run_underlying ‹_›,goInt];try rfl, .s rfl⟩;(cases h);unfold aPH at h;split at h;rename_i b n g _;(cases a:box Y b with|none=>rw[a] at h;cases h|some j=>rw[a] at h;simp only[df,bE] at h;subst h;obtain⟨cap,cur,rfl,_⟩:=oR f a;exact⟨_,by simp[Builtin.len_,e,d,run_underlying g,goInt];try rfl, .s rfl⟩);rename_i k b o n g _;(cases a:box Y b with|none=>rw[a] at h;cases h|some j=>rw[a] at h;simp only[qd] at h;split at h;rename_i l;subst l;simp only[bE] at h;subst h;obtain⟨cap,rfl,_⟩:=Lf f a;exact⟨_,by simp[Builtin.len_,e,d,run_underlying g,goInt];try rfl, .s rfl⟩;cases h);cases h
def awA{j:Operand->Value}{E:Operand->AV}{b:Builtin}{c:Call}{ty:TypeId}{k:AV}{cs:Array Bool}(e:∀x,ba κ w Y β (j x) (E x))(h:nP P E Y b c=V k):∃v,(builtin b c.argTypes ty cs (c.args.map j)).run P w= .ok (.value v) w/\ba κ w Y β v k:=by unfold nP at h;split at h;split at h;rename_i t x n o;obtain⟨u,l,m⟩:=aC7 (P:=P) (w:=w) (Y:=Y) (β:=β) (ts:=c.argTypes) (ty:=ty) (as:=c.args.map j) n (by simp[o]) (e x) h;exact⟨u,by simp[builtin,l],m⟩;(cases h);split at h;rename_i x y i;have f:=e x;have g:=e y;unfold AO at h;split at h;rename_i a d;simp only[bE] at h;subst h;rw[a] at f;rw[d] at g;exact⟨_,by simp[builtin,Builtin.min_,i,f.s_inv.1,g.s_inv.1,Builtin.min2];try rfl, .s rfl⟩;rename_i a d;simp_all;(cases h);(cases h);split at h;rename_i x y i;have f:=e x;have g:=e y;unfold AO at h;split at h;rename_i a d;simp_all;rename_i a d;simp only[bE] at h;subst h;rw[a] at f;rw[d] at g;exact⟨_,by simp[builtin,Builtin.max_,i,f.s_inv.1,g.s_inv.1,Builtin.max2];try rfl, .s rfl⟩;(cases h);(cases h);cases h
def aHZ{H:Operand->Value}{E:Operand->AV}{o:Oper}{av:AV}(s:cv P κ w Y β)(q:∀x,ba κ w Y β (H x) (E x))(h:dz P E Y o.op=V av):∃v,(execOp H o).run P w= .ok (.value v) w/\ba κ w Y β v av:=by obtain⟨am,op,ty,aB,af,gd⟩:=o;dsimp only at h;unfold dz at h;split at h;(cases h;exact⟨_,by simp[execOp];try rfl,q _⟩);(cases h;exact⟨_,by simp[execOp];try rfl,q _⟩);rename_i c a b;split at h;rename_i t F;(cases h);have k:=q c;rw[F] at k;(cases t);exact⟨_,by simp[execOp,k.s_inv.1,asBool];try rfl,q _⟩;exact⟨_,by simp[execOp,k.s_inv.1,asBool];try rfl,q _⟩;(cases h);rename_i t x;(cases hp:iE Y (E x) with|none=>rw[hp] at h;cases h|some cs=>rw[hp] at h;obtain⟨al,off,g,e,F⟩:=anZ s (q x) hp;obtain⟨v,A,B⟩:=anh (P:=P) (t:=t) F h;exact⟨v,by simp[execOp,Instr.loadAt,e,Instr.sureAddr,A],B⟩);rename_i x;split at h;rename_i b i j p;have k:=q x;rw[p] at k;(cases D:box Y b with|none=>rw[D] at h;cases h|some bx=>rw[D] at h;simp only[df,bE] at h;subst h;exact⟨_,by simp[execOp,Eh k D];try rfl, .p1 D (Ei k D) rfl⟩);rename_i cs p;have k:=q x;rw[p] at k;(cases h);obtain⟨al,off,e,_⟩:=QM k 0;exact⟨_,by simp[execOp,e];try rfl,e▸k⟩;rename_i fn a b p;have k:=q x;rw[p] at k;(cases h);generalize C:H x=v at k;(cases k with|f M an h h'=>exact⟨_,by simp[execOp,C];try rfl, .f M an h h'⟩);(cases h);rename_i op ty x y yt;have G:=q x;have N:=q y;split at h;rename_i a b p hy;rw[p] at G;rw[hy] at N;(cases D:vP P ty op a b with|none=>rw[D] at h;cases h|some v=>rw[D] at h;simp only[df,bE] at h;subst h;obtain⟨A,B⟩:=awu (w:=w) D;refine⟨v,?_, .s B⟩;have hg:(eqGuard op ty x y a b).run P w= .ok () w:=(by refine aH9 ?_;unfold vP at D;split at D<;>first|rfl|cases D);simp[execOp,G.s_inv.1,N.s_inv.1,hg,A]);rename_i xs ys p hy;rw[p] at G;rw[hy] at N;have fx:∃vs:List Value,H x= .agg vs.toArray:=(by generalize H x=v at G;cases G;exact⟨_,rfl⟩);have fy:∃vs:List Value,H y= .agg vs.toArray:=(by generalize H y=v at N;cases N;exact⟨_,rfl⟩);obtain⟨vx,X⟩:=fx;obtain⟨vy,Z⟩:=fy;split at h;(cases K:sR P ty xs ys with|none=>rw[K] at h;cases h|some r=>rw[K] at h;(cases h);obtain⟨A,B⟩:=KL G N K .eql x y;rw[X,Z] at A B;exact⟨_,by simp[execOp,X,Z,A,binOp,B];try rfl, .s rfl⟩);(cases K:sR P ty xs ys with|none=>rw[K] at h;cases h|some r=>rw[K] at h;(cases h);obtain⟨A,B⟩:=KL G N K .neq x y;rw[X,Z] at A B;exact⟨_,by simp[execOp,X,Z,A,binOp,B];try rfl, .s rfl⟩);(cases h);(cases h);rename_i op t x;have k:=q x;split at h;rename_i b p;rw[p] at k;(cases h);exact⟨_,by simp[execOp,k.s_inv.1,Op.unary];try rfl, .s rfl⟩;rename_i W n p;rw[p] at k;(cases h);exact⟨_,by simp[execOp,k.s_inv.1,Op.unary,Op.intArith];try rfl, .s rfl⟩;(cases h);rename_i aC am x;have k:=q x;split at h;rename_i d W k' n hs hd p;rw[p] at k;(cases h);exact⟨_,by cases d<;>(simp[execOp,k.s_inv.1,convert,run_underlying hs,run_underlying hd,Conv.intToInt];try rfl), .s rfl⟩;rename_i s' hs hd p;rw[p] at k;(cases h);exact⟨_,by simp[execOp,k.s_inv.1,convert,run_underlying hs,run_underlying hd];try rfl, .s rfl⟩;(cases h);rename_i st x f;obtain⟨u,A,B⟩:=azS (q x) h;exact⟨u,by simp[execOp,A],B⟩;rename_i t x f;have k:=q x;split at h;rename_i fs cs T p;rw[p] at k;(cases hf:fs[f]? with|none=>rw[hf] at h;cases h|some fd=>rw[hf] at h;simp only[qd] at h;generalize C:H x=v at k;cases k with|a M F S=>obtain⟨u,A,B⟩:=anP M F S h;exact⟨u,by simp[execOp,C,Instr.field,run_underlying T,hf,asAgg,A],B⟩);(cases h);rename_i t x ix;have k:=q ix;split at h;rename_i W i p;rw[p] at k;split at h;rename_i O;obtain⟨u,A,B⟩:=aB4 (iv:= .bool I) (k:=W) (q x) O h;exact⟨u,by simp[execOp,k.s_inv.1,A],B⟩;(cases h);(cases h);rename_i t x ix;have k:=q ix;have G:=q x;split at h;rename_i W i s' R T p;rw[R] at k;rw[p] at G;split at h;rename_i O;(cases D:s'[i.toNat]? with|none=>rw[D] at h;cases h|some b=>rw[D] at h;(cases h);exact⟨_,by simp[execOp,k.s_inv.1,G.s_inv.1,Instr.index,asIntOf,run_underlying T,O,D];try rfl, .s rfl⟩);(cases h);rename_i W i n e cs R T p;rw[R] at k;rw[p] at G;split at h;rename_i O;(cases hz:fG P e with|none=>rw[hz] at h;cases h|some z=>rw[hz] at h;simp only[qd] at h;generalize C:H x=v at G;cases G with|a M F S=>obtain⟨u,A,B⟩:=anP M F S h;exact⟨u,by simp[execOp,C,k.s_inv.1,Instr.index,asIntOf,run_underlying T,O,mN hz,A],B⟩);(cases h);(cases h);rename_i x i;have k:=q x;split at h;rename_i vs p;rw[p] at k;generalize C:H x=v at k;(cases k with|@t us _ M S=>have aa:i<L us:=(by rw[M];exact(mg.1 h).1);exact⟨us[i],by simp[execOp,C,Instr.extract,aa],S i _ _ (eC aa) h⟩);(cases h);rename_i t x ix ok;split at h;rename_i mt hm;obtain⟨v,A,B⟩:=aDp s hm (q x) (q ix) h;exact⟨v,by simp[execOp,A],B⟩;(cases h);rename_i t x lo O mx;split at h;rename_i l hh m A B h3;obtain⟨u,k1,k2⟩:=aIo s (q x) (Ko q A) (Ko q B) (Ko q h3) h;exact⟨u,by simp[execOp,k1],k2⟩;(cases h);rename_i fn first cap;(cases h);refine⟨.func (.func fn) (first.toList.map H).toArray (cap.toList.map H).toArray,?_, .f (by simp) (by simp) (λi v c C F=>?_) (λi v c C F=>?_)⟩;simp only[execOp,Instr.makeFunc,Sem.run_bind,Sem.run_pure,Result.andThen_ok];congr 3<;>exact(qb.1 (by simp));rw[ve] at C F;(cases p:first.toList[i]? with|none=>rw[p] at C;cases C|some x=>rw[p] at C F;cases C;cases F;exact q x);rw[ve] at C F;(cases p:cap.toList[i]? with|none=>rw[p] at C;cases C|some x=>rw[p] at C F;cases C;cases F;exact q x);rename_i c;split at h;rename_i b D;(obtain⟨v,A,B⟩:=awA (ty:=ty) (cs:=(c.args.map λ| .const _=>U|_=>I)) q h);refine⟨v,?_,B⟩;simp only[execOp,resolve,D,invoke,Sem.run_bind,Sem.run_pure,Result.andThen_ok];exact A;(cases h);cases h
end
def eY:AV->Option (List AV)| .a cs=>V cs| .t _=>J| .u=>J|x=>V [x]
def CR(κ:rm)(w:World)(Y:ae)(β:Id->Nat)(vs:List Value)(cs:List AV):Prop:=L vs=L cs/\(∀v∈vs,amk v=U)/\∀(i:Nat) v c,vs[i]?=V v->cs[i]?=V c->ba κ w Y β v c
def gp(a:Nat->Option (Nat×Nat)):List AV->List (Nat×AV)->Option (List AV)
 |cs,[]=>V cs
 |cs,(i,x)::b=>
  match a i,eY x with
  |some (off,size),some ys=>if L ys=size/\off+size<=L cs then gp a (cs.take off++ys++cs.drop (off+size)) b else J
  |_,_=>J
def jF(P:Program)(t:TypeId):Option (List AV):=
 match P.info? t with
 |some i=>
  match i.zero with
  |some z=>if z.cells.all amk=U/\z.cells.size=i.size then V (z.cells.toList.map ui) else J
  |none=>J
 |none=>J
def gK:AV->AV| .l aa _ _=> .l aa I I|x=>x
def nrm:AV->AV| .a cs=> .a (cs.map gK)|x=>gK x
def aOy(P:Program)(t:TypeId):Option (List AV):=(jF P t).map (·.map gK)
def vS(P:Program)(t:TypeId)(a:List (Nat×AV)):Option (List AV):=
 match P.underlying t with
 |some (.struct b)=>
  match jF P t,b.toList.mapM (λf=>(P.info? f.type).map λi=>(f.offset,i.size)) with
  |some zs,some c=>gp (λi=>c[i]?) zs a
  |_,_=>J
 |some (.array _ e)=>
  match jF P t,fG P e with
  |some zs,some z=>gp (λi=>V (i*z,z)) zs a
  |_,_=>J
 |_=>J
def kC(size len:Nat)(flat:List AV):List (List AV):=(aH len).map λi=>(flat.drop (i*size)).take size
def xB(P:Program)(t:TypeId)(len:Nat)(a:List (Nat×AV)):Option (List (List AV)):=
 match P.underlying t with
 |some (.slice e)=>
  match aOy P e with
  |some zs=>if len*L zs<=16777216/\0<L zs then(gp (λi=>V (i*L zs,L zs)) ((er len zs).flatten) a).bind (λfl=>if fl.all eN=U then V (kC (L zs) len fl) else J) else J
  |none=>J
 |_=>J
section
variable{P:Program}{κ:rm}{w:World}{Y:ae}{β:Id->Nat}
def CR.ext{b:World}{Y':ae}{a:Id->Nat}{vs:List Value}{cs:List AV}(h:CR κ w Y β vs cs)(e:dw w Y β b Y' a):CR κ b Y' a vs cs:=⟨h.1,h.2.1,λi v c d f=>(h.2.2 i v c d f).ext e⟩
def CR.append{vs f:List Value}{cs ds:List AV}(h:CR κ w Y β vs cs)(k:CR κ w Y β f ds):CR κ w Y β (vs++f) (cs++ds):=by refine⟨by simp[h.1,k.1],λv a=>?_,λi v c b d=>?_⟩;rw[dF] at a;rcases a with a|a;exact h.2.1 v a;exact k.2.1 v a;rw[rA] at b d;rw[h.1] at b;split at b;rename_i e;rw[bX e] at d;exact h.2.2 i v c b d;rename_i e;rw[cj e] at d;exact k.2.2 _ v c b d
def CR.take{vs:List Value}{cs:List AV}(h:CR κ w Y β vs cs)(n:Nat):CR κ w Y β (vs.take n) (cs.take n):=by refine⟨by simp[h.1],λv e=>h.2.1 v (sA e),λi v c a b=>?_⟩;rw[ot] at a b;split at a;rename_i d;rw[bX d] at b;exact h.2.2 i v c a b;cases a
def CR.drop{vs:List Value}{cs:List AV}(h:CR κ w Y β vs cs)(n:Nat):CR κ w Y β (vs.drop n) (cs.drop n):=by refine⟨by simp[h.1],λv d=>h.2.1 v (CB d),λi v c a b=>?_⟩;rw[mf] at a b;exact h.2.2 _ v c a b
def CR.nil:CR κ w Y β [] []:=⟨rfl,λ_ h=>(by simp at h),λ_ _ _ h=>(by simp at h)⟩
def CR.rep{vs:List Value}{cs:List AV}(h:CR κ w Y β vs cs)(n:Nat):CR κ w Y β (er n vs).flatten (er n cs).flatten:=by induction n with|zero=>exact CR.nil|succ n a=>simp only[aqZ,aqM];exact h.append a
def Ku{v:Value}{x:AV}{cs:List AV}(h:ba κ w Y β v x)(b:eY x=V cs):CR κ w Y β v.cells.toList cs:=by have e:∀x,one x=U->ba κ w Y β v x->CR κ w Y β v.cells.toList [x]:=λx j h=>(by have g:=h.cell j;(have:v.cells.toList=[v]:=by cases v<;>first|rfl|(simp[amk] at g;done));rw[this];refine⟨rfl,λu d=>?_,λi u c d b=>?_⟩;simp only[cE] at d;subst d;exact g;cases i with|zero=>simp only[qh,bE] at d b;subst d b;exact h|succ i=>simp at d);cases x with|a ds=>simp only[eY,bE] at b;subst b;(cases h with|a k f l=>exact⟨k,f,l⟩)|t ds=>simp[eY] at b|u=>simp[eY] at b|_=>simp only[eY,bE] at b;subst b;exact e _ rfl h
def aBi:∀(vs:List Value) (k off:Nat) (a:Array Value),off+k+L vs<=a.size->((vs.zipIdx k).foldl (λ(cs:Array Value) (p:Value×Nat)=>cs.setIfInBounds (off+p.2) p.1) a).toList=a.toList.take (off+k)++vs++a.toList.drop (off+k+L vs):=by intro vs;induction vs with|nil=>intro k off a _;simp|cons v vs b=>intro k off a h;simp only[List.zipIdx_cons,GE];rw[b (k+1) off _ (by simp at h⊢;omega)];simp only[aqq,bZ] at*;have:=list_seg_step a.toList (off+k) v vs (by simp;omega);rw[show off+(k+1)=off+k+1 by omega,this]
def aTa{d:Operand->Value}{E:Operand->AV}(n:∀x,ba κ w Y β (d x) (E x)){pl:Nat->Option (Nat×Nat)}:∀(a:List (Nat×Operand)) (vs:List Value) (cs e:List AV),CR κ w Y β vs cs->gp pl cs (a.map λp=>(p.1,E p.2))=V e->
  ∃vs',Instr.fill pl vs.toArray (a.map λp=>(p.1,d p.2))=V vs'.toArray/\CR κ w Y β vs' e:=by
 intro a
 induction a with
 |nil=>intro vs cs e h b;simp only[mU,gp,bE] at b;subst b;exact⟨vs,rfl,h⟩
 |cons p a s=>
  intro vs cs e h b
  simp only[ji,gp] at b
  split at b
  ·rename_i off size ys q r
   split at b
   ·rename_i o
    have k:=Ku (n p.2) r
    have g:(d p.2).cells.size=size:=by rw[<-Rz,k.1];exact o.1
    have t:=h.1
    have f:=aBi (d p.2).cells.toList 0 off vs.toArray (by simp[g];omega)
    simp only[kP] at f
    have i:CR κ w Y β (vs.take off++(d p.2).cells.toList++vs.drop (off+size)) (cs.take off++ys++cs.drop (off+size)):=((h.take off).append k).append (h.drop (off+size))
    obtain⟨vs',l,m⟩:=s _ _ _ i b
    refine⟨vs',?_,m⟩
    simp only[ji,Instr.fill,q]
    rw[cj (by simp[g];omega)]
    rw[<-l]
    congr 1
    rw[<-qb]
    rw[show(Array.foldl (λ(cs:Array Value) (x:Value×Nat)=>match x with|(c,j)=>cs.setIfInBounds (off+j) c) vs.toArray (d p.2).cells.zipIdx)=((d p.2).cells.toList.zipIdx 0).foldl (λ(cs:Array Value) (p:Value×Nat)=>cs.setIfInBounds (off+p.2) p.1) vs.toArray by
     rw[<-yY,Array.toList_zipIdx]]
    rw[f]
    simp[g]
   ·cases b
  ·cases b
def tF{t:TypeId}{zs:List AV}(h:jF P t=V zs):∃(i:TypeInfo) (z:Value),P.info? t=V i/\i.zero=V z/\z.cells.size=i.size/\L zs=i.size/\CR κ w Y β z.cells.toList zs:=by unfold jF at h;split at h;rename_i i e;split at h;rename_i z f;split at h;rename_i b;simp only[bE] at h;subst h;refine⟨i,z,e,f,b.2,by simp[b.2],by simp,λv d=>?_,λk v c d a=>?_⟩;have:=b.1;rw[Array.all_eq_true'] at this;exact this v (by simpa using d);rw[ve,d] at a;simp only[df,bE] at a;subst a;exact KC v;(cases h);(cases h);cases h
def Qx{v:Value}{x:AV}(h:ba κ w Y β v x):ba κ w Y β v (gK x):=by cases h with|l0=>exact .l0 (λh=>by cases h)|l1 z p B g l y k E e o D c m j=>exact .l1 (λh=>by cases h) p B g l y k (λh=>by cases h) e o D c m j|s h=>exact .s h|u=>exact .u|a d c h=>exact .a d c h|t d h=>exact .t d h|p1 h n z=>exact .p1 h n z|p0 h b=>exact .p0 h b|q p g e o c m j=>exact .q p g e o c m j|m1 h l C i n=>exact .m1 h l C i n|g1 h b=>exact .g1 h b|g0 h b=>exact .g0 h b|m0 h b=>exact .m0 h b|f d r h A=>exact .f d r h A
def CR.nrm{vs:List Value}{cs:List AV}(h:CR κ w Y β vs cs):CR κ w Y β vs (cs.map gK):=by refine⟨by simp[h.1],h.2.1,λi v c d a=>?_⟩;rw[ve] at a;cases b:cs[i]? with|none=>rw[b] at a;cases a|some y=>rw[b] at a;simp only[df,bE] at a;subst a;exact Qx (h.2.2 i v y d b)
def yo{v:Value}{x:AV}(h:ba κ w Y β v x):ba κ w Y β v (nrm x):=by cases x with|a cs=>simp only[Ab.nrm];(cases h with|a c b d=>have:=CR.nrm ⟨c,b,d⟩;exact .a this.1 this.2.1 this.2.2)|_=>exact Qx h
def Rw{t:TypeId}{zs:List AV}(h:aOy P t=V zs):∃(i:TypeInfo) (z:Value),P.info? t=V i/\i.zero=V z/\z.cells.size=i.size/\L zs=i.size/\CR κ w Y β z.cells.toList zs:=by unfold aOy at h;cases a:jF P t with|none=>rw[a] at h;cases h|some ys=>rw[a] at h;simp only[df,bE] at h;subst h;obtain⟨i,z,b,c,d,e,f⟩:=tF (κ:=κ) (w:=w) (Y:=Y) (β:=β) a;exact⟨i,z,b,c,d,by simp[e],f.nrm⟩
def awJ{s:Operand->Value}{E:Operand->AV}(q:∀x,ba κ w Y β (s x) (E x)){t:TypeId}{a:List (Nat×Operand)}{cs:List AV}(h:vS P t (a.map λp=>(p.1,E p.2))=V cs):∃vs:List Value,P.built t (a.map λp=>(p.1,s p.2))=V vs.toArray/\CR κ w Y β vs cs:=by unfold vS at h;split at h;rename_i o l;split at h;rename_i zs r m u;obtain⟨i,z,c,d,_,_,f⟩:=tF (w:=w) (Y:=Y) (β:=β) m;obtain⟨vs,g,j⟩:=aTa q a _ _ _ f h;refine⟨vs,?_,j⟩;simp only[Program.built,c,l,d,u];simpa using g;(cases h);rename_i n e l;split at h;rename_i zs z m b;obtain⟨i,y,c,d,_,_,f⟩:=tF (w:=w) (Y:=Y) (β:=β) m;obtain⟨vs,g,j⟩:=aTa q a _ _ _ f h;refine⟨vs,?_,j⟩;unfold fG at b;(cases k:P.info? e with|none=>rw[k] at b;cases b|some v=>rw[k] at b;simp only[df,bE] at b;simp only[Program.built,c,l,d,k,b];simpa using g);(cases h);cases h
def alj{size len:Nat}{flat:List AV}{i j:Nat}{x:AV}(h:db (kC size len flat) i j=V x):i<len/\j<size/\flat[i*size+j]?=V x:=by unfold db kC at h;rw[ve] at h;by_cases a:i<len;rw[GH a] at h;simp only[df,qd,ot] at h;split at h;rw[mf] at h;exact⟨a,‹_›,h⟩;(cases h);rw[qi (by simp;omega)] at h;cases h
def axf{size len:Nat}{flat:List AV}(c:L flat=len*size):∀r∈kC size len flat,L r=size:=by intro r a;simp only[kC,dN,fq] at a;obtain⟨i,b,rfl⟩:=a;have:i*size+size<=len*size:=(by have:=qo size b;rw[tN] at this;exact this);simp;omega
def azT{pl:Nat->Option (Nat×Nat)}:∀(a:List (Nat×AV)) (cs b:List AV),gp pl cs a=V b->L b=L cs:=by intro a;induction a with|nil=>intro cs b h;simp only[gp,bE] at h;rw[h]|cons p a c=>intro cs b h;obtain⟨i,x⟩:=p;simp only[gp] at h;split at h;split at h;rename_i d;rw[c _ _ h];simp;omega;(cases h);cases h
def aFe{o:World}{d size n c:Nat}{e:TypeId}{vs:List Value}{flat:List AV}{aa:List (List AV)}{g own:Bool}(z:¬κ.F d)(B:own=U->κ.base<=d)(u:∀i j x,db aa i j=V x->eN x=U)(q:o.heap[d]?=V (.cells vs.toArray e (0,0)))(G:∀b x,box Y b=V x->β b≠d)(m:CR κ o Y β vs flat)(A:L aa=n)(t:0<n)(p:n<=c)(D:g=U->c=n)(C:∀r∈aa,L r=size)(f:∀i j x,db aa i j=V x->flat[i*size+j]?=V x):ba κ o Y β (.slice (V ⟨d,0,J⟩) n c) (.l aa g own):=by have s:d<o.heap.size:=(vh.1 q).1;have a:∀k y,flat[k]?=V y->∃v,vs[k]?=V v:=λk y E=>(by have:=(mg.1 E).1;exact⟨vs[k]'(by rw[m.1];exact this),eC _⟩);refine .l1 B z u (λi j=>vs.getD (i*size+j) (.bool I)) A t p D s G C (λi j x h=>?_) (λi j x h=>?_) (λi j x h=>?_);obtain⟨v,a⟩:=a _ _ (f i j x h);rw[Df q];simp[a];obtain⟨v,a⟩:=a _ _ (f i j x h);simp only[eI,a,mi];exact m.2.2 _ _ _ a (f i j x h);obtain⟨v,a⟩:=a _ _ (f i j x h);simp only[eI,a,mi];exact m.2.1 v (fC a)
def aoe(z:List Value):∀(n k:Nat),k<n*L z->(er n z).flatten[k]?=z[k%L z]?:=by intro n;induction n with|zero=>intro k h;simp at h|succ n b=>intro k h;simp only[aqZ,aqM,rA];split;rename_i a;rw[aYD a];rename_i a;rw[tN] at h;rw[b (k-L z) (by omega),<-Nat.mod_eq_sub_mod (by omega)]
def an4(z:List Value)(len:Nat):(Array.range (len*L z)).map (z.toArray[·%z.toArray.size]!)=(er len z).flatten.toArray:=by rw[<-qb];apply aqI;intro k;simp only[Array.toList_map,Array.toList_range,ve,xm];by_cases b:k<len*L z;rw[aoe z len k b,GH b];have d:0<L z:=(by rcases oD (L z) with a|a;rw[a] at b;omega;exact a);have c:k%L z<L z:=zw _ d;simp[c];rw[qi (by simp;omega),qi (by simp;omega)];rfl
def awI{A:Operand->Value}{E:Operand->AV}(s:cv P κ w Y β)(M:∀x,ba κ w Y β (A x) (E x)){t:TypeId}{len:Nat}{a:List (Nat×Operand)}{aa:List (List AV)}(h:xB P t len (a.map λp=>(p.1,E p.2))=V aa):
  ∃v y,(Instr.buildSlice t len (a.map λp=>(p.1,A p.2)).toArray).run P w= .ok v y/\Below w.heap.size w y/\ba κ y Y β v (.l aa U U):=by
 unfold xB at h
 split at h
 ·rename_i e F
  split at h
  ·rename_i zs T
   split at h
   ·rename_i X
    obtain⟨i,z,B,H,D,d,K⟩:=Rw (w:=w) (Y:=Y) (β:=β) T
    cases k:gp (λi=>V (i*L zs,L zs)) ((er len zs).flatten) (a.map λp=>(p.1,E p.2)) with
    |none=>rw[k] at h;cases h
    |some flat=>
     rw[k] at h
     simp only[qd] at h
     split at h
     ·rename_i r
      simp only[bE] at h
      subst h
      obtain⟨vs,q,C⟩:=aTa M a _ _ _ (K.rep len) k
      have m:L flat=len*L zs:=by rw[azT _ _ _ k];simp
      have n:L z.cells.toList=i.size:=by simpa using D
      have c:∀o,Below w.heap.size w (w.alloc o):=λo=>(Below.refl _ _).alloc (dA _) _
      by_cases G:len=0
      ·subst G
       have f:flat=[]:=by simpa using m
       have u:vs=[]:=by have:=C.1;rw[f] at this;simpa using this
       subst f u
       refine⟨.slice (V ⟨w.heap.size,0,J⟩) 0 0,w.alloc (.cells #[] e),?_,c _, .l0 (λ_=>rfl)⟩
       simp only[List.replicate_zero,List.flatten_nil,d] at q
       have S:(sizeOf e).run P w= .ok i.size w:=by simp[sizeOf,typeInfo,B]
       simp[Instr.buildSlice,run_underlying F,S,q,newRow,Array.range_zero']
      ·have R:=run_buildSlice (P:=P) w t e len (a.map λp=>(p.1,A p.2)).toArray vs.toArray i z F B H (by rw[<-d];omega) (by rw[<-d];intro O;rcases Nat.mul_eq_zero.1 O with h|h<;>omega) (by
        rw[<-n,show z.cells=z.cells.toList.toArray by simp,an4,n]
        simpa[d] using q)
       refine⟨_,_,R,c _,?_⟩
       have N:=heap_alloc_new w (.cells vs.toArray e)
       exact aFe (e:=e) (flat:=flat) (size:=L zs) (s.new (dA _)).1 (λ_=>(s.new (dA _)).2) (λi j x g=>dV.1 r x (fC (alj g).2.2)) N (λb x g W=>by have:=s.lt g;omega) (C.ext (xJ s (c _))) (by simp[kC]) (by omega) (dA _) (λ_=>rfl) (axf m) (λi j x g=>(alj g).2.2)
     ·cases h
   ·cases h
  ·cases h
 ·cases h
end
def y7(Y:ae)(d:Nat):Bool:=Q (d<L Y)
def mZ(P:Program)(t:TypeId):Nat:=match P.info? t with|some i=>i.bytes|none=>0
def aEx(v:Bool)(Y:ae):AV->Option (List (List AV))| .l aa _ _=>if v=U then J else V aa| .m b n=>(box Y b).bind λx=>if x.var=v then V (x.aa.take n) else J|_=>J
def gL(Y:ae):AV->Option (List (List AV))| .l aa _ _=>V aa| .m b n=>(box Y b).bind λx=>if x.var=I then V (x.aa.take n) else J|_=>J
def aXZ{Y:ae}{x:AV}:aEx I Y x=gL Y x:=by cases x<;>rfl
def lx:Nat:=1099511627776
def gi(Y:ae):AV->AV
 | .m b n=>match box Y b with|some x=>if x.var=I then .l (x.aa.take n) I x.own else .m b n|none=> .m b n
 |x=>x
def eR(Y:ae):AV->AV| .a cs=> .a (cs.map (gi Y))|x=>gi Y x
def iR:AV->List Id| .m b _=>[b]|_=>[]
def eB:AV->List Id| .a cs=>cs.flatMap iR|x=>iR x
def kills(Y:ae)(l:List Id):ae:=l.foldl (λY b=>if(box Y b).isSome then kill Y b else Y) Y
def tV(v:Bool)(P:Program)(Y:ae)(d:Nat)(t:TypeId)(s x:AV):Option (AV×ae):=
 match P.underlying t with
 |some (.slice e)=>
  match jF P e,aEx v Y x with
  |some zs,some new=>
   if L new=0 then
    match s with
    | .l aa c own=>V (.l aa c own,Y)
    | .m b n=>(box Y b).map λ_=>(.m b n,Y)
    |_=>J
   else if 0<L zs/\y7 Y d=U/\(∀r∈new,L r=L zs) then
    match s with
    | .l aa true _=>
     if(∀r∈aa,L r=L zs)/\(L aa+L new)*(mZ P e+1)<=lx then
      V (.m (lA Y d) (L aa+L new),put Y d ⟨e,L zs,U,v,aa++new⟩)
     else J
    | .m b n=>
     match box Y b with
     |some a=>
      if a.elem=e/\a.var=v/\a.size=L zs/\n<=L a.aa/\(n+L new)*(mZ P e+1)<=lx then
       V (.m (lA Y d) (n+L new),put (kill Y b) d ⟨e,L zs,a.own,v,a.aa.take n++new⟩)
      else J
     |none=>J
    |_=>J
   else J
  |_,_=>J
 |_=>J
def ra(P:Program)(Y:ae)(t:TypeId)(x v:AV):Option ae:=
 match x with
 | .p b i j=>
  match box Y b,eY v with
  |some a,some cs=>
   match a.aa[i]? with
   |some r=>if fG P t=V (L cs)/\j+L cs<=L r/\(a.var=I->cs.all eN=U) then V (wr Y b ⟨a.elem,a.size,a.own,a.var,a.aa.set i (r.take j++cs++r.drop (j+L cs))⟩) else J
   |none=>J
  |_,_=>J
 |_=>J
def aBG(Y:ae):AV->Bool
 | .p b _ _=>match box Y b with|some x=>x.var|none=>U
 |_=>U
def isL:AV->Bool| .l _ _ _=>U|_=>I
def uj(zs:List AV):Bool:=zs.any isL
def tz:AV->AV| .l [] _ _=> .l [] U U|x=>x
def mz(zs:List AV):List AV:=bif uj zs then zs.map tz else zs
def anv(zs:List AV):L (mz zs)=L zs:=by unfold mz;cases uj zs<;>simp
def wA(P:Program)(Y:ae)(d:Nat)(t:TypeId)(l c:Int):Option (AV×ae):=
 match P.underlying t with
 |some (.slice e)=>
  match aOy P e with
  |some zs=>if 0<=l/\l<=c/\0<L zs/\zs.all eN=U/\y7 Y d=U/\c*(mZ P e+1)<=lx then V (.m (lA Y d) l.toNat,put Y d ⟨e,L zs,U,uj zs,er l.toNat (mz zs)⟩) else J
  |none=>J
 |_=>J
def oS(t:TypeId)(Y:ae)(d:Nat):Option (AV×ae):=if y7 Y d=U then V (.g 0 (lA Y d) 0 0,put Y d ⟨t,0,U,U,[[]]⟩) else J
def muA(c:MT)(Y:ae)(x k v:AV):Option ae:=
 match x,ww c.st k,v with
 | .g 0 b _ _,some kv, .s e=>
  match box Y b with
  |some a=>
   match ul a with
   |some d=>if qR c kv=U then(match lg c kv d 0 with|some none=>V (wr Y b ⟨a.elem,a.size,a.own,a.var,[(d++[(kv,e)]).map ent]⟩)|_=>J) else J
   |none=>J
  |none=>J
 |_,_,_=>J
def tu(Y:ae)(d:Nat)(x:AV):Option (AV×ae):=
 match x with
 | .s (.string s)=>if y7 Y d=U then V (.g 1 (lA Y d) 0 0,put Y d ⟨0,0,U,I,[[.s (.string s), .s (.int .i64 0)]]⟩) else J
 |_=>J
def se(Y:ae)(x:AV):Option (AV×ae):=
 match x with
 | .g 1 b _ _=>
  match box Y b with
  |some a=>
   if a.size=0/\a.var=I then
    match a.aa with
    |[[.s (.string s), .s (.int .i64 p)]]=>
     if p.toNat<s.size then V (.t [.s (.bool U), .s (.int .i64 p), .s (.int .i32 (Utf8.decode s p.toNat).1)],wr Y b ⟨a.elem,a.size,a.own,a.var,[[.s (.string s), .s (.int .i64 ((p.toNat+(Utf8.decode s p.toNat).2:Nat):Int))]]⟩)
     else V (.t [.s (.bool I)],Y)
    |_=>J
   else J
  |none=>J
 |_=>J
def xD(P:Program)(t:TypeId):Option Value:=
 match P.underlying t with
 |some (.slice e)=>match(P.info? e).bind (·.zero),fG P e with|some z,some 1=>if sc z=U then V z else J|_,_=>J
 |_=>J
def pA(z:Value)(Y:ae)(x:AV):Option ae:=
 match x with
 | .l [] _ _=>V Y
 | .g 2 b o n=>
  match box Y b with
  |some a=>if a.size=1/\0<n then V (wr Y b ⟨a.elem,a.size,a.own,a.var,a.aa.take o++er n [.s z]++a.aa.drop (o+n)⟩) else J
  |none=>J
 |_=>J
def aPm(P:Program)(t:TypeId):Bool:=
 match P.underlying t with
 |some (.slice e)=>(match P.info? e with|some i=>i.str== "api.ThreadState" |none=>I)
 |_=>I
def aO3(P:Program):Op->Bool| .buildSlice t _ _=>aPm P t|_=>I
def lvA(P:Program)(Y:ae)(d:Nat)(t:TypeId)(len:Nat)(a:List (Nat×AV)):Option (AV×ae):=
 match P.underlying t,a with
 |some (.slice e),[(0,x)]=>
  match eY x,aOy P e with
  |some cs,some zs=>if len=1/\L cs=L zs/\0<L zs/\L zs<=1000/\y7 Y d=U then V (.m (lA Y d) 1,put Y d ⟨e,L zs,U,U,[cs]⟩) else J
  |_,_=>J
 |_,_=>J
def eA(P:Program)(E:Operand->AV)(Y:ae)(d:Nat):Op->Option (AV×ae)
 | .alloc e=>
  match jF P e with
  |some zs=>if 0<L zs/\y7 Y d=U then V (.p (lA Y d) 0 0,put Y d ⟨e,L zs,U,U,[zs]⟩) else J
  |none=>J
 | .box e x=>
  match eY (E x),fG P e with
  |some cs,some z=>if L cs=z/\0<z/\y7 Y d=U then V (.p (lA Y d) 0 0,put Y d ⟨e,z,U,U,[cs]⟩) else J
  |_,_=>J
 | .build t b=>(vS P t (b.toList.map λp=>(p.1,E p.2))).map λcs=>(.a cs,Y)
 | .buildSlice t len b=>if aPm P t=U then lvA P Y d t len (b.toList.map λp=>(p.1,E p.2)) else(xB P t len (b.toList.map λp=>(p.1,nrm (eR Y (E p.2))))).map λaa=>(.l aa U U,kills Y (b.toList.flatMap λp=>eB (E p.2)))
 | .makeSlice t l c=>match E l,E c with| .s (.int _ l), .s (.int _ c)=>wA P Y d t l c|_,_=>J
 | .store t x v=>
  if aBG Y (E x)=U then(ra P Y t (E x) (E v)).map λY'=>(.t [],Y')
  else(ra P (kills Y (eB (E v))) t (E x) (nrm (eR Y (E v)))).map λY'=>(.t [],Y')
 | .call c=>
  match c.callee with
  | .builtin .append=>
   match c.args.toList,c.argTypes.toList with
   |[s,x],[t,g]=>if t=g then tV (aPm P t) P Y d t (E s) (E x) else J
   |_,_=>J
  | .builtin .clear=>
   match c.args.toList,c.argTypes.toList with
   |[x],[t]=>match xD P t with|some z=>(pA z Y (E x)).map λY'=>(.t [],Y')|none=>J
   |_,_=>J
  |_=>J
 | .makeMap t r=>match r with|none=>oS t Y d|some _=>J
 | .mapUpdate t x k v=>match r9 P t with|some f=>(muA f Y (E x) (E k) (E v)).map λY'=>(.t [],Y')|none=>J
 | .range t x=>match P.underlying t with|some .string=>tu Y d (E x)|_=>J
 | .next x st=>if st=U then se Y (E x) else J
 |_=>J
def ard(P:Program)(κ:rm)(w:World)(Y:ae)(β:Id->Nat)(e:Operand->Value)(o:Oper)(d:AV)(Y':ae):Prop:=∃c v b a,(execOp e o).run P w= .ok c b/\(c= .value v\/c= .skip/\v=undef)/\ba κ b Y' a v d/\cv P κ b Y' a/\dw w Y β b Y' a
section
variable{P:Program}{κ:rm}{w:World}{Y:ae}{β:Id->Nat}
def te{d:Nat}(h:y7 Y d=U):d<L Y:=by simpa[y7] using h
def avN{cs:List AV}{i j:Nat}{y:AV}(h:db [cs] i j=V y):i=0/\cs[j]?=V y:=by unfold db at h;cases i with|zero=>simpa using h|succ i=>simp at h
def amG{e:TypeId}{zs:List AV}(h:jF P e=V zs):(P.info? e).map (·.size)=V (L zs):=by obtain⟨i,z,a,_,_,b,_⟩:=tF (P:=P) (κ:=⟨λ_=>False,0⟩) (w:=default) (Y:=[]) (β:=λ_=>0) h;simp[a,b]
def aB5{e:TypeId}{zs:List AV}(h:aOy P e=V zs):(P.info? e).map (·.size)=V (L zs):=by obtain⟨i,z,a,_,_,b,_⟩:=Rw (P:=P) (κ:=⟨λ_=>False,0⟩) (w:=default) (Y:=[]) (β:=λ_=>0) h;simp[a,b]
def alw{d:Nat}{e:TypeId}{vs:List Value}{cs:List AV}(s:cv P κ w Y β)(n:y7 Y d=U)(a:CR κ w Y β vs cs)(b:0<L cs)(o:(P.info? e).map (·.size)=V (L cs)):∃c,ba κ (w.alloc (.cells vs.toArray e)) (put Y d ⟨e,L cs,U,U,[cs]⟩) c (.pointer (V ⟨w.heap.size,0,J⟩)) (.p (lA Y d) 0 0)/\cv P κ (w.alloc (.cells vs.toArray e)) (put Y d ⟨e,L cs,U,U,[cs]⟩) c/\dw w Y β (w.alloc (.cells vs.toArray e)) (put Y d ⟨e,L cs,U,U,[cs]⟩) c:=by have g:=te n;have k:Below w.heap.size w (w.alloc (.cells vs.toArray e)):=(Below.refl _ _).alloc (dA _) _;refine⟨upd β (lA Y d) w.heap.size,?_,?_,um s k g (dA _)⟩;have:=ba.p1 (κ:=κ) (w:=w.alloc (.cells vs.toArray e)) (β:=upd β (lA Y d) w.heap.size) (i:=0) (j:=0) (iy (x:=⟨e,L cs,U,U,[cs]⟩) g) b rfl;rw[gx] at this;simpa using this;refine Et (cap:=1) (cur:=vs.toArray) s k g (dA _) b o (λr m=>by simp only[cE] at m;rw[m]) (λh=>by cases h) (heap_alloc_new w _) (by simp[a.1]) (by simp) (by simp[maxLen]) (λi j y t=>?_);obtain⟨rfl,l⟩:=avN t;have f:j<L vs:=(by rw[a.1];exact(mg.1 l).1);have q:vs[j]?=V vs[j]:=eC f;exact⟨vs[j],by simp[f],a.2.1 _ (qj _),a.2.2 j _ y q l⟩
def aot(w:World)(g:Nat)(cs:Array Value)(k:Nat)(h:k≠g):(w.setRow g cs).heap[k]?=w.heap[k]?:=by simp only[ar9,aqk];rw[cj (λe=>h e.symm)]
def aou(w:World)(g:Nat)(cs:Array Value):(w.setRow g cs).heap.size=w.heap.size:=by simp[ar9]
def Bn{α:Type}(l ys:List α)(k n:Nat)(h:k+L ys<=L l):(l.take k++ys++l.drop (k+L ys))[n]?=if k<=n/\n<k+L ys then ys[n-k]? else l[n]?:=by rw[rA,rA];simp only[P8,gC];have c:min k (L l)=k:=(by omega);rw[c];by_cases a:n<k;rw[bX (by omega),bX a,cj (by omega),ot,bX a];by_cases b:n<k+L ys;rw[bX b,cj a,bX (by omega)];rw[cj b,cj (by omega),mf];congr 1;omega
def aoK{t:TypeId}{vx g:Value}{x v:AV}{Y':ae}(s:cv P κ w Y β)(hx:ba κ w Y β vx x)(hv:ba κ w Y β g v)(h:ra P Y t x v=V Y'):
  ∃T,(Instr.storeAt t vx g).run P w= .ok () T/\cv P κ T Y' β/\dw w Y β T Y' β:=by
 unfold ra at h
 split at h
 ·rename_i b i j
  split at h
  ·rename_i a cs z hc
   split at h
   ·rename_i r F
    split at h
    ·rename_i G
     simp only[bE] at h
     subst h
     have o:=Ku hv hc
     have l:=(s.ok b a z).cl (Ei hx z)
     obtain⟨cur,cap,E,h2,h3,h4,W⟩:=l.ex
     have ab:r∈a.aa:=fC F
     have av:=l.rl r ab
     have M:i<L a.aa:=(mg.1 F).1
     have ap:i*a.size+a.size<=cap*a.size:=by
      have:=qo a.size (show i+1<=cap by omega)
      rw[tN] at this;exact this
     have A:L g.cells.toList=L cs:=o.1
     have an:g.cells.size=L cs:=by simpa using A
     have D:=run_storeCells_at P (β b) (i*a.size+j) a.elem g.cells.toList 0 cur w E (by omega) (λu hu=>o.2.1 u hu)
     simp only[kP] at D
     generalize p:(cur.toList.take (i*a.size+j)++g.cells.toList++cur.toList.drop (i*a.size+j+L g.cells.toList)).toArray=d at D
     have R:∀n,d[n]?=if i*a.size+j<=n/\n<i*a.size+j+L cs then g.cells.toList[n-(i*a.size+j)]? else cur[n]?:=by
      intro n
      rw[<-p,RR,Bn _ _ _ _ (by simp;omega),A]
      simp
     have H:d.size=cur.size:=by rw[<-p];simp;omega
     have K:=setRow_heap w (β b) cur d a.elem (0,0) E
     have hw:vM w (w.setRow (β b) d) (β b):=⟨rfl,rfl,rfl,aou _ _ _,λk hk=>aot _ _ _ _ hk⟩
     have C:L (r.take j++cs++r.drop (j+L cs))=a.size:=by simp;omega
     refine⟨w.setRow (β b) d,?_,?_,?_⟩
     ·rw[Eh hx z]
      have ac:(sizeOf t).run P w= .ok (L cs) w:=mN G.1
      have Z:g.cells.size=L cs:=by simpa using A
      simp[Instr.storeAt,Instr.sureAddr,storeVar,ac,Z,D]
     ·refine aox (x:=a) (x':=⟨a.elem,a.size,a.own,a.var,a.aa.set i (r.take j++cs++r.drop (j+L cs))⟩) s z hw rfl rfl rfl (by simp) (λS B=>?_) ?_ E K H h2 h3 h4 (λf e y c=>?_)
      ·rcases CC B with h|h
       ·exact l.rl S h
       ·rw[h];exact C
      ·intro m f e y c
       unfold db at c
       rw[xh] at c
       by_cases q:i=f
       ·subst q
        rw[bX rfl,bX M] at c
        simp only[qd] at c
        rw[Bn _ _ _ _ G.2.1] at c
        split at c
        ·exact dV.1 (G.2.2 m) y (fC c)
        ·exact l.dt m i e y (by simp[db,F,c])
       ·rw[cj q] at c
        exact l.dt m f e y c
      ·dsimp only at c
       have au:f<L a.aa/\e<a.size:=by
        have:=zO (size:=a.size) (λS B=>by
         rcases CC B with h|h
         ·exact l.rl S h
         ·rw[h];exact C) c
        simpa using this
       unfold db at c
       rw[xh] at c
       rw[R]
       by_cases q:i=f
       ·subst q
        rw[bX rfl,bX M] at c
        simp only[qd] at c
        rw[Bn _ _ _ _ G.2.1] at c
        split at c
        ·rename_i X
         rw[bX (by omega),show i*a.size+e-(i*a.size+j)=e-j by omega]
         have N:e-j<L g.cells.toList:=by omega
         exact⟨_,eC N,o.2.1 _ (qj _),o.2.2 _ _ y (eC N) c⟩
        ·rename_i X
         rw[cj (by omega)]
         exact W i e y (by simp[db,F,c])
       ·rw[cj q] at c
        have O:¬(i*a.size+j<=f*a.size+e/\f*a.size+e<i*a.size+j+L cs):=by
         rintro⟨g1,g2⟩
         rcases Nat.lt_or_gt_of_ne q with h|h
         ·have:=qo a.size (show i+1<=f by omega)
          rw[tN] at this;omega
         ·have:=qo a.size (show f+1<=i by omega)
          rw[tN] at this;omega
        rw[cj O]
        exact W f e y c
     ·exact KN (x:=a) (x':=⟨a.elem,a.size,a.own,a.var,a.aa.set i (r.take j++cs++r.drop (j+L cs))⟩) s z hw rfl rfl (by simp) E K H
    ·cases h
   ·cases h
  ·cases h
 ·cases h
end
section
variable{P:Program}{κ:rm}{w:World}{Y:ae}{β:Id->Nat}
def tK(κ:rm)(w:World)(Y:ae)(β:Id->Nat)(a off size:Nat)(aa:List (List AV))(vs:List Value):Prop:=L vs=L aa*size/\(∀j u,vs[j]?=V u->w.cell? ⟨a,off+j,J⟩=V u)/\(∀u∈vs,amk u=U)/\∀i j y,db aa i j=V y->∃u,vs[i*size+j]?=V u/\ba κ w Y β u y
def alm{aa:List (List AV)}{size i j:Nat}(e:∀r∈aa,L r=size)(a:i<L aa)(b:j<size):∃y,db aa i j=V y:=by have d:aa[i]?=V aa[i]:=eC a;have c:L (aa[i])=size:=e _ (qj _);exact⟨(aa[i])[j]'(by omega),by simp[db,d,c,b]⟩
def amc{p off n c:Nat}{aa:List (List AV)}{o own:Bool}{size:Nat}(h:ba κ w Y β (.slice (V ⟨p,off,J⟩) n c) (.l aa o own))(H:∀r∈aa,L r=size)(f:0<size):∃vs,tK κ w Y β p off size aa vs:=by cases h with|l0=>exact⟨[],by simp,λj u h=>(by simp at h),λu h=>(by simp at h),λi j y h=>(by simp[db] at h)⟩|@l1 _ _ n _ a _ _ _ R W O g F K E S N T m D G s=>have x:a=size:=(by cases aa with|nil=>simp at F;omega|cons r X=>rw[<-m r (by simp),H r (by simp)]);subst x;have B:∀i j,j<a->(i*a+j)/a=i/\(i*a+j)%a=j:=λi j e=>(by constructor;rw[vD,Nat.mul_add_div f,Nat.div_eq_of_lt e,kP];rw[vD,aq9,aYD e]);have q:∀k,k<L aa*a->∃y,db aa (k/a) (k%a)=V y:=λk s=>alm m (aq5 (by rw[vD];exact s)) (zw _ f);refine⟨(aH (L aa*a)).map λk=>g (k/a) (k%a),by simp,λj u b=>?_,λu b=>?_,λi j y d=>?_⟩;rw[ve] at b;by_cases e:j<L aa*a;rw[GH e] at b;simp only[df,bE] at b;subst b;obtain⟨y,d⟩:=q j e;have:=D _ _ y d;rw[show off+j/a*a+j%a=off+j by have:=aq4 j a;rw[vD] at this;omega] at this;exact this;rw[qi (by simp;omega)] at b;cases b;simp only[dN,fq] at b;obtain⟨k,t,rfl⟩:=b;obtain⟨y,d⟩:=q k t;exact s _ _ y d;obtain⟨M,C⟩:=zO m d;obtain⟨z,A⟩:=B i j C;have v:i*a+j<L aa*a:=(by have:=qo a (show i+1<=L aa by omega);rw[tN] at this;omega);refine⟨g i j,?_,G i j y d⟩;rw[ve,GH v,df,z,A]
def KY{b:Id}{n:Nat}{a:bY}(s:cv P κ w Y β)(D:box Y b=V a)(x:0<a.size)(E:n<=L a.aa):∃cur cap vs,w.heap[β b]?=V (.cells cur a.elem (0,0))/\cur.size=cap*a.size/\L a.aa<=cap/\cap<=maxLen/\vs=cur.toList.take (n*a.size)/\tK κ w Y β (β b) 0 a.size (a.aa.take n) vs:=by have d:=(s.ok b a D).cl x;obtain⟨cur,cap,m,o,B,C,p⟩:=d.ex;have G:n*a.size<=cur.size:=(by rw[o];exact qo _ (by omega));have z:∀r∈a.aa.take n,L r=a.size:=λr h=>d.rl r (sA h);have q:∀i j y,db (a.aa.take n) i j=V y->db a.aa i j=V y:=λi j y c=>(by unfold db at*;rw[ot] at c;split at c;exact c;cases c);refine⟨cur,cap,_,m,o,B,C,rfl,by rw[gC,gC,rD E];simp;omega,λj u e=>?_,λu e=>?_,λi j y c=>?_⟩;rw[ot] at e;split at e;rw[aj,Df m];simpa using e;(cases e);obtain⟨k,f⟩:=aqN e;rw[ot] at f;split at f;rename_i t;have g:=aq4 k a.size;have F:k/a.size<n:=aq5 (by rw[vD];exact t);obtain⟨y,c⟩:=alm (i:=k/a.size) (j:=k%a.size) (λr h=>d.rl r h) (by omega) (zw _ d.pos);obtain⟨v,g1,l,_⟩:=p _ _ y c;rw[show k/a.size*a.size+k%a.size=k by rw[vD] at g;omega] at g1;have:V u=V v:=(by rw[<-f,<-g1];simp);simp only[bE] at this;rw[this];exact l;(cases f);obtain⟨v,g1,l,A⟩:=p i j y (q i j y c);obtain⟨l1,H⟩:=zO z c;refine⟨v,?_,A⟩;rw[ot];have:i*a.size+j<n*a.size:=(by have:=qo a.size (show i+1<=n by simp at l1;omega);rw[tN] at this;omega);rw[bX this];simpa using g1
def tK.aa{size l off e g:Nat}{aa a:List (List AV)}{vs n:List Value}(h:tK κ w Y β l off size aa vs)(k:tK κ w Y β e g size a n)(p:∀r∈aa,L r=size)(q:∀r∈a,L r=size):∀i j y,db (aa++a) i j=V y->∃u,(vs++n)[i*size+j]?=V u/\amk u=U/\ba κ w Y β u y:=by intro i j y d;unfold db at d;rw[rA] at d;split at d;rename_i o;have b:db aa i j=V y:=d;obtain⟨l1,s⟩:=zO p b;obtain⟨u,c,f⟩:=h.2.2.2 i j y b;have m:=(mg.1 c).1;exact⟨u,by rw[List.getElem?_append_left m];exact c,h.2.2.1 u (fC c),f⟩;rename_i o;have b:db a (i-L aa) j=V y:=d;obtain⟨u,c,f⟩:=k.2.2.2 _ j y b;refine⟨u,?_,k.2.2.1 u (fC c),f⟩;rw[List.getElem?_append_right (by rw[h.1];have:=qo size (show L aa<=i by omega);omega),h.1];rw[show i*size+j-L aa*size=(i-L aa)*size+j by rw[Nat.sub_mul];have:=qo size (show L aa<=i by omega);omega];exact c
def aoG{q:Bool}{v:Value}{x:AV}{new:List (List AV)}{size:Nat}(s:cv P κ w Y β)(f:ba κ w Y β v x)(h:aEx q Y x=V new)(p:∀r∈new,L r=size)(k:0<size)(e:0<L new):∃d off c m,v= .slice (V ⟨d,off,J⟩) (L new) c/\tK κ w Y β d off size new m:=by unfold aEx at h;split at h;rename_i aa y own;split at h;(cases h);simp only[bE] at h;subst h;obtain⟨vs,u⟩:∃d off c,v= .slice (V ⟨d,off,J⟩) (L aa) c:=(by cases f with|l0=>simp at e|l1 K M H g i=>subst i;exact⟨_,_,_,rfl⟩);obtain⟨off,c,rfl⟩:=u;obtain⟨C,t⟩:=amc f p k;exact⟨_,_,_,C,rfl,t⟩;rename_i b n;(cases a:box Y b with|none=>rw[a] at h;cases h|some j=>rw[a] at h;simp only[qd] at h;split at h<;>simp only[bE,reduceCtorEq] at h;subst h;obtain⟨cap,cur,rfl,i,_⟩:=oR f a;obtain⟨A,z,vs,D,E,F,G,rfl,o⟩:=KY s a (nZ f a) i;have B:j.size=size:=(by cases l:j.aa.take n with|nil=>rw[l] at e;simp at e|cons r N=>rw[<-((s.ok b j a).cl (nZ f a)).rl r (sA (by rw[l];simp)),p r (by rw[l];simp)]);rw[B] at o;exact⟨β b,0,cap,_,by rw[gC,rD i],o⟩);cases h
def QY{n b:Nat}(h:n*(b+1)<=lx):n<=maxLen/\n*b<=140737488355328:=by rw[Nat.mul_add,zx] at h;simp only[lx,maxLen] at*;omega
def QE{b:World}{a e size n:Nat}{v:Value}{xs:List Value}(h:b.ownsRow a e size v n xs)(f:0<n):∃g cap cur,v= .slice (V ⟨g,0,J⟩) n cap/\a<=g/\b.heap[g]?=V (.cells cur e (0,0))/\n<=cap/\cap<=maxLen/\cur.size=cap*size/\cur.toList.take (n*size)=xs:=by rcases h.2 with⟨_,d⟩|c;omega;exact c
def aH3{q:Bool}{g:Value}{y:AV}{new:List (List AV)}(f:ba κ w Y β g y)(a:aEx q Y y=V new)(d:L new=0):∃A c,g= .slice A 0 c:=by cases y with|l aa h own=>simp only[aEx] at a;split at a;(cases a);simp only[bE] at a;subst a;obtain⟨A,c,rfl,_⟩:=AJ f;rw[d];exact⟨A,c,rfl⟩|m b n=>simp only[aEx] at a;(cases e:box Y b with|none=>rw[e] at a;cases a|some j=>rw[e] at a;simp only[qd] at a;split at a<;>simp only[bE,reduceCtorEq] at a;subst a;obtain⟨cap,cur,rfl,i,_⟩:=oR f e;rw[gC,rD i] at d;subst d;exact⟨_,_,rfl⟩)|_=>simp[aEx] at a
def ana{A:Option Addr}{n c:Nat}{aa:List (List AV)}{a own:Bool}(d:ba κ w Y β (.slice A n c) (.l aa a own)):aa=[]\/∃b o,A=V ⟨b,o,J⟩:=by cases d with|l0=>exact .inl rfl|l1=>exact .inr ⟨_,_,rfl⟩
def alR{v:Value}{aa:List (List AV)}{a own:Bool}(h:ba κ w Y β v (.l aa a own)):∀i j y,db aa i j=V y->eN y=U:=by cases h with|l0=>intro i j y c;simp[db] at c|l1 d e b=>exact b
def Dh{v:Value}{x:AV}{aa:List (List AV)}(s:cv P κ w Y β)(h:ba κ w Y β v x)(a:gL Y x=V aa):∀i j y,db aa i j=V y->eN y=U:=by cases x with|l e f own=>simp only[gL,bE] at a;subst a;exact alR h|m b n=>simp only[gL] at a;(cases c:box Y b with|none=>rw[c] at a;cases a|some g=>rw[c] at a;simp only[qd] at a;split at a;rename_i k;simp only[bE] at a;subst a;intro i j y d;refine((s.ok b g c).cl (nZ h c)).dt k i j y ?_;unfold db at*;rw[ot] at d;split at d;exact d;(cases d);cases a)|_=>simp[gL] at a
def alQ{a b:List (List AV)}(d:∀i j y,db a i j=V y->eN y=U)(e:∀i j y,db b i j=V y->eN y=U):∀i j y,db (a++b) i j=V y->eN y=U:=by intro i j y c;unfold db at c;rw[rA] at c;split at c;exact d i j y c;exact e _ j y c
def avx{q:Bool}{t ty e:TypeId}{d:Nat}{vs vx:Value}{aa new:List (List AV)}{zs:List AV}{own:Bool}{y:AV}(s:cv P κ w Y β)(W:ba κ w Y β vs (.l aa U own))(hx:ba κ w Y β vx y)(B:P.underlying t=V (.slice e))(hz:jF P e=V zs)(S:aEx q Y y=V new)
  (aB:0<L new)(p:0<L zs)(ad:y7 Y d=U)(O:∀r∈new,L r=L zs)(az:(∀r∈aa,L r=L zs)/\(L aa+L new)*(mZ P e+1)<=lx):
  ∃v f ab,(Builtin.append_ #[t,t] ty #[vs,vx]).run P w= .ok v f/\ba κ f (put Y d ⟨e,L zs,U,q,aa++new⟩) ab v (.m (lA Y d) (L aa+L new))/\cv P κ f (put Y d ⟨e,L zs,U,q,aa++new⟩) ab/\dw w Y β f (put Y d ⟨e,L zs,U,q,aa++new⟩) ab:=by
 obtain⟨i,z,hi,ag,am,G,_⟩:=tF (κ:=κ) (w:=w) (Y:=Y) (β:=β) hz
 have N:=te ad
 obtain⟨H,off,cx,D,rfl,o⟩:=aoG s hx S O p aB
 have R:L D=L new*L zs:=o.1
 have ax:mZ P e=i.bytes:=by simp[mZ,hi]
 obtain⟨T,al⟩:=az
 rw[ax] at al
 obtain⟨ah,ak⟩:=QY al
 obtain⟨A,c,rfl,hc,aA⟩:=AJ W
 have ay:=aA rfl
 subst ay
 have aG:∃b v' f,(Builtin.append_ #[t,t] ty #[.slice A (L aa) (L aa), .slice (V ⟨H,off,J⟩) (L new) cx]).run P w= .ok v' f/\f.ownsRow w.heap.size e (L zs) v' (L aa+L new) (b++D)/\w.grownBy f J/\
   (∃E o',tK κ w Y β E o' (L zs) aa b):=by
  cases A with
  |none=>
   have aD:aa=[]:=by
    rcases ana W with h|⟨_,_,h⟩
    ·exact h
    ·cases h
   subst aD
   obtain⟨v',f,X,Z,C,_⟩:=run_append_own (P:=P) w w.heap.size t ty e i z (L zs) i.bytes B hi ag G.symm rfl (by rw[am,G]) p (.slice J 0 0) 0 [] (World.ownsRow_nil w _ _ _) ⟨H,off,J⟩ (L new) cx D R
    (λj u B=>by rw[kT];exact o.2.1 j u B) (λu B=>o.2.2.1 u B) (by simpa using ah) (by simpa using ak) (dA _)
   refine⟨[],v',f,X,by simpa using Z,by simpa[Value.ownBlock] using C,0,0,by simp,λj u h=>(by simp at h),λu h=>(by simp at h),λi j y h=>(by simp[db] at h)⟩
  |some a=>
   have ha:∃E o',a=⟨E,o',J⟩\/aa=[]:=by
    rcases ana W with h|⟨E,o',h⟩
    ·exact⟨0,0, .inr h⟩
    ·exact⟨E,o', .inl (by simpa using h)⟩
   obtain⟨E,o',ha⟩:=ha
   have ae:∃b,(∃E o',tK κ w Y β E o' (L zs) aa b)/\∀j u,b[j]?=V u->w.cell? (a.add j)=V u:=by
    rcases ha with rfl|rfl
    ·obtain⟨b,ho⟩:=amc W T p
     exact⟨b,⟨_,_,ho⟩,λj u B=>by rw[kT];exact ho.2.1 j u B⟩
    ·exact⟨[],⟨0,0,by simp,λj u h=>(by simp at h),λu h=>(by simp at h),λi j y h=>(by simp[db] at h)⟩,λj u h=>(by simp at h)⟩
   obtain⟨b,⟨b1,o1,F⟩,ac⟩:=ae
   obtain⟨v',f,X,Z,C⟩:=run_append_arg_grows (P:=P) w t ty e i z (L zs) i.bytes B hi ag G.symm rfl (by rw[am,G]) p a (L aa) (L aa) b F.1 ac ⟨H,off,J⟩ (L new) cx D R (λj u B=>by rw[kT];exact o.2.1 j u B) (by omega) ah ak
   exact⟨b,v',f,X,Z,C,b1,o1,F⟩
 obtain⟨b,v',f,X,Z,C,b1,o1,F⟩:=aG
 obtain⟨g,cap,cur,rfl,g1,g2,g3,g4,g5,g6⟩:=QE Z (by omega)
 have K:Below w.heap.size w f:=⟨C.os,C.tape,C.output,C.size,λk hk=>C.block k hk (by simp)⟩
 have af:∀r∈aa++new,L r=L zs:=λr S=>by rw[dF] at S;rcases S with h|h;exact T r h;exact O r h
 have M:=F.aa o T O
 have ap:q=I->∀i j y,db (aa++new) i j=V y->eN y=U:=λhq=>alQ (alR W) (Dh s hx (by rw[<-aXZ,<-hq];exact S))
 have ar:cv P κ f (put Y d ⟨e,L zs,U,q,aa++new⟩) (upd β (lA Y d) g):=by
  refine Et (cap:=cap) (cur:=cur) s K N g1 p (amG hz) af ap g2 g5 (by simp;omega) g4 (λi j y hy=>?_)
  obtain⟨u,u1,u2,u3⟩:=M i j y hy
  rw[<-g6,ot] at u1
  split at u1
  ·exact⟨u,by simpa using u1,u2,u3⟩
  ·cases u1
 refine⟨_,f,upd β (lA Y d) g,X,?_,ar,um s K N g1⟩
 have:=ba.m1 (κ:=κ) (w:=f) (β:=upd β (lA Y d) g) (n:=L aa+L new) (cap:=cap) (cur:=cur) (iy (Y:=Y) (x:=⟨e,L zs,U,q,aa++new⟩) N) (by simp) (by rw[gx];exact g2) g5 p
 rw[gx] at this
 exact this
def avy{q:Bool}{t ty:TypeId}{d n:Nat}{vs vx:Value}{new:List (List AV)}{zs:List AV}{b:Id}{a:bY}{y:AV}(s:cv P κ w Y β)(K:ba κ w Y β vs (.m b n))(hx:ba κ w Y β vx y)(o:box Y b=V a)(p:P.underlying t=V (.slice a.elem))(hz:jF P a.elem=V zs)(D:aEx q Y y=V new)
  (aI:0<L new)(C:0<L zs)(ah:y7 Y d=U)(W:∀r∈new,L r=L zs)(ax:a.var=q)(aA:a.size=L zs/\n<=L a.aa/\(n+L new)*(mZ P a.elem+1)<=lx):
  ∃v e ad,(Builtin.append_ #[t,t] ty #[vs,vx]).run P w= .ok v e/\ba κ e (put (kill Y b) d ⟨a.elem,L zs,a.own,q,a.aa.take n++new⟩) ad v (.m (lA Y d) (n+L new))/\cv P κ e (put (kill Y b) d ⟨a.elem,L zs,a.own,q,a.aa.take n++new⟩) ad/\dw w Y β e (put (kill Y b) d ⟨a.elem,L zs,a.own,q,a.aa.take n++new⟩) ad:=by
 obtain⟨i,z,hi,aD,aL,ab,_⟩:=tF (κ:=κ) (w:=w) (Y:=Y) (β:=β) hz
 have T:=te ah
 obtain⟨M,off,cx,A,rfl,l⟩:=aoG s hx D W C aI
 have X:L A=L new*L zs:=l.1
 have az:mZ P a.elem=i.bytes:=by simp[mZ,hi]
 obtain⟨f,hn,an⟩:=aA
 rw[az] at an
 obtain⟨aE,aF⟩:=QY an
 obtain⟨c,B,rfl,_,hh,R⟩:=oR K o
 obtain⟨aO,ap,aY,f1,f2,f3,f4,rfl,hf⟩:=KY s o (nZ K o) hn
 rw[hh] at f1
 simp only[bE,Obj.cells.injEq,vm] at f1
 subst f1
 have aB:c=ap:=aq6 (nZ K o) (by rw[<-R,<-f2])
 subst aB
 have Z:w.ownsRow 0 a.elem (L zs) (.slice (V ⟨β b,0,J⟩) n c) n (B.toList.take (n*a.size)):=by
  refine⟨by rw[<-f,hf.1,gC,rD hn], .inr ⟨β b,c,B,rfl,mh _,hh,by omega,f4,by rw[<-f];exact R,by rw[f]⟩⟩
 have aM:∃v' e g cap cur,(Builtin.append_ #[t,t] ty #[.slice (V ⟨β b,0,J⟩) n c, .slice (V ⟨M,off,J⟩) (L new) cx]).run P w= .ok v' e/\v'= .slice (V ⟨g,0,J⟩) (n+L new) cap/\w.grownBy e (V (β b))/\(w.heap.size<=g\/g=β b)/\
   e.heap[g]?=V (.cells cur a.elem (0,0))/\n+L new<=cap/\cap<=maxLen/\cur.size=cap*L zs/\cur.toList.take ((n+L new)*L zs)=B.toList.take (n*a.size)++A:=by
  by_cases ak:n+L new<=c
  ·obtain⟨e,k1,k2,E⟩:=run_append_fits (P:=P) w 0 t ty a.elem i (L zs) p hi ab.symm (β b) n c _ Z ⟨M,off,J⟩ (L new) cx A X (λj u p=>by rw[kT];exact l.2.1 j u p) (λu p=>l.2.2.1 u p) ak
   obtain⟨g,cap,cur,e1,g1,F,g3,N,G,H⟩:=QE k2 (by omega)
   simp only[Value.slice.injEq,bE,Addr.mk.injEq,vm,mn] at e1
   obtain⟨e1,e2⟩:=e1
   subst e1 e2
   exact⟨_,e,β b,c,cur,k1,rfl,E, .inr rfl,F,g3,N,G,H⟩
  ·obtain⟨v',e,k1,k2,E⟩:=run_append_arg_grows (P:=P) w t ty a.elem i z (L zs) i.bytes p hi aD ab.symm rfl (by rw[aL,ab]) C ⟨β b,0,J⟩ n c _ Z.1 (λj u p=>by rw[kT];exact hf.2.1 j u p) ⟨M,off,J⟩ (L new) cx A X (λj u p=>by rw[kT];exact l.2.1 j u p) (by omega) aE aF
   obtain⟨g,cap,cur,rfl,g1,F,g3,N,G,H⟩:=QE k2 (by omega)
   exact⟨_,e,g,cap,cur,k1,rfl,⟨E.os,E.tape,E.output,E.size,λk hk _=>E.block k hk (by simp)⟩, .inl g1,F,g3,N,G,H⟩
 obtain⟨v',e,g,cap,cur,k1,rfl,am,O,F,g3,N,G,H⟩:=aM
 have ao:∀r∈a.aa.take n,L r=L zs:=λr D=>by rw[<-f];exact((s.ok b a o).cl (nZ K o)).rl r (sA D)
 rw[f] at hf
 have S:=hf.aa l ao W
 have au:q=I->∀i j y,db (a.aa.take n++new) i j=V y->eN y=U:=λhq=>alQ (Dh (aa:=a.aa.take n) s K (by simp[gL,o,ax,hq])) (Dh s hx (by rw[<-aXZ,<-hq];exact D))
 have al:∀r∈a.aa.take n++new,L r=a.size:=λr D=>by rw[f];rw[dF] at D;rcases D with h|h;exact ao r h;exact W r h
 have aw:cv P κ e (put (kill Y b) d ⟨a.elem,L zs,a.own,q,a.aa.take n++new⟩) (upd β (lA Y d) g):=by
  refine aIi (x:=a) (x':=⟨a.elem,L zs,a.own,q,a.aa.take n++new⟩) (cap:=cap) (cur:=cur) s o T am O f.symm rfl rfl al au (nZ K o) F (by rw[f];exact G) (by simp;omega) N (λi j y hy=>?_)
  obtain⟨u,u1,u2,u3⟩:=S i j y hy
  rw[f] at H
  rw[<-H,ot] at u1
  split at u1
  ·exact⟨u,by rw[f];simpa using u1,u2,u3⟩
  ·cases u1
 refine⟨_,e,upd β (lA Y d) g,k1,?_,aw,al1 s o T am O⟩
 have:=ba.m1 (κ:=κ) (w:=e) (β:=upd β (lA Y d) g) (n:=n+L new) (cap:=cap) (cur:=cur) (awB (x':=⟨a.elem,L zs,a.own,q,a.aa.take n++new⟩) o T) (by simp;omega) (by rw[gx];exact F) G C
 rw[gx] at this
 exact this
def avw{q:Bool}{t ty:TypeId}{d:Nat}{vs Z:Value}{x y R:AV}{Y':ae}(s:cv P κ w Y β)(k:ba κ w Y β vs x)(N:ba κ w Y β Z y)(h:tV q P Y d t x y=V (R,Y')):∃v F E,(Builtin.append_ #[t,t] ty #[vs,Z]).run P w= .ok v F/\ba κ F Y' E v R/\cv P κ F Y' E/\dw w Y β F Y' E:=by unfold tV at h;cases D:P.underlying t with|none=>simp[D] at h|some S=>(cases S<;>simp only[D] at h<;>first|(cases h;done)|skip);rename_i e;cases o:jF P e with|none=>simp[o] at h|some zs=>cases C:aEx q Y y with|none=>simp[o,C] at h|some new=>simp only[o,C] at h;by_cases H:L new=0;rw[bX H] at h;obtain⟨i,z,hi,ag,ak,ah,_⟩:=tF (κ:=κ) (w:=w) (Y:=Y) (β:=β) o;have X:(sizeOf e).run P w= .ok i.size w:=(by simp[sizeOf,typeInfo,hi]);obtain⟨O,cx,rfl⟩:=aH3 N C H;have f:∀(A:Option Addr) (n c:Nat),n<=c->(Builtin.append_ #[t,t] ty #[.slice A n c, .slice O 0 cx]).run P w= .ok (.slice A n c) w:=(by intro A n c W;cases A<;>cases O<;>simp[Builtin.append_,run_underlying D,X,Builtin.lenOf,W,Builtin.firstCells,loadCells,loadCellsFrom,storeCells]);(cases x with|l aa j own=>simp only[bE,iK] at h;obtain⟨rfl,rfl⟩:=h;obtain⟨A,c,rfl,p,_⟩:=AJ k;exact⟨_,w,β,f A _ c p,k,s,dw.refl _ _ _⟩|m b n=>simp only at h;(cases a:box Y b with|none=>rw[a] at h;cases h|some bx=>rw[a] at h;simp only[df,bE,iK] at h;obtain⟨rfl,rfl⟩:=h;obtain⟨cap,cur,rfl,hn,hh,K⟩:=oR k a;have:=zT s a hh K;exact⟨_,w,β,f _ _ _ (by omega),k,s,dw.refl _ _ _⟩)|_=>simp at h);rw[cj H] at h;by_cases p:0<L zs/\y7 Y d=U/\(∀r∈new,L r=L zs);rw[bX p] at h;obtain⟨B,g,G⟩:=p;(cases x with|l aa j own=>(cases j with|false=>simp at h|true=>simp only at h;split at h;rename_i T;simp only[bE,iK] at h;obtain⟨rfl,rfl⟩:=h;exact avx s k N D o C (by omega) B g G T;cases h)|m b n=>simp only at h;(cases a:box Y b with|none=>rw[a] at h;cases h|some bx=>rw[a] at h;simp only at h;split at h;rename_i u;simp only[bE,iK] at h;obtain⟨rfl,rfl⟩:=h;obtain⟨rfl,M,u⟩:=u;exact avy s k N a D o C (by omega) B g G M u;cases h)|_=>simp at h);rw[cj p] at h;cases h
end
section
variable{P:Program}{κ:rm}{w:World}{Y:ae}{β:Id->Nat}
def CX(w:World)(o:Obj):Below w.heap.size w (w.alloc o):=(Below.refl _ _).alloc (dA _) _
def ak8(w:World)(o:Obj):(w.alloc o).heap[w.heap.size]?=V o:=(MapKept.heap_alloc w o).1
def aop(o:Obj):(newObj o).run P w= .ok w.heap.size (w.alloc o):=rfl
def aD5{t:TypeId}{d:Nat}{e:AV}{Y':ae}(s:cv P κ w Y β)(h:oS t Y d=V (e,Y')):∃v b a,(Instr.makeMap t J).run P w= .ok v b/\ba κ b Y' a v e/\cv P κ b Y' a/\dw w Y β b Y' a:=by unfold oS at h;split at h;rename_i f;simp only[bE,iK] at h;obtain⟨rfl,rfl⟩:=h;have c:=te f;refine⟨.map (V w.heap.size),w.alloc (.map #[] 0),upd β (lA Y d) w.heap.size,?_,?_,?_,?_⟩;simp[Instr.makeMap,aop];exact .g1 (iy c) (.inl ⟨rfl,rfl,by rw[gx]⟩);exact aow s (CX _ _) c (dA _) rfl (.inl ⟨rfl,[],rfl,rfl,by rw[ak8];rfl⟩);exact um s (CX _ _) c (dA _);cases h
def aDt(p:Value×Value):∀(a:List (Value×Value)) (j:Nat),oQ j (a++[p])=oQ j a++[⟨p.1,p.2,j+L a⟩]:=by intro a;induction a with|nil=>intro j;rfl|cons q a b=>intro j;simp only[List.cons_append,oQ,b,bZ];rw[show j+1+L a=j+(L a+1) by omega]
def apL{b:Nat}{o o':Obj}(h:w.heap[b]?=V o):vM w {w with heap:=w.heap.setIfInBounds b o'} b/\(w.heap.setIfInBounds b o')[b]?=V o':=⟨⟨rfl,rfl,rfl,by simp,λi a=>(MapKept.heap_set h).2 i a⟩,(MapKept.heap_set h).1⟩
def aD9{t:TypeId}{D:MT}{E a c:Value}{x k v:AV}{Y':ae}(s:cv P κ w Y β)(K:r9 P t=V D)(R:ba κ w Y β E x)(H:ba κ w Y β a k)(O:ba κ w Y β c v)(h:muA D Y x k v=V Y'):∃n,(Instr.mapUpdate t E a c).run P w= .ok () n/\cv P κ n Y' β/\dw w Y β n Y' β:=by obtain⟨S,e,i,N,T,hz,W,z⟩:=ano K;unfold muA at h;split at h;rename_i b _ _ kv X u;split at h;rename_i Z d;split at h;rename_i l q;split at h;rename_i g;split at h;rename_i G;simp only[bE] at h;subst h;obtain⟨rfl,p⟩:=amp R d;obtain⟨m,y,_,B,j⟩:=alT s d q;obtain⟨rfl,f⟩:=am5 H u;obtain⟨rfl,A⟩:=O.s_inv;have F:∀o,(Instr.checkKey o 10000 S a).run P w= .ok () w:=λo=>alL (t:=t) (e:=e) z g;have r:=KV (w:=w) z g f y G;obtain⟨C,M⟩:=apL (o':= .map (oQ 0 (l++[(a,c)])).toArray (L (l++[(a,c)]))) m;refine⟨_,?_,aoy s d C p rfl rfl (by rw[j];rfl) rfl (.inl ⟨B,l++[(a,c)],rfl,?_,M⟩),KO s d C p rfl rfl (by rw[j];rfl)⟩;simp[Instr.mapUpdate,run_underlying N,MapKept.run_getObj_map m,F,r,MapKept.run_setObj_map _ m,aDt];simp only[aqF,y,Cs,List.all_nil,uK,A,f,ru];(cases h);(cases h);(cases h);(cases h);cases h
def aFk{t:TypeId}{d:Nat}{g:Value}{x f:AV}{Y':ae}(s:cv P κ w Y β)(j:P.underlying t=V .string)(k:ba κ w Y β g x)(h:tu Y d x=V (f,Y')):∃v b a,(Instr.range t g).run P w= .ok v b/\ba κ b Y' a v f/\cv P κ b Y' a/\dw w Y β b Y' a:=by unfold tu at h;split at h;rename_i c;split at h;rename_i i;simp only[bE,iK] at h;obtain⟨rfl,rfl⟩:=h;have e:=te i;obtain⟨rfl,_⟩:=k.s_inv;refine⟨.pointer (V ⟨w.heap.size,0,J⟩),w.alloc (.stringIter c 0),upd β (lA Y d) w.heap.size,?_,?_,?_,?_⟩;simp[Instr.range,run_underlying j,aop];exact .g1 (iy e) (.inr (.inl ⟨rfl,rfl,by rw[gx]⟩));exact aow s (CX _ _) e (dA _) rfl (.inr ⟨rfl,c,0,rfl,by rw[ak8]⟩);exact um s (CX _ _) e (dA _);(cases h);cases h
def aoo{r:Nat}{a:ByteArray}{p:Nat}(b:w.heap[r]?=V (.stringIter a p)):(getObj r).run P w= .ok (.stringIter a p) w:=by simp[getObj,Sem.run,b]
def aIb{r:Nat}{a:ByteArray}{p:Nat}(o:Obj)(b:w.heap[r]?=V (.stringIter a p)):(setObj r o).run P w= .ok () {w with heap:=w.heap.setIfInBounds r o}:=by simp[setObj,Sem.run,b]
def aEz{t:TypeId}{u:Value}{x p:AV}{Y':ae}(s:cv P κ w Y β)(A:ba κ w Y β u x)(h:se Y x=V (p,Y')):∃v m,(Instr.next u U t).run P w= .ok v m/\ba κ m Y' β v p/\cv P κ m Y' β/\dw w Y β m Y' β:=by unfold se at h;split at h;rename_i b _ _;split at h;rename_i y k;split at h;rename_i o;obtain⟨rfl,q⟩:=aBu A k;rcases(s.ok b y k).sp o.1 with⟨a,_⟩|⟨_,f,d,j,l⟩;rw[o.2] at a;cases a;rw[j] at h;simp only[bh] at h;split at h;rename_i g;simp only[bE,iK] at h;obtain⟨rfl,rfl⟩:=h;obtain⟨r,z⟩:=apL (o':= .stringIter f (d+(Utf8.decode f d).2)) l;refine⟨.tuple #[.bool U, .int .i64 d, .int .i32 (Utf8.decode f d).1],_,?_,?_,aoy s k r q rfl rfl (by rw[j];rfl) rfl (.inr ⟨o.2,f,_,rfl,z⟩),KO s k r q rfl rfl (by rw[j];rfl)⟩;simp[Instr.next,aoo l,g,aIb _ l,goInt];refine .t (vs:=[.bool U, .int .i64 d, .int .i32 (Utf8.decode f d).1]) rfl (λi v c a e=>?_);(match i with|0=>simp at a e;subst a;subst e;exact .s rfl|1=>simp at a e;subst a;subst e;exact .s rfl|2=>simp at a e;subst a;subst e;exact .s rfl|n+3=>simp at a);rename_i g;simp only[bE,iK] at h;obtain⟨rfl,rfl⟩:=h;refine⟨.tuple #[.bool I],w,?_,?_,s,dw.refl _ _ _⟩;simp[Instr.next,aoo l,g];refine .t (vs:=[.bool I]) rfl (λi v c a e=>?_);(match i with|0=>simp at a e;subst a;subst e;exact .s rfl|n+1=>simp at a);(cases h);(cases h);cases h
def axm{t:TypeId}{z:Value}(h:xD P t=V z):∃e i,P.underlying t=V (.slice e)/\P.info? e=V i/\i.zero=V z/\i.size=1/\sc z=U:=by unfold xD at h;split at h;rename_i e d;(cases a:P.info? e with|none=>rw[a] at h;cases h|some i=>rw[a] at h;simp only[qd] at h;split at h;rename_i f c b;split at h;(cases h);simp only[fG,a,df,bE] at b;exact⟨e,i,d,a,c,b,‹_›⟩;(cases h);cases h);cases h
def aIe{z:Value}(h:sc z=U):z.cells=#[z]:=by cases z<;>first|rfl|(simp[sc] at h;done)
def aNl(z:Value)(n:Nat):Builtin.zeroCells #[z] n=(er n z).toArray:=by apply Array.ext;simp[Builtin.zeroCells];intro i a b;simp[Builtin.zeroCells,Nat.mod_one]
def axh{t:TypeId}{z vx:Value}{x:AV}{Y':ae}{ty:TypeId}(s:cv P κ w Y β)(ht:xD P t=V z)(hx:ba κ w Y β vx x)(h:pA z Y x=V Y'):∃Z,(Builtin.clear_ #[t] ty #[vx]).run P w= .ok (.tuple #[]) Z/\cv P κ Z Y' β/\dw w Y β Z Y' β:=by obtain⟨e,i,G,hi,hz,ax,F⟩:=axm ht;unfold pA at h;split at h;(cases h);refine⟨w,?_,s,dw.refl _ _ _⟩;(cases hx with|@l0 A c _ _ _=>(cases A<;>simp[Builtin.clear_,run_underlying G])|l1 ho nf hd g hn aw=>simp at hn;omega);rename_i b o n;split at h;rename_i a E;split at h;rename_i l;obtain⟨l,av⟩:=l;(cases h);obtain⟨cap,rfl,hp,au⟩:=Lf hx E;have v:=(s.ok b a E).cl hp;obtain⟨cur,cp,K,X,q3,q4,q5⟩:=v.ex;rw[l] at X;simp only[l,zx] at X q5⊢;have D:=run_storeCells_at P (β b) o a.elem (er n z) 0 cur w K (by simp;omega) (λu G=>by rw[RJ G];exact AF F);simp only[kP,oA] at D;generalize q:(cur.toList.take o++er n z++cur.toList.drop (o+n)).toArray=f at D;have R:∀m,f[m]?=if o<=m/\m<o+n then V z else cur[m]?:=(by intro m;have:=Bn cur.toList (er n z) o m (by simp;omega);rw[oA] at this;rw[<-q,RR,this];split;rename_i p;rw[xg,bX (by omega)];simp);have C:∀m,(a.aa.take o++er n [AV.s z]++a.aa.drop (o+n))[m]?=if o<=m/\m<o+n then V [AV.s z] else a.aa[m]?:=(by intro m;have:=Bn a.aa (er n [AV.s z]) o m (by simp;omega);rw[oA] at this;rw[this];split;rename_i p;rw[xg,bX (by omega)];rfl);have M:f.size=cur.size:=(by rw[<-q];simp;omega);have N:=setRow_heap w (β b) cur f a.elem (0,0) K;have hw:vM w (w.setRow (β b) f) (β b):=⟨rfl,rfl,rfl,aou _ _ _,λk hk=>aot _ _ _ _ hk⟩;have O:L (a.aa.take o++er n [AV.s z]++a.aa.drop (o+n))=L a.aa:=(by simp;omega);refine⟨w.setRow (β b) f,?_,?_,?_⟩;(cases n with|zero=>omega|succ n=>simp[Builtin.clear_,run_underlying G,zeroValue,typeInfo,hi,hz,aIe F,aNl,D]);refine aox (x:=a) (x':=⟨a.elem,1,a.own,a.var,a.aa.take o++er n [.s z]++a.aa.drop (o+n)⟩) s E hw l.symm rfl rfl O (λr T=>?_) ?_ K N M (cap:=cp) (by rw[l,zx];exact X) q3 q4 (λH B y d=>?_);obtain⟨m,p⟩:=aqN T;rw[C] at p;split at p;(cases p;rw[l];rfl);exact v.rl r (fC p);intro W H B y d;unfold db at d;rw[C] at d;split at d;simp only[qd] at d;rw[cE.1 (fC d)];rfl;exact v.dt W H B y d;dsimp only at d;rw[l,zx,R];unfold db at d;rw[C] at d;split at d;rename_i p;simp only[qd] at d;have S:B=0:=(by rcases oD B with h|h;exact h;rw[qi (by simp;omega)] at d;cases d);subst S;simp at d;subst d;rw[bX (by simpa using p)];exact⟨z,rfl,AF F, .s F⟩;rename_i p;have S:B=0:=(by have hl:=zO (size:=a.size) (λr T=>v.rl r T) (i:=H) (j:=B) (x:=y) d;rw[l] at hl;omega);subst S;rw[cj (by simpa using p)];exact q5 H 0 y d;exact KN (x:=a) (x':=⟨a.elem,1,a.own,a.var,a.aa.take o++er n [.s z]++a.aa.drop (o+n)⟩) s E hw l.symm rfl O K N M;(cases h);(cases h);cases h
end
section
variable{P:Program}{κ:rm}{w:World}{Y:ae}{β:Id->Nat}
def alk{zs:List AV}{l i j:Nat}{y:AV}(h:db (er l zs) i j=V y):i<l/\zs[j]?=V y:=by unfold db at h;rw[xg] at h;split at h;exact⟨‹_›,by simpa using h⟩;cases h
def aIM(v:Value):tz (gK (ui v))=ui v:=by unfold ui;split<;>first|rfl|(split<;>rfl)
def aEc{t:TypeId}{zs:List AV}(h:aOy P t=V zs):∃(i:TypeInfo) (z:Value),P.info? t=V i/\i.zero=V z/\z.cells.size=i.size/\L zs=i.size/\CR κ w Y β z.cells.toList (mz zs):=by obtain⟨i,z,b,c,f,g,j⟩:=Rw (κ:=κ) (w:=w) (Y:=Y) (β:=β) h;refine⟨i,z,b,c,f,g,?_⟩;unfold mz;cases m:uj zs with|false=>exact j|true=>show CR κ w Y β z.cells.toList (zs.map tz);unfold aOy at h;cases a:jF P t with|none=>rw[a] at h;cases h|some ys=>rw[a] at h;simp only[df,bE] at h;subst h;obtain⟨n,q,d,e,o,p,l⟩:=tF (κ:=κ) (w:=w) (Y:=Y) (β:=β) a;rw[b] at d;cases d;rw[c] at e;cases e;have:(ys.map gK).map tz=ys:=(by rw[List.map_map];(conv=>rhs;rw[<-zr ys]);refine ja λy k=>?_;unfold jF at a;rw[b] at a;simp only[c] at a;split at a;simp only[bE] at a;subst a;obtain⟨v,_,rfl⟩:=dN.1 k;exact aIM v;cases a);rw[this];exact l
def bdQ{B:Operand->Value}{E:Operand->AV}(s:cv P κ w Y β)(S:∀x,ba κ w Y β (B x) (E x)){t:TypeId}{len d:Nat}{a:List (Nat×Operand)}{C:AV}{Y':ae}(h:lvA P Y d t len (a.map λp=>(p.1,E p.2))=V (C,Y')):
  ∃v o l,(Instr.buildSlice t len (a.map λp=>(p.1,B p.2)).toArray).run P w= .ok v o/\ba κ o Y' l v C/\cv P κ o Y' l/\dw w Y β o Y' l:=by
 unfold lvA at h
 split at h
 ·rename_i e x hu Z
  split at h
  ·rename_i cs zs T K
   split at h
   ·rename_i X
    simp only[bE,iK] at h
    obtain⟨rfl,rfl⟩:=h
    obtain⟨rfl,q,g,ac,m⟩:=X
    have f:=te m
    obtain⟨i,z,M,N,G,k,O⟩:=Rw (κ:=κ) (w:=w) (Y:=Y) (β:=β) K
    have W:gp (λi=>V (i*L zs,L zs)) ((er 1 zs).flatten) (a.map λp=>(p.1,E p.2))=V cs:=by
     rw[Z]
     simp[gp,T,q]
    obtain⟨vs,R,b⟩:=aTa S a _ _ _ (O.rep 1) W
    have u:L z.cells.toList=i.size:=by simpa using G
    have c:Below w.heap.size w (w.alloc (.cells vs.toArray e)):=(Below.refl _ _).alloc (dA _) _
    have hr:=run_buildSlice (P:=P) w t e 1 (a.map λp=>(p.1,B p.2)).toArray vs.toArray i z hu M N (by rw[<-k];omega) (by rw[<-k];omega) (by
     rw[<-u,show z.cells=z.cells.toList.toArray by simp,an4,u]
     simpa[k] using R)
    have D:=heap_alloc_new w (.cells vs.toArray e)
    refine⟨_,_,upd β (lA Y d) w.heap.size,hr,?_,?_,um s c f (dA _)⟩
    ·have:=ba.m1 (κ:=κ) (w:=w.alloc (.cells vs.toArray e)) (β:=upd β (lA Y d) w.heap.size) (n:=1) (cap:=1) (cur:=vs.toArray) (iy (Y:=Y) (x:=⟨e,L zs,U,U,[cs]⟩) f) (by simp) (by rw[gx];exact D) (by have:=b.1;simp;omega) g
     rw[gx] at this
     exact this
    ·refine Et (cap:=1) (cur:=vs.toArray) s c f (dA _) g (aB5 K) (by simp[q]) (λh=>by cases h) D (by have:=b.1;simp;omega) (by simp) (by decide) (λi j y H=>?_)
     have F:i=0:=by
      cases i with
      |zero=>rfl
      |succ i=>simp[db] at H
     subst F
     have r:cs[j]?=V y:=by simpa[db] using H
     have A:j<L vs:=by rw[b.1];exact(mg.1 r).1
     exact⟨vs[j],by simp[A],b.2.1 _ (qj A),b.2.2 j _ _ (eC A) r⟩
   ·cases h
  ·cases h
 ·cases h
def aDZ{t:TypeId}{d:Nat}{l c:Int}{kl kc:IntKind}{S:AV}{Y':ae}(s:cv P κ w Y β)(h:wA P Y d t l c=V (S,Y')):
  ∃v F C,(Instr.makeSlice t (.int kl l) (.int kc c)).run P w= .ok v F/\ba κ F Y' C v S/\cv P κ F Y' C/\dw w Y β F Y' C:=by
 unfold wA at h
 split at h
 ·rename_i e hu
  split at h
  ·rename_i zs hz
   split at h
   ·rename_i hc
    simp only[bE,iK] at h
    obtain⟨rfl,rfl⟩:=h
    obtain⟨aa,ab,q,af,D,g⟩:=hc
    have o:=te D
    obtain⟨i,z,X,Z,B,N,G⟩:=aEc (κ:=κ) (w:=w) (Y:=Y) (β:=β) hz
    have W:mZ P e=i.bytes:=by simp[mZ,X]
    rw[W] at g
    obtain⟨f,rfl⟩:=Int.eq_ofNat_of_zero_le (show 0<=c by omega)
    have u:f*(i.bytes+1)<=lx:=by
     have:((f*(i.bytes+1):Nat):Int)<=(lx:Int):=by
      rw[RE,Int.natCast_add];exact g
     omega
    obtain⟨K,ak⟩:=QY u
    have E:=run_make (P:=P) w t e i z hu X Z kl kc l f aa ab (by
     have:((i.bytes*f:Nat):Int)<=281474976710656:=by rw[vD];omega
     rw[RE] at this;exact this) (by simp only[maxLen] at K;omega)
    have k:Below w.heap.size w (w.alloc (.cells (madeCells z.cells (f*i.size)) e)):=(Below.refl _ _).alloc (dA _) _
    have m:madeCells z.cells (f*i.size)=(er f z.cells.toList).flatten.toArray:=by
     have:=an4 z.cells.toList f
     simp only[Rz,B,Array.toArray_toList] at this
     unfold madeCells
     rw[<-this,B]
    have p:=heap_alloc_new w (.cells (madeCells z.cells (f*i.size)) e)
    simp only[bh] at E
    have M:(madeCells z.cells (f*i.size)).size=f*L zs:=by rw[size_madeCells,N]
    refine⟨_,_,upd β (lA Y d) w.heap.size,E,?_,?_,um s k o (dA _)⟩
    ·have:=ba.m1 (κ:=κ) (w:=w.alloc (.cells (madeCells z.cells (f*i.size)) e)) (β:=upd β (lA Y d) w.heap.size) (n:=l.toNat) (cap:=f) (iy (Y:=Y) (x:=⟨e,L zs,U,uj zs,er l.toNat (mz zs)⟩) o) (by simp) (by rw[gx];exact p) M q
     rw[gx] at this
     exact this
    ·refine Et (cap:=f) s k o (dA _) q (aB5 hz) (λr E=>by rw[RJ E,anv]) (λA a b y R=>by have j:=(alk R).2;simp only at A;simp only[mz,A,aIc] at j;exact dV.1 af y (fC j)) p M (by simp;omega) K (λa b y R=>?_)
     obtain⟨h1,j⟩:=alk R
     have T:=(mg.1 j).1
     rw[anv] at T
     have H:L z.cells.toList=L zs:=by simp[B,N]
     have ac:a*L zs+b<f*L z.cells.toList:=by
      rw[H]
      have:=qo (L zs) (show a+1<=f by omega)
      rw[tN] at this;omega
     have O:(a*L zs+b)%L z.cells.toList=b:=by rw[H,vD,aq9,aYD T]
     have A:z.cells.toList[b]?=V (z.cells.toList[b]'(by omega)):=eC _
     refine⟨z.cells.toList[b]'(by omega),?_,G.2.1 _ (qj _),G.2.2 b _ y A j⟩
     rw[m,RR,aoe _ _ _ ac,O,A]
   ·cases h
  ·cases h
 ·cases h
def am7{b:Id}{x:bY}(s:cv P κ w Y β)(d:box Y b=V x):dw w Y β w (kill Y b) β:=
 ⟨rfl,rfl,rfl,dA _,λ_ _ _=>rfl,λc a=>amu d a,λc y a=>by
  by_cases e:c=b
  ·subst e;exact .inl (amv d)
  ·exact .inr ⟨y,Qc d a e,rfl,rfl,rfl,rfl,λcur f=>⟨cur,f,rfl⟩⟩,λc y a=> .inr ⟨c,y,(xz d a).2,rfl⟩⟩
def aCS{b:Id}{x:bY}(s:cv P κ w Y β)(a:box Y b=V x):cv P κ w (kill Y b) β:=⟨λc y e=>(s.ok c y (xz a e).2).ext (am7 s a) rfl rfl,λc d y z e f g=>s.inj c d y z (xz a e).2 (xz a f).2 g,s.old,s.base⟩
def D1:∀(l:List Id) {Y:ae},cv P κ w Y β->dw w Y β w (kills Y l) β/\cv P κ w (kills Y l) β/\∀c y,box (kills Y l) c=V y->box Y c=V y/\c∉l:=by intro l;induction l with|nil=>intro Y s;exact⟨dw.refl _ _ _,s,λc y h=>⟨h,by simp⟩⟩|cons b l n=>intro Y s;cases d:box Y b with|none=>have e:kills Y (b::l)=kills Y l:=(by simp[kills,d]);rw[e];obtain⟨g,i,j⟩:=n s;refine⟨g,i,λc y m=>?_⟩;obtain⟨f,k⟩:=j c y m;refine⟨f,λa=>?_⟩;rcases eW.1 a with rfl|a;rw[d] at f;cases f;exact k a|some x=>have e:kills Y (b::l)=kills (kill Y b) l:=(by simp[kills,d]);rw[e];obtain⟨g,i,j⟩:=n (aCS s d);refine⟨(am7 s d).trans g,i,λc y m=>?_⟩;obtain⟨f,k⟩:=j c y m;obtain⟨o,p⟩:=xz d f;exact⟨p,λa=>by rcases eW.1 a with h|a;exact o h;exact k a⟩
def Di{v:Value}{x:AV}{l:List Id}(s:cv P κ w Y β)(h:ba κ w Y β v x)(N:∀b∈iR x,b∈l):ba κ w (kills Y l) β v (gi Y x):=by obtain⟨e,s',M⟩:=D1 l s;cases x with|m b n=>simp only[gi];(cases f:box Y b with|none=>exact h.ext e|some d=>simp only;rcases sq d.var with a|a;rw[cj (by rw[a];simp)];exact h.ext e;rw[bX a];obtain⟨cap,cur,rfl,B,z,t⟩:=oR h f;have o:=s.ok b d f;have R:=zT s f z t;by_cases E:n=0;subst E;rw[CE];exact .l0 (λh=>by cases h);obtain⟨D,C,vs,S,_,_,_,_,k⟩:=KY s f (nZ h f) B;have A:=s.lt f;refine .l1 (size:=d.size) o.ow o.nf (Dh (aa:=d.aa.take n) s h (by simp[gL,f,a])) (λi j=>vs.getD (i*d.size+j) (.bool I)) (by rw[gC,rD B]) (by omega) (by omega) (λh=>by cases h) A (λc y H K=>?_) (λr O=>(o.cells z).rl r (sA O)) (λi j y p=>?_) (λi j y p=>?_) (λi j y p=>?_);obtain⟨F,G⟩:=M c y H;exact G (by rw[s.inj c b y d F f K];exact N b (by simp[iR]));obtain⟨u,g,q⟩:=k.2.2.2 i j y p;have:=k.2.1 _ u g;rw[show 0+i*d.size+j=0+(i*d.size+j) by omega,this];simp[g];obtain⟨u,g,q⟩:=k.2.2.2 i j y p;simp only[eI,g,mi];exact q.ext e;obtain⟨u,g,q⟩:=k.2.2.2 i j y p;simp only[eI,g,mi];exact k.2.2.1 u (fC g))|_=>exact h.ext e
def xK{v:Value}{x:AV}{l:List Id}(s:cv P κ w Y β)(h:ba κ w Y β v x)(g:∀b∈eB x,b∈l):ba κ w (kills Y l) β v (eR Y x):=by cases x with|a cs=>simp only[eR];(cases h with|a f k m=>refine .a (by simp[f]) k (λi v c n d=>?_);rw[ve] at d;cases e:cs[i]? with|none=>rw[e] at d;cases d|some y=>rw[e] at d;simp only[df,bE] at d;subst d;exact Di s (m i v y n e) (λb j=>g b (by simp only[eB,iI];exact⟨y,fC e,j⟩)))|_=>exact Di s h g
def anp{b:Operand->Value}(a:Array (Nat×Operand)):(a.map λ(i,x)=>(i,b x))=(a.toList.map λp=>(p.1,b p.2)).toArray:=by rw[<-qb];simp
def axL{H:Operand->Value}{E:Operand->AV}{o:Oper}{d:Nat}{X:AV}{Y':ae}(s:cv P κ w Y β)(y:∀x,ba κ w Y β (H x) (E x))(h:eA P E Y d o.op=V (X,Y')):ard P κ w Y β H o X Y':=by obtain⟨ax,op,ty,aA,af,gd⟩:=o;dsimp only at h;unfold eA at h;split at h;rename_i e;split at h;rename_i zs G;split at h;rename_i F;simp only[bE,iK] at h;obtain⟨rfl,rfl⟩:=h;obtain⟨i,z,hi,ac,az,ay,ab⟩:=tF (w:=w) (Y:=Y) (β:=β) G;obtain⟨n,g,f,j⟩:=alw (e:=e) s F.2 ab F.1 (amG G);refine⟨.value _,_,_,n,?_, .inl rfl,g,f,j⟩;simp[execOp,Instr.alloc,zeroValue,typeInfo,hi,ac,newVar,newRow];(cases h);(cases h);rename_i e x;split at h;rename_i cs z F G;split at h;rename_i hh;simp only[bE,iK] at h;obtain⟨rfl,rfl⟩:=h;obtain⟨rfl,h0,hf⟩:=hh;obtain⟨n,g,f,j⟩:=alw (e:=e) s hf (Ku (y x) F) h0 G;refine⟨.value _,_,_,n,?_, .inl rfl,g,f,j⟩;simp[execOp,Instr.box,newVar,newRow];(cases h);(cases h);rename_i t q;(cases B:vS P t (q.toList.map λp=>(p.1,E p.2)) with|none=>rw[B] at h;cases h|some cs=>rw[B] at h;simp only[df,bE,iK] at h;obtain⟨rfl,rfl⟩:=h;obtain⟨vs,g,f⟩:=awJ y B;refine⟨.value (.agg vs.toArray),_,w,β,?_, .inl rfl, .a f.1 f.2.1 f.2.2,s,dw.refl _ _ _⟩;have:=run_build (P:=P) w t (q.map λ(i,x)=>(i,H x)) vs.toArray (by rw[anp];exact g);simp[execOp,this]);rename_i t len q;split at h;obtain⟨v,m,n,g,f,j,C⟩:=bdQ s y h;refine⟨.value v,v,m,n,?_, .inl rfl,f,j,C⟩;simp only[execOp,anp,Sem.run_bind,g,Result.andThen_ok,Sem.run_pure];(cases B:xB P t len (q.toList.map λp=>(p.1,nrm (eR Y (E p.2)))) with|none=>rw[B] at h;cases h|some aa=>rw[B] at h;simp only[df,bE,iK] at h;obtain⟨rfl,rfl⟩:=h;generalize R:(q.toList.flatMap λp=>eB (E p.2))=ids;obtain⟨e,s',_⟩:=D1 ids s;have Z:∀x,ba κ w (kills Y ids) β (H x) (if((eB (E x)).all λb=>ids.contains b)=U then nrm (eR Y (E x)) else .u):=λx=>(by split;rename_i S;refine yo (xK s (y x) (λb B=>by have:=dV.1 S b B;simpa using this));exact .u);have T:(q.toList.map λp=>(p.1,nrm (eR Y (E p.2))))=q.toList.map λp=>(p.1,if((eB (E p.2)).all λb=>ids.contains b)=U then nrm (eR Y (E p.2)) else .u):=(by apply ja;intro p hp;rw[bX (dV.2 λb B=>by rw[<-R,aYv];exact iI.2 ⟨p,hp,B⟩)]);rw[T] at B;obtain⟨v,m,g,f,j⟩:=awI s' Z B;refine⟨.value v,_,m,β,?_, .inl rfl,j,Es s' f,e.trans (xJ s' f)⟩;simp only[execOp,anp,Sem.run_bind,g,Result.andThen_ok,Sem.run_pure]);rename_i t l c;split at h;rename_i kl l' kc c' hl F;have k1:=y l;have k2:=y c;rw[hl] at k1;rw[F] at k2;obtain⟨v,m,n,g,f,j,C⟩:=aDZ (kl:=kl) (kc:=kc) s h;exact⟨.value v,v,m,n,by simp[execOp,k1.s_inv.1,k2.s_inv.1,g], .inl rfl,f,j,C⟩;(cases h);rename_i t x v;split at h;(cases A:ra P Y t (E x) (E v) with|none=>rw[A] at h;cases h|some K=>rw[A] at h;simp only[df,bE,iK] at h;obtain⟨rfl,rfl⟩:=h;obtain⟨m,g,f,j⟩:=aoK s (y x) (y v) A;exact⟨.skip,undef,m,β,by simp[execOp,g], .inr ⟨rfl,rfl⟩, .t (vs:=[]) rfl (λi v c h=>by simp at h),f,j⟩);(cases A:ra P (kills Y (eB (E v))) t (E x) (nrm (eR Y (E v))) with|none=>rw[A] at h;cases h|some K=>rw[A] at h;simp only[df,bE,iK] at h;obtain⟨rfl,rfl⟩:=h;obtain⟨e,s',_⟩:=D1 (eB (E v)) s;obtain⟨m,g,f,j⟩:=aoK s' ((y x).ext e) (yo (xK s (y v) (λb B=>B))) A;exact⟨.skip,undef,m,β,by simp[execOp,g], .inr ⟨rfl,rfl⟩, .t (vs:=[]) rfl (λi v c h=>by simp at h),f,e.trans j⟩);rename_i c;split at h;rename_i D;split at h;rename_i sx x t t' O W;split at h;rename_i ag;subst ag;obtain⟨v,m,n,g,f,j,C⟩:=avw (ty:=ty) s (y sx) (y x) h;refine⟨.value v,v,m,n,?_, .inl rfl,f,j,C⟩;have M:c.args=#[sx,x]:=(by rw[<-qb];exact O);have N:c.argTypes=#[t,t]:=(by rw[<-qb];exact W);simp only[execOp,resolve,D,invoke,builtin,Sem.run_bind,Sem.run_pure,Result.andThen_ok,M,N,aqV,ji,mU,g];(cases h);(cases h);rename_i D;split at h;rename_i x t O W;split at h;rename_i z G;(cases A:pA z Y (E x) with|none=>rw[A] at h;cases h|some K=>rw[A] at h;simp only[df,bE,iK] at h;obtain⟨rfl,rfl⟩:=h;obtain⟨m,g,f,j⟩:=axh (ty:=ty) s G (y x) A;refine⟨.value (.tuple #[]),_,m,β,?_, .inl rfl, .t (vs:=[]) rfl (λi v c h=>by simp at h),f,j⟩;have M:c.args=#[x]:=(by rw[<-qb];exact O);have N:c.argTypes=#[t]:=(by rw[<-qb];exact W);simp only[execOp,resolve,D,invoke,builtin,Sem.run_bind,Sem.run_pure,Result.andThen_ok,M,N,aqV,ji,mU,g]);(cases h);(cases h);(cases h);rename_i t r;split at h;obtain⟨v,m,n,g,f,j,C⟩:=aD5 s h;exact⟨.value v,v,m,n,by simp[execOp,g], .inl rfl,f,j,C⟩;(cases h);rename_i t x k v;split at h;rename_i mt S;(cases A:muA mt Y (E x) (E k) (E v) with|none=>rw[A] at h;cases h|some K=>rw[A] at h;simp only[df,bE,iK] at h;obtain⟨rfl,rfl⟩:=h;obtain⟨m,g,f,j⟩:=aD9 s S (y x) (y k) (y v) A;exact⟨.skip,undef,m,β,by simp[execOp,g], .inr ⟨rfl,rfl⟩, .t (vs:=[]) rfl (λi v c h=>by simp at h),f,j⟩);(cases h);rename_i t x;split at h;rename_i hu;obtain⟨v,m,n,g,f,j,C⟩:=aFk s hu (y x) h;exact⟨.value v,v,m,n,by simp[execOp,g], .inl rfl,f,j,C⟩;(cases h);rename_i x st;split at h;rename_i ad;subst ad;obtain⟨v,m,g,f,j,C⟩:=aEz (t:=ty) s (y x) h;exact⟨.value v,v,m,β,by simp[execOp,g], .inl rfl,f,j,C⟩;(cases h);cases h
end
def nj:AV->Bool| .s _=>U| .l _ _ _=>U|_=>I
def iX:AV->Bool| .a cs=>cs.all eN|x=>eN x
def pF:AV->Bool| .a cs=>cs.all nj|x=>nj x
def kG:AV->Bool| .t vs=>vs.all pF|x=>pF x
def gY:AV->Bool| .s _=>U|_=>I
def wD:AV->Bool| .s _=>U| .l aa _ own=>own&&aa.all (λr=>r.all gY)|_=>I
def yv:AV->Bool| .a cs=>cs.all wD|x=>wD x
def uN:AV->Bool| .t vs=>vs.all yv|x=>yv x
def dG(Y:ae)(x:AV):AV:=nrm (eR Y x)
def nA(Y:ae)(xs:List AV):Bool:=xs.any λx=>(eB x).any λb=>(box Y b).isSome
def β0:Id->Nat:=λ_=>0
def md(G:nn)(κ:rm)(w:World)(Y:ae)(β:Id->Nat):Prop:=∀g cs,G g=V cs->cs.all eN=U/\ba κ w Y β (.pointer (V ⟨g,0,J⟩)) (.q cs)
def tJ(P:Program)(fn:FuncId):Prop:=∃f c,P.funcs[fn]?=V f/\f.body=V c/\(f.name== "runtime.NumGoroutine")=I
def js(κ:rm)(w:World)(Y:ae)(β:Id->Nat)(vs:List Value)(xs:List AV):Prop:=L vs=L xs/\∀(i:Nat) v x,vs[i]?=V v->xs[i]?=V x->ba κ w Y β v x
def zm(P:Program)(G:nn)(fn:FuncId)(ys:List AV)(R:AV->Prop):Prop:=tJ P fn/\∀(F:Nat->Prop) (w:World) (a:List Value),(∀k,F k->k<w.heap.size)->md G ⟨F,w.heap.size⟩ w [] β0->js ⟨F,w.heap.size⟩ w [] β0 a ys->Calls P fn a.toArray w λe w'=>∃v r,e= .returned v/\R r/\ba ⟨F,w.heap.size⟩ w' [] β0 v r/\Below w.heap.size w w'
section
variable{P:Program}{G:nn}{κ κ':rm}{w w':World}{Y Y':ae}{β β':Id->Nat}
def nN(κ:rm)(Y:ae)(β:Id->Nat)(κ':rm)(Y':ae)(β':Id->Nat):Prop:=∀k,¬κ.F k->(∀b y,box Y b=V y->β b≠k)->¬κ'.F k/\∀b y,box Y' b=V y->β' b≠k
def ba.conv{v:Value}{x:AV}(h:ba κ w Y β v x)(b:eN x=U)(z:nN κ Y β κ' Y' β'):ba κ' w Y' β' v x:=by induction h with|s h=>exact .s h|l0 e=>exact .l0 e|@l1 f off n c size aa o own D C a g y k d e r B l t E u A=>obtain⟨p,q⟩:=z f C B;simp only[eN,bN,eH] at b;refine .l1 (λh=>?_) p a g y k d e r q l t (λi j x m=>A i j x m (a i j x m)) u;rw[b.2] at h;cases h|_=>simp[eN] at b
def ba.conv1{v:Value}{x:AV}(h:ba κ w Y β v x)(y:nj x=U)(l:nN κ Y β κ' Y' β')(t:κ'.base<=κ.base):ba κ' w Y' β' v x:=by cases h with|s h=>exact .s h|l0 d=>exact .l0 d|@l1 e off n c size aa p own B E a g A k b d f D m u C z=>obtain⟨q,r⟩:=l e E D;exact .l1 (λh=>gl t (B h)) q a g A k b d f r m u (λi j x o=>(C i j x o).conv (a i j x o) l) z|_=>simp[nj] at y
def ba.convR{v:Value}{x:AV}(h:ba κ w Y β v x)(d:pF x=U)(f:nN κ Y β κ' Y' β')(e:κ'.base<=κ.base):ba κ' w Y' β' v x:=by cases x with|a cs=>simp only[pF] at d;(cases h with|a j g k=>exact .a j g (λi v c l b=>(k i v c l b).conv1 (dV.1 d c (fC b)) f e))|_=>exact h.conv1 d f e
def ba.convT{v:Value}{x:AV}(h:ba κ w Y β v x)(b:kG x=U)(e:nN κ Y β κ' Y' β')(d:κ'.base<=κ.base):ba κ' w Y' β' v x:=by cases x with|t cs=>simp only[kG] at b;(cases h with|t f g=>exact .t f (λi v c j a=>(g i v c j a).convR (dV.1 b c (fC a)) e d))|_=>exact h.convR b e d
def ba.convA{v:Value}{x:AV}(h:ba κ w Y β v x)(d:iX x=U)(e:nN κ Y β κ' Y' β'):ba κ' w Y' β' v x:=by cases x with|a cs=>simp only[iX] at d;(cases h with|a g f j=>exact .a g f (λi v c k b=>(j i v c k b).conv (dV.1 d c (fC b)) e))|_=>exact h.conv d e
def md.conv(h:md G κ w Y β)(b:nN κ Y β κ' Y' β'):md G κ' w Y' β':=by intro g cs m;obtain⟨a,e⟩:=h g cs m;refine⟨a,?_⟩;cases e with|q r d k p l o n=>obtain⟨f,i⟩:=b g r p;exact .q f d k i l (λj x c=>(o j x c).conv (dV.1 a x (fC c)) b) n
def md.ext(h:md G κ w Y β)(e:dw w Y β w' Y' β'):md G κ w' Y' β':=λg cs a=>⟨(h g cs a).1,(h g cs a).2.ext e⟩
def ba.young1{v:Value}{x:AV}(h:ba κ w Y β v x)(e:wD x=U)(K:∀k,κ.base<=k->¬κ'.F k/\∀b y,box Y' b=V y->β' b≠k)(M:κ'.base<=κ.base):ba κ' w Y' β' v x:=by cases h with|s h=>exact .s h|l0 l=>exact .l0 l|@l1 m off n c size aa A own t W p g R q f l o T u N S O=>simp only[wD,bN] at e;obtain⟨B,C⟩:=K m (t e.1);refine .l1 (λh=>gl M (t h)) B p g R q f l o C u N (λi j x a=>?_) O;have z:gY x=U:=(by unfold db at a;cases d:aa[i]? with|none=>rw[d] at a;cases a|some r=>rw[d] at a;simp only[qd] at a;exact dV.1 (dV.1 e.2 r (fC d)) x (fC a));have D:=S i j x a;(cases x<;>first|(simp[gY] at z;done)|skip);obtain⟨E,H⟩:=D.s_inv;rw[E];exact .s H|_=>simp[wD] at e
def ba.youngT{v:Value}{x:AV}(h:ba κ w Y β v x)(e:uN x=U)(l:∀k,κ.base<=k->¬κ'.F k/\∀b y,box Y' b=V y->β' b≠k)(n:κ'.base<=κ.base):ba κ' w Y' β' v x:=by have m:∀v x,ba κ w Y β v x->yv x=U->ba κ' w Y' β' v x:=λv x h e=>(by cases x with|a cs=>simp only[yv] at e;(cases h with|a f o g=>exact .a f o (λi v c j d=>(g i v c j d).young1 (dV.1 e c (fC d)) l n))|_=>exact h.young1 e l n);cases x with|t cs=>simp only[uN] at e;(cases h with|t f g=>exact .t f (λi v c j d=>m v c (g i v c j d) (dV.1 e c (fC d))))|_=>exact m v _ h e
def amg{x:AV}(h:∀b∈iR x,box Y b=J):gi Y x=x:=by cases x with|m b n=>simp[gi,h b (by simp[iR])]|_=>rfl
def aBj{x:AV}(h:∀b∈eB x,box Y b=J):eR Y x=x:=by cases x with|a cs=>simp only[eR];congr 1;(conv=>rhs;rw[<-zr cs]);apply ja;intro c e;exact amg (λb d=>h b (by simp only[eB,iI];exact⟨c,e,d⟩))|m b n=>exact amg (x:= .m b n) h|_=>rfl
def sK(b:Id):box [] b=J:=by simp[box,aZ]
def axb{fn:FuncId}{n:List Value}{xs:List AV}{R:AV->Prop}(s:cv P κ w Y β)(M:md G κ w Y β)(q:js κ w Y β n xs)(f:zm P G fn (xs.map (dG Y)) R)
  (S:(xs.map (dG Y)).all iX=U)(O:∀r,R r->kG r=U/\(nA Y xs=I\/uN r=U)):
  Calls P fn n.toArray w λe w'=>∃v r,e= .returned v/\R r/\ba κ w' Y β v r/\Below w.heap.size w w':=by
 have E:∀i x,xs[i]?=V x->iX (dG Y x)=U:=λi x q=>dV.1 S _ (dN.2 ⟨x,fC q,rfl⟩)
 have D:∀(i:Nat) y,(xs.map (dG Y))[i]?=V y->∃x,xs[i]?=V x/\y=dG Y x:=λi y g=>by
  rw[ve] at g
  cases h:xs[i]? with
  |none=>rw[h] at g;cases g
  |some x=>rw[h] at g;simp only[df,bE] at g;exact⟨x,rfl,g.symm⟩
 by_cases d:nA Y xs=I
 ·
  have N:∀i x,xs[i]?=V x->∀b∈eB x,box Y b=J:=λi x q b a=>by
   unfold nA at d
   rw[Gy] at d
   have:=d x (fC q)
   rw[Bool.not_eq_true,Gy] at this
   have:=this b a
   simpa using this
  let H:Nat->Prop:=λk=>κ.F k\/∃b x,box Y b=V x/\β b=k
  have B:∀k,H k->k<w.heap.size:=λk p=>by
   rcases p with p|⟨b,x,a,rfl⟩
   ·exact s.old k p
   ·exact s.lt a
  have m:nN κ Y β ⟨H,w.heap.size⟩ [] β0:=λk c o=>⟨λh=>by
   rcases h with h|⟨b,x,a,t⟩
   ·exact c h
   ·exact o b x a t,λb y a=>by rw[sK] at a;cases a⟩
  refine(f.2 H w n B (M.conv m) ⟨by simp[q.1],λi v y u g=>?_⟩).mono ?_
  ·obtain⟨x,j,rfl⟩:=D i y g
   have c:=q.2 i v x u j
   have o:=E i x j
   unfold dG at o⊢
   rw[aBj (N i x j)] at o⊢
   exact(yo c).convA o m
  ·rintro e w' ⟨v,r,t,z,u,a⟩
   refine⟨v,r,t,z,?_,a⟩
   refine u.convT (O r z).1 (λk c o=>⟨λh=>c (.inl h),λb y A t=>c (.inr ⟨b,y,A,t⟩)⟩) s.base
 ·have K:∀r,R r->uN r=U:=λr h=>(O r h).2.resolve_left d
  have B:∀k,κ.F k->k<w.heap.size:=λk p=>s.old k p
  have m:∀l,nN κ (kills Y l) β ⟨κ.F,w.heap.size⟩ [] β0:=λl k c o=>⟨c,λb y a=>by rw[sK] at a;cases a⟩
  have C:nN κ Y β ⟨κ.F,w.heap.size⟩ [] β0:=λk c o=>⟨c,λb y a=>by rw[sK] at a;cases a⟩
  refine(f.2 κ.F w n B (M.conv C) ⟨by simp[q.1],λi v y u g=>?_⟩).mono ?_
  ·obtain⟨x,j,rfl⟩:=D i y g
   have c:=q.2 i v x u j
   exact(yo (xK (l:=eB x) s c (λb a=>a))).convA (E i x j) (m _)
  ·rintro e w' ⟨v,r,t,z,u,a⟩
   refine⟨v,r,t,z,?_,a⟩
   refine u.youngT (K r z) (λk p=>⟨λh=>by have:=B k h;simp only at p;omega,λb y A T=>by have:=s.lt A;simp only at p;omega⟩) s.base
end
def cZ(P:Program)(G:nn)(fn:FuncId)(ys:List AV)(Y0:ae)(r:AV)(Y1:ae):Prop:=tJ P fn/\∀(κ:rm) (w:World) (β:Id->Nat) (a:List Value),cv P κ w Y0 β->md G κ w Y0 β->js κ w Y0 β a ys->Calls P fn a.toArray w λe w'=>∃v β',e= .returned v/\ba κ w' Y1 β' v r/\cv P κ w' Y1 β'/\dw w Y0 β w' Y1 β'
structure Kp(Y Y':ae):Prop where
 len:L Y'=L Y
 lB:∀k,(aZ Y k).lB<=(aZ Y' k).lB
 keep:∀b x,box Y b=V x->box Y' b=V x
def Kp.refl(Y:ae):Kp Y Y:=⟨rfl,λ_=>dA _,λ_ _ h=>h⟩
def Kp.trans{Y Y' a:ae}(h:Kp Y Y')(c:Kp Y' a):Kp Y a:=⟨c.len.trans h.len,λk=>gl (h.lB k) (c.lB k),λb x d=>c.keep b x (h.keep b x d)⟩
def am8{Y:ae}{d:Nat}{x:bY}(a:d<L Y):Kp Y (put Y d x):=by refine⟨Bf _ _,λk=>?_,λb y c=>uA a c⟩;by_cases h:k=d;subst h;rw[put,iD a];simp only;omega;rw[put,jQ h];exact dA _
def ba.shrink{κ az:rm}{w w0:World}{Y Y1:ae}{β β0:Id->Nat}(K:Kp Y Y1){v:Value}{x:AV}(h:ba κ w Y1 β v x):∀{r:Value},ba az w0 Y β0 r x->ba κ w Y β v x:=by have nb:∀{W:Nat},(∀b x,box Y1 b=V x->β b≠W)->∀b x,box Y b=V x->β b≠W:=λR b x D=>R b x (K.keep b x D);have Z:∀{b:Id},jO Y1 b=U->(∀x,box Y b≠V x):=λhg x D=>qD hg (K.keep _ _ D);have G:∀{vs:List Value} {cs:List AV} {i:Nat} {c:AV},L vs=L cs->cs[i]?=V c->∃v,vs[i]?=V v:=λ{vs cs i c} H E=>(by obtain⟨h1,_⟩:=mg.1 E;exact⟨vs[i]'(by omega),eC (by omega)⟩);induction h with|s h=>intro r _;exact .s h|u=>intro r _;exact .u|a H E h B=>intro r m;(cases m with|a C X y=>refine .a H E λi v c p e=>?_;obtain⟨F,z⟩:=G C e;exact B i v c p e (y i F c z e))|t H h B=>intro r m;(cases m with|t C y=>refine .t H λi v c p e=>?_;obtain⟨F,z⟩:=G C e;exact B i v c p e (y i F c z e))|l0 ht=>intro r _;exact .l0 ht|l1 ho nf hd g T aq ac ht D R hs E hr M B=>intro r m;(cases m with|l0 au=>simp at T;omega|l1 aL ay aJ g0 aK aE aA au al ax aM X y an=>exact .l1 ho nf hd g T aq ac ht D (nb R) hs E (λi j x N=>B i j x N (y i j x N)) M)|@p1 b i j o x h hz ho=>intro r m;(cases m with|p1 d O ar=>have:=K.keep _ _ d;rw[h] at this;cases this;exact .p1 d hz ho|p0 d A=>exact .p0 d rfl)|p0 h p=>intro r m;(cases m with|p1 d O ar=>exact nl d (Z h _)|p0 d A=>exact .p0 d p)|q nf g D R E hr M B=>intro r m;(cases m with|q ay g0 al ax X y an=>exact .q nf g D (nb R) E (λj x N=>B j x N (y j x N)) M)|@m1 b n cap x cur h T hh aa hz=>intro r m;(cases m with|m1 d ap am S O=>have:=K.keep _ _ d;rw[h] at this;cases this;exact .m1 d T hh aa hz|m0 d A=>exact .m0 d rfl)|m0 h p=>intro r m;(cases m with|m1 d ap am S O=>exact nl d (Z h _)|m0 d A=>exact .m0 d p)|@g1 v b k o n x h p=>intro r m;(cases m with|g1 d A=>have:=K.keep _ _ d;rw[h] at this;cases this;exact .g1 d p|g0 d A=>exact .g0 d p.cell)|g0 h p=>intro r m;(cases m with|g1 d A=>exact nl d (Z h _)|g0 d A=>exact .g0 d p)|f H ao h h' B av=>intro r m;cases m with|f C ab y af=>refine .f H ao (λi v c p e=>?_) (λi v c p e=>?_);obtain⟨F,z⟩:=G C e;exact B i v c p e (y i F c z e);obtain⟨F,z⟩:=G ab e;exact av i v c p e (af i F c z e)
def cv.shrink{P:Program}{κ:rm}{w w':World}{Y Y1:ae}{β β':Id->Nat}(s0:cv P κ w Y β)(c:Kp Y Y1)(s:cv P κ w' Y1 β'):cv P κ w' Y β':=by refine⟨λb x a=>?_,λb h x x' a e A=>s.inj b h x x' (c.keep _ _ a) (c.keep _ _ e) A,s.old,s.base⟩;have d:=s.ok b x (c.keep _ _ a);refine⟨d.ow,d.nf,λg=>?_,d.sp⟩;have k:=d.cl g;obtain⟨cur,cap,q,r,t,u,z⟩:=k.ex;refine⟨k.pos,k.info,k.rl,k.dt,cur,cap,q,r,t,u,λi j y f=>?_⟩;obtain⟨v,B,C,D⟩:=z i j y f;obtain⟨n,m,_,_,_,_,p⟩:=((s0.ok b x a).cl g).ex;obtain⟨E,_,_,o⟩:=p i j y f;exact⟨v,B,C,D.shrink c o⟩
def dw.shrink{w w':World}{Y Y1:ae}{β β':Id->Nat}(e:dw w Y β w' Y1 β')(f:Kp Y Y1):dw w Y β w' Y β':=by refine⟨e.os,e.tape,e.output,e.size,e.keep,λ_ h=>h,λb x a=>?_,λb x a=>?_⟩;rcases e.live b x a with h|⟨x',g,j,k,m,d,i⟩;exact nl (f.keep _ _ a) (λc=>qD h c);have:=f.keep _ _ a;rw[g] at this;cases this;exact .inr ⟨x,a,rfl,rfl,rfl,d,i⟩;rcases e.live b x a with h|⟨x',g,j,k,m,d,i⟩;exact nl (f.keep _ _ a) (λc=>qD h c);exact .inr ⟨b,x,a,d.symm⟩
def Nm(ks:List Nat)(l:List Id)(Y:ae):ae:=(aH (L Y)).map λk=>if k∈ks then⟨(aZ Y k).lB,λv=>if(k,v)∈l then(aZ Y k).val v else J⟩ else mO
def avs(ks:List Nat)(l:List Id)(Y Y1:ae):ae:=(aH (L Y)).map λk=>if k∈ks then⟨(aZ Y1 k).lB,λv=>if(k,v)∈l then(aZ Y1 k).val v else J⟩ else aZ Y k
def A6(ks:List Nat)(l:List Id)(b:Id):Prop:=b.1∈ks/\b∈l
def okC(ks:List Nat)(l:List Id):AV->Prop| .s _=>True| .l aa t o=>eN (.l aa t o)=U\/aa=[]| .p b _ _=>A6 ks l b| .m b _=>A6 ks l b|_=>False
def okR(ks:List Nat)(l:List Id):AV->Prop| .a cs=>∀c∈cs,okC ks l c|x=>okC ks l x
def okX(ks:List Nat)(l:List Id):AV->Prop| .t vs=>∀v∈vs,okR ks l v|x=>okR ks l x
def okB(ks:List Nat)(l:List Id)(Y:ae):Prop:=∀b∈l,∀x,box Y b=V x->x.var=U->∀q∈x.aa,∀y∈q,okC ks l y
section
variable{ks:List Nat}{l l':List Id}{Y Y0 Y1:ae}{P:Program}{κ κ':rm}{w w':World}{β β' β2:Id->Nat}
def aPl:L (avs ks l Y Y1)=L Y:=by simp[avs]
def aOr:L (Nm ks l Y)=L Y:=by simp[Nm]
def aOa{Y:ae}{k:Nat}(h:L Y<=k):aZ Y k=mO:=by unfold aZ;rw[eI,qi h];rfl
def aQ3{k:Nat}(h:k<L Y):aZ (avs ks l Y Y1) k=if k∈ks then⟨(aZ Y1 k).lB,λv=>if(k,v)∈l then(aZ Y1 k).val v else J⟩ else aZ Y k:=by have:k<L (avs ks l Y Y1):=(by rw[aPl];exact h);(conv=>lhs;unfold aZ);rw[eI,eC this];simp[avs]
def aTs{k:Nat}(h:k<L Y):aZ (Nm ks l Y) k=if k∈ks then⟨(aZ Y k).lB,λv=>if(k,v)∈l then(aZ Y k).val v else J⟩ else mO:=by have:k<L (Nm ks l Y):=(by rw[aOr];exact h);(conv=>lhs;unfold aZ);rw[eI,eC this];simp[Nm]
def aTt{k:Nat}(h:k∉ks):aZ (avs ks l Y Y1) k=aZ Y k:=by rcases jj k (L Y) with a|a;rw[aQ3 a,cj h];rw[aOa a,aOa (by rw[aPl];exact a)]
def bdP{k:Nat}(h:k∉ks):aZ (Nm ks l Y) k=mO:=by rcases jj k (L Y) with a|a;rw[aTs a,cj h];rw[aOa (by rw[aOr];exact a)]
def aPt{b:Id}(h:b.1∉ks):box (avs ks l Y Y1) b=box Y b:=by unfold box;rw[aTt h]
def bcL{b:Id}(h:b.1∉ks):jO (avs ks l Y Y1) b=jO Y b:=by unfold jO;rw[aTt h]
def baE{b:Id}(h:b.1∉ks):box (Nm ks l Y) b=J:=by unfold box;rw[bdP h];simp only[mO];split<;>rfl
def aPT(d:L Y1=L Y){b:Id}(h:b.1∈ks):box (avs ks l Y Y1) b=if b∈l then box Y1 b else J:=by obtain⟨c,e⟩:=b;rcases jj c (L Y) with a|a;unfold box;rw[aQ3 a,bX h];simp only;split<;>split<;>rfl;unfold box;rw[aOa (by rw[aPl];exact a),aOa (by rw[d];exact a)];simp only[mO];split<;>split<;>rfl
def aOV{b:Id}(h:b.1∈ks):box (Nm ks l Y) b=if b∈l then box Y b else J:=by obtain⟨c,d⟩:=b;rcases jj c (L Y) with a|a;unfold box;rw[aTs a,bX h];simp only;split<;>split<;>rfl;unfold box;rw[aOa (by rw[aOr];exact a),aOa a];simp only[mO];split<;>split<;>rfl
def aTh(e:L Y1=L Y){b:Id}(h:b.1∈ks)(a:jO Y1 b=U):jO (avs ks l Y Y1) b=U:=by obtain⟨d,f⟩:=b;rcases jj d (L Y) with c|c;unfold jO at a⊢;rw[aQ3 c,bX h];simp only[bN,Option.isNone_iff_eq_none] at a⊢;refine⟨a.1,?_⟩;split;exact a.2;rfl;unfold jO at a⊢;rw[aOa (by rw[aPl];exact c)];rw[aOa (by rw[e];exact c)] at a;exact a
def a6x{b:Id}(h:b.1∈ks)(a:jO Y b=U):jO (Nm ks l Y) b=U:=by obtain⟨d,e⟩:=b;rcases jj d (L Y) with c|c;unfold jO at a⊢;rw[aTs c,bX h];simp only[bN,Option.isNone_iff_eq_none] at a⊢;refine⟨a.1,?_⟩;split;exact a.2;rfl;unfold jO at a⊢;rw[aOa (by rw[aOr];exact c)];rw[aOa c] at a;exact a
def bcK(e:L Y1=L Y){b:Id}{x:bY}(h:b.1∈ks)(a:box Y1 b=V x)(f:b∉l):jO (avs ks l Y Y1) b=U:=by obtain⟨d,g⟩:=b;have c:d<L Y:=(by rcases jj d (L Y) with c|c;exact c;unfold box at a;rw[aOa (by rw[e];exact c)] at a;simp only[mO] at a;split at a<;>cases a);have:=(aOm a).1;unfold jO;rw[aQ3 c,bX h];simp only[f,aB9,Option.isNone_none,ru,lS];exact this
def bcJ{b:Id}{x:bY}(h:b.1∈ks)(a:box Y b=V x)(e:b∉l):jO (Nm ks l Y) b=U:=by obtain⟨d,f⟩:=b;have c:d<L Y:=(by rcases jj d (L Y) with c|c;exact c;unfold box at a;rw[aOa c] at a;simp only[mO] at a;split at a<;>cases a);have:=(aOm a).1;unfold jO;rw[aTs c,bX h];simp only[e,aB9,Option.isNone_none,ru,lS];exact this
def aPV{b:Id}{x:bY}(h:box (Nm ks l Y) b=V x):box Y b=V x/\b.1∈ks/\b∈l:=by by_cases a:b.1∈ks;rw[aOV a] at h;split at h;exact⟨h,a,by assumption⟩;(cases h);rw[baE a] at h;cases h
def ba4(b:L Y=L Y0)(h:∀k∈ks,aZ Y k=aZ Y0 k):Nm ks l Y=Nm ks l Y0:=by unfold Nm;rw[b];refine ja λk _=>?_;by_cases a:k∈ks;rw[bX a,bX a,h k a];rw[cj a,cj a]
def aTw{m n:ae}{e i:Id->Nat}{j k:rm}{v:Value}{y:AV}(h:ba j w m e v y)(c:okC ks l y)(B:k.base<=j.base)(K:nN j m e k n i)(p:∀b x,A6 ks l b->box m b=V x->box n b=V x/\i b=e b)(M:∀b,A6 ks l b->jO m b=U->jO n b=U):ba k w n i v y:=by cases h with|s h=>exact .s h|u=>exact c.elim|a O C h=>exact c.elim|t O h=>exact c.elim|l0 G=>exact .l0 G|l1 F W X g o R E G B T Z C S r=>rcases c with c|c;exact(ba.l1 F W X g o R E G B T Z C S r).conv c K;subst c;simp at o;omega|p1 h H F=>obtain⟨z,A⟩:=p _ _ c h;rw[<-A];exact .p1 z H F|p0 h d=>exact .p0 (M _ c h) d|q W g B T C S r=>exact c.elim|m1 h o N D H=>obtain⟨z,A⟩:=p _ _ c h;rw[<-A] at N⊢;exact .m1 z o N D H|m0 h d=>exact .m0 (M _ c h) d|g1 h d=>exact c.elim|g0 h d=>exact c.elim|f O aa h h'=>exact c.elim
def a67{k m:ae}{e f:Id->Nat}{g j:rm}{v:Value}{y:AV}(h:ba g w k e v y)(r:okR ks l y)(p:j.base<=g.base)(d:nN g k e j m f)(n:∀b x,A6 ks l b->box k b=V x->box m b=V x/\f b=e b)(q:∀b,A6 ks l b->jO k b=U->jO m b=U):ba j w m f v y:=by cases y with|a cs=>(cases h with|a t s h=>exact .a t s λi v c u o=>aTw (h i v c u o) (r c (fC o)) p d n q)|_=>exact aTw h r p d n q
def a66{j k:ae}{d e:Id->Nat}{f g:rm}{v:Value}{y:AV}(h:ba f w j d v y)(q:okX ks l y)(o:g.base<=f.base)(a:nN f j d g k e)(m:∀b x,A6 ks l b->box j b=V x->box k b=V x/\e b=d b)(p:∀b,A6 ks l b->jO j b=U->jO k b=U):ba g w k e v y:=by cases y with|t vs=>(cases h with|t r h=>exact .t r λi v c s n=>a67 (h i v c s n) (q c (fC n)) o a m p)|_=>exact a67 h q o a m p
def a5L{aa:List (List AV)}{i j:Nat}{y:AV}(h:db aa i j=V y):∃r∈aa,y∈r:=by unfold db at h;cases a:aa[i]? with|none=>rw[a] at h;cases h|some r=>rw[a] at h;exact⟨r,fC a,fC h⟩
def ba5{G:nn}{fn:FuncId}{xs:List AV}{D:List Value}{r:AV}(s:cv P κ w Y β)(hG:md G κ w Y β)(hx:js κ w Y β D xs)(H:L Y1=L Y)(ay:∀x∈xs,okX ks l x)(c0:okB ks l (Nm ks l Y))(c1:okB ks l' Y1)(hr:okX ks l' r)(h:cZ P G fn xs (Nm ks l Y) r Y1):
  tJ P fn/\Calls P fn D.toArray w λe w'=>∃v β2,e= .returned v/\ba κ w' (avs ks l' Y Y1) β2 v r/\cv P κ w' (avs ks l' Y Y1) β2/\dw w Y β w' (avs ks l' Y Y1) β2:=by
 let T:Nat->Prop:=λk=>κ.F k\/∃b x,box Y b=V x/\(b.1∉ks\/b∉l)/\β b=k
 have O:nN κ Y β ⟨T,κ.base⟩ (Nm ks l Y) β:=λk p A=>⟨λg=>by
  rcases g with g|⟨b,x,c,_,f⟩
  ·exact p g
  ·exact A b x c f,λb y c=>A b y (aPV c).1⟩
 have ah:∀b x,A6 ks l b->box Y b=V x->box (Nm ks l Y) b=V x/\β b=β b:=λb x B c=>⟨by rw[aOV B.1,bX B.2];exact c,rfl⟩
 have ak:∀b,A6 ks l b->jO Y b=U->jO (Nm ks l Y) b=U:=λb B Z=>a6x B.1 Z
 have s0:cv P ⟨T,κ.base⟩ w (Nm ks l Y) β:=by
  refine⟨λb x c=>?_,λb z x x' c d f=>s.inj b z x x' (aPV c).1 (aPV d).1 f,λk g=>?_,s.base⟩
  ·obtain⟨af,a,K⟩:=aPV c
   have C:=s.ok b x af
   refine⟨C.ow,λg=>?_,λhz=>?_,C.sp⟩
   ·rcases g with g|⟨z,x',d,hn,f⟩
    ·exact C.nf g
    ·have:=s.inj z b x' x d af f
     subst this
     rcases hn with hn|hn
     ·exact hn a
     ·exact hn K
   ·have k:=C.cl hz
    obtain⟨cur,cap,p,A,h3,h4,h5⟩:=k.ex
    refine⟨k.pos,k.info,k.rl,k.dt,cur,cap,p,A,h3,h4,λi j y N=>?_⟩
    obtain⟨u,p1,p2,p3⟩:=h5 i j y N
    refine⟨u,p1,p2,aTw (ks:=ks) (l:=l) p3 ?_ (dA _) O ah ak⟩
    obtain⟨q,hq,ac⟩:=a5L N
    cases M:x.var with
    |true=>exact c0 b K x c M q hq y ac
    |false=>
     have X:=k.dt M i j y N
     cases y<;>first|trivial|exact .inl X|(simp[eN] at X;done)
  ·rcases g with g|⟨b,x,c,_,rfl⟩
   ·exact s.old k g
   ·exact s.lt c
 have ax:js ⟨T,κ.base⟩ w (Nm ks l Y) β D xs:=⟨hx.1,λi v x M am=>a66 (hx.2 i v x M am) (ay x (fC am)) (dA _) O ah ak⟩
 refine⟨h.1,(h.2 ⟨T,κ.base⟩ w β D s0 (hG.conv O) ax).mono ?_⟩
 rintro e w' ⟨v,β',k1,k2,k3,t⟩
 let β2:Id->Nat:=λb=>if b.1∈ks then β' b else β b
 have o:∀{b:Id},b.1∈ks->β2 b=β' b:=λ{b} h=>bX h
 have E:∀{b:Id},b.1∉ks->β2 b=β b:=λ{b} h=>cj h
 have m:∀{b x},b.1∈ks->box (avs ks l' Y Y1) b=V x->box Y1 b=V x/\b∈l':=λ{b x} a c=>by
  rw[aPT H a] at c
  split at c
  ·exact⟨c,by assumption⟩
  ·cases c
 have R:∀b x,box Y b=V x->b.1∉ks->w'.heap[β b]?=w.heap[β b]?:=λb x c a=>
  t.keep _ (s.lt c) λz x' d f=>by
   have:=s.inj z b x' x (aPV d).1 c f
   subst this
   exact a (aPV d).2.1
 have e2:dw w Y β w' (avs ks l' Y Y1) β2:=by
  refine⟨t.os,t.tape,t.output,t.size,λk a nd=>t.keep k a λb x c=>nd b x (aPV c).1,λb c=>?_,λb x c=>?_,λb x c=>?_⟩
  ·by_cases a:b.1∈ks
   ·exact aTh H a (t.dead b (a6x a c))
   ·rw[bcL a];exact c
  ·by_cases a:b.1∈ks
   ·by_cases K:b∈l
    ·rcases t.live b x (by rw[aOV a,bX K];exact c) with Z|⟨x',q1,q2,q3,q4,q5,q6⟩
     ·exact .inl (aTh H a Z)
     ·by_cases al:b∈l'
      ·exact .inr ⟨x',by rw[aPT H a,bX al];exact q1,q2,q3,q4,by rw[o a];exact q5,q6⟩
      ·exact .inl (bcK H a q1 al)
    ·exact .inl (aTh H a (t.dead b (bcJ a c K)))
   ·exact .inr ⟨x,by rw[aPt a];exact c,rfl,rfl,rfl,E a,λcur hc=>⟨cur,by rw[R b x c a];exact hc,rfl⟩⟩
  ·by_cases a:b.1∈ks
   ·rw[o a]
    rcases t.fresh b x (m a c).1 with p|⟨b0,x0,p,A⟩
    ·exact .inl p
    ·exact .inr ⟨b0,x0,(aPV p).1,A⟩
   ·rw[aPt a] at c
    exact .inr ⟨b,x,c,(E a).symm⟩
 have S:nN ⟨T,κ.base⟩ Y1 β' κ (avs ks l' Y Y1) β2:=λk p A=>⟨λg=>p (.inl g),λb y c=>by
  by_cases a:b.1∈ks
  ·rw[o a];exact A b y (m a c).1
  ·rw[aPt a] at c
   rw[E a]
   exactλf=>p (.inr ⟨b,y,c, .inl a,f⟩)⟩
 have W:∀b x,A6 ks l' b->box Y1 b=V x->box (avs ks l' Y Y1) b=V x/\β2 b=β' b:=λb x B c=>⟨by rw[aPT H B.1,bX B.2];exact c,o B.1⟩
 have aa:∀b,A6 ks l' b->jO Y1 b=U->jO (avs ks l' Y Y1) b=U:=λb B Z=>aTh H B.1 Z
 refine⟨v,β2,k1,a66 k2 hr (dA _) S W aa,?_,e2⟩
 refine⟨λb x c=>?_,λb z x x' c d f=>?_,λk a=>C3 (s.old k a) t.size,gl s.base t.size⟩
 ·by_cases a:b.1∈ks
  ·obtain⟨ag,K⟩:=m a c
   have C:=k3.ok b x ag
   refine⟨λho=>by rw[o a];exact C.ow ho,λg=>C.nf (.inl (by rw[<-o a];exact g)),λhz=>?_,λhz=>by rw[o a];exact C.sp hz⟩
   have k:=C.cl hz
   obtain⟨cur,cap,p,A,h3,h4,h5⟩:=k.ex
   refine⟨k.pos,k.info,k.rl,k.dt,cur,cap,by rw[o a];exact p,A,h3,h4,λi j y N=>?_⟩
   obtain⟨u,p1,p2,p3⟩:=h5 i j y N
   refine⟨u,p1,p2,aTw (ks:=ks) (l:=l') p3 ?_ (dA _) S W aa⟩
   obtain⟨q,hq,ac⟩:=a5L N
   cases M:x.var with
   |true=>exact c1 b K x ag M q hq y ac
   |false=>
    have X:=k.dt M i j y N
    cases y<;>first|trivial|exact .inl X|(simp[eN] at X;done)
  ·rw[aPt a] at c
   exact(s.ok b x c).ext e2 (E a) (R b x c a)
 ·by_cases a:b.1∈ks<;>by_cases n:z.1∈ks
  ·rw[o a,o n] at f
   exact k3.inj b z x x' (m a c).1 (m n d).1 f
  ·rw[o a,E n] at f
   rw[aPt n] at d
   exact nl (.inr ⟨z,x',d, .inl n,f.symm⟩) ((k3.ok b x (m a c).1).nf)
  ·rw[E a,o n] at f
   rw[aPt a] at c
   exact nl (.inr ⟨b,x,c, .inl a,f⟩) ((k3.ok z x' (m n d).1).nf)
  ·rw[E a,E n] at f
   rw[aPt a] at c
   rw[aPt n] at d
   exact s.inj b z x x' c d f
end
def aSX(P:Program)(G:nn)(fn:FuncId)(xs:List AV)(Y:ae)(ks:List Nat)(K:AV->ae->Prop):Prop:=∃l l' r Y1,cZ P G fn xs (Nm ks l Y) r Y1/\L Y1=L Y/\(∀x∈xs,okX ks l x)/\okB ks l (Nm ks l Y)/\okB ks l' Y1/\okX ks l' r/\K r (avs ks l' Y Y1)
def aPf(G:nn)(fn:FuncId):Option (List Nat):=
 match G.fp fn with
 |none=>J
 |some ks=>bif G.rd fn then J else V ks
def bcp{G:nn}{fn:FuncId}{ks:List Nat}(h:aPf G fn=V ks):G.rd fn=I:=by unfold aPf at h;split at h;(cases h);cases a:G.rd fn with|false=>rfl|true=>rw[a] at h;cases h
def tR(P:Program)(G:nn)(fn:FuncId)(xs:List AV)(Y:ae)(d:Nat)(K:AV->ae->Prop):Prop:=
 match aPf G fn with
 |some ks=>aSX P G fn xs Y ks K
 |none=>∃r Y1,cZ P G fn xs Y r Y1/\L Y1=L Y/\(if G.rd fn=U then Kp Y (kills Y1 (eB r))/\kG (eR Y1 r)=U/\K (eR Y1 r) Y else K r Y1)
def asb{P:Program}{G:nn}{κ:rm}{w:World}{Y:ae}{β:Id->Nat}{fn:FuncId}{a:List Value}{xs:List AV}{d:Nat}{K:AV->ae->Prop}(s:cv P κ w Y β)(t:md G κ w Y β)(u:js κ w Y β a xs)(h:tR P G fn xs Y d K):tJ P fn/\Calls P fn a.toArray w λe w'=>∃v q Y' β2,e= .returned v/\K q Y'/\ba κ w' Y' β2 v q/\cv P κ w' Y' β2/\dw w Y β w' Y' β2:=by unfold tR at h;split at h;obtain⟨l,l',r,Y1,c,n,A,f,B,C,D⟩:=h;obtain⟨g1,z⟩:=ba5 s t u n A f B C c;refine⟨g1,z.mono ?_⟩;rintro e w' ⟨v,β2,i,j,g,m⟩;exact⟨v,_,_,β2,i,D,j,g,m⟩;obtain⟨r,Y1,c,_,f⟩:=h;refine⟨c.1,(c.2 κ w β a s t u).mono ?_⟩;rintro e w' ⟨v,β2,i,j,g,m⟩;split at f;obtain⟨p,E,F⟩:=f;obtain⟨x,H,_⟩:=D1 (eB r) g;exact⟨v,_,_,β2,i,F,(xK (l:=eB r) g j (λb o=>o)).convT E (λk c n=>⟨c,λb y o=>n b y (p.keep _ _ o)⟩) (dA _),s.shrink p H,(m.trans x).shrink p⟩;exact⟨v,_,_,β2,i,f,j,g,m⟩
def Ki{P:Program}{G:nn}{fn:FuncId}{xs:List AV}{Y:ae}{d:Nat}{K:AV->ae->Prop}:tR P G fn xs Y d K↔∃h s,tR P G fn xs Y d (λa b=>a=h/\b=s)/\K h s:=by unfold tR;split;constructor;rintro⟨l,l',r,Y1,e,f,c,j,k,m,n⟩;exact⟨_,_,⟨l,l',r,Y1,e,f,c,j,k,m,rfl,rfl⟩,n⟩;rintro⟨h,s,⟨l,l',r,Y1,e,f,c,j,k,m,rfl,rfl⟩,i⟩;exact⟨l,l',r,Y1,e,f,c,j,k,m,i⟩;constructor;rintro⟨r,Y1,e,f,c⟩;split at c;rename_i g;exact⟨eR Y1 r,Y,⟨r,Y1,e,f,by rw[bX g];exact⟨c.1,c.2.1,rfl,rfl⟩⟩,c.2.2⟩;rename_i g;exact⟨r,Y1,⟨r,Y1,e,f,by rw[cj g];exact⟨rfl,rfl⟩⟩,c⟩;rintro⟨h,s,⟨r,Y1,e,f,c⟩,i⟩;refine⟨r,Y1,e,f,?_⟩;split at c;rename_i g;rw[bX g];obtain⟨a,b,rfl,rfl⟩:=c;exact⟨a,b,i⟩;rename_i g;rw[cj g];obtain⟨rfl,rfl⟩:=c;exact i
def asa{P:Program}{G:nn}{fn:FuncId}{xs:List AV}{Y s:ae}{f:AV}{d:Nat}(i:aPf G fn=J)(h:tR P G fn xs Y d (λa b=>a=f/\b=s)):L s=L Y/\(G.rd fn=U->s=Y):=by unfold tR at h;rw[i] at h;obtain⟨r,Y1,j,g,c⟩:=h;split at c;rename_i e;obtain⟨_,_,_,rfl⟩:=c;exact⟨rfl,λ_=>rfl⟩;rename_i e;obtain⟨_,rfl⟩:=c;exact⟨g,λh=>nl h e⟩
def a8E{P:Program}{G:nn}{fn:FuncId}{xs:List AV}{Y Y0 s:ae}{f:AV}{ks:List Nat}(d:L Y=L Y0)(p:∀k∈ks,aZ Y k=aZ Y0 k)(h:aSX P G fn xs Y ks (λa b=>a=f/\b=s)):∃s0,aSX P G fn xs Y0 ks (λa b=>a=f/\b=s0)/\L s=L Y/\L s0=L Y0/\(∀k∈ks,aZ s k=aZ s0 k)/\(∀k,k∉ks->aZ s k=aZ Y k)/\∀k,k∉ks->aZ s0 k=aZ Y0 k:=by obtain⟨l,l',r,Y1,g,i,j,m,n,o,rfl,rfl⟩:=h;have e:=ba4 (l:=l) d p;refine⟨avs ks l' Y0 Y1,⟨l,l',r,Y1,by rw[<-e];exact g,i.trans d,j,by rw[<-e];exact m,n,o,rfl,rfl⟩,aPl,aPl,λk c=>?_,λk c=>aTt c,λk c=>aTt c⟩;rcases jj k (L Y) with q|q;rw[aQ3 q,aQ3 (d▸q),bX c,bX c];rw[aOa (by rw[aPl];exact q),aOa (by rw[aPl,<-d];exact q)]
def vO(Y:ae):List Nat:=aH (L Y)
def aQn(G:nn)(fn:FuncId)(Y:ae):List Nat:=
 match aPf G fn with
 |none=>vO Y
 |some ks=>ks
def dK:AV->List Nat| .p b _ _=>[b.1]| .m b _=>[b.1]| .g _ b _ _=>[b.1]|_=>[]
def dC:AV->List Nat| .a cs=>cs.flatMap dK|x=>dK x
def pP:AV->List Nat| .f _ fs cs=>(fs++cs).flatMap dC|x=>dC x
def cD:AV->List Nat| .f _ fs cs=>(fs++cs).flatMap pP|x=>dC x
def AH{x:AV}{k:Nat}(h:k∈dC x):k∈pP x:=by cases x with|f fn fs cs=>simp[dC,dK] at h|_=>exact h
def aCR{x:AV}{k:Nat}(h:k∈pP x):k∈cD x:=by cases x with|f fn fs cs=>simp only[pP,iI] at h;obtain⟨y,a,b⟩:=h;simp only[cD,iI];exact⟨y,a,AH b⟩|_=>exact h
def eK:ae:=er 4096 mO
def py(b:Id):box eK b=J:=by unfold box aZ eK;rw[eI,xg];split<;>simp[mO]
def qA(x:bY):Bool:=!x.var&&x.own&&x.aa.all λr=>r.all gY
def zI(P:Program)(G:nn)(fn:FuncId)(xs:List AV)(Y:ae)(d:Nat)(K:AV->ae->Prop):Prop:=(xs.map (dG Y)).all iX=U/\y7 Y d=U/\∃r a,cZ P G fn (xs.map (dG Y)) eK r a/\((r= .l [] U U/\K (.l [] U U) Y)\/∃b n x,r= .m b n/\box a b=V x/\qA x=U/\K (.m (lA Y d) n) (put Y d x))
def ase{P:Program}{G:nn}{κ:rm}{w:World}{Y:ae}{β:Id->Nat}{fn:FuncId}{o:List Value}{xs:List AV}{d:Nat}{K:AV->ae->Prop}(s:cv P κ w Y β)(hG:md G κ w Y β)(E:js κ w Y β o xs)(h:zI P G fn xs Y d K):tJ P fn/\Calls P fn o.toArray w λe w'=>∃v av Y' C,e= .returned v/\K av Y'/\ba κ w' Y' C v av/\cv P κ w' Y' C/\dw w Y β w' Y' C:=by obtain⟨hd,D,r,Y1,q,O⟩:=h;have z:=te D;have hF:∀k,κ.F k->k<w.heap.size:=λk T=>s.old k T;have ab:∀l,nN κ (kills Y l) β ⟨κ.F,w.heap.size⟩ eK β0:=λl k q O=>⟨q,λb y a=>by rw[py] at a;cases a⟩;have H:nN κ Y β ⟨κ.F,w.heap.size⟩ eK β0:=λk q O=>⟨q,λb y a=>by rw[py] at a;cases a⟩;have af:∀i x,xs[i]?=V x->iX (dG Y x)=U:=λi x E=>dV.1 hd _ (dN.2 ⟨x,fC E,rfl⟩);have s0:cv P ⟨κ.F,w.heap.size⟩ w eK β0:=⟨λb x a=>(by rw[py] at a;cases a),λb b' x x' a _ _=>(by rw[py] at a;cases a),hF,dA _⟩;refine⟨q.1,(q.2 ⟨κ.F,w.heap.size⟩ w β0 o s0 (hG.conv H) ⟨by simp[E.1],λi v y hv c=>?_⟩).mono ?_⟩;rw[ve] at c;(cases p:xs[i]? with|none=>rw[p] at c;cases c|some x=>rw[p] at c;simp only[df,bE] at c;subst c;exact(yo (xK (l:=eB x) s (E.2 i v x hv p) (λb a=>a))).convA (af i x p) (ab _));rintro e w' ⟨v,B,he,X,s1,m⟩;have f:Below w.heap.size w w':=⟨m.os,m.tape,m.output,m.size,λk T=>m.keep k T (λb x a=>by rw[py] at a;cases a)⟩;rcases O with⟨rfl,R⟩|⟨b,n,x,rfl,a,M,R⟩;refine⟨v,_,Y,β,he,R,?_,Es s f,xJ s f⟩;(cases X with|l0 ht=>exact .l0 ht|l1 ho nf aE g W aF=>simp at W;omega);simp only[qA,bN,eH] at M;have k:=(s1.ok b x a).cl (nZ X a);obtain⟨cur,cap,q1,q2,q3,q4,q5⟩:=k.ex;have t:w.heap.size<=B b:=(by rcases m.fresh b x a with h|⟨b0,x0,h0,_⟩;exact h;rw[py] at h0;cases h0);have Z:∀i j y,db x.aa i j=V y->gY y=U:=λi j y c=>(by unfold db at c;cases A:x.aa[i]? with|none=>rw[A] at c;cases c|some r=>rw[A] at c;simp only[qd] at c;exact dV.1 (dV.1 M.2 r (fC A)) y (fC c));refine⟨v,_,_,upd β (lA Y d) (B b),he,R,?_,?_,um s f z t⟩;obtain⟨N,ah,rfl,W,hh,S⟩:=oR X a;have:=ba.m1 (κ:=κ) (w:=w') (β:=upd β (lA Y d) (B b)) (n:=n) (cap:=N) (iy (Y:=Y) (x:=x) z) W (by rw[gx];exact hh) S k.pos;rw[gx] at this;exact this;refine Et (cap:=cap) s f z t k.pos k.info k.rl k.dt q1 q2 q3 q4 λi j y c=>?_;obtain⟨u,u1,u2,u3⟩:=q5 i j y c;refine⟨u,u1,u2,?_⟩;have hs:=Z i j y c;(cases y<;>first|(simp[gY] at hs;done)|skip);obtain⟨h4,h5⟩:=u3.s_inv;rw[h4];exact .s h5
def ak2{P:Program}{G:nn}{fn:FuncId}{xs:List AV}{Y:ae}{d:Nat}{K:AV->ae->Prop}:zI P G fn xs Y d K↔∃j s,zI P G fn xs Y d (λa b=>a=j/\b=s)/\K j s:=by unfold zI;constructor;rintro⟨f,g,r,e,h,⟨c,i⟩|⟨b,n,x,c,i,k,m⟩⟩;exact⟨_,_,⟨f,g,r,e,h, .inl ⟨c,rfl,rfl⟩⟩,i⟩;exact⟨_,_,⟨f,g,r,e,h, .inr ⟨b,n,x,c,i,k,rfl,rfl⟩⟩,m⟩;rintro⟨j,s,⟨f,g,r,e,h,⟨c,rfl,rfl⟩|⟨b,n,x,c,i,k,rfl,rfl⟩⟩,l⟩;exact⟨f,g,r,e,h, .inl ⟨c,l⟩⟩;exact⟨f,g,r,e,h, .inr ⟨b,n,x,c,i,k,l⟩⟩
def DU:AV->Bool| .s _=>U| .l [] false false=>U|_=>I
def vY(x:bY):Bool:=!x.var&&x.own&&x.aa.all λr=>r.all DU
def gU(a:ae)(d:Nat):ae->List AV->Option (List AV×ae)
 |Y,[]=>V ([],Y)
 |Y,c::cs=>
  match c with
  | .s v=>(gU a d Y cs).map λp=>(.s v::p.1,p.2)
  | .l [] true true=>(gU a d Y cs).map λp=>(.l [] U U::p.1,p.2)
  | .m b n=>
   match box a b with
   |some x=>if vY x=U then(gU a d (put Y d x) cs).map λp=>(.m (lA Y d) n::p.1,p.2) else J
   |none=>J
  |_=>J
def wn(cs:List AV):List Id:=cs.flatMap λc=>match c with| .m b _=>[b]|_=>[]
def zJ(P:Program)(G:nn)(fn:FuncId)(xs:List AV)(Y:ae)(d:Nat)(K:AV->ae->Prop):Prop:=(xs.map (dG Y)).all iX=U/\y7 Y d=U/\∃cs c b Y',cZ P G fn (xs.map (dG Y)) eK (.a cs) c/\(wn cs).Nodup/\gU c d Y cs=V (b,Y')/\K (.a b) Y'
def ak3{P:Program}{G:nn}{fn:FuncId}{xs:List AV}{Y:ae}{d:Nat}{K:AV->ae->Prop}:zJ P G fn xs Y d K↔∃f s,zJ P G fn xs Y d (λa b=>a=f/\b=s)/\K f s:=by unfold zJ;constructor;rintro⟨g,h,cs,e,c,Y',i,j,k,l⟩;exact⟨_,_,⟨g,h,cs,e,c,Y',i,j,k,rfl,rfl⟩,l⟩;rintro⟨f,s,⟨g,h,cs,e,c,Y',i,j,k,rfl,rfl⟩,l⟩;exact⟨g,h,cs,e,c,Y',i,j,k,l⟩
structure Gv(P:Program)(w:World)(x:bY)(B:Nat):Prop where
 own:x.own=U
 pos:0<x.size
 info:(P.info? x.elem).map (·.size)=V x.size
 rl:∀r∈x.aa,L r=x.size
 dt:x.var=I->∀i j y,db x.aa i j=V y->eN y=U
 ex:∃(cur:Array Value) (cap:Nat),w.heap[B]?=V (.cells cur x.elem (0,0))/\cur.size=cap*x.size/\L x.aa<=cap/\cap<=maxLen/\
  ∀i j y,db x.aa i j=V y->∃v,cur[i*x.size+j]?=V v/\amk v=U/\∀(κ:rm) (Y:ae) (β:Id->Nat),ba κ w Y β v y
structure qp(P:Program)(w w':World)(Y:ae)(β:Id->Nat)(Yc:ae)(βc:Id->Nat):Prop where
 len:L Yc=L Y
 old:∀c y,box Y c=V y->box Yc c=V y/\βc c=β c
 cas:∀c y,box Yc c=V y->(box Y c=V y/\βc c=β c)\/(w.heap.size<=βc c/\Gv P w' y (βc c))
 inj:∀c c' y y',box Yc c=V y->box Yc c'=V y'->βc c=βc c'->c=c'
 dead:∀c,jO Y c=U->jO Yc c=U
section
variable{P:Program}{κ:rm}{w w':World}{Y Yc:ae}{β βc:Id->Nat}
def qp.ext(N:qp P w w' Y β Yc βc)(s:cv P κ w Y β)(h:Below w.heap.size w w'):dw w Y β w' Yc βc:=
 ⟨h.os,h.tape,h.output,h.size,λk f _=>h.block k f,N.dead,λb x a=> .inr ⟨x,(N.old b x a).1,rfl,rfl,rfl,(N.old b x a).2,λcur e=>⟨cur,by rw[h.block _ (s.lt a)];exact e,rfl⟩⟩,λb x a=>by
  rcases N.cas b x a with⟨c,d⟩|⟨c,_⟩
  ·exact .inr ⟨b,x,c,d.symm⟩
  ·exact .inl c⟩
def qp.sim(N:qp P w w' Y β Yc βc)(s:cv P κ w Y β)(h:Below w.heap.size w w'):cv P κ w' Yc βc:=by
 have e:=N.ext s h
 refine⟨λc y d=>?_,λc g y z d p n=>N.inj c g y z d p n,λk o=>C3 (s.old k o) h.size,gl s.base h.size⟩
 rcases N.cas c y d with⟨b,l⟩|⟨b,f⟩
 ·exact(s.ok c y b).ext e l (h.block _ (s.lt b))
 ·obtain⟨cur,cap,q,r,t,u,x⟩:=f.ex
  exact .of (λ_=>(s.new b).2) (s.new b).1 ⟨f.pos,f.info,f.rl,f.dt,cur,cap,q,r,t,u,λi j a m=>by
   obtain⟨v,A,B,C⟩:=x i j a m
   exact⟨v,A,B,C _ _ _⟩⟩
def qp.put{d:Nat}{x:bY}{B:Nat}(N:qp P w w' Y β Yc βc)(f:d<L Yc)(n:w.heap.size<=B)(o:Gv P w' x B)(l:∀c y,box Yc c=V y->βc c≠B):qp P w w' Y β (Go.Ab.put Yc d x) (upd βc (lA Yc d) B):=by refine⟨by rw[Bf];exact N.len,λc y e=>?_,λc y e=>?_,λc j y z p q b=>?_,λc e=>Dy f (N.dead c e)⟩;obtain⟨k,m⟩:=N.old c y e;exact⟨uA f k,by rw[iG (AR k)];exact m⟩;rcases pz f e with⟨rfl,rfl⟩|⟨a,h⟩;rw[gx];exact .inr ⟨n,o⟩;rw[iG a];exact N.cas c y h;rcases pz f p with⟨rfl,rfl⟩|⟨a,h⟩<;>rcases pz f q with⟨rfl,rfl⟩|⟨g,i⟩;rfl;rw[gx,iG g] at b;exact nl b.symm (l j z i);rw[gx,iG a] at b;exact nl b (l c y h);rw[iG a,iG g] at b;exact N.inj c j y z h i b
def aIG{ab:rm}{A:ae}{z:Id->Nat}{d:Nat}(s1:cv P ab w' A z)(aB:∀b x,box A b=V x->w.heap.size<=z b):
  ∀(cs:List AV) (Yc:ae) (βc:Id->Nat) (vs:List Value) (q:List AV) (s:ae),qp P w w' Y β Yc βc->d<L Yc->(∀b∈wn cs,∀x,box A b=V x->∀c y,box Yc c=V y->βc c≠z b)->(wn cs).Nodup->
   L vs=L cs->(∀(i:Nat) v c,vs[i]?=V v->cs[i]?=V c->ba ab w' A z v c)->gU A d Yc cs=V (q,s)->
   ∃e,qp P w w' Y β s e/\(∀c y,box Yc c=V y->box s c=V y/\e c=βc c)/\L q=L cs/\∀(i:Nat) v c,vs[i]?=V v->q[i]?=V c->ba κ w' s e v c:=by
 intro cs
 induction cs with
 |nil=>
  intro Yc βc vs q s N H O G hl hr a
  simp only[gU,bE,iK] at a
  obtain⟨rfl,rfl⟩:=a
  exact⟨βc,N,λc y h=>⟨h,rfl⟩,rfl,λi v c _ E=>by simp at E⟩
 |cons c0 cs ih=>
  intro Yc βc vs q s N H O G hl hr a
  obtain⟨Z,vs,rfl⟩:∃Z vs',vs=Z::vs':=by
   cases vs with
   |nil=>simp at hl
   |cons v vs=>exact⟨v,vs,rfl⟩
  have ag:L vs=L cs:=by simpa using hl
  have M:=hr 0 Z c0 rfl rfl
  have ah:∀(i:Nat) v c,vs[i]?=V v->cs[i]?=V c->ba ab w' A z v c:=λi v c B f=>hr (i+1) v c B f
  have X:∀x,(∀(κ:rm) (Y:ae) (β:Id->Nat),ba κ w' Y β Z x)->wn (c0::cs)=wn cs->(gU A d Yc cs).map (λp=>(x::p.1,p.2))=V (q,s)->∃e,qp P w w' Y β s e/\(∀c y,box Yc c=V y->box s c=V y/\e c=βc c)/\L q=L (c0::cs)/\∀(i:Nat) v c,(Z::vs)[i]?=V v->q[i]?=V c->ba κ w' s e v c:=by
   intro x hx R a
   cases f:gU A d Yc cs with
   |none=>rw[f] at a;cases a
   |some p=>
    rw[f] at a
    simp only[df,bE,iK] at a
    obtain⟨rfl,rfl⟩:=a
    rw[R] at O G
    obtain⟨e,q1,q2,q3,q4⟩:=ih Yc βc vs p.1 p.2 N H O G ag ah f
    refine⟨e,q1,q2,by simp[q3],λi v c B f=>?_⟩
    cases i with
    |zero=>simp at B f;subst B f;exact hx _ _ _
    |succ i=>exact q4 i v c B f
  cases c0 with
  |s v=>
   simp only[gU] at a
   refine X (.s v) (λκ Y β=>?_) rfl a
   obtain⟨C,h5⟩:=M.s_inv
   rw[C];exact .s h5
  |l aa t o=>
   cases aa with
   |nil=>
    cases t with
    |false=>simp[gU] at a
    |true=>
     cases o with
     |false=>simp[gU] at a
     |true=>
      simp only[gU] at a
      refine X (.l [] U U) (λκ Y β=>?_) rfl a
      cases M with
      |l0 h=>exact .l0 h
      |l1 ho nf aA g S T=>simp at S;omega
   |cons r aa=>simp[gU] at a
  |m b n=>
   simp only[gU] at a
   cases D:box A b with
   |none=>rw[D] at a;cases a
   |some x=>
    rw[D] at a
    simp only at a
    by_cases F:vY x=U
    ·rw[bX F] at a
     cases f:gU A d (Go.Ab.put Yc d x) cs with
     |none=>rw[f] at a;cases a
     |some p=>
      rw[f] at a
      simp only[df,bE,iK] at a
      obtain⟨rfl,rfl⟩:=a
      have R:wn (.m b n::cs)=b::wn cs:=rfl
      rw[R] at O G
      obtain⟨aC,aq⟩:=List.nodup_cons.1 G
      simp only[vY,bN,eH] at F
      have k:=(s1.ok b x D).cl (nZ M D)
      obtain⟨cur,cap,k1,k2,k3,k4,k5⟩:=k.ex
      have hf:Gv P w' x (z b):=by
       refine⟨F.1.2,k.pos,k.info,k.rl,k.dt,cur,cap,k1,k2,k3,k4,λi j y K=>?_⟩
       obtain⟨u,u1,u2,u3⟩:=k5 i j y K
       refine⟨u,u1,u2,λκ Y β=>?_⟩
       have hs:DU y=U:=by
        unfold db at K
        cases W:x.aa[i]? with
        |none=>rw[W] at K;cases K
        |some r=>
         rw[W] at K
         simp only[qd] at K
         exact dV.1 (dV.1 F.2 r (fC W)) y (fC K)
       cases y with
       |s v=>
        obtain⟨C,h5⟩:=u3.s_inv
        rw[C];exact .s h5
       |l aa t o=>
        cases aa with
        |nil=>
         cases u3 with
         |l0 h=>exact .l0 h
         |l1 ho nf aA g S T=>simp at S;omega
        |cons r aa=>simp[DU] at hs
       |_=>simp[DU] at hs
      have N':=N.put H (aB b x D) hf (λc y E=>O b (by simp) x D c y E)
      obtain⟨e,q1,q2,q3,q4⟩:=ih (Go.Ab.put Yc d x) (upd βc (lA Yc d) (z b)) vs p.1 p.2 N' (by rw[Bf];exact H) (λb2 af x2 ak c y E=>by
       rcases pz H E with⟨az,aX⟩|⟨T,ay⟩
       ·rw[az,gx]
        intro he
        have:=s1.inj b b2 x x2 D ak he
        subst this
        exact aC af
       ·rw[iG T]
        exact O b2 (zu _ af) x2 ak c y ay) aq ag ah f
      refine⟨e,q1,λc y E=>?_,by simp[q3],λi v c B f=>?_⟩
      ·obtain⟨h3,C⟩:=q2 c y (uA H E)
       exact⟨h3,by rw[C,iG (AR E)]⟩
      ·cases i with
       |zero=>
        simp at B f
        subst B f
        obtain⟨al,aJ,rfl,S,hh,ao⟩:=oR M D
        obtain⟨h3,C⟩:=q2 (lA Yc d) x (iy H)
        rw[gx] at C
        have:=ba.m1 (κ:=κ) (w:=w') (β:=e) (n:=n) (cap:=al) h3 S (by rw[C];exact hh) ao k.pos
        rw[C] at this
        exact this
       |succ i=>exact q4 i v c B f
    ·rw[cj F] at a;cases a
  |_=>simp[gU] at a
end
def asf{P:Program}{G:nn}{κ:rm}{w:World}{Y:ae}{β:Id->Nat}{fn:FuncId}{j:List Value}{xs:List AV}{d:Nat}{K:AV->ae->Prop}
  (s:cv P κ w Y β)(hG:md G κ w Y β)(u:js κ w Y β j xs)(h:zJ P G fn xs Y d K):
  tJ P fn/\Calls P fn j.toArray w λe w'=>∃v D Y' g,e= .returned v/\K D Y'/\ba κ w' Y' g v D/\cv P κ w' Y' g/\dw w Y β w' Y' g:=by
 obtain⟨hd,t,cs,Y1,E,Y',o,T,X,hK⟩:=h
 have R:=te t
 have hF:∀k,κ.F k->k<w.heap.size:=λk B=>s.old k B
 have C:∀l,nN κ (kills Y l) β ⟨κ.F,w.heap.size⟩ eK β0:=λl k o M=>⟨o,λb y f=>by rw[py] at f;cases f⟩
 have z:nN κ Y β ⟨κ.F,w.heap.size⟩ eK β0:=λk o M=>⟨o,λb y f=>by rw[py] at f;cases f⟩
 have N:∀i x,xs[i]?=V x->iX (dG Y x)=U:=λi x u=>dV.1 hd _ (dN.2 ⟨x,fC u,rfl⟩)
 have s0:cv P ⟨κ.F,w.heap.size⟩ w eK β0:=⟨λb x f=>(by rw[py] at f;cases f),λb b' x x' f _ _=>(by rw[py] at f;cases f),hF,dA _⟩
 refine⟨o.1,(o.2 ⟨κ.F,w.heap.size⟩ w β0 j s0 (hG.conv z) ⟨by simp[u.1],λi v y hv p=>?_⟩).mono ?_⟩
 ·rw[ve] at p
  cases m:xs[i]? with
  |none=>rw[m] at p;cases p
  |some x=>
   rw[m] at p
   simp only[df,bE] at p
   subst p
   exact(yo (xK (l:=eB x) s (u.2 i v x hv m) (λb f=>f))).convA (N i x m) (C _)
 ·rintro e w' ⟨v,aa,O,hr,s1,n⟩
  have q:Below w.heap.size w w':=⟨n.os,n.tape,n.output,n.size,λk B=>n.keep k B (λb x f=>by rw[py] at f;cases f)⟩
  have r:∀b x,box Y1 b=V x->w.heap.size<=aa b:=λb x f=>by
   rcases n.fresh b x f with h|⟨b0,x0,H,_⟩
   ·exact h
   ·rw[py] at H;cases H
  cases hr with
  |@a vs cs S A W=>
   have N0:qp P w w' Y β Y β:=⟨rfl,λc y h=>⟨h,rfl⟩,λc y h=> .inl ⟨h,rfl⟩,s.inj,λc h=>h⟩
   obtain⟨g,Z,q2,q3,q4⟩:=aIG (κ:=κ) s1 r cs Y β vs E Y' N0 R (λb _ x f c y A O=>by
    have M:=s.lt A
    have h3:=r b x f
    omega) T S W X
   refine⟨_,_,Y',g,O,hK,?_,Z.sim s q,Z.ext s q⟩
   exact .a (by rw[q3];exact S) A q4
structure LoC(b:Id)(x1:bY)(Y0 Y1:ae):Prop where
 len:L Y1=L Y0
 lB:∀k,(aZ Y0 k).lB<=(aZ Y1 k).lB
 keep:∀c y,c≠b->box Y0 c=V y->box Y1 c=V y
 here:box Y1 b=V x1
def zH(P:Program)(G:nn)(fn:FuncId)(xs:List AV)(Y:ae)(K:AV->ae->Prop):Prop:=∃r b x a n,xs.head?=V (.m b n)/\box Y b=V x/\(qA a=U/\a.elem=x.elem/\a.size=x.size/\a.own=x.own/\a.var=x.var/\L a.aa=L x.aa)/\(r= .t []\/∃e,r= .m b e)/\(∀c,L c=L Y->(∀k∈xs.flatMap pP,aZ Y k=aZ c k)->∃d,cZ P G fn xs c r d/\LoC b a c d)/\K r (wr Y b a)
def ak0{P:Program}{G:nn}{fn:FuncId}{xs:List AV}{Y:ae}{K:AV->ae->Prop}:zH P G fn xs Y K↔∃c s,zH P G fn xs Y (λa b=>a=c/\b=s)/\K c s:=by unfold zH;constructor;rintro⟨r,b,x,i,n,d,e,f,g,h,j⟩;exact⟨_,_,⟨r,b,x,i,n,d,e,f,g,h,rfl,rfl⟩,j⟩;rintro⟨c,s,⟨r,b,x,i,n,d,e,f,g,h,rfl,rfl⟩,k⟩;exact⟨r,b,x,i,n,d,e,f,g,h,k⟩
def asc{P:Program}{G:nn}{κ:rm}{w:World}{Y:ae}{β:Id->Nat}{fn:FuncId}{m:List Value}{xs:List AV}{K:AV->ae->Prop}(s:cv P κ w Y β)(hG:md G κ w Y β)(hx:js κ w Y β m xs)(h:zH P G fn xs Y K):tJ P fn/\Calls P fn m.toArray w λe w'=>∃v av Y' C,e= .returned v/\K av Y'/\ba κ w' Y' C v av/\cv P κ w' Y' C/\dw w Y β w' Y' C:=by obtain⟨r,b,x,o,n,hh,g,⟨M,he,hz,hw,hv,hl⟩,hr,T,hK⟩:=h;obtain⟨Y1,p,lo⟩:=T Y rfl λ_ _=>rfl;refine⟨p.1,(p.2 κ w β m s hG hx).mono ?_⟩;rintro e w' ⟨v,B,k0,X,D,l⟩;have H:box (wr Y b o) b=V o:=lO g;have kp:Kp (wr Y b o) Y1:=(by refine⟨by rw[lo.len,wr,List.length_set],λk=>?_,λc y d=>?_⟩;by_cases hk:k=b.1;subst hk;rw[wr,iD (lN g)];exact lo.lB _;rw[wr,jQ hk];exact lo.lB _;rcases sL g d with⟨rfl,rfl⟩|⟨p,S⟩;exact lo.here;exact lo.keep c y p S);have al:∀c y,box (wr Y b o) c=V y->∃F,box Y c=V F:=λc y d=>(by rcases sL g d with⟨rfl,rfl⟩|⟨p,S⟩;exact⟨_,g⟩;exact⟨_,S⟩);have am:∀c y,box Y c=V y->∃E,box (wr Y b o) c=V E:=λc y d=>(by by_cases e:c=b;subst e;exact⟨_,H⟩;exact⟨_,DY g d e⟩);have e':dw w Y β w' (wr Y b o) B:=(by refine⟨l.os,l.tape,l.output,l.size,l.keep,λc d=>Ll g d,λc y d=>?_,λc y d=>?_⟩;obtain⟨E,A⟩:=am c y d;rcases l.live c y d with h|⟨x',q1,q2,q3,q4,Z,q6⟩;exact nl (kp.keep _ _ A) (λR=>qD h R);have:=kp.keep _ _ A;rw[q1] at this;cases this;exact .inr ⟨_,A,q2,q3,q4,Z,q6⟩;obtain⟨F,N⟩:=al c y d;rcases l.live c F N with h|⟨x',q1,q2,q3,q4,Z,q6⟩;exact nl (kp.keep _ _ d) (λR=>qD h R);exact .inr ⟨c,F,N,Z.symm⟩);have s':cv P κ w' (wr Y b o) B:=(by refine⟨λc y d=>?_,λc c' y E d ad e=>D.inj c c' y E (kp.keep _ _ d) (kp.keep _ _ ad) e,D.old,D.base⟩;have q:=D.ok c y (kp.keep _ _ d);refine⟨q.ow,q.nf,λO=>?_,q.sp⟩;have k:=q.cl O;obtain⟨cur,cap,p1,p2,p3,p4,p5⟩:=k.ex;refine⟨k.pos,k.info,k.rl,k.dt,cur,cap,p1,p2,p3,p4,λi j a f=>?_⟩;obtain⟨u,u1,u2,u3⟩:=p5 i j a f;refine⟨u,u1,u2,?_⟩;rcases sL g d with⟨rfl,rfl⟩|⟨aV,af⟩;have hs:gY a=U:=(by simp only[qA,bN] at M;unfold db at f;cases z:y.aa[i]? with|none=>rw[z] at f;cases f|some rr=>rw[z] at f;simp only[qd] at f;exact dV.1 (dV.1 M.2 rr (fC z)) a (fC f));(cases a<;>first|(simp[gY] at hs;done)|skip);obtain⟨h4,h5⟩:=u3.s_inv;rw[h4];exact .s h5;obtain⟨aB,az,_,_,_,_,g5⟩:=((s.ok c y af).cl O).ex;obtain⟨v0,_,_,g3⟩:=g5 i j a f;exact u3.shrink kp (g3.ext e'));refine⟨v,r,_,B,k0,hK,?_,s',e'⟩;rcases hr with rfl|⟨n',rfl⟩;(cases X with|t hl h=>exact .t hl λi v c hv d=>by simp at d);obtain⟨ay,aA,rfl,hn,ag,W⟩:=oR X lo.here;exact .m1 H hn ag W (nZ X lo.here)
def tS(P:Program)(G:nn)(fn:FuncId)(xs:List AV)(Y:ae)(d:Nat)(K:AV->ae->Prop):Prop:=zI P G fn xs Y d K\/zH P G fn xs Y K\/zJ P G fn xs Y d K
def asd{P:Program}{G:nn}{κ:rm}{w:World}{Y:ae}{β:Id->Nat}{fn:FuncId}{a:List Value}{xs:List AV}{d:Nat}{K:AV->ae->Prop}(s:cv P κ w Y β)(c:md G κ w Y β)(f:js κ w Y β a xs)(h:tS P G fn xs Y d K):tJ P fn/\Calls P fn a.toArray w λe w'=>∃v g Y' b,e= .returned v/\K g Y'/\ba κ w' Y' b v g/\cv P κ w' Y' b/\dw w Y β w' Y' b:=by rcases h with h|h|h;exact ase s c f h;exact asc s c f h;exact asf s c f h
def ak1{P:Program}{G:nn}{fn:FuncId}{xs:List AV}{Y:ae}{d:Nat}{K:AV->ae->Prop}:tS P G fn xs Y d K↔∃c s,tS P G fn xs Y d (λa b=>a=c/\b=s)/\K c s:=by unfold tS;constructor;rintro(h|h|h);obtain⟨c,s,e,f⟩:=ak2.1 h;exact⟨c,s, .inl e,f⟩;obtain⟨c,s,e,f⟩:=ak0.1 h;exact⟨c,s, .inr (.inl e),f⟩;obtain⟨c,s,e,f⟩:=ak3.1 h;exact⟨c,s, .inr (.inr e),f⟩;rintro⟨c,s,e|e|e,f⟩;exact .inl (ak2.2 ⟨c,s,e,f⟩);exact .inr (.inl (ak0.2 ⟨c,s,e,f⟩));exact .inr (.inr (ak3.2 ⟨c,s,e,f⟩))
def ge(τ:List AV)(d:Option Nat)(v:AV):List AV:=
 match d with
 |some d=>τ.set d v
 |none=>τ
def rh(ops:Array Oper)(τ:List AV)(o:Oper):Option Bool:=
 match o.guard with
 |none=>V U
 |some (j,c)=>
  match(ops[j]?).bind (·.dst) with
  |none=>V I
  |some t=>
   match τ[t]? with
   |some (.s (.bool b))=>V (b==c)
   |some (.t _)=>V I
   |none=>V I
   |_=>J
def Kh(P:Program)(G:nn)(fn:FuncId)(xs:List AV)(Y:ae)(K:AV->Prop):Prop:=∃r,zm P G fn (xs.map (dG Y)) (·=r)/\(xs.map (dG Y)).all iX=U/\kG r=U/\(nA Y xs=I\/uN r=U)/\K r
def j0(P:Program)(G:nn)(τ:List AV)(Y:ae)(o:Oper)(K:AV->ae->Prop):Prop:=
 match dz P (du G τ) Y o.op with
 |some b=>K b Y
 |none=>
  match eA P (du G τ) Y (o.dst.getD 0) o.op with
  |some (b,Y')=>K b Y'
  |none=>
   match o.op with
   | .call c=>
    match c.callee with
    | .value f=>
     match du G τ f with
     | .f fn first cap=>
      if G.nw fn=U then tS P G fn (first++c.args.toList.map (du G τ)++cap) Y (o.dst.getD 0) K
      else if G.imp fn=U then tR P G fn (first++c.args.toList.map (du G τ)++cap) Y (o.dst.getD 0) K
      else Kh P G fn (first++c.args.toList.map (du G τ)++cap) Y λr=>K r Y
     |_=>False
    |_=>False
   |_=>False
def kS(P:Program)(G:nn)(ops:Array Oper)(o:Oper)(K:List AV->ae->Prop)(τ:List AV)(Y:ae):Prop:=
 match rh ops τ o with
 |some true=>j0 P G τ Y o λb Y'=>K (ge τ o.dst b) Y'
 |some false=>K (ge τ o.dst (.t [])) Y
 |none=>False
def rE(P:Program)(G:nn)(ops:Array Oper):List Oper->(List AV->ae->Prop)->List AV->ae->Prop|[],K=>K|o::l,K=>kS P G ops o (rE P G ops l K)
structure jG(P:Program)(G:nn)(κ:rm)(a:Act)(w:World)(τ:List AV)(Y:ae)(β:Id->Nat):Prop where
 defers:a.defers=[]
 reps:js κ w Y β a.tmps.toList τ
 sim:cv P κ w Y β
 glob:md G κ w Y β
section
variable{P:Program}{G:nn}{κ:rm}{a:Act}{w w':World}{τ τ':List AV}{Y Y':ae}{β β':Id->Nat}
def js.ext{vs:List Value}{xs:List AV}(h:js κ w Y β vs xs)(e:dw w Y β w' Y' β'):js κ w' Y' β' vs xs:=⟨h.1,λi v x b c=>(h.2 i v x b c).ext e⟩
def js.get{vs:Array Value}{xs:List AV}(h:js κ w Y β vs.toList xs)(t:Nat):ba κ w Y β (vs.getD t undef) (xs.getD t .u):=by by_cases c:t<L xs;have d:t<L vs.toList:=(by rw[h.1];exact c);have g:vs.toList[t]?=V vs.toList[t]:=eC d;have b:xs[t]?=V xs[t]:=eC c;have:=h.2 t _ _ g b;have e:vs.getD t undef=vs.toList[t]:=(by have:t<vs.size:=(by simpa using d);simp[pZ,this]);have f:xs.getD t .u=xs[t]:=(by simp[GF,b]);rw[e,f];exact this;have:xs.getD t .u= .u:=(by simp[GF,qi (show L xs<=t by omega)]);rw[this];exact .u
def jG.eval(h:jG P G κ a w τ Y β)(x:Operand):ba κ w Y β (a.eval x) (du G τ x):=by cases x with|tmp t=>exact h.reps.get t|const v=>exact axB v|global g=>simp only[Act.eval,du];(cases b:G g with|none=>exact .u|some cs=>exact(h.glob g cs b).2)|func f=>exact .f rfl rfl (λi v c h=>by simp at h) (λi v c h=>by simp at h)
def js.set{vs:Array Value}{xs:List AV}{v:Value}{x:AV}(h:js κ w Y β vs.toList xs)(d:Nat)(g:ba κ w Y β v x):js κ w Y β (vs.setIfInBounds d v).toList (xs.set d x):=by refine⟨by simpa using h.1,λi u y b c=>?_⟩;rw[aqq,xh] at b;rw[xh] at c;by_cases e:d=i;rw[bX e] at b c;split at b;rename_i f;rw[bX (by rw[<-h.1];exact f)] at c;(cases b;cases c;exact g);(cases b);rw[cj e] at b c;exact h.2 i u y b c
def jG.put(h:jG P G κ a w τ Y β)(e:dw w Y β w' Y' β')(s:cv P κ w' Y' β')(d:Option Nat){v:Value}{x:AV}(b:ba κ w' Y' β' v x):jG P G κ (a.put d v) w' (ge τ d x) Y' β':=by cases d with|none=>exact⟨h.defers,h.reps.ext e,s,h.glob.ext e⟩|some d=>exact⟨h.defers,(h.reps.ext e).set d b,s,h.glob.ext e⟩
def QT:ba κ w Y β undef (.t []):= .t (vs:=[]) rfl (λi v c h=>by simp at h)
def apG{ops:Array Oper}{o:Oper}{b:Bool}(h:jG P G κ a w τ Y β)(d:rh ops τ o=V b):Region.wanted o (yielded ops a.tmps)=b:=by unfold rh at d;unfold Region.wanted;split at d;rename_i f;cases d;rw[f];rename_i j i f;rw[f];simp only;unfold yielded;cases n:(ops[j]?).bind (·.dst) with|none=>rw[n] at d;cases d;rfl|some t=>rw[n] at d;simp only[qd] at d⊢;by_cases g:t<L τ;have p:t<L a.tmps.toList:=(by rw[h.reps.1];exact g);have m:τ[t]?=V τ[t]:=eC g;have q:a.tmps[t]?=V (a.tmps.toList[t]):=(by have:t<a.tmps.size:=(by simpa using p);simp[this]);have k:=h.reps.2 t _ _ (eC p) m;rw[m] at d;rw[q];generalize a.tmps.toList[t]=v at*;generalize τ[t]=x at*;(cases x with|s u=>obtain⟨rfl,_⟩:=k.s_inv;(cases v<;>simp only at d<;>first|(cases d;done)|skip);(cases d);rename_i c;(cases c<;>cases i<;>rfl)|t vs=>(cases d);(cases k with|t=>rfl)|_=>cases d);have e:L τ<=t:=Nat.le_of_not_lt g;rw[qi e] at d;(cases d);have:a.tmps[t]?=J:=(by have l:=h.reps.1;simp only[Rz] at l;rw[aqj];rw[l];exact e);rw[this];rfl
def vE(P:Program)(G:nn)(κ:rm)(w:World)(Y:ae)(β:Id->Nat)(K:List AV->ae->Prop)(b:Act)(w':World):Prop:=∃τ' Y' β',K τ' Y'/\jG P G κ b w' τ' Y' β'/\dw w Y β w' Y' β'
def ash{o:Oper}{K:AV->ae->Prop}{N:Act->World->Prop}{Q:Exit->Act->World->Prop}(h:jG P G κ a w τ Y β)(b:j0 P G τ Y o K)(t:∀j Y' v w' β',K j Y'->ba κ w' Y' β' v j->cv P κ w' Y' β'->dw w Y β w' Y' β'->N (a.put o.dst v) w'):o.wp P a w N Q:=by unfold j0 at b;split at b;rename_i j u;obtain⟨v,m,s⟩:=aHZ h.sim h.eval u;unfold Oper.wp;rw[m];exact t j Y v w β b s h.sim (dw.refl _ _ _);split at b;rename_i j Y' he;obtain⟨nx,v,w',β',m,s,S,T,W⟩:=axL h.sim h.eval he;unfold Oper.wp;rw[m];rcases s with rfl|⟨rfl,rfl⟩;exact t j Y' v w' β' b S T W;exact t j Y' undef w' β' b S T W;split at b;rename_i c ac;split at b;rename_i f D;split at b;rename_i fn first cap hf;have H:=h.eval f;rw[hf] at H;generalize aa:a.eval f=fv at H;(cases H with|@f _ fs cs _ _ hl ab u ad=>have k:js κ w Y β (fs++c.args.toList.map a.eval++cs) (first++c.args.toList.map (du G τ)++cap):=(by have A:∀{vs M:List Value} {xs ys:List AV},js κ w Y β vs xs->js κ w Y β M ys->js κ w Y β (vs++M) (xs++ys):=λ{vs M xs ys} m s=>(by refine⟨by simp[m.1,s.1],λi v x d l=>?_⟩;rw[rA] at d l;rw[m.1] at d;split at d;rename_i E;rw[bX E] at l;exact m.2 i v x d l;rename_i E;rw[cj E] at l;exact s.2 _ v x d l);refine A (A ⟨hl,u⟩ ⟨by simp,λi v x d l=>?_⟩) ⟨ab,ad⟩;rw[ve] at d l;cases Z:c.args.toList[i]? with|none=>rw[Z] at d;cases d|some y=>rw[Z] at d l;cases d;cases l;exact h.eval y);have q:tJ P fn->(execOp a.eval o).run P w= .ok (.enter fn (fs++c.args.toList.map a.eval++cs).toArray) w:=(by rintro⟨fd,cd,e1,e2,e3⟩;have z:fs.toArray++Array.map a.eval c.args++cs.toArray=(fs++c.args.toList.map a.eval++cs).toArray:=(by rw[<-qb];simp);simp only[execOp,ac,resolve,D,aa,Deferred.ofValue,invoke,Sem.run_bind,Sem.run_pure,Result.andThen_ok,callFunc,z];have O:¬fd.name= "runtime.NumGoroutine" :=(by simpa using e3);simp[e1,e2,O]);split at b;obtain⟨n,g⟩:=asd h.sim h.glob k b;unfold Oper.wp;rw[q n];refine Calls.mono g ?_;rintro e w' ⟨v,j,Y',β',rfl,C,d,F,p⟩;exact t j Y' v w' β' C d F p;split at b;obtain⟨n,g⟩:=asb h.sim h.glob k b;unfold Oper.wp;rw[q n];refine Calls.mono g ?_;rintro e w' ⟨v,j,Y',β',rfl,C,d,F,p⟩;exact t j Y' v w' β' C d F p;obtain⟨r0,R,f2,B⟩:=b;have g:=axb h.sim h.glob k R f2 (λr u=>by subst u;exact⟨B.1,B.2.1⟩);unfold Oper.wp;rw[q R.1];refine Calls.mono g ?_;rintro e w' ⟨v,r,rfl,hR,d,X⟩;subst hR;exact t r Y v w' β B.2.2 d (Es h.sim X) (xJ h.sim X));exact b.elim;exact b.elim;exact b.elim
def ak5{ops:Array Oper}{o:Oper}{K:List AV->ae->Prop}{N:Act->World->Prop}{Q:Exit->Act->World->Prop}(h:jG P G κ a w τ Y β)(b:kS P G ops o K τ Y)(f:∀d w',vE P G κ w Y β K d w'->N d w'):if Region.wanted o (yielded ops a.tmps) then o.wp P a w N Q\/(o.asks P a w/\LetsOut Q) else N (a.put o.dst undef) w:=by unfold kS at b;split at b;rename_i c;rw[apG h c,bX rfl];left;refine ash h b (λj Y' v w' β' g i s e=>f _ _ ⟨_,_,β',g,h.put e s o.dst i,e⟩);rename_i c;rw[apG h c,cj (by simp)];exact f _ _ ⟨_,_,β,b,h.put (dw.refl _ _ _) h.sim o.dst QT,dw.refl _ _ _⟩;exact b.elim
def vE.trans{K:List AV->ae->Prop}{f:World}{c:ae}{b:Id->Nat}{d:Act}(h:vE P G κ w Y β K d w')(e:dw f c b w Y β):vE P G κ f c b K d w':=by obtain⟨τ',Y',β',g,i,j⟩:=h;exact⟨τ',Y',β',g,i,e.trans j⟩
def asm{ops:Array Oper}{Q:Exit->Act->World->Prop}{K:List AV->ae->Prop}:∀(l:List Oper) (k:Nat) {a:Act} {w:World} {τ:List AV} {Y:ae} {β:Id->Nat},ops.toList.drop k=l->jG P G κ a w τ Y β->rE P G ops l K τ Y->(∀c w',vE P G κ w Y β K c w'->Q .normal c w')->wpOps P ops Q (GO k (ops.size-k)) a w:=by intro l;induction l with|nil=>intro k a w τ Y β b h e d;have:ops.size-k=0:=(by have:=aC2 L b;simp at this;omega);rw[this];exact d a w ⟨τ,Y,β,e,h,dw.refl _ _ _⟩|cons o l r=>intro k a w τ Y β b h e d;have t:k<ops.size:=(by have:=aC2 L b;simp at this;omega);have q:ops[k]?=V o:=(by have:=aC2 (·[0]?) b;simp only[mf,kP,qh] at this;simpa using this);have f:ops.toList.drop (k+1)=l:=(by have:=aC2 GQ b;simpa using this);rw[show ops.size-k=(ops.size-(k+1))+1 by omega,RX];simp only[wpOps,q];refine ak5 h e (λc w' p=>?_);obtain⟨τ',Y',β',j,m,n⟩:=p;exact r (k+1) f m j (λi s g=>d i s (g.trans n))
end
def yf:Op->Bool| .move _| .assign _=>U|_=>I
def iU(E:Operand->AV)(op:Op):List Nat:=bif yf op then[] else op.operands.toList.flatMap λx=>cD (E x)
def aOt{E:Operand->AV}{op:Op}{x:Operand}{k:Nat}(h:yf op=I)(b:x∈op.operands.toList)(a:k∈cD (E x)):k∈iU E op:=by unfold iU;rw[h];exact iI.2 ⟨x,b,a⟩
def nQ{Y Y0:ae}{b:Id}(h:aZ Y b.1=aZ Y0 b.1):box Y b=box Y0 b:=by unfold box;rw[h]
def iL(Y Y0:ae)(ks:List Nat):Prop:=∀k∈ks,aZ Y k=aZ Y0 k
def RG(E E0:Operand->AV)(Y Y0:ae)(x:Operand):Prop:=E x=E0 x/\iL Y Y0 (cD (E x))
section
variable{P:Program}{E E0:Operand->AV}{Y Y0:ae}
def yF{b:Id}{i j:Nat}(h:iL Y Y0 (cD (.p b i j))):box Y b=box Y0 b:=nQ (h _ (by simp[cD,dC,dK]))
def yE{b:Id}{n:Nat}(h:iL Y Y0 (cD (.m b n))):box Y b=box Y0 b:=nQ (h _ (by simp[cD,dC,dK]))
def Q3{k:Nat}{b:Id}{o n:Nat}(h:iL Y Y0 (cD (.g k b o n))):box Y b=box Y0 b:=nQ (h _ (by simp[cD,dC,dK]))
def aE8{x:AV}(h:iL Y Y0 (cD x)):iE Y x=iE Y0 x:=by(cases x<;>simp only[iE]);rw[yF h]
def azR{s:TypeId}{x:AV}{f:Nat}(h:iL Y Y0 (cD x)):vX P Y s x f=vX P Y0 s x f:=by(cases x<;>simp only[vX]);rw[yF h]
def aB3{t:TypeId}{x:AV}{i:Nat}(h:iL Y Y0 (cD x)):uy P Y t x i=uy P Y0 t x i:=by(cases x<;>simp only[uy]);rw[yF h];rw[yE h];rw[Q3 h]
def aIn{t:TypeId}{x:AV}{lo a mx:Option Nat}(h:iL Y Y0 (cD x)):uX P Y t x lo a mx=uX P Y0 t x lo a mx:=by(cases x<;>simp only[uX]);rw[yE h]
def aC8{t:TypeId}{x:AV}(h:iL Y Y0 (cD x)):aPH P Y t x=aPH P Y0 t x:=by unfold aPH;split;rw[yE h];rw[Q3 h];rfl
def aDo{a:MT}{x ix:AV}{b:Bool}(h:iL Y Y0 (cD x)):oP a Y x ix b=oP a Y0 x ix b:=by unfold oP;split;rw[Q3 h];rfl
def Kn{x:Option Operand}(h:∀y,x=V y->E y=E0 y):rH E x=rH E0 x:=by cases x with|none=>rfl|some y=>simp only[rH];rw[h y rfl]
def aHY{op:Op}(h:∀x∈op.operands.toList,RG E E0 Y Y0 x):dz P E Y op=dz P E0 Y0 op:=by cases op with|move x=>simp only[dz];rw[(h x (by simp[Op.operands])).1]|assign x=>simp only[dz];rw[(h x (by simp[Op.operands])).1]|pick c a b=>simp only[dz];rw[(h c (by simp[Op.operands])).1,(h a (by simp[Op.operands])).1,(h b (by simp[Op.operands])).1]|load t x=>obtain⟨e,k⟩:=h x (by simp[Op.operands]);simp only[dz];rw[<-e,aE8 k]|nilCheck x=>obtain⟨e,k⟩:=h x (by simp[Op.operands]);simp only[dz];rw[<-e];(cases j:E x<;>simp only);rw[j] at k;rw[yF k]|binOp op ty x y _=>simp only[dz];rw[(h x (by simp[Op.operands])).1,(h y (by simp[Op.operands])).1]|unOp op _ x=>simp only[dz];rw[(h x (by simp[Op.operands])).1]|convert s d x=>simp only[dz];rw[(h x (by simp[Op.operands])).1]|fieldAddr s x f=>obtain⟨e,k⟩:=h x (by simp[Op.operands]);simp only[dz];rw[<-e,azR k]|field t x f=>simp only[dz];rw[(h x (by simp[Op.operands])).1]|indexAddr t x ix=>obtain⟨e,k⟩:=h x (by simp[Op.operands]);simp only[dz];rw[<-e,(h ix (by simp[Op.operands])).1];simp only[aB3 k]|index t x ix=>simp only[dz];rw[(h x (by simp[Op.operands])).1,(h ix (by simp[Op.operands])).1]|extract x i=>simp only[dz];rw[(h x (by simp[Op.operands])).1]|lookup t x ix w=>obtain⟨e,k⟩:=h x (by simp[Op.operands]);simp only[dz];rw[<-e,<-(h ix (by simp[Op.operands])).1];(cases r9 P t with|none=>rfl|some v=>exact aDo k)|slice t x lo r mx=>obtain⟨e,k⟩:=h x (by simp[Op.operands]);simp only[dz];rw[<-e,Kn (x:=lo) (λy n=>(h y (by simp[Op.operands,n])).1),Kn (x:=r) (λy n=>(h y (by simp[Op.operands,n])).1),Kn (x:=mx) (λy n=>(h y (by simp[Op.operands,n])).1)];simp only[aIn k]|makeFunc c first cap=>(cases c<;>simp only[dz]);rw[ja (f:=E) (g:=E0) (l:=first.toList) (λx j=>(h x (by simp[Op.operands,vj.1 j])).1),ja (f:=E) (g:=E0) (l:=cap.toList) (λx j=>(h x (by simp[Op.operands,vj.1 j])).1)]|call c=>simp only[dz];(cases q:c.callee with|builtin b=>have m:∀x∈c.args.toList,RG E E0 Y Y0 x:=λx j=>h x (by simp[Op.operands,Call.operands,q,vj.1 j]);simp only;unfold nP;split;split;rename_i t x u p;have j:x∈c.args.toList:=(by rw[<-Array.getElem?_toList] at p;exact fC p);obtain⟨e,k⟩:=m x j;rw[<-e,aC8 k];rfl;split;rename_i x y o;rw[o] at m;rw[(m x (by simp)).1,(m y (by simp)).1];rfl;split;rename_i x y o;rw[o] at m;rw[(m x (by simp)).1,(m y (by simp)).1];rfl;rfl|_=>rfl)|_=>rfl
def aom{op:Op}(a:∀x∈op.operands.toList,E x=E0 x)(e:∀k∈iU E op,aZ Y k=aZ Y0 k):dz P E Y op=dz P E0 Y0 op:=by cases b:yf op with|false=>exact aHY λx c=>⟨a x c,λk d=>e k (aOt b c d)⟩|true=>(cases op<;>first|(simp[yf] at b;done)|skip);simp only[dz];rw[a _ (by simp[Op.operands])];simp only[dz];rw[a _ (by simp[Op.operands])]
end
def Ag(ks:List Nat)(Y Y0:ae):Prop:=L Y=L Y0/\iL Y Y0 ks
def vF(ks:List Nat)(Y Y':ae):Prop:=L Y'=L Y/\∀k,k∉ks->aZ Y' k=aZ Y k
def St(ks:List Nat)(Y Y0 Y' Y0':ae):Prop:=Ag ks Y' Y0'/\vF ks Y Y'/\vF ks Y0 Y0'
def LR(ks:List Nat)(Y Y0:ae)(x y:Option (AV×ae)):Prop:=(x=J/\y=J)\/∃a Y' Y0',x=V (a,Y')/\y=V (a,Y0')/\St ks Y Y0 Y' Y0'
section
variable{P:Program}{E E0:Operand->AV}{Y Y0 Y' Y0' Y'' Y0'':ae}{ks:List Nat}
def St.refl(h:Ag ks Y Y0):St ks Y Y0 Y Y0:=⟨h,⟨rfl,λ_ _=>rfl⟩,⟨rfl,λ_ _=>rfl⟩⟩
def vF.trans(h:vF ks Y Y')(a:vF ks Y' Y''):vF ks Y Y'':=⟨a.1.trans h.1,λk b=>(a.2 k b).trans (h.2 k b)⟩
def St.trans(h:St ks Y Y0 Y' Y0')(a:St ks Y' Y0' Y'' Y0''):St ks Y Y0 Y'' Y0'':=⟨a.1,h.2.1.trans a.2.1,h.2.2.trans a.2.2⟩
def D4(Y:ae)(k j:Nat)(v:vG):aZ (Y.set k v) j=if k=j/\k<L Y then v else aZ Y j:=by unfold aZ;rw[eI,eI,xh];by_cases h:k=j;subst h;by_cases a:k<L Y;simp[a];simp[a];simp[h]
def St.set(h:Ag ks Y Y0){k:Nat}(b:k∈ks)(v:vG):St ks Y Y0 (Y.set k v) (Y0.set k v):=by refine⟨⟨by simp[h.1],λj a=>?_⟩,⟨by simp,λj a=>?_⟩,⟨by simp,λj a=>?_⟩⟩;rw[D4,D4,h.1,h.2 j a];rw[D4,cj];rintro⟨rfl,_⟩;exact a b;rw[D4,cj];rintro⟨rfl,_⟩;exact a b
def St.put(h:Ag ks Y Y0){d:Nat}(a:d∈ks)(x:bY):St ks Y Y0 (put Y d x) (put Y0 d x):=by unfold Ab.put;rw[<-h.2 d a];exact .set h a _
def uI(h:Ag ks Y Y0){d:Nat}(a:d∈ks):lA Y0 d=lA Y d:=by unfold lA;rw[h.2 d a]
def St.kill(h:Ag ks Y Y0){b:Id}(a:b.1∈ks):St ks Y Y0 (kill Y b) (kill Y0 b):=by unfold Ab.kill;rw[<-h.2 _ a];exact .set h a _
def St.wr(h:Ag ks Y Y0){b:Id}(a:b.1∈ks)(x:bY):St ks Y Y0 (wr Y b x) (wr Y0 b x):=by unfold Ab.wr;rw[<-h.2 _ a];exact .set h a _
def St.kills:∀(l:List Id) {Y Y0:ae},Ag ks Y Y0->(∀b∈l,b.1∈ks)->St ks Y Y0 (kills Y l) (kills Y0 l):=by intro l;induction l with|nil=>intro Y Y0 h _;exact .refl h|cons b l i=>intro Y Y0 h a;have d:=a b (by simp);have e:box Y b=box Y0 b:=nQ (h.2 _ d);have f:St ks Y Y0 (if(box Y b).isSome then Ab.kill Y b else Y) (if(box Y0 b).isSome then Ab.kill Y0 b else Y0):=(by rw[<-e];split;exact .kill h d;exact .refl h);exact f.trans (i f.1 (λc g=>a c (by simp[g])))
def ye(h:Ag ks Y Y0)(d:Nat):y7 Y0 d=y7 Y d:=by unfold y7;rw[h.1]
def amf{x:AV}(h:iL Y Y0 (dK x)):gi Y x=gi Y0 x:=by cases x with|m b n=>simp only[gi];rw[nQ (h _ (by simp[dK]))]|_=>rfl
def iL.of_mem{l:List AV}{f:AV->List Nat}(h:iL Y Y0 (l.flatMap f)){x:AV}(b:x∈l):iL Y Y0 (f x):=λk a=>h k (iI.2 ⟨x,b,a⟩)
def amh{x:AV}(h:iL Y Y0 (dC x)):eR Y x=eR Y0 x:=by cases x with|a cs=>simp only[eR];rw[ja (λx c=>amf (iL.of_mem (f:=dK) h c))]|m b n=>exact amf (x:= .m b n) h|_=>rfl
def DZ{x:AV}{k:Nat}(h:k∈dC x):k∈cD x:=by cases x with|f fn a b=>simp[dC,dK] at h|_=>exact h
def ami{x:AV}(h:iL Y Y0 (cD x)):eR Y x=eR Y0 x:=amh (λk a=>h k (DZ a))
def aH2{q:Bool}{x:AV}(h:iL Y Y0 (cD x)):aEx q Y x=aEx q Y0 x:=by(cases x<;>simp only[aEx]);rw[yE h]
def aIK{x:AV}(h:iL Y Y0 (cD x)):aBG Y x=aBG Y0 x:=by(cases x<;>simp only[aBG]);rw[yF h]
def amC{x:AV}{b:Id}(h:b∈iR x):b.1∈dK x:=by(cases x<;>simp[iR,dK] at h⊢);rw[h]
def Nx{x:AV}{b:Id}(h:b∈eB x):b.1∈cD x:=by apply DZ;cases x with|a cs=>simp only[eB,iI,dC] at h⊢;obtain⟨y,c,d⟩:=h;exact⟨y,c,amC d⟩|m b n=>exact amC (x:= .m b n) h|_=>simp[eB,iR] at h
def LR.same(h:Ag ks Y Y0)(x:Option AV):LR ks Y Y0 (x.map λa=>(a,Y)) (x.map λa=>(a,Y0)):=by cases x with|none=>exact .inl ⟨rfl,rfl⟩|some a=>exact .inr ⟨a,Y,Y0,rfl,rfl, .refl h⟩
def LR.none:LR ks Y Y0 J J:= .inl ⟨rfl,rfl⟩
def LR.some{a:AV}(h:St ks Y Y0 Y' Y0'):LR ks Y Y0 (V (a,Y')) (V (a,Y0')):= .inr ⟨a,Y',Y0',rfl,rfl,h⟩
def LR.ite{c:Prop}[Decidable c]{x y x' a:Option (AV×ae)}(b:c->LR ks Y Y0 x x')(d:¬c->LR ks Y Y0 y a):LR ks Y Y0 (if c then x else y) (if c then x' else a):=by split;exact b ‹_›;exact d ‹_›
def LR.step{x y:Option (AV×ae)}(h:St ks Y Y0 Y' Y0')(k:LR ks Y' Y0' x y):LR ks Y Y0 x y:=by rcases k with k|⟨a,s,s0,b,c,d⟩;exact .inl k;exact .inr ⟨a,s,s0,b,c,h.trans d⟩
def avv{q:Bool}{d:Nat}{t:TypeId}{s x:AV}(h:Ag ks Y Y0)(e:d∈ks)(g:∀k∈cD s,k∈ks)(o:∀k∈cD x,k∈ks):LR ks Y Y0 (tV q P Y d t s x) (tV q P Y0 d t s x):=by have ks':iL Y Y0 (cD s):=λk f=>h.2 k (g k f);have i:iL Y Y0 (cD x):=λk f=>h.2 k (o k f);unfold tV;rw[<-aH2 i];split;split;refine LR.ite (λc=>?_) (λc=>?_);(cases s<;>simp only<;>first|exact LR.none|exact LR.some (.refl h)|skip);rw[<-yE ks'];rename_i b n;(cases box Y b with|none=>exact LR.none|some _=>exact LR.some (.refl h));rw[ye h,uI h e];refine LR.ite (λc=>?_) (λc=>LR.none);(cases s with|l aa a own=>(cases a with|false=>exact LR.none|true=>exact LR.ite (λ_=>LR.some (.put h e _)) (λ_=>LR.none))|m b n=>simp only;rw[<-yE ks'];(cases r:box Y b with|none=>exact LR.none|some p=>refine LR.ite (λ_=>?_) (λ_=>LR.none);have j:St ks Y Y0 (kill Y b) (kill Y0 b):= .kill h (g _ (by simp[cD,dC,dK]));exact LR.some (j.trans (.put j.1 e _)))|_=>exact LR.none);exact LR.none;exact LR.none
def aoJ{t:TypeId}{x v:AV}(h:Ag ks Y Y0)(a:∀k∈cD x,k∈ks):LR ks Y Y0 ((ra P Y t x v).map λY'=>(AV.t [],Y')) ((ra P Y0 t x v).map λY'=>(AV.t [],Y')):=by have c:iL Y Y0 (cD x):=λk e=>h.2 k (a k e);cases x with|p b i j=>simp only[ra];rw[<-yF c];(cases box Y b with|none=>exact LR.none|some d=>cases eY v with|none=>exact LR.none|some cs=>simp only;cases d.aa[i]? with|none=>exact LR.none|some r=>simp only;split;exact LR.some (.wr h (a _ (by simp[cD,dC,dK])) _);exact LR.none)|_=>exact LR.none
def aDY{d:Nat}{t:TypeId}{l c:Int}(h:Ag ks Y Y0)(a:d∈ks):LR ks Y Y0 (wA P Y d t l c) (wA P Y0 d t l c):=by unfold wA;split;split;rw[ye h,uI h a];exact LR.ite (λ_=>LR.some (.put h a _)) (λ_=>LR.none);exact LR.none;exact LR.none
def axg{z:Value}{x:AV}(h:Ag ks Y Y0)(c:∀k∈cD x,k∈ks):LR ks Y Y0 ((pA z Y x).map λY'=>(AV.t [],Y')) ((pA z Y0 x).map λY'=>(AV.t [],Y')):=by unfold pA;split;exact LR.some (.refl h);rename_i b o n;have a:b.1∈ks:=c _ (by simp[cD,dC,dK]);rw[<-nQ (h.2 _ a)];split;split;exact LR.some (.wr h a _);exact LR.none;exact LR.none;exact LR.none
def aD8{c:MT}{x k v:AV}(h:Ag ks Y Y0)(d:∀k∈cD x,k∈ks):LR ks Y Y0 ((muA c Y x k v).map λY'=>(AV.t [],Y')) ((muA c Y0 x k v).map λY'=>(AV.t [],Y')):=by unfold muA;split;rename_i b _ _ kv e _;have a:b.1∈ks:=d _ (by simp[cD,dC,dK]);rw[<-nQ (h.2 _ a)];split;split;split;split;exact LR.some (.wr h a _);exact LR.none;exact LR.none;exact LR.none;exact LR.none;exact LR.none
def aEy{x:AV}(h:Ag ks Y Y0)(c:∀k∈cD x,k∈ks):LR ks Y Y0 (se Y x) (se Y0 x):=by unfold se;split;rename_i b _ _;have a:b.1∈ks:=c _ (by simp[cD,dC,dK]);rw[<-nQ (h.2 _ a)];split;split;split;split;exact LR.some (.wr h a _);exact LR.some (.refl h);exact LR.none;exact LR.none;exact LR.none;exact LR.none
def aOF(E:Operand->AV)(Y:ae)(op:Op):List Nat:=
 match op with
 | .store _ x _=>if aBG Y (E x)=U then cD (E x) else iU E op
 |_=>iU E op
def a6O{E:Operand->AV}{Y:ae}{op:Op}{k:Nat}(h:k∈aOF E Y op):k∈iU E op:=by cases op with|store t x v=>simp only[aOF] at h;split at h;exact aOt rfl (by simp[Op.operands]) h;exact h|_=>exact h
def a6P{E:Operand->AV}{Y:ae}{t:TypeId}{x v:Operand}{k:Nat}(h:k∈cD (E x)):k∈aOF E Y (.store t x v):=by simp only[aOF];split;exact h;exact aOt rfl (by simp[Op.operands]) h
def wT:Op->Bool| .store .. | .build .. | .buildSlice .. | .mapUpdate .. | .next .. =>I|_=>U
def axK{op:Op}{d:Nat}(h:Ag ks Y Y0)(j:∀x∈op.operands.toList,E x=E0 x)(N:∀k∈iU E op,k∈ks)(n:(wT op||aO3 P op)=U->d∈ks):LR ks Y Y0 (eA P E Y d op) (eA P E0 Y0 d op):=by by_cases B:yf op=U;(cases op<;>first|(simp[yf] at B;done)|exact LR.none);have m:∀x∈op.operands.toList,∀k∈cD (E x),k∈ks:=λx A k o=>N k (aOt (by simpa using B) A o);cases op with|alloc e=>have i:=n rfl;simp only[eA];split;rw[ye h,uI h i];exact LR.ite (λ_=>LR.some (.put h i _)) (λ_=>LR.none);exact LR.none|box e x=>have i:=n rfl;simp only[eA];rw[<-j x (by simp[Op.operands])];split;rw[ye h,uI h i];exact LR.ite (λ_=>LR.some (.put h i _)) (λ_=>LR.none);exact LR.none|build t f=>simp only[eA];rw[ja (g:=λp=>(p.1,E0 p.2)) (λp q=>by rw[j p.2 (by simp only[Op.operands];exact CA q)])];have:=LR.same (ks:=ks) h ((vS P t (f.toList.map λp=>(p.1,E0 p.2))).map AV.a);simpa[Option.map_map,Function.comp_def] using this|buildSlice t len f=>simp only[eA];by_cases w:aPm P t=U;have i:d∈ks:=n (by simp[aO3,w]);rw[bX w,bX w,ja (g:=λp=>(p.1,E0 p.2)) (λp q=>by rw[j p.2 (by simp only[Op.operands];exact CA q)])];unfold lvA;split;split;rw[ye h,uI h i];exact LR.ite (λ_=>LR.some (.put h i _)) (λ_=>LR.none);exact LR.none;exact LR.none;rw[cj w,cj w];have q:∀p∈f.toList,p.2∈(Op.buildSlice t len f).operands.toList:=λp q=>(by simp only[Op.operands];exact CA q);have K:(f.toList.map λp=>(p.1,nrm (eR Y0 (E0 p.2))))=f.toList.map λp=>(p.1,nrm (eR Y (E p.2))):=ja (λp u=>by rw[<-j _ (q p u),ami (λk o=>h.2 k (m _ (q p u) k o))]);have M:(f.toList.flatMap λp=>eB (E0 p.2))=f.toList.flatMap λp=>eB (E p.2):=(by rw[GD,GD];congr 1;exact ja (λp u=>by rw[<-j _ (q p u)]));rw[K,M];(cases xB P t len (f.toList.map λp=>(p.1,nrm (eR Y (E p.2)))) with|none=>exact LR.none|some aa=>refine LR.some (.kills _ h (λb C=>?_));obtain⟨p,u,F⟩:=iI.1 C;exact m _ (q p u) _ (Nx F))|makeSlice t l c=>have i:=n rfl;simp only[eA];rw[<-j l (by simp[Op.operands]),<-j c (by simp[Op.operands])];split;exact aDY h i;exact LR.none|store t x v=>simp only[eA];have A:=m x (by simp[Op.operands]);have G:=m v (by simp[Op.operands]);rw[<-j x (by simp[Op.operands]),<-j v (by simp[Op.operands]),<-aIK (λk o=>h.2 k (A k o)),<-ami (λk o=>h.2 k (G k o))];refine LR.ite (λ_=>aoJ h A) (λ_=>?_);have H:St ks Y Y0 (kills Y (eB (E v))) (kills Y0 (eB (E v))):= .kills _ h (λb C=>G _ (Nx C));exact LR.step H (aoJ H.1 A)|call c=>have i:=n rfl;simp only[eA];split;rename_i D;have y:∀x∈c.args.toList,x∈(Op.call c).operands.toList:=λx A=>(by simp[Op.operands,Call.operands,D,vj.1 A]);split;rename_i s x t S w O;rw[w] at y;rw[<-j s (y s (by simp)),<-j x (y x (by simp))];exact LR.ite (λ_=>avv h i (m s (y s (by simp))) (m x (y x (by simp)))) (λ_=>LR.none);exact LR.none;rename_i D;have y:∀x∈c.args.toList,x∈(Op.call c).operands.toList:=λx A=>(by simp[Op.operands,Call.operands,D,vj.1 A]);split;rename_i x t w O;rw[w] at y;rw[<-j x (y x (by simp))];(cases xD P t with|none=>exact LR.none|some z=>exact axg h (m x (y x (by simp))));exact LR.none;exact LR.none|makeMap t r=>have i:=n rfl;simp only[eA];(cases r with|none=>simp only[oS];rw[ye h,uI h i];exact LR.ite (λ_=>LR.some (.put h i _)) (λ_=>LR.none)|some _=>exact LR.none)|mapUpdate t x k v=>simp only[eA];rw[<-j x (by simp[Op.operands]),<-j k (by simp[Op.operands]),<-j v (by simp[Op.operands])];(cases r9 P t with|none=>exact LR.none|some R=>exact aD8 h (m x (by simp[Op.operands])))|range t x=>have i:=n rfl;simp only[eA];rw[<-j x (by simp[Op.operands])];split;unfold tu;split;rw[ye h,uI h i];exact LR.ite (λ_=>LR.some (.put h i _)) (λ_=>LR.none);exact LR.none;exact LR.none|next x st=>simp only[eA];rw[<-j x (by simp[Op.operands])];exact LR.ite (λ_=>aEy h (m x (by simp[Op.operands]))) (λ_=>LR.none)|_=>exact LR.none
def bbg{op:Op}{d:Nat}(h:Ag ks Y Y0)(e:∀x∈op.operands.toList,E x=E0 x)(g:∀k∈aOF E Y op,k∈ks)(f:(wT op||aO3 P op)=U->d∈ks):LR ks Y Y0 (eA P E Y d op) (eA P E0 Y0 d op):=by by_cases i:∃t x v,op= .store t x v/\aBG Y (E x)=U;obtain⟨t,x,v,rfl,b⟩:=i;have j:∀k∈cD (E x),k∈ks:=λk a=>g k (a6P a);simp only[eA];rw[<-e x (by simp[Op.operands]),<-e v (by simp[Op.operands]),<-aIK (λk a=>h.2 k (j k a)),bX b,bX b];exact aoJ h j;refine axK h e (λk c=>g k ?_) f;cases op with|store t x v=>simp only[aOF];rw[cj λb=>i ⟨t,x,v,rfl,b⟩];exact c|_=>exact c
end
section
variable{P:Program}{G:nn}{Y Y0:ae}{ks:List Nat}
def Ag.all(h:Ag (vO Y) Y Y0):Y0=Y:=by refine aqI λk=>?_;rcases jj k (L Y) with a|a;have b:=h.2 k (fq.2 a);have c:k<L Y0:=(by rw[<-h.1];exact a);unfold aZ at b;rw[eI,eI,eC a,eC c] at b;rw[eC a,eC c];simp only[mi] at b;rw[b];rw[qi a,qi (by rw[<-h.1];exact a)]
def St.all{Y':ae}(d:L Y'=L Y):St (vO Y) Y Y Y' Y':=by
 have b:vF (vO Y) Y Y':=⟨d,λk c=>by
  have a:L Y<=k:=by
   rcases jj k (L Y) with h|h
   ·exact nl (fq.2 h) c
   ·exact h
  unfold aZ
  rw[eI,eI,qi a,qi (by omega)]⟩
 exact⟨⟨rfl,λk _=>rfl⟩,b,b⟩
end
abbrev fY:=Bool×List Nat
def NC:Op->Bool| .build .. =>U|_=>I
def vT(G:nn)(τ:List AV)(Y:ae)(o:Oper):fY:=
 match o.op with
 | .call c=>
  match c.callee with
  | .value f=>
   match du G τ f with
   | .f fn first cap=>if G.nw fn=U then(I,iU (du G τ) o.op++[o.dst.getD 0]) else if G.imp fn=U then(G.rd fn,aQn G fn Y) else(U,iU (du G τ) o.op)
   |_=>(U,[])
  |_=>(U,[])
 |_=>(U,[])
def C4(P:Program)(G:nn)(ops:Array Oper)(τ:List AV)(Y:ae)(o:Oper):fY:=
 match rh ops τ o with
 |some true=>
  match dz P (du G τ) Y o.op,eA P (du G τ) Y (o.dst.getD 0) o.op with
  |some _,_=>(U,iU (du G τ) o.op)
  |none,some _=>(NC o.op,aOF (du G τ) Y o.op++if(wT o.op||aO3 P o.op)=U then[o.dst.getD 0] else[])
  |none,none=>vT G τ Y o
 |_=>(U,[])
abbrev tok:Nat:=5000
def okT(a b:fY):Bool:=a.1||b.1
def eL(a b:fY):Bool:=(a.1&&b.1)||a.2.all λk=>!b.2.contains k
def Ej(ops:Array Oper)(x y:Oper)(a b:fY):Bool:=x.apart ops y&&eL a b
section
variable{P:Program}{G:nn}{ops:Array Oper}{τ τ0 τ1 τ2 τ':List AV}{Y Y0 Y1 Y2 Y':ae}
def aNM(P:Program)(G:nn)(ops:Array Oper)(o:Oper)(τ:List AV)(Y:ae)(τ':List AV)(Y':ae):Prop:=kS P G ops o (λa b=>a=τ'/\b=Y') τ Y
def CT{o:Oper}{K:AV->ae->Prop}:j0 P G τ Y o K↔∃e Y',j0 P G τ Y o (λa b=>a=e/\b=Y')/\K e Y':=by unfold j0;split;exact⟨λh=>⟨_,_,⟨rfl,rfl⟩,h⟩,λ⟨_,_,⟨c,d⟩,h⟩=>by subst c d;exact h⟩;split;exact⟨λh=>⟨_,_,⟨rfl,rfl⟩,h⟩,λ⟨_,_,⟨c,d⟩,h⟩=>by subst c d;exact h⟩;split;split;split;split;exact ak1;split;exact Ki;exact⟨λ⟨r,c,d,f,g,i⟩=>⟨r,Y,⟨r,c,d,f,g,rfl,rfl⟩,i⟩,λ⟨e,s,⟨r,c,d,f,g,i,j⟩,h⟩=>by subst i j;exact⟨r,c,d,f,g,h⟩⟩;exact⟨λh=>h.elim,λ⟨_,_,h,_⟩=>h.elim⟩;exact⟨λh=>h.elim,λ⟨_,_,h,_⟩=>h.elim⟩;exact⟨λh=>h.elim,λ⟨_,_,h,_⟩=>h.elim⟩
def oE{o:Oper}{K:List AV->ae->Prop}:kS P G ops o K τ Y↔∃τ' Y',aNM P G ops o τ Y τ' Y'/\K τ' Y':=by unfold aNM kS;split;constructor;intro h;obtain⟨c,s,a,b⟩:=CT.1 h;exact⟨_,_,CT.2 ⟨c,s,a,rfl,rfl⟩,b⟩;rintro⟨t,s,a,b⟩;obtain⟨c,s',d,e,f⟩:=CT.1 a;subst e f;exact CT.2 ⟨c,s',d,b⟩;exact⟨λh=>⟨_,_,⟨rfl,rfl⟩,h⟩,λ⟨_,_,⟨a,b⟩,h⟩=>by subst a b;exact h⟩;exact⟨λh=>h.elim,λ⟨_,_,h,_⟩=>h.elim⟩
def aEB{x:Operand}(h:∀t,x= .tmp t->τ0[t]?=τ[t]?):du G τ0 x=du G τ x:=by cases x with|tmp t=>simp only[du,eI];rw[h t rfl]|_=>rfl
def yl{o:Oper}(h:∀t∈o.looksAt ops,τ0[t]?=τ[t]?):∀x∈o.op.operands.toList,du G τ0 x=du G τ x:=λx b=>
 aEB (λt a=>h t (by
  unfold Oper.looksAt
  refine qk _ (List.mem_filterMap.2 ⟨x,b,?_⟩)
  rw[a]))
def r8{o:Oper}(h:∀t∈o.looksAt ops,τ0[t]?=τ[t]?):rh ops τ0 o=rh ops τ o:=by unfold rh;cases b:o.guard with|none=>rfl|some g=>obtain⟨j,c⟩:=g;simp only;cases a:(ops[j]?).bind (·.dst) with|none=>rfl|some t=>simp only;rw[h t (by unfold Oper.looksAt;rw[b];simp[a])]
def Qe{E E0:Operand->AV}{op:Op}(h:∀x∈op.operands.toList,E0 x=E x):iU E0 op=iU E op:=by unfold iU;congr 1;rw[GD,GD,ja (λx a=>by rw[h x a])]
def bdE{E E0:Operand->AV}{op:Op}(h:∀x∈op.operands.toList,E0 x=E x)(b:∀k∈aOF E Y op,aZ Y k=aZ Y0 k):aOF E0 Y0 op=aOF E Y op:=by cases op with|store t x v=>have e:aBG Y0 (E x)=aBG Y (E x):=(aIK λk a=>b k (a6P a)).symm;simp only[aOF,h x (by simp[Op.operands]),Qe h,e]|_=>exact Qe h
def alh{x:AV}(h:iL Y Y0 (dC x)):dG Y x=dG Y0 x:=by unfold dG;rw[amh h]
def amD{x:AV}{b:Id}(h:b∈eB x):b.1∈dC x:=by have:=Nx h;cases x with|f fn a b=>simp[eB,iR] at h|_=>exact this
def aC9{xs:List AV}(h:∀x∈xs,iL Y Y0 (dC x)):nA Y xs=nA Y0 xs:=by unfold nA;rw[Bool.eq_iff_iff,tL,tL];constructor;rintro⟨x,d,a⟩;refine⟨x,d,?_⟩;rw[tL] at a⊢;obtain⟨b,c,e⟩:=a;exact⟨b,c,by rw[<-nQ (h x d _ (amD c))];exact e⟩;rintro⟨x,d,a⟩;refine⟨x,d,?_⟩;rw[tL] at a⊢;obtain⟨b,c,e⟩:=a;exact⟨b,c,by rw[nQ (h x d _ (amD c))];exact e⟩
def aIH{ks:List Nat}{i:ae}{d:Nat}:∀{cs:List AV} {Y Y0:ae} {f:List AV} {s':ae},Ag ks Y Y0->d∈ks->gU i d Y cs=V (f,s')->∃e,gU i d Y0 cs=V (f,e)/\St ks Y Y0 s' e:=by intro cs;induction cs with|nil=>intro Y Y0 f s' h j a;simp only[gU,bE,iK] at a;obtain⟨rfl,rfl⟩:=a;exact⟨Y0,rfl, .refl h⟩|cons c cs B=>intro Y Y0 f s' h j a;have q:∀x,(gU i d Y cs).map (λp=>(x::p.1,p.2))=V (f,s')->∃e,(gU i d Y0 cs).map (λp=>(x::p.1,p.2))=V (f,e)/\St ks Y Y0 s' e:=(by intro x k;cases g:gU i d Y cs with|none=>rw[g] at k;cases k|some p=>rw[g] at k;simp only[df,bE,iK] at k;obtain⟨rfl,rfl⟩:=k;obtain⟨e,w,y⟩:=B h j g;exact⟨e,by rw[w];rfl,y⟩);cases c with|s v=>simp only[gU] at a⊢;exact q _ a|l aa t o=>(cases aa with|nil=>(cases t with|false=>simp[gU] at a|true=>cases o with|false=>simp[gU] at a|true=>simp only[gU] at a⊢;exact q _ a)|cons r aa=>simp[gU] at a)|m b n=>simp only[gU] at a⊢;(cases z:box i b with|none=>rw[z] at a;cases a|some x=>rw[z] at a;simp only at a⊢;by_cases A:vY x=U;rw[bX A] at a⊢;(cases g:gU i d (put Y d x) cs with|none=>rw[g] at a;cases a|some p=>rw[g] at a;simp only[df,bE,iK] at a;obtain⟨rfl,rfl⟩:=a;have u:=St.put h j x;obtain⟨e,w,y⟩:=B u.1 j g;exact⟨e,by rw[w,uI h j];rfl,u.trans y⟩);rw[cj A] at a;cases a)|_=>simp[gU] at a
def Sh{o:Oper}(h:aNM P G ops o τ Y τ' Y'):∃N,τ'=ge τ o.dst N/\∀τ0 Y0,(∀t∈o.looksAt ops,τ0[t]?=τ[t]?)->Ag (C4 P G ops τ Y o).2 Y Y0->
  C4 P G ops τ0 Y0 o=C4 P G ops τ Y o/\∃D,aNM P G ops o τ0 Y0 (ge τ0 o.dst N) D/\St (C4 P G ops τ Y o).2 Y Y0 Y' D/\((C4 P G ops τ Y o).1=U->Y'=Y/\D=Y0):=by
 unfold aNM kS at h
 split at h
 ·rename_i H
  unfold j0 at h
  split at h
  ·rename_i N hr
   obtain⟨rfl,rfl⟩:=h
   refine⟨N,rfl,λτ0 Y0 l e=>?_⟩
   have j:=yl (G:=G) l
   have F:C4 P G ops τ Y o=(U,iU (du G τ) o.op):=by unfold C4;rw[H,hr]
   rw[F] at e⊢
   have ae:dz P (du G τ0) Y0 o.op=V N:=by
    rw[<-hr]
    exact(aom (λx g=>(j x g).symm) (λk i=>e.2 k i)).symm
   refine⟨by unfold C4;rw[r8 l,H,ae];simp only;rw[Qe j],Y0,?_, .refl e,λ_=>⟨rfl,rfl⟩⟩
   unfold aNM kS
   rw[r8 l,H]
   simp only[j0,ae]
   exact⟨trivial,trivial⟩
  ·rename_i hr
   split at h
   ·rename_i N s he
    obtain⟨rfl,rfl⟩:=h
    refine⟨N,rfl,λτ0 Y0 l e=>?_⟩
    have j:=yl (G:=G) l
    have F:C4 P G ops τ Y o=(NC o.op,aOF (du G τ) Y o.op++if(wT o.op||aO3 P o.op)=U then[o.dst.getD 0] else[]):=by unfold C4;rw[H,hr,he]
    rw[F] at e⊢
    have ae:dz P (du G τ0) Y0 o.op=J:=by
     rw[<-hr]
     cases an:o.op with
     |store t x v=>rfl
     |_=>
      rw[<-an]
      exact(aom (λx g=>(j x g).symm) (λk i=>e.2 k (qk _ (by rw[an] at i⊢;exact i)))).symm
    have aD:=bbg (P:=P) (E:=du G τ) (E0:=du G τ0) (op:=o.op) (d:=o.dst.getD 0) e (λx g=>(j x g).symm) (λk i=>qk _ i) (λhu=>by simp[hu])
    rcases aD with⟨T,_⟩|⟨a2,s2,aU,T,h2,h3⟩
    ·rw[he] at T;cases T
    ·rw[he] at T
     cases T
     refine⟨by unfold C4;rw[r8 l,H,ae,h2];simp only;rw[bdE j (λk i=>e.2 k (qk _ i))],aU,?_,h3,λW=>?_⟩
     ·unfold aNM kS
      rw[r8 l,H]
      simp only[j0,ae,h2]
      exact⟨trivial,trivial⟩
     ·cases aE:o.op<;>rw[aE] at W he h2<;>first|(simp[NC] at W;done)|skip
      simp only[eA,Option.map_eq_some_iff] at he h2
      obtain⟨_,_,R⟩:=he
      obtain⟨_,_,e2⟩:=h2
      cases R;cases e2
      exact⟨rfl,rfl⟩
   ·rename_i he
    split at h
    ·rename_i c p
     split at h
     ·rename_i f q
      split at h
      ·rename_i fn first cap X
       have ac:∀E s,dz P E s o.op=J:=λE s=>by rw[p];simp only[dz,q]
       have aa:∀E s d,eA P E s d o.op=J:=λE s d=>by rw[p];simp only[eA,q]
       have w:f∈o.op.operands.toList:=by rw[p];simp[Op.operands,Call.operands,q]
       have S:∀x∈c.args.toList,x∈o.op.operands.toList:=λx g=>by rw[p];simp[Op.operands,Call.operands,q,vj.1 g]
       have O:∀τ0 Y0,(∀t∈o.looksAt ops,τ0[t]?=τ[t]?)->C4 P G ops τ0 Y0 o=if G.nw fn=U then(I,iU (du G τ) o.op++[o.dst.getD 0]) else if G.imp fn=U then(G.rd fn,aQn G fn Y0) else(U,iU (du G τ) o.op):=λτ0 Y0 l=>by
        have j:=yl (G:=G) l
        have m:c.args.toList.map (du G τ0)=c.args.toList.map (du G τ):=ja (λx g=>j x (S x g))
        unfold C4
        rw[r8 l,H,ac,aa]
        simp only
        unfold vT
        simp only[p,q,j f w,X,m]
        rw[<-p,Qe j]
       split at h
       ·rename_i A
        have F:=O τ Y (λ_ _=>rfl)
        rw[bX A] at F
        have ax:∃N,τ'=ge τ o.dst N/\∀Y0,Ag (iU (du G τ) o.op++[o.dst.getD 0]) Y Y0->∃D,(tS P G fn (first++c.args.toList.map (du G τ)++cap) Y0 (o.dst.getD 0) λa b=>a=N/\b=D)/\St (iU (du G τ) o.op++[o.dst.getD 0]) Y Y0 Y' D:=by
         have u:∀Y0,Ag (iU (du G τ) o.op++[o.dst.getD 0]) Y Y0->(first++c.args.toList.map (du G τ)++cap).map (dG Y0)=(first++c.args.toList.map (du G τ)++cap).map (dG Y):=λY0 e=>by
          refine(ja λx g=>(alh ?_)).symm
          intro k i
          refine e.2 k (qk _ ?_)
          rw[dF,dF] at g
          rcases g with(g|g)|g
          ·exact aOt (by rw[p];rfl) w (by rw[X];simp only[cD];exact iI.2 ⟨x,qk _ g,AH i⟩)
          ·obtain⟨y,M,rfl⟩:=dN.1 g
           exact aOt (by rw[p];rfl) (S y M) (DZ i)
          ·exact aOt (by rw[p];rfl) w (by rw[X];simp only[cD];exact iI.2 ⟨x,zt _ g,AH i⟩)
         have ab:y7 Y (o.dst.getD 0)=U->∀Y0,Ag (iU (du G τ) o.op++[o.dst.getD 0]) Y Y0->y7 Y0 (o.dst.getD 0)=U:=λZ Y0 e=>by
          have:=te Z
          simp only[y7,lS]
          rw[<-e.1];exact this
         rcases h with h|h|h
         case inr.inr=>
          obtain⟨f1,Z,cs,s1,aI,s',f3,f4,f5,R,e2⟩:=h
          subst e2
          refine⟨_,R.symm,λY0 e=>?_⟩
          obtain⟨B,aK,an⟩:=aIH e (by simp) f5
          exact⟨B, .inr (.inr ⟨by rw[u Y0 e];exact f1,ab Z Y0 e,cs,s1,aI,B,by rw[u Y0 e];exact f3,f4,aK,rfl,rfl⟩),an⟩
         case inr.inl=>
          obtain⟨r,b,x,x1,n,g1,g2,g3,g4,g5,g6,g7⟩:=h
          have au:∀y∈first++c.args.toList.map (du G τ)++cap,∀k∈pP y,k∈iU (du G τ) o.op:=by
           intro y M k i
           rw[dF,dF] at M
           rcases M with(M|M)|M
           ·exact aOt (by rw[p];rfl) w (by rw[X];simp only[cD];exact iI.2 ⟨y,qk _ M,i⟩)
           ·obtain⟨z,hz,rfl⟩:=dN.1 M
            exact aOt (by rw[p];rfl) (S z hz) (aCR i)
           ·exact aOt (by rw[p];rfl) w (by rw[X];simp only[cD];exact iI.2 ⟨y,zt _ M,i⟩)
          have aA:b.1∈iU (du G τ) o.op++[o.dst.getD 0]:=qk _ (au _ (List.mem_of_head? g1) _ (by simp[pP,dC,dK]))
          subst g7
          refine⟨_,g6.symm,λY0 e=>⟨wr Y0 b x1, .inr (.inl ⟨r,b,x,x1,n,g1,by rw[<-g2];exact(nQ (e.2 _ aA)).symm,g3,g4,λY2 aO aN=>g5 Y2 (aO.trans e.1.symm) (λk i=>?_),rfl,rfl⟩), .wr e aA x1⟩⟩
          obtain⟨y,M,aM⟩:=iI.1 i
          rw[e.2 k (qk _ (au y M k aM))]
          exact aN k i
         obtain⟨f1,Z,r,s1,f3,f4⟩:=h
         rcases f4 with⟨rfl,R,e2⟩|⟨b,n,x,rfl,e3,e4,R,e2⟩
         ·subst e2
          refine⟨_,R.symm,λY0 e=>⟨Y0, .inl ⟨by rw[u Y0 e];exact f1,ab Z Y0 e,_,s1,by rw[u Y0 e];exact f3, .inl ⟨rfl,rfl,rfl⟩⟩, .refl e⟩⟩
         ·subst e2
          refine⟨_,R.symm,λY0 e=>⟨put Y0 (o.dst.getD 0) x, .inl ⟨by rw[u Y0 e];exact f1,ab Z Y0 e,_,s1,by rw[u Y0 e];exact f3, .inr ⟨b,n,x,rfl,e3,e4,by rw[uI e (by simp)],rfl⟩⟩, .put e (by simp) x⟩⟩
        obtain⟨N,aQ,aC⟩:=ax
        refine⟨N,aQ,λτ0 Y0 l e=>?_⟩
        have j:=yl (G:=G) l
        rw[F] at e⊢
        obtain⟨D,x1,x2⟩:=aC Y0 e
        refine⟨by rw[O τ0 Y0 l,bX A],D,?_,x2,λW=>by cases W⟩
        unfold aNM kS
        rw[r8 l,H]
        simp only
        unfold j0
        rw[ac,aa]
        have m:c.args.toList.map (du G τ0)=c.args.toList.map (du G τ):=ja (λx g=>j x (S x g))
        simp only[p,q,j f w,X,m]
        rw[bX A]
        exact ak1.2 ⟨N,D,x1,rfl,rfl⟩
       rename_i A
       split at h
       ·rename_i C
        have h0:=h
        obtain⟨al,s0,T,q4,q5⟩:=Ki.1 h0
        subst q5
        refine⟨al,q4.symm,λτ0 Y0 l e=>?_⟩
        have j:=yl (G:=G) l
        have F:=O τ Y (λ_ _=>rfl)
        rw[cj A,bX C] at F
        rw[F] at e⊢
        have m:c.args.toList.map (du G τ0)=c.args.toList.map (du G τ):=ja (λx g=>j x (S x g))
        have az:∀B,tR P G fn (first++c.args.toList.map (du G τ)++cap) Y0 (o.dst.getD 0) (λa b=>a=al/\b=B)->aNM P G ops o τ0 Y0 (ge τ0 o.dst al) B:=λB aL=>by
         unfold aNM kS
         rw[r8 l,H]
         simp only
         unfold j0
         rw[ac,aa]
         simp only[p,q,j f w,X,m]
         rw[cj A,bX C]
         exact Ki.2 ⟨al,B,aL,rfl,rfl⟩
        rw[O τ0 Y0 l,cj A,bX C]
        cases ad:aPf G fn with
        |none=>
         have R:∀s,aQn G fn s=vO s:=λs=>by unfold aQn;rw[ad]
         simp only[R] at e⊢
         have aP:Y0=Y:=Ag.all e
         subst aP
         have ak:=asa ad T
         refine⟨rfl,s0,az s0 T,St.all ak.1,λW=>⟨ak.2 W,ak.2 W⟩⟩
        |some ks=>
         have R:∀s,aQn G fn s=ks:=λs=>by unfold aQn;rw[ad]
         simp only[R] at e⊢
         have eX:∀s K,tR P G fn (first++c.args.toList.map (du G τ)++cap) s (o.dst.getD 0) K=aSX P G fn (first++c.args.toList.map (du G τ)++cap) s ks K:=λs K=>by unfold tR;rw[ad]
         rw[eX] at T
         obtain⟨B,q1,q2,q3,q4,q5,q6⟩:=a8E e.1 e.2 T
         refine⟨trivial,B,az B (by rw[eX];exact q1),⟨⟨by rw[q2,q3,e.1],λk i=>q4 k i⟩,⟨q2,λk i=>q5 k i⟩,⟨q3,λk i=>q6 k i⟩⟩,λW=>?_⟩
         rw[bcp ad] at W;cases W
       rename_i C
       obtain⟨r,f1,Z,f3,f4,rfl,rfl⟩:=h
       refine⟨r,rfl,λτ0 Y0 l e=>?_⟩
       have j:=yl (G:=G) l
       have F:=O τ Y (λ_ _=>rfl)
       rw[cj A,cj C] at F
       rw[F] at e⊢
       refine⟨by rw[O τ0 Y0 l,cj A,cj C],Y0,?_, .refl e,λ_=>⟨rfl,rfl⟩⟩
       unfold aNM kS
       rw[r8 l,H]
       simp only
       unfold j0
       rw[ac,aa]
       have m:c.args.toList.map (du G τ0)=c.args.toList.map (du G τ):=ja (λx g=>j x (S x g))
       simp only[p,q,j f w,X,m]
       rw[cj A,cj C]
       have am:∀x∈first++c.args.toList.map (du G τ)++cap,iL Y Y0 (dC x):=by
        intro x g k i
        rw[dF,dF] at g
        rcases g with(g|g)|g
        ·exact e.2 k (aOt (by rw[p];rfl) w (by rw[X];simp only[cD];exact iI.2 ⟨x,qk _ g,AH i⟩))
        ·obtain⟨y,M,rfl⟩:=dN.1 g
         exact e.2 k (aOt (by rw[p];rfl) (S y M) (DZ i))
        ·exact e.2 k (aOt (by rw[p];rfl) w (by rw[X];simp only[cD];exact iI.2 ⟨x,zt _ g,AH i⟩))
       have aB:=ja (λx g=>alh (am x g))
       rw[aB] at f1 Z
       rw[aC9 am] at f4
       exact⟨r,f1,Z,f3,f4,rfl,trivial⟩
      ·exact h.elim
     ·exact h.elim
    ·exact h.elim
 ·rename_i H
  obtain⟨rfl,rfl⟩:=h
  refine⟨_,rfl,λτ0 Y0 l e=>?_⟩
  have F:C4 P G ops τ Y o=(U,[]):=by unfold C4;rw[H]
  rw[F] at e⊢
  refine⟨by unfold C4;rw[r8 l,H],Y0,?_, .refl e,λ_=>⟨rfl,rfl⟩⟩
  unfold aNM kS
  rw[r8 l,H]
  exact⟨rfl,rfl⟩
 ·exact h.elim
def an2{d:Option Nat}{v:AV}{t:Nat}(h:∀e,d=V e->e≠t):(ge τ d v)[t]?=τ[t]?:=by cases d with|none=>rfl|some e=>simp only[ge];rw[oq (h e rfl)]
def aFb{d e:Option Nat}{b v:AV}(h:∀x,d=V x->e≠V x):ge (ge τ d b) e v=ge (ge τ e v) d b:=by cases d with|none=>rfl|some d=>cases e with|none=>rfl|some e=>simp only[ge];exact List.set_comm _ _ (λa=>h d rfl (by rw[a]))
def aIx(c:L Y=L Y0)(h:∀k,aZ Y k=aZ Y0 k):Y=Y0:=by apply zp c;intro i a b;have:=h i;simp only[aZ,eI] at this;rw[eC a,eC b] at this;simpa using this
def arA{x y:Oper}(S:aNM P G ops x τ Y τ1 Y1)(T:aNM P G ops y τ1 Y1 τ2 Y2)(w:Ej ops x y (C4 P G ops τ Y x) (C4 P G ops τ1 Y1 y)=U):∃i d,aNM P G ops y τ Y i d/\aNM P G ops x i d τ2 Y2/\C4 P G ops τ Y y=C4 P G ops τ1 Y1 y/\C4 P G ops i d x=C4 P G ops τ Y x:=by unfold Ej at w;rw[bN] at w;obtain⟨E,f⟩:=w;unfold eL at f;obtain⟨K,M,N⟩:=Oper.apart_spec E;obtain⟨o,rfl,F⟩:=Sh S;obtain⟨v,rfl,W⟩:=Sh T;have p:=F τ Y (λ_ _=>rfl) ⟨rfl,λ_ _=>rfl⟩;obtain⟨_,aa,_,j,q⟩:=p;have D:Ag (C4 P G ops (ge τ x.dst o) Y1 y).2 Y1 Y:=(by refine⟨j.2.1.1,λk u=>?_⟩;rw[fH,bN] at f;rcases f with b|g;rw[(q b.1).1];refine j.2.1.2 k (λh=>?_);have:=dV.1 g k h;simp[u] at this);obtain⟨C,d,Z,c,m⟩:=W τ Y (λt z=>(an2 (λe s l=>K e s (l▸z))).symm) D;have r:Ag (C4 P G ops τ Y x).2 Y d:=(by refine⟨c.2.2.1.symm,λk u=>?_⟩;rw[fH,bN] at f;rcases f with b|g;rw[(m b.2).2];refine(c.2.2.2 k (λa=>?_)).symm;have:=dV.1 g k u;simp[a] at this);obtain⟨B,A,X,n,H⟩:=F (ge τ y.dst v) d (λt z=>an2 (λe s l=>N e s (l▸z))) r;refine⟨ge τ y.dst v,d,Z,?_,C,B⟩;have O:ge (ge τ x.dst o) y.dst v=ge (ge τ y.dst v) x.dst o:=aFb M;have R:A=Y2:=(by refine aIx ?_ (λk=>?_);rw[n.2.2.1,c.2.2.1,c.2.1.1,j.2.1.1];rw[fH,bN] at f;rcases f with b|g;rw[(H b.1).2,(m b.2).2,(m b.2).1,(q b.1).1];by_cases h:k∈(C4 P G ops τ Y x).2;have a:k∉(C4 P G ops (ge τ x.dst o) Y1 y).2:=λa=>(by have:=dV.1 g k h;simp[a] at this);rw[<-n.1.2 k h,c.2.1.2 k a];rw[n.2.2.2 k h];by_cases a:k∈(C4 P G ops (ge τ x.dst o) Y1 y).2;exact(c.1.2 k a).symm;rw[c.2.2.2 k a,c.2.1.2 k a,j.2.1.2 k h]);rw[O,<-R];exact X
end
def qq(P:Program)(G:nn)(ops:Array Oper):List Oper->List fY->(List fY->List AV->ae->Prop)->List AV->ae->Prop|[],a,K=>K a|o::l,a,K=>λτ Y=>kS P G ops o (qq P G ops l (a++[C4 P G ops τ Y o]) K) τ Y
def zA(P:Program)(G:nn)(ops:Array Oper):List (Nat×fY)->List AV->ae->List AV->ae->Prop|[],τ,Y,τ',Y'=>τ'=τ/\Y'=Y|z::zs,τ,Y,τ',Y'=>∃o a b,ops[z.1]?=V o/\z.2=C4 P G ops τ Y o/\aNM P G ops o τ Y a b/\zA P G ops zs a b τ' Y'
def QA(ops:Array Oper)(x y:Nat×fY):Prop:=∀a b,ops[x.1]?=V a->ops[y.1]?=V b->Ej ops a b x.2 y.2=U
def sk(ops:Array Oper)(i j:Nat):Prop:=((Region.before ops).getD j 0).testBit i=U
section
variable{P:Program}{G:nn}{ops:Array Oper}{τ τ':List AV}{Y Y':ae}
def arz{y:Nat×fY}{b:List (Nat×fY)}:∀(a:List (Nat×fY)) {τ:List AV} {Y:ae},(∀z∈a,QA ops z y)->zA P G ops (a++y::b) τ Y τ' Y'->zA P G ops (y::(a++b)) τ Y τ' Y':=by intro a;induction a with|nil=>intro τ Y _ h;exact h|cons z a u=>intro τ Y e h;obtain⟨o,B,C,l,k,s,g⟩:=h;obtain⟨p,q,r,f,d,n,c⟩:=u (λx t=>e x (by simp[t])) g;have m:=e z (by simp) o p l f;rw[k,d] at m;obtain⟨i,j,w,A,l1,v⟩:=arA s n m;exact⟨p,i,j,f,by rw[d,l1],w,o,q,r,l,by rw[k,v],A,c⟩
def asj{K:List fY->List AV->ae->Prop}:∀(l:List Oper) (a:List fY) (k:Nat) {τ:List AV} {Y:ae},ops.toList.drop k=l->qq P G ops l a K τ Y->∃zs τ' Y',zs.map Se=GO k (ops.size-k)/\zA P G ops zs τ Y τ' Y'/\K (a++zs.map Sf) τ' Y':=by intro l;induction l with|nil=>intro a k τ Y b h;have:ops.size-k=0:=(by have:=aC2 L b;simp at this;omega);exact⟨[],τ,Y,by rw[this];rfl,⟨rfl,rfl⟩,by simpa[qq] using h⟩|cons o l p=>intro a k τ Y b h;have q:k<ops.size:=(by have:=aC2 L b;simp at this;omega);have j:ops[k]?=V o:=(by have:=aC2 (·[0]?) b;simp only[mf,kP,qh] at this;simpa using this);have c:ops.toList.drop (k+1)=l:=(by have:=aC2 GQ b;simpa using this);obtain⟨d,e,m,n⟩:=oE.1 h;obtain⟨zs,τ',Y',f,g,i⟩:=p _ (k+1) c n;refine⟨(k,C4 P G ops τ Y o)::zs,τ',Y',?_,⟨o,d,e,j,rfl,m,g⟩,by simpa using i⟩;rw[show ops.size-k=(ops.size-(k+1))+1 by omega,RX];simp[f]
def bits{d:Array Nat}{j:Nat}:∀(b:List Edge) (s:Nat),(b.foldl (λs e=>if Region.binds .any e then s|||2^e.on|||d.getD e.on 0 else s) s).testBit j=U->s.testBit j=U\/∃e∈b,Region.binds .any e=U/\(j=e.on\/(d.getD e.on 0).testBit j=U):=by intro b;induction b with|nil=>intro s h;exact .inl h|cons e b k=>intro s h;rcases k _ h with a|⟨f,a,g,i⟩;simp only at a;by_cases c:Region.binds .any e=U;rw[bX c,zy,zy,fH,fH] at a;rcases a with(a|a)|a;exact .inl a;rw[arb] at a;exact .inr ⟨e,by simp,c, .inl (nt a).symm⟩;exact .inr ⟨e,by simp,c, .inr a⟩;rw[cj c] at a;exact .inl a;exact .inr ⟨f,by simp[a],g,i⟩
def awj:∀(l:List Oper) (a:Array Nat),ops.toList.drop a.size=l->(∀i j,(a.getD i 0).testBit j=U->∃o,ops[i]?=V o/\∃e∈o.after,Region.binds .any e=U/\(j=e.on\/(e.on<i/\(a.getD e.on 0).testBit j=U)))->∀b,l.foldl (λa o=>a.push (o.after.foldl (λs e=>if Region.binds .any e then s|||2^e.on|||a.getD e.on 0 else s) 0)) a=b->∀i j,(b.getD i 0).testBit j=U->∃o,ops[i]?=V o/\∃e∈o.after,Region.binds .any e=U/\(j=e.on\/(e.on<i/\(b.getD e.on 0).testBit j=U)):=by intro l;induction l with|nil=>intro a r m b h;cases h;exact m|cons o l z=>intro a r m b h;have y:ops[a.size]?=V o:=(by have:=aC2 (·[0]?) r;simp only[mf,kP,qh] at this;simpa using this);have u:ops.toList.drop (a.size+1)=l:=(by have:=aC2 GQ r;simpa using this);refine z _ (by simpa using u) ?_ b h;intro i j f;have k:∀(v i:Nat),i<a.size->(a.push v).getD i 0=a.getD i 0:=λv i d=>(by simp[pZ,d,aq8 d,aql d]);have n:∀e:Edge,(a.getD e.on 0).testBit j=U->e.on<a.size:=λe x=>(by rcases jj e.on a.size with c|c;exact c;simp[pZ,Nat.not_lt.2 c] at x);rcases Nat.lt_trichotomy i a.size with d|d|d;rw[k _ _ d] at f;obtain⟨o',c,e,p,q,w⟩:=m i j f;refine⟨o',c,e,p,q,w.imp id (λg=>⟨g.1,?_⟩)⟩;rw[k _ _ (aYC g.1 d)];exact g.2;subst d;have t:∀v,(a.push v).getD a.size 0=v:=λv=>(by simp[pZ]);rw[t,<-yY] at f;rcases bits o.after.toList 0 f with c|⟨e,c,p,q⟩;simp at c;refine⟨o,y,e,by simpa using c,p,q.imp id (λg=>⟨n e g,?_⟩)⟩;rw[k _ _ (n e g)];exact g;have:¬i<a.size+1:=(by omega);simp[pZ,this] at f
def alv{i j:Nat}(h:sk ops j i):∃o,ops[i]?=V o/\∃e∈o.after,Region.binds .any e=U/\(j=e.on\/(e.on<i/\sk ops j e.on)):=by refine awj (ops:=ops) ops.toList #[] (by simp) (λi j h=>by simp[pZ] at h) (Region.before ops) ?_ i j h;unfold Region.before;rw[yY]
def awh{a:Array Bool}(p:∀i o,ops[i]?=V o->a.getD i I=U->∀e∈o.after,Region.binds .any e=U->a.getD e.on I=U):∀i o,ops[i]?=V o->(∀e∈o.after,Region.binds .any e=U->a.getD e.on I=U)->∀j,sk ops j i->a.getD j I=U:=by intro i;induction i using Nat.strongRecOn with|_ i s=>intro o q r j n;obtain⟨o',b,e,h,k,l⟩:=alv n;rw[q] at b;(cases b);have f:=r e h k;rcases l with rfl|⟨m,c⟩;exact f;obtain⟨g,d,_⟩:=alv c;exact s e.on m g d (p e.on g d f) j c
def avq{κ:rm}{K:List AV->ae->Prop}{Q:Exit->Act->World->Prop}(R:∀i o,ops[i]?=V o->∀e∈o.after,Region.binds .any e=U->e.on<i)(hK:K τ' Y'):∀(fuel:Nat) (zs:List (Nat×fY)) (b:Array Bool) {a:Act} {w:World} {τ:List AV} {Y:ae} {β:Id->Nat},L zs<=fuel->zA P G ops zs τ Y τ' Y'->zs.Pairwise (λx y=>sk ops x.1 y.1\/QA ops x y)->zs.Pairwise (λx y=>x.1<y.1)->(∀i,i∈zs.map Se↔i<ops.size/\b.getD i U=I)->b.size=ops.size->(∀i o,ops[i]?=V o->b.getD i I=U->∀e∈o.after,Region.binds .any e=U->b.getD e.on I=U)->jG P G κ a w τ Y β->(∀Z w',vE P G κ w Y β K Z w'->Q .normal Z w')->wpAny P .any ops Q fuel b a w:=by have u:∀(b:Array Bool) (i:Nat),b.size=ops.size->i<ops.size->b.getD i U=b.getD i I:=λb i c A=>(by rw[<-c] at A;simp[pZ,A]);intro fuel;induction fuel with|zero=>intro zs b a w τ Y β hf j _ _ q n E h N;have:zs=[]:=List.length_eq_zero_iff.1 (Nat.le_zero.1 hf);subst this;obtain⟨rfl,rfl⟩:=j;refine⟨?_,N a w ⟨_,_,β,hK,h,dw.refl _ _ _⟩⟩;apply List.eq_nil_iff_forall_not_mem.2;intro i hi;obtain⟨h0,o,f,_⟩:=mem_ready.1 hi;have:=(q i).2 ⟨(vh.1 f).1,h0⟩;simp at this|succ fuel ih=>intro zs b a w τ Y β hf j W l q n E h N;refine⟨λaf=>?_,λi hi=>?_⟩;(cases zs with|nil=>obtain⟨rfl,rfl⟩:=j;exact N a w ⟨_,_,β,hK,h,dw.refl _ _ _⟩|cons z zs=>exfalso;obtain⟨X,ap⟩:=(q z.1).1 (by simp);have f:ops[z.1]?=V ops[z.1]:=Array.getElem?_eq_getElem X;have:z.1∈Region.ready .any ops b:=(by refine mem_ready.2 ⟨ap,_,f,λe O B=>?_⟩;have v:=R _ _ f e O B;have F:e.on<ops.size:=aYC v X;cases hv:b.getD e.on I with|true=>rfl|false=>exfalso;have m:=(q e.on).2 ⟨F,by rw[u _ _ n F];exact hv⟩;rw[ji,eW] at m;rcases m with m|m;omega;obtain⟨y,hy,aC⟩:=dN.1 m;have:=(aqX.1 l).1 y hy;omega);rw[af] at this;cases this);obtain⟨h0,o,f,D⟩:=mem_ready.1 hi;have v:=(vh.1 f).1;obtain⟨y,hy,rfl⟩:=dN.1 ((q i).2 ⟨v,h0⟩);obtain⟨p,r,rfl⟩:=List.append_of_mem hy;have ag:∀z∈p,QA ops z y:=λz C=>(by rcases(RW.1 W).2.2 z C y (by simp) with B|d;exfalso;have c:=awh E y.1 o f D z.1 B;obtain⟨A,h3⟩:=(q z.1).1 (by simp only[dg,dF];exact .inl (CA C));rw[u _ _ n A,c] at h3;(cases h3);exact d);obtain⟨o',ar,Y1,T,hl,hs,S⟩:=arz p ag j;rw[f] at T;(cases T);unfold wpOp;rw[f];simp only;refine ak5 (K:=λt s=>t=ar/\s=Y1) h hs (λZ w' hn=>?_);obtain⟨_,_,aD,⟨rfl,rfl⟩,an,ab⟩:=hn;have M:(p++r).Sublist (p++y::r):=aqE.append (aqE.refl _) (List.sublist_cons_self _ _);refine ih (p++r) (b.setIfInBounds y.1 U) ?_ S (W.sublist M) (l.sublist M) ?_ (by simp[n]) ?_ an (λa2 w2 ao=>N a2 w2 (ao.trans ab));simp only[P8,bZ] at hf⊢;omega;intro k;by_cases g:k=y.1;constructor;intro d;exfalso;rw[dg,dF] at d;rcases d with d|d;obtain⟨z,C,aq⟩:=dN.1 d;have:=(RW.1 l).2.2 z C y (by simp);omega;obtain⟨z,C,aq⟩:=dN.1 d;have:=(aqX.1 (RW.1 l).2.1).1 z C;omega;rintro⟨c,A⟩;exfalso;subst g;simp[pZ,n,v] at A;rw[getD_set_ne U (Sa g),<-q k];simp only[dg,dF,ji,eW];constructor;rintro(c|c);exact .inl c;exact .inr (.inr c);rintro(c|c|c);exact .inl c;exact nl c g;exact .inr c;intro k ok H d e O B;refine getD_set_true ?_;by_cases g:k=y.1;subst g;rw[f] at H;(cases H);exact D e O B;rw[getD_set_ne I (Sa g)] at d;exact E k ok H d e O B
end
section
variable{types:Array TypeInfo}{ops:Array Oper}{draw:Bool}
def aqa{g:Oper×Nat->Bool}(h:(ops.zipIdx.all g)=U){i:Nat}{o:Oper}(a:ops[i]?=V o):g (o,i)=U:=by rw[aqi] at h;refine h (o,i) ?_;rw[Array.mem_zipIdx_iff_getElem?];exact a
def anK(h:Region.ok types ops draw=U):(∀(i:Nat) (o:Oper),ops[i]?=V o->∀e∈o.after,Region.binds .any e=U->e.on<i)/\(∀(i:Nat) (o:Oper) (j:Nat) (a:Bool),ops[i]?=V o->o.guard=V (j,a)->∃e∈o.after,e.on=j/\Region.binds .any e=U)/\Region.temporariesOk ops (Region.before ops)=U:=by unfold Region.ok at h;simp only[bN] at h;obtain⟨⟨⟨⟨f,g⟩,_⟩,_⟩,_⟩:=h;refine⟨λi o d e l b=>?_,λi o j a d c=>?_,g⟩;have:=aqa f d;simp only[bN] at this;have:=aqi.1 this.1 e l;rw[fH] at this;rcases this with h|h;exact nt h;unfold Region.binds at b;split at h;rename_i c;rw[c] at b;cases b;(cases h);have:=aqa f d;simp only[bN,c] at this;have:=this.2.1;rw[Array.any_eq_true] at this;obtain⟨k,m,h⟩:=this;rw[bN] at h;exact⟨o.after[k],Array.getElem_mem m,by simpa using h.1,h.2⟩
def awy{d:Array Nat}{j:Nat}:∀(a:List Edge) (s:Nat),(s.testBit j=U\/∃e∈a,Region.binds .any e=U/\(j=e.on\/(d.getD e.on 0).testBit j=U))->(a.foldl (λs e=>if Region.binds .any e then s|||2^e.on|||d.getD e.on 0 else s) s).testBit j=U:=by intro a;induction a with|nil=>intro s h;rcases h with h|⟨e,b,_⟩;exact h;(cases b)|cons e a i=>intro s h;refine i _ ?_;simp only;rcases h with h|⟨g,b,f,c⟩;left;split;rw[zy,zy,h];rfl;exact h;rcases eW.1 b with rfl|b;left;rw[bX f,zy,zy];rcases c with rfl|c;rw[arb];simp;rw[c];simp;exact .inr ⟨g,b,f,c⟩
def awi:∀(l:List Oper) (a:Array Nat),ops.toList.drop a.size=l->(∀i o e j,i<a.size->ops[i]?=V o->e∈o.after->Region.binds .any e=U->e.on<i->(j=e.on\/(a.getD e.on 0).testBit j=U)->(a.getD i 0).testBit j=U)->∀b,l.foldl (λa o=>a.push (o.after.foldl (λs e=>if Region.binds .any e then s|||2^e.on|||a.getD e.on 0 else s) 0)) a=b->∀i o e j,i<b.size->ops[i]?=V o->e∈o.after->Region.binds .any e=U->e.on<i->(j=e.on\/(b.getD e.on 0).testBit j=U)->(b.getD i 0).testBit j=U:=by intro l;induction l with|nil=>intro a p d b h;cases h;exact d|cons o l x=>intro a p d b h;have w:ops[a.size]?=V o:=(by have:=aC2 (·[0]?) p;simp only[mf,kP,qh] at this;simpa using this);have u:ops.toList.drop (a.size+1)=l:=(by have:=aC2 GQ p;simpa using this);refine x _ (by simpa using u) ?_ b h;intro i o' e j g m t r k n;have c:∀(v i:Nat),i<a.size->(a.push v).getD i 0=a.getD i 0:=λv i g=>(by simp[pZ,g,aq8 g,aql g]);simp only[Array.size_push] at g;rcases jj i a.size with f|f;rw[c _ _ f];rw[c _ _ (aYC k f)] at n;exact d i o' e j f m t r k n;have:i=a.size:=(by omega);subst this;rw[w] at m;(cases m);rw[c _ _ k] at n;have q:∀v,(a.push v).getD a.size 0=v:=λv=>(by simp[pZ]);rw[q,<-yY];exact awy _ _ (.inr ⟨e,by simpa using t,r,n⟩)
def awk:(Region.before ops).size=ops.size:=by unfold Region.before;rw[<-yY];have:∀(l:List Oper) (a:Array Nat),(l.foldl (λa o=>a.push (o.after.foldl (λs e=>if Region.binds .any e then s|||2^e.on|||a.getD e.on 0 else s) 0)) a).size=a.size+L l:=(by intro l;induction l with|nil=>intro a;rfl|cons o l b=>intro a;rw[GE,b];simp;omega);rw[this];simp
def awg{i:Nat}{o:Oper}{e:Edge}(b:ops[i]?=V o)(d:e∈o.after)(c:Region.binds .any e=U)(a:e.on<i):sk ops e.on i:=by refine awi (ops:=ops) ops.toList #[] (by simp) (λi o e j f=>by simp at f) (Region.before ops) ?_ i o e e.on ?_ b d c a (.inl rfl);unfold Region.before;rw[yY];rw[awk];exact(vh.1 b).1
def aM5{n:Nat}(s:0<n):∀(l:List (Oper×Nat)) (b:Array (List (Tmp×Nat))),b.size=n->∀d i,((d,i)∈b.getD (d%n) []\/∃o,(o,i)∈l/\o.dst=V d)->(d,i)∈(l.foldl (λw (p:Oper×Nat)=>match p.1.dst with|some d=>w.modify (d%n) ((d,p.2)::·)|none=>w) b).getD (d%n) []:=by intro l;induction l with|nil=>intro b f d i h;rcases h with h|⟨o,e,_⟩;exact h;(cases e)|cons p l q=>intro b f d i h;rw[GE];have j:∀(a k:Nat) (x:Tmp×Nat),a<n->(b.modify a (x::·)).getD k []=if a=k then x::b.getD k [] else b.getD k []:=λa k x r=>(by simp only[Ry,aqk];by_cases g:a=k;subst g;have:a<b.size:=(by rw[f];exact r);simp[this];simp[g]);cases m:p.1.dst with|none=>refine q b f d i (h.imp id ?_);rintro⟨o,e,c⟩;rcases eW.1 e with rfl|e;rw[m] at c;cases c;exact⟨o,e,c⟩|some t=>simp only;refine q _ (by simp[f]) d i ?_;rw[j _ _ _ (zw _ s)];rcases h with h|⟨o,e,c⟩;left;split;exact zu _ h;exact h;rcases eW.1 e with rfl|e;rw[m] at c;(cases c);left;rw[bX rfl];exact List.mem_cons_self;exact .inr ⟨o,e,c⟩
def Qr(o:Oper):List Tmp:=o.dst.toList++o.op.operands.toList.filterMap λ| .tmp t=>V t|_=>J
def apD(h:Region.temporariesOk ops (Region.before ops)=U){i j:Nat}{x y:Oper}{t:Tmp}(c:ops[i]?=V x)(g:ops[j]?=V y)(d:x.dst=V t)(f:t∈Qr y)(b:i≠j):sk ops (min i j) (max i j):=by unfold Region.temporariesOk at h;simp only[dV] at h;have e:0<ops.size:=Nat.lt_of_le_of_lt (mh _) (vh.1 c).1;have a:=h (y,j) (by rw[RV];simpa using g) t f (t,i) (aM5 e ops.toList.zipIdx _ (by simp) t i (.inr ⟨x,by rw[RV];simpa using c,d⟩));simp only[fH,bne_self_eq_false,eE,false_or,beq_iff_eq] at a;rcases a with a|a;exact nl a b;exact a
end
def Ah(ops:Array Oper):Bool:=
 ops.toList.all λo=>
  match o.guard with
  |none=>U
  |some (g,_)=>
   match(ops[g]?).bind (·.dst) with
   |some t=>ops.toList.zipIdx.all λp=>p.2==g||p.1.dst !=V t
   |none=>U
def oI:Code->Bool| .region _ ops true=>Ah ops| .seq a b=>oI a&&oI b| .cond _ a b=>oI a&&oI b| .block _ c=>oI c| .loop c=>oI c|_=>U
structure tQ(P:Program):Prop where
 mixed:P.follows .mixedOrders=U
 funcs:(aH P.funcs.size).forM (CheckCode.funcAt P)= .ok ()
 guards:(P.funcs.toList.all λf=>match f.body with|some c=>oI c|none=>U)=U
def xG(ops:Array Oper)(a:List fY):Bool:=
 a.all (·.1)||(aH ops.size).all λj=>(aH j).all λi=>
  ((Region.before ops).getD j 0).testBit i||eL (a.getD i (U,[])) (a.getD j (U,[]))
def iT(G:nn):Op->Bool| .move _| .assign _| .pick .. | .load .. | .nilCheck _| .binOp .. | .unOp .. | .convert .. | .fieldAddr .. | .field .. | .indexAddr .. | .index .. | .lookup .. | .extract .. | .slice .. | .makeFunc .. | .build .. =>U| .call ⟨.builtin .len,_,_⟩=>U| .call ⟨.builtin .min,_,_⟩=>U| .call ⟨.builtin .max,_,_⟩=>U| .call ⟨.value (.func fn),_,_⟩=>!G.nw fn&&!G.imp fn|_=>I
def rG(G:nn):List Oper->Bool|[]=>U|o::l=>iT G o.op&&rG G l
def sF(P:Program)(G:nn)(ops:Array Oper)(K:List AV->ae->Prop)(τ:List AV)(Y:ae):Prop:=
 if rG G ops.toList=U then rE P G ops ops.toList K τ Y
 else qq P G ops ops.toList [] (λa τ Y=>xG ops a=U/\K τ Y) τ Y
section
variable{P:Program}{G:nn}{types:Array TypeInfo}{ops:Array Oper}{draw:Bool}{τ:List AV}{Y:ae}
def amw(h:Ah ops=U){o:Oper}{j g i:Nat}{b:Bool}{t:Tmp}{x:Oper}(f:ops[j]?=V o)(e:o.guard=V (g,b))(k:(ops[g]?).bind (·.dst)=V t)(l:ops[i]?=V x)(d:x.dst=V t):i=g:=by unfold Ah at h;rw[dV] at h;have a:=h o (by rw[vj];exact RA f);rw[e] at a;simp only[k,dV] at a;have c:=a (x,i) (by rw[RV];simpa using l);simp only[d,bne_self_eq_false,Bool.or_false,beq_iff_eq] at c;exact c
def anj{o:Oper}{t:Tmp}(h:t∈o.looksAt ops):(t∈o.op.operands.toList.filterMap λ| .tmp t=>V t|_=>J)\/∃g a,o.guard=V (g,a)/\(ops[g]?).bind (·.dst)=V t:=by unfold Oper.looksAt at h;rcases dF.1 h with h|h;exact .inl h;right;cases b:o.guard with|none=>rw[b] at h;cases h|some p=>obtain⟨g,a⟩:=p;rw[b] at h;exact⟨g,a,rfl,by simpa using h⟩
def avu(u:Region.ok types ops draw=U)(s:Ah ops=U){i j:Nat}{x y:Oper}(c:ops[i]?=V x)(f:ops[j]?=V y)(t:i<j)(q:¬sk ops i j):x.apart ops y=U:=by obtain⟨E,v,w⟩:=anK u;have A:min i j=i:=(by omega);have B:max i j=j:=(by omega);have C:min j i=i:=(by omega);have D:max j i=j:=(by omega);have z:∀d,x.dst=V d->d∉Qr y:=λd a r=>(by have:=apD w c f a r (by omega);rw[A,B] at this;exact q this);have F:∀d,y.dst=V d->d∉Qr x:=λd a r=>(by have:=apD w f c a r (by omega);rw[C,D] at this;exact q this);unfold Oper.apart;rw[bN];constructor;(cases a:x.dst with|none=>rfl|some d=>simp only[bN,eH,bne_iff_ne,aNQ];constructor;rw[aqs];intro m;rw[aYv] at m;rcases anj m with h|⟨g,b,k,p⟩;exact z d a (zt _ h);have:=amw s f k p c a;subst this;obtain⟨e,n,o,l⟩:=v j y i b f k;subst o;exact q (awg f n l t);intro n;exact z d a (qk _ (by simp[n])));cases a:y.dst with|none=>rfl|some d=>simp only[eH];rw[aqs];intro m;rw[aYv] at m;rcases anj m with h|⟨g,b,k,p⟩;exact F d a (zt _ h);have:=amw s c k p f a;subst this;obtain⟨e,n,o,l⟩:=v i x j b c k;have:=E i x c e n l;omega
def aC0{o:Oper}(h:iT G o.op=U):(C4 P G ops τ Y o).1=U:=by unfold C4;split;split;rfl;rename_i n x d;(cases k:o.op<;>rw[k] at h d<;>first|rfl|(cases d;done)|(cases h;done)|skip);rename_i c;obtain⟨a,as,ts⟩:=c;(cases a with|value f=>(cases d)|builtin b=>(cases b<;>first|(cases h;done)|(cases d;done))|invoke r m=>cases d);unfold vT;split;rename_i c k;rw[k] at h;split;rename_i f e;split;rename_i fn first cap i;split;rename_i l;exfalso;obtain⟨a,as,ts⟩:=c;simp only at e;subst e;(cases f with|func g=>simp only[du] at i;(cases i);simp[iT,l] at h|_=>cases h);split;rename_i j;exfalso;obtain⟨a,as,ts⟩:=c;simp only at e;subst e;(cases f with|func g=>simp only[du] at i;(cases i);simp[iT,j] at h|_=>cases h);rfl;rfl;rfl;rfl;rfl
def asl{K:List AV->ae->Prop}:∀(l:List Oper) (a:List fY) {τ:List AV} {Y:ae},rG G l=U->(a.all (·.1))=U->rE P G ops l K τ Y->qq P G ops l a (λd τ Y=>xG ops d=U/\K τ Y) τ Y:=by intro l;induction l with|nil=>intro a τ Y _ c h;exact⟨by unfold xG;rw[c];rfl,h⟩|cons o l j=>intro a τ Y b c h;unfold rG at b;rw[bN] at b;obtain⟨e,f,g,i⟩:=oE.1 h;refine oE.2 ⟨e,f,g,j _ b.2 ?_ i⟩;rw[aqF,c];simp[aC0 b.1]
def axF{κ:rm}{K:List AV->ae->Prop}{Q:Exit->Act->World->Prop}{a:Act}{w:World}{β:Id->Nat}{N:Nat}(E:P.follows .mixedOrders=U)(s:Region.ok types ops draw=U)(C:Ah ops=U)(h:jG P G κ a w τ Y β)(l:sF P G ops K τ Y)(B:∀n r,vE P G κ w Y β K n r->Q .normal n r):(Code.region N ops U).wp P Q a w:=by have l:qq P G ops ops.toList [] (λx τ Y=>xG ops x=U/\K τ Y) τ Y:=(by unfold sF at l;split at l;rename_i M;exact asl _ _ M rfl l;exact l);obtain⟨zs,τ',Y',p,z,d,A⟩:=asj ops.toList [] 0 (by simp) l;rw[ara,<-aqY] at p;simp only[List.nil_append] at d;have k:L zs=ops.size:=(by simpa using aC2 L p);have c:∀i (b:i<L zs),zs[i].1=i:=λi b=>(by have e:(zs.map Se)[i]'(by simpa using b)=(aH ops.size)[i]'(by simpa[k] using b):=(by simp only[p]);simpa using e);have q:∀i j (b:i<L zs) (f:j<L zs),i<j->sk ops i j\/eL zs[i].2 zs[j].2=U:=λi j b f g=>(by unfold xG at d;rw[fH] at d;rcases d with d|d;right;rw[dV] at d;have R:=d zs[i].2 (CA (qj b));have S:=d zs[j].2 (CA (qj f));unfold eL;rw[R,S];rfl;rw[dV] at d;have:=d j (fq.2 (k▸f));rw[dV] at this;have:=this i (fq.2 g);rw[fH] at this;have l1:(zs.map Sf).getD i (U,[])=zs[i].2:=(by simp[GF,b]);have O:(zs.map Sf).getD j (U,[])=zs[j].2:=(by simp[GF,f]);rw[l1,O] at this;exact this);refine wp_region_any E ?_;have y:Below w.heap.size w {w with drawn:=w.drawn+1}:={os:=rfl,tape:=rfl,output:=rfl,size:=dA _,block:=λ_ _=>rfl};have v:=xJ h.sim y;refine avq (K:=K) (anK s).1 A ops.size zs _ (aSp k) z ?_ ?_ ?_ (by simp) ?_ ⟨h.defers,h.reps.ext v,Es h.sim y,h.glob.ext v⟩ (λn r F=>B n r (F.trans v));rw[GN];intro i j b f g;rw[c i b,c j f];by_cases m:sk ops i j;exact .inl m;right;intro X Z t u;rw[c i b] at t;rw[c j f] at u;unfold Ej;rw[avu s C t u g m];exact(q i j b f g).resolve_left m;rw[GN];intro i j b f g;rw[c i b,c j f];exact g;intro i;rw[p,fq];constructor;intro b;exact⟨b,by simp[pZ,b]⟩;exactλb=>b.1;intro i o H D e W T;exfalso;have b:=(vh.1 H).1;simp[pZ,b] at D
end
abbrev QX:=Exit->List AV->ae->Prop
def QX.then(K:List AV->ae->Prop)(Q:QX):QX:=λe a Y=>match e with| .normal=>K a Y|e=>Q e a Y
def QX.inBlock(b:Nat)(Q:QX):QX:=λe a Y=>match e with| .exit j=>if j=b then Q .normal a Y else Q (.exit j) a Y|e=>Q e a Y
def iq(P:Program)(G:nn):Code->QX->List AV->ae->Prop
 | .skip,Q=>Q .normal
 | .label _,Q=>Q .normal
 | .region _ ops false,Q=>rE P G ops ops.toList (Q .normal)
 | .region _ ops true,Q=>sF P G ops (Q .normal)
 | .seq x y,Q=>iq P G x (QX.then (iq P G y Q) Q)
 | .cond c x y,Q=>λb Y=>match du G b c with| .s (.bool t)=>if t=U then iq P G x Q b Y else iq P G y Q b Y|_=>False
 | .block d c,Q=>iq P G c (QX.inBlock d Q)
 | .loop c,Q=>λb Y=>∃(a:List AV->ae->Prop) (e:List AV->ae->Nat),a b Y/\∀b Y,a b Y->iq P G c (QX.then (λτ' Y'=>a τ' Y'/\e τ' Y'<e b Y) Q) b Y
 | .exit d,Q=>Q (.exit d)
 | .ret,Q=>Q .ret
 |_,_=>λ_ _=>False
section
variable{P:Program}{G:nn}{κ:rm}
def aM4{Q:Exit->Act->World->Prop}{c:Code}(d:Nat->Act->World->Prop)(s:∀n a w,d n a w->c.wp P (Exit.then (λj p=>∃m,m<n/\d m j p) Q) a w):∀n a w,d n a w->(Code.loop c).wp P Q a w:=by intro n a w A b k cs;have z:∀n a w,d n a w->∃e j p,Q e j p/\Arrives P (lone (b.at a (.code c:: .inLoop c::k)) cs w) b k cs e j p:=(by intro n;induction n using Nat.strongRecOn with|_ n C=>intro a w B;obtain⟨e,g,h,i,f⟩:=s n a w B b (.inLoop c::k) cs;cases e with|normal=>obtain⟨m,y,q⟩:=i;obtain⟨u,t,v,r,o⟩:=C m y g h q;exact⟨u,t,v,r, .of_steps (Steps.trans f (.one step_inLoop)) o⟩|exit E=>exact⟨_,g,h,i, .pass (x:= .inLoop c) rfl (λ_ _=> .inl (by simp)) f⟩|goto l=>exact⟨_,g,h,i, .pass (x:= .inLoop c) rfl (λ_ _=> .inl (by simp)) f⟩|ret=>exact⟨_,g,h,i, .pass (x:= .inLoop c) rfl (λ_ _=> .inl (by simp)) f⟩|panic D=>exact⟨_,g,h,i, .pass (x:= .inLoop c) rfl (λ_ _=> .inl (by simp)) f⟩|outgrown=>exact⟨_,g,h,i, .pass (x:= .inLoop c) rfl (λ_ _=> .inl (by simp)) f⟩);obtain⟨e,j,p,i,f⟩:=z n a w A;exact⟨e,j,p,i, .of_steps (.one step_loop) f⟩
def aqz(P:Program)(G:nn)(κ:rm)(w:World)(Y:ae)(β:Id->Nat)(Q:QX)(e:Exit)(c:Act)(b:World):Prop:=∃τ' Y' a,Q e τ' Y'/\jG P G κ c b τ' Y' a/\dw w Y β b Y' a
def Kg(X:P.follows .mixedOrders=U):∀(c:Code) (f:qf P c) (i:oI c=U) (Q:QX) {a:Act} {w:World} {m:List AV} {Y:ae} {β:Id->Nat},jG P G κ a w m Y β->iq P G c Q m Y->c.wp P (aqz P G κ w Y β Q) a w:=by intro c;induction c with|skip=>intro f i Q a w m Y β h g;exact wp_skip ⟨m,Y,β,g,h,dw.refl _ _ _⟩|label l=>intro f i Q a w m Y β h g;exact wp_label ⟨m,Y,β,g,h,dw.refl _ _ _⟩|exit R=>intro f i Q a w m Y β h g;exact wp_exit ⟨m,Y,β,g,h,dw.refl _ _ _⟩|ret=>intro f i Q a w m Y β h g;exact wp_ret ⟨m,Y,β,g,h,dw.refl _ _ _⟩|region R ops d=>intro f i Q a w m Y β h g;(cases d with|false=>refine wp_region ?_;rw[aqY];exact asm ops.toList 0 (by simp) h g (λC v M=>M)|true=>exact axF X f i h g (λC v M=>M))|seq x y F H=>intro f i Q a w m Y β h g;rw[oI,bN] at i;refine wp_seq (wp_mono (F f.1 i.1 _ h g) ?_);rintro e C v ⟨τ',Y',o,r,q,p⟩;(cases e<;>first|(refine wp_mono (H f.2 i.2 Q q r) ?_;rintro e2 S Z ⟨u,D,B,s,A,z⟩;exact⟨u,D,B,s,A,p.trans z⟩)|exact⟨τ',Y',o,r,q,p⟩)|cond c x y F H=>intro f i Q a w m Y β h g;rw[oI,bN] at i;simp only[iq] at g;split at g;rename_i t W;have k:=h.eval c;rw[W] at k;refine wp_cond k.s_inv.1 ?_;(cases t with|true=>exact F f.1 i.1 Q h g|false=>exact H f.2 i.2 Q h g);exact g.elim|block R c N=>intro f i Q a w m Y β h g;refine wp_block (wp_mono (N f i _ h g) ?_);rintro e C v ⟨τ',Y',o,r,q,p⟩;(cases e with|exit j=>simp only[QX.inBlock] at r;simp only[Exit.inBlock];split at r;rename_i K;rw[bX K];exact⟨τ',Y',o,r,q,p⟩;rename_i K;rw[cj K];exact⟨τ',Y',o,r,q,p⟩|_=>exact⟨τ',Y',o,r,q,p⟩)|loop c N=>intro f i Q a w m Y β h g;obtain⟨b,O,T,E⟩:=g;refine aM4 (λn C v=>∃τ' Y' o,b τ' Y'/\O τ' Y'=n/\jG P G κ C v τ' Y' o/\dw w Y β v Y' o) ?_ (O m Y) a w ⟨m,Y,β,T,rfl,h,dw.refl _ _ _⟩;rintro n C v ⟨τ',Y',o,hI,rfl,q,p⟩;refine wp_mono (N f i _ q (E τ' Y' hI)) ?_;rintro e S Z ⟨u,D,B,s,A,z⟩;(cases e with|normal=>exact⟨O u D,s.2,u,D,B,s.1,rfl,A,p.trans z⟩|_=>exact⟨u,D,B,s,A,p.trans z⟩)|_=>intro f i Q a w m Y β h g;exact g.elim
def frM(Y:ae)(c:AV):AV:=gK (gi Y c)
def aOn(Y:ae):AV->AV
 | .m b n=>match box Y b with
  |some x=>if x.var=I then .l (x.aa.take n) I x.own else if((x.aa.take n).all λr=>r.all λc=>eN (frM Y c))=U then .l ((x.aa.take n).map (·.map (frM Y))) I x.own else .m b n
  |none=> .m b n
 |x=>x
def rS(Y:ae)(c:AV):AV:=gK (aOn Y c)
def dQ(Y:ae):AV->AV
 | .m b n=>match box Y b with
  |some x=>if x.var=I then .l (x.aa.take n) I x.own else if((x.aa.take n).all λr=>r.all λc=>eN (rS Y c))=U then .l ((x.aa.take n).map (·.map (rS Y))) I x.own else .m b n
  |none=> .m b n
 |x=>x
def iZ(Y:ae):AV->AV| .a cs=> .a (cs.map (dQ Y))|x=>dQ Y x
def kK(P:Program)(b:List AV)(Y:ae):ResultVar->Option AV| .tmp t=>V (b.getD t .u)| .cell a t=>(iE Y (b.getD a .u)).bind (yz P t)
def yB(P:Program)(f:Func)(b:List AV)(Y:ae):Option AV:=
 match(f.results.toList.map (kK P b Y)) with
 |[r]=>r.map (iZ Y)
 |a=>(a.mapM id).map λvs=> .t (vs.map (iZ Y))
def start(f:Func)(ys:List AV):List AV:=ys++er (f.ntmps-L ys) (.t [])
def ly(f:Func):ae:=er 4096 mO
def QR(P:Program)(f:Func)(R:AV->Prop):QX:=λe a Y=>
 match e with
 | .normal| .ret=>∃r,yB P f a Y=V r/\kG r=U/\R r
 |_=>False
def aFf{a:Act}{w:World}{f:List AV}{Y:ae}{β:Id->Nat}{x:ResultVar}{r:AV}(h:jG P G κ a w f Y β)(b:kK P f Y x=V r):
  ∃v,((match x with| .tmp t=>pure (a.tmps.getD t undef)| .cell c t=>do loadVar t (<-asAddr (a.tmps.getD c undef)):Sem Value)).run P w= .ok v w/\ba κ w Y β v r:=by
 cases x with
 |tmp t=>
  simp only[kK,bE] at b
  subst b
  exact⟨_,by simp,h.reps.get t⟩
 |cell c t=>
  simp only[kK] at b
  cases d:iE Y (f.getD c .u) with
  |none=>rw[d] at b;cases b
  |some cs=>
   rw[d] at b
   obtain⟨l,off,g,e,k⟩:=anZ h.sim (h.reps.get c) d
   obtain⟨v,i,j⟩:=anh (P:=P) (t:=t) k b
   exact⟨v,by simp[e,asAddr,i],j⟩
def aoh{a:Act}{w:World}{d:List AV}{Y:ae}{β:Id->Nat}(h:jG P G κ a w d Y β):∀(l:List ResultVar) (c:List AV),(l.map (kK P d Y)).mapM id=V c->
  ∃vs,(l.mapM λx=>(match x with| .tmp t=>pure (a.tmps.getD t undef)| .cell n t=>do loadVar t (<-asAddr (a.tmps.getD n undef)):Sem Value)).run P w= .ok vs w/\js κ w Y β vs c:=by
 intro l
 induction l with
 |nil=>intro c b;simp at b;subst b;exact⟨[],by simp,rfl,λi v x h=>by simp at h⟩
 |cons x l o=>
  intro c b
  simp only[ji,aQa,id,xp,xq] at b
  cases e:kK P d Y x with
  |none=>rw[e] at b;cases b
  |some r=>
   rw[e] at b
   simp only[qd] at b
   cases f:(l.map (kK P d Y)).mapM id with
   |none=>rw[f] at b;cases b
   |some m=>
    rw[f] at b
    simp only[qd,bE] at b
    subst b
    obtain⟨v,p,q⟩:=aFf h e
    obtain⟨vs,s,k⟩:=o m f
    refine⟨v::vs,by simp only[aQa,Sem.run_bind,p,Result.andThen_ok,s,Sem.run_pure],by simp[k.1],λi u y g j=>?_⟩
    cases i with
    |zero=>simp only[qh,bE] at g j;subst g j;exact q
    |succ i=>exact k.2 i u y (by simpa using g) (by simpa using j)
def i8(f:Func)(k:Nat):aZ (ly f) k=mO:=by unfold aZ ly;rw[eI,xg];split<;>rfl
def CY(f:Func)(b:Id):box (ly f) b=J:=by simp[box,i8]
def axP(f:Func)(w:World):dw w [] β0 w (ly f) β0:=by refine⟨rfl,rfl,rfl,dA _,λ_ _ _=>rfl,λb h=>?_,λb x h=>?_,λb x h=>?_⟩;have e:aZ ([]:ae) b.1=mO:=rfl;unfold jO at h⊢;rw[i8,<-e];exact h;rw[sK] at h;cases h;rw[CY] at h;cases h
def avM{aa:List (List AV)}{f:AV->AV}{i j:Nat}{y:AV}(h:db (aa.map (·.map f)) i j=V y):∃c,db aa i j=V c/\y=f c:=by unfold db at*;rw[ve] at h;cases b:aa[i]? with|none=>rw[b] at h;cases h|some r=>rw[b] at h;simp only[df,qd,ve] at h⊢;cases a:r[j]? with|none=>rw[a] at h;cases h|some c=>rw[a] at h;simp only[df,bE] at h;exact⟨c,rfl,h.symm⟩
def avO{aa:List (List AV)}{n i j:Nat}{y:AV}(h:db (aa.take n) i j=V y):db aa i j=V y:=by unfold db at*;cases a:(aa.take n)[i]? with|none=>rw[a] at h;cases h|some r=>rw[a] at h;rw[ot] at a;split at a;rw[a];exact h;cases a
def avL{aa:List (List AV)}{p:AV->Bool}{i j:Nat}{y:AV}(b:(aa.all λr=>r.all p)=U)(h:db aa i j=V y):p y=U:=by unfold db at h;cases a:aa[i]? with|none=>rw[a] at h;cases h|some r=>rw[a] at h;simp only[qd] at h;exact dV.1 (dV.1 b r (fC a)) y (fC h)
def bct{κ:rm}{w:World}{Y:ae}{β:Id->Nat}{v:Value}{x:AV}(s:cv P κ w Y β)(h:ba κ w Y β v x)(N:nj (aOn Y x)=U):ba κ w [] β0 v (aOn Y x):=by have F:∀l,nN κ (kills Y l) β κ [] β0:=λl k C _=>⟨C,λb y a=>(by rw[sK] at a;cases a)⟩;have q:aOn Y x=gi Y x->ba κ w [] β0 v (aOn Y x):=λe=>(by rw[e] at N⊢;exact(Di (l:=iR x) s h (λb a=>a)).conv1 N (F _) (dA _));cases x with|m b n=>(cases a:box Y b with|none=>exact q (by simp[aOn,gi,a])|some d=>rcases sq d.var with g|g;by_cases t:((d.aa.take n).all λr=>r.all λc=>eN (frM Y c))=U;have e:aOn Y (.m b n)= .l ((d.aa.take n).map (·.map (frM Y))) I d.own:=(by simp only[aOn,a,g,sr,aB9,bX t]);rw[e];obtain⟨cap,cur,rfl,X,D,H⟩:=oR h a;have A:=s.ok b d a;have ac:=zT s a D H;by_cases T:n=0;subst T;rw[CE];exact .l0 (λh=>by cases h);have B:=A.cells D;obtain⟨S,R,C,h2,h3,h4,W⟩:=B.ex;rw[D] at C;(cases C);have f:∀i j y,db ((d.aa.take n).map (·.map (frM Y))) i j=V y->∃u,cur[i*d.size+j]?=V u/\amk u=U/\ba κ w [] β0 u y/\eN y=U:=λi j y o=>(by obtain⟨c,z,rfl⟩:=avM o;have E:=avL t z;obtain⟨u,p,K,M⟩:=W i j c (avO z);exact⟨u,p,K,(Qx (Di (l:=iR c) s M (λb a=>a))).conv E (F _),E⟩);refine .l1 (size:=d.size) A.ow A.nf (λi j y o=>?_) (λi j=>(cur[i*d.size+j]?).getD (.bool I)) (by rw[bJ,gC,rD X]) (by omega) (by omega) (λh=>by cases h) (s.lt a) (λc y z he=>by rw[sK] at z;cases z) (λr Z=>?_) (λi j y o=>?_) (λi j y o=>?_) (λi j y o=>?_);obtain⟨u,_,_,_,k⟩:=f i j y o;exact k;obtain⟨r0,O,rfl⟩:=dN.1 Z;rw[bJ];exact B.rl r0 (sA O);obtain⟨u,p,_,_,_⟩:=f i j y o;rw[show 0+i*d.size+j=i*d.size+j by omega,Df D,p];rfl;obtain⟨u,p,_,M,_⟩:=f i j y o;rw[p];exact M;obtain⟨u,p,K,_,_⟩:=f i j y o;rw[p];exact K;exact q (by simp only[aOn,gi,a,g,sr,aB9,cj t]);exact q (by simp only[aOn,gi,a,g,vg]))|_=>exact q rfl
def ba6{x:AV}(h:eN (gK x)=U):nj x=U:=by cases x<;>first|rfl|exact h|(simp[gK,eN] at h;done)
def K0{κ:rm}{w:World}{Y:ae}{β:Id->Nat}{v:Value}{x:AV}(s:cv P κ w Y β)(h:ba κ w Y β v x)(M:nj (dQ Y x)=U):ba κ w [] β0 v (dQ Y x):=by have O:∀l,nN κ (kills Y l) β κ [] β0:=λl k C _=>⟨C,λb y a=>(by rw[sK] at a;cases a)⟩;have q:dQ Y x=gi Y x->ba κ w [] β0 v (dQ Y x):=λe=>(by rw[e] at M⊢;exact(Di (l:=iR x) s h (λb a=>a)).conv1 M (O _) (dA _));cases x with|m b n=>(cases a:box Y b with|none=>exact q (by simp[dQ,gi,a])|some d=>rcases sq d.var with g|g;by_cases t:((d.aa.take n).all λr=>r.all λc=>eN (rS Y c))=U;have e:dQ Y (.m b n)= .l ((d.aa.take n).map (·.map (rS Y))) I d.own:=(by simp only[dQ,a,g,sr,aB9,bX t]);rw[e];obtain⟨cap,cur,rfl,X,D,F⟩:=oR h a;have A:=s.ok b d a;have ac:=zT s a D F;by_cases T:n=0;subst T;rw[CE];exact .l0 (λh=>by cases h);have B:=A.cells D;obtain⟨S,R,C,h2,h3,h4,W⟩:=B.ex;rw[D] at C;(cases C);have f:∀i j y,db ((d.aa.take n).map (·.map (rS Y))) i j=V y->∃u,cur[i*d.size+j]?=V u/\amk u=U/\ba κ w [] β0 u y/\eN y=U:=λi j y o=>(by obtain⟨c,z,rfl⟩:=avM o;have E:=avL t z;obtain⟨u,p,H,K⟩:=W i j c (avO z);exact⟨u,p,H,Qx (bct s K (ba6 E)),E⟩);refine .l1 (size:=d.size) A.ow A.nf (λi j y o=>?_) (λi j=>(cur[i*d.size+j]?).getD (.bool I)) (by rw[bJ,gC,rD X]) (by omega) (by omega) (λh=>by cases h) (s.lt a) (λc y z he=>by rw[sK] at z;cases z) (λr Z=>?_) (λi j y o=>?_) (λi j y o=>?_) (λi j y o=>?_);obtain⟨u,_,_,_,k⟩:=f i j y o;exact k;obtain⟨r0,N,rfl⟩:=dN.1 Z;rw[bJ];exact B.rl r0 (sA N);obtain⟨u,p,_,_,_⟩:=f i j y o;rw[show 0+i*d.size+j=i*d.size+j by omega,Df D,p];rfl;obtain⟨u,p,_,K,_⟩:=f i j y o;rw[p];exact K;obtain⟨u,p,H,_,_⟩:=f i j y o;rw[p];exact H;exact q (by simp only[dQ,gi,a,g,sr,aB9,cj t]);exact q (by simp only[dQ,gi,a,g,vg]))|_=>exact q rfl
def Dk{κ:rm}{w:World}{Y:ae}{β:Id->Nat}{v:Value}{x:AV}(s:cv P κ w Y β)(h:ba κ w Y β v x)(e:pF (iZ Y x)=U):ba κ w [] β0 v (iZ Y x):=by cases x with|a cs=>(cases h with|a l k o=>simp only[iZ,pF] at e⊢;refine .a (by simp[l]) k λi v c p d=>?_;rw[ve] at d;cases f:cs[i]? with|none=>rw[f] at d;cases d|some y=>rw[f] at d;simp only[df,bE] at d;subst d;exact K0 s (o i v y p f) (dV.1 e _ (dN.2 ⟨y,fC f,rfl⟩)))|m b n=>have g:nj (dQ Y (.m b n))=U:=(by have:∀y,(∀cs,y≠ .a cs)->pF y=U->nj y=U:=λy j q=>(by cases y with|a cs=>exact nl rfl (j cs)|_=>exact q);refine this _ (λcs=>?_) e;simp only[dQ];split;split;simp;split<;>simp;simp);exact K0 s h g|_=>exact K0 s h e
def aBk{κ:rm}{w:World}{Y:ae}{β:Id->Nat}{v:Value}{x:AV}(s:cv P κ w Y β)(h:ba κ w Y β v x)(c:kG (iZ Y x)=U):ba κ w [] β0 v (iZ Y x):=by cases x with|t cs=>exact h.convT c (λk g _=>⟨g,λb y d=>(by rw[sK] at d;cases d)⟩) (dA _)|a cs=>exact Dk s h c|m b n=>refine Dk s h ?_;have e:∀y,iZ Y (.m b n)=y->(∀vs,y≠ .t vs)->kG y=U->pF y=U:=λy _ f i=>(by cases y with|t vs=>exact nl rfl (f vs)|_=>exact i);refine e _ rfl (λvs=>?_) c;simp only[iZ,dQ];split;split;simp;split<;>simp;simp|_=>exact Dk s h c
def tQ.code(d:tQ P){fn:FuncId}{f:Func}{c:Code}(b:P.funcs[fn]?=V f)(a:f.body=V c):qf P c/\oI c=U:=by refine⟨aBs d.funcs b a,?_⟩;have:=dV.1 d.guards f (by rw[vj];exact RA b);rw[a] at this;exact this
def aBh(d:tQ P){fn:FuncId}{f:Func}{c:Code}{ys:List AV}{R:AV->Prop}(H:P.funcs[fn]?=V f)(m:f.body=V c)(hn:(f.name== "runtime.NumGoroutine")=I)(hl:L ys<=f.ntmps)
  (h:iq P G c (QR P f R) (start f ys) (ly f)):zm P G fn ys R:=by
 refine⟨⟨f,c,H,m,hn⟩,λF w E hF hG M=>calls_of_wp H m ?_⟩
 have e0:=axP f w
 have ab:jG P G ⟨F,w.heap.size⟩ {tmps:=E.toArray++aqn (f.ntmps-E.toArray.size) undef,defers:=[]} w (start f ys) (ly f) β0:=by
  refine⟨rfl,?_,⟨λb x m=>(by rw[CY] at m;cases m),λb b' x x' m=>(by rw[CY] at m;cases m),hF,dA _⟩,hG.ext e0⟩
  have n:=M.1
  refine⟨by simp[start,n],λi v x g a=>?_⟩
  simp only[aqo,aqp,xm,start] at g a
  rw[rA] at g a
  rw[n] at g
  split at g
  ·rename_i W;rw[bX W] at a;exact(M.2 i v x g a).ext e0
  ·rename_i W
   rw[cj W] at a
   rw[xg] at g a
   split at g
   ·rename_i ac;rw[bX ac] at a;cases g;cases a;exact QT
   ·cases g
 refine wp_mono (Kg d.mixed c (d.code H m).1 (d.code H m).2 _ ab h) ?_
 rintro e u o ⟨τ',Y',aw,K,q,z⟩
 have S:Below w.heap.size w o:=⟨z.os,z.tape,z.output,z.size,λk hk=>z.keep k hk (λb x m=>(by rw[CY] at m;cases m))⟩
 have N:∀r,yB P f τ' Y'=V r->kG r=U->R r->u.defers=[]/\∃v,(results f u.tmps).run P o= .ok v o/\∃v' r,Ending.returned v= .returned v'/\R r/\ba ⟨F,w.heap.size⟩ o [] β0 v' r/\Below w.heap.size w o:=by
  intro r d T hR
  refine⟨q.defers,?_⟩
  have ah:∃j,(f.results.toList.map (kK P τ' Y')).mapM id=V j/\((∃x,j=[x]/\r=iZ Y' x)\/(L j≠1/\r= .t (j.map (iZ Y')))):=by
   unfold yB at d
   split at d
   ·rename_i x p
    cases C:x with
    |none=>rw[C] at d;cases d
    |some y=>
     rw[C] at d
     simp only[df,bE] at d
     exact⟨[y],by rw[p,C];rfl, .inl ⟨y,rfl,d.symm⟩⟩
   ·rename_i p
    cases X:(f.results.toList.map (kK P τ' Y')).mapM id with
    |none=>rw[X] at d;cases d
    |some j=>
     rw[X] at d
     simp only[df,bE] at d
     refine⟨j,rfl, .inr ⟨λg=>?_,d.symm⟩⟩
     have n:L (f.results.toList.map (kK P τ' Y'))=L j:=by
      have:∀(l:List (Option AV)) j,l.mapM id=V j->L l=L j:=by
       intro l
       induction l with
       |nil=>intro j h;simp at h;simp[h]
       |cons y l ih=>
        intro j h
        simp only[aQa,id,xp,xq] at h
        cases y with
        |none=>cases h
        |some y=>
         simp only[qd] at h
         cases a:l.mapM id with
         |none=>rw[a] at h;cases h
         |some ak=>
          rw[a] at h
          simp only[qd,bE] at h
          subst h
          simp[ih ak a]
      exact this _ _ X
     rw[g] at n
     obtain⟨y,hy⟩:=xj.1 n
     exact p y hy
  obtain⟨j,af,A⟩:=ah
  obtain⟨vs,k1,D⟩:=aoh q f.results.toList j af
  have Z:(results f u.tmps).run P o= .ok (if h:vs.toArray.size=1 then vs.toArray[0] else .tuple vs.toArray) o:=by
   unfold results
   rw[aqm]
   simp only[Sem.run_bind]
   have ag:Sem.run P (Functor.map aq1 (f.results.toList.mapM λx=>(match x with| .tmp t=>pure (u.tmps.getD t undef)| .cell ad t=>do loadVar t (<-asAddr (u.tmps.getD ad undef)):Sem Value))) o= .ok vs.toArray o:=by
    rw[map_eq_pure_bind]
    simp only[Sem.run_bind,k1,Result.andThen_ok,Sem.run_pure]
   erw [ag]
   simp
  refine⟨_,Z,_,r,rfl,hR,?_,S⟩
  rcases A with⟨x,rfl,rfl⟩|⟨ae,rfl⟩
  ·have B:L vs=1:=by rw[D.1];rfl
   obtain⟨v,rfl⟩:=xj.1 B
   simp only[xm,GJ,dite_true,aqR,aqP]
   exact aBk q.sim (D.2 0 v x rfl rfl) T
  ·have B:¬vs.toArray.size=1:=by simp only[xm];rw[D.1];exact ae
   rw[dif_neg B]
   simp only[kG] at T
   refine .t (by simp[D.1]) (λi v c M s=>?_)
   rw[ve] at s
   cases p:j[i]? with
   |none=>rw[p] at s;cases s
   |some x=>
    rw[p] at s
    simp only[df,bE] at s
    subst s
    exact Dk q.sim (D.2 i v x M p) (dV.1 T _ (dN.2 ⟨x,fC p,rfl⟩))
 cases e<;>simp only[QR] at K<;>first|exact K.elim|skip
 ·obtain⟨r,g,a,O⟩:=K;exact N r g a O
 ·obtain⟨r,g,a,O⟩:=K;exact N r g a O
def vN{ops:Array Oper}{K b:List AV->ae->Prop}(g:∀a Y,K a Y->b a Y):∀(l:List Oper) {a:List AV} {Y:ae},rE P G ops l K a Y->rE P G ops l b a Y:=by intro l;induction l with|nil=>intro a Y h;exact g _ _ h|cons o l i=>intro a Y h;obtain⟨c,d,e,f⟩:=oE.1 h;exact oE.2 ⟨c,d,e,i f⟩
def zK{ops:Array Oper}{K c:List fY->List AV->ae->Prop}(i:∀l a Y,K l a Y->c l a Y):∀(l:List Oper) (b:List fY) {a:List AV} {Y:ae},qq P G ops l b K a Y->qq P G ops l b c a Y:=by intro l;induction l with|nil=>intro b a Y h;exact i _ _ _ h|cons o l j=>intro b a Y h;obtain⟨d,e,f,g⟩:=oE.1 h;exact oE.2 ⟨d,e,f,j _ g⟩
def ak6{ops:Array Oper}{K:List AV->ae->Prop}:∀(l:List Oper) {c:List AV} {Y:ae},rE P G ops l K c Y->∃τ' Y',K τ' Y'/\rE P G ops l (λa b=>a=τ'/\b=Y') c Y:=by intro l;induction l with|nil=>intro c Y h;exact⟨c,Y,h,rfl,rfl⟩|cons o l k=>intro c Y h;obtain⟨d,e,f,g⟩:=oE.1 h;obtain⟨τ',Y',i,j⟩:=k g;exact⟨τ',Y',i,oE.2 ⟨d,e,f,j⟩⟩
def asi{ops:Array Oper}{K:List fY->List AV->ae->Prop}:∀(l:List Oper) (d:List fY) {e:List AV} {Y:ae},qq P G ops l d K e Y->∃ls τ' Y',K ls τ' Y'/\qq P G ops l d (λc a b=>c=ls/\a=τ'/\b=Y') e Y:=by intro l;induction l with|nil=>intro d e Y h;exact⟨d,e,Y,h,rfl,rfl,rfl⟩|cons o l n=>intro d e Y h;obtain⟨f,g,i,j⟩:=oE.1 h;obtain⟨ls,τ',Y',k,m⟩:=n _ j;exact⟨ls,τ',Y',k,oE.2 ⟨f,g,i,m⟩⟩
def kR:∀(c:Code) {Q g:QX} {f:List AV} {Y:ae},(∀e f Y,Q e f Y->g e f Y)->iq P G c Q f Y->iq P G c g f Y:=by intro c;induction c with|skip=>intro Q g f Y b h;exact b _ _ _ h|label l=>intro Q g f Y b h;exact b _ _ _ h|exit q=>intro Q g f Y b h;exact b _ _ _ h|ret=>intro Q g f Y b h;exact b _ _ _ h|region q ops d=>intro Q g f Y b h;(cases d with|false=>exact vN (b .normal) _ h|true=>simp only[iq,sF] at h⊢;split at h;rename_i o;rw[bX o];exact vN (b .normal) _ h;rename_i o;rw[cj o];exact zK (λl f Y h=>⟨h.1,b _ _ _ h.2⟩) _ _ h)|seq x y k m=>intro Q g f Y b h;refine k ?_ h;intro e f Y i;(cases e<;>first|exact m b i|exact b _ _ _ i)|cond c x y k m=>intro Q g f Y b h;simp only[iq] at h⊢;split at h;rename_i t v;(cases t with|true=>exact k b h|false=>exact m b h);exact h.elim|block q c p=>intro Q g f Y b h;refine p ?_ h;intro e f Y i;(cases e with|exit j=>simp only[QX.inBlock] at i⊢;split;rename_i n;rw[bX n] at i;exact b _ _ _ i;rename_i n;rw[cj n] at i;exact b _ _ _ i|_=>exact b _ _ _ i)|loop c p=>intro Q g f Y b h;obtain⟨a,u,r,s⟩:=h;refine⟨a,u,r,λf Y hI=>p ?_ (s f Y hI)⟩;intro e f Y i;(cases e<;>first|exact i|exact b _ _ _ i)|_=>intro Q g f Y b h;exact h.elim
def Kf:∀(c:Code) {Q:QX} {g:List AV} {Y:ae},iq P G c Q g Y->∃e τ' Y',Q e τ' Y'/\iq P G c (λm a b=>m=e/\a=τ'/\b=Y') g Y:=by intro c;induction c with|skip=>intro Q g Y h;exact⟨_,_,_,h,rfl,rfl,rfl⟩|label l=>intro Q g Y h;exact⟨_,_,_,h,rfl,rfl,rfl⟩|exit u=>intro Q g Y h;exact⟨_,_,_,h,rfl,rfl,rfl⟩|ret=>intro Q g Y h;exact⟨_,_,_,h,rfl,rfl,rfl⟩|region u ops d=>intro Q g Y h;(cases d with|false=>obtain⟨τ',Y',i,k⟩:=ak6 _ h;exact⟨.normal,τ',Y',i,vN (λa b p=>⟨rfl,p⟩) _ k⟩|true=>by_cases O:rG G ops.toList=U;simp only[iq,sF,bX O] at h⊢;obtain⟨τ',Y',i,k⟩:=ak6 _ h;exact⟨.normal,τ',Y',i,vN (λa b p=>⟨rfl,p⟩) _ k⟩;simp only[iq,sF,cj O] at h⊢;obtain⟨ls,τ',Y',i,k⟩:=asi _ _ h;exact⟨.normal,τ',Y',i.2,zK (λl a b p=>⟨by rw[p.1];exact i.1,rfl,p.2⟩) _ _ k⟩)|seq x y v w=>intro Q g Y h;obtain⟨e,o,q,i,k⟩:=v h;by_cases r:e= .normal;subst r;obtain⟨F,τ',Y',H,A⟩:=w i;refine⟨F,τ',Y',H,kR x ?_ k⟩;rintro m a b ⟨rfl,rfl,rfl⟩;exact A;refine⟨e,o,q,?_,kR x ?_ k⟩;(cases e<;>first|exact nl rfl r|exact i);rintro m a b ⟨rfl,rfl,rfl⟩;(cases m<;>first|exact absurd rfl r|exact⟨rfl,rfl,rfl⟩)|cond c x y v w=>intro Q g Y h;simp only[iq] at h⊢;split at h;rename_i t Z;(cases t with|true=>exact v h|false=>exact w h);exact h.elim|block u c K=>intro Q g Y h;obtain⟨e,o,q,i,k⟩:=K h;(cases e with|exit j=>by_cases D:j=u;simp only[QX.inBlock] at i;rw[bX D] at i;refine⟨.normal,o,q,i,kR c ?_ k⟩;rintro m a b ⟨rfl,rfl,rfl⟩;show(if j=u then _ else _);rw[bX D];exact⟨rfl,rfl,rfl⟩;simp only[QX.inBlock] at i;rw[cj D] at i;refine⟨.exit j,o,q,i,kR c ?_ k⟩;rintro m a b ⟨rfl,rfl,rfl⟩;show(if j=u then _ else _);rw[cj D];exact⟨rfl,rfl,rfl⟩|_=>refine⟨_,o,q,i,kR c ?_ k⟩;rintro m a b ⟨rfl,rfl,rfl⟩;exact⟨rfl,rfl,rfl⟩)|loop c K=>intro Q g Y h;obtain⟨f,X,T,s⟩:=h;have S:∀n g Y,f g Y->X g Y=n->∃e τ' Y',Q e τ' Y'/\iq P G (.loop c) (λm a b=>m=e/\a=τ'/\b=Y') g Y:=(by intro n;induction n using Nat.strongRecOn with|_ n R=>rintro g Y hI rfl;obtain⟨e,o,q,i,k⟩:=K (s g Y hI);by_cases r:e= .normal;subst r;obtain⟨M,N⟩:=i;obtain⟨F,τ',Y',H,z,E,A,W⟩:=R _ N o q M rfl;classical refine⟨F,τ',Y',H,λa b=>(a=g/\b=Y)\/z a b,λa b=>if z a b then E a b else E o q+1, .inl ⟨rfl,rfl⟩,λa b p=>?_⟩;by_cases C:z a b;refine kR c ?_ (W a b C);intro m x y B;(cases m<;>first|(refine⟨.inr B.1,?_⟩;simp only[bX (show z x y from B.1),bX C];exact B.2)|exact B);obtain⟨rfl,rfl⟩:=p.resolve_right C;refine kR c ?_ k;rintro m x y ⟨rfl,rfl,rfl⟩;refine⟨.inr A,?_⟩;simp only[bX A,cj C];exact Nat.lt_succ_self _;refine⟨e,o,q,?_,λa b=>a=g/\b=Y,λ_ _=>0,⟨rfl,rfl⟩,?_⟩;(cases e<;>first|exact nl rfl r|exact i);rintro a b ⟨rfl,rfl⟩;refine kR c ?_ k;rintro m x y ⟨rfl,rfl,rfl⟩;cases m<;>first|exact nl rfl r|exact⟨rfl,rfl,rfl⟩);exact S _ g Y T rfl|_=>intro Q g Y h;exact h.elim
def Fn(P:Program)(G:nn)(fn:FuncId)(ys:List AV)(R:AV->Prop):Prop:=∃r,R r/\kG r=U/\zm P G fn ys (·=r)
def Fn.mono{fn:FuncId}{ys:List AV}{R a:AV->Prop}(h:Fn P G fn ys R)(e:∀r,R r->a r):Fn P G fn ys a:=by obtain⟨r,b,c,d⟩:=h;exact⟨r,e r b,c,d⟩
def aBg(n:tQ P){fn:FuncId}{f:Func}{c:Code}{ys:List AV}{R:AV->Prop}(k:P.funcs[fn]?=V f)(j:f.body=V c)(m:(f.name== "runtime.NumGoroutine")=I)(l:L ys<=f.ntmps)(h:iq P G c (QR P f R) (start f ys) (ly f)):Fn P G fn ys R:=by obtain⟨e,τ',Y',d,i⟩:=Kf c h;have:∃r,yB P f τ' Y'=V r/\kG r=U/\R r/\(e= .normal\/e= .ret):=(by(cases e<;>simp only[QR] at d<;>first|exact d.elim|skip);obtain⟨r,a,b,c⟩:=d;exact⟨r,a,b,c, .inl rfl⟩;obtain⟨r,a,b,c⟩:=d;exact⟨r,a,b,c, .inr rfl⟩);obtain⟨r,o,g,p,q⟩:=this;refine⟨r,p,g,aBh n k j m l (kR c ?_ i)⟩;rintro s a b ⟨rfl,rfl,rfl⟩;rcases q with rfl|rfl<;>exact⟨r,o,g,rfl⟩
def wG(P:Program)(f:Func)(b:List AV)(Y:ae):Option AV:=
 match f.results.toList.map (kK P b Y) with
 |[r]=>r
 |a=>(a.mapM id).map .t
def QB(P:Program)(f:Func)(R:AV->ae->Prop):QX:=λe a Y=>
 match e with
 | .normal| .ret=>∃r,wG P f a Y=V r/\R r Y
 |_=>False
def Qn:∀(l:List (Option AV)) (a:List AV),l.mapM id=V a->L l=L a:=by intro l;induction l with|nil=>intro a h;simp at h;simp[h]|cons y l d=>intro a h;simp only[aQa,id,xp,xq] at h;cases y with|none=>(cases h)|some y=>simp only[qd] at h;cases b:l.mapM id with|none=>rw[b] at h;cases h|some c=>rw[b] at h;simp only[qd,bE] at h;subst h;simp[d c b]
def aoi{f:Func}{a:Act}{w:World}{j:List AV}{Y:ae}{β:Id->Nat}{r:AV}(h:jG P G κ a w j Y β)(b:wG P f j Y=V r):∃v,(results f a.tmps).run P w= .ok v w/\ba κ w Y β v r:=by
 have q:∃c,(f.results.toList.map (kK P j Y)).mapM id=V c/\(c=[r]\/(L c≠1/\r= .t c)):=by
  unfold wG at b
  split at b
  ·rename_i x m
   subst b
   exact⟨[r],by rw[m];rfl, .inl rfl⟩
  ·rename_i m
   cases k:(f.results.toList.map (kK P j Y)).mapM id with
   |none=>rw[k] at b;cases b
   |some c=>
    rw[k] at b
    simp only[df,bE] at b
    refine⟨c,rfl, .inr ⟨λu=>?_,b.symm⟩⟩
    have d:=Qn _ _ k
    rw[u] at d
    obtain⟨y,z⟩:=xj.1 d
    exact m y z
 obtain⟨c,o,e⟩:=q
 obtain⟨vs,A,i⟩:=aoh h f.results.toList c o
 have l:(results f a.tmps).run P w= .ok (if h:vs.toArray.size=1 then vs.toArray[0] else .tuple vs.toArray) w:=by
  unfold results
  rw[aqm]
  simp only[Sem.run_bind]
  have p:Sem.run P (Functor.map aq1 (f.results.toList.mapM λx=>(match x with| .tmp t=>pure (a.tmps.getD t undef)| .cell s t=>do loadVar t (<-asAddr (a.tmps.getD s undef)):Sem Value))) w= .ok vs.toArray w:=by
   rw[map_eq_pure_bind]
   simp only[Sem.run_bind,A,Result.andThen_ok,Sem.run_pure]
  erw [p]
  simp
 refine⟨_,l,?_⟩
 rcases e with rfl|⟨n,rfl⟩
 ·have g:L vs=1:=by rw[i.1];rfl
  obtain⟨v,rfl⟩:=xj.1 g
  simp only[xm,GJ,dite_true,aqR,aqP]
  exact i.2 0 v r rfl rfl
 ·have g:¬vs.toArray.size=1:=by simp only[xm];rw[i.1];exact n
  rw[dif_neg g]
  exact .t i.1 i.2
def aBf(q:tQ P){fn:FuncId}{f:Func}{c:Code}{ys:List AV}{o:ae}{R:AV->ae->Prop}(n:P.funcs[fn]?=V f)(m:f.body=V c)(C:(f.name== "runtime.NumGoroutine")=I)(h:iq P G c (QB P f R) (start f ys) o):∃r s,R r s/\cZ P G fn ys o r s:=by obtain⟨e,τ',Y',d,g⟩:=Kf c h;have:∃r,wG P f τ' Y'=V r/\R r Y'/\(e= .normal\/e= .ret):=(by(cases e<;>simp only[QB] at d<;>first|exact d.elim|skip);obtain⟨r,a,b⟩:=d;exact⟨r,a,b, .inl rfl⟩;obtain⟨r,a,b⟩:=d;exact⟨r,a,b, .inr rfl⟩);obtain⟨r,E,F,H⟩:=this;refine⟨r,Y',F,⟨f,c,n,m,C⟩,λκ w β l D A y=>calls_of_wp n m ?_⟩;have t:jG P G κ {tmps:=l.toArray++aqn (f.ntmps-l.toArray.size) undef,defers:=[]} w (start f ys) o β:=(by refine⟨rfl,?_,D,A⟩;have k:=y.1;refine⟨by simp[start,k],λi v x d g=>?_⟩;simp only[aqo,aqp,xm,start] at d g;rw[rA] at d g;rw[k] at d;split at d;rename_i p;rw[bX p] at g;exact y.2 i v x d g;rename_i p;rw[cj p] at g;rw[xg] at d g;split at d;rename_i u;rw[bX u] at g;cases d;cases g;exact QT;cases d);refine wp_mono (Kg q.mixed c (q.code n m).1 (q.code n m).2 _ t g) ?_;rintro O N S ⟨_,_,z,⟨rfl,rfl,rfl⟩,j,B⟩;obtain⟨v,K,M⟩:=aoi j E;rcases H with rfl|rfl<;>exact⟨j.defers,v,K,v,z,rfl,M,j.sim,B⟩
end
end Go.Ab
