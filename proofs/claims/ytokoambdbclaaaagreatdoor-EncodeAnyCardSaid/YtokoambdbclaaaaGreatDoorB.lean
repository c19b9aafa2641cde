/- Part of the proof of EncodeAny, made short by a program: One Two Three Four Five Six Map Seven Eight Nine Ten MapTwo. -/
import Derived.Test.YtokoambdbclaaaaGreatDoorA
import Derived.WalkKit
import Derived.Below
import Derived.Laws.OwnMore
import Derived.ArgAppend
import Derived.Laws.Small
import Derived.Laws.StructEq
import Derived.MapKept
import Derived.WideKeyRuns
import Derived.Laws.Tables
import Derived.Laws.MakeOwn
import Derived.Laws.CopyRow
import Derived.Great.BuildSlice
import GoSem.Builtin.Clear
set_option linter.all false
open Array renaming toList_inj->qb
open Bool renaming and_eq_true->bN,false->I,true->U
open Decidable renaming decide->Q
open Go.World renaming cell?_of_block->ar6,setRow->ar9
open List renaming all_cons->Cs,all_eq_true->dV,flatten_cons->aqM,getD_eq_getElem?_getD->eI,getElem?_append->rA,getElem?_drop->mf,getElem?_eq_getElem->eC,getElem?_eq_none->qi,getElem?_eq_some_iff->mg,getElem?_map->fp,getElem?_of_mem->aqN,getElem?_range->GH,getElem?_replicate->xg,getElem?_set->xh,getElem?_take->ot,getElem?_toArray->RR,getElem_mem->qj,length->L,length_cons->bZ,length_replicate->oA,length_take->gC,map_cons->ji,mem_append->dF,mem_map->dN,mem_of_getElem?->fC,mem_of_mem_drop->CB,mem_of_mem_take->sA,mem_or_eq_of_mem_set->CC,mem_range->fq,mem_singleton->cE,range->aH,range'->GO,replicate->er,replicate_succ->aqZ
open Nat renaming add_assoc->R3,add_mul->R4,add_zero->kP,div_add_mod->aq4,div_lt_of_lt_mul->aq5,eq_of_mul_eq_mul_right->aq6,eq_zero_or_pos->oD,le_of_eq->R5,le_refl->dA,le_trans->gl,lt_of_lt_of_le->gh,lt_or_ge->jj,min_eq_left->rD,mod_eq_of_lt->R8,mod_lt->zw,mul_comm->vD,mul_le_mul_right->qo,mul_one->zx,succ_mul->tN,zero_add->aj
open Option renaming bind_some->ek,getD_none->sD,getD_some->mi,isSome_iff_exists->zz,map_some->df,none->J,some->V,some.inj->xu,some.injEq->bE
open Prod renaming ext->GT,mk.injEq->iK
namespace Go.Ab
open Go Go.RowKit
abbrev Id:=Nat×Nat
inductive AV where
 |s(v:Value)
 |u
 |l(rows:List (List AV))(tight own:Bool)
 |a(cs:List AV)
 |t(cs:List AV)
 |p(b:Id)(i j:Nat)
 |q(cs:List AV)
 |m(b:Id)(n:Nat)
 |f(fn:FuncId)(first cap:List AV)
 |g(k:Nat)(b:Id)(o n:Nat)
 deriving Inhabited
structure dk where
 glob:Nat->Option (List AV)
 imp:FuncId->Bool
 rd:FuncId->Bool
 nw:FuncId->Bool
instance:CoeFun dk (λ_=>Nat->Option (List AV)):=⟨dk.glob⟩
structure bY where
 elem:TypeId
 size:Nat
 own:Bool
 var:Bool
 rows:List (List AV)
structure vG where
 ver:Nat
 val:Nat->Option bY
abbrev mO:vG:=⟨0,λ_=>J⟩
abbrev ae:=List vG
structure ei where
 F:Nat->Prop
 base:Nat
def aZ(Y:ae)(k:Nat):vG:=Y.getD k mO
def box(Y:ae)(b:Id):Option bY:=if b.2<=(aZ Y b.1).ver then(aZ Y b.1).val b.2 else J
def jO(Y:ae)(b:Id):Bool:=Q (b.2<=(aZ Y b.1).ver)&&((aZ Y b.1).val b.2).isNone
def eN:AV->Bool| .s _=>U| .l _ a own=>!a&&!own|_=>I
def db(rows:List (List AV))(i j:Nat):Option AV:=(rows[i]?).bind (λr=>r[j]?)
def sc:Value->Bool| .bool _| .int _ _| .string _| .pointer none| .nilFunc| .nilIface| .map none| .chan none| .float _ _| .complex _ _ _=>U|_=>I
def ir:Value->Bool| .agg _| .tuple _=>I|_=>U
theorem AF{v:Value}(h:sc v=U):ir v=U:=by cases v<;>simp_all [sc,ir]
def XV(k z m a o n:Nat)(v:Value):Prop:=(k=0/\z=0/\v= .map (V a))\/(k=1/\z=0/\v= .pointer (V ⟨a,0,J⟩))\/(k=2/\0<z/\o+n<=m/\∃cap,v= .slice (V ⟨a,o*z,J⟩) n cap)
theorem XV.cell{k z m a o n:Nat}{v:Value}(h:XV k z m a o n v):ir v=U:=by rcases h with⟨_,_,rfl⟩|⟨_,_,rfl⟩|⟨_,_,_,_,rfl⟩<;>rfl
def lf(p:Value×Value):AV:= .t [.s p.1, .s p.2]
def oQ:Nat->List (Value×Value)->List MapEntry|_,[]=>[]|i,p::a=>⟨p.1,p.2,i⟩::oQ (i+1) a
def DW(v:Value):Bool:=match v with| .agg a=>a.toList.all sc|_=>U
def uK(p:Value×Value):Bool:=sc p.2&&DW p.1
def GW(x:bY)(o:Option Obj):Prop:=(x.var=U/\∃a:List (Value×Value),x.rows=[a.map lf]/\a.all uK=U/\o=V (.map (oQ 0 a).toArray (L a)))\/(x.var=I/\∃(s:ByteArray) (b:Nat),x.rows=[[.s (.string s), .s (.int .i64 b)]]/\o=V (.stringIter s b))
inductive ba(κ:ei)(w:World)(Y:ae)(β:Id->Nat):Value->AV->Prop
 |s {v:Value} (h:sc v=U):ba κ w Y β v (.s v)
 |u {v:Value}:ba κ w Y β v .u
 |a {vs:List Value} {cs:List AV} (hl:L vs=L cs) (hc:∀v∈vs,ir v=U)
   (h:∀(i:Nat) v c,vs[i]?=V v->cs[i]?=V c->ba κ w Y β v c):ba κ w Y β (.agg vs.toArray) (.a cs)
 |t {vs:List Value} {cs:List AV} (hl:L vs=L cs)
   (h:∀(i:Nat) v c,vs[i]?=V v->cs[i]?=V c->ba κ w Y β v c):ba κ w Y β (.tuple vs.toArray) (.t cs)
 |l0 {A:Option Addr} {c:Nat} {tight own:Bool} (ht:tight=U->c=0):ba κ w Y β (.slice A 0 c) (.l [] tight own)
 |l1 {blk off n c size:Nat} {rows:List (List AV)} {tight own:Bool} (ho:own=U->κ.base<=blk) (nf:¬κ.F blk) (hd:∀i j x,db rows i j=V x->eN x=U) (g:Nat->Nat->Value) (hn:L rows=n) (hne:0<n) (hlen:n<=c) (ht:tight=U->c=n)
   (hb:blk<w.heap.size) (nd:∀b x,box Y b=V x->β b≠blk) (hs:∀r∈rows,L r=size)
   (hc:∀i j x,db rows i j=V x->w.cell? ⟨blk,off+i*size+j,J⟩=V (g i j))
   (hr:∀i j x,db rows i j=V x->ba κ w Y β (g i j) x) (hk:∀i j x,db rows i j=V x->ir (g i j)=U):ba κ w Y β (.slice (V ⟨blk,off,J⟩) n c) (.l rows tight own)
 |p1 {b:Id} {i j o:Nat} {x:bY} (h:box Y b=V x) (hz:0<x.size) (ho:o=i*x.size+j):ba κ w Y β (.pointer (V ⟨β b,o,J⟩)) (.p b i j)
 |p0 {v:Value} {b:Id} {i j:Nat} (h:jO Y b=U) (hv:ir v=U):ba κ w Y β v (.p b i j)
 |q {blk off:Nat} {cs:List AV} (nf:¬κ.F blk) (g:Nat->Value) (hb:blk<w.heap.size) (nd:∀b x,box Y b=V x->β b≠blk)
   (hc:∀j x,cs[j]?=V x->w.cell? ⟨blk,off+j,J⟩=V (g j)) (hr:∀j x,cs[j]?=V x->ba κ w Y β (g j) x)
   (hk:∀j x,cs[j]?=V x->ir (g j)=U):ba κ w Y β (.pointer (V ⟨blk,off,J⟩)) (.q cs)
 |m1 {b:Id} {n cap:Nat} {x:bY} {cur:Array Value} (h:box Y b=V x) (hn:n<=L x.rows) (hh:w.heap[β b]?=V (.cells cur x.elem (0,0))) (hcap:cur.size=cap*x.size) (hz:0<x.size):
   ba κ w Y β (.slice (V ⟨β b,0,J⟩) n cap) (.m b n)
 |m0 {v:Value} {b:Id} {n:Nat} (h:jO Y b=U) (hv:ir v=U):ba κ w Y β v (.m b n)
 |g1 {v:Value} {b:Id} {k o n:Nat} {x:bY} (h:box Y b=V x) (hv:XV k x.size (L x.rows) (β b) o n v):ba κ w Y β v (.g k b o n)
 |g0 {v:Value} {b:Id} {k o n:Nat} (h:jO Y b=U) (hv:ir v=U):ba κ w Y β v (.g k b o n)
 |f {fn:FuncId} {fs cs:List Value} {fa ca:List AV} (hl:L fs=L fa) (hl':L cs=L ca)
   (h:∀(i:Nat) v c,fs[i]?=V v->fa[i]?=V c->ba κ w Y β v c) (h':∀(i:Nat) v c,cs[i]?=V v->ca[i]?=V c->ba κ w Y β v c):
   ba κ w Y β (.func (.func fn) fs.toArray cs.toArray) (.f fn fa ca)
def one:AV->Bool| .a _| .t _| .u=>I|_=>U
theorem ba.cell{κ:ei}{w:World}{Y:ae}{β:Id->Nat}{v:Value}{x:AV}(h:ba κ w Y β v x)(a:one x=U):ir v=U:=by cases h<;>first|rfl|assumption|(simp[one] at a;done)|(exact AF ‹_›)|(exact XV.cell ‹_›)
structure dw(w:World)(Y:ae)(β:Id->Nat)(w':World)(Y':ae)(β':Id->Nat):Prop where
 os:w'.os=w.os
 tape:w'.tape=w.tape
 output:w'.output=w.output
 size:w.heap.size<=w'.heap.size
 keep:∀k,k<w.heap.size->(∀b x,box Y b=V x->β b≠k)->w'.heap[k]?=w.heap[k]?
 dead:∀b,jO Y b=U->jO Y' b=U
 live:∀b x,box Y b=V x->jO Y' b=U\/∃x',box Y' b=V x'/\x'.size=x.size/\x'.elem=x.elem/\L x'.rows=L x.rows/\β' b=β b/\
  ∀cur,w.heap[β b]?=V (.cells cur x.elem (0,0))->∃cur',w'.heap[β b]?=V (.cells cur' x.elem (0,0))/\cur'.size=cur.size
 fresh:∀b' x',box Y' b'=V x'->w.heap.size<=β' b'\/∃b x,box Y b=V x/\β b=β' b'
section
variable{κ:ei}{w w' w'':World}{Y Y' Y'':ae}{β β' β'':Id->Nat}
theorem dw.nd(e:dw w Y β w' Y' β'){k:Nat}(j:k<w.heap.size)(a:∀b x,box Y b=V x->β b≠k):∀b x,box Y' b=V x->β' b≠k:=by intro b x g i;rcases e.fresh b x g with h|⟨c,x0,d,f⟩;omega;exact a c x0 d (f.trans i)
theorem ba.ext{v:Value}{x:AV}(h:ba κ w Y β v x)(e:dw w Y β w' Y' β'):ba κ w' Y' β' v x:=by induction h with|s h=>exact .s h|u=>exact .u|a d A h l=>exact .a d A l|t d h l=>exact .t d l|l0 H=>exact .l0 H|l1 G N r g F R E H p y hs A hr D l=>refine .l1 G N r g F R E H (gh p e.size) (e.nd p y) hs (λi j x K=>?_) l D;rw[ar6 (e.keep _ p y)];exact A i j x K|@p1 b i j o x h M G=>rcases e.live b x h with r|⟨x',z,hs,_,_,c,_⟩;exact .p0 r rfl;rw[<-c];exact .p1 z (by rw[hs];exact M) (by rw[G,hs])|p0 h m=>exact .p0 (e.dead _ h) m|q N g p y A hr D l=>refine .q N g (gh p e.size) (e.nd p y) (λj x K=>?_) l D;rw[ar6 (e.keep _ p y)];exact A j x K|@m1 b n cap x cur h F Z C M=>rcases e.live b x h with r|⟨x',z,hs,O,d,c,B⟩;exact .m0 r rfl;obtain⟨T,W,X⟩:=B cur Z;rw[<-c];exact .m1 z (by rw[d];exact F) (by rw[c,O];exact W) (by rw[X,hs];exact C) (by rw[hs];exact M)|m0 h m=>exact .m0 (e.dead _ h) m|@g1 v b k o n x h m=>rcases e.live b x h with r|⟨x',z,hs,O,d,c,B⟩;exact .g0 r m.cell;exact .g1 z (by rw[hs,d,c];exact m)|g0 h m=>exact .g0 (e.dead _ h) m|f d P h z l S=>exact .f d P l S
theorem dw.refl(w:World)(Y:ae)(β:Id->Nat):dw w Y β w Y β:=⟨rfl,rfl,rfl,dA _,λ_ _ _=>rfl,λ_ h=>h,λb x h=> .inr ⟨x,h,rfl,rfl,rfl,rfl,λcur a=>⟨cur,a,rfl⟩⟩,λb x h=> .inr ⟨b,x,h,rfl⟩⟩
theorem qD{b:Id}{x:bY}(h:jO Y b=U)(a:box Y b=V x):False:=by unfold jO at h;unfold box at a;split at a;rw[a] at h;simp at h;cases a
theorem dw.trans(e:dw w Y β w' Y' β')(a:dw w' Y' β' w'' Y'' β''):dw w Y β w'' Y'' β'':=by refine⟨a.os.trans e.os,a.tape.trans e.tape,a.output.trans e.output,gl e.size a.size,λk m o=>?_,λb h=>a.dead b (e.dead b h),λb x h=>?_,λb x h=>?_⟩;exact(a.keep k (gh m e.size) (e.nd m o)).trans (e.keep k m o);rcases e.live b x h with j|⟨p,c,hs,l,D,d,i⟩;exact .inl (a.dead b j);rcases a.live b p c with j|⟨x2,f,s,q,r,n,g⟩;exact .inl j;refine .inr ⟨x2,f,s.trans hs,q.trans l,r.trans D,n.trans d,λcur C=>?_⟩;obtain⟨y,E,F⟩:=i cur C;obtain⟨z,t,G⟩:=g y (by rw[d,l];exact E);exact⟨z,by rw[d,l] at t;exact t,G.trans F⟩;rcases a.fresh b x h with c|⟨u,x0,A,c⟩;exact .inl (gl e.size c);rcases e.fresh u x0 A with f|⟨v,p,f,B⟩;exact .inl (by omega);exact .inr ⟨v,p,f,B.trans c⟩
end
structure ES(P:Program)(κ:ei)(w:World)(Y:ae)(β:Id->Nat)(b:Id)(x:bY):Prop where
 pos:0<x.size
 info:(P.info? x.elem).map (·.size)=V x.size
 rl:∀r∈x.rows,L r=x.size
 dt:x.var=I->∀i j y,db x.rows i j=V y->eN y=U
 ex:∃(cur:Array Value) (cap:Nat),w.heap[β b]?=V (.cells cur x.elem (0,0))/\cur.size=cap*x.size/\L x.rows<=cap/\cap<=maxLen/\
  ∀i j y,db x.rows i j=V y->∃v,cur[i*x.size+j]?=V v/\ir v=U/\ba κ w Y β v y
structure rv(P:Program)(κ:ei)(w:World)(Y:ae)(β:Id->Nat)(b:Id)(x:bY):Prop where
 ow:x.own=U->κ.base<=β b
 nf:¬κ.F (β b)
 cl:0<x.size->ES P κ w Y β b x
 sp:x.size=0->GW x w.heap[β b]?
theorem rv.cells{P:Program}{κ:ei}{w:World}{Y:ae}{β:Id->Nat}{b:Id}{x:bY}(k:rv P κ w Y β b x){cur:Array Value}{e:TypeId}{z:Nat×Nat}(h:w.heap[β b]?=V (.cells cur e z)):ES P κ w Y β b x:=by rcases oD x.size with a|a;rcases k.sp a with⟨_,_,_,_,c⟩|⟨_,_,_,_,c⟩<;>(rw[h] at c;cases c);exact k.cl a
theorem rv.some{P:Program}{κ:ei}{w:World}{Y:ae}{β:Id->Nat}{b:Id}{x:bY}(k:rv P κ w Y β b x):∃o,w.heap[β b]?=V o:=by rcases oD x.size with c|c;rcases k.sp c with⟨_,_,_,_,a⟩|⟨_,_,_,_,a⟩<;>exact⟨_,a⟩;obtain⟨_,_,a,_⟩:=(k.cl c).ex;exact⟨_,a⟩
structure cv(P:Program)(κ:ei)(w:World)(Y:ae)(β:Id->Nat):Prop where
 ok:∀b x,box Y b=V x->rv P κ w Y β b x
 inj:∀b b' x x',box Y b=V x->box Y b'=V x'->β b=β b'->b=b'
 old:∀k,κ.F k->k<κ.base
 base:κ.base<=w.heap.size
theorem cv.lt{P:Program}{κ:ei}{w:World}{Y:ae}{β:Id->Nat}(s:cv P κ w Y β){b:Id}{x:bY}(h:box Y b=V x):β b<w.heap.size:=by obtain⟨o,c⟩:=(s.ok b x h).some;rcases jj (β b) w.heap.size with a|a;exact a;rw[Array.getElem?_eq_none a] at c;cases c
theorem cv.new{P:Program}{κ:ei}{w:World}{Y:ae}{β:Id->Nat}(s:cv P κ w Y β){k:Nat}(h:w.heap.size<=k):¬κ.F k/\κ.base<=k:=⟨λa=>by have:=s.old k a;have:=s.base;omega,gl s.base h⟩
theorem zO{rows:List (List AV)}{i j size:Nat}{x:AV}(hs:∀r∈rows,L r=size)(h:db rows i j=V x):i<L rows/\j<size:=by unfold db at h;cases a:rows[i]? with|none=>rw[a] at h;cases h|some r=>rw[a] at h;simp only[ek] at h;obtain⟨b,c⟩:=mg.1 a;obtain⟨d,_⟩:=mg.1 h;exact⟨b,by rw[<-hs r (by rw[<-c];exact qj _)];exact d⟩
def upd(β:Id->Nat)(b:Id)(k:Nat):Id->Nat:=λc=>if c=b then k else β c
theorem gx(β:Id->Nat)(b:Id)(k:Nat):upd β b k b=k:=by simp[upd]
theorem iG{β:Id->Nat}{b c:Id}{k:Nat}(h:c≠b):upd β b k c=β c:=by simp[upd,h]
def bV(Y:ae)(k:Nat):Id:=(k,(aZ Y k).ver+1)
def put(Y:ae)(k:Nat)(x:bY):ae:=Y.set k ⟨(aZ Y k).ver+1,λv=>if v=(aZ Y k).ver+1 then V x else(aZ Y k).val v⟩
def kill(Y:ae)(b:Id):ae:=Y.set b.1 ⟨(aZ Y b.1).ver,λv=>if v=b.2 then J else(aZ Y b.1).val v⟩
def wr(Y:ae)(b:Id)(x:bY):ae:=Y.set b.1 ⟨(aZ Y b.1).ver,λv=>if v=b.2 then V x else(aZ Y b.1).val v⟩
section
variable{P:Program}{κ:ei}{w w':World}{Y:ae}{β:Id->Nat}
theorem iD{k:Nat}{s:vG}(h:k<L Y):aZ (Y.set k s) k=s:=by simp[aZ,h]
theorem jQ{k j:Nat}{s:vG}(h:j≠k):aZ (Y.set k s) j=aZ Y j:=by unfold aZ;rw[eI,eI,List.getElem?_set_ne (λe=>h e.symm)]
theorem lN{b:Id}{x:bY}(h:box Y b=V x):b.1<L Y:=by rcases jj b.1 (L Y) with a|a;exact a;have:aZ Y b.1=mO:=(by simp[aZ,a]);simp[box,this,mO] at h
theorem qu{b:Id}{x:bY}(h:box Y b=V x):b.2<=(aZ Y b.1).ver/\(aZ Y b.1).val b.2=V x:=by unfold box at h;split at h;exact⟨‹_›,h⟩;cases h
theorem nR{b:Id}{x:bY}(a:b.2<=(aZ Y b.1).ver)(c:(aZ Y b.1).val b.2=V x):box Y b=V x:=by simp[box,a,c]
theorem Dx{b:Id}:jO Y b=U↔b.2<=(aZ Y b.1).ver/\(aZ Y b.1).val b.2=J:=by simp[jO]
theorem iy{k:Nat}{x:bY}(h:k<L Y):box (put Y k x) (bV Y k)=V x:=nR (by simp[put,bV,iD h]) (by simp[put,bV,iD h])
theorem pz{k:Nat}{x y:bY}{c:Id}(h:k<L Y)(g:box (put Y k x) c=V y):(c=bV Y k/\y=x)\/(c≠bV Y k/\box Y c=V y):=by obtain⟨d,a⟩:=qu g;by_cases f:c.1=k;subst f;simp only[put,iD h] at d a;by_cases b:c.2=(aZ Y c.1).ver+1;rw[if_pos b] at a;exact .inl ⟨GT rfl b,(xu a).symm⟩;rw[if_neg b] at a;exact .inr ⟨λe=>b (by rw[e];rfl),nR (by omega) a⟩;right;simp only[put,jQ f] at d a;exact⟨λe=>f (by rw[e];rfl),nR d a⟩
theorem uA{k:Nat}{x y:bY}{c:Id}(h:k<L Y)(e:box Y c=V y):box (put Y k x) c=V y:=by obtain⟨d,b⟩:=qu e;by_cases a:c.1=k;subst a;refine nR (by rw[put,iD h];simp only;omega) ?_;rw[put,iD h];simp only;rw[if_neg (by omega)];exact b;exact nR (by simp[put,jQ a,d]) (by simp[put,jQ a,b])
theorem Dy{k:Nat}{x:bY}{c:Id}(h:k<L Y)(a:jO Y c=U):jO (put Y k x) c=U:=by rw[Dx] at*;by_cases b:c.1=k;rw[b,put,iD h];rw[b] at a;refine⟨by simp only;omega,?_⟩;simp only;rw[if_neg (by omega)];exact a.2;rw[put,jQ b];exact a
theorem AR{k:Nat}{y:bY}{c:Id}(b:box Y c=V y):c≠bV Y k:=λe=>by
 have a:=(qu b).1
 rw[e] at a
 simp only[bV] at a
 omega
theorem amv{b:Id}{x:bY}(a:box Y b=V x):jO (kill Y b) b=U:=by rw[Dx];have h:=(qu a).1;simp[kill,h,iD (lN a)]
theorem xz{b c:Id}{x y:bY}(h:box Y b=V x)(i:box (kill Y b) c=V y):c≠b/\box Y c=V y:=by obtain⟨d,a⟩:=qu i;simp only[kill] at d a;by_cases f:c.1=b.1;rw[f,iD (lN h)] at d a;simp only at d a;by_cases g:c.2=b.2;rw[if_pos g] at a;cases a;rw[if_neg g] at a;exact⟨λe=>g (by rw[e]),nR (by rw[f];exact d) (by rw[f];exact a)⟩;rw[jQ f] at d a;exact⟨λe=>f (by rw[e]),nR d a⟩
theorem Qc{b c:Id}{x y:bY}(g:box Y b=V x)(i:box Y c=V y)(h:c≠b):box (kill Y b) c=V y:=by obtain⟨d,f⟩:=qu i;by_cases a:c.1=b.1;have j:c.2≠b.2:=λe=>h (GT a e);rw[a] at d f;refine nR ?_ ?_;rw[a,kill,iD (lN g)];exact d;rw[a,kill,iD (lN g)];simp only;rw[if_neg j];exact f;exact nR (by simp[kill,jQ a,d]) (by simp[kill,jQ a,f])
theorem amu{b c:Id}{x:bY}(f:box Y b=V x)(a:jO Y c=U):jO (kill Y b) c=U:=by rw[Dx] at*;by_cases d:c.1=b.1;rw[d,kill,iD (lN f)];rw[d] at a;refine⟨a.1,?_⟩;simp only;by_cases e:c.2=b.2;rw[if_pos e];rw[if_neg e];exact a.2;rw[kill,jQ d];exact a
theorem yg(b:Id):L (kill Y b)=L Y:=by simp[kill]
theorem Bf(k:Nat)(x:bY):L (put Y k x)=L Y:=by simp[put]
theorem lO{b:Id}{x x':bY}(a:box Y b=V x):box (wr Y b x') b=V x':=by have h:=(qu a).1;exact nR (by simp[wr,iD (lN a),h]) (by simp[wr,iD (lN a)])
theorem sL{b c:Id}{x x' y:bY}(h:box Y b=V x)(i:box (wr Y b x') c=V y):(c=b/\y=x')\/(c≠b/\box Y c=V y):=by obtain⟨f,a⟩:=qu i;by_cases d:c.1=b.1;rw[d,wr,iD (lN h)] at f a;simp only at f a;by_cases g:c.2=b.2;rw[if_pos g] at a;exact .inl ⟨GT d g,(xu a).symm⟩;rw[if_neg g] at a;exact .inr ⟨λe=>g (by rw[e]),nR (by rw[d];exact f) (by rw[d];exact a)⟩;right;rw[wr,jQ d] at f a;exact⟨λe=>d (by rw[e]),nR f a⟩
theorem DY{b c:Id}{x x' y:bY}(g:box Y b=V x)(i:box Y c=V y)(h:c≠b):box (wr Y b x') c=V y:=by obtain⟨d,f⟩:=qu i;by_cases a:c.1=b.1;have j:c.2≠b.2:=λe=>h (GT a e);rw[a] at d f;refine nR ?_ ?_;rw[a,wr,iD (lN g)];exact d;rw[a,wr,iD (lN g)];simp only;rw[if_neg j];exact f;exact nR (by simp[wr,jQ a,d]) (by simp[wr,jQ a,f])
theorem Ll{b c:Id}{x x':bY}(f:box Y b=V x)(a:jO Y c=U):jO (wr Y b x') c=U:=by have g:=(qu f);rw[Dx] at*;by_cases d:c.1=b.1;rw[d,wr,iD (lN f)];rw[d] at a;refine⟨a.1,?_⟩;simp only;by_cases e:c.2=b.2;rw[e,g.2] at a;cases a.2;rw[if_neg e];exact a.2;rw[wr,jQ d];exact a
theorem rv.ext{f:ae}{c:Id->Nat}{b:Id}{x:bY}(h:rv P κ w Y β b x)(e:dw w Y β w' f c)(a:c b=β b)(g:w'.heap[β b]?=w.heap[β b]?):rv P κ w' f c b x:=by
 refine⟨by rw[a];exact h.ow,by rw[a];exact h.nf,λd=>?_,λd=>by rw[a,g];exact h.sp d⟩
 have k:=h.cl d
 obtain⟨cur,cap,l,m,n,o,p⟩:=k.ex
 exact⟨k.pos,k.info,k.rl,k.dt,cur,cap,by rw[a,g];exact l,m,n,o,λi j y q=>by
  obtain⟨v,r,s,t⟩:=p i j y q
  exact⟨v,r,s,t.ext e⟩⟩
theorem rv.of{b:Id}{x:bY}(c:x.own=U->κ.base<=β b)(a:¬κ.F (β b))(k:ES P κ w Y β b x):rv P κ w Y β b x:=⟨c,a,λ_=>k,λh=>absurd k.pos (by omega)⟩
theorem xJ(s:cv P κ w Y β)(h:Below w.heap.size w w'):dw w Y β w' Y β:=⟨h.os,h.tape,h.output,h.size,λk d _=>h.block k d,λ_ h=>h,λb x a=> .inr ⟨x,a,rfl,rfl,rfl,rfl,λcur c=>⟨cur,by rw[h.block _ (s.lt a)];exact c,rfl⟩⟩,λb x a=> .inr ⟨b,x,a,rfl⟩⟩
theorem Es(s:cv P κ w Y β)(h:Below w.heap.size w w'):cv P κ w' Y β:=⟨λb x a=>(s.ok b x a).ext (xJ s h) rfl (h.block _ (s.lt a)),s.inj,s.old,gl s.base h.size⟩
theorem um{d b:Nat}{x:bY}(s:cv P κ w Y β)(h:Below w.heap.size w w')(g:d<L Y)(e:w.heap.size<=b):dw w Y β w' (put Y d x) (upd β (bV Y d) b):=by refine⟨h.os,h.tape,h.output,h.size,λk l _=>h.block k l,λc a=>Dy g a,λc y a=>?_,λc y a=>?_⟩;exact .inr ⟨y,uA g a,rfl,rfl,rfl,iG (AR a),λcur f=>⟨cur,by rw[h.block _ (s.lt a)];exact f,rfl⟩⟩;rcases pz g a with⟨rfl,rfl⟩|⟨i,j⟩;rw[gx];exact .inl e;rw[iG i];exact .inr ⟨c,y,j,rfl⟩
theorem Et{d f cap:Nat}{x:bY}{cur:Array Value}(s:cv P κ w Y β)(h:Below w.heap.size w w')(m:d<L Y)(a:w.heap.size<=f)
  (A:0<x.size)(p:(P.info? x.elem).map (·.size)=V x.size)(M:∀r∈x.rows,L r=x.size)(C:x.var=I->∀i j y,db x.rows i j=V y->eN y=U)
  (E:w'.heap[f]?=V (.cells cur x.elem (0,0)))(u:cur.size=cap*x.size)(q:L x.rows<=cap)(t:cap<=maxLen)
  (D:∀i j y,db x.rows i j=V y->∃v,cur[i*x.size+j]?=V v/\ir v=U/\ba κ w Y β v y):cv P κ w' (put Y d x) (upd β (bV Y d) f):=by
 have e:=um (x:=x) s h m a
 refine⟨λc y l=>?_,λc B y z l F n=>?_,s.old,gl s.base h.size⟩
 ·rcases pz m l with⟨rfl,rfl⟩|⟨b,g⟩
  ·exact .of (by rw[gx];exactλ_=>(s.new a).2) (by rw[gx];exact(s.new a).1) ⟨A,p,M,C,cur,cap,by rw[gx];exact E,u,q,t,λi j y l=>by
    obtain⟨v,G,H,K⟩:=D i j y l
    exact⟨v,G,H,K.ext e⟩⟩
  ·exact(s.ok c y g).ext e (iG b) (h.block _ (s.lt g))
 ·rcases pz m l with⟨rfl,rfl⟩|⟨b,g⟩<;>rcases pz m F with⟨rfl,rfl⟩|⟨k,o⟩
  ·rfl
  ·rw[gx,iG k] at n
   have:=s.lt o
   omega
  ·rw[gx,iG b] at n
   have:=s.lt g
   omega
  ·rw[iG b,iG k] at n
   exact s.inj c B y z g o n
structure vM(w w':World)(k:Nat):Prop where
 os:w'.os=w.os
 tape:w'.tape=w.tape
 output:w'.output=w.output
 size:w'.heap.size=w.heap.size
 block:∀i,i≠k->w'.heap[i]?=w.heap[i]?
theorem KN{b:Id}{x x':bY}{cur f:Array Value}(s:cv P κ w Y β)(d:box Y b=V x)(h:vM w w' (β b))(q:x'.size=x.size)(n:x'.elem=x.elem)(p:L x'.rows=L x.rows)(o:w.heap[β b]?=V (.cells cur x.elem (0,0)))(l:w'.heap[β b]?=V (.cells f x.elem (0,0)))(j:f.size=cur.size):dw w Y β w' (wr Y b x') β:=by refine⟨h.os,h.tape,h.output,R5 h.size.symm,λk t r=>h.block k (λe=>r b x d e.symm),λc a=>Ll d a,λc y a=> .inr ?_,λc y a=> .inr ?_⟩;by_cases e:c=b;subst e;rw[d] at a;cases a;exact⟨x',lO d,q,n,p,rfl,λi g=>⟨f,l,by rw[o] at g;cases g;exact j⟩⟩;exact⟨y,DY d a e,rfl,rfl,rfl,rfl,λi g=>⟨i,by rw[h.block _ (λm=>e (s.inj c b y x a d m))];exact g,rfl⟩⟩;rcases sL d a with⟨rfl,rfl⟩|⟨_,a⟩;exact⟨c,x,d,rfl⟩;exact⟨c,y,a,rfl⟩
theorem aox{b:Id}{cap:Nat}{x x':bY}{cur a:Array Value}(s:cv P κ w Y β)(g:box Y b=V x)(h:vM w w' (β b))(l:x'.size=x.size)(u:x'.elem=x.elem)(T:x'.own=x.own)(E:L x'.rows=L x.rows)(K:∀r∈x'.rows,L r=x.size)(N:x'.var=I->∀i j y,db x'.rows i j=V y->eN y=U)
  (D:w.heap[β b]?=V (.cells cur x.elem (0,0)))(p:w'.heap[β b]?=V (.cells a x.elem (0,0)))(o:a.size=cur.size)(t:cur.size=cap*x.size)(F:L x.rows<=cap)(G:cap<=maxLen)
  (q:∀i j y,db x'.rows i j=V y->∃v,a[i*x.size+j]?=V v/\ir v=U/\ba κ w Y β v y):cv P κ w' (wr Y b x') β:=by
 have e:=KN s g h l u E D p o
 have m:∀c y,box (wr Y b x') c=V y->∃B,box Y c=V B:=λc y f=>by
  rcases sL g f with⟨rfl,rfl⟩|⟨_,q⟩
  ·exact⟨x,g⟩
  ·exact⟨y,q⟩
 refine⟨λc y f=>?_,λc d y z f M C=>?_,s.old,by rw[h.size];exact s.base⟩
 ·rcases sL g f with⟨rfl,rfl⟩|⟨H,n⟩
  ·have A:=s.ok c x g
   have k:=A.cells D
   exact .of (by rw[T];exact A.ow) A.nf ⟨by rw[l];exact k.pos,by rw[u,l];exact k.info,by rw[l];exact K,N,a,cap,by rw[u];exact p,by rw[o,l];exact t,by rw[E];exact F,G,λi j y f=>by
    obtain⟨v,W,X,Z⟩:=q i j y f
    exact⟨v,by rw[l];exact W,X,Z.ext e⟩⟩
  ·exact(s.ok c y n).ext e rfl (h.block _ (λO=>H (s.inj c b y x n g O)))
 ·obtain⟨B,R⟩:=m c y f
  obtain⟨z0,S⟩:=m d z M
  exact s.inj c d B z0 R S C
theorem D9{b:Id}{d:Nat}{x x' y:bY}{c:Id}(f:box Y b=V x)(l:d<L Y)(k:box (put (kill Y b) d x') c=V y):(c=bV Y d/\y=x')\/(c≠bV Y d/\c≠b/\box Y c=V y):=by have h:bV (kill Y b) d=bV Y d:=(by unfold bV kill;by_cases g:d=b.1;rw[g,iD (lN f)];rw[jQ g]);rcases pz (by rw[yg];exact l) k with⟨a,e⟩|⟨a,e⟩;exact .inl ⟨a.trans h,e⟩;obtain⟨i,j⟩:=xz f e;exact .inr ⟨by rw[<-h];exact a,i,j⟩
theorem anF{b:Id}{d:Nat}{x:bY}(c:box Y b=V x):bV (kill Y b) d=bV Y d:=by unfold bV kill;by_cases a:d=b.1;rw[a,iD (lN c)];rw[jQ a]
theorem awB{b:Id}{d:Nat}{x x':bY}(a:box Y b=V x)(c:d<L Y):box (put (kill Y b) d x') (bV Y d)=V x':=by rw[<-anF a];exact iy (by rw[yg];exact c)
theorem al1{b:Id}{d g:Nat}{x x':bY}(s:cv P κ w Y β)(f:box Y b=V x)(n:d<L Y)(h:w.grownBy w' (V (β b)))(l:w.heap.size<=g\/g=β b):dw w Y β w' (put (kill Y b) d x') (upd β (bV Y d) g):=by have i:d<L (kill Y b):=(by rw[yg];exact n);refine⟨h.os,h.tape,h.output,h.size,λk q r=>h.block k q (λe=>r b x f (by simpa using e.symm)),λc a=>Dy i (amu f a),λc y a=>?_,λc y a=>?_⟩;by_cases e:c=b;subst e;exact .inl (Dy i (amv f));have k:=Qc f a e;refine .inr ⟨y,uA i k,rfl,rfl,rfl,iG (AR a),λcur m=>⟨cur,?_,rfl⟩⟩;rw[h.block _ (s.lt a) (λp=>e (s.inj c b y x a f (by simpa using p)))];exact m;rcases D9 f n a with⟨rfl,rfl⟩|⟨o,_,a⟩;rw[gx];rcases l with j|j;exact .inl j;exact .inr ⟨b,x,f,j.symm⟩;rw[iG o];exact .inr ⟨c,y,a,rfl⟩
theorem aIi{b:Id}{d a cap:Nat}{x x':bY}{cur:Array Value}(s:cv P κ w Y β)(n:box Y b=V x)(C:d<L Y)(h:w.grownBy w' (V (β b)))(o:w.heap.size<=a\/a=β b)
  (B:x'.size=x.size)(O:x'.elem=x.elem)(hw:x'.own=x.own)(W:∀r∈x'.rows,L r=x.size)(dt:x'.var=I->∀i j y,db x'.rows i j=V y->eN y=U)
  (H:0<x.size)(hh:w'.heap[a]?=V (.cells cur x.elem (0,0)))(X:cur.size=cap*x.size)(S:L x'.rows<=cap)(T:cap<=maxLen)
  (hc:∀i j y,db x'.rows i j=V y->∃v,cur[i*x.size+j]?=V v/\ir v=U/\ba κ w Y β v y):cv P κ w' (put (kill Y b) d x') (upd β (bV Y d) a):=by
 have e:=al1 (x':=x') s n C h o
 have K:=s.ok b x n
 have k:=K.cl H
 have A:(x.own=U->κ.base<=a)/\¬κ.F a:=by
  rcases o with m|m
  ·exact⟨λ_=>(s.new m).2,(s.new m).1⟩
  ·rw[m];exact⟨K.ow,K.nf⟩
 refine⟨λc y g=>?_,λc M y z g Z f=>?_,s.old,gl s.base h.size⟩
 ·rcases D9 n C g with⟨rfl,rfl⟩|⟨p,t,g⟩
  ·exact .of (by rw[hw,gx];exact A.1) (by rw[gx];exact A.2) ⟨by rw[B];exact k.pos,by rw[O,B];exact k.info,by rw[B];exact W,dt,cur,cap,by rw[gx,O];exact hh,by rw[B];exact X,S,T,λi j y g=>by
    obtain⟨v,k1,k2,k3⟩:=hc i j y g
    exact⟨v,by rw[B];exact k1,k2,k3.ext e⟩⟩
  ·exact(s.ok c y g).ext e (iG p) (h.block _ (s.lt g) (λe3=>t (s.inj c b y x g n (by simpa using e3))))
 ·have E:∀q z,box Y q=V z->q≠b->β q≠a:=λq z l N R=>by
   rcases o with m|m
   ·have:=s.lt l;omega
   ·exact N (s.inj q b z x l n (R.trans m))
  rcases D9 n C g with⟨rfl,rfl⟩|⟨p,t,D⟩<;>rcases D9 n C Z with⟨rfl,rfl⟩|⟨u,G,l⟩
  ·rfl
  ·rw[gx,iG u] at f;exact absurd f.symm (E M z l G)
  ·rw[gx,iG p] at f;exact absurd f (E c y D t)
  ·rw[iG p,iG u] at f
   exact s.inj c M y z D l f
theorem aow{d f:Nat}{x:bY}(s:cv P κ w Y β)(h:Below w.heap.size w w')(j:d<L Y)(a:w.heap.size<=f)(r:x.size=0)(o:GW x w'.heap[f]?):cv P κ w' (put Y d x) (upd β (bV Y d) f):=by have e:=um (x:=x) s h j a;refine⟨λc y m=>?_,λc n y z m q k=>?_,s.old,gl s.base h.size⟩;rcases pz j m with⟨rfl,rfl⟩|⟨b,g⟩;exact⟨by rw[gx];exactλ_=>(s.new a).2,by rw[gx];exact(s.new a).1,λp=>absurd p (by omega),λ_=>by rw[gx];exact o⟩;exact(s.ok c y g).ext e (iG b) (h.block _ (s.lt g));rcases pz j m with⟨rfl,rfl⟩|⟨b,g⟩<;>rcases pz j q with⟨rfl,rfl⟩|⟨i,l⟩;rfl;rw[gx,iG i] at k;have:=s.lt l;omega;rw[gx,iG b] at k;have:=s.lt g;omega;rw[iG b,iG i] at k;exact s.inj c n y z g l k
theorem KO{b:Id}{x x':bY}(s:cv P κ w Y β)(d:box Y b=V x)(h:vM w w' (β b))(o:x.size=0)(m:x'.size=x.size)(j:x'.elem=x.elem)(l:L x'.rows=L x.rows):dw w Y β w' (wr Y b x') β:=by refine⟨h.os,h.tape,h.output,R5 h.size.symm,λk p n=>h.block k (λe=>n b x d e.symm),λc a=>Ll d a,λc y a=> .inr ?_,λc y a=> .inr ?_⟩;by_cases e:c=b;subst e;rw[d] at a;cases a;refine⟨x',lO d,m,j,l,rfl,λg f=>?_⟩;have:=((s.ok c x d).cells f).pos;omega;exact⟨y,DY d a e,rfl,rfl,rfl,rfl,λg f=>⟨g,by rw[h.block _ (λi=>e (s.inj c b y x a d i))];exact f,rfl⟩⟩;rcases sL d a with⟨rfl,rfl⟩|⟨_,a⟩;exact⟨c,x,d,rfl⟩;exact⟨c,y,a,rfl⟩
theorem aoy{b:Id}{x x':bY}(s:cv P κ w Y β)(a:box Y b=V x)(h:vM w w' (β b))(j:x.size=0)(C:x'.size=x.size)(t:x'.elem=x.elem)(v:L x'.rows=L x.rows)(B:x'.own=x.own)(u:GW x' w'.heap[β b]?):cv P κ w' (wr Y b x') β:=by have e:=KO s a h j C t v;have g:∀c y,box (wr Y b x') c=V y->∃k,box Y c=V k:=λc y f=>(by rcases sL a f with⟨rfl,rfl⟩|⟨_,r⟩;exact⟨x,a⟩;exact⟨y,r⟩);refine⟨λc y f=>?_,λc d y z f n l=>?_,s.old,by rw[h.size];exact s.base⟩;rcases sL a f with⟨rfl,rfl⟩|⟨m,i⟩;have o:=s.ok c x a;exact⟨by rw[B];exact o.ow,o.nf,λA=>absurd A (by omega),λ_=>u⟩;exact(s.ok c y i).ext e rfl (h.block _ (λp=>m (s.inj c b y x i a p)));obtain⟨k,j⟩:=g c y f;obtain⟨z0,q⟩:=g d z n;exact s.inj c d k z0 j q l
end
def fG(P:Program)(t:TypeId):Option Nat:=(P.info? t).map (·.size)
def tU(P:Program)(t:TypeId):Option Bool:=
 match P.underlying t with
 |some (.struct _)=>V U
 |some (.array _ _)=>V U
 |some _=>V I
 |none=>J
def yz(P:Program)(t:TypeId)(cs:List AV):Option AV:=
 match tU P t,fG P t with
 |some true,some n=>if n<=L cs then V (.a (cs.take n)) else J
 |some false,_=>cs[0]?
 |_,_=>J
def iE(Y:ae):AV->Option (List AV)| .p b i j=>(box Y b).bind λx=>(x.rows[i]?).map (·.drop j)| .q cs=>V cs|_=>J
section
variable{P:Program}{κ:ei}{w:World}{Y:ae}{β:Id->Nat}
theorem Df{k i:Nat}{cur:Array Value}{e:TypeId}{a:Nat×Nat}(h:w.heap[k]?=V (.cells cur e a)):w.cell? ⟨k,i,J⟩=cur[i]?:=by simp[World.cell?,h]
def arf(κ:ei)(w:World)(Y:ae)(β:Id->Nat)(v:Value)(cs:List AV):Prop:=∃(a off:Nat) (g:Nat->Value),v= .pointer (V ⟨a,off,J⟩)/\∀k y,cs[k]?=V y->w.cell? ⟨a,off+k,J⟩=V (g k)/\ir (g k)=U/\ba κ w Y β (g k) y
theorem anZ{v:Value}{x:AV}{cs:List AV}(s:cv P κ w Y β)(h:ba κ w Y β v x)(a:iE Y x=V cs):arf κ w Y β v cs:=by cases x with|p b i j=>simp only[iE] at a;(cases c:box Y b with|none=>rw[c] at a;cases a|some f=>rw[c] at a;simp only[ek] at a;cases e:f.rows[i]? with|none=>rw[e] at a;cases a|some r=>rw[e] at a;simp only[df,bE] at a;subst a;cases h with|p0 h _=>exact(qD h c).elim|@p1 b i j o x' h z H=>rw[c] at h;cases h;obtain⟨cur,cap,m,E,F,G,n⟩:=((s.ok b f c).cl z).ex;refine⟨β b,o,λk=>cur.getD (o+k) (.bool I),rfl,λk y d=>?_⟩;rw[mf] at d;obtain⟨v,l,A,B⟩:=n i (j+k) y (by simp[db,e,d]);rw[show i*f.size+(j+k)=o+k by omega] at l;have C:cur.getD (o+k) (.bool I)=v:=(by simp[Array.getD_eq_getD_getElem?,l]);show w.cell? ⟨β b,o+k,J⟩=V (cur.getD (o+k) (.bool I))/\ir (cur.getD (o+k) (.bool I))=U/\ba κ w Y β (cur.getD (o+k) (.bool I)) y;rw[Df m,C];exact⟨l,A,B⟩)|q D=>simp only[iE,bE] at a;subst a;(cases h with|q M g c K t e u=>exact⟨_,_,g,rfl,λk y d=>⟨t k y d,u k y d,e k y d⟩⟩)|_=>simp[iE] at a
theorem kT(b o n:Nat):(⟨b,o,J⟩:Addr).add n=⟨b,o+n,J⟩:=by unfold Addr.add;split<;>simp_all
theorem aIa(b o:Nat)(g:Nat->Value):∀(n i:Nat) (a:Array Value),(∀k,i<=k->k<i+n->w.cell? ⟨b,o+k,J⟩=V (g k))->(loadCellsFrom ⟨b,o,J⟩ i n a).run P w= .ok (a++((GO i n).map g).toArray) w:=by intro n;induction n with|zero=>intro i a _;simp[loadCellsFrom]|succ n d=>intro i a h;have c:=h i (dA _) (by omega);simp only[loadCellsFrom,load,kT,Sem.run_bind,Sem.run,c,Result.andThen_ok];rw[d (i+1) _ (λk e f=>h k (by omega) (by omega))];congr 1;rw[<-qb];simp[List.range'_succ]
theorem mN{t:TypeId}{n:Nat}(h:fG P t=V n):(sizeOf t).run P w= .ok n w:=by unfold fG at h;cases a:P.info? t with|none=>rw[a] at h;cases h|some i=>rw[a] at h;simp only[df,bE] at h;simp[sizeOf,typeInfo,a,h]
theorem wH{t:TypeId}{b:Bool}(h:tU P t=V b):(isAgg t).run P w= .ok b w:=by unfold tU at h;cases a:P.underlying t with|none=>rw[a] at h;cases h|some d=>rw[a] at h;simp only[isAgg,Sem.run_bind,run_underlying a,Result.andThen_ok];cases d<;>simp_all
theorem anh{t:TypeId}{j off:Nat}{g:Nat->Value}{cs:List AV}{o:AV}(l:∀k y,cs[k]?=V y->w.cell? ⟨j,off+k,J⟩=V (g k)/\ir (g k)=U/\ba κ w Y β (g k) y)(h:yz P t cs=V o):∃v,(loadVar t ⟨j,off,J⟩).run P w= .ok v w/\ba κ w Y β v o:=by unfold yz at h;cases f:tU P t with|none=>rw[f] at h;simp at h|some b=>cases b with|true=>(cases hs:fG P t with|none=>rw[f,hs] at h;simp at h|some n=>rw[f,hs] at h;simp only at h;split at h;rename_i x;simp only[bE] at h;subst h;have m:∀k,k<n->∃y,cs[k]?=V y:=λk s=>⟨cs[k]'(by omega),eC (by omega)⟩;refine⟨.agg ((GO 0 n).map g).toArray,?_,?_⟩;simp only[loadVar,Sem.run_bind,wH f,Result.andThen_ok,if_true,mN hs,loadCells];rw[aIa j off g n 0 #[] (λk _ s=>by obtain⟨y,p⟩:=m k (by omega);exact(l k y p).1)];simp;refine .a (by simp;omega) (λv d=>?_) (λi v c d e=>?_);simp only[dN,List.mem_range'_1] at d;obtain⟨k,s,rfl⟩:=d;obtain⟨y,p⟩:=m k (by omega);exact(l k y p).2.1;rw[fp] at d;rw[ot] at e;split at e;rename_i r;rw[List.getElem?_range' r] at d;simp only[df,bE,aj,Nat.one_mul] at d;subst d;exact(l i c e).2.2;(cases e);cases h)|false=>rw[f] at h;simp only at h;obtain⟨q,_,u⟩:=l 0 o h;refine⟨g 0,?_,u⟩;simp only[loadVar,Sem.run_bind,wH f,Result.andThen_ok,load];simp only[kP] at q;simp[Sem.run,q]
end
def vP(P:Program)(ty:TypeId)(op:BinOp):Value->Value->Option Value
 | .int k a, .int c b=>
  match op with
  | .shl=>if b<0 then J else V (.int k (k.wrap (a*2^(min b.toNat k.bits))))
  | .shr=>if b<0 then J else V (.int k (a.fdiv (2^(min b.toNat k.bits))))
  | .add=>if k=c then V (.int k (k.wrap (a+b))) else J
  | .sub=>if k=c then V (.int k (k.wrap (a-b))) else J
  | .mul=>if k=c then V (.int k (k.wrap (a*b))) else J
  | .quo=>if k=c/\b≠0 then V (.int k (k.wrap (a.tdiv b))) else J
  | .rem=>if k=c/\b≠0 then V (.int k (a.tmod b)) else J
  | .and=>if k=c then V (.int k (k.wrap (BitVec.ofInt k.bits a&&&BitVec.ofInt k.bits b).toNat)) else J
  | .or=>if k=c then V (.int k (k.wrap (BitVec.ofInt k.bits a|||BitVec.ofInt k.bits b).toNat)) else J
  | .xor=>if k=c then V (.int k (k.wrap (BitVec.ofInt k.bits a^^^BitVec.ofInt k.bits b).toNat)) else J
  | .andNot=>if k=c then V (.int k (k.wrap (BitVec.ofInt k.bits a&&&~~~(BitVec.ofInt k.bits b)).toNat)) else J
  | .eql=>if k=c then V (.bool (a==b)) else J
  | .neq=>if k=c then V (.bool (a !=b)) else J
  | .lss=>if k=c then V (.bool (Q (a<b))) else J
  | .leq=>if k=c then V (.bool (Q (a<=b))) else J
  | .gtr=>if k=c then V (.bool (Q (b<a))) else J
  | .geq=>if k=c then V (.bool (Q (b<=a))) else J
 | .string a, .string b=>
  match op with
  | .eql=>V (.bool (a.toList==b.toList))
  | .neq=>V (.bool (!(a.toList==b.toList)))
  | .lss=>V (.bool (Op.bytesLess a.toList b.toList))
  | .leq=>V (.bool (Op.bytesLess a.toList b.toList||a.toList==b.toList))
  | .gtr=>V (.bool (!(Op.bytesLess a.toList b.toList||a.toList==b.toList)))
  | .geq=>V (.bool (!(Op.bytesLess a.toList b.toList)))
  | .add=>if a.size+b.size<=1099511627776 then V (.string (a++b)) else J
  |_=>J
 | .bool a, .bool b=>
  match op,P.underlying ty with
  | .eql,some .bool=>V (.bool (a==b))
  | .neq,some .bool=>V (.bool (!(a==b)))
  |_,_=>J
 |_,_=>J
section
variable{P:Program}{κ:ei}{w:World}{Y:ae}{β:Id->Nat}
theorem aH9{op:BinOp}{ty:TypeId}{x y:Operand}{a b:Value}(h:(match a with| .int _ _=>U| .string _=>U| .bool _=>U|_=>I)=U):(eqGuard op ty x y a b).run P w= .ok () w:=by(cases a<;>first|(simp at h;done)|skip);all_goals(cases op<;>simp[eqGuard])
theorem alX{ty:TypeId}{a b:Bool}(h:P.underlying ty=V .bool):(Op.equal ty (.bool a) (.bool b)).run P w= .ok (a==b) w:=run_equal_bool w ty a b h
theorem awu{ty:TypeId}{op:BinOp}{a b v:Value}(h:vP P ty op a b=V v):(binOp op ty a b).run P w= .ok v w/\sc v=U:=by unfold vP at h;split at h;(cases op<;>simp only at h<;>first|((split at h<;>first|(cases h;done)|skip);rename_i c;first|(obtain⟨rfl,e⟩:=c;simp only[bE] at h;subst h;constructor<;>simp[binOp,Op.intDiv,e,sc])|(subst c;simp only[bE] at h;subst h;constructor<;>simp[binOp,Op.intArith,Op.intCmp,Op.intBits,sc])|(simp only[bE] at h;subst h;constructor<;>simp[binOp,Op.shift,c,sc])));(cases op<;>simp only at h<;>first|(cases h;done)|(simp only[bE] at h;subst h;constructor<;>simp[binOp,Op.stringOp,sc])|((split at h<;>first|(cases h;done)|skip);simp only[bE] at h;subst h;refine⟨?_,rfl⟩;rename_i c;simp[binOp,Op.stringOp];omega));split at h;simp only[bE] at h;subst h;rename_i d;exact⟨by simp[binOp,alX d],rfl⟩;simp only[bE] at h;subst h;rename_i d;exact⟨by simp[binOp,alX d],rfl⟩;(cases h);cases h
end
def ui:Value->AV| .slice none 0 0=> .l [] U U|v=>if sc v then .s v else .u
def Dg:Value->AV| .agg cs=>if cs.all ir then .a (cs.toList.map ui) else .u|v=>ui v
def du(G:dk)(a:List AV):Operand->AV
 | .tmp t=>a.getD t .u
 | .const v=>Dg v
 | .global g=>match G g with|some cs=> .q cs|none=> .u
 | .func f=> .f f [] []
def vW(P:Program)(t:TypeId):Value->Value->Option Bool
 | .int k a, .int c b=>match P.underlying t with|some (.int _)=>if k=c then V (a==b) else J|_=>J
 | .bool a, .bool b=>match P.underlying t with|some .bool=>V (a==b)|_=>J
 | .string a, .string b=>match P.underlying t with|some .string=>V (a.toList==b.toList)|_=>J
 |_,_=>J
def vV(P:Program)(xs ys:List AV):List Field->Option Bool
 |[]=>V U
 |f::fs=>
  if f.name≠ "_" /\tU P f.type=V I then
   match xs[f.offset]?,ys[f.offset]? with
   |some (.s a),some (.s b)=>
    match vW P f.type a b with
    |some r=>if r then vV P xs ys fs else V I
    |none=>J
   |_,_=>J
  else J
def sR(P:Program)(t:TypeId)(xs ys:List AV):Option Bool:=
 match P.underlying t with
 |some (.struct fs)=>if P.stoodInHeld t=I/\P.eqGuardType P.depth t=I then vV P xs ys fs.toList else J
 |_=>J
def sS(k:Nat):Value->Value->Option Bool| .int c a, .int d b=>if k=0/\c=d then V (a==b) else J| .bool a, .bool b=>if k=1 then V (a==b) else J| .string a, .string b=>if k=2 then V (a.toList==b.toList) else J|_,_=>J
def nW(xs ys:List AV):List (Nat×Nat)->Option Bool
 |[]=>V U
 |f::fs=>
  match xs[f.1]?,ys[f.1]? with
  |some (.s a),some (.s b)=>
   match sS f.2 a b with
   |some r=>if r then nW xs ys fs else V I
   |none=>J
  |_,_=>J
def qL(P:Program)(t:TypeId):Nat:=
 match P.underlying t with
 |some (.int _)=>0
 |some .bool=>1
 |some .string=>2
 |_=>3
def nk(P:Program):List Field->Option (List (Nat×Nat))|[]=>V []|f::fs=>if f.name≠ "_" /\tU P f.type=V I then(nk P fs).map ((f.offset,qL P f.type)::·) else J
structure MT where
 st:Bool
 fs:List (Nat×Nat)
 zero:Value
def r9(P:Program)(t:TypeId):Option MT:=
 match P.underlying t with
 |some (.map k e)=>
  match(P.info? e).bind (·.zero),P.underlying k with
  |some z,some (.struct fs)=>if sc z=U/\P.stoodInHeld k=I/\P.eqGuardType P.depth k=I then(nk P fs.toList).bind λl=>if l.all (λf=>Q (f.2<3))=U then V ⟨U,l,z⟩ else J else J
  |some z,some .string=>if sc z=U then V ⟨I,[],z⟩ else J
  |_,_=>J
 |_=>J
def uW:List AV->Option (List Value)|[]=>V []| .s v::l=>(uW l).map (v::·)|_::_=>J
def ww(st:Bool)(x:AV):Option Value:=
 match st,x with
 |false, .s (.string s)=>V (.string s)
 |true, .a cs=>(uW cs).map λl=> .agg l.toArray
 |_,_=>J
def xF:List AV->Option (List (Value×Value))|[]=>V []| .t [.s k, .s v]::l=>(xF l).map ((k,v)::·)|_::_=>J
def pO(c:MT)(a b:Value):Option Bool:=
 match c.st,a,b with
 |true, .agg xs, .agg ys=>nW (xs.toList.map .s) (ys.toList.map .s) c.fs
 |false, .string a, .string b=>V (a==b)
 |_,_,_=>J
def lg(a:MT)(k:Value):List (Value×Value)->Nat->Option (Option (Nat×Value))
 |[],_=>V J
 |p::b,i=>
  match pO a k p.1 with
  |some true=>V (V (i,p.2))
  |some false=>lg a k b (i+1)
  |none=>J
def qR(a:MT)(k:Value):Bool:=
 match a.st,k with
 |true, .agg xs=>a.fs.all λf=>Q (f.1<xs.size)
 |false, .string _=>U
 |_,_=>I
def ul(x:bY):Option (List (Value×Value)):=
 if x.size=0/\x.var=U then match x.rows with|[cs]=>xF cs|_=>J else J
def oP(a:MT)(Y:ae)(x ix:AV)(c:Bool):Option AV:=
 match x,ww a.st ix with
 | .g 0 b _ _,some k=>
  match(box Y b).bind ul with
  |some d=>
   if qR a k=U then
    match lg a k d 0 with
    |some (some r)=>V (if c then .t [.s r.2, .s (.bool U)] else .s r.2)
    |some none=>V (if c then .t [.s a.zero, .s (.bool I)] else .s a.zero)
    |none=>J
   else J
  |none=>J
 |_,_=>J
def vX(P:Program)(Y:ae)(s:TypeId)(x:AV)(f:Nat):Option AV:=
 match P.underlying s with
 |some (.struct fs)=>
  match fs[f]? with
  |some a=>
   match fG P a.type with
   |some (_+1)=>
    match x with
    | .p b i j=>(box Y b).map λ_=> .p b i (j+a.offset)
    | .q cs=>V (.q (cs.drop a.offset))
    |_=>J
   |_=>J
  |none=>J
 |_=>J
def yx(P:Program)(t:TypeId)(cs:List AV)(off:Nat):Option AV:=
 match tU P t,fG P t with
 |some true,some n=>V (.a ((cs.drop off).take n))
 |some false,_=>cs[off]?
 |_,_=>J
def uy(P:Program)(Y:ae)(t:TypeId)(x:AV)(i:Nat):Option AV:=
 match P.underlying t with
 |some (.slice e)=>
  match x with
  | .l rows _ _=>(rows[i]?).bind λr=>if fG P e=V (L r) then V (.q r) else J
  | .m b n=>(box Y b).bind λa=>if i<n/\fG P e=V a.size then V (.p b i 0) else J
  | .g k b o n=>(box Y b).bind λa=>if k=2/\i<n/\fG P e=V a.size then V (.p b (o+i) 0) else J
  |_=>J
 |some (.array n e)=>
  match fG P e with
  |some z=>
   if i<n then
    match x with
    | .p b k j=>(box Y b).map λ_=> .p b k (j+i*z)
    | .q cs=>V (.q (cs.drop (i*z)))
    |_=>J
   else J
  |none=>J
 |_=>J
def rH(E:Operand->AV):Option Operand->Option (Option Nat)
 |none=>V J
 |some x=>match E x with| .s (.int _ n)=>if 0<=n then V (V n.toNat) else J|_=>J
def uX(P:Program)(Y:ae)(t:TypeId)(x:AV)(lo a mx:Option Nat):Option AV:=
 match P.underlying t with
 |some .string=>
  match x with
  | .s (.string s)=>if mx=J/\lo.getD 0<=a.getD s.size/\a.getD s.size<=s.size then V (.s (.string (s.extract (lo.getD 0) (a.getD s.size)))) else J
  |_=>J
 |some (.slice e)=>
  match x with
  | .l rows c own=>
   if lo.getD 0<=a.getD (L rows)/\a.getD (L rows)<=L rows/\(fG P e).isSome/\(∀r∈rows,fG P e=V (L r)) then
    if mx=J then V (.l ((rows.drop (lo.getD 0)).take (a.getD (L rows)-lo.getD 0)) (c&&a.getD (L rows)==L rows) own)
    else if a.getD (L rows)<=mx.getD 0/\mx.getD 0<=L rows/\a.isSome then V (.l ((rows.drop (lo.getD 0)).take (a.getD (L rows)-lo.getD 0)) (mx.getD 0==a.getD (L rows)) own)
    else J
   else J
  | .m b n=>(box Y b).bind λd=>if lo=J/\mx=J/\(a.getD n<=n)/\(fG P e).isSome then V (.m b (a.getD n)) else if mx=J/\lo.getD 0<=a.getD n/\a.getD n<=n/\fG P e=V d.size then V (if lo.getD 0=a.getD n then .l [] I I else .g 2 b (lo.getD 0) (a.getD n-lo.getD 0)) else J
  |_=>J
 |_=>J
def AO(b:Builtin)(x y:AV):Option AV:=
 match b,x,y with
 | .min, .s (.int k a), .s (.int c b)=>V (.s (.int k (if b<a then b else a)))
 | .max, .s (.int k a), .s (.int c b)=>V (.s (.int k (if b>a then b else a)))
 |_,_,_=>J
def yj(P:Program)(t:TypeId)(x:AV):Option AV:=
 match P.underlying t,x with
 |some .string, .s (.string s)=>V (.s (.int .i64 s.size))
 |some (.slice _), .l rows _ _=>V (.s (.int .i64 (L rows)))
 |some (.array n _),_=>V (.s (.int .i64 n))
 |_,_=>J
def tk(P:Program)(Y:ae)(t:TypeId)(x:AV):Option AV:=
 match P.underlying t,x with
 |some (.slice _), .m b n=>(box Y b).map λ_=> .s (.int .i64 n)
 |some (.slice _), .g k b _ n=>(box Y b).bind λ_=>if k=2 then V (.s (.int .i64 n)) else J
 |_,_=>J
def nP(P:Program)(E:Operand->AV)(Y:ae)(b:Builtin)(c:Call):Option AV:=
 match b with
 | .len=>
  match c.argTypes[0]?,c.args[0]? with
  |some t,some x=>(yj P t (E x)).or (tk P Y t (E x))
  |_,_=>J
 | .min| .max=>
  match c.args.toList with
  |[x,y]=>AO b (E x) (E y)
  |_=>J
 |_=>J
def dz(P:Program)(E:Operand->AV)(Y:ae):Op->Option AV
 | .move x=>V (E x)
 | .assign x=>V (E x)
 | .pick c a b=>match E c with| .s (.bool t)=>V (if t then E a else E b)|_=>J
 | .load t x=>(iE Y (E x)).bind (yz P t)
 | .nilCheck x=>match E x with| .p b i j=>(box Y b).map λ_=> .p b i j| .q cs=>V (.q cs)| .f fn a b=>V (.f fn a b)|_=>J
 | .binOp op ty x y _=>
  match E x,E y with
  | .s a, .s b=>(vP P ty op a b).map .s
  | .a xs, .a ys=>
   match op with
   | .eql=>(sR P ty xs ys).map λr=> .s (.bool r)
   | .neq=>(sR P ty xs ys).map λr=> .s (.bool (!r))
   |_=>J
  |_,_=>J
 | .unOp op _ x=>
  match op,E x with
  | .not, .s (.bool b)=>V (.s (.bool (!b)))
  | .neg, .s (.int k n)=>V (.s (.int k (k.wrap (0-n))))
  |_,_=>J
 | .convert o d x=>
  match P.underlying o,P.underlying d,E x with
  |some _,some (.int k), .s (.int _ n)=>V (.s (.int k (k.wrap n)))
  |some .string,some .string, .s (.string s)=>V (.s (.string s))
  |_,_,_=>J
 | .fieldAddr s x f=>vX P Y s (E x) f
 | .field t x f=>
  match P.underlying t,E x with
  |some (.struct fs), .a cs=>(fs[f]?).bind λg=>yx P g.type cs g.offset
  |_,_=>J
 | .indexAddr t x ix=>match E ix with| .s (.int _ i)=>if 0<=i then uy P Y t (E x) i.toNat else J|_=>J
 | .index t x ix=>
  match E ix,P.underlying t,E x with
  | .s (.int _ i),some .string, .s (.string s)=>if 0<=i then(s[i.toNat]?).map λb=> .s (.int .u8 b.toNat) else J
  | .s (.int _ i),some (.array n e), .a cs=>if 0<=i/\i<n then(fG P e).bind λz=>yx P e cs (i.toNat*z) else J
  |_,_,_=>J
 | .extract x i=>match E x with| .t vs=>vs[i]?|_=>J
 | .lookup t x ix A=>match r9 P t with|some v=>oP v Y (E x) (E ix) A|none=>J
 | .slice t x lo u mx=>
  match rH E lo,rH E u,rH E mx with
  |some l,some h,some m=>uX P Y t (E x) l h m
  |_,_,_=>J
 | .makeFunc (.func fn) first cap=>V (.f fn (first.toList.map E) (cap.toList.map E))
 | .call c=>match c.callee with| .builtin b=>nP P E Y b c|_=>J
 |_=>J
section
variable{P:Program}{κ:ei}{w:World}{Y:ae}{β:Id->Nat}
theorem ba.s_inv{v a:Value}(h:ba κ w Y β v (.s a)):v=a/\sc a=U:=by cases h;exact⟨rfl,‹_›⟩
theorem KC(v:Value):ba κ w Y β v (ui v):=by unfold ui;split;exact .l0 (λ_=>rfl);split;exact .s ‹_›;exact .u
theorem axB(v:Value):ba κ w Y β v (Dg v):=by unfold Dg;split;rename_i cs;split;rename_i h;obtain⟨l⟩:=cs;refine .a (by simp) (λv b=>?_) (λi v c b d=>?_);simp only[List.all_toArray] at h;exact dV.1 h v b;simp only[fp,b,df,bE] at d;subst d;exact KC v;exact .u;exact KC _
theorem axN{d:Nat}{t:TypeId}{a b:Value}{r:Bool}(h:vW P t a b=V r):(Op.equalIn (d+1) t a b).run P w= .ok r w:=by unfold vW at h;split at h;split at h;split at h;rename_i c e;subst e;(cases h);exact run_equalIn_int w d t _ _ _ _ c;(cases h);(cases h);split at h;(cases h;exact run_equalIn_bool w d t _ _ ‹_›);(cases h);split at h;(cases h);rename_i c;simp[Op.equalIn,run_underlying c,beq_toListBytes];(cases h);cases h
theorem axM{d:Nat}{xs ys:List AV}{vs g:List Value}(s:∀(i:Nat) v c,vs[i]?=V v->xs[i]?=V c->ba κ w Y β v c)(q:∀(i:Nat) v c,g[i]?=V v->ys[i]?=V c->ba κ w Y β v c)(x:L vs=L xs)(u:L g=L ys):∀(fs:List Field) {r:Bool},vV P xs ys fs=V r->(Op.eqFields (d+1) vs.toArray g.toArray fs).run P w= .ok r w:=by intro fs;induction fs with|nil=>intro r h;simp only[vV,bE] at h;subst h;simp[Op.eqFields]|cons f fs t=>intro r h;simp only[vV] at h;split at h;rename_i j;split at h;rename_i a b l m;have n:vs[f.offset]?=V a:=(by have e:f.offset<L vs:=(by rw[x];exact(mg.1 l).1);have k:=s f.offset _ _ (eC e) l;rw[eC e,k.s_inv.1]);have o:g[f.offset]?=V b:=(by have e:f.offset<L g:=(by rw[u];exact(mg.1 m).1);have k:=q f.offset _ _ (eC e) m;rw[eC e,k.s_inv.1]);have y:(part f.type vs.toArray f.offset).run P w= .ok a w:=(by simp[part,wH j.2,n]);have z:(part f.type g.toArray f.offset).run P w= .ok b w:=(by simp[part,wH j.2,o]);split at h;rename_i A p;simp only[Op.eqFields,if_pos j.1,Sem.run_bind,y,z,Result.andThen_ok,axN p];(cases A with|true=>simp only[if_true] at h;simp[t h]|false=>simp only[Bool.false_eq_true,if_false,bE] at h;subst h;simp);(cases h);(cases h);cases h
theorem KL{t:TypeId}{xs ys:List AV}{v u:Value}{r:Bool}(e:ba κ w Y β v (.a xs))(c:ba κ w Y β u (.a ys))(h:sR P t xs ys=V r)(op:BinOp)(x y:Operand):(eqGuard op t x y v u).run P w= .ok () w/\(Op.equal t v u).run P w= .ok r w:=by unfold sR at h;split at h;rename_i fs b;split at h;rename_i f;(cases e with|@a vs _ l n e=>cases c with|@a i _ g m c=>constructor;(cases op<;>simp[eqGuard,f.2]);have j:P.underlying t=V (.struct (P.fieldsOf t)):=(by simp[Program.fieldsOf,b]);have k:P.fieldsOf t=fs:=(by simp[Program.fieldsOf,b]);rw[show Op.equal t (.agg vs.toArray) (.agg i.toArray)=Op.equalIn (9999+1) t (.agg vs.toArray) (.agg i.toArray) from rfl,run_equalIn_struct w 9999 t _ _ j f.1,k];exact axM (d:=9998) e c l g fs.toList h);(cases h);cases h
theorem axO{t:TypeId}{a b:Value}{r:Bool}(h:sS (qL P t) a b=V r):vW P t a b=V r:=by have d:qL P t=0->∃k,P.underlying t=V (.int k):=(by unfold qL;split<;>intro h<;>first|(simp at h;done)|exact⟨_,by assumption⟩);have e:qL P t=1->P.underlying t=V .bool:=(by unfold qL;split<;>intro h<;>first|(simp at h;done)|assumption);have f:qL P t=2->P.underlying t=V .string:=(by unfold qL;split<;>intro h<;>first|(simp at h;done)|assumption);generalize qL P t=k at*;unfold sS at h;split at h;split at h;rename_i c;obtain⟨k,g⟩:=d c.1;simp only[vW,g,if_pos c.2];exact h;(cases h);split at h;rename_i c;simp only[vW,e c];exact h;(cases h);split at h;rename_i c;simp only[vW,f c];exact h;(cases h);cases h
theorem alU{xs ys:List AV}:∀(fs:List Field) (l:List (Nat×Nat)) {r:Bool},nk P fs=V l->nW xs ys l=V r->vV P xs ys fs=V r:=by intro fs;induction fs with|nil=>intro l r h c;simp only[nk,bE] at h;subst h;exact c|cons f fs k=>intro l r h c;simp only[nk] at h;split at h;rename_i j;(cases d:nk P fs with|none=>rw[d] at h;cases h|some m=>rw[d] at h;simp only[df,bE] at h;subst h;simp only[nW] at c;simp only[vV];rw[if_pos j];split at c;rename_i a b g i;(try rw[g,i]);(try simp only);(cases e:sS (qL P f.type) a b with|none=>rw[e] at c;cases c|some q=>rw[e] at c;rw[axO e];cases q with|true=>exact k m d c|false=>exact c);cases c);cases h
end
section
variable{P:Program}{κ:ei}{w:World}{Y:ae}{β:Id->Nat}
theorem Eh{v:Value}{b:Id}{i j:Nat}{x:bY}(h:ba κ w Y β v (.p b i j))(a:box Y b=V x):v= .pointer (V ⟨β b,i*x.size+j,J⟩):=by cases h with|p0 h _=>exact(qD h a).elim|p1 h d c=>rw[a] at h;cases h;rw[c]
theorem Ei{v:Value}{b:Id}{i j:Nat}{x:bY}(h:ba κ w Y β v (.p b i j))(a:box Y b=V x):0<x.size:=by cases h with|p0 h _=>exact(qD h a).elim|p1 h c d=>rw[a] at h;cases h;exact c
theorem oR{v:Value}{b:Id}{n:Nat}{x:bY}(h:ba κ w Y β v (.m b n))(c:box Y b=V x):∃cap cur,v= .slice (V ⟨β b,0,J⟩) n cap/\n<=L x.rows/\w.heap[β b]?=V (.cells cur x.elem (0,0))/\cur.size=cap*x.size:=by cases h with|m0 h _=>exact(qD h c).elim|m1 h e d a f=>rw[c] at h;cases h;exact⟨_,_,rfl,e,d,a⟩
theorem nZ{v:Value}{b:Id}{n:Nat}{x:bY}(h:ba κ w Y β v (.m b n))(a:box Y b=V x):0<x.size:=by cases h with|m0 h _=>exact(qD h a).elim|m1 h f e c d=>rw[a] at h;cases h;exact d
theorem Lh{v:Value}{b:Id}{k o n:Nat}{x:bY}(h:ba κ w Y β v (.g k b o n))(a:box Y b=V x):XV k x.size (L x.rows) (β b) o n v:=by cases h with|g0 h _=>exact(qD h a).elim|g1 h c=>rw[a] at h;cases h;exact c
theorem Lf{v:Value}{b:Id}{o n:Nat}{x:bY}(h:ba κ w Y β v (.g 2 b o n))(e:box Y b=V x):∃cap,v= .slice (V ⟨β b,o*x.size,J⟩) n cap/\0<x.size/\o+n<=L x.rows:=by rcases Lh h e with⟨a,_⟩|⟨a,_⟩|⟨_,a,c,cap,d⟩;(cases a);(cases a);exact⟨cap,d,a,c⟩
theorem amp{v:Value}{b:Id}{o n:Nat}{x:bY}(h:ba κ w Y β v (.g 0 b o n))(e:box Y b=V x):v= .map (V (β b))/\x.size=0:=by rcases Lh h e with⟨_,c,d⟩|⟨a,_⟩|⟨a,_⟩;exact⟨d,c⟩;(cases a);cases a
theorem aBu{v:Value}{b:Id}{o n:Nat}{x:bY}(h:ba κ w Y β v (.g 1 b o n))(e:box Y b=V x):v= .pointer (V ⟨β b,0,J⟩)/\x.size=0:=by rcases Lh h e with⟨a,_⟩|⟨_,c,d⟩|⟨a,_⟩;(cases a);exact⟨d,c⟩;cases a
theorem QM{v:Value}{cs:List AV}(h:ba κ w Y β v (.q cs))(n:Nat):∃b off,v= .pointer (V ⟨b,off,J⟩)/\ba κ w Y β (.pointer (V ⟨b,off+n,J⟩)) (.q (cs.drop n)):=by cases h with|@q b off _ k g c i d f e=>refine⟨b,off,rfl, .q k (λj=>g (n+j)) c i (λj x a=>?_) (λj x a=>?_) (λj x a=>?_)⟩;rw[mf] at a;rw[R3];exact d _ x a;rw[mf] at a;exact f _ x a;rw[mf] at a;exact e _ x a
theorem azS{t:TypeId}{v:Value}{x d:AV}{f:Nat}(c:ba κ w Y β v x)(h:vX P Y t x f=V d):∃u,(Instr.fieldAt t v f).run P w= .ok u w/\ba κ w Y β u d:=by unfold vX at h;split at h;rename_i fs k;split at h;rename_i e g;split at h;rename_i z l;have p:¬(z+1=0):=(by omega);split at h;rename_i b i j;(cases a:box Y b with|none=>rw[a] at h;cases h|some m=>rw[a] at h;simp only[df,bE] at h;subst h;rw[Eh c a];refine⟨.pointer (V ⟨β b,i*m.size+(j+e.offset),J⟩),?_, .p1 a (Ei c a) rfl⟩;simp[Instr.fieldAt,run_underlying k,g,Instr.sureAddr,fieldPlace,mN l,kT,R3]);simp only[bE] at h;subst h;obtain⟨o,off,rfl,n⟩:=QM c e.offset;refine⟨_,?_,n⟩;simp[Instr.fieldAt,run_underlying k,g,Instr.sureAddr,fieldPlace,mN l,kT];(cases h);(cases h);(cases h);cases h
theorem anP{t:TypeId}{vs:List Value}{cs:List AV}{off:Nat}{g:AV}(j:L vs=L cs)(l:∀v∈vs,ir v=U)(k:∀(i:Nat) v c,vs[i]?=V v->cs[i]?=V c->ba κ w Y β v c)(h:yx P t cs off=V g):∃u,(part t vs.toArray off).run P w= .ok u w/\ba κ w Y β u g:=by unfold yx at h;split at h;rename_i n f hs;simp only[bE] at h;subst h;refine⟨.agg ((vs.drop off).take n).toArray,?_, .a (by simp[j]) (λv b=>l v (CB (sA b))) (λi v c b d=>?_)⟩;simp[part,wH f,mN hs];rw[ot] at b d;split at b;rename_i m;rw[if_pos m] at d;rw[mf] at b d;exact k _ v c b d;(cases b);rename_i f;have e:off<L vs:=(by rw[j];exact(mg.1 h).1);refine⟨vs[off],?_,k off _ _ (eC e) h⟩;simp[part,wH f,e];cases h
theorem aB4{t:TypeId}{v iv:Value}{x C:AV}{k:IntKind}{i:Int}(d:ba κ w Y β v x)(m:0<=i)(h:uy P Y t x i.toNat=V C):∃u,(Instr.indexAt t v (.int k i)).run P w= .ok u w/\ba κ w Y β u C:=by unfold uy at h;split at h;rename_i e s;split at h;rename_i rows K own;(cases p:rows[i.toNat]? with|none=>rw[p] at h;cases h|some r=>rw[p] at h;simp only[ek] at h;split at h;rename_i f;simp only[bE] at h;subst h;have D:i.toNat<L rows:=(mg.1 p).1;have B:r∈rows:=(by obtain⟨h1,M⟩:=mg.1 p;rw[<-M];exact qj _);(cases d with|l0=>simp at D|@l1 A off n c size _ _ _ ho X hd g hn ab R ht a W hs N E O=>have F:=hs r B;have l:i<(n:Int):=(by omega);refine⟨.pointer (V ⟨A,off+i.toNat*size,J⟩),?_, .q X (g i.toNat) a W (λj x d=>?_) (λj x d=>?_) (λj x d=>?_)⟩;rw[F] at f;simp[Instr.indexAt,asIntOf,run_underlying s,m,l,mN f,kT];exact N i.toNat j x (by simp[db,p,d]);exact E i.toNat j x (by simp[db,p,d]);exact O i.toNat j x (by simp[db,p,d]));cases h);rename_i b n;(cases a:box Y b with|none=>rw[a] at h;cases h|some y=>rw[a] at h;simp only[ek] at h;split at h;rename_i f;simp only[bE] at h;subst h;obtain⟨cap,cur,rfl,_⟩:=oR d a;have l:i<(n:Int):=(by omega);refine⟨.pointer (V ⟨β b,i.toNat*y.size+0,J⟩),?_, .p1 a (nZ d a) rfl⟩;simp[Instr.indexAt,asIntOf,run_underlying s,m,l,mN f.2,kT];cases h);rename_i H b o n;(cases a:box Y b with|none=>rw[a] at h;cases h|some y=>rw[a] at h;simp only[ek] at h;split at h;rename_i f;obtain⟨rfl,ac,G⟩:=f;simp only[bE] at h;subst h;obtain⟨cap,rfl,S,aa⟩:=Lf d a;have l:i<(n:Int):=(by omega);refine⟨.pointer (V ⟨β b,(o+i.toNat)*y.size+0,J⟩),?_, .p1 a S rfl⟩;simp[Instr.indexAt,asIntOf,run_underlying s,m,l,mN G,kT,R4];cases h);(cases h);rename_i n e s;split at h;rename_i z f;split at h;rename_i Z;have l:i<(n:Int):=(by omega);split at h;rename_i b H j;(cases a:box Y b with|none=>rw[a] at h;cases h|some y=>rw[a] at h;simp only[df,bE] at h;subst h;rw[Eh d a];refine⟨.pointer (V ⟨β b,H*y.size+(j+i.toNat*z),J⟩),?_, .p1 a (Ei d a) rfl⟩;simp[Instr.indexAt,asIntOf,run_underlying s,m,l,mN f,kT,Instr.sureAddr,R3]);simp only[bE] at h;subst h;obtain⟨A,off,rfl,T⟩:=QM d (i.toNat*z);refine⟨_,?_,T⟩;simp[Instr.indexAt,asIntOf,run_underlying s,m,l,mN f,kT,Instr.sureAddr];(cases h);(cases h);(cases h);cases h
end
section
variable{P:Program}{κ:ei}{w:World}{Y:ae}{β:Id->Nat}
def Bd(x:Option Value)(r:Option Nat):Prop:=(r=J/\x=J)\/∃(n:Nat) (k:IntKind),r=V n/\x=V (.int k n)
theorem Ko{a:Operand->Value}{E:Operand->AV}(b:∀x,ba κ w Y β (a x) (E x)){x:Option Operand}{r:Option Nat}(h:rH E x=V r):Bd (x.map a) r:=by cases x with|none=>simp only[rH,bE] at h;exact .inl ⟨h.symm,rfl⟩|some x=>simp only[rH] at h;split at h;rename_i k n c;split at h;simp only[bE] at h;have:=(b x);rw[c] at this;refine .inr ⟨n.toNat,k,h.symm,?_⟩;rw[df,this.s_inv.1];congr 2;omega;(cases h);cases h
theorem Q1{k:IntKind}{n y:Nat}{a:BoundsCode}(h:n<=y):(Instr.sliceBound (.int k n) y a).run P w= .ok n w:=by have:(n:Int)<=(y:Int):=(by omega);simp[Instr.sliceBound,asIntOf,this]
theorem Bm{gY:Bool}{len cap:Nat}{lo a mx:Option Value}{l h m:Option Nat}(g:Bd lo l)(f:Bd a h)(i:Bd mx m)(b:l.getD 0<=h.getD len)(c:h.getD len<=m.getD cap)(d:m.getD cap<=cap)(e:m.isSome=U->h.isSome=U):(Instr.sliceBounds gY len cap lo a mx).run P w= .ok (l.getD 0,h.getD len,m.getD cap) w:=by rcases g with⟨rfl,rfl⟩|⟨o,j,rfl,rfl⟩<;>rcases f with⟨rfl,rfl⟩|⟨p,k,rfl,rfl⟩<;>rcases i with⟨rfl,rfl⟩|⟨q,n,rfl,rfl⟩<;>simp only[sD,mi,Option.isSome_none,Option.isSome_some] at*;all_goals first|(simp at e;done)|simp[Instr.sliceBounds,Q1 b,Q1 c,Q1 d]
theorem Du{rows:List (List AV)}{l n:Nat}:∀i j,db ((rows.drop l).take n) i j=if i<n then db rows (l+i) j else J:=by intro i j;unfold db;rw[ot];split;rw[mf];rfl
theorem zT{b:Id}{x:bY}{cur:Array Value}{cap:Nat}(s:cv P κ w Y β)(h:box Y b=V x)(e:w.heap[β b]?=V (.cells cur x.elem (0,0)))(c:cur.size=cap*x.size):L x.rows<=cap:=by have k:=(s.ok b x h).cells e;obtain⟨g,f,a,d,i,_⟩:=k.ex;rw[e] at a;simp only[bE,Obj.cells.injEq,and_true] at a;subst a;rw[c] at d;have:=aq6 k.pos d;omega
theorem aoE{A:Option Addr}{rows:List (List AV)}{e q own:Bool}{c b Lw H z:Nat}(h:ba κ w Y β (.slice A (L rows) c) (.l rows e own))(O:L rows<=c)(K:b<=c)(R:Lw<=H)(S:H<=L rows)(G:H<=b)
  (f:q=U->b=H)(C:∀r∈rows,L r=z):
  ba κ w Y β (.slice (if b=Lw then A else A.map (·.add (Lw*z))) (H-Lw) (b-Lw)) (.l ((rows.drop Lw).take (H-Lw)) q own):=by
 by_cases s:H-Lw=0
 ·rw[s,List.take_zero]
  exact .l0 (λd=>by have:=f d;omega)
 ·generalize m:L rows=n at*
  cases h with
  |l0=>simp at m;omega
  |@l1 F off n _ size _ _ _ B E u g M N y d t D hs k o v=>
   have p:size=z:=by
    cases rows with
    |nil=>simp at m;omega
    |cons r T=>rw[<-hs r (by simp),C r (by simp)]
   subst p
   rw[if_neg (by omega)]
   simp only[df,kT]
   refine .l1 B E (λi j x a=>by
    rw[Du] at a
    split at a
    ·exact u _ j x a
    ·cases a) (λi j=>g (Lw+i) j) (by simp;omega) (by omega) (by omega) (λd=>by have:=f d;omega) t D (λr h=>hs r (CB (sA h))) (λi j x a=>?_) (λi j x a=>?_) (λi j x a=>?_)
   ·rw[Du] at a
    split at a
    ·rw[show off+Lw*size+i*size+j=off+(Lw+i)*size+j by rw[R4];omega];exact k _ j x a
    ·cases a
   ·rw[Du] at a
    split at a
    ·exact o _ j x a
    ·cases a
   ·rw[Du] at a
    split at a
    ·exact v _ j x a
    ·cases a
theorem AJ{v:Value}{rows:List (List AV)}{a own:Bool}(f:ba κ w Y β v (.l rows a own)):∃A c,v= .slice A (L rows) c/\L rows<=c/\(a=U->c=L rows):=by cases f with|l0 d=>exact⟨_,_,rfl,by simp,by simpa using d⟩|l1 j k i g e h b d=>subst e;exact⟨_,_,rfl,b,d⟩
theorem aIo{t:TypeId}{v:Value}{x O:AV}{lo W mx:Option Value}{l h m:Option Nat}(s:cv P κ w Y β)(i:ba κ w Y β v x)(C:Bd lo l)(B:Bd W h)(D:Bd mx m)(a:uX P Y t x l h m=V O):∃u,(Instr.sliceAt t v lo W mx).run P w= .ok u w/\ba κ w Y β u O:=by unfold uX at a;split at a;rename_i k;split at a;rename_i s;split at a;rename_i j;obtain⟨rfl,g,p⟩:=j;(cases a);(cases i with|s=>rcases D with⟨_,rfl⟩|⟨_,_,h,_⟩;refine⟨_,?_, .s rfl⟩;have:=Bm (P:=P) (w:=w) (gY:=I) (len:=s.size) (cap:=s.size) (mx:=J) (m:=J) C B (.inl ⟨rfl,rfl⟩) g p (dA _) (by simp);simp[Instr.sliceAt,run_underlying k,Instr.slice,this];cases h);(cases a);(cases a);rename_i e k;split at a;rename_i rows Z own;split at a;rename_i j;obtain⟨g,p,S,q⟩:=j;obtain⟨z,H⟩:=zz.1 S;have K:∀r∈rows,L r=z:=λr hr=>(by have:=q r hr;rw[H] at this;simpa using this.symm);obtain⟨A,c,rfl,M,T⟩:=AJ i;split at a;rename_i F;subst F;simp only[bE] at a;subst a;rcases D with⟨_,rfl⟩|⟨_,_,h,_⟩;refine⟨_,?_,aoE i M (dA c) g p (by omega) (λG=>by simp at G;rw[T G.1];exact G.2.symm) K⟩;have:=Bm (P:=P) (w:=w) (gY:=U) (len:=L rows) (cap:=c) (mx:=J) (m:=J) C B (.inl ⟨rfl,rfl⟩) g (by simp;omega) (dA _) (by simp);simp only[sD] at this;simp[Instr.sliceAt,run_underlying k,Instr.slice,this,mN H];(cases h);rename_i F;split at a;rename_i E;simp only[bE] at a;subst a;obtain⟨y,rfl⟩:∃y,m=V y:=(by cases m with|none=>exact absurd rfl F|some y=>exact⟨y,rfl⟩);simp only[mi] at E⊢;refine⟨_,?_,aoE i M (show y<=c by omega) g p E.1 (λG=>by simpa using G) K⟩;have:=Bm (P:=P) (w:=w) (gY:=U) (len:=L rows) (cap:=c) (m:=V y) C B D g (by simp;omega) (by simp;omega) (λ_=>E.2.2);simp only[mi] at this;simp[Instr.sliceAt,run_underlying k,Instr.slice,this,mN H];(cases a);(cases a);rename_i b n;(cases d:box Y b with|none=>rw[d] at a;cases a|some R=>rw[d] at a;simp only[ek] at a;split at a;rename_i j;obtain⟨rfl,rfl,p,q⟩:=j;simp only[bE] at a;subst a;obtain⟨cap,cur,rfl,hn,o,f⟩:=oR i d;obtain⟨z,H⟩:=zz.1 q;have X:=zT s d o f;refine⟨.slice (V ⟨β b,0,J⟩) (h.getD n) cap,?_, .m1 d (by omega) o f (nZ i d)⟩;have:=Bm (P:=P) (w:=w) (gY:=U) (len:=n) (cap:=cap) C B D (by simp) (by simp;omega) (dA _) (by simp);simp only[sD] at this;simp only[Instr.sliceAt,Sem.run_bind,run_underlying k,Instr.slice,this,mN H,Result.andThen_ok,Sem.run_pure,Nat.sub_zero,Nat.zero_mul,df,kT,kP,ite_self];split at a;rename_i j;obtain⟨rfl,g,p,q⟩:=j;simp only[bE] at a;obtain⟨cap,cur,rfl,hn,o,f⟩:=oR i d;have X:=zT s d o f;have:=Bm (P:=P) (w:=w) (gY:=U) (len:=n) (cap:=cap) C B D (by simpa using g) (by simp;omega) (dA _) (by simp);simp only[sD] at this;by_cases N:l.getD 0=h.getD n;rw[if_pos N] at a;subst a;refine⟨.slice (if cap=l.getD 0 then V ⟨β b,0,J⟩ else V ⟨β b,l.getD 0*R.size,J⟩) 0 (cap-l.getD 0),?_, .l0 (λh=>by cases h)⟩;simp only[Instr.sliceAt,Sem.run_bind,run_underlying k,Instr.slice,this,mN q,Result.andThen_ok,Sem.run_pure,df,kT,aj,N,Nat.sub_self];rw[if_neg N] at a;subst a;refine⟨.slice (V ⟨β b,l.getD 0*R.size,J⟩) (h.getD n-l.getD 0) (cap-l.getD 0),?_, .g1 d (.inr (.inr ⟨rfl,nZ i d,by omega,_,rfl⟩))⟩;simp only[Instr.sliceAt,Sem.run_bind,run_underlying k,Instr.slice,this,mN q,Result.andThen_ok,Sem.run_pure,df,kT,aj,if_neg (show¬cap=l.getD 0 by omega)];cases a);(cases a);cases a
end
section
variable{P:Program}{κ:ei}{w:World}{Y:ae}{β:Id->Nat}
theorem KG:∀a:List (Value×Value),xF (a.map lf)=V a:=by intro a;induction a with|nil=>rfl|cons p a b=>simp only[ji,lf,xF] at*;rw[b];rfl
theorem aIf:∀{cs:List AV} {l:List Value},uW cs=V l->cs=l.map .s:=by intro cs;induction cs with|nil=>intro l h;simp only[uW,bE] at h;subst h;rfl|cons c cs b=>intro l h;cases c with|s v=>simp only[uW] at h;(cases a:uW cs with|none=>rw[a] at h;cases h|some d=>rw[a] at h;simp only[df,bE] at h;subst h;rw[b a];rfl)|_=>simp[uW] at h
theorem aFd{v:Value}{l:List Value}(h:ba κ w Y β v (.a (l.map .s))):v= .agg l.toArray/\l.all sc=U:=by
 cases h with
 |@a vs cs f m h=>
  have d:∀i (b:i<L vs),∃c:i<L l,vs[i]=l[i]/\sc l[i]=U:=λi b=>by
   have c:i<L l:=by simpa[f] using b
   have:=h i vs[i] (.s l[i]) (eC b) (by simp[c])
   exact⟨c,this.s_inv⟩
  have e:vs=l:=List.ext_getElem (by simpa using f) (λi g k=>(d i g).2.1)
  subst e
  exact⟨rfl,dV.2 λx j=>by
   obtain⟨i,b,rfl⟩:=List.getElem_of_mem j
   exact(d i b).2.2⟩
theorem aof{l:List Value}(d:l.all sc=U):∀(i:Nat) v c,l[i]?=V v->(l.map AV.s)[i]?=V c->ba κ w Y β v c:=by intro i v c b a;rw[fp,b] at a;simp only[df,bE] at a;subst a;exact .s (dV.1 d v (fC b))
theorem am5{st:Bool}{v k:Value}{x:AV}(h:ba κ w Y β v x)(a:ww st x=V k):v=k/\DW k=U:=by unfold ww at a;split at a;(cases a;exact⟨h.s_inv.1,rfl⟩);rename_i cs;(cases b:uW cs with|none=>rw[b] at a;cases a|some l=>rw[b] at a;simp only[df,bE] at a;subst a;rw[aIf b] at h;obtain⟨c,d⟩:=aFd h;exact⟨c,d⟩);cases a
theorem ano{t:TypeId}{a:MT}(h:r9 P t=V a):∃k e i,P.underlying t=V (.map k e)/\P.info? e=V i/\i.zero=V a.zero/\sc a.zero=U/\((a.st=I/\P.underlying k=V .string)\/∃fs,a.st=U/\P.underlying k=V (.struct fs)/\P.stoodInHeld k=I/\P.eqGuardType P.depth k=I/\nk P fs.toList=V a.fs/\a.fs.all (λf=>Q (f.2<3))=U):=by unfold r9 at h;split at h;rename_i k e m;(cases c:P.info? e with|none=>rw[c] at h;cases h|some i=>rw[c] at h;simp only[ek] at h;split at h;rename_i z fs j g;split at h;rename_i b;(cases d:nk P fs.toList with|none=>rw[d] at h;cases h|some l=>rw[d] at h;simp only[ek] at h;split at h;rename_i n;(cases h);exact⟨k,e,i,m,c,j,b.1, .inr ⟨fs,rfl,g,b.2.1,b.2.2,d,n⟩⟩;cases h);(cases h);rename_i z j g;split at h;rename_i b;(cases h);exact⟨k,e,i,m,c,j,b, .inl ⟨rfl,g⟩⟩;(cases h);cases h);cases h
theorem axc{g:Bool}{n:Nat}{xs:Array Value}:∀(fs:List Field) (l:List (Nat×Nat)),nk P fs=V l->l.all (λf=>Q (f.2<3))=U->l.all (λf=>Q (f.1<xs.size))=U->
  (forIn (m:=Sem) fs PUnit.unit λf r=>do
   if f.name≠ "_" then(do
    let a<-part f.type xs f.offset
    Instr.checkKey g (n+1) f.type a
    pure (ForInStep.yield PUnit.unit)) else pure (ForInStep.yield PUnit.unit)).run P w= .ok PUnit.unit w:=by
 intro fs
 induction fs with
 |nil=>intro l _ _ _;simp
 |cons f fs p=>
  intro l h c d
  simp only[nk] at h
  split at h
  ·rename_i j
   cases e:nk P fs with
   |none=>rw[e] at h;cases h
   |some q=>
    rw[e] at h
    simp only[df,bE] at h
    subst h
    simp only[Cs,bN,decide_eq_true_eq] at c d
    have o:(part f.type xs f.offset).run P w= .ok xs[f.offset] w:=by simp[part,wH j.2,d.1]
    have k:(Instr.checkKey g (n+1) f.type xs[f.offset]).run P w= .ok () w:=by
     have i:=c.1
     unfold qL at i
     split at i
     ·rename_i b;simp[Instr.checkKey,run_underlying b]
     ·rename_i b;simp[Instr.checkKey,run_underlying b]
     ·rename_i b;simp[Instr.checkKey,run_underlying b]
     ·omega
    have:=p q e c.2 d.2
    simp only[List.forIn_cons,Sem.run_bind,if_pos j.1,o,k,Result.andThen_ok,Sem.run_pure]
    exact this
  ·cases h
theorem alL{t k e:TypeId}{a:MT}{g:Bool}{v:Value}(j:(a.st=I/\P.underlying k=V .string)\/∃fs,a.st=U/\P.underlying k=V (.struct fs)/\P.stoodInHeld k=I/\P.eqGuardType P.depth k=I/\nk P fs.toList=V a.fs/\a.fs.all (λf=>Q (f.2<3))=U)(c:qR a v=U):(Instr.checkKey g 10000 k v).run P w= .ok () w:=by rcases j with⟨hs,b⟩|⟨fs,hs,b,_,_,h,i⟩;rw[show(10000:Nat)=9999+1 from rfl,Instr.checkKey];simp only[Sem.run_bind,run_underlying b,Result.andThen_ok,Sem.run_pure];cases v with|agg xs=>have d:a.fs.all (λf=>Q (f.1<xs.size))=U:=(by simpa only[qR,hs] using c);rw[show(10000:Nat)=9998+1+1 from rfl,Instr.checkKey];simp only[Sem.run_bind,run_underlying b,Result.andThen_ok];rw[<-Array.forIn_toList];rw[axc (n:=9998) fs.toList a.fs h i d];simp|_=>simp[qR,hs] at c
theorem azX{k:Value}{c:MT}(hs:c.st=I):∀(b:List (Value×Value)) (i j:Nat) {r:Option (Nat×Value)},qR c k=U->lg c k b i=V r->Instr.findNow .string k (oQ j b) i=V r:=by intro b;induction b with|nil=>intro i j r _ h;exact h|cons p b e=>intro i j r d h;simp only[lg] at h;simp only[oQ,Instr.findNow];cases a:pO c k p.1 with|none=>rw[a] at h;cases h|some q=>rw[a] at h;have:Instr.sameNow .string k p.1=V q:=(by generalize f:p.1=y at a;(cases k<;>(try(simp[pO,hs] at a;done)));(cases y<;>(try(simp[pO,hs] at a;done)));simp only[pO,hs] at a;exact a);rw[this];cases q with|true=>exact h|false=>exact e (i+1) (j+1) d h
theorem azV{e:TypeId}{fs:Array Field}{k:Value}{f:MT}(hs:f.st=U)(u:P.underlying e=V (.struct fs))(n:P.stoodInHeld e=I)(o:P.eqGuardType P.depth e=I)(t:nk P fs.toList=V f.fs)(m:DW k=U):∀(d:List (Value×Value)) (i j:Nat) {r:Option (Nat×Value)},d.all uK=U->lg f k d i=V r->(Instr.findAsking e k (oQ j d) i).run P w= .ok r w:=by intro d;induction d with|nil=>intro i j r _ h;simp only[lg,bE] at h;subst h;simp[oQ,Instr.findAsking]|cons p d x=>intro i j r g h;simp only[Cs,bN] at g;simp only[lg] at h;cases b:pO f k p.1 with|none=>rw[b] at h;cases h|some q=>rw[b] at h;have:(Op.equal e k p.1).run P w= .ok q w:=(by have c:=g.1;simp only[uK,bN] at c;generalize z:p.1=y at b c;(cases k<;>(try(simp[pO,hs] at b;done)));(cases y<;>(try(simp[pO,hs] at b;done)));rename_i xs ys;simp only[pO,hs] at b;refine(KL (κ:=⟨λ_=>False,0⟩) (Y:=[]) (β:=λ_=>0) (xs:=xs.toList.map .s) (ys:=ys.toList.map .s) ?_ ?_ ?_ .eql default default).2;exact .a (vs:=xs.toList) (by simp) (λv l=>AF (dV.1 m v l)) (aof m);exact .a (vs:=ys.toList) (by simp) (λv l=>AF (dV.1 c.2 v l)) (aof c.2);simp only[sR,u,n,o,and_self,if_true];exact alU _ _ t b);simp only[oQ,Instr.findAsking,Sem.run_bind,this,Result.andThen_ok];cases q with|true=>simp only[bE] at h;subst h;simp|false=>simpa using x (i+1) (j+1) g.2 h
theorem azW{k:Value}{d:MT}:∀(a:List (Value×Value)) (i:Nat) {r:Nat×Value},a.all uK=U->lg d k a i=V (V r)->sc r.2=U:=by intro a;induction a with|nil=>intro i r _ h;cases h|cons p a c=>intro i r b h;simp only[Cs,bN] at b;simp only[lg] at h;split at h;(cases h);have:=b.1;simp only[uK,bN] at this;exact this.1;exact c (i+1) b.2 h;cases h
theorem KV{c:TypeId}{k:Value}{a:MT}{b:List (Value×Value)}{r:Option (Nat×Value)}(n:(a.st=I/\P.underlying c=V .string)\/∃fs,a.st=U/\P.underlying c=V (.struct fs)/\P.stoodInHeld c=I/\P.eqGuardType P.depth c=I/\nk P fs.toList=V a.fs/\a.fs.all (λf=>Q (f.2<3))=U)(l:qR a k=U)(e:DW k=U)(m:b.all uK=U)(h:lg a k b 0=V r):(Instr.findKey c k (oQ 0 b)).run P w= .ok r w:=by rcases n with⟨hs,d⟩|⟨fs,hs,d,g,i,j,o⟩;exact MapKept.run_findKey d (azX hs b 0 0 l h);rw[run_findKey_eq w (by rw[d])];exact azV hs d g i j e b 0 0 m h
theorem alT{b:Id}{x:bY}{a:List (Value×Value)}(s:cv P κ w Y β)(g:box Y b=V x)(h:ul x=V a):w.heap[β b]?=V (.map (oQ 0 a).toArray (L a))/\a.all uK=U/\x.size=0/\x.var=U/\x.rows=[a.map lf]:=by unfold ul at h;split at h;rename_i d;rcases(s.ok b x g).sp d.1 with⟨_,i,c,e,f⟩|⟨c,_⟩;rw[c] at h;simp only at h;rw[KG] at h;(cases h);exact⟨f,e,d.1,d.2,c⟩;rw[d.2] at c;cases c;cases h
theorem aDp{t:TypeId}{p:MT}{N B:Value}{x ix C:AV}{d:Bool}(s:cv P κ w Y β)(W:r9 P t=V p)(X:ba κ w Y β N x)(S:ba κ w Y β B ix)(h:oP p Y x ix d=V C):∃v,(Instr.lookup t N B d).run P w= .ok v w/\ba κ w Y β v C:=by obtain⟨kt,e,i,K,H,Z,y,A⟩:=ano W;unfold oP at h;split at h;rename_i b _ _ k T;(cases m:box Y b with|none=>rw[m] at h;cases h|some bx=>rw[m] at h;simp only[ek] at h;split at h;rename_i O F;split at h;rename_i j;obtain⟨rfl,h0⟩:=amp X m;obtain⟨G,z,_,_,_⟩:=alT s m F;obtain⟨rfl,q⟩:=am5 S T;have E:∀D,(Instr.checkKey D 10000 kt B).run P w= .ok () w:=λD=>alL (t:=t) (e:=e) A j;have M:∀(a:Value) (b:Bool),sc a=U->ba κ w Y β (.tuple #[a, .bool b]) (.t [.s a, .s (.bool b)]):=λa b R=>(by refine .t (vs:=[a, .bool b]) rfl (λi v c f l=>?_);match i with|0=>simp at f l;subst f;subst l;exact .s R|1=>simp at f l;subst f;subst l;exact .s rfl|n+2=>simp at f);split at h;rename_i r o;have g:=KV (w:=w) A j q z o;have u:sc r.2=U:=azW O 0 z o;simp only[bE] at h;subst h;refine⟨if d then .tuple #[r.2, .bool U] else r.2,?_,?_⟩;simp[Instr.lookup,run_underlying K,MapKept.run_getObj_map G,E,g];(cases d);exact .s u;exact M _ _ u;rename_i o;have g:=KV (w:=w) A j q z o;simp only[bE] at h;subst h;refine⟨if d then .tuple #[p.zero, .bool I] else p.zero,?_,?_⟩;simp[Instr.lookup,run_underlying K,MapKept.run_getObj_map G,E,g,zeroValue,typeInfo,H,Z];(cases d);exact .s y;exact M _ _ y;(cases h);(cases h);cases h);cases h
end
section
variable{P:Program}{κ:ei}{w:World}{Y:ae}{β:Id->Nat}
theorem aC7{t:TypeId}{v:Value}{x i:AV}{ts:Array TypeId}{ty:TypeId}{as:Array Value}(e:ts[0]?=V t)(d:as[0]?=V v)(f:ba κ w Y β v x)(h:(yj P t x).or (tk P Y t x)=V i):∃u,(Builtin.len_ ts ty as).run P w= .ok u w/\ba κ w Y β u i:=by rw[Option.or_eq_some_iff] at h;rcases h with h|⟨_,h⟩;unfold yj at h;split at h;(cases h;cases f with|s=>exact⟨_,by simp[Builtin.len_,e,d,run_underlying ‹_›,goInt];try rfl, .s rfl⟩);(cases h);obtain⟨A,c,rfl,_⟩:=AJ f;exact⟨_,by simp[Builtin.len_,e,d,run_underlying ‹_›,goInt];try rfl, .s rfl⟩;(cases h);exact⟨_,by simp[Builtin.len_,e,d,run_underlying ‹_›,goInt];try rfl, .s rfl⟩;(cases h);unfold tk at h;split at h;rename_i b n g _;(cases a:box Y b with|none=>rw[a] at h;cases h|some j=>rw[a] at h;simp only[df,bE] at h;subst h;obtain⟨cap,cur,rfl,_⟩:=oR f a;exact⟨_,by simp[Builtin.len_,e,d,run_underlying g,goInt];try rfl, .s rfl⟩);rename_i k b o n g _;(cases a:box Y b with|none=>rw[a] at h;cases h|some j=>rw[a] at h;simp only[ek] at h;split at h;rename_i l;subst l;simp only[bE] at h;subst h;obtain⟨cap,rfl,_⟩:=Lf f a;exact⟨_,by simp[Builtin.len_,e,d,run_underlying g,goInt];try rfl, .s rfl⟩;cases h);cases h
theorem awA{j:Operand->Value}{E:Operand->AV}{b:Builtin}{c:Call}{ty:TypeId}{k:AV}{cs:Array Bool}(e:∀x,ba κ w Y β (j x) (E x))(h:nP P E Y b c=V k):∃v,(builtin b c.argTypes ty cs (c.args.map j)).run P w= .ok (.value v) w/\ba κ w Y β v k:=by unfold nP at h;split at h;split at h;rename_i t x n o;obtain⟨u,l,m⟩:=aC7 (P:=P) (w:=w) (Y:=Y) (β:=β) (ts:=c.argTypes) (ty:=ty) (as:=c.args.map j) n (by simp[o]) (e x) h;exact⟨u,by simp[builtin,l],m⟩;(cases h);split at h;rename_i x y i;have f:=e x;have g:=e y;unfold AO at h;split at h;rename_i a d;simp only[bE] at h;subst h;rw[a] at f;rw[d] at g;exact⟨_,by simp[builtin,Builtin.min_,i,f.s_inv.1,g.s_inv.1,Builtin.min2];try rfl, .s rfl⟩;rename_i a d;simp_all;(cases h);(cases h);split at h;rename_i x y i;have f:=e x;have g:=e y;unfold AO at h;split at h;rename_i a d;simp_all;rename_i a d;simp only[bE] at h;subst h;rw[a] at f;rw[d] at g;exact⟨_,by simp[builtin,Builtin.max_,i,f.s_inv.1,g.s_inv.1,Builtin.max2];try rfl, .s rfl⟩;(cases h);(cases h);cases h
theorem aHZ{H:Operand->Value}{E:Operand->AV}{o:Oper}{av:AV}(s:cv P κ w Y β)(q:∀x,ba κ w Y β (H x) (E x))(h:dz P E Y o.op=V av):∃v,(execOp H o).run P w= .ok (.value v) w/\ba κ w Y β v av:=by obtain⟨al,op,ty,aA,af,gd⟩:=o;dsimp only at h;unfold dz at h;split at h;(cases h;exact⟨_,by simp[execOp];try rfl,q _⟩);(cases h;exact⟨_,by simp[execOp];try rfl,q _⟩);rename_i c a b;split at h;rename_i t F;(cases h);have k:=q c;rw[F] at k;(cases t);exact⟨_,by simp[execOp,k.s_inv.1,asBool];try rfl,q _⟩;exact⟨_,by simp[execOp,k.s_inv.1,asBool];try rfl,q _⟩;(cases h);rename_i t x;(cases hp:iE Y (E x) with|none=>rw[hp] at h;cases h|some cs=>rw[hp] at h;obtain⟨ak,off,g,e,F⟩:=anZ s (q x) hp;obtain⟨v,A,B⟩:=anh (P:=P) (t:=t) F h;exact⟨v,by simp[execOp,Instr.loadAt,e,Instr.sureAddr,A],B⟩);rename_i x;split at h;rename_i b i j p;have k:=q x;rw[p] at k;(cases D:box Y b with|none=>rw[D] at h;cases h|some bx=>rw[D] at h;simp only[df,bE] at h;subst h;exact⟨_,by simp[execOp,Eh k D];try rfl, .p1 D (Ei k D) rfl⟩);rename_i cs p;have k:=q x;rw[p] at k;(cases h);obtain⟨ak,off,e,_⟩:=QM k 0;exact⟨_,by simp[execOp,e];try rfl,e▸k⟩;rename_i fn a b p;have k:=q x;rw[p] at k;(cases h);generalize C:H x=v at k;(cases k with|f M am h h'=>exact⟨_,by simp[execOp,C];try rfl, .f M am h h'⟩);(cases h);rename_i op ty x y yt;have G:=q x;have N:=q y;split at h;rename_i a b p hy;rw[p] at G;rw[hy] at N;(cases D:vP P ty op a b with|none=>rw[D] at h;cases h|some v=>rw[D] at h;simp only[df,bE] at h;subst h;obtain⟨A,B⟩:=awu (w:=w) D;refine⟨v,?_, .s B⟩;have hg:(eqGuard op ty x y a b).run P w= .ok () w:=(by refine aH9 ?_;unfold vP at D;split at D<;>first|rfl|cases D);simp[execOp,G.s_inv.1,N.s_inv.1,hg,A]);rename_i xs ys p hy;rw[p] at G;rw[hy] at N;have fx:∃vs:List Value,H x= .agg vs.toArray:=(by generalize H x=v at G;cases G;exact⟨_,rfl⟩);have fy:∃vs:List Value,H y= .agg vs.toArray:=(by generalize H y=v at N;cases N;exact⟨_,rfl⟩);obtain⟨vx,X⟩:=fx;obtain⟨vy,Z⟩:=fy;split at h;(cases K:sR P ty xs ys with|none=>rw[K] at h;cases h|some r=>rw[K] at h;(cases h);obtain⟨A,B⟩:=KL G N K .eql x y;rw[X,Z] at A B;exact⟨_,by simp[execOp,X,Z,A,binOp,B];try rfl, .s rfl⟩);(cases K:sR P ty xs ys with|none=>rw[K] at h;cases h|some r=>rw[K] at h;(cases h);obtain⟨A,B⟩:=KL G N K .neq x y;rw[X,Z] at A B;exact⟨_,by simp[execOp,X,Z,A,binOp,B];try rfl, .s rfl⟩);(cases h);(cases h);rename_i op t x;have k:=q x;split at h;rename_i b p;rw[p] at k;(cases h);exact⟨_,by simp[execOp,k.s_inv.1,Op.unary];try rfl, .s rfl⟩;rename_i W n p;rw[p] at k;(cases h);exact⟨_,by simp[execOp,k.s_inv.1,Op.unary,Op.intArith];try rfl, .s rfl⟩;(cases h);rename_i aB al x;have k:=q x;split at h;rename_i d W k' n hs hd p;rw[p] at k;(cases h);exact⟨_,by cases d<;>(simp[execOp,k.s_inv.1,convert,run_underlying hs,run_underlying hd,Conv.intToInt];try rfl), .s rfl⟩;rename_i s' hs hd p;rw[p] at k;(cases h);exact⟨_,by simp[execOp,k.s_inv.1,convert,run_underlying hs,run_underlying hd];try rfl, .s rfl⟩;(cases h);rename_i st x f;obtain⟨u,A,B⟩:=azS (q x) h;exact⟨u,by simp[execOp,A],B⟩;rename_i t x f;have k:=q x;split at h;rename_i fs cs T p;rw[p] at k;(cases hf:fs[f]? with|none=>rw[hf] at h;cases h|some fd=>rw[hf] at h;simp only[ek] at h;generalize C:H x=v at k;cases k with|a M F S=>obtain⟨u,A,B⟩:=anP M F S h;exact⟨u,by simp[execOp,C,Instr.field,run_underlying T,hf,asAgg,A],B⟩);(cases h);rename_i t x ix;have k:=q ix;split at h;rename_i W i p;rw[p] at k;split at h;rename_i O;obtain⟨u,A,B⟩:=aB4 (iv:= .bool I) (k:=W) (q x) O h;exact⟨u,by simp[execOp,k.s_inv.1,A],B⟩;(cases h);(cases h);rename_i t x ix;have k:=q ix;have G:=q x;split at h;rename_i W i s' R T p;rw[R] at k;rw[p] at G;split at h;rename_i O;(cases D:s'[i.toNat]? with|none=>rw[D] at h;cases h|some b=>rw[D] at h;(cases h);exact⟨_,by simp[execOp,k.s_inv.1,G.s_inv.1,Instr.index,asIntOf,run_underlying T,O,D];try rfl, .s rfl⟩);(cases h);rename_i W i n e cs R T p;rw[R] at k;rw[p] at G;split at h;rename_i O;(cases hz:fG P e with|none=>rw[hz] at h;cases h|some z=>rw[hz] at h;simp only[ek] at h;generalize C:H x=v at G;cases G with|a M F S=>obtain⟨u,A,B⟩:=anP M F S h;exact⟨u,by simp[execOp,C,k.s_inv.1,Instr.index,asIntOf,run_underlying T,O,mN hz,A],B⟩);(cases h);(cases h);rename_i x i;have k:=q x;split at h;rename_i vs p;rw[p] at k;generalize C:H x=v at k;(cases k with|@t us _ M S=>have aa:i<L us:=(by rw[M];exact(mg.1 h).1);exact⟨us[i],by simp[execOp,C,Instr.extract,aa],S i _ _ (eC aa) h⟩);(cases h);rename_i t x ix ok;split at h;rename_i mt hm;obtain⟨v,A,B⟩:=aDp s hm (q x) (q ix) h;exact⟨v,by simp[execOp,A],B⟩;(cases h);rename_i t x lo O mx;split at h;rename_i l hh m A B h3;obtain⟨u,k1,k2⟩:=aIo s (q x) (Ko q A) (Ko q B) (Ko q h3) h;exact⟨u,by simp[execOp,k1],k2⟩;(cases h);rename_i fn first cap;(cases h);refine⟨.func (.func fn) (first.toList.map H).toArray (cap.toList.map H).toArray,?_, .f (by simp) (by simp) (λi v c C F=>?_) (λi v c C F=>?_)⟩;simp only[execOp,Instr.makeFunc,Sem.run_bind,Sem.run_pure,Result.andThen_ok];congr 3<;>exact(qb.1 (by simp));rw[fp] at C F;(cases p:first.toList[i]? with|none=>rw[p] at C;cases C|some x=>rw[p] at C F;cases C;cases F;exact q x);rw[fp] at C F;(cases p:cap.toList[i]? with|none=>rw[p] at C;cases C|some x=>rw[p] at C F;cases C;cases F;exact q x);rename_i c;split at h;rename_i b D;(obtain⟨v,A,B⟩:=awA (ty:=ty) (cs:=(c.args.map λ| .const _=>U|_=>I)) q h);refine⟨v,?_,B⟩;simp only[execOp,resolve,D,invoke,Sem.run_bind,Sem.run_pure,Result.andThen_ok];exact A;(cases h);cases h
end
def eY:AV->Option (List AV)| .a cs=>V cs| .t _=>J| .u=>J|x=>V [x]
def CR(κ:ei)(w:World)(Y:ae)(β:Id->Nat)(vs:List Value)(cs:List AV):Prop:=L vs=L cs/\(∀v∈vs,ir v=U)/\∀(i:Nat) v c,vs[i]?=V v->cs[i]?=V c->ba κ w Y β v c
def gp(a:Nat->Option (Nat×Nat)):List AV->List (Nat×AV)->Option (List AV)
 |cs,[]=>V cs
 |cs,(i,x)::b=>
  match a i,eY x with
  |some (off,size),some ys=>if L ys=size/\off+size<=L cs then gp a (cs.take off++ys++cs.drop (off+size)) b else J
  |_,_=>J
def jF(P:Program)(t:TypeId):Option (List AV):=
 match P.info? t with
 |some i=>
  match i.zero with
  |some z=>if z.cells.all ir=U/\z.cells.size=i.size then V (z.cells.toList.map ui) else J
  |none=>J
 |none=>J
def gK:AV->AV| .l rows _ _=> .l rows I I|x=>x
def nrm:AV->AV| .a cs=> .a (cs.map gK)|x=>gK x
def rp(P:Program)(t:TypeId):Option (List AV):=(jF P t).map (·.map gK)
def vS(P:Program)(t:TypeId)(a:List (Nat×AV)):Option (List AV):=
 match P.underlying t with
 |some (.struct b)=>
  match jF P t,b.toList.mapM (λf=>(P.info? f.type).map λi=>(f.offset,i.size)) with
  |some zs,some c=>gp (λi=>c[i]?) zs a
  |_,_=>J
 |some (.array _ e)=>
  match jF P t,fG P e with
  |some zs,some z=>gp (λi=>V (i*z,z)) zs a
  |_,_=>J
 |_=>J
def kC(size len:Nat)(flat:List AV):List (List AV):=(aH len).map λi=>(flat.drop (i*size)).take size
def xB(P:Program)(t:TypeId)(len:Nat)(a:List (Nat×AV)):Option (List (List AV)):=
 match P.underlying t with
 |some (.slice e)=>
  match rp P e with
  |some zs=>if len*L zs<=16777216/\0<L zs then(gp (λi=>V (i*L zs,L zs)) ((er len zs).flatten) a).bind (λfl=>if fl.all eN=U then V (kC (L zs) len fl) else J) else J
  |none=>J
 |_=>J
section
variable{P:Program}{κ:ei}{w:World}{Y:ae}{β:Id->Nat}
theorem CR.ext{d:World}{b:ae}{a:Id->Nat}{vs:List Value}{cs:List AV}(h:CR κ w Y β vs cs)(e:dw w Y β d b a):CR κ d b a vs cs:=⟨h.1,h.2.1,λi v c f g=>(h.2.2 i v c f g).ext e⟩
theorem CR.append{vs f:List Value}{cs ds:List AV}(h:CR κ w Y β vs cs)(k:CR κ w Y β f ds):CR κ w Y β (vs++f) (cs++ds):=by refine⟨by simp[h.1,k.1],λv a=>?_,λi v c b d=>?_⟩;rw[dF] at a;rcases a with a|a;exact h.2.1 v a;exact k.2.1 v a;rw[rA] at b d;rw[h.1] at b;split at b;rename_i e;rw[if_pos e] at d;exact h.2.2 i v c b d;rename_i e;rw[if_neg e] at d;exact k.2.2 _ v c b d
theorem CR.take{vs:List Value}{cs:List AV}(h:CR κ w Y β vs cs)(n:Nat):CR κ w Y β (vs.take n) (cs.take n):=by refine⟨by simp[h.1],λv e=>h.2.1 v (sA e),λi v c a b=>?_⟩;rw[ot] at a b;split at a;rename_i d;rw[if_pos d] at b;exact h.2.2 i v c a b;cases a
theorem CR.drop{vs:List Value}{cs:List AV}(h:CR κ w Y β vs cs)(n:Nat):CR κ w Y β (vs.drop n) (cs.drop n):=by refine⟨by simp[h.1],λv d=>h.2.1 v (CB d),λi v c a b=>?_⟩;rw[mf] at a b;exact h.2.2 _ v c a b
theorem CR.nil:CR κ w Y β [] []:=⟨rfl,λ_ h=>(by simp at h),λ_ _ _ h=>(by simp at h)⟩
theorem CR.rep{vs:List Value}{cs:List AV}(h:CR κ w Y β vs cs)(n:Nat):CR κ w Y β (er n vs).flatten (er n cs).flatten:=by induction n with|zero=>exact CR.nil|succ n a=>simp only[aqZ,aqM];exact h.append a
theorem Ku{v:Value}{x:AV}{cs:List AV}(h:ba κ w Y β v x)(b:eY x=V cs):CR κ w Y β v.cells.toList cs:=by have e:∀x,one x=U->ba κ w Y β v x->CR κ w Y β v.cells.toList [x]:=λx j h=>(by have g:=h.cell j;(have:v.cells.toList=[v]:=by cases v<;>first|rfl|(simp[ir] at g;done));rw[this];refine⟨rfl,λu d=>?_,λi u c d b=>?_⟩;simp only[cE] at d;subst d;exact g;cases i with|zero=>simp only[List.getElem?_cons_zero,bE] at d b;subst d b;exact h|succ i=>simp at d);cases x with|a ds=>simp only[eY,bE] at b;subst b;(cases h with|a k f l=>exact⟨k,f,l⟩)|t ds=>simp[eY] at b|u=>simp[eY] at b|_=>simp only[eY,bE] at b;subst b;exact e _ rfl h
theorem aBi:∀(vs:List Value) (k off:Nat) (a:Array Value),off+k+L vs<=a.size->((vs.zipIdx k).foldl (λ(cs:Array Value) (p:Value×Nat)=>cs.setIfInBounds (off+p.2) p.1) a).toList=a.toList.take (off+k)++vs++a.toList.drop (off+k+L vs):=by intro vs;induction vs with|nil=>intro k off a _;simp|cons v vs b=>intro k off a h;simp only[List.zipIdx_cons,List.foldl_cons];rw[b (k+1) off _ (by simp at h⊢;omega)];simp only[Array.toList_setIfInBounds,bZ] at*;have:=list_seg_step a.toList (off+k) v vs (by simp;omega);rw[show off+(k+1)=off+k+1 by omega,this]
theorem KS{d:Operand->Value}{E:Operand->AV}(q:∀x,ba κ w Y β (d x) (E x)){m:Nat->Option (Nat×Nat)}:∀(a:List (Nat×Operand)) (vs:List Value) (cs e:List AV),CR κ w Y β vs cs->gp m cs (a.map λp=>(p.1,E p.2))=V e->
  ∃g,Instr.fill m vs.toArray (a.map λp=>(p.1,d p.2))=V g.toArray/\CR κ w Y β g e:=by
 intro a
 induction a with
 |nil=>intro vs cs e h b;simp only[List.map_nil,gp,bE] at b;subst b;exact⟨vs,rfl,h⟩
 |cons p a u=>
  intro vs cs e h b
  simp only[ji,gp] at b
  split at b
  ·rename_i off size ys s t
   split at b
   ·rename_i r
    have k:=Ku (q p.2) t
    have i:(d p.2).cells.size=size:=by rw[<-Array.length_toList,k.1];exact r.1
    have v:=h.1
    have f:=aBi (d p.2).cells.toList 0 off vs.toArray (by simp[i];omega)
    simp only[kP] at f
    have l:CR κ w Y β (vs.take off++(d p.2).cells.toList++vs.drop (off+size)) (cs.take off++ys++cs.drop (off+size)):=((h.take off).append k).append (h.drop (off+size))
    obtain⟨g,n,o⟩:=u _ _ _ l b
    refine⟨g,?_,o⟩
    simp only[ji,Instr.fill,s]
    rw[if_neg (by simp[i];omega)]
    rw[<-n]
    congr 1
    rw[<-qb]
    rw[show(Array.foldl (λ(cs:Array Value) (x:Value×Nat)=>match x with|(c,j)=>cs.setIfInBounds (off+j) c) vs.toArray (d p.2).cells.zipIdx)=((d p.2).cells.toList.zipIdx 0).foldl (λ(cs:Array Value) (p:Value×Nat)=>cs.setIfInBounds (off+p.2) p.1) vs.toArray by
     rw[<-Array.foldl_toList,Array.toList_zipIdx]]
    rw[f]
    simp[i]
   ·cases b
  ·cases b
theorem tF{t:TypeId}{zs:List AV}(h:jF P t=V zs):∃(i:TypeInfo) (z:Value),P.info? t=V i/\i.zero=V z/\z.cells.size=i.size/\L zs=i.size/\CR κ w Y β z.cells.toList zs:=by unfold jF at h;split at h;rename_i i e;split at h;rename_i z f;split at h;rename_i b;simp only[bE] at h;subst h;refine⟨i,z,e,f,b.2,by simp[b.2],by simp,λv d=>?_,λk v c d a=>?_⟩;have:=b.1;rw[Array.all_eq_true'] at this;exact this v (by simpa using d);rw[fp,d] at a;simp only[df,bE] at a;subst a;exact KC v;(cases h);(cases h);cases h
theorem Qx{v:Value}{x:AV}(h:ba κ w Y β v x):ba κ w Y β v (gK x):=by cases h with|l0=>exact .l0 (λh=>by cases h)|l1 z p B g l y k D e o hs c m j=>exact .l1 (λh=>by cases h) p B g l y k (λh=>by cases h) e o hs c m j|s h=>exact .s h|u=>exact .u|a d c h=>exact .a d c h|t d h=>exact .t d h|p1 h n z=>exact .p1 h n z|p0 h b=>exact .p0 h b|q p g e o c m j=>exact .q p g e o c m j|m1 h l C i n=>exact .m1 h l C i n|g1 h b=>exact .g1 h b|g0 h b=>exact .g0 h b|m0 h b=>exact .m0 h b|f d r h A=>exact .f d r h A
theorem CR.nrm{vs:List Value}{cs:List AV}(h:CR κ w Y β vs cs):CR κ w Y β vs (cs.map gK):=by refine⟨by simp[h.1],h.2.1,λi v c d a=>?_⟩;rw[fp] at a;cases b:cs[i]? with|none=>rw[b] at a;cases a|some y=>rw[b] at a;simp only[df,bE] at a;subst a;exact Qx (h.2.2 i v y d b)
theorem yo{v:Value}{x:AV}(h:ba κ w Y β v x):ba κ w Y β v (nrm x):=by cases x with|a cs=>simp only[Ab.nrm];(cases h with|a c b d=>have:=CR.nrm ⟨c,b,d⟩;exact .a this.1 this.2.1 this.2.2)|_=>exact Qx h
theorem Rw{t:TypeId}{zs:List AV}(h:rp P t=V zs):∃(i:TypeInfo) (z:Value),P.info? t=V i/\i.zero=V z/\z.cells.size=i.size/\L zs=i.size/\CR κ w Y β z.cells.toList zs:=by unfold rp at h;cases a:jF P t with|none=>rw[a] at h;cases h|some ys=>rw[a] at h;simp only[df,bE] at h;subst h;obtain⟨i,z,b,c,d,e,f⟩:=tF (κ:=κ) (w:=w) (Y:=Y) (β:=β) a;exact⟨i,z,b,c,d,by simp[e],f.nrm⟩
theorem awJ{r:Operand->Value}{E:Operand->AV}(o:∀x,ba κ w Y β (r x) (E x)){t:TypeId}{a:List (Nat×Operand)}{cs:List AV}(h:vS P t (a.map λp=>(p.1,E p.2))=V cs):∃vs:List Value,P.built t (a.map λp=>(p.1,r p.2))=V vs.toArray/\CR κ w Y β vs cs:=by unfold vS at h;split at h;rename_i m k;split at h;rename_i zs q l s;obtain⟨i,z,b,c,_,_,d⟩:=tF (w:=w) (Y:=Y) (β:=β) l;obtain⟨vs,f,g⟩:=KS o a _ _ _ d h;refine⟨vs,?_,g⟩;simp only[Program.built,b,k,c,s];simpa using f;(cases h);rename_i n e k;split at h;rename_i zs z l hs;obtain⟨i,v,b,c,_,_,d⟩:=tF (w:=w) (Y:=Y) (β:=β) l;obtain⟨vs,f,g⟩:=KS o a _ _ _ d h;refine⟨vs,?_,g⟩;unfold fG at hs;(cases j:P.info? e with|none=>rw[j] at hs;cases hs|some u=>rw[j] at hs;simp only[df,bE] at hs;simp only[Program.built,b,k,c,j,hs];simpa using f);(cases h);cases h
theorem alj{size len:Nat}{flat:List AV}{i j:Nat}{x:AV}(h:db (kC size len flat) i j=V x):i<len/\j<size/\flat[i*size+j]?=V x:=by unfold db kC at h;rw[fp] at h;by_cases a:i<len;rw[GH a] at h;simp only[df,ek,ot] at h;split at h;rw[mf] at h;exact⟨a,‹_›,h⟩;(cases h);rw[qi (by simp;omega)] at h;cases h
theorem axf{size len:Nat}{flat:List AV}(c:L flat=len*size):∀r∈kC size len flat,L r=size:=by intro r a;simp only[kC,dN,fq] at a;obtain⟨i,b,rfl⟩:=a;have:i*size+size<=len*size:=(by have:=qo size b;rw[tN] at this;exact this);simp;omega
theorem azT{d:Nat->Option (Nat×Nat)}:∀(a:List (Nat×AV)) (cs b:List AV),gp d cs a=V b->L b=L cs:=by intro a;induction a with|nil=>intro cs b h;simp only[gp,bE] at h;rw[h]|cons p a c=>intro cs b h;obtain⟨i,x⟩:=p;simp only[gp] at h;split at h;split at h;rename_i e;rw[c _ _ h];simp;omega;(cases h);cases h
theorem aFe{o:World}{d size n c:Nat}{e:TypeId}{vs:List Value}{flat:List AV}{rows:List (List AV)}{g own:Bool}(z:¬κ.F d)(B:own=U->κ.base<=d)(u:∀i j x,db rows i j=V x->eN x=U)(q:o.heap[d]?=V (.cells vs.toArray e (0,0)))(E:∀b x,box Y b=V x->β b≠d)(m:CR κ o Y β vs flat)(A:L rows=n)(t:0<n)(p:n<=c)(C:g=U->c=n)(hs:∀r∈rows,L r=size)(f:∀i j x,db rows i j=V x->flat[i*size+j]?=V x):ba κ o Y β (.slice (V ⟨d,0,J⟩) n c) (.l rows g own):=by have s:d<o.heap.size:=(Array.getElem?_eq_some_iff.1 q).1;have a:∀k y,flat[k]?=V y->∃v,vs[k]?=V v:=λk y D=>(by have:=(mg.1 D).1;exact⟨vs[k]'(by rw[m.1];exact this),eC _⟩);refine .l1 B z u (λi j=>vs.getD (i*size+j) (.bool I)) A t p C s E hs (λi j x h=>?_) (λi j x h=>?_) (λi j x h=>?_);obtain⟨v,a⟩:=a _ _ (f i j x h);rw[Df q];simp[a];obtain⟨v,a⟩:=a _ _ (f i j x h);simp only[eI,a,mi];exact m.2.2 _ _ _ a (f i j x h);obtain⟨v,a⟩:=a _ _ (f i j x h);simp only[eI,a,mi];exact m.2.1 v (fC a)
theorem aoe(z:List Value):∀(n k:Nat),k<n*L z->(er n z).flatten[k]?=z[k%L z]?:=by intro n;induction n with|zero=>intro k h;simp at h|succ n b=>intro k h;simp only[aqZ,aqM,rA];split;rename_i a;rw[R8 a];rename_i a;rw[tN] at h;rw[b (k-L z) (by omega),<-Nat.mod_eq_sub_mod (by omega)]
theorem an4(z:List Value)(len:Nat):(Array.range (len*L z)).map (z.toArray[·%z.toArray.size]!)=(er len z).flatten.toArray:=by rw[<-qb];apply List.ext_getElem?;intro k;simp only[Array.toList_map,Array.toList_range,fp,List.size_toArray];by_cases b:k<len*L z;rw[aoe z len k b,GH b];have d:0<L z:=(by rcases oD (L z) with a|a;rw[a] at b;omega;exact a);have c:k%L z<L z:=zw _ d;simp[c];rw[qi (by simp;omega),qi (by simp;omega)];rfl
theorem awI{A:Operand->Value}{E:Operand->AV}(s:cv P κ w Y β)(M:∀x,ba κ w Y β (A x) (E x)){t:TypeId}{len:Nat}{a:List (Nat×Operand)}{rows:List (List AV)}(h:xB P t len (a.map λp=>(p.1,E p.2))=V rows):
  ∃v y,(Instr.buildSlice t len (a.map λp=>(p.1,A p.2)).toArray).run P w= .ok v y/\Below w.heap.size w y/\ba κ y Y β v (.l rows U U):=by
 unfold xB at h
 split at h
 ·rename_i e F
  split at h
  ·rename_i zs S
   split at h
   ·rename_i W
    obtain⟨i,z,B,H,D,d,K⟩:=Rw (w:=w) (Y:=Y) (β:=β) S
    cases k:gp (λi=>V (i*L zs,L zs)) ((er len zs).flatten) (a.map λp=>(p.1,E p.2)) with
    |none=>rw[k] at h;cases h
    |some flat=>
     rw[k] at h
     simp only[ek] at h
     split at h
     ·rename_i r
      simp only[bE] at h
      subst h
      obtain⟨vs,q,C⟩:=KS M a _ _ _ (K.rep len) k
      have m:L flat=len*L zs:=by rw[azT _ _ _ k];simp
      have n:L z.cells.toList=i.size:=by simpa using D
      have c:∀o,Below w.heap.size w (w.alloc o):=λo=>(Below.refl _ _).alloc (dA _) _
      by_cases G:len=0
      ·subst G
       have f:flat=[]:=by simpa using m
       have u:vs=[]:=by have:=C.1;rw[f] at this;simpa using this
       subst f u
       refine⟨.slice (V ⟨w.heap.size,0,J⟩) 0 0,w.alloc (.cells #[] e),?_,c _, .l0 (λ_=>rfl)⟩
       simp only[List.replicate_zero,List.flatten_nil,d] at q
       have hs:(sizeOf e).run P w= .ok i.size w:=by simp[sizeOf,typeInfo,B]
       simp[Instr.buildSlice,run_underlying F,hs,q,newRow,Array.range_zero']
      ·have R:=run_buildSlice (P:=P) w t e len (a.map λp=>(p.1,A p.2)).toArray vs.toArray i z F B H (by rw[<-d];omega) (by rw[<-d];intro O;rcases Nat.mul_eq_zero.1 O with h|h<;>omega) (by
        rw[<-n,show z.cells=z.cells.toList.toArray by simp,an4,n]
        simpa[d] using q)
       refine⟨_,_,R,c _,?_⟩
       have N:=heap_alloc_new w (.cells vs.toArray e)
       exact aFe (e:=e) (flat:=flat) (size:=L zs) (s.new (dA _)).1 (λ_=>(s.new (dA _)).2) (λi j x g=>dV.1 r x (fC (alj g).2.2)) N (λb x g T=>by have:=s.lt g;omega) (C.ext (xJ s (c _))) (by simp[kC]) (by omega) (dA _) (λ_=>rfl) (axf m) (λi j x g=>(alj g).2.2)
     ·cases h
   ·cases h
  ·cases h
 ·cases h
end
def eX(Y:ae)(d:Nat):Bool:=Q (d<L Y)
def mZ(P:Program)(t:TypeId):Nat:=match P.info? t with|some i=>i.bytes|none=>0
def gL(Y:ae):AV->Option (List (List AV))| .l rows _ _=>V rows| .m b n=>(box Y b).bind λx=>if x.var=I then V (x.rows.take n) else J|_=>J
def lx:Nat:=1099511627776
def gi(Y:ae):AV->AV
 | .m b n=>match box Y b with|some x=>if x.var=I then .l (x.rows.take n) I x.own else .m b n|none=> .m b n
 |x=>x
def eR(Y:ae):AV->AV| .a cs=> .a (cs.map (gi Y))|x=>gi Y x
def iR:AV->List Id| .m b _=>[b]|_=>[]
def eB:AV->List Id| .a cs=>cs.flatMap iR|x=>iR x
def kills(Y:ae)(l:List Id):ae:=l.foldl (λY b=>if(box Y b).isSome then kill Y b else Y) Y
def tV(P:Program)(Y:ae)(d:Nat)(t:TypeId)(s x:AV):Option (AV×ae):=
 match P.underlying t with
 |some (.slice e)=>
  match jF P e,gL Y x with
  |some zs,some new=>
   if L new=0 then
    match s with
    | .l rows c own=>V (.l rows c own,Y)
    | .m b n=>(box Y b).map λ_=>(.m b n,Y)
    |_=>J
   else if 0<L zs/\eX Y d=U/\(∀r∈new,L r=L zs) then
    match s with
    | .l rows true _=>
     if(∀r∈rows,L r=L zs)/\(L rows+L new)*(mZ P e+1)<=lx then
      V (.m (bV Y d) (L rows+L new),put Y d ⟨e,L zs,U,I,rows++new⟩)
     else J
    | .m b n=>
     match box Y b with
     |some a=>
      if a.elem=e/\a.var=I/\a.size=L zs/\n<=L a.rows/\(n+L new)*(mZ P e+1)<=lx then
       V (.m (bV Y d) (n+L new),put (kill Y b) d ⟨e,L zs,a.own,I,a.rows.take n++new⟩)
      else J
     |none=>J
    |_=>J
   else J
  |_,_=>J
 |_=>J
def ra(P:Program)(Y:ae)(t:TypeId)(x v:AV):Option ae:=
 match x with
 | .p b i j=>
  match box Y b,eY v with
  |some a,some cs=>
   match a.rows[i]? with
   |some r=>if fG P t=V (L cs)/\j+L cs<=L r/\(a.var=I->cs.all eN=U) then V (wr Y b ⟨a.elem,a.size,a.own,a.var,a.rows.set i (r.take j++cs++r.drop (j+L cs))⟩) else J
   |none=>J
  |_,_=>J
 |_=>J
def o9(Y:ae):AV->Bool
 | .p b _ _=>match box Y b with|some x=>x.var|none=>U
 |_=>U
def isL:AV->Bool| .l _ _ _=>U|_=>I
def uj(zs:List AV):Bool:=zs.any isL
def tz:AV->AV| .l [] _ _=> .l [] U U|x=>x
def mz(zs:List AV):List AV:=bif uj zs then zs.map tz else zs
theorem anv(zs:List AV):L (mz zs)=L zs:=by unfold mz;cases uj zs<;>simp
def wA(P:Program)(Y:ae)(d:Nat)(t:TypeId)(l c:Int):Option (AV×ae):=
 match P.underlying t with
 |some (.slice e)=>
  match rp P e with
  |some zs=>if 0<=l/\l<=c/\0<L zs/\zs.all eN=U/\eX Y d=U/\c*(mZ P e+1)<=lx then V (.m (bV Y d) l.toNat,put Y d ⟨e,L zs,U,uj zs,er l.toNat (mz zs)⟩) else J
  |none=>J
 |_=>J
def oS(t:TypeId)(Y:ae)(d:Nat):Option (AV×ae):=if eX Y d=U then V (.g 0 (bV Y d) 0 0,put Y d ⟨t,0,U,U,[[]]⟩) else J
def n5(c:MT)(Y:ae)(x k v:AV):Option ae:=
 match x,ww c.st k,v with
 | .g 0 b _ _,some kv, .s e=>
  match box Y b with
  |some a=>
   match ul a with
   |some d=>if qR c kv=U then(match lg c kv d 0 with|some none=>V (wr Y b ⟨a.elem,a.size,a.own,a.var,[(d++[(kv,e)]).map lf]⟩)|_=>J) else J
   |none=>J
  |none=>J
 |_,_,_=>J
def tu(Y:ae)(d:Nat)(x:AV):Option (AV×ae):=
 match x with
 | .s (.string s)=>if eX Y d=U then V (.g 1 (bV Y d) 0 0,put Y d ⟨0,0,U,I,[[.s (.string s), .s (.int .i64 0)]]⟩) else J
 |_=>J
def se(Y:ae)(x:AV):Option (AV×ae):=
 match x with
 | .g 1 b _ _=>
  match box Y b with
  |some a=>
   if a.size=0/\a.var=I then
    match a.rows with
    |[[.s (.string s), .s (.int .i64 p)]]=>
     if p.toNat<s.size then V (.t [.s (.bool U), .s (.int .i64 p), .s (.int .i32 (Utf8.decode s p.toNat).1)],wr Y b ⟨a.elem,a.size,a.own,a.var,[[.s (.string s), .s (.int .i64 ((p.toNat+(Utf8.decode s p.toNat).2:Nat):Int))]]⟩)
     else V (.t [.s (.bool I)],Y)
    |_=>J
   else J
  |none=>J
 |_=>J
def xD(P:Program)(t:TypeId):Option Value:=
 match P.underlying t with
 |some (.slice e)=>match(P.info? e).bind (·.zero),fG P e with|some z,some 1=>if sc z=U then V z else J|_,_=>J
 |_=>J
def pA(z:Value)(Y:ae)(x:AV):Option ae:=
 match x with
 | .l [] _ _=>V Y
 | .g 2 b o n=>
  match box Y b with
  |some a=>if a.size=1/\0<n then V (wr Y b ⟨a.elem,a.size,a.own,a.var,a.rows.take o++er n [.s z]++a.rows.drop (o+n)⟩) else J
  |none=>J
 |_=>J
def eA(P:Program)(E:Operand->AV)(Y:ae)(d:Nat):Op->Option (AV×ae)
 | .alloc e=>
  match jF P e with
  |some zs=>if 0<L zs/\eX Y d=U then V (.p (bV Y d) 0 0,put Y d ⟨e,L zs,U,U,[zs]⟩) else J
  |none=>J
 | .box e x=>
  match eY (E x),fG P e with
  |some cs,some z=>if L cs=z/\0<z/\eX Y d=U then V (.p (bV Y d) 0 0,put Y d ⟨e,z,U,U,[cs]⟩) else J
  |_,_=>J
 | .build t b=>(vS P t (b.toList.map λp=>(p.1,E p.2))).map λcs=>(.a cs,Y)
 | .buildSlice t len b=>(xB P t len (b.toList.map λp=>(p.1,nrm (eR Y (E p.2))))).map λrows=>(.l rows U U,kills Y (b.toList.flatMap λp=>eB (E p.2)))
 | .makeSlice t l c=>match E l,E c with| .s (.int _ l), .s (.int _ c)=>wA P Y d t l c|_,_=>J
 | .store t x v=>
  if o9 Y (E x)=U then(ra P Y t (E x) (E v)).map λf=>(.t [],f)
  else(ra P (kills Y (eB (E v))) t (E x) (nrm (eR Y (E v)))).map λf=>(.t [],f)
 | .call c=>
  match c.callee with
  | .builtin .append=>
   match c.args.toList,c.argTypes.toList with
   |[s,x],[t,h]=>if t=h then tV P Y d t (E s) (E x) else J
   |_,_=>J
  | .builtin .clear=>
   match c.args.toList,c.argTypes.toList with
   |[x],[t]=>match xD P t with|some z=>(pA z Y (E x)).map λf=>(.t [],f)|none=>J
   |_,_=>J
  |_=>J
 | .makeMap t r=>match r with|none=>oS t Y d|some _=>J
 | .mapUpdate t x k v=>match r9 P t with|some g=>(n5 g Y (E x) (E k) (E v)).map λf=>(.t [],f)|none=>J
 | .range t x=>match P.underlying t with|some .string=>tu Y d (E x)|_=>J
 | .next x st=>if st=U then se Y (E x) else J
 |_=>J
def ard(P:Program)(κ:ei)(w:World)(Y:ae)(β:Id->Nat)(f:Operand->Value)(o:Oper)(e:AV)(c:ae):Prop:=∃d v b a,(execOp f o).run P w= .ok d b/\(d= .value v\/d= .skip/\v=undef)/\ba κ b c a v e/\cv P κ b c a/\dw w Y β b c a
section
variable{P:Program}{κ:ei}{w:World}{Y:ae}{β:Id->Nat}
theorem te{d:Nat}(h:eX Y d=U):d<L Y:=by simpa[eX] using h
theorem avN{cs:List AV}{i j:Nat}{y:AV}(h:db [cs] i j=V y):i=0/\cs[j]?=V y:=by unfold db at h;cases i with|zero=>simpa using h|succ i=>simp at h
theorem amG{e:TypeId}{zs:List AV}(h:jF P e=V zs):(P.info? e).map (·.size)=V (L zs):=by obtain⟨i,z,a,_,_,b,_⟩:=tF (P:=P) (κ:=⟨λ_=>False,0⟩) (w:=default) (Y:=[]) (β:=λ_=>0) h;simp[a,b]
theorem aB5{e:TypeId}{zs:List AV}(h:rp P e=V zs):(P.info? e).map (·.size)=V (L zs):=by obtain⟨i,z,a,_,_,b,_⟩:=Rw (P:=P) (κ:=⟨λ_=>False,0⟩) (w:=default) (Y:=[]) (β:=λ_=>0) h;simp[a,b]
theorem alw{d:Nat}{e:TypeId}{vs:List Value}{cs:List AV}(s:cv P κ w Y β)(n:eX Y d=U)(a:CR κ w Y β vs cs)(b:0<L cs)(o:(P.info? e).map (·.size)=V (L cs)):∃c,ba κ (w.alloc (.cells vs.toArray e)) (put Y d ⟨e,L cs,U,U,[cs]⟩) c (.pointer (V ⟨w.heap.size,0,J⟩)) (.p (bV Y d) 0 0)/\cv P κ (w.alloc (.cells vs.toArray e)) (put Y d ⟨e,L cs,U,U,[cs]⟩) c/\dw w Y β (w.alloc (.cells vs.toArray e)) (put Y d ⟨e,L cs,U,U,[cs]⟩) c:=by have g:=te n;have k:Below w.heap.size w (w.alloc (.cells vs.toArray e)):=(Below.refl _ _).alloc (dA _) _;refine⟨upd β (bV Y d) w.heap.size,?_,?_,um s k g (dA _)⟩;have:=ba.p1 (κ:=κ) (w:=w.alloc (.cells vs.toArray e)) (β:=upd β (bV Y d) w.heap.size) (i:=0) (j:=0) (iy (x:=⟨e,L cs,U,U,[cs]⟩) g) b rfl;rw[gx] at this;simpa using this;refine Et (cap:=1) (cur:=vs.toArray) s k g (dA _) b o (λr m=>by simp only[cE] at m;rw[m]) (λh=>by cases h) (heap_alloc_new w _) (by simp[a.1]) (by simp) (by simp[maxLen]) (λi j y t=>?_);obtain⟨rfl,l⟩:=avN t;have f:j<L vs:=(by rw[a.1];exact(mg.1 l).1);have q:vs[j]?=V vs[j]:=eC f;exact⟨vs[j],by simp[f],a.2.1 _ (qj _),a.2.2 j _ y q l⟩
theorem aot(w:World)(g:Nat)(cs:Array Value)(k:Nat)(h:k≠g):(w.setRow g cs).heap[k]?=w.heap[k]?:=by simp only[ar9,Array.getElem?_modify];rw[if_neg (λe=>h e.symm)]
theorem aou(w:World)(g:Nat)(cs:Array Value):(w.setRow g cs).heap.size=w.heap.size:=by simp[ar9]
theorem Bn{α:Type}(l ys:List α)(k n:Nat)(h:k+L ys<=L l):(l.take k++ys++l.drop (k+L ys))[n]?=if k<=n/\n<k+L ys then ys[n-k]? else l[n]?:=by rw[rA,rA];simp only[List.length_append,gC];have c:min k (L l)=k:=(by omega);rw[c];by_cases a:n<k;rw[if_pos (by omega),if_pos a,if_neg (by omega),ot,if_pos a];by_cases b:n<k+L ys;rw[if_pos b,if_neg a,if_pos (by omega)];rw[if_neg b,if_neg (by omega),mf];congr 1;omega
theorem aoK{t:TypeId}{vx g:Value}{x v:AV}{O:ae}(s:cv P κ w Y β)(hx:ba κ w Y β vx x)(hv:ba κ w Y β g v)(h:ra P Y t x v=V O):
  ∃W,(Instr.storeAt t vx g).run P w= .ok () W/\cv P κ W O β/\dw w Y β W O β:=by
 unfold ra at h
 split at h
 ·rename_i b i j
  split at h
  ·rename_i a cs z hc
   split at h
   ·rename_i r F
    split at h
    ·rename_i G
     simp only[bE] at h
     subst h
     have o:=Ku hv hc
     have l:=(s.ok b a z).cl (Ei hx z)
     obtain⟨cur,cap,E,h2,h3,h4,X⟩:=l.ex
     have ab:r∈a.rows:=fC F
     have av:=l.rl r ab
     have M:i<L a.rows:=(mg.1 F).1
     have ap:i*a.size+a.size<=cap*a.size:=by
      have:=qo a.size (show i+1<=cap by omega)
      rw[tN] at this;exact this
     have A:L g.cells.toList=L cs:=o.1
     have an:g.cells.size=L cs:=by simpa using A
     have D:=run_storeCells_at P (β b) (i*a.size+j) a.elem g.cells.toList 0 cur w E (by omega) (λu hu=>o.2.1 u hu)
     simp only[kP] at D
     generalize p:(cur.toList.take (i*a.size+j)++g.cells.toList++cur.toList.drop (i*a.size+j+L g.cells.toList)).toArray=d at D
     have S:∀n,d[n]?=if i*a.size+j<=n/\n<i*a.size+j+L cs then g.cells.toList[n-(i*a.size+j)]? else cur[n]?:=by
      intro n
      rw[<-p,RR,Bn _ _ _ _ (by simp;omega),A]
      simp
     have H:d.size=cur.size:=by rw[<-p];simp;omega
     have K:=setRow_heap w (β b) cur d a.elem (0,0) E
     have hw:vM w (w.setRow (β b) d) (β b):=⟨rfl,rfl,rfl,aou _ _ _,λk hk=>aot _ _ _ _ hk⟩
     have C:L (r.take j++cs++r.drop (j+L cs))=a.size:=by simp;omega
     refine⟨w.setRow (β b) d,?_,?_,?_⟩
     ·rw[Eh hx z]
      have ac:(sizeOf t).run P w= .ok (L cs) w:=mN G.1
      have aa:g.cells.size=L cs:=by simpa using A
      simp[Instr.storeAt,Instr.sureAddr,storeVar,ac,aa,D]
     ·refine aox (x:=a) (x':=⟨a.elem,a.size,a.own,a.var,a.rows.set i (r.take j++cs++r.drop (j+L cs))⟩) s z hw rfl rfl rfl (by simp) (λT B=>?_) ?_ E K H h2 h3 h4 (λf e y c=>?_)
      ·rcases CC B with h|h
       ·exact l.rl T h
       ·rw[h];exact C
      ·intro m f e y c
       unfold db at c
       rw[xh] at c
       by_cases q:i=f
       ·subst q
        rw[if_pos rfl,if_pos M] at c
        simp only[ek] at c
        rw[Bn _ _ _ _ G.2.1] at c
        split at c
        ·exact dV.1 (G.2.2 m) y (fC c)
        ·exact l.dt m i e y (by simp[db,F,c])
       ·rw[if_neg q] at c
        exact l.dt m f e y c
      ·dsimp only at c
       have au:f<L a.rows/\e<a.size:=by
        have:=zO (size:=a.size) (λT B=>by
         rcases CC B with h|h
         ·exact l.rl T h
         ·rw[h];exact C) c
        simpa using this
       unfold db at c
       rw[xh] at c
       rw[S]
       by_cases q:i=f
       ·subst q
        rw[if_pos rfl,if_pos M] at c
        simp only[ek] at c
        rw[Bn _ _ _ _ G.2.1] at c
        split at c
        ·rename_i Z
         rw[if_pos (by omega),show i*a.size+e-(i*a.size+j)=e-j by omega]
         have N:e-j<L g.cells.toList:=by omega
         exact⟨_,eC N,o.2.1 _ (qj _),o.2.2 _ _ y (eC N) c⟩
        ·rename_i Z
         rw[if_neg (by omega)]
         exact X i e y (by simp[db,F,c])
       ·rw[if_neg q] at c
        have R:¬(i*a.size+j<=f*a.size+e/\f*a.size+e<i*a.size+j+L cs):=by
         rintro⟨g1,g2⟩
         rcases Nat.lt_or_gt_of_ne q with h|h
         ·have:=qo a.size (show i+1<=f by omega)
          rw[tN] at this;omega
         ·have:=qo a.size (show f+1<=i by omega)
          rw[tN] at this;omega
        rw[if_neg R]
        exact X f e y c
     ·exact KN (x:=a) (x':=⟨a.elem,a.size,a.own,a.var,a.rows.set i (r.take j++cs++r.drop (j+L cs))⟩) s z hw rfl rfl (by simp) E K H
    ·cases h
   ·cases h
  ·cases h
 ·cases h
end
section
variable{P:Program}{κ:ei}{w:World}{Y:ae}{β:Id->Nat}
def tK(κ:ei)(w:World)(Y:ae)(β:Id->Nat)(a off size:Nat)(rows:List (List AV))(vs:List Value):Prop:=L vs=L rows*size/\(∀j u,vs[j]?=V u->w.cell? ⟨a,off+j,J⟩=V u)/\(∀u∈vs,ir u=U)/\∀i j y,db rows i j=V y->∃u,vs[i*size+j]?=V u/\ba κ w Y β u y
theorem alm{rows:List (List AV)}{size i j:Nat}(hs:∀r∈rows,L r=size)(a:i<L rows)(b:j<size):∃y,db rows i j=V y:=by have d:rows[i]?=V rows[i]:=eC a;have c:L (rows[i])=size:=hs _ (qj _);exact⟨(rows[i])[j]'(by omega),by simp[db,d,c,b]⟩
theorem amc{p off n c:Nat}{rows:List (List AV)}{o own:Bool}{size:Nat}(h:ba κ w Y β (.slice (V ⟨p,off,J⟩) n c) (.l rows o own))(hs:∀r∈rows,L r=size)(f:0<size):∃vs,tK κ w Y β p off size rows vs:=by cases h with|l0=>exact⟨[],by simp,λj u h=>(by simp at h),λu h=>(by simp at h),λi j y h=>(by simp[db] at h)⟩|@l1 _ _ n _ a _ _ _ O T N g F H E R M S m D G s=>have x:a=size:=(by cases rows with|nil=>simp at F;omega|cons r W=>rw[<-m r (by simp),hs r (by simp)]);subst x;have B:∀i j,j<a->(i*a+j)/a=i/\(i*a+j)%a=j:=λi j e=>(by constructor;rw[vD,Nat.mul_add_div f,Nat.div_eq_of_lt e,kP];rw[vD,Nat.mul_add_mod,R8 e]);have q:∀k,k<L rows*a->∃y,db rows (k/a) (k%a)=V y:=λk s=>alm m (aq5 (by rw[vD];exact s)) (zw _ f);refine⟨(aH (L rows*a)).map λk=>g (k/a) (k%a),by simp,λj u b=>?_,λu b=>?_,λi j y d=>?_⟩;rw[fp] at b;by_cases e:j<L rows*a;rw[GH e] at b;simp only[df,bE] at b;subst b;obtain⟨y,d⟩:=q j e;have:=D _ _ y d;rw[show off+j/a*a+j%a=off+j by have:=aq4 j a;rw[vD] at this;omega] at this;exact this;rw[qi (by simp;omega)] at b;cases b;simp only[dN,fq] at b;obtain⟨k,t,rfl⟩:=b;obtain⟨y,d⟩:=q k t;exact s _ _ y d;obtain⟨K,C⟩:=zO m d;obtain⟨z,A⟩:=B i j C;have v:i*a+j<L rows*a:=(by have:=qo a (show i+1<=L rows by omega);rw[tN] at this;omega);refine⟨g i j,?_,G i j y d⟩;rw[fp,GH v,df,z,A]
theorem KY{b:Id}{n:Nat}{a:bY}(s:cv P κ w Y β)(D:box Y b=V a)(x:0<a.size)(E:n<=L a.rows):∃cur cap vs,w.heap[β b]?=V (.cells cur a.elem (0,0))/\cur.size=cap*a.size/\L a.rows<=cap/\cap<=maxLen/\vs=cur.toList.take (n*a.size)/\tK κ w Y β (β b) 0 a.size (a.rows.take n) vs:=by have d:=(s.ok b a D).cl x;obtain⟨cur,cap,m,o,B,C,p⟩:=d.ex;have G:n*a.size<=cur.size:=(by rw[o];exact qo _ (by omega));have z:∀r∈a.rows.take n,L r=a.size:=λr h=>d.rl r (sA h);have q:∀i j y,db (a.rows.take n) i j=V y->db a.rows i j=V y:=λi j y c=>(by unfold db at*;rw[ot] at c;split at c;exact c;cases c);refine⟨cur,cap,_,m,o,B,C,rfl,by rw[gC,gC,rD E];simp;omega,λj u e=>?_,λu e=>?_,λi j y c=>?_⟩;rw[ot] at e;split at e;rw[aj,Df m];simpa using e;(cases e);obtain⟨k,f⟩:=aqN e;rw[ot] at f;split at f;rename_i t;have g:=aq4 k a.size;have F:k/a.size<n:=aq5 (by rw[vD];exact t);obtain⟨y,c⟩:=alm (i:=k/a.size) (j:=k%a.size) (λr h=>d.rl r h) (by omega) (zw _ d.pos);obtain⟨v,g1,l,_⟩:=p _ _ y c;rw[show k/a.size*a.size+k%a.size=k by rw[vD] at g;omega] at g1;have:V u=V v:=(by rw[<-f,<-g1];simp);simp only[bE] at this;rw[this];exact l;(cases f);obtain⟨v,g1,l,A⟩:=p i j y (q i j y c);obtain⟨l1,H⟩:=zO z c;refine⟨v,?_,A⟩;rw[ot];have:i*a.size+j<n*a.size:=(by have:=qo a.size (show i+1<=n by simp at l1;omega);rw[tN] at this;omega);rw[if_pos this];simpa using g1
theorem tK.rows{size l off e g:Nat}{rows a:List (List AV)}{vs n:List Value}(h:tK κ w Y β l off size rows vs)(k:tK κ w Y β e g size a n)(hs:∀r∈rows,L r=size)(p:∀r∈a,L r=size):∀i j y,db (rows++a) i j=V y->∃u,(vs++n)[i*size+j]?=V u/\ir u=U/\ba κ w Y β u y:=by intro i j y d;unfold db at d;rw[rA] at d;split at d;rename_i o;have b:db rows i j=V y:=d;obtain⟨l1,q⟩:=zO hs b;obtain⟨u,c,f⟩:=h.2.2.2 i j y b;have m:=(mg.1 c).1;exact⟨u,by rw[List.getElem?_append_left m];exact c,h.2.2.1 u (fC c),f⟩;rename_i o;have b:db a (i-L rows) j=V y:=d;obtain⟨u,c,f⟩:=k.2.2.2 _ j y b;refine⟨u,?_,k.2.2.1 u (fC c),f⟩;rw[List.getElem?_append_right (by rw[h.1];have:=qo size (show L rows<=i by omega);omega),h.1];rw[show i*size+j-L rows*size=(i-L rows)*size+j by rw[Nat.sub_mul];have:=qo size (show L rows<=i by omega);omega];exact c
theorem aoG{v:Value}{x:AV}{new:List (List AV)}{size:Nat}(s:cv P κ w Y β)(f:ba κ w Y β v x)(h:gL Y x=V new)(hs:∀r∈new,L r=size)(k:0<size)(e:0<L new):∃d off c m,v= .slice (V ⟨d,off,J⟩) (L new) c/\tK κ w Y β d off size new m:=by unfold gL at h;split at h;rename_i rows t own;simp only[bE] at h;subst h;obtain⟨vs,q⟩:∃d off c,v= .slice (V ⟨d,off,J⟩) (L rows) c:=(by cases f with|l0=>simp at e|l1 G H F g i=>subst i;exact⟨_,_,_,rfl⟩);obtain⟨off,c,rfl⟩:=q;obtain⟨A,p⟩:=amc f hs k;exact⟨_,_,_,A,rfl,p⟩;rename_i b n;(cases a:box Y b with|none=>rw[a] at h;cases h|some j=>rw[a] at h;simp only[ek] at h;split at h<;>simp only[bE,reduceCtorEq] at h;subst h;obtain⟨cap,cur,rfl,i,_⟩:=oR f a;obtain⟨y,u,vs,B,C,D,E,rfl,o⟩:=KY s a (nZ f a) i;have z:j.size=size:=(by cases l:j.rows.take n with|nil=>rw[l] at e;simp at e|cons r K=>rw[<-((s.ok b j a).cl (nZ f a)).rl r (sA (by rw[l];simp)),hs r (by rw[l];simp)]);rw[z] at o;exact⟨β b,0,cap,_,by rw[gC,rD i],o⟩);cases h
theorem QY{n b:Nat}(h:n*(b+1)<=lx):n<=maxLen/\n*b<=140737488355328:=by rw[Nat.mul_add,zx] at h;simp only[lx,maxLen] at*;omega
theorem QE{b:World}{a e size n:Nat}{v:Value}{xs:List Value}(h:b.ownsRow a e size v n xs)(f:0<n):∃g cap cur,v= .slice (V ⟨g,0,J⟩) n cap/\a<=g/\b.heap[g]?=V (.cells cur e (0,0))/\n<=cap/\cap<=maxLen/\cur.size=cap*size/\cur.toList.take (n*size)=xs:=by rcases h.2 with⟨_,d⟩|c;omega;exact c
theorem aH3{g:Value}{y:AV}{new:List (List AV)}(f:ba κ w Y β g y)(a:gL Y y=V new)(d:L new=0):∃A c,g= .slice A 0 c:=by cases y with|l rows h own=>simp only[gL,bE] at a;subst a;obtain⟨A,c,rfl,_⟩:=AJ f;rw[d];exact⟨A,c,rfl⟩|m b n=>simp only[gL] at a;(cases e:box Y b with|none=>rw[e] at a;cases a|some j=>rw[e] at a;simp only[ek] at a;split at a<;>simp only[bE,reduceCtorEq] at a;subst a;obtain⟨cap,cur,rfl,i,_⟩:=oR f e;rw[gC,rD i] at d;subst d;exact⟨_,_,rfl⟩)|_=>simp[gL] at a
theorem ana{A:Option Addr}{n c:Nat}{rows:List (List AV)}{a own:Bool}(hs:ba κ w Y β (.slice A n c) (.l rows a own)):rows=[]\/∃b o,A=V ⟨b,o,J⟩:=by cases hs with|l0=>exact .inl rfl|l1=>exact .inr ⟨_,_,rfl⟩
theorem alR{v:Value}{rows:List (List AV)}{a own:Bool}(h:ba κ w Y β v (.l rows a own)):∀i j y,db rows i j=V y->eN y=U:=by cases h with|l0=>intro i j y c;simp[db] at c|l1 d e b=>exact b
theorem Dh{v:Value}{x:AV}{rows:List (List AV)}(s:cv P κ w Y β)(h:ba κ w Y β v x)(a:gL Y x=V rows):∀i j y,db rows i j=V y->eN y=U:=by cases x with|l e f own=>simp only[gL,bE] at a;subst a;exact alR h|m b n=>simp only[gL] at a;(cases c:box Y b with|none=>rw[c] at a;cases a|some g=>rw[c] at a;simp only[ek] at a;split at a;rename_i k;simp only[bE] at a;subst a;intro i j y d;refine((s.ok b g c).cl (nZ h c)).dt k i j y ?_;unfold db at*;rw[ot] at d;split at d;exact d;(cases d);cases a)|_=>simp[gL] at a
theorem alQ{a b:List (List AV)}(d:∀i j y,db a i j=V y->eN y=U)(e:∀i j y,db b i j=V y->eN y=U):∀i j y,db (a++b) i j=V y->eN y=U:=by intro i j y c;unfold db at c;rw[rA] at c;split at c;exact d i j y c;exact e _ j y c
theorem avx{t ty e:TypeId}{d:Nat}{vs vx:Value}{rows new:List (List AV)}{zs:List AV}{own:Bool}{y:AV}(s:cv P κ w Y β)(hs:ba κ w Y β vs (.l rows U own))(hx:ba κ w Y β vx y)(q:P.underlying t=V (.slice e))(hz:jF P e=V zs)(S:gL Y y=V new)
  (az:0<L new)(p:0<L zs)(ab:eX Y d=U)(O:∀r∈new,L r=L zs)(ax:(∀r∈rows,L r=L zs)/\(L rows+L new)*(mZ P e+1)<=lx):
  ∃v f Z,(Builtin.append_ #[t,t] ty #[vs,vx]).run P w= .ok v f/\ba κ f (put Y d ⟨e,L zs,U,I,rows++new⟩) Z v (.m (bV Y d) (L rows+L new))/\cv P κ f (put Y d ⟨e,L zs,U,I,rows++new⟩) Z/\dw w Y β f (put Y d ⟨e,L zs,U,I,rows++new⟩) Z:=by
 obtain⟨i,z,hi,ae,ak,G,_⟩:=tF (κ:=κ) (w:=w) (Y:=Y) (β:=β) hz
 have N:=te ab
 obtain⟨H,off,cx,C,rfl,o⟩:=aoG s hx S O p az
 have R:L C=L new*L zs:=o.1
 have av:mZ P e=i.bytes:=by simp[mZ,hi]
 obtain⟨T,ah⟩:=ax
 rw[av] at ah
 obtain⟨af,ag⟩:=QY ah
 obtain⟨A,c,rfl,hc,ay⟩:=AJ hs
 have aw:=ay rfl
 subst aw
 have aE:∃b E f,(Builtin.append_ #[t,t] ty #[.slice A (L rows) (L rows), .slice (V ⟨H,off,J⟩) (L new) cx]).run P w= .ok E f/\f.ownsRow w.heap.size e (L zs) E (L rows+L new) (b++C)/\w.grownBy f J/\
   (∃D o',tK κ w Y β D o' (L zs) rows b):=by
  cases A with
  |none=>
   have aB:rows=[]:=by
    rcases ana hs with h|⟨_,_,h⟩
    ·exact h
    ·cases h
   subst aB
   obtain⟨E,f,W,X,B,_⟩:=run_append_own (P:=P) w w.heap.size t ty e i z (L zs) i.bytes q hi ae G.symm rfl (by rw[ak,G]) p (.slice J 0 0) 0 [] (World.ownsRow_nil w _ _ _) ⟨H,off,J⟩ (L new) cx C R
    (λj u q=>by rw[kT];exact o.2.1 j u q) (λu q=>o.2.2.1 u q) (by simpa using af) (by simpa using ag) (dA _)
   refine⟨[],E,f,W,by simpa using X,by simpa[Value.ownBlock] using B,0,0,by simp,λj u h=>(by simp at h),λu h=>(by simp at h),λi j y h=>(by simp[db] at h)⟩
  |some a=>
   have ha:∃D o',a=⟨D,o',J⟩\/rows=[]:=by
    rcases ana hs with h|⟨D,o',h⟩
    ·exact⟨0,0, .inr h⟩
    ·exact⟨D,o', .inl (by simpa using h)⟩
   obtain⟨D,o',ha⟩:=ha
   have ac:∃b,(∃D o',tK κ w Y β D o' (L zs) rows b)/\∀j u,b[j]?=V u->w.cell? (a.add j)=V u:=by
    rcases ha with rfl|rfl
    ·obtain⟨b,ho⟩:=amc hs T p
     exact⟨b,⟨_,_,ho⟩,λj u q=>by rw[kT];exact ho.2.1 j u q⟩
    ·exact⟨[],⟨0,0,by simp,λj u h=>(by simp at h),λu h=>(by simp at h),λi j y h=>(by simp[db] at h)⟩,λj u h=>(by simp at h)⟩
   obtain⟨b,⟨b1,o1,F⟩,aa⟩:=ac
   obtain⟨E,f,W,X,B⟩:=run_append_arg_grows (P:=P) w t ty e i z (L zs) i.bytes q hi ae G.symm rfl (by rw[ak,G]) p a (L rows) (L rows) b F.1 aa ⟨H,off,J⟩ (L new) cx C R (λj u q=>by rw[kT];exact o.2.1 j u q) (by omega) af ag
   exact⟨b,E,f,W,X,B,b1,o1,F⟩
 obtain⟨b,E,f,W,X,B,b1,o1,F⟩:=aE
 obtain⟨g,cap,cur,rfl,g1,g2,g3,g4,g5,g6⟩:=QE X (by omega)
 have K:Below w.heap.size w f:=⟨B.os,B.tape,B.output,B.size,λk hk=>B.block k hk (by simp)⟩
 have ad:∀r∈rows++new,L r=L zs:=λr S=>by rw[dF] at S;rcases S with h|h;exact T r h;exact O r h
 have M:=F.rows o T O
 have an:I=I->∀i j y,db (rows++new) i j=V y->eN y=U:=λ_=>alQ (alR hs) (Dh s hx S)
 have ap:cv P κ f (put Y d ⟨e,L zs,U,I,rows++new⟩) (upd β (bV Y d) g):=by
  refine Et (cap:=cap) (cur:=cur) s K N g1 p (amG hz) ad an g2 g5 (by simp;omega) g4 (λi j y hy=>?_)
  obtain⟨u,u1,u2,u3⟩:=M i j y hy
  rw[<-g6,ot] at u1
  split at u1
  ·exact⟨u,by simpa using u1,u2,u3⟩
  ·cases u1
 refine⟨_,f,upd β (bV Y d) g,W,?_,ap,um s K N g1⟩
 have:=ba.m1 (κ:=κ) (w:=f) (β:=upd β (bV Y d) g) (n:=L rows+L new) (cap:=cap) (cur:=cur) (iy (Y:=Y) (x:=⟨e,L zs,U,I,rows++new⟩) N) (by simp) (by rw[gx];exact g2) g5 p
 rw[gx] at this
 exact this
theorem avy{t ty:TypeId}{d n:Nat}{vs vx:Value}{new:List (List AV)}{zs:List AV}{b:Id}{a:bY}{y:AV}(s:cv P κ w Y β)(hs:ba κ w Y β vs (.m b n))(hx:ba κ w Y β vx y)(o:box Y b=V a)(p:P.underlying t=V (.slice a.elem))(hz:jF P a.elem=V zs)(C:gL Y y=V new)
  (aF:0<L new)(B:0<L zs)(ae:eX Y d=U)(S:∀r∈new,L r=L zs)(av:a.var=I)(ay:a.size=L zs/\n<=L a.rows/\(n+L new)*(mZ P a.elem+1)<=lx):
  ∃v e aa,(Builtin.append_ #[t,t] ty #[vs,vx]).run P w= .ok v e/\ba κ e (put (kill Y b) d ⟨a.elem,L zs,a.own,I,a.rows.take n++new⟩) aa v (.m (bV Y d) (n+L new))/\cv P κ e (put (kill Y b) d ⟨a.elem,L zs,a.own,I,a.rows.take n++new⟩) aa/\dw w Y β e (put (kill Y b) d ⟨a.elem,L zs,a.own,I,a.rows.take n++new⟩) aa:=by
 obtain⟨i,z,hi,aB,aI,X,_⟩:=tF (κ:=κ) (w:=w) (Y:=Y) (β:=β) hz
 have R:=te ae
 obtain⟨H,off,cx,q,rfl,l⟩:=aoG s hx C S B aF
 have T:L q=L new*L zs:=l.1
 have ax:mZ P a.elem=i.bytes:=by simp[mZ,hi]
 obtain⟨f,hn,al⟩:=ay
 rw[ax] at al
 obtain⟨aC,aD⟩:=QY al
 obtain⟨c,A,rfl,_,hh,N⟩:=oR hs o
 obtain⟨aL,an,aV,f1,f2,f3,f4,rfl,hf⟩:=KY s o (nZ hs o) hn
 rw[hh] at f1
 simp only[bE,Obj.cells.injEq,and_true] at f1
 subst f1
 have az:c=an:=aq6 (nZ hs o) (by rw[<-N,<-f2])
 subst az
 have W:w.ownsRow 0 a.elem (L zs) (.slice (V ⟨β b,0,J⟩) n c) n (A.toList.take (n*a.size)):=by
  refine⟨by rw[<-f,hf.1,gC,rD hn], .inr ⟨β b,c,A,rfl,Nat.zero_le _,hh,by omega,f4,by rw[<-f];exact N,by rw[f]⟩⟩
 have aJ:∃v' e g cap cur,(Builtin.append_ #[t,t] ty #[.slice (V ⟨β b,0,J⟩) n c, .slice (V ⟨H,off,J⟩) (L new) cx]).run P w= .ok v' e/\v'= .slice (V ⟨g,0,J⟩) (n+L new) cap/\w.grownBy e (V (β b))/\(w.heap.size<=g\/g=β b)/\
   e.heap[g]?=V (.cells cur a.elem (0,0))/\n+L new<=cap/\cap<=maxLen/\cur.size=cap*L zs/\cur.toList.take ((n+L new)*L zs)=A.toList.take (n*a.size)++q:=by
  by_cases af:n+L new<=c
  ·obtain⟨e,Z,k2,D⟩:=run_append_fits (P:=P) w 0 t ty a.elem i (L zs) p hi X.symm (β b) n c _ W ⟨H,off,J⟩ (L new) cx q T (λj u p=>by rw[kT];exact l.2.1 j u p) (λu p=>l.2.2.1 u p) af
   obtain⟨g,cap,cur,e1,g1,E,g3,K,F,G⟩:=QE k2 (by omega)
   simp only[Value.slice.injEq,bE,Addr.mk.injEq,and_true,true_and] at e1
   obtain⟨e1,e2⟩:=e1
   subst e1 e2
   exact⟨_,e,β b,c,cur,Z,rfl,D, .inr rfl,E,g3,K,F,G⟩
  ·obtain⟨v',e,Z,k2,D⟩:=run_append_arg_grows (P:=P) w t ty a.elem i z (L zs) i.bytes p hi aB X.symm rfl (by rw[aI,X]) B ⟨β b,0,J⟩ n c _ W.1 (λj u p=>by rw[kT];exact hf.2.1 j u p) ⟨H,off,J⟩ (L new) cx q T (λj u p=>by rw[kT];exact l.2.1 j u p) (by omega) aC aD
   obtain⟨g,cap,cur,rfl,g1,E,g3,K,F,G⟩:=QE k2 (by omega)
   exact⟨_,e,g,cap,cur,Z,rfl,⟨D.os,D.tape,D.output,D.size,λk hk _=>D.block k hk (by simp)⟩, .inl g1,E,g3,K,F,G⟩
 obtain⟨v',e,g,cap,cur,Z,rfl,ak,M,E,g3,K,F,G⟩:=aJ
 have am:∀r∈a.rows.take n,L r=L zs:=λr C=>by rw[<-f];exact((s.ok b a o).cl (nZ hs o)).rl r (sA C)
 rw[f] at hf
 have O:=hf.rows l am S
 have aq:I=I->∀i j y,db (a.rows.take n++new) i j=V y->eN y=U:=λ_=>alQ (Dh (rows:=a.rows.take n) s hs (by simp[gL,o,av])) (Dh s hx C)
 have ag:∀r∈a.rows.take n++new,L r=a.size:=λr C=>by rw[f];rw[dF] at C;rcases C with h|h;exact am r h;exact S r h
 have au:cv P κ e (put (kill Y b) d ⟨a.elem,L zs,a.own,I,a.rows.take n++new⟩) (upd β (bV Y d) g):=by
  refine aIi (x:=a) (x':=⟨a.elem,L zs,a.own,I,a.rows.take n++new⟩) (cap:=cap) (cur:=cur) s o R ak M f.symm rfl rfl ag aq (nZ hs o) E (by rw[f];exact F) (by simp;omega) K (λi j y hy=>?_)
  obtain⟨u,u1,u2,u3⟩:=O i j y hy
  rw[f] at G
  rw[<-G,ot] at u1
  split at u1
  ·exact⟨u,by rw[f];simpa using u1,u2,u3⟩
  ·cases u1
 refine⟨_,e,upd β (bV Y d) g,Z,?_,au,al1 s o R ak M⟩
 have:=ba.m1 (κ:=κ) (w:=e) (β:=upd β (bV Y d) g) (n:=n+L new) (cap:=cap) (cur:=cur) (awB (x':=⟨a.elem,L zs,a.own,I,a.rows.take n++new⟩) o R) (by simp;omega) (by rw[gx];exact E) F B
 rw[gx] at this
 exact this
theorem avw{t ty:TypeId}{d:Nat}{vs X:Value}{x y O:AV}{D:ae}(s:cv P κ w Y β)(hs:ba κ w Y β vs x)(M:ba κ w Y β X y)(h:tV P Y d t x y=V (O,D)):∃v E C,(Builtin.append_ #[t,t] ty #[vs,X]).run P w= .ok v E/\ba κ E D C v O/\cv P κ E D C/\dw w Y β E D C:=by unfold tV at h;cases B:P.underlying t with|none=>simp[B] at h|some R=>(cases R<;>simp only[B] at h<;>first|(cases h;done)|skip);rename_i e;cases k:jF P e with|none=>simp[k] at h|some zs=>cases u:gL Y y with|none=>simp[k,u] at h|some new=>simp only[k,u] at h;by_cases G:L new=0;rw[if_pos G] at h;obtain⟨i,z,hi,ad,ag,af,_⟩:=tF (κ:=κ) (w:=w) (Y:=Y) (β:=β) k;have W:(sizeOf e).run P w= .ok i.size w:=(by simp[sizeOf,typeInfo,hi]);obtain⟨N,cx,rfl⟩:=aH3 M u G;have f:∀(A:Option Addr) (n c:Nat),n<=c->(Builtin.append_ #[t,t] ty #[.slice A n c, .slice N 0 cx]).run P w= .ok (.slice A n c) w:=(by intro A n c T;cases A<;>cases N<;>simp[Builtin.append_,run_underlying B,W,Builtin.lenOf,T,Builtin.firstCells,loadCells,loadCellsFrom,storeCells]);(cases x with|l rows j own=>simp only[bE,iK] at h;obtain⟨rfl,rfl⟩:=h;obtain⟨A,c,rfl,o,_⟩:=AJ hs;exact⟨_,w,β,f A _ c o,hs,s,dw.refl _ _ _⟩|m b n=>simp only at h;(cases a:box Y b with|none=>rw[a] at h;cases h|some Z=>rw[a] at h;simp only[df,bE,iK] at h;obtain⟨rfl,rfl⟩:=h;obtain⟨cap,cur,rfl,hn,hh,H⟩:=oR hs a;have:=zT s a hh H;exact⟨_,w,β,f _ _ _ (by omega),hs,s,dw.refl _ _ _⟩)|_=>simp at h);rw[if_neg G] at h;by_cases o:0<L zs/\eX Y d=U/\(∀r∈new,L r=L zs);rw[if_pos o] at h;obtain⟨q,g,F⟩:=o;(cases x with|l rows j own=>(cases j with|false=>simp at h|true=>simp only at h;split at h;rename_i S;simp only[bE,iK] at h;obtain⟨rfl,rfl⟩:=h;exact avx s hs M B k u (by omega) q g F S;cases h)|m b n=>simp only at h;(cases a:box Y b with|none=>rw[a] at h;cases h|some Z=>rw[a] at h;simp only at h;split at h;rename_i p;simp only[bE,iK] at h;obtain⟨rfl,rfl⟩:=h;obtain⟨rfl,K,p⟩:=p;exact avy s hs M a B k u (by omega) q g F K p;cases h)|_=>simp at h);rw[if_neg o] at h;cases h
end
section
variable{P:Program}{κ:ei}{w:World}{Y:ae}{β:Id->Nat}
theorem CX(w:World)(o:Obj):Below w.heap.size w (w.alloc o):=(Below.refl _ _).alloc (dA _) _
theorem ak8(w:World)(o:Obj):(w.alloc o).heap[w.heap.size]?=V o:=(MapKept.heap_alloc w o).1
theorem aop(o:Obj):(newObj o).run P w= .ok w.heap.size (w.alloc o):=rfl
theorem aD5{t:TypeId}{d:Nat}{f:AV}{b:ae}(s:cv P κ w Y β)(h:oS t Y d=V (f,b)):∃v c a,(Instr.makeMap t J).run P w= .ok v c/\ba κ c b a v f/\cv P κ c b a/\dw w Y β c b a:=by unfold oS at h;split at h;rename_i g;simp only[bE,iK] at h;obtain⟨rfl,rfl⟩:=h;have e:=te g;refine⟨.map (V w.heap.size),w.alloc (.map #[] 0),upd β (bV Y d) w.heap.size,?_,?_,?_,?_⟩;simp[Instr.makeMap,aop];exact .g1 (iy e) (.inl ⟨rfl,rfl,by rw[gx]⟩);exact aow s (CX _ _) e (dA _) rfl (.inl ⟨rfl,[],rfl,rfl,by rw[ak8];rfl⟩);exact um s (CX _ _) e (dA _);cases h
theorem aDt(p:Value×Value):∀(a:List (Value×Value)) (j:Nat),oQ j (a++[p])=oQ j a++[⟨p.1,p.2,j+L a⟩]:=by intro a;induction a with|nil=>intro j;rfl|cons q a b=>intro j;simp only[List.cons_append,oQ,b,bZ];rw[show j+1+L a=j+(L a+1) by omega]
theorem apL{b:Nat}{o o':Obj}(h:w.heap[b]?=V o):vM w {w with heap:=w.heap.setIfInBounds b o'} b/\(w.heap.setIfInBounds b o')[b]?=V o':=⟨⟨rfl,rfl,rfl,by simp,λi a=>(MapKept.heap_set h).2 i a⟩,(MapKept.heap_set h).1⟩
theorem aD9{t:TypeId}{E:MT}{F a c:Value}{x k v:AV}{l:ae}(s:cv P κ w Y β)(M:r9 P t=V E)(S:ba κ w Y β F x)(K:ba κ w Y β a k)(R:ba κ w Y β c v)(h:n5 E Y x k v=V l):∃o,(Instr.mapUpdate t F a c).run P w= .ok () o/\cv P κ o l β/\dw w Y β o l β:=by obtain⟨T,e,i,O,W,hz,X,A⟩:=ano M;unfold n5 at h;split at h;rename_i b _ _ kv Z y;split at h;rename_i bx d;split at h;rename_i m r;split at h;rename_i g;split at h;rename_i H;simp only[bE] at h;subst h;obtain⟨rfl,q⟩:=amp S d;obtain⟨n,z,_,C,j⟩:=alT s d r;obtain⟨rfl,f⟩:=am5 K y;obtain⟨rfl,B⟩:=R.s_inv;have G:∀p,(Instr.checkKey p 10000 T a).run P w= .ok () w:=λp=>alL (t:=t) (e:=e) A g;have u:=KV (w:=w) A g f z H;obtain⟨D,N⟩:=apL (o':= .map (oQ 0 (m++[(a,c)])).toArray (L (m++[(a,c)]))) n;refine⟨_,?_,aoy s d D q rfl rfl (by rw[j];rfl) rfl (.inl ⟨C,m++[(a,c)],rfl,?_,N⟩),KO s d D q rfl rfl (by rw[j];rfl)⟩;simp[Instr.mapUpdate,run_underlying O,MapKept.run_getObj_map n,G,u,MapKept.run_setObj_map _ n,aDt];simp only[List.all_append,z,Cs,List.all_nil,uK,B,f,Bool.and_true];(cases h);(cases h);(cases h);(cases h);cases h
theorem aFk{t:TypeId}{d:Nat}{i:Value}{x g:AV}{b:ae}(s:cv P κ w Y β)(k:P.underlying t=V .string)(l:ba κ w Y β i x)(h:tu Y d x=V (g,b)):∃v c a,(Instr.range t i).run P w= .ok v c/\ba κ c b a v g/\cv P κ c b a/\dw w Y β c b a:=by unfold tu at h;split at h;rename_i e;split at h;rename_i j;simp only[bE,iK] at h;obtain⟨rfl,rfl⟩:=h;have f:=te j;obtain⟨rfl,_⟩:=l.s_inv;refine⟨.pointer (V ⟨w.heap.size,0,J⟩),w.alloc (.stringIter e 0),upd β (bV Y d) w.heap.size,?_,?_,?_,?_⟩;simp[Instr.range,run_underlying k,aop];exact .g1 (iy f) (.inr (.inl ⟨rfl,rfl,by rw[gx]⟩));exact aow s (CX _ _) f (dA _) rfl (.inr ⟨rfl,e,0,rfl,by rw[ak8]⟩);exact um s (CX _ _) f (dA _);(cases h);cases h
theorem aoo{r:Nat}{a:ByteArray}{p:Nat}(b:w.heap[r]?=V (.stringIter a p)):(getObj r).run P w= .ok (.stringIter a p) w:=by simp[getObj,Sem.run,b]
theorem aIb{r:Nat}{a:ByteArray}{p:Nat}(o:Obj)(b:w.heap[r]?=V (.stringIter a p)):(setObj r o).run P w= .ok () {w with heap:=w.heap.setIfInBounds r o}:=by simp[setObj,Sem.run,b]
theorem aEz{t:TypeId}{y:Value}{x q:AV}{k:ae}(s:cv P κ w Y β)(B:ba κ w Y β y x)(h:se Y x=V (q,k)):∃v o,(Instr.next y U t).run P w= .ok v o/\ba κ o k β v q/\cv P κ o k β/\dw w Y β o k β:=by unfold se at h;split at h;rename_i b _ _;split at h;rename_i z l;split at h;rename_i p;obtain⟨rfl,r⟩:=aBu B l;rcases(s.ok b z l).sp p.1 with⟨a,_⟩|⟨_,f,d,j,m⟩;rw[p.2] at a;cases a;rw[j] at h;simp only[Int.toNat_natCast] at h;split at h;rename_i g;simp only[bE,iK] at h;obtain⟨rfl,rfl⟩:=h;obtain⟨u,A⟩:=apL (o':= .stringIter f (d+(Utf8.decode f d).2)) m;refine⟨.tuple #[.bool U, .int .i64 d, .int .i32 (Utf8.decode f d).1],_,?_,?_,aoy s l u r rfl rfl (by rw[j];rfl) rfl (.inr ⟨p.2,f,_,rfl,A⟩),KO s l u r rfl rfl (by rw[j];rfl)⟩;simp[Instr.next,aoo m,g,aIb _ m,goInt];refine .t (vs:=[.bool U, .int .i64 d, .int .i32 (Utf8.decode f d).1]) rfl (λi v c a e=>?_);(match i with|0=>simp at a e;subst a;subst e;exact .s rfl|1=>simp at a e;subst a;subst e;exact .s rfl|2=>simp at a e;subst a;subst e;exact .s rfl|n+3=>simp at a);rename_i g;simp only[bE,iK] at h;obtain⟨rfl,rfl⟩:=h;refine⟨.tuple #[.bool I],w,?_,?_,s,dw.refl _ _ _⟩;simp[Instr.next,aoo m,g];refine .t (vs:=[.bool I]) rfl (λi v c a e=>?_);(match i with|0=>simp at a e;subst a;subst e;exact .s rfl|n+1=>simp at a);(cases h);(cases h);cases h
theorem axm{t:TypeId}{z:Value}(h:xD P t=V z):∃e i,P.underlying t=V (.slice e)/\P.info? e=V i/\i.zero=V z/\i.size=1/\sc z=U:=by unfold xD at h;split at h;rename_i e d;(cases a:P.info? e with|none=>rw[a] at h;cases h|some i=>rw[a] at h;simp only[ek] at h;split at h;rename_i f c b;split at h;(cases h);simp only[fG,a,df,bE] at b;exact⟨e,i,d,a,c,b,‹_›⟩;(cases h);cases h);cases h
theorem aIe{z:Value}(h:sc z=U):z.cells=#[z]:=by cases z<;>first|rfl|(simp[sc] at h;done)
theorem aNl(z:Value)(n:Nat):Builtin.zeroCells #[z] n=(er n z).toArray:=by apply Array.ext;simp[Builtin.zeroCells];intro i a b;simp[Builtin.zeroCells,Nat.mod_one]
theorem axh{t:TypeId}{z vx:Value}{x:AV}{O:ae}{ty:TypeId}(s:cv P κ w Y β)(ht:xD P t=V z)(hx:ba κ w Y β vx x)(h:pA z Y x=V O):∃Z,(Builtin.clear_ #[t] ty #[vx]).run P w= .ok (.tuple #[]) Z/\cv P κ Z O β/\dw w Y β Z O β:=by obtain⟨e,i,F,hi,hz,aw,hs⟩:=axm ht;unfold pA at h;split at h;(cases h);refine⟨w,?_,s,dw.refl _ _ _⟩;(cases hx with|@l0 A c _ _ _=>(cases A<;>simp[Builtin.clear_,run_underlying F])|l1 ho nf hd g hn av=>simp at hn;omega);rename_i b o n;split at h;rename_i a E;split at h;rename_i l;obtain⟨l,au⟩:=l;(cases h);obtain⟨cap,rfl,hp,ar⟩:=Lf hx E;have v:=(s.ok b a E).cl hp;obtain⟨cur,cp,H,X,q3,q4,q5⟩:=v.ex;rw[l] at X;simp only[l,zx] at X q5⊢;have D:=run_storeCells_at P (β b) o a.elem (er n z) 0 cur w H (by simp;omega) (λu F=>by rw[List.eq_of_mem_replicate F];exact AF hs);simp only[kP,oA] at D;generalize q:(cur.toList.take o++er n z++cur.toList.drop (o+n)).toArray=f at D;have R:∀m,f[m]?=if o<=m/\m<o+n then V z else cur[m]?:=(by intro m;have:=Bn cur.toList (er n z) o m (by simp;omega);rw[oA] at this;rw[<-q,RR,this];split;rename_i p;rw[xg,if_pos (by omega)];simp);have C:∀m,(a.rows.take o++er n [AV.s z]++a.rows.drop (o+n))[m]?=if o<=m/\m<o+n then V [AV.s z] else a.rows[m]?:=(by intro m;have:=Bn a.rows (er n [AV.s z]) o m (by simp;omega);rw[oA] at this;rw[this];split;rename_i p;rw[xg,if_pos (by omega)];rfl);have K:f.size=cur.size:=(by rw[<-q];simp;omega);have M:=setRow_heap w (β b) cur f a.elem (0,0) H;have hw:vM w (w.setRow (β b) f) (β b):=⟨rfl,rfl,rfl,aou _ _ _,λk hk=>aot _ _ _ _ hk⟩;have N:L (a.rows.take o++er n [AV.s z]++a.rows.drop (o+n))=L a.rows:=(by simp;omega);refine⟨w.setRow (β b) f,?_,?_,?_⟩;(cases n with|zero=>omega|succ n=>simp[Builtin.clear_,run_underlying F,zeroValue,typeInfo,hi,hz,aIe hs,aNl,D]);refine aox (x:=a) (x':=⟨a.elem,1,a.own,a.var,a.rows.take o++er n [.s z]++a.rows.drop (o+n)⟩) s E hw l.symm rfl rfl N (λr T=>?_) ?_ H M K (cap:=cp) (by rw[l,zx];exact X) q3 q4 (λG B y d=>?_);obtain⟨m,p⟩:=aqN T;rw[C] at p;split at p;(cases p;rw[l];rfl);exact v.rl r (fC p);intro W G B y d;unfold db at d;rw[C] at d;split at d;simp only[ek] at d;rw[cE.1 (fC d)];rfl;exact v.dt W G B y d;dsimp only at d;rw[l,zx,R];unfold db at d;rw[C] at d;split at d;rename_i p;simp only[ek] at d;have S:B=0:=(by rcases oD B with h|h;exact h;rw[qi (by simp;omega)] at d;cases d);subst S;simp at d;subst d;rw[if_pos (by simpa using p)];exact⟨z,rfl,AF hs, .s hs⟩;rename_i p;have S:B=0:=(by have hl:=zO (size:=a.size) (λr T=>v.rl r T) (i:=G) (j:=B) (x:=y) d;rw[l] at hl;omega);subst S;rw[if_neg (by simpa using p)];exact q5 G 0 y d;exact KN (x:=a) (x':=⟨a.elem,1,a.own,a.var,a.rows.take o++er n [.s z]++a.rows.drop (o+n)⟩) s E hw l.symm rfl N H M K;(cases h);(cases h);cases h
end
end Go.Ab
