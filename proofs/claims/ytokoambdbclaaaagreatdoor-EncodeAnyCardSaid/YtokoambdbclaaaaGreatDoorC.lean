/- Part of the proof of EncodeAny, made short by a program: Eleven Twelve Reach New Thirteen Local LocTwo LocThree Draw DrawTwo OKTwo DrawThree Code. -/
import Derived.Test.YtokoambdbclaaaaGreatDoorB
set_option linter.all false
open Array renaming all_eq_true_iff_forall_mem->aqi,foldl_toList->yY,getD->pZ,getElem?_eq_some_iff->vh,getElem_push_lt->aql,length_toList->Rz,mapM_eq_mapM_toList->aqm,mem_of_getElem?->RA,mem_toList_iff->vj,replicate->aqn,toList_append->aqo,toList_inj->qb,toList_replicate->aqp
open Bool renaming and_eq_true->bN,eq_false_iff->aqs,eq_false_or_eq_true->sq,false->I,not_eq_true'->eH,or_eq_true->fH,true->U,true_eq_false->sr
open Int renaming natCast_mul->RE
open List renaming Sublist->aqE,all_eq_true->dV,any_eq_false->Gy,any_eq_true->tL,contains_iff_mem->RH,flatMap_def->GD,foldl_cons->GE,getD->GF,getD_eq_getElem?_getD->eI,getElem?_append->rA,getElem?_cons_zero->qh,getElem?_drop->mf,getElem?_eq_getElem->eC,getElem?_eq_none->qi,getElem?_eq_some_iff->mg,getElem?_map->fp,getElem?_replicate->xg,getElem?_set->xh,getElem_cons_zero->aqP,getElem_mem->qj,getElem_toArray->aqR,length->L,length_eq_one_iff->xj,length_map->bJ,length_singleton->GJ,length_take->gC,mapM_cons->vz,map_append->dg,map_congr_left->ja,map_cons->ji,map_id->zr,map_nil->mU,map_toArray->aqV,mem_append->dF,mem_append_left->qk,mem_append_right->zt,mem_cons->eW,mem_cons_of_mem->zu,mem_flatMap->iI,mem_map->dN,mem_map_of_mem->CA,mem_of_getElem?->fC,mem_of_mem_take->sA,mem_range->fq,mem_zipIdx_iff_getElem?->RV,pairwise_append->RW,pairwise_cons->aqX,pairwise_iff_getElem->GN,range->aH,range'->GO,range'_succ->RX,range_eq_range'->aqY,replicate->er,size_toArray->xm,tail->GQ,take_zero->CE,toArray->aq1
open Nat renaming add_zero->kP,le_refl->dA,le_trans->gl,lt_of_lt_of_le->gh,lt_or_ge->jj,lt_succ_of_lt->aq8,lt_trans->R7,min_eq_left->rD,mul_comm->vD,testBit_or->zy,testBit_two_pow->arb
open Ne renaming symm->Sa
open Option renaming bind_eq_bind->xp,bind_some->ek,getD_some->mi,map_some->df,none->J,pure_def->xq,some->V,some.injEq->bE
open Prod renaming fst->Se,mk.injEq->iK,snd->Sf
namespace Go.Ab
open Go Go.RowKit
section
variable{P:Program}{κ:ei}{w:World}{Y:ae}{β:Id->Nat}
theorem alk{zs:List AV}{l i j:Nat}{y:AV}(h:db (er l zs) i j=V y):i<l/\zs[j]?=V y:=by unfold db at h;rw[xg] at h;split at h;exact⟨‹_›,by simpa using h⟩;cases h
theorem aIM(v:Value):tz (gK (ui v))=ui v:=by unfold ui;split<;>first|rfl|(split<;>rfl)
theorem aEc{t:TypeId}{zs:List AV}(h:rp P t=V zs):∃(i:TypeInfo) (z:Value),P.info? t=V i/\i.zero=V z/\z.cells.size=i.size/\L zs=i.size/\CR κ w Y β z.cells.toList (mz zs):=by obtain⟨i,z,b,c,f,g,j⟩:=Rw (κ:=κ) (w:=w) (Y:=Y) (β:=β) h;refine⟨i,z,b,c,f,g,?_⟩;unfold mz;cases m:uj zs with|false=>exact j|true=>show CR κ w Y β z.cells.toList (zs.map tz);unfold rp at h;cases a:jF P t with|none=>rw[a] at h;cases h|some ys=>rw[a] at h;simp only[df,bE] at h;subst h;obtain⟨n,q,d,e,o,p,l⟩:=tF (κ:=κ) (w:=w) (Y:=Y) (β:=β) a;rw[b] at d;cases d;rw[c] at e;cases e;have:(ys.map gK).map tz=ys:=(by rw[List.map_map];(conv=>rhs;rw[<-zr ys]);refine ja λy k=>?_;unfold jF at a;rw[b] at a;simp only[c] at a;split at a;simp only[bE] at a;subst a;obtain⟨v,_,rfl⟩:=dN.1 k;exact aIM v;cases a);rw[this];exact l
theorem aDZ{t:TypeId}{d:Nat}{l c:Int}{kl kc:IntKind}{T:AV}{D:ae}(s:cv P κ w Y β)(h:wA P Y d t l c=V (T,D)):
  ∃v G C,(Instr.makeSlice t (.int kl l) (.int kc c)).run P w= .ok v G/\ba κ G D C v T/\cv P κ G D C/\dw w Y β G D C:=by
 unfold wA at h
 split at h
 ·rename_i e hu
  split at h
  ·rename_i zs hz
   split at h
   ·rename_i hc
    simp only[bE,iK] at h
    obtain⟨rfl,rfl⟩:=h
    obtain⟨ab,ac,q,ag,E,g⟩:=hc
    have o:=te E
    obtain⟨i,z,Z,aa,B,O,H⟩:=aEc (κ:=κ) (w:=w) (Y:=Y) (β:=β) hz
    have X:mZ P e=i.bytes:=by simp[mZ,Z]
    rw[X] at g
    obtain⟨f,rfl⟩:=Int.eq_ofNat_of_zero_le (show 0<=c by omega)
    have u:f*(i.bytes+1)<=lx:=by
     have:((f*(i.bytes+1):Nat):Int)<=(lx:Int):=by
      rw[RE,Int.natCast_add];exact g
     omega
    obtain⟨M,al⟩:=QY u
    have F:=run_make (P:=P) w t e i z hu Z aa kl kc l f ab ac (by
     have:((i.bytes*f:Nat):Int)<=281474976710656:=by rw[vD];omega
     rw[RE] at this;exact this) (by simp only[maxLen] at M;omega)
    have k:Below w.heap.size w (w.alloc (.cells (madeCells z.cells (f*i.size)) e)):=(Below.refl _ _).alloc (dA _) _
    have m:madeCells z.cells (f*i.size)=(er f z.cells.toList).flatten.toArray:=by
     have:=an4 z.cells.toList f
     simp only[Rz,B,Array.toArray_toList] at this
     unfold madeCells
     rw[<-this,B]
    have p:=heap_alloc_new w (.cells (madeCells z.cells (f*i.size)) e)
    simp only[Int.toNat_natCast] at F
    have N:(madeCells z.cells (f*i.size)).size=f*L zs:=by rw[size_madeCells,O]
    refine⟨_,_,upd β (bV Y d) w.heap.size,F,?_,?_,um s k o (dA _)⟩
    ·have:=ba.m1 (κ:=κ) (w:=w.alloc (.cells (madeCells z.cells (f*i.size)) e)) (β:=upd β (bV Y d) w.heap.size) (n:=l.toNat) (cap:=f) (iy (Y:=Y) (x:=⟨e,L zs,U,uj zs,er l.toNat (mz zs)⟩) o) (by simp) (by rw[gx];exact p) N q
     rw[gx] at this
     exact this
    ·refine Et (cap:=f) s k o (dA _) q (aB5 hz) (λr F=>by rw[List.eq_of_mem_replicate F,anv]) (λA a b y S=>by have j:=(alk S).2;simp only at A;simp only[mz,A,cond_false] at j;exact dV.1 ag y (fC j)) p N (by simp;omega) M (λa b y S=>?_)
     obtain⟨h1,j⟩:=alk S
     have W:=(mg.1 j).1
     rw[anv] at W
     have K:L z.cells.toList=L zs:=by simp[B,O]
     have ad:a*L zs+b<f*L z.cells.toList:=by
      rw[K]
      have:=Nat.mul_le_mul_right (L zs) (show a+1<=f by omega)
      rw[Nat.succ_mul] at this;omega
     have R:(a*L zs+b)%L z.cells.toList=b:=by rw[K,vD,Nat.mul_add_mod,Nat.mod_eq_of_lt W]
     have A:z.cells.toList[b]?=V (z.cells.toList[b]'(by omega)):=eC _
     refine⟨z.cells.toList[b]'(by omega),?_,H.2.1 _ (qj _),H.2.2 b _ y A j⟩
     rw[m,List.getElem?_toArray,aoe _ _ _ ad,R,A]
   ·cases h
  ·cases h
 ·cases h
theorem am7{b:Id}{x:bY}(s:cv P κ w Y β)(d:box Y b=V x):dw w Y β w (kill Y b) β:=
 ⟨rfl,rfl,rfl,dA _,λ_ _ _=>rfl,λc a=>amu d a,λc y a=>by
  by_cases e:c=b
  ·subst e;exact .inl (amv d)
  ·exact .inr ⟨y,Qc d a e,rfl,rfl,rfl,rfl,λcur f=>⟨cur,f,rfl⟩⟩,λc y a=> .inr ⟨c,y,(xz d a).2,rfl⟩⟩
theorem aCS{b:Id}{x:bY}(s:cv P κ w Y β)(a:box Y b=V x):cv P κ w (kill Y b) β:=⟨λc y e=>(s.ok c y (xz a e).2).ext (am7 s a) rfl rfl,λc d y z e f g=>s.inj c d y z (xz a e).2 (xz a f).2 g,s.old,s.base⟩
theorem D1:∀(l:List Id) {Y:ae},cv P κ w Y β->dw w Y β w (kills Y l) β/\cv P κ w (kills Y l) β/\∀c y,box (kills Y l) c=V y->box Y c=V y/\c∉l:=by intro l;induction l with|nil=>intro Y s;exact⟨dw.refl _ _ _,s,λc y h=>⟨h,by simp⟩⟩|cons b l n=>intro Y s;cases d:box Y b with|none=>have e:kills Y (b::l)=kills Y l:=(by simp[kills,d]);rw[e];obtain⟨g,i,j⟩:=n s;refine⟨g,i,λc y m=>?_⟩;obtain⟨f,k⟩:=j c y m;refine⟨f,λa=>?_⟩;rcases eW.1 a with rfl|a;rw[d] at f;cases f;exact k a|some x=>have e:kills Y (b::l)=kills (kill Y b) l:=(by simp[kills,d]);rw[e];obtain⟨g,i,j⟩:=n (aCS s d);refine⟨(am7 s d).trans g,i,λc y m=>?_⟩;obtain⟨f,k⟩:=j c y m;obtain⟨o,p⟩:=xz d f;exact⟨p,λa=>by rcases eW.1 a with h|a;exact o h;exact k a⟩
theorem Di{v:Value}{x:AV}{l:List Id}(s:cv P κ w Y β)(h:ba κ w Y β v x)(N:∀b∈iR x,b∈l):ba κ w (kills Y l) β v (gi Y x):=by obtain⟨e,s',M⟩:=D1 l s;cases x with|m b n=>simp only[gi];(cases f:box Y b with|none=>exact h.ext e|some d=>simp only;rcases sq d.var with a|a;rw[if_neg (by rw[a];simp)];exact h.ext e;rw[if_pos a];obtain⟨cap,cur,rfl,B,z,t⟩:=oR h f;have o:=s.ok b d f;have R:=zT s f z t;by_cases E:n=0;subst E;rw[CE];exact .l0 (λh=>by cases h);obtain⟨D,C,vs,S,_,_,_,_,k⟩:=KY s f (nZ h f) B;have A:=s.lt f;refine .l1 (size:=d.size) o.ow o.nf (Dh (rows:=d.rows.take n) s h (by simp[gL,f,a])) (λi j=>vs.getD (i*d.size+j) (.bool I)) (by rw[gC,rD B]) (by omega) (by omega) (λh=>by cases h) A (λc y H K=>?_) (λr O=>(o.cells z).rl r (sA O)) (λi j y p=>?_) (λi j y p=>?_) (λi j y p=>?_);obtain⟨F,G⟩:=M c y H;exact G (by rw[s.inj c b y d F f K];exact N b (by simp[iR]));obtain⟨u,g,q⟩:=k.2.2.2 i j y p;have:=k.2.1 _ u g;rw[show 0+i*d.size+j=0+(i*d.size+j) by omega,this];simp[g];obtain⟨u,g,q⟩:=k.2.2.2 i j y p;simp only[eI,g,mi];exact q.ext e;obtain⟨u,g,q⟩:=k.2.2.2 i j y p;simp only[eI,g,mi];exact k.2.2.1 u (fC g))|_=>exact h.ext e
theorem xK{v:Value}{x:AV}{l:List Id}(s:cv P κ w Y β)(h:ba κ w Y β v x)(g:∀b∈eB x,b∈l):ba κ w (kills Y l) β v (eR Y x):=by cases x with|a cs=>simp only[eR];(cases h with|a f k m=>refine .a (by simp[f]) k (λi v c n d=>?_);rw[fp] at d;cases e:cs[i]? with|none=>rw[e] at d;cases d|some y=>rw[e] at d;simp only[df,bE] at d;subst d;exact Di s (m i v y n e) (λb j=>g b (by simp only[eB,iI];exact⟨y,fC e,j⟩)))|_=>exact Di s h g
theorem anp{b:Operand->Value}(a:Array (Nat×Operand)):(a.map λ(i,x)=>(i,b x))=(a.toList.map λp=>(p.1,b p.2)).toArray:=by rw[<-qb];simp
theorem axL{G:Operand->Value}{E:Operand->AV}{o:Oper}{d:Nat}{X:AV}{W:ae}(s:cv P κ w Y β)(q:∀x,ba κ w Y β (G x) (E x))(h:eA P E Y d o.op=V (X,W)):ard P κ w Y β G o X W:=by obtain⟨aw,op,ty,az,af,gd⟩:=o;dsimp only at h;unfold eA at h;split at h;rename_i e;split at h;rename_i zs F;split at h;rename_i D;simp only[bE,iK] at h;obtain⟨rfl,rfl⟩:=h;obtain⟨i,z,hi,ab,ay,ax,aa⟩:=tF (w:=w) (Y:=Y) (β:=β) F;obtain⟨y,g,f,j⟩:=alw (e:=e) s D.2 aa D.1 (amG F);refine⟨.value _,_,_,y,?_, .inl rfl,g,f,j⟩;simp[execOp,Instr.alloc,zeroValue,typeInfo,hi,ab,newVar,newRow];(cases h);(cases h);rename_i e x;split at h;rename_i cs z D F;split at h;rename_i hh;simp only[bE,iK] at h;obtain⟨rfl,rfl⟩:=h;obtain⟨rfl,h0,hf⟩:=hh;obtain⟨y,g,f,j⟩:=alw (e:=e) s hf (Ku (q x) D) h0 F;refine⟨.value _,_,_,y,?_, .inl rfl,g,f,j⟩;simp[execOp,Instr.box,newVar,newRow];(cases h);(cases h);rename_i t m;(cases A:vS P t (m.toList.map λp=>(p.1,E p.2)) with|none=>rw[A] at h;cases h|some cs=>rw[A] at h;simp only[df,bE,iK] at h;obtain⟨rfl,rfl⟩:=h;obtain⟨vs,g,f⟩:=awJ q A;refine⟨.value (.agg vs.toArray),_,w,β,?_, .inl rfl, .a f.1 f.2.1 f.2.2,s,dw.refl _ _ _⟩;have:=run_build (P:=P) w t (m.map λ(i,x)=>(i,G x)) vs.toArray (by rw[anp];exact g);simp[execOp,this]);rename_i t len m;(cases A:xB P t len (m.toList.map λp=>(p.1,nrm (eR Y (E p.2)))) with|none=>rw[A] at h;cases h|some rows=>rw[A] at h;simp only[df,bE,iK] at h;obtain⟨rfl,rfl⟩:=h;generalize O:(m.toList.flatMap λp=>eB (E p.2))=ids;obtain⟨e,s',_⟩:=D1 ids s;have Z:∀x,ba κ w (kills Y ids) β (G x) (if((eB (E x)).all λb=>ids.contains b)=U then nrm (eR Y (E x)) else .u):=λx=>(by split;rename_i R;refine yo (xK s (q x) (λb A=>by have:=dV.1 R b A;simpa using this));exact .u);have S:(m.toList.map λp=>(p.1,nrm (eR Y (E p.2))))=m.toList.map λp=>(p.1,if((eB (E p.2)).all λb=>ids.contains b)=U then nrm (eR Y (E p.2)) else .u):=(by apply ja;intro p hp;rw[if_pos (dV.2 λb A=>by rw[<-O,RH];exact iI.2 ⟨p,hp,A⟩)]);rw[S] at A;obtain⟨v,n,g,f,j⟩:=awI s' Z A;refine⟨.value v,_,n,β,?_, .inl rfl,j,Es s' f,e.trans (xJ s' f)⟩;simp only[execOp,anp,Sem.run_bind,g,Result.andThen_ok,Sem.run_pure]);rename_i t l c;split at h;rename_i kl l' kc c' hl D;have k1:=q l;have k2:=q c;rw[hl] at k1;rw[D] at k2;obtain⟨v,n,y,g,f,j,B⟩:=aDZ (kl:=kl) (kc:=kc) s h;exact⟨.value v,v,n,y,by simp[execOp,k1.s_inv.1,k2.s_inv.1,g], .inl rfl,f,j,B⟩;(cases h);rename_i t x v;split at h;(cases hs:ra P Y t (E x) (E v) with|none=>rw[hs] at h;cases h|some H=>rw[hs] at h;simp only[df,bE,iK] at h;obtain⟨rfl,rfl⟩:=h;obtain⟨n,g,f,j⟩:=aoK s (q x) (q v) hs;exact⟨.skip,undef,n,β,by simp[execOp,g], .inr ⟨rfl,rfl⟩, .t (vs:=[]) rfl (λi v c h=>by simp at h),f,j⟩);(cases hs:ra P (kills Y (eB (E v))) t (E x) (nrm (eR Y (E v))) with|none=>rw[hs] at h;cases h|some H=>rw[hs] at h;simp only[df,bE,iK] at h;obtain⟨rfl,rfl⟩:=h;obtain⟨e,s',_⟩:=D1 (eB (E v)) s;obtain⟨n,g,f,j⟩:=aoK s' ((q x).ext e) (yo (xK s (q v) (λb A=>A))) hs;exact⟨.skip,undef,n,β,by simp[execOp,g], .inr ⟨rfl,rfl⟩, .t (vs:=[]) rfl (λi v c h=>by simp at h),f,e.trans j⟩);rename_i c;split at h;rename_i C;split at h;rename_i sx x t t' N T;split at h;rename_i ad;subst ad;obtain⟨v,n,y,g,f,j,B⟩:=avw (ty:=ty) s (q sx) (q x) h;refine⟨.value v,v,n,y,?_, .inl rfl,f,j,B⟩;have K:c.args=#[sx,x]:=(by rw[<-qb];exact N);have M:c.argTypes=#[t,t]:=(by rw[<-qb];exact T);simp only[execOp,resolve,C,invoke,builtin,Sem.run_bind,Sem.run_pure,Result.andThen_ok,K,M,aqV,ji,mU,g];(cases h);(cases h);rename_i C;split at h;rename_i x t N T;split at h;rename_i z F;(cases hs:pA z Y (E x) with|none=>rw[hs] at h;cases h|some H=>rw[hs] at h;simp only[df,bE,iK] at h;obtain⟨rfl,rfl⟩:=h;obtain⟨n,g,f,j⟩:=axh (ty:=ty) s F (q x) hs;refine⟨.value (.tuple #[]),_,n,β,?_, .inl rfl, .t (vs:=[]) rfl (λi v c h=>by simp at h),f,j⟩;have K:c.args=#[x]:=(by rw[<-qb];exact N);have M:c.argTypes=#[t]:=(by rw[<-qb];exact T);simp only[execOp,resolve,C,invoke,builtin,Sem.run_bind,Sem.run_pure,Result.andThen_ok,K,M,aqV,ji,mU,g]);(cases h);(cases h);(cases h);rename_i t r;split at h;obtain⟨v,n,y,g,f,j,B⟩:=aD5 s h;exact⟨.value v,v,n,y,by simp[execOp,g], .inl rfl,f,j,B⟩;(cases h);rename_i t x k v;split at h;rename_i mt R;(cases hs:n5 mt Y (E x) (E k) (E v) with|none=>rw[hs] at h;cases h|some H=>rw[hs] at h;simp only[df,bE,iK] at h;obtain⟨rfl,rfl⟩:=h;obtain⟨n,g,f,j⟩:=aD9 s R (q x) (q k) (q v) hs;exact⟨.skip,undef,n,β,by simp[execOp,g], .inr ⟨rfl,rfl⟩, .t (vs:=[]) rfl (λi v c h=>by simp at h),f,j⟩);(cases h);rename_i t x;split at h;rename_i hu;obtain⟨v,n,y,g,f,j,B⟩:=aFk s hu (q x) h;exact⟨.value v,v,n,y,by simp[execOp,g], .inl rfl,f,j,B⟩;(cases h);rename_i x st;split at h;rename_i ac;subst ac;obtain⟨v,n,g,f,j,B⟩:=aEz (t:=ty) s (q x) h;exact⟨.value v,v,n,β,by simp[execOp,g], .inl rfl,f,j,B⟩;(cases h);cases h
end
def nj:AV->Bool| .s _=>U| .l _ _ _=>U|_=>I
def iX:AV->Bool| .a cs=>cs.all eN|x=>eN x
def pF:AV->Bool| .a cs=>cs.all nj|x=>nj x
def kG:AV->Bool| .t vs=>vs.all pF|x=>pF x
def gY:AV->Bool| .s _=>U|_=>I
def wD:AV->Bool| .s _=>U| .l rows _ own=>own&&rows.all (λr=>r.all gY)|_=>I
def yv:AV->Bool| .a cs=>cs.all wD|x=>wD x
def uN:AV->Bool| .t vs=>vs.all yv|x=>yv x
def dG(Y:ae)(x:AV):AV:=nrm (eR Y x)
def nA(Y:ae)(xs:List AV):Bool:=xs.any λx=>(eB x).any λb=>(box Y b).isSome
def β0:Id->Nat:=λ_=>0
def md(G:dk)(κ:ei)(w:World)(Y:ae)(β:Id->Nat):Prop:=∀g cs,G g=V cs->cs.all eN=U/\ba κ w Y β (.pointer (V ⟨g,0,J⟩)) (.q cs)
def tJ(P:Program)(fn:FuncId):Prop:=∃f c,P.funcs[fn]?=V f/\f.body=V c/\(f.name== "runtime.NumGoroutine")=I
def js(κ:ei)(w:World)(Y:ae)(β:Id->Nat)(vs:List Value)(xs:List AV):Prop:=L vs=L xs/\∀(i:Nat) v x,vs[i]?=V v->xs[i]?=V x->ba κ w Y β v x
def zm(P:Program)(G:dk)(fn:FuncId)(ys:List AV)(R:AV->Prop):Prop:=tJ P fn/\∀(F:Nat->Prop) (w:World) (a:List Value),(∀k,F k->k<w.heap.size)->md G ⟨F,w.heap.size⟩ w [] β0->js ⟨F,w.heap.size⟩ w [] β0 a ys->Calls P fn a.toArray w λe w'=>∃v r,e= .returned v/\R r/\ba ⟨F,w.heap.size⟩ w' [] β0 v r/\Below w.heap.size w w'
section
variable{P:Program}{G:dk}{κ κ':ei}{w w':World}{Y Y':ae}{β β':Id->Nat}
def nN(κ:ei)(Y:ae)(β:Id->Nat)(κ':ei)(Y':ae)(β':Id->Nat):Prop:=∀k,¬κ.F k->(∀b y,box Y b=V y->β b≠k)->¬κ'.F k/\∀b y,box Y' b=V y->β' b≠k
theorem ba.conv{v:Value}{x:AV}(h:ba κ w Y β v x)(b:eN x=U)(hs:nN κ Y β κ' Y' β'):ba κ' w Y' β' v x:=by induction h with|s h=>exact .s h|l0 e=>exact .l0 e|@l1 f off n c size rows o own C B a g y k d e r A l t D u z=>obtain⟨p,q⟩:=hs f B A;simp only[eN,bN,eH] at b;refine .l1 (λh=>?_) p a g y k d e r q l t (λi j x m=>z i j x m (a i j x m)) u;rw[b.2] at h;cases h|_=>simp[eN] at b
theorem ba.conv1{v:Value}{x:AV}(h:ba κ w Y β v x)(u:nj x=U)(hs:nN κ Y β κ' Y' β')(r:κ'.base<=κ.base):ba κ' w Y' β' v x:=by cases h with|s h=>exact .s h|l0 d=>exact .l0 d|@l1 e off n c size rows o own A D a g z k b d f C l t B y=>obtain⟨p,q⟩:=hs e D C;exact .l1 (λh=>gl r (A h)) p a g z k b d f q l t (λi j x m=>(B i j x m).conv (a i j x m) hs) y|_=>simp[nj] at u
theorem ba.convR{v:Value}{x:AV}(h:ba κ w Y β v x)(d:pF x=U)(hs:nN κ Y β κ' Y' β')(e:κ'.base<=κ.base):ba κ' w Y' β' v x:=by cases x with|a cs=>simp only[pF] at d;(cases h with|a g f j=>exact .a g f (λi v c k b=>(j i v c k b).conv1 (dV.1 d c (fC b)) hs e))|_=>exact h.conv1 d hs e
theorem ba.convT{v:Value}{x:AV}(h:ba κ w Y β v x)(b:kG x=U)(hs:nN κ Y β κ' Y' β')(d:κ'.base<=κ.base):ba κ' w Y' β' v x:=by cases x with|t cs=>simp only[kG] at b;(cases h with|t e f=>exact .t e (λi v c g a=>(f i v c g a).convR (dV.1 b c (fC a)) hs d))|_=>exact h.convR b hs d
theorem ba.convA{v:Value}{x:AV}(h:ba κ w Y β v x)(d:iX x=U)(hs:nN κ Y β κ' Y' β'):ba κ' w Y' β' v x:=by cases x with|a cs=>simp only[iX] at d;(cases h with|a f e g=>exact .a f e (λi v c j b=>(g i v c j b).conv (dV.1 d c (fC b)) hs))|_=>exact h.conv d hs
theorem md.conv(h:md G κ w Y β)(hs:nN κ Y β κ' Y' β'):md G κ' w Y' β':=by intro g cs l;obtain⟨a,d⟩:=h g cs l;refine⟨a,?_⟩;cases d with|q p c i o k n m=>obtain⟨e,f⟩:=hs g p o;exact .q e c i f k (λj x b=>(n j x b).conv (dV.1 a x (fC b)) hs) m
theorem md.ext(h:md G κ w Y β)(e:dw w Y β w' Y' β'):md G κ w' Y' β':=λg cs a=>⟨(h g cs a).1,(h g cs a).2.ext e⟩
theorem ba.young1{v:Value}{x:AV}(h:ba κ w Y β v x)(e:wD x=U)(K:∀k,κ.base<=k->¬κ'.F k/\∀b y,box Y' b=V y->β' b≠k)(M:κ'.base<=κ.base):ba κ' w Y' β' v x:=by cases h with|s h=>exact .s h|l0 l=>exact .l0 l|@l1 m off n c size rows A own t W p g R q f l o T u N S O=>simp only[wD,bN] at e;obtain⟨B,C⟩:=K m (t e.1);refine .l1 (λh=>gl M (t h)) B p g R q f l o C u N (λi j x a=>?_) O;have z:gY x=U:=(by unfold db at a;cases d:rows[i]? with|none=>rw[d] at a;cases a|some r=>rw[d] at a;simp only[ek] at a;exact dV.1 (dV.1 e.2 r (fC d)) x (fC a));have D:=S i j x a;(cases x<;>first|(simp[gY] at z;done)|skip);obtain⟨E,H⟩:=D.s_inv;rw[E];exact .s H|_=>simp[wD] at e
theorem ba.youngT{v:Value}{x:AV}(h:ba κ w Y β v x)(e:uN x=U)(l:∀k,κ.base<=k->¬κ'.F k/\∀b y,box Y' b=V y->β' b≠k)(n:κ'.base<=κ.base):ba κ' w Y' β' v x:=by have m:∀v x,ba κ w Y β v x->yv x=U->ba κ' w Y' β' v x:=λv x h e=>(by cases x with|a cs=>simp only[yv] at e;(cases h with|a f o g=>exact .a f o (λi v c j d=>(g i v c j d).young1 (dV.1 e c (fC d)) l n))|_=>exact h.young1 e l n);cases x with|t cs=>simp only[uN] at e;(cases h with|t f g=>exact .t f (λi v c j d=>m v c (g i v c j d) (dV.1 e c (fC d))))|_=>exact m v _ h e
theorem amg{x:AV}(h:∀b∈iR x,box Y b=J):gi Y x=x:=by cases x with|m b n=>simp[gi,h b (by simp[iR])]|_=>rfl
theorem aBj{x:AV}(h:∀b∈eB x,box Y b=J):eR Y x=x:=by cases x with|a cs=>simp only[eR];congr 1;(conv=>rhs;rw[<-zr cs]);apply ja;intro c e;exact amg (λb d=>h b (by simp only[eB,iI];exact⟨c,e,d⟩))|m b n=>exact amg (x:= .m b n) h|_=>rfl
theorem sK(b:Id):box [] b=J:=by simp[box,aZ]
theorem axb{fn:FuncId}{n:List Value}{xs:List AV}{R:AV->Prop}(s:cv P κ w Y β)(M:md G κ w Y β)(q:js κ w Y β n xs)(f:zm P G fn (xs.map (dG Y)) R)
  (S:(xs.map (dG Y)).all iX=U)(O:∀r,R r->kG r=U/\(nA Y xs=I\/uN r=U)):
  Calls P fn n.toArray w λe w'=>∃v r,e= .returned v/\R r/\ba κ w' Y β v r/\Below w.heap.size w w':=by
 have E:∀i x,xs[i]?=V x->iX (dG Y x)=U:=λi x q=>dV.1 S _ (dN.2 ⟨x,fC q,rfl⟩)
 have D:∀(i:Nat) y,(xs.map (dG Y))[i]?=V y->∃x,xs[i]?=V x/\y=dG Y x:=λi y g=>by
  rw[fp] at g
  cases h:xs[i]? with
  |none=>rw[h] at g;cases g
  |some x=>rw[h] at g;simp only[df,bE] at g;exact⟨x,rfl,g.symm⟩
 by_cases d:nA Y xs=I
 ·
  have N:∀i x,xs[i]?=V x->∀b∈eB x,box Y b=J:=λi x q b a=>by
   unfold nA at d
   rw[Gy] at d
   have:=d x (fC q)
   rw[Bool.not_eq_true,Gy] at this
   have:=this b a
   simpa using this
  let H:Nat->Prop:=λk=>κ.F k\/∃b x,box Y b=V x/\β b=k
  have B:∀k,H k->k<w.heap.size:=λk p=>by
   rcases p with p|⟨b,x,a,rfl⟩
   ·exact gh (s.old k p) s.base
   ·exact s.lt a
  have m:nN κ Y β ⟨H,w.heap.size⟩ [] β0:=λk c o=>⟨λh=>by
   rcases h with h|⟨b,x,a,t⟩
   ·exact c h
   ·exact o b x a t,λb y a=>by rw[sK] at a;cases a⟩
  refine(f.2 H w n B (M.conv m) ⟨by simp[q.1],λi v y u g=>?_⟩).mono ?_
  ·obtain⟨x,j,rfl⟩:=D i y g
   have c:=q.2 i v x u j
   have o:=E i x j
   unfold dG at o⊢
   rw[aBj (N i x j)] at o⊢
   exact(yo c).convA o m
  ·rintro e w' ⟨v,r,t,z,u,a⟩
   refine⟨v,r,t,z,?_,a⟩
   refine u.convT (O r z).1 (λk c o=>⟨λh=>c (.inl h),λb y A t=>c (.inr ⟨b,y,A,t⟩)⟩) s.base
 ·have K:∀r,R r->uN r=U:=λr h=>(O r h).2.resolve_left d
  have B:∀k,κ.F k->k<w.heap.size:=λk p=>gh (s.old k p) s.base
  have m:∀l,nN κ (kills Y l) β ⟨κ.F,w.heap.size⟩ [] β0:=λl k c o=>⟨c,λb y a=>by rw[sK] at a;cases a⟩
  have C:nN κ Y β ⟨κ.F,w.heap.size⟩ [] β0:=λk c o=>⟨c,λb y a=>by rw[sK] at a;cases a⟩
  refine(f.2 κ.F w n B (M.conv C) ⟨by simp[q.1],λi v y u g=>?_⟩).mono ?_
  ·obtain⟨x,j,rfl⟩:=D i y g
   have c:=q.2 i v x u j
   exact(yo (xK (l:=eB x) s c (λb a=>a))).convA (E i x j) (m _)
  ·rintro e w' ⟨v,r,t,z,u,a⟩
   refine⟨v,r,t,z,?_,a⟩
   refine u.youngT (K r z) (λk p=>⟨λh=>by have:=B k h;simp only at p;omega,λb y A T=>by have:=s.lt A;simp only at p;omega⟩) s.base
end
def cZ(P:Program)(G:dk)(fn:FuncId)(ys:List AV)(c:ae)(r:AV)(d:ae):Prop:=tJ P fn/\∀(κ:ei) (w:World) (β:Id->Nat) (a:List Value),cv P κ w c β->md G κ w c β->js κ w c β a ys->Calls P fn a.toArray w λe f=>∃v b,e= .returned v/\ba κ f d b v r/\cv P κ f d b/\dw w c β f d b
structure Kp(Y Y':ae):Prop where
 len:L Y'=L Y
 ver:∀k,(aZ Y k).ver<=(aZ Y' k).ver
 keep:∀b x,box Y b=V x->box Y' b=V x
theorem Kp.refl(Y:ae):Kp Y Y:=⟨rfl,λ_=>dA _,λ_ _ h=>h⟩
theorem Kp.trans{Y d a:ae}(h:Kp Y d)(c:Kp d a):Kp Y a:=⟨c.len.trans h.len,λk=>gl (h.ver k) (c.ver k),λb x e=>c.keep b x (h.keep b x e)⟩
theorem am8{Y:ae}{d:Nat}{x:bY}(a:d<L Y):Kp Y (put Y d x):=by refine⟨Bf _ _,λk=>?_,λb y c=>uA a c⟩;by_cases h:k=d;subst h;rw[put,iD a];simp only;omega;rw[put,jQ h];exact dA _
theorem ba.shrink{κ ay:ei}{w w0:World}{Y P:ae}{β β0:Id->Nat}(H:Kp Y P){v:Value}{x:AV}(h:ba κ w P β v x):∀{p:Value},ba ay w0 Y β0 p x->ba κ w Y β v x:=by have nb:∀{T:Nat},(∀b x,box P b=V x->β b≠T)->∀b x,box Y b=V x->β b≠T:=λO b x C=>O b x (H.keep b x C);have X:∀{b:Id},jO P b=U->(∀x,box Y b≠V x):=λhg x C=>qD hg (H.keep _ _ C);have F:∀{vs:List Value} {cs:List AV} {i:Nat} {c:AV},L vs=L cs->cs[i]?=V c->∃v,vs[i]?=V v:=λ{vs cs i c} G D=>(by obtain⟨h1,_⟩:=mg.1 D;exact⟨vs[i]'(by omega),eC (by omega)⟩);induction h with|s h=>intro p _;exact .s h|u=>intro p _;exact .u|a G D h A=>intro p l;(cases l with|a B W r=>refine .a G D λi v c m e=>?_;obtain⟨E,y⟩:=F B e;exact A i v c m e (r i E c y e))|t G h A=>intro p l;(cases l with|t B r=>refine .t G λi v c m e=>?_;obtain⟨E,y⟩:=F B e;exact A i v c m e (r i E c y e))|l0 ht=>intro p _;exact .l0 ht|l1 ho nf hd g S ap ab ht C O hs D hr K A=>intro p l;(cases l with|l0 ar=>simp at S;omega|l1 aJ ax aG g0 aI aD az ar ak aw aK W r am=>exact .l1 ho nf hd g S ap ab ht C (nb O) hs D (λi j x M=>A i j x M (r i j x M)) K)|@p1 b i j o x h hz ho=>intro p l;(cases l with|p1 d N aq=>have:=H.keep _ _ d;rw[h] at this;cases this;exact .p1 d hz ho|p0 d z=>exact .p0 d rfl)|p0 h m=>intro p l;(cases l with|p1 d N aq=>exact absurd d (X h _)|p0 d z=>exact .p0 d m)|q nf g C O D hr K A=>intro p l;(cases l with|q ax g0 ak aw W r am=>exact .q nf g C (nb O) D (λj x M=>A j x M (r j x M)) K)|@m1 b n cap x cur h S hh Z hz=>intro p l;(cases l with|m1 d ao al R N=>have:=H.keep _ _ d;rw[h] at this;cases this;exact .m1 d S hh Z hz|m0 d z=>exact .m0 d rfl)|m0 h m=>intro p l;(cases l with|m1 d ao al R N=>exact absurd d (X h _)|m0 d z=>exact .m0 d m)|@g1 v b k o n x h m=>intro p l;(cases l with|g1 d z=>have:=H.keep _ _ d;rw[h] at this;cases this;exact .g1 d m|g0 d z=>exact .g0 d m.cell)|g0 h m=>intro p l;(cases l with|g1 d z=>exact absurd d (X h _)|g0 d z=>exact .g0 d m)|f G an h h' A au=>intro p l;cases l with|f B aa r ad=>refine .f G an (λi v c m e=>?_) (λi v c m e=>?_);obtain⟨E,y⟩:=F B e;exact A i v c m e (r i E c y e);obtain⟨E,y⟩:=F aa e;exact au i v c m e (ad i E c y e)
theorem cv.shrink{P:Program}{κ:ei}{w m:World}{Y f:ae}{β e:Id->Nat}(s0:cv P κ w Y β)(c:Kp Y f)(s:cv P κ m f e):cv P κ m Y e:=by refine⟨λb x a=>?_,λb n x x' a g C=>s.inj b n x x' (c.keep _ _ a) (c.keep _ _ g) C,s.old,s.base⟩;have d:=s.ok b x (c.keep _ _ a);refine⟨d.ow,d.nf,λl=>?_,d.sp⟩;have k:=d.cl l;obtain⟨cur,cap,t,u,z,A,B⟩:=k.ex;refine⟨k.pos,k.info,k.rl,k.dt,cur,cap,t,u,z,A,λi j y h=>?_⟩;obtain⟨v,D,E,F⟩:=B i j y h;obtain⟨p,o,_,_,_,_,r⟩:=((s0.ok b x a).cl l).ex;obtain⟨G,_,_,q⟩:=r i j y h;exact⟨v,D,E,F.shrink c q⟩
theorem dw.shrink{w l:World}{Y i:ae}{β c:Id->Nat}(e:dw w Y β l i c)(g:Kp Y i):dw w Y β l Y c:=by refine⟨e.os,e.tape,e.output,e.size,e.keep,λ_ h=>h,λb x a=>?_,λb x a=>?_⟩;rcases e.live b x a with h|⟨x',j,m,n,o,f,k⟩;exact absurd (g.keep _ _ a) (λd=>qD h d);have:=g.keep _ _ a;rw[j] at this;cases this;exact .inr ⟨x,a,rfl,rfl,rfl,f,k⟩;rcases e.live b x a with h|⟨x',j,m,n,o,f,k⟩;exact absurd (g.keep _ _ a) (λd=>qD h d);exact .inr ⟨b,x,a,f.symm⟩
def tR(P:Program)(G:dk)(fn:FuncId)(xs:List AV)(Y:ae)(d:Nat)(K:AV->ae->Prop):Prop:=∃r a,cZ P G fn xs Y r a/\L a=L Y/\(if G.rd fn=U then Kp Y (kills a (eB r))/\kG (eR a r)=U/\K (eR a r) Y else K r a)
theorem asb{P:Program}{G:dk}{κ:ei}{w:World}{Y:ae}{β:Id->Nat}{fn:FuncId}{c:List Value}{xs:List AV}{d:Nat}{K:AV->ae->Prop}(s:cv P κ w Y β)(A:md G κ w Y β)(B:js κ w Y β c xs)(h:tR P G fn xs Y d K):tJ P fn/\Calls P fn c.toArray w λe i=>∃v p f a,e= .returned v/\K p f/\ba κ i f a v p/\cv P κ i f a/\dw w Y β i f a:=by obtain⟨r,F,g,_,j⟩:=h;refine⟨g.1,(g.2 κ w β c s A B).mono ?_⟩;rintro e i ⟨v,a,q,t,n,u⟩;split at j;obtain⟨o,C,D⟩:=j;obtain⟨x,E,_⟩:=D1 (eB r) n;exact⟨v,_,_,a,q,D,(xK (l:=eB r) n t (λb m=>m)).convT C (λk g z=>⟨g,λb y m=>z b y (o.keep _ _ m)⟩) (dA _),s.shrink o E,(u.trans x).shrink o⟩;exact⟨v,_,_,a,q,j,t,n,u⟩
theorem Ki{P:Program}{G:dk}{fn:FuncId}{xs:List AV}{Y:ae}{d:Nat}{K:AV->ae->Prop}:tR P G fn xs Y d K↔∃i s,tR P G fn xs Y d (λa b=>a=i/\b=s)/\K i s:=by unfold tR;constructor;rintro⟨r,f,g,h,c⟩;split at c;rename_i e;exact⟨eR f r,Y,⟨r,f,g,h,by rw[if_pos e];exact⟨c.1,c.2.1,rfl,rfl⟩⟩,c.2.2⟩;rename_i e;exact⟨r,f,⟨r,f,g,h,by rw[if_neg e];exact⟨rfl,rfl⟩⟩,c⟩;rintro⟨i,s,⟨r,f,g,h,c⟩,j⟩;refine⟨r,f,g,h,?_⟩;split at c;rename_i e;rw[if_pos e];obtain⟨a,b,rfl,rfl⟩:=c;exact⟨a,b,j⟩;rename_i e;rw[if_neg e];obtain⟨rfl,rfl⟩:=c;exact j
theorem asa{P:Program}{G:dk}{fn:FuncId}{xs:List AV}{Y s:ae}{f:AV}{d:Nat}(h:tR P G fn xs Y d (λa b=>a=f/\b=s)):L s=L Y/\(G.rd fn=U->s=Y):=by obtain⟨r,i,j,g,c⟩:=h;split at c;rename_i e;obtain⟨_,_,_,rfl⟩:=c;exact⟨rfl,λ_=>rfl⟩;rename_i e;obtain⟨_,rfl⟩:=c;exact⟨g,λh=>absurd h e⟩
def vO(Y:ae):List Nat:=aH (L Y)
def dK:AV->List Nat| .p b _ _=>[b.1]| .m b _=>[b.1]| .g _ b _ _=>[b.1]|_=>[]
def dC:AV->List Nat| .a cs=>cs.flatMap dK|x=>dK x
def pP:AV->List Nat| .f _ fs cs=>(fs++cs).flatMap dC|x=>dC x
def cD:AV->List Nat| .f _ fs cs=>(fs++cs).flatMap pP|x=>dC x
theorem AH{x:AV}{k:Nat}(h:k∈dC x):k∈pP x:=by cases x with|f fn fs cs=>simp[dC,dK] at h|_=>exact h
theorem aCR{x:AV}{k:Nat}(h:k∈pP x):k∈cD x:=by cases x with|f fn fs cs=>simp only[pP,iI] at h;obtain⟨y,a,b⟩:=h;simp only[cD,iI];exact⟨y,a,AH b⟩|_=>exact h
def eK:ae:=er 4096 mO
theorem py(b:Id):box eK b=J:=by unfold box aZ eK;rw[eI,xg];split<;>simp[mO]
def qA(x:bY):Bool:=!x.var&&x.own&&x.rows.all λr=>r.all gY
def zI(P:Program)(G:dk)(fn:FuncId)(xs:List AV)(Y:ae)(d:Nat)(K:AV->ae->Prop):Prop:=(xs.map (dG Y)).all iX=U/\eX Y d=U/\∃r a,cZ P G fn (xs.map (dG Y)) eK r a/\((r= .l [] U U/\K (.l [] U U) Y)\/∃b n x,r= .m b n/\box a b=V x/\qA x=U/\K (.m (bV Y d) n) (put Y d x))
theorem ase{P:Program}{G:dk}{κ:ei}{w:World}{Y:ae}{β:Id->Nat}{fn:FuncId}{o:List Value}{xs:List AV}{d:Nat}{K:AV->ae->Prop}(s:cv P κ w Y β)(hG:md G κ w Y β)(H:js κ w Y β o xs)(h:zI P G fn xs Y d K):tJ P fn/\Calls P fn o.toArray w λe w'=>∃v av D C,e= .returned v/\K av D/\ba κ w' D C v av/\cv P κ w' D C/\dw w Y β w' D C:=by obtain⟨hd,E,r,Y1,q,R⟩:=h;have z:=te E;have hF:∀k,κ.F k->k<w.heap.size:=λk W=>gh (s.old k W) s.base;have ab:∀l,nN κ (kills Y l) β ⟨κ.F,w.heap.size⟩ eK β0:=λl k q R=>⟨q,λb y a=>by rw[py] at a;cases a⟩;have M:nN κ Y β ⟨κ.F,w.heap.size⟩ eK β0:=λk q R=>⟨q,λb y a=>by rw[py] at a;cases a⟩;have af:∀i x,xs[i]?=V x->iX (dG Y x)=U:=λi x H=>dV.1 hd _ (dN.2 ⟨x,fC H,rfl⟩);have s0:cv P ⟨κ.F,w.heap.size⟩ w eK β0:=⟨λb x a=>(by rw[py] at a;cases a),λb b' x x' a _ _=>(by rw[py] at a;cases a),hF,dA _⟩;refine⟨q.1,(q.2 ⟨κ.F,w.heap.size⟩ w β0 o s0 (hG.conv M) ⟨by simp[H.1],λi v y hv c=>?_⟩).mono ?_⟩;rw[fp] at c;(cases p:xs[i]? with|none=>rw[p] at c;cases c|some x=>rw[p] at c;simp only[df,bE] at c;subst c;exact(yo (xK (l:=eB x) s (H.2 i v x hv p) (λb a=>a))).convA (af i x p) (ab _));rintro e w' ⟨v,B,he,Z,s1,m⟩;have f:Below w.heap.size w w':=⟨m.os,m.tape,m.output,m.size,λk W=>m.keep k W (λb x a=>by rw[py] at a;cases a)⟩;rcases R with⟨rfl,S⟩|⟨b,n,x,rfl,a,N,S⟩;refine⟨v,_,Y,β,he,S,?_,Es s f,xJ s f⟩;(cases Z with|l0 ht=>exact .l0 ht|l1 ho nf aD g X aE=>simp at X;omega);simp only[qA,bN,eH] at N;have k:=(s1.ok b x a).cl (nZ Z a);obtain⟨cur,cap,q1,q2,q3,q4,q5⟩:=k.ex;have t:w.heap.size<=B b:=(by rcases m.fresh b x a with h|⟨b0,x0,h0,_⟩;exact h;rw[py] at h0;cases h0);have aa:∀i j y,db x.rows i j=V y->gY y=U:=λi j y c=>(by unfold db at c;cases A:x.rows[i]? with|none=>rw[A] at c;cases c|some r=>rw[A] at c;simp only[ek] at c;exact dV.1 (dV.1 N.2 r (fC A)) y (fC c));refine⟨v,_,_,upd β (bV Y d) (B b),he,S,?_,?_,um s f z t⟩;obtain⟨O,ah,rfl,X,hh,T⟩:=oR Z a;have:=ba.m1 (κ:=κ) (w:=w') (β:=upd β (bV Y d) (B b)) (n:=n) (cap:=O) (iy (Y:=Y) (x:=x) z) X (by rw[gx];exact hh) T k.pos;rw[gx] at this;exact this;refine Et (cap:=cap) s f z t k.pos k.info k.rl k.dt q1 q2 q3 q4 λi j y c=>?_;obtain⟨u,u1,u2,u3⟩:=q5 i j y c;refine⟨u,u1,u2,?_⟩;have hs:=aa i j y c;(cases y<;>first|(simp[gY] at hs;done)|skip);obtain⟨h4,h5⟩:=u3.s_inv;rw[h4];exact .s h5
theorem ak2{P:Program}{G:dk}{fn:FuncId}{xs:List AV}{Y:ae}{d:Nat}{K:AV->ae->Prop}:zI P G fn xs Y d K↔∃j s,zI P G fn xs Y d (λa b=>a=j/\b=s)/\K j s:=by unfold zI;constructor;rintro⟨f,g,r,e,h,⟨c,i⟩|⟨b,n,x,c,i,k,m⟩⟩;exact⟨_,_,⟨f,g,r,e,h, .inl ⟨c,rfl,rfl⟩⟩,i⟩;exact⟨_,_,⟨f,g,r,e,h, .inr ⟨b,n,x,c,i,k,rfl,rfl⟩⟩,m⟩;rintro⟨j,s,⟨f,g,r,e,h,⟨c,rfl,rfl⟩|⟨b,n,x,c,i,k,rfl,rfl⟩⟩,l⟩;exact⟨f,g,r,e,h, .inl ⟨c,l⟩⟩;exact⟨f,g,r,e,h, .inr ⟨b,n,x,c,i,k,l⟩⟩
def DU:AV->Bool| .s _=>U| .l [] false false=>U|_=>I
def vY(x:bY):Bool:=!x.var&&x.own&&x.rows.all λr=>r.all DU
def gU(a:ae)(d:Nat):ae->List AV->Option (List AV×ae)
 |Y,[]=>V ([],Y)
 |Y,c::cs=>
  match c with
  | .s v=>(gU a d Y cs).map λp=>(.s v::p.1,p.2)
  | .l [] true true=>(gU a d Y cs).map λp=>(.l [] U U::p.1,p.2)
  | .m b n=>
   match box a b with
   |some x=>if vY x=U then(gU a d (put Y d x) cs).map λp=>(.m (bV Y d) n::p.1,p.2) else J
   |none=>J
  |_=>J
def wn(cs:List AV):List Id:=cs.flatMap λc=>match c with| .m b _=>[b]|_=>[]
def zJ(P:Program)(G:dk)(fn:FuncId)(xs:List AV)(Y:ae)(d:Nat)(K:AV->ae->Prop):Prop:=(xs.map (dG Y)).all iX=U/\eX Y d=U/\∃cs e b c,cZ P G fn (xs.map (dG Y)) eK (.a cs) e/\(wn cs).Nodup/\gU e d Y cs=V (b,c)/\K (.a b) c
theorem ak3{P:Program}{G:dk}{fn:FuncId}{xs:List AV}{Y:ae}{d:Nat}{K:AV->ae->Prop}:zJ P G fn xs Y d K↔∃g s,zJ P G fn xs Y d (λa b=>a=g/\b=s)/\K g s:=by unfold zJ;constructor;rintro⟨h,i,cs,f,c,e,j,k,l,m⟩;exact⟨_,_,⟨h,i,cs,f,c,e,j,k,l,rfl,rfl⟩,m⟩;rintro⟨g,s,⟨h,i,cs,f,c,e,j,k,l,rfl,rfl⟩,m⟩;exact⟨h,i,cs,f,c,e,j,k,l,m⟩
structure Gv(P:Program)(w:World)(x:bY)(B:Nat):Prop where
 own:x.own=U
 pos:0<x.size
 info:(P.info? x.elem).map (·.size)=V x.size
 rl:∀r∈x.rows,L r=x.size
 dt:x.var=I->∀i j y,db x.rows i j=V y->eN y=U
 ex:∃(cur:Array Value) (cap:Nat),w.heap[B]?=V (.cells cur x.elem (0,0))/\cur.size=cap*x.size/\L x.rows<=cap/\cap<=maxLen/\
  ∀i j y,db x.rows i j=V y->∃v,cur[i*x.size+j]?=V v/\ir v=U/\∀(κ:ei) (Y:ae) (β:Id->Nat),ba κ w Y β v y
structure qp(P:Program)(w w':World)(Y:ae)(β:Id->Nat)(Yc:ae)(βc:Id->Nat):Prop where
 len:L Yc=L Y
 old:∀c y,box Y c=V y->box Yc c=V y/\βc c=β c
 cas:∀c y,box Yc c=V y->(box Y c=V y/\βc c=β c)\/(w.heap.size<=βc c/\Gv P w' y (βc c))
 inj:∀c c' y y',box Yc c=V y->box Yc c'=V y'->βc c=βc c'->c=c'
 dead:∀c,jO Y c=U->jO Yc c=U
section
variable{P:Program}{κ:ei}{w w':World}{Y Yc:ae}{β βc:Id->Nat}
theorem qp.ext(N:qp P w w' Y β Yc βc)(s:cv P κ w Y β)(h:Below w.heap.size w w'):dw w Y β w' Yc βc:=
 ⟨h.os,h.tape,h.output,h.size,λk f _=>h.block k f,N.dead,λb x a=> .inr ⟨x,(N.old b x a).1,rfl,rfl,rfl,(N.old b x a).2,λcur e=>⟨cur,by rw[h.block _ (s.lt a)];exact e,rfl⟩⟩,λb x a=>by
  rcases N.cas b x a with⟨c,d⟩|⟨c,_⟩
  ·exact .inr ⟨b,x,c,d.symm⟩
  ·exact .inl c⟩
theorem qp.sim(N:qp P w w' Y β Yc βc)(s:cv P κ w Y β)(h:Below w.heap.size w w'):cv P κ w' Yc βc:=by
 have e:=N.ext s h
 refine⟨λc y d=>?_,λc g y z d n m=>N.inj c g y z d n m,s.old,gl s.base h.size⟩
 rcases N.cas c y d with⟨b,k⟩|⟨b,f⟩
 ·exact(s.ok c y b).ext e k (h.block _ (s.lt b))
 ·obtain⟨cur,cap,o,p,q,r,t⟩:=f.ex
  exact .of (λ_=>(s.new b).2) (s.new b).1 ⟨f.pos,f.info,f.rl,f.dt,cur,cap,o,p,q,r,λi j a l=>by
   obtain⟨v,u,x,A⟩:=t i j a l
   exact⟨v,u,x,A _ _ _⟩⟩
theorem qp.put{d:Nat}{x:bY}{B:Nat}(N:qp P w w' Y β Yc βc)(f:d<L Yc)(n:w.heap.size<=B)(o:Gv P w' x B)(l:∀c y,box Yc c=V y->βc c≠B):qp P w w' Y β (Go.Ab.put Yc d x) (upd βc (bV Yc d) B):=by refine⟨by rw[Bf];exact N.len,λc y e=>?_,λc y e=>?_,λc j y z p q b=>?_,λc e=>Dy f (N.dead c e)⟩;obtain⟨k,m⟩:=N.old c y e;exact⟨uA f k,by rw[iG (AR k)];exact m⟩;rcases pz f e with⟨rfl,rfl⟩|⟨a,h⟩;rw[gx];exact .inr ⟨n,o⟩;rw[iG a];exact N.cas c y h;rcases pz f p with⟨rfl,rfl⟩|⟨a,h⟩<;>rcases pz f q with⟨rfl,rfl⟩|⟨g,i⟩;rfl;rw[gx,iG g] at b;exact absurd b.symm (l j z i);rw[gx,iG a] at b;exact absurd b (l c y h);rw[iG a,iG g] at b;exact N.inj c j y z h i b
theorem aIG{aa:ei}{A:ae}{z:Id->Nat}{d:Nat}(s1:cv P aa w' A z)(aA:∀b x,box A b=V x->w.heap.size<=z b):
  ∀(cs:List AV) (Yc:ae) (βc:Id->Nat) (vs:List Value) (q:List AV) (s:ae),qp P w w' Y β Yc βc->d<L Yc->(∀b∈wn cs,∀x,box A b=V x->∀c y,box Yc c=V y->βc c≠z b)->(wn cs).Nodup->
   L vs=L cs->(∀(i:Nat) v c,vs[i]?=V v->cs[i]?=V c->ba aa w' A z v c)->gU A d Yc cs=V (q,s)->
   ∃e,qp P w w' Y β s e/\(∀c y,box Yc c=V y->box s c=V y/\e c=βc c)/\L q=L cs/\∀(i:Nat) v c,vs[i]?=V v->q[i]?=V c->ba κ w' s e v c:=by
 intro cs
 induction cs with
 |nil=>
  intro Yc βc vs q s N H O G hl hr a
  simp only[gU,bE,iK] at a
  obtain⟨rfl,rfl⟩:=a
  exact⟨βc,N,λc y h=>⟨h,rfl⟩,rfl,λi v c _ E=>by simp at E⟩
 |cons c0 cs ih=>
  intro Yc βc vs q s N H O G hl hr a
  obtain⟨Z,vs,rfl⟩:∃Z aF,vs=Z::aF:=by
   cases vs with
   |nil=>simp at hl
   |cons v vs=>exact⟨v,vs,rfl⟩
  have af:L vs=L cs:=by simpa using hl
  have M:=hr 0 Z c0 rfl rfl
  have ag:∀(i:Nat) v c,vs[i]?=V v->cs[i]?=V c->ba aa w' A z v c:=λi v c B f=>hr (i+1) v c B f
  have X:∀x,(∀(κ:ei) (Y:ae) (β:Id->Nat),ba κ w' Y β Z x)->wn (c0::cs)=wn cs->(gU A d Yc cs).map (λp=>(x::p.1,p.2))=V (q,s)->∃e,qp P w w' Y β s e/\(∀c y,box Yc c=V y->box s c=V y/\e c=βc c)/\L q=L (c0::cs)/\∀(i:Nat) v c,(Z::vs)[i]?=V v->q[i]?=V c->ba κ w' s e v c:=by
   intro x hx R a
   cases f:gU A d Yc cs with
   |none=>rw[f] at a;cases a
   |some p=>
    rw[f] at a
    simp only[df,bE,iK] at a
    obtain⟨rfl,rfl⟩:=a
    rw[R] at O G
    obtain⟨e,q1,q2,q3,q4⟩:=ih Yc βc vs p.1 p.2 N H O G af ag f
    refine⟨e,q1,q2,by simp[q3],λi v c B f=>?_⟩
    cases i with
    |zero=>simp at B f;subst B f;exact hx _ _ _
    |succ i=>exact q4 i v c B f
  cases c0 with
  |s v=>
   simp only[gU] at a
   refine X (.s v) (λκ Y β=>?_) rfl a
   obtain⟨C,h5⟩:=M.s_inv
   rw[C];exact .s h5
  |l rows t o=>
   cases rows with
   |nil=>
    cases t with
    |false=>simp[gU] at a
    |true=>
     cases o with
     |false=>simp[gU] at a
     |true=>
      simp only[gU] at a
      refine X (.l [] U U) (λκ Y β=>?_) rfl a
      cases M with
      |l0 h=>exact .l0 h
      |l1 ho nf az g S T=>simp at S;omega
   |cons r rows=>simp[gU] at a
  |m b n=>
   simp only[gU] at a
   cases D:box A b with
   |none=>rw[D] at a;cases a
   |some x=>
    rw[D] at a
    simp only at a
    by_cases F:vY x=U
    ·rw[if_pos F] at a
     cases f:gU A d (Go.Ab.put Yc d x) cs with
     |none=>rw[f] at a;cases a
     |some p=>
      rw[f] at a
      simp only[df,bE,iK] at a
      obtain⟨rfl,rfl⟩:=a
      have R:wn (.m b n::cs)=b::wn cs:=rfl
      rw[R] at O G
      obtain⟨aB,ap⟩:=List.nodup_cons.1 G
      simp only[vY,bN,eH] at F
      have k:=(s1.ok b x D).cl (nZ M D)
      obtain⟨cur,cap,k1,k2,k3,k4,k5⟩:=k.ex
      have hf:Gv P w' x (z b):=by
       refine⟨F.1.2,k.pos,k.info,k.rl,k.dt,cur,cap,k1,k2,k3,k4,λi j y K=>?_⟩
       obtain⟨u,u1,u2,u3⟩:=k5 i j y K
       refine⟨u,u1,u2,λκ Y β=>?_⟩
       have hs:DU y=U:=by
        unfold db at K
        cases W:x.rows[i]? with
        |none=>rw[W] at K;cases K
        |some r=>
         rw[W] at K
         simp only[ek] at K
         exact dV.1 (dV.1 F.2 r (fC W)) y (fC K)
       cases y with
       |s v=>
        obtain⟨C,h5⟩:=u3.s_inv
        rw[C];exact .s h5
       |l rows t o=>
        cases rows with
        |nil=>
         cases u3 with
         |l0 h=>exact .l0 h
         |l1 ho nf az g S T=>simp at S;omega
        |cons r rows=>simp[DU] at hs
       |_=>simp[DU] at hs
      have N':=N.put H (aA b x D) hf (λc y E=>O b (by simp) x D c y E)
      obtain⟨e,q1,q2,q3,q4⟩:=ih (Go.Ab.put Yc d x) (upd βc (bV Yc d) (z b)) vs p.1 p.2 N' (by rw[Bf];exact H) (λb2 ad x2 ah c y E=>by
       rcases pz H E with⟨ay,aW⟩|⟨T,ax⟩
       ·rw[ay,gx]
        intro he
        have:=s1.inj b b2 x x2 D ah he
        subst this
        exact aB ad
       ·rw[iG T]
        exact O b2 (zu _ ad) x2 ah c y ax) ap af ag f
      refine⟨e,q1,λc y E=>?_,by simp[q3],λi v c B f=>?_⟩
      ·obtain⟨h3,C⟩:=q2 c y (uA H E)
       exact⟨h3,by rw[C,iG (AR E)]⟩
      ·cases i with
       |zero=>
        simp at B f
        subst B f
        obtain⟨ak,aI,rfl,S,hh,an⟩:=oR M D
        obtain⟨h3,C⟩:=q2 (bV Yc d) x (iy H)
        rw[gx] at C
        have:=ba.m1 (κ:=κ) (w:=w') (β:=e) (n:=n) (cap:=ak) h3 S (by rw[C];exact hh) an k.pos
        rw[C] at this
        exact this
       |succ i=>exact q4 i v c B f
    ·rw[if_neg F] at a;cases a
  |_=>simp[gU] at a
end
theorem asf{P:Program}{G:dk}{κ:ei}{w:World}{Y:ae}{β:Id->Nat}{fn:FuncId}{m:List Value}{xs:List AV}{d:Nat}{K:AV->ae->Prop}
  (s:cv P κ w Y β)(hG:md G κ w Y β)(z:js κ w Y β m xs)(h:zJ P G fn xs Y d K):
  tJ P fn/\Calls P fn m.toArray w λe w'=>∃v E j g,e= .returned v/\K E j/\ba κ w' j g v E/\cv P κ w' j g/\dw w Y β w' j g:=by
 obtain⟨hd,u,cs,Y1,H,j,p,W,Z,hK⟩:=h
 have S:=te u
 have hF:∀k,κ.F k->k<w.heap.size:=λk C=>gh (s.old k C) s.base
 have D:∀l,nN κ (kills Y l) β ⟨κ.F,w.heap.size⟩ eK β0:=λl k p N=>⟨p,λb y f=>by rw[py] at f;cases f⟩
 have A:nN κ Y β ⟨κ.F,w.heap.size⟩ eK β0:=λk p N=>⟨p,λb y f=>by rw[py] at f;cases f⟩
 have O:∀i x,xs[i]?=V x->iX (dG Y x)=U:=λi x z=>dV.1 hd _ (dN.2 ⟨x,fC z,rfl⟩)
 have s0:cv P ⟨κ.F,w.heap.size⟩ w eK β0:=⟨λb x f=>(by rw[py] at f;cases f),λb b' x x' f _ _=>(by rw[py] at f;cases f),hF,dA _⟩
 refine⟨p.1,(p.2 ⟨κ.F,w.heap.size⟩ w β0 m s0 (hG.conv A) ⟨by simp[z.1],λi v y hv q=>?_⟩).mono ?_⟩
 ·rw[fp] at q
  cases n:xs[i]? with
  |none=>rw[n] at q;cases q
  |some x=>
   rw[n] at q
   simp only[df,bE] at q
   subst q
   exact(yo (xK (l:=eB x) s (z.2 i v x hv n) (λb f=>f))).convA (O i x n) (D _)
 ·rintro e w' ⟨v,ab,R,hr,s1,o⟩
  have r:Below w.heap.size w w':=⟨o.os,o.tape,o.output,o.size,λk C=>o.keep k C (λb x f=>by rw[py] at f;cases f)⟩
  have t:∀b x,box Y1 b=V x->w.heap.size<=ab b:=λb x f=>by
   rcases o.fresh b x f with h|⟨b0,x0,M,_⟩
   ·exact h
   ·rw[py] at M;cases M
  cases hr with
  |@a vs cs T B X=>
   have N0:qp P w w' Y β Y β:=⟨rfl,λc y h=>⟨h,rfl⟩,λc y h=> .inl ⟨h,rfl⟩,s.inj,λc h=>h⟩
   obtain⟨g,q1,q2,q3,q4⟩:=aIG (κ:=κ) s1 t cs Y β vs H j N0 S (λb _ x f c y B R=>by
    have N:=s.lt B
    have h3:=t b x f
    omega) W T X Z
   refine⟨_,_,j,g,R,hK,?_,q1.sim s r,q1.ext s r⟩
   exact .a (by rw[q3];exact T) B q4
structure R2(b:Id)(x1:bY)(Y0 Y1:ae):Prop where
 len:L Y1=L Y0
 ver:∀k,(aZ Y0 k).ver<=(aZ Y1 k).ver
 keep:∀c y,c≠b->box Y0 c=V y->box Y1 c=V y
 here:box Y1 b=V x1
def zH(P:Program)(G:dk)(fn:FuncId)(xs:List AV)(Y:ae)(K:AV->ae->Prop):Prop:=∃r b x a n,xs.head?=V (.m b n)/\box Y b=V x/\(qA a=U/\a.elem=x.elem/\a.size=x.size/\a.own=x.own/\a.var=x.var/\L a.rows=L x.rows)/\(r= .t []\/∃e,r= .m b e)/\(∀c,L c=L Y->(∀k∈xs.flatMap pP,aZ Y k=aZ c k)->∃d,cZ P G fn xs c r d/\R2 b a c d)/\K r (wr Y b a)
theorem ak0{P:Program}{G:dk}{fn:FuncId}{xs:List AV}{Y:ae}{K:AV->ae->Prop}:zH P G fn xs Y K↔∃c s,zH P G fn xs Y (λa b=>a=c/\b=s)/\K c s:=by unfold zH;constructor;rintro⟨r,b,x,i,n,d,e,f,g,h,j⟩;exact⟨_,_,⟨r,b,x,i,n,d,e,f,g,h,rfl,rfl⟩,j⟩;rintro⟨c,s,⟨r,b,x,i,n,d,e,f,g,h,rfl,rfl⟩,k⟩;exact⟨r,b,x,i,n,d,e,f,g,h,k⟩
theorem asc{P:Program}{G:dk}{κ:ei}{w:World}{Y:ae}{β:Id->Nat}{fn:FuncId}{m:List Value}{xs:List AV}{K:AV->ae->Prop}(s:cv P κ w Y β)(hG:md G κ w Y β)(hx:js κ w Y β m xs)(h:zH P G fn xs Y K):tJ P fn/\Calls P fn m.toArray w λe w'=>∃v av D C,e= .returned v/\K av D/\ba κ w' D C v av/\cv P κ w' D C/\dw w Y β w' D C:=by obtain⟨r,b,x,o,n,hh,g,⟨N,he,hz,hw,hv,hl⟩,hr,W,hK⟩:=h;obtain⟨Y1,p,lo⟩:=W Y rfl λ_ _=>rfl;refine⟨p.1,(p.2 κ w β m s hG hx).mono ?_⟩;rintro e w' ⟨v,B,k0,Z,E,l⟩;have M:box (wr Y b o) b=V o:=lO g;have kp:Kp (wr Y b o) Y1:=(by refine⟨by rw[lo.len,wr,List.length_set],λk=>?_,λc y d=>?_⟩;by_cases hk:k=b.1;subst hk;rw[wr,iD (lN g)];exact lo.ver _;rw[wr,jQ hk];exact lo.ver _;rcases sL g d with⟨rfl,rfl⟩|⟨p,T⟩;exact lo.here;exact lo.keep c y p T);have al:∀c y,box (wr Y b o) c=V y->∃H,box Y c=V H:=λc y d=>(by rcases sL g d with⟨rfl,rfl⟩|⟨p,T⟩;exact⟨_,g⟩;exact⟨_,T⟩);have am:∀c y,box Y c=V y->∃F,box (wr Y b o) c=V F:=λc y d=>(by by_cases e:c=b;subst e;exact⟨_,M⟩;exact⟨_,DY g d e⟩);have e':dw w Y β w' (wr Y b o) B:=(by refine⟨l.os,l.tape,l.output,l.size,l.keep,λc d=>Ll g d,λc y d=>?_,λc y d=>?_⟩;obtain⟨F,A⟩:=am c y d;rcases l.live c y d with h|⟨x',q1,q2,q3,q4,q5,q6⟩;exact absurd (kp.keep _ _ A) (λS=>qD h S);have:=kp.keep _ _ A;rw[q1] at this;cases this;exact .inr ⟨_,A,q2,q3,q4,q5,q6⟩;obtain⟨H,O⟩:=al c y d;rcases l.live c H O with h|⟨x',q1,q2,q3,q4,q5,q6⟩;exact absurd (kp.keep _ _ d) (λS=>qD h S);exact .inr ⟨c,H,O,q5.symm⟩);have s':cv P κ w' (wr Y b o) B:=(by refine⟨λc y d=>?_,λc c' y F d ad e=>E.inj c c' y F (kp.keep _ _ d) (kp.keep _ _ ad) e,E.old,E.base⟩;have q:=E.ok c y (kp.keep _ _ d);refine⟨q.ow,q.nf,λR=>?_,q.sp⟩;have k:=q.cl R;obtain⟨cur,cap,p1,p2,p3,p4,p5⟩:=k.ex;refine⟨k.pos,k.info,k.rl,k.dt,cur,cap,p1,p2,p3,p4,λi j a f=>?_⟩;obtain⟨u,u1,u2,u3⟩:=p5 i j a f;refine⟨u,u1,u2,?_⟩;rcases sL g d with⟨rfl,rfl⟩|⟨aV,af⟩;have hs:gY a=U:=(by simp only[qA,bN] at N;unfold db at f;cases z:y.rows[i]? with|none=>rw[z] at f;cases f|some rr=>rw[z] at f;simp only[ek] at f;exact dV.1 (dV.1 N.2 rr (fC z)) a (fC f));(cases a<;>first|(simp[gY] at hs;done)|skip);obtain⟨h4,h5⟩:=u3.s_inv;rw[h4];exact .s h5;obtain⟨aB,az,_,_,_,_,g5⟩:=((s.ok c y af).cl R).ex;obtain⟨v0,_,_,g3⟩:=g5 i j a f;exact u3.shrink kp (g3.ext e'));refine⟨v,r,_,B,k0,hK,?_,s',e'⟩;rcases hr with rfl|⟨n',rfl⟩;(cases Z with|t hl h=>exact .t hl λi v c hv d=>by simp at d);obtain⟨ay,aA,rfl,hn,ag,X⟩:=oR Z lo.here;exact .m1 M hn ag X (nZ Z lo.here)
def tS(P:Program)(G:dk)(fn:FuncId)(xs:List AV)(Y:ae)(d:Nat)(K:AV->ae->Prop):Prop:=zI P G fn xs Y d K\/zH P G fn xs Y K\/zJ P G fn xs Y d K
theorem asd{P:Program}{G:dk}{κ:ei}{w:World}{Y:ae}{β:Id->Nat}{fn:FuncId}{a:List Value}{xs:List AV}{d:Nat}{K:AV->ae->Prop}(s:cv P κ w Y β)(f:md G κ w Y β)(g:js κ w Y β a xs)(h:tS P G fn xs Y d K):tJ P fn/\Calls P fn a.toArray w λe w'=>∃v i c b,e= .returned v/\K i c/\ba κ w' c b v i/\cv P κ w' c b/\dw w Y β w' c b:=by rcases h with h|h|h;exact ase s f g h;exact asc s f g h;exact asf s f g h
theorem ak1{P:Program}{G:dk}{fn:FuncId}{xs:List AV}{Y:ae}{d:Nat}{K:AV->ae->Prop}:tS P G fn xs Y d K↔∃c s,tS P G fn xs Y d (λa b=>a=c/\b=s)/\K c s:=by unfold tS;constructor;rintro(h|h|h);obtain⟨c,s,e,f⟩:=ak2.1 h;exact⟨c,s, .inl e,f⟩;obtain⟨c,s,e,f⟩:=ak0.1 h;exact⟨c,s, .inr (.inl e),f⟩;obtain⟨c,s,e,f⟩:=ak3.1 h;exact⟨c,s, .inr (.inr e),f⟩;rintro⟨c,s,e|e|e,f⟩;exact .inl (ak2.2 ⟨c,s,e,f⟩);exact .inr (.inl (ak0.2 ⟨c,s,e,f⟩));exact .inr (.inr (ak3.2 ⟨c,s,e,f⟩))
def ge(τ:List AV)(d:Option Nat)(v:AV):List AV:=
 match d with
 |some d=>τ.set d v
 |none=>τ
def rh(ops:Array Oper)(τ:List AV)(o:Oper):Option Bool:=
 match o.guard with
 |none=>V U
 |some (j,c)=>
  match(ops[j]?).bind (·.dst) with
  |none=>V I
  |some t=>
   match τ[t]? with
   |some (.s (.bool b))=>V (b==c)
   |some (.t _)=>V I
   |none=>V I
   |_=>J
def Kh(P:Program)(G:dk)(fn:FuncId)(xs:List AV)(Y:ae)(K:AV->Prop):Prop:=∃r,zm P G fn (xs.map (dG Y)) (·=r)/\(xs.map (dG Y)).all iX=U/\kG r=U/\(nA Y xs=I\/uN r=U)/\K r
def j0(P:Program)(G:dk)(τ:List AV)(Y:ae)(o:Oper)(K:AV->ae->Prop):Prop:=
 match dz P (du G τ) Y o.op with
 |some b=>K b Y
 |none=>
  match eA P (du G τ) Y (o.dst.getD 0) o.op with
  |some (b,Y')=>K b Y'
  |none=>
   match o.op with
   | .call c=>
    match c.callee with
    | .value f=>
     match du G τ f with
     | .f fn first cap=>
      if G.nw fn=U then tS P G fn (first++c.args.toList.map (du G τ)++cap) Y (o.dst.getD 0) K
      else if G.imp fn=U then tR P G fn (first++c.args.toList.map (du G τ)++cap) Y (o.dst.getD 0) K
      else Kh P G fn (first++c.args.toList.map (du G τ)++cap) Y λr=>K r Y
     |_=>False
    |_=>False
   |_=>False
def kS(P:Program)(G:dk)(ops:Array Oper)(o:Oper)(K:List AV->ae->Prop)(τ:List AV)(Y:ae):Prop:=
 match rh ops τ o with
 |some true=>j0 P G τ Y o λb Y'=>K (ge τ o.dst b) Y'
 |some false=>K (ge τ o.dst (.t [])) Y
 |none=>False
def rE(P:Program)(G:dk)(ops:Array Oper):List Oper->(List AV->ae->Prop)->List AV->ae->Prop|[],K=>K|o::l,K=>kS P G ops o (rE P G ops l K)
structure jG(P:Program)(G:dk)(κ:ei)(a:Act)(w:World)(τ:List AV)(Y:ae)(β:Id->Nat):Prop where
 defers:a.defers=[]
 reps:js κ w Y β a.tmps.toList τ
 sim:cv P κ w Y β
 glob:md G κ w Y β
section
variable{P:Program}{G:dk}{κ:ei}{a:Act}{w w':World}{τ τ':List AV}{Y Y':ae}{β β':Id->Nat}
theorem js.ext{vs:List Value}{xs:List AV}(h:js κ w Y β vs xs)(e:dw w Y β w' Y' β'):js κ w' Y' β' vs xs:=⟨h.1,λi v x b c=>(h.2 i v x b c).ext e⟩
theorem js.get{vs:Array Value}{xs:List AV}(h:js κ w Y β vs.toList xs)(t:Nat):ba κ w Y β (vs.getD t undef) (xs.getD t .u):=by by_cases c:t<L xs;have d:t<L vs.toList:=(by rw[h.1];exact c);have g:vs.toList[t]?=V vs.toList[t]:=eC d;have b:xs[t]?=V xs[t]:=eC c;have:=h.2 t _ _ g b;have e:vs.getD t undef=vs.toList[t]:=(by have:t<vs.size:=(by simpa using d);simp[pZ,this]);have f:xs.getD t .u=xs[t]:=(by simp[GF,b]);rw[e,f];exact this;have:xs.getD t .u= .u:=(by simp[GF,qi (show L xs<=t by omega)]);rw[this];exact .u
theorem jG.eval(h:jG P G κ a w τ Y β)(x:Operand):ba κ w Y β (a.eval x) (du G τ x):=by cases x with|tmp t=>exact h.reps.get t|const v=>exact axB v|global g=>simp only[Act.eval,du];(cases b:G g with|none=>exact .u|some cs=>exact(h.glob g cs b).2)|func f=>exact .f rfl rfl (λi v c h=>by simp at h) (λi v c h=>by simp at h)
theorem js.set{vs:Array Value}{xs:List AV}{v:Value}{x:AV}(h:js κ w Y β vs.toList xs)(d:Nat)(g:ba κ w Y β v x):js κ w Y β (vs.setIfInBounds d v).toList (xs.set d x):=by refine⟨by simpa using h.1,λi u y b c=>?_⟩;rw[Array.toList_setIfInBounds,xh] at b;rw[xh] at c;by_cases e:d=i;rw[if_pos e] at b c;split at b;rename_i f;rw[if_pos (by rw[<-h.1];exact f)] at c;(cases b;cases c;exact g);(cases b);rw[if_neg e] at b c;exact h.2 i u y b c
theorem jG.put(h:jG P G κ a w τ Y β)(e:dw w Y β w' Y' β')(s:cv P κ w' Y' β')(d:Option Nat){v:Value}{x:AV}(b:ba κ w' Y' β' v x):jG P G κ (a.put d v) w' (ge τ d x) Y' β':=by cases d with|none=>exact⟨h.defers,h.reps.ext e,s,h.glob.ext e⟩|some d=>exact⟨h.defers,(h.reps.ext e).set d b,s,h.glob.ext e⟩
theorem QT:ba κ w Y β undef (.t []):= .t (vs:=[]) rfl (λi v c h=>by simp at h)
theorem apG{ops:Array Oper}{o:Oper}{b:Bool}(h:jG P G κ a w τ Y β)(d:rh ops τ o=V b):Region.wanted o (yielded ops a.tmps)=b:=by unfold rh at d;unfold Region.wanted;split at d;rename_i f;cases d;rw[f];rename_i j i f;rw[f];simp only;unfold yielded;cases n:(ops[j]?).bind (·.dst) with|none=>rw[n] at d;cases d;rfl|some t=>rw[n] at d;simp only[ek] at d⊢;by_cases g:t<L τ;have p:t<L a.tmps.toList:=(by rw[h.reps.1];exact g);have m:τ[t]?=V τ[t]:=eC g;have q:a.tmps[t]?=V (a.tmps.toList[t]):=(by have:t<a.tmps.size:=(by simpa using p);simp[this]);have k:=h.reps.2 t _ _ (eC p) m;rw[m] at d;rw[q];generalize a.tmps.toList[t]=v at*;generalize τ[t]=x at*;(cases x with|s u=>obtain⟨rfl,_⟩:=k.s_inv;(cases v<;>simp only at d<;>first|(cases d;done)|skip);(cases d);rename_i c;(cases c<;>cases i<;>rfl)|t vs=>(cases d);(cases k with|t=>rfl)|_=>cases d);have e:L τ<=t:=Nat.le_of_not_lt g;rw[qi e] at d;(cases d);have:a.tmps[t]?=J:=(by have l:=h.reps.1;simp only[Rz] at l;rw[Array.getElem?_eq_none];rw[l];exact e);rw[this];rfl
def vE(P:Program)(G:dk)(κ:ei)(w:World)(Y:ae)(β:Id->Nat)(K:List AV->ae->Prop)(b:Act)(w':World):Prop:=∃τ' Y' β',K τ' Y'/\jG P G κ b w' τ' Y' β'/\dw w Y β w' Y' β'
theorem ash{o:Oper}{K:AV->ae->Prop}{N:Act->World->Prop}{Q:Exit->Act->World->Prop}(h:jG P G κ a w τ Y β)(b:j0 P G τ Y o K)(t:∀j Y' v w' β',K j Y'->ba κ w' Y' β' v j->cv P κ w' Y' β'->dw w Y β w' Y' β'->N (a.put o.dst v) w'):o.wp P a w N Q:=by unfold j0 at b;split at b;rename_i j u;obtain⟨v,m,s⟩:=aHZ h.sim h.eval u;unfold Oper.wp;rw[m];exact t j Y v w β b s h.sim (dw.refl _ _ _);split at b;rename_i j Y' he;obtain⟨nx,v,w',β',m,s,R,S,T⟩:=axL h.sim h.eval he;unfold Oper.wp;rw[m];rcases s with rfl|⟨rfl,rfl⟩;exact t j Y' v w' β' b R S T;exact t j Y' undef w' β' b R S T;split at b;rename_i c ab;split at b;rename_i f D;split at b;rename_i fn first cap hf;have F:=h.eval f;rw[hf] at F;generalize Z:a.eval f=fv at F;(cases F with|@f _ fs cs _ _ hl aa u ac=>have k:js κ w Y β (fs++c.args.toList.map a.eval++cs) (first++c.args.toList.map (du G τ)++cap):=(by have A:∀{vs H:List Value} {xs ys:List AV},js κ w Y β vs xs->js κ w Y β H ys->js κ w Y β (vs++H) (xs++ys):=λ{vs H xs ys} m s=>(by refine⟨by simp[m.1,s.1],λi v x d l=>?_⟩;rw[rA] at d l;rw[m.1] at d;split at d;rename_i E;rw[if_pos E] at l;exact m.2 i v x d l;rename_i E;rw[if_neg E] at l;exact s.2 _ v x d l);refine A (A ⟨hl,u⟩ ⟨by simp,λi v x d l=>?_⟩) ⟨aa,ac⟩;rw[fp] at d l;cases X:c.args.toList[i]? with|none=>rw[X] at d;cases d|some y=>rw[X] at d l;cases d;cases l;exact h.eval y);have q:tJ P fn->(execOp a.eval o).run P w= .ok (.enter fn (fs++c.args.toList.map a.eval++cs).toArray) w:=(by rintro⟨fd,cd,e1,e2,e3⟩;have z:fs.toArray++Array.map a.eval c.args++cs.toArray=(fs++c.args.toList.map a.eval++cs).toArray:=(by rw[<-qb];simp);simp only[execOp,ab,resolve,D,Z,Deferred.ofValue,invoke,Sem.run_bind,Sem.run_pure,Result.andThen_ok,callFunc,z];have M:¬fd.name= "runtime.NumGoroutine" :=(by simpa using e3);simp[e1,e2,M]);split at b;obtain⟨n,g⟩:=asd h.sim h.glob k b;unfold Oper.wp;rw[q n];refine Calls.mono g ?_;rintro e w' ⟨v,j,Y',β',rfl,C,d,hs,p⟩;exact t j Y' v w' β' C d hs p;split at b;obtain⟨n,g⟩:=asb h.sim h.glob k b;unfold Oper.wp;rw[q n];refine Calls.mono g ?_;rintro e w' ⟨v,j,Y',β',rfl,C,d,hs,p⟩;exact t j Y' v w' β' C d hs p;obtain⟨r0,O,f2,B⟩:=b;have g:=axb h.sim h.glob k O f2 (λr u=>by subst u;exact⟨B.1,B.2.1⟩);unfold Oper.wp;rw[q O.1];refine Calls.mono g ?_;rintro e w' ⟨v,r,rfl,hR,d,W⟩;subst hR;exact t r Y v w' β B.2.2 d (Es h.sim W) (xJ h.sim W));exact b.elim;exact b.elim;exact b.elim
theorem ak5{ops:Array Oper}{o:Oper}{K:List AV->ae->Prop}{N:Act->World->Prop}{Q:Exit->Act->World->Prop}(h:jG P G κ a w τ Y β)(b:kS P G ops o K τ Y)(f:∀d w',vE P G κ w Y β K d w'->N d w'):if Region.wanted o (yielded ops a.tmps) then o.wp P a w N Q\/(o.asks P a w/\LetsOut Q) else N (a.put o.dst undef) w:=by unfold kS at b;split at b;rename_i c;rw[apG h c,if_pos rfl];left;refine ash h b (λj Y' v w' β' g i s e=>f _ _ ⟨_,_,β',g,h.put e s o.dst i,e⟩);rename_i c;rw[apG h c,if_neg (by simp)];exact f _ _ ⟨_,_,β,b,h.put (dw.refl _ _ _) h.sim o.dst QT,dw.refl _ _ _⟩;exact b.elim
theorem vE.trans{K:List AV->ae->Prop}{f:World}{c:ae}{b:Id->Nat}{d:Act}(h:vE P G κ w Y β K d w')(e:dw f c b w Y β):vE P G κ f c b K d w':=by obtain⟨τ',Y',β',g,i,j⟩:=h;exact⟨τ',Y',β',g,i,e.trans j⟩
theorem asm{ops:Array Oper}{Q:Exit->Act->World->Prop}{K:List AV->ae->Prop}:∀(l:List Oper) (k:Nat) {a:Act} {w:World} {τ:List AV} {Y:ae} {β:Id->Nat},ops.toList.drop k=l->jG P G κ a w τ Y β->rE P G ops l K τ Y->(∀c w',vE P G κ w Y β K c w'->Q .normal c w')->wpOps P ops Q (GO k (ops.size-k)) a w:=by intro l;induction l with|nil=>intro k a w τ Y β b h e d;have:ops.size-k=0:=(by have:=congrArg L b;simp at this;omega);rw[this];exact d a w ⟨τ,Y,β,e,h,dw.refl _ _ _⟩|cons o l r=>intro k a w τ Y β b h e d;have t:k<ops.size:=(by have:=congrArg L b;simp at this;omega);have q:ops[k]?=V o:=(by have:=congrArg (·[0]?) b;simp only[mf,kP,qh] at this;simpa using this);have f:ops.toList.drop (k+1)=l:=(by have:=congrArg GQ b;simpa using this);rw[show ops.size-k=(ops.size-(k+1))+1 by omega,RX];simp only[wpOps,q];refine ak5 h e (λc w' p=>?_);obtain⟨τ',Y',β',j,m,n⟩:=p;exact r (k+1) f m j (λi s g=>d i s (g.trans n))
end
def yf:Op->Bool| .move _| .assign _=>U|_=>I
def iU(E:Operand->AV)(op:Op):List Nat:=bif yf op then[] else op.operands.toList.flatMap λx=>cD (E x)
theorem qN{E:Operand->AV}{op:Op}{x:Operand}{k:Nat}(h:yf op=I)(b:x∈op.operands.toList)(a:k∈cD (E x)):k∈iU E op:=by unfold iU;rw[h];exact iI.2 ⟨x,b,a⟩
theorem nQ{Y Y0:ae}{b:Id}(h:aZ Y b.1=aZ Y0 b.1):box Y b=box Y0 b:=by unfold box;rw[h]
def iL(Y Y0:ae)(ks:List Nat):Prop:=∀k∈ks,aZ Y k=aZ Y0 k
def RG(E E0:Operand->AV)(Y Y0:ae)(x:Operand):Prop:=E x=E0 x/\iL Y Y0 (cD (E x))
section
variable{P:Program}{E E0:Operand->AV}{Y Y0:ae}
theorem yF{b:Id}{i j:Nat}(h:iL Y Y0 (cD (.p b i j))):box Y b=box Y0 b:=nQ (h _ (by simp[cD,dC,dK]))
theorem yE{b:Id}{n:Nat}(h:iL Y Y0 (cD (.m b n))):box Y b=box Y0 b:=nQ (h _ (by simp[cD,dC,dK]))
theorem Q3{k:Nat}{b:Id}{o n:Nat}(h:iL Y Y0 (cD (.g k b o n))):box Y b=box Y0 b:=nQ (h _ (by simp[cD,dC,dK]))
theorem aE8{x:AV}(h:iL Y Y0 (cD x)):iE Y x=iE Y0 x:=by(cases x<;>simp only[iE]);rw[yF h]
theorem azR{s:TypeId}{x:AV}{f:Nat}(h:iL Y Y0 (cD x)):vX P Y s x f=vX P Y0 s x f:=by(cases x<;>simp only[vX]);rw[yF h]
theorem aB3{t:TypeId}{x:AV}{i:Nat}(h:iL Y Y0 (cD x)):uy P Y t x i=uy P Y0 t x i:=by(cases x<;>simp only[uy]);rw[yF h];rw[yE h];rw[Q3 h]
theorem aIn{t:TypeId}{x:AV}{lo a mx:Option Nat}(h:iL Y Y0 (cD x)):uX P Y t x lo a mx=uX P Y0 t x lo a mx:=by(cases x<;>simp only[uX]);rw[yE h]
theorem aC8{t:TypeId}{x:AV}(h:iL Y Y0 (cD x)):tk P Y t x=tk P Y0 t x:=by unfold tk;split;rw[yE h];rw[Q3 h];rfl
theorem aDo{a:MT}{x ix:AV}{b:Bool}(h:iL Y Y0 (cD x)):oP a Y x ix b=oP a Y0 x ix b:=by unfold oP;split;rw[Q3 h];rfl
theorem Kn{x:Option Operand}(h:∀y,x=V y->E y=E0 y):rH E x=rH E0 x:=by cases x with|none=>rfl|some y=>simp only[rH];rw[h y rfl]
theorem aHY{op:Op}(h:∀x∈op.operands.toList,RG E E0 Y Y0 x):dz P E Y op=dz P E0 Y0 op:=by cases op with|move x=>simp only[dz];rw[(h x (by simp[Op.operands])).1]|assign x=>simp only[dz];rw[(h x (by simp[Op.operands])).1]|pick c a b=>simp only[dz];rw[(h c (by simp[Op.operands])).1,(h a (by simp[Op.operands])).1,(h b (by simp[Op.operands])).1]|load t x=>obtain⟨e,k⟩:=h x (by simp[Op.operands]);simp only[dz];rw[<-e,aE8 k]|nilCheck x=>obtain⟨e,k⟩:=h x (by simp[Op.operands]);simp only[dz];rw[<-e];(cases j:E x<;>simp only);rw[j] at k;rw[yF k]|binOp op ty x y _=>simp only[dz];rw[(h x (by simp[Op.operands])).1,(h y (by simp[Op.operands])).1]|unOp op _ x=>simp only[dz];rw[(h x (by simp[Op.operands])).1]|convert s d x=>simp only[dz];rw[(h x (by simp[Op.operands])).1]|fieldAddr s x f=>obtain⟨e,k⟩:=h x (by simp[Op.operands]);simp only[dz];rw[<-e,azR k]|field t x f=>simp only[dz];rw[(h x (by simp[Op.operands])).1]|indexAddr t x ix=>obtain⟨e,k⟩:=h x (by simp[Op.operands]);simp only[dz];rw[<-e,(h ix (by simp[Op.operands])).1];simp only[aB3 k]|index t x ix=>simp only[dz];rw[(h x (by simp[Op.operands])).1,(h ix (by simp[Op.operands])).1]|extract x i=>simp only[dz];rw[(h x (by simp[Op.operands])).1]|lookup t x ix w=>obtain⟨e,k⟩:=h x (by simp[Op.operands]);simp only[dz];rw[<-e,<-(h ix (by simp[Op.operands])).1];(cases r9 P t with|none=>rfl|some v=>exact aDo k)|slice t x lo r mx=>obtain⟨e,k⟩:=h x (by simp[Op.operands]);simp only[dz];rw[<-e,Kn (x:=lo) (λy n=>(h y (by simp[Op.operands,n])).1),Kn (x:=r) (λy n=>(h y (by simp[Op.operands,n])).1),Kn (x:=mx) (λy n=>(h y (by simp[Op.operands,n])).1)];simp only[aIn k]|makeFunc c first cap=>(cases c<;>simp only[dz]);rw[ja (f:=E) (g:=E0) (l:=first.toList) (λx j=>(h x (by simp[Op.operands,vj.1 j])).1),ja (f:=E) (g:=E0) (l:=cap.toList) (λx j=>(h x (by simp[Op.operands,vj.1 j])).1)]|call c=>simp only[dz];(cases q:c.callee with|builtin b=>have m:∀x∈c.args.toList,RG E E0 Y Y0 x:=λx j=>h x (by simp[Op.operands,Call.operands,q,vj.1 j]);simp only;unfold nP;split;split;rename_i t x u p;have j:x∈c.args.toList:=(by rw[<-Array.getElem?_toList] at p;exact fC p);obtain⟨e,k⟩:=m x j;rw[<-e,aC8 k];rfl;split;rename_i x y o;rw[o] at m;rw[(m x (by simp)).1,(m y (by simp)).1];rfl;split;rename_i x y o;rw[o] at m;rw[(m x (by simp)).1,(m y (by simp)).1];rfl;rfl|_=>rfl)|_=>rfl
theorem aom{op:Op}(a:∀x∈op.operands.toList,E x=E0 x)(hs:∀k∈iU E op,aZ Y k=aZ Y0 k):dz P E Y op=dz P E0 Y0 op:=by cases b:yf op with|false=>exact aHY λx c=>⟨a x c,λk d=>hs k (qN b c d)⟩|true=>(cases op<;>first|(simp[yf] at b;done)|skip);simp only[dz];rw[a _ (by simp[Op.operands])];simp only[dz];rw[a _ (by simp[Op.operands])]
end
def Ag(ks:List Nat)(Y Y0:ae):Prop:=L Y=L Y0/\iL Y Y0 ks
def vF(ks:List Nat)(Y Y':ae):Prop:=L Y'=L Y/\∀k,k∉ks->aZ Y' k=aZ Y k
def St(ks:List Nat)(Y Y0 Y' Y0':ae):Prop:=Ag ks Y' Y0'/\vF ks Y Y'/\vF ks Y0 Y0'
def LR(ks:List Nat)(Y Y0:ae)(x y:Option (AV×ae)):Prop:=(x=J/\y=J)\/∃a Y' Y0',x=V (a,Y')/\y=V (a,Y0')/\St ks Y Y0 Y' Y0'
section
variable{P:Program}{E E0:Operand->AV}{Y Y0 Y' Y0' Y'' Y0'':ae}{ks:List Nat}
theorem St.refl(h:Ag ks Y Y0):St ks Y Y0 Y Y0:=⟨h,⟨rfl,λ_ _=>rfl⟩,⟨rfl,λ_ _=>rfl⟩⟩
theorem vF.trans(h:vF ks Y Y')(a:vF ks Y' Y''):vF ks Y Y'':=⟨a.1.trans h.1,λk b=>(a.2 k b).trans (h.2 k b)⟩
theorem St.trans(h:St ks Y Y0 Y' Y0')(a:St ks Y' Y0' Y'' Y0''):St ks Y Y0 Y'' Y0'':=⟨a.1,h.2.1.trans a.2.1,h.2.2.trans a.2.2⟩
theorem D4(Y:ae)(k j:Nat)(v:vG):aZ (Y.set k v) j=if k=j/\k<L Y then v else aZ Y j:=by unfold aZ;rw[eI,eI,xh];by_cases h:k=j;subst h;by_cases a:k<L Y;simp[a];simp[a];simp[h]
theorem St.set(h:Ag ks Y Y0){k:Nat}(b:k∈ks)(v:vG):St ks Y Y0 (Y.set k v) (Y0.set k v):=by refine⟨⟨by simp[h.1],λj a=>?_⟩,⟨by simp,λj a=>?_⟩,⟨by simp,λj a=>?_⟩⟩;rw[D4,D4,h.1,h.2 j a];rw[D4,if_neg];rintro⟨rfl,_⟩;exact a b;rw[D4,if_neg];rintro⟨rfl,_⟩;exact a b
theorem St.put(h:Ag ks Y Y0){d:Nat}(a:d∈ks)(x:bY):St ks Y Y0 (put Y d x) (put Y0 d x):=by unfold Ab.put;rw[<-h.2 d a];exact .set h a _
theorem uI(h:Ag ks Y Y0){d:Nat}(a:d∈ks):bV Y0 d=bV Y d:=by unfold bV;rw[h.2 d a]
theorem St.kill(h:Ag ks Y Y0){b:Id}(a:b.1∈ks):St ks Y Y0 (kill Y b) (kill Y0 b):=by unfold Ab.kill;rw[<-h.2 _ a];exact .set h a _
theorem St.wr(h:Ag ks Y Y0){b:Id}(a:b.1∈ks)(x:bY):St ks Y Y0 (wr Y b x) (wr Y0 b x):=by unfold Ab.wr;rw[<-h.2 _ a];exact .set h a _
theorem St.kills:∀(l:List Id) {Y Y0:ae},Ag ks Y Y0->(∀b∈l,b.1∈ks)->St ks Y Y0 (kills Y l) (kills Y0 l):=by intro l;induction l with|nil=>intro Y Y0 h _;exact .refl h|cons b l i=>intro Y Y0 h a;have d:=a b (by simp);have e:box Y b=box Y0 b:=nQ (h.2 _ d);have f:St ks Y Y0 (if(box Y b).isSome then Ab.kill Y b else Y) (if(box Y0 b).isSome then Ab.kill Y0 b else Y0):=(by rw[<-e];split;exact .kill h d;exact .refl h);exact f.trans (i f.1 (λc g=>a c (by simp[g])))
theorem ye(h:Ag ks Y Y0)(d:Nat):eX Y0 d=eX Y d:=by unfold eX;rw[h.1]
theorem amf{x:AV}(h:iL Y Y0 (dK x)):gi Y x=gi Y0 x:=by cases x with|m b n=>simp only[gi];rw[nQ (h _ (by simp[dK]))]|_=>rfl
theorem iL.of_mem{l:List AV}{f:AV->List Nat}(h:iL Y Y0 (l.flatMap f)){x:AV}(b:x∈l):iL Y Y0 (f x):=λk a=>h k (iI.2 ⟨x,b,a⟩)
theorem amh{x:AV}(h:iL Y Y0 (dC x)):eR Y x=eR Y0 x:=by cases x with|a cs=>simp only[eR];rw[ja (λx c=>amf (iL.of_mem (f:=dK) h c))]|m b n=>exact amf (x:= .m b n) h|_=>rfl
theorem DZ{x:AV}{k:Nat}(h:k∈dC x):k∈cD x:=by cases x with|f fn a b=>simp[dC,dK] at h|_=>exact h
theorem ami{x:AV}(h:iL Y Y0 (cD x)):eR Y x=eR Y0 x:=amh (λk a=>h k (DZ a))
theorem aH2{x:AV}(h:iL Y Y0 (cD x)):gL Y x=gL Y0 x:=by(cases x<;>simp only[gL]);rw[yE h]
theorem aIK{x:AV}(h:iL Y Y0 (cD x)):o9 Y x=o9 Y0 x:=by(cases x<;>simp only[o9]);rw[yF h]
theorem amC{x:AV}{b:Id}(h:b∈iR x):b.1∈dK x:=by(cases x<;>simp[iR,dK] at h⊢);rw[h]
theorem Nx{x:AV}{b:Id}(h:b∈eB x):b.1∈cD x:=by apply DZ;cases x with|a cs=>simp only[eB,iI,dC] at h⊢;obtain⟨y,c,d⟩:=h;exact⟨y,c,amC d⟩|m b n=>exact amC (x:= .m b n) h|_=>simp[eB,iR] at h
theorem LR.same(h:Ag ks Y Y0)(x:Option AV):LR ks Y Y0 (x.map λa=>(a,Y)) (x.map λa=>(a,Y0)):=by cases x with|none=>exact .inl ⟨rfl,rfl⟩|some a=>exact .inr ⟨a,Y,Y0,rfl,rfl, .refl h⟩
theorem LR.none:LR ks Y Y0 J J:= .inl ⟨rfl,rfl⟩
theorem LR.some{a:AV}(h:St ks Y Y0 Y' Y0'):LR ks Y Y0 (V (a,Y')) (V (a,Y0')):= .inr ⟨a,Y',Y0',rfl,rfl,h⟩
theorem LR.ite{c:Prop}[Decidable c]{x y x' a:Option (AV×ae)}(b:c->LR ks Y Y0 x x')(d:¬c->LR ks Y Y0 y a):LR ks Y Y0 (if c then x else y) (if c then x' else a):=by split;exact b ‹_›;exact d ‹_›
theorem LR.step{x y:Option (AV×ae)}(h:St ks Y Y0 Y' Y0')(k:LR ks Y' Y0' x y):LR ks Y Y0 x y:=by rcases k with k|⟨a,s,s0,b,c,d⟩;exact .inl k;exact .inr ⟨a,s,s0,b,c,h.trans d⟩
theorem avv{d:Nat}{t:TypeId}{s x:AV}(h:Ag ks Y Y0)(e:d∈ks)(hs:∀k∈cD s,k∈ks)(j:∀k∈cD x,k∈ks):LR ks Y Y0 (tV P Y d t s x) (tV P Y0 d t s x):=by have ks':iL Y Y0 (cD s):=λk f=>h.2 k (hs k f);have g:iL Y Y0 (cD x):=λk f=>h.2 k (j k f);unfold tV;rw[<-aH2 g];split;split;refine LR.ite (λc=>?_) (λc=>?_);(cases s<;>simp only<;>first|exact LR.none|exact LR.some (.refl h)|skip);rw[<-yE ks'];rename_i b n;(cases box Y b with|none=>exact LR.none|some _=>exact LR.some (.refl h));rw[ye h,uI h e];refine LR.ite (λc=>?_) (λc=>LR.none);(cases s with|l rows a own=>(cases a with|false=>exact LR.none|true=>exact LR.ite (λ_=>LR.some (.put h e _)) (λ_=>LR.none))|m b n=>simp only;rw[<-yE ks'];(cases p:box Y b with|none=>exact LR.none|some o=>refine LR.ite (λ_=>?_) (λ_=>LR.none);have i:St ks Y Y0 (kill Y b) (kill Y0 b):= .kill h (hs _ (by simp[cD,dC,dK]));exact LR.some (i.trans (.put i.1 e _)))|_=>exact LR.none);exact LR.none;exact LR.none
theorem aoJ{t:TypeId}{x v:AV}(h:Ag ks Y Y0)(a:∀k∈cD x,k∈ks):LR ks Y Y0 ((ra P Y t x v).map λY'=>(AV.t [],Y')) ((ra P Y0 t x v).map λY'=>(AV.t [],Y')):=by have c:iL Y Y0 (cD x):=λk e=>h.2 k (a k e);cases x with|p b i j=>simp only[ra];rw[<-yF c];(cases box Y b with|none=>exact LR.none|some d=>cases eY v with|none=>exact LR.none|some cs=>simp only;cases d.rows[i]? with|none=>exact LR.none|some r=>simp only;split;exact LR.some (.wr h (a _ (by simp[cD,dC,dK])) _);exact LR.none)|_=>exact LR.none
theorem aDY{d:Nat}{t:TypeId}{l c:Int}(h:Ag ks Y Y0)(a:d∈ks):LR ks Y Y0 (wA P Y d t l c) (wA P Y0 d t l c):=by unfold wA;split;split;rw[ye h,uI h a];exact LR.ite (λ_=>LR.some (.put h a _)) (λ_=>LR.none);exact LR.none;exact LR.none
theorem axg{z:Value}{x:AV}(h:Ag ks Y Y0)(c:∀k∈cD x,k∈ks):LR ks Y Y0 ((pA z Y x).map λY'=>(AV.t [],Y')) ((pA z Y0 x).map λY'=>(AV.t [],Y')):=by unfold pA;split;exact LR.some (.refl h);rename_i b o n;have a:b.1∈ks:=c _ (by simp[cD,dC,dK]);rw[<-nQ (h.2 _ a)];split;split;exact LR.some (.wr h a _);exact LR.none;exact LR.none;exact LR.none
theorem aD8{c:MT}{x k v:AV}(h:Ag ks Y Y0)(d:∀k∈cD x,k∈ks):LR ks Y Y0 ((n5 c Y x k v).map λY'=>(AV.t [],Y')) ((n5 c Y0 x k v).map λY'=>(AV.t [],Y')):=by unfold n5;split;rename_i b _ _ kv e _;have a:b.1∈ks:=d _ (by simp[cD,dC,dK]);rw[<-nQ (h.2 _ a)];split;split;split;split;exact LR.some (.wr h a _);exact LR.none;exact LR.none;exact LR.none;exact LR.none;exact LR.none
theorem aEy{x:AV}(h:Ag ks Y Y0)(c:∀k∈cD x,k∈ks):LR ks Y Y0 (se Y x) (se Y0 x):=by unfold se;split;rename_i b _ _;have a:b.1∈ks:=c _ (by simp[cD,dC,dK]);rw[<-nQ (h.2 _ a)];split;split;split;split;exact LR.some (.wr h a _);exact LR.some (.refl h);exact LR.none;exact LR.none;exact LR.none;exact LR.none
def wT:Op->Bool| .store .. | .build .. | .buildSlice .. | .mapUpdate .. | .next .. =>I|_=>U
theorem axK{op:Op}{d:Nat}(h:Ag ks Y Y0)(i:∀x∈op.operands.toList,E x=E0 x)(N:∀k∈iU E op,k∈ks)(o:wT op=U->d∈ks):LR ks Y Y0 (eA P E Y d op) (eA P E0 Y0 d op):=by by_cases A:yf op=U;(cases op<;>first|(simp[yf] at A;done)|exact LR.none);have m:∀x∈op.operands.toList,∀k∈cD (E x),k∈ks:=λx w k n=>N k (qN (by simpa using A) w n);cases op with|alloc e=>have j:=o rfl;simp only[eA];split;rw[ye h,uI h j];exact LR.ite (λ_=>LR.some (.put h j _)) (λ_=>LR.none);exact LR.none|box e x=>have j:=o rfl;simp only[eA];rw[<-i x (by simp[Op.operands])];split;rw[ye h,uI h j];exact LR.ite (λ_=>LR.some (.put h j _)) (λ_=>LR.none);exact LR.none|build t f=>simp only[eA];rw[ja (g:=λp=>(p.1,E0 p.2)) (λp y=>by rw[i p.2 (by simp only[Op.operands];exact CA y)])];have:=LR.same (ks:=ks) h ((vS P t (f.toList.map λp=>(p.1,E0 p.2))).map AV.a);simpa[Option.map_map,Function.comp_def] using this|buildSlice t len f=>simp only[eA];have y:∀p∈f.toList,p.2∈(Op.buildSlice t len f).operands.toList:=λp y=>(by simp only[Op.operands];exact CA y);have K:(f.toList.map λp=>(p.1,nrm (eR Y0 (E0 p.2))))=f.toList.map λp=>(p.1,nrm (eR Y (E p.2))):=ja (λp q=>by rw[<-i _ (y p q),ami (λk n=>h.2 k (m _ (y p q) k n))]);have M:(f.toList.flatMap λp=>eB (E0 p.2))=f.toList.flatMap λp=>eB (E p.2):=(by rw[GD,GD];congr 1;exact ja (λp q=>by rw[<-i _ (y p q)]));rw[K,M];(cases xB P t len (f.toList.map λp=>(p.1,nrm (eR Y (E p.2)))) with|none=>exact LR.none|some rows=>refine LR.some (.kills _ h (λb B=>?_));obtain⟨p,q,F⟩:=iI.1 B;exact m _ (y p q) _ (Nx F))|makeSlice t l c=>have j:=o rfl;simp only[eA];rw[<-i l (by simp[Op.operands]),<-i c (by simp[Op.operands])];split;exact aDY h j;exact LR.none|store t x v=>simp only[eA];have w:=m x (by simp[Op.operands]);have G:=m v (by simp[Op.operands]);rw[<-i x (by simp[Op.operands]),<-i v (by simp[Op.operands]),<-aIK (λk n=>h.2 k (w k n)),<-ami (λk n=>h.2 k (G k n))];refine LR.ite (λ_=>aoJ h w) (λ_=>?_);have H:St ks Y Y0 (kills Y (eB (E v))) (kills Y0 (eB (E v))):= .kills _ h (λb B=>G _ (Nx B));exact LR.step H (aoJ H.1 w)|call c=>have j:=o rfl;simp only[eA];split;rename_i C;have u:∀x∈c.args.toList,x∈(Op.call c).operands.toList:=λx w=>(by simp[Op.operands,Call.operands,C,vj.1 w]);split;rename_i s x t S D O;rw[D] at u;rw[<-i s (u s (by simp)),<-i x (u x (by simp))];exact LR.ite (λ_=>avv h j (m s (u s (by simp))) (m x (u x (by simp)))) (λ_=>LR.none);exact LR.none;rename_i C;have u:∀x∈c.args.toList,x∈(Op.call c).operands.toList:=λx w=>(by simp[Op.operands,Call.operands,C,vj.1 w]);split;rename_i x t D O;rw[D] at u;rw[<-i x (u x (by simp))];(cases xD P t with|none=>exact LR.none|some z=>exact axg h (m x (u x (by simp))));exact LR.none;exact LR.none|makeMap t r=>have j:=o rfl;simp only[eA];(cases r with|none=>simp only[oS];rw[ye h,uI h j];exact LR.ite (λ_=>LR.some (.put h j _)) (λ_=>LR.none)|some _=>exact LR.none)|mapUpdate t x k v=>simp only[eA];rw[<-i x (by simp[Op.operands]),<-i k (by simp[Op.operands]),<-i v (by simp[Op.operands])];(cases r9 P t with|none=>exact LR.none|some R=>exact aD8 h (m x (by simp[Op.operands])))|range t x=>have j:=o rfl;simp only[eA];rw[<-i x (by simp[Op.operands])];split;unfold tu;split;rw[ye h,uI h j];exact LR.ite (λ_=>LR.some (.put h j _)) (λ_=>LR.none);exact LR.none;exact LR.none|next x st=>simp only[eA];rw[<-i x (by simp[Op.operands])];exact LR.ite (λ_=>aEy h (m x (by simp[Op.operands]))) (λ_=>LR.none)|_=>exact LR.none
end
section
variable{P:Program}{G:dk}{Y Y0:ae}{ks:List Nat}
theorem Ag.all(h:Ag (vO Y) Y Y0):Y0=Y:=by refine List.ext_getElem? λk=>?_;rcases jj k (L Y) with a|a;have b:=h.2 k (fq.2 a);have c:k<L Y0:=(by rw[<-h.1];exact a);unfold aZ at b;rw[eI,eI,eC a,eC c] at b;rw[eC a,eC c];simp only[mi] at b;rw[b];rw[qi a,qi (by rw[<-h.1];exact a)]
theorem St.all{a:ae}(e:L a=L Y):St (vO Y) Y Y a a:=by
 have c:vF (vO Y) Y a:=⟨e,λk d=>by
  have b:L Y<=k:=by
   rcases jj k (L Y) with h|h
   ·exact absurd (fq.2 h) d
   ·exact h
  unfold aZ
  rw[eI,eI,qi b,qi (by omega)]⟩
 exact⟨⟨rfl,λk _=>rfl⟩,c,c⟩
end
abbrev fY:=Bool×List Nat
def NC:Op->Bool| .build .. =>U|_=>I
def vT(G:dk)(τ:List AV)(Y:ae)(o:Oper):fY:=
 match o.op with
 | .call c=>
  match c.callee with
  | .value f=>
   match du G τ f with
   | .f fn first cap=>if G.nw fn=U then(I,iU (du G τ) o.op++[o.dst.getD 0]) else if G.imp fn=U then(G.rd fn,vO Y) else(U,iU (du G τ) o.op)
   |_=>(U,[])
  |_=>(U,[])
 |_=>(U,[])
def f9(P:Program)(G:dk)(ops:Array Oper)(τ:List AV)(Y:ae)(o:Oper):fY:=
 match rh ops τ o with
 |some true=>
  match dz P (du G τ) Y o.op,eA P (du G τ) Y (o.dst.getD 0) o.op with
  |some _,_=>(U,iU (du G τ) o.op)
  |none,some _=>(NC o.op,iU (du G τ) o.op++if wT o.op then[o.dst.getD 0] else[])
  |none,none=>vT G τ Y o
 |_=>(U,[])
def Ej(ops:Array Oper)(x y:Oper)(a b:fY):Bool:=x.apart ops y&&((a.1&&b.1)||a.2.all λk=>!b.2.contains k)
section
variable{P:Program}{G:dk}{ops:Array Oper}{τ τ0 τ1 τ2 τ':List AV}{Y Y0 Y1 Y2 Y':ae}
def mj(P:Program)(G:dk)(ops:Array Oper)(o:Oper)(τ:List AV)(Y:ae)(τ':List AV)(Y':ae):Prop:=kS P G ops o (λa b=>a=τ'/\b=Y') τ Y
theorem CT{o:Oper}{K:AV->ae->Prop}:j0 P G τ Y o K↔∃e Y',j0 P G τ Y o (λa b=>a=e/\b=Y')/\K e Y':=by unfold j0;split;exact⟨λh=>⟨_,_,⟨rfl,rfl⟩,h⟩,λ⟨_,_,⟨c,d⟩,h⟩=>by subst c d;exact h⟩;split;exact⟨λh=>⟨_,_,⟨rfl,rfl⟩,h⟩,λ⟨_,_,⟨c,d⟩,h⟩=>by subst c d;exact h⟩;split;split;split;split;exact ak1;split;exact Ki;exact⟨λ⟨r,c,d,f,g,i⟩=>⟨r,Y,⟨r,c,d,f,g,rfl,rfl⟩,i⟩,λ⟨e,s,⟨r,c,d,f,g,i,j⟩,h⟩=>by subst i j;exact⟨r,c,d,f,g,h⟩⟩;exact⟨λh=>h.elim,λ⟨_,_,h,_⟩=>h.elim⟩;exact⟨λh=>h.elim,λ⟨_,_,h,_⟩=>h.elim⟩;exact⟨λh=>h.elim,λ⟨_,_,h,_⟩=>h.elim⟩
theorem oE{o:Oper}{K:List AV->ae->Prop}:kS P G ops o K τ Y↔∃τ' Y',mj P G ops o τ Y τ' Y'/\K τ' Y':=by unfold mj kS;split;constructor;intro h;obtain⟨c,s,a,b⟩:=CT.1 h;exact⟨_,_,CT.2 ⟨c,s,a,rfl,rfl⟩,b⟩;rintro⟨t,s,a,b⟩;obtain⟨c,s',d,e,f⟩:=CT.1 a;subst e f;exact CT.2 ⟨c,s',d,b⟩;exact⟨λh=>⟨_,_,⟨rfl,rfl⟩,h⟩,λ⟨_,_,⟨a,b⟩,h⟩=>by subst a b;exact h⟩;exact⟨λh=>h.elim,λ⟨_,_,h,_⟩=>h.elim⟩
theorem aEB{x:Operand}(h:∀t,x= .tmp t->τ0[t]?=τ[t]?):du G τ0 x=du G τ x:=by cases x with|tmp t=>simp only[du,eI];rw[h t rfl]|_=>rfl
theorem yl{o:Oper}(h:∀t∈o.looksAt ops,τ0[t]?=τ[t]?):∀x∈o.op.operands.toList,du G τ0 x=du G τ x:=λx b=>
 aEB (λt a=>h t (by
  unfold Oper.looksAt
  refine qk _ (List.mem_filterMap.2 ⟨x,b,?_⟩)
  rw[a]))
theorem r8{o:Oper}(h:∀t∈o.looksAt ops,τ0[t]?=τ[t]?):rh ops τ0 o=rh ops τ o:=by unfold rh;cases b:o.guard with|none=>rfl|some g=>obtain⟨j,c⟩:=g;simp only;cases a:(ops[j]?).bind (·.dst) with|none=>rfl|some t=>simp only;rw[h t (by unfold Oper.looksAt;rw[b];simp[a])]
theorem Qe{E E0:Operand->AV}{op:Op}(h:∀x∈op.operands.toList,E0 x=E x):iU E0 op=iU E op:=by unfold iU;congr 1;rw[GD,GD,ja (λx a=>by rw[h x a])]
theorem alh{x:AV}(h:iL Y Y0 (dC x)):dG Y x=dG Y0 x:=by unfold dG;rw[amh h]
theorem amD{x:AV}{b:Id}(h:b∈eB x):b.1∈dC x:=by have:=Nx h;cases x with|f fn a b=>simp[eB,iR] at h|_=>exact this
theorem aC9{xs:List AV}(h:∀x∈xs,iL Y Y0 (dC x)):nA Y xs=nA Y0 xs:=by unfold nA;rw[Bool.eq_iff_iff,tL,tL];constructor;rintro⟨x,d,a⟩;refine⟨x,d,?_⟩;rw[tL] at a⊢;obtain⟨b,c,e⟩:=a;exact⟨b,c,by rw[<-nQ (h x d _ (amD c))];exact e⟩;rintro⟨x,d,a⟩;refine⟨x,d,?_⟩;rw[tL] at a⊢;obtain⟨b,c,e⟩:=a;exact⟨b,c,by rw[nQ (h x d _ (amD c))];exact e⟩
theorem aIH{ks:List Nat}{i:ae}{d:Nat}:∀{cs:List AV} {Y Y0:ae} {f:List AV} {s':ae},Ag ks Y Y0->d∈ks->gU i d Y cs=V (f,s')->∃e,gU i d Y0 cs=V (f,e)/\St ks Y Y0 s' e:=by intro cs;induction cs with|nil=>intro Y Y0 f s' h j a;simp only[gU,bE,iK] at a;obtain⟨rfl,rfl⟩:=a;exact⟨Y0,rfl, .refl h⟩|cons c cs B=>intro Y Y0 f s' h j a;have q:∀x,(gU i d Y cs).map (λp=>(x::p.1,p.2))=V (f,s')->∃e,(gU i d Y0 cs).map (λp=>(x::p.1,p.2))=V (f,e)/\St ks Y Y0 s' e:=(by intro x k;cases g:gU i d Y cs with|none=>rw[g] at k;cases k|some p=>rw[g] at k;simp only[df,bE,iK] at k;obtain⟨rfl,rfl⟩:=k;obtain⟨e,w,y⟩:=B h j g;exact⟨e,by rw[w];rfl,y⟩);cases c with|s v=>simp only[gU] at a⊢;exact q _ a|l rows t o=>(cases rows with|nil=>(cases t with|false=>simp[gU] at a|true=>cases o with|false=>simp[gU] at a|true=>simp only[gU] at a⊢;exact q _ a)|cons r rows=>simp[gU] at a)|m b n=>simp only[gU] at a⊢;(cases z:box i b with|none=>rw[z] at a;cases a|some x=>rw[z] at a;simp only at a⊢;by_cases A:vY x=U;rw[if_pos A] at a⊢;(cases g:gU i d (put Y d x) cs with|none=>rw[g] at a;cases a|some p=>rw[g] at a;simp only[df,bE,iK] at a;obtain⟨rfl,rfl⟩:=a;have u:=St.put h j x;obtain⟨e,w,y⟩:=B u.1 j g;exact⟨e,by rw[w,uI h j];rfl,u.trans y⟩);rw[if_neg A] at a;cases a)|_=>simp[gU] at a
theorem Sh{o:Oper}(h:mj P G ops o τ Y τ' Y'):∃H,τ'=ge τ o.dst H/\∀τ0 Y0,(∀t∈o.looksAt ops,τ0[t]?=τ[t]?)->Ag (f9 P G ops τ Y o).2 Y Y0->
  f9 P G ops τ0 Y0 o=f9 P G ops τ Y o/\∃B,mj P G ops o τ0 Y0 (ge τ0 o.dst H) B/\St (f9 P G ops τ Y o).2 Y Y0 Y' B/\((f9 P G ops τ Y o).1=U->Y'=Y/\B=Y0):=by
 unfold mj kS at h
 split at h
 ·rename_i D
  unfold j0 at h
  split at h
  ·rename_i H hr
   obtain⟨rfl,rfl⟩:=h
   refine⟨H,rfl,λτ0 Y0 j e=>?_⟩
   have i:=yl (G:=G) j
   have C:f9 P G ops τ Y o=(U,iU (du G τ) o.op):=by unfold f9;rw[D,hr]
   rw[C] at e⊢
   have X:dz P (du G τ0) Y0 o.op=V H:=by
    rw[<-hr]
    exact(aom (λx g=>(i x g).symm) (λk l=>e.2 k l)).symm
   refine⟨by unfold f9;rw[r8 j,D,X];simp only;rw[Qe i],Y0,?_, .refl e,λ_=>⟨rfl,rfl⟩⟩
   unfold mj kS
   rw[r8 j,D]
   simp only[j0,X]
   exact⟨trivial,trivial⟩
  ·rename_i hr
   split at h
   ·rename_i H s he
    obtain⟨rfl,rfl⟩:=h
    refine⟨H,rfl,λτ0 Y0 j e=>?_⟩
    have i:=yl (G:=G) j
    have C:f9 P G ops τ Y o=(NC o.op,iU (du G τ) o.op++if wT o.op then[o.dst.getD 0] else[]):=by unfold f9;rw[D,hr,he]
    rw[C] at e⊢
    have X:dz P (du G τ0) Y0 o.op=J:=by
     rw[<-hr]
     exact(aom (λx g=>(i x g).symm) (λk l=>e.2 k (qk _ l))).symm
    have ay:=axK (P:=P) (E:=du G τ) (E0:=du G τ0) (op:=o.op) (d:=o.dst.getD 0) e (λx g=>(i x g).symm) (λk l=>qk _ l) (λhu=>by simp[hu])
    rcases ay with⟨W,_⟩|⟨a2,s2,aJ,W,h2,h3⟩
    ·rw[he] at W;cases W
    ·rw[he] at W
     cases W
     refine⟨by unfold f9;rw[r8 j,D,X,h2];simp only;rw[Qe i],aJ,?_,h3,λhb=>?_⟩
     ·unfold mj kS
      rw[r8 j,D]
      simp only[j0,X,h2]
      exact⟨trivial,trivial⟩
     ·cases az:o.op<;>rw[az] at hb he h2<;>first|(simp[NC] at hb;done)|skip
      simp only[eA,Option.map_eq_some_iff] at he h2
      obtain⟨_,_,Z⟩:=he
      obtain⟨_,_,e2⟩:=h2
      cases Z;cases e2
      exact⟨rfl,rfl⟩
   ·rename_i he
    split at h
    ·rename_i c p
     split at h
     ·rename_i f q
      split at h
      ·rename_i fn first cap N
       have T:∀E s,dz P E s o.op=J:=λE s=>by rw[p];simp only[dz,q]
       have R:∀E s d,eA P E s d o.op=J:=λE s d=>by rw[p];simp only[eA,q]
       have v:f∈o.op.operands.toList:=by rw[p];simp[Op.operands,Call.operands,q]
       have M:∀x∈c.args.toList,x∈o.op.operands.toList:=λx g=>by rw[p];simp[Op.operands,Call.operands,q,vj.1 g]
       have K:∀τ0 Y0,(∀t∈o.looksAt ops,τ0[t]?=τ[t]?)->f9 P G ops τ0 Y0 o=if G.nw fn=U then(I,iU (du G τ) o.op++[o.dst.getD 0]) else if G.imp fn=U then(G.rd fn,vO Y0) else(U,iU (du G τ) o.op):=λτ0 Y0 j=>by
        have i:=yl (G:=G) j
        have m:c.args.toList.map (du G τ0)=c.args.toList.map (du G τ):=ja (λx g=>i x (M x g))
        unfold f9
        rw[r8 j,D,T,R]
        simp only
        unfold vT
        simp only[p,q,i f v,N,m]
        rw[<-p,Qe i]
       split at h
       ·rename_i w
        have C:=K τ Y (λ_ _=>rfl)
        rw[if_pos w] at C
        have ao:∃H,τ'=ge τ o.dst H/\∀Y0,Ag (iU (du G τ) o.op++[o.dst.getD 0]) Y Y0->∃B,(tS P G fn (first++c.args.toList.map (du G τ)++cap) Y0 (o.dst.getD 0) λa b=>a=H/\b=B)/\St (iU (du G τ) o.op++[o.dst.getD 0]) Y Y0 Y' B:=by
         have u:∀Y0,Ag (iU (du G τ) o.op++[o.dst.getD 0]) Y Y0->(first++c.args.toList.map (du G τ)++cap).map (dG Y0)=(first++c.args.toList.map (du G τ)++cap).map (dG Y):=λY0 e=>by
          refine(ja λx g=>(alh ?_)).symm
          intro k l
          refine e.2 k (qk _ ?_)
          rw[dF,dF] at g
          rcases g with(g|g)|g
          ·exact qN (by rw[p];rfl) v (by rw[N];simp only[cD];exact iI.2 ⟨x,qk _ g,AH l⟩)
          ·obtain⟨y,F,rfl⟩:=dN.1 g
           exact qN (by rw[p];rfl) (M y F) (DZ l)
          ·exact qN (by rw[p];rfl) v (by rw[N];simp only[cD];exact iI.2 ⟨x,zt _ g,AH l⟩)
         have S:eX Y (o.dst.getD 0)=U->∀Y0,Ag (iU (du G τ) o.op++[o.dst.getD 0]) Y Y0->eX Y0 (o.dst.getD 0)=U:=λO Y0 e=>by
          have:=te O
          simp only[eX,decide_eq_true_eq]
          rw[<-e.1];exact this
         rcases h with h|h|h
         case inr.inr=>
          obtain⟨f1,O,cs,s1,aA,s',f3,f4,f5,Z,e2⟩:=h
          subst e2
          refine⟨_,Z.symm,λY0 e=>?_⟩
          obtain⟨au,aB,aG⟩:=aIH e (by simp) f5
          exact⟨au, .inr (.inr ⟨by rw[u Y0 e];exact f1,S O Y0 e,cs,s1,aA,au,by rw[u Y0 e];exact f3,f4,aB,rfl,rfl⟩),aG⟩
         case inr.inl=>
          obtain⟨r,b,x,x1,n,g1,g2,g3,g4,g5,g6,g7⟩:=h
          have am:∀y∈first++c.args.toList.map (du G τ)++cap,∀k∈pP y,k∈iU (du G τ) o.op:=by
           intro y F k l
           rw[dF,dF] at F
           rcases F with(F|F)|F
           ·exact qN (by rw[p];rfl) v (by rw[N];simp only[cD];exact iI.2 ⟨y,qk _ F,l⟩)
           ·obtain⟨z,hz,rfl⟩:=dN.1 F
            exact qN (by rw[p];rfl) (M z hz) (aCR l)
           ·exact qN (by rw[p];rfl) v (by rw[N];simp only[cD];exact iI.2 ⟨y,zt _ F,l⟩)
          have ar:b.1∈iU (du G τ) o.op++[o.dst.getD 0]:=qk _ (am _ (List.mem_of_head? g1) _ (by simp[pP,dC,dK]))
          subst g7
          refine⟨_,g6.symm,λY0 e=>⟨wr Y0 b x1, .inr (.inl ⟨r,b,x,x1,n,g1,by rw[<-g2];exact(nQ (e.2 _ ar)).symm,g3,g4,λY2 aE aD=>g5 Y2 (aE.trans e.1.symm) (λk l=>?_),rfl,rfl⟩), .wr e ar x1⟩⟩
          obtain⟨y,F,aC⟩:=iI.1 l
          rw[e.2 k (qk _ (am y F k aC))]
          exact aD k l
         obtain⟨f1,O,r,s1,f3,f4⟩:=h
         rcases f4 with⟨rfl,Z,e2⟩|⟨b,n,x,rfl,e3,e4,Z,e2⟩
         ·subst e2
          refine⟨_,Z.symm,λY0 e=>⟨Y0, .inl ⟨by rw[u Y0 e];exact f1,S O Y0 e,_,s1,by rw[u Y0 e];exact f3, .inl ⟨rfl,rfl,rfl⟩⟩, .refl e⟩⟩
         ·subst e2
          refine⟨_,Z.symm,λY0 e=>⟨put Y0 (o.dst.getD 0) x, .inl ⟨by rw[u Y0 e];exact f1,S O Y0 e,_,s1,by rw[u Y0 e];exact f3, .inr ⟨b,n,x,rfl,e3,e4,by rw[uI e (by simp)],rfl⟩⟩, .put e (by simp) x⟩⟩
        obtain⟨H,aI,ax⟩:=ao
        refine⟨H,aI,λτ0 Y0 j e=>?_⟩
        have i:=yl (G:=G) j
        rw[C] at e⊢
        obtain⟨B,x1,x2⟩:=ax Y0 e
        refine⟨by rw[K τ0 Y0 j,if_pos w],B,?_,x2,λhb=>by cases hb⟩
        unfold mj kS
        rw[r8 j,D]
        simp only
        unfold j0
        rw[T,R]
        have m:c.args.toList.map (du G τ0)=c.args.toList.map (du G τ):=ja (λx g=>i x (M x g))
        simp only[p,q,i f v,N,m]
        rw[if_pos w]
        exact ak1.2 ⟨H,B,x1,rfl,rfl⟩
       rename_i w
       split at h
       ·rename_i A
        have h0:=h
        obtain⟨aq,s0,W,q4,q5⟩:=Ki.1 h0
        subst q5
        refine⟨aq,q4.symm,λτ0 Y0 j e=>?_⟩
        have i:=yl (G:=G) j
        have C:=K τ Y (λ_ _=>rfl)
        rw[if_neg w,if_pos A] at C
        rw[C] at e⊢
        have aF:Y0=Y:=Ag.all e
        subst aF
        have ae:=asa W
        refine⟨by rw[K τ0 Y0 j,if_neg w,if_pos A],s0,?_,St.all ae.1,λhb=>⟨ae.2 hb,ae.2 hb⟩⟩
        unfold mj kS
        rw[r8 j,D]
        simp only
        unfold j0
        rw[T,R]
        have m:c.args.toList.map (du G τ0)=c.args.toList.map (du G τ):=ja (λx g=>i x (M x g))
        simp only[p,q,i f v,N,m]
        rw[if_neg w,if_pos A]
        refine Ki.2 ⟨aq,s0,W,rfl,rfl⟩
       rename_i A
       obtain⟨r,f1,O,f3,f4,rfl,rfl⟩:=h
       refine⟨r,rfl,λτ0 Y0 j e=>?_⟩
       have i:=yl (G:=G) j
       have C:=K τ Y (λ_ _=>rfl)
       rw[if_neg w,if_neg A] at C
       rw[C] at e⊢
       refine⟨by rw[K τ0 Y0 j,if_neg w,if_neg A],Y0,?_, .refl e,λ_=>⟨rfl,rfl⟩⟩
       unfold mj kS
       rw[r8 j,D]
       simp only
       unfold j0
       rw[T,R]
       have m:c.args.toList.map (du G τ0)=c.args.toList.map (du G τ):=ja (λx g=>i x (M x g))
       simp only[p,q,i f v,N,m]
       rw[if_neg w,if_neg A]
       have af:∀x∈first++c.args.toList.map (du G τ)++cap,iL Y Y0 (dC x):=by
        intro x g k l
        rw[dF,dF] at g
        rcases g with(g|g)|g
        ·exact e.2 k (qN (by rw[p];rfl) v (by rw[N];simp only[cD];exact iI.2 ⟨x,qk _ g,AH l⟩))
        ·obtain⟨y,F,rfl⟩:=dN.1 g
         exact e.2 k (qN (by rw[p];rfl) (M y F) (DZ l))
        ·exact e.2 k (qN (by rw[p];rfl) v (by rw[N];simp only[cD];exact iI.2 ⟨x,zt _ g,AH l⟩))
       have aw:=ja (λx g=>alh (af x g))
       rw[aw] at f1 O
       rw[aC9 af] at f4
       exact⟨r,f1,O,f3,f4,rfl,trivial⟩
      ·exact h.elim
     ·exact h.elim
    ·exact h.elim
 ·rename_i D
  obtain⟨rfl,rfl⟩:=h
  refine⟨_,rfl,λτ0 Y0 j e=>?_⟩
  have C:f9 P G ops τ Y o=(U,[]):=by unfold f9;rw[D]
  rw[C] at e⊢
  refine⟨by unfold f9;rw[r8 j,D],Y0,?_, .refl e,λ_=>⟨rfl,rfl⟩⟩
  unfold mj kS
  rw[r8 j,D]
  exact⟨rfl,rfl⟩
 ·exact h.elim
theorem an2{d:Option Nat}{v:AV}{t:Nat}(h:∀e,d=V e->e≠t):(ge τ d v)[t]?=τ[t]?:=by cases d with|none=>rfl|some e=>simp only[ge];rw[List.getElem?_set_ne (h e rfl)]
theorem aFb{d e:Option Nat}{b v:AV}(h:∀x,d=V x->e≠V x):ge (ge τ d b) e v=ge (ge τ e v) d b:=by cases d with|none=>rfl|some d=>cases e with|none=>rfl|some e=>simp only[ge];exact List.set_comm _ _ (λa=>h d rfl (by rw[a]))
theorem aIx(c:L Y=L Y0)(h:∀k,aZ Y k=aZ Y0 k):Y=Y0:=by apply List.ext_getElem c;intro i a b;have:=h i;simp only[aZ,eI] at this;rw[eC a,eC b] at this;simpa using this
theorem arA{x y:Oper}(R:mj P G ops x τ Y τ1 Y1)(S:mj P G ops y τ1 Y1 τ2 Y2)(w:Ej ops x y (f9 P G ops τ Y x) (f9 P G ops τ1 Y1 y)=U):∃i d,mj P G ops y τ Y i d/\mj P G ops x i d τ2 Y2/\f9 P G ops τ Y y=f9 P G ops τ1 Y1 y/\f9 P G ops i d x=f9 P G ops τ Y x:=by unfold Ej at w;rw[bN] at w;obtain⟨E,g⟩:=w;obtain⟨a1,K,M⟩:=Oper.apart_spec E;obtain⟨o,rfl,F⟩:=Sh R;obtain⟨v,rfl,T⟩:=Sh S;have p:=F τ Y (λ_ _=>rfl) ⟨rfl,λ_ _=>rfl⟩;obtain⟨_,Z,_,j,q⟩:=p;have D:Ag (f9 P G ops (ge τ x.dst o) Y1 y).2 Y1 Y:=(by refine⟨j.2.1.1,λk u=>?_⟩;rw[fH,bN] at g;rcases g with b|f;rw[(q b.1).1];refine j.2.1.2 k (λh=>?_);have:=dV.1 f k h;simp[u] at this);obtain⟨C,d,X,c,m⟩:=T τ Y (λt z=>(an2 (λe s l=>a1 e s (l▸z))).symm) D;have r:Ag (f9 P G ops τ Y x).2 Y d:=(by refine⟨c.2.2.1.symm,λk u=>?_⟩;rw[fH,bN] at g;rcases g with b|f;rw[(m b.2).2];refine(c.2.2.2 k (λa=>?_)).symm;have:=dV.1 f k u;simp[a] at this);obtain⟨B,A,W,n,H⟩:=F (ge τ y.dst v) d (λt z=>an2 (λe s l=>M e s (l▸z))) r;refine⟨ge τ y.dst v,d,X,?_,C,B⟩;have N:ge (ge τ x.dst o) y.dst v=ge (ge τ y.dst v) x.dst o:=aFb K;have O:A=Y2:=(by refine aIx ?_ (λk=>?_);rw[n.2.2.1,c.2.2.1,c.2.1.1,j.2.1.1];rw[fH,bN] at g;rcases g with b|f;rw[(H b.1).2,(m b.2).2,(m b.2).1,(q b.1).1];by_cases h:k∈(f9 P G ops τ Y x).2;have a:k∉(f9 P G ops (ge τ x.dst o) Y1 y).2:=λa=>(by have:=dV.1 f k h;simp[a] at this);rw[<-n.1.2 k h,c.2.1.2 k a];rw[n.2.2.2 k h];by_cases a:k∈(f9 P G ops (ge τ x.dst o) Y1 y).2;exact(c.1.2 k a).symm;rw[c.2.2.2 k a,c.2.1.2 k a,j.2.1.2 k h]);rw[N,<-O];exact W
end
def qq(P:Program)(G:dk)(ops:Array Oper):List Oper->List fY->(List fY->List AV->ae->Prop)->List AV->ae->Prop|[],a,K=>K a|o::l,a,K=>λτ Y=>kS P G ops o (qq P G ops l (a++[f9 P G ops τ Y o]) K) τ Y
def zA(P:Program)(G:dk)(ops:Array Oper):List (Nat×fY)->List AV->ae->List AV->ae->Prop|[],τ,Y,τ',Y'=>τ'=τ/\Y'=Y|z::zs,τ,Y,τ',Y'=>∃o a b,ops[z.1]?=V o/\z.2=f9 P G ops τ Y o/\mj P G ops o τ Y a b/\zA P G ops zs a b τ' Y'
def QA(ops:Array Oper)(x y:Nat×fY):Prop:=∀a b,ops[x.1]?=V a->ops[y.1]?=V b->Ej ops a b x.2 y.2=U
def sk(ops:Array Oper)(i j:Nat):Prop:=((Region.before ops).getD j 0).testBit i=U
section
variable{P:Program}{G:dk}{ops:Array Oper}{τ τ':List AV}{Y Y':ae}
theorem arz{y:Nat×fY}{b:List (Nat×fY)}:∀(a:List (Nat×fY)) {τ:List AV} {Y:ae},(∀z∈a,QA ops z y)->zA P G ops (a++y::b) τ Y τ' Y'->zA P G ops (y::(a++b)) τ Y τ' Y':=by intro a;induction a with|nil=>intro τ Y _ h;exact h|cons z a t=>intro τ Y e h;obtain⟨o,A,B,l,k,hs,g⟩:=h;obtain⟨p,q,r,f,d,n,c⟩:=t (λx s=>e x (by simp[s])) g;have m:=e z (by simp) o p l f;rw[k,d] at m;obtain⟨i,j,v,w,l1,u⟩:=arA hs n m;exact⟨p,i,j,f,by rw[d,l1],v,o,q,r,l,by rw[k,u],w,c⟩
theorem asj{K:List fY->List AV->ae->Prop}:∀(l:List Oper) (a:List fY) (k:Nat) {τ:List AV} {Y:ae},ops.toList.drop k=l->qq P G ops l a K τ Y->∃zs τ' Y',zs.map Se=GO k (ops.size-k)/\zA P G ops zs τ Y τ' Y'/\K (a++zs.map Sf) τ' Y':=by intro l;induction l with|nil=>intro a k τ Y b h;have:ops.size-k=0:=(by have:=congrArg L b;simp at this;omega);exact⟨[],τ,Y,by rw[this];rfl,⟨rfl,rfl⟩,by simpa[qq] using h⟩|cons o l n=>intro a k τ Y b h;have p:k<ops.size:=(by have:=congrArg L b;simp at this;omega);have j:ops[k]?=V o:=(by have:=congrArg (·[0]?) b;simp only[mf,kP,qh] at this;simpa using this);have c:ops.toList.drop (k+1)=l:=(by have:=congrArg GQ b;simpa using this);obtain⟨d,e,hs,m⟩:=oE.1 h;obtain⟨zs,τ',Y',f,g,i⟩:=n _ (k+1) c m;refine⟨(k,f9 P G ops τ Y o)::zs,τ',Y',?_,⟨o,d,e,j,rfl,hs,g⟩,by simpa using i⟩;rw[show ops.size-k=(ops.size-(k+1))+1 by omega,RX];simp[f]
theorem bits{d:Array Nat}{j:Nat}:∀(b:List Edge) (s:Nat),(b.foldl (λs e=>if Region.binds .any e then s|||2^e.on|||d.getD e.on 0 else s) s).testBit j=U->s.testBit j=U\/∃e∈b,Region.binds .any e=U/\(j=e.on\/(d.getD e.on 0).testBit j=U):=by intro b;induction b with|nil=>intro s h;exact .inl h|cons e b k=>intro s h;rcases k _ h with a|⟨f,a,g,i⟩;simp only at a;by_cases c:Region.binds .any e=U;rw[if_pos c,zy,zy,fH,fH] at a;rcases a with(a|a)|a;exact .inl a;rw[arb] at a;exact .inr ⟨e,by simp,c, .inl (of_decide_eq_true a).symm⟩;exact .inr ⟨e,by simp,c, .inr a⟩;rw[if_neg c] at a;exact .inl a;exact .inr ⟨f,by simp[a],g,i⟩
theorem awj:∀(l:List Oper) (a:Array Nat),ops.toList.drop a.size=l->(∀i j,(a.getD i 0).testBit j=U->∃o,ops[i]?=V o/\∃e∈o.after,Region.binds .any e=U/\(j=e.on\/(e.on<i/\(a.getD e.on 0).testBit j=U)))->∀b,l.foldl (λa o=>a.push (o.after.foldl (λs e=>if Region.binds .any e then s|||2^e.on|||a.getD e.on 0 else s) 0)) a=b->∀i j,(b.getD i 0).testBit j=U->∃o,ops[i]?=V o/\∃e∈o.after,Region.binds .any e=U/\(j=e.on\/(e.on<i/\(b.getD e.on 0).testBit j=U)):=by intro l;induction l with|nil=>intro a r m b h;cases h;exact m|cons o l z=>intro a r m b h;have y:ops[a.size]?=V o:=(by have:=congrArg (·[0]?) r;simp only[mf,kP,qh] at this;simpa using this);have u:ops.toList.drop (a.size+1)=l:=(by have:=congrArg GQ r;simpa using this);refine z _ (by simpa using u) ?_ b h;intro i j f;have k:∀(v i:Nat),i<a.size->(a.push v).getD i 0=a.getD i 0:=λv i d=>(by simp[pZ,d,aq8 d,aql d]);have n:∀e:Edge,(a.getD e.on 0).testBit j=U->e.on<a.size:=λe x=>(by rcases jj e.on a.size with c|c;exact c;simp[pZ,Nat.not_lt.2 c] at x);rcases Nat.lt_trichotomy i a.size with d|d|d;rw[k _ _ d] at f;obtain⟨o',c,e,p,q,w⟩:=m i j f;refine⟨o',c,e,p,q,w.imp id (λg=>⟨g.1,?_⟩)⟩;rw[k _ _ (R7 g.1 d)];exact g.2;subst d;have t:∀v,(a.push v).getD a.size 0=v:=λv=>(by simp[pZ]);rw[t,<-yY] at f;rcases bits o.after.toList 0 f with c|⟨e,c,p,q⟩;simp at c;refine⟨o,y,e,by simpa using c,p,q.imp id (λg=>⟨n e g,?_⟩)⟩;rw[k _ _ (n e g)];exact g;have:¬i<a.size+1:=(by omega);simp[pZ,this] at f
theorem alv{i j:Nat}(h:sk ops j i):∃o,ops[i]?=V o/\∃e∈o.after,Region.binds .any e=U/\(j=e.on\/(e.on<i/\sk ops j e.on)):=by refine awj (ops:=ops) ops.toList #[] (by simp) (λi j h=>by simp[pZ] at h) (Region.before ops) ?_ i j h;unfold Region.before;rw[yY]
theorem awh{a:Array Bool}(p:∀i o,ops[i]?=V o->a.getD i I=U->∀e∈o.after,Region.binds .any e=U->a.getD e.on I=U):∀i o,ops[i]?=V o->(∀e∈o.after,Region.binds .any e=U->a.getD e.on I=U)->∀j,sk ops j i->a.getD j I=U:=by intro i;induction i using Nat.strongRecOn with|_ i s=>intro o q r j n;obtain⟨o',b,e,h,k,l⟩:=alv n;rw[q] at b;(cases b);have f:=r e h k;rcases l with rfl|⟨m,c⟩;exact f;obtain⟨g,d,_⟩:=alv c;exact s e.on m g d (p e.on g d f) j c
theorem avq{κ:ei}{K:List AV->ae->Prop}{Q:Exit->Act->World->Prop}(R:∀i o,ops[i]?=V o->∀e∈o.after,Region.binds .any e=U->e.on<i)(hK:K τ' Y'):∀(fuel:Nat) (zs:List (Nat×fY)) (b:Array Bool) {a:Act} {w:World} {τ:List AV} {Y:ae} {β:Id->Nat},L zs<=fuel->zA P G ops zs τ Y τ' Y'->zs.Pairwise (λx y=>sk ops x.1 y.1\/QA ops x y)->zs.Pairwise (λx y=>x.1<y.1)->(∀i,i∈zs.map Se↔i<ops.size/\b.getD i U=I)->b.size=ops.size->(∀i o,ops[i]?=V o->b.getD i I=U->∀e∈o.after,Region.binds .any e=U->b.getD e.on I=U)->jG P G κ a w τ Y β->(∀Z w',vE P G κ w Y β K Z w'->Q .normal Z w')->wpAny P .any ops Q fuel b a w:=by have u:∀(b:Array Bool) (i:Nat),b.size=ops.size->i<ops.size->b.getD i U=b.getD i I:=λb i c A=>(by rw[<-c] at A;simp[pZ,A]);intro fuel;induction fuel with|zero=>intro zs b a w τ Y β hf j _ _ q n E h N;have:zs=[]:=List.length_eq_zero_iff.1 (Nat.le_zero.1 hf);subst this;obtain⟨rfl,rfl⟩:=j;refine⟨?_,N a w ⟨_,_,β,hK,h,dw.refl _ _ _⟩⟩;apply List.eq_nil_iff_forall_not_mem.2;intro i hi;obtain⟨h0,o,f,_⟩:=mem_ready.1 hi;have:=(q i).2 ⟨(vh.1 f).1,h0⟩;simp at this|succ fuel ih=>intro zs b a w τ Y β hf j W l q n E h N;refine⟨λaf=>?_,λi hi=>?_⟩;(cases zs with|nil=>obtain⟨rfl,rfl⟩:=j;exact N a w ⟨_,_,β,hK,h,dw.refl _ _ _⟩|cons z zs=>exfalso;obtain⟨X,ap⟩:=(q z.1).1 (by simp);have f:ops[z.1]?=V ops[z.1]:=Array.getElem?_eq_getElem X;have:z.1∈Region.ready .any ops b:=(by refine mem_ready.2 ⟨ap,_,f,λe O B=>?_⟩;have v:=R _ _ f e O B;have F:e.on<ops.size:=R7 v X;cases hv:b.getD e.on I with|true=>rfl|false=>exfalso;have m:=(q e.on).2 ⟨F,by rw[u _ _ n F];exact hv⟩;rw[ji,eW] at m;rcases m with m|m;omega;obtain⟨y,hy,aB⟩:=dN.1 m;have:=(aqX.1 l).1 y hy;omega);rw[af] at this;cases this);obtain⟨h0,o,f,D⟩:=mem_ready.1 hi;have v:=(vh.1 f).1;obtain⟨y,hy,rfl⟩:=dN.1 ((q i).2 ⟨v,h0⟩);obtain⟨p,r,rfl⟩:=List.append_of_mem hy;have ag:∀z∈p,QA ops z y:=λz C=>(by rcases(RW.1 W).2.2 z C y (by simp) with B|d;exfalso;have c:=awh E y.1 o f D z.1 B;obtain⟨A,h3⟩:=(q z.1).1 (by simp only[dg,dF];exact .inl (CA C));rw[u _ _ n A,c] at h3;(cases h3);exact d);obtain⟨o',ar,Y1,T,hl,hs,S⟩:=arz p ag j;rw[f] at T;(cases T);unfold wpOp;rw[f];simp only;refine ak5 (K:=λt s=>t=ar/\s=Y1) h hs (λZ w' hn=>?_);obtain⟨_,_,aC,⟨rfl,rfl⟩,an,ab⟩:=hn;have M:(p++r).Sublist (p++y::r):=aqE.append (aqE.refl _) (List.sublist_cons_self _ _);refine ih (p++r) (b.setIfInBounds y.1 U) ?_ S (W.sublist M) (l.sublist M) ?_ (by simp[n]) ?_ an (λa2 w2 ao=>N a2 w2 (ao.trans ab));simp only[List.length_append,List.length_cons] at hf⊢;omega;intro k;by_cases g:k=y.1;constructor;intro d;exfalso;rw[dg,dF] at d;rcases d with d|d;obtain⟨z,C,aq⟩:=dN.1 d;have:=(RW.1 l).2.2 z C y (by simp);omega;obtain⟨z,C,aq⟩:=dN.1 d;have:=(aqX.1 (RW.1 l).2.1).1 z C;omega;rintro⟨c,A⟩;exfalso;subst g;simp[pZ,n,v] at A;rw[getD_set_ne U (Sa g),<-q k];simp only[dg,dF,ji,eW];constructor;rintro(c|c);exact .inl c;exact .inr (.inr c);rintro(c|c|c);exact .inl c;exact absurd c g;exact .inr c;intro k ok H d e O B;refine getD_set_true ?_;by_cases g:k=y.1;subst g;rw[f] at H;(cases H);exact D e O B;rw[getD_set_ne I (Sa g)] at d;exact E k ok H d e O B
end
section
variable{types:Array TypeInfo}{ops:Array Oper}{draw:Bool}
theorem aqa{g:Oper×Nat->Bool}(h:(ops.zipIdx.all g)=U){i:Nat}{o:Oper}(a:ops[i]?=V o):g (o,i)=U:=by rw[aqi] at h;refine h (o,i) ?_;rw[Array.mem_zipIdx_iff_getElem?];exact a
theorem anK(h:Region.ok types ops draw=U):(∀(i:Nat) (o:Oper),ops[i]?=V o->∀e∈o.after,Region.binds .any e=U->e.on<i)/\(∀(i:Nat) (o:Oper) (j:Nat) (a:Bool),ops[i]?=V o->o.guard=V (j,a)->∃e∈o.after,e.on=j/\Region.binds .any e=U)/\Region.temporariesOk ops (Region.before ops)=U:=by unfold Region.ok at h;simp only[bN] at h;obtain⟨⟨⟨⟨f,g⟩,_⟩,_⟩,_⟩:=h;refine⟨λi o d e l b=>?_,λi o j a d c=>?_,g⟩;have:=aqa f d;simp only[bN] at this;have:=aqi.1 this.1 e l;rw[fH] at this;rcases this with h|h;exact of_decide_eq_true h;unfold Region.binds at b;split at h;rename_i c;rw[c] at b;cases b;(cases h);have:=aqa f d;simp only[bN,c] at this;have:=this.2.1;rw[Array.any_eq_true] at this;obtain⟨k,m,h⟩:=this;rw[bN] at h;exact⟨o.after[k],Array.getElem_mem m,by simpa using h.1,h.2⟩
theorem awy{d:Array Nat}{j:Nat}:∀(a:List Edge) (s:Nat),(s.testBit j=U\/∃e∈a,Region.binds .any e=U/\(j=e.on\/(d.getD e.on 0).testBit j=U))->(a.foldl (λs e=>if Region.binds .any e then s|||2^e.on|||d.getD e.on 0 else s) s).testBit j=U:=by intro a;induction a with|nil=>intro s h;rcases h with h|⟨e,b,_⟩;exact h;(cases b)|cons e a i=>intro s h;refine i _ ?_;simp only;rcases h with h|⟨g,b,f,c⟩;left;split;rw[zy,zy,h];rfl;exact h;rcases eW.1 b with rfl|b;left;rw[if_pos f,zy,zy];rcases c with rfl|c;rw[arb];simp;rw[c];simp;exact .inr ⟨g,b,f,c⟩
theorem awi:∀(l:List Oper) (a:Array Nat),ops.toList.drop a.size=l->(∀i o e j,i<a.size->ops[i]?=V o->e∈o.after->Region.binds .any e=U->e.on<i->(j=e.on\/(a.getD e.on 0).testBit j=U)->(a.getD i 0).testBit j=U)->∀b,l.foldl (λa o=>a.push (o.after.foldl (λs e=>if Region.binds .any e then s|||2^e.on|||a.getD e.on 0 else s) 0)) a=b->∀i o e j,i<b.size->ops[i]?=V o->e∈o.after->Region.binds .any e=U->e.on<i->(j=e.on\/(b.getD e.on 0).testBit j=U)->(b.getD i 0).testBit j=U:=by intro l;induction l with|nil=>intro a p d b h;cases h;exact d|cons o l x=>intro a p d b h;have w:ops[a.size]?=V o:=(by have:=congrArg (·[0]?) p;simp only[mf,kP,qh] at this;simpa using this);have u:ops.toList.drop (a.size+1)=l:=(by have:=congrArg GQ p;simpa using this);refine x _ (by simpa using u) ?_ b h;intro i o' e j g m t r k n;have c:∀(v i:Nat),i<a.size->(a.push v).getD i 0=a.getD i 0:=λv i g=>(by simp[pZ,g,aq8 g,aql g]);simp only[Array.size_push] at g;rcases jj i a.size with f|f;rw[c _ _ f];rw[c _ _ (R7 k f)] at n;exact d i o' e j f m t r k n;have:i=a.size:=(by omega);subst this;rw[w] at m;(cases m);rw[c _ _ k] at n;have q:∀v,(a.push v).getD a.size 0=v:=λv=>(by simp[pZ]);rw[q,<-yY];exact awy _ _ (.inr ⟨e,by simpa using t,r,n⟩)
theorem awk:(Region.before ops).size=ops.size:=by unfold Region.before;rw[<-yY];have:∀(l:List Oper) (a:Array Nat),(l.foldl (λa o=>a.push (o.after.foldl (λs e=>if Region.binds .any e then s|||2^e.on|||a.getD e.on 0 else s) 0)) a).size=a.size+L l:=(by intro l;induction l with|nil=>intro a;rfl|cons o l b=>intro a;rw[GE,b];simp;omega);rw[this];simp
theorem awg{i:Nat}{o:Oper}{e:Edge}(b:ops[i]?=V o)(d:e∈o.after)(c:Region.binds .any e=U)(a:e.on<i):sk ops e.on i:=by refine awi (ops:=ops) ops.toList #[] (by simp) (λi o e j f=>by simp at f) (Region.before ops) ?_ i o e e.on ?_ b d c a (.inl rfl);unfold Region.before;rw[yY];rw[awk];exact(vh.1 b).1
theorem aM5{n:Nat}(r:0<n):∀(l:List (Oper×Nat)) (b:Array (List (Tmp×Nat))),b.size=n->∀d i,((d,i)∈b.getD (d%n) []\/∃o,(o,i)∈l/\o.dst=V d)->(d,i)∈(l.foldl (λw (p:Oper×Nat)=>match p.1.dst with|some d=>w.modify (d%n) ((d,p.2)::·)|none=>w) b).getD (d%n) []:=by intro l;induction l with|nil=>intro b hs d i h;rcases h with h|⟨o,e,_⟩;exact h;(cases e)|cons p l m=>intro b hs d i h;rw[GE];have g:∀(a k:Nat) (x:Tmp×Nat),a<n->(b.modify a (x::·)).getD k []=if a=k then x::b.getD k [] else b.getD k []:=λa k x q=>(by simp only[Array.getD_eq_getD_getElem?,Array.getElem?_modify];by_cases f:a=k;subst f;have:a<b.size:=(by rw[hs];exact q);simp[this];simp[f]);cases j:p.1.dst with|none=>refine m b hs d i (h.imp id ?_);rintro⟨o,e,c⟩;rcases eW.1 e with rfl|e;rw[j] at c;cases c;exact⟨o,e,c⟩|some s=>simp only;refine m _ (by simp[hs]) d i ?_;rw[g _ _ _ (Nat.mod_lt _ r)];rcases h with h|⟨o,e,c⟩;left;split;exact zu _ h;exact h;rcases eW.1 e with rfl|e;rw[j] at c;(cases c);left;rw[if_pos rfl];exact List.mem_cons_self;exact .inr ⟨o,e,c⟩
def Qr(o:Oper):List Tmp:=o.dst.toList++o.op.operands.toList.filterMap λ| .tmp t=>V t|_=>J
theorem apD(h:Region.temporariesOk ops (Region.before ops)=U){i j:Nat}{x y:Oper}{t:Tmp}(c:ops[i]?=V x)(g:ops[j]?=V y)(d:x.dst=V t)(f:t∈Qr y)(b:i≠j):sk ops (min i j) (max i j):=by unfold Region.temporariesOk at h;simp only[dV] at h;have e:0<ops.size:=Nat.lt_of_le_of_lt (Nat.zero_le _) (vh.1 c).1;have a:=h (y,j) (by rw[RV];simpa using g) t f (t,i) (aM5 e ops.toList.zipIdx _ (by simp) t i (.inr ⟨x,by rw[RV];simpa using c,d⟩));simp only[fH,bne_self_eq_false,Bool.false_eq_true,false_or,beq_iff_eq] at a;rcases a with a|a;exact absurd a b;exact a
end
def Ah(ops:Array Oper):Bool:=
 ops.toList.all λo=>
  match o.guard with
  |none=>U
  |some (g,_)=>
   match(ops[g]?).bind (·.dst) with
   |some t=>ops.toList.zipIdx.all λp=>p.2==g||p.1.dst !=V t
   |none=>U
def oI:Code->Bool| .region _ ops true=>Ah ops| .seq a b=>oI a&&oI b| .cond _ a b=>oI a&&oI b| .block _ c=>oI c| .loop c=>oI c|_=>U
structure tQ(P:Program):Prop where
 mixed:P.follows .mixedOrders=U
 funcs:(aH P.funcs.size).forM (CheckCode.funcAt P)= .ok ()
 guards:(P.funcs.toList.all λf=>match f.body with|some c=>oI c|none=>U)=U
def eL(a b:fY):Bool:=(a.1&&b.1)||a.2.all λk=>!b.2.contains k
def xG(ops:Array Oper)(a:List fY):Bool:=
 a.all (·.1)||(aH ops.size).all λj=>(aH j).all λi=>
  ((Region.before ops).getD j 0).testBit i||eL (a.getD i (U,[])) (a.getD j (U,[]))
def iT(G:dk):Op->Bool| .move _| .assign _| .pick .. | .load .. | .nilCheck _| .binOp .. | .unOp .. | .convert .. | .fieldAddr .. | .field .. | .indexAddr .. | .index .. | .lookup .. | .extract .. | .slice .. | .makeFunc .. | .build .. =>U| .call ⟨.builtin .len,_,_⟩=>U| .call ⟨.builtin .min,_,_⟩=>U| .call ⟨.builtin .max,_,_⟩=>U| .call ⟨.value (.func fn),_,_⟩=>!G.nw fn&&!G.imp fn|_=>I
def rG(G:dk):List Oper->Bool|[]=>U|o::l=>iT G o.op&&rG G l
def sF(P:Program)(G:dk)(ops:Array Oper)(K:List AV->ae->Prop)(τ:List AV)(Y:ae):Prop:=
 if rG G ops.toList=U then rE P G ops ops.toList K τ Y
 else qq P G ops ops.toList [] (λa τ Y=>xG ops a=U/\K τ Y) τ Y
section
variable{P:Program}{G:dk}{types:Array TypeInfo}{ops:Array Oper}{draw:Bool}{τ:List AV}{Y:ae}
theorem amw(h:Ah ops=U){o:Oper}{j g i:Nat}{b:Bool}{t:Tmp}{x:Oper}(f:ops[j]?=V o)(e:o.guard=V (g,b))(k:(ops[g]?).bind (·.dst)=V t)(l:ops[i]?=V x)(d:x.dst=V t):i=g:=by unfold Ah at h;rw[dV] at h;have a:=h o (by rw[vj];exact RA f);rw[e] at a;simp only[k,dV] at a;have c:=a (x,i) (by rw[RV];simpa using l);simp only[d,bne_self_eq_false,Bool.or_false,beq_iff_eq] at c;exact c
theorem anj{o:Oper}{t:Tmp}(h:t∈o.looksAt ops):(t∈o.op.operands.toList.filterMap λ| .tmp t=>V t|_=>J)\/∃g a,o.guard=V (g,a)/\(ops[g]?).bind (·.dst)=V t:=by unfold Oper.looksAt at h;rcases dF.1 h with h|h;exact .inl h;right;cases b:o.guard with|none=>rw[b] at h;cases h|some p=>obtain⟨g,a⟩:=p;rw[b] at h;exact⟨g,a,rfl,by simpa using h⟩
theorem avu(u:Region.ok types ops draw=U)(s:Ah ops=U){i j:Nat}{x y:Oper}(c:ops[i]?=V x)(f:ops[j]?=V y)(t:i<j)(q:¬sk ops i j):x.apart ops y=U:=by obtain⟨E,v,w⟩:=anK u;have A:min i j=i:=(by omega);have B:max i j=j:=(by omega);have C:min j i=i:=(by omega);have D:max j i=j:=(by omega);have z:∀d,x.dst=V d->d∉Qr y:=λd a r=>(by have:=apD w c f a r (by omega);rw[A,B] at this;exact q this);have F:∀d,y.dst=V d->d∉Qr x:=λd a r=>(by have:=apD w f c a r (by omega);rw[C,D] at this;exact q this);unfold Oper.apart;rw[bN];constructor;(cases a:x.dst with|none=>rfl|some d=>simp only[bN,eH,bne_iff_ne,ne_eq];constructor;rw[aqs];intro m;rw[RH] at m;rcases anj m with h|⟨g,b,k,p⟩;exact z d a (zt _ h);have:=amw s f k p c a;subst this;obtain⟨e,n,o,l⟩:=v j y i b f k;subst o;exact q (awg f n l t);intro n;exact z d a (qk _ (by simp[n])));cases a:y.dst with|none=>rfl|some d=>simp only[eH];rw[aqs];intro m;rw[RH] at m;rcases anj m with h|⟨g,b,k,p⟩;exact F d a (zt _ h);have:=amw s c k p f a;subst this;obtain⟨e,n,o,l⟩:=v i x j b c k;have:=E i x c e n l;omega
theorem aC0{o:Oper}(h:iT G o.op=U):(f9 P G ops τ Y o).1=U:=by unfold f9;split;split;rfl;rename_i n x d;(cases k:o.op<;>rw[k] at h d<;>first|rfl|(cases d;done)|(cases h;done)|skip);rename_i c;obtain⟨a,as,ts⟩:=c;(cases a with|value f=>(cases d)|builtin b=>(cases b<;>first|(cases h;done)|(cases d;done))|invoke r m=>cases d);unfold vT;split;rename_i c k;rw[k] at h;split;rename_i f e;split;rename_i fn first cap i;split;rename_i l;exfalso;obtain⟨a,as,ts⟩:=c;simp only at e;subst e;(cases f with|func g=>simp only[du] at i;(cases i);simp[iT,l] at h|_=>cases h);split;rename_i j;exfalso;obtain⟨a,as,ts⟩:=c;simp only at e;subst e;(cases f with|func g=>simp only[du] at i;(cases i);simp[iT,j] at h|_=>cases h);rfl;rfl;rfl;rfl;rfl
theorem asl{K:List AV->ae->Prop}:∀(l:List Oper) (a:List fY) {τ:List AV} {Y:ae},rG G l=U->(a.all (·.1))=U->rE P G ops l K τ Y->qq P G ops l a (λd τ Y=>xG ops d=U/\K τ Y) τ Y:=by intro l;induction l with|nil=>intro a τ Y _ c h;exact⟨by unfold xG;rw[c];rfl,h⟩|cons o l j=>intro a τ Y b c h;unfold rG at b;rw[bN] at b;obtain⟨e,f,g,i⟩:=oE.1 h;refine oE.2 ⟨e,f,g,j _ b.2 ?_ i⟩;rw[List.all_append,c];simp[aC0 b.1]
theorem axF{κ:ei}{K:List AV->ae->Prop}{Q:Exit->Act->World->Prop}{a:Act}{w:World}{β:Id->Nat}{N:Nat}(E:P.follows .mixedOrders=U)(s:Region.ok types ops draw=U)(C:Ah ops=U)(h:jG P G κ a w τ Y β)(l:sF P G ops K τ Y)(B:∀n r,vE P G κ w Y β K n r->Q .normal n r):(Code.region N ops U).wp P Q a w:=by have l:qq P G ops ops.toList [] (λx τ Y=>xG ops x=U/\K τ Y) τ Y:=(by unfold sF at l;split at l;rename_i M;exact asl _ _ M rfl l;exact l);obtain⟨zs,X,Z,p,z,d,A⟩:=asj ops.toList [] 0 (by simp) l;rw[Nat.sub_zero,<-aqY] at p;simp only[List.nil_append] at d;have k:L zs=ops.size:=(by simpa using congrArg L p);have c:∀i (b:i<L zs),zs[i].1=i:=λi b=>(by have e:(zs.map Se)[i]'(by simpa using b)=(aH ops.size)[i]'(by simpa[k] using b):=(by simp only[p]);simpa using e);have q:∀i j (b:i<L zs) (f:j<L zs),i<j->sk ops i j\/eL zs[i].2 zs[j].2=U:=λi j b f g=>(by unfold xG at d;rw[fH] at d;rcases d with d|d;right;rw[dV] at d;have R:=d zs[i].2 (CA (qj b));have S:=d zs[j].2 (CA (qj f));unfold eL;rw[R,S];rfl;rw[dV] at d;have:=d j (fq.2 (k▸f));rw[dV] at this;have:=this i (fq.2 g);rw[fH] at this;have l1:(zs.map Sf).getD i (U,[])=zs[i].2:=(by simp[GF,b]);have O:(zs.map Sf).getD j (U,[])=zs[j].2:=(by simp[GF,f]);rw[l1,O] at this;exact this);refine wp_region_any E ?_;have y:Below w.heap.size w {w with drawn:=w.drawn+1}:={os:=rfl,tape:=rfl,output:=rfl,size:=dA _,block:=λ_ _=>rfl};have v:=xJ h.sim y;refine avq (K:=K) (anK s).1 A ops.size zs _ (Nat.le_of_eq k) z ?_ ?_ ?_ (by simp) ?_ ⟨h.defers,h.reps.ext v,Es h.sim y,h.glob.ext v⟩ (λn r F=>B n r (F.trans v));rw[GN];intro i j b f g;rw[c i b,c j f];by_cases m:sk ops i j;exact .inl m;right;intro ox oy t u;rw[c i b] at t;rw[c j f] at u;unfold Ej;rw[avu s C t u g m];exact(q i j b f g).resolve_left m;rw[GN];intro i j b f g;rw[c i b,c j f];exact g;intro i;rw[p,fq];constructor;intro b;exact⟨b,by simp[pZ,b]⟩;exactλb=>b.1;intro i o H D e W T;exfalso;have b:=(vh.1 H).1;simp[pZ,b] at D
end
abbrev QX:=Exit->List AV->ae->Prop
def QX.then(K:List AV->ae->Prop)(Q:QX):QX:=λe a Y=>match e with| .normal=>K a Y|e=>Q e a Y
def QX.inBlock(b:Nat)(Q:QX):QX:=λe a Y=>match e with| .exit j=>if j=b then Q .normal a Y else Q (.exit j) a Y|e=>Q e a Y
def iq(P:Program)(G:dk):Code->QX->List AV->ae->Prop
 | .skip,Q=>Q .normal
 | .label _,Q=>Q .normal
 | .region _ ops false,Q=>rE P G ops ops.toList (Q .normal)
 | .region _ ops true,Q=>sF P G ops (Q .normal)
 | .seq x y,Q=>iq P G x (QX.then (iq P G y Q) Q)
 | .cond c x y,Q=>λb Y=>match du G b c with| .s (.bool t)=>if t=U then iq P G x Q b Y else iq P G y Q b Y|_=>False
 | .block e c,Q=>iq P G c (QX.inBlock e Q)
 | .loop c,Q=>λb Y=>∃(a:List AV->ae->Prop) (g:List AV->ae->Nat),a b Y/\∀b Y,a b Y->iq P G c (QX.then (λd f=>a d f/\g d f<g b Y) Q) b Y
 | .exit e,Q=>Q (.exit e)
 | .ret,Q=>Q .ret
 |_,_=>λ_ _=>False
section
variable{P:Program}{G:dk}{κ:ei}
theorem aM4{Q:Exit->Act->World->Prop}{c:Code}(d:Nat->Act->World->Prop)(s:∀n a w,d n a w->c.wp P (Exit.then (λj p=>∃m,m<n/\d m j p) Q) a w):∀n a w,d n a w->(Code.loop c).wp P Q a w:=by intro n a w A b k cs;have z:∀n a w,d n a w->∃e j p,Q e j p/\Arrives P (lone (b.at a (.code c:: .inLoop c::k)) cs w) b k cs e j p:=(by intro n;induction n using Nat.strongRecOn with|_ n C=>intro a w B;obtain⟨e,g,h,i,f⟩:=s n a w B b (.inLoop c::k) cs;cases e with|normal=>obtain⟨m,y,q⟩:=i;obtain⟨u,t,v,r,o⟩:=C m y g h q;exact⟨u,t,v,r, .of_steps (Steps.trans f (.one step_inLoop)) o⟩|exit E=>exact⟨_,g,h,i, .pass (x:= .inLoop c) rfl (λ_ _=> .inl (by simp)) f⟩|goto l=>exact⟨_,g,h,i, .pass (x:= .inLoop c) rfl (λ_ _=> .inl (by simp)) f⟩|ret=>exact⟨_,g,h,i, .pass (x:= .inLoop c) rfl (λ_ _=> .inl (by simp)) f⟩|panic D=>exact⟨_,g,h,i, .pass (x:= .inLoop c) rfl (λ_ _=> .inl (by simp)) f⟩|outgrown=>exact⟨_,g,h,i, .pass (x:= .inLoop c) rfl (λ_ _=> .inl (by simp)) f⟩);obtain⟨e,j,p,i,f⟩:=z n a w A;exact⟨e,j,p,i, .of_steps (.one step_loop) f⟩
def aqz(P:Program)(G:dk)(κ:ei)(w:World)(Y:ae)(β:Id->Nat)(Q:QX)(e:Exit)(f:Act)(d:World):Prop:=∃b c a,Q e b c/\jG P G κ f d b c a/\dw w Y β d c a
theorem Kg(hm:P.follows .mixedOrders=U):∀(c:Code) (f:qf P c) (i:oI c=U) (Q:QX) {a:Act} {w:World} {m:List AV} {Y:ae} {β:Id->Nat},jG P G κ a w m Y β->iq P G c Q m Y->c.wp P (aqz P G κ w Y β Q) a w:=by intro c;induction c with|skip=>intro f i Q a w m Y β h g;exact wp_skip ⟨m,Y,β,g,h,dw.refl _ _ _⟩|label l=>intro f i Q a w m Y β h g;exact wp_label ⟨m,Y,β,g,h,dw.refl _ _ _⟩|exit T=>intro f i Q a w m Y β h g;exact wp_exit ⟨m,Y,β,g,h,dw.refl _ _ _⟩|ret=>intro f i Q a w m Y β h g;exact wp_ret ⟨m,Y,β,g,h,dw.refl _ _ _⟩|region T ops d=>intro f i Q a w m Y β h g;(cases d with|false=>refine wp_region ?_;rw[aqY];exact asm ops.toList 0 (by simp) h g (λE A O=>O)|true=>exact axF hm f i h g (λE A O=>O))|seq x y K M=>intro f i Q a w m Y β h g;rw[oI,bN] at i;refine wp_seq (wp_mono (K f.1 i.1 _ h g) ?_);rintro e E A ⟨o,q,p,u,s,r⟩;(cases e<;>first|(refine wp_mono (M f.2 i.2 Q s u) ?_;rintro e2 W w2 ⟨z,F,D,v,C,B⟩;exact⟨z,F,D,v,C,r.trans B⟩)|exact⟨o,q,p,u,s,r⟩)|cond c x y K M=>intro f i Q a w m Y β h g;rw[oI,bN] at i;simp only[iq] at g;split at g;rename_i t Z;have k:=h.eval c;rw[Z] at k;refine wp_cond k.s_inv.1 ?_;(cases t with|true=>exact K f.1 i.1 Q h g|false=>exact M f.2 i.2 Q h g);exact g.elim|block T c R=>intro f i Q a w m Y β h g;refine wp_block (wp_mono (R f i _ h g) ?_);rintro e E A ⟨o,q,p,u,s,r⟩;(cases e with|exit j=>simp only[QX.inBlock] at u;simp only[Exit.inBlock];split at u;rename_i N;rw[if_pos N];exact⟨o,q,p,u,s,r⟩;rename_i N;rw[if_neg N];exact⟨o,q,p,u,s,r⟩|_=>exact⟨o,q,p,u,s,r⟩)|loop c R=>intro f i Q a w m Y β h g;obtain⟨b,S,X,H⟩:=g;refine aM4 (λn E A=>∃o q p,b o q/\S o q=n/\jG P G κ E A o q p/\dw w Y β A q p) ?_ (S m Y) a w ⟨m,Y,β,X,rfl,h,dw.refl _ _ _⟩;rintro n E A ⟨o,q,p,hI,rfl,s,r⟩;refine wp_mono (R f i _ s (H o q hI)) ?_;rintro e W w2 ⟨z,F,D,v,C,B⟩;(cases e with|normal=>exact⟨S z F,v.2,z,F,D,v.1,rfl,C,r.trans B⟩|_=>exact⟨z,F,D,v,C,r.trans B⟩)|_=>intro f i Q a w m Y β h g;exact g.elim
def rS(Y:ae)(c:AV):AV:=gK (gi Y c)
def dQ(Y:ae):AV->AV
 | .m b n=>match box Y b with
  |some x=>if x.var=I then .l (x.rows.take n) I x.own else if((x.rows.take n).all λr=>r.all λc=>eN (rS Y c))=U then .l ((x.rows.take n).map (·.map (rS Y))) I x.own else .m b n
  |none=> .m b n
 |x=>x
def iZ(Y:ae):AV->AV| .a cs=> .a (cs.map (dQ Y))|x=>dQ Y x
def kK(P:Program)(b:List AV)(Y:ae):ResultVar->Option AV| .tmp t=>V (b.getD t .u)| .cell a t=>(iE Y (b.getD a .u)).bind (yz P t)
def yB(P:Program)(f:Func)(b:List AV)(Y:ae):Option AV:=
 match(f.results.toList.map (kK P b Y)) with
 |[r]=>r.map (iZ Y)
 |a=>(a.mapM id).map λvs=> .t (vs.map (iZ Y))
def start(f:Func)(ys:List AV):List AV:=ys++er (f.ntmps-L ys) (.t [])
def ly(f:Func):ae:=er 4096 mO
def QR(P:Program)(f:Func)(R:AV->Prop):QX:=λe a Y=>
 match e with
 | .normal| .ret=>∃r,yB P f a Y=V r/\kG r=U/\R r
 |_=>False
theorem aFf{a:Act}{w:World}{f:List AV}{Y:ae}{β:Id->Nat}{x:ResultVar}{r:AV}(h:jG P G κ a w f Y β)(b:kK P f Y x=V r):
  ∃v,((match x with| .tmp t=>pure (a.tmps.getD t undef)| .cell c t=>do loadVar t (<-asAddr (a.tmps.getD c undef)):Sem Value)).run P w= .ok v w/\ba κ w Y β v r:=by
 cases x with
 |tmp t=>
  simp only[kK,bE] at b
  subst b
  exact⟨_,by simp,h.reps.get t⟩
 |cell c t=>
  simp only[kK] at b
  cases d:iE Y (f.getD c .u) with
  |none=>rw[d] at b;cases b
  |some cs=>
   rw[d] at b
   obtain⟨l,off,g,e,k⟩:=anZ h.sim (h.reps.get c) d
   obtain⟨v,i,j⟩:=anh (P:=P) (t:=t) k b
   exact⟨v,by simp[e,asAddr,i],j⟩
theorem aoh{a:Act}{w:World}{d:List AV}{Y:ae}{β:Id->Nat}(h:jG P G κ a w d Y β):∀(l:List ResultVar) (c:List AV),(l.map (kK P d Y)).mapM id=V c->
  ∃vs,(l.mapM λx=>(match x with| .tmp t=>pure (a.tmps.getD t undef)| .cell n t=>do loadVar t (<-asAddr (a.tmps.getD n undef)):Sem Value)).run P w= .ok vs w/\js κ w Y β vs c:=by
 intro l
 induction l with
 |nil=>intro c b;simp at b;subst b;exact⟨[],by simp,rfl,λi v x h=>by simp at h⟩
 |cons x l o=>
  intro c b
  simp only[ji,vz,id,xp,xq] at b
  cases e:kK P d Y x with
  |none=>rw[e] at b;cases b
  |some r=>
   rw[e] at b
   simp only[ek] at b
   cases f:(l.map (kK P d Y)).mapM id with
   |none=>rw[f] at b;cases b
   |some m=>
    rw[f] at b
    simp only[ek,bE] at b
    subst b
    obtain⟨v,p,q⟩:=aFf h e
    obtain⟨vs,s,k⟩:=o m f
    refine⟨v::vs,by simp only[vz,Sem.run_bind,p,Result.andThen_ok,s,Sem.run_pure],by simp[k.1],λi u y g j=>?_⟩
    cases i with
    |zero=>simp only[qh,bE] at g j;subst g j;exact q
    |succ i=>exact k.2 i u y (by simpa using g) (by simpa using j)
theorem i8(f:Func)(k:Nat):aZ (ly f) k=mO:=by unfold aZ ly;rw[eI,xg];split<;>rfl
theorem CY(f:Func)(b:Id):box (ly f) b=J:=by simp[box,i8]
theorem axP(f:Func)(w:World):dw w [] β0 w (ly f) β0:=by refine⟨rfl,rfl,rfl,dA _,λ_ _ _=>rfl,λb h=>?_,λb x h=>?_,λb x h=>?_⟩;have e:aZ ([]:ae) b.1=mO:=rfl;unfold jO at h⊢;rw[i8,<-e];exact h;rw[sK] at h;cases h;rw[CY] at h;cases h
theorem avM{rows:List (List AV)}{f:AV->AV}{i j:Nat}{y:AV}(h:db (rows.map (·.map f)) i j=V y):∃c,db rows i j=V c/\y=f c:=by unfold db at*;rw[fp] at h;cases b:rows[i]? with|none=>rw[b] at h;cases h|some r=>rw[b] at h;simp only[df,ek,fp] at h⊢;cases a:r[j]? with|none=>rw[a] at h;cases h|some c=>rw[a] at h;simp only[df,bE] at h;exact⟨c,rfl,h.symm⟩
theorem avO{rows:List (List AV)}{n i j:Nat}{y:AV}(h:db (rows.take n) i j=V y):db rows i j=V y:=by unfold db at*;cases a:(rows.take n)[i]? with|none=>rw[a] at h;cases h|some r=>rw[a] at h;rw[List.getElem?_take] at a;split at a;rw[a];exact h;cases a
theorem avL{rows:List (List AV)}{p:AV->Bool}{i j:Nat}{y:AV}(b:(rows.all λr=>r.all p)=U)(h:db rows i j=V y):p y=U:=by unfold db at h;cases a:rows[i]? with|none=>rw[a] at h;cases h|some r=>rw[a] at h;simp only[ek] at h;exact dV.1 (dV.1 b r (fC a)) y (fC h)
theorem K0{κ:ei}{w:World}{Y:ae}{β:Id->Nat}{v:Value}{x:AV}(s:cv P κ w Y β)(h:ba κ w Y β v x)(N:nj (dQ Y x)=U):ba κ w [] β0 v (dQ Y x):=by have F:∀l,nN κ (kills Y l) β κ [] β0:=λl k C _=>⟨C,λb y a=>(by rw[sK] at a;cases a)⟩;have q:dQ Y x=gi Y x->ba κ w [] β0 v (dQ Y x):=λe=>(by rw[e] at N⊢;exact(Di (l:=iR x) s h (λb a=>a)).conv1 N (F _) (dA _));cases x with|m b n=>(cases a:box Y b with|none=>exact q (by simp[dQ,gi,a])|some d=>rcases sq d.var with g|g;by_cases t:((d.rows.take n).all λr=>r.all λc=>eN (rS Y c))=U;have e:dQ Y (.m b n)= .l ((d.rows.take n).map (·.map (rS Y))) I d.own:=(by simp only[dQ,a,g,sr,if_false,if_pos t]);rw[e];obtain⟨cap,cur,rfl,X,D,H⟩:=oR h a;have A:=s.ok b d a;have ab:=zT s a D H;by_cases T:n=0;subst T;rw[CE];exact .l0 (λh=>by cases h);have B:=A.cells D;obtain⟨S,R,C,h2,h3,h4,W⟩:=B.ex;rw[D] at C;(cases C);have f:∀i j y,db ((d.rows.take n).map (·.map (rS Y))) i j=V y->∃u,cur[i*d.size+j]?=V u/\ir u=U/\ba κ w [] β0 u y/\eN y=U:=λi j y o=>(by obtain⟨c,z,rfl⟩:=avM o;have E:=avL t z;obtain⟨u,p,K,M⟩:=W i j c (avO z);exact⟨u,p,K,(Qx (Di (l:=iR c) s M (λb a=>a))).conv E (F _),E⟩);refine .l1 (size:=d.size) A.ow A.nf (λi j y o=>?_) (λi j=>(cur[i*d.size+j]?).getD (.bool I)) (by rw[bJ,gC,rD X]) (by omega) (by omega) (λh=>by cases h) (s.lt a) (λc y z he=>by rw[sK] at z;cases z) (λr Z=>?_) (λi j y o=>?_) (λi j y o=>?_) (λi j y o=>?_);obtain⟨u,_,_,_,k⟩:=f i j y o;exact k;obtain⟨r0,O,rfl⟩:=dN.1 Z;rw[bJ];exact B.rl r0 (sA O);obtain⟨u,p,_,_,_⟩:=f i j y o;rw[show 0+i*d.size+j=i*d.size+j by omega,Df D,p];rfl;obtain⟨u,p,_,M,_⟩:=f i j y o;rw[p];exact M;obtain⟨u,p,K,_,_⟩:=f i j y o;rw[p];exact K;exact q (by simp only[dQ,gi,a,g,sr,if_false,if_neg t]);exact q (by simp only[dQ,gi,a,g,if_true]))|_=>exact q rfl
theorem Dk{κ:ei}{w:World}{Y:ae}{β:Id->Nat}{v:Value}{x:AV}(s:cv P κ w Y β)(h:ba κ w Y β v x)(e:pF (iZ Y x)=U):ba κ w [] β0 v (iZ Y x):=by cases x with|a cs=>(cases h with|a l k o=>simp only[iZ,pF] at e⊢;refine .a (by simp[l]) k λi v c p d=>?_;rw[fp] at d;cases f:cs[i]? with|none=>rw[f] at d;cases d|some y=>rw[f] at d;simp only[df,bE] at d;subst d;exact K0 s (o i v y p f) (dV.1 e _ (dN.2 ⟨y,fC f,rfl⟩)))|m b n=>have g:nj (dQ Y (.m b n))=U:=(by have:∀y,(∀cs,y≠ .a cs)->pF y=U->nj y=U:=λy j q=>(by cases y with|a cs=>exact absurd rfl (j cs)|_=>exact q);refine this _ (λcs=>?_) e;simp only[dQ];split;split;simp;split<;>simp;simp);exact K0 s h g|_=>exact K0 s h e
theorem aBk{κ:ei}{w:World}{Y:ae}{β:Id->Nat}{v:Value}{x:AV}(s:cv P κ w Y β)(h:ba κ w Y β v x)(c:kG (iZ Y x)=U):ba κ w [] β0 v (iZ Y x):=by cases x with|t cs=>exact h.convT c (λk g _=>⟨g,λb y d=>(by rw[sK] at d;cases d)⟩) (dA _)|a cs=>exact Dk s h c|m b n=>refine Dk s h ?_;have e:∀y,iZ Y (.m b n)=y->(∀vs,y≠ .t vs)->kG y=U->pF y=U:=λy _ f i=>(by cases y with|t vs=>exact absurd rfl (f vs)|_=>exact i);refine e _ rfl (λvs=>?_) c;simp only[iZ,dQ];split;split;simp;split<;>simp;simp|_=>exact Dk s h c
theorem tQ.code(d:tQ P){fn:FuncId}{f:Func}{c:Code}(b:P.funcs[fn]?=V f)(a:f.body=V c):qf P c/\oI c=U:=by refine⟨aBs d.funcs b a,?_⟩;have:=dV.1 d.guards f (by rw[vj];exact RA b);rw[a] at this;exact this
theorem aBh(d:tQ P){fn:FuncId}{f:Func}{c:Code}{ys:List AV}{R:AV->Prop}(M:P.funcs[fn]?=V f)(m:f.body=V c)(hn:(f.name== "runtime.NumGoroutine")=I)(hl:L ys<=f.ntmps)
  (h:iq P G c (QR P f R) (start f ys) (ly f)):zm P G fn ys R:=by
 refine⟨⟨f,c,M,m,hn⟩,λF w K hF hG O=>calls_of_wp M m ?_⟩
 have e0:=axP f w
 have ae:jG P G ⟨F,w.heap.size⟩ {tmps:=K.toArray++aqn (f.ntmps-K.toArray.size) undef,defers:=[]} w (start f ys) (ly f) β0:=by
  refine⟨rfl,?_,⟨λb x m=>(by rw[CY] at m;cases m),λb b' x x' m=>(by rw[CY] at m;cases m),hF,dA _⟩,hG.ext e0⟩
  have n:=O.1
  refine⟨by simp[start,n],λi v x g a=>?_⟩
  simp only[aqo,aqp,xm,start] at g a
  rw[rA] at g a
  rw[n] at g
  split at g
  ·rename_i Z;rw[if_pos Z] at a;exact(O.2 i v x g a).ext e0
  ·rename_i Z
   rw[if_neg Z] at a
   rw[xg] at g a
   split at g
   ·rename_i af;rw[if_pos af] at a;cases g;cases a;exact QT
   ·cases g
 refine wp_mono (Kg d.mixed c (d.code M m).1 (d.code M m).2 _ ae h) ?_
 rintro e A o ⟨s,u,az,N,q,B⟩
 have W:Below w.heap.size w o:=⟨B.os,B.tape,B.output,B.size,λk hk=>B.keep k hk (λb x m=>(by rw[CY] at m;cases m))⟩
 have S:∀r,yB P f s u=V r->kG r=U->R r->A.defers=[]/\∃v,(results f A.tmps).run P o= .ok v o/\∃v' r,Ending.returned v= .returned v'/\R r/\ba ⟨F,w.heap.size⟩ o [] β0 v' r/\Below w.heap.size w o:=by
  intro r d X hR
  refine⟨q.defers,?_⟩
  have al:∃j,(f.results.toList.map (kK P s u)).mapM id=V j/\((∃x,j=[x]/\r=iZ u x)\/(L j≠1/\r= .t (j.map (iZ u)))):=by
   unfold yB at d
   split at d
   ·rename_i x p
    cases E:x with
    |none=>rw[E] at d;cases d
    |some y=>
     rw[E] at d
     simp only[df,bE] at d
     exact⟨[y],by rw[p,E];rfl, .inl ⟨y,rfl,d.symm⟩⟩
   ·rename_i p
    cases hm:(f.results.toList.map (kK P s u)).mapM id with
    |none=>rw[hm] at d;cases d
    |some j=>
     rw[hm] at d
     simp only[df,bE] at d
     refine⟨j,rfl, .inr ⟨λg=>?_,d.symm⟩⟩
     have n:L (f.results.toList.map (kK P s u))=L j:=by
      have:∀(l:List (Option AV)) j,l.mapM id=V j->L l=L j:=by
       intro l
       induction l with
       |nil=>intro j h;simp at h;simp[h]
       |cons y l ih=>
        intro j h
        simp only[vz,id,xp,xq] at h
        cases y with
        |none=>cases h
        |some y=>
         simp only[ek] at h
         cases a:l.mapM id with
         |none=>rw[a] at h;cases h
         |some am=>
          rw[a] at h
          simp only[ek,bE] at h
          subst h
          simp[ih am a]
      exact this _ _ hm
     rw[g] at n
     obtain⟨y,hy⟩:=xj.1 n
     exact p y hy
  obtain⟨j,ah,C⟩:=al
  obtain⟨vs,k1,H⟩:=aoh q f.results.toList j ah
  have ab:(results f A.tmps).run P o= .ok (if h:vs.toArray.size=1 then vs.toArray[0] else .tuple vs.toArray) o:=by
   unfold results
   rw[aqm]
   simp only[Sem.run_bind]
   have ak:Sem.run P (Functor.map aq1 (f.results.toList.mapM λx=>(match x with| .tmp t=>pure (A.tmps.getD t undef)| .cell ad t=>do loadVar t (<-asAddr (A.tmps.getD ad undef)):Sem Value))) o= .ok vs.toArray o:=by
    rw[map_eq_pure_bind]
    simp only[Sem.run_bind,k1,Result.andThen_ok,Sem.run_pure]
   erw [ak]
   simp
  refine⟨_,ab,_,r,rfl,hR,?_,W⟩
  rcases C with⟨x,rfl,rfl⟩|⟨ag,rfl⟩
  ·have D:L vs=1:=by rw[H.1];rfl
   obtain⟨v,rfl⟩:=xj.1 D
   simp only[xm,GJ,dite_true,aqR,aqP]
   exact aBk q.sim (H.2 0 v x rfl rfl) X
  ·have D:¬vs.toArray.size=1:=by simp only[xm];rw[H.1];exact ag
   rw[dif_neg D]
   simp only[kG] at X
   refine .t (by simp[H.1]) (λi v c O z=>?_)
   rw[fp] at z
   cases p:j[i]? with
   |none=>rw[p] at z;cases z
   |some x=>
    rw[p] at z
    simp only[df,bE] at z
    subst z
    exact Dk q.sim (H.2 i v x O p) (dV.1 X _ (dN.2 ⟨x,fC p,rfl⟩))
 cases e<;>simp only[QR] at N<;>first|exact N.elim|skip
 ·obtain⟨r,g,a,T⟩:=N;exact S r g a T
 ·obtain⟨r,g,a,T⟩:=N;exact S r g a T
theorem vN{ops:Array Oper}{K b:List AV->ae->Prop}(g:∀a Y,K a Y->b a Y):∀(l:List Oper) {a:List AV} {Y:ae},rE P G ops l K a Y->rE P G ops l b a Y:=by intro l;induction l with|nil=>intro a Y h;exact g _ _ h|cons o l i=>intro a Y h;obtain⟨c,d,e,f⟩:=oE.1 h;exact oE.2 ⟨c,d,e,i f⟩
theorem zK{ops:Array Oper}{K c:List fY->List AV->ae->Prop}(i:∀l a Y,K l a Y->c l a Y):∀(l:List Oper) (b:List fY) {a:List AV} {Y:ae},qq P G ops l b K a Y->qq P G ops l b c a Y:=by intro l;induction l with|nil=>intro b a Y h;exact i _ _ _ h|cons o l j=>intro b a Y h;obtain⟨d,e,f,g⟩:=oE.1 h;exact oE.2 ⟨d,e,f,j _ g⟩
theorem ak6{ops:Array Oper}{K:List AV->ae->Prop}:∀(l:List Oper) {d:List AV} {Y:ae},rE P G ops l K d Y->∃c e,K c e/\rE P G ops l (λa b=>a=c/\b=e) d Y:=by intro l;induction l with|nil=>intro d Y h;exact⟨d,Y,h,rfl,rfl⟩|cons o l n=>intro d Y h;obtain⟨f,g,i,j⟩:=oE.1 h;obtain⟨c,e,k,m⟩:=n j;exact⟨c,e,k,oE.2 ⟨f,g,i,m⟩⟩
theorem asi{ops:Array Oper}{K:List fY->List AV->ae->Prop}:∀(l:List Oper) (d:List fY) {f:List AV} {Y:ae},qq P G ops l d K f Y->∃ls e g,K ls e g/\qq P G ops l d (λc a b=>c=ls/\a=e/\b=g) f Y:=by intro l;induction l with|nil=>intro d f Y h;exact⟨d,f,Y,h,rfl,rfl,rfl⟩|cons o l q=>intro d f Y h;obtain⟨i,j,k,m⟩:=oE.1 h;obtain⟨ls,e,g,n,p⟩:=q _ m;exact⟨ls,e,g,n,oE.2 ⟨i,j,k,p⟩⟩
theorem kR:∀(c:Code) {Q g:QX} {f:List AV} {Y:ae},(∀e f Y,Q e f Y->g e f Y)->iq P G c Q f Y->iq P G c g f Y:=by intro c;induction c with|skip=>intro Q g f Y b h;exact b _ _ _ h|label l=>intro Q g f Y b h;exact b _ _ _ h|exit q=>intro Q g f Y b h;exact b _ _ _ h|ret=>intro Q g f Y b h;exact b _ _ _ h|region q ops d=>intro Q g f Y b h;(cases d with|false=>exact vN (b .normal) _ h|true=>simp only[iq,sF] at h⊢;split at h;rename_i o;rw[if_pos o];exact vN (b .normal) _ h;rename_i o;rw[if_neg o];exact zK (λl f Y h=>⟨h.1,b _ _ _ h.2⟩) _ _ h)|seq x y k m=>intro Q g f Y b h;refine k ?_ h;intro e f Y i;(cases e<;>first|exact m b i|exact b _ _ _ i)|cond c x y k m=>intro Q g f Y b h;simp only[iq] at h⊢;split at h;rename_i t v;(cases t with|true=>exact k b h|false=>exact m b h);exact h.elim|block q c p=>intro Q g f Y b h;refine p ?_ h;intro e f Y i;(cases e with|exit j=>simp only[QX.inBlock] at i⊢;split;rename_i n;rw[if_pos n] at i;exact b _ _ _ i;rename_i n;rw[if_neg n] at i;exact b _ _ _ i|_=>exact b _ _ _ i)|loop c p=>intro Q g f Y b h;obtain⟨a,u,r,s⟩:=h;refine⟨a,u,r,λf Y hI=>p ?_ (s f Y hI)⟩;intro e f Y i;(cases e<;>first|exact i|exact b _ _ _ i)|_=>intro Q g f Y b h;exact h.elim
theorem Kf:∀(c:Code) {Q:QX} {i:List AV} {Y:ae},iq P G c Q i Y->∃e g m,Q e g m/\iq P G c (λp a b=>p=e/\a=g/\b=m) i Y:=by intro c;induction c with|skip=>intro Q i Y h;exact⟨_,_,_,h,rfl,rfl,rfl⟩|label l=>intro Q i Y h;exact⟨_,_,_,h,rfl,rfl,rfl⟩|exit w=>intro Q i Y h;exact⟨_,_,_,h,rfl,rfl,rfl⟩|ret=>intro Q i Y h;exact⟨_,_,_,h,rfl,rfl,rfl⟩|region w ops d=>intro Q i Y h;(cases d with|false=>obtain⟨g,m,k,o⟩:=ak6 _ h;exact⟨.normal,g,m,k,vN (λa b r=>⟨rfl,r⟩) _ o⟩|true=>by_cases S:rG G ops.toList=U;simp only[iq,sF,if_pos S] at h⊢;obtain⟨g,m,k,o⟩:=ak6 _ h;exact⟨.normal,g,m,k,vN (λa b r=>⟨rfl,r⟩) _ o⟩;simp only[iq,sF,if_neg S] at h⊢;obtain⟨ls,g,m,k,o⟩:=asi _ _ h;exact⟨.normal,g,m,k.2,zK (λl a b r=>⟨by rw[r.1];exact k.1,rfl,r.2⟩) _ _ o⟩)|seq x y z A=>intro Q i Y h;obtain⟨e,q,s,k,o⟩:=z h;by_cases u:e= .normal;subst u;obtain⟨K,g,m,M,C⟩:=A k;refine⟨K,g,m,M,kR x ?_ o⟩;rintro p a b ⟨rfl,rfl,rfl⟩;exact C;refine⟨e,q,s,?_,kR x ?_ o⟩;(cases e<;>first|exact absurd rfl u|exact k);rintro p a b ⟨rfl,rfl,rfl⟩;(cases p<;>first|exact absurd rfl u|exact⟨rfl,rfl,rfl⟩)|cond c x y z A=>intro Q i Y h;simp only[iq] at h⊢;split at h;rename_i t hc;(cases t with|true=>exact z h|false=>exact A h);exact h.elim|block w c N=>intro Q i Y h;obtain⟨e,q,s,k,o⟩:=N h;(cases e with|exit j=>by_cases F:j=w;simp only[QX.inBlock] at k;rw[if_pos F] at k;refine⟨.normal,q,s,k,kR c ?_ o⟩;rintro p a b ⟨rfl,rfl,rfl⟩;show(if j=w then _ else _);rw[if_pos F];exact⟨rfl,rfl,rfl⟩;simp only[QX.inBlock] at k;rw[if_neg F] at k;refine⟨.exit j,q,s,k,kR c ?_ o⟩;rintro p a b ⟨rfl,rfl,rfl⟩;show(if j=w then _ else _);rw[if_neg F];exact⟨rfl,rfl,rfl⟩|_=>refine⟨_,q,s,k,kR c ?_ o⟩;rintro p a b ⟨rfl,rfl,rfl⟩;exact⟨rfl,rfl,rfl⟩)|loop c N=>intro Q i Y h;obtain⟨f,μ,X,v⟩:=h;have W:∀n i Y,f i Y->μ i Y=n->∃e g m,Q e g m/\iq P G (.loop c) (λp a b=>p=e/\a=g/\b=m) i Y:=(by intro n;induction n using Nat.strongRecOn with|_ n T=>rintro i Y hI rfl;obtain⟨e,q,s,k,o⟩:=N (v i Y hI);by_cases u:e= .normal;subst u;obtain⟨O,R⟩:=k;obtain⟨K,g,m,M,B,H,C,Z⟩:=T _ R q s O rfl;classical refine⟨K,g,m,M,λa b=>(a=i/\b=Y)\/B a b,λa b=>if B a b then H a b else H q s+1, .inl ⟨rfl,rfl⟩,λa b r=>?_⟩;by_cases E:B a b;refine kR c ?_ (Z a b E);intro p x y D;(cases p<;>first|(refine⟨.inr D.1,?_⟩;simp only[if_pos (show B x y from D.1),if_pos E];exact D.2)|exact D);obtain⟨rfl,rfl⟩:=r.resolve_right E;refine kR c ?_ o;rintro p x y ⟨rfl,rfl,rfl⟩;refine⟨.inr C,?_⟩;simp only[if_pos C,if_neg E];exact Nat.lt_succ_self _;refine⟨e,q,s,?_,λa b=>a=i/\b=Y,λ_ _=>0,⟨rfl,rfl⟩,?_⟩;(cases e<;>first|exact absurd rfl u|exact k);rintro a b ⟨rfl,rfl⟩;refine kR c ?_ o;rintro p x y ⟨rfl,rfl,rfl⟩;cases p<;>first|exact absurd rfl u|exact⟨rfl,rfl,rfl⟩);exact W _ i Y X rfl|_=>intro Q i Y h;exact h.elim
def Fn(P:Program)(G:dk)(fn:FuncId)(ys:List AV)(R:AV->Prop):Prop:=∃r,R r/\kG r=U/\zm P G fn ys (·=r)
theorem Fn.mono{fn:FuncId}{ys:List AV}{R a:AV->Prop}(h:Fn P G fn ys R)(e:∀r,R r->a r):Fn P G fn ys a:=by obtain⟨r,b,c,d⟩:=h;exact⟨r,e r b,c,d⟩
theorem aBg(p:tQ P){fn:FuncId}{f:Func}{c:Code}{ys:List AV}{R:AV->Prop}(m:P.funcs[fn]?=V f)(l:f.body=V c)(o:(f.name== "runtime.NumGoroutine")=I)(n:L ys<=f.ntmps)(h:iq P G c (QR P f R) (start f ys) (ly f)):Fn P G fn ys R:=by obtain⟨e,i,j,d,k⟩:=Kf c h;have:∃r,yB P f i j=V r/\kG r=U/\R r/\(e= .normal\/e= .ret):=(by(cases e<;>simp only[QR] at d<;>first|exact d.elim|skip);obtain⟨r,a,b,c⟩:=d;exact⟨r,a,b,c, .inl rfl⟩;obtain⟨r,a,b,c⟩:=d;exact⟨r,a,b,c, .inr rfl⟩);obtain⟨r,q,g,s,t⟩:=this;refine⟨r,s,g,aBh p m l o n (kR c ?_ k)⟩;rintro u a b ⟨rfl,rfl,rfl⟩;rcases t with rfl|rfl<;>exact⟨r,q,g,rfl⟩
def wG(P:Program)(f:Func)(b:List AV)(Y:ae):Option AV:=
 match f.results.toList.map (kK P b Y) with
 |[r]=>r
 |a=>(a.mapM id).map .t
def QB(P:Program)(f:Func)(R:AV->ae->Prop):QX:=λe a Y=>
 match e with
 | .normal| .ret=>∃r,wG P f a Y=V r/\R r Y
 |_=>False
theorem Qn:∀(l:List (Option AV)) (a:List AV),l.mapM id=V a->L l=L a:=by intro l;induction l with|nil=>intro a h;simp at h;simp[h]|cons y l d=>intro a h;simp only[vz,id,xp,xq] at h;cases y with|none=>(cases h)|some y=>simp only[ek] at h;cases b:l.mapM id with|none=>rw[b] at h;cases h|some c=>rw[b] at h;simp only[ek,bE] at h;subst h;simp[d c b]
theorem aoi{f:Func}{a:Act}{w:World}{j:List AV}{Y:ae}{β:Id->Nat}{r:AV}(h:jG P G κ a w j Y β)(b:wG P f j Y=V r):∃v,(results f a.tmps).run P w= .ok v w/\ba κ w Y β v r:=by
 have q:∃c,(f.results.toList.map (kK P j Y)).mapM id=V c/\(c=[r]\/(L c≠1/\r= .t c)):=by
  unfold wG at b
  split at b
  ·rename_i x m
   subst b
   exact⟨[r],by rw[m];rfl, .inl rfl⟩
  ·rename_i m
   cases k:(f.results.toList.map (kK P j Y)).mapM id with
   |none=>rw[k] at b;cases b
   |some c=>
    rw[k] at b
    simp only[df,bE] at b
    refine⟨c,rfl, .inr ⟨λu=>?_,b.symm⟩⟩
    have d:=Qn _ _ k
    rw[u] at d
    obtain⟨y,z⟩:=xj.1 d
    exact m y z
 obtain⟨c,o,e⟩:=q
 obtain⟨vs,A,i⟩:=aoh h f.results.toList c o
 have l:(results f a.tmps).run P w= .ok (if h:vs.toArray.size=1 then vs.toArray[0] else .tuple vs.toArray) w:=by
  unfold results
  rw[aqm]
  simp only[Sem.run_bind]
  have p:Sem.run P (Functor.map aq1 (f.results.toList.mapM λx=>(match x with| .tmp t=>pure (a.tmps.getD t undef)| .cell s t=>do loadVar t (<-asAddr (a.tmps.getD s undef)):Sem Value))) w= .ok vs.toArray w:=by
   rw[map_eq_pure_bind]
   simp only[Sem.run_bind,A,Result.andThen_ok,Sem.run_pure]
  erw [p]
  simp
 refine⟨_,l,?_⟩
 rcases e with rfl|⟨n,rfl⟩
 ·have g:L vs=1:=by rw[i.1];rfl
  obtain⟨v,rfl⟩:=xj.1 g
  simp only[xm,GJ,dite_true,aqR,aqP]
  exact i.2 0 v r rfl rfl
 ·have g:¬vs.toArray.size=1:=by simp only[xm];rw[i.1];exact n
  rw[dif_neg g]
  exact .t i.1 i.2
theorem aBf(s:tQ P){fn:FuncId}{f:Func}{c:Code}{ys:List AV}{p:ae}{R:AV->ae->Prop}(n:P.funcs[fn]?=V f)(m:f.body=V c)(E:(f.name== "runtime.NumGoroutine")=I)(h:iq P G c (QB P f R) (start f ys) p):∃r t,R r t/\cZ P G fn ys p r t:=by obtain⟨e,B,o,d,g⟩:=Kf c h;have:∃r,wG P f B o=V r/\R r o/\(e= .normal\/e= .ret):=(by(cases e<;>simp only[QB] at d<;>first|exact d.elim|skip);obtain⟨r,a,b⟩:=d;exact⟨r,a,b, .inl rfl⟩;obtain⟨r,a,b⟩:=d;exact⟨r,a,b, .inr rfl⟩);obtain⟨r,F,H,K⟩:=this;refine⟨r,o,H,⟨f,c,n,m,E⟩,λκ w β l hs C z=>calls_of_wp n m ?_⟩;have u:jG P G κ {tmps:=l.toArray++aqn (f.ntmps-l.toArray.size) undef,defers:=[]} w (start f ys) p β:=(by refine⟨rfl,?_,hs,C⟩;have k:=z.1;refine⟨by simp[start,k],λi v x d g=>?_⟩;simp only[aqo,aqp,xm,start] at d g;rw[rA] at d g;rw[k] at d;split at d;rename_i q;rw[if_pos q] at g;exact z.2 i v x d g;rename_i q;rw[if_neg q] at g;rw[xg] at d g;split at d;rename_i y;rw[if_pos y] at g;cases d;cases g;exact QT;cases d);refine wp_mono (Kg s.mixed c (s.code n m).1 (s.code n m).2 _ u g) ?_;rintro S O T ⟨_,_,A,⟨rfl,rfl,rfl⟩,j,D⟩;obtain⟨v,M,N⟩:=aoi j F;rcases K with rfl|rfl<;>exact⟨j.defers,v,M,v,A,rfl,N,j.sim,D⟩
end
end Go.Ab
