/- Part of the proof of EncodeValid. -/
import Derived.Test.YtcceijpmabdflaaGreatDoorD
set_option linter.all false
set_option maxRecDepth 100000
open And renaming intro->ai
open Bool renaming and_eq_false_iff->bik,and_eq_true->bN,and_false->bsm,and_true->ru,eq_false_or_eq_true->sq,false->I,false_eq_true->eE,not_eq_false'->fK,not_eq_true'->eH,not_false->kN,not_true->fh,or_eq_false_iff->cP,true->U,true_eq_false->sr
open Decidable renaming decide->Q,not_not->aNS
open Go.IntKind renaming i64->dq
open Go.Proofs.Tryz renaming prog->aS
open Go.Value renaming bool.injEq->mV,int.injEq->mW,string.injEq->mX
open Int renaming toNat_natCast->bh,toNat_of_nonneg->kA,toNat_zero->Gx
open List renaming Pairwise->Cr,all_cons->Cs,all_eq_true->dV,all_nil->aqG,append_assoc->bje,append_nil->cL,cons.injEq->kO,cons_append->zn,drop->aOz,drop_length->Gz,drop_zero->J3,filter_append->me,filter_eq_nil_iff->RK,flatMap_cons->Cz,flatMap_nil->RN,foldl_nil->aRl,getElem?_append_right->xf,getElem?_map->bj9,getElem_of_mem->ou,length->L,length_append->a6G,length_cons->bZ,length_map->bJ,length_nil->aO1,length_take->gC,map_append->dg,map_congr_left->ja,map_cons->ji,map_flatMap->RT,map_id->brw,map_map->vA,map_nil->mU,map_set->vB,mem_append->dF,mem_cons->eW,mem_filter->jW,mem_flatMap->iI,mem_iff_getElem->RU,mem_map->dN,mem_range->fq,mem_singleton->cE,nil_append->dW,nodup_append->xl,nodup_range->GM,not_mem_nil->ql,range->aH,set_append_right->CD,set_cons_zero->RY,set_eq_take_append_cons_drop->GP,take_succ_eq_append_getElem->iJ,take_zero->CE
open Nat renaming eq_zero_or_pos->oD,le_of_lt->aYB,le_refl->dA,le_trans->gl,lt_of_lt_of_le->bkb,lt_or_ge->jj,min_eq_left->rD,mul_le_mul->xn,mul_le_mul_right->qo,reduceAdd->dc,sub_self->tM,succ_mul->tN,zero_add->aj,zero_le->mh
open Option renaming bind_some->aQd,map_some->df,none->J,some->V,some.injEq->bE
open Prod renaming mk.injEq->iK
namespace Go.Ab
open Go Go.RowKit Go.Proofs
def aB8{w:am}{u:Int}{l:List Int}{q:Int}(h:q∈fg w u l):∃x∈l,0<=x-gd w.init.count u.toNat/\x-gd w.init.count u.toNat<(L (aRQ w.ac u<|L w.ac):Int)/\q=gd (aRQ w.ac u<|L w.ac) (x-gd w.init.count u.toNat).toNat:=by unfold fg bqV at h;grind [Er]
theorem an7{w:am}(h:xv w){k:Nat}(a:k<L w.ac){q:Int}{l:List Int}(j:∀x∈l,x∈(gd w.ac k).dI\/x∈(gd w.ac k).ep)(n:q∈fg w (gd w.ac k).aq l):aF (L w.ac) q/\fR (gd w.ac q.toNat)=U:=by obtain⟨x,o,v,y,rfl⟩:=aB8 n;obtain⟨s,u,e⟩:=h.rd k a x<|j x o;obtain⟨f,g⟩:=e (by omega);have c:=(h.wo.wo.named a).2;have d:(((gd w.ac k).aq.toNat:Nat):Int)=(gd w.ac k).aq:=kA c.1;simp only[aOu,bJ,d] at f g;generalize z:(x-gd w.init.count (gd w.ac k).aq.toNat).toNat=m at*;have b:m<L (fj w.ac (gd w.ac k).aq k):=(by omega);obtain⟨r,A⟩:=QC (l:=w.ac) (t:=(gd w.ac k).aq) (show k<=L w.ac by omega);have i:gd (aRQ w.ac (gd w.ac k).aq<|L w.ac) m=((gd (fj w.ac (gd w.ac k).aq k) m:Nat):Int):=(by grind [aRQ,bT]);rw[i];have p:gd (fj w.ac (gd w.ac k).aq k) m<k:=(by have:=ve b;exact fq.1 (jW.1 this).1);refine⟨⟨by omega,by omega⟩,?_⟩;grind [bT]
def an6{w:am}(h:xv w)(l:hU w):tP w:=by have i:∀k,k<L w.ac->∀x,x∈(gd w.ac k).dI\/x∈(gd w.ac k).ep-> -1000<=x/\x<=1000:=λk a x d=>⟨(h.rd k a x d).1,(h.rd k a x d).2.1⟩;refine⟨h.ct.1,(by grind [xv.ct,ii]),λk a=>⟨?_,by grind⟩,λk a=>⟨?_,by grind⟩,(by grind [an7]),by grind [an7]⟩;(all_goals have c:=(h.wo.wo.en k a).2;simp only[be3,bip,eH,cP,fK,I8] at c;obtain⟨_,_,_,_,⟨f,g⟩,_⟩:=c;have j:=(h.wo.wo.named a).2);rcases oD (L (gd w.ac k).dI) with b|b;omega;have e:=yq f (L (gd w.ac k).dI-1) (by omega);grind [ve];rcases oD (L (gd w.ac k).ep) with b|b;omega;have e:=yq g (L (gd w.ac k).ep-1) (by omega);grind [ve]
theorem D5{w:am}{x:aH8}:x∈lr (L w.ac) (L w.ac)↔x.kind=1/\aF (L w.ac) x.a/\aF (L w.ac) x.b/\x.a≠x.b:=by obtain⟨kd,a,b⟩:=x;simp only[lr,nB,iI,fq,dN,jW,I8,aH8.mk.injEq];constructor;rintro⟨i,g,j,⟨h,e⟩,rfl,rfl,rfl⟩;exact⟨rfl,⟨by omega,by omega⟩,⟨by omega,by omega⟩,e⟩;rintro⟨rfl,c,d,f⟩;refine⟨a.toNat,by have:=c.1;have:=c.2;omega,b.toNat,⟨by have:=d.1;have:=d.2;omega,?_⟩,rfl,kA c.1,kA d.1⟩;rw[kA c.1,kA d.1];exact f
theorem Qs{w:am}{x:aH8}:x∈cw w↔x∈lr (L w.ac) (L w.ac)\/x∈mK (L w.ac)\/x∈kh w.ac (L w.ac)\/x∈ki w (L w.ac)\/x∈jp w (L w.ac):=by grind [cw]
theorem D6{n:Nat}{x:aH8}:x∈mK n↔∃a:Nat,a<n/\x=⟨2,a,0⟩:=by grind [mK]
theorem D7{l:List aP}{n:Nat}{x:aH8}:x∈kh l n↔∃a:Nat,a<n/\fR (gd l a)=U/\x=⟨3,a,0⟩:=by grind [kh]
theorem ant{w:am}{n:Nat}{x:aH8}:x∈ki w n↔∃a:Nat,a<n/\∃s∈dx w a,x=⟨4,a,s⟩:=by grind [ki]
def anG{w:am}(b:L (cw w)<100000):jb w (cw w):=by refine⟨b,(by grind [Qs,D5]),λx a=>Qs.2<|.inr<|.inl<|D6.2 ⟨x.toNat,by have:=a.1;have:=a.2;omega,by rw[kA a.1]⟩,λx a c=>Qs.2<|.inr<|.inr<|.inl<|D7.2 ⟨x.toNat,by have:=a.1;have:=a.2;omega,c,by rw[kA a.1]⟩⟩
theorem D8{w:am}{n:Nat}{x:aH8}:x∈jp w n↔∃a:Nat,a<n/\pN (gd w.ac a)=U/\∃s∈mR w (gd w.ac a).bF (gd w.ac a).aq,x=⟨5,a,s⟩:=by simp only[jp,iI,fq,pR];grind
theorem yH{p:Nat->Bool}{k:Nat}{s:Int}(h:s∈fw p k):∃i:Nat,i<k/\p i=U/\s=i:=by obtain⟨i,a,rfl⟩:=dN.1 h;grind
theorem anE{w:am}(a:L w.ac<=16)(g:L w.init.bW.ay<=4):L (cw w)<2000/\L (jp w<|L w.ac)<=320:=by have b:=AS (L w.ac)<|L w.ac;have c:=AT<|L w.ac;have d:=AU w.ac<|L w.ac;have e:=AW w<|L w.ac;have f:=Qv w<|L w.ac;have m1:L w.ac*L w.ac<=16*16:=xn a a;have h:L w.ac*(1+L w.ac)<=16*17:=(by grind);have i:L w.ac*(L w.init.bW.ay+L w.ac)<=16*20:=xn a (by omega);simp only[cw,a6G];omega
theorem Qf{w:am}:aR (cw w) 5=jp w (L w.ac):=by have a:∀{l:List aH8} {k:Int},(∀x∈l,x.kind=k)->k≠5->l.filter (λx=>Q<|x.kind=5)=[]:=(by simp_all);have b:∀{l:List aH8},(∀x∈l,x.kind=5)->l.filter (λx=>Q<|x.kind=5)=l:=(by simp);simp only[aR,cw,me];rw[a (k:=1) (by grind [D5]) (by decide),a (k:=2) (by grind [D6]) (by decide),a (k:=3) (by grind [D7]) (by decide),a (k:=4) (by grind [ant]) (by decide),b<|by grind [D8]];simp
def Rq{w:am}(m:L w.ac<=16)(l:L w.init.bW.ay<=4):sE w (cw w):=by refine⟨λx b=>?_,by grind [Qf,anE]⟩;rw[Qf] at b;obtain⟨a,d,j,s,hs,rfl⟩:=D8.1 b;refine⟨⟨by simp,by simpa using d⟩,by grind,λc=>?_⟩;simp only at c⊢;rcases dF.1 hs with h|h;obtain⟨t,f,rfl⟩:=dN.1 h;grind [yH];obtain⟨i,g,k,rfl⟩:=yH h;refine⟨⟨by omega,by omega⟩,λe=>?_⟩;grind [wV]
def Kt{w:am}{r:Nat}{s:Int}(h:s∈dx w r):(s= -1\/0<=s)/\(0<=s->aF (L w.ac) s/\s≠(r:Int)):=by unfold dx at h;(cases a:(dh (r:Int) (L w.ac)&&fR (gd w.ac (r:Int).toNat)));grind;rw[a] at h;simp only[a7g] at h;rcases dF.1 h with h|h;grind;obtain⟨i,b,c,rfl⟩:=yH h;refine⟨.inr (by omega),λ_=>⟨⟨by omega,by omega⟩,λe=>?_⟩⟩;grind [mr,aTG]
def al6{α β:Type}{p:β->Bool}{f:α->List β}:∀{l:List α},(l.flatMap f).filter p=l.flatMap λa=>(f a).filter p
 |[]=>rfl
 |a::l=>by rw[Cz,Cz,me,al6]
def amd{β:Type}{f:Nat->List β}{r:Nat}:∀{n:Nat},(∀a,a≠r->f a=[])->(aH n).flatMap f=if r<n then f r else[]
 |0,_=>by simp
 |n+1,h=>by
  rw[aNG,amd (n:=n) h]
  grind
def aId{w:am}(f:L w.ac<=16):GU w (cw w):=by refine⟨λr c d=>?_,λr s hs=>(Kt hs).2,by grind [vU]⟩;have b:∀{l:List aH8} {k:Int},(∀x∈l,x.kind=k)->k≠4->l.filter (oa r)=[]:=(by grind [RK,oa]);simp only[cw,me];rw[b (k:=1) (by grind [D5]) (by decide),b (k:=2) (by grind [D6]) (by decide),b (k:=3) (by grind [D7]) (by decide),b (l:=jp w<|L w.ac) (k:=5) (by grind [D8])<|by decide];simp only[dW,cL];rw[ki,al6,amd (r:=r)<|λa e=>?_,lD c];grind [List.filter_eq_self,oa];grind [RK,oa]
def Ec{β:Type}{f:Nat->List β}:∀{n:Nat},(∀a,(f a).Nodup)->(∀a c,a≠c->∀x∈f a,x∉f c)->((aH n).flatMap f).Nodup
 |0,_,_=>by simp
 |n+1,b,d=>by
  rw[aNG,xl]
  refine⟨Ec b d,b n,λx g y h e=>?_⟩
  grind
def wC{α β:Type}{f:α->β}{l:List α}(c:∀a b,f a=f b->a=b)(h:l.Nodup):(l.map f).Nodup:=by grind
theorem Qw{p:Nat->Bool}{k:Nat}:(fw p k).Nodup:=wC (λa b h=>by omega)<|Cr.filter _ GM
theorem aEo{w:am}{r:Nat}:(dx w r).Nodup:=by unfold dx;grind [Qw,yH]
theorem aEp{w:am}{c u:Int}:(mR w c u).Nodup:=by grind [mR,iH,Qw,yH]
def aEm{w:am}:(cw w).Nodup:=by have f:(lr (L w.ac)<|L w.ac).Nodup:=(by refine Ec (λa=>?_) λa c e x b d=>?_;exact wC (λi j h=>by simp only[aH8.mk.injEq] at h;omega)<|Cr.filter _ GM;obtain⟨i,_,rfl⟩:=dN.1 b;obtain⟨j,_,h⟩:=dN.1 d;grind);have g:(mK<|L w.ac).Nodup:=wC (λi j h=>by simp only[aH8.mk.injEq] at h;omega) GM;have k:(kh w.ac<|L w.ac).Nodup:=wC (λi j h=>by simp only[aH8.mk.injEq] at h;omega)<|Cr.filter _ GM;have l:(ki w<|L w.ac).Nodup:=(by refine Ec (by grind [aEo]) λa c e x b d=>?_;grind);have m:(jp w<|L w.ac).Nodup:=(by refine Ec (λa=>?_) λa c e x b d=>?_;grind [pR,aEp];grind [pR]);have n:∀x∈lr (L w.ac) (L w.ac),x.kind=1:=λx b=>(D5.1 b).1;have o:∀x∈mK (L w.ac),x.kind=2:=(by grind [D6]);have p:∀x∈kh w.ac (L w.ac),x.kind=3:=(by grind [D7]);have q:∀x∈ki w (L w.ac),x.kind=4:=(by grind [ant]);have r:∀x∈jp w (L w.ac),x.kind=5:=(by grind [D8]);unfold cw;rw[xl,xl,xl,xl];grind
def gZ(w:J9)(lock:Int)(e:aP):Bool:=Q<|mM w lock e=lock
def boU(E:aP->Bool)(l:List aP)(x:bp)(i:Nat):Bool:=Q (x.dD<i)&&(Q ((gd l i).aq=x.aq)&&E (gd l i))
def fT(E:aP->Bool)(l:List aP)(x:bp):Nat->Int|0=> -1|k+1=>bif Q (fT E l x k<0)&&boU E l x k then k else fT E l x k
def gk(E:aP->Bool)(l:List aP)(k:Nat)(x:bp):bp:={x with dY:=fT E l x k}
theorem El{E:aP->Bool}{l:List aP}{x:bp}:∀{k:Nat},(∀i,i<k->boU E l x i=I)->fT E l x k= -1
 |0,_=>rfl
 |k+1,h=>by
  rw[fT,h k (by omega),bsm,a5C,El<|by grind]
def aob{E:aP->Bool}{l:List aP}{x:bp}{i:Nat}(h:∀j,j<i->boU E l x j=I)(c:boU E l x i=U):∀{k:Nat},i<k->fT E l x k=i
 |0,b=>by omega
 |k+1,b=>by
  rcases jj i k with a|a
  ·rw[fT,aob h c a,bio (by omega),Bool.false_and,a5C]
  grind [fT,El]
def an9{E:aP->Bool}{l:List aP}{x:bp}:∀{k:Nat},fT E l x k= -1\/∃i:Nat,i<k/\boU E l x i=U/\fT E l x k=i
 |0=> .inl rfl
 |k+1=>by
  rw[fT]
  cases d:(Q (fT E l x k<0)&&boU E l x k) with
  |true=>
   grind
  |false=>
   rw[a5C]
   rcases an9 (E:=E) (l:=l) (x:=x) (k:=k) with h|⟨i,a,b,c⟩
   ·exact .inl h
   grind
def oF(w:J9)(lock:Int)(l:List aP)(k:Nat):List bp:=(aH k).flatMap λi=>oY w lock (gd l i) i
def nu(w:J9)(s:aW)(lock:Int):List bp:=(aH<|L s.ay).flatMap<|bqI w s lock
theorem zL{w:J9}{lock:Int}{l:List aP}{k:Nat}{x:bp}(h:x∈oF w lock l k):∃i:Nat,i<k/\lK w lock (gd l i)=lock/\x=⟨(gd l i).aq,i,-1,(dD w<|gd l i).2⟩:=by obtain⟨i,a,b⟩:=iI.1 h;grind [oY]
theorem uu{w:J9}{s:aW}{lock:Int}{x:bp}(h:x∈nu w s lock):∃u:Nat,u<L s.ay/\x.aq=u/\x.dD= -1/\x.dY= -1/\(if lock=L w.ak then s.tx=u/\x.read=I else if x.read=U then(u:Int)∈(gd s.ak lock.toNat).bk else(gd s.ak lock.toNat).awG=u):=by obtain⟨u,c,a⟩:=iI.1 h;refine⟨u,fq.1 c,?_⟩;unfold bqI at a;by_cases b:lock=L w.ak;simp_all;rw[lC b] at a;rw[lC b];rcases dF.1 a with a|a;grind [pJ];grind [pK]
def aos{w:J9}{s:aW}{l:List aP}{lock:Int}:∀{k:Nat},dZ w s l lock k=(nu w s lock++oF w lock l k).map (gk (gZ w lock) l k)
 |0=>by
  simp only[dZ,oF,List.range_zero,RN,cL]
  refine(brw _).symm.trans (ja λx a=>?_)
  obtain⟨u,i,b,d,c,_⟩:=uu a
  cases x
  simp only at c
  subst c
  rfl
 |k+1=>by
  rw[dZ,aos]
  have e:∀x∈nu w s lock++oF w lock l k,x.dD<(k:Int):=by
   grind [uu,zL]
  have f:oF w lock l (k+1)=oF w lock l k++oY w lock (gd l k) k:=aNG
  rw[f,<-bje]
  conv=>rhs;rw[dg]
  congr 1
  ·unfold tv
   by_cases g:mM w lock (gd l k)=lock
   ·rw[lD g,vA]
    refine ja λx a=>?_
    have:=e x a
    have h:fT (gZ w lock) l x (k+1)=bif Q (fT (gZ w lock) l x k<0)&&boU (gZ w lock) l x k then(k:Int) else fT (gZ w lock) l x k:=rfl
    by_cases b:x.aq=(gd l k).aq/\fT (gZ w lock) l x k<0
    ·have d:ma (gd l k).aq k (gk (gZ w lock) l k x)={gk (gZ w lock) l k x with dY:=k}:=lD b
     grind [gk,boU,gZ]
    ·have d:ma (gd l k).aq k (gk (gZ w lock) l k x)=gk (gZ w lock) l k x:=lC b
     have c:(Q (fT (gZ w lock) l x k<0)&&boU (gZ w lock) l x k)=I:=by
      grind [boU]
     grind [gk]
   grind [ja,gk,fT,boU,gZ]
  ·refine(brw _).symm.trans (ja λx a=>?_)
   grind [oY,gk,El,boU]
def Q5{w:J9}{s:aW}{l:List aP}{lock:Int}:jE w s l lock=(nu w s lock++oF w lock l (L l)).map (gk (gZ w lock) l<|L l):=aos
def xo(w:J9)(Lw:Int)(s:aW)(x:bp):Prop:=
 if Lw=L w.ak then s.tx=x.aq/\x.read=I else if x.read=U then x.aq∈(cH s Lw).bk else(cH s Lw).awG=x.aq
def alS{w:J9}{s:aW}{t a bF:Int}(h:jm w s t a bF=U):lc w s t a bF=U/\named w a bF=U/\aF (L w.ay) t/\lh w s=U:=by grind [jm,dX]
theorem aDe{s:aW}{Lw:Int}{a:cg}(h:aF (L s.ak) Lw):cH (I9 s Lw a) Lw=a:=Af h
def aDf{s:aW}{i Lw:Int}{a:cg}(b:0<=i)(c:0<=Lw)(h:i≠Lw):cH (I9 s i a) Lw=cH s Lw:=by grind [cH,I9,gd]
theorem aFa{l:List Int}{t x:Int}(h:x∈l\/x=t):x∈fk l t:=by induction l with|nil=>grind [fk]|cons y l a=>grind [fk]
def Qk{s:aW}{i:Int}{t:aoC}{Lw:Int}:cH (ni s i t) Lw=cH s Lw:=rfl
def ane{Lw:Int}:∀{l:List Int} {s:aW},cH (l.foldl (λs u=>Ab.ni s u {fA s u with cQ:=4}) s) Lw=cH s Lw|[],_=>rfl|u::l,s=>(ane (l:=l)).trans Qk
theorem apE:∀{l:List Int} {s:aW},(l.foldl (λs u=>Ab.ni s u {fA s u with cQ:=4}) s).tx=s.tx|[],_=>rfl|u::l,s=>(apE (l:=l)).trans rfl
theorem aIL{w:J9}{s:aW}{t a bF amt:Int}(o:a≠12)(p:a≠13):(cU w s t a bF amt).1.tx=s.tx:=by unfold cU;rw[lC o,lC p];by_cases g:a=1;rw[lD g];rfl;rw[lC g];by_cases i:a=2;rw[lD i];rfl;rw[lC i];by_cases k:a=6\/a=10;rw[lD k];rfl;rw[lC k];by_cases l:a=7\/a=11;rw[lD l];rfl;rw[lC l];by_cases m:a=8;rw[lD m];rfl;rw[lC m];by_cases n:a=9;rw[lD n];rfl;rw[lC n];by_cases b:a=14;rw[lD b];rfl;rw[lC b];by_cases c:a=15;rw[lD c];rfl;rw[lC c];by_cases d:a=16;rw[lD d];rfl;rw[lC d];by_cases e:a=17;rw[lD e];rfl;rw[lC e];by_cases f:a=18;rw[lD f];split<;>rfl;rw[lC f];by_cases h:a=19;grind [apE];rw[lC h];by_cases j:a=20;rw[lD j];rfl;grind
theorem aDg{w:J9}{s:aW}{t a bF amt Lw:Int}(h:¬(6<=a/\a<=11))(b:a≠16)(c:a≠17):cH (cU w s t a bF amt).1 Lw=cH s Lw:=by unfold cU;rw[lC (show¬(a=6\/a=10) by omega),lC (show¬(a=7\/a=11) by omega),lC (show¬(a=8) by omega),lC (show¬(a=9) by omega),lC b,lC c];(repeat' split);all_goals first|rfl|exact ane
def yu{w:J9}{s:aW}{i Lw:Int}{a:cg}{x:bp}(c:0<=i)(b:aF (L s.ak) Lw)(e:if x.read=U then x.aq∈(cH s Lw).bk else(cH s Lw).awG=x.aq)(h:i=Lw->if x.read=U then x.aq∈a.bk else a.awG=x.aq):if x.read=U then x.aq∈(cH (I9 s i a) Lw).bk else(cH (I9 s i a) Lw).awG=x.aq:=by by_cases d:i=Lw;grind [aDe];rw[aDf c b.1 d];exact e
def aEW{w:J9}{s:aW}{e:aP}{amt Lw:Int}{x:bp}(r:jm w s e.aq e.kind e.bF=U)(t:0<=Lw/\Lw<=L w.ak)(E:∀l∈s.ak,jC l.bk)(G:0<=x.aq)(b:xo w Lw s x)(p:¬(x.aq=e.aq/\mM w Lw e=Lw)):xo w Lw (cU w s e.aq e.kind e.bF amt).1 x:=by
 obtain⟨A,f,F,u⟩:=alS r
 obtain⟨fc,fl,D,y⟩:=iY u
 unfold xo at b⊢
 by_cases n:Lw=L w.ak
 ·rw[lD n] at b⊢
  refine⟨?_,b.2⟩
  have k:mM w Lw e=bif Q (e.kind=13) then Lw else-1:=by rw[mM,bpL n];rfl
  by_cases B:e.kind=12
  ·grind [lc]
  grind [lc,aIL]
 ·rw[lC n] at b⊢
  have z:aF (L w.ak) Lw:=⟨t.1,by omega⟩
  have d:aF (L s.ak) Lw:=by simp_all
  have k:mM w Lw e=(dY w e).1:=by rw[mM,bio n];rfl
  have j:∀{c:Int},aF (L w.bC) c->0<=(gd w.bC c.toNat).eg/\sd w c=(gd w.bC c.toNat).eg:=(by grind [ii,sd,dX])
  by_cases H:e.kind=6\/e.kind=10
  ·have a:=mJ f (by omega) (by omega)
   have o:(gd s.ak e.bF.toNat).awG= -1:=by
    grind [lc]
   rw[show(cU w s e.aq e.kind e.bF amt).1=I9 s e.bF {cH s e.bF with awG:=e.aq} from by
    grind [cU]]
   refine yu (w:=w) a.1 d b λi=>?_
   grind [cH]
  by_cases K:e.kind=7\/e.kind=11
  ·have a:=mJ f (by omega) (by omega)
   have o:(gd s.ak e.bF.toNat).awG=e.aq:=by
    grind [lc]
   rw[show(cU w s e.aq e.kind e.bF amt).1=I9 s e.bF {cH s e.bF with awG:= -1} from by
    grind [cU]]
   refine yu (w:=w) a.1 d b λi=>?_
   grind [dY,cH]
  by_cases M:e.kind=8
  ·have a:=mJ f (by omega) (by omega)
   rw[show(cU w s e.aq e.kind e.bF amt).1=I9 s e.bF {cH s e.bF with bk:=mP (cH s e.bF).bk [e.aq]} from by
    grind [cU]]
   refine yu (w:=w) a.1 d b λi=>?_
   grind [cH,Ro,ii,aFa]
  by_cases v:e.kind=9
  ·have a:=mJ f (by omega) (by omega)
   rw[show(cU w s e.aq e.kind e.bF amt).1=I9 s e.bF {cH s e.bF with bk:=fJ (cH s e.bF).bk e.aq} from by
    grind [cU]]
   refine yu (w:=w) a.1 d b λi=>?_
   have m:(dY w e).1=e.bF:=by simp[dY,v]
   subst i
   split
   ·rename_i g;rw[lD g] at b
    simp only
    refine jW.2 ⟨b,bpL λh=>p ⟨h,by rw[k,m]⟩⟩
   simp_all
  by_cases q:e.kind=16
  ·have a:=oT f (by omega) (by omega)
   have o:(gd s.ak (gd w.bC e.bF.toNat).eg.toNat).awG=e.aq:=by
    grind [lc]
   rw[show(cU w s e.aq e.kind e.bF amt).1=ni (I9 s (gd w.bC e.bF.toNat).eg {cH s (gd w.bC e.bF.toNat).eg with awG:= -1}) e.aq {fA s e.aq with cQ:=3,cond:=e.bF} from by
    grind [cU]]
   rw[Qk]
   refine yu (w:=w) (j a).1 d b λi=>?_
   have m:(dY w e).1=(gd w.bC e.bF.toNat).eg:=by simp[dY,q,(j a).2]
   subst i
   split
   ·rename_i g;rw[lD g] at b;exact b
   ·rename_i g;rw[lC g] at b;rw[cH] at b
    exact aPo ⟨by omega,by rw[k,m]⟩ p
  by_cases C:e.kind=17
  ·have a:=oT f (by omega) (by omega)
   have o:(gd s.ak (gd w.bC e.bF.toNat).eg.toNat).awG= -1:=by
    grind [lc]
   rw[show(cU w s e.aq e.kind e.bF amt).1=ni (I9 s (gd w.bC e.bF.toNat).eg {cH s (gd w.bC e.bF.toNat).eg with awG:=e.aq}) e.aq {fA s e.aq with cQ:=2,cond:=0} from by
    grind [cU]]
   rw[Qk]
   refine yu (w:=w) (j a).1 d b λi=>?_
   grind [cH]
  grind [aDg]
def asn{w:J9}{s:aW}{e:aP}{Lw:Int}{p:bp}(h:jm w s e.aq e.kind e.bF=U)(v:0<=Lw/\Lw<=L w.ak)(x:0<=p.aq)(c:xo w Lw s p)(k:lK w Lw e=Lw)(o:¬(p.read=U/\(dD w e).2=U))(g:Lw≠L w.ak->p.read=U->(gd w.ak Lw.toNat).rw=U)(d:∀j,j<L w.bC->uh w j=I):False:=by obtain⟨n,f,z,l⟩:=alS h;obtain⟨fc,fl,r,m⟩:=iY l;unfold xo at c;by_cases b:Lw=L w.ak;grind [lK,lc];rw[lC b] at c;rw[lK,bio b,a5C] at k;have A:=g b;by_cases B:e.kind=6\/e.kind=10;grind [lc,dD,named,cH];by_cases C:e.kind=8;grind [lc,dD,cH];by_cases q:e.kind=17;have a:=oT f (by omega) (by omega);have u:(gd s.ak (gd w.bC e.bF.toNat).eg.toNat).awG= -1:=(by grind [lc]);have i:(gd w.bC e.bF.toNat).eg=Lw:=(by grind [dD,sd]);subst i;split at c;rename_i y;have t:=d e.bF.toNat (by have:=a.1;have:=a.2;omega);grind [uh];grind [cH];grind [dD]
theorem QP{E:aP->Bool}{l:List aP}{x:bp}{m:Nat}:∀{n:Nat},m<=n->fT E l x n<0->fT E l x m<0
 |0,h,b=>by simp_all
 |n+1,h,b=>by
  rcases jj n m with a|a
  ·grind
  ·refine QP a ?_
   grind [fT]
def axy{w:J9}(h:mQ w=U):∀j,j<L w.bC->uh w j=I:=by grind [mQ]
theorem amB{w:am}(h:vL w){Lw:Int}(d:0<=Lw/\Lw<=L w.aQ.ak){y:bp}(b:y∈nu w.aQ w.init.bW Lw):∀{k:Nat},k<=L w.ac->fT (gZ w.aQ Lw) w.ac y k<0->xo w.aQ Lw (cY w k).bW y
 |0,_,_=>by
  obtain⟨u,j,c,f,g,a⟩:=uu b
  rw[<-c] at a
  exact a
 |k+1,m,i=>by
  obtain⟨u,j,c,f,g,a⟩:=uu b
  have e:=QP (show k<=k+1 by omega) i
  have n:boU (gZ w.aQ Lw) w.ac y k=I:=by
   grind [fT]
  rw[aoF h<|by omega]
  refine aEW (Kk h<|by omega).1 d (by grind [kQ.rd,vL.sy]) (by omega) (amB h d b (by omega) e) λl=>?_
  grind [boU,gZ]
def Bx{w:am}(h:bcV w=U):(∀j,j<L w.init.bW.ak->uD w j)/\yS w=I/\mQ w.aQ=U/\lh w.aQ w.init.bW=U/\L w.init.count=L w.aQ.ay:=by have a:=(aQA h).1;simp only[oh,cP,fK,apT] at a;grind [ny,fN]
def amr{l:List bp}{f:bp->bp}{i:Nat}(h:i<L l):gd (l.map f) i=f (gd l i):=by grind [bT]
def amq{A B:List bp}{i:Nat}(h:i<L (A++B)):(i<L A/\gd (A++B) i∈A)\/(L A<=i/\gd (A++B) i∈B):=by grind [bT]
theorem anV{w:am}(R:hU w)(G:bcV w=U){Lw:Int}(M:0<=Lw/\Lw<=L w.aQ.ak):∀i j,i<j->j<L (jE w.aQ w.init.bW w.ac Lw)->(gd (jE w.aQ w.init.bW w.ac Lw) i).aq≠(gd (jE w.aQ w.init.bW w.ac Lw) j).aq->¬((gd (jE w.aQ w.init.bW w.ac Lw) i).read=U/\(gd (jE w.aQ w.init.bW w.ac Lw) j).read=U)->Sd (L w.ac) (gd (jE w.aQ w.init.bW w.ac Lw) i) (gd (jE w.aQ w.init.bW w.ac Lw) j):=by have O:=vd R G;obtain⟨C,ag,H,B,ab⟩:=Bx G;obtain⟨fc,fl,fd,X⟩:=iY B;rw[Q5];intro i j ad r;simp only[bJ] at r;rw[amr (show i<_ by omega),amr r];have ci:=amq (show i<L (nu w.aQ w.init.bW Lw++oF w.aQ Lw w.ac (L w.ac)) by omega);have c:=amq r;generalize gd (nu w.aQ w.init.bW Lw++oF w.aQ Lw w.ac (L w.ac)) i=p at ci⊢;generalize gd (nu w.aQ w.init.bW Lw++oF w.aQ Lw w.ac (L w.ac)) j=q at c⊢;simp only[gk];intro d n;have g:∀y:bp,0<=fT (gZ w.aQ Lw) w.ac y (L w.ac)->aF (L w.ac) (fT (gZ w.aQ Lw) w.ac y<|L w.ac)/\(gd w.ac (fT (gZ w.aQ Lw) w.ac y<|L w.ac).toNat).aq=y.aq:=(by intro y f;rcases an9 (E:=gZ w.aQ Lw) (l:=w.ac) (x:=y) (k:=L w.ac) with h|⟨a,z,hs,he⟩;omega;grind [boU,dJ]);refine⟨λh=>(g p h).1,λs=>?_,λs=>?_⟩;rcases c with⟨_,c⟩|⟨_,c⟩;grind [uu];obtain⟨m,S,A,rfl⟩:=zL c;simp only at d n⊢;have cp:p∈nu w.aQ w.init.bW Lw:=(by rcases ci with⟨_,ci⟩|⟨_,ci⟩;exact ci;obtain⟨m',ae,_,rfl⟩:=zL ci;simp only at s;omega);have af:0<=fT (gZ w.aQ Lw) w.ac p (L w.ac):=(by rcases Int.lt_or_le (fT (gZ w.aQ Lw) w.ac p<|L w.ac) 0 with f|f;exfalso;obtain⟨u,F,t,o,v,K⟩:=uu cp;refine asn (Kk O S).1 M (by omega) (by grind [amB,QP]) A n (λN D=>?_)<|axy H;rw[lC N,lD D] at K;have h5:=(C Lw.toNat<|by omega).1;grind [AM];exact f);grind [dJ];simp only at s;obtain⟨a,z,Z,rfl⟩:∃a:Nat,a<L w.ac/\lK w.aQ Lw (gd w.ac a)=Lw/\p=⟨(gd w.ac a).aq,a,-1,(dD w.aQ<|gd w.ac a).2⟩:=(by rcases ci with⟨_,ci⟩|⟨_,ci⟩;obtain⟨u,F,t,o,v,_⟩:=uu ci;omega;exact zL ci);obtain⟨b,P,aa,rfl⟩:∃a:Nat,a<L w.ac/\lK w.aQ Lw (gd w.ac a)=Lw/\q=⟨(gd w.ac a).aq,a,-1,(dD w.aQ<|gd w.ac a).2⟩:=(by rcases ci with⟨T,ci⟩|⟨T,ci⟩;obtain⟨u,F,t,o,v,_⟩:=uu ci;simp only at o;omega;rcases c with⟨W,c⟩|⟨W,c⟩;omega;exact zL c);simp only at d⊢;refine⟨dJ z,dJ P,λe=>d ?_,λf=>⟨(g _ f).1,λe=>d ?_⟩,λf=>⟨(g _ f).1,λe=>d ?_⟩⟩;grind;grind;grind
def sJ(w:J9)(lock:Int)(e:aP):Bool:=bif Q (e.kind=6)||(Q (e.kind=8)||Q (e.kind=10)) then Q (e.bF=lock) else bif Q (e.kind=17) then Q ((gd w.bC e.bF.toNat).eg=lock) else I
def sQ(w:J9)(lock:Int)(e:aP):Bool:=bif Q (e.kind=7)||(Q (e.kind=9)||Q (e.kind=11)) then Q (e.bF=lock) else bif Q (e.kind=16) then Q ((gd w.bC e.bF.toNat).eg=lock) else I
def tG(x:bp):bp:={x with dY:=0}
def aoc{E:aP->Bool}{l:List aP}{x:bp}:∀{n:Nat},fT E l (tG x) n=fT E l x n
 |0=>rfl
 |n+1=>by simp only[fT,aoc (n:=n)];rfl
theorem aMY{E:aP->Bool}{l:List aP}{n:Nat}{x:bp}:gk E l n (tG x)=gk E l n x:=by simp only[gk,aoc];rfl
theorem aoa{E a:aP->Bool}{l:List aP}{x:bp}:∀{n:Nat},(∀i,i<n->E (gd l i)=a (gd l i))->fT E l x n=fT a l x n
 |0,_=>rfl
 |n+1,h=>by
  have c:=aoa (x:=x) (n:=n) λi b=>h i (by omega)
  grind [fT,boU]
def mq(B:aP->Bool)(l:List aP)(k:Nat):List bp:=(aH k).flatMap λi=>if B (gd l i)=U then[⟨(gd l i).aq,i,0,Q<|(gd l i).kind=8⟩] else[]
def aso{w:J9}{e:aP}:(dD w e).2=Q (e.kind=8):=by grind [dD]
def awn{w:J9}{Lw:Int}{l:List aP}{B:aP->Bool}{k:Nat}(h:∀i,i<k->B (gd l i)=Q (lK w Lw (gd l i)=Lw)):mq B l k=(oF w Lw l k).map tG:=by unfold mq oF;rw[RT];have:∀(m:Nat),m<=k->(aH m).flatMap (λi=>if B (gd l i)=U then[(⟨(gd l i).aq,i,0,Q<|(gd l i).kind=8⟩:bp)] else[])=(aH m).flatMap λi=>(oY w Lw (gd l i) i).map tG:=(by intro m;induction m with|zero=>intro _;rfl|succ m b=>intro c;rw[aNG,aNG,b (by omega)];congr 1;rw[h m (by omega),oY];by_cases a:lK w Lw (gd l m)=Lw;rw[lD<|bpL a,lD a,aso];rfl;simp_all);simp_all
def aor{w:J9}{s:aW}{l:List aP}{Lw:Int}{H:List bp}{B E:aP->Bool}(b:H=(nu w s Lw).map tG)(a:∀i,i<L l->B (gd l i)=Q (lK w Lw (gd l i)=Lw))(c:∀i,i<L l->E (gd l i)=Q (mM w Lw (gd l i)=Lw)):(H++mq B l (L l)).map (gk E l<|L l)=jE w s l Lw:=by rw[Q5,b,awn a,<-dg,vA];refine ja λx _=>?_;grind [aMY,gk,aoa,gZ]
def qH(s:aW)(lock:Int)(u j:Nat):List bp:=(((gd s.ak lock.toNat).bk.take j).filter λx:Int=>Q<|x=(u:Int)).map λ_=>⟨u,-1,0,U⟩
def qG(s:aW)(lock:Int)(u:Nat):List bp:=if(gd s.ak lock.toNat).awG=u then[⟨u,-1,0,I⟩] else qH s lock u (L (gd s.ak lock.toNat).bk)
def qF(s:aW)(lock:Int)(k:Nat):List bp:=(aH k).flatMap<|qG s lock
def aBN{w:J9}{s:aW}{lock:Int}(c:lock≠L w.ak)(h:(gd s.ak lock.toNat).awG≠-1->(gd s.ak lock.toNat).bk=[]):qF s lock (L s.ay)=(nu w s lock).map tG:=by unfold qF nu;rw[RT];have b:qG s lock=λu=>(bqI w s lock u).map tG:=(by funext u;rw[qG,bqI,lC c,pJ];by_cases a:(gd s.ak lock.toNat).awG=u;rw[lD a,lD a,pK,h<|by omega];rfl;rw[lC a,lC a,pK,qH,dW,vA];rfl);rw[b]
def sZ(s:aW):List bp:=if 0<=s.tx then[⟨s.tx,-1,0,I⟩] else[]
def aBP{w:J9}{s:aW}(h:s.tx≠-1->aF (L s.ay) s.tx):sZ s=(nu w s<|L w.ak).map tG:=by unfold sZ nu;rw[RT];have c:∀n:Nat,(aH n).flatMap (λu=>(bqI w s (L w.ak) u).map tG)=if 0<=s.tx/\s.tx<n then[⟨s.tx,-1,0,I⟩] else[]:=(by intro n;induction n with|zero=>simp|succ n e=>rw[aNG,e,bqI,lD rfl];by_cases a:s.tx=n;rw[lC (by omega),lD a,lD (by omega),a];rfl;rw[lC a];by_cases d:0<=s.tx/\s.tx<n;grind;rw[lC d,lC<|by omega];rfl);rw[c];by_cases b:s.tx= -1;simp_all;have:=h b;rw[lD this.1,lD ⟨this.1,this.2⟩]
def awl{w:J9}{Lw:Int}{e:aP}(a:aF (L w.ak) Lw)(d:named w e.kind e.bF=U):sJ w Lw e=Q (lK w Lw e=Lw):=by have c:Q (Lw=(L w.ak:Int))=I:=bio (by have:=a.2;omega);have b:¬(-1:Int)=Lw:=(by have:=a.1;omega);grind [lK,sJ,dD,oT,sd,dX]
def axI{w:J9}{Lw:Int}{e:aP}(a:aF (L w.ak) Lw)(d:named w e.kind e.bF=U):sQ w Lw e=Q (mM w Lw e=Lw):=by have c:Q (Lw=(L w.ak:Int))=I:=bio (by have:=a.2;omega);have b:¬(-1:Int)=Lw:=(by have:=a.1;omega);grind [mM,sQ,dY,oT,sd,dX]
def awm{w:J9}{e:aP}:Q (e.kind=12)=Q (lK w (L w.ak) e=L w.ak):=by grind [lK]
def axJ{w:J9}{e:aP}:Q (e.kind=13)=Q (mM w (L w.ak) e=L w.ak):=by grind [mM]
section
variable{Y:ae}
theorem aDT(f:L Y=4096)(e:aP):∃r b,(r=bv (Q<|e.kind=12)/\Fx Y b [])/\cZ aS GG 164 [.a e.c] Y r b:=by refine aKw f rfl λj k h g i d=>?_;simp only[HQ,u0,u1,d,rk,aj,aNN,aoz,↓uL];grind [Kp.fx]
theorem aDU(f:L Y=4096)(e:aP):∃r b,(r=bv (Q<|e.kind=13)/\Fx Y b [])/\cZ aS GG 165 [.a e.c] Y r b:=by refine aKx f rfl λj k h g i d=>?_;simp only[HR,u0,u1,d,rk,aj,aNN,aoz,↓uL];grind [Kp.fx]
theorem aDE{b:Id}{w:am}{ns:List aH8}{out:List (List Int)}{n B a:AV}{q s k h:Id}{f:Nat->AV}{t1 A:TypeId}{o1 v:Bool}(C:bD Y b w ns out n B a q s f){lock:Int}(u:box Y k=V ⟨t1,1,o1,U,[[iv lock]]⟩)(t:box Y h=V ⟨A,1,v,U,[[.p b 0 0]]⟩)(e:aP)(E:e.kind=17->aF (L w.aQ.bC) e.bF):∃r g,(r=bv (sJ w.aQ lock e)/\Fx Y g [])/\cZ aS GG 161 [.a e.c, .p k 0 0, .p h 0 0] Y r g:=by refine aKj C.le rfl λz G m D F o=>?_;have d:Fx Y z []:=m.fx [];have l:=C.fx d;have bx:=l.bx;have j:=d.kq u;have i:=d.kq t;have y:∀{x:AV},aN J [x]=V x:=λ{x}=>rfl;simp+contextual only[Hq,a7i,qz 23,qz 21,aI,au,u0,u1,o,j,i,aPF bx,bx,rkC,y,rk,ix,J3,aj,aNN,aoz,sr,eE,aO5,aQ6,aNU,↓uL];grind [sJ]
theorem aDF{b:Id}{w:am}{ns:List aH8}{out:List (List Int)}{n B a:AV}{q s k h:Id}{f:Nat->AV}{t1 A:TypeId}{o1 v:Bool}(C:bD Y b w ns out n B a q s f){lock:Int}(u:box Y k=V ⟨t1,1,o1,U,[[iv lock]]⟩)(t:box Y h=V ⟨A,1,v,U,[[.p b 0 0]]⟩)(e:aP)(E:e.kind=16->aF (L w.aQ.bC) e.bF):∃r g,(r=bv (sQ w.aQ lock e)/\Fx Y g [])/\cZ aS GG 162 [.a e.c, .p k 0 0, .p h 0 0] Y r g:=by refine aKk C.le rfl λz G m D F o=>?_;have d:Fx Y z []:=m.fx [];have l:=C.fx d;have bx:=l.bx;have j:=d.kq u;have i:=d.kq t;have y:∀{x:AV},aN J [x]=V x:=λ{x}=>rfl;simp+contextual only[Hr,a7i,qz 23,qz 21,aI,au,u0,u1,o,j,i,aPF bx,bx,rkC,y,rk,ix,J3,aj,aNN,aoz,sr,eE,aO5,aQ6,aNU,↓uL];grind [sQ]
theorem aE0{l:List aP}{t:Int}{n a i:Nat}(c:a<L (fj l t n))(h:i<gd (fj l t n) a)(b:(gd l i).aq=t):∃m,m<a/\gd (fj l t n) m=i:=by have hs:(fj l t n).Pairwise (·<·):=Cr.sublist List.filter_sublist List.pairwise_lt_range;have j:gd (fj l t n) a<n:=fq.1 (jW.1<|ve c).1;have d:i∈fj l t n:=jW.2 ⟨fq.2 (by omega),by simpa using b⟩;obtain⟨m,f,g⟩:=RU.1 d;have e:gd (fj l t n) m=i:=(by grind [bT]);grind [List.pairwise_iff_getElem,bT]
theorem aEZ{l:List aP}{t:Int}{n i:Nat}(c:i<n)(b:(gd l i).aq=t):∃m,m<L (fj l t n)/\gd (fj l t n) m=i:=by have d:i∈fj l t n:=jW.2 ⟨fq.2 c,by simpa using b⟩;obtain⟨m,a,e⟩:=RU.1 d;exact⟨m,a,by grind [bT]⟩
def ko(k:Nat):Prop:=k=20\/k=39\/k=40\/k=55
theorem bD.fxs{b:Id}{w:am}{ns:List aH8}{out:List (List Int)}{n h a:AV}{e g:Id}{f:Nat->AV}{Y':ae}{ks:List Id}(C:bD Y b w ns out n h a e g f)(F:Fx Y Y' ks)(u:∀k∈ks,ko k.1):bD Y' b w ns out n h a e g f:=by obtain⟨t,s⟩:=C.mp;have c:∀q:Id,¬ko q.1->q∉ks:=(by grind);have j:b∉ks:=c b (by rw[C.sb];simp[ko]);have l:e∉ks:=c e (by rw[C.sm];simp[ko]);have m:g∉ks:=c g (by rw[C.so];simp[ko]);have o:∀q∈aA h,q∉ks:=λq d=>c q (by rw[C.sw q d];simp[ko]);have p:∀q∈aA a,q∉ks:=λq d=>c q (by rw[C.sa q d];simp[ko]);exact⟨F.keep _ _ j C.bx,C.nm,⟨t,F.keep _ _ l s⟩,C.gw.fx F o,C.ow.keep F m<|λi r q d=>c q<|by rw[C.ow.pl i r q d];simp[ko],C.gr.fx F p,F.len.trans C.le,C.sb,C.sm,C.so,C.sw,C.sa⟩
theorem awo{B:aP->Bool}{l:List aP}:∀k,L (mq B l k)<=k:=by intro k;induction k with|zero=>simp[mq]|succ k a=>have:mq B l (k+1)=mq B l k++if B (gd l k)=U then[⟨(gd l k).aq,k,0,Q<|(gd l k).kind=8⟩] else[]:=aNG;grind
theorem awp{B:aP->Bool}{l:List aP}{k:Nat}{x:bp}(h:x∈mq B l k):∃i,i<k/\x.aq=(gd l i).aq:=by obtain⟨i,a,b⟩:=iI.1 h;grind
def CZ{Y:ae}{x:bp}:aX bte 1 Y [(0, .a<|bp.c x)]=V (.l ([x].map bp.c) U U,Y):=ua rfl rfl rfl (by decide) rfl (by decide)
theorem ann{b:Id}{w:am}{ns:List aH8}{out:List (List Int)}{n wk a a1 fb fe:AV}{bm bo:Id}{f:Nat->AV}{hs:List bp}{B E:aP->Bool}(C:bD Y b w ns out n wk a bm bo f)(hw:L w.ac<=16)(cc:L hs<=80)(cm:∀i,i<L w.ac->aF (L w.aQ.ay) (gd w.ac i).aq)(cd:∀x∈hs,aF (L w.aQ.ay) x.aq)(G:bc Y 220 4 a1<|hs.map bp.c)(hp:∀k∈aA a1,ko k.1)(hB:∀Y',Fx Y Y' (aA a1)->∀i,i<L w.ac->∀d K,K (bv<|B<|gd w.ac i) Y'->cF fb [.a (gd w.ac i).c] Y' d K)(hE:∀Y',Fx Y Y' (aA a1)->∀i,i<L w.ac->∀d K,K (bv<|E<|gd w.ac i) Y'->cF fe [.a (gd w.ac i).c] Y' d K):∃r X,(bc X 220 4 r (((hs++mq B w.ac (L w.ac)).map<|gk E w.ac<|L w.ac).map bp.c)/\Fx Y X (aA a1)/\(∀k∈aA r,ko k.1)/\∀k∈aA r,k∈aA a1\/bK Y k)/\cZ aS GG 163 [.p b 0 0,a1,fb,fe] Y r X:=by refine aKs C.le ?_;have bx:=C.bx;have a9:∀{x y:Int} {r:Bool},bM brT bmK [(0,iv x),(1,iv y),(3,bv r)]=V (.a<|bp.c ⟨x,y,0,r⟩):=rfl;simp only[HI,u0,u1,aPF bx,bx,rkC,aj,cT,↓uL];refine jD (α:=AV) (λa i=>[a,iv i]) 1 (L w.ac) (λk r Y'=>bc Y' 220 4 r ((hs++mq B w.ac k).map bp.c)/\Fx Y Y' (aA a1)/\(∀k∈aA r,ko k.1)/\∀k∈aA r,k∈aA a1\/bK Y k) (s0:=a1) (by grind [mq,Fx.refl]) ?_;rintro k r X D ⟨g1,F1,P1,N1⟩;have bi:L X=4096:=F1.len.trans C.le;have C1:=C.fxs F1 hp;have lk:=awo (B:=B) (l:=w.ac) k;simp only[qz 25,au,ck,aI,u0,u1,ix,rk,bh,↓uL];refine⟨λh=>?_,λh=>?_⟩;have ak:=aL h;refine bsK (λe=>∀Z Y2,bc Y2 220 4 Z ((hs++mq B w.ac (k+1)).map bp.c)->Fx Y Y2 (aA a1)->(∀k∈aA Z,ko k.1)->(∀k∈aA Z,k∈aA a1\/bK Y k)->e [Z] Y2) ?_ λe aC=>?_;intro Z Y2 q1 q2 q3 q4;simp only[qz 45,au,ck,aI,u0,u1,↓uL];exact dR (mk:=λa i=>[a,iv i]) (s:=r) (s':=Z) (λ_ _=>rfl) ak (by omega) ⟨q1,q2,q3,q4⟩;simp only[qz 47,qy 2,au,ck,u0,u1,ix,rk,bh,↓uL];refine⟨dJ ak,?_⟩;refine I4 bi λv3 Y3 F3 N3 b3=>?_;refine cy (cs:=aP.c<|gd w.ac k) b3 rfl rfl (by decide) λY4 F4 b4=>?_;have ax:box Y4 (11,v3)=V ⟨62,7,U,U,[aP.c<|gd w.ac k]⟩:=b4;have aw:Fx X Y4 []:=(F3.trans F4).mono (by grind [bK.no]);have g4:=g1.fx aw (by simp);have F:=(F1.trans aw).mono (ks':=aA a1) (by simp_all);have ch:L Y4=4096:=F.len.trans C.le;have r7:aN (V 7) (gd w.ac k).c=V (.a (gd w.ac k).c):=rfl;have b2:mq B w.ac (k+1)=mq B w.ac k++if B (gd w.ac k)=U then[⟨(gd w.ac k).aq,k,0,Q<|(gd w.ac k).kind=8⟩] else[]:=aNG;simp only[qz 4,qy 8,qy 10,u0,u1,ax,r7,↓uL];refine hB Y4 F k ak _ _ ?_;simp+contextual only[au,ck,u0,u1,ax,rk,aj,a9,CZ,↓uL];refine⟨λhb=>?_,λhb=>aC r Y4 (by simp_all) F P1 N1⟩;refine gD g4 rfl (by decide) (by omega) nC nC (by simp only[bJ,bZ,aO1,a6G];omega) λr5 Y5 g5 F5 hi hd=>?_;refine aC r5 Y5 ?_ ((F.trans F5).mono λk D=>?_) (λk D=>?_) (λk D=>?_);simp_all;grind [bK.no];rcases hd k D with D|D;exact P1 k D;exact .inr<|.inl D;grind [bK.old];have bd:k=L w.ac:=(by grind);subst bd;generalize hL:hs++mq B w.ac (L w.ac)=Lw at g1;have ca:L Lw<=96:=(by rw[<-hL,a6G];omega);have a8:∀x∈Lw,aF (L w.aQ.ay) x.aq:=(by grind [awp]);simp only[lnI g1,bJ,u0,↓uL];refine yV (L Lw) (λj _ Y'=>bc Y' 220 4 r (((Lw.take j).map (gk E w.ac<|L w.ac)++Lw.drop j).map bp.c)/\Fx Y Y' (aA a1)) (by simp_all) ?_;rintro j _ Y5 hj ⟨g5,F5⟩;have C5:=C.fxs F5 hp;have b5:=C5.bx;simp only[qz 73,au,aI,u0,u1,↓uL];refine⟨λh5=>?_,λh5=>?_⟩;have A:=aL h5;have aU:L ((Lw.take j).map (gk E w.ac<|L w.ac)++Lw.drop j)=L Lw:=(by simp;omega);obtain⟨g,rfl,R⟩:∃g,r= .m g (L Lw)/\box Y5 g=V ⟨220,4,U,I,((Lw.take j).map (gk E w.ac<|L w.ac)++Lw.drop j).map bp.c⟩:=(by rcases g5 with⟨h',_⟩|⟨g,h',b9⟩;grind [List.map_eq_nil_iff];simp_all);have cb:g∈aA (.m g<|L Lw):=(by simp[aA]);have hx:((Lw.take j).map (gk E w.ac<|L w.ac)++Lw.drop j)[j]?=V (gd Lw j):=(by rw[xf<|by simp;omega];simp only[bJ,gC,rD<|aYB A,tM,List.getElem?_drop,Nat.add_zero];grind [bT]);have an:∀y,((Lw.take j).map (gk E w.ac<|L w.ac)++Lw.drop j).set j y=(Lw.take j).map (gk E w.ac<|L w.ac)++y::Lw.drop (j+1):=λy=>(by rw[CD _ _<|by simp;omega];simp only[bJ,gC,rD<|aYB A,tM];rw[List.drop_eq_getElem_cons A,RY]);have S:(Lw.take<|j+1).map (gk E w.ac<|L w.ac)++Lw.drop (j+1)=(Lw.take j).map (gk E w.ac<|L w.ac)++gk E w.ac (L w.ac) (gd Lw j)::Lw.drop (j+1):=(by grind [iJ,bT]);have H:=a8 _<|ve A;generalize co:gd Lw j=x at hx S H;generalize hM:(Lw.take j).map (gk E w.ac<|L w.ac)=M at R aU hx an S;have aD:L M=j:=(by grind);have T:∀{Y':ae} {bA:List (List AV)},box Y' g=V ⟨220,4,U,I,bA⟩->cz 4 Y' (.m g<|L Lw) (iv j)=V (.p g j 0):=λh=>(by simp[cz,h];omega);have u:∀{Y':ae} {bA:List (List AV)} {q p:Nat},box Y' g=V ⟨220,4,U,I,bA⟩->iQ p Y' (.p g j q)=V (.p g j<|q+p):=(by grind [iQ]);have aG:∀{Y':ae} {q:Nat} {y:bp},box Y' g=V ⟨220,4,U,I,(M++y::Lw.drop (j+1)).map bp.c⟩->vl J Y' (.p g j q)=aN J ((bp.c y).drop q):=λ{Y' q y} h=>(by simp_all [vl,iE]);have aV:∀{x:bp},aN J (bp.c x)=V (iv x.aq):=rfl;have aW:∀{x:bp},aN J ((bp.c x).drop 1)=V (iv x.dD):=rfl;refine bsK (λe=>∀(y:bp) t,y=gk E w.ac (L w.ac) x->box t g=V ⟨220,4,U,I,(M++y::Lw.drop (j+1)).map bp.c⟩->Fx Y t (aA a1)->e [] t) ?_ λe ag=>?_;intro y t hy h7 v;simp only[qz 93,au,aI,u0,u1,↓uL];refine yU A ⟨.inr ⟨g,?_,?_⟩,v⟩;grind;simp_all;simp only[qz 95,au,ck,u0,T R,u R,aj,↓uL];refine wL R (by rw[bj9,hx];rfl) (by simp[bp.c]) λY6 F6 b6=>?_;rw[show(bp.c x).set 2 (iv<|-1)=bp.c {x with dY:= -1} from rfl,<-vB,an] at b6;have mn:∀{Ya Yb:ae},Fx Y Ya (aA a1)->Fx Ya Yb [g]->Fx Y Yb (aA a1):=λq1 q2=>(q1.trans q2).mono (by grind [bK.no]);have G6:=mn F5 F6;have C6:=C.fxs G6 hp;have az:=C6.bx;have aE:x.aq.toNat<L w.aQ.ay:=(by have:=H.1;have:=H.2;omega);have cn:((x.aq.toNat:Nat):Int)=x.aq:=kA H.1;have ao:∀{Y':ae},Fx Y Y' (aA a1)->bc Y' 3 1 (f x.aq.toNat) ((aRQ w.ac x.aq<|L w.ac).map ci):=λq=>(by have:=(C.fxs q hp).ow.gr _ aE;grind [btL]);have bj:fS Y6 (f x.aq.toNat)=V (iv<|L<|aRQ w.ac x.aq<|L w.ac):=(by rw[lnI<|ao G6,bJ]);have cl:L (aRQ w.ac x.aq<|L w.ac)<=L w.ac:=(by rw[wE];exact wF);simp only[qz 12,au,u0,u1,aPF az,az,rkC,aj,T b6,u b6,aG b6,J3,aV,C6.ow.ix H,C6.ow.ld aE,bj,↓uL];refine yV (L<|aRQ w.ac x.aq<|L w.ac) (λo _ Y'=>box Y' g=V ⟨220,4,U,I,(M++{x with dY:= -1}::Lw.drop (j+1)).map bp.c⟩/\Fx Y Y' (aA a1)/\∀m,m<o->boU E w.ac x (gd (fj w.ac x.aq<|L w.ac) m)=I) (by simp_all) ?_;rintro o _ t cf ⟨z,v,cj⟩;have C7:=C.fxs v hp;have aB:=C7.bx;simp only[qz 115,qy 16,au,aI,u0,u1,↓uL];refine⟨λh7=>?_,λh7=>?_⟩;have ah:=aL h7;have O:o<L (fj w.ac x.aq<|L w.ac):=(by grind [wE]);have bf:gd (fj w.ac x.aq<|L w.ac) o<L w.ac/\(gd w.ac<|gd (fj w.ac x.aq<|L w.ac) o).aq=x.aq:=(by have:=jW.1<|ve O;exact⟨fq.1 this.1,asq this.2⟩);obtain⟨W,bg⟩:=bf;have be:gd (aRQ w.ac x.aq<|L w.ac) o=((gd (fj w.ac x.aq<|L w.ac) o:Nat):Int):=(by rw[bT ah,bT O];simp[aRQ]);rw[Dw (ao v)<|dJ ah,bh,be];generalize cg:gd (fj w.ac x.aq<|L w.ac) o=N at W bg;have bn:boU E w.ac x N=I->(yI (λ_ i=>[iv i]) (L<|aRQ w.ac x.aq<|L w.ac) λo (_:Unit) Y'=>box Y' g=V ⟨220,4,U,I,(M++{x with dY:= -1}::Lw.drop (j+1)).map bp.c⟩/\Fx Y Y' (aA a1)/\∀m,m<o->boU E w.ac x (gd (fj w.ac x.aq<|L w.ac) m)=I) [iv<|dq.wrap<|(o:Int)+1] t/\gM 0 (L<|aRQ w.ac x.aq<|L w.ac) [iv<|dq.wrap<|(o:Int)+1] t<gM 0 (L<|aRQ w.ac x.aq<|L w.ac) [iv o] t:=(by intro hs;refine yU ah ⟨z,v,λm hm=>?_⟩;grind);simp only[u0,u1,T z,u z,aG z,aj,aW,↓uL];rcases sq (Q<|x.dD<(N:Int)) with ad|ad;simp only[ad,u0,u1,jA,Lg,aPF aB,aB,rkC,aj,ix,rk,bh,↓uL];refine⟨λ_=>dJ W,hE t v N W _ _ ?_⟩;rcases sq (E<|gd w.ac N) with he|he;rw[he];simp only[show mL (bv U) (bv U) (bv I)=V (bv U) from rfl,u0,T z,u z,aj,↓uL];refine⟨λ_=>?_,λh=>nomatch h⟩;have aX:((M++{x with dY:= -1}::Lw.drop (j+1)).map bp.c)[j]?=V (bp.c {x with dY:= -1}):=(by rw[bj9,xf (by omega),aD,tM];rfl);refine wL z aX (by simp[bp.c]) λY8 F8 b8=>?_;rw[show(bp.c {x with dY:= -1}).set 2 (iv N)=bp.c {x with dY:=N} from rfl,<-vB,CD _ _ (by omega),aD,tM,RY] at b8;refine ag {x with dY:=N} Y8 ?_ b8 (mn v F8);rw[gk,aob (i:=N) (λi hi=>?_) (by grind [boU]) W];by_cases P:(gd w.ac i).aq=x.aq;obtain⟨m,hm,he⟩:=aE0 O (by omega) P;grind;grind [boU];rw[he];simp only[show mL (bv U) (bv I) (bv I)=V (bv I) from rfl,u0,↓uL];exact⟨λh=>(nomatch h),by grind [boU]⟩;simp only[ad,u0,u1,jN,gF,a5C,show∀x,mL (bv I) x (bv I)=V (bv I) fromλ_=>rfl,↓uL];exact⟨λh=>(nomatch h),by grind [boU]⟩;have ce:o=L (aRQ w.ac x.aq<|L w.ac):=(by grind);refine ag _ t ?_ z v;rw[gk,El];intro i hi;by_cases P:(gd w.ac i).aq=x.aq;obtain⟨m,hm,he⟩:=aEZ hi P;grind [wE];grind [boU];have ba:j=L Lw:=(by grind);rw[ba,List.take_length,Gz,cL] at g5;exact⟨g5,F5,P1,N1⟩
theorem amz{s:aW}{lock:Int}{u j:Nat}(h:j<L (gd s.ak lock.toNat).bk):qH s lock u (j+1)=qH s lock u j++if gd (gd s.ak lock.toNat).bk j=(u:Int) then[⟨u,-1,0,U⟩] else[]:=by grind [qH,pH]
theorem amy{s:aW}{lock:Int}{u j:Nat}:L (qH s lock u j)<=L (gd s.ak lock.toNat).bk:=by grind [qH]
theorem aBM{s:aW}{lock:Int}{u:Nat}:L (qG s lock u)<=L (gd s.ak lock.toNat).bk+1:=by grind [qG,amy]
theorem aBO{s:aW}{lock:Int}{k:Nat}{x:bp}(h:x∈qF s lock k):aF k x.aq:=by obtain⟨u,a,b⟩:=iI.1 h;grind [qG,qH,dJ]
theorem aDG{b:Id}{w:am}{ns:List aH8}{out:List (List Int)}{n wk a:AV}{bm bo:Id}{f:Nat->AV}(C:bD Y b w ns out n wk a bm bo f)(hf:hU w)(hv:bcV w=U){lock:Int}(P:aF (L w.aQ.ak) lock):∃r Y1,(bc Y1 220 4 r ((jE w.aQ w.init.bW w.ac lock).map bp.c)/\Fx Y Y1 []/\∀k∈aA r,bK Y k)/\cZ aS GG 85 [.p b 0 0,iv lock] Y r Y1:=by
 have M:=vd hf hv
 obtain⟨a5,bV,bX,a3,bL⟩:=Bx hv
 obtain⟨fc,fl,fd,aT⟩:=iY a3
 have hw:=M.wo.ev
 have ax:=M.th
 have D:aF (L w.init.bW.ak) lock:=by simp_all
 have aZ:=Bq hv 0<|mh _
 have bU:L (gd w.init.bW.ak lock.toNat).bk<=4:=by
  have h1:=aZ.rd _<|ii (l:=(cY w 0).bW.ak) (i:=lock) D
  have:=AC h1.1 h1.2
  exact gl this ax
 refine aKi C.le rfl rfl λs4 v2 v3 K4 bY nf2 b0 b2 b3=>?_
 have F4:Fx Y s4 []:=K4.fx []
 have C4:=C.fx F4
 have bx:=C4.bx
 have r1:∀{x:AV},aN J [x]=V x:=λ{x}=>rfl
 have a0:∀{x y:Int},bM brT bmK [(0,iv x),(1,iv y)]=V (.a<|bp.c ⟨x,y,0,I⟩):=rfl
 have aw:∀{x y:Int} {r:Bool},bM brT bmK [(0,iv x),(1,iv y),(3,bv r)]=V (.a<|bp.c ⟨x,y,0,r⟩):=rfl
 simp only[Hp,qy 6,u0,u1,b2,b3,r1,aPF bx,bx,rkC,rk,ix,aj,dc,↓uL]
 refine⟨D,?_⟩
 refine I4 C4.le λv5 Y5 F5 N5 b5=>?_
 refine cy (cs:=cg.c<|gd w.init.bW.ak lock.toNat) b5 rfl rfl (by decide) λv F6 b6=>?_
 have aJ:box v (5,v5)=V ⟨184,2,U,U,[cg.c<|gd w.init.bW.ak lock.toNat]⟩:=b6
 have t:Fx s4 v []:=(F5.trans F6).mono (by grind [bK.no])
 have C6:=C4.fx t
 have W:=C6.bx
 have c2:=t.kq b2
 have c3:=t.kq b3
 have N:=C.sb
 simp only[qz 8,↓uL]
 refine dT (by obtain⟨b1,b2⟩:=b;simp only at N;subst N;simp[eL,okT,tok,lb,cq,m8,dC,dK,sl]) ?_
 simp only[u0,u1,c2,r1,aPF W,W,rkC,rk,aj,dc,cT,↓uL]
 have bI:∀k,qF w.init.bW lock (k+1)=qF w.init.bW lock k++qG w.init.bW lock k:=λk=>aNG
 have aX:∀k,L (qF w.init.bW lock k)<=k*5:=λk=>bhO (f:=qG w.init.bW lock) (c:=5) (by grind [aBM]) k
 refine jD (α:=AV) (λa i=>[a,iv i]) 1 (L w.aQ.ay) (λk a Y'=>bc Y' 220 4 a ((qF w.init.bW lock k).map bp.c)/\Fx v Y' []/\∀q∈aA a,bK v q/\ko q.1) (s0:= .l [] U U) ⟨bc.nil,Fx.refl _ _,by simp[aA]⟩ ?_
 rintro k a1 Y7 hk ⟨g7,F,N7⟩
 have d6:=F.kq aJ
 have C7:=C6.fx F
 have lk:=aX k
 simp only[qz 31,qy 18,au,ck,aI,u0,u1,d6,rk,aj,↓uL]
 refine⟨λh=>?_,λh=>?_⟩
 ·have a6:=aL h
  refine bsK (λe=>∀m g,bc g 220 4 m ((qF w.init.bW lock<|k+1).map bp.c)->Fx v g []->(∀q∈aA m,bK v q/\ko q.1)->e [m] g) ?_ λe Z=>?_
  ·intro m g R S q3
   simp only[qz 51,au,ck,aI,u0,u1,↓uL]
   exact dR (mk:=λa i=>[a,iv i]) (s:=a1) (s':=m) (λ_ _=>rfl) a6 (by omega) ⟨R,S,q3⟩
  simp only[qz 53,qy 10,qy 12,au,ck,u0,u1,d6,rk,aj,↓uL]
  refine⟨λho=>?_,λho=>?_⟩
  ·simp only[a0,aY,CZ,bQ,↓uL]
   refine gD g7 rfl (by decide) (by rw[C7.le];decide) nC nC (by grind) λa8 g g8 G bO ba=>Z a8 g ?_ ((F.trans G).mono<|by grind [bK.no]) λq o=>⟨?_,?_⟩
   ·grind [qG]
   ·grind [bK.old]
   ·exact(ba q o).elim (λh=>(N7 q h).2) λh=> .inr<|.inr<|.inl h
  ·have bS:qG w.init.bW lock k=qH w.init.bW lock k (L (gd w.init.bW.ak lock.toNat).bk):=by grind [qG]
   refine jD (α:=AV) (λa i=>[a,iv i]) 1 (L (gd w.init.bW.ak lock.toNat).bk) (λj a Y'=>bc Y' 220 4 a ((qF w.init.bW lock k++qH w.init.bW lock k j).map bp.c)/\Fx v Y' []/\∀q∈aA a,bK v q/\ko q.1) (s0:=a1) (by grind [qH]) ?_
   rintro j m g hj ⟨g8,G,N8⟩
   have C8:=C6.fx G
   have bT:=amy (s:=w.init.bW) (lock:=lock) (u:=k) (j:=j)
   simp only[qz 85,au,ck,aI,u0,u1,di,qz 107,qy 14,qy 16,ix,rk,iF,bh,↓uL]
   refine⟨λH=>⟨u7 H,λhu=>?_,λhu=>?_⟩,λH=>?_⟩
   ·simp only[aw,aY,CZ,bQ,↓uL]
    refine gD g8 rfl (by decide) (by rw[C8.le];decide) nC nC (by simp only[bJ,bZ,aO1,a6G];omega) λa9 Y9 g9 F9 bR bb=>?_
    simp only[qz 105,au,ck,aI,u0,u1,↓uL]
    refine dR (mk:=λa i=>[a,iv i]) (s:=m) (s':=a9) (λ_ _=>rfl) (aL H) (by omega) ⟨?_,(G.trans F9).mono (by grind [bK.no]),λq o=>⟨?_,?_⟩⟩
    ·grind [amz]
    ·grind [bK.old]
    ·exact(bb q o).elim (λh=>(N8 q h).2) λh=> .inr<|.inr<|.inr h
   ·simp only[qz 105,au,ck,aI,u0,u1,↓uL]
    refine dR (mk:=λa i=>[a,iv i]) (s:=m) (s':=m) (λ_ _=>rfl) (aL H) (by omega) ⟨?_,G,N8⟩
    grind [amz]
   ·rw[Nat.le_antisymm hj<|bw H] at g8
    exact Z m g (by simp_all) G N8
 ·have a4:k=L w.aQ.ay:=(by grind)
  have X:=F.kq c2
  have aP:=F.kq c3
  simp only[X,r1,aY,u0,u1,↓uL]
  have O:∀{Y':ae},Fx Y7 Y' (aA a1)->bD Y' b w ns out n wk a bm bo f/\box Y' (2,v2)=V ⟨88,1,U,U,[[.p b 0 0]]⟩/\box Y' (3,v3)=V ⟨3,1,U,U,[[iv lock]]⟩:=λz=>
   ⟨C7.fxs z λq o=>(N7 q o).2,z.keep _ _ (by grind [ko]) X,z.keep _ _ (by grind [ko]) aP⟩
  obtain⟨r,g,⟨R,S,q3,q4⟩,hF⟩:=ann (Y:=Y7) (a1:=a1) (fb:= .f 161 [] [.p (3,v3) 0 0, .p (2,v2) 0 0]) (fe:= .f 162 [] [.p (3,v3) 0 0, .p (2,v2) 0 0]) (hs:=qF w.init.bW lock k) (B:=sJ w.aQ lock) (E:=sQ w.aQ lock) C7 hw (by omega) (λi A=>(M.wo.named A).2) (by grind [aBO]) g7 (by grind) (λY' z i A d K hK=>by
   obtain⟨C',e2,e3⟩:=O z
   simp only[cF,rn]
   rw[lC (show¬GG.nw 161=U by decide),lD<|show GG.imp 161=U by decide]
   exact aS2 rfl (aDE C' e3 e2 (gd w.ac i)<|by grind [oT,kB.named,vL.wo]) hK) (λY' z i A d K hK=>by
   obtain⟨C',e2,e3⟩:=O z
   simp only[cF,rn]
   rw[lC (show¬GG.nw 162=U by decide),lD<|show GG.imp 162=U by decide]
   exact aS2 rfl (aDF C' e3 e2 (gd w.ac i)<|by grind [oT,kB.named,vL.wo]) hK)
  rw[aor (w:=w.aQ) (s:=w.init.bW) (Lw:=lock) ?_ (λi A=>awl P (M.wo.named A).1)<|λi A=>axI P (M.wo.named A).1] at R
  ·refine⟨r,g,hF,S.len,?_⟩
   rw[lC<|show¬GG.rd 163=U by decide]
   have T:=F4.trans<|t.trans F
   refine⟨R,(T.trans S).mono λq o=>?_,λq o=>?_⟩
   ·simp only[dW] at o
    exact .inr (((N7 q o).1.old t).old F4).no
   ·rcases q4 q o with h'|h'
    ·grind [bK.old]
    ·exact h'.old T
  ·rw[a4,<-aT]
   refine aBN (by have:=P.2;omega) λho=>?_
   have h5:=(a5 lock.toNat (by have:=D.1;have:=D.2;omega)).1
   grind [AM,List.length_eq_zero_iff]
theorem aDS{b:Id}{w:am}{ns:List aH8}{out:List (List Int)}{n wk a:AV}{W X:Id}{f:Nat->AV}(C:bD Y b w ns out n wk a W X f)(hf:hU w)(N:bcV w=U):∃r u,(bc u 220 4 r ((jE w.aQ w.init.bW w.ac<|L w.aQ.ak).map bp.c)/\Fx Y u []/\∀k∈aA r,bK Y k)/\cZ aS GG 86 [.p b 0 0] Y r u:=by
 have F:=vd hf N
 obtain⟨ao,ap,aq,H,al⟩:=Bx N
 obtain⟨fc,fl,fd,ah⟩:=iY H
 have hw:=F.wo.ev
 have z:w.init.bW.tx≠-1->aF (L w.init.bW.ay) w.init.bW.tx:=(by grind [yS,nO,dX])
 refine aKv C.le ?_
 have bx:=C.bx
 have G:∀{x y:Int},bM brT bmK [(0,iv x),(1,iv y)]=V (.a<|bp.c ⟨x,y,0,I⟩):=rfl
 simp only[HP,di,↓uL]
 refine bsh (λvs Y'=>∃a1,vs=[a1]/\bc Y' 220 4 a1 ((sZ w.init.bW).map bp.c)/\Fx Y Y' []/\∀q∈aA a1,bK Y q/\ko q.1) (λg hJ=>?_) ?_
 ·simp only[qz 17,qy 2,qy 4,u0,u1,aPF bx,bx,rkC,rk,aj,dc,↓uL]
  refine⟨λh=>?_,by grind [sZ,bc.nil,Fx.refl,aA]⟩
  simp only[G,aY,CZ,bQ,↓uL]
  refine gD bc.nil rfl (by decide) (by rw[C.le];decide) (by simp) nC (by simp) λT A g8 R an M=>hJ _ _ ⟨T,rfl,?_,R.mono (by simp[aA]),λq l=>⟨?_,?_⟩⟩
  ·grind [sZ]
  ·grind [aA]
  ·exact(M q l).elim (by simp[aA]) λh=> .inl h
 ·rintro vs S ⟨a1,rfl,Z,t,N7⟩
  have m:=C.fx t
  simp only[qz 15,qy 6,aI,au,↓uL]
  have hl:L (sZ w.init.bW)<=1:=by grind [sZ]
  obtain⟨r,A,⟨O,P,q3,q4⟩,hF⟩:=ann (Y:=S) (a1:=a1) (fb:= .f 164 [] []) (fe:= .f 165 [] []) (hs:=sZ w.init.bW) (B:=λe=>Q<|e.kind=12) (E:=λe=>Q<|e.kind=13) m hw (by omega) (λi j=>(F.wo.named j).2) (by grind [sZ]) Z (by grind) (λY' o i j d K v=>by
   simp only[cF,rn]
   rw[lC (show¬GG.nw 164=U by decide),lD<|show GG.imp 164=U by decide]
   exact aS2 rfl (aDT (o.len.trans m.le)<|gd w.ac i) v) (λY' o i j d K v=>by
   simp only[cF,rn]
   rw[lC (show¬GG.nw 165=U by decide),lD<|show GG.imp 165=U by decide]
   exact aS2 rfl (aDU (o.len.trans m.le)<|gd w.ac i) v)
  rw[aor (w:=w.aQ) (s:=w.init.bW) (Lw:=L w.aQ.ak) (aBP z) (λi j=>awm)<|λi j=>axJ] at O
  refine⟨r,A,hF,P.len,?_⟩
  rw[lC<|show¬GG.rd 163=U by decide]
  refine⟨O,(t.trans P).mono λq l=>?_,λq l=>?_⟩
  ·grind [bK.no]
  ·rcases q4 q l with D|D
   ·simp_all
   ·exact D.old t
def aEf{b:Id}{w:am}{ns:List aH8}{out:List (List Int)}{n m a:AV}{g h:Id}{f:Nat->AV}{d:Nat}{K:be}(C:bD Y b w ns out n m a g h f)(j:hU w)(k:bcV w=U){lock:Int}(e:aF (L w.aQ.ak) lock)(i:∀t,K (.l ((jE w.aQ w.init.bW w.ac lock).map bp.c) t U) Y):cB 85 [.p b 0 0,iv lock] Y d K:=xC rfl (aDG C j k e) i
def aEk{b:Id}{w:am}{ns:List aH8}{out:List (List Int)}{n k a:AV}{e g:Id}{f:Nat->AV}{d:Nat}{K:be}(C:bD Y b w ns out n k a e g f)(i:hU w)(j:bcV w=U)(h:∀t,K (.l ((jE w.aQ w.init.bW w.ac<|L w.aQ.ak).map bp.c) t U) Y):cB 86 [.p b 0 0] Y d K:=xC rfl (aDS C i j) h
theorem Q6{w:am}(h:hU w)(b:bcV w=U){Lw:Int}(e:0<=Lw/\Lw<=L w.aQ.ak):L (jE w.aQ w.init.bW w.ac Lw)<=100:=by
 have g:=vd h b
 obtain⟨m,o,p,d,k⟩:=Bx b
 obtain⟨fc,fl,q,j⟩:=iY d
 rw[Q5,bJ,a6G]
 have a:L (nu w.aQ w.init.bW Lw)<=L w.init.bW.ay*5:=bhO (f:=bqI w.aQ w.init.bW Lw) (c:=5) (λu=>by
  unfold bqI
  split
  ·grind
  ·have n:L (gd w.init.bW.ak Lw.toNat).bk<=4:=by
    have a:=(Bq b 0<|mh _).rd _ (ii (l:=(cY w 0).bW.ak) (i:=Lw)<|by rw[show(cY w 0).bW=w.init.bW from rfl,fl];exact⟨e.1,by omega⟩)
    exact gl (AC a.1 a.2) g.th
   grind [pJ,Ln]) _
 have r:L (oF w.aQ Lw w.ac<|L w.ac)<=L w.ac*1:=bhO (f:=λi=>oY w.aQ Lw (gd w.ac i) i) (c:=1) (by grind [oY]) _
 grind [vL.th,kB.ev,vL.wo]
end
def apy:dO:=bsQ
def aph:eJ apy:=bsw
def aBq:=@aBp
def asE:=I5 16 [(5,([13],[3,12]))]
def bt8 a b R:=(.mk _:NS apy asE Tryz.f32 [.u] [a] b R).p
def aJ5{c0:List AV}{s0:ae}{R:be}(hs:L s0=4096)(l0:L c0=15)(h:HB1 43 15 1 c0 s0 λc b=>bt8 c b R):EB 32 [.a c0] s0 R:=zB1 asE aph Tryz.func32 hs l0 h
def nT(ns:List aH8)(w:am)(l:List aH8)(x:aH8):List (List Int):=(kZ ns w l x++(l.filter<|eZ x).map (dP ns))::(aH<|L<|l.filter<|eZ x).flatMap (brU ns w l x)
def ng(ns:List aH8)(w:am)(l:List aH8)(k:Nat):List (List Int):=
 if(gd w.ac k).kind=17/\(bh0 w k).2=U then(-lE ns k::gO ns l (bh0 w k).1)::(aH<|L l).flatMap (iO ns k (bh0 w k).1 l) else[]
def sN(ns:List aH8)(w:am)(l:List aH8):List (List Int):=((aH<|L l).flatMap λk=>iW ns<|gd l k)++((aH<|L l).flatMap (lP ns l)++((aH<|L l).flatMap (lQ ns w l)++(((aH<|L l).flatMap λk=>nT ns w l<|gd l k)++(aH<|L w.ac).flatMap (ng ns w l))))
theorem alM{ns:List aH8}{w:am}{l:List aH8}{x:aH8}:L (nT ns w l x)<=L l+1:=by unfold nT;rw[bZ];have h:=bhO (f:=brU ns w l x) (c:=1) (λj=>by simp[brU])<|L<|l.filter<|eZ x;grind
section
variable{Y:ae}{b:Id}{w:am}{ns:List aH8}{out:List (List Int)}{n a:AV}{d:Nat}{K:be}
set_option maxHeartbeats 8000000 in
end
def brQ(ns:List aH8)(w:am):List (List Int):=bqD ns w++oH ns w++sN ns w (aR ns 5)++rJ ns w
def yc(w:am)(u:Int)(l:List Int):L (fg w u l)<=L l:=by unfold fg bqV;have h:=jo (f:=λn=>fw (lm w u n)<|L w.ac) (m:=1) (l:=l.take<|L l) (by grind [Er]);simp_all
theorem KI{w:am}(h:xv w){k:Nat}(b:k<L w.ac):L (gd w.ac k).dI<=2000/\L (gd w.ac k).ep<=2000:=by have i:∀x,x∈(gd w.ac k).dI\/x∈(gd w.ac k).ep-> -1000<=x/\x<=1000:=λx d=>⟨(h.rd k b x d).1,(h.rd k b x d).2.1⟩;have c:=(h.wo.wo.en k b).2;simp only[be3,bip,eH,cP,fK,I8] at c;obtain⟨_,_,_,_,⟨f,g⟩,_⟩:=c;constructor;rcases oD (L (gd w.ac k).dI) with a|a;omega;have e:=yq f (L (gd w.ac k).dI-1) (by omega);grind [ve];rcases oD (L (gd w.ac k).ep) with a|a;omega;have e:=yq g (L (gd w.ac k).ep-1) (by omega);grind [ve]
structure VW(w:am):Prop where
 hf:hU w
 hv:bcV w=U
 ps:xv w
 wv:WV w
 ln:L (cw w)<2000
 l5:L (aR (cw w) 5)<=320
 nt:L w.aQ.ay<=4
 it:L w.init.bW.ay=L w.aQ.ay
 th:∀k,k<L w.ac->aF (L w.aQ.ay) (gd w.ac k).aq
 hp:∀r:Nat,r<L w.ac->((gd w.ac r).kind=23->aF (L w.init.bW.done) (gd w.ac r).bF/\aF (L w.init.bU) (gd w.ac r).bF)/\((gd w.ac r).kind=3->aF (L w.init.cells) (gd w.ac r).bF)
def vw{w:am}(d:hU w)(a:bcV w=U):VW w:=by have s:=anT d a;have b:=vd d a;obtain⟨v,x,y,i,t⟩:=Bx a;obtain⟨fc,fl,z,e⟩:=iY i;have n:=b.th;have g:=(aQA a).1;simp only[oh,cP,fK,apT] at g;have o:=g.1.1.1.1.2;simp only[fN,bN,I8] at o;have c:=Bq a 0<|mh _;have p:∀k,k<L w.ac->aF (L w.aQ.ay) (gd w.ac k).aq:=λk j=>(b.wo.named j).2;have m:=anE b.wo.ev (show L w.init.bW.ay<=4 by omega);refine⟨d,a,s,⟨b.wo,λk j=>?_,(by simp_all),λu B=>?_,by omega,⟨fl,by have:=c.lo;grind [cY]⟩,λl q=>?_⟩,m.1,by rw[Qf];exact m.2,n,e,p,λr A=>⟨λh=>?_,λh=>?_⟩⟩;grind [KI];grind [xv.ct,ii];have f:=c.rd l q;have:=AC f.1 f.2;omega;grind [oU,kB.named,vL.wo];grind [qP,kB.named,vL.wo]
section
variable{w:am}{ns:List aH8}
theorem KB(e:L w.ac<=16):L (bqD ns w)<=1000:=by
 have a:=bhO (f:=jy ns<|L w.ac) (c:=16) (λx=>by
  have:=bhO (f:=my ns x) (c:=1) (by grind [my])<|L w.ac
  unfold jy;omega) (L w.ac)
 have b:=bhO (f:=kY ns w) (c:=2) (by grind [kY])<|L w.ac
 have d:=bhO (f:=mA ns w) (c:=2) (by grind [mA])<|L w.ac
 grind [bqD]
theorem axl{s:List bp}(h:L s<=100):L (rL ns s)<=40000:=by
 have:=bhO (f:=mw ns s) (c:=400) (λi=>by
  have a:=bhO (f:=λj=>iA ns (gd s i)<|gd (s.drop<|i+1) j) (c:=4) (λj=>axk)<|L<|s.drop<|i+1
  grind [mw]) (L s)
 unfold rL;omega
theorem btz(a:VW w)(k:Nat)(c:k<=L w.aQ.ak+1):L ((aH k).flatMap<|pE ns w)<=200000:=by have h:=jo (f:=pE ns w) (m:=40000) (l:=aH k) λi b=>axl (Q6 a.hf a.hv ⟨by omega,by have:=fq.1 b;omega⟩);have:=a.wv.lk.2;grind
theorem Kz{l:List aH8}(a:L l<=320)(b:L w.ac<=16):L (sN ns w l)<=400000:=by
 have m1:=bhO (f:=λk=>iW ns<|gd l k) (c:=3) (by grind [iW])<|L l
 have d:=bhO (f:=lP ns l) (c:=320) (λk=>gl (bhO (f:=λj=>ju ns (gd l k)<|gd (l.drop<|k+1) j) (c:=1) (by grind [ju]) _)<|by simp;omega)<|L l
 have e:=bhO (f:=lQ ns w l) (c:=320) (λk=>gl (bhO (f:=λj=>jk ns w (gd l k)<|gd (l.drop<|k+1) j) (c:=1) (by grind [jk]) _)<|by simp;omega)<|L l
 have g:=bhO (f:=λk=>nT ns w l<|gd l k) (c:=321) (by grind [alM])<|L l
 have h:=bhO (f:=ng ns w l) (c:=321) (λk=>by
  unfold ng
  split
  ·have:=bhO (f:=iO ns k (bh0 w k).1 l) (c:=1) (by grind [iO])<|L l
   grind
  ·simp) (L w.ac)
 grind [sN]
theorem KA(a:VW w)(k:Nat)(q:k<=L w.ac):L ((aH k).flatMap<|gW ns w)<=1000000:=by have u:=a.wv.ok.ev;have h:=jo (f:=gW ns w) (m:=60000) (l:=aH k) λr t=>(by unfold gW;split;have e:=jo (f:=λj=>iP ns w r<|gd (dx w r) j) (m:=2020) (l:=aH<|L<|dx w r) λj d=>(by have hs:=(Kt<|ve<|fq.1 d).2;generalize gd (dx w r) j=s at hs⊢;unfold iP;rw[a6G];have g:L (kD ns w r s)<=2002:=(by unfold kD;split;rename_i b;have i:=bhO (f:=pD ns r s<|fg w (gd w.ac s.toNat).aq (gd w.ac s.toNat).ep) (c:=1) (λj=>by simp[pD])<|L<|fg w (gd w.ac s.toNat).aq (gd w.ac s.toNat).ep;have n:=yc w (gd w.ac s.toNat).aq (gd w.ac s.toNat).ep;have o:=(KI a.ps (k:=s.toNat) (by have:=(hs b).1.1;have:=(hs b).1.2;omega)).2;simp only[a6G,bZ,aO1];omega;simp);have p:=bhO (f:=bpl ns w r s) (c:=1) (by grind [bpl])<|L w.ac;omega);grind [vU];simp);grind
theorem Kw(a:VW w):L ((aH<|L w.ac).flatMap<|kX ns w)<=40000:=by have n:=a.wv.ok.ev;have h:=jo (f:=kX ns w) (m:=2000) (l:=aH<|L w.ac) λi b=>(by have d:=bhO (f:=qv ns i<|fg w (gd w.ac i).aq (gd w.ac i).dI) (c:=1) (λj=>by simp[qv])<|L<|fg w (gd w.ac i).aq (gd w.ac i).dI;have e:=yc w (gd w.ac i).aq (gd w.ac i).dI;have g:=(KI a.ps (k:=i)<|fq.1 b).1;unfold kX;omega);grind
def Kv(a:VW w)(b:L (aR ns 5)<=320):L (brQ ns w)<=2000000:=by have c:=KB (ns:=ns) a.wv.ok.ev;have d:=btz (ns:=ns) a (L w.aQ.ak+1)<|dA _;have e:=Kz (ns:=ns) (w:=w) b a.wv.ok.ev;have f:=KA (ns:=ns) a (L w.ac)<|dA _;have g:=Kw (ns:=ns) a;simp only[brQ,rJ,oH,a6G];omega
end
section
variable{Y:ae}
theorem ank{w:am}(d:VW w)(hl:L Y=4096):∃r z,(∃b n m a i j f,r= .p b 0 0/\bD z b w (cw w) (brQ (cw w) w) n m a i j f/\Fx Y z []/\bK Y b)/\cZ aS GG 32 [.a w.c] Y r z:=by refine aJ5 hl rfl λs2 v1 K2 aJ nf O=>?_;have x:Fx Y s2 []:=K2.fx [];have ab:L s2=4096:=x.len.trans hl;have r15:aN (V 15) w.c=V (.a w.c):=rfl;have e:=d.wv.ok.ev;have aF:=d.ln;have aG:=d.wv.lk.2;have M:jb w (cw w):=anG (by omega);have D:=an6 d.ps d.hf;have S:GU w (cw w):=aId e;have Wk:sE w (cw w):=Rq e d.wv.ts;have ad:=d.l5;have q1:=KB (ns:=cw w) e;have q3:=Kz (ns:=cw w) (w:=w) ad e;have q4:=KA (ns:=cw w) d (L w.ac)<|dA _;have q6:=Kw (ns:=cw w) d;have q2:=λk X=>btz (ns:=cw w) d k X;simp only[bt8,qy 4,u0,u1,O,r15,↓uL];refine jH rfl (aCA ab d.hv d.hf aEm<|by omega) ?_;rintro r3 Y3 ⟨b,n,m,i,j,f,rfl,C3,y,Nb,_,_⟩;refine⟨y.len,?_⟩;have P:=y.kq O;have T:((1,v1):Id)≠b:=(by grind [bD.sb]);generalize cw w=ns at*;refine aEh C3 M d.th e (by grind) λa4 Y4 C4 A4=>?_;have R:=A4.keep P T (by simp[aA]);simp only[qz 6,u0,u1,R,rk,aj,cT,↓uL];refine yV (L w.aQ.ak) (λk _ Y'=>∃G,bD Y' b w ns (bqD ns w++(aH k).flatMap (pE ns w)) n m G i j f/\Ad Y3 Y' b (.l [] U U) G) (by grind) ?_;rintro k _ Y5 X ⟨a5,g,E⟩;have aK:=q2 k (by omega);simp only[qz 31,au,aI,u0,u1,↓uL];refine⟨λh=>?_,λh=>?_⟩;have o:=aL h;refine aEf g d.hf d.hv (dJ o) λt=>?_;simp only[qz 8,↓uL];refine bsi rfl (anl g M (by grind [Q6,VW.hf,VW.hv]) (by grind [anV,VW.hf,VW.hv])<|by grind) λK Y6 v u=>?_;simp only[qz 10,au,u0,u1,↓uL];refine yU o ⟨K,?_,E.trans u⟩;rw[aNG,<-bje];exact v;have Z:k=L w.aQ.ak:=(by grind);subst Z;have s:=q2 (L w.aQ.ak+1)<|dA _;rw[aNG,a6G] at s;have W:pE ns w (L w.aQ.ak)=rL ns (jE w.aQ w.init.bW w.ac<|L w.aQ.ak):=rfl;rw[W] at s;refine aEk g d.hf d.hv λt=>?_;simp only[qz 12,qy 14,↓uL];refine bsi rfl (anl g M (by grind [Q6,VW.hf,VW.hv]) (by grind [anV,VW.hf,VW.hv])<|by grind) λK Y6 v u=>?_;refine bsi rfl (aDJ v M Wk e<|by grind) λa7 Y7 C7 A7=>?_;simp only[qz 16,qy 18,↓uL];have hN:sN ns w (aR ns 5)=(((aH<|L<|aR ns 5).flatMap λk=>iW ns<|gd (aR ns 5) k)++((aH<|L<|aR ns 5).flatMap (lP ns<|aR ns 5)++((aH<|L<|aR ns 5).flatMap (lQ ns w<|aR ns 5)++((aH<|L<|aR ns 5).flatMap λk=>qw ns w<|gd (aR ns 5) k))))++(aH<|L w.ac).flatMap (bru ns w):=(by simp only[sN,bje];rfl);rw[hN,a6G] at q3;generalize(((aH<|L<|aR ns 5).flatMap λk=>iW ns<|gd (aR ns 5) k)++((aH<|L<|aR ns 5).flatMap (lP ns<|aR ns 5)++((aH<|L<|aR ns 5).flatMap (lQ ns w<|aR ns 5)++((aH<|L<|aR ns 5).flatMap λk=>qw ns w<|gd (aR ns 5) k))))=N at*;refine bsi rfl (aDv C7 M Wk d.th d.it d.nt e<|by grind) λa8 Y8 C8 A8=>?_;refine bsi rfl (aDV C8 M D S d.th e<|by grind) λa9 Y9 C9 A9=>?_;simp only[qz 20,qy 22,↓uL];refine aEd C9 M D d.th e (by grind [a6G]) λH aE F C=>?_;have A:=((((E.trans u).trans A7).trans A8).trans A9).trans C;have B:brQ ns w=bqD ns w++(aH<|L w.aQ.ak).flatMap (pE ns w)++rL ns (jE w.aQ w.init.bW w.ac<|L w.aQ.ak)++N++(aH<|L w.ac).flatMap (bru ns w)++(aH<|L w.ac).flatMap (gW ns w)++(aH<|L w.ac).flatMap (kX ns w):=(by simp_all [brQ,oH,aNG,rJ]);rw[B];refine⟨b,n,m,H,i,j,f,rfl,F,((x.trans y).trans A.fx).mono λq hq=>?_,Nb.old x⟩;simp only[dW,aA,cE] at hq;grind [bK.no,bK.old]
end
def apz:dO:=apy
def Ri:eJ apz:=aph
def Ld:=@aBq
def S1 a b R:=(.mk _:NR apz avg Tryz.f13 [.u] [a] b R).p
def aJ2{c0:List AV}{R:cC}(l0:L c0=15)(h:H1 43 15 1 c0 λia b=>S1 ia b R):Ct 13 [.a c0] R:=z1 avg Ri Tryz.func13 l0 h
def asC:=I5 27 [(5,([],[4,5])),(11,([39],[2,4,5,37,38])),(14,([],[2,4,5,37,38,39]))]
def buF b a c R:=(.mk _:NR apz asC Tryz.f11 [.u, .u] [b,a] c R).p
def aJ3{c0:List AV}{b:List AV}{R:cC}(l0:L c0=15)(l1:L b=6)(h:H2 43 15 2 c0 49 6 3 b λia c d=>buF ia c d R):Ct 11 [.a c0, .a b] R:=z2 asC Ri Tryz.func11 l0 l1 h
def vZ(w:am)(out:List<|List Int):br6:=⟨L w.ac,L<|cw w,lL<|cw w,out⟩
def Em{Y:ae}{p v:Nat}{zs:List AV}{a1 a:AV}{w:am}{out:List (List Int)}{R:cC}(k:box Y (p,v)=V ⟨54,4,U,U,[zs]⟩)(H:L zs=4)(g1:bc Y 86 3 a1<|(lL<|cw w).map bqR.c)(g:bc Y 38 1 a<|out.map λc=>[sl ci c])(m:∀ds,Lk ds (vZ w out).c->R (.a ds)):sV (aK 4 Y (.p (p,v) 0 0)<|.a [iv<|L w.ac,iv<|L<|cw w,a1,a]) λs=>rV (vl (V 4) s<|.p (p,v) 0 0) λt=>aE R s [t]:=by have i:∀{x y x2 j:AV},aN (V 4) [x,y,x2,j]=V (.a [x,y,x2,j]):=rfl;refine cy (y:=4) (cs:=[iv<|L w.ac,iv<|L<|cw w,a1,a]) k rfl rfl (by omega) λb d E=>?_;have f:box b (p,v)=V ⟨54,4,U,U,[[iv<|L w.ac,iv<|L<|cw w,a1,a]]⟩:=(by simp_all);have h:∀{e:TypeId} {z:Nat} {x:AV} {bA:List (List AV)},bc Y e z x bA->∀q∈aA x,q∉[((p,v):Id)]:=(by intro e z x bA n q o F;rcases n with⟨_,rfl⟩|⟨D,rfl,G⟩;simp[aA] at o;grind [aA]);obtain⟨t1,o1,A⟩:=(g1.fx d<|h g1).frD;obtain⟨C,u,B⟩:=(g.fx d<|h g).frD;simp only[u1,f,u0,i,↓uL];have r:jS b [.a [iv<|L w.ac,iv<|L<|cw w,a1,a]]= .a [iv<|L w.ac,iv<|L<|cw w, .l ((lL<|cw w).map bqR.c) t1 o1, .l (out.map λc=>[sl ci c]) C u]:=(by show AV.a [dQ b<|iv<|L w.ac,dQ b<|iv<|L<|cw w,dQ b a1,dQ b a]=_;rw[A,B];rfl);unfold aE;rw[r];exact⟨rfl,m _ ⟨rfl,rfl⟩⟩
def NN(w:am)(s:bcV w=U/\hU w):Ct 13 [.a w.c] (λr=>∃ds,r= .a ds/\Lk ds (vZ w<|brQ (cw w) w).c):=by refine aJ2 rfl λD l p A=>?_;obtain⟨m,k⟩:=s;have d:=vw k m;have r15:aN (V 15) w.c=V (.a w.c):=rfl;simp only[S1,↓uL];refine I4 l λF E e t q=>?_;have j:=e.kq p;simp only[qz 4,qy 6,qy 8,u0,u1,j,r15,ar,Ld,m,k,aOe,vp,fh,eE,aO5,aQ6,↓uL];refine jH rfl (ank d<|e.len.trans l) ?_;rintro B v ⟨b,n,G,a,y,z,f,rfl,o,h,u⟩;refine⟨h.len,?_⟩;refine jH rfl (anm o (by have:=d.ln;omega)) ?_;rintro C x ⟨a1,rfl,g1,g,i⟩;refine⟨i.len,?_⟩;simp only[qz 10,qy 12,↓uL];exact Em ((h.trans i).kq q) rfl g1 g (by simp)
def E1:FT:=om NN
def ax0{w Lw K}:=aUy E1 NN w Lw K
structure bxT(w:am)(g:cJ):Prop where
 h1:g.kind=1->aF (L w.ac) g.ea/\aF (L w.ac) g.eb
 h2:g.kind=2->(∀e∈g.cW,aF (L w.ac) e)/\L g.cW<=4
 h3:g.kind=3->aF (L w.ac) g.ea/\aF (L w.ac) g.eb/\g.ea≠g.eb
 h4:g.kind=4->aF (L w.ac) g.ea/\aF (L w.ac) g.eb/\aF (L w.ac) g.ec/\aF (L w.ac) g.ed/\g.ea≠g.ec
def Lj{w:am}{g:cJ}(h:qC w g=U):bxT w g:=by unfold qC at h;by_cases b:g.kind=2;rw[bpL b,a7g] at h;simp only[qx,bN,eH,I8] at h;obtain⟨j,k,_⟩:=h;refine⟨λe=>by omega,λ_=>⟨λe i=>?_,?_⟩,λe=>by omega,λe=>by omega⟩;exact(px (p:=λe=>aF (L w.ac) e)).1 (by grind [dX]) e i;grind [rO];rw[bio b,a5C] at h;simp only[bN] at h;obtain⟨⟨ia,a,c,d⟩,f⟩:=h;have ia:=dX.1 ia;have a:=dX.1 a;have c:=dX.1 c;have d:=dX.1 d;refine⟨λ_=>⟨ia,a⟩,λe=>aPo e b,λe=>⟨ia,a,?_⟩,λe=>⟨ia,a,c,d,?_⟩⟩;rw[bio (by omega),bpL e,a5C,a7g] at f;grind [wz,tm];rw[bio (by omega),bio (by omega),bpL e,a5C,a5C,a7g] at f;grind [tZ,vQ]
def NO(w:am)(g:cJ)(hp:bcV w=U/\hU w/\qC w g=U):Ct 11 [.a w.c, .a g.c] (λr=>∃ds,r= .a ds/\Lk ds (vZ w<|brQ (cw w) w++jx (cw w) w g).c):=by refine aJ3 rfl rfl λs2 hl b1 b3 h0=>?_;obtain⟨hv,hf,hg⟩:=hp;have d:=vw hf hv;have G:=Lj hg;have hW:=vd hf hv;have F:=d.wv.ok.ev;have br:=d.ln;have aP:=d.l5;have M:jb w (cw w):=anG (by omega);have D:=an6 d.ps d.hf;have Wk:sE w (cw w):=Rq F d.wv.ts;have r15:aN (V 15) w.c=V (.a w.c):=rfl;have r6:aN (V 6) g.c=V (.a g.c):=rfl;have bg:=Kv (ns:=cw w) d aP;simp only[buF,↓uL];refine I4 hl λv2 s3 F3 N3 b2=>?_;have af:=F3.kq b1;have ak:=F3.kq b3;simp only[qz 6,qy 8,u0,u1,af,ak,r15,r6,ar,Ld,hv,hf,hg,hW,aOe,vp,fh,jA,eE,aO5,aQ6,↓uL];refine jH rfl (ank d<|F3.len.trans hl) ?_;rintro r4 Y4 ⟨b,n,wk,a,bm,bo,f,rfl,p,Z,Nb⟩;refine⟨Z.len,?_⟩;have ah:=Z.kq b2;have ag:=Z.kq af;have s:=Z.kq ak;have bd:=p.sb;have H:∀{k v:Nat},k≠18->(k,v)≠b:=(by grind);simp only[qz 10,di,↓uL];have bt:∀c,vZ w c=⟨L w.ac,L<|cw w,lL<|cw w,c⟩:=λ_=>rfl;refine bsh (λvs Y'=>∃o,bD Y' b w (cw w) (brQ (cw w) w++jx (cw w) w g) n wk o bm bo f/\Ad Y4 Y' b a o) (λi S=>?_) ?_;simp only[qz 35,qy 24,qy 26,u0,u1,s,rk,aj,↓uL];have T:∀{x:Int},aF (L w.ac) x->L (jK (cw w) w x)<=10010:=λhx=>zW d.wv (yc w) hx;have hn:L (cw w)<100000:=(by omega);generalize cw w=ns at*;generalize hO:brQ ns w=O at*;refine⟨λA=>?_,λbk=>⟨λA=>?_,λbl=>⟨λA=>?_,λbn=>⟨λA=>?_,λbp=>S [] Y4 ⟨a,?_,Ad.refl _ _ _⟩⟩⟩⟩⟩;have j:=asq A;have bi:=T (G.h1 j).1;have aG:=T (G.h1 j).2;refine bur p M D d.th F (G.h1 j).1 (by omega) λN C m l=>?_;have u:=l.keep s (H<|by decide)<|p.ne s<|.inl rfl;simp only[qz 12,qy 14,u0,u1,u,rk,aj,↓uL];refine bur m M D d.th F (G.h1 j).2 (by simp only[a6G];omega) λP E q K=>S [] E ⟨P,?_,l.trans K⟩;grind [jx];have j:=asq A;obtain⟨aJ,bj⟩:=G.h2 j;refine yV (L g.cW) (λk _ Y'=>∃o,bD Y' b w ns (O++(aH k).flatMap λk=>bqS ns w<|gd g.cW k) n wk o bm bo f/\Ad Y4 Y' b a o) (by grind [Ad.refl]) ?_;rintro k _ C bq ⟨N,m,l⟩;have aQ:∀x,L (jc ns w x)<=2:=(by grind [jc]);have m5:=bhO (f:=λk=>bqS ns w<|gd g.cW k) (c:=3) (by grind [bqS]) k;simp only[qz 67,au,aI,u0,u1,ix,iF,bh,↓uL];refine⟨λh=>?_,λh=>S [] C ⟨N,?_,l⟩⟩;have W:=aL h;refine bsK (λi=>∀o Y',bD Y' b w ns (O++((aH k).flatMap λk=>bqS ns w<|gd g.cW k)++bqS ns w (gd g.cW k)) n wk o bm bo f->Ad Y4 Y' b a o->i [] Y') ?_ λi X=>?_;intro o Y' q1 q2;simp only[qz 87,au,aI,u0,u1,↓uL];refine yU W ⟨o,?_,q2⟩;grind [aNG];simp only[qz 89,au,u0,u1,ix,iF,bh,↓uL];refine⟨dJ W,?_⟩;have z:=aJ _<|ve W;generalize gd g.cW k=e at*;have aK:e.toNat<L w.ac:=(by have:=z.1;have:=z.2;omega);refine anz m M d.th F (by simp only[a6G];omega) z λP E q K=>?_;have B:=l.trans K;have aB:=B.keep ag (H<|by decide)<|p.ne ag<|.inl rfl;simp only[qz 16,u0,u1,aB,rk,ix,aj,↓uL];refine⟨z,λaE=>X P E ?_ B,λaE=>?_⟩;grind [bqS];have a3:(gd w.ac e.toNat).kind=17:=(by grind);refine anB q (by omega) z (d.wv.th _ aK).2 (by have:=d.wv.ts;omega) λv bu=>?_;simp only[qz 18,qy 20,qy 22,oJ,pG,alY,alZ,u0,↓uL];refine⟨λaT=>?_,λaT=>X P E ?_ B⟩;refine anC q hn v λt=>?_;have bs:L (gO ns (aR ns 5) v)<=L (aR ns 5):=(by grind [gO]);have be:=aQ e;refine boV q (by grind) _ (by omega) λa7 Y7 C7 A7=>X a7 Y7 ?_<|B.trans A7;have bv:nG ns (aR ns 5) (bh0 w e).1 (-1)=gO ns (aR ns 5) (bh0 w e).1:=(by unfold nG gO;congr 1;refine List.filter_congr λy hy=>?_;have:=(Wk.ok y hy).1.1;simp;omega);grind [bqS];grind [bqS];grind [jx];have j:=asq A;obtain⟨g1,g2,g3⟩:=G.h3 j;refine aEg p M Wk F g1 g2 g3 (by omega) λN C m l=>S [] C ⟨N,?_,l⟩;rw[jx,lC (by omega),lC (by omega),lD j];exact m;have j:=asq A;obtain⟨g1,g2,g3,g4,g5⟩:=G.h4 j;have aG:=T g2;refine gq p hn (M.ex _ g1) ?_;simp only[a5Y,bQ,qz 28,↓uL];refine boV p (by omega) [_] (by simp) λN C m l=>?_;have u:=l.keep s (H<|by decide)<|p.ne s<|.inl rfl;simp only[qz 30,qy 32,u0,u1,u,rk,aj,↓uL];refine gq m hn (M.ex _ g4) ?_;simp only[a5Y,bQ,qz 34,↓uL];refine boV m (by grind) [_] (by simp) λP E q K=>?_;have R:=K.keep u (H<|by decide)<|m.ne u<|.inl rfl;simp only[qz 36,qy 38,u0,u1,R,rk,aj,↓uL];refine kg q hn (M.bf _ _ g1 g3 g5) ?_;simp only[a5Y,bQ,qz 40,↓uL];refine boV q (by grind) [_] (by simp) λa7 Y7 C7 A7=>?_;have aD:=A7.keep R (H<|by decide)<|q.ne R<|.inl rfl;simp only[qz 42,qy 44,u0,u1,aD,rk,aj,↓uL];refine bur C7 M D d.th F g2 (by grind) λa8 Y8 C8 A8=>S [] Y8 ⟨a8,?_,by grind [Ad.trans]⟩;grind [jx];grind [jx];rintro vs C ⟨o,m,l⟩;simp only[qz 33,aI,↓uL];have aC:=l.keep ah (H<|by decide)<|p.ne ah<|.inl rfl;refine jH rfl (anm m<|by omega) ?_;rintro r6 E ⟨a1,rfl,g1,g,F6⟩;refine⟨F6.len,?_⟩;simp only[qz 46,qy 48,↓uL];exact Em (F6.kq aC) rfl g1 g (by simp)
def BP:FT:=pn NO
def ax1{w g Lw K}:=f211 BP NO w g Lw K
def apB:dO:=(13,E1)::(11,BP)::apz
def Rj:eJ apB:=sz (rj NN)<|sz (aN0 NO)<|Ri
def amo:=ai @ax0<|ai @ax1<|@Ld

section
variable{Y:ae}{b:Id}{w:am}{ns:List aH8}{out:List (List Int)}{n a:AV}{d:Nat}{K:be}
end
def apC:dO:=apB
def Rk:eJ apC:=Rj
def fsR:=@amo
section
attribute[local irreducible] aX
def a1q a s0 R:=(.mk _:NR apC avg Tryz.f311 [a] [] s0 R).p
def bgS{a:AV}{R:cC}(h:H0 λs0=>a1q a s0 R):Ct 311 [a] R:=z0 avg Rk Tryz.func311 h
def a9i:=I5 8 [(5,([5],[]))]
def a1m a a1 s0 R:=(.mk _:NR apC a9i Tryz.f294 [a,a1] [] s0 R).p
def bgQ{a a1:AV}{R:cC}(h:H0 λs0=>a1m a a1 s0 R):Ct 294 [a,a1] R:=z0 a9i Rk Tryz.func294 h
def a1M a s0 R:=(.mk _:NR apC at1 Tryz.f262 [a] [] s0 R).p
def bgW{a:AV}{R:cC}(h:H0 λs0=>a1M a s0 R):Ct 262 [a] R:=z0 at1 Rk Tryz.func262 h
def a2y a a1 s0 R:=(.mk _:NR apC at1 Tryz.f232 [a,a1] [] s0 R).p
def bg7{a a1:AV}{R:cC}(h:H0 λs0=>a2y a a1 s0 R):Ct 232 [a,a1] R:=z0 at1 Rk Tryz.func232 h
def a2D a a1 s0 R:=(.mk _:NR apC atS Tryz.f241 [a,a1] [] s0 R).p
def bg9{a a1:AV}{R:cC}(h:H0 λs0=>a2D a a1 s0 R):Ct 241 [a,a1] R:=z0 atS Rk Tryz.func241 h
def a9l:=I5 10 [(3,([5],[1,2]))]
def a1r a a1 b R:=(.mk _:NR apC a9l Tryz.f304 [.u,a1] [a] b R).p
def bgT{c0:List AV}{a1:AV}{R:cC}(l0:L c0=6)(h:H1 31 6 2 c0 λia b=>a1r ia a1 b R):Ct 304 [.a c0,a1] R:=z1 a9l Rk Tryz.func304 l0 h
def a9n:=I5 21 [(3,([5],[1,4])),(8,([13],[1,4])),(15,([37],[1,4]))]
def a1F a b R:=(.mk _:NR apC a9n Tryz.f192 [.u] [a] b R).p
def bgV{c0:List AV}{R:cC}(l0:L c0=6)(h:H1 264 6 1 c0 λia b=>a1F ia b R):Ct 192 [.a c0] R:=z1 a9n Rk Tryz.func192 l0 h
def a24 a s0 R:=(.mk _:NR apC avg Tryz.f296 [a] [] s0 R).p
def bhe{a:AV}{R:cC}(h:H0 λs0=>a24 a s0 R):Ct 296 [a] R:=z0 avg Rk Tryz.func296 h
def aVt b R t1 a:=aU b (iv 6) λt3=>bX t3 b λf=>aC t3 (aO .gtr f<|iv 28) λg=>aD t3 (bv U) g λh=>ah h (aE R a [iv 0]) (aO .sub b (iv 6) λc=>ao 1 a t1 c λd=>aM a d λe=>aE R a [e])
def aVs a s0 R:=eV (aX bH 23 s0 [(0,iv 3),(1,iv 3),(2,iv 4),(3,iv 4),(4,iv 5),(5,iv 6),(6,iv 7),(7,iv 8),(8,iv 9),(9,iv 10),(10,iv 11),(11,iv 12),(12,iv 13),(13,iv 14),(14,iv 15),(15,iv 16),(16,iv 18),(17,iv 19),(18,iv 20),(19,iv 21),(20,iv 22),(21,iv 23),(22,iv 2)])<|aVt a R
def bhn{a:AV}{R:cC}(h:H0 λs0=>aVs a s0 R):Ct 264 [a] R:=z0 ato Rk Tryz.func264 h
def a0p a a1 s0 R:=(.mk _:NR apC atS Tryz.f270 [a,a1] [] s0 R).p
def bgB{a a1:AV}{R:cC}(h:H0 λs0=>a0p a a1 s0 R):Ct 270 [a,a1] R:=z0 atS Rk Tryz.func270 h
def a0C a a1 s0 R:=(.mk _:NR apC atS Tryz.f271 [a,a1] [] s0 R).p
def bgG{a a1:AV}{R:cC}(h:H0 λs0=>a0C a a1 s0 R):Ct 271 [a,a1] R:=z0 atS Rk Tryz.func271 h
def a8V:=I5 9 []
def a0e a s0 R:=(.mk _:NR apC a8V Tryz.f318 [a] [] s0 R).p
def bgt{a:AV}{R:cC}(h:H0 λs0=>a0e a s0 R):Ct 318 [a] R:=z0 a8V Rk Tryz.func318 h
def a0l a b R:=(.mk _:NR apC at1 Tryz.f313 [.u] [a] b R).p
def bgy{c0:List AV}{R:cC}(l0:L c0=4)(h:H1 272 4 1 c0 λia b=>a0l ia b R):Ct 313 [.a c0] R:=z1 at1 Rk Tryz.func313 l0 h
def a0S a a1 s0 R:=(.mk _:NR apC avg Tryz.f300 [a,a1] [] s0 R).p
def bgK{a a1:AV}{R:cC}(h:H0 λs0=>a0S a a1 s0 R):Ct 300 [a,a1] R:=z0 avg Rk Tryz.func300 h
def a0R a s0 R:=(.mk _:NR apC avg Tryz.f303 [a] [] s0 R).p
def bgJ{a:AV}{R:cC}(h:H0 λs0=>a0R a s0 R):Ct 303 [a] R:=z0 avg Rk Tryz.func303 h
def a0c a s0 R:=(.mk _:NR apC at1 Tryz.f196 [a] [] s0 R).p
def bgs{a:AV}{R:cC}(h:H0 λs0=>a0c a s0 R):Ct 196 [a] R:=z0 at1 Rk Tryz.func196 h
def a0a a s0 R:=(.mk _:NR apC at1 Tryz.f280 [a] [] s0 R).p
def bgr{a:AV}{R:cC}(h:H0 λs0=>a0a a s0 R):Ct 280 [a] R:=z0 at1 Rk Tryz.func280 h
def aUG s0 R:=(.mk _:NR apC at1 Tryz.f193 [] [] s0 R).p
def bgk{R:cC}(h:H0 λs0=>aUG s0 R):Ct 193 [] R:=z0 at1 Rk Tryz.func193 h
def aVS s0 R:=(.mk _:NR apC at1 Tryz.f182 [] [] s0 R).p
def bhz{R:cC}(h:H0 λs0=>aVS s0 R):Ct 182 [] R:=z0 at1 Rk Tryz.func182 h
def a9S:=I5 21 [(3,([9],[0,1,2,3])),(11,([10,11,12],[0,1,2,3,9])),(14,([10,11],[0,1,2,3,9,12]))]
def a4p a a1 b c s0 R:=(.mk _:NR apC a9S Tryz.f124 [a,a1,b,c] [] s0 R).p
def bhq{a a1 b c:AV}{R:cC}(h:H0 λs0=>a4p a a1 b c s0 R):Ct 124 [a,a1,b,c] R:=z0 a9S Rk Tryz.func124 h
def aU6 a a1 s0 R:=(.mk _:NS apC atS Tryz.f276 [a,a1] [] s0 R).p
def bg3{a a1:AV}{s0:ae}{R:be}(hs:L s0=4096)(h:aU6 a a1 s0 R):EB 276 [a,a1] s0 R:=zB atS Rk Tryz.func276 h
end
inductive kW where
 |mk(op n:Int)(name:ByteArray)(l:List kW)
def kW.op:kW->Int| .mk a _ _ _=>a
def kW.n:kW->Int| .mk _ a _ _=>a
def kW.name:kW->ByteArray| .mk _ _ a _=>a
def kW.l:kW->List kW| .mk _ _ _ a=>a
instance:Inhabited kW:=⟨.mk 0 0 ⟨#[]⟩ []⟩
mutual
def kW.c:kW->List AV| .mk op n a l=>[iv op,iv n,st a, .l (kW.cr l) I I]
def kW.cr:List kW->List (List AV)|[]=>[]|e::l=>kW.c e::kW.cr l
end
def kW.cr_eq:∀{l:List kW},kW.cr l=l.map kW.c
 |[]=>by simp only[kW.cr,mU]
 |e::l=>by simp only[kW.cr,ji,kW.cr_eq]
def aoH{x:kW}:kW.c x=[iv x.op,iv x.n,st x.name,sl kW.c x.l]:=by cases x;simp only[kW.c,kW.cr_eq,kW.op,kW.n,kW.name,kW.l,sl]
inductive NA where
 |mk(op line:Int)(name arg:ByteArray)(index:List kW)(expr:kW)(body els:List NA)
def NA.op:NA->Int| .mk a _ _ _ _ _ _ _=>a
def NA.line:NA->Int| .mk _ a _ _ _ _ _ _=>a
def NA.name:NA->ByteArray| .mk _ _ a _ _ _ _ _=>a
def NA.arg:NA->ByteArray| .mk _ _ _ a _ _ _ _=>a
def NA.index:NA->List kW| .mk _ _ _ _ a _ _ _=>a
def NA.expr:NA->kW| .mk _ _ _ _ _ a _ _=>a
def NA.body:NA->List NA| .mk _ _ _ _ _ _ a _=>a
def NA.els:NA->List NA| .mk _ _ _ _ _ _ _ a=>a
instance:Inhabited NA:=⟨.mk 0 0 ⟨#[]⟩ ⟨#[]⟩ [] default [] []⟩
mutual
def NA.c:NA->List AV| .mk op e b arg index a d els=>[iv op,iv e,st b,st arg,sl kW.c index,iv a.op,iv a.n,st a.name,sl kW.c a.l, .l (NA.cr d) I I, .l (NA.cr els) I I]
def NA.cr:List NA->List (List AV)|[]=>[]|e::l=>NA.c e::NA.cr l
end
def NA.cr_eq:∀{l:List NA},NA.cr l=l.map NA.c
 |[]=>by simp only[NA.cr,mU]
 |e::l=>by simp only[NA.cr,ji,NA.cr_eq]
def a6X{x:NA}:NA.c x=[iv x.op,iv x.line,st x.name,st x.arg,sl kW.c x.index,iv x.expr.op,iv x.expr.n,st x.expr.name,sl kW.c x.expr.l,sl NA.c x.body,sl NA.c x.els]:=by cases x;simp only[NA.c,NA.cr_eq,NA.op,NA.line,NA.name,NA.arg,NA.index,NA.expr,NA.body,NA.els,sl]
structure w6 where
 kind:Int
 line:Int
 name:ByteArray
 size:Int
 init:Int
 on:ByteArray
 deriving Inhabited
def w6.c(x:w6):List AV:=[iv x.kind,iv x.line,st x.name,iv x.size,iv x.init,st x.on]
structure aO6 where
 name:ByteArray
 line:Int
 locs:List ByteArray
 body:List NA
 deriving Inhabited
def aO6.c(x:aO6):List AV:=[st x.name,iv x.line,sl cs x.locs,sl NA.c x.body]
structure aQl where
 bm0:List w6
 ay:List aO6
 deriving Inhabited
def aQl.c(x:aQl):List AV:=[sl w6.c x.bm0,sl aO6.c x.ay]
structure aNZ where
 op:Int
 a:Int
 b:Int
 k:Int
 n:Int
 site:Int
 deriving Inhabited
def aNZ.c(x:aNZ):List AV:=[iv x.op,iv x.a,iv x.b,iv x.k,iv x.n,iv x.site]
structure aTo where
 H7:Int
 bid:List aNZ
 deriving Inhabited
def aTo.c(x:aTo):List AV:=[iv x.H7,sl aNZ.c x.bid]
structure aBY where
 aQ:J9
 ay:List aTo
 deriving Inhabited
def aBY.c(x:aBY):List AV:=x.aQ.c++[sl aTo.c x.ay]
structure aNQ where
 pc:Int
 H7:List Int
 J6:List (List Int)
 ac:Int
 deriving Inhabited
def aNQ.c(x:aNQ):List AV:=[iv x.pc,sl ci x.H7,sl cl x.J6,iv x.ac]
structure atC where
 bW:aW
 cells:List Int
 bU:List Int
 ay:List aNQ
 deriving Inhabited
def atC.c(x:atC):List AV:=x.bW.c++[sl ci x.cells,sl ci x.bU,sl aNQ.c x.ay]
structure aOx where
 aQ:J9
 ac:List aP
 deriving Inhabited
def aOx.c(x:aOx):List AV:=x.aQ.c++[sl aP.c x.ac]
def aN9{x:kW}:L (kW.c x)=4:=by rw[aoH];rfl
theorem bit{x:NA}:L (NA.c x)=11:=by rw[a6X];rfl
section
variable{K:cC}{Y:ae}{i:Int}
def bcY{l:List kW}:rV (cz 4 Y (sl kW.c l)<|iv i) K=(aF (L l) i/\K (.q<|kW.c<|gd l i.toNat)):=aBz λ_=>aN9
def bc0{l:List NA}:rV (cz 11 Y (sl NA.c l)<|iv i) K=(aF (L l) i/\K (.q<|NA.c<|gd l i.toNat)):=aBz λ_=>bit
def bcX{l:List w6}:rV (cz 6 Y (sl w6.c l)<|iv i) K=(aF (L l) i/\K (.q<|w6.c<|gd l i.toNat)):=aBz λ_=>rfl
def bc2{l:List aO6}:rV (cz 4 Y (sl aO6.c l)<|iv i) K=(aF (L l) i/\K (.q<|aO6.c<|gd l i.toNat)):=aBz λ_=>rfl
def bcZ{l:List aNZ}:rV (cz 6 Y (sl aNZ.c l)<|iv i) K=(aF (L l) i/\K (.q<|aNZ.c<|gd l i.toNat)):=aBz λ_=>rfl
def bc1{l:List aTo}:rV (cz 2 Y (sl aTo.c l)<|iv i) K=(aF (L l) i/\K (.q<|aTo.c<|gd l i.toNat)):=aBz λ_=>rfl
def bc3{l:List aNQ}:rV (cz 4 Y (sl aNQ.c l)<|iv i) K=(aF (L l) i/\K (.q<|aNQ.c<|gd l i.toNat)):=aBz λ_=>rfl
def aPR{a b:Int}:a6F .rem 0 [] (iv a) (iv b)=if b≠0 then V (iv<|a.tmod b) else J:=by by_cases h:b=0<;>simp[a6F,zP,h]
def a5N{a b:Int}:a6F .quo 0 [] (iv a) (iv b)=if b≠0 then V (iv<|dq.wrap<|a.tdiv b) else J:=by by_cases h:b=0<;>simp[a6F,zP,h]
end
def ixv:=ai @bcY<|ai @bc0<|ai @bcX<|ai @bc2<|ai @bcZ<|ai @bc1<|@bc3
mutual
def a53:∀{x y:kW},kW.c x=kW.c y->x=y
 | .mk a b c d, .mk e f g j,h=>by
  simp only[kW.c,kO,AV.s.injEq,mW,mX,AV.l.injEq,vp,aNU] at h
  obtain⟨rfl,rfl,rfl,h⟩:=h
  rw[a6d h]
def a6d:∀{x y:List kW},kW.cr x=kW.cr y->x=y
 |[],[],_=>rfl
 |[],_::_,h=>by grind [kW.cr]
 |_::_,[],h=>by grind [kW.cr]
 |a::l,b::m,h=>by
  simp only[kW.cr,kO] at h
  rw[a53 h.1,a6d h.2]
end
theorem aOD{x y:kW}:(kW.c x=kW.c y)=(x=y):=aPe ⟨a53,λh=>by rw[h]⟩
def aOZ{l l':List kW}:(sl kW.c l=sl kW.c l')=(l=l'):=(by grind [kL,aOD])
mutual
def a54:∀{x y:NA},NA.c x=NA.c y->x=y
 | .mk a b c d e f g i, .mk k m o p t j u B,h=>by
  simp only[NA.c,kO,AV.s.injEq,mW,mX,AV.l.injEq,vp,aNU,aOZ] at h
  obtain⟨rfl,rfl,rfl,rfl,rfl,v,w,z,A,q,r⟩:=h
  have:f=j:=by
   obtain⟨a,b,c,d⟩:=f;obtain⟨k,m,o,p⟩:=j
   grind [kW.op,kW.n,kW.name,kW.l]
  rw[this,aV9 q,aV9 r]
def aV9:∀{x y:List NA},NA.cr x=NA.cr y->x=y
 |[],[],_=>rfl
 |[],_::_,h=>by grind [NA.cr]
 |_::_,[],h=>by grind [NA.cr]
 |a::l,b::m,h=>by
  simp only[NA.cr,kO] at h
  rw[a54 h.1,aV9 h.2]
end
theorem a6B{x y:NA}:(NA.c x=NA.c y)=(x=y):=aPe ⟨a54,λh=>by rw[h]⟩
def aO0{l l':List NA}:(sl NA.c l=sl NA.c l')=(l=l'):=(by grind [kL,a6B])
structure TCh where
 aq:Int
 amt:Int
 deriving Inhabited,DecidableEq
def TCh.c(x:TCh):List AV:=[iv x.aq,iv x.amt]
theorem aOY{x y:w6}:(w6.c x=w6.c y)=(x=y):=by apply aPe;constructor;intro h;(cases x;cases y);simp only[w6.c,J9.c,aW.c,zn,dW,kO,AV.s.injEq,mW,mV,mX,vp,aNU,amV,aOD,aOZ,aO0] at h;simp only[w6.mk.injEq,J9.ext_iff',aW.ext_iff',sA.ext_iff',bkg];exact h;intro h;rw[h]
def aPj{l l':List w6}:(sl w6.c l=sl w6.c l')=(l=l'):=(by grind [kL,aOY])
theorem aPD{x y:aO6}:(aO6.c x=aO6.c y)=(x=y):=by apply aPe;constructor;intro h;(cases x;cases y);simp only[aO6.c,J9.c,aW.c,zn,dW,kO,AV.s.injEq,mW,mV,mX,vp,aNU,amV,aOD,aOZ,aO0,aOY,aPj] at h;simp only[aO6.mk.injEq,J9.ext_iff',aW.ext_iff',sA.ext_iff',bkg];exact h;intro h;rw[h]
def aPE{l l':List aO6}:(sl aO6.c l=sl aO6.c l')=(l=l'):=(by grind [kL,aPD])
theorem aPC{x y:aQl}:(aQl.c x=aQl.c y)=(x=y):=by apply aPe;constructor;intro h;(cases x;cases y);simp only[aQl.c,J9.c,aW.c,zn,dW,kO,AV.s.injEq,mW,mV,mX,vp,aNU,amV,aOD,aOZ,aO0,aOY,aPj,aPD,aPE] at h;simp only[aQl.mk.injEq,J9.ext_iff',aW.ext_iff',sA.ext_iff',bkg];exact h;intro h;rw[h]
def aQr{l l':List aQl}:(sl aQl.c l=sl aQl.c l')=(l=l'):=(by grind [kL,aPC])
theorem aPX{x y:aNZ}:(aNZ.c x=aNZ.c y)=(x=y):=by apply aPe;constructor;intro h;(cases x;cases y);simp only[aNZ.c,J9.c,aW.c,zn,dW,kO,AV.s.injEq,mW,mV,mX,vp,aNU,amV,aOD,aOZ,aO0,aOY,aPj,aPD,aPE,aPC,aQr] at h;simp only[aNZ.mk.injEq,J9.ext_iff',aW.ext_iff',sA.ext_iff',bkg];exact h;intro h;rw[h]
def aQq{l l':List aNZ}:(sl aNZ.c l=sl aNZ.c l')=(l=l'):=(by grind [kL,aPX])
theorem aQp{x y:aTo}:(aTo.c x=aTo.c y)=(x=y):=by apply aPe;constructor;intro h;(cases x;cases y);simp only[aTo.c,J9.c,aW.c,zn,dW,kO,AV.s.injEq,mW,mV,mX,vp,aNU,amV,aOD,aOZ,aO0,aOY,aPj,aPD,aPE,aPC,aQr,aPX,aQq] at h;simp only[aTo.mk.injEq,J9.ext_iff',aW.ext_iff',sA.ext_iff',bkg];exact h;intro h;rw[h]
def aRT{l l':List aTo}:(sl aTo.c l=sl aTo.c l')=(l=l'):=(by grind [kL,aQp])
theorem aQY{x y:aBY}:(aBY.c x=aBY.c y)=(x=y):=by apply aPe;constructor;intro h;(cases x;cases y);simp only[aBY.c,J9.c,aW.c,zn,dW,kO,AV.s.injEq,mW,mV,mX,vp,aNU,amV,aOD,aOZ,aO0,aOY,aPj,aPD,aPE,aPC,aQr,aPX,aQq,aQp,aRT] at h;simp only[aBY.mk.injEq,J9.ext_iff',aW.ext_iff',sA.ext_iff',bkg];exact h;intro h;rw[h]
def aTm{l l':List aBY}:(sl aBY.c l=sl aBY.c l')=(l=l'):=(by grind [kL,aQY])
theorem aRS{x y:aNQ}:(aNQ.c x=aNQ.c y)=(x=y):=by apply aPe;constructor;intro h;(cases x;cases y);simp only[aNQ.c,J9.c,aW.c,zn,dW,kO,AV.s.injEq,mW,mV,mX,vp,aNU,amV,aOD,aOZ,aO0,aOY,aPj,aPD,aPE,aPC,aQr,aPX,aQq,aQp,aRT,aQY,aTm] at h;simp only[aNQ.mk.injEq,J9.ext_iff',aW.ext_iff',sA.ext_iff',bkg];exact h;intro h;rw[h]
def aWB{l l':List aNQ}:(sl aNQ.c l=sl aNQ.c l')=(l=l'):=(by grind [kL,aRS])
theorem aTl{x y:atC}:(atC.c x=atC.c y)=(x=y):=by apply aPe;constructor;intro h;(cases x;cases y);simp only[atC.c,J9.c,aW.c,zn,dW,kO,AV.s.injEq,mW,mV,mX,vp,aNU,amV,aOD,aOZ,aO0,aOY,aPj,aPD,aPE,aPC,aQr,aPX,aQq,aQp,aRT,aQY,aTm,aRS,aWB] at h;simp only[atC.mk.injEq,J9.ext_iff',aW.ext_iff',sA.ext_iff',bkg];exact h;intro h;rw[h]
def a6C{l l':List atC}:(sl atC.c l=sl atC.c l')=(l=l'):=(by grind [kL,aTl])
theorem aWA{x y:aOx}:(aOx.c x=aOx.c y)=(x=y):=by apply aPe;constructor;intro h;(cases x;cases y);simp only[aOx.c,J9.c,aW.c,zn,dW,kO,AV.s.injEq,mW,mV,mX,vp,aNU,amV,aOD,aOZ,aO0,aOY,aPj,aPD,aPE,aPC,aQr,aPX,aQq,aQp,aRT,aQY,aTm,aRS,aWB,aTl,a6C] at h;simp only[aOx.mk.injEq,J9.ext_iff',aW.ext_iff',sA.ext_iff',bkg];exact h;intro h;rw[h]
def bcS{l l':List aOx}:(sl aOx.c l=sl aOx.c l')=(l=l'):=(by grind [kL,aWA])
theorem a6A{x y:TCh}:(TCh.c x=TCh.c y)=(x=y):=by apply aPe;constructor;intro h;(cases x;cases y);simp only[TCh.c,J9.c,aW.c,zn,dW,kO,AV.s.injEq,mW,mV,mX,vp,aNU,amV,aOD,aOZ,aO0,aOY,aPj,aPD,aPE,aPC,aQr,aPX,aQq,aQp,aRT,aQY,aTm,aRS,aWB,aTl,a6C,aWA,bcS] at h;simp only[TCh.mk.injEq,J9.ext_iff',aW.ext_iff',sA.ext_iff',bkg];exact h;intro h;rw[h]
def bcR{l l':List TCh}:(sl TCh.c l=sl TCh.c l')=(l=l'):=(by grind [kL,a6A])
def ijv:=ai @aOD<|ai @a6B<|ai @aO0<|ai @aOY<|ai @aPj<|ai @aPE<|ai @aPC<|ai @aPX<|ai @aQq<|ai @aQp<|ai @aQY<|ai @aRS<|ai @aTl<|ai @aWA<|ai @a6A<|@bcR
def ben{x:kW}:aN J (kW.c x)=V (iv x.op):=by rw[aoH];rfl
def beo{x:kW}:aN J ((kW.c x).drop 1)=V (iv x.n):=by rw[aoH];rfl
def bep{x:kW}:aN J ((kW.c x).drop 2)=V (st x.name):=by rw[aoH];rfl
def ber{x:kW}:aN J ((kW.c x).drop 3)=V (sl kW.c x.l):=by rw[aoH];rfl
theorem a69{x:kW}:aN (V 4) (kW.c x)=V (.a<|kW.c x):=by rw[aoH];rfl
def beI{x:NA}:aN J (NA.c x)=V (iv x.op):=by rw[a6X];rfl
def beJ{x:NA}:aN J ((NA.c x).drop 1)=V (iv x.line):=by rw[a6X];rfl
def beL{x:NA}:aN J ((NA.c x).drop 2)=V (st x.name):=by rw[a6X];rfl
def beM{x:NA}:aN J ((NA.c x).drop 3)=V (st x.arg):=by rw[a6X];rfl
def beN{x:NA}:aN J ((NA.c x).drop 4)=V (sl kW.c x.index):=by rw[a6X];rfl
def beO{x:NA}:aN J ((NA.c x).drop 9)=V (sl NA.c x.body):=by rw[a6X];rfl
def beK{x:NA}:aN J ((NA.c x).drop 10)=V (sl NA.c x.els):=by rw[a6X];rfl
def beP{x:NA}:aN (V 4) ((NA.c x).drop 5)=V (.a<|kW.c x.expr):=by rw[a6X,aoH];rfl
def beQ{x:NA}:aN (V 11) (NA.c x)=V (.a<|NA.c x):=by rw[a6X];rfl
def bef{x:w6}:aN J (w6.c x)=V (iv x.kind):=rfl
def beg{x:w6}:aN J ((w6.c x).drop 1)=V (iv x.line):=rfl
def beh{x:w6}:aN J ((w6.c x).drop 2)=V (st x.name):=rfl
def bei{x:w6}:aN J ((w6.c x).drop 3)=V (iv x.size):=rfl
def bej{x:w6}:aN J ((w6.c x).drop 4)=V (iv x.init):=rfl
def bek{x:w6}:aN J ((w6.c x).drop 5)=V (st x.on):=rfl
def bem{x:w6}:aN (V 6) (w6.c x)=V (.a<|w6.c x):=rfl
def beU{x:aO6}:aN J (aO6.c x)=V (st x.name):=rfl
def beV{x:aO6}:aN J ((aO6.c x).drop 1)=V (iv x.line):=rfl
def beW{x:aO6}:aN J ((aO6.c x).drop 2)=V (sl cs x.locs):=rfl
def beX{x:aO6}:aN J ((aO6.c x).drop 3)=V (sl NA.c x.body):=rfl
def beY{x:aO6}:aN (V 4) (aO6.c x)=V (.a<|aO6.c x):=rfl
def bez{x:aQl}:aN J (aQl.c x)=V (sl w6.c x.bm0):=rfl
def beA{x:aQl}:aN J ((aQl.c x).drop 1)=V (sl aO6.c x.ay):=rfl
def beB{x:aQl}:aN (V 2) (aQl.c x)=V (.a<|aQl.c x):=rfl
def bes{x:aNZ}:aN J (aNZ.c x)=V (iv x.op):=rfl
def bet{x:aNZ}:aN J ((aNZ.c x).drop 1)=V (iv x.a):=rfl
def beu{x:aNZ}:aN J ((aNZ.c x).drop 2)=V (iv x.b):=rfl
def bev{x:aNZ}:aN J ((aNZ.c x).drop 3)=V (iv x.k):=rfl
def bew{x:aNZ}:aN J ((aNZ.c x).drop 4)=V (iv x.n):=rfl
def bex{x:aNZ}:aN J ((aNZ.c x).drop 5)=V (iv x.site):=rfl
def bey{x:aNZ}:aN (V 6) (aNZ.c x)=V (.a<|aNZ.c x):=rfl
def beR{x:aTo}:aN J (aTo.c x)=V (iv x.H7):=rfl
def beS{x:aTo}:aN J ((aTo.c x).drop 1)=V (sl aNZ.c x.bid):=rfl
def beT{x:aTo}:aN (V 2) (aTo.c x)=V (.a<|aTo.c x):=rfl
def bd9{x:aBY}:aN J (aBY.c x)=V (sl cA.c x.aQ.cells):=rfl
def bea{x:aBY}:aN J ((aBY.c x).drop 3)=V (sl cs x.aQ.bU):=rfl
def beb{x:aBY}:aN J ((aBY.c x).drop 4)=V (sl cs x.aQ.ay):=rfl
def bec{x:aBY}:aN J ((aBY.c x).drop 6)=V (sl aTo.c x.ay):=rfl
def bed{x:aBY}:aN (V 6) (aBY.c x)=V (.a<|x.aQ.c):=rfl
def bee{x:aBY}:aN (V 7) (aBY.c x)=V (.a<|aBY.c x):=rfl
def beZ{x:aNQ}:aN J (aNQ.c x)=V (iv x.pc):=rfl
def be0{x:aNQ}:aN J ((aNQ.c x).drop 1)=V (sl ci x.H7):=rfl
def be1{x:aNQ}:aN J ((aNQ.c x).drop 2)=V (sl cl x.J6):=rfl
def be2{x:aNQ}:aN (V 4) (aNQ.c x)=V (.a<|aNQ.c x):=rfl
def beC{x:atC}:aN J ((atC.c x).drop 3)=V (sl aoC.c x.bW.ay):=rfl
def beD{x:atC}:aN J ((atC.c x).drop 4)=V (sl ci x.cells):=rfl
def beE{x:atC}:aN J ((atC.c x).drop 5)=V (sl ci x.bU):=rfl
def beF{x:atC}:aN J ((atC.c x).drop 6)=V (sl aNQ.c x.ay):=rfl
def beG{x:atC}:aN (V 4) (atC.c x)=V (.a<|x.bW.c):=rfl
def beH{x:atC}:aN (V 7) (atC.c x)=V (.a<|atC.c x):=rfl
def bpn{x:TCh}:aN J (TCh.c x)=V (iv x.aq):=rfl
def bpo{x:TCh}:aN J ((TCh.c x).drop 1)=V (iv x.amt):=rfl
def bpp{x:TCh}:aN (V 2) (TCh.c x)=V (.a<|TCh.c x):=rfl
def aRV{a:AV}{l:List AV}:aN J (a::l)=V a:=rfl
def bfx{α:Type}{a:α}{n:Nat}{l:List α}:aOz (n+1) (a::l)=aOz n l:=rfl
def aRa{α:Type}{l:List α}:aOz 0 l=l:=rfl
def pz:=ai @ben<|ai @beo<|ai @bep<|ai @ber<|ai @a69<|ai @beI<|ai @beJ<|ai @beL<|ai @beM<|ai @beN<|ai @beO<|ai @beK<|ai @beP<|ai @beQ<|ai @bef<|ai @beg<|ai @beh<|ai @bei<|ai @bej<|ai @bek<|ai @bem<|ai @beU<|ai @beV<|ai @beW<|ai @beX<|ai @beY<|ai @bez<|ai @beA<|ai @beB<|ai @bes<|ai @bet<|ai @beu<|ai @bev<|ai @bew<|ai @bex<|ai @bey<|ai @beR<|ai @beS<|ai @beT<|ai @bd9<|ai @bea<|ai @beb<|ai @bec<|ai @bed<|ai @bee<|ai @beZ<|ai @be0<|ai @be1<|ai @be2<|ai @beC<|ai @beD<|ai @beE<|ai @beF<|ai @beG<|ai @beH<|ai @bpn<|ai @bpo<|ai @bpp<|ai @aRV<|ai @bfx<|@aRa
def bab{Y:ae}{x:kW}:dG Y (.a<|kW.c x)= .a (kW.c x):=by rw[aoH];rfl
def baf{Y:ae}{x:NA}:dG Y (.a<|NA.c x)= .a (NA.c x):=by rw[a6X];rfl
def baa{Y:ae}{x:w6}:dG Y (.a<|w6.c x)= .a (w6.c x):=rfl
def bad{Y:ae}{x:aQl}:dG Y (.a<|aQl.c x)= .a (aQl.c x):=rfl
def bac{Y:ae}{x:aNZ}:dG Y (.a<|aNZ.c x)= .a (aNZ.c x):=rfl
def bag{Y:ae}{x:aTo}:dG Y (.a<|aTo.c x)= .a (aTo.c x):=rfl
def a99{Y:ae}{x:aBY}:dG Y (.a<|aBY.c x)= .a (aBY.c x):=rfl
def bai{Y:ae}{x:aNQ}:dG Y (.a<|aNQ.c x)= .a (aNQ.c x):=rfl
def bae{Y:ae}{x:atC}:dG Y (.a<|atC.c x)= .a (atC.c x):=rfl
def bah{Y:ae}{x:aOx}:dG Y (.a<|aOx.c x)= .a (aOx.c x):=rfl
def a98{Y:ae}{x:TCh}:dG Y (.a<|TCh.c x)= .a (TCh.c x):=rfl
def bba{v:Value}:iX (.s v)=U:=rfl
def ba8{α:Type}{f:α->List AV}{l:List α}:iX (sl f l)=U:=rfl
def bbb{x:kW}:iX (.a<|kW.c x)=U:=by simp[iX,eN,aoH,sl]
def bbd{x:NA}:iX (.a<|NA.c x)=U:=by simp[iX,eN,a6X,sl]
def bbc{x:aQl}:iX (.a<|aQl.c x)=U:=rfl
def aOW:=ai @bba<|ai @ba8<|ai @bbb<|ai @bbd<|@bbc
def Fa:=ai @bab<|ai @baf<|ai @baa<|ai @bad<|ai @bac<|ai @bag<|ai @a99<|ai @bai<|ai @bae<|ai @bah<|@a98
section
variable{K:cC}{Y:ae}{i:Int}
end
abbrev qN:ByteArray:=⟨#[113]⟩
def shE:Nat->kW->Prop|0,_=>False|n+1,e=>(((e.op=1\/e.op=2)/\e.l=[])\/(e.op=3/\e.name=qN/\L e.l=1)\/(6<=e.op/\L e.l=2))/\∀x∈e.l,shE n x
theorem shE.len{n:Nat}{e:kW}(h:shE n e):L e.l<=2:=by cases n with|zero=>exact h.elim|succ n=>rcases h.1 with⟨_,h⟩|⟨_,_,h⟩|⟨_,h⟩<;>simp[h]
theorem shE.sub{n:Nat}{e:kW}(h:shE n e){k:Nat}(a:k<L e.l):∃m,n=m+1/\shE m (gd e.l k):=by cases n with|zero=>exact h.elim|succ n=>exact⟨n,rfl,h.2 _ (ve a)⟩
theorem shE.mono:∀{n m:Nat} {e:kW},shE n e->n<=m->shE m e
 |0,_,_,h,_=>h.elim
 |n+1,0,_,_,h=>by omega
 |n+1,m+1,e,h,b=>⟨h.1,λx a=>(h.2 x a).mono<|by omega⟩
def shS:Nat->NA->Prop|0,_=>False|n+1,s=>((s.op=1\/s.op=2\/s.op=3\/s.op=14)->shE 2 s.expr)/\L s.index<=1/\(∀x∈s.index,shE 2 x)/\(s.index≠[]->s.name=qN)/\L s.expr.l<=2/\L s.body<=4/\(∀x∈s.body,shS n x)/\L s.els<=4/\(∀x∈s.els,shS n x)/\1<=s.op/\s.op<=15
def shS.up{n:Nat}{s:NA}(h:shS n s):∃m,n=m+1/\(∀x∈s.body,shS m x)/\∀x∈s.els,shS m x:=by cases n with|zero=>exact h.elim|succ n=>exact⟨n,rfl,h.2.2.2.2.2.2.1,h.2.2.2.2.2.2.2.2.1⟩
def shS.at{n:Nat}{s:NA}(h:shS n s):((s.op=1\/s.op=2\/s.op=3\/s.op=14)->shE 2 s.expr)/\L s.index<=1/\(∀x∈s.index,shE 2 x)/\(s.index≠[]->s.name=qN)/\L s.expr.l<=2/\L s.body<=4/\L s.els<=4:=by cases n with|zero=>exact h.elim|succ n=>exact⟨h.1,h.2.1,h.2.2.1,h.2.2.2.1,h.2.2.2.2.1,h.2.2.2.2.2.1,h.2.2.2.2.2.2.2.1⟩
def shS.ops{n:Nat}{s:NA}(h:shS n s):1<=s.op/\s.op<=15:=by cases n with|zero=>exact h.elim|succ n=>exact h.2.2.2.2.2.2.2.2.2
theorem shS.mono:∀{n m:Nat} {s:NA},shS n s->n<=m->shS m s
 |0,_,_,h,_=>h.elim
 |n+1,0,_,_,h=>by omega
 |n+1,m+1,s,⟨c,d,e,f,g,i,j,k,l,b⟩,o=>⟨c,d,e,f,g,i,λx a=>(j x a).mono (by omega),k,λx a=>(l x a).mono (by omega),b⟩
def shL(n m:Nat)(l:List NA):Prop:=L l<=m/\∀s∈l,shS n s
def shS.body{n:Nat}{s:NA}(h:shS n s):∃m,n=m+1/\shL m 4 s.body/\shL m 4 s.els:=by obtain⟨m,e,a,b⟩:=h.up;exact⟨m,e,⟨h.at.2.2.2.2.2.1,a⟩,⟨h.at.2.2.2.2.2.2,b⟩⟩
def shT(t:aO6):Prop:=L t.locs<=4/\shL 4 8 t.body
def PrB(p:aQl):Prop:=L p.bm0<1000/\L p.ay<1000/\∀t∈p.ay,L t.locs<1000
def shP(p:aQl):Prop:=PrB p/\L p.ay<=4/\∀t∈p.ay,shT t
section
variable{i:Nat}(F:FT)
def aP7{A:Type}{b:A->List AV}{c:A->cC}(k:∀a,Ct i (b a)<|c a):FT:=λys K=>∃a,ys=b a/\∀r,c a r->K r
def aRM{A:Type}{b:A->List AV}{d:A->cC}(k:∀a,Ct i (b a)<|d a)(a:A)(Lw K:cC)(f:F=aP7 k:=by exact rfl)(j:∀a c,b a=b c->a=c:=by simp+contextual only[ij]):fW F (b a) Lw K=(∀r,d a r->Lw r/\K r):=by subst f;apply aPe;constructor;rintro⟨c,h,e⟩;obtain rfl:=j _ _ h;exact e;intro h;exact⟨_,rfl,h⟩
def aR6{A:Type}{b:A->List AV}{e:A->cC}(k:∀a,Ct i (b a)<|e a)(c:∀a,(b a).all iX=U:=by intros;exact rfl):∀ys K,aP7 k ys K->jz aS GG i ys K:=by rintro ys K ⟨a,rfl,h⟩;exact nX (k a) (c a) (λr d=>h r d)
def aRd{A B:Type}{c:A->B->List AV}{d:A->B->cC}(k:∀a b,Ct i (c a b)<|d a b):FT:=λys K=>∃a b,ys=c a b/\∀r,d a b r->K r
def f201{A B:Type}{c:A->B->List AV}{f:A->B->cC}(k:∀a b,Ct i (c a b)<|f a b)(a:A)(b:B)(Lw K:cC)(l:F=aRd k:=by exact rfl)(j:∀a b d e,c a b=c d e->a=d/\b=e:=by simp+contextual only[ij]):fW F (c a b) Lw K=(∀r,f a b r->Lw r/\K r):=by subst l;apply aPe;constructor;rintro⟨d,e,h,g⟩;obtain⟨rfl,rfl⟩:=j _ _ _ _ h;exact g;intro h;exact⟨_,_,rfl,h⟩
def aYm{A B:Type}{c:A->B->List AV}{f:A->B->cC}(k:∀a b,Ct i (c a b)<|f a b)(d:∀a b,(c a b).all iX=U:=by intros;exact rfl):∀ys K,aRd k ys K->jz aS GG i ys K:=by rintro ys K ⟨a,b,rfl,h⟩;exact nX (k a b) (d a b) (λr e=>h r e)
def aSb{A B C:Type}{d:A->B->C->List AV}{e:A->B->C->cC}(k:∀a b c,Ct i (d a b c)<|e a b c):FT:=λys K=>∃a b c,ys=d a b c/\∀r,e a b c r->K r
def f301{A B C:Type}{d:A->B->C->List AV}{l:A->B->C->cC}(k:∀a b c,Ct i (d a b c)<|l a b c)(a:A)(b:B)(c:C)(Lw K:cC)(n:F=aSb k:=by exact rfl)(j:∀a b c e f g,d a b c=d e f g->a=e/\b=f/\c=g:=by simp+contextual only[ij]):fW F (d a b c) Lw K=(∀r,l a b c r->Lw r/\K r):=by subst n;apply aPe;constructor;rintro⟨e,f,g,h,m⟩;obtain⟨rfl,rfl,rfl⟩:=j _ _ _ _ _ _ h;exact m;intro h;exact⟨_,_,_,rfl,h⟩
def a7W{A B C:Type}{d:A->B->C->List AV}{g:A->B->C->cC}(k:∀a b c,Ct i (d a b c)<|g a b c)(e:∀a b c,(d a b c).all iX=U:=by intros;exact rfl):∀ys K,aSb k ys K->jz aS GG i ys K:=by rintro ys K ⟨a,b,c,rfl,h⟩;exact nX (k a b c) (e a b c) (λr f=>h r f)
def aTQ{A B C D E:Type}{f:A->B->C->D->E->List AV}{g:A->B->C->D->E->Prop}{h:A->B->C->D->E->cC}(k:∀a b c d e,g a b c d e->Ct i (f a b c d e) (h a b c d e)):FT:=λys K=>∃a b c d e,ys=f a b c d e/\g a b c d e/\∀r,h a b c d e r->K r
def bbn{A B C D E:Type}{f:A->B->C->D->E->List AV}{p:A->B->C->D->E->Prop}{q:A->B->C->D->E->cC}(k:∀a b c d e,p a b c d e->Ct i (f a b c d e) (q a b c d e))(a:A)(b:B)(c:C)(d:D)(e:E)(Lw K:cC)(t:F=aTQ k:=by exact rfl)(j:∀a b c d e g l m n o,f a b c d e=f g l m n o->a=g/\b=l/\c=m/\d=n/\e=o:=by simp+contextual only[ij]):fW F (f a b c d e) Lw K=(p a b c d e/\∀r,q a b c d e r->Lw r/\K r):=by subst t;apply aPe;constructor;rintro⟨g,l,m,n,o,h,s⟩;obtain⟨rfl,rfl,rfl,rfl,rfl⟩:=j _ _ _ _ _ _ _ _ _ _ h;exact s;intro h;exact⟨_,_,_,_,_,rfl,h⟩
def bhJ{A B C D E:Type}{f:A->B->C->D->E->List AV}{m:A->B->C->D->E->Prop}{n:A->B->C->D->E->cC}(k:∀a b c d e,m a b c d e->Ct i (f a b c d e) (n a b c d e))(g:∀a b c d e,(f a b c d e).all iX=U:=by intros;exact rfl):∀ys K,aTQ k ys K->jz aS GG i ys K:=by rintro ys K ⟨a,b,c,d,e,rfl,j,h⟩;exact nX (k a b c d e j) (g a b c d e) (λr l=>h r l)
end
def bm1:AV->AV| .t vs=> .t (vs.map nrm)|x=>nrm x
theorem bdV{κ:vg}{w:World}{Y:ae}{β:Id->Nat}{v:Value}{x:AV}(h:ba κ w Y β v x):ba κ w Y β v (bm1 x):=by cases x with|t vs=>(cases h with|t d h=>refine .t (by grind) λi v c f b=>?_;grind [bE,yo])|_=>exact yo h
theorem a6f{x:AV}:nj (gK x)=nj x:=by cases x<;>rfl
theorem aWa{x:AV}:pF (nrm x)=pF x:=by cases x with|a cs=>grind [nrm,pF,List.all_map,a6f]|_=>first|rfl|exact a6f
def ba7{x:AV}:kG (bm1 x)=kG x:=by have h:=@aWa x;(cases x<;>first|exact h|skip);grind [bm1,kG,List.all_map,aWa]
def aDq{fn:Nat}{ys:List AV}{Q:cC}(h:Ct fn ys λr=>Q<|bm1 r):Ct fn ys Q:=by obtain⟨r,f,g,i,j⟩:=h;refine⟨bm1 r,f,by rw[ba7];exact g,i,λF w d a b c=>(j F w d a b c).mono ?_⟩;grind [bdV]
def fz(Y:ae)(c:AV):AV:=gK<|dQ Y c
def fzT(Y:ae):AV->AV| .a cs=> .a (cs.map<|fz Y)|x=>fz Y x
def bcq{Y:ae}{c:AV}:(∃l t o,dQ Y c= .l l t o)\/dQ Y c=c:=by(cases c<;>first|exact .inr rfl|skip);grind [box,dQ,eN,rS]
theorem aXU{Y:ae}{x:AV}:nrm (iZ Y x)=fzT Y x:=by cases x with|a cs=>simp only[iZ,nrm,fzT,vA];rfl|m b n=>show nrm (dQ Y<|.m b n)=gK (dQ Y<|.m b n);(rcases bcq (Y:=Y) (c:= .m b n) with⟨l,t,o,h⟩|h<;>rw[h]<;>rfl)|_=>rfl
theorem a6g{Y:ae}{x:AV}(h:iX (fzT Y x)=U):pF (iZ Y x)=U:=by have b:pF (nrm<|iZ Y x)=U:=(by rw[aXU];generalize fzT Y x=y at h;cases y with|a cs=>simp only[iX,dV] at h;simp only[pF,dV];intro c d;have:=h c d;(cases c<;>first|rfl|grind [eN])|_=>first|rfl|grind [iX,eN]);rwa [aWa] at b
def aOH{Q:cC}{Y:ae}{vs vs':List AV}(h:vs.map (fzT Y)=vs')(d:vs'.all iX=U)(c:Q<|aoz vs'):aE (λr=>Q<|bm1 r) Y vs:=by have b:kG (.t<|vs.map<|iZ Y)=U/\bm1 (.t<|vs.map<|iZ Y)= .t vs':=(by constructor;grind [kG,List.all_map,dV,a6g,List.mem_map_of_mem];simp only[bm1,vA,<-h];grind [ja,aXU]);unfold aE jS;rcases vs with _|⟨v,_|⟨w,l⟩⟩;subst h;exact⟨rfl,c⟩;subst h;simp only[ji,mU,Cs,aqG,ru] at d;have f:=a6g d;have g:bm1 (iZ Y v)=fzT Y v/\kG (iZ Y v)=pF (iZ Y v):=(by rw[<-aXU];generalize iZ Y v=y at f;cases y<;>first|exact⟨rfl,rfl⟩|grind [pF,nj]);refine⟨by simp_all,?_⟩;show Q<|bm1<|iZ Y v;rw[g.1];exact c;subst h;refine⟨b.1,?_⟩;show Q<|bm1<|.t<|(v::w::l).map<|iZ Y;rw[b.2];exact c
def aOv{Q:cC}{Y:ae}{v v':AV}(h:fzT Y v=v')(c:iX v'=U)(b:Q v'):aE (λr=>Q<|bm1 r) Y [v]:=by subst h;exact aOH (vs':=[fzT Y v]) rfl (by simp[c]) b
theorem aQ7{Y:ae}{v x:AV}(h:fzT Y v=x)(b:iX x=U):aE (λr=>bm1 r=x) Y [v]:=aOv (Q:=(·=x)) h b rfl
def lA(Y:ae)(e:TypeId)(z:Nat)(a:AV)(bA:List<|List AV):Prop:=(bA=[]/\a= .l [] U U)\/∃b m,a= .m b (L bA)/\box Y b=V ⟨e,z,U,I,bA++m⟩
theorem bc.p{Y:ae}{e:TypeId}{z:Nat}{a:AV}{bA:List (List AV)}(h:bc Y e z a bA):lA Y e z a bA:=by rcases h with h|⟨b,c,d⟩;exact .inl h;exact .inr ⟨b,[],c,by simpa using d⟩
section
variable{Y Y':ae}{e:TypeId}{z:Nat}{a:AV}{bA:List (List AV)}
theorem lA.fx{ks:List Id}(f:lA Y e z a bA)(d:Fx Y Y' ks)(g:∀b∈aA a,b∉ks):lA Y' e z a bA:=by rcases f with h|⟨b,m,rfl,c⟩;exact .inl h;exact .inr ⟨b,m,rfl,d.keep b _ (g b<|by simp[aA]) c⟩
def aWt{v:Value}:fz Y (.s v)= .s v:=rfl
def bcz{t o:Bool}:fz Y (.l bA t o)= .l bA I I:=rfl
def aBr(h:lA Y e z a bA):fz Y a= .l bA I I:=by rcases h with⟨rfl,rfl⟩|⟨b,m,rfl,c⟩;rfl;simp[fz,dQ,c,gK]
def aWs(h:lA Y e z a bA):fzT Y a= .l bA I I:=by rw[<-aBr h];rcases h with⟨rfl,rfl⟩|⟨b,m,rfl,c⟩<;>rfl
def lz(Y:ae)(c:AV):AV:=gK<|gi Y c
def aQ5{v:Value}:lz Y (.s v)= .s v:=rfl
def aXQ{t o:Bool}:lz Y (.l bA t o)= .l bA I I:=rfl
def aOb(h:lA Y e z a bA):lz Y a= .l bA I I:=by rcases h with⟨rfl,rfl⟩|⟨b,m,rfl,c⟩;rfl;simp[lz,gi,c,gK]
theorem lA.ce(h:lA Y e z a bA):eY a=V [a]:=by rcases h with⟨_,rfl⟩|⟨b,m,rfl,_⟩<;>rfl
theorem lA.ln(h:lA Y e z a bA):fS Y a=V (iv<|L bA):=by rcases h with⟨rfl,rfl⟩|⟨b,m,rfl,c⟩;rfl;simp[fS,c]
def lA.ar(h:lA Y e z a bA):dG Y a= .l bA I I:=by rcases h with⟨rfl,rfl⟩|⟨b,m,rfl,c⟩;rfl;simp[dG,eR,gi,c,nrm,gK]
def nlP{b:Id}{i j:Nat}{x:bY}(h:box Y b=V x):cO Y (.p b i j)=V (.p b i j):=by simp[cO,h]
theorem qs{d by':Nat}{zs:List AV}{new:List (List AV)}{t o:Bool}{K:be}(i:lA Y e z a bA)(k:L zs=z)(n:0<z)(c:d<L Y)(u:∀r∈bA,L r=z)(s:∀r∈new,L r=z)(p:new≠[])(q:(L bA+L new)*(by'+1)<=1099511627776)(h:∀f Y',bc Y' e z f (bA++new)->Fx Y Y' (aA a)->(∀b∈aA f,bK Y b/\b.1=d)->K f Y'):eV (apA e zs by' Y d a<|.l new t o) K:=by unfold apA;simp only[gL];rw[lC (by grind),lD ⟨by omega,by simp[aRI,c],by simp_all⟩];rcases i with⟨rfl,rfl⟩|⟨b,m,rfl,g⟩;simp only;rw[lD ⟨by simp,by grind [lx]⟩];refine h _ _ (.inr ⟨zt Y d,by simp,?_⟩) ((kH c).mono<|by simp) (by simp[aA];exact⟨qQ Y d,rfl⟩);grind [be7];simp only[g];rw[lD ⟨trivial,trivial,k.symm,by simp,by grind [lx]⟩];have j:d<L (kill Y b):=(by grind [yg]);refine h _ _ (.inr ⟨zt Y d,by simp,?_⟩) (((Le g).trans<|kH j).mono<|by simp[aA]) (by simp[aA];exact⟨qQ Y d,rfl⟩);grind [List.take_left',anF,be7]
theorem slP{i:Int}{K:cC}(g:lA Y e z a bA)(f:0<=i)(j:i<=L bA)(d:∀c,lA Y e z c (bA.take i.toNat)->aA c=aA a->K c):rV (fo z Y a J (V<|iv i) J) K:=by have k:i.toNat<=L bA:=(by omega);rcases g with⟨rfl,rfl⟩|⟨b,m,rfl,n⟩;have h:i.toNat=0:=(by grind);have:fo z Y (.l [] U U) J (V<|iv i) J=V (.l [] U U):=(by simp[fo,lM,f,qY,h]);rw[this];exact d _ (.inl ⟨by simp,rfl⟩) rfl;have:fo z Y (.m b<|L bA) J (V<|iv i) J=V (.m b i.toNat):=(by grind [fo,lM,qY]);rw[this];refine d _ (.inr ⟨b,bA.drop i.toNat++m,?_,?_⟩) rfl;simp_all;grind [bje,List.take_append_drop]
theorem aOp:∀(l:List Id) (Y:ae),Fx Y (kills Y l) l:=by intro l;induction l with|nil=>intro Y;exact Fx.refl _ _|cons b l d=>intro Y;show Fx Y (kills (if(box Y b).isSome then kill Y b else Y) l) (b::l);cases c:box Y b with|none=>grind [Fx.mono]|some x=>exact(Le c).trans<|d<|kill Y b
end
structure Lv(Y0 Y:ae)(cs tgt:List AV):Prop where
 eq:cs.map (lz Y)=tgt
 nw:∀b∈eB (.a cs),bK Y0 b
def aQm{Y:ae}{zs cs tgt:List AV}(d:cs.map (lz Y)=tgt)(b:L tgt=L zs)(f:0<L zs)(g:tgt.all eN=U)(i:L zs<=1000):aX zs 1 Y [(0, .a cs)]=V (.l [tgt] U U,kills Y<|eB<|.a cs):=by have h:nrm (eR Y<|.a cs)= .a tgt:=(by simp only[eR,nrm,vA,<-d];rfl);simp only[aX,ji,mU,h,Cz,RN,cL];have c:(List.replicate 1 zs).flatten=zs:=(by simp);rw[lD ⟨by omega,f⟩,c];simp only[aly,eY,b,Nat.zero_mul,aj,dA,aOe,aPy,CE,dW,Gz,cL,aQd,g,df];simp[kC,<-b]
theorem Lv.fx{d Y Y':ae}{cs tgt:List AV}{ks:List Id}(h:Lv d Y cs tgt)(f:Fx Y Y' ks)(l:∀b∈eB (.a cs),b∉ks)(i:tgt.all eN=U):Lv d Y' cs tgt:=by refine⟨?_,h.nw⟩;rw[<-h.eq];refine ja λc k=>?_;have j:eN (lz Y c)=U:=(by rw[<-h.eq] at i;simp_all);cases c with|m b n=>(cases g:box Y b with|none=>grind [lz,gi,gK,eN]|some x=>have:=f.keep b x (by grind [eB,iR]) g;grind [lz,gi])|_=>rfl
def aRA{e:TypeId}{z d:Nat}{zs cs:List AV}{Y:ae}{K:be}(l:L zs=z)(j:L cs=z)(h:0<z)(k:d<L Y)(i:∀v Y',Fx Y Y' []->bK Y (d,v)->box Y' (d,v)=V ⟨e,z,U,U,[cs]⟩->K (.p (d,v) 0 0) Y'):eV (alA e zs Y d) λp s=>sV (aK z s p<|.a cs) λs'=>K p s':=by refine alI l h k λv o b f g=>?_;refine cy (y:=z) (cs:=cs) g rfl j (by omega) λm c n=>?_;refine i v m ((b.trans c).mono<|by grind [bK.no]) f ?_;simp_all
def stW{Y:ae}{b:Id}{z:Nat}{e:TypeId}{o:Bool}{r cs:List AV}{K:ae->Prop}(f:box Y b=V ⟨e,z,o,U,[r]⟩)(j:L r=z)(g:L cs=z)(d:∀Y',Fx Y Y' [b]->box Y' b=V ⟨e,z,o,U,[cs]⟩->K Y'):sV (aK z Y (.p b 0 0)<|.a cs) K:=by refine cy (y:=z) (cs:=cs) f rfl g (by omega) λh c i=>d h c ?_;simp_all
def bdJ{Y:ae}{q:Option Nat}{cs:List AV}:vl q Y (.q cs)=aN q cs:=rfl
def A0{Y:ae}{b:Id}{j z:Nat}{e:TypeId}{o:Bool}{r:List AV}{x:AV}{K:ae->Prop}(d:box Y b=V ⟨e,z,o,U,[r]⟩)(g:eY x=V [x])(f:j<L r)(c:∀Y',Fx Y Y' [b]->box Y' b=V ⟨e,z,o,U,[r.set j x]⟩->K Y'):sV (aK 1 Y (.p b 0 j) x) K:=by grind [cy,GP]
def aPW{i:Nat}{ys:List AV}{R Lw K:cC}(h:Ct i ys R)(b:ys.all iX=U)(c:∀r,R r->Lw r/\K r):fW (cX i) ys Lw K:=nX h b c
def a6h{x:kW}:iX (.a<|kW.c x)=U:=by simp[iX,eN,aoH,sl]
def aS7{x:NA}:iX (.a<|NA.c x)=U:=by simp[iX,eN,a6X,sl]
def aV2{x:AV}(h:iX x=U):[x].all iX=U:=by simp[h]
def apQ{Y:ae}{e:TypeId}{z d by' n:Nat}{zs:List AV}{a:AV}{bA new:List (List AV)}{t o:Bool}{K:be}(h:lA Y e z a bA)(m:L Y=n)(q:∀r∈bA,L r=z)(p:∀r∈new,L r=z)(g:new≠[])(j:(L bA+L new)*(by'+1)<=1099511627776)(i:∀c Y',bc Y' e z c (bA++new)->Fx Y Y' (aA a)->(∀b∈aA c,bK Y b/\b.1=d)->K c Y')(s:L zs=z:=by exact rfl)(f:0<z:=by decide)(k:d<n:=by decide):eV (apA e zs by' Y d a<|.l new t o) K:=qs h s f (m▸k) q p g j i
def anu{e:TypeId}{z d n:Nat}{zs cs:List AV}{Y:ae}{K:be}(h:L Y=n)(c:∀v Y',Fx Y Y' []->bK Y (d,v)->box Y' (d,v)=V ⟨e,z,U,U,[cs]⟩->K (.p (d,v) 0 0) Y')(i:L zs=z:=by exact rfl)(f:L cs=z:=by exact rfl)(b:0<z:=by decide)(g:d<n:=by decide):eV (alA e zs Y d) λp s=>sV (aK z s p<|.a cs) λs'=>K p s':=aRA i f b (h▸g) c
def isI(r:AV):Prop:=∃x:Int,r=iv x
def isB(r:AV):Prop:=∃b:Bool,r=bv b
def aPG{x:Int}:isI (iv x)=True:=btc ⟨x,rfl⟩
def aNP{b:Bool}:isB (bv b)=True:=btc ⟨b,rfl⟩
def aP1{c:Prop}[Decidable c]{v:AV}{K:cC}:rV (if c then V v else J) K=(c/\K v):=by grind [rV]
def aWE(r:AV):Prop:=∃(x:Int) (b:Bool),r= .t [iv x,bv b]
def aQ1(r:AV):Prop:=∃x y:Int,r= .t [iv x,iv y]
def a6D{x:Int}{b:Bool}:aWE (.t [iv x,bv b])=True:=btc ⟨x,b,rfl⟩
def aO2{x y:Int}:aQ1 (.t [iv x,iv y])=True:=btc ⟨x,y,rfl⟩
def bd7{R:cC}{Y:ae}{x y:Int}:aE R Y [iv x,iv y]=R (.t [iv x,iv y]):=by simp[aE,jS,iZ,dQ,kG,pF,nj]
def aTb{p:Nat->Bool}{n:Nat}: -1<=uo p n/\uo p n<n:=by grind [uo,List.mem_of_find?_eq_some]
def aXc(b:Bool):Ct 311 [bv b] (·=iv (if b then 1 else 0)):=by refine bgS λs0 c a=>?_;cases b<;>simp[a1q,u1,ah]
def aOT:FT:=lH aXc
def bbU{b Lw K}:=np aOT aXc b Lw K
def aXa(i n:Int):Ct 294 [iv i,iv n] (λr=>isI r):=by refine bgQ λs0 b a=>?_;simp+contextual only[a1m,u0,u1,aPR,↓uL,aP1,aPG];refine⟨λh=>trivial,λh=>⟨by grind,?_⟩⟩;simp+contextual only[qz 35,qz 33,↓uL,u0,u1,aPG,aNK,aOe]
def aSe:FT:=aRd aXa
def bbS{i n Lw K}:=f201 aSe aXa i n Lw K
def aXg(o:Int):Ct 262 [iv o] (·=bv (Q (1<=o)&&Q (o<=5))):=by refine bgW λs0 b a=>?_;simp+contextual only[a1M,u0,u1,↓uL]
def aSf:FT:=lH aXg
def bbY{o Lw K}:=np aSf aXg o Lw K
def aXk(i n:Int):Ct 232 [iv i,iv n] (·=bv (dh i n)):=by refine bg7 λs0 b a=>?_;simp+contextual only[a2y,u0,u1,dh,↓uL]
def aN3:FT:=lI aXk
def bb2{i n Lw K}:=f200 aN3 aXk i n Lw K
def aXm(l:List dS)(s:ByteArray)(f:L l<4611686018427387904):Ct 241 [sl dS.c l,st s] (λr=>isI r):=by refine bg9 λs0 e a=>?_;simp only[a2D];refine bhZ (L l) (λk=>True) trivial λk d b=>?_;simp+contextual only[qz 19,u0,u1,ix,rk,bh,aPG,aNK,vp,aNU,↓uL];grind [dJ,aL,gS]
def aQE:FT:=pn aXm
def bb4{l s Lw K}:=f211 aQE aXm l s Lw K
def aXd(w:J9)(s:ByteArray)(m:L w.cells<4611686018427387904):Ct 304 [.a w.c,st s] (·=iv (uo (λi=>Q<|(gd w.cells i).name=s)<|L w.cells)):=by refine bgT rfl λn l b f=>?_;simp only[a1r];refine bhZ (L w.cells) (λk=>∀j,j<k->Q ((gd w.cells j).name=s)=I) (by simp) λk g e=>?_;simp+contextual only[qz 19,u0,u1,b,ix,rk,aj,bh,↓uL];refine⟨λh=>⟨u7 h,λd=>?_,by grind [gS,aL]⟩,λh=>?_⟩;rw[KW (aL h) d e];grind [KX,bkb,bw]
def aQD:FT:=aIc aXd
def bbV{w s Lw K}:=f210 aQD aXd w s Lw K
def aOB(l:List w6)(s:ByteArray):Int:=uo (λi=>Q<|(gd l i).name=s)<|L l
def aYi(l:List aO6)(s:ByteArray):Int:=uo (λi=>Q<|(gd l i).name=s)<|L l
def aWX(l:List w6)(s:ByteArray)(g:L l<4611686018427387904):Ct 270 [sl w6.c l,st s] (·=iv (aOB l s)):=by refine bgB λi f d=>?_;simp only[a0p];refine bhZ (L l) (λk=>∀j,j<k->Q ((gd l j).name=s)=I) (by simp) λk e b=>?_;simp+contextual only[qz 19,u0,u1,ixv,rk,pz,bh,↓uL];refine⟨λh=>⟨u7 h,λa=>?_,by grind [gS,aL]⟩,λh=>?_⟩;rw[aOB,KW (aL h) a b];grind [aOB,KX,bkb,bw]
def aPO:FT:=aIc aWX
def bbF{l s Lw K}:=f210 aPO aWX l s Lw K (j:=by simp+contextual only[ij,ijv])
def aW2(l:List aO6)(s:ByteArray)(g:L l<4611686018427387904):Ct 271 [sl aO6.c l,st s] (·=iv (aYi l s)):=by refine bgG λi f d=>?_;simp only[a0C];refine bhZ (L l) (λk=>∀j,j<k->Q ((gd l j).name=s)=I) (by simp) λk e b=>?_;simp+contextual only[qz 19,u0,u1,ixv,rk,pz,bh,↓uL];refine⟨λh=>⟨u7 h,λa=>?_,by grind [gS,aL]⟩,λh=>?_⟩;rw[aYi,KW (aL h) a b];grind [aYi,KX,bkb,bw]
def aP9:FT:=aIc aW2
def bbK{l s Lw K}:=f210 aP9 aW2 l s Lw K (j:=by simp+contextual only[ij,ijv])
def aXp(n:Int):Ct 296 [iv n] (λr=>isI r):=by refine bhe λs0 b a=>?_;simp+contextual only[a24,u0,u1,aPG,aNK,aOe,↓uL]
def aSh:FT:=aP7 aXp
def bb7{n Lw K}:=aRM aSh aXp n Lw K
def aWQ(n:Int):Ct 318 [iv n] (λr=>isI r):=by refine bgt λs0 b a=>?_;simp+contextual only[a0e,u0,u1,aPG,aNK,aOe,↓uL]
def aTZ:FT:=aP7 aWQ
def bby{n Lw K}:=aRM aTZ aWQ n Lw K
def aW6(a b:Int):Ct 300 [iv a,iv b] (·=iv (if a≠0 then a else b)):=by refine bgK λs0 d c=>?_;simp+contextual only[a0S,u0,u1,↓uL];simp_all
def aOi:FT:=lI aW6
def bbO{a b Lw K}:=f200 aOi aW6 a b Lw K
def aW5(b:Bool):Ct 303 [bv b] (·=iv (if b then 7 else 0)):=by refine bgJ λs0 c a=>?_;cases b<;>simp[a0R,u1,ah]
def aOS:FT:=lH aW5
def bbN{b Lw K}:=np aOS aW5 b Lw K
def aWU(e:kW):Ct 313 [.a e.c] (λr=>isB r):=by refine bgy aN9 λg f b d=>?_;simp+contextual only[a0l,u0,u1,b,pz,aj,aNP,↓uL]
def aT2:FT:=aP7 aWU
def bbC{e Lw K}:=aRM aT2 aWU e Lw K (j:=by simp+contextual only[ij,ijv])
def aWP(n:Int):Ct 196 [iv n] (·= .a (kW.mk 1 n ⟨#[]⟩ []).c):=by refine aDq (bgs λs0 d i=>?_);simp only[a0c];refine mo d λj e f=>?_;have b:bM bth bmK [(0,iv 1),(1,iv n)]=V (.a [iv 1,iv n,sv [], .l [] U U]):=rfl;simp only[qz 2,qy 4,b,aY,↓uL];refine gN f (by rw[e.1,d];decide) rfl rfl λk h g=>?_;simp only[u0,u1,g,aj,aN,bZ,aO1,dA,aPy,List.take_succ_cons,CE,↓uL];exact aQ7 (by rw[aoH];rfl) (by rw[aoH];rfl)
def aQC:FT:=lH aWP
def bbx{n Lw K}:=np aQC aWP n Lw K
def a6z(i:aNZ):List Int:=
 bif Q (i.op=1)||(Q (i.op=6)||(Q (i.op=10)||Q (i.op=27))) then[i.a]
 else bif Q (i.op=2)||Q (i.op=3) then[i.a,i.b]
 else bif Q (i.op=4) then[i.a,i.b,i.k]
 else bif Q (i.op=7) then[i.a,i.k]
 else bif Q (i.op=8)||Q (i.op=26) then[i.b]
 else bif Q (i.op=9) then[i.b,i.k]
 else[]
attribute[local irreducible] aX
def aRU(l:List Int)(r:AV):Prop:=∃t o,r= .l (l.map ci) t o
def rLI{l:List Int}{Y:ae}{t o:Bool}:aE (λr=>aRU l r) Y [.l (l.map ci) t o]=True:=btc ⟨rfl,t,o,rfl⟩
def bd0{Y:ae}{t o:Bool}:aE (λr=>aRU [] r) Y [.l [] t o]=True:=btc ⟨rfl,t,o,rfl⟩
def aXf(i:aNZ):Ct 192 [.a i.c] (λr=>aRU (a6z i) r):=by refine bgV rfl λf e b d=>?_;simp only[a1F,u0,u1,b,pz,aj,↓uL];simp only[qz 23,iM,aY,sw,↓uL];simp only[qz 21,qy 4,aI,au,↓uL];simp only[a7i,qz 53,iM,aY,sw,↓uL];simp only[qz 51,qy 6,qy 8,qy 10,aI,au,↓uL];simp only[a7i,qz 95,iM,aY,sw,↓uL];simp only[qz 93,qy 12,qy 14,aI,au,↓uL];simp+contextual (maxSteps:=2000000) only[↓iS,u0,u1,b,pz,aj,a5Y,fi,xA,a6z,a7g,a5C,rLI,bd0,aNK,aOe,↓uL]
def aRj:FT:=aP7 aXf
def bbX{i Lw K}:=aRM aRj aXf i Lw K (j:=by simp+contextual only[ij,ijv])
def aTp:List Int:=[3,3,3,3,3,4,4,4,4,4,5,5,5,6,6,6,7,7,7,8,9,10,11,12,13,14,14,15,16,16,17,17,18,18,19,20,1,1,2,21,22,23,23]
def aXF:Ct 182 [] (λr=>aRU aTp r):=by refine bhz λs0 c b=>?_;have a:∀R,aVS s0 R=aE R s0 [.l (aTp.map ci) U U]:=λR=>(by kernel_rfl);show aVS s0 _;rw[a];exact⟨rfl,U,U,rfl⟩
def aUt:FT:=BK aXF
def bcm{Lw K}:=al3 aUt aXF Lw K
def aWO(s:ByteArray):Ct 280 [st s] (·= .a (kW.mk 2 0 s []).c):=by refine aDq (bgr λs0 d i=>?_);simp only[a0a];refine mo d λj e f=>?_;have b:bM bth bmK [(0,iv 2),(2,st s)]=V (.a [iv 2,iv 0,st s, .l [] U U]):=rfl;simp only[qz 2,qy 4,b,aY,↓uL];refine gN f (by rw[e.1,d];decide) rfl rfl λk h g=>?_;simp only[u0,u1,g,aj,aN,bZ,aO1,dA,aPy,List.take_succ_cons,CE,↓uL];exact aQ7 (by rw[aoH];rfl) (by rw[aoH];rfl)
def aQB:FT:=lH aWO
def bbw{s Lw K}:=np aQB aWO s Lw K
def aXK:List Int:=[3,3,4,4,5,6,7,8,9,10,11,12,13,14,15,16,18,19,20,21,22,23,2]
def aPY(o:Int):Int:=bif Q (o<6)||Q (28<o) then 0 else gd aXK (o-6).toNat
def aXv(o:Int):Ct 264 [iv o] (·=iv (aPY o)):=by refine bhn λs0 c b=>?_;have a:∀R,aVs (iv o) s0 R=aVt (iv o) R (.l (aXK.map ci) U U) s0:=λR=>(by kernel_rfl);show aVs (iv o) s0 _;rw[a];simp+contextual only[aVt,u0,u1,tf,rk,↓uL];refine⟨(by grind [aPY]),λh=>?_⟩;rw[aPY,h];simp only[cP,apT] at h;rw[eM (by omega)<|by omega];exact⟨⟨by omega,by show o-6<23;omega⟩,rfl⟩
def aUm:FT:=lH aXv
def bcd{o Lw K}:=np aUm aXv o Lw K
def aNF:List w6:=[⟨1,0,⟨#[120]⟩,0,0,⟨#[]⟩⟩,⟨1,0,⟨#[121]⟩,0,1,⟨#[]⟩⟩,⟨2,0,⟨#[118]⟩,0,0,⟨#[]⟩⟩,⟨1,0,⟨#[113]⟩,2,0,⟨#[]⟩⟩,⟨3,0,⟨#[109]⟩,0,0,⟨#[]⟩⟩,⟨3,0,⟨#[110]⟩,0,0,⟨#[]⟩⟩,⟨4,0,⟨#[114]⟩,0,0,⟨#[]⟩⟩,⟨5,0,⟨#[99]⟩,0,0,⟨#[109]⟩⟩,⟨6,0,⟨#[102]⟩,0,0,⟨#[]⟩⟩]
def aWN:Ct 193 [] (·=sl w6.c aNF):=by refine aDq (bgk λs0 d b=>?_);have a:∀R,aUG s0 R=aE R s0 [.l (aNF.map w6.c) U U]:=λR=>(by kernel_rfl);show aUG s0 _;rw[a];exact aQ7 rfl rfl
def aSd:FT:=BJ aWN
def bbv{Lw K}:=al2 aSd aWN Lw K
attribute[local semireducible] aX
def bkk(l:List aP)(t:Int)(j:Nat):Nat:=L ((l.take j).filter λe=>Q<|e.aq=t)
theorem aV8{l:List aP}{t:Int}{j:Nat}(h:j<L l):bkk l t (j+1)=bkk l t j+if(gd l j).aq=t then 1 else 0:=by grind [bkk,iJ,bT,a6G]
theorem a6c{l:List aP}{t:Int}{j:Nat}:bkk l t j<=j:=gl (List.length_filter_le _ _) (by simp;omega)
def aOE(l:List aP)(i:Nat)(t n:Int):Prop:=∃j,j<i/\(gd l j).aq=t/\((gd l j).kind=3\/(gd l j).kind=23)/\(bkk l t j:Int)=n
def aXy(l:List aP)(i:Nat)(t:Int)(ns:List Int)(u:i<=L l/\L l<1000000/\L ns<4611686018427387904):Ct 124 [sl aP.c l,iv i,iv t,sl ci ns] (λr=>∃b,r=bv b/\(b=U->∀n∈ns,aOE l i t n)):=by obtain⟨y,z,A⟩:=u;refine bhq λs0 D x=>?_;simp only[a4p];refine bhZ (L ns) (λk=>∀j,j<k->aOE l i t (gd ns j)) (by simp) λk C p=>?_;simp only[qz 19,aI,u0,u1,↓uL];refine⟨λh=>?_,λh=>⟨U,rfl,λ_=>?_⟩⟩;(focus refine yh (λs:Bool×Nat=>[iv<|bkk l t s.2,bv s.1,iv s.2]) 2 i (λs=>s.2<=i/\(s.1=U->aOE l i t (gd ns k))) (I,0) ⟨by omega,by simp⟩ ?_;rintro⟨v,j⟩ ⟨B,E⟩;simp only[qz 67,aI,au,u0,u1,↓uL];refine⟨λh=>?_,λh=>⟨(by simp),λd=>?_⟩⟩;(focus have g:j<i:=aL h;have f:j<L l:=(by omega);have e:=aV8 (t:=t) f;have w:=a6c (l:=l) (t:=t) (j:=j);have nx:∀(a b:Bool) (c:Int),c=((bkk l t (j+1):Nat):Int)->(b=U->aOE l i t (gd ns k))->tI (λs:Bool×Nat=>[iv<|bkk l t s.2,bv s.1,iv s.2]) (λs=>s.2<=i/\(s.1=U->aOE l i t (gd ns k))) [iv c,bv b,iv ((j+1:Nat):Int)]/\pM 2 i [iv c,bv b,iv ((j+1:Nat):Int)]<pM 2 i [iv<|bkk l t j,bv a,iv j]:=λa b c p h=>(by subst p;exact wN (enc:=λs:Bool×Nat=>[iv<|bkk l t s.2,bv s.1,iv s.2]) (s:=(a,j)) (s':=(b,j+1)) rfl rfl rfl g ⟨g,h⟩);(cases v<;>simp+contextual only[qz 89,ix,bh,u0,u1,rk,pz,↓uL,jA,jN,qz 87,uO,a7g,a5C]);(all_goals refine⟨dJ f,λd=>?_,λd=>?_⟩;all_goals rw[fX<|by omega]);simp_all;simp at d;rw[lD d] at e;rw[fX<|by omega];refine⟨dJ<|aL ‹_›,λ_=>dJ f,λ_ _=>dJ f,?_⟩;(cases m:Q ((bkk l t j:Int)=gd ns k)<;>cases q:Q ((gd l j).kind=3)<;>simp only[a7g,a5C,qE,xM,ru,bsm,fh,kN]);simp_all;simp_all;exact nx _ _ _ (by rw[e]) λo=>⟨j,g,d, .inr (by simpa using o),by simpa using m⟩;exact nx _ _ _ (by rw[e]) λo=>⟨j,g,d, .inl (by simpa using q),by simpa using m⟩;simp_all;simp at d;rw[lD d] at e;rw[fX<|by omega];simp_all);grind [gS,aL]);grind [ou,bT,bkb,bw]
def aSi:FT:=ER aXy
def bcg{l i t ns Lw K}:=axQ aSi aXy l i t ns Lw K (j:=by simp+contextual only[ij,Int.natCast_inj])
section
variable{Q:cC}{Y:ae}{xs:List AV}
def bd1:(∀r,isB r->Q r)=∀b,Q (bv b):=aPe ⟨λh b=>h _ ⟨b,rfl⟩,by rintro h r ⟨b,rfl⟩;exact h b⟩
def a65:(∀r,isI r->Q r)=∀x,Q (iv x):=aPe ⟨λh b=>h _ ⟨b,rfl⟩,by rintro h r ⟨b,rfl⟩;exact h b⟩
def bd4:(∀r,aQ1 r->Q r)=∀x y,Q (.t [iv x,iv y]):=aPe ⟨λh x b=>h _ ⟨x,b,rfl⟩,by rintro h r ⟨x,b,rfl⟩;exact h x b⟩
def bdO{v w:Value}:lo Y xs (.t [.s v, .s w])=True:=by simp[lo,uN,yv,wD]
def bcB{α:Type}[Nonempty α]{b:Bool}{f:α->AV}{K:cC}:gB b (λk=>∀x,k<|f x) K=∀x,K (gv b<|f x):=by(cases b);exact aPe ⟨λh x=>h,λh=>h<|Classical.choice ‹_›⟩;rfl
def bcD{α:Type}[Nonempty α]{b:Bool}{S:Prop}{f:α->AV}{K:cC}:gB b (λk=>S/\∀x,k<|f x) K=((b=U->S)/\∀x,K<|gv b<|f x):=by(cases b);exact aPe ⟨λh=>⟨(λh=>by cases h),λx=>h⟩,λh=>h.2<|Classical.choice ‹_›⟩;simp[gB,gv]
def bcC{b:Bool}{f:Bool->AV}{K:cC}:gB b (λk=>∀x,k<|f x) K=∀x,K (gv b<|f x):=bcB
def bcE{b:Bool}{S:Prop}{f:Bool->AV}{K:cC}:gB b (λk=>S/\∀x,k<|f x) K=((b=U->S)/\∀x,K<|gv b<|f x):=bcD
def rg:=ai @bcC<|@bcE
def rr:=ai @bd1<|ai @a65<|ai @bd4<|ai @bdO<|ai @AL<|ai @oJ<|ai @pG<|ai @bdJ<|@bd7
end
def a6n{a:Int}{p:Int->Prop}:(∃k,iv a=iv k/\p k)=p a:=(by simp)
def aRB{a b:ByteArray}:a6F .neq 0 [] (st a) (st b)=V (bv<|Q<|a≠b):=by have h:=@alq a b;simp only[a6F,zP,df,bE,AV.s.injEq,mV] at h;simp only[a6F,zP,df,h,decide_not]
def a7w:dO:=(311,aOT)::(294,aSe)::(262,aSf)::(232,aN3)::(241,aQE)::(304,aQD)::(270,aPO)::(271,aP9)::(296,aSh)::(318,aTZ)::(300,aOi)::(303,aOS)::(313,aT2)::(196,aQC)::(192,aRj)::(182,aUt)::(280,aQB)::(264,aUm)::(193,aSd)::(124,aSi)::apC
def aOh:eJ a7w:=sz (nH aXc) (sz (aYm aXa)<|sz (nH aXg)<|sz (nI aXk)<|sz (aN0 aXm)<|sz (aCb aXd)<|sz (aCb aWX)<|sz (aCb aW2)<|sz (aR6 aXp)<|sz (aR6 aWQ)<|sz (nI aW6)<|sz (nH aW5)<|sz (aR6 aWU<|λ_=>by simp only[Cs,aqG,aOW,Bool.and_self])<|sz (nH aWP)<|sz (aR6 aXf)<|sz (apN aXF)<|sz (nH aWO)<|sz (nH aXv)<|sz (apM aWN)<|sz (aM6 aXy)<|Rk)
def aOX:=ai @bbU<|ai @bbS<|ai @bbY<|ai @bb2<|ai @bb4<|ai @bbV<|ai @bbF<|ai @bbK<|ai @bb7<|ai @bby<|ai @bbO<|ai @bbN<|ai @bbC<|ai @bbx<|ai @bbX<|ai @bcm<|ai @bbw<|ai @bcd<|ai @bbv<|ai @bcg<|@fsR
section
attribute[local irreducible] aX
def a9j:=I5 8 []
def a1p a a1 s0 R:=(.mk _:NR a7w a9j Tryz.f295 [a,a1] [] s0 R).p
def bgR{a a1:AV}{R:cC}(h:H0 λs0=>a1p a a1 s0 R):Ct 295 [a,a1] R:=z0 a9j aOh Tryz.func295 h
def a9h:=I5 36 []
def aU1 a a1 b s0 R:=(.mk _:NR a7w a9h Tryz.f297 [a,a1,b] [] s0 R).p
def bgP{a a1 b:AV}{R:cC}(h:H0 λs0=>aU1 a a1 b s0 R):Ct 297 [a,a1,b] R:=z0 a9h aOh Tryz.func297 h
def a14 a a1 b c R:=(.mk _:NR a7w at1 Tryz.f261 [.u,a1,b] [a] c R).p
def bgZ{c0:List AV}{a1 b:AV}{R:cC}(l0:L c0=6)(h:H1 31 6 3 c0 λia c=>a14 ia a1 b c R):Ct 261 [.a c0,a1,b] R:=z1 at1 aOh Tryz.func261 l0 h
def a9B:=I5 15 [(3,([1,5],[0])),(6,([1],[0,5]))]
def a2z a a1 s0 R:=(.mk _:NR a7w a9B Tryz.f231 [a,a1] [] s0 R).p
def bg8{a a1:AV}{R:cC}(h:H0 λs0=>a2z a a1 s0 R):Ct 231 [a,a1] R:=z0 a9B aOh Tryz.func231 h
def a9P:=I5 18 [(3,([7],[2,3,6])),(10,([40],[2]))]
def a4h a b c R:=(.mk _:NR a7w a9P Tryz.f265 [.u, .u] [a,b] c R).p
def bho{c0:List AV}{b:List AV}{R:cC}(l0:L c0=6)(l1:L b=4)(h:H2 264 6 2 c0 251 4 3 b λia c d=>a4h ia c d R):Ct 265 [.a c0, .a b] R:=z2 a9P aOh Tryz.func265 l0 l1 h
def a0m a b R:=(.mk _:NR a7w a9j Tryz.f268 [.u] [a] b R).p
def bgz{c0:List AV}{R:cC}(l0:L c0=6)(h:H1 308 6 1 c0 λia b=>a0m ia b R):Ct 268 [.a c0] R:=z1 a9j aOh Tryz.func268 l0 h
def a85:=I5 26 [(20,([56],[3,7]))]
def a0s a a1 b c R:=(.mk _:NR a7w a85 Tryz.f314 [.u,a1,b] [a] c R).p
def bgD{c0:List AV}{a1 b:AV}{R:cC}(l0:L c0=2)(h:H1 196 2 3 c0 λia c=>a0s ia a1 b c R):Ct 314 [.a c0,a1,b] R:=z1 a85 aOh Tryz.func314 l0 h
def a89:=I5 33 [(4,([4,5,6,7,8],[0])),(7,([4,5,6,7],[0,8])),(15,([4,5,6,7],[0,8,9])),(17,([39],[0,4,5,6,7,8,9,36])),(19,([47],[0,4,5,6,7,8,9,36]))]
def a0E a s0 R:=(.mk _:NR a7w a89 Tryz.f237 [a] [] s0 R).p
def bgH{a:AV}{R:cC}(h:H0 λs0=>a0E a s0 R):Ct 237 [a] R:=z0 a89 aOh Tryz.func237 h
def a9d:=I5 29 [(3,([4],[1])),(12,([6],[1])),(21,([8],[1,6,7]))]
def a0T a b R:=(.mk _:NR a7w a9d Tryz.f238 [.u] [a] b R).p
def bgL{c0:List AV}{R:cC}(l0:L c0=2)(h:H1 196 2 1 c0 λia b=>a0T ia b R):Ct 238 [.a c0] R:=z1 a9d aOh Tryz.func238 l0 h
def a8H:=I5 9 [(4,([3,4],[0]))]
def aYP a s0 R:=(.mk _:NR a7w a8H Tryz.f60 [a] [] s0 R).p
def bgd{a:AV}{R:cC}(h:H0 λs0=>aYP a s0 R):Ct 60 [a] R:=z0 a8H aOh Tryz.func60 h
def aZh b a c R:=(.mk _:NR a7w at1 Tryz.f195 [b, .u] [a] c R).p
def bgi{c:AV}{b:List AV}{R:cC}(l1:L b=4)(h:H1 272 4 3 b λia d=>aZh c ia d R):Ct 195 [c, .a b] R:=z1 at1 aOh Tryz.func195 l1 h
def aZj c a b d R:=(.mk _:NR a7w at1 Tryz.f279 [c, .u, .u] [a,b] d R).p
def bgj{d:AV}{b:List AV}{c:List AV}{R:cC}(l1:L b=4)(f:L c=4)(h:H2 272 4 4 b 272 4 5 c λia e g=>aZj d ia e g R):Ct 279 [d, .a b, .a c] R:=z2 at1 aOh Tryz.func279 l1 f h
def a94:=I5 11 [(4,([3,10],[8,9])),(7,([3],[8,9,10]))]
def a5v a b R:=(.mk _:NR a7w a94 Tryz.f229 [.u] [a] b R).p
def bhE{c0:List AV}{R:cC}(l0:L c0=7)(h:H1 40 7 1 c0 λia b=>a5v ia b R):Ct 229 [.a c0] R:=z1 a94 aOh Tryz.func229 l0 h
end
def aUw{a b:AV}:mL (bv U) a b=V a:=rfl
def a7c{a b:AV}:mL (bv I) a b=V b:=rfl
def aXX{P:Int->Prop}{Q:cC}:(∀r,(∃k:Int,r=iv k/\P k)->Q r)=∀k,P k->Q (iv k):=(by grind)
def bd8{a b c d e f g h i j k:AV}:aN (V 11) [a,b,c,d,e,f,g,h,i,j,k]=V (.a [a,b,c,d,e,f,g,h,i,j,k]):=rfl
def rkx{s:aoC}:aN (V 3) (aoC.c s)=V (.a<|aoC.c s):=rfl
def aXb(o a:Int):Ct 295 [iv o,iv a] (λr=>aWE r):=by refine bgR λs0 c b=>?_;simp+contextual only[a1p,u0,u1,aEn,aOX,ar,a6D,QV,aNK,aOe,↓uL]
def aUb:FT:=aRd aXb
def bbT{o a Lw K}:=f201 aUb aXb o a Lw K
def aW9(o a b:Int):Ct 297 [iv o,iv a,iv b] (λr=>aWE r):=by refine bgP λs0 d c=>?_;simp+contextual only[aU1,u0,u1,aPR,a5N,aP1,aOX,ar,a6D,QV,aNK,aOe,↓uL,aU1,aNU,apT,I8,brR,not_false_iff]
def aUa:FT:=aSb aW9
def bbR{o a b Lw K}:=f301 aUa aW9 o a b Lw K
def aXj(w:J9)(b n:Int):Ct 261 [.a w.c,iv b,iv n] (λr=>isB r):=by refine bgZ rfl λg f d e=>?_;simp+contextual only[a14,u0,u1,d,ix,rk,ar,aOX,aj,DR,aNP,↓uL];grind [dX]
def aSg:FT:=aSb aXj
def bb1{w b n Lw K}:=f301 aSg aXj w b n Lw K
def aXl(l:List aNZ)(a:Int)(n:L l<1000000):Ct 231 [sl aNZ.c l,iv a] (λr=>isB r):=by refine bg8 λs0 m i=>?_;simp only[a2z];have nx:∀(a b:Int) (k:Nat),k<L l+1->tI (λs:Int×Nat=>[iv s.1,iv s.2]) (λs=>s.2<=L l+1) [iv b,iv ((k+1:Nat):Int)]/\pM 1 (L l+1) [iv b,iv ((k+1:Nat):Int)]<pM 1 (L l+1) [iv a,iv k]:=λa b k e=>wN (enc:=λs:Int×Nat=>[iv s.1,iv s.2]) (s:=(a,k)) (s':=(b,k+1)) rfl rfl rfl e e;refine yh (λs:Int×Nat=>[iv s.1,iv s.2]) 1 (L l+1) (λs=>s.2<=L l+1) (a,0) (by simp) ?_;rintro⟨f,k⟩ e;simp+contextual only[qz 39,qz 41,qz 19,a7i,aI,au,u0,u1,ixv,rk,pz,ar,aOX,aNP,aNK,aNU,rr,↓uL];intro j h;have g:k<L l+1:=(by grind);have d:aF (L l) f:=(by simp at h;exact⟨by omega,by omega⟩);rw[fX<|by omega];exact⟨d,λ_=>⟨d,λ_=>⟨d,nx _ _ _ g⟩,λ_=>nx _ _ _ g⟩⟩
def aUe:FT:=pn aXl
def bb3{l a Lw K}:=f211 aUe aXl l a Lw K (j:=by simp+contextual only[ij,ijv])
def a8e(i:aNZ)(s:aNQ):Prop:=i.op=7\/i.op=9->aF (L s.H7) i.k
def aXw(i:aNZ)(s:aNQ)(b:a8e i s):Ct 265 [.a i.c, .a s.c] (λr=>isI r):=by refine bho rfl rfl λj g d e f=>?_;simp+contextual only[qz 63,qz 65,qz 21,qz 23,a4h,a7i,aI,au,u0,u1,d,e,ix,rk,pz,ar,aOX,aj,aPG,aNK,aOe,aNU,rr,↓uL];simp only[I8,apT,sr,aO5,aNK,vp];exactλ_ _=>⟨λh=>b<|.inl h,λ_ h=>b<|.inr h⟩
def aUn:FT:=pn aXw
def bce{i s Lw K}:=f211 aUn aXw i s Lw K (j:=by simp+contextual only[ij,ijv])
def aWV(d:w6):Ct 268 [.a d.c] (λr=>isB r):=by refine bgz rfl λg f b e=>?_;simp+contextual only[a0m,u0,u1,b,pz,ar,aOX,aj,aRB,aNP,aNK,aOe,↓uL]
def aT3:FT:=aP7 aWV
def bbD{d Lw K}:=aRM aT3 aWV d Lw K (j:=by simp+contextual only[ij,ijv])
def slc{Y:ae}{K:cC}{i:Int}{l:List ByteArray}:rV (fo 1 Y (sl cs l) J (V<|iv i) J) K=((0<=i/\i<=L l)/\K (sl cs<|l.take i.toNat)):=aIk λ_=>rfl
def aWZ(p:aQl)(t:Int)(s:ByteArray)(e:PrB p):Ct 314 [.a p.c,iv t,st s] (λr=>∃k,r=iv k/\(k=5->0<=aOB p.bm0 s)):=by obtain⟨g,j,l⟩:=e;refine bgD rfl λq o b f=>?_;have d:=aTb (p:=λi=>Q<|(gd p.bm0 i).name=s) (n:=L p.bm0);have m:∀t:Int,L (gd p.ay t.toNat).locs<4611686018427387904:=λt=>(by by_cases h:t.toNat<L p.ay;grind [ve];rw[gd,List.getD_eq_getElem?_getD,List.getElem?_eq_none<|by omega];decide);rw[<-aOB] at d;simp+contextual only[qz 123,qz 125,a0s,a7i,aI,au,u0,u1,b,ixv,rk,pz,ar,aOX,aj,a6n,↓uL];simp only[aF];(try simp only[I8,apT,bN,bik,aNS,brR]);grind
def aT5:FT:=vn aWZ
def bbH{p t s Lw K}:=f311 aT5 aWZ p t s Lw K (j:=by simp+contextual only[ij,ijv])
def aW3(l:List w6)(N:L l<1000):Ct 237 [sl w6.c l] (λr=>aQ1 r):=by
 refine bgH λs0 E G=>?_
 simp only[a0E]
 refine jD (α:=Int×Int×Int×Int) (λs i=>[iv s.1,iv s.2.1,iv s.2.2.1,iv s.2.2.2,iv i]) 4 (L l) (λ_ _ Y=>L Y=4096) (s0:=(0,0,0,0)) E ?_
 rintro k ⟨a,b,c,d⟩ Y M e
 have nx:∀(x y z u:Int) Y',L Y'=4096->k<L l->yI (λ(s:Int×Int×Int×Int) i=>[iv s.1,iv s.2.1,iv s.2.2.1,iv s.2.2.2,iv i]) (L l) (λ_ _ Y=>L Y=4096) [iv x,iv y,iv z,iv u,iv<|dq.wrap<|(k:Int)+1] Y'/\gM 4 (L l) [iv x,iv y,iv z,iv u,iv<|dq.wrap<|(k:Int)+1] Y'<gM 4 (L l) [iv a,iv b,iv c,iv d,iv k] Y:=λx y z u Y' m g=>
  dR (mk:=λ(s:Int×Int×Int×Int) i=>[iv s.1,iv s.2.1,iv s.2.2.1,iv s.2.2.2,iv i]) (s:=(a,b,c,d)) (s':=(x,y,z,u)) (λ_ _=>rfl) g (by omega) m
 have t:∀{Y:ae} {K:cC} {i:Int},rV (fo 6 Y (sl w6.c l) J (V<|iv i) J) K=((0<=i/\i<=L l)/\K (sl w6.c<|l.take i.toNat)):=aIk λ_=>rfl
 simp only[qz 25,aI,au,u0,u1,aO2,rr,aNK,aNU,qz 47,qy 2,ixv,bh,pz,rr,↓uL]
 intro h
 have f:=aL h
 refine⟨dJ f,anu e λv A w F B=>?_⟩
 have o:L A=4096:=w.len.trans e
 have j:(0:Int)<=k/\(k:Int)<=L l:=(by omega)
 have D:=aTb (p:=λi=>Q<|(gd (l.take k) i).name=(gd l k).on) (n:=L<|l.take k)
 have q:L (l.take k)<4611686018427387904:=by simp;omega
 have C:Q (aOB (l.take k) (gd l k).on<0)=I->aF (L l) (aOB (l.take k) (gd l k).on):=λh=>by
  simp only[apT] at h
  have H:L (l.take k)<=L l:=by simp only[gC];omega
  exact⟨by omega,by have:=D.2;rw[aOB];omega⟩
 simp+contextual only[qz 4,t,bh,u0,u1,B,rk,pz,aj,ar,aOX,rr,aO2,aNK,aNU,qz 45,qz 93,qz 117,qz 119,qz 105,qz 107,qz 95,qz 4,j,ixv,C,nx,f,o,q,aRW,aOe,↓uL]
def aT7:FT:=om aW3
def bbL{l Lw K}:=aUy aT7 aW3 l Lw K (j:=by simp+contextual only[ij,ijv])
def aW7(p:aQl)(B:PrB p):Ct 238 [.a p.c] (λr=>aQ1 r):=by refine bgL rfl λm t o D=>?_;obtain⟨E,G,y⟩:=B;simp only[a0T];have w:∀{Y:ae} {K:cC} {i:Int},rV (fo 4 Y (sl aO6.c p.ay) J (V<|iv i) J) K=((0<=i/\i<=L p.ay)/\K (sl aO6.c<|p.ay.take i.toNat)):=aIk λ_=>rfl;refine yV (L p.ay) (λ_ _ Y=>Fx m Y []) (Fx.refl _ _) ?_;rintro k _ Y A F;have e:=F.kq o;have f:L Y=4096:=F.len.trans t;simp only[qz 19,qy 4,aI,au,u0,u1,e,rk,pz,aj,ixv,bh,↓uL];refine⟨λh=>⟨u7 h,anu f λv n d x g=>?_⟩,λh=>?_⟩;have b:=aL h;have l:=d.kq e;have q:(0:Int)<=k/\(k:Int)<=L p.ay:=(by omega);have u:L (p.ay.take k)<4611686018427387904:=(by simp;omega);have nx:=dR (mk:=λ(_:Unit) i=>[iv i]) (p:=0) (s:=()) (s':=()) (Inv:=λ_ _ Y=>Fx m Y []) (Y:=Y) (Y':=n) (λ_ _=>rfl) b (by omega)<|F.trans d;simp+contextual only[qz 6,w,bh,u0,u1,l,g,pz,aj,ar,aOX,rr,aO2,aNK,aNU,q,u,nx,↓uL];omega;refine yV (L p.ay) (λ_ _ Y=>Fx m Y []) F ?_;rintro k _ Y A F;have e:=F.kq o;have f:L Y=4096:=F.len.trans t;simp only[qz 73,qy 8,aI,au,u0,u1,e,rk,pz,aj,ixv,bh,rr,aO2,aNK,aNU,↓uL];refineλh=>⟨u7 h,anu f λv n d x g=>?_⟩;have b:=aL h;have l:=d.kq e;simp+contextual only[qz 10,u0,u1,g,pz,aj,rr,aO2,aNK,vp,↓uL];intro H;have C:=y _<|ve b;refine bhZ (L (gd p.ay k).locs) (λ_=>True) trivial λj M _=>?_;simp+contextual only[qz 127,aI,au,u0,u1,l,g,rk,pz,aj,ix,bh,ar,aOX,rr,aO2,aNK,slc,↓uL];refine⟨λz=>?_,λz=>dR (mk:=λ(_:Unit) i=>[iv i]) (s:=()) (s':=()) (λ_ _=>rfl) b (by omega)<|F.trans d⟩;grind [aL,dJ,gS]
def aT9:FT:=om aW7
def bbP{p Lw K}:=aUy aT9 aW7 p Lw K (j:=by simp+contextual only[ij,ijv])
def cu(x:Int):List AV:=[.s<|.int .u8 x]
def a6E{Y:ae}{K:cC}{i:Int}{l:List Int}:rV (cz 1 Y (sl cu l)<|iv i) K=(aF (L l) i/\K (.q<|cu<|gd l i.toNat)):=aBz λ_=>rfl
theorem bcP{x y:Int}:(cu x=cu y)=(x=y):=by simp[cu]
def aQZ{l l':List Int}:(sl cu l=sl cu l')=(l=l'):=(by grind [kL,bcP])
def aWH(l:List Int)(t:L l<1000):Ct 60 [sl cu l] (λr=>∃cs:List TCh,r=sl TCh.c cs/\L cs=L l):=by refine aDq (bgd λs0 n o=>?_);simp only[aYP];refine jD (α:=AV) (λa i=>[a,iv i]) 1 (L l) (λk a Y=>L Y=4096/\∃cs:List TCh,L cs=k/\bc Y 170 2 a (cs.map TCh.c)) (s0:= .l [] U U) ⟨n,[],rfl,bc.nil⟩ ?_;rintro k a Y q ⟨b,cs,m,d⟩;simp+contextual only[qz 25,qy 2,aI,au,u0,u1,a6E,bh,cu,qM,aS6,aPR,a5N,aP1,↓uL];refine⟨λh=>⟨u7 h,by decide,u7 h,by decide,by decide,?_⟩,λh=>?_⟩;generalize(dq.wrap<|gd l k).tmod 4=x;generalize dq.wrap ((dq.wrap<|(dq.wrap<|gd l k).tdiv 4).tmod 5-1)=y;have e:bM buY brF [(0,iv x),(1,iv y)]=V (.a<|TCh.c ⟨x,y⟩):=rfl;have f:aX buT 1 Y [(0, .a<|TCh.c ⟨x,y⟩)]=V (.l ([(⟨x,y⟩:TCh)].map TCh.c) U U,Y):=ua rfl rfl rfl (by decide) rfl (by decide);simp only[e,f,aY,bQ];refine apQ d.p b (by grind [TCh.c]) (by grind [TCh.c]) (by simp) (by simp;omega) λj Y' g F N=>?_;refine dT (by first|rfl|(simp[eL,okT,tok,lb,cq,Qh,m8,dC,pP,dK];done)) ?_;simp only[u0,u1,↓uL];refine dR (mk:=λa i=>[a,iv i]) (s:=a) (s':=j) (λ_ _=>rfl) (aL h) (by omega) ⟨F.len.trans b,cs++[⟨x,y⟩],by simp[m],by simp_all⟩;exact aOv (Q:=λr=>∃cs:List TCh,r=sl TCh.c cs/\L cs=L l) (aWs d.p) (by simp[iX,eN]) ⟨cs,rfl,by grind⟩
def aTT:FT:=om aWH
def bbp{l Lw K}:=aUy aTT aWH l Lw K (j:=by simp+contextual only[ij,aQZ])
def aWL(s:ByteArray)(e:kW):Ct 195 [st s, .a e.c] (·= .a (NA.mk 1 0 s ⟨#[]⟩ [] e [] []).c):=by refine aDq (bgi aN9 λp j f o=>?_);simp only[aZh];refine I4 j λv q d m g=>?_;have i:=d.kq f;have b:bM brG alz [(0,iv 1),(2,st s),(5, .a e.c)]=V (.a [iv 1,iv 0,st s,sv [], .l [] U U,iv e.op,iv e.n,st e.name,sl kW.c e.l, .l [] U U, .l [] U U]):=(by rw[aoH];rfl);simp only[qz 4,qy 6,u0,u1,i,pz,b,↓uL];refine stW g rfl rfl λr k h=>?_;simp only[u0,u1,h,bd8,↓uL];exact aQ7 (by rw[a6X];rfl) (by rw[a6X];rfl)
def aPN:FT:=lI aWL
def bbt{s e Lw K}:=f200 aPN aWL s e Lw K (j:=by simp+contextual only[ij,ijv])
def aWM(o:Int)(a b:kW):Ct 279 [iv o, .a a.c, .a b.c] (·= .a (kW.mk o 0 ⟨#[]⟩ [a,b]).c):=by refine aDq (bgj aN9 aN9 λt p h i s=>?_);simp only[aZj];refine I4 p λv g d r j=>?_;have m:=d.kq h;have n:=d.kq i;have f:aX bts 2 g [(0, .a a.c),(1, .a b.c)]=V (.l [a.c,b.c] U U,g):=(by rw[aoH (x:=a),aoH (x:=b)];kernel_rfl);simp only[qz 6,u0,u1,m,n,pz,f,↓uL];have e:bM bth bmK [(0,iv o),(3, .l [a.c,b.c] U U)]=V (.a [iv o,iv 0,sv [], .l [a.c,b.c] U U]):=rfl;simp only[qz 8,qy 10,e,aY,↓uL];refine stW j rfl rfl λu q k=>?_;simp only[u0,u1,k,uS,↓uL];exact aQ7 (by rw[aoH (x:= .mk o 0 ⟨#[]⟩ [a,b])];rfl) (by rw[aoH (x:= .mk o 0 ⟨#[]⟩ [a,b])];rfl)
def aRg:FT:=za aWM
def bbu{o a b Lw K}:=f300 aRg aWM o a b Lw K (j:=by simp+contextual only[ij,ijv])
def aXG(s:sA)(E:L s.bW.ay<1000):Ct 229 [.a s.c] (λr=>∃l:List Int,r=sl ci l/\L l<=L s.bW.ay):=by refine aDq (bhE rfl λj x t B=>?_);simp only[a5v,u0,u1,t,rk,aj,↓uL];refine jD (α:=AV) (λa i=>[a,iv i]) 1 (L s.bW.ay) (λk a Y=>Fx j Y []/\∃l:List Int,L l<=k/\bc Y 3 1 a (l.map ci)/\∀q∈aA a,bK j q) (s0:= .l [] U U) ⟨Fx.refl _ _,[],by simp,bc.nil,by simp[aA]⟩ ?_;rintro k a Y D ⟨F,l,C,f,w⟩;have d:L Y=4096:=F.len.trans x;simp only[qz 25,aI,au,u0,u1,qz 47,qy 4,ix,bh,rkx,rr,↓uL];refine⟨λh=>⟨u7 h,anu d λv n b A u=>?_⟩,λh=>?_⟩;have e:=aL h;have y:L n=4096:=b.len.trans d;simp+contextual only[qz 6,qy 8,qy 10,u0,u1,u,rk,aj,a5Y,qz 45,↓uL];refine⟨λ_=>?_,λ_=>dR (mk:=λa i=>[a,iv i]) (s:=a) (s':=a) (λ_ _=>rfl) e (by omega) ⟨F.trans b,l,by omega,f.fx b (by simp),w⟩⟩;refine qs (f.fx b<|by simp).p rfl (by decide) (by omega) pU pU (by simp) (by simp;omega) λo Y' g m z=>?_;refine dR (mk:=λa i=>[a,iv i]) (s:=a) (s':=o) (λ_ _=>rfl) e (by omega) ⟨((F.trans b).trans m).mono λq G=> .inr ?_,l++[(k:Int)],by simp;omega,by simp_all,by grind [bK.old]⟩;grind [bK.no];exact aOv (Q:=λr=>∃l:List Int,r=sl ci l/\L l<=L s.bW.ay) (aWs f.p) (by simp[iX,eN]) ⟨l,rfl,by omega⟩
def aSk:FT:=om aXG
def bcn{s Lw K}:=aUy aSk aXG s Lw K
def a7x:dO:=(295,aUb)::(297,aUa)::(261,aSg)::(231,aUe)::(265,aUn)::(268,aT3)::(314,aT5)::(237,aT7)::(238,aT9)::(60,aTT)::(195,aPN)::(279,aRg)::(229,aSk)::a7w
def aNH:eJ a7x:=sz (aYm aXb) (sz (a7W aW9)<|sz (a7W aXj)<|sz (aN0 aXl)<|sz (aN0 aXw)<|sz (aR6 aWV)<|sz (By aWZ)<|sz (rj aW3)<|sz (rj aW7)<|sz (rj aWH)<|sz (nI aWL<|λ_ _=>by simp only[Cs,aqG,aOW,Bool.and_self])<|sz (Rs aWM<|λ_ _ _=>by simp only[Cs,aqG,aOW,Bool.and_self])<|sz (rj aXG)<|aOh)
def aD6:=ai @bbT<|ai @bbR<|ai @bb1<|ai @bb3<|ai @bce<|ai @bbD<|ai @bbH<|ai @bbL<|ai @bbP<|ai @bbp<|ai @bbt<|ai @bbu<|ai @bcn<|@aOX
section
attribute[local irreducible] aX
def a1l a a1 b c d e R:=(.mk _:NR a7x a8V Tryz.f301 [.u,a1,b,c,d] [a] e R).p
def bgO{c0:List AV}{a1 b c d:AV}{R:cC}(l0:L c0=2)(h:H1 196 2 5 c0 λia e=>a1l ia a1 b c d e R):Ct 301 [.a c0,a1,b,c,d] R:=z1 a8V aNH Tryz.func301 l0 h
def a86:=I5 10 [(4,([4,5,6],[1]))]
def a0v a b R:=(.mk _:NR a7x a86 Tryz.f315 [.u] [a] b R).p
def bgE{c0:List AV}{R:cC}(l0:L c0=4)(h:H1 272 4 1 c0 λia b=>a0v ia b R):Ct 315 [.a c0] R:=z1 a86 aNH Tryz.func315 l0 h
def a0n a s0 R:=(.mk _:NR a7x a8H Tryz.f239 [a] [] s0 R).p
def bgA{a:AV}{R:cC}(h:H0 λs0=>a0n a s0 R):Ct 239 [a] R:=z0 a8H aNH Tryz.func239 h
def a8X:=I5 14 [(7,([4],[1]))]
def aSt a b R:=(.mk _:NR a7x a8X Tryz.f312 [.u] [a] b R).p
def bgv{c0:List AV}{R:cC}(l0:L c0=4)(h:H1 272 4 1 c0 λia b=>aSt ia b R):Ct 312 [.a c0] R:=z1 a8X aNH Tryz.func312 l0 h
def a9D:=I5 35 [(11,([59],[2,3,6])),(14,([78],[2,3,6])),(19,([98],[2,3,6])),(23,([108],[2,3,6]))]
def a2F b a c R:=(.mk _:NR a7x a9D Tryz.f230 [.u, .u] [b,a] c R).p
def bha{c0:List AV}{b:List AV}{R:cC}(l0:L c0=6)(l1:L b=6)(h:H2 31 6 2 c0 264 6 3 b λia c d=>a2F ia c d R):Ct 230 [.a c0, .a b] R:=z2 a9D aNH Tryz.func230 l0 l1 h
end
def aW8(p:aQl)(t:Int)(s:ByteArray)(a b:Int)(e:PrB p):Ct 301 [.a p.c,iv t,st s,iv a,iv b] (λr=>∃k,r=iv k/\(k=0->a=5->b=5->0<=aOB p.bm0 s)):=by refine bgO rfl λh g d f=>?_;simp+contextual only[a1l,u0,u1,d,pz,ar,Fa,aD6,e,aXX,a6n,↓uL];grind
def aOd:FT:=aTQ aW8
def bbQ{p t s a b Lw K}:=bbn aOd aW8 p t s a b Lw K (j:=by simp+contextual only[ij,ijv])
def aW0(e:kW)(f:∃n,shE n e):Ct 315 [.a e.c] (λr=>aQ1 r):=by obtain⟨n,f⟩:=f;induction n generalizing e with|zero=>exact f.elim|succ n j=>have i:=f.len;refine bgE aN9 λp o g m=>?_;simp only[a0v];refine yh (λs:Int×Int×Nat=>[iv s.1,iv s.2.1,iv s.2.2]) 2 (L e.l) (λ_=>True) (1,0,0) trivial ?_;rintro⟨a,b,k⟩ _;simp only[qz 25,aI,au,u0,u1,g,pz,aj,ixv,bh,rr,jM,kU,jt,Fa,aO2,aNK,aNU,↓uL];intro h;have d:=aL h;refine⟨dJ d,aPW (j _<|f.2 _<|ve d) (aV2 a6h) ?_⟩;rintro r ⟨x,y,rfl⟩;simp only[u0,u1,rr,aRW,vp];exact wN (enc:=λs:Int×Int×Nat=>[iv s.1,iv s.2.1,iv s.2.2]) (s:=(a,b,k)) (s':=(_,_,k+1)) (by rw[fX<|by omega]) rfl rfl d trivial
def aT6:FT:=om aW0
def bbI{e Lw K}:=aUy aT6 aW0 e Lw K (j:=by simp+contextual only[ij,ijv])
def aWW(l:List NA)(d:∃n,shL n 8 l):Ct 239 [sl NA.c l] (λr=>isI r):=by obtain⟨n,d⟩:=d;induction n using Nat.strongRecOn generalizing l with|ind n f=>obtain⟨j,g⟩:=d;refine bgA λs0 o i=>?_;simp only[a0n,u0,u1,↓uL];refine yh (λs:Int×Nat=>[iv s.1,iv s.2]) 1 (L l) (λ_=>True) (L l,0) trivial ?_;rintro⟨a,k⟩ _;simp only[qz 25,aI,au,u0,u1,ixv,rr,pz,bh,jM,kU,jt,alg,aPG,aNK,aNU,↓uL];intro h;have b:=aL h;obtain⟨m,rfl,g1,e⟩:=(g _<|ve b).body;refine⟨dJ b,aPW (f m (by omega) _ ⟨by have:=g1.1;omega,g1.2⟩) rfl ?_⟩;rintro r ⟨x,rfl⟩;simp only[u0,u1,AL,vp];refine⟨dJ b,aPW (f m (by omega) _ ⟨by have:=e.1;omega,e.2⟩) rfl ?_⟩;rintro r ⟨y,rfl⟩;simp only[u0,u1,AL,vp];exact wN (enc:=λs:Int×Nat=>[iv s.1,iv s.2]) (s:=(a,k)) (s':=(_,k+1)) (by rw[fX<|by omega]) rfl rfl b trivial
def aT4:FT:=om aWW
def bbE{l Lw K}:=aUy aT4 aWW l Lw K (j:=by simp+contextual only[ij,ijv])
def aWS(e:kW)(f:∃n,shE n e):Ct 312 [.a e.c] (λr=>isB r):=by obtain⟨n,f⟩:=f;induction n generalizing e with|zero=>exact f.elim|succ n p=>have o:=f.len;refine bgv aN9 λu t g q=>?_;simp only[aSt,↓uL];generalize m:@qp _ 43 ⟨_⟩=Lw;have d:lR [iv 0] Lw:=(by rw[<-m];refine bhZ (L e.l) (λ_=>True) trivial λk s _=>?_;simp only[qz 43,aI,au,u0,u1,g,pz,aj,ixv,bh,rr,jM,kU,jt,Fa,aNP,aNK,aNU,↓uL];intro h;have i:=aL h;refine⟨dJ i,aPW (p _<|f.2 _<|ve i) (aV2 a6h) ?_⟩;rintro r ⟨x,rfl⟩;simp only[u0,u1,AL,vp,aNK];grind [gS]);have b:e.op=2\/e.op=3\/(e.op≠2/\e.op≠3):=(by omega);rcases b with b|b|⟨j,b⟩;simp+contextual only[u0,u1,g,pz,ar,aD6,aj,rr,aRB,aNP,aNK,b,bpF,d,aUw,Bool.and_self,↓jN,↓uL];simp+contextual only[u0,u1,g,pz,ar,aD6,aj,rr,aRB,aNP,aNK,b,bpF,bqF,Bool.or_true,d,Int.reduceEq,aUw,Bool.and_self,↓jA,↓uL];simp+contextual only[u0,u1,g,pz,ar,aD6,aj,rr,aRB,aNP,aNK,j,b,bqF,d,a7c,Bool.and_self,↓jA,↓jN,↓uL]
def aRh:FT:=om aWS
def bbA{e Lw K}:=aUy aRh aWS e Lw K (j:=by simp+contextual only[ij,ijv])
def aXn(w:J9)(i:aNZ):Ct 230 [.a w.c, .a i.c] (λr=>isB r):=by refine bha rfl rfl λg f b d e=>?_;simp+contextual (maxSteps:=2000000) only[qz 141,qz 143,qz 117,qz 119,qz 87,qz 89,qz 69,qz 71,a2F,a7i,au,u0,u1,b,d,ix,rk,pz,ar,aD6,aj,rr,aNP,DR,aNK,aOe,↓uL];(try simp only[I8,apT,bN,bik,aNS,brR]);(repeat' (first|apply ai|intro _));all_goals first|omega|trivial
def aUf:FT:=aRd aXn
def bb5{w i Lw K}:=f201 aUf aXn w i Lw K (j:=by simp+contextual only[ij,ijv])
def a7y:dO:=(301,aOd)::(315,aT6)::(239,aT4)::(312,aRh)::(230,aUf)::a7x
def aR1:eJ a7y:=sz (bhJ aW8) (sz (rj aW0<|λ_=>by simp only[Cs,aqG,aOW,Bool.and_self])<|sz (rj aWW<|λ_=>by simp only[Cs,aqG,aOW,Bool.and_self])<|sz (rj aWS<|λ_=>by simp only[Cs,aqG,aOW,Bool.and_self])<|sz (aYm aXn)<|aNH)
def aRO:=ai @bbQ<|ai @bbI<|ai @bbE<|ai @bbA<|ai @bb5<|@aD6
section
attribute[local irreducible] aX
def a9a:=I5 13 [(2,([7],[1,3,5])),(8,([7,8],[1,3,5]))]
def a0O b a1 a c R:=(.mk _:NR a7y a9a Tryz.f316 [.u,a1, .u] [b,a] c R).p
def bgI{c0:List AV}{a1:AV}{b:List AV}{R:cC}(l0:L c0=2)(d:L b=4)(h:H2 196 2 3 c0 272 4 5 b λia c e=>a0O ia a1 c e R):Ct 316 [.a c0,a1, .a b] R:=z2 a9a aR1 Tryz.func316 l0 d h
def a8Y:=I5 23 []
def aUS a b R:=(.mk _:NR a7y a8Y Tryz.f298 [.u] [a] b R).p
def bgw{c0:List AV}{R:cC}(l0:L c0=11)(h:H1 274 11 1 c0 λia b=>aUS ia b R):Ct 298 [.a c0] R:=z1 a8Y aR1 Tryz.func298 l0 h
def a8Z:=I5 10 [(3,([3],[0]))]
def a0g a s0 R:=(.mk _:NR a7y a8Z Tryz.f269 [a] [] s0 R).p
def bgx{a:AV}{R:cC}(h:H0 λs0=>a0g a s0 R):Ct 269 [a] R:=z0 a8Z aR1 Tryz.func269 h
def a9F:=I5 30 [(7,([8],[1,3,5,7])),(23,([11],[1,3,5,7,8,10]))]
def a2R b a1 a c R:=(.mk _:NR a7y a9F Tryz.f186 [.u,a1, .u] [b,a] c R).p
def bhb{c0:List AV}{a1:AV}{b:List AV}{R:cC}(l0:L c0=6)(d:L b=2)(h:H2 31 6 3 c0 247 2 5 b λia c e=>a2R ia a1 c e R):Ct 186 [.a c0,a1, .a b] R:=z2 a9F aR1 Tryz.func186 l0 d h
end
def aW4(p:aQl)(t:Int)(e:kW)(d:PrB p/\∃n,shE n e):Ct 316 [.a p.c,iv t, .a e.c] (λr=>isI r):=by obtain⟨j,n,d⟩:=d;induction n generalizing e with|zero=>exact d.elim|succ n q=>have o:=d.len;refine bgI rfl aN9 λw v g i u=>?_;simp only[a0O,↓uL];generalize m:@qp _ 49 ⟨_⟩=Lw;have f:∀x:Int,lR [iv x,iv 0] Lw:=(by intro x;rw[<-m];refine yh (λs:Int×Nat=>[iv s.1,iv s.2]) 1 (L e.l) (λ_=>True) (x,0) trivial ?_;rintro⟨a,k⟩ _;simp+contextual only[qz 49,aI,au,u0,u1,g,i,pz,aj,ixv,bh,rr,jM,kU,jt,Fa,aPG,tW,aNK,aNU,↓uL];intro h;have b:k<L e.l:=(by simp_all);refine⟨dJ b,aPW (q _<|d.2 _<|ve b) (by simp only[Cs,aqG,aOW,Bool.and_self]) ?_⟩;rintro r ⟨y,rfl⟩;simp only[AL,vp];exact wN (enc:=λs:Int×Nat=>[iv s.1,iv s.2]) (s:=(a,k)) (s':=(y,k+1)) (by grind [fX]) rfl rfl b trivial);simp+contextual only[a7i,qz 17,qz 15,aI,au,u0,u1,g,i,pz,aj,aRO,j,aXX,AL,ar,Fa,f,aNK,aOe,↓uL]
def aT8:FT:=vn aW4
def bbM{p t e Lw K}:=f311 aT8 aW4 p t e Lw K (j:=by simp+contextual only[ij,ijv])
def aX1(n:Nat)(h:∀s,shS n s->Ct 298 [.a s.c] isB)(l:List NA)(i:L l<=8)(hs:∀s∈l,shS n s):Ct 269 [sl NA.c l] isB:=by refine bgx λs0 e f=>?_;simp only[a0g];refine bhZ (L l) (λ_=>True) trivial λk g _=>?_;simp only[qz 19,aI,au,u0,u1,ixv,bh,rr,pz,jM,kU,jt,Fa,aNP,aNK,aNU,↓uL];intro d;have b:=aL d;refine⟨dJ b,aPW (h _<|hs _<|ve b) (aV2 aS7) ?_⟩;rintro r ⟨x,rfl⟩;simp only[u0,u1,AL,vp,aNK];grind [gS]
set_option maxHeartbeats 8000000 in
def a7f:∀(n:Nat) (s:NA),shS n s->Ct 298 [.a s.c] isB:=by intro n;induction n with|zero=>intro s h;exact h.elim|succ n o=>intro s l;have A:=l.at;obtain⟨m,C,g1,q⟩:=l.body;obtain rfl:n=m:=(by omega);refine bgw bit λd B f z=>?_;have hI:Q ((L s.index:Int)=1)=U->∃n,shE n (gd s.index 0):=(by grind [ve]);have u:s.op=1\/s.op=2\/s.op=3\/s.op=14->∃n,shE n s.expr:=(by grind);have k:fW (cX 269) [sl NA.c s.body] (lo d [sl NA.c s.body]) (λb=>gR (gP U b) (λg=>g<|AV.p (1,1) 0 10) λt=>gR (gP U b) (λg=>rV (vl J d t) λv=>g v) λe=>gR (gP U b) (λg=>fW (cX 269) [dG d e] (lo d [e]) λv=>g v) λi=>rV (mL b i<|bv I) λj=>aE isB d [j]):=(by refine aPW (aX1 n o _ (by omega) g1.2) rfl ?_;rintro r ⟨x,rfl⟩;(cases x);simp only[u0,AL,a7c,aNP,u1,jN,vp];simp only[u0,u1,AL,vp,jA,f,pz,alg,aUw];refine aPW (aX1 n o _ (by omega) q.2) rfl ?_;rintro r ⟨y,rfl⟩;simp only[AL,u1,aNP,vp]);have cs:(Q (s.op<1)||Q (15<s.op))=U\/s.op=1\/s.op=2\/s.op=3\/s.op=4\/s.op=5\/s.op=6\/s.op=7\/s.op=8\/s.op=9\/s.op=10\/s.op=11\/s.op=12\/s.op=13\/s.op=14\/s.op=15:=(by grind);rcases cs with h|h|h|h|h|h|h|h|h|h|h|h|h|h|h|h;simp+contextual only[aUS,u0,u1,f,pz,aj,h,aNP,↓iC,↓uL];trace_state;all_goals(try have w:=u<|by omega);simp+contextual only[aUS,u0,u1,f,rk,pz,ar,Fa,aRO,aj,rr,rg,ixv,Gx,aRB,aNP,h,k,bpF,bqF,Int.reduceLT,Int.reduceEq,Int.reduceLE,brR,bun,byP,aUw,a7c,↓jA,↓jN,Bool.and_self,aNK,aNU,↓uL];(try simp only[aF,I8,apT,bN,Bool.or_eq_true,cP,bik,aNS,eH,fK]);simp_all
def a6L(s:NA)(b:∃n,shS n s):Ct 298 [.a s.c] (λr=>isB r):=by obtain⟨n,b⟩:=b;exact a7f n s b
def a8a:FT:=om a6L
def aWT(l:List NA)(a:∃n,shL n 8 l):Ct 269 [sl NA.c l] (λr=>isB r):=by obtain⟨n,a⟩:=a;exact aX1 n (a7f n) l a.1 a.2
def aT1:FT:=om aWT
def bbB{l Lw K}:=aUy aT1 aWT l Lw K (j:=by simp+contextual only[ij,ijv])
def aYh(c:aTo):Prop:=0<=c.H7/\c.H7<=32/\∀k,k<L c.bid->∀j∈a6z (gd c.bid k),0<=j/\j<c.H7
def aTv{P:Bool->Prop}{Q:cC}:(∀r,(∃b:Bool,r=bv b/\P b)->Q r)=∀b,P b->Q (bv b):=(by grind)
def aPA{a:Bool}{p:Bool->Prop}:(∃k,bv a=bv k/\p k)=p a:=(by simp)
def bd5{l:List Int}{Q:cC}:(∀r,aRU l r->Q r)=∀t o,Q (.l (l.map ci) t o):=QS
def bdN{Y:ae}{x:aNZ}{r:AV}:lo Y [.a x.c] r=True:=by simp[lo,nA,eB,iR,aNZ.c]
def aXo(w:J9)(t:Int)(c:aTo)(H:L c.bid<1000000):Ct 186 [.a w.c,iv t, .a c.c] (λr=>∃b,r=bv b/\(b=U->aYh c)):=by refine bhb rfl rfl λK E z g P=>?_;simp+contextual only[a2R,u0,u1,g,pz,ar,aj,aPA,eE,aO5,aNK,↓uL];intro f;refine yV (L c.bid) (λk _ Y=>Fx K Y []/\∀u,u<k->∀j∈a6z (gd c.bid u),0<=j/\j<c.H7) ⟨Fx.refl _ _,by simp⟩ ?_;rintro k _ Y W ⟨F,hI⟩;have p:L Y=4096:=F.len.trans E;have B:=F.kq z;have l:=F.kq g;simp only[qz 43,qy 6,aI,au,u0,u1,l,rk,pz,aj,ixv,bh,aPA,↓uL];refine⟨λh=>⟨u7 h,anu p λv O e N A=>?_⟩,λh _=>?_⟩;have q:=aL h;have C:=e.kq B;have m:=e.kq l;simp+contextual only[qz 8,au,u0,u1,C,m,A,ix,rk,pz,ar,Fa,aRO,aj,rr,rg,aPA,bd5,bdN,H,eE,aO5,aNK,↓uL];refineλx y _=>⟨(by grind [dX]),λ_ _ X o=>?_⟩;refine bhZ (L<|a6z<|gd c.bid k) (λi=>∀d,d<i->0<=gd (a6z<|gd c.bid k) d/\gd (a6z<|gd c.bid k) d<c.H7) (by simp) λi T S=>?_;have G:L (a6z<|gd c.bid k)<=3:=(by grind [a6z]);simp only[qz 139,aI,au,u0,u1,gT,tf,rk,pz,m,bh,aj,ar,aRO,rr,aPA,eE,aO5,aNK,↓uL];refine⟨(by grind [dJ,aL,gS,dh]),λR=>?_⟩;refine dR (mk:=λ(_:Unit) i=>[iv i]) (s:=()) (s':=()) (λ_ _=>rfl) q (by omega) ⟨F.trans e,a6p hI λj D=>?_⟩;obtain⟨d,M,rfl⟩:=ou D;grind [bT,bkb,bw];simp at f;have n:k=L c.bid:=(by grind);subst n;exact⟨by omega,by omega,hI⟩
def aUg:FT:=vn aXo
def bb6{w t c Lw K}:=f311 aUg aXo w t c Lw K (j:=by simp+contextual only[ij,ijv])
def a7z:dO:=(316,aT8)::(298,a8a)::(269,aT1)::(186,aUg)::a7y
def aTB:eJ a7z:=sz (By aW4<|λ_ _ _=>by simp only[Cs,aqG,aOW,Bool.and_self]) (sz (rj a6L<|λ_=>by simp only[Cs,aqG,aOW,Bool.and_self])<|sz (rj aWT<|λ_=>by simp only[Cs,aqG,aOW,Bool.and_self])<|sz (By aXo)<|aR1)
def aQT:=ai @bbM<|ai @bbB<|ai @bb6<|@aRO
section
attribute[local irreducible] aX
def a8W:=I5 27 [(3,([3],[1])),(11,([4],[1])),(18,([6],[1,4,5]))]
def a0f a b R:=(.mk _:NR a7z a8W Tryz.f236 [.u] [a] b R).p
def bgu{c0:List AV}{R:cC}(l0:L c0=2)(h:H1 196 2 1 c0 λia b=>a0f ia b R):Ct 236 [.a c0] R:=z1 a8W aTB Tryz.func236 l0 h
def a0r b a1 a c R:=(.mk _:NR a7z a8V Tryz.f302 [.u,a1, .u] [b,a] c R).p
def bgC{c0:List AV}{a1:AV}{b:List AV}{R:cC}(l0:L c0=2)(d:L b=4)(h:H2 196 2 3 c0 272 4 5 b λia c e=>a0r ia a1 c e R):Ct 302 [.a c0,a1, .a b] R:=z2 a8V aTB Tryz.func302 l0 d h
def a9p:=I5 13 [(6,([3],[1]))]
def a1N a b R:=(.mk _:NR a7z a9p Tryz.f119 [.u] [a] b R).p
def bgX{c0:List AV}{R:cC}(l0:L c0=7)(h:H1 129 7 1 c0 λia b=>a1N ia b R):Ct 119 [.a c0] R:=z1 a9p aTB Tryz.func119 l0 h
end
def aWR(p:aQl)(u:shP p):Ct 236 [.a p.c] (λr=>isB r):=by obtain⟨⟨A,B,C⟩,D,o⟩:=u;refine bgu rfl λw t e z=>?_;simp only[a0f];refine bhZ (L p.bm0) (λ_=>True) trivial λk q _=>?_;simp+contextual only[qz 19,aI,au,u0,u1,e,rk,pz,aj,ixv,bh,ar,Fa,aQT,rr,aNP,aNK,↓uL];refine⟨λh=>⟨u7 h,by grind [gS,aL]⟩,λ_=>?_⟩;refine yV (L p.ay) (λ_ _ Y=>Fx w Y []) (Fx.refl _ _) ?_;rintro k _ Y q F;have n:=F.kq e;have f:L Y=4096:=F.len.trans t;simp only[qz 67,qy 4,qy 6,aI,au,u0,u1,n,rk,pz,aj,ixv,bh,aNP,aNK,aNU,↓uL];intro h;have d:=aL h;refine⟨dJ d,anu f λv y l x m=>?_⟩;have g:=o _<|ve d;refine bhZ (L (gd p.ay k).locs) (λ_=>True) trivial λj E _=>?_;simp+contextual only[qz 109,aI,au,u0,u1,m,rk,pz,aj,ix,bh,ar,aQT,rr,rg,aNP,aNK,↓uL];refine⟨λh=>⟨u7 h,λ_=>gS (aL h) (by have:=g.1;omega) trivial⟩,λ_=>⟨λ_=>⟨4,g.2⟩,λb _=>dR (mk:=λ(_:Unit) i=>[iv i]) (s:=()) (s':=()) (λ_ _=>rfl) d (by omega)<|F.trans l⟩⟩
def aT0:FT:=om aWR
def bbz{p Lw K}:=aUy aT0 aWR p Lw K (j:=by simp+contextual only[ij,ijv])
def aWY(p:aQl)(t:Int)(e:kW)(f:PrB p/\∃n,shE n e):Ct 302 [.a p.c,iv t, .a e.c] (λr=>isI r):=by refine bgC rfl aN9 λi h b d g=>?_;simp+contextual only[a0r,u0,u1,b,d,pz,ar,Fa,aQT,f,rr,aPG,aNK,aOe,↓uL]
def aP8:FT:=vn aWY
def bbG{p t e Lw K}:=f311 aP8 aWY p t e Lw K (j:=by simp+contextual only[ij,ijv])
def aPU(c:aBY):Prop:=mQ c.aQ=U/\L c.ay=L c.aQ.ay/\∀t∈c.ay,aYh t
def aOc(c:aBY):Prop:=L c.ay<1000/\∀t∈c.ay,L t.bid<1000000
def aXh(c:aBY)(f:aOc c):Ct 119 [.a c.c] (λr=>∃b,r=bv b/\(b=U->aPU c)):=by obtain⟨i,e⟩:=f;refine bgX rfl λp n d g=>?_;simp+contextual only[a1N,u0,u1,d,pz,aj,ar,aQT,rr,aPA,eE,aO5,aNK,↓uL];intro o;refine bhZ (L c.ay) (λk=>∀j,j<k->aYh (gd c.ay j)) (by simp) λk m l=>?_;simp+contextual only[qz 37,aI,au,u0,u1,d,rk,pz,aj,ixv,bh,ar,Fa,aQT,rr,aTv,aPA,eE,aO5,aNK,↓uL];refine⟨λh=>⟨u7 h,e _<|ve<|aL h,by grind [gS,aL]⟩,λh _=>⟨?_,?_,?_⟩⟩;simp_all;grind;grind [ou,bT,bkb,bw]
def aRk:FT:=om aXh
def bbZ{c Lw K}:=aUy aRk aXh c Lw K (j:=by simp+contextual only[ij,ijv])
def aYb:dO:=(236,aT0)::(302,aP8)::(119,aRk)::a7z
def aTC:eJ aYb:=sz (rj aWR) (sz (By aWY<|λ_ _ _=>by simp only[Cs,aqG,aOW,Bool.and_self])<|sz (rj aXh)<|aTB)
def aQU:=ai @bbz<|ai @bbG<|ai @bbZ<|@aQT
section
attribute[local irreducible] aX
def a9e:=I5 11 [(3,([9],[0,1,2,3]))]
def aUX a a1 b c s0 R:=(.mk _:NS aYb a9e Tryz.f299 [a,a1,b,c] [] s0 R).p
def bgM{a a1 b c:AV}{s0:ae}{R:be}(hs:L s0=4096)(h:aUX a a1 b c s0 R):EB 299 [a,a1,b,c] s0 R:=zB a9e aTC Tryz.func299 h
def a9f:=I5 56 [(12,([67],[0,3,5,6,7,8,9,30])),(17,([91],[0,3,5,6,7,8,9,30])),(24,([119],[0,3,5,6,7,8,9,30])),(51,([14],[0,3,5,6]))]
def aUY b a c R:=(.mk _:NS aYb a9f Tryz.f272 [b, .u] [a] c R).p
def bgN{c:AV}{b:List AV}{s0:ae}{R:be}(hs:L s0=4096)(l1:L b=11)(h:HB1 274 11 3 b s0 λe d=>aUY c e d R):EB 272 [c, .a b] s0 R:=zB1 a9f aTC Tryz.func272 hs l1 h
def a5F:=I5 22 [(3,([6],[0,1])),(9,([8],[0,1,6,7])),(16,([8,9],[0,1,6]))]
def aRq a a1 s0 R:=(.mk _:NF<|zF GGV aYb a5F Tryz.f240 [a,a1] [] s0<|QDb Tryz.f240 R).p
def a7S{a a1:AV}{s0:ae}{R:be}(hs:L s0=4096)(h:aRq a a1 s0 R):EB 240 [a,a1] s0 R:=aTc<|zB a5F (aQ9 aTC) Tryz.func240 h
end
def aV6{fn:Nat}{xs:List AV}{Y:ae}{d:Nat}{K:be}{P:Value->Prop}(i:uQ.elem fn=U)(h:∃r b,((∃v,r= .s v/\P v)/\Fx Y b [])/\cZ aS GG fn xs Y r b)(g:∀v,P v->K (.s v) Y):cB fn xs Y d K:=by obtain⟨r,b,⟨⟨v,rfl,j⟩,c⟩,f⟩:=h;exact aS2 i ⟨_,b,⟨rfl,c⟩,f⟩<|g v j
section
variable{Y:ae}{e:TypeId}{z:Nat}{a:AV}{bA:List (List AV)}
theorem ixG{i:Int}{K:cC}(d:lA Y e z a bA)(c:aF (L bA) i)(h:∀b m,a= .m b (L bA)->box Y b=V ⟨e,z,U,I,bA++m⟩->K (.p b i.toNat 0)):rV (cz z Y a<|iv i) K:=by have f:=c.1;have g:=c.2;rcases d with⟨rfl,rfl⟩|⟨b,m,rfl,j⟩;grind;grind [cz,rV]
theorem stG{b:Id}{i:Nat}{cs:List AV}{K:ae->Prop}(c:box Y b=V ⟨e,z,U,I,bA⟩)(m:i<L bA)(n:∀r∈bA,L r=z)(k:L cs=z)(l:cs.all eN=U)(h:nrm (eR Y<|.a cs)= .a cs)(hI:eB (.a cs)=[])(g:∀Y',Fx Y Y' [b]->box Y' b=V ⟨e,z,U,I,bA.set i cs⟩->K Y'):sV (aK z Y (.p b i 0)<|.a cs) K:=by have d:bA[i]?=V bA[i]:=(by simp);have j:bA[i].length=z:=(by simp_all);have f:aK z Y (.p b i 0) (.a cs)=V (wr Y b ⟨e,z,U,I,bA.set i cs⟩):=(by simp only[aK,aBG,c,eE,brv,hI,kills,aRl,h,pW,eY,d];grind);rw[f];exact g _ (wc c)<|lO c
theorem aQz{b:Id}{i j:Nat}{x:AV}{r:List AV}{K:ae->Prop}(c:box Y b=V ⟨e,z,U,I,bA⟩)(h:bA[i]?=V r)(l:j<L r)(g:eY (nrm<|eR Y x)=V [nrm<|eR Y x])(k:eN (nrm<|eR Y x)=U)(hI:eB x=[])(f:∀Y',Fx Y Y' [b]->box Y' b=V ⟨e,z,U,I,bA.set i<|r.set j<|nrm<|eR Y x⟩->K Y'):sV (aK 1 Y (.p b i j) x) K:=by have d:aK 1 Y (.p b i j) x=V (wr Y b ⟨e,z,U,I,bA.set i<|r.set j<|nrm<|eR Y x⟩):=(by simp only[aK,aBG,c,eE,brv,hI,kills,aRl,pW,g,h,bZ,aO1];grind [GP]);rw[d];exact f _ (wc c)<|lO c
end
def bxL{e:TypeId}{z d:Nat}{cs:List AV}{Y:ae}{K:be}(h:L cs=z)(g:0<z)(b:d<L Y)(f:∀v Y',Fx Y Y' []->bK Y (d,v)->box Y' (d,v)=V ⟨e,z,U,U,[cs]⟩->K (.p (d,v) 0 0) Y'):eV (bxA e z Y d<|.a cs) K:=by have c:bxA e z Y d (.a cs)=V (.p (zt Y d) 0 0,put Y d ⟨e,z,U,U,[cs]⟩):=(by grind [bxA,eY,aRI]);rw[c];exact f _ _ (kH b) (qQ Y d)<|be7 b
def gfP{Y:ae}{b:Id}{T e:TypeId}{z ze j d by':Nat}{cs zs:List AV}{a:AV}{bA new:List (List AV)}{t o:Bool}{K:AV->be}(B:box Y b=V ⟨T,z,U,U,[cs]⟩)(G:j<L cs)(w:lA Y e ze a bA)(i:b∉aA a)(O:L zs=ze)(k:0<ze)(D:d<L Y)(M:∀r∈bA,L r=ze)(H:∀r∈new,L r=ze)(v:new≠[])(h:(L bA+L new)*(by'+1)<=1099511627776)(C:b.1≠d)(A:∀c Y',box Y' b=V ⟨T,z,U,U,[cs.set j c]⟩->bc Y' e ze c (bA++new)->Fx Y Y' (b::aA a)->(∀q∈aA c,bK Y q/\q.1=d)->K (.p b 0 j) c Y'):eV (apA e zs by' Y d a<|.l new t o) λx s=>rV (iQ j s<|.p b 0 0) λy=>sV (aK 1 s y x) (K y x):=by refine qs w O k D M H v h λc Y' g F N=>?_;have f:=F.keep _ _ i B;have E:iQ j Y' (.p b 0 0)=V (.p b 0 j):=(by simp[iQ,f]);simp only[E,aY];refine A0 f g.p.ce G λn m u=>?_;have P:b∉aA c:=(by grind);refine A c n u (by grind [bc.fx]) ((F.trans m).mono λq R=>?_) N;grind
def bfa{α:Type}{l:List α}{x y:α}:(l++[x]).set (L l) y=l++[y]:=by simp
structure Wk(Y:ae)(b:Id)(p:aQl)(al:List NA)(n:Nat)(a s t:AV):Prop where
 bx:∃th:Int,box Y b=V ⟨305,6,U,U,[[sl w6.c p.bm0,sl aO6.c p.ay,iv th,a,s,t]]⟩
 ga:lA Y 274 11 a (al.map NA.c)
 gs:∃l:List ByteArray,lA Y 9 1 s (l.map cs)/\L l<=n
 gt:∃l:List ByteArray,lA Y 9 1 t (l.map cs)/\L l<=n
 la:L al<=6
 le:L Y=4096
 sb:b.1=60
 sa:∀q∈aA a,q.1=42
 ss:∀q∈aA s,q.1=204
 st:∀q∈aA t,q.1=262
section
variable{Y Y':ae}{b:Id}{p:aQl}{al:List NA}{n:Nat}{a s t:AV}
theorem Wk.fx{ks:List Id}(W:Wk Y b p al n a s t)(F:Fx Y Y' ks)(d:b∉ks)(e:∀q∈aA a,q∉ks)(f:∀q∈aA s,q∉ks)(h:∀q∈aA t,q∉ks):Wk Y' b p al n a s t:=by obtain⟨o,i⟩:=W.bx;obtain⟨l,g,j⟩:=W.gs;obtain⟨m,c,k⟩:=W.gt;exact⟨⟨o,F.keep _ _ d i⟩,W.ga.fx F e,⟨l,g.fx F f,j⟩,⟨m,c.fx F h,k⟩,W.la,F.len.trans W.le,W.sb,W.sa,W.ss,W.st⟩
theorem Wk.fx0(W:Wk Y b p al n a s t)(F:Fx Y Y' []):Wk Y' b p al n a s t:=(by grind [Wk.fx])
theorem Wk.mono{m:Nat}(W:Wk Y b p al n a s t)(h:n<=m):Wk Y b p al m a s t:=by obtain⟨l,g,e⟩:=W.gs;obtain⟨k,c,d⟩:=W.gt;exact⟨W.bx,W.ga,⟨l,g,by omega⟩,⟨k,c,by omega⟩,W.la,W.le,W.sb,W.sa,W.ss,W.st⟩
theorem ixL{i:Int}{K:cC}{α:Type}[Inhabited α]{f:α->List AV}{l:List α}{z:Nat}{e:TypeId}(d:lA Y e z a<|l.map f)(c:aF (L l) i)(w:∀x,L (f x)=z)(g:∀y,(∀q,vl q Y y=aN q (f<|gd l i.toNat))->(∀j q,rV (iQ j Y y) q=q (match y with| .p b k o=> .p b k (o+j)|y=>y))->K y):rV (cz z Y a<|iv i) K:=by refine ixG d (by grind) λb m v h=>g _ (λq=>?_) (λj q=>?_);have r:=c.1;have u:=c.2;grind [gd,List.getElem?_append_left,List.getElem?_eq_getElem,bT,vl,iE];simp[iQ,h,rV]
def bdi(W:Wk Y b p al n a s t)(x y:Int)(q:ByteArray):∃r c,((∃v,r= .s v/\∃u:Bool,v= .bool u)/\Fx Y c [])/\cZ aS GG 299 [.p b 0 0,iv x,iv y,st q] Y r c:=by refine bgM W.le ?_;simp only[aUX];refine yV (L al) (λ_ _ Y'=>Fx Y Y' []) (Fx.refl _ _) ?_;rintro k _ c B F;have e:=W.fx0 F;obtain⟨C,g⟩:=e.bx;have j:∀u Y',Fx Y Y' []->aNN (λr c=>(∃v,r= .s v/\∃u:Bool,v= .bool u)/\Fx Y c []) Y' [bv u]:=λu Y' d=>⟨⟨_,rfl,u,rfl⟩,d⟩;simp only[qz 19,qy 2,aI,au,nlP g,u0,u1,g,pz,aj,e.ga.ln,bJ,↓uL];refine⟨λh=>?_,λ_=>j _ _ F⟩;have f:=aL h;refine ixL e.ga (dJ f) (λ_=>bit) λD o _=>?_;simp only[o,bh,pz,aY];refine aRA rfl bit (by decide) (by rw[e.le];decide) λv A l z m=>?_;have d:=F.trans l;simp+contextual only[qz 4,au,u0,u1,m,pz,aj,j _ _ d,aNK,vp,↓uL];have w:=W.la;exactλ_=>dR (mk:=λ(_:Unit) i=>[iv i]) (s:=()) (s':=()) (λ_ _=>rfl) f (by omega) d
theorem aRE(W:Wk Y b p al n a s t){x y:Int}{c:ByteArray}{d:Nat}{K:be}(e:∀u:Bool,K (bv u) Y):cB 299 [.p b 0 0,iv x,iv y,st c] Y d K:=aV6 rfl (bdi W x y c) (by simp_all)
def aPr(Y:ae)(b:Id)(p:aQl)(al:List NA)(n:Nat)(a s t:AV)(r:AV)(c:ae):Prop:=∃(e:Int) (s' d:AV),r=iv e/\Wk c b p al (n+1) a s' d/\Fx Y c (b::(aA s++aA t))/\(∀q∈aA s',q∈aA s\/bK Y q)/\∀q∈aA d,q∈aA t\/bK Y q
theorem aPr.no(W:Wk Y b p al n a s t)(F:Fx Y Y' [])(e:Int):aPr Y b p al n a s t (iv e) Y':=⟨e,s,t,rfl,(W.fx0 F).mono (by omega),F.mono (by simp),λ_ h=> .inl h,λ_ h=> .inl h⟩
def bd6{Q:cC}:(∀r,(∃k:Int,r=iv k)->Q r)=∀k,Q (iv k):=a65
def a52{x:ByteArray}:aX zd9 1 Y [(0,st x)]=V (.l ([x].map cs) U U,Y):=iz
set_option maxHeartbeats 8000000 in
theorem bdl(W:Wk Y b p al n a s t)(O:PrB p){m:Nat}{x:NA}(hx:shS m x)(hn:n<100000):∃r Y1,aPr Y b p al n a s t r Y1/\cZ aS GG 272 [.p b 0 0, .a x.c] Y r Y1:=by have hw:=W;have ha:=hx.at;obtain⟨b1,B⟩:=b;obtain rfl:b1=60:=W.sb;refine bgN W.le bit λs2 v3 K2 a0 nf2 b3=>?_;have F2:Fx Y s2 []:=K2.fx [];have T:=W.fx0 F2;obtain⟨th,D⟩:=T.bx;have rp:∀{l:List AV},aN (V 2) (sl w6.c p.bm0::sl aO6.c p.ay::l)=V (.a p.c):=rfl;simp only[aUY,qy 4,nlP D,u0,u1,D,rp,pz,aj,↓uL];refine anu T.le λv5 A E aQ b5=>?_;have f:=T.fx0 E;have X:=E.kq b3;have F:=F2.trans E;obtain⟨th,D⟩:=f.bx;have aZ:cO A (.p (60,B) 0 0)=V (.p (60,B) 0 0):=nlP D;obtain⟨ls,N,aX⟩:=f.gs;obtain⟨lt,H,aY⟩:=f.gt;have aK:dG A s=sl Ab.cs ls:=N.ar;have aL:dG A t=sl Ab.cs lt:=H.ar;refine dT (by first|rfl|(simp[eL,okT,tok,lb,cq,Qh,m8,dC,pP,dK];done)) ?_;refine aRE f λtx=>?_;simp only[qz 8,↓uL];refine aRE f λaR=>?_;simp only[qz 10,↓uL];refine aRE f λlp=>?_;have dn:∀e:Int,aNN (aPr Y (60,B) p al n a s t) A [iv e]:=λe=>aPr.no W F e;have hI:∀y∈x.index,∃n,shE n y:=(by grind);have hX:x.op=1\/x.op=2\/x.op=3\/x.op=14->∃n,shE n x.expr:=(by grind);have an:=aTb (p:=λi=>Q<|(gd p.bm0 i).name=x.name) (n:=L p.bm0);have ah:(x.op=1\/x.op=2\/x.op=3\/x.op=4\/x.op=5\/x.op=6\/x.op=7\/x.op=8\/x.op=9\/x.op=10\/x.op=11\/x.op=12\/x.op=13\/x.op=14)\/(x.op≠1/\x.op≠2/\x.op≠3/\x.op≠4/\x.op≠5/\x.op≠6/\x.op≠7/\x.op≠8/\x.op≠9/\x.op≠10/\x.op≠11/\x.op≠12/\x.op≠13/\x.op≠14):=(by omega);have lock:∀(i j:Int) (d:Nat) (k:Int),gF (!tx) (λk=>cB 299 [AV.p (60,B) 0 0,iv i,iv j,st x.name] A d λax av=>k ax av) A λaz C=>rV (mL (bv tx) (bv U) az) λR=>fW aOS [dG C R] (lo C [R]) λS=>fW aOi [AV.s<|Value.int dq k,dG C S] (lo C [iv k,S]) λaB=>aNN (aPr Y (60,B) p al n a s t) C [aB]:=(by intro i j d k;(cases tx);simp only[kN,gF,a7g];refine aRE f λu=>?_;simp only[u0,ar,aQU,dn,aOe];simp only[gF,fh,a5C,aUw,u0,ar,aQU,dn,aOe]);simp only[qz 12,u0,u1,X,pz,aj,↓uL];rcases ah with(h|h|h|h|h|h|h|h|h|h|h|h|h|h)|⟨g1,g2,g3,g4,g5,g6,g7,g8,g9,aT,aU,z,aV,aW⟩;(all_goals(try have am:=hX<|by omega);simp+contextual only[qz 309,qy 26,qz 311,qz 147,qy 20,qz 149,qz 105,qz 107,qz 75,qz 77,a7i,aI,au,u0,u1,rk,pz,ar,Fa,aQU,aj,rr,ixv,Gx, *,bpF,bqF,Int.reduceEq,brR,↓iC,↓iB,aXX,bd6,aNK,aNU,eE,sr,aO5,aQ6,↓uL]);intro h0 k;have:0<L x.index:=(by grind);exact⟨⟨by omega,by omega⟩,hI _<|ve this⟩;(any_goals intro k hk h0;have ap:k=0:=(by simp_all);refine⟨by have:=O.1;omega,⟨hk ap,an.2⟩,aRE f λu=>?_⟩;cases tx<;>cases u<;>simp+contextual only[qz 18,u0,u1,X,pz,aj,ar,aQU,dn,aUw,a7c,jA,jN,aOe,↓uL]);intro k hk;refine⟨by have:=O.2.1;omega,λ_=>⟨by omega,λ_=>?_⟩⟩;simp only[a52,bQ];refine apQ N f.le oX oX (by simp) (by simp;omega) λs' aq z o af=>?_;have w:=o.keep _ _ (λg=>by have:=f.ss _ g;simp at this) D;simp only[qz 22,nlP w,u0,u1,w,aj,↓uL];refine A0 w z.p.ce (by simp) λP v G=>?_;refine dT (by first|rfl|(simp[eL,okT,tok,lb,cq,Qh,m8,dC,pP,dK];done)) ?_;have M:∀q∈aA s',q∉[((60,B):Id)]:=(by grind);refine⟨0,s',t,rfl,⟨⟨th,G⟩,(f.ga.fx o<|λq g K=>by grind [Wk.sa,Wk.ss]).fx v (λq g e=>by grind [Wk.sa]),⟨ls++[x.name],by rw[dg];exact z.p.fx v M,by simp;omega⟩,⟨lt,(H.fx o<|λq g K=>by grind [Wk.st,Wk.ss]).fx v (λq g e=>by grind [Wk.st]),by omega⟩,f.la,v.len.trans<|o.len.trans f.le,rfl,f.sa,(by grind),f.st⟩,((F.trans o).trans v).mono<|λq g=> .inl ?_,(by grind [bK.old]),λq g=> .inl g⟩;grind;intro k _;have:=O.2.1;omega;(focus refineλk=>⟨λ_=>by omega,λ_=>?_,λ_=>?_⟩;all_goals simp only[a52,bQ];refine apQ H f.le oX oX (by simp) (by simp;omega) λt' aq z o af=>?_;have w:=o.keep _ _ (λg=>by have:=f.st _ g;simp at this) D;have Z:=o.keep _ _ (λg=>by have:=f.st _ g;simp at this) X;have d5:=o.keep _ _ (λg=>by have:=f.st _ g;simp at this) b5;simp only[qz 28,nlP w,u0,u1,w,aj,↓uL];refine A0 w z.p.ce (by simp) λP v G=>?_;have Z:=v.kq Z;have d5:=v.kq d5;refine dT (by first|rfl|(simp[eL,okT,tok,lb,cq,Qh,m8,dC,pP,dK];done)) ?_;have M:∀q∈aA t',q∉[((60,B):Id)]:=(by grind);have ak:∀e:Int,aPr Y (60,B) p al n a s t (iv e) P:=(by intro e;refine⟨e,s,t',rfl,⟨⟨th,G⟩,(f.ga.fx o<|λq g K=>by grind [Wk.sa,Wk.st]).fx v (λq g e=>by grind [Wk.sa]),⟨ls,(N.fx o<|λq g K=>by grind [Wk.ss,Wk.st]).fx v (λq g e=>by grind [Wk.ss]),by omega⟩,⟨lt++[x.name],by rw[dg];exact z.p.fx v M,by simp;omega⟩,f.la,v.len.trans<|o.len.trans f.le,rfl,f.sa,f.ss,by grind⟩,((F.trans o).trans v).mono<|λq g=> .inl ?_,λq g=> .inl g,by grind [bK.old]⟩;grind);simp only[u0,u1,Z,d5,pz,aj,ar,Fa,aQU,O,am,rr,aOe,↓uL];exactλ_=>ak _)
theorem baX(W:Wk Y b p al n a s t)(h:PrB p){m:Nat}{x:NA}(j:shS m x)(i:n<100000){d:Nat}{K:be}(v:∀(e:Int) (s' g:AV) f,Wk f b p al (n+1) a s' g->Fx Y f (b::(aA s++aA t))->(∀q∈aA s',q∈aA s\/bK Y q)->(∀q∈aA g,q∈aA t\/bK Y q)->K (iv e) f):cB 272 [.p b 0 0, .a x.c] Y d K:=by refine jH rfl (bdl W h j i) ?_;rintro r f ⟨e,s',g,rfl,k,l,o,u⟩;grind [Fx.len]
def bS:Nat->Nat|0=>0|m+1=>1+8*bS m
def aR9(Y:ae)(b:Id)(p:aQl)(al:List NA)(n:Nat)(a s t:AV)(r:AV)(c:ae):Prop:=∃(e l:Int) (d s' f:AV),r= .t [iv e,iv l]/\Wk c b p al n d s' f/\Fx Y c (b::(aA a++(aA s++aA t)))/\(∀q∈aA d,q∈aA a\/bK Y q)/\(∀q∈aA s',q∈aA s\/bK Y q)/\∀q∈aA f,q∈aA t\/bK Y q
theorem bc8(hB:PrB p):∀(m:Nat) {Y:ae} {al:List NA} {n:Nat} {a s t:AV} {l:List NA},Wk Y b p al n a s t->shL m 8 l->n+L l*bS m<100000->
  ∃r Y1,aR9 Y b p al (n+L l*bS m) a s t r Y1/\cZ aS GG 240 [.p b 0 0,sl NA.c l] Y r Y1:=by
 intro m
 induction m with
 |zero=>
  intro Y al n a s t l W hs hn
  have:l=[]:=List.eq_nil_iff_forall_not_mem.2 λx hx=>hs.2 x hx
  subst this
  refine a7S W.le ?_
  simp only[aRq]
  refine yV 0 (λ_ _ Y'=>Y'=Y) rfl ?_
  rintro k _ Y1 hk rfl
  simp only[qz 19,qy 2,aI,au,u0,u1,aO1,↓uL]
  refine⟨λh=>by simp at h;omega,λ_=>⟨0,0,a,s,t,rfl,W.mono (by omega),Fx.refl _ _,λ_ h=> .inl h,λ_ h=> .inl h,λ_ h=> .inl h⟩⟩
 |succ m ih=>
  intro Y al n a s t l W hs hn
  obtain⟨b1,g⟩:=b
  obtain rfl:b1=60:=W.sb
  refine a7S W.le ?_
  simp only[aRq]
  refine yV (L l) (λk _ Y'=>∃D s' F,Wk Y' (60,g) p al (n+k*bS (m+1)) D s' F/\Fx Y Y' ((60,g)::(aA a++(aA s++aA t)))/\(∀q∈aA D,q∈aA a\/bK Y q)/\(∀q∈aA s',q∈aA s\/bK Y q)/\∀q∈aA F,q∈aA t\/bK Y q) (by grind [Fx.refl]) ?_
  rintro k _ Y1 hk ⟨a1,s1,t1,W1,F1,i1,i2,i3⟩
  have b8:k*bS (m+1)<=L l*bS (m+1):=qo _ hk
  have aN:∀(e ln:Int) (D s' F:AV) Y',Wk Y' (60,g) p al (n+L l*bS (m+1)) D s' F->Fx Y Y' ((60,g)::(aA a++(aA s++aA t)))->(∀q∈aA D,q∈aA a\/bK Y q)->(∀q∈aA s',q∈aA s\/bK Y q)->(∀q∈aA F,q∈aA t\/bK Y q)->aNN (aR9 Y (60,g) p al (n+L l*bS (m+1)) a s t) Y' [iv e,iv ln]:=λe ln D s' F Y' h1 h2 h3 h4 h5=>⟨e,ln,D,s',F,rfl,h1,h2,h3,h4,h5⟩
  simp only[qz 19,qy 2,aI,au,u0,u1,ixv,bh,rr,pz,↓uL]
  refine⟨λh=>⟨u7 h,aRA rfl bit (by decide) (by rw[W1.le];decide) λv s2 F2 N2 aK=>?_⟩,by grind⟩
  have ao:=aL h
  have W2:=W1.fx0 F2
  have hx:=hs.2 _<|ve ao
  obtain⟨m',cn,g1,g2⟩:=hx.body
  obtain rfl:m=m':=by omega
  have bC:n+k*bS (m+1)+(1+8*bS m)<=n+L l*bS (m+1):=by
   have h9:(k+1)*bS (m+1)<=L l*bS (m+1):=qo _ ao
   grind [tN,bS]
  have n7:∀{D s' F:AV} {Y':ae} {bi:List NA} {n':Nat},Wk Y' (60,g) p bi n' D s' F->∀(v:Nat),((7,v):Id)∉((60,g):Id)::(aA D++(aA s'++aA F)):=λW v o=>by
   simp only[eW,dF,iK] at o
   rcases o with h|h|h|h
   ·omega
   ·have:=W.sa _ h;simp at this
   ·have:=W.ss _ h;simp at this
   ·have:=W.st _ h;simp at this
  generalize cp:gd l k=x at*
  simp only[qz 4,u0,u1,aK,pz,↓uL]
  refine baX W2 hB hx (by omega) λe s3 t3 Y3 z F3 j2 j3=>?_
  have b3:=F3.keep _ _ (λo=>n7 W2 v<|by simp only[eW,dF] at o⊢;rcases o with h|h|h;exact .inl h;exact .inr<|.inr<|.inl h;exact .inr<|.inr<|.inr h) aK
  have Z:Fx Y Y3 ((60,g)::(aA a++(aA s++aA t))):=((F1.trans F2).trans F3).mono (by grind [bK.no])
  have aQ:∀q∈aA s3,q∈aA s\/bK Y q:=(by grind [bK.old])
  have aR:∀q∈aA t3,q∈aA t\/bK Y q:=(by grind [bK.old])
  obtain⟨th,ah⟩:=z.bx
  have bn:=z.la
  have ew:dq.wrap ((L al:Int)+1)=((L al+1:Nat):Int):=fX (by omega)
  simp+contextual only[qz 6,a7i,qz 59,qz 57,qy 8,aI,au,nlP ah,u0,u1,ah,aRV,bfx,aRa,z.ga.ln,bJ,b3,pz,aj,ew,Int.reduceEq,brR,bun,bpF,↓iC,↓uL]
  have ac:∀(e ln:Int),aNN (aR9 Y (60,g) p al (n+L l*bS (m+1)) a s t) Y3 [iv e,iv ln]:=λe ln=>aN e ln _ _ _ _ (z.mono<|by omega) Z i1 aQ aR
  refine⟨λ_=>ac _ _,λh6=>⟨λ_=>ac _ _,λ_=>?_⟩⟩
  have cm:L al+1<=6:=by grind
  have bq:aX brP 1 Y3 [(0,.a [iv 0,iv 0,sv [],sv [],.l [] U U,iv 0,iv 0,sv [],.l [] U U,.l [] U U,.l [] U U])]=V (.l [brP] U U,Y3):=by kernel_rfl
  simp only[bq,bQ]
  refine apQ z.ga z.le (qW λ_=>bit) (by simp) (by simp) (by simp;omega) λa4 Y4 g4 F4 N4=>?_
  rcases g4 with⟨h8,_⟩|⟨q,bm,o⟩
  ·simp at h8
  subst bm
  have aO:q.1=42:=(N4 q<|by simp[aA]).2
  have bu:=(N4 q<|by simp[aA]).1
  obtain⟨q1,q2⟩:=q
  simp only at aO
  subst aO
  have na:∀{u:Nat} {r:Nat},r≠42->((r,u):Id)∉aA a1:=λj o=>j<|z.sa _ o
  have b4:=F4.keep _ _ (na<|by decide) b3
  have bo:=F4.keep _ _ (na<|by decide) ah
  have aC:L (al.map NA.c++[brP])=L al+1:=by simp
  have br:∀{K:cC},K (.p (42,q2) (L al) 0)->rV (cz 11 Y4 (.m (42,q2)<|L<|al.map NA.c++[brP])<|iv (L al:Int)) K:=λ{K} hK=>by
   simp only[cz,Int.natCast_nonneg,aPy,o,aQd,bh,aC,Nat.lt_succ_self,aOe,rV]
   exact hK
  simp only[qz 10,↓uL]
  refine br ?_
  refine stG o (by simp) (by intro r j;simp only[dF,dN,cE] at j;rcases j with⟨y,_,rfl⟩|rfl;exact bit;rfl) bit (by rw[a6X];rfl) (by rw[a6X];rfl) (by rw[a6X];rfl) λY5 F5 aP=>?_
  have aZ:(al.map NA.c++[brP]).set (L al) (NA.c x)=(al++[x]).map NA.c:=by
   have:=bfa (l:=al.map NA.c) (x:=brP) (y:=NA.c x)
   rw[bJ] at this
   rw[this];simp
  rw[aZ] at aP
  have b5:=F5.kq b4
  have T:=F5.kq bo
  simp only[qz 12,nlP T,u0,u1,T,aj,↓uL]
  refine A0 T rfl (by simp) λY6 F6 bp=>?_
  have b6:=F6.kq b5
  have co:=F6.kq aP
  have bt:m8 (.a x.c)=[]:=by rw[a6X];rfl
  refine dT (by simp only[lbV,aBG,T,o,aPy,eE,brv,Cz,RN,bt];simp[eL,lb,m8,dC,dK]) ?_
  have aa:Fx Y3 Y6 (aA a1++[(60,g)]):=((F4.trans F5).trans F6).mono λr j=>by
   simp only[dF,cE] at j⊢
   grind [bK.no]
  have a6:Fx Y Y6 ((60,g)::(aA a++(aA s++aA t))):=(Z.trans aa).mono λr j=>by
   rcases dF.1 j with h|h
   ·exact .inl h
   ·rcases dF.1 h with h|h
    ·rcases i1 r h with h|h
     ·grind
     ·exact .inr h.no
    grind
  have aM:∀r:Id,r.1≠42->r.1≠60->r∉aA a1++[((60,g):Id)]:=(by grind)
  obtain⟨ls,gs,an⟩:=z.gs
  obtain⟨lt,ag,S⟩:=z.gt
  have W6:Wk Y6 (60,g) p (al++[x]) (n+k*bS (m+1)+1) (.m (42,q2)<|L<|al.map NA.c++[brP]) s3 t3:=by
   refine⟨⟨th,bp⟩, .inr ⟨(42,q2),[],by simp,by grind⟩,⟨ls,gs.fx aa<|λr j=>aM r (by grind [Wk.ss])<|by grind [Wk.ss],an⟩,⟨lt,ag.fx aa<|λr j=>aM r (by grind [Wk.st])<|by grind [Wk.st],S⟩,by simp;omega,F6.len.trans<|F5.len.trans<|F4.len.trans z.le,rfl,by simp[aA],z.ss,z.st⟩
  have a2:bK Y (42,q2):=bu.old Z
  have ad:∀{B:ae} {N:Nat} {M E G:AV} {l':List NA} {d:Nat} {K:be},Wk B (60,g) p (al++[x]) N M E G->shL m 4 l'->N<=n+k*bS (m+1)+(1+4*bS m)->Fx Y B ((60,g)::(aA a++(aA s++aA t)))->(∀q∈aA M,q∈aA a\/bK Y q)->(∀q∈aA E,q∈aA s\/bK Y q)->(∀q∈aA G,q∈aA t\/bK Y q)->
    (∀(e ln:Int) (H s9 t9:AV) (C:ae),Wk C (60,g) p (al++[x]) (N+4*bS m) H s9 t9->Fx B C ((60,g)::(aA M++(aA E++aA G)))->Fx Y C ((60,g)::(aA a++(aA s++aA t)))->(∀q∈aA H,q∈aA a\/bK Y q)->(∀q∈aA s9,q∈aA s\/bK Y q)->(∀q∈aA t9,q∈aA t\/bK Y q)->K (.t [iv e,iv ln]) C)->cB 240 [.p (60,g) 0 0,sl NA.c l'] B d K:=by
   intro B N M E G l' d K A am hN X aw O P hK
   have h4:L l'*bS m<=4*bS m:=qo _ am.1
   refine jH rfl (ih A ⟨by have:=am.1;omega,am.2⟩<|by omega) ?_
   rintro r C ⟨e,ln,H,s9,t9,rfl,R,w,v1,v2,v3⟩
   refine⟨w.len,hK e ln H s9 t9 C (R.mono<|by omega) w ((X.trans w).mono λr j=>?_) (λq o=>(v1 q o).elim (aw q) λh=> .inr<|h.old X) (λq o=>(v2 q o).elim (O q) λh=> .inr<|h.old X)<|λq o=>(v3 q o).elim (P q) λh=> .inr<|h.old X⟩
   rcases dF.1 j with h|h
   ·exact .inl h
   ·simp only[eW,dF] at h⊢
    rcases h with h|h|h|h
    ·grind
    ·exact(aw r h).elim (by grind) λh=> .inr h.no
    ·exact(O r h).elim (by grind) λh=> .inr h.no
    ·exact(P r h).elim (by grind) λh=> .inr h.no
  simp only[u0,u1,b6,pz,aj,↓uL]
  refine ad W6 g1 (by omega) a6 (by simp[aA];exact .inr a2) aQ aR λe' ln H s9 t9 C R G9 w v1 v2 v3=>?_
  have b9:=G9.keep _ _ (n7 W6 v) b6
  simp only[qz 16,rr,aY,↓uL]
  refine bpD (λf=>∀(e ln:Int) {B:ae} {N:Nat} {M E G:AV},Wk B (60,g) p (al++[x]) N M E G->N<=n+k*bS (m+1)+(1+8*bS m)->Fx Y B ((60,g)::(aA a++(aA s++aA t)))->(∀q∈aA M,q∈aA a\/bK Y q)->(∀q∈aA E,q∈aA s\/bK Y q)->(∀q∈aA G,q∈aA t\/bK Y q)->f [iv e,iv ln] B) ?_ λf ap=>?_
  ·intro e ln B N M E G A hN X aw O P
   obtain⟨th,ak⟩:=A.bx
   have e1:dq.wrap (((L al+1:Nat):Int)-1)=(L al:Int):=by grind [eM]
   simp only[qz 99,aI,nlP ak,u0,u1,ak,aRV,bfx,aRa,aj,A.ga.ln,bJ,a6G,bZ,aO1,e1,↓uL]
   refine slP A.ga (by omega) (by simp;omega) λH g9 i9=>?_
   have ht:((al++[x]).map NA.c).take ((L al:Int).toNat)=al.map NA.c:=by simp
   rw[ht] at g9
   refine A0 ak g9.ce (by simp) λC w b9=>?_
   have d9:∀r:Id,r.1≠60->r∉[((60,g):Id)]:=(by grind)
   obtain⟨ls,gs,an⟩:=A.gs
   obtain⟨lt,ag,S⟩:=A.gt
   have R:Wk C (60,g) p al N H E G:=⟨⟨th,b9⟩,g9.fx w<|λr j=>(by grind [Wk.sa]),⟨ls,gs.fx w<|λr j=>(by grind [Wk.ss]),an⟩,⟨lt,ag.fx w<|λr j=>(by grind [Wk.st]),S⟩,bn,w.len.trans A.le,rfl,λr j=>A.sa r<|i9▸j,A.ss,A.st⟩
   have aJ:Fx Y C ((60,g)::(aA a++(aA s++aA t))):=(X.trans w).mono λr j=>by
    rcases dF.1 j with h|h
    ·exact .inl h
    ·exact .inl (by simp at h;simp[h])
   have u9:∀q∈aA H,q∈aA a\/bK Y q:=(by grind)
   simp only[qz 20,au,u0,u1,↓uL]
   refine⟨λ_=>aN _ _ _ _ _ _ (R.mono<|by omega) aJ u9 O P,λ_=>?_⟩
   refine dR (mk:=λ(_:Unit) i=>[iv i]) (s:=()) (s':=()) (λ_ _=>rfl) ao (by have:=hs.1;omega) ⟨H,E,G,R.mono ?_,aJ,u9,O,P⟩
   grind [tN,bS]
  simp only[qz 101,u0,u1,b9,pz,aj,↓uL]
  refine⟨λ_=>?_,λ_=>ap _ _ R (by omega) w v1 v2 v3⟩
  refine ad R g2 (by omega) w v1 v2 v3 λe2 cq cl cr cs ck bd cj a5 w1 w2 w3=>?_
  simp only[qz 18,rr,aY]
  exact ap _ _ bd (by omega) a5 w1 w2 w3
theorem baR(i:PrB p){m:Nat}{l:List NA}(W:Wk Y b p al n a s t)(hs:shL m 8 l)(j:n+L l*bS m<100000){d:Nat}{K:be}(x:∀(e ln:Int) (g s' h:AV) f,Wk f b p al (n+L l*bS m) g s' h->Fx Y f (b::(aA a++(aA s++aA t)))->(∀q∈aA g,q∈aA a\/bK Y q)->(∀q∈aA s',q∈aA s\/bK Y q)->(∀q∈aA h,q∈aA t\/bK Y q)->K (.t [iv e,iv ln]) f):cB 240 [.p b 0 0,sl NA.c l] Y d K:=by refine jH rfl (bc8 i m W hs j) ?_;rintro r f ⟨e,ln,g,s',h,rfl,k,o,u,v,w⟩;grind [Fx.len]
end
def a7A:dO:=aYb
def a7k:eJ a7A:=aTC
def aWi:=@aQU
section
attribute[local irreducible] aX
def a87:=I5 37 [(18,([8,9],[1])),(28,([11],[1,10]))]
def a0x a b R:=(.mk _:NR a7A a87 Tryz.f188 [.u] [a] b R).p
def bgF{c0:List AV}{R:cC}(l0:L c0=2)(h:H1 196 2 1 c0 λia b=>a0x ia b R):Ct 188 [.a c0] R:=z1 a87 a7k Tryz.func188 l0 h
end
def bdo{p:aQl}(f:shP p):Ct 188 [.a p.c] aQ1:=by
 have g:=f.1
 have R:=g.1
 have h2:=g.2.1
 refine bgF rfl λs2 S j h0=>?_
 simp+contextual only[a0x,u0,u1,j,pz,aj,ar,Fa,aWi,f,R,g,rr,aO2,aNK,↓uL]
 intros
 refine yh (λs:Int×Nat=>[iv s.1,iv s.2]) 1 (L p.ay) (λ_=>True) (0,0) trivial ?_
 rintro⟨c,k⟩ _
 simp+contextual only[qz 109,aI,au,u0,u1,j,rk,pz,aj,ixv,bh,ar,aWi,rr,aO2,aNK,↓uL]
 refine⟨λh=>⟨u7 h,⟨4,(f.2.2 _<|ve<|aL h).2⟩,λx=>wN (enc:=λs:Int×Nat=>[iv s.1,iv s.2]) (s:=(c,k)) (s':=(_,k+1)) (by rw[fX<|by grind]) rfl rfl (aL h) trivial⟩,λ_ _=>?_⟩
 have z:bM bu1 [(0,2),(2,1),(3,1),(4,1),(5,1)] [(0, .a p.c)]=V (.a [sl w6.c p.bm0,sl aO6.c p.ay,iv 0, .l [] U U, .l [] U U, .l [] U U]):=rfl
 simp only[z,aY]
 refine bxL rfl (by decide) (by omega) λv F o N3 N=>?_
 have A:L F=4096:=o.len.trans S
 have W3:Wk F (60,v) p [] 0 (.l [] U U) (.l [] U U) (.l [] U U):=⟨⟨0,N⟩, .inl ⟨rfl,rfl⟩,⟨[], .inl ⟨rfl,rfl⟩,by simp⟩,⟨[], .inl ⟨rfl,rfl⟩,by simp⟩,by simp,A,rfl,by simp[aA],by simp[aA],by simp[aA]⟩
 have c3:=o.kq j
 refine yV (L p.ay) (λk _ Y=>∃a s t,Wk Y (60,v) p [] (k*10000) a s t/\box Y (1,1)=V ⟨196,2,U,U,[p.c]⟩) (by grind) ?_
 rintro k _ Y hk ⟨a,s,t,W,q⟩
 obtain⟨th,m⟩:=W.bx
 simp only[qz 169,aI,au,u0,u1,q,nlP m,m,pz,aj,rr,aO2,aNK,aNU,↓uL]
 intro h
 have d:=aL h
 have E:=f.2.2 _<|ve d
 have ab:=f.2.1
 refine A0 m rfl (by simp) λX b O=>?_
 have u:=b.kq q
 have H:Wk X (60,v) p [] (k*10000) a s t:=by
  obtain⟨ls,w,B⟩:=W.gs
  obtain⟨T,y,n⟩:=W.gt
  have d9:∀r:Id,r.1≠60->r∉[((60,v):Id)]:=(by simp_all)
  exact⟨⟨k,O⟩,W.ga.fx b<|λr D=>(by grind [Wk.sa]),⟨ls,w.fx b<|λr D=>(by grind [Wk.ss]),B⟩,⟨T,y.fx b<|λr D=>(by grind [Wk.st]),n⟩,W.la,b.len.trans W.le,rfl,W.sa,W.ss,W.st⟩
 simp only[qz 6,u0,u1,u,rk,pz,aj,ixv,bh,↓uL]
 have aa:bS 4=585:=rfl
 have hm:L (gd p.ay k).body*bS 4<=8*bS 4:=qo _ E.2.1
 refine⟨dJ d,baR g H E.2 (by omega) λe ln M s' Z s5 K G _ _ _=>?_⟩
 have P:=G.keep _ _ (λC=>by
  simp only[eW,dF,iK] at C
  rcases C with h|h|h|h
  ·omega
  ·have:=W.sa _ h;simp at this
  ·have:=W.ss _ h;simp at this
  ·have:=W.st _ h;simp at this) u
 simp only[qz 8,au,u0,u1,rr,aO2,aNK,vp,↓uL]
 exactλ_=>dR (mk:=λ(_:Unit) i=>[iv i]) (s:=()) (s':=()) (λ_ _=>rfl) d (by omega) ⟨M,s',Z,K.mono (by omega),P⟩
def a59{p:aQl}(f:shP p):∃x:Int×Int,Ct 188 [.a p.c] (·= .t [iv x.1,iv x.2]):=by obtain⟨r,⟨e,l,rfl⟩,b,d⟩:=bdo f;exact⟨(e,l),_,rfl,b,d⟩
noncomputable def chk(p:aQl):Int×Int:=@dite _ (shP p) (Classical.propDecidable _) (λh=>Classical.choose<|a59 h) λ_=>(0,0)
def aW1(p:aQl)(b:shP p):Ct 188 [.a p.c] (·= .t [iv (chk p).1,iv (chk p).2]):=by rw[chk,dif_pos b];exact Classical.choose_spec<|a59 b
def aRi:FT:=mT aW1
def bbJ{p Lw K}:=oK aRi aW1 p Lw K (j:=by simp+contextual only[ij,ijv])
def a7B:dO:=(188,aRi)::a7A
def aX4:eJ a7B:=sz (pg aW1)<|a7k
def aWj:=ai @bbJ<|@aWi
section
attribute[local irreducible] aX
def a9E:=I5 11 [(3,([0,2,10],[1,3]))]
def aSv a a1 b c s0 R:=(.mk _:NS a7B a9E Tryz.f242 [a,a1,b,c] [] s0 R).p
def a7U{a a1 b c:AV}{s0:ae}{R:be}(hs:L s0=4096)(h:aSv a a1 b c s0 R):EB 242 [a,a1,b,c] s0 R:=zB a9E aX4 Tryz.func242 h
def a9q:=I5 32 [(8,([6],[1,2,3])),(11,([],[1,2,3,6])),(14,([39],[1,2,3,6,7,31])),(17,([8],[1,2,3,6,7])),(21,([65],[1,2,3,6,7,31])),(26,([9],[1,2,3]))]
def a1P a b R:=(.mk _:NR a7B a9q Tryz.f189 [.u] [a] b R).p
def bgY{c0:List AV}{R:cC}(l0:L c0=2)(h:H1 196 2 1 c0 λia b=>a1P ia b R):Ct 189 [.a c0] R:=z1 a9q aX4 Tryz.func189 l0 h
end
def SiR(Y:ae)(a:AV)(N:Nat)(r:AV)(d:ae):Prop:=∃(a':AV) (e:Int) (l':List dL),r= .t [a',iv e]/\lA d 181 3 a' (l'.map dL.c)/\L l'<=N/\Fx Y d (aA a)/\(∀q∈aA a',q∈aA a\/bK Y q)/\∀q∈aA a',q∈aA a\/q.1=27
def bdu(u:Int):∀(m:Nat) {Y:ae} {a:AV} {n:Int} {l:List dL} {st:List NA},L Y=4096->lA Y 181 3 a (l.map dL.c)->shL m 8 st->L l+L st*bS m<100000->
  ∃r f,SiR Y a (L l+L st*bS m) r f/\cZ aS GG 242 [a,iv u,iv n,sl NA.c st] Y r f:=by
 intro m
 induction m with
 |zero=>
  intro Y a n l st y g hs hn
  have:st=[]:=List.eq_nil_iff_forall_not_mem.2 λx O=>hs.2 x O
  subst this
  refine a7U y ?_
  simp only[aSv]
  refine jD (α:=AV×Int) (λs i=>[s.1,iv s.2,iv i]) 2 0 (λ_ s Y'=>Y'=Y/\s.1=a) (s0:=(a,n)) ⟨rfl,rfl⟩ ?_
  rintro k ⟨a',n'⟩ f hk ⟨rfl,rfl⟩
  simp only[qz 19,qy 2,aI,au,u0,u1,aO1,↓uL]
  exact⟨λh=>by simp at h;omega,λ_=>⟨_,_,l,rfl,g,by omega,Fx.refl _ _,λ_ h=> .inl h,λ_ h=> .inl h⟩⟩
 |succ m ih=>
  intro Y a n l st y g hs hn
  refine a7U y ?_
  simp only[aSv]
  refine jD (α:=AV×Int) (λs i=>[s.1,iv s.2,iv i]) 2 (L st) (λk s Y'=>∃l':List dL,lA Y' 181 3 s.1 (l'.map dL.c)/\L l'<=L l+k*bS (m+1)/\Fx Y Y' (aA a)/\(∀q∈aA s.1,q∈aA a\/bK Y q)/\∀q∈aA s.1,q∈aA a\/q.1=27) (s0:=(a,n)) (by grind [Fx.refl]) ?_
  rintro k ⟨a1,o⟩ f hk ⟨l1,g1,aB,M,i1,p1⟩
  simp only at g1 i1 p1
  have z:L f=4096:=M.len.trans y
  simp only[qz 19,qy 2,aI,au,u0,u1,ixv,bh,rk,pz,↓uL]
  refine⟨λh=>⟨u7 h,?_⟩,λh=>⟨a1,o,l1,rfl,g1,by grind,M,i1,p1⟩⟩
  have e:=aL h
  have O:=hs.2 _<|ve e
  obtain⟨m',aE,b1,b2⟩:=O.body
  obtain rfl:m=m':=by omega
  have ag:L l+k*bS (m+1)+(1+8*bS m)<=L l+L st*bS (m+1):=by
   have h9:(k+1)*bS (m+1)<=L st*bS (m+1):=qo _ e
   grind [bS]
  generalize H:gd st k=x at*
  have X:bM bt1 aM7 [(0,iv u),(1,iv o),(2,iv x.line)]=V (.a<|dL.c ⟨u,o,x.line⟩):=rfl
  have Z:aX btT 1 f [(0, .a<|dL.c ⟨u,o,x.line⟩)]=V (.l ([(⟨u,o,x.line⟩:dL)].map dL.c) U U,f):=ua rfl rfl rfl (by decide) rfl (by decide)
  simp only[X,aY,Z,bQ]
  refine apQ g1 z (by grind [dL.c]) (by grind [dL.c]) (by simp) (by simp;omega) λa2 T W R N2=>?_
  have aq:L T=4096:=R.len.trans z
  rw[<-dg] at W
  have P:Fx Y T (aA a):=(M.trans R).mono (by grind [bK.no])
  have v:∀{D:ae} {a3:AV} {n3:Int} {E:List dL} {G:List NA} {d:Nat} {K:be},lA D 181 3 a3 (E.map dL.c)->shL m 4 G->L E<=L l+k*bS (m+1)+(1+4*bS m)->Fx Y D (aA a)->(∀q∈aA a3,q∈aA a\/bK Y q)->(∀q∈aA a3,q∈aA a\/q.1=27)->
    (∀(a4:AV) (F:Int) (B:List dL) (j:ae),lA j 181 3 a4 (B.map dL.c)->L B<=L E+4*bS m->Fx Y j (aA a)->(∀q∈aA a4,q∈aA a\/bK Y q)->(∀q∈aA a4,q∈aA a\/q.1=27)->K (.t [a4,iv F]) j)->cB 242 [a3,iv u,iv n3,sl NA.c G] D d K:=by
   intro D a3 n3 E G d K g3 A aC S i3 p3 hK
   have h4:L G*bS m<=4*bS m:=qo _ A.1
   refine jH rfl (ih (S.len.trans y) g3 ⟨by have:=A.1;omega,A.2⟩<|by omega) ?_
   rintro r j ⟨a4,F,B,rfl,N,aa,C,i4,p4⟩
   exact⟨C.len,hK a4 F B j N (by omega) ((S.trans C).mono<|by grind [bK.no]) (by grind [bK.old])<|by grind⟩
  simp only[qz 4,au,u0,u1,ixv,bh,rk,pz,H,↓uL]
  refine⟨dJ e,v W.p b1 (by simp;omega) P (by grind [bK.old]) (by grind) λa4 F B j N aa C i4 p4=>?_⟩
  simp only[qz 6,au,rr,u0,u1,ixv,bh,pz,H,↓uL]
  refine⟨dJ e,v N b2 (by grind) C i4 p4 λa5 n5 l5 Y5 g5 aD F5 i5 p5=>?_⟩
  simp only[qz 8,au,rr,u0,u1,↓uL]
  refine dR (mk:=λ(s:AV×Int) i=>[s.1,iv s.2,iv i]) (s:=(a1,o)) (s':=(a5,n5)) (λ_ _=>rfl) e (by have:=hs.1;omega) ⟨l5,g5,?_,F5,i5,p5⟩
  grind [bS]
structure Wo(Y:ae)(b:Id)(w:J9)(a0 a1 a2 a3 a4 a5:AV):Prop where
 bx:box Y b=V ⟨31,6,U,U,[[a0,a1,a2,a3,a4,a5]]⟩
 g0:lA Y 175 5 a0 (w.cells.map cA.c)
 g1:lA Y 177 2 a1 (w.ak.map dS.c)
 g2:lA Y 179 2 a2 (w.bC.map aOw.c)
 g3:lA Y 9 1 a3 (w.bU.map cs)
 g4:lA Y 9 1 a4 (w.ay.map cs)
 g5:lA Y 181 3 a5 (w.dU.map dL.c)
 p0:∀q∈aA a0,q.1=63
 p1:∀q∈aA a1,q.1=77
 p2:∀q∈aA a2,q.1=92
 p3:∀q∈aA a3,q.1=37
 p4:∀q∈aA a4,q.1=110
 p5:∀q∈aA a5,q.1=27
 sb:b.1=3
 le:L Y=4096
section
variable{Y Y':ae}{b:Id}{w:J9}{a0 a1 a2 a3 a4 a5 a':AV}
theorem Wo.fx0(W:Wo Y b w a0 a1 a2 a3 a4 a5)(F:Fx Y Y' []):Wo Y' b w a0 a1 a2 a3 a4 a5:=⟨F.kq W.bx,W.g0.fx F (by simp),W.g1.fx F (by simp),W.g2.fx F (by simp),W.g3.fx F (by simp),W.g4.fx F (by simp),W.g5.fx F (by simp),W.p0,W.p1,W.p2,W.p3,W.p4,W.p5,W.sb,F.len.trans W.le⟩
theorem Wo.up0{new:List cA}(W:Wo Y b w a0 a1 a2 a3 a4 a5)(e:box Y' b=V ⟨31,6,U,U,[[a',a1,a2,a3,a4,a5]]⟩)(g:bc Y' 175 5 a'<|(w.cells++new).map cA.c)(F:Fx Y Y' (b::aA a0))(N:∀q∈aA a',bK Y q/\q.1=63):Wo Y' b {w with cells:=w.cells++new} a' a1 a2 a3 a4 a5:=by have d:∀q:Id,q.1≠3->q.1≠63->q∉b::aA a0:=λq f h a=>(by grind [Wo.sb,Wo.p0]);exact⟨e,g.p,W.g1.fx F<|λq a=>(by grind [Wo.p1]),W.g2.fx F<|λq a=>(by grind [Wo.p2]),W.g3.fx F<|λq a=>(by grind [Wo.p3]),W.g4.fx F<|λq a=>(by grind [Wo.p4]),W.g5.fx F<|λq a=>(by grind [Wo.p5]),(by grind),W.p1,W.p2,W.p3,W.p4,W.p5,W.sb,F.len.trans W.le⟩
theorem Wo.up1{new:List dS}(W:Wo Y b w a0 a1 a2 a3 a4 a5)(e:box Y' b=V ⟨31,6,U,U,[[a0,a',a2,a3,a4,a5]]⟩)(g:bc Y' 177 2 a'<|(w.ak++new).map dS.c)(F:Fx Y Y' (b::aA a1))(N:∀q∈aA a',bK Y q/\q.1=77):Wo Y' b {w with ak:=w.ak++new} a0 a' a2 a3 a4 a5:=by have d:∀q:Id,q.1≠3->q.1≠77->q∉b::aA a1:=λq f h a=>(by grind [Wo.sb,Wo.p1]);exact⟨e,W.g0.fx F<|λq a=>(by grind [Wo.p0]),g.p,W.g2.fx F<|λq a=>(by grind [Wo.p2]),W.g3.fx F<|λq a=>(by grind [Wo.p3]),W.g4.fx F<|λq a=>(by grind [Wo.p4]),W.g5.fx F<|λq a=>(by grind [Wo.p5]),W.p0,(by grind),W.p2,W.p3,W.p4,W.p5,W.sb,F.len.trans W.le⟩
theorem Wo.up2{new:List aOw}(W:Wo Y b w a0 a1 a2 a3 a4 a5)(e:box Y' b=V ⟨31,6,U,U,[[a0,a1,a',a3,a4,a5]]⟩)(g:bc Y' 179 2 a'<|(w.bC++new).map aOw.c)(F:Fx Y Y' (b::aA a2))(N:∀q∈aA a',bK Y q/\q.1=92):Wo Y' b {w with bC:=w.bC++new} a0 a1 a' a3 a4 a5:=by have d:∀q:Id,q.1≠3->q.1≠92->q∉b::aA a2:=λq f h a=>(by grind [Wo.sb,Wo.p2]);exact⟨e,W.g0.fx F<|λq a=>(by grind [Wo.p0]),W.g1.fx F<|λq a=>(by grind [Wo.p1]),g.p,W.g3.fx F<|λq a=>(by grind [Wo.p3]),W.g4.fx F<|λq a=>(by grind [Wo.p4]),W.g5.fx F<|λq a=>(by grind [Wo.p5]),W.p0,W.p1,(by grind),W.p3,W.p4,W.p5,W.sb,F.len.trans W.le⟩
theorem Wo.up3{new:List ByteArray}(W:Wo Y b w a0 a1 a2 a3 a4 a5)(c:box Y' b=V ⟨31,6,U,U,[[a0,a1,a2,a',a4,a5]]⟩)(g:bc Y' 9 1 a'<|(w.bU++new).map cs)(F:Fx Y Y' (b::aA a3))(N:∀q∈aA a',bK Y q/\q.1=37):Wo Y' b {w with bU:=w.bU++new} a0 a1 a2 a' a4 a5:=by have d:∀q:Id,q.1≠3->q.1≠37->q∉b::aA a3:=λq e f a=>(by grind [Wo.sb,Wo.p3]);exact⟨c,W.g0.fx F<|λq a=>(by grind [Wo.p0]),W.g1.fx F<|λq a=>(by grind [Wo.p1]),W.g2.fx F<|λq a=>(by grind [Wo.p2]),g.p,W.g4.fx F<|λq a=>(by grind [Wo.p4]),W.g5.fx F<|λq a=>(by grind [Wo.p5]),W.p0,W.p1,W.p2,(by grind),W.p4,W.p5,W.sb,F.len.trans W.le⟩
theorem Wo.up4{new:List ByteArray}(W:Wo Y b w a0 a1 a2 a3 a4 a5)(c:box Y' b=V ⟨31,6,U,U,[[a0,a1,a2,a3,a',a5]]⟩)(g:bc Y' 9 1 a'<|(w.ay++new).map cs)(F:Fx Y Y' (b::aA a4))(N:∀q∈aA a',bK Y q/\q.1=110):Wo Y' b {w with ay:=w.ay++new} a0 a1 a2 a3 a' a5:=by have d:∀q:Id,q.1≠3->q.1≠110->q∉b::aA a4:=λq e f a=>(by grind [Wo.sb,Wo.p4]);exact⟨c,W.g0.fx F<|λq a=>(by grind [Wo.p0]),W.g1.fx F<|λq a=>(by grind [Wo.p1]),W.g2.fx F<|λq a=>(by grind [Wo.p2]),W.g3.fx F<|λq a=>(by grind [Wo.p3]),g.p,W.g5.fx F<|λq a=>(by grind [Wo.p5]),W.p0,W.p1,W.p2,W.p3,(by grind),W.p5,W.sb,F.len.trans W.le⟩
end
def WBd(w:J9):Prop:=L w.cells<100000/\L w.ak<100000/\L w.bC<100000/\L w.bU<100000/\L w.ay<100000/\L w.dU<100000
def bbe:∀k,k<9->(gd aNF k).size<=4:=by decide
def rwW{a b c d e f:AV}:aN (V 6) [a,b,c,d,e,f]=V (.a [a,b,c,d,e,f]):=rfl
def aXi(p:aQl)(hp:shP p/\p.bm0=aNF):Ct 189 [.a p.c] (λr=>∃w:J9,r= .a w.c/\WBd w/\((chk p).1=0->∃c∈w.cells,c.name=qN)):=by
 obtain⟨hp,hd⟩:=hp
 refine aDq (bgY rfl λs2 hl b1 h0=>?_)
 simp only[a1P,qy 4]
 refine I4 hl λv2 s4 F4 N4 b2=>?_
 have aB:L s4=4096:=F4.len.trans hl
 refine I4 aB λC s6 F6 N6 H=>?_
 have c1:=F6.kq<|F4.kq b1
 have c2:=F6.kq b2
 have bB:L s6=4096:=F6.len.trans aB
 have W6:Wo s6 (3,C) ⟨[],[],[],[],[],[]⟩ (.l [] U U) (.l [] U U) (.l [] U U) (.l [] U U) (.l [] U U) (.l [] U U):=⟨H, .inl ⟨rfl,rfl⟩, .inl ⟨rfl,rfl⟩, .inl ⟨rfl,rfl⟩, .inl ⟨rfl,rfl⟩, .inl ⟨rfl,rfl⟩, .inl ⟨rfl,rfl⟩,by simp[aA],by simp[aA],by simp[aA],by simp[aA],by simp[aA],by simp[aA],rfl,bB⟩
 have aT:∀{Y:ae} {w:J9} {a0 a1 a2 a3 a4 a5:AV} {r:List AV},Wo Y (3,C) w a0 a1 a2 a3 a4 a5->box Y (2,v2)=V ⟨31,6,U,U,[r]⟩->L r=6->WBd w->((chk p).1=0->∃c∈w.cells,c.name=qN)->
   aw 6 Y (.p (3,C) 0 0) λt=>sV (aK 6 Y (.p (2,v2) 0 0) t) λaF=>aw 6 aF (.p (2,v2) 0 0) λbd=>aE (λr=>∃w:J9,bm1 r= .a w.c/\WBd w/\((chk p).1=0->∃c∈w.cells,c.name=qN)) aF [bd]:=by
  intro Y w a0 a1 a2 a3 a4 a5 r W hb hr hB y
  simp only[aC5,W.bx,aww,aBF,df,axE,awx,rwW,aY,↓uL]
  refine stW hb hr rfl λY' F b'=>?_
  simp only[b',aww,aBF,df,awx,rwW,aY]
  have d:∀q:Id,q.1≠2->q∉[((2,v2):Id)]:=(by simp_all)
  refine aOv (Q:=λr=>∃w:J9,r= .a w.c/\WBd w/\((chk p).1=0->∃c∈w.cells,c.name=qN)) (v':= .a w.c) ?_ rfl ⟨w,rfl,hB,y⟩
  simp only[fzT,ji,mU,aBr<|W.g0.fx F λq y=>(by grind [Wo.p0]),aBr<|W.g1.fx F λq y=>(by grind [Wo.p1]),aBr<|W.g2.fx F λq y=>(by grind [Wo.p2]),aBr<|W.g3.fx F λq y=>(by grind [Wo.p3]),aBr<|W.g4.fx F λq y=>(by grind [Wo.p4]),aBr<|W.g5.fx F λq y=>(by grind [Wo.p5])]
  rfl
 simp+contextual only[qz 6,qy 8,u0,u1,c1,pz,ar,Fa,aWj,hp,rr,↓uL]
 refine⟨λbD=>aT W6 c2 rfl (by simp[WBd]) (λh=>by simp[h] at bD),λck=>?_⟩
 have h9:L p.bm0=9:=by rw[hd];rfl
 obtain⟨Inv,ax⟩:∃g:Nat->Unit->ae->Prop,g=λk _ Y=>∃(w:J9) (a0 a1 a2 a3 a4 a5:AV) (r:List AV),Wo Y (3,C) w a0 a1 a2 a3 a4 a5/\box Y (1,1)=V ⟨196,2,U,U,[p.c]⟩/\box Y (2,v2)=V ⟨31,6,U,U,[r]⟩/\L r=6/\L w.cells<=4*k/\L w.ak<=k/\L w.bC<=k/\L w.bU<=k/\w.ay=[]/\w.dU=[]/\(3<k->∃c∈w.cells,c.name=qN):=⟨_,rfl⟩
 refine yV (L p.bm0) Inv (by rw[ax];exact⟨_,_,_,_,_,_,_,_,W6,c1,c2,rfl,by simp,by simp,by simp,by simp,rfl,rfl,by simp⟩) ?_
 rintro k _ Y hk hi
 rw[ax] at hi
 obtain⟨w,a0,a1,a2,a3,a4,a5,r,W,d1,d2,hr,n0,n1,n2,n3,n4,n5,y⟩:=hi
 simp only[qz 49,aI,au,u0,u1,d1,rk,pz,aj,↓uL]
 refine⟨λh=>bsK (λe=>∀{Y':ae} {X:J9} {x0 x1 x2 x3 x4 x5:AV},Wo Y' (3,C) X x0 x1 x2 x3 x4 x5->box Y' (1,1)=V ⟨196,2,U,U,[p.c]⟩->box Y' (2,v2)=V ⟨31,6,U,U,[r]⟩->L X.cells<=4*(k+1)->L X.ak<=k+1->L X.bC<=k+1->L X.bU<=k+1->X.ay=[]->X.dU=[]->(3<k+1->∃c∈X.cells,c.name=qN)->e [] Y') ?_ λe af=>?_,λh=>?_⟩
 ·intro Y' X x0 x1 x2 x3 x4 x5 g1 g2 A g4 g5 g6 g7 g8 g9 ch
  simp only[qz 69,aI,au,u0,u1,↓uL]
  exact dR (mk:=λ(_:Unit) i=>[iv i]) (s:=()) (s':=()) (λ_ _=>rfl) (aL h) (by omega) (by grind)
 ·simp only[qz 71,qy 10,u0,u1,d1,rk,pz,aj,ixv,bh,↓uL]
  refine⟨u7 h,anu W.le λv7 R F1 N1 e7=>?_⟩
  have ac:=aL h
  have o:=W.fx0 F1
  have e1:=F1.kq d1
  have e2:=F1.kq d2
  have co:(gd p.bm0 k).size<=4:=by rw[hd];exact bbe k (by omega)
  have cn:k=3->(gd p.bm0 k).kind=1/\(gd p.bm0 k).name=qN:=by rintro rfl;rw[hd];exact⟨rfl,rfl⟩
  generalize cj:gd p.bm0 k=m at*
  have ep:∀{Y':ae} {j:Nat} {a:AV} {T z:Nat} {bq:Bool} {rs:List (List AV)} {q:Id},Fx R Y' ((3,C)::aA a)->(∀q∈aA a,q.1=j)->q.1≠3->q.1≠j->box R q=V ⟨T,z,U,bq,rs⟩->box Y' q=V ⟨T,z,U,bq,rs⟩:=λF hj E cl hb=>F.keep _ _ (by grind) hb
  have nb:∀{a:AV} {j:Nat},(∀q∈aA a,q.1=j)->j≠3->((3,C):Id)∉aA a:=(by grind)
  have ad:k≠3->3<k+1->∃c∈w.cells,c.name=qN:=(by grind)
  have bs:dG R a1=sl dS.c w.ak:=o.g1.ar
  have N:∀{a:AV} {j:Nat},(∀q∈aA a,q.1=j)->∀q:Id,q.1≠3->q.1≠j->q∉((3,C):Id)::aA a:=(by grind)
  have kc:(m.kind=1\/m.kind=2)\/(m.kind=3\/m.kind=4)\/m.kind=5\/(m.kind≠1/\m.kind≠2/\m.kind≠3/\m.kind≠4/\m.kind≠5):=by omega
  have az:m.kind≠1->k≠3:=(by omega)
  rcases kc with h|h|h|⟨h1,h2,E,h4,h5⟩
  ·rcases h with h|h
   all_goals
    simp only[qz 12,a7i,qz 89,qz 87,qz 131,qz 129,qy 20,qy 26,qy 32,aI,au,u0,u1,e7,o.bx,pz,aj,ar,eE,sr,aO5,aQ6,aNU,h,bpF,bqF,Int.reduceEq,↓iC,↓iB,↓uL]
    obtain⟨M,hM⟩:∃M:Int,M=if 1>m.size then 1 else m.size:=⟨_,rfl⟩
    have ci:1<=M/\M<=4:=by omega
    refine yV M.toNat (λS _ Y'=>∃(new:List cA) (x0:AV),Wo Y' (3,C) {w with cells:=w.cells++new} x0 a1 a2 a3 a4 a5/\box Y' (1,1)=V ⟨196,2,U,U,[p.c]⟩/\box Y' (2,v2)=V ⟨31,6,U,U,[r]⟩/\box Y' (7,v7)=V ⟨308,6,U,U,[m.c]⟩/\L new=S/\(0<S->∃c∈new,c.name=m.name)) ⟨[],a0,by simpa using o,e1,e2,e7,rfl,by simp⟩ ?_
    rintro S _ Y2 cm ⟨new,x0,v,f1,f2,f7,bb,bF⟩
    simp only[qz 103,qy 14,aI,au,u0,u1,f7,v.bx,pz,aj,aRW,<-hM,↓uL]
    refine⟨λh2=>?_,λh2=>?_⟩
    ·have ba:S<M.toNat:=by grind
     have Z:bM bsR aOs [(0,st m.name),(1,iv S),(2,iv m.size),(3,bv<|Q<|m.kind=2),(4,iv m.init)]=V (.a<|cA.c ⟨m.name,S,m.size,Q<|m.kind=2,m.init⟩):=rfl
     have D:∀{x:cA},aX btQ 1 Y2 [(0, .a<|cA.c x)]=V (.l ([x].map cA.c) U U,Y2):=λ{x}=>ua rfl rfl rfl (by decide) rfl (by decide)
     simp only[Z,aY,D,bQ,↓uL]
     refine gfP (j:=0) v.bx (by simp) v.g0 (nb v.p0<|by decide) rfl (by decide) (by rw[v.le];decide) (qW (f:=cA.c) (z:=5) λ_=>rfl) (qW (f:=cA.c) (z:=5) λ_=>rfl) (by simp) (by simp;omega) (by simp) λa' Y3 H A u P=>?_
     simp only[qz 18,au,u0,u1,↓uL]
     rw[<-dg] at A
     have N:∀{q:Id},q.1≠3->q.1≠63->q∉((3,C):Id)::aA x0:=λE br y=>by
      rcases eW.1 y with h|h
      ·rw[h] at E;exact E rfl
      ·exact br (v.p0 _ h)
     have B:=v.up0 (new:=[⟨m.name,S,m.size,Q<|m.kind=2,m.init⟩]) H A u P
     refine dR (mk:=λ(_:Unit) i=>[iv i]) (s:=()) (s':=()) (λ_ _=>rfl) ba (by omega) ⟨new++[⟨m.name,S,m.size,Q<|m.kind=2,m.init⟩],a',by grind,u.keep _ _ (by grind) f1,u.keep _ _ (by grind) f2,u.keep _ _ (by grind) f7,by simp[bb],by simp⟩
    ·have cc:S=M.toNat:=by grind
     refine af v f1 f2 (by simp;omega) (by grind) (by grind) (by grind) n4 n5 λE=>?_
     by_cases h4:k=3
     ·obtain⟨c,hc,bt⟩:=bF (by omega)
      grind
     ·obtain⟨c,hc,bt⟩:=ad h4 E
      grind
  ·have E:=az (by omega)
   rcases h with h|h
   all_goals
    simp only[qz 12,a7i,qz 89,qz 87,qz 131,qz 129,qy 20,qy 26,qy 32,aI,au,u0,u1,e7,o.bx,pz,aj,ar,eE,sr,aO5,aQ6,aNU,h,bpF,bqF,Int.reduceEq,↓iC,↓iB,↓uL]
    have Z:∀{rw:Bool},bM btf brF [(0,st m.name),(1,bv rw)]=V (.a<|dS.c ⟨m.name,rw⟩):=λ{rw}=>rfl
    have D:∀{x:dS},aX btR 1 R [(0, .a<|dS.c x)]=V (.l ([x].map dS.c) U U,R):=λ{x}=>ua rfl rfl rfl (by decide) rfl (by decide)
    simp only[Z,aY,D,bQ]
    refine gfP (j:=1) o.bx (by simp) o.g1 (nb o.p1<|by decide) rfl (by decide) (by rw[o.le];decide) (qW (f:=dS.c) (z:=2) λ_=>rfl) (qW (f:=dS.c) (z:=2) λ_=>rfl) (by simp) (by simp;omega) (by simp) λa' Y3 H A u P=>?_
    rw[<-dg] at A
    exact af (o.up1 (new:=[⟨m.name,_⟩]) H A u P) (u.keep _ _ (N o.p1 _ (by simp)<|by simp) e1) (u.keep _ _ (N o.p1 _ (by simp)<|by simp) e2) (by grind) (by simp;omega) (by grind) (by grind) n4 n5<|ad E
  ·have E:=az (by omega)
   simp only[qz 12,a7i,qz 89,qz 87,qz 131,qz 129,qy 20,qy 26,qy 32,aI,au,u0,u1,e7,o.bx,pz,aj,bs,ar,aWj,rr,eE,aO5,aQ6,h,bpF,bqF,Int.reduceEq,↓iC,↓iB,↓uL]
   refine⟨by omega,λx=>?_⟩
   have Z:bM bt0 brF [(0,st m.name),(1,iv x)]=V (.a<|aOw.c ⟨m.name,x⟩):=rfl
   have D:∀{x:aOw},aX btS 1 R [(0, .a<|aOw.c x)]=V (.l ([x].map aOw.c) U U,R):=λ{x}=>ua rfl rfl rfl (by decide) rfl (by decide)
   simp only[Z,aY,D,bQ]
   refine gfP (j:=2) o.bx (by simp) o.g2 (nb o.p2<|by decide) rfl (by decide) (by rw[o.le];decide) (qW (f:=aOw.c) (z:=2) λ_=>rfl) (qW (f:=aOw.c) (z:=2) λ_=>rfl) (by simp) (by simp;omega) (by simp) λa' Y3 H A u P=>?_
   rw[<-dg] at A
   simp only[qz 30,↓uL]
   refine dT (by first|rfl|(simp[eL,okT,tok,lb,cq,Qh,m8,dC,pP,dK];done)) ?_
   exact af (o.up2 (new:=[⟨m.name,x⟩]) H A u P) (u.keep _ _ (N o.p2 _ (by simp)<|by simp) e1) (u.keep _ _ (N o.p2 _ (by simp)<|by simp) e2) (by grind) (by grind) (by simp;omega) (by grind) n4 n5<|ad E
  ·simp only[qz 12,a7i,qz 89,qz 87,qz 131,qz 129,qy 20,qy 26,qy 32,aI,au,u0,u1,e7,o.bx,pz,aj,ar,eE,aO5,aQ6,h1,h2,E,h4,h5,bqF,↓iB,↓uL]
   have E:=az h1
   have D:aX zd9 1 R [(0,st m.name)]=V (.l ([m.name].map cs) U U,R):=iz
   simp only[D,bQ]
   refine gfP (j:=3) o.bx (by simp) o.g3 (nb o.p3<|by decide) rfl (by decide) (by rw[o.le];decide) oX oX (by simp) (by simp;omega) (by simp) λa' Y3 H A u P=>?_
   rw[<-dg] at A
   exact af (o.up3 (new:=[m.name]) H A u P) (u.keep _ _ (N o.p3 _ (by simp)<|by simp) e1) (u.keep _ _ (N o.p3 _ (by simp)<|by simp) e2) (by grind) (by grind) (by grind) (by simp;omega) n4 n5<|ad E
 ·have bz:k=9:=by grind
  subst bz
  clear hk h
  refine yV (L p.ay) (λk _ Y=>∃(O:J9) (a4 a5:AV),Wo Y (3,C) O a0 a1 a2 a3 a4 a5/\O.cells=w.cells/\O.ak=w.ak/\O.bC=w.bC/\O.bU=w.bU/\box Y (1,1)=V ⟨196,2,U,U,[p.c]⟩/\box Y (2,v2)=V ⟨31,6,U,U,[r]⟩/\L O.ay<=k/\L O.dU<=k*5000) (by grind) ?_
  rintro k _ Y2 hk ⟨O,x4,x5,v,w0,w1,w2,w3,f1,f2,m4,m5⟩
  have cp:=hp.2.1
  simp only[qz 157,qy 38,qy 48,aI,au,u0,u1,f1,v.bx,rk,pz,aj,ixv,bh,↓uL]
  refine⟨λh=>⟨u7 h,?_⟩,λh=>?_⟩
  rotate_left
  ·have:=aT v f2 hr (by simp only[WBd,w0,w1,w2,w3];omega) (λ_=>by rw[w0];exact y<|by omega)
   simp only[u1,v.bx,pz,↓uL] at this
   exact this
  have ac:=aL h
  have aR:=(hp.2.2 _<|ve ac).2
  generalize bG:gd p.ay k=tk at*
  have D:aX zd9 1 Y2 [(0,st tk.name)]=V (.l ([tk.name].map cs) U U,Y2):=iz
  simp only[D,bQ]
  have nb:∀{a:AV} {j:Nat},(∀q∈aA a,q.1=j)->j≠3->((3,C):Id)∉aA a:=(by grind)
  have N:∀{a:AV} {j:Nat},(∀q∈aA a,q.1=j)->∀q:Id,q.1≠3->q.1≠j->q∉((3,C):Id)::aA a:=(by grind)
  refine gfP (j:=4) v.bx (by simp) v.g4 (nb v.p4<|by decide) rfl (by decide) (by rw[v.le];decide) oX oX (by simp) (by simp;omega) (by simp) λa' Y3 H A u P=>?_
  rw[<-dg] at A
  have B:=v.up4 (new:=[tk.name]) H A u P
  have h1:=u.keep _ _ (N v.p4 _ (by simp)<|by simp) f1
  have h2:=u.keep _ _ (N v.p4 _ (by simp)<|by simp) f2
  have b8:bS 4=585:=rfl
  have hm:L tk.body*bS 4<=8*bS 4:=qo _ aR.1
  simp only[qz 42,↓uL]
  refine dT (by first|rfl|(simp[eL,okT,tok,lb,cq,Qh,m8,dC,pP,dK];done)) ?_
  simp only[u0,u1,B.bx,h1,rk,pz,aj,ixv,bh,bG,↓uL]
  refine⟨dJ ac,jH rfl (bdu k 4 (n:=0) B.le B.g5 aR<|by grind) ?_⟩
  rintro cr Y4 ⟨aJ,n',l',rfl,g4,aB,F4,i4,p4⟩
  refine⟨F4.len,?_⟩
  have p5:∀q∈aA aJ,q.1=27:=λq y=>(by grind [Wo.p5])
  have bo:∀q:Id,q.1≠27->q∉aA x5:=λq h y=>h<|B.p5 q y
  have b4:=F4.keep _ _ (bo _<|by simp) B.bx
  simp only[qz 44,rr,aY,u1,b4,aj,↓uL]
  refine A0 b4 g4.ce (by simp) λY5 F5 b5=>?_
  simp only[qz 46,↓uL]
  refine dT (by first|rfl|(simp[eL,okT,tok,lb,cq,Qh,m8,dC,pP,dK];done)) ?_
  have cg:∀q:Id,q.1≠3->q∉[((3,C):Id)]:=(by grind)
  have G:Fx Y3 Y5 (aA x5++[(3,C)]):=F4.trans F5
  have K:∀q:Id,q.1≠27->q.1≠3->q∉aA x5++[((3,C):Id)]:=(by grind)
  have W5:Wo Y5 (3,C) {O with ay:=O.ay++[tk.name],dU:=l'} a0 a1 a2 a3 a' aJ:=⟨b5,B.g0.fx G<|λq y=>K q (by grind [Wo.p0])<|by grind [Wo.p0],B.g1.fx G<|λq y=>K q (by grind [Wo.p1])<|by grind [Wo.p1],B.g2.fx G<|λq y=>K q (by grind [Wo.p2])<|by grind [Wo.p2],B.g3.fx G<|λq y=>K q (by grind [Wo.p3])<|by grind [Wo.p3],B.g4.fx G<|λq y=>K q (by grind)<|by grind,g4.fx F5 (by grind),B.p0,B.p1,B.p2,B.p3,B.p4,p5,rfl,F5.len.trans<|F4.len.trans B.le⟩
  simp only[u0,u1,↓uL]
  refine dR (mk:=λ(_:Unit) i=>[iv i]) (s:=()) (s':=()) (λ_ _=>rfl) ac (by omega) ⟨_,a',aJ,W5,w0,w1,w2,w3,G.keep _ _ (by grind) h1,G.keep _ _ (by grind) h2,by simp;omega,?_⟩
  grind
def aUd:FT:=om aXi
def bb0{p Lw K}:=aUy aUd aXi p Lw K (j:=by simp+contextual only[ij,ijv])
def aYc:dO:=(189,aUd)::a7B
def aX5:eJ aYc:=sz (rj aXi)<|aX4
def aQV:=ai @bb0<|@aWj
section
attribute[local irreducible] aX
def a5E:=I5 28 [(7,([7],[2,3,4,5,6])),(13,([],[2,3,4,5,6,7,8])),(16,([9],[2,3,4,5,6,7,8])),(21,([],[2,3,4,5,6,7,8]))]
def aUA a s0 R:=(.mk _:NF<|zF GGV aYc a5E Tryz.f123 [a] [] s0<|I3 Tryz.f123 R).p
def bgf{a:AV}{R:cC}(h:∀s0:ae,L s0=4096->(∀k,aZ s0 k=mO)->aUA a s0 R):Fn aS GG 123 [a] R:=by refine fnV (uq ready (aQ9 aX5) Tryz.func123 (an:=a5E) (by kernel_rfl)<|Eq.mpr (show ZF aS GGV aYc a5E Tryz.f123 [a] R=(aUA a (ly Tryz.f123) R) by kernel_rfl) ?_);exact h _ uB<|i8 _
def a9m:=I5 32 [(9,([8,9],[1,2,7])),(21,([12],[1,2,7,8,9,10,11])),(27,([14],[1,2,7,8,9,10,11,12,13]))]
def a1t a b R:=(.mk _:NR aYc a9m Tryz.f122 [.u] [a] b R).p
def bgU{c0:List AV}{R:cC}(l0:L c0=2)(h:H1 196 2 1 c0 λia b=>a1t ia b R):Ct 122 [.a c0] R:=z1 a9m aX5 Tryz.func122 l0 h
end
section
attribute[local irreducible] aX
def aUF a a1 s0 R:=(.mk _:NS a7x ato Tryz.f115 [a,a1] [] s0 R).p
def bgg{a a1:AV}{s0:ae}{R:be}(hs:L s0=4096)(h:aUF a a1 s0 R):EB 115 [a,a1] s0 R:=zB ato aNH Tryz.func115 h
def aUJ a a1 s0 R:=(.mk _:NS a7x at1 Tryz.f281 [a,a1] [] s0 R).p
def bgo{a a1:AV}{s0:ae}{R:be}(hs:L s0=4096)(h:aUJ a a1 s0 R):EB 281 [a,a1] s0 R:=zB at1 aNH Tryz.func281 h
def aUI a a1 s0 R:=(.mk _:NS a7x atB Tryz.f278 [a,a1] [] s0 R).p
def bgm{a a1:AV}{s0:ae}{R:be}(hs:L s0=4096)(h:aUI a a1 s0 R):EB 278 [a,a1] s0 R:=zB atB aNH Tryz.func278 h
def aUH a a1 b s0 R:=(.mk _:NS a7x avg Tryz.f282 [a,a1,b] [] s0 R).p
def bgl{a a1 b:AV}{s0:ae}{R:be}(hs:L s0=4096)(h:aUH a a1 b s0 R):EB 282 [a,a1,b] s0 R:=zB avg aNH Tryz.func282 h
def a8R:=I5 47 [(13,([],[4,7]))]
def aUK a a1 s0 R:=(.mk _:NS a7x a8R Tryz.f244 [a,a1] [] s0 R).p
def bgp{a a1:AV}{s0:ae}{R:be}(hs:L s0=4096)(h:aUK a a1 s0 R):EB 244 [a,a1] s0 R:=zB a8R aNH Tryz.func244 h
def a8S:=I5 9 [(4,([7,8],[0,1,2]))]
def aZ9 d(I1:aG)(m1:bu) e b a:=aV (gt d 1) (iv 1) λc=>I1 [b,c] a/\m1 [b,c] a<m1 d e
def aUQ a I1 m1 f d b:=eV (aX brP 1 b [(0,d)]) λe c=>eV (apA 274 brG 176 c 30 (gt a 0) e)<|aZ9 a I1 m1 f
def aRp k d a1 R I1 m1 b c:=Rg->aU (gt b 1) k λt3=>Qct t3 (gt b 1) λl=>Qot t3 (QbE l<|iv 0) λm=>Qct t3 m λa=>bX a d λe=>aC a (rV<|cO c e) λf=>bn a 2 c f λg=>aC a (aO .gtr g<|iv 0) λh=>Qot t3 (aD a (bv U) h) λi=>aD t3 i (bv I) λj=>ah j (cB 244 [d,a1] c 28<|aUQ b I1 m1 c)<|aNN R c [gt b 0]
def aUP a a1 b s0 R:=lV [.l [] U U,iv 0] s0<|aRp b a a1 R
def bgq{a a1 b:AV}{s0:ae}{R:be}(hs:L s0=4096)(h:aUP a a1 b s0 R):EB 194 [a,a1,b] s0 R:=zB a8S aNH Tryz.func194 h
end
structure Tp(Y:ae)(b:Id)(l:List Int)(at':Nat):Prop where
 bx:box Y b=V ⟨117,2,U,U,[[sl cu l,iv at']]⟩
 le:at'<=L l
 ok:∀x∈l,0<=x/\x<256
 ll:L l<4611686018427387904
theorem Tp.fx{Y Y':ae}{b:Id}{l:List Int}{a:Nat}{ks:List Id}(T:Tp Y b l a)(F:Fx Y Y' ks)(h:b∉ks):Tp Y' b l a:=⟨F.keep _ _ h T.bx,T.le,T.ok,T.ll⟩
def a6S{Y:ae}{l:List Int}:fS Y (sl cu l)=V (iv<|L l):=cT
def aWF{Y:ae}{b:Id}{l:List Int}{a:Nat}(q:L Y=4096)(T:Tp Y b l a)(n:Int):∃r Y1,(∃(x:Int) (f:Nat),r=iv x/\0<=x/\(1<=n->x<n)/\Tp Y1 b l f/\a<=f/\(a<L l->1<=n->f=a+1)/\Fx Y Y1 [b])/\cZ aS GG 115 [.p b 0 0,iv n] Y r Y1:=by refine bgg q ?_;have i:=T.bx;have u:=T.ll;simp+contextual only[aUF,nlP i,u0,u1,i,aRV,bfx,aRa,aj,↓uL];refine⟨λh=>?_,λh=>?_⟩;refine⟨0,a,rfl,by omega,λh=>by omega,T,by omega,λh1 h2=>?_,Fx.refl _ _⟩;grind;simp only[cP,apT] at h;have c:a<L l:=(by omega);rw[fX<|by omega];refine A0 i rfl (by simp) λY1 j g=>?_;have s:=T.ok _<|ve c;simp only[qz 2,nlP g,u0,u1,g,aRV,bfx,aRa,aj,List.set_cons_succ,RY,a6E,cu,qM,aS6,aPR,aP1,↓uL];have k:dq.wrap (((a+1:Nat):Int)-1)=(a:Int):=(by grind [eM]);rw[k,bh,eM (x:=gd l a) (by omega)<|by omega];refine⟨dJ c,by omega,_,a+1,rfl,Int.tmod_nonneg _ s.1,λh1=>Int.tmod_lt_of_pos _ (by omega),⟨g,c,T.ok,T.ll⟩,by omega,λ_ _=>rfl,j⟩
def a55{Y:ae}{b:Id}{l:List Int}{a:Nat}(f:L Y=4096)(T:Tp Y b l a){n:Int}{d:Nat}{K:be}(g:∀(x:Int) (c:Nat) Y1,0<=x->(1<=n->x<n)->Tp Y1 b l c->a<=c->(a<L l->1<=n->c=a+1)->Fx Y Y1 [b]->K (iv x) Y1):cB 115 [.p b 0 0,iv n] Y d K:=by refine jH rfl (aWF f T n) ?_;grind [Fx.len]
structure J7(Y:ae)(m b:Id)(hs:List ByteArray)(h:AV):Prop where
 mx:∃(th lf:Int) (s tx at' lp:Bool),box Y m=V ⟨268,8,U,U,[[.p b 0 0,iv th,iv lf,bv s,bv tx,bv at',bv lp,h]]⟩
 tp:∃l a,Tp Y b l a
 gh:lA Y 9 1 h (hs.map cs)
 le:L Y=4096
 sm:m.1=16
 sb:b.1=14
 sh:∀q∈aA h,q.1=15
section
variable{Y Y':ae}{m b:Id}{hs:List ByteArray}{h:AV}{d:Nat}{K:be}
theorem J7.ne(M:J7 Y m b hs h):m≠b:=(by grind [J7.sm,J7.sb])
theorem J7.fx{ks:List Id}(M:J7 Y m b hs h)(F:Fx Y Y' ks)(h1:m∉ks)(h2:b∉ks)(c:∀q∈aA h,q∉ks):J7 Y' m b hs h:=by obtain⟨k,i,s,tx,f,j,g⟩:=M.mx;obtain⟨l,a,T⟩:=M.tp;exact⟨(by grind [Fx.keep]),⟨l,a,T.fx F h2⟩,M.gh.fx F c,F.len.trans M.le,M.sm,M.sb,M.sh⟩
theorem J7.fx0(M:J7 Y m b hs h)(F:Fx Y Y' []):J7 Y' m b hs h:=(by grind [J7.fx])
theorem J7.nb(M:J7 Y m b hs h):∀q∈aA h,q∉[b]:=(by grind [J7.sh,J7.sb])
theorem J7.nm(M:J7 Y m b hs h):∀q∈aA h,q∉[m]:=(by grind [J7.sh,J7.sm])
theorem aO4(M:J7 Y m b hs h){n:Int}(g:∀(x:Int) Y1,0<=x->(1<=n->x<n)->J7 Y1 m b hs h->Fx Y Y1 [b]->K (iv x) Y1):cB 115 [.p b 0 0,iv n] Y d K:=by obtain⟨r,k,s,tx,i,q,j⟩:=M.mx;obtain⟨l,a,T⟩:=M.tp;refine a55 M.le T λx c Y1 h1 h2 f _ _ F=>g x Y1 h1 h2 ⟨(by grind [Fx.keep,J7.ne]),⟨l,c,f⟩,M.gh.fx F M.nb,F.len.trans M.le,M.sm,M.sb,M.sh⟩ F
theorem aPJ(M:J7 Y m b hs h){j:Nat}{x:AV}{K:ae->Prop}(c:(j=1\/j=2)/\(∃n:Int,x=iv n)\/(3<=j/\j<=6)/\∃u:Bool,x=bv u)(f:∀Y1,J7 Y1 m b hs h->Fx Y Y1 [m]->K Y1):sV (aK 1 Y (.p m 0 j) x) K:=by obtain⟨w,r,s,tx,k,v,g⟩:=M.mx;obtain⟨l,a,T⟩:=M.tp;have i:eY x=V [x]:=(by rcases c with⟨_,n,rfl⟩|⟨_,u,rfl⟩<;>rfl);refine A0 g i (by simp;omega) λY1 F q=>f Y1 ⟨?_,⟨l,a,T.fx F<|by simpa using M.ne.symm⟩,M.gh.fx F M.nm,F.len.trans M.le,M.sm,M.sb,M.sh⟩ F;rcases c with⟨h1|h1,n,rfl⟩|⟨h1,u,rfl⟩;simp_all;simp_all;obtain rfl|rfl|rfl|rfl:j=3\/j=4\/j=5\/j=6:=(by omega);simp_all;simp_all;simp_all;simp_all
def bdh(M:J7 Y m b hs h)(g:L hs<1000)(s:ByteArray):∃r Y1,((∃v,r= .s v/\∃u:Bool,v= .bool u)/\Fx Y Y1 [])/\cZ aS GG 281 [.p m 0 0,st s] Y r Y1:=by refine bgo M.le ?_;obtain⟨k,i,s,tx,f,j,a⟩:=M.mx;have c:dG Y h=sl cs hs:=M.gh.ar;simp only[aUJ,nlP a,u0,u1,a,aRV,bfx,aRa,aj,jM,kU,jt,c,tW,aD6,AL,vp,↓uL];exact⟨by omega,⟨_,rfl,_,rfl⟩,Fx.refl _ _⟩
theorem aQP(M:J7 Y m b hs h)(a:L hs<1000){s:ByteArray}(c:∀u:Bool,K (bv u) Y):cB 281 [.p m 0 0,st s] Y d K:=aV6 rfl (bdh M a s) (by simp_all)
def isE(k:Nat)(r:AV):Prop:=∃(e:kW) (t o:Bool),shE k e/\r= .a [iv e.op,iv e.n,st e.name, .l (e.l.map kW.c) t o]
theorem isE.mono{k n:Nat}{r:AV}(h:isE k r)(a:k<=n):isE n r:=by obtain⟨e,t,o,h1,h2⟩:=h;exact⟨e,t,o,h1.mono a,h2⟩
def ExR(Y:ae)(m b:Id)(hs:List ByteArray)(h:AV)(k:Nat)(r:AV)(Y1:ae):Prop:=isE k r/\J7 Y1 m b hs h/\Fx Y Y1 [b]
theorem aTx{q:Id}{T:TypeId}{z:Nat}{r cs:List AV}{R:be}(f:box Y q=V ⟨T,z,U,U,[r]⟩)(i:L r=z)(g:L cs=z)(c:∀Y1,Fx Y Y1 [q]->R (.a cs) Y1):sV (aK z Y (.p q 0 0)<|.a cs) λs=>rV (vl (V z) s<|.p q 0 0) λt=>aNN R s [t]:=by refine stW f i g λY1 F j=>?_;have:vl (V z) Y1 (.p q 0 0)=V (.a cs):=(by grind [vl,iE,aN]);rw[this];exact c Y1 F
def baK{Y:ae}:aX zd9 7 Y [(0,sv [97]),(1,sv [98]),(2,sv [120]),(3,sv [121]),(4,sv [118]),(5,sv [120]),(6,sv [121])]=V (.l ([⟨#[97]⟩,⟨#[98]⟩,⟨#[120]⟩,⟨#[121]⟩,⟨#[118]⟩,⟨#[120]⟩,⟨#[121]⟩].map cs) U U,Y):=by kernel_rfl
def baN{Y:ae}:aX bH 6 Y [(0,iv 6),(1,iv 7),(2,iv 8),(3,iv 11),(4,iv 13),(5,iv 17)]=V (.l ([6,7,8,11,13,17].map ci) U U,Y):=by kernel_rfl
def aSY{e:kW}{t o:Bool}:dG Y (.a [iv e.op,iv e.n,st e.name, .l (e.l.map kW.c) t o])= .a e.c:=by rw[aoH];rfl
theorem aXO{x:Value}{c d:List AV}{r:AV}(h:eB (.a c)=[])(f:eB (.a d)=[]):lo Y [.s x, .a c, .a d] r=True:=by have e:eB (.s x)=[]:=rfl;grind [lo,nA]
def aXP{x:Value}{c:List AV}{r:AV}(h:eB (.a c)=[]):lo Y [.s x, .a c] r=True:=by have e:eB (.s x)=[]:=rfl;simp[lo,nA,h,e]
def a6T{x:Value}{r:AV}:lo Y [.s x] r=True:=by simp[lo,nA,eB,iR]
def aWC{k:Nat}{e:kW}(h:shE k e):isE k (.a e.c):=⟨e,I,I,h,by rw[aoH];rfl⟩
theorem a6K{n:Nat}(hn:n<=1)(ih:n=1->∀{Y:ae},J7 Y m b hs h->∃r Y1,ExR Y m b hs h 1 r Y1/\cZ aS GG 278 [.p m 0 0,iv 0] Y r Y1)(M:J7 Y m b hs h):
  ∃r Y1,ExR Y m b hs h (n+1) r Y1/\cZ aS GG 278 [.p m 0 0,iv n] Y r Y1:=by
 obtain⟨m1,F⟩:=m
 obtain rfl:m1=16:=M.sm
 obtain⟨b1,z⟩:=b
 obtain rfl:b1=14:=M.sb
 refine bgm M.le ?_
 simp only[aUI]
 refine I4 M.le λv s1 R N1 q1=>?_
 simp only[qz 2,baK,bQ]
 have W:=M.fx0 R
 obtain⟨th,lf,s,tx,X,lp,N⟩:=W.mx
 simp only[qz 4,nlP N,u0,u1,N,aRV,aRa,aj,↓uL]
 refine aO4 W λx s2 h1 h2 D S=>?_
 have h2:=h2 (by decide)
 obtain⟨th,lf,s,tx,X,lp,C⟩:=D.mx
 have H:=S.kq q1
 have G:Fx Y s2 [(14,z)]:=(R.trans S).mono (by simp)
 have B:∀{g k:ae} {r:AV},isE (n+1) r->J7 g (16,F) (14,z) hs h->Fx Y g [(14,z)]->Fx g k [(4,v)]->ExR Y (16,F) (14,z) hs h (n+1) r k:=λE j f i=>
  ⟨E,j.fx i (by simp) (by simp) (λq hq e=>by grind [J7.sh]),(f.trans i).mono<|by grind [bK.no]⟩
 have P:∀{g:ae} {d:Nat} {K:be},n=1->J7 g (16,F) (14,z) hs h->(∀r k,isE 1 r->J7 k (16,F) (14,z) hs h->Fx g k [(14,z)]->K r k)->cB 278 [.p (16,F) 0 0,iv 0] g d K:=λh1 j hK=>by
  refine jH rfl (ih h1 j) ?_
  rintro r k ⟨g1,u,g3⟩
  grind [Fx.len]
 simp+contextual only[qz 6,qy 16,nlP C,u0,u1,C,aRV,aRa,aj,gT,↓uL]
 refine⟨λ_=>?_,λhc=>⟨λ_=>?_,λh7=>⟨λh8=>?_,λh8=>?_⟩⟩⟩
 ·refine aO4 D λy g g1 u j f=>?_
  have A:=f.kq H
  simp only[qz 8,qy 10,jM,kU,jt,tW,aD6,a6T,vp,↓uL]
  exact aTx A rfl aN9 λk i=>B (aWC ⟨.inl ⟨.inl rfl,rfl⟩,by simp[kW.l]⟩) j ((G.trans f).mono<|by simp) i
 ·refine aO4 D λy g g1 u j f=>?_
  have A:=f.kq H
  have u:=u (by decide)
  simp only[qz 12,qy 14,amZ,u0,u1,rk,pz,jM,kU,jt,tW,aD6,a6T,vp,↓uL]
  exact⟨⟨g1,u⟩,aTx A rfl aN9 λk i=>B (aWC ⟨.inl ⟨.inr rfl,rfl⟩,by simp[kW.l]⟩) j ((G.trans f).mono<|by simp) i⟩
 ·have w:n=1:=by grind
  refine P w D λr g E j f=>?_
  have A:=f.kq H
  obtain⟨e,t,o,he,rfl⟩:=E
  have aa:aX bts 1 g [(0, .a [iv e.op,iv e.n,st e.name, .l (e.l.map kW.c) t o])]=V (.l [e.c] U U,g):=aQm (by rw[aoH];rfl) aN9 (by decide) (by rw[aoH];rfl) (by decide)
  simp only[aa,bQ,qz 18,qy 20,↓uL]
  have Z:bM bth bmK [(0,iv 3),(2,sv [113]),(3, .l [e.c] U U)]=V (.a [iv 3,iv 0,sv [113], .l [e.c] U U]):=rfl
  simp only[Z,aY]
  refine aTx A rfl rfl λk i=>B ⟨kW.mk 3 0 ⟨#[113]⟩ [e],U,U,⟨.inr<|.inl ⟨rfl,rfl,rfl⟩,?_⟩,rfl⟩ j ((G.trans f).mono<|by simp) i
  grind [kW.l]
 ·have w:n=1:=by grind
  have e0:dq.wrap ((n:Int)-1)=0:=by subst w;rfl
  simp only[baN,bQ,qz 22,nlP C,u0,u1,C,aRV,aRa,aj,gT,↓uL]
  refine aO4 D λy g g1 u j f=>?_
  have u:=u (by decide)
  have A:=f.kq H
  simp only[qz 24,tf,u0,u1,rk,pz,e0,↓uL]
  refine⟨⟨g1,u⟩,P w j λr k E M4 i=>?_⟩
  have q4:=i.kq A
  simp only[qz 26,u0,u1,e0,↓uL]
  refine P w M4 λr' s5 ab M5 T=>?_
  have q5:=T.kq q4
  obtain⟨e,t,o,he,rfl⟩:=E
  obtain⟨e',t',o',ax,rfl⟩:=ab
  have O:6<=gd [(6:Int),7,8,11,13,17] y.toNat:=by
   grind [ve]
  generalize gd [(6:Int),7,8,11,13,17] y.toNat=op at O
  simp only[qz 28,jM,kU,jt,tW,aSY,aD6]
  rw[aXO rfl rfl]
  refine⟨trivial,stW q5 rfl aN9 λs6 F6 b6=>?_⟩
  refine dT (by simp[eL,lb,cq,Qh,m8,dC,dK]) ?_
  have:vl (V 4) s6 (.p (4,v) 0 0)=V (.a (kW.mk op 0 ⟨#[]⟩ [e,e']).c):=by grind [aC5,a69]
  (try rw[art]);rw[this]
  refine B (aWC ⟨.inr<|.inr ⟨O,rfl⟩,?_⟩) M5 ((((G.trans f).trans i).trans T).mono<|by simp) F6
  grind [kW.l]
def a6J(M:J7 Y m b hs h):∃r Y1,ExR Y m b hs h 1 r Y1/\cZ aS GG 278 [.p m 0 0,iv 0] Y r Y1:=a6K (n:=0) (by omega) (λh=>by omega) M
def bdg(M:J7 Y m b hs h):∃r Y1,ExR Y m b hs h 2 r Y1/\cZ aS GG 278 [.p m 0 0,iv 1] Y r Y1:=a6K (n:=1) (by omega) (λ_ {Y} M=>a6J M) M
theorem baU(M:J7 Y m b hs h)(f:∀r Y1,isE 2 r->J7 Y1 m b hs h->Fx Y Y1 [b]->K r Y1):cB 278 [.p m 0 0,iv 0] Y d K:=by refine jH rfl (a6J M) ?_;rintro r g ⟨g1,a,c⟩;grind [Fx.len,isE.mono]
theorem aQO(M:J7 Y m b hs h)(f:∀r Y1,isE 2 r->J7 Y1 m b hs h->Fx Y Y1 [b]->K r Y1):cB 278 [.p m 0 0,iv 1] Y d K:=by refine jH rfl (bdg M) ?_;rintro r g ⟨g1,a,c⟩;grind [Fx.len]
structure RH(m b:Id)(Y:ae)(h:AV)(Y1:ae)(h1:AV):Prop where
 f:Fx Y Y1 (m::b::aA h)
 i:∀q∈aA h1,q∈aA h\/bK Y q
section
variable{Y2 Y1:ae}{h1 h2:AV}
theorem RH.refl:RH m b Y h Y h:=⟨Fx.refl _ _,λ_ g=> .inl g⟩
theorem RH.trans(H:RH m b Y h Y1 h1)(a:RH m b Y1 h1 Y2 h2):RH m b Y h Y2 h2:=by refine⟨(H.f.trans a.f).mono λq c=>?_,λq c=>(a.i q c).elim (H.i q) λg=> .inr<|g.old H.f⟩;grind [RH.i,bK.no]
theorem RH.of{ks:List Id}(F:Fx Y Y1 ks)(a:∀q∈ks,q=m\/q=b\/bK Y q):RH m b Y h Y1 h:=⟨(by grind [Fx.mono,bK.no]),λ_ g=> .inl g⟩
theorem RH.ofb(F:Fx Y Y1 [b]):RH m b Y h Y1 h:= .of F (by simp)
def RH.ofm(F:Fx Y Y1 [m]):RH m b Y h Y1 h:= .of F (by simp)
def RH.of0(F:Fx Y Y1 []):RH m b Y h Y1 h:= .of F (by simp)
theorem RH.new(H:RH m b Y h Y1 h1){q:Id}(F:Fx Y1 Y2 [q])(a:bK Y q):RH m b Y h Y2 h1:=⟨(H.f.trans F).mono (by grind [bK.no]),H.i⟩
theorem J7.out(M:J7 Y m b hs h):∀q:Id,q.1≠14->q.1≠15->q.1≠16->q∉m::b::aA h:=λq g1 a c f=>by
 grind [J7.sm,J7.sb,J7.sh]
end
def aTj{x:NA}:eB (.a x.c)=[]:=by rw[a6X];rfl
def aYy{a:ae}{x:NA}:Lv a Y x.c x.c:=⟨by rw[a6X];rfl,by rw[aTj];simp⟩
def aPq{f:ae}{op:Int}{nm i:ByteArray}{index:List kW}{e:kW}{t o u o':Bool}{bd a:AV}{body els:List NA}(k:lA Y 274 11 bd<|body.map NA.c)(p:lA Y 274 11 a<|els.map NA.c)(r:∀q∈aA bd,bK f q)(s:∀q∈aA a,bK f q):Lv f Y [iv op,iv 0,st nm,st i, .l (index.map kW.c) u o',iv e.op,iv e.n,st e.name, .l (e.l.map kW.c) t o,bd,a] (NA.mk op 0 nm i index e body els).c:=by refine⟨?_,λq j=>?_⟩;rw[a6X];simp only[ji,mU,aOb k,aOb p,aQ5,aXQ];rfl;simp only[eB,Cz,RN,iR,dW,cL,dF] at j;rcases j with g|g;(exact r q<|by cases bd<;>first|exact g|simp[iR] at g);exact s q (by cases a<;>first|exact g|simp[iR] at g)
def aPB{op:Int}{nm j:ByteArray}{index:List kW}{e:kW}{t o r o':Bool}{bd f:AV}{P:Id->Prop}(k:∀q∈aA bd,P q)(p:∀q∈aA f,P q):∀q∈eB (.a [iv op,iv 0,st nm,st j, .l (index.map kW.c) r o',iv e.op,iv e.n,st e.name, .l (e.l.map kW.c) t o,bd,f]),P q:=λq i=>by
 simp only[eB,Cz,RN,iR,dW,cL,dF] at i
 rcases i with g|g
 ·exact k q (by cases bd<;>first|exact g|simp[iR] at g)
 ·exact p q (by cases f<;>first|exact g|simp[iR] at g)
def SmR(Y:ae)(m b:Id)(hs:List ByteArray)(h:AV)(d:Nat)(r:AV)(Y1:ae):Prop:=∃cs x f,r= .a cs/\Lv Y Y1 cs (NA.c x)/\(∀q∈eB (.a cs),q.1=30\/q.1=126)/\shS (d+1) x/\J7 Y1 m b hs f/\RH m b Y h Y1 f
def SsR(Y:ae)(m b:Id)(hs:List ByteArray)(h:AV)(d:Nat)(n:Int)(r:AV)(Y1:ae):Prop:=∃(l:List NA) (a:AV),lA Y1 274 11 r (l.map NA.c)/\L l<=n/\(∀x∈l,shS (d+1) x)/\(∀q∈aA r,bK Y q/\q.1=30)/\J7 Y1 m b hs a/\RH m b Y h Y1 a
def aQH(m b:Id)(d:Nat):Prop:=∀{Y:ae} {hs:List ByteArray} {h:AV} {n:Int},J7 Y m b hs h->L hs+d<=500->0<=n->n<=3->∃r Y1,SsR Y m b hs h d n r Y1/\cZ aS GG 194 [.p m 0 0,iv d,iv n] Y r Y1
theorem aQQ{D:Nat}(w:aQH m b D)(M:J7 Y m b hs h)(v:L hs+D<=500){i n:Int}(u:i=D)(k:0<=n)(s:n<=3)(C:∀(a:AV) (l:List NA) (g:AV) Y1,lA Y1 274 11 a (l.map NA.c)->(L l:Int)<=n->(∀x∈l,shS (D+1) x)->(∀q∈aA a,bK Y q/\q.1=30)->J7 Y1 m b hs g->RH m b Y h Y1 g->K a Y1):cB 194 [.p m 0 0,iv i,iv n] Y d K:=by subst u;refine jH rfl (w M v k s) ?_;rintro r Y1 ⟨l,g,g1,y,z,A,B,j⟩;exact⟨j.f.len,by grind⟩
def baO{Y:ae}{x:ByteArray}:aX zd9 1 Y [(0,st x)]=V (.l ([x].map cs) U U,Y):=iz
theorem bdS(M:J7 Y m b hs h){h1:AV}{c:List ByteArray}{K:ae->Prop}(g:lA Y 9 1 h1<|c.map cs)(j:∀q∈aA h1,q.1=15)(f:∀Y1,J7 Y1 m b c h1->Fx Y Y1 [m]->K Y1):sV (aK 1 Y (.p m 0 7) h1) K:=by obtain⟨v,r,s,tx,k,u,i⟩:=M.mx;obtain⟨l,a,T⟩:=M.tp;refine A0 i g.ce (by simp) λY1 F n=>f Y1 ⟨(by simp_all),⟨l,a,T.fx F<|by simpa using M.ne.symm⟩,(by grind [lA.fx,J7.sm]),F.len.trans M.le,M.sm,M.sb,j⟩ F
theorem bdd{D:Nat}(ih:aQH m b D)(M:J7 Y m b hs h)(hl:L hs+D+1<=500){s:ByteArray}{O:Int}(hd:O=D):∃r Y1,SsR Y m b hs h D 2 r Y1/\cZ aS GG 282 [.p m 0 0,st s,iv O] Y r Y1:=by refine bgl M.le ?_;obtain⟨G,B,s',tx,j,C,A⟩:=M.mx;simp only[aUH,qy 2,nlP A,u0,u1,A,aRV,bfx,aRa,aj,baO,↓uL];refine apQ M.gh M.le (by simp) (by simp) (by simp) (by simp;omega) λy E z u N4=>?_;rw[<-dg] at z;have n:=u.keep _ _ (λc=>by have:=M.sh _ c;have:=M.sm;omega) A;have W:∀{Y':ae} {K:ae->Prop},(∀Y1,J7 Y1 m b (hs++[s]) y->Fx E Y1 [m]->K Y1)->sV (aK 1 E (.p m 0 7) y) K:=λ{Y' K} hK=>(by obtain⟨l,a,T⟩:=M.tp;refine A0 n z.p.ce (by simp) λY1 F b1=>hK Y1 ⟨⟨G,B,s',tx,j,C,b1⟩,⟨l,a,(T.fx u<|by grind [J7.sh,J7.sb]).fx F<|by simpa using M.ne.symm⟩,z.p.fx F (by grind [J7.sm]),F.len.trans<|u.len.trans M.le,M.sm,M.sb,λq c=>(N4 q c).2⟩ F);simp only[qz 4,nlP n,u0,u1,n,aj,↓uL];refine W (Y':=E) λs5 N R=>?_;obtain⟨G,B,s',tx,j,C,v⟩:=N.mx;simp only[qz 6,nlP v,u0,u1,v,aRV,aRa,aj,↓uL];refine aO4 N λx s6 h1 h2 X S=>?_;have h2:=h2 (by decide);simp only[qz 8,u0,u1,eM (x:=1+x) (by omega) (by omega),↓uL];refine aQQ ih X (by simp;omega) hd (by omega) (by omega) λa l h' s7 g1 g2 g3 k g R7=>?_;obtain⟨G,B,s',tx,j,C,w⟩:=g.mx;simp only[qz 10,qy 12,nlP w,u0,u1,w,aRV,bfx,aRa,aj,g.gh.ln,bJ,a6G,bZ,aO1,↓uL];have e1:dq.wrap (((L hs+(0+1):Nat):Int)-1)=(L hs:Int):=(by grind [eM]);rw[e1];refine slP g.gh (by omega) (by simp;omega) λa8 P e8=>?_;rw[bh,dg,List.take_left'<|by simp] at P;refine bdS g P (λq c=>g.sh q<|e8▸c) λs9 Z H=>?_;have R4:RH m b Y h s6 y:=⟨((u.trans R).trans S).mono (by grind),by simp_all⟩;have R9:RH m b Y h s9 h':=(R4.trans R7).trans<|.ofm H;exact⟨l,a8,g1.fx H (λq c e=>by have:=(k q c).2;have:=M.sm;simp at e;subst e;omega),by omega,g3,λq c=>⟨(k q c).1.old R4.f,(k q c).2⟩,Z,⟨R9.f,by grind [RH.i]⟩⟩
def aPh{A:(be)->Prop}{K:be}:gF U A Y K=A K:=rfl
def aOq{A:(be)->Prop}{K:be}:gF I A Y K=K (.t []) Y:=rfl
def baJ:aX zd9 4 Y [(0,sv [120]),(1,sv [121]),(2,sv [120]),(3,sv [118])]=V (.l ([⟨#[120]⟩,⟨#[121]⟩,⟨#[120]⟩,⟨#[118]⟩].map cs) U U,Y):=by kernel_rfl
def aV4:aX zd9 2 Y [(0,sv [97]),(1,sv [98])]=V (.l ([⟨#[97]⟩,⟨#[98]⟩].map cs) U U,Y):=by kernel_rfl
def a5Z:aX zd9 2 Y [(0,sv [109]),(1,sv [110])]=V (.l ([⟨#[109]⟩,⟨#[110]⟩].map cs) U U,Y):=by kernel_rfl
def baH{e:kW}{t o:Bool}:aX bts 1 Y [(0, .a [iv e.op,iv e.n,st e.name, .l (e.l.map kW.c) t o])]=V (.l ([e].map kW.c) U U,Y):=aQm (by rw[aoH];rfl) aN9 (by decide) (by rw[aoH];rfl) (by decide)
def a50{x:NA}:aX brP 1 Y [(0, .a x.c)]=V (.l ([x].map NA.c) U U,Y):=ua (by rw[a6X];rfl) aTj bit (by decide) (by rw[a6X];rfl) (by decide)
section
variable{o:Int}{nm:ByteArray}{x:AV}{e:kW}{t o':Bool}{body:List NA}{bA:List (List AV)}
def a5O(f:lA Y 274 11 x bA):bM brG alz [(0,iv o),(5, .a [iv e.op,iv e.n,st e.name, .l (e.l.map kW.c) t o']),(6,x)]=V (.a [iv o,iv 0,st ⟨#[]⟩,st ⟨#[]⟩, .l (([]:List kW).map kW.c) U U,iv e.op,iv e.n,st e.name, .l (e.l.map kW.c) t o',x, .l [] U U]):=by rcases f with⟨_,rfl⟩|⟨q,m,rfl,_⟩<;>rfl
def aSZ(f:lA Y 274 11 x bA):bM brG alz [(0,iv o),(2,st nm),(6,x)]=V (.a [iv o,iv 0,st nm,st ⟨#[]⟩, .l (([]:List kW).map kW.c) U U,iv (kW.mk 0 0 ⟨#[]⟩ []).op,iv (kW.mk 0 0 ⟨#[]⟩ []).n,st (kW.mk 0 0 ⟨#[]⟩ []).name, .l ((kW.mk 0 0 ⟨#[]⟩ []).l.map kW.c) U U,x, .l [] U U]):=by rcases f with⟨_,rfl⟩|⟨q,m,rfl,_⟩<;>rfl
def a5P(f:lA Y 274 11 x bA):bM brG alz [(0,iv o),(6,x)]=V (.a [iv o,iv 0,st ⟨#[]⟩,st ⟨#[]⟩, .l (([]:List kW).map kW.c) U U,iv (kW.mk 0 0 ⟨#[]⟩ []).op,iv (kW.mk 0 0 ⟨#[]⟩ []).n,st (kW.mk 0 0 ⟨#[]⟩ []).name, .l ((kW.mk 0 0 ⟨#[]⟩ []).l.map kW.c) U U,x, .l [] U U]):=by rcases f with⟨_,rfl⟩|⟨q,m,rfl,_⟩<;>rfl
def bam{E:kW}(f:lA Y 274 11 x bA):bM brG alz [(0,iv o),(5, .a E.c),(6,x)]=V (.a [iv o,iv 0,st ⟨#[]⟩,st ⟨#[]⟩, .l (([]:List kW).map kW.c) U U,iv E.op,iv E.n,st E.name, .l (E.l.map kW.c) I I,x, .l [] U U]):=by rw[aoH];exact a5O f
def a5Q:bM brG alz [(0,iv o),(2,st nm),(6, .l (body.map NA.c) t o')]=V (.a [iv o,iv 0,st nm,st ⟨#[]⟩, .l (([]:List kW).map kW.c) U U,iv (kW.mk 0 0 ⟨#[]⟩ []).op,iv (kW.mk 0 0 ⟨#[]⟩ []).n,st (kW.mk 0 0 ⟨#[]⟩ []).name, .l ((kW.mk 0 0 ⟨#[]⟩ []).l.map kW.c) U U, .l (body.map NA.c) t o', .l (([]:List NA).map NA.c) U U]):=rfl
end
def aRm{f:ae}{op:Int}{nm a:ByteArray}{index:List kW}{e:kW}{t o j o' k i t3 o3:Bool}{body els:List NA}:Lv f Y [iv op,iv 0,st nm,st a, .l (index.map kW.c) j o',iv e.op,iv e.n,st e.name, .l (e.l.map kW.c) t o, .l (body.map NA.c) k i, .l (els.map NA.c) t3 o3] (NA.mk op 0 nm a index e body els).c:=by refine⟨?_,λq g=>?_⟩;rw[a6X];simp only[ji,mU,aQ5,aXQ];rfl;simp[eB,iR] at g
theorem aOJ{n:Nat}{op:Int}{nm f:ByteArray}{index:List kW}{e:kW}{body els:List NA}(h1:(op=1\/op=2\/op=3\/op=14)->shE 2 e)(h2:index=[]\/∃y,index=[y]/\shE 2 y/\nm=qN)(i:L e.l<=2)(j:L body<=4)(a:∀x∈body,shS n x)(k:L els<=4)(c:∀x∈els,shS n x)(p:1<=op/\op<=15):shS (n+1) (NA.mk op 0 nm f index e body els):=by refine⟨h1,?_,?_,?_,i,j,a,k,c,p⟩;show L index<=1;grind;show∀x∈index,shE 2 x;grind;intro h;rcases h2 with rfl|⟨y,rfl,_,g⟩;exact aPo rfl h;exact g
theorem aOI{n:Nat}{op:Int}{nm a:ByteArray}{index:List kW}{e:kW}(h1:(op=1\/op=2\/op=3\/op=14)->shE 2 e)(h2:index=[]\/∃y,index=[y]/\shE 2 y/\nm=qN)(c:L e.l<=2)(f:1<=op/\op<=15):shS (n+1) (NA.mk op 0 nm a index e [] []):=(by grind [aOJ])
theorem aS4{D:Nat}(u:aQH m b D)(M:J7 Y m b hs h)(n:L hs+D+1<=500){s:ByteArray}{i:Int}(k:i=D)(A:∀(a:AV) (l:List NA) (g:AV) Y1,lA Y1 274 11 a (l.map NA.c)->(L l:Int)<=2->(∀x∈l,shS (D+1) x)->(∀q∈aA a,bK Y q/\q.1=30)->J7 Y1 m b hs g->RH m b Y h Y1 g->K a Y1):cB 282 [.p m 0 0,st s,iv i] Y d K:=by refine jH rfl (bdd u M n k) ?_;rintro r Y1 ⟨l,g,g1,v,w,y,z,j⟩;exact⟨j.f.len,by grind⟩
theorem aEa{q:Id}{T:TypeId}{z:Nat}{o u:Bool}{r:List AV}(c:box Y q=V ⟨T,z,o,u,[r]⟩)(f:L r=z):vl (V z) Y (.p q 0 0)=V (.a r):=by grind [vl,iE,aN]
theorem aP2{D:Nat}(h:D+1<1000):dq.wrap (((D+1:Nat):Int)-1)=(D:Int):=by grind [eM]
def baQ:aX brP 2 Y [(0, .a [iv 9,iv 0,sv [99],sv [], .l [] U U,iv 0,iv 0,sv [], .l [] U U, .l [] U U, .l [] U U]),(1, .a (NA.mk 1 0 ⟨#[97]⟩ ⟨#[]⟩ [] (kW.mk 2 0 ⟨#[120]⟩ []) [] []).c)]=V (.l ([NA.mk 9 0 ⟨#[99]⟩ ⟨#[]⟩ [] (kW.mk 0 0 ⟨#[]⟩ []) [] [],NA.mk 1 0 ⟨#[97]⟩ ⟨#[]⟩ [] (kW.mk 2 0 ⟨#[120]⟩ []) [] []].map NA.c) U U,Y):=by kernel_rfl
def baL{o:Int}:aX brP 1 Y [(0, .a [iv o,iv 0,sv [99],sv [], .l [] U U,iv 0,iv 0,sv [], .l [] U U, .l [] U U, .l [] U U])]=V (.l ([NA.mk o 0 ⟨#[99]⟩ ⟨#[]⟩ [] (kW.mk 0 0 ⟨#[]⟩ []) [] []].map NA.c) U U,Y):=by kernel_rfl
theorem bdy{D:Nat}(ih:∀j,j<D->aQH m b j)(M:J7 Y m b hs h)(hl:L hs+D<=500):∃r Y1,SmR Y m b hs h D r Y1/\cZ aS GG 244 [.p m 0 0,iv D] Y r Y1:=by
 obtain⟨m1,X⟩:=m
 obtain rfl:m1=16:=M.sm
 obtain⟨b1,b2⟩:=b
 obtain rfl:b1=14:=M.sb
 refine bgp M.le ?_
 simp only[aUK]
 refine I4 M.le λv s1 F1 N1 q1=>?_
 have M1:=M.fx0 F1
 obtain⟨th,lf,s,tx,aW,lp,af⟩:=M1.mx
 simp only[qz 2,nlP af,u0,u1,af,aRV,bfx,aRa,aj,↓uL]
 refine aPJ M1 (by simp) λs2 M2 F2=>?_
 have q2:=F2.kq q1
 obtain⟨th,lf,s,tx,aW,lp,bg⟩:=M2.mx
 simp only[qz 4,nlP bg,u0,u1,bg,aRV,aRa,aj,↓uL]
 refine aO4 M2 λx s3 h1 h2 G F3=>?_
 have h2:=h2 (by decide)
 have q3:=F3.kq q2
 have O:RH (16,X) (14,b2) Y h s3 h:=((RH.of0 F1).trans<|.ofm F2).trans<|.ofb F3
 have N:∀{A:ae} {cs r:List AV} {x:NA} {h4:AV},J7 A (16,X) (14,b2) hs h4->RH (16,X) (14,b2) Y h A h4->box A (4,v)=V ⟨274,11,U,U,[r]⟩->L r=11->Lv Y A cs x.c->(∀q∈eB (.a cs),q.1=30\/q.1=126)->shS (D+1) x->
   sV (aK 11 A (.p (4,v) 0 0)<|.a cs) λs=>rV (vl (V 11) s<|.p (4,v) 0 0) λt=>aNN (SmR Y (16,X) (14,b2) hs h D) s [t]:=λ{A cs r x h4} B R4 S hr L4 hi a3=>
  aTx S hr (by have:=brz L L4.eq;grind [bit]) λs5 T=>⟨cs,x,h4,rfl,L4.fx T (by grind) aS7,hi,a3,B.fx T (by simp) (by simp) (λq w e=>by grind [J7.sh]),R4.new T N1⟩
 have out:∀{A s5:ae} {h4 h5:AV} {q:Id} {x:bY},J7 A (16,X) (14,b2) hs h4->RH (16,X) (14,b2) A h4 s5 h5->(q.1≠14/\q.1≠15/\q.1≠16)->box A q=V x->box s5 q=V x:=λB R g w=>R.f.keep _ _ (B.out _ g.1 g.2.1 g.2.2) w
 have a2:∀{A s6:ae} {x:NA} {h4:AV},J7 A (16,X) (14,b2) hs h4->RH (16,X) (14,b2) Y h A h4->Fx A s6 [(4,v)]->box s6 (4,v)=V ⟨274,11,U,U,[x.c]⟩->shS (D+1) x->aw 11 s6 (.p (4,v) 0 0) λt=>aNN (SmR Y (16,X) (14,b2) hs h D) s6 [t]:=λ{A s6 x h4} B R4 F b6 a3=>by
  rw[art,aEa b6 bit]
  exact⟨_,x,h4,rfl,aYy,by rw[aTj];simp,a3,B.fx F (by simp) (by simp) (λq w e=>by grind [J7.sh]),R4.new F N1⟩
 simp only[qz 6,qy 22,qy 126,↓uL]
 generalize hE:@qp _ 128 ⟨_⟩=E
 have bf:∀{A:ae} {d:Nat},J7 A (16,X) (14,b2) hs h->RH (16,X) (14,b2) Y h A h->box A (4,v)=V ⟨274,11,U,U,[brG]⟩->cB 278 [.p (16,X) 0 0,iv 1] A d E:=λ{A d} B R4 S=>by
  refine aQO B λr s5 hr H T=>?_
  obtain⟨e,t,o,he,rfl⟩:=hr
  have q5:=T.kq S
  simp only[<-hE,qz 128,qy 130,jM,kU,jt,tW,aSY,aD6,art,↓uL]
  refine⟨by simp[lo,nA,eB,iR],N H (R4.trans<|.ofb T) q5 rfl aYy (by rw[aTj];simp) ?_⟩
  exact⟨λ_=>he,by simp[NA.index],by simp[NA.index],by simp[NA.index],he.len,by simp[NA.body],by simp[NA.body],by simp[NA.els],by simp[NA.els],by simp[NA.op],by simp[NA.op]⟩
 obtain⟨th,lf,s,tx,aW,lp,k⟩:=G.mx
 have hx:(x<4/\0<=x)\/x=4\/x=5\/x=6\/x=7\/x=8\/x=9\/x=10\/x=11\/x=12\/x=13\/x=14\/x=15\/x=16\/x=17:=by omega
 have bw:∀K:cC,(∀nb:Bool,(nb=U->0<D)->K (bv nb))->aO .gtr (iv D) (iv 0) λaG=>Qct aG (.p (16,X) 0 0) λcc=>Qot aG (rV<|cO s3 cc) λcd=>aT aG 2 s3 cd λcg=>Qot aG (aO .gtr cg<|iv 0) λch=>aD aG ch (bv I) λaJ=>Qct aJ (.p (16,X) 0 0) λci=>Qot aJ (rV<|cO s3 ci) λcj=>aT aJ 4 s3 cj λck=>Qot aJ (cf ck) λcl=>aD aJ cl (bv I) λcm=>K cm:=by
  intro K hK
  rcases oD D with h0|h0
  ·have e:Q ((0:Int)<(D:Int))=I:=by simp[h0]
   simp only[e,u0,u1,↓jN,a7c,↓uL]
   grind
  ·have e:Q ((0:Int)<(D:Int))=U:=by simp[h0]
   rcases bk:Q (0<lf) with _|_
   ·simp only[e,nlP k,u0,u1,k,aRV,bfx,aRa,aj,bk,↓jN,↓jA,a7c,aUw,↓uL]
    grind
   ·simp only[e,nlP k,u0,u1,k,aRV,bfx,aRa,aj,bk,↓jA,aUw,↓uL]
    grind
 refine bw _ λnb cF=>?_
 have P:∀{d:Nat},cB 278 [.p (16,X) 0 0,iv 1] s3 d E:=bf G O q3
 rcases hx with hx|rfl|rfl|rfl|rfl|rfl|rfl|rfl|rfl|rfl|rfl|rfl|rfl|rfl|rfl
 all_goals
  simp only[nlP k,u0,u1,k,aRV,bfx,aRa,aj,bpF,bqF,Int.reduceEq,Int.reduceLT,↓iC,↓iB,↓jA,↓jN,↓aOq,aUw,a7c,Bool.false_or,↓uL]
 ·refine⟨λ_=>?_,λg=>aPo hx.1<|by simpa using g⟩
  simp only[baJ,bQ,qz 8,amZ,u0,rk,pz,↓uL]
  refine⟨⟨hx.2,hx.1⟩,aQO G λr s5 hr H T=>?_⟩
  obtain⟨e,t,o,he,rfl⟩:=hr
  have q5:=T.kq q3
  simp only[qz 10,jM,kU,jt,tW,aSY,aD6]
  refine⟨by simp[lo,nA,eB,iR],stW q5 rfl bit λs6 F6 b6=>?_⟩
  refine dT (by simp[eL,lb,cq,Qh,m8,dC,dK]) ?_
  exact a2 H (O.trans<|.ofb T) F6 b6 (aOI (λ_=>he) (.inl rfl) he.len<|by decide)
 ·simp only[aV4,bQ,qz 14,nlP k,u0,u1,k,aRV,aRa,aj,↓uL]
  refine aO4 G λy A y1 y2 B C=>?_
  have y2:=y2 (by decide)
  have S:=C.kq q3
  simp only[qz 16,amZ,u0,rk,pz,↓uL]
  refine⟨⟨y1,y2⟩,aQO B λr s5 hr H T=>?_⟩
  obtain⟨e,t,o,he,rfl⟩:=hr
  have q5:=T.kq S
  simp only[qz 18,jM,kU,jt,tW,aSY,aD6]
  refine⟨by simp[lo,nA,eB,iR],stW q5 rfl bit λs6 F6 b6=>?_⟩
  refine dT (by simp[eL,lb,cq,Qh,m8,dC,dK]) ?_
  exact a2 H ((O.trans<|.ofb C).trans<|.ofb T) F6 b6 (by grind [aOI,shE.len])
 ·refine baU G λr A hr B C=>?_
  obtain⟨e,t,o,he,rfl⟩:=hr
  have S:=C.kq q3
  simp only[baH,bQ,qz 24]
  refine aQO B λr s5 hr H T=>?_
  obtain⟨e',t',o',cD,rfl⟩:=hr
  have q5:=T.kq S
  have bT:bM brG alz [(0,iv 1),(2,sv [113]),(4, .l ([e].map kW.c) U U),(5, .a [iv e'.op,iv e'.n,st e'.name, .l (e'.l.map kW.c) t' o'])]=V (.a [iv 1,iv 0,st qN,st ⟨#[]⟩, .l ([e].map kW.c) U U,iv e'.op,iv e'.n,st e'.name, .l (e'.l.map kW.c) t' o', .l (([]:List NA).map NA.c) U U, .l (([]:List NA).map NA.c) U U]):=rfl
  simp only[qz 26,qy 28,bT,aY,↓uL]
  exact N H ((O.trans<|.ofb C).trans<|.ofb T) q5 rfl aRm (by simp[eB,iR]) (by grind [aOI,shE.len])
 ·refine⟨λhD=>?_,λ_=>P⟩
  obtain⟨j,rfl⟩:∃j,D=j+1:=⟨D-1,by grind⟩
  refine aQO G λr A hr B C=>?_
  obtain⟨e,t,o,he,rfl⟩:=hr
  have S:=C.kq q3
  simp only[qz 30,u0,u1,aP2 (D:=j) (by omega),↓uL]
  refine aQQ (ih j<|by omega) B (by omega) rfl (by omega) (by omega) λa l h' s5 g1 g2 g3 g4 H W=>?_
  have q5:=out B W (by simp) S
  simp only[qz 32,qy 34,a5O g1,aY]
  refine anu H.le λv7 s7 Z N7 b7=>?_
  have M7:=H.fx0 Z
  have q7:=Z.kq q5
  have G7:=g1.fx Z (by simp)
  have R7:RH (16,X) (14,b2) Y h s7 h':=((O.trans<|.ofb C).trans W).trans<|.of0 Z
  have na:∀q∈aA a,bK Y q:=(by grind [bK.old])
  obtain⟨co,bX,s',cp,bq,b0,bj⟩:=M7.mx
  simp only[qz 36,di,qz 83,nlP bj,u0,u1,bj,aRV,aRa,aj,↓uL]
  refine aO4 M7 λy s8 y1 y2 M8 F8=>?_
  have q8:=F8.kq q7
  have b8:=F8.kq b7
  have G8:=G7.fx F8 (λq w e=>by have:=(g4 q w).2;simp at e;subst e;simp at this)
  have R8:=R7.trans<|.ofb F8
  simp only[qz 38,u0,u1,aP2 (D:=j) (by omega),↓uL]
  refine⟨λ_=>?_,λ_=>?_⟩
  ·refine aQQ (ih j<|by omega) M8 (by omega) rfl (by omega) (by omega) λa' l' h9 s9 k1 k2 k3 k4 M9 R9=>?_
   have q9:=out M8 R9 (by simp) q8
   have b9:=out M8 R9 (by simp) b8
   have G9:=G8.fx R9.f (by grind [J7.out])
   simp only[qz 40,qy 42,u0,u1,b9,aj,↓uL]
   refine A0 b9 k1.ce (by simp) λcG az bR=>?_
   have b3:∀q∈aA a',bK Y q:=λq w=>(k4 q w).1.old R8.f
   have b5:=az.kq q9
   simp only[qz 81,qy 44,aI,aEa bR rfl,aY,↓uL]
   have p9:∀{q:Id},q.1=30->q∉[((7,v7):Id)]:=λh e=>by simp at e;grind
   refine N (M9.fx az (by simp) (by simp) (λq w e=>by have:=M9.sh q w;simp at e;grind)) ((R8.trans R9).new az<|((N7.old W.f).old C).old O.f) b5 rfl
    (aPq (index:=[]) (e:=e) (G9.fx az λq w=>p9 (g4 q w).2) (k1.fx az λq w=>p9 (k4 q w).2) na b3) (aPB (index:=[]) (by grind)<|by grind) ?_
   exact aOJ (λ_=>he) (.inl rfl) he.len (by omega) g3 (by omega) k3 (by decide)
  ·simp only[qz 81,qy 44,aI,aEa b8 rfl,aY,↓uL]
   exact N M8 R8 q8 rfl (aPq (index:=[]) (e:=e) (els:=[]) G8 (.inl ⟨rfl,rfl⟩) na<|by simp[aA]) (aPB (index:=[]) (by grind)<|by simp[aA]) (aOJ (λ_=>he) (.inl rfl) he.len (by omega) g3 (by simp) (by simp)<|by decide)
 ·refine⟨λhD=>?_,λ_=>P⟩
  obtain⟨j,rfl⟩:∃j,D=j+1:=⟨D-1,by grind⟩
  refine aPJ G (by simp) λA B C=>?_
  have S:=C.kq q3
  simp only[qz 46,jM,kU,jt,tW,aD6,Fa,u0,u1,aP2 (D:=j) (by omega),↓uL]
  refine⟨by simp[lo,nA,eB,iR],by simp[lo,nA,eB,iR],by rw[aXO rfl rfl];trivial,?_⟩
  refine aQQ (ih j<|by omega) B (by omega) rfl (by omega) (by omega) λa l h' s5 g1 g2 g3 g4 H W=>?_
  have q5:=out B W (by simp) S
  simp only[qz 48,qy 50,jM,kU,jt,tW,aD6,Fa,a50,u0,↓uL]
  refine⟨by simp[lo,nA,eB,iR],by simp[lo,nA,eB,iR],by rw[aXO rfl rfl];trivial,by rw[aXP rfl];trivial,?_⟩
  have na:∀q∈aA a,q.1=30:=λq w=>(g4 q w).2
  refine apQ g1 H.le (by grind [bit]) (by grind [bit]) (by simp) (by simp;omega) λa' s6 g6 F6 N6=>?_
  rw[<-dg] at g6
  have q6:=F6.keep _ _ (λw=>by have:=na _ w;simp at this) q5
  have M6:=H.fx F6 (by grind) (by grind) (λq w e=>by grind [J7.sh])
  have aZ:RH (16,X) (14,b2) Y h A h:=O.trans<|.ofm C
  have R6:RH (16,X) (14,b2) Y h s6 h':=⟨((aZ.trans W).f.trans F6).mono (by grind [bK.no,bK.old]),(aZ.trans W).i⟩
  simp only[qz 52,qy 54,bam g6.p,aY]
  refine anu M6.le λv7 s7 Z N7 b7=>?_
  have M7:=M6.fx0 Z
  have q7:=Z.kq q6
  have G7:=g6.p.fx Z (by simp)
  obtain⟨bn,bl,s8,bo,be,bm,an⟩:=M7.mx
  simp only[qz 56,nlP an,u0,u1,an,aj,↓uL]
  refine aPJ M7 (by simp) λs9 M9 F9=>?_
  have q9:=F9.kq q7
  have b9:=F9.kq b7
  have G9:=G7.fx F9 (λq w e=>by have:=(N6 q w).2;simp at e;subst e;simp at this)
  simp only[qz 58,qy 60,aEa b9 rfl,aY,↓uL]
  refine N M9 ((R6.trans<|.of0 Z).trans<|.ofm F9) q9 rfl (aPq (index:=[]) (els:=[]) G9 (.inl ⟨rfl,rfl⟩) (λq w=>(N6 q w).1.old (aZ.trans W).f)<|by simp[aA]) (aPB (index:=[]) (by grind)<|by simp[aA]) ?_
  have e1:∀{z:Int} {s:ByteArray},shE 1 (kW.mk 2 z s []):=λ{z s}=>⟨.inl ⟨.inr rfl,rfl⟩,by simp[kW.l]⟩
  have e2:∀{z:Int} {s:ByteArray},shE 1 (kW.mk 1 z s []):=λ{z s}=>⟨.inl ⟨.inl rfl,rfl⟩,by simp[kW.l]⟩
  refine aOJ (λ_=>⟨.inr (.inr ⟨by decide,rfl⟩),?_⟩) (.inl rfl) (by decide) (by simp;omega) ?_ (by simp) (by simp) (by decide)
  ·grind [kW.l]
  ·intro y hy
   rcases dF.1 hy with hy|hy
   ·exact g3 y hy
   ·simp only[cE] at hy
    subst hy
    refine aOI (λ_=>⟨.inr (.inr ⟨by decide,rfl⟩),?_⟩) (.inl rfl) (by decide) (by decide)
    grind [kW.l]
 ·cases nb
  ·simp only[u0,aOq,↓jN,a7c,↓iB,↓uL]
   exact P
  obtain⟨j,rfl⟩:∃j,D=j+1:=⟨D-1,by grind⟩
  simp only[a5Z,amZ,rk,pz,u0,u1,aPh,↓jA,aUw,↓uL]
  refine⟨⟨by decide,by decide⟩,aQP G (by omega) λu=>?_⟩
  cases u
  ·simp only[u0,u1,↓iC,↓uL]
   simp only[qz 66,amZ,rk,pz,aP2 (D:=j) (by omega),u0,u1,↓uL]
   refine⟨⟨by decide,by decide⟩,aS4 (ih j<|by omega) G (by omega) rfl λa l h' s5 g1 g2 g3 g4 H W=>?_⟩
   simp only[qz 68,qy 70,aSZ g1,aY,↓uL]
   exact N H (O.trans W) (out G W (by simp) q3) rfl (aPq (index:=[]) (els:=[]) g1 (.inl ⟨rfl,rfl⟩) (λq w=>(g4 q w).1.old O.f)<|by simp[aA]) (aPB (index:=[]) (by grind)<|by simp[aA]) (aOJ (by omega) (.inl rfl) (by decide) (by omega) g3 (by simp) (by simp)<|by decide)
  ·simp only[u0,u1,↓iB,↓uL]
   exact P
 ·cases nb
  ·simp only[u0,aOq,↓jN,a7c,↓iB,↓uL]
   exact P
  obtain⟨j,rfl⟩:∃j,D=j+1:=⟨D-1,by grind⟩
  simp only[a5Z,amZ,rk,pz,u0,u1,aPh,↓jA,aUw,↓uL]
  refine⟨⟨by decide,by decide⟩,aQP G (by omega) λu=>?_⟩
  cases u
  ·simp only[u0,u1,↓iC,↓uL]
   simp only[qz 66,amZ,rk,pz,aP2 (D:=j) (by omega),u0,u1,↓uL]
   refine⟨⟨by decide,by decide⟩,aS4 (ih j<|by omega) G (by omega) rfl λa l h' s5 g1 g2 g3 g4 H W=>?_⟩
   simp only[qz 68,qy 70,aSZ g1,aY,↓uL]
   exact N H (O.trans W) (out G W (by simp) q3) rfl (aPq (index:=[]) (els:=[]) g1 (.inl ⟨rfl,rfl⟩) (λq w=>(g4 q w).1.old O.f)<|by simp[aA]) (aPB (index:=[]) (by grind)<|by simp[aA]) (aOJ (by omega) (.inl rfl) (by decide) (by omega) g3 (by simp) (by simp)<|by decide)
  ·simp only[u0,u1,↓iB,↓uL]
   exact P
 ·cases nb
  ·simp only[u0,aOq,↓jN,a7c,↓iB,↓uL]
   exact P
  obtain⟨j,rfl⟩:∃j,D=j+1:=⟨D-1,by grind⟩
  simp only[u0,aPh,↓jA,aUw,↓uL]
  refine aQP G (by omega) λu=>?_
  cases u
  ·simp only[aP2 (D:=j) (by omega),u0,u1,↓iC,↓uL]
   refine aS4 (ih j<|by omega) G (by omega) rfl λa l h' s5 g1 g2 g3 g4 H W=>?_
   simp only[qz 74,qy 76,aSZ g1,aY,↓uL]
   exact N H (O.trans W) (out G W (by simp) q3) rfl (aPq (index:=[]) (els:=[]) g1 (.inl ⟨rfl,rfl⟩) (λq w=>(g4 q w).1.old O.f)<|by simp[aA]) (aPB (index:=[]) (by grind)<|by simp[aA]) (aOJ (λh=>aPo h<|by decide) (.inl rfl) (by decide) (by omega) g3 (by simp) (by simp)<|by decide)
  ·simp only[u0,u1,↓iB,↓uL]
   exact P
 ·cases nb
  ·simp only[u0,aOq,↓jN,a7c,↓iB,↓uL]
   exact P
  obtain⟨j,rfl⟩:∃j,D=j+1:=⟨D-1,by grind⟩
  simp only[u0,aPh,↓jA,aUw,↓uL]
  refine aQP G (by omega) λu=>?_
  cases u
  ·simp only[aP2 (D:=j) (by omega),u0,u1,↓iC,↓uL]
   refine aS4 (ih j<|by omega) G (by omega) rfl λa l h' s5 g1 g2 g3 g4 H W=>?_
   simp only[qz 74,qy 76,aSZ g1,aY,↓uL]
   exact N H (O.trans W) (out G W (by simp) q3) rfl (aPq (index:=[]) (els:=[]) g1 (.inl ⟨rfl,rfl⟩) (λq w=>(g4 q w).1.old O.f)<|by simp[aA]) (aPB (index:=[]) (by grind)<|by simp[aA]) (aOJ (λh=>aPo h<|by decide) (.inl rfl) (by decide) (by omega) g3 (by simp) (by simp)<|by decide)
  ·simp only[u0,u1,↓iB,↓uL]
   exact P
 ·refine⟨λhn=>?_,λ_=>P⟩
  obtain⟨j,rfl⟩:∃j,D=j+1:=⟨D-1,by grind⟩
  refine aPJ G (by simp) λA B C=>?_
  have S:=C.kq q3
  obtain⟨co,bX,s',cp,bq,b0,bi⟩:=B.mx
  simp only[qz 78,nlP bi,u0,u1,bi,aRV,aRa,aj,↓uL]
  refine aO4 B λy s5 y1 y2 H T=>?_
  have y2:=y2 (by decide)
  have q5:=T.kq S
  simp only[qz 80,u0,u1,eM (x:=1+y) (by omega) (by omega),↓uL]
  refine aQQ (ih 0<|by omega) H (by omega) rfl (by omega) (by omega) λa l h' s6 g1 g2 g3 g4 M6 R6=>?_
  have q6:=out H R6 (by simp) q5
  simp only[qz 82,qy 84,a5P g1,aY]
  refine anu M6.le λv7 s7 Z N7 b7=>?_
  have M7:=M6.fx0 Z
  have q7:=Z.kq q6
  have G7:=g1.fx Z (by simp)
  have a0:RH (16,X) (14,b2) Y h s5 h:=(O.trans<|.ofm C).trans<|.ofb T
  obtain⟨bn,bl,s8,bo,be,bm,an⟩:=M7.mx
  simp only[qz 86,nlP an,u0,u1,an,aj,↓uL]
  refine aPJ M7 (by simp) λs9 M9 F9=>?_
  have q9:=F9.kq q7
  have b9:=F9.kq b7
  have G9:=G7.fx F9 (λq w e=>by have:=(g4 q w).2;simp at e;subst e;simp at this)
  simp only[qz 88,qy 90,aEa b9 rfl,aY,↓uL]
  exact N M9 (((a0.trans R6).trans<|.of0 Z).trans<|.ofm F9) q9 rfl (aPq (index:=[]) (els:=[]) G9 (.inl ⟨rfl,rfl⟩) (by grind [bK.old])<|by simp[aA]) (aPB (index:=[]) (by grind)<|by simp[aA]) (aOJ (by omega) (.inl rfl) (by decide) (by omega) (by grind [shS.mono]) (by simp) (by simp)<|by decide)
 ·cases nb
  ·simp only[u0,↓jN,a7c,↓iB,↓uL]
   exact P
  cases aW
  ·obtain⟨j,rfl⟩:∃j,D=j+1:=⟨D-1,by grind⟩
   simp only[nlP k,u0,u1,k,aRV,bfx,aRa,aj,↓jA,aUw,↓iC,↓uL]
   refine aPJ G (by simp) λA B C=>?_
   have S:=C.kq q3
   simp only[qz 92,u0,u1,aP2 (D:=j) (by omega),↓uL]
   refine aQQ (ih j<|by omega) B (by omega) rfl (by omega) (by omega) λa l h' s6 g1 g2 g3 g4 M6 R6=>?_
   have q6:=out B R6 (by simp) S
   simp only[qz 94,qy 96,a5P g1,aY]
   refine anu M6.le λv7 s7 Z N7 b7=>?_
   have M7:=M6.fx0 Z
   have q7:=Z.kq q6
   have G7:=g1.fx Z (by simp)
   have a0:RH (16,X) (14,b2) Y h A h:=O.trans<|.ofm C
   obtain⟨bn,bl,s8,bo,be,bm,an⟩:=M7.mx
   simp only[qz 98,nlP an,u0,u1,an,aj,↓uL]
   refine aPJ M7 (by simp) λs9 M9 F9=>?_
   have q9:=F9.kq q7
   have b9:=F9.kq b7
   have G9:=G7.fx F9 (λq w e=>by have:=(g4 q w).2;simp at e;subst e;simp at this)
   simp only[qz 100,qy 102,aEa b9 rfl,aY,↓uL]
   exact N M9 (((a0.trans R6).trans<|.of0 Z).trans<|.ofm F9) q9 rfl (aPq (index:=[]) (els:=[]) G9 (.inl ⟨rfl,rfl⟩) (by grind [bK.old])<|by simp[aA]) (aPB (index:=[]) (by grind)<|by simp[aA]) (aOJ (by omega) (.inl rfl) (by decide) (by omega) g3 (by simp) (by simp)<|by decide)
  ·simp only[nlP k,u0,u1,k,aRV,bfx,aRa,aj,↓jA,aUw,↓iB,↓uL]
   exact P
 ·cases nb
  ·simp only[u0,aOq,↓jN,a7c,↓iB,↓uL]
   exact P
  cases aW
  ·simp only[nlP k,u0,u1,k,aRV,bfx,aRa,aj,aPh,↓jA,aUw,↓uL]
   refine aQP G (by omega) λu=>?_
   cases u
   ·have af:bM brG alz [(0,iv 9),(2,sv [99])]=V (.a [iv 9,iv 0,sv [99],sv [], .l [] U U,iv 0,iv 0,sv [], .l [] U U, .l [] U U, .l [] U U]):=rfl
    simp only[af,jM,kU,jt,tW,aD6,Fa,u0,u1,↓iC,↓uL]
    simp only[baQ,bQ,qz 106,qy 108,a5Q,aY,↓uL]
    refine⟨by simp[lo,nA,eB,iR],by rw[aXP rfl];trivial,N G O q3 rfl aRm (by simp[eB,iR])<|aOJ (by omega) (.inl rfl) (by decide) (by decide) ?_ (by simp) (by simp)<|by decide⟩
    obtain⟨j,rfl⟩:∃j,D=j+1:=⟨D-1,by grind⟩
    intro y hy
    simp only[eW,ql,bjf] at hy
    rcases hy with rfl|rfl
    ·exact aOI (by omega) (.inl rfl) (by decide) (by decide)
    ·exact aOI (λ_=>⟨.inl ⟨.inr rfl,rfl⟩,by simp[kW.l]⟩) (.inl rfl) (by decide) (by decide)
   ·simp only[u0,u1,↓iB,↓uL]
    exact P
  ·simp only[nlP k,u0,u1,k,aRV,bfx,aRa,aj,aOq,↓jA,↓jN,aUw,a7c,↓iB,↓uL]
   exact P
 ·cases nb
  ·simp only[nlP k,u0,u1,k,aRV,aRa,aj,aOq,↓jN,a7c,↓iB,↓uL]
   exact P
  simp only[u0,aPh,↓jA,aUw,↓uL]
  refine aQP G (by omega) λu=>?_
  cases u
  ·simp only[nlP k,u0,u1,k,aRV,aRa,aj,↓iC,↓uL]
   refine aO4 G λy A y1 y2 B C=>?_
   have y2:=y2 (by decide)
   have S:=C.kq q3
   have af:∀o:Int,bM brG alz [(0,iv o),(2,sv [99])]=V (.a [iv o,iv 0,sv [99],sv [], .l [] U U,iv 0,iv 0,sv [], .l [] U U, .l [] U U, .l [] U U]):=λ_=>rfl
   simp only[qz 112,af,baL,bQ,qz 114,qy 116,a5Q,eM (x:=10+y) (by omega) (by omega),u0,u1,↓uL]
   refine N B (O.trans<|.ofb C) S rfl aRm (by simp[eB,iR]) (aOJ (by omega) (.inl rfl) (by decide) (by simp) ?_ (by simp) (by simp)<|by decide)
   obtain⟨j,rfl⟩:∃j,D=j+1:=⟨D-1,by grind⟩
   intro z hz
   simp only[eW,ql,bjf] at hz
   subst hz
   exact aOI (λh=>by omega) (.inl rfl) (by decide) (by omega)
  ·simp only[u0,u1,↓iB,↓uL]
   exact P
 ·cases tx
  ·cases lp
   ·cases s
    ·simp only[nlP k,u0,u1,k,aRV,bfx,aRa,aj,↓jA,aUw,Bool.and_self,↓iC,↓uL]
     refine aPJ G (by simp) λA B C=>?_
     have S:=C.kq q3
     simp only[qz 118]
     refine aQO B λr s5 hr H T=>?_
     obtain⟨e,t,o,he,rfl⟩:=hr
     have q5:=T.kq S
     have af:bM brG alz [(0,iv 14),(2,sv [102]),(5, .a [iv e.op,iv e.n,st e.name, .l (e.l.map kW.c) t o])]=V (.a [iv 14,iv 0,st ⟨#[102]⟩,st ⟨#[]⟩, .l (([]:List kW).map kW.c) U U,iv e.op,iv e.n,st e.name, .l (e.l.map kW.c) t o, .l (([]:List NA).map NA.c) U U, .l (([]:List NA).map NA.c) U U]):=rfl
     simp only[qz 120,qy 122,af,aY,↓uL]
     exact N H ((O.trans<|.ofm C).trans<|.ofb T) q5 rfl aRm (by simp[eB,iR]) (by grind [aOI,shE.len])
    ·simp only[nlP k,u0,u1,k,aRV,bfx,aRa,aj,↓jA,aUw,Bool.and_self,↓iB,↓uL]
     exact P
   ·simp only[nlP k,u0,u1,k,aRV,bfx,aRa,aj,↓jN,a7c,bsm,↓iB,↓uL]
    exact P
  ·simp only[u0,↓jN,a7c,↓iB,↓uL]
   exact P
 ·cases tx
  ·simp only[nlP k,u0,u1,k,aRV,aRa,aj,aPh,↓jA,aUw,↓uL]
   refine aO4 G λy A y1 y2 B C=>?_
   have S:=C.kq q3
   have af:bM brG alz [(0,iv 15),(2,sv [97]),(3,sv [102])]=V (.a [iv 15,iv 0,st ⟨#[97]⟩,st ⟨#[102]⟩, .l (([]:List kW).map kW.c) U U,iv (kW.mk 0 0 ⟨#[]⟩ []).op,iv (kW.mk 0 0 ⟨#[]⟩ []).n,st (kW.mk 0 0 ⟨#[]⟩ []).name, .l ((kW.mk 0 0 ⟨#[]⟩ []).l.map kW.c) U U, .l (([]:List NA).map NA.c) U U, .l (([]:List NA).map NA.c) U U]):=rfl
   simp only[af,u0,u1,↓uL]
   exact⟨λ_=>N B (O.trans<|.ofb C) S rfl aRm (by simp[eB,iR])<|aOI (by omega) (.inl rfl) (by decide)<|by decide,λ_=>bf B (O.trans<|.ofb C) S⟩
  ·simp only[u0,aOq,↓jN,a7c,↓iB,↓uL]
   exact P
theorem ba1{D:Nat}(l:∀i,i<D->aQH m b i)(M:J7 Y m b hs h)(k:L hs+D<=500)(w:∀cs x g Y1,Lv Y Y1 cs (NA.c x)->(∀q∈eB (.a cs),q.1=30\/q.1=126)->shS (D+1) x->J7 Y1 m b hs g->RH m b Y h Y1 g->K (.a cs) Y1):cB 244 [.p m 0 0,iv D] Y d K:=by refine jH rfl (bdy l M k) ?_;rintro r Y1 ⟨cs,x,g,rfl,n,s,u,v,j⟩;exact⟨j.f.len,by grind⟩
theorem lA.bx{e:TypeId}{z:Nat}{a:AV}{bA:List (List AV)}(g:lA Y e z a bA):∀q∈aA a,∃x,box Y q=V x:=by rcases g with⟨_,rfl⟩|⟨b,m,rfl,c⟩;simp[aA];grind [aA]
theorem bdw:∀D,aQH m b D:=by
 intro D
 induction D using Nat.strongRecOn with
 |ind D ih=>
 intro Y hs h n M hl H h3
 have hm:=M.sm
 have aq:=M.sb
 refine bgq M.le ?_
 simp only[aUP]
 refine jD (α:=AV×List NA×AV) (λx i=>[x.1,iv i]) 1 n.toNat (λk x Y'=>lA Y' 274 11 x.1 (x.2.1.map NA.c)/\L x.2.1<=k/\(∀y∈x.2.1,shS (D+1) y)/\(∀q∈aA x.1,bK Y q/\q.1=30)/\J7 Y' m b hs x.2.2/\RH m b Y h Y' x.2.2)
  (s0:=(.l [] U U,[],h)) ⟨.inl ⟨rfl,rfl⟩,by simp,by simp,by simp[aA],M,RH.refl⟩ ?_
 rintro k ⟨a1,l1,h1⟩ Y1 hk ⟨g1,g2,S,T,B,v⟩
 simp only at g1 g2 S T B v
 obtain⟨th,lf,s,tx,ap,lp,r⟩:=B.mx
 have F:aNN (SsR Y m b hs h D n) Y1 [a1]:=⟨l1,h1,g1,by omega,S,T,B,v⟩
 have E:k<n.toNat->∀d I1 m1 vs,vs=[a1,iv k]->(I1=yI (λ(x:AV×List NA×AV) i=>[x.1,iv i]) n.toNat λk x Y'=>lA Y' 274 11 x.1 (x.2.1.map NA.c)/\L x.2.1<=k/\(∀y∈x.2.1,shS (D+1) y)/\(∀q∈aA x.1,bK Y q/\q.1=30)/\J7 Y' m b hs x.2.2/\RH m b Y h Y' x.2.2)->m1=gM 1 n.toNat->cB 244 [.p m 0 0,iv D] Y1 d (aUQ vs I1 m1 Y1):=by
  rintro j d I1 m1 vs rfl rfl rfl
  refine ba1 ih B hl λcs x X O Lw k1 k2 M2 C=>?_
  have ah:L cs=11:=by have:=brz L Lw.eq;grind [bit]
  have Z:aX brP 1 O [(0, .a cs)]=V (.l ([x].map NA.c) U U,kills O<|eB<|.a cs):=aQm Lw.eq bit (by decide) aS7 (by decide)
  simp only[aUQ,Z,bQ,au]
  have A:=aOp (eB<|.a cs) O
  have ka:∀q∈aA a1,q∉eB (.a cs):=λq z N=>by
   obtain⟨x,hx⟩:=g1.bx q z
   exact(Lw.nw q N).ne hx rfl
  have G3:=(g1.fx C.f<|by grind [J7.out]).fx A ka
  have R:=M2.fx A (by grind) (by grind) (λq z N=>by grind [J7.sh])
  refine apQ G3 R.le (by grind [bit]) (by grind [bit]) (by simp) (by simp;omega) λa' s6 W P N6=>?_
  rw[<-dg] at W
  have M6:=R.fx P (by grind) (by grind) (λq z N=>by grind [J7.sh])
  have FA:=(v.f.trans C.f).trans A
  have R6:RH m b Y h s6 X:=⟨((v.trans C).f.trans<|A.trans P).mono λq z=>by
   rcases dF.1 z with g|g
   ·exact .inl g
   rcases dF.1 g with g|g
   ·exact .inr ((Lw.nw q g).old v.f).no
   grind [bK.no],(v.trans C).i⟩
  simp only[aZ9,au,u0,u1,↓uL]
  refine dR (mk:=λ(x:AV×List NA×AV) i=>[x.1,iv i]) (p:=1) (s:=(a1,l1,h1)) (s':=(a',l1++[x],X)) (λ_ _=>rfl) j (by omega) ⟨W.p,by simp;omega,?_,(by grind [bK.old]),M6,R6⟩
  grind
 rcases Decidable.em ((k:Int)<n) with j|j
 ·have w:Q ((k:Int)<n)=U:=bpL j
  have E:=E (by omega)
  rcases oD k with H|H
  ·have u:Q ((k:Int)=0)=U:=by simp[H]
   simp only[aRp,aI,au,w,u,u0,u1,↓jA,↓jN,aUw,↓iC,↓uL]
   exact E _ _ _ _ rfl rfl rfl
  ·have u:Q ((k:Int)=0)=I:=by simp;omega
   rcases G:Q (0<lf) with _|_
   ·simp only[aRp,aI,au,w,u,G,nlP r,u0,u1,r,aRV,bfx,aRa,aj,↓jA,aUw,a7c,↓iB,↓uL]
    exact F
   ·simp only[aRp,aI,au,w,u,G,nlP r,u0,u1,r,aRV,bfx,aRa,aj,↓jA,aUw,a7c,↓iC,↓uL]
    exact E _ _ _ _ rfl rfl rfl
 ·have w:Q ((k:Int)<n)=I:=bio j
  simp only[aRp,aI,au,w,u0,u1,↓jN,a7c,↓iB,↓uL]
  exact F
end
section
attribute[local irreducible] aX
def aU7 b a c R:=(.mk _:NS a7x at1 Tryz.f191 [b, .u] [a] c R).p
def bg4{c:AV}{b:List AV}{s0:ae}{R:be}(hs:L s0=4096)(l1:L b=6)(h:HB1 264 6 3 b s0 λe d=>aU7 c e d R):EB 191 [c, .a b] s0 R:=zB1 at1 aNH Tryz.func191 hs l1 h
def aQI b a c d R:=(.mk _:NS a7x atB Tryz.f277 [b, .u,c] [a] d R).p
def bg6{c:AV}{b:List AV}{d:AV}{s0:ae}{R:be}(hs:L s0=4096)(l1:L b=4)(h:HB1 272 4 4 b s0 λf e=>aQI c f d e R):EB 277 [c, .a b,d] s0 R:=zB1 atB aNH Tryz.func277 hs l1 h
def a9t:=I5 11 []
def aU4 b a c R:=(.mk _:NS a7x a9t Tryz.f273 [b, .u] [a] c R).p
def bg1{c:AV}{b:List AV}{s0:ae}{R:be}(hs:L s0=4096)(l1:L b=11)(h:HB1 274 11 3 b s0 λe d=>aU4 c e d R):EB 273 [c, .a b] s0 R:=zB1 a9t aNH Tryz.func273 hs l1 h
def a9u:=I5 19 []
def aU5 b a c R:=(.mk _:NS a7x a9u Tryz.f274 [b, .u] [a] c R).p
def bg2{c:AV}{b:List AV}{s0:ae}{R:be}(hs:L s0=4096)(l1:L b=11)(h:HB1 274 11 3 b s0 λe d=>aU5 c e d R):EB 274 [c, .a b] s0 R:=zB1 a9u aNH Tryz.func274 hs l1 h
def aU3 b a c d e f R:=(.mk _:NS a7x avg Tryz.f275 [b, .u,c,d,e] [a] f R).p
def bg0{c:AV}{b:List AV}{d e f:AV}{s0:ae}{R:be}(hs:L s0=4096)(l1:L b=11)(h:HB1 274 11 6 b s0 λi g=>aU3 c i d e f g R):EB 275 [c, .a b,d,e,f] s0 R:=zB1 avg aNH Tryz.func275 hs l1 h
def a9x:=I5 21 [(6,([31],[0,3,4,25]))]
def aU8 b a c R:=(.mk _:NS a7x a9x Tryz.f243 [b, .u] [a] c R).p
def bg5{c:AV}{b:List AV}{s0:ae}{R:be}(hs:L s0=4096)(l1:L b=11)(h:HB1 274 11 3 b s0 λe d=>aU8 c e d R):EB 243 [c, .a b] s0 R:=zB1 a9x aNH Tryz.func243 hs l1 h
def a9y:=I5 5 [(1,([4],[0,1]))]
def aSu a a1 s0 R:=(.mk _:NS a7x a9y Tryz.f190 [a,a1] [] s0 R).p
def a7T{a a1:AV}{s0:ae}{R:be}(hs:L s0=4096)(h:aSu a a1 s0 R):EB 190 [a,a1] s0 R:=zB a9y aNH Tryz.func190 h
end
structure Gn(κ:Int)(Y:ae)(b:Id)(w:J9)(loc:List ByteArray)(a:AV)(n:Nat):Prop where
 bx0:∃s nx:Int,(0<=nx/\nx<=n+κ)/\box Y b=V ⟨260,10,U,U,[[sl cA.c w.cells,sl dS.c w.ak,sl aOw.c w.bC,sl cs w.bU,sl cs w.ay,sl dL.c w.dU,sl cs loc,a,iv s,iv nx]]⟩
 ga:∃out:List aNZ,lA Y 264 6 a (out.map aNZ.c)/\L out=n
 le:L Y=4096
 sb:b.1=45
 sa:∀q∈aA a,q.1=16
 wb:WBd w
 lb:L loc<1000
 hq:∃c∈w.cells,c.name=qN
theorem Gn.bx{κ:Int}{Y:ae}{b:Id}{w:J9}{loc:List ByteArray}{a:AV}{n:Nat}(G:Gn κ Y b w loc a n):∃s nx:Int,box Y b=V ⟨260,10,U,U,[[sl cA.c w.cells,sl dS.c w.ak,sl aOw.c w.bC,sl cs w.bU,sl cs w.ay,sl dL.c w.dU,sl cs loc,a,iv s,iv nx]]⟩:=by grind [Gn.bx0]
def aRZ{w:J9}{l:List AV}:aN (V 6) (sl cA.c w.cells::sl dS.c w.ak::sl aOw.c w.bC::sl cs w.bU::sl cs w.ay::sl dL.c w.dU::l)=V (.a w.c):=rfl
structure R4(b:Id)(Y:ae)(a:AV)(Y1:ae)(a1:AV):Prop where
 f:Fx Y Y1 (b::aA a)
 i:∀q∈aA a1,q∈aA a\/bK Y q
section
variable{κ:Int}{Y Y0 Y1 Y2:ae}{b:Id}{w:J9}{loc:List ByteArray}{a a0 a1 a2:AV}{n N:Nat}{d:Nat}{K:be}{ol:List aNZ}
theorem R4.refl:R4 b Y a Y a:=⟨Fx.refl _ _,λ_ h=> .inl h⟩
theorem R4.trans(h:R4 b Y a Y1 a1)(c:R4 b Y1 a1 Y2 a2):R4 b Y a Y2 a2:=by refine⟨(h.f.trans c.f).mono λq e=>?_,λq e=>(c.i q e).elim (h.i q) λg=> .inr<|g.old h.f⟩;grind [R4.i,bK.no]
def R4.of0(F:Fx Y Y1 []):R4 b Y a Y1 a:=⟨F.mono (by simp),λ_ h=> .inl h⟩
theorem R4.ofb(F:Fx Y Y1 [b]):R4 b Y a Y1 a:=⟨(by grind [Fx.mono]),λ_ h=> .inl h⟩
theorem Gn.fx(G:Gn κ Y b w loc a n){ks:List Id}(F:Fx Y Y1 ks)(f:b∉ks)(c:∀q∈aA a,q∉ks):Gn κ Y1 b w loc a n:=by obtain⟨s,nx,i,h⟩:=G.bx0;obtain⟨out,g,e⟩:=G.ga;exact⟨(by grind [Fx.keep]),⟨out,g.fx F c,e⟩,F.len.trans G.le,G.sb,G.sa,G.wb,G.lb,G.hq⟩
theorem Gn.mono(G:Gn κ Y b w loc a n){κ':Int}(h:κ<=κ'):Gn κ' Y b w loc a n:=by obtain⟨s,nx,e,c⟩:=G.bx0;exact⟨(by grind),G.ga,G.le,G.sb,G.sa,G.wb,G.lb,G.hq⟩
theorem Gn.fx0(G:Gn κ Y b w loc a n)(F:Fx Y Y1 []):Gn κ Y1 b w loc a n:=G.fx F (by simp) (by simp)
theorem Gn.out(G:Gn κ Y b w loc a n):∀q:Id,q.1≠45->q.1≠16->q∉b::aA a:=λq c e f=>by
 grind [Gn.sb,Gn.sa]
def GR(κ:Int)(N:Nat)(Y:ae)(b:Id)(w:J9)(loc:List ByteArray)(a:AV)(n:Nat)(r:AV)(Y1:ae):Prop:=∃e c,r= .t []/\Gn κ Y1 b w loc e c/\n<=c/\c<=n+N/\R4 b Y a Y1 e
theorem aPv{fn:Nat}{xs:List AV}(i:uQ.elem fn=I)(h:∃r Y1,GR κ N Y b w loc a n r Y1/\cZ aS GG fn xs Y r Y1)(m:∀e c Y1,Gn κ Y1 b w loc e c->n<=c->c<=n+N->R4 b Y a Y1 e->K (.t []) Y1):cB fn xs Y d K:=by refine jH i h ?_;rintro r Y1 ⟨e,c,rfl,j,k,l,g⟩;exact⟨g.f.len,by grind⟩
theorem bdp(G:Gn κ Y b w loc a n)(hn:n<100000)(x:aNZ):∃r Y1,(∃h,r= .t []/\Gn (κ-1) Y1 b w loc h (n+1)/\R4 b Y a Y1 h)/\cZ aS GG 191 [.p b 0 0, .a x.c] Y r Y1:=by obtain⟨R,S⟩:=b;obtain rfl:R=45:=G.sb;refine bg4 G.le rfl λs2 v3 O ac nf2 H=>?_;have A:Fx Y s2 []:=O.fx [];have G2:=G.fx0 A;obtain⟨s,nx,D⟩:=G2.bx;simp only[aU7,nlP D,u0,u1,D,H,aRV,bfx,aRa,aj,↓uL];refine A0 H rfl (by show 5<6;decide) λy B Z=>?_;have M:box y (3,v3)=V ⟨264,6,U,U,[aNZ.c {x with site:=s}]⟩:=Z;have j:=G2.fx B (by simp) (λq i e=>by grind [Gn.sa]);obtain⟨s',ad,F,k⟩:=j.bx0;have E:∀{x:aNZ},aX buW 1 y [(0, .a<|aNZ.c x)]=V (.l ([x].map aNZ.c) U U,y):=λ{x}=>ua rfl rfl rfl (by decide) rfl (by decide);simp only[qz 4,qy 6,nlP k,u0,u1,k,M,pz,aj,E,↓uL];obtain⟨out,g,W⟩:=j.ga;refine apQ g j.le (qW (f:=aNZ.c) (z:=6) λ_=>rfl) (by grind [aNZ.c]) (by simp) (by simp;omega) λh s4 v o P=>?_;rw[<-dg] at v;have m:=o.keep _ _ (λi=>by have:=j.sa _ i;simp at this) k;simp only[qz 8,nlP m,u0,u1,m,aj,↓uL];refine A0 m v.p.ce (by simp) λs5 u T=>?_;refine dT (by first|rfl|(simp[eL,okT,tok,lb,cq,Qh,m8,dC,pP,dK,aNZ.c];done)) ?_;have C:∀q∈aA h,q∉[((45,S):Id)]:=(by grind);have X:∀q∈aA h,bK Y q:=(by grind [bK.old]);refine⟨h,rfl,⟨⟨_,_,⟨F.1,by omega⟩,T⟩,⟨out++[_],v.p.fx u C,by simp[W]⟩,u.len.trans<|o.len.trans j.le,rfl,λq i=>(P q i).2,G.wb,G.lb,G.hq⟩,⟨(((A.trans B).trans o).trans u).mono λq i=>?_,by simp_all⟩⟩;grind
theorem aPw(G:Gn κ Y b w loc a n)(i:n<100000){x:aNZ}(k:∀e Y1 g,Gn (κ-1) Y1 b w loc e g->n+1<=g->g<=n+1->R4 b Y a Y1 e->K (.t []) Y1):cB 191 [.p b 0 0, .a x.c] Y d K:=by refine jH rfl (bdp G i x) ?_;rintro r Y1 ⟨e,rfl,j,h⟩;exact⟨h.f.len,by grind⟩
theorem a58(h:∃c∈w.cells,c.name=qN):aF (L w.cells) (uo (λi=>Q<|(gd w.cells i).name=qN)<|L w.cells):=by obtain⟨c,f,k⟩:=h;obtain⟨j,g,rfl⟩:=ou f;have e:=aTb (p:=λi=>Q<|(gd w.cells i).name=qN) (n:=L w.cells);refine⟨?_,e.2⟩;unfold uo;split;omega;simp_all [bT]
def bV:Nat->Nat|0=>0|m+1=>1+2*bV m
def ban{o x y:Int}:bM bsS anY [(0,iv o),(1,iv x),(4,iv y)]=V (.a<|aNZ.c ⟨o,x,0,0,y,0⟩):=rfl
def bao{o x y:Int}:bM bsS anY [(0,iv o),(1,iv x),(2,iv y)]=V (.a<|aNZ.c ⟨o,x,y,0,0,0⟩):=rfl
def bap{o x y z u:Int}:bM bsS anY [(0,iv o),(1,iv x),(2,iv y),(3,iv z),(4,iv u)]=V (.a<|aNZ.c ⟨o,x,y,z,u,0⟩):=rfl
def baq{o x:Int}:bM bsS anY [(0,iv o),(1,iv x)]=V (.a<|aNZ.c ⟨o,x,0,0,0,0⟩):=rfl
def bar{o:Int}:bM bsS anY [(0,iv o)]=V (.a<|aNZ.c ⟨o,0,0,0,0,0⟩):=rfl
def bdI:=ai @ban<|ai @bao<|ai @bap<|ai @baq<|@bar
theorem GR.mono{N M:Nat}{r:AV}(h:GR κ N Y b w loc a n r Y1)(l:N<=M):GR κ M Y b w loc a n r Y1:=by obtain⟨c,j,e,f,g,k,i⟩:=h;exact⟨c,j,e,f,g,by omega,i⟩
theorem bdC:∀(m:Nat) {Y:ae} {a:AV} {n:Nat} {e:kW} {dd:Int},Gn κ Y b w loc a n->n+bV m<100000->shE m e->∃r Y1,GR (κ-1) (bV m) Y b w loc a n r Y1/\cZ aS GG 277 [.p b 0 0, .a e.c,iv dd] Y r Y1:=by
 intro m
 induction m with
 |zero=>intro Y a n e dd G hn D;exact D.elim
 |succ m ih=>
  intro Y a n e dd G hn D
  obtain⟨b1,g⟩:=b
  obtain rfl:b1=45:=G.sb
  have ar:bV (m+1)=1+2*bV m:=rfl
  refine bg6 G.le aN9 λH v4 K2 aw nf2 y=>?_
  have M:Fx Y H []:=K2.fx []
  have G2:=G.fx0 M
  have z:R4 (45,g) Y a H a:=R4.of0 M
  obtain⟨s,nx,W⟩:=G2.bx
  have T:=G.wb
  have hL:=G.lb
  have q4:∀q:Id,q.1=4->q∉((45,g):Id)::aA a:=(by grind [Gn.out])
  have j:∀{u:ae} {v:AV} {h:Nat} {x:aNZ} {d:Nat},Gn κ u (45,g) w loc v h->n<=h->h<=n+2*bV m->R4 (45,g) Y a u v->cB 191 [.p (45,g) 0 0, .a x.c] u d λay ad=>aNN (GR (κ-1) (bV<|m+1) Y (45,g) w loc a n) ad []:=λi k h2 o=>
   aPw i (by omega) λC Y1 B G' g1 S R'=>⟨C,B,rfl,G',by omega,by omega,o.trans R'⟩
  have val:∀{u:ae} {v:AV} {h:Nat} {R:kW} {P:Int} {d:Nat} {K:be},Gn κ u (45,g) w loc v h->h<=n+bV m->shE m R->(∀C B Y1,Gn κ Y1 (45,g) w loc C B->h<=B->B<=h+bV m->R4 (45,g) u v Y1 C->K (.t []) Y1)->cB 277 [.p (45,g) 0 0, .a R.c,iv P] u d K:=λi k X hK=>aPv rfl (ih i (by omega) X) (by grind [Gn.mono])
  have an:=D.2
  rcases D.1 with⟨k|k,au⟩|⟨k,aa,av⟩|⟨k,Z⟩
  ·simp only[aQI,qy 4,qy 6,qy 8,u0,u1,y,pz,aj,k,bpF,↓iC,bdI,↓uL]
   exact j G2 (by omega) (by omega) z
  ·have A:dG H (.a w.c)= .a w.c:=rfl
   simp only[aQI,qy 4,qy 6,qy 8,nlP W,u0,u1,W,y,pz,aRZ,aj,k,bpF,bqF,Int.reduceEq,↓iC,↓iB,jM,kU,jt,A,tW,alg,aD6,AL,bdI,vp,↓uL]
   exact⟨by omega,λ_=>j G2 (by omega) (by omega) z,λ_=>⟨by have:=T.1;omega,j G2 (by omega) (by omega) z⟩⟩
  ·simp only[aQI,qy 4,qy 6,qy 8,u0,u1,y,pz,aj,k,bpF,bqF,Int.reduceEq,↓iC,↓iB,ixv,rr,↓uL]
   refine⟨⟨by omega,by omega⟩,val G2 (by omega) (by grind [ve]) λv h s3 i g1 S o=>?_⟩
   have E:=o.f.keep _ _ (q4 _ rfl) y
   obtain⟨s',ax,F⟩:=i.bx
   have A:dG s3 (.a w.c)= .a w.c:=rfl
   simp only[qz 10,qy 12,nlP F,u0,u1,F,E,pz,aRZ,aj,aa,jM,kU,jt,A,tW,aD6,AL,ix,bdI,rk,vp,↓uL]
   exact⟨by have:=T.1;omega,a58 G.hq,j i (by omega) (by omega)<|z.trans o⟩
  ·have o1:e.op≠1:=by omega
   have o2:e.op≠2:=by omega
   have o3:e.op≠3:=by omega
   have ol:Q ((L e.l:Int)=1)=I:=by simp[Z]
   simp only[aQI,qy 4,qy 6,qy 8,u0,u1,y,pz,aj,o1,o2,o3,ol,bqF,↓iB,ixv,rr,↓uL]
   refine⟨⟨by omega,by omega⟩,val G2 (by omega) (by grind [ve]) λv h s3 i g1 S o=>?_⟩
   have E:=o.f.keep _ _ (q4 _ rfl) y
   simp only[qz 18,u0,u1,E,pz,aj,ixv,rr,↓uL]
   refine⟨⟨by omega,by omega⟩,val i (by omega) (by grind [ve]) λa5 n5 s5 G5 g3 g4 O=>?_⟩
   have q5:=O.f.keep _ _ (by grind [Gn.out]) E
   simp only[qz 20,qy 22,u0,u1,q5,pz,aj,bdI,↓uL]
   exact j G5 (by omega) (by omega)<|(z.trans o).trans O
theorem aRF(G:Gn κ Y b w loc a n)(j:n<90000){e:kW}(i:shE 2 e){dd:Int}(h:∀g f Y1,Gn (κ-1) Y1 b w loc g f->n<=f->f<=n+3->R4 b Y a Y1 g->K (.t []) Y1):cB 277 [.p b 0 0, .a e.c,iv dd] Y d K:=aPv rfl (bdC 2 G (by grind [bV]) i) h
theorem bda(G:Gn κ Y b w loc a n)(hn:n<80000){x:NA}(H:shE 2 x.expr)(hI:∀y∈x.index,shE 2 y)(O:x.index≠[]->x.name=qN)(ah:L x.index<=1):∃r Y1,GR (κ-1) 7 Y b w loc a n r Y1/\cZ aS GG 273 [.p b 0 0, .a x.c] Y r Y1:=by
 obtain⟨b1,i⟩:=b
 obtain rfl:b1=45:=G.sb
 refine bg1 G.le bit λR v3 X ak nf2 z=>?_
 have A:Fx Y R []:=X.fx []
 have G2:=G.fx0 A
 have u:R4 (45,i) Y a R a:=R4.of0 A
 obtain⟨s,nx,F⟩:=G2.bx
 have E:=G.wb
 have hL:=G.lb
 have j:∀{v:ae} {m:AV} {l:Nat} {x:aNZ} {d:Nat},Gn κ v (45,i) w loc m l->n<=l->l<=n+6->R4 (45,i) Y a v m->cB 191 [.p (45,i) 0 0, .a x.c] v d λal T=>aNN (GR (κ-1) 7 Y (45,i) w loc a n) T []:=λg h1 h2 e=>
  aPw g (by omega) λa' Y1 n' W g1 D Z=>⟨a',n',rfl,W,by omega,by omega,e.trans Z⟩
 simp only[aU4,nlP F,u0,u1,F,z,pz,aj,ixv,rr,↓uL]
 refine⟨λh=>?_,λh=>?_⟩
 ·have ac:0<L x.index:=by simpa using h
  have M:x.index≠[]:=(by grind)
  refine⟨⟨by omega,by omega⟩,aRF G2 (by omega) (by grind [ve]) λm l S g g1 D e=>?_⟩
  have o:=e.f.keep _ _ (by grind [Gn.out]) z
  simp only[qz 4,u0,u1,o,pz,aj,↓uL]
  refine aRF g (by omega) H λa5 n5 s5 B g3 g4 C=>?_
  have q5:=C.f.keep _ _ (by grind [Gn.out]) o
  obtain⟨s',P,t⟩:=B.bx
  have k:dG s5 (.a w.c)= .a w.c:=rfl
  simp only[qz 6,qy 8,nlP t,u0,u1,t,q5,pz,aRZ,aj,O M,jM,kU,jt,k,tW,aD6,AL,ix,bdI,rk,vp,↓uL]
  exact⟨by have:=E.1;omega,a58 G.hq,j (B.mono<|by omega) (by omega) (by omega)<|(u.trans e).trans C⟩
 ·refine aRF G2 (by omega) H λm l S g g1 D e=>?_
  have o:=e.f.keep _ _ (by grind [Gn.out]) z
  obtain⟨s',P,q⟩:=g.bx
  have k:dG S (.a w.c)= .a w.c:=rfl
  simp only[qz 10,qy 12,qy 14,nlP q,u0,u1,q,o,pz,aRZ,aj,jM,kU,jt,k,tW,alg,aD6,AL,bdI,vp,↓uL]
  exact⟨by omega,λ_=>j (g.mono<|by omega) (by omega) (by omega)<|u.trans e,λ_=>⟨by have:=E.1;omega,j (g.mono<|by omega) (by omega) (by omega)<|u.trans e⟩⟩
theorem bcN(g:lA Y 264 6 a<|ol.map aNZ.c){i:Nat}(u:i<L ol){j:Nat}(z:j=1\/j=2){v:Int}{K:ae->Prop}(t:∀(Y':ae) (e:List aNZ),L e=L ol->lA Y' 264 6 a (e.map aNZ.c)->Fx Y Y' (aA a)->K Y'):rV (cz 6 Y a<|iv i) λk=>rV (iQ j Y k) λl=>sV (aK 1 Y l<|iv v) K:=by rcases g with⟨h,rfl⟩|⟨q,m,rfl,f⟩;simp_all;have r:cz 6 Y (.m q<|L<|ol.map aNZ.c) (iv i)=V (.p q i 0):=(by simp[cz,f,u]);have s:iQ j Y (.p q i 0)=V (.p q i j):=(by simp[iQ,f]);simp only[r,s,aY];have A:(ol.map aNZ.c++m)[i]?=V (aNZ.c<|gd ol i):=(by grind [bT]);refine aQz (x:=iv v) f A (by show j<6;omega) rfl rfl rfl λY' F o=>?_;obtain⟨y,B⟩:∃y:aNZ,(aNZ.c<|gd ol i).set j (iv v)=y.c:=(by rcases z with rfl|rfl;exact⟨{gd ol i with a:=v},rfl⟩;exact⟨{gd ol i with b:=v},rfl⟩);have hs:(ol.map aNZ.c++m).set i ((aNZ.c<|gd ol i).set j<|iv v)=(ol.set i y).map aNZ.c++m:=(by simp_all);refine t Y' (ol.set i y) (by simp) (.inr ⟨q,m,by simp,?_⟩) (by grind [aA]);rw[o,<-hs];rfl
theorem Gn.patch(G:Gn κ Y b w loc a n){i:Nat}(p:i<n){j:Nat}(k:j=1\/j=2){v:Int}{K:ae->Prop}(f:∀Y',Gn κ Y' b w loc a n->R4 b Y a Y' a->K Y'):rV (cz 6 Y a<|iv i) λc=>rV (iQ j Y c) λe=>sV (aK 1 Y e<|iv v) K:=by obtain⟨s,nx,r,o⟩:=G.bx0;obtain⟨out,g,q⟩:=G.ga;refine bcN g (by omega) k λY' out' l m F=>f Y' ⟨(by grind [Fx.keep,Gn.sa,Gn.sb]),(by grind),F.len.trans G.le,G.sb,G.sa,G.wb,G.lb,G.hq⟩ ⟨(by grind [Fx.mono]),λ_ h=> .inl h⟩
theorem Gn.set(G:Gn κ Y b w loc a n){v:Int}{K:ae->Prop}(e:∀Y',Gn κ Y' b w loc a n->Fx Y Y' [b]->K Y'):sV (aK 1 Y (.p b 0 8)<|iv v) K:=by obtain⟨s,nx,h,f⟩:=G.bx0;obtain⟨out,g,i⟩:=G.ga;exact A0 f rfl (by simp) λY' F c=>e Y' ⟨⟨v,nx,h,c⟩,(by grind [lA.fx,Gn.sa,Gn.sb]),F.len.trans G.le,G.sb,G.sa,G.wb,G.lb,G.hq⟩ F
theorem Gn.nxt(G:Gn κ Y b w loc a n){v:Int}(h:0<=v)(i:v<=n+κ){K:ae->Prop}(c:∀Y',Gn κ Y' b w loc a n->Fx Y Y' [b]->K Y'):sV (aK 1 Y (.p b 0 9)<|iv v) K:=by obtain⟨s,nx,k,e⟩:=G.bx0;obtain⟨out,g,j⟩:=G.ga;exact A0 e rfl (by simp) λY' F f=>c Y' ⟨(by simp_all),(by grind [lA.fx,Gn.sa,Gn.sb]),F.len.trans G.le,G.sb,G.sa,G.wb,G.lb,G.hq⟩ F
def bG:Nat->Nat|0=>0|m+1=>10+8*bG m
def aRo(b:Id)(w:J9)(loc:List ByteArray)(m:Nat):Prop:=∀{κ:Int} {Y:ae} {a:AV} {n:Nat} {l:List NA},Gn κ Y b w loc a n->κ<=1000000->shL m 8 l->n+L l*bG m<60000->∃r Y1,GR κ (L l*bG m) Y b w loc a n r Y1/\cZ aS GG 190 [.p b 0 0,sl NA.c l] Y r Y1
theorem aV7{m:Nat}(i:aRo b w loc m)(G:Gn κ Y b w loc a n)(h:κ<=1000000){l:List NA}(e:shL m 4 l)(o:n+4*bG m<60000)(k:∀g f Y1,Gn κ Y1 b w loc g f->n<=f->f<=n+4*bG m->R4 b Y a Y1 g->K (.t []) Y1):cB 190 [.p b 0 0,sl NA.c l] Y d K:=by have j:L l*bG m<=4*bG m:=qo _ e.1;exact aPv rfl (i G h ⟨by have:=e.1;omega,e.2⟩<|by omega) (by grind)
theorem bc9{m:Nat}(F:aRo b w loc m)(G:Gn κ Y b w loc a n){x:NA}(E:shS (m+1) x)(hn:n+bG (m+1)<60000)(T:κ<=1000001)(o1 M y:Int):∃r Y1,GR (κ-1) (bG<|m+1) Y b w loc a n r Y1/\cZ aS GG 275 [.p b 0 0, .a x.c,iv o1,iv M,iv y] Y r Y1:=by obtain⟨m',S,g1,g2⟩:=E.body;obtain rfl:m=m':=(by omega);have R:bG (m+1)=10+8*bG m:=rfl;obtain⟨C,D⟩:=b;obtain rfl:C=45:=G.sb;refine bg0 G.le bit λl v3 v W nf2 O=>?_;have g:Fx Y l []:=v.fx [];have G2:=G.fx0 g;have z:R4 (45,D) Y a l a:=R4.of0 g;obtain⟨s,nx,k⟩:=G2.bx;simp only[aU3,nlP k,u0,u1,k,aRV,bfx,aRa,aj,bdI,↓uL];refine aPw G2 (by omega) λZ s3 n3 q h1 h2 i=>?_;have P:=i.f.keep _ _ (by grind [Gn.out]) O;simp only[qz 4,u0,u1,P,pz,aj,↓uL];refine aV7 F q (by omega) g1 (by omega) λa4 n4 s4 h h3 h4 j=>?_;obtain⟨s',X,e⟩:=h.bx;simp only[qz 6,nlP e,u0,u1,e,aj,↓uL];refine h.set λs5 t o=>?_;simp only[qz 8,qy 10,bdI,aY];refine aPw t (by omega) λB s6 H u h5 h6 A=>⟨B,H,rfl,u.mono (by omega),by omega,by omega,(((z.trans i).trans j).trans<|R4.ofb o).trans A⟩
theorem a6I{m:Nat}(ih:aRo b w loc m)(G:Gn κ Y b w loc a n){x:NA}(hx:shS (m+1) x)(he:shE 2 x.expr)(hn:n+bG (m+1)<60000)(aU:κ<=1000001):∃r Y1,GR (κ-1) (bG<|m+1) Y b w loc a n r Y1/\cZ aS GG 274 [.p b 0 0, .a x.c] Y r Y1:=by obtain⟨m',aQ,g1,g2⟩:=hx.body;obtain rfl:m=m':=(by omega);have aP:bG (m+1)=10+8*bG m:=rfl;obtain⟨b1,O⟩:=b;obtain rfl:b1=45:=G.sb;refine bg2 G.le bit λs2 v3 K2 aV nf2 q2=>?_;have B:Fx Y s2 []:=K2.fx [];have G2:=G.fx0 B;have R2:R4 (45,O) Y a s2 a:=R4.of0 B;obtain⟨s,nx,W⟩:=G2.bx;obtain⟨o2,P,aR⟩:=G2.ga;simp only[aU5,nlP W,u0,u1,W,q2,pz,aj,P.ln,↓uL];refine aRF G2 (by omega) he λa3 n3 s3 u h1 h2 R3=>?_;have q3:=R3.f.keep _ _ (by grind [Gn.out]) q2;obtain⟨s',aW,l⟩:=u.bx;obtain⟨o3,R,X⟩:=u.ga;simp only[qz 4,nlP l,u0,u1,l,aRV,bfx,aRa,aj,R.ln,bdI,↓uL];refine aPw u (by omega) λa4 s4 n4 G4 h3 h4 E=>?_;have q4:=E.f.keep _ _ (by grind [Gn.out]) q3;simp only[qz 6,u0,u1,q4,pz,aj,↓uL];refine aV7 ih G4 (by omega) g1 (by omega) λH n5 s5 D h5 h6 R5=>?_;have q5:=R5.f.keep _ _ (by grind [Gn.out]) q4;obtain⟨aZ,aD,o⟩:=D.bx;simp only[qz 8,nlP o,u0,u1,o,aj,↓uL];refine D.set λs6 h F6=>?_;have q6:=F6.kq q5;have F:R4 (45,O) Y a s6 H:=(by grind [R4.trans,R4.ofb]);obtain⟨a8,aX,q⟩:=h.bx;obtain⟨o6,S,Z⟩:=h.ga;have z:L (o3.map aNZ.c)=n3:=(by simp[X]);simp only[qz 10,qy 16,nlP q,u0,u1,q,q6,pz,aj,S.ln,bdI,z,↓uL];refine⟨λ_=>?_,λ_=>⟨λ_=>?_,λ_=>?_⟩⟩;refine aPw h (by omega) λM s7 n7 g h7 h8 y=>?_;obtain⟨al,ae,e⟩:=g.bx;obtain⟨o7,k,aa⟩:=g.ga;simp only[qz 12,qy 14,nlP e,u0,u1,e,aRV,bfx,aRa,aj,k.ln,↓uL];refine g.patch (by omega) (.inr rfl) λs8 i j=>?_;exact⟨M,n7,rfl,i.mono (by omega),by omega,by omega,(F.trans y).trans j⟩;refine h.patch (by omega) (.inr rfl) λs8 i j=>?_;exact⟨H,n5,rfl,i.mono (by omega),by omega,by omega,F.trans j⟩;refine aPw h (by omega) λM s7 n7 g h7 h8 y=>?_;have q7:=y.f.keep _ _ (by grind [Gn.out]) q6;obtain⟨al,ae,e⟩:=g.bx;obtain⟨o7,k,aa⟩:=g.ga;simp only[qz 18,nlP e,u0,u1,e,aRV,bfx,aRa,aj,k.ln,↓uL];refine g.patch (by omega) (.inr rfl) λs8 i j=>?_;have q8:=j.f.keep _ _ (by grind [Gn.out]) q7;simp only[qz 20,u0,u1,q8,pz,aj,↓uL];refine aV7 ih i (by omega) g2 (by omega) λa9 n9 s9 v h9 aO R9=>?_;obtain⟨ba,aY,t⟩:=v.bx;obtain⟨o9,T,aT⟩:=v.ga;have A:L (o6.map aNZ.c)=n5:=(by simp[Z]);simp only[qz 22,qy 24,nlP t,u0,u1,t,aRV,bfx,aRa,aj,T.ln,A,↓uL];refine v.patch (by omega) (.inl rfl) λa6 C aN=>?_;exact⟨a9,n9,rfl,C.mono (by omega),by omega,by omega,by grind [R4.trans]⟩
theorem bde(G:Gn κ Y b w loc a n)(h:ByteArray):∃r Y1,((∃v,r= .s v/\∃u:Int,AV.s v=iv u)/\Fx Y Y1 [])/\cZ aS GG 276 [.p b 0 0,st h] Y r Y1:=by refine bg3 G.le ?_;obtain⟨s,nx,e⟩:=G.bx;have i:=G.wb.2.2.1;simp only[aU6];refine bhZ (L w.bC) (λk=>True) trivial λk l j=>?_;have g:∀u:Int,aNN (λr Y1=>(∃v,r= .s v/\∃u:Int,AV.s v=iv u)/\Fx Y Y1 []) Y [iv u]:=λu=>⟨⟨_,rfl,u,rfl⟩,Fx.refl _ _⟩;simp+contextual only[qz 19,aI,au,nlP e,u0,u1,e,aRV,bfx,aRa,rk,aj,aBz (f:=aOw.c) (z:=2)<|λ_=>rfl,bh,g,↓uL];grind [dJ,gS]
theorem baW(G:Gn κ Y b w loc a n){c:ByteArray}(e:∀u:Int,K (iv u) Y):cB 276 [.p b 0 0,st c] Y d K:=aV6 rfl (bde G c) (by simp_all)
theorem bdx{m:Nat}(X:aRo b w loc m)(G:Gn κ Y b w loc a n){x:NA}(H:shS (m+1) x)(W:n+bG (m+1)<60000)(aK:κ<=1000000):∃r Y1,GR κ (bG<|m+1) Y b w loc a n r Y1/\cZ aS GG 243 [.p b 0 0, .a x.c] Y r Y1:=by
 have B:=H.at
 have ho:=H.ops
 have aG:bG (m+1)=10+8*bG m:=rfl
 obtain⟨b1,i⟩:=b
 obtain rfl:b1=45:=G.sb
 refine bg5 G.le bit λs2 v3 K2 aL nf2 q2=>?_
 have F2:Fx Y s2 []:=K2.fx []
 have G2:=G.fx0 F2
 obtain⟨s,nx,hb⟩:=G2.bx
 simp only[aU8,nlP hb,u0,u1,hb,aRV,bfx,aRa,aj,↓uL]
 refine G2.set λs3 M F3=>?_
 have q3:=F3.kq q2
 obtain⟨s',am,aJ,P⟩:=M.bx0
 simp only[qz 4,nlP P,u0,u1,P,aRV,bfx,aRa,aj,eM (x:=am+1) (by omega) (by omega),↓uL]
 refine(M.mono (κ':=κ+1)<|by omega).nxt (by omega) (by omega) λE g F4=>?_
 have q4:=F4.kq q3
 have j:R4 (45,i) Y a E a:=((R4.of0 F2).trans<|R4.ofb F3).trans<|R4.ofb F4
 obtain⟨aN,az,C⟩:=g.bx
 have A:=g.wb
 have hL:=g.lb
 have O:∀{T:ae} {a3:AV} {Z:Nat} {x:aNZ} {d:Nat},Gn (κ+1) T (45,i) w loc a3 Z->n<=Z->Z<=n+3->R4 (45,i) Y a T a3->cB 191 [.p (45,i) 0 0, .a x.c] T d λS v=>aNN (GR κ (bG<|m+1) Y (45,i) w loc a n) v []:=λM l o R3=>
  aPw M (by omega) λk Y1 q G' g1 g2 R'=>⟨k,q,rfl,G'.mono (by omega),by omega,by omega,R3.trans R'⟩
 have t:∀{o1 o2 y:Int} {d:Nat},cB 275 [.p (45,i) 0 0, .a x.c,iv o1,iv o2,iv y] E d λS v=>aNN (GR κ (bG<|m+1) Y (45,i) w loc a n) v []:=λ{o1 o2 y d}=>
  aPv rfl (bc9 X g H W (by omega) o1 o2 y) λk q Y1 l o D z=>⟨k,q,rfl,l.mono (by omega),o,D,j.trans z⟩
 have F:∀{nm:ByteArray} {d:Nat} {K:be},(∀u:Int,K (iv u) E)->cB 276 [.p (45,i) 0 0,st nm] E d K:=λhK=>baW g hK
 have e:∀{x:aNZ} {d:Nat},cB 191 [.p (45,i) 0 0, .a x.c] E d λS v=>aNN (GR κ (bG<|m+1) Y (45,i) w loc a n) v []:=λ{x d}=>O g (by omega) (by omega) j
 have aF:dG E (.a w.c)= .a w.c:=rfl
 simp only[qz 6,qy 8,nlP C,u0,u1,C,q4,pz,aj,↓uL]
 have hc:x.op=1\/x.op=2\/x.op=3\/x.op=4\/x.op=5\/x.op=6\/x.op=7\/x.op=8\/x.op=9\/x.op=10\/x.op=11\/x.op=12\/x.op=13\/x.op=14\/x.op=15:=by omega
 rcases hc with h|h|h|h|h|h|h|h|h|h|h|h|h|h|h
 all_goals
  simp only[h,aI,au,qz 41,qz 39,qy 10,qy 12,qy 14,qy 16,qy 18,qy 20,qy 34,qy 36,qy 42,nlP C,u0,u1,C,q4,pz,aj,bpF,bqF,Int.reduceEq,↓iC,↓iB,jM,kU,jt,tW,alg,aD6,rr,bdI,vp,aQ6,sr,eE,aO5,aNU,↓uL]
 ·exact aPv rfl (bda g (by omega) (B.1<|.inl h) B.2.2.1 B.2.2.2.1 B.2.1) λk q Y1 l o D z=>⟨k,q,rfl,l.mono (by omega),o,by omega,j.trans z⟩
 ·exact aPv rfl (a6I X g H (B.1<|by omega) W<|by omega) λk q Y1 l o D z=>⟨k,q,rfl,l.mono (by omega),o,D,j.trans z⟩
 ·exact aPv rfl (a6I X g H (B.1<|by omega) W<|by omega) λk q Y1 l o D z=>⟨k,q,rfl,l.mono (by omega),o,D,j.trans z⟩
 ·exact⟨by have:=A.2.1;omega,λ_=>t⟩
 ·exact⟨by have:=A.2.1;omega,λ_=>t⟩
 ·exact⟨by have:=A.2.1;omega,λ_=>t⟩
 ·exact t
 ·exact t
 ·exact F λu=>by simp only[qz 22,qy 24,bdI,aY];exact e
 ·exact F λu=>by simp only[qz 26,qy 28,bdI,aY];exact e
 ·exact F λu=>by simp only[qz 30,qy 32,bdI,aY];exact e
 ·exact⟨by have:=A.2.2.2.2.1;omega,e⟩
 ·exact⟨by have:=A.2.2.2.2.1;omega,e⟩
 ·refine aRF g (by omega) (B.1<|by omega) λa5 n5 s5 G5 l o R5=>?_
  have q5:=R5.f.keep _ _ (by grind [Gn.out]) q4
  obtain⟨aO,aM,R⟩:=G5.bx
  have aw:dG s5 (.a w.c)= .a w.c:=rfl
  simp only[qz 38,qy 40,nlP R,u0,u1,R,q5,pz,aj,jM,kU,jt,tW,alg,aD6,AL,bdI,vp,↓uL]
  exact⟨by have:=A.2.2.2.1;omega,O (G5.mono<|by omega) (by omega) (by omega)<|j.trans R5⟩
 ·exact⟨by omega,by have:=A.2.2.2.1;omega,e⟩
theorem bdz(m:Nat):m<=4->aRo b w loc m:=by induction m with|zero=>intro _ κ Y a n l G o e u;have j:l=[]:=(by cases l with|nil=>rfl|cons x l=>exact(e.2 x<|by simp).elim);subst j;refine a7T G.le ?_;simp only[aSu];refine yV 0 (λ_ _ Y'=>Y'=Y) rfl ?_;rintro k _ Y1 g rfl;obtain rfl:k=0:=(by omega);simp only[qz 7,aI,au,u0,u1,aO1,↓uL];exact⟨λh=>by simp at h,λ_=>⟨a,n,rfl,G,by omega,by omega,R4.refl⟩⟩|succ m v=>intro F κ Y a n l G o e u;have E:=G.le;have z:bG (m+1)<=46810:=(by have:m=0\/m=1\/m=2\/m=3:=(by omega);rcases this with rfl|rfl|rfl|rfl<;>decide);refine a7T G.le ?_;simp only[aSu];refine jD (α:=AV×Nat) (λ_ i=>[iv i]) 0 (L l) (λi x Y'=>Gn κ Y' b w loc x.1 x.2/\n<=x.2/\x.2<=n+i*bG (m+1)/\R4 b Y a Y' x.1) (s0:=(a,n)) (by grind [R4.refl]) ?_;rintro k ⟨a1,p⟩ Y1 g ⟨f,r,D,q⟩;have A:k*bG (m+1)<=L l*bG (m+1):=qo _ g;simp only[qz 7,aI,au,u0,u1,ixv,bh,rr,pz,↓uL];refine⟨λh=>⟨u7 h,?_⟩,λ_=>⟨a1,p,rfl,f,r,by omega,q⟩⟩;have c:=aL h;have hs:(k+1)*bG (m+1)=k*bG (m+1)+bG (m+1):=tN _ _;have t:(k+1)*bG (m+1)<=L l*bG (m+1):=qo _ c;refine aPv rfl (bdx (v<|by omega) f (e.2 _<|ve c) (by omega)<|by omega) λa2 y Y2 G2 g1 C B=>?_;simp only[qz 2,au,u0,u1,↓uL];exact dR (mk:=λ(_:AV×Nat) i=>[iv i]) (s:=(a1,p)) (s':=(a2,y)) (λ_ _=>rfl) c (by have:=e.1;omega) (by grind [R4.trans])
theorem ba2(G:Gn κ Y b w loc a 0){l:List NA}(f:shL 4 8 l)(g:κ<=1000000)(k:∀e h Y1,Gn κ Y1 b w loc e h->h<=50000->R4 b Y a Y1 e->K (.t []) Y1):cB 190 [.p b 0 0,sl NA.c l] Y d K:=by have j:L l*bG 4<=8*bG 4:=qo _ f.1;have i:bG 4=5850:=rfl;exact aPv rfl (bdz 4 (by omega) G g f<|by omega) (by grind)
end
def aQN{fn:FuncId}{xs:List AV}{Y:ae}{d:Nat}{K R:be}{ks:List Nat}(k:uQ.elem fn=I)(i:fps.lookup fn=V ks)(l:List Id)(a:∀x∈xs,okX ks l x)(b:okB ks l<|bim ks l Y)(h:∃r Y1,R r Y1/\cZ aS GG fn xs (bim ks l Y) r Y1)(g:∀r Y1,R r Y1->L Y1=L Y/\∃l':List Id,okB ks l' Y1/\okX ks l' r/\K r (avs ks l' Y Y1)):cV fn xs Y d K:=by obtain⟨r,Y1,c,f⟩:=h;obtain⟨j,l',m,n,o⟩:=g r Y1 c;have e:aPf GGV fn=V ks:=(by have p:GGV.fp fn=V ks:=i;have q:GGV.rd fn=I:=k;grind [aPf]);unfold cV tR;rw[e];exact⟨l,l',r,Y1,f,j,a,b,m,n,o⟩
section
variable{ks:List Nat}{l:List Id}{Y Y1:ae}
def aQw{e:TypeId}{z:Nat}{a:AV}{bA:List (List AV)}(g:lA Y1 e z a bA)(h:∀q∈aA a,okI ks l q):okC ks l a:=by rcases g with⟨_,rfl⟩|⟨q,m,rfl,_⟩;exact .inr rfl;exact h q (by simp[aA])
theorem a6y{e:TypeId}{z:Nat}{a:AV}{bA:List (List AV)}(g:lA Y e z a bA)(h:∀q∈aA a,okI ks l q):lA (bim ks l Y) e z a bA:=by rcases g with g|⟨q,r,rfl,g⟩;exact .inl g;have b:=h q (by simp[aA]);exact .inr ⟨q,r,rfl,by rw[aOV b.1,lD b.2];exact g⟩
theorem aRR(c:L Y1=L Y){e:TypeId}{z:Nat}{a:AV}{bA:List (List AV)}(g:lA Y1 e z a bA)(h:∀q∈aA a,okI ks l q):lA (avs ks l Y Y1) e z a bA:=by rcases g with g|⟨q,r,rfl,g⟩;exact .inl g;have b:=h q (by simp[aA]);exact .inr ⟨q,r,rfl,by rw[aPT c b.1,lD b.2];exact g⟩
theorem aNO{e:TypeId}{z:Nat}{a:AV}{bA:List (List AV)}(g:lA Y e z a bA):∀p∈aA a,∀x,box Y p=V x->x.var=U->False:=by rcases g with⟨_,rfl⟩|⟨b,r,rfl,g⟩;simp[aA];grind [aA,cE]
end
structure Kx(ks:List Nat)(Y Y':ae):Prop where
 len:L Y'=L Y
 keep:∀b x,b.1∉ks->box Y b=V x->box Y' b=V x
theorem Kx.mix{ks:List Nat}{l:List Id}{Y Y1:ae}:Kx ks Y (avs ks l Y Y1):=⟨aPl,by grind [aPt]⟩
def Kx.kq{ks:List Nat}{Y Y':ae}(k:Kx ks Y Y'){b:Id}{x:bY}(c:box Y b=V x)(a:b.1∉ks:=by simp):box Y' b=V x:=k.keep b x a c
end Go.Ab
