/- Part of the proof of EncodeAny, made short by a program: Types. -/
import Derived.Test.YtokoambdbclaaaaGreatDoorE
set_option linter.all false
open And renaming intro->ai
open Bool renaming false->I,true->U
open Decidable renaming decide->Q
open Go.Value renaming bool.injEq->mV,int.injEq->mW,string.injEq->mX
open List renaming cons.injEq->kO,getD_eq_getElem?_getD->eI,getElem?_set_ne->oq,getElem_mem->qj,length->L
open Option renaming none->J,some->V
namespace Go.Ab
open Go Go.RowKit
structure cA where
 name:ByteArray
 index:Int
 size:Int
 vol:Bool
 init:Int
 deriving Inhabited,DecidableEq
structure dS where
 name:ByteArray
 rw:Bool
 deriving Inhabited,DecidableEq
structure el where
 name:ByteArray
 eg:Int
 deriving Inhabited,DecidableEq
structure dL where
 aq:Int
 stmt:Int
 line:Int
 deriving Inhabited,DecidableEq
structure br where
 cells:List cA
 ak:List dS
 bC:List el
 bU:List ByteArray
 ay:List ByteArray
 dU:List dL
 deriving Inhabited,DecidableEq
structure cg where
 dv:Int
 bk:List Int
 deriving Inhabited,DecidableEq
structure bF where
 cQ:Int
 cond:Int
 atomic:Bool
 deriving Inhabited,DecidableEq
structure aW where
 ak:List cg
 tx:Int
 done:List Bool
 ay:List bF
 deriving Inhabited,DecidableEq
structure bW where
 sync:aW
 cells:List Int
 bU:List Int
 count:List Int
 deriving Inhabited,DecidableEq
structure aP where
 aq:Int
 kind:Int
 obj:Int
 value:Int
 site:Int
 dI:List Int
 ep:List Int
 deriving Inhabited,DecidableEq
structure am where
 aQ:br
 start:Int
 init:bW
 ac:List aP
 deriving Inhabited,DecidableEq
structure cJ where
 kind:Int
 ea:Int
 eb:Int
 ec:Int
 ed:Int
 cW:List Int
 deriving Inhabited,DecidableEq
structure ap where
 kind:Int
 a:Int
 b:Int
 deriving Inhabited,DecidableEq
structure dr where
 x:Int
 y:Int
 k:Int
 deriving Inhabited,DecidableEq
structure ff where
 ints:Int
 bools:Int
 lL:List dr
 ug:List (List Int)
 deriving Inhabited,DecidableEq
def cA.c(x:cA):List AV:=[st x.name,iv x.index,iv x.size,bv x.vol,iv x.init]
def dS.c(x:dS):List AV:=[st x.name,bv x.rw]
def el.c(x:el):List AV:=[st x.name,iv x.eg]
def dL.c(x:dL):List AV:=[iv x.aq,iv x.stmt,iv x.line]
def br.c(x:br):List AV:=[sl cA.c x.cells,sl dS.c x.ak,sl el.c x.bC,sl cs x.bU,sl cs x.ay,sl dL.c x.dU]
def cg.c(x:cg):List AV:=[iv x.dv,sl ci x.bk]
def bF.c(x:bF):List AV:=[iv x.cQ,iv x.cond,bv x.atomic]
def aW.c(x:aW):List AV:=[sl cg.c x.ak,iv x.tx,sl cb x.done,sl bF.c x.ay]
def bW.c(x:bW):List AV:=[sl cg.c x.sync.ak,iv x.sync.tx,sl cb x.sync.done,sl bF.c x.sync.ay,sl ci x.cells,sl ci x.bU,sl ci x.count]
def aP.c(x:aP):List AV:=[iv x.aq,iv x.kind,iv x.obj,iv x.value,iv x.site,sl ci x.dI,sl ci x.ep]
def am.c(x:am):List AV:=[sl cA.c x.aQ.cells,sl dS.c x.aQ.ak,sl el.c x.aQ.bC,sl cs x.aQ.bU,sl cs x.aQ.ay,sl dL.c x.aQ.dU,iv x.start,sl cg.c x.init.sync.ak,iv x.init.sync.tx,sl cb x.init.sync.done,sl bF.c x.init.sync.ay,sl ci x.init.cells,sl ci x.init.bU,sl ci x.init.count,sl aP.c x.ac]
def cJ.c(x:cJ):List AV:=[iv x.kind,iv x.ea,iv x.eb,iv x.ec,iv x.ed,sl ci x.cW]
def ap.c(x:ap):List AV:=[iv x.kind,iv x.a,iv x.b]
def dr.c(x:dr):List AV:=[iv x.x,iv x.y,iv x.k]
def cl(x:List Int):List AV:=[sl ci x]
def ff.c(x:ff):List AV:=[iv x.ints,iv x.bools,sl dr.c x.lL,sl cl x.ug]
section
variable{K:bd}{Y:ae}{i:Int}
theorem amX{l:List Int}:rV (cz 1 Y (sl ci l) (iv i)) K=(aF (L l) i/\K (.q (ci (gd l i.toNat)))):=ka λ_=>rfl
theorem aCc{l:List Bool}:rV (cz 1 Y (sl cb l) (iv i)) K=(aF (L l) i/\K (.q (cb (gd l i.toNat)))):=ka λ_=>rfl
theorem amY{l:List ByteArray}:rV (cz 1 Y (sl cs l) (iv i)) K=(aF (L l) i/\K (.q (cs (gd l i.toNat)))):=ka λ_=>rfl
theorem aCe{l:List (List Int)}:rV (cz 1 Y (sl cl l) (iv i)) K=(aF (L l) i/\K (.q (cl (gd l i.toNat)))):=ka λ_=>rfl
theorem aCd{l:List cA}:rV (cz 5 Y (sl cA.c l) (iv i)) K=(aF (L l) i/\K (.q (cA.c (gd l i.toNat)))):=ka λ_=>rfl
theorem aCk{l:List dS}:rV (cz 2 Y (sl dS.c l) (iv i)) K=(aF (L l) i/\K (.q (dS.c (gd l i.toNat)))):=ka λ_=>rfl
theorem aCf{l:List el}:rV (cz 2 Y (sl el.c l) (iv i)) K=(aF (L l) i/\K (.q (el.c (gd l i.toNat)))):=ka λ_=>rfl
theorem aCl{l:List dL}:rV (cz 3 Y (sl dL.c l) (iv i)) K=(aF (L l) i/\K (.q (dL.c (gd l i.toNat)))):=ka λ_=>rfl
theorem am0{l:List cg}:rV (cz 2 Y (sl cg.c l) (iv i)) K=(aF (L l) i/\K (.q (cg.c (gd l i.toNat)))):=ka λ_=>rfl
theorem am2{l:List bF}:rV (cz 3 Y (sl bF.c l) (iv i)) K=(aF (L l) i/\K (.q (bF.c (gd l i.toNat)))):=ka λ_=>rfl
theorem aCh{l:List aP}:rV (cz 7 Y (sl aP.c l) (iv i)) K=(aF (L l) i/\K (.q (aP.c (gd l i.toNat)))):=ka λ_=>rfl
theorem aCi{l:List cJ}:rV (cz 6 Y (sl cJ.c l) (iv i)) K=(aF (L l) i/\K (.q (cJ.c (gd l i.toNat)))):=ka λ_=>rfl
theorem aCm{l:List ap}:rV (cz 3 Y (sl ap.c l) (iv i)) K=(aF (L l) i/\K (.q (ap.c (gd l i.toNat)))):=ka λ_=>rfl
theorem aCg{l:List dr}:rV (cz 3 Y (sl dr.c l) (iv i)) K=(aF (L l) i/\K (.q (dr.c (gd l i.toNat)))):=ka λ_=>rfl
end
theorem awN{x:cA}:cA.c x=[st x.name,iv x.index,iv x.size,bv x.vol,iv x.init]:=rfl
theorem awW{x:dS}:dS.c x=[st x.name,bv x.rw]:=rfl
theorem awQ{x:el}:el.c x=[st x.name,iv x.eg]:=rfl
theorem aw0{x:dL}:dL.c x=[iv x.aq,iv x.stmt,iv x.line]:=rfl
theorem axa{x:br}:br.c x=[sl cA.c x.cells,sl dS.c x.ak,sl el.c x.bC,sl cs x.bU,sl cs x.ay,sl dL.c x.dU]:=rfl
theorem awY{x:cg}:cg.c x=[iv x.dv,sl ci x.bk]:=rfl
theorem aw7{x:bF}:bF.c x=[iv x.cQ,iv x.cond,bv x.atomic]:=rfl
theorem aw5{x:aW}:aW.c x=[sl cg.c x.ak,iv x.tx,sl cb x.done,sl bF.c x.ay]:=rfl
theorem aw3{x:bW}:bW.c x=[sl cg.c x.sync.ak,iv x.sync.tx,sl cb x.sync.done,sl bF.c x.sync.ay,sl ci x.cells,sl ci x.bU,sl ci x.count]:=rfl
theorem awT{x:aP}:aP.c x=[iv x.aq,iv x.kind,iv x.obj,iv x.value,iv x.site,sl ci x.dI,sl ci x.ep]:=rfl
theorem aw9{x:am}:am.c x=[sl cA.c x.aQ.cells,sl dS.c x.aQ.ak,sl el.c x.aQ.bC,sl cs x.aQ.bU,sl cs x.aQ.ay,sl dL.c x.aQ.dU,iv x.start,sl cg.c x.init.sync.ak,iv x.init.sync.tx,sl cb x.init.sync.done,sl bF.c x.init.sync.ay,sl ci x.init.cells,sl ci x.init.bU,sl ci x.init.count,sl aP.c x.ac]:=rfl
theorem awV{x:cJ}:cJ.c x=[iv x.kind,iv x.ea,iv x.eb,iv x.ec,iv x.ed,sl ci x.cW]:=rfl
theorem aw8{x:ap}:ap.c x=[iv x.kind,iv x.a,iv x.b]:=rfl
theorem awS{x:dr}:dr.c x=[iv x.x,iv x.y,iv x.k]:=rfl
theorem awU{x:ff}:ff.c x=[iv x.ints,iv x.bools,sl dr.c x.lL,sl cl x.ug]:=rfl
theorem awO{x:List Int}:cl x=[sl ci x]:=rfl
def cc:=ai @awN<|ai @awW<|ai @awQ<|ai @aw0<|ai @axa<|ai @awY<|ai @aw7<|ai @aw5<|ai @aw3<|ai @awT<|ai @aw9<|ai @awV<|ai @aw8<|ai @awS<|ai @awU<|@awO
def ix:=ai @amX<|ai @aCc<|ai @amY<|ai @aCe<|ai @aCd<|ai @aCk<|ai @aCf<|ai @aCl<|ai @am0<|ai @am2<|ai @aCh<|ai @aCi<|ai @aCm<|@aCg
section
variable{K:bd}{KE:be}{Y:ae}{d k v:Nat}{x:bY}{e:TypeId}{z:Nat}{cs zs:List AV}
theorem D3:L (put Y d x)=L Y:=by simp[put]
theorem uC{b:Id}:L (wr Y b x)=L Y:=by simp[wr]
theorem yk(h:k≠d):aZ (put Y d x) k=aZ Y k:=by unfold aZ put;rw[eI,oq (λe=>h e.symm),<-eI]
theorem wy{b:Id}(h:k≠b.1):aZ (wr Y b x) k=aZ Y k:=by unfold aZ wr;rw[eI,oq (λe=>h e.symm),<-eI]
theorem zQ(h:d<L Y)(a:(aZ Y d).ver+1=v):box (put Y d x) (d,v)=V x:=by rw[<-a];exact iy h
theorem aC5{b:Id}{i j:Nat}{q:Option Nat}:ef q Y (.p b i j)=((box Y b).bind λx=>(x.rows[i]?).map (·.drop j)).bind (aN q):=rfl
theorem rR{b:Id}{i j n:Nat}:iQ n Y (.p b i j)=(box Y b).map λ_=> .p b i (j+n):=rfl
end
theorem aD0{x:bY}{f:bY->AV}:(V x).map f=V (f x):=rfl
theorem aww{x:bY}{f:bY->Option (List AV)}:(V x).bind f=f x:=rfl
theorem awx{l:List AV}{f:List AV->Option AV}:(V l).bind f=f l:=rfl
theorem aD1{l:List AV}{f:List AV->List AV}:(V l).map f=V (f l):=rfl
theorem aBE{a:AV}{l:List AV}:(a::l)[0]?=V a:=rfl
theorem aBF{r:List AV}{l:List (List AV)}:(r::l)[0]?=V r:=rfl
theorem axE{l:List AV}:l.drop 0=l:=rfl
theorem dJ{n k:Nat}(h:k<n):aF n (k:Int):=⟨by omega,by omega⟩
theorem aL{k n:Nat}(h:Q ((k:Int)<(n:Int))=U):k<n:=by simpa using h
theorem bw{k n:Nat}(h:Q ((k:Int)<(n:Int))=I):n<=k:=by simpa using h
theorem bT{α:Type}[Inhabited α]{l:List α}{k:Nat}(h:k<L l):gd l k=l[k]:=by simp[gd,h]
theorem px{α:Type}[Inhabited α]{l:List α}{p:α->Prop}:(∀j,j<L l->p (gd l j))↔∀x∈l,p x:=by constructor;intro h x b;obtain⟨j,a,rfl⟩:=List.getElem_of_mem b;rw[<-bT a];exact h j a;intro h j a;rw[bT a];exact h _ (qj a)
theorem jf{p:Nat->Prop}{k:Nat}(h:∀j,j<k->p j)(c:p k):∀j,j<k+1->p j:=λj b=>by
 rcases Nat.lt_succ_iff_lt_or_eq.1 b with a|rfl
 ·exact h j a
 ·exact c
theorem dB{α:Type}[Inhabited α]{l:List α}{k:Nat}(h:k<L l):gd l k∈l:=by rw[bT h];exact qj h
def u1:=ai @av4<|ai @av2<|ai @av1<|ai @avY<|ai @iM<|ai @av6<|ai @cS<|ai @alr<|ai @av5<|ai @avU<|ai @avV<|ai @alq<|ai @aIN<|ai @cT<|ai @azQ<|ai @aC5<|ai @rR<|ai @uR<|ai @aFi<|ai @au<|ai @fE<|ai @f8<|ai @di<|ai @aI<|ai @aD0<|ai @aww<|ai @awx<|ai @aD1<|ai @aBF<|@axE
theorem br.ext_iff'{x y:br}:(x=y)=(x.cells=y.cells/\x.ak=y.ak/\x.bC=y.bC/\x.bU=y.bU/\x.ay=y.ay/\x.dU=y.dU):=by cases x;cases y;simp
theorem aW.ext_iff'{x y:aW}:(x=y)=(x.ak=y.ak/\x.tx=y.tx/\x.done=y.done/\x.ay=y.ay):=by cases x;cases y;simp
theorem bW.ext_iff'{x y:bW}:(x=y)=(x.sync.ak=y.sync.ak/\x.sync.tx=y.sync.tx/\x.sync.done=y.sync.done/\x.sync.ay=y.sync.ay/\x.cells=y.cells/\x.bU=y.bU/\x.count=y.count):=by obtain⟨⟨a,b,c,d⟩,e,f,g⟩:=x;obtain⟨⟨h,j,l,m⟩,n,o,p⟩:=y;simp[and_assoc]
theorem kL{α:Type}{f:α->List AV}(b:∀x y,f x=f y->x=y){l a:List α}:(sl f l=sl f a)=(l=a):=by apply propext;constructor;intro h;simp only[sl,AV.l.injEq,and_true] at h;(induction l generalizing a with|nil=>(cases a with|nil=>rfl|cons y a=>simp at h)|cons x l c=>cases a with|nil=>simp at h|cons y a=>simp only[List.map_cons,kO] at h;rw[b _ _ h.1,c h.2]);intro h;rw[h]
theorem lW{l a:List Int}:(sl ci l=sl ci a)=(l=a):=kL (by intro x y h;simpa using h)
theorem mD{l a:List Bool}:(sl cb l=sl cb a)=(l=a):=kL (by intro x y h;simpa using h)
theorem mF{l a:List ByteArray}:(sl cs l=sl cs a)=(l=a):=kL (by intro x y h;simpa using h)
theorem mE{l a:List (List Int)}:(sl cl l=sl cl a)=(l=a):=kL (by intro x y h;simpa[cl,lW] using h)
theorem amH{x y:cA}:(cA.c x=cA.c y)=(x=y):=by apply propext;constructor;intro h;(cases x;cases y);simp only[cA.c,kO,AV.s.injEq,mW,mV,mX,true_and,and_true,lW,mD,mF,mE] at h;simp only[cA.mk.injEq,br.ext_iff',aW.ext_iff',bW.ext_iff',and_assoc];exact h;intro h;rw[h]
theorem nz{l a:List cA}:(sl cA.c l=sl cA.c a)=(l=a):=kL (by intro x y h;rwa [amH] at h)
theorem amN{x y:dS}:(dS.c x=dS.c y)=(x=y):=by apply propext;constructor;intro h;(cases x;cases y);simp only[dS.c,kO,AV.s.injEq,mW,mV,mX,true_and,and_true,lW,mD,mF,mE,nz] at h;simp only[dS.mk.injEq,br.ext_iff',aW.ext_iff',bW.ext_iff',and_assoc];exact h;intro h;rw[h]
theorem nY{l a:List dS}:(sl dS.c l=sl dS.c a)=(l=a):=kL (by intro x y h;rwa [amN] at h)
theorem amI{x y:el}:(el.c x=el.c y)=(x=y):=by apply propext;constructor;intro h;(cases x;cases y);simp only[el.c,kO,AV.s.injEq,mW,mV,mX,true_and,and_true,lW,mD,mF,mE,nz,nY] at h;simp only[el.mk.injEq,br.ext_iff',aW.ext_iff',bW.ext_iff',and_assoc];exact h;intro h;rw[h]
theorem oN{l a:List el}:(sl el.c l=sl el.c a)=(l=a):=kL (by intro x y h;rwa [amI] at h)
theorem amP{x y:dL}:(dL.c x=dL.c y)=(x=y):=by apply propext;constructor;intro h;(cases x;cases y);simp only[dL.c,kO,AV.s.injEq,mW,mV,mX,true_and,and_true,lW,mD,mF,mE,nz,nY,oN] at h;simp only[dL.mk.injEq,br.ext_iff',aW.ext_iff',bW.ext_iff',and_assoc];exact h;intro h;rw[h]
theorem pL{l a:List dL}:(sl dL.c l=sl dL.c a)=(l=a):=kL (by intro x y h;rwa [amP] at h)
theorem amU{x y:br}:(br.c x=br.c y)=(x=y):=by apply propext;constructor;intro h;(cases x;cases y);simp only[br.c,kO,AV.s.injEq,mW,mV,mX,true_and,and_true,lW,mD,mF,mE,nz,nY,oN,pL] at h;simp only[br.mk.injEq,br.ext_iff',aW.ext_iff',bW.ext_iff',and_assoc];exact h;intro h;rw[h]
theorem qJ{l a:List br}:(sl br.c l=sl br.c a)=(l=a):=kL (by intro x y h;rwa [amU] at h)
theorem amO{x y:cg}:(cg.c x=cg.c y)=(x=y):=by apply propext;constructor;intro h;(cases x;cases y);simp only[cg.c,kO,AV.s.injEq,mW,mV,mX,true_and,and_true,lW,mD,mF,mE,nz,nY,oN,pL,qJ] at h;simp only[cg.mk.injEq,br.ext_iff',aW.ext_iff',bW.ext_iff',and_assoc];exact h;intro h;rw[h]
theorem rY{l a:List cg}:(sl cg.c l=sl cg.c a)=(l=a):=kL (by intro x y h;rwa [amO] at h)
theorem amS{x y:bF}:(bF.c x=bF.c y)=(x=y):=by apply propext;constructor;intro h;(cases x;cases y);simp only[bF.c,kO,AV.s.injEq,mW,mV,mX,true_and,and_true,lW,mD,mF,mE,nz,nY,oN,pL,qJ,rY] at h;simp only[bF.mk.injEq,br.ext_iff',aW.ext_iff',bW.ext_iff',and_assoc];exact h;intro h;rw[h]
theorem td{l a:List bF}:(sl bF.c l=sl bF.c a)=(l=a):=kL (by intro x y h;rwa [amS] at h)
theorem amR{x y:aW}:(aW.c x=aW.c y)=(x=y):=by apply propext;constructor;intro h;(cases x;cases y);simp only[aW.c,kO,AV.s.injEq,mW,mV,mX,true_and,and_true,lW,mD,mF,mE,nz,nY,oN,pL,qJ,rY,td] at h;simp only[aW.mk.injEq,br.ext_iff',aW.ext_iff',bW.ext_iff',and_assoc];exact h;intro h;rw[h]
theorem uz{l a:List aW}:(sl aW.c l=sl aW.c a)=(l=a):=kL (by intro x y h;rwa [amR] at h)
theorem amQ{x y:bW}:(bW.c x=bW.c y)=(x=y):=by apply propext;constructor;intro h;(cases x;cases y);simp only[bW.c,kO,AV.s.injEq,mW,mV,mX,true_and,and_true,lW,mD,mF,mE,nz,nY,oN,pL,qJ,rY,td,uz] at h;simp only[bW.mk.injEq,br.ext_iff',aW.ext_iff',bW.ext_iff',and_assoc];exact h;intro h;rw[h]
theorem wq{l a:List bW}:(sl bW.c l=sl bW.c a)=(l=a):=kL (by intro x y h;rwa [amQ] at h)
theorem amK{x y:aP}:(aP.c x=aP.c y)=(x=y):=by apply propext;constructor;intro h;(cases x;cases y);simp only[aP.c,kO,AV.s.injEq,mW,mV,mX,true_and,and_true,lW,mD,mF,mE,nz,nY,oN,pL,qJ,rY,td,uz,wq] at h;simp only[aP.mk.injEq,br.ext_iff',aW.ext_iff',bW.ext_iff',and_assoc];exact h;intro h;rw[h]
theorem yb{l a:List aP}:(sl aP.c l=sl aP.c a)=(l=a):=kL (by intro x y h;rwa [amK] at h)
theorem NA{x y:am}:(am.c x=am.c y)=(x=y):=by apply propext;constructor;intro h;(cases x;cases y);simp only[am.c,kO,AV.s.injEq,mW,mV,mX,true_and,and_true,lW,mD,mF,mE,nz,nY,oN,pL,qJ,rY,td,uz,wq,yb] at h;simp only[am.mk.injEq,br.ext_iff',aW.ext_iff',bW.ext_iff',and_assoc];exact h;intro h;rw[h]
theorem AE{l a:List am}:(sl am.c l=sl am.c a)=(l=a):=kL (by intro x y h;rwa [NA] at h)
theorem amM{x y:cJ}:(cJ.c x=cJ.c y)=(x=y):=by apply propext;constructor;intro h;(cases x;cases y);simp only[cJ.c,kO,AV.s.injEq,mW,mV,mX,true_and,and_true,lW,mD,mF,mE,nz,nY,oN,pL,qJ,rY,td,uz,wq,yb,AE] at h;simp only[cJ.mk.injEq,br.ext_iff',aW.ext_iff',bW.ext_iff',and_assoc];exact h;intro h;rw[h]
theorem DS{l a:List cJ}:(sl cJ.c l=sl cJ.c a)=(l=a):=kL (by intro x y h;rwa [amM] at h)
theorem amT{x y:ap}:(ap.c x=ap.c y)=(x=y):=by apply propext;constructor;intro h;(cases x;cases y);simp only[ap.c,kO,AV.s.injEq,mW,mV,mX,true_and,and_true,lW,mD,mF,mE,nz,nY,oN,pL,qJ,rY,td,uz,wq,yb,AE,DS] at h;simp only[ap.mk.injEq,br.ext_iff',aW.ext_iff',bW.ext_iff',and_assoc];exact h;intro h;rw[h]
theorem NB{l a:List ap}:(sl ap.c l=sl ap.c a)=(l=a):=kL (by intro x y h;rwa [amT] at h)
theorem amJ{x y:dr}:(dr.c x=dr.c y)=(x=y):=by apply propext;constructor;intro h;(cases x;cases y);simp only[dr.c,kO,AV.s.injEq,mW,mV,mX,true_and,and_true,lW,mD,mF,mE,nz,nY,oN,pL,qJ,rY,td,uz,wq,yb,AE,DS,NB] at h;simp only[dr.mk.injEq,br.ext_iff',aW.ext_iff',bW.ext_iff',and_assoc];exact h;intro h;rw[h]
theorem amW{l a:List dr}:(sl dr.c l=sl dr.c a)=(l=a):=kL (by intro x y h;rwa [amJ] at h)
theorem amL{x y:ff}:(ff.c x=ff.c y)=(x=y):=by apply propext;constructor;intro h;(cases x;cases y);simp only[ff.c,kO,AV.s.injEq,mW,mV,mX,true_and,and_true,lW,mD,mF,mE,nz,nY,oN,pL,qJ,rY,td,uz,wq,yb,AE,DS,NB,amW] at h;simp only[ff.mk.injEq,br.ext_iff',aW.ext_iff',bW.ext_iff',and_assoc];exact h;intro h;rw[h]
theorem aB6{l a:List ff}:(sl ff.c l=sl ff.c a)=(l=a):=kL (by intro x y h;rwa [amL] at h)
def amV:=ai @lW<|ai @mD<|ai @mF<|ai @mE<|ai @amH<|ai @nz<|ai @amN<|ai @nY<|ai @amI<|ai @oN<|ai @amP<|ai @pL<|ai @amU<|ai @qJ<|ai @amO<|ai @rY<|ai @amS<|ai @td<|ai @amR<|ai @uz<|ai @amQ<|ai @wq<|ai @amK<|ai @yb<|ai @NA<|ai @AE<|ai @amM<|ai @DS<|ai @amT<|ai @NB<|ai @amJ<|ai @amW<|ai @amL<|@aB6
theorem aGq{x:cA}:aN J (cA.c x)=V (st x.name):=rfl
theorem azZ{x:cA}:cK 0 J (.a (cA.c x))=V (st x.name):=rfl
theorem aGr{x:cA}:aN J ((cA.c x).drop 1)=V (iv x.index):=rfl
theorem az0{x:cA}:cK 1 J (.a (cA.c x))=V (iv x.index):=rfl
theorem aGs{x:cA}:aN J ((cA.c x).drop 2)=V (iv x.size):=rfl
theorem az1{x:cA}:cK 2 J (.a (cA.c x))=V (iv x.size):=rfl
theorem aGt{x:cA}:aN J ((cA.c x).drop 3)=V (bv x.vol):=rfl
theorem az2{x:cA}:cK 3 J (.a (cA.c x))=V (bv x.vol):=rfl
theorem aGu{x:cA}:aN J ((cA.c x).drop 4)=V (iv x.init):=rfl
theorem az3{x:cA}:cK 4 J (.a (cA.c x))=V (iv x.init):=rfl
theorem aGv{x:cA}:aN (V 5) (cA.c x)=V (.a (cA.c x)):=rfl
theorem aG0{x:dS}:aN J (dS.c x)=V (st x.name):=rfl
theorem aAq{x:dS}:cK 0 J (.a (dS.c x))=V (st x.name):=rfl
theorem aG1{x:dS}:aN J ((dS.c x).drop 1)=V (bv x.rw):=rfl
theorem aAr{x:dS}:cK 1 J (.a (dS.c x))=V (bv x.rw):=rfl
theorem aG2{x:dS}:aN (V 2) (dS.c x)=V (.a (dS.c x)):=rfl
theorem aGy{x:el}:aN J (el.c x)=V (st x.name):=rfl
theorem az4{x:el}:cK 0 J (.a (el.c x))=V (st x.name):=rfl
theorem aGz{x:el}:aN J ((el.c x).drop 1)=V (iv x.eg):=rfl
theorem az5{x:el}:cK 1 J (.a (el.c x))=V (iv x.eg):=rfl
theorem aGA{x:el}:aN (V 2) (el.c x)=V (.a (el.c x)):=rfl
theorem aG6{x:dL}:aN J (dL.c x)=V (iv x.aq):=rfl
theorem aAu{x:dL}:cK 0 J (.a (dL.c x))=V (iv x.aq):=rfl
theorem aG7{x:dL}:aN J ((dL.c x).drop 1)=V (iv x.stmt):=rfl
theorem aAv{x:dL}:cK 1 J (.a (dL.c x))=V (iv x.stmt):=rfl
theorem aG8{x:dL}:aN J ((dL.c x).drop 2)=V (iv x.line):=rfl
theorem aAw{x:dL}:cK 2 J (.a (dL.c x))=V (iv x.line):=rfl
theorem aG9{x:dL}:aN (V 3) (dL.c x)=V (.a (dL.c x)):=rfl
theorem aHP{x:br}:aN J (br.c x)=V (sl cA.c x.cells):=rfl
theorem aA7{x:br}:cK 0 J (.a (br.c x))=V (sl cA.c x.cells):=rfl
theorem aHQ{x:br}:aN J ((br.c x).drop 1)=V (sl dS.c x.ak):=rfl
theorem aA8{x:br}:cK 1 J (.a (br.c x))=V (sl dS.c x.ak):=rfl
theorem aHR{x:br}:aN J ((br.c x).drop 2)=V (sl el.c x.bC):=rfl
theorem aA9{x:br}:cK 2 J (.a (br.c x))=V (sl el.c x.bC):=rfl
theorem aHS{x:br}:aN J ((br.c x).drop 3)=V (sl cs x.bU):=rfl
theorem aBa{x:br}:cK 3 J (.a (br.c x))=V (sl cs x.bU):=rfl
theorem aHT{x:br}:aN J ((br.c x).drop 4)=V (sl cs x.ay):=rfl
theorem aBb{x:br}:cK 4 J (.a (br.c x))=V (sl cs x.ay):=rfl
theorem aHU{x:br}:aN J ((br.c x).drop 5)=V (sl dL.c x.dU):=rfl
theorem aBc{x:br}:cK 5 J (.a (br.c x))=V (sl dL.c x.dU):=rfl
theorem aHV{x:br}:aN (V 6) (br.c x)=V (.a (br.c x)):=rfl
theorem aG3{x:cg}:aN J (cg.c x)=V (iv x.dv):=rfl
theorem aAs{x:cg}:cK 0 J (.a (cg.c x))=V (iv x.dv):=rfl
theorem aG4{x:cg}:aN J ((cg.c x).drop 1)=V (sl ci x.bk):=rfl
theorem aAt{x:cg}:cK 1 J (.a (cg.c x))=V (sl ci x.bk):=rfl
theorem aG5{x:cg}:aN (V 2) (cg.c x)=V (.a (cg.c x)):=rfl
theorem aHo{x:bF}:aN J (bF.c x)=V (iv x.cQ):=rfl
theorem aAJ{x:bF}:cK 0 J (.a (bF.c x))=V (iv x.cQ):=rfl
theorem aHp{x:bF}:aN J ((bF.c x).drop 1)=V (iv x.cond):=rfl
theorem aAK{x:bF}:cK 1 J (.a (bF.c x))=V (iv x.cond):=rfl
theorem aHq{x:bF}:aN J ((bF.c x).drop 2)=V (bv x.atomic):=rfl
theorem aAL{x:bF}:cK 2 J (.a (bF.c x))=V (bv x.atomic):=rfl
theorem aHr{x:bF}:aN (V 3) (bF.c x)=V (.a (bF.c x)):=rfl
theorem aHj{x:aW}:aN J (aW.c x)=V (sl cg.c x.ak):=rfl
theorem aAF{x:aW}:cK 0 J (.a (aW.c x))=V (sl cg.c x.ak):=rfl
theorem aHk{x:aW}:aN J ((aW.c x).drop 1)=V (iv x.tx):=rfl
theorem aAG{x:aW}:cK 1 J (.a (aW.c x))=V (iv x.tx):=rfl
theorem aHl{x:aW}:aN J ((aW.c x).drop 2)=V (sl cb x.done):=rfl
theorem aAH{x:aW}:cK 2 J (.a (aW.c x))=V (sl cb x.done):=rfl
theorem aHm{x:aW}:aN J ((aW.c x).drop 3)=V (sl bF.c x.ay):=rfl
theorem aAI{x:aW}:cK 3 J (.a (aW.c x))=V (sl bF.c x.ay):=rfl
theorem aHn{x:aW}:aN (V 4) (aW.c x)=V (.a (aW.c x)):=rfl
theorem aHa{x:bW}:aN J (bW.c x)=V (sl cg.c x.sync.ak):=rfl
theorem aAx{x:bW}:cK 0 J (.a (bW.c x))=V (sl cg.c x.sync.ak):=rfl
theorem aHb{x:bW}:aN J ((bW.c x).drop 1)=V (iv x.sync.tx):=rfl
theorem aAy{x:bW}:cK 1 J (.a (bW.c x))=V (iv x.sync.tx):=rfl
theorem aHc{x:bW}:aN J ((bW.c x).drop 2)=V (sl cb x.sync.done):=rfl
theorem aAz{x:bW}:cK 2 J (.a (bW.c x))=V (sl cb x.sync.done):=rfl
theorem aHd{x:bW}:aN J ((bW.c x).drop 3)=V (sl bF.c x.sync.ay):=rfl
theorem aAA{x:bW}:cK 3 J (.a (bW.c x))=V (sl bF.c x.sync.ay):=rfl
theorem aHe{x:bW}:aN J ((bW.c x).drop 4)=V (sl ci x.cells):=rfl
theorem aAB{x:bW}:cK 4 J (.a (bW.c x))=V (sl ci x.cells):=rfl
theorem aHf{x:bW}:aN J ((bW.c x).drop 5)=V (sl ci x.bU):=rfl
theorem aAC{x:bW}:cK 5 J (.a (bW.c x))=V (sl ci x.bU):=rfl
theorem aHg{x:bW}:aN J ((bW.c x).drop 6)=V (sl ci x.count):=rfl
theorem aAD{x:bW}:cK 6 J (.a (bW.c x))=V (sl ci x.count):=rfl
theorem aHh{x:bW}:aN (V 7) (bW.c x)=V (.a (bW.c x)):=rfl
theorem aHi{x:bW}:aN (V 4) (bW.c x)=V (.a (aW.c x.sync)):=rfl
theorem aAE{x:bW}:cK 0 (V 4) (.a (bW.c x))=V (.a (aW.c x.sync)):=rfl
theorem aGG{x:aP}:aN J (aP.c x)=V (iv x.aq):=rfl
theorem az9{x:aP}:cK 0 J (.a (aP.c x))=V (iv x.aq):=rfl
theorem aGH{x:aP}:aN J ((aP.c x).drop 1)=V (iv x.kind):=rfl
theorem aAa{x:aP}:cK 1 J (.a (aP.c x))=V (iv x.kind):=rfl
theorem aGI{x:aP}:aN J ((aP.c x).drop 2)=V (iv x.obj):=rfl
theorem aAb{x:aP}:cK 2 J (.a (aP.c x))=V (iv x.obj):=rfl
theorem aGJ{x:aP}:aN J ((aP.c x).drop 3)=V (iv x.value):=rfl
theorem aAc{x:aP}:cK 3 J (.a (aP.c x))=V (iv x.value):=rfl
theorem aGK{x:aP}:aN J ((aP.c x).drop 4)=V (iv x.site):=rfl
theorem aAd{x:aP}:cK 4 J (.a (aP.c x))=V (iv x.site):=rfl
theorem aGL{x:aP}:aN J ((aP.c x).drop 5)=V (sl ci x.dI):=rfl
theorem aAe{x:aP}:cK 5 J (.a (aP.c x))=V (sl ci x.dI):=rfl
theorem aGM{x:aP}:aN J ((aP.c x).drop 6)=V (sl ci x.ep):=rfl
theorem aAf{x:aP}:cK 6 J (.a (aP.c x))=V (sl ci x.ep):=rfl
theorem aGN{x:aP}:aN (V 7) (aP.c x)=V (.a (aP.c x)):=rfl
theorem aHw{x:am}:aN J (am.c x)=V (sl cA.c x.aQ.cells):=rfl
theorem aAP{x:am}:cK 0 J (.a (am.c x))=V (sl cA.c x.aQ.cells):=rfl
theorem aHx{x:am}:aN J ((am.c x).drop 1)=V (sl dS.c x.aQ.ak):=rfl
theorem aAQ{x:am}:cK 1 J (.a (am.c x))=V (sl dS.c x.aQ.ak):=rfl
theorem aHD{x:am}:aN J ((am.c x).drop 2)=V (sl el.c x.aQ.bC):=rfl
theorem aAW{x:am}:cK 2 J (.a (am.c x))=V (sl el.c x.aQ.bC):=rfl
theorem aHE{x:am}:aN J ((am.c x).drop 3)=V (sl cs x.aQ.bU):=rfl
theorem aAX{x:am}:cK 3 J (.a (am.c x))=V (sl cs x.aQ.bU):=rfl
theorem aHF{x:am}:aN J ((am.c x).drop 4)=V (sl cs x.aQ.ay):=rfl
theorem aAY{x:am}:cK 4 J (.a (am.c x))=V (sl cs x.aQ.ay):=rfl
theorem aHG{x:am}:aN J ((am.c x).drop 5)=V (sl dL.c x.aQ.dU):=rfl
theorem aAZ{x:am}:cK 5 J (.a (am.c x))=V (sl dL.c x.aQ.dU):=rfl
theorem aHH{x:am}:aN J ((am.c x).drop 6)=V (iv x.start):=rfl
theorem aA0{x:am}:cK 6 J (.a (am.c x))=V (iv x.start):=rfl
theorem aHI{x:am}:aN J ((am.c x).drop 7)=V (sl cg.c x.init.sync.ak):=rfl
theorem aA1{x:am}:cK 7 J (.a (am.c x))=V (sl cg.c x.init.sync.ak):=rfl
theorem aHJ{x:am}:aN J ((am.c x).drop 8)=V (iv x.init.sync.tx):=rfl
theorem aA2{x:am}:cK 8 J (.a (am.c x))=V (iv x.init.sync.tx):=rfl
theorem aHK{x:am}:aN J ((am.c x).drop 9)=V (sl cb x.init.sync.done):=rfl
theorem aA3{x:am}:cK 9 J (.a (am.c x))=V (sl cb x.init.sync.done):=rfl
theorem aHy{x:am}:aN J ((am.c x).drop 10)=V (sl bF.c x.init.sync.ay):=rfl
theorem aAR{x:am}:cK 10 J (.a (am.c x))=V (sl bF.c x.init.sync.ay):=rfl
theorem aHz{x:am}:aN J ((am.c x).drop 11)=V (sl ci x.init.cells):=rfl
theorem aAS{x:am}:cK 11 J (.a (am.c x))=V (sl ci x.init.cells):=rfl
theorem aHA{x:am}:aN J ((am.c x).drop 12)=V (sl ci x.init.bU):=rfl
theorem aAT{x:am}:cK 12 J (.a (am.c x))=V (sl ci x.init.bU):=rfl
theorem aHB{x:am}:aN J ((am.c x).drop 13)=V (sl ci x.init.count):=rfl
theorem aAU{x:am}:cK 13 J (.a (am.c x))=V (sl ci x.init.count):=rfl
theorem aHC{x:am}:aN J ((am.c x).drop 14)=V (sl aP.c x.ac):=rfl
theorem aAV{x:am}:cK 14 J (.a (am.c x))=V (sl aP.c x.ac):=rfl
theorem aHN{x:am}:aN (V 15) (am.c x)=V (.a (am.c x)):=rfl
theorem aHO{x:am}:aN (V 6) (am.c x)=V (.a (br.c x.aQ)):=rfl
theorem aA6{x:am}:cK 0 (V 6) (.a (am.c x))=V (.a (br.c x.aQ)):=rfl
theorem aHL{x:am}:aN (V 7) ((am.c x).drop 7)=V (.a (bW.c x.init)):=rfl
theorem aA4{x:am}:cK 7 (V 7) (.a (am.c x))=V (.a (bW.c x.init)):=rfl
theorem aHM{x:am}:aN (V 4) ((am.c x).drop 7)=V (.a (aW.c x.init.sync)):=rfl
theorem aA5{x:am}:cK 7 (V 4) (.a (am.c x))=V (.a (aW.c x.init.sync)):=rfl
theorem aGT{x:cJ}:aN J (cJ.c x)=V (iv x.kind):=rfl
theorem aAk{x:cJ}:cK 0 J (.a (cJ.c x))=V (iv x.kind):=rfl
theorem aGU{x:cJ}:aN J ((cJ.c x).drop 1)=V (iv x.ea):=rfl
theorem aAl{x:cJ}:cK 1 J (.a (cJ.c x))=V (iv x.ea):=rfl
theorem aGV{x:cJ}:aN J ((cJ.c x).drop 2)=V (iv x.eb):=rfl
theorem aAm{x:cJ}:cK 2 J (.a (cJ.c x))=V (iv x.eb):=rfl
theorem aGW{x:cJ}:aN J ((cJ.c x).drop 3)=V (iv x.ec):=rfl
theorem aAn{x:cJ}:cK 3 J (.a (cJ.c x))=V (iv x.ec):=rfl
theorem aGX{x:cJ}:aN J ((cJ.c x).drop 4)=V (iv x.ed):=rfl
theorem aAo{x:cJ}:cK 4 J (.a (cJ.c x))=V (iv x.ed):=rfl
theorem aGY{x:cJ}:aN J ((cJ.c x).drop 5)=V (sl ci x.cW):=rfl
theorem aAp{x:cJ}:cK 5 J (.a (cJ.c x))=V (sl ci x.cW):=rfl
theorem aGZ{x:cJ}:aN (V 6) (cJ.c x)=V (.a (cJ.c x)):=rfl
theorem aHs{x:ap}:aN J (ap.c x)=V (iv x.kind):=rfl
theorem aAM{x:ap}:cK 0 J (.a (ap.c x))=V (iv x.kind):=rfl
theorem aHt{x:ap}:aN J ((ap.c x).drop 1)=V (iv x.a):=rfl
theorem aAN{x:ap}:cK 1 J (.a (ap.c x))=V (iv x.a):=rfl
theorem aHu{x:ap}:aN J ((ap.c x).drop 2)=V (iv x.b):=rfl
theorem aAO{x:ap}:cK 2 J (.a (ap.c x))=V (iv x.b):=rfl
theorem aHv{x:ap}:aN (V 3) (ap.c x)=V (.a (ap.c x)):=rfl
theorem aGC{x:dr}:aN J (dr.c x)=V (iv x.x):=rfl
theorem az6{x:dr}:cK 0 J (.a (dr.c x))=V (iv x.x):=rfl
theorem aGD{x:dr}:aN J ((dr.c x).drop 1)=V (iv x.y):=rfl
theorem az7{x:dr}:cK 1 J (.a (dr.c x))=V (iv x.y):=rfl
theorem aGE{x:dr}:aN J ((dr.c x).drop 2)=V (iv x.k):=rfl
theorem az8{x:dr}:cK 2 J (.a (dr.c x))=V (iv x.k):=rfl
theorem aGF{x:dr}:aN (V 3) (dr.c x)=V (.a (dr.c x)):=rfl
theorem aGO{x:ff}:aN J (ff.c x)=V (iv x.ints):=rfl
theorem aAg{x:ff}:cK 0 J (.a (ff.c x))=V (iv x.ints):=rfl
theorem aGP{x:ff}:aN J ((ff.c x).drop 1)=V (iv x.bools):=rfl
theorem aAh{x:ff}:cK 1 J (.a (ff.c x))=V (iv x.bools):=rfl
theorem aGQ{x:ff}:aN J ((ff.c x).drop 2)=V (sl dr.c x.lL):=rfl
theorem aAi{x:ff}:cK 2 J (.a (ff.c x))=V (sl dr.c x.lL):=rfl
theorem aGR{x:ff}:aN J ((ff.c x).drop 3)=V (sl cl x.ug):=rfl
theorem aAj{x:ff}:cK 3 J (.a (ff.c x))=V (sl cl x.ug):=rfl
theorem aGS{x:ff}:aN (V 4) (ff.c x)=V (.a (ff.c x)):=rfl
theorem aGw{x:Int}:aN J (ci x)=V (iv x):=rfl
theorem aGp{x:Bool}:aN J (cb x)=V (bv x):=rfl
theorem aGB{x:ByteArray}:aN J (cs x)=V (st x):=rfl
theorem aGx{x:List Int}:aN J (cl x)=V (sl ci x):=rfl
theorem aC6{q:Option Nat}{Y:ae}{cs:List AV}:ef q Y (.q cs)=aN q cs:=rfl
theorem dd{l:List AV}{a b:Nat}:(l.drop a).drop b=l.drop (a+b):=List.drop_drop
theorem avz{Y:ae}{x:cA}:dG Y (.a (cA.c x))= .a (cA.c x):=rfl
theorem avD{Y:ae}{x:dS}:dG Y (.a (dS.c x))= .a (dS.c x):=rfl
theorem avA{Y:ae}{x:el}:dG Y (.a (el.c x))= .a (el.c x):=rfl
theorem avF{Y:ae}{x:dL}:dG Y (.a (dL.c x))= .a (dL.c x):=rfl
theorem zN{Y:ae}{x:br}:dG Y (.a (br.c x))= .a (br.c x):=rfl
theorem avE{Y:ae}{x:cg}:dG Y (.a (cg.c x))= .a (cg.c x):=rfl
theorem avI{Y:ae}{x:bF}:dG Y (.a (bF.c x))= .a (bF.c x):=rfl
theorem avH{Y:ae}{x:aW}:dG Y (.a (aW.c x))= .a (aW.c x):=rfl
theorem avG{Y:ae}{x:bW}:dG Y (.a (bW.c x))= .a (bW.c x):=rfl
theorem CU{Y:ae}{x:aP}:dG Y (.a (aP.c x))= .a (aP.c x):=rfl
theorem sH{Y:ae}{x:am}:dG Y (.a (am.c x))= .a (am.c x):=rfl
theorem Kl{Y:ae}{x:cJ}:dG Y (.a (cJ.c x))= .a (cJ.c x):=rfl
theorem avJ{Y:ae}{x:ap}:dG Y (.a (ap.c x))= .a (ap.c x):=rfl
theorem avB{Y:ae}{x:dr}:dG Y (.a (dr.c x))= .a (dr.c x):=rfl
theorem avC{Y:ae}{x:ff}:dG Y (.a (ff.c x))= .a (ff.c x):=rfl
def ar:=ai @jM<|ai @jt<|ai @kU<|ai @tW<|ai @alg<|ai @CV<|ai @AL<|ai @Ql<|ai @QQ<|ai @gT<|ai @true_and<|ai @avz<|ai @avD<|ai @avA<|ai @avF<|ai @zN<|ai @avE<|ai @avI<|ai @avH<|ai @avG<|ai @CU<|ai @sH<|ai @Kl<|ai @avJ<|ai @avB<|@avC
def rk:=ai @aGq<|ai @azZ<|ai @aGr<|ai @az0<|ai @aGs<|ai @az1<|ai @aGt<|ai @az2<|ai @aGu<|ai @az3<|ai @aGv<|ai @aG0<|ai @aAq<|ai @aG1<|ai @aAr<|ai @aG2<|ai @aGy<|ai @az4<|ai @aGz<|ai @az5<|ai @aGA<|ai @aG6<|ai @aAu<|ai @aG7<|ai @aAv<|ai @aG8<|ai @aAw<|ai @aG9<|ai @aHP<|ai @aA7<|ai @aHQ<|ai @aA8<|ai @aHR<|ai @aA9<|ai @aHS<|ai @aBa<|ai @aHT<|ai @aBb<|ai @aHU<|ai @aBc<|ai @aHV<|ai @aG3<|ai @aAs<|ai @aG4<|ai @aAt<|ai @aG5<|ai @aHo<|ai @aAJ<|ai @aHp<|ai @aAK<|ai @aHq<|ai @aAL<|ai @aHr<|ai @aHj<|ai @aAF<|ai @aHk<|ai @aAG<|ai @aHl<|ai @aAH<|ai @aHm<|ai @aAI<|ai @aHn<|ai @aHa<|ai @aAx<|ai @aHb<|ai @aAy<|ai @aHc<|ai @aAz<|ai @aHd<|ai @aAA<|ai @aHe<|ai @aAB<|ai @aHf<|ai @aAC<|ai @aHg<|ai @aAD<|ai @aHh<|ai @aHi<|ai @aAE<|ai @aGG<|ai @az9<|ai @aGH<|ai @aAa<|ai @aGI<|ai @aAb<|ai @aGJ<|ai @aAc<|ai @aGK<|ai @aAd<|ai @aGL<|ai @aAe<|ai @aGM<|ai @aAf<|ai @aGN<|ai @aHw<|ai @aAP<|ai @aHx<|ai @aAQ<|ai @aHD<|ai @aAW<|ai @aHE<|ai @aAX<|ai @aHF<|ai @aAY<|ai @aHG<|ai @aAZ<|ai @aHH<|ai @aA0<|ai @aHI<|ai @aA1<|ai @aHJ<|ai @aA2<|ai @aHK<|ai @aA3<|ai @aHy<|ai @aAR<|ai @aHz<|ai @aAS<|ai @aHA<|ai @aAT<|ai @aHB<|ai @aAU<|ai @aHC<|ai @aAV<|ai @aHN<|ai @aHO<|ai @aA6<|ai @aHL<|ai @aA4<|ai @aHM<|ai @aA5<|ai @aGT<|ai @aAk<|ai @aGU<|ai @aAl<|ai @aGV<|ai @aAm<|ai @aGW<|ai @aAn<|ai @aGX<|ai @aAo<|ai @aGY<|ai @aAp<|ai @aGZ<|ai @aHs<|ai @aAM<|ai @aHt<|ai @aAN<|ai @aHu<|ai @aAO<|ai @aHv<|ai @aGC<|ai @az6<|ai @aGD<|ai @az7<|ai @aGE<|ai @az8<|ai @aGF<|ai @aGO<|ai @aAg<|ai @aGP<|ai @aAh<|ai @aGQ<|ai @aAi<|ai @aGR<|ai @aAj<|ai @aGS<|ai @aGw<|ai @aGp<|ai @aGB<|ai @aGx<|ai @aC6<|@dd
theorem bA{n k:Nat}(h:Q ((k:Int)<(n:Int))=U):aF n (k:Int):=dJ (aL h)
end Go.Ab
