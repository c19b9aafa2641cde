/- Part of the proof of WitnessSchedules. -/
import Derived.Test.YtdgiigkneimbdaaGreatDoorF
set_option linter.all false
set_option maxRecDepth 100000
open And renaming intro->ai
open Bool renaming and_eq_true->bN,false->I,false_eq_true->eE,not_false->kN,not_true->fh,true->U,true_and->iw
open Decidable renaming decide->Q
open Go.IntKind renaming i64->dq
open Int renaming toNat_natCast->bh
open List renaming cons.injEq->kO,length->L,length_map->bJ,map_congr_left->ja,map_cons->ji,map_nil->mU,range->aH,take_of_length_le->oB,take_succ_eq_append_getElem->iJ
open Nat renaming beq->aOU,le_refl->dA,zero_add->aj
open Option renaming bind_some->a6X,map_some->df,none->J,some->V
namespace Go.Ab
open Go Go.RowKit Go.Proofs
def bwF(f:Int->Option Int)(k v:Int):Int->Option Int:=λx=>if x=k then V v else f x
section
variable{κ β:Type}[DecidableEq κ]
def btt(kv:κ->Value)(vv:β->Value)(l:List<|κ×β):List (Value×Value):=l.map λp=>(kv p.1,vv p.2)
def lkM(l:List<|κ×β)(k:κ):Option β:=(l.find? λp=>Q<|k=p.1).map (·.2)
theorem bus{p}{l:List (κ×β)}{k}:lkM (p::l) k=if k=p.1 then V p.2 else lkM l k:=by grind [lkM]
structure MKd(mt:MT)(kA:κ->AV)(kv:κ->Value):Prop where
 eq:∀x y,pO mt (kv x) (kv y)=V (Q<|x=y)
 kV:∀x,ww mt.st (kA x)=V (kv x)
 ok:∀x,qR mt (kv x)=U
 sb:∀x,Instr.sameBits 10000 (kv x) (kv x)=U
variable{mt:MT}{kA:κ->AV}{kv:κ->Value}{vv:β->Value}
theorem bwe(a:MKd mt kA kv){k}:∀{l j},(lkM l k=J/\lg mt (kv k) (btt kv vv l) j=V J)\/∃v i,lkM l k=V v/\lg mt (kv k) (btt kv vv l) j=V (V (j+i,vv v))/\(∃y,(btt kv vv l)[i]?=V (kv k,y))/\∀v' x,lkM (l.set i (k,v')) x=if x=k then V v' else lkM l x
 |[],j=> .inl ⟨A,A⟩
 |p::l,j=>by
  by_cases h:k=p.1
  ·refine .inr ⟨p.2,0,by rw[bus,zg h],by simp[btt,lg,a.eq,h],⟨vv p.2,by simp[btt,h]⟩,λv' x=>?_⟩
   grind [bus]
  ·obtain⟨d,c⟩|⟨v,i,d,c,g,m⟩:=bwe a (k:=k) (l:=l) (j:=j+1)
   ·exact .inl ⟨by grind [bus],by simpa[btt,lg,a.eq,h] using c⟩
   ·refine .inr ⟨v,i+1,by grind [bus],?_,by grind [btt],λv' x=>?_⟩
    ·have e:j+(i+1)=j+1+i:=Z
     simpa[btt,lg,a.eq,h,e] using c
    grind [bus]
theorem bzL{l}{k x:κ}{v:β}(h:lkM l k=J):lkM (l++[(k,v)]) x=if x=k then V v else lkM l x:=by induction l with|nil=>simp[bus]|cons p l a=>grind [bus]
def MP(kv:κ->Value)(vv:β->Value)(Y:ae)(b:Id)(f:κ->Option β):Prop:=∃(t:TypeId) (l:List<|κ×β),box Y b=V ⟨t,0,U,U,[(btt kv vv l).map ent]⟩/\∀x,lkM l x=f x
variable{Y Y':ae}{b:Id}{f:κ->Option β}{o n:Nat}
theorem MP.fx{ks}(M:MP kv vv Y b f)(F:Fx Y Y' ks)(d:b∉ks):MP kv vv Y' b f:=by obtain⟨t,l,a,c⟩:=M;exact⟨t,l,F.keep _ _ d a,c⟩
def MP.lu(a:MKd mt kA kv)(M:MP kv vv Y b f){x}:oP mt Y (.g 0 b o n) (kA x) I=V (.s<|(f x).elim mt.zero vv)/\oP mt Y (.g 0 b o n) (kA x) U=V (.t [.s<|(f x).elim mt.zero vv,bv (f x).isSome]):=by
 obtain⟨t,l,e,h⟩:=M
 rw[<-h]
 obtain⟨c,d⟩|⟨v,i,c,d,_⟩:=bwe (vv:=vv) a (k:=x) (l:=l) (j:=0)<;>
  simp only[oP,a.kV,e,a6X,ul,aNR,a6F,KH,a.ok,d,c]<;>exact⟨A,A⟩
theorem MP.mu(a:MKd mt kA kv)(M:MP kv vv Y b f){x v K}(e:∀Y',Fx Y Y' [b]->MP kv vv Y' b (λy=>if y=x then V v else f y)->K Y'):sV (muA mt Y (.g 0 b o n) (kA x)<|.s<|vv v) K:=by obtain⟨t,l,c,h⟩:=M;obtain⟨m,d⟩|⟨u,i,m,d,⟨y,p⟩,q⟩:=bwe (vv:=vv) a (k:=x) (l:=l) (j:=0);simp only[muA,a.kV,c,ul,aNR,a6F,KH,a.ok,d];refine e _ (wc c) ⟨t,l++[(x,v)],?_,by grind [bzL]⟩;rw[lO c];simp[btt];simp only[muA,a.kV,c,ul,aNR,a6F,KH,a.ok,d,aj,p,Option.any_some,a.sb];refine e _ (wc c) ⟨t,l.set i (x,v),?_,λy=>by rw[q,h]⟩;rw[lO c];simp[btt,List.map_set]
def bzR{t}{d:Nat}{K}(a:d<L Y)(e:∀v Y',Fx Y Y' []->bK Y (d,v)->MP kv vv Y' (d,v) (λ_=>J)->K (.g 0 (d,v) 0 0) Y'):eV (oS t Y d) K:=by have c:oS t Y d=V (.g 0 (lA Y d) 0 0,put Y d ⟨t,0,U,U,[[]]⟩):=(by simp[oS,vg,a]);rw[c];exact e _ _ (kH a) (qQ Y d) ⟨t,[],iy a,λ_=>A⟩
end
abbrev mtI:MT:=⟨I,[(0,0)], .int .i64<|Int.ofNat 0⟩
abbrev mtW:MT:=⟨U,[(0,0),(1,0)], .bool I⟩
def kI(n:Int):Value:= .int .i64 n
def kW(p:Int×Int):Value:= .agg #[.int .i64 p.1, .int .i64 p.2]
def bxv:MKd mtI iv kI:=⟨(by grind [pO,kI]),λ_=>A,λ_=>A,λx=>by simp[kI,Instr.sameBits]⟩
def mkW:MKd mtW (λp:Int×Int=> .a [iv p.1,iv p.2]) kW:=by refine⟨λx y=>?_,λ_=>A,λ_=>by simp[qR,kW],λx=>by simp[kW,Instr.sameBits]⟩;obtain⟨a,b⟩:=x;obtain⟨c,d⟩:=y;by_cases e:a=c<;>by_cases g:b=d<;>simp[pO,kW,nW,sS,e,g]
abbrev MI(Y:ae)(b:Id)(f:Int->Option Int):Prop:=MP kI kI Y b f
abbrev MW(Y:ae)(b:Id)(g:Int->Int->Bool):Prop:=MP kW (λb:Bool=> .bool b) Y b λp=>if g p.1 p.2=U then V U else J
def MI.lu{Y b f x o n}(M:MI Y b f):oP mtI Y (.g 0 b o n) (iv x) I=V (iv<|(f x).getD 0)/\oP mtI Y (.g 0 b o n) (iv x) U=V (.t [iv<|(f x).getD 0,bv (f x).isSome]):=by have:=MP.lu bxv M (x:=x) (o:=o) (n:=n);cases a:f x<;>rw[a] at this<;>exact this
def MW.lu{Y b g x y o n}(M:MW Y b g):oP mtW Y (.g 0 b o n) (.a [iv x,iv y]) I=V (bv<|g x y):=by have:=(MP.lu mkW M (x:=(x,y)) (o:=o) (n:=n)).1;grind
def MI.mu{Y b f x v o n K}(M:MI Y b f)(a:∀Y',Fx Y Y' [b]->MI Y' b (bwF f x v)->K Y'):sV (muA mtI Y (.g 0 b o n) (iv x)<|iv v) K:=MP.mu bxv M (v:=v) a
def MW.mu{Y b g x y o n K}(M:MW Y b g)(d:∀Y',Fx Y Y' [b]->MW Y' b (λa c=>g a c||(Q (a=x)&&Q (c=y)))->K Y'):sV (muA mtW Y (.g 0 b o n) (.a [iv x,iv y])<|bv U) K:=MP.mu mkW M (x:=(x,y)) (v:=U) λY' F e=>d Y' F<|by have:(λz:Int×Int=>if z=(x,y) then V U else if g z.1 z.2=U then V U else J)=λz:Int×Int=>if(g z.1 z.2||(Q (z.1=x)&&Q (z.2=y)))=U then V U else J:=X;grind
def stN{Y b e}{i:Nat}{v:Int}{l:eu}{K}(c:box Y b=V ⟨e,1,U,I,l.map ci⟩)(d:i<L l)(a:∀Y',Fx Y Y' [b]->box Y' b=V ⟨e,1,U,I,(l.set i v).map ci⟩->K Y'):sV (aK 1 Y (.p b i 0)<|iv v) K:=wL c (r:=ci<|l[i]) O (by simp[ci]) λY' F h=>a Y' F<|by simp_all
def bxT{Y b e}{i:Nat}{v}{l:List Bool}{K}(c:box Y b=V ⟨e,1,U,I,l.map cb⟩)(d:i<L l)(a:∀Y',Fx Y Y' [b]->box Y' b=V ⟨e,1,U,I,(l.set i v).map cb⟩->K Y'):sV (aK 1 Y (.p b i 0)<|bv v) K:=wL c (r:=cb<|l[i]) O (by simp[cb]) λY' F h=>a Y' F<|by simp_all
def ixM{Y b e}{n k:Nat}{bA K}(a:box Y b=V ⟨e,1,U,I,bA⟩)(d:n=L bA)(c:k<n)(h:K<|.p b k 0):rV (cz 1 Y (.m b n)<|iv k) K:=by subst d;refine ixI (.inr ⟨b,A,a⟩) (dJ c) λj i _=>?_;simp_all
def ixN{Y b e}{n:Nat}{i:Int}{bA K}(a:box Y b=V ⟨e,1,U,I,bA⟩)(d:n=L bA)(c:aF n i)(h:K<|.p b i.toNat 0):rV (cz 1 Y (.m b n)<|iv i) K:=by subst d;refine ixI (.inr ⟨b,A,a⟩) c λk j _=>?_;simp_all
def ldM{Y b e}{k:Nat}{l}(c:box Y b=V ⟨e,1,U,I,l.map ci⟩)(a:k<L l):sA J Y (.p b k 0)=V (iv<|gd l k):=by rw[aC5,c];simp only[a6X,List.getElem?_map,List.getElem?_eq_getElem a,df,aNV a];rfl
def aYk{w}(d:bcV w=U)(h:hU w):(kB w/\L w.init.eB.ay<=4/\fN w.aQ w.init=U)/\L (m8 w)<2000:=by obtain⟨e,hs⟩:=aQA d;obtain⟨a,b,i,j,c⟩:=tC e;exact⟨⟨Rr h d,a.sy.th,c⟩,(anE b a.sy.th).1⟩
def bsE(w:am)(g:cJ)(p:List Bool)(q:eu):List ot×Bool:=
 if L p=L (m8 w)/\L q=L w.ac/\biu w g (btw w p q)=U then(btw w p q,U) else([],I)
def bzp{p b:List Bool}{q c:eu}:(AV.a [sl cb p,sl ci q]=AV.a [sl cb b,sl ci c])=(p=b/\q=c):=by simp only[AV.a.injEq,kO,mD,aN8,aRI]
def bxJ{Y e z a bA b R}(i:J7 Y e z a bA)(h:∀t,R<|.t [.l bA t U,bv b]):aE R Y [a,bv b]:=by unfold aE jS;obtain⟨c,d⟩|⟨k,m,rfl,j⟩:=i;subst c d;exact⟨A,h U⟩;simp only[ji,mU,iZ,dQ,j,a6F,List.take_left'];exact⟨A,h I⟩
structure RS(x:ae)(w:am)(g:cJ)(p:List Bool)(q:eu)(bi bt bw:Id)(li lt:List Bool)(lw:eu):Prop where
 hl:L x=4096
 b3:box x (3,1)=V ⟨45,15,U,U,[w.c]⟩
 b4:box x (4,1)=V ⟨48,6,U,U,[g.c]⟩
 b5:box x (5,1)=V ⟨53,2,U,U,[[sl cb p,sl ci q]]⟩
 i1:bi.1=37
 t1:bt.1=39
 w1:bw.1=41
 bI:box x bi=V ⟨4,1,U,I,li.map cb⟩
 bT:box x bt=V ⟨4,1,U,I,lt.map cb⟩
 bW:box x bw=V ⟨3,1,U,I,lw.map ci⟩
section
variable{x y:ae}{w:am}{g:cJ}{p:List Bool}{q:eu}{bi bt bw:Id}{li lt:List Bool}{lw:eu}
theorem RS.fx{Lw}(S:RS x w g p q bi bt bw li lt lw)(F:Fx x y Lw)(d:∀k∈Lw,k.1=12\/k.1=15\/k.1=137):RS y w g p q bi bt bw li lt lw:=by have a:∀{k:Id},k.1≠12/\k.1≠15/\k.1≠137->k∉Lw:=X;have b:=S.i1;have t1:=S.t1;have c:=S.w1;exact⟨F.len.trans S.hl,F.keep _ _ (a O) S.b3,F.keep _ _ (a O) S.b4,F.keep _ _ (a O) S.b5,b,t1,c,F.keep _ _ (a Z) S.bI,F.keep _ _ (a Z) S.bT,F.keep _ _ (a Z) S.bW⟩
theorem RS.wI{l}(S:RS x w g p q bi bt bw li lt lw)(F:Fx x y [bi])(d:box y bi=V ⟨4,1,U,I,l.map cb⟩):RS y w g p q bi bt bw l lt lw:=by have b:=S.i1;have t1:=S.t1;have c:=S.w1;have a:∀{k:Id},k.1≠37->k∉[bi]:=X;exact⟨F.len.trans S.hl,F.keep _ _ (a O) S.b3,F.keep _ _ (a O) S.b4,F.keep _ _ (a O) S.b5,b,t1,c,d,F.keep _ _ (a Z) S.bT,F.keep _ _ (a Z) S.bW⟩
theorem RS.wT{l}(S:RS x w g p q bi bt bw li lt lw)(F:Fx x y [bt])(d:box y bt=V ⟨4,1,U,I,l.map cb⟩):RS y w g p q bi bt bw li l lw:=by have b:=S.i1;have t1:=S.t1;have c:=S.w1;have a:∀{k:Id},k.1≠39->k∉[bt]:=X;exact⟨F.len.trans S.hl,F.keep _ _ (a O) S.b3,F.keep _ _ (a O) S.b4,F.keep _ _ (a O) S.b5,b,t1,c,F.keep _ _ (a Z) S.bI,d,F.keep _ _ (a Z) S.bW⟩
theorem RS.wW{l}(S:RS x w g p q bi bt bw li lt lw)(F:Fx x y [bw])(d:box y bw=V ⟨3,1,U,I,l.map ci⟩):RS y w g p q bi bt bw li lt l:=by have b:=S.i1;have t1:=S.t1;have c:=S.w1;have a:∀{k:Id},k.1≠41->k∉[bw]:=X;exact⟨F.len.trans S.hl,F.keep _ _ (a O) S.b3,F.keep _ _ (a O) S.b4,F.keep _ _ (a O) S.b5,b,t1,c,F.keep _ _ (a Z) S.bI,F.keep _ _ (a Z) S.bT,d⟩
end
def bto{p:Prop}(h:p:=by grind [Go.Ab.buW]):p:=h
def bwo(w)(g)(p)(q)(hp:bcV w=U/\hU w/\qC w g=U/\L g.cW<1000/\L w.ac<=12):Ct 10 [.a w.c, .a g.c, .a [sl cb p,sl ci q]] (λr=>∃t,r= .t [.l ((bsE w g p q).1.map ot.c) t U,bv (bsE w g p q).2]):=by
 obtain⟨hv,hf,hg,bs,b9⟩:=hp
 have d:=vw hf hv
 have N:=bxB d.wv.ok.ev d.wv.ts d.th
 have hW:=bnz hf hv
 have cp:=d.ln
 obtain⟨hN,_⟩:=aYk hv hf
 refine bAl A rfl rfl λs6 hl b3 b4 b5 h0=>?_
 have r15:aN (V 15) w.c=V (.a w.c):=A
 have k1:∀{x:dM} {y:AV},aN J (y::x)=V y:=λ{x y}=>by cases y<;>rfl
 have kC:∀{a b:AV},[a,b].drop 1=[b]:=A
 simp only[bw2,hH,b3,b5,r15,bur,hN,k1,kC,↓uL]
 intro t
 refine⟨.inl A,?_⟩
 have ch:¬(L p=L (m8 w)/\L q=L w.ac)->aE (λr=>∃t,r=AV.t [.l ((bsE w g p q).1.map ot.c) t U,bv (bsE w g p q).2]) s6 [AV.l [] U U,bv I]:=λh=>by
  rw[bsE,za Z]
  exact⟨A,U,A⟩
 rcases h1:Q ((L p:Int)≠(L (m8 w):Int)) with _|_
 ·have aw:L p=L (m8 w):=X
  simp only[h1,↓jA,qE,b5,kC,k1,aY,eS,a7i,↓uL]
  refine⟨X,λh2=>?_⟩
  have aR:L q=L w.ac:=X
  refine AP H H Z Z λE s7 bk N7 F7 c7=>?_
  have bz:=F7.len.trans hl
  simp only[qz 8,↓uL]
  refine AP H H Z Z λK s8 bl N8 F8 c8=>?_
  have cm:=F8.len.trans bz
  simp only[qz 10,↓uL]
  refine dT A ?_
  refine AP H H Z Z λD s9 aP N9 F9 c9=>?_
  have ad:Fx s6 s9 []:=F7.trans<|F8.trans F9
  have cg:RS s9 w g p q E K D (tb (λ_=>I)<|L w.ac) (tb (λ_=>I)<|L w.ac) (tb (λ_=>0)<|L w.ac):=
   ⟨ad.len.trans hl,ad.kq b3,ad.kq b4,ad.kq b5,bk,bl,aP,by rw[(F8.trans F9).kq c7,<-bwD,List.map_replicate];rfl,by rw[F9.kq c8,<-bwD,List.map_replicate];rfl,by rw[c9,<-bwD,List.map_replicate];rfl⟩
  have bH:fS s9 (.m D<|L w.ac)=V (iv<|L w.ac):=by simp[fS,c9]
  simp only[qz 12,bH,aY,↓uL]
  refine yV (L w.ac) (λk _ x=>RS x w g p q E K D (tb (λ_=>I)<|L w.ac) (tb (λ_=>I)<|L w.ac)<|tb (λe=>if e<k then-1 else 0)<|L w.ac) X ?_
  rintro k _ x hk S
  simp only[qz 61,au,eQ,↓uL]
  refine⟨λh=>?_,λh=>?_⟩
  ·have C:=aL h
   refine ixM S.bW bto C ?_
   refine stN S.bW bto λy F R=>?_
   rw[bvU (g:=λe=>if e<k+1 then-1 else 0) Z] at R
   simp only[qz 14,au,eQ,↓uL]
   exact yU C<|S.wW F R
  have av:k=L w.ac:=X
  subst av
  have S0:RS x w g p q E K D (tb (λe=>Q<|(e:Int)∈exL (m8 w) p 0)<|L w.ac) (tb (λ_=>I)<|L w.ac) (tb (λe=>brN w (m8 w) p 0 e)<|L w.ac):=by
   have e1:tb (λe=>if e<L w.ac then(-1:Int) else 0) (L w.ac)=tb (λe=>brN w (m8 w) p 0 (e:Nat)) (L w.ac):=ja λj hj=>by rw[zg<|List.mem_range.1 hj,bAr]
   grind [exL]
  clear S
  have bG:∀{Y:ae},fS Y (.l ((m8 w).map aH8.c) t U)=V (iv<|L<|m8 w):=by grind [fS]
  simp only[bG,aY,↓uL]
  refine yV (L<|m8 w) (λk _ x=>RS x w g p q E K D (tb (λe=>Q<|(e:Int)∈exL (m8 w) p k)<|L w.ac) (tb (λ_=>I)<|L w.ac)<|tb (λe=>brN w (m8 w) p k (e:Nat))<|L w.ac) S0 ?_
  rintro k _ x hk S
  simp only[qz 103,au,eQ,↓uL]
  refine⟨λh=>?_,λh=>?_⟩
  ·have C:=aL h
   refine bsf (λo=>∀z',RS z' w g p q E K D (tb (λe=>Q<|(e:Int)∈exL (m8 w) p (k+1))<|L w.ac) (tb (λ_=>I)<|L w.ac) (tb (λe=>brN w (m8 w) p (k+1) (e:Nat))<|L w.ac)->o [] z') ?_ λo hJ=>?_
   ·intro z' T
    simp only[qz 123,au,eQ,↓uL]
    exact yU C T
   have r3:∀{x:aH8},aN (V 3) x.c=V (.a x.c):=λ{x}=>A
   simp only[qz 125,qy 16,au,eQ,lX,aC6,r3,aY,bh,↓uL]
   refine⟨dJ C,?_⟩
   refine anu S.hl λvx z1 F1 N1 bx=>?_
   have S1:=S.fx F1 O
   have am:=N.ex k C
   have an:=N.wk k C
   have al:=bxe (ns:=m8 w) (p:=p) (k:=k)
   have ao:=λe=>bAt (p:=p) N C (e:=e)
   simp only[exI,wkI] at al ao
   obtain⟨Xq,bE⟩:∃Xq,gd (m8 w) k=Xq:=⟨_,A⟩
   simp only[bE] at bx am an al ao
   simp only[qz 18,au,fD,S1.b5,k1,kC,bh,↓uL]
   refine⟨dJ Z,?_⟩
   refine⟨λh2=>hJ z1 ?_,λh2=>?_⟩
   ·simp_all
   have aw:gd p k=U:=X
   simp only[aw,iw] at al ao
   refine bsf (λJ2=>∀z',RS z' w g p q E K D (tb (λe=>Q<|(e:Int)∈exL (m8 w) p (k+1))<|L w.ac) (tb (λ_=>I)<|L w.ac) (tb (λe=>brN w (m8 w) p k (e:Nat))<|L w.ac)->box z' (15,vx)=V ⟨98,3,U,U,[Xq.c]⟩->J2 [] z') ?_ λJ2 aM=>?_
   ·intro z2 W ah
    simp only[qz 147,au,eT,ah,W.b3,ix,↓uL]
    have ax:(∀e:Nat,e<L w.ac->brN w (m8 w) p (k+1) e=brN w (m8 w) p k e)->o [] z2:=λh=>hJ z2 (by
     have e1:tb (λe=>brN w (m8 w) p (k+1) (e:Nat)) (L w.ac)=tb (λe=>brN w (m8 w) p k (e:Nat)) (L w.ac):=ja X
     simp_all)
    rcases h5:Q (Xq.kind=5) with _|_
    ·simp only[h5,↓jN,a7i,aY,eQ,Bc,eE,im,↓uL]
     simp_all
    obtain⟨M,ck,aO,cl⟩:=an<|aNQ h5
    have af:Xq.a.toNat<L w.ac:=by have:=M.1;have:=M.2;omega
    have ap:((Xq.a.toNat:Nat):Int)=Xq.a:=by have:=M.1;omega
    simp only[h5,↓jA,qE,W.b3,ah,ix,aY,eT,a5C,↓uL]
    refine⟨M,?_⟩
    rcases ak:Q ((gd w.ac Xq.a.toNat).kind=18) with _|_
    ·simp only[ak,↓jN,a7i,aY,eQ,Bc,eE,aPZ,aQl,Cq,↓uL]
     refine ax λe _=>?_
     grind
    simp only[ak,↓jA,qE,ah,aY,eT,a5C,↓uL]
    refine ixN W.bW bto M ?_
    simp only[ldM W.bW (show Xq.a.toNat<_ by rwa [buW]),buV af,aY,eQ,a5C,ap,↓uL]
    have bY:=aNQ ak
    refine⟨λh6=>?_,λh6=>ax λe _=>?_⟩
    ·have cc:(tb (λe=>brN w (m8 w) p k (e:Nat))<|L w.ac).set Xq.a.toNat (bta w Xq.b)=tb (λe=>brN w (m8 w) p (k+1) (e:Nat)) (L w.ac):=bvU X
     have bo:∀{Lw:List Id} {y:ae},(∀q∈Lw,q.1=41)->Fx z2 y Lw->box y (15,vx)=V ⟨98,3,U,U,[Xq.c]⟩:=bsq
     refine ixN W.bW bto M ?_
     refine stN W.bW bto λy F R=>?_
     have S3:=W.wW F R
     have bb:=bo (by simpa using aP) F
     have cr:dq.wrap (-1-Xq.b)= -1-Xq.b:=by
      refine eM ?_ Z
      obtain h|h:=Int.lt_or_le Xq.b 0
      ·omega
      ·have:=(aO h).2;omega
     simp only[qz 22,qy 24,au,eT,bb,S3.b3,ix,↓uL]
     refine⟨λh7=>?_,λh7=>?_⟩
     ·have bg:0<=Xq.b:=X
      refine⟨aO bg,?_⟩
      refine ixN S3.bW bto M ?_
      refine stN S3.bW bto λy2 F2 bF=>hJ y2 ?_
      have S4:=S3.wW F2 bF
      grind [List.set_set,bta]
     grind [bta]
    grind
   ·simp only[qz 149,qy 20,au,eT,bx,↓uL]
    refine⟨λh3=>?_,λh3=>aM z1 ?_ bx⟩
    ·have M:=am<|aNQ h3
     have af:Xq.a.toNat<L w.ac:=by have:=M.1;have:=M.2;omega
     have ap:((Xq.a.toNat:Nat):Int)=Xq.a:=by have:=M.1;omega
     refine ixN S1.bI bto M ?_
     refine bxT S1.bI bto λy F R=>aM y ?_ bsq
     rw[bvU (g:=λe=>Q<|(e:Int)∈exL (m8 w) p (k+1))<|λi hi=>?_] at R
     ·exact S1.wI F R
     grind
    simp_all
  have av:k=L (m8 w):=X
  subst av
  have bj:=bxd (p:=p) N<|dA _
  have aK:∀x∈exL (m8 w) p (L<|m8 w),0<=x/\x<L w.ac:=λx P=>bwd N (dA _) x P
  have a1:∀x∈bsw (m8 w) p q,aF (L w.ac) x:=λx P=>aK x<|bxE.1 P
  have aQ:=λm=>bzc (q:=q) (m:=m) bj aK
  have cq:L (bsw (m8 w) p q)<=L (m8 w):=by
   unfold bsw
   have:=bvy (lt:=ltK q) (l:=exL (m8 w) p<|L<|m8 w) (acc:=[])
   rw[this]
   simp only[List.length_nil,aj,exL,bJ]
   have:=List.length_filter_le (exI (m8 w) p)<|aH<|L<|m8 w
   simpa using this
  change∀m,brG q _ (tb (λe=>Q<|(e:Int)∈(bsw (m8 w) p q).take m)<|L w.ac) _=if m<L (bsw (m8 w) p q) then gd (bsw (m8 w) p q) m else-1 at aQ
  have a2:btw w p q=(bsw (m8 w) p q).map (bsr w (m8 w) p):=A
  have cd:∀e:Nat,e<L w.ac->bsr w (m8 w) p e=⟨(gd w.ac e).aq,brN w (m8 w) p (L<|m8 w) e⟩:=λe _=>by simp[bsr]
  generalize cj:bsw (m8 w) p q=B at*
  have a5:RS x w g p q E K D (tb (λe=>Q<|(e:Int)∈exL (m8 w) p (L<|m8 w))<|L w.ac) (tb (λe=>Q<|(e:Int)∈B.take 0)<|L w.ac) (tb (λe=>brN w (m8 w) p (L<|m8 w) (e:Nat))<|L w.ac):=by
   simp_all
  clear S
  refine⟨λvs z=>∃(m:Nat) (a:AV),vs=[a]/\m<=L B/\J7 z 113 2 a (((B.take m).map<|bsr w (m8 w) p).map ot.c)/\(∀k∈aA a,k.1=137)/\RS z w g p q E K D (tb (λe=>Q<|(e:Int)∈exL (m8 w) p (L<|m8 w))<|L w.ac) (tb (λe=>Q<|(e:Int)∈B.take m)<|L w.ac) (tb (λe=>brN w (m8 w) p (L<|m8 w) (e:Nat))<|L w.ac),
   λvs z=>match fS z (gt vs 0) with|some (.s<|.int _ n)=>L B-n.toNat|_=>0,⟨0,_,A,Nat.zero_le _, .inl ⟨A,A⟩,aBY,a5⟩,?_⟩
  rintro _ z ⟨m,a,rfl,hm,G,bu,S⟩
  have a8:dG z (.m E<|L w.ac)=sl cb (tb (λe=>Q<|(e:Int)∈exL (m8 w) p (L<|m8 w))<|L w.ac):=by
   have:=(show lI z 4 1 (.m E<|L<|(tb (λe=>Q<|(e:Int)∈exL (m8 w) p (L<|m8 w))<|L w.ac).map cb) _ from .inr ⟨E,A,S.bI⟩).p.ar
   grind [buW,sl]
  have a9:dG z (.m K<|L w.ac)=sl cb (tb (λe=>Q<|(e:Int)∈B.take m)<|L w.ac):=by
   have:=(show lI z 4 1 (.m K<|L<|(tb (λe=>Q<|(e:Int)∈B.take m)<|L w.ac).map cb) _ from .inr ⟨K,A,S.bT⟩).p.ar
   grind [buW,sl]
  have bq:=aQ m
  simp only[qz 187,au,eS,S.b5,S.b3,S.b4,k1,kC,jM,kU,jt,a8,a9,ar,bur,buW,aR,↓uL]
  simp only[bq]
  refine⟨Z,?_⟩
  obtain C|hge:=Nat.lt_or_ge m<|L B
  ·rw[zg C]
   have P:=a1 _<|dB C
   have af:(gd B m).toNat<L w.ac:=by have:=P.1;have:=P.2;omega
   have ap:(((gd B m).toNat:Nat):Int)=gd B m:=by have:=P.1;omega
   refine⟨X,λ_=>?_⟩
   refine ixN S.bT bto P ?_
   refine bxT S.bT bto λy F R=>?_
   have bC:B.take (m+1)=B.take m++[gd B m]:=by rw[iJ C,aNV C]
   rw[bvU (g:=λe=>Q<|(e:Int)∈B.take (m+1)) X] at R
   have T:=S.wT F R
   have Gy:=G.fx F (λk hk e=>by simp at e;have:=bu k hk;subst e;omega)
   have br:brG q (tb (λe=>Q<|(e:Int)∈exL (m8 w) p (L<|m8 w))<|L w.ac) (tb (λe=>Q<|(e:Int)∈B.take m)<|L w.ac) (L q)=gd B m:=vB
   simp only[qz 26,qy 28,au,eT,T.b3,ix,br,↓uL]
   refine⟨P,?_⟩
   refine ixN T.bW bto P ?_
   simp only[ldM T.bW (show(gd B m).toNat<_ by rwa [buW]),buV af,aY,↓uL]
   have bm:∀{u v:Int},bM bjw bqW [(0,iv u),(1,iv v)]=V (.a<|ot.c ⟨u,v⟩):=λ{u v}=>A
   have bn:∀{c:ot},aX bjw 1 y [(0, .a c.c)]=V (.l [ot.c c] U U,y):=λ{c}=>ua A rfl rfl H (by simp[ot.c,eN]) H
   simp only[bm,bn,aY,bQ,↓uL]
   have bp:(ot.mk (gd w.ac (gd B m).toNat).aq<|brN w (m8 w) p (L<|m8 w) ((gd B m).toNat:Nat))=bsr w (m8 w) p (gd B m):=X
   rw[bp]
   refine apQ Gy T.hl bnn bvH O NA λa' y2 g2 F2 P2=>?_
   have bB:((B.take m).map<|bsr w (m8 w) p).map ot.c++[ot.c<|bsr w (m8 w) p<|gd B m]=((B.take<|m+1).map<|bsr w (m8 w) p).map ot.c:=by rw[bC];simp
   rw[bB] at g2
   simp only[qz 30,au,eQ,↓uL]
   refine dT (by simp[eL,lb,List.flatMap_cons,aTn,bc7,a6H,bc6,bna,bxl]) ?_
   have cn:fS y2 a'=V (iv ((m+1:Nat):Int)):=by rw[g2.p.ln];simp;omega
   refine⟨⟨m+1,a',A,C,g2.p,λk hk=>?_,T.fx F2 X⟩,?_⟩
   ·grind
   ·have co:fS z a=V (iv (m:Int)):=by rw[G.ln];simp;omega
    grind [bh]
  ·rw[za Z]
   refine⟨λ_=>?_,λh=>by simp at h⟩
   have a7:dG z a=sl ot.c (btw w p q):=by rw[G.ar,a2,oB Z];rfl
   have r6:aN (V 6) g.c=V (.a g.c):=A
   have arg:∀{s:ae},dG s (.a g.c)= .a g.c:=A
   have bA:L (btw w p q)<1000000:=X
   simp only[r15,r6,aY,a7,arg,mj,bur,hW,hv,hg,bs,bA,eQ,↓uL]
   rcases bD:biu w g (btw w p q) with _|_
   ·refine⟨λ_=>?_,λh=>by simp at h⟩
    rw[bsE,za vB]
    exact⟨A,U,A⟩
   ·refine⟨λh=>by simp at h,λ_=>?_⟩
    rw[bsE,zg ⟨aw,aR,bD⟩]
    refine bxJ G λt=>⟨t,?_⟩
    grind
 ·simp only[h1,↓jN,a5C,aY,↓iC,eQ,uO,aRa,↓uL]
  grind
def bwW:FT:=ER bwo
def by9:=axQ bwW bwo (j:=by simp+contextual only[lT,bzp])
def bxz:∀{n:Nat} {l:eu},l.Nodup->(∀x∈l,0<=x/\x<n)->L l<=n
 |0,l,_,h=>by
  cases l with
  |nil=>simp
  |cons x l=>have:=h x O;omega
 |n+1,l,a,h=>by
  have b:=bxz (n:=n) (l:=l.erase n) (a.erase _) X
  grind
def bzH{Y a c e p q l}(G:lI Y 3 1 a<|l.map ci)(s:box Y c=V ⟨e,2,U,U,[[sl cb p,sl ci q]]⟩)(n:∀x∈l,aF (L q) x)(u:L l<=12)(r:L Y=4096):∃d i,(d= .t []/\lI i 3 1 a ((bjz (ltK q) [] l).map ci)/\Fx Y i (aA a))/\cZ Tryz.prog GG 38 [a, .f 39 [] [.p c 0 0]] Y d i:=by obtain⟨z,rfl⟩|⟨b,rfl,o⟩:=G;have j:l=[]:=(by simpa using z);subst j;obtain⟨d,i,⟨rfl,rfl⟩,h⟩:=bxp (a:= .l [] U U) (f:= .f 39 [] [.p c 0 0]) A r;exact⟨_,_,⟨A, .inl ⟨A,A⟩,Fx.refl _ _⟩,h⟩;obtain j|j:=Nat.eq_zero_or_pos<|L l;have k:l=[]:=vB;subst k;obtain⟨d,i,⟨rfl,rfl⟩,h⟩:=bxp (a:= .m b 0) (f:= .f 39 [] [.p c 0 0]) (by simp[fS,o]) r;exact⟨_,_,⟨A, .inr ⟨b,A,o⟩,Fx.refl _ _⟩,h⟩;have hs:L (bjz (ltK q) [] l)=L l:=(by rw[bvy];simp);obtain⟨d,i,⟨rfl,k,F⟩,h⟩:=bzI o s n u j r;rw[bJ];exact⟨_,_,⟨A, .inr ⟨b,by rw[bJ,hs],k⟩,F⟩,h⟩
def bzM{w out ds}(h:Lk ds (vZ w out).c):∃x y,ds=[iv<|L w.ac,iv<|L<|m8 w,x,y]:=by obtain⟨i,_⟩:=h;simp only[vZ,br6.c] at i;have j:L ds=4:=(by have:=bss L i;grind);match ds,j,i with|[a,b,c,d],_,i=>simp only[ji,mU,kO,aRI] at i;obtain⟨k,l,_,_⟩:=i;have m:∀{x:AV} {n:Int},gK x=iv n->x=iv n:=λ{x n} e=>(by cases x<;>simp[gK] at e<;>simp[e]);grind
def wkM(w:am)(ns:List aH8)(p:List Bool)(k:Nat)(e:Int):Option Int:=(wkF ns p k e).map λi=>bta w (gd ns i).b
def bAv{w ns p k e}:wkM w ns p (k+1) e=if wkI ns p e k=U/\wkM w ns p k e=J then V (bta w (gd ns k).b) else wkM w ns p k e:=by grind [wkM,byh]
def bAs{w ns p k e}:brN w ns p k e=if(gd w.ac e.toNat).kind=18 then(wkM w ns p k e).getD (-1) else-1:=by grind [brN,wkM]
structure WS(x:ae)(w:am)(g:cJ)(p:List Bool)(q:eu)(v:Nat)(f:Int->Option Int):Prop where
 hl:L x=4096
 b3:box x (3,1)=V ⟨45,15,U,U,[w.c]⟩
 b4:box x (4,1)=V ⟨48,6,U,U,[g.c]⟩
 b5:box x (5,1)=V ⟨53,2,U,U,[[sl cb p,sl ci q]]⟩
 mp:MI x (47,v) f
section
variable{x y:ae}{w:am}{g:cJ}{p:List Bool}{q:eu}{v:Nat}{f f':Int->Option Int}
theorem WS.fx{Lw}(S:WS x w g p q v f)(F:Fx x y Lw)(b:∀k∈Lw,k.1=12\/k.1=18\/k.1=70\/k.1=127):WS y w g p q v f:=by have a:∀{k:Id},k.1≠12/\k.1≠18/\k.1≠70/\k.1≠127->k∉Lw:=X;exact⟨F.len.trans S.hl,F.keep _ _ (a O) S.b3,F.keep _ _ (a O) S.b4,F.keep _ _ (a O) S.b5,S.mp.fx F<|a O⟩
def WS.wM(S:WS x w g p q v f)(F:Fx x y [(47,v)])(M:MI y (47,v) f'):WS y w g p q v f':=⟨F.len.trans S.hl,F.kq S.b3,F.kq S.b4,F.kq S.b5,M⟩
end
def bxq(w)(g)(p)(q)(hp:bcV w=U/\hU w/\qC w g=U/\L g.cW<1000/\L w.ac<=12):Ct 9 [.a w.c, .a g.c, .a [sl cb p,sl ci q]] (λr=>∃t,r= .t [.l ((bsE w g p q).1.map ot.c) t U,bv (bsE w g p q).2]):=by obtain⟨W,hf,hg,b1,bS⟩:=hp;have j:=vw hf W;have N:=bxB j.wv.ok.ev j.wv.ts j.th;have hW:=bnz hf W;have bb:=vd hf W;have b2:=j.ln;refine bAn A rfl rfl λs6 P E b4 b5 h0=>?_;have r15:aN (V 15) w.c=V (.a w.c):=A;have r6:aN (V 6) g.c=V (.a g.c):=A;have arg:∀{s:ae},dG s (.a g.c)= .a g.c:=A;have k1:∀{x:dM} {y:AV},aN J (y::x)=V y:=λ{x y}=>(by cases y<;>rfl);have kC:∀{a b:AV},[a,b].drop 1=[b]:=A;simp only[bw3,qy 8,hH,E,b4,b5,r15,r6,arg,bur,W,hf,hg,bb,↓jA,qE,a7i,↓iB,↓uL];rintro _ ⟨ds,rfl,hL⟩;obtain⟨u,v,rfl⟩:=bzM hL;refine⟨.inl A,?_⟩;refine anu P λv8 s7 F7 N7 b8=>?_;have bn:=F7.len.trans P;have d3:=F7.kq E;have d4:=F7.kq b4;have d5:=F7.kq b5;have bV:¬(L p=L (m8 w)/\L q=L w.ac)->∀{s:ae},aE (λr=>∃t,r=AV.t [.l ((bsE w g p q).1.map ot.c) t U,bv (bsE w g p q).2]) s [AV.l [] U U,bv I]:=λh {s}=>(by rw[bsE,za Z];exact⟨A,U,A⟩);have kD:∀{a b c d:AV},[a,b,c,d].drop 1=[b,c,d]:=A;simp only[qz 10,eT,d5,b8,k1,kC,kD,↓uL];rcases h1:Q ((L p:Int)≠(L (m8 w):Int)) with _|_;have ap:L p=L (m8 w):=X;simp only[h1,↓jA,qE,d5,b8,kC,kD,k1,aY,eT,a7i,↓uL];refine⟨X,λh2=>?_⟩;have aD:L q=L w.ac:=X;refine bzR (kv:=kI) (vv:=kI) Z λD s8 F8 N8 M8=>?_;have S8:WS s8 w g p q D (λ_=>J):=⟨F8.len.trans bn,F8.kq d3,F8.kq d4,F8.kq d5,M8⟩;simp only[qz 12,hH,S8.b3,r15,bur,W,hf,↓uL];intro t;refine⟨.inl A,?_⟩;have S9:WS s8 w g p q D (wkM w (m8 w) p 0):=S8;refine yW (L<|m8 w) (λk a x=>WS x w g p q D (wkM w (m8 w) p k)/\lI x 3 1 a ((exL (m8 w) p k).map ci)/\∀b∈aA a,b.1=70) (s0:= .l [] U U) ⟨S9, .inl ⟨A,A⟩,aBY⟩ ?_;rintro k a x hk ⟨S,G,ia⟩;simp only[qz 73,au,gt1,eQ,↓uL];constructor<;>intro h;have n:=aL h;refine bsf (λi=>∀a' C,WS C w g p q D (wkM w (m8 w) p<|k+1)->lI C 3 1 a' ((exL (m8 w) p<|k+1).map ci)->(∀b∈aA a',b.1=70)->i [a'] C) ?_ λi hJ=>?_;intro a' C S' G' bs;simp only[qz 93,au,gt1,eQ,↓uL];exact yX n ⟨S',G',bs⟩;have r3:∀{x:aH8},aN (V 3) x.c=V (.a x.c):=λ{x}=>A;simp only[qz 95,qy 14,au,gt1,eQ,lX,aC6,r3,aY,bh,↓uL];refine⟨dJ n,?_⟩;refine anu S.hl λvx z1 R N1 bx=>?_;have z:=S.fx R O;have G1:=G.fx R O;have aQ:=N.ex k n;have am:=N.wk k n;have K:=bxe (ns:=m8 w) (p:=p) (k:=k);have an:=λe=>bAv (w:=w) (ns:=m8 w) (p:=p) (k:=k) (e:=e);simp only[exI,wkI] at K an;obtain⟨Xq,br⟩:∃Xq,gd (m8 w) k=Xq:=⟨_,A⟩;simp only[br] at bx aQ am K an;simp only[qz 16,qy 18,qy 20,qy 22,au,gt1,fD,z.b5,k1,kC,bh,bx,↓uL];refine⟨dJ Z,?_⟩;have bW:∀b:Bool,Q (Xq.kind=2)=b->gd p k=U->exL (m8 w) p (k+1)=exL (m8 w) p k++if b=U then[Xq.a] else[]:=λb h hp=>(by rw[K,hp,h];rfl);refine⟨λh2=>hJ a z1 ?_ ?_ ia,λh2=>?_⟩;have aC:gd p k=I:=X;have e2:wkM w (m8 w) p (k+1)=wkM w (m8 w) p k:=X;grind;have aC:gd p k=I:=(by simpa using h2);rw[K,aC];simpa using G1;have ap:gd p k=U:=X;simp only[ap,iw] at K an;refine⟨λh3=>?_,λh3=>⟨λh4=>?_,λh4=>?_⟩⟩;have bX:=aNQ h3;have e2:wkM w (m8 w) p (k+1)=wkM w (m8 w) p k:=X;have b9:L (exL (m8 w) p k)<=k:=(by grind [exL]);simp only[a5Y,bQ];refine apQ G1.p z.hl O O O NA λa' y2 g2 F2 P2=>?_;grind [WS.fx];obtain⟨ha,bd,az,b0⟩:=am<|aNQ h4;have e1:exL (m8 w) p (k+1)=exL (m8 w) p k:=X;have h5:=aNQ h4;have bm: -1000<=Xq.b/\(0<=Xq.b->aF (L w.ac) Xq.b):=⟨bd,az⟩;rcases B:wkM w (m8 w) p k Xq.a with _|u;simp only[z.mp.lu.2,B,aY,oJ,pG,fQ,Option.isSome_none,z.b3,r15,bur,bm,mb,Bool.true_eq_false,↓uL];refine⟨az,z.mp.mu λy F M=>?_⟩;have S2:=z.wM F M;have G2:=G1.fx F (λb T e=>by simp at e;have:=ia b T;subst e;simp at this);have e2:bwF (wkM w (m8 w) p k) Xq.a (bta w Xq.b)=wkM w (m8 w) p (k+1):=(by grind [bwF]);rw[e2] at S2;refine hJ a y S2 ?_ ia;rw[e1];exact G2;simp only[z.mp.lu.2,B,aY,oJ,pG,eQ,Option.isSome_some,eE,im,↓uL];have e2:wkM w (m8 w) p (k+1)=wkM w (m8 w) p k:=X;grind;have e1:exL (m8 w) p (k+1)=exL (m8 w) p k:=X;have e2:wkM w (m8 w) p (k+1)=wkM w (m8 w) p k:=X;grind;obtain rfl:k=L (m8 w):=X;have a8:=bxd (p:=p) N<|dA _;have a9:∀x∈exL (m8 w) p (L<|m8 w),aF (L q) x:=λx hx=>(by rw[aD];exact bwd N (dA _) x hx);have ba:L (exL (m8 w) p<|L<|m8 w)<=12:=(aYF<|bxz a8<|bwd N<|dA _);refine jH A (bzH G S.b5 a9 ba S.hl) ?_;rintro r y ⟨rfl,G',F⟩;refine⟨F.len,?_⟩;have S':=S.fx F λb T=> .inr<|.inr<|.inl<|ia b T;change lI y 3 1 a ((bsw (m8 w) p q).map ci) at G';have aR:∀x∈bsw (m8 w) p q,aF (L w.ac) x:=(by grind [bxE]);have aU:btw w p q=(bsw (m8 w) p q).map (bsr w (m8 w) p):=A;have b6:L (bsw (m8 w) p q)<=12:=(by grind [bsw,bvy]);generalize bsw (m8 w) p q=m at*;have aZ:fS y a=V (iv<|L m):=(by rw[G'.p.ln,bJ]);simp only[qz 24,au,eQ,aZ,↓uL];refine yW (L m) (λk o x=>WS x w g p q D (wkM w (m8 w) p<|L<|m8 w)/\lI x 3 1 a (m.map ci)/\J7 x 113 2 o (((m.take k).map<|bsr w (m8 w) p).map ot.c)/\∀b∈aA o,b.1=127) (s0:= .l [] U U) ⟨S',G', .inl ⟨A,A⟩,aBY⟩ ?_;rintro k o x hk ⟨S,G,Oq,io⟩;simp only[qz 169,qy 26,au,gt1,eQ,↓uL];constructor<;>intro h;have n:=aL h;have hx:=aR _<|dB n;have bY:(gd m k).toNat<L w.ac:=(be7 hx.1 hx.2);refine ixI G bt2 λb T bg=>?_;rw[bh];simp only[ldM bg n,aY,S.b3,fD,↓uL];refine⟨hx,?_⟩;have be:∀{u v:Int},bM bjw bqW [(0,iv u),(1,iv v)]=V (.a<|ot.c ⟨u,v⟩):=λ{u v}=>A;simp only[be,aY,↓uL];refine anu S.hl λvc z1 R N1 bc=>?_;have z:=S.fx R O;have G1:=G.fx R O;have O1:=Oq.fx R O;simp only[qz 28,↓uL];refine bpF (λi=>∀C,WS C w g p q D (wkM w (m8 w) p<|L<|m8 w)->lI C 3 1 a (m.map ci)->J7 C 113 2 o (((m.take k).map<|bsr w (m8 w) p).map ot.c)->box C (18,vc)=V ⟨113,2,U,U,[ot.c<|bsr w (m8 w) p<|gd m k]⟩->i [] C) ?_ λi hJ=>?_;intro z2 S2 G2 O2 ah;have bA:∀{c:ot},aN (V 2) c.c=V (.a c.c):=λ{c}=>A;have bf:∀{c:ot},aX bjw 1 z2 [(0, .a c.c)]=V (.l [ot.c c] U U,z2):=λ{c}=>ua A rfl rfl H (by simp[ot.c,eN]) H;have b7:m.take (k+1)=m.take k++[gd m k]:=(by rw[iJ n,aNV n]);have bp:((m.take k).map<|bsr w (m8 w) p).map ot.c++[ot.c<|bsr w (m8 w) p<|gd m k]=((m.take<|k+1).map<|bsr w (m8 w) p).map ot.c:=X;simp only[qz 207,qy 32,au,gt1,eS,ah,bA,bf,List.drop_zero,aY,bQ,↓uL];refine apQ O2 S2.hl bnn bvH O NA λo' y2 g2 F2 P2=>?_;rw[bp] at g2;simp only[qz 34,au,gt1,eQ,↓uL];refine yX n (by grind [WS.fx,lI.fx,lI.p]);have bj:bsr w (m8 w) p (gd m k)=⟨(gd w.ac (gd m k).toNat).aq,if(gd w.ac (gd m k).toNat).kind=18 then(wkM w (m8 w) p (L<|m8 w)<|gd m k).getD (-1) else-1⟩:=(by rw[bsr,bAs]);rcases B:wkM w (m8 w) p (L<|m8 w) (gd m k) with _|u;simp only[qz 209,qy 30,au,eQ,z.mp.lu.2,B,aY,oJ,pG,Option.isSome_none,↓jN,a7i,eE,im,↓uL];grind;have aB:=hx;rcases al:Q ((gd w.ac (gd m k).toNat).kind=18) with _|_;simp only[qz 209,qy 30,au,fD,z.mp.lu.2,B,aY,oJ,pG,Option.isSome_some,↓jA,qE,z.b3,aB,al,a5C,eE,im,↓uL];grind;simp only[qz 209,qy 30,au,fD,z.mp.lu.2,B,aY,oJ,pG,Option.isSome_some,↓jA,qE,z.b3,aB,al,a5C,aQl,Cq,↓uL];refine⟨?_,λh=>by cases h⟩;simp only[bc,df,aY,Option.getD_some,↓uL];refine A0 bc A bvH λz2 F2 ah=>?_;refine hJ z2 (z.fx F2 O) (G1.fx F2 λb T e=>?_) (O1.fx F2 λb T e=>?_) ?_;grind;grind;rw[ah,bj,B,zg<|aNQ al];rfl;have bl:=dge h;have a1:dG x o=sl ot.c (btw w p q):=(by rw[Oq.ar,aU,oB bl];rfl);have bo:L (btw w p q)<1000000:=X;simp only[S.b3,S.b4,r15,r6,aY,a1,arg,jM,kU,jt,hH,bur,hW,W,hg,bo,↓uL];rcases bq:biu w g (btw w p q) with _|_;refine⟨λ_=>?_,λh=>by simp at h⟩;rw[bsE,za X];exact⟨A,U,A⟩;refine⟨λh=>by simp at h,λ_=>?_⟩;rw[bsE,zg ⟨ap,aD,bq⟩];refine bxJ Oq λt=>⟨t,?_⟩;grind;simp only[h1,↓jN,a5C,aY,↓iC,pt,aRa,↓uL];grind
def byC:FT:=ER bxq
def bzP:=axQ byC bxq (j:=by simp+contextual only[lT,bzp])
def bwC:dO:=(10,bwW)::(9,byC)::bvT
def bxZ:eJ bwC:=asq (aM6 bwo)<|asq (aM6 bxq)<|bwA
def bzh:=ai @by9<|ai @bzP<|@bur
def boQ a a1 b R:=(.mk _:NR bwC ato Tryz.f12 [.u,a1] [a] b R).p
def br0{c0:dM}{a1:AV}{R:J3}(l0:L c0=15)(h:H1 45 15 2 c0 λia b=>boQ ia a1 b R):Ct 12 [.a c0,a1] R:=z1 ato bxZ Tryz.func12 l0 h
def aN6{α:Type}(f:α->α->Bool):List α->List α->Bool|[],[]=>U|a::l,b::m=>f a b&&aN6 f l m|_,_=>I
theorem aOC{α f}(c:∀a b,f a b=U->a=b):∀{l m:List α},aN6 f l m=U->l=m
 |[],[],_=>rfl
 |a::l,b::m,h=>by
  simp only[aN6,bN] at h
  rw[c a b h.1,aOC c h.2]
 |[],_::_,h=>by cases h
 |_::_,[],h=>by cases h
def xqV:Nat->Value->Value->Bool
 |0,_,_=>I
 |n+1,x,y=>
  match x,y with
  | .int k a, .int c b=>Q (k=c)&&Q (a=b)
  | .bool a, .bool b=>a==b
  | .string a, .string b=>Q<|a.data.toList=b.data.toList
  | .agg a, .agg b=>aN6 (xqV n) a.toList b.toList
  | .pointer none, .pointer none=>U
  | .nilFunc, .nilFunc=>U
  | .nilIface, .nilIface=>U
  | .map none, .map none=>U
  |_,_=>I
theorem bhK:∀{n a b},xqV n a b=U->a=b:=by intro n;induction n with|zero=>intro a b h;cases h|succ n c=>intro a b h;simp only[xqV] at h;(split at h<;>first|rfl|(cases h;done)|skip);simp_all;simp_all;rename_i a b;have h:=aNQ h;obtain⟨⟨a⟩⟩:=a;simp_all;rename_i a b;have h:=aOC (λa b=>c) h;simp_all
def xqA:Nat->AV->AV->Bool
 |0,_,_=>I
 |n+1,x,y=>
  match x,y with
  | .s v, .s w=>xqV 4 v w
  | .u, .u=>U
  | .l r t o, .l E F o'=>(t==F&&o==o')&&aN6 (aN6<|xqA n) r E
  | .a c, .a e=>aN6 (xqA n) c e
  | .t c, .t e=>aN6 (xqA n) c e
  | .q c, .q e=>aN6 (xqA n) c e
  | .p b i j, .p h z B=>Q<|b=h/\i=z/\j=B
  | .m b i, .m h z=>Q<|b=h/\i=z
  | .g k b i j, .g C h z B=>Q<|k=C/\b=h/\i=z/\j=B
  | .f k c d, .f C e D=>Q (k=C)&&(aN6 (xqA n) c e&&aN6 (xqA n) d D)
  |_,_=>I
def aYn:∀{n a b},xqA n a b=U->a=b:=by intro n;induction n with|zero=>intro a b h;cases h|succ n c=>intro a b h;simp only[xqA] at h;grind [bhK,aOC]
def eqB(x y:bY):Bool:=Q (x.elem=y.elem/\x.size=y.size/\x.own=y.own/\x.var=y.var)&&aN6 (aN6<|xqA 9) x.bA y.bA
theorem bbh{x y}(h:eqB x y=U):x=y:=by unfold eqB at h;rw[bN] at h;obtain⟨c,d,e,f⟩:=aNQ h.1;have g:=aOC (λa b=>aOC<|λa b=>aYn) h.2;cases x;simp_all
def kpS(a b:vG):Bool:=Nat.ble a.ver b.ver&&(aH<|a.ver+1).all λv=>match a.val v with|none=>U|some x=>match b.val v with|some y=>eqB x y|none=>I
def kpB:ae->ae->Bool:=eqLs' kpS
where eqLs' (f:vG->vG->Bool):ae->ae->Bool
 |[],[]=>U
 |a::l,b::m=>f a b&&eqLs' f l m
 |_,_=>I
def a6R:∀{Y Y'},kpB Y Y'=U->L Y'=L Y/\∀k,kpS (aZ Y k) (aZ Y' k)=U
 |[],[],_=>⟨A,λk=>by simp only[aZ,List.getD_nil];rfl⟩
 |a::l,b::m,h=>by
  have h:(kpS a b&&kpB.eqLs' kpS l m)=U:=h
  rw[bN] at h
  have c:=a6R (Y:=l) (Y':=m) h.2
  refine⟨by simp[c.1],λk=>?_⟩
  cases k with
  |zero=>exact h.1
  |succ k=>exact c.2 k
 |[],_::_,h=>by cases h
 |_::_,[],h=>by cases h
theorem bdG{Y Y'}(h:kpB Y Y'=U):Kp Y Y':=by obtain⟨a,c⟩:=a6R h;refine⟨a,λk=>?_,λb x d=>?_⟩;simp_all [kpS];have h:=c b.1;unfold kpS at h;grind [box,Nat.le_trans,Nat.le_of_ble_eq_true,bbh]
section
variable(P:Program)(G:Env)
abbrev aPc:=FuncId->dM->ae->Nat->Option (AV×ae)
abbrev aQb:=Code->dM->ae->Option (Exit×dM×ae)
def aWf(a:aPc)(b:dM)(Y:ae)(o:Oper):Option (AV×ae):=
 match dz P (du G b) Y o.op with
 |some av=>V (av,Y)
 |none=>
  match eA P (du G b) Y (o.dst.getD 0) o.op with
  |some p=>V p
  |none=>
   match o.op with
   | .call c=>
    match c.callee with
    | .value f=>
     match du G b f with
     | .f fn first cap=>a fn (first++c.args.toList.map (du G b)++cap) Y (o.dst.getD 0)
     |_=>J
    |_=>J
   |_=>J
def aS9(b:aPc)(ops:Array Oper)(a:dM)(Y:ae)(o:Oper):Option (dM×ae):=
 match rh ops a o with
 |some true=>match aWf P G b a Y o with|some p=>V (ge a o.dst p.1,p.2)|none=>J
 |some false=>V (ge a o.dst<|.t [],Y)
 |none=>J
def aRK(a:aPc)(ops:Array Oper):List Oper->dM->ae->Option (dM×ae)
 |[],b,Y=>V (b,Y)
 |o::l,b,Y=>match aS9 P G a ops b Y o with|some p=>aRK a ops l p.1 p.2|none=>J
def aS8(a:aPc)(ops:Array Oper):List Oper->List fY->dM->ae->Option (List fY×dM×ae)
 |[],acc,b,Y=>V (acc,b,Y)
 |o::l,acc,b,Y=>match aS9 P G a ops b Y o with|some p=>aS8 a ops l (acc++[lab P G ops b Y o]) p.1 p.2|none=>J
def aQ0:Exit->Bool| .normal| .ret=>U|_=>I
def a6k(Y:ae)(d:Nat)(c:ae)(r:AV):Option (AV×ae):=
 match r with
 | .l [] true true=>V (.l [] U U,Y)
 | .m b n=>match box c b with|some x=>if qA x=U then V (.m (lA Y d) n,put Y d x) else J|none=>J
 | .a cs=>if(wn cs).Nodup then(match gU c d Y cs with|some p=>V (.a p.1,p.2)|none=>J) else J
 |_=>J
abbrev aSo:=List<|FuncId×dM×AV
structure aPP where
 l:aSo
 cl:List (FuncId×TypeId×Nat)
def known(fn:FuncId)(ys:dM):aSo->Option AV|[]=>J|p::T=>bif aOU fn p.1&&aN6 (xqA 9) ys p.2.1 then V p.2.2 else known fn ys T
def aRG(fn:FuncId):List (FuncId×TypeId×Nat)->Option (TypeId×Nat)|[]=>J|p::T=>bif aOU fn p.1 then V p.2 else aRG fn T
def aWe(Y:ae)(d:Nat)(p:TypeId×Nat)(ys:dM):Option (AV×ae):=
 match ys with
 |[.l [] false false]=>V (.l [] U U,Y)
 |[.l (r::bA) false false]=>
  if((r::bA).all λr=>aOU (L r) p.2&&r.all gY)=U/\L (r::bA)<1000000 then V (.m (lA Y d)<|L (r::bA),put Y d ⟨p.1,p.2,U,I,r::bA⟩) else J
 |_=>J
def aRJ(T:aPP)(E:aQb):aPc:=λfn xs Y d=>
 match P.funcs[fn]? with
 |none=>J
 |some f=>
  match f.body with
  |none=>J
  |some c=>
   if(f.name== "runtime.NumGoroutine")=U then J
   else if G.nw fn=U then
    if(xs.map<|dG Y).all iX=U/\vg Y d=U then
     match aRG fn T.cl with
     |some p=>aWe Y d p<|xs.map<|dG Y
     |none=>
     match E c (start f<|xs.map<|dG Y) eK with
     |some (e,b,a)=>if aQ0 e=U then(match wG P f b a with|some r=>a6k Y d a r|none=>J) else J
     |none=>J
    else J
   else if G.imp fn=U then
    match E c (start f xs) Y with
    |some (e,b,a)=>
     if aQ0 e=U then
      match wG P f b a with
      |some r=>
       if L a=L Y then
        if G.rd fn=U then(if kpB Y (kills a<|aNN r)=U/\kG (eR a r)=U then V (eR a r,Y) else J)
        else V (r,a)
       else J
      |none=>J
     else J
    |none=>J
   else if(xs.map<|dG Y).all iX=U/\L (xs.map<|dG Y)<=f.ntmps then
    match known fn (xs.map<|dG Y) T.l with
    |some r=>if kG r=U/\(nA Y xs=I\/uN r=U) then V (r,Y) else J
    |none=>
    match E c (start f<|xs.map<|dG Y) (ly f) with
    |some (e,b,a)=>
     if aQ0 e=U then
      match bt8 P f b a with
      |some r=>if kG r=U/\(nA Y xs=I\/uN r=U) then V (r,Y) else J
      |none=>J
     else J
    |none=>J
   else J
def aRL(T:aPP)(E:aQb):aQb:=λc a Y=>
 match c with
 | .skip=>V (.normal,a,Y)
 | .label _=>V (.normal,a,Y)
 | .region _ ops false=>match aRK P G (aRJ P G T E) ops ops.toList a Y with|some p=>V (.normal,p.1,p.2)|none=>J
 | .region _ ops true=>
  if rG G ops.toList=U then match aRK P G (aRJ P G T E) ops ops.toList a Y with|some p=>V (.normal,p.1,p.2)|none=>J
  else match aS8 P G (aRJ P G T E) ops ops.toList [] a Y with|some p=>if xG ops p.1=U then V (.normal,p.2.1,p.2.2) else J|none=>J
 | .seq x y=>match E x a Y with|some (.normal,τ',Y')=>E y τ' Y'|r=>r
 | .cond c x y=>match du G a c with| .s (.bool t)=>if t=U then E x a Y else E y a Y|_=>J
 | .block b c=>match E c a Y with|some (.exit j,τ',Y')=>if j=b then V (.normal,τ',Y') else V (.exit j,τ',Y')|r=>r
 | .loop c=>match E c a Y with|some (.normal,τ',Y')=>E (.loop c) τ' Y'|r=>r
 | .exit b=>V (.exit b,a,Y)
 | .ret=>V (.ret,a,Y)
 |_=>J
def ev(T:aPP):Nat->aQb|0=>λ_ _ _=>J|n+1=>aRL P G T<|ev T n
end
section
variable{P:Program}{G:Env}
def Xcl(P:Program)(G:Env)(fn:FuncId)(xs:dM)(Y:ae)(d:Nat)(K:be):Prop:=
 if G.nw fn=U then tS P G fn xs Y d K else if G.imp fn=U then tR P G fn xs Y d K else Kh P G fn xs Y λr=>K r Y
def aRe(P:Program)(G:Env)(a:aPc):Prop:=∀fn xs Y d r Y',a fn xs Y d=V (r,Y')->∀K:be,K r Y'->Xcl P G fn xs Y d K
def aUx(P:Program)(G:Env)(E:aQb):Prop:=∀c a Y e τ' Y',E c a Y=V (e,τ',Y')->∀Q:QX,Q e τ' Y'->Xq P G c Q a Y
theorem bbm{a}(g:aRe P G a){b Y Y' o r}(h:aWf P G a b Y o=V (r,Y')){K}(d:K r Y'):j0 P G b Y o K:=by unfold aWf at h;unfold j0;split at h;simp_all;rename_i l;rw[l];simp only;split at h;simp_all;rename_i i;rw[i];simp only;split at h;rename_i c k;rw[k];simp only;split at h;rename_i f j;rw[j];simp only;split at h;rename_i fn first cap e;rw[e];exact g _ _ _ _ _ _ h K d;(cases h);(cases h);cases h
theorem a6l{a}(d:aRe P G a){ops b τ' Y Y' o}(h:aS9 P G a ops b Y o=V (τ',Y')){K}(c:K τ' Y'):kS P G ops o K b Y:=by grind [aS9,kS,bbm]
theorem a6m{a}(d:aRe P G a){ops K}:∀{l b τ' Y Y'},aRK P G a ops l b Y=V (τ',Y')->K τ' Y'->rE P G ops l K b Y:=by intro l;induction l with|nil=>intro b τ' Y Y' h c;cases h;exact c|cons o l f=>intro b τ' Y Y' h c;simp only[aRK] at h;split at h;rename_i p e;exact a6l d (τ':=p.1) (Y':=p.2) e<|f h c;cases h
theorem bbk{a}(d:aRe P G a){ops K}:∀{l acc ls b τ' Y Y'},aS8 P G a ops l acc b Y=V (ls,τ',Y')->K ls τ' Y'->qq P G ops l acc K b Y:=by intro l;induction l with|nil=>intro acc ls b τ' Y Y' h c;cases h;exact c|cons o l f=>intro acc ls b τ' Y Y' h c;simp only[aS8] at h;split at h;rename_i p e;exact a6l d (τ':=p.1) (Y':=p.2) e<|f h c;cases h
def aWD{e}(h:aQ0 e=U):e= .normal\/e= .ret:=by cases e<;>first|exact .inl A|exact .inr A|cases h
theorem a6j(o:tQ P){E}(j:aUx P G E){fn f c}(n:P.funcs[fn]?=V f)(l:f.body=V c)(p:¬(f.name== "runtime.NumGoroutine")=U){xs g Y d e r}(h:E c (start f xs) Y=V (e,g,d))(m:aQ0 e=U)(i:wG P f g d=V r):cZ P G fn xs Y r d:=by obtain⟨q,Y',⟨rfl,rfl⟩,k⟩:=aBf (R:=λa b=>a=r/\b=d) o n l X (j _ _ _ _ _ _ h (QB P f λa b=>a=r/\b=d) (by obtain rfl|rfl:=aWD m<;>exact⟨r,i,A,A⟩));exact k
def aYw(P:Program)(G:Env)(T:aSo):Prop:=∀p∈T,btY P G p.1 p.2.1 (·=p.2.2)
def a78(P:Program)(G:Env)(T:List<|FuncId×TypeId×Nat):Prop:=∀p∈T,∀bA:List (dM),(∀r∈bA,L r=p.2.2)->L bA<1000000->∃r a,cZ P G p.1 [.l bA I I] eK r a/\(bA=[]->r= .l [] U U)/\(bA≠[]->∃b,r= .m b (L bA)/\box a b=V ⟨p.2.1,p.2.2,U,I,bA⟩)
structure aSn(P:Program)(G:Env)(T:aPP):Prop where
 fp:∀fn,G.fp fn=J
 l:aYw P G T.l
 cl:a78 P G T.cl
def a6Q{fn ys r}:∀{T},aYw P G T->known fn ys T=V r->btY P G fn ys (·=r)
 |[],_,h=>by cases h
 |p::T,d,h=>by
  simp only[known] at h
  cases c:(aOU fn p.1&&aN6 (xqA 9) ys p.2.1) with
  |true=>
   rw[c] at h
   rw[bN] at c
   have e:=Nat.eq_of_beq_eq_true c.1
   have f:=aOC (λa b=>aYn) c.2
   obtain rfl:=Option.some.inj h
   subst e f
   exact d p O
  |false=>
   rw[c] at h
   exact a6Q (λq g=>d q<|by simp[g]) h
theorem a6a{fn p}:∀{T},aRG fn T=V p->(fn,p)∈T
 |[],h=>by cases h
 |q::T,h=>by
  simp only[aRG] at h
  cases a:aOU fn q.1 with
  |true=>
   grind [Nat.eq_of_beq_eq_true]
  |false=>rw[a] at h;exact List.mem_cons_of_mem _<|a6a h
theorem bbj{T}(l:aSn P G T){fn p xs Y Y' d r}(o:aRG fn T.cl=V p)(i:(xs.map<|dG Y).all iX=U/\vg Y d=U)(h:aWe Y d p (xs.map<|dG Y)=V (r,Y')){K}(g:K r Y'):zI P G fn xs Y d K:=by have f:=l.cl _<|a6a o;refine⟨i.1,i.2,?_⟩;generalize xs.map (dG Y)=ys at*;unfold aWe at h;split at h;(cases h);obtain⟨r,a,c,j,_⟩:=f [] O H;exact⟨r,a,c, .inl ⟨j A,g⟩⟩;rename_i q bA;split at h;rename_i e;cases h;obtain⟨e,n⟩:=e;rw[List.all_eq_true] at e;obtain⟨r,a,c,_,k⟩:=f (q::bA) vB n;obtain⟨b,rfl,m⟩:=k O;refine⟨_,a,c, .inr ⟨b,_,_,A,m,?_,g⟩⟩;grind [qA];(cases h);cases h
theorem bbi(z:tQ P){T}(t:aSn P G T){E}(s:aUx P G E):aRe P G (aRJ P G T E):=by intro fn xs Y d r Y' h K k;unfold aRJ at h;unfold Xcl;split at h;(cases h);rename_i f v;split at h;(cases h);rename_i c u;split at h;(cases h);rename_i D;split at h;rename_i B;rw[zg B];split at h;rename_i a;split at h;rename_i p y;exact .inl<|bbj t y a h k;split at h;rename_i e M q o;split at h;rename_i m;split at h;rename_i C g;have j:=a6j z s v u D o m g;unfold a6k at h;split at h;(cases h);exact .inl ⟨a.1,a.2,_,_,j, .inl ⟨A,k⟩⟩;rename_i b n;split at h;rename_i x W;split at h;rename_i R;cases h;exact .inl ⟨a.1,a.2,_,_,j,X⟩;(cases h);(cases h);rename_i cs;split at h;rename_i F;split at h;rename_i p y;cases h;exact .inr<|.inr ⟨a.1,a.2,cs,q,p.1,p.2,j,F,y,k⟩;(cases h);(cases h);(cases h);(cases h);(cases h);(cases h);(cases h);rename_i B;rw[za B];split at h;rename_i w;rw[zg w];split at h;rename_i e M q o;split at h;rename_i m;split at h;rename_i C g;have j:=a6j z s v u D o m g;split at h;rename_i N;split at h;grind [tR,aPf,bdG];rename_i S;cases h;unfold tR aPf;rw[t.fp fn];exact⟨_,_,j,N,vB⟩;(cases h);(cases h);(cases h);(cases h);rename_i w;rw[za w];split at h;rename_i a;split at h;rename_i C g;split at h;rename_i i;cases h;exact⟨_,a6Q t.l g,a.1,i.1,i.2,k⟩;(cases h);split at h;rename_i e M q o;split at h;rename_i m;split at h;rename_i C g;split at h;rename_i i;cases h;refine⟨_,aBh z v u X a.2<|s _ _ _ _ _ _ o (QR P f (·=_)) ?_,a.1,i.1,i.2,k⟩;obtain rfl|rfl:=aWD m<;>exact⟨_,g,i.1,A⟩;(cases h);(cases h);(cases h);(cases h);cases h
theorem bdK{p:Nat->Prop}:∀{n},p n->∃m,p m/\∀k,p k->m<=k:=by intro n;induction n using Nat.strongRecOn with|_ n a=>grind
theorem bbl(K:tQ P){T}(E:aSn P G T):∀n,aUx P G (ev P G T n):=by intro n;induction n using Nat.strongRecOn with|_ n B=>cases n with|zero=>intro c b Y e τ' Y' h;cases h|succ n=>have g:=B n<|Nat.lt_succ_self n;have D:=bbi (G:=G) K E g;intro c b Y e τ' Y' h Q f;have R:=h;change aRL P G T (ev P G T n) c b Y=_ at h;unfold aRL at h;split at h;(cases h;exact f);(cases h;exact f);split at h;rename_i p F;cases h;exact a6m D F f;(cases h);show sF P G _ _ _ _;grind [sF,a6m,bbk];rename_i x y;show Xq P G x _ _ _;split at h;rename_i l u d;exact g _ _ _ _ _ _ d _<|g _ _ _ _ _ _ h _ f;rename_i q;refine g _ _ _ _ _ _ h _ ?_;(cases e<;>first|exact f|simp_all);rename_i cc x y;show(match du G b cc with| .s (.bool t)=>if t=U then Xq P G x Q b Y else Xq P G y Q b Y|_=>False);split at h;rename_i t S;split at h;rename_i d;rw[zg d];exact g _ _ _ _ _ _ h _ f;rename_i d;rw[za d];exact g _ _ _ _ _ _ h _ f;(cases h);rename_i M c;show Xq P G c _ _ _;split at h;rename_i j l u d;refine g _ _ _ _ _ _ d _ ?_;show(if j=M then Q .normal _ _ else Q (.exit j) _ _);grind;rename_i q;refine g _ _ _ _ _ _ h _ ?_;(cases e<;>first|exact f|simp_all);rename_i c;clear h;let r:dM->ae->Nat->Prop:=λb Y m=>ev P G T m (.loop c) b Y=V (e,τ',Y');let a:aG:=λb Y=>∃m,m<=n+1/\r b Y m;have i:∀b Y,∃m,a b Y->r b Y m/\(∀k,r b Y k->m<=k):=(by intro b Y;by_cases hI:a b Y;obtain⟨m,_,z⟩:=hI;obtain⟨k,d,v⟩:=bdK z;grind;simp_all);refine⟨a,λb Y=>Classical.choose<|i b Y,X,?_⟩;intro b Y hI;obtain⟨d,v⟩:=Classical.choose_spec (i b Y) hI;generalize z:Classical.choose (i b Y)=m at d v;have N:m<=n+1:=X;(cases m with|zero=>(cases d)|succ k=>have o:=B k Z;change aRL P G T (ev P G T k) (.loop c) b Y=_ at d;unfold aRL at d;simp only at d;split at d;rename_i l u C;refine o _ _ _ _ _ _ C _ ?_;have w:a l u:=⟨k,Z,d⟩;refine⟨w,?_⟩;grind;rename_i q;refine o _ _ _ _ _ _ d _ ?_;cases e<;>first|exact f|simp_all);(cases h;exact f);(cases h;exact f);cases h
end
end Go.Ab
