/- Part of the proof of WitnessRaw. -/
import Derived.Test.YtdgiigkneimbdaaGreatDoorF
set_option linter.all false
set_option maxRecDepth 100000
open And renaming intro->ai
open Bool renaming and_eq_true->bN,false->I,false_eq_true->eE,not_false->kN,not_true->fh,true->U,true_and->iw
open Decidable renaming decide->Q
open Go.IntKind renaming i64->dq
open Go.Proofs.Tryz renaming prog->aS
open Int renaming toNat_natCast->bh
open List renaming cons.injEq->kO,length->L,length_map->bJ,map_congr_left->ja,map_cons->ji,map_nil->mU,range->aH,take_of_length_le->oB,take_succ_eq_append_getElem->iJ
open Nat renaming beq->aOU,le_refl->dA,zero_add->aj
open Option renaming bind_some->a6X,map_some->df,none->J,some->V
namespace Go.Ab
open Go Go.RowKit Go.Proofs
section
variable{Y:ae}{lim:Int}
theorem bzF{a f}(hl:L Y=4096):∃d g,(d= .t []/\g=Y)/\cZ aS GG 98 [a,iv 0,iv 0,iv lim,f] Y d g:=byg hl<|by refine⟨λvs Y'=>vs=[iv 0,iv 0,iv lim,bv U,bv U]/\Y'=Y,λ_ _=>0,⟨A,A⟩,?_⟩;rintro vs Y' ⟨rfl,rfl⟩;have h:dq.wrap 0=0:=A;simp only[qz 6,qz 8,qz 111,qz 113,qz 87,qz 89,qz 63,qz 65,qz 13,qy 2,au,ck,eQ,Int.sub_zero,h,show Q ((0:Int)<=12)=U from A,↓iC,↓uL];refine jH A (bzC hl) ?_;grind [aRf,aoz]
variable{b c:Id}{e:TypeId}{p:List Bool}{q l:eu}(hb:box Y b=V ⟨3,1,U,I,l.map ci⟩)(hm:box Y c=V ⟨e,2,U,U,[[sl cb p,sl ci q]]⟩)(hall:∀x∈l,aF (L q) x)(hn:L l<=12)(h0:0<L l)(hl:L Y=4096)
include hb hm hall hn h0 hl
theorem bzG:∃a d,(a= .t []/\box d b=V ⟨3,1,U,I,(bjz (ltK q) [] l).map ci⟩/\Fx Y d [b])/\cZ aS GG 98 [.m b<|L l,iv 0,iv<|L l,iv lim, .f 39 [] [.p c 0 0]] Y a d:=byg hl<|by refine⟨λvs Y'=>vs=[iv 0,iv (L l:Nat),iv lim,bv U,bv U]/\Y'=Y,λ_ _=>0,⟨A,A⟩,?_⟩;rintro vs Y' ⟨rfl,rfl⟩;have g:Q (((L l:Nat):Int)<=12)=U:=NA;simp only[qz 6,qz 8,qz 111,qz 113,qz 87,qz 89,qz 63,qz 65,qz 13,qy 2,au,ck,eQ,Int.sub_zero,eM (x:=((L l:Nat):Int)) Z Z,g,↓iC,↓uL];refine jH A (bzD hb hm hall hn h0 hl) ?_;rintro a d ⟨rfl,i,h⟩;exact⟨h.len,bva⟩
end
def byc:dO:=byb
def bxY:eJ byc:=bxX
def bwi:=@bzg
def bye{a a1}:=yB bxY Tryz.func38 ava [a,a1]
def bxb{n:Nat}(h:n<=12):sO (V .u64) (iv (n:Int))=V (.s<|.int .u64 (n:Int)):=by show V (AV.s<|.int .u64<|IntKind.u64.wrap _)=_;grind [IntKind.wrap_u64]
section
variable{Y:ae}
theorem bxp{a f}(h:fS Y a=V (iv ((0:Nat):Int)))(hl:L Y=4096):∃d g,(d= .t []/\g=Y)/\cZ aS GG 38 [a,f] Y d g:=bye hl<|by simp only[qy 2,h,aY,bxb (show 0<=12 by omega),ar,bwi,jM,↓uL];refine⟨Z,?_⟩;rintro k ⟨i,rfl⟩;refine⟨.inl A,?_⟩;refine jH A (bzF hl) ?_;grind [aRf,aoz]
variable{b c:Id}{e:TypeId}{p:List Bool}{q l:eu}(hb:box Y b=V ⟨3,1,U,I,l.map ci⟩)(hm:box Y c=V ⟨e,2,U,U,[[sl cb p,sl ci q]]⟩)(hall:∀x∈l,aF (L q) x)(hn:L l<=12)(h0:0<L l)(hl:L Y=4096)
include hb hm hall hn h0 hl
theorem bzI:∃a d,(a= .t []/\box d b=V ⟨3,1,U,I,(bjz (ltK q) [] l).map ci⟩/\Fx Y d [b])/\cZ aS GG 38 [.m b<|L l, .f 39 [] [.p c 0 0]] Y a d:=bye hl<|by have g:fS Y (.m b<|L l)=V (iv ((L l:Nat):Int)):=(by simp[fS,hb]);simp only[qy 2,g,aY,bxb hn,ar,bwi,jM,↓uL];refine⟨Z,?_⟩;rintro k ⟨i,rfl⟩;refine⟨.inl A,?_⟩;refine jH A (bzG hb hm hall hn h0 hl) ?_;rintro a d ⟨rfl,j,h⟩;exact⟨h.len,bva⟩
end
def bvT:dO:=byc
def bwA:eJ bvT:=bxY
def bur:=@bwi
def bw6:=I9 40 [(10,([44],[3,4,5,8,10,11,12,43])),(17,([53],[3,4,5,10,11,12,51,52])),(20,([],[3,4,5,10,11,12,51,52,53])),(24,([],[3,4,5,10,11,12,15,51,52,53])),(31,([16],[3,4,5,10,11,12]))]
def bw2 c a b d R:=(.mk _:NR bvT bw6 Tryz.f10 [.u, .u, .u] [c,a,b] d R).p
def bAl{c0:dM}{b:dM}{c:dM}{R:J3}(l0:L c0=15)(l1:L b=6)(d:L c=2)(h:H3 45 15 3 c0 48 6 4 b 53 2 5 c λf g i e=>bw2 f g i e R):Ct 10 [.a c0, .a b, .a c] R:=z3 bw6 bwA Tryz.func10 l0 l1 d h
def bw7:=I9 41 [(12,([9,51],[3,4,5,10,49,50])),(15,([9],[3,4,5,10,49,50,51])),(28,([15,95],[3,4,10,93,94])),(34,([],[3,4,10,15,18,93,94,95]))]
def bw3 c a b d R:=(.mk _:NR bvT bw7 Tryz.f9 [.u, .u, .u] [c,a,b] d R).p
def bAn{c0:dM}{b:dM}{c:dM}{R:J3}(l0:L c0=15)(l1:L b=6)(d:L c=2)(h:H3 45 15 3 c0 48 6 4 b 53 2 5 c λf g i e=>bw3 f g i e R):Ct 9 [.a c0, .a b, .a c] R:=z3 bw7 bwA Tryz.func9 l0 l1 d h
def bwF(f:Int->Option Int)(k v:Int):Int->Option Int:=λx=>if x=k then V v else f x
section
variable{κ β:Type}[DecidableEq κ]
def btt(kv:κ->Value)(vv:β->Value)(l:List<|κ×β):List (Value×Value):=l.map λp=>(kv p.1,vv p.2)
def lkM(l:List<|κ×β)(k:κ):Option β:=(l.find? λp=>Q<|k=p.1).map (·.2)
theorem bus{p}{l:List (κ×β)}{k}:lkM (p::l) k=if k=p.1 then V p.2 else lkM l k:=by grind [lkM]
structure MKd(mt:MT)(kA:κ->AV)(kv:κ->Value):Prop where
 eq:∀x y,pO mt (kv x) (kv y)=V (Q<|x=y)
 kV:∀x,ww mt.st (kA x)=V (kv x)
 ok:∀x,qR mt (kv x)=U
 sb:∀x,Instr.sameBits 10000 (kv x) (kv x)=U
variable{mt:MT}{kA:κ->AV}{kv:κ->Value}{vv:β->Value}
theorem bwe(a:MKd mt kA kv){k}:∀{l j},(lkM l k=J/\lg mt (kv k) (btt kv vv l) j=V J)\/∃v i,lkM l k=V v/\lg mt (kv k) (btt kv vv l) j=V (V (j+i,vv v))/\(∃y,(btt kv vv l)[i]?=V (kv k,y))/\∀v' x,lkM (l.set i (k,v')) x=if x=k then V v' else lkM l x
 |[],j=> .inl ⟨A,A⟩
 |p::l,j=>by
  by_cases h:k=p.1
  ·refine .inr ⟨p.2,0,by rw[bus,hY h],by simp[btt,lg,a.eq,h],⟨vv p.2,by simp[btt,h]⟩,λv' x=>?_⟩
   grind [bus]
  ·rcases bwe a (k:=k) (l:=l) (j:=j+1) with⟨d,c⟩|⟨v,i,d,c,g,m⟩
   ·exact .inl ⟨by grind [bus],by simpa[btt,lg,a.eq,h] using c⟩
   ·refine .inr ⟨v,i+1,by grind [bus],?_,by grind [btt],λv' x=>?_⟩
    ·have e:j+(i+1)=j+1+i:=Z
     simpa[btt,lg,a.eq,h,e] using c
    grind [bus]
theorem bzL{l}{k x:κ}{v:β}(h:lkM l k=J):lkM (l++[(k,v)]) x=if x=k then V v else lkM l x:=by induction l with|nil=>simp[bus]|cons p l a=>grind [bus]
def MP(kv:κ->Value)(vv:β->Value)(Y:ae)(b:Id)(f:κ->Option β):Prop:=∃(t:TypeId) (l:List<|κ×β),box Y b=V ⟨t,0,U,U,[(btt kv vv l).map ent]⟩/\∀x,lkM l x=f x
variable{Y Y':ae}{b:Id}{f:κ->Option β}{o n:Nat}
theorem MP.fx{ks}(M:MP kv vv Y b f)(F:Fx Y Y' ks)(d:b∉ks):MP kv vv Y' b f:=by obtain⟨t,l,a,c⟩:=M;exact⟨t,l,F.keep _ _ d a,c⟩
def MP.lu(a:MKd mt kA kv)(M:MP kv vv Y b f){x}:oP mt Y (.g 0 b o n) (kA x) I=V (.s<|(f x).elim mt.zero vv)/\oP mt Y (.g 0 b o n) (kA x) U=V (.t [.s<|(f x).elim mt.zero vv,bv (f x).isSome]):=by
 obtain⟨t,l,e,h⟩:=M
 rw[<-h]
 rcases bwe (vv:=vv) a (k:=x) (l:=l) (j:=0) with⟨c,d⟩|⟨v,i,c,d,_⟩<;>
  simp only[oP,a.kV,e,a6X,ul,I6,aO1,KH,a.ok,d,c]<;>exact⟨A,A⟩
theorem MP.mu(a:MKd mt kA kv)(M:MP kv vv Y b f){x v K}(e:∀Y',Fx Y Y' [b]->MP kv vv Y' b (λy=>if y=x then V v else f y)->K Y'):sV (muA mt Y (.g 0 b o n) (kA x)<|.s<|vv v) K:=by obtain⟨t,l,c,h⟩:=M;rcases bwe (vv:=vv) a (k:=x) (l:=l) (j:=0) with⟨m,d⟩|⟨u,i,m,d,⟨y,p⟩,q⟩;simp only[muA,a.kV,c,ul,I6,aO1,KH,a.ok,d];refine e _ (wc c) ⟨t,l++[(x,v)],?_,by grind [bzL]⟩;rw[lO c];simp[btt];simp only[muA,a.kV,c,ul,I6,aO1,KH,a.ok,d,aj,p,Option.any_some,a.sb];refine e _ (wc c) ⟨t,l.set i (x,v),?_,λy=>by rw[q,h]⟩;rw[lO c];simp[btt,List.map_set]
def bzR{t}{d:Nat}{K}(a:d<L Y)(e:∀v Y',Fx Y Y' []->bK Y (d,v)->MP kv vv Y' (d,v) (λ_=>J)->K (.g 0 (d,v) 0 0) Y'):eV (oS t Y d) K:=by have c:oS t Y d=V (.g 0 (lA Y d) 0 0,put Y d ⟨t,0,U,U,[[]]⟩):=(by simp[oS,vg,a]);rw[c];exact e _ _ (kH a) (qQ Y d) ⟨t,[],iy a,λ_=>A⟩
end
abbrev mtI:MT:=⟨I,[(0,0)], .int .i64<|Int.ofNat 0⟩
abbrev mtW:MT:=⟨U,[(0,0),(1,0)], .bool I⟩
def kI(n:Int):Value:= .int .i64 n
def kW(p:Int×Int):Value:= .agg #[.int .i64 p.1, .int .i64 p.2]
def bxv:MKd mtI iv kI:=⟨(by grind [pO,kI]),λ_=>A,λ_=>A,λx=>by simp[kI,Instr.sameBits]⟩
def mkW:MKd mtW (λp:Int×Int=> .a [iv p.1,iv p.2]) kW:=by refine⟨λx y=>?_,λ_=>A,λ_=>by simp[qR,kW],λx=>by simp[kW,Instr.sameBits]⟩;obtain⟨a,b⟩:=x;obtain⟨c,d⟩:=y;by_cases e:a=c<;>by_cases g:b=d<;>simp[pO,kW,nW,sS,e,g]
abbrev MI(Y:ae)(b:Id)(f:Int->Option Int):Prop:=MP kI kI Y b f
abbrev MW(Y:ae)(b:Id)(g:Int->Int->Bool):Prop:=MP kW (λb:Bool=> .bool b) Y b λp=>if g p.1 p.2=U then V U else J
def MI.lu{Y b f x o n}(M:MI Y b f):oP mtI Y (.g 0 b o n) (iv x) I=V (iv<|(f x).getD 0)/\oP mtI Y (.g 0 b o n) (iv x) U=V (.t [iv<|(f x).getD 0,bv (f x).isSome]):=by have:=MP.lu bxv M (x:=x) (o:=o) (n:=n);cases a:f x<;>rw[a] at this<;>exact this
def MW.lu{Y b g x y o n}(M:MW Y b g):oP mtW Y (.g 0 b o n) (.a [iv x,iv y]) I=V (bv<|g x y):=by have:=(MP.lu mkW M (x:=(x,y)) (o:=o) (n:=n)).1;grind
def MI.mu{Y b f x v o n K}(M:MI Y b f)(a:∀Y',Fx Y Y' [b]->MI Y' b (bwF f x v)->K Y'):sV (muA mtI Y (.g 0 b o n) (iv x)<|iv v) K:=MP.mu bxv M (v:=v) a
def MW.mu{Y b g x y o n K}(M:MW Y b g)(d:∀Y',Fx Y Y' [b]->MW Y' b (λa c=>g a c||(Q (a=x)&&Q (c=y)))->K Y'):sV (muA mtW Y (.g 0 b o n) (.a [iv x,iv y])<|bv U) K:=MP.mu mkW M (x:=(x,y)) (v:=U) λY' F e=>d Y' F<|by have:(λz:Int×Int=>if z=(x,y) then V U else if g z.1 z.2=U then V U else J)=λz:Int×Int=>if(g z.1 z.2||(Q (z.1=x)&&Q (z.2=y)))=U then V U else J:=X;grind
def stN{Y b e}{i:Nat}{v:Int}{l:eu}{K}(c:box Y b=V ⟨e,1,U,I,l.map ci⟩)(d:i<L l)(a:∀Y',Fx Y Y' [b]->box Y' b=V ⟨e,1,U,I,(l.set i v).map ci⟩->K Y'):sV (aK 1 Y (.p b i 0)<|iv v) K:=wL c (r:=ci<|l[i]) O (by simp[ci]) λY' F h=>a Y' F<|by simp_all
def bxT{Y b e}{i:Nat}{v}{l:List Bool}{K}(c:box Y b=V ⟨e,1,U,I,l.map cb⟩)(d:i<L l)(a:∀Y',Fx Y Y' [b]->box Y' b=V ⟨e,1,U,I,(l.set i v).map cb⟩->K Y'):sV (aK 1 Y (.p b i 0)<|bv v) K:=wL c (r:=cb<|l[i]) O (by simp[cb]) λY' F h=>a Y' F<|by simp_all
def ixM{Y b e}{n k:Nat}{bA K}(a:box Y b=V ⟨e,1,U,I,bA⟩)(d:n=L bA)(c:k<n)(h:K<|.p b k 0):rV (cz 1 Y (.m b n)<|iv k) K:=by subst d;refine ixI (.inr ⟨b,A,a⟩) (dJ c) λj i _=>?_;simp_all
def ixN{Y b e}{n:Nat}{i:Int}{bA K}(a:box Y b=V ⟨e,1,U,I,bA⟩)(d:n=L bA)(c:aF n i)(h:K<|.p b i.toNat 0):rV (cz 1 Y (.m b n)<|iv i) K:=by subst d;refine ixI (.inr ⟨b,A,a⟩) c λk j _=>?_;simp_all
def ldM{Y b e}{k:Nat}{l}(c:box Y b=V ⟨e,1,U,I,l.map ci⟩)(a:k<L l):sA J Y (.p b k 0)=V (iv<|gd l k):=by rw[aC5,c];simp only[a6X,List.getElem?_map,List.getElem?_eq_getElem a,df,aNV a];rfl
def aYk{w}(d:bcV w=U)(h:hU w):(kB w/\L w.init.cw.ay<=4/\fN w.aQ w.init=U)/\L (m8 w)<2000:=by obtain⟨e,hs⟩:=aQA d;obtain⟨a,b,i,j,c⟩:=tC e;exact⟨⟨Rr h d,a.sy.th,c⟩,(anE b a.sy.th).1⟩
def bsE(w:am)(g:cJ)(p:List Bool)(q:eu):List ot×Bool:=
 if L p=L (m8 w)/\L q=L w.ac/\biu w g (btw w p q)=U then(btw w p q,U) else([],I)
def bzp{p b:List Bool}{q c:eu}:(AV.a [sl cb p,sl ci q]=AV.a [sl cb b,sl ci c])=(p=b/\q=c):=by simp only[AV.a.injEq,kO,mD,aN8,aQd]
def bxJ{Y e z a bA b R}(i:J7 Y e z a bA)(h:∀t,R<|.t [.l bA t U,bv b]):aE R Y [a,bv b]:=by unfold aE jS;rcases i with⟨c,d⟩|⟨k,m,rfl,j⟩;subst c d;exact⟨A,h U⟩;simp only[ji,mU,iZ,dQ,j,aO1,List.take_left'];exact⟨A,h I⟩
structure RS(x:ae)(w:am)(g:cJ)(p:List Bool)(q:eu)(bi bt bw:Id)(li lt:List Bool)(lw:eu):Prop where
 hl:L x=4096
 b3:box x (3,1)=V ⟨45,15,U,U,[w.c]⟩
 b4:box x (4,1)=V ⟨48,6,U,U,[g.c]⟩
 b5:box x (5,1)=V ⟨53,2,U,U,[[sl cb p,sl ci q]]⟩
 i1:bi.1=37
 t1:bt.1=39
 w1:bw.1=41
 bI:box x bi=V ⟨4,1,U,I,li.map cb⟩
 bT:box x bt=V ⟨4,1,U,I,lt.map cb⟩
 bW:box x bw=V ⟨3,1,U,I,lw.map ci⟩
section
variable{x y:ae}{w:am}{g:cJ}{p:List Bool}{q:eu}{bi bt bw:Id}{li lt:List Bool}{lw:eu}
theorem RS.fx{Lw}(S:RS x w g p q bi bt bw li lt lw)(F:Fx x y Lw)(d:∀k∈Lw,k.1=12\/k.1=15\/k.1=137):RS y w g p q bi bt bw li lt lw:=by have a:∀{k:Id},k.1≠12/\k.1≠15/\k.1≠137->k∉Lw:=X;have b:=S.i1;have t1:=S.t1;have c:=S.w1;exact⟨F.len.trans S.hl,F.keep _ _ (a O) S.b3,F.keep _ _ (a O) S.b4,F.keep _ _ (a O) S.b5,b,t1,c,F.keep _ _ (a Z) S.bI,F.keep _ _ (a Z) S.bT,F.keep _ _ (a Z) S.bW⟩
theorem RS.wI{l}(S:RS x w g p q bi bt bw li lt lw)(F:Fx x y [bi])(d:box y bi=V ⟨4,1,U,I,l.map cb⟩):RS y w g p q bi bt bw l lt lw:=by have b:=S.i1;have t1:=S.t1;have c:=S.w1;have a:∀{k:Id},k.1≠37->k∉[bi]:=X;exact⟨F.len.trans S.hl,F.keep _ _ (a O) S.b3,F.keep _ _ (a O) S.b4,F.keep _ _ (a O) S.b5,b,t1,c,d,F.keep _ _ (a Z) S.bT,F.keep _ _ (a Z) S.bW⟩
theorem RS.wT{l}(S:RS x w g p q bi bt bw li lt lw)(F:Fx x y [bt])(d:box y bt=V ⟨4,1,U,I,l.map cb⟩):RS y w g p q bi bt bw li l lw:=by have b:=S.i1;have t1:=S.t1;have c:=S.w1;have a:∀{k:Id},k.1≠39->k∉[bt]:=X;exact⟨F.len.trans S.hl,F.keep _ _ (a O) S.b3,F.keep _ _ (a O) S.b4,F.keep _ _ (a O) S.b5,b,t1,c,F.keep _ _ (a Z) S.bI,d,F.keep _ _ (a Z) S.bW⟩
theorem RS.wW{l}(S:RS x w g p q bi bt bw li lt lw)(F:Fx x y [bw])(d:box y bw=V ⟨3,1,U,I,l.map ci⟩):RS y w g p q bi bt bw li lt l:=by have b:=S.i1;have t1:=S.t1;have c:=S.w1;have a:∀{k:Id},k.1≠41->k∉[bw]:=X;exact⟨F.len.trans S.hl,F.keep _ _ (a O) S.b3,F.keep _ _ (a O) S.b4,F.keep _ _ (a O) S.b5,b,t1,c,F.keep _ _ (a Z) S.bI,F.keep _ _ (a Z) S.bT,d⟩
end
def btf{p:Prop}(h:p:=by grind [Go.Ab.buW]):p:=h
def bwo(w)(g)(p)(q)(hp:bcV w=U/\hU w/\qC w g=U/\L g.cW<1000/\L w.ac<=12):Ct 10 [.a w.c, .a g.c, .a [sl cb p,sl ci q]] (λr=>∃t,r= .t [.l ((bsE w g p q).1.map ot.c) t U,bv (bsE w g p q).2]):=by
 obtain⟨hv,hf,hg,bs,b9⟩:=hp
 have d:=vw hf hv
 have N:=bxB d.wv.ok.ev d.wv.ts d.th
 have hW:=bnz hf hv
 have cp:=d.ln
 obtain⟨hN,_⟩:=aYk hv hf
 refine bAl A rfl rfl λs6 hl b3 b4 b5 h0=>?_
 have r15:aN (V 15) w.c=V (.a w.c):=A
 have k1:∀{x:dM} {y:AV},aN J (y::x)=V y:=λ{x y}=>by cases y<;>rfl
 have kC:∀{a b:AV},[a,b].drop 1=[b]:=A
 simp only[bw2,eT,b3,b5,r15,ar,bur,hN,I6,k1,kC,↓uL]
 intro t
 refine⟨.inl A,?_⟩
 have ch:¬(L p=L (m8 w)/\L q=L w.ac)->aE (λr=>∃t,r=AV.t [.l ((bsE w g p q).1.map ot.c) t U,bv (bsE w g p q).2]) s6 [AV.l [] U U,bv I]:=λh=>by
  rw[bsE,gq Z]
  exact⟨A,U,A⟩
 rcases h1:Q ((L p:Int)≠(L (m8 w):Int)) with _|_
 ·have aw:L p=L (m8 w):=X
  simp only[h1,↓jA,qE,b5,kC,k1,aY,eS,a7i,↓uL]
  refine⟨X,λh2=>?_⟩
  have aR:L q=L w.ac:=X
  refine AP H H Z Z λE s7 bk N7 F7 c7=>?_
  have bz:=F7.len.trans hl
  simp only[qz 8,↓uL]
  refine AP H H Z Z λK s8 bl N8 F8 c8=>?_
  have cm:=F8.len.trans bz
  simp only[qz 10,↓uL]
  refine dT A ?_
  refine AP H H Z Z λD s9 aP N9 F9 c9=>?_
  have af:Fx s6 s9 []:=F7.trans<|F8.trans F9
  have cg:RS s9 w g p q E K D (tb (λ_=>I)<|L w.ac) (tb (λ_=>I)<|L w.ac) (tb (λ_=>0)<|L w.ac):=
   ⟨af.len.trans hl,af.kq b3,af.kq b4,af.kq b5,bk,bl,aP,by rw[(F8.trans F9).kq c7,<-bwD,List.map_replicate];rfl,by rw[F9.kq c8,<-bwD,List.map_replicate];rfl,by rw[c9,<-bwD,List.map_replicate];rfl⟩
  have bH:fS s9 (.m D<|L w.ac)=V (iv<|L w.ac):=by simp[fS,c9]
  simp only[qz 12,bH,aY,↓uL]
  refine yV (L w.ac) (λk _ x=>RS x w g p q E K D (tb (λ_=>I)<|L w.ac) (tb (λ_=>I)<|L w.ac)<|tb (λe=>if e<k then-1 else 0)<|L w.ac) X ?_
  rintro k _ x hk S
  simp only[qz 61,au,eQ,↓uL]
  refine⟨λh=>?_,λh=>?_⟩
  ·have C:=aL h
   refine ixM S.bW btf C ?_
   refine stN S.bW btf λy F R=>?_
   rw[bvU (g:=λe=>if e<k+1 then-1 else 0) Z] at R
   simp only[qz 14,au,eQ,↓uL]
   exact yU C<|S.wW F R
  have av:k=L w.ac:=X
  subst av
  have S0:RS x w g p q E K D (tb (λe=>Q<|(e:Int)∈exL (m8 w) p 0)<|L w.ac) (tb (λ_=>I)<|L w.ac) (tb (λe=>brN w (m8 w) p 0 e)<|L w.ac):=by
   have e1:tb (λe=>if e<L w.ac then(-1:Int) else 0) (L w.ac)=tb (λe=>brN w (m8 w) p 0 (e:Nat)) (L w.ac):=ja λj hj=>by rw[hY<|List.mem_range.1 hj,bAr]
   grind [exL]
  clear S
  have bG:∀{Y:ae},fS Y (.l ((m8 w).map aH8.c) t U)=V (iv<|L<|m8 w):=by grind [fS]
  simp only[bG,aY,↓uL]
  refine yV (L<|m8 w) (λk _ x=>RS x w g p q E K D (tb (λe=>Q<|(e:Int)∈exL (m8 w) p k)<|L w.ac) (tb (λ_=>I)<|L w.ac)<|tb (λe=>brN w (m8 w) p k (e:Nat))<|L w.ac) S0 ?_
  rintro k _ x hk S
  simp only[qz 103,au,eQ,↓uL]
  refine⟨λh=>?_,λh=>?_⟩
  ·have C:=aL h
   refine bsf (λo=>∀z',RS z' w g p q E K D (tb (λe=>Q<|(e:Int)∈exL (m8 w) p (k+1))<|L w.ac) (tb (λ_=>I)<|L w.ac) (tb (λe=>brN w (m8 w) p (k+1) (e:Nat))<|L w.ac)->o [] z') ?_ λo hJ=>?_
   ·intro z' W
    simp only[qz 123,au,eQ,↓uL]
    exact yU C W
   have r3:∀{x:aH8},aN (V 3) x.c=V (.a x.c):=λ{x}=>A
   simp only[qz 125,qy 16,au,eQ,lX,aC6,r3,aY,bh,↓uL]
   refine⟨dJ C,?_⟩
   refine anu S.hl λvx z1 F1 N1 bx=>?_
   have S1:=S.fx F1 O
   have am:=N.ex k C
   have an:=N.wk k C
   have al:=bxe (ns:=m8 w) (p:=p) (k:=k)
   have ao:=λe=>bAt (p:=p) N C (e:=e)
   simp only[exI,wkI] at al ao
   obtain⟨Xq,bE⟩:∃Xq,gd (m8 w) k=Xq:=⟨_,A⟩
   simp only[bE] at bx am an al ao
   simp only[qz 18,au,eT,S1.b5,k1,kC,ix,bh,↓uL]
   refine⟨dJ Z,?_⟩
   refine⟨λh2=>hJ z1 ?_,λh2=>?_⟩
   ·simp_all
   have aw:gd p k=U:=X
   simp only[aw,iw] at al ao
   refine bsf (λJ2=>∀z',RS z' w g p q E K D (tb (λe=>Q<|(e:Int)∈exL (m8 w) p (k+1))<|L w.ac) (tb (λ_=>I)<|L w.ac) (tb (λe=>brN w (m8 w) p k (e:Nat))<|L w.ac)->box z' (15,vx)=V ⟨98,3,U,U,[Xq.c]⟩->J2 [] z') ?_ λJ2 aM=>?_
   ·intro z2 S2 ah
    simp only[qz 147,au,eT,ah,S2.b3,ix,↓uL]
    have ax:(∀e:Nat,e<L w.ac->brN w (m8 w) p (k+1) e=brN w (m8 w) p k e)->o [] z2:=λh=>hJ z2 (by
     have e1:tb (λe=>brN w (m8 w) p (k+1) (e:Nat)) (L w.ac)=tb (λe=>brN w (m8 w) p k (e:Nat)) (L w.ac):=ja X
     simp_all)
    rcases h5:Q (Xq.kind=5) with _|_
    ·simp only[h5,↓jN,a7i,aY,eQ,Bc,eE,awG,aNQ,ni,↓uL]
     simp_all
    obtain⟨M,ck,aO,cl⟩:=an<|w6 h5
    have T:Xq.a.toNat<L w.ac:=by have:=M.1;have:=M.2;omega
    have ap:((Xq.a.toNat:Nat):Int)=Xq.a:=by have:=M.1;omega
    simp only[h5,↓jA,qE,S2.b3,ah,ix,aY,eT,a5C,↓uL]
    refine⟨M,?_⟩
    rcases ak:Q ((gd w.ac Xq.a.toNat).kind=18) with _|_
    ·simp only[ak,↓jN,a7i,aY,eQ,Bc,eE,awG,aNQ,ni,↓uL]
     refine ax λe _=>?_
     grind
    simp only[ak,↓jA,qE,ah,aY,eT,a5C,↓uL]
    refine ixN S2.bW btf M ?_
    simp only[ldM S2.bW (show Xq.a.toNat<_ by rw[buW];exact T),buV T,aY,eQ,a5C,ap,↓uL]
    have bY:=w6 ak
    refine⟨λh6=>?_,λh6=>ax λe _=>?_⟩
    ·have cc:(tb (λe=>brN w (m8 w) p k (e:Nat))<|L w.ac).set Xq.a.toNat (bta w Xq.b)=tb (λe=>brN w (m8 w) p (k+1) (e:Nat)) (L w.ac):=bvU X
     have bo:∀{Lw:List Id} {y:ae},(∀q∈Lw,q.1=41)->Fx z2 y Lw->box y (15,vx)=V ⟨98,3,U,U,[Xq.c]⟩:=brU
     refine ixN S2.bW btf M ?_
     refine stN S2.bW btf λy F R=>?_
     have S3:=S2.wW F R
     have bb:=bo (by simpa using aP) F
     have cr:dq.wrap (-1-Xq.b)= -1-Xq.b:=by
      refine eM ?_ Z
      rcases Int.lt_or_le Xq.b 0 with h|h
      ·omega
      ·have:=(aO h).2;omega
     simp only[qz 22,qy 24,au,eT,bb,S3.b3,ix,↓uL]
     refine⟨λh7=>?_,λh7=>?_⟩
     ·have bg:0<=Xq.b:=X
      refine⟨aO bg,?_⟩
      refine ixN S3.bW btf M ?_
      refine stN S3.bW btf λy2 F2 bF=>hJ y2 ?_
      have S4:=S3.wW F2 bF
      grind [List.set_set,bta]
     grind [bta]
    grind
   ·simp only[qz 149,qy 20,au,eT,bx,↓uL]
    refine⟨λh3=>?_,λh3=>aM z1 ?_ bx⟩
    ·have M:=am<|w6 h3
     have T:Xq.a.toNat<L w.ac:=by have:=M.1;have:=M.2;omega
     have ap:((Xq.a.toNat:Nat):Int)=Xq.a:=by have:=M.1;omega
     refine ixN S1.bI btf M ?_
     refine bxT S1.bI btf λy F R=>aM y ?_ brU
     rw[bvU (g:=λe=>Q<|(e:Int)∈exL (m8 w) p (k+1))<|λi hi=>?_] at R
     ·exact S1.wI F R
     grind
    simp_all
  have av:k=L (m8 w):=X
  subst av
  have bj:=bxd (p:=p) N<|dA _
  have aK:∀x∈exL (m8 w) p (L<|m8 w),0<=x/\x<L w.ac:=λx P=>bwd N (dA _) x P
  have a1:∀x∈bsw (m8 w) p q,aF (L w.ac) x:=λx P=>aK x<|bxE.1 P
  have aQ:=λm=>bzc (q:=q) (m:=m) bj aK
  have cq:L (bsw (m8 w) p q)<=L (m8 w):=by
   unfold bsw
   have:=bvy (lt:=ltK q) (l:=exL (m8 w) p<|L<|m8 w) (acc:=[])
   rw[this]
   simp only[List.length_nil,aj,exL,bJ]
   have:=List.length_filter_le (exI (m8 w) p)<|aH<|L<|m8 w
   simpa using this
  change∀m,brG q _ (tb (λe=>Q<|(e:Int)∈(bsw (m8 w) p q).take m)<|L w.ac) _=if m<L (bsw (m8 w) p q) then gd (bsw (m8 w) p q) m else-1 at aQ
  have a2:btw w p q=(bsw (m8 w) p q).map (bsr w (m8 w) p):=A
  have cd:∀e:Nat,e<L w.ac->bsr w (m8 w) p e=⟨(gd w.ac e).aq,brN w (m8 w) p (L<|m8 w) e⟩:=λe _=>by simp[bsr]
  generalize cj:bsw (m8 w) p q=B at*
  have a5:RS x w g p q E K D (tb (λe=>Q<|(e:Int)∈exL (m8 w) p (L<|m8 w))<|L w.ac) (tb (λe=>Q<|(e:Int)∈B.take 0)<|L w.ac) (tb (λe=>brN w (m8 w) p (L<|m8 w) (e:Nat))<|L w.ac):=by
   simp_all
  clear S
  refine⟨λvs z=>∃(m:Nat) (a:AV),vs=[a]/\m<=L B/\J7 z 113 2 a (((B.take m).map<|bsr w (m8 w) p).map ot.c)/\(∀k∈aA a,k.1=137)/\RS z w g p q E K D (tb (λe=>Q<|(e:Int)∈exL (m8 w) p (L<|m8 w))<|L w.ac) (tb (λe=>Q<|(e:Int)∈B.take m)<|L w.ac) (tb (λe=>brN w (m8 w) p (L<|m8 w) (e:Nat))<|L w.ac),
   λvs z=>match fS z (gt vs 0) with|some (.s<|.int _ n)=>L B-n.toNat|_=>0,⟨0,_,A,Nat.zero_le _, .inl ⟨A,A⟩,aBY,a5⟩,?_⟩
  rintro _ z ⟨m,a,rfl,hm,G,bu,S⟩
  have a8:dG z (.m E<|L w.ac)=sl cb (tb (λe=>Q<|(e:Int)∈exL (m8 w) p (L<|m8 w))<|L w.ac):=by
   have:=(show gi z 4 1 (.m E<|L<|(tb (λe=>Q<|(e:Int)∈exL (m8 w) p (L<|m8 w))<|L w.ac).map cb) _ from .inr ⟨E,A,S.bI⟩).p.ar
   grind [buW,sl]
  have a9:dG z (.m K<|L w.ac)=sl cb (tb (λe=>Q<|(e:Int)∈B.take m)<|L w.ac):=by
   have:=(show gi z 4 1 (.m K<|L<|(tb (λe=>Q<|(e:Int)∈B.take m)<|L w.ac).map cb) _ from .inr ⟨K,A,S.bT⟩).p.ar
   grind [buW,sl]
  have bq:=aQ m
  simp only[qz 187,au,eS,S.b5,S.b3,S.b4,k1,kC,jM,kU,jt,a8,a9,ar,bur,buW,aR,↓uL]
  simp only[bq]
  refine⟨Z,?_⟩
  rcases Nat.lt_or_ge m (L B) with C|hge
  ·rw[hY C]
   have P:=a1 _<|dB C
   have T:(gd B m).toNat<L w.ac:=by have:=P.1;have:=P.2;omega
   have ap:(((gd B m).toNat:Nat):Int)=gd B m:=by have:=P.1;omega
   refine⟨X,λ_=>?_⟩
   refine ixN S.bT btf P ?_
   refine bxT S.bT btf λy F R=>?_
   have bC:B.take (m+1)=B.take m++[gd B m]:=by rw[iJ C,aNV C]
   rw[bvU (g:=λe=>Q<|(e:Int)∈B.take (m+1)) X] at R
   have W:=S.wT F R
   have Gy:=G.fx F (λk hk e=>by simp at e;have:=bu k hk;subst e;omega)
   have br:brG q (tb (λe=>Q<|(e:Int)∈exL (m8 w) p (L<|m8 w))<|L w.ac) (tb (λe=>Q<|(e:Int)∈B.take m)<|L w.ac) (L q)=gd B m:=FA
   simp only[qz 26,qy 28,au,eT,W.b3,ix,br,↓uL]
   refine⟨P,?_⟩
   refine ixN W.bW btf P ?_
   simp only[ldM W.bW (show(gd B m).toNat<_ by rw[buW];exact T),buV T,aY,↓uL]
   have bm:∀{u v:Int},bM bcI bqW [(0,iv u),(1,iv v)]=V (.a<|ot.c ⟨u,v⟩):=λ{u v}=>A
   have bn:∀{c:ot},aX bjw 1 y [(0, .a c.c)]=V (.l [ot.c c] U U,y):=λ{c}=>ua A rfl rfl H (by simp[ot.c,eN]) H
   simp only[bm,bn,aY,bQ,↓uL]
   have bp:(ot.mk (gd w.ac (gd B m).toNat).aq<|brN w (m8 w) p (L<|m8 w) ((gd B m).toNat:Nat))=bsr w (m8 w) p (gd B m):=X
   rw[bp]
   refine apQ Gy W.hl bxK (by simp[ot.c]) O NA λa' y2 g2 F2 P2=>?_
   have bB:((B.take m).map<|bsr w (m8 w) p).map ot.c++[ot.c<|bsr w (m8 w) p<|gd B m]=((B.take<|m+1).map<|bsr w (m8 w) p).map ot.c:=by rw[bC];simp
   rw[bB] at g2
   simp only[qz 30,au,eQ,↓uL]
   refine dT (by simp[eL,lb,List.flatMap_cons,aTn,bc7,a6H,bc6,bna,bxl]) ?_
   have cn:fS y2 a'=V (iv ((m+1:Nat):Int)):=by rw[g2.p.ln];simp;omega
   refine⟨⟨m+1,a',A,C,g2.p,λk hk=>?_,W.fx F2 X⟩,?_⟩
   ·grind
   ·have co:fS z a=V (iv (m:Int)):=by rw[G.ln];simp;omega
    grind [bh]
  ·rw[gq Z]
   refine⟨λ_=>?_,λh=>by simp at h⟩
   have a7:dG z a=sl ot.c (btw w p q):=by rw[G.ar,a2,oB Z];rfl
   have r6:aN (V 6) g.c=V (.a g.c):=A
   have arg:∀{s:ae},dG s (.a g.c)= .a g.c:=A
   have bA:L (btw w p q)<1000000:=X
   simp only[r15,r6,aY,a7,arg,ar,bur,hW,hv,hg,bs,bA,I6,eQ,↓uL]
   rcases bD:biu w g (btw w p q) with _|_
   ·refine⟨λ_=>?_,λh=>by simp at h⟩
    rw[bsE,gq FA]
    exact⟨A,U,A⟩
   ·refine⟨λh=>by simp at h,λ_=>?_⟩
    rw[bsE,hY ⟨aw,aR,bD⟩]
    refine bxJ G λt=>⟨t,?_⟩
    grind
 ·simp only[h1,↓jN,a5C,aY,↓iC,eQ,uO,aNR,↓uL]
  grind
def bwW:FT:=ER bwo
def by9:=axQ bwW bwo (j:=by simp+contextual only[ij,ijv,bzp])
def bxz:∀{n:Nat} {l:eu},l.Nodup->(∀x∈l,0<=x/\x<n)->L l<=n
 |0,l,_,h=>by
  cases l with
  |nil=>simp
  |cons x l=>have:=h x O;omega
 |n+1,l,a,h=>by
  have b:=bxz (n:=n) (l:=l.erase n) (a.erase _) X
  grind
def bzH{Y a c e p q l}(G:gi Y 3 1 a<|l.map ci)(s:box Y c=V ⟨e,2,U,U,[[sl cb p,sl ci q]]⟩)(n:∀x∈l,aF (L q) x)(u:L l<=12)(r:L Y=4096):∃d i,(d= .t []/\gi i 3 1 a ((bjz (ltK q) [] l).map ci)/\Fx Y i (aA a))/\cZ aS GG 38 [a, .f 39 [] [.p c 0 0]] Y d i:=by rcases G with⟨z,rfl⟩|⟨b,rfl,o⟩;have j:l=[]:=(by simpa using z);subst j;obtain⟨d,i,⟨rfl,rfl⟩,h⟩:=bxp (a:= .l [] U U) (f:= .f 39 [] [.p c 0 0]) A r;exact⟨_,_,⟨A, .inl ⟨A,A⟩,Fx.refl _ _⟩,h⟩;rcases Nat.eq_zero_or_pos (L l) with j|j;have k:l=[]:=FA;subst k;obtain⟨d,i,⟨rfl,rfl⟩,h⟩:=bxp (a:= .m b 0) (f:= .f 39 [] [.p c 0 0]) (by simp[fS,o]) r;exact⟨_,_,⟨A, .inr ⟨b,A,o⟩,Fx.refl _ _⟩,h⟩;have hs:L (bjz (ltK q) [] l)=L l:=(by rw[bvy];simp);obtain⟨d,i,⟨rfl,k,F⟩,h⟩:=bzI o s n u j r;rw[bJ];exact⟨_,_,⟨A, .inr ⟨b,by rw[bJ,hs],k⟩,F⟩,h⟩
def bzM{w out ds}(h:Lk ds (vZ w out).c):∃x y,ds=[iv<|L w.ac,iv<|L<|m8 w,x,y]:=by obtain⟨i,_⟩:=h;simp only[vZ,br6.c] at i;have j:L ds=4:=(by have:=bqD L i;grind);match ds,j,i with|[a,b,c,d],_,i=>simp only[ji,mU,kO,aQd] at i;obtain⟨k,l,_,_⟩:=i;have m:∀{x:AV} {n:Int},gK x=iv n->x=iv n:=λ{x n} e=>(by cases x<;>simp[gK] at e<;>simp[e]);grind
def wkM(w:am)(ns:List aH8)(p:List Bool)(k:Nat)(e:Int):Option Int:=(wkF ns p k e).map λi=>bta w (gd ns i).b
def bAv{w ns p k e}:wkM w ns p (k+1) e=if wkI ns p e k=U/\wkM w ns p k e=J then V (bta w (gd ns k).b) else wkM w ns p k e:=by grind [wkM,byh]
def bAs{w ns p k e}:brN w ns p k e=if(gd w.ac e.toNat).kind=18 then(wkM w ns p k e).getD (-1) else-1:=by grind [brN,wkM]
structure WS(x:ae)(w:am)(g:cJ)(p:List Bool)(q:eu)(v:Nat)(f:Int->Option Int):Prop where
 hl:L x=4096
 b3:box x (3,1)=V ⟨45,15,U,U,[w.c]⟩
 b4:box x (4,1)=V ⟨48,6,U,U,[g.c]⟩
 b5:box x (5,1)=V ⟨53,2,U,U,[[sl cb p,sl ci q]]⟩
 mp:MI x (47,v) f
section
variable{x y:ae}{w:am}{g:cJ}{p:List Bool}{q:eu}{v:Nat}{f f':Int->Option Int}
theorem WS.fx{Lw}(S:WS x w g p q v f)(F:Fx x y Lw)(b:∀k∈Lw,k.1=12\/k.1=18\/k.1=70\/k.1=127):WS y w g p q v f:=by have a:∀{k:Id},k.1≠12/\k.1≠18/\k.1≠70/\k.1≠127->k∉Lw:=X;exact⟨F.len.trans S.hl,F.keep _ _ (a O) S.b3,F.keep _ _ (a O) S.b4,F.keep _ _ (a O) S.b5,S.mp.fx F<|a O⟩
def WS.wM(S:WS x w g p q v f)(F:Fx x y [(47,v)])(M:MI y (47,v) f'):WS y w g p q v f':=⟨F.len.trans S.hl,F.kq S.b3,F.kq S.b4,F.kq S.b5,M⟩
end
def bxq(w)(g)(p)(q)(hp:bcV w=U/\hU w/\qC w g=U/\L g.cW<1000/\L w.ac<=12):Ct 9 [.a w.c, .a g.c, .a [sl cb p,sl ci q]] (λr=>∃t,r= .t [.l ((bsE w g p q).1.map ot.c) t U,bv (bsE w g p q).2]):=by obtain⟨hv,hf,hg,b6,bU⟩:=hp;have m:=vw hf hv;have N:=bxB m.wv.ok.ev m.wv.ts m.th;have hW:=bnz hf hv;have bd:=vd hf hv;have b7:=m.ln;refine bAn A rfl rfl λs6 R K b4 b5 h0=>?_;have r15:aN (V 15) w.c=V (.a w.c):=A;have r6:aN (V 6) g.c=V (.a g.c):=A;have arg:∀{s:ae},dG s (.a g.c)= .a g.c:=A;have k1:∀{x:dM} {y:AV},aN J (y::x)=V y:=λ{x y}=>(by cases y<;>rfl);have kC:∀{a b:AV},[a,b].drop 1=[b]:=A;simp only[bw3,qy 8,eT,K,b4,b5,r15,r6,arg,ar,bur,hv,hf,hg,bd,I6,↓jA,qE,a7i,↓iB,↓uL];rintro _ ⟨ds,rfl,hL⟩;obtain⟨u,v,rfl⟩:=bzM hL;refine⟨.inl A,?_⟩;refine anu R λv8 s7 F7 N7 b8=>?_;have bp:=F7.len.trans R;have d3:=F7.kq K;have d4:=F7.kq b4;have d5:=F7.kq b5;have bX:¬(L p=L (m8 w)/\L q=L w.ac)->∀{s:ae},aE (λr=>∃t,r=AV.t [.l ((bsE w g p q).1.map ot.c) t U,bv (bsE w g p q).2]) s [AV.l [] U U,bv I]:=λh {s}=>(by rw[bsE,gq Z];exact⟨A,U,A⟩);have kD:∀{a b c d:AV},[a,b,c,d].drop 1=[b,c,d]:=A;simp only[qz 10,eT,d5,b8,k1,kC,kD,↓uL];rcases h1:Q ((L p:Int)≠(L (m8 w):Int)) with _|_;have av:L p=L (m8 w):=X;simp only[h1,↓jA,qE,d5,b8,kC,kD,k1,aY,eT,a7i,↓uL];refine⟨X,λh2=>?_⟩;have aG:L q=L w.ac:=X;refine bzR (kv:=kI) (vv:=kI) Z λE s8 F8 N8 M8=>?_;have S8:WS s8 w g p q E (λ_=>J):=⟨F8.len.trans bp,F8.kq d3,F8.kq d4,F8.kq d5,M8⟩;simp only[qz 12,eT,S8.b3,r15,ar,bur,hv,hf,I6,↓uL];intro t;refine⟨.inl A,?_⟩;have S9:WS s8 w g p q E (wkM w (m8 w) p 0):=S8;refine jD (α:=AV) (λa i=>[a,iv i]) 1 (L<|m8 w) (λk a x=>WS x w g p q E (wkM w (m8 w) p k)/\gi x 3 1 a ((exL (m8 w) p k).map ci)/\∀b∈aA a,b.1=70) (s0:= .l [] U U) ⟨S9, .inl ⟨A,A⟩,aBY⟩ ?_;rintro k a x hk ⟨S,G,ia⟩;simp only[qz 73,au,ck,eQ,↓uL];refine⟨λh=>?_,λh=>?_⟩;have z:=aL h;refine bsf (λj=>∀W D,WS D w g p q E (wkM w (m8 w) p<|k+1)->gi D 3 1 W ((exL (m8 w) p<|k+1).map ci)->(∀b∈aA W,b.1=70)->j [W] D) ?_ λj hJ=>?_;intro W D S' G' bz;simp only[qz 93,au,ck,eQ,↓uL];exact dR (mk:=λ(a:AV) i=>[a,iv i]) (p:=1) (s:=a) (s':=W) (λ_ _=>A) z Z ⟨S',G',bz⟩;have r3:∀{x:aH8},aN (V 3) x.c=V (.a x.c):=λ{x}=>A;simp only[qz 95,qy 14,au,ck,eQ,lX,aC6,r3,aY,bh,↓uL];refine⟨dJ z,?_⟩;refine anu S.hl λvx z1 T N1 bx=>?_;have B:=S.fx T O;have G1:=G.fx T O;have aR:=N.ex k z;have an:=N.wk k z;have P:=bxe (ns:=m8 w) (p:=p) (k:=k);have ao:=λe=>bAv (w:=w) (ns:=m8 w) (p:=p) (k:=k) (e:=e);simp only[exI,wkI] at P ao;obtain⟨Xq,bu⟩:∃Xq,gd (m8 w) k=Xq:=⟨_,A⟩;simp only[bu] at bx aR an P ao;simp only[qz 16,qy 18,qy 20,qy 22,au,ck,eT,B.b5,k1,kC,ix,bh,bx,↓uL];refine⟨dJ Z,?_⟩;have bY:∀b:Bool,Q (Xq.kind=2)=b->gd p k=U->exL (m8 w) p (k+1)=exL (m8 w) p k++if b=U then[Xq.a] else[]:=λb h hp=>(by rw[P,hp,h];rfl);refine⟨λh2=>hJ a z1 ?_ ?_ ia,λh2=>?_⟩;have aD:gd p k=I:=X;have e2:wkM w (m8 w) p (k+1)=wkM w (m8 w) p k:=X;grind;have aD:gd p k=I:=(by simpa using h2);rw[P,aD];simpa using G1;have av:gd p k=U:=X;simp only[av,iw] at P ao;refine⟨λh3=>?_,λh3=>⟨λh4=>?_,λh4=>?_⟩⟩;have b0:=w6 h3;have e2:wkM w (m8 w) p (k+1)=wkM w (m8 w) p k:=X;have cc:L (exL (m8 w) p k)<=k:=(by grind [exL]);simp only[a5Y,bQ];refine apQ G1.p B.hl O O O NA λW y2 g2 F2 P2=>?_;grind [WS.fx];obtain⟨ha,be,aB,b2⟩:=an<|w6 h4;have e1:exL (m8 w) p (k+1)=exL (m8 w) p k:=X;have h5:=w6 h4;have bo: -1000<=Xq.b/\(0<=Xq.b->aF (L w.ac) Xq.b):=⟨be,aB⟩;rcases C:wkM w (m8 w) p k Xq.a with _|u;simp only[B.mp.lu.2,C,aY,oJ,pG,eT,Option.isSome_none,B.b3,r15,ar,bur,bo,aNQ,Bool.true_eq_false,awG,aQd,↓uL];refine⟨aB,B.mp.mu λy F M=>?_⟩;have S2:=B.wM F M;have G2:=G1.fx F (λb hb e=>by simp at e;have:=ia b hb;subst e;simp at this);have e2:bwF (wkM w (m8 w) p k) Xq.a (bta w Xq.b)=wkM w (m8 w) p (k+1):=(by grind [bwF]);rw[e2] at S2;refine hJ a y S2 ?_ ia;rw[e1];exact G2;simp only[B.mp.lu.2,C,aY,oJ,pG,eQ,Option.isSome_some,eE,awG,aNQ,ni,↓uL];have e2:wkM w (m8 w) p (k+1)=wkM w (m8 w) p k:=X;grind;have e1:exL (m8 w) p (k+1)=exL (m8 w) p k:=X;have e2:wkM w (m8 w) p (k+1)=wkM w (m8 w) p k:=X;grind;have bn:k=L (m8 w):=X;subst bn;have a9:=bxd (p:=p) N<|dA _;have ba:∀x∈exL (m8 w) p (L<|m8 w),aF (L q) x:=λx hx=>(by rw[aG];exact bwd N (dA _) x hx);have bb:L (exL (m8 w) p<|L<|m8 w)<=12:=(by have:=bxz a9<|bwd N<|dA _;omega);refine jH A (bzH G S.b5 ba bb S.hl) ?_;rintro r y ⟨rfl,G',F⟩;refine⟨F.len,?_⟩;have S':=S.fx F λb hb=> .inr<|.inr<|.inl<|ia b hb;change gi y 3 1 a ((bsw (m8 w) p q).map ci) at G';have aT:∀x∈bsw (m8 w) p q,aF (L w.ac) x:=(by grind [bxE]);have aV:btw w p q=(bsw (m8 w) p q).map (bsr w (m8 w) p):=A;have b9:L (bsw (m8 w) p q)<=12:=(by grind [bsw,bvy]);generalize bsw (m8 w) p q=n at*;have a0:fS y a=V (iv<|L n):=(by rw[G'.p.ln,bJ]);simp only[qz 24,au,eQ,a0,↓uL];refine jD (α:=AV) (λa i=>[a,iv i]) 1 (L n) (λk o x=>WS x w g p q E (wkM w (m8 w) p<|L<|m8 w)/\gi x 3 1 a (n.map ci)/\J7 x 113 2 o (((n.take k).map<|bsr w (m8 w) p).map ot.c)/\∀b∈aA o,b.1=127) (s0:= .l [] U U) ⟨S',G', .inl ⟨A,A⟩,aBY⟩ ?_;rintro k o x hk ⟨S,G,Oq,io⟩;simp only[qz 169,qy 26,au,ck,eQ,↓uL];refine⟨λh=>?_,λh=>?_⟩;have z:=aL h;have hx:=aT _<|dB z;have b1:(gd n k).toNat<L w.ac:=(by have:=hx.1;have:=hx.2;omega);refine ixI G bt2 λb hb bj=>?_;rw[bh];simp only[ldM bj z,aY,S.b3,ix,eT,↓uL];refine⟨hx,?_⟩;have bf:∀{u v:Int},bM bcI bqW [(0,iv u),(1,iv v)]=V (.a<|ot.c ⟨u,v⟩):=λ{u v}=>A;simp only[bf,aY,↓uL];refine anu S.hl λvc z1 T N1 bc=>?_;have B:=S.fx T O;have G1:=G.fx T O;have O1:=Oq.fx T O;simp only[qz 28,↓uL];refine bpF (λj=>∀D,WS D w g p q E (wkM w (m8 w) p<|L<|m8 w)->gi D 3 1 a (n.map ci)->J7 D 113 2 o (((n.take k).map<|bsr w (m8 w) p).map ot.c)->box D (18,vc)=V ⟨113,2,U,U,[ot.c<|bsr w (m8 w) p<|gd n k]⟩->j [] D) ?_ λj hJ=>?_;intro z2 S2 G2 O2 ak;have bC:∀{c:ot},aN (V 2) c.c=V (.a c.c):=λ{c}=>A;have bg:∀{c:ot},aX bjw 1 z2 [(0, .a c.c)]=V (.l [ot.c c] U U,z2):=λ{c}=>ua A rfl rfl H (by simp[ot.c,eN]) H;have ca:n.take (k+1)=n.take k++[gd n k]:=(by rw[iJ z,aNV z]);have br:((n.take k).map<|bsr w (m8 w) p).map ot.c++[ot.c<|bsr w (m8 w) p<|gd n k]=((n.take<|k+1).map<|bsr w (m8 w) p).map ot.c:=X;simp only[qz 207,qy 32,au,ck,eS,ak,bC,bg,List.drop_zero,aY,bQ,↓uL];refine apQ O2 S2.hl bxK (by simp[ot.c]) O NA λo' y2 g2 F2 P2=>?_;rw[br] at g2;simp only[qz 34,au,ck,eQ,↓uL];refine dR (mk:=λ(a:AV) i=>[a,iv i]) (p:=1) (s:=o) (s':=o') (λ_ _=>A) z Z (by grind [WS.fx,gi.fx,gi.p]);have bk:bsr w (m8 w) p (gd n k)=⟨(gd w.ac (gd n k).toNat).aq,if(gd w.ac (gd n k).toNat).kind=18 then(wkM w (m8 w) p (L<|m8 w)<|gd n k).getD (-1) else-1⟩:=(by rw[bsr,bAs]);rcases C:wkM w (m8 w) p (L<|m8 w) (gd n k) with _|u;simp only[qz 209,qy 30,au,eQ,B.mp.lu.2,C,aY,oJ,pG,Option.isSome_none,↓jN,a7i,eE,awG,aNQ,ni,↓uL];grind;have aC:=hx;rcases am:Q ((gd w.ac (gd n k).toNat).kind=18) with _|_;simp only[qz 209,qy 30,au,eT,B.mp.lu.2,C,aY,oJ,pG,Option.isSome_some,↓jA,qE,B.b3,ix,aC,am,a5C,eE,awG,aNQ,ni,↓uL];grind;simp only[qz 209,qy 30,au,eT,B.mp.lu.2,C,aY,oJ,pG,Option.isSome_some,↓jA,qE,B.b3,ix,aC,am,a5C,aNQ,ni,↓uL];refine⟨?_,λh=>by cases h⟩;simp only[bc,df,aY,Option.getD_some,↓uL];refine A0 bc A (by simp[ot.c]) λz2 F2 ak=>?_;refine hJ z2 (B.fx F2 O) (G1.fx F2 λb hb e=>?_) (O1.fx F2 λb hb e=>?_) ?_;grind;grind;rw[ak,bk,C,hY<|w6 am];rfl;have bm:=dge h;have a2:dG x o=sl ot.c (btw w p q):=(by rw[Oq.ar,aV,oB bm];rfl);have bq:L (btw w p q)<1000000:=X;simp only[S.b3,S.b4,r15,r6,aY,a2,arg,jM,kU,jt,ar,bur,hW,hv,hg,bq,I6,eT,↓uL];rcases bs:biu w g (btw w p q) with _|_;refine⟨λ_=>?_,λh=>by simp at h⟩;rw[bsE,gq X];exact⟨A,U,A⟩;refine⟨λh=>by simp at h,λ_=>?_⟩;rw[bsE,hY ⟨av,aG,bs⟩];refine bxJ Oq λt=>⟨t,?_⟩;grind;simp only[h1,↓jN,a5C,aY,↓iC,eQ,uO,aNR,↓uL];grind
def byC:FT:=ER bxq
def bzP:=axQ byC bxq (j:=by simp+contextual only[ij,ijv,bzp])
def bwC:dO:=(10,bwW)::(9,byC)::bvT
def bxZ:eJ bwC:=asq (aM6 bwo)<|asq (aM6 bxq)<|bwA
def bzh:=ai @by9<|ai @bzP<|@bur
def boQ a a1 b R:=(.mk _:NR bwC ato Tryz.f12 [.u,a1] [a] b R).p
def br0{c0:dM}{a1:AV}{R:J3}(l0:L c0=15)(h:H1 45 15 2 c0 λia b=>boQ ia a1 b R):Ct 12 [.a c0,a1] R:=z1 ato bxZ Tryz.func12 l0 h
def aN6{α:Type}(f:α->α->Bool):List α->List α->Bool|[],[]=>U|a::l,b::m=>f a b&&aN6 f l m|_,_=>I
theorem aOC{α f}(c:∀a b,f a b=U->a=b):∀{l m:List α},aN6 f l m=U->l=m
 |[],[],_=>rfl
 |a::l,b::m,h=>by
  simp only[aN6,bN] at h
  rw[c a b h.1,aOC c h.2]
 |[],_::_,h=>by cases h
 |_::_,[],h=>by cases h
def xqV:Nat->Value->Value->Bool
 |0,_,_=>I
 |n+1,x,y=>
  match x,y with
  | .int k a, .int c b=>Q (k=c)&&Q (a=b)
  | .bool a, .bool b=>a==b
  | .string a, .string b=>Q<|a.data.toList=b.data.toList
  | .agg a, .agg b=>aN6 (xqV n) a.toList b.toList
  | .pointer none, .pointer none=>U
  | .nilFunc, .nilFunc=>U
  | .nilIface, .nilIface=>U
  | .map none, .map none=>U
  |_,_=>I
theorem bhK:∀{n a b},xqV n a b=U->a=b:=by intro n;induction n with|zero=>intro a b h;cases h|succ n c=>intro a b h;simp only[xqV] at h;(split at h<;>first|rfl|(cases h;done)|skip);simp_all;simp_all;rename_i a b;have h:=w6 h;obtain⟨⟨a⟩⟩:=a;simp_all;rename_i a b;have h:=aOC (λa b=>c) h;simp_all
def xqA:Nat->AV->AV->Bool
 |0,_,_=>I
 |n+1,x,y=>
  match x,y with
  | .s v, .s w=>xqV 4 v w
  | .u, .u=>U
  | .l r t o, .l E F o'=>(t==F&&o==o')&&aN6 (aN6<|xqA n) r E
  | .a c, .a e=>aN6 (xqA n) c e
  | .t c, .t e=>aN6 (xqA n) c e
  | .q c, .q e=>aN6 (xqA n) c e
  | .p b i j, .p h z B=>Q<|b=h/\i=z/\j=B
  | .m b i, .m h z=>Q<|b=h/\i=z
  | .g k b i j, .g C h z B=>Q<|k=C/\b=h/\i=z/\j=B
  | .f k c d, .f C e D=>Q (k=C)&&(aN6 (xqA n) c e&&aN6 (xqA n) d D)
  |_,_=>I
def aYn:∀{n a b},xqA n a b=U->a=b:=by intro n;induction n with|zero=>intro a b h;cases h|succ n c=>intro a b h;simp only[xqA] at h;grind [bhK,aOC]
def eqB(x y:bY):Bool:=Q (x.elem=y.elem/\x.size=y.size/\x.own=y.own/\x.var=y.var)&&aN6 (aN6<|xqA 9) x.bA y.bA
theorem bbh{x y}(h:eqB x y=U):x=y:=by unfold eqB at h;rw[bN] at h;obtain⟨c,d,e,f⟩:=w6 h.1;have g:=aOC (λa b=>aOC<|λa b=>aYn) h.2;cases x;simp_all
def kpS(a b:vG):Bool:=Nat.ble a.xv b.xv&&(aH<|a.xv+1).all λv=>match a.val v with|none=>U|some x=>match b.val v with|some y=>eqB x y|none=>I
def kpB:ae->ae->Bool:=eqLs' kpS
where eqLs' (f:vG->vG->Bool):ae->ae->Bool
 |[],[]=>U
 |a::l,b::m=>f a b&&eqLs' f l m
 |_,_=>I
def a6R:∀{Y Y'},kpB Y Y'=U->L Y'=L Y/\∀k,kpS (aZ Y k) (aZ Y' k)=U
 |[],[],_=>⟨A,λk=>by simp only[aZ,List.getD_nil];rfl⟩
 |a::l,b::m,h=>by
  have h:(kpS a b&&kpB.eqLs' kpS l m)=U:=h
  rw[bN] at h
  have c:=a6R (Y:=l) (Y':=m) h.2
  refine⟨by simp[c.1],λk=>?_⟩
  cases k with
  |zero=>exact h.1
  |succ k=>exact c.2 k
 |[],_::_,h=>by cases h
 |_::_,[],h=>by cases h
theorem bdG{Y Y'}(h:kpB Y Y'=U):Kp Y Y':=by obtain⟨a,c⟩:=a6R h;refine⟨a,λk=>?_,λb x d=>?_⟩;simp_all [kpS];have h:=c b.1;unfold kpS at h;grind [box,Nat.le_trans,Nat.le_of_ble_eq_true,bbh]
section
variable(P:Program)(G:Iy)
abbrev aPc:=FuncId->dM->ae->Nat->Option (AV×ae)
abbrev aQb:=Code->dM->ae->Option (Exit×dM×ae)
def aWf(a:aPc)(b:dM)(Y:ae)(o:Oper):Option (AV×ae):=
 match dz P (du G b) Y o.op with
 |some av=>V (av,Y)
 |none=>
  match eA P (du G b) Y (o.dst.getD 0) o.op with
  |some p=>V p
  |none=>
   match o.op with
   | .call c=>
    match c.callee with
    | .value f=>
     match du G b f with
     | .f fn first cap=>a fn (first++c.args.toList.map (du G b)++cap) Y (o.dst.getD 0)
     |_=>J
    |_=>J
   |_=>J
def aS9(b:aPc)(ops:Array Oper)(a:dM)(Y:ae)(o:Oper):Option (dM×ae):=
 match rh ops a o with
 |some true=>match aWf P G b a Y o with|some p=>V (ge a o.dst p.1,p.2)|none=>J
 |some false=>V (ge a o.dst<|.t [],Y)
 |none=>J
def aRK(a:aPc)(ops:Array Oper):List Oper->dM->ae->Option (dM×ae)
 |[],b,Y=>V (b,Y)
 |o::l,b,Y=>match aS9 P G a ops b Y o with|some p=>aRK a ops l p.1 p.2|none=>J
def aS8(a:aPc)(ops:Array Oper):List Oper->List fY->dM->ae->Option (List fY×dM×ae)
 |[],acc,b,Y=>V (acc,b,Y)
 |o::l,acc,b,Y=>match aS9 P G a ops b Y o with|some p=>aS8 a ops l (acc++[lab P G ops b Y o]) p.1 p.2|none=>J
def aQ0:Exit->Bool| .normal| .ret=>U|_=>I
def a6k(Y:ae)(d:Nat)(c:ae)(r:AV):Option (AV×ae):=
 match r with
 | .l [] true true=>V (.l [] U U,Y)
 | .m b n=>match box c b with|some x=>if qA x=U then V (.m (lA Y d) n,put Y d x) else J|none=>J
 | .a cs=>if(wn cs).Nodup then(match gU c d Y cs with|some p=>V (.a p.1,p.2)|none=>J) else J
 |_=>J
abbrev aSo:=List<|FuncId×dM×AV
structure aPP where
 l:aSo
 cl:List (FuncId×TypeId×Nat)
def known(fn:FuncId)(ys:dM):aSo->Option AV|[]=>J|p::T=>bif aOU fn p.1&&aN6 (xqA 9) ys p.2.1 then V p.2.2 else known fn ys T
def aRG(fn:FuncId):List (FuncId×TypeId×Nat)->Option (TypeId×Nat)|[]=>J|p::T=>bif aOU fn p.1 then V p.2 else aRG fn T
def aWe(Y:ae)(d:Nat)(p:TypeId×Nat)(ys:dM):Option (AV×ae):=
 match ys with
 |[.l [] false false]=>V (.l [] U U,Y)
 |[.l (r::bA) false false]=>
  if((r::bA).all λr=>aOU (L r) p.2&&r.all gY)=U/\L (r::bA)<1000000 then V (.m (lA Y d)<|L (r::bA),put Y d ⟨p.1,p.2,U,I,r::bA⟩) else J
 |_=>J
def aRJ(T:aPP)(E:aQb):aPc:=λfn xs Y d=>
 match P.funcs[fn]? with
 |none=>J
 |some f=>
  match f.body with
  |none=>J
  |some c=>
   if(f.name== "runtime.NumGoroutine")=U then J
   else if G.nw fn=U then
    if(xs.map<|dG Y).all iX=U/\vg Y d=U then
     match aRG fn T.cl with
     |some p=>aWe Y d p<|xs.map<|dG Y
     |none=>
     match E c (start f<|xs.map<|dG Y) eK with
     |some (e,b,a)=>if aQ0 e=U then(match wG P f b a with|some r=>a6k Y d a r|none=>J) else J
     |none=>J
    else J
   else if G.imp fn=U then
    match E c (start f xs) Y with
    |some (e,b,a)=>
     if aQ0 e=U then
      match wG P f b a with
      |some r=>
       if L a=L Y then
        if G.rd fn=U then(if kpB Y (kills a<|aNN r)=U/\kG (eR a r)=U then V (eR a r,Y) else J)
        else V (r,a)
       else J
      |none=>J
     else J
    |none=>J
   else if(xs.map<|dG Y).all iX=U/\L (xs.map<|dG Y)<=f.ntmps then
    match known fn (xs.map<|dG Y) T.l with
    |some r=>if kG r=U/\(nA Y xs=I\/uN r=U) then V (r,Y) else J
    |none=>
    match E c (start f<|xs.map<|dG Y) (ly f) with
    |some (e,b,a)=>
     if aQ0 e=U then
      match bt8 P f b a with
      |some r=>if kG r=U/\(nA Y xs=I\/uN r=U) then V (r,Y) else J
      |none=>J
     else J
    |none=>J
   else J
def aRL(T:aPP)(E:aQb):aQb:=λc a Y=>
 match c with
 | .skip=>V (.normal,a,Y)
 | .label _=>V (.normal,a,Y)
 | .region _ ops false=>match aRK P G (aRJ P G T E) ops ops.toList a Y with|some p=>V (.normal,p.1,p.2)|none=>J
 | .region _ ops true=>
  if rG G ops.toList=U then match aRK P G (aRJ P G T E) ops ops.toList a Y with|some p=>V (.normal,p.1,p.2)|none=>J
  else match aS8 P G (aRJ P G T E) ops ops.toList [] a Y with|some p=>if xG ops p.1=U then V (.normal,p.2.1,p.2.2) else J|none=>J
 | .seq x y=>match E x a Y with|some (.normal,τ',Y')=>E y τ' Y'|r=>r
 | .cond c x y=>match du G a c with| .s (.bool t)=>if t=U then E x a Y else E y a Y|_=>J
 | .block b c=>match E c a Y with|some (.exit j,τ',Y')=>if j=b then V (.normal,τ',Y') else V (.exit j,τ',Y')|r=>r
 | .loop c=>match E c a Y with|some (.normal,τ',Y')=>E (.loop c) τ' Y'|r=>r
 | .exit b=>V (.exit b,a,Y)
 | .ret=>V (.ret,a,Y)
 |_=>J
def ev(T:aPP):Nat->aQb|0=>λ_ _ _=>J|n+1=>aRL P G T<|ev T n
end
section
variable{P:Program}{G:Iy}
def Xcl(P:Program)(G:Iy)(fn:FuncId)(xs:dM)(Y:ae)(d:Nat)(K:be):Prop:=
 if G.nw fn=U then tS P G fn xs Y d K else if G.imp fn=U then tR P G fn xs Y d K else Kh P G fn xs Y λr=>K r Y
def aRe(P:Program)(G:Iy)(a:aPc):Prop:=∀fn xs Y d r Y',a fn xs Y d=V (r,Y')->∀K:be,K r Y'->Xcl P G fn xs Y d K
def aUx(P:Program)(G:Iy)(E:aQb):Prop:=∀c a Y e τ' Y',E c a Y=V (e,τ',Y')->∀Q:QX,Q e τ' Y'->Xq P G c Q a Y
theorem bbm{a}(g:aRe P G a){b Y Y' o r}(h:aWf P G a b Y o=V (r,Y')){K}(d:K r Y'):j0 P G b Y o K:=by unfold aWf at h;unfold j0;split at h;simp_all;rename_i l;rw[l];simp only;split at h;simp_all;rename_i i;rw[i];simp only;split at h;rename_i c k;rw[k];simp only;split at h;rename_i f j;rw[j];simp only;split at h;rename_i fn first cap e;rw[e];exact g _ _ _ _ _ _ h K d;(cases h);(cases h);cases h
theorem a6l{a}(d:aRe P G a){ops b τ' Y Y' o}(h:aS9 P G a ops b Y o=V (τ',Y')){K}(c:K τ' Y'):kS P G ops o K b Y:=by grind [aS9,kS,bbm]
theorem a6m{a}(d:aRe P G a){ops K}:∀{l b τ' Y Y'},aRK P G a ops l b Y=V (τ',Y')->K τ' Y'->rE P G ops l K b Y:=by intro l;induction l with|nil=>intro b τ' Y Y' h c;cases h;exact c|cons o l f=>intro b τ' Y Y' h c;simp only[aRK] at h;split at h;rename_i p e;exact a6l d (τ':=p.1) (Y':=p.2) e<|f h c;cases h
theorem bbk{a}(d:aRe P G a){ops K}:∀{l acc ls b τ' Y Y'},aS8 P G a ops l acc b Y=V (ls,τ',Y')->K ls τ' Y'->qq P G ops l acc K b Y:=by intro l;induction l with|nil=>intro acc ls b τ' Y Y' h c;cases h;exact c|cons o l f=>intro acc ls b τ' Y Y' h c;simp only[aS8] at h;split at h;rename_i p e;exact a6l d (τ':=p.1) (Y':=p.2) e<|f h c;cases h
def aWD{e}(h:aQ0 e=U):e= .normal\/e= .ret:=by cases e<;>first|exact .inl A|exact .inr A|cases h
theorem a6j(o:tQ P){E}(j:aUx P G E){fn f c}(n:P.funcs[fn]?=V f)(l:f.body=V c)(p:¬(f.name== "runtime.NumGoroutine")=U){xs g Y d e r}(h:E c (start f xs) Y=V (e,g,d))(m:aQ0 e=U)(i:wG P f g d=V r):cZ P G fn xs Y r d:=by obtain⟨q,Y',⟨rfl,rfl⟩,k⟩:=aBf (R:=λa b=>a=r/\b=d) o n l X (j _ _ _ _ _ _ h (QB P f λa b=>a=r/\b=d)<|by rcases aWD m with rfl|rfl<;>exact⟨r,i,A,A⟩);exact k
def aYw(P:Program)(G:Iy)(T:aSo):Prop:=∀p∈T,btY P G p.1 p.2.1 (·=p.2.2)
def a78(P:Program)(G:Iy)(T:List<|FuncId×TypeId×Nat):Prop:=∀p∈T,∀bA:List (dM),(∀r∈bA,L r=p.2.2)->L bA<1000000->∃r a,cZ P G p.1 [.l bA I I] eK r a/\(bA=[]->r= .l [] U U)/\(bA≠[]->∃b,r= .m b (L bA)/\box a b=V ⟨p.2.1,p.2.2,U,I,bA⟩)
structure aSn(P:Program)(G:Iy)(T:aPP):Prop where
 fp:∀fn,G.fp fn=J
 l:aYw P G T.l
 cl:a78 P G T.cl
def a6Q{fn ys r}:∀{T},aYw P G T->known fn ys T=V r->btY P G fn ys (·=r)
 |[],_,h=>by cases h
 |p::T,d,h=>by
  simp only[known] at h
  cases c:(aOU fn p.1&&aN6 (xqA 9) ys p.2.1) with
  |true=>
   rw[c] at h
   rw[bN] at c
   have e:=Nat.eq_of_beq_eq_true c.1
   have f:=aOC (λa b=>aYn) c.2
   obtain rfl:=Option.some.inj h
   subst e f
   exact d p O
  |false=>
   rw[c] at h
   exact a6Q (λq g=>d q<|by simp[g]) h
theorem a6a{fn p}:∀{T},aRG fn T=V p->(fn,p)∈T
 |[],h=>by cases h
 |q::T,h=>by
  simp only[aRG] at h
  cases a:aOU fn q.1 with
  |true=>
   grind [Nat.eq_of_beq_eq_true]
  |false=>rw[a] at h;exact List.mem_cons_of_mem _<|a6a h
theorem bbj{T}(l:aSn P G T){fn p xs Y Y' d r}(o:aRG fn T.cl=V p)(i:(xs.map<|dG Y).all iX=U/\vg Y d=U)(h:aWe Y d p (xs.map<|dG Y)=V (r,Y')){K}(g:K r Y'):zI P G fn xs Y d K:=by have f:=l.cl _<|a6a o;refine⟨i.1,i.2,?_⟩;generalize xs.map (dG Y)=ys at*;unfold aWe at h;split at h;(cases h);obtain⟨r,a,c,j,_⟩:=f [] O H;exact⟨r,a,c, .inl ⟨j A,g⟩⟩;rename_i q bA;split at h;rename_i e;cases h;obtain⟨e,n⟩:=e;rw[List.all_eq_true] at e;obtain⟨r,a,c,_,k⟩:=f (q::bA) FA n;obtain⟨b,rfl,m⟩:=k O;refine⟨_,a,c, .inr ⟨b,_,_,A,m,?_,g⟩⟩;grind [qA];(cases h);cases h
theorem bbi(z:tQ P){T}(t:aSn P G T){E}(s:aUx P G E):aRe P G (aRJ P G T E):=by intro fn xs Y d r Y' h K k;unfold aRJ at h;unfold Xcl;split at h;(cases h);rename_i f v;split at h;(cases h);rename_i c u;split at h;(cases h);rename_i D;split at h;rename_i B;rw[hY B];split at h;rename_i a;split at h;rename_i p y;exact .inl<|bbj t y a h k;split at h;rename_i e M q o;split at h;rename_i m;split at h;rename_i C g;have j:=a6j z s v u D o m g;unfold a6k at h;split at h;(cases h);exact .inl ⟨a.1,a.2,_,_,j, .inl ⟨A,k⟩⟩;rename_i b n;split at h;rename_i x W;split at h;rename_i R;cases h;exact .inl ⟨a.1,a.2,_,_,j,X⟩;(cases h);(cases h);rename_i cs;split at h;rename_i F;split at h;rename_i p y;cases h;exact .inr<|.inr ⟨a.1,a.2,cs,q,p.1,p.2,j,F,y,k⟩;(cases h);(cases h);(cases h);(cases h);(cases h);(cases h);(cases h);rename_i B;rw[gq B];split at h;rename_i w;rw[hY w];split at h;rename_i e M q o;split at h;rename_i m;split at h;rename_i C g;have j:=a6j z s v u D o m g;split at h;rename_i N;split at h;grind [tR,aPf,bdG];rename_i S;cases h;unfold tR aPf;rw[t.fp fn];exact⟨_,_,j,N,FA⟩;(cases h);(cases h);(cases h);(cases h);rename_i w;rw[gq w];split at h;rename_i a;split at h;rename_i C g;split at h;rename_i i;cases h;exact⟨_,a6Q t.l g,a.1,i.1,i.2,k⟩;(cases h);split at h;rename_i e M q o;split at h;rename_i m;split at h;rename_i C g;split at h;rename_i i;cases h;refine⟨_,aBh z v u X a.2<|s _ _ _ _ _ _ o (QR P f (·=_)) ?_,a.1,i.1,i.2,k⟩;rcases aWD m with rfl|rfl<;>exact⟨_,g,i.1,A⟩;(cases h);(cases h);(cases h);(cases h);cases h
theorem bdK{p:Nat->Prop}:∀{n},p n->∃m,p m/\∀k,p k->m<=k:=by intro n;induction n using Nat.strongRecOn with|_ n a=>grind
theorem bbl(K:tQ P){T}(E:aSn P G T):∀n,aUx P G (ev P G T n):=by intro n;induction n using Nat.strongRecOn with|_ n B=>cases n with|zero=>intro c b Y e τ' Y' h;cases h|succ n=>have g:=B n<|Nat.lt_succ_self n;have D:=bbi (G:=G) K E g;intro c b Y e τ' Y' h Q f;have R:=h;change aRL P G T (ev P G T n) c b Y=_ at h;unfold aRL at h;split at h;(cases h;exact f);(cases h;exact f);split at h;rename_i p F;cases h;exact a6m D F f;(cases h);show sF P G _ _ _ _;grind [sF,a6m,bbk];rename_i x y;show Xq P G x _ _ _;split at h;rename_i l u d;exact g _ _ _ _ _ _ d _<|g _ _ _ _ _ _ h _ f;rename_i q;refine g _ _ _ _ _ _ h _ ?_;(cases e<;>first|exact f|simp_all);rename_i cc x y;show(match du G b cc with| .s (.bool t)=>if t=U then Xq P G x Q b Y else Xq P G y Q b Y|_=>False);split at h;rename_i t S;split at h;rename_i d;rw[hY d];exact g _ _ _ _ _ _ h _ f;rename_i d;rw[gq d];exact g _ _ _ _ _ _ h _ f;(cases h);rename_i M c;show Xq P G c _ _ _;split at h;rename_i j l u d;refine g _ _ _ _ _ _ d _ ?_;show(if j=M then Q .normal _ _ else Q (.exit j) _ _);grind;rename_i q;refine g _ _ _ _ _ _ h _ ?_;(cases e<;>first|exact f|simp_all);rename_i c;clear h;let r:dM->ae->Nat->Prop:=λb Y m=>ev P G T m (.loop c) b Y=V (e,τ',Y');let a:aG:=λb Y=>∃m,m<=n+1/\r b Y m;have i:∀b Y,∃m,a b Y->r b Y m/\(∀k,r b Y k->m<=k):=(by intro b Y;by_cases hI:a b Y;obtain⟨m,_,z⟩:=hI;obtain⟨k,d,v⟩:=bdK z;grind;simp_all);refine⟨a,λb Y=>Classical.choose<|i b Y,X,?_⟩;intro b Y hI;obtain⟨d,v⟩:=Classical.choose_spec (i b Y) hI;generalize z:Classical.choose (i b Y)=m at d v;have N:m<=n+1:=X;(cases m with|zero=>(cases d)|succ k=>have o:=B k Z;change aRL P G T (ev P G T k) (.loop c) b Y=_ at d;unfold aRL at d;simp only at d;split at d;rename_i l u C;refine o _ _ _ _ _ _ C _ ?_;have w:a l u:=⟨k,Z,d⟩;refine⟨w,?_⟩;grind;rename_i q;refine o _ _ _ _ _ _ d _ ?_;cases e<;>first|exact f|simp_all);(cases h;exact f);(cases h;exact f);cases h
end
end Go.Ab
