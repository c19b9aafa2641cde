/- Part of the proof of EncodeRecorded. -/
import Derived.Test.YtcceijpmabdflaaGreatDoorI
import Derived.Test.YtcceijpmabdflaaGreatDoorCards
import Derived.Test.YtcceijpmabdflaaGreatDoorTie
import Derived.SevenTiedAt
set_option linter.all false
open Bool renaming false->I,true->U
open Go.Proofs.Tryz renaming checked->Si,prog->aS
open Go.Value renaming okWide->a8f
open Go.World renaming doorLaid->ar8
open List renaming getElem?_eq_getElem->eC,getElem?_map->bj9,length->L
open Option renaming map_some->df,none->J,some->V,some.inj->xu,some.injEq->bE
namespace Go.Proofs.YtcceijpmabdflaaGreatDoor
open Go Go.Ab Go.RowKit Go.ChangeShapes Go.WideShapes Go.ChangeAt Go.Deep
theorem own:ownKnob aS.godebug=J:=by kernel_rfl
def anb:laidOutB aS=U:=by kernel_rfl
def gKw:aS.globalNamed "interleave/token.keywords" =V 0:=by kernel_rfl
def tKw:(aS.globals[0]?).map (·.type)=V 339:=by kernel_rfl
abbrev yi:List (String×DataW Unit):=[("interleave/token.keywords",Rows.laid_interleave_token_keywords)]
theorem aC1:Rows.laid_interleave_token_keywords=(.agg (ik.map λs=>(.lit (.string s.data.toList):DataW Unit)):DataW Unit):=rfl
def z9':aS.cellsOf 9=1:=by kernel_rfl
def gok{W:World}(h:laidMetH aS yi W):md GG (tg W) W [] β0:=by rw[MakeChecks.laidMetH_plain _ _ _<|by kernel_rfl] at h;obtain⟨P,⟨g0,S,e,N,p0,R,n,B,C,v,_⟩,_,_⟩:=h;obtain rfl:=xu<|gKw.symm.trans n;obtain rfl:=xu<|tKw.symm.trans B;obtain⟨xs,m1,rfl,i,M,O,w⟩:=DataW.trod_array Tryz.underlying339 v;rw[aC1] at i;simp only[Prod.mk.injEq,DataW.agg.injEq] at i;have A:L ik=22:=rfl;have d:∀j,j<22->W.cell? ⟨0,j,J⟩=V (.string<|gd ik j):=(by intro j r;have m:=w j r;rw[z9',eC<|show j<L xs by omega] at m;obtain⟨s,D,E,_⟩:=DataW.trod_string Tryz.underlying9 m;have f:(xs[j]'(by omega)).1= .lit (.string (gd ik j).data.toList):=(by have p:(xs.map (·.1))[j]?=(ik.map λs=>(.lit (.string s.data.toList):DataW Unit))[j]?:=(by rw[i.1]);rw[bj9,bj9,eC (show j<L xs by omega),eC<|show j<L ik by omega] at p;simp only[df,bE] at p;rw[p,bT<|show j<L ik by omega]);rw[E] at f;simp only[DataW.lit.injEq,Lit.string.injEq] at f;have F:s=gd ik j:=(by obtain⟨⟨a⟩⟩:=s;generalize gd ik j=k at f;obtain⟨⟨b⟩⟩:=k;simp only at f;rw[f]);have G:=World.var?_cell n C j;rw[G];have H:e.toList[j]?=V (.string s):=(by have t:(e.toList.drop<|j*1).take 1=[.string s]:=D;rw[Nat.mul_one] at t;have K:(e.toList.drop j)[0]?=V (.string s):=(by have:=brR (λl=>l[0]?) t;simpa using this);simpa using K);rw[<-Array.getElem?_toList,H,F]);intro g cs y;have z:g=0/\cs=pI:=(by rcases g with _|g;exact⟨rfl,(xu<|show V pI=V cs from y).symm⟩;cases(show(J:Option<|List AV)=V cs from y));obtain⟨rfl,rfl⟩:=z;have o:∀j x,pI[j]?=V x->j<22/\x= .s (.string<|gd ik j):=(by intro j x c;have r:j<22:=(by have:=(List.getElem?_eq_some_iff.1 c).1;simpa[pI,A] using this);refine⟨r,?_⟩;have m:pI[j]?=(ik.map λs=>AV.s<|.string s)[j]?:=rfl;rw[m,bj9,eC<|show j<L ik by omega] at c;simp only[df,bE] at c;rw[<-c,bT<|show j<L ik by omega]);refine⟨rfl, .q (λh=>h) (λj=> .string<|gd ik j) ?_ (λb x u=>by rw[sK] at u;cases u) (λj x c=>?_) (λj x c=>?_)<|λj x c=>rfl⟩;exact World.block_lt_of_cell? W _ (d 0<|by decide);rw[Nat.zero_add];exact d j (o j x c).1;rw[(o j x c).2];exact .s rfl
def aMX{W:World}{c:Value}{v:aOA}(n:laidMetH aS yi W)(l:ba (tg W) W [] β0 c<|.a v.cs)(g:aSr v):Calls aS 6 #[c] W λe d=>e= .returned (.bool U)/\Below W.heap.size W d:=by obtain⟨r,rfl,_,p⟩:=bBe v g;refine(p.2 (λ_=>False) W [c] (λk h=>h.elim) (gok n) ⟨rfl,λi v y b j=>?_⟩).mono ?_;rcases i with _|i;simp at b j;rw[<-b,<-j];exact l;simp at b;rintro e d ⟨v,r,f,rfl,b,o⟩;obtain⟨m,_⟩:=b.s_inv;rw[m] at f;exact⟨f,o⟩
def axD(os:Os)(a:Array Value):laidMetH aS yi ((ar8 aS 400 os).forCall (λ_ _=>0) ⟨#[],a,[]⟩).memory:=laidMetH_of_parts3 (fuel:=8) (laidMet_of_run' 8 (by kernel_rfl)<|by kernel_rfl) (by kernel_rfl) (by kernel_rfl)
set_option maxRecDepth 100000 in
def aDa(os:Os)(f:os.Started)(H:Type)(enc:TypeId×Value->H):
  ReturnsInHanded {} Si os 6 .any (λw b=>(Rows.encodeRecordedSpec.pre enc aS Tryz.f6 [] I w b/\laidMetH aS yi w)/\sizedMet enc aS Tryz.f6 (OpenSpec.ofChange Rows.encodeRecordedSpec) I w b)
   (Rows.encodeRecordedSpec.post enc aS Tryz.f6 I U I I):=by
 refine returnsInHanded_of_change_and (C:=Si) (X:=λw _=>laidMetH aS yi w) (λ_ _ _ hh h=>h.of_heap hh) own f (by kernel_rfl) Tryz.func6
  (ChangeSpec.witness_shaped (enc:=enc) (C:=Si) (os:=os) (X:=λw _=>laidMetH aS yi w) I (ar8 aS 400 os) #[.agg #[.slice J 0 0, .slice J 0 0, .slice J 0 0, .int .u8 0, .int .u8 0]] 8 rfl (World.shaped_of_RefB (by kernel_rfl)<|by kernel_rfl) (by kernel_rfl) (by kernel_rfl) (by kernel_rfl) (axD os _)) ?_
 intro W u b ds T A c F _ g Z _
 have i:∀(j:Nat) t v,Tryz.f6.params[j]?=V t->b[j]?=V v->a8f aS W .any u t v:=c
 have G:=F
 obtain⟨p,q,o,hV,rfl,ak,al⟩:=F
 have E:DataW.TrodAll enc aS W 0 (λ_=>U) U Tryz.f6.params.toList b.toList ds p:=o
 have r:(DataW.weightsEach aS (Tryz.f6.params.toList++Rows.encodeRecordedSpec.plain.varTypes aS)<|ds++T).all (·<=reachBytes)=U:=g
 rw[Tryz.params6] at E i r
 obtain⟨R,am,B,ah,p0,q0,S,rfl,rfl,D,r0⟩:=trodAll_cons E
 obtain⟨rfl,rfl,rfl⟩:=trodAll_nil r0
 obtain rfl:b=#[R]:=by cases b;simp_all
 obtain⟨rfl,rfl⟩:=trodVars_none hV
 have z:=i 0 24 R rfl rfl
 unfold a8f at z
 rw[Tryz.underlying24] at z
 obtain⟨c0,rfl,_⟩:=z
 have O:=D
 have P:∀x∈p0,x.block<W.heap.size:=by obtain⟨m,y⟩:=O;exact DataW.trod_lt m _ _ _ y
 have wt:∀{j:Nat} {t:TypeId} {d:DataW H},([24]:List TypeId)[j]?=V t->[B][j]?=V d->∀n∈d.weights aS t,n<=reachBytes:=by
  intro j t d N hd n hn
  have y:=DataW.weights_mem_each (ts:=(#[24]:Array TypeId).toList++Rows.encodeRecordedSpec.plain.varTypes aS) (ds:=[B]++[]) (j:=j) (t:=t) (d:=d) (by
   rcases j with _|j
   ·exact N
   ·simp at N) (by simpa using hd) n hn
  simpa using List.all_eq_true.1 r _ y
 obtain⟨k,K⟩:=D
 obtain⟨v,M,s⟩:=bdX (enc:=enc) (W:=W) k c0.toList _ K<|wt (j:=0) rfl rfl
 have e0:ba (tg W) W [] β0 (.agg c0) (.a v.cs):=by
  have:=ba.a (κ:=tg W) (w:=W) (Y:=[]) (β:=β0) s.len s.cell s.rep
  simpa using this
 clear o c g
 refine(aMX Z e0 M).mono λe W' ⟨he,l⟩=>?_
 subst he
 exact⟨_,rfl,_,_,_,[],_,[],G,trodAll_mk1<|shut_bool Tryz.underlying4 _,trodAll_cons_mk (Below.trod anb (by kernel_rfl) (aNR<|by kernel_rfl) O l P) trodAll_mk0,rfl,l.frame _,λh=>by cases h⟩
end Go.Proofs.YtcceijpmabdflaaGreatDoor
