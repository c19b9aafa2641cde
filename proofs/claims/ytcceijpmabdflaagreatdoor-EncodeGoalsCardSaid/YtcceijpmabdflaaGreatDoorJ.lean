/- Part of the proof of EncodeGoals. -/
import Derived.Test.YtcceijpmabdflaaGreatDoorI
import Derived.Test.YtcceijpmabdflaaGreatDoorCards
import Derived.Test.YtcceijpmabdflaaGreatDoorTie
import Derived.SevenTiedAt
set_option linter.all false
open Bool renaming false->I,true->U
open Go.Proofs.Tryz renaming checked->Si,f3->vI,prog->aS
open Go.Value renaming okWide->a8f
open Go.World renaming doorLaid->ar8
open List renaming getElem?_eq_getElem->eC,getElem?_map->bkb,length->L
open Option renaming map_some->df,none->J,some->V,some.inj->xu,some.injEq->bE
namespace Go.Proofs.YtcceijpmabdflaaGreatDoor
open Go Go.Ab Go.RowKit Go.ChangeShapes Go.WideShapes Go.ChangeAt Go.Deep
theorem own:ownKnob aS.godebug=J:=by kernel_rfl
def anb:laidOutB aS=U:=by kernel_rfl
def gKw:aS.globalNamed "interleave/token.keywords" =V 0:=by kernel_rfl
def tKw:(aS.globals[0]?).map (·.type)=V 339:=by kernel_rfl
abbrev yi:List (String×DataW Unit):=[("interleave/token.keywords",Rows.laid_interleave_token_keywords)]
theorem aC1:Rows.laid_interleave_token_keywords=(.agg (ik.map λs=>(.lit (.string s.data.toList):DataW Unit)):DataW Unit):=rfl
def z9':aS.cellsOf 9=1:=by kernel_rfl
def gok{W:World}(h:laidMetH aS yi W):md GG (tg W) W [] β0:=by rw[MakeChecks.laidMetH_plain _ _ _<|by kernel_rfl] at h;obtain⟨P,⟨g0,S,e,N,p0,R,n,B,C,v,_⟩,_,_⟩:=h;obtain rfl:=xu<|gKw.symm.trans n;obtain rfl:=xu<|tKw.symm.trans B;obtain⟨xs,m1,rfl,i,M,O,w⟩:=DataW.trod_array Tryz.underlying339 v;rw[aC1] at i;simp only[Prod.mk.injEq,DataW.agg.injEq] at i;have A:L ik=22:=rfl;have d:∀j,j<22->W.cell? ⟨0,j,J⟩=V (.string<|gd ik j):=(by intro j r;have m:=w j r;rw[z9',eC<|show j<L xs by omega] at m;obtain⟨s,D,E,_⟩:=DataW.trod_string Tryz.underlying9 m;have f:(xs[j]'(by omega)).1= .lit (.string (gd ik j).data.toList):=(by have p:(xs.map (·.1))[j]?=(ik.map λs=>(.lit (.string s.data.toList):DataW Unit))[j]?:=(by rw[i.1]);rw[bkb,bkb,eC (show j<L xs by omega),eC<|show j<L ik by omega] at p;simp only[df,bE] at p;rw[p,bT<|show j<L ik by omega]);rw[E] at f;simp only[DataW.lit.injEq,Lit.string.injEq] at f;have F:s=gd ik j:=(by obtain⟨⟨a⟩⟩:=s;generalize gd ik j=k at f;obtain⟨⟨b⟩⟩:=k;simp only at f;rw[f]);have G:=World.var?_cell n C j;rw[G];have H:e.toList[j]?=V (.string s):=(by have t:(e.toList.drop<|j*1).take 1=[.string s]:=D;rw[Nat.mul_one] at t;have K:(e.toList.drop j)[0]?=V (.string s):=(by have:=brD (λl=>l[0]?) t;simpa using this);simpa using K);rw[<-Array.getElem?_toList,H,F]);intro g cs y;have z:g=0/\cs=pI:=(by rcases g with _|g;exact⟨rfl,(xu<|show V pI=V cs from y).symm⟩;cases(show(J:Option<|dM)=V cs from y));obtain⟨rfl,rfl⟩:=z;have o:∀j x,pI[j]?=V x->j<22/\x= .s (.string<|gd ik j):=(by intro j x c;have r:j<22:=(by have:=(List.getElem?_eq_some_iff.1 c).1;simpa[pI,A] using this);refine⟨r,?_⟩;have m:pI[j]?=(ik.map λs=>AV.s<|.string s)[j]?:=rfl;rw[m,bkb,eC<|show j<L ik by omega] at c;simp only[df,bE] at c;rw[<-c,bT<|show j<L ik by omega]);refine⟨rfl, .q (λh=>h) (λj=> .string<|gd ik j) ?_ (λb x u=>by rw[sK] at u;cases u) (λj x c=>?_) (λj x c=>?_)<|λj x c=>rfl⟩;exact World.block_lt_of_cell? W _ (d 0<|by decide);rw[Nat.zero_add];exact d j (o j x c).1;rw[(o j x c).2];exact .s rfl
def aMX{W:World}{d f:Value}{v:aOA}{n:Int}(t:laidMetH aS yi W)(o:ba (tg W) W [] β0 d<|.a v.cs)(p:ba (tg W) W [] β0 f<|.s<|.int .u8 n)(l:aSr v)(m:(0<=n/\n<256)):Calls aS 3 #[d,f] W λe g=>e= .returned (.bool U)/\Below W.heap.size W g:=by obtain⟨r,rfl,_,w⟩:=bvL v n ⟨l,m⟩;refine(w.2 (λ_=>False) W [d,f] (λk h=>h.elim) (gok t) ⟨rfl,λi v y b c=>?_⟩).mono ?_;rcases i with _|_|i;simp at b c;rw[<-b,<-c];exact o;simp at b c;rw[<-b,<-c];exact p;simp at b;rintro e g ⟨v,r,j,rfl,b,u⟩;obtain⟨q,_⟩:=b.s_inv;rw[q] at j;exact⟨j,u⟩
def axD(os:Os)(a:Array Value):laidMetH aS yi ((ar8 aS 400 os).forCall (λ_ _=>0) ⟨#[],a,[]⟩).memory:=laidMetH_of_parts3 (fuel:=8) (laidMet_of_run' 8 (by kernel_rfl)<|by kernel_rfl) (by kernel_rfl) (by kernel_rfl)
set_option maxRecDepth 100000 in
def aDa(os:Os)(g:os.Started)(H:Type)(enc:TypeId×Value->H):
  ReturnsInHanded {} Si os 3 .any (λw b=>(Rows.encodeGoalsSpec.pre enc aS vI [] I w b/\laidMetH aS yi w)/\sizedMet enc aS vI (OpenSpec.ofChange Rows.encodeGoalsSpec) I w b)
   (Rows.encodeGoalsSpec.post enc aS vI I U I I):=by
 refine returnsInHanded_of_change_and (C:=Si) (X:=λw _=>laidMetH aS yi w) (λ_ _ _ hh h=>h.of_heap hh) own g (by kernel_rfl) Tryz.func3
  (ChangeSpec.witness_shaped (enc:=enc) (C:=Si) (os:=os) (X:=λw _=>laidMetH aS yi w) I (ar8 aS 400 os) #[.agg #[.slice J 0 0, .slice J 0 0, .slice J 0 0, .int .u8 0, .int .u8 0], .int .u8 0] 8 rfl (World.shaped_of_RefB (by kernel_rfl)<|by kernel_rfl) (by kernel_rfl) (by kernel_rfl) (by kernel_rfl) (axD os _)) ?_
 intro W A b ds gs F f P _ l hL _
 have c:∀(j:Nat) t v,vI.params[j]?=V t->b[j]?=V v->a8f aS W .any A t v:=f
 have R:=P
 obtain⟨p,q,s,hV,rfl,az,aA⟩:=P
 have O:DataW.TrodAll enc aS W 0 (λ_=>U) U vI.params.toList b.toList ds p:=s
 have y:(DataW.weightsEach aS (vI.params.toList++Rows.encodeGoalsSpec.plain.varTypes aS)<|ds++gs).all (·<=reachBytes)=U:=l
 rw[Tryz.params3] at O c y
 obtain⟨v0,aB,G,ax,p0,q0,ag,rfl,rfl,M,r0⟩:=trodAll_cons O
 obtain⟨E,aC,K,ay,p1,q1,rfl,rfl,rfl,N,r1⟩:=trodAll_cons r0
 obtain⟨rfl,rfl,rfl⟩:=trodAll_nil r1
 obtain rfl:b=#[v0,E]:=by cases b;simp_all
 obtain⟨rfl,rfl⟩:=trodVars_none hV
 have D:=c 0 24 v0 rfl rfl
 have o1:=c 1 5 E rfl rfl
 unfold a8f at D
 rw[Tryz.underlying24] at D
 obtain⟨c0,rfl,_⟩:=D
 have c1:=brM Tryz.underlying5 o1
 have k0:=M
 have k1:=N
 have ac:∀x∈p0,x.block<W.heap.size:=by obtain⟨m,k⟩:=k0;exact DataW.trod_lt m _ _ _ k
 have ad:∀x∈p1,x.block<W.heap.size:=by obtain⟨m,k⟩:=k1;exact DataW.trod_lt m _ _ _ k
 have wt:∀{j:Nat} {t:TypeId} {d:DataW H},([24,5]:List TypeId)[j]?=V t->[G,K][j]?=V d->∀n∈d.weights aS t,n<=reachBytes:=by
  intro j t d B hd n hn
  have k:=DataW.weights_mem_each (ts:=(#[24,5]:Array TypeId).toList++Rows.encodeGoalsSpec.plain.varTypes aS) (ds:=[G,K]++[]) (j:=j) (t:=t) (d:=d) (by
   rcases j with _|_|j
   ·exact B
   ·exact B
   ·simp at B) (by simpa using hd) n hn
  simpa using List.all_eq_true.1 y _ k
 obtain⟨o,S⟩:=M
 obtain⟨r,u⟩:=N
 obtain⟨v,T,z⟩:=bdX (enc:=enc) (W:=W) o c0.toList _ S<|wt (j:=0) rfl rfl
 have e0:ba (tg W) W [] β0 (.agg c0) (.a v.cs):=by
  have:=ba.a (κ:=tg W) (w:=W) (Y:=[]) (β:=β0) z.len z.cell z.rep
  simpa using this
 rw[c1] at u
 obtain⟨n,Z,R1⟩:=aXW Tryz.underlying5 (enc:=enc) (W:=W) r [E] _ u<|wt (j:=1) rfl rfl
 have e1:=R1.val
 clear s f l
 refine(aMX hL e0 e1 T Z).mono λe W' ⟨he,i⟩=>?_
 subst he
 exact⟨_,rfl,_,_,_,[],_,[],R,trodAll_mk1<|shut_bool Tryz.underlying4 _,trodAll_cons_mk (Below.trod anb (by kernel_rfl) (aNQ<|by kernel_rfl) k0 i ac)<|trodAll_cons_mk (Below.trod anb (by kernel_rfl) (aNQ<|by kernel_rfl) k1 i ad) trodAll_mk0,rfl,i.frame _,λh=>by cases h⟩
end Go.Proofs.YtcceijpmabdflaaGreatDoor
