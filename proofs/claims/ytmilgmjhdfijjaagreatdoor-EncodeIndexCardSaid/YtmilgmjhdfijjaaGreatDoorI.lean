/- EncodeIndex (its card) is proved: for every input the law returns true and its arguments read as they did. There is no condition. -/
import Derived.Test.YtmilgmjhdfijjaaGreatDoorH
import Derived.Test.YtmilgmjhdfijjaaGreatDoorCards
import Derived.Test.YtmilgmjhdfijjaaGreatDoorTie
import Derived.SevenTiedAt
set_option linter.all false
open Bool renaming false->I,true->U
open Go.Proofs.Tryz renaming checked->Si,prog->aS
open Go.Value renaming okWide->a8f
open Go.World renaming doorLaid->ar8
open List renaming getElem?_eq_getElem->eC,getElem?_map->ve,length->L
open Option renaming map_some->df,none->J,some->V,some.inj->xu,some.injEq->bE
namespace Go.Proofs.YtmilgmjhdfijjaaGreatDoor
open Go Go.Ab Go.RowKit Go.ChangeShapes Go.WideShapes Go.ChangeAt Go.Deep
def own:ownKnob aS.godebug=J:=by kernel_rfl
def anb:laidOutB aS=U:=by kernel_rfl
def gKw:aS.globalNamed "interleave/token.keywords" =V 0:=by kernel_rfl
def tKw:(aS.globals[0]?).map (·.type)=V 285:=by kernel_rfl
abbrev yi:List (String×DataW Unit):=[("interleave/token.keywords",Rows.laid_interleave_token_keywords)]
theorem aC1:Rows.laid_interleave_token_keywords=(.agg (ik.map λs=>(.lit (.string s.data.toList):DataW Unit)):DataW Unit):=rfl
def z9':aS.cellsOf 9=1:=by kernel_rfl
def gok{W:World}(h:laidMetH aS yi W):md GG (tg W) W [] β0:=by rw[MakeChecks.laidMetH_plain _ _ _ (by kernel_rfl)] at h;obtain⟨P,⟨g0,S,e,N,p0,R,n,B,C,v,_⟩,_,_⟩:=h;obtain rfl:=xu (gKw.symm.trans n);obtain rfl:=xu (tKw.symm.trans B);obtain⟨xs,m1,rfl,i,M,O,w⟩:=DataW.trod_array Tryz.underlying285 v;rw[aC1] at i;simp only[Prod.mk.injEq,DataW.agg.injEq] at i;have A:L ik=22:=rfl;have d:∀j,j<22->W.cell? ⟨0,j,J⟩=V (.string (gd ik j)):=(by intro j r;have m:=w j r;rw[z9',eC (show j<L xs by omega)] at m;obtain⟨s,D,E,_⟩:=DataW.trod_string Tryz.underlying9 m;have f:(xs[j]'(by omega)).1= .lit (.string (gd ik j).data.toList):=(by have p:(xs.map (·.1))[j]?=(ik.map λs=>(.lit (.string s.data.toList):DataW Unit))[j]?:=(by rw[i.1]);rw[ve,ve,eC (show j<L xs by omega),eC (show j<L ik by omega)] at p;simp only[df,bE] at p;rw[p,bT (show j<L ik by omega)]);rw[E] at f;simp only[DataW.lit.injEq,Lit.string.injEq] at f;have F:s=gd ik j:=(by obtain⟨⟨a⟩⟩:=s;generalize gd ik j=k at f;obtain⟨⟨b⟩⟩:=k;simp only at f;rw[f]);have G:=World.var?_cell n C j;rw[G];have H:e.toList[j]?=V (.string s):=(by have t:(e.toList.drop (j*1)).take 1=[.string s]:=D;rw[Nat.mul_one] at t;have K:(e.toList.drop j)[0]?=V (.string s):=(by have:=aNJ (λl=>l[0]?) t;simpa using this);simpa using K);rw[<-Array.getElem?_toList,H,F]);intro g cs y;have z:g=0/\cs=pI:=(by rcases g with _|g;exact⟨rfl,(xu (show V pI=V cs from y)).symm⟩;cases(show(J:Option (List AV))=V cs from y));obtain⟨rfl,rfl⟩:=z;have o:∀j x,pI[j]?=V x->j<22/\x= .s (.string (gd ik j)):=(by intro j x c;have r:j<22:=(by have:=(List.getElem?_eq_some_iff.1 c).1;simpa[pI,A] using this);refine⟨r,?_⟩;have m:pI[j]?=(ik.map λs=>AV.s (.string s))[j]?:=rfl;rw[m,ve,eC (show j<L ik by omega)] at c;simp only[df,bE] at c;rw[<-c,bT (show j<L ik by omega)]);refine⟨rfl, .q (λh=>h) (λj=> .string (gd ik j)) ?_ (λb x u=>by rw[sK] at u;cases u) (λj x c=>?_) (λj x c=>?_) (λj x c=>rfl)⟩;exact World.block_lt_of_cell? W _ (d 0 (by decide));rw[Nat.zero_add];exact d j (o j x c).1;rw[(o j x c).2];exact .s rfl
def aMX{W:World}{f g:Value}{v:aOA}{n:ap}(q:laidMetH aS yi W)(m:ba (tg W) W [] β0 f (.a v.cs))(o:ba (tg W) W [] β0 g (.a n.c))(b:aSr v):Calls aS 4 #[f,g] W λe j=>e= .returned (.bool U)/\Below W.heap.size W j:=by obtain⟨r,rfl,_,t⟩:=be6 v n b;refine(t.2 (λ_=>False) W [f,g] (λk h=>h.elim) (gok q) ⟨rfl,λi v y b d=>?_⟩).mono ?_;rcases i with _|_|i;simp at b d;rw[<-b,<-d];exact m;simp at b d;rw[<-b,<-d];exact o;simp at b;rintro e j ⟨v,r,l,rfl,b,s⟩;obtain⟨p,_⟩:=b.s_inv;rw[p] at l;exact⟨l,s⟩
def axD(os:Os)(a:Array Value):laidMetH aS yi ((ar8 aS 400 os).forCall (λ_ _=>0) ⟨#[],a,[]⟩).memory:=laidMetH_of_parts3 (fuel:=8) (laidMet_of_run' 8 (by kernel_rfl) (by kernel_rfl)) (by kernel_rfl) (by kernel_rfl)
set_option maxRecDepth 100000 in
def aDa(os:Os)(i:os.Started)(H:Type)(enc:TypeId×Value->H):
  ReturnsInHanded {} Si os 4 .any (λw b=>(Rows.encodeIndexSpec.pre enc aS Tryz.f4 [] I w b/\laidMetH aS yi w)/\sizedMet enc aS Tryz.f4 (OpenSpec.ofChange Rows.encodeIndexSpec) I w b)
   (Rows.encodeIndexSpec.post enc aS Tryz.f4 I U I I):=by
 refine returnsInHanded_of_change_and (C:=Si) (X:=λw _=>laidMetH aS yi w) (λ_ _ _ hh h=>h.of_heap hh) own i (by kernel_rfl) Tryz.func4
  (ChangeSpec.witness_shaped (enc:=enc) (C:=Si) (os:=os) (X:=λw _=>laidMetH aS yi w) I (ar8 aS 400 os) #[.agg #[.slice J 0 0, .slice J 0 0, .slice J 0 0, .int .u8 0, .int .u8 0], .agg #[.int .i64 0, .int .i64 0, .int .i64 0]] 8 rfl (World.shaped_of_RefB (by kernel_rfl) (by kernel_rfl)) (by kernel_rfl) (by kernel_rfl) (by kernel_rfl) (axD os _)) ?_
 intro W B b ds gs F g S _ o hL _
 have f:∀(j:Nat) t v,Tryz.f4.params[j]?=V t->b[j]?=V v->a8f aS W .any B t v:=g
 have T:=S
 obtain⟨p,q,u,hV,rfl,aB,aC⟩:=S
 have R:DataW.TrodAll enc aS W 0 (λ_=>U) U Tryz.f4.params.toList b.toList ds p:=u
 have y:(DataW.weightsEach aS (Tryz.f4.params.toList++Rows.encodeIndexSpec.plain.varTypes aS) (ds++gs)).all (·<=reachBytes)=U:=o
 rw[Tryz.params4] at R f y
 obtain⟨v0,aE,M,az,p0,q0,al,rfl,rfl,O,r0⟩:=trodAll_cons R
 obtain⟨v1,aF,N,aA,p1,q1,rfl,rfl,rfl,P,r1⟩:=trodAll_cons r0
 obtain⟨rfl,rfl,rfl⟩:=trodAll_nil r1
 obtain rfl:b=#[v0,v1]:=by cases b;simp_all
 obtain⟨rfl,rfl⟩:=trodVars_none hV
 have E:=f 0 24 v0 rfl rfl
 have o1:=f 1 51 v1 rfl rfl
 unfold a8f at E
 rw[Tryz.underlying24] at E
 obtain⟨G,rfl,_⟩:=E
 unfold a8f at o1
 rw[Tryz.underlying51] at o1
 obtain⟨K,rfl,_⟩:=o1
 have k0:=O
 have k1:=P
 have ae:∀x∈p0,x.block<W.heap.size:=by obtain⟨m,l⟩:=k0;exact DataW.trod_lt m _ _ _ l
 have af:∀x∈p1,x.block<W.heap.size:=by obtain⟨m,l⟩:=k1;exact DataW.trod_lt m _ _ _ l
 have wt:∀{j:Nat} {t:TypeId} {d:DataW H},([24,51]:List TypeId)[j]?=V t->[M,N][j]?=V d->∀n∈d.weights aS t,n<=reachBytes:=by
  intro j t d D hd n hn
  have l:=DataW.weights_mem_each (ts:=(#[24,51]:Array TypeId).toList++Rows.encodeIndexSpec.plain.varTypes aS) (ds:=[M,N]++[]) (j:=j) (t:=t) (d:=d) (by
   rcases j with _|_|j
   ·exact D
   ·exact D
   ·simp at D) (by simpa using hd) n hn
  simpa using List.all_eq_true.1 y _ l
 obtain⟨r,Z⟩:=O
 obtain⟨s,aa⟩:=P
 obtain⟨v,ab,z⟩:=bdX (enc:=enc) (W:=W) r G.toList _ Z (wt (j:=0) rfl rfl)
 obtain⟨n,aD,A⟩:=bfn (enc:=enc) (W:=W) s K.toList _ aa (wt (j:=1) rfl rfl)
 have e0:ba (tg W) W [] β0 (.agg G) (.a v.cs):=by
  have:=ba.a (κ:=tg W) (w:=W) (Y:=[]) (β:=β0) z.len z.cell z.rep
  simpa using this
 have e1:ba (tg W) W [] β0 (.agg K) (.a n.c):=by
  have:=ba.a (κ:=tg W) (w:=W) (Y:=[]) (β:=β0) A.len A.cell A.rep
  simpa using this
 clear u g o
 refine(aMX hL e0 e1 ab).mono λe W' ⟨he,k⟩=>?_
 subst he
 exact⟨_,rfl,_,_,_,[],_,[],T,trodAll_mk1 (shut_bool Tryz.underlying4 _),(trodAll_cons_mk (Below.trod anb (by kernel_rfl) (nt (by kernel_rfl)) k0 k ae) (trodAll_cons_mk (Below.trod anb (by kernel_rfl) (nt (by kernel_rfl)) k1 k af) trodAll_mk0)),rfl,k.frame _,λh=>by cases h⟩
theorem bcU:Rows.EncodeIndexSaid:=OpenClaim.holds_of_wide 4 Tryz.f4 rfl rfl rfl rfl rfl rfl rfl ⟨rfl,rfl,rfl,rfl,rfl⟩ rfl rfl rfl rfl rfl (by kernel_rfl) Tryz.func4 (by kernel_rfl) (nt (by kernel_rfl)) (by unfold Func.isWrapper;first|(rw[bX (by decide+kernel)];kernel_rfl)|(rw[cj (by decide+kernel)];exact⟨rfl,rfl⟩)) (λos a H enc _=>aDa os a H enc)
theorem encodeIndex_holds:Rows.EncodeIndexCardSaid:=
 Claim7.holds_tied_plain_at .later [] [.data] U (U, "43c190d0380a8584e5d394e07d57aef1b6bd53e3bc6ae71de84331208c346ea3") I
  bcU (λ_ h=>by cases h) (by kernel_rfl) (λ_ h=>by cases h) encodeIndex_row_tie rfl ⟨rfl,rfl⟩ (by kernel_rfl) rfl
  (λf fn d b=>by
   obtain rfl:f=4:=xu ((show aS.funcNamed "interleave/interleavelaw35.EncodeIndex" =V 4 by kernel_rfl).symm.trans d)|>.symm
   obtain rfl:fn=Tryz.f4:=(xu (Tryz.func4.symm.trans b)).symm
   exact⟨by kernel_rfl,λj t c=>by
    rw[Tryz.params4] at c
    have e:t∈[24,51]:=by simpa using Array.mem_of_getElem? c
    have a:([24,51].all λu=>!aS.wantsStandIn u)=U:=by kernel_rfl
    exact(show aS.wantsStandIn t=I by simpa using List.all_eq_true.1 a t e)⟩)
  (by kernel_rfl)
#print axioms encodeIndex_holds
end Go.Proofs.YtmilgmjhdfijjaaGreatDoor
