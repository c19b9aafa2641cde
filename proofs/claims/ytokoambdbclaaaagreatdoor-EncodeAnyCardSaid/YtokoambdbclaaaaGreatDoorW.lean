/- EncodeAny (its card) is proved: for every window and every goal the law returns true and its arguments read as they did. There is no condition. -/
import Derived.Test.YtokoambdbclaaaaGreatDoorV
import Derived.Test.YtokoambdbclaaaaGreatDoorCards
import Derived.Test.YtokoambdbclaaaaGreatDoorTie
import Derived.SevenTiedAt
set_option linter.all false
open Bool renaming false->I,true->U
open Go.Proofs.Tryz renaming checked->Si,f3->vI,func3->GX,params3->arK,prog->aS
open Go.Value renaming okWide->arL
open Go.World renaming doorLaid->ar8
open List renaming getElem?_eq_getElem->eC,getElem?_map->fp,length->L
open Option renaming map_some->df,none->J,some->V,some.inj->xu,some.injEq->bE
namespace Go.Proofs.YtokoambdbclaaaaGreatDoor
open Go Go.Ab Go.RowKit Go.ChangeShapes Go.WideShapes Go.ChangeAt Go.Deep
theorem own:ownKnob aS.godebug=J:=by kernel_rfl
theorem anb:laidOutB aS=U:=by kernel_rfl
theorem gKw:aS.globalNamed "interleave/token.keywords" =V 0:=by kernel_rfl
theorem tKw:(aS.globals[0]?).map (·.type)=V 187:=by kernel_rfl
abbrev yi:List (String×DataW Unit):=[("interleave/token.keywords",Rows.laid_interleave_token_keywords)]
theorem aC1:Rows.laid_interleave_token_keywords=(.agg (ik.map λs=>(.lit (.string s.data.toList):DataW Unit)):DataW Unit):=rfl
theorem z9':aS.cellsOf 9=1:=by kernel_rfl
theorem gok{W:World}(h:laidMetH aS yi W):md GG (tg W) W [] β0:=by rw[MakeChecks.laidMetH_plain _ _ _ (by kernel_rfl)] at h;obtain⟨P,⟨g0,S,e,N,p0,R,n,B,C,v,_⟩,_,_⟩:=h;obtain rfl:=xu (gKw.symm.trans n);obtain rfl:=xu (tKw.symm.trans B);obtain⟨xs,m1,rfl,i,M,O,w⟩:=DataW.trod_array Tryz.underlying187 v;rw[aC1] at i;simp only[Prod.mk.injEq,DataW.agg.injEq] at i;have A:L ik=22:=rfl;have d:∀j,j<22->W.cell? ⟨0,j,J⟩=V (.string (gd ik j)):=(by intro j r;have m:=w j r;rw[z9',eC (show j<L xs by omega)] at m;obtain⟨s,D,E,_⟩:=DataW.trod_string Tryz.underlying9 m;have f:(xs[j]'(by omega)).1= .lit (.string (gd ik j).data.toList):=(by have p:(xs.map (·.1))[j]?=(ik.map λs=>(.lit (.string s.data.toList):DataW Unit))[j]?:=(by rw[i.1]);rw[fp,fp,eC (show j<L xs by omega),eC (show j<L ik by omega)] at p;simp only[df,bE] at p;rw[p,bT (show j<L ik by omega)]);rw[E] at f;simp only[DataW.lit.injEq,Lit.string.injEq] at f;have F:s=gd ik j:=(by obtain⟨⟨a⟩⟩:=s;generalize gd ik j=k at f;obtain⟨⟨b⟩⟩:=k;simp only at f;rw[f]);have G:=World.var?_cell n C j;rw[G];have H:e.toList[j]?=V (.string s):=(by have t:(e.toList.drop (j*1)).take 1=[.string s]:=D;rw[Nat.mul_one] at t;have K:(e.toList.drop j)[0]?=V (.string s):=(by have:=congrArg (λl=>l[0]?) t;simpa using this);simpa using K);rw[<-Array.getElem?_toList,H,F]);intro g cs y;have z:g=0/\cs=pI:=(by rcases g with _|g;exact⟨rfl,(xu (show V pI=V cs from y)).symm⟩;cases(show(J:Option (List AV))=V cs from y));obtain⟨rfl,rfl⟩:=z;have o:∀j x,pI[j]?=V x->j<22/\x= .s (.string (gd ik j)):=(by intro j x c;have r:j<22:=(by have:=(List.getElem?_eq_some_iff.1 c).1;simpa[pI,A] using this);refine⟨r,?_⟩;have m:pI[j]?=(ik.map λs=>AV.s (.string s))[j]?:=rfl;rw[m,fp,eC (show j<L ik by omega)] at c;simp only[df,bE] at c;rw[<-c,bT (show j<L ik by omega)]);refine⟨rfl, .q (λh=>h) (λj=> .string (gd ik j)) ?_ (λb x u=>by rw[sK] at u;cases u) (λj x c=>?_) (λj x c=>?_) (λj x c=>rfl)⟩;exact World.block_lt_of_cell? W _ (d 0 (by decide));rw[Nat.zero_add];exact d j (o j x c).1;rw[(o j x c).2];exact .s rfl
theorem aMX{W:World}{f j:Value}{w:am}{g:cJ}(q:laidMetH aS yi W)(n:ba (tg W) W [] β0 f (.a w.c))(o:ba (tg W) W [] β0 j (.a g.c))(u:hU w)(t:L g.cW<4611686018427387904):Calls aS LS #[f,j] W λe l=>e= .returned (.bool U)/\Below W.heap.size W l:=by obtain⟨r,rfl,_,x⟩:=aCx w g ⟨u,t⟩;refine(x.2 (λ_=>False) W [f,j] (λk h=>h.elim) (gok q) ⟨rfl,λi v y b d=>?_⟩).mono ?_;rcases i with _|_|i;simp at b d;rw[<-b,<-d];exact n;simp at b d;rw[<-b,<-d];exact o;simp at b;rintro e l ⟨v,r,m,rfl,b,s⟩;obtain⟨p,_⟩:=b.s_inv;rw[p] at m;exact⟨m,s⟩
theorem axD(os:Os)(a:Array Value):laidMetH aS yi ((ar8 aS 400 os).forCall (λ_ _=>0) ⟨#[],a,[]⟩).memory:=laidMetH_of_parts3 (fuel:=8) (laidMet_of_run' 8 (by kernel_rfl) (by kernel_rfl)) (by kernel_rfl) (by kernel_rfl)
set_option maxRecDepth 100000 in
theorem aDa(os:Os)(k:os.Started)(H:Type)(enc:TypeId×Value->H):
  ReturnsInHanded {} Si os 3 .any (λw b=>(Rows.encodeAnySpec.pre enc aS vI [] I w b/\laidMetH aS yi w)/\sizedMet enc aS vI (OpenSpec.ofChange Rows.encodeAnySpec) I w b)
   (Rows.encodeAnySpec.post enc aS vI I U I I):=by
 refine returnsInHanded_of_change_and (C:=Si) (X:=λw _=>laidMetH aS yi w) (λ_ _ _ hh h=>h.of_heap hh) own k (by kernel_rfl) GX
  (ChangeSpec.witness_shaped (enc:=enc) (C:=Si) (os:=os) (X:=λw _=>laidMetH aS yi w) I (ar8 aS 400 os) #[.agg #[.slice J 0 0, .slice J 0 0, .slice J 0 0, .slice J 0 0, .slice J 0 0, .slice J 0 0, .int .i64 0, .slice J 0 0, .int .i64 0, .slice J 0 0, .slice J 0 0, .slice J 0 0, .slice J 0 0, .slice J 0 0, .slice J 0 0], .agg #[.int .i64 0, .int .i64 0, .int .i64 0, .int .i64 0, .int .i64 0, .slice J 0 0]] 8 rfl (World.shaped_of_RefB (by kernel_rfl) (by kernel_rfl)) (by kernel_rfl) (by kernel_rfl) (by kernel_rfl) (axD os _)) ?_
 intro W D b ds gs K i Z _ r hL _
 have f:∀(j:Nat) t v,vI.params[j]?=V t->b[j]?=V v->arL aS W .any D t v:=i
 have aa:=Z
 obtain⟨p,q,y,hV,rfl,aD,aE⟩:=Z
 have T:DataW.TrodAll enc aS W 0 (λ_=>U) U vI.params.toList b.toList ds p:=y
 have z:(DataW.weightsEach aS (vI.params.toList++Rows.encodeAnySpec.plain.varTypes aS) (ds++gs)).all (·<=reachBytes)=U:=r
 rw[arK] at T f z
 obtain⟨v0,aF,O,aB,p0,q0,an,rfl,rfl,R,r0⟩:=trodAll_cons T
 obtain⟨v1,aG,P,aC,p1,q1,rfl,rfl,rfl,S,r1⟩:=trodAll_cons r0
 obtain⟨rfl,rfl,rfl⟩:=trodAll_nil r1
 obtain rfl:b=#[v0,v1]:=by cases b;simp_all
 obtain⟨rfl,rfl⟩:=trodVars_none hV
 have G:=f 0 40 v0 rfl rfl
 have o1:=f 1 42 v1 rfl rfl
 unfold arL at G o1
 rw[Tryz.underlying40] at G
 rw[Tryz.underlying42] at o1
 obtain⟨M,rfl,_⟩:=G
 obtain⟨N,rfl,_⟩:=o1
 have k0:=R
 have k1:=S
 have ag:∀x∈p0,x.block<W.heap.size:=by obtain⟨m,o⟩:=k0;exact DataW.trod_lt m _ _ _ o
 have ah:∀x∈p1,x.block<W.heap.size:=by obtain⟨m,o⟩:=k1;exact DataW.trod_lt m _ _ _ o
 have wt:∀{j:Nat} {t:TypeId} {d:DataW H},([40,42]:List TypeId)[j]?=V t->[O,P][j]?=V d->∀n∈d.weights aS t,n<=reachBytes:=by
  intro j t d F hd n hn
  have o:=DataW.weights_mem_each (ts:=(#[40,42]:Array TypeId).toList++Rows.encodeAnySpec.plain.varTypes aS) (ds:=[O,P]++[]) (j:=j) (t:=t) (d:=d) (by
   rcases j with _|_|j
   ·exact F
   ·exact F
   ·simp at F) (by simpa using hd) n hn
  simpa using List.all_eq_true.1 z _ o
 obtain⟨s,ab⟩:=R
 obtain⟨u,ac⟩:=S
 obtain⟨w,E,A⟩:=aEH (enc:=enc) (W:=W) s M.toList _ ab (wt (j:=0) rfl rfl)
 obtain⟨g,ad,B⟩:=aEI (enc:=enc) (W:=W) u N.toList _ ac (wt (j:=1) rfl rfl)
 have e0:ba (tg W) W [] β0 (.agg M) (.a w.c):=by
  have:=ba.a (κ:=tg W) (w:=W) (Y:=[]) (β:=β0) A.len A.cell A.rep
  simpa using this
 have e1:ba (tg W) W [] β0 (.agg N) (.a g.c):=by
  have:=ba.a (κ:=tg W) (w:=W) (Y:=[]) (β:=β0) B.len B.cell B.rep
  simpa using this
 clear y i r
 refine(aMX hL e0 e1 E (Nat.lt_of_le_of_lt ad (by decide))).mono λe W' ⟨he,l⟩=>?_
 subst he
 exact⟨_,rfl,_,_,_,[],_,[],aa,trodAll_mk1 (shut_bool Tryz.underlying4 _),(trodAll_cons_mk (Below.trod anb (by kernel_rfl) (of_decide_eq_true (by kernel_rfl)) k0 l ag) (trodAll_cons_mk (Below.trod anb (by kernel_rfl) (of_decide_eq_true (by kernel_rfl)) k1 l ah) trodAll_mk0)),rfl,l.frame _,λh=>by cases h⟩
theorem axH:Rows.EncodeAnySaid:=OpenClaim.holds_of_wide 3 vI rfl rfl rfl rfl rfl rfl rfl ⟨rfl,rfl,rfl,rfl,rfl⟩ rfl rfl rfl rfl rfl (by kernel_rfl) GX (by kernel_rfl) (of_decide_eq_true (by kernel_rfl)) (by unfold Func.isWrapper;first|(rw[if_pos (by decide+kernel)];kernel_rfl)|(rw[if_neg (by decide+kernel)];exact⟨rfl,rfl⟩)) (λos a H enc _=>aDa os a H enc)
theorem encodeAny_holds:Rows.EncodeAnyCardSaid:=
 Claim7.holds_tied_plain_at .later [] [.data] U (U, "3ed5f2d7544208b59097075c8bb4447d9ce433e76d2c78090c7ee004df073d96") I
  axH (λ_ h=>by cases h) (by kernel_rfl) (λ_ h=>by cases h) encodeAny_row_tie rfl ⟨rfl,rfl⟩ (by kernel_rfl) rfl
  (λf fn d b=>by
   obtain rfl:f=3:=xu ((show aS.funcNamed "interleave/interleavelaw35.EncodeAny" =V 3 by kernel_rfl).symm.trans d)|>.symm
   obtain rfl:fn=vI:=(xu (GX.symm.trans b)).symm
   exact⟨by kernel_rfl,λj t c=>by
    rw[arK] at c
    have e:t∈[40,42]:=by simpa using Array.mem_of_getElem? c
    have a:([40,42].all λu=>!aS.wantsStandIn u)=U:=by kernel_rfl
    exact(show aS.wantsStandIn t=I by simpa using List.all_eq_true.1 a t e)⟩)
  (by kernel_rfl)
#print axioms encodeAny_holds
end Go.Proofs.YtokoambdbclaaaaGreatDoor
