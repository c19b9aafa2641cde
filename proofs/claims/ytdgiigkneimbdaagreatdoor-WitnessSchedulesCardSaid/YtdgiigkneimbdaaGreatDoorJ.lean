/- Part of the proof of WitnessSchedules. -/
import Derived.Test.YtdgiigkneimbdaaGreatDoorI
import Derived.Test.YtdgiigkneimbdaaGreatDoorCards
import Derived.Test.YtdgiigkneimbdaaGreatDoorTie
import Derived.SevenTiedAt
set_option linter.all false
open Bool renaming false->I,true->U
open Go.Proofs.Tryz renaming checked->Si,f3->vI,prog->aS
open Go.Value renaming okWide->a8f
open Go.World renaming doorLaid->ar8
open List renaming getElem?_eq_getElem->eC,getElem?_map->ve,length->L
open Option renaming map_some->df,none->J,some->V,some.inj->xu,some.injEq->aOe
namespace Go.Proofs.YtdgiigkneimbdaaGreatDoor
open Go Go.Ab Go.RowKit Go.ChangeShapes Go.WideShapes Go.ChangeAt Go.Deep
theorem own:ownKnob aS.godebug=J:=by kernel_rfl
def anb:laidOutB aS=U:=by kernel_rfl
def gKw:aS.globalNamed "interleave/token.keywords" =V 0:=by kernel_rfl
def tKw:(aS.globals[0]?).map (·.type)=V 377:=by kernel_rfl
abbrev yi:List (String×DataW Unit):=[("interleave/token.keywords",Rows.laid_interleave_token_keywords)]
theorem aC1:Rows.laid_interleave_token_keywords=(.agg (ik.map λs=>(.lit (.string s.data.toList):DataW Unit)):DataW Unit):=rfl
def z9':aS.cellsOf 9=1:=by kernel_rfl
def gok{W:World}(h:laidMetH aS yi W):md GG (tg W) W [] β0:=by rw[MakeChecks.laidMetH_plain _ _ _<|by kernel_rfl] at h;obtain⟨T,⟨g0,t0,e,R,p0,q0,n,C,D,v,_⟩,_,_⟩:=h;obtain rfl:=xu<|gKw.symm.trans n;obtain rfl:=xu<|tKw.symm.trans C;obtain⟨xs,m1,rfl,i,P,S,w⟩:=DataW.trod_array Tryz.underlying377 v;rw[aC1] at i;simp only[Prod.mk.injEq,DataW.agg.injEq] at i;have B:L ik=22:=rfl;have d:∀j,j<22->W.cell? ⟨0,j,J⟩=V (.string<|gd ik j):=(by intro j r;have m:=w j r;rw[z9',eC<|show j<L xs by omega] at m;obtain⟨s,E,F,_⟩:=DataW.trod_string Tryz.underlying9 m;have f:(xs[j]'(by omega)).1= .lit (.string (gd ik j).data.toList):=(by have p:(xs.map (·.1))[j]?=(ik.map λs=>(.lit (.string s.data.toList):DataW Unit))[j]?:=(by rw[i.1]);rw[ve,ve,eC (show j<L xs by omega),eC<|show j<L ik by omega] at p;simp only[df,aOe] at p;rw[p,aNV<|show j<L ik by omega]);rw[F] at f;simp only[DataW.lit.injEq,Lit.string.injEq] at f;have G:s=gd ik j:=(by obtain⟨⟨a⟩⟩:=s;generalize gd ik j=k at f;obtain⟨⟨b⟩⟩:=k;simp only at f;rw[f]);have K:=World.var?_cell n D j;rw[K];have M:e.toList[j]?=V (.string s):=(by have t:(e.toList.drop<|j*1).take 1=[.string s]:=E;rw[Nat.mul_one] at t;have N:(e.toList.drop j)[0]?=V (.string s):=(by have:=bss (λl=>l[0]?) t;simpa using this);simpa using N);rw[<-Array.getElem?_toList,M,G]);intro g cs y;have z:g=0/\cs=pI:=(by rcases g with _|g;exact⟨rfl,(xu<|show V pI=V cs from y).symm⟩;cases(show(J:Option<|dM)=V cs from y));obtain⟨rfl,rfl⟩:=z;have o:∀j x,pI[j]?=V x->j<22/\x= .s (.string<|gd ik j):=(by intro j x c;have r:j<22:=(by have:=(List.getElem?_eq_some_iff.1 c).1;simpa[pI,B] using this);refine⟨r,?_⟩;have m:pI[j]?=(ik.map λs=>AV.s<|.string s)[j]?:=rfl;rw[m,ve,eC<|show j<L ik by omega] at c;simp only[df,aOe] at c;rw[<-c,aNV<|show j<L ik by omega]);refine⟨rfl, .q (λh=>h) (λj=> .string<|gd ik j) ?_ (λb x u=>by rw[sK] at u;cases u) (λj x c=>?_) (λj x c=>?_)<|λj x c=>rfl⟩;exact World.block_lt_of_cell? W _ (d 0<|by decide);rw[Nat.zero_add];exact d j (o j x c).1;rw[(o j x c).2];exact .s rfl
def aMX{W:World}{f g j m o:Value}{v:aOA}{l:eu}{n:Int}{fl:eu}{sw:eu}(G:laidMetH aS yi W)(C:ba (tg W) W [] β0 f<|.a v.cs)(D:ba (tg W) W [] β0 g<|sl ci l)(E:ba (tg W) W [] β0 j<|.s<|.int .u8 n)(F:ba (tg W) W [] β0 m<|sl cw fl)(d:ba (tg W) W [] β0 o<|sl cu sw)(t:aSr v)(u:L l<=reachBytes)(w:(0<=n/\n<256))(z:((∀x∈fl,0<=x/\x<65536)/\L fl<4611686018427387904))(B:ByL sw):Calls aS 3 #[f,g,j,m,o] W λe p=>e= .returned (.bool U)/\Below W.heap.size W p:=by obtain⟨r,rfl,_,M⟩:=bFa v l n fl sw ⟨t,u,w,z,B⟩;refine(M.2 (λ_=>False) W [f,g,j,m,o] (λk h=>h.elim) (gok G) ⟨rfl,λi v y b c=>?_⟩).mono ?_;rcases i with _|_|_|_|_|i;simp at b c;rw[<-b,<-c];exact C;simp at b c;rw[<-b,<-c];exact D;simp at b c;rw[<-b,<-c];exact E;simp at b c;rw[<-b,<-c];exact F;simp at b c;rw[<-b,<-c];exact d;simp at b;rintro e p ⟨v,r,q,rfl,b,K⟩;obtain⟨d,_⟩:=b.s_inv;rw[d] at q;exact⟨q,K⟩
def axD(os:Os)(a:Array Value):laidMetH aS yi ((ar8 aS 400 os).forCall (λ_ _=>0) ⟨#[],a,[]⟩).memory:=laidMetH_of_parts3 (fuel:=8) (laidMet_of_run' 8 (by kernel_rfl)<|by kernel_rfl) (by kernel_rfl) (by kernel_rfl)
set_option maxRecDepth 100000 in
def aDa(os:Os)(r:os.Started)(b:Type)(enc:TypeId×Value->b):
  ReturnsInHanded {} Si os 3 .any (λw c=>(Rows.witnessSchedulesSpec.pre enc aS vI [] I w c/\laidMetH aS yi w)/\sizedMet enc aS vI (OpenSpec.ofChange Rows.witnessSchedulesSpec) I w c)
   (Rows.witnessSchedulesSpec.post enc aS vI I U I I):=by
 refine returnsInHanded_of_change_and (C:=Si) (X:=λw _=>laidMetH aS yi w) (λ_ _ _ hh h=>h.of_heap hh) own r (by kernel_rfl) Tryz.func3
  (ChangeSpec.witness_shaped (enc:=enc) (C:=Si) (os:=os) (X:=λw _=>laidMetH aS yi w) I (ar8 aS 400 os) #[.agg #[.slice J 0 0, .slice J 0 0, .slice J 0 0, .int .u8 0, .int .u8 0], .slice J 0 0, .int .u8 0, .slice J 0 0, .slice J 0 0] 8 rfl (World.shaped_of_RefB (by kernel_rfl)<|by kernel_rfl) (by kernel_rfl) (by kernel_rfl) (by kernel_rfl) (axD os _)) ?_
 intro W S c ds gs ae k hW _ s hL _
 have f:∀(j:Nat) t v,vI.params[j]?=V t->c[j]?=V v->a8f aS W .any S t v:=k
 have av:=hW
 obtain⟨p,q,F,hV,rfl,bo,bp⟩:=hW
 have hA:DataW.TrodAll enc aS W 0 (λ_=>U) U vI.params.toList c.toList ds p:=F
 have P:(DataW.weightsEach aS (vI.params.toList++Rows.witnessSchedulesSpec.plain.varTypes aS)<|ds++gs).all (·<=reachBytes)=U:=s
 rw[Tryz.params3] at hA f P
 obtain⟨v0,bq,d0,bj,p0,q0,aO,rfl,rfl,h0,r0⟩:=trodAll_cons hA
 obtain⟨v1,br,d1,bk,p1,q1,rfl,rfl,rfl,h1,r1⟩:=trodAll_cons r0
 obtain⟨v2,bs,d2,bl,p2,q2,rfl,rfl,rfl,h2,r2⟩:=trodAll_cons r1
 obtain⟨v3,bt,d3,bm,p3,q3,rfl,rfl,rfl,h3,r3⟩:=trodAll_cons r2
 obtain⟨v4,bu,d4,bn,p4,q4,rfl,rfl,rfl,h4,r4⟩:=trodAll_cons r3
 obtain⟨rfl,rfl,rfl⟩:=trodAll_nil r4
 obtain rfl:c=#[v0,v1,v2,v3,v4]:=by cases c;simp_all
 obtain⟨rfl,rfl⟩:=trodVars_none hV
 have T:=f 0 24 v0 rfl rfl
 have o1:=f 1 25 v1 rfl rfl
 have o2:=f 2 5 v2 rfl rfl
 have o3:=f 3 26 v3 rfl rfl
 have o4:=f 4 22 v4 rfl rfl
 unfold a8f at T
 rw[Tryz.underlying24] at T
 obtain⟨c0,rfl,_⟩:=T
 have c1:=bph Tryz.underlying25 o1
 have c2:=brM Tryz.underlying5 o2
 have c3:=bph Tryz.underlying26 o3
 have c4:=bph Tryz.underlying22 o4
 have k0:=h0
 have k1:=h1
 have k2:=h2
 have k3:=h3
 have k4:=h4
 have aI:∀x∈p0,x.block<W.heap.size:=by obtain⟨m,g⟩:=k0;exact DataW.trod_lt m _ _ _ g
 have aJ:∀x∈p1,x.block<W.heap.size:=by obtain⟨m,g⟩:=k1;exact DataW.trod_lt m _ _ _ g
 have aK:∀x∈p2,x.block<W.heap.size:=by obtain⟨m,g⟩:=k2;exact DataW.trod_lt m _ _ _ g
 have aL:∀x∈p3,x.block<W.heap.size:=by obtain⟨m,g⟩:=k3;exact DataW.trod_lt m _ _ _ g
 have aM:∀x∈p4,x.block<W.heap.size:=by obtain⟨m,g⟩:=k4;exact DataW.trod_lt m _ _ _ g
 have u:∀{j:Nat} {t:TypeId} {d:DataW b},([24,25,5,26,22]:List TypeId)[j]?=V t->[d0,d1,d2,d3,d4][j]?=V d->∀n∈d.weights aS t,n<=reachBytes:=by
  intro j t d o hd n hn
  have g:=DataW.weights_mem_each (ts:=(#[24,25,5,26,22]:Array TypeId).toList++Rows.witnessSchedulesSpec.plain.varTypes aS) (ds:=[d0,d1,d2,d3,d4]++[]) (j:=j) (t:=t) (d:=d) (by
   rcases j with _|_|_|_|_|j
   ·exact o
   ·exact o
   ·exact o
   ·exact o
   ·exact o
   ·simp at o) (by simpa using hd) n hn
  simpa using List.all_eq_true.1 P _ g
 obtain⟨y,aw⟩:=h0
 obtain⟨z,G⟩:=h1
 obtain⟨B,K⟩:=h2
 obtain⟨D,M⟩:=h3
 obtain⟨E,N⟩:=h4
 obtain⟨v,ax,R⟩:=bdX (enc:=enc) (W:=W) y c0.toList _ aw<|u (j:=0) rfl rfl
 have e0:ba (tg W) W [] β0 (.agg c0) (.a v.cs):=by
  have:=ba.a (κ:=tg W) (w:=W) (Y:=[]) (β:=β0) R.len R.cell R.rep
  simpa using this
 rw[c1] at G
 obtain⟨l,ay,R1⟩:=anM (enc:=enc) (W:=W) z [v1] _ G<|u (j:=1) rfl rfl
 have e1:=R1.val
 rw[c2] at K
 obtain⟨n,az,R2⟩:=aXW Tryz.underlying5 (enc:=enc) (W:=W) B [v2] _ K<|u (j:=2) rfl rfl
 have e2:=R2.val
 rw[c3] at M
 obtain⟨fl,aA,R3⟩:=aER (enc:=enc) (W:=W) D [v3] _ M<|u (j:=3) rfl rfl
 have e3:=R3.val
 rw[c4] at N
 obtain⟨sw,aB,R4⟩:=aEO (enc:=enc) (W:=W) E [v4] _ N<|u (j:=4) rfl rfl
 have e4:=R4.val
 clear F k s
 refine(aMX hL e0 e1 e2 e3 e4 ax ay.1 az (byw aA)<|byl aB).mono λe W' ⟨he,i⟩=>?_
 subst he
 exact⟨_,rfl,_,_,_,[],_,[],av,trodAll_mk1<|shut_bool Tryz.underlying4 _,trodAll_cons_mk (Below.trod anb (by kernel_rfl) (aNQ<|by kernel_rfl) k0 i aI)<|trodAll_cons_mk (Below.trod anb (by kernel_rfl) (aNQ<|by kernel_rfl) k1 i aJ)<|trodAll_cons_mk (Below.trod anb (by kernel_rfl) (aNQ<|by kernel_rfl) k2 i aK)<|trodAll_cons_mk (Below.trod anb (by kernel_rfl) (aNQ<|by kernel_rfl) k3 i aL)<|trodAll_cons_mk (Below.trod anb (by kernel_rfl) (aNQ<|by kernel_rfl) k4 i aM) trodAll_mk0,rfl,i.frame _,λh=>by cases h⟩
end Go.Proofs.YtdgiigkneimbdaaGreatDoor
