/- Part of the proof of EncodeNames, made short by a program. -/
import Derived.Test.YtmilgmjhdfijjaaGreatDoorE
set_option linter.all false
set_option maxRecDepth 100000
open And renaming intro->ai
open Bool renaming and_eq_true->bN,false->I,false_eq_true->eE,not_eq_false'->fK,not_eq_true'->eH,or_eq_false_iff->cP,or_true->wY,true->U
open Decidable renaming decide->Q,not_not->aNS
open Eq renaming mpr->aND
open Go.IntKind renaming i64->dq
open Go.Proofs.Tryz renaming prog->aS
open Int renaming ofNat_lt->RF,toNat_natCast->bh
open List renaming all_eq_true->dV,append_nil->cL,cons.injEq->kO,cons_append->zn,drop_succ_cons->nM,drop_zero->ip,ext_getElem?->aqI,flatMap_cons->Cz,flatMap_nil->RN,getD_eq_getElem?_getD->eI,getElem?_append_left->xe,getElem?_cons_zero->qh,getElem?_eq_getElem->eC,getElem?_eq_none->qi,getElem?_map->ve,getElem_of_mem->ou,length->L,length_append->P8,length_cons->bZ,length_map->bJ,length_nil->vw,length_replicate->oA,length_set->zq,map_append->dg,map_congr_left->ja,map_cons->ji,map_map->vA,map_nil->mU,map_set->vB,mem_append->dF,mem_cons->eW,mem_filter->jW,mem_flatMap->iI,mem_map->dN,mem_map_of_mem->CA,mem_or_eq_of_mem_set->CC,mem_range->fq,mem_singleton->cE,nil_append->dW,nodup_append->xl,not_mem_nil->ql,range->aH,range_succ->qn,replicate->er,set_cons_zero->RY,set_eq_take_append_cons_drop->GP,take_length->gV,take_of_length_le->oB,take_succ_eq_append_getElem->iJ,take_zero->CE
open Nat renaming le_antisymm->bP,le_of_eq->aSp,le_refl->dA,lt_or_ge->jj,zero_add->aj
open Ne renaming symm->Sa
open Option renaming bind_some->qd,map_some->df,none->J,some->V
namespace Go.Ab
open Go Go.RowKit Go.Proofs
def mG{B:aG}{A:(aG)->Prop}(Q:aG)(b:∀a,(∀vs Y',Q vs Y'->a vs Y')->A a)(c:∀vs Y',Q vs Y'->B vs Y'):A B:=b B c
def a7a{α:Type}{f:Nat->List α}{k:Nat}:(aH (k+1)).flatMap f=(aH k).flatMap f++f k:=by rw[qn,List.flatMap_append];simp
def eU{α:Type}{f:Nat->List α}{c:Nat}(h:∀k,L (f k)<=c):∀n,L ((aH n).flatMap f)<=n*c
 |0=>by simp
 |n+1=>by
  have a:=eU h n
  have b:=h n
  rw[a7a,P8,Nat.add_mul]
  omega
def Dv{Y:ae}{b:Id}{T e:TypeId}{z i j d by':Nat}{cs zs:List AV}{a:AV}{aa new:List (List AV)}{t o:Bool}{K:ae->Prop}(H:box Y b=V ⟨T,z,U,U,[cs]⟩)(P:j<L cs)(E:bc Y e i a aa)(k:b∉aA a)(W:L zs=i)(B:0<i)(M:d<L Y)(S:∀r∈aa,L r=i)(R:∀r∈new,L r=i)(w:(L aa+L new)*(by'+1)<=1099511627776)(m:b.1≠d)(G:∀f Y',box Y' b=V ⟨T,z,U,U,[cs.set j f]⟩->bc Y' e i f (aa++new)->Fx Y Y' (b::aA a)->(∀q∈aA f,(q∈aA a\/bK Y q)/\(q∈aA a\/q.1=d))->K Y'):eV (j5 e zs by' Y d a (.l new t o)) λx s=>rV (iQ j s (.p b 0 0)) λy=>sV (aK 1 s y x) K:=by refine gD E W B M S R w λf Y' g F O A=>?_;have u:=F.keep _ _ k H;have N:iQ j Y' (.p b 0 0)=V (.p b 0 j):=(by simp[iQ,u]);simp only[N,aY];refine cy (y:=1) (cs:=[f]) u (ms g) rfl (by show j+1<=L cs;omega) λC n D=>?_;have v:b∉aA f:=λc=>(by rcases A b c with h|h;exact k h;exact m h);refine G f C ?_ (g.fx n λq c e=>v (by simp at e;subst e;exact c)) ((F.trans n).mono λq c=>?_) λq c=>⟨O q c,A q c⟩;rw[D,GP,bX P];simp;rcases dF.1 c with h|h;exact .inl (List.mem_cons_of_mem _ h);simp at h;subst h;exact .inl (by simp)
def qZ(n:Nat):List bF:=(aH n).map λi=>⟨if i=0 then 1 else 0,0,I⟩
def aog{α:Type}{n:Nat}{x:α}{β:Type}{f:α->β}:(er (n+1) x).map f=(er n x).map f++[f x]:=by rw[List.replicate_succ',dg];rfl
section
variable{Y:ae}
def aDP{x0 x2 x5:AV}{ls fs ts:List (List AV)}{t1 o1 t3 o3 t4 o4:Bool}(hl:L Y=4096)(h1:L ls<=100)(h3:L fs<=100)(h4:L ts<=100):∃r p,(∃a1 a2 a3,r= .a [a1,iv (-1),a2,a3]/\bc p 131 2 a1 ((er (L ls) (⟨-1,[]⟩:cg)).map cg.c)/\bc p 4 1 a2 ((er (L fs) I).map cb)/\bc p 105 3 a3 ((qZ (L ts)).map bF.c)/\Fx Y p []/\(∀q∈aA a1,bK Y q/\q.1=20)/\(∀q∈aA a2,bK Y q/\q.1=32)/\(∀q∈aA a3,bK Y q/\q.1=49))/\cZ aS GG 69 [.a [x0, .l ls t1 o1,x2, .l fs t3 o3, .l ts t4 o4,x5]] Y r p:=by refine aLs hl rfl λs2 v1 K2 bB nf b1=>?_;have M:Fx Y s2 []:=K2.fx [];have R:L s2=4096:=M.len.trans hl;simp only[IH];refine so R λv2 s3 X N3 b2=>?_;have aZ:L s3=4096:=X.len.trans R;have aR:bM aNC alz [(1,iv (-1))]=V (.a [.l [] U U,iv (-1), .l [] U U, .l [] U U]):=rfl;simp only[acZ,aR,aY];refine so aZ λt s4 F4 N4 b6=>?_;refine cy (y:=4) (cs:=[.l [] U U,iv (-1), .l [] U U, .l [] U U]) b6 rfl rfl (by decide) λB F5 b6=>?_;have aJ:box B (3,t)=V ⟨36,4,U,U,[[.l [] U U,iv (-1), .l [] U U, .l [] U U]]⟩:=b6;have G:Fx s2 B []:=((X.trans F4).trans F5).mono (by simp only[dW,cE];rintro e rfl;exact .inr (N4.old X).no);have a0:L B=4096:=G.len.trans R;have c1:=G.kq b1;have c2:box B (2,v2)=_:=F5.kq (F4.kq b2);have N6:bK Y (3,t):=(N4.old X).old M;have bd:∀{Y':ae} {ks:List Id},Fx B Y' ks->((1,v1):Id)∉ks->box Y' (1,v1)=V ⟨31,6,U,U,[[x0, .l ls t1 o1,x2, .l fs t3 o3, .l ts t4 o4,x5]]⟩:=λF h=>F.keep _ _ h c1;have k1:∀{x:List AV} {y:AV},aN J (y::x)=V y:=λ{x y}=>(by cases y<;>rfl);have K:∀{l:List cg},∀r∈l.map cg.c,L r=2:=qW (by intro _;rfl);have H:∀{l:List Bool},∀r∈l.map cb,L r=1:=qW (by intro _;rfl);have alx:∀{l:List bF},∀r∈l.map bF.c,L r=3:=qW (by intro _;rfl);refine yV (L ls) (λk _ Y'=>∃a1,box Y' (3,t)=V ⟨36,4,U,U,[[a1,iv (-1), .l [] U U, .l [] U U]]⟩/\bc Y' 131 2 a1 ((er k (⟨-1,[]⟩:cg)).map cg.c)/\Fx B Y' [(3,t)]/\∀q∈aA a1,bK B q/\q.1=20) ⟨_,aJ,bc.nil,Fx.refl _ _,by simp[aA]⟩ ?_;rintro k _ p D ⟨a1,m1,g1,u,C⟩;have d1:=bd u (by simp);have ah:L p=4096:=u.len.trans a0;have aT:bM aO9 O7 [(0,iv (-1))]=V (.a [iv (-1), .l [] U U]):=rfl;have aU:∀{Y:ae},aX aTL 1 Y [(0, .a [iv (-1), .l [] U U])]=V (.l ([(⟨-1,[]⟩:cg)].map cg.c) U U,Y):=λ{Y}=>(by simp[aX,gp,eY,nrm,gK,eR,gi,eB,iR,kills,kC,eN,er];rfl);simp only[ac4,au,aI,u0,u1,d1,k1,nM,ip,aj,fS,m1,aT,aU,↓uL];refine⟨λh=>?_,λh=>?_⟩;have A:=aL h;refine Dv m1 (by simp) g1 (λf=>by have:=(C _ f).2;simp at this) rfl (by decide) (by rw[ah];decide) K K (by simp only[bJ,oA,bZ,vw];omega) (by simp) λO Z W g2 g m=>?_;simp only[acV,au,u0,u1,↓uL];refine yU A ⟨O,W,by rw[aog];exact g2,(u.trans g).mono λq f=>?_,λq f=>⟨?_,?_⟩⟩;simp only[dF,eW,ql,C8] at f⊢;rcases f with h|h|h;exact .inl h;exact .inl h;exact .inr (C q h).1.no;exact(m q f).1.elim (λh=>(C q h).1) λh=>h.old u;exact(m q f).2.elim (λh=>(C q h).2) id;have w:k=L ls:=bP D (bw h);subst w;clear D h;refine yV (L fs) (λk _ Y'=>∃a2,box Y' (3,t)=V ⟨36,4,U,U,[[a1,iv (-1),a2, .l [] U U]]⟩/\bc Y' 4 1 a2 ((er k I).map cb)/\Fx p Y' [(3,t)]/\∀q∈aA a2,bK p q/\q.1=32) ⟨_,m1,bc.nil,Fx.refl _ _,by simp[aA]⟩ ?_;rintro k _ Z D ⟨a2,W,g2,g,m⟩;have d2:=g.kq d1;have S:L Z=4096:=g.len.trans ah;have ap:∀{Y:ae},aX BD 1 Y [(0,bv I)]=V (.l ([I].map cb) U U,Y):=λ{Y}=>iz;simp only[ac2,au,aI,u0,u1,d2,k1,nM,ip,aj,fS,W,ap,↓uL];refine⟨λh=>?_,λh=>?_⟩;have A:=aL h;refine Dv W (by simp) g2 (λf=>by have:=(m _ f).2;simp at this) rfl (by decide) (by rw[S];decide) H H (by simp only[bJ,oA,bZ,vw];omega) (by simp) λO Y3 m3 g3 i n=>?_;simp only[acW,au,u0,u1,↓uL];refine yU A ⟨O,m3,by rw[aog];exact g3,(g.trans i).mono λq f=>?_,λq f=>⟨?_,?_⟩⟩;simp only[dF,eW,ql,C8] at f⊢;rcases f with h|h|h;exact .inl h;exact .inl h;exact .inr (m q h).1.no;exact(n q f).1.elim (λh=>(m q h).1) λh=>h.old g;exact(n q f).2.elim (λh=>(m q h).2) id;have w:k=L fs:=bP D (bw h);subst w;clear D h;refine yV (L ts) (λk _ Y'=>∃a3,box Y' (3,t)=V ⟨36,4,U,U,[[a1,iv (-1),a2,a3]]⟩/\bc Y' 105 3 a3 ((qZ k).map bF.c)/\Fx Z Y' [(3,t)]/\∀q∈aA a3,bK Z q/\q.1=49) ⟨_,W,bc.nil,Fx.refl _ _,by simp[aA]⟩ ?_;rintro k _ Y3 D ⟨a3,m3,g3,i,n⟩;have d3:=i.kq d2;have T:L Y3=4096:=i.len.trans S;have aV:bM aNB aM7 [(0,iv 0)]=V (.a (bF.c ⟨0,0,I⟩)):=rfl;have aq:∀{Y:ae} {x:bF},aX aTI 1 Y [(0, .a (bF.c x))]=V (.l ([x].map bF.c) U U,Y):=λ{Y x}=>ua rfl rfl rfl (by decide) rfl (by decide);have bb:∀{x:bF},aN (V 3) (bF.c x)=V (.a (bF.c x)):=λ{x}=>rfl;have ak:∀{x y x2 x3:AV},aN (V 4) [x,y,x2,x3]=V (.a [x,y,x2,x3]):=rfl;have a8:qZ (k+1)=qZ k++[⟨if k=0 then 1 else 0,0,I⟩]:=(by simp[qZ,qn]);have a7:L (qZ k)=k:=(by simp[qZ]);simp only[ac3,au,aI,u0,u1,d3,k1,nM,ip,aj,fS,aV,↓uL];refine⟨λh=>?_,λh=>?_⟩;have A:=aL h;refine so T λv7 Y4 az N7 b7=>?_;refine cy (y:=3) (cs:=bF.c ⟨0,0,I⟩) b7 rfl rfl (by decide) λN o b7=>?_;have P:box N (7,v7)=V ⟨105,3,U,U,[bF.c ⟨0,0,I⟩]⟩:=b7;have ag:Fx Y3 N []:=az.tn o N7.no;simp only[acY,di];refine mG (λvs Y'=>vs=[]/\box Y' (7,v7)=V ⟨105,3,U,U,[bF.c ⟨if k=0 then 1 else 0,0,I⟩]⟩/\Fx Y3 Y' []) (λb hJ=>?_) ?_;simp only[ac1,au,u0,u1,P,aj,↓uL];refine⟨λhi=>?_,λhi=>hJ [] N ⟨rfl,?_,ag⟩⟩;refine cy (y:=1) (cs:=[iv 1]) P rfl rfl (by decide) λY6 F6 b8=>hJ [] Y6 ⟨rfl,?_,ag.tn F6 N7.no⟩;have h0:k=0:=(by simpa using hi);rw[bX h0];exact b8;have h0:¬k=0:=(by simpa using hi);rw[cj h0];exact P;rintro vs Y6 ⟨rfl,b8,v⟩;have m6:=v.kq m3;have g6:=g3.fx v (by simp);simp only[ac0,aI,u0,u1,m6,b8,k1,bb,nM,ip,aj,aq,↓uL];refine Dv m6 (by simp) g6 (λf=>by have:=(n _ f).2;simp at this) rfl (by decide) (by rw[v.len,T];decide) alx alx (by simp only[bJ,a7,bZ,vw];omega) (by simp) λO Y7 m7 g7 F7 P7=>?_;simp only[acX,au,u0,u1,↓uL];refine yU A ⟨O,m7,by rw[a8,dg];exact g7,((i.trans v).trans F7).mono λq f=>?_,λq f=>⟨?_,?_⟩⟩;simp only[dF,eW,ql,C8] at f⊢;rcases f with h|h|h;exact .inl h;exact .inl h;exact .inr (n q h).1.no;exact(P7 q f).1.elim (λh=>(n q h).1) λh=>(h.old v).old i;exact(P7 q f).2.elim (λh=>(n q h).2) id;have w:k=L ts:=bP D (bw h);subst w;have aK:=i.kq (g.kq (u.kq c2));simp only[m3,u0,u1,ak];refine cy (y:=4) (cs:=[a1,iv (-1),a2,a3]) aK rfl rfl (by decide) λN o b5=>?_;have aG:box N (2,v2)=V ⟨36,4,U,U,[[a1,iv (-1),a2,a3]]⟩:=b5;simp only[aG,u0,u1,ak,fe,aoz];have j:∀{a:AV} {d:Nat},(∀q∈aA a,q.1=d)->d≠2->d≠3->∀q∈aA a,q∉[((2,v2):Id)]/\q∉[((3,t):Id)]:=λh h1 h2 q f=>⟨λe=>by simp at e;subst e;exact h1 (h _ f).symm,λe=>by simp at e;subst e;exact h2 (h _ f).symm⟩;have n1:=j (λq f=>(C q f).2) (by decide) (by decide);have n2:=j (λq f=>(m q f).2) (by decide) (by decide);have n3:=j (λq f=>(n q f).2) (by decide) (by decide);have E:∀{q:Id},bK B q->bK Y q:=λh=>(h.old G).old M;refine⟨a1,a2,a3,rfl,((g1.fx g λq f=>(n1 q f).2).fx i λq f=>(n1 q f).2).fx o λq f=>(n1 q f).1,(g2.fx i λq f=>(n2 q f).2).fx o λq f=>(n2 q f).1,g3.fx o λq f=>(n3 q f).1,(((((M.trans G).trans u).trans g).trans i).trans o).mono λq f=>?_,λq f=>⟨E (C q f).1,(C q f).2⟩,λq f=>⟨E ((m q f).1.old u),(m q f).2⟩,λq f=>⟨E (((n q f).1.old g).old u),(n q f).2⟩⟩;simp only[dW,dF,cE,or_self] at f;rcases f with rfl|rfl;exact .inr N6.no;exact .inr (N3.old M).no
end
def wI(n:Nat):List dL:=(aH n).flatMap λ(t:Nat)=>(aH 6).map λ(k:Nat)=>⟨(t:Int),(k:Int),10*(t:Int)+k+1⟩
def dE:br:=⟨[⟨⟨#[120]⟩,0,0,I,0⟩,⟨⟨#[121]⟩,0,0,I,1⟩,⟨⟨#[118]⟩,0,0,U,0⟩,⟨⟨#[113]⟩,0,2,I,0⟩,⟨⟨#[113]⟩,1,2,I,0⟩],[⟨⟨#[109]⟩,I⟩,⟨⟨#[110]⟩,I⟩,⟨⟨#[114]⟩,U⟩],[⟨⟨#[99]⟩,0⟩],[⟨#[102]⟩],[⟨#[109,97,105,110]⟩,⟨#[116,49]⟩,⟨#[116,50]⟩,⟨#[116,51]⟩],wI 4⟩
def gu(t o:Bool):List AV:=[.l (dE.cells.map cA.c) U U, .l (dE.ak.map dS.c) U U, .l (dE.bC.map yp.c) U U, .l (dE.bU.map cs) U U, .l (dE.ay.map cs) U U, .l (dE.dU.map dL.c) t o]
def bdB:Ct 26 [] λr=>∃t o,r= .a (gu t o):=by
 refine aMx λs0 hl h0=>?_
 simp only[ajP]
 refine so hl λv0 s1 F1 N1 b1=>?_
 have E:L s1=4096:=F1.len.trans hl
 have hc:∀{Y:ae},aX aTJ 5 Y [(0, .a (cA.c ⟨⟨#[120]⟩,0,0,I,0⟩)),(1, .a (cA.c ⟨⟨#[121]⟩,0,0,I,1⟩)),(2, .a (cA.c ⟨⟨#[118]⟩,0,0,U,0⟩)),(3, .a (cA.c ⟨⟨#[113]⟩,0,2,I,0⟩)),(4, .a (cA.c ⟨⟨#[113]⟩,1,2,I,0⟩))]=V (.l (dE.cells.map cA.c) U U,Y):=λ{Y}=>rfl
 have X:bM aN1 aOG [(0,sv [120])]=V (.a (cA.c ⟨⟨#[120]⟩,0,0,I,0⟩)):=rfl
 have Z:bM aN1 aOG [(0,sv [121]),(4,iv 1)]=V (.a (cA.c ⟨⟨#[121]⟩,0,0,I,1⟩)):=rfl
 have aa:bM aN1 aOG [(0,sv [118]),(3,bv U)]=V (.a (cA.c ⟨⟨#[118]⟩,0,0,U,0⟩)):=rfl
 have ab:bM aN1 aOG [(0,sv [113]),(2,iv 2)]=V (.a (cA.c ⟨⟨#[113]⟩,0,2,I,0⟩)):=rfl
 have ac:bM aN1 aOG [(0,sv [113]),(1,iv 1),(2,iv 2)]=V (.a (cA.c ⟨⟨#[113]⟩,1,2,I,0⟩)):=rfl
 simp only[ajX,X,Z,aa,ab,ac,aY,hc,bQ]
 have ah:bM aOO O7 [(0,sv [109])]=V (.a (dS.c ⟨⟨#[109]⟩,I⟩)):=rfl
 have al:bM aOO O7 [(0,sv [110])]=V (.a (dS.c ⟨⟨#[110]⟩,I⟩)):=rfl
 have am:bM aOO O7 [(0,sv [114]),(1,bv U)]=V (.a (dS.c ⟨⟨#[114]⟩,U⟩)):=rfl
 have K:∀{Y:ae},aX aR7 3 Y [(0, .a (dS.c ⟨⟨#[109]⟩,I⟩)),(1, .a (dS.c ⟨⟨#[110]⟩,I⟩)),(2, .a (dS.c ⟨⟨#[114]⟩,U⟩))]=V (.l (dE.ak.map dS.c) U U,Y):=λ{Y}=>rfl
 simp only[ajW,ah,al,am,aY,K,bQ]
 have aq:bM aPp O7 [(0,sv [99])]=V (.a (yp.c ⟨⟨#[99]⟩,0⟩)):=rfl
 have b:∀{Y:ae},aX aR8 1 Y [(0, .a (yp.c ⟨⟨#[99]⟩,0⟩))]=V (.l (dE.bC.map yp.c) U U,Y):=λ{Y}=>rfl
 have hf:∀{Y:ae},aX C9 1 Y [(0,sv [102])]=V (.l (dE.bU.map cs) U U,Y):=λ{Y}=>rfl
 have ht:∀{Y:ae},aX C9 4 Y [(0,sv [109,97,105,110]),(1,sv [116,49]),(2,sv [116,50]),(3,sv [116,51])]=V (.l (dE.ay.map cs) U U,Y):=λ{Y}=>rfl
 simp only[ajV,aq,aY,b,bQ,ajU,hf,ajT,ht]
 have hw:bM aRc C2 [(0, .l (dE.cells.map cA.c) U U),(1, .l (dE.ak.map dS.c) U U),(2, .l (dE.bC.map yp.c) U U),(3, .l (dE.bU.map cs) U U),(4, .l (dE.ay.map cs) U U)]=V (.a [.l (dE.cells.map cA.c) U U, .l (dE.ak.map dS.c) U U, .l (dE.bC.map yp.c) U U, .l (dE.bU.map cs) U U, .l (dE.ay.map cs) U U, .l [] U U]):=rfl
 simp only[ajS,hw,aY]
 have bk:L dE.ay=4:=rfl
 have bj:∀a,a=dE.dU->wI 4=a:=λa h=>h.symm
 generalize hA:AV.l (dE.cells.map cA.c) U U=A
 generalize hB:AV.l (dE.ak.map dS.c) U U=B
 generalize hC:AV.l (dE.bC.map yp.c) U U=C
 generalize hD:AV.l (dE.bU.map cs) U U=D
 refine so E λu s2 F2 N2 b2=>?_
 refine cy (y:=6) (cs:=[A,B,C,D, .l (dE.ay.map cs) U U, .l [] U U]) b2 rfl rfl (by decide) λg F3 b3=>?_
 have w:box g (1,u)=V ⟨31,6,U,U,[[A,B,C,D, .l (dE.ay.map cs) U U, .l [] U U]]⟩:=b3
 have v:Fx s1 g []:=F2.tn F3 N2.no
 have c1:=v.kq b1
 have F:L g=4096:=v.len.trans E
 have k1:∀{x:List AV} {y:AV},aN J (y::x)=V y:=λ{x y}=>by cases y<;>rfl
 have G:∀{x y x2 x3 x4 x5:AV},aN (V 6) [x,y,x2,x3,x4,x5]=V (.a [x,y,x2,x3,x4,x5]):=rfl
 have ao:∀{Y:ae},fS Y (.l (dE.ay.map cs) U U)=V (iv (4:Nat)):=λ{Y}=>rfl
 simp only[ajR,u0,u1,w,k1,nM,ip,aj,ao,↓uL]
 have alx:∀{l:List dL},∀r∈l.map dL.c,L r=3:=qW (by intro _;rfl)
 have ar:∀k,wI (k+1)=wI k++(aH 6).map λ(j:Nat)=>⟨(k:Int),(j:Int),10*(k:Int)+j+1⟩:=λk=>a7a
 have av:∀k,L (wI k)<=k*6:=λk=>eU (f:=λ(t:Nat)=>(aH 6).map λ(k:Nat)=>(⟨(t:Int),(k:Int),10*(t:Int)+k+1⟩:dL)) (c:=6) (λt=>by simp) k
 refine yV 4 (λk _ Y'=>∃a,box Y' (1,u)=V ⟨31,6,U,U,[[A,B,C,D, .l (dE.ay.map cs) U U,a]]⟩/\bc Y' 128 3 a ((wI k).map dL.c)/\Fx g Y' [(1,u)]/\∀q∈aA a,bK g q/\q.1=40) ⟨_,w,bc.nil,Fx.refl _ _,by simp[aA]⟩ ?_
 rintro k _ Y1 K ⟨a1,m1,g1,m,O⟩
 have a8:L Y1=4096:=m.len.trans F
 have ba:=av k
 simp only[ajZ,au,aI,u0,u1,↓uL]
 refine⟨λh=>?_,λh=>?_⟩
 ·have ap:=aL h
  refine yV 6 (λj _ Y'=>∃a,box Y' (1,u)=V ⟨31,6,U,U,[[A,B,C,D, .l (dE.ay.map cs) U U,a]]⟩/\bc Y' 128 3 a ((wI k++(aH j).map λ(j:Nat)=>(⟨(k:Int),(j:Int),10*(k:Int)+j+1⟩:dL)).map dL.c)/\Fx g Y' [(1,u)]/\∀q∈aA a,bK g q/\q.1=40) ⟨a1,m1,by simpa using g1,m,O⟩ ?_
  rintro j _ Y2 hj ⟨a2,M,T,i,n⟩
  have af:∀{Y:ae} {x:dL},aX aTK 1 Y [(0, .a (dL.c x))]=V (.l ([x].map dL.c) U U,Y):=λ{Y x}=>ua rfl rfl rfl (by decide) rfl (by decide)
  have ad:∀{x y z:Int},bM aP5 aM7 [(0,iv x),(1,iv y),(2,iv z)]=V (.a (dL.c ⟨x,y,z⟩)):=λ{x y z}=>rfl
  simp only[ajY,au,aI,u0,u1,M,k1,nM,ip,aj,ad,af,↓uL]
  refine⟨λH=>?_,λH=>?_⟩
  ·have p:j<6:=RF.1 (nt H)
   rw[show dq.wrap (dq.wrap (dq.wrap (10*(k:Int))+j)+1)=10*(k:Int)+j+1 by
    rw[eM (x:=10*(k:Int)) (by omega) (by omega),eM (x:=10*(k:Int)+j) (by omega) (by omega),eM (by omega) (by omega)]]
   refine Dv M (by simp) T (λb=>by have:=(n _ b).2;simp at this) rfl (by decide) (by rw[i.len,F];decide) alx alx (by simp only[bJ,P8,List.length_range,bZ,vw];omega) (by simp) λa' Y3 m3 W N P=>?_
   simp only[ajQ,au,u0,u1,↓uL]
   refine yU p ⟨a',m3,by simp only[qn,dg,<-List.append_assoc] at W⊢;exact W,(i.trans N).mono λq b=>?_,λq b=>⟨?_,?_⟩⟩
   ·simp only[dF,eW,ql,C8] at b⊢
    rcases b with h|h|h
    ·exact .inl h
    ·exact .inl h
    ·exact .inr (n q h).1.no
   ·exact(P q b).1.elim (λh=>(n q h).1) λh=>h.old i
   ·exact(P q b).2.elim (λh=>(n q h).2) id
  ·have bi:¬(j:Int)<6:=aNG H
   have p:j=6:=by omega
   subst p
   refine yU ap ⟨a2,M,by rw[ar];exact T,i,n⟩
 ·have ag:k=4:=bP K (bw h)
  subst ag
  have S:=m.kq c1
  simp only[m1,G,u0,u1]
  refine cy (y:=6) (cs:=[A,B,C,D, .l (dE.ay.map cs) U U,a1]) S rfl rfl (by decide) λd F5 b5=>?_
  have R:box d (0,v0)=V ⟨31,6,U,U,[[A,B,C,D, .l (dE.ay.map cs) U U,a1]]⟩:=b5
  simp only[R,G,u0,u1]
  obtain⟨t,o,q1⟩:=(g1.fx F5 λq b e=>by simp at e;subst e;have:=(O _ b).2;simp at this).frD
  have hr:jS d [.a [A,B,C,D, .l (dE.ay.map cs) U U,a1]]= .a (gu t o):=by
   show AV.a [dQ d A,dQ d B,dQ d C,dQ d D,dQ d (.l (dE.ay.map cs) U U),dQ d a1]=_
   rw[q1,<-hA,<-hB,<-hC,<-hD];rfl
  unfold aE
  rw[hr]
  exact⟨rfl,t,o,rfl⟩
def PM:Ct 26 [] (·= .a dE.c):=by refine aDq ?_;obtain⟨r,b,d⟩:=bdB;refine⟨r,?_,d⟩;obtain⟨t,o,rfl⟩:=b;rfl
def Gf:FT:=BJ PM
def azy{Lw K}:=al2 Gf PM Lw K
def aTk{c:AV}{cs:List AV}:wn (c::cs)=aA c++wn cs:=by cases c<;>rfl
def aYg{c Y:ae}{d:Nat}{cs:List AV}{a:AV}{e:TypeId}{z:Nat}{aa:List (List AV)}(g:bc c e z a aa)(n:aa.all (λr=>r.all DU)=U)(i:d<L Y):∃h f,gU c d Y (a::cs)=(gU c d f cs).map (λp=>(h::p.1,p.2))/\bc f e z h aa/\Fx Y f []/\∀q∈aA h,bK Y q/\q.1=d:=by rcases g with⟨rfl,rfl⟩|⟨b,rfl,k⟩;exact⟨.l [] U U,Y,rfl, .inl ⟨rfl,rfl⟩,Fx.refl _ _,by simp[aA]⟩;refine⟨.m (lA Y d) (L aa),put Y d ⟨e,z,U,I,aa⟩,?_, .inr ⟨_,rfl,iy i⟩,kH i,λq j=>?_⟩;have:vY ⟨e,z,U,I,aa⟩=U:=(by simp only[vY,n];rfl);simp only[gU,k,this,vg];simp only[aA,cE] at j;subst j;exact⟨qQ Y d,rfl⟩
def a57{Y:ae}{d:Nat}{K:be}{w:br}(j:d<L Y)(P:L w.ak<=100)(R:L w.bU<=100)(S:L w.ay<=100)(W:∀a1 a2 a3 Y',bc Y' 131 2 a1 ((er (L w.ak) (⟨-1,[]⟩:cg)).map cg.c)->bc Y' 4 1 a2 ((er (L w.bU) I).map cb)->bc Y' 105 3 a3 ((qZ (L w.ay)).map bF.c)->Fx Y Y' []->(∀q∈aA a1++(aA a2++aA a3),bK Y q/\q.1=d)->K (.a [a1,iv (-1),a2,a3]) Y'):cN 69 [.a w.c] Y d K:=by obtain⟨r,l,⟨a1,a2,a3,rfl,g1,B,C,F,n,o,t⟩,T⟩:=aDP (Y:=eK) (x0:=sl cA.c w.cells) (x2:=sl yp.c w.bC) (x5:=sl dL.c w.dU) (ls:=w.ak.map dS.c) (fs:=w.bU.map cs) (ts:=w.ay.map cs) (t1:=I) (o1:=I) (t3:=I) (o3:=I) (t4:=I) (o4:=I) (oA ..) (by simpa using P) (by simpa using R) (by simpa using S);simp only[bJ] at g1 B C;obtain⟨u,m,M,Z,g,n1⟩:=aYg (Y:=Y) (d:=d) (cs:=[iv (-1),a2,a3]) g1 (by simp[cg.c,DU,sl]) j;obtain⟨v,s2,N,k2,i,D⟩:=aYg (Y:=m) (d:=d) (cs:=[a3]) B (by simp[DU,cb]) (by rw[g.len];exact j);obtain⟨A,G,O,k3,k,E⟩:=aYg (Y:=s2) (d:=d) (cs:=[]) C (by simp[dV,DU,bF.c]) (by rw[i.len,g.len];exact j);have b:[AV.a w.c].map (dG Y)=[.a w.c]:=rfl;refine .inr (.inr ⟨by rw[b];simp[iX,br.c,eN,sl],by simp[y7,j],[a1,iv (-1),a2,a3],l,[u,iv (-1),v,A],G,by rw[b];exact T,?_,?_,?_⟩);have m1:∀{a:AV},(aA a).Nodup:=λ{a}=>(by cases a<;>simp[aA]);have H:wn [a1,iv (-1),a2,a3]=aA a1++(aA a2++aA a3):=(by rw[aTk,aTk,aTk,aTk];show aA a1++([]++(aA a2++(aA a3++[])))=_;simp);rw[H,xl,xl];refine⟨m1,⟨m1,m1,λx b y f e=>?_⟩,λx b y f e=>?_⟩;subst e;have:=(o x b).2;have:=(t x f).2;omega;subst e;rcases dF.1 f with f|f;have:=(n x b).2;have:=(o x f).2;omega;have:=(n x b).2;have:=(t x f).2;omega;rw[M];have:gU l d m [iv (-1),a2,a3]=(gU l d m [a2,a3]).map λp=>(iv (-1)::p.1,p.2):=rfl;rw[this,N,O];rfl;refine W u v A G ((Z.fx i (by simp)).fx k (by simp)) (k2.fx k (by simp)) k3 ((g.trans i).trans k) λq X=>?_;rcases dF.1 X with h|h;exact n1 q h;rcases dF.1 h with h|h;exact⟨(D q h).1.old g,(D q h).2⟩;exact⟨((E q h).1.old i).old g,(E q h).2⟩
def aH6(w:br):bW:=⟨⟨er (L w.ak) ⟨-1,[]⟩,-1,er (L w.bU) I,qZ (L w.ay)⟩,w.cells.map (·.init),er (L w.bU) 0,er (L w.ay) 0⟩
def aWw{Y:ae}{e:TypeId}{z:Nat}{a:AV}{aa:List (List AV)}{d:Nat}(g:bc Y e z a aa)(h:∀q∈aA a,q.1=d):dK a=[]\/dK a=[d]:=by rcases g with⟨_,rfl⟩|⟨b,rfl,_⟩;exact .inl rfl;refine .inr ?_;have:=h b (by simp[aA]);simp[dK,this]
def k1m{b:Id}{n:Nat}:dK (.m b n)=[b.1]:=rfl
def k1p{b:Id}{i j:Nat}:dK (.p b i j)=[b.1]:=rfl
def k1s{v:Value}:dK (.s v)=[]:=rfl
def k1l{r:List (List AV)}{t o:Bool}:dK (.l r t o)=[]:=rfl
structure SnL(Y0 Y:ae)(s:bW)(a1 a2 a3 a4 a5 a6:AV):Prop where
 g1:gm Y 131 2 a1 (s.bm.ak.map cg.c)
 g2:gm Y 4 1 a2 (s.bm.done.map cb)
 g3:gm Y 105 3 a3 (s.bm.ay.map bF.c)
 g4:gm Y 2 1 a4 (s.cells.map ci)
 g5:gm Y 2 1 a5 (s.bU.map ci)
 g6:gm Y 3 1 a6 (s.count.map ci)
 p1:∀q∈aA a1,bK Y0 q/\q.1=6
 p2:∀q∈aA a2,bK Y0 q/\q.1=6
 p3:∀q∈aA a3,bK Y0 q/\q.1=6
 p4:∀q∈aA a4,bK Y0 q/\q.1=32
 p5:∀q∈aA a5,bK Y0 q/\q.1=10
 p6:∀q∈aA a6,bK Y0 q/\q.1=14
section
variable{Y0 Y:ae}{s:bW}{a1 a2 a3 a4 a5 a6:AV}
def SnL.ids(h:SnL Y0 Y s a1 a2 a3 a4 a5 a6){x:Int}:∀q∈eB (.a [a1,iv x,a2,a3,a4,a5,a6]),bK Y0 q/\(q.1=6\/q.1=10\/q.1=14\/q.1=32):=by intro q b;have c:∀{a:AV},iR a=aA a:=λ{a}=>(by cases a<;>rfl);simp only[eB,Cz,RN,c,cL,dF] at b;rcases b with g|g|g|g|g|g|g;exact⟨(h.p1 q g).1, .inl (h.p1 q g).2⟩;simp[aA] at g;exact⟨(h.p2 q g).1, .inl (h.p2 q g).2⟩;exact⟨(h.p3 q g).1, .inl (h.p3 q g).2⟩;exact⟨(h.p4 q g).1, .inr (.inr (.inr (h.p4 q g).2))⟩;exact⟨(h.p5 q g).1, .inr (.inl (h.p5 q g).2)⟩;exact⟨(h.p6 q g).1, .inr (.inr (.inl (h.p6 q g).2))⟩
def SnL.lz(h:SnL Y0 Y s a1 a2 a3 a4 a5 a6):[a1,iv s.bm.tx,a2,a3,a4,a5,a6].map (lz Y)=s.c:=by simp only[ji,mU,aOb h.g1,aOb h.g2,aOb h.g3,aOb h.g4,aOb h.g5,aOb h.g6,aQ5];rfl
end
def aXI{Y:ae}{w:br}(hl:L Y=4096)(h0:L w.cells<=1000)(h1:L w.ak<=100)(h3:L w.bU<=100)(h4:L w.ay<=100):∃r B,(∃a1 a2 a3 a4 a5 a6,r= .a [a1,iv (-1),a2,a3,a4,a5,a6]/\SnL Y B (aH6 w) a1 a2 a3 a4 a5 a6/\Fx Y B [])/\cZ aS GG 29 [.a w.c] Y r B:=by refine aLy hl rfl λs2 v1 K2 bF nf b1=>?_;have F:Fx Y s2 []:=K2.fx [];have T:L s2=4096:=F.len.trans hl;simp only[IK];refine so T λv2 s3 G N3 b2=>?_;have c1:=G.kq b1;have W:L s3=4096:=G.len.trans T;have r6:aN (V 6) w.c=V (.a w.c):=rfl;have aT:aN J (w.c.drop 3)=V (sl cs w.bU):=rfl;have aU:aN J (w.c.drop 4)=V (sl cs w.ay):=rfl;have al:aN J w.c=V (sl cA.c w.cells):=rfl;simp only[adz,u0,u1,c1,r6,↓uL];refine a57 (by rw[W];decide) h1 h3 h4 λa1 a2 a3 s5 g1 g2 g3 j P=>?_;have P1:∀q∈aA a1,q.1=6:=λq b=>(P q (by simp[b])).2;have P2:∀q∈aA a2,q.1=6:=λq b=>(P q (by simp[b])).2;have P3:∀q∈aA a3,q.1=6:=λq b=>(P q (by simp[b])).2;have E:=j.kq c1;have av:=j.kq b2;have X:L s5=4096:=j.len.trans W;simp only[ady,u0,u1,E,aT,aj,↓uL];refine AP (by decide) (by decide) (by rw[X];decide) (by omega) λC s6 p5 N6 H d5=>?_;have Z:L s6=4096:=H.len.trans X;have aq:=H.kq E;simp only[adx,u0,u1,aq,aU,aj,↓uL];refine AP (by decide) (by decide) (by rw[Z];decide) (by omega) λD s7 p6 N7 F7 d6=>?_;have aa:L s7=4096:=F7.len.trans Z;have R:=H.trans F7;have aE:bM BF anY [(0, .a [a1,iv (-1),a2,a3]),(2, .m C (L w.bU)),(3, .m D (L w.ay))]=V (.a [a1,iv (-1),a2,a3, .l [] U U, .m C (L w.bU), .m D (L w.ay)]):=rfl;simp only[adw,aE,aY];refine anu aa λO y o N8 d9=>?_;have f:=R.trans o;have aM:L y=4096:=o.len.trans aa;have ar:=f.kq E;have aw:=f.kq av;have q1:=g1.fx f (by simp);have q2:=g2.fx f (by simp);have q3:=g3.fx f (by simp);have q5:=o.kq (F7.kq d5);have q6:=o.kq d6;obtain⟨bC,g⟩:=C;obtain⟨bD,i⟩:=D;simp only at p5 p6;subst p5;subst p6;simp only[adv];refine dT ?_ ?_;rcases aWw g1 P1 with M|M<;>rcases aWw g2 P2 with N|N<;>rcases aWw g3 P3 with e3|e3<;>simp[eL,lb,cD,dC,k1m,k1p,k1s,k1l,br.c,sl,M,N,e3];refine yV (L w.cells) (λk _ Y'=>∃a,box Y' (3,O)=V ⟨40,7,U,U,[[a1,iv (-1),a2,a3,a, .m (10,g) (L w.bU), .m (14,i) (L w.ay)]]⟩/\bc Y' 2 1 a (((w.cells.take k).map (·.init)).map ci)/\Fx y Y' [(3,O)]/\∀q∈aA a,bK y q/\q.1=32) ⟨_,d9,by simp[bc],Fx.refl _ _,by simp[aA]⟩ ?_;rintro k _ B hk ⟨a4,m1,g4,u,A⟩;have M:=u.kq ar;have aK:L B=4096:=u.len.trans aM;have aF:∀{Y:ae} {x:Int},aX yW 1 Y [(0,iv x)]=V (.l ([x].map ci) U U,Y):=λ{Y x}=>iz;simp only[adA,au,aI,u0,u1,M,al,m1,yr,C5,yd,rk,aj,ix,bh,aF,↓uL];refine⟨λh=>?_,λh=>?_⟩;have t:=aL h;refine⟨dJ t,?_⟩;refine apQ g4.p aK fF fF (by simp) (by simp;omega) λa' K g5 n N5=>?_;have m5:=n.keep _ _ (λb=>by have:=(A _ b).2;simp at this) m1;simp only[adu,u0,u1,m5,aj,↓uL];refine A0 m5 g5.p.ce (by simp) λY6 S D=>?_;have P5:∀q∈aA a',bK y q/\q.1=32:=λq b=>⟨(N5 q b).1.old u,(N5 q b).2⟩;simp only[adt,↓uL];refine dT (by simp[eL,lb,cD,dC,dK]) ?_;simp only[au,u0,u1];refine yU t ⟨a',D,?_,((u.trans n).trans S).mono λq b=>?_,P5⟩;rw[iJ t,<-bT t,dg,dg];exact g5.fx S λq b e=>(by simp at e;subst e;have:=(P5 _ b).2;simp at this);simp only[dF,cE] at b⊢;rcases b with(h|h)|h;exact .inl h;exact .inr (A q h).1.no;exact .inl h;have aG:k=L w.cells:=bP hk (bw h);subst aG;rw[gV] at g4;have N:=u.kq aw;have Bi:aN (V 7) [a1,iv (-1),a2,a3,a4, .m (10,g) (L w.bU), .m (14,i) (L w.ay)]=V (.a [a1,iv (-1),a2,a3,a4, .m (10,g) (L w.bU), .m (14,i) (L w.ay)]):=rfl;simp only[Bi,aY];refine qr N rfl rfl λK n C=>?_;simp only[C,qd,qh,df,Bi,aY];have v:Fx y K [(3,O),(2,v2)]:=u.trans n;have n6:∀{a:AV} {d:Nat},(∀q∈aA a,q.1=d)->d≠2->d≠3->∀q∈aA a,q∉[((3,O):Id),((2,v2):Id)]:=λh h1 h2 q b e=>(by have:=h q b;simp at e;rcases e with e|e<;>subst e<;>simp at this<;>omega);have z1:=q1.fx v (n6 P1 (by decide) (by decide));have z2:=q2.fx v (n6 P2 (by decide) (by decide));have z3:=q3.fx v (n6 P3 (by decide) (by decide));have z4:=g4.fx n (λq b e=>by have:=(A q b).2;simp at e;subst e;simp at this);have z5:bc K 2 1 (.m (10,g) (L w.bU)) ((er (L w.bU) (0:Int)).map ci):= .inr ⟨(10,g),by simp,by rw[v.kq q5,List.map_replicate];rfl⟩;have z6:bc K 3 1 (.m (14,i) (L w.ay)) ((er (L w.ay) (0:Int)).map ci):= .inr ⟨(14,i),by simp,by rw[v.kq q6,List.map_replicate];rfl⟩;have o3:∀{q:Id},bK s3 q->bK Y q:=λh=>(h.old G).old F;have o9:∀{q:Id},bK y q->bK Y q:=λh=>o3 ((h.old f).old j);have n5:bK Y (10,g):=o3 (N6.old j);have aP:bK Y (14,i):=o3 ((N7.old H).old j);refine⟨a1,a2,a3,a4,_,_,rfl,⟨z1.p,z2.p,z3.p,z4.p,z5.p,z6.p,λq h=>⟨o3 (P q (by simp[h])).1,P1 q h⟩,λq h=>⟨o3 (P q (by simp[h])).1,P2 q h⟩,λq h=>⟨o3 (P q (by simp[h])).1,P3 q h⟩,λq h=>⟨o9 (A q h).1,(A q h).2⟩,λq h=>?_,λq h=>?_⟩,(((((F.trans G).trans j).trans f).trans v)).mono λq b=>?_⟩;simp only[aA,cE] at h;subst h;exact⟨n5,rfl⟩;simp only[aA,cE] at h;subst h;exact⟨aP,rfl⟩;simp only[dW,eW,ql,C8,cL] at b;rcases b with rfl|rfl;exact .inr (o3 ((N8.old R).old j)).no;exact .inr (N3.old F).no
def O1(Y:ae)(z:Nat)(x:AV)(aa:List (List AV)):Prop:=(∃t o,x= .l aa t o)\/∃b m e,x= .m b (L aa)/\box Y b=V ⟨e,z,U,I,aa++m⟩
section
variable{Y Y':ae}{z:Nat}{x:AV}{aa:List (List AV)}
def O1.fx{a:List Id}(h:O1 Y z x aa)(F:Fx Y Y' a)(c:∀q∈aA x,q∉a):O1 Y' z x aa:=by rcases h with h|⟨b,m,e,rfl,d⟩;exact .inl h;exact .inr ⟨b,m,e,rfl,F.keep _ _ (c b (by simp[aA])) d⟩
def O1.bx(h:O1 Y z x aa):∀q∈aA x,∃y,box Y q=V y:=by rcases h with⟨t,o,rfl⟩|⟨b,m,e,rfl,c⟩;simp[aA];intro q a;simp only[aA,cE] at a;subst a;exact⟨_,c⟩
def O1.of{e:TypeId}(h:gm Y e z x aa):O1 Y z x aa:=by rcases h with⟨rfl,rfl⟩|⟨b,m,rfl,a⟩;exact .inl ⟨_,_,rfl⟩;exact .inr ⟨b,m,e,rfl,a⟩
def O1.ro(h:O1 Y z x aa):gL Y x=V aa:=by rcases h with⟨t,o,rfl⟩|⟨b,m,e,rfl,a⟩;rfl;simp[gL,a]
def O1.ln(h:O1 Y z x aa):fS Y x=V (iv (L aa)):=by rcases h with⟨t,o,rfl⟩|⟨b,m,e,rfl,a⟩;rfl;simp[fS,a]
def O1.ce(h:O1 Y z x aa):eY x=V [x]:=by rcases h with⟨t,o,rfl⟩|⟨b,m,e,rfl,a⟩<;>rfl
def O1.ix1(h:O1 Y 1 x aa){i:Nat}{c:AV}(g:aa[i]?=V [c]){K:AV->d7}(d:∀p,p= .q [c]\/(∃b,p= .p b i 0/\b∈aA x)->K p c):rV (cz 1 Y x (iv i)) λp=>rV (kb J Y p) (K p):=by obtain⟨a,r⟩:=List.getElem?_eq_some_iff.1 g;rcases h with⟨t,o,rfl⟩|⟨b,m,e,rfl,f⟩;have:cz 1 Y (.l aa t o) (iv i)=V (.q [c]):=(by simp[cz,a,r]);rw[this];exact d _ (.inl rfl);have j:cz 1 Y (.m b (L aa)) (iv i)=V (.p b i 0):=(by simp[cz,f,a]);have k:(aa++m)[i]?=V [c]:=(by rw[xe a];exact g);have n:kb J Y (.p b i 0)=V c:=(by simp only[kb,iE,f,qd,k];cases c<;>rfl);rw[j];simp only[aY,n];exact d _ (.inr ⟨b,rfl,by simp[aA]⟩)
def apV{e:TypeId}{d by':Nat}{zs:List AV}{a:AV}{new:List (List AV)}{K:be}(h:gm Y e z a aa)(t:gL Y x=V new)(A:L zs=z)(k:0<z)(u:d<L Y)(y:∀r∈aa,L r=z)(v:∀r∈new,L r=z)(f:(L aa+L new)*(by'+1)<=1099511627776)(j:∀c Y',gm Y' e z c (aa++new)->Fx Y Y' (aA a)->(∀b∈aA c,b∈aA a\/bK Y b/\b.1=d)->K c Y'):eV (j5 e zs by' Y d a x) K:=by have o:j5 e zs by' Y d a x=j5 e zs by' Y d a (.l new U U):=(by have n:gL Y (.l new U U)=V new:=rfl;unfold j5;rw[t,n]);rw[o];by_cases i:new=[];subst i;have:j5 e zs by' Y d a (.l [] U U)=V (a,Y):=(by unfold j5;simp only[gL];rw[bX (by simp)];rcases h with⟨_,rfl⟩|⟨q,m,rfl,w⟩;rfl;simp[w]);rw[this];exact j a Y (by simpa using h) (Fx.refl _ _) λb f=> .inl f;exact qs h A k u y v i f λc Y' g F N=>j c Y' g.p F λb f=> .inr (N b f)
end
def baG{Y:ae}{z0 a:AV}{e:TypeId}{z:Nat}{aa:List (List AV)}(g:gm Y e z a aa):aX [z0] 1 Y [(0,a)]=V (.l [[.l aa I I]] U U,kills Y (aA a)):=by rcases g with⟨rfl,rfl⟩|⟨b,m,rfl,c⟩;simp[aX,gp,eY,nrm,gK,eR,gi,eB,iR,kills,kC,eN,aA];simp[aX,gp,eY,nrm,gK,eR,gi,eB,iR,kC,eN,aA,c]
def O1.keys{Y:ae}{z:Nat}{x:AV}{aa:List (List AV)}(h:O1 Y z x aa){P:Nat->Prop}(a:∀q∈aA x,P q.1):cD x=[]\/∃p,cD x=[p]/\P p:=by rcases h with⟨t,o,rfl⟩|⟨b,m,e,rfl,c⟩;exact .inl rfl;exact .inr ⟨b.1,rfl,a b (by simp[aA])⟩
def a6M{Y:ae}{w ev:Int}{x1 x2:AV}{li:List Int}{lj:List (List Int)}(hl:L Y=4096)(h1:O1 Y 1 x1 (li.map ci))(h2:O1 Y 1 x2 (lj.map cl))(hp:∀q∈aA x1,q.1≠1/\q.1≠3)(b1:L li<=1000)(b2:L lj<=1000)(b3:∀t∈lj,L t<=1000):
  ∃r u,(∃a1 a2,r= .a [iv w,a1,a2,iv ev]/\gm u 2 1 a1 (li.map ci)/\gm u 38 1 a2 (lj.map cl)/\Fx Y u []/\(∀q∈aA a1,bK Y q/\q.1=12)/\∀q∈aA a2,bK Y q/\q.1=31)/\cZ aS GG 200 [.a [iv w,x1,x2,iv ev]] Y r u:=by
 refine bhc hl rfl λs2 v1 K2 bk nf c1=>?_
 have B:Fx Y s2 []:=K2.fx []
 have T:L s2=4096:=B.len.trans hl
 have H1:=h1.fx B (by simp)
 have H2:=h2.fx B (by simp)
 simp only[aVb]
 refine so T λv2 s3 C N3 q3=>?_
 have Z:=C.kq c1
 have F:=C.len.trans T
 have M:∀{x:List AV} {y:AV},aN J (y::x)=V y:=λ{x y}=>by cases y<;>rfl
 simp only[a21,u0,u1,Z,M,nM,ip,aj,nS,↓uL]
 have H3:=H2.fx C (by simp)
 have al:=H1.fx C (by simp)
 simp only[a20,u0,u1,Z,M,nM,ip,aj,↓uL]
 refine apV (aa:=[]) (e:=2) (z:=1) (.inl ⟨rfl,rfl⟩) al.ro rfl (by decide) (by rw[F];decide) (by simp) fF (by simp;omega) λa1 s4 K F4 P4=>?_
 simp only[dW] at K
 have o:∀q∈aA a1,bK s3 q/\q.1=12:=λq d=>(P4 q d).elim (λh=>by simp[aA] at h) id
 have f:Fx s3 s4 []:=F4.mono (by simp[aA])
 have av:bM aoD alz [(0,iv w),(3,iv ev),(1,a1)]=V (.a [iv w,a1, .l [] U U,iv ev]):=by
  rcases K with⟨_,rfl⟩|⟨b,m,rfl,_⟩<;>rfl
 simp only[a2Z,av,aY]
 refine aRA rfl rfl (by decide) (by rw[f.len,F];decide) λv3 N v N5 q5=>?_
 have az:L N=4096:=v.len.trans (f.len.trans F)
 have c5:=v.kq (f.kq Z)
 have d5:=v.kq (f.kq q3)
 have g5:=K.fx v (by simp)
 have H5:=(H3.fx f (by simp)).fx v (by simp)
 have o3:∀{q:Id},bK s3 q->bK Y q:=λh=>(h.old C).old B
 have o5:∀{q:Id},bK N q->bK Y q:=λh=>o3 ((h.old v).old f)
 refine dT ?_ ?_
 ·have hk:cD a1=[]\/cD a1=[12]:=by
   rcases K with⟨_,rfl⟩|⟨b,m,rfl,_⟩
   ·exact .inl rfl
   ·refine .inr ?_
    have:=(o b (by simp[aA])).2
    simp[cD,dC,dK,this]
  rcases hk with H|H<;>rcases h1.keys (P:=λp=>p≠1/\p≠3) hp with e2|⟨p,e2,p1,p3⟩<;>simp[eL,lb,Cz, *]<;>simp[cD,dC,dK]<;>omega
 refine yV (L lj) (λk _ Y'=>∃a2,box Y' (3,v3)=V ⟨196,4,U,U,[[iv w,a1,a2,iv ev]]⟩/\gm Y' 38 1 a2 ((lj.take k).map cl)/\Fx N Y' [(3,v3)]/\∀q∈aA a2,bK N q/\q.1=31) ⟨_,q5,by simp[gm],Fx.refl _ _,by simp[aA]⟩ ?_
 rintro k _ u hk ⟨a2,m1,g2,j,D⟩
 have H:=j.kq c5
 have R:bK Y (3,v3):=o3 (N5.old f)
 have H6:=H5.fx j (λq d e=>by
  simp only[cE] at e
  subst e
  obtain⟨y,hy⟩:=h2.bx _ d
  exact R.no y hy)
 simp only[a22,au,aI,u0,u1,H,m1,M,nM,ip,aj,H6.ln,bJ,nS,↓uL]
 refine⟨λh=>?_,λh=>?_⟩
 ·have g:=aL h
  simp only[a2Y,au,u0,u1,H,M,nM,ip,aj,↓uL]
  refine H6.ix1 (i:=k) (c:=sl ci (gd lj k)) (by rw[ve,eC g,bT g];rfl) λp bj=>?_
  have S:L u=4096:=j.len.trans az
  have bi:=b3 _ (dB g)
  refine apV (aa:=[]) (e:=3) (z:=1) (new:=(gd lj k).map ci) (.inl ⟨rfl,rfl⟩) rfl rfl (by decide) (by rw[S];decide) (by simp) fF (by simp;omega) λG s7 g7 F7 P7=>?_
  simp only[dW] at g7
  have n:Fx u s7 []:=F7.mono (by simp[aA])
  have A:∀q∈aA G,bK u q/\q.1=29:=λq d=>(P7 q d).elim (λh=>by simp[aA] at h) id
  have E:=aOp (aA G) s7
  simp only[a2X,baG g7,bQ]
  have g8:=(g2.fx n (by simp)).fx E (λq d e=>by have:=(D q d).2;have:=(A q e).2;omega)
  refine qs (new:=[[.l ((gd lj k).map ci) I I]]) g8 rfl (by decide) (by rw[E.len,n.len,S];decide) (by intro r hr;obtain⟨y,_,rfl⟩:=dN.1 hr;rfl) (by simp) (by simp) (by simp;omega) λa9 s9 g9 F9 X=>?_
  have m9:=F9.keep _ _ (λd=>by have:=(D _ d).2;simp at this) (E.keep _ _ (λd=>by have:=(A _ d).2;simp at this) (n.kq m1))
  simp only[a2W,u0,u1,m9,aj,↓uL]
  refine A0 m9 g9.p.ce (by simp) λbl O an=>?_
  simp only[a2V,↓uL]
  refine dT ?_ ?_
  ·have ax:cD G=[]\/cD G=[29]:=by
    rcases g7 with⟨_,rfl⟩|⟨b,m,rfl,_⟩
    ·exact .inl rfl
    ·refine .inr ?_
     have:=(A b (by simp[aA])).2
     simp[cD,dC,dK,this]
   rcases ax with e7|e7<;>simp[eL,lb,e7,Cz]<;>simp[cD,dC,dK,sl]
  simp only[au,u0,u1]
  refine yU g ⟨a9,an,?_,((((j.trans n).trans E).trans F9).trans O).mono λq d=>?_,λq d=>⟨(((X q d).1.old E).old n).old j,(X q d).2⟩⟩
  ·rw[iJ g,<-bT g,dg]
   exact g9.p.fx O λq d e=>by have:=(X q d).2;simp at e;subst e;simp at this
  ·simp only[dF,cE,ql,C8] at d⊢
   rcases d with((h|h)|h)|h
   ·exact .inl h
   ·exact .inr ((A q h).1.old j).no
   ·exact .inr (D q h).1.no
   ·exact .inl h
 ·have aw:k=L lj:=bP hk (bw h)
  subst aw
  rw[gV] at g2
  have d6:=j.kq d5
  have uS:aN (V 4) [iv w,a1,a2,iv ev]=V (.a [iv w,a1,a2,iv ev]):=rfl
  simp only[uS,aY]
  refine qr d6 rfl rfl λs8 W b8=>?_
  simp only[b8,qd,qh,df,uS,aY]
  refine⟨a1,a2,rfl,(g5.fx j λq d e=>by have:=(o q d).2;simp at e;subst e;simp at this).fx W (λq d e=>by have:=(o q d).2;simp at e;subst e;simp at this),g2.fx W (λq d e=>by have:=(D q d).2;simp at e;subst e;simp at this),((((((B.trans C).trans f).trans v).trans j).trans W)).mono λq d=>?_,λq d=>⟨o3 (o q d).1,(o q d).2⟩,λq d=>⟨o5 (D q d).1,(D q d).2⟩⟩
  simp only[dW,dF,cE,cL] at d
  rcases d with rfl|rfl
  ·exact .inr R.no
  ·exact .inr (N3.old B).no
def aR3:dO:=(26,Gf)::a7D
def aPL:eJ aR3:=it (apM PM) (aR2)
def aPg:=ai @azy<|@bcw
section
attribute[local irreducible] aX
def a9J:=bi 25 [(4,([7],[2,3,4,6])),(12,([8,9,10],[2,3,4]))]
def a25 d e R c a:=aw 4 a d λf=>sV (aK 4 a e f) λb=>aw 4 b e λg=>fe R b [g,(gt c 1)]
def a26 a e d g i k m b f h o j l p n t R c:=dH [(bo a),(bo e),(bo d),(bo g),(bo a),(bo i),(bo d),(bo k),km,(lb I [] []),km,(lb I [m,(gt b 2)] [125]),(lb U [f,h] []),(lb I [o,(gt b 0)] []),(lb U [j,l] []),(lb I [p,n] [])] [(0,9),(1,9),(2,9),(3,9),(4,9),(5,9),(6,9),(7,9),(8,9),(9,10),(0,11),(1,11),(2,11),(3,11),(4,11),(5,11),(6,11),(7,11),(8,11),(4,13),(5,13),(6,13),(7,13)] (ab 0 c a λq=>aV q (iv 1) λr=>aB 0 c a λs=>sV (aK 1 c s r) (a25 a t R b))
def a27 b c d h i g k m n o f j l p q R a:=ao 1 a b c λe=>sV (aK 1 a e d) (a26 h i g k m n o f j l p b c e d q R)
def a28 c d a k m g h f i j l n p R o b:=ao 1 b c d λe=>sV (aK 1 b e (gt a 0)) (a27 k m o g h f i j l n a c d e p R)
def aVg c b o R d a:=∀_:Rg,aB 1 a c λe=>aM a e λk=>aB 1 a b λf=>aM a f λl=>aB 2 a c λg=>aM a g λm=>aB 1 a b λh=>aM a h λn=>eV (aX bH 0 a []) λi j=>eV (j5 3 fB 8 j 125 i (gt d 2)) (a28 k l d m n c e b f g h i o R)
def a29 c d R a:=aw 4 a c λe=>sV (aK 4 a d e) λb=>aw 4 b d λf=>fe R b [f,(bv U)]
def a3b a b c t5 R(d:aG):=ab 0 a b λe=>bf e (iv 5) λS=>ah S (ab 1 a b λT=>aB 0 a c λW=>sV (aK 1 a W T) (a29 c t5 R)) (bf e (iv 1) λX=>ah X (ab 4 a b λZ=>d [Z,(bv U),(.l [] U U)] a) (bf e (iv 2) λaa=>ah aa (ab 1 a c λac=>ab 2 a b λad=>ao 1 a ac ad λae=>aM a ae λaf=>ab 2 a c λag=>ab 2 a b λak=>ao 1 a ag ak λal=>aM a al λam=>d [af,(bv U),am] a) (bf e (iv 3) λan=>ah an (ab 4 a b λap=>fV aSh a [ap] λaq=>ab 1 a c λh=>ab 2 a b λi=>ao 1 a h i λj=>aM a j λk=>fV aUb a [aq,k] λf=>rV (eO 0 f) λm=>rV (eO 1 f) λn=>ab 2 a c λo=>ab 2 a b λp=>ao 1 a o p λq=>aM a q λr=>d [m,n,r] a) (ab 4 a b λs=>fV aSh a [s] λt=>ab 1 a c λu=>ab 2 a b λv=>ao 1 a u v λw=>aM a w λx=>ab 1 a c λy=>ab 3 a b λz=>ao 1 a y z λA=>aM a A λB=>fV aUa a [t,x,B] λg=>rV (eO 0 g) λC=>rV (eO 1 g) λD=>ab 2 a c λE=>ab 2 a b λF=>ao 1 a E F λG=>aM a G λH=>ab 2 a c λK=>ab 3 a b λM=>ao 1 a K M λN=>aM a N λO=>fV FE a [H,O] λP=>d [C,D,P] a))))
def aRs i d e R f(y:aG)(j:bu) c a:=∀_:Rg,aJ a i λk=>aU (gt c 0) k λl=>ah l (ao 1 a i (gt c 0) λm=>aM a m λn=>aU n (iv 0) λb=>ic b i λo=>ic b (gt c 0) λp=>aC b (ao 1 a o p) λq=>aC b (aM a q) λr=>bn b 1 a d λs=>aC b (aJ a s) λt=>aC b (aO .geq r t) λu=>aD b (bv U) u λv=>ah v (rV (bM aoD alz []) λw=>sV (aK 4 a e w) λg=>aw 4 g e λx=>fe R g [x,(bv I)]) (aV (gt c 0) (iv 1) λh=>y [h] a/\j [h] a<j c a)) (jV 12 (aVg d f e R) (a3b a f d e R))
def a3a a c R d b:=aw 6 b a λe=>fV aRj b [e] λf=>lV [(iv 0)] b (aRs f c d R a)
def aVf a b c R:=eV (bs 196 aoD c 4) (a3a a b R)
def bf1{a b:AV}{s0:ae}{R:be}(h:eV (qm 209 6 s0 2 a) λc e=>eV (qm 196 4 e 3 b) λd f=>aVf c d f R):EB 201 [a,b] s0 R:=zB a9J aPL Tryz.func201 h
def bhf{e:List AV}{f:List AV}{s0:ae}{R:be}(j:L s0=4096)(l0:L e=6)(l1:L f=4)(h:∀(b:ae) (c d:Nat),Kp s0 b->(∀k,k≠2->k≠3->aZ b k=aZ s0 k)->(∀x,box s0 (2,c)≠V x)->(∀x,box s0 (3,d)≠V x)->box b (2,c)=V ⟨209,6,U,U,[e]⟩->box b (3,d)=V ⟨196,4,U,U,[f]⟩->aVf (.p (2,c) 0 0) (.p (3,d) 0 0) b R):EB 201 [.a e, .a f] s0 R:=by refine bf1 ?_;refine iN rfl l0 (by decide) (by decide) j λt c i g0 r m=>?_;refine iN rfl l1 (by decide) (by decide) (i.len.trans j) λb d l g1 s n=>?_;exact h b c d (Kp.trans i l) (λk o q=>(g1 k q).trans (g0 k o)) (λx g=>r x ((Kp.refl _).keep _ _ g)) (λx g=>s x (i.keep _ _ g)) (l.keep _ _ m) n
end
def bfq{Y:ae}{b:Id}{i j z:Nat}{e s:TypeId}{z2:Nat}{a:AV}{r:List AV}{aa d:List (List AV)}{K:ae->Prop}(h:box Y b=V ⟨e,z,U,I,aa⟩)(x:aa[i]?=V r)(v:j<L r)(g:gm Y s z2 a d)(n:b∉aA a)(u:∀Y',Fx Y Y' (aA a++[b])->box Y' b=V ⟨e,z,U,I,aa.set i (r.set j (.l d I I))⟩->K Y'):sV (aK 1 Y (.p b i j) a) K:=by have w:nrm (eR Y a)= .l d I I:=(by rcases g with⟨rfl,rfl⟩|⟨q,m,rfl,o⟩;rfl;simp[eR,gi,o,nrm,gK]);have k:eB a=aA a:=(by rcases g with⟨rfl,rfl⟩|⟨q,m,rfl,o⟩<;>rfl);have f:=aOp (aA a) Y;have c:=f.keep b _ n h;have t:aK 1 Y (.p b i j) a=V (wr (kills Y (aA a)) b ⟨e,z,U,I,aa.set i (r.set j (.l d I I))⟩):=(by simp only[aK,aBG,h,eE,aB9,k,w,pW,c,eY,x,bZ,vw];rw[bX ⟨trivial,by omega,λ_=>rfl⟩];rw[GP (l:=r),bX v];simp);rw[t];exact u _ (f.trans (wc c)) (lO c)
structure TSt(Y:ae)(P:List Int->Prop)(n:Nat)(a1 a2:AV)(li:List Int)(lj:List (List Int)):Prop where
 g1:gm Y 2 1 a1 (li.map ci)
 g2:gm Y 38 1 a2 (lj.map cl)
 n1:L li=n
 n2:L lj=n
 hP:∀t∈lj,P t
 p1:∀q∈aA a1,q.1=12
 p2:∀q∈aA a2,q.1=31
def aSq(Y:ae)(P:List Int->Prop)(n:Nat)(b c:AV)(ev:Int)(r:AV)(d:ae):Prop:=Fx Y d (aA b++aA c)/\(r= .t [.a aoD,bv I]\/∃(f:Int) (e:Bool) (li:List Int) (lj:List (List Int)),r= .t [.a [iv f,b,c,iv ev],bv e]/\TSt d P n b c li lj)
def TSt.fx{Y Y':ae}{P:List Int->Prop}{n:Nat}{c d:AV}{li:List Int}{lj:List (List Int)}(S:TSt Y P n c d li lj){b:List Id}(F:Fx Y Y' b)(f:∀q∈b,q.1≠12/\q.1≠31):TSt Y' P n c d li lj:=⟨S.g1.fx F λq a e=>(f q e).1 (S.p1 q a),S.g2.fx F λq a e=>(f q e).2 (S.p2 q a),S.n1,S.n2,S.hP,S.p1,S.p2⟩
def bdr{Y:ae}{P:List Int->Prop}{n:Nat}{i:lF}{pc ev:Int}{B D:AV}{li:List Int}{lj:List (List Int)}(hl:L Y=4096)(S:TSt Y P n B D li lj)(b5:1<=i.op/\i.op<=5)(hn:n<=1000)(bm:P [])(bn:∀a b,P a->P b->P (mP a b))(ap:∀a,P a->L a<=1000):∃r A,aSq Y P n B D ev r A/\cZ aS GG 201 [.a i.c, .a [iv pc,B,D,iv ev]] Y r A:=by refine bhf hl rfl rfl λs4 v2 v3 K4 cb nf2 aR c2 c3=>?_;have F4:Fx Y s4 []:=K4.fx [];have aM:=F4.len.trans hl;simp only[aVf];refine so aM λv5 s5 F5 N5 c5=>?_;have d2:=F5.kq c2;have R:=F5.kq c3;simp only[a3a,u0,u1,d2,gw,jM,kU,jt,Fa,aPg,↓uL];rintro r ⟨t',o',rfl⟩;refine⟨by simp[lo,nA,eB,iR,lF.c],?_⟩;refine yV (L (A1 i)) (λk _ Y'=>Y'=s5/\∀j,j<k->aF n (gd (A1 i) j)) ⟨rfl,by simp⟩ ?_;rintro k _ A hk ⟨rfl,hc⟩;have o:=(S.fx F4 (by simp)).fx F5 (by simp);have k1:∀{x:List AV} {y:AV},aN J (y::x)=V y:=λ{x y}=>(by cases y<;>rfl);have W:Fx Y A []:=F4.trans F5;have hz:bM aoD alz []=V (.a aoD):=rfl;have aO:∀{Y':ae},gm Y' 2 1 B (li.map ci)->fS Y' B=V (iv n):=λg=>(by rw[g.ln,bJ,S.n1]);have ao:∀T:Bool,sV (aK 4 A (.p (4,v5) 0 0) (.a aoD)) λs=>rV (kb (V 4) s (.p (4,v5) 0 0)) λt=>fe (aSq Y P n B D ev) s [t,bv I]:=λT=>(by refine qr c5 rfl rfl λs6 F6 b6=>?_;rw[aEa b6 rfl];exact⟨(W.trans F6).mono (λq d=>by simp at d;subst d;exact .inr (N5.old F4).no), .inl rfl⟩);have br:∀x:Int,(Q (x<0)||Q (x>=(n:Int)))=I->aF n x:=λx G=>(by simp only[cP,o8] at G;exact⟨by omega,by omega⟩);rcases Decidable.em (k<L (A1 i)) with w|w;have hd:Q ((k:Int)<(L (A1 i):Int))=U:=(by simp;exact w);rcases h1:Q (gd (A1 i) k<0) with _|_;rcases h2:Q (gd (A1 i) k>=(n:Int)) with _|_;simp only[aRs,au,aI,gT,tf,rk,gw,bh,hd,h1,h2,u0,u1,R,k1,aj,aO o.g1,↓jA,Aa,↓iC,↓iB,↓uL];refine⟨dJ w,dJ w,dR (mk:=λ(_:Unit) i=>[iv i]) (s:=()) (s':=()) (λ_ _=>rfl) w (by have:=a64 i;omega) ⟨rfl,jf hc (br _ ?_)⟩⟩;rw[h1,h2];rfl;simp only[aRs,au,aI,gT,tf,rk,gw,bh,hd,h1,h2,u0,u1,R,k1,aj,aO o.g1,↓jA,Aa,↓iC,hz,↓uL];exact⟨dJ w,dJ w,ao I⟩;simp only[aRs,au,aI,gT,tf,rk,gw,bh,hd,h1,u0,u1,R,k1,aj,↓jN,ya,↓iC,hz,↓uL];exact⟨dJ w,ao I⟩;(focus have hd:Q ((k:Int)<(L (A1 i):Int))=I:=(by simp;omega);simp only[aRs,au,aI,gT,hd,↓iB,di,u0,u1,↓uL];have bt:k=L (A1 i):=(by omega);subst bt;have f:∀r∈A1 i,aF n r:=λr hr=>(by obtain⟨j,hj,rfl⟩:=ou hr;rw[<-bT hj];exact hc j hj);have ho:i.op=1\/i.op=2\/i.op=3\/i.op=4\/i.op=5:=(by omega);have E:∀(v:Int) (T:Bool) (tx:AV) (t:List Int),(∃t' o',tx= .l (t.map ci) t' o')->P t->aF n i.a->aVg (.p (3,v3) 0 0) (.p (2,v2) 0 0) (.p (4,v5) 0 0) (aSq Y P n B D ev) [iv v,bv T,tx] A:=(by rintro v T tx t ⟨t',o',rfl⟩ F aL;obtain⟨m,H⟩:∃m:Nat,i.a=m:=⟨i.a.toNat,by have:=aL.1;omega⟩;have aP:m<n:=(by have:=aL.2;omega);have M:m<L li:=(by rw[o.n1];exact aP);have N:m<L lj:=(by rw[o.n2];exact aP);have ca:=ap _ F;simp only[aVg,aI,au,u0,u1,d2,R,gw,k1,aj,nS,H,↓uL];refine apV (aa:=[]) (e:=3) (z:=1) (new:=t.map ci) (.inl ⟨rfl,rfl⟩) rfl rfl (by decide) (by rw[F5.len,aM];decide) (by simp) fF (by simp;omega) λa7 s7 g7 F7 P7=>?_;simp only[dW] at g7;have X:Fx A s7 []:=F7.mono (by simp[aA]);have Z:∀q∈aA a7,bK A q/\q.1=125:=λq d=>(P7 q d).elim (λh=>by simp[aA] at h) id;have C:=o.fx X (by simp);have bf:=X.kq R;have bi:=X.kq c5;simp only[a28,au,↓uL];refine ixG C.g1 (dJ (by simpa using M)) λb1 m1 aq bo=>?_;rw[bh];have aT:b1.1=12:=C.p1 b1 (by rw[aq];simp[aA]);refine aQz (x:=iv v) (r:=[iv (gd li m)]) bo (by rw[xe (by simpa using M),ve,eC M,bT M];rfl) (by simp) rfl rfl rfl λs8 F8 b8=>?_;have a3:(li.map ci++m1).set m ([iv (gd li m)].set 0 (nrm (eR s7 (iv v))))=(li.set m v).map ci++m1:=(by rw[List.set_append_left _ _ (by simpa using M),vB];rfl);rw[a3] at b8;have e1:gm s8 2 1 B ((li.set m v).map ci):= .inr ⟨b1,m1,by rw[aq];simp,b8⟩;have e2:=C.g2.fx F8 (λq d e=>by have:=C.p2 q d;simp at e;subst e;omega);have e7:=g7.fx F8 (λq d e=>by have:=(Z q d).2;simp at e;subst e;omega);have n1:∀{q:Id},q.1≠12->q∉[b1]:=λh e=>(by simp at e;subst e;exact h aT);have bg:=F8.keep _ _ (n1 (by simp)) bf;have bj:=F8.keep _ _ (n1 (by simp)) bi;simp only[a27,↓uL];refine ixG e2 (dJ (by simpa using N)) λb2 m2 ar bp=>?_;rw[bh];have bx:b2.1=31:=C.p2 b2 (by rw[ar];simp[aA]);refine bfq (r:=[sl ci (gd lj m)]) bp (by rw[xe (by simpa using N),ve,eC N,bT N];rfl) (by simp) e7 (λd=>by have:=(Z _ d).2;omega) λs9 F9 b9=>?_;have aD:(lj.map cl++m2).set m ([sl ci (gd lj m)].set 0 (.l (t.map ci) I I))=(lj.set m t).map cl++m2:=(by rw[List.set_append_left _ _ (by simpa using N),vB];rfl);rw[aD] at b9;have n2:∀{q:Id},q.1≠125->q.1≠31->q∉aA a7++[b2]:=λh h' e=>(by rcases dF.1 e with e|e;exact h (Z _ e).2;simp at e;subst e;exact h' bx);have S9:TSt s9 P n B D (li.set m v) (lj.set m t):=⟨e1.fx F9 (λq d=>n2 (by rw[C.p1 q d];decide) (by rw[C.p1 q d];decide)), .inr ⟨b2,m2,by rw[ar];simp,b9⟩,by simp[o.n1],by simp[o.n2],λx G=>(CC G).elim (o.hP x) (λe=>by subst e;exact F),C.p1,C.p2⟩;have aJ:=F9.keep _ _ (n2 (by simp) (by simp)) bg;have bk:=F9.keep _ _ (n2 (by simp) (by simp)) bj;simp only[a26,↓uL];refine dT ?_ ?_;simp only[au,nr];simp[eL,lb,cD,dC,dK,aT];simp only[u0,u1,aJ,k1,ip,aj];refine A0 aJ rfl (by simp) λbz ak ba=>?_;have O:∃aw,box bz (3,v3)=V ⟨196,4,U,U,[[iv aw,B,D,iv ev]]⟩:=⟨_,ba⟩;obtain⟨aw,O⟩:=O;simp only[a25,aEa O rfl,aY,ck,↓uL];refine qr (ak.kq bk) rfl rfl λcc aG bb=>?_;rw[aEa bb rfl];refine⟨((((((W.trans X).trans F8).trans F9).trans ak).trans aG)).mono λq d=>?_, .inr ⟨aw,T,_,_,rfl,(S9.fx ak (by simp)).fx aG (by simp)⟩⟩;simp only[dW,cL,dF,cE] at d;rcases d with((d|d|d)|d)|d;subst d;exact .inl (by rw[aq];simp[aA]);exact .inr ((Z q d).1.old W).no;subst d;exact .inl (by rw[ar];simp[aA]);subst d;exact .inr aR;subst d;exact .inr (N5.old F4).no);have ab:∀{x:Int} {K:AV->d7},aF n x->(∀p y,K p (iv y))->rV (cz 1 A B (iv x)) λp=>rV (kb J A p) (K p):=λ{x K} G hK=>(by obtain⟨m,rfl⟩:∃m:Nat,x=m:=⟨x.toNat,by have:=G.1;omega⟩;have H:m<L li:=(by have:=G.2;have:=o.n1;omega);exact(O1.of o.g1).ix1 (i:=m) (c:=iv (gd li m)) (by rw[ve,eC H,bT H];rfl) λp _=>hK p _);have ac:∀{x:Int} {K:AV->d7},aF n x->(∀p t,P t->K p (sl ci t))->rV (cz 1 A D (iv x)) λp=>rV (kb J A p) (K p):=λ{x K} G hK=>(by obtain⟨m,rfl⟩:∃m:Nat,x=m:=⟨x.toNat,by have:=G.1;omega⟩;have H:m<L lj:=(by have:=G.2;have:=o.n2;omega);exact(O1.of o.g2).ix1 (i:=m) (c:=sl ci (gd lj m)) (by rw[ve,eC H,bT H];rfl) λp _=>hK p _ (o.hP _ (dB H)));rcases ho with h|h|h|h|h;(all_goals simp only[a3b,h,aNV,aNE,Int.reduceEq,u0,u1,d2,R,gw,k1,aj,↓iC,↓iB,jM,kU,jt,tW,aPg,rr,mn,↓uL]);exact E _ _ _ [] ⟨_,_,rfl⟩ bm (f _ (by simp[A1,h]));refine ab (f _ (by simp[A1,h])) λp y=>ac (f _ (by simp[A1,h])) λp t F=>E _ _ _ t ⟨_,_,rfl⟩ F (f _ (by simp[A1,h]));intro x;refine ab (f _ (by simp[A1,h])) λp y=>?_;simp only[tW,aPg];rintro r ⟨u,T,rfl⟩;refine⟨by simp[lo,nA,eB,iR],?_⟩;simp only[oJ,pG,u0];exact ac (f _ (by simp[A1,h])) λp t F=>E _ _ _ t ⟨_,_,rfl⟩ F (f _ (by simp[A1,h]));intro x;refine ab (f _ (by simp[A1,h])) λp y=>ab (f _ (by simp[A1,h])) λp y'=>?_;simp only[tW,aPg];rintro r ⟨u,T,rfl⟩;refine⟨by simp[lo,nA,eB,iR],?_⟩;simp only[oJ,pG,u0];refine ac (f _ (by simp[A1,h])) λp t F=>ac (f _ (by simp[A1,h])) λp t2 aQ=>?_;simp only[alg,aPg];refine⟨by have:=ap _ F;have:=ap _ aQ;omega,?_⟩;rintro r ⟨t',o',rfl⟩;exact⟨by simp[lo,nA,eB,iR,sl],E _ _ _ (mP t t2) ⟨_,_,rfl⟩ (bn _ _ F aQ) (f _ (by simp[A1,h]))⟩;refine A0 R rfl (by simp) λs6 F6 b6=>?_;have bc:box s6 (3,v3)=V ⟨196,4,U,U,[[iv i.a,B,D,iv ev]]⟩:=b6;simp only[a29,aEa bc rfl,aY,↓uL];refine qr (F6.kq c5) rfl rfl λs7 F7 b7=>?_;rw[aEa b7 rfl];refine⟨((W.trans F6).trans F7).mono λq d=>?_, .inr ⟨i.a,U,li,lj,rfl,(o.fx F6 (by simp)).fx F7 (by simp)⟩⟩;simp only[dW,dF,cE] at d;rcases d with rfl|rfl;exact .inr (aR);exact .inr (N5.old F4).no)
def a7E:dO:=aR3
def a7m:eJ a7E:=aPL
def aTd:=@aPg
section
attribute[local irreducible] aX
def a9H:=bi 26 [(7,([6],[2,3,4]))]
def a23 c(e:aG)(d:bu) f a:=aV (gt c 0) (iv 1) λb=>e [b] a/\d [b] a<d c f
def aSw n m R b l h i j k a:=cf n λd=>ah d (rV (bM aoD alz []) λe=>sV (aK 4 a m e) λc=>aw 4 c m λf=>fe R c [f,(bv I)]) (aw 4 a b λg=>sV (aK 4 a l g) (a23 h i j k))
def aVd l R i d e f g b h:=rV (eO 0 b) λj=>rV (eO 1 b) λk=>eV (bs 196 aoD h 8) λa c=>sV (aK 4 c a j) (aSw k l R a i d e f g)
def aSx b c d R i e h j k a:=ab 0 a b λl=>fV aSf a [l] λm=>cf m λn=>ah n (aw 4 a c λo=>sV (aK 4 a d o) λf=>aw 4 f d λp=>fe R f [p,(bv U)]) (ab 1 a i λq=>aJ a q λr=>bf (gt e 0) r λs=>ah s (rV (bM aoD alz []) λt=>sV (aK 4 a d t) λg=>aw 4 g d λu=>fe R g [u,(bv I)]) (aw 6 a b λv=>aw 4 a c λw=>cB 201 [v,w] a 66 (aVd d R c e h j k)))
def aRr c d g R l m h a:=∀_:Rg,ab 1 a c λo=>aJ a o λp=>aO .leq (gt h 0) p λq=>ah q (ab 0 a d λr=>aU r (iv 0) λb=>bn b 0 a d λs=>bn b 1 a c λt=>aC b (aJ a t) λu=>aC b (aO .geq s u) λv=>aD b (bv U) v λw=>ah w (rV (bM aoD alz []) λx=>sV (aK 4 a g x) λi=>aw 4 i g λy=>fe R i [y,(bv I)]) (ab 1 a c λz=>ab 0 a d λA=>ao 6 a z A λB=>aw 6 a B λC=>eV (bs 209 Py a 7) λe n=>sV (aK 6 n e C) (aSx e d g R c h l m a))) (rV (bM aoD alz []) λj=>sV (aK 4 a g j) λf=>aw 4 f g λk=>fe R f [k,(bv I)])
def aVe a b f R e c:=sV (aK 4 c a e) λd=>lV [(iv 0)] d (aRr b a f R)
def aSy c d R f a:=ab 1 a c λp=>aJ a p λq=>ab 0 a d λg=>aO .neq q g λb=>bn b 2 a c λh=>aC b (aJ a h) λi=>bn b 0 a d λj=>aC b (aO .neq i j) λk=>aD b (bv U) k λl=>ah l (rV (bM aoD alz []) λm=>sV (aK 4 a f m) λe=>aw 4 e f λn=>fe R e [n,(bv I)]) (aw 4 a c λo=>cB 200 [o] a 26 (aVe c d f R))
def aVc a b c R:=eV (bs 196 aoD c 4) (aSy b a R)
def bf0{a b:AV}{s0:ae}{R:be}(h:eV (qm 192 2 s0 2 a) λc e=>eV (qm 196 4 e 3 b) λd f=>aVc c d f R):EB 170 [a,b] s0 R:=zB a9H a7m Tryz.func170 h
def bhd{e:List AV}{f:List AV}{s0:ae}{R:be}(j:L s0=4096)(l0:L e=2)(l1:L f=4)(h:∀(b:ae) (c d:Nat),Kp s0 b->(∀k,k≠2->k≠3->aZ b k=aZ s0 k)->(∀x,box s0 (2,c)≠V x)->(∀x,box s0 (3,d)≠V x)->box b (2,c)=V ⟨192,2,U,U,[e]⟩->box b (3,d)=V ⟨196,4,U,U,[f]⟩->aVc (.p (2,c) 0 0) (.p (3,d) 0 0) b R):EB 170 [.a e, .a f] s0 R:=by refine bf0 ?_;refine iN rfl l0 (by decide) (by decide) j λt c i g0 r m=>?_;refine iN rfl l1 (by decide) (by decide) (i.len.trans j) λb d l g1 s n=>?_;exact h b c d (Kp.trans i l) (λk o q=>(g1 k q).trans (g0 k o)) (λx g=>r x ((Kp.refl _).keep _ _ g)) (λx g=>s x (i.keep _ _ g)) (l.keep _ _ m) n
end
def aOo(Y:ae):AV->AV| .t vs=> .t (vs.map λx=>nrm (eR Y x))|x=>nrm (eR Y x)
def aNW:AV->List Id| .t vs=>vs.flatMap eB|x=>eB x
def bcr{P:Program}{κ:rm}{w:World}{Y:ae}{β:Id->Nat}{v:Value}{x:AV}(s:cv P κ w Y β)(h:ba κ w Y β v x):ba κ w (kills Y (aNW x)) β v (aOo Y x):=by cases x with|t vs=>(cases h with|t f h=>refine .t (by simpa using f) λi v c g a=>?_;rw[ve] at a;cases d:vs[i]? with|none=>rw[d] at a;cases a|some y=>rw[d] at a;simp only[df,Option.some.injEq] at a;subst a;exact yo (xK s (h i v y g d) λb e=>iI.2 ⟨y,List.mem_of_getElem? d,e⟩))|_=>exact yo (xK s h λb e=>e)
def cZ.frz{P:Program}{G:nn}{fn:FuncId}{xs:List AV}{Y a:ae}{r:AV}(h:cZ P G fn xs Y r a):cZ P G fn xs Y (aOo a r) (kills a (aNW r)):=by refine⟨h.1,λκ w β c s g f=>(h.2 κ w β c s g f).mono ?_⟩;rintro e k ⟨v,d,rfl,i,b,j⟩;exact⟨v,d,rfl,bcr b i,(D1 _ b).2.1,j.trans (D1 _ b).1⟩
def aQR{P:Program}{G:nn}{fn:FuncId}{xs:List AV}{Y:ae}{R Q:be}(h:∃r a,R r a/\cZ P G fn xs Y r a)(d:∀r a,R r a->Q (aOo a r) (kills a (aNW r))):∃r a,Q r a/\cZ P G fn xs Y r a:=by obtain⟨r,a,b,c⟩:=h;exact⟨_,_,d r a b,c.frz⟩
def a6r{Y:ae}{e:TypeId}{z:Nat}{a:AV}{aa:List (List AV)}(g:gm Y e z a aa):gK (gi Y a)= .l aa I I:=aOb g
def aQX{Y:ae}{e:TypeId}{z:Nat}{a:AV}{aa:List (List AV)}(g:gm Y e z a aa):iR a=aA a:=by rcases g with⟨_,rfl⟩|⟨b,m,rfl,_⟩<;>rfl
section
variable{Y:ae}{P:List Int->Prop}{n:Nat}{d:Nat}{K:be}
def ba0{i:lF}{s ev:Int}{f g:AV}{li:List Int}{lj:List (List Int)}(p:L Y=4096)(S:TSt Y P n f g li lj)(m:1<=i.op/\i.op<=5)(q:n<=1000)(j:P [])(l:∀a b,P a->P b->P (mP a b))(k:∀a,P a->L a<=1000)(o:∀r e,aSq Y P n f g ev r e->K r e):cB 201 [.a i.c, .a [iv s,f,g,iv ev]] Y d K:=by refine jH rfl (bdr p S m q j l k) ?_;intro r e h;exact⟨h.1.len,o r e h⟩
def alD{l ev:Int}{g x2:AV}{li:List Int}{lj:List (List Int)}(u:L Y=4096)(o:O1 Y 1 g (li.map ci))(p:O1 Y 1 x2 (lj.map cl))(v:∀q∈aA g,q.1≠1/\q.1≠3)(x:L li=n)(y:L lj=n)(z:n<=1000)(i:∀t∈lj,P t)(j:∀a,P a->L a<=1000)(s:∀c e b,TSt b P n c e li lj->Fx Y b []->(∀q∈aA c++aA e,bK Y q)->K (.a [iv l,c,e,iv ev]) b):cB 200 [.a [iv l,g,x2,iv ev]] Y d K:=by refine jH rfl (a6M u o p v (by omega) (by omega) λt w=>j t (i t w)) ?_;rintro r b ⟨c,e,rfl,g1,m,F,p1,k⟩;refine⟨F.len,s c e b ⟨g1,m,x,y,i,λq f=>(p1 q f).2,λq f=>(k q f).2⟩ F λq f=>?_⟩;rcases dF.1 f with h|h;exact(p1 q h).1;exact(k q h).1
end
def Tn(l:List Int):Prop:=jC l/\∀x∈l,0<=x/\x<1000
def Tn.len{l:List Int}(h:Tn l):L l<=1000:=by have b:∀i,i<L l->(i:Int)<=gd l i:=(by intro i;induction i with|zero=>intro a;exact(h.2 _ (dB a)).1|succ i e=>intro a;have:=e (by omega);have:=h.1 i a;omega);rcases Nat.eq_zero_or_pos (L l) with c|c;omega;have:=b (L l-1) (by omega);have:=(h.2 _ (dB (l:=l) (k:=L l-1) (by omega))).2;omega
def Tn.nil:Tn []:=⟨λi a=>by simp at a,by simp⟩
def Tn.one{x:Int}(h:0<=x/\x<1000):Tn [x]:=⟨λi a=>by simp at a,by simpa using h⟩
def Tn.put{l:List Int}{x:Int}(h:Tn l)(a:0<=x/\x<1000):Tn (fk l x):=⟨Nz h.1,λy b=>(an1 b).elim (λe=>by rw[e];exact a) (h.2 y)⟩
def Tn.fold:∀(a:List Int) {l:List Int},Tn l->(∀x∈a,0<=x/\x<1000)->Tn (a.foldl fk l)|[],_,h,_=>h|x::a,_,h,b=>Tn.fold a (h.put (b x (by simp))) λy c=>b y (by simp[c])
def Tn.un(a b:List Int)(c:Tn a)(e:Tn b):Tn (mP a b):=by simp only[mP,jh,gV];exact Tn.fold b (Tn.fold a Tn.nil c.2) e.2
def ts0:pt:=⟨0,[],[],0⟩
def aQG(s s':pt):Prop:=(∀t∈s'.lj,Tn t)/\L s'.li<=1000/\L s'.lj<=1000/\(s'.ac=s.ac\/s'.ac=0)
def bdq{Y:ae}{c:A2}{s:pt}{x1 x2:AV}(hl:L Y=4096)(bc:O1 Y 1 x1 (s.li.map ci))(bd:O1 Y 1 x2 (s.lj.map cl))(hp:∀q∈aA x1,q.1≠1/\q.1≠3)(p1:c.li<=1000)(p2:L c.No<1000000)(p3:L s.li<1000000)(p4:L s.lj<1000000)(p5:∀t∈s.lj,Tn t):
  ∃r Y1,((∃(l:Bool) (s':pt),r= .t [.a s'.c,bv l]/\aQG s s')/\Fx Y Y1 [])/\cZ aS GG 170 [.a c.c, .a [iv s.pc,x1,x2,iv s.ac]] Y r Y1:=by
 generalize hQ:(λ(r:AV) (y:ae)=>(∃(l:Bool) (s':pt),aOo y r= .t [.a s'.c,bv l]/\aQG s s')/\Fx Y (kills y (aNW r)) [])=W
 refine aQR (R:=W) ?_ (λr y h=>by rw[<-hQ] at h;exact h)
 refine bhd hl rfl rfl λs4 v2 v3 K4 bO nf2 aM b1 b2=>?_
 have N:Fx Y s4 []:=K4.fx []
 have aD:=N.len.trans hl
 have H1:=bc.fx N (by simp)
 have H2:=bd.fx N (by simp)
 simp only[aVc]
 refine so aD λM s5 A N5 c5=>?_
 have d1:=A.kq b1
 have d2:=A.kq b2
 have aE:=A.len.trans aD
 have E:∀{x:List AV} {y:AV},aN J (y::x)=V y:=λ{x y}=>by cases y<;>rfl
 have G:∀{a b c d:AV},aN (V 4) [a,b,c,d]=V (.a [a,b,c,d]):=rfl
 have z:Fx Y s5 []:=N.trans A
 have aO:∀{x:ae} {cs:List AV} {s':pt} {l:Bool},cs.map (lz x)=s'.c->aQG s s'->Fx Y x []->(∀q∈cs.flatMap iR,∀y,box Y q≠V y)->fe W x [.a cs,bv l]:=λ{x cs s' l} e h F hn=>by
  show W (.t [.a cs,bv l]) x
  rw[<-hQ]
  have e1:aOo x (.t [.a cs,bv l])= .t [.a s'.c,bv l]:=by
   show AV.t [nrm (eR x (.a cs)),bv l]=_
   have:nrm (eR x (.a cs))= .a (cs.map (lz x)):=by simp only[eR,nrm,vA];rfl
   rw[this,e]
  refine⟨⟨l,s',e1,h⟩,(F.trans (aOp _ _)).mono λq f=> .inr (hn q ?_)⟩
  simpa[aNW,eB,iR] using f
 have n5:∀y,box Y (4,M)≠V y:=(N5.old N).no
 have j:∀{x:ae} (l:Bool),Fx Y x []->box x (4,M)=V ⟨196,4,U,U,[aoD]⟩->sV (aK 4 x (.p (4,M) 0 0) (.a aoD)) λy=>rV (kb (V 4) y (.p (4,M) 0 0)) λt=>fe W y [t,bv I]:=λ{x} l F hb=>by
  refine qr hb rfl rfl λs6 D b6=>?_
  rw[aEa b6 rfl]
  exact aO (s':=ts0) rfl ⟨by simp[ts0],by simp[ts0],by simp[ts0], .inr rfl⟩ ((F.trans D).mono λq f=>by simp at f;subst f;exact .inr n5) (by simp[iR])
 have go:(L s.li:Int)=c.li->(L s.lj:Int)=c.li->cB 200 [.a [iv s.pc,x1,x2,iv s.ac]] s5 26 (aVe (.p (3,v3) 0 0) (.p (2,v2) 0 0) (.p (4,M) 0 0) W):=λq1 q2=>by
  refine alD (P:=Tn) (n:=L s.li) aE (H1.fx A (by simp)) (H2.fx A (by simp)) hp rfl (by omega) (by omega) p5 (λa h=>h.len) λX Z s6 S6 D N6=>?_
  simp only[aVe]
  have a4:=D.kq d1
  have a6:=D.kq d2
  have a0:=D.kq c5
  refine qr a6 rfl rfl λs7 O b7=>?_
  have a5:=O.kq a4
  have a3:=O.kq a0
  have S7:=S6.fx O (by simp)
  have ba:=(O.len.trans D.len).trans aE
  refine yV (L c.No+1) (λk _ x=>∃o li lj,Fx Y x []/\L x=4096/\box x (2,v2)=V ⟨192,2,U,U,[c.c]⟩/\box x (3,v3)=V ⟨196,4,U,U,[[iv o,X,Z,iv s.ac]]⟩/\box x (4,M)=V ⟨196,4,U,U,[aoD]⟩/\TSt x Tn (L s.li) X Z li lj) ⟨_,_,_,((z.trans D).trans O).mono (λq f=>by simp at f;subst f;exact .inr aM),ba,a5,b7,a3,S7⟩ ?_
  rintro k _ x hk ⟨o,li,lj,H,aJ,m1,m2,m3,S⟩
  have kk:∀{y:AV},Q ((k:Int)<=(L c.No:Int))=U->k<L c.No+1:=λh=>by have:=nt h;omega
  rcases hx:Q ((k:Int)<=(L c.No:Int)) with _|_
  ·simp only[aRr,au,aI,u0,u1,m1,m2,gw,E,aj,hx,↓iB,↓uL]
   exact j I H m3
  have bL:k<=L c.No:=by have:=nt hx;omega
  rcases m:Q (o<0) with _|_
  ·rcases v:Q (o>=(L c.No:Int)) with _|_
   ·have a8:aF (L c.No) o:=by
     simp only[o8] at m v
     exact⟨by omega,by omega⟩
    simp only[aRr,au,aI,u0,u1,m1,m2,rk,gw,E,aj,hx,m,v,y9,↓jA,↓iC,↓iB,↓uL]
    refine⟨a8,anu aJ λv7 s8 B N8 b8=>?_⟩
    have n1:=B.kq m1
    have n2:=B.kq m2
    have n3:=B.kq m3
    have S8:=S.fx B (by simp)
    have aG:=B.len.trans aJ
    generalize hI:gd c.No o.toNat=i at b8⊢
    have ri:aN (V 6) i.c=V (.a i.c):=rfl
    rcases hs:(Q (1<=i.op)&&Q (i.op<=5)) with _|_
    ·simp only[aSx,u0,u1,n2,b8,gw,G,aj,ar,aTd,rr,hs,↓iC,↓uL]
     refine qr n3 rfl rfl λs9 C b9=>?_
     simp only[b9,qd,qh,df,G,aY]
     have u:=S8.fx C (by simp)
     exact aO (s':=⟨o,li,lj,s.ac⟩) (by simp only[ji,mU,aQ5,aOb u.g1,aOb u.g2];rfl) ⟨u.hP,by have:=u.n1;simp only;omega,by have:=u.n2;simp only;omega, .inl rfl⟩ (((H.trans B).trans C).mono λq f=>by simp at f;subst f;exact .inr n5) (λq f=>by
      have e9:([iv o,X,Z,iv s.ac]:List AV).flatMap iR=aA X++aA Z:=by simp only[Cz,RN,aQX u.g1,aQX u.g2];simp[iR]
      rw[e9] at f
      exact((N6 q f).old z).no)
    have bb:1<=i.op/\i.op<=5:=by simpa using hs
    rcases f:Q ((k:Int)=(L c.No:Int)) with _|_
    ·simp only[aSx,u0,u1,n1,n2,b8,gw,G,ri,aj,ar,aTd,rr,hs,f,↓iB,↓uL]
     refine ba0 aG S8 bb (by omega) Tn.nil Tn.un (λa h=>h.len) λr s9 h9=>?_
     obtain⟨C,h9⟩:=h9
     have ah:∀{b:Id},b.1≠12->b.1≠31->b∉aA X++aA Z:=λm v f=>by
      rcases dF.1 f with h|h
      ·exact m (S.p1 _ h)
      ·exact v (S.p2 _ h)
     have o1:=C.keep _ _ (ah (by simp) (by simp)) n1
     have o2:=C.keep _ _ (ah (by simp) (by simp)) n2
     have o3:=C.keep _ _ (ah (by simp) (by simp)) n3
     have aa:=C.len.trans aG
     have T:Fx Y s9 []:=((H.trans B).trans C).mono λq f=> .inr ((N6 q (by simpa using f)).old z).no
     rcases h9 with rfl|⟨bg,l,az,am,rfl,u⟩
     ·simp only[aVd,oJ,pG,aY]
      refine anu aa λbk bi g aT aC=>?_
      have q1:=g.kq o1
      have q2:=g.kq o2
      have q3:=g.kq o3
      simp only[aSw,u0,u1,↓iC,↓uL]
      exact j I (T.trans g) q3
     ·simp only[aVd,oJ,pG,aY]
      refine anu aa λbk bi g aT aC=>?_
      have q1:=g.kq o1
      have q2:=g.kq o2
      have q3:=g.kq o3
      have aV:=u.fx g (by simp)
      cases l with
      |false=>
       simp only[aSw,u0,u1,↓iC,↓uL]
       exact j I (T.trans g) q3
      |true=>
       simp only[aSw,u0,u1,aC,G,↓iB,↓uL]
       refine qr q2 rfl rfl λbQ w aZ=>?_
       simp only[a23,au,u0,u1,↓uL]
       have bM:k≠L c.No:=by have:=aNG f;omega
       exact dR (mk:=λ(_:Unit) i=>[iv i]) (s:=()) (s':=()) (λ_ _=>rfl) (by omega) (by omega) ⟨bg,az,am,((T.trans g).trans w).mono (λq f=>by simp at f;subst f;exact .inr aM),(w.len.trans g.len).trans aa,w.kq q1,aZ,w.kq q3,aV.fx w (by simp)⟩
    ·simp only[aSx,u0,u1,n1,n2,b8,gw,G,aj,ar,aTd,rr,hs,f,↓iB,↓iC,↓uL]
     exact j I (H.trans B) n3
   ·simp only[aRr,au,aI,u0,u1,m1,m2,gw,E,aj,hx,m,v,↓jA,↓iC,wY,↓uL]
    exact j I H m3
  ·simp only[aRr,au,aI,u0,u1,m1,m2,gw,E,aj,hx,m,↓jN,ya,↓iC,↓uL]
   exact j I H m3
 have ad:fS s5 x1=V (iv (L s.li)):=by rw[(H1.fx A (by simp)).ln,bJ]
 have aL:fS s5 x2=V (iv (L s.lj)):=by rw[(H2.fx A (by simp)).ln,bJ]
 rcases m:Q ((L s.li:Int)≠c.li) with _|_
 ·have q1:(L s.li:Int)=c.li:=by simpa using m
  rcases v:Q ((L s.lj:Int)≠c.li) with _|_
  ·have q2:(L s.lj:Int)=c.li:=by simpa using v
   simp only[aSy,u0,u1,d1,d2,gw,E,ad,aL,aj,m,v,↓jA,↓iB,G,↓uL]
   exact go q1 q2
  ·simp only[aSy,u0,u1,d1,d2,gw,E,ad,aL,aj,m,v,↓jA,↓iC,wY,↓uL]
   exact j I z c5
 ·simp only[aSy,u0,u1,d1,d2,gw,E,ad,aj,m,↓jN,ya,↓iC,G,↓uL]
  exact j I z c5
def baY{Y:ae}{c:A2}{s:pt}{f x2:AV}{d:Nat}{K:be}(k:L Y=4096)(g:O1 Y 1 f (s.li.map ci))(i:O1 Y 1 x2 (s.lj.map cl))(l:∀q∈aA f,q.1≠1/\q.1≠3)(p1:c.li<=1000)(m:L c.No<1000000)(o:L s.li<1000000)(p:L s.lj<1000000)(u:∀t∈s.lj,Tn t)(j:∀(e:Bool) (s':pt) b,aQG s s'->Fx Y b []->K (.t [.a s'.c,bv e]) b):cB 170 [.a c.c, .a [iv s.pc,f,x2,iv s.ac]] Y d K:=by refine jH rfl (bdq k g i l p1 m o p u) ?_;rintro r b ⟨⟨e,s',rfl,h⟩,F⟩;exact⟨F.len,j e s' b h F⟩
def aYd:dO:=a7E
def a7n:eJ aYd:=a7m
def bcx:=@aTd
section
attribute[local irreducible] aX
def a5G:=bi 9 [(4,([4],[1,2,3]))]
def a3c a j i l m b n o k p h r q(f:aG)(c:bu) g d:=dH [(bo a),(bo j),(bo i),(bo l),km,(lb U [m,(gt b 0)] []),(bo n),(lb I [] [12,31]),(lb I [o] [32]),(lb I [k,p] [33]),(bo a),(lbV h r q)] [(0,7),(1,7),(0,8),(1,8)] (aV (gt b 0) (iv 1) λe=>f [e] d/\c [e] d<c b g)
def a3d a j i l m e n o k p f g h c b:=aB 6 b a λd=>sV (aK 1 b d c) (a3c a j i l m e n o k p b d c f g h)
def a3e b a l k m n e o f g h c i:=eV (lvS 196 a70 1 i 32 [(0,c)]) λd j=>eV (avA 196 aoD 64 j 33 b d) (a3d a l k m n e o c b d f g h)
def a3k d b t3 R j k c a:=∀_:Rg,ab 6 a d λl=>aJ a l λm=>aU (gt c 0) m λn=>ah n (aB 6 a b λf=>aM a f λo=>aB 6 a d λg=>aM a g λh=>ao 4 a h (gt c 0) λi=>aw 4 a i λp=>cV 200 [p] a 31 (a3e o b f d g h c i j k a)) (aw 7 a b λq=>sV (aK 7 a t3 q) λe=>aw 7 e t3 λr=>fe R e [r])
def a3f b m e o f i h j n g k c a l t3 R d:=dH [(bo b),(bo m),(lb I [] [10,14,41]),(lb I [] []),(bo b),(bo e),(lb I [o,f] [11]),(lb I [] []),(bo b),(bo i),(lb I [h,j] [15]),(lb U [n,g,k] []),(lb I [] [3]),(lbV c a l)] [(0,3),(1,3),(2,3),(2,4),(3,4),(2,5),(3,5),(0,7),(1,7),(2,7),(3,7),(4,7),(5,7),(6,7),(2,8),(3,8),(6,8),(7,8),(2,9),(3,9),(6,9),(7,9),(0,12),(1,12),(2,12),(3,12),(4,12),(5,12),(6,12),(7,12),(8,12),(9,12),(10,12),(11,12)] (lV [(iv 0)] d (a3k b a t3 R))
def a3g m c g n h o i k j l t3 R d f:=rV (bM NY anY [(0,m),(1,c),(2,d)]) λe=>eV (bs 87 NY f 3) λa b=>sV (aK 7 b a e) (a3f g n h o i k j l m c d b a e t3 R)
def a3h b j h i f k g t3 R c a:=aB 5 a b λd=>aM a d λe=>eV (j5 2 EN 8 a 15 c e) (a3g j h b i f k g d c e t3 R)
def a3i b i h t3 R g a:=aB 4 a b λc=>aM a c λd=>eV (j5 2 EN 8 a 11 g d) λf e=>eV (aX yW 0 e []) (a3h b i f h c g d t3 R)
def a3j a R t3 b:=aB 0 b a λc=>aw 4 b c λe=>cV 161 [e] b 7 λf d=>eV (aX yW 0 d []) (a3i a f c t3 R)
def aSz a b R:=eV (bs 87 NY b 2) (a3j a R)
def bf2{b:AV}{s0:ae}{R:be}(h:eV (qm 87 7 s0 1 b) λa c=>aSz a c R):EB 169 [b] s0 R:=aTc (aBe ready (aQ9 a7n) Tryz.func169 (an:=a5G) (by kernel_rfl) (aND (show ZB aS GGV aYd a5G Tryz.f169 [b] s0 R=(eV (qm 87 7 s0 1 b) λa c=>aSz a c R) by kernel_rfl) h))
def bhg{d:List AV}{s0:ae}{R:be}(g:L s0=4096)(l0:L d=7)(h:∀(b:ae) (c:Nat),Kp s0 b->(∀k,k≠1->aZ b k=aZ s0 k)->(∀x,box s0 (1,c)≠V x)->box b (1,c)=V ⟨87,7,U,U,[d]⟩->aSz (.p (1,c) 0 0) b R):EB 169 [.a d] s0 R:=by refine bf2 ?_;refine iN rfl l0 (by decide) (by decide) g λb c j g0 l e=>?_;exact h b c j (λk f=>g0 k f) (λx i=>l x ((Kp.refl _).keep _ _ i)) e
end
section
variable{ks:List Nat}{l l':List Id}{Y Y' Y1:ae}
def aTi{e:TypeId}{z:Nat}{a:AV}{aa:List (List AV)}(g:gm Y e z a aa):∀q∈aA a,∃x,box Y q=V x:=by rcases g with⟨_,rfl⟩|⟨b,m,rfl,h⟩;simp[aA];intro q c;simp only[aA,cE] at c;subst c;exact⟨_,h⟩
def aQu{e:TypeId}{z k:Nat}{a:AV}{aa:List (List AV)}(g:gm Y e z a aa)(h:k∈dK a):∃q∈aA a,q.1=k:=by rcases g with⟨_,rfl⟩|⟨b,m,rfl,_⟩;rw[k1l] at h;simp at h;rw[k1m] at h;simp at h;exact⟨b,by simp[aA],h.symm⟩
end
def baT{S ev:Int}{T x2:AV}{li:List Int}{lj:List (List Int)}{Y:ae}{d:Nat}{K:be}(hl:L Y=4096)(e1:T=sl ci li)(e2:x2=sl cl lj)(W:L li<=1000)(X:L lj<=1000)(Z:∀t∈lj,L t<=1000)(l:List Id)(D:∀p∈l,∃e z a aa,gm Y e z a aa/\p∈aA a)(w:∀p∈l,p.1=12\/p.1=31)(hK:∀j k Y',gm Y' 2 1 j (li.map ci)->gm Y' 38 1 k (lj.map cl)->Kx [12,31] Y Y'->(∀{e z a aa},gm Y e z a aa->(∀q∈aA a,q∈l)->gm Y' e z a aa)->(∀q∈aA j,q∉l/\q.1=12)->(∀q∈aA k,q∉l/\q.1=31)->K (.a [iv S,j,k,iv ev]) Y'):cV 200 [.a [iv S,T,x2,iv ev]] Y d K:=by subst e1 e2;have N:L (Nm [12,31] l Y)=4096:=aOr.trans hl;have u:∀{l':List Id} {q:Id},q.1=12\/q.1=31->q∈l'->A6 [12,31] l' q:=λh h'=>⟨by rcases h with h|h<;>simp[h],h'⟩;have E:∀{e z a aa},gm Y e z a aa->(∀q∈aA a,q∈l)->gm (Nm [12,31] l Y) e z a aa:=λg h=>a6y g λq b=>u (w q (h q b)) (h q b);refine aQN rfl rfl l (λx i=>?_) ?_ (a6M N (.inl ⟨_,_,rfl⟩) (.inl ⟨_,_,rfl⟩) (by simp[aA,sl]) W X Z) ?_;simp only[cE] at i;subst i;intro c v;simp only[eW,ql,C8] at v;rcases v with rfl|rfl|rfl|rfl;trivial;exact .inl (by simp[eN]);exact .inl (by simp[eN]);trivial;intro p m x i B;obtain⟨e,z,a,aa,g,b⟩:=D p m;rw[aOV (by rcases w p m with h|h<;>simp[h]),bX m] at i;exact(aNO g p b x i B).elim;rintro r Y1 ⟨j,k,rfl,g1,C,F,p1,H⟩;have s:L Y1=L Y:=F.len.trans aOr;have P:∀q∈aA j,A6 [12,31] (l++(aA j++aA k)) q:=λq b=>u (.inl (p1 q b).2) (by simp[b]);have R:∀q∈aA k,A6 [12,31] (l++(aA j++aA k)) q:=λq b=>u (.inr (H q b).2) (by simp[b]);have o:∀q∈l,∃x,box (Nm [12,31] l Y) q=V x:=λq b=>(by obtain⟨e,z,a,aa,g,O⟩:=D q b;obtain⟨x,i⟩:=aTi g q O;exact⟨x,by rw[aOV (by rcases w q b with h|h<;>simp[h]),bX b];exact i⟩);refine⟨s,l++(aA j++aA k),λp m x i B=>?_,λc v=>?_,hK j k _ (aRR s g1 P) (aRR s C R) Kx.mix (λg h=>aRR s ((E g h).fx F (by simp)) λq b=>u (w q (h q b)) (by simp[h q b])) (λq b=>⟨λA=>?_,(p1 q b).2⟩) λq b=>⟨λA=>?_,(H q b).2⟩⟩;rcases dF.1 m with h|h;obtain⟨e,z,a,aa,g,b⟩:=D p h;obtain⟨y,G⟩:=o p h;have M:=F.kq G;rw[i] at M;cases M;rw[aOV (by rcases w p h with h|h<;>simp[h]),bX h] at G;exact(aNO g p b x G B).elim;rcases dF.1 h with h|h;exact(aNO g1 p h x i B).elim;exact(aNO C p h x i B).elim;simp only[eW,ql,C8] at v;rcases v with rfl|rfl|rfl|rfl;trivial;exact aQw g1 P;exact aQw C R;trivial;obtain⟨x,i⟩:=o q A;exact(p1 q b).1.no x i;obtain⟨x,i⟩:=o q A;exact(H q b).1.no x i
def aTn{b:Id}{i j:Nat}:cD (.p b i j)=[b.1]:=rfl
def a6H{r:List (List AV)}{t o:Bool}:cD (.l r t o)=[]:=rfl
def bc7{α:Type}{f:α->List AV}{l:List α}:cD (sl f l)=[]:=rfl
def aWx{Y:ae}{ds:List Nat}{e:TypeId}{z:Nat}{a:AV}{aa:List (List AV)}(g:Gr Y ds e z a aa):gm Y e z a aa/\∀q∈aA a,q.1∈ds:=by rcases g with⟨b,c⟩|⟨d,v,b,c,i⟩;exact⟨.inl ⟨b,c⟩,by subst c;simp[aA]⟩;refine⟨.inr ⟨_,[],b,by simpa using i⟩,?_⟩;subst b;intro q h;simp only[aA,cE] at h;subst h;exact c
def baS{s:aW}{Y:ae}{d:Nat}{K:be}(R:L Y=4096)(z:L s.ak<100000/\L s.done<100000/\L s.ay<100000/\∀l∈s.ak,L l.bk<1000000)(P:∀g i j Y',Kx [10,14,41] Y Y'->(∀k∈cD (.a [g,iv s.tx,i,j]),k=10\/k=14\/k=41)->K (.a [g,iv s.tx,i,j]) Y'):cV 161 [.a s.c] Y d K:=by have D:L (Nm [10,14,41] [] Y)=4096:=aOr.trans R;refine aQN rfl rfl [] (λx o=>?_) (by intro p z;simp at z) (aCH s D z) ?_;simp only[cE] at o;subst o;intro c t;simp only[aW.c,eW,ql,C8] at t;rcases t with rfl|rfl|rfl|rfl;exact .inl (by simp[eN]);trivial;exact .inl (by simp[eN]);exact .inl (by simp[eN]);rintro r Y1 ⟨⟨g,i,j,rfl,g1,M,N⟩,F⟩;obtain⟨v,E⟩:=aWx g1;obtain⟨w,G⟩:=aWx M;obtain⟨y,H⟩:=aWx N;have C:L Y1=L Y:=F.1.trans aOr;have B:∀{q:Id},q.1=10\/q.1=14\/q.1=41->q∈aA g++(aA i++aA j)->A6 [10,14,41] (aA g++(aA i++aA j)) q:=λh O=>⟨by rcases h with h|h|h<;>simp[h],O⟩;have S:∀q∈aA g,A6 [10,14,41] (aA g++(aA i++aA j)) q:=λq b=>B (.inr (.inr (by simpa using E q b))) (by simp[b]);have T:∀q∈aA i,A6 [10,14,41] (aA g++(aA i++aA j)) q:=λq b=>B (.inl (by simpa using G q b)) (by simp[b]);have W:∀q∈aA j,A6 [10,14,41] (aA g++(aA i++aA j)) q:=λq b=>B (.inr (.inl (by simpa using H q b))) (by simp[b]);refine⟨C,aA g++(aA i++aA j),λp u x o A=>?_,λc t=>?_,P g i j _ Kx.mix λk m=>?_⟩;simp only[dF] at u;rcases u with h|h|h;exact(aNO v p h x o A).elim;exact(aNO w p h x o A).elim;exact(aNO y p h x o A).elim;simp only[eW,ql,C8] at t;rcases t with rfl|rfl|rfl|rfl;exact aQw v S;trivial;exact aQw w T;exact aQw y W;have e:cD (.a [g,iv s.tx,i,j])=dK g++(dK i++dK j):=(by simp[cD,dC,dK]);rw[e] at m;simp only[dF] at m;rcases m with m|m|m;obtain⟨q,b,rfl⟩:=aQu v m;have:=E q b;simp at this;omega;obtain⟨q,b,rfl⟩:=aQu w m;have:=G q b;simp at this;omega;obtain⟨q,b,rfl⟩:=aQu y m;have:=H q b;simp at this;omega
def alx(f:Nat->AV×AV)(ss:List pt)(n:Nat):List (List AV):=(aH n).map λk=>[iv (gd ss k).pc,(f k).1,(f k).2,iv (gd ss k).ac]
def G2(vr:Bool)(Y:ae)(a:AV)(t:List (List Int)):Prop:=bif vr then t=er (L t) []/\∃b,a= .m b (L t)/\box Y b=V ⟨38,1,U,U,er (L t) [.l [] U U]⟩ else gm Y 38 1 a (t.map cl)
def G2.fx{vr:Bool}{Y Y':ae}{a:AV}{t:List (List Int)}{c:List Id}(g:G2 vr Y a t)(F:Fx Y Y' c)(h:∀q∈aA a,q∉c):G2 vr Y' a t:=by cases vr with|false=>exact gm.fx g F h|true=>obtain⟨d,b,rfl,e⟩:=g;exact⟨d,b,rfl,F.keep _ _ (h b (by simp[aA])) e⟩
def aWh{Y:ae}{e:TypeId}{z:Nat}{a:AV}{aa:List (List AV)}(g:gm Y e z a aa):rS Y a= .l aa I I:=by rcases g with⟨rfl,rfl⟩|⟨b,m,rfl,c⟩;rfl;simp[rS,aOn,c,gK]
def G2.fr{vr:Bool}{Y:ae}{a:AV}{t:List (List Int)}(g:G2 vr Y a t):rS Y a=sl cl t:=by cases vr with|false=>exact aWh g|true=>obtain⟨d,b,rfl,h⟩:=g;have e:(((er (L t) [AV.l [] U U]).take (L t)).all λr=>r.all λc=>eN (frM Y c))=U:=(by rw[dV];intro r i;rw[(List.mem_replicate.1 (List.mem_of_mem_take i)).2];rfl);simp only[rS,aOn,h,e,vg,gK];rw[cj (by decide)];simp only[sl];rw[d];simp[List.map_replicate,frM,gi,gK,sl,cl]
structure TTs(pl:Nat×Nat×Nat)(vr:Bool)(Y:ae)(a:AV)(f:Nat->AV×AV)(ss:List pt)(n:Nat):Prop where
 bx:(n=0/\a= .l [] U U)\/∃b,a= .m b n/\b.1=pl.2.2/\box Y b=V ⟨196,4,U,U,alx f ss n⟩
 g1:∀k,k<n->gm Y 2 1 (f k).1 ((gd ss k).li.map ci)
 g2:∀k,k<n->G2 vr Y (f k).2 (gd ss k).lj
 p1:∀k,k<n->∀q∈aA (f k).1,q.1=pl.1
 p2:∀k,k<n->∀q∈aA (f k).2,q.1=pl.2.1
 d1:∀i j,i<n->j<n->i≠j->∀q∈aA (f i).1,q∉aA (f j).1
 d2:∀i j,i<n->j<n->i≠j->∀q∈aA (f i).2,q∉aA (f j).2
def aQ8{f:Nat->AV×AV}{ss:List pt}{n:Nat}:L (alx f ss n)=n:=by simp[alx]
def aTy{f:Nat->AV×AV}{ss:List pt}{n k:Nat}(h:k<n):(alx f ss n)[k]?=V [iv (gd ss k).pc,(f k).1,(f k).2,iv (gd ss k).ac]:=by simp[alx,ve,List.getElem?_range h]
def ext(f:Nat->AV×AV)(n:Nat)(x:AV×AV):Nat->AV×AV:=λk=>if k=n then x else f k
def be5{f:Nat->AV×AV}{ss:List pt}{n:Nat}{x:AV×AV}:alx (ext f n x) ss (n+1)=alx f ss n++[[iv (gd ss n).pc,x.1,x.2,iv (gd ss n).ac]]:=by simp only[alx,qn,dg,ji,mU,ext,vg];congr 1;refine ja λk b=>?_;have:k≠n:=(by have:=fq.1 b;omega);rw[cj this]
section
variable{pl:Nat×Nat×Nat}{vr:Bool}{Y Y':ae}{a:AV}{f:Nat->AV×AV}{ss:List pt}{n:Nat}
def aPi(f:Nat->AV×AV)(n:Nat):List Id:=(aH n).flatMap λk=>aA (f k).1++aA (f k).2
def aXS{q:Id}(h:q∈aPi f n):∃k,k<n/\(q∈aA (f k).1\/q∈aA (f k).2):=by simp only[aPi,iI,fq,dF] at h;exact h
def aWy{k:Nat}(b:k<n):∀q∈aA (f k).1,q∈aPi f n:=λq c=>by
 simp only[aPi,iI,fq,dF];exact⟨k,b, .inl c⟩
def aWz{k:Nat}(b:k<n):∀q∈aA (f k).2,q∈aPi f n:=λq c=>by
 simp only[aPi,iI,fq,dF];exact⟨k,b, .inr c⟩
def TTs.fx(T:TTs pl vr Y a f ss n){g:List Id}(F:Fx Y Y' g)(d:∀q∈g,q.1≠pl.1/\q.1≠pl.2.1/\q.1≠pl.2.2):TTs pl vr Y' a f ss n:=⟨T.bx.elim .inl λ⟨b,j,i,m⟩=> .inr ⟨b,j,i,F.keep _ _ (λh=>(d _ h).2.2 i) m⟩,λk c=>(T.g1 k c).fx F λq e h=>(d q h).1 (T.p1 k c q e),λk c=>(T.g2 k c).fx F λq e h=>(d q h).2.1 (T.p2 k c q e),T.p1,T.p2,T.d1,T.d2⟩
def TTs.ids(T:TTs pl vr Y a f ss n):∀q∈aA a,q.1=pl.2.2:=by rcases T.bx with⟨_,rfl⟩|⟨b,rfl,h,_⟩;simp[aA];simpa[aA] using h
def TTs.ce(T:TTs pl vr Y a f ss n):eY a=V [a]:=by rcases T.bx with⟨_,rfl⟩|⟨b,rfl,h,_⟩<;>rfl
def a7Q{r ev:Int}{p x2:AV}{o d by':Nat}{zs z0:List AV}{K:AV->be}(T:TTs pl vr Y a f ss n)(hz:L zs=4)(w:L z0=4)(G:o<L Y)(W:d=pl.2.2)(ap:d<L Y)(h3:pl.2.2≠pl.1/\pl.2.2≠pl.2.1)(P:(n+1)*(by'+1)<=1099511627776)(Z:r=(gd ss n).pc)(X:ev=(gd ss n).ac)(g1:gm Y 2 1 p ((gd ss n).li.map ci))(O:G2 vr Y x2 (gd ss n).lj)(p1:∀q∈aA p,q∉aPi f n/\q.1=pl.1)(B:∀q∈aA x2,q∉aPi f n/\q.1=pl.2.1)(hK:∀y N Y',(∃v,y= .m (o,v) 1)->TTs pl vr Y' N (ext f n (p,x2)) ss (n+1)->Fx Y Y' (aA a)->(∀q∈aA N,∀x,box Y q≠V x)->K y N Y'):eV (lvS 196 zs 1 Y o [(0, .a [iv r,p,x2,iv ev])]) λy s=>eV (avA 196 z0 by' s d a y) (K y):=by subst Z X;have h1:lvS 196 zs 1 Y o [(0, .a [iv (gd ss n).pc,p,x2,iv (gd ss n).ac])]=V (.m (lA Y o) 1,put Y o ⟨196,L zs,U,U,[[iv (gd ss n).pc,p,x2,iv (gd ss n).ac]]⟩):=(by simp[lvS,eY,hz,y7,G]);rw[h1];show eV (avA 196 z0 by' (put Y o _) d a (.m (lA Y o) 1)) (K (.m (lA Y o) 1));have z:Fx Y (put Y o ⟨196,L zs,U,U,[[iv (gd ss n).pc,p,x2,iv (gd ss n).ac]]⟩) []:=kH G;have R:=iy (x:=(⟨196,L zs,U,U,[[iv (gd ss n).pc,p,x2,iv (gd ss n).ac]]⟩:bY)) G;generalize put Y o ⟨196,L zs,U,U,[[iv (gd ss n).pc,p,x2,iv (gd ss n).ac]]⟩=C at*;have T1:=T.fx z (by simp);have aq:=z.len;have aa:aEx U C (.m (lA Y o) 1)=V [[iv (gd ss n).pc,p,x2,iv (gd ss n).ac]]:=(by simp[aEx,R]);have mk:∀(M:ae) (b:Id),b.1=pl.2.2->(∀x,box Y b≠V x)->Fx Y M (aA a)->box M b=V ⟨196,4,U,U,alx f ss n++[[iv (gd ss n).pc,p,x2,iv (gd ss n).ac]]⟩->K (.m (lA Y o) 1) (.m b (n+1)) M:=λM b S hn F H=>(by have u:∀q∈aA a,q.1≠pl.1/\q.1≠pl.2.1:=λq c=>(by have:=T.ids q c;rw[this];exact h3);refine hK _ _ M ⟨_,rfl⟩ ⟨.inr ⟨b,rfl,S,by rw[be5];exact H⟩,λk A=>?_,λk A=>?_,λk A=>?_,λk A=>?_,λi j hi hj t=>?_,λi j hi hj t=>?_⟩ F λq c=>?_;by_cases e:k=n;subst e;simp only[ext,vg];exact g1.fx F λq c h=>(u q h).1 (p1 q c).2;simp only[ext,cj e];exact(T.g1 k (by omega)).fx F λq c h=>(u q h).1 (T.p1 k (by omega) q c);by_cases e:k=n;subst e;simp only[ext,vg];exact O.fx F λq c h=>(u q h).2 (B q c).2;simp only[ext,cj e];exact(T.g2 k (by omega)).fx F λq c h=>(u q h).2 (T.p2 k (by omega) q c);by_cases e:k=n;subst e;simp only[ext,vg];exactλq c=>(p1 q c).2;simp only[ext,cj e];exact T.p1 k (by omega);by_cases e:k=n;subst e;simp only[ext,vg];exactλq c=>(B q c).2;simp only[ext,cj e];exact T.p2 k (by omega);intro q c g;by_cases e:i=n;subst e;simp only[ext,vg,cj (Sa t)] at c g;exact(p1 q c).1 (aWy (by omega) q g);by_cases D:j=n;subst D;simp only[ext,vg,cj e] at c g;exact(p1 q g).1 (aWy (by omega) q c);simp only[ext,cj e,cj D] at c g;exact T.d1 i j (by omega) (by omega) t q c g;intro q c g;by_cases e:i=n;subst e;simp only[ext,vg,cj (Sa t)] at c g;exact(B q c).1 (aWz (by omega) q g);by_cases D:j=n;subst D;simp only[ext,vg,cj e] at c g;exact(B q g).1 (aWz (by omega) q c);simp only[ext,cj e,cj D] at c g;exact T.d2 i j (by omega) (by omega) t q c g;simp only[aA,cE] at c;subst c;exact hn);unfold avA;rw[aa];simp only[bZ,vw];rw[cj (by decide),bX ⟨by omega,by simp[y7];omega,by simp[w]⟩];rcases T1.bx with⟨h0,rfl⟩|⟨b,rfl,ao,E⟩;subst h0;simp only;rw[bX ⟨by simp,by simpa[lx] using P⟩];refine mk _ (lA C d) W (λx H=>(qQ C d).no x (z.kq H)) ((z.trans (kH (by omega))).mono (by simp)) ?_;rw[<-w];exact iy (by omega);simp only[E];rw[bX ⟨trivial,trivial,w.symm,by simp[aQ8],by simpa[lx] using P⟩];have A:d<L (kill C b):=(by rw[yg];omega);refine mk _ (lA C d) W (λx H=>(qQ C d).no x (z.kq H)) (((z.trans (Le E)).trans (kH A)).mono (by simp[aA])) ?_;rw[<-anF E,<-w];have e:(alx f ss n).take n=alx f ss n:=oB (by rw[aQ8];omega);simp only[e];exact iy A
end
def TTs.fz{pl:Nat×Nat×Nat}{vr:Bool}{Y:ae}{a:AV}{f:Nat->AV×AV}{ss:List pt}(T:TTs pl vr Y a f ss (L ss)):fz Y a=sl pt.c ss:=by rcases T.bx with⟨o,rfl⟩|⟨b,rfl,_,q⟩;have:=List.length_eq_zero_iff.1 o;subst this;rfl;have i:(alx f ss (L ss)).map (·.map (rS Y))=ss.map pt.c:=(by refine aqI λk=>?_;rcases jj k (L ss) with d|d;rw[ve,aTy d,ve,eC d];have j:=aWh (T.g1 k d);have m:=(T.g2 k d).fr;simp only[df,ji,mU,j,m,bT d];rfl;rw[qi (by simpa[aQ8] using d),qi (by simpa using d)]);have e:(alx f ss (L ss)).take (L ss)=alx f ss (L ss):=oB (by rw[aQ8];omega);have p:((alx f ss (L ss)).all λr=>r.all λc=>eN (rS Y c))=U:=(by rw[dV];intro r u;rw[dV];intro c t;have g:=CA (f:=(·.map (rS Y))) u;rw[i] at g;obtain⟨s,_,v⟩:=dN.1 g;have:=CA (f:=rS Y) t;rw[<-v] at this;simp only[pt.c,eW,ql,C8] at this;rcases this with h|h|h|h<;>rw[h]<;>simp[eN,sl]);simp only[Ab.fz,dQ,q,e,p,vg,i];rw[cj (by decide)];rfl
def Kx.fx{ks:List Nat}{Y Y' c:ae}{d:List Id}(k:Kx ks Y Y')(F:Fx Y' c d)(h:∀q∈d,q.1∈ks\/∀x,box Y q≠V x):Kx ks Y c:=⟨F.len.trans k.len,λb x e i=>F.keep _ _ (λj=>(h b j).elim e λg=>g x i) (k.keep _ _ e i)⟩
def Kx.kx{ks ks':List Nat}{Y Y' c:ae}(k:Kx ks Y Y')(e:Kx ks' Y' c)(h:∀n∈ks',n∈ks):Kx ks Y c:=⟨e.len.trans k.len,λb x d i=>e.keep _ _ (λg=>d (h _ g)) (k.keep _ _ d i)⟩
def Kx.no{ks:List Nat}{Y Y':ae}{b:Id}(k:Kx ks Y Y')(c:b.1∉ks)(h:∀x,box Y' b≠V x):∀x,box Y b≠V x:=λx d=>h x (k.keep _ _ c d)
def a79(Y:ae)(s:pm)(r:AV)(Y1:ae):Prop:=∃d e g c b a f,r= .a [d,iv s.bm.tx,e,g,c,b,a]/\(∀k∈cD (.a [d,iv s.bm.tx,e,g]),k=10\/k=14\/k=41)/\gm Y1 2 1 c (s.cells.map ci)/\gm Y1 2 1 b (s.bU.map ci)/\TTs (12,31,33) I Y1 a f s.ay (L s.ay)/\Kx [10,12,14,31,41] Y Y1/\(∀q∈aA c,q.1=11/\∀x,box Y q≠V x)/\(∀q∈aA b,q.1=15/\∀x,box Y q≠V x)/\∀q∈aA a,∀x,box Y q≠V x
def bds{s:pm}{Y:ae}(hl:L Y=4096)(h1:L s.bm.ak<100000/\L s.bm.done<100000/\L s.bm.ay<100000/\∀l∈s.bm.ak,L l.bk<1000000)(h2:L s.cells<=1000)(W:L s.bU<=1000)(h4:L s.ay<=1000)(h5:∀t∈s.ay,L t.li<=1000/\L t.lj<=1000/\∀x∈t.lj,L x<=1000):∃r Y1,a79 Y s r Y1/\cZ aS GG 169 [.a s.c] Y r Y1:=by refine bhg hl rfl λs2 v1 K2 co nf b1=>?_;have F2:Fx Y s2 []:=K2.fx [];have aw:=F2.len.trans hl;simp only[aSz];refine so aw λv2 s3 F3 N3 b3=>?_;have c1:=F3.kq b1;have ax:=F3.len.trans aw;have k1:∀{x:List AV} {y:AV},aN J (y::x)=V y:=λ{x y}=>(by cases y<;>rfl);have k7:=@r7A;simp only[a3j,u0,u1,c1,gw,aj,↓uL];refine baS ax h1 λM N O s8 X8 av=>?_;have az:=X8.len.trans ax;have aq:=X8.kq c1;have bi:=X8.kq b3;simp only[nS,bQ,a3i,u0,u1,aq,gw,aj,↓uL];refine apV (aa:=[]) (e:=2) (z:=1) (new:=s.cells.map ci) (.inl ⟨rfl,rfl⟩) rfl rfl (by decide) (by rw[az];decide) (by simp) fF (by simp;omega) λD s9 g4 F9 P9=>?_;simp only[dW] at g4;have C:Fx s8 s9 []:=F9.mono (by simp[aA]);have K:∀q∈aA D,bK s8 q/\q.1=11:=λq d=>(P9 q d).elim (λh=>by simp[aA] at h) id;have aB:=C.len.trans az;have ar:=C.kq aq;have bj:=C.kq bi;simp only[a3h,u0,u1,ar,gw,aj,↓uL];refine apV (aa:=[]) (e:=2) (z:=1) (new:=s.bU.map ci) (.inl ⟨rfl,rfl⟩) rfl rfl (by decide) (by rw[aB];decide) (by simp) fF (by simp;omega) λE aD g5 a6 ba=>?_;simp only[dW] at g5;have o:Fx s9 aD []:=a6.mono (by simp[aA]);have A:∀q∈aA E,bK s9 q/\q.1=15:=λq d=>(ba q d).elim (λh=>by simp[aA] at h) id;have X:=o.len.trans aB;have aP:=o.kq ar;have aM:=o.kq bj;have bn:=g4.fx o (by simp);have bu:bM NY anY [(0, .a [M,iv s.bm.tx,N,O]),(1,D),(2,E)]=V (.a [M,iv s.bm.tx,N,O,D,E, .l [] U U]):=(by rcases g4 with⟨_,rfl⟩|⟨q4,m4,rfl,_⟩<;>rcases g5 with⟨_,rfl⟩|⟨q5,m5,rfl,_⟩<;>rfl);simp only[a3g,bu,aY];refine so X λv3 ch aE ao aK=>?_;refine qr aK rfl rfl λbH aF be=>?_;have w:Fx aD bH []:=(aE.trans aF).mono λq d=>(by simp at d;subst d;exact .inr ao.no);have aQ:=w.kq aP;have aO:=w.kq aM;have aR:=bn.fx w (by simp);have aT:=g5.fx w (by simp);have aX:=w.len.trans X;have X3:Kx [10,12,14,31,41] Y s3:=((F2.trans F3).kx (by simp));have S:=X3.kx X8 (by simp);have ap:=(S.fx C (by simp)).fx o (by simp);have bc:=ap.fx w (by simp);have F:∀{q:Id},q∈aA D->q.1=11/\∀x,box Y q≠V x:=λ{q} d=>⟨(K q d).2,S.no (by simp[(K q d).2]) (K q d).1.no⟩;have G:∀{q:Id},q∈aA E->q.1=15/\∀x,box Y q≠V x:=λ{q} d=>⟨(A q d).2,(S.fx C (by simp)).no (by simp[(A q d).2]) (A q d).1.no⟩;have bG:∀x,box Y (3,v3)≠V x:=ap.no (by simp) ao.no;have bF:∀x,box Y (2,v2)≠V x:=(F2.kx (ks:=[]) (by simp)).no (by simp) N3.no;simp only[a3f];refine dT ?_ ?_;have h4:3∉cD D:=λh=>(by rcases O1.keys (P:=λp=>p=11) (.of g4) (λq d=>(K q d).2) with e|⟨p,e,e'⟩<;>rw[e] at h<;>simp at h;omega);have h5:3∉cD E:=λh=>(by rcases O1.keys (P:=λp=>p=15) (.of g5) (λq d=>(A q d).2) with e|⟨p,e,e'⟩<;>rw[e] at h<;>simp at h;omega);have h0:3∉cD (.a [M,iv s.bm.tx,N,O]):=λh=>(by have:=av _ h;omega);generalize AV.a [M,iv s.bm.tx,N,O]=b0 at h0⊢;simp[eL,lb,Cz,aTn,a6H,bc7];exact⟨λx H e=>h0 (e▸H),λx H e=>h4 (e▸H),λx H e=>h5 (e▸H)⟩;refine yV (L s.ay) (λk _ x=>∃a f,L x=4096/\box x (1,v1)=V ⟨87,7,U,U,[s.c]⟩/\box x (2,v2)=V ⟨87,7,U,U,[NY]⟩/\box x (3,v3)=V ⟨87,7,U,U,[[M,iv s.bm.tx,N,O,D,E,a]]⟩/\gm x 2 1 D (s.cells.map ci)/\gm x 2 1 E (s.bU.map ci)/\TTs (12,31,33) I x a f s.ay k/\Kx [10,12,14,31,41] Y x/\∀q∈aA a,∀y,box Y q≠V y) ⟨.l [] U U,λ_=>(.u, .u),aX,aQ,aO,be,aR,aT,⟨.inl ⟨rfl,rfl⟩,by simp,by simp,by simp,by simp,by simp,by simp⟩,bc,by simp[aA]⟩ ?_;rintro k _ x hk ⟨a,f,aC,m1,m2,m3,ga,gb,T,iq,na⟩;simp only[a3k,au,aI,u0,u1,m1,m3,rk,gw,k1,k7,aj,y9,bh,↓uL];refine⟨λh=>?_,λh=>?_⟩;have Z:=aL h;refine⟨dJ Z,?_⟩;obtain⟨q1,q2,q3⟩:=h5 _ (dB Z);show cV 200 [.a [iv (gd s.ay k).pc,sl ci (gd s.ay k).li,sl cl (gd s.ay k).lj,iv (gd s.ay k).ac]] _ _ _;refine baT aC rfl rfl q1 q2 q3 (aPi f k) (λp hp=>?_) (λp hp=>?_) λx1 x2 y G1 an Y af P1 P2=>?_;obtain⟨j,m,h|h⟩:=aXS hp;exact⟨_,_,_,_,T.g1 j m,h⟩;exact⟨_,_,_,_,T.g2 j m,h⟩;obtain⟨j,m,h|h⟩:=aXS hp;exact .inl (T.p1 j m p h);exact .inr (T.p2 j m p h);have Ty:TTs (12,31,33) I y a f s.ay k:=⟨T.bx.elim .inl λ⟨b,h1,h2,W⟩=> .inr ⟨b,h1,h2,Y.keep _ _ (by simp[h2]) W⟩,λj m=>af (T.g1 j m) (aWy m),λj m=>af (T.g2 j m) (aWz m),T.p1,T.p2,T.d1,T.d2⟩;have ab:=Y.len.trans aC;have o1:=Y.kq m1;have o2:=Y.kq m2;have o3:=Y.kq m3;have bp:=Y.gr ga λq d=>(by simp[(F d).1]);have br:=Y.gr gb λq d=>(by simp[(G d).1]);have Xy:=iq.kx Y (by simp);simp only[a3e];refine a7Q Ty rfl rfl (by rw[ab];decide) rfl (by rw[ab];decide) (by decide) (by omega) rfl rfl G1 an P1 P2 λz a' bI hz R g a8=>?_;obtain⟨vz,rfl⟩:=hz;have ad:∀q∈aA a,q.1=33:=T.ids;have o4:=g.keep _ _ (λd=>by have:=ad _ d;simp at this) o3;simp only[a3d,u0,u1,o4,aj,↓uL];refine A0 o4 R.ce (by simp) λcp v bg=>?_;simp only[a3c,↓uL];refine dT ?_ ?_;have H:∀j∈cD (.a [iv (gd s.ay k).pc,x1,x2,iv (gd s.ay k).ac]),j=12\/j=31:=λj m=>(by have e:cD (.a [iv (gd s.ay k).pc,x1,x2,iv (gd s.ay k).ac])=dK x1++dK x2:=(by simp[cD,dC,dK]);rw[e] at m;rcases dF.1 m with h|h;obtain⟨q,d,rfl⟩:=aQu G1 h;exact .inl (P1 q d).2;obtain⟨q,d,rfl⟩:=aQu an h;exact .inr (P2 q d).2);have W:3∉cD (.a [iv (gd s.ay k).pc,x1,x2,iv (gd s.ay k).ac]):=λh=>(by have:=H _ h;omega);generalize AV.a [iv (gd s.ay k).pc,x1,x2,iv (gd s.ay k).ac]=b0 at W⊢;simp[eL,lb,Cz,aTn,W];simp only[au,u0,u1];have B:∀{b:Id},b.1≠33->b∉aA a:=λhb d=>hb (ad _ d);refine dR (mk:=λ(_:Unit) i=>[iv i]) (s:=()) (s':=()) (λ_ _=>rfl) Z (by omega) ⟨a',_,(v.len.trans g.len).trans ab,v.kq (g.keep _ _ (B (by simp)) o1),v.kq (g.keep _ _ (B (by simp)) o2),bg,(bp.fx g λq d=>B (by simp[(F d).1])).fx v λq d e=>?_,(br.fx g λq d=>B (by simp[(G d).1])).fx v λq d e=>?_,R.fx v (by simp),(Xy.fx g λq d=> .inr (na q d)).fx v λq d=> .inr (by simp at d;subst d;exact bG),λq d=>Xy.no (by rw[R.ids q d];decide) (a8 q d)⟩;simp at e;subst e;have:=(F d).1;simp at this;simp at e;subst e;have:=(G d).1;simp at this;have bv:k=L s.ay:=bP hk (bw h);subst bv;refine qr m2 rfl rfl λbI g bf=>?_;simp only[bf,qd,qh,df,k7,aY];refine⟨M,N,O,D,E,a,f,rfl,av,ga.fx g λq d e=>?_,gb.fx g λq d e=>?_,T.fx g (by simp),iq.fx g λq d=> .inr (by simp at d;subst d;exact bF),λq d=>F d,λq d=>G d,na⟩;simp at e;subst e;have:=(F d).1;simp at this;simp at e;subst e;have:=(G d).1;simp at this
def a7F:dO:=aYd
def aX6:eJ a7F:=a7n
def aWl:=@bcx
section
attribute[local irreducible] aX
def a9M:=bi 14 [(6,([5],[2,3]))]
def a39 e g f R(H:aG)(i:bu) j a:=ab 0 a e λk=>aU k (iv 0) λb=>bn b 0 a e λl=>bn b 6 a g λm=>ic b (gt f 0) λn=>aC b (ao 2 a m n) λo=>bn b 1 a o λp=>aC b (aJ a p) λq=>aC b (aO .geq l q) λr=>aD b (bv U) r λc=>bn c 1 a e λs=>aC c (aJ a s) λt=>bn c 6 a g λu=>ic c (gt f 0) λv=>aC c (ao 2 a u v) λw=>bn c 0 a w λx=>aC c (aO .neq t x) λy=>aD c (bv U) y λd=>bn d 2 a e λz=>aC d (aJ a z) λA=>bn d 6 a g λB=>ic d (gt f 0) λC=>aC d (ao 2 a B C) λD=>bn d 0 a D λE=>aC d (aO .neq A E) λF=>aD d (bv U) F λG=>ah G (aE R a [(bv I)]) (aV (gt f 0) (iv 1) λh=>H [h] a/\i [h] a<i f j)
def a4a d n R l m b a:=∀_:Rg,ab 6 a d λf=>aJ a f λg=>aU (gt b 0) g λh=>ah h (ab 6 a n λi=>ao 4 a i (gt b 0) λj=>aw 4 a j λk=>eV (bs 196 aoD a 6) λc e=>sV (aK 4 e c k) (a39 c d b R l m a)) (aE R a [(bv U)])
def a38 d f a R:=aw 7 a d λF=>fV aRk a [F] λG=>cf G λg=>aC g (aB 0 a d) λh=>aC g (aw 6 a h) λi=>aC g (aB 0 a f) λj=>aC g (aw 4 a j) λk=>aC g (fV BZ a [i,k]) λl=>aC g (cf l) λm=>aD g (bv U) m λb=>bn b 4 a f λn=>aC b (aJ a n) λo=>aC b (aB 0 a d) λp=>bn b 0 a p λq=>aC b (aJ a q) λr=>aC b (aO .neq o r) λs=>aD b (bv U) s λc=>bn c 5 a f λt=>aC c (aJ a t) λu=>aC c (aB 0 a d) λv=>bn c 3 a v λw=>aC c (aJ a w) λx=>aC c (aO .neq u x) λy=>aD c (bv U) y λe=>bn e 6 a f λz=>aC e (aJ a z) λA=>bn e 6 a d λB=>aC e (aJ a B) λC=>aC e (aO .neq A C) λD=>aD e (bv U) D λE=>ah E (aE R a [(bv I)]) (lV [(iv 0)] a (a4a d f R))
def bhl{b:List AV}{c:List AV}{R:d7}(l0:L b=7)(l1:L c=7)(h:H2 92 7 2 b 87 7 3 c λd e f=>a38 d e f R):Ct 197 [.a b, .a c] R:=z2 a9M aX6 Tryz.func197 l0 l1 h
def a9L:=bi 24 [(7,([4],[1,2,3])),(13,([5],[1,2,3])),(19,([6],[1,2,3]))]
def a3E b i g k l m a n o p j q s r(f:aG)(c:bu) h d:=dH [(bo b),(bo i),(bo g),(bo k),(bo l),km,(lb U [m,(gt a 0)] []),(bo n),(bo o),(lb I [p] []),(lb I [j,q] [33]),(bo b),(lb I [s,r] [])] [(0,9),(1,9)] (aV (gt a 0) (iv 1) λe=>f [e] d/\c [e] d<c a h)
def a3G a j g l m n e o p q k r f h i c b:=aB 4 b a λd=>sV (aK 1 b d c) (a3E a j g l m n e o p q k r d c f h i)
def a3H a(e:aG)(b:bu) f c:=aV (gt a 0) (iv 1) λd=>e [d] c/\b [d] c<b a f
def a3I b c d e f g a:=aB 5 a b λh=>sV (aK 1 a h g) (a3H c d e f)
def a3J b k c m n a o p f r s t u g q v w l x z y(i:aG)(d:bu) j e:=dH [(bo b),(bo k),(bo c),(bo m),km,(lb U [n,(gt a 0)] []),(bo o),(bo p),(lb I [f,f] [63]),(bo c),(bo r),km,(lb U [s,(gt a 0)] []),(bo t),(bo u),(lb I [g,g] [70]),(lb U [q,v] []),(lb I [w] [72]),(lb I [l,x] [73]),(bo b),(lb I [z,y] [])] [(0,8),(1,8),(8,9),(8,10),(8,11),(8,12),(8,13),(8,14),(0,15),(1,15),(2,15),(3,15),(4,15),(5,15),(6,15),(7,15),(8,15),(0,17),(1,17)] (aV (gt a 0) (iv 1) λh=>i [h] e/\d [h] e<d a j)
def a3K a j g l m e n o p r s t u v q w x k y f h i c b:=aB 6 b a λd=>sV (aK 1 b d c) (a3J a j g l m e n o p r s t u v q w x k y d c f h i)
def a3L b a f n i o p g q r s t u v w x h j k c l:=rV (bM aoD alz [(1,b),(2,c)]) λd=>eV (lvS 196 a70 1 l 72 [(0,d)]) λe m=>eV (avA 196 aoD 64 m 73 a e) (a3K f n i o p g q r s t u v w x b c d a e h j k)
def a3M d c n i m o p q r s j k l t a:=aB 6 a d λe=>aM a e λf=>ao 2 a f (gt c 0) λg=>aB 0 a g λh=>aM a h λb=>eV (qO 38 aYp 24 a 70 b b) (a3L t n i m d o p c q r s e f g h b j k l)
def a3P d b t3 R l m c a:=∀_:Rg,ab 6 a d λn=>aJ a n λo=>aU (gt c 0) o λp=>ah p (aB 6 a b λg=>aM a g λq=>aB 6 a d λh=>aM a h λi=>ao 2 a i (gt c 0) λj=>aB 0 a j λk=>aM a k λe=>eV (qO 2 yW 8 a 63 e e) (a3M d c q b g h i j k e l m a)) (aw 7 a b λr=>sV (aK 7 a t3 r) λf=>aw 7 f t3 λs=>aE R f [s])
def a3O d b t3 R e f c a:=∀_:Rg,aB 0 a d λh=>ab 3 a h λi=>aJ a i λj=>aU (gt c 0) j λk=>ah k (ab 5 a b λl=>eV (aX yW 1 a [(0,(iv 0))]) λm g=>eV (j5 2 EN 8 g 46 l m) (a3I b c e f a)) (lV [(iv 0)] a (a3P d b t3 R))
def a3Q d b t3 R n o c a:=∀_:Rg,aB 0 a d λq=>ab 0 a q λr=>aJ a r λs=>aU (gt c 0) s λt=>ah t (aB 4 a b λe=>aM a e λf=>aB 0 a d λg=>aB 0 a g λh=>aM a h λi=>ao 5 a i (gt c 0) λj=>aB 4 a j λk=>aM a k λl=>eV (aX yW 1 a [(0,l)]) λm p=>eV (j5 2 EN 8 p 33 f m) (a3G b e d g h i c j k l f m n o a)) (lV [(iv 0)] a (a3O d b t3 R))
def a3N b t3 R f c:=rV (bM NY anY [(0,f)]) λg=>eV (bs 87 NY c 3) λa d=>sV (aK 7 d a g) λe=>lV [(iv 0)] e (a3Q b a t3 R)
def a3F b R t3 a:=aw 7 a b λg=>fV aRk a [g] λh=>cf h λi=>ah i (rV (bM NY anY []) λj=>sV (aK 7 a t3 j) λc=>aw 7 c t3 λd=>aE R c [d]) (aB 0 a b λe=>aw 6 a e λf=>cN 69 [f] a 13 (a3N b t3 R))
def a3D a b R:=eV (bs 87 NY b 2) (a3F a R)
def bhj{b:List AV}{R:d7}(l0:L b=7)(h:H1 92 7 1 b λc d=>a3D c d R):Ct 72 [.a b] R:=z1 a9L aX6 Tryz.func72 l0 h
end
def aYu(c:A2)(s:pt):Prop:=aF (L c.No) s.pc/\(L s.li:Int)=c.li/\(L s.lj:Int)=c.li
def aSm(c:qt)(s:pm):Prop:=aPU c/\lh c.aQ s.bm=U/\L s.cells=L c.aQ.cells/\L s.bU=L c.aQ.bU/\L s.ay=L c.ay/\∀k,k<L c.ay->aYu (gd c.ay k) (gd s.ay k)
def aP4{w:br}(h:mQ w=U):L w.cells<=12/\L w.ak<=4/\L w.bC<=2/\L w.bU<=2/\L w.ay<=4/\L w.dU<=60:=by simp only[mQ,bN,eH] at h;have a:=h.1;simp only[wJ,cP,o8] at a;omega
def aXu(c:qt)(s:pm)(E:aOc c/\L c.aQ.bC<4611686018427387904):Ct 197 [.a c.c, .a s.c] (λr=>∃b,r=bv b/\(b=U->aSm c s)):=by obtain⟨m,n⟩:=E;refine bhl rfl rfl λK D f g O=>?_;simp+contextual only[a38,u0,u1,f,g,gw,aj,ar,Fa,aWl,rr,aTv,aPA,eE,Ca,vb,m,n,↓uL];intro b B h;simp only[cP,fK,o8,aNS,Int.ofNat_inj,aNQ] at h;obtain⟨⟨⟨⟨g1,w⟩,y⟩,z⟩,A⟩:=h;have o:=B g1;have M:L c.ay<1000:=m.1;refine yV (L c.ay) (λk _ x=>Fx K x []/\∀j,j<k->aYu (gd c.ay j) (gd s.ay j)) ⟨Fx.refl _ _,by simp⟩ ?_;rintro k _ x P ⟨F,hI⟩;have l:=F.kq f;have t:=F.kq g;have p:=F.len.trans D;simp only[a4a,aI,au,u0,u1,l,t,rk,gw,aj,y9,bh,aPA,↓uL];refine⟨λh=>?_,λh _=>⟨o,w,y,z,A,λj C=>hI j (Nat.lt_of_lt_of_le C (bw h))⟩⟩;have d:=aL h;refine⟨dJ (by omega),anu p λv x2 e N q=>?_⟩;have u:=e.kq l;simp+contextual only[a39,au,u0,u1,u,q,rk,gw,y9,aj,bh,dJ d,aPA,eE,Ca,vb,mn,↓uL];intro h;simp only[cP,o8,aNS,aNQ] at h;obtain⟨⟨⟨R,S⟩,G⟩,H⟩:=h;exact dR (mk:=λ(_:Unit) i=>[iv i]) (s:=()) (s':=()) (λ_ _=>rfl) d (by omega) ⟨F.trans e,jf hI ⟨⟨by omega,by omega⟩,G,H⟩⟩
def aUl:FT:=pn aXu
def bcc{c s Lw K}:=rQ aUl aXu c s Lw K (j:=by simp+contextual only[ij,Nb])
def ThB(k:Nat)(s:pt):Prop:=L s.li<=1000/\L s.lj<=1000/\(∀t∈s.lj,Tn t)/\0<=s.ac/\s.ac<=k
def a68{α:Type}{n:Nat}{x y:α}(h:y∈er n x):y=x:=(List.mem_replicate.1 h).2
structure StB(k:Nat)(s:pm):Prop where
 sy:jX k s.bm
 ce:L s.cells<=12
 fu:L s.bU<=2
 tl:L s.ay<=4
 th:∀t∈s.ay,ThB k t
structure SJ(x:ae)(v2:Nat)(c:qt)(a1 a2 a3:AV):Prop where
 hl:L x=4096
 b1:box x (1,1)=V ⟨92,7,U,U,[c.c]⟩
 b2:box x (2,v2)=V ⟨87,7,U,U,[NY]⟩
 g1:gm x 131 2 a1 ((er (L c.aQ.ak) (⟨-1,[]⟩:cg)).map cg.c)
 g2:gm x 4 1 a2 ((er (L c.aQ.bU) I).map cb)
 g3:gm x 105 3 a3 ((qZ (L c.aQ.ay)).map bF.c)
 ids:∀q∈aA a1++(aA a2++aA a3),q.1=13
def SJ.fx{x y:ae}{i:Nat}{c:qt}{e f g:AV}{d:List Id}(S:SJ x i c e f g)(F:Fx x y d)(a:∀q∈d,q.1≠1/\q.1≠2/\q.1≠13):SJ y i c e f g:=⟨F.len.trans S.hl,F.keep _ _ (λh=>(a _ h).1 rfl) S.b1,F.keep _ _ (λh=>(a _ h).2.1 rfl) S.b2,S.g1.fx F λq b h=>(a q h).2.2 (S.ids q (by simp[b])),S.g2.fx F λq b h=>(a q h).2.2 (S.ids q (by simp[b])),S.g3.fx F λq b h=>(a q h).2.2 (S.ids q (by simp[b])),S.ids⟩
def aPn(c:A2):pt:=⟨0,er c.li.toNat 0,er c.li.toNat [],0⟩
def aTA(w:br):aW:=⟨er (L w.ak) ⟨-1,[]⟩,-1,er (L w.bU) I,qZ (L w.ay)⟩
def aPK(c:qt):pm:=⟨aTA c.aQ,c.aQ.cells.map (·.init),er (L c.aQ.bU) 0,c.ay.map aPn⟩
def bfv{c:qt}(d:aPU c):StB 0 (aPK c):=by obtain⟨g,i,b⟩:=d;have h:=aP4 g;refine⟨⟨by simp[aPK,aTA];omega,by simp[aPK,aTA];omega,by simp[aPK,aTA,qZ];omega,λl f=>by rw[a68 f];simp⟩,by simp[aPK];omega,by simp[aPK];omega,by simp[aPK];omega,λt a=>?_⟩;simp only[aPK,dN] at a;obtain⟨k,e,rfl⟩:=a;obtain⟨j,m,_⟩:=b k e;refine⟨by simp[aPn];omega,by simp[aPn];omega,λt a=>?_,by simp[aPn],by simp[aPn]⟩;rw[a68 a];exact Tn.nil
def aXs(c:qt)(hp:aPU c/\aOc c):Ct 72 [.a c.c] (λr=>∃s:pm,r= .a s.c/\StB 0 s):=by obtain⟨hc,hb⟩:=hp;have bK:=aP4 hc.1;have bI:=hb.1;generalize hQ:(λ(r:AV)=>∃s:pm,r= .a s.c/\StB 0 s)=Qq;refine aDq (bhj rfl λs2 F b1 h0=>?_);simp only[a3D];refine so F λv2 s3 F3 N3 b3=>?_;have c1:=F3.kq b1;have av:=F3.len.trans F;have k1:∀{x:List AV} {y:AV},aN J (y::x)=V y:=λ{x y}=>(by cases y<;>rfl);have k7:=@r7A;have hz:bM NY anY []=V (.a NY):=rfl;simp only[a3F,u0,u1,c1,gw,aj,ar,Fa,aWl,rr,aTv,↓uL];refine⟨hb,λb bH=>⟨λh=>?_,λh=>?_⟩⟩;simp only[hz,aY];refine qr b3 rfl rfl λs4 F4 b4=>?_;simp only[b4,qd,qh,df,k7,aY];refine aOv (v':= .a (pm.c ⟨⟨[],0,[],[]⟩,[],[],[]⟩)) rfl rfl ?_;rw[<-hQ];exact⟨_,rfl,⟨by simp,by simp,by simp,by simp⟩,by simp,by simp,by simp,by simp⟩;refine a57 (by rw[av];decide) (by omega) (by omega) (by omega) λB C D s4 g1 g2 g3 F4 P4=>?_;have S4:SJ s4 v2 c B C D:=⟨F4.len.trans av,F4.kq c1,F4.kq b3,g1.p,g2.p,g3.p,λq d=>(P4 q d).2⟩;have bc:bM NY anY [(0, .a [B,iv (-1),C,D])]=V (.a [B,iv (-1),C,D, .l [] U U, .l [] U U, .l [] U U]):=rfl;simp only[a3N,bc,aY];refine anu S4.hl λv3 s5 F5 N5 b5=>?_;have S5:=S4.fx F5 (by simp);have bd:∀{x:ae} {y:Int},aX yW 1 x [(0,iv y)]=V (.l ([y].map ci) U U,x):=λ{x y}=>iz;refine yV (L c.aQ.cells) (λk _ x=>∃a,SJ x v2 c B C D/\box x (3,v3)=V ⟨87,7,U,U,[[B,iv (-1),C,D,a, .l [] U U, .l [] U U]]⟩/\gm x 2 1 a (((c.aQ.cells.take k).map (·.init)).map ci)/\∀q∈aA a,q.1=33) ⟨_,S5,b5, .inl ⟨by simp,rfl⟩,by simp[aA]⟩ ?_;rintro k _ x hk ⟨a,S,A,E,O⟩;have m1:=S.b1;simp only[a3Q,au,aI,u0,u1,m1,A,rk,gw,k1,ix,aj,bh,bd,↓uL];refine⟨λh=>?_,λh=>?_⟩;have g:=aL h;refine⟨dJ g,?_⟩;refine apQ E S.hl fF fF (by simp) (by simp;omega) λa' s6 g6 v Z=>?_;have M:=S.fx v (λq d=>by have:=O q d;omega);have K:=v.keep _ _ (λd=>by have:=O _ d;simp at this) A;simp only[a3G,u0,u1,K,aj,↓uL];refine A0 K g6.p.ce (by simp) λs7 w b7=>?_;simp only[a3E,↓uL];refine dT (by simp[eL,lb,cD,dC,dK]) ?_;simp only[au,u0,u1];refine dR (mk:=λ(_:Unit) i=>[iv i]) (s:=()) (s':=()) (λ_ _=>rfl) g (by omega) ⟨a',M.fx w (by simp),b7,?_,λq d=>(Z q d).2⟩;rw[iJ g,<-bT g,dg,dg];exact g6.p.fx w λq d e=>(by simp at e;subst e;have:=(Z _ d).2;simp at this);have H:k=L c.aQ.cells:=bP hk (bw h);subst H;rw[gV] at E;clear m1;refine yV (L c.aQ.bU) (λk _ x=>∃W,SJ x v2 c B C D/\box x (3,v3)=V ⟨87,7,U,U,[[B,iv (-1),C,D,a,W, .l [] U U]]⟩/\gm x 2 1 a ((c.aQ.cells.map (·.init)).map ci)/\gm x 2 1 W ((er k (0:Int)).map ci)/\∀q∈aA W,q.1=46) ⟨_,S,A,E, .inl ⟨by simp,rfl⟩,by simp[aA]⟩ ?_;rintro k _ x hk ⟨W,S,A,E,gb,X⟩;have m1:=S.b1;have bb:∀{x:ae},aX yW 1 x [(0,iv 0)]=V (.l ([(0:Int)].map ci) U U,x):=λ{x}=>iz;simp only[a3O,au,aI,u0,u1,m1,A,gw,k1,aj,bb,↓uL];refine⟨λh=>?_,λh=>?_⟩;have g:=aL h;refine apQ gb S.hl fF fF (by simp) (by simp;omega) λa' s6 g6 v Z=>?_;have M:=S.fx v (λq d=>by have:=X q d;omega);have K:=v.keep _ _ (λd=>by have:=X _ d;simp at this) A;simp only[a3I,u0,u1,K,aj,↓uL];refine A0 K g6.p.ce (by simp) λs7 w b7=>?_;simp only[a3H,au,u0,u1,↓uL];refine dR (mk:=λ(_:Unit) i=>[iv i]) (s:=()) (s':=()) (λ_ _=>rfl) g (by omega) ⟨a',M.fx w (by simp),b7,(E.fx v λq d bg=>by have:=O q d;have:=X q bg;omega).fx w λq d e=>by simp at e;subst e;have:=O _ d;simp at this,?_,λq d=>(Z q d).2⟩;rw[List.replicate_succ',dg];exact g6.p.fx w λq d e=>(by simp at e;subst e;have:=(Z _ d).2;simp at this);have H:k=L c.aQ.bU:=bP hk (bw h);subst H;clear m1;refine yV (L c.ay) (λk _ x=>∃t f,SJ x v2 c B C D/\box x (3,v3)=V ⟨87,7,U,U,[[B,iv (-1),C,D,a,W,t]]⟩/\gm x 2 1 a ((c.aQ.cells.map (·.init)).map ci)/\gm x 2 1 W ((er (L c.aQ.bU) (0:Int)).map ci)/\TTs (63,70,73) U x t f (c.ay.map aPn) k) ⟨.l [] U U,λ_=>(.u, .u),S,A,E,gb,⟨.inl ⟨rfl,rfl⟩,by simp,by simp,by simp,by simp,by simp,by simp⟩⟩ ?_;rintro k _ x hk ⟨t,f,S,A,E,gb,T⟩;have m1:=S.b1;simp only[a3P,au,aI,u0,u1,m1,A,rk,gw,k1,k7,aj,y9,bh,↓uL];refine⟨λh=>?_,λh=>?_⟩;have g:=aL h;refine⟨dJ g,?_⟩;obtain⟨q1,q2,_⟩:=hc.2.2 _ (dB g);obtain⟨n,hn⟩:∃n:Nat,(gd c.ay k).li=n:=⟨(gd c.ay k).li.toNat,by omega⟩;rw[hn] at q2⊢;refine AP (by decide) (by decide) (by rw[S.hl];decide) (by omega) λe1 s6 ap N6 v b6=>?_;have M:=S.fx v (by simp);have bi:=M.b1;simp only[a3M,au,u0,u1,bi,rk,gw,aj,y9,bh,hn,↓uL];refine⟨dJ g,?_⟩;refine AP (by decide) (by decide) (by rw[M.hl];decide) (by omega) λe2 s7 aq N7 w b7=>?_;have S7:=M.fx w (by simp);have a5:=w.kq b6;have bj:=w.kq (v.kq A);have a8:=(E.fx v (by simp)).fx w (by simp);have a9:=(gb.fx v (by simp)).fx w (by simp);have T7:=(T.fx v (by simp)).fx w (by simp);have be:bM aoD alz [(1, .m e1 n),(2, .m e2 n)]=V (.a [iv 0, .m e1 n, .m e2 n,iv 0]):=rfl;simp only[a3L,be,aY];have G:gd (c.ay.map aPn) k=⟨0,er n 0,er n [],0⟩:=(by rw[bT (by simpa using g),List.getElem_map,<-bT g];simp[aPn,hn]);have ag:∀{q:Id},(∀y,box x q≠V y)->q∉aPi f k:=λ{q} aw d=>(by obtain⟨j,hj,h|h⟩:=aXS d;obtain⟨y,hy⟩:=aTi (T.g1 j hj) q h;exact aw y hy;obtain⟨_,b,e,hy⟩:=T.g2 j hj;rw[e] at h;simp only[aA,cE] at h;subst h;exact aw _ hy);refine a7Q T7 rfl rfl (by rw[S7.hl];decide) rfl (by rw[S7.hl];decide) (by decide) (by omega) (by rw[G]) (by rw[G]) (.inr ⟨e1,[],by rw[G];simp,by rw[G,a5];simp;exact⟨rfl, .inr rfl⟩⟩) (by rw[G];exact⟨by simp,e2,by simp,by rw[b7];simp;exact⟨rfl, .inr rfl⟩⟩) (λq d=>?_) (λq d=>?_) λz t' az aM R o bG=>?_;simp only[aA,cE] at d;subst d;exact⟨ag N6.no,ap⟩;simp only[aA,cE] at d;subst d;exact⟨ag (λy hy=>N7.no y (v.kq hy)),aq⟩;obtain⟨vz,rfl⟩:=aM;have ax:∀q∈aA t,q.1=73:=T.ids;have N:∀{b:Id},b.1≠73->b∉aA t:=λhb d=>hb (ax _ d);have aU:=S7.fx o (λq d=>by have:=ax q d;omega);have ak:=o.keep _ _ (N (by simp)) bj;simp only[a3K,u0,u1,ak,aj,↓uL];refine A0 ak R.ce (by simp) λbL P a0=>?_;simp only[a3J,↓uL];refine dT (by simp[eL,lb,au,sl,ap,aq,cD,dC,dK]) ?_;simp only[au,u0,u1];refine dR (mk:=λ(_:Unit) i=>[iv i]) (s:=()) (s':=()) (λ_ _=>rfl) g (by omega) ⟨t',_,aU.fx P (by simp),a0,(a8.fx o λq d=>N (by have:=O q d;omega)).fx P λq d e=>?_,(a9.fx o λq d=>N (by have:=X q d;omega)).fx P λq d e=>?_,R.fx P (by simp)⟩;simp at e;subst e;have:=O _ d;simp at this;simp at e;subst e;have:=X _ d;simp at this;have H:k=L c.ay:=bP hk (bw h);subst H;refine qr S.b2 rfl rfl λaz o aZ=>?_;simp only[aZ,qd,qh,df,k7,aY];have nd:∀{q:Id},q.1≠2->q∉[((2,v2):Id)]:=λh e=>(by simp at e;subst e;exact h rfl);have R:=T.fx o (by simp);have aC:TTs (63,70,73) U az t f (c.ay.map aPn) (L (c.ay.map aPn)):=(by rw[bJ];exact R);have x1:=aBr (S.g1.fx o λq d=>nd (by rw[S.ids q (by simp[d])];decide));have x2:=aBr (S.g2.fx o λq d=>nd (by rw[S.ids q (by simp[d])];decide));have x3:=aBr (S.g3.fx o λq d=>nd (by rw[S.ids q (by simp[d])];decide));have x4:=aBr (E.fx o λq d=>nd (by rw[O q d];decide));have x5:=aBr (gb.fx o λq d=>nd (by rw[X q d];decide));refine aOv (v':= .a (aPK c).c) ?_ (by simp[iX,pm.c,aW.c,eN,sl]) (by rw[<-hQ];exact⟨_,rfl,bfv hc⟩);simp only[fzT,ji,mU,x1,x2,x3,x4,x5,aC.fz,aWt];rfl
def aUj:FT:=om aXs
def bca{c Lw K}:=qz aUj aXs c Lw K (j:=by simp+contextual only[ij,Nb])
def a7G:dO:=(197,aUl)::(72,aUj)::a7F
def a7o:eJ a7G:=it (aN0 aXu) (it (rj aXs) (aX6))
def aWm:=ai @bcc<|ai @bca<|@aWl
section
attribute[local irreducible] aX
def a9K:=bi 28 [(20,([],[6,8,9,10])),(23,([98],[6,8,9,10])),(25,([],[6,10]))]
def a3m d f g h p i j a l m k e R b:=dH [(bo d),(bo f),(bo g),km,(lb U [h,p] []),(bo i),(bo j),(bo a),(lb I [l,(iv 17)] []),(bo a),(lb I [m,k] [])] [(0,8),(1,8),(2,8),(3,8),(4,8),(5,8),(6,8)] (aw 7 b a λn=>sV (aK 7 b e n) λc=>aw 7 c e λo=>aE R c [o,(bv U)])
def a3p a c e f g h l i j k m R b:=aB 2 b a λd=>sV (aK 1 b d c) (a3m e f g h l i j a k d c m R)
def aQK c f R(g:eQ) a:=∀_:Rg,aw 7 a c λd=>sV (aK 7 a f d) λb=>aw 7 b f λe=>aE R b [e,(bv U)]
def aVh c(b:aG) e a:=aB 6 a c λf=>sV (aK 1 a f e) λd=>b [] d
def a3w a b f r(e:aG):=ab 0 a b λg=>bf g (iv 8) λc=>bn c 0 a b λh=>aC c (bf h (iv 9)) λi=>aD c (bv U) i λd=>bn d 0 a b λj=>aC d (bf j (iv 26)) λk=>aD d (bv U) k λl=>ah l (ab 6 a f λm=>ab 2 a r λn=>ab 2 a b λo=>ao 1 a n o λp=>aM a p λq=>eV (j5 3 fB 8 a 132 m q) (aVh f e)) (e [] a)
def aQJ a f R b d(e:eQ) c:=∀_:Rg,jV 25 (aQK a f R) (a3w c b a d)
def a3q c(b:aG) e a:=aB 5 a c λf=>sV (aK 1 a f e) λd=>b [] d
def a3r c(b:aG) e a:=aB 5 a c λf=>sV (aK 1 a f e) λd=>b [] d
def aSA a c k e(b:aG) d:=∀_:Rg,ah (gt d 0) (ab 5 a c λf=>ab 2 a k λg=>ab 3 a e λh=>ao 1 a g h λi=>aM a i λj=>eV (j5 3 fB 8 a 109 f j) (a3r c b)) (b [] a)
def a3v b(a:cG):=bf b (iv 7) λc=>ah c (a [c]) (bf b (iv 9) λd=>a [d])
def a3u a c b f d:=ab 0 a c λe=>bf e (iv 10) λg=>ah g (ab 5 a b λh=>ab 2 a f λi=>ab 1 a c λj=>ao 1 a i j λk=>aM a k λl=>eV (j5 3 fB 8 a 96 h l) (a3q b d)) (jR 23 (aSA a b f c d) (a3v e))
def aVi a g R b d c:=ab 1 c a λh=>bf h (iv 0) λi=>ah i (rV (bM y8 aOs []) λj=>sV (aK 7 c g j) λe=>aw 7 e g λf=>aE R e [f,(bv I)]) (jV 20 (aQJ a g R b d) (a3u c b a d))
def a3s a e g R c d b:=aB 2 b a λf=>sV (aK 1 b f e) (aVi a g R c d)
def aRt f i d R b c h a:=aB 0 a f λs=>ab 3 a s λt=>ao 3 a t i λu=>ab 0 a u λg=>bf g (iv 1) λv=>ah v (rV (bM y8 aOs [(0,i),(1,(iv 1)),(2,(iv (-1))),(4,(iv (-1)))]) λw=>sV (aK 7 a d w) λj=>aw 7 j d λx=>aE R j [x,(bv U)]) (bf g (iv 4) λy=>ah y (aB 0 a f λk=>aB 3 a k λl=>aM a l λm=>ao 3 a m i λn=>aB 1 a n λo=>aM a o λz=>aB 1 a b λp=>sV (aK 1 a p (iv 17)) (a3p b z f k l m i n o p d R)) (bf g (iv 2) λA=>ah A (ab 0 a c λB=>fV aUm a [B] λC=>aw 6 a c λD=>aw 4 a h λE=>fV aUn a [D,E] λF=>aB 1 a b λG=>sV (aK 1 a G C) (a3s b F d R c h)) (rV (bM y8 aOs []) λq=>sV (aK 7 a d q) λe=>aw 7 e d λr=>aE R e [r,(bv I)])))
def a3t f i j e k l c n m o p a q h t R d:=dH [(bo f),(bo i),km,(lb U [j,e] []),(bo k),(bo l),(bo c),(bo n),(lb U [m,o] []),(bo p),(lb I [] [9]),(lb I [a,q] [])] [(0,10),(1,10),(2,10),(3,10),(4,10),(5,10),(6,10),(7,10),(8,10),(9,10)] (ab 5 d a λr=>rV (bM y8 aOs [(0,e),(4,r)]) λs=>eV (bs 64 y8 d 10) λb g=>sV (aK 7 g b s) (aRt h e t R b a c))
def a3n d n c p q R a:=aB 6 a d λe=>aM a e λf=>ao 2 a f n λg=>aB 1 a g λh=>aM a h λi=>aB 0 a c λj=>aM a j λk=>ao 6 a i k λl=>aw 6 a l λm=>eV (bs 209 Py a 9) λb o=>sV (aK 6 o b m) (a3t d e f n g h c j i k l b m p q R)
def a3o c d g R i a:=aw 7 a c λw=>aw 7 a d λx=>fV aUl a [w,x] λy=>cf y λe=>ic e g λk=>aC e (aU k (iv 0)) λl=>aD e (bv U) l λb=>ic b g λm=>bn b 6 a c λn=>aC b (aJ a n) λo=>aC b (aO .geq m o) λp=>aD b (bv U) p λq=>ah q (rV (bM y8 aOs []) λr=>sV (aK 7 a i r) λh=>aw 7 h i λs=>aE R h [s,(bv I)]) (ab 6 a d λt=>ao 4 a t g λu=>aw 4 a u λv=>eV (bs 196 aoD a 8) λf j=>sV (aK 4 j f v) (a3n c g f d i R))
def a3l a b c d R:=eV (bs 64 y8 d 6) (a3o a b c R)
def bhh{b:List AV}{c:List AV}{d:AV}{R:d7}(l0:L b=7)(l1:L c=7)(h:H2 92 7 3 b 87 7 4 c λe f g=>a3l e f d g R):Ct 168 [.a b, .a c,d] R:=z2 a9K a7o Tryz.func168 l0 l1 h
end
def aQs(c:qt)(s:pm)(t:Int):lF:=gd (gd c.ay t.toNat).No (gd s.ay t.toNat).pc.toNat
def PK(k:Int)(i:lF):Prop:=(k=3\/k=23->i.a∈A1 i)/\(k=4\/k=22->i.b∈A1 i)/\(k=5->i.a∈A1 i)
def EvL(e:aP):Prop:=L e.dI<=1000/\L e.ep<=1000
def bdY{i:lF}:PK (aPY i.op) i:=by rcases i with⟨op,a,b,k,n,st⟩;simp only[PK,aPY,cond_eq_ite];by_cases h:op<6\/28<op;rw[bX (by simpa using h)];omega;rw[cj (by simpa using h)];have c:op=6\/op=7\/op=8\/op=9\/op=10\/op=11\/op=12\/op=13\/op=14\/op=15\/op=16\/op=17\/op=18\/op=19\/op=20\/op=21\/op=22\/op=23\/op=24\/op=25\/op=26\/op=27\/op=28:=(by omega);rcases c with rfl|rfl|rfl|rfl|rfl|rfl|rfl|rfl|rfl|rfl|rfl|rfl|rfl|rfl|rfl|rfl|rfl|rfl|rfl|rfl|rfl|rfl|rfl<;>simp[gd,aXK,A1]
def aXq(c:qt)(s:pm)(t:Int)(hp:aPU c/\aOc c/\∃k,StB k s):Ct 168 [.a c.c, .a s.c,iv t] (λr=>∃(e:aP) (ok:Bool),r= .t [.a e.c,bv ok]/\EvL e/\(ok=U->aSm c s/\aF (L c.ay) t/\PK e.kind (aQs c s t))):=by
 obtain⟨hc,G,K,hs⟩:=hp
 have cR:=aP4 hc.1
 have cO:=G.1
 generalize hQ:(λ(r:AV)=>∃(e:aP) (ok:Bool),r= .t [.a e.c,bv ok]/\EvL e/\(ok=U->aSm c s/\aF (L c.ay) t/\PK e.kind (aQs c s t)))=M
 refine aDq (bhh rfl rfl λs4 hl b1 b2 h0=>?_)
 simp only[a3l]
 refine so hl λA s6 F6 N6 b6=>?_
 have c1:=F6.kq b1
 have c2:=F6.kq b2
 have a6:=F6.len.trans hl
 have k1:∀{x:List AV} {y:AV},aN J (y::x)=V y:=λ{x y}=>by cases y<;>rfl
 have k7:=@r7A
 have hz:bM y8 aOs []=V (.a y8):=rfl
 simp only[a3o,u0,u1,c1,c2,gw,aj,ar,Fa,aWm,rr,aTv,↓uL]
 refine⟨⟨G,by omega⟩,λb bl=>?_⟩
 have E:∀{x:ae},box x (6,A)=V ⟨64,7,U,U,[y8]⟩->sV (aK 7 x (.p (6,A) 0 0) (.a y8)) λy=>rV (kb (V 7) y (.p (6,A) 0 0)) λt=>aE (λr=>M (B1 r)) y [t,bv I]:=λ{x} G=>by
  refine qr G rfl rfl λs7 F7 b7=>?_
  rw[aEa b7 rfl]
  refine aOH (vs':=[.a (aP.c ⟨0,0,0,0,0,[],[]⟩),bv I]) rfl rfl ?_
  rw[<-hQ];exact⟨_,_,rfl,⟨by simp,by simp⟩,by simp⟩
 cases b with
 |false=>
  simp only[u0,↓jN,ya,↓iC,hz,↓uL]
  exact E b6
 |true=>
 obtain⟨hF⟩:Nonempty (aSm c s):=⟨bl rfl⟩
 have bW:=hF
 obtain⟨_,f1,f2,f3,f4,f5⟩:=bW
 rcases h1:Q (t<0) with _|_
 rotate_left
 ·simp only[u0,u1,↓jN,ya,↓iC,wY,hz,h1,↓uL]
  exact E b6
 rcases h2:Q (t>=(L c.ay:Int)) with _|_
 rotate_left
 ·simp only[u0,u1,c1,gw,↓jA,↓iC,wY,hz,h1,h2,↓uL]
  exact E b6
 simp only[o8] at h1 h2
 have a4:aF (L c.ay) t:=⟨by omega,by omega⟩
 obtain⟨m,rfl⟩:∃m:Nat,t=m:=⟨t.toNat,by omega⟩
 have hm:m<L c.ay:=by have:=a4.2;omega
 obtain⟨p1,p2,p3⟩:=f5 m hm
 obtain⟨r1,r2,r3⟩:=hc.2.2 _ (dB hm)
 have bT:Q ((m:Int)<0)=I:=aPy h1
 have bU:Q ((m:Int)>=(L c.ay:Int))=I:=aPy h2
 have cf:(gd s.ay m).pc.toNat<L (gd c.ay m).No:=by have:=p1.1;have:=p1.2;omega
 have X:∀j∈A1 (aQs c s m),aF (L (gd s.ay m).lj) j/\aF (L (gd s.ay m).li) j:=λj hj=>by
  have:=r3 _ cf j hj
  exact⟨⟨this.1,by omega⟩,⟨this.1,by omega⟩⟩
 have b5:=f1
 obtain⟨_,_,_,ft⟩:=iY b5
 simp only[u0,u1,c1,rk,gw,↓jA,↓iB,bT,bU,y9,bh,↓uL]
 refine⟨by rw[f4];exact dJ hm,anu a6 λv8 s8 F8 N8 b8=>?_⟩
 have bI:=F8.kq c1
 have bO:=F8.kq c2
 have bA:=F8.kq b6
 have a7:=F8.len.trans a6
 simp only[a3n,u0,u1,bI,b8,rk,gw,aj,y9,bh,↓uL]
 refine⟨dJ hm,p1,so a7 λv9 cT bx N9 bG=>?_⟩
 refine qr bG rfl rfl λs9 bz b9=>?_
 have F9:Fx s8 s9 []:=(bx.trans bz).mono λq H=>by simp at H;subst H;exact .inr N9.no
 have bQ:=F9.kq bO
 have bB:=F9.kq bA
 have bD:=F9.kq b8
 have a8:=F9.len.trans a7
 simp only[a3t,↓uL]
 refine dT (by simp[eL,lb,cD,dC,dK,sl,lF.c]) ?_
 generalize hi:gd (gd c.ay m).No (gd s.ay m).pc.toNat=i at*
 have a3:aQs c s m=i:=by simp[aQs,hi]
 rw[a3] at X
 have b4:bM y8 aOs [(0,iv m),(4,iv i.site)]=V (.a [iv m,iv 0,iv 0,iv 0,iv i.site, .l [] U U, .l [] U U]):=rfl
 simp only[u0,u1,b9,gw,aj,b4,↓uL]
 refine anu a8 λg cS Z cN ab=>?_
 have W:=Z.kq bQ
 have R:=Z.kq bB
 have az:=Z.kq bD
 have D:=Z.kq b9
 have bo:=Z.len.trans a8
 have aB:∀{x:ae} {k o u:Int} {d f:AV} {ds fs:List Int},box x (6,A)=V ⟨64,7,U,U,[y8]⟩->gm x 3 1 d (ds.map ci)->gm x 3 1 f (fs.map ci)->(∀q∈aA d++aA f,q.1≠6)->L ds<=1000->L fs<=1000->PK k i->sV (aK 7 x (.p (6,A) 0 0) (.a [iv m,iv k,iv o,iv 0,iv u,d,f])) λy=>rV (kb (V 7) y (.p (6,A) 0 0)) λt=>aE (λr=>M (B1 r)) y [t,bv U]:=λ{x k o u d f ds fs} G bS B H l1 l2 hk=>by
  refine qr G rfl rfl λs7 F7 b7=>?_
  rw[aEa b7 rfl]
  have e1:=aBr (bS.fx F7 λq h e=>H q (by simp[h]) (by simp at e;subst e;rfl))
  have e2:=aBr (B.fx F7 λq h e=>H q (by simp[h]) (by simp at e;subst e;rfl))
  refine aOH (vs':=[.a (aP.c ⟨m,k,o,0,u,ds,fs⟩),bv U]) (by simp only[ji,mU,fzT,aWt,e1,e2];rfl) (by simp[iX,aP.c,eN,sl]) ?_
  rw[<-hQ];exact⟨_,_,rfl,⟨l1,l2⟩,λ_=>⟨hF,a4,by rw[a3];exact hk⟩⟩
 have a5:∀{x:ae} {l:List (List Int)} {j:Int} {K:d7},rV (cz 1 x (sl cl l) (iv j)) K=(aF (L l) j/\K (.q (cl (gd l j.toNat)))):=aBz λ_=>rfl
 have a9:∀{x:ae} {l:List Int},kb J x (.q (cl l))=V (sl ci l):=rfl
 have a2:∀t∈(gd s.ay m).lj,Tn t:=(hs.th _ (dB (by omega))).2.2.1
 have nil:∀{x:ae},gm x 3 1 (.l [] U U) (([]:List Int).map ci):=λ{x}=> .inl ⟨rfl,rfl⟩
 have af:aF (L s.bm.ay) (m:Int):=by rw[ft,<-hc.2.1];exact dJ hm
 rcases q1:Q ((gd s.bm.ay m).cQ=1) with _|_
 rotate_left
 ·have b3:bM y8 aOs [(0,iv m),(1,iv 1),(2,iv (-1)),(4,iv (-1))]=V (.a [iv m,iv 1,iv (-1),iv 0,iv (-1), .l [] U U, .l [] U U]):=rfl
  simp only[aRt,u0,u1,W,D,rk,gw,aj,ix,bh,q1,↓iC,b3,↓uL]
  refine⟨af,?_⟩
  exact aB R nil nil (by simp[aA]) (by simp) (by simp) (by simp[PK])
 rcases q2:Q ((gd s.bm.ay m).cQ=4) with _|_
 rotate_left
 ·simp only[aRt,u0,u1,W,D,ab,rk,gw,aj,ix,bh,q1,q2,↓iC,↓iB,↓uL]
  refine⟨af,af,?_⟩
  refine A0 ab rfl (by simp) λcm N ac=>?_
  have ah:=N.kq R
  simp only[a3p,u0,u1,ac,aj,↓uL]
  refine A0 ac rfl (by simp) λw O v=>?_
  have C:=O.kq ah
  simp only[a3m,↓uL]
  refine dT (by simp[eL,lb,cD,dC,dK,sl,bF.c]) ?_
  simp only[u0,u1,v,List.set_cons_succ,RY,k7,↓uL]
  exact aB C nil nil (by simp[aA]) (by simp) (by simp) (by simp[PK])
 rcases q3:Q ((gd s.bm.ay m).cQ=2) with _|_
 ·simp only[aRt,u0,u1,W,D,ab,rk,gw,aj,ix,bh,q1,q2,q3,↓iB,hz,↓uL]
  exact⟨af,E R⟩
 simp only[aRt,u0,u1,W,az,D,ab,rk,gw,aj,ix,ar,Fa,aWm,rr,bh,q1,q2,q3,↓iC,↓iB,↓uL]
 refine⟨af,λho=>(X _ ?_).2,λo=>?_⟩
 ·rcases i with⟨op,a,b,k,n,st⟩
  simp only at ho⊢
  rcases ho with rfl|rfl<;>simp[A1]
 refine A0 ab rfl (by simp) λcm N ac=>?_
 have ah:=N.kq R
 have bf:=N.kq az
 have bg:=N.kq D
 simp only[a3s,u0,u1,ac,aj,↓uL]
 refine A0 ac rfl (by simp) λw O v=>?_
 have C:=O.kq ah
 have S:=O.kq bf
 have T:=O.kq bg
 have ak:=(O.len.trans N.len).trans bo
 simp only[List.set_cons_succ,RY] at v
 rcases q4:Q (aPY i.op=0) with _|_
 rotate_left
 ·simp only[aVi,u0,u1,v,k1,nM,ip,aj,q4,↓iC,hz,↓uL]
  exact E C
 simp only[aVi,u0,u1,v,k1,nM,ip,aj,q4,↓iB,↓uL]
 have aJ:∀{x:ae} {d f:AV} {ds fs:List Int},box x (6,A)=V ⟨64,7,U,U,[y8]⟩->box x (10,g)=V ⟨64,7,U,U,[[iv m,iv (aPY i.op),iv o,iv 0,iv i.site,d,f]]⟩->gm x 3 1 d (ds.map ci)->gm x 3 1 f (fs.map ci)->(∀q∈aA d++aA f,q.1≠6)->L ds<=1000->L fs<=1000->aQK (.p (10,g) 0 0) (.p (6,A) 0 0) (λr=>M (B1 r)) [] x:=λ{x d f ds fs} G he g1 g2 H l1 l2=>by
  simp only[aQK,aI,u0,u1,he,k7,↓uL]
  exact aB G g1 g2 H l1 l2 bdY
 have aG:∀{x:ae} {d:AV} {ds:List Int},L x=4096->box x (6,A)=V ⟨64,7,U,U,[y8]⟩->box x (8,v8)=V ⟨196,4,U,U,[(gd s.ay m).c]⟩->box x (9,v9)=V ⟨209,6,U,U,[i.c]⟩->box x (10,g)=V ⟨64,7,U,U,[[iv m,iv (aPY i.op),iv o,iv 0,iv i.site,d, .l [] U U]]⟩->gm x 3 1 d (ds.map ci)->(∀q∈aA d,q.1≠6/\q.1≠10)->L ds<=1000->aQJ (.p (10,g) 0 0) (.p (6,A) 0 0) (λr=>M (B1 r)) (.p (9,v9) 0 0) (.p (8,v8) 0 0) [] x:=λ{x d ds} cb G h8 h9 he g1 H l1=>by
  simp only[aQJ,aI,di]
  have go:∀{y:ae} {f:AV} {fs:List Int},Fx x y []->gm y 3 1 f (fs.map ci)->(∀q∈aA f,bK x q/\q.1=132)->L fs<=1000->sV (aK 1 y (.p (10,g) 0 6) f) λs=>aQK (.p (10,g) 0 0) (.p (6,A) 0 0) (λr=>M (B1 r)) [] s:=λ{y f fs} F B hf lf=>by
   refine A0 (F.kq he) B.ce (by simp) λs2 F2 b2=>?_
   refine aJ (F2.kq (F.kq G)) b2 ((g1.fx F (by simp)).fx F2 λq h e=>?_) (B.fx F2 λq h e=>?_) (λq h=>?_) l1 lf
   ·simp at e;subst e;exact(H _ h).2 rfl
   ·simp at e;subst e;have:=(hf _ h).2;simp at this
   ·rcases dF.1 h with h|h
    ·exact(H q h).1
    ·rw[(hf q h).2];decide
  have dn:(Q (i.op=8)||Q (i.op=9)||Q (i.op=26))=I->aQK (.p (10,g) 0 0) (.p (6,A) 0 0) (λr=>M (B1 r)) [] x:=λ_=>aJ G he g1 nil (λq h=>by
   rcases dF.1 h with h|h
   ·exact(H q h).1
   ·simp[aA] at h) l1 (by simp)
  have up:(Q (i.op=8)||Q (i.op=9)||Q (i.op=26))=U->rV (cz 1 x (sl cl (gd s.ay m).lj) (iv i.b)) λbr=>rV (kb J x br) λbs=>eV (j5 3 fB 8 x 132 (.l [] U U) bs) (aVh (.p (10,g) 0 0) (aQK (.p (10,g) 0 0) (.p (6,A) 0 0) (λr=>M (B1 r)))):=λho=>by
   have hr:=X i.b (by
    rcases i with⟨op,a,b,k,n,st⟩
    simp only[Bool.or_eq_true,lS] at ho⊢
    rcases ho with(rfl|rfl)|rfl<;>simp[A1])
   rw[a5]
   refine⟨hr.1,?_⟩
   simp only[a9,aY]
   have hT:=a2 _ (dB (l:=(gd s.ay m).lj) (k:=i.b.toNat) (by have:=hr.1.1;have:=hr.1.2;omega))
   refine apV (aa:=[]) (e:=3) (z:=1) (.inl ⟨rfl,rfl⟩) rfl rfl (by decide) (by rw[cb];decide) (by simp) fF (by simp;have:=hT.len;omega) λf y B F P=>?_
   have F':Fx x y []:=F.mono (by simp[aA])
   simp only[aVh,u0,u1,F'.kq he,aj,↓uL]
   exact go F' B (λq h=>(P q h).elim (λh=>by simp[aA] at h) id) hT.len
  rcases z1:Q (i.op=8) with _|_<;>rcases z2:Q (i.op=9) with _|_<;>rcases z3:Q (i.op=26) with _|_<;>simp only[z1,z2,z3,wY,Bool.or_false] at up dn<;>simp only[a3w,u0,u1,h9,he,h8,z1,z2,z3,gw,k1,aj,↓jA,↓jN,ya,↓iC,↓iB,wY,↓uL]
  all_goals first|exact dn rfl|exact up trivial|exact dn trivial
 simp only[a3u,u0,u1,T,v,S,gw,k1,aj,↓uL]
 have a1:∀{y:ae} {f:AV} {fs:List Int} {pl:Nat},Fx w y []->gm y 3 1 f (fs.map ci)->(∀q∈aA f,bK w q/\q.1=pl)->pl≠10->pl≠6->L fs<=1000->sV (aK 1 y (.p (10,g) 0 5) f) λs2=>aQJ (.p (10,g) 0 0) (.p (6,A) 0 0) (λr=>M (B1 r)) (.p (9,v9) 0 0) (.p (8,v8) 0 0) [] s2:=λ{y f fs pl} F B hf hp cc lf=>by
  refine A0 (F.kq v) B.ce (by simp) λs2 F2 b2=>?_
  have av:∀{q:Id} {z:bY},q≠(10,g)->box w q=V z->box s2 q=V z:=λh hz=>F2.keep _ _ (by simpa using h) (F.kq hz)
  exact aG ((F2.len.trans F.len).trans ak) (av (by simp) C) (av (by simp) S) (av (by simp) T) b2 (B.fx F2 λq h e=>by simp at e;subst e;exact hp (hf _ h).2.symm) (λq h=>by rw[(hf q h).2];exact⟨cc,hp⟩) lf
 have aw:∀{j:Int} {pl:Nat} {K:be},j∈A1 i->pl<4096->(∀(f:AV) (y:ae) (fs:List Int),Fx w y []->gm y 3 1 f (fs.map ci)->(∀q∈aA f,bK w q/\q.1=pl)->L fs<=1000->K f y)->rV (cz 1 w (sl cl (gd s.ay m).lj) (iv j)) λbt=>rV (kb J w bt) λbu=>eV (j5 3 fB 8 w pl (.l [] U U) bu) K:=λ{j pl K} hj cd hK=>by
  have hr:=X j hj
  rw[a5]
  refine⟨hr.1,?_⟩
  simp only[a9,aY]
  have hT:=a2 _ (dB (l:=(gd s.ay m).lj) (k:=j.toNat) (by have:=hr.1.1;have:=hr.1.2;omega))
  refine apV (aa:=[]) (e:=3) (z:=1) (.inl ⟨rfl,rfl⟩) rfl rfl (by decide) (by rw[ak];exact cd) (by simp) fF (by simp;have:=hT.len;omega) λf y B F P=>?_
  exact hK f y _ (F.mono (by simp[aA])) B (λq h=>(P q h).elim (λh=>by simp[aA] at h) id) hT.len
 refine⟨λho=>?_,λho=>?_⟩
 ·have ba:=nt ho
  refine aw (j:=i.a) (pl:=96) (by rcases i with⟨op,a,b,k,n,st⟩;simp only at ba⊢;subst ba;simp[A1]) (by decide) λf y fs F B P lf=>?_
  simp only[a3q,u0,u1,F.kq v,aj,↓uL]
  exact a1 F B P (by decide) (by decide) lf
 ·have bR:aQJ (.p (10,g) 0 0) (.p (6,A) 0 0) (λr=>M (B1 r)) (.p (9,v9) 0 0) (.p (8,v8) 0 0) [] w:=aG ak C S T v nil (by simp[aA]) (by simp)
  have aQ:i.op=7\/i.op=9->aSA w (.p (10,g) 0 0) (.p (8,v8) 0 0) (.p (9,v9) 0 0) (aQJ (.p (10,g) 0 0) (.p (6,A) 0 0) (λr=>M (B1 r)) (.p (9,v9) 0 0) (.p (8,v8) 0 0)) [bv U]:=λh=>by
   simp only[aSA,au,aI,↓uL]
   simp only[u0,u1,T,v,S,gw,k1,aj,↓iC,↓uL]
   refine aw (j:=i.k) (pl:=109) (by rcases i with⟨op,a,b,k,n,st⟩;simp only at h⊢;rcases h with rfl|rfl<;>simp[A1]) (by decide) λf y fs F B P lf=>?_
   simp only[a3r,u0,u1,F.kq v,aj,↓uL]
   exact a1 F B P (by decide) (by decide) lf
  rcases z1:Q (i.op=7) with _|_<;>rcases z2:Q (i.op=9) with _|_<;>simp only[a3v,u0,u1,z1,z2,↓iC,↓iB,↓uL]
  ·simp only[aSA,au,aI,↓iB,↓uL]
   exact bR
  ·exact aQ (.inr (nt z2))
  ·exact aQ (.inl (nt z1))
  ·exact aQ (.inl (nt z1))
def aUh:FT:=vn aXq
def bb8{c s t Lw K}:=zZ aUh aXq c s t Lw K (j:=by simp+contextual only[ij,Nb])
def aYe:dO:=(168,aUh)::a7G
def a7p:eJ aYe:=it (By aXq) (a7o)
def aWn:=ai @bb8<|@aWm
section
attribute[local irreducible] aX
def a5I:=bi 39 [(15,([16],[3,4,5,6,7,9,14,15])),(17,([78],[3,4,5,6,7,9,14,15,16,77])),(30,([],[3,4,5,6,7,9,14,16])),(35,([],[4,5,6,7,9,14]))]
def a8A d e R a:=aw 7 a d λb=>aw 7 a e λc=>aE R a [b,c,(bv I)]
def a8B d e R a:=aw 7 a d λb=>aw 7 a e λc=>aE R a [b,c,(bv I)]
def a32 g b h c i d R a:=dH [(bo g),(bo b),(lb I [h,c] []),(lb I [i,d] []),km] [(1,2)] (aw 7 a h λe=>aw 7 a i λf=>aE R a [e,f,(bv U)])
def a33 e b g h R a:=aw 7 a e λc=>aw 7 a b λd=>sV (aK 7 a g c) λf=>sV (aK 7 f h d) (a32 e b g c h d R)
def aRu b c i d k l R(j:eQ) a:=∀_:Rg,ab 6 a b λe=>ab 0 a c λf=>aw 4 a i λg=>ao 4 a e f λh=>sV (aK 4 a h g) (a33 b d k l R)
def a34 l f d h g i j b m a k(c:aG) e:=dH [(bo l),(bo f),(bo d),(bo h),(lb U [g,i] []),(bo j),(bo b),(cq I m),km,(bo a),(bo a),(lb I [b,k] [])] [(10,11)] (c [] e)
def aVn c l g e i h j k m d a f:=rV (eO 0 a) λb=>rV (eO 1 a) λn=>sV (aK 4 f c b) (a34 l g e i h j k c m a b d)
def aSF a e l d k(c:aG):=ab 1 a e λm=>aO .neq m (iv 16) λb=>aT b 1 a e λn=>az b (aO .neq n (iv 2)) λo=>aD b o (bv I) λp=>ah p (aB 6 a l λf=>aM a f λg=>aB 0 a d λh=>aM a h λi=>ao 2 a g i λj=>aw 2 a j λq=>aw 4 a k λr=>cB 170 [q,r] a 192 (aVn k l f d h g i j a c)) (c [] a)
def a35 f a c b g h R d e:=jV 35 (aRu f a c b g h R) (aSF e b d a c)
def a36 a e g c d i j R f b:=aB 0 b a λh=>sV (aK 1 b h (gt e 0)) (a35 g c a d i j R f)
def aSD a e g c d k l R f(m:eQ) b:=∀_:Rg,ab 3 b a λh=>aV h (iv 1) λi=>aB 3 b a λj=>sV (aK 1 b j i) (a36 a e g c d k l R f)
def a37 c d(g:aG) e a:=ao 1 a c d λf=>sV (aK 1 a f e) λb=>g [] b
def aSB b c g a:=ab 2 a b λd=>ab 1 a c λe=>ab 3 a b λf=>eV (aX bH 1 a [(0,f)]) (a37 d e g)
def aSE a b e d(f:aG):=ab 1 a b λg=>bf g (iv 3) λc=>bn c 1 a b λh=>aC c (bf h (iv 23)) λi=>aD c (bv U) i λj=>ah j (ab 1 a e λk=>ab 1 a d λl=>ab 3 a b λm=>ao 1 a k l λn=>sV (aK 1 a n m) (aSB e d f)) (f [] a)
def aVo b h c a i j R f d e g:=∀_:Rg,jV 30 (aSD b e h c a i j R f) (aSE g a b d)
def a3R i b(h:aG) j a:=ab 4 a i λd=>ab 2 a b λe=>ab 3 a b λf=>ao 1 a d e λg=>sV (aK 1 a g f) λc=>h [j] c
def a3S i b(h:aG) j a:=ab 5 a i λd=>ab 2 a b λe=>ab 3 a b λf=>ao 1 a d e λg=>sV (aK 1 a g f) λc=>h [j] c
def a3T b(d:aG) a:=ab 2 a b λc=>d [c] a
def a3U k b d(c:aG) l a:=ab 1 a k λe=>ab 1 a b λf=>ao 1 a e f λg=>aM a g λh=>bf h (iv 0) λi=>ah i (aB 3 a d λj=>sV (aK 1 a j (iv 0)) (a3T b c)) (c [l] a)
def aSC a f(c:aG) d h b e g i:=∀_:Rg,ah (gt i 0) (ab 0 a f λl=>c [l] a) (bf d (iv 3) λm=>ah m (ab 4 a h λn=>ab 2 a b λo=>ao 1 a n o λp=>aM a p λq=>aB 3 a b λr=>sV (aK 1 a r q) λj=>c [e] j) (bf d (iv 23) λs=>ah s (ab 5 a h λt=>ab 2 a b λu=>ao 1 a t u λv=>aM a v λw=>aB 3 a b λx=>sV (aK 1 a x w) λk=>c [e] k) (bf d (iv 4) λy=>ah y (ab 1 a f λz=>ab 2 a g λA=>ao 1 a z A λB=>aM a B λC=>aB 3 a b λD=>sV (aK 1 a D C) (a3R h b c e)) (bf d (iv 22) λE=>ah E (ab 1 a f λF=>ab 2 a g λG=>ao 1 a F G λH=>aM a H λK=>aB 3 a b λM=>sV (aK 1 a M K) (a3S h b c e)) (bf d (iv 5) λN=>ah N (aB 3 a b λO=>sV (aK 1 a O (iv 1)) (a3U f g b c e)) (c [e] a))))))
def aRv b(a:cG):=bf b (iv 1) λc=>ah c (a [c]) (bf b (iv 16) λd=>ah d (a [d]) (bf b (iv 2) λe=>a [e]))
def aQL c a e g h d f:=ab 1 c a λb=>jR 17 (aSC c e f b g a h d) (aRv b)
def a3V c d e a i j R f b h g:=jV 15 (aVo c d e a i j R f b) (aQL g a c d h b)
def a3W f i b k j l m n a p o q r d s c h g w x R e:=dH [(bo f),(bo i),(bo b),(bo k),(lb U [j,l] []),(bo m),(bo n),(bo a),(bo p),(lb U [o,q] []),(bo r),(lb I [] [15]),(lb I [d,s] [])] [(0,11),(1,11),(2,11),(3,11),(4,11),(5,11),(6,11),(7,11),(8,11),(9,11),(10,11)] (ab 0 e a λt=>aV t (iv 1) λu=>aB 3 e c λv=>sV (aK 1 e v h) (a3V a g b c w x R f d u))
def a3X e b d q t s u v R a:=aB 6 a e λf=>aM a f λg=>aB 0 a b λh=>aM a h λi=>ao 2 a g i λj=>aB 1 a j λk=>aM a k λl=>aB 0 a d λm=>aM a m λn=>ao 6 a l n λo=>aw 6 a o λp=>eV (bs 209 Py a 15) λc r=>sV (aK 6 r c p) (a3W e f b h g i j k d m l n o c p q t s u v R)
def a3Y d b f e h m n R a:=ab 6 a d λi=>ab 0 a b λj=>ao 4 a i j λk=>aw 4 a k λl=>eV (bs 196 aoD a 14) λc g=>sV (aK 4 g c l) (a3X f b c e h d m n R)
def a3Z a c d f e g j k R b:=aw 4 b a λh=>aB 0 b c λi=>sV (aK 4 b i h) (a3Y c d f e g j k R)
def a30 b a c e d g i j R h f:=sV (aK 7 f b h) (a3Z a b c e d g i j R)
def aVl k f g R c a d h e j b:=cf k λl=>ah l (rV (bM NY anY []) λm=>rV (bM y8 aOs []) λn=>sV (aK 7 b f m) λi=>sV (aK 7 i g n) (a8B f g R)) (aw 7 b c λo=>cB 169 [o] b 51 (a30 c a d h e j f g R))
def aVm l h i R f g c d a:=cf l λm=>ah m (rV (bM NY anY []) λn=>rV (bM y8 aOs []) λo=>sV (aK 7 a h n) λj=>sV (aK 7 j i o) (a8A h i R)) (aB 0 a f λp=>aw 6 a p λq=>aB 0 a g λr=>aw 4 a r λs=>ab 0 a c λt=>ab 1 a d λu=>ab 2 a d λv=>ab 1 a c λw=>fV FG a [q,s,t,u,v,w] λe=>rV (eO 0 e) λx=>rV (eO 1 e) λy=>rV (eO 2 e) λz=>eV (bs 36 aNC a 11) λb k=>sV (aK 4 k b x) (aVl z h i R g b c f d y))
def a31 d e b m R n a:=aw 7 a d λh=>aw 7 a e λi=>ab 0 a b λj=>fV aUh a [h,i,j] λf=>rV (eO 0 f) λk=>rV (eO 1 f) λl=>eV (bs 64 y8 a 9) λc g=>sV (aK 7 g c k) (aVm l m n R d e b c)
def aVk b c a d R:=eV (bs 87 NY d 6) λf e=>eV (bs 64 y8 e 7) (a31 b c a f R)
def bhk{c:List AV}{d:List AV}{e:List AV}{R:d7}(l0:L c=7)(l1:L d=7)(w:L e=2)(h:∀b:ae,L b=4096->box b (3,1)=V ⟨92,7,U,U,[c]⟩->box b (4,1)=V ⟨87,7,U,U,[d]⟩->box b (5,1)=V ⟨146,2,U,U,[e]⟩->(∀k,k≠3->k≠4->k≠5->aZ b k=mO)->aVk (.p (3,1) 0 0) (.p (4,1) 0 0) (.p (5,1) 0 0) b R):Fn aS GG 117 [.a c, .a d, .a e] R:=by refine uq ready a7p Tryz.func117 (an:=a5I) (by kernel_rfl) (aND (show ZF aS GG aYe a5I Tryz.f117 [.a c, .a d, .a e] R=(eV (qm 92 7 (ly Tryz.f117) 3 (.a c)) λg j=>eV (qm 87 7 j 4 (.a d)) λm l=>eV (qm 146 2 l 5 (.a e)) λf b=>aVk g m f b R) by kernel_rfl) ?_);refine mY (N:=4096) rfl l0 (by decide) (by decide) uB (by rw[i8]) λj x n A g0=>?_;refine mY (N:=4096) rfl l1 (by decide) (by decide) x (by rw[g0 _ (by decide),i8]) λl y o r g1=>?_;refine mY (N:=4096) rfl w (by decide) (by decide) y (by rw[g1 _ (by decide),g0 _ (by decide),i8]) λb z q i s=>?_;exact h b z (by rw[i _ _ (by decide),r _ _ (by decide)];exact n) (by rw[i _ _ (by decide)];exact o) q (λk t u v=>by rw[s k v,g1 k u,g0 k t];exact i8 _ k)
end
def bg(s:bW)(t:Int):Prop:=aF (L s.count) t/\1<=gd s.count t.toNat
structure StI(w:br)(s:bW)(j:Nat):Prop where
 r:0<=(gd s.bm.ay j).cQ/\(gd s.bm.ay j).cQ<=5
 fr:((gd s.bm.ay j).cQ=0\/(gd s.bm.ay j).cQ=1)↔gd s.count j=0
 z:j=0->(gd s.bm.ay j).cQ≠0
 wt:((gd s.bm.ay j).cQ=3\/(gd s.bm.ay j).cQ=4)->aF (L w.bC) (gd s.bm.ay j).cond/\(gd s.bm.ak (gd w.bC (gd s.bm.ay j).cond.toNat).eg.toNat).pw≠j
 nw:¬((gd s.bm.ay j).cQ=3\/(gd s.bm.ay j).cQ=4)->(gd s.bm.ay j).cond=0
 at':(gd s.bm.ay j).atomic=U->bg s j
structure LcI(w:br)(s:bW)(j:Nat):Prop where
 ow:(gd s.bm.ak j).pw≠-1->bg s (gd s.bm.ak j).pw
 rd:(gd s.bm.ak j).bk≠[]->(gd w.ak j).rw=U/\(gd s.bm.ak j).pw= -1
 rb:∀x∈(gd s.bm.ak j).bk,bg s x
 inc:jC (gd s.bm.ak j).bk
structure SI(w:br)(s:bW)(n:Nat):Prop where
 fit:fN w s=U
 c0:∀c∈s.count,0<=c
 sum:s.count.sum=n
 st:∀j,j<L s.bm.ay->StI w s j
 lk:∀j,j<L s.bm.ak->LcI w s j
 tx:s.bm.tx≠-1->bg s s.bm.tx
 fu:∀j,j<L s.bU->gd s.bm.done j=I->gd s.bU j=0
def gdS{α:Type}[Inhabited α]{l:List α}{i j:Nat}{x:α}:gd (l.set i x) j=if i=j/\j<L l then x else gd l j:=by unfold gd;rw[eI,eI,List.getElem?_set];by_cases h:i=j;subst h;by_cases a:i<L l;simp[a];simp[a];simp[h]
def aTf{α:Type}[Inhabited α]{l:List α}{i j:Nat}{x:α}(h:i≠j):gd (l.set i x) j=gd l j:=by rw[gdS,cj (λe=>h e.1)]
def aTe{α:Type}[Inhabited α]{l:List α}{i:Nat}{x:α}(h:i<L l):gd (l.set i x) i=x:=by rw[gdS,bX ⟨rfl,h⟩]
structure Mk(s s':aW):Prop where
 lk:s'.ak=s.ak
 tx:s'.tx=s.tx
 dn:s'.done=s.done
 len:L s'.ay=L s.ay
 th:∀j,gd s'.ay j=gd s.ay j\/((gd s.ay j).cQ=3/\gd s'.ay j={gd s.ay j with cQ:=4})
def Mk.refl(s:aW):Mk s s:=⟨rfl,rfl,rfl,rfl,λ_=> .inl rfl⟩
def aYj{s:aW}{c u:Int}(h:u∈fO s c):aF (L s.ay) u/\(gd s.ay u.toNat).cQ=3/\(gd s.ay u.toNat).cond=c:=by unfold fO eh at h;simp only[dN,jW,fq] at h;obtain⟨i,⟨b,a⟩,rfl⟩:=h;simp only[pe,bN,lS] at a;refine⟨⟨by omega,by omega⟩,?_⟩;simpa using a
def Mk.one{s s':aW}(h:Mk s s'){u:Int}(c:(gd s.ay u.toNat).cQ=3):Mk s (ni s' u {fA s' u with cQ:=4}):=by refine⟨h.lk,h.tx,h.dn,by simp[ni,h.len],λj=>?_⟩;simp only[ni,fA,gdS];split;rename_i b;obtain⟨rfl,_⟩:=b;refine .inr ⟨c,?_⟩;rcases h.th u.toNat with a|⟨_,a⟩<;>rw[a];exact h.th j
def Mk.fold{s:aW}:∀(l:List Int) {s':aW},Mk s s'->(∀u∈l,(gd s.ay u.toNat).cQ=3)->Mk s (l.foldl (λs u=>ni s u {fA s u with cQ:=4}) s')|[],_,h,_=>h|u::l,_,h,a=>Mk.fold l (h.one (a u (by simp))) (λv b=>a v (by simp[b]))
def bhI{s:aW}{bb lD:Int}(h:fO s bb≠[]):(gd s.ay (tD s bb lD).toNat).cQ=3:=by unfold tD;split;rename_i d;exact(aYj d).2.1;cases b:fO s bb with|nil=>exact nl b h|cons a l=>exact(aYj (c:=bb) (by rw[b];simp[gd])).2.1
def a6V{w:br}{s:aW}{t bb lD:Int}:Mk s (cU w s t 18 bb lD).1:=by simp only[cU];simp only[show¬(18:Int)=1 by decide,show¬(18:Int)=2 by decide,show¬((18:Int)=6\/(18:Int)=10) by decide,show¬((18:Int)=7\/(18:Int)=11) by decide,show¬(18:Int)=8 by decide,show¬(18:Int)=9 by decide,show¬(18:Int)=12 by decide,show¬(18:Int)=13 by decide,show¬(18:Int)=14 by decide,show¬(18:Int)=15 by decide,show¬(18:Int)=16 by decide,show¬(18:Int)=17 by decide,aB9,vg];split;exact Mk.refl s;rename_i h;exact(Mk.refl s).one (bhI h)
def a6W{w:br}{s:aW}{t bb lD:Int}:Mk s (cU w s t 19 bb lD).1:=by simp only[cU];simp only[show¬(19:Int)=1 by decide,show¬(19:Int)=2 by decide,show¬((19:Int)=6\/(19:Int)=10) by decide,show¬((19:Int)=7\/(19:Int)=11) by decide,show¬(19:Int)=8 by decide,show¬(19:Int)=9 by decide,show¬(19:Int)=12 by decide,show¬(19:Int)=13 by decide,show¬(19:Int)=14 by decide,show¬(19:Int)=15 by decide,show¬(19:Int)=16 by decide,show¬(19:Int)=17 by decide,show¬(19:Int)=18 by decide,aB9,vg];exact Mk.fold _ (Mk.refl s) (λu a=>(aYj a).2.1)
section
variable{w:br}{s s':bW}{t:Nat}
structure Ct1(s s':bW)(t:Nat):Prop where
 lt:t<L s.count
 e:s'.count=s.count.set t (gd s.count t+1)
 p:0<=gd s.count t
def Ct1.len(h:Ct1 s s' t):L s'.count=L s.count:=by rw[h.e];simp
def Ct1.at(h:Ct1 s s' t):gd s'.count t=gd s.count t+1:=by rw[h.e,aTe h.lt]
def Ct1.ne(h:Ct1 s s' t){j:Nat}(a:j≠t):gd s'.count j=gd s.count j:=by rw[h.e,aTf (Sa a)]
def Ct1.bg(h:Ct1 s s' t){x:Int}(a:Ab.bg s x):Ab.bg s' x:=by refine⟨by rw[h.len];exact a.1,?_⟩;by_cases e:x.toNat=t;rw[e,h.at];have:=h.p;omega;rw[h.ne e];exact a.2
def Ct1.own(h:Ct1 s s' t):Ab.bg s' (t:Int):=by refine⟨⟨by omega,by rw[h.len];have:=h.lt;omega⟩,?_⟩;rw[bh,h.at];have:=h.p;omega
def StI.keep(c:Ct1 s s' t){j:Nat}(i:j≠t)(a:gd s'.bm.ay j=gd s.bm.ay j)(k:∀l,(gd s'.bm.ak l).pw=(gd s.bm.ak l).pw\/(gd s'.bm.ak l).pw=t\/(gd s'.bm.ak l).pw= -1)(h:StI w s j):StI w s' j:=by refine⟨by rw[a];exact h.r,by rw[a,c.ne i];exact h.fr,by rw[a];exact h.z,λd=>?_,by rw[a];exact h.nw,by rw[a];exactλg=>c.bg (h.at' g)⟩;rw[a] at d⊢;obtain⟨e,f⟩:=h.wt d;refine⟨e,?_⟩;rcases k (gd w.bC (gd s.bm.ay j).cond.toNat).eg.toNat with b|b|b<;>rw[b];exact f;omega;omega
def StI.own(c:Ct1 s s' t){x:bF}(a:gd s'.bm.ay t=x)(e:x.cQ=2\/x.cQ=5)(b:x.cond=0):StI w s' t:=by have d:=c.own;have f:¬gd s'.count t=0:=(by rw[c.at];have:=c.p;omega);refine⟨by rw[a];omega,by rw[a];constructor<;>intro h<;>omega,by rw[a];intro _;omega,by rw[a];intro h;omega,by rw[a];intro _;exact b,λ_=>d⟩
def LcI.keep(c:Ct1 s s' t){j:Nat}(a:gd s'.bm.ak j=gd s.bm.ak j)(h:LcI w s j):LcI w s' j:=⟨by rw[a];exactλb=>c.bg (h.ow b),by rw[a];exact h.rd,by rw[a];exactλx d=>c.bg (h.rb x d),by rw[a];exact h.inc⟩
end
def bfw{l:List Int}:∀{i:Nat} {x:Int},i<L l->(l.set i x).sum=l.sum-gd l i+x:=by induction l with|nil=>intro i x h;simp at h|cons a l b=>intro i x h;cases i with|zero=>simp[gd];omega|succ i=>have:=b (i:=i) (x:=x) (by simpa using h);have e:gd (a::l) (i+1)=gd l i:=(by simp[gd]);simp only[List.set_cons_succ,List.sum_cons,this,e];omega
def aWu{l:List Int}:(∀c∈l,0<=c)->∀i,gd l i<=l.sum/\0<=l.sum:=by induction l with|nil=>intro _ i;simp[gd]|cons a l f=>intro h i;have g:=h a (by simp);obtain⟨b,j⟩:=f (λc d=>h c (by simp[d])) (i-1);cases i with|zero=>simp[gd];omega|succ i=>have e:gd (a::l) (i+1)=gd l i:=(by simp[gd]);rw[e,List.sum_cons];simp only[Nat.add_sub_cancel] at b;omega
section
variable{w:br}{s s':bW}{t n:Nat}
def SI.next(h:SI w s n)(c:Ct1 s s' t)(d:fN w s'=U)(m:∀j,j<L s.bm.ay->StI w s' j)(l:∀j,j<L s.bm.ak->LcI w s' j)(f:L s'.bm.ay=L s.bm.ay)(i:L s'.bm.ak=L s.bm.ak)(k:s'.bm.tx=s.bm.tx\/s'.bm.tx=t\/s'.bm.tx= -1)(g:∀j,j<L s'.bU->gd s'.bm.done j=I->gd s'.bU j=0):SI w s' (n+1):=by refine⟨d,?_,?_,by rw[f];exact m,by rw[i];exact l,λb=>?_,g⟩;intro x b;rw[c.e] at b;rcases CC b with a|rfl;exact h.c0 x a;have:=c.p;omega;rw[c.e,bfw c.lt,h.sum];omega;rcases k with a|a|a;rw[a] at b⊢;exact c.bg (h.tx b);rw[a];exact c.own;exact nl a b
def SI.mk1(h:SI w s n)(c:Ct1 s s' t)(a:fN w s'=U)(g:∀j,j≠t->gd s'.bm.ay j=gd s.bm.ay j)(b:L s'.bm.ay=L s.bm.ay)(f:L s'.bm.ak=L s.bm.ak)(m:StI w s' t)(p:∀l,(gd s'.bm.ak l).pw=(gd s.bm.ak l).pw\/(gd s'.bm.ak l).pw=t\/(gd s'.bm.ak l).pw= -1)(k:∀j,j<L s.bm.ak->LcI w s' j)(i:s'.bm.tx=s.bm.tx\/s'.bm.tx=t\/s'.bm.tx= -1)(d:∀j,j<L s'.bU->gd s'.bm.done j=I->gd s'.bU j=0):SI w s' (n+1):=by refine h.next c a (λj o=>?_) k b f i d;by_cases e:j=t;rw[e];exact m;exact StI.keep c e (g j e) p (h.st j o)
end
def a97{w:br}{s:aW}{t k bb lD:Int}:L (cU w s t k bb lD).1.ak=L s.ak/\L (cU w s t k bb lD).1.done=L s.done/\L (cU w s t k bb lD).1.ay=L s.ay:=by by_cases a:k=18;subst a;have m:=a6V (w:=w) (s:=s) (t:=t) (bb:=bb) (lD:=lD);exact⟨by rw[m.lk],by rw[m.dn],m.len⟩;by_cases b:k=19;subst b;have m:=a6W (w:=w) (s:=s) (t:=t) (bb:=bb) (lD:=lD);exact⟨by rw[m.lk],by rw[m.dn],m.len⟩;unfold cU;by_cases q:k=1;rw[bX q];simp[ni,lC];rw[cj q];clear q;by_cases q:k=2;rw[bX q];simp[ni,lC];rw[cj q];clear q;by_cases q:k=6\/k=10;rw[bX q];simp[ni,lC];rw[cj q];clear q;by_cases q:k=7\/k=11;rw[bX q];simp[ni,lC];rw[cj q];clear q;by_cases q:k=8;rw[bX q];simp[ni,lC];rw[cj q];clear q;by_cases q:k=9;rw[bX q];simp[ni,lC];rw[cj q];clear q;by_cases q:k=12;rw[bX q];simp[ni,lC];rw[cj q];clear q;by_cases q:k=13;rw[bX q];simp[ni,lC];rw[cj q];clear q;by_cases q:k=14;rw[bX q];simp[ni,lC];rw[cj q];clear q;by_cases q:k=15;rw[bX q];simp[ni,lC];rw[cj q];clear q;by_cases q:k=16;rw[bX q];simp[ni,lC];rw[cj q];clear q;by_cases q:k=17;rw[bX q];simp[ni,lC];rw[cj q];clear q;rw[cj a,cj b];by_cases q:k=20;rw[bX q];simp[ni,lC];rw[cj q];clear q;by_cases q:k=22;rw[bX q];simp;rw[cj q];simp
def bfb{w:br}{s:bW}{e:aP}(h:fN w s=U):fN w (oc w s e)=U:=by obtain⟨a,b,c⟩:=a97 (w:=w) (s:=s.bm) (t:=e.aq) (k:=e.kind) (bb:=e.bb) (lD:=og e);simp only[fN,lh,bN,lS] at h⊢;obtain⟨⟨d,f,g,i⟩,j,l,m⟩:=h;refine⟨⟨d,a.trans f,b.trans g,c.trans i⟩,?_,?_,?_⟩;simp only[oc];split<;>simp[j];simp only[oc];split<;>simp[l];simp only[oc];simp[m]
def SI.step{w:br}{s:bW}{e:aP}{n:Nat}(h:SI w s n)(hv:∀j,j<L w.bC->uh w j=I)(hn:n<100000)(hk:C1 w s e=U):SI w (oc w s e) (n+1):=by
 simp only[C1,eH,cP] at hk
 obtain⟨b1,_,_,_,b5⟩:=hk
 simp only[aOL,cP,fK,o8] at b1
 obtain⟨⟨⟨⟨hf,ht⟩,k1⟩,k2⟩,he⟩:=b1
 have u:=bfb (e:=e) hf
 simp only[jm,bN] at he
 obtain⟨aw,_,r,d⟩:=he
 obtain⟨f1,f2,f3,f4⟩:=iY aw
 have ae:=dX.1 ht
 have aN:L s.count=L w.ay:=by simp only[fN,bN,lS] at hf;exact hf.2.2.2
 have aR:L s.bU=L w.bU:=by simp only[fN,bN,lS] at hf;exact hf.2.2.1
 obtain⟨th,g,bb,P,site,dI,ep⟩:=e
 simp only at ht ae k1 k2 r d
 obtain⟨t,rfl⟩:∃t:Nat,th=t:=⟨th.toNat,by have:=ae.1;omega⟩
 have aU:t<L w.ay:=by have:=ae.2;omega
 have K:=h.st t (by omega)
 have au:0<=gd s.count t/\gd s.count t<=n:=by
  have O:=aWu h.c0 t
  rw[h.sum] at O
  exact⟨h.c0 _ (dB (by omega)),O.1⟩
 have c:Ct1 s (oc w s ⟨t,g,bb,P,site,dI,ep⟩) t:=⟨by omega,by simp only[oc,bh];rw[eM (by omega) (by omega)],au.1⟩
 have ax:g=1\/g=2\/g=3\/g=4\/g=5\/g=6\/g=7\/g=8\/g=9\/g=10\/g=11\/g=12\/g=13\/g=14\/g=15\/g=16\/g=17\/g=18\/g=19\/g=20\/g=21\/g=22\/g=23:=by omega
 generalize hS:oc w s ⟨t,g,bb,P,site,dI,ep⟩=S at*
 have f:S.bm=(cU w s.bm t g bb (og ⟨t,g,bb,P,site,dI,ep⟩)).1:=by rw[<-hS];rfl
 have D:g≠22->S.bU=s.bU:=λb=>by rw[<-hS];simp only[oc];rw[cj b]
 have C:S.bU=s.bU->S.bm.done=s.bm.done->∀j,j<L S.bU->gd S.bm.done j=I->gd S.bU j=0:=λa i=>by rw[a,i];exact h.fu
 have M:S.bm.ak=s.bm.ak->∀j,j<L s.bm.ak->LcI w S j:=λa j q=>LcI.keep c (by rw[a]) (h.lk j q)
 generalize og ⟨t,g,bb,P,site,dI,ep⟩=wk at f
 have an:g=22->S.bU=s.bU.set bb.toNat P:=λe=>by rw[<-hS];simp only[oc];rw[bX e]
 clear hS
 have ah:Mk s.bm S.bm->g≠22->(gd s.bm.ay t).cQ=2->SI w S (n+1):=λm b T=>by
  refine h.next c u (λj q=>?_) (M m.lk) m.len (by rw[m.lk]) (.inl m.tx) (C (D b) m.dn)
  by_cases Z:j=t
  ·rw[Z]
   rcases m.th t with O|⟨O,_⟩
   ·exact StI.own c O (.inl T) (K.nw (by omega))
   ·omega
  ·have W:=h.st j q
   rcases m.th j with O|⟨O,A⟩
   ·exact StI.keep c Z O (λl=> .inl (by rw[m.lk])) W
   ·have e4:=W.wt (.inl O)
    refine⟨by rw[A];exact⟨by simp,by simp⟩,by rw[A,c.ne Z];constructor;intro H;simp at H;intro H;have:=W.fr.2 H;omega,by rw[A];intro _;simp,λ_=>by rw[A,m.lk];exact e4,by rw[A];intro H;exact nl (.inr rfl) H,by rw[A];exactλha=>c.bg (W.at' ha)⟩
 have E:S.bm=s.bm->g≠22->(gd s.bm.ay t).cQ=2->SI w S (n+1):=λa b T=>by
  refine h.mk1 c u (λj _=>by rw[a]) (by rw[a]) (by rw[a]) (StI.own c rfl (.inl (by rw[a];exact T)) (by rw[a];exact K.nw (by omega))) (λl=> .inl (by rw[a])) (M (by rw[a])) (.inl (by rw[a])) (C (D b) (by rw[a]))
 have one:∀x:bF,S.bm=ni s.bm t x->g≠22->x.cQ=2\/x.cQ=5->x.cond=0->SI w S (n+1):=λx a b T A=>by
  refine h.mk1 c u (λj q=>by rw[a];simp only[ni,bh];exact aTf (Sa q)) (by rw[a];simp[ni]) (by rw[a];rfl) (StI.own c (by rw[a];simp only[ni,bh];exact aTe (by omega)) T A) (λl=> .inl (by rw[a];rfl)) (M (by rw[a];rfl)) (.inl (by rw[a];rfl)) (C (D b) (by rw[a];rfl))
 have F:∀(k:Nat) (x:cg),S.bm={s.bm with ak:=s.bm.ak.set k x}->g≠22->(gd s.bm.ay t).cQ=2->(x.pw=(gd s.bm.ak k).pw\/x.pw=t\/x.pw= -1)->(x.bk≠[]->(gd w.ak k).rw=U/\x.pw= -1)->(∀y∈x.bk,y=t\/y∈(gd s.bm.ak k).bk)->jC x.bk->k<L s.bm.ak->SI w S (n+1):=λk x a b T A h4 h5 h6 hk=>by
  have z:∀j,gd S.bm.ak j=if k=j/\j<L s.bm.ak then x else gd s.bm.ak j:=λj=>by rw[a];exact gdS
  refine h.mk1 c u (λj _=>by rw[a]) (by rw[a]) (by rw[a];simp) (StI.own c rfl (.inl (by rw[a];exact T)) (by rw[a];exact K.nw (by omega))) (λl=>?_) (λj q=>?_) (.inl (by rw[a])) (C (D b) (by rw[a]))
  ·rw[z];split
   ·rename_i hl;rw[<-hl.1];exact A
   ·exact .inl rfl
  ·by_cases B:k=j
   ·subst B
    have i:gd S.bm.ak k=x:=by rw[z,bX ⟨rfl,q⟩]
    have l0:=h.lk k q
    refine⟨by rw[i];intro ho;rcases A with A|A|A<;>rw[A] at ho⊢;exact c.bg (l0.ow ho);exact c.own;exact nl rfl ho,by rw[i];exact h4,by rw[i];intro y v;rcases h5 y v with rfl|h7;exact c.own;exact c.bg (l0.rb y h7),by rw[i];exact h6⟩
   ·exact LcI.keep c (by rw[z,cj (λe=>B e.1)]) (h.lk j q)
 rcases ax with rfl|rfl|rfl|rfl|rfl|rfl|rfl|rfl|rfl|rfl|rfl|rfl|rfl|rfl|rfl|rfl|rfl|rfl|rfl|rfl|rfl|rfl|rfl
 all_goals simp[lc] at d
 ·exact one {gd s.bm.ay t with cQ:=2} (by rw[f];simp[cU,fA]) (by decide) (.inl rfl) (K.nw (by omega))
 ·exact one {gd s.bm.ay t with cQ:=5} (by rw[f];simp[cU,fA]) (by decide) (.inr rfl) (K.nw (by omega))
 ·exact E (by rw[f];simp[cU]) (by decide) d
 ·exact E (by rw[f];simp[cU]) (by decide) d
 ·exact E (by rw[f];simp[cU]) (by decide) d
 ·
  have p:=mJ r (by decide) (by decide)
  have o:bb.toNat<L s.bm.ak:=by have:=p.1;have:=p.2;omega
  have l0:=h.lk _ o
  simp[named] at r
  exact F bb.toNat {cH s.bm bb with pw:=t} (by rw[f];simp[cU,lC]) (by decide) d.1 (.inr (.inl rfl)) (λb=>by have:=(l0.rd b).1;simp[r.2] at this) (λy v=> .inr v) l0.inc o
 ·have p:=mJ r (by decide) (by decide)
  have o:bb.toNat<L s.bm.ak:=by have:=p.1;have:=p.2;omega
  have l0:=h.lk _ o
  exact F bb.toNat {cH s.bm bb with pw:= -1} (by rw[f];simp[cU,lC]) (by decide) d.1 (.inr (.inr rfl)) (λb=>⟨(l0.rd b).1,rfl⟩) (λy v=> .inr v) l0.inc o
 ·
  have p:=mJ r (by decide) (by decide)
  have o:bb.toNat<L s.bm.ak:=by have:=p.1;have:=p.2;omega
  have l0:=h.lk _ o
  simp[named] at r
  have e0:mP (cH s.bm bb).bk [(t:Int)]=fk (cH s.bm bb).bk t:=Ro l0.inc
  exact F bb.toNat {cH s.bm bb with bk:=mP (cH s.bm bb).bk [(t:Int)]} (by rw[f];simp[cU,lC]) (by decide) d.1 (.inl rfl) (λ_=>⟨r.2,d.2.1⟩) (λy v=>by rw[e0] at v;exact an1 v) (by rw[e0];exact Nz l0.inc) o
 ·
  have p:=mJ r (by decide) (by decide)
  have o:bb.toNat<L s.bm.ak:=by have:=p.1;have:=p.2;omega
  have l0:=h.lk _ o
  exact F bb.toNat {cH s.bm bb with bk:=fJ (cH s.bm bb).bk t} (by rw[f];simp[cU,lC]) (by decide) d.1 (.inl rfl) (λb=>l0.rd (λe=>b (by simp[cH,e,fJ]))) (λy v=> .inr (jW.1 v).1) (amF.2 ((amF.1 l0.inc).filter _)) o
 ·
  have p:=mJ r (by decide) (by decide)
  have o:bb.toNat<L s.bm.ak:=by have:=p.1;have:=p.2;omega
  have l0:=h.lk _ o
  exact F bb.toNat {cH s.bm bb with pw:=t} (by rw[f];simp[cU,lC]) (by decide) d.1 (.inr (.inl rfl)) (λb=>nl d.2.2 b) (λy v=> .inr v) l0.inc o
 ·have p:=mJ r (by decide) (by decide)
  have o:bb.toNat<L s.bm.ak:=by have:=p.1;have:=p.2;omega
  have l0:=h.lk _ o
  exact F bb.toNat {cH s.bm bb with pw:= -1} (by rw[f];simp[cU,lC]) (by decide) d.1 (.inr (.inr rfl)) (λb=>⟨(l0.rd b).1,rfl⟩) (λy v=> .inr v) l0.inc o
 ·
  have a:S.bm={s.bm with tx:=(t:Int)}:=by rw[f];simp[cU]
  exact h.mk1 c u (λj _=>by rw[a]) (by rw[a]) (by rw[a]) (StI.own c rfl (.inl (by rw[a];exact d.1)) (by rw[a];exact K.nw (by omega))) (λl=> .inl (by rw[a])) (M (by rw[a])) (.inr (.inl (by rw[a]))) (C (D (by decide)) (by rw[a]))
 ·have a:S.bm={s.bm with tx:= -1}:=by rw[f];simp[cU]
  exact h.mk1 c u (λj _=>by rw[a]) (by rw[a]) (by rw[a]) (StI.own c rfl (.inl (by rw[a];exact d.1)) (by rw[a];exact K.nw (by omega))) (λl=> .inl (by rw[a])) (M (by rw[a])) (.inr (.inr (by rw[a]))) (C (D (by decide)) (by rw[a]))
 ·exact one {gd s.bm.ay t with atomic:=U} (by rw[f];simp[cU,fA]) (by decide) (.inl d.1) (K.nw (by omega))
 ·exact one {gd s.bm.ay t with atomic:=I} (by rw[f];simp[cU,fA]) (by decide) (.inl d.1) (K.nw (by omega))
 ·
  have p:=oT r (by decide) (by decide)
  have G:bb.toNat<L w.bC:=by have:=p.1;have:=p.2;omega
  have hm:=f1 _ (dB G)
  have N:(gd w.bC bb.toNat).eg.toNat<L s.bm.ak:=by omega
  have l0:=h.lk _ N
  generalize X:(gd w.bC bb.toNat).eg=m at*
  have a:S.bm=ni (lC s.bm m {cH s.bm m with pw:= -1}) t {fA s.bm t with cQ:=3,cond:=bb}:=by rw[f];simp[cU,X]
  have z:∀j,gd S.bm.ak j=if m.toNat=j/\j<L s.bm.ak then{cH s.bm m with pw:= -1} else gd s.bm.ak j:=λj=>by rw[a];exact gdS
  have R:gd S.bm.ay t={fA s.bm t with cQ:=3,cond:=bb}:=by rw[a];simp only[ni,bh];exact aTe (by simp only[lC];omega)
  refine h.mk1 c u (λj q=>by rw[a];simp only[ni,bh,lC];exact aTf (Sa q)) (by rw[a];simp[ni,lC]) (by rw[a];simp[ni,lC]) ?_ (λl=>?_) (λj q=>?_) (.inl (by rw[a];rfl)) (C (D (by decide)) (by rw[a];rfl))
  ·have aO:=c.at
   refine⟨by rw[R];exact⟨by simp,by simp⟩,by rw[R];constructor;intro H;simp at H;intro H;omega,by rw[R];intro _;simp,λ_=>?_,by rw[R];intro H;exact nl (.inl rfl) H,λ_=>c.own⟩
   rw[R]
   refine⟨p,?_⟩
   simp only[X]
   rw[z,bX ⟨rfl,N⟩]
   simp only;omega
  ·rw[z];split
   ·exact .inr (.inr rfl)
   ·exact .inl rfl
  ·by_cases B:m.toNat=j
   ·subst B
    have i:=z m.toNat
    rw[bX ⟨rfl,N⟩] at i
    exact⟨by rw[i];intro ho;exact nl rfl ho,by rw[i];exactλb=>⟨(l0.rd b).1,rfl⟩,by rw[i];exactλy v=>c.bg (l0.rb y v),by rw[i];exact l0.inc⟩
   ·exact LcI.keep c (by rw[z,cj (λe=>B e.1)]) (h.lk j q)
 ·
  have p:=oT r (by decide) (by decide)
  have G:bb.toNat<L w.bC:=by have:=p.1;have:=p.2;omega
  have hm:=f1 _ (dB G)
  have ab:=hv _ G
  have N:(gd w.bC bb.toNat).eg.toNat<L s.bm.ak:=by omega
  have l0:=h.lk _ N
  simp only[uh,cP] at ab
  have az:=ab.2
  clear ab
  generalize X:(gd w.bC bb.toNat).eg=m at*
  have a:S.bm=ni (lC s.bm m {cH s.bm m with pw:=t}) t {fA s.bm t with cQ:=2,cond:=0}:=by rw[f];simp[cU,X]
  have z:∀j,gd S.bm.ak j=if m.toNat=j/\j<L s.bm.ak then{cH s.bm m with pw:=(t:Int)} else gd s.bm.ak j:=λj=>by rw[a];exact gdS
  have R:gd S.bm.ay t={fA s.bm t with cQ:=2,cond:=0}:=by rw[a];simp only[ni,bh];exact aTe (by simp only[lC];omega)
  refine h.mk1 c u (λj q=>by rw[a];simp only[ni,bh,lC];exact aTf (Sa q)) (by rw[a];simp[ni,lC]) (by rw[a];simp[ni,lC]) (StI.own c R (.inl rfl) rfl) (λl=>?_) (λj q=>?_) (.inl (by rw[a];rfl)) (C (D (by decide)) (by rw[a];rfl))
  ·rw[z];split
   ·exact .inr (.inl rfl)
   ·exact .inl rfl
  ·by_cases B:m.toNat=j
   ·subst B
    have i:=z m.toNat
    rw[bX ⟨rfl,N⟩] at i
    exact⟨by rw[i];intro _;exact c.own,by rw[i];exactλb=>nl (l0.rd b).1 (by rw[az];decide),by rw[i];exactλy v=>c.bg (l0.rb y v),by rw[i];exact l0.inc⟩
   ·exact LcI.keep c (by rw[z,cj (λe=>B e.1)]) (h.lk j q)
 ·exact ah (f▸a6V) (by decide) d.1
 ·exact ah (f▸a6W) (by decide) d.1
 ·
  have G:=Eb r (by decide) (by decide)
  have aT:bb.toNat<L w.ay:=by have:=G.1;have:=G.2;omega
  have b:bb.toNat≠t:=by have:=d.2.1;have:=G.1;omega
  have hO:=h.st bb.toNat (by omega)
  have a:S.bm=ni s.bm bb {fA s.bm bb with cQ:=1}:=by rw[f];simp[cU]
  have z:∀j,gd S.bm.ay j=if bb.toNat=j/\j<L s.bm.ay then{fA s.bm bb with cQ:=1} else gd s.bm.ay j:=λj=>by rw[a];exact gdS
  refine h.next c u (λj q=>?_) (M (by rw[a];rfl)) (by rw[a];simp[ni]) (by rw[a];rfl) (.inl (by rw[a];rfl)) (C (D (by decide)) (by rw[a];rfl))
  by_cases B:bb.toNat=j
  ·subst B
   have i:=z bb.toNat
   rw[bX ⟨rfl,q⟩] at i
   have h0:gd s.count bb.toNat=0:=hO.fr.1 (.inl d.2.2)
   refine⟨by rw[i];exact⟨by simp,by simp⟩,by rw[i,c.ne b];exact⟨λ_=>h0,λ_=> .inr rfl⟩,by rw[i];intro _;simp,by rw[i];intro H;simp at H,by rw[i];intro _;exact hO.nw (by omega),by rw[i];exactλha=>c.bg (hO.at' ha)⟩
  ·by_cases Z:j=t
   ·rw[Z]
    exact StI.own c (by rw[z,cj (λe=>b e.1)]) (.inl d.1) (K.nw (by omega))
   ·exact StI.keep c Z (by rw[z,cj (λe=>B e.1)]) (λl=> .inl (by rw[a];rfl)) (h.st j q)
 ·exact E (by rw[f];simp[cU]) (by decide) d.1
 ·
  have a:S.bm={s.bm with done:=s.bm.done.set bb.toNat U}:=by rw[f];simp[cU]
  refine h.mk1 c u (λj _=>by rw[a]) (by rw[a]) (by rw[a]) (StI.own c rfl (.inl (by rw[a];exact d.1)) (by rw[a];exact K.nw (by omega))) (λl=> .inl (by rw[a])) (M (by rw[a])) (.inl (by rw[a])) (λj q hd=>?_)
  rw[an rfl] at q⊢
  rw[a] at hd
  simp only[gdS] at hd⊢
  simp only[zq] at q
  have aQ:L s.bm.done=L s.bU:=by omega
  by_cases B:bb.toNat=j
  ·rw[bX ⟨B,by omega⟩] at hd;cases hd
  ·rw[cj (λe=>B e.1)] at hd⊢
   exact h.fu j q hd
 ·exact E (by rw[f];simp[cU]) (by decide) d.1
structure PB(x:ae)(v6 v7:Nat)(c:qt)(ch:xd):Prop where
 hl:L x=4096
 b1:box x (3,1)=V ⟨92,7,U,U,[c.c]⟩
 b3:box x (5,1)=V ⟨146,2,U,U,[ch.c]⟩
 b6:box x (6,v6)=V ⟨87,7,U,U,[NY]⟩
 b7:box x (7,v7)=V ⟨64,7,U,U,[y8]⟩
def PB.kx{x y:ae}{v6 v7:Nat}{c:qt}{ch:xd}{ks:List Nat}(P:PB x v6 v7 c ch)(F:Kx ks x y)(h:3∉ks/\5∉ks/\6∉ks/\7∉ks):PB y v6 v7 c ch:=⟨F.len.trans P.hl,F.keep _ _ h.1 P.b1,F.keep _ _ h.2.1 P.b3,F.keep _ _ h.2.2.1 P.b6,F.keep _ _ h.2.2.2 P.b7⟩
def PB.fx{x y:ae}{v6 v7:Nat}{c:qt}{ch:xd}{b:List Id}(P:PB x v6 v7 c ch)(F:Fx x y b)(h:∀q∈b,q.1≠3/\q.1≠5/\q.1≠6/\q.1≠7):PB y v6 v7 c ch:=⟨F.len.trans P.hl,F.keep _ _ (λe=>(h _ e).1 rfl) P.b1,F.keep _ _ (λe=>(h _ e).2.1 rfl) P.b3,F.keep _ _ (λe=>(h _ e).2.2.1 rfl) P.b6,F.keep _ _ (λe=>(h _ e).2.2.2 rfl) P.b7⟩
section
variable{pl:Nat×Nat×Nat}{x:ae}{a:AV}{f:Nat->AV×AV}{ss:List pt}{n u:Nat}
def TTs.ix(T:TTs pl I x a f ss n)(h:u<n){K:d7}(g:∀b,a= .m b n->box x b=V ⟨196,4,U,U,alx f ss n⟩->K (.p b u 0)):rV (cz 4 x a (iv u)) K:=by rcases T.bx with⟨j,_⟩|⟨b,rfl,_,d⟩;omega;have:cz 4 x (.m b n) (iv u)=V (.p b u 0):=(by simp[cz,d,h]);rw[this];exact g b rfl d
def be4{b:Id}{e:TypeId}{z:Nat}{o v:Bool}(d:box x b=V ⟨e,z,o,v,alx f ss n⟩)(g:u<n):kb (V 4) x (.p b u 0)=V (.a [iv (gd ss u).pc,(f u).1,(f u).2,iv (gd ss u).ac]):=by simp only[kb,iE,d,qd,aTy g];rfl
def a7b{s:pt}(b:s.pc=(gd ss u).pc)(d:s.ac=(gd ss u).ac):alx f (ss.set u s) n=alx f ss n:=by unfold alx;refine ja λk _=>?_;rw[gdS];split;rename_i e;rw[<-e.1,b,d];rfl
def bfD(T:TTs pl I x a f ss n)(B:u<n)(R:n<=L ss){m:Nat}(l:m<L (gd ss u).li){v:Int}{K:be}(E:pl.1≠pl.2.1/\pl.1≠pl.2.2)(P:∀p y,TTs pl I y a f (ss.set u {gd ss u with li:=(gd ss u).li.set m v}) n->Fx x y (aA (f u).1)->K p y):rV (cz 1 x (f u).1 (iv m)) λp=>sV (aK 1 x p (iv v)) (K p):=by refine ixG (T.g1 u B) (dJ (by simpa using l)) λg m1 j G=>?_;rw[bh];have w:g.1=pl.1:=T.p1 u B g (by rw[j];simp[aA]);refine aQz (x:=iv v) (r:=[iv (gd (gd ss u).li m)]) G (by rw[xe (by simpa using l),ve,eC l,bT l];rfl) (by simp) rfl rfl rfl λy F C=>?_;have A:((gd ss u).li.map ci++m1).set m ([iv (gd (gd ss u).li m)].set 0 (nrm (eR x (iv v))))=((gd ss u).li.set m v).map ci++m1:=(by rw[List.set_append_left _ _ (by simpa using l),vB];rfl);rw[A] at C;have t:aA (f u).1=[g]:=(by rw[j];rfl);have M:∀k,k<n->k≠u->∀q∈aA (f k).1,q∉[g]:=λk d H q o e=>T.d1 k u d B H q o (by rw[t];exact e);refine P _ y ⟨T.bx.elim .inl λ⟨b,N,D,O⟩=> .inr ⟨b,N,D,?_⟩,λk d=>?_,λk d=>?_,T.p1,T.p2,T.d1,T.d2⟩ (F.mono λq o=> .inl (by rw[t];exact o));rw[a7b (u:=u) (s:={gd ss u with li:=(gd ss u).li.set m v}) rfl rfl];exact F.keep _ _ (λe=>by simp at e;subst e;exact E.2 (w.symm.trans D)) O;rw[gdS];by_cases e:u=k;subst e;rw[bX ⟨rfl,by omega⟩];exact .inr ⟨g,m1,by rw[j];simp,C⟩;rw[cj (λh=>e h.1)];exact(T.g1 k d).fx F (M k d (Sa e));rw[gdS];have z:G2 I y (f k).2 (gd ss k).lj:=(T.g2 k d).fx F λq o e=>(by simp at e;subst e;exact E.1 (w.symm.trans (T.p2 k d q o)));by_cases e:u=k;subst e;rw[bX ⟨rfl,by omega⟩];exact z;rw[cj (λh=>e h.1)];exact z
def bfE(T:TTs pl I x a f ss n)(D:u<n)(X:n<=L ss){m:Nat}(v:m<L (gd ss u).lj){l:List Int}{t o:Bool}{K:ae->Prop}(H:pl.2.1≠pl.1/\pl.2.1≠pl.2.2)(W:∀y,TTs pl I y a f (ss.set u {gd ss u with lj:=(gd ss u).lj.set m l}) n->Fx x y (aA (f u).2)->K y):rV (cz 1 x (f u).2 (iv m)) λp=>sV (aK 1 x p (.l (l.map ci) t o)) K:=by have B:gm x 38 1 (f u).2 ((gd ss u).lj.map cl):=T.g2 u D;refine ixG B (dJ (by simpa using v)) λg m1 j M=>?_;rw[bh];have A:g.1=pl.2.1:=T.p2 u D g (by rw[j];simp[aA]);refine aQz (x:= .l (l.map ci) t o) (r:=[sl ci (gd (gd ss u).lj m)]) M (by rw[xe (by simpa using v),ve,eC v,bT v];rfl) (by simp) rfl rfl rfl λy F E=>?_;have C:((gd ss u).lj.map cl++m1).set m ([sl ci (gd (gd ss u).lj m)].set 0 (nrm (eR x (.l (l.map ci) t o))))=((gd ss u).lj.set m l).map cl++m1:=(by rw[List.set_append_left _ _ (by simpa using v),vB];rfl);rw[C] at E;have z:aA (f u).2=[g]:=(by rw[j];rfl);have O:∀k,k<n->k≠u->∀q∈aA (f k).2,q∉[g]:=λk d N q w e=>T.d2 k u d D N q w (by rw[z];exact e);refine W y ⟨T.bx.elim .inl λ⟨b,P,G,R⟩=> .inr ⟨b,P,G,?_⟩,λk d=>?_,λk d=>?_,T.p1,T.p2,T.d1,T.d2⟩ (F.mono λq w=> .inl (by rw[z];exact w));rw[a7b (u:=u) (s:={gd ss u with lj:=(gd ss u).lj.set m l}) rfl rfl];exact F.keep _ _ (λe=>by simp at e;subst e;exact H.2 (A.symm.trans G)) R;rw[gdS];have g1:gm y 2 1 (f k).1 ((gd ss k).li.map ci):=(T.g1 k d).fx F λq w e=>(by simp at e;subst e;exact H.1 (A.symm.trans (T.p1 k d q w)));by_cases e:u=k;subst e;rw[bX ⟨rfl,by omega⟩];exact g1;rw[cj (λh=>e h.1)];exact g1;rw[gdS];by_cases e:u=k;subst e;rw[bX ⟨rfl,by omega⟩];show gm y 38 1 (f u).2 (((gd ss u).lj.set m l).map cl);exact .inr ⟨g,m1,by rw[j];simp,E⟩;rw[cj (λh=>e h.1)];exact(T.g2 k d).fx F (O k d (Sa e))
def bfC{b:Id}{r:List AV}{s:pt}{y:ae}(T:TTs pl I y (.m b (L ss)) f ss (L ss)){e:TypeId}{z:Nat}{o:Bool}(D:u<L ss)(v:box x b=V ⟨e,z,o,U,(alx f ss (L ss)).set u r⟩)(B:r.map (rS x)=s.c)(A:∀k,k<L ss->rS x (f k).1=sl ci (gd ss k).li/\rS x (f k).2=sl cl (gd ss k).lj):fz x (.m b (L ss))=sl pt.c (ss.set u s):=by have j:((alx f ss (L ss)).set u r).map (·.map (rS x))=(ss.set u s).map pt.c:=(by rw[vB,vB,B];congr 1;refine aqI λk=>?_;rcases jj k (L ss) with d|d;rw[ve,aTy d,ve,eC d];obtain⟨p,q⟩:=A k d;simp only[df,ji,mU,p,q,bT d];rfl;rw[qi (by simpa[aQ8] using d),qi (by simpa using d)]);have e:((alx f ss (L ss)).set u r).take (L ss)=(alx f ss (L ss)).set u r:=oB (by rw[zq,aQ8];omega);have t:(((alx f ss (L ss)).set u r).all λr=>r.all λc=>eN (rS x c))=U:=(by rw[dV];intro E l;rw[dV];intro c w;have g:=CA (f:=(·.map (rS x))) l;rw[j] at g;obtain⟨s,_,C⟩:=dN.1 g;have:=CA (f:=rS x) w;rw[<-C] at this;simp only[pt.c,eW,ql,C8] at this;rcases this with h|h|h|h<;>rw[h]<;>simp[eN,sl]);simp only[Ab.fz,dQ,v,e,t,vg,j];rw[cj (by decide)];rfl
def idb{b q:Id}{k:Nat}(h:q∈[b])(d:b.1=k):q.1=k:=by simp at h;rw[h];exact d
def bft{Qq:d7}{v6 v7 v9 v14:Nat}{c:qt}{ch:xd}{S:aW}{fl:Bool×Bool×Bool×Bool×Bool×Bool}{cc fu ta:AV}{cells w:List Int}{e:aP}{r:List AV}{D:pt}
  (P:PB x v6 v7 c ch)(b4:box x (4,1)=V ⟨87,7,U,U,[eD S fl++[cc,fu,ta]]⟩)(b9:box x (9,v9)=V ⟨64,7,U,U,[e.c]⟩)(aa:box x (14,v14)=V ⟨196,4,U,U,[r]⟩)
  (gc:gm x 2 1 cc (cells.map ci))(gf:gm x 2 1 fu (w.map ci))(T:TTs (12,31,33) I x ta f ss (L ss))(C:u<L ss)(ar:ch.aq=u)(hr:r=D.c\/∃R ev,r=[iv R,(f u).1,(f u).2,iv ev]/\D=⟨R,(gd ss u).li,(gd ss u).lj,ev⟩)
  (z:∀q∈aA cc,q.1=11)(A:∀q∈aA fu,q.1=15)(hQ:Qq (.t [.a (pm.c ⟨S,cells,w,ss.set u D⟩), .a e.c,bv U])):
  aRu (.p (4,1) 0 0) (.p (5,1) 0 0) (.p (14,v14) 0 0) (.p (9,v9) 0 0) (.p (6,v6) 0 0) (.p (7,v7) 0 0) (λr=>Qq (B1 r)) [] x:=by
 have k1:∀{x:List AV} {y:AV},aN J (y::x)=V y:=λ{x y}=>by cases y<;>rfl
 have k4:∀{a b c d:AV},aN (V 4) [a,b,c,d]=V (.a [a,b,c,d]):=rfl
 have av:∃G H M N,r=[G,H,M,N]:=by
  rcases hr with rfl|⟨_,_,rfl,_⟩<;>exact⟨_,_,_,_,rfl⟩
 obtain⟨G,H,M,N,rfl⟩:=av
 have ap:eY (.a [G,H,M,N])=V [G,H,M,N]:=rfl
 simp only[aRu,aI,u0,u1,b4,P.b3,aa,eD,zn,dW,xd.c,k1,k4,nM,ip,aj,ar,↓uL]
 refine T.ix C λb ha hb=>?_
 subst ha
 have E:b.1=33:=by rcases T.bx with⟨h,_⟩|⟨b',h,h2,_⟩;omega;simp only[AV.m.injEq] at h;rw[h.1];exact h2
 refine Bp hb (aTy C) ap rfl (by simp) λs1 v b1=>?_
 have B:∀{q:Id},q.1≠33->q∉[b]:=λh e=>h (idb e E)
 have Z:=P.fx v (λq g=>by have:=idb g E;omega)
 have ae:=v.keep _ _ (B (by simp)) b4
 have ag:=v.keep _ _ (B (by simp)) b9
 have am:=gc.fx v λq g=>B (by rw[z q g];decide)
 have ao:=gf.fx v λq g=>B (by rw[A q g];decide)
 have e1:aN (V 7) (eD S fl++[cc,fu, .m b (L ss)])=V (.a (eD S fl++[cc,fu, .m b (L ss)])):=rfl
 have e2:aN (V 7) e.c=V (.a e.c):=rfl
 simp only[a33,u0,u1,ae,ag,ip,e1,e2,↓uL]
 refine qr Z.b6 rfl rfl λs2 W b2=>?_
 have af:=W.kq Z.b7
 refine qr af rfl rfl λF X b3=>?_
 simp only[a32,↓uL]
 have O:9∉cD (.a (eD S fl++[cc,fu, .m b (L ss)])):=λh=>by
  have e:cD (.a (eD S fl++[cc,fu, .m b (L ss)]))=dK cc++(dK fu++[b.1]):=by simp[cD,dC,eD,dK]
  rw[e] at h
  simp only[dF,cE] at h
  rcases h with h|h|h
  ·obtain⟨q,g,h⟩:=aQu gc h;have:=z q g;omega
  ·obtain⟨q,g,h⟩:=aQu gf h;have:=A q g;omega
  ·omega
 refine dT ?_ ?_
 ·generalize AV.a (eD S fl++[cc,fu, .m b (L ss)])=b0 at O⊢
  simp[eL,lb,aTn,O]
 have ab:=X.kq b2
 simp only[u0,u1,b3,ab,ip,e1,e2,↓uL]
 have j:Fx s1 F [(6,v6),(7,v7)]:=W.trans X
 have o:∀{q:Id},q.1≠6->q.1≠7->q∉[((6,v6):Id),(7,v7)]:=λh h' e=>by simp at e;rcases e with rfl|rfl;exact h rfl;exact h' rfl
 have hT:fz F (.m b (L ss))=sl pt.c (ss.set u D):=by
  have g1:∀k,k<L ss->rS F (f k).1=sl ci (gd ss k).li/\rS F (f k).2=sl cl (gd ss k).lj:=λk l=>
   ⟨aWh (((T.g1 k l).fx v λq g=>B (by rw[T.p1 k l q g];decide)).fx j λq g=>o (by rw[T.p1 k l q g];decide) (by rw[T.p1 k l q g];decide)),(((T.g2 k l).fx v λq g=>B (by rw[T.p2 k l q g];decide)).fx j λq g=>o (by rw[T.p2 k l q g];decide) (by rw[T.p2 k l q g];decide)).fr⟩
  refine bfC T C (j.keep _ _ (o (by rw[E];decide) (by rw[E];decide)) b1) ?_ g1
  simp only[CE,dW,nM,List.drop_nil,cL]
  rcases hr with h|⟨R,ev,h,rfl⟩
  ·rw[h];rfl
  ·rw[h]
   simp only[ji,mU,(g1 u C).1,(g1 u C).2]
   rfl
 have x4:=aBr (am.fx j λq g=>o (by rw[z q g];decide) (by rw[z q g];decide))
 have x5:=aBr (ao.fx j λq g=>o (by rw[A q g];decide) (by rw[A q g];decide))
 refine aOH (vs':=[.a (pm.c ⟨S,cells,w,ss.set u D⟩), .a e.c,bv U]) ?_ (by simp[iX,pm.c,aP.c,aW.c,eN,sl]) hQ
 simp only[ji,mU,fzT,eD,x4,x5,hT,bcz,aWt,zn,dW]
 rfl
end
def aQc(t b:pt):Prop:=L t.li=L b.li/\L t.lj=L b.lj/\(∀l∈t.lj,Tn l)/\t.pc=b.pc/\t.ac=b.ac
structure SK(ch:xd)(cc fu:AV)(v15 u:Nat)(s:pm):Prop where
 pc:∀q∈aA cc,q.1=11
 pf:∀q∈aA fu,q.1=15/\q≠(15,v15)
 hu:u<L s.ay
 hch:ch.aq=u
structure SM(x:ae)(v6 v7 v9 v14 v15:Nat)(c:qt)(ch:xd)(S:aW)(fl:Bool×Bool×Bool×Bool×Bool×Bool)(cc fu ta:AV)(f:Nat->AV×AV)(u:Nat)(s:pm)(e:aP)(i:lF):Prop where
 P:PB x v6 v7 c ch
 b4:box x (4,1)=V ⟨87,7,U,U,[eD S fl++[cc,fu,ta]]⟩
 b9:∃v:Int,box x (9,v9)=V ⟨64,7,U,U,[({e with value:=v}:aP).c]⟩
 b14:box x (14,v14)=V ⟨196,4,U,U,[[iv (gd s.ay u).pc,(f u).1,(f u).2,iv (gd s.ay u).ac]]⟩
 b15:box x (15,v15)=V ⟨209,6,U,U,[i.c]⟩
 gc:∃l:List Int,L l=L s.cells/\gm x 2 1 cc (l.map ci)
 gf:∃l:List Int,L l=L s.bU/\gm x 2 1 fu (l.map ci)
 tt:∃ss:List pt,L ss=L s.ay/\TTs (12,31,33) I x ta f ss (L ss)/\∀k,k<L ss->aQc (gd ss k) (gd s.ay k)
section
variable{x:ae}{v6 v7 v9 v14 v15:Nat}{c:qt}{ch:xd}{S:aW}{fl:Bool×Bool×Bool×Bool×Bool×Bool}{cc fu ta:AV}{f:Nat->AV×AV}{u:Nat}{s:pm}{e:aP}{i:lF}{K:d7}{K2:be}{KS:ae->Prop}
def SM.to(M:SM x v6 v7 v9 v14 v15 c ch S fl cc fu ta f u s e i){y:ae}{b:List Id}(F:Fx x y b)(h:∀q∈b,q.1≠3/\q.1≠4/\q.1≠5/\q.1≠6/\q.1≠7/\q.1≠14/\q≠(15,v15))(d:∃v:Int,box y (9,v9)=V ⟨64,7,U,U,[({e with value:=v}:aP).c]⟩)(j:∃l:List Int,L l=L s.cells/\gm y 2 1 cc (l.map ci))(m:∃l:List Int,L l=L s.bU/\gm y 2 1 fu (l.map ci))(p:∃ss:List pt,L ss=L s.ay/\TTs (12,31,33) I y ta f ss (L ss)/\∀k,k<L ss->aQc (gd ss k) (gd s.ay k)):SM y v6 v7 v9 v14 v15 c ch S fl cc fu ta f u s e i:=⟨M.P.fx F λq o=>by have:=h q o;omega,F.keep _ _ (λg=>(h _ g).2.1 rfl) M.b4,d,F.keep _ _ (λg=>(h _ g).2.2.2.2.2.1 rfl) M.b14,F.keep _ _ (λg=>(h _ g).2.2.2.2.2.2 rfl) M.b15,j,m,p⟩
def SM.keep9(M:SM x v6 v7 v9 v14 v15 c ch S fl cc fu ta f u s e i){y:ae}{b:List Id}(F:Fx x y b)(h:∀q∈b,q.1≠9):∃v:Int,box y (9,v9)=V ⟨64,7,U,U,[({e with value:=v}:aP).c]⟩:=by obtain⟨v,d⟩:=M.b9;exact⟨v,F.keep _ _ (λg=>h _ g rfl) d⟩
def SM.keepC(M:SM x v6 v7 v9 v14 v15 c ch S fl cc fu ta f u s e i){y:ae}{b:List Id}(F:Fx x y b)(h:∀q∈aA cc,q∉b):∃l:List Int,L l=L s.cells/\gm y 2 1 cc (l.map ci):=by obtain⟨l,d,g⟩:=M.gc;exact⟨l,d,g.fx F h⟩
def SM.keepF(M:SM x v6 v7 v9 v14 v15 c ch S fl cc fu ta f u s e i){y:ae}{b:List Id}(F:Fx x y b)(h:∀q∈aA fu,q∉b):∃l:List Int,L l=L s.bU/\gm y 2 1 fu (l.map ci):=by obtain⟨l,d,g⟩:=M.gf;exact⟨l,d,g.fx F h⟩
def SM.keepT(M:SM x v6 v7 v9 v14 v15 c ch S fl cc fu ta f u s e i){y:ae}{b:List Id}(F:Fx x y b)(h:∀q∈b,q.1≠12/\q.1≠31/\q.1≠33):∃ss:List pt,L ss=L s.ay/\TTs (12,31,33) I y ta f ss (L ss)/\∀k,k<L ss->aQc (gd ss k) (gd s.ay k):=by obtain⟨ss,d,g,j⟩:=M.tt;exact⟨ss,d,g.fx F h,j⟩
def aX3(M:SM x v6 v7 v9 v14 v15 c ch S fl cc fu ta f u s e i)(C:SK ch cc fu v15 u s){v:Int}(j:∀y,SM y v6 v7 v9 v14 v15 c ch S fl cc fu ta f u s e i->KS y):sV (aK 1 x (.p (9,v9) 0 3) (iv v)) KS:=by obtain⟨l,k⟩:=M.b9;refine A0 k rfl (by simp[aP.c]) λy F b=>j y (M.to F (by simp) ⟨v,b⟩ (M.keepC F λq h g=>?_) (M.keepF F λq h g=>?_) (M.keepT F (by simp)));have d:=C.pc q h;simp at g;subst g;simp at d;have d:=(C.pf q h).1;simp at g;subst g;simp at d
def aTu{e:TypeId}{a:AV}{l:List Int}(g:gm x e 1 a (l.map ci)){o:Int}(d:aF (L l) o)(h:∀v:Int,K (iv v)):rV (cz 1 x a (iv o)) λp=>rV (kb J x p) K:=by obtain⟨m,rfl⟩:∃m:Nat,o=m:=⟨o.toNat,by have:=d.1;omega⟩;have b:m<L l:=(by have:=d.2;omega);refine(O1.of g).ix1 (c:=iv (gd l m)) (by rw[ve,eC b,bT b];rfl) (K:=λ_=>K) λ_ _=>h _
def bfe(M:SM x v6 v7 v9 v14 v15 c ch S fl cc fu ta f u s e i){o:Int}(h:aF (L s.cells) o)(d:∀v:Int,K (iv v)):rV (cz 1 x cc (iv o)) λp=>rV (kb J x p) K:=by obtain⟨l,b,g⟩:=M.gc;exact aTu g (by rw[b];exact h) d
def bff(M:SM x v6 v7 v9 v14 v15 c ch S fl cc fu ta f u s e i){o:Int}(h:aF (L s.bU) o)(d:∀v:Int,K (iv v)):rV (cz 1 x fu (iv o)) λp=>rV (kb J x p) K:=by obtain⟨l,b,g⟩:=M.gf;exact aTu g (by rw[b];exact h) d
def aX2(M:SM x v6 v7 v9 v14 v15 c ch S fl cc fu ta f u s e i)(C:SK ch cc fu v15 u s){o:Int}(j:aF (L (gd s.ay u).li) o)(h:∀v:Int,K (iv v)):rV (cz 1 x (f u).1 (iv o)) λp=>rV (kb J x p) K:=by obtain⟨ss,d,T,g⟩:=M.tt;have b:u<L ss:=(by rw[d];exact C.hu);exact aTu (T.g1 u b) (by rw[(g u b).1];exact j) h
def aR5{e:TypeId}{a:AV}{l:List Int}(g:gm x e 1 a (l.map ci)){o v:Int}(h:aF (L l) o)(w:∀p y,Fx x y (aA a)->gm y e 1 a ((l.set o.toNat v).map ci)->K2 p y):rV (cz 1 x a (iv o)) λp=>sV (aK 1 x p (iv v)) (K2 p):=by refine ixG g (by simpa using h) λb m t z=>?_;have d:o.toNat<L l:=(by have:=h.1;have:=h.2;omega);refine aQz (x:=iv v) (r:=[iv (gd l o.toNat)]) z (by rw[xe (by simpa using d),ve,eC d,bT d];rfl) (by simp) rfl rfl rfl λy F k=>?_;have j:(l.map ci++m).set o.toNat ([iv (gd l o.toNat)].set 0 (nrm (eR x (iv v))))=(l.set o.toNat v).map ci++m:=(by rw[List.set_append_left _ _ (by simpa using d),vB];rfl);rw[j] at k;exact w _ y (F.mono λq A=> .inl (by rw[t];simpa[aA] using A)) (.inr ⟨b,m,by rw[t];simp,k⟩)
def bfg(M:SM x v6 v7 v9 v14 v15 c ch S fl cc fu ta f u s e i)(C:SK ch cc fu v15 u s){o v:Int}(m:aF (L s.cells) o)(k:∀p y,SM y v6 v7 v9 v14 v15 c ch S fl cc fu ta f u s e i->K2 p y):rV (cz 1 x cc (iv o)) λp=>sV (aK 1 x p (iv v)) (K2 p):=by obtain⟨l,d,g⟩:=M.gc;refine aR5 g (by rw[d];exact m) λp y F j=>k p y (M.to F (λq b=>?_) (M.keep9 F λq b=>?_) ⟨_,by simpa using d,j⟩ (M.keepF F λq b h=>?_) (M.keepT F λq b=>?_));have:=C.pc q b;refine⟨by omega,by omega,by omega,by omega,by omega,by omega,λe=>?_⟩;subst e;simp at this;have:=C.pc q b;omega;have d:=(C.pf q b).1;have r:=C.pc q h;omega;have:=C.pc q b;omega
def bfh(M:SM x v6 v7 v9 v14 v15 c ch S fl cc fu ta f u s e i)(C:SK ch cc fu v15 u s){o v:Int}(m:aF (L s.bU) o)(k:∀p y,SM y v6 v7 v9 v14 v15 c ch S fl cc fu ta f u s e i->K2 p y):rV (cz 1 x fu (iv o)) λp=>sV (aK 1 x p (iv v)) (K2 p):=by obtain⟨l,d,g⟩:=M.gf;refine aR5 g (by rw[d];exact m) λp y F j=>k p y (M.to F (λq b=>?_) (M.keep9 F λq b=>?_) (M.keepC F λq b h=>?_) ⟨_,by simpa using d,j⟩ (M.keepT F λq b=>?_));have:=(C.pf q b).1;exact⟨by omega,by omega,by omega,by omega,by omega,by omega,(C.pf q b).2⟩;have:=(C.pf q b).1;omega;have d:=(C.pf q h).1;have r:=C.pc q b;omega;have:=(C.pf q b).1;omega
def a7e{ss:List pt}{t:pt}(b:∀k,k<L ss->aQc (gd ss k) (gd s.ay k))(g:aQc t (gd s.ay u)):∀k,k<L (ss.set u t)->aQc (gd (ss.set u t) k) (gd s.ay k):=λk d=>by
 rw[gdS]
 split
 ·rename_i e;rw[<-e.1];exact g
 ·exact b k (by simpa using d)
def bfi(M:SM x v6 v7 v9 v14 v15 c ch S fl cc fu ta f u s e i)(C:SK ch cc fu v15 u s){o v:Int}(l:aF (L (gd s.ay u).li) o)(w:∀p y,SM y v6 v7 v9 v14 v15 c ch S fl cc fu ta f u s e i->K2 p y):rV (cz 1 x (f u).1 (iv o)) λp=>sV (aK 1 x p (iv v)) (K2 p):=by obtain⟨ss,g,T,k⟩:=M.tt;have d:u<L ss:=(by rw[g];exact C.hu);obtain⟨m,rfl⟩:∃m:Nat,o=m:=⟨o.toNat,by have:=l.1;omega⟩;have h:=k u d;refine bfD T d (dA _) (by rw[h.1];have:=l.2;omega) (by decide) λp y r F=>w p y (M.to F (λq b=>?_) (M.keep9 F λq b=>?_) (M.keepC F λq b j=>?_) (M.keepF F λq b j=>?_) ⟨ss.set u {gd ss u with li:=(gd ss u).li.set m v},by simpa using g,by rw[zq];exact r,a7e k ⟨by simpa using h.1,h.2.1,h.2.2.1,h.2.2.2⟩⟩);have:=T.p1 u d q b;simp at this;refine⟨by omega,by omega,by omega,by omega,by omega,by omega,λe=>?_⟩;subst e;simp at this;have:=T.p1 u d q b;simp at this;omega;have g:=T.p1 u d q j;have t:=C.pc q b;simp at g;omega;have g:=T.p1 u d q j;have t:=(C.pf q b).1;simp at g;omega
def bfj(M:SM x v6 v7 v9 v14 v15 c ch S fl cc fu ta f u s e i)(C:SK ch cc fu v15 u s){o:Int}{l:List Int}{t b:Bool}(D:Tn l)(v:aF (L (gd s.ay u).lj) o)(B:∀y,SM y v6 v7 v9 v14 v15 c ch S fl cc fu ta f u s e i->KS y):rV (cz 1 x (f u).2 (iv o)) λp=>sV (aK 1 x p (.l (l.map ci) t b)) KS:=by obtain⟨ss,h,T,r⟩:=M.tt;have g:u<L ss:=(by rw[h];exact C.hu);obtain⟨m,rfl⟩:∃m:Nat,o=m:=⟨o.toNat,by have:=v.1;omega⟩;have j:=r u g;refine bfE T g (dA _) (by rw[j.2.1];have:=v.2;omega) (by decide) λy w F=>B y (M.to F (λq d=>?_) (M.keep9 F λq d=>?_) (M.keepC F λq d k=>?_) (M.keepF F λq d k=>?_) ⟨ss.set u {gd ss u with lj:=(gd ss u).lj.set m l},by simpa using h,by rw[zq];exact w,a7e r ⟨j.1,by simpa using j.2.1,λz E=>(CC E).elim (j.2.2.1 z) λe=>by rw[e];exact D,j.2.2.2⟩⟩);have:=T.p2 u g q d;simp at this;refine⟨by omega,by omega,by omega,by omega,by omega,by omega,λe=>?_⟩;subst e;simp at this;have:=T.p2 u g q d;simp at this;omega;have h:=T.p2 u g q k;have A:=C.pc q d;simp at h;omega;have h:=T.p2 u g q k;have A:=(C.pf q d).1;simp at h;omega
end
section
variable{x:ae}{v6 v7 v9 v14 v15:Nat}{c:qt}{ch:xd}{S:aW}{fl:Bool×Bool×Bool×Bool×Bool×Bool}{cc fu ta:AV}{f:Nat->AV×AV}{u:Nat}{s:pm}{e:aP}{i:lF}{Qq:d7}
structure SB(c:qt)(s:pm)(u:Nat):Prop where
 hu:u<L c.ay
 rg:(gd c.ay u).li<=1000
 il:L (gd c.ay u).No<1000000
 ev:0<=(gd s.ay u).ac/\(gd s.ay u).ac<=900
 rl:L (gd s.ay u).li<=1000
 tl:L (gd s.ay u).lj<=1000
def aSl(Qq:d7)(S:aW)(s:pm)(e:aP)(u:Nat):Prop:=∀(cells d:List Int) (ss:List pt) (v:Int) (b:pt),L cells=L s.cells->L d=L s.bU->L ss=L s.ay->(∀k,k<L ss->aQc (gd ss k) (gd s.ay k))->((∀l∈b.lj,Tn l)/\L b.li<=1000/\L b.lj<=1000/\0<=b.ac/\b.ac<=(gd s.ay u).ac+1)->Qq (.t [.a (pm.c ⟨S,cells,d,ss.set u b⟩), .a ({e with value:=v}:aP).c,bv U])
def bfs(M:SM x v6 v7 v9 v14 v15 c ch S fl cc fu ta f u s e i)(C:SK ch cc fu v15 u s)(B:SB c s u)(hQ:aSl Qq S s e u){X:Int}:
  aSD (.p (14,v14) 0 0) [iv X] (.p (4,1) 0 0) (.p (5,1) 0 0) (.p (9,v9) 0 0) (.p (6,v6) 0 0) (.p (7,v7) 0 0) (λr=>Qq (B1 r)) (.p (3,1) 0 0) [] x:=by
 have W:∀{x:List AV} {y:AV},aN J (y::x)=V y:=λ{x y}=>by cases y<;>rfl
 have k4:∀{a b c d:AV},aN (V 4) [a,b,c,d]=V (.a [a,b,c,d]):=rfl
 have hw:dq.wrap ((gd s.ay u).ac+1)=(gd s.ay u).ac+1:=eM (by have:=B.ev;omega) (by have:=B.ev;omega)
 simp only[aSD,aI,u0,u1,M.b14,W,nM,ip,aj,hw,↓uL]
 refine A0 M.b14 rfl (by simp) λx1 F1 H=>?_
 simp only[List.set_cons_succ,RY] at H
 simp only[a36,au,u0,u1,H,aj,↓uL]
 refine A0 H rfl (by simp) λx2 F2 N=>?_
 simp only[RY] at N
 have F:Fx x x2 [(14,v14)]:=(F1.trans F2).mono λq j=> .inl (by simpa using j)
 have P:=M.P.fx F (by simp)
 have A:=F.kq M.b4
 obtain⟨v,o⟩:=M.keep9 F (by simp)
 obtain⟨cells,al,O⟩:=M.keepC F λq j g=>by have:=C.pc q j;simp at g;subst g;simp at this
 obtain⟨D,am,R⟩:=M.keepF F λq j g=>by have:=(C.pf q j).1;simp at g;subst g;simp at this
 obtain⟨ss,h1,T,h3⟩:=M.keepT F (by simp)
 have t:u<L ss:=by rw[h1];exact C.hu
 have w:=h3 u t
 simp only[a35,di]
 have h:∀{y:ae} {r:List AV} {m:pt},PB y v6 v7 c ch->box y (4,1)=V ⟨87,7,U,U,[eD S fl++[cc,fu,ta]]⟩->box y (9,v9)=V ⟨64,7,U,U,[({e with value:=v}:aP).c]⟩->box y (14,v14)=V ⟨196,4,U,U,[r]⟩->gm y 2 1 cc (cells.map ci)->gm y 2 1 fu (D.map ci)->TTs (12,31,33) I y ta f ss (L ss)->(r=m.c\/∃G ev,r=[iv G,(f u).1,(f u).2,iv ev]/\m=⟨G,(gd ss u).li,(gd ss u).lj,ev⟩)->((∀l∈m.lj,Tn l)/\L m.li<=1000/\L m.lj<=1000/\0<=m.ac/\m.ac<=(gd s.ay u).ac+1)->
   aRu (.p (4,1) 0 0) (.p (5,1) 0 0) (.p (14,v14) 0 0) (.p (9,v9) 0 0) (.p (6,v6) 0 0) (.p (7,v7) 0 0) (λr=>Qq (B1 r)) [] y:=λ{y r m} P A o z O R T hr ht=>
  bft P A o z O R T t C.hch hr C.pc (λq j=>(C.pf q j).1) (hQ cells D ss v m al am h1 h3 ht)
 have aE:=B.ev
 have Z:=h P A o N O R T (.inr ⟨X,_,rfl,rfl⟩) ⟨w.2.2.1,by rw[w.1];exact B.rl,by rw[w.2.1];exact B.tl,by simp only;omega,by simp only;omega⟩
 have hb:=B.hu
 have go:cB 170 [.a (gd c.ay u).c, .a [iv X,(f u).1,(f u).2,iv ((gd s.ay u).ac+1)]] x2 192 (aVn (.p (14,v14) 0 0) (.p (3,1) 0 0) (.p (3,1) 0 6) (.p (5,1) 0 0) (.p (5,1) 0 0) (sl A2.c c.ay) (iv u) (.q (gd c.ay u).c) x2 (aRu (.p (4,1) 0 0) (.p (5,1) 0 0) (.p (14,v14) 0 0) (.p (9,v9) 0 0) (.p (6,v6) 0 0) (.p (7,v7) 0 0) (λr=>Qq (B1 r)))):=by
  refine baY (s:=⟨X,(gd ss u).li,(gd ss u).lj,(gd s.ay u).ac+1⟩) P.hl (.of (T.g1 u t)) (.of (e:=38) (T.g2 u t)) (λq j=>by have:=T.p1 u t q j;simp at this;omega) B.rg B.il (by have:=B.rl;simp only;have:=w.1;omega) (by have:=B.tl;simp only;have:=w.2.1;omega) w.2.2.1 λok s' x3 E F3=>?_
  have af:=F3.kq N
  simp only[aVn,oJ,pG,aY]
  refine qr af rfl rfl λx4 F4 ag=>?_
  simp only[a34]
  refine dT (by simp[eL,lb,cD,dC,dK,pt.c,sl]) ?_
  have k:Fx x2 x4 [(14,v14)]:=(F3.trans F4).mono λq j=> .inl (by simpa using j)
  refine h (P.fx k (by simp)) (k.kq A) (k.kq o) ag (O.fx k λq j g=>?_) (R.fx k λq j g=>?_) (T.fx k (by simp)) (.inl rfl) ⟨E.1,E.2.1,E.2.2.1,?_,?_⟩
  ·have:=C.pc q j;simp at g;subst g;simp at this
  ·have:=(C.pf q j).1;simp at g;subst g;simp at this
  ·rcases E.2.2.2 with e|e<;>(try simp only at e)<;>omega
  ·rcases E.2.2.2 with e|e<;>(try simp only at e)<;>omega
 have ke:({e with value:=v}:aP).c=[iv e.aq,iv e.kind,iv e.bb,iv v,iv e.site,sl ci e.dI,sl ci e.ep]:=rfl
 have kc:aN (V 2) (gd c.ay u).c=V (.a (gd c.ay u).c):=rfl
 rcases q1:Q (e.kind≠16) with _|_
 ·simp only[aSF,u0,u1,o,ke,W,nM,ip,aj,q1,↓jN,Aa,↓iB,↓uL]
  exact Z
 ·rcases q2:Q (e.kind≠2) with _|_
  ·simp only[aSF,u0,u1,o,ke,W,nM,ip,aj,q1,q2,↓jA,↓iB,↓uL]
   exact Z
  ·simp only[aSF,u0,u1,o,ke,P.b1,P.b3,N,xd.c,C.hch,rk,gw,W,k4,kc,aj,y9,bh,q1,q2,↓jA,↓iC,↓uL]
   exact⟨dJ hb,go⟩
end
section
variable{x:ae}{v6 v7 v9 v14 v15:Nat}{c:qt}{ch:xd}{S:aW}{fl:Bool×Bool×Bool×Bool×Bool×Bool}{cc fu ta:AV}{f:Nat->AV×AV}{u:Nat}{s:pm}{e:aP}{i:lF}{Qq:d7}
abbrev J30(v6 v7 v9 v14:Nat)(b:Int)(Qq:d7):aG:=aSD (.p (14,v14) 0 0) [iv b] (.p (4,1) 0 0) (.p (5,1) 0 0) (.p (9,v9) 0 0) (.p (6,v6) 0 0) (.p (7,v7) 0 0) (λr=>Qq (B1 r)) (.p (3,1) 0 0)
abbrev J15(v6 v7 v9 v14 v15:Nat)(Qq:d7):aG:=aVo (.p (14,v14) 0 0) (.p (4,1) 0 0) (.p (5,1) 0 0) (.p (9,v9) 0 0) (.p (6,v6) 0 0) (.p (7,v7) 0 0) (λr=>Qq (B1 r)) (.p (3,1) 0 0) (.p (15,v15) 0 0)
def aOf{v:Int}:({e with value:=v}:aP).c=[iv e.aq,iv e.kind,iv e.bb,iv v,iv e.site,sl ci e.dI,sl ci e.ep]:=rfl
def bfr(M:SM x v6 v7 v9 v14 v15 c ch S fl cc fu ta f u s e i)(C:SK ch cc fu v15 u s)(B:SB c s u)(A:aSl Qq S s e u)(w:e.kind=3\/e.kind=23->aF (L (gd s.ay u).li) i.a/\aF (L (gd s.ay u).lj) i.a){g:Int}:J15 v6 v7 v9 v14 v15 Qq [iv g] x:=by have d:∀{x:List AV} {y:AV},aN J (y::x)=V y:=λ{x y}=>(by cases y<;>rfl);obtain⟨v,b⟩:=M.b9;have j:∀{y:ae},SM y v6 v7 v9 v14 v15 c ch S fl cc fu ta f u s e i->J30 v6 v7 v9 v14 g Qq [] y:=λ{y} M=>bfs M C B A;simp only[J15,aVo,aI,di];have up:(e.kind=3\/e.kind=23)->rV (cz 1 x (f u).1 (iv i.a)) (λo=>sV (aK 1 x o (iv v)) (aSB (.p (14,v14) 0 0) (.p (15,v15) 0 0) (J30 v6 v7 v9 v14 g Qq))):=λE=>(by obtain⟨r,t⟩:=w E;refine bfi M C r (K2:=λ_=>aSB (.p (14,v14) 0 0) (.p (15,v15) 0 0) (J30 v6 v7 v9 v14 g Qq)) λ_ y k=>?_;have D:aX bH 1 y [(0,iv (gd s.ay u).ac)]=V (.l ([(gd s.ay u).ac].map ci) U U,y):=iz;simp only[aSB,u0,u1,k.b14,k.b15,gw,d,aj,D,a37,↓uL];exact bfj k C (Tn.one ⟨B.ev.1,by have:=B.ev.2;omega⟩) t λz q=>j q);rcases h:Q (e.kind=3) with _|_;rcases m:Q (e.kind=23) with _|_;simp only[aSE,u0,u1,b,aOf,d,nM,ip,aj,h,m,↓jA,↓iB,↓uL];exact j M;simp only[aSE,u0,u1,b,aOf,M.b14,M.b15,gw,d,aj,h,m,↓jA,↓iC,wY,↓uL];exact up (.inr (nt m));simp only[aSE,u0,u1,b,aOf,M.b14,M.b15,gw,d,aj,h,↓jN,ya,↓iC,↓uL];exact up (.inl (nt h))
def bfu(M:SM x v6 v7 v9 v14 v15 c ch S fl cc fu ta f u s e i)(C:SK ch cc fu v15 u s)(B:SB c s u)(hQ:aSl Qq S s e u)(hA:e.kind=3\/e.kind=23->aF (L (gd s.ay u).li) i.a/\aF (L (gd s.ay u).lj) i.a)(X:e.kind=4\/e.kind=22->aF (L (gd s.ay u).li) i.b)(hC:e.kind=5->aF (L (gd s.ay u).li) i.a)(hO:e.kind=3\/e.kind=4->aF (L s.cells) e.bb)(Z:e.kind=22\/e.kind=23->aF (L s.bU) e.bb){A:Int}:aQL x (.p (9,v9) 0 0) (.p (14,v14) 0 0) (.p (4,1) 0 0) (iv A) (.p (15,v15) 0 0) (J15 v6 v7 v9 v14 v15 Qq):=by have k:∀{x:List AV} {y:AV},aN J (y::x)=V y:=λ{x y}=>(by cases y<;>rfl);obtain⟨v,g⟩:=M.b9;have j:∀{y:ae} {A:Int},SM y v6 v7 v9 v14 v15 c ch S fl cc fu ta f u s e i->J15 v6 v7 v9 v14 v15 Qq [iv A] y:=λ{y A} M=>bfr M C B hQ hA;have G:=M.b4;have R:eD S fl++[cc,fu,ta]=[.l (S.ak.map cg.c) fl.1 fl.2.1,iv S.tx, .l (S.done.map cb) fl.2.2.1 fl.2.2.2.1, .l (S.ay.map bF.c) fl.2.2.2.2.1 fl.2.2.2.2.2,cc,fu,ta]:=rfl;rw[R] at G;have m:=M.b14;have o:=M.b15;have t:∀{w:Int} {K:ae->Prop},(∀y,SM y v6 v7 v9 v14 v15 c ch S fl cc fu ta f u s e i->K y)->sV (aK 1 x (.p (9,v9) 0 3) (iv w)) K:=λh=>aX3 M C h;have E:aSC x (.p (14,v14) 0 0) (J15 v6 v7 v9 v14 v15 Qq) (iv e.kind) (.p (4,1) 0 0) (.p (9,v9) 0 0) (iv A) (.p (15,v15) 0 0) [bv U]:=(by simp only[aSC,au,aI,↓uL];simp only[u0,u1,m,gw,k,aj,↓iC,↓uL];exact j M);rcases P:Q (e.kind=1) with _|_;rotate_left;simp only[aQL,aRv,u0,u1,g,aOf,gw,k,aj,↓iC,P,↓uL];exact E;rcases T:Q (e.kind=16) with _|_;rotate_left;simp only[aQL,aRv,u0,u1,g,aOf,gw,k,aj,↓iC,↓iB,P,T,↓uL];exact E;rcases q3:Q (e.kind=2) with _|_;rotate_left;simp only[aQL,aRv,u0,u1,g,aOf,gw,k,aj,↓iB,P,T,q3,↓uL];exact E;simp only[aQL,aRv,u0,u1,g,aOf,gw,k,aj,↓iB,P,T,q3,↓uL];simp only[aSC,au,aI,↓uL];rcases D:Q (e.kind=3) with _|_;rotate_left;simp only[u0,u1,g,aOf,G,gw,k,aj,↓iC,↓iB,D,↓uL];exact bfe M (hO (.inl (nt D))) λw=>t λy d=>j d;rcases H:Q (e.kind=23) with _|_;rotate_left;simp only[u0,u1,g,aOf,G,gw,k,aj,↓iC,↓iB,D,H,↓uL];exact bff M (Z (.inr (nt H))) λw=>t λy d=>j d;rcases N:Q (e.kind=4) with _|_;rotate_left;simp only[u0,u1,g,aOf,m,o,gw,k,aj,↓iC,↓iB,D,H,N,↓uL];refine aX2 M C (X (.inl (nt N))) λw=>t λy d=>?_;obtain⟨v1,r⟩:=d.b9;have q:=d.b4;rw[R] at q;simp only[a3R,u0,u1,r,aOf,q,k,nM,ip,aj,↓uL];exact bfg d C (hO (.inr (nt N))) (K2:=λ_=>J15 v6 v7 v9 v14 v15 Qq [iv A]) λ_ y F=>j F;rcases O:Q (e.kind=22) with _|_;rotate_left;simp only[u0,u1,g,aOf,m,o,gw,k,aj,↓iC,↓iB,D,H,N,O,↓uL];refine aX2 M C (X (.inr (nt O))) λw=>t λy d=>?_;obtain⟨v1,r⟩:=d.b9;have q:=d.b4;rw[R] at q;simp only[a3S,u0,u1,r,aOf,q,k,nM,ip,aj,↓uL];exact bfh d C (Z (.inl (nt O))) (K2:=λ_=>J15 v6 v7 v9 v14 v15 Qq [iv A]) λ_ y F=>j F;rcases W:Q (e.kind=5) with _|_;simp only[u0,u1,↓iB,D,H,N,O,W,↓uL];exact j M;simp only[u0,u1,g,aOf,aj,↓iC,↓iB,D,H,N,O,W,↓uL];refine t λy d=>?_;obtain⟨v1,r⟩:=d.b9;simp only[a3U,u0,u1,d.b14,d.b15,gw,k,aj,↓uL];refine aX2 d C (hC (nt W)) λw=>?_;simp only[u0,u1,r,↓uL];refine⟨λ_=>aX3 d C λz F=>?_,λ_=>j d⟩;simp only[a3T,u0,u1,F.b15,gw,aj,↓uL];exact j F
end
def aQG.b{s s':pt}(h:aQG s s'){k:Nat}(d:0<=s.ac/\s.ac<=k):ThB k s':=⟨h.2.1,h.2.2.1,h.1,by rcases h.2.2.2 with e|e<;>omega,by rcases h.2.2.2 with e|e<;>omega⟩
def aXt(c:qt)(s:pm)(ch:xd)(hp:aPU c/\aOc c/\∃k,k<=900/\StB k s):Ct 117 [.a c.c, .a s.c, .a ch.c] (λr=>∃(s':pm) (e:aP) (Z:Bool),r= .t [.a s'.c, .a e.c,bv Z]/\(Z=U->EvL e/\∀k,k<=900->StB k s->StB (k+1) s')):=by
 obtain⟨hc,hb,K,hK,w⟩:=hp
 have cZ:=aP4 hc.1
 generalize hQ:(λ(r:AV)=>∃(s':pm) (e:aP) (Z:Bool),r= .t [.a s'.c, .a e.c,bv Z]/\(Z=U->EvL e/\∀k,k<=900->StB k s->StB (k+1) s'))=Qq
 refine aDq (bhk rfl rfl rfl λs6 g b1 b2 b3 h0=>?_)
 simp only[aVk]
 refine so g λv6 s7 F7 N7 b6=>?_
 refine so (F7.len.trans g) λv7 s8 F8 N8 b7=>?_
 have aa:Fx s6 s8 []:=F7.trans F8
 have P:PB s8 v6 v7 c ch:=⟨aa.len.trans g,aa.kq b1,aa.kq b3,F8.kq b6,b7⟩
 have c2:=aa.kq b2
 have k1:∀{x:List AV} {y:AV},aN J (y::x)=V y:=λ{x y}=>by cases y<;>rfl
 have hz:bM NY anY []=V (.a NY):=rfl
 have a8:bM y8 aOs []=V (.a y8):=rfl
 have ap:∀{x:ae},PB x v6 v7 c ch->sV (aK 7 x (.p (6,v6) 0 0) (.a NY)) λy=>sV (aK 7 y (.p (7,v7) 0 0) (.a y8)) λz=>rV (kb (V 7) z (.p (6,v6) 0 0)) λa=>rV (kb (V 7) z (.p (7,v7) 0 0)) λb=>aE (λr=>Qq (B1 r)) z [a,b,bv I]:=λ{x} P=>by
  refine qr P.b6 rfl rfl λy F b=>?_
  refine qr (F.kq P.b7) rfl rfl λz F2 b2=>?_
  rw[aEa (F2.kq b) rfl]
  simp only[aY]
  rw[aEa b2 rfl]
  refine aOH (vs':=[.a (pm.c ⟨⟨[],0,[],[]⟩,[],[],[]⟩), .a (aP.c ⟨0,0,0,0,0,[],[]⟩),bv I]) rfl rfl ?_
  rw[<-hQ];exact⟨_,_,_,rfl,by simp⟩
 simp only[a31,u0,u1,P.b1,P.b3,c2,xd.c,gw,k1,aj,ar,Fa,aWn,↓uL]
 refine⟨⟨hc,hb,K,w⟩,?_⟩
 rintro r ⟨e,Z,rfl,b0,b8⟩
 refine⟨by simp[lo,nA,eB,iR,qt.c,br.c,pm.c,aW.c,sl],?_⟩
 simp only[oJ,pG,aY]
 refine anu P.hl λv9 s9 F9 N9 b9=>?_
 have R:=P.fx F9 (by simp)
 have a0:=F9.kq c2
 cases Z with
 |false=>
  simp only[aVm,u0,u1,↓iC,hz,a8,↓uL]
  exact ap R
 |true=>
 obtain⟨b4,a6,ag⟩:=b8 rfl
 have m:=w.sy
 simp only[aVm,u0,u1,R.b1,R.b3,a0,b9,xd.c,rk,gw,k1,aj,ar,aWn,↓iB,↓uL]
 refine⟨⟨by omega,λl g=>by have:=m.rd l g;omega,by have:=m.lo;omega,by have:=m.dn;omega,by have:=m.th;omega⟩,?_⟩
 rintro r ⟨fl,rfl⟩
 rcases a4:jm c.aQ s.bm ch.aq e.kind e.bb with _|_
 ·refine⟨by simp[lo,nA,eB,iR,br.c,aW.c,sl],?_⟩
  simp only[aIc,oJ,pG,KM,aY]
  refine anu R.hl λcn cf G bD aU=>?_
  simp only[aVl,u0,u1,↓iC,hz,a8,↓uL]
  exact ap (R.fx G (by simp))
 refine⟨by simp[lo,nA,eB,iR,br.c,aW.c,sl],?_⟩
 simp only[aly,oJ,pG,KM,aY]
 obtain⟨cr,f1,f2,f3,f4,f5⟩:=b4
 simp only[jm,bN] at a4
 obtain⟨_,c1,a7,_⟩:=a4
 obtain⟨u,hu⟩:∃u:Nat,ch.aq=u:=⟨ch.aq.toNat,by have:=a6.1;omega⟩
 have N:u<L c.ay:=by have:=a6.2;omega
 have O:u<L s.ay:=by omega
 obtain⟨p1,p2,p3⟩:=f5 u N
 obtain⟨r1,r2,r3⟩:=hc.2.2 _ (dB N)
 have ad:=w.th _ (dB O)
 generalize hi:aQs c s ch.aq=i at ag
 have a5:gd (gd c.ay u).No (gd s.ay u).pc.toNat=i:=by rw[<-hi];simp[aQs,hu]
 have ca:(gd s.ay u).pc.toNat<L (gd c.ay u).No:=by have:=p1.1;have:=p1.2;omega
 have W:∀j∈A1 i,aF (L (gd s.ay u).li) j/\aF (L (gd s.ay u).lj) j:=λj hj=>by
  have:=r3 _ ca j (by rw[a5];exact hj)
  exact⟨⟨this.1,by omega⟩,⟨this.1,by omega⟩⟩
 generalize hS:(cU c.aQ s.bm ch.aq e.kind e.bb ch.lD).1=S
 generalize(cU c.aQ s.bm ch.aq e.kind e.bb ch.lD).2=av
 have B:SB c s u:=⟨N,by omega,hb.2 _ (dB N),⟨ad.2.2.2.1,by have:=ad.2.2.2.2;omega⟩,ad.1,ad.2.1⟩
 have bu:aSl Qq S s e u:=λcells cF ss v t' q1 q2 q3 q4 q5=>by
  rw[<-hQ]
  refine⟨_,_,_,rfl,λ_=>⟨b0,λk hk E=>?_⟩⟩
  have bw:=E.th _ (dB O)
  refine⟨by rw[<-hS];exact E.sy.apply _ _ _ _ _,by simp only;rw[q1];exact E.ce,by simp only;rw[q2];exact E.fu,by simp only[zq];rw[q3];exact E.tl,λt X=>?_⟩
  rcases CC X with X|rfl
  ·obtain⟨j,hj,rfl⟩:=ou X
   obtain⟨w1,w2,w3,w4,w5⟩:=q4 j hj
   have af:=E.th _ (dB (l:=s.ay) (k:=j) (by omega))
   rw[bT hj] at w1 w2 w3 w4 w5
   exact⟨by rw[w1];exact af.1,by rw[w2];exact af.2.1,w3,by rw[w5];exact af.2.2.2.1,by rw[w5];have:=af.2.2.2.2;omega⟩
  ·exact⟨q5.2.1,q5.2.2.1,q5.1,q5.2.2.2.1,by have:=bw.2.2.2.2;have:=q5.2.2.2.2;omega⟩
 refine anu R.hl λcn cf G bD aU=>?_
 have aR:=R.fx G (by simp)
 have ao:=G.kq a0
 have bg:=G.kq b9
 have cd:aN (V 7) s.c=V (.a s.c):=rfl
 simp only[aVl,u0,u1,ao,cd,ip,↓iB,↓uL]
 refine jH rfl (bds aR.hl ⟨by have:=m.lo;omega,by have:=m.dn;omega,by have:=m.th;omega,λl g=>by have:=m.rd l g;omega⟩ (by have:=w.ce;omega) (by have:=w.fu;omega) (by have:=w.tl;omega) λt X=>⟨(w.th t X).1,(w.th t X).2.1,λz hz=>((w.th t X).2.2.1 z hz).len⟩) ?_
 rintro r c4 ⟨a1,a2,a3,cc,fu,ta,f,rfl,_,gc,gf,T,iq,ax,az,na⟩
 refine⟨iq.len,?_⟩
 have bG:=aR.kx iq (by simp)
 have bn:=iq.kq ao
 have bi:=iq.kq bg
 have aC:=iq.kq aU
 simp only[a30]
 refine qr bn rfl rfl λc5 A aV=>?_
 have bj:=A.kq bi
 have aD:=A.kq aC
 have bH:=bG.fx A (by simp)
 have n4:∀{q:Id},q.1≠4->q∉[((4,1):Id)]:=λh e=>by simp at e;subst e;exact h rfl
 have bo:=gc.fx A λq d=>n4 (by rw[(ax q d).1];decide)
 have bs:=gf.fx A λq d=>n4 (by rw[(az q d).1];decide)
 have bK:=T.fx A (by simp)
 have es:aN (V 4) (eD S fl)=V (.a (eD S fl)):=rfl
 simp only[a3Z,u0,u1,aD,aV,es,ip,aj,↓uL]
 refine cy (y:=4) (cs:=eD S fl) aV rfl rfl (by simp) λck H bO=>?_
 have al:box ck (4,1)=V ⟨87,7,U,U,[eD S fl++[cc,fu,ta]]⟩:=bO
 have bk:=H.kq bj
 have ah:=bH.fx H (by simp)
 have bp:=bo.fx H λq d=>n4 (by rw[(ax q d).1];decide)
 have bt:=bs.fx H λq d=>n4 (by rw[(az q d).1];decide)
 have aT:=bK.fx H (by simp)
 have e4:eD S fl++[cc,fu,ta]=[.l (S.ak.map cg.c) fl.1 fl.2.1,iv S.tx, .l (S.done.map cb) fl.2.2.1 fl.2.2.2.1, .l (S.ay.map bF.c) fl.2.2.2.2.1 fl.2.2.2.2.2,cc,fu,ta]:=rfl
 have aZ:=al
 rw[e4] at aZ
 simp only[a3Y,u0,u1,aZ,ah.b3,xd.c,hu,k1,nM,ip,aj,↓uL]
 refine aT.ix O λb c0 hb=>?_
 simp only[be4 hb O,aY]
 refine anu ah.hl λv14 cl D cY aX=>?_
 have ab:=ah.fx D (by simp)
 have bf:=D.kq al
 have bl:=D.kq bk
 have bq:=bp.fx D (by simp)
 have au:=bt.fx D (by simp)
 have bL:=aT.fx D (by simp)
 have ri:aN (V 6) i.c=V (.a i.c):=rfl
 have c3:∀{j:Nat},(j:Int).toNat=j:=λ{j}=>bh j
 simp only[a3X,u0,u1,ab.b1,ab.b3,aX,xd.c,hu,rk,gw,k1,aj,y9,bh,a5,ri,↓uL]
 refine⟨dJ N,p1,so ab.hl λv15 cV ba aO bd=>?_⟩
 refine qr bd rfl rfl λa9 bc bQ=>?_
 have o:Fx cl a9 []:=(ba.trans bc).mono λq d=>by simp at d;subst d;exact .inr aO.no
 have bI:=ab.fx o (by simp)
 simp only[a3W,↓uL]
 refine dT (by simp[eL,lb,cD,dC,dK,sl,A2.c]) ?_
 have an:=o.kq bl
 have ac:=o.kq aX
 have ec:e.c=[iv e.aq,iv e.kind,iv e.bb,iv e.value,iv e.site,sl ci e.dI,sl ci e.ep]:=rfl
 have M:SM a9 v6 v7 v9 v14 v15 c ch S fl cc fu ta f u s e i:=⟨bI,o.kq bf,⟨e.value,an⟩,ac,bQ,⟨s.cells,rfl,bq.fx o (by simp)⟩,⟨s.bU,rfl,au.fx o (by simp)⟩,⟨s.ay,rfl,bL.fx o (by simp),λk hk=>⟨rfl,rfl,(w.th _ (dB hk)).2.2.1,rfl,rfl⟩⟩⟩
 have C:SK ch cc fu v15 u s:=⟨λq d=>(ax q d).1,λq d=>⟨(az q d).1,λeq=>?_⟩,O,hu⟩
 ·simp only[u0,u1,ac,an,k1,ip,aj,↓uL]
  refine aX3 M C λy M1=>?_
  simp only[a3V,di]
  refine bfu M1 C B bu (λh=>W _ (ag.1 h)) (λh=>(W _ (ag.2.1 h)).1) (λh=>(W _ (ag.2.2 h)).1) (λh=>?_) (λh=>?_)
  ·rw[f2];exact qP a7 (by omega) (by omega)
  ·rw[f3];exact oU a7 (by omega) (by omega)
 ·obtain⟨x,hx⟩:=aTi au q d
  subst eq
  exact aO.no x hx
def aUk:FT:=vn aXt
def bcb{c s ch Lw K}:=zZ aUk aXt c s ch Lw K (j:=by simp+contextual only[ij,Nb])
def a7H:dO:=(117,aUk)::aYe
def a7q:eJ a7H:=it (By aXt) (a7p)
def a6s:=ai @bcb<|@aWn
section
attribute[local irreducible] aX
def a9N:=bi 11 [(3,([2,10],[3,4,5,9])),(6,([2],[3,4,5,9,10]))]
def aVq d(f:aG)(e:bu) g a b:=∀_:Rg,aV (gt d 1) (iv 1) λc=>f [(gt a 0),c] b/\e [(gt a 0),c] b<e d g
def a4b b i(c:aG) a:=aw 7 a b λf=>eV (aX aTN 1 a [(0,f)]) λg d=>eV (j5 64 y8 88 d 41 (gt i 0) g) λh e=>c [h] e
def a4c i h r e l j k m d a n b o p(g:aG) c:=dH [(bo i),(bo h),km,km,(lb U [r,(gt e 1)] []),(bo l),(Qh [(.f 117 [] []),j,k,m]),km,(bo d),(bo d),(bo d),(lb I [] [11]),(lb I [] [12]),(lb I [a,n] []),(lb I [b,o] []),km] [(0,11),(1,11),(2,11),(3,11),(4,11),(5,11),(6,11),(7,11),(8,11),(9,11),(10,11),(0,12),(1,12),(2,12),(3,12),(4,12),(5,12),(6,12),(7,12),(8,12),(9,12),(10,12),(11,12),(9,13),(10,13),(10,14)] (ah p (aw 7 c a λq=>sV (aK 7 c h q) (a4b b e g)) (g [(gt e 0)] c))
def a4d b c e g p o j h i k l a m n d f:=sV (aK 7 f b c) (a4c e g p o j h i k l a m b c n d)
def a4e a b m e g p o j h i k l n d c f:=sV (aK 7 f a b) (a4d c m e g p o j h i k l a b n d)
def a4f k l c e o n h f g i j m b a d:=eV (bs 64 y8 d 12) (a4e a k l c e o n h f g i j m b)
def a4g b c d k i j:=aw 7 b c λe=>aw 7 b d λf=>ao 2 b k (gt i 1) λg=>aw 2 b g λh=>fV aUk b [e,f,h] λa=>rV (eO 0 a) λl=>rV (eO 1 a) λm=>rV (eO 2 a) λn=>eV (bs 87 NY b 11) (a4f l m c d k i g e f h a n j)
def aVr f g e n R o p a c:=∀_:Rg,aJ c f λq=>aU (gt a 1) q λb=>fm b (gt a 0) λh=>az b (aJ c h) λi=>az b (aU i (iv 400)) λj=>aD b j (bv I) λk=>ah k (jV 6 (aVq a o p c) (a4g c g e f a)) (aw 7 c e λl=>sV (aK 7 c n l) λd=>aw 7 d n λm=>fe R d [(gt a 0),m])
def aVp a b c d e R:=eV (bs 87 NY e 9) λg f=>lV [c,(iv 0)] f (aVr d a b g R)
def bf3{a b c d:AV}{s0:ae}{R:be}(h:eV (qm 92 7 s0 4 a) λe g=>eV (qm 87 7 g 5 b) λf i=>aVp e f c d i R):EB 71 [a,b,c,d] s0 R:=zB a9N a7q Tryz.func71 h
def bhm{e:List AV}{f:List AV}{j:AV}{l:AV}{s0:ae}{R:be}(m:L s0=4096)(l0:L e=7)(l1:L f=7)(h:∀(b:ae) (c d:Nat),Kp s0 b->(∀k,k≠4->k≠5->aZ b k=aZ s0 k)->(∀x,box s0 (4,c)≠V x)->(∀x,box s0 (5,d)≠V x)->box b (4,c)=V ⟨92,7,U,U,[e]⟩->box b (5,d)=V ⟨87,7,U,U,[f]⟩->aVp (.p (4,c) 0 0) (.p (5,d) 0 0) j l b R):EB 71 [.a e, .a f,j,l] s0 R:=by refine bf3 ?_;refine iN rfl l0 (by decide) (by decide) m λv c i g0 t o=>?_;refine iN rfl l1 (by decide) (by decide) (i.len.trans m) λb d n g1 u q=>?_;exact h b c d (Kp.trans i n) (λk r s=>(g1 k s).trans (g0 k r)) (λx g=>t x ((Kp.refl _).keep _ _ g)) (λx g=>u x (i.keep _ _ g)) (n.keep _ _ o) q
end
def bcu{Y:ae}{a:AV}{cs c:List AV}{aa:List (List AV)}{e:TypeId}{z:Nat}(g:gm Y e z a aa)(h:cs.map (lz Y)=c):aOo Y (.t [a, .a cs])= .t [.l aa I I, .a c]:=by have d:nrm (eR Y a)= .l aa I I:=(by rw[<-aOb g];rcases g with⟨_,rfl⟩|⟨b,m,rfl,i⟩;rfl;simp[eR,gi,i,nrm,lz]);have f:nrm (eR Y (.a cs))= .a (cs.map (lz Y)):=(by simp only[eR,nrm,vA];rfl);simp only[aOo,ji,mU,d,f,h]
def bdt{Y:ae}{c:qt}{s:pm}{f:List xd}(hl:L Y=4096)(hc:aPU c)(hb:aOc c)(hs:StB 0 s)(hn:L f<=100):
  ∃r Y1,((∃(l:List aP) (s':pm),r= .t [sl aP.c l, .a s'.c]/\L l<=100/\∀e∈l,EvL e)/\Fx Y Y1 [])/\cZ aS GG 71 [.a c.c, .a s.c, .l [] U U,sl xd.c f] Y r Y1:=by
 generalize hQ:(λ(r:AV) (y:ae)=>(∃(l:List aP) (s':pm),aOo y r= .t [sl aP.c l, .a s'.c]/\L l<=100/\∀e∈l,EvL e)/\Fx Y (kills y (aNW r)) [])=Qq
 refine aQR (R:=Qq) ?_ (λr y h=>by rw[<-hQ] at h;exact h)
 refine bhm hl rfl rfl λs4 v4 v5 K4 bz bA aQ b4 b5=>?_
 have F4:Fx Y s4 []:=K4.fx []
 simp only[aVp]
 refine so (F4.len.trans hl) λS s6 n N6 b9=>?_
 have am:Fx Y s6 []:=F4.trans n
 have n9:∀y,box Y (9,S)≠V y:=(N6.old F4).no
 have rc:aN (V 7) c.c=V (.a c.c):=rfl
 have O:∀{s:pm},aN (V 7) s.c=V (.a s.c):=rfl
 have re:∀{s:aP},aN (V 7) s.c=V (.a s.c):=rfl
 have aR:∀{s:xd},aN (V 2) s.c=V (.a s.c):=rfl
 have aG:∀{x:ae} {j:Int} {K:d7},rV (cz 2 x (sl xd.c f) (iv j)) K=(aF (L f) j/\K (.q (xd.c (gd f j.toNat)))):=aBz λ_=>rfl
 refine jD (α:=AV) (λa i=>[a,iv i]) 1 (L f) (λk a x=>Fx Y x []/\box x (4,v4)=V ⟨92,7,U,U,[c.c]⟩/\(∃s',box x (5,v5)=V ⟨87,7,U,U,[s'.c]⟩/\StB k s')/\box x (9,S)=V ⟨87,7,U,U,[NY]⟩/\∃l:List aP,L l<=k/\(∀e∈l,EvL e)/\gm x 64 7 a (l.map aP.c)/\∀q∈aA a,q.1=41/\∀y,box Y q≠V y) (s0:= .l [] U U) ⟨am,n.kq b4,⟨s,n.kq b5,hs⟩,b9,[],by simp,by simp, .inl ⟨rfl,rfl⟩,by simp[aA]⟩ ?_
 rintro k a x hk ⟨F,E,⟨s',H,D⟩,M,l,bx,B,g,w⟩
 have C:=F.len.trans hl
 have aK:fS x a=V (iv (L l)):=by rw[g.ln,bJ]
 rcases q1:Q ((k:Int)<(L f:Int)) with _|_
 ·simp only[aVr,aI,au,u0,u1,H,O,q1,↓jN,Aa,↓iB,ip,↓uL]
  refine qr M rfl rfl λs7 F7 b7=>?_
  simp only[b7,qd,qh,df,O,aY]
  have g7:=g.fx F7 λq d h=>by have:=(w q d).1;simp at h;subst h;simp at this
  show Qq (.t [a, .a s'.c]) s7
  rw[<-hQ]
  refine⟨⟨l,s',bcu g7 rfl,by omega,B⟩,((F.trans F7).trans (aOp _ _)).mono λq d=> .inr ?_⟩
  have ei:aNW (.t [a, .a s'.c])=aA a:=by
   have:=aQX g7
   rcases g7 with⟨_,rfl⟩|⟨b,m,rfl,_⟩<;>simp[aNW,eB,iR,pm.c,aW.c,sl,aA]
  rw[ei] at d
  simp only[dW,dF,cE] at d
  rcases d with rfl|d
  ·exact n9
  ·exact(w q d).2
 ·have q2:Q (((L l:Nat):Int)<400)=U:=aID (by omega)
  simp only[aVr,aI,au,u0,u1,aK,q1,q2,↓jA,ya,↓iC,ip,↓uL]
  have W:k<L f:=RF.1 (nt q1)
  simp only[a4g,u0,u1,E,H,O,rc,aG,aR,bh,ar,Fa,a6s,rr,ip,↓uL]
  refine⟨dJ W,⟨hc,hb,k,by omega,D⟩,?_⟩
  rintro r ⟨s2,e,ok,rfl,aL⟩
  refine⟨by simp[lo,nA,eB,iR,qt.c,br.c,pm.c,aW.c,xd.c,sl],?_⟩
  simp only[oJ,pG,KM,aY]
  refine so C λbB x1 Z N1 b1=>?_
  simp only[a4f]
  refine so (Z.len.trans C) λbC x2 F2 N2 b2=>?_
  have av:=F2.kq b1
  simp only[a4e]
  refine qr av rfl rfl λx3 F3 b3=>?_
  have aw:=F3.kq b2
  simp only[a4d]
  refine qr aw rfl rfl λx4 T ay=>?_
  have ax:=T.kq b3
  have G:Fx x x4 []:=(((Z.trans F2).trans F3).trans T).mono λq d=>by
   simp at d
   rcases d with rfl|rfl
   ·exact .inr N1.no
   ·exact .inr (N2.old Z).no
  simp only[a4c,↓uL]
  refine dT (by simp[ck,eL,lb,Qh,cD,dC,dK,sl,xd.c,pm.c,aW.c,aP.c,qt.c,br.c]) ?_
  have X:=G.kq H
  have g4:=g.fx G (by simp)
  have aJ:=G.len.trans C
  have j6:∀{v:AV} {y:ae} {P:pm} {l':List aP},Fx Y y []->box y (4,v4)=V ⟨92,7,U,U,[c.c]⟩->box y (5,v5)=V ⟨87,7,U,U,[P.c]⟩->StB (k+1) P->box y (9,S)=V ⟨87,7,U,U,[NY]⟩->L l'<=k+1->(∀e∈l',EvL e)->gm y 64 7 v (l'.map aP.c)->(∀q∈aA v,q.1=41/\∀z,box Y q≠V z)->aVq [a,iv k]
   (yI (λa i=>[a,iv i]) (L f) (λk a x=>Fx Y x []/\box x (4,v4)=V ⟨92,7,U,U,[c.c]⟩/\(∃s',box x (5,v5)=V ⟨87,7,U,U,[s'.c]⟩/\StB k s')/\box x (9,S)=V ⟨87,7,U,U,[NY]⟩/\∃l:List aP,L l<=k/\(∀e∈l,EvL e)/\gm x 64 7 a (l.map aP.c)/\∀q∈aA a,q.1=41/\∀y,box Y q≠V y)) (gM 1 (L f)) x [v] y:=λ{v y P l'} F E H hs M h1 h2 g p=>by
   simp only[aVq,aI,au,u0,u1,↓uL]
   exact dR (mk:=λ(a:AV) i=>[a,iv i]) (s:=a) (s':=v) (λ_ _=>rfl) W (by omega) ⟨F,E,⟨P,H,hs⟩,M,l',h1,h2,g,p⟩
  have aT:StB k s'->StB (k+1) s':=λh=>⟨h.sy.mono (by omega),h.ce,h.fu,h.tl,λt ht=>by obtain⟨w1,w2,w3,w4,w5⟩:=h.th t ht;exact⟨w1,w2,w3,w4,by omega⟩⟩
  cases ok with
  |false=>
   simp only[↓iB]
   exact j6 (F.trans G) (G.kq E) X (aT D) (G.kq M) (by omega) B g4 w
  |true=>
   obtain⟨he,aM⟩:=aL rfl
   simp only[↓iC,u0,u1,ax,O,ip,↓uL]
   refine qr X rfl rfl λx5 u aB=>?_
   have az:=u.kq ay
   have g5:=g4.fx u λq d h=>by have:=(w q d).1;simp at h;subst h;simp at this
   have aE:aX aTN 1 x5 [(0, .a e.c)]=V (.l ([e].map aP.c) U U,x5):=ua rfl rfl rfl (by decide) (by simp[aP.c,eN,sl]) (by decide)
   have o:∀{l:List aP},∀r∈l.map aP.c,L r=7:=qW (by intro _;rfl)
   simp only[a4b,u0,u1,az,re,aE,ip,↓uL]
   refine apQ g5 (u.len.trans aJ) o o (by simp) (by simp;omega) λv x6 g6 n P6=>?_
   have N:∀{q:Id},q.1≠41->q∉aA a:=λ{q} h d=>h (w q d).1
   have A:Fx Y x5 []:=((F.trans G).trans u).mono λq d=>by simp at d;subst d;exact .inr aQ
   refine j6 (l':=l++[e]) ((A.trans n).mono λq d=> .inr (w q (by simpa using d)).2) (n.keep _ _ (N (by simp)) (u.kq (G.kq E))) (n.keep _ _ (N (by simp)) aB) (aM k (by omega) D) (n.keep _ _ (N (by simp)) (u.kq (G.kq M))) (by simp;omega) (λy hy=>?_) (by rw[dg];exact g6.p) λq d=>⟨(P6 q d).2,((P6 q d).1.old A).no⟩
   rcases dF.1 hy with h|h
   ·exact B y h
   ·simp at h;subst h;exact he
def aYf:dO:=a7H
def a7r:eJ aYf:=a7q
def a6t:=@a6s
section
attribute[local irreducible] aX
def a5H:=bi 6 []
def a3x t3 d R a:=aw 7 a t3 λb=>aw 7 a d λc=>aE R a [b,c]
def a3y c g h f b d t3 i e m j R a:=dH [(bo c),(bo g),km,(lb U [h,f] []),(bo b),(lbV d t3 i),(lbV e m j)] [(4,5)] (aw 7 a t3 λk=>aw 7 a m λl=>aE R a [k,l])
def a3z j b d g h f c e t3 i R a:=sV (aK 7 a j b) (a3y d g h f c e t3 i a j b R)
def a3A c k d j b l e t3 n R a:=dH [(bo c),(bo c),(Qh [(.f 72 [] []),k]),km,(lb I [] []),km,(bo d),(bo d),(lb I [] [7]),km,(lbV j b l)] [(0,8),(1,8),(2,8),(3,8),(4,8),(5,8),(6,8),(7,8)] (aB 0 a c λg=>aw 6 a g λh=>rV (bM aPb aP0 [(0,h),(1,e)]) λi=>aw 7 a b λm=>sV (aK 7 a t3 i) (a3z n m c g h e b a t3 i R))
def a3B e g t3 i R b f:=rV (eO 0 b) λh=>rV (eO 1 b) λd=>eV (bs 87 NY f 7) λa c=>sV (aK 7 c a d) (a3A e g b c a d h t3 i R)
def a3C b t3 R j d a:=aw 7 a b λk=>fV aRk a [k] λm=>cf m λn=>ah n (rV (bM aPb aP0 []) λf=>rV (bM NY anY []) λg=>sV (aK 7 a t3 f) λe=>sV (aK 7 e d g) (a3x t3 d R)) (aw 7 a b λh=>aw 7 a b λc=>fV aUj a [c] λi=>cV 71 [h,i,(.l [] U U),j] a 18 (a3B b c t3 d R))
def aVj a b c R:=eV (bs 56 aPb c 4) λt3 d=>eV (bs 87 NY d 5) (a3C a t3 R b)
def bhi{c:List AV}{d:AV}{R:d7}(l0:L c=7)(h:∀b:ae,L b=4096->box b (2,1)=V ⟨92,7,U,U,[c]⟩->(∀k,k≠2->aZ b k=mO)->aVj (.p (2,1) 0 0) d b R):Fn aS GG 30 [.a c,d] R:=by refine fnV (uq ready (aQ9 a7r) Tryz.func30 (an:=a5H) (by kernel_rfl) (aND (show ZF aS GGV aYf a5H Tryz.f30 [.a c,d] R=(eV (qm 92 7 (ly Tryz.f30) 2 (.a c)) λe b=>aVj e d b R) by kernel_rfl) ?_));refine mY (N:=4096) rfl l0 (by decide) (by decide) uB (by rw[i8]) λb i f j g0=>?_;exact h b i f (λk g=>by rw[g0 k g];exact i8 _ k)
end
def Kx.fx0{Y Y':ae}(k:Kx [] Y Y'){b:Id}{x:bY}(h:box Y b=V x):box Y' b=V x:=k.keep b x (by simp) h
def baV{Y:ae}{c:qt}{s:pm}{f:List xd}{d:Nat}{K:be}(u:L Y=4096)(q:aPU c)(o:aOc c)(z:StB 0 s)(w:L f<=100)(n:∀(l:List aP) (s':pm) g,L l<=100->(∀e∈l,EvL e)->Kx [] Y g->K (.t [sl aP.c l, .a s'.c]) g):cV 71 [.a c.c, .a s.c, .l [] U U,sl xd.c f] Y d K:=by refine aQN rfl rfl [] (λx j=>?_) (by intro p h;simp at h) (bdt (aOr.trans u) q o z w) ?_;simp only[eW,ql,C8] at j;rcases j with rfl|rfl|rfl|rfl;intro y b;simp only[qt.c,br.c,dF,eW,ql,C8,or_assoc] at b;rcases b with rfl|rfl|rfl|rfl|rfl|rfl|rfl<;>exact .inl (by simp[eN]);intro y b;simp only[pm.c,aW.c,dF,eW,ql,C8,or_assoc] at b;(rcases b with rfl|rfl|rfl|rfl|rfl|rfl|rfl<;>first|trivial|exact .inl (by simp[eN]));exact .inr rfl;exact .inl (by simp[eN]);rintro r g ⟨⟨l,s',rfl,k,m⟩,F⟩;refine⟨F.len.trans aOr,[],(by intro p h;simp at h),?_,n l s' _ k m Kx.mix⟩;intro v i;simp only[eW,ql,C8] at i;rcases i with rfl|rfl;exact .inl (by simp[eN]);intro y b;simp only[pm.c,aW.c,dF,eW,ql,C8,or_assoc] at b;rcases b with rfl|rfl|rfl|rfl|rfl|rfl|rfl<;>first|trivial|exact .inl (by simp[eN])
def aXr(c:qt)(g:List xd)(hp:aOc c/\L g<=100):Ct 30 [.a c.c,sl xd.c g] (λr=>∃(t:O3) (s:pm),r= .t [.a t.c, .a s.c]/\L t.ac<=100/\∀e∈t.ac,EvL e):=by obtain⟨o,hn⟩:=hp;generalize K:(λ(r:AV)=>∃(t:O3) (s:pm),r= .t [.a t.c, .a s.c]/\L t.ac<=100/\∀e∈t.ac,EvL e)=Qq;refine aDq (bhi rfl λs2 p X h0=>?_);simp only[aVj];refine so p λv4 s4 B N4 Z=>?_;refine so (B.len.trans p) λv5 v C N6 F=>?_;have f:=C.kq Z;have b:Fx s2 v []:=B.trans C;have H:=b.kq X;have i:=b.len.trans p;have hz:bM NY anY []=V (.a NY):=rfl;have N:bM aPb aP0 []=V (.a aPb):=rfl;have rc:aN (V 7) c.c=V (.a c.c):=rfl;simp only[a3C,u0,u1,H,rc,ip,a6t,ar,Fa,hz,N,↓uL];have k:∀{r:AV},lo v [.a c.c] r:=(by intro r;simp[lo,nA,eB,iR,qt.c,br.c,sl]);refine⟨o,?_⟩;rintro _ ⟨ok,rfl,j⟩;refine⟨k,?_⟩;simp only[aIN,aY];cases ok with|false=>simp only[Bool.not_false,↓iC];refine qr f rfl rfl λs7 T n=>?_;refine qr (T.kq F) rfl rfl λs8 W b8=>?_;have G:=W.kq n;have rz:aN (V 7) NY=V (.a NY):=rfl;have R:aN (V 7) aPb=V (.a aPb):=rfl;simp only[a3x,u0,u1,b8,G,rz,R,ip,↓uL];refine aOH (vs':=[.a (O3.c ⟨⟨[],[],[],[],[],[]⟩,[]⟩), .a (pm.c ⟨⟨[],0,[],[]⟩,[],[],[]⟩)]) rfl rfl ?_;rw[<-K];exact⟨_,_,rfl,by simp,by simp⟩|true=>simp only[Bool.not_true,↓iB];refine⟨⟨j rfl,o⟩,?_⟩;rintro _ ⟨s,rfl,hs⟩;refine⟨k,?_⟩;refine baV i (j rfl) o hs hn λl s' az h1 h2 d=>?_;have u:=d.len.trans i;simp only[a3B,oJ,pG,aY];refine so u λv7 aA w ay n=>?_;refine qr n rfl rfl λS x c7=>?_;have up:∀{q:Id} {z:bY},q≠(7,v7)->box v q=V z->box S q=V z:=λh h'=>x.keep _ _ (by simpa using h) (w.kq (d.fx0 h'));have d1:=up (by simp) H;have d4:=up (by simp) f;have d5:=up (by simp) F;have O:aN (V 6) c.c=V (.a c.aQ.c):=rfl;have P:aN (V 7) s'.c=V (.a s'.c):=rfl;have rt:aN (V 7) (O3.c ⟨c.aQ,l⟩)=V (.a (O3.c ⟨c.aQ,l⟩)):=rfl;have M:bM aPb aP0 [(0, .a c.aQ.c),(1,sl aP.c l)]=V (.a (O3.c ⟨c.aQ,l⟩)):=rfl;simp only[a3A,↓uL];refine dT (by simp[eL,lb,lbV,Qh,cD,dC,dK,qt.c,pm.c,aW.c,br.c,sl]) ?_;simp only[u0,u1,d1,c7,O,P,M,aj,ip,↓uL];refine qr d4 rfl rfl λaB y D=>?_;simp only[a3z];refine qr (y.kq d5) rfl rfl λaC A E=>?_;have m:=A.kq D;simp only[a3y,↓uL];refine dT (by simp[eL,lb,lbV,cD,dC,dK,pm.c,aW.c,br.c,O3.c,sl]) ?_;simp only[u0,u1,m,E,P,rt,ip,↓uL];refine aOH (vs':=[.a (O3.c ⟨c.aQ,l⟩), .a s'.c]) rfl (by simp[iX,eN,O3.c,br.c,pm.c,aW.c,sl]) ?_;rw[<-K];exact⟨_,_,rfl,h1,h2⟩
def aUi:FT:=pn aXr
def bb9{c chs Lw K}:=rQ aUi aXr c chs Lw K (j:=by simp+contextual only[ij,Nb])
def a7I:dO:=(30,aUi)::aYf
def a7s:eJ a7I:=it (aN0 aXr) (a7r)
def aWo:=ai @bb9<|@a6t
section
attribute[local irreducible] aX
def a9X:=bi 18 [(1,([0],[1,4])),(8,([28],[1,4,5,6,26,27]))]
def a4C a(e:aG)(b:bu) f c:=aV (gt a 0) (iv 1) λd=>e [d] c/\b [d] c<b a f
def a4D c t1 R d b:=rV (bM aOQ aQ4 [(0,c),(2,d)]) λe=>sV (aK 15 b t1 e) λa=>aw 15 a t1 λf=>aE R a [f]
def a4E c t1 R a:=aw 15 a c λd=>fV Cg a [d] λe=>cf e λf=>ah f (fV Gf a [] λg=>fV Gf a [] λh=>cB 29 [h] a 53 (a4D g t1 R)) (aw 15 a c λi=>sV (aK 15 a t1 i) λb=>aw 15 b t1 λj=>aE R b [j])
def a4F b t1 R c a:=aB 14 a b λd=>sV (aK 1 a d c) (a4E b t1 R)
def aVF g f b t u t1 R d e c a:=∀_:Rg,aU (gt c 0) g λh=>ah h (ao 1 a f (gt c 0) λi=>aM a i λj=>ab 6 a b λk=>aV k j λl=>aB 6 a b λm=>sV (aK 1 a m l) (a4C c d e a)) (aB 7 a b λn=>aw 7 a n λo=>aB 0 a b λp=>aw 6 a p λq=>rV (AO .max t (iv 0)) λr=>rV (AO .min r (iv 16)) λs=>cB 28 [u,o,q,s,(bv U)] a 46 (a4F b t1 R))
def a4G c f g t1 R a:=aB 7 a c λd=>ab 6 a d λb=>aJ a b λe=>lV [(iv 0)] a (aVF e b c f g t1 R)
def a4H b e f t1 R c a:=aB 7 a b λd=>sV (aK 7 a d c) (a4G b e f t1 R)
def a4I b e f t1 R a:=aB 0 a b λc=>aw 6 a c λd=>cB 27 [e,d] a 22 (a4H b f e t1 R)
def aVD f e t1 R d:=∀_:Rg,rV (bM aTP O7 [(0,(gt d 0))]) λt4=>eV (qm 80 2 f 16 t4) λg c=>fV Gf c [] λh=>rV (bM aOQ aQ4 [(0,h)]) λi=>eV (bs 43 aOQ c 6) λa b=>sV (aK 15 b a i) (a4I a g e t1 R)
def aVE c a(b:cG):=aJ c a λd=>aO .gtr d (iv 400) λe=>ah e (rV (fo 1 c a J (V (iv 400)) J) λf=>b [f]) (b [a])
def a4B b c s0 R:=eV (bs 43 aOQ s0 4) λt1 a=>jR 1 (aVD a c t1 R) (aVE a b)
def bhv{a:AV}{b:AV}{R:d7}(h:H0 λs0=>a4B a b s0 R):Ct 12 [a,b] R:=z0 a9X a7s Tryz.func12 h
end
section
attribute[local irreducible] aX
def a9Y:=bi 6 []
def aVP d R k b:=aO .sub k (iv 2) λc=>aU c (iv 0) λa=>bn a 6 b d λe=>ic a c λf=>aC a (ao 1 b e f) λg=>aC a (aM b g) λh=>aC a (bf h (iv 0)) λi=>aD a (bv U) i λj=>ah j (fe R b [(iv (-1))]) (fe R b [c])
def aVO c a b R:=ab 6 b a λt4=>aJ b t4 λd=>aV d (iv 2) λe=>cB 66 [c,e] b 11 (aVP a R)
def bf5{a b:AV}{s0:ae}{R:be}(h:eV (qm 40 7 s0 3 b) λc d=>aVO a c d R):EB 67 [a,b] s0 R:=zB a9Y aPL Tryz.func67 h
def bhx{e:AV}{d:List AV}{s0:ae}{R:be}(i:L s0=4096)(l1:L d=7)(h:∀(b:ae) (c:Nat),Kp s0 b->(∀k,k≠3->aZ b k=aZ s0 k)->(∀x,box s0 (3,c)≠V x)->box b (3,c)=V ⟨40,7,U,U,[d]⟩->aVO e (.p (3,c) 0 0) b R):EB 67 [e, .a d] s0 R:=by refine bf5 ?_;refine iN rfl l1 (by decide) (by decide) i λb c l g0 m f=>?_;exact h b c l (λk g=>g0 k g) (λx j=>m x ((Kp.refl _).keep _ _ j)) f
def a90:=bi 25 [(3,([8],[0,2,7])),(6,([16],[0,2,7])),(9,([21],[0,2,7])),(14,([26],[0,2,7])),(21,([33],[0,2]))]
def a5f b R t4 a:=ao 1 a b t4 λc=>aM a c λd=>fe R a [d]
def a5g b R c a:=aV b c λd=>aO .rem d (iv 4) λe=>fe R a [e]
def aSQ d c s0 R a:=∀_:Rg,ah (gt a 0) (aV d (iv 1) λb=>cB 66 [c,(iv 3)] s0 39 (a5g b R)) (fe R s0 [(iv (-1))])
def a5i c(a:cG):=bf c (iv 20) λb=>ah b (a [b]) (bf c (iv 21) λd=>a [d])
def aSP R s0 d b c a:=∀_:Rg,ah (gt a 0) (fe R s0 [(iv 0)]) (jR 21 (aSQ d b s0 R) (a5i c))
def a5h b(a:cG):=bf b (iv 16) λc=>ah c (a [c]) (bf b (iv 17) λd=>ah d (a [d]) (bf b (iv 18) λe=>ah e (a [e]) (bf b (iv 19) λf=>ah f (a [f]) (bf b (iv 22) λg=>ah g (a [g]) (bf b (iv 23) λh=>a [h])))))
def aST R s0 d c b a:=∀_:Rg,ah (gt a 0) (fe R s0 [(iv 2)]) (jR 14 (aSP R s0 d c b) (a5h b))
def a5k b(a:cG):=bf b (iv 8) λc=>ah c (a [c]) (bf b (iv 9) λd=>ah d (a [d]) (bf b (iv 10) λe=>ah e (a [e]) (bf b (iv 11) λf=>a [f])))
def aSS a s0 R e b d:=∀_:Rg,ah (gt d 0) (cB 66 [a,(iv 2)] s0 20 λf c=>fe R c [f]) (jR 9 (aST R s0 e a b) (a5k b))
def a5j c(b:cG):=bf c (iv 6) λa=>ah a (b [a]) (bf c (iv 7) λd=>b [d])
def aSR s0 a R d b c:=∀_:Rg,ah (gt c 0) (eV (aX bH 8 s0 [(0,(iv 0)),(1,(iv 0)),(2,(iv 0)),(3,(iv 1)),(4,(iv 1)),(5,(iv 2)),(6,(iv 3)),(7,(iv 4))]) λf e=>cB 66 [a,(iv 8)] e 13 (a5f f R)) (jR 6 (aSS a s0 R d b) (a5j b))
def aSU c(b:cG):=bf c (iv 3) λa=>ah a (b [a]) (bf c (iv 4) λd=>b [d])
def aRx b a c s0 R:=jR 3 (aSR s0 b R c a) (aSU a)
def bf7{a b c:AV}{s0:ae}{R:be}(h:aRx a b c s0 R):EB 113 [a,b,c] s0 R:=zB a90 aPL Tryz.func113 h
def bhA{a:AV}{b:AV}{c:AV}{s0:ae}{R:be}(d:L s0=4096)(h:aRx a b c s0 R):EB 113 [a,b,c] s0 R:=by refine bf7 ?_;exact h
def a93:=bi 21 [(7,([24],[0,5,10]))]
def a5t b R c a:=ao 1 a b c λd=>aM a d λe=>fe R a [e]
def aQk d a R e c f:=∀_:Rg,ah (gt f 0) (cB 66 [d,(iv 3)] a 28 λi g=>fe R g [i]) (bf e (iv 5) λj=>ah j (cB 66 [d,(iv 2)] a 32 λk h=>fe R h [k]) (bf e (iv 18) λl=>ah l (aw 7 a c λm=>fV aSk a [m] λb=>aJ a b λn=>aO .gtr n (iv 0) λo=>ah o (aJ a b λp=>cB 66 [d,p] a 44 (a5t b R)) (fe R a [(iv (-1))])) (bf e (iv 19) λq=>ah q (aw 7 a c λr=>fV aSk a [r] λs=>aJ a s λt=>fe R a [t]) (fe R a [(iv 0)]))))
def a5u c(a:cG):=bf c (iv 4) λb=>ah b (a [b]) (bf c (iv 22) λd=>a [d])
def aRz g b c h a R:=bf c (iv 3) λt3=>ah t3 (ab 4 a b λi=>ao 1 a i h λj=>aM a j λk=>fe R a [k]) (bf c (iv 23) λl=>ah l (ab 5 a b λd=>ao 1 a d (iv 0) λe=>aM a e λf=>fe R a [f]) (jR 7 (aQk g a R c b) (a5u c)))
def bga{a b c d:AV}{s0:ae}{R:be}(h:eV (qm 40 7 s0 5 b) λe f=>aRz a e c d f R):EB 114 [a,b,c,d] s0 R:=zB a93 aPL Tryz.func114 h
def bhD{e:AV}{d:List AV}{f:AV}{g:AV}{s0:ae}{R:be}(l:L s0=4096)(l1:L d=7)(h:∀(b:ae) (c:Nat),Kp s0 b->(∀k,k≠5->aZ b k=aZ s0 k)->(∀x,box s0 (5,c)≠V x)->box b (5,c)=V ⟨40,7,U,U,[d]⟩->aRz e (.p (5,c) 0 0) f g b R):EB 114 [e, .a d,f,g] s0 R:=by refine bga ?_;refine iN rfl l1 (by decide) (by decide) l λb c n g0 o i=>?_;exact h b c n (λk j=>g0 k j) (λx m=>o x ((Kp.refl _).keep _ _ m)) i
def a92:=bi 11 [(4,([5,10],[0,1,8,9])),(7,([5],[0,1,8,9,10]))]
def aVY a(f:aG)(c:bu) g b d:=∀_:Rg,aV (gt a 1) (iv 1) λe=>f [(gt b 0),e] d/\c [(gt b 0),e] d<c a g
def a5s c f b t(e:aG):=ao 1 c f (gt b 1) λu=>aM c u λv=>aV (gt b 1) (iv 3) λk=>aJ c f λl=>aO .geq k l λa=>fm a t λm=>gE (gP U a) (λg=>cB 66 [m,(iv 2)] c 22 λn h=>g n h) c λo d=>az a (bf o (iv 1)) λp=>aD a p (bv I) λq=>ah q (eV (aX bH 1 d [(0,v)]) λr i=>eV (j5 3 fB 8 i 28 (gt b 0) r) λs j=>e [s] j) (e [(gt b 0)] d)
def aVZ t1 e d R c f a b:=∀_:Rg,aU (gt a 1) t1 λt4=>ah t4 (jV 7 (aVY a c f b) (a5s b e a d)) (fe R b [(gt a 0)])
def aVX b a s0 R:=aJ s0 a λt1=>lV [(.l [] U U),(iv 0)] s0 (aVZ t1 a b R)
def bf9{a b:AV}{s0:ae}{R:be}(h:aVX a b s0 R):EB 115 [a,b] s0 R:=zB a92 aPL Tryz.func115 h
def bhC{a:AV}{b:AV}{s0:ae}{R:be}(c:L s0=4096)(h:aVX a b s0 R):EB 115 [a,b] s0 R:=by refine bf9 ?_;exact h
def a5J:=bi 39 [(4,([16],[0,4,5,15])),(7,([],[0,4,5,15,16])),(10,([7],[0,4,5,6,15,16])),(17,([64],[0,4,5,63])),(20,([],[0,4,5,63,64])),(26,([],[0,4,5])),(28,([],[0,4,5])),(33,([143],[0,4,5,142]))]
def aVL a(e:aG)(b:bu) f(g:eQ) c:=∀_:Rg,aV (gt a 0) (iv 1) λd=>e [d] c/\b [d] c<b a f
def a4J e f g i h a k c l j(b:aG) d:=dH [(bo e),(bo f),(bo g),km,km,(lb I [] [14,15,16]),(lb U [i,(iv 3)] []),(lb U [h,(gt a 0)] []),(bo k),(lbV c l j)] [(0,5),(1,5),(2,5),(3,5)] (b [] d)
def a4S c b i j k h d a:=bf d (iv 3) λe=>ao 3 a c (gt b 0) λf=>aB 2 a f λg=>sV (aK 1 a g e) (a4J i j k d c b f a g e h)
def a4U b h j i c g l k n f a:=dH [(bo b),(bo h),km,km,(lb I [] [14,15,16]),(lb U [(iv 1),j] []),(lb U [i,(gt c 0)] []),(lbV g l k)] [(0,4),(1,4),(2,4)] (aB 0 a b λd=>aB 3 a d λe=>aM a e λm=>cV 66 [n,(iv 4)] a 55 (a4S m c b d e f))
def a4V c b h i j g d a:=aV (iv 1) d λe=>ao 1 a c (gt b 0) λf=>sV (aK 1 a f e) (a4U h i d c b a f e j g)
def aSI c e h g(d:aG) a:=aO .neq (gt c 0) (iv 0) λb=>fm b (gt c 0) λi=>az b (aO .neq i (iv 1)) λj=>aD b j (bv I) λk=>ah k (aB 6 a e λf=>aM a f λl=>cV 66 [h,(iv 3)] a 47 (a4V l g e f h d)) (d [] a)
def aVI a d b j e c:=∀_:Rg,aB 0 a d λf=>ab 3 a f λg=>rV (bM aNB aM7 [(0,(gt c 0))]) λh=>ao 3 a g (gt b 0) λi=>sV (aK 3 a i h) (aSI c d j b e)
def a40 d c(b:cG):=bf (gt d 0) (iv 0) λa=>fm a c λe=>az a (bf e (iv 0)) λf=>aD a f (bv I) λg=>ah g (b [(iv 1)]) (b [c])
def a4W e d b i c f a:=ao 1 a e f λg=>aM a g λh=>jR 10 (aVI a d b i c) (a40 b h)
def a4X c e a b f d:=cV 66 [c,(iv 9)] d 21 (a4W f e a c b)
def a43 c e d a b:=eV (aX bH 9 c [(0,(iv 2)),(1,(iv 2)),(2,(iv 2)),(3,(iv 2)),(4,(iv 0)),(5,(iv 1)),(6,(iv 3)),(7,(iv 4)),(8,(iv 5))]) (a4X e d a b)
def a4Z a(e:aG)(b:bu) f(g:eQ) c:=∀_:Rg,aV (gt a 0) (iv 1) λd=>e [d] c/\b [d] c<b a f
def a4Y e b(c:aG) f a:=ao 2 a e (gt b 0) λg=>aB 1 a g λh=>sV (aK 1 a h f) λd=>c [] d
def aRw(f:aG) d P g e i:=aU e (iv 0) λE=>ah E (f [] i) (bf (gt d 0) (iv 2) λh=>fm h P λF=>gE (gP U h) (λC=>cV 66 [F,(iv 2)] i 85 λG D=>C G D) i λH a=>az h (bf H (iv 1)) λK=>aD h K (bv I) λM=>ah M (aB 0 a g λN=>ab 0 a N λO=>eV (aX bH 1 a [(0,e)]) (a4Y O d f)) (bf (gt d 0) (iv 0) λc=>az c (aB 0 a g) λk=>aT c 3 a k λl=>fm c e λm=>az c (ao 3 a l m) λn=>aT c 0 a n λo=>az c (bf o (iv 3)) λp=>fm c p λb=>aC b (aB 0 a g) λq=>bn b 3 a q λr=>ic b e λs=>aC b (ao 3 a r s) λt=>bn b 0 a t λu=>aC b (bf u (iv 4)) λv=>az c (aD b (bv U) v) λw=>aD c w (bv I) λx=>ah x (f [] a) (aB 0 a g λy=>ab 0 a y λz=>ao 2 a z (gt d 0) λA=>aB 0 a A λB=>sV (aK 1 a B e) λj=>f [] j)))
def aVM a b e c d:=aw 7 a b λf=>cB 67 [e,f] a 69 (aRw d c e b)
def a4K l h i a g k j(e:aG)(b:bu) f c:=dH [(bo l),(bo h),km,km,(lb I [] [14,15,16]),(lb U [i,(gt a 0)] []),(lbV g k j)] [(0,4),(1,4),(2,4)] (aV (gt a 0) (iv 1) λd=>e [d] c/\b [d] c<b a f)
def a4L c b j i f g h d a:=ao 1 a c (gt b 0) λe=>sV (aK 1 a e d) (a4K j i c b a e d f g h)
def aSK h d m t3 R f g b a:=∀_:Rg,aU (gt b 0) h λi=>ah i (aB 4 a d λe=>aM a e λj=>cV 66 [m,(iv 3)] a 150 (a4L j b d e f g a)) (aw 7 a d λk=>sV (aK 7 a t3 k) λc=>aw 7 c t3 λl=>fe R c [l])
def aVK b f t3 R(e:eQ) a:=∀_:Rg,ab 4 a b λc=>aJ a c λd=>lV [(iv 0)] a (aSK d b f t3 R)
def a4M h d e b g f(a:aG) c:=dH [(bo h),(bo d),km,(lb I [] [14,15,16]),(lb U [e,(iv 0)] []),(lbV b g f)] [(0,3),(1,3)] (a [] c)
def a4N b g f e c a:=ao 1 a b (iv 0) λd=>sV (aK 1 a d c) (a4M g f b a d c e)
def a4O c f d a:=aB 5 a c λb=>aM a b λe=>cV 66 [f,(iv 3)] a 138 (a4N e c b d)
def aVG c i(b:aG) d a:=bf d (iv 2) λe=>ah e (aB 0 a c λf=>ab 2 a f λg=>ao 1 a g (iv 0) λh=>sV (aK 1 a h (bv U)) (a4O c i b)) (b [] a)
def a42 c b d a:=cV 66 [c,(iv 3)] b 129 (aVG d c a)
def aVJ a c t3 R(d:eQ) b:=∀_:Rg,jV 28 (aVK a c t3 R) (a42 c b a)
def a4P g(b:aG) d a:=aB 0 a g λe=>aB 1 a e λf=>sV (aK 1 a f d) λc=>b [] c
def aVH c g(b:aG) d a:=bf d (iv 2) λe=>ah e (aw 7 a c λf=>cB 67 [g,f] a 125 (a4P c b)) (b [] a)
def a41 b c d a:=cV 66 [b,(iv 3)] c 121 (aVH d b a)
def aSJ g c d t3 R e f a b:=∀_:Rg,aU (gt a 0) g λh=>ah h (jV 20 (a4Z a e f b) (aVM b c d a)) (jV 26 (aVJ c d t3 R) (a41 d b c))
def aVN g e c t3 R d f b a:=∀_:Rg,aU (gt b 0) g λh=>ah h (jV 7 (aVL b d f a) (a43 a e c b)) (aB 0 a c λi=>ab 0 a i λj=>aJ a j λk=>lV [(iv 0)] a (aSJ k c e t3 R))
def a4Q b e t3 R a:=ab 6 a b λc=>aJ a c λd=>lV [(iv 0)] a (aVN d e b t3 R)
def a4R b t3 R e c:=eV (bs 40 BF c 5) λa d=>sV (aK 7 d a e) (a4Q a b t3 R)
def a4T b c R t3 a:=aw 6 a b λd=>cB 29 [d] a 12 (a4R c t3 R)
def aSH b a c R:=eV (bs 40 BF c 4) (a4T a b R)
def bf4{b c:AV}{s0:ae}{R:be}(h:eV (qm 31 6 s0 3 c) λa d=>aSH b a d R):EB 27 [b,c] s0 R:=aTc (aBe ready (aQ9 aPL) Tryz.func27 (an:=a5J) (by kernel_rfl) (aND (show ZB aS GGV aR3 a5J Tryz.f27 [b,c] s0 R=(eV (qm 31 6 s0 3 c) λa d=>aSH b a d R) by kernel_rfl) h))
def bhw{e:AV}{d:List AV}{s0:ae}{R:be}(i:L s0=4096)(l1:L d=6)(h:∀(b:ae) (c:Nat),Kp s0 b->(∀k,k≠3->aZ b k=aZ s0 k)->(∀x,box s0 (3,c)≠V x)->box b (3,c)=V ⟨31,6,U,U,[d]⟩->aSH e (.p (3,c) 0 0) b R):EB 27 [e, .a d] s0 R:=by refine bf4 ?_;refine iN rfl l1 (by decide) (by decide) i λb c l g0 m f=>?_;exact h b c l (λk g=>g0 k g) (λx j=>m x ((Kp.refl _).keep _ _ j)) f
def a5K:=bi 13 [(4,([],[0,3,5,6,8,9,11])),(8,([],[0,3,8,9,11])),(10,([],[8,11]))]
def aSN c f R(g:eQ) a:=∀_:Rg,aw 7 a c λd=>sV (aK 7 a f d) λb=>aw 7 b f λe=>fe R b [e]
def aVQ b(c:aG) e a:=aB 6 a b λf=>sV (aK 1 a f e) λd=>c [] d
def a5c a b l m k(d:aG):=ab 1 a b λe=>bf e (iv 4) λc=>bn c 1 a b λf=>aC c (bf f (iv 22)) λg=>aD c (bv U) g λh=>ah h (ao 1 a l m λi=>aM a i λj=>cB 115 [k,j] a 95 (aVQ b d)) (d [] a)
def aQM a e R d f c(g:eQ) b:=∀_:Rg,jV 10 (aSN a e R) (a5c b a d f c)
def aSM b(f:aG) d a:=aB 5 a b λe=>sV (aK 1 a e d) λc=>f [] c
def a5e a b v x y w(f:aG):=ab 1 a b λo=>bf o (iv 5) λc=>bn c 1 a b λp=>aC c (bf p (iv 3)) λq=>ic c q λe=>bn e 1 a b λr=>aC e (bf r (iv 4)) λs=>aC c (aD e (bv U) s) λt=>ic c t λd=>aT d 0 a v λu=>aT d 2 a b λg=>az d (ao 5 a u g) λh=>aT d 2 a h λi=>az d (aO .gtr i (iv 0)) λj=>aC c (aD d j (bv I)) λk=>aD c (bv U) k λl=>ah l (ao 1 a x y λm=>aM a m λn=>cB 115 [w,n] a 80 (aSM b f)) (f [] a)
def aVR a g R c e b f d:=jV 8 (aQM a g R c e b) (a5e d a f c e b)
def a46 a h R g i f e c b:=aB 3 b a λd=>sV (aK 1 b d c) (aVR a h R g i f e)
def a47 d a c j R i k h b:=aw 7 b d λe=>ab 1 b a λf=>ab 2 b a λg=>cB 114 [c,e,f,g] b 50 (a46 a j R i k c h)
def a48 a c g i R h j f d b:=aB 2 b a λe=>sV (aK 1 b e d) (a47 c a g i R h j f)
def aSO a c f d i R h g(j:eQ) b:=∀_:Rg,ab 1 b a λe=>cB 113 [c,e,f] b 42 (a48 a d c i R h f g)
def a5d a b(d:aG):=ab 1 a b λf=>bf f (iv 1) λc=>bn c 1 a b λg=>aC c (bf g (iv 2)) λh=>aD c (bv U) h λi=>ah i (aB 4 a b λj=>sV (aK 1 a j (iv (-1))) λe=>d [] e) (d [] a)
def a49 m f g b i j h k c a l o e q R p n d:=dH [km,km,km,km,(bo m),(lb I [] [14,15,16]),(lb U [m,f] []),(bo g),km,(lb U [b,(iv 6)] []),km,(lb I [] [14,15,16]),(lb U [i,j] []),(lb U [b,h,k] []),(lb I [] [11]),(lbV c a l)] [(0,5),(1,5),(5,8),(5,9),(5,10),(0,11),(1,11),(6,11),(7,11),(8,11),(9,11),(0,14),(1,14),(2,14),(3,14),(4,14),(5,14),(6,14),(7,14),(8,14),(9,14),(10,14),(11,14),(12,14),(13,14)] (jV 4 (aSO a o b e q R p n) (a5d d a))
def a5a d l c q j k n i p R o m e h:=aV d e λf=>rV (bM y8 aOs [(0,l),(1,c),(4,f)]) λg=>eV (bs 64 y8 h 11) λa b=>sV (aK 7 b a g) (a49 q j k l d e c f b a g n i p R o m)
def a5b i h d e l R k j b a:=ao 1 a i b λc=>aM a c λf=>aO .mul h (iv 6) λg=>cV 66 [d,(iv 6)] a 26 (a5a g h f i b c d e l R k j)
def a44 b c h R g f i a:=fV aUt a [] λe=>aJ a e λd=>cV 66 [b,d] a 20 (a5b e i b c h R g f)
def a45 a b R d c f e:=cV 66 [a,(iv 4)] e 13 (a44 a b f R d c)
def aSL c a b d e R:=eV (bs 64 y8 e 8) (a45 c a R d b)
def bf6{c d e f:AV}{s0:ae}{R:be}(h:eV (qm 40 7 s0 5 d) λa g=>eV (qm 31 6 g 6 e) λb i=>aSL c a b f i R):EB 68 [c,d,e,f] s0 R:=aTc (aBe ready (aQ9 aPL) Tryz.func68 (an:=a5K) (by kernel_rfl) (aND (show ZB aS GGV aR3 a5K Tryz.f68 [c,d,e,f] s0 R=(eV (qm 40 7 s0 5 d) λa g=>eV (qm 31 6 g 6 e) λb i=>aSL c a b f i R) by kernel_rfl) h))
def bhy{j:AV}{e:List AV}{f:List AV}{l:AV}{s0:ae}{R:be}(m:L s0=4096)(l1:L e=7)(t:L f=6)(h:∀(b:ae) (c d:Nat),Kp s0 b->(∀k,k≠5->k≠6->aZ b k=aZ s0 k)->(∀x,box s0 (5,c)≠V x)->(∀x,box s0 (6,d)≠V x)->box b (5,c)=V ⟨40,7,U,U,[e]⟩->box b (6,d)=V ⟨31,6,U,U,[f]⟩->aSL j (.p (5,c) 0 0) (.p (6,d) 0 0) l b R):EB 68 [j, .a e, .a f,l] s0 R:=by refine bf6 ?_;refine iN rfl l1 (by decide) (by decide) m λw c i g0 u o=>?_;refine iN rfl t (by decide) (by decide) (i.len.trans m) λb d n g1 v q=>?_;exact h b c d (Kp.trans i n) (λk r s=>(g1 k s).trans (g0 k r)) (λx g=>u x ((Kp.refl _).keep _ _ g)) (λx g=>v x (i.keep _ _ g)) (n.keep _ _ o) q
end
def bt:(∀p:Prop,(True->p)=p)/\(∀p:Prop,(False->p)=True)/\((I=U)=False)/\((U=I)=False)/\(∀p:Prop,(p/\True)=p)/\(∀p:Prop,(True/\p)=p)/\(∀b,(U||b)=U)/\(∀b,(I||b)=b)/\(∀b,(b||U)=U)/\(∀b,(b||I)=b)/\(∀b,(U&&b)=b)/\(∀b,(I&&b)=I)/\(∀b,(b&&U)=b)/\(∀b,(b&&I)=I)/\(∀α:Sort 1,(α->True)=True):=by refine⟨λp=>by simp,λp=>by simp,by simp,by simp,λp=>by simp,λp=>by simp,by simp,by simp,by simp,by simp,by simp,by simp,by simp,by simp,by simp⟩
def aS3{Y:ae}{b:Id}{l:List Int}{a d:Nat}{n:Int}{K:be}(e:List Id)(X:L Y=4096)(A:b.1=14\/b.1=15\/b.1=16)(T:Tp Y b l a)(t:∀q∈e,(q.1=14\/q.1=15\/q.1=16)/\∃x,box Y q=V x/\x.var=I)(S:∀(x:Int) (i:Nat) j,0<=x->(1<=n->x<n)->Tp j b l i->a<=i->(a<L l->1<=n->i=a+1)->Kx [14,15,16] Y j->(∀q∈e,∀x,box Y q=V x->box j q=V x)->K (iv x) j):cV 66 [.p b 0 0,iv n] Y d K:=by have o:∀{q:Id},q.1=14\/q.1=15\/q.1=16->q.1∈[14,15,16]:=λh=>(by rcases h with h|h|h<;>simp[h]);have Z:A6 [14,15,16] (b::e) b:=⟨o A,by simp⟩;have D:b∉e:=λh=>(by obtain⟨_,x,c,w⟩:=t b h;rw[T.bx] at c;cases c;cases w);have z:∀q∈e,∀x,box Y q=V x->box (Nm [14,15,16] (b::e) Y) q=V x:=λq g x c=>(by rw[aOV (o (t q g).1),bX (by simp[g])];exact c);have C:Tp (Nm [14,15,16] (b::e) Y) b l a:=⟨by rw[aOV (o A),bX (by simp)];exact T.bx,T.le,T.ok,T.ll⟩;have aa:∀(Y':ae) (i:Nat),Tp Y' b l i->(∀q∈e,∀x,box Y q=V x->box Y' q=V x)->okB [14,15,16] (b::e) Y':=λY' i M W p v x c w q g y H=>(by rcases eW.1 v with rfl|v;rw[M.bx] at c;cases c;simp only[cE] at g;subst g;simp only[eW,ql,C8] at H;rcases H with rfl|rfl;exact .inl rfl;trivial;obtain⟨_,x',G,E⟩:=t p v;rw[W p v x' G] at c;cases c;rw[E] at w;cases w);refine aQN rfl rfl (b::e) (λx c=>?_) (aa _ _ C z) (aWF (aOr.trans X) C n) ?_;simp only[eW,ql,C8] at c;rcases c with rfl|rfl;exact Z;trivial;rintro r j ⟨x,i,rfl,N,O,k,P,R,F⟩;have m:L j=L Y:=F.len.trans aOr;have kp:∀q∈e,∀x,box Y q=V x->box j q=V x:=λq g x c=>F.keep _ _ (by simp only[cE];rintro rfl;exact D g) (z q g x c);exact⟨m,b::e,aa _ _ k kp,trivial,S x i _ N O ⟨by rw[aPT m (o A),bX (by simp)];exact k.bx,k.le,k.ok,k.ll⟩ P R Kx.mix λq g x c=>by rw[aPT m (o (t q g).1),bX (by simp[g])];exact kp q g x c⟩
def aPu{Y:ae}{b:Id}{l:List Int}{a d:Nat}{n:Int}{K:be}(m:L Y=4096)(T:Tp Y b l a)(j:∀(x:Int) (e:Nat) c,0<=x->(1<=n->x<n)->Tp c b l e->a<=e->Fx Y c [b]->K (iv x) c):cB 66 [.p b 0 0,iv n] Y d K:=a55 m T λx e c h i g k _ F=>j x e c h i g k F
def k1A{x:List AV}{y:AV}:aN J (y::x)=V y:=by cases y<;>rfl
def aTE{Y:ae}{b:Id}{l:List Int}{n:Nat}(T:Tp Y b l n){e:TypeId}{z:Nat}{a:AV}{aa:List (List AV)}(g:gm Y e z a aa):∀q∈aA a,q∉[b]:=λq c h=>by
 simp only[cE] at h;subst h
 exact aNO g q c _ T.bx rfl
def bdc{Y:ae}{b:Id}{l:List Int}{a:Nat}{x0 O x2 P R x5 a6:AV}{cnt:List Int}(A:L Y=4096)(T:Tp Y b l a)(g:gm Y 3 1 a6 (cnt.map ci))(Z:L cnt<=1000):∃r j,(∃(u:Int) (e:Nat),r=iv u/\(u= -1\/aF (L cnt) u)/\Tp j b l e/\a<=e/\Fx Y j [b])/\cZ aS GG 67 [.p b 0 0, .a [x0,O,x2,P,R,x5,a6]] Y r j:=by refine bhx A rfl λM N K2 W H t=>?_;have c:Fx Y M []:=K2.fx [];have q:=T.fx c (by simp);have m:=g.fx c (by simp);have G:((3,N):Id)∉[b]:=λh=>(by simp only[cE] at h;subst h;exact H _ T.bx);simp only[aVO,u0,u1,t,k1A,nM,ip,aj,m.ln,bJ,↓uL];rw[eM (by omega) (by omega)];refine aPu (c.len.trans A) q λu e j X F k n i=>?_;have S:=F (by omega);have w:=i.keep _ _ G t;have g1:=m.fx i (aTE q m);have z:dq.wrap (u-2)=u-2:=eM (by omega) (by omega);rcases o:Q (u-2<0) with _|_;simp only[o8] at o;have C:aF (L cnt) (u-2):=⟨by omega,by omega⟩;have D:Q (u-2<0)=I:=aPy o;simp only[aVP,u0,u1,z,D,w,k1A,nM,ip,aj,↓jA,Aa,↓uL];refine aTu g1 C λv=>?_;rcases E:Q (v=0) with _|_;simp only[u0,u1,E,bt,↓uL];exact⟨u-2,e,rfl, .inr C,k,n,c.trans i⟩;simp only[u0,u1,E,bt,↓uL];exact⟨-1,e,rfl, .inl rfl,k,n,c.trans i⟩;simp only[aVP,u0,u1,z,o,↓jN,ya,bt,↓uL];exact⟨-1,e,rfl, .inl rfl,k,n,c.trans i⟩
def baM{Y:ae}:aX bH 8 Y [(0,iv 0),(1,iv 0),(2,iv 0),(3,iv 1),(4,iv 1),(5,iv 2),(6,iv 3),(7,iv 4)]=V (.l ([0,0,0,1,1,2,3,4].map ci) U U,Y):=by kernel_rfl
section
attribute[local irreducible] aX
def bdk{Y:ae}{b:Id}{l:List Int}{a:Nat}{kd n:Int}(w:L Y=4096)(T:Tp Y b l a):∃r i,(∃(o:Int) (g:Nat),r=iv o/\(kd=3\/kd=4->0<=o/\o<5)/\Tp i b l g/\a<=g/\Fx Y i [b])/\cZ aS GG 113 [.p b 0 0,iv kd,iv n] Y r i:=by refine bhA w ?_;generalize S:(λ(r:AV) (i:ae)=>∃(o:Int) (g:Nat),r=iv o/\(kd=3\/kd=4->0<=o/\o<5)/\Tp i b l g/\a<=g/\Fx Y i [b])=R;have c:∀{o:Int} {g:Nat} {y:ae},(kd=3\/kd=4->0<=o/\o<5)->Tp y b l g->a<=g->Fx Y y [b]->R (iv o) y:=λq N O P=>(by rw[<-S];exact⟨_,_,rfl,q,N,O,P⟩);have D:¬(kd=3\/kd=4)->∀t,aSQ (iv n) (.p b 0 0) Y R [bv t]:=λe t=>(by(cases t);simp only[aSQ,au,aI,u0,u1,bt,↓uL];exact c (λh=>nl h e) T (dA _) (Fx.refl _ _);simp only[aSQ,au,aI,u0,u1,bt,↓uL];refine aPu w T λu g i A q k m j=>?_;simp only[a5g,u0,u1,aPR,aP1,↓uL];first|exact c (λh=>nl h e) k m j|exact⟨by decide,c (λh=>nl h e) k m j⟩);have C:¬(kd=3\/kd=4)->∀t,aSP R Y (iv n) (.p b 0 0) (iv kd) [bv t]:=λe t=>(by(cases t);simp only[aSP,a5i,au,u0,u1,D e,vb,y6,bt,↓uL];simp only[aSP,au,aI,u0,u1,bt,↓uL];exact c (λh=>nl h e) T (dA _) (Fx.refl _ _));have M:¬(kd=3\/kd=4)->∀t,aST R Y (iv n) (.p b 0 0) (iv kd) [bv t]:=λe t=>(by(cases t);simp only[aST,a5h,au,u0,u1,C e,vb,y6,bt,↓uL];simp only[aST,au,aI,u0,u1,bt,↓uL];exact c (λh=>nl h e) T (dA _) (Fx.refl _ _));have H:¬(kd=3\/kd=4)->∀t,aSS (.p b 0 0) Y R (iv n) (iv kd) [bv t]:=λe t=>(by(cases t);simp only[aSS,a5k,au,u0,u1,M e,vb,y6,bt,↓uL];simp only[aSS,au,aI,u0,u1,bt,↓uL];refine aPu w T λu g i A q k m j=>?_;exact c (λh=>nl h e) k m j);have v:∀t,(t=I->¬(kd=3\/kd=4))->aSR Y (.p b 0 0) R (iv n) (iv kd) [bv t]:=λt e=>(by(cases t);simp only[aSR,a5j,au,u0,u1,H (e rfl),vb,y6,bt,↓uL];have G:=@baM Y;simp only[aSR,au,aI,u0,u1,G,bt,↓uL];refine aPu w T λu g i A q k m j=>?_;have F:=q (by decide);simp only[a5f,tf,ci,qM,u0,↓uL];refine⟨⟨A,by simpa using F⟩,c (λ_=>?_) k m j⟩;have W:∀x∈([0,0,0,1,1,2,3,4]:List Int),0<=x/\x<5:=(by decide);exact W _ (dB (by simp;omega)));rcases z:Q (kd=3) with _|_;rcases E:Q (kd=4) with _|_;simp only[aRx,aSU,z,E,u0,u1,bt,↓uL];refine v I λ_=>?_;simp at z E;omega;simp only[aRx,aSU,z,E,u0,u1,bt,↓uL];exact v U (λh=>Bool.noConfusion h);simp only[aRx,aSU,z,u0,u1,bt,↓uL];exact v U (λh=>Bool.noConfusion h)
end
def aRH{c:AV}{l:List Int}(h:gK c=sl ci l):∃t o,c= .l (l.map ci) t o:=by(cases c<;>first|(simp[gK,sl] at h;done)|skip);rename_i aa t o;simp only[gK,sl,AV.l.injEq] at h;exact⟨t,o,by rw[h.1]⟩
def bdL{ds:List AV}{s:bW}(h:Lk ds s.c):∃x0 g x2 i t4 o4 e a j,ds=[x0,g,x2,i, .l (s.cells.map ci) t4 o4, .l (s.bU.map ci) e a,j]:=by have k:=oC h;obtain⟨h,_⟩:=h;rcases ds with _|⟨x0,_|⟨g,_|⟨x2,_|⟨i,_|⟨m,_|⟨x5,_|⟨j,_|⟨n,ds⟩⟩⟩⟩⟩⟩⟩⟩<;>simp at k;simp only[ji,mU,bW.c,kO] at h;obtain⟨t4,o4,rfl⟩:=aRH h.2.2.2.2.1;obtain⟨e,a,rfl⟩:=aRH h.2.2.2.2.2.1;exact⟨_,_,_,_,_,_,_,_,_,rfl⟩
def bdD{Y:ae}{b:Id}{l:List Int}{a:Nat}{ds:List AV}{s:bW}{kd ob:Int}(hl:L Y=4096)(T:Tp Y b l a)(n:Lk ds s.c)(hs:L s.bm.ay<1000)(S:kd=3->aF (L s.cells) ob)(ao:0<L s.bU):∃r h,(∃(v:Int) (e:Nat),r=iv v/\Tp h b l e/\a<=e/\Fx Y h [b])/\cZ aS GG 114 [.p b 0 0, .a ds,iv kd,iv ob] Y r h:=by refine bhD hl (oC n) λF v5 K2 ap nf C=>?_;generalize hR:(λ(r:AV) (h:ae)=>∃(v:Int) (e:Nat),r=iv v/\Tp h b l e/\a<=e/\Fx Y h [b])=R;have N:Fx Y F []:=K2.fx [];have A:=T.fx N (by simp);have q:=N.len.trans hl;have i:∀{v:Int} {e:Nat} {y:ae},Tp y b l e->a<=e->Fx F y [b]->R (iv v) y:=λh2 S h4=>(by rw[<-hR];exact⟨_,_,rfl,h2,S,N.trans h4⟩);have g:∀{v:Int},R (iv v) F:=i A (dA _) (Fx.refl _ _);obtain⟨x0,x1,x2,x3,t4,o4,Z,W,x6,rfl⟩:=bdL n;have G:∀{Y:ae},dG Y (.a [x0,x1,x2,x3, .l (s.cells.map ci) t4 o4, .l (s.bU.map ci) Z W,x6])= .a s.c:=λ{Y}=>n.arg Y;have Bi:aN (V 7) [x0,x1,x2,x3, .l (s.cells.map ci) t4 o4, .l (s.bU.map ci) Z W,x6]=V (.a [x0,x1,x2,x3, .l (s.cells.map ci) t4 o4, .l (s.bU.map ci) Z W,x6]):=rfl;have j:∀{Y:ae} {l:List Int},fS Y (sl ci l)=V (iv (L l)):=cT;have af:∀t,aQk (.p b 0 0) F R (iv kd) (.p (5,v5) 0 0) [bv t]:=λt=>(by(cases t);rcases E:Q (kd=5) with _|_;rcases z:Q (kd=18) with _|_;rcases H:Q (kd=19) with _|_;simp only[aQk,au,aI,E,z,H,u0,u1,↓iB,bt,↓uL];exact g;simp only[aQk,au,aI,E,z,H,u0,u1,↓iB,↓iC,C,Bi,ip,aPg,ar,G,bt,↓uL];refine⟨hs,?_⟩;rintro _ ⟨w,rfl,hw⟩;refine⟨by rw[lo,nA];simp[x9 n],?_⟩;simp only[j,u0,↓uL];exact g;simp only[aQk,au,aI,E,z,u0,u1,↓iB,↓iC,C,Bi,ip,aPg,ar,G,bt,↓uL];refine⟨hs,?_⟩;rintro _ ⟨w,rfl,hw⟩;refine⟨by rw[lo,nA];simp[x9 n],?_⟩;rcases X:Q ((0:Int)<(L w:Int)) with _|_;simp only[j,u0,u1,X,↓iB,↓uL];exact g;simp only[j,u0,u1,X,↓iC,↓uL];simp only[lS] at X;refine aPu q A λu e h O P m o k=>?_;have ad:=P (by omega);simp only[a5t,amX,ci,qM,u0,↓uL];exact⟨⟨O,ad⟩,i m o k⟩;simp only[aQk,au,aI,E,u0,u1,↓iC,bt,↓uL];exact aPu q A λu e h O P m o k=>i m o k;simp only[aQk,au,aI,u0,u1,bt,↓uL];exact aPu q A λu e h O P m o k=>i m o k);rcases D:Q (kd=3) with _|_;rcases M:Q (kd=23) with _|_;simp only[aRz,a5u,D,M,u0,u1,↓iB,af,vb,y6,↓uL];simp only[aRz,D,M,u0,u1,↓iB,↓iC,C,k1A,nM,ip,aj,tf,ci,qM,↓uL];exact⟨⟨by omega,by omega⟩,g⟩;simp only[aRz,D,u0,u1,↓iC,C,k1A,nM,ip,aj,tf,ci,qM,↓uL];exact⟨S (by simpa using D),g⟩
def aS1{Y:ae}{n:Int}:aX bH 1 Y [(0,iv n)]=V (.l ([n].map ci) U U,Y):=iz
def bdv{Y:ae}{b:Id}{l j:List Int}{a:Nat}{x:AV}(E:L Y=4096)(hb:b.1≠28)(T:Tp Y b l a)(g:gm Y 3 1 x (j.map ci))(hn:L j<=1000):∃r n,(∃(m:List Int) (e:Nat),gm n 3 1 r (m.map ci)/\L m<=L j/\Tp n b l e/\a<=e/\Fx Y n [b]/\∀q∈aA r,bK Y q/\q.1=28)/\cZ aS GG 115 [.p b 0 0,x] Y r n:=by refine bhC E ?_;generalize hR:(λ(r:AV) (n:ae)=>∃(m:List Int) (e:Nat),gm n 3 1 r (m.map ci)/\L m<=L j/\Tp n b l e/\a<=e/\Fx Y n [b]/\∀q∈aA r,bK Y q/\q.1=28)=R;simp only[aVX,g.ln,bJ,u0,↓uL];refine jD (α:=AV) (λa i=>[a,iv i]) 1 (L j) (λk c y=>Fx Y y [b]/\(∃e,Tp y b l e/\a<=e)/\∃m:List Int,L m<=k/\gm y 3 1 c (m.map ci)/\∀q∈aA c,bK Y q/\q.1=28) (s0:= .l [] U U) ⟨Fx.refl _ _,⟨a,T,dA _⟩,[],by simp, .inl ⟨rfl,rfl⟩,by simp[aA]⟩ ?_;rintro k c y hk ⟨F,⟨e,C,Z⟩,m,hm,D,w⟩;have aa:=F.len.trans E;rcases H:Q ((k:Int)<(L j:Int)) with _|_;simp only[aVZ,aI,au,u0,u1,H,↓iB,↓uL];rw[<-hR];exact⟨m,e,D,by omega,C,Z,F,w⟩;have v:k<L j:=RF.1 (nt H);have W:=g.fx F (aTE T g);have ek:dq.wrap ((k:Int)+3)=(k:Int)+3:=eM (by omega) (by omega);have G:∀{o:AV} {z:ae} {m':List Int} {e:Nat},Fx Y z [b]->Tp z b l e->a<=e->L m'<=k+1->gm z 3 1 o (m'.map ci)->(∀q∈aA o,bK Y q/\q.1=28)->aVY [c,iv k] (yI (λa i=>[a,iv i]) (L j) (λk c y=>Fx Y y [b]/\(∃e,Tp y b l e/\a<=e)/\∃m:List Int,L m<=k/\gm y 3 1 c (m.map ci)/\∀q∈aA c,bK Y q/\q.1=28)) (gM 1 (L j)) y [o] z:=λ{o z m' e} F T X h2 g p=>(by simp only[aVY,aI,au,u0,u1,↓uL];exact dR (mk:=λ(a:AV) i=>[a,iv i]) (s:=c) (s':=o) (λ_ _=>rfl) v (by omega) ⟨F,⟨_,T,X⟩,m',h2,g,p⟩);simp only[aVZ,aI,au,u0,u1,H,↓iC,a5s,↓uL];refine(O1.of W).ix1 (c:=iv (gd j k)) (by rw[ve,eC v,bT v];rfl) λp _=>?_;simp only[W.ln,bJ,ek,u0,u1,↓uL];rcases q2:Q ((L j:Int)<=(k:Int)+3) with _|_;simp only[u0,↓jN,Aa,bt,↓uL];exact G F C Z (by omega) D w;simp only[u0,↓jA,ya,↓uL];refine aPu (d:=22) aa C λu a2 y2 h0 X P al M=>?_;have S:=D.fx M (aTE C D);have A:=(F.trans M).mono (ks':=[b]) λq t=> .inl (by simpa using t);rcases q3:Q (u=1) with _|_;simp only[u0,u1,q3,bt,↓uL];exact G A P (by omega) (by omega) S w;simp only[u0,u1,q3,aS1,bt,↓uL];refine apQ S (A.len.trans E) pU pU (by simp) (by simp;omega) λo y3 g3 N O=>?_;have nb:b∉aA c:=λh=>hb (w b h).2;refine G (m':=m++[gd j k]) ((A.trans N).mono λq t=>?_) (P.fx N nb) (by omega) (by simp;omega) (by rw[dg];exact g3.p) λq t=>⟨(O q t).1.old A,(O q t).2⟩;rcases dF.1 t with h|h;exact .inl h;exact .inr (w q h).1.no
structure Rds(Y:ae)(B:Id)(f:Nat->AV)(m:Nat):Prop where
 bx:box Y B=V ⟨38,1,U,U,io 4 λi=>[f i]⟩
 gr:∀i,i<4->∃ns:List Int,L ns<=m/\gm Y 3 1 (f i) (ns.map ci)
 dj:∀i j,i<4->j<4->i≠j->∀q∈aA (f i),q∉aA (f j)
 pl:∀i,i<4->∀q∈aA (f i),q.1=47\/q.1=103
def Rds.kx{Y Y':ae}{B:Id}{f:Nat->AV}{m:Nat}{ks:List Nat}(O:Rds Y B f m)(k:Kx ks Y Y')(h:B.1∉ks/\47∉ks/\103∉ks):Rds Y' B f m:=⟨k.keep _ _ h.1 O.bx,λi a=>by obtain⟨n,c,g⟩:=O.gr i a;exact⟨n,c,k.gr g λq j=>by rcases O.pl i a q j with e|e<;>rw[e]<;>first|exact h.2.1|exact h.2.2⟩,O.dj,O.pl⟩
def Rds.fx{Y Y':ae}{B:Id}{f:Nat->AV}{m:Nat}{c:List Id}(O:Rds Y B f m)(F:Fx Y Y' c)(h:∀q∈c,q≠B/\q.1≠47/\q.1≠103):Rds Y' B f m:=⟨F.keep _ _ (λe=>(h _ e).1 rfl) O.bx,λi g=>by obtain⟨o,j,k⟩:=O.gr i g;exact⟨o,j,k.fx F λq n e=>by rcases O.pl i g q n with a|a<;>first|exact(h q e).2.1 a|exact(h q e).2.2 a⟩,O.dj,O.pl⟩
def Rds.rd{Y:ae}{B:Id}{f:Nat->AV}{m:Nat}(O:Rds Y B f m){u:Int}(h:0<=u/\u<4){K:d7}(g:K (f u.toNat)):rV (cz 1 Y (.m B 4) (iv u)) λp=>rV (kb J Y p) K:=by have a:u.toNat<4:=(by omega);have c:cz 1 Y (.m B 4) (iv u)=V (.p B u.toNat 0):=(by simp[cz,h.1,O.bx,a]);have e:kb J Y (.p B u.toNat 0)=V (f u.toNat):=(by simp[kb,iE,O.bx,uU a,aN]);rw[c,aY,e,aY];exact g
structure EvS(Y x:ae)(b:Id)(l:List Int)(a0 v5 v6 v8 v11:Nat)(ds:List AV)(B:Id)(f:Nat->AV)(u kd ob va st:Int)(dp fr:AV):Prop where
 bx:box x (11,v11)=V ⟨64,7,U,U,[[iv u,iv kd,iv ob,iv va,iv st,dp,fr]]⟩
 b8:box x (8,v8)=V ⟨64,7,U,U,[y8]⟩
 b5:box x (5,v5)=V ⟨40,7,U,U,[ds]⟩
 b6:box x (6,v6)=V ⟨31,6,U,U,[dE.c]⟩
 tp:∃a',Tp x b l a'/\a0<=a'
 kx:Kx [14,15,16] Y x
 pb:b.1=14\/b.1=15\/b.1=16
 gd:∃m:List Int,L m<=1000/\gm x 3 1 dp (m.map ci)
 gf:∃m:List Int,L m<=1000/\gm x 3 1 fr (m.map ci)
 pd:∀q∈aA dp,q.1=28/\∀z,box Y q≠V z
 pf:∀q∈aA fr,q.1=28/\∀z,box Y q≠V z
 rd:Rds x B f 1000
 pB:B.1=20
 no:(∀z,box Y (11,v11)≠V z)/\∀z,box Y (8,v8)≠V z
section
variable{Y x y:ae}{b B:Id}{l:List Int}{a0 v5 v6 v8 v11 d:Nat}{ds:List AV}{f:Nat->AV}{u kd ob va st:Int}{dp fr:AV}{K:be}{KS:ae->Prop}
def EvS.le(E:EvS Y x b l a0 v5 v6 v8 v11 ds B f u kd ob va st dp fr)(h:L Y=4096):L x=4096:=E.kx.len.trans h
def EvS.nx(E:EvS Y x b l a0 v5 v6 v8 v11 ds B f u kd ob va st dp fr)(F:Fx x y [b]){i:Nat}(T:Tp y b l i)(h:a0<=i):EvS Y y b l a0 v5 v6 v8 v11 ds B f u kd ob va st dp fr:=by have n:=E.pb;have c:∀{q:Id},q.1≠14->q.1≠15->q.1≠16->q∉[b]:=λj k r e=>(by simp at e;subst e;omega);obtain⟨m,j,g1⟩:=E.gd;obtain⟨p,k,o⟩:=E.gf;have g:∀{q:Id},q.1=28->q∉[b]:=λh=>c (by omega) (by omega) (by omega);exact⟨F.keep _ _ (c (by simp) (by simp) (by simp)) E.bx,F.keep _ _ (c (by simp) (by simp) (by simp)) E.b8,F.keep _ _ (c (by simp) (by simp) (by simp)) E.b5,F.keep _ _ (c (by simp) (by simp) (by simp)) E.b6,⟨i,T,h⟩,E.kx.fx F λq a=> .inl (by simp at a;subst a;rcases n with e|e|e<;>simp[e]),n,⟨m,j,g1.fx F λq a=>g (E.pd q a).1⟩,⟨p,k,o.fx F λq a=>g (E.pf q a).1⟩,E.pd,E.pf,E.rd.fx F (λq a=>by simp at a;subst a;exact⟨λe=>by have:=E.pB;rw[<-e] at this;omega,by omega,by omega⟩),E.pB,E.no⟩
def EvS.set(E:EvS Y x b l a0 v5 v6 v8 v11 ds B f u kd ob va st dp fr)(F:Fx x y [(11,v11)]){j n k:Int}{c g:AV}(G:box y (11,v11)=V ⟨64,7,U,U,[[iv u,iv kd,iv j,iv n,iv k,c,g]]⟩)(gd:∃m:List Int,L m<=1000/\gm x 3 1 c (m.map ci))(w:∃m:List Int,L m<=1000/\gm x 3 1 g (m.map ci))(p:∀q∈aA c,q.1=28/\∀z,box Y q≠V z)(r:∀q∈aA g,q.1=28/\∀z,box Y q≠V z):EvS Y y b l a0 v5 v6 v8 v11 ds B f u kd j n k c g:=by obtain⟨m,A,g1⟩:=gd;obtain⟨H,C,v⟩:=w;obtain⟨t,T,D⟩:=E.tp;have o:=E.pb;have i:∀{q:Id},q.1=28->q∉[((11,v11):Id)]:=λh e=>(by simp at e;subst e;simp at h);exact⟨G,F.kq E.b8,F.kq E.b5,F.kq E.b6,⟨t,T.fx F (λe=>by simp at e;subst e;simp at o),D⟩,E.kx.fx F (λq a=> .inr (by simp at a;subst a;exact E.no.1)),o,⟨m,A,g1.fx F λq a=>i (p q a).1⟩,⟨H,C,v.fx F λq a=>i (r q a).1⟩,p,r,E.rd.fx F (λq a=>by simp at a;subst a;exact⟨λe=>by have:=E.pB;rw[<-e] at this;simp at this,by simp,by simp⟩),E.pB,E.no⟩
def a56(E:EvS Y x b l a0 v5 v6 v8 v11 ds B f u kd ob va st dp fr)(n:L Y=4096){j:Nat}(k:j<4)(i:∀r y,EvS Y y b l a0 v5 v6 v8 v11 ds B f u kd ob va st dp fr->(∃m:List Int,L m<=1000/\gm y 3 1 r (m.map ci))->(∀q∈aA r,q.1=28/\∀z,box Y q≠V z)->K r y):cB 115 [.p b 0 0,f j] x d K:=by obtain⟨C,h,g⟩:=E.rd.gr j k;obtain⟨v,T,A⟩:=E.tp;refine jH rfl (bdv (E.le n) (by have:=E.pb;omega) T g h) ?_;rintro r y ⟨m,a2,e,w,c,t,F,p⟩;exact⟨F.len,i r y (E.nx F c (by omega)) ⟨m,by omega,e⟩ λq a=>⟨(p q a).2,λz o=>(p q a).1.no z (E.kx.keep _ _ (by rw[(p q a).2];decide) o)⟩⟩
end
def bcs{Y:ae}{e h i j k:Int}{dp fr:AV}{m n:List Int}(g:gm Y 3 1 dp (m.map ci))(o:gm Y 3 1 fr (n.map ci)):aOo Y (.a [iv e,iv h,iv i,iv j,iv k,dp,fr])= .a (aP.mk e h i j k m n).c:=by show AV.a (List.map gK (List.map (gi Y) _))=_;have p:=a6r g;have q:=a6r o;simp only[ji,mU,p,q];rfl
def bdf{Y:ae}{b B:Id}{l:List Int}{a:Nat}{ds:List AV}{s:bW}{f:Nat->AV}(w:L Y=4096)(hb:b.1=14\/b.1=15\/b.1=16)(hB:B.1=20)(T:Tp Y b l a)(hL:Lk ds s.c)(hs:L s.bm.ay<1000)(h3:L s.cells=5)(bu:0<L s.bU)(O:Rds Y B f 1000):∃r Y1,(∃(e:aP) (v:Nat),r= .a e.c/\EvL e/\(0<=e.aq/\e.aq<4)/\Tp Y1 b l v/\a<=v/\(a<L l->a+1<=v)/\Kx [14,15,16] Y Y1)/\cZ aS GG 68 [.p b 0 0, .a ds, .a dE.c, .m B 4] Y r Y1:=by generalize hQ:(λ(r:AV) (y:ae)=>∃(e:aP) (v:Nat),aOo y r= .a e.c/\EvL e/\(0<=e.aq/\e.aq<4)/\Tp (kills y (aNW r)) b l v/\a<=v/\(a<L l->a+1<=v)/\Kx [14,15,16] Y (kills y (aNW r)))=Qq;refine aQR (R:=Qq) ?_ (λr y h=>by rw[<-hQ] at h;exact h);refine bhy w (oC hL) rfl λs4 v5 v6 K4 cG cH cI b5 b6=>?_;have F4:Fx Y s4 []:=K4.fx [];have bG:=F4.len.trans w;simp only[aSL];refine so bG λv8 s6 P N8 b8=>?_;have X:=F4.trans P;have K6:Kx [14,15,16] Y s6:=X.kx (by simp);have bH:=X.len.trans w;have n8:∀z,box Y (8,v8)≠V z:=(N8.old F4).no;simp only[a45];refine aS3 [] bH hb (T.fx X (by simp)) (by simp) λu a1 s8 bO bQ T8 ct bK K8 _=>?_;have hu:0<=u/\u<4:=⟨bO,bQ (by decide)⟩;have ax:Kx [14,15,16] Y s8:=K6.kx K8 (by simp);have bI:=ax.len.trans w;simp only[a44,aPg,ar,↓uL];rintro _ ⟨t,o,rfl⟩;refine⟨by rw[lo,nA];simp,?_⟩;simp only[bdM,u0,↓uL];refine aS3 [] bI hb T8 (by simp) λk a2 b0 bD bF bk cu cw av _=>?_;have hk:aF (L aTp) k:=⟨bD,by have:=bF (by decide);simpa using this⟩;have Z:Kx [14,15,16] Y b0:=ax.kx av (by simp);have aY:=Z.len.trans w;simp only[a5b,tf,ci,qM,u0,u1,↓uL];refine⟨hk,?_⟩;generalize gd aTp k.toNat=kd;refine aS3 [] aY hb bk (by simp) λst a3 aL cy cF bl cv cx aw _=>?_;have H:Kx [14,15,16] Y aL:=Z.kx aw (by simp);have aZ:=H.len.trans w;have bB:∀{u k st:Int},bM y8 aOs [(0,iv u),(1,iv k),(4,iv st)]=V (.a [iv u,iv k,iv 0,iv 0,iv st, .l [] U U, .l [] U U]):=λ{u k st}=>rfl;simp only[a5a,bB,u0,u1,↓uL];generalize dq.wrap (dq.wrap (u*6)+st)=site;refine so aZ λv11 cJ ap az bn=>?_;refine qr bn rfl rfl λA au br=>?_;have aE:∀z,box Y (11,v11)≠V z:=H.no (by simp) az.no;have aa:Kx [14,15,16] Y A:=(H.fx ap (by simp)).fx au λq j=> .inr (by simp at j;subst j;exact aE);have N:Fx aL A []:=(ap.trans au).mono λq j=>(by simp at j;subst j;exact .inr az.no);have kk:∀{q:Id} {z:bY},q.1≠14->q.1≠15->q.1≠16->box s6 q=V z->box A q=V z:=λh1 S h3 h=>N.kq (aw.keep _ _ (by simp[h1,S,h3]) (av.keep _ _ (by simp[h1,S,h3]) (K8.keep _ _ (by simp[h1,S,h3]) h)));simp only[a49];refine dT (by simp[eL,lb,lbV,cD,dC,dK]) ?_;have E:EvS Y A b l a3 v5 v6 v8 v11 ds B f u kd 0 0 site (.l [] U U) (.l [] U U):=⟨br,kk (by simp) (by simp) (by simp) b8,kk (by simp) (by simp) (by simp) (P.kq b5),kk (by simp) (by simp) (by simp) (P.kq b6),⟨a3,bl.fx N (by simp),dA _⟩,aa,hb,⟨[],by simp, .inl ⟨rfl,rfl⟩⟩,⟨[],by simp, .inl ⟨rfl,rfl⟩⟩,by simp[aA],by simp[aA],O.kx aa ⟨by rw[hB];decide,by decide,by decide⟩,hB,aE,n8⟩;have aX:a<L l->a+1<=a3:=λh=>(by have:=bK h (by decide);omega);have ch:a<=a3:=(by omega);have aC:u.toNat<4:=(by omega);have r7:=@r7A;have uQ:aN (V 7) ds=V (.a ds):=(by have:=oC hL;simp[aN,this,oB (aSp this)]);have aD:∀{x ob va st dp fr},EvS Y x b l a3 v5 v6 v8 v11 ds B f u kd ob va st dp fr->aSN (.p (11,v11) 0 0) (.p (8,v8) 0 0) Qq [] x:=λ{x ob va st dp fr} E=>(by simp only[aSN,aI,u0,u1,E.bx,r7,ip,↓uL];refine qr E.b8 rfl rfl λy F b=>?_;simp only[b,u0,u1,r7,↓uL];obtain⟨m,h1,g1⟩:=E.gd;obtain⟨m2,S,g2⟩:=E.gf;have aG:∀{q:Id},q.1=28->q∉[((8,v8):Id)]:=λh e=>(by simp at e;subst e;simp at h);have y1:=g1.fx F λq j=>aG (E.pd q j).1;have y2:=g2.fx F λq j=>aG (E.pf q j).1;obtain⟨v,T',bA⟩:=E.tp;have ei:aNW (.a [iv u,iv kd,iv ob,iv va,iv st,dp,fr])=aA dp++aA fr:=(by have i1:=aQX y1;have i2:=aQX y2;have e0:∀{n:Int},iR (iv n)=[]:=rfl;simp only[aNW,eB,Cz,RN,i1,i2,e0,dW,cL]);have nb:∀q∈aA dp++aA fr,q.1=28/\∀z,box Y q≠V z:=λq j=>(by rcases dF.1 j with h|h;exact E.pd q h;exact E.pf q h);have bL:=E.pb;show Qq (.a [iv u,iv kd,iv ob,iv va,iv st,dp,fr]) y;rw[<-hQ];refine⟨_,v,bcs y1 y2,⟨h1,S⟩,hu,?_,by omega,λh=>by have:=aX h;omega,?_⟩;rw[ei];exact(T'.fx F (λe=>by simp at e;subst e;simp at bL)).fx (aOp _ _) λe=>(by have:=(nb _ e).1;omega);rw[ei];exact(E.kx.fx F (λq j=> .inr (by simp at j;subst j;exact E.no.2))).fx (aOp _ _) λq j=> .inr (nb q j).2);have j8:∀{x ob va st dp fr},EvS Y x b l a3 v5 v6 v8 v11 ds B f u kd ob va st dp fr->aQM (.p (11,v11) 0 0) (.p (8,v8) 0 0) Qq (.m B 4) (iv u) (.p b 0 0) [] x:=λ{x ob va st dp fr} E=>(by have go:rV (cz 1 x (.m B 4) (iv u)) λC=>rV (kb J x C) λD=>cB 115 [.p b 0 0,D] x 95 (aVQ (.p (11,v11) 0 0) (aSN (.p (11,v11) 0 0) (.p (8,v8) 0 0) Qq)):=(by refine E.rd.rd hu ?_;refine a56 E w aC λr y i gr pr=>?_;have cr:eY r=V [r]:=(by obtain⟨m,_,g⟩:=gr;exact g.ce);simp only[aVQ,u0,u1,i.bx,aj,↓uL];refine A0 i.bx cr (by simp) λz F b=>?_;exact aD (i.set F b i.gd gr i.pd pr));simp only[aQM,aI,di,a5c,↓uL];rcases M:Q (kd=4) with _|_;rcases aJ:Q (kd=22) with _|_;simp only[u0,u1,E.bx,k1A,nM,ip,aj,M,aJ,↓jA,bt,↓uL];exact aD E;simp only[u0,u1,E.bx,k1A,nM,ip,aj,M,aJ,↓jA,bt,↓uL];exact go;simp only[u0,u1,E.bx,k1A,nM,ip,aj,M,↓jN,ya,bt,↓uL];exact go);have k8:∀{x ob va st dp fr},EvS Y x b l a3 v5 v6 v8 v11 ds B f u kd ob va st dp fr->(kd=3\/kd=4->0<=ob/\ob<5)->aVR (.p (11,v11) 0 0) (.p (8,v8) 0 0) Qq (.m B 4) (iv u) (.p b 0 0) (.p (6,v6) 0 0) x:=λ{x ob va st dp fr} E ho=>(by have go:rV (cz 1 x (.m B 4) (iv u)) λC=>rV (kb J x C) λD=>cB 115 [.p b 0 0,D] x 80 (aSM (.p (11,v11) 0 0) (aQM (.p (11,v11) 0 0) (.p (8,v8) 0 0) Qq (.m B 4) (iv u) (.p b 0 0))):=(by refine E.rd.rd hu ?_;refine a56 E w aC λr y i gr pr=>?_;have cr:eY r=V [r]:=(by obtain⟨m,_,g⟩:=gr;exact g.ce);simp only[aSM,u0,u1,i.bx,aj,↓uL];refine A0 i.bx cr (by simp) λz F b=>?_;exact j8 (i.set F b gr i.gf pr i.pf));have ag:aN J dE.c=V (sl cA.c dE.cells):=rfl;have bC:L dE.cells=5:=rfl;have ak:(kd=3\/kd=4)->rV (cz 5 x (sl cA.c dE.cells) (iv ob)) λbc=>rV (iQ 2 x bc) λt=>rV (kb J x t) λbd=>rV (wl .gtr 0 [] bd (iv 0)) λbe=>ah be (rV (cz 1 x (.m B 4) (iv u)) λC=>rV (kb J x C) λD=>cB 115 [.p b 0 0,D] x 80 (aSM (.p (11,v11) 0 0) (aQM (.p (11,v11) 0 0) (.p (8,v8) 0 0) Qq (.m B 4) (iv u) (.p b 0 0)))) (aQM (.p (11,v11) 0 0) (.p (8,v8) 0 0) Qq (.m B 4) (iv u) (.p b 0 0) [] x):=λh=>(by have h5:=ho h;simp only[aCd,u0,u1,cA.c,aC6,nM,ip,k1A,↓uL];refine⟨⟨h5.1,by rw[bC];exact h5.2⟩,λ_=>go,λ_=>j8 E⟩);simp only[aVR,di,a5e,↓uL];rcases q5:Q (kd=5) with _|_;rcases q3:Q (kd=3) with _|_;rcases M:Q (kd=4) with _|_;simp only[u0,u1,E.bx,k1A,nM,ip,aj,q5,q3,M,↓jA,↓jN,Aa,bt,↓uL];exact j8 E;simp only[u0,u1,E.bx,E.b6,k1A,ag,nM,ip,aj,q5,q3,M,↓jA,ya,Aa,bt,↓uL];exact ak (.inr (by simpa using M));simp only[u0,u1,E.bx,E.b6,k1A,ag,nM,ip,aj,q5,q3,↓jA,↓jN,ya,Aa,↓uL];exact ak (.inl (by simpa using q3));simp only[u0,u1,E.bx,k1A,nM,ip,aj,q5,↓jN,ya,bt,↓uL];exact go);have j4:∀{x st},EvS Y x b l a3 v5 v6 v8 v11 ds B f u kd 0 0 st (.l [] U U) (.l [] U U)->aSO (.p (11,v11) 0 0) (.p b 0 0) (iv u) (.p (5,v5) 0 0) (.p (8,v8) 0 0) Qq (.m B 4) (.p (6,v6) 0 0) [] x:=λ{x st} E=>(by simp only[aSO,aI,u0,u1,E.bx,k1A,nM,ip,aj,↓uL];obtain⟨v,T',bA⟩:=E.tp;refine jH rfl (bdk (E.le w) T') ?_;rintro _ y ⟨ob,a2,rfl,ho,T2,S,F2⟩;refine⟨F2.len,?_⟩;have i:=E.nx F2 T2 (by omega);simp only[a48,u0,u1,i.bx,aj,↓uL];refine A0 i.bx rfl (by simp) λz Fz bz=>?_;have W:=i.set Fz bz i.gd i.gf i.pd i.pf;obtain⟨a5,T5,h5⟩:=W.tp;simp only[a47,u0,u1,W.bx,W.b5,uQ,k1A,nM,ip,aj,↓uL];refine jH rfl (bdD (W.le w) T5 hL hs (λh=>?_) bu) ?_;rw[h3];exact ho (.inl h);rintro _ y2 ⟨va,a6,rfl,T6,h6,P⟩;refine⟨P.len,?_⟩;have G:=W.nx P T6 (by omega);simp only[a46,u0,u1,G.bx,aj,↓uL];refine A0 G.bx rfl (by simp) λz2 bi bq=>?_;exact k8 (G.set bi bq G.gd G.gf G.pd G.pf) ho);have aB:rV (iQ 4 A (.p (11,v11) 0 0)) λt=>sV (aK 1 A t (iv (-1))) λs=>aSO (.p (11,v11) 0 0) (.p b 0 0) (iv u) (.p (5,v5) 0 0) (.p (8,v8) 0 0) Qq (.m B 4) (.p (6,v6) 0 0) [] s:=(by simp only[u0,u1,E.bx,aj,↓uL];refine A0 E.bx rfl (by simp) λz F bz=>?_;exact j4 (E.set F bz E.gd E.gf E.pd E.pf));simp only[di,a5d,↓uL];rcases q1:Q (kd=1) with _|_;rcases q2:Q (kd=2) with _|_;simp only[u0,u1,E.bx,k1A,nM,ip,aj,q1,q2,↓jA,bt,↓uL];exact j4 E;simp only[u0,u1,E.bx,k1A,nM,ip,aj,q1,q2,↓jA,bt,↓uL];have:=aB;simp only[u0,u1,E.bx,aj,↓uL] at this;exact this;simp only[u0,u1,E.bx,k1A,nM,ip,aj,q1,↓jN,ya,bt,↓uL];have:=aB;simp only[u0,u1,E.bx,aj,↓uL] at this;exact this
def bcM{Y:ae}{e n:TypeId}{z v:Nat}{a k:AV}{r t:List (List AV)}(g:gm Y e z a r)(o:gm Y n v k t)(h:e≠n):∀q∈aA k,q∉aA a:=λq i j=>by
 rcases g with⟨_,rfl⟩|⟨b,m,rfl,p⟩
 ·simp[aA] at j
 rcases o with⟨_,rfl⟩|⟨w,m',rfl,c⟩
 ·simp[aA] at i
 simp only[aA,cE] at j i
 subst j i
 rw[p] at c;exact h (aC2 bY.elem (Option.some.inj c))
def gm.fn{Y Y':ae}{e c:TypeId}{z m:Nat}{a i:AV}{r k:List (List AV)}(j:gm Y c m i k)(F:Fx Y Y' (aA a))(g:gm Y e z a r)(h:e≠c:=by decide):gm Y' c m i k:=j.fx F (bcM g j h)
section
variable{Y x y:ae}{s:bW}{a1 a2 a3 a4 a5 a6:AV}{KS:ae->Prop}
def SnL.keep(S:SnL Y x s a1 a2 a3 a4 a5 a6){c:List Id}(F:Fx x y c)(h:∀q∈c,q.1≠6/\q.1≠32/\q.1≠10/\q.1≠14):SnL Y y s a1 a2 a3 a4 a5 a6:=⟨S.g1.fx F λq a e=>(h q e).1 (S.p1 q a).2,S.g2.fx F λq a e=>(h q e).1 (S.p2 q a).2,S.g3.fx F λq a e=>(h q e).1 (S.p3 q a).2,S.g4.fx F λq a e=>(h q e).2.1 (S.p4 q a).2,S.g5.fx F λq a e=>(h q e).2.2.1 (S.p5 q a).2,S.g6.fx F λq a e=>(h q e).2.2.2 (S.p6 q a).2,S.p1,S.p2,S.p3,S.p4,S.p5,S.p6⟩
def SnL.old{a:ae}{c:List Id}(S:SnL Y x s a1 a2 a3 a4 a5 a6)(F:Fx a Y c):SnL a x s a1 a2 a3 a4 a5 a6:=⟨S.g1,S.g2,S.g3,S.g4,S.g5,S.g6,λq h=>⟨(S.p1 q h).1.old F,(S.p1 q h).2⟩,λq h=>⟨(S.p2 q h).1.old F,(S.p2 q h).2⟩,λq h=>⟨(S.p3 q h).1.old F,(S.p3 q h).2⟩,λq h=>⟨(S.p4 q h).1.old F,(S.p4 q h).2⟩,λq h=>⟨(S.p5 q h).1.old F,(S.p5 q h).2⟩,λq h=>⟨(S.p6 q h).1.old F,(S.p6 q h).2⟩⟩
def a7V{α:Type}[Inhabited α]{c:α->List AV}{e:TypeId}{z:Nat}{a:AV}{l:List α}(g:gm x e z a (l.map c))(P:∀y,L (c y)=z){i:Int}(n:aF (L l) i){j:Nat}{v:AV}{t:α}(M:j<z)(G:eY (nrm (eR x v))=V [nrm (eR x v)])(H:eN (nrm (eR x v))=U)(hI:eB v=[]){w:AV->be}(O:(c (gd l i.toNat)).set j (nrm (eR x v))=c t)(E:∀p k y,Fx x y (aA a)->gm y e z a ((l.set i.toNat t).map c)->w p k y):rV (cz z x a (iv i)) λp=>rV (iQ j x p) λk=>sV (aK 1 x k v) (w p k):=by refine ixG g (by simpa using n) λb m C D=>?_;have h:i.toNat<L l:=(by have:=n.1;have:=n.2;omega);simp only[rR,D,df,aY,aj];refine aQz (r:=c (gd l i.toNat)) D (by rw[xe (by simpa using h),ve,eC h,bT h];rfl) (by rw[P];exact M) G H hI λy F A=>?_;have o:(l.map c++m).set i.toNat ((c (gd l i.toNat)).set j (nrm (eR x v)))=(l.set i.toNat t).map c++m:=(by rw[List.set_append_left _ _ (by simpa using h),vB,O]);rw[o] at A;exact E _ _ y (F.mono λq N=> .inl (by rw[C];simpa[aA] using N)) (.inr ⟨b,m,by rw[C];simp,A⟩)
end
def sz5(s:bW):Prop:=L s.bm.ak=3/\L s.bm.done=1/\L s.bm.ay=4/\L s.cells=5/\L s.bU=1/\L s.count=4/\(∀q∈s.bm.ak,L q.bk<=1)/\∀c∈s.count,0<=c/\c<=400
structure Bg(Y x:ae)(b:Id)(l:List Int)(a0 v4 v8:Nat)(a1 a2 a3 a4 a5 a6:AV):Prop where
 ex:∃s:bW,SnL Y x s a1 a2 a3 a4 a5 a6/\sz5 s/\box x (5,v8)=V ⟨40,7,U,U,[[a1,iv s.bm.tx,a2,a3,a4,a5,a6]]⟩
 b4:box x (4,v4)=V ⟨40,7,U,U,[BF]⟩
 tp:∃a',Tp x b l a'/\a0<=a'
 kx:Kx [14,15,16] Y x
 pb:b.1=14\/b.1=15\/b.1=16
 no:(∀z,box Y (4,v4)≠V z)/\∀z,box Y (5,v8)≠V z
section
variable{Y x y:ae}{b:Id}{l:List Int}{a0 v4 v8 d:Nat}{a1 a2 a3 a4 a5 a6:AV}{K:be}{KS:ae->Prop}
def Bg.le(B:Bg Y x b l a0 v4 v8 a1 a2 a3 a4 a5 a6)(h:L Y=4096):L x=4096:=B.kx.len.trans h
def aPS(B:Bg Y x b l a0 v4 v8 a1 a2 a3 a4 a5 a6)(t:L Y=4096){n:Int}(r:∀(u:Int) y,0<=u->(1<=n->u<n)->Bg Y y b l a0 v4 v8 a1 a2 a3 a4 a5 a6->K (iv u) y):cV 66 [.p b 0 0,iv n] x d K:=by obtain⟨s,S,v,j⟩:=B.ex;obtain⟨w,T,A⟩:=B.tp;refine aS3 (aA a6) (B.le t) B.pb T (λq e=>⟨.inl (S.p6 q e).2,?_⟩) λu g y k o i z _ a kp=>r u y k o ⟨⟨s,⟨a.gr S.g1 λq h=>by rw[(S.p1 q h).2];decide,a.gr S.g2 λq h=>by rw[(S.p2 q h).2];decide,a.gr S.g3 λq h=>by rw[(S.p3 q h).2];decide,a.gr S.g4 λq h=>by rw[(S.p4 q h).2];decide,a.gr S.g5 λq h=>by rw[(S.p5 q h).2];decide,?_,S.p1,S.p2,S.p3,S.p4,S.p5,S.p6⟩,v,a.kq j⟩,a.kq B.b4,⟨g,i,by omega⟩,B.kx.kx a (by simp),B.pb,B.no⟩;rcases S.g6 with⟨_,rfl⟩|⟨c,m,rfl,h⟩;simp[aA] at e;simp only[aA,cE] at e;subst e;exact⟨_,h,rfl⟩;rcases S.g6 with h|⟨c,m,rfl,h⟩;exact .inl h;exact .inr ⟨c,m,rfl,kp c (by simp[aA]) _ h⟩
def a5S(B:Bg Y x b l a0 v4 v8 a1 a2 a3 a4 a5 a6)(C:L Y=4096){t:Int}(A:∀(u:Int) y,(u= -1\/aF 4 u)->Bg Y y b l a0 v4 v8 a1 a2 a3 a4 a5 a6->K (iv u) y):cB 67 [.p b 0 0, .a [a1,iv t,a2,a3,a4,a5,a6]] x d K:=by obtain⟨s,S,m,v⟩:=B.ex;obtain⟨E,T,H⟩:=B.tp;have j:=B.pb;have D:L s.count=4:=m.2.2.2.2.2.1;refine jH rfl (bdc (B.le C) T S.g6 (by omega)) ?_;rintro _ y ⟨u,i,rfl,h,o,w,F⟩;rw[D] at h;have c:∀{a:AV} {e:TypeId} {z:Nat} {r:List (List AV)},gm x e z a r->gm y e z a r:=λg=>g.fx F (aTE T g);have n:∀{q:Id},q.1≠14->q.1≠15->q.1≠16->q∉[b]:=λh w G e=>(by simp at e;subst e;omega);exact⟨F.len,A u y h ⟨⟨s,⟨c S.g1,c S.g2,c S.g3,c S.g4,c S.g5,c S.g6,S.p1,S.p2,S.p3,S.p4,S.p5,S.p6⟩,m,F.keep _ _ (n (by simp) (by simp) (by simp)) v⟩,F.keep _ _ (n (by simp) (by simp) (by simp)) B.b4,⟨i,o,by omega⟩,B.kx.fx F (λq k=> .inl (by simp at k;subst k;rcases j with e|e|e<;>simp[e])),j,B.no⟩⟩
def Bg.wr(B:Bg Y x b l a0 v4 v8 a1 a2 a3 a4 a5 a6){a:List Id}(F:Fx x y a)(h:∀q∈a,bK Y q/\(q.1=6\/q.1=32\/q.1=10\/q.1=14))(m:∀q∈a,∀z,box x q=V z->z.var=U->False){s:bW}(S:SnL Y y s a1 a2 a3 a4 a5 a6)(n:sz5 s)(k:∃z,box x (5,v8)=V z/\z=⟨40,7,U,U,[[a1,iv s.bm.tx,a2,a3,a4,a5,a6]]⟩):Bg Y y b l a0 v4 v8 a1 a2 a3 a4 a5 a6:=by obtain⟨c,T,i⟩:=B.tp;obtain⟨z,g,rfl⟩:=k;exact⟨⟨s,S,n,F.keep _ _ (λe=>by have:=(h _ e).2;simp at this) g⟩,F.keep _ _ (λe=>by have:=(h _ e).2;simp at this) B.b4,⟨c,T.fx F λe=>m b e _ T.bx rfl,i⟩,B.kx.fx F (λq j=> .inr (h q j).1.no),B.pb,B.no⟩
def baw(B:Bg Y x b l a0 v4 v8 a1 a2 a3 a4 a5 a6){i v:Int}(o:aF 4 i)(r:0<=v/\v<=400){K2:be}(m:∀p y,Bg Y y b l a0 v4 v8 a1 a2 a3 a4 a5 a6->K2 p y):rV (cz 1 x a6 (iv i)) λp=>sV (aK 1 x p (iv v)) (K2 p):=by obtain⟨s,S,a,j⟩:=B.ex;have g:L s.count=4:=a.2.2.2.2.2.1;refine aR5 S.g6 (by rw[g];exact o) λp y F k=>m p y (B.wr F (λq e=>⟨(S.p6 q e).1, .inr (.inr (.inr (S.p6 q e).2))⟩) (aNO S.g6) (s:={s with count:=s.count.set i.toNat v}) ⟨S.g1.fn F S.g6,S.g2.fn F S.g6,S.g3.fn F S.g6,S.g4.fn F S.g6,S.g5.fn F S.g6,k,S.p1,S.p2,S.p3,S.p4,S.p5,S.p6⟩ ⟨a.1,a.2.1,a.2.2.1,a.2.2.2.1,a.2.2.2.2.1,by simpa using g,a.2.2.2.2.2.2.1,λc n=>by rcases CC n with h|rfl;exact a.2.2.2.2.2.2.2 c h;exact r⟩ ⟨_,j,rfl⟩)
def bav(B:Bg Y x b l a0 v4 v8 a1 a2 a3 a4 a5 a6){i v:Int}(m:aF 5 i){K2:be}(k:∀p y,Bg Y y b l a0 v4 v8 a1 a2 a3 a4 a5 a6->K2 p y):rV (cz 1 x a4 (iv i)) λp=>sV (aK 1 x p (iv v)) (K2 p):=by obtain⟨s,S,c,e⟩:=B.ex;have n:L s.cells=5:=c.2.2.2.1;refine aR5 S.g4 (by rw[n];exact m) λp y F g=>k p y (B.wr F (λq a=>⟨(S.p4 q a).1, .inr (.inl (S.p4 q a).2)⟩) (aNO S.g4) (s:={s with cells:=s.cells.set i.toNat v}) ⟨S.g1.fn F S.g4,S.g2.fn F S.g4,S.g3.fn F S.g4,g,S.g5.fx F (λq h j=>by have:=(S.p5 q h).2;have:=(S.p4 q j).2;omega),S.g6.fn F S.g4,S.p1,S.p2,S.p3,S.p4,S.p5,S.p6⟩ (by simpa[sz5] using c) ⟨_,e,rfl⟩)
def bay(B:Bg Y x b l a0 v4 v8 a1 a2 a3 a4 a5 a6){i v:Int}(m:aF 1 i){K2:be}(k:∀p y,Bg Y y b l a0 v4 v8 a1 a2 a3 a4 a5 a6->K2 p y):rV (cz 1 x a5 (iv i)) λp=>sV (aK 1 x p (iv v)) (K2 p):=by obtain⟨s,S,c,e⟩:=B.ex;have n:L s.bU=1:=c.2.2.2.2.1;refine aR5 S.g5 (by rw[n];exact m) λp y F g=>k p y (B.wr F (λq a=>⟨(S.p5 q a).1, .inr (.inr (.inl (S.p5 q a).2))⟩) (aNO S.g5) (s:={s with bU:=s.bU.set i.toNat v}) ⟨S.g1.fn F S.g5,S.g2.fn F S.g5,S.g3.fn F S.g5,S.g4.fx F (λq h j=>by have:=(S.p4 q h).2;have:=(S.p5 q j).2;omega),g,S.g6.fn F S.g5,S.p1,S.p2,S.p3,S.p4,S.p5,S.p6⟩ (by simpa[sz5] using c) ⟨_,e,rfl⟩)
def a5T(B:Bg Y x b l a0 v4 v8 a1 a2 a3 a4 a5 a6){i:Int}(g:aF 3 i){j:Nat}{v:AV}(G:(j=0/\∃u:Int,v=iv u)\/(j=1/\∃(u:Int) (t o:Bool),v= .l [[iv u]] t o))(A:∀y,Bg Y y b l a0 v4 v8 a1 a2 a3 a4 a5 a6->KS y):rV (cz 2 x a1 (iv i)) λp=>rV (iQ j x p) λH=>sV (aK 1 x H v) KS:=by obtain⟨s,S,a,m⟩:=B.ex;have k:L s.bm.ak=3:=a.1;obtain⟨t,E,D,C,r,w,z⟩:∃t:cg,(cg.c (gd s.bm.ak i.toNat)).set j (nrm (eR x v))=t.c/\L t.bk<=1/\j<2/\eY (nrm (eR x v))=V [nrm (eR x v)]/\eN (nrm (eR x v))=U/\eB v=[]:=(by rcases G with⟨rfl,u,rfl⟩|⟨rfl,u,t,o,rfl⟩;refine⟨⟨u,(gd s.bm.ak i.toNat).bk⟩,rfl,a.2.2.2.2.2.2.1 (gd s.bm.ak i.toNat) (dB ?_),by decide,rfl,rfl,rfl⟩;have:=g.1;have:=g.2;omega;exact⟨⟨(gd s.bm.ak i.toNat).pw,[u]⟩,rfl,by simp,by decide,rfl,rfl,rfl⟩);refine a7V S.g1 (λ_=>rfl) (by rw[k];exact g) C r w z E λ_ _ y F n=>A y (B.wr F (λq e=>⟨(S.p1 q e).1, .inl (S.p1 q e).2⟩) (aNO S.g1) (s:={s with bm:={s.bm with ak:=s.bm.ak.set i.toNat t}}) ⟨n,S.g2.fn F S.g1,S.g3.fn F S.g1,S.g4.fn F S.g1,S.g5.fn F S.g1,S.g6.fn F S.g1,S.p1,S.p2,S.p3,S.p4,S.p5,S.p6⟩ ⟨by simpa using k,a.2.1,a.2.2.1,a.2.2.2.1,a.2.2.2.2.1,a.2.2.2.2.2.1,λq e=>?_,a.2.2.2.2.2.2.2⟩ ⟨_,m,rfl⟩);rcases CC e with h|rfl;exact a.2.2.2.2.2.2.1 q h;exact D
def bfp{e:TypeId}{z:Nat}{aa:List (List AV)}{r:List AV}{q:Id}{i:Nat}{cs:List AV}(c:box x q=V ⟨e,z,U,I,aa⟩)(g:aa[i]?=V r)(o:L r=z)(k:L cs=z)(m:cs.all eN=U)(n:nrm (eR x (.a cs))= .a cs)(hI:eB (.a cs)=[])(j:∀Y',Fx x Y' [q]->box Y' q=V ⟨e,z,U,I,aa.set i cs⟩->KS Y'):sV (aK z x (.p q i 0) (.a cs)) KS:=by have h:aK z x (.p q i 0) (.a cs)=V (wr x q ⟨e,z,U,I,aa.set i cs⟩):=(by simp only[aK,aBG,c,eE,aB9,hI,kills,List.foldl_nil,n,pW,eY,g];rw[bX ⟨k.symm,by omega,λ_=>m⟩];simp only[CE,dW,aj];rw[List.drop_of_length_le (by omega),cL]);rw[h];exact j _ (wc c) (lO c)
def baC(B:Bg Y x b l a0 v4 v8 a1 a2 a3 a4 a5 a6){i st:Int}(j:aF 4 i)(w:∀y,Bg Y y b l a0 v4 v8 a1 a2 a3 a4 a5 a6->KS y):rV (cz 3 x a3 (iv i)) λp=>sV (aK 3 x p (.a [iv st,iv 0,bv I])) KS:=by obtain⟨s,S,t,v⟩:=B.ex;have A:L s.bm.ay=4:=t.2.2.1;have g:i.toNat<L s.bm.ay:=(by have:=j.1;have:=j.2;omega);refine ixG S.g3 (by rw[bJ,A];exact j) λq m o z=>?_;refine bfp z (r:=bF.c (gd s.bm.ay i.toNat)) (by rw[xe (by simpa using g),ve,eC g,bT g];rfl) rfl rfl rfl rfl rfl λy F n=>?_;have e:Fx x y (aA a3):=F.mono λC h=> .inl (by rw[o];simpa[aA] using h);have k:(s.bm.ay.map bF.c++m).set i.toNat [iv st,iv 0,bv I]=(s.bm.ay.set i.toNat ⟨st,0,I⟩).map bF.c++m:=(by rw[List.set_append_left _ _ (by simpa using g),vB];rfl);rw[k] at n;exact w y (B.wr e (λq h=>⟨(S.p3 q h).1, .inl (S.p3 q h).2⟩) (aNO S.g3) (s:={s with bm:={s.bm with ay:=s.bm.ay.set i.toNat ⟨st,0,I⟩}}) ⟨S.g1.fn e S.g3,S.g2.fn e S.g3, .inr ⟨q,m,by rw[o];simp,n⟩,S.g4.fn e S.g3,S.g5.fn e S.g3,S.g6.fn e S.g3,S.p1,S.p2,S.p3,S.p4,S.p5,S.p6⟩ (by simpa[sz5] using t) ⟨_,v,rfl⟩)
end
section
variable{Y x y:ae}{b:Id}{l:List Int}{a0 v4 v8 d:Nat}{a1 a2 a3 a4 a5 a6:AV}{K:be}{KS:ae->Prop}
def bat(B:Bg Y x b l a0 v4 v8 a1 a2 a3 a4 a5 a6){i:Int}{f:Bool}(m:aF 4 i){c:AV->be}(k:∀p a y,Bg Y y b l a0 v4 v8 a1 a2 a3 a4 a5 a6->c p a y):rV (cz 3 x a3 (iv i)) λp=>rV (iQ 2 x p) λa=>sV (aK 1 x a (bv f)) (c p a):=by obtain⟨s,S,g,h⟩:=B.ex;have n:L s.bm.ay=4:=g.2.2.1;refine a7V S.g3 (λ_=>rfl) (by rw[n];exact m) (by decide) rfl rfl rfl (t:={gd s.bm.ay i.toNat with atomic:=f}) rfl λp a y F j=>k p a y (B.wr F (λq e=>⟨(S.p3 q e).1, .inl (S.p3 q e).2⟩) (aNO S.g3) (s:={s with bm:={s.bm with ay:=s.bm.ay.set i.toNat {gd s.bm.ay i.toNat with atomic:=f}}}) ⟨S.g1.fn F S.g3,S.g2.fn F S.g3,j,S.g4.fn F S.g3,S.g5.fn F S.g3,S.g6.fn F S.g3,S.p1,S.p2,S.p3,S.p4,S.p5,S.p6⟩ (by simpa[sz5] using g) ⟨_,h,rfl⟩)
def bax(B:Bg Y x b l a0 v4 v8 a1 a2 a3 a4 a5 a6){i:Int}{f:Bool}(g:aF 1 i)(t:∀y,Bg Y y b l a0 v4 v8 a1 a2 a3 a4 a5 a6->KS y):rV (cz 1 x a2 (iv i)) λp=>sV (aK 1 x p (bv f)) KS:=by obtain⟨s,S,n,o⟩:=B.ex;have w:L s.bm.done=1:=n.2.1;have c:i.toNat<L s.bm.done:=(by have:=g.1;have:=g.2;omega);refine ixG S.g2 (by rw[bJ,w];exact g) λq m k v=>?_;refine aQz (x:=bv f) (r:=cb (gd s.bm.done i.toNat)) v (by rw[xe (by simpa using c),ve,eC c,bT c];rfl) (by simp[cb]) rfl rfl rfl λy F j=>?_;have a:Fx x y (aA a2):=F.mono λz e=> .inl (by rw[k];simpa[aA] using e);have h:(s.bm.done.map cb++m).set i.toNat ((cb (gd s.bm.done i.toNat)).set 0 (nrm (eR x (bv f))))=(s.bm.done.set i.toNat f).map cb++m:=(by rw[List.set_append_left _ _ (by simpa using c),vB];rfl);rw[h] at j;exact t y (B.wr a (λq e=>⟨(S.p2 q e).1, .inl (S.p2 q e).2⟩) (aNO S.g2) (s:={s with bm:={s.bm with done:=s.bm.done.set i.toNat f}}) ⟨S.g1.fn a S.g2, .inr ⟨q,m,by rw[k];simp,j⟩,S.g3.fn a S.g2,S.g4.fn a S.g2,S.g5.fn a S.g2,S.g6.fn a S.g2,S.p1,S.p2,S.p3,S.p4,S.p5,S.p6⟩ (by simpa[sz5] using n) ⟨_,o,rfl⟩)
def baD(B:Bg Y x b l a0 v4 v8 a1 a2 a3 a4 a5 a6){t:Int}(k:∀y,Bg Y y b l a0 v4 v8 a1 a2 a3 a4 a5 a6->KS y):sV (aK 1 x (.p (5,v8) 0 1) (iv t)) KS:=by obtain⟨s,S,n,i⟩:=B.ex;obtain⟨h,T,m⟩:=B.tp;have c:=B.pb;refine A0 i rfl (by simp) λy F j=>k y ⟨⟨{s with bm:={s.bm with tx:=t}},(by have a:=S.keep F (by simp);exact⟨a.g1,a.g2,a.g3,a.g4,a.g5,a.g6,a.p1,a.p2,a.p3,a.p4,a.p5,a.p6⟩),n,j⟩,F.kq B.b4,⟨h,T.fx F (λe=>by simp at e;subst e;simp at c),m⟩,B.kx.fx F (λq g=> .inr (by simp at g;subst g;exact B.no.2)),c,B.no⟩
def baB(B:Bg Y x b l a0 v4 v8 a1 a2 a3 a4 a5 a6):∃st:Nat->Int,∀{i:Int} {K:d7},aF 4 i->K (iv (st i.toNat))->rV (cz 3 x a3 (iv i)) λp=>rV (iQ 0 x p) λr=>rV (kb J x r) K:=by obtain⟨s,S,n,t⟩:=B.ex;have o:L s.bm.ay=4:=n.2.2.1;refine⟨λk=>(gd s.bm.ay k).cQ,λ{i K} a h=>?_⟩;have e:i.toNat<L s.bm.ay:=(by have:=a.1;have:=a.2;omega);refine ixG S.g3 (by rw[bJ,o];exact a) λq m v g=>?_;have j:(s.bm.ay.map bF.c++m)[i.toNat]?=V (bF.c (gd s.bm.ay i.toNat)):=(by rw[xe (by simpa using e),ve,eC e,bT e];rfl);simp only[rR,aC5,g,df,qd,j,aY,aj,ip,bF.c,k1A];exact h
def aN5(B:Bg Y x b l a0 v4 v8 a1 a2 a3 a4 a5 a6){j:Nat}:iQ j x (.p (5,v8) 0 0)=V (.p (5,v8) 0 j):=by obtain⟨s,S,c,a⟩:=B.ex;rw[rR,a];simp
def aRC(B:Bg Y x b l a0 v4 v8 a1 a2 a3 a4 a5 a6):kb J x (.p (5,v8) 0 0)=V a1:=by obtain⟨s,S,c,a⟩:=B.ex;rw[aC5,a];simp[k1A]
def baz(B:Bg Y x b l a0 v4 v8 a1 a2 a3 a4 a5 a6):kb J x (.p (5,v8) 0 2)=V a2:=by obtain⟨s,S,c,a⟩:=B.ex;rw[aC5,a];simp[k1A]
def aS0(B:Bg Y x b l a0 v4 v8 a1 a2 a3 a4 a5 a6):kb J x (.p (5,v8) 0 3)=V a3:=by obtain⟨s,S,c,a⟩:=B.ex;rw[aC5,a];simp[k1A]
def a5U(B:Bg Y x b l a0 v4 v8 a1 a2 a3 a4 a5 a6):kb J x (.p (5,v8) 0 4)=V a4:=by obtain⟨s,S,c,a⟩:=B.ex;rw[aC5,a];simp[k1A]
def baA(B:Bg Y x b l a0 v4 v8 a1 a2 a3 a4 a5 a6):kb J x (.p (5,v8) 0 5)=V a5:=by obtain⟨s,S,c,a⟩:=B.ex;rw[aC5,a];simp[k1A]
def a5V(B:Bg Y x b l a0 v4 v8 a1 a2 a3 a4 a5 a6):kb J x (.p (5,v8) 0 6)=V a6:=by obtain⟨s,S,c,a⟩:=B.ex;rw[aC5,a];simp[k1A]
def a5W(B:Bg Y x b l a0 v4 v8 a1 a2 a3 a4 a5 a6):∃t:Int,kb (V 7) x (.p (5,v8) 0 0)=V (.a [a1,iv t,a2,a3,a4,a5,a6]):=by obtain⟨s,S,e,c⟩:=B.ex;exact⟨s.bm.tx,by rw[aC5,c];rfl⟩
def aV3(B:Bg Y x b l a0 v4 v8 a1 a2 a3 a4 a5 a6):fS x a1=V (iv (3:Nat))/\fS x a4=V (iv (5:Nat))/\fS x a6=V (iv (4:Nat)):=by obtain⟨s,S,a,c⟩:=B.ex;refine⟨?_,?_,?_⟩;rw[S.g1.ln,bJ,a.1];rw[S.g4.ln,bJ,a.2.2.2.1];rw[S.g6.ln,bJ,a.2.2.2.2.2.1]
end
def baP{Y:ae}:aX bH 9 Y [(0,iv 2),(1,iv 2),(2,iv 2),(3,iv 2),(4,iv 0),(5,iv 1),(6,iv 3),(7,iv 4),(8,iv 5)]=V (.l ([2,2,2,2,0,1,3,4,5].map ci) U U,Y):=by kernel_rfl
section
attribute[local irreducible] aX
def bdb{Y:ae}{b:Id}{l:List Int}{a:Nat}(n:L Y=4096)(hb:b.1=14\/b.1=15\/b.1=16)(T:Tp Y b l a):∃r Y1,(∃(s:bW) (G:Nat),r= .a s.c/\sz5 s/\Tp Y1 b l G/\a<=G/\Kx [14,15,16] Y Y1)/\cZ aS GG 27 [.p b 0 0, .a dE.c] Y r Y1:=by generalize hQ:(λ(r:AV) (y:ae)=>∃(s:bW) (G:Nat),aOo y r= .a s.c/\sz5 s/\Tp (kills y (aNW r)) b l G/\a<=G/\Kx [14,15,16] Y (kills y (aNW r)))=Qq;refine aQR (R:=Qq) ?_ (λr y h=>by rw[<-hQ] at h;exact h);refine bhw n rfl λs2 v3 K2 bC nf b3=>?_;have F2:Fx Y s2 []:=K2.fx [];have aV:=F2.len.trans n;simp only[aSH];refine so aV λv4 s4 F4 N4 b4=>?_;have W:=F2.trans F4;have an:=W.len.trans n;have c3:=F4.kq b3;have ba:aN (V 6) dE.c=V (.a dE.c):=rfl;simp only[a4T,u0,u1,c3,ba,ip,↓uL];refine jH rfl (aXI (w:=dE) an (by decide) (by decide) (by decide) (by decide)) ?_;rintro _ s7 ⟨a1,a2,a3,a4,a5,a6,rfl,S,F7⟩;refine⟨F7.len,?_⟩;have aW:=F7.len.trans an;simp only[a4R];refine so aW λv8 s9 F9 N8 b8=>?_;refine qr b8 rfl rfl λbb P c8=>?_;have al:Fx s4 s9 []:=F7.trans F9;have ak:Fx Y s9 []:=W.trans al;have n8:∀z,box Y (5,v8)≠V z:=(N8.old (W.trans F7)).no;have n4:∀z,box Y (4,v4)≠V z:=(N4.old F2).no;have B0:Bg Y bb b l a v4 v8 a1 a2 a3 a4 a5 a6:=⟨⟨aH6 dE,((S.keep F9 (by simp)).keep P (by simp)).old W,⟨rfl,rfl,rfl,rfl,rfl,rfl,by decide,by decide⟩,c8⟩,P.kq (al.kq b4),⟨a,(T.fx ak (by simp)).fx P (λe=>by simp at e;subst e;simp at hb),dA _⟩,(ak.kx (by simp)).fx P (λq O=> .inr (by simp at O;subst O;exact n8)),hb,n4,n8⟩;have br:=B0.le n;have aR:∀{x:ae},Bg Y x b l a v4 v8 a1 a2 a3 a4 a5 a6->rV (kb (V 7) x (.p (5,v8) 0 0)) λaE=>sV (aK 7 x (.p (4,v4) 0 0) aE) λaf=>rV (kb (V 7) af (.p (4,v4) 0 0)) λaJ=>fe Qq af [aJ]:=λ{x} B=>(by obtain⟨s,S,hz,b8⟩:=B.ex;obtain⟨G,T',ha⟩:=B.tp;have Z:=@r7A;simp only[u1,b8,Z,aY,ip];refine qr B.b4 rfl rfl λy F aQ=>?_;simp only[u1,aQ,Z,aY];have S':=S.keep F (by simp);show Qq (.a [a1,iv s.bm.tx,a2,a3,a4,a5,a6]) y;rw[<-hQ];refine⟨s,G,?_,hz,(T'.fx F (λe=>by simp at e;subst e;simp at hb)).fx (aOp _ _) (λe=>(S'.ids b e).1.no _ T.bx),ha,(B.kx.fx F (λq O=> .inr (by simp at O;subst O;exact n4))).fx (aOp _ _) λq O=> .inr (S'.ids q O).1.no⟩;show AV.a (List.map gK (List.map (gi y) _))=_;rw[vA];exact aC2 AV.a S'.lz);have i4:∀{k:Nat},k<4->aF 4 (k:Int):=λh=>⟨by omega,by omega⟩;have aB:∀{x:ae},Bg Y x b l a v4 v8 a1 a2 a3 a4 a5 a6->lV [iv 0] x (aSK (iv (5:Nat)) (.p (5,v8) 0 0) (.p b 0 0) (.p (4,v4) 0 0) Qq):=λ{x} B=>(by refine yV 5 (λ_ _ y=>Bg Y y b l a v4 v8 a1 a2 a3 a4 a5 a6) B ?_;rintro k _ x N B;rcases t:Q ((k:Int)<((5:Nat):Int)) with _|_;simp only[aSK,aI,au,av4,aY,t,↓iB,↓uL];exact aR B;have o:k<5:=RF.1 (nt t);simp only[aSK,aI,au,av4,aY,t,↓iC,aN5 B,a5U B,↓uL];refine aPS B n λu y X H j=>?_;simp only[a4L,au,↓uL];refine bav j ⟨by omega,by omega⟩ λp y2 m=>?_;simp only[a4K,↓uL];refine dT (by simp[eL,lb,lbV,cD,dC,dK]) ?_;simp only[au,cS,aY,↓uL];exact yU o m);have ac:∀{x:ae},Bg Y x b l a v4 v8 a1 a2 a3 a4 a5 a6->aVK (.p (5,v8) 0 0) (.p b 0 0) (.p (4,v4) 0 0) Qq [] x:=λ{x} B=>(by simp only[aVK,aI,aN5 B,a5U B,(aV3 B).2.1,aY,↓uL];exact aB B);have ab:∀{x:ae},Bg Y x b l a v4 v8 a1 a2 a3 a4 a5 a6->aVJ (.p (5,v8) 0 0) (.p b 0 0) (.p (4,v4) 0 0) Qq [] x:=λ{x} B=>(by simp only[aVJ,aI,di,a42];refine aPS B n λu y X H j=>?_;rcases v:Q (u=2) with _|_;simp only[aVG,iM,aY,v,↓iB,↓uL];exact ac j;simp only[aVG,iM,aY,v,↓iC,aN5 j,baz j,↓uL];refine bax j ⟨by omega,by omega⟩ λy2 m=>?_;simp only[a4O,aN5 m,baA m,aY,↓uL];refine aPS m n λu2 y3 h2 h3 E=>?_;simp only[a4N,↓uL];refine bay E ⟨by omega,by omega⟩ λp y4 B5=>?_;simp only[a4M];refine dT (by simp[eL,lb,lbV,cD,dC,dK]) ?_;exact ac B5);have az:∀{x:ae} {k:Nat} {g:aG},k<3->(∀y,Bg Y y b l a v4 v8 a1 a2 a3 a4 a5 a6->g [] y)->Bg Y x b l a v4 v8 a1 a2 a3 a4 a5 a6->aVM x (.p (5,v8) 0 0) (.p b 0 0) [iv k] g:=λ{x k g} N A B=>(by obtain⟨t7,Z⟩:=a5W B;simp only[aVM,Z,aY,↓uL];refine a5S B n λu y hu j=>?_;have i3:aF 3 (k:Int):=⟨by omega,by omega⟩;rcases qu:Q (u<0) with _|_;have ap:aF 4 u:=(by simp only[o8] at qu;rcases hu with h|h;omega;exact h);have own:∀{z:ae},Bg Y z b l a v4 v8 a1 a2 a3 a4 a5 a6->rV (cz 2 z a1 (iv k)) λp=>rV (iQ 0 z p) λp'=>sV (aK 1 z p' (iv u)) λaD=>g [] aD:=λ{z} Bz=>a5T Bz i3 (.inl ⟨rfl,u,rfl⟩) λy B=>A y B;rcases C:Q ((k:Int)=0) with _|_;rcases v:Q ((k:Int)=2) with _|_;simp only[aRw,au,u0,av4,iM,aOq,qu,C,v,↓jN,Aa,aN5 j,aRC j,bt,↓uL];exact own j;simp only[aRw,au,u0,av4,iM,aPh,qu,v,↓jA,ya,bt,↓uL];refine aPS (d:=85) j n λu2 z X H m=>?_;rcases D:Q (u2=1) with _|_;simp only[u0,iM,D,C,↓jN,Aa,aN5 m,aRC m,bt,↓uL];exact own m;simp only[au,u0,iM,D,C,aS1,↓jN,Aa,aN5 m,aRC m,a4Y,bt,↓uL];exact a5T m i3 (.inr ⟨rfl,u,_,_,rfl⟩) λy B=>A y B;have v:Q ((k:Int)=2)=I:=aPy (by have:=nt C;omega);obtain⟨st,ao⟩:=baB j;simp only[aRw,au,u0,av4,iM,aOq,qu,C,v,↓jA,↓jN,ya,Aa,aN5 j,aRC j,aS0 j,bt,↓uL];refine ao ap ?_;rcases D:Q (st u.toNat=3) with _|_;simp only[u0,iM,D,↓jA,Aa,aN5 j,aS0 j,↓uL];refine ao ap ?_;rcases q4:Q (st u.toNat=4) with _|_;simp only[u0,iM,q4,bt,↓uL];exact own j;simp only[u0,iM,q4,bt,↓uL];exact A _ j;simp only[u0,iM,D,↓jN,ya,bt,↓uL];exact A _ j;simp only[aRw,au,u0,av4,iM,qu,bt,↓uL];exact A _ j);have aA:∀{x:ae},Bg Y x b l a v4 v8 a1 a2 a3 a4 a5 a6->lV [iv 0] x (aSJ (iv (3:Nat)) (.p (5,v8) 0 0) (.p b 0 0) (.p (4,v4) 0 0) Qq):=λ{x} B=>(by refine yV 3 (λ_ _ y=>Bg Y y b l a v4 v8 a1 a2 a3 a4 a5 a6) B ?_;rintro k _ x N B;rcases t:Q ((k:Int)<((3:Nat):Int)) with _|_;simp only[aSJ,aI,au,av4,aY,t,↓iB,di,a41,↓uL];refine aPS B n λu y X H j=>?_;rcases v:Q (u=2) with _|_;simp only[aVH,iM,aY,v,↓iB,↓uL];exact ab j;obtain⟨t7,Z⟩:=a5W j;simp only[aVH,iM,aY,v,↓iC,Z,↓uL];refine a5S j n λu2 y2 _ m=>?_;simp only[a4P,aN5 m,aY,↓uL];exact baD m λy3 E=>ab E;have o:k<3:=RF.1 (nt t);simp only[aSJ,aI,au,av4,aY,t,↓iC,di,↓uL];refine az o (λy B=>?_) B;simp only[a4Z,aI,au,cS,aY,↓uL];exact yU o B);have M:∀{x:ae} {k:Nat} {g:aG} {st:Int},k<4->(∀y,Bg Y y b l a v4 v8 a1 a2 a3 a4 a5 a6->g [] y)->Bg Y x b l a v4 v8 a1 a2 a3 a4 a5 a6->aVI x (.p (5,v8) 0 0) [iv k] (.p b 0 0) g [iv st]:=λ{x k g st} N A B=>(by have aU:bM aNB aM7 [(0,iv st)]=V (.a [iv st,iv 0,bv I]):=rfl;simp only[aVI,aI,au,aN5 B,aS0 B,aU,aY,↓uL];refine baC B (i4 N) λy j=>?_;rcases C:Q (st≠0) with _|_;simp only[aSI,au,u0,av6,C,↓jN,Aa,bt,↓uL];exact A _ j;rcases t:Q (st≠1) with _|_;simp only[aSI,au,u0,av6,C,t,↓jA,bt,↓uL];exact A _ j;simp only[aSI,au,u0,av6,C,t,aN5 j,a5V j,↓jA,bt,↓uL];refine aPS j n λu y2 X H m=>?_;simp only[a4V,au,cS,aY,↓uL];have am:=H (by decide);refine baw m (i4 N) (by rw[eM (by omega) (by omega)];omega) λp y3 E=>?_;simp only[a4U,↓uL];refine dT (by simp[eL,lb,lbV,cD,dC,dK]) ?_;simp only[aN5 E,aS0 E,aY,↓uL];refine aPS E n λu2 y4 h2 h3 B5=>?_;simp only[a4S,au,iM,aY,↓uL];refine bat B5 (i4 N) λp p' y5 B6=>?_;simp only[a4J];refine dT (by simp[eL,lb,lbV,cD,dC,dK]) ?_;exact A _ B6);simp only[a4Q,aN5 B0,a5V B0,(aV3 B0).2.2,aY,↓uL];refine yV 4 (λ_ _ y=>Bg Y y b l a v4 v8 a1 a2 a3 a4 a5 a6) B0 ?_;rintro k _ x N B;rcases t:Q ((k:Int)<((4:Nat):Int)) with _|_;simp only[aVN,aI,au,av4,aY,t,↓iB,aN5 B,aRC B,(aV3 B).1,↓uL];exact aA B;have o:k<4:=RF.1 (nt t);simp only[aVN,aI,au,av4,aY,t,↓iC,di,a43,baP,bQ,a4X,↓uL];refine aPS B n λu y X H j=>?_;have am:=H (by decide);simp only[a4W,tf,ci,qM,aY,f8,a40,au,↓uL];refine⟨⟨X,by simpa using am⟩,?_⟩;generalize gd ([2,2,2,2,0,1,3,4,5]:List Int) u.toNat=st;have A:∀y,Bg Y y b l a v4 v8 a1 a2 a3 a4 a5 a6->aVL [iv k] (yI (λ(_:Unit) i=>[iv i]) 4 (λ_ _ y=>Bg Y y b l a v4 v8 a1 a2 a3 a4 a5 a6)) (gM 0 4) x [] y:=λy B=>(by simp only[aVL,aI,au,cS,aY,↓uL];exact yU o B);rcases v:Q ((k:Int)=0) with _|_;simp only[u0,iM,v,↓jN,Aa,bt,↓uL];exact M o A j;rcases D:Q (st=0) with _|_;simp only[u0,iM,v,D,↓jA,ya,bt,↓uL];exact M o A j;simp only[u0,iM,v,D,↓jA,ya,bt,↓uL];exact M o A j
end
def bfA:dO:=aR3
def bfy:eJ bfA:=aPL
def bcy:=@aPg
section
attribute[local irreducible] aX
def a91:=bi 23 [(5,([23],[0,3,4,6,7,11,12,22])),(8,([],[0,3,4,6,7,11,12,22,23])),(12,([11],[0,3,6,7,12])),(19,([],[0,3,6,7,11,12,14,15]))]
def aVV a(e:aG)(b:bu) f(g:eQ) c:=∀_:Rg,aV (gt a 0) (iv 1) λd=>e [d] c/\b [d] c<b a f
def a8C g b(c:aG) e a:=ao 1 a g (gt b 0) λf=>sV (aK 1 a f e) λd=>c [] d
def a5r e a j b y x(f:aG):=aT e 6 a j λk=>fm e (gt b 0) λl=>az e (ao 1 a k l) λm=>az e (aM a m) λn=>az e (aO .gtr n (iv 1)) λo=>aD e o (bv I) λd=>fm d y λp=>gE (gP U d) (λg=>cB 66 [p,(iv 3)] a 37 λq h=>g q h) a λr c=>az d (bf r (iv 2)) λs=>aD d s (bv I) λt=>ah t (ao 1 c x (gt b 0) λu=>aM c u λv=>eV (aX bH 1 c [(0,(iv 1))]) λw i=>eV (j5 3 fB 8 i 47 v w) (a8C x b f)) (f [] c)
def a5l a j(h:aG)(e:bu) g i d b:=aw 7 b a λf=>sV (aK 7 b j f) λc=>h [d] c/\e [d] c<e g i
def aSV d c a k h i j(l:eQ) b:=∀_:Rg,aw 7 b d λf=>eV (aX aTN 1 b [(0,f)]) λg e=>eV (j5 64 y8 88 e 108 (gt c 0) g) (a5l a k h i c j)
def a5m a d f t g h s j l k m n o i p e r q(b:aG) c:=dH [km,(bo a),(bo d),km,(bo a),(bo f),(lb U [t,g] []),(bo h),(bo s),(bo j),(bo a),(bo l),(lb U [k,m] []),(bo n),(lb I [o] []),(lb I [i,p] [103]),(lb U [t,e] []),(lb I [r,q] [])] [(0,14),(1,14),(2,14),(3,14),(4,14),(5,14),(6,14),(7,14),(0,15),(1,15),(2,15)] (b [] c)
def a5n t b f g h i j s l n m o p q k r e c a:=ao 1 a t b λd=>sV (aK 1 a d c) (a5m f g h t i j s l n m o p q k r b d c e)
def aSW a b x q(d:aG):=ab 1 a b λs=>bf s (iv 3) λc=>bn c 1 a b λt=>aC c (bf t (iv 23)) λu=>aD c (bv U) u λv=>ah v (aB 0 a b λe=>aM a e λw=>aB 0 a b λf=>aM a f λg=>ao 1 a x g λh=>aM a h λi=>aB 6 a q λj=>aM a j λk=>aB 0 a b λl=>aM a l λm=>ao 1 a k m λn=>aM a n λo=>eV (aX bH 1 a [(0,o)]) λp r=>eV (j5 3 fB 8 r 103 i p) (a5n x w b e f g h q j l k m n o i p d)) (d [] a)
def aVU j(f:aG) a(e:bu) g d b h k c:=cf j λi=>ah i (f [(gt a 0)] c/\e [(gt a 0)] c<e a g) (jV 19 (aSV d a b h f e g) (aSW c d k h))
def a5o p d c h g i j q b:=aw 6 b p λk=>aw 7 b d λl=>aw 7 b c λm=>fV Cd b [k,l,m] λe=>rV (eO 0 e) λn=>rV (eO 1 e) λo=>eV (bs 40 BF b 15) λa f=>sV (aK 7 f a n) (aVU o h g i j c a d q)
def a5p j h c b d e k i f:=eV (bs 64 y8 f 14) λa g=>sV (aK 7 g a i) (a5o j h a c b d e k)
def aRy v f d e p R g h c a:=∀_:Rg,aJ a (gt c 0) λi=>aU i v λb=>fm b f λj=>az b (rV (cO a j)) λk=>aT b 1 a k λl=>fm b f λm=>az b (rV (cO a m)) λn=>aT b 0 a n λo=>az b (aJ a o) λq=>az b (aU l q) λr=>aD b r (bv I) λs=>ah s (aw 7 a d λt=>aw 6 a e λu=>cB 68 [f,t,u,p] a 70 (a5p e d g c h a p)) (fe R a [(gt c 0)])
def aVW g m c e i k j R d f a b:=∀_:Rg,aU (gt a 0) g λh=>ah h (jV 8 (aVV a d f b) (a5r m b c a e i)) (lV [(.l [] U U)] b (aRy k e c j i R))
def a5q h b f g e R d a:=aJ a d λc=>lV [(iv 0)] a (aVW c h b f d g e R)
def aVT e c a f g b R:=ab 4 b a λh=>aJ b h λd=>eV (qO 38 aYp 24 b 20 d d) (a5q g c e f a R)
def bf8{a b c d e:AV}{s0:ae}{R:be}(h:eV (qm 40 7 s0 6 b) λf i=>eV (qm 31 6 i 7 c) λg j=>aVT a f g d e j R):EB 28 [a,b,c,d,e] s0 R:=zB a91 bfy Tryz.func28 h
def bhB{j:AV}{e:List AV}{f:List AV}{l:AV}{m:AV}{s0:ae}{R:be}(n:L s0=4096)(l1:L e=7)(u:L f=6)(h:∀(b:ae) (c d:Nat),Kp s0 b->(∀k,k≠6->k≠7->aZ b k=aZ s0 k)->(∀x,box s0 (6,c)≠V x)->(∀x,box s0 (7,d)≠V x)->box b (6,c)=V ⟨40,7,U,U,[e]⟩->box b (7,d)=V ⟨31,6,U,U,[f]⟩->aVT j (.p (6,c) 0 0) (.p (7,d) 0 0) l m b R):EB 28 [j, .a e, .a f,l,m] s0 R:=by refine bf8 ?_;refine iN rfl l1 (by decide) (by decide) n λy c i g0 v q=>?_;refine iN rfl u (by decide) (by decide) (i.len.trans n) λb d o g1 w r=>?_;exact h b c d (Kp.trans i o) (λk s t=>(g1 k t).trans (g0 k s)) (λx g=>v x ((Kp.refl _).keep _ _ g)) (λx g=>w x (i.keep _ _ g)) (o.keep _ _ q) r
end
def aNI{Y:ae}{b:Id}{e:TypeId}{z j:Nat}{o v:Bool}{r:List (List AV)}(h:box Y b=V ⟨e,z,o,v,r⟩):iQ j Y (.p b 0 0)=V (.p b 0 j):=by rw[rR,h];simp
def aXM{ds:List AV}{s:bW}(h:Lk ds s.c):∃x0 i x2 j t4 o4 e a g d,ds=[x0,i,x2,j, .l (s.cells.map ci) t4 o4, .l (s.bU.map ci) e a, .l (s.count.map ci) g d]:=by have m:=oC h;obtain⟨h,_⟩:=h;rcases ds with _|⟨x0,_|⟨i,_|⟨x2,_|⟨j,_|⟨n,_|⟨x5,_|⟨o,_|⟨p,ds⟩⟩⟩⟩⟩⟩⟩⟩<;>simp at m;simp only[ji,mU,bW.c,kO] at h;obtain⟨t4,o4,rfl⟩:=aRH h.2.2.2.2.1;obtain⟨e,a,rfl⟩:=aRH h.2.2.2.2.2.1;obtain⟨g,d,rfl⟩:=aRH h.2.2.2.2.2.2.1;exact⟨_,_,_,_,_,_,_,_,_,_,rfl⟩
def Rds.mono{Y:ae}{B:Id}{f:Nat->AV}{m n:Nat}(O:Rds Y B f m)(h:m<=n):Rds Y B f n:=⟨O.bx,λi c=>by obtain⟨d,e,a⟩:=O.gr i c;exact⟨d,by omega,a⟩,O.dj,O.pl⟩
def a62{Y:ae}{B:Id}{f:Nat->AV}{m d:Nat}{i v:Int}{t o:Bool}{K:AV->be}(O:Rds Y B f m)(hi:0<=i/\i<4)(T:d=47\/d=103)(hl:L Y=4096)(hm:m<=1000)(hB:B.1=20)(hK:∀a Y' R,Rds Y' B R (m+1)->Fx Y Y' (B::aA (f i.toNat))->(∀j,j<4->∀q∈aA (R j),q∈aA (f j)\/bK Y q)->K a (.p B i.toNat 0) Y'):eV (j5 3 fB 8 Y d (f i.toNat) (.l [[iv v]] t o)) λa w=>rV (cz 1 w (.m B 4) (iv i)) λp=>sV (aK 1 w p a) (K a p):=by have r:i.toNat<4:=(by omega);obtain⟨ns,ak,g⟩:=O.gr _ r;refine qs g rfl (by decide) (by rw[hl];rcases T with e|e<;>rw[e]<;>decide) pU (by simp) (by simp) (by simp;omega) λa w H E u=>?_;have C:∀j,j<4->B∉aA (f j):=λj n h=>(by rcases O.pl j n B h with e|e<;>omega);have N:=E.keep _ _ (C _ r) O.bx;have W:cz 1 w (.m B 4) (iv i)=V (.p B i.toNat 0):=(by simp[cz,hi.1,N,r]);rw[W];have S:B∉aA a:=λh=>(u _ h).1.no _ O.bx;refine Bp N (uU r) (ms H) rfl (by simp) λM F b2=>?_;have P:box M B=V ⟨38,1,U,U,io 4 λj=>[if j=i.toNat then a else f j]⟩:=(by rw[b2,Bl];congr 2;refine yC λj n=>?_;by_cases h:j=i.toNat<;>simp[h]);have D:∀j,j<4->∀q∈aA (f j),q∉aA a:=λj n q c s=>(by obtain⟨_,_,G⟩:=O.gr j n;obtain⟨z,hz⟩:=aTi G q c;exact(u q s).1.no _ hz);refine hK a M _ ⟨P,λj n=>?_,λj k n X Z q c=>?_,λj n q c=>?_⟩ ((E.trans F).mono (by simp only[dF,eW];rintro q (h|h|h);exact .inl (.inr h);exact .inl (.inl h);cases h)) λj n q c=>?_;by_cases h:j=i.toNat;subst h;simp only[vg];refine⟨ns++[v],by simp;omega,?_⟩;rw[dg];exact(H.fx F λq c e=>S (by simp at e;exact e▸c)).p;simp only[cj h];obtain⟨mj,h1,G⟩:=O.gr j n;exact⟨mj,by omega,(G.fx E λq c=>O.dj j _ n r h q c).fx F λq c e=>by simp at e;exact C j n (e▸c)⟩;by_cases h:j=i.toNat;simp only[bX h] at c;by_cases A:k=i.toNat;omega;simp only[cj A];exactλs=>D k X q s c;simp only[cj h] at c;by_cases A:k=i.toNat;simp only[bX A];exact D j n q c;simp only[cj A];exact O.dj j k n X Z q c;by_cases h:j=i.toNat;simp only[bX h] at c;rw[(u q c).2];exact T;simp only[cj h] at c;exact O.pl j n q c;by_cases h:j=i.toNat;simp only[bX h] at c;exact .inr (u q c).1;simp only[cj h] at c;exact .inl c
def bc6{n:Int}:cD (iv n)=[]:=rfl
structure PlS(Y x:ae)(b:Id)(l:List Int)(v6 v7:Nat)(B:Id)(f:Nat->AV)(k:Nat):Prop where
 b6:∃ds s,box x (6,v6)=V ⟨40,7,U,U,[ds]⟩/\Lk ds s.c/\vH k s/\L s.cells=5/\L s.bU=1/\L s.count=4
 b7:box x (7,v7)=V ⟨31,6,U,U,[dE.c]⟩
 tp:∃a',Tp x b l a'
 kx:Kx [14,15,16] Y x
 rd:Rds x B f (k+1)
 nw:∀i,i<4->∀q∈aA (f i),∀z,box Y q≠V z
 no:(∀z,box Y (6,v6)≠V z)/\∀z,box Y B≠V z
 pb:b.1=16/\B.1=20
section
variable{Y x y:ae}{b B:Id}{l:List Int}{v6 v7 k:Nat}{f:Nat->AV}
def PlS.fx(P:PlS Y x b l v6 v7 B f k){c:List Id}(F:Fx x y c)(h:∀q∈c,q.1≠6/\q.1≠7/\q.1≠16/\q.1≠20/\q.1≠47/\q.1≠103)(m:∀q∈c,q.1=14\/q.1=15\/∀z,box Y q≠V z):PlS Y y b l v6 v7 B f k:=by obtain⟨ds,s,i,j⟩:=P.b6;obtain⟨g,T⟩:=P.tp;have d:=P.pb;exact⟨⟨ds,s,F.keep _ _ (λe=>(h _ e).1 rfl) i,j⟩,F.keep _ _ (λe=>(h _ e).2.1 rfl) P.b7,⟨g,T.fx F λe=>(h _ e).2.2.1 d.1⟩,P.kx.fx F (λq a=>by rcases m q a with e|e|e;exact .inl (by simp[e]);exact .inl (by simp[e]);exact .inr e),P.rd.fx F (λq a=>⟨λe=>(h q a).2.2.2.1 (by rw[e];exact d.2),(h q a).2.2.2.2⟩),P.nw,P.no,d⟩
def PlS.kxx(P:PlS Y x b l v6 v7 B f k)(K:Kx [14,15,16] x y){a:Nat}(T:Tp y b l a):PlS Y y b l v6 v7 B f k:=by obtain⟨ds,s,c,d⟩:=P.b6;exact⟨⟨ds,s,K.kq c,d⟩,K.kq P.b7,⟨a,T⟩,P.kx.kx K (by simp),P.rd.kx K ⟨by rw[P.pb.2];decide,by decide,by decide⟩,P.nw,P.no,P.pb⟩
def PlS.tape(P:PlS Y x b l v6 v7 B f k)(F:Fx x y [b]){c:Nat}(T:Tp y b l c):PlS Y y b l v6 v7 B f k:=P.kxx (F.kx λq a=>by simp at a;subst a;rw[P.pb.1];decide) T
def PlS.reads(P:PlS Y x b l v6 v7 B f k){d:Nat->AV}{i:Nat}(t:i<4)(R:Rds y B d (k+2))(F:Fx x y (B::aA (f i)))(A:∀j,j<4->∀q∈aA (d j),q∈aA (f j)\/bK x q){n:Nat}(E:k+1<=n)
  (w:∃ds s,box x (6,v6)=V ⟨40,7,U,U,[ds]⟩/\Lk ds s.c/\vH n s/\L s.cells=5/\L s.bU=1/\L s.count=4):PlS Y y b l v6 v7 B d n:=by
 obtain⟨ds,s,g,r⟩:=w
 obtain⟨v,T⟩:=P.tp
 have u:=P.pb
 have pl:=P.rd.pl i t
 have o:∀{q:Id},q.1≠20->q.1≠47->q.1≠103->q∉B::aA (f i):=λ{q} g r D a=>by
  rcases eW.1 a with rfl|h
  ·exact g u.2
  ·rcases pl _ h with e|e<;>omega
 exact⟨⟨ds,s,F.keep _ _ (o (by simp) (by simp) (by simp)) g,r⟩,F.keep _ _ (o (by simp) (by simp) (by simp)) P.b7,⟨v,T.fx F (o (by omega) (by omega) (by omega))⟩,P.kx.fx F (λq a=> .inr (by
   rcases eW.1 a with rfl|h
   ·exact P.no.2
   ·exact P.nw i t q h)),R.mono (by omega),λj m q a=>by
   rcases A j m q a with h|h
   ·exact P.nw j m q h
   ·intro z C
    by_cases e:q.1∈[14,15,16]
    ·rcases R.pl j m q a with p|p<;>rw[p] at e<;>revert e<;>decide
    ·exact h.no _ (P.kx.keep _ _ e C),P.no,u⟩
end
def tpM(b:Id)(y:ae):Nat:=((box y b).map λx=>match x.aa with|[[.l aa _ _, .s (.int _ n)]]=>L aa-n.toNat|_=>0).getD 0
def aTD{Y:ae}{b:Id}{l:List Int}{a:Nat}(T:Tp Y b l a):tpM b Y=L l-a:=by simp only[tpM,T.bx];show L (l.map cu)-(a:Int).toNat=_;simp
def bfl{k:Nat}{s:bW}{e:aP}(h:vH k s)(i:k<1000)(a:C1 dE s e=U)(g:L s.cells=5)(c:L s.bU=1)(d:L s.count=4):vH (k+1) (nD dE s e)/\L (nD dE s e).cells=5/\L (nD dE s e).bU=1/\L (nD dE s e).count=4:=by refine⟨h.step (by omega),?_⟩;simp only[nD,a,aly,oc];refine⟨?_,?_,by simpa using d⟩;split<;>simpa using g;split<;>simpa using c
section
attribute[local irreducible] aX
def bdm{Y:ae}{b:Id}{l:List Int}{a:Nat}{ds:List AV}{s:bW}{n:Int}(N:L Y=4096)(hb:b.1=16)(T:Tp Y b l a)(hL:Lk ds s.c)(hS:vH 0 s)(h5:L s.cells=5)(h1:L s.bU=1)(h4:L s.count=4)(hn:n<=16):∃r Y1,(∃t:List aP,r= .l (t.map aP.c) I I/\L t<=16/\(∀e∈t,EvL e)/\Kx [14,15,16] Y Y1)/\cZ aS GG 28 [.p b 0 0, .a ds, .a dE.c,iv n,bv U] Y r Y1:=by generalize hQ:(λ(r:AV) (y:ae)=>∃t:List aP,aOo y r= .l (t.map aP.c) I I/\L t<=16/\(∀e∈t,EvL e)/\Kx [14,15,16] Y (kills y (aNW r)))=Qq;refine aQR (R:=Qq) ?_ (λr y h=>by rw[<-hQ] at h;exact h);refine bhB N (oC hL) rfl λs4 v6 v7 K4 dH cH dI S Z=>?_;have F4:Fx Y s4 []:=K4.fx [];have cy:=F4.len.trans N;have cW:aN J (List.drop 4 dE.c)=V (sl cs dE.ay):=rfl;have cB:∀{Y:ae},fS Y (sl cs dE.ay)=V (iv (4:Nat)):=rfl;simp only[aVT,u0,u1,Z,cW,cB,aj,↓uL];refine AP (by decide) (by decide) (by rw[cy];decide) (by decide) λB s9 hB NB F9 bB=>?_;have bc:=F4.trans F9;have P0:PlS Y s9 b l v6 v7 B (λ_=> .l [] U U) 0:=⟨⟨ds,s,F9.kq S,hL,hS,h5,h1,h4⟩,F9.kq Z,⟨a,T.fx bc (by simp)⟩,bc.kx (by simp),⟨by rw[bB];rfl,λi hi=>⟨[],by simp, .inl ⟨rfl,rfl⟩⟩,by simp[aA],by simp[aA]⟩,by simp[aA],⟨cH,(NB.old F4).no⟩,hb,hB⟩;have bT:∀{x:ae} {f:Nat->AV} {k:Nat},PlS Y x b l v6 v7 B f k->fS x (.m B 4)=V (iv (4:Nat)):=λ{x f k} P=>(by simp[fS,P.rd.bx]);simp only[a5q,bT P0,aY,↓uL];have bs:∀{e:aP},aN (V 7) e.c=V (.a e.c):=rfl;have bu:aN (V 6) dE.c=V (.a dE.c):=rfl;suffices hl12:∀{x:ae} {f:Nat->AV},PlS Y x b l v6 v7 B f 4->lV [.l [] U U] x (aRy (iv n) (.p b 0 0) (.p (6,v6) 0 0) (.p (7,v7) 0 0) (.m B 4) Qq) from(by refine yV 4 (λk _ y=>∃f,PlS Y y b l v6 v7 B f k) ⟨_,P0⟩ ?_;rintro k _ x hk ⟨f,P⟩;rcases O:Q ((k:Int)<((4:Nat):Int)) with _|_;simp only[aVW,aI,au,av4,aY,O,↓iB,↓uL];have cx:k=4:=bP hk (bw O);subst cx;exact hl12 P;have cD:k<4:=RF.1 (nt O);have nx:∀{y:ae} {f:Nat->AV},PlS Y y b l v6 v7 B f (k+1)->aVV [iv k] (yI (λ(_:Unit) i=>[iv i]) 4 (λk _ y=>∃f,PlS Y y b l v6 v7 B f k)) (gM 0 4) x [] y:=λ{y f} P=>(by simp only[aVV,aI,au,cS,aY,↓uL];exact yU cD ⟨_,P⟩);have up:∀{y:ae} {f:Nat->AV},PlS Y y b l v6 v7 B f k->PlS Y y b l v6 v7 B f (k+1):=λ{y f} P=>(by obtain⟨ds,s,h1,h2,G,h4⟩:=P.b6;exact⟨⟨ds,s,h1,h2,⟨G.sy.mono (by omega),G.ce,G.fu,G.co,λc hc=>by have:=G.cn c hc;omega⟩,h4⟩,P.b7,P.tp,P.kx,P.rd.mono (by omega),P.nw,P.no,P.pb⟩);obtain⟨az,s',ax,af,bl,bk,cf,cl⟩:=P.b6;obtain⟨x0,x1,x2,x3,t4,o4,t5,o5,t6,o6,rfl⟩:=aXM af;have aL:=P.kx.len.trans N;simp only[aVW,aI,au,av4,aY,O,↓iC,di,a5r,u0,u1,ax,k1A,nM,ip,aj,tf,ci,qM,↓jA,ya,↓uL];refine⟨⟨by omega,by omega⟩,?_⟩;rcases q2:Q (1<gd s'.count ((k:Int)).toNat) with _|_;simp only[u0,aOq,↓jN,Aa,bt,↓uL];exact nx (up P);simp only[u0,aPh,↓jA,ya,↓uL];obtain⟨a',M⟩:=P.tp;refine aPu (d:=37) aL M λu a2 y _ _ T2 _ X=>?_;have K:=P.tape X T2;rcases q3:Q (u=2) with _|_;simp only[u0,u1,q3,bt,↓uL];exact nx (up K);simp only[u0,iM,q3,bt,↓uL];refine K.rd.rd ⟨by omega,by omega⟩ ?_;simp only[aS1,bQ];refine a62 K.rd ⟨by omega,by omega⟩ (.inl rfl) (K.kx.len.trans N) (by omega) hB λa' z f' R F hf=>?_;exact nx (K.reads (by omega) R F hf (dA _) (up K).b6));intro x f P;let j:aG:=λvs y=>∃(v:AV) (t:List aP) (f:Nat->AV),vs=[v]/\L t<=16/\(∀e∈t,EvL e)/\gm y 64 7 v (t.map aP.c)/\(∀q∈aA v,q.1=108/\∀z,box Y q≠V z)/\PlS Y y b l v6 v7 B f (4+L t);refine⟨j,λ_ y=>tpM b y,⟨_,[],f,rfl,by simp,by simp, .inl ⟨rfl,rfl⟩,by simp[aA],P⟩,?_⟩;rintro _ x ⟨v,t,f,rfl,bn,aJ,g,H,P⟩;generalize hI:j=I';obtain⟨a',M⟩:=P.tp;have aL:=P.kx.len.trans N;have aK:fS x v=V (iv (L t)):=(by rw[g.ln,bJ]);have aQ:fe Qq x [v]:=(by show Qq v x;rw[<-hQ];have ei:aNW v=aA v:=(by have:=aQX g;rcases g with⟨_,rfl⟩|⟨c,m,rfl,_⟩<;>rfl);have ef:aOo x v= .l (t.map aP.c) I I:=(by rw[<-g.ar];rcases g with⟨_,rfl⟩|⟨c,m,rfl,_⟩<;>rfl);refine⟨t,ef,bn,aJ,?_⟩;rw[ei];exact P.kx.fx (aOp _ _) λq o=> .inr (H q o).2);rcases O:Q ((L t:Int)<n) with _|_;simp only[aRy,aI,au,aK,u0,u1,O,ip,↓jN,Aa,bt,↓uL];exact aQ;rcases q2:Q ((a':Int)<(L l:Int)) with _|_;simp only[aRy,aI,au,aK,u0,u1,oo M.bx,M.bx,O,q2,k1A,nM,ip,aj,↓jA,bt,↓uL];exact aQ;have dh:L t<16:=(by have:=nt O;omega);have dC:a'<L l:=RF.1 (nt q2);obtain⟨az,s',ax,af,bl,bk,cf,cl⟩:=P.b6;obtain⟨x0,x1,x2,x3,t4,o4,t5,o5,t6,o6,cv⟩:=aXM af;have cV:aN (V 7) az=V (.a az):=(by rw[cv];rfl);simp only[aRy,aI,au,aK,u0,u1,oo M.bx,M.bx,O,q2,ax,P.b7,cV,bu,k1A,nM,ip,aj,↓jA,bt,↓uL];refine jH rfl (bdf aL (.inr (.inr hb)) hB M af (by have:=bl.sy.th;omega) bk (by omega) (P.rd.mono (by omega))) ?_;rintro _ y ⟨e,a2,rfl,he,ah,T2,_,de,K2⟩;refine⟨K2.len,?_⟩;have K:=P.kxx K2 T2;have cF:=K.kx.len.trans N;have g2:gm y 64 7 v (t.map aP.c):=K2.gr g λq o=>(by rw[(H q o).1];decide);simp only[a5p];refine so cF λC y1 G1 dz b9=>?_;refine qr b9 rfl rfl λy2 G2 bf=>?_;have P3:=(K.fx G1 (by simp) (by simp)).fx G2 (by simp) (by simp);have g3:=(g2.fx G1 (by simp)).fx G2 λq o h=>(by have:=(H q o).1;simp at h;subst h;simp at this);have T3:Tp y2 b l a2:=(T2.fx G1 (by simp)).fx G2 (λh=>by simp at h;subst h;simp at hb);obtain⟨aB,s3,be,W,bm,cm,cg,bj⟩:=P3.b6;obtain⟨z0,z1,z2,z3,dL,dJ,dM,dK,cX,cI,aF⟩:=aXM W;have b0:aN (V 7) aB=V (.a aB):=(by rw[aF];rfl);have b8:∀{Y:ae},dG Y (.a aB)= .a s3.c:=λ{Y}=>W.arg Y;obtain⟨cK,cM,cN,cO,cQ,cR,cT⟩:=bm.snB (by omega);simp only[a5o,u0,u1,be,P3.b7,bf,b0,bu,bs,ip,bcy,ar,b8,↓uL];refine⟨⟨by decide,cK,cM,cN,cO,cQ,cR,cT,by have:=he.1;omega,by have:=he.2;omega⟩,?_⟩;rintro _ ⟨cs,rfl,ag⟩;refine⟨by rw[lo,nA];exact .inl (by simp[x9 W];simp[eB,iR,aP.c,br.c,sl]),?_⟩;simp only[oJ,pG,aY];have bV:=P3.kx.len.trans N;refine so bV λa7 y3 G3 dB ca=>?_;refine qr ca rfl (oC ag) λA G4 bg=>?_;have E:=(P3.fx G3 (by simp) (by simp)).fx G4 (by simp) (by simp);have g4:=(g3.fx G3 (by simp)).fx G4 λq o h=>(by have:=(H q o).1;simp at h;subst h;simp at this);have T4:Tp A b l a2:=(T3.fx G3 (by simp)).fx G4 (λh=>by simp at h;subst h;simp at hb);have D:=G4.kq (G3.kq bf);have ad:=G4.kq (G3.kq be);rcases cG:C1 dE s3 e with _|_;simp only[aVU,aIN,u0,↓iC,↓uL];rw[<-hI];exact⟨⟨v,t,f,rfl,bn,aJ,g4,H,E⟩,by rw[aTD T4,aTD M];omega⟩;have bo:=bfl bm (by omega) cG cm cg bj;have cU:aN (V 7) cs=V (.a cs):=(by have:=oC ag;simp[aN,this,oB (aSp this)]);have bp:∀{z:ae} {f':Nat->AV},PlS Y z b l v6 v7 B f' (4+(L t+1))->(∃d,box z (6,v6)=V ⟨40,7,U,U,[d]⟩/\L d=7)->box z (14,C)=V ⟨64,7,U,U,[e.c]⟩->box z (15,a7)=V ⟨40,7,U,U,[cs]⟩->gm z 64 7 v (t.map aP.c)->Tp z b l a2->aSV (.p (14,C) 0 0) [v] (.p (15,a7) 0 0) (.p (6,v6) 0 0) I' (λ_ y=>tpM b y) x [] z:=λ{z f'} P h6 ch ck g T=>(by obtain⟨d6,h6,cu⟩:=h6;have ct:aX aTN 1 z [(0, .a e.c)]=V (.l ([e].map aP.c) U U,z):=ua rfl rfl rfl (by decide) (by simp[aP.c,eN,sl]) (by decide);have ak:∀{l:List aP},∀r∈l.map aP.c,L r=7:=qW (by intro _;rfl);simp only[aSV,aI,au,u0,u1,ch,bs,ct,ip,↓uL];refine apQ g (P.kx.len.trans N) ak ak (by simp) (by simp;omega) λaO z1 g1 F1 p1=>?_;have ac:∀{q:Id},q.1≠108->q∉aA v:=λ{q} h o=>h (H q o).1;have bI:=F1.keep _ _ (ac (by simp)) ck;have cp:=F1.keep _ _ (ac (by simp)) h6;have P1:=P.fx F1 (λq o=>by rw[(H q o).1];decide) λq o=> .inr (.inr (H q o).2);simp only[a5l,u0,u1,bI,cU,ip,↓uL];refine qr cp cu (oC ag) λz2 X c6=>?_;have bd:Tp z2 b l a2:=(T.fx F1 (ac (by omega))).fx X (λh=>by simp at h;subst h;simp at hb);have cJ:∀q∈aA aO,q.1=108/\∀w,box Y q≠V w:=λq o=>⟨(p1 q o).2,λw hw=>(p1 q o).1.no w (P.kx.keep _ _ (by rw[(p1 q o).2];decide) hw)⟩;rw[<-hI];refine⟨⟨aO,t++[e],f',rfl,by simp;omega,λy hy=>?_,?_,cJ,?_⟩,by rw[aTD bd,aTD M];omega⟩;rcases dF.1 hy with h|h;exact aJ y h;simp at h;subst h;exact he;rw[dg];exact g1.p.fx X λq o h=>(by have:=(p1 q o).2;simp at h;subst h;simp at this);rw[P8];exact⟨⟨cs,_,c6,ag,(show 4+L t+1=4+(L t+[e].length) from rfl)▸bo.1,bo.2⟩,X.kq P1.b7,⟨a2,bd⟩,P1.kx.fx X (λq o=> .inr (by simp at o;subst o;exact P.no.1)),P1.rd.fx X (λq o=>by simp at o;subst o;exact⟨λh=>by rw[<-h] at hB;simp at hB,by simp,by simp⟩),P1.nw,P1.no,P1.pb⟩);have up:∀{y:ae} {f:Nat->AV},PlS Y y b l v6 v7 B f (4+L t)->PlS Y y b l v6 v7 B f (4+(L t+1)):=λ{y f} P=>(by obtain⟨ds,s,h1,h2,G,h4⟩:=P.b6;exact⟨⟨ds,s,h1,h2,⟨G.sy.mono (by omega),G.ce,G.fu,G.co,λc hc=>by have:=G.cn c hc;omega⟩,h4⟩,P.b7,P.tp,P.kx,P.rd.mono (by omega),P.nw,P.no,P.pb⟩);have cd:=bp (up E) ⟨_,ad,oC W⟩ D bg g4 T4;have hu:e.aq.toNat<4:=(by omega);have bi:rV (iQ 0 A (.p (14,C) 0 0)) λaR=>rV (kb J A aR) λb3=>rV (iQ 0 A (.p (14,C) 0 0)) λaT=>rV (kb J A aT) λaU=>rV (cz 1 A (.m B 4) aU) λaV=>rV (kb J A aV) λaW=>rV (iQ 6 A (.p (6,v6) 0 0)) λaZ=>rV (kb J A aZ) λa0=>rV (iQ 0 A (.p (14,C) 0 0)) λa1=>rV (kb J A a1) λa3=>rV (cz 1 A a0 a3) λa4=>rV (kb J A a4) λa5=>eV (aX bH 1 A [(0,a5)]) λa6 b1=>eV (j5 3 fB 8 b1 103 aW a6) (a5n (.m B 4) b3 (.p (14,C) 0 0) aR aT aU aV (.p (6,v6) 0 0) aZ a1 a0 a3 a4 a5 aW a6 (aSV (.p (14,C) 0 0) [v] (.p (15,a7) 0 0) (.p (6,v6) 0 0) I' (λ_ y=>tpM b y) x)):=(by have f0:iQ 0 A (.p (14,C) 0 0)=V (.p (14,C) 0 0):=(by rw[rR,D];rfl);have l0:kb J A (.p (14,C) 0 0)=V (iv e.aq):=(by rw[aC5,D];rfl);have f6:iQ 6 A (.p (6,v6) 0 0)=V (.p (6,v6) 0 6):=(by rw[rR,ad];rfl);have l6:kb J A (.p (6,v6) 0 6)=V (.l (s3.count.map ci) cX cI):=(by rw[aC5,ad,aF];rfl);have cw:cz 1 A (.m B 4) (iv e.aq)=V (.p B e.aq.toNat 0):=(by simp[cz,ah.1,E.rd.bx,hu]);have cA:kb J A (.p B e.aq.toNat 0)=V (f e.aq.toNat):=(by simp[kb,iE,E.rd.bx,uU hu,aN]);simp only[f0,l0,f6,l6,cw,cA,aY,tf,ci,qM,aS1,bQ];refine⟨⟨ah.1,by rw[bj];exact ah.2⟩,?_⟩;obtain⟨ns,dD,cc⟩:=E.rd.gr _ hu;have hk:=(O1.of cc).keys (P:=λp=>p=47\/p=103) (λq o=>E.rd.pl _ hu q o);refine a62 E.rd ah (.inr rfl) (E.kx.len.trans N) (by omega) hB λa' z f' R F hf=>?_;simp only[a5m];refine dT ?_ ?_;rcases hk with e1|⟨p,e1,rfl|rfl⟩<;>simp[eL,lb,e1,aTn,a6H,bc6];have h1:=E.rd.pl _ hu;have ne:∀{q:Id},q.1≠20->q.1≠47->q.1≠103->q∉B::aA (f e.aq.toNat):=λ{q} n1 n2 n3 o=>(by rcases eW.1 o with rfl|h;exact n1 hB;rcases h1 _ h with e|e<;>omega);exact bp (E.reads hu R F hf (by omega) (up E).b6) ⟨_,F.keep _ _ (ne (by simp) (by simp) (by simp)) ad,oC W⟩ (F.keep _ _ (ne (by simp) (by simp) (by simp)) D) (F.keep _ _ (ne (by simp) (by simp) (by simp)) bg) (g4.fx F λq o=>ne (by rw[(H q o).1];decide) (by rw[(H q o).1];decide) (by rw[(H q o).1];decide)) (T4.fx F (ne (by omega) (by omega) (by omega))));simp only[aVU,aIN,u0,↓iB,di,↓uL];have f1:iQ 1 A (.p (14,C) 0 0)=V (.p (14,C) 0 1):=(by rw[rR,D];rfl);have l1:kb J A (.p (14,C) 0 1)=V (iv e.kind):=(by rw[aC5,D];rfl);rcases q3:Q (e.kind=3) with _|_;rcases bq:Q (e.kind=23) with _|_;simp only[aSW,u0,f1,l1,iM,q3,bq,↓jA,Aa,bt,↓uL];exact cd;simp only[aSW,u0,f1,l1,iM,q3,bq,↓jA,Aa,bt,↓uL];exact bi;simp only[aSW,u0,f1,l1,iM,q3,↓jN,ya,bt,↓uL];exact bi
end
end Go.Ab
