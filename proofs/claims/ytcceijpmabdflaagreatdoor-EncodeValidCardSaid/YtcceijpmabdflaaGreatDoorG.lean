/- Part of the proof of EncodeValid. -/
import Derived.Test.YtcceijpmabdflaaGreatDoorF
set_option linter.all false
set_option maxRecDepth 100000
open Bool renaming and_eq_true->bN,false->I,true->U
open Decidable renaming decide->Q
open Go.IntKind renaming i64->dq
open Go.Proofs.Tryz renaming prog->aS
open List renaming getElem?_eq_getElem->eC,getElem?_map->bj9,length->L,length_map->bJ,map_append->dg,mem_append->dF,mem_map->dN,mem_singleton->cE,nil_append->dW
open Nat renaming beq->aOU,mul_le_mul_right->qo,succ_mul->tN,zero_add->aj
open Option renaming none->J,some->V
namespace Go.Ab
open Go Go.RowKit Go.Proofs
def r15{w:am}:aN (V 15) w.c=V (.a w.c):=rfl
def bnm{l:List cJ}:∀r∈l.map cJ.c,L r=6:=by intro r a;obtain⟨y,_,rfl⟩:=dN.1 a;rfl
def a7h(g:cJ)(f o:Bool):List AV:=[iv g.kind,iv g.ea,iv g.eb,iv g.ec,iv g.ed, .l (g.cW.map ci) f o]
def bpb{w:am}{g:cJ}{f o:Bool}{a:AV}{j:List cJ}{Y:ae}(s:L Y=4096)(C:kB w)(E:L g.cW<1000)(A:lA Y 49 6 a<|j.map cJ.c)(G:L j<1000000):∃r i,(lA i 49 6 r ((j++if qC w g then[g] else[]).map cJ.c)/\Fx Y i (aA a)/\∀q∈aA r,q∈aA a\/bK Y q/\q.1=13)/\cZ aS GG 24 [.a w.c,a, .a<|a7h g f o] Y r i:=by refine bqi s rfl rfl λe O P v H K M x y=>?_;have d:Fx Y e []:=v.fx [];have t:=d.len.trans s;have D:aN (V 6) (a7h g f o)=V (.a<|a7h g f o):=rfl;have arg:dG e (.a<|a7h g f o)= .a g.c:=rfl;have m:=A.fx d (by simp);have B:kB w/\L g.cW<4611686018427387904:=⟨C,by omega⟩;have n:aX buA 1 e [(0, .a<|a7h g f o)]=V (.l [cJ.c g] U U,e):=aQm (Y:=e) (cs:=a7h g f o) (tgt:=g.c) rfl rfl (by decide) (by simp[cJ.c,eN,sl]) (by decide);simp only[bjs,qy 6,qy 8,u0,u1,x,y,r15,D,rk,ar,arg,a6u,aj,n,↓uL];refine⟨B,λh=>?_,λh=>?_⟩;refine apQ m t bnm (by simp[cJ.c]) (by simp) (by simp;omega) λF N z u k=>?_;simp only[aNN,aoz];exact⟨by rw[h,lD rfl,dg];exact z.p,(d.trans u).mono λq b=> .inl (by simpa using b),λq b=> .inr ⟨(k q b).1.old d,(k q b).2⟩⟩;simp only[aNN,aoz];exact⟨by rw[h];simpa using m,d.mono (by simp),λq b=> .inl b⟩
def cyB:Nat->Nat|0=>1|n+1=>1+16*cyB n
def CyL(w:am)(l:List<|List Int):Prop:=∀c∈l,qC w (Ds c)=U
def bpC{l:List (List Int)}:∀r∈l.map cl,L r=1:=by intro r a;obtain⟨y,_,rfl⟩:=dN.1 a;rfl
def bpa{w:am}(hw:kB w):∀(n:Nat) {p:AV} {path:List Int} {a:AV} {out:List (List Int)} {Y:ae},L path+n=4->0<L path->(∀x∈path,aF (L w.ac) x)->L Y=4096->SlR Y 1 p (path.map ci)->(∀q∈aA p,q.1=54)->lA Y 38 1 a (out.map cl)->(∀q∈aA a,q.1=17)->CyL w out->L out+cyB n<1000000->
    ∃r Y1,(∃out',lA Y1 38 1 r (out'.map cl)/\(∀q∈aA r,q.1=17/\(q∈aA a\/bK Y q))/\Fx Y Y1 (aA a)/\CyL w out'/\L out'<=L out+cyB n)/\cZ aS GG 25 [.a w.c,p,a] Y r Y1:=by
  intro n
  induction n using Nat.strongRecOn with
  |ind n ih=>
  intro p path a out Y hn ao ah S hp pp hG pa hC bz
  have bc:=hw.ev
  have bX:L path<=4:=by omega
  refine bqh S rfl λW v3 K2 lk nf b3=>?_
  have H:Fx Y W []:=K2.fx []
  have ak:=H.len.trans S
  have E:=hp.fx H (by simp)
  have ga:=hG.fx H (by simp)
  have bf:∀{z:ae},SlR z 1 p (path.map ci)->lz z p=sl ci path:=λ{z} h=>by
    rcases h with⟨t,o,rfl⟩|⟨b,m,e,rfl,hb⟩
    · rfl
    · simp[lz,gi,hb,gK,sl]
  have aT:∀{z:ae},SlR z 1 p (path.map ci)->dG z p=sl ci path:=λ{z} h=>by
    rcases h with⟨t,o,rfl⟩|⟨b,m,e,rfl,hb⟩
    · rfl
    · simp[dG,eR,gi,hb,nrm,gK,sl]
  have arg:dG W (.a [iv 2,iv 0,iv 0,iv 0,iv 0,p])= .a (Ds path).c:=by
    show AV.a [iv 2,iv 0,iv 0,iv 0,iv 0,lz W p]=_
    rw[bf E];rfl
  have ba:bM bty anY [(0,iv 2),(5,p)]=V (.a [iv 2,iv 0,iv 0,iv 0,iv 0,p]):=by
    rcases hp with⟨t,o,rfl⟩|⟨b,m,e,rfl,hb⟩<;>rfl
  have kp:m8 p=[]\/m8 p=[54]:=by
    rcases hp.keys (P:=λk=>k=54) pp with h|⟨k,h,rfl⟩
    · exact .inl h
    · exact .inr h
  have hV:kB w/\L (Ds path).cW<4611686018427387904:=⟨hw,by show L path<_;omega⟩
  have bI:∀x,box Y (3,v3)≠V x:=nf
  simp only[bjr,↓uL]
  refine bpD (λd=>∀(y:ae) (K:AV) (out':List<|List Int),Fx Y y (aA a)->box y (3,v3)=V ⟨43,15,U,U,[w.c]⟩->SlR y 1 p (path.map ci)->lA y 38 1 K (out'.map cl)->(∀q∈aA K,q.1=17/\(q∈aA a\/bK Y q))->CyL w out'->L out'<=L out+1->d [K] y) ?_ λd hJ=>?_
  · intro y K out' F c3 E g ia aE bV
    have bW:=F.len.trans S
    simp only[qz 9,aI,au,E.ln,bJ,u0,u1,↓uL]
    refine⟨λh=>?_,λh=>?_⟩
    · simp only[aNN,aoz]
      exact⟨out',g,ia,F,aE,by have:1<=cyB n:=(by cases n<;>simp[cyB]<;>omega);omega⟩
    · obtain⟨m,rfl⟩:∃m,n=m+1:=⟨n-1,by have:=bst h;omega⟩
      have aD:=ah _<|ve ao
      obtain⟨e,he⟩:∃e:Nat,gd path 0=e:=⟨(gd path 0).toNat,by have:=aD.1;omega⟩
      have bU:e<L w.ac:=by have:=aD.2;omega
      show rV (cz 1 y p<|iv ((0:Nat):Int)) _
      refine SlR.ix1 E (i:=0) (c:=iv<|gd path 0) (by rw[bj9,eC ao,bT ao];rfl) λ_ _=>?_
      simp only[he,u0,u1,↓uL]
      rw[fX<|by omega]
      refine AI (α:=AV) (λb i=>[b,iv i]) 1 (L w.ac) (e+1) (by omega) (λj b z=>∃B,Fx Y z (aA a)/\box z (3,v3)=V ⟨43,15,U,U,[w.c]⟩/\SlR z 1 p (path.map ci)/\lA z 38 1 b (B.map cl)/\(∀q∈aA b,q.1=17/\(q∈aA a\/bK Y q))/\CyL w B/\L B<=L out+1+j*cyB m) (s0:=K) ⟨out',F,c3,E,g,ia,aE,by omega⟩ ?_
      rintro j b z hj ⟨B,Fz,z3,Z,gb,M,ag,ak⟩
      have aJ:=Fz.len.trans S
      simp only[qz 49,aI,au,ck,u0,u1,z3,rk,cT,aj,↓uL]
      refine⟨λh2=>?_,λh2=>?_⟩
      · have an:=aL h2
        have bO:j*cyB m<=(j+1)*cyB m:=qo _ (by omega)
        have bR:(j+1)*cyB m<=16*cyB m:=qo _ (by omega)
        have bS:cyB (m+1)=1+16*cyB m:=rfl
        generalize hI:yI (λ(b:AV) (i:Int)=>[b,iv i]) (L w.ac) (λj b z=>∃B,Fx Y z (aA a)/\box z (3,v3)=V ⟨43,15,U,U,[w.c]⟩/\SlR z 1 p (path.map ci)/\lA z 38 1 b (B.map cl)/\(∀q∈aA b,q.1=17/\(q∈aA a\/bK Y q))/\CyL w B/\L B<=L out+1+j*cyB m)=f
        refine bsK (λd=>∀(X:ae) (b':AV) (o3:List<|List Int),Fx Y X (aA a)->box X (3,v3)=V ⟨43,15,U,U,[w.c]⟩->SlR X 1 p (path.map ci)->lA X 38 1 b' (o3.map cl)->(∀q∈aA b',q.1=17/\(q∈aA a\/bK Y q))->CyL w o3->L o3<=L out+1+(j+1)*cyB m->d [b'] X) ?_ λd aK=>?_
        · intro X b' o3 h1 h2 h3 h4 h5 h6 h7
          simp only[qz 69,aI,au,ck,u0,u1,↓uL]
          rw[<-hI]
          exact dR (mk:=λ(a:AV) i=>[a,iv i]) (p:=1) (s:=b) (s':=b') (λ_ _=>rfl) (Y:=z) an (by omega) ⟨o3,h1,h2,h3,h4,h5,h6,h7⟩
        simp only[qz 71,qy 12,au,ck,ar,jM,aT Z,a6u,u0,u1,↓uL]
        refine⟨by omega,?_⟩
        have O:=aK z b B Fz z3 Z gb M ag (by omega)
        rcases hM:Q ((j:Int)∈path) with _|_
        · have ew:dq.wrap ((L path:Int)-1)=((L path-1:Nat):Int):=by rw[eM (by omega)<|by omega];omega
          have al:L path-1<L path:=by omega
          simp only[Bool.not_false,jA,qE,u0,u1,Z.ln,bJ,z3,r15,aj,ew,↓uL]
          refine SlR.ix1 Z (i:=L path-1) (c:=iv<|gd path<|L path-1) (by rw[bj9,eC al,bT al];rfl) λ_ _=>?_
          simp only[jA,ar,a6u,u0,u1,uO,a7g,↓uL]
          refine⟨⟨hw,dJ an,ah _<|ve al⟩,λbL=>?_,λ_=>O⟩
          simp only[nS,bQ]
          refine apV (bA:=[]) (e:=3) (z:=1) (new:=path.map ci) (.inl ⟨rfl,rfl⟩) Z.ro rfl (by decide) (by rw[aJ];decide) (by simp) fF (by simp;omega) λx1 G g3 F3 P3=>?_
          have N:lA G 3 1 x1 (path.map ci):=by simpa using g3
          have v:Fx z G []:=F3.mono (by simp[aA])
          have C:∀q∈aA x1,bK z q/\q.1=51:=λq u=>(P3 q u).elim (λh=>by simp[aA] at h) id
          have bb:aX bH 1 G [(0,iv j)]=V (.l ([(j:Int)].map ci) U U,G):=iz
          have aG:=v.len.trans aJ
          simp only[qz 14,qy 16,ck,bb,bQ,↓uL]
          refine apQ N aG fF fF (by simp) (by simp;omega) λx2 s5 g5 D P5=>?_
          have ap:∀{q:Id},q.1≠51->q∉aA x1:=λh A=>h (C _ A).2
          have a5:=(gb.fx v<|by simp).fx D λq u=>ap (by rw[(M q u).1];decide)
          have bi:=(Z.fx v<|by simp).fx D λq u=>ap (by rw[pp q u];decide)
          have bg:=D.keep _ _ (ap<|by simp)<|v.kq z3
          have bd:=D.len.trans aG
          have aC:Fx Y s5 (aA a):=(Fz.trans<|v.trans D).mono λq u=>by
            simp only[dW,dF] at u
            rcases u with h|h
            · exact .inl h
            · exact .inr ((C q h).1.old Fz).no
          simp only[qz 18,au,↓uL]
          refine jH rfl (ih m (by omega) (p:=x2) (path:=path++[(j:Int)]) (a:=b) (out:=B) (by simp;omega) (by simp) (λx hx=>?_) bd (.of (by rw[dg];exact g5.p)) (λq u=>(P5 q u).2) a5 (λq u=>(M q u).1) ag (by have:(j+1)*cyB m=j*cyB m+cyB m:=tN j<|cyB m;omega)) ?_
          · rcases dF.1 hx with h|h
            · exact ah x h
            · obtain rfl:=cE.1 h;exact dJ an
          rintro r s6 ⟨o3,g6,i6,F6,a8,bx⟩
          refine⟨F6.len,?_⟩
          simp only[qz 20,↓uL]
          refine dT ?_ ?_
          · have kx:m8 x1=[]\/m8 x1=[51]:=by
              rcases(SlR.of N).keys (P:=λk=>k=51) (λq u=>(C q u).2) with h|⟨k,h,rfl⟩
              · exact .inl h
              · exact .inr h
            rcases kp with h|h<;>rcases kx with A|A<;>simp[eL,lb,List.flatMap_cons,aTn,a6H,bc7,bc6,ck,h,A]
          have aN:∀{q:Id},q.1≠17->q∉aA b:=λh A=>h (M _ A).1
          refine aK s6 r o3 ((aC.trans F6).mono λq u=>?_) (F6.keep _ _ (aN<|by simp) bg) (bi.fx F6 λq u=>aN<|by rw[pp q u];decide) g6 (λq u=>⟨(i6 q u).1,?_⟩) a8 (by rw[tN];omega)
          · rcases dF.1 u with h|h
            · exact .inl h
            · exact(M q h).2.elim .inl λA=> .inr A.no
          · rcases(i6 q u).2 with h|h
            · exact(M q h).2
            · exact .inr (h.old aC)
        · simp only[Bool.not_true,jN,u0,u1,uO,a5C,↓uL]
          exact⟨λh=>(by cases h),λ_=>O⟩
      · obtain rfl:j=L w.ac:=Nat.le_antisymm hj<|bw h2
        simp only[aNN,aoz]
        refine⟨B,gb,M,Fz,ag,?_⟩
        have:L w.ac*cyB m<=16*cyB m:=qo _ bc
        simp only[cyB];omega
  simp only[qz 11,qy 4,u0,u1,b3,r15,ba,ar,arg,a6u,aj,↓uL]
  refine⟨hV,λh=>?_,λh=>?_⟩
  · simp only[nS,bQ]
    refine apV (bA:=[]) (e:=3) (z:=1) (new:=path.map ci) (.inl ⟨rfl,rfl⟩) E.ro rfl (by decide) (by rw[ak];decide) (by simp) fF (by simp;omega) λx G g3 F3 P3=>?_
    have N:lA G 3 1 x (path.map ci):=by simpa using g3
    have v:Fx W G []:=F3.mono (by simp[aA])
    have C:∀q∈aA x,bK W q/\q.1=15:=λq u=>(P3 q u).elim (λh=>by simp[aA] at h) id
    have R:=aOp (aA x) G
    have T:∀{q:Id},q.1≠15->q∉aA x:=λh A=>h (C _ A).2
    have a4:=(ga.fx v<|by simp).fx R λq u=>T (by rw[pa q u];decide)
    have a6:=(E.fx v<|by simp).fx R λq u=>T (by rw[pp q u];decide)
    have a2:=R.keep _ _ (T<|by simp)<|v.kq b3
    simp only[qz 6,qy 8,qy 10,baG N,bQ,↓uL]
    refine qs (new:=[[.l (path.map ci) I I]]) a4 rfl (by decide) (by rw[R.len,v.len,ak];decide) bpC (by simp) (by simp) (by simp;omega) λK s5 g5 D P5=>?_
    have aM:∀{q:Id},q.1≠17->q∉aA a:=λh A=>h<|pa _ A
    have aP:Fx Y s5 (aA a):=(H.trans<|v.trans<|R.trans D).mono λq u=>by
      simp only[dW,dF] at u
      rcases u with h|h
      · exact .inr ((C q h).1.old H).no
      · exact .inl h
    refine hJ s5 K (out++[path]) aP (D.keep _ _ (aM<|by simp) a2) (a6.fx D λq u=>aM<|by rw[pp q u];decide) (by rw[dg];exact g5.p) (λq u=>⟨(P5 q u).2, .inr<|((P5 q u).1.old<|v.trans R).old H⟩) (λl S=>?_) (by simp)
    rcases dF.1 S with h1|h1
    · exact hC l h1
    · obtain rfl:=cE.1 h1;exact h
  · exact hJ W a out (H.mono<|by simp) b3 E ga (λq u=>⟨pa q u, .inl u⟩) hC (by omega)
def buP:dO:=a7N
def bxH:eJ buP:=aX8
def bwC:=@a6u
def bn2:=I5 61 [(5,([3,5],[1,4])),(10,([3,6],[1,4,5])),(16,([3,7],[1,4])),(22,([3,9],[1,4,7,8])),(28,([3,10],[1,4])),(33,([3,11],[1,4,10])),(39,([3,12],[1,4])),(44,([3,13],[1,4,12])),(47,([3],[1,4,12,13])),(51,([3,14],[1,4,12,13])),(56,([3,15],[1,4,12,13,14]))]
def bjp a b R:=(.mk _:NR buP bn2 Tryz.f8 [.u] [a] b R).p
def bqf{c0:List AV}{R:cC}(l0:L c0=15)(h:H1 43 15 1 c0 λia b=>bjp ia b R):Ct 8 [.a c0] R:=z1 bn2 bxH Tryz.func8 l0 h
def bjC{w:am}{g:cJ}(h:qC w g=U)(a:g.kind=2):L g.cW<=4/\∀j,j<L g.cW->dh (gd g.cW j) (L w.ac)=U:=by unfold qC at h;rw[bpL a,a7g] at h;simp only[qx,bN,Bool.not_eq_true',I8] at h;refine⟨?_,h.2.1⟩;have:=h.1;simp only[rO,Bool.or_eq_false_iff,apT] at this;omega
def GL(w:am)(z:ae)(b:AV)(N:Nat):Prop:=∃a:List cJ,L z=4096/\box z (1,1)=V ⟨43,15,U,U,[w.c]⟩/\lA z 49 6 b (a.map cJ.c)/\(∀q∈aA b,q.1=13\/q.1=57)/\(∀g∈a,qC w g=U/\L g.cW<=4)/\L a<=N
theorem GL.mono{w:am}{z:ae}{b:AV}{N M:Nat}(h:GL w z b N)(j:N<=M):GL w z b M:=by obtain⟨a,c,d,e,f,g,i⟩:=h;exact⟨a,c,d,e,f,g,by omega⟩
theorem GL.put{w:am}(u:kB w){z:ae}{b:AV}{N d:Nat}{g:cJ}{f o:Bool}{K:be}(h:GL w z b N)(C:N<1000000)(t:L g.cW<=4)(s:∀r e,GL w e r (N+1)->K r e):cB 24 [.a w.c,b, .a<|a7h g f o] z d K:=by obtain⟨A,j,m,n,k,p,B⟩:=h;refine jH rfl (bpb j u (by omega) n<|by omega) ?_;rintro r e ⟨l,F,y⟩;refine⟨F.len,s r e ⟨_,F.len.trans j,F.keep _ _ (λi=>by have:=k _ i;simp at this) m,l,λq i=>?_,λx v=>?_,?_⟩⟩;rcases y q i with h|h;exact k q h;exact .inl h.2;rcases dF.1 v with h|h;exact p x h;split at h;obtain rfl:=cE.1 h;exact⟨by assumption,t⟩;simp at h;rw[List.length_append];split<;>simp<;>omega
def bjZ(w:am)(hp:kB w):Ct 8 [.a w.c] (λr=>∃j:List cJ,r=sl cJ.c j/\(∀g∈j,qC w g=U/\L g.cW<=4)/\L j<=200000):=by have B:=hp;have aO:=B.ev;generalize hQ:(λ(r:AV)=>∃j:List cJ,r=sl cJ.c j/\(∀g∈j,qC w g=U/\L g.cW<=4)/\L j<=200000)=Q;refine aDq (bqf rfl λs2 hl b1 h0=>?_);show bjp (.p (1,1) 0 0) s2 λr=>Q<|bm1 r;have b2:∀{k a b c d:Int},bM bty anY [(0,iv k),(1,iv a),(2,iv b)]=V (.a<|a7h (cJ.mk k a b 0 0 []) U U):=λ{k a b c d}=>rfl;have b4:∀{k a b c d:Int},bM bty anY [(0,iv k),(1,iv a),(2,iv b),(3,iv c),(4,iv d)]=V (.a<|a7h (cJ.mk k a b c d []) U U):=λ{k a b c d}=>rfl;simp only[bjp,u0,u1,b1,rk,cT,aj,↓uL];refine jD (α:=AV) (λa i=>[a,iv i]) 1 (L w.ac) (λk a x=>GL w x a<|k*16) (s0:= .l [] U U) ⟨[],hl,b1, .inl ⟨rfl,rfl⟩,by simp[aA],by simp,by simp⟩ ?_;rintro n a x P G;obtain⟨_,_,N,_⟩:=id G;simp only[qz 31,au,ck,aI,u0,u1,↓uL];refine⟨λh=>?_,λh=>?_⟩;have f:=aL h;refine jD (α:=AV) (λa i=>[a,iv i]) 1 (L w.ac) (λk a x=>GL w x a<|n*16+k) (s0:=a) G ?_;rintro H a y R G;obtain⟨_,_,E,_⟩:=id G;simp only[qz 61,au,ck,aI,u0,u1,E,r15,rk,aj,b2 (c:=0) (d:=0),↓uL];refine⟨λm=>?_,λm=>?_⟩;have e:=aL m;refine GL.put B G (by omega) (by simp) λr z A=>?_;simp only[qz 4,au,ck,u0,u1,↓uL];exact dR (mk:=λ(a:AV) i=>[a,iv i]) (p:=1) (s:=a) (s':=r) (λ_ _=>rfl) (Y:=y) e (by omega) (A.mono<|by omega);exact dR (mk:=λ(a:AV) i=>[a,iv i]) (p:=1) (s:=a) (s':=a) (λ_ _=>rfl) (Y:=x) f (by omega) (G.mono<|by omega);clear N;refine jD (α:=AV) (λa i=>[a,iv i]) 1 (L w.ac) (λk a x=>GL w x a<|256+k*4369) (s0:=a) (G.mono<|by omega) ?_;rintro kc a x S G;obtain⟨_,_,N,_⟩:=id G;have t:aX bH 1 x [(0,iv kc)]=V (.l ([(kc:Int)].map ci) U U,x):=iz;simp only[qz 97,au,ck,aI,u0,u1,N,r15,rk,aj,t,↓uL];refine⟨λh=>?_,λh=>?_⟩;have f:=aL h;obtain⟨j,v,K,C,M,D,q6⟩:=id G;simp only[qz 6,qy 8,↓uL];refine jH rfl (bpa B 3 (p:= .l ([(kc:Int)].map ci) U U) (path:=[(kc:Int)]) (a:= .l [] U U) (out:=[]) rfl (by simp) (λy hy=>by obtain rfl:=cE.1 hy;exact dJ f) v (.inl ⟨_,_,rfl⟩) (by simp[aA]) (.inl ⟨rfl,rfl⟩) (by simp[aA]) (by intro c hc;simp at hc)<|by simp[cyB]) ?_;rintro r y ⟨o,g,ig,F,hC,an⟩;have F':Fx x y []:=F;have aG:L o<=4369:=an;refine⟨F.len,?_⟩;have Gy:GL w y a (256+kc*4369):=⟨j,F.len.trans v,F'.kq K,C.fx F' (by simp),M,D,q6⟩;refine jD (α:=AV) (λa i=>[a,iv i]) 1 (L o) (λk a z=>GL w z a (256+kc*4369+k)/\lA z 38 1 r (o.map cl)) (s0:=a) ⟨Gy,g⟩ ?_;rintro kd a z al ⟨G,W⟩;obtain⟨j,v,K,C,M,D,q6⟩:=id G;simp only[qz 133,qy 10,au,ck,aI,u0,u1,W.ln,bJ,↓uL];refine⟨λm=>?_,λm=>?_⟩;have e:=aL m;have O:=hC _<|ve e;have ak:L (gd o kd)<=4:=(bjC (g:=Ds<|gd o kd) O rfl).1;refine SlR.ix1 (.of W) (i:=kd) (c:=sl ci<|gd o kd) (by rw[bj9,eC e,bT e];rfl) λ_ _=>?_;have ah:bM bty anY [(0,iv 2),(5,sl ci<|gd o kd)]=V (.a (Ds<|gd o kd).c):=rfl;have t:aX buA 1 z [(0, .a (Ds<|gd o kd).c)]=V (.l [cJ.c<|Ds<|gd o kd] U U,z):=ua rfl rfl rfl (by decide) (by simp[cJ.c,eN,sl]) (by decide);simp only[ah,t,aY,bQ,↓uL];refine apQ C v bnm (by simp[cJ.c]) (by simp) (by simp;omega) λa' z2 g2 T P2=>?_;simp only[qz 12,au,ck,u0,u1,↓uL];have no:∀{q:Id},q.1≠13->q.1≠57->q∉aA a:=λh h' u=>(M _ u).elim h h';refine dR (mk:=λ(a:AV) i=>[a,iv i]) (p:=1) (s:=a) (s':=a') (λ_ _=>rfl) (Y:=z) e (by omega) ⟨⟨j++[Ds<|gd o kd],T.len.trans v,T.keep _ _ (no (by simp)<|by simp) K,by rw[dg];exact g2.p,λq u=> .inr (P2 q u).2,λx hx=>?_,by simp;omega⟩,W.fx T λq u=>no (by rw[(ig q u).1];decide)<|by rw[(ig q u).1];decide⟩;rcases dF.1 hx with h|h;exact D x h;obtain rfl:=cE.1 h;exact⟨O,ak⟩;exact dR (mk:=λ(a:AV) i=>[a,iv i]) (p:=1) (s:=a) (s':=a) (λ_ _=>rfl) (Y:=x) f (by omega) (G.mono<|by omega);clear N t;refine jD (α:=AV) (λa i=>[a,iv i]) 1 (L w.ac) (λk a x=>GL w x a<|71000+k*16) (s0:=a) (G.mono<|by omega) ?_;rintro n a x P G;simp only[qz 169,au,ck,aI,u0,u1,↓uL];refine⟨λh=>?_,λh=>?_⟩;have f:=aL h;refine jD (α:=AV) (λa i=>[a,iv i]) 1 (L w.ac) (λk a x=>GL w x a<|71000+n*16+k) (s0:=a) G ?_;rintro H a y R G;obtain⟨_,_,E,_⟩:=id G;simp only[qz 199,au,ck,aI,u0,u1,E,r15,rk,aj,b2 (c:=0) (d:=0),↓uL];refine⟨λm=>?_,λm=>?_⟩;have e:=aL m;refine GL.put B G (by omega) (by simp) λr z A=>?_;simp only[qz 14,au,ck,u0,u1,↓uL];exact dR (mk:=λ(a:AV) i=>[a,iv i]) (p:=1) (s:=a) (s':=r) (λ_ _=>rfl) (Y:=y) e (by omega) (A.mono<|by omega);exact dR (mk:=λ(a:AV) i=>[a,iv i]) (p:=1) (s:=a) (s':=a) (λ_ _=>rfl) (Y:=x) f (by omega) (G.mono<|by omega);refine jD (α:=AV) (λa i=>[a,iv i]) 1 (L w.ac) (λk a x=>GL w x a<|72000+k*6000) (s0:=a) (G.mono<|by omega) ?_;rintro n a x P G;simp only[qz 235,au,ck,aI,u0,u1,↓uL];refine⟨λh=>?_,λh=>?_⟩;have f:=aL h;rw[fX<|by omega];refine AI (α:=AV) (λa i=>[a,iv i]) 1 (L w.ac) (n+1) f (λk a x=>GL w x a<|72000+n*6000+k*350) (s0:=a) (G.mono<|by omega) ?_;rintro H a y R G;obtain⟨_,_,E,_⟩:=id G;simp only[qz 265,au,ck,aI,u0,u1,↓uL];refine⟨λm=>?_,λm=>?_⟩;have e:=aL m;simp+contextual only[di,qz 287,au,ck,aI,u0,u1,E,ix,rk,ar,bwC,aj,Int.toNat_natCast,dJ f,dJ e,aNK,vp,↓uL];refine⟨λh3=>?_,λh3=>?_⟩;simp only[qz 285,aI,au,ck,u0,u1,↓uL];exact dR (mk:=λ(a:AV) i=>[a,iv i]) (p:=1) (s:=a) (s':=a) (λ_ _=>rfl) (Y:=y) e (by omega) (G.mono<|by omega);refine jD (α:=AV) (λa i=>[a,iv i]) 1 (L w.ac) (λk a x=>GL w x a<|72000+n*6000+H*350+k*17) (s0:=a) (G.mono<|by omega) ?_;rintro kc a z S G;simp only[qz 307,au,ck,aI,u0,u1,↓uL];refine⟨λh4=>?_,λh4=>?_⟩;have X:=aL h4;refine AI (α:=AV) (λa i=>[a,iv i]) 1 (L w.ac) kc S (λk a x=>GL w x a<|72000+n*6000+H*350+kc*17+k) (s0:=a) (G.mono<|by omega) ?_;rintro kd a z2 al G;obtain⟨_,_,z1,_⟩:=id G;simp only[qz 337,au,ck,aI,u0,u1,z1,r15,rk,aj,b4,↓uL];refine⟨λh5=>?_,λh5=>?_⟩;have Z:=aL h5;refine GL.put B G (by omega) (by simp) λr z A=>?_;simp only[qz 16,au,ck,u0,u1,↓uL];exact dR (mk:=λ(a:AV) i=>[a,iv i]) (p:=1) (s:=a) (s':=r) (λ_ _=>rfl) (Y:=z2) Z (by omega) (A.mono<|by omega);exact dR (mk:=λ(a:AV) i=>[a,iv i]) (p:=1) (s:=a) (s':=a) (λ_ _=>rfl) (Y:=z) X (by omega) (G.mono<|by omega);simp only[qz 285,aI,au,ck,u0,u1,↓uL];exact dR (mk:=λ(a:AV) i=>[a,iv i]) (p:=1) (s:=a) (s':=a) (λ_ _=>rfl) (Y:=y) e (by omega) (G.mono<|by omega);exact dR (mk:=λ(a:AV) i=>[a,iv i]) (p:=1) (s:=a) (s':=a) (λ_ _=>rfl) (Y:=x) f (by omega) (G.mono<|by omega);obtain⟨j,v,K,C,M,D,q6⟩:=G;refine aOv (v':=sl cJ.c j) (aWs C) rfl ?_;rw[<-hQ];exact⟨j,rfl,D,by omega⟩
def bjb:FT:=om bjZ
def boE{w Lw K}:=aUy bjb bjZ w Lw K
def buQ:dO:=(8,bjb)::buP
def bxJ:eJ buQ:=sz (rj bjZ)<|bxH
def bwD:=And.intro @boE<|@bwC

def aN6{α:Type}(f:α->α->Bool):List α->List α->Bool|[],[]=>U|a::l,b::m=>f a b&&aN6 f l m|_,_=>I
theorem aOC{α:Type}{f:α->α->Bool}(c:∀a b,f a b=U->a=b):∀{l m:List α},aN6 f l m=U->l=m
 |[],[],_=>rfl
 |a::l,b::m,h=>by
  simp only[aN6,bN] at h
  rw[c a b h.1,aOC c h.2]
 |[],_::_,h=>by cases h
 |_::_,[],h=>by cases h
def xqV:Nat->Value->Value->Bool
 |0,_,_=>I
 |n+1,x,y=>
  match x,y with
  | .int k a, .int c b=>Q (k=c)&&Q (a=b)
  | .bool a, .bool b=>a==b
  | .string a, .string b=>Q<|a.data.toList=b.data.toList
  | .agg a, .agg b=>aN6 (xqV n) a.toList b.toList
  | .pointer none, .pointer none=>U
  | .nilFunc, .nilFunc=>U
  | .nilIface, .nilIface=>U
  | .map none, .map none=>U
  |_,_=>I
theorem bhK:∀{n:Nat} {a b:Value},xqV n a b=U->a=b:=by intro n;induction n with|zero=>intro a b h;cases h|succ n c=>intro a b h;simp only[xqV] at h;(split at h<;>first|rfl|(cases h;done)|skip);simp_all;simp_all;rename_i a b;have h:=asq h;obtain⟨⟨a⟩⟩:=a;simp_all;rename_i a b;have h:=aOC (λa b=>c) h;simp_all
def xqA:Nat->AV->AV->Bool
 |0,_,_=>I
 |n+1,x,y=>
  match x,y with
  | .s v, .s w=>xqV 4 v w
  | .u, .u=>U
  | .l r t o, .l D E o'=>(t==E&&o==o')&&aN6 (aN6<|xqA n) r D
  | .a c, .a e=>aN6 (xqA n) c e
  | .t c, .t e=>aN6 (xqA n) c e
  | .q c, .q e=>aN6 (xqA n) c e
  | .p b i j, .p h z A=>Q<|b=h/\i=z/\j=A
  | .m b i, .m h z=>Q<|b=h/\i=z
  | .g k b i j, .g B h z A=>Q<|k=B/\b=h/\i=z/\j=A
  | .f k c d, .f B e C=>Q (k=B)&&(aN6 (xqA n) c e&&aN6 (xqA n) d C)
  |_,_=>I
def aYn:∀{n:Nat} {a b:AV},xqA n a b=U->a=b:=by intro n;induction n with|zero=>intro a b h;cases h|succ n c=>intro a b h;simp only[xqA] at h;grind [bhK,aOC]
def eqB(x y:bY):Bool:=Q (x.elem=y.elem/\x.size=y.size/\x.own=y.own/\x.var=y.var)&&aN6 (aN6<|xqA 9) x.bA y.bA
theorem bbh{x y:bY}(h:eqB x y=U):x=y:=by unfold eqB at h;rw[bN] at h;obtain⟨c,d,e,f⟩:=asq h.1;have g:=aOC (λa b=>aOC<|λa b=>aYn) h.2;cases x;simp_all
def kpS(a b:vG):Bool:=Nat.ble a.I6 b.I6&&(List.range<|a.I6+1).all λv=>match a.val v with|none=>U|some x=>match b.val v with|some y=>eqB x y|none=>I
def kpB:ae->ae->Bool:=eqLs' kpS
where eqLs' (f:vG->vG->Bool):ae->ae->Bool
 |[],[]=>U
 |a::l,b::m=>f a b&&eqLs' f l m
 |_,_=>I
def a6R:∀{Y Y':ae},kpB Y Y'=U->L Y'=L Y/\∀k,kpS (aZ Y k) (aZ Y' k)=U
 |[],[],_=>⟨rfl,λk=>by simp only[aZ,List.getD_nil];rfl⟩
 |a::l,b::m,h=>by
  have h:(kpS a b&&kpB.eqLs' kpS l m)=U:=h
  rw[bN] at h
  have c:=a6R (Y:=l) (Y':=m) h.2
  refine⟨by simp[c.1],λk=>?_⟩
  cases k with
  |zero=>exact h.1
  |succ k=>exact c.2 k
 |[],_::_,h=>by cases h
 |_::_,[],h=>by cases h
theorem bdG{Y Y':ae}(h:kpB Y Y'=U):Kp Y Y':=by obtain⟨a,c⟩:=a6R h;refine⟨a,λk=>?_,λb x d=>?_⟩;simp_all [kpS];have h:=c b.1;unfold kpS at h;grind [box,Nat.le_trans,Nat.le_of_ble_eq_true,bbh]
section
variable(P:Program)(G:I7)
abbrev aPc:=FuncId->List AV->ae->Nat->Option (AV×ae)
abbrev aQb:=Code->List AV->ae->Option (Exit×List AV×ae)
def aWf(a:aPc)(b:List AV)(Y:ae)(o:Oper):Option (AV×ae):=
 match dz P (du G b) Y o.op with
 |some av=>V (av,Y)
 |none=>
  match eA P (du G b) Y (o.dst.getD 0) o.op with
  |some p=>V p
  |none=>
   match o.op with
   | .call c=>
    match c.callee with
    | .value f=>
     match du G b f with
     | .f fn first cap=>a fn (first++c.args.toList.map (du G b)++cap) Y (o.dst.getD 0)
     |_=>J
    |_=>J
   |_=>J
def aS9(b:aPc)(ops:Array Oper)(a:List AV)(Y:ae)(o:Oper):Option (List AV×ae):=
 match rh ops a o with
 |some true=>match aWf P G b a Y o with|some p=>V (ge a o.dst p.1,p.2)|none=>J
 |some false=>V (ge a o.dst<|.t [],Y)
 |none=>J
def aRK(a:aPc)(ops:Array Oper):List Oper->List AV->ae->Option (List AV×ae)
 |[],b,Y=>V (b,Y)
 |o::l,b,Y=>match aS9 P G a ops b Y o with|some p=>aRK a ops l p.1 p.2|none=>J
def aS8(b:aPc)(ops:Array Oper):List Oper->List fY->List AV->ae->Option (List fY×List AV×ae)
 |[],a,c,Y=>V (a,c,Y)
 |o::l,a,c,Y=>match aS9 P G b ops c Y o with|some p=>aS8 b ops l (a++[lab P G ops c Y o]) p.1 p.2|none=>J
def aQ0:Exit->Bool| .normal| .ret=>U|_=>I
def a6k(Y:ae)(d:Nat)(c:ae)(r:AV):Option (AV×ae):=
 match r with
 | .l [] true true=>V (.l [] U U,Y)
 | .m b n=>match box c b with|some x=>if qA x=U then V (.m (zt Y d) n,put Y d x) else J|none=>J
 | .a cs=>if(wn cs).Nodup then(match gU c d Y cs with|some p=>V (.a p.1,p.2)|none=>J) else J
 |_=>J
abbrev aSo:=List<|FuncId×List AV×AV
structure aPP where
 l:aSo
 cl:List (FuncId×TypeId×Nat)
def aTq(fn:FuncId)(ys:List AV):aSo->Option AV|[]=>J|p::T=>bif aOU fn p.1&&aN6 (xqA 9) ys p.2.1 then V p.2.2 else aTq fn ys T
def aRG(fn:FuncId):List (FuncId×TypeId×Nat)->Option (TypeId×Nat)|[]=>J|p::T=>bif aOU fn p.1 then V p.2 else aRG fn T
def aWe(Y:ae)(d:Nat)(p:TypeId×Nat)(ys:List AV):Option (AV×ae):=
 match ys with
 |[.l [] false false]=>V (.l [] U U,Y)
 |[.l (r::bA) false false]=>
  if((r::bA).all λr=>aOU (L r) p.2&&r.all gY)=U/\L (r::bA)<1000000 then V (.m (zt Y d)<|L (r::bA),put Y d ⟨p.1,p.2,U,I,r::bA⟩) else J
 |_=>J
def aRJ(T:aPP)(E:aQb):aPc:=λfn xs Y d=>
 match P.funcs[fn]? with
 |none=>J
 |some f=>
  match f.body with
  |none=>J
  |some c=>
   if(f.name== "runtime.NumGoroutine")=U then J
   else if G.nw fn=U then
    if(xs.map<|dG Y).all iX=U/\aRI Y d=U then
     match aRG fn T.cl with
     |some p=>aWe Y d p<|xs.map<|dG Y
     |none=>
     match E c (start f<|xs.map<|dG Y) eK with
     |some (e,b,a)=>if aQ0 e=U then(match wG P f b a with|some r=>a6k Y d a r|none=>J) else J
     |none=>J
    else J
   else if G.imp fn=U then
    match E c (start f xs) Y with
    |some (e,b,a)=>
     if aQ0 e=U then
      match wG P f b a with
      |some r=>
       if L a=L Y then
        if G.rd fn=U then(if kpB Y (kills a<|eB r)=U/\kG (eR a r)=U then V (eR a r,Y) else J)
        else V (r,a)
       else J
      |none=>J
     else J
    |none=>J
   else if(xs.map<|dG Y).all iX=U/\L (xs.map<|dG Y)<=f.ntmps then
    match aTq fn (xs.map<|dG Y) T.l with
    |some r=>if kG r=U/\(nA Y xs=I\/uN r=U) then V (r,Y) else J
    |none=>
    match E c (start f<|xs.map<|dG Y) (ly f) with
    |some (e,b,a)=>
     if aQ0 e=U then
      match yB P f b a with
      |some r=>if kG r=U/\(nA Y xs=I\/uN r=U) then V (r,Y) else J
      |none=>J
     else J
    |none=>J
   else J
def aRL(T:aPP)(E:aQb):aQb:=λc a Y=>
 match c with
 | .skip=>V (.normal,a,Y)
 | .label _=>V (.normal,a,Y)
 | .region _ ops false=>match aRK P G (aRJ P G T E) ops ops.toList a Y with|some p=>V (.normal,p.1,p.2)|none=>J
 | .region _ ops true=>
  if rG G ops.toList=U then match aRK P G (aRJ P G T E) ops ops.toList a Y with|some p=>V (.normal,p.1,p.2)|none=>J
  else match aS8 P G (aRJ P G T E) ops ops.toList [] a Y with|some p=>if xG ops p.1=U then V (.normal,p.2.1,p.2.2) else J|none=>J
 | .seq x y=>match E x a Y with|some (.normal,τ',Y')=>E y τ' Y'|r=>r
 | .cond c x y=>match du G a c with| .s (.bool t)=>if t=U then E x a Y else E y a Y|_=>J
 | .block b c=>match E c a Y with|some (.exit j,τ',Y')=>if j=b then V (.normal,τ',Y') else V (.exit j,τ',Y')|r=>r
 | .loop c=>match E c a Y with|some (.normal,τ',Y')=>E (.loop c) τ' Y'|r=>r
 | .exit b=>V (.exit b,a,Y)
 | .ret=>V (.ret,a,Y)
 |_=>J
def ev(T:aPP):Nat->aQb|0=>λ_ _ _=>J|n+1=>aRL P G T<|ev T n
end
section
variable{P:Program}{G:I7}
def Xcl(P:Program)(G:I7)(fn:FuncId)(xs:List AV)(Y:ae)(d:Nat)(K:be):Prop:=
 if G.nw fn=U then tS P G fn xs Y d K else if G.imp fn=U then tR P G fn xs Y d K else Kh P G fn xs Y λr=>K r Y
def aRe(P:Program)(G:I7)(a:aPc):Prop:=∀fn xs Y d r Y',a fn xs Y d=V (r,Y')->∀K:be,K r Y'->Xcl P G fn xs Y d K
def aUx(P:Program)(G:I7)(E:aQb):Prop:=∀c a Y e τ' Y',E c a Y=V (e,τ',Y')->∀Q:QX,Q e τ' Y'->iq P G c Q a Y
theorem bbm{a:aPc}(g:aRe P G a){b:List AV}{Y Y':ae}{o:Oper}{r:AV}(h:aWf P G a b Y o=V (r,Y')){K:be}(d:K r Y'):j0 P G b Y o K:=by unfold aWf at h;unfold j0;split at h;simp_all;rename_i l;rw[l];simp only;split at h;simp_all;rename_i i;rw[i];simp only;split at h;rename_i c k;rw[k];simp only;split at h;rename_i f j;rw[j];simp only;split at h;rename_i fn first cap e;rw[e];exact g _ _ _ _ _ _ h K d;(cases h);(cases h);cases h
theorem a6l{a:aPc}(d:aRe P G a){ops:Array Oper}{b τ':List AV}{Y Y':ae}{o:Oper}(h:aS9 P G a ops b Y o=V (τ',Y')){K:aG}(c:K τ' Y'):kS P G ops o K b Y:=by grind [aS9,kS,bbm]
theorem a6m{a:aPc}(d:aRe P G a){ops:Array Oper}{K:aG}:∀{l:List Oper} {b τ':List AV} {Y Y':ae},aRK P G a ops l b Y=V (τ',Y')->K τ' Y'->rE P G ops l K b Y:=by intro l;induction l with|nil=>intro b τ' Y Y' h c;cases h;exact c|cons o l f=>intro b τ' Y Y' h c;simp only[aRK] at h;split at h;rename_i p e;exact a6l d (τ':=p.1) (Y':=p.2) e<|f h c;cases h
theorem bbk{b:aPc}(e:aRe P G b){ops:Array Oper}{K:List fY->aG}:∀{l:List Oper} {a ls:List fY} {c τ':List AV} {Y Y':ae},aS8 P G b ops l a c Y=V (ls,τ',Y')->K ls τ' Y'->qq P G ops l a K c Y:=by intro l;induction l with|nil=>intro a ls c τ' Y Y' h d;cases h;exact d|cons o l g=>intro a ls c τ' Y Y' h d;simp only[aS8] at h;split at h;rename_i p f;exact a6l e (τ':=p.1) (Y':=p.2) f<|g h d;cases h
def aWD{e:Exit}(h:aQ0 e=U):e= .normal\/e= .ret:=by cases e<;>first|exact .inl rfl|exact .inr rfl|cases h
theorem a6j(o:tQ P){E:aQb}(j:aUx P G E){fn:FuncId}{f:Func}{c:Code}(n:P.funcs[fn]?=V f)(l:f.body=V c)(p:¬(f.name== "runtime.NumGoroutine")=U){xs g:List AV}{Y d:ae}{e:Exit}{r:AV}(h:E c (start f xs) Y=V (e,g,d))(m:aQ0 e=U)(i:wG P f g d=V r):cZ P G fn xs Y r d:=by obtain⟨q,Y',⟨rfl,rfl⟩,k⟩:=aBf (R:=λa b=>a=r/\b=d) o n l (by grind) (j _ _ _ _ _ _ h (QB P f λa b=>a=r/\b=d)<|by rcases aWD m with rfl|rfl<;>exact⟨r,i,rfl,rfl⟩);exact k
def aYw(P:Program)(G:I7)(T:aSo):Prop:=∀p∈T,zm P G p.1 p.2.1 (·=p.2.2)
def a78(P:Program)(G:I7)(T:List<|FuncId×TypeId×Nat):Prop:=∀p∈T,∀bA:List (List AV),(∀r∈bA,L r=p.2.2)->L bA<1000000->∃r a,cZ P G p.1 [.l bA I I] eK r a/\(bA=[]->r= .l [] U U)/\(bA≠[]->∃b,r= .m b (L bA)/\box a b=V ⟨p.2.1,p.2.2,U,I,bA⟩)
structure aSn(P:Program)(G:I7)(T:aPP):Prop where
 fp:∀fn,G.fp fn=J
 l:aYw P G T.l
 cl:a78 P G T.cl
def a6Q{fn:FuncId}{ys:List AV}{r:AV}:∀{T:aSo},aYw P G T->aTq fn ys T=V r->zm P G fn ys (·=r)
 |[],_,h=>by cases h
 |p::T,d,h=>by
  simp only[aTq] at h
  cases c:(aOU fn p.1&&aN6 (xqA 9) ys p.2.1) with
  |true=>
   rw[c] at h
   rw[bN] at c
   have e:=Nat.eq_of_beq_eq_true c.1
   have f:=aOC (λa b=>aYn) c.2
   obtain rfl:=Option.some.inj h
   subst e f
   exact d p (by simp)
  |false=>
   rw[c] at h
   exact a6Q (λq g=>d q<|by simp[g]) h
theorem a6a{fn:FuncId}{p:TypeId×Nat}:∀{T:List (FuncId×TypeId×Nat)},aRG fn T=V p->(fn,p)∈T
 |[],h=>by cases h
 |q::T,h=>by
  simp only[aRG] at h
  cases a:aOU fn q.1 with
  |true=>
   grind [Nat.eq_of_beq_eq_true]
  |false=>rw[a] at h;exact List.mem_cons_of_mem _<|a6a h
theorem bbj{T:aPP}(l:aSn P G T){fn:FuncId}{p:TypeId×Nat}{xs:List AV}{Y Y':ae}{d:Nat}{r:AV}(o:aRG fn T.cl=V p)(i:(xs.map<|dG Y).all iX=U/\aRI Y d=U)(h:aWe Y d p (xs.map<|dG Y)=V (r,Y')){K:be}(g:K r Y'):zI P G fn xs Y d K:=by have f:=l.cl _<|a6a o;refine⟨i.1,i.2,?_⟩;generalize xs.map (dG Y)=ys at*;unfold aWe at h;split at h;(cases h);obtain⟨r,a,c,j,_⟩:=f [] (by simp) (by decide);exact⟨r,a,c, .inl ⟨j rfl,g⟩⟩;rename_i q bA;split at h;rename_i e;cases h;obtain⟨e,n⟩:=e;rw[List.all_eq_true] at e;obtain⟨r,a,c,_,k⟩:=f (q::bA) (by simp_all) n;obtain⟨b,rfl,m⟩:=k (by simp);refine⟨_,a,c, .inr ⟨b,_,_,rfl,m,?_,g⟩⟩;grind [qA];(cases h);cases h
theorem bbi(z:tQ P){T:aPP}(t:aSn P G T){E:aQb}(s:aUx P G E):aRe P G (aRJ P G T E):=by intro fn xs Y d r Y' h K k;unfold aRJ at h;unfold Xcl;split at h;(cases h);rename_i f v;split at h;(cases h);rename_i c u;split at h;(cases h);rename_i C;split at h;rename_i A;rw[lD A];split at h;rename_i a;split at h;rename_i p y;exact .inl<|bbj t y a h k;split at h;rename_i e F q o;split at h;rename_i m;split at h;rename_i B g;have j:=a6j z s v u C o m g;unfold a6k at h;split at h;(cases h);exact .inl ⟨a.1,a.2,_,_,j, .inl ⟨rfl,k⟩⟩;rename_i b n;split at h;rename_i x O;split at h;rename_i M;cases h;exact .inl ⟨a.1,a.2,_,_,j,by grind⟩;(cases h);(cases h);rename_i cs;split at h;rename_i D;split at h;rename_i p y;cases h;exact .inr<|.inr ⟨a.1,a.2,cs,q,p.1,p.2,j,D,y,k⟩;(cases h);(cases h);(cases h);(cases h);(cases h);(cases h);(cases h);rename_i A;rw[lC A];split at h;rename_i w;rw[lD w];split at h;rename_i e F q o;split at h;rename_i m;split at h;rename_i B g;have j:=a6j z s v u C o m g;split at h;rename_i H;split at h;grind [tR,aPf,bdG];rename_i N;cases h;unfold tR aPf;rw[t.fp fn];exact⟨_,_,j,H,by simp_all⟩;(cases h);(cases h);(cases h);(cases h);rename_i w;rw[lC w];split at h;rename_i a;split at h;rename_i B g;split at h;rename_i i;cases h;exact⟨_,a6Q t.l g,a.1,i.1,i.2,k⟩;(cases h);split at h;rename_i e F q o;split at h;rename_i m;split at h;rename_i B g;split at h;rename_i i;cases h;refine⟨_,aBh z v u (by grind) a.2<|s _ _ _ _ _ _ o (QR P f (·=_)) ?_,a.1,i.1,i.2,k⟩;rcases aWD m with rfl|rfl<;>exact⟨_,g,i.1,rfl⟩;(cases h);(cases h);(cases h);(cases h);cases h
theorem bdK{p:Nat->Prop}:∀{n:Nat},p n->∃m,p m/\∀k,p k->m<=k:=by intro n;induction n using Nat.strongRecOn with|_ n a=>grind
theorem bbl(F:tQ P){T:aPP}(D:aSn P G T):∀n,aUx P G (ev P G T n):=by intro n;induction n using Nat.strongRecOn with|_ n A=>cases n with|zero=>intro c b Y e τ' Y' h;cases h|succ n=>have g:=A n<|Nat.lt_succ_self n;have C:=bbi (G:=G) F D g;intro c b Y e τ' Y' h Q f;have M:=h;change aRL P G T (ev P G T n) c b Y=_ at h;unfold aRL at h;split at h;(cases h;exact f);(cases h;exact f);split at h;rename_i p E;cases h;exact a6m C E f;(cases h);show sF P G _ _ _ _;grind [sF,a6m,bbk];rename_i x y;show iq P G x _ _ _;split at h;rename_i l u d;exact g _ _ _ _ _ _ d _<|g _ _ _ _ _ _ h _ f;rename_i q;refine g _ _ _ _ _ _ h _ ?_;(cases e<;>first|exact f|simp_all);rename_i cc x y;show(match du G b cc with| .s (.bool t)=>if t=U then iq P G x Q b Y else iq P G y Q b Y|_=>False);split at h;rename_i t N;split at h;rename_i d;rw[lD d];exact g _ _ _ _ _ _ h _ f;rename_i d;rw[lC d];exact g _ _ _ _ _ _ h _ f;(cases h);rename_i H c;show iq P G c _ _ _;split at h;rename_i j l u d;refine g _ _ _ _ _ _ d _ ?_;show(if j=H then Q .normal _ _ else Q (.exit j) _ _);grind;rename_i q;refine g _ _ _ _ _ _ h _ ?_;(cases e<;>first|exact f|simp_all);rename_i c;clear h;let r:List AV->ae->Nat->Prop:=λb Y m=>ev P G T m (.loop c) b Y=V (e,τ',Y');let a:aG:=λb Y=>∃m,m<=n+1/\r b Y m;have i:∀b Y,∃m,a b Y->r b Y m/\(∀k,r b Y k->m<=k):=(by intro b Y;by_cases hI:a b Y;obtain⟨m,_,z⟩:=hI;obtain⟨k,d,v⟩:=bdK z;grind;simp_all);refine⟨a,λb Y=>Classical.choose<|i b Y,(by grind),?_⟩;intro b Y hI;obtain⟨d,v⟩:=Classical.choose_spec (i b Y) hI;generalize z:Classical.choose (i b Y)=m at d v;have K:m<=n+1:=(by grind);(cases m with|zero=>(cases d)|succ k=>have o:=A k (by omega);change aRL P G T (ev P G T k) (.loop c) b Y=_ at d;unfold aRL at d;simp only at d;split at d;rename_i l u B;refine o _ _ _ _ _ _ B _ ?_;have w:a l u:=⟨k,by omega,d⟩;refine⟨w,?_⟩;grind;rename_i q;refine o _ _ _ _ _ _ d _ ?_;cases e<;>first|exact f|simp_all);(cases h;exact f);(cases h;exact f);cases h
end
end Go.Ab
