/- Part of the proof of EncodeAny, made short by a program: CB LC CC LD CD LE CE LF. -/
import Derived.Test.YtokoambdbclaaaaGreatDoorH
set_option linter.all false
set_option maxRecDepth 100000
open And renaming intro->ai
open Bool renaming and_eq_true->bN,false->I,true->U,true_and->iw
open Decidable renaming decide->Q
open Go.IntKind renaming i64->dq
open Int renaming toNat_natCast->bh
open List renaming append_nil->cL,filter_append->me,filter_cons->Cx,filter_nil->Cy,getD_cons_zero->RQ,length->L,length_cons->bZ,length_filter_le->fZ,length_map->bJ,length_nil->bO,length_take->gC,map_append->dg,nil_append->dW,take_length->gV,take_succ_eq_append_getElem->iJ
open Nat renaming le_antisymm->bP,le_trans->gl,lt_of_lt_of_le->gh,reduceAdd->dc,zero_add->aj
open Option renaming none->J,some->V
namespace Go.Ab
open Go Go.RowKit Go.Proofs
def named(w:br)(a obj:Int):Bool:=
 bif Q (a=1)||(Q (a=2)||(Q (a=5)||(Q (a=12)||(Q (a=13)||(Q (a=14)||Q (a=15)))))) then Q (obj= -1)
 else bif Q (a=3)||Q (a=4) then dh obj (L w.cells)
 else bif Q (a=6)||Q (a=7) then dh obj (L w.ak)&&!(gd w.ak obj.toNat).rw
 else bif Q (a=8)||(Q (a=9)||(Q (a=10)||Q (a=11))) then dh obj (L w.ak)&&(gd w.ak obj.toNat).rw
 else bif Q (a=16)||(Q (a=17)||(Q (a=18)||Q (a=19))) then dh obj (L w.bC)
 else bif Q (a=20)||Q (a=21) then dh obj (L w.ay)
 else bif Q (a=22)||Q (a=23) then dh obj (L w.bU)
 else I
theorem OS(w:br)(b obj:Int):Ct Mq [.a w.c,iv b,iv obj] (·=bv (named w b obj)):=by refine aLv rfl λg f d e=>?_;simp only[ac9,↓uL];simp only[f8,adn,iM,aY,sw,↓uL];simp only[adg,aI,au,↓uL];simp only[f8,adi,iM,aY,sw,↓uL];simp only[ada,aI,au,↓uL];simp only[f8,adj,iM,aY,sw,↓uL];simp only[adb,aI,au,↓uL];simp only[f8,adk,iM,aY,sw,↓uL];simp only[adc,aI,au,↓uL];simp only[f8,adl,iM,aY,sw,↓uL];simp only[ade,aI,au,↓uL];simp only[f8,adm,iM,aY,sw,↓uL];simp only[adf,aI,au,↓uL];simp only[f8,ado,iM,aY,sw,↓uL];simp only[adh,aI,au,↓uL];simp+contextual only[↓iC,↓iB,↓iS,u0,u1,z8,ar,d,rk,ix,aj,named,cond_true,cond_false,DR,implies_true,and_self,↓uL]
def FH:FT:=za OS
def ayP{w kind obj Lw K}:=KP FH OS w kind obj Lw K
def fN(w:br)(s:bW):Bool:=lh w s.sync&&(Q (L s.cells=L w.cells)&&(Q (L s.bU=L w.bU)&&Q (L s.count=L w.ay)))
theorem OU(w:br)(s:bW)(e:L w.bC<4611686018427387904):Ct Ms [.a w.c, .a s.c] (·=bv (fN w s)):=by refine aLx rfl rfl λh g b d f=>?_;simp+contextual only[ads,u0,u1,z8,ar,b,d,rk,ix,aj,fN,Int.ofNat_inj,e,and_self,↓uL]
def Cc:FT:=gz OU
def ayR{w s Lw K}:=gX Cc OU w s Lw K
def pe(s:aW)(c:Int)(i:Nat):Bool:=Q ((gd s.ay i).cQ=3)&&Q ((gd s.ay i).cond=c)
def eh(s:aW)(c:Int)(k:Nat):List Int:=((List.range k).filter (pe s c)).map λ(i:Nat)=>(i:Int)
def fO(s:aW)(c:Int):List Int:=eh s c (L s.ay)
theorem vc(s:aW)(c:Int)(k:Nat):eh s c (k+1)=eh s c k++if pe s c k then[(k:Int)] else[]:=by simp only[eh,List.range_succ,me,dg,Cx,Cy];split<;>simp
theorem wU(s:aW)(c:Int)(k:Nat):L (eh s c k)<=k:=by simp only[eh,bJ];exact gl (fZ _ _) (by simp)
theorem OQ(s:aW)(c:Int)(w:L s.ay<1000000):Ct Mo [.a s.c,iv c] (λr=>∃t,r= .l ((fO s c).map ci) t U):=by refine aLt rfl λy p n v=>?_;simp only[II,↓uL];refine am9 (λa i=>[a,iv i]) 1 [34] 3 1 (L s.ay) (λk=>(eh s c k).map ci) (λ_=>True) trivial (.inl ⟨rfl,rfl⟩) λk a Y o _ d b=>?_;have f:box Y (2,1)=_:=b.bt n;simp+contextual only[ac5,ac6,ac7,II,u0,u1,z8,ar,f,rk,ix,aj,bh,iz,↓uL];refine⟨λh=>⟨bA h,λ_=>bA h,λe=>?_,λe=>?_⟩,λh=>?_⟩;have x:=wU s c k;refine fP d rfl (by decide) (by decide) (by rw[b.1,p];decide) (by simp) (by simp) (by simp;omega) λu q j g=>?_;refine Dr (mk:=λa i=>[a,iv i]) (λ_ _=>rfl) (aL h) (by omega) trivial ?_ (b.trans g);rw[vc,if_pos (show pe s c k=U from e),dg];exact j;refine Dr (mk:=λa i=>[a,iv i]) (λ_ _=>rfl) (aL h) (by omega) trivial ?_ b;rw[vc,if_neg (by unfold pe;rw[e];decide),cL];exact d;have m:k=L s.ay:=bP o (bw h);subst m;exact qV d λt=>⟨t,rfl⟩
def w7:FT:=pn OQ
def ayN{s c Lw K}:=rQ w7 OQ s c Lw K
def fJ(l:List Int)(n:Int):List Int:=l.filter λx=>Q (x≠n)
theorem EA{l:List Int}{k:Nat}(h:k<L l):l.take (k+1)=l.take k++[gd l k]:=by rw[bT h,iJ h]
theorem OT(l:List Int)(n:Int)(s:L l<1000000):Ct Mr [sl ci l,iv n] (λr=>∃t,r= .l ((fJ l n).map ci) t U):=by refine aLw λv m q=>?_;simp only[IJ,↓uL];refine am9 (λa i=>[a,iv i]) 1 [25] 3 1 (L l) (λk=>(fJ (l.take k) n).map ci) (λ_=>True) trivial (.inl ⟨rfl,rfl⟩) λk a Y j _ b c=>?_;simp+contextual only[adp,adq,adr,IJ,u0,u1,z8,ar,rk,ix,aj,bh,iz,↓uL];refine⟨λh=>⟨bA h,λd=>⟨bA h,?_⟩,λd=>?_⟩,λh=>?_⟩;have u:L (fJ (l.take k) n)<=k:=gl (fZ _ _) (by simp;omega);refine fP b rfl (by decide) (by decide) (by rw[c.1,m];decide) (by simp) (by simp) (by simp;omega) λp o f e=>?_;refine Dr (mk:=λa i=>[a,iv i]) (λ_ _=>rfl) (aL h) (by omega) trivial ?_ (c.trans e);rw[EA (aL h),fJ,me,dg];simp only[Cx,d,if_true,Cy];exact f;refine Dr (mk:=λa i=>[a,iv i]) (λ_ _=>rfl) (aL h) (by omega) trivial ?_ c;rw[EA (aL h),fJ,me,dg];simp only[Cx,d,Cy,Bool.false_eq_true,if_false,List.map_nil,cL];exact b;have g:k=L l:=bP j (bw h);subst g;rw[gV] at b;exact qV b λt=>⟨t,rfl⟩
def Cb:FT:=pn OT
def ayQ{l n Lw K}:=rQ Cb OT l n Lw K
def aoT:dO:=(Mq,FH)::(Ms,Cc)::(Mo,w7)::(Mr,Cb)::aoS
theorem ao9:eJ aoT:=bI (Rs OS) (bI (hQ OU) (bI (si OQ) (bI (si OT) (Br))))
def K1:=ai @ayP<|ai @ayR<|ai @ayN<|ai @ayQ<|@z8
abbrev mc:List AV:=[(iv 0),(iv 0),(bv I)]
def atX:=bi 48 [(22,([119],[2,4,5,6,11,70])),(35,([160],[2,4,5,6,70]))]
def acR s47 s_3 w_1 a4 a2 R a3 vs207:=∀_:Rg,ah (gt vs207 0) (ag 0 s47 s_3 λc=>ag 2 s47 w_1 λd=>ao 2 s47 d a4 λe=>ag 1 s47 e λf=>ao 2 s47 c f λg=>ag 0 s47 g λh=>al h a2 λi=>aE R s47 [i]) (al a3 (iv 20) λj=>ah j (aO .neq a4 a2 λa=>aT a 3 s47 s_3 λk=>bB a a4 λl=>az a (ao 3 s47 k l) λm=>aT a 0 s47 m λn=>az a (al n (iv 0)) λo=>aD a o (bv I) λp=>aE R s47 [p]) (al a3 (iv 21) λq=>ah q (aO .neq a4 a2 λb=>aT b 3 s47 s_3 λr=>bB b a4 λs=>az b (ao 3 s47 r s) λt=>aT b 0 s47 t λu=>az b (al u (iv 5)) λv=>aD b v (bv I) λw=>aE R s47 [w]) (al a3 (iv 22) λx=>ah x (ag 2 s47 s_3 λy=>ao 1 s47 y a4 λz=>aM s47 z λA=>cf A λB=>aE R s47 [B]) (al a3 (iv 23) λC=>ah C (ag 2 s47 s_3 λD=>ao 1 s47 D a4 λE=>aM s47 E λF=>aE R s47 [F]) (aE R s47 [(bv U)])))))
def acT a3(a:cG):=al a3 (iv 16) λb=>ah b (a [b]) (al a3 (iv 18) λc=>ah c (a [c]) (al a3 (iv 19) λd=>a [d]))
def acQ s47 s_3 a4 a2 R a3 me_45 w_1 vs178:=∀_:Rg,ah (gt vs178 0) (ag 0 s47 s_3 λa=>ao 2 s47 a a4 λb=>ag 0 s47 b λc=>al c a2 λd=>aE R s47 [d]) (al a3 (iv 9) λe=>ah e (ag 0 s47 s_3 λf=>ao 2 s47 f a4 λg=>ag 1 s47 g λh=>fV vr s47 [h,a2] λi=>aE R s47 [i]) (al a3 (iv 12) λj=>ah j (ag 1 s47 s_3 λk=>al k (iv (-1)) λl=>aE R s47 [l]) (al a3 (iv 13) λm=>ah m (ag 1 s47 s_3 λn=>al n a2 λo=>aE R s47 [o]) (al a3 (iv 14) λp=>ah p (ag 2 s47 me_45 λq=>cf q λr=>aE R s47 [r]) (al a3 (iv 15) λs=>ah s (ag 2 s47 me_45 λt=>aE R s47 [t]) (jR 35 (acR s47 s_3 w_1 a4 a2 R a3) (acT a3)))))))
def acS a3(a:cG):=al a3 (iv 7) λb=>ah b (a [b]) (al a3 (iv 11) λc=>a [c])
def acP a3 me_45 R a4 s_3 w_1 a2 s47:=al a3 (iv 1) λN=>ah N (ag 0 s47 me_45 λO=>al O (iv 1) λP=>aE R s47 [P]) (al a3 (iv 17) λS=>ah S (ag 0 s47 me_45 λT=>al T (iv 4) λd=>aT d 1 s47 me_45 λW=>bB d a4 λX=>az d (al W X) λZ=>aD d Z (bv I) λc=>aT c 0 s47 s_3 λaa=>aT c 2 s47 w_1 λab=>bB c a4 λac=>az c (ao 2 s47 ab ac) λad=>aT c 1 s47 ad λae=>az c (ao 2 s47 aa ae) λaf=>aT c 0 s47 af λak=>az c (al ak (iv (-1))) λe=>aD c e (bv I) λf=>aE R s47 [f]) (ag 0 s47 me_45 λg=>aO .neq g (iv 2) λh=>ah h (aE R s47 [(bv I)]) (al a3 (iv 6) λi=>ah i (ag 0 s47 s_3 λj=>ao 2 s47 j a4 λk=>ag 0 s47 k λl=>al l (iv (-1)) λm=>aE R s47 [m]) (al a3 (iv 10) λn=>ah n (ag 0 s47 s_3 λo=>ao 2 s47 o a4 λp=>ag 0 s47 p λq=>al q (iv (-1)) λb=>aT b 0 s47 s_3 λr=>bB b a4 λs=>az b (ao 2 s47 r s) λt=>aT b 1 s47 t λu=>az b (aJ s47 u) λv=>az b (al v (iv 0)) λw=>aD b w (bv I) λx=>aE R s47 [x]) (al a3 (iv 8) λy=>ah y (ag 0 s47 s_3 λz=>ao 2 s47 z a4 λA=>ag 0 s47 A λB=>al B (iv (-1)) λa=>aT a 0 s47 s_3 λC=>bB a a4 λD=>az a (ao 2 s47 C D) λE=>aT a 1 s47 E λF=>bB a a2 λG=>az a (fV vr s47 [F,G]) λH=>az a (cf H) λK=>aD a K (bv I) λM=>aE R s47 [M]) (jR 22 (acQ s47 s_3 a4 a2 R a3 me_45 w_1) (acS a3)))))))
def acO w_1 s_3 a2 a3 a4 s4 R:=aw 6 s4 w_1 λs=>aw 4 s4 s_3 λt=>fV BZ s4 [s,t] λu=>cf u λc=>bG c a2 λe=>bn c 4 s4 w_1 λf=>aC c (aJ s4 f) λg=>aC c (fV su s4 [e,g]) λh=>aC c (cf h) λi=>aD c (bv U) i λa=>aC a (aw 6 s4 w_1) λj=>bG a a3 λk=>bG a a4 λl=>aC a (fV FH s4 [j,k,l]) λm=>aC a (cf m) λn=>aD a (bv U) n λo=>ah o (aE R s4 [(bv I)]) (ag 3 s4 s_3 λp=>ao 3 s4 p a2 λq=>aw 3 s4 q λr=>eV (bs 98 mc s4 11) λb d=>sV (aK 3 d b r) (acP a3 b R a4 s_3 w_1 a2))
theorem aLq{b:List AV}{c:List AV}{d:AV}{e:AV}{f:AV}{R:bd}(l0:L b=6)(l1:L c=4)(h:H2 28 6 5 b 33 4 6 c λg i j=>acO g i d e f j R):Ct Mm [.a b, .a c,d,e,f] R:=z2 atX ao9 Tryz.func56 l0 l1 h
def lc(w:br)(s:aW)(t a obj:Int):Bool:=
 bif Q (a=1) then Q ((gd s.ay t.toNat).cQ=1)
 else bif Q (a=17) then Q ((gd s.ay t.toNat).cQ=4)&&(Q ((gd s.ay t.toNat).cond=obj)&&Q ((gd s.ak (gd w.bC obj.toNat).eg.toNat).dv= -1))
 else bif Q ((gd s.ay t.toNat).cQ≠2) then I
 else bif Q (a=6) then Q ((gd s.ak obj.toNat).dv= -1)
 else bif Q (a=10) then Q ((gd s.ak obj.toNat).dv= -1)&&Q (L (gd s.ak obj.toNat).bk=0)
 else bif Q (a=8) then Q ((gd s.ak obj.toNat).dv= -1)&&!Q (t∈(gd s.ak obj.toNat).bk)
 else bif Q (a=7)||Q (a=11) then Q ((gd s.ak obj.toNat).dv=t)
 else bif Q (a=9) then Q (t∈(gd s.ak obj.toNat).bk)
 else bif Q (a=12) then Q (s.tx= -1)
 else bif Q (a=13) then Q (s.tx=t)
 else bif Q (a=14) then !(gd s.ay t.toNat).atomic
 else bif Q (a=15) then(gd s.ay t.toNat).atomic
 else bif Q (a=16)||(Q (a=18)||Q (a=19)) then Q ((gd s.ak (gd w.bC obj.toNat).eg.toNat).dv=t)
 else bif Q (a=20) then Q (obj≠t)&&Q ((gd s.ay obj.toNat).cQ=0)
 else bif Q (a=21) then Q (obj≠t)&&Q ((gd s.ay obj.toNat).cQ=5)
 else bif Q (a=22) then !(gd s.done obj.toNat)
 else bif Q (a=23) then gd s.done obj.toNat
 else U
def jm(w:br)(s:aW)(t a obj:Int):Bool:=lh w s&&(dh t (L w.ay)&&(named w a obj&&lc w s t a obj))
theorem mJ{w:br}{a obj:Int}(h:named w a obj=U)(b:6<=a)(c:a<=11):aF (L w.ak) obj:=by have:a=6\/a=7\/a=8\/a=9\/a=10\/a=11:=(by omega);rcases this with rfl|rfl|rfl|rfl|rfl|rfl<;>(simp[named] at h;exact dX.1 h.1)
theorem oT{w:br}{a obj:Int}(h:named w a obj=U)(b:16<=a)(c:a<=19):aF (L w.bC) obj:=by have:a=16\/a=17\/a=18\/a=19:=(by omega);rcases this with rfl|rfl|rfl|rfl<;>(simp[named] at h;exact dX.1 h)
theorem Eb{w:br}{a obj:Int}(h:named w a obj=U)(b:20<=a)(c:a<=21):aF (L w.ay) obj:=by have:a=20\/a=21:=(by omega);rcases this with rfl|rfl<;>(simp[named] at h;exact dX.1 h)
theorem oU{w:br}{a obj:Int}(h:named w a obj=U)(b:22<=a)(c:a<=23):aF (L w.bU) obj:=by have:a=22\/a=23:=(by omega);rcases this with rfl|rfl<;>(simp[named] at h;exact dX.1 h)
theorem qP{w:br}{a obj:Int}(h:named w a obj=U)(b:3<=a)(c:a<=4):aF (L w.cells) obj:=by have:a=3\/a=4:=(by omega);rcases this with rfl|rfl<;>(simp[named] at h;exact dX.1 h)
theorem iY{w:br}{s:aW}(h:lh w s=U):(∀c∈w.bC,0<=c.eg/\c.eg<L w.ak)/\L s.ak=L w.ak/\L s.done=L w.bU/\L s.ay=L w.ay:=by simpa[lh,and_assoc] using h
theorem ii{α:Type}[Inhabited α]{l:List α}{i:Int}(h:aF (L l) i):gd l i.toNat∈l:=dB (by have:=h.1;have:=h.2;omega)
theorem OO(w:br)(s:aW)(t b obj:Int)(B:L w.bC<4611686018427387904/\(∀l∈s.ak,L l.bk<4611686018427387904)):Ct Mm [.a w.c, .a s.c,iv t,iv b,iv obj] (·=bv (jm w s t b obj)):=by refine aLq rfl rfl λW M k n H=>?_;simp+contextual only[acO,u0,u1,K1,ar,k,n,rk,ix,aj,↓uL];have K:(!lh w s||!dh t (L w.ay)||!named w b obj)=I->lh w s=U/\dh t (L w.ay)=U/\named w b obj=U:=(by simp[and_assoc]);refine⟨B.1,λh=>?_,λh=>?_⟩;congr 2;unfold jm;(cases i:lh w s<;>cases j:dh t (L w.ay)<;>cases d:named w b obj<;>simp_all);obtain⟨i,j,d⟩:=K h;obtain⟨G,f,v,g⟩:=iY i;have A:aF (L s.ay) t:=(by rw[g];exact dX.1 j);have z:jm w s t b obj=lc w s t b obj:=(by simp[jm,i,j,d]);rw[z];refine⟨A,?_⟩;refine eF rfl rfl (by decide) (by rw[M];decide) λY x y=>?_;rw[H 11 (by decide) (by decide)] at y⊢;have m:box Y (5,1)=_:=x.bt k;have o:box Y (6,1)=_:=x.bt n;simp only[acP,↓uL];simp only[f8,acS,iM,aY,sw,↓uL];simp only[acQ,aI,au,↓uL];simp only[f8,acT,iM,aY,sw,↓uL];simp only[acR,aI,au,↓uL];simp+contextual only[↓iC,↓iB,↓iS,u0,u1,K1,ar,y,m,o,rk,ix,aj,↓uL];have S:aF (L w.bC) obj->aF (L s.ak) (gd w.bC obj.toNat).eg:=λh=>(by rw[f];exact G _ (ii h));have N:Q (b=6)=U->aF (L s.ak) obj:=λe=>(by simp at e;rw[f];exact mJ d (by omega) (by omega));have C:Q (b=10)=U->aF (L s.ak) obj:=λe=>(by simp at e;rw[f];exact mJ d (by omega) (by omega));have P:Q (b=8)=U->aF (L s.ak) obj:=λe=>(by simp at e;rw[f];exact mJ d (by omega) (by omega));have R:Q (b=9)=U->aF (L s.ak) obj:=λe=>(by simp at e;rw[f];exact mJ d (by omega) (by omega));have O:(Q (b=7)||Q (b=11))=U->aF (L s.ak) obj:=λe=>(by simp at e;rw[f];exact mJ d (by omega) (by omega));have q:Q (b=17)=U->aF (L w.bC) obj:=λe=>(by simp at e;exact oT d (by omega) (by omega));have p:(Q (b=16)||(Q (b=18)||Q (b=19)))=U->aF (L w.bC) obj:=λe=>(by simp at e;exact oT d (by omega) (by omega));have D:Q (b=20)=U->aF (L s.ay) obj:=λe=>(by simp at e;rw[g];exact Eb d (by omega) (by omega));have E:Q (b=21)=U->aF (L s.ay) obj:=λe=>(by simp at e;rw[g];exact Eb d (by omega) (by omega));have r:Q (b=22)=U->aF (L s.done) obj:=λe=>(by simp at e;rw[v];exact oU d (by omega) (by omega));have u:Q (b=23)=U->aF (L s.done) obj:=λe=>(by simp at e;rw[v];exact oU d (by omega) (by omega));have T:aF (L s.ak) obj->L (gd s.ak obj.toNat).bk<4611686018427387904:=λh=>B.2 _ (ii h);have F:(L (gd s.ak obj.toNat).bk:Int)=0↔L (gd s.ak obj.toNat).bk=0:=(by omega);simp+contextual only[lc,cond_true,cond_false,S,N,O,P,R,C,p,q,D,E,r,u,T,F,true_and,and_true,implies_true,and_self]
def BY:FT:=zb OO
def ayL{w s t kind obj Lw K}:=KQ BY OO w s t kind obj Lw K
def aoU:dO:=(Mm,BY)::aoT
theorem wP:eJ aoU:=bI (Rt OO) (ao9)
def K3:=ai @ayL<|@K1
def at8:=bi 10 [(3,([5],[0,1]))]
def adR s0 a0 a1 R(x:cG)(m1:fD) vs1:=∀_:Rg,aJ s0 a0 λy=>aU (gt vs1 0) y λt3=>ah t3 (ao 1 s0 a0 (gt vs1 0) λt4=>aM s0 t4 λz=>aU z (iv 1) λc=>bG c a0 λA=>bG c (gt vs1 0) λe=>aC c (ao 1 s0 A e) λf=>aC c (aM s0 f) λg=>bG c a1 λh=>aC c (aO .geq g h) λi=>aD c (bv U) i λb=>bG b (gt vs1 0) λj=>aC b (aO .gtr j (iv 0)) λk=>bG b k λa=>bB a a0 λl=>bB a (gt vs1 0) λm=>az a (ao 1 s0 l m) λn=>az a (aM s0 n) λo=>bB a a0 λp=>bB a (gt vs1 0) λq=>az a (aO .sub q (iv 1)) λr=>az a (ao 1 s0 p r) λs=>az a (aM s0 s) λt=>az a (aO .leq o t) λu=>aC b (aD a u (bv I)) λv=>aD b (bv U) v λw=>ah w (aE R s0 [(bv I)]) (aV (gt vs1 0) (iv 1) λd=>x [d]/\m1 [d]<m1 vs1)) (aE R s0 [(bv U)])
def IQ a0 a1 s0 R:=lR [(iv 0)] (adR s0 a0 a1 R)
theorem aLB{a:AV}{a1:AV}{R:bd}(h:H0 λs0=>IQ a a1 s0 R):Ct Mv [a,a1] R:=z0 at8 wP Tryz.func57 h
def aud:=bi 2 []
def ad8 w_1 a1 s2 R:=aB 7 s2 w_1 λt3=>ag 6 s2 t3 λi=>aJ s2 i λj=>fV Ch s2 [a1,j] λa=>az a (aB 7 s2 w_1) λb=>aT a 6 s2 b λc=>bB a a1 λd=>az a (ao 1 s2 c d) λe=>az a (aM s2 e) λf=>az a (aO .geq f (iv 1)) λg=>aD a g (bv I) λh=>aE R s2 [h]
theorem aLG{b:List AV}{a1:AV}{R:bd}(l0:L b=15)(h:H1 40 15 2 b λc d=>ad8 c a1 d R):Ct MA [.a b,a1] R:=z1 aud wP Tryz.func54 l0 h
def aub:=bi 12 [(3,([2,7],[1,3])),(6,([2],[1,3,7]))]
def adZ vs3(c:cG)(a:fD) vs8:=∀_:Rg,aV (gt vs3 1) (iv 1) λb=>c [(gt vs8 0),b]/\a [(gt vs8 0),b]<a vs3
def ad0 s2 w_1 vs3 a1 R(a:cG):=ag 14 s2 w_1 λb=>ao 7 s2 b (gt vs3 1) λc=>ag 0 s2 c λd=>al d a1 λe=>ah e (al (gt vs3 0) (iv 0) λf=>ah f (aE R s2 [(gt vs3 1)]) (aO .sub (gt vs3 0) (iv 1) λg=>a [g])) (a [(gt vs3 0)])
def ad1 s2 w_1 a1 R I3 m3 vs3:=∀_:Rg,ag 14 s2 w_1 λa=>aJ s2 a λb=>aU (gt vs3 1) b λc=>ah c (jR 6 (adZ vs3 I3 m3) (ad0 s2 w_1 vs3 a1 R)) (aE R s2 [(iv (-1))])
def IR w_1 a1 a2 s2 R:=lR [a2,(iv 0)] (ad1 s2 w_1 a1 R)
theorem aLE{b:List AV}{a1:AV}{c:AV}{R:bd}(l0:L b=15)(h:H1 40 15 3 b λd e=>IR d a1 c e R):Ct My [.a b,a1,c] R:=z1 aub wP Tryz.func60 l0 h
def aue:=bi 12 [(4,([3,4],[1]))]
def ad9 s2 w_1 R(A:cG)(e:fD) vs3:=∀_:Rg,aB 7 s2 w_1 λt4=>ag 6 s2 t4 λB=>aJ s2 B λC=>aU (gt vs3 1) C λD=>ah D (aB 7 s2 w_1 λE=>ag 6 s2 E λf=>ao 1 s2 f (gt vs3 1) λg=>aM s2 g λh=>aU h (iv 0) λa=>aC a (aB 7 s2 w_1) λi=>bn a 6 s2 i λj=>bG a (gt vs3 1) λk=>aC a (ao 1 s2 j k) λl=>aC a (aM s2 l) λm=>aC a (aO .gtr m (iv 400)) λn=>aD a (bv U) n λo=>ah o (aE R s2 [(bv I)]) (aB 7 s2 w_1 λp=>ag 6 s2 p λq=>ao 1 s2 q (gt vs3 1) λr=>aM s2 r λs=>aV (gt vs3 0) s λc=>aV (gt vs3 1) (iv 1) λd=>A [c,d]/\e [c,d]<e vs3)) (ag 6 s2 w_1 λt=>al t (gt vs3 0) λb=>bB b (gt vs3 0) λu=>aT b 14 s2 w_1 λv=>az b (aJ s2 v) λw=>az b (aV u w) λx=>az b (aO .leq x (iv 400)) λy=>aD b y (bv I) λz=>aE R s2 [z])
def IS w_1 s2 R:=lR [(iv 0),(iv 0)] (ad9 s2 w_1 R)
theorem aLH{b:List AV}{R:bd}(l0:L b=15)(h:H1 40 15 1 b λc d=>IS c d R):Ct MB [.a b] R:=z1 aue wP Tryz.func17 l0 h
def at9:=bi 21 [(9,([40],[2,3,7]))]
def adT R s4 t6 s_1 e_3 vs41:=∀_:Rg,ah (gt vs41 0) (aE R s4 [(bv U)]) (al t6 (iv 18) λf=>ah f (aB 0 s4 s_1 λg=>aw 4 s4 g λh=>ag 2 s4 e_3 λi=>fV w7 s4 [h,i] λc=>aJ s4 c λj=>al j (iv 0) λk=>ah k (ag 3 s4 e_3 λl=>al l (iv (-1)) λm=>aE R s4 [m]) (ag 3 s4 e_3 λn=>aO .geq n (iv 0) λa=>aT a 3 s4 e_3 λo=>az a (aB 0 s4 s_1) λp=>aT a 3 s4 p λq=>az a (aJ s4 q) λr=>az a (aU o r) λs=>aD a s (bv I) λb=>bB b c λt=>aT b 3 s4 e_3 λu=>az b (fV vr s4 [t,u]) λv=>aD b v (bv I) λw=>aE R s4 [w])) (al t6 (iv 19) λx=>ah x (ag 3 s4 e_3 λy=>aB 0 s4 s_1 λz=>aw 4 s4 z λA=>ag 2 s4 e_3 λB=>fV w7 s4 [A,B] λC=>aJ s4 C λD=>al y D λE=>aE R s4 [E]) (ag 3 s4 e_3 λd=>al d (iv 0) λe=>aE R s4 [e])))
def adU t6(b:cG):=al t6 (iv 4) λa=>ah a (b [a]) (al t6 (iv 22) λc=>b [c])
def adS s_1 e_3 s4 R:=ag 1 s4 e_3 λb=>al b (iv 3) λt=>ah t (ag 3 s4 e_3 λu=>ag 4 s4 s_1 λc=>ag 2 s4 e_3 λd=>ao 1 s4 c d λe=>aM s4 e λf=>al u f λg=>aE R s4 [g]) (al b (iv 23) λh=>ah h (ag 3 s4 e_3 λi=>ag 5 s4 s_1 λj=>ag 2 s4 e_3 λk=>ao 1 s4 j k λl=>aM s4 l λm=>al i m λn=>aE R s4 [n]) (al b (iv 5) λo=>ah o (ag 3 s4 e_3 λp=>al p (iv 0) λa=>bn a 3 s4 e_3 λq=>aC a (al q (iv 1)) λr=>aD a (bv U) r λs=>aE R s4 [s]) (jR 9 (adT R s4 b s_1 e_3) (adU b))))
theorem aLC{b:List AV}{c:List AV}{R:bd}(l0:L b=7)(l1:L c=7)(h:H2 37 7 2 b 59 7 3 c λd e f=>adS d e f R):Ct Mw [.a b, .a c] R:=z2 at9 wP Tryz.func58 l0 l1 h
def atP:=bi 10 [(3,([5],[0,1]))]
def abS s0 a0 a1 R(b:cG)(m1:fD) vs1:=∀_:Rg,aJ s0 a0 λc=>aU (gt vs1 0) c λt3=>ah t3 (ao 1 s0 a0 (gt vs1 0) λt4=>aM s0 t4 λd=>al d a1 λe=>ah e (aE R s0 [(gt vs1 0)]) (aV (gt vs1 0) (iv 1) λa=>b [a]/\m1 [a]<m1 vs1)) (aE R s0 [(iv (-1))])
def Iz a0 a1 s0 R:=lR [(iv 0)] (abS s0 a0 a1 R)
theorem aLi{a:AV}{a1:AV}{R:bd}(h:H0 λs0=>Iz a a1 s0 R):Ct Mf [a,a1] R:=z0 atP wP Tryz.func51 h
def uJ(l:List Int)(n:Int)(j:Nat):Prop:=1<=gd l j/\gd l j<n/\(0<j->gd l (j-1)<gd l j)
def lZ(l:List Int)(n:Int):Prop:=∀j,j<L l->uJ l n j
instance{l:List Int}{n:Int}{j:Nat}:Decidable (uJ l n j):=by unfold uJ;infer_instance
instance{l:List Int}{n:Int}:Decidable (lZ l n):=by unfold lZ;infer_instance
theorem OX(l:List Int)(n:Int)(i:L l<4611686018427387904):Ct Mv [sl ci l,iv n] (·=bv (Q (lZ l n))):=by refine aLB λs0 _ b=>?_;simp only[IQ,↓uL];refine il (L l) (λk=>∀j,j<k->uJ l n j) (by simp) λk m d=>?_;simp+contextual only[adR,IQ,u0,u1,ix,rk,bh,↓uL];have hs:0<k->(dq.wrap ((k:Int)-1)).toNat=k-1/\dq.wrap ((k:Int)-1)=((k-1:Nat):Int):=λh=>(by rw[eM (by omega) (by omega)];omega);have c:k<L l->((Q (gd l k<1)||Q (n<=gd l k)||Q (0<(k:Int))&&Q (gd l k<=gd l (dq.wrap ((k:Int)-1)).toNat))=I↔uJ l n k):=λh=>(by unfold uJ;by_cases b:0<k;rw[(hs b).1];simp[b,and_assoc];simp[b]);refine⟨λh=>⟨bA h,λ_=>bA h,λ_ _=>bA h,λ_ a=>?_,λa=>?_,λa=>gS (aL h) i (jf d ((c (aL h)).1 a))⟩,λh=>?_⟩;have e:0<k:=(by simpa using a);have:=aL h;rw[(hs e).2];exact dJ (by omega);have:¬lZ l n:=λg=>(by have:=(c (aL h)).2 (g k (aL h));rw[this] at a;cases a);simp[this];have:lZ l n:=λj f=>d j (gh f (bw h));simp[this]
def Cf:FT:=gz OX
def ayU{l n Lw K}:=gX Cf OX l n Lw K
def nO(w:am)(t:Int):Bool:=dh t (L w.init.count)&&Q (1<=gd w.init.count t.toNat)
theorem Pa(w:am)(t:Int):Ct MA [.a w.c,iv t] (·=bv (nO w t)):=by refine aLG rfl λf e b d=>?_;simp+contextual only[ad8,u0,u1,K3,ar,ix,rk,b,aj,dc,nO,DR,true_and,↓uL]
def w8:FT:=lI Pa
def ayZ{w t Lw K}:=nq w8 Pa w t Lw K
def tX(l:List ByteArray)(s:ByteArray):Int:=match l.findIdx? (λx=>Q (x=s)) with|some i=>i|none=> -1
theorem avQ{l:List ByteArray}{s:ByteArray}{k:Nat}(a:k<L l)(h:∀j,j<k->gd l j≠s)(b:gd l k=s):tX l s=k:=by have:l.findIdx? (λx=>Q (x=s))=V k:=(by rw[List.findIdx?_eq_some_iff_getElem];refine⟨a,by rw[<-bT a,b];simp,λj c=>?_⟩;have:=h j c;rw[bT (by omega)] at this;simpa using this);simp[tX,this]
theorem avP{l:List ByteArray}{s:ByteArray}(h:s∉l):tX l s= -1:=by have:l.findIdx? (λx=>Q (x=s))=J:=(by rw[List.findIdx?_eq_none_iff];intro x a;simp only[decide_eq_false_iff_not];exactλe=>h (e▸a));simp[tX,this]
theorem OH(l:List ByteArray)(s:ByteArray)(e:L l<4611686018427387904):Ct Mf [sl cs l,st s] (·=iv (tX l s)):=by refine aLi λs0 _ f=>?_;simp only[Iz,↓uL];refine il (L l) (λk=>∀j,j<k->gd l j≠s) (by simp) λk g b=>?_;simp+contextual only[abS,Iz,u0,u1,ix,rk,bh,↓uL];refine⟨λh=>⟨bA h,λa=>?_,λa=>gS (aL h) e (jf b (by simpa using a))⟩,λh=>?_⟩;rw[avQ (aL h) b (of_decide_eq_true a)];rw[avP λd=>(px (p:=λx=>x≠s)).1 (λj c=>b j (gh c (bw h))) s d rfl]
def FB:FT:=gz OH
def ayE{l s Lw K}:=gX FB OH l s Lw K
def pS(t:Int):List aP->Int->Nat->Int|[],_,_=> -1|e::l,k,i=>if e.aq=t then(if k=0 then i else pS t l (k-1) (i+1)) else pS t l k (i+1)
def oV(w:am)(t k:Int):Int:=pS t w.ac k 0
theorem KK{α:Type}[Inhabited α]{l:List α}{k:Nat}(h:k<L l):l.drop k=gd l k::l.drop (k+1):=by rw[bT h,List.drop_eq_getElem_cons h]
theorem O0(w:am)(t k:Int)(p:L w.ac<1000000/\ -1000000<=k/\k<9223372036854775808):Ct My [.a w.c,iv t,iv k] (·=iv (oV w t k)):=by refine aLE rfl λq o j n=>?_;simp only[IR,↓uL];refine yh (λs:Int×Nat=>[iv s.1,iv s.2]) 1 (L w.ac) (λs=>s.2<=L w.ac/\k-s.2<=s.1/\s.1<=k/\pS t (w.ac.drop s.2) s.1 s.2=oV w t k) (k,0) ⟨by simp,by simp,by simp,by simp[oV]⟩ ?_;rintro⟨e,i⟩ ⟨g,l,m,b⟩;simp only at g l m b;simp+contextual only[adZ,ad0,ad1,IR,u0,u1,ix,rk,j,aj,dc,bh,↓uL];refine⟨λh=>⟨bA h,λd=>⟨λf=>?_,λf=>?_⟩,λd=>?_⟩,λh=>?_⟩;rw[<-b,KK (aL h),pS,if_pos (of_decide_eq_true d),if_pos (of_decide_eq_true f)];have:=aL h;refine wN (enc:=λs:Int×Nat=>[iv s.1,iv s.2]) (s:=(e,i)) (s':=(e-1,i+1)) (i:=i) ?_ rfl rfl (aL h) ⟨aL h,by simp only;omega,by simp only;omega,?_⟩;rw[fX (by omega),eM (by omega) (by omega)];rw[<-b,KK (aL h),pS,if_pos (of_decide_eq_true d),if_neg (of_decide_eq_false f)];have:=aL h;refine wN (enc:=λs:Int×Nat=>[iv s.1,iv s.2]) (s:=(e,i)) (s':=(e,i+1)) (i:=i) ?_ rfl rfl (aL h) ⟨aL h,by simp only;omega,by simp only;omega,?_⟩;rw[fX (by omega)];rw[<-b,KK (aL h),pS,if_neg (of_decide_eq_false d)];have:i=L w.ac:=bP g (bw h);rw[<-b,this,List.drop_length];rfl
def FJ:FT:=qe O0
def ayX{w t k Lw K}:=sT FJ O0 w t k Lw K
def nE(l:List Int)(k:Nat):Int:=(l.take k).sum
theorem Ra{l:List Int}{k:Nat}(h:k<L l):nE l (k+1)=nE l k+gd l k:=by rw[nE,iJ h,List.sum_append,bT h];simp[nE]
def rM(w:am):Bool:=Q (∀c∈w.init.count,0<=c/\c<=400)&&(Q (w.start=w.init.count.sum)&&Q (w.init.count.sum+L w.ac<=400))
theorem aoN{l:List Int}{k:Nat}(h:∀j,j<k->0<=gd l j/\gd l j<=400)(d:k<=L l):0<=nE l k/\nE l k<=400*k:=by induction k with|zero=>simp[nE]|succ k a=>have:=a (λj c=>h j (by omega)) (by omega);have b:=h k (by omega);rw[Ra (by omega)];omega
theorem Pb(w:am)(t:L w.ac<1000000/\L w.init.count<1000000):Ct MB [.a w.c] (·=bv (rM w)):=by refine aLH rfl λu r l p=>?_;simp only[IS,↓uL];refine yh (λs:Int×Nat=>[iv s.1,iv s.2]) 1 (L w.init.count) (λs=>s.2<=L w.init.count/\s.1=nE w.init.count s.2/\∀j,j<s.2->0<=gd w.init.count j/\gd w.init.count j<=400) (0,0) ⟨by simp,by simp[nE],by simp⟩ ?_;rintro⟨k,i⟩ ⟨e,f,d⟩;simp only at e f d;simp+contextual only[ad9,IS,u0,u1,ix,rk,l,aj,dc,bh,↓uL];have o:=aoN d e;have n:i<L w.init.count->(Q (gd w.init.count i<0)||Q (400<gd w.init.count i))=U->rM w=I:=λh b=>(by have:¬∀c∈w.init.count,0<=c/\c<=400:=λg=>(by have:=g _ (dB h);simp only[Bool.or_eq_true,decide_eq_true_eq] at b;omega);simp[rM,this]);refine⟨λh=>⟨bA h,λ_=>bA h,λb=>by rw[n (aL h) b],λb=>⟨bA h,?_⟩⟩,λh=>?_⟩;have:=aL h;simp only[Bool.or_eq_false_iff,decide_eq_false_iff_not,Int.not_lt] at b;refine wN (enc:=λs:Int×Nat=>[iv s.1,iv s.2]) (s:=(k,i)) (s':=(k+gd w.init.count i,i+1)) (i:=i) ?_ rfl rfl (aL h) ⟨aL h,?_,jf d b⟩;rw[fX (by omega),eM (by omega) (by omega)];simp only;rw[Ra (aL h),f];have m:i=L w.init.count:=bP e (bw h);have hs:nE w.init.count i=w.init.count.sum:=(by rw[m,nE,gV]);have g:∀c∈w.init.count,0<=c/\c<=400:=px.1 (λj q=>d j (by omega));rw[eM (by omega) (by omega),f,hs];simp only[rM,decide_eq_true g,iw]
def FK:FT:=mT Pb
def ay0{w Lw K}:=oK FK Pb w Lw K
def rg(s:bW)(e:aP):Bool:=
 bif Q (e.kind=3) then Q (e.value=gd s.cells e.obj.toNat)
 else bif Q (e.kind=23) then Q (e.value=gd s.bU e.obj.toNat)
 else bif Q (e.kind=5) then Q (e.value=0)||Q (e.value=1)
 else bif Q (e.kind=4)||Q (e.kind=22) then U
 else bif Q (e.kind=18) then(bif Q ((L (fO s.sync e.obj):Int)=0) then Q (e.value= -1) else Q (0<=e.value)&&(Q (e.value<L s.sync.ay)&&Q (e.value∈fO s.sync e.obj)))
 else bif Q (e.kind=19) then Q (e.value=L (fO s.sync e.obj))
 else Q (e.value=0)
theorem OY(s:bW)(e:aP)(b:L s.sync.ay<1000000/\(e.kind=3->aF (L s.cells) e.obj)/\(e.kind=23->aF (L s.bU) e.obj)):Ct Mw [.a s.c, .a e.c] (·=bv (rg s e)):=by refine aLC rfl rfl λm l d f k=>?_;simp only[adS,↓uL];simp only[f8,adU,iM,aY,sw,u1,d,f,rk,aj,↓uL];simp only[adT,aI,au,↓uL];have j:L (fO s.sync e.obj)<4611686018427387904:=Nat.lt_of_le_of_lt (wU _ _ _) (by have:=b.1;omega);have i:Q (e.kind=3)=U->aF (L s.cells) e.obj:=λh=>b.2.1 (of_decide_eq_true h);have g:Q (e.kind=23)=U->aF (L s.bU) e.obj:=λh=>b.2.2 (of_decide_eq_true h);simp+contextual only[↓iC,↓iB,↓iS,u0,u1,K3,ar,d,f,rk,ix,aj,dc,rg,cond_true,cond_false,j,b.1,i,g,implies_true,and_self,and_true,↓uL]
def FI:FT:=gz OY
def ayV{s e Lw K}:=gX FI OY s e Lw K
def aoV:dO:=(Mv,Cf)::(MA,w8)::(Mf,FB)::(My,FJ)::(MB,FK)::(Mw,FI)::aoU
theorem Bs:eJ aoV:=bI (hQ OX) (bI (nI Pa) (bI (hQ OH) (bI (tE O0) (bI (pg Pb) (bI (hQ OY) (wP))))))
def ur:=ai @ayU<|ai @ayZ<|ai @ayE<|ai @ayX<|ai @ay0<|ai @ayV<|@K3
abbrev jr:List AV:=[(.l [] U U),(iv 0),(.l [] U U),(.l [] U U)]
abbrev oi:List AV:=[(iv 0),(.l [] U U)]
def atT:=bi 12 [(3,([5],[0,1]))]
def acd a0 vs1 R t46 s47:=rV (fo 1 s47 a0 (V (gt vs1 0)) J J) λb=>eV (bS 3 fB 8 s47 47 t46 b) λc a=>aE R a [c]
def ace a1 a0 vs1 R t42 s43:=eV (aX bH 1 s43 [(0,a1)]) λb a=>eV (bS 3 fB 8 a 42 t42 b) (acd a0 vs1 R)
def acf a0 vs1 a1 R t39 s40:=rV (fo 1 s40 a0 J (V (gt vs1 0)) J) λa=>eV (bS 3 fB 8 s40 38 t39 a) (ace a1 a0 vs1 R)
def acg s0 a0 a1 R(p:cG)(m1:fD) vs1:=∀_:Rg,aJ s0 a0 λq=>aU (gt vs1 0) q λt3=>bB t3 a0 λr=>bB t3 (gt vs1 0) λs=>az t3 (ao 1 s0 r s) λc=>az t3 (aM s0 c) λd=>bB t3 a1 λe=>az t3 (aU d e) λf=>aD t3 f (bv I) λg=>ah g (aV (gt vs1 0) (iv 1) λb=>p [b]/\m1 [b]<m1 vs1) (aJ s0 a0 λh=>aU (gt vs1 0) h λa=>bB a a0 λi=>bB a (gt vs1 0) λj=>az a (ao 1 s0 i j) λk=>az a (aM s0 k) λl=>bB a a1 λm=>az a (al l m) λn=>aD a n (bv I) λo=>ah o (aE R s0 [a0]) (eV (aX bH 0 s0 []) (acf a0 vs1 a1 R)))
def acb a0 a1 s0 R:=lR [(iv 0)] (acg s0 a0 a1 R)
theorem aLm{a:AV}{a1:AV}{R:bd}(h:H0 λs0=>acb a a1 s0 R):Ct Mj [a,a1] R:=z0 atT Bs Tryz.func155 h
def aui:=bi 16 [(4,([4],[1,3]))]
def aek s2 t6 w_1 R(I7:cG)(O:fD) vs7:=∀_:Rg,aJ s2 t6 λt8=>aU (gt vs7 0) t8 λt9=>ah t9 (ao 3 s2 t6 (gt vs7 0) λP=>ag 0 s2 P λS=>al S (iv 0) λf=>bG f t6 λT=>bG f (gt vs7 0) λW=>aC f (ao 3 s2 T W) λX=>bn f 0 s2 X λZ=>aC f (al Z (iv 1)) λaa=>aD f (bv U) aa λab=>ao 3 s2 t6 (gt vs7 0) λac=>ag 0 s2 ac λad=>al ad (iv 3) λg=>bG g t6 λae=>bG g (gt vs7 0) λaf=>aC g (ao 3 s2 ae af) λak=>bn g 0 s2 ak λam=>aC g (al am (iv 4)) λan=>aD g (bv U) an λa=>ao 3 s2 t6 (gt vs7 0) λap=>ag 0 s2 ap λaq=>aU aq (iv 0) λh=>bG h t6 λar=>bG h (gt vs7 0) λau=>aC h (ao 3 s2 ar au) λav=>bn h 0 s2 av λaw=>aC h (aO .gtr aw (iv 5)) λax=>aD h (bv U) ax λb=>bG b ab λay=>aC b (aB 7 s2 w_1) λaA=>bn b 6 s2 aA λaF=>bG b (gt vs7 0) λaG=>aC b (ao 1 s2 aF aG) λaI=>aC b (aM s2 aI) λaK=>aC b (al aK (iv 0)) λaL=>aC b (rV (eu .neq 1 [] ay aL)) λaN=>aD b (bv U) aN λi=>bG i (gt vs7 0) λk=>aC i (al k (iv 0)) λl=>bG i l λc=>bB c t6 λm=>bB c (gt vs7 0) λn=>az c (ao 3 s2 m n) λo=>aT c 0 s2 o λp=>az c (al p (iv 0)) λq=>aC i (aD c q (bv I)) λr=>aD i (bv U) r λs=>ah s (aE R s2 [(bv I)]) (bB a t6 λt=>bB a (gt vs7 0) λu=>az a (ao 3 s2 t u) λv=>aT a 1 s2 v λw=>az a (aB 0 s2 w_1) λx=>aT a 2 s2 x λy=>az a (aJ s2 y) λz=>az a (fV Ch s2 [w,z]) λA=>az a (cf A) λB=>aD a B (bv I) λe=>bG e a λC=>aC e (cf C) λD=>bG e D λd=>bB d t6 λE=>bB d (gt vs7 0) λF=>az d (ao 3 s2 E F) λG=>aT d 1 s2 G λH=>az d (aO .neq H (iv 0)) λK=>aC e (aD d K (bv I)) λM=>aD e (bv U) M λN=>ah N (aE R s2 [(bv I)]) (aV (gt vs7 0) (iv 1) λj=>I7 [j]/\O [j]<O vs7))) (aE R s2 [(bv U)])
def IU w_1 s2 R:=aB 7 s2 w_1 λt3=>aB 0 s2 t3 λt4=>ag 3 s2 t4 λa=>lR [(iv 0)] (aek s2 a w_1 R)
theorem aLL{b:List AV}{R:bd}(l0:L b=15)(h:H1 40 15 1 b λc d=>IU c d R):Ct MF [.a b] R:=z1 aui Bs Tryz.func18 l0 h
def auf:=bi 35 [(4,([4],[1,3])),(13,([6],[1,3,4,5])),(24,([7],[1,3]))]
def aed s21 l_19 w_1 R vs9(D:aG)(A:bu) s10(z:cG)(e:fD) vs96:=∀_:Rg,ag 1 s21 l_19 λB=>aJ s21 B λC=>aU (gt vs96 0) C λf=>ah f (aw 15 s21 w_1 λg=>ag 1 s21 l_19 λh=>ao 1 s21 h (gt vs96 0) λi=>aM s21 i λj=>fV w8 s21 [g,j] λk=>cf k λb=>bG b (gt vs96 0) λl=>aC b (aO .gtr l (iv 0)) λm=>bG b m λa=>aT a 1 s21 l_19 λn=>bB a (gt vs96 0) λo=>az a (ao 1 s21 n o) λp=>az a (aM s21 p) λq=>aT a 1 s21 l_19 λr=>bB a (gt vs96 0) λs=>az a (aO .sub s (iv 1)) λt=>az a (ao 1 s21 r t) λu=>az a (aM s21 u) λv=>az a (aO .leq q v) λw=>aC b (aD a w (bv I)) λx=>aD b (bv U) x λy=>ah y (aE R s21 [(bv I)]) (aV (gt vs96 0) (iv 1) λc=>z [c]/\e [c]<e vs96)) (aV (gt vs9 0) (iv 1) λd=>D [d] s21/\A [d] s21<A vs9 s10)
def aeb l_19 w_1 vs9 R I9 m9 s10 s21:=ag 0 s21 l_19 λe=>aO .neq e (iv (-1)) λc=>az c (aw 15 s21 w_1) λf=>aT c 0 s21 l_19 λg=>az c (fV w8 s21 [f,g]) λh=>az c (cf h) λi=>aD c i (bv I) λb=>bn b 1 s21 l_19 λj=>aC b (aJ s21 j) λk=>aC b (aO .gtr k (iv 0)) λl=>bG b l λa=>az a (aB 0 s21 w_1) λm=>aT a 1 s21 m λn=>bB a (gt vs9 0) λo=>az a (ao 2 s21 n o) λp=>aT a 1 s21 p λq=>az a (cf q) λr=>bB a r λd=>bn d 0 s21 l_19 λs=>aC d (aO .neq s (iv (-1))) λt=>az a (aD d (bv U) t) λu=>aC b (aD a u (bv I)) λv=>aD b (bv U) v λw=>ah w (aE R s21 [(bv I)]) (lR [(iv 0)] (aed s21 l_19 w_1 R vs9 I9 m9 s10))
def aec t_184 w_1 vs174 R s_6(f:aG)(d:bu) s175 s186:=ag 2 s186 t_184 λb=>az b (aw 15 s186 w_1) λg=>bB b (gt vs174 0) λh=>az b (fV w8 s186 [g,h]) λi=>az b (cf i) λj=>aD b j (bv I) λk=>ah k (aE R s186 [(bv I)]) (ag 0 s186 t_184 λl=>al l (iv 3) λc=>bn c 0 s186 t_184 λm=>aC c (al m (iv 4)) λn=>aD c (bv U) n λa=>aT a 0 s186 s_6 λo=>az a (aB 0 s186 w_1) λp=>aT a 2 s186 p λq=>aT a 1 s186 t_184 λr=>az a (ao 2 s186 q r) λs=>aT a 1 s186 s λt=>az a (ao 2 s186 o t) λu=>aT a 0 s186 u λv=>bB a (gt vs174 0) λw=>az a (al v w) λx=>aD a x (bv I) λy=>ah y (aE R s186 [(bv I)]) (aV (gt vs174 0) (iv 1) λe=>f [e] s186/\d [e] s186<d vs174 s175))
def aee s_6 w_1 R I174 m174 vs174 s175:=∀_:Rg,ag 3 s175 s_6 λc=>aJ s175 c λd=>aU (gt vs174 0) d λe=>ah e (ag 3 s175 s_6 λf=>ao 3 s175 f (gt vs174 0) λg=>aw 3 s175 g λh=>eV (bs 98 mc s175 8) λa b=>sV (aK 3 b a h) (aec a w_1 vs174 R s_6 I174 m174 s175)) (aE R s175 [(bv U)])
def aef s_6 w_1 R I9 m9 vs9 s10:=∀_:Rg,ag 0 s10 s_6 λj=>aJ s10 j λk=>aU (gt vs9 0) k λl=>ah l (ag 0 s10 s_6 λm=>ao 2 s10 m (gt vs9 0) λn=>aw 2 s10 n λo=>eV (bs 100 oi s10 5) λb i=>sV (aK 2 i b o) (aeb b w_1 vs9 R I9 m9 s10)) (ag 1 s10 s_6 λc=>aO .neq c (iv (-1)) λa=>az a (aw 15 s10 w_1) λd=>aT a 1 s10 s_6 λe=>az a (fV w8 s10 [d,e]) λf=>az a (cf f) λg=>aD a g (bv I) λh=>ah h (aE R s10 [(bv I)]) (lV [(iv 0)] s10 (aee s_6 w_1 R)))
def aea w_1 s2 R:=aB 7 s2 w_1 λt3=>aB 0 s2 t3 λt4=>aw 4 s2 t4 λd=>eV (bs 33 jr s2 3) λa b=>sV (aK 4 b a d) λc=>lV [(iv 0)] c (aef a w_1 R)
theorem aLI{b:List AV}{R:bd}(l0:L b=15)(h:H1 40 15 1 b λc d=>aea c d R):Ct MC [.a b] R:=z1 auf Bs Tryz.func19 l0 h
def auh:=bi 13 [(3,([7],[1,2,3])),(6,([],[1,2,3,7]))]
def aeh vs3(c:cG)(a:fD)(d:eQ):=∀_:Rg,aV (gt vs3 0) (iv 1) λb=>c [b]/\a [b]<a vs3
def aei s2 a2 vs3 w_1 a1 R(d:cG):=ao 1 s2 a2 (gt vs3 0) λD=>aM s2 D λE=>aB 7 s2 w_1 λe=>ag 6 s2 e λf=>ao 1 s2 f a1 λg=>aM s2 g λh=>aU E h λi=>ah i (d []) (aw 15 s2 w_1 λj=>ao 1 s2 a2 (gt vs3 0) λk=>aM s2 k λl=>aB 7 s2 w_1 λm=>ag 6 s2 m λn=>ao 1 s2 n a1 λo=>aM s2 o λp=>aO .sub l p λq=>fV FJ s2 [j,a1,q] λc=>aU c (iv 0) λa=>bn a 14 s2 w_1 λr=>bG a c λs=>aC a (ao 7 s2 r s) λt=>bn a 1 s2 t λu=>aC a (aO .neq u (iv 3)) λv=>bG a v λb=>aT b 14 s2 w_1 λw=>bB b c λx=>az b (ao 7 s2 w x) λy=>aT b 1 s2 y λz=>az b (aO .neq z (iv 23)) λA=>aC a (aD b A (bv I)) λB=>aD a (bv U) B λC=>ah C (aE R s2 [(bv I)]) (d []))
def aej s2 a2 w_1 a1 R I3 m3 vs3:=∀_:Rg,aJ s2 a2 λt4=>aU (gt vs3 0) t4 λa=>ah a (jR 6 (aeh vs3 I3 m3) (aei s2 a2 vs3 w_1 a1 R)) (aE R s2 [(bv U)])
def IT w_1 a1 a2 s2 R:=lR [(iv 0)] (aej s2 a2 w_1 a1 R)
theorem aLK{b:List AV}{a1:AV}{c:AV}{R:bd}(l0:L b=15)(h:H1 40 15 3 b λd e=>IT d a1 c e R):Ct ME [.a b,a1,c] R:=z1 auh Bs Tryz.func21 l0 h
def Eu(w:am)(j:Nat):Bool:=Q ((gd w.init.sync.ay j).cQ<0)||Q (5<(gd w.init.sync.ay j).cQ)||!((Q ((gd w.init.sync.ay j).cQ=0)||Q ((gd w.init.sync.ay j).cQ=1))==Q (gd w.init.count j=0))||Q ((j:Int)=0)&&Q ((gd w.init.sync.ay j).cQ=0)
def zX(w:am)(j:Nat):Bool:=(Q ((gd w.init.sync.ay j).cQ=3)||Q ((gd w.init.sync.ay j).cQ=4))&&!dh (gd w.init.sync.ay j).cond (L w.aQ.bC)||!(Q ((gd w.init.sync.ay j).cQ=3)||Q ((gd w.init.sync.ay j).cQ=4))&&Q ((gd w.init.sync.ay j).cond≠0)
def q8(w:am)(j:Nat):Bool:=!Eu w j&&!zX w j
def uZ(w:am):Bool:=Q (∀j,j<L w.init.sync.ay->q8 w j=U)
theorem Pf(w:am)(o:L w.init.sync.ay<1000000/\L w.init.count=L w.init.sync.ay):Ct MF [.a w.c] (·=bv (uZ w)):=by refine aLL rfl λs r f p=>?_;simp+contextual only[IU,u0,u1,ix,rk,f,aj,dc,bh,↓uL];refine il (L w.init.sync.ay) (λk=>∀j,j<k->q8 w j=U) (by simp) λk q g=>?_;simp+contextual (maxSteps:=3000000) only[aek,IU,u0,u1,ur,ar,ix,rk,f,aj,dc,bh,↓uL];have i:k<L w.init.sync.ay->q8 w k=I->bv I=bv (uZ w):=λh d=>(by have:¬∀j,j<L w.init.sync.ay->q8 w j=U:=λn=>(by rw[n k h] at d;cases d);simp[uZ,this]);refine⟨λh=>?_,λh=>?_⟩;have b:=bA h;have l:aF (L w.init.count) (k:Int):=(by rw[o.2];exact b);simp only[b,l,implies_true,true_and];refine⟨λd=>i (aL h) ?_,λd=>⟨λe=>i (aL h) ?_,λe=>gS (aL h) (by omega) (jf g ?_)⟩⟩;rw[q8,show Eu w k=U from d];rfl;rw[q8,show zX w k=U from e];simp;rw[q8,show Eu w k=I from d,show zX w k=I from e];rfl;have:∀j,j<L w.init.sync.ay->q8 w j=U:=λj m=>g j (gh m (bw h));rw[uZ,decide_eq_true this]
def FM:FT:=mT Pf
def ay4{w Lw K}:=oK FM Pf w Lw K
theorem Qy(t:Int):∀(l:List aP) (k:Int) (i:Nat),pS t l k i<i+L l\/pS t l k i= -1
 |[],_,_=> .inr rfl
 |e::l,k,i=>by
  simp only[pS,bZ]
  have a:=Qy t l (k-1) (i+1)
  have b:=Qy t l k (i+1)
  split
  ·split
   ·left;omega
   ·omega
  ·omega
theorem aEu(w:am)(t k:Int):oV w t k<L w.ac\/oV w t k= -1:=by have:=Qy t w.ac k 0;simpa[oV] using this
def qU(w:am)(t:Int)(n:Int):Bool:=Q (n<gd w.init.count t.toNat)||(Q (0<=oV w t (n-gd w.init.count t.toNat))&&(Q ((gd w.ac (oV w t (n-gd w.init.count t.toNat)).toNat).kind=3)||Q ((gd w.ac (oV w t (n-gd w.init.count t.toNat)).toNat).kind=23)))
theorem Pe(w:am)(t:Int)(l:List Int)(d:L l<1000000/\L w.ac<1000000/\aF (L w.init.count) t/\(∀c∈w.init.count,0<=c/\c<=400)/\(∀n∈l,-1000<=n/\n<9223372036854775808)):Ct ME [.a w.c,iv t,sl ci l] (·=bv (Q (∀n∈l,qU w t n=U))):=by refine aLK rfl λA z o v=>?_;simp only[IT,↓uL];refine il (L l) (λk=>∀j,j<k->qU w t (gd l j)=U) (by simp) λk y f=>?_;simp+contextual only[aeh,aei,aej,IT,u0,u1,ur,ar,ix,rk,o,aj,dc,bh,↓uL];have u:k<L l->dq.wrap (gd l k-gd w.init.count t.toNat)=gd l k-gd w.init.count t.toNat:=λh=>(by have p:=d.2.2.2.1 _ (ii d.2.2.1);have q:=d.2.2.2.2 _ (dB h);exact eM (by omega) (by omega));have i:k<L l->∀x,x=oV w t (gd l k-gd w.init.count t.toNat)->Q (gd l k<gd w.init.count t.toNat)=I->((Q (x<0)||Q ((gd w.ac x.toNat).kind≠3)&&Q ((gd w.ac x.toNat).kind≠23))=I↔qU w t (gd l k)=U):=λh x g e=>(by unfold qU;rw[<-g];simp only[e,Bool.false_or];simp;omega);refine⟨λh=>⟨bA h,d.2.2.1,λe=>gS (aL h) (by omega) (jf f (by simp only[qU,e,Bool.true_or])),λe=>?_⟩,λh=>?_⟩;rw[u (aL h)];have p:=d.2.2.2.1 _ (ii d.2.2.1);have q:=d.2.2.2.2 _ (dB (aL h));have m:∀x,x=oV w t (gd l k-gd w.init.count t.toNat)->(!Q (x<0))=U->aF (L w.ac) x:=λx g b=>(by have:=aEu w t (gd l k-gd w.init.count t.toNat);simp at b;exact⟨b,by rw[g];omega⟩);refine⟨bA h,d.2.2.1,⟨d.2.1,by omega,by omega⟩,m _ rfl,λb _=>m _ rfl b,λb=>?_,λb=>gS (aL h) (by omega) (jf f ((i (aL h) _ rfl e).1 b))⟩;have:¬(∀n∈l,qU w t n=U):=λs=>(by have:=(i (aL h) _ rfl e).2 (s _ (dB (aL h)));rw[this] at b;cases b);simp[this];have:∀n∈l,qU w t n=U:=px.1 (λj r=>f j (gh r (bw h)));rw[decide_eq_true this]
def Ci:FT:=qe Pe
def ay3{w t l Lw K}:=sT Ci Pe w t l Lw K
def AM(w:am)(j:Nat):Bool:=Q ((gd w.init.sync.ak j).dv≠-1)&&!nO w (gd w.init.sync.ak j).dv||Q (0<(L (gd w.init.sync.ak j).bk:Int))&&(!(gd w.aQ.ak j).rw||Q ((gd w.init.sync.ak j).dv≠-1))
def yA(w:am)(l:List Int)(i:Nat):Prop:=nO w (gd l i)=U/\(0<i->gd l (i-1)<gd l i)
def QN(w:am)(l:List Int):Prop:=∀i,i<L l->yA w l i
instance{w:am}{l:List Int}{i:Nat}:Decidable (yA w l i):=by unfold yA;infer_instance
instance{w:am}{l:List Int}:Decidable (QN w l):=by unfold QN;infer_instance
def uD(w:am)(j:Nat):Prop:=AM w j=I/\QN w (gd w.init.sync.ak j).bk
instance{w:am}{j:Nat}:Decidable (uD w j):=by unfold uD;infer_instance
def yS(w:am):Bool:=Q (w.init.sync.tx≠-1)&&!nO w w.init.sync.tx
def pX(w:am)(j:Nat):Bool:=!((gd w.init.sync.ay j).atomic&&!nO w j)&&!((Q ((gd w.init.sync.ay j).cQ=3)||Q ((gd w.init.sync.ay j).cQ=4))&&Q ((gd w.init.sync.ak (gd w.aQ.bC (gd w.init.sync.ay j).cond.toNat).eg.toNat).dv=j))
def ny(w:am):Bool:=Q (∀j,j<L w.init.sync.ak->uD w j)&&(!yS w&&Q (∀j,j<L w.init.sync.ay->pX w j=U))
theorem Pc(w:am)(v:L w.init.sync.ak<1000000/\L w.init.sync.ay<1000000/\L w.init.sync.ak=L w.aQ.ak/\(∀l∈w.init.sync.ak,L l.bk<4611686018427387904)/\(∀c∈w.aQ.bC,aF (L w.aQ.ak) c.eg)/\uZ w=U):Ct MC [.a w.c] (·=bv (ny w)):=by refine aLI rfl λs4 F O y=>?_;simp+contextual only[aea,u0,u1,ix,rk,O,aj,dc,bh,↓uL];refine eF rfl rfl (by decide) (by rw[F];decide) λY D hb=>?_;have P:box Y (1,1)=_:=D.bt O;refine pQ (L w.init.sync.ak) [5] (λk=>∀j,j<k->uD w j) (by simp) λk M hk u e=>?_;have f:box M (1,1)=_:=e.bt P;have t:box M (3,_)=_:=e.bt hb;simp+contextual (maxSteps:=3000000) only[aef,u0,u1,ur,ar,ix,rk,f,t,aj,dc,bh,↓uL];have B:∀j,j<L w.init.sync.ak->¬uD w j->bv I=bv (ny w):=λj d z=>(by have:¬∀j,j<L w.init.sync.ak->uD w j:=λG=>z (G j d);rw[ny,decide_eq_false this];rfl);refine⟨λh=>⟨bA h,?_⟩,λh=>⟨λH=>?_,λH=>?_⟩⟩;refine eF rfl rfl (by decide) (by rw[e.1,D.1,F];decide) λo b A=>?_;have p:box o (1,1)=_:=b.bt f;have x:box o (3,_)=_:=b.bt t;simp+contextual (maxSteps:=3000000) only[aeb,u0,u1,ur,ar,ix,rk,p,x,A,aj,dc,bh,↓uL];refine⟨λ_=>by rw[<-v.2.2.1];exact bA h,λr=>B k (aL h) λE=>?_,λr=>?_⟩;have R:=E.1;rw[show AM w k=U from r] at R;cases R;have hR:=v.2.2.2.1 _ (dB (aL h));refine il (L (gd w.init.sync.ak k).bk) (λi=>∀j,j<i->yA w (gd w.init.sync.ak k).bk j) (by simp) λi hi X=>?_;simp+contextual (maxSteps:=3000000) only[aed,u0,u1,ur,ar,ix,rk,p,A,aj,dc,bh,↓uL];have hs:0<i->(dq.wrap ((i:Int)-1)).toNat=i-1/\dq.wrap ((i:Int)-1)=((i-1:Nat):Int):=λh=>(by rw[eM (by omega) (by omega)];omega);have W:(!nO w (gd (gd w.init.sync.ak k).bk i)||Q (0<(i:Int))&&Q (gd (gd w.init.sync.ak k).bk i<=gd (gd w.init.sync.ak k).bk (dq.wrap ((i:Int)-1)).toNat))=I↔yA w (gd w.init.sync.ak k).bk i:=(by unfold yA;by_cases y:0<i;rw[(hs y).1];simp[y];simp[y]);refine⟨λg=>⟨bA g,λ_ _=>bA g,λ_ n=>?_,λn=>B k (aL h) λE=>?_,λn=>gS (aL g) (by omega) (jf X (W.1 n))⟩,λg=>?_⟩;have q:0<i:=(by simpa using n);have:=aL g;rw[(hs q).2];exact dJ (by omega);rw[W.2 (E.2 i (aL g))] at n;cases n;refine oL (aL h) (by omega) (jf u ⟨r,λj d=>X j (gh d (bw g))⟩) (e.trans b);rw[ny,show yS w=U from H];simp;have hA:∀j,j<L w.init.sync.ak->uD w j:=λj d=>u j (gh d (bw h));have S:∀j,j<L w.init.sync.ay->pX w j=I->bv I=bv (ny w):=λj d z=>(by have:¬∀j,j<L w.init.sync.ay->pX w j=U:=λG=>(by rw[G j d] at z;cases z);rw[ny,decide_eq_false this];simp);have Z:∀j,j<L w.init.sync.ay->q8 w j=U:=of_decide_eq_true v.2.2.2.2.2;refine pQ (L w.init.sync.ay) [8] (λk=>∀j,j<k->pX w j=U) (by simp) λk o hk u b=>?_;have p:box o (1,1)=_:=b.bt f;have x:box o (3,_)=_:=b.bt t;simp+contextual (maxSteps:=3000000) only[aee,u0,u1,ur,ar,ix,rk,p,x,aj,dc,bh,↓uL];refine⟨λh=>⟨bA h,?_⟩,λh=>?_⟩;refine eF rfl rfl (by decide) (by rw[b.1,e.1,D.1,F];decide) λN s T=>?_;have d1:box N (1,1)=_:=s.bt p;have d2:box N (3,_)=_:=s.bt x;simp+contextual (maxSteps:=3000000) only[aec,u0,u1,ur,ar,ix,rk,d1,d2,T,aj,dc,bh,↓uL];have m:(Q ((gd w.init.sync.ay k).cQ=3)||Q ((gd w.init.sync.ay k).cQ=4))=U->aF (L w.aQ.bC) (gd w.init.sync.ay k).cond:=λK=>(by have:=Z k (aL h);simp only[q8,zX,K,iw,Bool.not_true,Bool.false_and,Bool.or_false,Bool.not_not,bN] at this;exact dX.1 this.2);refine⟨λq=>S k (aL h) ?_,λq=>⟨m,λK=>?_,λC=>S k (aL h) ?_,λC=>oL (aL h) (by omega) (jf u ?_) (b.trans s)⟩⟩;rw[pX,q];rfl;rw[v.2.2.1];exact v.2.2.2.2.1 _ (ii (m K));rw[pX,C];simp;rw[pX,q,C];rfl;have r:∀j,j<L w.init.sync.ay->pX w j=U:=λj d=>u j (gh d (bw h));rw[ny,decide_eq_true hA,decide_eq_true r,show yS w=I from H];rfl
def FL:FT:=mT Pc
def ay1{w Lw K}:=oK FL Pc w Lw K
theorem pU{l:List Int}:∀r∈l.map ci,L r=1:=by intro r a;obtain⟨x,_,rfl⟩:=List.mem_map.1 a;rfl
def fk:List Int->Int->List Int|[],n=>[n]|x::l,n=>if x<n then x::fk l n else if x=n then x::l else n::x::l
theorem QJ:∀(l:List Int) (n:Int) (k:Nat),k<=L l->(∀j,j<k->gd l j<n)->(k<L l->¬gd l k<n)->fk l n=if k<L l/\gd l k=n then l else l.take k++n::l.drop k
 |[],n,k,a,_,_=>by simp at a;subst a;simp[fk]
 |x::l,n,0,_,_,b=>by
  have:=b (by simp)
  simp only[gd,RQ] at this
  simp only[fk,if_neg this,gd,RQ,bZ,Nat.zero_lt_succ,true_and,List.take_zero,List.drop_zero,dW]
 |x::l,n,k+1,a,c,b=>by
  have d:=c 0 (by omega)
  simp only[gd,RQ] at d
  have g:=QJ l n k (by simpa using a) (λj h=>by have:=c (j+1) (by omega);simpa[gd] using this) (λf=>by have:=b (by simpa using f);simpa[gd] using this)
  have e:gd (x::l) (k+1)=gd l k:=by simp[gd]
  simp only[fk,if_pos d,g,e,bZ,Nat.add_lt_add_iff_right,List.take_succ_cons,List.drop_succ_cons,List.cons_append]
  split<;>rfl
theorem QK:∀(l:List Int) (n:Int),L (fk l n)<=L l+1
 |[],n=>by simp[fk]
 |x::l,n=>by
  have:=QK l n
  simp only[fk]
  split
  ·simpa using this
  ·split<;>simp
theorem OL(l:List Int)(n:Int)(F:L l<1000000):Ct Mj [sl ci l,iv n] (λr=>∃t o,r= .l ((fk l n).map ci) t o):=by refine aLm λs0 c E=>?_;simp only[acb,↓uL];refine il (L l) (λk=>∀j,j<k->gd l j<n) (by simp) λk w f=>?_;simp+contextual only[acg,acf,u0,u1,ix,rk,bh,nS,aov,aFj,↓uL];have b:=QJ l n k w f;refine⟨λh=>bA h,λh=>?_,λh=>⟨λa=>bA a,λa=>⟨I,I,?_⟩,λa=>⟨⟨by omega,by omega⟩,?_⟩⟩⟩;rw[bN] at h;exact gS (aL h.1) (by omega) (jf f (of_decide_eq_true h.2));rw[bN] at a;have p:=of_decide_eq_true a.2;rw[b (λ_=>by omega),if_pos ⟨aL a.1,p⟩];rfl;have u:k<L l->¬gd l k<n:=λx g=>(by rw[decide_eq_true (show(k:Int)<L l by omega),decide_eq_true g] at h;cases h);have q:¬(k<L l/\gd l k=n):=λv=>(by rw[decide_eq_true (show(k:Int)<L l by omega),decide_eq_true v.2] at a;cases a);rw[if_neg q] at b;refine fP (ds:=[38,42,47]) Gr.nil rfl (by decide) (by decide) (by rw[c];decide) (by simp) pU (by simp only[bJ,gC,bO];omega) λa1 z g1 d=>?_;rw[dW] at g1;simp only[ace,iz,bQ,↓uL];refine fP g1 rfl (by decide) (by decide) (by rw[d.1,c];decide) pU (pU (l:=[n])) (by simp only[bJ,gC,bZ,bO];omega) λC A e i=>?_;rw[show(l.take k).map ci++[[AV.s (.int .i64 n)]]=(l.take k++[n]).map ci by rw[dg];rfl] at e;simp only[acd,au,aIg,bh,↓uL];refine⟨⟨by omega,by omega⟩,?_⟩;refine fP e rfl (by decide) (by decide) (by rw[i.1,d.1,c];decide) pU pU (by simp only[bJ,List.length_append,gC,List.length_drop,bZ,bO];omega) λD B m y=>?_;refine qV m λt=>⟨t,U,?_⟩;rw[b u];simp
def BX:FT:=pn OL
def ayI{l n Lw K}:=rQ BX OL l n Lw K
def aoW:dO:=(MF,FM)::(ME,Ci)::(MC,FL)::(Mj,BX)::aoV
theorem Rb:eJ aoW:=bI (pg Pf) (bI (tE Pe) (bI (pg Pc) (bI (si OL) (Bs))))
def K7:=ai @ay4<|ai @ay3<|ai @ay1<|ai @ayI<|@ur
abbrev BE:List AV:=[(bv I)]
abbrev BD:List AV:=[(bv I)]
abbrev EJ:List AV:=[(iv 0),(iv 0),(bv I)]
abbrev EH:List AV:=[(iv 0),(.l [] I I)]
def atW:=bi 9 [(4,([4],[1,2,3]))]
def acE out_20 t29 s_1 t31 t32 vs23 t33 t34 t38 t39 t40 t41 t36 t42 t35 t43 t45 t30 t46 t50 t48(c:aG)(a:bu) s24 s51:=dH [(lz out_20),(lz t29),(lz s_1),(lz t31),lzz,(lb U [t32,(gt vs23 0)] []),(lz t33),(lz t34),(lb I [] []),(lz s_1),(lz t38),lzz,(lb U [t39,(gt vs23 0)] []),(lz t40),(lz t41),(lb I [t36,t42] [38]),(lb U [t35,t43] []),(lb I [t45] []),(lb I [t30,t46] [41]),(lz out_20),(lb I [t50,t48] [])] [(0,8),(1,8),(2,8),(3,8),(4,8),(5,8),(6,8),(7,8),(8,9),(8,10),(8,11),(8,12),(8,13),(8,14),(0,15),(1,15),(2,15),(3,15),(4,15),(5,15),(6,15),(7,15),(0,17),(1,17)] (aV (gt vs23 0) (iv 1) λb=>c [b] s51/\a [b] s51<a vs23 s24)
def acF out_20 t29 s_1 t31 t32 vs23 t33 t34 t38 t39 t40 t41 t36 t42 t35 t43 t45 t30 t46 I23 m23 s24 t48 s49:=aB 0 s49 out_20 λa=>sV (aK 1 s49 a t48) (acE out_20 t29 s_1 t31 t32 vs23 t33 t34 t38 t39 t40 t41 t36 t42 t35 t43 t45 t30 t46 a t48 I23 m23 s24)
def acG t35 t30 out_20 t29 s_1 t31 t32 vs23 t33 t34 t38 t39 t40 t41 t36 t42 I23 m23 s24 t43 s44:=rV (bM oi [(0,1),(1,1)] [(0,t35),(1,t43)]) λa=>eV (aX EH 1 s44 [(0,a)]) λb c=>eV (bS 100 oi 32 c 41 t30 b) (acF out_20 t29 s_1 t31 t32 vs23 t33 t34 t38 t39 t40 t41 t36 t42 t35 t43 a t30 b I23 m23 s24)
def acH s_1 vs23 t35 t30 out_20 t29 t31 t32 t33 t34 I23 m23 s24 t36 s37:=aB 0 s37 s_1 λa=>aM s37 a λb=>ao 2 s37 b (gt vs23 0) λc=>aB 1 s37 c λd=>aM s37 d λe=>eV (bS 3 fB 8 s37 38 t36 e) (acG t35 t30 out_20 t29 s_1 t31 t32 vs23 t33 t34 a b c d t36 e I23 m23 s24)
def acN s_1 out_20 t3 R I23 m23 vs23 s24:=∀_:Rg,ag 0 s24 s_1 λg=>aJ s24 g λh=>aU (gt vs23 0) h λi=>ah i (aB 0 s24 out_20 λb=>aM s24 b λj=>aB 0 s24 s_1 λc=>aM s24 c λd=>ao 2 s24 d (gt vs23 0) λe=>aB 0 s24 e λf=>aM s24 f λk=>eV (aX bH 0 s24 []) (acH s_1 vs23 k j out_20 b c d e f I23 m23 s24)) (aw 4 s24 out_20 λl=>sV (aK 4 s24 t3 l) λa=>aw 4 a t3 λm=>bz R a [m])
def acI s_1 t5 t9 t7 t10 t15 t13 t16 t6 t11 t17 out_20 t19 t3 R s22:=dH [(lz s_1),(lz t5),(lb I [] []),(lz s_1),(lz t9),(lb I [t7,t10] [10]),(lb I [] []),(lz s_1),(lz t15),(lb I [t13,t16] [14]),(lb U [t6,t11,t17] []),(lb I [] [3]),(lb I [out_20,t19] [])] [(0,2),(1,2),(2,3),(2,4),(0,5),(1,5),(0,6),(1,6),(2,6),(3,6),(4,6),(5,6),(2,7),(5,7),(6,7),(2,8),(5,8),(6,8),(0,9),(1,9),(0,11),(1,11),(2,11),(3,11),(4,11),(5,11),(6,11),(7,11),(8,11),(9,11),(10,11)] (lV [(iv 0)] s22 (acN s_1 out_20 t3 R))
def acJ t6 t11 s_1 t5 t9 t7 t10 t15 t13 t16 t3 R t17 s18:=rV (bM jr [(0,1),(1,1),(2,1),(3,1)] [(1,t6),(2,t11),(3,t17)]) λb=>eV (bs 33 jr s18 3) λa c=>sV (aK 4 c a b) (acI s_1 t5 t9 t7 t10 t15 t13 t16 t6 t11 t17 a b t3 R)
def acK s_1 t6 t11 t5 t9 t7 t10 t3 R t13 s14:=aB 3 s14 s_1 λa=>aM s14 a λb=>eV (bS 98 mc 24 s14 14 t13 b) (acJ t6 t11 s_1 t5 t9 t7 t10 a t13 b t3 R)
def acL s_1 t6 t5 t3 R t7 s8:=aB 2 s8 s_1 λd=>aM s8 d λa=>eV (bS 4 BE 1 s8 10 t7 a) λc b=>eV (aX EJ 0 b []) (acK s_1 t6 c t5 d t7 a t3 R)
def acM s_1 R t3 s4:=aB 1 s4 s_1 λa=>aM s4 a λb=>eV (aX BD 0 s4 []) (acL s_1 b a t3 R)
def IF s_1 s2 R:=eV (bs 33 jr s2 2) (acM s_1 R)
theorem aJs{a:AV}{s0:ae}{R:be}(h:eV (ej 33 4 s0 1 a) λb c=>IF b c R):EB At [a] s0 R:=zB atW Rb Tryz.func115 h
theorem aLp{d:List AV}{s0:ae}{R:be}(hs:L s0=4096)(l0:L d=4)(h:∀(b:ae) (c:Nat),Kp s0 b->(∀k,k≠1->aZ b k=aZ s0 k)->(∀x,box s0 (1,c)≠V x)->box b (1,c)=V ⟨33,4,U,U,[d]⟩->IF (.p (1,c) 0 0) b R):EB At [.a d] s0 R:=by refine aJs ?_;refine iN rfl l0 (by decide) (by decide) hs λb c i g0 j e=>?_;exact h b c i (λk f=>g0 k f) (λx g=>j x ((Kp.refl _).keep _ _ g)) e
def atU:=bi 15 [(4,([5,6],[0,1])),(10,([5,7],[1]))]
def aci s0 a1 R(g:cG)(c:fD) vs8:=∀_:Rg,aJ s0 a1 λh=>aU (gt vs8 1) h λd=>ah d (ao 1 s0 a1 (gt vs8 1) λe=>aM s0 e λf=>fV BX s0 [(gt vs8 0),f] λa=>aV (gt vs8 1) (iv 1) λb=>g [a,b]/\c [a,b]<c vs8) (aE R s0 [(gt vs8 0)])
def acj s0 a0 a1 R(c:cG)(m1:fD) vs1:=∀_:Rg,aJ s0 a0 λd=>aU (gt vs1 1) d λt3=>ah t3 (ao 1 s0 a0 (gt vs1 1) λt4=>aM s0 t4 λe=>fV BX s0 [(gt vs1 0),e] λa=>aV (gt vs1 1) (iv 1) λb=>c [a,b]/\m1 [a,b]<m1 vs1) (lR [(gt vs1 0),(iv 0)] (aci s0 a1 R))
def ach a0 a1 s0 R:=lR [(.l [] U U),(iv 0)] (acj s0 a0 a1 R)
theorem aLn{a:AV}{a1:AV}{R:bd}(h:H0 λs0=>ach a a1 s0 R):Ct Mk [a,a1] R:=z0 atU Rb Tryz.func116 h
end Go.Ab
