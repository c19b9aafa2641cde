/- Part of the proof of WitnessWalks. -/
import Derived.Test.YthlflpfcfdpedaaGreatDoorF
set_option linter.all false
set_option maxRecDepth 100000
open And renaming intro->ai
open Bool renaming and_eq_true->bN,false->I,true->U
open Decidable renaming decide->Q
open Go.IntKind renaming i64->dq
open Go.Proofs.Tryz renaming prog->aS
open Int renaming toNat_natCast->bh
open List renaming flatMap_cons->Cz,getElem?_eq_getElem->eC,getElem?_map->ve,length->L,length_map->bJ,map_append->dg,mem_append->dF,mem_map->dN,mem_singleton->cE,range->aH
open Nat renaming beq->aOU,mul_le_mul_right->qo,zero_add->aj
open Option renaming none->J,some->V
namespace Go.Ab
open Go Go.RowKit Go.Proofs
def bjg d e c a R:=aw 15 a d λj=>aw 9 a e λk=>aw 6 a c λl=>fV bi1 a [j,k,l] λb=>az b (aw 15 a d) λf=>az b (aw 6 a c) λg=>az b (fV E5 a [f,g]) λh=>aD b h (bv I) λi=>aE R a [i]
def bpT{c:List AV}{d:List AV}{e:List AV}{R:o8}(l0:L c=15)(l1:L d=9)(w:L e=6)(h:∀b:ae,L b=4096->box b (3,1)=V ⟨43,15,U,U,[c]⟩->box b (4,1)=V ⟨57,9,U,U,[d]⟩->box b (5,1)=V ⟨46,6,U,U,[e]⟩->(∀k,k≠3->k≠4->k≠5->aZ b k=mO)->bjg (.p (3,1) 0 0) (.p (4,1) 0 0) (.p (5,1) 0 0) b R):Fn aS GG 31 [.a c, .a d, .a e] R:=by refine uq ready bkc Tryz.func31 (an:=at1) (by kernel_rfl) (Eq.mpr (show ZF aS GG bke at1 Tryz.f31 [.a c, .a d, .a e] R=(eV (qm 43 15 (ly Tryz.f31) 3<|.a c) λm j=>eV (qm 57 9 j 4<|.a d) λf l=>eV (qm 46 6 l 5<|.a e) λi b=>bjg m f i b R) by kernel_rfl) ?_);refine mY (N:=4096) rfl l0 (by decide) (by decide) uB (by rw[i8]) λj x n A g0=>?_;refine mY (N:=4096) rfl l1 (by decide) (by decide) x (by rw[g0 _ (by decide),i8]) λl y o r g1=>?_;refine mY (N:=4096) rfl w (by decide) (by decide) y (by rw[g1 _ (by decide),g0 _ (by decide),i8]) λb z q g s=>?_;exact h b z (by rw[g _ _ (by decide),r _ _<|by decide];exact n) (by rw[g _ _<|by decide];exact o) q (λk t u v=>by rw[s k v,g1 k u,g0 k t];exact i8 _ k)
def bn7:=bi 31 [(3,([7],[5,6])),(5,([7,8],[1,2,5,6])),(12,([9,10],[1,2,5,6,7,8])),(15,([9],[1,2,5,6,7,8,10])),(20,([9,12],[1,2,5,6,7,8,10,11])),(27,([13],[1,2,5,6,7,8,9]))]
def bmC d t3 R c a:=Rg->aw 9 a d λe=>sV (aK 9 a t3 e) λb=>aw 9 b t3 λf=>aE R b [gt c 0,f]
def bmH c d(f:aG) e g a b:=Rg->aJ b c λi=>aU (gt a 1) i λj=>ah j (ao 1 b c (gt a 1) λk=>aM b k λl=>rV (bM nJ C2 [(0,gt d 1),(1,l)]) λm=>eV (aX bh6 1 b [(0,m)]) λn h=>eV (cj 52 nJ 16 h 53 (gt a 0) n)<|ab3 a e g b)<|f [gt a 0] b
def bmD a e d b(c:aG):=aw 15 a e λf=>aw 9 a d λg=>fV bia a [f,g,gt b 1] λh=>cf h λi=>ah i (c [gt b 0] a) (aw 15 a e λj=>aw 9 a d λk=>fV bi9 a [j,k,gt b 1] λl=>lV [gt b 0,iv 0] a<|bmH l b c)
def bmz t e c d n l m o g p b h i j a:=dH [bo t,bo e,km,km,lb U [gt c 0,gt d 0] [],bo n,Qh [.f 36 [] [],l,m,o],km,bo g,bo g,lb I [e,p] []] [(9,10)] (ao 2 a (gt c 0) (gt d 0) λq=>aw 2 a q λr=>eV (aX bh6 1 a [(0,r)]) λs k=>eV (cj 52 nJ 16 k 86 (gt b 0) s)<|ab3 b h i j)
def bmB a k b d l m n o e:=Rg->aw 15 a k λf=>aw 9 a b λg=>ao 2 a (gt d 0) (gt e 0) λh=>aw 2 a h λi=>fV bi8 a [f,g,i] λc=>rV (eO 0 c) λj=>rV (eO 1 c) λp=>sV (aK 9 a b j)<|bmz k b d e h f g i c j l m n o
def bmE a d c(b:cG):=aU a (iv 0) λe=>ah e (aJ d (gt c 0) λf=>aV a f λg=>b [g])<|b [a]
def bmG d e(h:aG) c v f i k g j b a:=Rg->aB 0 a d λl=>ab 4 a l λm=>aJ a m λn=>aU (gt b 1) n λo=>ah o (jV 15 (arT b g j a)<|bmD a d e b) (aJ a (gt b 0) λp=>bf p (iv 0) λq=>ah q (h [gt c 0] a)<|ao 1 a v (gt c 1) λr=>aM a r λs=>aJ a (gt b 0) λt=>aO .rem s t λu=>jR 27 (bmB a d e b c f i k)<|bmE u a b)
def bmI e j f(c:aG) d g a b:=Rg->aJ b e λh=>aU (gt a 1) h λi=>ah i (lV [.l [] U U,iv 0] b<|bmG j f c a e d g b)<|c [gt a 0] b
def bmF e d c b a:=lV [.l [] U U,iv 0] e<|bmI d c b a
def bmA b R d t3 c:=aw 15 c b λg=>fV bi7 c [g] λh=>eV (bs 57 aNL c 6) λa e=>sV (aK 9 e a h) λf=>jV 3 (bmC a t3 R)<|bmF f d b a
def bjt a b c R:=eV (bs 57 aNL c 5)<|bmA a R b
def bqk{b:List AV}{c:AV}{R:o8}(l0:L b=15)(h:H1 43 15 2 b λd e=>bjt d c e R):Ct 14 [.a b,c] R:=z1 bn7 bkc Tryz.func14 l0 h
def bjE(w:am)(c:mp)(g:cJ)(j:aC2 w/\O4 w c/\qC w g=U):Ct 31 [.a w.c, .a c.c, .a g.c] (·=bv (aOM w c g)):=by obtain⟨b,h,i⟩:=j;refine bpT rfl rfl rfl λl n d e f m=>?_;have k:aN (V 6) g.c=V (.a g.c):=rfl;have arg:dG l (.a g.c)= .a g.c:=rfl;simp+contextual only[bjg,u0,u1,d,e,f,z7,k,rk,oe,ar,arm,arg,bii,aj,b,b.wo,h,i,hH,bR,ld,Bool.and_true,↓uL]
def bi0:FT:=qe bjE
def boh{w c g Lw K}:=sT bi0 bjE w c g Lw K (j:=by simp+contextual only[ij,aNX,Nb])
def aQo(w:am)(c:mp)(n:Nat):List xd:=(aH n).flatMap λ(t:Nat)=>if aID w c (t:Int) then(aOk w c (t:Int)).map λu=>⟨(t:Int),u⟩ else[]
theorem bj3{w:am}{c:mp}{n:Nat}:aQo w c (n+1)=aQo w c n++if aID w c (n:Int) then(aOk w c (n:Int)).map λu=>⟨(n:Int),u⟩ else[]:=by grind [aQo,List.range_succ]
theorem bkf{w:am}{c:mp}(h:O4 w c){t:Int}:L (aOk w c t)<=4:=by have a:=h.sy.th;grind [aOk,fO,wU]
theorem bpc{w:am}{c:mp}{n:Nat}{x:xd}(h:x∈aQo w c n):aID w c x.aq=U:=by grind [aQo]
theorem bj4{w:am}{c:mp}(h:O4 w c):∀n:Nat,L (aQo w c n)<=n*4
 |0=>by simp[aQo]
 |n+1=>by
  have a:=bj4 h n
  grind [bkf,bj3]
def bnn{l:List xd}:∀r∈l.map xd.c,L r=2:=by intro r a;obtain⟨y,_,rfl⟩:=dN.1 a;rfl
structure StK(x:ae)(w:am)(v5 v7:Nat)(c:mp):Prop where
 hl:L x=4096
 b1:box x (2,1)=V ⟨43,15,U,U,[w.c]⟩
 b5:box x (5,v5)=V ⟨57,9,U,U,[aNL]⟩
 b7:box x (6,v7)=V ⟨57,9,U,U,[c.c]⟩
theorem StK.fx{x y:ae}{w:am}{d e:Nat}{c:mp}{a:List Id}(S:StK x w d e c)(F:Fx x y a)(f:∀q∈a,q.1=53\/q.1=86):StK y w d e c:=by have b:∀{q:Id},q.1≠53/\q.1≠86->q∉a:=(by grind);exact⟨F.len.trans S.hl,F.keep _ _ (b<|by simp) S.b1,F.keep _ _ (b<|by simp) S.b5,F.keep _ _ (b<|by simp) S.b7⟩
def bj2(w:am)(l:List Int)(hp:aC2 w/\Po w=U/\L l<100000):Ct 14 [.a w.c,sl ci l] (λr=>∃p c,r= .t [sl xd.c p, .a<|mp.c c]/\aNT w (aNY w) p=V c/\L p<=L l):=by obtain⟨H,ab,a9⟩:=hp;have hT:=H.wo.th;generalize hQ:(λ(r:AV)=>∃p c,r= .t [sl xd.c p, .a<|mp.c c]/\aNT w (aNY w) p=V c/\L p<=L l)=Q;refine aDq (bqk rfl λs2 E A h0=>?_);show bjt (.p (2,1) 0 0) (sl ci l) s2 λr=>Q<|B1 r;simp only[bjt,↓uL];refine so E λv s3 F3 N3 b3=>?_;have c1:=F3.kq A;have X:=F3.len.trans E;have K:∀{Y:ae},fS Y (sl ci l)=V (iv<|L l):=cT;simp only[bmA,u0,u1,c1,z7,rk,ar,bii,aj,↓uL];refine⟨⟨H,ab⟩, .inl rfl,?_⟩;refine anu X λo s4 F4 N4 b4=>?_;have S4:StK s4 w v o (aNY w):=⟨F4.len.trans X,F4.kq c1,F4.kq b3,b4⟩;have R:∀(y:ae) (p:List xd) (c:mp) (a:AV),StK y w v o c->gm y 52 2 a (p.map xd.c)->(∀q∈aA a,q.1=86)->aNT w (aNY w) p=V c->L p<=L l->bmC (.p (6,o) 0 0) (.p (5,v) 0 0) (λr=>Q<|B1 r) [a] y:=(by intro y p c a S g M G ac _;simp only[u0,u1,S.b7,rk,oe,aj,↓uL];refine qr S.b5 rfl rfl λz d bz=>?_;simp only[u0,u1,bz,rk,oe,au,aj,↓uL];refine aOH (vs':=[sl xd.c p, .a c.c]) ?_ rfl (by rw[<-hQ];exact⟨p,c,rfl,G,ac⟩);simp only[List.map_cons,List.map_nil,aWs (g.fx d λq f e=>by simp at e;subst e;have:=M _ f;simp at this)];rfl);simp only[di,bmF,↓uL];refine jD (α:=AV) (λa i=>[a,iv i]) 1 (L l) (λk a x=>∃p c,StK x w v o c/\gm x 52 2 a (p.map xd.c)/\(∀q∈aA a,q.1=86)/\O4 w c/\aNT w (aNY w) p=V c/\L p<=k) (s0:= .l [] U U) ⟨[],aNY w,S4, .inl ⟨rfl,rfl⟩,by simp[aA],bhV ab,rfl,by simp⟩ ?_;rintro k a x hk ⟨p,c,S,g,M,C,G,ac⟩;simp only[bmI,au,ck,aI,u0,u1,K,↓uL];refine⟨λh=>?_,λh=>R x p c a S g M G<|by omega⟩;have aa:=aL h;generalize hI:yI (λ(a:AV) (i:Int)=>[a,iv i]) (L l) (λk a x=>∃p c,StK x w v o c/\gm x 52 2 a (p.map xd.c)/\(∀q∈aA a,q.1=86)/\O4 w c/\aNT w (aNY w) p=V c/\L p<=k)=Iy;refine jD (α:=AV) (λa i=>[a,iv i]) 1 (L w.aQ.ay) (λt b y=>Fx x y []/\gm y 52 2 b ((aQo w c t).map xd.c)/\∀q∈aA b,bK x q/\q.1=53) (s0:= .l [] U U) ⟨Fx.refl _ _, .inl ⟨by simp[aQo],rfl⟩,by simp[aA]⟩ ?_;rintro t b y ht ⟨F,gb,pb⟩;have Sy:=S.fx F (by simp);simp only[bmG,au,ck,aI,u0,u1,Sy.b1,rk,cT,aj,Nat.reduceAdd,↓uL];refine⟨λN=>?_,λN=>?_⟩;have ag:=aL N;simp only[di,bmD,au,ck,u0,u1,Sy.b1,Sy.b7,z7,rk,oe,ar,arm,bii,aj,↓uL];refine⟨⟨H,C⟩,λhe=>?_,λhe=>?_⟩;simp only[arT,aI,au,ck,u0,u1,↓uL];refine dR (mk:=λ(a:AV) i=>[a,iv i]) (p:=1) (s:=b) (s':=b) (λ_ _=>rfl) ag (by omega) ⟨F,?_,pb⟩;grind [bj3];have a7:aID w c (t:Int)=U:=(by grind);refine⟨⟨H,C⟩, .inl rfl,?_⟩;refine jD (α:=AV) (λa i=>[a,iv i]) 1 (L<|aOk w c t) (λj b z=>Fx x z []/\gm z 52 2 b ((aQo w c t++((aOk w c t).take j).map λu=>(⟨t,u⟩:xd)).map xd.c)/\∀q∈aA b,bK x q/\q.1=53) (s0:=b) (by grind) ?_;rintro j b z hj ⟨d,gz,pz⟩;have aG:=d.len.trans S.hl;have aF:bM nJ C2 [(0,iv t),(1,iv<|gd (aOk w c t) j)]=V (.a [iv t,iv<|gd (aOk w c t) j]):=rfl;have B:aX bh6 1 z [(0, .a [iv t,iv<|gd (aOk w c t) j])]=V (.l [xd.c ⟨t,gd (aOk w c t) j⟩] U U,z):=ua rfl rfl rfl (by decide) rfl (by decide);have aJ:∀{Y:ae},fS Y (sl ci<|aOk w c t)=V (iv<|L<|aOk w c t):=cT;simp only[bmH,au,ck,aI,u0,u1,aJ,ix,rk,qM,bh,aF,B,↓uL];refine⟨λO=>?_,λO=>?_⟩;have W:=aL O;refine⟨dJ W,?_⟩;refine O5 gz aG bnn (by simp[xd.c]) (by simp) (by grind [bj4,bkf]) λb' z2 g2 F2 P2=>?_;simp only[ab3,au,ck,u0,u1,↓uL];refine dR (mk:=λ(a:AV) i=>[a,iv i]) (p:=1) (s:=b) (s':=b') (λ_ _=>rfl) W (by grind [bkf]) ⟨(d.trans F2).mono (by grind [bK.no]),?_,by grind [bK.old]⟩;have e:aQo w c t++((aOk w c t).take<|j+1).map (λu=>(⟨t,u⟩:xd))=(aQo w c t++((aOk w c t).take j).map λu=>(⟨t,u⟩:xd))++[⟨t,gd (aOk w c t) j⟩]:=(by grind [List.take_succ_eq_append_getElem,bT]);grind [bc.p];obtain rfl:j=L (aOk w c t):=(by grind);rw[List.take_length] at gz;simp only[arT,aI,au,ck,u0,u1,↓uL];refine dR (mk:=λ(a:AV) i=>[a,iv i]) (p:=1) (s:=b) (s':=b) (λ_ _=>rfl) (Y:=y) ag (by omega) ⟨d,?_,pz⟩;grind [bj3];obtain rfl:t=L w.aQ.ay:=(by grind);have ba:∀{Y:ae},box Y (0,0)=box Y (0,0):=rfl;have ah:fS y b=V (iv<|L<|aQo w c<|L w.aQ.ay):=(by rw[gb.ln,bJ]);have kl:=bj4 C<|L w.aQ.ay;generalize a8:aQo w c (L w.aQ.ay)=ks at*;have an:∀x∈ks,aID w c x.aq=U:=(by grind [bpc]);have ga:=g.fx F (by simp);simp only[ah,aY,u0,u1,K,ix,↓uL];refine⟨λO=>R y p c a Sy ga M G (by omega),λO=>⟨dJ aa,?_⟩⟩;have h0:0<L ks:=(by grind);have ao:wl .rem 0 [] (iv<|gd l k) (iv<|L ks)=V (iv<|(gd l k).tmod<|L ks):=(by show Option.map AV.s (if dq=dq/\(L ks:Int)≠0 then V (.int .i64<|Int.tmod (gd l k)<|L ks) else J)=_;grind);have t1:∀{a b:Int},0<b-> -b<a.tmod b/\a.tmod b<b:=λ{a b} h=>(by have h1:=Int.tmod_lt_of_pos a h;have N:=Int.tmod_lt_of_pos (-a) h;rw[Int.neg_tmod] at N;omega);have hb:=t1 (a:=gd l k) (show(0:Int)<L ks by omega);simp only[bh,qM,aY,ao,↓uL];generalize(gd l k).tmod (L ks:Int)=m at hb⊢;have hJ:∀m:Int,0<=m->m<L ks->bmB y (.p (2,1) 0 0) (.p (6,o) 0 0) [b,iv<|L w.aQ.ay] [a,iv k] Iy (gM 1<|L l) x [iv m]:=(by intro m bb bd _;obtain⟨n,rfl⟩:∃n:Nat,m=n:=⟨m.toNat,by omega⟩;have P:n<L ks:=(by omega);have D:=an _<|dB P;rcases gb with⟨e,_⟩|⟨q,mm,rfl,f⟩;have:=aOe L e;simp at this;subst this;simp at P;have ad:q.1=53:=(pb q<|by simp[aA]).2;have T:∀{z:ae},box z q=V ⟨52,2,U,I,ks.map xd.c++mm⟩->cz 2 z (.m q<|L<|ks.map xd.c) (iv n)=V (.p q n 0):=(by grind [cz]);have Z:∀{z:ae},box z q=V ⟨52,2,U,I,ks.map xd.c++mm⟩->lS (V 2) z (.p q n 0)=V (.a (gd ks n).c):=λ{z} h=>(by simp only[aC5,h,Option.bind_some];rw[List.getElem?_append_left (by grind),ve,eC P,bT P];rfl);simp only[au,u0,u1,Sy.b1,Sy.b7,z7,rk,oe,aj,T f,Z f,↓uL];simp only[ar,arm,Fa,bii];refine⟨⟨H,C⟩, .inl (by simp[nA,eB,iR,am.c,mp.c,xd.c,br.c,mn.c,aW.c,sl]),?_⟩;simp only[oJ,pG,aY,D,vb,↓uL];refine qr Sy.b7 rfl rfl λz d bz=>?_;have Sz:StK z w v o (aN2 w c<|gd ks n):=⟨d.len.trans Sy.hl,d.kq Sy.b1,d.kq Sy.b5,bz⟩;have nv:∀{q:Id},q.1≠6->q∉[((6,o):Id)]:=(by grind);have af:=d.keep _ _ (nv<|by rw[ad];decide) f;have aB:=ga.fx d λq f=>nv (by rw[M q f];decide);have B:aX bh6 1 z [(0, .a (gd ks n).c)]=V (.l [xd.c<|gd ks n] U U,z):=ua rfl rfl rfl (by decide) rfl (by decide);simp only[bmz,↓uL];refine dT (by simp[eL,lb,Qh,Cz,aTn,a6H,bc7,bc6,bnb,bo5,bo3,bo6,bo4,bjD,bna,au,ad]) ?_;simp only[au,T af,Z af,aY,B,bQ,u0,u1,↓uL];refine O5 aB Sz.hl bnn (by simp[xd.c]) (by simp) (by simp;omega) λa' z2 g2 F2 P2=>?_;simp only[ab3,au,ck,u0,u1,↓uL];rw[<-hI];refine dR (mk:=λ(a:AV) i=>[a,iv i]) (p:=1) (s:=a) (s':=a') (λ_ _=>rfl) aa (by omega) ⟨p++[gd ks n],_,(by grind [StK.fx]),by grind [bc.p],λq f=>(P2 q f).2,C.step D,bpG G D,by simp;omega⟩);simp only[bmE,au,ck,ah,u0,u1,f8,↓uL];refine⟨λh=>?_,λh=>?_⟩;have:=u4 h;rw[eM (by omega)<|by omega];exact hJ _ (by omega) (by omega);have:=aYF h;exact hJ _ (by omega) (by omega)
def bjc:FT:=pn bj2
def boH{w l Lw K}:=rQ bjc bj2 w l Lw K (j:=by simp+contextual only[ij,aNX,Nb])
def bnw:dO:=(31,bi0)::(14,bjc)::bke
def biO:eJ bnw:=it (tE bjE)<|it (aN0 bj2)<|bkc
def bfd:=ai @boh<|ai @boH<|@bii
abbrev aSa:List AV:=[iv 0,iv 0,iv 0,iv 0,iv 0,.l [] U U]
abbrev biV:List AV:=[iv 0,iv 0,iv 0,iv 0,iv 0,.l [] I I]
def bjv b j c d R a:=az b (aw 15 a j) λe=>az b (aw 9 a c) λf=>az b (aw 6 a d) λg=>az b (fV bi0 a [e,f,g]) λh=>aD b h (bv I) λi=>aE R a [i]
def bmJ b d g c R:=aw 15 c b λh=>fV bi2 c [h,g] λf=>rV (eO 0 f) λi=>rV (eO 1 f) λj=>eV (bs 57 aNL c 7) λa e=>sV (aK 9 e a i)<|bjv j b a d R
def bql{b:List AV}{c:List AV}{d:AV}{R:o8}(l0:L b=15)(l1:L c=6)(h:H2 43 15 3 b 46 6 4 c λe f g=>bmJ e f d g R):Ct 12 [.a b, .a c,d] R:=z2 aur biO Tryz.func12 l0 l1 h
def bn4:=bi 14 [(1,([2],[1,3])),(8,([2,7],[1,3])),(11,([2],[1,3,7]))]
def bmn i e j a f g c(b:aG) h d:=dH [bo i,lb I [] [],km,lb I [e,j] [51],km,lb I [gt a 1] [],lb I [f,g] [54],km,cq I c,km] [(0,1),(1,2),(0,3),(1,4),(3,4),(0,5),(1,5),(2,5),(3,5),(0,6),(1,7),(3,7),(5,7),(6,7)]<|b [h] d
def bmo d a i e j f g c h b:=cB 38 [d,h,gt a 0] b 56<|bmn i e j a f g b c
def bmp a g i h j d b e:=eV (aX bH 1 e [(0,gt a 1)]) λc f=>eV (cj 3 fB 8 f 54 b c)<|bmo g a i h j b c d
def bmu b d c e(f:aG):=fV aQF b [d,gt c 1] λi=>cf i λa=>az a (aw 15 b e) λj=>fm a (gt c 1) λk=>fm a d λl=>fm a d λm=>az a (aJ b m) λn=>az a (aO .sub n<|iv 1) λo=>az a (ao 1 b l o) λp=>az a (aM b p) λq=>az a (fV FN b [j,k,q]) λr=>aD a r (bv I) λs=>ah s (aw 15 b e λt=>eV (aX bH 0 b []) λg h=>eV (cj 3 fB 8 h 51 g d)<|bmp c t e g d f)<|f [gt c 0] b
def bmv c i R d e a b:=Rg->ab 14 b c λf=>aJ b f λg=>aU (gt a 1) g λh=>ah h (jV 11 (arT a d e b)<|bmu b i a c)<|fe R b [gt a 0]
def bmr c R d b a:=Rg->aJ a c λe=>bf e (iv 4) λf=>ah f (fe R a [gt b 0]) (ao 1 a c (iv 0) λg=>aM a g λh=>aV h (iv 1) λi=>lV [gt b 0,i] a<|bmv d c R)
def bmq h(g:aG) d a:=eV (aX aYp 1 a [(0,d)]) λe b=>eV (cj 38 bhN 24 b 17 h e) λf c=>g [f] c
def bmt a j c d(b:aG):=aw 15 a j λf=>rV (bM aSa O7 [(0,iv 2),(5,c)]) λg=>fV FO a [f,g] λh=>ah h (eV (aX bH 0 a []) λi e=>eV (cj 3 fB 8 e 15 i c)<|bmq d b)<|b [d] a
def bjr a b c d R:=jV 1 (bmr b R a)<|bmt d a b c
def bpR{a b c:AV}{s0:ae}{R:be}(h:eV (qm 43 15 s0 3 a) λd e=>bjr d b c e R):EB 38 [a,b,c] s0 R:=zB bn4 biO Tryz.func38 h
def bqh{d:List AV}{e f:AV}{s0:ae}{R:be}(j:L s0=4096)(l0:L d=15)(h:∀(b:ae) (c:Nat),Kp s0 b->(∀k,k≠3->aZ b k=aZ s0 k)->(∀x,box s0 (3,c)≠V x)->box b (3,c)=V ⟨43,15,U,U,[d]⟩->bjr (.p (3,c) 0 0) e f b R):EB 38 [.a d,e,f] s0 R:=by refine bpR ?_;refine iN rfl l0 (by decide) (by decide) j λb c m g0 n g=>?_;exact h b c m (λk i=>g0 k i) (λx l=>n x<|(Kp.refl _).keep _ _ l) g
def bjs g c b a R:=aw 15 a g λh=>aw 6 a b λi=>fV FO a [h,i] λj=>ah j (aw 6 a b λk=>eV (aX biV 1 a [(0,k)]) λl d=>eV (cj 46 aSa 64 d 13 c l) λf e=>fe R e [f])<|fe R a [c]
def bpS{a b c:AV}{s0:ae}{R:be}(h:eV (qm 43 15 s0 3 a) λe f=>eV (qm 46 6 f 5 c) λd g=>bjs e b d g R):EB 37 [a,b,c] s0 R:=zB a9k biO Tryz.func37 h
def bqi{e:List AV}{j:AV}{f:List AV}{s0:ae}{R:be}(l:L s0=4096)(l0:L e=15)(s:L f=6)(h:∀(b:ae) (c d:Nat),Kp s0 b->(∀k,k≠3->k≠5->aZ b k=aZ s0 k)->(∀x,box s0 (3,c)≠V x)->(∀x,box s0 (5,d)≠V x)->box b (3,c)=V ⟨43,15,U,U,[e]⟩->box b (5,d)=V ⟨46,6,U,U,[f]⟩->bjs (.p (3,c) 0 0) j (.p (5,d) 0 0) b R):EB 37 [.a e,j, .a f] s0 R:=by refine bpS ?_;refine iN rfl l0 (by decide) (by decide) l λv c i g0 t n=>?_;refine iN rfl s (by decide) (by decide) (i.len.trans l) λb d m g1 u o=>?_;exact h b c d (Kp.trans i m) (λk q r=>(g1 k r).trans<|g0 k q) (λx g=>t x<|(Kp.refl _).keep _ _ g) (λx g=>u x<|i.keep _ _ g) (m.keep _ _ n) o
def biL(w:am)(g:cJ)(l:List xd)(n:aC2 w/\Po w=U/\qC w g=U/\L l<1000000):Ct 12 [.a w.c, .a g.c,sl xd.c l] (·=bv (biu w g l)):=by obtain⟨o,b,s,f⟩:=n;refine bql rfl rfl λt m e i q=>?_;simp only[bmJ,u0,u1,e,z7,rk,ar,bfd,aj,↓uL];refine⟨⟨o,b,f⟩, .inl rfl,?_⟩;simp only[oJ,pG,aY,↓uL];have p:aN (V 6) g.c=V (.a g.c):=rfl;refine anu m λu x F N d=>?_;have j:=F.kq e;have k:=F.kq i;have arg:dG x (.a g.c)= .a g.c:=rfl;unfold a96 at d⊢;unfold biu;rcases h:aNT w (aNY w) l with _|c;simp only[bjv,u0,u1,jN,uO,aoC,uR,↓uL];rw[h] at d;have r:=(bhV b).run h;simp only[bjv,u0,u1,jA,j,k,d,z7,p,rk,oe,ar,arm,arg,bfd,aj,uO,vb,↓uL];simp_all
def bjd:FT:=qe biL
def boI{w g l Lw K}:=sT bjd biL w g l Lw K (j:=by simp+contextual only[ij,Nb])
def bnm{l:List cJ}:∀r∈l.map cJ.c,L r=6:=by intro r a;obtain⟨y,_,rfl⟩:=dN.1 a;rfl
def a7h(g:cJ)(f o:Bool):List AV:=[iv g.kind,iv g.ea,iv g.eb,iv g.ec,iv g.ed, .l (g.cW.map ci) f o]
def bpb{w:am}{g:cJ}{f o:Bool}{a:AV}{i:List cJ}{Y:ae}(k:L Y=4096)(y:kB w)(A:L g.cW<1000)(v:gm Y 46 6 a<|i.map cJ.c)(E:L i<1000000):∃r e,(gm e 46 6 r ((i++if qC w g then[g] else[]).map cJ.c)/\Fx Y e (aA a)/\∀q∈aA r,q∈aA a\/bK Y q/\q.1=13)/\cZ aS GG 37 [.a w.c,a, .a<|a7h g f o] Y r e:=by refine bqi k rfl rfl λb M N K2 F G H s t=>?_;have d:Fx Y b []:=K2.fx [];have m:=d.len.trans k;have z:aN (V 6) (a7h g f o)=V (.a<|a7h g f o):=rfl;have arg:dG b (.a<|a7h g f o)= .a g.c:=rfl;have u:=v.fx d (by simp);have x:kB w/\L g.cW<4611686018427387904:=⟨y,by omega⟩;have j:aX biV 1 b [(0, .a<|a7h g f o)]=V (.l [cJ.c g] U U,b):=aQm (Y:=b) (cs:=a7h g f o) (tgt:=g.c) rfl rfl (by decide) (by simp[cJ.c,eN,sl]) (by decide);simp only[bjs,u0,u1,s,t,z7,z,rk,ar,arg,bfd,aj,j,↓uL];refine⟨x,λh=>?_,λh=>?_⟩;refine O5 u m bnm (by simp[cJ.c]) (by simp) (by simp;omega) λC K D n B=>?_;simp only[fe,aoz];exact⟨by grind [bc.p],(d.trans n).mono (by simp_all),by grind [bK.old]⟩;simp only[fe,aoz];grind [Fx.mono]
def cyB:Nat->Nat|0=>1|n+1=>1+16*cyB n
def CyL(w:am)(l:List<|List Int):Prop:=∀c∈l,qC w (Ds c)=U
def bpC{l:List (List Int)}:∀r∈l.map cl,L r=1:=by intro r a;obtain⟨y,_,rfl⟩:=dN.1 a;rfl
def bpa{w:am}(hw:kB w):∀(n:Nat) {p:AV} {path:List Int} {a:AV} {out:List (List Int)} {Y:ae},L path+n=4->0<L path->(∀x∈path,aF (L w.ac) x)->L Y=4096->O1 Y 1 p (path.map ci)->(∀q∈aA p,q.1=54)->gm Y 38 1 a (out.map cl)->(∀q∈aA a,q.1=17)->CyL w out->L out+cyB n<1000000->
  ∃r H,(∃f,gm H 38 1 r (f.map cl)/\(∀q∈aA r,q.1=17/\(q∈aA a\/bK Y q))/\Fx Y H (aA a)/\CyL w f/\L f<=L out+cyB n)/\cZ aS GG 38 [.a w.c,p,a] Y r H:=by
 intro n
 induction n using Nat.strongRecOn with
 |ind n ih=>
 intro p path a out Y hn a1 aW K hp pp hG pa hC bj
 have aV:=hw.ev
 have bG:L path<=4:=by omega
 refine bqh K rfl λM N K2 lk nf b3=>?_
 have S:Fx Y M []:=K2.fx []
 have aq:=S.len.trans K
 have D:=hp.fx S (by simp)
 have ga:=hG.fx S (by simp)
 have a4:∀{z:ae},O1 z 1 p (path.map ci)->lz z p=sl ci path:=λ{z} h=>by
  rcases h with⟨t,o,rfl⟩|⟨b,m,e,rfl,hb⟩
  ·rfl
  ·simp[lz,gi,hb,gK,sl]
 have az:∀{z:ae},O1 z 1 p (path.map ci)->dG z p=sl ci path:=λ{z} h=>by
  rcases h with⟨t,o,rfl⟩|⟨b,m,e,rfl,hb⟩
  ·rfl
  ·simp[dG,eR,gi,hb,nrm,gK,sl]
 have arg:dG M (.a [iv 2,iv 0,iv 0,iv 0,iv 0,p])= .a (Ds path).c:=by
  show AV.a [iv 2,iv 0,iv 0,iv 0,iv 0,lz M p]=_
  rw[a4 D];rfl
 have aT:bM aSa O7 [(0,iv 2),(5,p)]=V (.a [iv 2,iv 0,iv 0,iv 0,iv 0,p]):=by
  rcases hp with⟨t,o,rfl⟩|⟨b,m,e,rfl,hb⟩<;>rfl
 have kp:cD p=[]\/cD p=[54]:=by
  rcases hp.keys (P:=λk=>k=54) pp with h|⟨k,h,rfl⟩
  ·exact .inl h
  grind
 have hV:kB w/\L (Ds path).cW<4611686018427387904:=⟨hw,by show L path<_;omega⟩
 have bs:∀x,box Y (3,N)≠V x:=nf
 have hJ:∀(y:ae) (C:AV) (f:List<|List Int),Fx Y y (aA a)->box y (3,N)=V ⟨43,15,U,U,[w.c]⟩->O1 y 1 p (path.map ci)->gm y 38 1 C (f.map cl)->(∀q∈aA C,q.1=17/\(q∈aA a\/bK Y q))->CyL w f->L f<=L out+1->
   bmr p (λr H=>∃f,gm H 38 1 r (f.map cl)/\(∀q∈aA r,q.1=17/\(q∈aA a\/bK Y q))/\Fx Y H (aA a)/\CyL w f/\L f<=L out+cyB n) (.p (3,N) 0 0) [C] y:=by
  intro y C f F c3 D g ia bu bC _
  have bF:=F.len.trans K
  simp only[au,D.ln,bJ,u0,u1,↓uL]
  refine⟨λh=>?_,λh=>?_⟩
  ·grind [fe,aoz,cyB]
  ·obtain⟨m,rfl⟩:∃m,n=m+1:=⟨n-1,by grind⟩
   have ap:=aW _<|dB a1
   obtain⟨e,he⟩:∃e:Nat,gd path 0=e:=⟨(gd path 0).toNat,by have:=ap.1;omega⟩
   have bB:e<L w.ac:=by have:=ap.2;omega
   show rV (cz 1 y p<|iv ((0:Nat):Int)) _
   refine O1.ix1 D (i:=0) (c:=iv<|gd path 0) (by grind [bT]) λ_ _=>?_
   simp only[he,u0,u1,↓uL]
   rw[fX<|by omega]
   refine AI (α:=AV) (λb i=>[b,iv i]) 1 (L w.ac) (e+1) (by omega) (λj b z=>∃v,Fx Y z (aA a)/\box z (3,N)=V ⟨43,15,U,U,[w.c]⟩/\O1 z 1 p (path.map ci)/\gm z 38 1 b (v.map cl)/\(∀q∈aA b,q.1=17/\(q∈aA a\/bK Y q))/\CyL w v/\L v<=L out+1+j*cyB m) (s0:=C) (by grind) ?_
   rintro j b z hj ⟨v,W,z3,R,gb,ib,Z,aq⟩
   have a0:=W.len.trans K
   simp only[bmv,aI,au,ck,u0,u1,z3,rk,cT,aj,↓uL]
   refine⟨λh2=>?_,λh2=>?_⟩
   ·have aZ:=aL h2
    simp only[di,bmu,au,ck,ar,jM,az R,bfd,u0,u1,↓uL]
    refine⟨by omega,?_⟩
    have bw:j*cyB m<=(j+1)*cyB m:=(by grind)
    have bx:(j+1)*cyB m<=16*cyB m:=qo _ (by omega)
    have bz:cyB (m+1)=1+16*cyB m:=rfl
    generalize hI:yI (λ(b:AV) (i:Int)=>[b,iv i]) (L w.ac) (λj b z=>∃v,Fx Y z (aA a)/\box z (3,N)=V ⟨43,15,U,U,[w.c]⟩/\O1 z 1 p (path.map ci)/\gm z 38 1 b (v.map cl)/\(∀q∈aA b,q.1=17/\(q∈aA a\/bK Y q))/\CyL w v/\L v<=L out+1+j*cyB m)=d
    have aw:∀(O:ae) (X:AV) (o3:List<|List Int),Fx Y O (aA a)->box O (3,N)=V ⟨43,15,U,U,[w.c]⟩->O1 O 1 p (path.map ci)->gm O 38 1 X (o3.map cl)->(∀q∈aA X,q.1=17/\(q∈aA a\/bK Y q))->CyL w o3->L o3<=L out+1+(j+1)*cyB m->arT [b,iv j] d (gM 1<|L w.ac) z [X] O:=by
     intro O X o3 h1 h2 h3 h4 h5 h6 h7 _
     simp only[au,ck,u0,u1,↓uL]
     rw[<-hI]
     exact dR (mk:=λ(a:AV) i=>[a,iv i]) (p:=1) (s:=b) (s':=X) (λ_ _=>rfl) (Y:=z) aZ (by omega) (by grind)
    have G:=aw z b v W z3 R gb ib Z (by omega)
    rcases hM:Q ((j:Int)∈path) with _|_
    ·have ew:dq.wrap ((L path:Int)-1)=((L path-1:Nat):Int):=by grind [eM]
     have bD:L path-1<L path:=by omega
     simp only[Bool.not_false,jA,qE,u0,u1,R.ln,bJ,z3,z7,aj,ew,↓uL]
     refine O1.ix1 R (i:=L path-1) (c:=iv<|gd path<|L path-1) (by grind [bT]) λ_ _=>?_
     simp only[jA,ar,bfd,u0,u1,uO,vb,↓uL]
     refine⟨(by grind [dJ,dB]),λbv=>?_,λ_=>G⟩
     simp only[nS,bQ]
     refine apV (aa:=[]) (e:=3) (z:=1) (new:=path.map ci) (.inl ⟨rfl,rfl⟩) R.ro rfl (by decide) (by omega) (by simp) fF (by simp;omega) λx1 A g3 F3 P3=>?_
     have E:gm A 3 1 x1 (path.map ci):=by grind
     have u:Fx z A []:=F3.mono (by simp[aA])
     have ao:∀q∈aA x1,bK z q/\q.1=51:=(by grind [aA])
     have aU:aX bH 1 A [(0,iv j)]=V (.l ([(j:Int)].map ci) U U,A):=iz
     have av:=u.len.trans a0
     simp only[bmp,ck,aU,bQ,↓uL]
     refine O5 E av fF fF (by simp) (by simp;omega) λx2 s5 g5 B P5=>?_
     have a5:∀{q:Id},q.1≠51->q∉aA x1:=(by grind)
     have aO:=(gb.fx u<|by simp).fx B (by grind)
     have a8:=(R.fx u<|by simp).fx B (by grind)
     have a7:=B.keep _ _ (a5<|by simp)<|u.kq z3
     have aY:=B.len.trans av
     have aK:Fx Y s5 (aA a):=(W.trans<|u.trans B).mono λq hq=>by
      simp only[List.nil_append,dF] at hq
      rcases hq with h|h
      ·exact .inl h
      ·exact .inr ((ao q h).1.old W).no
     simp only[bmo,au,↓uL]
     refine jH rfl (ih m (by omega) (p:=x2) (path:=path++[(j:Int)]) (a:=b) (out:=v) (by simp;omega) (by simp) (λx hx=>?_) aY (.of (by rw[dg];exact g5.p)) (by grind) aO (by grind) Z<|by grind) ?_
     ·grind [cE,dJ]
     rintro r s6 ⟨o3,g6,i6,F6,aQ,bi⟩
     refine⟨F6.len,?_⟩
     simp only[bmn,↓uL]
     refine dT ?_ ?_
     ·have kx:cD x1=[]\/cD x1=[51]:=by
       rcases(O1.of E).keys (P:=λk=>k=51) (by grind) with h|⟨k,h,rfl⟩
       ·exact .inl h
       grind
      rcases kp with h|h<;>rcases kx with h'|h'<;>simp[eL,lb,Cz,aTn,a6H,bc7,bc6,ck,h,h']
     have a6:∀{q:Id},q.1≠17->q∉aA b:=(by grind)
     refine aw s6 r o3 ((aK.trans F6).mono λq hq=>?_) (F6.keep _ _ (a6<|by simp) a7) (a8.fx F6<|by grind) g6 (λq hq=>⟨(i6 q hq).1,?_⟩) aQ (by grind)
     ·grind [bK.no]
     grind [bK.old]
    ·simp only[Bool.not_true,jN,u0,u1,uO,aoC,↓uL]
     exact⟨λh=>(by cases h),λ_=>G⟩
   ·obtain rfl:j=L w.ac:=(by grind)
    simp only[fe,aoz]
    refine⟨v,gb,ib,W,Z,?_⟩
    have:L w.ac*cyB m<=16*cyB m:=qo _ aV
    grind [cyB]
 simp only[bjr,di,bmt,u0,u1,b3,z7,aT,ar,arg,bfd,aj,↓uL]
 refine⟨hV,λh=>?_,λh=>?_⟩
 ·simp only[nS,bQ]
  refine apV (aa:=[]) (e:=3) (z:=1) (new:=path.map ci) (.inl ⟨rfl,rfl⟩) D.ro rfl (by decide) (by omega) (by simp) fF (by simp;omega) λx A g3 F3 P3=>?_
  have E:gm A 3 1 x (path.map ci):=by grind
  have u:Fx M A []:=F3.mono (by simp[aA])
  have ao:∀q∈aA x,bK M q/\q.1=15:=(by grind [aA])
  have T:=aOp (aA x) A
  have no:∀{q:Id},q.1≠15->q∉aA x:=(by grind)
  have aN:=(ga.fx u<|by simp).fx T (by grind)
  have bt:=(D.fx u<|by simp).fx T (by grind)
  have br:=T.keep _ _ (no<|by simp)<|u.kq b3
  simp only[bmq,baG E,bQ,↓uL]
  refine qs (new:=[[.l (path.map ci) I I]]) aN rfl (by decide) (by rw[T.len,u.len,aq];decide) bpC (by simp) (by simp) (by simp;omega) λC s5 g5 B P5=>?_
  have bI:∀{q:Id},q.1≠17->q∉aA a:=λh h'=>h<|pa _ h'
  have ay:Fx Y s5 (aA a):=(S.trans<|u.trans<|T.trans B).mono (by grind [bK.no,bK.old])
  refine hJ s5 C (out++[path]) ay (by grind [Fx.keep]) (by grind [O1.fx]) (by rw[dg];exact g5.p) (by grind [bK.old]) (λl K=>?_) (by simp)
  rcases dF.1 K with h1|h1
  ·exact hC l h1
  grind
 ·exact hJ M a out (S.mono<|by simp) b3 D ga (by grind) hC (by omega)
def bnx:dO:=(12,bjd)::bnw
def bnv:eJ bnx:=it (tE biL)<|biO
def bm2:=ai @boI<|@bfd
def bn2:=bi 61 [(5,([3,5],[1,4])),(10,([3,6],[1,4,5])),(16,([3,7],[1,4])),(22,([3,9],[1,4,7,8])),(28,([3,10],[1,4])),(33,([3,11],[1,4,10])),(39,([3,12],[1,4])),(44,([3,13],[1,4,12])),(47,([3],[1,4,12,13])),(51,([3,14],[1,4,12,13])),(56,([3,15],[1,4,12,13,14]))]
def bl5 d(g:aG)(e:bu) f b a:=aV (gt d 1) (iv 1) λc=>g [b,c] a/\e [b,c] a<e d f
def bmb n i c(j:aG)(e:bu) m k l a b:=Rg->aU (gt a 1) n λf=>ah f (aw 15 b i λg=>rV (bM aSa O7 [(0,iv 1),(1,gt c 1),(2,gt a 1)]) λh=>cB 37 [g,gt a 0,h] b 34<|bl5 a k l b) (aV (gt c 1) (iv 1) λd=>j [gt a 0,d] b/\e [gt a 0,d] b<e c m)
def bmd e c(g:aG)(d:bu) j h i a b:=Rg->aJ b e λl=>aU (gt a 1) l λm=>ah m (ao 1 b e (gt a 1) λn=>aM b n λo=>rV (bM aSa O7 [(0,iv 2),(5,o)]) λp=>eV (aX biV 1 b [(0,p)]) λq k=>eV (cj 46 aSa 64 k 57 (gt a 0) q)<|ab3 a h i b) (aV (gt c 1) (iv 1) λf=>g [gt a 0,f] b/\d [gt a 0,f] b<d c j)
def bl7 g a b c d h e:=cB 38 [g,h,.l [] U U] e 43 λi f=>lV [gt a 0,iv 0] f<|bmd i a b c d
def bmf n m c(f:aG)(d:bu) i g h a b:=Rg->aU (gt a 1) n λj=>ah j (aw 15 b m λk=>rV (bM aSa O7 [(0,iv 3),(1,gt c 1),(2,gt a 1)]) λl=>cB 37 [k,gt a 0,l] b 73<|ab3 a g h b) (aV (gt c 1) (iv 1) λe=>f [gt a 0,e] b/\d [gt a 0,e] b<d c i)
def bmk p o m n c(f:aG)(d:bu) i g h a b:=Rg->aU (gt a 1) p λj=>ah j (aw 15 b o λk=>rV (bM aSa O7 [(0,iv 4),(1,gt m 1),(2,gt n 1),(3,gt c 1),(4,gt a 1)]) λl=>cB 37 [k,gt a 0,l] b 135<|ab3 a g h b) (aV (gt c 1) (iv 1) λe=>f [gt a 0,e] b/\d [gt a 0,e] b<d c i)
def bmj i j f g(h:aG) c d a b:=Rg->aU (gt a 1) i λe=>ah e (lV [gt a 0,gt a 1] b<|bmk i j f g a c d b)<|h [gt a 0] b
def bma a e f d A(g:aG):=ab 14 a e λn=>ao 7 a n (gt f 1) λo=>ab 0 a o λp=>ab 14 a e λq=>ao 7 a q (gt d 1) λr=>ab 0 a r λs=>aO .neq p s λb=>bn b 14 a e λt=>bX b (gt f 1) λu=>aC b (ao 7 a t u) λv=>aC b (aw 7 a v) λw=>aC b (fV Cj a [w]) λx=>aC b (cf x) λy=>aD b (bv U) y λc=>bn c 14 a e λz=>bX c (gt d 1) λh=>aC c (ao 7 a z h) λi=>aC c (aw 7 a i) λj=>aC c (fV Cj a [j]) λk=>aC c (cf k) λl=>aD c (bv U) l λm=>ah m (g [gt d 0] a)<|lV [gt d 0,iv 0] a<|bmj A e f d g
def bmh j l b(f:aG)(e:bu) i g h a c:=Rg->aU (gt a 1) j λk=>ah k (jV 47 (arT a g h c)<|bma c l b a j) (aV (gt b 1) (iv 1) λd=>f [gt a 0,d] c/\e [gt a 0,d] c<e b i)
def bmg e h R c d a b:=Rg->aU (gt a 1) e λf=>ah f (aV (gt a 1) (iv 1) λg=>lV [gt a 0,g] b<|bmh e h a c d b)<|aE R b [gt a 0]
def bme d c R e f a b:=Rg->aU (gt a 1) d λg=>ah g (lV [gt a 0,iv 0] b<|bmf d c a e f b)<|lV [gt a 0,iv 0] b<|bmg d c R
def bmc h c R d e a b:=Rg->aU (gt a 1) h λf=>ah f (aw 15 b c λg=>eV (aX bH 1 b [(0,gt a 1)])<|bl7 g a d e b)<|lV [gt a 0,iv 0] b<|bme h c R
def bmi d b R e f a c:=Rg->aU (gt a 1) d λg=>ah g (lV [gt a 0,iv 0] c<|bmb d b a e f c)<|lV [gt a 0,iv 0] c<|bmc d b R
def bjp a b R:=ab 14 b a λt4=>aJ b t4 λc=>lV [.l [] U U,iv 0] b<|bmi c a R
def bqf{b:List AV}{R:o8}(l0:L b=15)(h:H1 43 15 1 b λc d=>bjp c d R):Ct 15 [.a b] R:=z1 bn2 bnv Tryz.func15 l0 h
def GL(w:am)(z:ae)(b:AV)(N:Nat):Prop:=∃a:List cJ,L z=4096/\box z (1,1)=V ⟨43,15,U,U,[w.c]⟩/\gm z 46 6 b (a.map cJ.c)/\(∀q∈aA b,q.1=13\/q.1=57)/\(∀g∈a,qC w g=U/\L g.cW<=4)/\L a<=N
theorem GL.mono{w:am}{z:ae}{b:AV}{N M:Nat}(h:GL w z b N)(j:N<=M):GL w z b M:=by obtain⟨a,c,d,e,f,g,i⟩:=h;exact⟨a,c,d,e,f,g,by omega⟩
theorem GL.put{w:am}(m:kB w){z:ae}{b:AV}{N d:Nat}{g:cJ}{f o:Bool}{K:be}(h:GL w z b N)(v:N<1000000)(y:L g.cW<=4)(l:∀r e,GL w e r (N+1)->K r e):cB 37 [.a w.c,b, .a<|a7h g f o] z d K:=by obtain⟨n,i,p,k,s,t,u⟩:=h;refine jH rfl (bpb i m (by omega) k<|by omega) ?_;rintro r e ⟨j,F,C⟩;refine⟨F.len,l r e ⟨_,F.len.trans i,(by grind [Fx.keep]),j,λq A=>?_,λx B=>?_,?_⟩⟩;grind;grind;grind
def bjZ(w:am)(hp:kB w):Ct 15 [.a w.c] (λr=>∃j:List cJ,r=sl cJ.c j/\(∀g∈j,qC w g=U/\L g.cW<=4)/\L j<=200000):=by have B:=hp;have aE:=B.ev;generalize hQ:(λ(r:AV)=>∃j:List cJ,r=sl cJ.c j/\(∀g∈j,qC w g=U/\L g.cW<=4)/\L j<=200000)=Q;refine aDq (bqf rfl λs2 hl Z h0=>?_);show bjp (.p (1,1) 0 0) s2 λr=>Q<|B1 r;have b2:∀{k a b c d:Int},bM aSa O7 [(0,iv k),(1,iv a),(2,iv b)]=V (.a<|a7h (cJ.mk k a b 0 0 []) U U):=λ{k a b c d}=>rfl;have b4:∀{k a b c d:Int},bM aSa O7 [(0,iv k),(1,iv a),(2,iv b),(3,iv c),(4,iv d)]=V (.a<|a7h (cJ.mk k a b c d []) U U):=λ{k a b c d}=>rfl;simp only[bjp,u0,u1,Z,rk,cT,aj,↓uL];refine jD (α:=AV) (λa i=>[a,iv i]) 1 (L w.ac) (λk a x=>GL w x a<|k*16) (s0:= .l [] U U) ⟨[],hl,Z, .inl ⟨rfl,rfl⟩,by simp[aA],by simp,by simp⟩ ?_;rintro t a x M G;obtain⟨_,_,K,_⟩:=id G;simp only[bmi,au,ck,aI,u0,u1,↓uL];refine⟨λh=>?_,λh=>?_⟩;have f:=aL h;refine jD (α:=AV) (λa i=>[a,iv i]) 1 (L w.ac) (λk a x=>GL w x a<|t*16+k) (s0:=a) G ?_;rintro E a y N G;obtain⟨_,_,D,_⟩:=id G;simp only[bmb,au,ck,aI,u0,u1,D,z7,rk,aj,b2 (c:=0) (d:=0),↓uL];refine⟨λm=>?_,λm=>?_⟩;have e:=aL m;refine GL.put B G (by omega) (by simp) λr z A=>?_;simp only[bl5,au,ck,u0,u1,↓uL];exact dR (mk:=λ(a:AV) i=>[a,iv i]) (p:=1) (s:=a) (s':=r) (λ_ _=>rfl) (Y:=y) e (by omega) (A.mono<|by omega);exact dR (mk:=λ(a:AV) i=>[a,iv i]) (p:=1) (s:=a) (s':=a) (λ_ _=>rfl) (Y:=x) f (by omega) (G.mono<|by omega);clear K;refine jD (α:=AV) (λa i=>[a,iv i]) 1 (L w.ac) (λk a x=>GL w x a<|256+k*4369) (s0:=a) (G.mono<|by omega) ?_;rintro kc a x O G;obtain⟨_,_,K,_⟩:=id G;have u:aX bH 1 x [(0,iv kc)]=V (.l ([(kc:Int)].map ci) U U,x):=iz;simp only[bmc,au,ck,aI,u0,u1,K,z7,rk,aj,u,↓uL];refine⟨λh=>?_,λh=>?_⟩;have f:=aL h;obtain⟨j,v,S,C,T,H,W⟩:=id G;simp only[bl7,↓uL];refine jH rfl (bpa B 3 (p:= .l ([(kc:Int)].map ci) U U) (path:=[(kc:Int)]) (a:= .l [] U U) (out:=[]) rfl (by simp) (by grind [dJ]) v (.inl ⟨_,_,rfl⟩) (by simp[aA]) (.inl ⟨rfl,rfl⟩) (by simp[aA]) (by intro c hc;simp at hc)<|by simp[cyB]) ?_;rintro r y ⟨o,g,ig,F,hC,al⟩;have X:Fx x y []:=F;have az:L o<=4369:=al;refine⟨F.len,?_⟩;have Gy:GL w y a (256+kc*4369):=⟨j,F.len.trans v,X.kq S,C.fx X (by simp),T,H,W⟩;refine jD (α:=AV) (λa i=>[a,iv i]) 1 (L o) (λk a z=>GL w z a (256+kc*4369+k)/\gm z 38 1 r (o.map cl)) (s0:=a) ⟨Gy,g⟩ ?_;rintro n a z ak ⟨G,gz⟩;obtain⟨j,v,S,C,T,H,W⟩:=id G;simp only[bmd,au,ck,aI,u0,u1,gz.ln,bJ,↓uL];refine⟨λm=>?_,λm=>?_⟩;have e:=aL m;have ah:=hC _<|dB e;have ag:L (gd o n)<=4:=(by grind [bjC,Ds]);refine O1.ix1 (.of gz) (i:=n) (c:=sl ci<|gd o n) (by rw[ve,eC e,bT e];rfl) λ_ _=>?_;have af:bM aSa O7 [(0,iv 2),(5,sl ci<|gd o n)]=V (.a (Ds<|gd o n).c):=rfl;have u:aX biV 1 z [(0, .a (Ds<|gd o n).c)]=V (.l [cJ.c<|Ds<|gd o n] U U,z):=ua rfl rfl rfl (by decide) (by simp[cJ.c,eN,sl]) (by decide);simp only[af,u,aY,bQ,↓uL];refine O5 C v bnm (by simp[cJ.c]) (by simp) (by simp;omega) λa' z2 g2 F2 P2=>?_;simp only[ab3,au,ck,u0,u1,↓uL];have no:∀{q:Id},q.1≠13->q.1≠57->q∉aA a:=(by grind);refine dR (mk:=λ(a:AV) i=>[a,iv i]) (p:=1) (s:=a) (s':=a') (λ_ _=>rfl) (Y:=z) e (by omega) ⟨⟨j++[Ds<|gd o n],F2.len.trans v,(by grind [Fx.keep]),by grind [bc.p],(by grind),λx hx=>?_,by simp;omega⟩,by grind [gm.fx]⟩;rcases dF.1 hx with h|h;exact H x h;obtain rfl:=cE.1 h;exact⟨ah,ag⟩;exact dR (mk:=λ(a:AV) i=>[a,iv i]) (p:=1) (s:=a) (s':=a) (λ_ _=>rfl) (Y:=x) f (by omega) (G.mono<|by omega);clear K u;refine jD (α:=AV) (λa i=>[a,iv i]) 1 (L w.ac) (λk a x=>GL w x a<|71000+k*16) (s0:=a) (G.mono<|by omega) ?_;rintro t a x M G;simp only[bme,au,ck,aI,u0,u1,↓uL];refine⟨λh=>?_,λh=>?_⟩;have f:=aL h;refine jD (α:=AV) (λa i=>[a,iv i]) 1 (L w.ac) (λk a x=>GL w x a<|71000+t*16+k) (s0:=a) G ?_;rintro E a y N G;obtain⟨_,_,D,_⟩:=id G;simp only[bmf,au,ck,aI,u0,u1,D,z7,rk,aj,b2 (c:=0) (d:=0),↓uL];refine⟨λm=>?_,λm=>?_⟩;have e:=aL m;refine GL.put B G (by omega) (by simp) λr z A=>?_;simp only[ab3,au,ck,u0,u1,↓uL];exact dR (mk:=λ(a:AV) i=>[a,iv i]) (p:=1) (s:=a) (s':=r) (λ_ _=>rfl) (Y:=y) e (by omega) (A.mono<|by omega);exact dR (mk:=λ(a:AV) i=>[a,iv i]) (p:=1) (s:=a) (s':=a) (λ_ _=>rfl) (Y:=x) f (by omega) (G.mono<|by omega);refine jD (α:=AV) (λa i=>[a,iv i]) 1 (L w.ac) (λk a x=>GL w x a<|72000+k*6000) (s0:=a) (G.mono<|by omega) ?_;rintro t a x M G;simp only[bmg,au,ck,aI,u0,u1,↓uL];refine⟨λh=>?_,λh=>?_⟩;have f:=aL h;rw[fX<|by omega];refine AI (α:=AV) (λa i=>[a,iv i]) 1 (L w.ac) (t+1) f (λk a x=>GL w x a<|72000+t*6000+k*350) (s0:=a) (G.mono<|by omega) ?_;rintro E a y N G;obtain⟨_,_,D,_⟩:=id G;simp only[bmh,au,ck,aI,u0,u1,↓uL];refine⟨λm=>?_,λm=>?_⟩;have e:=aL m;simp+contextual only[di,bma,au,ck,aI,u0,u1,D,ix,rk,ar,bm2,aj,bh,dJ f,dJ e,hH,bR,↓uL];refine⟨λh3=>?_,λh3=>?_⟩;simp only[arT,aI,au,ck,u0,u1,↓uL];exact dR (mk:=λ(a:AV) i=>[a,iv i]) (p:=1) (s:=a) (s':=a) (λ_ _=>rfl) (Y:=y) e (by omega) (G.mono<|by omega);refine jD (α:=AV) (λa i=>[a,iv i]) 1 (L w.ac) (λk a x=>GL w x a<|72000+t*6000+E*350+k*17) (s0:=a) (G.mono<|by omega) ?_;rintro kc a z O G;simp only[bmj,au,ck,aI,u0,u1,↓uL];refine⟨λh4=>?_,λh4=>?_⟩;have P:=aL h4;refine AI (α:=AV) (λa i=>[a,iv i]) 1 (L w.ac) kc O (λk a x=>GL w x a<|72000+t*6000+E*350+kc*17+k) (s0:=a) (G.mono<|by omega) ?_;rintro n a z2 ak G;obtain⟨_,_,z1,_⟩:=id G;simp only[bmk,au,ck,aI,u0,u1,z1,z7,rk,aj,b4,↓uL];refine⟨λh5=>?_,λh5=>?_⟩;have R:=aL h5;refine GL.put B G (by omega) (by simp) λr z A=>?_;simp only[ab3,au,ck,u0,u1,↓uL];exact dR (mk:=λ(a:AV) i=>[a,iv i]) (p:=1) (s:=a) (s':=r) (λ_ _=>rfl) (Y:=z2) R (by omega) (A.mono<|by omega);exact dR (mk:=λ(a:AV) i=>[a,iv i]) (p:=1) (s:=a) (s':=a) (λ_ _=>rfl) (Y:=z) P (by omega) (G.mono<|by omega);simp only[arT,aI,au,ck,u0,u1,↓uL];exact dR (mk:=λ(a:AV) i=>[a,iv i]) (p:=1) (s:=a) (s':=a) (λ_ _=>rfl) (Y:=y) e (by omega) (G.mono<|by omega);exact dR (mk:=λ(a:AV) i=>[a,iv i]) (p:=1) (s:=a) (s':=a) (λ_ _=>rfl) (Y:=x) f (by omega) (G.mono<|by omega);obtain⟨j,v,S,C,T,H,W⟩:=G;refine aOv (v':=sl cJ.c j) (aWs C) rfl ?_;grind
def bjb:FT:=om bjZ
def boE{w Lw K}:=qz bjb bjZ w Lw K
def bny:dO:=(15,bjb)::bnx
def bpN:eJ bny:=it (rj bjZ)<|bnv
def boN:=ai @boE<|@bm2

def aN6{α:Type}(f:α->α->Bool):List α->List α->Bool|[],[]=>U|a::l,b::m=>f a b&&aN6 f l m|_,_=>I
theorem aOC{α:Type}{f:α->α->Bool}(c:∀a b,f a b=U->a=b):∀{l m:List α},aN6 f l m=U->l=m
 |[],[],_=>rfl
 |a::l,b::m,h=>by
  simp only[aN6,bN] at h
  rw[c a b h.1,aOC c h.2]
 |[],_::_,h=>by cases h
 |_::_,[],h=>by cases h
def xqV:Nat->Value->Value->Bool
 |0,_,_=>I
 |n+1,x,y=>
  match x,y with
  | .int k a, .int c b=>Q (k=c)&&Q (a=b)
  | .bool a, .bool b=>a==b
  | .string a, .string b=>Q<|a.data.toList=b.data.toList
  | .agg a, .agg b=>aN6 (xqV n) a.toList b.toList
  | .pointer none, .pointer none=>U
  | .nilFunc, .nilFunc=>U
  | .nilIface, .nilIface=>U
  | .map none, .map none=>U
  |_,_=>I
theorem bhK:∀{n:Nat} {a b:Value},xqV n a b=U->a=b:=by intro n;induction n with|zero=>intro a b h;cases h|succ n c=>intro a b h;simp only[xqV] at h;(split at h<;>first|rfl|(cases h;done)|skip);simp_all;simp_all;rename_i a b;have h:=u4 h;obtain⟨⟨a⟩⟩:=a;simp_all;rename_i a b;have h:=aOC (λa b=>c) h;simp_all
def xqA:Nat->AV->AV->Bool
 |0,_,_=>I
 |n+1,x,y=>
  match x,y with
  | .s v, .s w=>xqV 4 v w
  | .u, .u=>U
  | .l r t o, .l D E o'=>(t==E&&o==o')&&aN6 (aN6<|xqA n) r D
  | .a c, .a e=>aN6 (xqA n) c e
  | .t c, .t e=>aN6 (xqA n) c e
  | .q c, .q e=>aN6 (xqA n) c e
  | .p b i j, .p h z A=>Q<|b=h/\i=z/\j=A
  | .m b i, .m h z=>Q<|b=h/\i=z
  | .g k b i j, .g B h z A=>Q<|k=B/\b=h/\i=z/\j=A
  | .f k c d, .f B e C=>Q (k=B)&&(aN6 (xqA n) c e&&aN6 (xqA n) d C)
  |_,_=>I
def aYn:∀{n:Nat} {a b:AV},xqA n a b=U->a=b:=by intro n;induction n with|zero=>intro a b h;cases h|succ n c=>intro a b h;simp only[xqA] at h;grind [bhK,aOC]
def eqB(x y:bY):Bool:=Q (x.elem=y.elem/\x.size=y.size/\x.own=y.own/\x.var=y.var)&&aN6 (aN6<|xqA 9) x.aa y.aa
theorem bbh{x y:bY}(h:eqB x y=U):x=y:=by unfold eqB at h;rw[bN] at h;obtain⟨c,d,e,f⟩:=u4 h.1;have g:=aOC (λa b=>aOC<|λa b=>aYn) h.2;cases x;simp_all
def kpS(a b:vG):Bool:=Nat.ble a.lB b.lB&&(aH<|a.lB+1).all λv=>match a.val v with|none=>U|some x=>match b.val v with|some y=>eqB x y|none=>I
def kpB:ae->ae->Bool:=eqLs' kpS
where eqLs' (f:vG->vG->Bool):ae->ae->Bool
 |[],[]=>U
 |a::l,b::m=>f a b&&eqLs' f l m
 |_,_=>I
def a6R:∀{Y Y':ae},kpB Y Y'=U->L Y'=L Y/\∀k,kpS (aZ Y k) (aZ Y' k)=U
 |[],[],_=>⟨rfl,λk=>by simp only[aZ,List.getD_nil];rfl⟩
 |a::l,b::m,h=>by
  have h:(kpS a b&&kpB.eqLs' kpS l m)=U:=h
  rw[bN] at h
  have c:=a6R (Y:=l) (Y':=m) h.2
  refine⟨by simp[c.1],λk=>?_⟩
  cases k with
  |zero=>exact h.1
  |succ k=>exact c.2 k
 |[],_::_,h=>by cases h
 |_::_,[],h=>by cases h
theorem bdG{Y Y':ae}(h:kpB Y Y'=U):Kp Y Y':=by obtain⟨a,c⟩:=a6R h;refine⟨a,λk=>?_,λb x d=>?_⟩;simp_all [kpS];have h:=c b.1;unfold kpS at h;grind [box,Nat.le_trans,Nat.le_of_ble_eq_true,bbh]
section
variable(P:Program)(G:nn)
abbrev aPc:=FuncId->List AV->ae->Nat->Option (AV×ae)
abbrev aQb:=Code->List AV->ae->Option (Exit×List AV×ae)
def aWf(a:aPc)(b:List AV)(Y:ae)(o:Oper):Option (AV×ae):=
 match dz P (du G b) Y o.op with
 |some d=>V (d,Y)
 |none=>
  match eA P (du G b) Y (o.dst.getD 0) o.op with
  |some p=>V p
  |none=>
   match o.op with
   | .call c=>
    match c.callee with
    | .value f=>
     match du G b f with
     | .f fn first cap=>a fn (first++c.args.toList.map (du G b)++cap) Y (o.dst.getD 0)
     |_=>J
    |_=>J
   |_=>J
def aS9(b:aPc)(ops:Array Oper)(a:List AV)(Y:ae)(o:Oper):Option (List AV×ae):=
 match rh ops a o with
 |some true=>match aWf P G b a Y o with|some p=>V (ge a o.dst p.1,p.2)|none=>J
 |some false=>V (ge a o.dst<|.t [],Y)
 |none=>J
def aRK(a:aPc)(ops:Array Oper):List Oper->List AV->ae->Option (List AV×ae)
 |[],b,Y=>V (b,Y)
 |o::l,b,Y=>match aS9 P G a ops b Y o with|some p=>aRK a ops l p.1 p.2|none=>J
def aS8(b:aPc)(ops:Array Oper):List Oper->List fY->List AV->ae->Option (List fY×List AV×ae)
 |[],a,c,Y=>V (a,c,Y)
 |o::l,a,c,Y=>match aS9 P G b ops c Y o with|some p=>aS8 b ops l (a++[C4 P G ops c Y o]) p.1 p.2|none=>J
def aQ0:Exit->Bool| .normal| .ret=>U|_=>I
def a6k(Y:ae)(d:Nat)(c:ae)(r:AV):Option (AV×ae):=
 match r with
 | .l [] true true=>V (.l [] U U,Y)
 | .m b n=>match box c b with|some x=>if qA x=U then V (.m (lA Y d) n,put Y d x) else J|none=>J
 | .a cs=>if(wn cs).Nodup then(match gU c d Y cs with|some p=>V (.a p.1,p.2)|none=>J) else J
 |_=>J
abbrev aSo:=List<|FuncId×List AV×AV
structure aPP where
 l:aSo
 cl:List (FuncId×TypeId×Nat)
def known(fn:FuncId)(ys:List AV):aSo->Option AV|[]=>J|p::T=>bif aOU fn p.1&&aN6 (xqA 9) ys p.2.1 then V p.2.2 else known fn ys T
def aRG(fn:FuncId):List (FuncId×TypeId×Nat)->Option (TypeId×Nat)|[]=>J|p::T=>bif aOU fn p.1 then V p.2 else aRG fn T
def aWe(Y:ae)(d:Nat)(p:TypeId×Nat)(ys:List AV):Option (AV×ae):=
 match ys with
 |[.l [] false false]=>V (.l [] U U,Y)
 |[.l (r::aa) false false]=>
  if((r::aa).all λr=>aOU (L r) p.2&&r.all gY)=U/\L (r::aa)<1000000 then V (.m (lA Y d)<|L (r::aa),put Y d ⟨p.1,p.2,U,I,r::aa⟩) else J
 |_=>J
def aRJ(T:aPP)(E:aQb):aPc:=λfn xs Y d=>
 match P.funcs[fn]? with
 |none=>J
 |some f=>
  match f.body with
  |none=>J
  |some c=>
   if(f.name== "runtime.NumGoroutine")=U then J
   else if G.nw fn=U then
    if(xs.map<|dG Y).all iX=U/\vg Y d=U then
     match aRG fn T.cl with
     |some p=>aWe Y d p<|xs.map<|dG Y
     |none=>
     match E c (start f<|xs.map<|dG Y) eK with
     |some (e,b,a)=>if aQ0 e=U then(match wG P f b a with|some r=>a6k Y d a r|none=>J) else J
     |none=>J
    else J
   else if G.imp fn=U then
    match E c (start f xs) Y with
    |some (e,b,a)=>
     if aQ0 e=U then
      match wG P f b a with
      |some r=>
       if L a=L Y then
        if G.rd fn=U then(if kpB Y (kills a<|eB r)=U/\kG (eR a r)=U then V (eR a r,Y) else J)
        else V (r,a)
       else J
      |none=>J
     else J
    |none=>J
   else if(xs.map<|dG Y).all iX=U/\L (xs.map<|dG Y)<=f.ntmps then
    match known fn (xs.map<|dG Y) T.l with
    |some r=>if kG r=U/\(nA Y xs=I\/uN r=U) then V (r,Y) else J
    |none=>
    match E c (start f<|xs.map<|dG Y) (ly f) with
    |some (e,b,a)=>
     if aQ0 e=U then
      match yB P f b a with
      |some r=>if kG r=U/\(nA Y xs=I\/uN r=U) then V (r,Y) else J
      |none=>J
     else J
    |none=>J
   else J
def aRL(T:aPP)(E:aQb):aQb:=λc a Y=>
 match c with
 | .skip=>V (.normal,a,Y)
 | .label _=>V (.normal,a,Y)
 | .region _ ops false=>match aRK P G (aRJ P G T E) ops ops.toList a Y with|some p=>V (.normal,p.1,p.2)|none=>J
 | .region _ ops true=>
  if rG G ops.toList=U then match aRK P G (aRJ P G T E) ops ops.toList a Y with|some p=>V (.normal,p.1,p.2)|none=>J
  else match aS8 P G (aRJ P G T E) ops ops.toList [] a Y with|some p=>if xG ops p.1=U then V (.normal,p.2.1,p.2.2) else J|none=>J
 | .seq x y=>match E x a Y with|some (.normal,τ',Y')=>E y τ' Y'|r=>r
 | .cond c x y=>match du G a c with| .s (.bool t)=>if t=U then E x a Y else E y a Y|_=>J
 | .block b c=>match E c a Y with|some (.exit j,τ',Y')=>if j=b then V (.normal,τ',Y') else V (.exit j,τ',Y')|r=>r
 | .loop c=>match E c a Y with|some (.normal,τ',Y')=>E (.loop c) τ' Y'|r=>r
 | .exit b=>V (.exit b,a,Y)
 | .ret=>V (.ret,a,Y)
 |_=>J
def ev(T:aPP):Nat->aQb|0=>λ_ _ _=>J|n+1=>aRL P G T<|ev T n
end
section
variable{P:Program}{G:nn}
def Xcl(P:Program)(G:nn)(fn:FuncId)(xs:List AV)(Y:ae)(d:Nat)(K:be):Prop:=
 if G.nw fn=U then tS P G fn xs Y d K else if G.imp fn=U then tR P G fn xs Y d K else Kh P G fn xs Y λr=>K r Y
def aRe(P:Program)(G:nn)(a:aPc):Prop:=∀fn xs Y d r Y',a fn xs Y d=V (r,Y')->∀K:be,K r Y'->Xcl P G fn xs Y d K
def aUx(P:Program)(G:nn)(E:aQb):Prop:=∀c a Y e τ' Y',E c a Y=V (e,τ',Y')->∀Q:QX,Q e τ' Y'->iq P G c Q a Y
theorem bbm{a:aPc}(g:aRe P G a){b:List AV}{Y Y':ae}{o:Oper}{r:AV}(h:aWf P G a b Y o=V (r,Y')){K:be}(d:K r Y'):j0 P G b Y o K:=by unfold aWf at h;unfold j0;split at h;simp_all;rename_i l;rw[l];simp only;split at h;simp_all;rename_i i;rw[i];simp only;split at h;rename_i c k;rw[k];simp only;split at h;rename_i f j;rw[j];simp only;split at h;rename_i fn first cap e;rw[e];exact g _ _ _ _ _ _ h K d;(cases h);(cases h);cases h
theorem a6l{a:aPc}(d:aRe P G a){ops:Array Oper}{b τ':List AV}{Y Y':ae}{o:Oper}(h:aS9 P G a ops b Y o=V (τ',Y')){K:aG}(c:K τ' Y'):kS P G ops o K b Y:=by grind [aS9,kS,bbm]
theorem a6m{a:aPc}(d:aRe P G a){ops:Array Oper}{K:aG}:∀{l:List Oper} {b τ':List AV} {Y Y':ae},aRK P G a ops l b Y=V (τ',Y')->K τ' Y'->rE P G ops l K b Y:=by intro l;induction l with|nil=>intro b τ' Y Y' h c;cases h;exact c|cons o l f=>intro b τ' Y Y' h c;simp only[aRK] at h;split at h;rename_i p e;exact a6l d (τ':=p.1) (Y':=p.2) e<|f h c;cases h
theorem bbk{b:aPc}(e:aRe P G b){ops:Array Oper}{K:List fY->aG}:∀{l:List Oper} {a ls:List fY} {c τ':List AV} {Y Y':ae},aS8 P G b ops l a c Y=V (ls,τ',Y')->K ls τ' Y'->qq P G ops l a K c Y:=by intro l;induction l with|nil=>intro a ls c τ' Y Y' h d;cases h;exact d|cons o l g=>intro a ls c τ' Y Y' h d;simp only[aS8] at h;split at h;rename_i p f;exact a6l e (τ':=p.1) (Y':=p.2) f<|g h d;cases h
def aWD{e:Exit}(h:aQ0 e=U):e= .normal\/e= .ret:=by cases e<;>first|exact .inl rfl|exact .inr rfl|cases h
theorem a6j(o:tQ P){E:aQb}(j:aUx P G E){fn:FuncId}{f:Func}{c:Code}(n:P.funcs[fn]?=V f)(l:f.body=V c)(p:¬(f.name== "runtime.NumGoroutine")=U){xs g:List AV}{Y d:ae}{e:Exit}{r:AV}(h:E c (start f xs) Y=V (e,g,d))(m:aQ0 e=U)(i:wG P f g d=V r):cZ P G fn xs Y r d:=by obtain⟨q,Y',⟨rfl,rfl⟩,k⟩:=aBf (R:=λa b=>a=r/\b=d) o n l (by grind) (j _ _ _ _ _ _ h (QB P f λa b=>a=r/\b=d)<|by rcases aWD m with rfl|rfl<;>exact⟨r,i,rfl,rfl⟩);exact k
def aYw(P:Program)(G:nn)(T:aSo):Prop:=∀p∈T,zm P G p.1 p.2.1 (·=p.2.2)
def a78(P:Program)(G:nn)(T:List<|FuncId×TypeId×Nat):Prop:=∀p∈T,∀aa:List (List AV),(∀r∈aa,L r=p.2.2)->L aa<1000000->∃r a,cZ P G p.1 [.l aa I I] eK r a/\(aa=[]->r= .l [] U U)/\(aa≠[]->∃b,r= .m b (L aa)/\box a b=V ⟨p.2.1,p.2.2,U,I,aa⟩)
structure aSn(P:Program)(G:nn)(T:aPP):Prop where
 fp:∀fn,G.fp fn=J
 l:aYw P G T.l
 cl:a78 P G T.cl
def a6Q{fn:FuncId}{ys:List AV}{r:AV}:∀{T:aSo},aYw P G T->known fn ys T=V r->zm P G fn ys (·=r)
 |[],_,h=>by cases h
 |p::T,d,h=>by
  simp only[known] at h
  cases c:(aOU fn p.1&&aN6 (xqA 9) ys p.2.1) with
  |true=>
   rw[c] at h
   rw[bN] at c
   have e:=Nat.eq_of_beq_eq_true c.1
   have f:=aOC (λa b=>aYn) c.2
   obtain rfl:=Option.some.inj h
   subst e f
   exact d p (by simp)
  |false=>
   rw[c] at h
   exact a6Q (λq g=>d q<|by simp[g]) h
theorem a6a{fn:FuncId}{p:TypeId×Nat}:∀{T:List (FuncId×TypeId×Nat)},aRG fn T=V p->(fn,p)∈T
 |[],h=>by cases h
 |q::T,h=>by
  simp only[aRG] at h
  cases a:aOU fn q.1 with
  |true=>
   grind [Nat.eq_of_beq_eq_true]
  |false=>rw[a] at h;exact List.mem_cons_of_mem _<|a6a h
theorem bbj{T:aPP}(l:aSn P G T){fn:FuncId}{p:TypeId×Nat}{xs:List AV}{Y Y':ae}{d:Nat}{r:AV}(o:aRG fn T.cl=V p)(i:(xs.map<|dG Y).all iX=U/\vg Y d=U)(h:aWe Y d p (xs.map<|dG Y)=V (r,Y')){K:be}(g:K r Y'):zI P G fn xs Y d K:=by have f:=l.cl _<|a6a o;refine⟨i.1,i.2,?_⟩;generalize xs.map (dG Y)=ys at*;unfold aWe at h;split at h;(cases h);obtain⟨r,a,c,j,_⟩:=f [] (by simp) (by decide);exact⟨r,a,c, .inl ⟨j rfl,g⟩⟩;rename_i q aa;split at h;rename_i e;cases h;obtain⟨e,n⟩:=e;rw[List.all_eq_true] at e;obtain⟨r,a,c,_,k⟩:=f (q::aa) (by simp_all) n;obtain⟨b,rfl,m⟩:=k (by simp);refine⟨_,a,c, .inr ⟨b,_,_,rfl,m,?_,g⟩⟩;grind [qA];(cases h);cases h
theorem bbi(z:tQ P){T:aPP}(t:aSn P G T){E:aQb}(s:aUx P G E):aRe P G (aRJ P G T E):=by intro fn xs Y d r Y' h K k;unfold aRJ at h;unfold Xcl;split at h;(cases h);rename_i f v;split at h;(cases h);rename_i c u;split at h;(cases h);rename_i C;split at h;rename_i A;rw[d7 A];split at h;rename_i a;split at h;rename_i p y;exact .inl<|bbj t y a h k;split at h;rename_i e F q o;split at h;rename_i m;split at h;rename_i B g;have j:=a6j z s v u C o m g;unfold a6k at h;split at h;(cases h);exact .inl ⟨a.1,a.2,_,_,j, .inl ⟨rfl,k⟩⟩;rename_i b n;split at h;rename_i x O;split at h;rename_i M;cases h;exact .inl ⟨a.1,a.2,_,_,j,by grind⟩;(cases h);(cases h);rename_i cs;split at h;rename_i D;split at h;rename_i p y;cases h;exact .inr<|.inr ⟨a.1,a.2,cs,q,p.1,p.2,j,D,y,k⟩;(cases h);(cases h);(cases h);(cases h);(cases h);(cases h);(cases h);rename_i A;rw[bA A];split at h;rename_i w;rw[d7 w];split at h;rename_i e F q o;split at h;rename_i m;split at h;rename_i B g;have j:=a6j z s v u C o m g;split at h;rename_i H;split at h;grind [tR,aPf,bdG];rename_i N;cases h;unfold tR aPf;rw[t.fp fn];exact⟨_,_,j,H,by simp_all⟩;(cases h);(cases h);(cases h);(cases h);rename_i w;rw[bA w];split at h;rename_i a;split at h;rename_i B g;split at h;rename_i i;cases h;exact⟨_,a6Q t.l g,a.1,i.1,i.2,k⟩;(cases h);split at h;rename_i e F q o;split at h;rename_i m;split at h;rename_i B g;split at h;rename_i i;cases h;refine⟨_,aBh z v u (by grind) a.2<|s _ _ _ _ _ _ o (QR P f (·=_)) ?_,a.1,i.1,i.2,k⟩;rcases aWD m with rfl|rfl<;>exact⟨_,g,i.1,rfl⟩;(cases h);(cases h);(cases h);(cases h);cases h
theorem bdK{p:Nat->Prop}:∀{n:Nat},p n->∃m,p m/\∀k,p k->m<=k:=by intro n;induction n using Nat.strongRecOn with|_ n a=>grind
theorem bbl(F:tQ P){T:aPP}(D:aSn P G T):∀n,aUx P G (ev P G T n):=by intro n;induction n using Nat.strongRecOn with|_ n A=>cases n with|zero=>intro c b Y e τ' Y' h;cases h|succ n=>have g:=A n<|Nat.lt_succ_self n;have C:=bbi (G:=G) F D g;intro c b Y e τ' Y' h Q f;have M:=h;change aRL P G T (ev P G T n) c b Y=_ at h;unfold aRL at h;split at h;(cases h;exact f);(cases h;exact f);split at h;rename_i p E;cases h;exact a6m C E f;(cases h);show sF P G _ _ _ _;grind [sF,a6m,bbk];rename_i x y;show iq P G x _ _ _;split at h;rename_i l u d;exact g _ _ _ _ _ _ d _<|g _ _ _ _ _ _ h _ f;rename_i q;refine g _ _ _ _ _ _ h _ ?_;(cases e<;>first|exact f|simp_all);rename_i cc x y;show(match du G b cc with| .s (.bool t)=>if t=U then iq P G x Q b Y else iq P G y Q b Y|_=>False);split at h;rename_i t N;split at h;rename_i d;rw[d7 d];exact g _ _ _ _ _ _ h _ f;rename_i d;rw[bA d];exact g _ _ _ _ _ _ h _ f;(cases h);rename_i H c;show iq P G c _ _ _;split at h;rename_i j l u d;refine g _ _ _ _ _ _ d _ ?_;show(if j=H then Q .normal _ _ else Q (.exit j) _ _);grind;rename_i q;refine g _ _ _ _ _ _ h _ ?_;(cases e<;>first|exact f|simp_all);rename_i c;clear h;let r:List AV->ae->Nat->Prop:=λb Y m=>ev P G T m (.loop c) b Y=V (e,τ',Y');let a:aG:=λb Y=>∃m,m<=n+1/\r b Y m;have i:∀b Y,∃m,a b Y->r b Y m/\(∀k,r b Y k->m<=k):=(by intro b Y;by_cases hI:a b Y;obtain⟨m,_,z⟩:=hI;obtain⟨k,d,v⟩:=bdK z;grind;simp_all);refine⟨a,λb Y=>Classical.choose<|i b Y,(by grind),?_⟩;intro b Y hI;obtain⟨d,v⟩:=Classical.choose_spec (i b Y) hI;generalize z:Classical.choose (i b Y)=m at d v;have K:m<=n+1:=(by grind);(cases m with|zero=>(cases d)|succ k=>have o:=A k (by omega);change aRL P G T (ev P G T k) (.loop c) b Y=_ at d;unfold aRL at d;simp only at d;split at d;rename_i l u B;refine o _ _ _ _ _ _ B _ ?_;have w:a l u:=⟨k,by omega,d⟩;refine⟨w,?_⟩;grind;rename_i q;refine o _ _ _ _ _ _ d _ ?_;cases e<;>first|exact f|simp_all);(cases h;exact f);(cases h;exact f);cases h
end
end Go.Ab
