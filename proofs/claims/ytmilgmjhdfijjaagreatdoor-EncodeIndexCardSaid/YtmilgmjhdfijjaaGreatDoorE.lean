/- Part of the proof of EncodeIndex, made short by a program. -/
import Derived.Test.YtmilgmjhdfijjaaGreatDoorD
set_option linter.all false
set_option maxRecDepth 100000
open And renaming intro->ai
open Bool renaming false->I,false_eq_true->eE,or_eq_false_iff->cP,or_true->wY,true->U,true_eq_false->sr
open Decidable renaming decide->Q
open Go.IntKind renaming i64->dq
open Go.Proofs.Tryz renaming prog->aS
open Int renaming toNat_natCast->bh
open List renaming append_nil->cL,drop_succ_cons->nM,drop_zero->ip,flatMap_cons->Cz,flatMap_nil->RN,foldl_nil->aRl,getElem?_append_left->xe,getElem?_cons_zero->qh,getElem?_eq_getElem->eC,getElem?_map->ve,getElem_of_mem->ou,length->L,length_append->P8,length_cons->bZ,length_map->bJ,length_nil->vw,length_pos_iff->aqS,length_replicate->oA,map_append->dg,map_cons->ji,map_nil->mU,map_set->vB,mem_append->dF,mem_append_right->zt,mem_cons->eW,mem_cons_of_mem->zu,mem_map->dN,mem_singleton->cE,nil_append->dW,nodup_append->xl,not_mem_nil->ql,range->aH,range_succ->qn,replicate->er,set_eq_take_append_cons_drop->GP,take_length->gV,take_succ_eq_append_getElem->iJ
open Nat renaming eq_zero_or_pos->oD,le_antisymm->bP,mul_le_mul_right->qo,succ_mul->tN,zero_add->aj
open Option renaming bind_some->qd,map_some->df,none->J,some->V
open Prod renaming mk.injEq->iK
namespace Go.Ab
open Go Go.RowKit Go.Proofs
def aWR(p:xr)(u:shP p):Ct 171 [.a p.c] (λr=>isB r):=by obtain⟨⟨A,B,C⟩,D,o⟩:=u;refine bgu rfl λw t e z=>?_;simp only[a0f];refine C7 (L p.A7) (λ_=>True) trivial λk q _=>?_;simp+contextual only[a0k,aI,au,u0,u1,e,rk,gw,aj,y9,bh,ar,Fa,aQT,rr,aNP,oe,↓uL];refine⟨λh=>⟨bA h,λb _=>gS (aL h) (by omega) trivial⟩,λ_=>?_⟩;refine yV (L p.ay) (λ_ _ Y=>Fx w Y []) (Fx.refl _ _) ?_;rintro k _ Y q F;have n:=F.kq e;have f:L Y=4096:=F.len.trans t;simp only[a0i,aI,au,u0,u1,n,rk,gw,aj,y9,bh,aNP,oe,o8,↓uL];intro h;have d:=aL h;refine⟨dJ d,anu f λv y l x m=>?_⟩;have g:=o _ (dB d);refine C7 (L (gd p.ay k).locs) (λ_=>True) trivial λj E _=>?_;simp+contextual only[a0j,aI,au,u0,u1,m,rk,gw,aj,ix,bh,ar,aQT,rr,rg,aNP,oe,↓uL];refine⟨λh=>⟨bA h,λ_=>gS (aL h) (by have:=g.1;omega) trivial⟩,λ_=>⟨λ_=>⟨4,g.2⟩,λb _=>dR (mk:=λ(_:Unit) i=>[iv i]) (s:=()) (s':=()) (λ_ _=>rfl) d (by omega) (F.trans l)⟩⟩
def aT0:FT:=om aWR
def bbz{p Lw K}:=qz aT0 aWR p Lw K (j:=by simp+contextual only[ij,Nb])
def aWY(p:xr)(t:Int)(e:fc)(f:PrB p/\∃n,C6 n e):Ct 234 [.a p.c,iv t, .a e.c] (λr=>isI r):=by refine bgC rfl aN9 λi h b d g=>?_;simp+contextual only[a0r,u0,u1,b,d,gw,ar,Fa,aQT,f,rr,aPG,oe,vg,↓uL]
def aP8:FT:=vn aWY
def bbG{p t e Lw K}:=zZ aP8 aWY p t e Lw K (j:=by simp+contextual only[ij,Nb])
def aPU(c:qt):Prop:=mQ c.aQ=U/\L c.ay=L c.aQ.ay/\∀t∈c.ay,aYh t
def aOc(c:qt):Prop:=L c.ay<1000/\∀t∈c.ay,L t.No<1000000
def aXh(c:qt)(n:aOc c):Ct 70 [.a c.c] (λr=>∃b,r=bv b/\(b=U->aPU c)):=by obtain⟨q,l⟩:=n;refine bgX rfl λv u e p=>?_;simp+contextual only[a1N,u0,u1,e,gw,aj,ar,aQT,rr,aPA,eE,vp,oe,↓uL];intro d;refine C7 (L c.ay) (λk=>∀j,j<k->aYh (gd c.ay j)) (by simp) λk s g=>?_;simp+contextual only[a1O,aI,au,u0,u1,e,rk,gw,aj,y9,bh,ar,Fa,aQT,rr,aTv,aPA,eE,vp,oe,↓uL];refine⟨λh=>⟨bA h,l _ (dB (aL h)),λb m f=>gS (aL h) (by omega) (jf g (m (by simpa using f)))⟩,λh _=>⟨?_,?_,?_⟩⟩;simp at d;exact d.1;simp at d;omega;intro t o;obtain⟨j,i,rfl⟩:=ou o;rw[<-bT i];exact g j (Nat.lt_of_lt_of_le i (bw h))
def aRk:FT:=om aXh
def bbZ{c Lw K}:=qz aRk aXh c Lw K (j:=by simp+contextual only[ij,Nb])
def aYb:dO:=(171,aT0)::(234,aP8)::(70,aRk)::a7z
def aTC:eJ aYb:=it (rj aWR) (it (By aWY (λ_ _ _=>by simp only[List.all_cons,List.all_nil,aOW,Bool.and_self])) (it (rj aXh) (aTB)))
def aQU:=ai @bbz<|ai @bbG<|ai @bbZ<|@aQT
section
attribute[local irreducible] aX
def a9e:=bi 11 [(3,([9],[0,1,2,3]))]
def a09 c u v h R g(t:aG)(m1:bu) w a:=ab 0 a c λi=>bf i u λd=>bn d 0 a c λj=>ic d v λk=>aC d (bf j k) λl=>aD d (bv U) l λb=>fm b h λm=>az b (bf m (sv [])) λn=>fm b n λe=>bn e 2 a c λo=>ic e h λp=>aC e (bf o p) λq=>az b (aD e (bv U) q) λr=>aD b r (bv I) λs=>ah s (fe R a [(bv U)]) (aV (gt g 0) (iv 1) λf=>t [f] a/\m1 [f] a<m1 g w)
def a1a d j k l R i m1 c a:=∀_:Rg,rV (cO a d) λt3=>ab 3 a t3 λm=>aJ a m λn=>aU (gt c 0) n λo=>ah o (rV (cO a d) λp=>ab 3 a p λf=>ao 11 a f (gt c 0) λg=>aw 11 a g λh=>eV (bs 219 A4 a 10) λb e=>sV (aK 11 e b h) (a09 b j k l R c i m1 a)) (fe R a [(bv I)])
def aUX a b c d s0 R:=lV [(iv 0)] s0 (a1a a b c d R)
def bfO{a b c d:AV}{s0:ae}{R:be}(h:aUX a b c d s0 R):EB 231 [a,b,c,d] s0 R:=zB a9e aTC Tryz.func231 h
def bgM{a:AV}{b:AV}{c:AV}{d:AV}{s0:ae}{R:be}(e:L s0=4096)(h:aUX a b c d s0 R):EB 231 [a,b,c,d] s0 R:=by refine bfO ?_;exact h
def a9f:=bi 56 [(12,([67],[0,3,5,6,7,8,9,30])),(17,([91],[0,3,5,6,7,8,9,30])),(24,([119],[0,3,5,6,7,8,9,30])),(51,([14],[0,3,5,6]))]
def aUZ c n o R e b:=ic c e λf=>aC c (cf f) λg=>aD c (bv U) g λa=>bn a 0 b n λh=>aC a (bf h (iv 9)) λi=>ic a i λd=>fm d o λj=>aC a (aD d j (bv I)) λk=>aD a (bv U) k λl=>fV aOS b [l] λm=>fe R b [m]
def a8o k b c l e f d g i j h R a:=dH [km,km,(bo k),(bo b),(bo c),(bo l),(bo e),(lb I [f] []),(lb I [d,g] [204]),(bo k),(bo i),(lb I [j,h] [])] [(0,7),(1,7),(2,7),(3,7),(4,7),(0,8)] (fe R a [(iv 0)])
def a1b k e f l h i g j R b a:=rV (cO a k) λc=>aB 4 a c λd=>sV (aK 1 a d b) (a8o k e f l h i g j c d b R)
def a8p r d e c g h f i k l j s t b R a:=dH [km,km,(bo r),(bo d),(bo e),(bo c),(bo g),(lb I [h] []),(lb I [f,i] [262]),(bo r),(bo k),(lb I [l,j] [])] [(0,7),(1,7),(2,7),(3,7),(4,7),(0,8)] (aw 2 a s λm=>aB 5 a c λn=>aw 4 a n λo=>fV aP8 a [m,t,o] λp=>fV aOi a [(gt b 0),p] λq=>fe R a [q])
def aU0 l f g n i j h k m o e R b a:=rV (cO a l) λc=>aB 5 a c λd=>sV (aK 1 a d b) (a8p l f g n i j h k c d b m o e R)
def a1g a k i l m R h:=∀_:Rg,rV (cO a k) λb=>aB 5 a b λc=>aM a c λd=>aB 2 a i λe=>aM a e λf=>eV (aX C9 1 a [(0,f)]) λg j=>eV (j5 9 zz9 16 j 262 d g) (aU0 k b c i e f d g l m h R)
def a1k d m b l(c:cG):=bf d (iv 0) λa=>fm a m λe=>az a (rV (cO b e)) λf=>aT a 5 b f λg=>aT a 2 b l λh=>az a (fV FB b [g,h]) λi=>az a (aO .geq i (iv 0)) λj=>aD a j (bv I) λk=>ah k (c [(iv 8)]) (c [d])
def a1f a c b g R i e k u w v:=∀_:Rg,ah (gt v 0) (aw 2 a c λy=>ab 2 a b λz=>fV aOd a [y,g,z,(iv 5),(iv 5)] λj=>aO .neq j (iv 0) λA=>ah A (fe R a [j]) (ab 0 a c λB=>ab 0 a c λC=>ab 2 a b λD=>fV aPO a [C,D] λE=>ao 6 a B E λF=>ab 5 a F λG=>cB 231 [i,(iv 4),(iv 4),G] a 142 (aUZ e b k R))) (bf u (iv 12) λH=>ah H (aw 2 a c λK=>ab 2 a b λM=>fV aOd a [K,g,M,(iv 7),(iv 7)] λl=>aO .neq l (iv 0) λN=>ah N (fe R a [l]) (ab 1 a c λO=>ab 2 a b λP=>fV aP9 a [O,P] λm=>ic e k λS=>aD e (bv U) S λn=>ic n w λT=>aD n (bv U) T λf=>ic f m λW=>ic f g λX=>aC f (bf W X) λZ=>aD f (bv U) Z λh=>ic h m λaa=>aC h (bf aa (iv 0)) λac=>aD h (bv U) ac λad=>ah ad (fe R a [(iv 7)]) (rV (cO a i) λae=>ab 4 a ae λaf=>ab 2 a b λag=>fV FB a [af,ag] λak=>aO .geq ak (iv 0) λal=>ah al (fe R a [(iv 8)]) (rV (cO a i) λo=>aB 4 a o λp=>aM a p λq=>aB 2 a b λr=>aM a r λs=>eV (aX C9 1 a [(0,s)]) λt x=>eV (j5 9 zz9 16 x 204 q t) (a1b i o p b r s q t R))))) (bf u (iv 13) λam=>ah am (aw 2 a c λan=>ab 2 a b λap=>fV aOd a [an,g,ap,(iv 7),(iv 7)] λaq=>ic e k λar=>aD e (bv U) ar λd=>bn d 1 a c λau=>bn d 2 a b λav=>aC d (fV aP9 a [au,av]) λax=>ic d g λay=>aC d (bf ax ay) λaz=>aD d (bv U) az λaA=>fV aOS a [aA] λaE=>fV aOi a [aq,aE] λaF=>fe R a [aF]) (bf u (iv 14) λaG=>ah aG (aw 2 a c λaI=>ab 2 a b λaJ=>fV aOd a [aI,g,aJ,(iv 6),(iv 6)] λaK=>ic e w λaL=>aD e (bv U) aL λaN=>fV aOS a [aN] λaP=>fV aOi a [aK,aP] λaQ=>jR 51 (a1g a i b c g R) (a1k aQ i a b)) (aw 2 a c λaR=>ab 2 a b λaT=>fV aOd a [aR,g,aT,(iv 8),(iv 8)] λaU=>aw 2 a c λaV=>ab 3 a b λaW=>fV aOd a [aV,g,aW,(iv 6),(iv 6)] λaY=>fV aOS a [e] λaZ=>fV aOi a [aY,aZ] λa1=>fV aOi a [aU,a1] λa2=>fe R a [a2]))))
def a1j b(a:cG):=bf b (iv 9) λc=>ah c (a [c]) (bf b (iv 10) λd=>ah d (a [d]) (bf b (iv 11) λe=>a [e]))
def a1e a f e r b l R c g o k:=∀_:Rg,ah (gt k 0) (aw 2 a f λp=>ab 2 a e λq=>fV aOd a [p,r,q,(iv 4),(iv 4)] λs=>ic b l λt=>bn b 2 a e λu=>gE (gP I b) (λm=>cB 231 [t,(iv 5),(iv 6),u] a 104 λv n=>m v n) a λw d=>aD b (bv U) w λx=>fV aOS d [x] λy=>fV aOi d [s,y] λz=>fe R d [z]) (bf c (iv 7) λA=>ah A (fV aOS a [b] λB=>fe R a [B]) (bf c (iv 8) λC=>ah C (ic b g λh=>aD b (bv U) h λi=>fV aOS a [i] λj=>fe R a [j]) (jR 24 (a1f a f e r R l b g c o) (a1j c))))
def a1i c(b:cG):=bf c (iv 5) λa=>ah a (b [a]) (bf c (iv 6) λd=>b [d])
def a1d a d c g R f b i l m h:=∀_:Rg,ah (gt h 0) (aw 2 a d λn=>aB 5 a c λo=>aw 4 a o λp=>fV aP8 a [n,g,p] λq=>fe R a [q]) (bf f (iv 4) λr=>ah r (aw 2 a d λs=>ab 2 a c λt=>fV aOd a [s,g,t,(iv 3),(iv 3)] λu=>ic b i λv=>bn b 2 a c λw=>gE (gP I b) (λj=>cB 231 [v,(iv 4),(iv 4),w] a 87 λx k=>j x k) a λy e=>aD b (bv U) y λz=>fV aOS e [z] λA=>fV aOi e [u,A] λB=>fe R e [B]) (jR 17 (a1e a d c g b i R f l m) (a1i f)))
def a1h c(b:cG):=bf c (iv 2) λa=>ah a (b [a]) (bf c (iv 3) λd=>b [d])
def a1c b c d R f K g h a:=ab 0 a b λe=>bf e (iv 1) λi=>ah i (ab 4 a b λj=>aJ a j λk=>bf k (iv 0) λl=>ah l (aw 2 a c λm=>ab 2 a b λn=>fV aOd a [m,d,n,(iv 8),(iv 1)] λo=>aw 2 a c λp=>aB 5 a b λq=>aw 4 a q λr=>fV aP8 a [p,d,r] λs=>fV aOi a [o,s] λt=>fe R a [t]) (aw 2 a c λu=>ab 2 a b λv=>fV aOd a [u,d,v,(iv 2),(iv 2)] λw=>aw 2 a c λx=>ab 4 a b λy=>ao 4 a y (iv 0) λz=>aw 4 a z λA=>fV aP8 a [x,d,A] λB=>aw 2 a c λC=>aB 5 a b λD=>aw 4 a D λE=>fV aP8 a [C,d,E] λF=>fV aOi a [B,F] λG=>fV aOi a [w,G] λH=>fe R a [H])) (jR 12 (a1d a c b d R e f K g h) (a1h e))
def a8q a d b g R e f c:=cB 231 [a,(iv 3),(iv 3),(sv [])] c 28 (a1c d b g R e a f)
def a8r a d b f R e c:=cB 231 [a,(iv 8),(iv 8),(sv [])] c 26 (a8q a d b f R e)
def a8s a t3 t4 f g b e d h R c:=dH [km,(bo a),(bo t3),(bo t4),km,(bo a),(bo f),(bo g),(lb I [] [5]),(lb I [b,e] []),km] [(0,8),(1,8),(2,8),(3,8),(4,8),(5,8),(6,8),(7,8),(4,9),(5,9),(6,9),(7,9)] (cB 231 [a,(iv 7),(iv 7),(sv [])] c 24 (a8r a d b h R))
def aUY c e a R:=rV (cO a c) λt3=>aB 0 a t3 λt4=>aw 2 a t4 λf=>rV (cO a c) λg=>aB 2 a g λh=>aM a h λi=>eV (bs 143 aP6 a 5) λb d=>sV (aK 2 d b f) (a8s c t3 t4 g h b f e i R)
def bfP{a b:AV}{s0:ae}{R:be}(h:eV (qm 219 11 s0 3 b) λc d=>aUY a c d R):EB 206 [a,b] s0 R:=zB a9f aTC Tryz.func206 h
def bgN{e:AV}{d:List AV}{s0:ae}{R:be}(i:L s0=4096)(l1:L d=11)(h:∀(b:ae) (c:Nat),Kp s0 b->(∀k,k≠3->aZ b k=aZ s0 k)->(∀x,box s0 (3,c)≠V x)->box b (3,c)=V ⟨219,11,U,U,[d]⟩->aUY e (.p (3,c) 0 0) b R):EB 206 [e, .a d] s0 R:=by refine bfP ?_;refine iN rfl l1 (by decide) (by decide) i λb c l g0 m f=>?_;exact h b c l (λk g=>g0 k g) (λx j=>m x ((Kp.refl _).keep _ _ j)) f
def a5F:=bi 22 [(3,([6],[0,1])),(9,([8],[0,1,6,7])),(16,([8,9],[0,1,6]))]
def a0Z a R d(f:aG)(m1:bu) g b:=aO .neq (gt a 0) (iv 0) λe=>ah e (fe R b [(gt a 0),(gt a 1)]) (aV (gt d 0) (iv 1) λc=>f [c] b/\m1 [c] b<m1 d g)
def aUV b R m n m1 o c a:=∀_:Rg,rV (cO a b) λd=>ab 3 a d λe=>rV (cO a b) λf=>ab 3 a f λg=>aJ a g λh=>aO .sub h (iv 1) λi=>rV (fo 11 a e J (V i) J) λj=>rV (cO a b) λk=>aB 3 a k λl=>sV (aK 1 a l j) (a0Z c R m n m1 o)
def a00(b:aG) a c:=rV (eO 0 a) λd=>rV (eO 1 a) λe=>b [d,e] c
def a07 c a d h e(b:aG):=bf c (iv 0) λf=>ah f (ab 10 a d λg=>cB 175 [h,g] a 59 (a00 b)) (b [c,e] a)
def a01 b R g h m1 i d a c:=rV (eO 0 a) λe=>rV (eO 1 a) λf=>jV 16 (aUV b R g h m1 i) (a07 e c d b f)
def a8n c i j b e n f m g o k p h q R s t m1 u d:=dH [km,(bo c),(bo i),(bo j),(bo b),(bo e),(lb I [(.a [(iv 0),(iv 0),(sv []),(sv []),(.l [] U U),(iv 0),(iv 0),(sv []),(.l [] U U),(.l [] U U),(.l [] U U)])] []),(lb I [e,n] [42]),(lb U [f,m] []),(lbV g o k),(bo c),(bo p),(lbV h q f)] [(0,6),(1,6),(2,6),(3,6),(4,6),(5,6),(9,10),(9,11),(8,12),(9,12)] (ab 9 d b λr=>cB 175 [c,r] d 50 (a01 c R s t m1 u b))
def a02 e b h i g j m l f n k R o p m1 q a:=rV (cO a e) λc=>aB 3 a c λd=>sV (aK 1 a d b) (a8n e h i g j m b l f n k c a d R o p m1 q)
def a03 c b m g h f i j R k l m1 n d a:=ao 11 a d c λe=>sV (aK 11 a e b) (a02 m d g h f i j c a e b R k l m1 n)
def a06 b c R i p q m1 r e:=∀_:Rg,aO .neq (gt e 0) (iv 0) λk=>ah k (ab 1 b c λm=>fe R b [(gt e 0),m]) (rV (cO b i) λf=>aB 3 b f λg=>aM b g λd=>aw 11 b c λn=>aJ b d λo=>eV (aX aNA 1 b [(0,(.a [(iv 0),(iv 0),(sv []),(sv []),(.l [] U U),(iv 0),(iv 0),(sv []),(.l [] U U),(.l [] U U),(.l [] U U)]))]) λh j=>eV (j5 219 A4 176 j 42 d h) (a03 o n i f g c d h R p q m1 r))
def a08 a i c(b:cG):=rV (cO a i) λd=>ab 3 a d λe=>aJ a e λf=>aV f (iv 1) λg=>aO .gtr g (iv 6) λh=>ah h (b [(iv 2)]) (b [c])
def a04 c R b e f m1 g d a:=jR 9 (a06 a c R b e f m1 g) (a08 a b d)
def a05 a b R e f m1 g c:=aw 11 c a λd=>cB 206 [b,d] c 22 (a04 a R b e f m1 g)
def aUW d f R e m1 b a:=∀_:Rg,aJ a d λt3=>aU (gt b 0) t3 λt4=>ah t4 (ao 11 a d (gt b 0) λh=>aw 11 a h λi=>eV (bs 219 A4 a 7) λc g=>sV (aK 11 g c i) (a05 c f R b e m1 a)) (fe R a [(iv 0),(iv 0)])
def aRq a b s0 R:=lV [(iv 0)] s0 (aUW b a R)
def bfN{a b:AV}{s0:ae}{R:be}(h:aRq a b s0 R):EB 175 [a,b] s0 R:=aTc (aBe ready (aQ9 aTC) Tryz.func175 (an:=a5F) (by kernel_rfl) (Eq.mpr (show ZB aS GGV aYb a5F Tryz.f175 [a,b] s0 R=(aRq a b s0 R) by kernel_rfl) h))
def a7S{a:AV}{b:AV}{s0:ae}{R:be}(c:L s0=4096)(h:aRq a b s0 R):EB 175 [a,b] s0 R:=by refine bfN ?_;exact h
end
def aV6{fn:Nat}{xs:List AV}{Y:ae}{d:Nat}{K:be}{P:Value->Prop}(i:uQ.elem fn=U)(h:∃r b,((∃v,r= .s v/\P v)/\Fx Y b [])/\cZ aS GG fn xs Y r b)(g:∀v,P v->K (.s v) Y):cB fn xs Y d K:=by obtain⟨r,b,⟨⟨v,rfl,j⟩,c⟩,f⟩:=h;exact aS2 i ⟨_,b,⟨rfl,c⟩,f⟩ (g v j)
section
variable{Y:ae}{e:TypeId}{z:Nat}{a:AV}{aa:List (List AV)}
def ixG{i:Int}{K:d7}(d:gm Y e z a aa)(c:aF (L aa) i)(h:∀b m,a= .m b (L aa)->box Y b=V ⟨e,z,U,I,aa++m⟩->K (.p b i.toNat 0)):rV (cz z Y a (iv i)) K:=by have f:=c.1;have g:=c.2;rcases d with⟨rfl,rfl⟩|⟨b,m,rfl,j⟩;grind;grind [cz,rV]
def stG{b:Id}{i:Nat}{cs:List AV}{K:ae->Prop}(c:box Y b=V ⟨e,z,U,I,aa⟩)(m:i<L aa)(n:∀r∈aa,L r=z)(k:L cs=z)(l:cs.all eN=U)(h:nrm (eR Y (.a cs))= .a cs)(hI:eB (.a cs)=[])(g:∀Y',Fx Y Y' [b]->box Y' b=V ⟨e,z,U,I,aa.set i cs⟩->K Y'):sV (aK z Y (.p b i 0) (.a cs)) K:=by have d:aa[i]?=V aa[i]:=(by simp);have j:aa[i].length=z:=(by simp_all);have f:aK z Y (.p b i 0) (.a cs)=V (wr Y b ⟨e,z,U,I,aa.set i cs⟩):=(by simp only[aK,aBG,c,eE,aNV,hI,kills,aRl,h,pW,eY,d];grind);rw[f];exact g _ (wc c) (lO c)
def aQz{b:Id}{i j:Nat}{x:AV}{r:List AV}{K:ae->Prop}(c:box Y b=V ⟨e,z,U,I,aa⟩)(h:aa[i]?=V r)(l:j<L r)(g:eY (nrm (eR Y x))=V [nrm (eR Y x)])(k:eN (nrm (eR Y x))=U)(hI:eB x=[])(f:∀Y',Fx Y Y' [b]->box Y' b=V ⟨e,z,U,I,aa.set i (r.set j (nrm (eR Y x)))⟩->K Y'):sV (aK 1 Y (.p b i j) x) K:=by have d:aK 1 Y (.p b i j) x=V (wr Y b ⟨e,z,U,I,aa.set i (r.set j (nrm (eR Y x)))⟩):=(by simp only[aK,aBG,c,eE,aNV,hI,kills,aRl,pW,g,h,bZ,vw];grind [GP]);rw[d];exact f _ (wc c) (lO c)
end
def bxL{e:TypeId}{z d:Nat}{cs:List AV}{Y:ae}{K:be}(h:L cs=z)(g:0<z)(b:d<L Y)(f:∀v Y',Fx Y Y' []->bK Y (d,v)->box Y' (d,v)=V ⟨e,z,U,U,[cs]⟩->K (.p (d,v) 0 0) Y'):eV (qm e z Y d (.a cs)) K:=by have c:qm e z Y d (.a cs)=V (.p (lA Y d) 0 0,put Y d ⟨e,z,U,U,[cs]⟩):=(by grind [qm,eY,y7]);rw[c];exact f _ _ (kH b) (qQ Y d) (iy b)
def gfP{Y:ae}{b:Id}{T e:TypeId}{z f j d by':Nat}{cs zs:List AV}{a:AV}{aa new:List (List AV)}{t o:Bool}{K:AV->be}(C:box Y b=V ⟨T,z,U,U,[cs]⟩)(H:j<L cs)(A:gm Y e f a aa)(k:b∉aA a)(P:L zs=f)(m:0<f)(E:d<L Y)(O:∀r∈aa,L r=f)(M:∀r∈new,L r=f)(w:new≠[])(i:(L aa+L new)*(by'+1)<=1099511627776)(D:b.1≠d)(B:∀c Y',box Y' b=V ⟨T,z,U,U,[cs.set j c]⟩->bc Y' e f c (aa++new)->Fx Y Y' (b::aA a)->(∀q∈aA c,bK Y q/\q.1=d)->K (.p b 0 j) c Y'):eV (j5 e zs by' Y d a (.l new t o)) λx s=>rV (iQ j s (.p b 0 0)) λy=>sV (aK 1 s y x) (K y x):=by refine qs A P m E O M w i λc Y' g F N=>?_;have h:=F.keep _ _ k C;have G:iQ j Y' (.p b 0 0)=V (.p b 0 j):=(by simp[iQ,h]);simp only[G,aY];refine A0 h g.p.ce H λu n v=>?_;have R:b∉aA c:=(by grind);refine B c u v (by grind [bc.fx]) ((F.trans n).mono λq S=>?_) N;grind
def bfa{α:Type}{l:List α}{x y:α}:(l++[x]).set (L l) y=l++[y]:=by simp
structure Wk(Y:ae)(b:Id)(p:xr)(al:List eo)(n:Nat)(a s t:AV):Prop where
 bx:∃th:Int,box Y b=V ⟨254,6,U,U,[[sl w6.c p.A7,sl xt.c p.ay,iv th,a,s,t]]⟩
 ga:gm Y 219 11 a (al.map eo.c)
 gs:∃l:List ByteArray,gm Y 9 1 s (l.map cs)/\L l<=n
 gt:∃l:List ByteArray,gm Y 9 1 t (l.map cs)/\L l<=n
 la:L al<=6
 le:L Y=4096
 sb:b.1=60
 sa:∀q∈aA a,q.1=42
 ss:∀q∈aA s,q.1=204
 st:∀q∈aA t,q.1=262
section
variable{Y Y':ae}{b:Id}{p:xr}{al:List eo}{n:Nat}{a s t:AV}
theorem Wk.fx{ks:List Id}(W:Wk Y b p al n a s t)(F:Fx Y Y' ks)(d:b∉ks)(e:∀q∈aA a,q∉ks)(f:∀q∈aA s,q∉ks)(h:∀q∈aA t,q∉ks):Wk Y' b p al n a s t:=by obtain⟨o,i⟩:=W.bx;obtain⟨l,g,j⟩:=W.gs;obtain⟨m,c,k⟩:=W.gt;exact⟨⟨o,F.keep _ _ d i⟩,W.ga.fx F e,⟨l,g.fx F f,j⟩,⟨m,c.fx F h,k⟩,W.la,F.len.trans W.le,W.sb,W.sa,W.ss,W.st⟩
def Wk.fx0(W:Wk Y b p al n a s t)(F:Fx Y Y' []):Wk Y' b p al n a s t:=W.fx F (by simp) (by simp) (by simp) (by simp)
theorem Wk.mono{m:Nat}(W:Wk Y b p al n a s t)(h:n<=m):Wk Y b p al m a s t:=by obtain⟨l,g,e⟩:=W.gs;obtain⟨k,c,d⟩:=W.gt;exact⟨W.bx,W.ga,⟨l,g,by omega⟩,⟨k,c,by omega⟩,W.la,W.le,W.sb,W.sa,W.ss,W.st⟩
def ixL{i:Int}{K:d7}{α:Type}[Inhabited α]{f:α->List AV}{l:List α}{z:Nat}{e:TypeId}(h:gm Y e z a (l.map f))(d:aF (L l) i)(A:∀x,L (f x)=z)(k:∀y,(∀q,kb q Y y=aN q (f (gd l i.toNat)))->(∀j q,rV (iQ j Y y) q=q (match y with| .p b o r=> .p b o (r+j)|y=>y))->K y):rV (cz z Y a (iv i)) K:=by refine ixG h (by simpa using d) λb m w g=>k _ (λq=>?_) (λj q=>?_);have u:=d.1;have v:=d.2;have c:i.toNat<L l:=(by omega);have:(l.map f++m)[i.toNat]?=V (f (gd l i.toNat)):=(by rw[xe (by simpa using c),ve,eC c,bT c];rfl);simp[kb,iE,g,this];simp[iQ,g,rV]
def bdi(W:Wk Y b p al n a s t)(x y:Int)(q:ByteArray):∃r c,((∃v,r= .s v/\∃u:Bool,v= .bool u)/\Fx Y c [])/\cZ aS GG 231 [.p b 0 0,iv x,iv y,st q] Y r c:=by refine bgM W.le ?_;simp only[aUX];refine yV (L al) (λ_ _ Y'=>Fx Y Y' []) (Fx.refl _ _) ?_;rintro k _ c B F;have e:=W.fx0 F;obtain⟨C,g⟩:=e.bx;have j:∀u Y',Fx Y Y' []->fe (λr c=>(∃v,r= .s v/\∃u:Bool,v= .bool u)/\Fx Y c []) Y' [bv u]:=λu Y' d=>⟨⟨_,rfl,u,rfl⟩,d⟩;simp only[a1a,aI,au,oo g,u0,u1,g,gw,aj,e.ga.ln,bJ,↓uL];refine⟨λh=>?_,λ_=>j _ _ F⟩;have f:=aL h;refine ixL e.ga (dJ f) (λ_=>WV) λD o _=>?_;simp only[o,bh,gw,aY];refine aRA rfl WV (by decide) (by rw[e.le];decide) λv A l z m=>?_;have d:=F.trans l;simp+contextual only[a09,au,u0,u1,m,gw,aj,j _ _ d,oe,lS,↓uL];have w:=W.la;exactλ_=>dR (mk:=λ(_:Unit) i=>[iv i]) (s:=()) (s':=()) (λ_ _=>rfl) f (by omega) d
def aRE(W:Wk Y b p al n a s t){x y:Int}{c:ByteArray}{d:Nat}{K:be}(e:∀u:Bool,K (bv u) Y):cB 231 [.p b 0 0,iv x,iv y,st c] Y d K:=aV6 rfl (bdi W x y c) (by rintro v ⟨u,rfl⟩;exact e u)
def aPr(Y:ae)(b:Id)(p:xr)(al:List eo)(n:Nat)(a s t:AV)(r:AV)(c:ae):Prop:=∃(e:Int) (s' d:AV),r=iv e/\Wk c b p al (n+1) a s' d/\Fx Y c (b::(aA s++aA t))/\(∀q∈aA s',q∈aA s\/bK Y q)/\∀q∈aA d,q∈aA t\/bK Y q
theorem aPr.no(W:Wk Y b p al n a s t)(F:Fx Y Y' [])(e:Int):aPr Y b p al n a s t (iv e) Y':=⟨e,s,t,rfl,(W.fx0 F).mono (by omega),F.mono (by simp),λ_ h=> .inl h,λ_ h=> .inl h⟩
def bd6{Q:d7}:(∀r,(∃k:Int,r=iv k)->Q r)=∀k,Q (iv k):=a65
def a52{x:ByteArray}:aX C9 1 Y [(0,st x)]=V (.l ([x].map cs) U U,Y):=iz
set_option maxHeartbeats 8000000 in
def bdl(W:Wk Y b p al n a s t)(X:PrB p){m:Nat}{x:eo}(hx:A5 m x)(hn:n<100000):∃r Y1,aPr Y b p al n a s t r Y1/\cZ aS GG 206 [.p b 0 0, .a x.c] Y r Y1:=by have hw:=W;have ha:=hx.at;obtain⟨b1,z⟩:=b;obtain rfl:b1=60:=W.sb;refine bgN W.le WV λs2 v3 K2 bc nf2 b3=>?_;have F2:Fx Y s2 []:=K2.fx [];have W2:=W.fx0 F2;obtain⟨th,H⟩:=W2.bx;have rp:∀{l:List AV},aN (V 2) (sl w6.c p.A7::sl xt.c p.ay::l)=V (.a p.c):=rfl;simp only[aUY,oo H,u0,u1,H,rp,gw,aj,↓uL];refine anu W2.le λv5 A K a4 b5=>?_;have f:=W2.fx0 K;have c3:=K.kq b3;have F:=F2.trans K;obtain⟨th,H⟩:=f.bx;have bb:cO A (.p (60,z) 0 0)=V (.p (60,z) 0 0):=oo H;obtain⟨ls,S,a9⟩:=f.gs;obtain⟨lt,O,ba⟩:=f.gt;have aV:dG A s=sl Ab.cs ls:=S.ar;have aW:dG A t=sl Ab.cs lt:=O.ar;refine dT (by first|rfl|(simp[eL,okT,tok,lb,cq,Qh,cD,dC,pP,dK];done)) ?_;refine aRE f λtx=>?_;refine aRE f λav=>?_;refine aRE f λlp=>?_;have dn:∀e:Int,fe (aPr Y (60,z) p al n a s t) A [iv e]:=λe=>aPr.no W F e;have hI:∀y∈x.index,∃n,C6 n y:=λy hy=>⟨2,ha.2.2.1 y hy⟩;have hX:x.op=1\/x.op=2\/x.op=3\/x.op=14->∃n,C6 n x.expr:=λh=>⟨2,ha.1 h⟩;have aD:=aTb (p:=λi=>Q ((gd p.A7 i).name=x.name)) (n:=L p.A7);have aw:(x.op=1\/x.op=2\/x.op=3\/x.op=4\/x.op=5\/x.op=6\/x.op=7\/x.op=8\/x.op=9\/x.op=10\/x.op=11\/x.op=12\/x.op=13\/x.op=14)\/(x.op≠1/\x.op≠2/\x.op≠3/\x.op≠4/\x.op≠5/\x.op≠6/\x.op≠7/\x.op≠8/\x.op≠9/\x.op≠10/\x.op≠11/\x.op≠12/\x.op≠13/\x.op≠14):=(by omega);have a0:∀(i j:Int) (d:Nat) (k:Int),gF (!tx) (λk=>cB 231 [AV.p (60,z) 0 0,iv i,iv j,st x.name] A d λaM aK=>k aM aK) A λaO E=>rV (mL (bv tx) (bv U) aO) λaa=>fW aOS [dG E aa] (lo E [aa]) λab=>fW aOi [AV.s (Value.int dq k),dG E ab] (lo E [iv k,ab]) λaP=>fe (aPr Y (60,z) p al n a s t) E [aP]:=(by intro i j d k;(cases tx);simp only[Bool.not_false,gF,asq];refine aRE f λu=>?_;simp only[u0,ar,aQU,dn,vg];simp only[gF,Bool.not_true,aOl,ya,u0,ar,aQU,dn,vg]);have G:∀k:Int,(k=0->0<=aOB p.A7 x.name)->(decide ¬k=0)=I->L p.A7<4611686018427387904/\aF (L p.A7) (aOB p.A7 x.name)/\cB 231 [AV.p (60,z) 0 0,iv 4,iv 4,st (gd p.A7 (aOB p.A7 x.name).toNat).on] A 142 (aUZ (bv tx) (AV.p (3,v3) 0 0) (bv av) (aPr Y (60,z) p al n a s t)):=(by intro k hk T;have aG:k=0:=(by simp at T;exact T);refine⟨by have:=X.1;omega,⟨hk aG,aD.2⟩,aRE f λu=>?_⟩;cases tx<;>cases u<;>simp+contextual only[aUZ,u0,u1,c3,gw,aj,ar,aQU,dn,ya,Aa,jA,jN,vg,↓uL]);simp only[a1c,u0,u1,c3,gw,aj,↓uL];rcases aw with(h|h|h|h|h|h|h|h|h|h|h|h|h|h)|⟨g1,g2,g3,g4,g5,g6,g7,g8,g9,a5,a6,D,a7,a8⟩;(all_goals(try have aB:=hX (by omega));simp+contextual only[a1g,a1k,a1f,a1j,a1e,a1i,a1d,a1h,f8,aI,au,u0,u1,rk,gw,ar,Fa,aQU,aj,rr,y9,Int.toNat_zero, *,aNK,aB9,Int.reduceEq,aN2,↓iC,↓iB,aXX,bd6,oe,o8,eE,sr,vp,Ca,↓uL]);intro T k;have:0<L x.index:=aqS.2 (by simpa using T);exact⟨⟨by omega,by omega⟩,hI _ (dB this)⟩;exact G;exact G;exact G;intro k hk;refine⟨by have:=X.2.1;omega,λ_=>⟨by omega,λ_=>?_⟩⟩;simp only[a52,bQ];refine apQ S f.le oX oX (by simp) (by simp;omega) λs' aJ D o B=>?_;have w:=o.keep _ _ (λg=>by have:=f.ss _ g;simp at this) H;simp only[a1b,oo w,u0,u1,w,aj,↓uL];refine A0 w D.p.ce (by simp) λZ v M=>?_;refine dT (by first|rfl|(simp[eL,okT,tok,lb,cq,Qh,cD,dC,pP,dK];done)) ?_;have P:∀q∈aA s',q∉[((60,z):Id)]:=λq g e=>(by have:=(B q g).2;simp at e;subst e;simp at this);refine⟨0,s',t,rfl,⟨⟨th,M⟩,(f.ga.fx o (λq g C=>by have:=f.sa q g;have:=f.ss q C;omega)).fx v (λq g e=>by have:=f.sa q g;simp at e;subst e;simp at this),⟨ls++[x.name],by rw[dg];exact D.p.fx v P,by simp;omega⟩,⟨lt,(O.fx o (λq g C=>by have:=f.st q g;have:=f.ss q C;omega)).fx v (λq g e=>by have:=f.st q g;simp at e;subst e;simp at this),by omega⟩,f.la,v.len.trans (o.len.trans f.le),rfl,f.sa,λq g=>(B q g).2,f.st⟩,((F.trans o).trans v).mono (λq g=> .inl ?_),λq g=> .inr ((B q g).1.old F),λq g=> .inl g⟩;simp only[dW,dF,eW] at g⊢;rcases g with h|h;exact .inr (.inl h);exact .inl (by simpa using h);intro k _;have:=X.2.1;omega;have N:∀ac e0:Int,eV (aX C9 1 A [(0,st x.name)]) λR am=>eV (j5 9 zz9 16 am 262 t R) (aU0 (AV.p (60,z) 0 0) (AV.p (60,z) 0 0) (AV.p (60,z) 0 5) (AV.p (3,v3) 0 0) (AV.p (3,v3) 0 2) (st x.name) t R (AV.p (5,v5) 0 0) (iv ac) [iv e0] (aPr Y (60,z) p al n a s t)):=(by intro ac e0;simp only[a52,bQ];refine apQ O f.le oX oX (by simp) (by simp;omega) λt' aJ D o B=>?_;have w:=o.keep _ _ (λg=>by have:=f.st _ g;simp at this) H;have d3:=o.keep _ _ (λg=>by have:=f.st _ g;simp at this) c3;have d5:=o.keep _ _ (λg=>by have:=f.st _ g;simp at this) b5;simp only[aU0,oo w,u0,u1,w,aj,↓uL];refine A0 w D.p.ce (by simp) λZ v M=>?_;have d3:=v.kq d3;have d5:=v.kq d5;refine dT (by first|rfl|(simp[eL,okT,tok,lb,cq,Qh,cD,dC,pP,dK];done)) ?_;have P:∀q∈aA t',q∉[((60,z):Id)]:=λq g e=>(by have:=(B q g).2;simp at e;subst e;simp at this);have az:∀e:Int,aPr Y (60,z) p al n a s t (iv e) Z:=(by intro e;refine⟨e,s,t',rfl,⟨⟨th,M⟩,(f.ga.fx o (λq g C=>by have:=f.sa q g;have:=f.st q C;omega)).fx v (λq g e=>by have:=f.sa q g;simp at e;subst e;simp at this),⟨ls,(S.fx o (λq g C=>by have:=f.ss q g;have:=f.st q C;omega)).fx v (λq g e=>by have:=f.ss q g;simp at e;subst e;simp at this),by omega⟩,⟨lt++[x.name],by rw[dg];exact D.p.fx v P,by simp;omega⟩,f.la,v.len.trans (o.len.trans f.le),rfl,f.sa,f.ss,λq g=>(B q g).2⟩,((F.trans o).trans v).mono (λq g=> .inl ?_),λq g=> .inl g,λq g=> .inr ((B q g).1.old F)⟩;simp only[dW,dF,eW] at g⊢;rcases g with h|h;exact .inr (.inr h);exact .inl (by simpa using h));simp only[u0,u1,d3,d5,gw,aj,ar,Fa,aQU,X,aB,rr,vg,↓uL];exactλ_=>az _);exactλk=>⟨λ_=>by omega,λ_=>N _ _,λ_=>N _ _⟩
def baX(W:Wk Y b p al n a s t)(l:PrB p){m:Nat}{x:eo}(v:A5 m x)(u:n<100000){d:Nat}{K:be}(o:∀(e:Int) (s' g:AV) f,Wk f b p al (n+1) a s' g->Fx Y f (b::(aA s++aA t))->(∀q∈aA s',q∈aA s\/bK Y q)->(∀q∈aA g,q∈aA t\/bK Y q)->K (iv e) f):cB 206 [.p b 0 0, .a x.c] Y d K:=by refine jH rfl (bdl W l v u) ?_;rintro r f ⟨e,s',g,rfl,i,h,j,k⟩;exact⟨h.len,o e s' g f i h j k⟩
def bS:Nat->Nat|0=>0|m+1=>1+8*bS m
def aR9(Y:ae)(b:Id)(p:xr)(al:List eo)(n:Nat)(a s t:AV)(r:AV)(c:ae):Prop:=∃(e l:Int) (d s' f:AV),r= .t [iv e,iv l]/\Wk c b p al n d s' f/\Fx Y c (b::(aA a++(aA s++aA t)))/\(∀q∈aA d,q∈aA a\/bK Y q)/\(∀q∈aA s',q∈aA s\/bK Y q)/\∀q∈aA f,q∈aA t\/bK Y q
def bc8(hB:PrB p):∀(m:Nat) {Y:ae} {al:List eo} {n:Nat} {a s t:AV} {l:List eo},Wk Y b p al n a s t->shL m 8 l->n+L l*bS m<100000->
  ∃r Y1,aR9 Y b p al (n+L l*bS m) a s t r Y1/\cZ aS GG 175 [.p b 0 0,sl eo.c l] Y r Y1:=by
 intro m
 induction m with
 |zero=>
  intro Y al n a s t l W hs hn
  have:l=[]:=List.eq_nil_iff_forall_not_mem.2 λx hx=>hs.2 x hx
  subst this
  refine a7S W.le ?_
  simp only[aRq]
  refine yV 0 (λ_ _ Y'=>Y'=Y) rfl ?_
  rintro k _ Y1 hk rfl
  simp only[aUW,aI,au,u0,u1,vw,↓uL]
  refine⟨λh=>by simp at h;omega,λ_=>⟨0,0,a,s,t,rfl,W.mono (by omega),Fx.refl _ _,λ_ h=> .inl h,λ_ h=> .inl h,λ_ h=> .inl h⟩⟩
 |succ m ih=>
  intro Y al n a s t l W hs hn
  obtain⟨b1,g⟩:=b
  obtain rfl:b1=60:=W.sb
  refine a7S W.le ?_
  simp only[aRq]
  refine yV (L l) (λk _ Y'=>∃A s' B,Wk Y' (60,g) p al (n+k*bS (m+1)) A s' B/\Fx Y Y' ((60,g)::(aA a++(aA s++aA t)))/\(∀q∈aA A,q∈aA a\/bK Y q)/\(∀q∈aA s',q∈aA s\/bK Y q)/\∀q∈aA B,q∈aA t\/bK Y q) ⟨a,s,t,by simpa using W,Fx.refl _ _,λ_ h=> .inl h,λ_ h=> .inl h,λ_ h=> .inl h⟩ ?_
  rintro k _ Y1 hk ⟨a1,s1,t1,W1,F1,i1,i2,i3⟩
  have cm:k*bS (m+1)<=L l*bS (m+1):=qo _ hk
  have ah:∀(e w:Int) (A s' B:AV) Y',Wk Y' (60,g) p al (n+L l*bS (m+1)) A s' B->Fx Y Y' ((60,g)::(aA a++(aA s++aA t)))->(∀q∈aA A,q∈aA a\/bK Y q)->(∀q∈aA s',q∈aA s\/bK Y q)->(∀q∈aA B,q∈aA t\/bK Y q)->fe (aR9 Y (60,g) p al (n+L l*bS (m+1)) a s t) Y' [iv e,iv w]:=λe w A s' B Y' h1 h2 h3 h4 h5=>⟨e,w,A,s',B,rfl,h1,h2,h3,h4,h5⟩
  simp only[aUW,aI,au,u0,u1,y9,bh,rr,gw,↓uL]
  refine⟨λh=>⟨bA h,aRA rfl WV (by decide) (by rw[W1.le];decide) λv s2 F2 N2 aP=>?_⟩,λ_=>ah _ _ _ _ _ _ (W1.mono (by omega)) F1 i1 i2 i3⟩
  have ar:=aL h
  have W2:=W1.fx0 F2
  have hx:=hs.2 _ (dB ar)
  obtain⟨m',cF,g1,g2⟩:=hx.body
  obtain rfl:m=m':=by omega
  have bU:n+k*bS (m+1)+(1+8*bS m)<=n+L l*bS (m+1):=by
   have h9:(k+1)*bS (m+1)<=L l*bS (m+1):=qo _ ar
   rw[tN] at h9
   have:bS (m+1)=1+8*bS m:=rfl
   omega
  have n7:∀{A s' B:AV} {Y':ae} {bt:List eo} {n':Nat},Wk Y' (60,g) p bt n' A s' B->∀(v:Nat),((7,v):Id)∉((60,g):Id)::(aA A++(aA s'++aA B)):=λW v j=>by
   simp only[eW,dF,iK] at j
   rcases j with h|h|h|h
   ·omega
   ·have:=W.sa _ h;simp at this
   ·have:=W.ss _ h;simp at this
   ·have:=W.st _ h;simp at this
  generalize cG:gd l k=x at*
  simp only[a05,u0,u1,aP,gw,↓uL]
  refine baX W2 hB hx (by omega) λe s3 t3 Y3 o F3 j2 j3=>?_
  have b3:=F3.keep _ _ (λj=>n7 W2 v (by simp only[eW,dF] at j⊢;rcases j with h|h|h;exact .inl h;exact .inr (.inr (.inl h));exact .inr (.inr (.inr h)))) aP
  have aa:Fx Y Y3 ((60,g)::(aA a++(aA s++aA t))):=((F1.trans F2).trans F3).mono λq j=>by
   simp only[dF,eW,ql,y6] at j⊢
   rcases j with(h|h|h|h)|h|h|h
   ·exact .inl (.inl h)
   ·exact .inl (.inr (.inl h))
   ·exact .inl (.inr (.inr (.inl h)))
   ·exact .inl (.inr (.inr (.inr h)))
   ·exact .inl (.inl h)
   ·exact(i2 q h).elim (λh=> .inl (.inr (.inr (.inl h)))) λh=> .inr h.no
   ·exact(i3 q h).elim (λh=> .inl (.inr (.inr (.inr h)))) λh=> .inr h.no
  have aV:∀q∈aA s3,q∈aA s\/bK Y q:=λq j=>(j2 q j).elim (i2 q) λh=> .inr ((h.old F2).old F1)
  have aW:∀q∈aA t3,q∈aA t\/bK Y q:=λq j=>(j3 q j).elim (i3 q) λh=> .inr ((h.old F2).old F1)
  obtain⟨th,an⟩:=o.bx
  have bB:=o.la
  have ew:dq.wrap ((L al:Int)+1)=((L al+1:Nat):Int):=fX (by omega)
  simp+contextual only[a04,f8,a08,a06,aI,au,oo an,u0,u1,an,yr,C5,yd,o.ga.ln,bJ,b3,gw,aj,ew,Int.reduceEq,aN2,be3,aNK,↓iC,↓uL]
  have af:∀(e w:Int),fe (aR9 Y (60,g) p al (n+L l*bS (m+1)) a s t) Y3 [iv e,iv w]:=λe w=>ah e w _ _ _ _ (o.mono (by omega)) aa i1 aV aW
  refine⟨λ_=>af _ _,λh6=>⟨λ_=>af _ _,λ_=>?_⟩⟩
  have cA:L al+1<=6:=by simp at h6;omega
  have bF:aX aNA 1 Y3 [(0,(.a [(iv 0),(iv 0),(sv []),(sv []),(.l [] U U),(iv 0),(iv 0),(sv []),(.l [] U U),(.l [] U U),(.l [] U U)]))]=V (.l [aNA] U U,Y3):=by kernel_rfl
  simp only[bF,bQ]
  refine apQ o.ga o.le (qW λ_=>WV) (by simp) (by simp) (by simp;omega) λa4 Y4 g4 F4 N4=>?_
  rcases g4 with⟨h8,_⟩|⟨q,bz,j⟩
  ·simp at h8
  subst bz
  have aR:q.1=42:=(N4 q (by simp[aA])).2
  have aU:=(N4 q (by simp[aA])).1
  obtain⟨q1,q2⟩:=q
  simp only at aR
  subst aR
  have na:∀{u:Nat} {r:Nat},r≠42->((r,u):Id)∉aA a1:=λf j=>f (o.sa _ j)
  have b4:=F4.keep _ _ (na (by decide)) b3
  have bC:=F4.keep _ _ (na (by decide)) an
  have aF:L (al.map eo.c++[aNA])=L al+1:=by simp
  have bG:∀{K:d7},K (.p (42,q2) (L al) 0)->rV (cz 11 Y4 (.m (42,q2) (L (al.map eo.c++[aNA]))) (iv (L al:Int))) K:=λ{K} hK=>by
   simp only[cz,Int.natCast_nonneg,vm,j,qd,bh,aF,Nat.lt_succ_self,vg,rV]
   exact hK
  simp only[a03,↓uL]
  refine bG ?_
  refine stG j (by simp) (by intro r f;simp only[dF,dN,cE] at f;rcases f with⟨y,_,rfl⟩|rfl;exact WV;rfl) WV (by rw[apT];rfl) (by rw[apT];rfl) (by rw[apT];rfl) λY5 F5 aT=>?_
  have bc:(al.map eo.c++[aNA]).set (L al) (eo.c x)=(al++[x]).map eo.c:=by
   have:=bfa (l:=al.map eo.c) (x:=aNA) (y:=eo.c x)
   rw[bJ] at this
   rw[this];simp
  rw[bc] at aT
  have b5:=F5.kq b4
  have T:=F5.kq bC
  simp only[a02,oo T,u0,u1,T,aj,↓uL]
  refine A0 T rfl (by simp) λY6 F6 bD=>?_
  have b6:=F6.kq b5
  have bL:=F6.kq aT
  have bI:cD (.a x.c)=[]:=by rw[apT];rfl
  refine dT (by simp only[lbV,aBG,T,j,vm,eE,aNV,Cz,RN,bI];simp[eL,lb,cD,dC,dK]) ?_
  have ab:Fx Y3 Y6 (aA a1++[(60,g)]):=((F4.trans F5).trans F6).mono λr f=>by
   simp only[dF,cE] at f⊢
   rcases f with(h|h)|h
   ·exact .inl (.inl h)
   ·subst h;exact .inr aU.no
   ·exact .inl (.inr h)
  have bn:Fx Y Y6 ((60,g)::(aA a++(aA s++aA t))):=(aa.trans ab).mono λr f=>by
   rcases dF.1 f with h|h
   ·exact .inl h
   ·rcases dF.1 h with h|h
    ·rcases i1 r h with h|h
     ·exact .inl (by simp[h])
     ·exact .inr h.no
    ·exact .inl (by simp at h;simp[h])
  have aQ:∀r:Id,r.1≠42->r.1≠60->r∉aA a1++[((60,g):Id)]:=λr h1 h2 f=>by
   rcases dF.1 f with h|h
   ·exact h1 (o.sa r h)
   ·simp at h;subst h;exact h2 rfl
  obtain⟨ls,gs,aq⟩:=o.gs
  obtain⟨lt,am,S⟩:=o.gt
  have W6:Wk Y6 (60,g) p (al++[x]) (n+k*bS (m+1)+1) (.m (42,q2) (L (al.map eo.c++[aNA]))) s3 t3:=by
   refine⟨⟨th,bD⟩, .inr ⟨(42,q2),[],by simp,by simpa using bL⟩,⟨ls,gs.fx ab (λr f=>aQ r (by rw[o.ss r f];decide) (by rw[o.ss r f];decide)),aq⟩,⟨lt,am.fx ab (λr f=>aQ r (by rw[o.st r f];decide) (by rw[o.st r f];decide)),S⟩,by simp;omega,F6.len.trans (F5.len.trans (F4.len.trans o.le)),rfl,by simp[aA],o.ss,o.st⟩
  have bk:bK Y (42,q2):=aU.old aa
  have av:∀(e w:Int) {D:ae} {N:Nat} {M F G:AV},Wk D (60,g) p (al++[x]) N M F G->N<=n+k*bS (m+1)+(1+8*bS m)->Fx Y D ((60,g)::(aA a++(aA s++aA t)))->(∀q∈aA M,q∈aA a\/bK Y q)->(∀q∈aA F,q∈aA s\/bK Y q)->(∀q∈aA G,q∈aA t\/bK Y q)->
    aUV (.p (60,g) 0 0) (aR9 Y (60,g) p al (n+L l*bS (m+1)) a s t) [iv k] (yI (λ(_:Unit) i=>[iv i]) (L l) λk (_:Unit) Y'=>∃A s' B,Wk Y' (60,g) p al (n+k*bS (m+1)) A s' B/\Fx Y Y' ((60,g)::(aA a++(aA s++aA t)))/\(∀(q:Id),q∈aA A->q∈aA a\/bK Y q)/\(∀(q:Id),q∈aA s'->q∈aA s\/bK Y q)/\∀(q:Id),q∈aA B->q∈aA t\/bK Y q) (gM 0 (L l)) Y1 [iv e,iv w] D:=by
   intro e w D N M F G z hN Z X O P
   obtain⟨th,ao⟩:=z.bx
   have e1:dq.wrap (((L al+1:Nat):Int)-1)=(L al:Int):=by rw[eM (by omega) (by omega)];omega
   simp only[aUV,aI,oo ao,u0,u1,ao,yr,C5,yd,aj,z.ga.ln,bJ,P8,bZ,vw,e1,↓uL]
   refine slP z.ga (by omega) (by simp;omega) λH g9 i9=>?_
   have ht:((al++[x]).map eo.c).take ((L al:Int).toNat)=al.map eo.c:=by simp
   rw[ht] at g9
   refine A0 ao g9.ce (by simp) λE C b9=>?_
   have d9:∀r:Id,r.1≠60->r∉[((60,g):Id)]:=λr h f=>by simp at f;subst f;exact h rfl
   obtain⟨ls,gs,aq⟩:=z.gs
   obtain⟨lt,am,S⟩:=z.gt
   have R:Wk E (60,g) p al N H F G:=⟨⟨th,b9⟩,g9.fx C (λr f=>d9 r (by rw[z.sa r (i9▸f)];decide)),⟨ls,gs.fx C (λr f=>d9 r (by rw[z.ss r f];decide)),aq⟩,⟨lt,am.fx C (λr f=>d9 r (by rw[z.st r f];decide)),S⟩,bB,C.len.trans z.le,rfl,λr f=>z.sa r (i9▸f),z.ss,z.st⟩
   have aO:Fx Y E ((60,g)::(aA a++(aA s++aA t))):=(Z.trans C).mono λr f=>by
    rcases dF.1 f with h|h
    ·exact .inl h
    ·exact .inl (by simp at h;simp[h])
   have u9:∀q∈aA H,q∈aA a\/bK Y q:=λr f=>X r (i9▸f)
   simp only[a0Z,au,u0,u1,↓uL]
   refine⟨λ_=>ah _ _ _ _ _ _ (R.mono (by omega)) aO u9 O P,λ_=>?_⟩
   refine dR (mk:=λ(_:Unit) i=>[iv i]) (s:=()) (s':=()) (λ_ _=>rfl) ar (by have:=hs.1;omega) ⟨H,F,G,R.mono ?_,aO,u9,O,P⟩
   rw[tN]
   have:bS (m+1)=1+8*bS m:=rfl
   omega
  have ag:∀{D:ae} {N:Nat} {M F G:AV} {l':List eo} {d:Nat} {K:be},Wk D (60,g) p (al++[x]) N M F G->shL m 4 l'->N<=n+k*bS (m+1)+(1+4*bS m)->Fx Y D ((60,g)::(aA a++(aA s++aA t)))->(∀q∈aA M,q∈aA a\/bK Y q)->(∀q∈aA F,q∈aA s\/bK Y q)->(∀q∈aA G,q∈aA t\/bK Y q)->
    (∀(e w:Int) (H s9 t9:AV) (E:ae),Wk E (60,g) p (al++[x]) (N+4*bS m) H s9 t9->Fx D E ((60,g)::(aA M++(aA F++aA G)))->Fx Y E ((60,g)::(aA a++(aA s++aA t)))->(∀q∈aA H,q∈aA a\/bK Y q)->(∀q∈aA s9,q∈aA s\/bK Y q)->(∀q∈aA t9,q∈aA t\/bK Y q)->K (.t [iv e,iv w]) E)->cB 175 [.p (60,g) 0 0,sl eo.c l'] D d K:=by
   intro D N M F G l' d K z ap hN Z X O P hK
   have h4:L l'*bS m<=4*bS m:=qo _ ap.1
   refine jH rfl (ih z ⟨by have:=ap.1;omega,ap.2⟩ (by omega)) ?_
   rintro r E ⟨e,w,H,s9,t9,rfl,R,C,v1,v2,v3⟩
   refine⟨C.len,hK e w H s9 t9 E (R.mono (by omega)) C ((Z.trans C).mono λr f=>?_) (λq j=>(v1 q j).elim (X q) λh=> .inr (h.old Z)) (λq j=>(v2 q j).elim (O q) λh=> .inr (h.old Z)) (λq j=>(v3 q j).elim (P q) λh=> .inr (h.old Z))⟩
   rcases dF.1 f with h|h
   ·exact .inl h
   ·simp only[eW,dF] at h⊢
    rcases h with h|h|h|h
    ·exact .inl (.inl h)
    ·exact(X r h).elim (λh=> .inl (.inr (.inl h))) λh=> .inr h.no
    ·exact(O r h).elim (λh=> .inl (.inr (.inr (.inl h)))) λh=> .inr h.no
    ·exact(P r h).elim (λh=> .inl (.inr (.inr (.inr h)))) λh=> .inr h.no
  simp only[u0,u1,b6,gw,aj,↓uL]
  refine ag W6 g1 (by omega) bn (by simp[aA];exact .inr bk) aV aW λe' w H s9 t9 E R G9 C v1 v2 v3=>?_
  have b9:=G9.keep _ _ (n7 W6 v) b6
  simp only[a01,rr,aY,di,a07,u0,u1,b9,gw,aj,↓uL]
  refine⟨λ_=>?_,λ_=>av _ _ R (by omega) C v1 v2 v3⟩
  refine ag R g2 (by omega) C v1 v2 v3 λe2 cH cy cI cJ cx bq cw bm w1 w2 w3=>?_
  simp only[a00,rr,aY]
  exact av _ _ bq (by omega) bm w1 w2 w3
def baR(w:PrB p){m:Nat}{l:List eo}(W:Wk Y b p al n a s t)(z:shL m 8 l)(y:n+L l*bS m<100000){d:Nat}{K:be}(x:∀(e i:Int) (g s' h:AV) f,Wk f b p al (n+L l*bS m) g s' h->Fx Y f (b::(aA a++(aA s++aA t)))->(∀q∈aA g,q∈aA a\/bK Y q)->(∀q∈aA s',q∈aA s\/bK Y q)->(∀q∈aA h,q∈aA t\/bK Y q)->K (.t [iv e,iv i]) f):cB 175 [.p b 0 0,sl eo.c l] Y d K:=by refine jH rfl (bc8 w m W z y) ?_;rintro r f ⟨e,i,g,s',h,rfl,k,j,o,u,v⟩;exact⟨j.len,x e i g s' h f k j o u v⟩
end
def a7A:dO:=aYb
def a7k:eJ a7A:=aTC
def aWi:=@aQU
section
attribute[local irreducible] aX
def a87:=bi 37 [(18,([8,9],[1])),(28,([11],[1,10]))]
def a0y R b(g:aG)(c:bu) h d a:=rV (eO 0 d) λe=>rV (eO 1 d) λi=>aO .neq e (iv 0) λj=>ah j (aE R a [e,i]) (aV (gt b 0) (iv 1) λf=>g [f] a/\c [f] a<c b h)
def a0z e b g R c d f a:=ab 1 a e λh=>ao 4 a h (gt b 0) λi=>ab 3 a i λj=>cB 175 [g,j] a 80 (a0y R b c d f)
def a0B c d R e f b a:=∀_:Rg,ab 1 a c λg=>aJ a g λh=>aU (gt b 0) h λi=>ah i (rV (cO a d) λj=>aB 2 a j λk=>sV (aK 1 a k (gt b 0)) (a0z c b d R e f a)) (aE R a [(iv 0),(iv 0)])
def a0A b c R(g:cG)(d:fD) a:=∀_:Rg,ab 1 b c λi=>aJ b i λj=>aU (gt a 1) j λk=>ah k (ab 1 b c λl=>ao 4 b l (gt a 1) λm=>ab 3 b m λn=>fV aT4 b [n] λo=>aV (gt a 0) o λe=>aV (gt a 1) (iv 1) λf=>g [e,f]/\d [e,f]<d a) (aO .gtr (gt a 0) (iv 60) λp=>ah p (aE R b [(iv 2),(iv 0)]) (aw 2 b c λq=>rV (bM a76 [(0,2),(2,1),(3,1),(4,1),(5,1)] [(0,q)]) λr=>eV (qm 254 6 b 60 r) λs h=>lV [(iv 0)] h (a0B c s R)))
def a0x b a R:=aw 2 a b λt3=>fV aT0 a [t3] λt4=>cf t4 λo=>ah o (aE R a [(iv 3),(iv 0)]) (ab 0 a b λp=>fV aT7 a [p] λm=>rV (eO 0 m) λn=>rV (eO 1 m) λe=>aO .neq n (iv 0) λf=>ah f (aE R a [n,e]) (ab 1 a b λg=>aJ a g λh=>aO .gtr h (iv 4) λi=>ah i (aE R a [(iv 2),(iv 0)]) (aw 2 a b λj=>fV aT9 a [j] λc=>rV (eO 0 c) λd=>rV (eO 1 c) λk=>aO .neq d (iv 0) λl=>ah l (aE R a [d,k]) (lR [(iv 0),(iv 0)] (a0A a b R)))))
def bgF{b:List AV}{R:d7}(l0:L b=2)(h:H1 143 2 1 b λc d=>a0x c d R):Ct 118 [.a b] R:=z1 a87 a7k Tryz.func118 l0 h
end
def bdo{p:xr}(g:shP p):Ct 118 [.a p.c] aQ1:=by
 have j:=g.1
 have Z:=j.1
 have h2:=j.2.1
 refine bgF rfl λs2 C m h0=>?_
 simp+contextual only[a0x,u0,u1,m,gw,aj,ar,Fa,aWi,g,Z,j,rr,aO2,oe,↓uL]
 intros
 refine yh (λs:Int×Nat=>[iv s.1,iv s.2]) 1 (L p.ay) (λ_=>True) (0,0) trivial ?_
 rintro⟨c,k⟩ _
 simp+contextual only[a0A,aI,au,u0,u1,m,rk,gw,aj,y9,bh,ar,aWi,rr,aO2,oe,↓uL]
 refine⟨λh=>⟨bA h,⟨4,(g.2.2 _ (dB (aL h))).2⟩,λx=>wN (enc:=λs:Int×Nat=>[iv s.1,iv s.2]) (s:=(c,k)) (s':=(_,k+1)) (by rw[fX (by have:=aL h;omega)]) rfl rfl (aL h) trivial⟩,λ_ _=>?_⟩
 have B:bM a76 [(0,2),(2,1),(3,1),(4,1),(5,1)] [(0, .a p.c)]=V (.a [sl w6.c p.A7,sl xt.c p.ay,iv 0, .l [] U U, .l [] U U, .l [] U U]):=rfl
 simp only[B,aY]
 refine bxL rfl (by decide) (by rw[C];decide) λv H u N3 R=>?_
 have D:L H=4096:=u.len.trans C
 have M:Wk H (60,v) p [] 0 (.l [] U U) (.l [] U U) (.l [] U U):=⟨⟨0,R⟩, .inl ⟨rfl,rfl⟩,⟨[], .inl ⟨rfl,rfl⟩,by simp⟩,⟨[], .inl ⟨rfl,rfl⟩,by simp⟩,by simp,D,rfl,by simp[aA],by simp[aA],by simp[aA]⟩
 have T:=u.kq m
 refine yV (L p.ay) (λk _ Y=>∃a s t,Wk Y (60,v) p [] (k*10000) a s t/\box Y (1,1)=V ⟨143,2,U,U,[p.c]⟩) ⟨_,_,_,by simpa using M,T⟩ ?_
 rintro k _ Y hk ⟨a,s,t,W,w⟩
 obtain⟨th,o⟩:=W.bx
 simp only[a0B,aI,au,u0,u1,w,oo o,o,gw,aj,rr,aO2,oe,o8,↓uL]
 intro h
 have f:=aL h
 have G:=g.2.2 _ (dB f)
 have ae:=g.2.1
 refine A0 o rfl (by simp) λs4 d S=>?_
 have y:=d.kq w
 have N:Wk s4 (60,v) p [] (k*10000) a s t:=by
  obtain⟨ls,z,E⟩:=W.gs
  obtain⟨lt,A,q⟩:=W.gt
  have n:∀r:Id,r.1≠60->r∉[((60,v):Id)]:=λr h b=>by simp at b;subst b;exact h rfl
  exact⟨⟨k,S⟩,W.ga.fx d (λr b=>n r (by rw[W.sa r b];decide)),⟨ls,z.fx d (λr b=>n r (by rw[W.ss r b];decide)),E⟩,⟨lt,A.fx d (λr b=>n r (by rw[W.st r b];decide)),q⟩,W.la,d.len.trans W.le,rfl,W.sa,W.ss,W.st⟩
 simp only[a0z,u0,u1,y,rk,gw,aj,y9,bh,↓uL]
 have ad:bS 4=585:=rfl
 have hm:L (gd p.ay k).body*bS 4<=8*bS 4:=qo _ G.2.1
 refine⟨dJ f,baR j N G.2 (by omega) λe ln P s' t' s5 O K _ _ _=>?_⟩
 have X:=K.keep _ _ (λF=>by
  simp only[eW,dF,iK] at F
  rcases F with h|h|h|h
  ·omega
  ·have:=W.sa _ h;simp at this
  ·have:=W.ss _ h;simp at this
  ·have:=W.st _ h;simp at this) y
 simp only[a0y,au,u0,u1,rr,aO2,oe,lS,↓uL]
 exactλ_=>dR (mk:=λ(_:Unit) i=>[iv i]) (s:=()) (s':=()) (λ_ _=>rfl) f (by omega) ⟨P,s',t',O.mono (by omega),X⟩
def a59{p:xr}(f:shP p):∃x:Int×Int,Ct 118 [.a p.c] (·= .t [iv x.1,iv x.2]):=by obtain⟨r,⟨e,l,rfl⟩,b,d⟩:=bdo f;exact⟨(e,l),_,rfl,b,d⟩
noncomputable def chk(p:xr):Int×Int:=@dite _ (shP p) (Classical.propDecidable _) (λh=>Classical.choose (a59 h)) λ_=>(0,0)
def aW1(p:xr)(b:shP p):Ct 118 [.a p.c] (·= .t [iv (chk p).1,iv (chk p).2]):=by rw[chk,dif_pos b];exact Classical.choose_spec (a59 b)
def aRi:FT:=mT aW1
def bbJ{p Lw K}:=oK aRi aW1 p Lw K (j:=by simp+contextual only[ij,Nb])
def a7B:dO:=(118,aRi)::a7A
def aX4:eJ a7B:=it (pg aW1) (a7k)
def aWj:=ai @bbJ<|@aWi
section
attribute[local irreducible] aX
def a9E:=bi 11 [(3,([0,2,10],[1,3]))]
def a2O f(g:aG)(m1:bu) h b a:=rV (eO 0 b) λc=>rV (eO 1 b) λd=>aV (gt f 2) (iv 1) λe=>g [c,d,e] a/\m1 [c,d,e] a<m1 f h
def a2P j c i h m1 k b a:=rV (eO 0 b) λd=>rV (eO 1 b) λe=>ao 11 a j (gt c 2) λf=>ab 10 a f λg=>cB 177 [d,i,e,g] a 51 (a2O c h m1 k)
def a2Q b d c i m1 j e a:=aV (gt b 1) (iv 1) λf=>ao 11 a d (gt b 2) λg=>ab 9 a g λh=>cB 177 [e,c,f,h] a 39 (a2P d b c i m1 j)
def aVa c d R f m1 a b:=∀_:Rg,aJ b c λt3=>aU (gt a 2) t3 λt4=>ah t4 (ao 11 b c (gt a 2) λg=>ab 1 b g λh=>rV (bM aP5 aM7 [(0,d),(1,(gt a 1)),(2,h)]) λi=>eV (aX aTK 1 b [(0,i)]) λj e=>eV (j5 128 aP5 24 e 27 (gt a 0) j) (a2Q a c d f m1 b)) (fe R b [(gt a 0),(gt a 1)])
def aSv a b c d s0 R:=lV [a,c,(iv 0)] s0 (aVa d b R)
def bfY{a b c d:AV}{s0:ae}{R:be}(h:aSv a b c d s0 R):EB 177 [a,b,c,d] s0 R:=zB a9E aX4 Tryz.func177 h
def a7U{a:AV}{b:AV}{c:AV}{d:AV}{s0:ae}{R:be}(e:L s0=4096)(h:aSv a b c d s0 R):EB 177 [a,b,c,d] s0 R:=by refine bfY ?_;exact h
def a9q:=bi 32 [(8,([6],[1,2,3])),(11,([],[1,2,3,6])),(14,([39],[1,2,3,6,7,31])),(17,([8],[1,2,3,6,7])),(21,([65],[1,2,3,6,7,31])),(26,([9],[1,2,3]))]
def aQf a(e:aG)(b:bu) f(g:eQ) c:=∀_:Rg,aV (gt a 0) (iv 1) λd=>e [d] c/\b [d] c<b a f
def a1Q a(e:aG)(b:bu) f c:=aV (gt a 0) (iv 1) λd=>e [d] c/\b [d] c<b a f
def a8v h b c d e f a:=aB 0 a h λg=>sV (aK 1 a g f) (a1Q b c d e)
def aU2 b d(f:aG) e g c a:=∀_:Rg,ab 3 a b λi=>rV (AO .max i (iv 1)) λj=>aU (gt c 0) j λk=>ah k (ab 0 a d λl=>ab 2 a b λm=>ab 3 a b λn=>ab 0 a b λo=>bf o (iv 2) λp=>ab 4 a b λq=>rV (bM aN1 aOG [(0,m),(1,(gt c 0)),(2,n),(3,p),(4,q)]) λr=>eV (aX aTJ 1 a [(0,r)]) λs h=>eV (j5 122 aN1 48 h 63 l s) (a8v d c e g a)) (f [] a)
def a1T f(b:aG) d a:=aB 1 a f λe=>sV (aK 1 a e d) λc=>b [] c
def a8w b e a h j l k m i n o g p r q(c:aG) d:=dH [(bo b),(bo e),(bo a),(bo h),(bo b),(bo j),(bo a),(bo l),(Qh [(.f 176 [] []),k,m]),(lb U [i,n] []),(lb I [o] []),(lb I [g,p] [92]),(bo b),(lb I [r,q] [])] [(0,10),(1,10)] (c [] d)
def a1U d g e i k m l n j o p h q f b a:=aB 2 a d λc=>sV (aK 1 a c b) (a8w d g e i k m l n j o p h q c b f)
def a1V f(c:aG) d a:=aB 3 a f λe=>sV (aK 1 a e d) λb=>c [] b
def aQh a c b d t p:=∀_:Rg,ah (gt p 0) (ab 1 a c λu=>ab 2 a b λv=>ab 0 a b λw=>bf w (iv 4) λx=>rV (bM aOO O7 [(0,v),(1,x)]) λy=>eV (aX aR7 1 a [(0,y)]) λz q=>eV (j5 124 aOO 24 q 77 u z) (a1T c d)) (bf t (iv 5) λA=>ah A (aB 2 a c λe=>aM a e λf=>aB 2 a b λg=>aM a g λh=>aB 1 a c λi=>aM a i λj=>aB 5 a b λk=>aM a k λl=>fV aQE a [j,l] λm=>rV (bM aPp O7 [(0,h),(1,m)]) λn=>eV (aX aR8 1 a [(0,n)]) λo r=>eV (j5 126 aPp 24 r 92 f o) (a1U c e b g i k j l h m n f o d)) (ab 3 a c λB=>ab 2 a b λC=>eV (aX C9 1 a [(0,C)]) λD s=>eV (j5 9 zz9 16 s 37 B D) (a1V c d)))
def aQj c(b:cG):=bf c (iv 3) λa=>ah a (b [a]) (bf c (iv 4) λd=>b [d])
def aQg c a e b d f:=∀_:Rg,ah (gt f 0) (lV [(iv 0)] c (aU2 a e b)) (jR 21 (aQh c e a b d) (aQj d))
def aQi c(b:cG):=bf c (iv 1) λa=>ah a (b [a]) (bf c (iv 2) λd=>b [d])
def aQe a e d b:=ab 0 b a λc=>jR 14 (aQg b a e d c) (aQi c)
def a1Y a e c j d:=ab 0 a e λg=>ao 6 a g (gt c 0) λh=>aw 6 a h λi=>eV (bs 257 aPa a 7) λb f=>sV (aK 6 f b i) (aQe b j d)
def a1W f j q k l a m n i d p o(g:aG)(b:bu) h c:=dH [(bo f),(bo j),km,(bo q),(bo k),km,(lb U [l,(gt a 0)] []),(bo m),(bo n),(cq I i),km,(bo d),(bo d),(bo f),(lb I [p,o] [])] [(12,14)] (aV (gt a 0) (iv 1) λe=>g [e] c/\b [e] c<b a h)
def a1X f k p l m e n o j g h i a b:=rV (eO 0 a) λc=>rV (eO 1 a) λq=>aB 5 b f λd=>sV (aK 1 b d c) (a1W f k p l m e n o j a d c g h i)
def a1R c m d o p b q r s n t v u j k l a:=dH [(bo c),(bo m),(bo d),(bo o),km,(lb U [p,(gt b 0)] []),(bo q),(bo r),(lb I [s] []),(lb I [n,t] [110]),(bo c),(lb I [v,u] [])] [(0,8),(1,8)] (aB 5 a c λe=>aM a e λw=>aB 1 a d λf=>aM a f λg=>ao 4 a g (gt b 0) λh=>aB 3 a h λi=>aM a i λx=>cB 177 [w,(gt b 0),(iv 0),x] a 122 (a1X c e d f g b h i a j k l))
def a8u e i q k l d m n o j p f g h b a:=aB 4 a e λc=>sV (aK 1 a c b) (a1R e i q k l d m n o j p c b f g h)
def a1Z c m t3 R n o b a:=∀_:Rg,ab 1 a c λq=>aJ a q λr=>aU (gt b 0) r λs=>ah s (aB 4 a m λe=>aM a e λf=>aB 1 a c λg=>aM a g λh=>ao 4 a h (gt b 0) λi=>aB 0 a i λj=>aM a j λk=>eV (aX C9 1 a [(0,k)]) λl p=>eV (j5 9 zz9 16 p 110 f l) (a8u m e c g h b i j k f l n o a)) (aw 6 a m λt=>sV (aK 6 a t3 t) λd=>aw 6 d t3 λu=>aE R d [u])
def a11 c d t3 R e f b a:=∀_:Rg,ab 0 a c λg=>aJ a g λh=>aU (gt b 0) h λi=>ah i (jV 11 (aQf b e f a) (a1Y a c b d)) (lV [(iv 0)] a (a1Z c d t3 R))
def a1S b t3 R d a:=aw 2 a b λi=>fV aRi a [i] λh=>rV (eO 0 h) λj=>rV (eO 1 h) λk=>aO .neq j (iv 0) λe=>ah e (aw 6 a d λf=>sV (aK 6 a t3 f) λc=>aw 6 c t3 λg=>aE R c [g]) (lV [(iv 0)] a (a11 b d t3 R))
def a1P a b R:=eV (bs 31 aRc b 2) λt3 c=>eV (bs 31 aRc c 3) (a1S a t3 R)
def bgY{b:List AV}{R:d7}(l0:L b=2)(h:H1 143 2 1 b λc d=>a1P c d R):Ct 119 [.a b] R:=z1 a9q aX4 Tryz.func119 l0 h
end
def SiR(Y:ae)(a:AV)(N:Nat)(r:AV)(d:ae):Prop:=∃(a':AV) (e:Int) (l':List dL),r= .t [a',iv e]/\gm d 128 3 a' (l'.map dL.c)/\L l'<=N/\Fx Y d (aA a)/\(∀q∈aA a',q∈aA a\/bK Y q)/\∀q∈aA a',q∈aA a\/q.1=27
def bdu(y:Int):∀(m:Nat) {Y:ae} {a:AV} {n:Int} {l:List dL} {st:List eo},L Y=4096->gm Y 128 3 a (l.map dL.c)->shL m 8 st->L l+L st*bS m<100000->
  ∃r o,SiR Y a (L l+L st*bS m) r o/\cZ aS GG 177 [a,iv y,iv n,sl eo.c st] Y r o:=by
 intro m
 induction m with
 |zero=>
  intro Y a n l st B g N hn
  have:st=[]:=List.eq_nil_iff_forall_not_mem.2 λx X=>N.2 x X
  subst this
  refine a7U B ?_
  simp only[aSv]
  refine jD (α:=AV×Int) (λs i=>[s.1,iv s.2,iv i]) 2 0 (λ_ s Y'=>Y'=Y/\s.1=a) (s0:=(a,n)) ⟨rfl,rfl⟩ ?_
  rintro k ⟨a',n'⟩ o hk ⟨rfl,rfl⟩
  simp only[aVa,aI,au,u0,u1,vw,↓uL]
  exact⟨λh=>by simp at h;omega,λ_=>⟨_,_,l,rfl,g,by omega,Fx.refl _ _,λ_ h=> .inl h,λ_ h=> .inl h⟩⟩
 |succ m ih=>
  intro Y a n l st B g N hn
  refine a7U B ?_
  simp only[aSv]
  refine jD (α:=AV×Int) (λs i=>[s.1,iv s.2,iv i]) 2 (L st) (λk s Y'=>∃l':List dL,gm Y' 128 3 s.1 (l'.map dL.c)/\L l'<=L l+k*bS (m+1)/\Fx Y Y' (aA a)/\(∀q∈aA s.1,q∈aA a\/bK Y q)/\∀q∈aA s.1,q∈aA a\/q.1=27) (s0:=(a,n)) ⟨l,g,by omega,Fx.refl _ _,λ_ h=> .inl h,λ_ h=> .inl h⟩ ?_
  rintro k ⟨a1,v⟩ o hk ⟨l1,g1,aM,G,Z,p1⟩
  simp only at g1 Z p1
  have D:L o=4096:=G.len.trans B
  simp only[aVa,aI,au,u0,u1,y9,bh,rk,gw,↓uL]
  refine⟨λh=>⟨bA h,?_⟩,λh=>⟨a1,v,l1,rfl,g1,by have h9:=bw h;have:k*bS (m+1)<=L st*bS (m+1):=qo _ hk;omega,G,Z,p1⟩⟩
  have j:=aL h
  have X:=N.2 _ (dB j)
  obtain⟨m',aP,b1,b2⟩:=X.body
  obtain rfl:m=m':=by omega
  have aq:L l+k*bS (m+1)+(1+8*bS m)<=L l+L st*bS (m+1):=by
   have h9:(k+1)*bS (m+1)<=L st*bS (m+1):=qo _ j
   rw[tN] at h9
   have:bS (m+1)=1+8*bS m:=rfl
   omega
  generalize S:gd st k=x at*
  have al:bM aP5 aM7 [(0,iv y),(1,iv v),(2,iv x.line)]=V (.a (dL.c ⟨y,v,x.line⟩)):=rfl
  have am:aX aTK 1 o [(0, .a (dL.c ⟨y,v,x.line⟩))]=V (.l ([(⟨y,v,x.line⟩:dL)].map dL.c) U U,o):=ua rfl rfl rfl (by decide) rfl (by decide)
  simp only[al,aY,am,bQ]
  refine apQ g1 D (qW (f:=dL.c) (z:=3) λ_=>rfl) (qW (f:=dL.c) (z:=3) λ_=>rfl) (by simp) (by simp;omega) λa2 Y2 g2 F2 N2=>?_
  have aB:L Y2=4096:=F2.len.trans D
  rw[<-dg] at g2
  have ac:Fx Y Y2 (aA a):=(G.trans F2).mono λq e=>(dF.1 e).elim .inl λh=>(Z q h).elim .inl λh=> .inr h.no
  have A:∀{M:ae} {a3:AV} {n3:Int} {O:List dL} {R:List eo} {d:Nat} {K:be},gm M 128 3 a3 (O.map dL.c)->shL m 4 R->L O<=L l+k*bS (m+1)+(1+4*bS m)->Fx Y M (aA a)->(∀q∈aA a3,q∈aA a\/bK Y q)->(∀q∈aA a3,q∈aA a\/q.1=27)->
    (∀(a4:AV) (P:Int) (F:List dL) (u:ae),gm u 128 3 a4 (F.map dL.c)->L F<=L O+4*bS m->Fx Y u (aA a)->(∀q∈aA a4,q∈aA a\/bK Y q)->(∀q∈aA a4,q∈aA a\/q.1=27)->K (.t [a4,iv P]) u)->cB 177 [a3,iv y,iv n3,sl eo.c R] M d K:=by
   intro M a3 n3 O R d K g3 E aN T i3 p3 hK
   have h4:L R*bS m<=4*bS m:=qo _ E.1
   refine jH rfl (ih (T.len.trans B) g3 ⟨by have:=E.1;omega,E.2⟩ (by omega)) ?_
   rintro r u ⟨a4,P,F,rfl,W,C,H,i4,p4⟩
   exact⟨H.len,hK a4 P F u W (by omega) ((T.trans H).mono λq e=>(dF.1 e).elim .inl λh=>(i3 q h).elim .inl λh=> .inr h.no) (λq e=>(i4 q e).elim (i3 q) λh=> .inr (h.old T)) (λq e=>(p4 q e).elim (p3 q) .inr)⟩
  simp only[a2Q,au,u0,u1,y9,bh,rk,gw,S,↓uL]
  refine⟨dJ j,A g2.p b1 (by simp;omega) ac (λq e=> .inr ((N2 q e).1.old G)) (λq e=> .inr (N2 q e).2) λa4 P F u W C H i4 p4=>?_⟩
  simp only[a2P,au,rr,u0,u1,y9,bh,gw,S,↓uL]
  refine⟨dJ j,A W b2 (by simp at C;omega) H i4 p4 λa5 n5 l5 Y5 g5 aO F5 i5 p5=>?_⟩
  simp only[a2O,au,rr,u0,u1,↓uL]
  refine dR (mk:=λ(s:AV×Int) i=>[s.1,iv s.2,iv i]) (s:=(a1,v)) (s':=(a5,n5)) (λ_ _=>rfl) j (by have:=N.1;omega) ⟨l5,g5,?_,F5,i5,p5⟩
  rw[tN]
  have:bS (m+1)=1+8*bS m:=rfl
  simp at C
  omega
structure Wo(Y:ae)(b:Id)(w:br)(a0 a1 a2 a3 a4 a5:AV):Prop where
 bx:box Y b=V ⟨31,6,U,U,[[a0,a1,a2,a3,a4,a5]]⟩
 g0:gm Y 122 5 a0 (w.cells.map cA.c)
 g1:gm Y 124 2 a1 (w.ak.map dS.c)
 g2:gm Y 126 2 a2 (w.bC.map yp.c)
 g3:gm Y 9 1 a3 (w.bU.map cs)
 g4:gm Y 9 1 a4 (w.ay.map cs)
 g5:gm Y 128 3 a5 (w.dU.map dL.c)
 p0:∀q∈aA a0,q.1=63
 p1:∀q∈aA a1,q.1=77
 p2:∀q∈aA a2,q.1=92
 p3:∀q∈aA a3,q.1=37
 p4:∀q∈aA a4,q.1=110
 p5:∀q∈aA a5,q.1=27
 sb:b.1=3
 le:L Y=4096
section
variable{Y Y':ae}{b:Id}{w:br}{a0 a1 a2 a3 a4 a5 a':AV}
def Wo.fx0(W:Wo Y b w a0 a1 a2 a3 a4 a5)(F:Fx Y Y' []):Wo Y' b w a0 a1 a2 a3 a4 a5:=⟨F.kq W.bx,W.g0.fx F (by simp),W.g1.fx F (by simp),W.g2.fx F (by simp),W.g3.fx F (by simp),W.g4.fx F (by simp),W.g5.fx F (by simp),W.p0,W.p1,W.p2,W.p3,W.p4,W.p5,W.sb,F.len.trans W.le⟩
def Wo.up0{new:List cA}(W:Wo Y b w a0 a1 a2 a3 a4 a5)(i:box Y' b=V ⟨31,6,U,U,[[a',a1,a2,a3,a4,a5]]⟩)(g:bc Y' 122 5 a' ((w.cells++new).map cA.c))(F:Fx Y Y' (b::aA a0))(N:∀q∈aA a',bK Y q/\q.1=63):Wo Y' b {w with cells:=w.cells++new} a' a1 a2 a3 a4 a5:=by have d:∀q:Id,q.1≠3->q.1≠63->q∉b::aA a0:=λq e f a=>(by rcases eW.1 a with h|h;subst h;exact e W.sb;exact f (W.p0 q h));exact⟨i,g.p,W.g1.fx F (λq a=>d q (by rw[W.p1 q a];decide) (by rw[W.p1 q a];decide)),W.g2.fx F (λq a=>d q (by rw[W.p2 q a];decide) (by rw[W.p2 q a];decide)),W.g3.fx F (λq a=>d q (by rw[W.p3 q a];decide) (by rw[W.p3 q a];decide)),W.g4.fx F (λq a=>d q (by rw[W.p4 q a];decide) (by rw[W.p4 q a];decide)),W.g5.fx F (λq a=>d q (by rw[W.p5 q a];decide) (by rw[W.p5 q a];decide)),(λq a=>(N q a).2),W.p1,W.p2,W.p3,W.p4,W.p5,W.sb,F.len.trans W.le⟩
def Wo.up1{new:List dS}(W:Wo Y b w a0 a1 a2 a3 a4 a5)(i:box Y' b=V ⟨31,6,U,U,[[a0,a',a2,a3,a4,a5]]⟩)(g:bc Y' 124 2 a' ((w.ak++new).map dS.c))(F:Fx Y Y' (b::aA a1))(N:∀q∈aA a',bK Y q/\q.1=77):Wo Y' b {w with ak:=w.ak++new} a0 a' a2 a3 a4 a5:=by have d:∀q:Id,q.1≠3->q.1≠77->q∉b::aA a1:=λq e f a=>(by rcases eW.1 a with h|h;subst h;exact e W.sb;exact f (W.p1 q h));exact⟨i,W.g0.fx F (λq a=>d q (by rw[W.p0 q a];decide) (by rw[W.p0 q a];decide)),g.p,W.g2.fx F (λq a=>d q (by rw[W.p2 q a];decide) (by rw[W.p2 q a];decide)),W.g3.fx F (λq a=>d q (by rw[W.p3 q a];decide) (by rw[W.p3 q a];decide)),W.g4.fx F (λq a=>d q (by rw[W.p4 q a];decide) (by rw[W.p4 q a];decide)),W.g5.fx F (λq a=>d q (by rw[W.p5 q a];decide) (by rw[W.p5 q a];decide)),W.p0,(λq a=>(N q a).2),W.p2,W.p3,W.p4,W.p5,W.sb,F.len.trans W.le⟩
def Wo.up2{new:List yp}(W:Wo Y b w a0 a1 a2 a3 a4 a5)(i:box Y' b=V ⟨31,6,U,U,[[a0,a1,a',a3,a4,a5]]⟩)(g:bc Y' 126 2 a' ((w.bC++new).map yp.c))(F:Fx Y Y' (b::aA a2))(N:∀q∈aA a',bK Y q/\q.1=92):Wo Y' b {w with bC:=w.bC++new} a0 a1 a' a3 a4 a5:=by have d:∀q:Id,q.1≠3->q.1≠92->q∉b::aA a2:=λq e f a=>(by rcases eW.1 a with h|h;subst h;exact e W.sb;exact f (W.p2 q h));exact⟨i,W.g0.fx F (λq a=>d q (by rw[W.p0 q a];decide) (by rw[W.p0 q a];decide)),W.g1.fx F (λq a=>d q (by rw[W.p1 q a];decide) (by rw[W.p1 q a];decide)),g.p,W.g3.fx F (λq a=>d q (by rw[W.p3 q a];decide) (by rw[W.p3 q a];decide)),W.g4.fx F (λq a=>d q (by rw[W.p4 q a];decide) (by rw[W.p4 q a];decide)),W.g5.fx F (λq a=>d q (by rw[W.p5 q a];decide) (by rw[W.p5 q a];decide)),W.p0,W.p1,(λq a=>(N q a).2),W.p3,W.p4,W.p5,W.sb,F.len.trans W.le⟩
def Wo.up3{new:List ByteArray}(W:Wo Y b w a0 a1 a2 a3 a4 a5)(f:box Y' b=V ⟨31,6,U,U,[[a0,a1,a2,a',a4,a5]]⟩)(g:bc Y' 9 1 a' ((w.bU++new).map cs))(F:Fx Y Y' (b::aA a3))(N:∀q∈aA a',bK Y q/\q.1=37):Wo Y' b {w with bU:=w.bU++new} a0 a1 a2 a' a4 a5:=by have d:∀q:Id,q.1≠3->q.1≠37->q∉b::aA a3:=λq c e a=>(by rcases eW.1 a with h|h;subst h;exact c W.sb;exact e (W.p3 q h));exact⟨f,W.g0.fx F (λq a=>d q (by rw[W.p0 q a];decide) (by rw[W.p0 q a];decide)),W.g1.fx F (λq a=>d q (by rw[W.p1 q a];decide) (by rw[W.p1 q a];decide)),W.g2.fx F (λq a=>d q (by rw[W.p2 q a];decide) (by rw[W.p2 q a];decide)),g.p,W.g4.fx F (λq a=>d q (by rw[W.p4 q a];decide) (by rw[W.p4 q a];decide)),W.g5.fx F (λq a=>d q (by rw[W.p5 q a];decide) (by rw[W.p5 q a];decide)),W.p0,W.p1,W.p2,(λq a=>(N q a).2),W.p4,W.p5,W.sb,F.len.trans W.le⟩
def Wo.up4{new:List ByteArray}(W:Wo Y b w a0 a1 a2 a3 a4 a5)(f:box Y' b=V ⟨31,6,U,U,[[a0,a1,a2,a3,a',a5]]⟩)(g:bc Y' 9 1 a' ((w.ay++new).map cs))(F:Fx Y Y' (b::aA a4))(N:∀q∈aA a',bK Y q/\q.1=110):Wo Y' b {w with ay:=w.ay++new} a0 a1 a2 a3 a' a5:=by have d:∀q:Id,q.1≠3->q.1≠110->q∉b::aA a4:=λq c e a=>(by rcases eW.1 a with h|h;subst h;exact c W.sb;exact e (W.p4 q h));exact⟨f,W.g0.fx F (λq a=>d q (by rw[W.p0 q a];decide) (by rw[W.p0 q a];decide)),W.g1.fx F (λq a=>d q (by rw[W.p1 q a];decide) (by rw[W.p1 q a];decide)),W.g2.fx F (λq a=>d q (by rw[W.p2 q a];decide) (by rw[W.p2 q a];decide)),W.g3.fx F (λq a=>d q (by rw[W.p3 q a];decide) (by rw[W.p3 q a];decide)),g.p,W.g5.fx F (λq a=>d q (by rw[W.p5 q a];decide) (by rw[W.p5 q a];decide)),W.p0,W.p1,W.p2,W.p3,(λq a=>(N q a).2),W.p5,W.sb,F.len.trans W.le⟩
end
def WBd(w:br):Prop:=L w.cells<100000/\L w.ak<100000/\L w.bC<100000/\L w.bU<100000/\L w.ay<100000/\L w.dU<100000
def bbe:∀k,k<9->(gd aNF k).size<=4:=by decide
def rwW{a b c d e f:AV}:aN (V 6) [a,b,c,d,e,f]=V (.a [a,b,c,d,e,f]):=rfl
def aXi(p:xr)(hp:shP p/\p.A7=aNF):Ct 119 [.a p.c] (λr=>∃w:br,r= .a w.c/\WBd w/\((chk p).1=0->∃c∈w.cells,c.name=qN)):=by
 obtain⟨hp,hd⟩:=hp
 refine aDq (bgY rfl λs2 hl b1 h0=>?_)
 simp only[a1P]
 refine so hl λv2 s4 F4 N4 b2=>?_
 have aq:L s4=4096:=F4.len.trans hl
 refine so aq λy s6 F6 N6 O=>?_
 have c1:=F6.kq (F4.kq b1)
 have c2:=F6.kq b2
 have bY:L s6=4096:=F6.len.trans aq
 have W6:Wo s6 (3,y) ⟨[],[],[],[],[],[]⟩ (.l [] U U) (.l [] U U) (.l [] U U) (.l [] U U) (.l [] U U) (.l [] U U):=⟨O, .inl ⟨rfl,rfl⟩, .inl ⟨rfl,rfl⟩, .inl ⟨rfl,rfl⟩, .inl ⟨rfl,rfl⟩, .inl ⟨rfl,rfl⟩, .inl ⟨rfl,rfl⟩,by simp[aA],by simp[aA],by simp[aA],by simp[aA],by simp[aA],by simp[aA],rfl,bY⟩
 have ba:∀{Y:ae} {w:br} {a0 a1 a2 a3 a4 a5:AV} {r:List AV},Wo Y (3,y) w a0 a1 a2 a3 a4 a5->box Y (2,v2)=V ⟨31,6,U,U,[r]⟩->L r=6->WBd w->((chk p).1=0->∃c∈w.cells,c.name=qN)->
   aw 6 Y (.p (3,y) 0 0) λt=>sV (aK 6 Y (.p (2,v2) 0 0) t) λaP=>aw 6 aP (.p (2,v2) 0 0) λbo=>aE (λr=>∃w:br,B1 r= .a w.c/\WBd w/\((chk p).1=0->∃c∈w.cells,c.name=qN)) aP [bo]:=by
  intro Y w a0 a1 a2 a3 a4 a5 r W hb hr hB g
  simp only[aC5,W.bx,aww,aBF,df,axE,awx,rwW,aY,↓uL]
  refine qr hb hr rfl λY' F b'=>?_
  simp only[b',aww,aBF,df,awx,rwW,aY]
  have d:∀q:Id,q.1≠2->q∉[((2,v2):Id)]:=λq P g=>by simp at g;subst g;exact P rfl
  refine aOv (Q:=λr=>∃w:br,r= .a w.c/\WBd w/\((chk p).1=0->∃c∈w.cells,c.name=qN)) (v':= .a w.c) ?_ rfl ⟨w,rfl,hB,g⟩
  simp only[fzT,ji,mU,aBr (W.g0.fx F λq g=>d q (by rw[W.p0 q g];decide)),aBr (W.g1.fx F λq g=>d q (by rw[W.p1 q g];decide)),aBr (W.g2.fx F λq g=>d q (by rw[W.p2 q g];decide)),aBr (W.g3.fx F λq g=>d q (by rw[W.p3 q g];decide)),aBr (W.g4.fx F λq g=>d q (by rw[W.p4 q g];decide)),aBr (W.g5.fx F λq g=>d q (by rw[W.p5 q g];decide))]
  rfl
 simp+contextual only[a1S,u0,u1,c1,gw,ar,Fa,aWj,hp,rr,↓uL]
 refine⟨λb0=>ba W6 c2 rfl (by simp[WBd]) (λh=>by simp[h] at b0),λcO=>?_⟩
 have h9:L p.A7=9:=by rw[hd];rfl
 obtain⟨Inv,an⟩:∃e:Nat->Unit->ae->Prop,e=λk _ Y=>∃(w:br) (a0 a1 a2 a3 a4 a5:AV) (r:List AV),Wo Y (3,y) w a0 a1 a2 a3 a4 a5/\box Y (1,1)=V ⟨143,2,U,U,[p.c]⟩/\box Y (2,v2)=V ⟨31,6,U,U,[r]⟩/\L r=6/\L w.cells<=4*k/\L w.ak<=k/\L w.bC<=k/\L w.bU<=k/\w.ay=[]/\w.dU=[]/\(3<k->∃c∈w.cells,c.name=qN):=⟨_,rfl⟩
 refine yV (L p.A7) Inv (by rw[an];exact⟨_,_,_,_,_,_,_,_,W6,c1,c2,rfl,by simp,by simp,by simp,by simp,rfl,rfl,by simp⟩) ?_
 rintro k _ Y hk hi
 rw[an] at hi
 obtain⟨w,a0,a1,a2,a3,a4,a5,r,W,d1,d2,hr,n0,n1,n2,n3,n4,n5,g⟩:=hi
 simp only[a11,aI,au,u0,u1,d1,rk,gw,aj,a1Y,y9,bh,↓uL]
 refine⟨λh=>⟨bA h,anu W.le λv7 G F1 N1 e7=>?_⟩,λh=>?_⟩
 ·have ad:=aL h
  have o:=W.fx0 F1
  have e1:=F1.kq d1
  have e2:=F1.kq d2
  have cR:(gd p.A7 k).size<=4:=by rw[hd];exact bbe k (by omega)
  have a8:k=3->(gd p.A7 k).kind=1/\(gd p.A7 k).name=qN:=by rintro rfl;rw[hd];exact⟨rfl,rfl⟩
  generalize cN:gd p.A7 k=m at*
  have ax:∀{Y':ae} {w':br} {x0 x1 x2 x3 x4 x5:AV},Wo Y' (3,y) w' x0 x1 x2 x3 x4 x5->box Y' (1,1)=V ⟨143,2,U,U,[p.c]⟩->box Y' (2,v2)=V ⟨31,6,U,U,[r]⟩->L w'.cells<=4*(k+1)->L w'.ak<=k+1->L w'.bC<=k+1->L w'.bU<=k+1->w'.ay=[]->w'.dU=[]->(3<k+1->∃c∈w'.cells,c.name=qN)->aQf [iv k] (yI (λ(_:Unit) i=>[iv i]) (L p.A7) Inv) (gM 0 (L p.A7)) Y [] Y':=by
   intro Y' w' x0 x1 x2 x3 x4 x5 g1 g2 C g4 g5 g6 g7 g8 g9 bI
   simp only[aQf,aI,au,u0,u1,↓uL]
   exact dR (mk:=λ(_:Unit) i=>[iv i]) (s:=()) (s':=()) (λ_ _=>rfl) ad (by omega) (by rw[an];exact⟨_,_,_,_,_,_,_,_,g1,g2,C,hr,g4,g5,g6,g7,g8,g9,bI⟩)
  have ep:∀{Y':ae} {j:Nat} {a:AV} {T z:Nat} {bq:Bool} {rs:List (List AV)} {q:Id},Fx G Y' ((3,y)::aA a)->(∀q∈aA a,q.1=j)->q.1≠3->q.1≠j->box G q=V ⟨T,z,U,bq,rs⟩->box Y' q=V ⟨T,z,U,bq,rs⟩:=λF X v bR hb=>F.keep _ _ (λg=>by
   rcases eW.1 g with h|h
   ·rw[h] at v;exact v rfl
   ·exact bR (X _ h)) hb
  have nb:∀{a:AV} {j:Nat},(∀q∈aA a,q.1=j)->j≠3->((3,y):Id)∉aA a:=λX v g=>v (X _ g).symm
  have av:k≠3->3<k+1->∃c∈w.cells,c.name=qN:=λv h=>g (by omega)
  have oO:(m.kind=1\/m.kind=2)->lV [iv 0] G (aU2 (.p (7,v7) 0 0) (.p (3,y) 0 0) (aQf [iv k] (yI (λ(_:Unit) i=>[iv i]) (L p.A7) Inv) (gM 0 (L p.A7)) Y)):=by
   intro _
   obtain⟨M,hM⟩:∃M:Int,M=if 1>m.size then 1 else m.size:=⟨_,rfl⟩
   have cM:1<=M/\M<=4:=by rw[hM];split<;>omega
   refine yV M.toNat (λZ _ Y'=>∃(new:List cA) (x0:AV),Wo Y' (3,y) {w with cells:=w.cells++new} x0 a1 a2 a3 a4 a5/\box Y' (1,1)=V ⟨143,2,U,U,[p.c]⟩/\box Y' (2,v2)=V ⟨31,6,U,U,[r]⟩/\box Y' (7,v7)=V ⟨257,6,U,U,[m.c]⟩/\L new=Z/\(0<Z->∃c∈new,c.name=m.name)) ⟨[],a0,by simpa using o,e1,e2,e7,rfl,by simp⟩ ?_
   rintro Z _ Y2 cQ ⟨new,x0,B,f1,f2,f7,bn,b6⟩
   simp only[aU2,aI,au,u0,u1,f7,B.bx,gw,aj,aRW,<-hM,↓uL]
   refine⟨λS=>?_,λS=>?_⟩
   ·have bm:Z<M.toNat:=by simp at S;omega
    have ac:bM aN1 aOG [(0,st m.name),(1,iv Z),(2,iv m.size),(3,bv (Q (m.kind=2))),(4,iv m.init)]=V (.a (cA.c ⟨m.name,Z,m.size,Q (m.kind=2),m.init⟩)):=rfl
    have E:∀{x:cA},aX aTJ 1 Y2 [(0, .a (cA.c x))]=V (.l ([x].map cA.c) U U,Y2):=λ{x}=>ua rfl rfl rfl (by decide) rfl (by decide)
    simp only[ac,aY,E,bQ]
    refine gfP (j:=0) B.bx (by simp) B.g0 (nb B.p0 (by decide)) rfl (by decide) (by rw[B.le];decide) (qW (f:=cA.c) (z:=5) λ_=>rfl) (qW (f:=cA.c) (z:=5) λ_=>rfl) (by simp) (by simp;omega) (by simp) λa' Y3 O C A R=>?_
    simp only[a1Q,au,u0,u1,↓uL]
    rw[<-dg] at C
    have H:∀{q:Id},q.1≠3->q.1≠63->q∉((3,y):Id)::aA x0:=λv ab g=>by
     rcases eW.1 g with h|h
     ·rw[h] at v;exact v rfl
     ·exact ab (B.p0 _ h)
    have u:=B.up0 (new:=[⟨m.name,Z,m.size,Q (m.kind=2),m.init⟩]) O C A R
    refine dR (mk:=λ(_:Unit) i=>[iv i]) (s:=()) (s':=()) (λ_ _=>rfl) bm (by omega) ⟨new++[⟨m.name,Z,m.size,Q (m.kind=2),m.init⟩],a',by simpa using u,A.keep _ _ (H (by simp) (by simp)) f1,A.keep _ _ (H (by simp) (by simp)) f2,A.keep _ _ (H (by simp) (by simp)) f7,by simp[bn],λ_=>⟨_,zt _ (cE.2 rfl),rfl⟩⟩
   ·have cJ:Z=M.toNat:=by simp at S;omega
    refine ax B f1 f2 (by simp;omega) (by show L w.ak<=k+1;omega) (by show L w.bC<=k+1;omega) (by show L w.bU<=k+1;omega) n4 n5 λv=>?_
    by_cases h4:k=3
    ·obtain⟨c,hc,aG⟩:=b6 (by omega)
     exact⟨c,zt _ hc,by rw[aG];exact(a8 h4).2⟩
    ·obtain⟨c,hc,aG⟩:=av h4 v
     exact⟨c,List.mem_append_left _ hc,aG⟩
  have bL:dG G a1=sl dS.c w.ak:=o.g1.ar
  have H:∀{a:AV} {j:Nat},(∀q∈aA a,q.1=j)->∀q:Id,q.1≠3->q.1≠j->q∉((3,y):Id)::aA a:=λX q v ab g=>by
   rcases eW.1 g with h|h
   ·rw[h] at v;exact v rfl
   ·exact ab (X _ h)
  have lk:∀rw:Bool,k≠3->rV (bM aOO O7 [(0,st m.name),(1,bv rw)]) λcg=>eV (aX aR7 1 G [(0,cg)]) λch cb=>eV (j5 124 aOO 24 cb 77 a1 ch) (a1T (.p (3,y) 0 0) (aQf [iv k] (yI (λ(_:Unit) i=>[iv i]) (L p.A7) Inv) (gM 0 (L p.A7)) Y)):=by
   intro rw v
   have ac:bM aOO O7 [(0,st m.name),(1,bv rw)]=V (.a (dS.c ⟨m.name,rw⟩)):=rfl
   have E:∀{x:dS},aX aR7 1 G [(0, .a (dS.c x))]=V (.l ([x].map dS.c) U U,G):=λ{x}=>ua rfl rfl rfl (by decide) rfl (by decide)
   simp only[ac,aY,E,bQ]
   refine gfP (j:=1) o.bx (by simp) o.g1 (nb o.p1 (by decide)) rfl (by decide) (by rw[o.le];decide) (qW (f:=dS.c) (z:=2) λ_=>rfl) (qW (f:=dS.c) (z:=2) λ_=>rfl) (by simp) (by simp;omega) (by simp) λa' Y3 O C A R=>?_
   rw[<-dg] at C
   exact ax (o.up1 (new:=[⟨m.name,rw⟩]) O C A R) (A.keep _ _ (H o.p1 _ (by simp) (by simp)) e1) (A.keep _ _ (H o.p1 _ (by simp) (by simp)) e2) (by show L w.cells<=_;omega) (by simp;omega) (by show L w.bC<=k+1;omega) (by show L w.bU<=k+1;omega) n4 n5 (av v)
  have cd:∀x:Int,k≠3->rV (bM aPp O7 [(0,st m.name),(1,iv x)]) λbb=>eV (aX aR8 1 G [(0,bb)]) λbc cc=>eV (j5 126 aPp 24 cc 92 a2 bc) (a1U (AV.p (3,y) 0 0) (AV.p (3,y) 0 2) (AV.p (7,v7) 0 0) (AV.p (7,v7) 0 2) (AV.p (3,y) 0 1) (AV.p (7,v7) 0 5) a1 (st m.on) (st m.name) (iv x) bb a2 bc (aQf [iv k] (yI (λ(_:Unit) i=>[iv i]) (L p.A7) Inv) (gM 0 (L p.A7)) Y)):=by
   intro x v
   have ac:bM aPp O7 [(0,st m.name),(1,iv x)]=V (.a (yp.c ⟨m.name,x⟩)):=rfl
   have E:∀{x:yp},aX aR8 1 G [(0, .a (yp.c x))]=V (.l ([x].map yp.c) U U,G):=λ{x}=>ua rfl rfl rfl (by decide) rfl (by decide)
   simp only[ac,aY,E,bQ]
   refine gfP (j:=2) o.bx (by simp) o.g2 (nb o.p2 (by decide)) rfl (by decide) (by rw[o.le];decide) (qW (f:=yp.c) (z:=2) λ_=>rfl) (qW (f:=yp.c) (z:=2) λ_=>rfl) (by simp) (by simp;omega) (by simp) λa' Y3 O C A R=>?_
   rw[<-dg] at C
   refine dT (by first|rfl|(simp[eL,okT,tok,lb,cq,Qh,cD,dC,pP,dK];done)) ?_
   exact ax (o.up2 (new:=[⟨m.name,x⟩]) O C A R) (A.keep _ _ (H o.p2 _ (by simp) (by simp)) e1) (A.keep _ _ (H o.p2 _ (by simp) (by simp)) e2) (by show L w.cells<=_;omega) (by show L w.ak<=k+1;omega) (by simp;omega) (by show L w.bU<=k+1;omega) n4 n5 (av v)
  have fu:k≠3->eV (aX C9 1 G [(0,st m.name)]) λci cf=>eV (j5 9 zz9 16 cf 37 a3 ci) (a1V (AV.p (3,y) 0 0) (aQf [iv k] (yI (λ(_:Unit) i=>[iv i]) (L p.A7) Inv) (gM 0 (L p.A7)) Y)):=by
   intro v
   have E:aX C9 1 G [(0,st m.name)]=V (.l ([m.name].map cs) U U,G):=iz
   simp only[E,bQ]
   refine gfP (j:=3) o.bx (by simp) o.g3 (nb o.p3 (by decide)) rfl (by decide) (by rw[o.le];decide) oX oX (by simp) (by simp;omega) (by simp) λa' Y3 O C A R=>?_
   rw[<-dg] at C
   exact ax (o.up3 (new:=[m.name]) O C A R) (A.keep _ _ (H o.p3 _ (by simp) (by simp)) e1) (A.keep _ _ (H o.p3 _ (by simp) (by simp)) e2) (by show L w.cells<=_;omega) (by show L w.ak<=k+1;omega) (by show L w.bC<=k+1;omega) (by simp;omega) n4 n5 (av v)
  have kc:m.kind=1\/m.kind=2\/m.kind=3\/m.kind=4\/m.kind=5\/(m.kind≠1/\m.kind≠2/\m.kind≠3/\m.kind≠4/\m.kind≠5):=by omega
  have ap:m.kind≠1->k≠3:=λP v=>P (a8 v).1
  rcases kc with h|h|h|h|h|⟨P,S,v,h4,h5⟩
  ·simp only[aQe,f8,aQi,aQg,aQj,aQh,aI,au,u0,u1,e7,o.bx,gw,aj,ar,eE,sr,vp,Ca,o8,h,aNK,aB9,Int.reduceEq,↓iC,↓iB,↓uL]
   exact oO (.inl h)
  ·simp only[aQe,f8,aQi,aQg,aQj,aQh,aI,au,u0,u1,e7,o.bx,gw,aj,ar,eE,sr,vp,Ca,o8,h,aNK,aB9,Int.reduceEq,↓iB,↓uL]
   exact oO (.inr h)
  ·simp only[aQe,f8,aQi,aQg,aQj,aQh,aI,au,u0,u1,e7,o.bx,gw,aj,ar,eE,sr,vp,Ca,o8,h,aNK,aB9,Int.reduceEq,↓iC,↓iB,↓uL]
   exact lk _ (ap (by omega))
  ·simp only[aQe,f8,aQi,aQg,aQj,aQh,aI,au,u0,u1,e7,o.bx,gw,aj,ar,eE,sr,vp,Ca,o8,h,aNK,aB9,Int.reduceEq,↓iB,↓uL]
   exact lk _ (ap (by omega))
  ·simp only[aQe,f8,aQi,aQg,aQj,aQh,aI,au,u0,u1,e7,o.bx,gw,aj,bL,ar,aWj,rr,eE,vp,Ca,h,aNK,aB9,Int.reduceEq,↓iC,↓iB,↓uL]
   exact⟨by omega,λx=>cd x (ap (by omega))⟩
  ·simp only[aQe,f8,aQi,aQg,aQj,aQh,aI,au,u0,u1,e7,o.bx,gw,aj,ar,eE,vp,Ca,P,S,v,h4,h5,aB9,↓iB,↓uL]
   exact fu (ap P)
 ·have bV:k=9:=by have:=bw h;omega
  subst bV
  clear hk h
  refine yV (L p.ay) (λk _ Y=>∃(K:br) (a4 a5:AV),Wo Y (3,y) K a0 a1 a2 a3 a4 a5/\K.cells=w.cells/\K.ak=w.ak/\K.bC=w.bC/\K.bU=w.bU/\box Y (1,1)=V ⟨143,2,U,U,[p.c]⟩/\box Y (2,v2)=V ⟨31,6,U,U,[r]⟩/\L K.ay<=k/\L K.dU<=k*5000) ⟨w,a4,a5,W,rfl,rfl,rfl,rfl,d1,d2,by simp[n4],by simp[n5]⟩ ?_
  rintro k _ Y2 hk ⟨K,x4,x5,B,w0,w1,w2,w3,f1,f2,m4,m5⟩
  have cS:=hp.2.1
  simp only[a1Z,aI,au,u0,u1,f1,B.bx,rk,gw,aj,y9,bh,↓uL]
  refine⟨λh=>⟨bA h,?_⟩,λh=>?_⟩
  rotate_left
  ·have:=ba B f2 hr (by simp only[WBd,w0,w1,w2,w3];omega) (λ_=>by rw[w0];exact g (by omega))
   simp only[u1,B.bx,gw,↓uL] at this
   exact this
  have ad:=aL h
  have a9:=(hp.2.2 _ (dB ad)).2
  generalize b7:gd p.ay k=tk at*
  have E:aX C9 1 Y2 [(0,st tk.name)]=V (.l ([tk.name].map cs) U U,Y2):=iz
  simp only[E,bQ]
  have nb:∀{a:AV} {j:Nat},(∀q∈aA a,q.1=j)->j≠3->((3,y):Id)∉aA a:=λX v g=>v (X _ g).symm
  have H:∀{a:AV} {j:Nat},(∀q∈aA a,q.1=j)->∀q:Id,q.1≠3->q.1≠j->q∉((3,y):Id)::aA a:=λX q v ab g=>by
   rcases eW.1 g with h|h
   ·rw[h] at v;exact v rfl
   ·exact ab (X _ h)
  refine gfP (j:=4) B.bx (by simp) B.g4 (nb B.p4 (by decide)) rfl (by decide) (by rw[B.le];decide) oX oX (by simp) (by simp;omega) (by simp) λa' Y3 O C A R=>?_
  rw[<-dg] at C
  have u:=B.up4 (new:=[tk.name]) O C A R
  have P:=A.keep _ _ (H B.p4 _ (by simp) (by simp)) f1
  have S:=A.keep _ _ (H B.p4 _ (by simp) (by simp)) f2
  have cH:bS 4=585:=rfl
  have hm:L tk.body*bS 4<=8*bS 4:=qo _ a9.1
  simp only[a1R,↓uL]
  refine dT (by first|rfl|(simp[eL,okT,tok,lb,cq,Qh,cD,dC,pP,dK];done)) ?_
  simp only[u0,u1,u.bx,P,rk,gw,aj,y9,bh,b7,↓uL]
  refine⟨dJ ad,jH rfl (bdu k 4 (n:=0) u.le u.g5 a9 (by show L K.dU+L tk.body*bS 4<100000;omega)) ?_⟩
  rintro cT Y4 ⟨aR,n',l',rfl,g4,aq,F4,i4,p4⟩
  refine⟨F4.len,?_⟩
  have p5:∀q∈aA aR,q.1=27:=λq g=>(p4 q g).elim (u.p5 q) id
  have a7:∀q:Id,q.1≠27->q∉aA x5:=λq h g=>h (u.p5 q g)
  have b4:=F4.keep _ _ (a7 _ (by simp)) u.bx
  simp only[a1X,rr,aY,u1,b4,aj,↓uL]
  refine A0 b4 g4.ce (by simp) λY5 F5 b5=>?_
  simp only[a1W,↓uL]
  refine dT (by first|rfl|(simp[eL,okT,tok,lb,cq,Qh,cD,dC,pP,dK];done)) ?_
  have a6:∀q:Id,q.1≠3->q∉[((3,y):Id)]:=λq h g=>by simp at g;subst g;exact h rfl
  have N:Fx Y3 Y5 (aA x5++[(3,y)]):=F4.trans F5
  have D:∀q:Id,q.1≠27->q.1≠3->q∉aA x5++[((3,y):Id)]:=λq P S g=>(dF.1 g).elim (a7 q P) (a6 q S)
  have W5:Wo Y5 (3,y) {K with ay:=K.ay++[tk.name],dU:=l'} a0 a1 a2 a3 a' aR:=⟨b5,u.g0.fx N (λq g=>D q (by rw[u.p0 q g];decide) (by rw[u.p0 q g];decide)),u.g1.fx N (λq g=>D q (by rw[u.p1 q g];decide) (by rw[u.p1 q g];decide)),u.g2.fx N (λq g=>D q (by rw[u.p2 q g];decide) (by rw[u.p2 q g];decide)),u.g3.fx N (λq g=>D q (by rw[u.p3 q g];decide) (by rw[u.p3 q g];decide)),u.g4.fx N (λq g=>D q (by rw[u.p4 q g];decide) (by rw[u.p4 q g];decide)),g4.fx F5 (λq g=>a6 q (by rw[p5 q g];decide)),u.p0,u.p1,u.p2,u.p3,u.p4,p5,rfl,F5.len.trans (F4.len.trans u.le)⟩
  simp only[u0,u1,↓uL]
  refine dR (mk:=λ(_:Unit) i=>[iv i]) (s:=()) (s':=()) (λ_ _=>rfl) ad (by omega) ⟨_,a',aR,W5,w0,w1,w2,w3,N.keep _ _ (D _ (by simp) (by simp)) P,N.keep _ _ (D _ (by simp) (by simp)) S,by simp;omega,?_⟩
  have:L l'<=L K.dU+L tk.body*bS 4:=aq
  show L l'<=(k+1)*5000
  omega
def aUd:FT:=om aXi
def bb0{p Lw K}:=qz aUd aXi p Lw K (j:=by simp+contextual only[ij,Nb])
def aYc:dO:=(119,aUd)::a7B
def aX5:eJ aYc:=it (rj aXi) (aX4)
def aQV:=ai @bb0<|@aWj
section
attribute[local irreducible] aX
def a5E:=bi 28 [(7,([7],[2,3,4,5,6])),(13,([],[2,3,4,5,6,7,8])),(16,([9],[2,3,4,5,6,7,8])),(21,([],[2,3,4,5,6,7,8]))]
def aYU a(e:aG)(b:bu) f c:=aV (gt a 0) (iv 1) λd=>e [d] c/\b [d] c<b a f
def aY5 b c d e f g a:=aB 1 a b λh=>sV (aK 1 a h g) (aYU c d e f)
def aUC a c d e f g(l:eQ) b:=∀_:Rg,ab 1 b a λi=>aw 4 b c λj=>eV (aX aTM 1 b [(0,j)]) λk h=>eV (j5 203 aPM 72 h 93 i k) (aY5 a d e f g)
def a8h a f e h i j g k c m l(b:aG) d:=dH [(bo a),(bo f),km,(lb U [e,(iv 1)] []),(bo h),(lb U [(iv 13),i] []),(lb I [j] []),(lb I [g,k] [87]),(bo a),(lbV c m l)] [(0,6),(1,6)] (b [] d)
def aY6 b g f i j k h l e c a:=aB 3 a b λd=>sV (aK 1 a d c) (a8h b g f i j k h l a d c e)
def aUE m x c d f(e:aG):=bf (gt m 0) (iv 0) λb=>fm b x λq=>az b (rV (cO c q)) λr=>aT b 0 c r λs=>gE (gP U b) (λn=>cV 66 [s,(iv 3)] c 77 λt o=>n t o) c λu a=>az b (bf u (iv 2)) λv=>aD b v (bv I) λw=>ah w (aB 3 a d λg=>aM a g λh=>ao 1 a f (iv 1) λi=>aM a i λj=>rV (bM A4 aon [(0,(iv 13)),(2,j)]) λk=>eV (aX aNA 1 a [(0,k)]) λl p=>eV (j5 219 A4 176 p 87 h l) (aY6 d g f i j k h l e)) (e [] a)
def a8i a j r l m n k o g q p c b d e f i h:=dH [(bo a),(bo j),km,km,(bo r),(bo l),(bo m),(lb I [] [14,15,16]),(lb U [(iv 1),n] []),(lb I [] [14,15,16,30]),(lb I [k,o] [68]),(bo a),(lbV g q p)] [(0,7),(1,7),(2,7),(0,9),(1,9)] (jV 21 (aUC c a b d e f) (aUE b r h a i))
def aY7 b k q m n o l p e f g h i j c a:=aB 3 a b λd=>sV (aK 1 a d c) (a8i b k q m n o l p a d c e f g h i j)
def aY8 a d k o l m n c e f g h j b i:=eV (j5 219 A4 176 i 68 a b) (aY7 d k o l m n a b c e f g h j)
def aY9 o k c j l m b d e f g i a h:=aV (iv 1) a λn=>cV 124 [o,(iv 2),n] h 67 (aY8 k c j o l m a b d e f g i)
def aUB b n f g h i j k(o:eQ) a:=∀_:Rg,aB 3 a b λc=>aM a c λl=>rV (cO a n) λd=>aB 0 a d λe=>aM a e λm=>cV 66 [m,(iv 3)] a 65 (aY9 n l b c d e f g h i j k)
def a8j d g q a i j k h l f n m(o:aG)(e:bu) p b:=dH [(bo d),(bo g),km,km,(lb U [q,(gt a 0)] []),(bo i),(lb U [(iv 12),j] []),(lb I [k] []),(lb I [h,l] [56]),(bo d),(lbV f n m)] [(0,7),(1,7)] (aV (gt a 0) (iv 1) λc=>o [c] b/\e [c] b<e a p)
def aYV d e o k g h i f j l m n b a:=aB 3 a d λc=>sV (aK 1 a c b) (a8j d e o k g h i f j a c b l m n)
def aZa o i j(m:aG) l n b a:=∀_:Rg,aU (gt b 0) o λp=>ah p (aB 3 a i λc=>aM a c λd=>ao 1 a j (gt b 0) λe=>aM a e λf=>rV (bM A4 aon [(0,(iv 12)),(2,f)]) λg=>eV (aX aNA 1 a [(0,g)]) λh k=>eV (j5 219 A4 176 k 56 d h) (aYV i c j b e f g d h l n a)) (m [] a)
def aUD d b e c f(a:aG):=bf (gt d 0) (iv 0) λg=>ah g (lV [(iv 1)] b (aZa e c f a)) (a [] b)
def aYW a j d b e f g c i h:=jV 13 (aUB a j d b e f g c) (aUD b h i a c)
def aYX k n b c d e f j i l g:=rV (bM aPM alz [(0,k),(2,l)]) λm=>eV (bs 203 aPM g 8) λa h=>sV (aK 4 h a m) (aYW a n b c d e f j i)
def aYY c b k d e f g h a:=ao 1 a c (gt b 0) λi=>aM a i λj=>eV (aX C9 2 a [(0,(sv [97])),(1,(sv [98]))]) (aYX j k d b e f g c h)
def aYZ c t1 R d b:=rV (bM aP6 O7 [(0,c),(1,d)]) λe=>sV (aK 2 b t1 e) λa=>aw 2 a t1 λf=>aE R a [f]
def aY0 c b t1 R d a:=rV (bM aPM alz [(0,(sv [109,97,105,110])),(2,c),(3,d)]) λe=>eV (aX aTM 1 a [(0,e)]) (aYZ b t1 R)
def aY1 b t1 R c a:=fV aQC a [(iv 1)] λd=>fV aPN a [(sv [120]),d] λe=>eV (aX aNA 1 a [(0,e)]) (aY0 c b t1 R)
def aZb f s o b t1 R m n c a:=∀_:Rg,aU (gt c 0) f λp=>ah p (rV (cO a s) λq=>aB 1 a q λr=>sV (aK 1 a r (gt c 0)) (aYY o c s b m n a f)) (aw 2 a b λg=>fV aRi a [g] λe=>rV (eO 0 e) λh=>rV (eO 1 e) λt=>aO .neq h (iv 0) λi=>ah i (fV aSd a [] λj=>eV (aX C9 2 a [(0,(sv [97])),(1,(sv [98]))]) (aY1 j t1 R)) (aw 2 a b λk=>sV (aK 2 a t1 k) λd=>aw 2 d t1 λl=>aE R d [l]))
def aY2 g a t1 R d b:=aV (iv 2) d λe=>eV (aX C9 4 b [(0,(sv [109,97,105,110])),(1,(sv [116,49])),(2,(sv [116,50])),(3,(sv [116,51]))]) λf c=>lV [(iv 0)] c (aZb e g f a t1 R)
def aY3 e b t1 R a:=rV (cO a e) λc=>ab 0 a c λd=>cV 66 [d,(iv 3)] a 23 (aY2 e b t1 R)
def aY4 e R t1 f:=rV (bM aTP O7 [(0,e)]) λt3=>eV (qm 80 2 f 14 t3) λt4 g=>rV (bM a75 a6U [(0,t4),(2,(iv 20))]) λh=>eV (qm 213 8 g 16 h) λi c=>fV aSd c [] λj=>rV (bM aP6 O7 [(0,j)]) λd=>eV (bs 143 aP6 c 4) λa b=>sV (aK 2 b a d) (aY3 i a t1 R)
def aUA a s0 R:=eV (bs 143 aP6 s0 2) (aY4 a R)
def bgf{a:AV}{R:d7}(h:∀s0:ae,L s0=4096->(∀k,aZ s0 k=mO)->aUA a s0 R):Fn aS GG 74 [a] R:=by refine fnV (uq ready (aQ9 aX5) Tryz.func74 (an:=a5E) (by kernel_rfl) (Eq.mpr (show ZF aS GGV aYc a5E Tryz.f74 [a] R=(aUA a (ly Tryz.f74) R) by kernel_rfl) ?_));exact h _ uB (i8 _)
def a9m:=bi 32 [(9,([8,9],[1,2,7])),(21,([12],[1,2,7,8,9,10,11])),(27,([14],[1,2,7,8,9,10,11,12,13]))]
def a1u a(e:aG)(b:bu) f c:=aV (gt a 0) (iv 1) λd=>e [d] c/\b [d] c<b a f
def a1D f c d(h:aG)(e:bu) k i j b a:=∀_:Rg,aJ a f λl=>aU (gt b 0) l λm=>ah m (ab 0 a c λn=>ao 1 a f (gt b 0) λo=>aM a o λp=>aV p (iv 1) λq=>rV (AO .max n q) λr=>aB 0 a c λs=>sV (aK 1 a s r) (a1u b i j a)) (aV (gt d 0) (iv 1) λg=>h [g] a/\e [g] a<e d k)
def a1v a(f:aG) d(b:bu) g c:=aV (gt a 1) (iv 1) λe=>f [d,e] c/\b [d,e] c<b a g
def a1w b c d g e f h a:=aB 6 a b λi=>sV (aK 1 a i h) (a1v c d g e f)
def a1C e d c f g m i k h j b a:=∀_:Rg,rV (cO a e) λn=>ab 7 a n λo=>aJ a o λp=>aU (gt b 0) p λq=>ah q (rV (cO a e) λr=>ab 7 a r λs=>ao 6 a s (gt b 0) λt=>aw 6 a t λu=>fV aRj a [u] λv=>lV [(iv 0)] a (a1D v d b h j a)) (ab 6 a c λw=>aw 2 a d λx=>eV (aX a7Z 1 a [(0,x)]) λy l=>eV (j5 192 aTO 32 l 110 w y) (a1w c f g m i k))
def a8t a j k l n o m p b q c d e i f g h:=dH [km,(bo a),(bo j),(bo k),(bo l),km,(bo a),(bo n),(bo o),(lb U [m,p] []),(lb I [] [11]),(lb I [b,q] [])] [(0,10),(1,10),(2,10),(3,10),(4,10),(5,10),(6,10),(7,10),(8,10),(9,10)] (lV [(iv 0)] h (a1C a b c d e i f g))
def a1x b l m n r o p(s:AV) a:=rV (cO a b) λd=>aB 6 a d λe=>aM a e λf=>aJ a f λg=>rV (cO a b) λh=>aB 7 a h λi=>aM a i λj=>rV (bM aTO O7 [(0,g),(1,j)]) λk=>eV (bs 192 aTO a 11) λc q=>sV (aK 2 q c k) (a8t b d e f h i g j c k l m n r o p)
def a1y a b c d h e f g:=rV (bM Py C2 [(0,(iv 28))]) λi=>cB 121 [a,i] g 63 (a1x a b c d h e f)
def a1z b c d e f g(l:AV) a:=rV (cO a b) λh=>ab 9 a h λi=>rV (cO a b) λj=>aB 8 a j λk=>sV (aK 1 a k (iv (-1))) (a1y b c d e i f g)
def a1A t3 R a:=aw 7 a t3 λb=>aE R a [b,(iv 0),(iv 0)]
def a1E e c t3 R g h b a:=∀_:Rg,ab 1 a e λi=>aJ a i λj=>aU (gt b 1) j λk=>ah k (aB 0 a c λl=>aw 6 a l λm=>ab 1 a e λn=>ao 4 a n (gt b 1) λo=>ab 2 a o λp=>rV (bM a74 [(0,6),(6,1),(7,1),(8,1),(9,1)] [(0,m),(1,p),(4,(gt b 0))]) λq=>eV (qm 205 10 a 45 q) λf d=>ab 1 d e λr=>ao 4 d r (gt b 1) λs=>ab 3 d s λt=>cB 120 [f,t] d 53 (a1z f c b g h a)) (aw 7 a c λu=>sV (aK 7 a t3 u) (a1A t3 R))
def a1B c R t3 a:=aw 2 a c λn=>fV aRi a [n] λl=>rV (eO 0 l) λm=>rV (eO 1 l) λo=>aO .neq m (iv 0) λp=>ah p (rV (bM aOR aP0 []) λg=>sV (aK 7 a t3 g) λd=>aw 7 d t3 λh=>aE R d [h,m,o]) (aw 2 a c λi=>fV aUd a [i] λj=>rV (bM aOR aP0 [(0,j)]) λk=>eV (bs 92 aOR a 7) λb e=>sV (aK 7 e b k) λf=>lV [(iv 0),(iv 0)] f (a1E c b t3 R))
def a1t a b R:=eV (bs 92 aOR b 2) (a1B a R)
def bgU{b:List AV}{R:d7}(l0:L b=2)(h:H1 143 2 1 b λc d=>a1t c d R):Ct 73 [.a b] R:=z1 a9m aX5 Tryz.func73 l0 h
end
section
attribute[local irreducible] aX
def a8J:=bi 6 []
def aZc b l R a:=rV (cO a b) λc=>ab 0 a c λd=>rV (cO a b) λe=>ab 1 a e λf=>aO .sub f (iv 1) λg=>ao 1 a d g λh=>aM a h λi=>rV (sO (V .i64) i) λj=>aO .rem j l λk=>fe R a [k]
def aUF a c s0 R:=rV (cO s0 a) λt1=>ab 1 s0 t1 λt3=>rV (cO s0 a) λt4=>ab 0 s0 t4 λl=>aJ s0 l λm=>aO .geq t3 m λb=>ic b c λd=>aC b (aU d (iv 1)) λe=>aD b (bv U) e λf=>ah f (fe R s0 [(iv 0)]) (rV (cO s0 a) λg=>ab 1 s0 g λh=>aV h (iv 1) λi=>rV (cO s0 a) λj=>aB 1 s0 j λk=>sV (aK 1 s0 k i) (aZc a c R))
def bfH{a b:AV}{s0:ae}{R:be}(h:aUF a b s0 R):EB 66 [a,b] s0 R:=zB a8J aNH Tryz.func66 h
def bgg{a:AV}{b:AV}{s0:ae}{R:be}(c:L s0=4096)(h:aUF a b s0 R):EB 66 [a,b] s0 R:=by refine bfH ?_;exact h
def a8Q:=bi 2 []
def aUJ a b s0 R:=rV (cO s0 a) λt1=>ab 7 s0 t1 λt3=>fV FB s0 [t3,b] λt4=>aO .geq t4 (iv 0) λc=>fe R s0 [c]
def bfK{a b:AV}{s0:ae}{R:be}(h:aUJ a b s0 R):EB 215 [a,b] s0 R:=zB a8Q aNH Tryz.func215 h
def bgo{a:AV}{b:AV}{s0:ae}{R:be}(c:L s0=4096)(h:aUJ a b s0 R):EB 215 [a,b] s0 R:=by refine bfK ?_;exact h
def a8P:=bi 12 []
def aZq t1 R c a:=fV aQC a [c] λd=>sV (aK 4 a t1 d) λb=>aw 4 b t1 λe=>fe R b [e]
def aZt t3 t1 R c a:=ao 1 a t3 c λd=>aM a d λe=>fV aQB a [e] λf=>sV (aK 4 a t1 f) λb=>aw 4 b t1 λg=>fe R b [g]
def aZu t1 R c b:=rV (bM aOP alz [(0,(iv 3)),(2,(sv [113])),(3,c)]) λd=>sV (aK 4 b t1 d) λa=>aw 4 a t1 λe=>fe R a [e]
def a8k q h i b d j k c e g l m n t1 o R a:=dH [km,km,(bo q),(bo h),(bo i),km,(bo b),(cq I d),(lb U [b,j] []),(bo k),km,km,(lb U [c,(iv 1)] []),(cq I e),km,km,(lb U [c,(iv 1)] []),(cq I g),(Qh [(.f 213 [] []),l,m,n]),(lb I [t1,o] [])] [(0,7),(7,10),(7,11),(7,12),(0,13),(8,13),(9,13),(7,14),(13,14),(7,15),(13,15),(7,16),(13,16),(0,17),(8,17),(9,17)] (aw 4 a t1 λp=>fe R a [p])
def aZv b c t1 n j k i f l m o g h R d a:=fV aRg a [b,c,d] λe=>sV (aK 4 a t1 e) (a8k n j k i f l m o g h b c d t1 e R)
def aZw c b k t1 g h f d i j e R l a:=aO .sub c (iv 1) λm=>cB 212 [b,m] a 70 (aZv k l t1 b g h f d i j c e a R)
def aZx b f e t1 h i g R c a:=ao 1 a b c λd=>aM a d λj=>aO .sub f (iv 1) λk=>cB 212 [e,k] a 66 (aZw f e j t1 h i b g c d a R)
def aZy e h t1 R b a:=rV (cO a e) λc=>aB 0 a c λd=>aM a d λf=>aJ a b λg=>cB 66 [f,g] a 60 (aZx b h e t1 c d a R)
def aZz f d t1 R t3 e a:=aU e (iv 2) λb=>ic b f λh=>aC b (bf h (iv 0)) λi=>ic b i λc=>fm c e λj=>az c (aO .geq j (iv 7)) λk=>aC b (aD c k (bv I)) λl=>aD b (bv U) l λm=>ah m (rV (cO a d) λn=>ab 0 a n λo=>cB 66 [o,(iv 4)] a 29 (aZq t1 R)) (aU e (iv 7) λp=>ah p (rV (cO a d) λq=>ab 0 a q λr=>aJ a t3 λs=>cB 66 [r,s] a 41 (aZt t3 t1 R)) (bf e (iv 7) λt=>ah t (cB 212 [d,(iv 0)] a 49 λu g=>eV (aX aRb 1 g [(0,u)]) (aZu t1 R)) (eV (aX bH 6 a [(0,(iv 6)),(1,(iv 7)),(2,(iv 8)),(3,(iv 11)),(4,(iv 13)),(5,(iv 17))]) (aZy d f t1 R))))
def aZr b c t1 R t3 a:=rV (cO a b) λd=>ab 0 a d λe=>cB 66 [e,(iv 10)] a 13 (aZz c b t1 R t3)
def aZs a b R t1 c:=eV (aX C9 7 c [(0,(sv [97])),(1,(sv [98])),(2,(sv [120])),(3,(sv [121])),(4,(sv [118])),(5,(sv [120])),(6,(sv [121]))]) (aZr a b t1 R)
def aUI a b s0 R:=eV (bs 217 aOP s0 4) (aZs a b R)
def bfJ{a b:AV}{s0:ae}{R:be}(h:aUI a b s0 R):EB 212 [a,b] s0 R:=zB a8P aNH Tryz.func212 h
def bgm{a:AV}{b:AV}{s0:ae}{R:be}(c:L s0=4096)(h:aUI a b s0 R):EB 212 [a,b] s0 R:=by refine bfJ ?_;exact h
def a8O:=bi 5 []
def aZm b R d a:=rV (cO a b) λe=>ab 7 a e λf=>rV (cO a b) λg=>ab 7 a g λh=>aJ a h λi=>aO .sub i (iv 1) λj=>rV (fo 1 a f J (V j) J) λk=>rV (cO a b) λl=>aB 7 a l λm=>sV (aK 1 a m k) λc=>fe R c [d]
def aZn a e R c b:=aV (iv 1) c λd=>cB 124 [a,e,d] b 26 (aZm a R)
def aZo b e R a:=rV (cO a b) λc=>ab 0 a c λd=>cB 66 [d,(iv 2)] a 24 (aZn b e R)
def aZp b c R d a:=rV (cO a b) λe=>aB 7 a e λf=>sV (aK 1 a f d) (aZo b c R)
def aUH a b c s0 R:=rV (cO s0 a) λt1=>ab 7 s0 t1 λt3=>eV (aX C9 1 s0 [(0,b)]) λt4 d=>eV (j5 9 zz9 16 d 15 t3 t4) (aZp a c R)
def bfI{a b c:AV}{s0:ae}{R:be}(h:aUH a b c s0 R):EB 216 [a,b,c] s0 R:=zB a8O aNH Tryz.func216 h
def bgl{a:AV}{b:AV}{c:AV}{s0:ae}{R:be}(d:L s0=4096)(h:aUH a b c s0 R):EB 216 [a,b,c] s0 R:=by refine bfI ?_;exact h
def a8R:=bi 47 [(13,([],[4,7]))]
def a8l d c e b g h t1 i R a:=dH [(lb I [(sv [120]),(sv [121]),(sv [120]),(sv [118])] []),km,(lb U [d,c] []),(bo e),km,(cq I b),(Qh [(.f 125 [] []),g,h]),(lb I [t1,i] [])] [(0,1),(0,4),(0,5),(1,5),(2,5),(3,5)] (aw 11 a t1 λj=>fe R a [j])
def aZK b t1 g f h e R c a:=fV aPN a [b,c] λd=>sV (aK 11 a t1 d) (a8l g f h e b c t1 d R)
def aZS b f t1 R c a:=ao 1 a c b λd=>aM a d λe=>cB 212 [f,(iv 1)] a 49 (aZK e t1 c b d a R)
def a8m n e g b d h i c j k t1 l R a:=dH [(lb I [(sv [97]),(sv [98])] []),km,(bo n),(bo e),(bo g),(cq I b),(lb U [d,h] []),(bo i),km,(cq I c),(Qh [(.f 125 [] []),j,k]),(lb I [t1,l] [])] [(0,1),(0,2),(0,3),(0,4),(0,5),(0,8),(5,8),(0,9),(6,9),(7,9)] (aw 11 a t1 λm=>fe R a [m])
def aZ3 b t1 l h i e g j k f R c a:=fV aPN a [b,c] λd=>sV (aK 11 a t1 d) (a8m l h i e g j k f b c t1 d R)
def aZ4 b e t1 g h f R c a:=ao 1 a b c λd=>aM a d λi=>cB 212 [e,(iv 1)] a 63 (aZ3 i t1 e g h f b c d a R)
def aZ5 d t1 R e a:=rV (cO a d) λb=>aB 0 a b λc=>aM a c λf=>cB 66 [f,(iv 2)] a 59 (aZ4 e d t1 b c a R)
def aZ6 c t1 R d b:=rV (bM A4 aon [(0,(iv 1)),(2,(sv [113])),(4,c),(5,d)]) λe=>sV (aK 11 b t1 e) λa=>aw 11 a t1 λf=>fe R a [f]
def aZ7 c t1 R b a:=cB 212 [c,(iv 1)] a 72 (aZ6 b t1 R)
def aUO c t1 R(f:eQ) b:=∀_:Rg,aw 11 b c λe=>sV (aK 11 b t1 e) λa=>aw 11 a t1 λd=>fe R a [d]
def aZA c(f:aG) d a:=aB 10 a c λe=>sV (aK 1 a e d) λb=>f [] b
def aZB h g c(b:aG) d a:=bf d (iv 1) λe=>ah e (aO .sub h (iv 1) λf=>cB 124 [g,f,(iv 1)] a 97 (aZA c b)) (b [] a)
def aZ8 a f g b e:=rV (cO a f) λc=>ab 0 a c λd=>cB 66 [d,(iv 2)] a 92 (aZB g f b e)
def aZC a t1 R c d b:=jV 13 (aUO a t1 R) (aZ8 b c d a)
def aZD d t1 R g h e b:=rV (bM A4 aon [(0,(iv 2)),(5,d),(6,e)]) λf=>eV (bs 219 A4 b 7) λa c=>sV (aK 11 c a f) (aZC a t1 R g h)
def aZE b a t1 R d c:=aO .sub b (iv 1) λe=>cB 124 [a,e,(iv 1)] c 86 (aZD d t1 R a b)
def aZF c t1 R a:=aw 11 a c λd=>sV (aK 11 a t1 d) λb=>aw 11 b t1 λe=>fe R b [e]
def aZG f c b t1 R a:=rV (cO a f) λd=>aB 6 a d λe=>sV (aK 1 a e c) (aZF b t1 R)
def aZH e h d t1 R f b:=rV (bM A4 aon [(0,(iv 3)),(5,e),(6,f)]) λg=>eV (bs 219 A4 b 9) λa c=>sV (aK 11 c a g) (aZG h d a t1 R)
def aZI d k c t1 R e a:=fV aQB a [(sv [98])] λf=>fV aQC a [(iv 1)] λg=>fV aRg a [(iv 6),f,g] λh=>fV aPN a [(sv [98]),h] λi=>eV (aX aNA 1 a [(0,i)]) λj b=>eV (j5 219 A4 176 b 126 e j) (aZH d k c t1 R)
def aZJ h g b t1 R a:=fV aQB a [(sv [98])] λc=>fV aQC a [(iv 2)] λd=>fV aRg a [(iv 13),c,d] λe=>aO .sub h (iv 1) λf=>cB 124 [g,f,(iv 1)] a 120 (aZI e g b t1 R)
def aUL c t1 R d b:=rV (bM A4 aon [(0,(iv 4)),(2,c),(6,d)]) λe=>sV (aK 11 b t1 e) λa=>aw 11 a t1 λf=>fe R a [f]
def aUM g i h t1 R c a:=aO .sub g (iv 8) λd=>ao 1 a c d λe=>aM a e λb=>aO .sub i (iv 1) λf=>cB 216 [h,b,f] a 163 (aUL b t1 R)
def aUN c t1 R d b:=rV (bM A4 aon [(0,c),(2,(sv [114])),(6,d)]) λe=>sV (aK 11 b t1 e) λa=>aw 11 a t1 λf=>fe R a [f]
def aZL c t1 R a:=aw 11 a c λd=>sV (aK 11 a t1 d) λb=>aw 11 b t1 λe=>fe R b [e]
def aZM e b t1 R a:=rV (cO a e) λc=>aB 4 a c λd=>sV (aK 1 a d (bv I)) (aZL b t1 R)
def aZN f t1 R d b:=rV (bM A4 aon [(0,(iv 7)),(6,d)]) λe=>eV (bs 219 A4 b 11) λa c=>sV (aK 11 c a e) (aZM f a t1 R)
def aZO d t1 R b a:=aV (iv 1) b λc=>cB 124 [d,(iv 0),c] a 204 (aZN d t1 R)
def aZP d t1 R a:=rV (cO a d) λb=>ab 0 a b λc=>cB 66 [c,(iv 2)] a 202 (aZO d t1 R)
def aZQ c t1 R a:=aw 11 a c λd=>sV (aK 11 a t1 d) λb=>aw 11 b t1 λe=>fe R b [e]
def aZR e b t1 R a:=rV (cO a e) λc=>aB 5 a c λd=>sV (aK 1 a d (bv I)) (aZQ b t1 R)
def aZT f t1 R d b:=rV (bM A4 aon [(0,(iv 8)),(6,d)]) λe=>eV (bs 219 A4 b 12) λa c=>sV (aK 11 c a e) (aZR f a t1 R)
def aZU d c t1 R a:=aO .sub d (iv 1) λb=>cB 124 [c,b,(iv 2)] a 229 (aZT c t1 R)
def aZV t1 R c b:=rV (bM A4 aon [(0,(iv 4)),(2,(sv [109])),(6,c)]) λd=>sV (aK 11 b t1 d) λa=>aw 11 a t1 λe=>fe R a [e]
def aZW t1 R c b:=rV (bM A4 aon [(0,(iv 4)),(2,(sv [109])),(6,c)]) λd=>sV (aK 11 b t1 d) λa=>aw 11 a t1 λe=>fe R a [e]
def aZX t1 R b a:=aV (iv 10) b λc=>rV (bM A4 aon [(0,c),(2,(sv [99]))]) λd=>eV (aX aNA 1 a [(0,d)]) (aZW t1 R)
def aZY t1 R c b:=rV (bM A4 aon [(0,(iv 14)),(2,(sv [102])),(5,c)]) λd=>sV (aK 11 b t1 d) λa=>aw 11 a t1 λe=>fe R a [e]
def aZZ b t1 R a:=cB 212 [b,(iv 1)] a 306 (aZY t1 R)
def aSs t1 R c a:=fV aPN a [(sv [120]),c] λd=>sV (aK 11 a t1 d) λb=>aw 11 b t1 λe=>fe R b [e]
def aZ0 t b t1 R c e:=aO .gtr t (iv 0) λu=>fm u b λci=>az u (rV (cO e ci)) λck=>aT u 2 e ck λcl=>az u (aO .gtr cl (iv 0)) λcm=>aD u cm (bv I) λv=>fm v b λcn=>az v (rV (cO e cn)) λco=>aT v 4 e co λcp=>az v (cf cp) λcq=>aD v cq (bv I) λo=>aU c (iv 4) λcr=>ah cr (eV (aX C9 4 e [(0,(sv [120])),(1,(sv [121])),(2,(sv [120])),(3,(sv [118]))]) (aZS c b t1 R)) (bf c (iv 4) λcs=>ah cs (eV (aX C9 2 e [(0,(sv [97])),(1,(sv [98]))]) (aZ5 b t1 R)) (bf c (iv 5) λct=>ah ct (cB 212 [b,(iv 0)] e 69 λcu ch=>eV (aX aRb 1 ch [(0,cu)]) (aZ7 b t1 R)) (bf c (iv 6) λK=>fm K t λcv=>az K (aO .gtr cv (iv 0)) λcw=>aD K cw (bv I) λcx=>ah cx (cB 212 [b,(iv 1)] e 82 (aZE t b t1 R)) (bf c (iv 7) λx=>fm x t λae=>az x (aO .gtr ae (iv 0)) λaf=>aD x af (bv I) λag=>ah ag (rV (cO e b) λak=>ab 6 e ak λal=>rV (cO e b) λam=>aB 6 e am λan=>sV (aK 1 e an (bv U)) (aZJ t b al t1 R)) (bf c (iv 8) λy=>ic y c λap=>aC y (bf ap (iv 9)) λaq=>aD y (bv U) aq λC=>fm C o λar=>aD C ar (bv I) λf=>fm f b λau=>gE (gP U f) (λM=>eV (aX C9 2 e [(0,(sv [109])),(1,(sv [110]))]) λav W=>M av W) e λax p=>fm f c λay=>az f (aO .sub ay (iv 8)) λaA=>az f (ao 1 p ax aA) λaE=>az f (aM p aE) λaF=>gE (gP U f) (λN=>cB 215 [au,aF] p 150 λaG X=>N aG X) p λaI w=>az f (cf aI) λaJ=>aD f aJ (bv I) λaL=>ah aL (eV (aX C9 2 w [(0,(sv [109])),(1,(sv [110]))]) (aUM c t b t1 R)) (bf c (iv 10) λz=>ic z c λaN=>aC z (bf aN (iv 11)) λaP=>aD z (bv U) aP λD=>fm D o λaQ=>aD D aQ (bv I) λq=>fm q b λaR=>gE (gP U q) (λO=>cB 215 [aR,(sv [114])] w 177 λaW Z=>O aW Z) w λaY d=>az q (cf aY) λaZ=>aD q aZ (bv I) λa2=>ah a2 (aO .sub c (iv 10) λa3=>aV a3 (iv 5) λa4=>aO .sub t (iv 1) λa5=>cB 216 [b,(sv [114]),a5] d 186 (aUN a4 t1 R)) (bf c (iv 12) λE=>fm E o λa6=>aD E a6 (bv I) λa7=>ah a7 (rV (cO d b) λa8=>aB 4 d a8 λa9=>sV (aK 1 d a9 (bv U)) (aZP b t1 R)) (bf c (iv 13) λF=>fm F o λba=>aD F ba (bv I) λi=>fm i b λbb=>az i (rV (cO d bb)) λbc=>aT i 5 d bc λbd=>az i (cf bd) λbe=>aD i be (bv I) λbg=>ah bg (rV (cO d b) λbi=>aB 5 d bi λbj=>sV (aK 1 d bj (bv U)) (aZU t b t1 R)) (bf c (iv 14) λG=>fm G o λbk=>aD G bk (bv I) λj=>fm j b λbl=>az j (rV (cO d bl)) λbm=>aT j 5 d bm λbn=>az j (cf bn) λbo=>aD j bo (bv I) λr=>fm r b λbp=>gE (gP U r) (λP=>cB 215 [bp,(sv [109])] d 250 λbq aa=>P bq aa) d λbr h=>az r (cf br) λbs=>aD r bs (bv I) λbt=>ah bt (rV (bM A4 aon [(0,(iv 9)),(2,(sv [99]))]) λbu=>fV aQB h [(sv [120])] λbw=>fV aPN h [(sv [97]),bw] λbx=>eV (aX aNA 2 h [(0,bu),(1,bx)]) (aZV t1 R)) (bf c (iv 15) λH=>fm H o λbz=>aD H bz (bv I) λs=>fm s b λbA=>gE (gP U s) (λS=>cB 215 [bA,(sv [109])] h 266 λbB ac=>S bB ac) h λbC a=>az s (cf bC) λbD=>aD s bD (bv I) λbF=>ah bF (rV (cO a b) λbG=>ab 0 a bG λbH=>cB 66 [bH,(iv 2)] a 273 (aZX t1 R)) (bf c (iv 16) λk=>fm k b λbI=>az k (rV (cO a bI)) λbK=>aT k 4 a bK λbL=>az k (cf bL) λbO=>aD k bO (bv I) λl=>fm l b λbQ=>az l (rV (cO a bQ)) λbR=>aT l 6 a bR λbS=>az l (cf bS) λbT=>aD l bT (bv I) λm=>fm m b λbU=>az m (rV (cO a bU)) λbV=>aT m 3 a bV λbW=>az m (cf bW) λbY=>aD m bY (bv I) λb0=>ah b0 (rV (cO a b) λb1=>aB 3 a b1 λb2=>sV (aK 1 a b2 (bv U)) (aZZ b t1 R)) (bf c (iv 17) λn=>fm n b λb3=>az n (rV (cO a b3)) λb4=>aT n 4 a b4 λb5=>az n (cf b5) λb6=>aD n b6 (bv I) λg=>fm g b λb7=>az g (rV (cO a b7)) λb8=>aT g 0 a b8 λb9=>gE (gP U g) (λT=>cB 66 [b9,(iv 2)] a 323 λca ad=>T ca ad) a λcb A=>az g (bf cb (iv 1)) λcc=>aD g cc (bv I) λcd=>ah cd (rV (bM A4 aon [(0,(iv 15)),(2,(sv [97])),(3,(sv [102]))]) λce=>sV (aK 11 A t1 ce) λB=>aw 11 B t1 λcg=>fe R B [cg]) (cB 212 [b,(iv 1)] A 328 (aSs t1 R))))))))))))))
def aZ1 b e t1 R a:=rV (cO a b) λc=>ab 0 a c λd=>cB 66 [d,(iv 18)] a 24 (aZ0 e b t1 R)
def aZ2 b c R t1 a:=rV (cO a b) λt3=>ab 2 a t3 λd=>aO .sub d (iv 1) λe=>rV (cO a b) λf=>aB 2 a f λg=>sV (aK 1 a g e) (aZ1 b c t1 R)
def aUK a b s0 R:=eV (bs 219 A4 s0 4) (aZ2 a b R)
def bfL{a b:AV}{s0:ae}{R:be}(h:aUK a b s0 R):EB 179 [a,b] s0 R:=zB a8R aNH Tryz.func179 h
def bgp{a:AV}{b:AV}{s0:ae}{R:be}(c:L s0=4096)(h:aUK a b s0 R):EB 179 [a,b] s0 R:=by refine bfL ?_;exact h
def a8S:=bi 9 [(4,([7,8],[0,1,2]))]
def aZ9 d(e:aG)(m1:bu) f b a:=aV (gt d 1) (iv 1) λc=>e [b,c] a/\m1 [b,c] a<m1 d f
def aUQ a f m1 g d b:=eV (aX aNA 1 b [(0,d)]) λe c=>eV (j5 219 A4 176 c 30 (gt a 0) e) (aZ9 a f m1 g)
def aRp m d l R k m1 b c:=∀_:Rg,aU (gt b 1) m λt3=>fm t3 (gt b 1) λn=>az t3 (bf n (iv 0)) λo=>fm t3 o λa=>ic a d λe=>aC a (rV (cO c e)) λf=>bn a 2 c f λg=>aC a (aO .gtr g (iv 0)) λh=>az t3 (aD a (bv U) h) λi=>aD t3 i (bv I) λj=>ah j (cB 179 [d,l] c 28 (aUQ b k m1 c)) (fe R c [(gt b 0)])
def aUP a b c s0 R:=lV [(.l [] U U),(iv 0)] s0 (aRp c a b R)
def bfM{a b c:AV}{s0:ae}{R:be}(h:aUP a b c s0 R):EB 124 [a,b,c] s0 R:=zB a8S aNH Tryz.func124 h
def bgq{a:AV}{b:AV}{c:AV}{s0:ae}{R:be}(d:L s0=4096)(h:aUP a b c s0 R):EB 124 [a,b,c] s0 R:=by refine bfM ?_;exact h
end
structure Tp(Y:ae)(b:Id)(l:List Int)(at':Nat):Prop where
 bx:box Y b=V ⟨80,2,U,U,[[sl cu l,iv at']]⟩
 le:at'<=L l
 ok:∀x∈l,0<=x/\x<256
 ll:L l<4611686018427387904
theorem Tp.fx{Y Y':ae}{b:Id}{l:List Int}{a:Nat}{ks:List Id}(T:Tp Y b l a)(F:Fx Y Y' ks)(h:b∉ks):Tp Y' b l a:=⟨F.keep _ _ h T.bx,T.le,T.ok,T.ll⟩
def a6S{Y:ae}{l:List Int}:fS Y (sl cu l)=V (iv (L l)):=cT
def aWF{Y:ae}{b:Id}{l:List Int}{a:Nat}(q:L Y=4096)(T:Tp Y b l a)(n:Int):∃r Y1,(∃(x:Int) (f:Nat),r=iv x/\0<=x/\(1<=n->x<n)/\Tp Y1 b l f/\a<=f/\(a<L l->1<=n->f=a+1)/\Fx Y Y1 [b])/\cZ aS GG 66 [.p b 0 0,iv n] Y r Y1:=by refine bgg q ?_;have i:=T.bx;have u:=T.ll;simp+contextual only[aUF,oo i,u0,u1,i,yr,C5,yd,aj,↓uL];refine⟨λh=>?_,λh=>?_⟩;refine⟨0,a,rfl,by omega,λh=>by omega,T,by omega,λh1 h2=>?_,Fx.refl _ _⟩;simp at h;omega;simp only[cP,nl] at h;have c:a<L l:=(by omega);rw[fX (by omega)];refine A0 i rfl (by simp) λY1 j g=>?_;have s:=T.ok _ (dB c);simp only[aZc,oo g,u0,u1,g,yr,C5,yd,aj,List.set_cons_succ,List.set_cons_zero,a6E,cu,qM,aS6,aPR,aP1,↓uL];have k:dq.wrap (((a+1:Nat):Int)-1)=(a:Int):=(by rw[eM (by omega) (by omega)];omega);rw[k,bh,eM (x:=gd l a) (by omega) (by omega)];refine⟨dJ c,by omega,_,a+1,rfl,Int.tmod_nonneg _ s.1,λh1=>Int.tmod_lt_of_pos _ (by omega),⟨g,c,T.ok,T.ll⟩,by omega,λ_ _=>rfl,j⟩
def a55{Y:ae}{b:Id}{l:List Int}{a:Nat}(q:L Y=4096)(T:Tp Y b l a){n:Int}{d:Nat}{K:be}(k:∀(x:Int) (c:Nat) Y1,0<=x->(1<=n->x<n)->Tp Y1 b l c->a<=c->(a<L l->1<=n->c=a+1)->Fx Y Y1 [b]->K (iv x) Y1):cB 66 [.p b 0 0,iv n] Y d K:=by refine jH rfl (aWF q T n) ?_;rintro r Y1 ⟨x,c,rfl,h1,h2,g,i,j,f⟩;exact⟨f.len,k x c Y1 h1 h2 g i j f⟩
structure qa(Y:ae)(m b:Id)(hs:List ByteArray)(h:AV):Prop where
 mx:∃(th lf:Int) (s tx at' lp:Bool),box Y m=V ⟨213,8,U,U,[[.p b 0 0,iv th,iv lf,bv s,bv tx,bv at',bv lp,h]]⟩
 tp:∃l a,Tp Y b l a
 gh:gm Y 9 1 h (hs.map cs)
 le:L Y=4096
 sm:m.1=16
 sb:b.1=14
 sh:∀q∈aA h,q.1=15
section
variable{Y Y':ae}{m b:Id}{hs:List ByteArray}{h:AV}{d:Nat}{K:be}
def qa.ne(M:qa Y m b hs h):m≠b:=λe=>by have h1:=M.sm;have h2:=M.sb;rw[<-e] at h2;omega
theorem qa.fx{ks:List Id}(M:qa Y m b hs h)(F:Fx Y Y' ks)(h1:m∉ks)(h2:b∉ks)(f:∀q∈aA h,q∉ks):qa Y' m b hs h:=by obtain⟨k,i,s,tx,c,j,g⟩:=M.mx;obtain⟨l,a,T⟩:=M.tp;exact⟨⟨k,i,s,tx,c,j,F.keep _ _ h1 g⟩,⟨l,a,T.fx F h2⟩,M.gh.fx F f,F.len.trans M.le,M.sm,M.sb,M.sh⟩
def qa.fx0(M:qa Y m b hs h)(F:Fx Y Y' []):qa Y' m b hs h:=M.fx F (by simp) (by simp) (by simp)
def qa.nb(M:qa Y m b hs h):∀q∈aA h,q∉[b]:=λq a e=>by have:=M.sh q a;have:=M.sb;simp at e;subst e;omega
def qa.nm(M:qa Y m b hs h):∀q∈aA h,q∉[m]:=λq a e=>by have:=M.sh q a;have:=M.sm;simp at e;subst e;omega
def aO4(M:qa Y m b hs h){n:Int}(i:∀(x:Int) Y1,0<=x->(1<=n->x<n)->qa Y1 m b hs h->Fx Y Y1 [b]->K (iv x) Y1):cB 66 [.p b 0 0,iv n] Y d K:=by obtain⟨r,k,s,tx,c,q,j⟩:=M.mx;obtain⟨l,a,T⟩:=M.tp;refine a55 M.le T λx f Y1 h1 h2 g _ _ F=>i x Y1 h1 h2 ⟨⟨r,k,s,tx,c,q,F.keep _ _ (by simpa using M.ne) j⟩,⟨l,f,g⟩,M.gh.fx F M.nb,F.len.trans M.le,M.sm,M.sb,M.sh⟩ F
def aPJ(M:qa Y m b hs h){j:Nat}{x:AV}{K:ae->Prop}(q:(j=1\/j=2)/\(∃n:Int,x=iv n)\/(3<=j/\j<=6)/\∃u:Bool,x=bv u)(r:∀Y1,qa Y1 m b hs h->Fx Y Y1 [m]->K Y1):sV (aK 1 Y (.p m 0 j) x) K:=by obtain⟨k,g,s,tx,c,i,v⟩:=M.mx;obtain⟨l,a,T⟩:=M.tp;have w:eY x=V [x]:=(by rcases q with⟨_,n,rfl⟩|⟨_,u,rfl⟩<;>rfl);refine A0 v w (by simp;omega) λY1 F f=>r Y1 ⟨?_,⟨l,a,T.fx F (by simpa using M.ne.symm)⟩,M.gh.fx F M.nm,F.len.trans M.le,M.sm,M.sb,M.sh⟩ F;rcases q with⟨h1|h1,n,rfl⟩|⟨h1,u,rfl⟩;subst h1;exact⟨n,g,s,tx,c,i,f⟩;subst h1;exact⟨k,n,s,tx,c,i,f⟩;obtain rfl|rfl|rfl|rfl:j=3\/j=4\/j=5\/j=6:=(by omega);exact⟨k,g,u,tx,c,i,f⟩;exact⟨k,g,s,u,c,i,f⟩;exact⟨k,g,s,tx,u,i,f⟩;exact⟨k,g,s,tx,c,u,f⟩
def bdh(M:qa Y m b hs h)(g:L hs<1000)(s:ByteArray):∃r Y1,((∃v,r= .s v/\∃u:Bool,v= .bool u)/\Fx Y Y1 [])/\cZ aS GG 215 [.p m 0 0,st s] Y r Y1:=by refine bgo M.le ?_;obtain⟨k,i,s,tx,f,j,a⟩:=M.mx;have c:dG Y h=sl cs hs:=M.gh.ar;simp only[aUJ,oo a,u0,u1,a,yr,C5,yd,aj,jM,kU,jt,c,tW,aD6,AL,lS,↓uL];exact⟨by omega,⟨_,rfl,_,rfl⟩,Fx.refl _ _⟩
def aQP(M:qa Y m b hs h)(c:L hs<1000){s:ByteArray}(a:∀u:Bool,K (bv u) Y):cB 215 [.p m 0 0,st s] Y d K:=aV6 rfl (bdh M c s) (by rintro v ⟨u,rfl⟩;exact a u)
def isE(k:Nat)(r:AV):Prop:=∃(e:fc) (t o:Bool),C6 k e/\r= .a [iv e.op,iv e.n,st e.name, .l (e.l.map fc.c) t o]
theorem isE.mono{k n:Nat}{r:AV}(h:isE k r)(a:k<=n):isE n r:=by obtain⟨e,t,o,h1,h2⟩:=h;exact⟨e,t,o,h1.mono a,h2⟩
def ExR(Y:ae)(m b:Id)(hs:List ByteArray)(h:AV)(k:Nat)(r:AV)(Y1:ae):Prop:=isE k r/\qa Y1 m b hs h/\Fx Y Y1 [b]
def aTx{q:Id}{T:TypeId}{z:Nat}{r cs:List AV}{R:be}(i:box Y q=V ⟨T,z,U,U,[r]⟩)(j:L r=z)(c:L cs=z)(g:∀Y1,Fx Y Y1 [q]->R (.a cs) Y1):sV (aK z Y (.p q 0 0) (.a cs)) λs=>rV (kb (V z) s (.p q 0 0)) λt=>fe R s [t]:=by refine qr i j c λY1 F f=>?_;have:kb (V z) Y1 (.p q 0 0)=V (.a cs):=(by simp[kb,iE,f,aN,<-c]);rw[this];exact g Y1 F
def baK{Y:ae}:aX C9 7 Y [(0,(sv [97])),(1,(sv [98])),(2,(sv [120])),(3,(sv [121])),(4,(sv [118])),(5,(sv [120])),(6,(sv [121]))]=V (.l ([⟨#[97]⟩,⟨#[98]⟩,⟨#[120]⟩,⟨#[121]⟩,⟨#[118]⟩,⟨#[120]⟩,⟨#[121]⟩].map cs) U U,Y):=by kernel_rfl
def baN{Y:ae}:aX bH 6 Y [(0,(iv 6)),(1,(iv 7)),(2,(iv 8)),(3,(iv 11)),(4,(iv 13)),(5,(iv 17))]=V (.l ([6,7,8,11,13,17].map ci) U U,Y):=by kernel_rfl
def aSY{e:fc}{t o:Bool}:dG Y (.a [iv e.op,iv e.n,st e.name, .l (e.l.map fc.c) t o])= .a e.c:=by rw[aoH];rfl
def aXO{x:Value}{c d:List AV}{r:AV}(h:eB (.a c)=[])(f:eB (.a d)=[]):lo Y [.s x, .a c, .a d] r=True:=by have e:eB (.s x)=[]:=rfl;simp[lo,nA,h,f,e]
def aXP{x:Value}{c:List AV}{r:AV}(h:eB (.a c)=[]):lo Y [.s x, .a c] r=True:=by have e:eB (.s x)=[]:=rfl;simp[lo,nA,h,e]
def a6T{x:Value}{r:AV}:lo Y [.s x] r=True:=by simp[lo,nA,eB,iR]
def aWC{k:Nat}{e:fc}(h:C6 k e):isE k (.a e.c):=⟨e,I,I,h,by rw[aoH];rfl⟩
def a6K{n:Nat}(hn:n<=1)(ih:n=1->∀{Y:ae},qa Y m b hs h->∃r Y1,ExR Y m b hs h 1 r Y1/\cZ aS GG 212 [.p m 0 0,iv 0] Y r Y1)(M:qa Y m b hs h):
  ∃r Y1,ExR Y m b hs h (n+1) r Y1/\cZ aS GG 212 [.p m 0 0,iv n] Y r Y1:=by
 obtain⟨m1,H⟩:=m
 obtain rfl:m1=16:=M.sm
 obtain⟨b1,A⟩:=b
 obtain rfl:b1=14:=M.sb
 refine bgm M.le ?_
 simp only[aUI]
 refine so M.le λv s1 Z N1 q1=>?_
 simp only[aZs,baK,bQ]
 have M1:=M.fx0 Z
 obtain⟨th,lf,s,tx,ad,lp,R⟩:=M1.mx
 simp only[aZr,oo R,u0,u1,R,yr,yd,aj,↓uL]
 refine aO4 M1 λx s2 h1 h2 E F2=>?_
 have h2:=h2 (by decide)
 obtain⟨th,lf,s,tx,ad,lp,D⟩:=E.mx
 have P:=F2.kq q1
 have N:Fx Y s2 [(14,A)]:=(Z.trans F2).mono (by simp)
 have C:∀{g i:ae} {r:AV},isE (n+1) r->qa g (16,H) (14,A) hs h->Fx Y g [(14,A)]->Fx g i [(4,v)]->ExR Y (16,H) (14,A) hs h (n+1) r i:=λF k f j=>
  ⟨F,k.fx j (by simp) (by simp) (λq O e=>by have:=M.sh q O;simp at e;subst e;simp at this),(f.trans j).mono (λq O=>by
   simp only[dF,cE] at O⊢
   rcases O with h|h
   ·exact .inl h
   ·subst h;exact .inr N1.no)⟩
 have T:∀{g:ae} {d:Nat} {K:be},n=1->qa g (16,H) (14,A) hs h->(∀r i,isE 1 r->qa i (16,H) (14,A) hs h->Fx g i [(14,A)]->K r i)->cB 212 [.p (16,H) 0 0,iv 0] g d K:=λh1 k hK=>by
  refine jH rfl (ih h1 k) ?_
  rintro r i ⟨g1,w,g3⟩
  exact⟨g3.len,hK r i g1 w g3⟩
 simp+contextual only[aZz,oo D,u0,u1,D,yr,yd,aj,gT,↓uL]
 refine⟨λ_=>?_,λhc=>⟨λ_=>?_,λh7=>⟨λW=>?_,λW=>?_⟩⟩⟩
 ·refine aO4 E λy g g1 w k f=>?_
  have B:=f.kq P
  simp only[aZq,jM,kU,jt,tW,aD6,a6T,lS,↓uL]
  exact aTx B rfl aN9 λi j=>C (aWC ⟨.inl ⟨.inl rfl,rfl⟩,by simp[fc.l]⟩) k ((N.trans f).mono (by simp)) j
 ·refine aO4 E λy g g1 w k f=>?_
  have B:=f.kq P
  have w:=w (by decide)
  simp only[aZt,amZ,u0,u1,rk,gw,jM,kU,jt,tW,aD6,a6T,lS,↓uL]
  exact⟨⟨g1,w⟩,aTx B rfl aN9 λi j=>C (aWC ⟨.inl ⟨.inr rfl,rfl⟩,by simp[fc.l]⟩) k ((N.trans f).mono (by simp)) j⟩
 ·have u:n=1:=by simp at hc h7 W;omega
  refine T u E λr g F k f=>?_
  have B:=f.kq P
  obtain⟨e,t,o,X,rfl⟩:=F
  have al:aX aRb 1 g [(0, .a [iv e.op,iv e.n,st e.name, .l (e.l.map fc.c) t o])]=V (.l [e.c] U U,g):=aQm (by rw[aoH];rfl) aN9 (by decide) (by rw[aoH];rfl) (by decide)
  simp only[al,bQ,aZu,↓uL]
  have ak:bM aOP alz [(0,(iv 3)),(2,(sv [113])),(3, .l [e.c] U U)]=V (.a [iv 3,iv 0,sv [113], .l [e.c] U U]):=rfl
  simp only[ak,aY]
  refine aTx B rfl rfl λi j=>C ⟨fc.mk 3 0 ⟨#[113]⟩ [e],U,U,⟨.inr (.inl ⟨rfl,rfl,rfl⟩),?_⟩,rfl⟩ k ((N.trans f).mono (by simp)) j
  intro y G
  simp only[fc.l,cE] at G
  subst G
  subst u
  exact X
 ·have u:n=1:=by simp at hc h7 W;omega
  have e0:dq.wrap ((n:Int)-1)=0:=by subst u;rfl
  simp only[baN,bQ,aZy,oo D,u0,u1,D,yr,yd,aj,gT,↓uL]
  refine aO4 E λy g g1 w k f=>?_
  have w:=w (by decide)
  have B:=f.kq P
  simp only[aZx,tf,u0,u1,rk,gw,e0,↓uL]
  refine⟨⟨g1,w⟩,T u k λr i F M4 j=>?_⟩
  have q4:=j.kq B
  simp only[aZw,u0,u1,e0,↓uL]
  refine T u M4 λr' s5 ao M5 F5=>?_
  have q5:=F5.kq q4
  obtain⟨e,t,o,X,rfl⟩:=F
  obtain⟨e',t',o',an,rfl⟩:=ao
  have S:6<=gd [(6:Int),7,8,11,13,17] y.toNat:=by
   have:∀z∈[(6:Int),7,8,11,13,17],6<=z:=by decide
   exact this _ (dB (by simp;have:([(6:Int),7,8,11,13,17].length:Int)=6:=rfl;omega))
  generalize gd [(6:Int),7,8,11,13,17] y.toNat=op at S
  simp only[aZv,jM,kU,jt,tW,aSY,aD6]
  rw[aXO rfl rfl]
  refine⟨trivial,qr q5 rfl aN9 λs6 F6 b6=>?_⟩
  refine dT (by simp[eL,lb,cq,Qh,cD,dC,dK]) ?_
  have:kb (V 4) s6 (.p (4,v) 0 0)=V (.a (fc.mk op 0 ⟨#[]⟩ [e,e']).c):=by simp only[aC5,b6,aww,aBF,df,axE,awx,a69]
  rw[art,this]
  refine C (aWC ⟨.inr (.inr ⟨S,rfl⟩),?_⟩) M5 ((((N.trans f).trans j).trans F5).mono (by simp)) F6
  subst u
  intro y G
  simp only[fc.l,eW,ql,y6] at G
  rcases G with rfl|rfl
  ·exact X
  ·exact an
def a6J(M:qa Y m b hs h):∃r Y1,ExR Y m b hs h 1 r Y1/\cZ aS GG 212 [.p m 0 0,iv 0] Y r Y1:=a6K (n:=0) (by omega) (λh=>by omega) M
def bdg(M:qa Y m b hs h):∃r Y1,ExR Y m b hs h 2 r Y1/\cZ aS GG 212 [.p m 0 0,iv 1] Y r Y1:=a6K (n:=1) (by omega) (λ_ {Y} M=>a6J M) M
def baU(M:qa Y m b hs h)(f:∀r Y1,isE 2 r->qa Y1 m b hs h->Fx Y Y1 [b]->K r Y1):cB 212 [.p m 0 0,iv 0] Y d K:=by refine jH rfl (a6J M) ?_;rintro r g ⟨g1,c,a⟩;exact⟨a.len,f r g (g1.mono (by omega)) c a⟩
def aQO(M:qa Y m b hs h)(f:∀r Y1,isE 2 r->qa Y1 m b hs h->Fx Y Y1 [b]->K r Y1):cB 212 [.p m 0 0,iv 1] Y d K:=by refine jH rfl (bdg M) ?_;rintro r g ⟨g1,c,a⟩;exact⟨a.len,f r g g1 c a⟩
structure RH(m b:Id)(Y:ae)(h:AV)(Y1:ae)(h1:AV):Prop where
 f:Fx Y Y1 (m::b::aA h)
 i:∀q∈aA h1,q∈aA h\/bK Y q
section
variable{Y2 Y1:ae}{h1 h2:AV}
theorem RH.refl:RH m b Y h Y h:=⟨Fx.refl _ _,λ_ g=> .inl g⟩
theorem RH.trans(H:RH m b Y h Y1 h1)(j:RH m b Y1 h1 Y2 h2):RH m b Y h Y2 h2:=by refine⟨(H.f.trans j.f).mono λq c=>?_,λq c=>(j.i q c).elim (H.i q) λg=> .inr (g.old H.f)⟩;rcases dF.1 c with g|g;exact .inl g;rcases eW.1 g with g|g;exact .inl (by simp[g]);rcases eW.1 g with g|g;exact .inl (by simp[g]);rcases H.i q g with a|a;exact .inl (by simp[a]);exact .inr a.no
def RH.of{ks:List Id}(F:Fx Y Y1 ks)(a:∀q∈ks,q=m\/q=b\/bK Y q):RH m b Y h Y1 h:=⟨F.mono λq c=>by
 rcases a q c with rfl|rfl|g
 ·exact .inl (by simp)
 ·exact .inl (by simp)
 ·exact .inr g.no,λ_ g=> .inl g⟩
def RH.ofb(F:Fx Y Y1 [b]):RH m b Y h Y1 h:= .of F (by simp)
def RH.ofm(F:Fx Y Y1 [m]):RH m b Y h Y1 h:= .of F (by simp)
def RH.of0(F:Fx Y Y1 []):RH m b Y h Y1 h:= .of F (by simp)
def RH.new(H:RH m b Y h Y1 h1){q:Id}(F:Fx Y1 Y2 [q])(c:bK Y q):RH m b Y h Y2 h1:=
 ⟨(H.f.trans F).mono λp a=>by
  rcases dF.1 a with g|g
  ·exact .inl g
  ·simp at g;subst g;exact .inr c.no,H.i⟩
def qa.out(M:qa Y m b hs h):∀q:Id,q.1≠14->q.1≠15->q.1≠16->q∉m::b::aA h:=λq g1 a c f=>by
 rcases eW.1 f with g|g
 ·subst g;exact c M.sm
 rcases eW.1 g with g|g
 ·subst g;exact g1 M.sb
 ·exact a (M.sh q g)
end
def aTj{x:eo}:eB (.a x.c)=[]:=by rw[apT];rfl
def aYy{a:ae}{x:eo}:Lv a Y x.c x.c:=⟨by rw[apT];rfl,by rw[aTj];simp⟩
def aPq{i:ae}{op:Int}{nm j:ByteArray}{index:List fc}{e:fc}{t o v o':Bool}{a f:AV}{body els:List eo}(p:gm Y 219 11 a (body.map eo.c))(r:gm Y 219 11 f (els.map eo.c))(s:∀q∈aA a,bK i q)(u:∀q∈aA f,bK i q):Lv i Y [iv op,iv 0,st nm,st j, .l (index.map fc.c) v o',iv e.op,iv e.n,st e.name, .l (e.l.map fc.c) t o,a,f] (eo.mk op 0 nm j index e body els).c:=by refine⟨?_,λq k=>?_⟩;rw[apT];simp only[ji,mU,aOb p,aOb r,aQ5,aXQ];rfl;simp only[eB,Cz,RN,iR,dW,cL,dF] at k;rcases k with g|g;(exact s q (by cases a<;>first|exact g|simp[iR] at g));exact u q (by cases f<;>first|exact g|simp[iR] at g)
def aPB{op:Int}{nm k:ByteArray}{index:List fc}{e:fc}{t o s o':Bool}{f i:AV}{P:Id->Prop}(p:∀q∈aA f,P q)(r:∀q∈aA i,P q):∀q∈eB (.a [iv op,iv 0,st nm,st k, .l (index.map fc.c) s o',iv e.op,iv e.n,st e.name, .l (e.l.map fc.c) t o,f,i]),P q:=λq j=>by
 simp only[eB,Cz,RN,iR,dW,cL,dF] at j
 rcases j with g|g
 ·exact p q (by cases f<;>first|exact g|simp[iR] at g)
 ·exact r q (by cases i<;>first|exact g|simp[iR] at g)
def SmR(Y:ae)(m b:Id)(hs:List ByteArray)(h:AV)(d:Nat)(r:AV)(Y1:ae):Prop:=∃cs x f,r= .a cs/\Lv Y Y1 cs (eo.c x)/\(∀q∈eB (.a cs),q.1=30\/q.1=126)/\A5 (d+1) x/\qa Y1 m b hs f/\RH m b Y h Y1 f
def SsR(Y:ae)(m b:Id)(hs:List ByteArray)(h:AV)(d:Nat)(n:Int)(r:AV)(Y1:ae):Prop:=∃(l:List eo) (a:AV),gm Y1 219 11 r (l.map eo.c)/\L l<=n/\(∀x∈l,A5 (d+1) x)/\(∀q∈aA r,bK Y q/\q.1=30)/\qa Y1 m b hs a/\RH m b Y h Y1 a
def aQH(m b:Id)(d:Nat):Prop:=∀{Y:ae} {hs:List ByteArray} {h:AV} {n:Int},qa Y m b hs h->L hs+d<=500->0<=n->n<=3->∃r Y1,SsR Y m b hs h d n r Y1/\cZ aS GG 124 [.p m 0 0,iv d,iv n] Y r Y1
def aQQ{D:Nat}(C:aQH m b D)(M:qa Y m b hs h)(B:L hs+D<=500){i n:Int}(A:i=D)(w:0<=n)(y:n<=3)(z:∀(a:AV) (l:List eo) (g:AV) Y1,gm Y1 219 11 a (l.map eo.c)->(L l:Int)<=n->(∀x∈l,A5 (D+1) x)->(∀q∈aA a,bK Y q/\q.1=30)->qa Y1 m b hs g->RH m b Y h Y1 g->K a Y1):cB 124 [.p m 0 0,iv i,iv n] Y d K:=by subst A;refine jH rfl (C M B w y) ?_;rintro r Y1 ⟨l,g,g1,k,s,u,v,j⟩;exact⟨j.f.len,z r l g Y1 g1 k s u v j⟩
def baO{Y:ae}{x:ByteArray}:aX C9 1 Y [(0,st x)]=V (.l ([x].map cs) U U,Y):=iz
def bdS(M:qa Y m b hs h){h1:AV}{c:List ByteArray}{K:ae->Prop}(g:gm Y 9 1 h1 (c.map cs))(i:∀q∈aA h1,q.1=15)(k:∀Y1,qa Y1 m b c h1->Fx Y Y1 [m]->K Y1):sV (aK 1 Y (.p m 0 7) h1) K:=by obtain⟨w,u,s,tx,f,v,n⟩:=M.mx;obtain⟨l,a,T⟩:=M.tp;refine A0 n g.ce (by simp) λY1 F j=>k Y1 ⟨⟨w,u,s,tx,f,v,j⟩,⟨l,a,T.fx F (by simpa using M.ne.symm)⟩,g.fx F (λq r e=>by have:=i q r;have:=M.sm;simp at e;subst e;omega),F.len.trans M.le,M.sm,M.sb,i⟩ F
def bdd{D:Nat}(ih:aQH m b D)(M:qa Y m b hs h)(hl:L hs+D+1<=500){s:ByteArray}{W:Int}(hd:W=D):∃r Y1,SsR Y m b hs h D 2 r Y1/\cZ aS GG 216 [.p m 0 0,st s,iv W] Y r Y1:=by
 refine bgl M.le ?_
 obtain⟨O,G,s',tx,k,H,E⟩:=M.mx
 simp only[aUH,oo E,u0,u1,E,yr,C5,yd,aj,baO,↓uL]
 refine apQ M.gh M.le (qW (f:=Ab.cs) (z:=1) λ_=>rfl) (qW (f:=Ab.cs) (z:=1) λ_=>rfl) (by simp) (by simp;omega) λB N C v A=>?_
 rw[<-dg] at C
 have u:=v.keep _ _ (λc=>by have:=M.sh _ c;have:=M.sm;omega) E
 have M4:∀{Y':ae} {K:ae->Prop},(∀Y1,qa Y1 m b (hs++[s]) B->Fx N Y1 [m]->K Y1)->sV (aK 1 N (.p m 0 7) B) K:=λ{Y' K} hK=>by
  obtain⟨l,a,T⟩:=M.tp
  refine A0 u C.p.ce (by simp) λY1 F b1=>hK Y1 ⟨⟨O,G,s',tx,k,H,b1⟩,⟨l,a,(T.fx v (λc=>by have:=M.sh _ c;have:=M.sb;omega)).fx F (by simpa using M.ne.symm)⟩,C.p.fx F (λq c e=>by have:=(A q c).2;have:=M.sm;simp at e;subst e;omega),F.len.trans (v.len.trans M.le),M.sm,M.sb,λq c=>(A q c).2⟩ F
 simp only[aZp,oo u,u0,u1,u,aj,↓uL]
 refine M4 (Y':=N) λs5 R F5=>?_
 obtain⟨O,G,s',tx,k,H,w⟩:=R.mx
 simp only[aZo,oo w,u0,u1,w,yr,yd,aj,↓uL]
 refine aO4 R λx s6 h1 h2 M6 F6=>?_
 have h2:=h2 (by decide)
 simp only[aZn,u0,u1,eM (x:=1+x) (by omega) (by omega),↓uL]
 refine aQQ ih M6 (by simp;omega) hd (by omega) (by omega) λa l h' s7 g1 g2 g3 n j R7=>?_
 obtain⟨O,G,s',tx,k,H,y⟩:=j.mx
 simp only[aZm,oo y,u0,u1,y,yr,C5,yd,aj,j.gh.ln,bJ,P8,bZ,vw,↓uL]
 have e1:dq.wrap (((L hs+(0+1):Nat):Int)-1)=(L hs:Int):=by rw[eM (by omega) (by omega)];omega
 rw[e1]
 refine slP j.gh (by omega) (by simp;omega) λa8 Z X=>?_
 rw[bh,dg,List.take_left' (by simp)] at Z
 refine bdS j Z (λq c=>j.sh q (X▸c)) λs9 M9 P=>?_
 have R4:RH m b Y h s6 B:=⟨((v.trans F5).trans F6).mono λq c=>by
   simp only[dF,cE] at c
   rcases c with(g|rfl)|rfl
   ·exact .inl (by simp[g])
   ·exact .inl (by simp)
   ·exact .inl (by simp),λq c=> .inr (A q c).1⟩
 have S:RH m b Y h s9 h':=(R4.trans R7).trans (.ofm P)
 exact⟨l,a8,g1.fx P (λq c e=>by have:=(n q c).2;have:=M.sm;simp at e;subst e;omega),by omega,g3,λq c=>⟨(n q c).1.old R4.f,(n q c).2⟩,M9,⟨S.f,λq c=>S.i q (X▸c)⟩⟩
def aPh{A:(be)->Prop}{K:be}:gF U A Y K=A K:=rfl
def aOq{A:(be)->Prop}{K:be}:gF I A Y K=K (.t []) Y:=rfl
def baJ:aX C9 4 Y [(0,(sv [120])),(1,(sv [121])),(2,(sv [120])),(3,(sv [118]))]=V (.l ([⟨#[120]⟩,⟨#[121]⟩,⟨#[120]⟩,⟨#[118]⟩].map cs) U U,Y):=by kernel_rfl
def aV4:aX C9 2 Y [(0,(sv [97])),(1,(sv [98]))]=V (.l ([⟨#[97]⟩,⟨#[98]⟩].map cs) U U,Y):=by kernel_rfl
def a5Z:aX C9 2 Y [(0,(sv [109])),(1,(sv [110]))]=V (.l ([⟨#[109]⟩,⟨#[110]⟩].map cs) U U,Y):=by kernel_rfl
def baH{e:fc}{t o:Bool}:aX aRb 1 Y [(0, .a [iv e.op,iv e.n,st e.name, .l (e.l.map fc.c) t o])]=V (.l ([e].map fc.c) U U,Y):=aQm (by rw[aoH];rfl) aN9 (by decide) (by rw[aoH];rfl) (by decide)
def a50{x:eo}:aX aNA 1 Y [(0, .a x.c)]=V (.l ([x].map eo.c) U U,Y):=ua (by rw[apT];rfl) aTj WV (by decide) (by rw[apT];rfl) (by decide)
section
variable{o:Int}{nm:ByteArray}{x:AV}{e:fc}{t o':Bool}{body:List eo}{aa:List (List AV)}
def a5O(f:gm Y 219 11 x aa):bM A4 aon [(0,iv o),(5, .a [iv e.op,iv e.n,st e.name, .l (e.l.map fc.c) t o']),(6,x)]=V (.a [iv o,iv 0,st ⟨#[]⟩,st ⟨#[]⟩, .l (([]:List fc).map fc.c) U U,iv e.op,iv e.n,st e.name, .l (e.l.map fc.c) t o',x, .l [] U U]):=by rcases f with⟨_,rfl⟩|⟨q,m,rfl,_⟩<;>rfl
def aSZ(f:gm Y 219 11 x aa):bM A4 aon [(0,iv o),(2,st nm),(6,x)]=V (.a [iv o,iv 0,st nm,st ⟨#[]⟩, .l (([]:List fc).map fc.c) U U,iv (fc.mk 0 0 ⟨#[]⟩ []).op,iv (fc.mk 0 0 ⟨#[]⟩ []).n,st (fc.mk 0 0 ⟨#[]⟩ []).name, .l ((fc.mk 0 0 ⟨#[]⟩ []).l.map fc.c) U U,x, .l [] U U]):=by rcases f with⟨_,rfl⟩|⟨q,m,rfl,_⟩<;>rfl
def a5P(f:gm Y 219 11 x aa):bM A4 aon [(0,iv o),(6,x)]=V (.a [iv o,iv 0,st ⟨#[]⟩,st ⟨#[]⟩, .l (([]:List fc).map fc.c) U U,iv (fc.mk 0 0 ⟨#[]⟩ []).op,iv (fc.mk 0 0 ⟨#[]⟩ []).n,st (fc.mk 0 0 ⟨#[]⟩ []).name, .l ((fc.mk 0 0 ⟨#[]⟩ []).l.map fc.c) U U,x, .l [] U U]):=by rcases f with⟨_,rfl⟩|⟨q,m,rfl,_⟩<;>rfl
def bam{E:fc}(f:gm Y 219 11 x aa):bM A4 aon [(0,iv o),(5, .a E.c),(6,x)]=V (.a [iv o,iv 0,st ⟨#[]⟩,st ⟨#[]⟩, .l (([]:List fc).map fc.c) U U,iv E.op,iv E.n,st E.name, .l (E.l.map fc.c) I I,x, .l [] U U]):=by rw[aoH];exact a5O f
def a5Q:bM A4 aon [(0,iv o),(2,st nm),(6, .l (body.map eo.c) t o')]=V (.a [iv o,iv 0,st nm,st ⟨#[]⟩, .l (([]:List fc).map fc.c) U U,iv (fc.mk 0 0 ⟨#[]⟩ []).op,iv (fc.mk 0 0 ⟨#[]⟩ []).n,st (fc.mk 0 0 ⟨#[]⟩ []).name, .l ((fc.mk 0 0 ⟨#[]⟩ []).l.map fc.c) U U, .l (body.map eo.c) t o', .l (([]:List eo).map eo.c) U U]):=rfl
end
def aRm{f:ae}{op:Int}{nm a:ByteArray}{index:List fc}{e:fc}{t o j o' k i t3 o3:Bool}{body els:List eo}:Lv f Y [iv op,iv 0,st nm,st a, .l (index.map fc.c) j o',iv e.op,iv e.n,st e.name, .l (e.l.map fc.c) t o, .l (body.map eo.c) k i, .l (els.map eo.c) t3 o3] (eo.mk op 0 nm a index e body els).c:=by refine⟨?_,λq g=>?_⟩;rw[apT];simp only[ji,mU,aQ5,aXQ];rfl;simp[eB,iR] at g
def aOJ{n:Nat}{op:Int}{nm g:ByteArray}{index:List fc}{e:fc}{body els:List eo}(h1:(op=1\/op=2\/op=3\/op=14)->C6 2 e)(h2:index=[]\/∃y,index=[y]/\C6 2 y/\nm=qN)(j:L e.l<=2)(k:L body<=4)(a:∀x∈body,A5 n x)(p:L els<=4)(c:∀x∈els,A5 n x)(q:1<=op/\op<=15):A5 (n+1) (eo.mk op 0 nm g index e body els):=by refine⟨h1,?_,?_,?_,j,k,a,p,c,q⟩;show L index<=1;rcases h2 with rfl|⟨y,rfl,_⟩<;>simp;show∀x∈index,C6 2 x;rcases h2 with rfl|⟨y,rfl,h,_⟩;simp;intro x f;simp at f;subst f;exact h;intro h;rcases h2 with rfl|⟨y,rfl,_,i⟩;exact mp rfl h;exact i
def aOI{n:Nat}{op:Int}{nm a:ByteArray}{index:List fc}{e:fc}(h1:(op=1\/op=2\/op=3\/op=14)->C6 2 e)(h2:index=[]\/∃y,index=[y]/\C6 2 y/\nm=qN)(c:L e.l<=2)(f:1<=op/\op<=15):A5 (n+1) (eo.mk op 0 nm a index e [] []):=aOJ h1 h2 c (by simp) (by simp) (by simp) (by simp) f
def aS4{D:Nat}(A:aQH m b D)(M:qa Y m b hs h)(z:L hs+D+1<=500){s:ByteArray}{i:Int}(y:i=D)(w:∀(a:AV) (l:List eo) (g:AV) Y1,gm Y1 219 11 a (l.map eo.c)->(L l:Int)<=2->(∀x∈l,A5 (D+1) x)->(∀q∈aA a,bK Y q/\q.1=30)->qa Y1 m b hs g->RH m b Y h Y1 g->K a Y1):cB 216 [.p m 0 0,st s,iv i] Y d K:=by refine jH rfl (bdd A M z y) ?_;rintro r Y1 ⟨l,g,g1,k,n,u,v,j⟩;exact⟨j.f.len,w r l g Y1 g1 k n u v j⟩
def aEa{q:Id}{T:TypeId}{z:Nat}{o u:Bool}{r:List AV}(c:box Y q=V ⟨T,z,o,u,[r]⟩)(f:L r=z):kb (V z) Y (.p q 0 0)=V (.a r):=by simp[kb,iE,c,aN,<-f]
def aP2{D:Nat}(h:D+1<1000):dq.wrap (((D+1:Nat):Int)-1)=(D:Int):=by rw[eM (by omega) (by omega)];omega
def baQ:aX aNA 2 Y [(0, .a [iv 9,iv 0,sv [99],sv [], .l [] U U,iv 0,iv 0,sv [], .l [] U U, .l [] U U, .l [] U U]),(1, .a (eo.mk 1 0 ⟨#[97]⟩ ⟨#[]⟩ [] (fc.mk 2 0 ⟨#[120]⟩ []) [] []).c)]=V (.l ([eo.mk 9 0 ⟨#[99]⟩ ⟨#[]⟩ [] (fc.mk 0 0 ⟨#[]⟩ []) [] [],eo.mk 1 0 ⟨#[97]⟩ ⟨#[]⟩ [] (fc.mk 2 0 ⟨#[120]⟩ []) [] []].map eo.c) U U,Y):=by kernel_rfl
def baL{o:Int}:aX aNA 1 Y [(0, .a [iv o,iv 0,sv [99],sv [], .l [] U U,iv 0,iv 0,sv [], .l [] U U, .l [] U U, .l [] U U])]=V (.l ([eo.mk o 0 ⟨#[99]⟩ ⟨#[]⟩ [] (fc.mk 0 0 ⟨#[]⟩ []) [] []].map eo.c) U U,Y):=by kernel_rfl
def bdy{D:Nat}(ih:∀k,k<D->aQH m b k)(M:qa Y m b hs h)(hl:L hs+D<=500):∃r Y1,SmR Y m b hs h D r Y1/\cZ aS GG 179 [.p m 0 0,iv D] Y r Y1:=by
 obtain⟨m1,S⟩:=m
 obtain rfl:m1=16:=M.sm
 obtain⟨b1,b2⟩:=b
 obtain rfl:b1=14:=M.sb
 refine bgp M.le ?_
 simp only[aUK]
 refine so M.le λv s1 F1 N1 q1=>?_
 have M1:=M.fx0 F1
 obtain⟨th,lf,s,tx,a3,lp,ah⟩:=M1.mx
 simp only[aZ2,oo ah,u0,u1,ah,yr,C5,yd,aj,↓uL]
 refine aPJ M1 (.inl ⟨.inr rfl,_,rfl⟩) λs2 M2 F2=>?_
 have q2:=F2.kq q1
 obtain⟨th,lf,s,tx,a3,lp,bk⟩:=M2.mx
 simp only[aZ1,oo bk,u0,u1,bk,yr,yd,aj,↓uL]
 refine aO4 M2 λx s3 h1 h2 G F3=>?_
 have h2:=h2 (by decide)
 have q3:=F3.kq q2
 have N:RH (16,S) (14,b2) Y h s3 h:=((RH.of0 F1).trans (.ofm F2)).trans (.ofb F3)
 have O:∀{B:ae} {cs r:List AV} {x:eo} {h4:AV},qa B (16,S) (14,b2) hs h4->RH (16,S) (14,b2) Y h B h4->box B (4,v)=V ⟨219,11,U,U,[r]⟩->L r=11->Lv Y B cs x.c->(∀q∈eB (.a cs),q.1=30\/q.1=126)->A5 (D+1) x->
   sV (aK 11 B (.p (4,v) 0 0) (.a cs)) λs=>rV (kb (V 11) s (.p (4,v) 0 0)) λt=>fe (SmR Y (16,S) (14,b2) hs h D) s [t]:=λ{B cs r x h4} A R4 T hr L4 hi a8=>
  aTx T hr (by have:=aNJ L L4.eq;rw[bJ,WV] at this;exact this) λs5 W=>⟨cs,x,h4,rfl,L4.fx W (λq j e=>by have:=hi q j;simp at e;subst e;simp at this) aS7,hi,a8,A.fx W (by simp) (by simp) (λq j e=>by have:=A.sh q j;simp at e;subst e;simp at this),R4.new W N1⟩
 have aa:∀{B s5:ae} {h4 h5:AV} {q:Id} {x:bY},qa B (16,S) (14,b2) hs h4->RH (16,S) (14,b2) B h4 s5 h5->(q.1≠14/\q.1≠15/\q.1≠16)->box B q=V x->box s5 q=V x:=λA R g j=>R.f.keep _ _ (A.out _ g.1 g.2.1 g.2.2) j
 have a7:∀{B s6:ae} {x:eo} {h4:AV},qa B (16,S) (14,b2) hs h4->RH (16,S) (14,b2) Y h B h4->Fx B s6 [(4,v)]->box s6 (4,v)=V ⟨219,11,U,U,[x.c]⟩->A5 (D+1) x->aw 11 s6 (.p (4,v) 0 0) λt=>fe (SmR Y (16,S) (14,b2) hs h D) s6 [t]:=λ{B s6 x h4} A R4 F b6 a8=>by
  rw[art,aEa b6 WV]
  exact⟨_,x,h4,rfl,aYy,by rw[aTj];simp,a8,A.fx F (by simp) (by simp) (λq j e=>by have:=A.sh q j;simp at e;subst e;simp at this),R4.new F N1⟩
 have bj:∀{B:ae} {d:Nat},qa B (16,S) (14,b2) hs h->RH (16,S) (14,b2) Y h B h->box B (4,v)=V ⟨219,11,U,U,[A4]⟩->cB 212 [.p (16,S) 0 0,iv 1] B d (aSs (.p (4,v) 0 0) (SmR Y (16,S) (14,b2) hs h D)):=λ{B d} A R4 T=>by
  refine aQO A λr s5 hr H W=>?_
  obtain⟨e,t,o,he,rfl⟩:=hr
  have q5:=W.kq T
  simp only[aSs,jM,kU,jt,tW,aSY,aD6,↓uL]
  refine⟨by simp[lo,nA,eB,iR],O H (R4.trans (.ofb W)) q5 rfl aYy (by rw[aTj];simp) ?_⟩
  exact⟨λ_=>he,by simp[eo.index],by simp[eo.index],by simp[eo.index],he.len,by simp[eo.body],by simp[eo.body],by simp[eo.els],by simp[eo.els],by simp[eo.op],by simp[eo.op]⟩
 obtain⟨th,lf,s,tx,a3,lp,w⟩:=G.mx
 have hx:(x<4/\0<=x)\/x=4\/x=5\/x=6\/x=7\/x=8\/x=9\/x=10\/x=11\/x=12\/x=13\/x=14\/x=15\/x=16\/x=17:=by omega
 have bF:∀K:d7,(∀nb:Bool,(nb=U->0<D)->K (bv nb))->aO .gtr (iv D) (iv 0) λaM=>fm aM (.p (16,S) 0 0) λco=>az aM (rV (cO s3 co)) λcp=>aT aM 2 s3 cp λcr=>az aM (aO .gtr cr (iv 0)) λct=>aD aM ct (bv I) λaN=>fm aN (.p (16,S) 0 0) λcu=>az aN (rV (cO s3 cu)) λcv=>aT aN 4 s3 cv λcw=>az aN (cf cw) λcx=>aD aN cx (bv I) λcy=>K cy:=by
  intro K hK
  rcases oD D with h0|h0
  ·have e:Q ((0:Int)<(D:Int))=I:=by simp[h0]
   simp only[e,u0,u1,↓jN,Aa,↓uL]
   exact hK I (by simp)
  ·have e:Q ((0:Int)<(D:Int))=U:=by simp[h0]
   rcases bo:Q (0<lf) with _|_
   ·simp only[e,oo w,u0,u1,w,yr,C5,yd,aj,bo,↓jN,↓jA,Aa,ya,↓uL]
    exact hK I (by simp)
   ·simp only[e,oo w,u0,u1,w,yr,C5,yd,aj,bo,↓jA,ya,↓uL]
    exact hK _ (λ_=>h0)
 unfold aZ0
 refine bF _ λnb ap=>?_
 have P:∀{d:Nat},cB 212 [.p (16,S) 0 0,iv 1] s3 d (aSs (.p (4,v) 0 0) (SmR Y (16,S) (14,b2) hs h D)):=bj G N q3
 rcases hx with hx|rfl|rfl|rfl|rfl|rfl|rfl|rfl|rfl|rfl|rfl|rfl|rfl|rfl|rfl
 all_goals
  simp only[oo w,u0,u1,w,yr,C5,yd,aj,aNK,aB9,Int.reduceEq,Int.reduceLT,↓iC,↓iB,↓jA,↓jN,↓aOq,ya,Aa,Bool.false_or,↓uL]
 ·refine⟨λ_=>?_,λg=>mp hx.1 (by simpa using g)⟩
  simp only[baJ,bQ,aZS,amZ,u0,rk,gw,↓uL]
  refine⟨⟨hx.2,hx.1⟩,aQO G λr s5 hr H W=>?_⟩
  obtain⟨e,t,o,he,rfl⟩:=hr
  have q5:=W.kq q3
  simp only[aZK,jM,kU,jt,tW,aSY,aD6]
  refine⟨by simp[lo,nA,eB,iR],qr q5 rfl WV λs6 F6 b6=>?_⟩
  refine dT (by simp[eL,lb,cq,Qh,cD,dC,dK]) ?_
  exact a7 H (N.trans (.ofb W)) F6 b6 (aOI (λ_=>he) (.inl rfl) he.len (by decide))
 ·simp only[aV4,bQ,aZ5,oo w,u0,u1,w,yr,yd,aj,↓uL]
  refine aO4 G λy B y1 y2 A E=>?_
  have y2:=y2 (by decide)
  have T:=E.kq q3
  simp only[aZ4,amZ,u0,rk,gw,↓uL]
  refine⟨⟨y1,y2⟩,aQO A λr s5 hr H W=>?_⟩
  obtain⟨e,t,o,he,rfl⟩:=hr
  have q5:=W.kq T
  simp only[aZ3,jM,kU,jt,tW,aSY,aD6]
  refine⟨by simp[lo,nA,eB,iR],qr q5 rfl WV λs6 F6 b6=>?_⟩
  refine dT (by simp[eL,lb,cq,Qh,cD,dC,dK]) ?_
  exact a7 H ((N.trans (.ofb E)).trans (.ofb W)) F6 b6 (aOI (λ_=>he) (.inl rfl) he.len (by decide))
 ·refine baU G λr B hr A E=>?_
  obtain⟨e,t,o,he,rfl⟩:=hr
  have T:=E.kq q3
  simp only[baH,bQ,aZ7]
  refine aQO A λr s5 hr H W=>?_
  obtain⟨e',t',o',bn,rfl⟩:=hr
  have q5:=W.kq T
  have ca:bM A4 aon [(0,(iv 1)),(2,(sv [113])),(4, .l ([e].map fc.c) U U),(5, .a [iv e'.op,iv e'.n,st e'.name, .l (e'.l.map fc.c) t' o'])]=V (.a [iv 1,iv 0,st qN,st ⟨#[]⟩, .l ([e].map fc.c) U U,iv e'.op,iv e'.n,st e'.name, .l (e'.l.map fc.c) t' o', .l (([]:List eo).map eo.c) U U, .l (([]:List eo).map eo.c) U U]):=rfl
  simp only[aZ6,ca,aY,↓uL]
  exact O H ((N.trans (.ofb E)).trans (.ofb W)) q5 rfl aRm (by simp[eB,iR]) (aOI (λ_=>bn) (.inr ⟨e,rfl,he,rfl⟩) bn.len (by decide))
 ·refine⟨λhD=>?_,λ_=>P⟩
  obtain⟨k,rfl⟩:∃k,D=k+1:=⟨D-1,by simp at hD;omega⟩
  refine aQO G λr B hr A E=>?_
  obtain⟨e,t,o,he,rfl⟩:=hr
  have T:=E.kq q3
  simp only[aZE,u0,u1,aP2 (D:=k) (by omega),↓uL]
  refine aQQ (ih k (by omega)) A (by omega) rfl (by omega) (by omega) λa l h' s5 g1 g2 g3 C H X=>?_
  have q5:=aa A X (by simp) T
  simp only[aZD,a5O g1,aY]
  refine anu H.le λv7 s7 Z N7 b7=>?_
  have M7:=H.fx0 Z
  have q7:=Z.kq q5
  have G7:=g1.fx Z (by simp)
  have R7:RH (16,S) (14,b2) Y h s7 h':=((N.trans (.ofb E)).trans X).trans (.of0 Z)
  have na:∀q∈aA a,bK Y q:=λq j=>((C q j).1.old E).old N.f
  obtain⟨cA,cg,s',cF,bw,ch,bm⟩:=M7.mx
  simp only[aZC,di,aZ8,oo bm,u0,u1,bm,yr,yd,aj,↓uL]
  refine aO4 M7 λy s8 y1 y2 M8 F8=>?_
  have q8:=F8.kq q7
  have b8:=F8.kq b7
  have G8:=G7.fx F8 (λq j e=>by have:=(C q j).2;simp at e;subst e;simp at this)
  have R8:=R7.trans (.ofb F8)
  simp only[aZB,u0,u1,aP2 (D:=k) (by omega),↓uL]
  refine⟨λ_=>?_,λ_=>?_⟩
  ·refine aQQ (ih k (by omega)) M8 (by omega) rfl (by omega) (by omega) λa' l' h9 s9 k1 k2 k3 k4 M9 R9=>?_
   have q9:=aa M8 R9 (by simp) q8
   have b9:=aa M8 R9 (by simp) b8
   have G9:=G8.fx R9.f (λq j=>M8.out q (by have:=(C q j).2;omega) (by have:=(C q j).2;omega) (by have:=(C q j).2;omega))
   simp only[aZA,u0,u1,b9,aj,↓uL]
   refine A0 b9 k1.ce (by simp) λcQ aC b0=>?_
   have ci:∀q∈aA a',bK Y q:=λq j=>(k4 q j).1.old R8.f
   have cl:=aC.kq q9
   simp only[aUO,aI,aEa b0 rfl,aY,↓uL]
   have p9:∀{q:Id},q.1=30->q∉[((7,v7):Id)]:=λh e=>by simp at e;subst e;simp at h
   refine O (M9.fx aC (by simp) (by simp) (λq j e=>by have:=M9.sh q j;simp at e;subst e;simp at this)) ((R8.trans R9).new aC (((N7.old X.f).old E).old N.f)) cl rfl
    (aPq (index:=[]) (e:=e) (G9.fx aC λq j=>p9 (C q j).2) (k1.fx aC λq j=>p9 (k4 q j).2) na ci) (aPB (index:=[]) (λq j=> .inl (C q j).2) (λq j=> .inl (k4 q j).2)) ?_
   exact aOJ (λ_=>he) (.inl rfl) he.len (by omega) g3 (by omega) k3 (by decide)
  ·simp only[aUO,aI,aEa b8 rfl,aY,↓uL]
   exact O M8 R8 q8 rfl (aPq (index:=[]) (e:=e) (els:=[]) G8 (.inl ⟨rfl,rfl⟩) na (by simp[aA])) (aPB (index:=[]) (λq j=> .inl (C q j).2) (by simp[aA])) (aOJ (λ_=>he) (.inl rfl) he.len (by omega) g3 (by simp) (by simp) (by decide))
 ·refine⟨λhD=>?_,λ_=>P⟩
  obtain⟨k,rfl⟩:∃k,D=k+1:=⟨D-1,by simp at hD;omega⟩
  refine aPJ G (.inr ⟨by omega,_,rfl⟩) λB A E=>?_
  have T:=E.kq q3
  simp only[aZJ,jM,kU,jt,tW,aD6,Fa,u0,u1,aP2 (D:=k) (by omega),↓uL]
  refine⟨by simp[lo,nA,eB,iR],by simp[lo,nA,eB,iR],by rw[aXO rfl rfl];trivial,?_⟩
  refine aQQ (ih k (by omega)) A (by omega) rfl (by omega) (by omega) λa l h' s5 g1 g2 g3 C H X=>?_
  have q5:=aa A X (by simp) T
  simp only[aZI,jM,kU,jt,tW,aD6,Fa,a50,u0,↓uL]
  refine⟨by simp[lo,nA,eB,iR],by simp[lo,nA,eB,iR],by rw[aXO rfl rfl];trivial,by rw[aXP rfl];trivial,?_⟩
  have na:∀q∈aA a,q.1=30:=λq j=>(C q j).2
  refine apQ g1 H.le (qW (f:=eo.c) (z:=11) λ_=>WV) (qW (f:=eo.c) (z:=11) λ_=>WV) (by simp) (by simp;omega) λa' s6 g6 F6 N6=>?_
  rw[<-dg] at g6
  have q6:=F6.keep _ _ (λj=>by have:=na _ j;simp at this) q5
  have M6:=H.fx F6 (λj=>by have:=na _ j;simp at this) (λj=>by have:=na _ j;simp at this) (λq j e=>by have h1:=na _ e;have h2:=H.sh q j;omega)
  have a2:RH (16,S) (14,b2) Y h B h:=N.trans (.ofm E)
  have R6:RH (16,S) (14,b2) Y h s6 h':=⟨((a2.trans X).f.trans F6).mono λq j=>(dF.1 j).elim .inl λg=> .inr ((C q g).1.old a2.f).no,(a2.trans X).i⟩
  simp only[aZH,bam g6.p,aY]
  refine anu M6.le λv7 s7 Z N7 b7=>?_
  have M7:=M6.fx0 Z
  have q7:=Z.kq q6
  have G7:=g6.p.fx Z (by simp)
  obtain⟨br,bp,s8,bs,bi,bq,ao⟩:=M7.mx
  simp only[aZG,oo ao,u0,u1,ao,aj,↓uL]
  refine aPJ M7 (.inr ⟨by omega,_,rfl⟩) λs9 M9 F9=>?_
  have q9:=F9.kq q7
  have b9:=F9.kq b7
  have G9:=G7.fx F9 (λq j e=>by have:=(N6 q j).2;simp at e;subst e;simp at this)
  simp only[aZF,aEa b9 rfl,aY,↓uL]
  refine O M9 ((R6.trans (.of0 Z)).trans (.ofm F9)) q9 rfl (aPq (index:=[]) (els:=[]) G9 (.inl ⟨rfl,rfl⟩) (λq j=>(N6 q j).1.old (a2.trans X).f) (by simp[aA])) (aPB (index:=[]) (λq j=> .inr (N6 q j).2) (by simp[aA])) ?_
  have e1:∀{z:Int} {s:ByteArray},C6 1 (fc.mk 2 z s []):=λ{z s}=>⟨.inl ⟨.inr rfl,rfl⟩,by simp[fc.l]⟩
  have e2:∀{z:Int} {s:ByteArray},C6 1 (fc.mk 1 z s []):=λ{z s}=>⟨.inl ⟨.inl rfl,rfl⟩,by simp[fc.l]⟩
  refine aOJ (λ_=>⟨.inr (.inr ⟨by decide,rfl⟩),?_⟩) (.inl rfl) (by decide) (by simp;omega) ?_ (by simp) (by simp) (by decide)
  ·intro y hy;simp only[fc.l,eW,ql,y6] at hy
   rcases hy with rfl|rfl
   ·exact e1
   ·exact e2
  ·intro y hy
   rcases dF.1 hy with hy|hy
   ·exact g3 y hy
   ·simp only[cE] at hy
    subst hy
    refine aOI (λ_=>⟨.inr (.inr ⟨by decide,rfl⟩),?_⟩) (.inl rfl) (by decide) (by decide)
    intro y hy;simp only[fc.l,eW,ql,y6] at hy
    rcases hy with rfl|rfl
    ·exact e1
    ·exact e2
 ·cases nb
  ·simp only[u0,aOq,↓jN,Aa,↓iB,↓uL]
   exact P
  obtain⟨k,rfl⟩:∃k,D=k+1:=⟨D-1,by have:=ap rfl;omega⟩
  simp only[a5Z,amZ,rk,gw,u0,u1,aPh,↓jA,ya,↓uL]
  refine⟨⟨by decide,by decide⟩,aQP G (by omega) λu=>?_⟩
  cases u
  ·simp only[u0,u1,↓iC,↓uL]
   simp only[aUM,amZ,rk,gw,aP2 (D:=k) (by omega),u0,u1,↓uL]
   refine⟨⟨by decide,by decide⟩,aS4 (ih k (by omega)) G (by omega) rfl λa l h' s5 g1 g2 g3 C H X=>?_⟩
   simp only[aUL,aSZ g1,aY,↓uL]
   exact O H (N.trans X) (aa G X (by simp) q3) rfl (aPq (index:=[]) (els:=[]) g1 (.inl ⟨rfl,rfl⟩) (λq j=>(C q j).1.old N.f) (by simp[aA])) (aPB (index:=[]) (λq j=> .inl (C q j).2) (by simp[aA])) (aOJ (λh=>mp h (by decide)) (.inl rfl) (by decide) (by omega) g3 (by simp) (by simp) (by decide))
  ·simp only[u0,u1,↓iB,↓uL]
   exact P
 ·cases nb
  ·simp only[u0,aOq,↓jN,Aa,↓iB,↓uL]
   exact P
  obtain⟨k,rfl⟩:∃k,D=k+1:=⟨D-1,by have:=ap rfl;omega⟩
  simp only[a5Z,amZ,rk,gw,u0,u1,aPh,↓jA,ya,↓uL]
  refine⟨⟨by decide,by decide⟩,aQP G (by omega) λu=>?_⟩
  cases u
  ·simp only[u0,u1,↓iC,↓uL]
   simp only[aUM,amZ,rk,gw,aP2 (D:=k) (by omega),u0,u1,↓uL]
   refine⟨⟨by decide,by decide⟩,aS4 (ih k (by omega)) G (by omega) rfl λa l h' s5 g1 g2 g3 C H X=>?_⟩
   simp only[aUL,aSZ g1,aY,↓uL]
   exact O H (N.trans X) (aa G X (by simp) q3) rfl (aPq (index:=[]) (els:=[]) g1 (.inl ⟨rfl,rfl⟩) (λq j=>(C q j).1.old N.f) (by simp[aA])) (aPB (index:=[]) (λq j=> .inl (C q j).2) (by simp[aA])) (aOJ (λh=>mp h (by decide)) (.inl rfl) (by decide) (by omega) g3 (by simp) (by simp) (by decide))
  ·simp only[u0,u1,↓iB,↓uL]
   exact P
 ·cases nb
  ·simp only[u0,aOq,↓jN,Aa,↓iB,↓uL]
   exact P
  obtain⟨k,rfl⟩:∃k,D=k+1:=⟨D-1,by have:=ap rfl;omega⟩
  simp only[u0,aPh,↓jA,ya,↓uL]
  refine aQP G (by omega) λu=>?_
  cases u
  ·simp only[aP2 (D:=k) (by omega),u0,u1,↓iC,↓uL]
   refine aS4 (ih k (by omega)) G (by omega) rfl λa l h' s5 g1 g2 g3 C H X=>?_
   simp only[aUN,aSZ g1,aY,↓uL]
   exact O H (N.trans X) (aa G X (by simp) q3) rfl (aPq (index:=[]) (els:=[]) g1 (.inl ⟨rfl,rfl⟩) (λq j=>(C q j).1.old N.f) (by simp[aA])) (aPB (index:=[]) (λq j=> .inl (C q j).2) (by simp[aA])) (aOJ (λh=>mp h (by decide)) (.inl rfl) (by decide) (by omega) g3 (by simp) (by simp) (by decide))
  ·simp only[u0,u1,↓iB,↓uL]
   exact P
 ·cases nb
  ·simp only[u0,aOq,↓jN,Aa,↓iB,↓uL]
   exact P
  obtain⟨k,rfl⟩:∃k,D=k+1:=⟨D-1,by have:=ap rfl;omega⟩
  simp only[u0,aPh,↓jA,ya,↓uL]
  refine aQP G (by omega) λu=>?_
  cases u
  ·simp only[aP2 (D:=k) (by omega),u0,u1,↓iC,↓uL]
   refine aS4 (ih k (by omega)) G (by omega) rfl λa l h' s5 g1 g2 g3 C H X=>?_
   simp only[aUN,aSZ g1,aY,↓uL]
   exact O H (N.trans X) (aa G X (by simp) q3) rfl (aPq (index:=[]) (els:=[]) g1 (.inl ⟨rfl,rfl⟩) (λq j=>(C q j).1.old N.f) (by simp[aA])) (aPB (index:=[]) (λq j=> .inl (C q j).2) (by simp[aA])) (aOJ (λh=>mp h (by decide)) (.inl rfl) (by decide) (by omega) g3 (by simp) (by simp) (by decide))
  ·simp only[u0,u1,↓iB,↓uL]
   exact P
 ·refine⟨λhn=>?_,λ_=>P⟩
  obtain⟨k,rfl⟩:∃k,D=k+1:=⟨D-1,by have:=ap hn;omega⟩
  refine aPJ G (.inr ⟨by omega,_,rfl⟩) λB A E=>?_
  have T:=E.kq q3
  obtain⟨cA,cg,s',cF,bw,ch,bl⟩:=A.mx
  simp only[aZP,oo bl,u0,u1,bl,yr,yd,aj,↓uL]
  refine aO4 A λy s5 y1 y2 H W=>?_
  have y2:=y2 (by decide)
  have q5:=W.kq T
  simp only[aZO,u0,u1,eM (x:=1+y) (by omega) (by omega),↓uL]
  refine aQQ (ih 0 (by omega)) H (by omega) rfl (by omega) (by omega) λa l h' s6 g1 g2 g3 C M6 R6=>?_
  have q6:=aa H R6 (by simp) q5
  simp only[aZN,a5P g1,aY]
  refine anu M6.le λv7 s7 Z N7 b7=>?_
  have M7:=M6.fx0 Z
  have q7:=Z.kq q6
  have G7:=g1.fx Z (by simp)
  have aG:RH (16,S) (14,b2) Y h s5 h:=(N.trans (.ofm E)).trans (.ofb W)
  obtain⟨br,bp,s8,bs,bi,bq,ao⟩:=M7.mx
  simp only[aZM,oo ao,u0,u1,ao,aj,↓uL]
  refine aPJ M7 (.inr ⟨by omega,_,rfl⟩) λs9 M9 F9=>?_
  have q9:=F9.kq q7
  have b9:=F9.kq b7
  have G9:=G7.fx F9 (λq j e=>by have:=(C q j).2;simp at e;subst e;simp at this)
  simp only[aZL,aEa b9 rfl,aY,↓uL]
  exact O M9 (((aG.trans R6).trans (.of0 Z)).trans (.ofm F9)) q9 rfl (aPq (index:=[]) (els:=[]) G9 (.inl ⟨rfl,rfl⟩) (λq j=>(C q j).1.old aG.f) (by simp[aA])) (aPB (index:=[]) (λq j=> .inl (C q j).2) (by simp[aA])) (aOJ (λh=>mp h (by decide)) (.inl rfl) (by decide) (by omega) (λx hx=>(g3 x hx).mono (by omega)) (by simp) (by simp) (by decide))
 ·cases nb
  ·simp only[u0,↓jN,Aa,↓iB,↓uL]
   exact P
  cases a3
  ·obtain⟨k,rfl⟩:∃k,D=k+1:=⟨D-1,by have:=ap rfl;omega⟩
   simp only[oo w,u0,u1,w,yr,C5,yd,aj,↓jA,ya,↓iC,↓uL]
   refine aPJ G (.inr ⟨by omega,_,rfl⟩) λB A E=>?_
   have T:=E.kq q3
   simp only[aZU,u0,u1,aP2 (D:=k) (by omega),↓uL]
   refine aQQ (ih k (by omega)) A (by omega) rfl (by omega) (by omega) λa l h' s6 g1 g2 g3 C M6 R6=>?_
   have q6:=aa A R6 (by simp) T
   simp only[aZT,a5P g1,aY]
   refine anu M6.le λv7 s7 Z N7 b7=>?_
   have M7:=M6.fx0 Z
   have q7:=Z.kq q6
   have G7:=g1.fx Z (by simp)
   have aG:RH (16,S) (14,b2) Y h B h:=N.trans (.ofm E)
   obtain⟨br,bp,s8,bs,bi,bq,ao⟩:=M7.mx
   simp only[aZR,oo ao,u0,u1,ao,aj,↓uL]
   refine aPJ M7 (.inr ⟨by omega,_,rfl⟩) λs9 M9 F9=>?_
   have q9:=F9.kq q7
   have b9:=F9.kq b7
   have G9:=G7.fx F9 (λq j e=>by have:=(C q j).2;simp at e;subst e;simp at this)
   simp only[aZQ,aEa b9 rfl,aY,↓uL]
   exact O M9 (((aG.trans R6).trans (.of0 Z)).trans (.ofm F9)) q9 rfl (aPq (index:=[]) (els:=[]) G9 (.inl ⟨rfl,rfl⟩) (λq j=>(C q j).1.old aG.f) (by simp[aA])) (aPB (index:=[]) (λq j=> .inl (C q j).2) (by simp[aA])) (aOJ (λh=>mp h (by decide)) (.inl rfl) (by decide) (by omega) g3 (by simp) (by simp) (by decide))
  ·simp only[oo w,u0,u1,w,yr,C5,yd,aj,↓jA,ya,↓iB,↓uL]
   exact P
 ·cases nb
  ·simp only[u0,aOq,↓jN,Aa,↓iB,↓uL]
   exact P
  cases a3
  ·simp only[oo w,u0,u1,w,yr,C5,yd,aj,aPh,↓jA,ya,↓uL]
   refine aQP G (by omega) λu=>?_
   cases u
   ·have ah:bM A4 aon [(0,iv 9),(2,sv [99])]=V (.a [iv 9,iv 0,sv [99],sv [], .l [] U U,iv 0,iv 0,sv [], .l [] U U, .l [] U U, .l [] U U]):=rfl
    simp only[ah,jM,kU,jt,tW,aD6,Fa,u0,u1,↓iC,↓uL]
    simp only[baQ,bQ,aZV,a5Q,aY,↓uL]
    refine⟨by simp[lo,nA,eB,iR],by rw[aXP rfl];trivial,O G N q3 rfl aRm (by simp[eB,iR]) (aOJ (λh=>mp h (by decide)) (.inl rfl) (by decide) (by decide) ?_ (by simp) (by simp) (by decide))⟩
    obtain⟨k,rfl⟩:∃k,D=k+1:=⟨D-1,by have:=ap rfl;omega⟩
    intro y hy
    simp only[eW,ql,y6] at hy
    rcases hy with rfl|rfl
    ·exact aOI (λh=>mp h (by decide)) (.inl rfl) (by decide) (by decide)
    ·exact aOI (λ_=>⟨.inl ⟨.inr rfl,rfl⟩,by simp[fc.l]⟩) (.inl rfl) (by decide) (by decide)
   ·simp only[u0,u1,↓iB,↓uL]
    exact P
  ·simp only[oo w,u0,u1,w,yr,C5,yd,aj,aOq,↓jA,↓jN,ya,Aa,↓iB,↓uL]
   exact P
 ·cases nb
  ·simp only[oo w,u0,u1,w,yr,yd,aj,aOq,↓jN,Aa,↓iB,↓uL]
   exact P
  simp only[u0,aPh,↓jA,ya,↓uL]
  refine aQP G (by omega) λu=>?_
  cases u
  ·simp only[oo w,u0,u1,w,yr,yd,aj,↓iC,↓uL]
   refine aO4 G λy B y1 y2 A E=>?_
   have y2:=y2 (by decide)
   have T:=E.kq q3
   have ah:∀o:Int,bM A4 aon [(0,iv o),(2,sv [99])]=V (.a [iv o,iv 0,sv [99],sv [], .l [] U U,iv 0,iv 0,sv [], .l [] U U, .l [] U U, .l [] U U]):=λ_=>rfl
   simp only[aZX,ah,baL,bQ,aZW,a5Q,eM (x:=10+y) (by omega) (by omega),u0,u1,↓uL]
   refine O A (N.trans (.ofb E)) T rfl aRm (by simp[eB,iR]) (aOJ (λh=>mp h (by decide)) (.inl rfl) (by decide) (by simp) ?_ (by simp) (by simp) (by decide))
   obtain⟨k,rfl⟩:∃k,D=k+1:=⟨D-1,by have:=ap rfl;omega⟩
   intro z hz
   simp only[eW,ql,y6] at hz
   subst hz
   exact aOI (λh=>by omega) (.inl rfl) (by decide) (by omega)
  ·simp only[u0,u1,↓iB,↓uL]
   exact P
 ·cases tx
  ·cases lp
   ·cases s
    ·simp only[oo w,u0,u1,w,yr,C5,yd,aj,↓jA,ya,Bool.and_self,↓iC,↓uL]
     refine aPJ G (.inr ⟨by omega,_,rfl⟩) λB A E=>?_
     have T:=E.kq q3
     simp only[aZZ]
     refine aQO A λr s5 hr H W=>?_
     obtain⟨e,t,o,he,rfl⟩:=hr
     have q5:=W.kq T
     have ah:bM A4 aon [(0,iv 14),(2,sv [102]),(5, .a [iv e.op,iv e.n,st e.name, .l (e.l.map fc.c) t o])]=V (.a [iv 14,iv 0,st ⟨#[102]⟩,st ⟨#[]⟩, .l (([]:List fc).map fc.c) U U,iv e.op,iv e.n,st e.name, .l (e.l.map fc.c) t o, .l (([]:List eo).map eo.c) U U, .l (([]:List eo).map eo.c) U U]):=rfl
     simp only[aZY,ah,aY,↓uL]
     exact O H ((N.trans (.ofm E)).trans (.ofb W)) q5 rfl aRm (by simp[eB,iR]) (aOI (λ_=>he) (.inl rfl) he.len (by decide))
    ·simp only[oo w,u0,u1,w,yr,C5,yd,aj,↓jA,ya,Bool.and_self,↓iB,↓uL]
     exact P
   ·simp only[oo w,u0,u1,w,yr,C5,yd,aj,↓jN,Aa,Bool.and_false,↓iB,↓uL]
    exact P
  ·simp only[u0,↓jN,Aa,↓iB,↓uL]
   exact P
 ·cases tx
  ·simp only[oo w,u0,u1,w,yr,yd,aj,aPh,↓jA,ya,↓uL]
   refine aO4 G λy B y1 y2 A E=>?_
   have T:=E.kq q3
   have ah:bM A4 aon [(0,iv 15),(2,sv [97]),(3,sv [102])]=V (.a [iv 15,iv 0,st ⟨#[97]⟩,st ⟨#[102]⟩, .l (([]:List fc).map fc.c) U U,iv (fc.mk 0 0 ⟨#[]⟩ []).op,iv (fc.mk 0 0 ⟨#[]⟩ []).n,st (fc.mk 0 0 ⟨#[]⟩ []).name, .l ((fc.mk 0 0 ⟨#[]⟩ []).l.map fc.c) U U, .l (([]:List eo).map eo.c) U U, .l (([]:List eo).map eo.c) U U]):=rfl
   simp only[ah,u0,u1,↓uL]
   exact⟨λ_=>O A (N.trans (.ofb E)) T rfl aRm (by simp[eB,iR]) (aOI (λh=>mp h (by decide)) (.inl rfl) (by decide) (by decide)),λ_=>bj A (N.trans (.ofb E)) T⟩
  ·simp only[u0,aOq,↓jN,Aa,↓iB,↓uL]
   exact P
def ba1{D:Nat}(w:∀i,i<D->aQH m b i)(M:qa Y m b hs h)(v:L hs+D<=500)(u:∀cs x g Y1,Lv Y Y1 cs (eo.c x)->(∀q∈eB (.a cs),q.1=30\/q.1=126)->A5 (D+1) x->qa Y1 m b hs g->RH m b Y h Y1 g->K (.a cs) Y1):cB 179 [.p m 0 0,iv D] Y d K:=by refine jH rfl (bdy w M v) ?_;rintro r Y1 ⟨cs,x,g,rfl,k,l,n,s,j⟩;exact⟨j.f.len,u cs x g Y1 k l n s j⟩
def gm.bx{e:TypeId}{z:Nat}{a:AV}{aa:List (List AV)}(g:gm Y e z a aa):∀q∈aA a,∃x,box Y q=V x:=by rcases g with⟨_,rfl⟩|⟨b,m,rfl,f⟩;simp[aA];intro q c;simp[aA] at c;subst c;exact⟨_,f⟩
def bdw:∀D,aQH m b D:=by
 intro D
 induction D using Nat.strongRecOn with
 |ind D ih=>
 intro Y hs h n M hl Z h3
 have hm:=M.sm
 have aD:=M.sb
 refine bgq M.le ?_
 simp only[aUP]
 refine jD (α:=AV×List eo×AV) (λx i=>[x.1,iv i]) 1 n.toNat (λk x Y'=>gm Y' 219 11 x.1 (x.2.1.map eo.c)/\L x.2.1<=k/\(∀y∈x.2.1,A5 (D+1) y)/\(∀q∈aA x.1,bK Y q/\q.1=30)/\qa Y' m b hs x.2.2/\RH m b Y h Y' x.2.2)
  (s0:=(.l [] U U,[],h)) ⟨.inl ⟨rfl,rfl⟩,by simp,by simp,by simp[aA],M,RH.refl⟩ ?_
 rintro k ⟨O,l1,h1⟩ Y1 hk ⟨g1,g2,X,r,C,A⟩
 simp only at g1 g2 X r C A
 obtain⟨th,lf,s,tx,aC,lp,v⟩:=C.mx
 have R:fe (SsR Y m b hs h D n) Y1 [O]:=⟨l1,h1,g1,by omega,X,r,C,A⟩
 have P:k<n.toNat->∀d T m1 vs,vs=[O,iv k]->(T=yI (λ(x:AV×List eo×AV) i=>[x.1,iv i]) n.toNat λk x Y'=>gm Y' 219 11 x.1 (x.2.1.map eo.c)/\L x.2.1<=k/\(∀y∈x.2.1,A5 (D+1) y)/\(∀q∈aA x.1,bK Y q/\q.1=30)/\qa Y' m b hs x.2.2/\RH m b Y h Y' x.2.2)->m1=gM 1 n.toNat->cB 179 [.p m 0 0,iv D] Y1 d (aUQ vs T m1 Y1):=by
  rintro u d T m1 vs rfl rfl rfl
  refine ba1 ih C hl λcs x h' s2 H k1 k2 M2 N=>?_
  have ar:L cs=11:=by have:=aNJ L H.eq;rwa [bJ,WV] at this
  have ah:aX aNA 1 s2 [(0, .a cs)]=V (.l ([x].map eo.c) U U,kills s2 (eB (.a cs))):=aQm H.eq WV (by decide) aS7 (by decide)
  simp only[aUQ,ah,bQ,au]
  have G:=aOp (eB (.a cs)) s2
  have ka:∀q∈aA O,q∉eB (.a cs):=λq j E=>by
   obtain⟨x,hx⟩:=g1.bx q j
   exact(H.nw q E).ne hx rfl
  have G3:=(g1.fx N.f (λq j=>C.out q (by have:=(r q j).2;omega) (by have:=(r q j).2;omega) (by have:=(r q j).2;omega))).fx G ka
  have W:=M2.fx G (λj=>by have:=k1 _ j;omega) (λj=>by have:=k1 _ j;omega) (λq j E=>by have:=k1 _ E;have:=M2.sh q j;omega)
  refine apQ G3 W.le (qW (f:=eo.c) (z:=11) λ_=>WV) (qW (f:=eo.c) (z:=11) λ_=>WV) (by simp) (by simp;omega) λa' s6 g6 F6 N6=>?_
  rw[<-dg] at g6
  have M6:=W.fx F6 (λj=>by have:=(r _ j).2;omega) (λj=>by have:=(r _ j).2;omega) (λq j E=>by have:=(r _ E).2;have:=W.sh q j;omega)
  have FA:=(A.f.trans N.f).trans G
  have R6:RH m b Y h s6 h':=⟨((A.trans N).f.trans (G.trans F6)).mono λq j=>by
   rcases dF.1 j with g|g
   ·exact .inl g
   rcases dF.1 g with g|g
   ·exact .inr ((H.nw q g).old A.f).no
   ·exact .inr (r q g).1.no,(A.trans N).i⟩
  simp only[aZ9,au,u0,u1,↓uL]
  refine dR (mk:=λ(x:AV×List eo×AV) i=>[x.1,iv i]) (p:=1) (s:=(O,l1,h1)) (s':=(a',l1++[x],h')) (λ_ _=>rfl) u (by omega) ⟨g6.p,by simp;omega,?_,λq j=>⟨(N6 q j).1.old FA,(N6 q j).2⟩,M6,R6⟩
  intro y B
  rcases dF.1 B with B|B
  ·exact X y B
  ·simp only[cE] at B;subst B;exact k2
 rcases Decidable.em ((k:Int)<n) with u|u
 ·have F:Q ((k:Int)<n)=U:=aPI u
  have P:=P (by omega)
  rcases oD k with Z|Z
  ·have w:Q ((k:Int)=0)=U:=by simp[Z]
   simp only[aRp,aI,au,F,w,u0,u1,↓jA,↓jN,ya,↓iC,↓uL]
   exact P _ _ _ _ rfl rfl rfl
  ·have w:Q ((k:Int)=0)=I:=by simp;omega
   rcases S:Q (0<lf) with _|_
   ·simp only[aRp,aI,au,F,w,S,oo v,u0,u1,v,yr,C5,yd,aj,↓jA,ya,Aa,↓iB,↓uL]
    exact R
   ·simp only[aRp,aI,au,F,w,S,oo v,u0,u1,v,yr,C5,yd,aj,↓jA,ya,Aa,↓iC,↓uL]
    exact P _ _ _ _ rfl rfl rfl
 ·have F:Q ((k:Int)<n)=I:=aPk u
  simp only[aRp,aI,au,F,u0,u1,↓jN,Aa,↓iB,↓uL]
  exact R
end
section
attribute[local irreducible] aX
def a9w:=bi 2 []
def a8x a j k b e d f h i g R c:=dH [km,km,(bo a),(bo j),(bo k),(bo b),(lb I [e] []),(lb I [d,f] [16]),(bo a),(bo h),(lb I [i,g] [])] [(0,6),(1,6),(2,6),(3,6),(4,6),(0,7)] (fe R c [])
def a2k e j k f h g i R b a:=rV (cO a e) λc=>aB 7 a c λd=>sV (aK 1 a d b) (a8x e j k f h g i c d b R)
def a2l f b R a:=rV (cO a f) λh=>aB 7 a h λi=>aM a i λc=>aw 6 a b λd=>eV (aX a71 1 a [(0,d)]) λe g=>eV (j5 209 Py 48 g 16 c e) (a2k f h i b d c e R)
def aU7 c b a R:=rV (cO a c) λt3=>ab 8 a t3 λd=>aB 5 a b λe=>sV (aK 1 a e d) (a2l c b R)
def bfU{a b:AV}{s0:ae}{R:be}(h:eV (qm 209 6 s0 3 b) λc d=>aU7 a c d R):EB 121 [a,b] s0 R:=zB a9w aNH Tryz.func121 h
def bg4{e:AV}{d:List AV}{s0:ae}{R:be}(i:L s0=4096)(l1:L d=6)(h:∀(b:ae) (c:Nat),Kp s0 b->(∀k,k≠3->aZ b k=aZ s0 k)->(∀x,box s0 (3,c)≠V x)->box b (3,c)=V ⟨209,6,U,U,[d]⟩->aU7 e (.p (3,c) 0 0) b R):EB 121 [e, .a d] s0 R:=by refine bfU ?_;refine iN rfl l1 (by decide) (by decide) i λb c l g0 m f=>?_;exact h b c l (λk g=>g0 k g) (λx j=>m x ((Kp.refl _).keep _ _ j)) f
def a9z:=bi 12 []
def a2v c e d R(q:AV) a:=rV (cO a c) λg=>aB 0 a g λh=>aw 6 a h λi=>ab 2 a e λj=>fV aQD a [i,j] λb=>rV (cO a c) λk=>aB 0 a k λl=>ab 0 a l λm=>ao 5 a m b λn=>ab 2 a n λo=>rV (bM Py C2 [(0,(iv 7)),(1,d),(2,b),(3,d),(4,o)]) λp=>cB 121 [c,p] a 103 λr f=>fe R f []
def a8y c b g R(h:AV) a:=ab 0 a c λe=>rV (bM Py C2 [(0,(iv 3)),(1,b),(2,b),(4,e)]) λf=>cB 121 [g,f] a 122 λi d=>fe R d []
def a2w b c h R(i:AV) a:=aV b (iv 1) λe=>ab 0 a c λf=>rV (bM Py C2 [(0,(iv 4)),(1,b),(2,b),(3,e),(4,f)]) λg=>cB 121 [h,g] a 31 λj d=>fe R d []
def a2x b d c R(i:AV) a:=ab 3 a b λe=>ao 4 a e (iv 1) λf=>aw 4 a f λg=>aV d (iv 1) λh=>cB 211 [c,g,h] a 22 (a2w d b c R)
def aQI c b d a R:=ab 0 a b λt4=>bf t4 (iv 1) λM=>ah M (ab 1 a b λN=>rV (bM Py C2 [(0,(iv 1)),(1,d),(4,N)]) λO=>cB 121 [c,O] a 41 λT f=>fe R f []) (ab 0 a b λi=>bf i (iv 2) λj=>ah j (rV (cO a c) λk=>ab 6 a k λl=>ab 2 a b λm=>fV FB a [l,m] λe=>aO .geq e (iv 0) λn=>ah n (rV (bM Py C2 [(0,(iv 2)),(1,d),(2,e)]) λo=>cB 121 [c,o] a 59 λP g=>fe R g []) (rV (cO a c) λp=>aB 0 a p λq=>aw 6 a q λr=>ab 2 a b λs=>fV aQD a [r,s] λt=>rV (bM Py C2 [(0,(iv 6)),(1,d),(2,t)]) λu=>cB 121 [c,u] a 70 λS h=>fe R h [])) (ab 0 a b λv=>bf v (iv 3) λw=>ah w (ab 3 a b λx=>ao 4 a x (iv 0) λy=>aw 4 a y λz=>cB 211 [c,z,d] a 81 (a2v c b d R)) (ab 3 a b λA=>aJ a A λB=>bf B (iv 1) λC=>ah C (ab 3 a b λD=>ao 4 a D (iv 0) λE=>aw 4 a E λF=>cB 211 [c,F,d] a 115 (a8y b d c R)) (ab 3 a b λG=>ao 4 a G (iv 0) λH=>aw 4 a H λK=>cB 211 [c,K,d] a 14 (a2x b d c R)))))
def bfX{a b c:AV}{s0:ae}{R:be}(h:eV (qm 217 4 s0 4 b) λd e=>aQI a d c e R):EB 211 [a,b,c] s0 R:=zB a9z aNH Tryz.func211 h
def bg6{e:AV}{d:List AV}{f:AV}{s0:ae}{R:be}(j:L s0=4096)(l1:L d=4)(h:∀(b:ae) (c:Nat),Kp s0 b->(∀k,k≠4->aZ b k=aZ s0 k)->(∀x,box s0 (4,c)≠V x)->box b (4,c)=V ⟨217,4,U,U,[d]⟩->aQI e (.p (4,c) 0 0) f b R):EB 211 [e, .a d,f] s0 R:=by refine bfX ?_;refine iN rfl l1 (by decide) (by decide) j λb c m g0 n g=>?_;exact h b c m (λk i=>g0 k i) (λx l=>n x ((Kp.refl _).keep _ _ l)) g
def a9t:=bi 11 []
def a18 c e q R(r:AV) a:=rV (cO a c) λf=>aB 0 a f λg=>aw 6 a g λh=>ab 2 a e λi=>fV aQD a [h,i] λb=>aV q (iv 1) λj=>rV (cO a c) λk=>aB 0 a k λl=>ab 0 a l λm=>ao 5 a m b λn=>ab 2 a n λo=>rV (bM Py C2 [(0,(iv 9)),(1,b),(2,j),(3,q),(4,o)]) λp=>cB 121 [c,p] a 51 λs d=>fe R d []
def a19 b g c R(h:AV) a:=aB 5 a b λd=>aw 4 a d λe=>aV g (iv 1) λf=>cB 211 [c,e,f] a 28 (a18 c b g R)
def a2a b c r R(s:AV) a:=rV (cO a b) λg=>ab 6 a g λh=>ab 2 a c λi=>fV FB a [h,i] λd=>aO .geq d (iv 0) λj=>ah j (rV (bM Py C2 [(0,(iv 2)),(1,d),(2,r)]) λk=>cB 121 [b,k] a 70 λt e=>fe R e []) (rV (cO a b) λl=>aB 0 a l λm=>aw 6 a m λn=>ab 2 a c λo=>fV aQD a [n,o] λp=>rV (bM Py C2 [(0,(iv 8)),(1,p),(2,r)]) λq=>cB 121 [b,q] a 81 λu f=>fe R f [])
def aU4 c b a R:=rV (cO a c) λt3=>ab 6 a t3 λk=>aJ a k λd=>ab 4 a b λl=>aJ a l λm=>aO .gtr m (iv 0) λe=>ah e (ab 4 a b λf=>ao 4 a f (iv 0) λg=>aw 4 a g λh=>cB 211 [c,h,d] a 22 (a19 b d c R)) (aB 5 a b λi=>aw 4 a i λj=>cB 211 [c,j,d] a 56 (a2a c b d R))
def bfR{a b:AV}{s0:ae}{R:be}(h:eV (qm 219 11 s0 3 b) λc d=>aU4 a c d R):EB 207 [a,b] s0 R:=zB a9t aNH Tryz.func207 h
def bg1{e:AV}{d:List AV}{s0:ae}{R:be}(i:L s0=4096)(l1:L d=11)(h:∀(b:ae) (c:Nat),Kp s0 b->(∀k,k≠3->aZ b k=aZ s0 k)->(∀x,box s0 (3,c)≠V x)->box b (3,c)=V ⟨219,11,U,U,[d]⟩->aU4 e (.p (3,c) 0 0) b R):EB 207 [e, .a d] s0 R:=by refine bfR ?_;refine iN rfl l1 (by decide) (by decide) i λb c l g0 m f=>?_;exact h b c l (λk g=>g0 k g) (λx j=>m x ((Kp.refl _).keep _ _ j)) f
def a9u:=bi 19 []
def a2b b d R(l:AV) a:=rV (cO a b) λe=>ab 7 a e λf=>rV (cO a b) λg=>ab 7 a g λh=>aJ a h λi=>ao 6 a f d λj=>aB 2 a j λk=>sV (aK 1 a k i) λc=>fe R c []
def a2c b d R(l:AV) a:=rV (cO a b) λe=>ab 7 a e λf=>rV (cO a b) λg=>ab 7 a g λh=>aJ a h λi=>ao 6 a f d λj=>aB 1 a j λk=>sV (aK 1 a k i) λc=>fe R c []
def a2d c b d R a:=ab 10 a c λe=>cB 120 [b,e] a 105 (a2c b d R)
def a2e b d c e R(m:AV) a:=rV (cO a b) λf=>ab 7 a f λg=>rV (cO a b) λh=>ab 7 a h λi=>aJ a i λj=>ao 6 a g d λk=>aB 2 a k λl=>sV (aK 1 a l j) (a2d c b e R)
def a2f c w b d R a:=ab 0 a c λf=>bf f (iv 3) λg=>ah g (rV (bM Py C2 [(0,(iv 5)),(1,w)]) λh=>cB 121 [b,h] a 53 (a2b b d R)) (ab 10 a c λi=>aJ a i λj=>bf j (iv 0) λk=>ah k (rV (cO a b) λl=>ab 7 a l λm=>rV (cO a b) λn=>ab 7 a n λo=>aJ a o λp=>ao 6 a m d λq=>aB 2 a q λr=>sV (aK 1 a r p) λe=>fe R e []) (rV (cO a b) λs=>ab 7 a s λt=>aJ a t λu=>rV (bM Py C2 [(0,(iv 5))]) λv=>cB 121 [b,v] a 89 (a2e b d c u R)))
def a2g b g c h d R(i:AV) a:=rV (cO a b) λe=>aB 8 a e λf=>sV (aK 1 a f g) (a2f c h b d R)
def a2h b c f g d R(h:AV) a:=ab 9 a b λe=>cB 120 [c,e] a 42 (a2g c f b g d R)
def a2i b c k l R(m:AV) a:=rV (cO a b) λd=>ab 7 a d λe=>aJ a e λf=>rV (cO a b) λg=>ab 6 a g λh=>aJ a h λi=>rV (bM Py C2 [(0,(iv 10)),(1,i)]) λj=>cB 121 [b,j] a 38 (a2h c b k l f R)
def aU5 b c a R:=rV (cO a b) λt3=>ab 8 a t3 λi=>rV (cO a b) λj=>ab 7 a j λk=>aJ a k λl=>aB 5 a c λd=>aw 4 a d λe=>rV (cO a b) λf=>ab 6 a f λg=>aJ a g λh=>cB 211 [b,e,h] a 25 (a2i b c i l R)
def bfS{a b:AV}{s0:ae}{R:be}(h:eV (qm 219 11 s0 3 b) λc d=>aU5 a c d R):EB 208 [a,b] s0 R:=zB a9u aNH Tryz.func208 h
def bg2{e:AV}{d:List AV}{s0:ae}{R:be}(i:L s0=4096)(l1:L d=11)(h:∀(b:ae) (c:Nat),Kp s0 b->(∀k,k≠3->aZ b k=aZ s0 k)->(∀x,box s0 (3,c)≠V x)->box b (3,c)=V ⟨219,11,U,U,[d]⟩->aU5 e (.p (3,c) 0 0) b R):EB 208 [e, .a d] s0 R:=by refine bfS ?_;refine iN rfl l1 (by decide) (by decide) i λb c l g0 m f=>?_;exact h b c l (λk g=>g0 k g) (λx j=>m x ((Kp.refl _).keep _ _ j)) f
def a9s:=bi 5 []
def a15 e f d R a:=rV (bM Py C2 [(0,e),(1,f)]) λc=>cB 121 [d,c] a 32 λg b=>fe R b []
def a16 b g e f R(h:AV) a:=rV (cO a b) λc=>aB 8 a c λd=>sV (aK 1 a d g) (a15 e f b R)
def a17 c a g e f R(h:AV) b:=ab 9 b c λd=>cB 120 [a,d] b 23 (a16 a g e f R)
def aU3 a d e f c b R:=rV (cO b a) λt3=>ab 8 b t3 λg=>rV (bM Py C2 [(0,e),(1,c)]) λh=>cB 121 [a,h] b 19 (a17 d a g f c R)
def bfQ{a b c d e:AV}{s0:ae}{R:be}(h:eV (qm 219 11 s0 6 b) λf g=>aU3 a f c d e g R):EB 209 [a,b,c,d,e] s0 R:=zB a9s aNH Tryz.func209 h
def bg0{e:AV}{d:List AV}{f:AV}{g:AV}{i:AV}{s0:ae}{R:be}(m:L s0=4096)(l1:L d=11)(h:∀(b:ae) (c:Nat),Kp s0 b->(∀k,k≠6->aZ b k=aZ s0 k)->(∀x,box s0 (6,c)≠V x)->box b (6,c)=V ⟨219,11,U,U,[d]⟩->aU3 e (.p (6,c) 0 0) f g i b R):EB 209 [e, .a d,f,g,i] s0 R:=by refine bfQ ?_;refine iN rfl l1 (by decide) (by decide) m λb c o g0 q j=>?_;exact h b c o (λk l=>g0 k l) (λx n=>q x ((Kp.refl _).keep _ _ n)) j
def a9x:=bi 21 [(6,([31],[0,3,4,25]))]
def a2m e R c a:=rV (bM Py C2 [(0,(iv 21)),(1,c)]) λd=>cB 121 [e,d] a 94 λf b=>fe R b []
def a2n e R c a:=rV (bM Py C2 [(0,(iv 22)),(1,c)]) λd=>cB 121 [e,d] a 103 λf b=>fe R b []
def a2o e R c a:=rV (bM Py C2 [(0,(iv 23)),(1,c)]) λd=>cB 121 [e,d] a 112 λf b=>fe R b []
def a2p i j k R(l:AV) a:=rV (cO a i) λc=>aB 0 a c λd=>ab 3 a d λe=>ab 2 a j λf=>fV FB a [e,f] λg=>rV (bM Py C2 [(0,(iv 26)),(1,g),(2,k)]) λh=>cB 121 [i,h] a 157 λm b=>fe R b []
def a2s a b c R d e G:=∀_:Rg,ah (gt G 0) (aw 11 a b λS=>cB 208 [c,S] a 36 λaR H=>fe R H []) (bf d (iv 4) λT=>ah T (aw 11 a b λW=>rV (cO a c) λX=>aB 0 a X λZ=>ab 1 a Z λaa=>ab 2 a b λac=>fV aQE a [aa,ac] λad=>cB 209 [c,W,(iv 11),(iv 12),ad] a 49 λaT K=>fe R K []) (bf d (iv 5) λae=>ah ae (aw 11 a b λaf=>rV (cO a c) λag=>aB 0 a ag λak=>ab 1 a ak λal=>ab 2 a b λam=>fV aQE a [al,am] λan=>cB 209 [c,af,(iv 13),(iv 14),an] a 62 λaU M=>fe R M []) (bf d (iv 6) λao=>ah ao (aw 11 a b λap=>rV (cO a c) λaq=>aB 0 a aq λar=>ab 1 a ar λau=>ab 2 a b λav=>fV aQE a [au,av] λax=>cB 209 [c,ap,(iv 15),(iv 16),ax] a 75 λaV N=>fe R N []) (bf d (iv 7) λay=>ah ay (aw 11 a b λaz=>cB 209 [c,az,(iv 17),(iv 18),(iv 0)] a 80 λaW O=>fe R O []) (bf d (iv 8) λaA=>ah aA (aw 11 a b λaC=>cB 209 [c,aC,(iv 19),(iv 20),(iv 0)] a 85 λaX P=>fe R P []) (bf d (iv 9) λaD=>ah aD (ab 2 a b λaE=>cB 210 [c,aE] a 92 (a2m c R)) (bf d (iv 10) λaF=>ah aF (ab 2 a b λaG=>cB 210 [c,aG] a 101 (a2n c R)) (bf d (iv 11) λaI=>ah aI (ab 2 a b λaJ=>cB 210 [c,aJ] a 110 (a2o c R)) (bf d (iv 12) λaK=>ah aK (rV (cO a c) λaL=>aB 0 a aL λaM=>ab 4 a aM λaN=>ab 2 a b λi=>fV FB a [aN,i] λj=>rV (bM Py C2 [(0,(iv 24)),(1,j)]) λk=>cB 121 [c,k] a 125 λaO f=>fe R f []) (bf d (iv 13) λl=>ah l (rV (cO a c) λm=>aB 0 a m λn=>ab 4 a n λo=>ab 2 a b λp=>fV FB a [o,p] λq=>rV (bM Py C2 [(0,(iv 25)),(1,q)]) λr=>cB 121 [c,r] a 138 λaP g=>fe R g []) (bf d (iv 14) λs=>ah s (aB 5 a b λt=>aw 4 a t λu=>cB 211 [c,u,e] a 145 (a2p c b e R)) (bf d (iv 15) λv=>ah v (rV (cO a c) λw=>ab 6 a w λx=>ab 2 a b λy=>fV FB a [x,y] λz=>rV (cO a c) λA=>aB 0 a A λB=>ab 3 a B λC=>ab 3 a b λD=>fV FB a [C,D] λE=>rV (bM Py C2 [(0,(iv 27)),(1,z),(2,E)]) λF=>cB 121 [c,F] a 177 λaQ h=>fe R h []) (fe R a [])))))))))))))
def a2t c(b:cG):=bf c (iv 2) λa=>ah a (b [a]) (bf c (iv 3) λd=>b [d])
def a2q d b R a:=rV (cO a d) λf=>ab 6 a f λg=>aJ a g λh=>ab 0 a b λc=>bf c (iv 1) λi=>ah i (aw 11 a b λj=>cB 207 [d,j] a 30 λk e=>fe R e []) (jR 6 (a2s a b d R c h) (a2t c))
def a2r b c R a:=rV (cO a b) λh=>ab 9 a h λd=>aV d (iv 1) λe=>rV (cO a b) λf=>aB 9 a f λg=>sV (aK 1 a g e) (a2q b c R)
def aU8 b c a R:=rV (cO a b) λt3=>ab 9 a t3 λd=>rV (cO a b) λe=>aB 8 a e λf=>sV (aK 1 a f d) (a2r b c R)
def bfV{a b:AV}{s0:ae}{R:be}(h:eV (qm 219 11 s0 3 b) λc d=>aU8 a c d R):EB 178 [a,b] s0 R:=zB a9x aNH Tryz.func178 h
def bg5{e:AV}{d:List AV}{s0:ae}{R:be}(i:L s0=4096)(l1:L d=11)(h:∀(b:ae) (c:Nat),Kp s0 b->(∀k,k≠3->aZ b k=aZ s0 k)->(∀x,box s0 (3,c)≠V x)->box b (3,c)=V ⟨219,11,U,U,[d]⟩->aU8 e (.p (3,c) 0 0) b R):EB 178 [e, .a d] s0 R:=by refine bfV ?_;refine iN rfl l1 (by decide) (by decide) i λb c l g0 m f=>?_;exact h b c l (λk g=>g0 k g) (λx j=>m x ((Kp.refl _).keep _ _ j)) f
def a9y:=bi 5 [(1,([4],[0,1]))]
def a2u a(d:aG)(m1:bu) e(f:AV) b:=aV (gt a 0) (iv 1) λc=>d [c] b/\m1 [c] b<m1 a e
def aU9 c e R d m1 b a:=∀_:Rg,aJ a c λt3=>aU (gt b 0) t3 λt4=>ah t4 (ao 11 a c (gt b 0) λf=>aw 11 a f λg=>cB 178 [e,g] a 16 (a2u b d m1 a)) (fe R a [])
def aSu a b s0 R:=lV [(iv 0)] s0 (aU9 b a R)
def bfW{a b:AV}{s0:ae}{R:be}(h:aSu a b s0 R):EB 120 [a,b] s0 R:=zB a9y aNH Tryz.func120 h
def a7T{a:AV}{b:AV}{s0:ae}{R:be}(c:L s0=4096)(h:aSu a b s0 R):EB 120 [a,b] s0 R:=by refine bfW ?_;exact h
end
structure Gn(κ:Int)(Y:ae)(b:Id)(w:br)(loc:List ByteArray)(a:AV)(n:Nat):Prop where
 bx0:∃s nx:Int,(0<=nx/\nx<=n+κ)/\box Y b=V ⟨205,10,U,U,[[sl cA.c w.cells,sl dS.c w.ak,sl yp.c w.bC,sl cs w.bU,sl cs w.ay,sl dL.c w.dU,sl cs loc,a,iv s,iv nx]]⟩
 ga:∃out:List lF,gm Y 209 6 a (out.map lF.c)/\L out=n
 le:L Y=4096
 sb:b.1=45
 sa:∀q∈aA a,q.1=16
 wb:WBd w
 lb:L loc<1000
 hq:∃c∈w.cells,c.name=qN
def Gn.bx{κ:Int}{Y:ae}{b:Id}{w:br}{loc:List ByteArray}{a:AV}{n:Nat}(G:Gn κ Y b w loc a n):∃s e:Int,box Y b=V ⟨205,10,U,U,[[sl cA.c w.cells,sl dS.c w.ak,sl yp.c w.bC,sl cs w.bU,sl cs w.ay,sl dL.c w.dU,sl cs loc,a,iv s,iv e]]⟩:=by obtain⟨s,e,_,h⟩:=G.bx0;exact⟨s,e,h⟩
def aRZ{w:br}{l:List AV}:aN (V 6) (sl cA.c w.cells::sl dS.c w.ak::sl yp.c w.bC::sl cs w.bU::sl cs w.ay::sl dL.c w.dU::l)=V (.a w.c):=rfl
structure R4(b:Id)(Y:ae)(a:AV)(Y1:ae)(a1:AV):Prop where
 f:Fx Y Y1 (b::aA a)
 i:∀q∈aA a1,q∈aA a\/bK Y q
section
variable{κ:Int}{Y Y0 Y1 Y2:ae}{b:Id}{w:br}{loc:List ByteArray}{a a0 a1 a2:AV}{n N:Nat}{d:Nat}{K:be}{ol:List lF}
theorem R4.refl:R4 b Y a Y a:=⟨Fx.refl _ _,λ_ h=> .inl h⟩
theorem R4.trans(h:R4 b Y a Y1 a1)(j:R4 b Y1 a1 Y2 a2):R4 b Y a Y2 a2:=by refine⟨(h.f.trans j.f).mono λq g=>?_,λq g=>(j.i q g).elim (h.i q) λe=> .inr (e.old h.f)⟩;rcases dF.1 g with c|c;exact .inl c;rcases eW.1 c with c|c;exact .inl (by simp[c]);rcases h.i q c with e|e;exact .inl (zu _ e);exact .inr e.no
def R4.of0(F:Fx Y Y1 []):R4 b Y a Y1 a:=⟨F.mono (by simp),λ_ h=> .inl h⟩
def R4.ofb(F:Fx Y Y1 [b]):R4 b Y a Y1 a:=⟨F.mono λq c=> .inl (by simp at c;simp[c]),λ_ h=> .inl h⟩
theorem Gn.fx(G:Gn κ Y b w loc a n){ks:List Id}(F:Fx Y Y1 ks)(e:b∉ks)(f:∀q∈aA a,q∉ks):Gn κ Y1 b w loc a n:=by obtain⟨s,k,j,h⟩:=G.bx0;obtain⟨c,g,i⟩:=G.ga;exact⟨⟨s,k,j,F.keep _ _ e h⟩,⟨c,g.fx F f,i⟩,F.len.trans G.le,G.sb,G.sa,G.wb,G.lb,G.hq⟩
theorem Gn.mono(G:Gn κ Y b w loc a n){κ':Int}(h:κ<=κ'):Gn κ' Y b w loc a n:=by obtain⟨s,f,e,c⟩:=G.bx0;exact⟨⟨s,f,⟨e.1,by omega⟩,c⟩,G.ga,G.le,G.sb,G.sa,G.wb,G.lb,G.hq⟩
def Gn.fx0(G:Gn κ Y b w loc a n)(F:Fx Y Y1 []):Gn κ Y1 b w loc a n:=G.fx F (by simp) (by simp)
def Gn.out(G:Gn κ Y b w loc a n):∀q:Id,q.1≠45->q.1≠16->q∉b::aA a:=λq c e f=>by
 rcases eW.1 f with h|h
 ·subst h;exact c G.sb
 ·exact e (G.sa q h)
def GR(κ:Int)(N:Nat)(Y:ae)(b:Id)(w:br)(loc:List ByteArray)(a:AV)(n:Nat)(r:AV)(Y1:ae):Prop:=∃e c,r= .t []/\Gn κ Y1 b w loc e c/\n<=c/\c<=n+N/\R4 b Y a Y1 e
def aPv{fn:Nat}{xs:List AV}(m:uQ.elem fn=I)(h:∃r Y1,GR κ N Y b w loc a n r Y1/\cZ aS GG fn xs Y r Y1)(l:∀e c Y1,Gn κ Y1 b w loc e c->n<=c->c<=n+N->R4 b Y a Y1 e->K (.t []) Y1):cB fn xs Y d K:=by refine jH m h ?_;rintro r Y1 ⟨e,c,rfl,i,j,k,g⟩;exact⟨g.f.len,l e c Y1 i j k g⟩
def bdp(G:Gn κ Y b w loc a n)(hn:n<100000)(x:lF):∃r Y1,(∃j,r= .t []/\Gn (κ-1) Y1 b w loc j (n+1)/\R4 b Y a Y1 j)/\cZ aS GG 121 [.p b 0 0, .a x.c] Y r Y1:=by obtain⟨T,W⟩:=b;obtain rfl:T=45:=G.sb;refine bg4 G.le rfl λs2 v3 K2 ad nf2 R=>?_;have u:Fx Y s2 []:=K2.fx [];have G2:=G.fx0 u;obtain⟨s,nx,H⟩:=G2.bx;simp only[aU7,oo H,u0,u1,H,R,yr,C5,yd,aj,↓uL];refine A0 R rfl (by show 5<6;decide) λE v q3=>?_;have S:box E (3,v3)=V ⟨209,6,U,U,[lF.c {x with site:=s}]⟩:=q3;have k:=G2.fx v (by simp) (λq i e=>by have:=G2.sa q i;simp at e;subst e;simp at this);obtain⟨s',ae,O,m⟩:=k.bx0;have M:∀{x:lF},aX a71 1 E [(0, .a (lF.c x))]=V (.l ([x].map lF.c) U U,E):=λ{x}=>ua rfl rfl rfl (by decide) rfl (by decide);simp only[a2l,oo m,u0,u1,m,S,gw,aj,M,↓uL];obtain⟨P,g,Z⟩:=k.ga;refine apQ g k.le (qW (f:=lF.c) (z:=6) λ_=>rfl) (qW (f:=lF.c) (z:=6) λ_=>rfl) (by simp) (by simp;omega) λj s4 C y B=>?_;rw[<-dg] at C;have o:=y.keep _ _ (λi=>by have:=k.sa _ i;simp at this) m;simp only[a2k,oo o,u0,u1,o,aj,↓uL];refine A0 o C.p.ce (by simp) λs5 A X=>?_;refine dT (by first|rfl|(simp[eL,okT,tok,lb,cq,Qh,cD,dC,pP,dK,lF.c];done)) ?_;have F:∀q∈aA j,q∉[((45,W):Id)]:=λq i e=>(by have:=(B q i).2;simp at e;subst e;simp at this);have D:∀q∈aA j,bK Y q:=λq i=>((B q i).1.old v).old u;refine⟨j,rfl,⟨⟨_,_,⟨O.1,by omega⟩,X⟩,⟨P++[_],C.p.fx A F,by simp[Z]⟩,A.len.trans (y.len.trans k.le),rfl,λq i=>(B q i).2,G.wb,G.lb,G.hq⟩,⟨(((u.trans v).trans y).trans A).mono λq i=>?_,λq i=> .inr (D q i)⟩⟩;simp at i;rcases i with rfl|h|rfl;exact .inr nf2;exact .inl (zu _ h);exact .inl (by simp)
def aPw(G:Gn κ Y b w loc a n)(k:n<100000){x:lF}(j:∀e Y1 g,Gn (κ-1) Y1 b w loc e g->n+1<=g->g<=n+1->R4 b Y a Y1 e->K (.t []) Y1):cB 121 [.p b 0 0, .a x.c] Y d K:=by refine jH rfl (bdp G k x) ?_;rintro r Y1 ⟨e,rfl,i,h⟩;exact⟨h.f.len,j e Y1 (n+1) i (by omega) (by omega) h⟩
def a58(h:∃c∈w.cells,c.name=qN):aF (L w.cells) (uo (λi=>Q ((gd w.cells i).name=qN)) (L w.cells)):=by obtain⟨c,k,l⟩:=h;obtain⟨j,g,rfl⟩:=ou k;have e:=aTb (p:=λi=>Q ((gd w.cells i).name=qN)) (n:=L w.cells);refine⟨?_,e.2⟩;unfold uo;split;omega;rename_i f;rw[List.find?_eq_none] at f;have:=f j (List.mem_range.2 g);rw[bT g] at this;simp[l] at this
def bV:Nat->Nat|0=>0|m+1=>1+2*bV m
def ban{o x y:Int}:bM Py C2 [(0,iv o),(1,iv x),(4,iv y)]=V (.a (lF.c ⟨o,x,0,0,y,0⟩)):=rfl
def bao{o x y:Int}:bM Py C2 [(0,iv o),(1,iv x),(2,iv y)]=V (.a (lF.c ⟨o,x,y,0,0,0⟩)):=rfl
def bap{o x y z u:Int}:bM Py C2 [(0,iv o),(1,iv x),(2,iv y),(3,iv z),(4,iv u)]=V (.a (lF.c ⟨o,x,y,z,u,0⟩)):=rfl
def baq{o x:Int}:bM Py C2 [(0,iv o),(1,iv x)]=V (.a (lF.c ⟨o,x,0,0,0,0⟩)):=rfl
def bar{o:Int}:bM Py C2 [(0,iv o)]=V (.a (lF.c ⟨o,0,0,0,0,0⟩)):=rfl
def bdI:=ai @ban<|ai @bao<|ai @bap<|ai @baq<|@bar
theorem GR.mono{N M:Nat}{r:AV}(h:GR κ N Y b w loc a n r Y1)(l:N<=M):GR κ M Y b w loc a n r Y1:=by obtain⟨c,j,e,f,g,k,i⟩:=h;exact⟨c,j,e,f,g,by omega,i⟩
def bdC:∀(m:Nat) {Y:ae} {a:AV} {n:Nat} {e:fc} {dd:Int},Gn κ Y b w loc a n->n+bV m<100000->C6 m e->∃r Y1,GR (κ-1) (bV m) Y b w loc a n r Y1/\cZ aS GG 211 [.p b 0 0, .a e.c,iv dd] Y r Y1:=by
 intro m
 induction m with
 |zero=>intro Y a n e dd G hn H;exact H.elim
 |succ m ih=>
  intro Y a n e dd G hn H
  obtain⟨b1,g⟩:=b
  obtain rfl:b1=45:=G.sb
  have az:bV (m+1)=1+2*bV m:=rfl
  refine bg6 G.le aN9 λP v4 K2 aD nf2 C=>?_
  have R:Fx Y P []:=K2.fx []
  have G2:=G.fx0 R
  have D:R4 (45,g) Y a P a:=R4.of0 R
  obtain⟨s,nx,hb⟩:=G2.bx
  have Z:=G.wb
  have hL:=G.lb
  have q4:∀q:Id,q.1=4->q∉((45,g):Id)::aA a:=λq h=>G.out q (by omega) (by omega)
  have k:∀{v:ae} {y:AV} {i:Nat} {x:lF} {d:Nat},Gn κ v (45,g) w loc y i->n<=i->i<=n+2*bV m->R4 (45,g) Y a v y->cB 121 [.p (45,g) 0 0, .a x.c] v d λaF ah=>fe (GR (κ-1) (bV (m+1)) Y (45,g) w loc a n) ah []:=λj o h2 u=>
   aPw j (by omega) λB Y1 A G' g1 X R'=>⟨B,A,rfl,G',by omega,by omega,u.trans R'⟩
  have F:∀{v:ae} {y:AV} {i:Nat} {W:fc} {T:Int} {d:Nat} {K:be},Gn κ v (45,g) w loc y i->i<=n+bV m->C6 m W->(∀B A Y1,Gn κ Y1 (45,g) w loc B A->i<=A->A<=i+bV m->R4 (45,g) v y Y1 B->K (.t []) Y1)->cB 211 [.p (45,g) 0 0, .a W.c,iv T] v d K:=λj o ab hK=>aPv rfl (ih j (by omega) ab) λB A Y1 k1 k2 k3 k4=>hK B A Y1 (k1.mono (by omega)) k2 k3 k4
  have z:=H.2
  rcases H.1 with⟨o|o,aB⟩|⟨o,ad,aC⟩|⟨o,ac⟩
  ·simp only[aQI,u0,u1,C,gw,aj,o,aNK,↓iC,bdI,↓uL]
   exact k G2 (by omega) (by omega) D
  ·have E:dG P (.a w.c)= .a w.c:=rfl
   simp only[aQI,oo hb,u0,u1,hb,C,gw,aRZ,aj,o,aNK,aB9,Int.reduceEq,↓iC,↓iB,jM,kU,jt,E,tW,alg,aD6,AL,bdI,lS,↓uL]
   exact⟨by omega,λ_=>k G2 (by omega) (by omega) D,λ_=>⟨by have:=Z.1;omega,k G2 (by omega) (by omega) D⟩⟩
  ·simp only[aQI,u0,u1,C,gw,aj,o,aNK,aB9,Int.reduceEq,↓iC,↓iB,y9,rr,↓uL]
   refine⟨⟨by omega,by omega⟩,F G2 (by omega) (z _ (dB (by simp;omega))) λy i s3 j g1 X u=>?_⟩
   have M:=u.f.keep _ _ (q4 _ rfl) C
   obtain⟨s',aE,O⟩:=j.bx
   have E:dG s3 (.a w.c)= .a w.c:=rfl
   simp only[a2v,oo O,u0,u1,O,M,gw,aRZ,aj,ad,jM,kU,jt,E,tW,aD6,AL,ix,bdI,rk,lS,↓uL]
   exact⟨by have:=Z.1;omega,a58 G.hq,k j (by omega) (by omega) (D.trans u)⟩
  ·have o1:e.op≠1:=by omega
   have o2:e.op≠2:=by omega
   have o3:e.op≠3:=by omega
   have ol:Q ((L e.l:Int)=1)=I:=by simp[ac]
   simp only[aQI,u0,u1,C,gw,aj,o1,o2,o3,ol,aB9,↓iB,y9,rr,↓uL]
   refine⟨⟨by omega,by omega⟩,F G2 (by omega) (z _ (dB (by simp;omega))) λy i s3 j g1 X u=>?_⟩
   have M:=u.f.keep _ _ (q4 _ rfl) C
   simp only[a2x,u0,u1,M,gw,aj,y9,rr,↓uL]
   refine⟨⟨by omega,by omega⟩,F j (by omega) (z _ (dB (by simp;omega))) λa5 n5 s5 G5 g3 g4 S=>?_⟩
   have q5:=S.f.keep _ _ (j.out _ (by simp) (by simp)) M
   simp only[a2w,u0,u1,q5,gw,aj,bdI,↓uL]
   exact k G5 (by omega) (by omega) ((D.trans u).trans S)
def aRF(G:Gn κ Y b w loc a n)(j:n<90000){e:fc}(i:C6 2 e){dd:Int}(h:∀g f Y1,Gn (κ-1) Y1 b w loc g f->n<=f->f<=n+3->R4 b Y a Y1 g->K (.t []) Y1):cB 211 [.p b 0 0, .a e.c,iv dd] Y d K:=aPv rfl (bdC 2 G (by have:bV 2=3:=rfl;omega) i) h
def bda(G:Gn κ Y b w loc a n)(hn:n<80000){x:eo}(M:C6 2 x.expr)(hI:∀y∈x.index,C6 2 y)(P:x.index≠[]->x.name=qN)(ag:L x.index<=1):∃r Y1,GR (κ-1) 7 Y b w loc a n r Y1/\cZ aS GG 207 [.p b 0 0, .a x.c] Y r Y1:=by
 obtain⟨b1,i⟩:=b
 obtain rfl:b1=45:=G.sb
 refine bg1 G.le WV λS v3 K2 ah nf2 A=>?_
 have B:Fx Y S []:=K2.fx []
 have G2:=G.fx0 B
 have v:R4 (45,i) Y a S a:=R4.of0 B
 obtain⟨s,nx,H⟩:=G2.bx
 have F:=G.wb
 have hL:=G.lb
 have j:∀{z:ae} {o:AV} {m:Nat} {x:lF} {d:Nat},Gn κ z (45,i) w loc o m->n<=m->m<=n+6->R4 (45,i) Y a z o->cB 121 [.p (45,i) 0 0, .a x.c] z d λak W=>fe (GR (κ-1) 7 Y (45,i) w loc a n) W []:=λe h1 h2 g=>
  aPw e (by omega) λa' Y1 n' X g1 E Z=>⟨a',n',rfl,X,by omega,by omega,g.trans Z⟩
 simp only[aU4,oo H,u0,u1,H,A,gw,aj,y9,rr,↓uL]
 refine⟨λh=>?_,λh=>?_⟩
 ·have l:0<L x.index:=by simpa using h
  have O:x.index≠[]:=aqS.1 l
  refine⟨⟨by omega,by omega⟩,aRF G2 (by omega) (hI _ (dB (by simpa using l))) λo m T e g1 E g=>?_⟩
  have q:=g.f.keep _ _ (G2.out _ (by simp) (by simp)) A
  simp only[a19,u0,u1,q,gw,aj,↓uL]
  refine aRF e (by omega) M λa5 n5 s5 C g3 g4 D=>?_
  have q5:=D.f.keep _ _ (e.out _ (by simp) (by simp)) q
  obtain⟨s',R,u⟩:=C.bx
  have k:dG s5 (.a w.c)= .a w.c:=rfl
  simp only[a18,oo u,u0,u1,u,q5,gw,aRZ,aj,P O,jM,kU,jt,k,tW,aD6,AL,ix,bdI,rk,lS,↓uL]
  exact⟨by have:=F.1;omega,a58 G.hq,j (C.mono (by omega)) (by omega) (by omega) ((v.trans g).trans D)⟩
 ·refine aRF G2 (by omega) M λo m T e g1 E g=>?_
  have q:=g.f.keep _ _ (G2.out _ (by simp) (by simp)) A
  obtain⟨s',R,t⟩:=e.bx
  have k:dG T (.a w.c)= .a w.c:=rfl
  simp only[a2a,oo t,u0,u1,t,q,gw,aRZ,aj,jM,kU,jt,k,tW,alg,aD6,AL,bdI,lS,↓uL]
  exact⟨by omega,λ_=>j (e.mono (by omega)) (by omega) (by omega) (v.trans g),λ_=>⟨by have:=F.1;omega,j (e.mono (by omega)) (by omega) (by omega) (v.trans g)⟩⟩
def bcN(g:gm Y 209 6 a (ol.map lF.c)){i:Nat}(e:i<L ol){j:Nat}(z:j=1\/j=2){v:Int}{K:ae->Prop}(u:∀(Y':ae) (f:List lF),L f=L ol->gm Y' 209 6 a (f.map lF.c)->Fx Y Y' (aA a)->K Y'):rV (cz 6 Y a (iv i)) λl=>rV (iQ j Y l) λo=>sV (aK 1 Y o (iv v)) K:=by rcases g with⟨h,rfl⟩|⟨q,m,rfl,k⟩;simp at h;subst h;simp at e;have s:cz 6 Y (.m q (L (ol.map lF.c))) (iv i)=V (.p q i 0):=(by simp[cz,k,e]);have t:iQ j Y (.p q i 0)=V (.p q i j):=(by simp[iQ,k]);simp only[s,t,aY];have A:(ol.map lF.c++m)[i]?=V (lF.c (gd ol i)):=(by rw[xe (by simpa using e),ve,eC e,bT e];rfl);refine aQz (x:=iv v) k A (by show j<6;omega) rfl rfl rfl λY' F r=>?_;obtain⟨y,C⟩:∃y:lF,(lF.c (gd ol i)).set j (iv v)=y.c:=(by rcases z with rfl|rfl;exact⟨{gd ol i with a:=v},rfl⟩;exact⟨{gd ol i with b:=v},rfl⟩);have B:(ol.map lF.c++m).set i ((lF.c (gd ol i)).set j (iv v))=(ol.set i y).map lF.c++m:=(by rw[C,List.set_append_left _ _ (by simpa using e),vB]);refine u Y' (ol.set i y) (by simp) (.inr ⟨q,m,by simp,?_⟩) (by simpa[aA] using F);rw[r,<-B];rfl
def Gn.patch(G:Gn κ Y b w loc a n){i:Nat}(A:i<n){j:Nat}(p:j=1\/j=2){v:Int}{K:ae->Prop}(m:∀Y',Gn κ Y' b w loc a n->R4 b Y a Y' a->K Y'):rV (cz 6 Y a (iv i)) λf=>rV (iQ j Y f) λk=>sV (aK 1 Y k (iv v)) K:=by obtain⟨s,t,r,o⟩:=G.bx0;obtain⟨x,g,B⟩:=G.ga;refine bcN g (by omega) p λY' e u l F=>m Y' ⟨⟨s,t,r,F.keep _ _ (λc=>by have y:=G.sa _ c;have z:=G.sb;omega) o⟩,⟨e,l,by omega⟩,F.len.trans G.le,G.sb,G.sa,G.wb,G.lb,G.hq⟩ ⟨F.mono λq c=> .inl (zu _ c),λ_ h=> .inl h⟩
def Gn.set(G:Gn κ Y b w loc a n){v:Int}{K:ae->Prop}(i:∀Y',Gn κ Y' b w loc a n->Fx Y Y' [b]->K Y'):sV (aK 1 Y (.p b 0 8) (iv v)) K:=by obtain⟨s,m,l,j⟩:=G.bx0;obtain⟨f,g,k⟩:=G.ga;exact A0 j rfl (by simp) λY' F h=>i Y' ⟨⟨v,m,l,h⟩,⟨f,g.fx F (λq c e=>by have o:=G.sa q c;have r:=G.sb;simp at e;subst e;omega),k⟩,F.len.trans G.le,G.sb,G.sa,G.wb,G.lb,G.hq⟩ F
def Gn.nxt(G:Gn κ Y b w loc a n){v:Int}(j:0<=v)(c:v<=n+κ){K:ae->Prop}(k:∀Y',Gn κ Y' b w loc a n->Fx Y Y' [b]->K Y'):sV (aK 1 Y (.p b 0 9) (iv v)) K:=by obtain⟨s,t,r,l⟩:=G.bx0;obtain⟨h,g,m⟩:=G.ga;exact A0 l rfl (by simp) λY' F i=>k Y' ⟨⟨s,v,⟨j,c⟩,i⟩,⟨h,g.fx F (λq f e=>by have c:=G.sa q f;have o:=G.sb;simp at e;subst e;omega),m⟩,F.len.trans G.le,G.sb,G.sa,G.wb,G.lb,G.hq⟩ F
def bG:Nat->Nat|0=>0|m+1=>10+8*bG m
def aRo(b:Id)(w:br)(loc:List ByteArray)(m:Nat):Prop:=∀{κ:Int} {Y:ae} {a:AV} {n:Nat} {l:List eo},Gn κ Y b w loc a n->κ<=1000000->shL m 8 l->n+L l*bG m<60000->∃r Y1,GR κ (L l*bG m) Y b w loc a n r Y1/\cZ aS GG 120 [.p b 0 0,sl eo.c l] Y r Y1
def aV7{m:Nat}(q:aRo b w loc m)(G:Gn κ Y b w loc a n)(i:κ<=1000000){l:List eo}(g:shL m 4 l)(s:n+4*bG m<60000)(o:∀f e Y1,Gn κ Y1 b w loc f e->n<=e->e<=n+4*bG m->R4 b Y a Y1 f->K (.t []) Y1):cB 120 [.p b 0 0,sl eo.c l] Y d K:=by have h:L l*bG m<=4*bG m:=qo _ g.1;exact aPv rfl (q G i ⟨by have:=g.1;omega,g.2⟩ (by omega)) λf e Y1 j k r h=>o f e Y1 j k (by omega) h
def bc9{m:Nat}(E:aRo b w loc m)(G:Gn κ Y b w loc a n){x:eo}(D:A5 (m+1) x)(hn:n+bG (m+1)<60000)(S:κ<=1000001)(o1 H y:Int):∃r Y1,GR (κ-1) (bG (m+1)) Y b w loc a n r Y1/\cZ aS GG 209 [.p b 0 0, .a x.c,iv o1,iv H,iv y] Y r Y1:=by obtain⟨m',R,g1,g2⟩:=D.body;obtain rfl:m=m':=(by omega);have P:bG (m+1)=10+8*bG m:=rfl;obtain⟨B,C⟩:=b;obtain rfl:B=45:=G.sb;refine bg0 G.le WV λl v3 K2 T nf2 M=>?_;have g:Fx Y l []:=K2.fx [];have G2:=G.fx0 g;have v:R4 (45,C) Y a l a:=R4.of0 g;obtain⟨s,nx,k⟩:=G2.bx;simp only[aU3,oo k,u0,u1,k,yr,C5,yd,aj,bdI,↓uL];refine aPw G2 (by omega) λX s3 n3 q h1 h2 i=>?_;have O:=i.f.keep _ _ (G2.out _ (by simp) (by simp)) M;simp only[a17,u0,u1,O,gw,aj,↓uL];refine aV7 E q (by omega) g1 (by omega) λZ n4 s4 h h3 h4 j=>?_;obtain⟨s',W,e⟩:=h.bx;simp only[a16,oo e,u0,u1,e,aj,↓uL];refine h.set λs5 t o=>?_;simp only[a15,bdI,aY];refine aPw t (by omega) λA s6 F u h5 h6 z=>⟨A,F,rfl,u.mono (by omega),by omega,by omega,(((v.trans i).trans j).trans (R4.ofb o)).trans z⟩
def a6I{m:Nat}(ih:aRo b w loc m)(G:Gn κ Y b w loc a n){x:eo}(hx:A5 (m+1) x)(he:C6 2 x.expr)(hn:n+bG (m+1)<60000)(aV:κ<=1000001):∃r Y1,GR (κ-1) (bG (m+1)) Y b w loc a n r Y1/\cZ aS GG 208 [.p b 0 0, .a x.c] Y r Y1:=by obtain⟨m',aR,g1,g2⟩:=hx.body;obtain rfl:m=m':=(by omega);have aQ:bG (m+1)=10+8*bG m:=rfl;obtain⟨b1,W⟩:=b;obtain rfl:b1=45:=G.sb;refine bg2 G.le WV λs2 v3 K2 aW nf2 q2=>?_;have D:Fx Y s2 []:=K2.fx [];have G2:=G.fx0 D;have R2:R4 (45,W) Y a s2 a:=R4.of0 D;obtain⟨s,nx,hb⟩:=G2.bx;obtain⟨o2,X,aT⟩:=G2.ga;simp only[aU5,oo hb,u0,u1,hb,q2,gw,aj,X.ln,↓uL];refine aRF G2 (by omega) he λa3 n3 s3 l h1 h2 P=>?_;have q3:=P.f.keep _ _ (G2.out _ (by simp) (by simp)) q2;obtain⟨s',aX,t⟩:=l.bx;obtain⟨o3,Z,ad⟩:=l.ga;simp only[a2i,oo t,u0,u1,t,yr,C5,yd,aj,Z.ln,bdI,↓uL];refine aPw l (by omega) λa4 s4 n4 H h3 h4 q=>?_;have q4:=q.f.keep _ _ (l.out _ (by simp) (by simp)) q3;simp only[a2h,u0,u1,q4,gw,aj,↓uL];refine aV7 ih H (by omega) g1 (by omega) λS n5 s5 M h5 h6 R=>?_;have q5:=R.f.keep _ _ (H.out _ (by simp) (by simp)) q4;obtain⟨a6,aF,u⟩:=M.bx;simp only[a2g,oo u,u0,u1,u,aj,↓uL];refine M.set λs6 h E=>?_;have q6:=E.kq q5;have A:R4 (45,W) Y a s6 S:=(((R2.trans P).trans q).trans R).trans (R4.ofb E);obtain⟨ba,aY,v⟩:=h.bx;obtain⟨o6,aa,ae⟩:=h.ga;have B:L (o3.map lF.c)=n3:=(by simp[ad]);simp only[a2f,oo v,u0,u1,v,q6,gw,aj,aa.ln,bdI,B,↓uL];refine⟨λ_=>?_,λ_=>⟨λ_=>?_,λ_=>?_⟩⟩;refine aPw h (by omega) λT s7 n7 e h7 h8 o=>?_;obtain⟨aq,al,g⟩:=e.bx;obtain⟨o7,k,af⟩:=e.ga;simp only[a2b,oo g,u0,u1,g,yr,C5,yd,aj,k.ln,↓uL];refine e.patch (by omega) (.inr rfl) λs8 j i=>?_;exact⟨T,n7,rfl,j.mono (by omega),by omega,by omega,(A.trans o).trans i⟩;refine h.patch (by omega) (.inr rfl) λs8 j i=>?_;exact⟨S,n5,rfl,j.mono (by omega),by omega,by omega,A.trans i⟩;refine aPw h (by omega) λT s7 n7 e h7 h8 o=>?_;have q7:=o.f.keep _ _ (h.out _ (by simp) (by simp)) q6;obtain⟨aq,al,g⟩:=e.bx;obtain⟨o7,k,af⟩:=e.ga;simp only[a2e,oo g,u0,u1,g,yr,C5,yd,aj,k.ln,↓uL];refine e.patch (by omega) (.inr rfl) λs8 j i=>?_;have q8:=i.f.keep _ _ (e.out _ (by simp) (by simp)) q7;simp only[a2d,u0,u1,q8,gw,aj,↓uL];refine aV7 ih j (by omega) g2 (by omega) λa9 n9 s9 z h9 aP R9=>?_;obtain⟨bb,aZ,y⟩:=z.bx;obtain⟨o9,ab,aU⟩:=z.ga;have C:L (o6.map lF.c)=n5:=(by simp[ae]);simp only[a2c,oo y,u0,u1,y,yr,C5,yd,aj,ab.ln,C,↓uL];refine z.patch (by omega) (.inl rfl) λa8 F O=>?_;exact⟨a9,n9,rfl,F.mono (by omega),by omega,by omega,(((A.trans o).trans i).trans R9).trans O⟩
def bde(G:Gn κ Y b w loc a n)(i:ByteArray):∃r Y1,((∃v,r= .s v/\∃u:Int,AV.s v=iv u)/\Fx Y Y1 [])/\cZ aS GG 210 [.p b 0 0,st i] Y r Y1:=by refine bg3 G.le ?_;obtain⟨s,o,e⟩:=G.bx;have j:=G.wb.2.2.1;simp only[aU6];refine C7 (L w.bC) (λk=>True) trivial λk m l=>?_;have g:∀u:Int,fe (λr Y1=>(∃v,r= .s v/\∃u:Int,AV.s v=iv u)/\Fx Y Y1 []) Y [iv u]:=λu=>⟨⟨_,rfl,u,rfl⟩,Fx.refl _ _⟩;simp+contextual only[a2j,aI,au,oo e,u0,u1,e,yr,C5,yd,rk,aj,aBz (f:=yp.c) (z:=2) (λ_=>rfl),bh,g,↓uL];exact⟨λh=>⟨bA h,λ_=>trivial,λ_=>gS (aL h) (by omega) trivial⟩,λ_=>trivial⟩
def baW(G:Gn κ Y b w loc a n){c:ByteArray}(e:∀u:Int,K (iv u) Y):cB 210 [.p b 0 0,st c] Y d K:=aV6 rfl (bde G c) (by rintro v ⟨u,f⟩;rw[f];exact e u)
def bdx{m:Nat}(X:aRo b w loc m)(G:Gn κ Y b w loc a n){x:eo}(H:A5 (m+1) x)(W:n+bG (m+1)<60000)(aJ:κ<=1000000):∃r Y1,GR κ (bG (m+1)) Y b w loc a n r Y1/\cZ aS GG 178 [.p b 0 0, .a x.c] Y r Y1:=by
 have B:=H.at
 have ho:=H.ops
 have aF:bG (m+1)=10+8*bG m:=rfl
 obtain⟨b1,i⟩:=b
 obtain rfl:b1=45:=G.sb
 refine bg5 G.le WV λs2 v3 K2 aK nf2 q2=>?_
 have F2:Fx Y s2 []:=K2.fx []
 have G2:=G.fx0 F2
 obtain⟨s,nx,hb⟩:=G2.bx
 simp only[aU8,oo hb,u0,u1,hb,yr,C5,yd,aj,↓uL]
 refine G2.set λs3 M F3=>?_
 have q3:=F3.kq q2
 obtain⟨s',am,aG,P⟩:=M.bx0
 simp only[a2r,oo P,u0,u1,P,yr,C5,yd,aj,eM (x:=am+1) (by omega) (by omega),↓uL]
 refine(M.mono (κ':=κ+1) (by omega)).nxt (by omega) (by omega) λE g F4=>?_
 have q4:=F4.kq q3
 have j:R4 (45,i) Y a E a:=((R4.of0 F2).trans (R4.ofb F3)).trans (R4.ofb F4)
 obtain⟨aM,ay,C⟩:=g.bx
 have A:=g.wb
 have hL:=g.lb
 have O:∀{T:ae} {a3:AV} {Z:Nat} {x:lF} {d:Nat},Gn (κ+1) T (45,i) w loc a3 Z->n<=Z->Z<=n+3->R4 (45,i) Y a T a3->cB 121 [.p (45,i) 0 0, .a x.c] T d λS v=>fe (GR κ (bG (m+1)) Y (45,i) w loc a n) v []:=λM l o R3=>
  aPw M (by omega) λk Y1 q G' g1 g2 R'=>⟨k,q,rfl,G'.mono (by omega),by omega,by omega,R3.trans R'⟩
 have t:∀{o1 o2 y:Int} {d:Nat},cB 209 [.p (45,i) 0 0, .a x.c,iv o1,iv o2,iv y] E d λS v=>fe (GR κ (bG (m+1)) Y (45,i) w loc a n) v []:=λ{o1 o2 y d}=>
  aPv rfl (bc9 X g H W (by omega) o1 o2 y) λk q Y1 l o D z=>⟨k,q,rfl,l.mono (by omega),o,D,j.trans z⟩
 have F:∀{nm:ByteArray} {d:Nat} {K:be},(∀u:Int,K (iv u) E)->cB 210 [.p (45,i) 0 0,st nm] E d K:=λhK=>baW g hK
 have e:∀{x:lF} {d:Nat},cB 121 [.p (45,i) 0 0, .a x.c] E d λS v=>fe (GR κ (bG (m+1)) Y (45,i) w loc a n) v []:=λ{x d}=>O g (by omega) (by omega) j
 have aE:dG E (.a w.c)= .a w.c:=rfl
 simp only[a2q,oo C,u0,u1,C,q4,gw,aj,↓uL]
 have hc:x.op=1\/x.op=2\/x.op=3\/x.op=4\/x.op=5\/x.op=6\/x.op=7\/x.op=8\/x.op=9\/x.op=10\/x.op=11\/x.op=12\/x.op=13\/x.op=14\/x.op=15:=by omega
 rcases hc with h|h|h|h|h|h|h|h|h|h|h|h|h|h|h
 all_goals
  simp only[h,aI,au,a2t,a2s,oo C,u0,u1,C,q4,gw,aj,aNK,aB9,Int.reduceEq,↓iC,↓iB,jM,kU,jt,tW,alg,aD6,rr,bdI,lS,Ca,sr,eE,vp,o8,↓uL]
 ·exact aPv rfl (bda g (by omega) (B.1 (.inl h)) B.2.2.1 B.2.2.2.1 B.2.1) λk q Y1 l o D z=>⟨k,q,rfl,l.mono (by omega),o,by omega,j.trans z⟩
 ·exact aPv rfl (a6I X g H (B.1 (by omega)) W (by omega)) λk q Y1 l o D z=>⟨k,q,rfl,l.mono (by omega),o,D,j.trans z⟩
 ·exact aPv rfl (a6I X g H (B.1 (by omega)) W (by omega)) λk q Y1 l o D z=>⟨k,q,rfl,l.mono (by omega),o,D,j.trans z⟩
 ·exact⟨by have:=A.2.1;omega,λ_=>t⟩
 ·exact⟨by have:=A.2.1;omega,λ_=>t⟩
 ·exact⟨by have:=A.2.1;omega,λ_=>t⟩
 ·exact t
 ·exact t
 ·exact F λu=>by simp only[a2m,bdI,aY];exact e
 ·exact F λu=>by simp only[a2n,bdI,aY];exact e
 ·exact F λu=>by simp only[a2o,bdI,aY];exact e
 ·exact⟨by have:=A.2.2.2.2.1;omega,e⟩
 ·exact⟨by have:=A.2.2.2.2.1;omega,e⟩
 ·refine aRF g (by omega) (B.1 (by omega)) λa5 n5 s5 G5 l o R5=>?_
  have q5:=R5.f.keep _ _ (g.out _ (by simp) (by simp)) q4
  obtain⟨aN,aL,R⟩:=G5.bx
  have av:dG s5 (.a w.c)= .a w.c:=rfl
  simp only[a2p,oo R,u0,u1,R,q5,gw,aj,jM,kU,jt,tW,alg,aD6,AL,bdI,lS,↓uL]
  exact⟨by have:=A.2.2.2.1;omega,O (G5.mono (by omega)) (by omega) (by omega) (j.trans R5)⟩
 ·exact⟨by omega,by have:=A.2.2.2.1;omega,e⟩
def bdz(m:Nat):m<=4->aRo b w loc m:=by induction m with|zero=>intro _ κ Y a n l G p e v;have o:l=[]:=(by cases l with|nil=>rfl|cons x l=>exact(e.2 x (by simp)).elim);subst o;refine a7T G.le ?_;simp only[aSu];refine yV 0 (λ_ _ Y'=>Y'=Y) rfl ?_;rintro k _ Y1 j rfl;obtain rfl:k=0:=(by omega);simp only[aU9,aI,au,u0,u1,vw,↓uL];exact⟨λh=>by simp at h,λ_=>⟨a,n,rfl,G,by omega,by omega,R4.refl⟩⟩|succ m y=>intro F κ Y a n l G p e v;have E:=G.le;have A:bG (m+1)<=46810:=(by have:m=0\/m=1\/m=2\/m=3:=(by omega);rcases this with rfl|rfl|rfl|rfl<;>decide);refine a7T G.le ?_;simp only[aSu];refine jD (α:=AV×Nat) (λ_ i=>[iv i]) 0 (L l) (λi x Y'=>Gn κ Y' b w loc x.1 x.2/\n<=x.2/\x.2<=n+i*bG (m+1)/\R4 b Y a Y' x.1) (s0:=(a,n)) ⟨G,by omega,by omega,R4.refl⟩ ?_;rintro k ⟨a1,q⟩ Y1 j ⟨f,t,D,g⟩;have B:k*bG (m+1)<=L l*bG (m+1):=qo _ j;simp only[aU9,aI,au,u0,u1,y9,bh,rr,gw,↓uL];refine⟨λh=>⟨bA h,?_⟩,λ_=>⟨a1,q,rfl,f,t,by omega,g⟩⟩;have c:=aL h;have H:(k+1)*bG (m+1)=k*bG (m+1)+bG (m+1):=tN _ _;have u:(k+1)*bG (m+1)<=L l*bG (m+1):=qo _ c;refine aPv rfl (bdx (y (by omega)) f (e.2 _ (dB c)) (by omega) (by omega)) λa2 z Y2 G2 g1 C r=>?_;simp only[a2u,au,u0,u1,↓uL];exact dR (mk:=λ(_:AV×Nat) i=>[iv i]) (s:=(a1,q)) (s':=(a2,z)) (λ_ _=>rfl) c (by have:=e.1;omega) ⟨G2,by omega,by omega,g.trans r⟩
def ba2(G:Gn κ Y b w loc a 0){l:List eo}(h:shL 4 8 l)(i:κ<=1000000)(k:∀e f Y1,Gn κ Y1 b w loc e f->f<=50000->R4 b Y a Y1 e->K (.t []) Y1):cB 120 [.p b 0 0,sl eo.c l] Y d K:=by have q:L l*bG 4<=8*bG 4:=qo _ h.1;have g:bG 4=5850:=rfl;exact aPv rfl (bdz 4 (by omega) G i h (by omega)) λe f Y1 j m o g=>k e f Y1 j (by omega) g
end
def aQN{fn:FuncId}{xs:List AV}{Y:ae}{d:Nat}{K:be}{R:be}{ks:List Nat}(n:uQ.elem fn=I)(k:fps.lookup fn=V ks)(l:List Id)(a:∀x∈xs,okX ks l x)(f:okB ks l (Nm ks l Y))(h:∃r Y1,R r Y1/\cZ aS GG fn xs (Nm ks l Y) r Y1)(j:∀r Y1,R r Y1->L Y1=L Y/\∃l':List Id,okB ks l' Y1/\okX ks l' r/\K r (avs ks l' Y Y1)):cV fn xs Y d K:=by obtain⟨r,Y1,g,i⟩:=h;obtain⟨m,l',o,p,q⟩:=j r Y1 g;have e:aPf GGV fn=V ks:=(by have b:GGV.fp fn=V ks:=k;have c:GGV.rd fn=I:=n;unfold aPf;rw[b,c];rfl);unfold cV tR;rw[e];exact⟨l,l',r,Y1,i,m,a,f,o,p,q⟩
section
variable{ks:List Nat}{l:List Id}{Y Y1:ae}
def aQw{e:TypeId}{z:Nat}{a:AV}{aa:List (List AV)}(g:gm Y1 e z a aa)(h:∀q∈aA a,A6 ks l q):okC ks l a:=by rcases g with⟨_,rfl⟩|⟨q,m,rfl,_⟩;exact .inr rfl;exact h q (by simp[aA])
def a6y{e:TypeId}{z:Nat}{a:AV}{aa:List (List AV)}(g:gm Y e z a aa)(h:∀q∈aA a,A6 ks l q):gm (Nm ks l Y) e z a aa:=by rcases g with g|⟨q,r,rfl,g⟩;exact .inl g;have b:=h q (by simp[aA]);exact .inr ⟨q,r,rfl,by rw[aOV b.1,bX b.2];exact g⟩
def aRR(c:L Y1=L Y){e:TypeId}{z:Nat}{a:AV}{aa:List (List AV)}(g:gm Y1 e z a aa)(h:∀q∈aA a,A6 ks l q):gm (avs ks l Y Y1) e z a aa:=by rcases g with g|⟨q,r,rfl,g⟩;exact .inl g;have b:=h q (by simp[aA]);exact .inr ⟨q,r,rfl,by rw[aPT c b.1,bX b.2];exact g⟩
def aNO{e:TypeId}{z:Nat}{a:AV}{aa:List (List AV)}(g:gm Y e z a aa):∀p∈aA a,∀x,box Y p=V x->x.var=U->False:=by rcases g with⟨_,rfl⟩|⟨f,r,rfl,g⟩;simp[aA];intro p b x c d;simp only[aA,cE] at b;subst b;rw[g] at c;cases c;cases d
end
structure Kx(ks:List Nat)(Y Y':ae):Prop where
 len:L Y'=L Y
 keep:∀b x,b.1∉ks->box Y b=V x->box Y' b=V x
def Kx.mix{ks:List Nat}{l:List Id}{Y Y1:ae}:Kx ks Y (avs ks l Y Y1):=⟨aPl,λb x a c=>by rw[aPt a];exact c⟩
def Kx.kq{ks:List Nat}{Y Y':ae}(k:Kx ks Y Y'){b:Id}{x:bY}(c:box Y b=V x)(a:b.1∉ks:=by simp):box Y' b=V x:=k.keep b x a c
section
variable{ks:List Nat}{Y Y' Y1:ae}{m b:Id}{hs:List ByteArray}{h:AV}{d:Nat}{K:be}{l:List Id}
def Kx.gr(k:Kx ks Y Y'){e:TypeId}{z:Nat}{a:AV}{aa:List (List AV)}(g:gm Y e z a aa)(c:∀q∈aA a,q.1∉ks):gm Y' e z a aa:=by rcases g with g|⟨b,m,rfl,g⟩;exact .inl g;exact .inr ⟨b,m,rfl,k.keep _ _ (c b (by simp[aA])) g⟩
def Fx.kx{c:List Id}(F:Fx Y Y' c)(e:∀q∈c,q.1∈ks):Kx ks Y Y':=⟨F.len,λb x f i=>F.keep b x (λg=>f (e b g)) i⟩
def qa.mix(M:qa Y1 m b hs h)(c:L Y1=L Y)(g:A6 ks l m)(f:A6 ks l b)(j:∀q∈aA h,A6 ks l q):qa (avs ks l Y Y1) m b hs h:=by obtain⟨p,n,s,tx,e,o,k⟩:=M.mx;obtain⟨i,a,T⟩:=M.tp;refine⟨⟨p,n,s,tx,e,o,?_⟩,⟨i,a,⟨?_,T.le,T.ok,T.ll⟩⟩,aRR c M.gh j,by rw[aPl,<-c];exact M.le,M.sm,M.sb,M.sh⟩;rw[aPT c g.1,bX g.2];exact k;rw[aPT c f.1,bX f.2];exact T.bx
def qa.cut(M:qa Y m b hs h)(f:A6 ks l m)(e:A6 ks l b)(i:∀q∈aA h,A6 ks l q):qa (Nm ks l Y) m b hs h:=by obtain⟨o,k,s,tx,c,n,j⟩:=M.mx;obtain⟨g,a,T⟩:=M.tp;refine⟨⟨o,k,s,tx,c,n,?_⟩,⟨g,a,⟨?_,T.le,T.ok,T.ll⟩⟩,a6y M.gh i,by rw[aOr];exact M.le,M.sm,M.sb,M.sh⟩;rw[aOV f.1,bX f.2];exact j;rw[aOV e.1,bX e.2];exact T.bx
def qa.aa(M:qa Y1 m b hs h)(g:A6 ks l b)(i:∀q∈aA h,A6 ks l q):∀p,p=m\/p=b\/p∈aA h->∀x,box Y1 p=V x->x.var=U->∀q∈x.aa,∀y∈q,okC ks l y:=by obtain⟨w,t,s,tx,o,u,n⟩:=M.mx;obtain⟨r,a,T⟩:=M.tp;rintro p (rfl|rfl|j) x c k q e y f;rw[n] at c;cases c;simp only[cE] at e;subst e;simp only[eW,ql,y6] at f;rcases f with rfl|rfl|rfl|rfl|rfl|rfl|rfl|rfl;exact g;trivial;trivial;trivial;trivial;trivial;trivial;exact aQw M.gh i;rw[T.bx] at c;cases c;simp only[cE] at e;subst e;simp only[eW,ql,y6] at f;rcases f with rfl|rfl;exact .inl rfl;trivial;exact(aNO M.gh p j x c k).elim
def aXR(M:qa Y m b hs h){n:Int}(E:∀(x:Int) Y1,0<=x->(1<=n->x<n)->qa Y1 m b hs h->Kx [14,15,16] Y Y1->K (iv x) Y1):cV 66 [.p b 0 0,iv n] Y d K:=by have u:=M.sm;have t:=M.sb;have y:A6 [14,15,16] (m::b::aA h) m:=⟨by simp[u],by simp⟩;have e:A6 [14,15,16] (m::b::aA h) b:=⟨by simp[t],by simp⟩;have f:∀q∈aA h,A6 [14,15,16] (m::b::aA h) q:=λq o=>⟨by simp[M.sh q o],by simp[o]⟩;have c:=M.cut y e f;obtain⟨z,a,T⟩:=c.tp;refine aQN rfl rfl (m::b::aA h) (λx w=>?_) (λp i=>c.aa e f p (by simpa using i)) (aWF c.le T n) ?_;simp only[eW,ql,y6] at w;rcases w with rfl|rfl;exact e;trivial;rintro r Y1 ⟨x,A,rfl,B,C,D,P,_,F⟩;have g:qa Y1 m b hs h:=(by obtain⟨O,H,s,tx,j,N,G⟩:=c.mx;exact⟨⟨O,H,s,tx,j,N,F.keep _ _ (by simpa using M.ne) G⟩,⟨z,A,D⟩,c.gh.fx F M.nb,F.len.trans c.le,M.sm,M.sb,M.sh⟩);have k:L Y1=L Y:=g.le.trans M.le.symm;exact⟨k,m::b::aA h,λp i=>g.aa e f p (by simpa using i),trivial,E x _ B C (g.mix k y e f) Kx.mix⟩
def baZ{D:Nat}(M:qa Y m b hs h)(X:L hs+D<=500){A n:Int}(W:A=D)(P:0<=n)(S:n<=3)(T:∀(a:AV) (l:List eo) (h':AV) Y1,gm Y1 219 11 a (l.map eo.c)->(L l:Int)<=n->(∀x∈l,A5 (D+1) x)->(∀q∈aA a,q.1=30)->qa Y1 m b hs h'->Kx [14,15,16,30] Y Y1->K a Y1):cV 124 [.p m 0 0,iv A,iv n] Y d K:=by subst W;have u:=M.sm;have t:=M.sb;have F:A6 [14,15,16,30] (m::b::aA h) m:=⟨by simp[u],by simp⟩;have C:A6 [14,15,16,30] (m::b::aA h) b:=⟨by simp[t],by simp⟩;have E:∀q∈aA h,A6 [14,15,16,30] (m::b::aA h) q:=λq e=>⟨by simp[M.sh q e],by simp[e]⟩;have z:=M.cut F C E;refine aQN rfl rfl (m::b::aA h) (λx g=>?_) (λp f=>z.aa C E p (by simpa using f)) (bdw D z X P S) ?_;simp only[eW,ql,y6] at g;rcases g with rfl|rfl|rfl;exact F;trivial;trivial;rintro r Y1 ⟨l,h',g1,N,O,B,k,R⟩;have o:L Y1=L Y:=k.le.trans M.le.symm;have G:A6 [14,15,16,30] (m::b::(aA h'++aA r)) m:=⟨by simp[u],by simp⟩;have i:A6 [14,15,16,30] (m::b::(aA h'++aA r)) b:=⟨by simp[t],by simp⟩;have j:∀q∈aA h',A6 [14,15,16,30] (m::b::(aA h'++aA r)) q:=λq e=>⟨by simp[k.sh q e],by simp[e]⟩;have H:∀q∈aA r,A6 [14,15,16,30] (m::b::(aA h'++aA r)) q:=λq e=>⟨by simp[(B q e).2],by simp[e]⟩;refine⟨o,m::b::(aA h'++aA r),?_,?_,T r l h' _ (aRR o g1 H) N O (λq e=>(B q e).2) (k.mix o G i j) Kx.mix⟩;intro p f x g s q e y w;simp only[eW,dF] at f;rcases f with f|f|f|f;exact k.aa i j p (.inl f) x g s q e y w;exact k.aa i j p (.inr (.inl f)) x g s q e y w;exact k.aa i j p (.inr (.inr f)) x g s q e y w;exact(aNO g1 p f x g s).elim;have:=aQw (ks:=[14,15,16,30]) (l:=m::b::(aA h'++aA r)) g1 H;rcases g1 with⟨_,rfl⟩|⟨q,Z,rfl,_⟩<;>exact this
end
def apX{Y:ae}{e:TypeId}{z d by':Nat}{zs:List AV}{a x:AV}{aa new:List (List AV)}{K:be}(i:gm Y e z a aa)(w:gm Y e z x new)(C:L zs=z)(o:0<z)(y:d<L Y)(B:∀r∈aa,L r=z)(A:∀r∈new,L r=z)(f:(L aa+L new)*(by'+1)<=1099511627776)(n:∀c Y',gm Y' e z c (aa++new)->Fx Y Y' (aA a)->(∀b∈aA c,b∈aA a\/b.1=d)->K c Y'):eV (j5 e zs by' Y d a x) K:=by have t:gL Y x=V new:=(by rcases w with⟨rfl,rfl⟩|⟨q,m,rfl,j⟩;rfl;simp[gL,j]);have u:j5 e zs by' Y d a x=j5 e zs by' Y d a (.l new U U):=(by have s:gL Y (.l new U U)=V new:=rfl;unfold j5;rw[t,s]);rw[u];by_cases k:new=[];subst k;have:j5 e zs by' Y d a (.l [] U U)=V (a,Y):=(by unfold j5;simp only[gL];rw[bX (by simp)];rcases i with⟨_,rfl⟩|⟨q,m,rfl,j⟩;rfl;simp[j]);rw[this];exact n a Y (by simpa using i) (Fx.refl _ _) λb f=> .inl f;exact qs i C o y B A k f λc Y' g F N=>n c Y' g.p F λb f=> .inr (N b f).2
structure MPs(Y:ae)(m b:Id)(v1 v4:Nat)(h:AV)(ts:List xt)(a:AV):Prop where
 M:qa Y m b [] h
 p:box Y (4,v4)=V ⟨143,2,U,U,[[sl w6.c aNF,a]]⟩
 ga:gm Y 203 4 a (ts.map xt.c)
 pa:∀q∈aA a,q.1=93
 r:box Y (2,v1)=V ⟨143,2,U,U,[aP6]⟩
 ht:∀t∈ts,shT t
structure TB(Y:ae)(v:Nat)(nm:ByteArray)(a:AV)(l:List eo):Prop where
 p:box Y (8,v)=V ⟨203,4,U,U,[[st nm,iv 0, .l ([⟨#[97]⟩,⟨#[98]⟩].map cs) U U,a]]⟩
 ga:gm Y 219 11 a (l.map eo.c)
 pa:∀q∈aA a,q.1=56\/q.1=68\/q.1=87
 hs:∀s∈l,A5 4 s
section
variable{ks:List Nat}{Y Y':ae}{m b:Id}{v1 v4 v:Nat}{h h' a:AV}{ts:List xt}{nm:ByteArray}{l:List eo}{Lw:List Id}
def MPs.kx(S:MPs Y m b v1 v4 h ts a)(k:Kx ks Y Y')(M:qa Y' m b [] h')(c:4∉ks)(e:2∉ks)(f:93∉ks):MPs Y' m b v1 v4 h' ts a:=⟨M,k.keep _ _ c S.p,k.gr S.ga λq g=>by rw[S.pa q g];exact f,S.pa,k.keep _ _ e S.r,S.ht⟩
theorem MPs.fx(S:MPs Y m b v1 v4 h ts a)(F:Fx Y Y' Lw)(c:∀q∈Lw,q.1=8\/q.1=56\/q.1=68\/q.1=87):MPs Y' m b v1 v4 h ts a:=by have i:=S.M.sm;have f:=S.M.sb;refine⟨S.M.fx F (λg=>by have:=c _ g;omega) (λg=>by have:=c _ g;omega) (λq e g=>by have:=c _ g;have:=S.M.sh q e;omega),F.keep _ _ (λg=>by have:=c _ g;simp at this) S.p,S.ga.fx F (λq e g=>by have:=c _ g;have:=S.pa q e;omega),S.pa,F.keep _ _ (λg=>by have:=c _ g;simp at this) S.r,S.ht⟩
def TB.kx(S:TB Y v nm a l)(k:Kx ks Y Y')(c:8∉ks)(f:56∉ks)(i:68∉ks)(j:87∉ks):TB Y' v nm a l:=⟨k.keep _ _ c S.p,k.gr S.ga (λq e=>by rcases S.pa q e with g|g|g<;>rw[g]<;>assumption),S.pa,S.hs⟩
def TB.fx0(S:TB Y v nm a l)(F:Fx Y Y' Lw)(c:∀q∈Lw,q.1≠8/\q.1≠56/\q.1≠68/\q.1≠87):TB Y' v nm a l:=⟨F.keep _ _ (λg=>(c _ g).1 rfl) S.p,S.ga.fx F (λq e g=>by have:=c _ g;have:=S.pa q e;omega),S.pa,S.hs⟩
def TB.set{k:AV}(r:box Y (8,v)=V ⟨203,4,U,U,[[st nm,iv 0, .l ([⟨#[97]⟩,⟨#[98]⟩].map cs) U U,k]]⟩){f:AV}{l':List eo}(g:gm Y 219 11 f (l'.map eo.c))(i:∀q∈aA f,q.1=56\/q.1=68\/q.1=87)(j:∀s∈l',A5 4 s){K:ae->Prop}(o:∀Y1,TB Y1 v nm f l'->Fx Y Y1 [(8,v)]->K Y1):sV (aK 1 Y (.p (8,v) 0 3) f) K:=A0 r g.ce (by simp) λY1 F n=>o Y1 ⟨n,g.fx F (λq t e=>by have:=i q t;simp at e;subst e;simp at this),i,j⟩ F
end
def baI{Y:ae}:aX C9 4 Y [(0,(sv [109,97,105,110])),(1,(sv [116,49])),(2,(sv [116,50])),(3,(sv [116,51]))]=V (.l ([⟨#[109,97,105,110]⟩,⟨#[116,49]⟩,⟨#[116,50]⟩,⟨#[116,51]⟩].map cs) U U,Y):=by kernel_rfl
def bas{nm:ByteArray}:bM aPM alz [(0,st nm),(2, .l ([⟨#[97]⟩,⟨#[98]⟩].map cs) U U)]=V (.a [st nm,iv 0, .l ([⟨#[97]⟩,⟨#[98]⟩].map cs) U U, .l [] U U]):=rfl
def a5R{o:Int}{nm:ByteArray}:bM A4 aon [(0,iv o),(2,st nm)]=V (.a [iv o,iv 0,st nm,sv [], .l [] U U,iv 0,iv 0,sv [], .l [] U U, .l [] U U, .l [] U U]):=rfl
def a51{Y:ae}{o:Int}{nm:ByteArray}:aX aNA 1 Y [(0, .a [iv o,iv 0,st nm,sv [], .l [] U U,iv 0,iv 0,sv [], .l [] U U, .l [] U U, .l [] U U])]=V (.l ([eo.mk o 0 nm ⟨#[]⟩ [] (fc.mk 0 0 ⟨#[]⟩ []) [] []].map eo.c) U U,Y):=aQm (tgt:=(eo.mk o 0 nm ⟨#[]⟩ [] (fc.mk 0 0 ⟨#[]⟩ []) [] []).c) (by rw[apT];rfl) WV (by decide) (aS7 (x:=eo.mk o 0 nm ⟨#[]⟩ [] (fc.mk 0 0 ⟨#[]⟩ []) [] [])) (by decide)
def aWJ(l:List Int)(hp:(∀x∈l,0<=x/\x<256)/\L l<4611686018427387904):Ct 74 [sl cu l] (λr=>∃p:xr,r= .a p.c/\shP p/\p.A7=aNF):=by refine aDq (bgf λs0 hl h0=>?_);simp only[aUA];refine so hl λv1 s1 F1 N1 q1=>?_;have aO:=F1.len.trans hl;have af:bM aTP O7 [(0,sl cu l)]=V (.a [sl cu l,iv 0]):=rfl;simp only[aY4,af,aY];refine bxL rfl (by decide) (by rw[aO];decide) λE s2 F2 N2 q2=>?_;have aP:=F2.len.trans aO;have bt:bM a75 a6U [(0, .p (14,E) 0 0),(2,iv 20)]=V (.a [.p (14,E) 0 0,iv 0,iv 20,bv I,bv I,bv I,bv I, .l [] U U]):=rfl;simp only[bt,aY];refine bxL rfl (by decide) (by rw[aP];decide) λG s3 F3 N3 q3=>?_;have aQ:=F3.len.trans aP;have T3:Tp s3 (14,E) l 0:=⟨F3.kq q2,by omega,hp.1,hp.2⟩;have M3:qa s3 (16,G) (14,E) [] (.l [] U U):=⟨⟨0,20,I,I,I,I,q3⟩,⟨l,0,T3⟩, .inl ⟨rfl,rfl⟩,aQ,rfl,rfl,by simp[aA]⟩;have bu:bM aP6 O7 [(0,sl w6.c aNF)]=V (.a [sl w6.c aNF, .l [] U U]):=rfl;simp only[jM,jt,aQV,bu,u0,↓uL];refine⟨by simp[lo,nA,uN,yv,wD],?_⟩;refine anu aQ λv4 s4 F4 N4 q4=>?_;have S4:MPs s4 (16,G) (14,E) v1 v4 (.l [] U U) [] (.l [] U U):=⟨M3.fx0 F4,q4, .inl ⟨rfl,rfl⟩,by simp[aA],F4.kq (F3.kq (F2.kq q1)),by simp⟩;obtain⟨th,lf,s,tx,ad,lp,aM⟩:=S4.M.mx;simp only[aY3,oo aM,u0,u1,aM,yr,yd,aj,↓uL];refine aXR S4.M λy s5 y0 y1 M5 K5=>?_;have y1:=y1 (by decide);have S5:=S4.kx K5 M5 (by decide) (by decide) (by decide);simp only[aY2,u0,u1,baI,eM (x:=2+y) (by omega) (by omega),↓uL];obtain⟨n,hn⟩:∃n:Nat,2+y=n:=⟨(2+y).toNat,by omega⟩;rw[hn];have cv:n<=4:=(by omega);refine yV n (λk _ Y=>∃h ts a,MPs Y (16,G) (14,E) v1 v4 h ts a/\L ts=k) ⟨_,_,_,S5,rfl⟩ ?_;rintro k _ Y hk ⟨h,ts,a,S,bF⟩;have aR:=S.M.le;obtain⟨th,lf,s,tx,ad,lp,hb⟩:=S.M.mx;simp only[aZb,aI,au,oo hb,u0,u1,hb,yd,aj,↓uL];refine⟨λN=>?_,λN=>?_⟩;have be:k<n:=(by simpa using N);refine aPJ S.M (.inl ⟨.inl rfl,_,rfl⟩) λs6 M6 F6=>?_;have S6:MPs s6 (16,G) (14,E) v1 v4 h ts a:=S.kx (ks:=[16]) (F6.kx (by simp)) M6 (by decide) (by decide) (by decide);simp only[aYY,au,amZ,u0,rk,gw,aV4,↓uL];refine⟨⟨by omega,by simp;omega⟩,?_⟩;generalize gd ([⟨#[109,97,105,110]⟩,⟨#[116,49]⟩,⟨#[116,50]⟩,⟨#[116,51]⟩]:List ByteArray) (k:Int).toNat=nm;simp only[aYX,bas,aY];refine anu S6.M.le λv8 s7 F7 N7 q7=>?_;have S7:=S6.fx F7 (by simp);have B7:TB s7 v8 nm (.l [] U U) []:=⟨q7, .inl ⟨rfl,rfl⟩,by simp[aA],by simp⟩;simp only[aYW,di];have aD:∀(Y1:ae) (h1 a8:AV) (u:List eo),MPs Y1 (16,G) (14,E) v1 v4 h1 ts a->TB Y1 v8 nm a8 u->L u<=3->aUB (.p (8,v8) 0 0) (.p (16,G) 0 0) (.p (4,v4) 0 0) [iv k] (yI (λ(_:Unit) i=>[iv i]) n λk _ Y=>∃h ts a,MPs Y (16,G) (14,E) v1 v4 h ts a/\L ts=k) (gM 0 n) Y (.l ([⟨#[109,97,105,110]⟩,⟨#[116,49]⟩,⟨#[116,50]⟩,⟨#[116,51]⟩].map cs) U U) [] Y1:=(by intro Y1 h1 a8 u A B aB;obtain⟨th,lf,s,tx,ad,lp,af⟩:=A.M.mx;simp only[aUB,aI,oo af,u0,u1,af,B.p,yr,C5,yd,aj,↓uL];refine aXR A.M λy s8 y0 y1 M8 K8=>?_;have y1:=y1 (by decide);have A8:=A.kx K8 M8 (by decide) (by decide) (by decide);have B8:=B.kx K8 (by decide) (by decide) (by decide) (by decide);simp only[aY9,u0,u1,eM (x:=1+y) (by omega) (by omega),↓uL];refine baZ (D:=2) A8.M (by simp) rfl (by omega) (by omega) λa9 l9 h9 s9 g9 ct bC p9 M9 K9=>?_;have A9:=A8.kx K9 M9 (by decide) (by decide) (by decide);have B9:=B8.kx K9 (by decide) (by decide) (by decide) (by decide);simp only[aY8];refine apX B9.ga g9 rfl (by decide) (by rw[A9.M.le];decide) (qW (f:=eo.c) (z:=11) λ_=>WV) (qW (f:=eo.c) (z:=11) λ_=>WV) (by simp;omega) λcq cw ay aK bH=>?_;rw[<-dg] at ay;have w:=B9.pa;have bg:=A9.fx aK (λq o=>by have:=w q o;omega);have aE:=aK.keep _ _ (λo=>by have:=w _ o;simp at this) B9.p;simp only[aY7,u0,u1,aE,aj,↓uL];refine TB.set aE ay (λq o=>by rcases bH q o with g|g;exact w q g;exact .inr (.inl g)) (λs C=>?_) λbK ap bl=>?_;rcases dF.1 C with g|g;exact B.hs s g;exact(bC s g).mono (by omega);have ac:=bg.fx bl (by simp);refine dT (by simp[eL,lb,lbV,cD,dC,dK]) ?_;have bc:L (u++l9)<=6:=(by simp;omega);generalize u++l9=bV at ap bc;clear ay aE;have ab:∀(Z:ae) (h2 a2:AV) (bd:List eo),MPs Z (16,G) (14,E) v1 v4 h2 ts a->TB Z v8 nm a2 bd->L bd<=8->aUC (.p (4,v4) 0 0) (.p (8,v8) 0 0) [iv k] (yI (λ(_:Unit) i=>[iv i]) n λk _ Y=>∃h ts a,MPs Y (16,G) (14,E) v1 v4 h ts a/\L ts=k) (gM 0 n) Y [] Z:=(by intro Z h2 a2 bd A B aB;have aC:aX aTM 1 Z [(0, .a [st nm,iv 0, .l ([⟨#[97]⟩,⟨#[98]⟩].map cs) U U,a2])]=V (.l ([(⟨nm,0,[⟨#[97]⟩,⟨#[98]⟩],bd⟩:xt)].map xt.c) U U,kills Z (eB (.a [st nm,iv 0, .l ([⟨#[97]⟩,⟨#[98]⟩].map cs) U U,a2]))):=aQm (tgt:=(⟨nm,0,[⟨#[97]⟩,⟨#[98]⟩],bd⟩:xt).c) (by simp only[ji,mU,aQ5,aXQ,aOb B.ga];rfl) rfl (by decide) rfl (by decide);have bb:∀q∈eB (.a [st nm,iv 0, .l ([⟨#[97]⟩,⟨#[98]⟩].map cs) U U,a2]),q.1=56\/q.1=68\/q.1=87:=λq o=>(by simp only[eB,Cz,RN,iR,dW,cL] at o;exact B.pa q (by cases a2<;>first|exact o|simp[iR] at o));have FK:=aOp (eB (.a [st nm,iv 0, .l ([⟨#[97]⟩,⟨#[98]⟩].map cs) U U,a2])) Z;simp only[aUC,aI,u0,u1,A.p,aEa B.p rfl,yr,C5,yd,aj,aC,↓uL];have F:=A.fx FK (λq o=>by have:=bb q o;omega);refine apQ F.ga F.M.le (qW (f:=xt.c) (z:=4) λ_=>rfl) (qW (f:=xt.c) (z:=4) λ_=>rfl) (by simp) (by simp;omega) λa4 s4 g4 F4 N4=>?_;rw[<-dg] at g4;have W:=F.pa;have p4:=F4.keep _ _ (λo=>by have:=W _ o;simp at this) F.p;simp only[aY5,u0,u1,p4,aj,↓uL];refine A0 p4 g4.p.ce (by simp) λs5 F5 b5=>?_;have hm:=F.M.sm;have hb:=F.M.sb;have M5:=(F.M.fx F4 (λg=>by have:=W _ g;omega) (λg=>by have:=W _ g;omega) (λq o g=>by have:=W _ g;have:=F.M.sh q o;omega)).fx F5 (by simp) (by simp) (λq o g=>by simp at g;subst g;have:=F.M.sh _ o;simp at this);simp only[aYU,au,u0,u1,↓uL];refine dR (mk:=λ(_:Unit) i=>[iv i]) (s:=()) (s':=()) (λ_ _=>rfl) be (by omega) ⟨h2,ts++[⟨nm,0,[⟨#[97]⟩,⟨#[98]⟩],bd⟩],a4,⟨M5,b5,g4.p.fx F5 (λq o e=>by have:=(N4 q o).2;simp at e;subst e;simp at this),λq o=>(N4 q o).2,?_,?_⟩,by simp[bF]⟩;exact F5.kq (F4.keep _ _ (λo=>by have:=W _ o;simp at this) F.r);intro t O;rcases dF.1 O with g|g;exact A.ht t g;simp only[cE] at g;subst g;exact⟨by simp,aB,B.hs⟩);simp only[di];obtain⟨th,lf,s,tx,ad,lp,az⟩:=ac.M.mx;rcases T:Q ((k:Int)=0) with _|_;simp only[aUE,au,T,u0,u1,aj,aOq,↓jN,Aa,↓iB,↓uL];exact ab bK _ _ _ ac ap (by omega);simp only[aUE,au,T,oo az,az,u0,u1,yr,yd,aj,aPh,↓jA,ya,↓uL];refine aXR ac.M λy bL y0 y1 bp aL=>?_;have an:=ac.kx aL bp (by decide) (by decide) (by decide);have H:=ap.kx aL (by decide) (by decide) (by decide) (by decide);simp only[H.p,amZ,rk,gw,a5R,a51,u0,u1,↓uL];refine⟨λ_=>⟨⟨by decide,by decide⟩,?_⟩,λ_=>ab bL _ _ _ an H (by omega)⟩;refine apQ H.ga an.M.le (qW (f:=eo.c) (z:=11) λ_=>WV) (qW (f:=eo.c) (z:=11) λ_=>WV) (by simp) (by simp;omega) λbr bO R P av=>?_;rw[<-dg] at R;have w:=H.pa;have ao:=an.fx P (λq o=>by have:=w q o;omega);have X:=P.keep _ _ (λo=>by have:=w _ o;simp at this) H.p;simp only[aY6,X,u0,u1,aj,↓uL];refine TB.set X R.p (λq o=> .inr (.inr (av q o).2)) (λs C=>?_) λaV aq ar=>?_;rcases dF.1 C with g|g;exact H.hs s g;simp only[cE] at g;subst g;exact aOI (λh=>mp h (by decide)) (.inl rfl) (by decide) (by decide);refine dT (by simp[eL,lb,lbV,cD,dC,dK]) ?_;exact ab aV _ _ _ (ao.fx ar (by simp)) aq (by simp;omega));obtain⟨th,lf,s,tx,ad,lp,cr⟩:=S7.M.mx;rcases T:Q ((k:Int)=0) with _|_;simp only[aUD,au,T,u0,u1,↓iB,↓uL];exact aD s7 _ _ _ S7 B7 (by simp);simp only[aUD,au,T,u0,u1,↓iC,↓uL];refine AI (α:=Unit) (λ_ i=>[iv i]) 0 n 1 (by omega) (λj _ Y=>∃a8 u,MPs Y (16,G) (14,E) v1 v4 h ts a/\TB Y v8 nm a8 u/\L u+1=j) (s0:=()) ⟨_,_,S7,B7,by simp⟩ ?_;rintro j _ Y1 hj ⟨a8,u,A,B,aB⟩;simp only[aZa,aI,au,B.p,amZ,rk,gw,a5R,a51,bh,u0,u1,aj,↓uL];refine⟨λN=>⟨⟨by omega,by have:j<n:=(by simpa using N);simp;omega⟩,?_⟩,λN=>aD Y1 _ _ _ A B (by omega)⟩;have bA:j<n:=(by simpa using N);refine apQ B.ga A.M.le (qW (f:=eo.c) (z:=11) λ_=>WV) (qW (f:=eo.c) (z:=11) λ_=>WV) (by simp) (by simp;omega) λbr bO R P av=>?_;rw[<-dg] at R;have w:=B.pa;have ao:=A.fx P (λq o=>by have:=w q o;omega);have X:=P.keep _ _ (λo=>by have:=w _ o;simp at this) B.p;simp only[aYV,X,u0,u1,aj,↓uL];refine TB.set X R.p (λq o=> .inl (av q o).2) (λs C=>?_) λaV aq ar=>?_;rcases dF.1 C with g|g;exact B.hs s g;simp only[cE] at g;subst g;exact aOI (λh=>mp h (by decide)) (.inl rfl) (by decide) (by decide);refine dT (by simp[eL,lb,lbV,cD,dC,dK]) ?_;simp only[au,u0,u1,↓uL];exact dR (mk:=λ(_:Unit) i=>[iv i]) (s:=()) (s':=()) (λ_ _=>rfl) bA (by omega) ⟨_,_,ao.fx ar (by simp),aq,by simp;omega⟩;have ha:dG Y (.a [sl w6.c aNF,a])= .a (⟨aNF,ts⟩:xr).c:=(by simp only[dG,eR,nrm,ji,mU];have e1:gK (gi Y a)=sl xt.c ts:=aOb S.ga;rw[e1];rfl);have aU:∀x y:AV,aN (V 2) [x,y]=V (.a [x,y]):=λ_ _=>rfl;have aR:L ts<=4:=(by omega);have aT:shP ⟨aNF,ts⟩:=⟨⟨by show L aNF<1000;decide,by show L ts<1000;omega,λt O=>by have:=(S.ht t O).1;omega⟩,aR,S.ht⟩;simp only[S.p,qd,qh,df,aU,jM,kU,jt,ha,u0,aQV,↓uL];refine⟨aT,by simp[lo,uN,yv,wD],?_⟩;simp only[oJ,pG,u0,u1,↓uL];refine⟨λhc=>?_,λhc=>?_⟩;refine⟨by simp[lo,nA,uN,yv,wD],?_⟩;simp only[aV4,bQ,aY1,jM,kU,jt,tW,Fa,aQV];refine⟨by simp[lo,nA,eB,iR],by rw[aXP rfl];trivial,?_⟩;have bD:A5 4 (eo.mk 1 0 ⟨#[120]⟩ ⟨#[]⟩ [] (fc.mk 1 1 ⟨#[]⟩ []) [] []):=aOI (λ_=>⟨.inl ⟨.inl rfl,rfl⟩,by simp[fc.l]⟩) (.inl rfl) (by decide) (by decide);have bw:∀x:eo,bM aPM alz [(0,sv [109,97,105,110]),(2, .l ([⟨#[97]⟩,⟨#[98]⟩].map cs) U U),(3, .l ([x].map eo.c) U U)]=V (.a [sv [109,97,105,110],iv 0, .l ([⟨#[97]⟩,⟨#[98]⟩].map cs) U U, .l ([x].map eo.c) U U]):=λ_=>rfl;have aC:∀(s:ae) (x:eo),aX aTM 1 s [(0, .a [sv [109,97,105,110],iv 0, .l ([⟨#[97]⟩,⟨#[98]⟩].map cs) U U, .l ([x].map eo.c) U U])]=V (.l ([(⟨⟨#[109,97,105,110]⟩,0,[⟨#[97]⟩,⟨#[98]⟩],[x]⟩:xt)].map xt.c) U U,s):=λs x=>aQm (tgt:=(⟨⟨#[109,97,105,110]⟩,0,[⟨#[97]⟩,⟨#[98]⟩],[x]⟩:xt).c) rfl rfl (by decide) rfl (by decide);have bx:∀t:xt,bM aP6 O7 [(0,sl w6.c aNF),(1, .l ([t].map xt.c) U U)]=V (.a [sl w6.c aNF, .l ([t].map xt.c) U U]):=λ_=>rfl;simp only[a50,bQ,aY0,bw,aC,aY,aYZ,bx,↓uL];refine qr S.r rfl rfl λs5 F5 b5=>?_;rw[aEa b5 rfl];refine aOv (v':= .a (⟨aNF,[⟨⟨#[109,97,105,110]⟩,0,[⟨#[97]⟩,⟨#[98]⟩],[eo.mk 1 0 ⟨#[120]⟩ ⟨#[]⟩ [] (fc.mk 1 1 ⟨#[]⟩ []) [] []]⟩]⟩:xr).c) (Q:=λr=>∃p:xr,r= .a p.c/\shP p/\p.A7=aNF) rfl rfl ⟨_,rfl,⟨⟨by decide,by decide,by simp⟩,by decide,?_⟩,rfl⟩;intro t O;simp only[cE] at O;subst O;exact⟨by decide,by decide,by intro s C;simp only[cE] at C;subst C;exact bD⟩;refine qr S.r rfl rfl λs5 F5 b5=>?_;have g5:=S.ga.fx F5 (λq o e=>by have:=S.pa q o;simp at e;subst e;simp at this);simp only[b5,qd,qh,df,aU,aY];refine aOv (v':= .a (⟨aNF,ts⟩:xr).c) (Q:=λr=>∃p:xr,r= .a p.c/\shP p/\p.A7=aNF) ?_ (by simp[iX,xr.c,eN,sl]) ⟨_,rfl,aT,rfl⟩;simp only[fzT,ji,mU,aBr g5];rfl
def aTV:FT:=om aWJ
def bbr{l Lw K}:=qz aTV aWJ l Lw K (j:=by simp+contextual only[ij,aQZ])
def a64(i:lF):L (A1 i)<=3:=by unfold A1;simp only[cond_eq_ite];(repeat' split);all_goals simp
structure RP(Y:ae)(v1 v7:Nat)(p:xr)(w:br)(ts:List A2)(a:AV):Prop where
 p:box Y (1,1)=V ⟨143,2,U,U,[p.c]⟩
 c:box Y (7,v7)=V ⟨92,7,U,U,[[sl cA.c w.cells,sl dS.c w.ak,sl yp.c w.bC,sl cs w.bU,sl cs w.ay,sl dL.c w.dU,a]]⟩
 ga:gm Y 192 2 a (ts.map A2.c)
 pa:∀q∈aA a,q.1=110
 r:box Y (2,v1)=V ⟨92,7,U,U,[aOR]⟩
 ht:∀t∈ts,L t.No<1000000
 le:L Y=4096
theorem RP.fx{Y Y':ae}{v1 i:Nat}{p:xr}{w:br}{ts:List A2}{a:AV}{f:List Id}(S:RP Y v1 i p w ts a)(F:Fx Y Y' f)(e:∀q∈f,q.1≠1/\q.1≠2/\q.1≠7/\q.1≠110):RP Y' v1 i p w ts a:=⟨F.keep _ _ (λg=>(e _ g).1 rfl) S.p,F.keep _ _ (λg=>(e _ g).2.2.1 rfl) S.c,S.ga.fx F (λq j g=>(e q g).2.2.2 (S.pa q j)),S.pa,F.keep _ _ (λg=>(e _ g).2.1 rfl) S.r,S.ht,F.len.trans S.le⟩
def aXe(p:xr)(R:shP p/\p.A7=aNF):Ct 73 [.a p.c] (λr=>∃(c:qt) (e l:Int),r= .t [.a c.c,iv e,iv l]/\aOc c):=by obtain⟨R,hd⟩:=R;refine aDq (bgU rfl λs2 hl b1 h0=>?_);simp only[a1t];refine so hl λv1 s3 F3 N3 q3=>?_;have am:=F3.len.trans hl;have b3:=F3.kq b1;have aR:bM aOR aP0 []=V (.a aOR):=rfl;simp only[a1B,u0,u1,b3,gw,jM,kU,jt,Fa,aQV,rr,aR,↓uL];refine⟨R,trivial,λ_=>?_,λhc=>⟨⟨R,hd⟩,?_⟩⟩;refine qr q3 rfl rfl λs5 F5 b5=>?_;have:aN (V 7) aOR=V (.a aOR):=rfl;simp only[b5,qd,qh,df,this,aY];exact aOH (vs':=[.a (⟨⟨[],[],[],[],[],[]⟩,[]⟩:qt).c,iv (chk p).1,iv (chk p).2]) (Q:=λr=>∃(c:qt) (e l:Int),r= .t [.a c.c,iv e,iv l]/\aOc c) rfl rfl ⟨_,_,_,rfl,by simp[aOc]⟩;rintro r ⟨w,rfl,hw,u⟩;have u:=u (by simpa using hc);have aQ:bM aOR aP0 [(0, .a w.c)]=V (.a [sl cA.c w.cells,sl dS.c w.ak,sl yp.c w.bC,sl cs w.bU,sl cs w.ay,sl dL.c w.dU, .l [] U U]):=rfl;simp only[aQ,aY];refine⟨by simp[lo,nA,eB,iR,xr.c,sl],?_⟩;refine anu am λv7 s4 F4 N4 q4=>?_;have S4:RP s4 v1 v7 p w [] (.l [] U U):=⟨F4.kq b3,q4, .inl ⟨rfl,rfl⟩,by simp[aA],F4.kq q3,by simp,F4.len.trans am⟩;have a2:=R.2.2;have b0:=R.2.1;refine jD (α:=Int) (λA i=>[iv A,iv i]) 1 (L p.ay) (λk A Y=>0<=A/\A<=k*60000/\∃ts a,RP Y v1 v7 p w ts a/\L ts=k) (s0:=0) ⟨by omega,by omega,[],_,S4,rfl⟩ ?_;rintro k A Y hk ⟨a4,b2,ts,a,S,a3⟩;simp only[a1E,aI,au,u0,u1,S.p,S.c,rk,gw,aRZ,aj,y9,bh,↓uL];refine⟨λE=>⟨bA E,?_⟩,λE=>?_⟩;rotate_left;refine qr S.r rfl rfl λs5 F5 b5=>?_;have g5:=S.ga.fx F5 (λq u e=>by have:=S.pa q u;simp at e;subst e;simp at this);simp only[a1A,aEa b5 rfl,aY,↓uL];refine aOH (vs':=[.a (⟨w,ts⟩:qt).c,iv 0,iv 0]) (Q:=λr=>∃(c:qt) (e l:Int),r= .t [.a c.c,iv e,iv l]/\aOc c) ?_ (by simp[iX,qt.c,br.c,eN,sl]) ⟨_,_,_,rfl,?_,S.ht⟩;have e1:fz s5 a=sl A2.c ts:=aBr g5;simp only[ji,mU,fzT,List.take_succ_cons,List.take_zero,e1];rfl;show L ts<1000;omega;have H:=aL E;have ht:=a2 _ (dB H);have aM:bM a74 [(0,6),(6,1),(7,1),(8,1),(9,1)] [(0, .a w.c),(1,sl cs (gd p.ay k).locs),(4,iv A)]=V (.a [sl cA.c w.cells,sl dS.c w.ak,sl yp.c w.bC,sl cs w.bU,sl cs w.ay,sl dL.c w.dU,sl cs (gd p.ay k).locs, .l [] U U,iv 0,iv A]):=rfl;simp only[aM,aY];refine bxL rfl (by decide) (by rw[S.le];decide) λv s5 F5 N5 q5=>?_;have S5:=S.fx F5 (by simp);have bV:k<4:=(by omega);have G5:Gn A s5 (45,v) w (gd p.ay k).locs (.l [] U U) 0:=⟨⟨0,A,⟨a4,by omega⟩,q5⟩,⟨[], .inl ⟨rfl,rfl⟩,rfl⟩,S5.le,rfl,by simp[aA],hw,by have:=ht.1;omega,u⟩;simp only[S5.p,rk,gw,y9,u0,u1,bh,↓uL];refine⟨dJ H,?_⟩;refine ba2 G5 ht.2 (by omega) λa6 n6 s6 G6 bW R6=>?_;have a9:∀q∈((45,v):Id)::aA (AV.l [] U U),q.1≠1/\q.1≠2/\q.1≠7/\q.1≠110:=(by simp[aA]);have S6:=S5.fx R6.f a9;obtain⟨ca,a7,a5,al⟩:=G6.bx0;simp only[a1z,oo al,u0,u1,al,yr,C5,yd,aj,↓uL];refine G6.set λs7 G7 F7=>?_;have S7:=S6.fx F7 (by simp);simp only[a1y,bdI,aY];refine aPw G7 (by omega) λa8 s8 n8 G8 bY bG R8=>?_;have ba:∀q∈((45,v):Id)::aA a6,q.1≠1/\q.1≠2/\q.1≠7/\q.1≠110:=λq u=>(by rcases eW.1 u with g|g;subst g;simp;have:=G6.sa q g;omega);have S8:=S7.fx R8.f ba;obtain⟨cb,b6,b4,X⟩:=G8.bx0;obtain⟨o,go,aZ⟩:=G8.ga;obtain⟨bc,an,rfl,az⟩:∃q m,a8= .m q (L o)/\box s8 q=V ⟨209,6,U,I,o.map lF.c++m⟩:=(by rcases go with⟨g,_⟩|⟨q,m,g1,g2⟩;have:o=[]:=(by simpa using g);subst this;simp at aZ;omega;exact⟨q,m,by simpa using g1,g2⟩);obtain⟨q1,C⟩:=bc;obtain rfl:q1=16:=G8.sa (q1,C) (by simp[aA]);have aP:∀a:AV,(∃q n,a= .m q n)->bM aTO O7 [(0,iv (L (gd p.ay k).locs)),(1,a)]=V (.a [iv (L (gd p.ay k).locs),a]):=(by rintro a ⟨q,n,rfl⟩;rfl);simp only[a1x,oo X,u0,u1,X,yr,C5,yd,aj,aP _ ⟨_,_,rfl⟩,↓uL];refine anu S8.le λO s9 F9 N9 q9=>?_;have S9:=S8.fx F9 (by simp);refine dT (by simp[eL,lb,cD,dC,dK,sl]) ?_;have aK:=F9.kq X;have a0:=F9.kq az;refine yV (L o) (λ_ _ Y'=>Fx s9 Y' [(11,O)]/\∃rg:Int,box Y' (11,O)=V ⟨192,2,U,U,[[iv rg, .m (16,C) (L o)]]⟩) ⟨Fx.refl _ _,_,q9⟩ ?_;rintro j _ Y1 P ⟨M,rg,ao⟩;have W:=M.kq aK;have F:=M.kq a0;have aW:fS Y1 (.m (16,C) (L o))=V (iv (L o)):=(by simp[fS,F]);have ag:=S9.fx M (by simp);have be:∀x y:AV,aN (V 2) [x,y]=V (.a [x,y]):=λ_ _=>rfl;simp only[a1C,aI,au,oo W,u0,u1,W,ag.c,ao,be,yr,C5,yd,aj,aW,↓uL];refine⟨λE=>?_,λE=>?_⟩;have P:=aL E;have aT:cz 6 Y1 (.m (16,C) (L o)) (iv j)=V (.p (16,C) j 0):=(by simp[cz,F,P]);have aV:kb (V 6) Y1 (.p (16,C) j 0)=V (.a (gd o j).c):=(by have hr:(o.map lF.c++an)[j]?=V (lF.c (gd o j)):=(by rw[xe (by simpa using P),ve,eC P,bT P];rfl);simp only[kb,iE,F,qd,hr];rfl);simp only[aT,aV,aY,jM,kU,jt,Fa,aQV];rintro r ⟨t',o',rfl⟩;refine⟨by simp[lo,nA,eB,iR,lF.c],?_⟩;refine yV (L (A1 (gd o j))) (λ_ _ Y'=>Fx s9 Y' [(11,O)]/\∃rg:Int,box Y' (11,O)=V ⟨192,2,U,U,[[iv rg, .m (16,C) (L o)]]⟩) ⟨M,rg,ao⟩ ?_;rintro i _ Y2 hi ⟨ae,b7,aa⟩;simp only[a1D,aI,au,u0,u1,aa,yr,yd,gT,tf,rk,aj,bh,aRW,↓uL];refine⟨λG=>⟨dJ (aL G),?_⟩,λG=>?_⟩;refine A0 aa rfl (by simp) λY3 D aE=>?_;simp only[a1u,au,u0,u1,↓uL];exact dR (mk:=λ(_:Unit) i=>[iv i]) (s:=()) (s':=()) (λ_ _=>rfl) (aL G) (by have:=a64 (gd o j);omega) ⟨(ae.trans D).mono (λq u=> .inl (by simpa using u)),_,aE⟩;exact dR (mk:=λ(_:Unit) i=>[iv i]) (s:=()) (s':=()) (λ_ _=>rfl) P (by omega) ⟨ae,_,aa⟩;have aJ:gm Y1 209 6 (.m (16,C) (L o)) (o.map lF.c):= .inr ⟨_,an,by simp,F⟩;have aO:aX a7Z 1 Y1 [(0, .a [iv rg, .m (16,C) (L o)])]=V (.l ([(⟨rg,o⟩:A2)].map A2.c) U U,kills Y1 (eB (.a [iv rg, .m (16,C) (L o)]))):=aQm (tgt:=(⟨rg,o⟩:A2).c) (by simp only[ji,mU,aQ5,aOb aJ];rfl) rfl (by decide) rfl (by decide);have FK:=aOp (eB (.a [iv rg, .m (16,C) (L o)])) Y1;have B:=ag.fx FK (by simp[eB,iR]);simp only[aO,bQ];have Z:=B.pa;refine apQ B.ga B.le (qW (f:=A2.c) (z:=2) λ_=>rfl) (qW (f:=A2.c) (z:=2) λ_=>rfl) (by simp) (by simp;omega) λaD b8 T D af=>?_;rw[<-dg] at T;have ah:=D.keep _ _ (λu=>by have:=Z _ u;simp at this) B.c;simp only[a1w,u0,u1,ah,aj,↓uL];refine A0 ah T.p.ce (by simp) λb9 N aG=>?_;simp only[a1v,au,u0,u1,↓uL];refine dR (mk:=λ(A:Int) i=>[iv A,iv i]) (s:=A) (s':=a7) (λ_ _=>rfl) H (by omega) ⟨a5.1,by omega,ts++[⟨rg,o⟩],aD,⟨?_,aG,T.p.fx N (λq u e=>by have:=(af q u).2;simp at e;subst e;simp at this),λq u=>(af q u).2,?_,?_,N.len.trans (D.len.trans B.le)⟩,by simp[a3]⟩;exact N.kq (D.keep _ _ (λu=>by have:=Z _ u;simp at this) B.p);exact N.kq (D.keep _ _ (λu=>by have:=Z _ u;simp at this) B.r);intro t a1;rcases dF.1 a1 with g|g;exact S.ht t g;simp only[cE] at g;subst g;show L o<1000000;omega
def aUc:FT:=om aXe
def bbW{p Lw K}:=qz aUc aXe p Lw K (j:=by simp+contextual only[ij,Nb])
def a7C:dO:=(74,aTV)::(73,aUc)::aYc
def a7l:eJ a7C:=it (rj aWJ) (it (rj aXe) (aX5))
def aWk:=ai @bbr<|ai @bbW<|@aQV
section
attribute[local irreducible] aX
def a8I:=bi 3 []
def aYS c t1 R a:=aw 7 a c λd=>sV (aK 7 a t1 d) λb=>aw 7 b t1 λe=>aE R b [e]
def aYT c R t1 b:=fV aTV b [c] λt3=>fV aUc b [t3] λt4=>rV (eO 0 t4) λe=>rV (eO 1 t4) λf=>rV (eO 2 t4) λg=>eV (bs 92 aOR b 3) λa d=>sV (aK 7 d a e) (aYS a t1 R)
def aYR a s0 R:=eV (bs 92 aOR s0 2) (aYT a R)
def bge{a:AV}{R:d7}(h:H0 λs0=>aYR a s0 R):Ct 31 [a] R:=z0 a8I a7l Tryz.func31 h
end
def aWI(l:List Int)(s:(∀x∈l,0<=x/\x<256)/\L l<4611686018427387904):Ct 31 [sl cu l] (λr=>∃c:qt,r= .a c.c/\aOc c):=by refine aDq (bge λs0 d A=>?_);simp only[aYR];refine so d λE B g y u=>?_;simp only[aYT,jM,kU,jt,alg,aWk];refine⟨s,?_⟩;rintro r ⟨p,rfl,n,o⟩;refine⟨by simp[lo,nA,eB,iR,sl],?_⟩;simp only[Fa,aWk];refine⟨⟨n,o⟩,?_⟩;rintro r ⟨c,e,l',rfl,q⟩;refine⟨by simp[lo,nA,eB,iR,xr.c,sl],?_⟩;have j:eO 0 (.t [.a c.c,iv e,iv l'])=V (.a c.c):=rfl;have k:eO 1 (.t [.a c.c,iv e,iv l'])=V (iv e):=rfl;have m:eO 2 (.t [.a c.c,iv e,iv l'])=V (iv l'):=rfl;simp only[j,k,m,aY];have f:=g.len.trans d;have b:L c.c=7:=rfl;refine aRA rfl b (by decide) (by rw[f];decide) λF C h z v=>?_;simp only[aYS,aEa v b,aY,↓uL];refine qr (h.kq u) rfl b λD w i=>?_;rw[aEa i b];exact aOv (v':= .a c.c) (Q:=λr=>∃c:qt,r= .a c.c/\aOc c) rfl (by simp[iX,qt.c,br.c,eN,sl]) ⟨c,rfl,q⟩
def aTU:FT:=om aWI
def bbq{l Lw K}:=qz aTU aWI l Lw K (j:=by simp+contextual only[ij,aQZ])
def a7D:dO:=(31,aTU)::a7C
def aR2:eJ a7D:=it (rj aWI) (a7l)
def bcw:=ai @bbq<|@aWk
section
attribute[local irreducible] aX
def atZ:=bi 24 [(4,([4],[1,2,3])),(10,([5],[1,2,3])),(16,([6],[1,2,3])),(21,([],[1,2,3,6,7]))]
def acV c(f:aG)(d:bu) e a:=aV (gt c 0) (iv 1) λb=>f [b] a/\d [b] a<d c e
def arO c f g h b d a:=aB 0 a c λe=>sV (aK 1 a e d) (acV f g h b)
def acW a(e:aG)(b:bu) f c:=aV (gt a 0) (iv 1) λd=>e [d] c/\b [d] c<b a f
def arP f b c d e g a:=aB 2 a f λh=>sV (aK 1 a h g) (acW b c d e)
def acX a(e:aG)(b:bu) f c:=aV (gt a 0) (iv 1) λd=>e [d] c/\b [d] c<b a f
def arQ f b c d e g a:=aB 3 a f λh=>sV (aK 1 a h g) (acX b c d e)
def ac0 b c d e f g(l:eQ) a:=∀_:Rg,ab 3 a b λi=>aw 3 a c λj=>eV (aX aTI 1 a [(0,j)]) λk h=>eV (j5 105 aNB 24 h 49 i k) (arQ b d e f g)
def ac1 d a c(b:aG):=bf (gt d 0) (iv 0) λf=>ah f (aB 0 a c λg=>sV (aK 1 a g (iv 1)) λe=>b [] e) (b [] a)
def acY g a b c d e f:=jV 21 (ac0 g a b c d e) (ac1 b f a)
def ac3 o e t3 R f g c a:=∀_:Rg,ab 4 a o λi=>aJ a i λj=>aU (gt c 0) j λk=>ah k (rV (bM aNB aM7 [(0,(iv 0))]) λl=>eV (bs 105 aNB a 7) λb h=>sV (aK 3 h b l) (acY e b c f g a)) (aw 4 a e λm=>sV (aK 4 a t3 m) λd=>aw 4 d t3 λn=>fe R d [n])
def ac2 d b t3 R e f c a:=∀_:Rg,ab 3 a d λh=>aJ a h λi=>aU (gt c 0) i λj=>ah j (ab 2 a b λk=>eV (aX BD 1 a [(0,(bv I))]) λl g=>eV (j5 4 BE 1 g 32 k l) (arP b c e f a)) (lV [(iv 0)] a (ac3 d b t3 R))
def ac4 d b t3 R l m c a:=∀_:Rg,ab 1 a d λf=>aJ a f λg=>aU (gt c 0) g λh=>ah h (ab 0 a b λi=>rV (bM aO9 O7 [(0,(iv (-1)))]) λj=>eV (aX aTL 1 a [(0,j)]) λk e=>eV (j5 131 aO9 32 e 20 i k) (arO b c l m a)) (lV [(iv 0)] a (ac2 d b t3 R))
def acZ b R t3 c:=rV (bM aNC alz [(1,(iv (-1)))]) λf=>eV (bs 36 aNC c 3) λa d=>sV (aK 4 d a f) λe=>lV [(iv 0)] e (ac4 b a t3 R)
def IH a b R:=eV (bs 36 aNC b 2) (acZ a R)
def aJt{a:AV}{s0:ae}{R:be}(h:eV (qm 31 6 s0 1 a) λb c=>IH b c R):EB 69 [a] s0 R:=zB atZ aR2 Tryz.func69 h
def aLs{d:List AV}{s0:ae}{R:be}(g:L s0=4096)(l0:L d=6)(h:∀(b:ae) (c:Nat),Kp s0 b->(∀k,k≠1->aZ b k=aZ s0 k)->(∀x,box s0 (1,c)≠V x)->box b (1,c)=V ⟨31,6,U,U,[d]⟩->IH (.p (1,c) 0 0) b R):EB 69 [.a d] s0 R:=by refine aJt ?_;refine iN rfl l0 (by decide) (by decide) g λb c j g0 l e=>?_;exact h b c j (λk f=>g0 k f) (λx i=>l x ((Kp.refl _).keep _ _ i)) e
def at6:=bi 9 [(4,([4],[1,2,3]))]
def adt b h r j k a l m n i o q p(f:aG)(c:bu) g d:=dH [(bo b),(bo h),(bo r),(bo j),km,(lb U [k,(gt a 0)] []),(bo l),(bo m),(lb I [n] []),(lb I [i,o] [32]),(bo b),(lb I [q,p] [])] [(0,8),(1,8)] (aV (gt a 0) (iv 1) λe=>f [e] d/\c [e] d<c a g)
def adu a i q k l e m n o j p f g h c b:=aB 4 b a λd=>sV (aK 1 b d c) (adt a i q k l e m n o j p d c f g h)
def adA d b t3 R n o c a:=∀_:Rg,ab 0 a d λq=>aJ a q λr=>aU (gt c 0) r λs=>ah s (aB 4 a b λf=>aM a f λg=>aB 0 a d λh=>aM a h λi=>ao 5 a i (gt c 0) λj=>aB 4 a j λk=>aM a k λl=>eV (aX yW 1 a [(0,l)]) λm p=>eV (j5 2 EN 8 p 32 g m) (adu b f d h i c j k l g m n o a)) (aw 7 a b λt=>sV (aK 7 a t3 t) λe=>aw 7 e t3 λu=>fe R e [u])
def adv a l n o c h i d m g j b k t3 R e:=dH [(bo a),(lb I [(.f 69 [] []),l] [6]),(bo a),(bo n),(bo o),(lb I [c,c] [10]),(bo a),(bo h),(bo i),(lb I [d,d] [14]),(lb U [m,g,j] []),(lb I [] [3]),(lb I [b,k] [])] [(1,2),(1,3),(1,4),(0,5),(1,5),(1,6),(5,6),(1,7),(5,7),(1,8),(5,8),(0,9),(1,9),(2,9),(3,9),(4,9),(5,9),(0,11),(1,11),(2,11),(3,11),(4,11),(5,11),(6,11),(7,11),(8,11),(9,11),(10,11)] (lV [(iv 0)] e (adA a b t3 R))
def adw k b l m n o g h i j t3 R c e:=rV (bM BF anY [(0,k),(2,b),(3,c)]) λd=>eV (bs 40 BF e 3) λa f=>sV (aK 7 f a d) (adv l m n o g h i j k b c a d t3 R)
def adx e i h j k f t3 R g a:=aB 4 a e λc=>aM a c λd=>aJ a d λb=>eV (qO 3 bH 8 a 14 b b) (adw i g e h j k f c d b t3 R)
def ady c f t3 R g b:=aB 3 b c λd=>aM b d λe=>aJ b e λa=>eV (qO 2 yW 8 b 10 a a) (adx c g f d e a t3 R)
def adz a R t3 b:=aw 6 b a λc=>cN 69 [c] b 6 (ady a c t3 R)
def IK a b R:=eV (bs 40 BF b 2) (adz a R)
def aJu{a:AV}{s0:ae}{R:be}(h:eV (qm 31 6 s0 1 a) λb c=>IK b c R):EB 29 [a] s0 R:=zB at6 aR2 Tryz.func29 h
def aLy{d:List AV}{s0:ae}{R:be}(g:L s0=4096)(l0:L d=6)(h:∀(b:ae) (c:Nat),Kp s0 b->(∀k,k≠1->aZ b k=aZ s0 k)->(∀x,box s0 (1,c)≠V x)->box b (1,c)=V ⟨31,6,U,U,[d]⟩->IK (.p (1,c) 0 0) b R):EB 29 [.a d] s0 R:=by refine aJu ?_;refine iN rfl l0 (by decide) (by decide) g λb c j g0 l e=>?_;exact h b c j (λk f=>g0 k f) (λx i=>l x ((Kp.refl _).keep _ _ i)) e
def au4:=bi 15 [(4,([22],[0,1,21])),(10,([3],[0,1,2,21,22]))]
def ajQ a(e:aG)(b:bu) f c:=aV (gt a 0) (iv 1) λd=>e [d] c/\b [d] c<b a f
def arR c b d e f g a:=aB 5 a c λh=>sV (aK 1 a h g) (ajQ b d e f)
def ajY d a(g:aG)(e:bu) j h i b c:=∀_:Rg,aU (gt b 0) (iv 6) λl=>ah l (ab 5 c d λm=>aO .mul (iv 10) (gt a 0) λn=>aV n (gt b 0) λo=>aV o (iv 1) λp=>rV (bM aP5 aM7 [(0,(gt a 0)),(1,(gt b 0)),(2,p)]) λq=>eV (aX aTK 1 c [(0,q)]) λr k=>eV (j5 128 aP5 24 k 40 m r) (arR d b h i c)) (aV (gt a 0) (iv 1) λf=>g [f] c/\e [f] c<e a j)
def ajZ g c t1 R e f b a:=∀_:Rg,aU (gt b 0) g λh=>ah h (lV [(iv 0)] a (ajY c b e f a)) (aw 6 a c λi=>sV (aK 6 a t1 i) λd=>aw 6 d t1 λj=>aE R d [j])
def ajR b t1 R a:=ab 4 a b λc=>aJ a c λd=>lV [(iv 0)] a (ajZ d b t1 R)
def ajS i d e f t1 R g b:=rV (bM aRc C2 [(0,i),(1,d),(2,e),(3,f),(4,g)]) λh=>eV (bs 31 aRc b 1) λa c=>sV (aK 6 c a h) (ajR a t1 R)
def ajT e b c t1 R d a:=eV (aX C9 4 a [(0,(sv [109,97,105,110])),(1,(sv [116,49])),(2,(sv [116,50])),(3,(sv [116,51]))]) (ajS e b c d t1 R)
def ajU d b t1 R c a:=eV (aX C9 1 a [(0,(sv [102]))]) (ajT d b c t1 R)
def ajV d t1 R b a:=rV (bM aPp O7 [(0,(sv [99]))]) λc=>eV (aX aR8 1 a [(0,c)]) (ajU d b t1 R)
def ajW t1 R e d:=rV (bM aOO O7 [(0,(sv [109]))]) λa=>rV (bM aOO O7 [(0,(sv [110]))]) λb=>rV (bM aOO O7 [(0,(sv [114])),(1,(bv U))]) λc=>eV (aX aR7 3 d [(0,a),(1,b),(2,c)]) (ajV e t1 R)
def ajX R t1 a:=rV (bM aN1 aOG [(0,(sv [120]))]) λt3=>rV (bM aN1 aOG [(0,(sv [121])),(4,(iv 1))]) λt4=>rV (bM aN1 aOG [(0,(sv [118])),(3,(bv U))]) λb=>rV (bM aN1 aOG [(0,(sv [113])),(2,(iv 2))]) λc=>rV (bM aN1 aOG [(0,(sv [113])),(1,(iv 1)),(2,(iv 2))]) λd=>eV (aX aTJ 5 a [(0,t3),(1,t4),(2,b),(3,c),(4,d)]) (ajW t1 R)
def ajP s0 R:=eV (bs 31 aRc s0 0) (ajX R)
def aMx{R:d7}(h:H0 λs0=>ajP s0 R):Ct 26 [] R:=z0 au4 aR2 Tryz.func26 h
def a9G:=bi 9 [(4,([4],[1,2,3]))]
def a2V a i h l m b n k o p j q s r(f:aG)(c:bu) g d:=dH [(bo a),(bo i),(lb I [] []),(bo h),(bo l),km,(lb U [m,(gt b 0)] []),(bo n),(lb I [k,o] [29]),(lb I [p] []),(lb I [j,q] [31]),(bo a),(lb I [s,r] [])] [(0,2),(1,2),(2,3),(2,4),(2,5),(2,6),(2,7),(0,8),(1,8),(0,9),(1,9)] (aV (gt b 0) (iv 1) λe=>f [e] d/\c [e] d<c b g)
def a2W a j i m n e o l p q k r f g h c b:=aB 2 b a λd=>sV (aK 1 b d c) (a2V a j i m n e o l p q k r d c f g h)
def a2X b a l k n o e p m q f g h c i:=eV (aX aYp 1 i [(0,c)]) λd j=>eV (j5 38 bhN 24 j 31 b d) (a2W a l k n o e p m q c b d f g h)
def a2Y d c n b m j k l e a:=aB 2 a d λf=>aM a f λg=>ao 1 a g (gt c 0) λh=>aM a h λi=>eV (j5 3 fB 8 a 29 e i) (a2X n b m d f g c h e i j k l)
def a22 e b t3 R g h c a:=∀_:Rg,ab 2 a e λi=>aJ a i λj=>aU (gt c 0) j λk=>ah k (aB 2 a b λf=>aM a f λl=>eV (aX bH 0 a []) (a2Y e c l b f g h a)) (aw 4 a b λm=>sV (aK 4 a t3 m) λd=>aw 4 d t3 λn=>fe R d [n])
def a8z b h j d l e i k f a g t3 R c:=dH [(bo b),(bo h),(bo b),(bo j),(lb I [] []),(bo b),(bo d),(lb I [l,e] [12]),(lb U [i,k,f] []),(lb I [] [3]),(lb I [a,g] [])] [(0,4),(1,4),(2,4),(3,4),(4,5),(4,6),(0,7),(1,7),(2,7),(3,7),(0,9),(1,9),(2,9),(3,9),(4,9),(5,9),(6,9),(7,9),(8,9)] (lV [(iv 0)] c (a22 b a t3 R))
def a2Z i j f k l g m h t3 R b d:=rV (bM aoD alz [(0,i),(3,j),(1,b)]) λc=>eV (bs 196 aoD d 3) λa e=>sV (aK 4 e a c) (a8z f k l g m h i j b a c t3 R)
def a20 b g i f h t3 R e a:=aB 1 a b λc=>aM a c λd=>eV (j5 2 EN 8 a 12 e d) (a2Z g i b f h c e d t3 R)
def a21 b R t3 a:=aB 0 a b λc=>aM a c λe=>aB 3 a b λd=>aM a d λf=>eV (aX yW 0 a []) (a20 b e f c d t3 R)
def aVb a b R:=eV (bs 196 aoD b 2) (a21 a R)
def bfZ{a:AV}{s0:ae}{R:be}(h:eV (qm 196 4 s0 1 a) λb c=>aVb b c R):EB 200 [a] s0 R:=zB a9G aR2 Tryz.func200 h
def bhc{d:List AV}{s0:ae}{R:be}(g:L s0=4096)(l0:L d=4)(h:∀(b:ae) (c:Nat),Kp s0 b->(∀k,k≠1->aZ b k=aZ s0 k)->(∀x,box s0 (1,c)≠V x)->box b (1,c)=V ⟨196,4,U,U,[d]⟩->aVb (.p (1,c) 0 0) b R):EB 200 [.a d] s0 R:=by refine bfZ ?_;refine iN rfl l0 (by decide) (by decide) g λb c j g0 l e=>?_;exact h b c j (λk f=>g0 k f) (λx i=>l x ((Kp.refl _).keep _ _ i)) e
end
def mG{B:aG}{A:(aG)->Prop}(Q:aG)(b:∀a,(∀vs Y',Q vs Y'->a vs Y')->A a)(c:∀vs Y',Q vs Y'->B vs Y'):A B:=b B c
def a7a{α:Type}{f:Nat->List α}{k:Nat}:(aH (k+1)).flatMap f=(aH k).flatMap f++f k:=by rw[qn,List.flatMap_append];simp
def eU{α:Type}{f:Nat->List α}{c:Nat}(h:∀k,L (f k)<=c):∀n,L ((aH n).flatMap f)<=n*c
 |0=>by simp
 |n+1=>by
  have a:=eU h n
  have b:=h n
  rw[a7a,P8,Nat.add_mul]
  omega
def Dv{Y:ae}{b:Id}{T e:TypeId}{z i j d by':Nat}{cs zs:List AV}{a:AV}{aa new:List (List AV)}{t o:Bool}{K:ae->Prop}(H:box Y b=V ⟨T,z,U,U,[cs]⟩)(P:j<L cs)(E:bc Y e i a aa)(k:b∉aA a)(W:L zs=i)(B:0<i)(M:d<L Y)(S:∀r∈aa,L r=i)(R:∀r∈new,L r=i)(w:(L aa+L new)*(by'+1)<=1099511627776)(m:b.1≠d)(G:∀f Y',box Y' b=V ⟨T,z,U,U,[cs.set j f]⟩->bc Y' e i f (aa++new)->Fx Y Y' (b::aA a)->(∀q∈aA f,(q∈aA a\/bK Y q)/\(q∈aA a\/q.1=d))->K Y'):eV (j5 e zs by' Y d a (.l new t o)) λx s=>rV (iQ j s (.p b 0 0)) λy=>sV (aK 1 s y x) K:=by refine gD E W B M S R w λf Y' g F O A=>?_;have u:=F.keep _ _ k H;have N:iQ j Y' (.p b 0 0)=V (.p b 0 j):=(by simp[iQ,u]);simp only[N,aY];refine cy (y:=1) (cs:=[f]) u (ms g) rfl (by show j+1<=L cs;omega) λC n D=>?_;have v:b∉aA f:=λc=>(by rcases A b c with h|h;exact k h;exact m h);refine G f C ?_ (g.fx n λq c e=>v (by simp at e;subst e;exact c)) ((F.trans n).mono λq c=>?_) λq c=>⟨O q c,A q c⟩;rw[D,GP,bX P];simp;rcases dF.1 c with h|h;exact .inl (zu _ h);simp at h;subst h;exact .inl (by simp)
def qZ(n:Nat):List bF:=(aH n).map λi=>⟨if i=0 then 1 else 0,0,I⟩
def aog{α:Type}{n:Nat}{x:α}{β:Type}{f:α->β}:(er (n+1) x).map f=(er n x).map f++[f x]:=by rw[List.replicate_succ',dg];rfl
section
variable{Y:ae}
def aDP{x0 x2 x5:AV}{ls fs ts:List (List AV)}{t1 o1 t3 o3 t4 o4:Bool}(hl:L Y=4096)(h1:L ls<=100)(h3:L fs<=100)(h4:L ts<=100):∃r p,(∃a1 a2 a3,r= .a [a1,iv (-1),a2,a3]/\bc p 131 2 a1 ((er (L ls) (⟨-1,[]⟩:cg)).map cg.c)/\bc p 4 1 a2 ((er (L fs) I).map cb)/\bc p 105 3 a3 ((qZ (L ts)).map bF.c)/\Fx Y p []/\(∀q∈aA a1,bK Y q/\q.1=20)/\(∀q∈aA a2,bK Y q/\q.1=32)/\(∀q∈aA a3,bK Y q/\q.1=49))/\cZ aS GG 69 [.a [x0, .l ls t1 o1,x2, .l fs t3 o3, .l ts t4 o4,x5]] Y r p:=by refine aLs hl rfl λs2 v1 K2 bB nf b1=>?_;have M:Fx Y s2 []:=K2.fx [];have R:L s2=4096:=M.len.trans hl;simp only[IH];refine so R λv2 s3 X N3 b2=>?_;have aZ:L s3=4096:=X.len.trans R;have aR:bM aNC alz [(1,iv (-1))]=V (.a [.l [] U U,iv (-1), .l [] U U, .l [] U U]):=rfl;simp only[acZ,aR,aY];refine so aZ λt s4 F4 N4 b6=>?_;refine cy (y:=4) (cs:=[.l [] U U,iv (-1), .l [] U U, .l [] U U]) b6 rfl rfl (by decide) λB F5 b6=>?_;have aJ:box B (3,t)=V ⟨36,4,U,U,[[.l [] U U,iv (-1), .l [] U U, .l [] U U]]⟩:=b6;have G:Fx s2 B []:=((X.trans F4).trans F5).mono (by simp only[dW,cE];rintro e rfl;exact .inr (N4.old X).no);have a0:L B=4096:=G.len.trans R;have c1:=G.kq b1;have c2:box B (2,v2)=_:=F5.kq (F4.kq b2);have N6:bK Y (3,t):=(N4.old X).old M;have bd:∀{Y':ae} {ks:List Id},Fx B Y' ks->((1,v1):Id)∉ks->box Y' (1,v1)=V ⟨31,6,U,U,[[x0, .l ls t1 o1,x2, .l fs t3 o3, .l ts t4 o4,x5]]⟩:=λF h=>F.keep _ _ h c1;have k1:∀{x:List AV} {y:AV},aN J (y::x)=V y:=λ{x y}=>(by cases y<;>rfl);have K:∀{l:List cg},∀r∈l.map cg.c,L r=2:=qW (by intro _;rfl);have H:∀{l:List Bool},∀r∈l.map cb,L r=1:=qW (by intro _;rfl);have alx:∀{l:List bF},∀r∈l.map bF.c,L r=3:=qW (by intro _;rfl);refine yV (L ls) (λk _ Y'=>∃a1,box Y' (3,t)=V ⟨36,4,U,U,[[a1,iv (-1), .l [] U U, .l [] U U]]⟩/\bc Y' 131 2 a1 ((er k (⟨-1,[]⟩:cg)).map cg.c)/\Fx B Y' [(3,t)]/\∀q∈aA a1,bK B q/\q.1=20) ⟨_,aJ,bc.nil,Fx.refl _ _,by simp[aA]⟩ ?_;rintro k _ p D ⟨a1,m1,g1,u,C⟩;have d1:=bd u (by simp);have ah:L p=4096:=u.len.trans a0;have aT:bM aO9 O7 [(0,iv (-1))]=V (.a [iv (-1), .l [] U U]):=rfl;have aU:∀{Y:ae},aX aTL 1 Y [(0, .a [iv (-1), .l [] U U])]=V (.l ([(⟨-1,[]⟩:cg)].map cg.c) U U,Y):=λ{Y}=>(by simp[aX,gp,eY,nrm,gK,eR,gi,eB,iR,kills,kC,eN,er];rfl);simp only[ac4,au,aI,u0,u1,d1,k1,nM,ip,aj,fS,m1,aT,aU,↓uL];refine⟨λh=>?_,λh=>?_⟩;have A:=aL h;refine Dv m1 (by simp) g1 (λf=>by have:=(C _ f).2;simp at this) rfl (by decide) (by rw[ah];decide) K K (by simp only[bJ,oA,bZ,vw];omega) (by simp) λO Z W g2 g m=>?_;simp only[acV,au,u0,u1,↓uL];refine yU A ⟨O,W,by rw[aog];exact g2,(u.trans g).mono λq f=>?_,λq f=>⟨?_,?_⟩⟩;simp only[dF,eW,ql,y6] at f⊢;rcases f with h|h|h;exact .inl h;exact .inl h;exact .inr (C q h).1.no;exact(m q f).1.elim (λh=>(C q h).1) λh=>h.old u;exact(m q f).2.elim (λh=>(C q h).2) id;have w:k=L ls:=bP D (bw h);subst w;clear D h;refine yV (L fs) (λk _ Y'=>∃a2,box Y' (3,t)=V ⟨36,4,U,U,[[a1,iv (-1),a2, .l [] U U]]⟩/\bc Y' 4 1 a2 ((er k I).map cb)/\Fx p Y' [(3,t)]/\∀q∈aA a2,bK p q/\q.1=32) ⟨_,m1,bc.nil,Fx.refl _ _,by simp[aA]⟩ ?_;rintro k _ Z D ⟨a2,W,g2,g,m⟩;have d2:=g.kq d1;have S:L Z=4096:=g.len.trans ah;have ap:∀{Y:ae},aX BD 1 Y [(0,bv I)]=V (.l ([I].map cb) U U,Y):=λ{Y}=>iz;simp only[ac2,au,aI,u0,u1,d2,k1,nM,ip,aj,fS,W,ap,↓uL];refine⟨λh=>?_,λh=>?_⟩;have A:=aL h;refine Dv W (by simp) g2 (λf=>by have:=(m _ f).2;simp at this) rfl (by decide) (by rw[S];decide) H H (by simp only[bJ,oA,bZ,vw];omega) (by simp) λO Y3 m3 g3 i n=>?_;simp only[acW,au,u0,u1,↓uL];refine yU A ⟨O,m3,by rw[aog];exact g3,(g.trans i).mono λq f=>?_,λq f=>⟨?_,?_⟩⟩;simp only[dF,eW,ql,y6] at f⊢;rcases f with h|h|h;exact .inl h;exact .inl h;exact .inr (m q h).1.no;exact(n q f).1.elim (λh=>(m q h).1) λh=>h.old g;exact(n q f).2.elim (λh=>(m q h).2) id;have w:k=L fs:=bP D (bw h);subst w;clear D h;refine yV (L ts) (λk _ Y'=>∃a3,box Y' (3,t)=V ⟨36,4,U,U,[[a1,iv (-1),a2,a3]]⟩/\bc Y' 105 3 a3 ((qZ k).map bF.c)/\Fx Z Y' [(3,t)]/\∀q∈aA a3,bK Z q/\q.1=49) ⟨_,W,bc.nil,Fx.refl _ _,by simp[aA]⟩ ?_;rintro k _ Y3 D ⟨a3,m3,g3,i,n⟩;have d3:=i.kq d2;have T:L Y3=4096:=i.len.trans S;have aV:bM aNB aM7 [(0,iv 0)]=V (.a (bF.c ⟨0,0,I⟩)):=rfl;have aq:∀{Y:ae} {x:bF},aX aTI 1 Y [(0, .a (bF.c x))]=V (.l ([x].map bF.c) U U,Y):=λ{Y x}=>ua rfl rfl rfl (by decide) rfl (by decide);have bb:∀{x:bF},aN (V 3) (bF.c x)=V (.a (bF.c x)):=λ{x}=>rfl;have ak:∀{x y x2 x3:AV},aN (V 4) [x,y,x2,x3]=V (.a [x,y,x2,x3]):=rfl;have a8:qZ (k+1)=qZ k++[⟨if k=0 then 1 else 0,0,I⟩]:=(by simp[qZ,qn]);have a7:L (qZ k)=k:=(by simp[qZ]);simp only[ac3,au,aI,u0,u1,d3,k1,nM,ip,aj,fS,aV,↓uL];refine⟨λh=>?_,λh=>?_⟩;have A:=aL h;refine so T λv7 Y4 az N7 b7=>?_;refine cy (y:=3) (cs:=bF.c ⟨0,0,I⟩) b7 rfl rfl (by decide) λN o b7=>?_;have P:box N (7,v7)=V ⟨105,3,U,U,[bF.c ⟨0,0,I⟩]⟩:=b7;have ag:Fx Y3 N []:=az.tn o N7.no;simp only[acY,di];refine mG (λvs Y'=>vs=[]/\box Y' (7,v7)=V ⟨105,3,U,U,[bF.c ⟨if k=0 then 1 else 0,0,I⟩]⟩/\Fx Y3 Y' []) (λb hJ=>?_) ?_;simp only[ac1,au,u0,u1,P,aj,↓uL];refine⟨λhi=>?_,λhi=>hJ [] N ⟨rfl,?_,ag⟩⟩;refine cy (y:=1) (cs:=[iv 1]) P rfl rfl (by decide) λY6 F6 b8=>hJ [] Y6 ⟨rfl,?_,ag.tn F6 N7.no⟩;have h0:k=0:=(by simpa using hi);rw[bX h0];exact b8;have h0:¬k=0:=(by simpa using hi);rw[cj h0];exact P;rintro vs Y6 ⟨rfl,b8,v⟩;have m6:=v.kq m3;have g6:=g3.fx v (by simp);simp only[ac0,aI,u0,u1,m6,b8,k1,bb,nM,ip,aj,aq,↓uL];refine Dv m6 (by simp) g6 (λf=>by have:=(n _ f).2;simp at this) rfl (by decide) (by rw[v.len,T];decide) alx alx (by simp only[bJ,a7,bZ,vw];omega) (by simp) λO Y7 m7 g7 F7 P7=>?_;simp only[acX,au,u0,u1,↓uL];refine yU A ⟨O,m7,by rw[a8,dg];exact g7,((i.trans v).trans F7).mono λq f=>?_,λq f=>⟨?_,?_⟩⟩;simp only[dF,eW,ql,y6] at f⊢;rcases f with h|h|h;exact .inl h;exact .inl h;exact .inr (n q h).1.no;exact(P7 q f).1.elim (λh=>(n q h).1) λh=>(h.old v).old i;exact(P7 q f).2.elim (λh=>(n q h).2) id;have w:k=L ts:=bP D (bw h);subst w;have aK:=i.kq (g.kq (u.kq c2));simp only[m3,u0,u1,ak];refine cy (y:=4) (cs:=[a1,iv (-1),a2,a3]) aK rfl rfl (by decide) λN o b5=>?_;have aG:box N (2,v2)=V ⟨36,4,U,U,[[a1,iv (-1),a2,a3]]⟩:=b5;simp only[aG,u0,u1,ak,fe,aoz];have j:∀{a:AV} {d:Nat},(∀q∈aA a,q.1=d)->d≠2->d≠3->∀q∈aA a,q∉[((2,v2):Id)]/\q∉[((3,t):Id)]:=λh h1 h2 q f=>⟨λe=>by simp at e;subst e;exact h1 (h _ f).symm,λe=>by simp at e;subst e;exact h2 (h _ f).symm⟩;have n1:=j (λq f=>(C q f).2) (by decide) (by decide);have n2:=j (λq f=>(m q f).2) (by decide) (by decide);have n3:=j (λq f=>(n q f).2) (by decide) (by decide);have E:∀{q:Id},bK B q->bK Y q:=λh=>(h.old G).old M;refine⟨a1,a2,a3,rfl,((g1.fx g λq f=>(n1 q f).2).fx i λq f=>(n1 q f).2).fx o λq f=>(n1 q f).1,(g2.fx i λq f=>(n2 q f).2).fx o λq f=>(n2 q f).1,g3.fx o λq f=>(n3 q f).1,(((((M.trans G).trans u).trans g).trans i).trans o).mono λq f=>?_,λq f=>⟨E (C q f).1,(C q f).2⟩,λq f=>⟨E ((m q f).1.old u),(m q f).2⟩,λq f=>⟨E (((n q f).1.old g).old u),(n q f).2⟩⟩;simp only[dW,dF,cE,or_self] at f;rcases f with rfl|rfl;exact .inr N6.no;exact .inr (N3.old M).no
end
def wI(n:Nat):List dL:=(aH n).flatMap λ(t:Nat)=>(aH 6).map λ(k:Nat)=>⟨(t:Int),(k:Int),10*(t:Int)+k+1⟩
def dE:br:=⟨[⟨⟨#[120]⟩,0,0,I,0⟩,⟨⟨#[121]⟩,0,0,I,1⟩,⟨⟨#[118]⟩,0,0,U,0⟩,⟨⟨#[113]⟩,0,2,I,0⟩,⟨⟨#[113]⟩,1,2,I,0⟩],[⟨⟨#[109]⟩,I⟩,⟨⟨#[110]⟩,I⟩,⟨⟨#[114]⟩,U⟩],[⟨⟨#[99]⟩,0⟩],[⟨#[102]⟩],[⟨#[109,97,105,110]⟩,⟨#[116,49]⟩,⟨#[116,50]⟩,⟨#[116,51]⟩],wI 4⟩
def gu(t o:Bool):List AV:=[.l (dE.cells.map cA.c) U U, .l (dE.ak.map dS.c) U U, .l (dE.bC.map yp.c) U U, .l (dE.bU.map cs) U U, .l (dE.ay.map cs) U U, .l (dE.dU.map dL.c) t o]
def bdB:Ct 26 [] λr=>∃t o,r= .a (gu t o):=by
 refine aMx λs0 hl h0=>?_
 simp only[ajP]
 refine so hl λv0 s1 F1 N1 b1=>?_
 have E:L s1=4096:=F1.len.trans hl
 have hc:∀{Y:ae},aX aTJ 5 Y [(0, .a (cA.c ⟨⟨#[120]⟩,0,0,I,0⟩)),(1, .a (cA.c ⟨⟨#[121]⟩,0,0,I,1⟩)),(2, .a (cA.c ⟨⟨#[118]⟩,0,0,U,0⟩)),(3, .a (cA.c ⟨⟨#[113]⟩,0,2,I,0⟩)),(4, .a (cA.c ⟨⟨#[113]⟩,1,2,I,0⟩))]=V (.l (dE.cells.map cA.c) U U,Y):=λ{Y}=>rfl
 have X:bM aN1 aOG [(0,sv [120])]=V (.a (cA.c ⟨⟨#[120]⟩,0,0,I,0⟩)):=rfl
 have Z:bM aN1 aOG [(0,sv [121]),(4,iv 1)]=V (.a (cA.c ⟨⟨#[121]⟩,0,0,I,1⟩)):=rfl
 have aa:bM aN1 aOG [(0,sv [118]),(3,bv U)]=V (.a (cA.c ⟨⟨#[118]⟩,0,0,U,0⟩)):=rfl
 have ab:bM aN1 aOG [(0,sv [113]),(2,iv 2)]=V (.a (cA.c ⟨⟨#[113]⟩,0,2,I,0⟩)):=rfl
 have ac:bM aN1 aOG [(0,sv [113]),(1,iv 1),(2,iv 2)]=V (.a (cA.c ⟨⟨#[113]⟩,1,2,I,0⟩)):=rfl
 simp only[ajX,X,Z,aa,ab,ac,aY,hc,bQ]
 have ah:bM aOO O7 [(0,sv [109])]=V (.a (dS.c ⟨⟨#[109]⟩,I⟩)):=rfl
 have al:bM aOO O7 [(0,sv [110])]=V (.a (dS.c ⟨⟨#[110]⟩,I⟩)):=rfl
 have am:bM aOO O7 [(0,sv [114]),(1,bv U)]=V (.a (dS.c ⟨⟨#[114]⟩,U⟩)):=rfl
 have K:∀{Y:ae},aX aR7 3 Y [(0, .a (dS.c ⟨⟨#[109]⟩,I⟩)),(1, .a (dS.c ⟨⟨#[110]⟩,I⟩)),(2, .a (dS.c ⟨⟨#[114]⟩,U⟩))]=V (.l (dE.ak.map dS.c) U U,Y):=λ{Y}=>rfl
 simp only[ajW,ah,al,am,aY,K,bQ]
 have aq:bM aPp O7 [(0,sv [99])]=V (.a (yp.c ⟨⟨#[99]⟩,0⟩)):=rfl
 have b:∀{Y:ae},aX aR8 1 Y [(0, .a (yp.c ⟨⟨#[99]⟩,0⟩))]=V (.l (dE.bC.map yp.c) U U,Y):=λ{Y}=>rfl
 have hf:∀{Y:ae},aX C9 1 Y [(0,sv [102])]=V (.l (dE.bU.map cs) U U,Y):=λ{Y}=>rfl
 have ht:∀{Y:ae},aX C9 4 Y [(0,sv [109,97,105,110]),(1,sv [116,49]),(2,sv [116,50]),(3,sv [116,51])]=V (.l (dE.ay.map cs) U U,Y):=λ{Y}=>rfl
 simp only[ajV,aq,aY,b,bQ,ajU,hf,ajT,ht]
 have hw:bM aRc C2 [(0, .l (dE.cells.map cA.c) U U),(1, .l (dE.ak.map dS.c) U U),(2, .l (dE.bC.map yp.c) U U),(3, .l (dE.bU.map cs) U U),(4, .l (dE.ay.map cs) U U)]=V (.a [.l (dE.cells.map cA.c) U U, .l (dE.ak.map dS.c) U U, .l (dE.bC.map yp.c) U U, .l (dE.bU.map cs) U U, .l (dE.ay.map cs) U U, .l [] U U]):=rfl
 simp only[ajS,hw,aY]
 have bk:L dE.ay=4:=rfl
 have bj:∀a,a=dE.dU->wI 4=a:=λa h=>h.symm
 generalize hA:AV.l (dE.cells.map cA.c) U U=A
 generalize hB:AV.l (dE.ak.map dS.c) U U=B
 generalize hC:AV.l (dE.bC.map yp.c) U U=C
 generalize hD:AV.l (dE.bU.map cs) U U=D
 refine so E λu s2 F2 N2 b2=>?_
 refine cy (y:=6) (cs:=[A,B,C,D, .l (dE.ay.map cs) U U, .l [] U U]) b2 rfl rfl (by decide) λg F3 b3=>?_
 have w:box g (1,u)=V ⟨31,6,U,U,[[A,B,C,D, .l (dE.ay.map cs) U U, .l [] U U]]⟩:=b3
 have v:Fx s1 g []:=F2.tn F3 N2.no
 have c1:=v.kq b1
 have F:L g=4096:=v.len.trans E
 have k1:∀{x:List AV} {y:AV},aN J (y::x)=V y:=λ{x y}=>by cases y<;>rfl
 have G:∀{x y x2 x3 x4 x5:AV},aN (V 6) [x,y,x2,x3,x4,x5]=V (.a [x,y,x2,x3,x4,x5]):=rfl
 have ao:∀{Y:ae},fS Y (.l (dE.ay.map cs) U U)=V (iv (4:Nat)):=λ{Y}=>rfl
 simp only[ajR,u0,u1,w,k1,nM,ip,aj,ao,↓uL]
 have alx:∀{l:List dL},∀r∈l.map dL.c,L r=3:=qW (by intro _;rfl)
 have ar:∀k,wI (k+1)=wI k++(aH 6).map λ(j:Nat)=>⟨(k:Int),(j:Int),10*(k:Int)+j+1⟩:=λk=>a7a
 have av:∀k,L (wI k)<=k*6:=λk=>eU (f:=λ(t:Nat)=>(aH 6).map λ(k:Nat)=>(⟨(t:Int),(k:Int),10*(t:Int)+k+1⟩:dL)) (c:=6) (λt=>by simp) k
 refine yV 4 (λk _ Y'=>∃a,box Y' (1,u)=V ⟨31,6,U,U,[[A,B,C,D, .l (dE.ay.map cs) U U,a]]⟩/\bc Y' 128 3 a ((wI k).map dL.c)/\Fx g Y' [(1,u)]/\∀q∈aA a,bK g q/\q.1=40) ⟨_,w,bc.nil,Fx.refl _ _,by simp[aA]⟩ ?_
 rintro k _ Y1 K ⟨a1,m1,g1,m,O⟩
 have a8:L Y1=4096:=m.len.trans F
 have ba:=av k
 simp only[ajZ,au,aI,u0,u1,↓uL]
 refine⟨λh=>?_,λh=>?_⟩
 ·have ap:=aL h
  refine yV 6 (λj _ Y'=>∃a,box Y' (1,u)=V ⟨31,6,U,U,[[A,B,C,D, .l (dE.ay.map cs) U U,a]]⟩/\bc Y' 128 3 a ((wI k++(aH j).map λ(j:Nat)=>(⟨(k:Int),(j:Int),10*(k:Int)+j+1⟩:dL)).map dL.c)/\Fx g Y' [(1,u)]/\∀q∈aA a,bK g q/\q.1=40) ⟨a1,m1,by simpa using g1,m,O⟩ ?_
  rintro j _ Y2 hj ⟨a2,M,T,i,n⟩
  have af:∀{Y:ae} {x:dL},aX aTK 1 Y [(0, .a (dL.c x))]=V (.l ([x].map dL.c) U U,Y):=λ{Y x}=>ua rfl rfl rfl (by decide) rfl (by decide)
  have ad:∀{x y z:Int},bM aP5 aM7 [(0,iv x),(1,iv y),(2,iv z)]=V (.a (dL.c ⟨x,y,z⟩)):=λ{x y z}=>rfl
  simp only[ajY,au,aI,u0,u1,M,k1,nM,ip,aj,ad,af,↓uL]
  refine⟨λH=>?_,λH=>?_⟩
  ·have p:j<6:=Int.ofNat_lt.1 (nt H)
   rw[show dq.wrap (dq.wrap (dq.wrap (10*(k:Int))+j)+1)=10*(k:Int)+j+1 by
    rw[eM (x:=10*(k:Int)) (by omega) (by omega),eM (x:=10*(k:Int)+j) (by omega) (by omega),eM (by omega) (by omega)]]
   refine Dv M (by simp) T (λb=>by have:=(n _ b).2;simp at this) rfl (by decide) (by rw[i.len,F];decide) alx alx (by simp only[bJ,P8,List.length_range,bZ,vw];omega) (by simp) λa' Y3 m3 W N P=>?_
   simp only[ajQ,au,u0,u1,↓uL]
   refine yU p ⟨a',m3,by simp only[qn,dg,<-List.append_assoc] at W⊢;exact W,(i.trans N).mono λq b=>?_,λq b=>⟨?_,?_⟩⟩
   ·simp only[dF,eW,ql,y6] at b⊢
    rcases b with h|h|h
    ·exact .inl h
    ·exact .inl h
    ·exact .inr (n q h).1.no
   ·exact(P q b).1.elim (λh=>(n q h).1) λh=>h.old i
   ·exact(P q b).2.elim (λh=>(n q h).2) id
  ·have bi:¬(j:Int)<6:=aPy H
   have p:j=6:=by omega
   subst p
   refine yU ap ⟨a2,M,by rw[ar];exact T,i,n⟩
 ·have ag:k=4:=bP K (bw h)
  subst ag
  have S:=m.kq c1
  simp only[m1,G,u0,u1]
  refine cy (y:=6) (cs:=[A,B,C,D, .l (dE.ay.map cs) U U,a1]) S rfl rfl (by decide) λd F5 b5=>?_
  have R:box d (0,v0)=V ⟨31,6,U,U,[[A,B,C,D, .l (dE.ay.map cs) U U,a1]]⟩:=b5
  simp only[R,G,u0,u1]
  obtain⟨t,o,q1⟩:=(g1.fx F5 λq b e=>by simp at e;subst e;have:=(O _ b).2;simp at this).frD
  have hr:jS d [.a [A,B,C,D, .l (dE.ay.map cs) U U,a1]]= .a (gu t o):=by
   show AV.a [dQ d A,dQ d B,dQ d C,dQ d D,dQ d (.l (dE.ay.map cs) U U),dQ d a1]=_
   rw[q1,<-hA,<-hB,<-hC,<-hD];rfl
  unfold aE
  rw[hr]
  exact⟨rfl,t,o,rfl⟩
def PM:Ct 26 [] (·= .a dE.c):=by refine aDq ?_;obtain⟨r,b,d⟩:=bdB;refine⟨r,?_,d⟩;obtain⟨t,o,rfl⟩:=b;rfl
def Gf:FT:=BJ PM
def azy{Lw K}:=al2 Gf PM Lw K
def aTk{c:AV}{cs:List AV}:wn (c::cs)=aA c++wn cs:=by cases c<;>rfl
def aYg{c Y:ae}{d:Nat}{cs:List AV}{a:AV}{e:TypeId}{z:Nat}{aa:List (List AV)}(g:bc c e z a aa)(n:aa.all (λr=>r.all DU)=U)(i:d<L Y):∃h f,gU c d Y (a::cs)=(gU c d f cs).map (λp=>(h::p.1,p.2))/\bc f e z h aa/\Fx Y f []/\∀q∈aA h,bK Y q/\q.1=d:=by rcases g with⟨rfl,rfl⟩|⟨b,rfl,k⟩;exact⟨.l [] U U,Y,rfl, .inl ⟨rfl,rfl⟩,Fx.refl _ _,by simp[aA]⟩;refine⟨.m (lA Y d) (L aa),put Y d ⟨e,z,U,I,aa⟩,?_, .inr ⟨_,rfl,iy i⟩,kH i,λq j=>?_⟩;have:vY ⟨e,z,U,I,aa⟩=U:=(by simp only[vY,n];rfl);simp only[gU,k,this,vm];simp only[aA,cE] at j;subst j;exact⟨qQ Y d,rfl⟩
def a57{Y:ae}{d:Nat}{K:be}{w:br}(j:d<L Y)(P:L w.ak<=100)(R:L w.bU<=100)(S:L w.ay<=100)(W:∀a1 a2 a3 Y',bc Y' 131 2 a1 ((er (L w.ak) (⟨-1,[]⟩:cg)).map cg.c)->bc Y' 4 1 a2 ((er (L w.bU) I).map cb)->bc Y' 105 3 a3 ((qZ (L w.ay)).map bF.c)->Fx Y Y' []->(∀q∈aA a1++(aA a2++aA a3),bK Y q/\q.1=d)->K (.a [a1,iv (-1),a2,a3]) Y'):cN 69 [.a w.c] Y d K:=by obtain⟨r,l,⟨a1,a2,a3,rfl,g1,B,C,F,n,o,t⟩,T⟩:=aDP (Y:=eK) (x0:=sl cA.c w.cells) (x2:=sl yp.c w.bC) (x5:=sl dL.c w.dU) (ls:=w.ak.map dS.c) (fs:=w.bU.map cs) (ts:=w.ay.map cs) (t1:=I) (o1:=I) (t3:=I) (o3:=I) (t4:=I) (o4:=I) (oA ..) (by simpa using P) (by simpa using R) (by simpa using S);simp only[bJ] at g1 B C;obtain⟨u,m,M,Z,g,n1⟩:=aYg (Y:=Y) (d:=d) (cs:=[iv (-1),a2,a3]) g1 (by simp[cg.c,DU,sl]) j;obtain⟨v,s2,N,k2,i,D⟩:=aYg (Y:=m) (d:=d) (cs:=[a3]) B (by simp[DU,cb]) (by rw[g.len];exact j);obtain⟨A,G,O,k3,k,E⟩:=aYg (Y:=s2) (d:=d) (cs:=[]) C (by simp[List.all_eq_true,DU,bF.c]) (by rw[i.len,g.len];exact j);have b:[AV.a w.c].map (dG Y)=[.a w.c]:=rfl;refine .inr (.inr ⟨by rw[b];simp[iX,br.c,eN,sl],by simp[y7,j],[a1,iv (-1),a2,a3],l,[u,iv (-1),v,A],G,by rw[b];exact T,?_,?_,?_⟩);have m1:∀{a:AV},(aA a).Nodup:=λ{a}=>(by cases a<;>simp[aA]);have H:wn [a1,iv (-1),a2,a3]=aA a1++(aA a2++aA a3):=(by rw[aTk,aTk,aTk,aTk];show aA a1++([]++(aA a2++(aA a3++[])))=_;simp);rw[H,xl,xl];refine⟨m1,⟨m1,m1,λx b y f e=>?_⟩,λx b y f e=>?_⟩;subst e;have:=(o x b).2;have:=(t x f).2;omega;subst e;rcases dF.1 f with f|f;have:=(n x b).2;have:=(o x f).2;omega;have:=(n x b).2;have:=(t x f).2;omega;rw[M];have:gU l d m [iv (-1),a2,a3]=(gU l d m [a2,a3]).map λp=>(iv (-1)::p.1,p.2):=rfl;rw[this,N,O];rfl;refine W u v A G ((Z.fx i (by simp)).fx k (by simp)) (k2.fx k (by simp)) k3 ((g.trans i).trans k) λq X=>?_;rcases dF.1 X with h|h;exact n1 q h;rcases dF.1 h with h|h;exact⟨(D q h).1.old g,(D q h).2⟩;exact⟨((E q h).1.old i).old g,(E q h).2⟩
def aH6(w:br):bW:=⟨⟨er (L w.ak) ⟨-1,[]⟩,-1,er (L w.bU) I,qZ (L w.ay)⟩,w.cells.map (·.init),er (L w.bU) 0,er (L w.ay) 0⟩
def aWw{Y:ae}{e:TypeId}{z:Nat}{a:AV}{aa:List (List AV)}{d:Nat}(g:bc Y e z a aa)(h:∀q∈aA a,q.1=d):dK a=[]\/dK a=[d]:=by rcases g with⟨_,rfl⟩|⟨b,rfl,_⟩;exact .inl rfl;refine .inr ?_;have:=h b (by simp[aA]);simp[dK,this]
def k1m{b:Id}{n:Nat}:dK (.m b n)=[b.1]:=rfl
def k1p{b:Id}{i j:Nat}:dK (.p b i j)=[b.1]:=rfl
def k1s{v:Value}:dK (.s v)=[]:=rfl
def k1l{r:List (List AV)}{t o:Bool}:dK (.l r t o)=[]:=rfl
structure SnL(Y0 Y:ae)(s:bW)(a1 a2 a3 a4 a5 a6:AV):Prop where
 g1:gm Y 131 2 a1 (s.bm.ak.map cg.c)
 g2:gm Y 4 1 a2 (s.bm.done.map cb)
 g3:gm Y 105 3 a3 (s.bm.ay.map bF.c)
 g4:gm Y 2 1 a4 (s.cells.map ci)
 g5:gm Y 2 1 a5 (s.bU.map ci)
 g6:gm Y 3 1 a6 (s.count.map ci)
 p1:∀q∈aA a1,bK Y0 q/\q.1=6
 p2:∀q∈aA a2,bK Y0 q/\q.1=6
 p3:∀q∈aA a3,bK Y0 q/\q.1=6
 p4:∀q∈aA a4,bK Y0 q/\q.1=32
 p5:∀q∈aA a5,bK Y0 q/\q.1=10
 p6:∀q∈aA a6,bK Y0 q/\q.1=14
section
variable{Y0 Y:ae}{s:bW}{a1 a2 a3 a4 a5 a6:AV}
def SnL.ids(h:SnL Y0 Y s a1 a2 a3 a4 a5 a6){x:Int}:∀q∈eB (.a [a1,iv x,a2,a3,a4,a5,a6]),bK Y0 q/\(q.1=6\/q.1=10\/q.1=14\/q.1=32):=by intro q b;have c:∀{a:AV},iR a=aA a:=λ{a}=>(by cases a<;>rfl);simp only[eB,Cz,RN,c,cL,dF] at b;rcases b with g|g|g|g|g|g|g;exact⟨(h.p1 q g).1, .inl (h.p1 q g).2⟩;simp[aA] at g;exact⟨(h.p2 q g).1, .inl (h.p2 q g).2⟩;exact⟨(h.p3 q g).1, .inl (h.p3 q g).2⟩;exact⟨(h.p4 q g).1, .inr (.inr (.inr (h.p4 q g).2))⟩;exact⟨(h.p5 q g).1, .inr (.inl (h.p5 q g).2)⟩;exact⟨(h.p6 q g).1, .inr (.inr (.inl (h.p6 q g).2))⟩
theorem SnL.lz(h:SnL Y0 Y s a1 a2 a3 a4 a5 a6):[a1,iv s.bm.tx,a2,a3,a4,a5,a6].map (lz Y)=s.c:=by simp only[ji,mU,aOb h.g1,aOb h.g2,aOb h.g3,aOb h.g4,aOb h.g5,aOb h.g6,aQ5];rfl
end
def aXI{Y:ae}{w:br}(hl:L Y=4096)(h0:L w.cells<=1000)(h1:L w.ak<=100)(h3:L w.bU<=100)(h4:L w.ay<=100):∃r B,(∃a1 a2 a3 a4 a5 a6,r= .a [a1,iv (-1),a2,a3,a4,a5,a6]/\SnL Y B (aH6 w) a1 a2 a3 a4 a5 a6/\Fx Y B [])/\cZ aS GG 29 [.a w.c] Y r B:=by refine aLy hl rfl λs2 v1 K2 bF nf b1=>?_;have F:Fx Y s2 []:=K2.fx [];have T:L s2=4096:=F.len.trans hl;simp only[IK];refine so T λv2 s3 G N3 b2=>?_;have c1:=G.kq b1;have W:L s3=4096:=G.len.trans T;have r6:aN (V 6) w.c=V (.a w.c):=rfl;have aT:aN J (w.c.drop 3)=V (sl cs w.bU):=rfl;have aU:aN J (w.c.drop 4)=V (sl cs w.ay):=rfl;have al:aN J w.c=V (sl cA.c w.cells):=rfl;simp only[adz,u0,u1,c1,r6,↓uL];refine a57 (by rw[W];decide) h1 h3 h4 λa1 a2 a3 s5 g1 g2 g3 j P=>?_;have P1:∀q∈aA a1,q.1=6:=λq b=>(P q (by simp[b])).2;have P2:∀q∈aA a2,q.1=6:=λq b=>(P q (by simp[b])).2;have P3:∀q∈aA a3,q.1=6:=λq b=>(P q (by simp[b])).2;have E:=j.kq c1;have av:=j.kq b2;have X:L s5=4096:=j.len.trans W;simp only[ady,u0,u1,E,aT,aj,↓uL];refine AP (by decide) (by decide) (by rw[X];decide) (by omega) λC s6 p5 N6 H d5=>?_;have Z:L s6=4096:=H.len.trans X;have aq:=H.kq E;simp only[adx,u0,u1,aq,aU,aj,↓uL];refine AP (by decide) (by decide) (by rw[Z];decide) (by omega) λD s7 p6 N7 F7 d6=>?_;have aa:L s7=4096:=F7.len.trans Z;have R:=H.trans F7;have aE:bM BF anY [(0, .a [a1,iv (-1),a2,a3]),(2, .m C (L w.bU)),(3, .m D (L w.ay))]=V (.a [a1,iv (-1),a2,a3, .l [] U U, .m C (L w.bU), .m D (L w.ay)]):=rfl;simp only[adw,aE,aY];refine anu aa λO y o N8 d9=>?_;have f:=R.trans o;have aM:L y=4096:=o.len.trans aa;have ar:=f.kq E;have aw:=f.kq av;have q1:=g1.fx f (by simp);have q2:=g2.fx f (by simp);have q3:=g3.fx f (by simp);have q5:=o.kq (F7.kq d5);have q6:=o.kq d6;obtain⟨bC,g⟩:=C;obtain⟨bD,i⟩:=D;simp only at p5 p6;subst p5;subst p6;simp only[adv];refine dT ?_ ?_;rcases aWw g1 P1 with M|M<;>rcases aWw g2 P2 with N|N<;>rcases aWw g3 P3 with e3|e3<;>simp[eL,lb,cD,dC,k1m,k1p,k1s,k1l,br.c,sl,M,N,e3];refine yV (L w.cells) (λk _ Y'=>∃a,box Y' (3,O)=V ⟨40,7,U,U,[[a1,iv (-1),a2,a3,a, .m (10,g) (L w.bU), .m (14,i) (L w.ay)]]⟩/\bc Y' 2 1 a (((w.cells.take k).map (·.init)).map ci)/\Fx y Y' [(3,O)]/\∀q∈aA a,bK y q/\q.1=32) ⟨_,d9,by simp[bc],Fx.refl _ _,by simp[aA]⟩ ?_;rintro k _ B hk ⟨a4,m1,g4,u,A⟩;have M:=u.kq ar;have aK:L B=4096:=u.len.trans aM;have aF:∀{Y:ae} {x:Int},aX yW 1 Y [(0,iv x)]=V (.l ([x].map ci) U U,Y):=λ{Y x}=>iz;simp only[adA,au,aI,u0,u1,M,al,m1,yr,C5,yd,rk,aj,ix,bh,aF,↓uL];refine⟨λh=>?_,λh=>?_⟩;have t:=aL h;refine⟨dJ t,?_⟩;refine apQ g4.p aK fF fF (by simp) (by simp;omega) λa' K g5 n N5=>?_;have m5:=n.keep _ _ (λb=>by have:=(A _ b).2;simp at this) m1;simp only[adu,u0,u1,m5,aj,↓uL];refine A0 m5 g5.p.ce (by simp) λY6 S D=>?_;have P5:∀q∈aA a',bK y q/\q.1=32:=λq b=>⟨(N5 q b).1.old u,(N5 q b).2⟩;simp only[adt,↓uL];refine dT (by simp[eL,lb,cD,dC,dK]) ?_;simp only[au,u0,u1];refine yU t ⟨a',D,?_,((u.trans n).trans S).mono λq b=>?_,P5⟩;rw[iJ t,<-bT t,dg,dg];exact g5.fx S λq b e=>(by simp at e;subst e;have:=(P5 _ b).2;simp at this);simp only[dF,cE] at b⊢;rcases b with(h|h)|h;exact .inl h;exact .inr (A q h).1.no;exact .inl h;have aG:k=L w.cells:=bP hk (bw h);subst aG;rw[gV] at g4;have N:=u.kq aw;have Bi:aN (V 7) [a1,iv (-1),a2,a3,a4, .m (10,g) (L w.bU), .m (14,i) (L w.ay)]=V (.a [a1,iv (-1),a2,a3,a4, .m (10,g) (L w.bU), .m (14,i) (L w.ay)]):=rfl;simp only[Bi,aY];refine qr N rfl rfl λK n C=>?_;simp only[C,qd,qh,df,Bi,aY];have v:Fx y K [(3,O),(2,v2)]:=u.trans n;have n6:∀{a:AV} {d:Nat},(∀q∈aA a,q.1=d)->d≠2->d≠3->∀q∈aA a,q∉[((3,O):Id),((2,v2):Id)]:=λh h1 h2 q b e=>(by have:=h q b;simp at e;rcases e with e|e<;>subst e<;>simp at this<;>omega);have z1:=q1.fx v (n6 P1 (by decide) (by decide));have z2:=q2.fx v (n6 P2 (by decide) (by decide));have z3:=q3.fx v (n6 P3 (by decide) (by decide));have z4:=g4.fx n (λq b e=>by have:=(A q b).2;simp at e;subst e;simp at this);have z5:bc K 2 1 (.m (10,g) (L w.bU)) ((er (L w.bU) (0:Int)).map ci):= .inr ⟨(10,g),by simp,by rw[v.kq q5,List.map_replicate];rfl⟩;have z6:bc K 3 1 (.m (14,i) (L w.ay)) ((er (L w.ay) (0:Int)).map ci):= .inr ⟨(14,i),by simp,by rw[v.kq q6,List.map_replicate];rfl⟩;have o3:∀{q:Id},bK s3 q->bK Y q:=λh=>(h.old G).old F;have o9:∀{q:Id},bK y q->bK Y q:=λh=>o3 ((h.old f).old j);have n5:bK Y (10,g):=o3 (N6.old j);have aP:bK Y (14,i):=o3 ((N7.old H).old j);refine⟨a1,a2,a3,a4,_,_,rfl,⟨z1.p,z2.p,z3.p,z4.p,z5.p,z6.p,λq h=>⟨o3 (P q (by simp[h])).1,P1 q h⟩,λq h=>⟨o3 (P q (by simp[h])).1,P2 q h⟩,λq h=>⟨o3 (P q (by simp[h])).1,P3 q h⟩,λq h=>⟨o9 (A q h).1,(A q h).2⟩,λq h=>?_,λq h=>?_⟩,(((((F.trans G).trans j).trans f).trans v)).mono λq b=>?_⟩;simp only[aA,cE] at h;subst h;exact⟨n5,rfl⟩;simp only[aA,cE] at h;subst h;exact⟨aP,rfl⟩;simp only[dW,eW,ql,y6,cL] at b;rcases b with rfl|rfl;exact .inr (o3 ((N8.old R).old j)).no;exact .inr (N3.old F).no
def O1(Y:ae)(z:Nat)(x:AV)(aa:List (List AV)):Prop:=(∃t o,x= .l aa t o)\/∃b m e,x= .m b (L aa)/\box Y b=V ⟨e,z,U,I,aa++m⟩
section
variable{Y Y':ae}{z:Nat}{x:AV}{aa:List (List AV)}
theorem O1.fx{a:List Id}(h:O1 Y z x aa)(F:Fx Y Y' a)(c:∀q∈aA x,q∉a):O1 Y' z x aa:=by rcases h with h|⟨b,m,e,rfl,d⟩;exact .inl h;exact .inr ⟨b,m,e,rfl,F.keep _ _ (c b (by simp[aA])) d⟩
def O1.bx(h:O1 Y z x aa):∀q∈aA x,∃y,box Y q=V y:=by rcases h with⟨t,o,rfl⟩|⟨b,m,e,rfl,c⟩;simp[aA];intro q a;simp only[aA,cE] at a;subst a;exact⟨_,c⟩
def O1.of{e:TypeId}(h:gm Y e z x aa):O1 Y z x aa:=by rcases h with⟨rfl,rfl⟩|⟨b,m,rfl,a⟩;exact .inl ⟨_,_,rfl⟩;exact .inr ⟨b,m,e,rfl,a⟩
def O1.ro(h:O1 Y z x aa):gL Y x=V aa:=by rcases h with⟨t,o,rfl⟩|⟨b,m,e,rfl,a⟩;rfl;simp[gL,a]
def O1.ln(h:O1 Y z x aa):fS Y x=V (iv (L aa)):=by rcases h with⟨t,o,rfl⟩|⟨b,m,e,rfl,a⟩;rfl;simp[fS,a]
def O1.ce(h:O1 Y z x aa):eY x=V [x]:=by rcases h with⟨t,o,rfl⟩|⟨b,m,e,rfl,a⟩<;>rfl
def O1.ix1(h:O1 Y 1 x aa){i:Nat}{c:AV}(g:aa[i]?=V [c]){K:AV->d7}(d:∀p,p= .q [c]\/(∃b,p= .p b i 0/\b∈aA x)->K p c):rV (cz 1 Y x (iv i)) λp=>rV (kb J Y p) (K p):=by obtain⟨a,r⟩:=List.getElem?_eq_some_iff.1 g;rcases h with⟨t,o,rfl⟩|⟨b,m,e,rfl,f⟩;have:cz 1 Y (.l aa t o) (iv i)=V (.q [c]):=(by simp[cz,a,r]);rw[this];exact d _ (.inl rfl);have j:cz 1 Y (.m b (L aa)) (iv i)=V (.p b i 0):=(by simp[cz,f,a]);have k:(aa++m)[i]?=V [c]:=(by rw[xe a];exact g);have n:kb J Y (.p b i 0)=V c:=(by simp only[kb,iE,f,qd,k];cases c<;>rfl);rw[j];simp only[aY,n];exact d _ (.inr ⟨b,rfl,by simp[aA]⟩)
def apV{e:TypeId}{d by':Nat}{zs:List AV}{a:AV}{new:List (List AV)}{K:be}(h:gm Y e z a aa)(t:gL Y x=V new)(A:L zs=z)(k:0<z)(u:d<L Y)(y:∀r∈aa,L r=z)(v:∀r∈new,L r=z)(f:(L aa+L new)*(by'+1)<=1099511627776)(j:∀c Y',gm Y' e z c (aa++new)->Fx Y Y' (aA a)->(∀b∈aA c,b∈aA a\/bK Y b/\b.1=d)->K c Y'):eV (j5 e zs by' Y d a x) K:=by have o:j5 e zs by' Y d a x=j5 e zs by' Y d a (.l new U U):=(by have n:gL Y (.l new U U)=V new:=rfl;unfold j5;rw[t,n]);rw[o];by_cases i:new=[];subst i;have:j5 e zs by' Y d a (.l [] U U)=V (a,Y):=(by unfold j5;simp only[gL];rw[bX (by simp)];rcases h with⟨_,rfl⟩|⟨q,m,rfl,w⟩;rfl;simp[w]);rw[this];exact j a Y (by simpa using h) (Fx.refl _ _) λb f=> .inl f;exact qs h A k u y v i f λc Y' g F N=>j c Y' g.p F λb f=> .inr (N b f)
end
def baG{Y:ae}{z0 a:AV}{e:TypeId}{z:Nat}{aa:List (List AV)}(g:gm Y e z a aa):aX [z0] 1 Y [(0,a)]=V (.l [[.l aa I I]] U U,kills Y (aA a)):=by rcases g with⟨rfl,rfl⟩|⟨b,m,rfl,c⟩;simp[aX,gp,eY,nrm,gK,eR,gi,eB,iR,kills,kC,eN,aA];simp[aX,gp,eY,nrm,gK,eR,gi,eB,iR,kC,eN,aA,c]
def O1.keys{Y:ae}{z:Nat}{x:AV}{aa:List (List AV)}(h:O1 Y z x aa){P:Nat->Prop}(a:∀q∈aA x,P q.1):cD x=[]\/∃p,cD x=[p]/\P p:=by rcases h with⟨t,o,rfl⟩|⟨b,m,e,rfl,c⟩;exact .inl rfl;exact .inr ⟨b.1,rfl,a b (by simp[aA])⟩
def a6M{Y:ae}{w ev:Int}{x1 x2:AV}{li:List Int}{lj:List (List Int)}(hl:L Y=4096)(h1:O1 Y 1 x1 (li.map ci))(h2:O1 Y 1 x2 (lj.map cl))(hp:∀q∈aA x1,q.1≠1/\q.1≠3)(b1:L li<=1000)(b2:L lj<=1000)(b3:∀t∈lj,L t<=1000):
  ∃r u,(∃a1 a2,r= .a [iv w,a1,a2,iv ev]/\gm u 2 1 a1 (li.map ci)/\gm u 38 1 a2 (lj.map cl)/\Fx Y u []/\(∀q∈aA a1,bK Y q/\q.1=12)/\∀q∈aA a2,bK Y q/\q.1=31)/\cZ aS GG 200 [.a [iv w,x1,x2,iv ev]] Y r u:=by
 refine bhc hl rfl λs2 v1 K2 bk nf c1=>?_
 have B:Fx Y s2 []:=K2.fx []
 have T:L s2=4096:=B.len.trans hl
 have H1:=h1.fx B (by simp)
 have H2:=h2.fx B (by simp)
 simp only[aVb]
 refine so T λv2 s3 C N3 q3=>?_
 have Z:=C.kq c1
 have F:=C.len.trans T
 have M:∀{x:List AV} {y:AV},aN J (y::x)=V y:=λ{x y}=>by cases y<;>rfl
 simp only[a21,u0,u1,Z,M,nM,ip,aj,nS,↓uL]
 have H3:=H2.fx C (by simp)
 have al:=H1.fx C (by simp)
 simp only[a20,u0,u1,Z,M,nM,ip,aj,↓uL]
 refine apV (aa:=[]) (e:=2) (z:=1) (.inl ⟨rfl,rfl⟩) al.ro rfl (by decide) (by rw[F];decide) (by simp) fF (by simp;omega) λa1 s4 K F4 P4=>?_
 simp only[dW] at K
 have o:∀q∈aA a1,bK s3 q/\q.1=12:=λq d=>(P4 q d).elim (λh=>by simp[aA] at h) id
 have f:Fx s3 s4 []:=F4.mono (by simp[aA])
 have av:bM aoD alz [(0,iv w),(3,iv ev),(1,a1)]=V (.a [iv w,a1, .l [] U U,iv ev]):=by
  rcases K with⟨_,rfl⟩|⟨b,m,rfl,_⟩<;>rfl
 simp only[a2Z,av,aY]
 refine aRA rfl rfl (by decide) (by rw[f.len,F];decide) λv3 N v N5 q5=>?_
 have az:L N=4096:=v.len.trans (f.len.trans F)
 have c5:=v.kq (f.kq Z)
 have d5:=v.kq (f.kq q3)
 have g5:=K.fx v (by simp)
 have H5:=(H3.fx f (by simp)).fx v (by simp)
 have o3:∀{q:Id},bK s3 q->bK Y q:=λh=>(h.old C).old B
 have o5:∀{q:Id},bK N q->bK Y q:=λh=>o3 ((h.old v).old f)
 refine dT ?_ ?_
 ·have hk:cD a1=[]\/cD a1=[12]:=by
   rcases K with⟨_,rfl⟩|⟨b,m,rfl,_⟩
   ·exact .inl rfl
   ·refine .inr ?_
    have:=(o b (by simp[aA])).2
    simp[cD,dC,dK,this]
  rcases hk with H|H<;>rcases h1.keys (P:=λp=>p≠1/\p≠3) hp with e2|⟨p,e2,p1,p3⟩<;>simp[eL,lb,Cz, *]<;>simp[cD,dC,dK]<;>omega
 refine yV (L lj) (λk _ Y'=>∃a2,box Y' (3,v3)=V ⟨196,4,U,U,[[iv w,a1,a2,iv ev]]⟩/\gm Y' 38 1 a2 ((lj.take k).map cl)/\Fx N Y' [(3,v3)]/\∀q∈aA a2,bK N q/\q.1=31) ⟨_,q5,by simp[gm],Fx.refl _ _,by simp[aA]⟩ ?_
 rintro k _ u hk ⟨a2,m1,g2,j,D⟩
 have H:=j.kq c5
 have R:bK Y (3,v3):=o3 (N5.old f)
 have H6:=H5.fx j (λq d e=>by
  simp only[cE] at e
  subst e
  obtain⟨y,hy⟩:=h2.bx _ d
  exact R.no y hy)
 simp only[a22,au,aI,u0,u1,H,m1,M,nM,ip,aj,H6.ln,bJ,nS,↓uL]
 refine⟨λh=>?_,λh=>?_⟩
 ·have g:=aL h
  simp only[a2Y,au,u0,u1,H,M,nM,ip,aj,↓uL]
  refine H6.ix1 (i:=k) (c:=sl ci (gd lj k)) (by rw[ve,eC g,bT g];rfl) λp bj=>?_
  have S:L u=4096:=j.len.trans az
  have bi:=b3 _ (dB g)
  refine apV (aa:=[]) (e:=3) (z:=1) (new:=(gd lj k).map ci) (.inl ⟨rfl,rfl⟩) rfl rfl (by decide) (by rw[S];decide) (by simp) fF (by simp;omega) λG s7 g7 F7 P7=>?_
  simp only[dW] at g7
  have n:Fx u s7 []:=F7.mono (by simp[aA])
  have A:∀q∈aA G,bK u q/\q.1=29:=λq d=>(P7 q d).elim (λh=>by simp[aA] at h) id
  have E:=aOp (aA G) s7
  simp only[a2X,baG g7,bQ]
  have g8:=(g2.fx n (by simp)).fx E (λq d e=>by have:=(D q d).2;have:=(A q e).2;omega)
  refine qs (new:=[[.l ((gd lj k).map ci) I I]]) g8 rfl (by decide) (by rw[E.len,n.len,S];decide) (by intro r hr;obtain⟨y,_,rfl⟩:=dN.1 hr;rfl) (by simp) (by simp) (by simp;omega) λa9 s9 g9 F9 X=>?_
  have m9:=F9.keep _ _ (λd=>by have:=(D _ d).2;simp at this) (E.keep _ _ (λd=>by have:=(A _ d).2;simp at this) (n.kq m1))
  simp only[a2W,u0,u1,m9,aj,↓uL]
  refine A0 m9 g9.p.ce (by simp) λbl O an=>?_
  simp only[a2V,↓uL]
  refine dT ?_ ?_
  ·have ax:cD G=[]\/cD G=[29]:=by
    rcases g7 with⟨_,rfl⟩|⟨b,m,rfl,_⟩
    ·exact .inl rfl
    ·refine .inr ?_
     have:=(A b (by simp[aA])).2
     simp[cD,dC,dK,this]
   rcases ax with e7|e7<;>simp[eL,lb,e7,Cz]<;>simp[cD,dC,dK,sl]
  simp only[au,u0,u1]
  refine yU g ⟨a9,an,?_,((((j.trans n).trans E).trans F9).trans O).mono λq d=>?_,λq d=>⟨(((X q d).1.old E).old n).old j,(X q d).2⟩⟩
  ·rw[iJ g,<-bT g,dg]
   exact g9.p.fx O λq d e=>by have:=(X q d).2;simp at e;subst e;simp at this
  ·simp only[dF,cE,ql,y6] at d⊢
   rcases d with((h|h)|h)|h
   ·exact .inl h
   ·exact .inr ((A q h).1.old j).no
   ·exact .inr (D q h).1.no
   ·exact .inl h
 ·have aw:k=L lj:=bP hk (bw h)
  subst aw
  rw[gV] at g2
  have d6:=j.kq d5
  have uS:aN (V 4) [iv w,a1,a2,iv ev]=V (.a [iv w,a1,a2,iv ev]):=rfl
  simp only[uS,aY]
  refine qr d6 rfl rfl λs8 W b8=>?_
  simp only[b8,qd,qh,df,uS,aY]
  refine⟨a1,a2,rfl,(g5.fx j λq d e=>by have:=(o q d).2;simp at e;subst e;simp at this).fx W (λq d e=>by have:=(o q d).2;simp at e;subst e;simp at this),g2.fx W (λq d e=>by have:=(D q d).2;simp at e;subst e;simp at this),((((((B.trans C).trans f).trans v).trans j).trans W)).mono λq d=>?_,λq d=>⟨o3 (o q d).1,(o q d).2⟩,λq d=>⟨o5 (D q d).1,(D q d).2⟩⟩
  simp only[dW,dF,cE,cL] at d
  rcases d with rfl|rfl
  ·exact .inr R.no
  ·exact .inr (N3.old B).no
def aR3:dO:=(26,Gf)::a7D
def aPL:eJ aR3:=it (apM PM) (aR2)
def aPg:=ai @azy<|@bcw
section
attribute[local irreducible] aX
def a9J:=bi 25 [(4,([7],[2,3,4,6])),(12,([8,9,10],[2,3,4]))]
def a25 d e R c a:=aw 4 a d λf=>sV (aK 4 a e f) λb=>aw 4 b e λg=>fe R b [g,(gt c 1)]
def a26 a e d g i k m b f h o j l p n t R c:=dH [(bo a),(bo e),(bo d),(bo g),(bo a),(bo i),(bo d),(bo k),km,(lb I [] []),km,(lb I [m,(gt b 2)] [125]),(lb U [f,h] []),(lb I [o,(gt b 0)] []),(lb U [j,l] []),(lb I [p,n] [])] [(0,9),(1,9),(2,9),(3,9),(4,9),(5,9),(6,9),(7,9),(8,9),(9,10),(0,11),(1,11),(2,11),(3,11),(4,11),(5,11),(6,11),(7,11),(8,11),(4,13),(5,13),(6,13),(7,13)] (ab 0 c a λq=>aV q (iv 1) λr=>aB 0 c a λs=>sV (aK 1 c s r) (a25 a t R b))
def a27 b c d h i g k m n o f j l p q R a:=ao 1 a b c λe=>sV (aK 1 a e d) (a26 h i g k m n o f j l p b c e d q R)
def a28 c d a k m g h f i j l n p R o b:=ao 1 b c d λe=>sV (aK 1 b e (gt a 0)) (a27 k m o g h f i j l n a c d e p R)
def aVg c b o R d a:=∀_:Rg,aB 1 a c λe=>aM a e λk=>aB 1 a b λf=>aM a f λl=>aB 2 a c λg=>aM a g λm=>aB 1 a b λh=>aM a h λn=>eV (aX bH 0 a []) λi j=>eV (j5 3 fB 8 j 125 i (gt d 2)) (a28 k l d m n c e b f g h i o R)
def a29 c d R a:=aw 4 a c λe=>sV (aK 4 a d e) λb=>aw 4 b d λf=>fe R b [f,(bv U)]
def a3b a b c t5 R(d:aG):=ab 0 a b λe=>bf e (iv 5) λS=>ah S (ab 1 a b λT=>aB 0 a c λW=>sV (aK 1 a W T) (a29 c t5 R)) (bf e (iv 1) λX=>ah X (ab 4 a b λZ=>d [Z,(bv U),(.l [] U U)] a) (bf e (iv 2) λaa=>ah aa (ab 1 a c λac=>ab 2 a b λad=>ao 1 a ac ad λae=>aM a ae λaf=>ab 2 a c λag=>ab 2 a b λak=>ao 1 a ag ak λal=>aM a al λam=>d [af,(bv U),am] a) (bf e (iv 3) λan=>ah an (ab 4 a b λap=>fV aSh a [ap] λaq=>ab 1 a c λh=>ab 2 a b λi=>ao 1 a h i λj=>aM a j λk=>fV aUb a [aq,k] λf=>rV (eO 0 f) λm=>rV (eO 1 f) λn=>ab 2 a c λo=>ab 2 a b λp=>ao 1 a o p λq=>aM a q λr=>d [m,n,r] a) (ab 4 a b λs=>fV aSh a [s] λt=>ab 1 a c λu=>ab 2 a b λv=>ao 1 a u v λw=>aM a w λx=>ab 1 a c λy=>ab 3 a b λz=>ao 1 a y z λA=>aM a A λB=>fV aUa a [t,x,B] λg=>rV (eO 0 g) λC=>rV (eO 1 g) λD=>ab 2 a c λE=>ab 2 a b λF=>ao 1 a E F λG=>aM a G λH=>ab 2 a c λK=>ab 3 a b λM=>ao 1 a K M λN=>aM a N λO=>fV FE a [H,O] λP=>d [C,D,P] a))))
def aRs i d e R f(y:aG)(j:bu) c a:=∀_:Rg,aJ a i λk=>aU (gt c 0) k λl=>ah l (ao 1 a i (gt c 0) λm=>aM a m λn=>aU n (iv 0) λb=>ic b i λo=>ic b (gt c 0) λp=>aC b (ao 1 a o p) λq=>aC b (aM a q) λr=>bn b 1 a d λs=>aC b (aJ a s) λt=>aC b (aO .geq r t) λu=>aD b (bv U) u λv=>ah v (rV (bM aoD alz []) λw=>sV (aK 4 a e w) λg=>aw 4 g e λx=>fe R g [x,(bv I)]) (aV (gt c 0) (iv 1) λh=>y [h] a/\j [h] a<j c a)) (jV 12 (aVg d f e R) (a3b a f d e R))
def a3a a c R d b:=aw 6 b a λe=>fV aRj b [e] λf=>lV [(iv 0)] b (aRs f c d R a)
def aVf a b c R:=eV (bs 196 aoD c 4) (a3a a b R)
def bf1{a b:AV}{s0:ae}{R:be}(h:eV (qm 209 6 s0 2 a) λc e=>eV (qm 196 4 e 3 b) λd f=>aVf c d f R):EB 201 [a,b] s0 R:=zB a9J aPL Tryz.func201 h
def bhf{e:List AV}{f:List AV}{s0:ae}{R:be}(j:L s0=4096)(l0:L e=6)(l1:L f=4)(h:∀(b:ae) (c d:Nat),Kp s0 b->(∀k,k≠2->k≠3->aZ b k=aZ s0 k)->(∀x,box s0 (2,c)≠V x)->(∀x,box s0 (3,d)≠V x)->box b (2,c)=V ⟨209,6,U,U,[e]⟩->box b (3,d)=V ⟨196,4,U,U,[f]⟩->aVf (.p (2,c) 0 0) (.p (3,d) 0 0) b R):EB 201 [.a e, .a f] s0 R:=by refine bf1 ?_;refine iN rfl l0 (by decide) (by decide) j λt c i g0 r m=>?_;refine iN rfl l1 (by decide) (by decide) (i.len.trans j) λb d l g1 s n=>?_;exact h b c d (Kp.trans i l) (λk o q=>(g1 k q).trans (g0 k o)) (λx g=>r x ((Kp.refl _).keep _ _ g)) (λx g=>s x (i.keep _ _ g)) (l.keep _ _ m) n
end
def bfq{Y:ae}{b:Id}{i j z:Nat}{e s:TypeId}{z2:Nat}{a:AV}{r:List AV}{aa d:List (List AV)}{K:ae->Prop}(h:box Y b=V ⟨e,z,U,I,aa⟩)(x:aa[i]?=V r)(v:j<L r)(g:gm Y s z2 a d)(n:b∉aA a)(u:∀Y',Fx Y Y' (aA a++[b])->box Y' b=V ⟨e,z,U,I,aa.set i (r.set j (.l d I I))⟩->K Y'):sV (aK 1 Y (.p b i j) a) K:=by have w:nrm (eR Y a)= .l d I I:=(by rcases g with⟨rfl,rfl⟩|⟨q,m,rfl,o⟩;rfl;simp[eR,gi,o,nrm,gK]);have k:eB a=aA a:=(by rcases g with⟨rfl,rfl⟩|⟨q,m,rfl,o⟩<;>rfl);have f:=aOp (aA a) Y;have c:=f.keep b _ n h;have t:aK 1 Y (.p b i j) a=V (wr (kills Y (aA a)) b ⟨e,z,U,I,aa.set i (r.set j (.l d I I))⟩):=(by simp only[aK,aBG,h,eE,aNV,k,w,pW,c,eY,x,bZ,vw];rw[bX ⟨trivial,by omega,λ_=>rfl⟩];rw[GP (l:=r),bX v];simp);rw[t];exact u _ (f.trans (wc c)) (lO c)
structure TSt(Y:ae)(P:List Int->Prop)(n:Nat)(a1 a2:AV)(li:List Int)(lj:List (List Int)):Prop where
 g1:gm Y 2 1 a1 (li.map ci)
 g2:gm Y 38 1 a2 (lj.map cl)
 n1:L li=n
 n2:L lj=n
 hP:∀t∈lj,P t
 p1:∀q∈aA a1,q.1=12
 p2:∀q∈aA a2,q.1=31
def aSq(Y:ae)(P:List Int->Prop)(n:Nat)(b c:AV)(ev:Int)(r:AV)(d:ae):Prop:=Fx Y d (aA b++aA c)/\(r= .t [.a aoD,bv I]\/∃(f:Int) (e:Bool) (li:List Int) (lj:List (List Int)),r= .t [.a [iv f,b,c,iv ev],bv e]/\TSt d P n b c li lj)
theorem TSt.fx{Y Y':ae}{P:List Int->Prop}{n:Nat}{c d:AV}{li:List Int}{lj:List (List Int)}(S:TSt Y P n c d li lj){b:List Id}(F:Fx Y Y' b)(f:∀q∈b,q.1≠12/\q.1≠31):TSt Y' P n c d li lj:=⟨S.g1.fx F λq a e=>(f q e).1 (S.p1 q a),S.g2.fx F λq a e=>(f q e).2 (S.p2 q a),S.n1,S.n2,S.hP,S.p1,S.p2⟩
def bdr{Y:ae}{P:List Int->Prop}{n:Nat}{i:lF}{pc ev:Int}{B D:AV}{li:List Int}{lj:List (List Int)}(hl:L Y=4096)(S:TSt Y P n B D li lj)(b5:1<=i.op/\i.op<=5)(hn:n<=1000)(bm:P [])(bn:∀a b,P a->P b->P (mP a b))(ap:∀a,P a->L a<=1000):∃r A,aSq Y P n B D ev r A/\cZ aS GG 201 [.a i.c, .a [iv pc,B,D,iv ev]] Y r A:=by refine bhf hl rfl rfl λs4 v2 v3 K4 cb nf2 aR c2 c3=>?_;have F4:Fx Y s4 []:=K4.fx [];have aM:=F4.len.trans hl;simp only[aVf];refine so aM λv5 s5 F5 N5 c5=>?_;have d2:=F5.kq c2;have R:=F5.kq c3;simp only[a3a,u0,u1,d2,gw,jM,kU,jt,Fa,aPg,↓uL];rintro r ⟨t',o',rfl⟩;refine⟨by simp[lo,nA,eB,iR,lF.c],?_⟩;refine yV (L (A1 i)) (λk _ Y'=>Y'=s5/\∀j,j<k->aF n (gd (A1 i) j)) ⟨rfl,by simp⟩ ?_;rintro k _ A hk ⟨rfl,hc⟩;have o:=(S.fx F4 (by simp)).fx F5 (by simp);have k1:∀{x:List AV} {y:AV},aN J (y::x)=V y:=λ{x y}=>(by cases y<;>rfl);have W:Fx Y A []:=F4.trans F5;have hz:bM aoD alz []=V (.a aoD):=rfl;have aO:∀{Y':ae},gm Y' 2 1 B (li.map ci)->fS Y' B=V (iv n):=λg=>(by rw[g.ln,bJ,S.n1]);have ao:∀T:Bool,sV (aK 4 A (.p (4,v5) 0 0) (.a aoD)) λs=>rV (kb (V 4) s (.p (4,v5) 0 0)) λt=>fe (aSq Y P n B D ev) s [t,bv I]:=λT=>(by refine qr c5 rfl rfl λs6 F6 b6=>?_;rw[aEa b6 rfl];exact⟨(W.trans F6).mono (λq d=>by simp at d;subst d;exact .inr (N5.old F4).no), .inl rfl⟩);have br:∀x:Int,(Q (x<0)||Q (x>=(n:Int)))=I->aF n x:=λx G=>(by simp only[cP,nl] at G;exact⟨by omega,by omega⟩);rcases Decidable.em (k<L (A1 i)) with w|w;have hd:Q ((k:Int)<(L (A1 i):Int))=U:=(by simp;exact w);rcases h1:Q (gd (A1 i) k<0) with _|_;rcases h2:Q (gd (A1 i) k>=(n:Int)) with _|_;simp only[aRs,au,aI,gT,tf,rk,gw,bh,hd,h1,h2,u0,u1,R,k1,aj,aO o.g1,↓jA,Aa,↓iC,↓iB,↓uL];refine⟨dJ w,dJ w,dR (mk:=λ(_:Unit) i=>[iv i]) (s:=()) (s':=()) (λ_ _=>rfl) w (by have:=a64 i;omega) ⟨rfl,jf hc (br _ ?_)⟩⟩;rw[h1,h2];rfl;simp only[aRs,au,aI,gT,tf,rk,gw,bh,hd,h1,h2,u0,u1,R,k1,aj,aO o.g1,↓jA,Aa,↓iC,hz,↓uL];exact⟨dJ w,dJ w,ao I⟩;simp only[aRs,au,aI,gT,tf,rk,gw,bh,hd,h1,u0,u1,R,k1,aj,↓jN,ya,↓iC,hz,↓uL];exact⟨dJ w,ao I⟩;(focus have hd:Q ((k:Int)<(L (A1 i):Int))=I:=(by simp;omega);simp only[aRs,au,aI,gT,hd,↓iB,di,u0,u1,↓uL];have bt:k=L (A1 i):=(by omega);subst bt;have f:∀r∈A1 i,aF n r:=λr hr=>(by obtain⟨j,hj,rfl⟩:=ou hr;rw[<-bT hj];exact hc j hj);have ho:i.op=1\/i.op=2\/i.op=3\/i.op=4\/i.op=5:=(by omega);have E:∀(v:Int) (T:Bool) (tx:AV) (t:List Int),(∃t' o',tx= .l (t.map ci) t' o')->P t->aF n i.a->aVg (.p (3,v3) 0 0) (.p (2,v2) 0 0) (.p (4,v5) 0 0) (aSq Y P n B D ev) [iv v,bv T,tx] A:=(by rintro v T tx t ⟨t',o',rfl⟩ F aL;obtain⟨m,H⟩:∃m:Nat,i.a=m:=⟨i.a.toNat,by have:=aL.1;omega⟩;have aP:m<n:=(by have:=aL.2;omega);have M:m<L li:=(by rw[o.n1];exact aP);have N:m<L lj:=(by rw[o.n2];exact aP);have ca:=ap _ F;simp only[aVg,aI,au,u0,u1,d2,R,gw,k1,aj,nS,H,↓uL];refine apV (aa:=[]) (e:=3) (z:=1) (new:=t.map ci) (.inl ⟨rfl,rfl⟩) rfl rfl (by decide) (by rw[F5.len,aM];decide) (by simp) fF (by simp;omega) λa7 s7 g7 F7 P7=>?_;simp only[dW] at g7;have X:Fx A s7 []:=F7.mono (by simp[aA]);have Z:∀q∈aA a7,bK A q/\q.1=125:=λq d=>(P7 q d).elim (λh=>by simp[aA] at h) id;have C:=o.fx X (by simp);have bf:=X.kq R;have bi:=X.kq c5;simp only[a28,au,↓uL];refine ixG C.g1 (dJ (by simpa using M)) λb1 m1 aq bo=>?_;rw[bh];have aT:b1.1=12:=C.p1 b1 (by rw[aq];simp[aA]);refine aQz (x:=iv v) (r:=[iv (gd li m)]) bo (by rw[xe (by simpa using M),ve,eC M,bT M];rfl) (by simp) rfl rfl rfl λs8 F8 b8=>?_;have a3:(li.map ci++m1).set m ([iv (gd li m)].set 0 (nrm (eR s7 (iv v))))=(li.set m v).map ci++m1:=(by rw[List.set_append_left _ _ (by simpa using M),vB];rfl);rw[a3] at b8;have e1:gm s8 2 1 B ((li.set m v).map ci):= .inr ⟨b1,m1,by rw[aq];simp,b8⟩;have e2:=C.g2.fx F8 (λq d e=>by have:=C.p2 q d;simp at e;subst e;omega);have e7:=g7.fx F8 (λq d e=>by have:=(Z q d).2;simp at e;subst e;omega);have n1:∀{q:Id},q.1≠12->q∉[b1]:=λh e=>(by simp at e;subst e;exact h aT);have bg:=F8.keep _ _ (n1 (by simp)) bf;have bj:=F8.keep _ _ (n1 (by simp)) bi;simp only[a27,↓uL];refine ixG e2 (dJ (by simpa using N)) λb2 m2 ar bp=>?_;rw[bh];have bx:b2.1=31:=C.p2 b2 (by rw[ar];simp[aA]);refine bfq (r:=[sl ci (gd lj m)]) bp (by rw[xe (by simpa using N),ve,eC N,bT N];rfl) (by simp) e7 (λd=>by have:=(Z _ d).2;omega) λs9 F9 b9=>?_;have aD:(lj.map cl++m2).set m ([sl ci (gd lj m)].set 0 (.l (t.map ci) I I))=(lj.set m t).map cl++m2:=(by rw[List.set_append_left _ _ (by simpa using N),vB];rfl);rw[aD] at b9;have n2:∀{q:Id},q.1≠125->q.1≠31->q∉aA a7++[b2]:=λh h' e=>(by rcases dF.1 e with e|e;exact h (Z _ e).2;simp at e;subst e;exact h' bx);have S9:TSt s9 P n B D (li.set m v) (lj.set m t):=⟨e1.fx F9 (λq d=>n2 (by rw[C.p1 q d];decide) (by rw[C.p1 q d];decide)), .inr ⟨b2,m2,by rw[ar];simp,b9⟩,by simp[o.n1],by simp[o.n2],λx G=>(List.mem_or_eq_of_mem_set G).elim (o.hP x) (λe=>by subst e;exact F),C.p1,C.p2⟩;have aJ:=F9.keep _ _ (n2 (by simp) (by simp)) bg;have bk:=F9.keep _ _ (n2 (by simp) (by simp)) bj;simp only[a26,↓uL];refine dT ?_ ?_;simp only[au,nr];simp[eL,lb,cD,dC,dK,aT];simp only[u0,u1,aJ,k1,ip,aj];refine A0 aJ rfl (by simp) λbz ak ba=>?_;have O:∃aw,box bz (3,v3)=V ⟨196,4,U,U,[[iv aw,B,D,iv ev]]⟩:=⟨_,ba⟩;obtain⟨aw,O⟩:=O;simp only[a25,aEa O rfl,aY,ck,↓uL];refine qr (ak.kq bk) rfl rfl λcc aG bb=>?_;rw[aEa bb rfl];refine⟨((((((W.trans X).trans F8).trans F9).trans ak).trans aG)).mono λq d=>?_, .inr ⟨aw,T,_,_,rfl,(S9.fx ak (by simp)).fx aG (by simp)⟩⟩;simp only[dW,cL,dF,cE] at d;rcases d with((d|d|d)|d)|d;subst d;exact .inl (by rw[aq];simp[aA]);exact .inr ((Z q d).1.old W).no;subst d;exact .inl (by rw[ar];simp[aA]);subst d;exact .inr aR;subst d;exact .inr (N5.old F4).no);have ab:∀{x:Int} {K:AV->d7},aF n x->(∀p y,K p (iv y))->rV (cz 1 A B (iv x)) λp=>rV (kb J A p) (K p):=λ{x K} G hK=>(by obtain⟨m,rfl⟩:∃m:Nat,x=m:=⟨x.toNat,by have:=G.1;omega⟩;have H:m<L li:=(by have:=G.2;have:=o.n1;omega);exact(O1.of o.g1).ix1 (i:=m) (c:=iv (gd li m)) (by rw[ve,eC H,bT H];rfl) λp _=>hK p _);have ac:∀{x:Int} {K:AV->d7},aF n x->(∀p t,P t->K p (sl ci t))->rV (cz 1 A D (iv x)) λp=>rV (kb J A p) (K p):=λ{x K} G hK=>(by obtain⟨m,rfl⟩:∃m:Nat,x=m:=⟨x.toNat,by have:=G.1;omega⟩;have H:m<L lj:=(by have:=G.2;have:=o.n2;omega);exact(O1.of o.g2).ix1 (i:=m) (c:=sl ci (gd lj m)) (by rw[ve,eC H,bT H];rfl) λp _=>hK p _ (o.hP _ (dB H)));rcases ho with h|h|h|h|h;(all_goals simp only[a3b,h,aNK,aB9,Int.reduceEq,u0,u1,d2,R,gw,k1,aj,↓iC,↓iB,jM,kU,jt,tW,aPg,rr,lS,↓uL]);exact E _ _ _ [] ⟨_,_,rfl⟩ bm (f _ (by simp[A1,h]));refine ab (f _ (by simp[A1,h])) λp y=>ac (f _ (by simp[A1,h])) λp t F=>E _ _ _ t ⟨_,_,rfl⟩ F (f _ (by simp[A1,h]));intro x;refine ab (f _ (by simp[A1,h])) λp y=>?_;simp only[tW,aPg];rintro r ⟨u,T,rfl⟩;refine⟨by simp[lo,nA,eB,iR],?_⟩;simp only[oJ,pG,u0];exact ac (f _ (by simp[A1,h])) λp t F=>E _ _ _ t ⟨_,_,rfl⟩ F (f _ (by simp[A1,h]));intro x;refine ab (f _ (by simp[A1,h])) λp y=>ab (f _ (by simp[A1,h])) λp y'=>?_;simp only[tW,aPg];rintro r ⟨u,T,rfl⟩;refine⟨by simp[lo,nA,eB,iR],?_⟩;simp only[oJ,pG,u0];refine ac (f _ (by simp[A1,h])) λp t F=>ac (f _ (by simp[A1,h])) λp t2 aQ=>?_;simp only[alg,aPg];refine⟨by have:=ap _ F;have:=ap _ aQ;omega,?_⟩;rintro r ⟨t',o',rfl⟩;exact⟨by simp[lo,nA,eB,iR,sl],E _ _ _ (mP t t2) ⟨_,_,rfl⟩ (bn _ _ F aQ) (f _ (by simp[A1,h]))⟩;refine A0 R rfl (by simp) λs6 F6 b6=>?_;have bc:box s6 (3,v3)=V ⟨196,4,U,U,[[iv i.a,B,D,iv ev]]⟩:=b6;simp only[a29,aEa bc rfl,aY,↓uL];refine qr (F6.kq c5) rfl rfl λs7 F7 b7=>?_;rw[aEa b7 rfl];refine⟨((W.trans F6).trans F7).mono λq d=>?_, .inr ⟨i.a,U,li,lj,rfl,(o.fx F6 (by simp)).fx F7 (by simp)⟩⟩;simp only[dW,dF,cE] at d;rcases d with rfl|rfl;exact .inr (aR);exact .inr (N5.old F4).no)
def a7E:dO:=aR3
def a7m:eJ a7E:=aPL
def aTd:=@aPg
section
attribute[local irreducible] aX
def a9H:=bi 26 [(7,([6],[2,3,4]))]
def a23 c(e:aG)(d:bu) f a:=aV (gt c 0) (iv 1) λb=>e [b] a/\d [b] a<d c f
def aSw n m R b l h i j k a:=cf n λd=>ah d (rV (bM aoD alz []) λe=>sV (aK 4 a m e) λc=>aw 4 c m λf=>fe R c [f,(bv I)]) (aw 4 a b λg=>sV (aK 4 a l g) (a23 h i j k))
def aVd l R i d e f g b h:=rV (eO 0 b) λj=>rV (eO 1 b) λk=>eV (bs 196 aoD h 8) λa c=>sV (aK 4 c a j) (aSw k l R a i d e f g)
def aSx b c d R i e h j k a:=ab 0 a b λl=>fV aSf a [l] λm=>cf m λn=>ah n (aw 4 a c λo=>sV (aK 4 a d o) λf=>aw 4 f d λp=>fe R f [p,(bv U)]) (ab 1 a i λq=>aJ a q λr=>bf (gt e 0) r λs=>ah s (rV (bM aoD alz []) λt=>sV (aK 4 a d t) λg=>aw 4 g d λu=>fe R g [u,(bv I)]) (aw 6 a b λv=>aw 4 a c λw=>cB 201 [v,w] a 66 (aVd d R c e h j k)))
def aRr c d g R l m h a:=∀_:Rg,ab 1 a c λo=>aJ a o λp=>aO .leq (gt h 0) p λq=>ah q (ab 0 a d λr=>aU r (iv 0) λb=>bn b 0 a d λs=>bn b 1 a c λt=>aC b (aJ a t) λu=>aC b (aO .geq s u) λv=>aD b (bv U) v λw=>ah w (rV (bM aoD alz []) λx=>sV (aK 4 a g x) λi=>aw 4 i g λy=>fe R i [y,(bv I)]) (ab 1 a c λz=>ab 0 a d λA=>ao 6 a z A λB=>aw 6 a B λC=>eV (bs 209 Py a 7) λe n=>sV (aK 6 n e C) (aSx e d g R c h l m a))) (rV (bM aoD alz []) λj=>sV (aK 4 a g j) λf=>aw 4 f g λk=>fe R f [k,(bv I)])
def aVe a b f R e c:=sV (aK 4 c a e) λd=>lV [(iv 0)] d (aRr b a f R)
def aSy c d R f a:=ab 1 a c λp=>aJ a p λq=>ab 0 a d λg=>aO .neq q g λb=>bn b 2 a c λh=>aC b (aJ a h) λi=>bn b 0 a d λj=>aC b (aO .neq i j) λk=>aD b (bv U) k λl=>ah l (rV (bM aoD alz []) λm=>sV (aK 4 a f m) λe=>aw 4 e f λn=>fe R e [n,(bv I)]) (aw 4 a c λo=>cB 200 [o] a 26 (aVe c d f R))
def aVc a b c R:=eV (bs 196 aoD c 4) (aSy b a R)
def bf0{a b:AV}{s0:ae}{R:be}(h:eV (qm 192 2 s0 2 a) λc e=>eV (qm 196 4 e 3 b) λd f=>aVc c d f R):EB 170 [a,b] s0 R:=zB a9H a7m Tryz.func170 h
def bhd{e:List AV}{f:List AV}{s0:ae}{R:be}(j:L s0=4096)(l0:L e=2)(l1:L f=4)(h:∀(b:ae) (c d:Nat),Kp s0 b->(∀k,k≠2->k≠3->aZ b k=aZ s0 k)->(∀x,box s0 (2,c)≠V x)->(∀x,box s0 (3,d)≠V x)->box b (2,c)=V ⟨192,2,U,U,[e]⟩->box b (3,d)=V ⟨196,4,U,U,[f]⟩->aVc (.p (2,c) 0 0) (.p (3,d) 0 0) b R):EB 170 [.a e, .a f] s0 R:=by refine bf0 ?_;refine iN rfl l0 (by decide) (by decide) j λt c i g0 r m=>?_;refine iN rfl l1 (by decide) (by decide) (i.len.trans j) λb d l g1 s n=>?_;exact h b c d (Kp.trans i l) (λk o q=>(g1 k q).trans (g0 k o)) (λx g=>r x ((Kp.refl _).keep _ _ g)) (λx g=>s x (i.keep _ _ g)) (l.keep _ _ m) n
end
def aOo(Y:ae):AV->AV| .t vs=> .t (vs.map λx=>nrm (eR Y x))|x=>nrm (eR Y x)
def aNW:AV->List Id| .t vs=>vs.flatMap eB|x=>eB x
def bcr{P:Program}{κ:rm}{w:World}{Y:ae}{β:Id->Nat}{v:Value}{x:AV}(s:cv P κ w Y β)(h:ba κ w Y β v x):ba κ w (kills Y (aNW x)) β v (aOo Y x):=by cases x with|t vs=>(cases h with|t f h=>refine .t (by simpa using f) λi v c g a=>?_;rw[ve] at a;cases d:vs[i]? with|none=>rw[d] at a;cases a|some y=>rw[d] at a;simp only[df,Option.some.injEq] at a;subst a;exact yo (xK s (h i v y g d) λb e=>List.mem_flatMap.2 ⟨y,List.mem_of_getElem? d,e⟩))|_=>exact yo (xK s h λb e=>e)
def cZ.frz{P:Program}{G:nn}{fn:FuncId}{xs:List AV}{Y a:ae}{r:AV}(h:cZ P G fn xs Y r a):cZ P G fn xs Y (aOo a r) (kills a (aNW r)):=by refine⟨h.1,λκ w β c s g f=>(h.2 κ w β c s g f).mono ?_⟩;rintro e k ⟨v,d,rfl,i,b,j⟩;exact⟨v,d,rfl,bcr b i,(D1 _ b).2.1,j.trans (D1 _ b).1⟩
def aQR{P:Program}{G:nn}{fn:FuncId}{xs:List AV}{Y:ae}{R Q:be}(h:∃r a,R r a/\cZ P G fn xs Y r a)(d:∀r a,R r a->Q (aOo a r) (kills a (aNW r))):∃r a,Q r a/\cZ P G fn xs Y r a:=by obtain⟨r,a,b,c⟩:=h;exact⟨_,_,d r a b,c.frz⟩
def a6r{Y:ae}{e:TypeId}{z:Nat}{a:AV}{aa:List (List AV)}(g:gm Y e z a aa):gK (gi Y a)= .l aa I I:=aOb g
def aQX{Y:ae}{e:TypeId}{z:Nat}{a:AV}{aa:List (List AV)}(g:gm Y e z a aa):iR a=aA a:=by rcases g with⟨_,rfl⟩|⟨b,m,rfl,_⟩<;>rfl
section
variable{Y:ae}{P:List Int->Prop}{n:Nat}{d:Nat}{K:be}
def ba0{i:lF}{s ev:Int}{f g:AV}{li:List Int}{lj:List (List Int)}(p:L Y=4096)(S:TSt Y P n f g li lj)(m:1<=i.op/\i.op<=5)(q:n<=1000)(j:P [])(l:∀a b,P a->P b->P (mP a b))(k:∀a,P a->L a<=1000)(o:∀r e,aSq Y P n f g ev r e->K r e):cB 201 [.a i.c, .a [iv s,f,g,iv ev]] Y d K:=by refine jH rfl (bdr p S m q j l k) ?_;intro r e h;exact⟨h.1.len,o r e h⟩
def alD{l ev:Int}{g x2:AV}{li:List Int}{lj:List (List Int)}(u:L Y=4096)(o:O1 Y 1 g (li.map ci))(p:O1 Y 1 x2 (lj.map cl))(v:∀q∈aA g,q.1≠1/\q.1≠3)(x:L li=n)(y:L lj=n)(z:n<=1000)(i:∀t∈lj,P t)(j:∀a,P a->L a<=1000)(s:∀c e b,TSt b P n c e li lj->Fx Y b []->(∀q∈aA c++aA e,bK Y q)->K (.a [iv l,c,e,iv ev]) b):cB 200 [.a [iv l,g,x2,iv ev]] Y d K:=by refine jH rfl (a6M u o p v (by omega) (by omega) λt w=>j t (i t w)) ?_;rintro r b ⟨c,e,rfl,g1,m,F,p1,k⟩;refine⟨F.len,s c e b ⟨g1,m,x,y,i,λq f=>(p1 q f).2,λq f=>(k q f).2⟩ F λq f=>?_⟩;rcases dF.1 f with h|h;exact(p1 q h).1;exact(k q h).1
end
def Tn(l:List Int):Prop:=jC l/\∀x∈l,0<=x/\x<1000
def Tn.len{l:List Int}(h:Tn l):L l<=1000:=by have b:∀i,i<L l->(i:Int)<=gd l i:=(by intro i;induction i with|zero=>intro a;exact(h.2 _ (dB a)).1|succ i e=>intro a;have:=e (by omega);have:=h.1 i a;omega);rcases oD (L l) with c|c;omega;have:=b (L l-1) (by omega);have:=(h.2 _ (dB (l:=l) (k:=L l-1) (by omega))).2;omega
theorem Tn.nil:Tn []:=⟨λi a=>by simp at a,by simp⟩
def Tn.one{x:Int}(h:0<=x/\x<1000):Tn [x]:=⟨λi a=>by simp at a,by simpa using h⟩
theorem Tn.put{l:List Int}{x:Int}(h:Tn l)(a:0<=x/\x<1000):Tn (fk l x):=⟨Nz h.1,λy b=>(an1 b).elim (λe=>by rw[e];exact a) (h.2 y)⟩
def Tn.fold:∀(a:List Int) {l:List Int},Tn l->(∀x∈a,0<=x/\x<1000)->Tn (a.foldl fk l)|[],_,h,_=>h|x::a,_,h,b=>Tn.fold a (h.put (b x (by simp))) λy c=>b y (by simp[c])
def Tn.un(a b:List Int)(c:Tn a)(e:Tn b):Tn (mP a b):=by simp only[mP,jh,gV];exact Tn.fold b (Tn.fold a Tn.nil c.2) e.2
def ts0:pt:=⟨0,[],[],0⟩
def aQG(s s':pt):Prop:=(∀t∈s'.lj,Tn t)/\L s'.li<=1000/\L s'.lj<=1000/\(s'.ac=s.ac\/s'.ac=0)
def bdq{Y:ae}{c:A2}{s:pt}{x1 x2:AV}(hl:L Y=4096)(bc:O1 Y 1 x1 (s.li.map ci))(bd:O1 Y 1 x2 (s.lj.map cl))(hp:∀q∈aA x1,q.1≠1/\q.1≠3)(p1:c.li<=1000)(p2:L c.No<1000000)(p3:L s.li<1000000)(p4:L s.lj<1000000)(p5:∀t∈s.lj,Tn t):
  ∃r Y1,((∃(l:Bool) (s':pt),r= .t [.a s'.c,bv l]/\aQG s s')/\Fx Y Y1 [])/\cZ aS GG 170 [.a c.c, .a [iv s.pc,x1,x2,iv s.ac]] Y r Y1:=by
 generalize hQ:(λ(r:AV) (y:ae)=>(∃(l:Bool) (s':pt),aOo y r= .t [.a s'.c,bv l]/\aQG s s')/\Fx Y (kills y (aNW r)) [])=W
 refine aQR (R:=W) ?_ (λr y h=>by rw[<-hQ] at h;exact h)
 refine bhd hl rfl rfl λs4 v2 v3 K4 bO nf2 aM b1 b2=>?_
 have N:Fx Y s4 []:=K4.fx []
 have aD:=N.len.trans hl
 have H1:=bc.fx N (by simp)
 have H2:=bd.fx N (by simp)
 simp only[aVc]
 refine so aD λM s5 A N5 c5=>?_
 have d1:=A.kq b1
 have d2:=A.kq b2
 have aE:=A.len.trans aD
 have E:∀{x:List AV} {y:AV},aN J (y::x)=V y:=λ{x y}=>by cases y<;>rfl
 have G:∀{a b c d:AV},aN (V 4) [a,b,c,d]=V (.a [a,b,c,d]):=rfl
 have z:Fx Y s5 []:=N.trans A
 have aO:∀{x:ae} {cs:List AV} {s':pt} {l:Bool},cs.map (lz x)=s'.c->aQG s s'->Fx Y x []->(∀q∈cs.flatMap iR,∀y,box Y q≠V y)->fe W x [.a cs,bv l]:=λ{x cs s' l} e h F hn=>by
  show W (.t [.a cs,bv l]) x
  rw[<-hQ]
  have e1:aOo x (.t [.a cs,bv l])= .t [.a s'.c,bv l]:=by
   show AV.t [nrm (eR x (.a cs)),bv l]=_
   have:nrm (eR x (.a cs))= .a (cs.map (lz x)):=by simp only[eR,nrm,List.map_map];rfl
   rw[this,e]
  refine⟨⟨l,s',e1,h⟩,(F.trans (aOp _ _)).mono λq f=> .inr (hn q ?_)⟩
  simpa[aNW,eB,iR] using f
 have n5:∀y,box Y (4,M)≠V y:=(N5.old N).no
 have j:∀{x:ae} (l:Bool),Fx Y x []->box x (4,M)=V ⟨196,4,U,U,[aoD]⟩->sV (aK 4 x (.p (4,M) 0 0) (.a aoD)) λy=>rV (kb (V 4) y (.p (4,M) 0 0)) λt=>fe W y [t,bv I]:=λ{x} l F hb=>by
  refine qr hb rfl rfl λs6 D b6=>?_
  rw[aEa b6 rfl]
  exact aO (s':=ts0) rfl ⟨by simp[ts0],by simp[ts0],by simp[ts0], .inr rfl⟩ ((F.trans D).mono λq f=>by simp at f;subst f;exact .inr n5) (by simp[iR])
 have go:(L s.li:Int)=c.li->(L s.lj:Int)=c.li->cB 200 [.a [iv s.pc,x1,x2,iv s.ac]] s5 26 (aVe (.p (3,v3) 0 0) (.p (2,v2) 0 0) (.p (4,M) 0 0) W):=λq1 q2=>by
  refine alD (P:=Tn) (n:=L s.li) aE (H1.fx A (by simp)) (H2.fx A (by simp)) hp rfl (by omega) (by omega) p5 (λa h=>h.len) λX Z s6 S6 D N6=>?_
  simp only[aVe]
  have a4:=D.kq d1
  have a6:=D.kq d2
  have a0:=D.kq c5
  refine qr a6 rfl rfl λs7 O b7=>?_
  have a5:=O.kq a4
  have a3:=O.kq a0
  have S7:=S6.fx O (by simp)
  have ba:=(O.len.trans D.len).trans aE
  refine yV (L c.No+1) (λk _ x=>∃o li lj,Fx Y x []/\L x=4096/\box x (2,v2)=V ⟨192,2,U,U,[c.c]⟩/\box x (3,v3)=V ⟨196,4,U,U,[[iv o,X,Z,iv s.ac]]⟩/\box x (4,M)=V ⟨196,4,U,U,[aoD]⟩/\TSt x Tn (L s.li) X Z li lj) ⟨_,_,_,((z.trans D).trans O).mono (λq f=>by simp at f;subst f;exact .inr aM),ba,a5,b7,a3,S7⟩ ?_
  rintro k _ x hk ⟨o,li,lj,H,aJ,m1,m2,m3,S⟩
  have kk:∀{y:AV},Q ((k:Int)<=(L c.No:Int))=U->k<L c.No+1:=λh=>by have:=nt h;omega
  rcases hx:Q ((k:Int)<=(L c.No:Int)) with _|_
  ·simp only[aRr,au,aI,u0,u1,m1,m2,gw,E,aj,hx,↓iB,↓uL]
   exact j I H m3
  have bL:k<=L c.No:=by have:=nt hx;omega
  rcases m:Q (o<0) with _|_
  ·rcases v:Q (o>=(L c.No:Int)) with _|_
   ·have a8:aF (L c.No) o:=by
     simp only[nl] at m v
     exact⟨by omega,by omega⟩
    simp only[aRr,au,aI,u0,u1,m1,m2,rk,gw,E,aj,hx,m,v,y9,↓jA,↓iC,↓iB,↓uL]
    refine⟨a8,anu aJ λv7 s8 B N8 b8=>?_⟩
    have n1:=B.kq m1
    have n2:=B.kq m2
    have n3:=B.kq m3
    have S8:=S.fx B (by simp)
    have aG:=B.len.trans aJ
    generalize hI:gd c.No o.toNat=i at b8⊢
    have ri:aN (V 6) i.c=V (.a i.c):=rfl
    rcases hs:(Q (1<=i.op)&&Q (i.op<=5)) with _|_
    ·simp only[aSx,u0,u1,n2,b8,gw,G,aj,ar,aTd,rr,hs,↓iC,↓uL]
     refine qr n3 rfl rfl λs9 C b9=>?_
     simp only[b9,qd,qh,df,G,aY]
     have u:=S8.fx C (by simp)
     exact aO (s':=⟨o,li,lj,s.ac⟩) (by simp only[ji,mU,aQ5,aOb u.g1,aOb u.g2];rfl) ⟨u.hP,by have:=u.n1;simp only;omega,by have:=u.n2;simp only;omega, .inl rfl⟩ (((H.trans B).trans C).mono λq f=>by simp at f;subst f;exact .inr n5) (λq f=>by
      have e9:([iv o,X,Z,iv s.ac]:List AV).flatMap iR=aA X++aA Z:=by simp only[Cz,RN,aQX u.g1,aQX u.g2];simp[iR]
      rw[e9] at f
      exact((N6 q f).old z).no)
    have bb:1<=i.op/\i.op<=5:=by simpa using hs
    rcases f:Q ((k:Int)=(L c.No:Int)) with _|_
    ·simp only[aSx,u0,u1,n1,n2,b8,gw,G,ri,aj,ar,aTd,rr,hs,f,↓iB,↓uL]
     refine ba0 aG S8 bb (by omega) Tn.nil Tn.un (λa h=>h.len) λr s9 h9=>?_
     obtain⟨C,h9⟩:=h9
     have ah:∀{b:Id},b.1≠12->b.1≠31->b∉aA X++aA Z:=λm v f=>by
      rcases dF.1 f with h|h
      ·exact m (S.p1 _ h)
      ·exact v (S.p2 _ h)
     have o1:=C.keep _ _ (ah (by simp) (by simp)) n1
     have o2:=C.keep _ _ (ah (by simp) (by simp)) n2
     have o3:=C.keep _ _ (ah (by simp) (by simp)) n3
     have aa:=C.len.trans aG
     have T:Fx Y s9 []:=((H.trans B).trans C).mono λq f=> .inr ((N6 q (by simpa using f)).old z).no
     rcases h9 with rfl|⟨bg,l,az,am,rfl,u⟩
     ·simp only[aVd,oJ,pG,aY]
      refine anu aa λbk bi g aT aC=>?_
      have q1:=g.kq o1
      have q2:=g.kq o2
      have q3:=g.kq o3
      simp only[aSw,u0,u1,↓iC,↓uL]
      exact j I (T.trans g) q3
     ·simp only[aVd,oJ,pG,aY]
      refine anu aa λbk bi g aT aC=>?_
      have q1:=g.kq o1
      have q2:=g.kq o2
      have q3:=g.kq o3
      have aV:=u.fx g (by simp)
      cases l with
      |false=>
       simp only[aSw,u0,u1,↓iC,↓uL]
       exact j I (T.trans g) q3
      |true=>
       simp only[aSw,u0,u1,aC,G,↓iB,↓uL]
       refine qr q2 rfl rfl λbQ w aZ=>?_
       simp only[a23,au,u0,u1,↓uL]
       have bM:k≠L c.No:=by have:=aPy f;omega
       exact dR (mk:=λ(_:Unit) i=>[iv i]) (s:=()) (s':=()) (λ_ _=>rfl) (by omega) (by omega) ⟨bg,az,am,((T.trans g).trans w).mono (λq f=>by simp at f;subst f;exact .inr aM),(w.len.trans g.len).trans aa,w.kq q1,aZ,w.kq q3,aV.fx w (by simp)⟩
    ·simp only[aSx,u0,u1,n1,n2,b8,gw,G,aj,ar,aTd,rr,hs,f,↓iB,↓iC,↓uL]
     exact j I (H.trans B) n3
   ·simp only[aRr,au,aI,u0,u1,m1,m2,gw,E,aj,hx,m,v,↓jA,↓iC,wY,↓uL]
    exact j I H m3
  ·simp only[aRr,au,aI,u0,u1,m1,m2,gw,E,aj,hx,m,↓jN,ya,↓iC,↓uL]
   exact j I H m3
 have ad:fS s5 x1=V (iv (L s.li)):=by rw[(H1.fx A (by simp)).ln,bJ]
 have aL:fS s5 x2=V (iv (L s.lj)):=by rw[(H2.fx A (by simp)).ln,bJ]
 rcases m:Q ((L s.li:Int)≠c.li) with _|_
 ·have q1:(L s.li:Int)=c.li:=by simpa using m
  rcases v:Q ((L s.lj:Int)≠c.li) with _|_
  ·have q2:(L s.lj:Int)=c.li:=by simpa using v
   simp only[aSy,u0,u1,d1,d2,gw,E,ad,aL,aj,m,v,↓jA,↓iB,G,↓uL]
   exact go q1 q2
  ·simp only[aSy,u0,u1,d1,d2,gw,E,ad,aL,aj,m,v,↓jA,↓iC,wY,↓uL]
   exact j I z c5
 ·simp only[aSy,u0,u1,d1,d2,gw,E,ad,aj,m,↓jN,ya,↓iC,G,↓uL]
  exact j I z c5
def baY{Y:ae}{c:A2}{s:pt}{f x2:AV}{d:Nat}{K:be}(k:L Y=4096)(g:O1 Y 1 f (s.li.map ci))(i:O1 Y 1 x2 (s.lj.map cl))(l:∀q∈aA f,q.1≠1/\q.1≠3)(p1:c.li<=1000)(m:L c.No<1000000)(o:L s.li<1000000)(p:L s.lj<1000000)(u:∀t∈s.lj,Tn t)(j:∀(e:Bool) (s':pt) b,aQG s s'->Fx Y b []->K (.t [.a s'.c,bv e]) b):cB 170 [.a c.c, .a [iv s.pc,f,x2,iv s.ac]] Y d K:=by refine jH rfl (bdq k g i l p1 m o p u) ?_;rintro r b ⟨⟨e,s',rfl,h⟩,F⟩;exact⟨F.len,j e s' b h F⟩
def aYd:dO:=a7E
def a7n:eJ aYd:=a7m
def bcx:=@aTd
section
attribute[local irreducible] aX
def a5G:=bi 9 [(4,([4],[1,2,3]))]
def a3c a j i l m b n o k p h r q(f:aG)(c:bu) g d:=dH [(bo a),(bo j),(bo i),(bo l),km,(lb U [m,(gt b 0)] []),(bo n),(lb I [] [12,31]),(lb I [o] [32]),(lb I [k,p] [33]),(bo a),(lbV h r q)] [(0,7),(1,7),(0,8),(1,8)] (aV (gt b 0) (iv 1) λe=>f [e] d/\c [e] d<c b g)
def a3d a j i l m e n o k p f g h c b:=aB 6 b a λd=>sV (aK 1 b d c) (a3c a j i l m e n o k p b d c f g h)
def a3e b a l k m n e o f g h c i:=eV (lvS 196 a70 1 i 32 [(0,c)]) λd j=>eV (avA 196 aoD 64 j 33 b d) (a3d a l k m n e o c b d f g h)
def a3k d b t3 R j k c a:=∀_:Rg,ab 6 a d λl=>aJ a l λm=>aU (gt c 0) m λn=>ah n (aB 6 a b λf=>aM a f λo=>aB 6 a d λg=>aM a g λh=>ao 4 a h (gt c 0) λi=>aw 4 a i λp=>cV 200 [p] a 31 (a3e o b f d g h c i j k a)) (aw 7 a b λq=>sV (aK 7 a t3 q) λe=>aw 7 e t3 λr=>fe R e [r])
def a3f b m e o f i h j n g k c a l t3 R d:=dH [(bo b),(bo m),(lb I [] [10,14,41]),(lb I [] []),(bo b),(bo e),(lb I [o,f] [11]),(lb I [] []),(bo b),(bo i),(lb I [h,j] [15]),(lb U [n,g,k] []),(lb I [] [3]),(lbV c a l)] [(0,3),(1,3),(2,3),(2,4),(3,4),(2,5),(3,5),(0,7),(1,7),(2,7),(3,7),(4,7),(5,7),(6,7),(2,8),(3,8),(6,8),(7,8),(2,9),(3,9),(6,9),(7,9),(0,12),(1,12),(2,12),(3,12),(4,12),(5,12),(6,12),(7,12),(8,12),(9,12),(10,12),(11,12)] (lV [(iv 0)] d (a3k b a t3 R))
def a3g m c g n h o i k j l t3 R d f:=rV (bM NY anY [(0,m),(1,c),(2,d)]) λe=>eV (bs 87 NY f 3) λa b=>sV (aK 7 b a e) (a3f g n h o i k j l m c d b a e t3 R)
def a3h b j h i f k g t3 R c a:=aB 5 a b λd=>aM a d λe=>eV (j5 2 EN 8 a 15 c e) (a3g j h b i f k g d c e t3 R)
def a3i b i h t3 R g a:=aB 4 a b λc=>aM a c λd=>eV (j5 2 EN 8 a 11 g d) λf e=>eV (aX yW 0 e []) (a3h b i f h c g d t3 R)
def a3j a R t3 b:=aB 0 b a λc=>aw 4 b c λe=>cV 161 [e] b 7 λf d=>eV (aX yW 0 d []) (a3i a f c t3 R)
def aSz a b R:=eV (bs 87 NY b 2) (a3j a R)
def bf2{b:AV}{s0:ae}{R:be}(h:eV (qm 87 7 s0 1 b) λa c=>aSz a c R):EB 169 [b] s0 R:=aTc (aBe ready (aQ9 a7n) Tryz.func169 (an:=a5G) (by kernel_rfl) (Eq.mpr (show ZB aS GGV aYd a5G Tryz.f169 [b] s0 R=(eV (qm 87 7 s0 1 b) λa c=>aSz a c R) by kernel_rfl) h))
def bhg{d:List AV}{s0:ae}{R:be}(g:L s0=4096)(l0:L d=7)(h:∀(b:ae) (c:Nat),Kp s0 b->(∀k,k≠1->aZ b k=aZ s0 k)->(∀x,box s0 (1,c)≠V x)->box b (1,c)=V ⟨87,7,U,U,[d]⟩->aSz (.p (1,c) 0 0) b R):EB 169 [.a d] s0 R:=by refine bf2 ?_;refine iN rfl l0 (by decide) (by decide) g λb c j g0 l e=>?_;exact h b c j (λk f=>g0 k f) (λx i=>l x ((Kp.refl _).keep _ _ i)) e
end
end Go.Ab
