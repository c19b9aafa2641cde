/- Part of the proof of EncodeNames, made short by a program. -/
import Derived.Test.YtmilgmjhdfijjaaGreatDoorD
set_option linter.all false
set_option maxRecDepth 100000
open And renaming intro->ai
open Bool renaming and_eq_false_iff->pk,and_eq_true->bN,false->I,false_eq_true->eE,not_eq_false'->fK,not_eq_true'->eH,or_eq_false_iff->cP,or_eq_true->fH,true->U,true_eq_false->sr
open Decidable renaming decide->Q,not_not->aNS
open Go.IntKind renaming i64->dq
open Go.Proofs.Tryz renaming prog->aS
open Int renaming toNat_natCast->bh,toNat_zero->Gx
open List renaming all_cons->Cs,all_nil->aqG,append_nil->cL,flatMap_cons->Cz,flatMap_nil->RN,foldl_nil->aRl,getElem?_append_left->xe,getElem?_cons_zero->qh,getElem?_eq_getElem->eC,getElem?_map->ve,getElem_of_mem->ou,length->L,length_append->P8,length_cons->bZ,length_map->bJ,length_nil->vw,length_pos_iff->aqS,map_append->dg,map_cons->ji,map_nil->mU,mem_append->dF,mem_append_right->zt,mem_cons->eW,mem_cons_of_mem->zu,mem_singleton->cE,nil_append->dW,not_mem_nil->ql,take_zero->CE
open Nat renaming eq_zero_or_pos->oD,lt_of_lt_of_le->C3,mul_le_mul_right->qo,succ_mul->tN,zero_add->aj
open Option renaming bind_some->qd,map_some->df,none->J,some->V
open Prod renaming mk.injEq->iK
namespace Go.Ab
open Go Go.RowKit Go.Proofs
section
attribute[local irreducible] aX
def a9j:=bi 8 []
def a1p a b s0 R:=bf a (iv 4) λt1=>ah t1 (rV (cR .neg b) λc=>aE R s0 [c,(bv U)]) (bf a (iv 5) λt3=>ah t3 (bf b (iv 0) λt4=>fV aOT s0 [t4] λd=>aE R s0 [d,(bv U)]) (aE R s0 [(iv 0),(bv I)]))
def bgR{a:AV}{b:AV}{R:d7}(h:H0 λs0=>a1p a b s0 R):Ct 227 [a,b] R:=z0 a9j aOh Tryz.func227 h
def a9h:=bi 36 []
def aU1 b c a s0 R:=bf b (iv 6) λt1=>ah t1 (aV c a λN=>aE R s0 [N,(bv U)]) (bf b (iv 7) λt3=>ah t3 (aO .sub c a λt4=>aE R s0 [t4,(bv U)]) (bf b (iv 8) λO=>ah O (aO .mul c a λP=>aE R s0 [P,(bv U)]) (bf b (iv 9) λS=>ah S (bf a (iv 0) λT=>ah T (aE R s0 [(iv 0),(bv U)]) (aO .quo c a λW=>aE R s0 [W,(bv U)])) (bf b (iv 10) λf=>ah f (bf a (iv 0) λg=>ah g (aE R s0 [(iv 0),(bv U)]) (aO .rem c a λh=>aE R s0 [h,(bv U)])) (bf b (iv 11) λi=>ah i (bf c a λj=>fV aOT s0 [j] λk=>aE R s0 [k,(bv U)]) (bf b (iv 12) λl=>ah l (aO .neq c a λm=>fV aOT s0 [m] λn=>aE R s0 [n,(bv U)]) (bf b (iv 13) λo=>ah o (aU c a λp=>fV aOT s0 [p] λq=>aE R s0 [q,(bv U)]) (bf b (iv 14) λr=>ah r (aO .leq c a λs=>fV aOT s0 [s] λt=>aE R s0 [t,(bv U)]) (bf b (iv 15) λu=>ah u (aO .gtr c a λv=>fV aOT s0 [v] λw=>aE R s0 [w,(bv U)]) (bf b (iv 16) λx=>ah x (aO .geq c a λy=>fV aOT s0 [y] λz=>aE R s0 [z,(bv U)]) (bf b (iv 17) λA=>ah A (aO .neq c (iv 0) λd=>fm d a λB=>az d (aO .neq B (iv 0)) λC=>aD d C (bv I) λD=>fV aOT s0 [D] λE=>aE R s0 [E,(bv U)]) (bf b (iv 18) λF=>ah F (aO .neq c (iv 0) λe=>ic e a λG=>aC e (aO .neq G (iv 0)) λH=>aD e (bv U) H λK=>fV aOT s0 [K] λM=>aE R s0 [M,(bv U)]) (aE R s0 [(iv 0),(bv I)])))))))))))))
def bgP{a:AV}{b:AV}{c:AV}{R:d7}(h:H0 λs0=>aU1 a b c s0 R):Ct 229 [a,b,c] R:=z0 a9h aOh Tryz.func229 h
def a9r:=bi 2 []
def a14 d f x a R:=ab 0 a d λt4=>aJ a t4 λy=>fV aN3 a [f,y] λe=>aT e 0 a d λg=>fm e f λh=>az e (ao 5 a g h) λi=>aT e 1 a i λj=>az e (bf j (iv 0)) λk=>aD e k (bv I) λc=>aT c 0 a d λl=>fm c f λm=>az c (ao 5 a l m) λn=>aT c 2 a n λo=>az c (aO .neq o (iv 0)) λp=>aD c p (bv I) λb=>aT b 0 a d λq=>fm b f λr=>az b (ao 5 a q r) λs=>aT b 2 a s λt=>fm b x λu=>az b (bf t u) λv=>aD b v (bv I) λw=>aE R a [w]
def bgZ{b:List AV}{c:AV}{d:AV}{R:d7}(l0:L b=6)(h:H1 31 6 3 b λe f=>a14 e c d f R):Ct 195 [.a b,c,d] R:=z1 a9r aOh Tryz.func195 l0 h
def a9B:=bi 15 [(3,([1,5],[0])),(6,([1],[0,5]))]
def a2A a(d:cG)(m1:fD) b:=∀_:Rg,aV (gt a 1) (iv 1) λc=>d [(gt b 0),c]/\m1 [(gt b 0),c]<m1 a
def a2B a c s0 R(d:cG):=aU (gt a 0) (iv 0) λb=>ic b (gt a 0) λs=>ic b c λe=>aC b (aJ s0 e) λf=>aC b (aO .geq s f) λg=>aD b (bv U) g λh=>ah h (aE R s0 [(bv I)]) (ao 6 s0 c (gt a 0) λi=>ab 0 s0 i λj=>fV aSf s0 [j] λk=>cf k λl=>ah l (aE R s0 [(bv U)]) (ao 6 s0 c (gt a 0) λm=>ab 0 s0 m λn=>bf n (iv 5) λo=>ah o (ao 6 s0 c (gt a 0) λp=>ab 1 s0 p λq=>d [q]) (aV (gt a 0) (iv 1) λr=>d [r])))
def a2C s0 b R c m1 a:=∀_:Rg,aJ s0 b λd=>aO .leq (gt a 1) d λt3=>ah t3 (jR 6 (a2A a c m1) (a2B a b s0 R)) (aE R s0 [(bv I)])
def a2z a b s0 R:=lR [b,(iv 0)] (a2C s0 a R)
def bg8{a:AV}{b:AV}{R:d7}(h:H0 λs0=>a2z a b s0 R):Ct 166 [a,b] R:=z0 a9B aOh Tryz.func166 h
def a9P:=bi 18 [(3,([7],[2,3,6])),(10,([40],[2]))]
def a4i R a c b:=∀_:Rg,ah (gt b 0) (aE R a [(iv (-1))]) (ab 1 a c λd=>aE R a [d])
def a4k b(a:cG):=bf b (iv 10) λc=>ah c (a [c]) (bf b (iv 17) λd=>ah d (a [d]) (bf b (iv 18) λe=>ah e (a [e]) (bf b (iv 19) λf=>ah f (a [f]) (bf b (iv 20) λg=>ah g (a [g]) (bf b (iv 28) λh=>a [h])))))
def a4j a b R d c w:=∀_:Rg,ah (gt w 0) (ab 2 a b λx=>aE R a [x]) (bf d (iv 7) λe=>ah e (ab 2 a b λf=>ab 1 a c λg=>ab 3 a b λh=>ao 1 a g h λi=>aM a i λj=>ab 4 a b λk=>fV aSe a [j,k] λl=>aV f l λm=>aE R a [m]) (bf d (iv 9) λn=>ah n (ab 1 a b λo=>ab 1 a c λp=>ab 3 a b λq=>ao 1 a p q λr=>aM a r λs=>ab 4 a b λt=>fV aSe a [s,t] λu=>aV o u λv=>aE R a [v]) (jR 10 (a4i R a b) (a4k d))))
def a4l d(b:cG):=bf d (iv 6) λa=>ah a (b [a]) (bf d (iv 27) λc=>b [c])
def a4h a d b R:=ab 0 b a λc=>jR 3 (a4j b a R c d) (a4l c)
def bho{b:List AV}{c:List AV}{R:d7}(l0:L b=6)(l1:L c=4)(h:H2 209 6 2 b 196 4 3 c λd e f=>a4h d e f R):Ct 199 [.a b, .a c] R:=z2 a9P aOh Tryz.func199 l0 l1 h
def a81:=bi 8 []
def a0m a b R:=ab 0 b a λt4=>aU t4 (iv 1) λy=>bn y 0 b a λz=>aC y (aO .gtr z (iv 6)) λA=>aD y (bv U) A λh=>bn h 2 b a λB=>aC h (fV aPd b [B]) λC=>aC h (cf C) λD=>aD h (bv U) D λj=>bn j 3 b a λE=>aC j (aU E (iv 0)) λF=>aD j (bv U) F λd=>bn d 0 b a λG=>aC d (aO .neq G (iv 1)) λH=>ic d H λk=>aT k 3 b a λK=>az k (aO .neq K (iv 0)) λM=>aC d (aD k M (bv I)) λN=>aD d (bv U) N λO=>ah O (aE R b [(bv I)]) (ab 0 b a λP=>bf P (iv 5) λi=>aT i 5 b a λS=>az i (fV aPd b [S]) λT=>az i (cf T) λW=>aD i W (bv I) λe=>bn e 0 b a λX=>aC e (aO .neq X (iv 5)) λZ=>ic e Z λl=>aT l 5 b a λaa=>az l (aO .neq aa (sv [])) λac=>aC e (aD l ac (bv I)) λm=>aD e (bv U) m λn=>ah n (aE R b [(bv I)]) (ab 4 b a λo=>aO .gtr o (iv (-9223372036854775808)) λc=>aT c 4 b a λp=>az c (bf p (iv 0)) λq=>fm c q λf=>bn f 0 b a λr=>aC f (bf r (iv 1)) λs=>az c (aD f (bv U) s) λt=>fm c t λg=>bn g 0 b a λu=>aC g (bf u (iv 2)) λv=>az c (aD g (bv U) v) λw=>aD c w (bv I) λx=>aE R b [x]))
def bgz{b:List AV}{R:d7}(l0:L b=6)(h:H1 257 6 1 b λc d=>a0m c d R):Ct 202 [.a b] R:=z1 a81 aOh Tryz.func202 l0 h
def a85:=bi 26 [(20,([56],[3,7]))]
def a0t a c d R b:=∀_:Rg,ah (gt b 0) (ab 0 a c λe=>ao 6 a e d λf=>ab 0 a f λg=>aE R a [g]) (aE R a [(iv 9)])
def a0u b(a:cG):=bf b (iv 3) λc=>ah c (a [c]) (bf b (iv 4) λd=>ah d (a [d]) (bf b (iv 5) λe=>ah e (a [e]) (bf b (iv 6) λf=>a [f])))
def a0s c f g a R:=aO .geq f (iv 0) λt3=>fm t3 f λF=>aT t3 1 a c λh=>az t3 (aJ a h) λi=>az t3 (aU F i) λj=>aD t3 j (bv I) λb=>aT b 1 a c λk=>fm b f λl=>az b (ao 4 a k l) λm=>aT b 2 a m λn=>fm b g λo=>az b (fV FB a [n,o]) λp=>az b (aO .geq p (iv 0)) λq=>aD b q (bv I) λr=>ah r (aE R a [(iv 8)]) (ab 0 a c λs=>fV aPO a [s,g] λd=>aU d (iv 0) λt=>ah t (ab 1 a c λu=>fV aP9 a [u,g] λv=>aO .geq v (iv 0) λw=>ah w (aE R a [(iv 7)]) (aE R a [(iv 0)])) (ab 0 a c λx=>ao 6 a x d λy=>ab 0 a y λe=>bf e (iv 1) λz=>ah z (ab 0 a c λA=>ao 6 a A d λB=>ab 3 a B λC=>aO .neq C (iv 0) λD=>ah D (aE R a [(iv 2)]) (aE R a [(iv 1)])) (bf e (iv 2) λE=>ah E (aE R a [(iv 1)]) (jR 20 (a0t a c d R) (a0u e)))))
def bgD{b:List AV}{c:AV}{d:AV}{R:d7}(l0:L b=2)(h:H1 143 2 3 b λe f=>a0s e c d f R):Ct 251 [.a b,c,d] R:=z1 a85 aOh Tryz.func251 l0 h
def a89:=bi 33 [(4,([4,5,6,7,8],[0])),(7,([4,5,6,7],[0,8])),(15,([4,5,6,7],[0,8,9])),(17,([39],[0,4,5,6,7,8,9,36])),(19,([47],[0,4,5,6,7,8,9,36]))]
def a0I b(e:aG)(m1:bu) f a c:=∀_:Rg,aV (gt b 4) (iv 1) λd=>e [(gt a 0),(gt a 1),(gt a 2),(gt a 3),d] c/\m1 [(gt a 0),(gt a 1),(gt a 2),(gt a 3),d] c<m1 b f
def a0F b c R i B(h:aG) a:=∀_:Rg,aO .gtr (gt a 0) (iv 12) λd=>ic d (gt a 1) λj=>aC d (aO .gtr j (iv 4)) λk=>aD d (bv U) k λe=>ic e (gt a 2) λl=>aC e (aO .gtr l (iv 2)) λm=>aD e (bv U) m λf=>ic f (gt a 3) λn=>aC f (aO .gtr n (iv 2)) λo=>aD f (bv U) o λp=>ah p (ab 1 b c λq=>aE R b [(iv 2),q]) (ab 0 b c λr=>bf r (iv 5) λs=>ah s (rV (fo 6 b i J (V (gt B 4)) J) λt=>ab 5 b c λu=>fV aPO b [t,u] λg=>aU g (iv 0) λv=>ah v (ab 1 b c λw=>aE R b [(iv 5),w]) (ao 6 b i g λx=>ab 0 b x λy=>aO .neq y (iv 3) λz=>ah z (ab 1 b c λA=>aE R b [(iv 6),A]) (h [(gt a 0),(gt a 1),(gt a 2),(gt a 3)] b))) (h [(gt a 0),(gt a 1),(gt a 2),(gt a 3)] b))
def a0H a(b:cG) d c:=∀_:Rg,ah (gt c 0) (aV (gt a 1) (iv 1) λe=>b [(gt a 0),e,(gt a 2),(gt a 3)]) (bf d (iv 5) λf=>ah f (aV (gt a 2) (iv 1) λg=>b [(gt a 0),(gt a 1),g,(gt a 3)]) (aV (gt a 3) (iv 1) λh=>b [(gt a 0),(gt a 1),(gt a 2),h]))
def a0L b(a:cG):=bf b (iv 3) λc=>ah c (a [c]) (bf b (iv 4) λd=>a [d])
def a0G f d a(b:cG) c e:=∀_:Rg,ah (gt e 0) (ab 3 f d λg=>rV (AO .max g (iv 1)) λh=>aV (gt a 0) h λi=>b [i,(gt a 1),(gt a 2),(gt a 3)]) (jR 19 (a0H a b c) (a0L c))
def a0K b(a:cG):=bf b (iv 1) λc=>ah c (a [c]) (bf b (iv 2) λd=>a [d])
def a0J b a e d:=ab 0 b a λc=>jR 17 (a0G b a e d c) (a0K c)
def aUT d c b R m a:=rV (fo 6 a d J (V (gt c 4)) J) λe=>ab 2 a b λf=>fV aPO a [e,f] λg=>aO .geq g (iv 0) λh=>ah h (ab 1 a b λi=>aE R a [(iv 4),i]) (ab 3 a b λj=>aO .gtr j (iv 4) λk=>ah k (ab 1 a b λl=>aE R a [(iv 2),l]) (jR 15 (a0F a b R d c m) (a0J a b c)))
def a0M c d b R f:=ao 6 c d (gt b 4) λg=>aw 6 c g λh=>eV (bs 257 aPa c 9) λa e=>sV (aK 6 e a h) (aUT d b a R f)
def a0N c R d m1 a b:=∀_:Rg,aJ b c λt3=>aU (gt a 4) t3 λt4=>ah t4 (jV 7 (a0I a d m1 b) (a0M b c a R)) (aE R b [(iv 0),(iv 0)])
def a0E a s0 R:=lV [(iv 0),(iv 0),(iv 0),(iv 0),(iv 0)] s0 (a0N a R)
def bgH{a:AV}{R:d7}(h:H0 λs0=>a0E a s0 R):Ct 172 [a] R:=z0 a89 aOh Tryz.func172 h
def a9d:=bi 29 [(3,([4],[1])),(12,([6],[1])),(21,([8],[1,6,7]))]
def a0U e c d R(s:aG)(g:bu) t a:=ab 0 a e λh=>ab 0 a c λi=>fV aPO a [h,i] λj=>aO .geq j (iv 0) λb=>bn b 1 a e λk=>ic b (gt d 0) λl=>aC b (rV (fo 4 a k J (V l) J)) λm=>bn b 0 a c λn=>aC b (fV aP9 a [m,n]) λo=>aC b (aO .geq o (iv 0)) λp=>aD b (bv U) p λq=>ah q (ab 1 a c λr=>aE R a [(iv 4),r]) (aV (gt d 0) (iv 1) λf=>s [f] a/\g [f] a<g d t)
def a0X a d l R i(u:aG)(j:bu) w(v:cG)(k:fD) c:=∀_:Rg,ab 2 a d λx=>aJ a x λy=>aU (gt c 0) y λz=>ah z (ab 2 a d λA=>ao 1 a A (gt c 0) λB=>aM a B λh=>ab 0 a l λC=>fV aPO a [C,h] λD=>aO .geq D (iv 0) λe=>bn e 1 a l λE=>ic e h λF=>aC e (fV aP9 a [E,F]) λG=>aC e (aO .geq G (iv 0)) λH=>aD e (bv U) H λb=>bn b 2 a d λm=>ic b (gt c 0) λn=>aC b (rV (fo 1 a m J (V n) J)) λo=>ic b h λp=>aC b (fV FB a [o,p]) λq=>aC b (aO .geq q (iv 0)) λr=>aD b (bv U) r λs=>ah s (ab 1 a d λt=>aE R a [(iv 4),t]) (aV (gt c 0) (iv 1) λf=>v [f]/\k [f]<k c)) (aV (gt i 0) (iv 1) λg=>u [g] a/\j [g] a<j i w)
def a0V b R f c d e g a:=ab 2 a b λh=>aJ a h λi=>aO .gtr i (iv 4) λj=>ah j (ab 1 a b λk=>aE R a [(iv 2),k]) (lR [(iv 0)] (a0X a b f R c d e g))
def a0W c R e f b a:=∀_:Rg,ab 1 a c λh=>aJ a h λi=>aU (gt b 0) i λj=>ah j (ab 1 a c λk=>ao 4 a k (gt b 0) λl=>aw 4 a l λm=>eV (bs 203 aPM a 7) λd g=>sV (aK 4 g d m) (a0V d R c b e f a)) (aE R a [(iv 0),(iv 0)])
def a0Y b R i j d a:=∀_:Rg,ab 1 a b λk=>aJ a k λl=>aU (gt d 0) l λm=>ah m (ab 1 a b λf=>ao 4 a f (gt d 0) λg=>aw 4 a g λh=>eV (bs 203 aPM a 5) λc e=>sV (aK 4 e c h) (a0U b c d R i j a)) (lV [(iv 0)] a (a0W b R))
def a0T a b R:=lV [(iv 0)] b (a0Y a R)
def bgL{b:List AV}{R:d7}(l0:L b=2)(h:H1 143 2 1 b λc d=>a0T c d R):Ct 173 [.a b] R:=z1 a9d aOh Tryz.func173 l0 h
def a8H:=bi 9 [(4,([3,4],[0]))]
def a8g e a o p q s f g h i r j k l(m:aG)(m1:bu) n c b:=dH [km,km,km,(lb U [e,(gt a 1)] []),(bo o),(bo p),(lb U [q,(iv 4)] []),km,km,(lb U [e,(gt a 1)] []),(bo s),(bo f),(lb U [g,(iv 4)] []),(lb U [h,(iv 5)] []),(lb U [i,(iv 1)] []),(lb U [r,j] []),(lb I [k] []),(lb I [(gt a 0),l] [28]),km] [(0,16)] (aV (gt a 1) (iv 1) λd=>m [c,d] b/\m1 [c,d] b<m1 a n)
def aYQ c R q m1 a b:=∀_:Rg,aJ b c λt3=>aU (gt a 1) t3 λt4=>ah t4 (ao 1 b c (gt a 1) λl=>aM b l λm=>rV (sO (V .i64) m) λn=>aO .rem n (iv 4) λo=>ao 1 b c (gt a 1) λp=>aM b p λd=>rV (sO (V .i64) d) λe=>aO .quo e (iv 4) λf=>aO .rem f (iv 5) λg=>aO .sub g (iv 1) λh=>rV (bM aYq O7 [(0,o),(1,h)]) λi=>eV (aX a7Y 1 b [(0,i)]) λj k=>eV (j5 146 aYq 16 k 28 (gt a 0) j) (a8g c a l m n p d e f g o h i j q m1 b)) (aE R b [(gt a 0)])
def aYP a s0 R:=lV [(.l [] U U),(iv 0)] s0 (aYQ a R)
def bgd{a:AV}{R:d7}(h:H0 λs0=>aYP a s0 R):Ct 32 [a] R:=z0 a8H aOh Tryz.func32 h
def a8L:=bi 2 []
def aZi a d R t3 b:=aw 4 b a λe=>rV (bM A4 aon [(0,(iv 1)),(2,d),(5,e)]) λf=>sV (aK 11 b t3 f) λc=>aw 11 c t3 λg=>aE R c [g]
def aZh b a c R:=eV (bs 219 A4 c 4) (aZi a b R)
def bgi{c:AV}{b:List AV}{R:d7}(l1:L b=4)(h:H1 217 4 3 b λd e=>aZh c d e R):Ct 125 [c, .a b] R:=z1 a8L aOh Tryz.func125 l1 h
def a8M:=bi 2 []
def aZk f e R g b:=rV (bM aOP alz [(0,f),(3,g)]) λc=>sV (aK 4 b e c) λa=>aw 4 a e λd=>aE R a [d]
def aZl b c d R e a:=aw 4 a b λf=>aw 4 a c λg=>eV (aX aRb 2 a [(0,f),(1,g)]) (aZk d e R)
def aZj c a b d R:=eV (bs 217 aOP d 6) (aZl a b c R)
def bgj{d:AV}{b:List AV}{c:List AV}{R:d7}(l1:L b=4)(g:L c=4)(h:H2 217 4 4 b 217 4 5 c λe f i=>aZj d e f i R):Ct 213 [d, .a b, .a c] R:=z2 a8M aOh Tryz.func213 l1 g h
def a94:=bi 11 [(4,([3,10],[8,9])),(7,([3],[8,9,10]))]
def a5x d(f:aG)(e:bu) g a b:=∀_:Rg,aV (gt d 1) (iv 1) λc=>f [(gt a 0),c] b/\e [(gt a 0),c] b<e d g
def a5w d b(c:aG) a:=ab 0 a d λg=>bf g (iv 3) λh=>ah h (eV (aX bH 1 a [(0,(gt b 1))]) λi e=>eV (j5 3 fB 8 e 21 (gt b 0) i) λj f=>c [j] f) (c [(gt b 0)] a)
def a5y c h b d:=ao 3 c h (gt b 1) λf=>aw 3 c f λg=>eV (bs 105 aNB c 5) λa e=>sV (aK 3 e a g) (a5w a b d)
def a5z f e R c d a b:=∀_:Rg,aU (gt a 1) f λg=>ah g (jV 7 (a5x a c d b) (a5y b e a)) (aE R b [(gt a 0)])
def a5v b a R:=aB 0 a b λt3=>ab 3 a t3 λc=>aJ a c λd=>lV [(.l [] U U),(iv 0)] a (a5z d c R)
def bhE{b:List AV}{R:d7}(l0:L b=7)(h:H1 40 7 1 b λc d=>a5v c d R):Ct 164 [.a b] R:=z1 a94 aOh Tryz.func164 l0 h
end
def ya{a b:AV}:mL (bv U) a b=V a:=rfl
def Aa{a b:AV}:mL (bv I) a b=V b:=rfl
def aXX{P:Int->Prop}{Q:d7}:(∀r,(∃k:Int,r=iv k/\P k)->Q r)=∀k,P k->Q (iv k):=vp ⟨λh k a=>h _ ⟨k,rfl,a⟩,by rintro h r ⟨k,rfl,a⟩;exact h k a⟩
def bd8{a b c d e f g h i j k:AV}:aN (V 11) [a,b,c,d,e,f,g,h,i,j,k]=V (.a [a,b,c,d,e,f,g,h,i,j,k]):=rfl
def rkx{s:bF}:aN (V 3) (bF.c s)=V (.a (bF.c s)):=rfl
def aXb(o a:Int):Ct 227 [iv o,iv a] (λr=>aWE r):=by refine bgR λs0 c b=>?_;simp+contextual only[a1p,u0,u1,aEn,aOX,ar,a6D,QV,vb,y6,↓uL]
def aUb:FT:=aRd aXb
def bbT{o a Lw K}:=aWg aUb aXb o a Lw K
def aW9(o a b:Int):Ct 229 [iv o,iv a,iv b] (λr=>aWE r):=by refine bgP λs0 d c=>?_;simp+contextual only[aU1,u0,u1,aPR,a5N,aP1,aOX,ar,a6D,QV,vb,y6,↓uL,aU1,vm,o8,lS,aNQ,not_false_iff]
def aUa:FT:=aSb aW9
def bbR{o a b Lw K}:=a6o aUa aW9 o a b Lw K
def aXj(w:br)(b n:Int):Ct 195 [.a w.c,iv b,iv n] (λr=>isB r):=by refine bgZ rfl λg f d e=>?_;simp+contextual only[a14,u0,u1,d,ix,rk,ar,aOX,aj,DR,aNP,↓uL];exact⟨λh _=>dX.1 h,λh _ _=>dX.1 h,trivial⟩
def aSg:FT:=aSb aXj
def bb1{w b n Lw K}:=a6o aSg aXj w b n Lw K
def aXl(l:List lF)(a:Int)(o:L l<1000000):Ct 166 [sl lF.c l,iv a] (λr=>isB r):=by refine bg8 λs0 n m=>?_;simp only[a2z];have h:∀(a b:Int) (k:Nat),k<L l+1->tI (λs:Int×Nat=>[iv s.1,iv s.2]) (λs=>s.2<=L l+1) [iv b,iv ((k+1:Nat):Int)]/\pM 1 (L l+1) [iv b,iv ((k+1:Nat):Int)]<pM 1 (L l+1) [iv a,iv k]:=λa b k e=>wN (enc:=λs:Int×Nat=>[iv s.1,iv s.2]) (s:=(a,k)) (s':=(b,k+1)) rfl rfl rfl e e;refine yh (λs:Int×Nat=>[iv s.1,iv s.2]) 1 (L l+1) (λs=>s.2<=L l+1) (a,0) (by simp) ?_;rintro⟨f,k⟩ e;simp+contextual only[a2A,a2B,a2C,f8,aI,au,u0,u1,y9,rk,gw,ar,aOX,aNP,vb,vm,rr,↓uL];intro i j;have g:k<L l+1:=(by simp at i;omega);have d:aF (L l) f:=(by simp at j;exact⟨by omega,by omega⟩);rw[fX (by omega)];exact⟨d,λ_=>⟨d,λ_=>⟨d,h _ _ _ g⟩,λ_=>h _ _ _ g⟩⟩
def aUe:FT:=pn aXl
def bb3{l a Lw K}:=rQ aUe aXl l a Lw K (j:=by simp+contextual only[ij,Nb])
def a8e(i:lF)(s:pt):Prop:=i.op=7\/i.op=9->aF (L s.li) i.k
def aXw(i:lF)(s:pt)(b:a8e i s):Ct 199 [.a i.c, .a s.c] (λr=>isI r):=by refine bho rfl rfl λj g d e f=>?_;simp+contextual only[a4i,a4k,a4j,a4l,a4h,f8,aI,au,u0,u1,d,e,ix,rk,gw,ar,aOX,aj,aPG,vb,y6,vm,rr,↓uL];simp only[lS,o8,sr,Ca,vb,mn];exactλ_ _=>⟨λh=>b (.inl h),λ_ h=>b (.inr h)⟩
def aUn:FT:=pn aXw
def bce{i s Lw K}:=rQ aUn aXw i s Lw K (j:=by simp+contextual only[ij,Nb])
def aWV(d:w6):Ct 202 [.a d.c] (λr=>isB r):=by refine bgz rfl λg f b e=>?_;simp+contextual only[a0m,u0,u1,b,gw,ar,aOX,aj,aRB,aNP,vb,y6,↓uL]
def aT3:FT:=aP7 aWV
def bbD{d Lw K}:=aRM aT3 aWV d Lw K (j:=by simp+contextual only[ij,Nb])
def slc{Y:ae}{K:d7}{i:Int}{l:List ByteArray}:rV (fo 1 Y (sl cs l) J (V (iv i)) J) K=((0<=i/\i<=L l)/\K (sl cs (l.take i.toNat))):=aIk λ_=>rfl
def aWZ(p:xr)(t:Int)(s:ByteArray)(g:PrB p):Ct 251 [.a p.c,iv t,st s] (λr=>∃k,r=iv k/\(k=5->0<=aOB p.A7 s)):=by obtain⟨l,m,d⟩:=g;refine bgD rfl λq o b j=>?_;have f:=aTb (p:=λi=>Q ((gd p.A7 i).name=s)) (n:=L p.A7);have e:∀t:Int,L (gd p.ay t.toNat).locs<4611686018427387904:=λt=>(by by_cases h:t.toNat<L p.ay;have:=d _ (dB h);omega;rw[gd,List.getD_eq_getElem?_getD,List.getElem?_eq_none (by omega)];decide);rw[<-aOB] at f;simp+contextual only[a0t,a0u,a0s,f8,aI,au,u0,u1,b,y9,rk,gw,ar,aOX,aj,a6n,↓uL];simp only[aF];(try simp only[lS,o8,bN,pk,aNS,aNQ]);(repeat' (first|apply ai|intro _));all_goals first|omega|trivial|exact e _
def aT5:FT:=vn aWZ
def bbH{p t s Lw K}:=zZ aT5 aWZ p t s Lw K (j:=by simp+contextual only[ij,Nb])
def aW3(l:List w6)(O:L l<1000):Ct 172 [sl w6.c l] (λr=>aQ1 r):=by
 refine bgH λs0 E H=>?_
 simp only[a0E]
 refine jD (α:=Int×Int×Int×Int) (λs i=>[iv s.1,iv s.2.1,iv s.2.2.1,iv s.2.2.2,iv i]) 4 (L l) (λ_ _ Y=>L Y=4096) (s0:=(0,0,0,0)) E ?_
 rintro k ⟨a,b,c,d⟩ Y N e
 have F:∀(x y z u:Int) Y',L Y'=4096->k<L l->yI (λ(s:Int×Int×Int×Int) i=>[iv s.1,iv s.2.1,iv s.2.2.1,iv s.2.2.2,iv i]) (L l) (λ_ _ Y=>L Y=4096) [iv x,iv y,iv z,iv u,iv (dq.wrap ((k:Int)+1))] Y'/\gM 4 (L l) [iv x,iv y,iv z,iv u,iv (dq.wrap ((k:Int)+1))] Y'<gM 4 (L l) [iv a,iv b,iv c,iv d,iv k] Y:=λx y z u Y' m g=>
  dR (mk:=λ(s:Int×Int×Int×Int) i=>[iv s.1,iv s.2.1,iv s.2.2.1,iv s.2.2.2,iv i]) (s:=(a,b,c,d)) (s':=(x,y,z,u)) (λ_ _=>rfl) g (by omega) m
 have t:∀{Y:ae} {K:d7} {i:Int},rV (fo 6 Y (sl w6.c l) J (V (iv i)) J) K=((0<=i/\i<=L l)/\K (sl w6.c (l.take i.toNat))):=aIk λ_=>rfl
 simp only[a0N,aI,au,u0,u1,aO2,rr,vb,vm,a0M,y9,bh,gw,rr,↓uL]
 intro h
 have f:=aL h
 refine⟨dJ f,anu e λv A w G B=>?_⟩
 have o:L A=4096:=w.len.trans e
 have j:(0:Int)<=k/\(k:Int)<=L l:=⟨by omega,by omega⟩
 have D:=aTb (p:=λi=>Q ((gd (l.take k) i).name=(gd l k).on)) (n:=L (l.take k))
 have q:L (l.take k)<4611686018427387904:=by simp;omega
 have C:Q (aOB (l.take k) (gd l k).on<0)=I->aF (L l) (aOB (l.take k) (gd l k).on):=λh=>by
  simp only[o8] at h
  have M:L (l.take k)<=L l:=by simp only[List.length_take];omega
  exact⟨by omega,by have:=D.2;rw[aOB];omega⟩
 simp+contextual only[aUT,t,bh,u0,u1,B,rk,gw,aj,ar,aOX,rr,aO2,vb,vm,a0I,a0F,a0H,a0L,a0G,a0K,a0J,aUT,j,y9,C,F,f,o,q,aRW,y6,↓uL]
def aT7:FT:=om aW3
def bbL{l Lw K}:=qz aT7 aW3 l Lw K (j:=by simp+contextual only[ij,Nb])
def aW7(p:xr)(C:PrB p):Ct 173 [.a p.c] (λr=>aQ1 r):=by refine bgL rfl λn w q G=>?_;obtain⟨H,M,A⟩:=C;simp only[a0T];have y:∀{Y:ae} {K:d7} {i:Int},rV (fo 4 Y (sl xt.c p.ay) J (V (iv i)) J) K=((0<=i/\i<=L p.ay)/\K (sl xt.c (p.ay.take i.toNat))):=aIk λ_=>rfl;refine yV (L p.ay) (λ_ _ Y=>Fx n Y []) (Fx.refl _ _) ?_;rintro k _ Y B F;have e:=F.kq q;have f:L Y=4096:=F.len.trans w;simp only[a0Y,aI,au,u0,u1,e,rk,gw,aj,y9,bh,↓uL];refine⟨λh=>⟨bA h,anu f λv o d z g=>?_⟩,λh=>?_⟩;(focus have b:=aL h;have m:=d.kq e;have u:(0:Int)<=k/\(k:Int)<=L p.ay:=⟨by omega,by omega⟩;have x:L (p.ay.take k)<4611686018427387904:=(by simp;omega);have D:=dR (mk:=λ(_:Unit) i=>[iv i]) (p:=0) (s:=()) (s':=()) (Inv:=λ_ _ Y=>Fx n Y []) (Y:=Y) (Y':=o) (λ_ _=>rfl) b (by omega) (F.trans d);simp+contextual only[a0U,y,bh,u0,u1,m,g,gw,aj,ar,aOX,rr,aO2,vb,vm,u,x,D,↓uL];(try simp only[dh,aF,lS,o8,bN,fH,cP,pk,aNS,eH,fK,aNQ]);(repeat' (first|apply ai|intro _));all_goals first|omega|trivial);refine yV (L p.ay) (λ_ _ Y=>Fx n Y []) F ?_;rintro k _ Y B F;have e:=F.kq q;have f:L Y=4096:=F.len.trans w;simp only[a0W,aI,au,u0,u1,e,rk,gw,aj,y9,bh,rr,aO2,vb,vm,↓uL];refineλh=>⟨bA h,anu f λv o d z g=>?_⟩;have b:=aL h;have m:=d.kq e;simp+contextual only[a0V,u0,u1,g,gw,aj,rr,aO2,vb,mn,↓uL];intro N;have E:=A _ (dB b);refine C7 (L (gd p.ay k).locs) (λ_=>True) trivial λj O _=>?_;simp+contextual only[a0X,aI,au,u0,u1,m,g,rk,gw,aj,ix,bh,ar,aOX,rr,aO2,vb,slc,↓uL];refine⟨λt=>?_,λt=>dR (mk:=λ(_:Unit) i=>[iv i]) (s:=()) (s':=()) (λ_ _=>rfl) b (by omega) (F.trans d)⟩;have l:=aL t;refine⟨dJ l,by omega,λ_=>by omega,λ_=>⟨by omega,by omega⟩,λ_=>by simp;omega,λ_=>gS l (by omega) trivial⟩
def aT9:FT:=om aW7
def bbP{p Lw K}:=qz aT9 aW7 p Lw K (j:=by simp+contextual only[ij,Nb])
def cu(x:Int):List AV:=[.s (.int .u8 x)]
def a6E{Y:ae}{K:d7}{i:Int}{l:List Int}:rV (cz 1 Y (sl cu l) (iv i)) K=(aF (L l) i/\K (.q (cu (gd l i.toNat)))):=aBz λ_=>rfl
def bcP{x y:Int}:(cu x=cu y)=(x=y):=by simp[cu]
def aQZ{l l':List Int}:(sl cu l=sl cu l')=(l=l'):=kL (by intro x y h;rwa [bcP] at h)
def aWH(l:List Int)(u:L l<1000):Ct 32 [sl cu l] (λr=>∃cs:List xd,r=sl xd.c cs/\L cs=L l):=by refine aDq (bgd λs0 o q=>?_);simp only[aYP];refine jD (α:=AV) (λa i=>[a,iv i]) 1 (L l) (λk a Y=>L Y=4096/\∃cs:List xd,L cs=k/\bc Y 146 2 a (cs.map xd.c)) (s0:= .l [] U U) ⟨o,[],rfl,bc.nil⟩ ?_;rintro k a Y t ⟨b,cs,n,d⟩;simp+contextual only[aYQ,aI,au,u0,u1,a6E,bh,cu,qM,aS6,aPR,a5N,aP1,↓uL];refine⟨λh=>⟨bA h,by decide,bA h,by decide,by decide,?_⟩,λh=>?_⟩;generalize(dq.wrap (gd l k)).tmod 4=x;generalize dq.wrap ((dq.wrap ((dq.wrap (gd l k)).tdiv 4)).tmod 5-1)=y;have e:bM aYq O7 [(0,iv x),(1,iv y)]=V (.a (xd.c ⟨x,y⟩)):=rfl;have j:aX a7Y 1 Y [(0, .a (xd.c ⟨x,y⟩))]=V (.l ([(⟨x,y⟩:xd)].map xd.c) U U,Y):=ua rfl rfl rfl (by decide) rfl (by decide);simp only[e,j,aY,bQ];refine apQ d.p b (qW (f:=xd.c) (z:=2) λ_=>rfl) (qW (f:=xd.c) (z:=2) λ_=>rfl) (by simp) (by simp;omega) λm Y' g F N=>?_;refine dT (by first|rfl|(simp[eL,okT,tok,lb,cq,Qh,cD,dC,pP,dK];done)) ?_;simp only[u0,u1,↓uL];refine dR (mk:=λa i=>[a,iv i]) (s:=a) (s':=m) (λ_ _=>rfl) (aL h) (by omega) ⟨F.len.trans b,cs++[⟨x,y⟩],by simp[n],by rw[dg];exact g⟩;exact aOv (Q:=λr=>∃cs:List xd,r=sl xd.c cs/\L cs=L l) (aWs d.p) (by simp[iX,eN]) ⟨cs,rfl,by have:=bw h;omega⟩
def aTT:FT:=om aWH
def bbp{l Lw K}:=qz aTT aWH l Lw K (j:=by simp+contextual only[ij,aQZ])
def aWL(s:ByteArray)(e:fc):Ct 125 [st s, .a e.c] (·= .a (eo.mk 1 0 s ⟨#[]⟩ [] e [] []).c):=by refine aDq (bgi aN9 λp j f o=>?_);simp only[aZh];refine so j λv q d m g=>?_;have i:=d.kq f;have b:bM A4 aon [(0,iv 1),(2,st s),(5, .a e.c)]=V (.a [iv 1,iv 0,st s,sv [], .l [] U U,iv e.op,iv e.n,st e.name,sl fc.c e.l, .l [] U U, .l [] U U]):=(by rw[aoH];rfl);simp only[aZi,u0,u1,i,gw,b,↓uL];refine qr g rfl rfl λr k h=>?_;simp only[u0,u1,h,bd8,↓uL];exact aQ7 (by rw[apT];rfl) (by rw[apT];rfl)
def aPN:FT:=lI aWL
def bbt{s e Lw K}:=nq aPN aWL s e Lw K (j:=by simp+contextual only[ij,Nb])
def aWM(o:Int)(a b:fc):Ct 213 [iv o, .a a.c, .a b.c] (·= .a (fc.mk o 0 ⟨#[]⟩ [a,b]).c):=by refine aDq (bgj aN9 aN9 λt p h i s=>?_);simp only[aZj];refine so p λv g d r j=>?_;have m:=d.kq h;have n:=d.kq i;have f:aX aRb 2 g [(0, .a a.c),(1, .a b.c)]=V (.l [a.c,b.c] U U,g):=(by rw[aoH (x:=a),aoH (x:=b)];kernel_rfl);simp only[aZl,u0,u1,m,n,gw,f,↓uL];have e:bM aOP alz [(0,iv o),(3, .l [a.c,b.c] U U)]=V (.a [iv o,iv 0,sv [], .l [a.c,b.c] U U]):=rfl;simp only[aZk,e,aY,↓uL];refine qr j rfl rfl λu q k=>?_;simp only[u0,u1,k,uS,↓uL];exact aQ7 (by rw[aoH (x:= .mk o 0 ⟨#[]⟩ [a,b])];rfl) (by rw[aoH (x:= .mk o 0 ⟨#[]⟩ [a,b])];rfl)
def aRg:FT:=za aWM
def bbu{o a b Lw K}:=KP aRg aWM o a b Lw K (j:=by simp+contextual only[ij,Nb])
def aXG(s:bW)(G:L s.bm.ay<1000):Ct 164 [.a s.c] (λr=>∃l:List Int,r=sl ci l/\L l<=L s.bm.ay):=by refine aDq (bhE rfl λo A y C=>?_);simp only[a5v,u0,u1,y,rk,aj,↓uL];refine jD (α:=AV) (λa i=>[a,iv i]) 1 (L s.bm.ay) (λk a Y=>Fx o Y []/\∃l:List Int,L l<=k/\bc Y 3 1 a (l.map ci)/\∀q∈aA a,bK o q) (s0:= .l [] U U) ⟨Fx.refl _ _,[],by simp,bc.nil,by simp[aA]⟩ ?_;rintro k a Y E ⟨F,l,D,j,m⟩;have e:L Y=4096:=F.len.trans A;simp only[a5z,aI,au,u0,u1,a5y,ix,bh,rkx,rr,↓uL];refine⟨λh=>⟨bA h,anu e λv w b B z=>?_⟩,λh=>?_⟩;have f:=aL h;have n:L w=4096:=b.len.trans e;simp+contextual only[a5w,u0,u1,z,rk,aj,a5Y,a5x,↓uL];refine⟨λ_=>?_,λ_=>dR (mk:=λa i=>[a,iv i]) (s:=a) (s':=a) (λ_ _=>rfl) f (by omega) ⟨F.trans b,l,by omega,j.fx b (by simp),m⟩⟩;refine qs (j.fx b (by simp)).p rfl (by decide) (by rw[n];decide) pU pU (by simp) (by simp;omega) λx Y' g t u=>?_;refine dR (mk:=λa i=>[a,iv i]) (s:=a) (s':=x) (λ_ _=>rfl) f (by omega) ⟨((F.trans b).trans t).mono λq d=> .inr ?_,l++[(k:Int)],by simp;omega,by rw[dg];exact g,λq d=>((u q d).1.old b).old F⟩;simp only[dW] at d;exact(m q d).no;exact aOv (Q:=λr=>∃l:List Int,r=sl ci l/\L l<=L s.bm.ay) (aWs j.p) (by simp[iX,eN]) ⟨l,rfl,by have:=bw h;omega⟩
def aSk:FT:=om aXG
def bcn{s Lw K}:=qz aSk aXG s Lw K
def a7x:dO:=(227,aUb)::(229,aUa)::(195,aSg)::(166,aUe)::(199,aUn)::(202,aT3)::(251,aT5)::(172,aT7)::(173,aT9)::(32,aTT)::(125,aPN)::(213,aRg)::(164,aSk)::a7w
def aNH:eJ a7x:=it (aYm aXb) (it (a7W aW9) (it (a7W aXj) (it (aN0 aXl) (it (aN0 aXw) (it (aR6 aWV) (it (By aWZ) (it (rj aW3) (it (rj aW7) (it (rj aWH) (it (nI aWL (λ_ _=>by simp only[Cs,aqG,aOW,Bool.and_self])) (it (Rs aWM (λ_ _ _=>by simp only[Cs,aqG,aOW,Bool.and_self])) (it (rj aXG) (aOh)))))))))))))
def aD6:=ai @bbT<|ai @bbR<|ai @bb1<|ai @bb3<|ai @bce<|ai @bbD<|ai @bbH<|ai @bbL<|ai @bbP<|ai @bbp<|ai @bbt<|ai @bbu<|ai @bcn<|@aOX
section
attribute[local irreducible] aX
def a9g:=bi 9 []
def a1l c g h i j a R:=aw 2 a c λt3=>fV aT5 a [t3,g,h] λt4=>bf t4 (iv 0) λk=>ah k (aE R a [(iv 5)]) (aO .neq t4 i λb=>fm b t4 λl=>fm b j λd=>az b (aO .neq l d) λe=>aD b e (bv I) λf=>ah f (aE R a [(iv 6)]) (aE R a [(iv 0)]))
def bgO{b:List AV}{c:AV}{d:AV}{e:AV}{f:AV}{R:d7}(l0:L b=2)(h:H1 143 2 5 b λg i=>a1l g c d e f i R):Ct 233 [.a b,c,d,e,f] R:=z1 a9g aNH Tryz.func233 l0 h
def a86:=bi 10 [(4,([4,5,6],[1]))]
def a0w b c R(n:cG)(h:fD) a:=∀_:Rg,ab 3 b c λo=>aJ b o λp=>aU (gt a 2) p λq=>ah q (ab 3 b c λr=>ao 4 b r (gt a 2) λi=>aw 4 b i λj=>fV (cX 252) b [j] λd=>rV (eO 0 d) λk=>rV (eO 1 d) λl=>aV (gt a 0) k λe=>rV (AO .max (gt a 1) l) λf=>aV (gt a 2) (iv 1) λg=>n [e,f,g]/\h [e,f,g]<h a) (aV (gt a 1) (iv 1) λm=>aE R b [(gt a 0),m])
def a0v a b R:=lR [(iv 1),(iv 0),(iv 0)] (a0w b a R)
def bgE{b:List AV}{R:d7}(l0:L b=4)(h:H1 217 4 1 b λc d=>a0v c d R):Ct 252 [.a b] R:=z1 a86 aNH Tryz.func252 l0 h
def a82:=bi 9 [(4,([3,4],[0]))]
def a0o s0 d R(i:cG)(e:fD) a:=∀_:Rg,aJ s0 d λt3=>aU (gt a 1) t3 λt4=>ah t4 (ao 11 s0 d (gt a 1) λj=>ab 9 s0 j λk=>fV (cX 174) s0 [k] λl=>aV (gt a 0) l λm=>ao 11 s0 d (gt a 1) λf=>ab 10 s0 f λg=>fV (cX 174) s0 [g] λh=>aV m h λb=>aV (gt a 1) (iv 1) λc=>i [b,c]/\e [b,c]<e a) (aE R s0 [(gt a 0)])
def a0n a s0 R:=aJ s0 a λt1=>lR [t1,(iv 0)] (a0o s0 a R)
def bgA{a:AV}{R:d7}(h:H0 λs0=>a0n a s0 R):Ct 174 [a] R:=z0 a82 aNH Tryz.func174 h
def a8X:=bi 14 [(7,([4],[1]))]
def aUR b d R(i:cG)(e:fD) a:=∀_:Rg,ab 3 b d λj=>aJ b j λk=>aU (gt a 0) k λl=>ah l (ab 3 b d λm=>ao 4 b m (gt a 0) λn=>aw 4 b n λf=>fV (cX 249) b [f] λg=>cf g λh=>ah h (aE R b [(bv I)]) (aV (gt a 0) (iv 1) λc=>i [c]/\e [c]<e a)) (aE R b [(bv U)])
def aSt a b R:=ab 0 b a λt4=>bf t4 (iv 2) λj=>bn j 0 b a λk=>aC j (bf k (iv 3)) λl=>aD j (bv U) l λi=>ab 0 b a λm=>fV aTZ b [m] λn=>ab 3 b a λo=>aJ b o λp=>aO .neq n p λc=>ic c i λq=>bn c 2 b a λr=>aC c (aO .neq r (sv [])) λs=>aC c (rV (wl .neq 1 [] q s)) λt=>aD c (bv U) t λe=>ic e i λu=>ic e u λf=>aT f 2 b a λv=>az f (fV aPd b [v]) λw=>az f (cf w) λx=>aC e (aD f x (bv I)) λy=>aD e (bv U) y λg=>bn g 1 b a λz=>aC g (aU z (iv 0)) λA=>aD g (bv U) A λd=>bn d 0 b a λB=>aC d (aO .neq B (iv 1)) λC=>ic d C λh=>aT h 1 b a λD=>az h (aO .neq D (iv 0)) λE=>aC d (aD h E (bv I)) λF=>aD d (bv U) F λG=>ah G (aE R b [(bv I)]) (lR [(iv 0)] (aUR b a R))
def bgv{b:List AV}{R:d7}(l0:L b=4)(h:H1 217 4 1 b λc d=>aSt c d R):Ct 249 [.a b] R:=z1 a8X aNH Tryz.func249 l0 h
def a9D:=bi 35 [(11,([59],[2,3,6])),(14,([78],[2,3,6])),(19,([98],[2,3,6])),(23,([108],[2,3,6]))]
def a2J a b e R f g:=∀_:Rg,ah (gt g 0) (ab 1 a b λh=>ab 4 a e λi=>aJ a i λj=>fV aN3 a [h,j] λk=>aE R a [k]) (bf f (iv 26) λl=>ah l (ab 1 a b λm=>ab 3 a e λn=>aJ a n λo=>fV aN3 a [m,o] λp=>aE R a [p]) (bf f (iv 27) λq=>ah q (ab 2 a b λr=>ab 3 a e λs=>aJ a s λt=>fV aN3 a [r,t] λu=>aE R a [u]) (bf f (iv 3) λv=>ah v (ab 4 a b λw=>bf w (iv 4) λc=>bn c 4 a b λx=>aC c (bf x (iv 5)) λy=>aD c (bv U) y λz=>aE R a [z]) (bf f (iv 4) λA=>ah A (ab 4 a b λB=>aO .geq B (iv 6) λd=>aT d 4 a b λC=>az d (aO .leq C (iv 18)) λD=>aD d D (bv I) λE=>aE R a [E]) (aE R a [(bv U)])))))
def a2N d(a:cG):=bf d (iv 24) λb=>ah b (a [b]) (bf d (iv 25) λc=>a [c])
def a2I a c d R i b:=∀_:Rg,ah (gt b 0) (ab 1 a c λe=>ab 2 a d λf=>aJ a f λg=>fV aN3 a [e,g] λh=>aE R a [h]) (jR 23 (a2J a c d R i) (a2N i))
def a2M e(a:cG):=bf e (iv 21) λb=>ah b (a [b]) (bf e (iv 22) λc=>ah c (a [c]) (bf e (iv 23) λd=>a [d]))
def a2H b c d R n e:=∀_:Rg,ah (gt e 0) (ab 1 b c λf=>ab 1 b d λg=>aJ b g λh=>fV aN3 b [f,h] λa=>aT a 1 b d λi=>aT a 1 b c λj=>az a (ao 2 b i j) λk=>aT a 1 b k λl=>aD a l (bv I) λm=>aE R b [m]) (jR 19 (a2I b c d R n) (a2M n))
def a2L e(a:cG):=bf e (iv 13) λb=>ah b (a [b]) (bf e (iv 14) λc=>ah c (a [c]) (bf e (iv 15) λd=>ah d (a [d]) (bf e (iv 16) λf=>a [f])))
def a2G a c d R k j:=∀_:Rg,ah (gt j 0) (ab 1 a c λl=>ab 1 a d λm=>aJ a m λn=>fV aN3 a [l,n] λb=>aT b 1 a d λo=>aT b 1 a c λe=>az b (ao 2 a o e) λf=>aT b 1 a f λg=>az b (cf g) λh=>aD b h (bv I) λi=>aE R a [i]) (jR 14 (a2H a c d R k) (a2L k))
def a2K d(b:cG):=bf d (iv 11) λa=>ah a (b [a]) (bf d (iv 12) λc=>b [c])
def a2F c b a R:=ab 0 a b λf=>bf f (iv 6) λK=>ah K (ab 2 a b λM=>ab 0 a c λg=>aJ a g λh=>fV aN3 a [M,h] λd=>aT d 0 a c λi=>aT d 2 a b λj=>az d (ao 5 a i j) λk=>aT d 2 a k λl=>az d (bf l (iv 0)) λm=>aD d m (bv I) λn=>aE R a [n]) (bf f (iv 8) λo=>ah o (ab 1 a b λp=>ab 0 a c λq=>aJ a q λr=>fV aN3 a [p,r] λe=>aT e 0 a c λs=>aT e 1 a b λt=>az e (ao 5 a s t) λu=>aT e 2 a u λv=>az e (bf v (iv 0)) λw=>aD e w (bv I) λx=>aE R a [x]) (bf f (iv 7) λy=>ah y (aw 6 a c λz=>ab 2 a b λA=>ab 4 a b λB=>fV aSg a [z,A,B] λC=>aE R a [C]) (bf f (iv 9) λD=>ah D (aw 6 a c λE=>ab 1 a b λF=>ab 4 a b λG=>fV aSg a [E,F,G] λH=>aE R a [H]) (jR 11 (a2G a b c R f) (a2K f)))))
def bha{b:List AV}{c:List AV}{R:d7}(l0:L b=6)(l1:L c=6)(h:H2 31 6 2 b 209 6 3 c λd e f=>a2F d e f R):Ct 165 [.a b, .a c] R:=z2 a9D aNH Tryz.func165 l0 l1 h
end
def aW8(p:xr)(t:Int)(s:ByteArray)(a b:Int)(f:PrB p):Ct 233 [.a p.c,iv t,st s,iv a,iv b] (λr=>∃k,r=iv k/\(k=0->a=5->b=5->0<=aOB p.A7 s)):=by refine bgO rfl λi h d g=>?_;simp+contextual only[a1l,u0,u1,d,gw,ar,Fa,aD6,f,aXX,a6n,↓uL];intro k e;(try simp only[lS,o8,bN,pk,aNS,aNQ]);(repeat' (first|apply ai|intro _));all_goals first|omega|trivial|exact e (by omega)
def aOd:FT:=aTQ aW8
def bbQ{p t s a b Lw K}:=bbn aOd aW8 p t s a b Lw K (j:=by simp+contextual only[ij,Nb])
def aW0(e:fc)(f:∃n,C6 n e):Ct 252 [.a e.c] (λr=>aQ1 r):=by obtain⟨n,f⟩:=f;induction n generalizing e with|zero=>exact f.elim|succ n j=>have i:=f.len;refine bgE aN9 λp o g m=>?_;simp only[a0v];refine yh (λs:Int×Int×Nat=>[iv s.1,iv s.2.1,iv s.2.2]) 2 (L e.l) (λ_=>True) (1,0,0) trivial ?_;rintro⟨a,b,k⟩ _;simp only[a0w,aI,au,u0,u1,g,gw,aj,y9,bh,rr,jM,kU,jt,Fa,aO2,vb,vm,↓uL];intro h;have d:=aL h;refine⟨dJ d,aPW (j _ (f.2 _ (dB d))) (aV2 a6h) ?_⟩;rintro r ⟨x,y,rfl⟩;simp only[u0,u1,rr,aRW,mn];exact wN (enc:=λs:Int×Int×Nat=>[iv s.1,iv s.2.1,iv s.2.2]) (s:=(a,b,k)) (s':=(_,_,k+1)) (by rw[fX (by omega)]) rfl rfl d trivial
def aT6:FT:=om aW0
def bbI{e Lw K}:=qz aT6 aW0 e Lw K (j:=by simp+contextual only[ij,Nb])
def aWW(l:List eo)(d:∃n,shL n 8 l):Ct 174 [sl eo.c l] (λr=>isI r):=by obtain⟨n,d⟩:=d;induction n using Nat.strongRecOn generalizing l with|ind n f=>obtain⟨j,g⟩:=d;refine bgA λs0 o i=>?_;simp only[a0n,u0,u1,↓uL];refine yh (λs:Int×Nat=>[iv s.1,iv s.2]) 1 (L l) (λ_=>True) (L l,0) trivial ?_;rintro⟨a,k⟩ _;simp only[a0o,aI,au,u0,u1,y9,rr,gw,bh,jM,kU,jt,alg,aPG,vb,vm,↓uL];intro h;have b:=aL h;obtain⟨m,rfl,g1,e⟩:=(g _ (dB b)).body;refine⟨dJ b,aPW (f m (by omega) _ ⟨by have:=g1.1;omega,g1.2⟩) rfl ?_⟩;rintro r ⟨x,rfl⟩;simp only[u0,u1,AL,mn];refine⟨dJ b,aPW (f m (by omega) _ ⟨by have:=e.1;omega,e.2⟩) rfl ?_⟩;rintro r ⟨y,rfl⟩;simp only[u0,u1,AL,mn];exact wN (enc:=λs:Int×Nat=>[iv s.1,iv s.2]) (s:=(a,k)) (s':=(_,k+1)) (by rw[fX (by omega)]) rfl rfl b trivial
def aT4:FT:=om aWW
def bbE{l Lw K}:=qz aT4 aWW l Lw K (j:=by simp+contextual only[ij,Nb])
def aWS(e:fc)(g:∃n,C6 n e):Ct 249 [.a e.c] (λr=>isB r):=by obtain⟨n,g⟩:=g;induction n generalizing e with|zero=>exact g.elim|succ n o=>have m:=g.len;refine bgv aN9 λq u i s=>?_;have d:lR [iv 0] (aUR q (.p (1,1) 0 0) λr=>isB r):=(by refine C7 (L e.l) (λ_=>True) trivial λk t _=>?_;simp only[aUR,aI,au,u0,u1,i,gw,aj,y9,bh,rr,jM,kU,jt,Fa,aNP,vb,vm,↓uL];intro h;have f:=aL h;refine⟨dJ f,aPW (o _ (g.2 _ (dB f))) (aV2 a6h) ?_⟩;rintro r ⟨x,rfl⟩;simp only[u0,u1,AL,mn,vb];exactλ_=>gS f (by omega) trivial);have b:e.op=2\/e.op=3\/(e.op≠2/\e.op≠3):=(by omega);rcases b with b|b|⟨j,b⟩;simp+contextual only[aSt,u0,u1,i,gw,ar,aD6,aj,rr,aRB,aNP,vb,b,aNV,d,ya,Bool.and_self,↓jN,↓uL];simp+contextual only[aSt,u0,u1,i,gw,ar,aD6,aj,rr,aRB,aNP,vb,b,aNV,aNE,Bool.or_true,d,Int.reduceEq,ya,Bool.and_self,↓jA,↓uL];simp+contextual only[aSt,u0,u1,i,gw,ar,aD6,aj,rr,aRB,aNP,vb,j,b,aNE,d,Aa,Bool.and_self,↓jA,↓jN,↓uL]
def aRh:FT:=om aWS
def bbA{e Lw K}:=qz aRh aWS e Lw K (j:=by simp+contextual only[ij,Nb])
def aXn(w:br)(i:lF):Ct 165 [.a w.c, .a i.c] (λr=>isB r):=by refine bha rfl rfl λg f b d e=>?_;simp+contextual (maxSteps:=2000000) only[a2J,a2N,a2I,a2M,a2H,a2L,a2G,a2K,a2F,f8,au,u0,u1,b,d,ix,rk,gw,ar,aD6,aj,rr,aNP,DR,vb,y6,↓uL];(try simp only[lS,o8,bN,pk,aNS,aNQ]);(repeat' (first|apply ai|intro _));all_goals first|omega|trivial
def aUf:FT:=aRd aXn
def bb5{w i Lw K}:=aWg aUf aXn w i Lw K (j:=by simp+contextual only[ij,Nb])
def a7y:dO:=(233,aOd)::(252,aT6)::(174,aT4)::(249,aRh)::(165,aUf)::a7x
def aR1:eJ a7y:=it (bhJ aW8) (it (rj aW0 (λ_=>by simp only[Cs,aqG,aOW,Bool.and_self])) (it (rj aWW (λ_=>by simp only[Cs,aqG,aOW,Bool.and_self])) (it (rj aWS (λ_=>by simp only[Cs,aqG,aOW,Bool.and_self])) (it (aYm aXn) (aNH)))))
def aRO:=ai @bbQ<|ai @bbI<|ai @bbE<|ai @bbA<|ai @bb5<|@aD6
section
attribute[local irreducible] aX
def a9a:=bi 13 [(2,([7],[1,3,5])),(8,([7,8],[1,3,5]))]
def aUU b d h q R(p:cG)(g:fD) a:=∀_:Rg,ab 3 b d λr=>aJ b r λs=>aU (gt a 1) s λc=>fm c (gt a 0) λi=>az c (bf i (iv 0)) λj=>aD c j (bv I) λk=>ah k (aw 2 b h λl=>ab 3 b d λm=>ao 4 b m (gt a 1) λn=>aw 4 b n λo=>fV (cX 253) b [l,q,o] λe=>aV (gt a 1) (iv 1) λf=>p [e,f]/\g [e,f]<g a) (aE R b [(gt a 0)])
def a0P e a b d R c:=∀_:Rg,lR [(gt c 0),(iv 0)] (aUU e a b d R)
def a0Q a b c f(e:cG):=ab 0 a b λd=>bf d (iv 2) λg=>ah g (aw 2 a c λh=>ab 2 a b λi=>fV aOd a [h,f,i,(iv 8),(iv 1)] λj=>e [j]) (bf d (iv 3) λk=>ah k (aw 2 a c λl=>ab 2 a b λm=>fV aOd a [l,f,m,(iv 2),(iv 2)] λn=>e [n]) (e [(iv 0)]))
def a0O b c a d R:=jR 2 (a0P d a b c R) (a0Q d a b c)
def bgI{b:List AV}{d:AV}{c:List AV}{R:d7}(l0:L b=2)(g:L c=4)(h:H2 143 2 3 b 217 4 5 c λe f i=>a0O e d f i R):Ct 253 [.a b,d, .a c] R:=z2 a9a aR1 Tryz.func253 l0 g h
def a8Y:=bi 23 []
def aUS b a R:=ab 0 a b λt4=>aU t4 (iv 1) λt5=>bn t5 0 a b λbb=>aC t5 (aO .gtr bb (iv 15)) λbc=>aD t5 (bv U) bc λbd=>ah bd (aE R a [(bv I)]) (ab 0 a b λbe=>bf be (iv 2) λx=>bn x 0 a b λbg=>aC x (bf bg (iv 3)) λbi=>aD x (bv U) bi λy=>bn y 0 a b λbj=>aC y (bf bj (iv 7)) λbk=>aD y (bv U) bk λz=>bn z 0 a b λbl=>aC z (bf bl (iv 8)) λbm=>aD z (bv U) bm λu=>aT u 2 a b λbo=>az u (aO .neq bo (sv [])) λbp=>aD u bp (bv I) λm=>ic m u λbq=>aC m (cf bq) λbr=>ic m br λv=>aT v 2 a b λbs=>az v (fV aPd a [bs]) λbt=>az v (cf bt) λbu=>aC m (aD v bu (bv I)) λbw=>aD m (bv U) bw λbx=>ah bx (aE R a [(bv I)]) (ab 0 a b λbz=>bf bz (iv 15) λw=>aT w 3 a b λbA=>az w (fV aPd a [bA]) λbB=>az w (cf bB) λbC=>aD w bC (bv I) λn=>bn n 0 a b λA=>aC n (aO .neq A (iv 15)) λB=>ic n B λo=>aT o 3 a b λC=>az o (aO .neq C (sv [])) λD=>aC n (aD o D (bv I)) λE=>aD n (bv U) E λF=>ah F (aE R a [(bv I)]) (ab 4 a b λG=>aJ a G λH=>aO .gtr H (iv 1) λf=>bn f 0 a b λK=>aC f (aO .neq K (iv 1)) λM=>ic f M λj=>aT j 4 a b λN=>az j (aJ a N) λO=>az j (aO .gtr O (iv 0)) λP=>aC f (aD j P (bv I)) λS=>aD f (bv U) S λc=>bn c 4 a b λT=>aC c (aJ a T) λW=>aC c (bf W (iv 1)) λX=>ic c X λd=>aT d 4 a b λZ=>az d (ao 4 a Z (iv 0)) λaa=>az d (aw 4 a aa) λac=>az d (fV aRh a [ac]) λad=>az d (cf ad) λae=>aC c (aD d ae (bv I)) λaf=>aD c (bv U) af λag=>ah ag (aE R a [(bv I)]) (ab 0 a b λak=>bf ak (iv 1) λp=>bn p 0 a b λal=>aC p (bf al (iv 2)) λam=>aD p (bv U) am λq=>bn q 0 a b λan=>aC q (bf an (iv 3)) λap=>aD q (bv U) ap λr=>bn r 0 a b λaq=>aC r (bf aq (iv 14)) λar=>aD r (bv U) ar λe=>az e (aB 5 a b) λau=>az e (aw 4 a au) λav=>az e (fV aRh a [av]) λax=>az e (cf ax) λay=>aD e ay (bv I) λg=>ic g e λaA=>aC g (cf aA) λaF=>ic g aF λh=>az h (aB 5 a b) λaG=>az h (aw 4 a aG) λaI=>az h (fV aT2 a [aI]) λaK=>az h (cf aK) λaL=>aC g (aD h aL (bv I)) λaM=>aD g (bv U) aM λaN=>ah aN (aE R a [(bv I)]) (ab 0 a b λaP=>aO .geq aP (iv 2) λs=>aT s 0 a b λaQ=>az s (aO .leq aQ (iv 8)) λaR=>aD s aR (bv I) λaV=>cf aV λk=>aT k 9 a b λaW=>az k (aJ a aW) λaX=>az k (aO .gtr aX (iv 0)) λaY=>aD k aY (bv I) λi=>bn i 0 a b λaZ=>aC i (aO .neq aZ (iv 2)) λa0=>ic i a0 λl=>aT l 10 a b λa1=>az l (aJ a a1) λa2=>az l (aO .gtr a2 (iv 0)) λa3=>aC i (aD l a3 (bv I)) λa4=>aD i (bv U) a4 λa5=>ah a5 (aE R a [(bv I)]) (ab 9 a b λa6=>fV (cX 203) a [a6] λt=>aT t 10 a b λa7=>az t (fV (cX 203) a [a7]) λa8=>aD t a8 (bv I) λa9=>aE R a [a9]))))))
def bgw{b:List AV}{R:d7}(l0:L b=11)(h:H1 219 11 1 b λc d=>aUS c d R):Ct 230 [.a b] R:=z1 a8Y aR1 Tryz.func230 l0 h
def a8Z:=bi 10 [(3,([3],[0]))]
def a0h s0 b R(d:cG)(m1:fD) a:=∀_:Rg,aJ s0 b λe=>aU (gt a 0) e λt3=>ah t3 (ao 11 s0 b (gt a 0) λt4=>aw 11 s0 t4 λf=>fV (cX 230) s0 [f] λg=>cf g λh=>ah h (aE R s0 [(bv I)]) (aV (gt a 0) (iv 1) λc=>d [c]/\m1 [c]<m1 a)) (aE R s0 [(bv U)])
def a0g a s0 R:=lR [(iv 0)] (a0h s0 a R)
def bgx{a:AV}{R:d7}(h:H0 λs0=>a0g a s0 R):Ct 203 [a] R:=z0 a8Z aR1 Tryz.func203 h
def a9F:=bi 30 [(7,([8],[1,3,5,7])),(23,([11],[1,3,5,7,8,10]))]
def a2T a d r R g(q:aG)(h:bu) s(i:cG)(c:fD) b:=∀_:Rg,aJ a d λj=>aU (gt b 0) j λk=>ah k (ao 1 a d (gt b 0) λl=>aM a l λm=>ab 0 a r λn=>fV aN3 a [m,n] λo=>cf o λp=>ah p (aE R a [(bv I)]) (aV (gt b 0) (iv 1) λe=>i [e]/\c [e]<c b)) (aV (gt g 0) (iv 1) λf=>q [f] a/\h [f] a<h g s)
def a2S b m t7 o p R a1 am an ap a:=ab 0 a b λaq=>aU aq (iv 1) λn=>bn n 0 a b λar=>aC n (aO .gtr ar (iv 28)) λau=>aD n (bv U) au λe=>bn e 0 a b λav=>aC e (bf av (iv 28)) λax=>ic e (gt m 0) λay=>ic e t7 λaA=>aC e (aO .sub aA (iv 1)) λaB=>aC e (bf ay aB) λaF=>aC e (rV (wl .neq 1 [] ax aF)) λaG=>aD e (bv U) aG λj=>aC j (aw 6 a o) λaI=>aC j (aw 6 a b) λaK=>aC j (fV aUf a [aI,aK]) λaL=>aC j (cf aL) λaM=>aD j (bv U) aM λk=>bn k 1 a p λaN=>ic k (gt m 0) λaP=>aC k (fV aUe a [aN,aP]) λaQ=>aC k (cf aQ) λaR=>aD k (bv U) aR λq=>ah q (aE R a [(bv I)]) (ab 0 a b λr=>bf r (iv 28) λl=>aT l 5 a b λs=>az l (aO .neq s (iv (-1))) λt=>aD l t (bv I) λf=>bn f 0 a b λu=>aC f (aO .neq u (iv 28)) λv=>ic f v λc=>aT c 5 a b λw=>aT c 5 a o λx=>az c (aJ a x) λy=>az c (fV aN3 a [w,y]) λz=>az c (cf z) λA=>fm c A λd=>bn d 5 a o λB=>bn d 5 a b λC=>aC d (ao 3 a B C) λD=>bn d 0 a D λE=>ic d a1 λF=>aC d (aO .neq E F) λG=>az c (aD d (bv U) G) λH=>aC f (aD c H (bv I)) λK=>aD f (bv U) K λM=>ah M (aE R a [(bv I)]) (ab 0 a b λN=>bf N (iv 5) λg=>aT g 1 a b λO=>fm g t7 λP=>az g (fV aN3 a [O,P]) λS=>az g (cf S) λT=>aD g T (bv I) λh=>bn h 0 a b λW=>aC h (bf W (iv 10)) λX=>ic h X λi=>aT i 2 a b λZ=>fm i t7 λaa=>az i (fV aN3 a [Z,aa]) λac=>az i (cf ac) λad=>aC h (aD i ad (bv I)) λae=>aD h (bv U) ae λaf=>ah af (aE R a [(bv I)]) (aw 6 a b λag=>fV aRj a [ag] λak=>lR [(iv 0)] (a2T a ak p R m am an ap))))
def a2U l d m R n e f b a:=∀_:Rg,aU (gt b 0) l λh=>ah h (ab 1 a d λi=>ao 6 a i (gt b 0) λj=>aw 6 a j λk=>eV (bs 209 Py a 9) λc g=>sV (aK 6 g c k) (a2S c b l m d R n e f a)) (aE R a [(bv U)])
def a2R k l a b R:=ab 1 b a λm=>aJ b m λj=>ab 0 b a λn=>aU n (iv 0) λc=>bn c 0 b a λe=>aC c (aO .gtr e (iv 32)) λf=>aD c (bv U) f λd=>ic d j λg=>aC d (bf g (iv 0)) λh=>aD d (bv U) h λi=>ah i (aE R b [(bv I)]) (lV [(iv 0)] b (a2U j a k R l))
def bhb{b:List AV}{d:AV}{c:List AV}{R:d7}(l0:L b=6)(g:L c=2)(h:H2 31 6 3 b 192 2 5 c λe f i=>a2R e d f i R):Ct 116 [.a b,d, .a c] R:=z2 a9F aR1 Tryz.func116 l0 g h
end
def aW4(p:xr)(t:Int)(e:fc)(d:PrB p/\∃n,C6 n e):Ct 253 [.a p.c,iv t, .a e.c] (λr=>isI r):=by obtain⟨j,n,d⟩:=d;induction n generalizing e with|zero=>exact d.elim|succ n o=>have m:=d.len;refine bgI rfl aN9 λq v g i u=>?_;have f:∀x:Int,lR [iv x,iv 0] (aUU q (.p (5,1) 0 0) (.p (3,1) 0 0) (iv t) λr=>isI r):=(by intro x;refine yh (λs:Int×Nat=>[iv s.1,iv s.2]) 1 (L e.l) (λ_=>True) (x,0) trivial ?_;rintro⟨a,k⟩ _;simp+contextual only[aUU,aI,au,u0,u1,g,i,gw,aj,y9,bh,rr,jM,kU,jt,Fa,aPG,tW,vb,vm,↓uL];intro h;have b:k<L e.l:=(by simp at h;exact h.1);refine⟨dJ b,aPW (o _ (d.2 _ (dB b))) (by simp only[Cs,aqG,aOW,Bool.and_self]) ?_⟩;rintro r ⟨y,rfl⟩;simp only[AL,mn];exact wN (enc:=λs:Int×Nat=>[iv s.1,iv s.2]) (s:=(a,k)) (s':=(y,k+1)) (by rw[fX (by omega)]) rfl rfl b trivial);simp+contextual only[a0O,f8,a0Q,a0P,aI,au,u0,u1,g,i,gw,aj,aRO,j,aXX,AL,ar,Fa,f,vb,y6,↓uL]
def aT8:FT:=vn aW4
def bbM{p t e Lw K}:=zZ aT8 aW4 p t e Lw K (j:=by simp+contextual only[ij,Nb])
def aX1(n:Nat)(h:∀s,A5 n s->Ct 230 [.a s.c] isB)(l:List eo)(j:L l<=8)(e:∀s∈l,A5 n s):Ct 203 [sl eo.c l] isB:=by refine bgx λs0 f g=>?_;simp only[a0g];refine C7 (L l) (λ_=>True) trivial λk i _=>?_;simp only[a0h,aI,au,u0,u1,y9,bh,rr,gw,jM,kU,jt,Fa,aNP,vb,vm,↓uL];intro d;have b:=aL d;refine⟨dJ b,aPW (h _ (e _ (dB b))) (aV2 aS7) ?_⟩;rintro r ⟨x,rfl⟩;simp only[u0,u1,AL,mn,vb];exactλ_=>gS b (by omega) trivial
set_option maxHeartbeats 8000000 in
def a7f:∀(n:Nat) (s:eo),A5 n s->Ct 230 [.a s.c] isB:=by intro n;induction n with|zero=>intro s h;exact h.elim|succ n u=>intro s q;have o:=q.at;obtain⟨m,C,g1,l⟩:=q.body;obtain rfl:n=m:=(by omega);refine bgw WV λd B f A=>?_;have hI:Q ((L s.index:Int)=1)=U->∃n,C6 n (gd s.index 0):=λh=>⟨2,o.2.2.1 _ (dB (by simp at h;omega))⟩;have w:s.op=1\/s.op=2\/s.op=3\/s.op=14->∃n,C6 n s.expr:=λh=>⟨2,o.1 h⟩;have k:fW (cX 203) [sl eo.c s.body] (lo d [sl eo.c s.body]) (λb=>gR (gP U b) (λg=>g (AV.p (1,1) 0 10)) λt=>gR (gP U b) (λg=>rV (kb J d t) λv=>g v) λe=>gR (gP U b) (λg=>fW (cX 203) [dG d e] (lo d [e]) λv=>g v) λi=>rV (mL b i (bv I)) λj=>aE isB d [j]):=(by refine aPW (aX1 n u _ (by have:=g1.1;omega) g1.2) rfl ?_;rintro r ⟨x,rfl⟩;(cases x);simp only[u0,AL,Aa,aNP,u1,jN,mn];simp only[u0,u1,AL,mn,jA,f,gw,alg,ya];refine aPW (aX1 n u _ (by have:=l.1;omega) l.2) rfl ?_;rintro r ⟨y,rfl⟩;simp only[AL,u1,aNP,mn]);have cs:(Q (s.op<1)||Q (15<s.op))=U\/s.op=1\/s.op=2\/s.op=3\/s.op=4\/s.op=5\/s.op=6\/s.op=7\/s.op=8\/s.op=9\/s.op=10\/s.op=11\/s.op=12\/s.op=13\/s.op=14\/s.op=15:=(by simp only[fH,lS];omega);rcases cs with h|h|h|h|h|h|h|h|h|h|h|h|h|h|h|h;simp+contextual only[aUS,u0,u1,f,gw,aj,h,aNP,↓iC,↓uL];trace_state;all_goals(try have z:=w (by omega));simp+contextual only[aUS,u0,u1,f,rk,gw,ar,Fa,aRO,aj,rr,rg,y9,Gx,aRB,aNP,h,k,aNV,aNE,Int.reduceLT,Int.reduceEq,Int.reduceLE,aNQ,bdT,bdU,ya,Aa,↓jA,↓jN,Bool.and_self,vb,vm,↓uL];(try simp only[aF,lS,o8,bN,fH,cP,pk,aNS,eH,fK]);(repeat' (first|apply ai|intro _));all_goals first|omega|trivial|exact hI (by simp;omega)
def a6L(s:eo)(b:∃n,A5 n s):Ct 230 [.a s.c] (λr=>isB r):=by obtain⟨n,b⟩:=b;exact a7f n s b
def a8a:FT:=om a6L
def aWT(l:List eo)(a:∃n,shL n 8 l):Ct 203 [sl eo.c l] (λr=>isB r):=by obtain⟨n,a⟩:=a;exact aX1 n (a7f n) l a.1 a.2
def aT1:FT:=om aWT
def bbB{l Lw K}:=qz aT1 aWT l Lw K (j:=by simp+contextual only[ij,Nb])
def aYh(c:A2):Prop:=0<=c.li/\c.li<=32/\∀k,k<L c.No->∀j∈A1 (gd c.No k),0<=j/\j<c.li
def aTv{P:Bool->Prop}{Q:d7}:(∀r,(∃b:Bool,r=bv b/\P b)->Q r)=∀b,P b->Q (bv b):=vp ⟨λh k a=>h _ ⟨k,rfl,a⟩,by rintro h r ⟨k,rfl,a⟩;exact h k a⟩
def aPA{a:Bool}{p:Bool->Prop}:(∃k,bv a=bv k/\p k)=p a:=vp ⟨by rintro⟨k,h,b⟩;simp at h;rw[h];exact b,λh=>⟨a,rfl,h⟩⟩
def bd5{l:List Int}{Q:d7}:(∀r,aRU l r->Q r)=∀t o,Q (.l (l.map ci) t o):=QS
def bdN{Y:ae}{x:lF}{r:AV}:lo Y [.a x.c] r=True:=by simp[lo,nA,eB,iR,lF.c]
def aXo(w:br)(t:Int)(c:A2)(P:L c.No<1000000):Ct 116 [.a w.c,iv t, .a c.c] (λr=>∃b,r=bv b/\(b=U->aYh c)):=by refine bhb rfl rfl λR N D m W=>?_;simp+contextual only[a2R,u0,u1,m,gw,ar,aj,aPA,eE,Ca,vb,↓uL];intro l;refine yV (L c.No) (λk _ Y=>Fx R Y []/\∀C,C<k->∀j∈A1 (gd c.No C),0<=j/\j<c.li) ⟨Fx.refl _ _,by simp⟩ ?_;rintro k _ Y M ⟨F,hI⟩;have A:L Y=4096:=F.len.trans N;have G:=F.kq D;have n:=F.kq m;simp only[a2U,aI,au,u0,u1,n,rk,gw,aj,y9,bh,aPA,↓uL];refine⟨λh=>⟨bA h,anu A λv T g S E=>?_⟩,λh _=>?_⟩;(focus have B:=aL h;have H:=g.kq G;have p:=g.kq n;simp+contextual only[a2S,au,u0,u1,H,p,E,ix,rk,gw,ar,Fa,aRO,aj,rr,rg,aPA,bd5,bdN,P,eE,Ca,vb,↓uL];refineλx y _=>⟨λh=>dX.1 (by simp at h;simpa using h.2.2),λ_ _ Z o=>?_⟩;refine C7 (L (A1 (gd c.No k))) (λi=>∀d,d<i->0<=gd (A1 (gd c.No k)) d/\gd (A1 (gd c.No k)) d<c.li) (by simp) λi X u=>?_;have O:L (A1 (gd c.No k))<=3:=(by unfold A1;simp only[cond_eq_ite];(repeat' split);all_goals simp);simp only[a2T,aI,au,u0,u1,gT,tf,rk,gw,p,bh,aj,ar,aRO,rr,aPA,eE,Ca,vb,↓uL];refine⟨λe=>⟨bA e,λq=>gS (aL e) (by omega) (jf u (by simp[dh] at q;exact q))⟩,λe=>?_⟩;refine dR (mk:=λ(_:Unit) i=>[iv i]) (s:=()) (s':=()) (λ_ _=>rfl) B (by omega) ⟨F.trans g,jf hI λj K=>?_⟩;obtain⟨d,f,rfl⟩:=ou K;rw[<-bT f];exact u d (C3 f (bw e)));simp at l;have z:k=L c.No:=Nat.le_antisymm M (bw h);subst z;exact⟨by omega,by omega,hI⟩
def aUg:FT:=vn aXo
def bb6{w t c Lw K}:=zZ aUg aXo w t c Lw K (j:=by simp+contextual only[ij,Nb])
def a7z:dO:=(253,aT8)::(230,a8a)::(203,aT1)::(116,aUg)::a7y
def aTB:eJ a7z:=it (By aW4 (λ_ _ _=>by simp only[Cs,aqG,aOW,Bool.and_self])) (it (rj a6L (λ_=>by simp only[Cs,aqG,aOW,Bool.and_self])) (it (rj aWT (λ_=>by simp only[Cs,aqG,aOW,Bool.and_self])) (it (By aXo) (aR1))))
def aQT:=ai @bbM<|ai @bbB<|ai @bb6<|@aRO
section
attribute[local irreducible] aX
def a8W:=bi 27 [(3,([3],[1])),(11,([4],[1])),(18,([6],[1,4,5]))]
def a0j a b R e(j:aG)(f:bu) l(k:cG)(g:fD) c:=∀_:Rg,ab 2 a b λm=>aJ a m λn=>aU (gt c 0) n λo=>ah o (ab 2 a b λp=>ao 1 a p (gt c 0) λq=>aM a q λr=>fV aPd a [r] λs=>cf s λt=>ah t (aE R a [(bv I)]) (aV (gt c 0) (iv 1) λh=>k [h]/\g [h]<g c)) (ab 0 a b λu=>fV aPd a [u] λv=>cf v λd=>bn d 3 a b λw=>aC d (fV aT1 a [w]) λx=>aC d (cf x) λy=>aD d (bv U) y λz=>ah z (aE R a [(bv I)]) (aV (gt e 0) (iv 1) λi=>j [i] a/\f [i] a<f e l))
def a0i c R e f b a:=∀_:Rg,ab 1 a c λi=>aJ a i λj=>aU (gt b 0) j λk=>ah k (ab 1 a c λl=>ao 4 a l (gt b 0) λm=>aw 4 a m λn=>eV (bs 203 aPM a 5) λd g=>sV (aK 4 g d n) λh=>lR [(iv 0)] (a0j h d R b e f a)) (ab 1 a c λo=>aJ a o λp=>aO .gtr p (iv 0) λq=>aE R a [q])
def a0k a c R(j:cG)(e:fD) b:=∀_:Rg,ab 0 a c λk=>aJ a k λl=>aU (gt b 0) l λm=>ah m (ab 0 a c λn=>ao 6 a n (gt b 0) λf=>aw 6 a f λg=>fV aT3 a [g] λh=>cf h λi=>ah i (aE R a [(bv I)]) (aV (gt b 0) (iv 1) λd=>j [d]/\e [d]<e b)) (lV [(iv 0)] a (a0i c R))
def a0f a b R:=lR [(iv 0)] (a0k b a R)
def bgu{b:List AV}{R:d7}(l0:L b=2)(h:H1 143 2 1 b λc d=>a0f c d R):Ct 171 [.a b] R:=z1 a8W aTB Tryz.func171 l0 h
def a84:=bi 9 []
def a0r d n b a R:=aw 4 a b λo=>fV aRh a [o] λp=>cf p λq=>ah q (aE R a [(iv 3)]) (aw 4 a b λr=>fV aT6 a [r] λm=>rV (eO 0 m) λe=>rV (eO 1 m) λf=>aO .gtr e (iv 24) λc=>ic c f λg=>aC c (aO .gtr g (iv 6)) λh=>aD c (bv U) h λi=>ah i (aE R a [(iv 2)]) (aw 2 a d λj=>aw 4 a b λk=>fV aT8 a [j,n,k] λl=>aE R a [l]))
def bgC{b:List AV}{d:AV}{c:List AV}{R:d7}(l0:L b=2)(g:L c=4)(h:H2 143 2 3 b 217 4 5 c λe f i=>a0r e d f i R):Ct 234 [.a b,d, .a c] R:=z2 a84 aTB Tryz.func234 l0 g h
def a9p:=bi 13 [(6,([3],[1]))]
def a1O b c R(f:cG)(d:fD) a:=∀_:Rg,ab 6 b c λg=>aJ b g λh=>aU (gt a 0) h λi=>ah i (aB 0 b c λj=>aw 6 b j λk=>ab 6 b c λl=>ao 2 b l (gt a 0) λm=>aw 2 b m λn=>fV aUg b [k,(gt a 0),n] λo=>cf o λp=>ah p (aE R b [(bv I)]) (aV (gt a 0) (iv 1) λe=>f [e]/\d [e]<d a)) (aE R b [(bv U)])
def a1N c a R:=aB 0 a c λt3=>aw 6 a t3 λt4=>fV FC a [t4] λk=>cf k λb=>bn b 6 a c λd=>aC b (aJ a d) λe=>aC b (aB 0 a c) λf=>bn b 4 a f λg=>aC b (aJ a g) λh=>aC b (aO .neq e h) λi=>aD b (bv U) i λj=>ah j (aE R a [(bv I)]) (lR [(iv 0)] (a1O a c R))
def bgX{b:List AV}{R:d7}(l0:L b=7)(h:H1 92 7 1 b λc d=>a1N c d R):Ct 70 [.a b] R:=z1 a9p aTB Tryz.func70 l0 h
end
def aWR(p:xr)(u:shP p):Ct 171 [.a p.c] (λr=>isB r):=by obtain⟨⟨A,B,C⟩,D,o⟩:=u;refine bgu rfl λw t e z=>?_;simp only[a0f];refine C7 (L p.A7) (λ_=>True) trivial λk q _=>?_;simp+contextual only[a0k,aI,au,u0,u1,e,rk,gw,aj,y9,bh,ar,Fa,aQT,rr,aNP,vb,↓uL];refine⟨λh=>⟨bA h,λb _=>gS (aL h) (by omega) trivial⟩,λ_=>?_⟩;refine yV (L p.ay) (λ_ _ Y=>Fx w Y []) (Fx.refl _ _) ?_;rintro k _ Y q F;have n:=F.kq e;have f:L Y=4096:=F.len.trans t;simp only[a0i,aI,au,u0,u1,n,rk,gw,aj,y9,bh,aNP,vb,vm,↓uL];intro h;have d:=aL h;refine⟨dJ d,anu f λv y l x m=>?_⟩;have g:=o _ (dB d);refine C7 (L (gd p.ay k).locs) (λ_=>True) trivial λj E _=>?_;simp+contextual only[a0j,aI,au,u0,u1,m,rk,gw,aj,ix,bh,ar,aQT,rr,rg,aNP,vb,↓uL];refine⟨λh=>⟨bA h,λ_=>gS (aL h) (by have:=g.1;omega) trivial⟩,λ_=>⟨λ_=>⟨4,g.2⟩,λb _=>dR (mk:=λ(_:Unit) i=>[iv i]) (s:=()) (s':=()) (λ_ _=>rfl) d (by omega) (F.trans l)⟩⟩
def aT0:FT:=om aWR
def bbz{p Lw K}:=qz aT0 aWR p Lw K (j:=by simp+contextual only[ij,Nb])
def aWY(p:xr)(t:Int)(e:fc)(f:PrB p/\∃n,C6 n e):Ct 234 [.a p.c,iv t, .a e.c] (λr=>isI r):=by refine bgC rfl aN9 λi h b d g=>?_;simp+contextual only[a0r,u0,u1,b,d,gw,ar,Fa,aQT,f,rr,aPG,vb,y6,↓uL]
def aP8:FT:=vn aWY
def bbG{p t e Lw K}:=zZ aP8 aWY p t e Lw K (j:=by simp+contextual only[ij,Nb])
def aPU(c:qt):Prop:=mQ c.aQ=U/\L c.ay=L c.aQ.ay/\∀t∈c.ay,aYh t
def aOc(c:qt):Prop:=L c.ay<1000/\∀t∈c.ay,L t.No<1000000
def aXh(c:qt)(n:aOc c):Ct 70 [.a c.c] (λr=>∃b,r=bv b/\(b=U->aPU c)):=by obtain⟨q,l⟩:=n;refine bgX rfl λv u e p=>?_;simp+contextual only[a1N,u0,u1,e,gw,aj,ar,aQT,rr,aPA,eE,Ca,vb,↓uL];intro d;refine C7 (L c.ay) (λk=>∀j,j<k->aYh (gd c.ay j)) (by simp) λk s g=>?_;simp+contextual only[a1O,aI,au,u0,u1,e,rk,gw,aj,y9,bh,ar,Fa,aQT,rr,aTv,aPA,eE,Ca,vb,↓uL];refine⟨λh=>⟨bA h,l _ (dB (aL h)),λb m f=>gS (aL h) (by omega) (jf g (m (by simpa using f)))⟩,λh _=>⟨?_,?_,?_⟩⟩;simp at d;exact d.1;simp at d;omega;intro t o;obtain⟨j,i,rfl⟩:=ou o;rw[<-bT i];exact g j (C3 i (bw h))
def aRk:FT:=om aXh
def bbZ{c Lw K}:=qz aRk aXh c Lw K (j:=by simp+contextual only[ij,Nb])
def aYb:dO:=(171,aT0)::(234,aP8)::(70,aRk)::a7z
def aTC:eJ aYb:=it (rj aWR) (it (By aWY (λ_ _ _=>by simp only[Cs,aqG,aOW,Bool.and_self])) (it (rj aXh) (aTB)))
def aQU:=ai @bbz<|ai @bbG<|ai @bbZ<|@aQT
section
attribute[local irreducible] aX
def a9e:=bi 11 [(3,([9],[0,1,2,3]))]
def a09 c u v h R g(t:aG)(m1:bu) w a:=ab 0 a c λi=>bf i u λd=>bn d 0 a c λj=>ic d v λk=>aC d (bf j k) λl=>aD d (bv U) l λb=>fm b h λm=>az b (bf m (sv [])) λn=>fm b n λe=>bn e 2 a c λo=>ic e h λp=>aC e (bf o p) λq=>az b (aD e (bv U) q) λr=>aD b r (bv I) λs=>ah s (fe R a [(bv U)]) (aV (gt g 0) (iv 1) λf=>t [f] a/\m1 [f] a<m1 g w)
def a1a d j k l R i m1 c a:=∀_:Rg,rV (cO a d) λt3=>ab 3 a t3 λm=>aJ a m λn=>aU (gt c 0) n λo=>ah o (rV (cO a d) λp=>ab 3 a p λf=>ao 11 a f (gt c 0) λg=>aw 11 a g λh=>eV (bs 219 A4 a 10) λb e=>sV (aK 11 e b h) (a09 b j k l R c i m1 a)) (fe R a [(bv I)])
def aUX a b c d s0 R:=lV [(iv 0)] s0 (a1a a b c d R)
def bfO{a b c d:AV}{s0:ae}{R:be}(h:aUX a b c d s0 R):EB 231 [a,b,c,d] s0 R:=zB a9e aTC Tryz.func231 h
def bgM{a:AV}{b:AV}{c:AV}{d:AV}{s0:ae}{R:be}(e:L s0=4096)(h:aUX a b c d s0 R):EB 231 [a,b,c,d] s0 R:=by refine bfO ?_;exact h
def a9f:=bi 56 [(12,([67],[0,3,5,6,7,8,9,30])),(17,([91],[0,3,5,6,7,8,9,30])),(24,([119],[0,3,5,6,7,8,9,30])),(51,([14],[0,3,5,6]))]
def aUZ c n o R e b:=ic c e λf=>aC c (cf f) λg=>aD c (bv U) g λa=>bn a 0 b n λh=>aC a (bf h (iv 9)) λi=>ic a i λd=>fm d o λj=>aC a (aD d j (bv I)) λk=>aD a (bv U) k λl=>fV aOS b [l] λm=>fe R b [m]
def a8o k b c l e f d g i j h R a:=dH [km,km,(bo k),(bo b),(bo c),(bo l),(bo e),(lb I [f] []),(lb I [d,g] [204]),(bo k),(bo i),(lb I [j,h] [])] [(0,7),(1,7),(2,7),(3,7),(4,7),(0,8)] (fe R a [(iv 0)])
def a1b k e f l h i g j R b a:=rV (cO a k) λc=>aB 4 a c λd=>sV (aK 1 a d b) (a8o k e f l h i g j c d b R)
def a8p r d e c g h f i k l j s t b R a:=dH [km,km,(bo r),(bo d),(bo e),(bo c),(bo g),(lb I [h] []),(lb I [f,i] [262]),(bo r),(bo k),(lb I [l,j] [])] [(0,7),(1,7),(2,7),(3,7),(4,7),(0,8)] (aw 2 a s λm=>aB 5 a c λn=>aw 4 a n λo=>fV aP8 a [m,t,o] λp=>fV aOi a [(gt b 0),p] λq=>fe R a [q])
def aU0 l f g n i j h k m o e R b a:=rV (cO a l) λc=>aB 5 a c λd=>sV (aK 1 a d b) (a8p l f g n i j h k c d b m o e R)
def a1g a k i l m R h:=∀_:Rg,rV (cO a k) λb=>aB 5 a b λc=>aM a c λd=>aB 2 a i λe=>aM a e λf=>eV (aX C9 1 a [(0,f)]) λg j=>eV (j5 9 zz9 16 j 262 d g) (aU0 k b c i e f d g l m h R)
def a1k d m b l(c:cG):=bf d (iv 0) λa=>fm a m λe=>az a (rV (cO b e)) λf=>aT a 5 b f λg=>aT a 2 b l λh=>az a (fV FB b [g,h]) λi=>az a (aO .geq i (iv 0)) λj=>aD a j (bv I) λk=>ah k (c [(iv 8)]) (c [d])
def a1f a c b g R i e k u w v:=∀_:Rg,ah (gt v 0) (aw 2 a c λy=>ab 2 a b λz=>fV aOd a [y,g,z,(iv 5),(iv 5)] λj=>aO .neq j (iv 0) λA=>ah A (fe R a [j]) (ab 0 a c λB=>ab 0 a c λC=>ab 2 a b λD=>fV aPO a [C,D] λE=>ao 6 a B E λF=>ab 5 a F λG=>cB 231 [i,(iv 4),(iv 4),G] a 142 (aUZ e b k R))) (bf u (iv 12) λH=>ah H (aw 2 a c λK=>ab 2 a b λM=>fV aOd a [K,g,M,(iv 7),(iv 7)] λl=>aO .neq l (iv 0) λN=>ah N (fe R a [l]) (ab 1 a c λO=>ab 2 a b λP=>fV aP9 a [O,P] λm=>ic e k λS=>aD e (bv U) S λn=>ic n w λT=>aD n (bv U) T λf=>ic f m λW=>ic f g λX=>aC f (bf W X) λZ=>aD f (bv U) Z λh=>ic h m λaa=>aC h (bf aa (iv 0)) λac=>aD h (bv U) ac λad=>ah ad (fe R a [(iv 7)]) (rV (cO a i) λae=>ab 4 a ae λaf=>ab 2 a b λag=>fV FB a [af,ag] λak=>aO .geq ak (iv 0) λal=>ah al (fe R a [(iv 8)]) (rV (cO a i) λo=>aB 4 a o λp=>aM a p λq=>aB 2 a b λr=>aM a r λs=>eV (aX C9 1 a [(0,s)]) λt x=>eV (j5 9 zz9 16 x 204 q t) (a1b i o p b r s q t R))))) (bf u (iv 13) λam=>ah am (aw 2 a c λan=>ab 2 a b λap=>fV aOd a [an,g,ap,(iv 7),(iv 7)] λaq=>ic e k λar=>aD e (bv U) ar λd=>bn d 1 a c λau=>bn d 2 a b λav=>aC d (fV aP9 a [au,av]) λax=>ic d g λay=>aC d (bf ax ay) λaz=>aD d (bv U) az λaA=>fV aOS a [aA] λaE=>fV aOi a [aq,aE] λaF=>fe R a [aF]) (bf u (iv 14) λaG=>ah aG (aw 2 a c λaI=>ab 2 a b λaJ=>fV aOd a [aI,g,aJ,(iv 6),(iv 6)] λaK=>ic e w λaL=>aD e (bv U) aL λaN=>fV aOS a [aN] λaP=>fV aOi a [aK,aP] λaQ=>jR 51 (a1g a i b c g R) (a1k aQ i a b)) (aw 2 a c λaR=>ab 2 a b λaT=>fV aOd a [aR,g,aT,(iv 8),(iv 8)] λaU=>aw 2 a c λaV=>ab 3 a b λaW=>fV aOd a [aV,g,aW,(iv 6),(iv 6)] λaY=>fV aOS a [e] λaZ=>fV aOi a [aY,aZ] λa1=>fV aOi a [aU,a1] λa2=>fe R a [a2]))))
def a1j b(a:cG):=bf b (iv 9) λc=>ah c (a [c]) (bf b (iv 10) λd=>ah d (a [d]) (bf b (iv 11) λe=>a [e]))
def a1e a f e r b l R c g o k:=∀_:Rg,ah (gt k 0) (aw 2 a f λp=>ab 2 a e λq=>fV aOd a [p,r,q,(iv 4),(iv 4)] λs=>ic b l λt=>bn b 2 a e λu=>gE (gP I b) (λm=>cB 231 [t,(iv 5),(iv 6),u] a 104 λv n=>m v n) a λw d=>aD b (bv U) w λx=>fV aOS d [x] λy=>fV aOi d [s,y] λz=>fe R d [z]) (bf c (iv 7) λA=>ah A (fV aOS a [b] λB=>fe R a [B]) (bf c (iv 8) λC=>ah C (ic b g λh=>aD b (bv U) h λi=>fV aOS a [i] λj=>fe R a [j]) (jR 24 (a1f a f e r R l b g c o) (a1j c))))
def a1i c(b:cG):=bf c (iv 5) λa=>ah a (b [a]) (bf c (iv 6) λd=>b [d])
def a1d a d c g R f b i l m h:=∀_:Rg,ah (gt h 0) (aw 2 a d λn=>aB 5 a c λo=>aw 4 a o λp=>fV aP8 a [n,g,p] λq=>fe R a [q]) (bf f (iv 4) λr=>ah r (aw 2 a d λs=>ab 2 a c λt=>fV aOd a [s,g,t,(iv 3),(iv 3)] λu=>ic b i λv=>bn b 2 a c λw=>gE (gP I b) (λj=>cB 231 [v,(iv 4),(iv 4),w] a 87 λx k=>j x k) a λy e=>aD b (bv U) y λz=>fV aOS e [z] λA=>fV aOi e [u,A] λB=>fe R e [B]) (jR 17 (a1e a d c g b i R f l m) (a1i f)))
def a1h c(b:cG):=bf c (iv 2) λa=>ah a (b [a]) (bf c (iv 3) λd=>b [d])
def a1c b c d R f K g h a:=ab 0 a b λe=>bf e (iv 1) λi=>ah i (ab 4 a b λj=>aJ a j λk=>bf k (iv 0) λl=>ah l (aw 2 a c λm=>ab 2 a b λn=>fV aOd a [m,d,n,(iv 8),(iv 1)] λo=>aw 2 a c λp=>aB 5 a b λq=>aw 4 a q λr=>fV aP8 a [p,d,r] λs=>fV aOi a [o,s] λt=>fe R a [t]) (aw 2 a c λu=>ab 2 a b λv=>fV aOd a [u,d,v,(iv 2),(iv 2)] λw=>aw 2 a c λx=>ab 4 a b λy=>ao 4 a y (iv 0) λz=>aw 4 a z λA=>fV aP8 a [x,d,A] λB=>aw 2 a c λC=>aB 5 a b λD=>aw 4 a D λE=>fV aP8 a [C,d,E] λF=>fV aOi a [B,F] λG=>fV aOi a [w,G] λH=>fe R a [H])) (jR 12 (a1d a c b d R e f K g h) (a1h e))
def a8q a d b g R e f c:=cB 231 [a,(iv 3),(iv 3),(sv [])] c 28 (a1c d b g R e a f)
def a8r a d b f R e c:=cB 231 [a,(iv 8),(iv 8),(sv [])] c 26 (a8q a d b f R e)
def a8s a t3 t4 f g b e d h R c:=dH [km,(bo a),(bo t3),(bo t4),km,(bo a),(bo f),(bo g),(lb I [] [5]),(lb I [b,e] []),km] [(0,8),(1,8),(2,8),(3,8),(4,8),(5,8),(6,8),(7,8),(4,9),(5,9),(6,9),(7,9)] (cB 231 [a,(iv 7),(iv 7),(sv [])] c 24 (a8r a d b h R))
def aUY c e a R:=rV (cO a c) λt3=>aB 0 a t3 λt4=>aw 2 a t4 λf=>rV (cO a c) λg=>aB 2 a g λh=>aM a h λi=>eV (bs 143 aP6 a 5) λb d=>sV (aK 2 d b f) (a8s c t3 t4 g h b f e i R)
def bfP{a b:AV}{s0:ae}{R:be}(h:eV (qm 219 11 s0 3 b) λc d=>aUY a c d R):EB 206 [a,b] s0 R:=zB a9f aTC Tryz.func206 h
def bgN{e:AV}{d:List AV}{s0:ae}{R:be}(i:L s0=4096)(l1:L d=11)(h:∀(b:ae) (c:Nat),Kp s0 b->(∀k,k≠3->aZ b k=aZ s0 k)->(∀x,box s0 (3,c)≠V x)->box b (3,c)=V ⟨219,11,U,U,[d]⟩->aUY e (.p (3,c) 0 0) b R):EB 206 [e, .a d] s0 R:=by refine bfP ?_;refine iN rfl l1 (by decide) (by decide) i λb c l g0 m f=>?_;exact h b c l (λk g=>g0 k g) (λx j=>m x ((Kp.refl _).keep _ _ j)) f
def a5F:=bi 22 [(3,([6],[0,1])),(9,([8],[0,1,6,7])),(16,([8,9],[0,1,6]))]
def a0Z a R d(f:aG)(m1:bu) g b:=aO .neq (gt a 0) (iv 0) λe=>ah e (fe R b [(gt a 0),(gt a 1)]) (aV (gt d 0) (iv 1) λc=>f [c] b/\m1 [c] b<m1 d g)
def aUV b R m n m1 o c a:=∀_:Rg,rV (cO a b) λd=>ab 3 a d λe=>rV (cO a b) λf=>ab 3 a f λg=>aJ a g λh=>aO .sub h (iv 1) λi=>rV (fo 11 a e J (V i) J) λj=>rV (cO a b) λk=>aB 3 a k λl=>sV (aK 1 a l j) (a0Z c R m n m1 o)
def a00(b:aG) a c:=rV (eO 0 a) λd=>rV (eO 1 a) λe=>b [d,e] c
def a07 c a d h e(b:aG):=bf c (iv 0) λf=>ah f (ab 10 a d λg=>cB 175 [h,g] a 59 (a00 b)) (b [c,e] a)
def a01 b R g h m1 i d a c:=rV (eO 0 a) λe=>rV (eO 1 a) λf=>jV 16 (aUV b R g h m1 i) (a07 e c d b f)
def a8n c i j b e n f m g o k p h q R s t m1 u d:=dH [km,(bo c),(bo i),(bo j),(bo b),(bo e),(lb I [(.a [(iv 0),(iv 0),(sv []),(sv []),(.l [] U U),(iv 0),(iv 0),(sv []),(.l [] U U),(.l [] U U),(.l [] U U)])] []),(lb I [e,n] [42]),(lb U [f,m] []),(lbV g o k),(bo c),(bo p),(lbV h q f)] [(0,6),(1,6),(2,6),(3,6),(4,6),(5,6),(9,10),(9,11),(8,12),(9,12)] (ab 9 d b λr=>cB 175 [c,r] d 50 (a01 c R s t m1 u b))
def a02 e b h i g j m l f n k R o p m1 q a:=rV (cO a e) λc=>aB 3 a c λd=>sV (aK 1 a d b) (a8n e h i g j m b l f n k c a d R o p m1 q)
def a03 c b m g h f i j R k l m1 n d a:=ao 11 a d c λe=>sV (aK 11 a e b) (a02 m d g h f i j c a e b R k l m1 n)
def a06 b c R i p q m1 r e:=∀_:Rg,aO .neq (gt e 0) (iv 0) λk=>ah k (ab 1 b c λm=>fe R b [(gt e 0),m]) (rV (cO b i) λf=>aB 3 b f λg=>aM b g λd=>aw 11 b c λn=>aJ b d λo=>eV (aX aNA 1 b [(0,(.a [(iv 0),(iv 0),(sv []),(sv []),(.l [] U U),(iv 0),(iv 0),(sv []),(.l [] U U),(.l [] U U),(.l [] U U)]))]) λh j=>eV (j5 219 A4 176 j 42 d h) (a03 o n i f g c d h R p q m1 r))
def a08 a i c(b:cG):=rV (cO a i) λd=>ab 3 a d λe=>aJ a e λf=>aV f (iv 1) λg=>aO .gtr g (iv 6) λh=>ah h (b [(iv 2)]) (b [c])
def a04 c R b e f m1 g d a:=jR 9 (a06 a c R b e f m1 g) (a08 a b d)
def a05 a b R e f m1 g c:=aw 11 c a λd=>cB 206 [b,d] c 22 (a04 a R b e f m1 g)
def aUW d f R e m1 b a:=∀_:Rg,aJ a d λt3=>aU (gt b 0) t3 λt4=>ah t4 (ao 11 a d (gt b 0) λh=>aw 11 a h λi=>eV (bs 219 A4 a 7) λc g=>sV (aK 11 g c i) (a05 c f R b e m1 a)) (fe R a [(iv 0),(iv 0)])
def aRq a b s0 R:=lV [(iv 0)] s0 (aUW b a R)
def bfN{a b:AV}{s0:ae}{R:be}(h:aRq a b s0 R):EB 175 [a,b] s0 R:=aTc (aBe ready (aQ9 aTC) Tryz.func175 (an:=a5F) (by kernel_rfl) (Eq.mpr (show ZB aS GGV aYb a5F Tryz.f175 [a,b] s0 R=(aRq a b s0 R) by kernel_rfl) h))
def a7S{a:AV}{b:AV}{s0:ae}{R:be}(c:L s0=4096)(h:aRq a b s0 R):EB 175 [a,b] s0 R:=by refine bfN ?_;exact h
end
def aV6{fn:Nat}{xs:List AV}{Y:ae}{d:Nat}{K:be}{P:Value->Prop}(i:uQ.elem fn=U)(h:∃r b,((∃v,r= .s v/\P v)/\Fx Y b [])/\cZ aS GG fn xs Y r b)(g:∀v,P v->K (.s v) Y):cB fn xs Y d K:=by obtain⟨r,b,⟨⟨v,rfl,j⟩,c⟩,f⟩:=h;exact aS2 i ⟨_,b,⟨rfl,c⟩,f⟩ (g v j)
section
variable{Y:ae}{e:TypeId}{z:Nat}{a:AV}{aa:List (List AV)}
def ixG{i:Int}{K:d7}(j:gm Y e z a aa)(d:aF (L aa) i)(k:∀b m,a= .m b (L aa)->box Y b=V ⟨e,z,U,I,aa++m⟩->K (.p b i.toNat 0)):rV (cz z Y a (iv i)) K:=by have f:=d.1;have g:=d.2;rcases j with⟨rfl,rfl⟩|⟨b,m,rfl,c⟩;simp at g;omega;have h:i.toNat<L aa:=(by omega);simp only[cz,f,vg,c,qd,h,y6,rV];exact k b m rfl c
def stG{b:Id}{i:Nat}{cs:List AV}{K:ae->Prop}(c:box Y b=V ⟨e,z,U,I,aa⟩)(d:i<L aa)(m:∀r∈aa,L r=z)(j:L cs=z)(k:cs.all eN=U)(l:nrm (eR Y (.a cs))= .a cs)(hI:eB (.a cs)=[])(h:∀Y',Fx Y Y' [b]->box Y' b=V ⟨e,z,U,I,aa.set i cs⟩->K Y'):sV (aK z Y (.p b i 0) (.a cs)) K:=by have f:aa[i]?=V aa[i]:=eC d;have n:aa[i].length=z:=m _ (List.getElem_mem d);have g:aK z Y (.p b i 0) (.a cs)=V (wr Y b ⟨e,z,U,I,aa.set i cs⟩):=(by simp only[aK,aBG,c,eE,aB9,hI,kills,aRl,l,pW,eY,f];rw[bX ⟨j.symm,by omega,λ_=>k⟩];simp only[CE,dW,aj];rw[List.drop_of_length_le (by omega),cL]);rw[g];exact h _ (wc c) (lO c)
def aQz{b:Id}{i j:Nat}{x:AV}{r:List AV}{K:ae->Prop}(c:box Y b=V ⟨e,z,U,I,aa⟩)(m:aa[i]?=V r)(k:j<L r)(g:eY (nrm (eR Y x))=V [nrm (eR Y x)])(h:eN (nrm (eR Y x))=U)(hI:eB x=[])(f:∀Y',Fx Y Y' [b]->box Y' b=V ⟨e,z,U,I,aa.set i (r.set j (nrm (eR Y x)))⟩->K Y'):sV (aK 1 Y (.p b i j) x) K:=by have d:aK 1 Y (.p b i j) x=V (wr Y b ⟨e,z,U,I,aa.set i (r.set j (nrm (eR Y x)))⟩):=(by simp only[aK,aBG,c,eE,aB9,hI,kills,aRl,pW,g,m,bZ,vw];rw[bX ⟨trivial,by omega,λ_=>by simp[h]⟩];rw[List.set_eq_take_append_cons_drop (l:=r),bX k];simp);rw[d];exact f _ (wc c) (lO c)
end
def bxL{e:TypeId}{z d:Nat}{cs:List AV}{Y:ae}{K:be}(h:L cs=z)(c:0<z)(b:d<L Y)(g:∀v Y',Fx Y Y' []->bK Y (d,v)->box Y' (d,v)=V ⟨e,z,U,U,[cs]⟩->K (.p (d,v) 0 0) Y'):eV (qm e z Y d (.a cs)) K:=by have f:qm e z Y d (.a cs)=V (.p (lA Y d) 0 0,put Y d ⟨e,z,U,U,[cs]⟩):=(by simp[qm,eY,h,c,y7,b]);rw[f];exact g _ _ (kH b) (qQ Y d) (iy b)
def gfP{Y:ae}{b:Id}{T e:TypeId}{z f j d by':Nat}{cs zs:List AV}{a:AV}{aa new:List (List AV)}{t o:Bool}{K:AV->be}(H:box Y b=V ⟨T,z,U,U,[cs]⟩)(P:j<L cs)(E:gm Y e f a aa)(w:b∉aA a)(W:L zs=f)(A:0<f)(M:d<L Y)(S:∀r∈aa,L r=f)(R:∀r∈new,L r=f)(D:new≠[])(v:(L aa+L new)*(by'+1)<=1099511627776)(k:b.1≠d)(G:∀c Y',box Y' b=V ⟨T,z,U,U,[cs.set j c]⟩->bc Y' e f c (aa++new)->Fx Y Y' (b::aA a)->(∀q∈aA c,bK Y q/\q.1=d)->K (.p b 0 j) c Y'):eV (j5 e zs by' Y d a (.l new t o)) λx s=>rV (iQ j s (.p b 0 0)) λy=>sV (aK 1 s y x) (K y x):=by refine qs E W A M S R D v λc Y' g F N=>?_;have n:=F.keep _ _ w H;have O:iQ j Y' (.p b 0 0)=V (.p b 0 j):=(by simp[iQ,n]);simp only[O,aY];refine A0 n g.p.ce P λB m C=>?_;have u:b∉aA c:=λi=>k (N b i).2;refine G c B C (g.fx m λq i e=>u (by simp at e;subst e;exact i)) ((F.trans m).mono λq i=>?_) N;rcases dF.1 i with h|h;exact .inl (zu _ h);simp at h;subst h;exact .inl (by simp)
def bfa{α:Type}{l:List α}{x y:α}:(l++[x]).set (L l) y=l++[y]:=by rw[List.set_append_right _ _ (Nat.le_refl _)];simp
structure Wk(Y:ae)(b:Id)(p:xr)(al:List eo)(n:Nat)(a s t:AV):Prop where
 bx:∃th:Int,box Y b=V ⟨254,6,U,U,[[sl w6.c p.A7,sl xt.c p.ay,iv th,a,s,t]]⟩
 ga:gm Y 219 11 a (al.map eo.c)
 gs:∃l:List ByteArray,gm Y 9 1 s (l.map cs)/\L l<=n
 gt:∃l:List ByteArray,gm Y 9 1 t (l.map cs)/\L l<=n
 la:L al<=6
 le:L Y=4096
 sb:b.1=60
 sa:∀q∈aA a,q.1=42
 ss:∀q∈aA s,q.1=204
 st:∀q∈aA t,q.1=262
section
variable{Y Y':ae}{b:Id}{p:xr}{al:List eo}{n:Nat}{a s t:AV}
def Wk.fx{ks:List Id}(W:Wk Y b p al n a s t)(F:Fx Y Y' ks)(d:b∉ks)(e:∀q∈aA a,q∉ks)(f:∀q∈aA s,q∉ks)(h:∀q∈aA t,q∉ks):Wk Y' b p al n a s t:=by obtain⟨o,i⟩:=W.bx;obtain⟨l,g,j⟩:=W.gs;obtain⟨m,c,k⟩:=W.gt;exact⟨⟨o,F.keep _ _ d i⟩,W.ga.fx F e,⟨l,g.fx F f,j⟩,⟨m,c.fx F h,k⟩,W.la,F.len.trans W.le,W.sb,W.sa,W.ss,W.st⟩
def Wk.fx0(W:Wk Y b p al n a s t)(F:Fx Y Y' []):Wk Y' b p al n a s t:=W.fx F (by simp) (by simp) (by simp) (by simp)
def Wk.mono{m:Nat}(W:Wk Y b p al n a s t)(h:n<=m):Wk Y b p al m a s t:=by obtain⟨l,g,e⟩:=W.gs;obtain⟨k,c,d⟩:=W.gt;exact⟨W.bx,W.ga,⟨l,g,by omega⟩,⟨k,c,by omega⟩,W.la,W.le,W.sb,W.sa,W.ss,W.st⟩
def ixL{i:Int}{K:d7}{α:Type}[Inhabited α]{f:α->List AV}{l:List α}{z:Nat}{e:TypeId}(h:gm Y e z a (l.map f))(d:aF (L l) i)(A:∀x,L (f x)=z)(k:∀y,(∀q,kb q Y y=aN q (f (gd l i.toNat)))->(∀j q,rV (iQ j Y y) q=q (match y with| .p b o r=> .p b o (r+j)|y=>y))->K y):rV (cz z Y a (iv i)) K:=by refine ixG h (by simpa using d) λb m w g=>k _ (λq=>?_) (λj q=>?_);have u:=d.1;have v:=d.2;have c:i.toNat<L l:=(by omega);have:(l.map f++m)[i.toNat]?=V (f (gd l i.toNat)):=(by rw[xe (by simpa using c),ve,eC c,bT c];rfl);simp[kb,iE,g,this];simp[iQ,g,rV]
def bdi(W:Wk Y b p al n a s t)(x y:Int)(q:ByteArray):∃r c,((∃v,r= .s v/\∃u:Bool,v= .bool u)/\Fx Y c [])/\cZ aS GG 231 [.p b 0 0,iv x,iv y,st q] Y r c:=by refine bgM W.le ?_;simp only[aUX];refine yV (L al) (λ_ _ Y'=>Fx Y Y' []) (Fx.refl _ _) ?_;rintro k _ c B F;have e:=W.fx0 F;obtain⟨C,g⟩:=e.bx;have j:∀u Y',Fx Y Y' []->fe (λr c=>(∃v,r= .s v/\∃u:Bool,v= .bool u)/\Fx Y c []) Y' [bv u]:=λu Y' d=>⟨⟨_,rfl,u,rfl⟩,d⟩;simp only[a1a,aI,au,oo g,u0,u1,g,gw,aj,e.ga.ln,bJ,↓uL];refine⟨λh=>?_,λ_=>j _ _ F⟩;have f:=aL h;refine ixL e.ga (dJ f) (λ_=>WV) λD o _=>?_;simp only[o,bh,gw,aY];refine aRA rfl WV (by decide) (by rw[e.le];decide) λv A l z m=>?_;have d:=F.trans l;simp+contextual only[a09,au,u0,u1,m,gw,aj,j _ _ d,vb,mn,↓uL];have w:=W.la;exactλ_=>dR (mk:=λ(_:Unit) i=>[iv i]) (s:=()) (s':=()) (λ_ _=>rfl) f (by omega) d
def aRE(W:Wk Y b p al n a s t){x y:Int}{c:ByteArray}{d:Nat}{K:be}(e:∀u:Bool,K (bv u) Y):cB 231 [.p b 0 0,iv x,iv y,st c] Y d K:=aV6 rfl (bdi W x y c) (by rintro v ⟨u,rfl⟩;exact e u)
def aPr(Y:ae)(b:Id)(p:xr)(al:List eo)(n:Nat)(a s t:AV)(r:AV)(c:ae):Prop:=∃(e:Int) (s' d:AV),r=iv e/\Wk c b p al (n+1) a s' d/\Fx Y c (b::(aA s++aA t))/\(∀q∈aA s',q∈aA s\/bK Y q)/\∀q∈aA d,q∈aA t\/bK Y q
def aPr.no(W:Wk Y b p al n a s t)(F:Fx Y Y' [])(e:Int):aPr Y b p al n a s t (iv e) Y':=⟨e,s,t,rfl,(W.fx0 F).mono (by omega),F.mono (by simp),λ_ h=> .inl h,λ_ h=> .inl h⟩
def bd6{Q:d7}:(∀r,(∃k:Int,r=iv k)->Q r)=∀k,Q (iv k):=a65
def a52{x:ByteArray}:aX C9 1 Y [(0,st x)]=V (.l ([x].map cs) U U,Y):=iz
set_option maxHeartbeats 8000000 in
def bdl(W:Wk Y b p al n a s t)(X:PrB p){m:Nat}{x:eo}(hx:A5 m x)(hn:n<100000):∃r Y1,aPr Y b p al n a s t r Y1/\cZ aS GG 206 [.p b 0 0, .a x.c] Y r Y1:=by have hw:=W;have ha:=hx.at;obtain⟨b1,z⟩:=b;obtain rfl:b1=60:=W.sb;refine bgN W.le WV λs2 v3 K2 bc nf2 b3=>?_;have F2:Fx Y s2 []:=K2.fx [];have W2:=W.fx0 F2;obtain⟨th,H⟩:=W2.bx;have rp:∀{l:List AV},aN (V 2) (sl w6.c p.A7::sl xt.c p.ay::l)=V (.a p.c):=rfl;simp only[aUY,oo H,u0,u1,H,rp,gw,aj,↓uL];refine anu W2.le λv5 A K a4 b5=>?_;have f:=W2.fx0 K;have c3:=K.kq b3;have F:=F2.trans K;obtain⟨th,H⟩:=f.bx;have bb:cO A (.p (60,z) 0 0)=V (.p (60,z) 0 0):=oo H;obtain⟨ls,S,a9⟩:=f.gs;obtain⟨lt,O,ba⟩:=f.gt;have aV:dG A s=sl Ab.cs ls:=S.ar;have aW:dG A t=sl Ab.cs lt:=O.ar;refine dT (by first|rfl|(simp[eL,okT,tok,lb,cq,Qh,cD,dC,pP,dK];done)) ?_;refine aRE f λtx=>?_;refine aRE f λav=>?_;refine aRE f λlp=>?_;have dn:∀e:Int,fe (aPr Y (60,z) p al n a s t) A [iv e]:=λe=>aPr.no W F e;have hI:∀y∈x.index,∃n,C6 n y:=λy hy=>⟨2,ha.2.2.1 y hy⟩;have hX:x.op=1\/x.op=2\/x.op=3\/x.op=14->∃n,C6 n x.expr:=λh=>⟨2,ha.1 h⟩;have aD:=aTb (p:=λi=>Q ((gd p.A7 i).name=x.name)) (n:=L p.A7);have aw:(x.op=1\/x.op=2\/x.op=3\/x.op=4\/x.op=5\/x.op=6\/x.op=7\/x.op=8\/x.op=9\/x.op=10\/x.op=11\/x.op=12\/x.op=13\/x.op=14)\/(x.op≠1/\x.op≠2/\x.op≠3/\x.op≠4/\x.op≠5/\x.op≠6/\x.op≠7/\x.op≠8/\x.op≠9/\x.op≠10/\x.op≠11/\x.op≠12/\x.op≠13/\x.op≠14):=(by omega);have a0:∀(i j:Int) (d:Nat) (k:Int),gF (!tx) (λk=>cB 231 [AV.p (60,z) 0 0,iv i,iv j,st x.name] A d λaM aK=>k aM aK) A λaO E=>rV (mL (bv tx) (bv U) aO) λaa=>fW aOS [dG E aa] (lo E [aa]) λab=>fW aOi [AV.s (Value.int dq k),dG E ab] (lo E [iv k,ab]) λaP=>fe (aPr Y (60,z) p al n a s t) E [aP]:=(by intro i j d k;(cases tx);simp only[Bool.not_false,gF,aly];refine aRE f λu=>?_;simp only[u0,ar,aQU,dn,y6];simp only[gF,Bool.not_true,aIc,ya,u0,ar,aQU,dn,y6]);have G:∀k:Int,(k=0->0<=aOB p.A7 x.name)->(decide ¬k=0)=I->L p.A7<4611686018427387904/\aF (L p.A7) (aOB p.A7 x.name)/\cB 231 [AV.p (60,z) 0 0,iv 4,iv 4,st (gd p.A7 (aOB p.A7 x.name).toNat).on] A 142 (aUZ (bv tx) (AV.p (3,v3) 0 0) (bv av) (aPr Y (60,z) p al n a s t)):=(by intro k hk T;have aG:k=0:=(by simp at T;exact T);refine⟨by have:=X.1;omega,⟨hk aG,aD.2⟩,aRE f λu=>?_⟩;cases tx<;>cases u<;>simp+contextual only[aUZ,u0,u1,c3,gw,aj,ar,aQU,dn,ya,Aa,jA,jN,y6,↓uL]);simp only[a1c,u0,u1,c3,gw,aj,↓uL];rcases aw with(h|h|h|h|h|h|h|h|h|h|h|h|h|h)|⟨g1,g2,g3,g4,g5,g6,g7,g8,g9,a5,a6,D,a7,a8⟩;(all_goals(try have aB:=hX (by omega));simp+contextual only[a1g,a1k,a1f,a1j,a1e,a1i,a1d,a1h,f8,aI,au,u0,u1,rk,gw,ar,Fa,aQU,aj,rr,y9,Gx, *,aNV,aNE,Int.reduceEq,aNQ,↓iC,↓iB,aXX,bd6,vb,vm,eE,sr,Ca,O9,↓uL]);intro T k;have:0<L x.index:=aqS.2 (by simpa using T);exact⟨⟨by omega,by omega⟩,hI _ (dB this)⟩;exact G;exact G;exact G;intro k hk;refine⟨by have:=X.2.1;omega,λ_=>⟨by omega,λ_=>?_⟩⟩;simp only[a52,bQ];refine apQ S f.le oX oX (by simp) (by simp;omega) λs' aJ D o B=>?_;have w:=o.keep _ _ (λg=>by have:=f.ss _ g;simp at this) H;simp only[a1b,oo w,u0,u1,w,aj,↓uL];refine A0 w D.p.ce (by simp) λZ v M=>?_;refine dT (by first|rfl|(simp[eL,okT,tok,lb,cq,Qh,cD,dC,pP,dK];done)) ?_;have P:∀q∈aA s',q∉[((60,z):Id)]:=λq g e=>(by have:=(B q g).2;simp at e;subst e;simp at this);refine⟨0,s',t,rfl,⟨⟨th,M⟩,(f.ga.fx o (λq g C=>by have:=f.sa q g;have:=f.ss q C;omega)).fx v (λq g e=>by have:=f.sa q g;simp at e;subst e;simp at this),⟨ls++[x.name],by rw[dg];exact D.p.fx v P,by simp;omega⟩,⟨lt,(O.fx o (λq g C=>by have:=f.st q g;have:=f.ss q C;omega)).fx v (λq g e=>by have:=f.st q g;simp at e;subst e;simp at this),by omega⟩,f.la,v.len.trans (o.len.trans f.le),rfl,f.sa,λq g=>(B q g).2,f.st⟩,((F.trans o).trans v).mono (λq g=> .inl ?_),λq g=> .inr ((B q g).1.old F),λq g=> .inl g⟩;simp only[dW,dF,eW] at g⊢;rcases g with h|h;exact .inr (.inl h);exact .inl (by simpa using h);intro k _;have:=X.2.1;omega;have N:∀ac e0:Int,eV (aX C9 1 A [(0,st x.name)]) λR am=>eV (j5 9 zz9 16 am 262 t R) (aU0 (AV.p (60,z) 0 0) (AV.p (60,z) 0 0) (AV.p (60,z) 0 5) (AV.p (3,v3) 0 0) (AV.p (3,v3) 0 2) (st x.name) t R (AV.p (5,v5) 0 0) (iv ac) [iv e0] (aPr Y (60,z) p al n a s t)):=(by intro ac e0;simp only[a52,bQ];refine apQ O f.le oX oX (by simp) (by simp;omega) λt' aJ D o B=>?_;have w:=o.keep _ _ (λg=>by have:=f.st _ g;simp at this) H;have d3:=o.keep _ _ (λg=>by have:=f.st _ g;simp at this) c3;have d5:=o.keep _ _ (λg=>by have:=f.st _ g;simp at this) b5;simp only[aU0,oo w,u0,u1,w,aj,↓uL];refine A0 w D.p.ce (by simp) λZ v M=>?_;have d3:=v.kq d3;have d5:=v.kq d5;refine dT (by first|rfl|(simp[eL,okT,tok,lb,cq,Qh,cD,dC,pP,dK];done)) ?_;have P:∀q∈aA t',q∉[((60,z):Id)]:=λq g e=>(by have:=(B q g).2;simp at e;subst e;simp at this);have az:∀e:Int,aPr Y (60,z) p al n a s t (iv e) Z:=(by intro e;refine⟨e,s,t',rfl,⟨⟨th,M⟩,(f.ga.fx o (λq g C=>by have:=f.sa q g;have:=f.st q C;omega)).fx v (λq g e=>by have:=f.sa q g;simp at e;subst e;simp at this),⟨ls,(S.fx o (λq g C=>by have:=f.ss q g;have:=f.st q C;omega)).fx v (λq g e=>by have:=f.ss q g;simp at e;subst e;simp at this),by omega⟩,⟨lt++[x.name],by rw[dg];exact D.p.fx v P,by simp;omega⟩,f.la,v.len.trans (o.len.trans f.le),rfl,f.sa,f.ss,λq g=>(B q g).2⟩,((F.trans o).trans v).mono (λq g=> .inl ?_),λq g=> .inl g,λq g=> .inr ((B q g).1.old F)⟩;simp only[dW,dF,eW] at g⊢;rcases g with h|h;exact .inr (.inr h);exact .inl (by simpa using h));simp only[u0,u1,d3,d5,gw,aj,ar,Fa,aQU,X,aB,rr,y6,↓uL];exactλ_=>az _);exactλk=>⟨λ_=>by omega,λ_=>N _ _,λ_=>N _ _⟩
def baX(W:Wk Y b p al n a s t)(l:PrB p){m:Nat}{x:eo}(v:A5 m x)(u:n<100000){d:Nat}{K:be}(o:∀(e:Int) (s' g:AV) f,Wk f b p al (n+1) a s' g->Fx Y f (b::(aA s++aA t))->(∀q∈aA s',q∈aA s\/bK Y q)->(∀q∈aA g,q∈aA t\/bK Y q)->K (iv e) f):cB 206 [.p b 0 0, .a x.c] Y d K:=by refine jH rfl (bdl W l v u) ?_;rintro r f ⟨e,s',g,rfl,i,h,j,k⟩;exact⟨h.len,o e s' g f i h j k⟩
def bS:Nat->Nat|0=>0|m+1=>1+8*bS m
def aR9(Y:ae)(b:Id)(p:xr)(al:List eo)(n:Nat)(a s t:AV)(r:AV)(c:ae):Prop:=∃(e l:Int) (d s' f:AV),r= .t [iv e,iv l]/\Wk c b p al n d s' f/\Fx Y c (b::(aA a++(aA s++aA t)))/\(∀q∈aA d,q∈aA a\/bK Y q)/\(∀q∈aA s',q∈aA s\/bK Y q)/\∀q∈aA f,q∈aA t\/bK Y q
def bc8(hB:PrB p):∀(m:Nat) {Y:ae} {al:List eo} {n:Nat} {a s t:AV} {l:List eo},Wk Y b p al n a s t->shL m 8 l->n+L l*bS m<100000->
  ∃r Y1,aR9 Y b p al (n+L l*bS m) a s t r Y1/\cZ aS GG 175 [.p b 0 0,sl eo.c l] Y r Y1:=by
 intro m
 induction m with
 |zero=>
  intro Y al n a s t l W hs hn
  have:l=[]:=List.eq_nil_iff_forall_not_mem.2 λx hx=>hs.2 x hx
  subst this
  refine a7S W.le ?_
  simp only[aRq]
  refine yV 0 (λ_ _ Y'=>Y'=Y) rfl ?_
  rintro k _ Y1 hk rfl
  simp only[aUW,aI,au,u0,u1,vw,↓uL]
  refine⟨λh=>by simp at h;omega,λ_=>⟨0,0,a,s,t,rfl,W.mono (by omega),Fx.refl _ _,λ_ h=> .inl h,λ_ h=> .inl h,λ_ h=> .inl h⟩⟩
 |succ m ih=>
  intro Y al n a s t l W hs hn
  obtain⟨b1,g⟩:=b
  obtain rfl:b1=60:=W.sb
  refine a7S W.le ?_
  simp only[aRq]
  refine yV (L l) (λk _ Y'=>∃A s' B,Wk Y' (60,g) p al (n+k*bS (m+1)) A s' B/\Fx Y Y' ((60,g)::(aA a++(aA s++aA t)))/\(∀q∈aA A,q∈aA a\/bK Y q)/\(∀q∈aA s',q∈aA s\/bK Y q)/\∀q∈aA B,q∈aA t\/bK Y q) ⟨a,s,t,by simpa using W,Fx.refl _ _,λ_ h=> .inl h,λ_ h=> .inl h,λ_ h=> .inl h⟩ ?_
  rintro k _ Y1 hk ⟨a1,s1,t1,W1,F1,i1,i2,i3⟩
  have cm:k*bS (m+1)<=L l*bS (m+1):=qo _ hk
  have ah:∀(e w:Int) (A s' B:AV) Y',Wk Y' (60,g) p al (n+L l*bS (m+1)) A s' B->Fx Y Y' ((60,g)::(aA a++(aA s++aA t)))->(∀q∈aA A,q∈aA a\/bK Y q)->(∀q∈aA s',q∈aA s\/bK Y q)->(∀q∈aA B,q∈aA t\/bK Y q)->fe (aR9 Y (60,g) p al (n+L l*bS (m+1)) a s t) Y' [iv e,iv w]:=λe w A s' B Y' h1 h2 h3 h4 h5=>⟨e,w,A,s',B,rfl,h1,h2,h3,h4,h5⟩
  simp only[aUW,aI,au,u0,u1,y9,bh,rr,gw,↓uL]
  refine⟨λh=>⟨bA h,aRA rfl WV (by decide) (by rw[W1.le];decide) λv s2 F2 N2 aP=>?_⟩,λ_=>ah _ _ _ _ _ _ (W1.mono (by omega)) F1 i1 i2 i3⟩
  have ar:=aL h
  have W2:=W1.fx0 F2
  have hx:=hs.2 _ (dB ar)
  obtain⟨m',cF,g1,g2⟩:=hx.body
  obtain rfl:m=m':=by omega
  have bU:n+k*bS (m+1)+(1+8*bS m)<=n+L l*bS (m+1):=by
   have h9:(k+1)*bS (m+1)<=L l*bS (m+1):=qo _ ar
   rw[tN] at h9
   have:bS (m+1)=1+8*bS m:=rfl
   omega
  have n7:∀{A s' B:AV} {Y':ae} {bt:List eo} {n':Nat},Wk Y' (60,g) p bt n' A s' B->∀(v:Nat),((7,v):Id)∉((60,g):Id)::(aA A++(aA s'++aA B)):=λW v j=>by
   simp only[eW,dF,iK] at j
   rcases j with h|h|h|h
   ·omega
   ·have:=W.sa _ h;simp at this
   ·have:=W.ss _ h;simp at this
   ·have:=W.st _ h;simp at this
  generalize cG:gd l k=x at*
  simp only[a05,u0,u1,aP,gw,↓uL]
  refine baX W2 hB hx (by omega) λe s3 t3 Y3 o F3 j2 j3=>?_
  have b3:=F3.keep _ _ (λj=>n7 W2 v (by simp only[eW,dF] at j⊢;rcases j with h|h|h;exact .inl h;exact .inr (.inr (.inl h));exact .inr (.inr (.inr h)))) aP
  have aa:Fx Y Y3 ((60,g)::(aA a++(aA s++aA t))):=((F1.trans F2).trans F3).mono λq j=>by
   simp only[dF,eW,ql,C8] at j⊢
   rcases j with(h|h|h|h)|h|h|h
   ·exact .inl (.inl h)
   ·exact .inl (.inr (.inl h))
   ·exact .inl (.inr (.inr (.inl h)))
   ·exact .inl (.inr (.inr (.inr h)))
   ·exact .inl (.inl h)
   ·exact(i2 q h).elim (λh=> .inl (.inr (.inr (.inl h)))) λh=> .inr h.no
   ·exact(i3 q h).elim (λh=> .inl (.inr (.inr (.inr h)))) λh=> .inr h.no
  have aV:∀q∈aA s3,q∈aA s\/bK Y q:=λq j=>(j2 q j).elim (i2 q) λh=> .inr ((h.old F2).old F1)
  have aW:∀q∈aA t3,q∈aA t\/bK Y q:=λq j=>(j3 q j).elim (i3 q) λh=> .inr ((h.old F2).old F1)
  obtain⟨th,an⟩:=o.bx
  have bB:=o.la
  have ew:dq.wrap ((L al:Int)+1)=((L al+1:Nat):Int):=fX (by omega)
  simp+contextual only[a04,f8,a08,a06,aI,au,oo an,u0,u1,an,yr,C5,yd,o.ga.ln,bJ,b3,gw,aj,ew,Int.reduceEq,aNQ,bdT,aNV,↓iC,↓uL]
  have af:∀(e w:Int),fe (aR9 Y (60,g) p al (n+L l*bS (m+1)) a s t) Y3 [iv e,iv w]:=λe w=>ah e w _ _ _ _ (o.mono (by omega)) aa i1 aV aW
  refine⟨λ_=>af _ _,λh6=>⟨λ_=>af _ _,λ_=>?_⟩⟩
  have cA:L al+1<=6:=by simp at h6;omega
  have bF:aX aNA 1 Y3 [(0,(.a [(iv 0),(iv 0),(sv []),(sv []),(.l [] U U),(iv 0),(iv 0),(sv []),(.l [] U U),(.l [] U U),(.l [] U U)]))]=V (.l [aNA] U U,Y3):=by kernel_rfl
  simp only[bF,bQ]
  refine apQ o.ga o.le (qW λ_=>WV) (by simp) (by simp) (by simp;omega) λa4 Y4 g4 F4 N4=>?_
  rcases g4 with⟨h8,_⟩|⟨q,bz,j⟩
  ·simp at h8
  subst bz
  have aR:q.1=42:=(N4 q (by simp[aA])).2
  have aU:=(N4 q (by simp[aA])).1
  obtain⟨q1,q2⟩:=q
  simp only at aR
  subst aR
  have na:∀{u:Nat} {r:Nat},r≠42->((r,u):Id)∉aA a1:=λf j=>f (o.sa _ j)
  have b4:=F4.keep _ _ (na (by decide)) b3
  have bC:=F4.keep _ _ (na (by decide)) an
  have aF:L (al.map eo.c++[aNA])=L al+1:=by simp
  have bG:∀{K:d7},K (.p (42,q2) (L al) 0)->rV (cz 11 Y4 (.m (42,q2) (L (al.map eo.c++[aNA]))) (iv (L al:Int))) K:=λ{K} hK=>by
   simp only[cz,Int.natCast_nonneg,vg,j,qd,bh,aF,Nat.lt_succ_self,y6,rV]
   exact hK
  simp only[a03,↓uL]
  refine bG ?_
  refine stG j (by simp) (by intro r f;simp only[dF,List.mem_map,cE] at f;rcases f with⟨y,_,rfl⟩|rfl;exact WV;rfl) WV (by rw[apT];rfl) (by rw[apT];rfl) (by rw[apT];rfl) λY5 F5 aT=>?_
  have bc:(al.map eo.c++[aNA]).set (L al) (eo.c x)=(al++[x]).map eo.c:=by
   have:=bfa (l:=al.map eo.c) (x:=aNA) (y:=eo.c x)
   rw[bJ] at this
   rw[this];simp
  rw[bc] at aT
  have b5:=F5.kq b4
  have T:=F5.kq bC
  simp only[a02,oo T,u0,u1,T,aj,↓uL]
  refine A0 T rfl (by simp) λY6 F6 bD=>?_
  have b6:=F6.kq b5
  have bL:=F6.kq aT
  have bI:cD (.a x.c)=[]:=by rw[apT];rfl
  refine dT (by simp only[lbV,aBG,T,j,vg,eE,aB9,Cz,RN,bI];simp[eL,lb,cD,dC,dK]) ?_
  have ab:Fx Y3 Y6 (aA a1++[(60,g)]):=((F4.trans F5).trans F6).mono λr f=>by
   simp only[dF,cE] at f⊢
   rcases f with(h|h)|h
   ·exact .inl (.inl h)
   ·subst h;exact .inr aU.no
   ·exact .inl (.inr h)
  have bn:Fx Y Y6 ((60,g)::(aA a++(aA s++aA t))):=(aa.trans ab).mono λr f=>by
   rcases dF.1 f with h|h
   ·exact .inl h
   ·rcases dF.1 h with h|h
    ·rcases i1 r h with h|h
     ·exact .inl (by simp[h])
     ·exact .inr h.no
    ·exact .inl (by simp at h;simp[h])
  have aQ:∀r:Id,r.1≠42->r.1≠60->r∉aA a1++[((60,g):Id)]:=λr h1 h2 f=>by
   rcases dF.1 f with h|h
   ·exact h1 (o.sa r h)
   ·simp at h;subst h;exact h2 rfl
  obtain⟨ls,gs,aq⟩:=o.gs
  obtain⟨lt,am,S⟩:=o.gt
  have W6:Wk Y6 (60,g) p (al++[x]) (n+k*bS (m+1)+1) (.m (42,q2) (L (al.map eo.c++[aNA]))) s3 t3:=by
   refine⟨⟨th,bD⟩, .inr ⟨(42,q2),[],by simp,by simpa using bL⟩,⟨ls,gs.fx ab (λr f=>aQ r (by rw[o.ss r f];decide) (by rw[o.ss r f];decide)),aq⟩,⟨lt,am.fx ab (λr f=>aQ r (by rw[o.st r f];decide) (by rw[o.st r f];decide)),S⟩,by simp;omega,F6.len.trans (F5.len.trans (F4.len.trans o.le)),rfl,by simp[aA],o.ss,o.st⟩
  have bk:bK Y (42,q2):=aU.old aa
  have av:∀(e w:Int) {D:ae} {N:Nat} {M F G:AV},Wk D (60,g) p (al++[x]) N M F G->N<=n+k*bS (m+1)+(1+8*bS m)->Fx Y D ((60,g)::(aA a++(aA s++aA t)))->(∀q∈aA M,q∈aA a\/bK Y q)->(∀q∈aA F,q∈aA s\/bK Y q)->(∀q∈aA G,q∈aA t\/bK Y q)->
    aUV (.p (60,g) 0 0) (aR9 Y (60,g) p al (n+L l*bS (m+1)) a s t) [iv k] (yI (λ(_:Unit) i=>[iv i]) (L l) λk (_:Unit) Y'=>∃A s' B,Wk Y' (60,g) p al (n+k*bS (m+1)) A s' B/\Fx Y Y' ((60,g)::(aA a++(aA s++aA t)))/\(∀(q:Id),q∈aA A->q∈aA a\/bK Y q)/\(∀(q:Id),q∈aA s'->q∈aA s\/bK Y q)/\∀(q:Id),q∈aA B->q∈aA t\/bK Y q) (gM 0 (L l)) Y1 [iv e,iv w] D:=by
   intro e w D N M F G z hN Z X O P
   obtain⟨th,ao⟩:=z.bx
   have e1:dq.wrap (((L al+1:Nat):Int)-1)=(L al:Int):=by rw[eM (by omega) (by omega)];omega
   simp only[aUV,aI,oo ao,u0,u1,ao,yr,C5,yd,aj,z.ga.ln,bJ,P8,bZ,vw,e1,↓uL]
   refine slP z.ga (by omega) (by simp;omega) λH g9 i9=>?_
   have ht:((al++[x]).map eo.c).take ((L al:Int).toNat)=al.map eo.c:=by simp
   rw[ht] at g9
   refine A0 ao g9.ce (by simp) λE C b9=>?_
   have d9:∀r:Id,r.1≠60->r∉[((60,g):Id)]:=λr h f=>by simp at f;subst f;exact h rfl
   obtain⟨ls,gs,aq⟩:=z.gs
   obtain⟨lt,am,S⟩:=z.gt
   have R:Wk E (60,g) p al N H F G:=⟨⟨th,b9⟩,g9.fx C (λr f=>d9 r (by rw[z.sa r (i9▸f)];decide)),⟨ls,gs.fx C (λr f=>d9 r (by rw[z.ss r f];decide)),aq⟩,⟨lt,am.fx C (λr f=>d9 r (by rw[z.st r f];decide)),S⟩,bB,C.len.trans z.le,rfl,λr f=>z.sa r (i9▸f),z.ss,z.st⟩
   have aO:Fx Y E ((60,g)::(aA a++(aA s++aA t))):=(Z.trans C).mono λr f=>by
    rcases dF.1 f with h|h
    ·exact .inl h
    ·exact .inl (by simp at h;simp[h])
   have u9:∀q∈aA H,q∈aA a\/bK Y q:=λr f=>X r (i9▸f)
   simp only[a0Z,au,u0,u1,↓uL]
   refine⟨λ_=>ah _ _ _ _ _ _ (R.mono (by omega)) aO u9 O P,λ_=>?_⟩
   refine dR (mk:=λ(_:Unit) i=>[iv i]) (s:=()) (s':=()) (λ_ _=>rfl) ar (by have:=hs.1;omega) ⟨H,F,G,R.mono ?_,aO,u9,O,P⟩
   rw[tN]
   have:bS (m+1)=1+8*bS m:=rfl
   omega
  have ag:∀{D:ae} {N:Nat} {M F G:AV} {l':List eo} {d:Nat} {K:be},Wk D (60,g) p (al++[x]) N M F G->shL m 4 l'->N<=n+k*bS (m+1)+(1+4*bS m)->Fx Y D ((60,g)::(aA a++(aA s++aA t)))->(∀q∈aA M,q∈aA a\/bK Y q)->(∀q∈aA F,q∈aA s\/bK Y q)->(∀q∈aA G,q∈aA t\/bK Y q)->
    (∀(e w:Int) (H s9 t9:AV) (E:ae),Wk E (60,g) p (al++[x]) (N+4*bS m) H s9 t9->Fx D E ((60,g)::(aA M++(aA F++aA G)))->Fx Y E ((60,g)::(aA a++(aA s++aA t)))->(∀q∈aA H,q∈aA a\/bK Y q)->(∀q∈aA s9,q∈aA s\/bK Y q)->(∀q∈aA t9,q∈aA t\/bK Y q)->K (.t [iv e,iv w]) E)->cB 175 [.p (60,g) 0 0,sl eo.c l'] D d K:=by
   intro D N M F G l' d K z ap hN Z X O P hK
   have h4:L l'*bS m<=4*bS m:=qo _ ap.1
   refine jH rfl (ih z ⟨by have:=ap.1;omega,ap.2⟩ (by omega)) ?_
   rintro r E ⟨e,w,H,s9,t9,rfl,R,C,v1,v2,v3⟩
   refine⟨C.len,hK e w H s9 t9 E (R.mono (by omega)) C ((Z.trans C).mono λr f=>?_) (λq j=>(v1 q j).elim (X q) λh=> .inr (h.old Z)) (λq j=>(v2 q j).elim (O q) λh=> .inr (h.old Z)) (λq j=>(v3 q j).elim (P q) λh=> .inr (h.old Z))⟩
   rcases dF.1 f with h|h
   ·exact .inl h
   ·simp only[eW,dF] at h⊢
    rcases h with h|h|h|h
    ·exact .inl (.inl h)
    ·exact(X r h).elim (λh=> .inl (.inr (.inl h))) λh=> .inr h.no
    ·exact(O r h).elim (λh=> .inl (.inr (.inr (.inl h)))) λh=> .inr h.no
    ·exact(P r h).elim (λh=> .inl (.inr (.inr (.inr h)))) λh=> .inr h.no
  simp only[u0,u1,b6,gw,aj,↓uL]
  refine ag W6 g1 (by omega) bn (by simp[aA];exact .inr bk) aV aW λe' w H s9 t9 E R G9 C v1 v2 v3=>?_
  have b9:=G9.keep _ _ (n7 W6 v) b6
  simp only[a01,rr,aY,di,a07,u0,u1,b9,gw,aj,↓uL]
  refine⟨λ_=>?_,λ_=>av _ _ R (by omega) C v1 v2 v3⟩
  refine ag R g2 (by omega) C v1 v2 v3 λe2 cH cy cI cJ cx bq cw bm w1 w2 w3=>?_
  simp only[a00,rr,aY]
  exact av _ _ bq (by omega) bm w1 w2 w3
def baR(w:PrB p){m:Nat}{l:List eo}(W:Wk Y b p al n a s t)(z:shL m 8 l)(y:n+L l*bS m<100000){d:Nat}{K:be}(x:∀(e i:Int) (g s' h:AV) f,Wk f b p al (n+L l*bS m) g s' h->Fx Y f (b::(aA a++(aA s++aA t)))->(∀q∈aA g,q∈aA a\/bK Y q)->(∀q∈aA s',q∈aA s\/bK Y q)->(∀q∈aA h,q∈aA t\/bK Y q)->K (.t [iv e,iv i]) f):cB 175 [.p b 0 0,sl eo.c l] Y d K:=by refine jH rfl (bc8 w m W z y) ?_;rintro r f ⟨e,i,g,s',h,rfl,k,j,o,u,v⟩;exact⟨j.len,x e i g s' h f k j o u v⟩
end
def a7A:dO:=aYb
def a7k:eJ a7A:=aTC
def aWi:=@aQU
section
attribute[local irreducible] aX
def a87:=bi 37 [(18,([8,9],[1])),(28,([11],[1,10]))]
def a0y R b(g:aG)(c:bu) h d a:=rV (eO 0 d) λe=>rV (eO 1 d) λi=>aO .neq e (iv 0) λj=>ah j (aE R a [e,i]) (aV (gt b 0) (iv 1) λf=>g [f] a/\c [f] a<c b h)
def a0z e b g R c d f a:=ab 1 a e λh=>ao 4 a h (gt b 0) λi=>ab 3 a i λj=>cB 175 [g,j] a 80 (a0y R b c d f)
def a0B c d R e f b a:=∀_:Rg,ab 1 a c λg=>aJ a g λh=>aU (gt b 0) h λi=>ah i (rV (cO a d) λj=>aB 2 a j λk=>sV (aK 1 a k (gt b 0)) (a0z c b d R e f a)) (aE R a [(iv 0),(iv 0)])
def a0A b c R(g:cG)(d:fD) a:=∀_:Rg,ab 1 b c λi=>aJ b i λj=>aU (gt a 1) j λk=>ah k (ab 1 b c λl=>ao 4 b l (gt a 1) λm=>ab 3 b m λn=>fV aT4 b [n] λo=>aV (gt a 0) o λe=>aV (gt a 1) (iv 1) λf=>g [e,f]/\d [e,f]<d a) (aO .gtr (gt a 0) (iv 60) λp=>ah p (aE R b [(iv 2),(iv 0)]) (aw 2 b c λq=>rV (bM a76 [(0,2),(2,1),(3,1),(4,1),(5,1)] [(0,q)]) λr=>eV (qm 254 6 b 60 r) λs h=>lV [(iv 0)] h (a0B c s R)))
def a0x b a R:=aw 2 a b λt3=>fV aT0 a [t3] λt4=>cf t4 λo=>ah o (aE R a [(iv 3),(iv 0)]) (ab 0 a b λp=>fV aT7 a [p] λm=>rV (eO 0 m) λn=>rV (eO 1 m) λe=>aO .neq n (iv 0) λf=>ah f (aE R a [n,e]) (ab 1 a b λg=>aJ a g λh=>aO .gtr h (iv 4) λi=>ah i (aE R a [(iv 2),(iv 0)]) (aw 2 a b λj=>fV aT9 a [j] λc=>rV (eO 0 c) λd=>rV (eO 1 c) λk=>aO .neq d (iv 0) λl=>ah l (aE R a [d,k]) (lR [(iv 0),(iv 0)] (a0A a b R)))))
def bgF{b:List AV}{R:d7}(l0:L b=2)(h:H1 143 2 1 b λc d=>a0x c d R):Ct 118 [.a b] R:=z1 a87 a7k Tryz.func118 l0 h
end
def bdo{p:xr}(g:shP p):Ct 118 [.a p.c] aQ1:=by
 have j:=g.1
 have Z:=j.1
 have h2:=j.2.1
 refine bgF rfl λs2 C m h0=>?_
 simp+contextual only[a0x,u0,u1,m,gw,aj,ar,Fa,aWi,g,Z,j,rr,aO2,vb,↓uL]
 intros
 refine yh (λs:Int×Nat=>[iv s.1,iv s.2]) 1 (L p.ay) (λ_=>True) (0,0) trivial ?_
 rintro⟨c,k⟩ _
 simp+contextual only[a0A,aI,au,u0,u1,m,rk,gw,aj,y9,bh,ar,aWi,rr,aO2,vb,↓uL]
 refine⟨λh=>⟨bA h,⟨4,(g.2.2 _ (dB (aL h))).2⟩,λx=>wN (enc:=λs:Int×Nat=>[iv s.1,iv s.2]) (s:=(c,k)) (s':=(_,k+1)) (by rw[fX (by have:=aL h;omega)]) rfl rfl (aL h) trivial⟩,λ_ _=>?_⟩
 have B:bM a76 [(0,2),(2,1),(3,1),(4,1),(5,1)] [(0, .a p.c)]=V (.a [sl w6.c p.A7,sl xt.c p.ay,iv 0, .l [] U U, .l [] U U, .l [] U U]):=rfl
 simp only[B,aY]
 refine bxL rfl (by decide) (by rw[C];decide) λv H u N3 R=>?_
 have D:L H=4096:=u.len.trans C
 have M:Wk H (60,v) p [] 0 (.l [] U U) (.l [] U U) (.l [] U U):=⟨⟨0,R⟩, .inl ⟨rfl,rfl⟩,⟨[], .inl ⟨rfl,rfl⟩,by simp⟩,⟨[], .inl ⟨rfl,rfl⟩,by simp⟩,by simp,D,rfl,by simp[aA],by simp[aA],by simp[aA]⟩
 have T:=u.kq m
 refine yV (L p.ay) (λk _ Y=>∃a s t,Wk Y (60,v) p [] (k*10000) a s t/\box Y (1,1)=V ⟨143,2,U,U,[p.c]⟩) ⟨_,_,_,by simpa using M,T⟩ ?_
 rintro k _ Y hk ⟨a,s,t,W,w⟩
 obtain⟨th,o⟩:=W.bx
 simp only[a0B,aI,au,u0,u1,w,oo o,o,gw,aj,rr,aO2,vb,vm,↓uL]
 intro h
 have f:=aL h
 have G:=g.2.2 _ (dB f)
 have ae:=g.2.1
 refine A0 o rfl (by simp) λs4 d S=>?_
 have y:=d.kq w
 have N:Wk s4 (60,v) p [] (k*10000) a s t:=by
  obtain⟨ls,z,E⟩:=W.gs
  obtain⟨lt,A,q⟩:=W.gt
  have n:∀r:Id,r.1≠60->r∉[((60,v):Id)]:=λr h b=>by simp at b;subst b;exact h rfl
  exact⟨⟨k,S⟩,W.ga.fx d (λr b=>n r (by rw[W.sa r b];decide)),⟨ls,z.fx d (λr b=>n r (by rw[W.ss r b];decide)),E⟩,⟨lt,A.fx d (λr b=>n r (by rw[W.st r b];decide)),q⟩,W.la,d.len.trans W.le,rfl,W.sa,W.ss,W.st⟩
 simp only[a0z,u0,u1,y,rk,gw,aj,y9,bh,↓uL]
 have ad:bS 4=585:=rfl
 have hm:L (gd p.ay k).body*bS 4<=8*bS 4:=qo _ G.2.1
 refine⟨dJ f,baR j N G.2 (by omega) λe ln P s' t' s5 O K _ _ _=>?_⟩
 have X:=K.keep _ _ (λF=>by
  simp only[eW,dF,iK] at F
  rcases F with h|h|h|h
  ·omega
  ·have:=W.sa _ h;simp at this
  ·have:=W.ss _ h;simp at this
  ·have:=W.st _ h;simp at this) y
 simp only[a0y,au,u0,u1,rr,aO2,vb,mn,↓uL]
 exactλ_=>dR (mk:=λ(_:Unit) i=>[iv i]) (s:=()) (s':=()) (λ_ _=>rfl) f (by omega) ⟨P,s',t',O.mono (by omega),X⟩
def a59{p:xr}(f:shP p):∃x:Int×Int,Ct 118 [.a p.c] (·= .t [iv x.1,iv x.2]):=by obtain⟨r,⟨e,l,rfl⟩,b,d⟩:=bdo f;exact⟨(e,l),_,rfl,b,d⟩
noncomputable def chk(p:xr):Int×Int:=@dite _ (shP p) (Classical.propDecidable _) (λh=>Classical.choose (a59 h)) λ_=>(0,0)
def aW1(p:xr)(b:shP p):Ct 118 [.a p.c] (·= .t [iv (chk p).1,iv (chk p).2]):=by rw[chk,dif_pos b];exact Classical.choose_spec (a59 b)
def aRi:FT:=mT aW1
def bbJ{p Lw K}:=oK aRi aW1 p Lw K (j:=by simp+contextual only[ij,Nb])
def a7B:dO:=(118,aRi)::a7A
def aX4:eJ a7B:=it (pg aW1) (a7k)
def aWj:=ai @bbJ<|@aWi
section
attribute[local irreducible] aX
def a9E:=bi 11 [(3,([0,2,10],[1,3]))]
def a2O f(g:aG)(m1:bu) h b a:=rV (eO 0 b) λc=>rV (eO 1 b) λd=>aV (gt f 2) (iv 1) λe=>g [c,d,e] a/\m1 [c,d,e] a<m1 f h
def a2P j c i h m1 k b a:=rV (eO 0 b) λd=>rV (eO 1 b) λe=>ao 11 a j (gt c 2) λf=>ab 10 a f λg=>cB 177 [d,i,e,g] a 51 (a2O c h m1 k)
def a2Q b d c i m1 j e a:=aV (gt b 1) (iv 1) λf=>ao 11 a d (gt b 2) λg=>ab 9 a g λh=>cB 177 [e,c,f,h] a 39 (a2P d b c i m1 j)
def aVa c d R f m1 a b:=∀_:Rg,aJ b c λt3=>aU (gt a 2) t3 λt4=>ah t4 (ao 11 b c (gt a 2) λg=>ab 1 b g λh=>rV (bM aP5 aM7 [(0,d),(1,(gt a 1)),(2,h)]) λi=>eV (aX aTK 1 b [(0,i)]) λj e=>eV (j5 128 aP5 24 e 27 (gt a 0) j) (a2Q a c d f m1 b)) (fe R b [(gt a 0),(gt a 1)])
def aSv a b c d s0 R:=lV [a,c,(iv 0)] s0 (aVa d b R)
def bfY{a b c d:AV}{s0:ae}{R:be}(h:aSv a b c d s0 R):EB 177 [a,b,c,d] s0 R:=zB a9E aX4 Tryz.func177 h
def a7U{a:AV}{b:AV}{c:AV}{d:AV}{s0:ae}{R:be}(e:L s0=4096)(h:aSv a b c d s0 R):EB 177 [a,b,c,d] s0 R:=by refine bfY ?_;exact h
def a9q:=bi 32 [(8,([6],[1,2,3])),(11,([],[1,2,3,6])),(14,([39],[1,2,3,6,7,31])),(17,([8],[1,2,3,6,7])),(21,([65],[1,2,3,6,7,31])),(26,([9],[1,2,3]))]
def aQf a(e:aG)(b:bu) f(g:eQ) c:=∀_:Rg,aV (gt a 0) (iv 1) λd=>e [d] c/\b [d] c<b a f
def a1Q a(e:aG)(b:bu) f c:=aV (gt a 0) (iv 1) λd=>e [d] c/\b [d] c<b a f
def a8v h b c d e f a:=aB 0 a h λg=>sV (aK 1 a g f) (a1Q b c d e)
def aU2 b d(f:aG) e g c a:=∀_:Rg,ab 3 a b λi=>rV (AO .max i (iv 1)) λj=>aU (gt c 0) j λk=>ah k (ab 0 a d λl=>ab 2 a b λm=>ab 3 a b λn=>ab 0 a b λo=>bf o (iv 2) λp=>ab 4 a b λq=>rV (bM aN1 aOG [(0,m),(1,(gt c 0)),(2,n),(3,p),(4,q)]) λr=>eV (aX aTJ 1 a [(0,r)]) λs h=>eV (j5 122 aN1 48 h 63 l s) (a8v d c e g a)) (f [] a)
def a1T f(b:aG) d a:=aB 1 a f λe=>sV (aK 1 a e d) λc=>b [] c
def a8w b e a h j l k m i n o g p r q(c:aG) d:=dH [(bo b),(bo e),(bo a),(bo h),(bo b),(bo j),(bo a),(bo l),(Qh [(.f 176 [] []),k,m]),(lb U [i,n] []),(lb I [o] []),(lb I [g,p] [92]),(bo b),(lb I [r,q] [])] [(0,10),(1,10)] (c [] d)
def a1U d g e i k m l n j o p h q f b a:=aB 2 a d λc=>sV (aK 1 a c b) (a8w d g e i k m l n j o p h q c b f)
def a1V f(c:aG) d a:=aB 3 a f λe=>sV (aK 1 a e d) λb=>c [] b
def aQh a c b d t p:=∀_:Rg,ah (gt p 0) (ab 1 a c λu=>ab 2 a b λv=>ab 0 a b λw=>bf w (iv 4) λx=>rV (bM aOO O7 [(0,v),(1,x)]) λy=>eV (aX aR7 1 a [(0,y)]) λz q=>eV (j5 124 aOO 24 q 77 u z) (a1T c d)) (bf t (iv 5) λA=>ah A (aB 2 a c λe=>aM a e λf=>aB 2 a b λg=>aM a g λh=>aB 1 a c λi=>aM a i λj=>aB 5 a b λk=>aM a k λl=>fV aQE a [j,l] λm=>rV (bM aPp O7 [(0,h),(1,m)]) λn=>eV (aX aR8 1 a [(0,n)]) λo r=>eV (j5 126 aPp 24 r 92 f o) (a1U c e b g i k j l h m n f o d)) (ab 3 a c λB=>ab 2 a b λC=>eV (aX C9 1 a [(0,C)]) λD s=>eV (j5 9 zz9 16 s 37 B D) (a1V c d)))
def aQj c(b:cG):=bf c (iv 3) λa=>ah a (b [a]) (bf c (iv 4) λd=>b [d])
def aQg c a e b d f:=∀_:Rg,ah (gt f 0) (lV [(iv 0)] c (aU2 a e b)) (jR 21 (aQh c e a b d) (aQj d))
def aQi c(b:cG):=bf c (iv 1) λa=>ah a (b [a]) (bf c (iv 2) λd=>b [d])
def aQe a e d b:=ab 0 b a λc=>jR 14 (aQg b a e d c) (aQi c)
def a1Y a e c j d:=ab 0 a e λg=>ao 6 a g (gt c 0) λh=>aw 6 a h λi=>eV (bs 257 aPa a 7) λb f=>sV (aK 6 f b i) (aQe b j d)
def a1W f j q k l a m n i d p o(g:aG)(b:bu) h c:=dH [(bo f),(bo j),km,(bo q),(bo k),km,(lb U [l,(gt a 0)] []),(bo m),(bo n),(cq I i),km,(bo d),(bo d),(bo f),(lb I [p,o] [])] [(12,14)] (aV (gt a 0) (iv 1) λe=>g [e] c/\b [e] c<b a h)
def a1X f k p l m e n o j g h i a b:=rV (eO 0 a) λc=>rV (eO 1 a) λq=>aB 5 b f λd=>sV (aK 1 b d c) (a1W f k p l m e n o j a d c g h i)
def a1R c m d o p b q r s n t v u j k l a:=dH [(bo c),(bo m),(bo d),(bo o),km,(lb U [p,(gt b 0)] []),(bo q),(bo r),(lb I [s] []),(lb I [n,t] [110]),(bo c),(lb I [v,u] [])] [(0,8),(1,8)] (aB 5 a c λe=>aM a e λw=>aB 1 a d λf=>aM a f λg=>ao 4 a g (gt b 0) λh=>aB 3 a h λi=>aM a i λx=>cB 177 [w,(gt b 0),(iv 0),x] a 122 (a1X c e d f g b h i a j k l))
def a8u e i q k l d m n o j p f g h b a:=aB 4 a e λc=>sV (aK 1 a c b) (a1R e i q k l d m n o j p c b f g h)
def a1Z c m t3 R n o b a:=∀_:Rg,ab 1 a c λq=>aJ a q λr=>aU (gt b 0) r λs=>ah s (aB 4 a m λe=>aM a e λf=>aB 1 a c λg=>aM a g λh=>ao 4 a h (gt b 0) λi=>aB 0 a i λj=>aM a j λk=>eV (aX C9 1 a [(0,k)]) λl p=>eV (j5 9 zz9 16 p 110 f l) (a8u m e c g h b i j k f l n o a)) (aw 6 a m λt=>sV (aK 6 a t3 t) λd=>aw 6 d t3 λu=>aE R d [u])
def a11 c d t3 R e f b a:=∀_:Rg,ab 0 a c λg=>aJ a g λh=>aU (gt b 0) h λi=>ah i (jV 11 (aQf b e f a) (a1Y a c b d)) (lV [(iv 0)] a (a1Z c d t3 R))
def a1S b t3 R d a:=aw 2 a b λi=>fV aRi a [i] λh=>rV (eO 0 h) λj=>rV (eO 1 h) λk=>aO .neq j (iv 0) λe=>ah e (aw 6 a d λf=>sV (aK 6 a t3 f) λc=>aw 6 c t3 λg=>aE R c [g]) (lV [(iv 0)] a (a11 b d t3 R))
def a1P a b R:=eV (bs 31 aRc b 2) λt3 c=>eV (bs 31 aRc c 3) (a1S a t3 R)
def bgY{b:List AV}{R:d7}(l0:L b=2)(h:H1 143 2 1 b λc d=>a1P c d R):Ct 119 [.a b] R:=z1 a9q aX4 Tryz.func119 l0 h
end
def SiR(Y:ae)(a:AV)(N:Nat)(r:AV)(d:ae):Prop:=∃(a':AV) (e:Int) (l':List dL),r= .t [a',iv e]/\gm d 128 3 a' (l'.map dL.c)/\L l'<=N/\Fx Y d (aA a)/\(∀q∈aA a',q∈aA a\/bK Y q)/\∀q∈aA a',q∈aA a\/q.1=27
def bdu(y:Int):∀(m:Nat) {Y:ae} {a:AV} {n:Int} {l:List dL} {st:List eo},L Y=4096->gm Y 128 3 a (l.map dL.c)->shL m 8 st->L l+L st*bS m<100000->
  ∃r o,SiR Y a (L l+L st*bS m) r o/\cZ aS GG 177 [a,iv y,iv n,sl eo.c st] Y r o:=by
 intro m
 induction m with
 |zero=>
  intro Y a n l st B g N hn
  have:st=[]:=List.eq_nil_iff_forall_not_mem.2 λx X=>N.2 x X
  subst this
  refine a7U B ?_
  simp only[aSv]
  refine jD (α:=AV×Int) (λs i=>[s.1,iv s.2,iv i]) 2 0 (λ_ s Y'=>Y'=Y/\s.1=a) (s0:=(a,n)) ⟨rfl,rfl⟩ ?_
  rintro k ⟨a',n'⟩ o hk ⟨rfl,rfl⟩
  simp only[aVa,aI,au,u0,u1,vw,↓uL]
  exact⟨λh=>by simp at h;omega,λ_=>⟨_,_,l,rfl,g,by omega,Fx.refl _ _,λ_ h=> .inl h,λ_ h=> .inl h⟩⟩
 |succ m ih=>
  intro Y a n l st B g N hn
  refine a7U B ?_
  simp only[aSv]
  refine jD (α:=AV×Int) (λs i=>[s.1,iv s.2,iv i]) 2 (L st) (λk s Y'=>∃l':List dL,gm Y' 128 3 s.1 (l'.map dL.c)/\L l'<=L l+k*bS (m+1)/\Fx Y Y' (aA a)/\(∀q∈aA s.1,q∈aA a\/bK Y q)/\∀q∈aA s.1,q∈aA a\/q.1=27) (s0:=(a,n)) ⟨l,g,by omega,Fx.refl _ _,λ_ h=> .inl h,λ_ h=> .inl h⟩ ?_
  rintro k ⟨a1,v⟩ o hk ⟨l1,g1,aM,G,Z,p1⟩
  simp only at g1 Z p1
  have D:L o=4096:=G.len.trans B
  simp only[aVa,aI,au,u0,u1,y9,bh,rk,gw,↓uL]
  refine⟨λh=>⟨bA h,?_⟩,λh=>⟨a1,v,l1,rfl,g1,by have h9:=bw h;have:k*bS (m+1)<=L st*bS (m+1):=qo _ hk;omega,G,Z,p1⟩⟩
  have j:=aL h
  have X:=N.2 _ (dB j)
  obtain⟨m',aP,b1,b2⟩:=X.body
  obtain rfl:m=m':=by omega
  have aq:L l+k*bS (m+1)+(1+8*bS m)<=L l+L st*bS (m+1):=by
   have h9:(k+1)*bS (m+1)<=L st*bS (m+1):=qo _ j
   rw[tN] at h9
   have:bS (m+1)=1+8*bS m:=rfl
   omega
  generalize S:gd st k=x at*
  have al:bM aP5 aM7 [(0,iv y),(1,iv v),(2,iv x.line)]=V (.a (dL.c ⟨y,v,x.line⟩)):=rfl
  have am:aX aTK 1 o [(0, .a (dL.c ⟨y,v,x.line⟩))]=V (.l ([(⟨y,v,x.line⟩:dL)].map dL.c) U U,o):=ua rfl rfl rfl (by decide) rfl (by decide)
  simp only[al,aY,am,bQ]
  refine apQ g1 D (qW (f:=dL.c) (z:=3) λ_=>rfl) (qW (f:=dL.c) (z:=3) λ_=>rfl) (by simp) (by simp;omega) λa2 Y2 g2 F2 N2=>?_
  have aB:L Y2=4096:=F2.len.trans D
  rw[<-dg] at g2
  have ac:Fx Y Y2 (aA a):=(G.trans F2).mono λq e=>(dF.1 e).elim .inl λh=>(Z q h).elim .inl λh=> .inr h.no
  have A:∀{M:ae} {a3:AV} {n3:Int} {O:List dL} {R:List eo} {d:Nat} {K:be},gm M 128 3 a3 (O.map dL.c)->shL m 4 R->L O<=L l+k*bS (m+1)+(1+4*bS m)->Fx Y M (aA a)->(∀q∈aA a3,q∈aA a\/bK Y q)->(∀q∈aA a3,q∈aA a\/q.1=27)->
    (∀(a4:AV) (P:Int) (F:List dL) (u:ae),gm u 128 3 a4 (F.map dL.c)->L F<=L O+4*bS m->Fx Y u (aA a)->(∀q∈aA a4,q∈aA a\/bK Y q)->(∀q∈aA a4,q∈aA a\/q.1=27)->K (.t [a4,iv P]) u)->cB 177 [a3,iv y,iv n3,sl eo.c R] M d K:=by
   intro M a3 n3 O R d K g3 E aN T i3 p3 hK
   have h4:L R*bS m<=4*bS m:=qo _ E.1
   refine jH rfl (ih (T.len.trans B) g3 ⟨by have:=E.1;omega,E.2⟩ (by omega)) ?_
   rintro r u ⟨a4,P,F,rfl,W,C,H,i4,p4⟩
   exact⟨H.len,hK a4 P F u W (by omega) ((T.trans H).mono λq e=>(dF.1 e).elim .inl λh=>(i3 q h).elim .inl λh=> .inr h.no) (λq e=>(i4 q e).elim (i3 q) λh=> .inr (h.old T)) (λq e=>(p4 q e).elim (p3 q) .inr)⟩
  simp only[a2Q,au,u0,u1,y9,bh,rk,gw,S,↓uL]
  refine⟨dJ j,A g2.p b1 (by simp;omega) ac (λq e=> .inr ((N2 q e).1.old G)) (λq e=> .inr (N2 q e).2) λa4 P F u W C H i4 p4=>?_⟩
  simp only[a2P,au,rr,u0,u1,y9,bh,gw,S,↓uL]
  refine⟨dJ j,A W b2 (by simp at C;omega) H i4 p4 λa5 n5 l5 Y5 g5 aO F5 i5 p5=>?_⟩
  simp only[a2O,au,rr,u0,u1,↓uL]
  refine dR (mk:=λ(s:AV×Int) i=>[s.1,iv s.2,iv i]) (s:=(a1,v)) (s':=(a5,n5)) (λ_ _=>rfl) j (by have:=N.1;omega) ⟨l5,g5,?_,F5,i5,p5⟩
  rw[tN]
  have:bS (m+1)=1+8*bS m:=rfl
  simp at C
  omega
structure Wo(Y:ae)(b:Id)(w:br)(a0 a1 a2 a3 a4 a5:AV):Prop where
 bx:box Y b=V ⟨31,6,U,U,[[a0,a1,a2,a3,a4,a5]]⟩
 g0:gm Y 122 5 a0 (w.cells.map cA.c)
 g1:gm Y 124 2 a1 (w.ak.map dS.c)
 g2:gm Y 126 2 a2 (w.bC.map yp.c)
 g3:gm Y 9 1 a3 (w.bU.map cs)
 g4:gm Y 9 1 a4 (w.ay.map cs)
 g5:gm Y 128 3 a5 (w.dU.map dL.c)
 p0:∀q∈aA a0,q.1=63
 p1:∀q∈aA a1,q.1=77
 p2:∀q∈aA a2,q.1=92
 p3:∀q∈aA a3,q.1=37
 p4:∀q∈aA a4,q.1=110
 p5:∀q∈aA a5,q.1=27
 sb:b.1=3
 le:L Y=4096
section
variable{Y Y':ae}{b:Id}{w:br}{a0 a1 a2 a3 a4 a5 a':AV}
def Wo.fx0(W:Wo Y b w a0 a1 a2 a3 a4 a5)(F:Fx Y Y' []):Wo Y' b w a0 a1 a2 a3 a4 a5:=⟨F.kq W.bx,W.g0.fx F (by simp),W.g1.fx F (by simp),W.g2.fx F (by simp),W.g3.fx F (by simp),W.g4.fx F (by simp),W.g5.fx F (by simp),W.p0,W.p1,W.p2,W.p3,W.p4,W.p5,W.sb,F.len.trans W.le⟩
def Wo.up0{new:List cA}(W:Wo Y b w a0 a1 a2 a3 a4 a5)(i:box Y' b=V ⟨31,6,U,U,[[a',a1,a2,a3,a4,a5]]⟩)(g:bc Y' 122 5 a' ((w.cells++new).map cA.c))(F:Fx Y Y' (b::aA a0))(N:∀q∈aA a',bK Y q/\q.1=63):Wo Y' b {w with cells:=w.cells++new} a' a1 a2 a3 a4 a5:=by have d:∀q:Id,q.1≠3->q.1≠63->q∉b::aA a0:=λq e f a=>(by rcases eW.1 a with h|h;subst h;exact e W.sb;exact f (W.p0 q h));exact⟨i,g.p,W.g1.fx F (λq a=>d q (by rw[W.p1 q a];decide) (by rw[W.p1 q a];decide)),W.g2.fx F (λq a=>d q (by rw[W.p2 q a];decide) (by rw[W.p2 q a];decide)),W.g3.fx F (λq a=>d q (by rw[W.p3 q a];decide) (by rw[W.p3 q a];decide)),W.g4.fx F (λq a=>d q (by rw[W.p4 q a];decide) (by rw[W.p4 q a];decide)),W.g5.fx F (λq a=>d q (by rw[W.p5 q a];decide) (by rw[W.p5 q a];decide)),(λq a=>(N q a).2),W.p1,W.p2,W.p3,W.p4,W.p5,W.sb,F.len.trans W.le⟩
def Wo.up1{new:List dS}(W:Wo Y b w a0 a1 a2 a3 a4 a5)(i:box Y' b=V ⟨31,6,U,U,[[a0,a',a2,a3,a4,a5]]⟩)(g:bc Y' 124 2 a' ((w.ak++new).map dS.c))(F:Fx Y Y' (b::aA a1))(N:∀q∈aA a',bK Y q/\q.1=77):Wo Y' b {w with ak:=w.ak++new} a0 a' a2 a3 a4 a5:=by have d:∀q:Id,q.1≠3->q.1≠77->q∉b::aA a1:=λq e f a=>(by rcases eW.1 a with h|h;subst h;exact e W.sb;exact f (W.p1 q h));exact⟨i,W.g0.fx F (λq a=>d q (by rw[W.p0 q a];decide) (by rw[W.p0 q a];decide)),g.p,W.g2.fx F (λq a=>d q (by rw[W.p2 q a];decide) (by rw[W.p2 q a];decide)),W.g3.fx F (λq a=>d q (by rw[W.p3 q a];decide) (by rw[W.p3 q a];decide)),W.g4.fx F (λq a=>d q (by rw[W.p4 q a];decide) (by rw[W.p4 q a];decide)),W.g5.fx F (λq a=>d q (by rw[W.p5 q a];decide) (by rw[W.p5 q a];decide)),W.p0,(λq a=>(N q a).2),W.p2,W.p3,W.p4,W.p5,W.sb,F.len.trans W.le⟩
def Wo.up2{new:List yp}(W:Wo Y b w a0 a1 a2 a3 a4 a5)(i:box Y' b=V ⟨31,6,U,U,[[a0,a1,a',a3,a4,a5]]⟩)(g:bc Y' 126 2 a' ((w.bC++new).map yp.c))(F:Fx Y Y' (b::aA a2))(N:∀q∈aA a',bK Y q/\q.1=92):Wo Y' b {w with bC:=w.bC++new} a0 a1 a' a3 a4 a5:=by have d:∀q:Id,q.1≠3->q.1≠92->q∉b::aA a2:=λq e f a=>(by rcases eW.1 a with h|h;subst h;exact e W.sb;exact f (W.p2 q h));exact⟨i,W.g0.fx F (λq a=>d q (by rw[W.p0 q a];decide) (by rw[W.p0 q a];decide)),W.g1.fx F (λq a=>d q (by rw[W.p1 q a];decide) (by rw[W.p1 q a];decide)),g.p,W.g3.fx F (λq a=>d q (by rw[W.p3 q a];decide) (by rw[W.p3 q a];decide)),W.g4.fx F (λq a=>d q (by rw[W.p4 q a];decide) (by rw[W.p4 q a];decide)),W.g5.fx F (λq a=>d q (by rw[W.p5 q a];decide) (by rw[W.p5 q a];decide)),W.p0,W.p1,(λq a=>(N q a).2),W.p3,W.p4,W.p5,W.sb,F.len.trans W.le⟩
def Wo.up3{new:List ByteArray}(W:Wo Y b w a0 a1 a2 a3 a4 a5)(f:box Y' b=V ⟨31,6,U,U,[[a0,a1,a2,a',a4,a5]]⟩)(g:bc Y' 9 1 a' ((w.bU++new).map cs))(F:Fx Y Y' (b::aA a3))(N:∀q∈aA a',bK Y q/\q.1=37):Wo Y' b {w with bU:=w.bU++new} a0 a1 a2 a' a4 a5:=by have d:∀q:Id,q.1≠3->q.1≠37->q∉b::aA a3:=λq c e a=>(by rcases eW.1 a with h|h;subst h;exact c W.sb;exact e (W.p3 q h));exact⟨f,W.g0.fx F (λq a=>d q (by rw[W.p0 q a];decide) (by rw[W.p0 q a];decide)),W.g1.fx F (λq a=>d q (by rw[W.p1 q a];decide) (by rw[W.p1 q a];decide)),W.g2.fx F (λq a=>d q (by rw[W.p2 q a];decide) (by rw[W.p2 q a];decide)),g.p,W.g4.fx F (λq a=>d q (by rw[W.p4 q a];decide) (by rw[W.p4 q a];decide)),W.g5.fx F (λq a=>d q (by rw[W.p5 q a];decide) (by rw[W.p5 q a];decide)),W.p0,W.p1,W.p2,(λq a=>(N q a).2),W.p4,W.p5,W.sb,F.len.trans W.le⟩
def Wo.up4{new:List ByteArray}(W:Wo Y b w a0 a1 a2 a3 a4 a5)(f:box Y' b=V ⟨31,6,U,U,[[a0,a1,a2,a3,a',a5]]⟩)(g:bc Y' 9 1 a' ((w.ay++new).map cs))(F:Fx Y Y' (b::aA a4))(N:∀q∈aA a',bK Y q/\q.1=110):Wo Y' b {w with ay:=w.ay++new} a0 a1 a2 a3 a' a5:=by have d:∀q:Id,q.1≠3->q.1≠110->q∉b::aA a4:=λq c e a=>(by rcases eW.1 a with h|h;subst h;exact c W.sb;exact e (W.p4 q h));exact⟨f,W.g0.fx F (λq a=>d q (by rw[W.p0 q a];decide) (by rw[W.p0 q a];decide)),W.g1.fx F (λq a=>d q (by rw[W.p1 q a];decide) (by rw[W.p1 q a];decide)),W.g2.fx F (λq a=>d q (by rw[W.p2 q a];decide) (by rw[W.p2 q a];decide)),W.g3.fx F (λq a=>d q (by rw[W.p3 q a];decide) (by rw[W.p3 q a];decide)),g.p,W.g5.fx F (λq a=>d q (by rw[W.p5 q a];decide) (by rw[W.p5 q a];decide)),W.p0,W.p1,W.p2,W.p3,(λq a=>(N q a).2),W.p5,W.sb,F.len.trans W.le⟩
end
def WBd(w:br):Prop:=L w.cells<100000/\L w.ak<100000/\L w.bC<100000/\L w.bU<100000/\L w.ay<100000/\L w.dU<100000
def bbe:∀k,k<9->(gd aNF k).size<=4:=by decide
def rwW{a b c d e f:AV}:aN (V 6) [a,b,c,d,e,f]=V (.a [a,b,c,d,e,f]):=rfl
def aXi(p:xr)(hp:shP p/\p.A7=aNF):Ct 119 [.a p.c] (λr=>∃w:br,r= .a w.c/\WBd w/\((chk p).1=0->∃c∈w.cells,c.name=qN)):=by
 obtain⟨hp,hd⟩:=hp
 refine aDq (bgY rfl λs2 hl b1 h0=>?_)
 simp only[a1P]
 refine so hl λv2 s4 F4 N4 b2=>?_
 have aq:L s4=4096:=F4.len.trans hl
 refine so aq λy s6 F6 N6 O=>?_
 have c1:=F6.kq (F4.kq b1)
 have c2:=F6.kq b2
 have bY:L s6=4096:=F6.len.trans aq
 have W6:Wo s6 (3,y) ⟨[],[],[],[],[],[]⟩ (.l [] U U) (.l [] U U) (.l [] U U) (.l [] U U) (.l [] U U) (.l [] U U):=⟨O, .inl ⟨rfl,rfl⟩, .inl ⟨rfl,rfl⟩, .inl ⟨rfl,rfl⟩, .inl ⟨rfl,rfl⟩, .inl ⟨rfl,rfl⟩, .inl ⟨rfl,rfl⟩,by simp[aA],by simp[aA],by simp[aA],by simp[aA],by simp[aA],by simp[aA],rfl,bY⟩
 have ba:∀{Y:ae} {w:br} {a0 a1 a2 a3 a4 a5:AV} {r:List AV},Wo Y (3,y) w a0 a1 a2 a3 a4 a5->box Y (2,v2)=V ⟨31,6,U,U,[r]⟩->L r=6->WBd w->((chk p).1=0->∃c∈w.cells,c.name=qN)->
   aw 6 Y (.p (3,y) 0 0) λt=>sV (aK 6 Y (.p (2,v2) 0 0) t) λaP=>aw 6 aP (.p (2,v2) 0 0) λbo=>aE (λr=>∃w:br,B1 r= .a w.c/\WBd w/\((chk p).1=0->∃c∈w.cells,c.name=qN)) aP [bo]:=by
  intro Y w a0 a1 a2 a3 a4 a5 r W hb hr hB g
  simp only[aC5,W.bx,aww,aBF,df,axE,awx,rwW,aY,↓uL]
  refine qr hb hr rfl λY' F b'=>?_
  simp only[b',aww,aBF,df,awx,rwW,aY]
  have d:∀q:Id,q.1≠2->q∉[((2,v2):Id)]:=λq P g=>by simp at g;subst g;exact P rfl
  refine aOv (Q:=λr=>∃w:br,r= .a w.c/\WBd w/\((chk p).1=0->∃c∈w.cells,c.name=qN)) (v':= .a w.c) ?_ rfl ⟨w,rfl,hB,g⟩
  simp only[fzT,ji,mU,aBr (W.g0.fx F λq g=>d q (by rw[W.p0 q g];decide)),aBr (W.g1.fx F λq g=>d q (by rw[W.p1 q g];decide)),aBr (W.g2.fx F λq g=>d q (by rw[W.p2 q g];decide)),aBr (W.g3.fx F λq g=>d q (by rw[W.p3 q g];decide)),aBr (W.g4.fx F λq g=>d q (by rw[W.p4 q g];decide)),aBr (W.g5.fx F λq g=>d q (by rw[W.p5 q g];decide))]
  rfl
 simp+contextual only[a1S,u0,u1,c1,gw,ar,Fa,aWj,hp,rr,↓uL]
 refine⟨λb0=>ba W6 c2 rfl (by simp[WBd]) (λh=>by simp[h] at b0),λcO=>?_⟩
 have h9:L p.A7=9:=by rw[hd];rfl
 obtain⟨Inv,an⟩:∃e:Nat->Unit->ae->Prop,e=λk _ Y=>∃(w:br) (a0 a1 a2 a3 a4 a5:AV) (r:List AV),Wo Y (3,y) w a0 a1 a2 a3 a4 a5/\box Y (1,1)=V ⟨143,2,U,U,[p.c]⟩/\box Y (2,v2)=V ⟨31,6,U,U,[r]⟩/\L r=6/\L w.cells<=4*k/\L w.ak<=k/\L w.bC<=k/\L w.bU<=k/\w.ay=[]/\w.dU=[]/\(3<k->∃c∈w.cells,c.name=qN):=⟨_,rfl⟩
 refine yV (L p.A7) Inv (by rw[an];exact⟨_,_,_,_,_,_,_,_,W6,c1,c2,rfl,by simp,by simp,by simp,by simp,rfl,rfl,by simp⟩) ?_
 rintro k _ Y hk hi
 rw[an] at hi
 obtain⟨w,a0,a1,a2,a3,a4,a5,r,W,d1,d2,hr,n0,n1,n2,n3,n4,n5,g⟩:=hi
 simp only[a11,aI,au,u0,u1,d1,rk,gw,aj,a1Y,y9,bh,↓uL]
 refine⟨λh=>⟨bA h,anu W.le λv7 G F1 N1 e7=>?_⟩,λh=>?_⟩
 ·have ad:=aL h
  have o:=W.fx0 F1
  have e1:=F1.kq d1
  have e2:=F1.kq d2
  have cR:(gd p.A7 k).size<=4:=by rw[hd];exact bbe k (by omega)
  have a8:k=3->(gd p.A7 k).kind=1/\(gd p.A7 k).name=qN:=by rintro rfl;rw[hd];exact⟨rfl,rfl⟩
  generalize cN:gd p.A7 k=m at*
  have ax:∀{Y':ae} {w':br} {x0 x1 x2 x3 x4 x5:AV},Wo Y' (3,y) w' x0 x1 x2 x3 x4 x5->box Y' (1,1)=V ⟨143,2,U,U,[p.c]⟩->box Y' (2,v2)=V ⟨31,6,U,U,[r]⟩->L w'.cells<=4*(k+1)->L w'.ak<=k+1->L w'.bC<=k+1->L w'.bU<=k+1->w'.ay=[]->w'.dU=[]->(3<k+1->∃c∈w'.cells,c.name=qN)->aQf [iv k] (yI (λ(_:Unit) i=>[iv i]) (L p.A7) Inv) (gM 0 (L p.A7)) Y [] Y':=by
   intro Y' w' x0 x1 x2 x3 x4 x5 g1 g2 C g4 g5 g6 g7 g8 g9 bI
   simp only[aQf,aI,au,u0,u1,↓uL]
   exact dR (mk:=λ(_:Unit) i=>[iv i]) (s:=()) (s':=()) (λ_ _=>rfl) ad (by omega) (by rw[an];exact⟨_,_,_,_,_,_,_,_,g1,g2,C,hr,g4,g5,g6,g7,g8,g9,bI⟩)
  have ep:∀{Y':ae} {j:Nat} {a:AV} {T z:Nat} {bq:Bool} {rs:List (List AV)} {q:Id},Fx G Y' ((3,y)::aA a)->(∀q∈aA a,q.1=j)->q.1≠3->q.1≠j->box G q=V ⟨T,z,U,bq,rs⟩->box Y' q=V ⟨T,z,U,bq,rs⟩:=λF X v bR hb=>F.keep _ _ (λg=>by
   rcases eW.1 g with h|h
   ·rw[h] at v;exact v rfl
   ·exact bR (X _ h)) hb
  have nb:∀{a:AV} {j:Nat},(∀q∈aA a,q.1=j)->j≠3->((3,y):Id)∉aA a:=λX v g=>v (X _ g).symm
  have av:k≠3->3<k+1->∃c∈w.cells,c.name=qN:=λv h=>g (by omega)
  have oO:(m.kind=1\/m.kind=2)->lV [iv 0] G (aU2 (.p (7,v7) 0 0) (.p (3,y) 0 0) (aQf [iv k] (yI (λ(_:Unit) i=>[iv i]) (L p.A7) Inv) (gM 0 (L p.A7)) Y)):=by
   intro _
   obtain⟨M,hM⟩:∃M:Int,M=if 1>m.size then 1 else m.size:=⟨_,rfl⟩
   have cM:1<=M/\M<=4:=by rw[hM];split<;>omega
   refine yV M.toNat (λZ _ Y'=>∃(new:List cA) (x0:AV),Wo Y' (3,y) {w with cells:=w.cells++new} x0 a1 a2 a3 a4 a5/\box Y' (1,1)=V ⟨143,2,U,U,[p.c]⟩/\box Y' (2,v2)=V ⟨31,6,U,U,[r]⟩/\box Y' (7,v7)=V ⟨257,6,U,U,[m.c]⟩/\L new=Z/\(0<Z->∃c∈new,c.name=m.name)) ⟨[],a0,by simpa using o,e1,e2,e7,rfl,by simp⟩ ?_
   rintro Z _ Y2 cQ ⟨new,x0,B,f1,f2,f7,bn,b6⟩
   simp only[aU2,aI,au,u0,u1,f7,B.bx,gw,aj,aRW,<-hM,↓uL]
   refine⟨λS=>?_,λS=>?_⟩
   ·have bm:Z<M.toNat:=by simp at S;omega
    have ac:bM aN1 aOG [(0,st m.name),(1,iv Z),(2,iv m.size),(3,bv (Q (m.kind=2))),(4,iv m.init)]=V (.a (cA.c ⟨m.name,Z,m.size,Q (m.kind=2),m.init⟩)):=rfl
    have E:∀{x:cA},aX aTJ 1 Y2 [(0, .a (cA.c x))]=V (.l ([x].map cA.c) U U,Y2):=λ{x}=>ua rfl rfl rfl (by decide) rfl (by decide)
    simp only[ac,aY,E,bQ]
    refine gfP (j:=0) B.bx (by simp) B.g0 (nb B.p0 (by decide)) rfl (by decide) (by rw[B.le];decide) (qW (f:=cA.c) (z:=5) λ_=>rfl) (qW (f:=cA.c) (z:=5) λ_=>rfl) (by simp) (by simp;omega) (by simp) λa' Y3 O C A R=>?_
    simp only[a1Q,au,u0,u1,↓uL]
    rw[<-dg] at C
    have H:∀{q:Id},q.1≠3->q.1≠63->q∉((3,y):Id)::aA x0:=λv ab g=>by
     rcases eW.1 g with h|h
     ·rw[h] at v;exact v rfl
     ·exact ab (B.p0 _ h)
    have u:=B.up0 (new:=[⟨m.name,Z,m.size,Q (m.kind=2),m.init⟩]) O C A R
    refine dR (mk:=λ(_:Unit) i=>[iv i]) (s:=()) (s':=()) (λ_ _=>rfl) bm (by omega) ⟨new++[⟨m.name,Z,m.size,Q (m.kind=2),m.init⟩],a',by simpa using u,A.keep _ _ (H (by simp) (by simp)) f1,A.keep _ _ (H (by simp) (by simp)) f2,A.keep _ _ (H (by simp) (by simp)) f7,by simp[bn],λ_=>⟨_,zt _ (cE.2 rfl),rfl⟩⟩
   ·have cJ:Z=M.toNat:=by simp at S;omega
    refine ax B f1 f2 (by simp;omega) (by show L w.ak<=k+1;omega) (by show L w.bC<=k+1;omega) (by show L w.bU<=k+1;omega) n4 n5 λv=>?_
    by_cases h4:k=3
    ·obtain⟨c,hc,aG⟩:=b6 (by omega)
     exact⟨c,zt _ hc,by rw[aG];exact(a8 h4).2⟩
    ·obtain⟨c,hc,aG⟩:=av h4 v
     exact⟨c,List.mem_append_left _ hc,aG⟩
  have bL:dG G a1=sl dS.c w.ak:=o.g1.ar
  have H:∀{a:AV} {j:Nat},(∀q∈aA a,q.1=j)->∀q:Id,q.1≠3->q.1≠j->q∉((3,y):Id)::aA a:=λX q v ab g=>by
   rcases eW.1 g with h|h
   ·rw[h] at v;exact v rfl
   ·exact ab (X _ h)
  have lk:∀rw:Bool,k≠3->rV (bM aOO O7 [(0,st m.name),(1,bv rw)]) λcg=>eV (aX aR7 1 G [(0,cg)]) λch cb=>eV (j5 124 aOO 24 cb 77 a1 ch) (a1T (.p (3,y) 0 0) (aQf [iv k] (yI (λ(_:Unit) i=>[iv i]) (L p.A7) Inv) (gM 0 (L p.A7)) Y)):=by
   intro rw v
   have ac:bM aOO O7 [(0,st m.name),(1,bv rw)]=V (.a (dS.c ⟨m.name,rw⟩)):=rfl
   have E:∀{x:dS},aX aR7 1 G [(0, .a (dS.c x))]=V (.l ([x].map dS.c) U U,G):=λ{x}=>ua rfl rfl rfl (by decide) rfl (by decide)
   simp only[ac,aY,E,bQ]
   refine gfP (j:=1) o.bx (by simp) o.g1 (nb o.p1 (by decide)) rfl (by decide) (by rw[o.le];decide) (qW (f:=dS.c) (z:=2) λ_=>rfl) (qW (f:=dS.c) (z:=2) λ_=>rfl) (by simp) (by simp;omega) (by simp) λa' Y3 O C A R=>?_
   rw[<-dg] at C
   exact ax (o.up1 (new:=[⟨m.name,rw⟩]) O C A R) (A.keep _ _ (H o.p1 _ (by simp) (by simp)) e1) (A.keep _ _ (H o.p1 _ (by simp) (by simp)) e2) (by show L w.cells<=_;omega) (by simp;omega) (by show L w.bC<=k+1;omega) (by show L w.bU<=k+1;omega) n4 n5 (av v)
  have cd:∀x:Int,k≠3->rV (bM aPp O7 [(0,st m.name),(1,iv x)]) λbb=>eV (aX aR8 1 G [(0,bb)]) λbc cc=>eV (j5 126 aPp 24 cc 92 a2 bc) (a1U (AV.p (3,y) 0 0) (AV.p (3,y) 0 2) (AV.p (7,v7) 0 0) (AV.p (7,v7) 0 2) (AV.p (3,y) 0 1) (AV.p (7,v7) 0 5) a1 (st m.on) (st m.name) (iv x) bb a2 bc (aQf [iv k] (yI (λ(_:Unit) i=>[iv i]) (L p.A7) Inv) (gM 0 (L p.A7)) Y)):=by
   intro x v
   have ac:bM aPp O7 [(0,st m.name),(1,iv x)]=V (.a (yp.c ⟨m.name,x⟩)):=rfl
   have E:∀{x:yp},aX aR8 1 G [(0, .a (yp.c x))]=V (.l ([x].map yp.c) U U,G):=λ{x}=>ua rfl rfl rfl (by decide) rfl (by decide)
   simp only[ac,aY,E,bQ]
   refine gfP (j:=2) o.bx (by simp) o.g2 (nb o.p2 (by decide)) rfl (by decide) (by rw[o.le];decide) (qW (f:=yp.c) (z:=2) λ_=>rfl) (qW (f:=yp.c) (z:=2) λ_=>rfl) (by simp) (by simp;omega) (by simp) λa' Y3 O C A R=>?_
   rw[<-dg] at C
   refine dT (by first|rfl|(simp[eL,okT,tok,lb,cq,Qh,cD,dC,pP,dK];done)) ?_
   exact ax (o.up2 (new:=[⟨m.name,x⟩]) O C A R) (A.keep _ _ (H o.p2 _ (by simp) (by simp)) e1) (A.keep _ _ (H o.p2 _ (by simp) (by simp)) e2) (by show L w.cells<=_;omega) (by show L w.ak<=k+1;omega) (by simp;omega) (by show L w.bU<=k+1;omega) n4 n5 (av v)
  have fu:k≠3->eV (aX C9 1 G [(0,st m.name)]) λci cf=>eV (j5 9 zz9 16 cf 37 a3 ci) (a1V (AV.p (3,y) 0 0) (aQf [iv k] (yI (λ(_:Unit) i=>[iv i]) (L p.A7) Inv) (gM 0 (L p.A7)) Y)):=by
   intro v
   have E:aX C9 1 G [(0,st m.name)]=V (.l ([m.name].map cs) U U,G):=iz
   simp only[E,bQ]
   refine gfP (j:=3) o.bx (by simp) o.g3 (nb o.p3 (by decide)) rfl (by decide) (by rw[o.le];decide) oX oX (by simp) (by simp;omega) (by simp) λa' Y3 O C A R=>?_
   rw[<-dg] at C
   exact ax (o.up3 (new:=[m.name]) O C A R) (A.keep _ _ (H o.p3 _ (by simp) (by simp)) e1) (A.keep _ _ (H o.p3 _ (by simp) (by simp)) e2) (by show L w.cells<=_;omega) (by show L w.ak<=k+1;omega) (by show L w.bC<=k+1;omega) (by simp;omega) n4 n5 (av v)
  have kc:m.kind=1\/m.kind=2\/m.kind=3\/m.kind=4\/m.kind=5\/(m.kind≠1/\m.kind≠2/\m.kind≠3/\m.kind≠4/\m.kind≠5):=by omega
  have ap:m.kind≠1->k≠3:=λP v=>P (a8 v).1
  rcases kc with h|h|h|h|h|⟨P,S,v,h4,h5⟩
  ·simp only[aQe,f8,aQi,aQg,aQj,aQh,aI,au,u0,u1,e7,o.bx,gw,aj,ar,eE,sr,Ca,O9,vm,h,aNV,aNE,Int.reduceEq,↓iC,↓iB,↓uL]
   exact oO (.inl h)
  ·simp only[aQe,f8,aQi,aQg,aQj,aQh,aI,au,u0,u1,e7,o.bx,gw,aj,ar,eE,sr,Ca,O9,vm,h,aNV,aNE,Int.reduceEq,↓iB,↓uL]
   exact oO (.inr h)
  ·simp only[aQe,f8,aQi,aQg,aQj,aQh,aI,au,u0,u1,e7,o.bx,gw,aj,ar,eE,sr,Ca,O9,vm,h,aNV,aNE,Int.reduceEq,↓iC,↓iB,↓uL]
   exact lk _ (ap (by omega))
  ·simp only[aQe,f8,aQi,aQg,aQj,aQh,aI,au,u0,u1,e7,o.bx,gw,aj,ar,eE,sr,Ca,O9,vm,h,aNV,aNE,Int.reduceEq,↓iB,↓uL]
   exact lk _ (ap (by omega))
  ·simp only[aQe,f8,aQi,aQg,aQj,aQh,aI,au,u0,u1,e7,o.bx,gw,aj,bL,ar,aWj,rr,eE,Ca,O9,h,aNV,aNE,Int.reduceEq,↓iC,↓iB,↓uL]
   exact⟨by omega,λx=>cd x (ap (by omega))⟩
  ·simp only[aQe,f8,aQi,aQg,aQj,aQh,aI,au,u0,u1,e7,o.bx,gw,aj,ar,eE,Ca,O9,P,S,v,h4,h5,aNE,↓iB,↓uL]
   exact fu (ap P)
 ·have bV:k=9:=by have:=bw h;omega
  subst bV
  clear hk h
  refine yV (L p.ay) (λk _ Y=>∃(K:br) (a4 a5:AV),Wo Y (3,y) K a0 a1 a2 a3 a4 a5/\K.cells=w.cells/\K.ak=w.ak/\K.bC=w.bC/\K.bU=w.bU/\box Y (1,1)=V ⟨143,2,U,U,[p.c]⟩/\box Y (2,v2)=V ⟨31,6,U,U,[r]⟩/\L K.ay<=k/\L K.dU<=k*5000) ⟨w,a4,a5,W,rfl,rfl,rfl,rfl,d1,d2,by simp[n4],by simp[n5]⟩ ?_
  rintro k _ Y2 hk ⟨K,x4,x5,B,w0,w1,w2,w3,f1,f2,m4,m5⟩
  have cS:=hp.2.1
  simp only[a1Z,aI,au,u0,u1,f1,B.bx,rk,gw,aj,y9,bh,↓uL]
  refine⟨λh=>⟨bA h,?_⟩,λh=>?_⟩
  rotate_left
  ·have:=ba B f2 hr (by simp only[WBd,w0,w1,w2,w3];omega) (λ_=>by rw[w0];exact g (by omega))
   simp only[u1,B.bx,gw,↓uL] at this
   exact this
  have ad:=aL h
  have a9:=(hp.2.2 _ (dB ad)).2
  generalize b7:gd p.ay k=tk at*
  have E:aX C9 1 Y2 [(0,st tk.name)]=V (.l ([tk.name].map cs) U U,Y2):=iz
  simp only[E,bQ]
  have nb:∀{a:AV} {j:Nat},(∀q∈aA a,q.1=j)->j≠3->((3,y):Id)∉aA a:=λX v g=>v (X _ g).symm
  have H:∀{a:AV} {j:Nat},(∀q∈aA a,q.1=j)->∀q:Id,q.1≠3->q.1≠j->q∉((3,y):Id)::aA a:=λX q v ab g=>by
   rcases eW.1 g with h|h
   ·rw[h] at v;exact v rfl
   ·exact ab (X _ h)
  refine gfP (j:=4) B.bx (by simp) B.g4 (nb B.p4 (by decide)) rfl (by decide) (by rw[B.le];decide) oX oX (by simp) (by simp;omega) (by simp) λa' Y3 O C A R=>?_
  rw[<-dg] at C
  have u:=B.up4 (new:=[tk.name]) O C A R
  have P:=A.keep _ _ (H B.p4 _ (by simp) (by simp)) f1
  have S:=A.keep _ _ (H B.p4 _ (by simp) (by simp)) f2
  have cH:bS 4=585:=rfl
  have hm:L tk.body*bS 4<=8*bS 4:=qo _ a9.1
  simp only[a1R,↓uL]
  refine dT (by first|rfl|(simp[eL,okT,tok,lb,cq,Qh,cD,dC,pP,dK];done)) ?_
  simp only[u0,u1,u.bx,P,rk,gw,aj,y9,bh,b7,↓uL]
  refine⟨dJ ad,jH rfl (bdu k 4 (n:=0) u.le u.g5 a9 (by show L K.dU+L tk.body*bS 4<100000;omega)) ?_⟩
  rintro cT Y4 ⟨aR,n',l',rfl,g4,aq,F4,i4,p4⟩
  refine⟨F4.len,?_⟩
  have p5:∀q∈aA aR,q.1=27:=λq g=>(p4 q g).elim (u.p5 q) id
  have a7:∀q:Id,q.1≠27->q∉aA x5:=λq h g=>h (u.p5 q g)
  have b4:=F4.keep _ _ (a7 _ (by simp)) u.bx
  simp only[a1X,rr,aY,u1,b4,aj,↓uL]
  refine A0 b4 g4.ce (by simp) λY5 F5 b5=>?_
  simp only[a1W,↓uL]
  refine dT (by first|rfl|(simp[eL,okT,tok,lb,cq,Qh,cD,dC,pP,dK];done)) ?_
  have a6:∀q:Id,q.1≠3->q∉[((3,y):Id)]:=λq h g=>by simp at g;subst g;exact h rfl
  have N:Fx Y3 Y5 (aA x5++[(3,y)]):=F4.trans F5
  have D:∀q:Id,q.1≠27->q.1≠3->q∉aA x5++[((3,y):Id)]:=λq P S g=>(dF.1 g).elim (a7 q P) (a6 q S)
  have W5:Wo Y5 (3,y) {K with ay:=K.ay++[tk.name],dU:=l'} a0 a1 a2 a3 a' aR:=⟨b5,u.g0.fx N (λq g=>D q (by rw[u.p0 q g];decide) (by rw[u.p0 q g];decide)),u.g1.fx N (λq g=>D q (by rw[u.p1 q g];decide) (by rw[u.p1 q g];decide)),u.g2.fx N (λq g=>D q (by rw[u.p2 q g];decide) (by rw[u.p2 q g];decide)),u.g3.fx N (λq g=>D q (by rw[u.p3 q g];decide) (by rw[u.p3 q g];decide)),u.g4.fx N (λq g=>D q (by rw[u.p4 q g];decide) (by rw[u.p4 q g];decide)),g4.fx F5 (λq g=>a6 q (by rw[p5 q g];decide)),u.p0,u.p1,u.p2,u.p3,u.p4,p5,rfl,F5.len.trans (F4.len.trans u.le)⟩
  simp only[u0,u1,↓uL]
  refine dR (mk:=λ(_:Unit) i=>[iv i]) (s:=()) (s':=()) (λ_ _=>rfl) ad (by omega) ⟨_,a',aR,W5,w0,w1,w2,w3,N.keep _ _ (D _ (by simp) (by simp)) P,N.keep _ _ (D _ (by simp) (by simp)) S,by simp;omega,?_⟩
  have:L l'<=L K.dU+L tk.body*bS 4:=aq
  show L l'<=(k+1)*5000
  omega
def aUd:FT:=om aXi
def bb0{p Lw K}:=qz aUd aXi p Lw K (j:=by simp+contextual only[ij,Nb])
def aYc:dO:=(119,aUd)::a7B
def aX5:eJ aYc:=it (rj aXi) (aX4)
def aQV:=ai @bb0<|@aWj
section
attribute[local irreducible] aX
def a5E:=bi 28 [(7,([7],[2,3,4,5,6])),(13,([],[2,3,4,5,6,7,8])),(16,([9],[2,3,4,5,6,7,8])),(21,([],[2,3,4,5,6,7,8]))]
def aYU a(e:aG)(b:bu) f c:=aV (gt a 0) (iv 1) λd=>e [d] c/\b [d] c<b a f
def aY5 b c d e f g a:=aB 1 a b λh=>sV (aK 1 a h g) (aYU c d e f)
def aUC a c d e f g(l:eQ) b:=∀_:Rg,ab 1 b a λi=>aw 4 b c λj=>eV (aX aTM 1 b [(0,j)]) λk h=>eV (j5 203 aPM 72 h 93 i k) (aY5 a d e f g)
def a8h a f e h i j g k c m l(b:aG) d:=dH [(bo a),(bo f),km,(lb U [e,(iv 1)] []),(bo h),(lb U [(iv 13),i] []),(lb I [j] []),(lb I [g,k] [87]),(bo a),(lbV c m l)] [(0,6),(1,6)] (b [] d)
def aY6 b g f i j k h l e c a:=aB 3 a b λd=>sV (aK 1 a d c) (a8h b g f i j k h l a d c e)
def aUE m x c d f(e:aG):=bf (gt m 0) (iv 0) λb=>fm b x λq=>az b (rV (cO c q)) λr=>aT b 0 c r λs=>gE (gP U b) (λn=>cV 66 [s,(iv 3)] c 77 λt o=>n t o) c λu a=>az b (bf u (iv 2)) λv=>aD b v (bv I) λw=>ah w (aB 3 a d λg=>aM a g λh=>ao 1 a f (iv 1) λi=>aM a i λj=>rV (bM A4 aon [(0,(iv 13)),(2,j)]) λk=>eV (aX aNA 1 a [(0,k)]) λl p=>eV (j5 219 A4 176 p 87 h l) (aY6 d g f i j k h l e)) (e [] a)
def a8i a j r l m n k o g q p c b d e f i h:=dH [(bo a),(bo j),km,km,(bo r),(bo l),(bo m),(lb I [] [14,15,16]),(lb U [(iv 1),n] []),(lb I [] [14,15,16,30]),(lb I [k,o] [68]),(bo a),(lbV g q p)] [(0,7),(1,7),(2,7),(0,9),(1,9)] (jV 21 (aUC c a b d e f) (aUE b r h a i))
def aY7 b k q m n o l p e f g h i j c a:=aB 3 a b λd=>sV (aK 1 a d c) (a8i b k q m n o l p a d c e f g h i j)
def aY8 a d k o l m n c e f g h j b i:=eV (j5 219 A4 176 i 68 a b) (aY7 d k o l m n a b c e f g h j)
def aY9 o k c j l m b d e f g i a h:=aV (iv 1) a λn=>cV 124 [o,(iv 2),n] h 67 (aY8 k c j o l m a b d e f g i)
def aUB b n f g h i j k(o:eQ) a:=∀_:Rg,aB 3 a b λc=>aM a c λl=>rV (cO a n) λd=>aB 0 a d λe=>aM a e λm=>cV 66 [m,(iv 3)] a 65 (aY9 n l b c d e f g h i j k)
def a8j d g q a i j k h l f n m(o:aG)(e:bu) p b:=dH [(bo d),(bo g),km,km,(lb U [q,(gt a 0)] []),(bo i),(lb U [(iv 12),j] []),(lb I [k] []),(lb I [h,l] [56]),(bo d),(lbV f n m)] [(0,7),(1,7)] (aV (gt a 0) (iv 1) λc=>o [c] b/\e [c] b<e a p)
def aYV d e o k g h i f j l m n b a:=aB 3 a d λc=>sV (aK 1 a c b) (a8j d e o k g h i f j a c b l m n)
def aZa o i j(m:aG) l n b a:=∀_:Rg,aU (gt b 0) o λp=>ah p (aB 3 a i λc=>aM a c λd=>ao 1 a j (gt b 0) λe=>aM a e λf=>rV (bM A4 aon [(0,(iv 12)),(2,f)]) λg=>eV (aX aNA 1 a [(0,g)]) λh k=>eV (j5 219 A4 176 k 56 d h) (aYV i c j b e f g d h l n a)) (m [] a)
def aUD d b e c f(a:aG):=bf (gt d 0) (iv 0) λg=>ah g (lV [(iv 1)] b (aZa e c f a)) (a [] b)
def aYW a j d b e f g c i h:=jV 13 (aUB a j d b e f g c) (aUD b h i a c)
def aYX k n b c d e f j i l g:=rV (bM aPM alz [(0,k),(2,l)]) λm=>eV (bs 203 aPM g 8) λa h=>sV (aK 4 h a m) (aYW a n b c d e f j i)
def aYY c b k d e f g h a:=ao 1 a c (gt b 0) λi=>aM a i λj=>eV (aX C9 2 a [(0,(sv [97])),(1,(sv [98]))]) (aYX j k d b e f g c h)
def aYZ c t1 R d b:=rV (bM aP6 O7 [(0,c),(1,d)]) λe=>sV (aK 2 b t1 e) λa=>aw 2 a t1 λf=>aE R a [f]
def aY0 c b t1 R d a:=rV (bM aPM alz [(0,(sv [109,97,105,110])),(2,c),(3,d)]) λe=>eV (aX aTM 1 a [(0,e)]) (aYZ b t1 R)
def aY1 b t1 R c a:=fV aQC a [(iv 1)] λd=>fV aPN a [(sv [120]),d] λe=>eV (aX aNA 1 a [(0,e)]) (aY0 c b t1 R)
def aZb f s o b t1 R m n c a:=∀_:Rg,aU (gt c 0) f λp=>ah p (rV (cO a s) λq=>aB 1 a q λr=>sV (aK 1 a r (gt c 0)) (aYY o c s b m n a f)) (aw 2 a b λg=>fV aRi a [g] λe=>rV (eO 0 e) λh=>rV (eO 1 e) λt=>aO .neq h (iv 0) λi=>ah i (fV aSd a [] λj=>eV (aX C9 2 a [(0,(sv [97])),(1,(sv [98]))]) (aY1 j t1 R)) (aw 2 a b λk=>sV (aK 2 a t1 k) λd=>aw 2 d t1 λl=>aE R d [l]))
def aY2 g a t1 R d b:=aV (iv 2) d λe=>eV (aX C9 4 b [(0,(sv [109,97,105,110])),(1,(sv [116,49])),(2,(sv [116,50])),(3,(sv [116,51]))]) λf c=>lV [(iv 0)] c (aZb e g f a t1 R)
def aY3 e b t1 R a:=rV (cO a e) λc=>ab 0 a c λd=>cV 66 [d,(iv 3)] a 23 (aY2 e b t1 R)
def aY4 e R t1 f:=rV (bM aTP O7 [(0,e)]) λt3=>eV (qm 80 2 f 14 t3) λt4 g=>rV (bM a75 a6U [(0,t4),(2,(iv 20))]) λh=>eV (qm 213 8 g 16 h) λi c=>fV aSd c [] λj=>rV (bM aP6 O7 [(0,j)]) λd=>eV (bs 143 aP6 c 4) λa b=>sV (aK 2 b a d) (aY3 i a t1 R)
def aUA a s0 R:=eV (bs 143 aP6 s0 2) (aY4 a R)
def bgf{a:AV}{R:d7}(h:∀s0:ae,L s0=4096->(∀k,aZ s0 k=mO)->aUA a s0 R):Fn aS GG 74 [a] R:=by refine fnV (uq ready (aQ9 aX5) Tryz.func74 (an:=a5E) (by kernel_rfl) (Eq.mpr (show ZF aS GGV aYc a5E Tryz.f74 [a] R=(aUA a (ly Tryz.f74) R) by kernel_rfl) ?_));exact h _ uB (i8 _)
def a9m:=bi 32 [(9,([8,9],[1,2,7])),(21,([12],[1,2,7,8,9,10,11])),(27,([14],[1,2,7,8,9,10,11,12,13]))]
def a1u a(e:aG)(b:bu) f c:=aV (gt a 0) (iv 1) λd=>e [d] c/\b [d] c<b a f
def a1D f c d(h:aG)(e:bu) k i j b a:=∀_:Rg,aJ a f λl=>aU (gt b 0) l λm=>ah m (ab 0 a c λn=>ao 1 a f (gt b 0) λo=>aM a o λp=>aV p (iv 1) λq=>rV (AO .max n q) λr=>aB 0 a c λs=>sV (aK 1 a s r) (a1u b i j a)) (aV (gt d 0) (iv 1) λg=>h [g] a/\e [g] a<e d k)
def a1v a(f:aG) d(b:bu) g c:=aV (gt a 1) (iv 1) λe=>f [d,e] c/\b [d,e] c<b a g
def a1w b c d g e f h a:=aB 6 a b λi=>sV (aK 1 a i h) (a1v c d g e f)
def a1C e d c f g m i k h j b a:=∀_:Rg,rV (cO a e) λn=>ab 7 a n λo=>aJ a o λp=>aU (gt b 0) p λq=>ah q (rV (cO a e) λr=>ab 7 a r λs=>ao 6 a s (gt b 0) λt=>aw 6 a t λu=>fV aRj a [u] λv=>lV [(iv 0)] a (a1D v d b h j a)) (ab 6 a c λw=>aw 2 a d λx=>eV (aX a7Z 1 a [(0,x)]) λy l=>eV (j5 192 aTO 32 l 110 w y) (a1w c f g m i k))
def a8t a j k l n o m p b q c d e i f g h:=dH [km,(bo a),(bo j),(bo k),(bo l),km,(bo a),(bo n),(bo o),(lb U [m,p] []),(lb I [] [11]),(lb I [b,q] [])] [(0,10),(1,10),(2,10),(3,10),(4,10),(5,10),(6,10),(7,10),(8,10),(9,10)] (lV [(iv 0)] h (a1C a b c d e i f g))
def a1x b l m n r o p(s:AV) a:=rV (cO a b) λd=>aB 6 a d λe=>aM a e λf=>aJ a f λg=>rV (cO a b) λh=>aB 7 a h λi=>aM a i λj=>rV (bM aTO O7 [(0,g),(1,j)]) λk=>eV (bs 192 aTO a 11) λc q=>sV (aK 2 q c k) (a8t b d e f h i g j c k l m n r o p)
def a1y a b c d h e f g:=rV (bM Py C2 [(0,(iv 28))]) λi=>cB 121 [a,i] g 63 (a1x a b c d h e f)
def a1z b c d e f g(l:AV) a:=rV (cO a b) λh=>ab 9 a h λi=>rV (cO a b) λj=>aB 8 a j λk=>sV (aK 1 a k (iv (-1))) (a1y b c d e i f g)
def a1A t3 R a:=aw 7 a t3 λb=>aE R a [b,(iv 0),(iv 0)]
def a1E e c t3 R g h b a:=∀_:Rg,ab 1 a e λi=>aJ a i λj=>aU (gt b 1) j λk=>ah k (aB 0 a c λl=>aw 6 a l λm=>ab 1 a e λn=>ao 4 a n (gt b 1) λo=>ab 2 a o λp=>rV (bM a74 [(0,6),(6,1),(7,1),(8,1),(9,1)] [(0,m),(1,p),(4,(gt b 0))]) λq=>eV (qm 205 10 a 45 q) λf d=>ab 1 d e λr=>ao 4 d r (gt b 1) λs=>ab 3 d s λt=>cB 120 [f,t] d 53 (a1z f c b g h a)) (aw 7 a c λu=>sV (aK 7 a t3 u) (a1A t3 R))
def a1B c R t3 a:=aw 2 a c λn=>fV aRi a [n] λl=>rV (eO 0 l) λm=>rV (eO 1 l) λo=>aO .neq m (iv 0) λp=>ah p (rV (bM aOR aP0 []) λg=>sV (aK 7 a t3 g) λd=>aw 7 d t3 λh=>aE R d [h,m,o]) (aw 2 a c λi=>fV aUd a [i] λj=>rV (bM aOR aP0 [(0,j)]) λk=>eV (bs 92 aOR a 7) λb e=>sV (aK 7 e b k) λf=>lV [(iv 0),(iv 0)] f (a1E c b t3 R))
def a1t a b R:=eV (bs 92 aOR b 2) (a1B a R)
def bgU{b:List AV}{R:d7}(l0:L b=2)(h:H1 143 2 1 b λc d=>a1t c d R):Ct 73 [.a b] R:=z1 a9m aX5 Tryz.func73 l0 h
end
section
attribute[local irreducible] aX
def a8J:=bi 6 []
def aZc b l R a:=rV (cO a b) λc=>ab 0 a c λd=>rV (cO a b) λe=>ab 1 a e λf=>aO .sub f (iv 1) λg=>ao 1 a d g λh=>aM a h λi=>rV (sO (V .i64) i) λj=>aO .rem j l λk=>fe R a [k]
def aUF a c s0 R:=rV (cO s0 a) λt1=>ab 1 s0 t1 λt3=>rV (cO s0 a) λt4=>ab 0 s0 t4 λl=>aJ s0 l λm=>aO .geq t3 m λb=>ic b c λd=>aC b (aU d (iv 1)) λe=>aD b (bv U) e λf=>ah f (fe R s0 [(iv 0)]) (rV (cO s0 a) λg=>ab 1 s0 g λh=>aV h (iv 1) λi=>rV (cO s0 a) λj=>aB 1 s0 j λk=>sV (aK 1 s0 k i) (aZc a c R))
def bfH{a b:AV}{s0:ae}{R:be}(h:aUF a b s0 R):EB 66 [a,b] s0 R:=zB a8J aNH Tryz.func66 h
def bgg{a:AV}{b:AV}{s0:ae}{R:be}(c:L s0=4096)(h:aUF a b s0 R):EB 66 [a,b] s0 R:=by refine bfH ?_;exact h
def a8Q:=bi 2 []
def aUJ a b s0 R:=rV (cO s0 a) λt1=>ab 7 s0 t1 λt3=>fV FB s0 [t3,b] λt4=>aO .geq t4 (iv 0) λc=>fe R s0 [c]
def bfK{a b:AV}{s0:ae}{R:be}(h:aUJ a b s0 R):EB 215 [a,b] s0 R:=zB a8Q aNH Tryz.func215 h
def bgo{a:AV}{b:AV}{s0:ae}{R:be}(c:L s0=4096)(h:aUJ a b s0 R):EB 215 [a,b] s0 R:=by refine bfK ?_;exact h
def a8P:=bi 12 []
def aZq t1 R c a:=fV aQC a [c] λd=>sV (aK 4 a t1 d) λb=>aw 4 b t1 λe=>fe R b [e]
def aZt t3 t1 R c a:=ao 1 a t3 c λd=>aM a d λe=>fV aQB a [e] λf=>sV (aK 4 a t1 f) λb=>aw 4 b t1 λg=>fe R b [g]
def aZu t1 R c b:=rV (bM aOP alz [(0,(iv 3)),(2,(sv [113])),(3,c)]) λd=>sV (aK 4 b t1 d) λa=>aw 4 a t1 λe=>fe R a [e]
def a8k q h i b d j k c e g l m n t1 o R a:=dH [km,km,(bo q),(bo h),(bo i),km,(bo b),(cq I d),(lb U [b,j] []),(bo k),km,km,(lb U [c,(iv 1)] []),(cq I e),km,km,(lb U [c,(iv 1)] []),(cq I g),(Qh [(.f 213 [] []),l,m,n]),(lb I [t1,o] [])] [(0,7),(7,10),(7,11),(7,12),(0,13),(8,13),(9,13),(7,14),(13,14),(7,15),(13,15),(7,16),(13,16),(0,17),(8,17),(9,17)] (aw 4 a t1 λp=>fe R a [p])
def aZv b c t1 n j k i f l m o g h R d a:=fV aRg a [b,c,d] λe=>sV (aK 4 a t1 e) (a8k n j k i f l m o g h b c d t1 e R)
def aZw c b k t1 g h f d i j e R l a:=aO .sub c (iv 1) λm=>cB 212 [b,m] a 70 (aZv k l t1 b g h f d i j c e a R)
def aZx b f e t1 h i g R c a:=ao 1 a b c λd=>aM a d λj=>aO .sub f (iv 1) λk=>cB 212 [e,k] a 66 (aZw f e j t1 h i b g c d a R)
def aZy e h t1 R b a:=rV (cO a e) λc=>aB 0 a c λd=>aM a d λf=>aJ a b λg=>cB 66 [f,g] a 60 (aZx b h e t1 c d a R)
def aZz f d t1 R t3 e a:=aU e (iv 2) λb=>ic b f λh=>aC b (bf h (iv 0)) λi=>ic b i λc=>fm c e λj=>az c (aO .geq j (iv 7)) λk=>aC b (aD c k (bv I)) λl=>aD b (bv U) l λm=>ah m (rV (cO a d) λn=>ab 0 a n λo=>cB 66 [o,(iv 4)] a 29 (aZq t1 R)) (aU e (iv 7) λp=>ah p (rV (cO a d) λq=>ab 0 a q λr=>aJ a t3 λs=>cB 66 [r,s] a 41 (aZt t3 t1 R)) (bf e (iv 7) λt=>ah t (cB 212 [d,(iv 0)] a 49 λu g=>eV (aX aRb 1 g [(0,u)]) (aZu t1 R)) (eV (aX bH 6 a [(0,(iv 6)),(1,(iv 7)),(2,(iv 8)),(3,(iv 11)),(4,(iv 13)),(5,(iv 17))]) (aZy d f t1 R))))
def aZr b c t1 R t3 a:=rV (cO a b) λd=>ab 0 a d λe=>cB 66 [e,(iv 10)] a 13 (aZz c b t1 R t3)
def aZs a b R t1 c:=eV (aX C9 7 c [(0,(sv [97])),(1,(sv [98])),(2,(sv [120])),(3,(sv [121])),(4,(sv [118])),(5,(sv [120])),(6,(sv [121]))]) (aZr a b t1 R)
def aUI a b s0 R:=eV (bs 217 aOP s0 4) (aZs a b R)
def bfJ{a b:AV}{s0:ae}{R:be}(h:aUI a b s0 R):EB 212 [a,b] s0 R:=zB a8P aNH Tryz.func212 h
def bgm{a:AV}{b:AV}{s0:ae}{R:be}(c:L s0=4096)(h:aUI a b s0 R):EB 212 [a,b] s0 R:=by refine bfJ ?_;exact h
def a8O:=bi 5 []
def aZm b R d a:=rV (cO a b) λe=>ab 7 a e λf=>rV (cO a b) λg=>ab 7 a g λh=>aJ a h λi=>aO .sub i (iv 1) λj=>rV (fo 1 a f J (V j) J) λk=>rV (cO a b) λl=>aB 7 a l λm=>sV (aK 1 a m k) λc=>fe R c [d]
def aZn a e R c b:=aV (iv 1) c λd=>cB 124 [a,e,d] b 26 (aZm a R)
def aZo b e R a:=rV (cO a b) λc=>ab 0 a c λd=>cB 66 [d,(iv 2)] a 24 (aZn b e R)
def aZp b c R d a:=rV (cO a b) λe=>aB 7 a e λf=>sV (aK 1 a f d) (aZo b c R)
def aUH a b c s0 R:=rV (cO s0 a) λt1=>ab 7 s0 t1 λt3=>eV (aX C9 1 s0 [(0,b)]) λt4 d=>eV (j5 9 zz9 16 d 15 t3 t4) (aZp a c R)
def bfI{a b c:AV}{s0:ae}{R:be}(h:aUH a b c s0 R):EB 216 [a,b,c] s0 R:=zB a8O aNH Tryz.func216 h
def bgl{a:AV}{b:AV}{c:AV}{s0:ae}{R:be}(d:L s0=4096)(h:aUH a b c s0 R):EB 216 [a,b,c] s0 R:=by refine bfI ?_;exact h
def a8R:=bi 47 [(13,([],[4,7]))]
def a8l d c e b g h t1 i R a:=dH [(lb I [(sv [120]),(sv [121]),(sv [120]),(sv [118])] []),km,(lb U [d,c] []),(bo e),km,(cq I b),(Qh [(.f 125 [] []),g,h]),(lb I [t1,i] [])] [(0,1),(0,4),(0,5),(1,5),(2,5),(3,5)] (aw 11 a t1 λj=>fe R a [j])
def aZK b t1 g f h e R c a:=fV aPN a [b,c] λd=>sV (aK 11 a t1 d) (a8l g f h e b c t1 d R)
def aZS b f t1 R c a:=ao 1 a c b λd=>aM a d λe=>cB 212 [f,(iv 1)] a 49 (aZK e t1 c b d a R)
def a8m n e g b d h i c j k t1 l R a:=dH [(lb I [(sv [97]),(sv [98])] []),km,(bo n),(bo e),(bo g),(cq I b),(lb U [d,h] []),(bo i),km,(cq I c),(Qh [(.f 125 [] []),j,k]),(lb I [t1,l] [])] [(0,1),(0,2),(0,3),(0,4),(0,5),(0,8),(5,8),(0,9),(6,9),(7,9)] (aw 11 a t1 λm=>fe R a [m])
def aZ3 b t1 l h i e g j k f R c a:=fV aPN a [b,c] λd=>sV (aK 11 a t1 d) (a8m l h i e g j k f b c t1 d R)
def aZ4 b e t1 g h f R c a:=ao 1 a b c λd=>aM a d λi=>cB 212 [e,(iv 1)] a 63 (aZ3 i t1 e g h f b c d a R)
def aZ5 d t1 R e a:=rV (cO a d) λb=>aB 0 a b λc=>aM a c λf=>cB 66 [f,(iv 2)] a 59 (aZ4 e d t1 b c a R)
def aZ6 c t1 R d b:=rV (bM A4 aon [(0,(iv 1)),(2,(sv [113])),(4,c),(5,d)]) λe=>sV (aK 11 b t1 e) λa=>aw 11 a t1 λf=>fe R a [f]
def aZ7 c t1 R b a:=cB 212 [c,(iv 1)] a 72 (aZ6 b t1 R)
def aUO c t1 R(f:eQ) b:=∀_:Rg,aw 11 b c λe=>sV (aK 11 b t1 e) λa=>aw 11 a t1 λd=>fe R a [d]
def aZA c(f:aG) d a:=aB 10 a c λe=>sV (aK 1 a e d) λb=>f [] b
def aZB h g c(b:aG) d a:=bf d (iv 1) λe=>ah e (aO .sub h (iv 1) λf=>cB 124 [g,f,(iv 1)] a 97 (aZA c b)) (b [] a)
def aZ8 a f g b e:=rV (cO a f) λc=>ab 0 a c λd=>cB 66 [d,(iv 2)] a 92 (aZB g f b e)
def aZC a t1 R c d b:=jV 13 (aUO a t1 R) (aZ8 b c d a)
def aZD d t1 R g h e b:=rV (bM A4 aon [(0,(iv 2)),(5,d),(6,e)]) λf=>eV (bs 219 A4 b 7) λa c=>sV (aK 11 c a f) (aZC a t1 R g h)
def aZE b a t1 R d c:=aO .sub b (iv 1) λe=>cB 124 [a,e,(iv 1)] c 86 (aZD d t1 R a b)
def aZF c t1 R a:=aw 11 a c λd=>sV (aK 11 a t1 d) λb=>aw 11 b t1 λe=>fe R b [e]
def aZG f c b t1 R a:=rV (cO a f) λd=>aB 6 a d λe=>sV (aK 1 a e c) (aZF b t1 R)
def aZH e h d t1 R f b:=rV (bM A4 aon [(0,(iv 3)),(5,e),(6,f)]) λg=>eV (bs 219 A4 b 9) λa c=>sV (aK 11 c a g) (aZG h d a t1 R)
def aZI d k c t1 R e a:=fV aQB a [(sv [98])] λf=>fV aQC a [(iv 1)] λg=>fV aRg a [(iv 6),f,g] λh=>fV aPN a [(sv [98]),h] λi=>eV (aX aNA 1 a [(0,i)]) λj b=>eV (j5 219 A4 176 b 126 e j) (aZH d k c t1 R)
def aZJ h g b t1 R a:=fV aQB a [(sv [98])] λc=>fV aQC a [(iv 2)] λd=>fV aRg a [(iv 13),c,d] λe=>aO .sub h (iv 1) λf=>cB 124 [g,f,(iv 1)] a 120 (aZI e g b t1 R)
def aUL c t1 R d b:=rV (bM A4 aon [(0,(iv 4)),(2,c),(6,d)]) λe=>sV (aK 11 b t1 e) λa=>aw 11 a t1 λf=>fe R a [f]
def aUM g i h t1 R c a:=aO .sub g (iv 8) λd=>ao 1 a c d λe=>aM a e λb=>aO .sub i (iv 1) λf=>cB 216 [h,b,f] a 163 (aUL b t1 R)
def aUN c t1 R d b:=rV (bM A4 aon [(0,c),(2,(sv [114])),(6,d)]) λe=>sV (aK 11 b t1 e) λa=>aw 11 a t1 λf=>fe R a [f]
def aZL c t1 R a:=aw 11 a c λd=>sV (aK 11 a t1 d) λb=>aw 11 b t1 λe=>fe R b [e]
def aZM e b t1 R a:=rV (cO a e) λc=>aB 4 a c λd=>sV (aK 1 a d (bv I)) (aZL b t1 R)
def aZN f t1 R d b:=rV (bM A4 aon [(0,(iv 7)),(6,d)]) λe=>eV (bs 219 A4 b 11) λa c=>sV (aK 11 c a e) (aZM f a t1 R)
def aZO d t1 R b a:=aV (iv 1) b λc=>cB 124 [d,(iv 0),c] a 204 (aZN d t1 R)
def aZP d t1 R a:=rV (cO a d) λb=>ab 0 a b λc=>cB 66 [c,(iv 2)] a 202 (aZO d t1 R)
def aZQ c t1 R a:=aw 11 a c λd=>sV (aK 11 a t1 d) λb=>aw 11 b t1 λe=>fe R b [e]
def aZR e b t1 R a:=rV (cO a e) λc=>aB 5 a c λd=>sV (aK 1 a d (bv I)) (aZQ b t1 R)
def aZT f t1 R d b:=rV (bM A4 aon [(0,(iv 8)),(6,d)]) λe=>eV (bs 219 A4 b 12) λa c=>sV (aK 11 c a e) (aZR f a t1 R)
def aZU d c t1 R a:=aO .sub d (iv 1) λb=>cB 124 [c,b,(iv 2)] a 229 (aZT c t1 R)
def aZV t1 R c b:=rV (bM A4 aon [(0,(iv 4)),(2,(sv [109])),(6,c)]) λd=>sV (aK 11 b t1 d) λa=>aw 11 a t1 λe=>fe R a [e]
def aZW t1 R c b:=rV (bM A4 aon [(0,(iv 4)),(2,(sv [109])),(6,c)]) λd=>sV (aK 11 b t1 d) λa=>aw 11 a t1 λe=>fe R a [e]
def aZX t1 R b a:=aV (iv 10) b λc=>rV (bM A4 aon [(0,c),(2,(sv [99]))]) λd=>eV (aX aNA 1 a [(0,d)]) (aZW t1 R)
def aZY t1 R c b:=rV (bM A4 aon [(0,(iv 14)),(2,(sv [102])),(5,c)]) λd=>sV (aK 11 b t1 d) λa=>aw 11 a t1 λe=>fe R a [e]
def aZZ b t1 R a:=cB 212 [b,(iv 1)] a 306 (aZY t1 R)
def aSs t1 R c a:=fV aPN a [(sv [120]),c] λd=>sV (aK 11 a t1 d) λb=>aw 11 b t1 λe=>fe R b [e]
def aZ0 t b t1 R c e:=aO .gtr t (iv 0) λu=>fm u b λci=>az u (rV (cO e ci)) λck=>aT u 2 e ck λcl=>az u (aO .gtr cl (iv 0)) λcm=>aD u cm (bv I) λv=>fm v b λcn=>az v (rV (cO e cn)) λco=>aT v 4 e co λcp=>az v (cf cp) λcq=>aD v cq (bv I) λo=>aU c (iv 4) λcr=>ah cr (eV (aX C9 4 e [(0,(sv [120])),(1,(sv [121])),(2,(sv [120])),(3,(sv [118]))]) (aZS c b t1 R)) (bf c (iv 4) λcs=>ah cs (eV (aX C9 2 e [(0,(sv [97])),(1,(sv [98]))]) (aZ5 b t1 R)) (bf c (iv 5) λct=>ah ct (cB 212 [b,(iv 0)] e 69 λcu ch=>eV (aX aRb 1 ch [(0,cu)]) (aZ7 b t1 R)) (bf c (iv 6) λK=>fm K t λcv=>az K (aO .gtr cv (iv 0)) λcw=>aD K cw (bv I) λcx=>ah cx (cB 212 [b,(iv 1)] e 82 (aZE t b t1 R)) (bf c (iv 7) λx=>fm x t λae=>az x (aO .gtr ae (iv 0)) λaf=>aD x af (bv I) λag=>ah ag (rV (cO e b) λak=>ab 6 e ak λal=>rV (cO e b) λam=>aB 6 e am λan=>sV (aK 1 e an (bv U)) (aZJ t b al t1 R)) (bf c (iv 8) λy=>ic y c λap=>aC y (bf ap (iv 9)) λaq=>aD y (bv U) aq λC=>fm C o λar=>aD C ar (bv I) λf=>fm f b λau=>gE (gP U f) (λM=>eV (aX C9 2 e [(0,(sv [109])),(1,(sv [110]))]) λav W=>M av W) e λax p=>fm f c λay=>az f (aO .sub ay (iv 8)) λaA=>az f (ao 1 p ax aA) λaE=>az f (aM p aE) λaF=>gE (gP U f) (λN=>cB 215 [au,aF] p 150 λaG X=>N aG X) p λaI w=>az f (cf aI) λaJ=>aD f aJ (bv I) λaL=>ah aL (eV (aX C9 2 w [(0,(sv [109])),(1,(sv [110]))]) (aUM c t b t1 R)) (bf c (iv 10) λz=>ic z c λaN=>aC z (bf aN (iv 11)) λaP=>aD z (bv U) aP λD=>fm D o λaQ=>aD D aQ (bv I) λq=>fm q b λaR=>gE (gP U q) (λO=>cB 215 [aR,(sv [114])] w 177 λaW Z=>O aW Z) w λaY d=>az q (cf aY) λaZ=>aD q aZ (bv I) λa2=>ah a2 (aO .sub c (iv 10) λa3=>aV a3 (iv 5) λa4=>aO .sub t (iv 1) λa5=>cB 216 [b,(sv [114]),a5] d 186 (aUN a4 t1 R)) (bf c (iv 12) λE=>fm E o λa6=>aD E a6 (bv I) λa7=>ah a7 (rV (cO d b) λa8=>aB 4 d a8 λa9=>sV (aK 1 d a9 (bv U)) (aZP b t1 R)) (bf c (iv 13) λF=>fm F o λba=>aD F ba (bv I) λi=>fm i b λbb=>az i (rV (cO d bb)) λbc=>aT i 5 d bc λbd=>az i (cf bd) λbe=>aD i be (bv I) λbg=>ah bg (rV (cO d b) λbi=>aB 5 d bi λbj=>sV (aK 1 d bj (bv U)) (aZU t b t1 R)) (bf c (iv 14) λG=>fm G o λbk=>aD G bk (bv I) λj=>fm j b λbl=>az j (rV (cO d bl)) λbm=>aT j 5 d bm λbn=>az j (cf bn) λbo=>aD j bo (bv I) λr=>fm r b λbp=>gE (gP U r) (λP=>cB 215 [bp,(sv [109])] d 250 λbq aa=>P bq aa) d λbr h=>az r (cf br) λbs=>aD r bs (bv I) λbt=>ah bt (rV (bM A4 aon [(0,(iv 9)),(2,(sv [99]))]) λbu=>fV aQB h [(sv [120])] λbw=>fV aPN h [(sv [97]),bw] λbx=>eV (aX aNA 2 h [(0,bu),(1,bx)]) (aZV t1 R)) (bf c (iv 15) λH=>fm H o λbz=>aD H bz (bv I) λs=>fm s b λbA=>gE (gP U s) (λS=>cB 215 [bA,(sv [109])] h 266 λbB ac=>S bB ac) h λbC a=>az s (cf bC) λbD=>aD s bD (bv I) λbF=>ah bF (rV (cO a b) λbG=>ab 0 a bG λbH=>cB 66 [bH,(iv 2)] a 273 (aZX t1 R)) (bf c (iv 16) λk=>fm k b λbI=>az k (rV (cO a bI)) λbK=>aT k 4 a bK λbL=>az k (cf bL) λbO=>aD k bO (bv I) λl=>fm l b λbQ=>az l (rV (cO a bQ)) λbR=>aT l 6 a bR λbS=>az l (cf bS) λbT=>aD l bT (bv I) λm=>fm m b λbU=>az m (rV (cO a bU)) λbV=>aT m 3 a bV λbW=>az m (cf bW) λbY=>aD m bY (bv I) λb0=>ah b0 (rV (cO a b) λb1=>aB 3 a b1 λb2=>sV (aK 1 a b2 (bv U)) (aZZ b t1 R)) (bf c (iv 17) λn=>fm n b λb3=>az n (rV (cO a b3)) λb4=>aT n 4 a b4 λb5=>az n (cf b5) λb6=>aD n b6 (bv I) λg=>fm g b λb7=>az g (rV (cO a b7)) λb8=>aT g 0 a b8 λb9=>gE (gP U g) (λT=>cB 66 [b9,(iv 2)] a 323 λca ad=>T ca ad) a λcb A=>az g (bf cb (iv 1)) λcc=>aD g cc (bv I) λcd=>ah cd (rV (bM A4 aon [(0,(iv 15)),(2,(sv [97])),(3,(sv [102]))]) λce=>sV (aK 11 A t1 ce) λB=>aw 11 B t1 λcg=>fe R B [cg]) (cB 212 [b,(iv 1)] A 328 (aSs t1 R))))))))))))))
def aZ1 b e t1 R a:=rV (cO a b) λc=>ab 0 a c λd=>cB 66 [d,(iv 18)] a 24 (aZ0 e b t1 R)
def aZ2 b c R t1 a:=rV (cO a b) λt3=>ab 2 a t3 λd=>aO .sub d (iv 1) λe=>rV (cO a b) λf=>aB 2 a f λg=>sV (aK 1 a g e) (aZ1 b c t1 R)
def aUK a b s0 R:=eV (bs 219 A4 s0 4) (aZ2 a b R)
def bfL{a b:AV}{s0:ae}{R:be}(h:aUK a b s0 R):EB 179 [a,b] s0 R:=zB a8R aNH Tryz.func179 h
def bgp{a:AV}{b:AV}{s0:ae}{R:be}(c:L s0=4096)(h:aUK a b s0 R):EB 179 [a,b] s0 R:=by refine bfL ?_;exact h
def a8S:=bi 9 [(4,([7,8],[0,1,2]))]
def aZ9 d(e:aG)(m1:bu) f b a:=aV (gt d 1) (iv 1) λc=>e [b,c] a/\m1 [b,c] a<m1 d f
def aUQ a f m1 g d b:=eV (aX aNA 1 b [(0,d)]) λe c=>eV (j5 219 A4 176 c 30 (gt a 0) e) (aZ9 a f m1 g)
def aRp m d l R k m1 b c:=∀_:Rg,aU (gt b 1) m λt3=>fm t3 (gt b 1) λn=>az t3 (bf n (iv 0)) λo=>fm t3 o λa=>ic a d λe=>aC a (rV (cO c e)) λf=>bn a 2 c f λg=>aC a (aO .gtr g (iv 0)) λh=>az t3 (aD a (bv U) h) λi=>aD t3 i (bv I) λj=>ah j (cB 179 [d,l] c 28 (aUQ b k m1 c)) (fe R c [(gt b 0)])
def aUP a b c s0 R:=lV [(.l [] U U),(iv 0)] s0 (aRp c a b R)
def bfM{a b c:AV}{s0:ae}{R:be}(h:aUP a b c s0 R):EB 124 [a,b,c] s0 R:=zB a8S aNH Tryz.func124 h
def bgq{a:AV}{b:AV}{c:AV}{s0:ae}{R:be}(d:L s0=4096)(h:aUP a b c s0 R):EB 124 [a,b,c] s0 R:=by refine bfM ?_;exact h
end
structure Tp(Y:ae)(b:Id)(l:List Int)(at':Nat):Prop where
 bx:box Y b=V ⟨80,2,U,U,[[sl cu l,iv at']]⟩
 le:at'<=L l
 ok:∀x∈l,0<=x/\x<256
 ll:L l<4611686018427387904
def Tp.fx{Y Y':ae}{b:Id}{l:List Int}{a:Nat}{ks:List Id}(T:Tp Y b l a)(F:Fx Y Y' ks)(h:b∉ks):Tp Y' b l a:=⟨F.keep _ _ h T.bx,T.le,T.ok,T.ll⟩
def a6S{Y:ae}{l:List Int}:fS Y (sl cu l)=V (iv (L l)):=cT
def aWF{Y:ae}{b:Id}{l:List Int}{a:Nat}(q:L Y=4096)(T:Tp Y b l a)(n:Int):∃r Y1,(∃(x:Int) (f:Nat),r=iv x/\0<=x/\(1<=n->x<n)/\Tp Y1 b l f/\a<=f/\(a<L l->1<=n->f=a+1)/\Fx Y Y1 [b])/\cZ aS GG 66 [.p b 0 0,iv n] Y r Y1:=by refine bgg q ?_;have i:=T.bx;have u:=T.ll;simp+contextual only[aUF,oo i,u0,u1,i,yr,C5,yd,aj,↓uL];refine⟨λh=>?_,λh=>?_⟩;refine⟨0,a,rfl,by omega,λh=>by omega,T,by omega,λh1 h2=>?_,Fx.refl _ _⟩;simp at h;omega;simp only[cP,o8] at h;have c:a<L l:=(by omega);rw[fX (by omega)];refine A0 i rfl (by simp) λY1 j g=>?_;have s:=T.ok _ (dB c);simp only[aZc,oo g,u0,u1,g,yr,C5,yd,aj,List.set_cons_succ,List.set_cons_zero,a6E,cu,qM,aS6,aPR,aP1,↓uL];have k:dq.wrap (((a+1:Nat):Int)-1)=(a:Int):=(by rw[eM (by omega) (by omega)];omega);rw[k,bh,eM (x:=gd l a) (by omega) (by omega)];refine⟨dJ c,by omega,_,a+1,rfl,Int.tmod_nonneg _ s.1,λh1=>Int.tmod_lt_of_pos _ (by omega),⟨g,c,T.ok,T.ll⟩,by omega,λ_ _=>rfl,j⟩
def a55{Y:ae}{b:Id}{l:List Int}{a:Nat}(q:L Y=4096)(T:Tp Y b l a){n:Int}{d:Nat}{K:be}(k:∀(x:Int) (c:Nat) Y1,0<=x->(1<=n->x<n)->Tp Y1 b l c->a<=c->(a<L l->1<=n->c=a+1)->Fx Y Y1 [b]->K (iv x) Y1):cB 66 [.p b 0 0,iv n] Y d K:=by refine jH rfl (aWF q T n) ?_;rintro r Y1 ⟨x,c,rfl,h1,h2,g,i,j,f⟩;exact⟨f.len,k x c Y1 h1 h2 g i j f⟩
structure qa(Y:ae)(m b:Id)(hs:List ByteArray)(h:AV):Prop where
 mx:∃(th lf:Int) (s tx at' lp:Bool),box Y m=V ⟨213,8,U,U,[[.p b 0 0,iv th,iv lf,bv s,bv tx,bv at',bv lp,h]]⟩
 tp:∃l a,Tp Y b l a
 gh:gm Y 9 1 h (hs.map cs)
 le:L Y=4096
 sm:m.1=16
 sb:b.1=14
 sh:∀q∈aA h,q.1=15
section
variable{Y Y':ae}{m b:Id}{hs:List ByteArray}{h:AV}{d:Nat}{K:be}
def qa.ne(M:qa Y m b hs h):m≠b:=λe=>by have h1:=M.sm;have h2:=M.sb;rw[<-e] at h2;omega
def qa.fx{ks:List Id}(M:qa Y m b hs h)(F:Fx Y Y' ks)(h1:m∉ks)(h2:b∉ks)(f:∀q∈aA h,q∉ks):qa Y' m b hs h:=by obtain⟨k,i,s,tx,c,j,g⟩:=M.mx;obtain⟨l,a,T⟩:=M.tp;exact⟨⟨k,i,s,tx,c,j,F.keep _ _ h1 g⟩,⟨l,a,T.fx F h2⟩,M.gh.fx F f,F.len.trans M.le,M.sm,M.sb,M.sh⟩
def qa.fx0(M:qa Y m b hs h)(F:Fx Y Y' []):qa Y' m b hs h:=M.fx F (by simp) (by simp) (by simp)
def qa.nb(M:qa Y m b hs h):∀q∈aA h,q∉[b]:=λq a e=>by have:=M.sh q a;have:=M.sb;simp at e;subst e;omega
def qa.nm(M:qa Y m b hs h):∀q∈aA h,q∉[m]:=λq a e=>by have:=M.sh q a;have:=M.sm;simp at e;subst e;omega
def aO4(M:qa Y m b hs h){n:Int}(i:∀(x:Int) Y1,0<=x->(1<=n->x<n)->qa Y1 m b hs h->Fx Y Y1 [b]->K (iv x) Y1):cB 66 [.p b 0 0,iv n] Y d K:=by obtain⟨r,k,s,tx,c,q,j⟩:=M.mx;obtain⟨l,a,T⟩:=M.tp;refine a55 M.le T λx f Y1 h1 h2 g _ _ F=>i x Y1 h1 h2 ⟨⟨r,k,s,tx,c,q,F.keep _ _ (by simpa using M.ne) j⟩,⟨l,f,g⟩,M.gh.fx F M.nb,F.len.trans M.le,M.sm,M.sb,M.sh⟩ F
def aPJ(M:qa Y m b hs h){j:Nat}{x:AV}{K:ae->Prop}(q:(j=1\/j=2)/\(∃n:Int,x=iv n)\/(3<=j/\j<=6)/\∃u:Bool,x=bv u)(r:∀Y1,qa Y1 m b hs h->Fx Y Y1 [m]->K Y1):sV (aK 1 Y (.p m 0 j) x) K:=by obtain⟨k,g,s,tx,c,i,v⟩:=M.mx;obtain⟨l,a,T⟩:=M.tp;have w:eY x=V [x]:=(by rcases q with⟨_,n,rfl⟩|⟨_,u,rfl⟩<;>rfl);refine A0 v w (by simp;omega) λY1 F f=>r Y1 ⟨?_,⟨l,a,T.fx F (by simpa using M.ne.symm)⟩,M.gh.fx F M.nm,F.len.trans M.le,M.sm,M.sb,M.sh⟩ F;rcases q with⟨h1|h1,n,rfl⟩|⟨h1,u,rfl⟩;subst h1;exact⟨n,g,s,tx,c,i,f⟩;subst h1;exact⟨k,n,s,tx,c,i,f⟩;obtain rfl|rfl|rfl|rfl:j=3\/j=4\/j=5\/j=6:=(by omega);exact⟨k,g,u,tx,c,i,f⟩;exact⟨k,g,s,u,c,i,f⟩;exact⟨k,g,s,tx,u,i,f⟩;exact⟨k,g,s,tx,c,u,f⟩
def bdh(M:qa Y m b hs h)(g:L hs<1000)(s:ByteArray):∃r Y1,((∃v,r= .s v/\∃u:Bool,v= .bool u)/\Fx Y Y1 [])/\cZ aS GG 215 [.p m 0 0,st s] Y r Y1:=by refine bgo M.le ?_;obtain⟨k,i,s,tx,f,j,a⟩:=M.mx;have c:dG Y h=sl cs hs:=M.gh.ar;simp only[aUJ,oo a,u0,u1,a,yr,C5,yd,aj,jM,kU,jt,c,tW,aD6,AL,mn,↓uL];exact⟨by omega,⟨_,rfl,_,rfl⟩,Fx.refl _ _⟩
def aQP(M:qa Y m b hs h)(c:L hs<1000){s:ByteArray}(a:∀u:Bool,K (bv u) Y):cB 215 [.p m 0 0,st s] Y d K:=aV6 rfl (bdh M c s) (by rintro v ⟨u,rfl⟩;exact a u)
def isE(k:Nat)(r:AV):Prop:=∃(e:fc) (t o:Bool),C6 k e/\r= .a [iv e.op,iv e.n,st e.name, .l (e.l.map fc.c) t o]
def isE.mono{k n:Nat}{r:AV}(h:isE k r)(a:k<=n):isE n r:=by obtain⟨e,t,o,h1,h2⟩:=h;exact⟨e,t,o,h1.mono a,h2⟩
def ExR(Y:ae)(m b:Id)(hs:List ByteArray)(h:AV)(k:Nat)(r:AV)(Y1:ae):Prop:=isE k r/\qa Y1 m b hs h/\Fx Y Y1 [b]
def aTx{q:Id}{T:TypeId}{z:Nat}{r cs:List AV}{R:be}(i:box Y q=V ⟨T,z,U,U,[r]⟩)(j:L r=z)(c:L cs=z)(g:∀Y1,Fx Y Y1 [q]->R (.a cs) Y1):sV (aK z Y (.p q 0 0) (.a cs)) λs=>rV (kb (V z) s (.p q 0 0)) λt=>fe R s [t]:=by refine qr i j c λY1 F f=>?_;have:kb (V z) Y1 (.p q 0 0)=V (.a cs):=(by simp[kb,iE,f,aN,<-c]);rw[this];exact g Y1 F
def baK{Y:ae}:aX C9 7 Y [(0,(sv [97])),(1,(sv [98])),(2,(sv [120])),(3,(sv [121])),(4,(sv [118])),(5,(sv [120])),(6,(sv [121]))]=V (.l ([⟨#[97]⟩,⟨#[98]⟩,⟨#[120]⟩,⟨#[121]⟩,⟨#[118]⟩,⟨#[120]⟩,⟨#[121]⟩].map cs) U U,Y):=by kernel_rfl
def baN{Y:ae}:aX bH 6 Y [(0,(iv 6)),(1,(iv 7)),(2,(iv 8)),(3,(iv 11)),(4,(iv 13)),(5,(iv 17))]=V (.l ([6,7,8,11,13,17].map ci) U U,Y):=by kernel_rfl
def aSY{e:fc}{t o:Bool}:dG Y (.a [iv e.op,iv e.n,st e.name, .l (e.l.map fc.c) t o])= .a e.c:=by rw[aoH];rfl
def aXO{x:Value}{c d:List AV}{r:AV}(h:eB (.a c)=[])(f:eB (.a d)=[]):lo Y [.s x, .a c, .a d] r=True:=by have e:eB (.s x)=[]:=rfl;simp[lo,nA,h,f,e]
def aXP{x:Value}{c:List AV}{r:AV}(h:eB (.a c)=[]):lo Y [.s x, .a c] r=True:=by have e:eB (.s x)=[]:=rfl;simp[lo,nA,h,e]
def a6T{x:Value}{r:AV}:lo Y [.s x] r=True:=by simp[lo,nA,eB,iR]
def aWC{k:Nat}{e:fc}(h:C6 k e):isE k (.a e.c):=⟨e,I,I,h,by rw[aoH];rfl⟩
def a6K{n:Nat}(hn:n<=1)(ih:n=1->∀{Y:ae},qa Y m b hs h->∃r Y1,ExR Y m b hs h 1 r Y1/\cZ aS GG 212 [.p m 0 0,iv 0] Y r Y1)(M:qa Y m b hs h):
  ∃r Y1,ExR Y m b hs h (n+1) r Y1/\cZ aS GG 212 [.p m 0 0,iv n] Y r Y1:=by
 obtain⟨m1,H⟩:=m
 obtain rfl:m1=16:=M.sm
 obtain⟨b1,A⟩:=b
 obtain rfl:b1=14:=M.sb
 refine bgm M.le ?_
 simp only[aUI]
 refine so M.le λv s1 Z N1 q1=>?_
 simp only[aZs,baK,bQ]
 have M1:=M.fx0 Z
 obtain⟨th,lf,s,tx,ad,lp,R⟩:=M1.mx
 simp only[aZr,oo R,u0,u1,R,yr,yd,aj,↓uL]
 refine aO4 M1 λx s2 h1 h2 E F2=>?_
 have h2:=h2 (by decide)
 obtain⟨th,lf,s,tx,ad,lp,D⟩:=E.mx
 have P:=F2.kq q1
 have N:Fx Y s2 [(14,A)]:=(Z.trans F2).mono (by simp)
 have C:∀{g i:ae} {r:AV},isE (n+1) r->qa g (16,H) (14,A) hs h->Fx Y g [(14,A)]->Fx g i [(4,v)]->ExR Y (16,H) (14,A) hs h (n+1) r i:=λF k f j=>
  ⟨F,k.fx j (by simp) (by simp) (λq O e=>by have:=M.sh q O;simp at e;subst e;simp at this),(f.trans j).mono (λq O=>by
   simp only[dF,cE] at O⊢
   rcases O with h|h
   ·exact .inl h
   ·subst h;exact .inr N1.no)⟩
 have T:∀{g:ae} {d:Nat} {K:be},n=1->qa g (16,H) (14,A) hs h->(∀r i,isE 1 r->qa i (16,H) (14,A) hs h->Fx g i [(14,A)]->K r i)->cB 212 [.p (16,H) 0 0,iv 0] g d K:=λh1 k hK=>by
  refine jH rfl (ih h1 k) ?_
  rintro r i ⟨g1,w,g3⟩
  exact⟨g3.len,hK r i g1 w g3⟩
 simp+contextual only[aZz,oo D,u0,u1,D,yr,yd,aj,gT,↓uL]
 refine⟨λ_=>?_,λhc=>⟨λ_=>?_,λh7=>⟨λW=>?_,λW=>?_⟩⟩⟩
 ·refine aO4 E λy g g1 w k f=>?_
  have B:=f.kq P
  simp only[aZq,jM,kU,jt,tW,aD6,a6T,mn,↓uL]
  exact aTx B rfl aN9 λi j=>C (aWC ⟨.inl ⟨.inl rfl,rfl⟩,by simp[fc.l]⟩) k ((N.trans f).mono (by simp)) j
 ·refine aO4 E λy g g1 w k f=>?_
  have B:=f.kq P
  have w:=w (by decide)
  simp only[aZt,amZ,u0,u1,rk,gw,jM,kU,jt,tW,aD6,a6T,mn,↓uL]
  exact⟨⟨g1,w⟩,aTx B rfl aN9 λi j=>C (aWC ⟨.inl ⟨.inr rfl,rfl⟩,by simp[fc.l]⟩) k ((N.trans f).mono (by simp)) j⟩
 ·have u:n=1:=by simp at hc h7 W;omega
  refine T u E λr g F k f=>?_
  have B:=f.kq P
  obtain⟨e,t,o,X,rfl⟩:=F
  have al:aX aRb 1 g [(0, .a [iv e.op,iv e.n,st e.name, .l (e.l.map fc.c) t o])]=V (.l [e.c] U U,g):=aQm (by rw[aoH];rfl) aN9 (by decide) (by rw[aoH];rfl) (by decide)
  simp only[al,bQ,aZu,↓uL]
  have ak:bM aOP alz [(0,(iv 3)),(2,(sv [113])),(3, .l [e.c] U U)]=V (.a [iv 3,iv 0,sv [113], .l [e.c] U U]):=rfl
  simp only[ak,aY]
  refine aTx B rfl rfl λi j=>C ⟨fc.mk 3 0 ⟨#[113]⟩ [e],U,U,⟨.inr (.inl ⟨rfl,rfl,rfl⟩),?_⟩,rfl⟩ k ((N.trans f).mono (by simp)) j
  intro y G
  simp only[fc.l,cE] at G
  subst G
  subst u
  exact X
 ·have u:n=1:=by simp at hc h7 W;omega
  have e0:dq.wrap ((n:Int)-1)=0:=by subst u;rfl
  simp only[baN,bQ,aZy,oo D,u0,u1,D,yr,yd,aj,gT,↓uL]
  refine aO4 E λy g g1 w k f=>?_
  have w:=w (by decide)
  have B:=f.kq P
  simp only[aZx,tf,u0,u1,rk,gw,e0,↓uL]
  refine⟨⟨g1,w⟩,T u k λr i F M4 j=>?_⟩
  have q4:=j.kq B
  simp only[aZw,u0,u1,e0,↓uL]
  refine T u M4 λr' s5 ao M5 F5=>?_
  have q5:=F5.kq q4
  obtain⟨e,t,o,X,rfl⟩:=F
  obtain⟨e',t',o',an,rfl⟩:=ao
  have S:6<=gd [(6:Int),7,8,11,13,17] y.toNat:=by
   have:∀z∈[(6:Int),7,8,11,13,17],6<=z:=by decide
   exact this _ (dB (by simp;have:([(6:Int),7,8,11,13,17].length:Int)=6:=rfl;omega))
  generalize gd [(6:Int),7,8,11,13,17] y.toNat=op at S
  simp only[aZv,jM,kU,jt,tW,aSY,aD6]
  rw[aXO rfl rfl]
  refine⟨trivial,qr q5 rfl aN9 λs6 F6 b6=>?_⟩
  refine dT (by simp[eL,lb,cq,Qh,cD,dC,dK]) ?_
  have:kb (V 4) s6 (.p (4,v) 0 0)=V (.a (fc.mk op 0 ⟨#[]⟩ [e,e']).c):=by simp only[aC5,b6,aww,aBF,df,axE,awx,a69]
  rw[art,this]
  refine C (aWC ⟨.inr (.inr ⟨S,rfl⟩),?_⟩) M5 ((((N.trans f).trans j).trans F5).mono (by simp)) F6
  subst u
  intro y G
  simp only[fc.l,eW,ql,C8] at G
  rcases G with rfl|rfl
  ·exact X
  ·exact an
def a6J(M:qa Y m b hs h):∃r Y1,ExR Y m b hs h 1 r Y1/\cZ aS GG 212 [.p m 0 0,iv 0] Y r Y1:=a6K (n:=0) (by omega) (λh=>by omega) M
def bdg(M:qa Y m b hs h):∃r Y1,ExR Y m b hs h 2 r Y1/\cZ aS GG 212 [.p m 0 0,iv 1] Y r Y1:=a6K (n:=1) (by omega) (λ_ {Y} M=>a6J M) M
def baU(M:qa Y m b hs h)(f:∀r Y1,isE 2 r->qa Y1 m b hs h->Fx Y Y1 [b]->K r Y1):cB 212 [.p m 0 0,iv 0] Y d K:=by refine jH rfl (a6J M) ?_;rintro r g ⟨g1,c,a⟩;exact⟨a.len,f r g (g1.mono (by omega)) c a⟩
def aQO(M:qa Y m b hs h)(f:∀r Y1,isE 2 r->qa Y1 m b hs h->Fx Y Y1 [b]->K r Y1):cB 212 [.p m 0 0,iv 1] Y d K:=by refine jH rfl (bdg M) ?_;rintro r g ⟨g1,c,a⟩;exact⟨a.len,f r g g1 c a⟩
structure RH(m b:Id)(Y:ae)(h:AV)(Y1:ae)(h1:AV):Prop where
 f:Fx Y Y1 (m::b::aA h)
 i:∀q∈aA h1,q∈aA h\/bK Y q
section
variable{Y2 Y1:ae}{h1 h2:AV}
def RH.refl:RH m b Y h Y h:=⟨Fx.refl _ _,λ_ g=> .inl g⟩
def RH.trans(H:RH m b Y h Y1 h1)(j:RH m b Y1 h1 Y2 h2):RH m b Y h Y2 h2:=by refine⟨(H.f.trans j.f).mono λq c=>?_,λq c=>(j.i q c).elim (H.i q) λg=> .inr (g.old H.f)⟩;rcases dF.1 c with g|g;exact .inl g;rcases eW.1 g with g|g;exact .inl (by simp[g]);rcases eW.1 g with g|g;exact .inl (by simp[g]);rcases H.i q g with a|a;exact .inl (by simp[a]);exact .inr a.no
def RH.of{ks:List Id}(F:Fx Y Y1 ks)(a:∀q∈ks,q=m\/q=b\/bK Y q):RH m b Y h Y1 h:=⟨F.mono λq c=>by
 rcases a q c with rfl|rfl|g
 ·exact .inl (by simp)
 ·exact .inl (by simp)
 ·exact .inr g.no,λ_ g=> .inl g⟩
def RH.ofb(F:Fx Y Y1 [b]):RH m b Y h Y1 h:= .of F (by simp)
def RH.ofm(F:Fx Y Y1 [m]):RH m b Y h Y1 h:= .of F (by simp)
def RH.of0(F:Fx Y Y1 []):RH m b Y h Y1 h:= .of F (by simp)
def RH.new(H:RH m b Y h Y1 h1){q:Id}(F:Fx Y1 Y2 [q])(c:bK Y q):RH m b Y h Y2 h1:=
 ⟨(H.f.trans F).mono λp a=>by
  rcases dF.1 a with g|g
  ·exact .inl g
  ·simp at g;subst g;exact .inr c.no,H.i⟩
def qa.out(M:qa Y m b hs h):∀q:Id,q.1≠14->q.1≠15->q.1≠16->q∉m::b::aA h:=λq g1 a c f=>by
 rcases eW.1 f with g|g
 ·subst g;exact c M.sm
 rcases eW.1 g with g|g
 ·subst g;exact g1 M.sb
 ·exact a (M.sh q g)
end
def aTj{x:eo}:eB (.a x.c)=[]:=by rw[apT];rfl
def aYy{a:ae}{x:eo}:Lv a Y x.c x.c:=⟨by rw[apT];rfl,by rw[aTj];simp⟩
def aPq{i:ae}{op:Int}{nm j:ByteArray}{index:List fc}{e:fc}{t o v o':Bool}{a f:AV}{body els:List eo}(p:gm Y 219 11 a (body.map eo.c))(r:gm Y 219 11 f (els.map eo.c))(s:∀q∈aA a,bK i q)(u:∀q∈aA f,bK i q):Lv i Y [iv op,iv 0,st nm,st j, .l (index.map fc.c) v o',iv e.op,iv e.n,st e.name, .l (e.l.map fc.c) t o,a,f] (eo.mk op 0 nm j index e body els).c:=by refine⟨?_,λq k=>?_⟩;rw[apT];simp only[ji,mU,aOb p,aOb r,aQ5,aXQ];rfl;simp only[eB,Cz,RN,iR,dW,cL,dF] at k;rcases k with g|g;(exact s q (by cases a<;>first|exact g|simp[iR] at g));exact u q (by cases f<;>first|exact g|simp[iR] at g)
def aPB{op:Int}{nm k:ByteArray}{index:List fc}{e:fc}{t o s o':Bool}{f i:AV}{P:Id->Prop}(p:∀q∈aA f,P q)(r:∀q∈aA i,P q):∀q∈eB (.a [iv op,iv 0,st nm,st k, .l (index.map fc.c) s o',iv e.op,iv e.n,st e.name, .l (e.l.map fc.c) t o,f,i]),P q:=λq j=>by
 simp only[eB,Cz,RN,iR,dW,cL,dF] at j
 rcases j with g|g
 ·exact p q (by cases f<;>first|exact g|simp[iR] at g)
 ·exact r q (by cases i<;>first|exact g|simp[iR] at g)
def SmR(Y:ae)(m b:Id)(hs:List ByteArray)(h:AV)(d:Nat)(r:AV)(Y1:ae):Prop:=∃cs x f,r= .a cs/\Lv Y Y1 cs (eo.c x)/\(∀q∈eB (.a cs),q.1=30\/q.1=126)/\A5 (d+1) x/\qa Y1 m b hs f/\RH m b Y h Y1 f
def SsR(Y:ae)(m b:Id)(hs:List ByteArray)(h:AV)(d:Nat)(n:Int)(r:AV)(Y1:ae):Prop:=∃(l:List eo) (a:AV),gm Y1 219 11 r (l.map eo.c)/\L l<=n/\(∀x∈l,A5 (d+1) x)/\(∀q∈aA r,bK Y q/\q.1=30)/\qa Y1 m b hs a/\RH m b Y h Y1 a
def aQH(m b:Id)(d:Nat):Prop:=∀{Y:ae} {hs:List ByteArray} {h:AV} {n:Int},qa Y m b hs h->L hs+d<=500->0<=n->n<=3->∃r Y1,SsR Y m b hs h d n r Y1/\cZ aS GG 124 [.p m 0 0,iv d,iv n] Y r Y1
def aQQ{D:Nat}(C:aQH m b D)(M:qa Y m b hs h)(B:L hs+D<=500){i n:Int}(A:i=D)(w:0<=n)(y:n<=3)(z:∀(a:AV) (l:List eo) (g:AV) Y1,gm Y1 219 11 a (l.map eo.c)->(L l:Int)<=n->(∀x∈l,A5 (D+1) x)->(∀q∈aA a,bK Y q/\q.1=30)->qa Y1 m b hs g->RH m b Y h Y1 g->K a Y1):cB 124 [.p m 0 0,iv i,iv n] Y d K:=by subst A;refine jH rfl (C M B w y) ?_;rintro r Y1 ⟨l,g,g1,k,s,u,v,j⟩;exact⟨j.f.len,z r l g Y1 g1 k s u v j⟩
def baO{Y:ae}{x:ByteArray}:aX C9 1 Y [(0,st x)]=V (.l ([x].map cs) U U,Y):=iz
def bdS(M:qa Y m b hs h){h1:AV}{c:List ByteArray}{K:ae->Prop}(g:gm Y 9 1 h1 (c.map cs))(i:∀q∈aA h1,q.1=15)(k:∀Y1,qa Y1 m b c h1->Fx Y Y1 [m]->K Y1):sV (aK 1 Y (.p m 0 7) h1) K:=by obtain⟨w,u,s,tx,f,v,n⟩:=M.mx;obtain⟨l,a,T⟩:=M.tp;refine A0 n g.ce (by simp) λY1 F j=>k Y1 ⟨⟨w,u,s,tx,f,v,j⟩,⟨l,a,T.fx F (by simpa using M.ne.symm)⟩,g.fx F (λq r e=>by have:=i q r;have:=M.sm;simp at e;subst e;omega),F.len.trans M.le,M.sm,M.sb,i⟩ F
def bdd{D:Nat}(ih:aQH m b D)(M:qa Y m b hs h)(hl:L hs+D+1<=500){s:ByteArray}{W:Int}(hd:W=D):∃r Y1,SsR Y m b hs h D 2 r Y1/\cZ aS GG 216 [.p m 0 0,st s,iv W] Y r Y1:=by
 refine bgl M.le ?_
 obtain⟨O,G,s',tx,k,H,E⟩:=M.mx
 simp only[aUH,oo E,u0,u1,E,yr,C5,yd,aj,baO,↓uL]
 refine apQ M.gh M.le (qW (f:=Ab.cs) (z:=1) λ_=>rfl) (qW (f:=Ab.cs) (z:=1) λ_=>rfl) (by simp) (by simp;omega) λB N C v A=>?_
 rw[<-dg] at C
 have u:=v.keep _ _ (λc=>by have:=M.sh _ c;have:=M.sm;omega) E
 have M4:∀{Y':ae} {K:ae->Prop},(∀Y1,qa Y1 m b (hs++[s]) B->Fx N Y1 [m]->K Y1)->sV (aK 1 N (.p m 0 7) B) K:=λ{Y' K} hK=>by
  obtain⟨l,a,T⟩:=M.tp
  refine A0 u C.p.ce (by simp) λY1 F b1=>hK Y1 ⟨⟨O,G,s',tx,k,H,b1⟩,⟨l,a,(T.fx v (λc=>by have:=M.sh _ c;have:=M.sb;omega)).fx F (by simpa using M.ne.symm)⟩,C.p.fx F (λq c e=>by have:=(A q c).2;have:=M.sm;simp at e;subst e;omega),F.len.trans (v.len.trans M.le),M.sm,M.sb,λq c=>(A q c).2⟩ F
 simp only[aZp,oo u,u0,u1,u,aj,↓uL]
 refine M4 (Y':=N) λs5 R F5=>?_
 obtain⟨O,G,s',tx,k,H,w⟩:=R.mx
 simp only[aZo,oo w,u0,u1,w,yr,yd,aj,↓uL]
 refine aO4 R λx s6 h1 h2 M6 F6=>?_
 have h2:=h2 (by decide)
 simp only[aZn,u0,u1,eM (x:=1+x) (by omega) (by omega),↓uL]
 refine aQQ ih M6 (by simp;omega) hd (by omega) (by omega) λa l h' s7 g1 g2 g3 n j R7=>?_
 obtain⟨O,G,s',tx,k,H,y⟩:=j.mx
 simp only[aZm,oo y,u0,u1,y,yr,C5,yd,aj,j.gh.ln,bJ,P8,bZ,vw,↓uL]
 have e1:dq.wrap (((L hs+(0+1):Nat):Int)-1)=(L hs:Int):=by rw[eM (by omega) (by omega)];omega
 rw[e1]
 refine slP j.gh (by omega) (by simp;omega) λa8 Z X=>?_
 rw[bh,dg,List.take_left' (by simp)] at Z
 refine bdS j Z (λq c=>j.sh q (X▸c)) λs9 M9 P=>?_
 have R4:RH m b Y h s6 B:=⟨((v.trans F5).trans F6).mono λq c=>by
   simp only[dF,cE] at c
   rcases c with(g|rfl)|rfl
   ·exact .inl (by simp[g])
   ·exact .inl (by simp)
   ·exact .inl (by simp),λq c=> .inr (A q c).1⟩
 have S:RH m b Y h s9 h':=(R4.trans R7).trans (.ofm P)
 exact⟨l,a8,g1.fx P (λq c e=>by have:=(n q c).2;have:=M.sm;simp at e;subst e;omega),by omega,g3,λq c=>⟨(n q c).1.old R4.f,(n q c).2⟩,M9,⟨S.f,λq c=>S.i q (X▸c)⟩⟩
def aPh{A:(be)->Prop}{K:be}:gF U A Y K=A K:=rfl
def aOq{A:(be)->Prop}{K:be}:gF I A Y K=K (.t []) Y:=rfl
def baJ:aX C9 4 Y [(0,(sv [120])),(1,(sv [121])),(2,(sv [120])),(3,(sv [118]))]=V (.l ([⟨#[120]⟩,⟨#[121]⟩,⟨#[120]⟩,⟨#[118]⟩].map cs) U U,Y):=by kernel_rfl
def aV4:aX C9 2 Y [(0,(sv [97])),(1,(sv [98]))]=V (.l ([⟨#[97]⟩,⟨#[98]⟩].map cs) U U,Y):=by kernel_rfl
def a5Z:aX C9 2 Y [(0,(sv [109])),(1,(sv [110]))]=V (.l ([⟨#[109]⟩,⟨#[110]⟩].map cs) U U,Y):=by kernel_rfl
def baH{e:fc}{t o:Bool}:aX aRb 1 Y [(0, .a [iv e.op,iv e.n,st e.name, .l (e.l.map fc.c) t o])]=V (.l ([e].map fc.c) U U,Y):=aQm (by rw[aoH];rfl) aN9 (by decide) (by rw[aoH];rfl) (by decide)
def a50{x:eo}:aX aNA 1 Y [(0, .a x.c)]=V (.l ([x].map eo.c) U U,Y):=ua (by rw[apT];rfl) aTj WV (by decide) (by rw[apT];rfl) (by decide)
section
variable{o:Int}{nm:ByteArray}{x:AV}{e:fc}{t o':Bool}{body:List eo}{aa:List (List AV)}
def a5O(f:gm Y 219 11 x aa):bM A4 aon [(0,iv o),(5, .a [iv e.op,iv e.n,st e.name, .l (e.l.map fc.c) t o']),(6,x)]=V (.a [iv o,iv 0,st ⟨#[]⟩,st ⟨#[]⟩, .l (([]:List fc).map fc.c) U U,iv e.op,iv e.n,st e.name, .l (e.l.map fc.c) t o',x, .l [] U U]):=by rcases f with⟨_,rfl⟩|⟨q,m,rfl,_⟩<;>rfl
def aSZ(f:gm Y 219 11 x aa):bM A4 aon [(0,iv o),(2,st nm),(6,x)]=V (.a [iv o,iv 0,st nm,st ⟨#[]⟩, .l (([]:List fc).map fc.c) U U,iv (fc.mk 0 0 ⟨#[]⟩ []).op,iv (fc.mk 0 0 ⟨#[]⟩ []).n,st (fc.mk 0 0 ⟨#[]⟩ []).name, .l ((fc.mk 0 0 ⟨#[]⟩ []).l.map fc.c) U U,x, .l [] U U]):=by rcases f with⟨_,rfl⟩|⟨q,m,rfl,_⟩<;>rfl
def a5P(f:gm Y 219 11 x aa):bM A4 aon [(0,iv o),(6,x)]=V (.a [iv o,iv 0,st ⟨#[]⟩,st ⟨#[]⟩, .l (([]:List fc).map fc.c) U U,iv (fc.mk 0 0 ⟨#[]⟩ []).op,iv (fc.mk 0 0 ⟨#[]⟩ []).n,st (fc.mk 0 0 ⟨#[]⟩ []).name, .l ((fc.mk 0 0 ⟨#[]⟩ []).l.map fc.c) U U,x, .l [] U U]):=by rcases f with⟨_,rfl⟩|⟨q,m,rfl,_⟩<;>rfl
def bam{E:fc}(f:gm Y 219 11 x aa):bM A4 aon [(0,iv o),(5, .a E.c),(6,x)]=V (.a [iv o,iv 0,st ⟨#[]⟩,st ⟨#[]⟩, .l (([]:List fc).map fc.c) U U,iv E.op,iv E.n,st E.name, .l (E.l.map fc.c) I I,x, .l [] U U]):=by rw[aoH];exact a5O f
def a5Q:bM A4 aon [(0,iv o),(2,st nm),(6, .l (body.map eo.c) t o')]=V (.a [iv o,iv 0,st nm,st ⟨#[]⟩, .l (([]:List fc).map fc.c) U U,iv (fc.mk 0 0 ⟨#[]⟩ []).op,iv (fc.mk 0 0 ⟨#[]⟩ []).n,st (fc.mk 0 0 ⟨#[]⟩ []).name, .l ((fc.mk 0 0 ⟨#[]⟩ []).l.map fc.c) U U, .l (body.map eo.c) t o', .l (([]:List eo).map eo.c) U U]):=rfl
end
def aRm{f:ae}{op:Int}{nm a:ByteArray}{index:List fc}{e:fc}{t o j o' k i t3 o3:Bool}{body els:List eo}:Lv f Y [iv op,iv 0,st nm,st a, .l (index.map fc.c) j o',iv e.op,iv e.n,st e.name, .l (e.l.map fc.c) t o, .l (body.map eo.c) k i, .l (els.map eo.c) t3 o3] (eo.mk op 0 nm a index e body els).c:=by refine⟨?_,λq g=>?_⟩;rw[apT];simp only[ji,mU,aQ5,aXQ];rfl;simp[eB,iR] at g
def aOJ{n:Nat}{op:Int}{nm g:ByteArray}{index:List fc}{e:fc}{body els:List eo}(h1:(op=1\/op=2\/op=3\/op=14)->C6 2 e)(h2:index=[]\/∃y,index=[y]/\C6 2 y/\nm=qN)(j:L e.l<=2)(k:L body<=4)(a:∀x∈body,A5 n x)(p:L els<=4)(c:∀x∈els,A5 n x)(q:1<=op/\op<=15):A5 (n+1) (eo.mk op 0 nm g index e body els):=by refine⟨h1,?_,?_,?_,j,k,a,p,c,q⟩;show L index<=1;rcases h2 with rfl|⟨y,rfl,_⟩<;>simp;show∀x∈index,C6 2 x;rcases h2 with rfl|⟨y,rfl,h,_⟩;simp;intro x f;simp at f;subst f;exact h;intro h;rcases h2 with rfl|⟨y,rfl,_,i⟩;exact nl rfl h;exact i
def aOI{n:Nat}{op:Int}{nm a:ByteArray}{index:List fc}{e:fc}(h1:(op=1\/op=2\/op=3\/op=14)->C6 2 e)(h2:index=[]\/∃y,index=[y]/\C6 2 y/\nm=qN)(c:L e.l<=2)(f:1<=op/\op<=15):A5 (n+1) (eo.mk op 0 nm a index e [] []):=aOJ h1 h2 c (by simp) (by simp) (by simp) (by simp) f
def aS4{D:Nat}(A:aQH m b D)(M:qa Y m b hs h)(z:L hs+D+1<=500){s:ByteArray}{i:Int}(y:i=D)(w:∀(a:AV) (l:List eo) (g:AV) Y1,gm Y1 219 11 a (l.map eo.c)->(L l:Int)<=2->(∀x∈l,A5 (D+1) x)->(∀q∈aA a,bK Y q/\q.1=30)->qa Y1 m b hs g->RH m b Y h Y1 g->K a Y1):cB 216 [.p m 0 0,st s,iv i] Y d K:=by refine jH rfl (bdd A M z y) ?_;rintro r Y1 ⟨l,g,g1,k,n,u,v,j⟩;exact⟨j.f.len,w r l g Y1 g1 k n u v j⟩
def aEa{q:Id}{T:TypeId}{z:Nat}{o u:Bool}{r:List AV}(c:box Y q=V ⟨T,z,o,u,[r]⟩)(f:L r=z):kb (V z) Y (.p q 0 0)=V (.a r):=by simp[kb,iE,c,aN,<-f]
def aP2{D:Nat}(h:D+1<1000):dq.wrap (((D+1:Nat):Int)-1)=(D:Int):=by rw[eM (by omega) (by omega)];omega
def baQ:aX aNA 2 Y [(0, .a [iv 9,iv 0,sv [99],sv [], .l [] U U,iv 0,iv 0,sv [], .l [] U U, .l [] U U, .l [] U U]),(1, .a (eo.mk 1 0 ⟨#[97]⟩ ⟨#[]⟩ [] (fc.mk 2 0 ⟨#[120]⟩ []) [] []).c)]=V (.l ([eo.mk 9 0 ⟨#[99]⟩ ⟨#[]⟩ [] (fc.mk 0 0 ⟨#[]⟩ []) [] [],eo.mk 1 0 ⟨#[97]⟩ ⟨#[]⟩ [] (fc.mk 2 0 ⟨#[120]⟩ []) [] []].map eo.c) U U,Y):=by kernel_rfl
def baL{o:Int}:aX aNA 1 Y [(0, .a [iv o,iv 0,sv [99],sv [], .l [] U U,iv 0,iv 0,sv [], .l [] U U, .l [] U U, .l [] U U])]=V (.l ([eo.mk o 0 ⟨#[99]⟩ ⟨#[]⟩ [] (fc.mk 0 0 ⟨#[]⟩ []) [] []].map eo.c) U U,Y):=by kernel_rfl
def bdy{D:Nat}(ih:∀k,k<D->aQH m b k)(M:qa Y m b hs h)(hl:L hs+D<=500):∃r Y1,SmR Y m b hs h D r Y1/\cZ aS GG 179 [.p m 0 0,iv D] Y r Y1:=by
 obtain⟨m1,S⟩:=m
 obtain rfl:m1=16:=M.sm
 obtain⟨b1,b2⟩:=b
 obtain rfl:b1=14:=M.sb
 refine bgp M.le ?_
 simp only[aUK]
 refine so M.le λv s1 F1 N1 q1=>?_
 have M1:=M.fx0 F1
 obtain⟨th,lf,s,tx,a3,lp,ah⟩:=M1.mx
 simp only[aZ2,oo ah,u0,u1,ah,yr,C5,yd,aj,↓uL]
 refine aPJ M1 (.inl ⟨.inr rfl,_,rfl⟩) λs2 M2 F2=>?_
 have q2:=F2.kq q1
 obtain⟨th,lf,s,tx,a3,lp,bk⟩:=M2.mx
 simp only[aZ1,oo bk,u0,u1,bk,yr,yd,aj,↓uL]
 refine aO4 M2 λx s3 h1 h2 G F3=>?_
 have h2:=h2 (by decide)
 have q3:=F3.kq q2
 have N:RH (16,S) (14,b2) Y h s3 h:=((RH.of0 F1).trans (.ofm F2)).trans (.ofb F3)
 have O:∀{B:ae} {cs r:List AV} {x:eo} {h4:AV},qa B (16,S) (14,b2) hs h4->RH (16,S) (14,b2) Y h B h4->box B (4,v)=V ⟨219,11,U,U,[r]⟩->L r=11->Lv Y B cs x.c->(∀q∈eB (.a cs),q.1=30\/q.1=126)->A5 (D+1) x->
   sV (aK 11 B (.p (4,v) 0 0) (.a cs)) λs=>rV (kb (V 11) s (.p (4,v) 0 0)) λt=>fe (SmR Y (16,S) (14,b2) hs h D) s [t]:=λ{B cs r x h4} A R4 T hr L4 hi a8=>
  aTx T hr (by have:=aC2 L L4.eq;rw[bJ,WV] at this;exact this) λs5 W=>⟨cs,x,h4,rfl,L4.fx W (λq j e=>by have:=hi q j;simp at e;subst e;simp at this) aS7,hi,a8,A.fx W (by simp) (by simp) (λq j e=>by have:=A.sh q j;simp at e;subst e;simp at this),R4.new W N1⟩
 have aa:∀{B s5:ae} {h4 h5:AV} {q:Id} {x:bY},qa B (16,S) (14,b2) hs h4->RH (16,S) (14,b2) B h4 s5 h5->(q.1≠14/\q.1≠15/\q.1≠16)->box B q=V x->box s5 q=V x:=λA R g j=>R.f.keep _ _ (A.out _ g.1 g.2.1 g.2.2) j
 have a7:∀{B s6:ae} {x:eo} {h4:AV},qa B (16,S) (14,b2) hs h4->RH (16,S) (14,b2) Y h B h4->Fx B s6 [(4,v)]->box s6 (4,v)=V ⟨219,11,U,U,[x.c]⟩->A5 (D+1) x->aw 11 s6 (.p (4,v) 0 0) λt=>fe (SmR Y (16,S) (14,b2) hs h D) s6 [t]:=λ{B s6 x h4} A R4 F b6 a8=>by
  rw[art,aEa b6 WV]
  exact⟨_,x,h4,rfl,aYy,by rw[aTj];simp,a8,A.fx F (by simp) (by simp) (λq j e=>by have:=A.sh q j;simp at e;subst e;simp at this),R4.new F N1⟩
 have bj:∀{B:ae} {d:Nat},qa B (16,S) (14,b2) hs h->RH (16,S) (14,b2) Y h B h->box B (4,v)=V ⟨219,11,U,U,[A4]⟩->cB 212 [.p (16,S) 0 0,iv 1] B d (aSs (.p (4,v) 0 0) (SmR Y (16,S) (14,b2) hs h D)):=λ{B d} A R4 T=>by
  refine aQO A λr s5 hr H W=>?_
  obtain⟨e,t,o,he,rfl⟩:=hr
  have q5:=W.kq T
  simp only[aSs,jM,kU,jt,tW,aSY,aD6,↓uL]
  refine⟨by simp[lo,nA,eB,iR],O H (R4.trans (.ofb W)) q5 rfl aYy (by rw[aTj];simp) ?_⟩
  exact⟨λ_=>he,by simp[eo.index],by simp[eo.index],by simp[eo.index],he.len,by simp[eo.body],by simp[eo.body],by simp[eo.els],by simp[eo.els],by simp[eo.op],by simp[eo.op]⟩
 obtain⟨th,lf,s,tx,a3,lp,w⟩:=G.mx
 have hx:(x<4/\0<=x)\/x=4\/x=5\/x=6\/x=7\/x=8\/x=9\/x=10\/x=11\/x=12\/x=13\/x=14\/x=15\/x=16\/x=17:=by omega
 have bF:∀K:d7,(∀nb:Bool,(nb=U->0<D)->K (bv nb))->aO .gtr (iv D) (iv 0) λaM=>fm aM (.p (16,S) 0 0) λco=>az aM (rV (cO s3 co)) λcp=>aT aM 2 s3 cp λcr=>az aM (aO .gtr cr (iv 0)) λct=>aD aM ct (bv I) λaN=>fm aN (.p (16,S) 0 0) λcu=>az aN (rV (cO s3 cu)) λcv=>aT aN 4 s3 cv λcw=>az aN (cf cw) λcx=>aD aN cx (bv I) λcy=>K cy:=by
  intro K hK
  rcases oD D with h0|h0
  ·have e:Q ((0:Int)<(D:Int))=I:=by simp[h0]
   simp only[e,u0,u1,↓jN,Aa,↓uL]
   exact hK I (by simp)
  ·have e:Q ((0:Int)<(D:Int))=U:=by simp[h0]
   rcases bo:Q (0<lf) with _|_
   ·simp only[e,oo w,u0,u1,w,yr,C5,yd,aj,bo,↓jN,↓jA,Aa,ya,↓uL]
    exact hK I (by simp)
   ·simp only[e,oo w,u0,u1,w,yr,C5,yd,aj,bo,↓jA,ya,↓uL]
    exact hK _ (λ_=>h0)
 unfold aZ0
 refine bF _ λnb ap=>?_
 have P:∀{d:Nat},cB 212 [.p (16,S) 0 0,iv 1] s3 d (aSs (.p (4,v) 0 0) (SmR Y (16,S) (14,b2) hs h D)):=bj G N q3
 rcases hx with hx|rfl|rfl|rfl|rfl|rfl|rfl|rfl|rfl|rfl|rfl|rfl|rfl|rfl|rfl
 all_goals
  simp only[oo w,u0,u1,w,yr,C5,yd,aj,aNV,aNE,Int.reduceEq,Int.reduceLT,↓iC,↓iB,↓jA,↓jN,↓aOq,ya,Aa,Bool.false_or,↓uL]
 ·refine⟨λ_=>?_,λg=>nl hx.1 (by simpa using g)⟩
  simp only[baJ,bQ,aZS,amZ,u0,rk,gw,↓uL]
  refine⟨⟨hx.2,hx.1⟩,aQO G λr s5 hr H W=>?_⟩
  obtain⟨e,t,o,he,rfl⟩:=hr
  have q5:=W.kq q3
  simp only[aZK,jM,kU,jt,tW,aSY,aD6]
  refine⟨by simp[lo,nA,eB,iR],qr q5 rfl WV λs6 F6 b6=>?_⟩
  refine dT (by simp[eL,lb,cq,Qh,cD,dC,dK]) ?_
  exact a7 H (N.trans (.ofb W)) F6 b6 (aOI (λ_=>he) (.inl rfl) he.len (by decide))
 ·simp only[aV4,bQ,aZ5,oo w,u0,u1,w,yr,yd,aj,↓uL]
  refine aO4 G λy B y1 y2 A E=>?_
  have y2:=y2 (by decide)
  have T:=E.kq q3
  simp only[aZ4,amZ,u0,rk,gw,↓uL]
  refine⟨⟨y1,y2⟩,aQO A λr s5 hr H W=>?_⟩
  obtain⟨e,t,o,he,rfl⟩:=hr
  have q5:=W.kq T
  simp only[aZ3,jM,kU,jt,tW,aSY,aD6]
  refine⟨by simp[lo,nA,eB,iR],qr q5 rfl WV λs6 F6 b6=>?_⟩
  refine dT (by simp[eL,lb,cq,Qh,cD,dC,dK]) ?_
  exact a7 H ((N.trans (.ofb E)).trans (.ofb W)) F6 b6 (aOI (λ_=>he) (.inl rfl) he.len (by decide))
 ·refine baU G λr B hr A E=>?_
  obtain⟨e,t,o,he,rfl⟩:=hr
  have T:=E.kq q3
  simp only[baH,bQ,aZ7]
  refine aQO A λr s5 hr H W=>?_
  obtain⟨e',t',o',bn,rfl⟩:=hr
  have q5:=W.kq T
  have ca:bM A4 aon [(0,(iv 1)),(2,(sv [113])),(4, .l ([e].map fc.c) U U),(5, .a [iv e'.op,iv e'.n,st e'.name, .l (e'.l.map fc.c) t' o'])]=V (.a [iv 1,iv 0,st qN,st ⟨#[]⟩, .l ([e].map fc.c) U U,iv e'.op,iv e'.n,st e'.name, .l (e'.l.map fc.c) t' o', .l (([]:List eo).map eo.c) U U, .l (([]:List eo).map eo.c) U U]):=rfl
  simp only[aZ6,ca,aY,↓uL]
  exact O H ((N.trans (.ofb E)).trans (.ofb W)) q5 rfl aRm (by simp[eB,iR]) (aOI (λ_=>bn) (.inr ⟨e,rfl,he,rfl⟩) bn.len (by decide))
 ·refine⟨λhD=>?_,λ_=>P⟩
  obtain⟨k,rfl⟩:∃k,D=k+1:=⟨D-1,by simp at hD;omega⟩
  refine aQO G λr B hr A E=>?_
  obtain⟨e,t,o,he,rfl⟩:=hr
  have T:=E.kq q3
  simp only[aZE,u0,u1,aP2 (D:=k) (by omega),↓uL]
  refine aQQ (ih k (by omega)) A (by omega) rfl (by omega) (by omega) λa l h' s5 g1 g2 g3 C H X=>?_
  have q5:=aa A X (by simp) T
  simp only[aZD,a5O g1,aY]
  refine anu H.le λv7 s7 Z N7 b7=>?_
  have M7:=H.fx0 Z
  have q7:=Z.kq q5
  have G7:=g1.fx Z (by simp)
  have R7:RH (16,S) (14,b2) Y h s7 h':=((N.trans (.ofb E)).trans X).trans (.of0 Z)
  have na:∀q∈aA a,bK Y q:=λq j=>((C q j).1.old E).old N.f
  obtain⟨cA,cg,s',cF,bw,ch,bm⟩:=M7.mx
  simp only[aZC,di,aZ8,oo bm,u0,u1,bm,yr,yd,aj,↓uL]
  refine aO4 M7 λy s8 y1 y2 M8 F8=>?_
  have q8:=F8.kq q7
  have b8:=F8.kq b7
  have G8:=G7.fx F8 (λq j e=>by have:=(C q j).2;simp at e;subst e;simp at this)
  have R8:=R7.trans (.ofb F8)
  simp only[aZB,u0,u1,aP2 (D:=k) (by omega),↓uL]
  refine⟨λ_=>?_,λ_=>?_⟩
  ·refine aQQ (ih k (by omega)) M8 (by omega) rfl (by omega) (by omega) λa' l' h9 s9 k1 k2 k3 k4 M9 R9=>?_
   have q9:=aa M8 R9 (by simp) q8
   have b9:=aa M8 R9 (by simp) b8
   have G9:=G8.fx R9.f (λq j=>M8.out q (by have:=(C q j).2;omega) (by have:=(C q j).2;omega) (by have:=(C q j).2;omega))
   simp only[aZA,u0,u1,b9,aj,↓uL]
   refine A0 b9 k1.ce (by simp) λcQ aC b0=>?_
   have ci:∀q∈aA a',bK Y q:=λq j=>(k4 q j).1.old R8.f
   have cl:=aC.kq q9
   simp only[aUO,aI,aEa b0 rfl,aY,↓uL]
   have p9:∀{q:Id},q.1=30->q∉[((7,v7):Id)]:=λh e=>by simp at e;subst e;simp at h
   refine O (M9.fx aC (by simp) (by simp) (λq j e=>by have:=M9.sh q j;simp at e;subst e;simp at this)) ((R8.trans R9).new aC (((N7.old X.f).old E).old N.f)) cl rfl
    (aPq (index:=[]) (e:=e) (G9.fx aC λq j=>p9 (C q j).2) (k1.fx aC λq j=>p9 (k4 q j).2) na ci) (aPB (index:=[]) (λq j=> .inl (C q j).2) (λq j=> .inl (k4 q j).2)) ?_
   exact aOJ (λ_=>he) (.inl rfl) he.len (by omega) g3 (by omega) k3 (by decide)
  ·simp only[aUO,aI,aEa b8 rfl,aY,↓uL]
   exact O M8 R8 q8 rfl (aPq (index:=[]) (e:=e) (els:=[]) G8 (.inl ⟨rfl,rfl⟩) na (by simp[aA])) (aPB (index:=[]) (λq j=> .inl (C q j).2) (by simp[aA])) (aOJ (λ_=>he) (.inl rfl) he.len (by omega) g3 (by simp) (by simp) (by decide))
 ·refine⟨λhD=>?_,λ_=>P⟩
  obtain⟨k,rfl⟩:∃k,D=k+1:=⟨D-1,by simp at hD;omega⟩
  refine aPJ G (.inr ⟨by omega,_,rfl⟩) λB A E=>?_
  have T:=E.kq q3
  simp only[aZJ,jM,kU,jt,tW,aD6,Fa,u0,u1,aP2 (D:=k) (by omega),↓uL]
  refine⟨by simp[lo,nA,eB,iR],by simp[lo,nA,eB,iR],by rw[aXO rfl rfl];trivial,?_⟩
  refine aQQ (ih k (by omega)) A (by omega) rfl (by omega) (by omega) λa l h' s5 g1 g2 g3 C H X=>?_
  have q5:=aa A X (by simp) T
  simp only[aZI,jM,kU,jt,tW,aD6,Fa,a50,u0,↓uL]
  refine⟨by simp[lo,nA,eB,iR],by simp[lo,nA,eB,iR],by rw[aXO rfl rfl];trivial,by rw[aXP rfl];trivial,?_⟩
  have na:∀q∈aA a,q.1=30:=λq j=>(C q j).2
  refine apQ g1 H.le (qW (f:=eo.c) (z:=11) λ_=>WV) (qW (f:=eo.c) (z:=11) λ_=>WV) (by simp) (by simp;omega) λa' s6 g6 F6 N6=>?_
  rw[<-dg] at g6
  have q6:=F6.keep _ _ (λj=>by have:=na _ j;simp at this) q5
  have M6:=H.fx F6 (λj=>by have:=na _ j;simp at this) (λj=>by have:=na _ j;simp at this) (λq j e=>by have h1:=na _ e;have h2:=H.sh q j;omega)
  have a2:RH (16,S) (14,b2) Y h B h:=N.trans (.ofm E)
  have R6:RH (16,S) (14,b2) Y h s6 h':=⟨((a2.trans X).f.trans F6).mono λq j=>(dF.1 j).elim .inl λg=> .inr ((C q g).1.old a2.f).no,(a2.trans X).i⟩
  simp only[aZH,bam g6.p,aY]
  refine anu M6.le λv7 s7 Z N7 b7=>?_
  have M7:=M6.fx0 Z
  have q7:=Z.kq q6
  have G7:=g6.p.fx Z (by simp)
  obtain⟨br,bp,s8,bs,bi,bq,ao⟩:=M7.mx
  simp only[aZG,oo ao,u0,u1,ao,aj,↓uL]
  refine aPJ M7 (.inr ⟨by omega,_,rfl⟩) λs9 M9 F9=>?_
  have q9:=F9.kq q7
  have b9:=F9.kq b7
  have G9:=G7.fx F9 (λq j e=>by have:=(N6 q j).2;simp at e;subst e;simp at this)
  simp only[aZF,aEa b9 rfl,aY,↓uL]
  refine O M9 ((R6.trans (.of0 Z)).trans (.ofm F9)) q9 rfl (aPq (index:=[]) (els:=[]) G9 (.inl ⟨rfl,rfl⟩) (λq j=>(N6 q j).1.old (a2.trans X).f) (by simp[aA])) (aPB (index:=[]) (λq j=> .inr (N6 q j).2) (by simp[aA])) ?_
  have e1:∀{z:Int} {s:ByteArray},C6 1 (fc.mk 2 z s []):=λ{z s}=>⟨.inl ⟨.inr rfl,rfl⟩,by simp[fc.l]⟩
  have e2:∀{z:Int} {s:ByteArray},C6 1 (fc.mk 1 z s []):=λ{z s}=>⟨.inl ⟨.inl rfl,rfl⟩,by simp[fc.l]⟩
  refine aOJ (λ_=>⟨.inr (.inr ⟨by decide,rfl⟩),?_⟩) (.inl rfl) (by decide) (by simp;omega) ?_ (by simp) (by simp) (by decide)
  ·intro y hy;simp only[fc.l,eW,ql,C8] at hy
   rcases hy with rfl|rfl
   ·exact e1
   ·exact e2
  ·intro y hy
   rcases dF.1 hy with hy|hy
   ·exact g3 y hy
   ·simp only[cE] at hy
    subst hy
    refine aOI (λ_=>⟨.inr (.inr ⟨by decide,rfl⟩),?_⟩) (.inl rfl) (by decide) (by decide)
    intro y hy;simp only[fc.l,eW,ql,C8] at hy
    rcases hy with rfl|rfl
    ·exact e1
    ·exact e2
 ·cases nb
  ·simp only[u0,aOq,↓jN,Aa,↓iB,↓uL]
   exact P
  obtain⟨k,rfl⟩:∃k,D=k+1:=⟨D-1,by have:=ap rfl;omega⟩
  simp only[a5Z,amZ,rk,gw,u0,u1,aPh,↓jA,ya,↓uL]
  refine⟨⟨by decide,by decide⟩,aQP G (by omega) λu=>?_⟩
  cases u
  ·simp only[u0,u1,↓iC,↓uL]
   simp only[aUM,amZ,rk,gw,aP2 (D:=k) (by omega),u0,u1,↓uL]
   refine⟨⟨by decide,by decide⟩,aS4 (ih k (by omega)) G (by omega) rfl λa l h' s5 g1 g2 g3 C H X=>?_⟩
   simp only[aUL,aSZ g1,aY,↓uL]
   exact O H (N.trans X) (aa G X (by simp) q3) rfl (aPq (index:=[]) (els:=[]) g1 (.inl ⟨rfl,rfl⟩) (λq j=>(C q j).1.old N.f) (by simp[aA])) (aPB (index:=[]) (λq j=> .inl (C q j).2) (by simp[aA])) (aOJ (λh=>nl h (by decide)) (.inl rfl) (by decide) (by omega) g3 (by simp) (by simp) (by decide))
  ·simp only[u0,u1,↓iB,↓uL]
   exact P
 ·cases nb
  ·simp only[u0,aOq,↓jN,Aa,↓iB,↓uL]
   exact P
  obtain⟨k,rfl⟩:∃k,D=k+1:=⟨D-1,by have:=ap rfl;omega⟩
  simp only[a5Z,amZ,rk,gw,u0,u1,aPh,↓jA,ya,↓uL]
  refine⟨⟨by decide,by decide⟩,aQP G (by omega) λu=>?_⟩
  cases u
  ·simp only[u0,u1,↓iC,↓uL]
   simp only[aUM,amZ,rk,gw,aP2 (D:=k) (by omega),u0,u1,↓uL]
   refine⟨⟨by decide,by decide⟩,aS4 (ih k (by omega)) G (by omega) rfl λa l h' s5 g1 g2 g3 C H X=>?_⟩
   simp only[aUL,aSZ g1,aY,↓uL]
   exact O H (N.trans X) (aa G X (by simp) q3) rfl (aPq (index:=[]) (els:=[]) g1 (.inl ⟨rfl,rfl⟩) (λq j=>(C q j).1.old N.f) (by simp[aA])) (aPB (index:=[]) (λq j=> .inl (C q j).2) (by simp[aA])) (aOJ (λh=>nl h (by decide)) (.inl rfl) (by decide) (by omega) g3 (by simp) (by simp) (by decide))
  ·simp only[u0,u1,↓iB,↓uL]
   exact P
 ·cases nb
  ·simp only[u0,aOq,↓jN,Aa,↓iB,↓uL]
   exact P
  obtain⟨k,rfl⟩:∃k,D=k+1:=⟨D-1,by have:=ap rfl;omega⟩
  simp only[u0,aPh,↓jA,ya,↓uL]
  refine aQP G (by omega) λu=>?_
  cases u
  ·simp only[aP2 (D:=k) (by omega),u0,u1,↓iC,↓uL]
   refine aS4 (ih k (by omega)) G (by omega) rfl λa l h' s5 g1 g2 g3 C H X=>?_
   simp only[aUN,aSZ g1,aY,↓uL]
   exact O H (N.trans X) (aa G X (by simp) q3) rfl (aPq (index:=[]) (els:=[]) g1 (.inl ⟨rfl,rfl⟩) (λq j=>(C q j).1.old N.f) (by simp[aA])) (aPB (index:=[]) (λq j=> .inl (C q j).2) (by simp[aA])) (aOJ (λh=>nl h (by decide)) (.inl rfl) (by decide) (by omega) g3 (by simp) (by simp) (by decide))
  ·simp only[u0,u1,↓iB,↓uL]
   exact P
 ·cases nb
  ·simp only[u0,aOq,↓jN,Aa,↓iB,↓uL]
   exact P
  obtain⟨k,rfl⟩:∃k,D=k+1:=⟨D-1,by have:=ap rfl;omega⟩
  simp only[u0,aPh,↓jA,ya,↓uL]
  refine aQP G (by omega) λu=>?_
  cases u
  ·simp only[aP2 (D:=k) (by omega),u0,u1,↓iC,↓uL]
   refine aS4 (ih k (by omega)) G (by omega) rfl λa l h' s5 g1 g2 g3 C H X=>?_
   simp only[aUN,aSZ g1,aY,↓uL]
   exact O H (N.trans X) (aa G X (by simp) q3) rfl (aPq (index:=[]) (els:=[]) g1 (.inl ⟨rfl,rfl⟩) (λq j=>(C q j).1.old N.f) (by simp[aA])) (aPB (index:=[]) (λq j=> .inl (C q j).2) (by simp[aA])) (aOJ (λh=>nl h (by decide)) (.inl rfl) (by decide) (by omega) g3 (by simp) (by simp) (by decide))
  ·simp only[u0,u1,↓iB,↓uL]
   exact P
 ·refine⟨λhn=>?_,λ_=>P⟩
  obtain⟨k,rfl⟩:∃k,D=k+1:=⟨D-1,by have:=ap hn;omega⟩
  refine aPJ G (.inr ⟨by omega,_,rfl⟩) λB A E=>?_
  have T:=E.kq q3
  obtain⟨cA,cg,s',cF,bw,ch,bl⟩:=A.mx
  simp only[aZP,oo bl,u0,u1,bl,yr,yd,aj,↓uL]
  refine aO4 A λy s5 y1 y2 H W=>?_
  have y2:=y2 (by decide)
  have q5:=W.kq T
  simp only[aZO,u0,u1,eM (x:=1+y) (by omega) (by omega),↓uL]
  refine aQQ (ih 0 (by omega)) H (by omega) rfl (by omega) (by omega) λa l h' s6 g1 g2 g3 C M6 R6=>?_
  have q6:=aa H R6 (by simp) q5
  simp only[aZN,a5P g1,aY]
  refine anu M6.le λv7 s7 Z N7 b7=>?_
  have M7:=M6.fx0 Z
  have q7:=Z.kq q6
  have G7:=g1.fx Z (by simp)
  have aG:RH (16,S) (14,b2) Y h s5 h:=(N.trans (.ofm E)).trans (.ofb W)
  obtain⟨br,bp,s8,bs,bi,bq,ao⟩:=M7.mx
  simp only[aZM,oo ao,u0,u1,ao,aj,↓uL]
  refine aPJ M7 (.inr ⟨by omega,_,rfl⟩) λs9 M9 F9=>?_
  have q9:=F9.kq q7
  have b9:=F9.kq b7
  have G9:=G7.fx F9 (λq j e=>by have:=(C q j).2;simp at e;subst e;simp at this)
  simp only[aZL,aEa b9 rfl,aY,↓uL]
  exact O M9 (((aG.trans R6).trans (.of0 Z)).trans (.ofm F9)) q9 rfl (aPq (index:=[]) (els:=[]) G9 (.inl ⟨rfl,rfl⟩) (λq j=>(C q j).1.old aG.f) (by simp[aA])) (aPB (index:=[]) (λq j=> .inl (C q j).2) (by simp[aA])) (aOJ (λh=>nl h (by decide)) (.inl rfl) (by decide) (by omega) (λx hx=>(g3 x hx).mono (by omega)) (by simp) (by simp) (by decide))
 ·cases nb
  ·simp only[u0,↓jN,Aa,↓iB,↓uL]
   exact P
  cases a3
  ·obtain⟨k,rfl⟩:∃k,D=k+1:=⟨D-1,by have:=ap rfl;omega⟩
   simp only[oo w,u0,u1,w,yr,C5,yd,aj,↓jA,ya,↓iC,↓uL]
   refine aPJ G (.inr ⟨by omega,_,rfl⟩) λB A E=>?_
   have T:=E.kq q3
   simp only[aZU,u0,u1,aP2 (D:=k) (by omega),↓uL]
   refine aQQ (ih k (by omega)) A (by omega) rfl (by omega) (by omega) λa l h' s6 g1 g2 g3 C M6 R6=>?_
   have q6:=aa A R6 (by simp) T
   simp only[aZT,a5P g1,aY]
   refine anu M6.le λv7 s7 Z N7 b7=>?_
   have M7:=M6.fx0 Z
   have q7:=Z.kq q6
   have G7:=g1.fx Z (by simp)
   have aG:RH (16,S) (14,b2) Y h B h:=N.trans (.ofm E)
   obtain⟨br,bp,s8,bs,bi,bq,ao⟩:=M7.mx
   simp only[aZR,oo ao,u0,u1,ao,aj,↓uL]
   refine aPJ M7 (.inr ⟨by omega,_,rfl⟩) λs9 M9 F9=>?_
   have q9:=F9.kq q7
   have b9:=F9.kq b7
   have G9:=G7.fx F9 (λq j e=>by have:=(C q j).2;simp at e;subst e;simp at this)
   simp only[aZQ,aEa b9 rfl,aY,↓uL]
   exact O M9 (((aG.trans R6).trans (.of0 Z)).trans (.ofm F9)) q9 rfl (aPq (index:=[]) (els:=[]) G9 (.inl ⟨rfl,rfl⟩) (λq j=>(C q j).1.old aG.f) (by simp[aA])) (aPB (index:=[]) (λq j=> .inl (C q j).2) (by simp[aA])) (aOJ (λh=>nl h (by decide)) (.inl rfl) (by decide) (by omega) g3 (by simp) (by simp) (by decide))
  ·simp only[oo w,u0,u1,w,yr,C5,yd,aj,↓jA,ya,↓iB,↓uL]
   exact P
 ·cases nb
  ·simp only[u0,aOq,↓jN,Aa,↓iB,↓uL]
   exact P
  cases a3
  ·simp only[oo w,u0,u1,w,yr,C5,yd,aj,aPh,↓jA,ya,↓uL]
   refine aQP G (by omega) λu=>?_
   cases u
   ·have ah:bM A4 aon [(0,iv 9),(2,sv [99])]=V (.a [iv 9,iv 0,sv [99],sv [], .l [] U U,iv 0,iv 0,sv [], .l [] U U, .l [] U U, .l [] U U]):=rfl
    simp only[ah,jM,kU,jt,tW,aD6,Fa,u0,u1,↓iC,↓uL]
    simp only[baQ,bQ,aZV,a5Q,aY,↓uL]
    refine⟨by simp[lo,nA,eB,iR],by rw[aXP rfl];trivial,O G N q3 rfl aRm (by simp[eB,iR]) (aOJ (λh=>nl h (by decide)) (.inl rfl) (by decide) (by decide) ?_ (by simp) (by simp) (by decide))⟩
    obtain⟨k,rfl⟩:∃k,D=k+1:=⟨D-1,by have:=ap rfl;omega⟩
    intro y hy
    simp only[eW,ql,C8] at hy
    rcases hy with rfl|rfl
    ·exact aOI (λh=>nl h (by decide)) (.inl rfl) (by decide) (by decide)
    ·exact aOI (λ_=>⟨.inl ⟨.inr rfl,rfl⟩,by simp[fc.l]⟩) (.inl rfl) (by decide) (by decide)
   ·simp only[u0,u1,↓iB,↓uL]
    exact P
  ·simp only[oo w,u0,u1,w,yr,C5,yd,aj,aOq,↓jA,↓jN,ya,Aa,↓iB,↓uL]
   exact P
 ·cases nb
  ·simp only[oo w,u0,u1,w,yr,yd,aj,aOq,↓jN,Aa,↓iB,↓uL]
   exact P
  simp only[u0,aPh,↓jA,ya,↓uL]
  refine aQP G (by omega) λu=>?_
  cases u
  ·simp only[oo w,u0,u1,w,yr,yd,aj,↓iC,↓uL]
   refine aO4 G λy B y1 y2 A E=>?_
   have y2:=y2 (by decide)
   have T:=E.kq q3
   have ah:∀o:Int,bM A4 aon [(0,iv o),(2,sv [99])]=V (.a [iv o,iv 0,sv [99],sv [], .l [] U U,iv 0,iv 0,sv [], .l [] U U, .l [] U U, .l [] U U]):=λ_=>rfl
   simp only[aZX,ah,baL,bQ,aZW,a5Q,eM (x:=10+y) (by omega) (by omega),u0,u1,↓uL]
   refine O A (N.trans (.ofb E)) T rfl aRm (by simp[eB,iR]) (aOJ (λh=>nl h (by decide)) (.inl rfl) (by decide) (by simp) ?_ (by simp) (by simp) (by decide))
   obtain⟨k,rfl⟩:∃k,D=k+1:=⟨D-1,by have:=ap rfl;omega⟩
   intro z hz
   simp only[eW,ql,C8] at hz
   subst hz
   exact aOI (λh=>by omega) (.inl rfl) (by decide) (by omega)
  ·simp only[u0,u1,↓iB,↓uL]
   exact P
 ·cases tx
  ·cases lp
   ·cases s
    ·simp only[oo w,u0,u1,w,yr,C5,yd,aj,↓jA,ya,Bool.and_self,↓iC,↓uL]
     refine aPJ G (.inr ⟨by omega,_,rfl⟩) λB A E=>?_
     have T:=E.kq q3
     simp only[aZZ]
     refine aQO A λr s5 hr H W=>?_
     obtain⟨e,t,o,he,rfl⟩:=hr
     have q5:=W.kq T
     have ah:bM A4 aon [(0,iv 14),(2,sv [102]),(5, .a [iv e.op,iv e.n,st e.name, .l (e.l.map fc.c) t o])]=V (.a [iv 14,iv 0,st ⟨#[102]⟩,st ⟨#[]⟩, .l (([]:List fc).map fc.c) U U,iv e.op,iv e.n,st e.name, .l (e.l.map fc.c) t o, .l (([]:List eo).map eo.c) U U, .l (([]:List eo).map eo.c) U U]):=rfl
     simp only[aZY,ah,aY,↓uL]
     exact O H ((N.trans (.ofm E)).trans (.ofb W)) q5 rfl aRm (by simp[eB,iR]) (aOI (λ_=>he) (.inl rfl) he.len (by decide))
    ·simp only[oo w,u0,u1,w,yr,C5,yd,aj,↓jA,ya,Bool.and_self,↓iB,↓uL]
     exact P
   ·simp only[oo w,u0,u1,w,yr,C5,yd,aj,↓jN,Aa,Bool.and_false,↓iB,↓uL]
    exact P
  ·simp only[u0,↓jN,Aa,↓iB,↓uL]
   exact P
 ·cases tx
  ·simp only[oo w,u0,u1,w,yr,yd,aj,aPh,↓jA,ya,↓uL]
   refine aO4 G λy B y1 y2 A E=>?_
   have T:=E.kq q3
   have ah:bM A4 aon [(0,iv 15),(2,sv [97]),(3,sv [102])]=V (.a [iv 15,iv 0,st ⟨#[97]⟩,st ⟨#[102]⟩, .l (([]:List fc).map fc.c) U U,iv (fc.mk 0 0 ⟨#[]⟩ []).op,iv (fc.mk 0 0 ⟨#[]⟩ []).n,st (fc.mk 0 0 ⟨#[]⟩ []).name, .l ((fc.mk 0 0 ⟨#[]⟩ []).l.map fc.c) U U, .l (([]:List eo).map eo.c) U U, .l (([]:List eo).map eo.c) U U]):=rfl
   simp only[ah,u0,u1,↓uL]
   exact⟨λ_=>O A (N.trans (.ofb E)) T rfl aRm (by simp[eB,iR]) (aOI (λh=>nl h (by decide)) (.inl rfl) (by decide) (by decide)),λ_=>bj A (N.trans (.ofb E)) T⟩
  ·simp only[u0,aOq,↓jN,Aa,↓iB,↓uL]
   exact P
def ba1{D:Nat}(w:∀i,i<D->aQH m b i)(M:qa Y m b hs h)(v:L hs+D<=500)(u:∀cs x g Y1,Lv Y Y1 cs (eo.c x)->(∀q∈eB (.a cs),q.1=30\/q.1=126)->A5 (D+1) x->qa Y1 m b hs g->RH m b Y h Y1 g->K (.a cs) Y1):cB 179 [.p m 0 0,iv D] Y d K:=by refine jH rfl (bdy w M v) ?_;rintro r Y1 ⟨cs,x,g,rfl,k,l,n,s,j⟩;exact⟨j.f.len,u cs x g Y1 k l n s j⟩
def gm.bx{e:TypeId}{z:Nat}{a:AV}{aa:List (List AV)}(g:gm Y e z a aa):∀q∈aA a,∃x,box Y q=V x:=by rcases g with⟨_,rfl⟩|⟨b,m,rfl,f⟩;simp[aA];intro q c;simp[aA] at c;subst c;exact⟨_,f⟩
def bdw:∀D,aQH m b D:=by
 intro D
 induction D using Nat.strongRecOn with
 |ind D ih=>
 intro Y hs h n M hl Z h3
 have hm:=M.sm
 have aD:=M.sb
 refine bgq M.le ?_
 simp only[aUP]
 refine jD (α:=AV×List eo×AV) (λx i=>[x.1,iv i]) 1 n.toNat (λk x Y'=>gm Y' 219 11 x.1 (x.2.1.map eo.c)/\L x.2.1<=k/\(∀y∈x.2.1,A5 (D+1) y)/\(∀q∈aA x.1,bK Y q/\q.1=30)/\qa Y' m b hs x.2.2/\RH m b Y h Y' x.2.2)
  (s0:=(.l [] U U,[],h)) ⟨.inl ⟨rfl,rfl⟩,by simp,by simp,by simp[aA],M,RH.refl⟩ ?_
 rintro k ⟨O,l1,h1⟩ Y1 hk ⟨g1,g2,X,r,C,A⟩
 simp only at g1 g2 X r C A
 obtain⟨th,lf,s,tx,aC,lp,v⟩:=C.mx
 have R:fe (SsR Y m b hs h D n) Y1 [O]:=⟨l1,h1,g1,by omega,X,r,C,A⟩
 have P:k<n.toNat->∀d T m1 vs,vs=[O,iv k]->(T=yI (λ(x:AV×List eo×AV) i=>[x.1,iv i]) n.toNat λk x Y'=>gm Y' 219 11 x.1 (x.2.1.map eo.c)/\L x.2.1<=k/\(∀y∈x.2.1,A5 (D+1) y)/\(∀q∈aA x.1,bK Y q/\q.1=30)/\qa Y' m b hs x.2.2/\RH m b Y h Y' x.2.2)->m1=gM 1 n.toNat->cB 179 [.p m 0 0,iv D] Y1 d (aUQ vs T m1 Y1):=by
  rintro u d T m1 vs rfl rfl rfl
  refine ba1 ih C hl λcs x h' s2 H k1 k2 M2 N=>?_
  have ar:L cs=11:=by have:=aC2 L H.eq;rwa [bJ,WV] at this
  have ah:aX aNA 1 s2 [(0, .a cs)]=V (.l ([x].map eo.c) U U,kills s2 (eB (.a cs))):=aQm H.eq WV (by decide) aS7 (by decide)
  simp only[aUQ,ah,bQ,au]
  have G:=aOp (eB (.a cs)) s2
  have ka:∀q∈aA O,q∉eB (.a cs):=λq j E=>by
   obtain⟨x,hx⟩:=g1.bx q j
   exact(H.nw q E).ne hx rfl
  have G3:=(g1.fx N.f (λq j=>C.out q (by have:=(r q j).2;omega) (by have:=(r q j).2;omega) (by have:=(r q j).2;omega))).fx G ka
  have W:=M2.fx G (λj=>by have:=k1 _ j;omega) (λj=>by have:=k1 _ j;omega) (λq j E=>by have:=k1 _ E;have:=M2.sh q j;omega)
  refine apQ G3 W.le (qW (f:=eo.c) (z:=11) λ_=>WV) (qW (f:=eo.c) (z:=11) λ_=>WV) (by simp) (by simp;omega) λa' s6 g6 F6 N6=>?_
  rw[<-dg] at g6
  have M6:=W.fx F6 (λj=>by have:=(r _ j).2;omega) (λj=>by have:=(r _ j).2;omega) (λq j E=>by have:=(r _ E).2;have:=W.sh q j;omega)
  have FA:=(A.f.trans N.f).trans G
  have R6:RH m b Y h s6 h':=⟨((A.trans N).f.trans (G.trans F6)).mono λq j=>by
   rcases dF.1 j with g|g
   ·exact .inl g
   rcases dF.1 g with g|g
   ·exact .inr ((H.nw q g).old A.f).no
   ·exact .inr (r q g).1.no,(A.trans N).i⟩
  simp only[aZ9,au,u0,u1,↓uL]
  refine dR (mk:=λ(x:AV×List eo×AV) i=>[x.1,iv i]) (p:=1) (s:=(O,l1,h1)) (s':=(a',l1++[x],h')) (λ_ _=>rfl) u (by omega) ⟨g6.p,by simp;omega,?_,λq j=>⟨(N6 q j).1.old FA,(N6 q j).2⟩,M6,R6⟩
  intro y B
  rcases dF.1 B with B|B
  ·exact X y B
  ·simp only[cE] at B;subst B;exact k2
 rcases Decidable.em ((k:Int)<n) with u|u
 ·have F:Q ((k:Int)<n)=U:=aID u
  have P:=P (by omega)
  rcases oD k with Z|Z
  ·have w:Q ((k:Int)=0)=U:=by simp[Z]
   simp only[aRp,aI,au,F,w,u0,u1,↓jA,↓jN,ya,↓iC,↓uL]
   exact P _ _ _ _ rfl rfl rfl
  ·have w:Q ((k:Int)=0)=I:=by simp;omega
   rcases S:Q (0<lf) with _|_
   ·simp only[aRp,aI,au,F,w,S,oo v,u0,u1,v,yr,C5,yd,aj,↓jA,ya,Aa,↓iB,↓uL]
    exact R
   ·simp only[aRp,aI,au,F,w,S,oo v,u0,u1,v,yr,C5,yd,aj,↓jA,ya,Aa,↓iC,↓uL]
    exact P _ _ _ _ rfl rfl rfl
 ·have F:Q ((k:Int)<n)=I:=aPy u
  simp only[aRp,aI,au,F,u0,u1,↓jN,Aa,↓iB,↓uL]
  exact R
end
section
attribute[local irreducible] aX
def a9w:=bi 2 []
def a8x a j k b e d f h i g R c:=dH [km,km,(bo a),(bo j),(bo k),(bo b),(lb I [e] []),(lb I [d,f] [16]),(bo a),(bo h),(lb I [i,g] [])] [(0,6),(1,6),(2,6),(3,6),(4,6),(0,7)] (fe R c [])
def a2k e j k f h g i R b a:=rV (cO a e) λc=>aB 7 a c λd=>sV (aK 1 a d b) (a8x e j k f h g i c d b R)
def a2l f b R a:=rV (cO a f) λh=>aB 7 a h λi=>aM a i λc=>aw 6 a b λd=>eV (aX a71 1 a [(0,d)]) λe g=>eV (j5 209 Py 48 g 16 c e) (a2k f h i b d c e R)
def aU7 c b a R:=rV (cO a c) λt3=>ab 8 a t3 λd=>aB 5 a b λe=>sV (aK 1 a e d) (a2l c b R)
def bfU{a b:AV}{s0:ae}{R:be}(h:eV (qm 209 6 s0 3 b) λc d=>aU7 a c d R):EB 121 [a,b] s0 R:=zB a9w aNH Tryz.func121 h
def bg4{e:AV}{d:List AV}{s0:ae}{R:be}(i:L s0=4096)(l1:L d=6)(h:∀(b:ae) (c:Nat),Kp s0 b->(∀k,k≠3->aZ b k=aZ s0 k)->(∀x,box s0 (3,c)≠V x)->box b (3,c)=V ⟨209,6,U,U,[d]⟩->aU7 e (.p (3,c) 0 0) b R):EB 121 [e, .a d] s0 R:=by refine bfU ?_;refine iN rfl l1 (by decide) (by decide) i λb c l g0 m f=>?_;exact h b c l (λk g=>g0 k g) (λx j=>m x ((Kp.refl _).keep _ _ j)) f
def a9z:=bi 12 []
def a2v c e d R(q:AV) a:=rV (cO a c) λg=>aB 0 a g λh=>aw 6 a h λi=>ab 2 a e λj=>fV aQD a [i,j] λb=>rV (cO a c) λk=>aB 0 a k λl=>ab 0 a l λm=>ao 5 a m b λn=>ab 2 a n λo=>rV (bM Py C2 [(0,(iv 7)),(1,d),(2,b),(3,d),(4,o)]) λp=>cB 121 [c,p] a 103 λr f=>fe R f []
def a8y c b g R(h:AV) a:=ab 0 a c λe=>rV (bM Py C2 [(0,(iv 3)),(1,b),(2,b),(4,e)]) λf=>cB 121 [g,f] a 122 λi d=>fe R d []
def a2w b c h R(i:AV) a:=aV b (iv 1) λe=>ab 0 a c λf=>rV (bM Py C2 [(0,(iv 4)),(1,b),(2,b),(3,e),(4,f)]) λg=>cB 121 [h,g] a 31 λj d=>fe R d []
def a2x b d c R(i:AV) a:=ab 3 a b λe=>ao 4 a e (iv 1) λf=>aw 4 a f λg=>aV d (iv 1) λh=>cB 211 [c,g,h] a 22 (a2w d b c R)
def aQI c b d a R:=ab 0 a b λt4=>bf t4 (iv 1) λM=>ah M (ab 1 a b λN=>rV (bM Py C2 [(0,(iv 1)),(1,d),(4,N)]) λO=>cB 121 [c,O] a 41 λT f=>fe R f []) (ab 0 a b λi=>bf i (iv 2) λj=>ah j (rV (cO a c) λk=>ab 6 a k λl=>ab 2 a b λm=>fV FB a [l,m] λe=>aO .geq e (iv 0) λn=>ah n (rV (bM Py C2 [(0,(iv 2)),(1,d),(2,e)]) λo=>cB 121 [c,o] a 59 λP g=>fe R g []) (rV (cO a c) λp=>aB 0 a p λq=>aw 6 a q λr=>ab 2 a b λs=>fV aQD a [r,s] λt=>rV (bM Py C2 [(0,(iv 6)),(1,d),(2,t)]) λu=>cB 121 [c,u] a 70 λS h=>fe R h [])) (ab 0 a b λv=>bf v (iv 3) λw=>ah w (ab 3 a b λx=>ao 4 a x (iv 0) λy=>aw 4 a y λz=>cB 211 [c,z,d] a 81 (a2v c b d R)) (ab 3 a b λA=>aJ a A λB=>bf B (iv 1) λC=>ah C (ab 3 a b λD=>ao 4 a D (iv 0) λE=>aw 4 a E λF=>cB 211 [c,F,d] a 115 (a8y b d c R)) (ab 3 a b λG=>ao 4 a G (iv 0) λH=>aw 4 a H λK=>cB 211 [c,K,d] a 14 (a2x b d c R)))))
def bfX{a b c:AV}{s0:ae}{R:be}(h:eV (qm 217 4 s0 4 b) λd e=>aQI a d c e R):EB 211 [a,b,c] s0 R:=zB a9z aNH Tryz.func211 h
def bg6{e:AV}{d:List AV}{f:AV}{s0:ae}{R:be}(j:L s0=4096)(l1:L d=4)(h:∀(b:ae) (c:Nat),Kp s0 b->(∀k,k≠4->aZ b k=aZ s0 k)->(∀x,box s0 (4,c)≠V x)->box b (4,c)=V ⟨217,4,U,U,[d]⟩->aQI e (.p (4,c) 0 0) f b R):EB 211 [e, .a d,f] s0 R:=by refine bfX ?_;refine iN rfl l1 (by decide) (by decide) j λb c m g0 n g=>?_;exact h b c m (λk i=>g0 k i) (λx l=>n x ((Kp.refl _).keep _ _ l)) g
def a9t:=bi 11 []
def a18 c e q R(r:AV) a:=rV (cO a c) λf=>aB 0 a f λg=>aw 6 a g λh=>ab 2 a e λi=>fV aQD a [h,i] λb=>aV q (iv 1) λj=>rV (cO a c) λk=>aB 0 a k λl=>ab 0 a l λm=>ao 5 a m b λn=>ab 2 a n λo=>rV (bM Py C2 [(0,(iv 9)),(1,b),(2,j),(3,q),(4,o)]) λp=>cB 121 [c,p] a 51 λs d=>fe R d []
def a19 b g c R(h:AV) a:=aB 5 a b λd=>aw 4 a d λe=>aV g (iv 1) λf=>cB 211 [c,e,f] a 28 (a18 c b g R)
def a2a b c r R(s:AV) a:=rV (cO a b) λg=>ab 6 a g λh=>ab 2 a c λi=>fV FB a [h,i] λd=>aO .geq d (iv 0) λj=>ah j (rV (bM Py C2 [(0,(iv 2)),(1,d),(2,r)]) λk=>cB 121 [b,k] a 70 λt e=>fe R e []) (rV (cO a b) λl=>aB 0 a l λm=>aw 6 a m λn=>ab 2 a c λo=>fV aQD a [n,o] λp=>rV (bM Py C2 [(0,(iv 8)),(1,p),(2,r)]) λq=>cB 121 [b,q] a 81 λu f=>fe R f [])
def aU4 c b a R:=rV (cO a c) λt3=>ab 6 a t3 λk=>aJ a k λd=>ab 4 a b λl=>aJ a l λm=>aO .gtr m (iv 0) λe=>ah e (ab 4 a b λf=>ao 4 a f (iv 0) λg=>aw 4 a g λh=>cB 211 [c,h,d] a 22 (a19 b d c R)) (aB 5 a b λi=>aw 4 a i λj=>cB 211 [c,j,d] a 56 (a2a c b d R))
def bfR{a b:AV}{s0:ae}{R:be}(h:eV (qm 219 11 s0 3 b) λc d=>aU4 a c d R):EB 207 [a,b] s0 R:=zB a9t aNH Tryz.func207 h
def bg1{e:AV}{d:List AV}{s0:ae}{R:be}(i:L s0=4096)(l1:L d=11)(h:∀(b:ae) (c:Nat),Kp s0 b->(∀k,k≠3->aZ b k=aZ s0 k)->(∀x,box s0 (3,c)≠V x)->box b (3,c)=V ⟨219,11,U,U,[d]⟩->aU4 e (.p (3,c) 0 0) b R):EB 207 [e, .a d] s0 R:=by refine bfR ?_;refine iN rfl l1 (by decide) (by decide) i λb c l g0 m f=>?_;exact h b c l (λk g=>g0 k g) (λx j=>m x ((Kp.refl _).keep _ _ j)) f
def a9u:=bi 19 []
def a2b b d R(l:AV) a:=rV (cO a b) λe=>ab 7 a e λf=>rV (cO a b) λg=>ab 7 a g λh=>aJ a h λi=>ao 6 a f d λj=>aB 2 a j λk=>sV (aK 1 a k i) λc=>fe R c []
def a2c b d R(l:AV) a:=rV (cO a b) λe=>ab 7 a e λf=>rV (cO a b) λg=>ab 7 a g λh=>aJ a h λi=>ao 6 a f d λj=>aB 1 a j λk=>sV (aK 1 a k i) λc=>fe R c []
def a2d c b d R a:=ab 10 a c λe=>cB 120 [b,e] a 105 (a2c b d R)
def a2e b d c e R(m:AV) a:=rV (cO a b) λf=>ab 7 a f λg=>rV (cO a b) λh=>ab 7 a h λi=>aJ a i λj=>ao 6 a g d λk=>aB 2 a k λl=>sV (aK 1 a l j) (a2d c b e R)
def a2f c w b d R a:=ab 0 a c λf=>bf f (iv 3) λg=>ah g (rV (bM Py C2 [(0,(iv 5)),(1,w)]) λh=>cB 121 [b,h] a 53 (a2b b d R)) (ab 10 a c λi=>aJ a i λj=>bf j (iv 0) λk=>ah k (rV (cO a b) λl=>ab 7 a l λm=>rV (cO a b) λn=>ab 7 a n λo=>aJ a o λp=>ao 6 a m d λq=>aB 2 a q λr=>sV (aK 1 a r p) λe=>fe R e []) (rV (cO a b) λs=>ab 7 a s λt=>aJ a t λu=>rV (bM Py C2 [(0,(iv 5))]) λv=>cB 121 [b,v] a 89 (a2e b d c u R)))
def a2g b g c h d R(i:AV) a:=rV (cO a b) λe=>aB 8 a e λf=>sV (aK 1 a f g) (a2f c h b d R)
def a2h b c f g d R(h:AV) a:=ab 9 a b λe=>cB 120 [c,e] a 42 (a2g c f b g d R)
def a2i b c k l R(m:AV) a:=rV (cO a b) λd=>ab 7 a d λe=>aJ a e λf=>rV (cO a b) λg=>ab 6 a g λh=>aJ a h λi=>rV (bM Py C2 [(0,(iv 10)),(1,i)]) λj=>cB 121 [b,j] a 38 (a2h c b k l f R)
def aU5 b c a R:=rV (cO a b) λt3=>ab 8 a t3 λi=>rV (cO a b) λj=>ab 7 a j λk=>aJ a k λl=>aB 5 a c λd=>aw 4 a d λe=>rV (cO a b) λf=>ab 6 a f λg=>aJ a g λh=>cB 211 [b,e,h] a 25 (a2i b c i l R)
def bfS{a b:AV}{s0:ae}{R:be}(h:eV (qm 219 11 s0 3 b) λc d=>aU5 a c d R):EB 208 [a,b] s0 R:=zB a9u aNH Tryz.func208 h
def bg2{e:AV}{d:List AV}{s0:ae}{R:be}(i:L s0=4096)(l1:L d=11)(h:∀(b:ae) (c:Nat),Kp s0 b->(∀k,k≠3->aZ b k=aZ s0 k)->(∀x,box s0 (3,c)≠V x)->box b (3,c)=V ⟨219,11,U,U,[d]⟩->aU5 e (.p (3,c) 0 0) b R):EB 208 [e, .a d] s0 R:=by refine bfS ?_;refine iN rfl l1 (by decide) (by decide) i λb c l g0 m f=>?_;exact h b c l (λk g=>g0 k g) (λx j=>m x ((Kp.refl _).keep _ _ j)) f
def a9s:=bi 5 []
def a15 e f d R a:=rV (bM Py C2 [(0,e),(1,f)]) λc=>cB 121 [d,c] a 32 λg b=>fe R b []
def a16 b g e f R(h:AV) a:=rV (cO a b) λc=>aB 8 a c λd=>sV (aK 1 a d g) (a15 e f b R)
def a17 c a g e f R(h:AV) b:=ab 9 b c λd=>cB 120 [a,d] b 23 (a16 a g e f R)
def aU3 a d e f c b R:=rV (cO b a) λt3=>ab 8 b t3 λg=>rV (bM Py C2 [(0,e),(1,c)]) λh=>cB 121 [a,h] b 19 (a17 d a g f c R)
def bfQ{a b c d e:AV}{s0:ae}{R:be}(h:eV (qm 219 11 s0 6 b) λf g=>aU3 a f c d e g R):EB 209 [a,b,c,d,e] s0 R:=zB a9s aNH Tryz.func209 h
def bg0{e:AV}{d:List AV}{f:AV}{g:AV}{i:AV}{s0:ae}{R:be}(m:L s0=4096)(l1:L d=11)(h:∀(b:ae) (c:Nat),Kp s0 b->(∀k,k≠6->aZ b k=aZ s0 k)->(∀x,box s0 (6,c)≠V x)->box b (6,c)=V ⟨219,11,U,U,[d]⟩->aU3 e (.p (6,c) 0 0) f g i b R):EB 209 [e, .a d,f,g,i] s0 R:=by refine bfQ ?_;refine iN rfl l1 (by decide) (by decide) m λb c o g0 q j=>?_;exact h b c o (λk l=>g0 k l) (λx n=>q x ((Kp.refl _).keep _ _ n)) j
def a9x:=bi 21 [(6,([31],[0,3,4,25]))]
def a2m e R c a:=rV (bM Py C2 [(0,(iv 21)),(1,c)]) λd=>cB 121 [e,d] a 94 λf b=>fe R b []
def a2n e R c a:=rV (bM Py C2 [(0,(iv 22)),(1,c)]) λd=>cB 121 [e,d] a 103 λf b=>fe R b []
def a2o e R c a:=rV (bM Py C2 [(0,(iv 23)),(1,c)]) λd=>cB 121 [e,d] a 112 λf b=>fe R b []
def a2p i j k R(l:AV) a:=rV (cO a i) λc=>aB 0 a c λd=>ab 3 a d λe=>ab 2 a j λf=>fV FB a [e,f] λg=>rV (bM Py C2 [(0,(iv 26)),(1,g),(2,k)]) λh=>cB 121 [i,h] a 157 λm b=>fe R b []
def a2s a b c R d e G:=∀_:Rg,ah (gt G 0) (aw 11 a b λS=>cB 208 [c,S] a 36 λaR H=>fe R H []) (bf d (iv 4) λT=>ah T (aw 11 a b λW=>rV (cO a c) λX=>aB 0 a X λZ=>ab 1 a Z λaa=>ab 2 a b λac=>fV aQE a [aa,ac] λad=>cB 209 [c,W,(iv 11),(iv 12),ad] a 49 λaT K=>fe R K []) (bf d (iv 5) λae=>ah ae (aw 11 a b λaf=>rV (cO a c) λag=>aB 0 a ag λak=>ab 1 a ak λal=>ab 2 a b λam=>fV aQE a [al,am] λan=>cB 209 [c,af,(iv 13),(iv 14),an] a 62 λaU M=>fe R M []) (bf d (iv 6) λao=>ah ao (aw 11 a b λap=>rV (cO a c) λaq=>aB 0 a aq λar=>ab 1 a ar λau=>ab 2 a b λav=>fV aQE a [au,av] λax=>cB 209 [c,ap,(iv 15),(iv 16),ax] a 75 λaV N=>fe R N []) (bf d (iv 7) λay=>ah ay (aw 11 a b λaz=>cB 209 [c,az,(iv 17),(iv 18),(iv 0)] a 80 λaW O=>fe R O []) (bf d (iv 8) λaA=>ah aA (aw 11 a b λaC=>cB 209 [c,aC,(iv 19),(iv 20),(iv 0)] a 85 λaX P=>fe R P []) (bf d (iv 9) λaD=>ah aD (ab 2 a b λaE=>cB 210 [c,aE] a 92 (a2m c R)) (bf d (iv 10) λaF=>ah aF (ab 2 a b λaG=>cB 210 [c,aG] a 101 (a2n c R)) (bf d (iv 11) λaI=>ah aI (ab 2 a b λaJ=>cB 210 [c,aJ] a 110 (a2o c R)) (bf d (iv 12) λaK=>ah aK (rV (cO a c) λaL=>aB 0 a aL λaM=>ab 4 a aM λaN=>ab 2 a b λi=>fV FB a [aN,i] λj=>rV (bM Py C2 [(0,(iv 24)),(1,j)]) λk=>cB 121 [c,k] a 125 λaO f=>fe R f []) (bf d (iv 13) λl=>ah l (rV (cO a c) λm=>aB 0 a m λn=>ab 4 a n λo=>ab 2 a b λp=>fV FB a [o,p] λq=>rV (bM Py C2 [(0,(iv 25)),(1,q)]) λr=>cB 121 [c,r] a 138 λaP g=>fe R g []) (bf d (iv 14) λs=>ah s (aB 5 a b λt=>aw 4 a t λu=>cB 211 [c,u,e] a 145 (a2p c b e R)) (bf d (iv 15) λv=>ah v (rV (cO a c) λw=>ab 6 a w λx=>ab 2 a b λy=>fV FB a [x,y] λz=>rV (cO a c) λA=>aB 0 a A λB=>ab 3 a B λC=>ab 3 a b λD=>fV FB a [C,D] λE=>rV (bM Py C2 [(0,(iv 27)),(1,z),(2,E)]) λF=>cB 121 [c,F] a 177 λaQ h=>fe R h []) (fe R a [])))))))))))))
def a2t c(b:cG):=bf c (iv 2) λa=>ah a (b [a]) (bf c (iv 3) λd=>b [d])
def a2q d b R a:=rV (cO a d) λf=>ab 6 a f λg=>aJ a g λh=>ab 0 a b λc=>bf c (iv 1) λi=>ah i (aw 11 a b λj=>cB 207 [d,j] a 30 λk e=>fe R e []) (jR 6 (a2s a b d R c h) (a2t c))
def a2r b c R a:=rV (cO a b) λh=>ab 9 a h λd=>aV d (iv 1) λe=>rV (cO a b) λf=>aB 9 a f λg=>sV (aK 1 a g e) (a2q b c R)
def aU8 b c a R:=rV (cO a b) λt3=>ab 9 a t3 λd=>rV (cO a b) λe=>aB 8 a e λf=>sV (aK 1 a f d) (a2r b c R)
def bfV{a b:AV}{s0:ae}{R:be}(h:eV (qm 219 11 s0 3 b) λc d=>aU8 a c d R):EB 178 [a,b] s0 R:=zB a9x aNH Tryz.func178 h
def bg5{e:AV}{d:List AV}{s0:ae}{R:be}(i:L s0=4096)(l1:L d=11)(h:∀(b:ae) (c:Nat),Kp s0 b->(∀k,k≠3->aZ b k=aZ s0 k)->(∀x,box s0 (3,c)≠V x)->box b (3,c)=V ⟨219,11,U,U,[d]⟩->aU8 e (.p (3,c) 0 0) b R):EB 178 [e, .a d] s0 R:=by refine bfV ?_;refine iN rfl l1 (by decide) (by decide) i λb c l g0 m f=>?_;exact h b c l (λk g=>g0 k g) (λx j=>m x ((Kp.refl _).keep _ _ j)) f
def a9y:=bi 5 [(1,([4],[0,1]))]
def a2u a(d:aG)(m1:bu) e(f:AV) b:=aV (gt a 0) (iv 1) λc=>d [c] b/\m1 [c] b<m1 a e
def aU9 c e R d m1 b a:=∀_:Rg,aJ a c λt3=>aU (gt b 0) t3 λt4=>ah t4 (ao 11 a c (gt b 0) λf=>aw 11 a f λg=>cB 178 [e,g] a 16 (a2u b d m1 a)) (fe R a [])
def aSu a b s0 R:=lV [(iv 0)] s0 (aU9 b a R)
def bfW{a b:AV}{s0:ae}{R:be}(h:aSu a b s0 R):EB 120 [a,b] s0 R:=zB a9y aNH Tryz.func120 h
def a7T{a:AV}{b:AV}{s0:ae}{R:be}(c:L s0=4096)(h:aSu a b s0 R):EB 120 [a,b] s0 R:=by refine bfW ?_;exact h
end
structure Gn(κ:Int)(Y:ae)(b:Id)(w:br)(loc:List ByteArray)(a:AV)(n:Nat):Prop where
 bx0:∃s nx:Int,(0<=nx/\nx<=n+κ)/\box Y b=V ⟨205,10,U,U,[[sl cA.c w.cells,sl dS.c w.ak,sl yp.c w.bC,sl cs w.bU,sl cs w.ay,sl dL.c w.dU,sl cs loc,a,iv s,iv nx]]⟩
 ga:∃out:List lF,gm Y 209 6 a (out.map lF.c)/\L out=n
 le:L Y=4096
 sb:b.1=45
 sa:∀q∈aA a,q.1=16
 wb:WBd w
 lb:L loc<1000
 hq:∃c∈w.cells,c.name=qN
def Gn.bx{κ:Int}{Y:ae}{b:Id}{w:br}{loc:List ByteArray}{a:AV}{n:Nat}(G:Gn κ Y b w loc a n):∃s e:Int,box Y b=V ⟨205,10,U,U,[[sl cA.c w.cells,sl dS.c w.ak,sl yp.c w.bC,sl cs w.bU,sl cs w.ay,sl dL.c w.dU,sl cs loc,a,iv s,iv e]]⟩:=by obtain⟨s,e,_,h⟩:=G.bx0;exact⟨s,e,h⟩
def aRZ{w:br}{l:List AV}:aN (V 6) (sl cA.c w.cells::sl dS.c w.ak::sl yp.c w.bC::sl cs w.bU::sl cs w.ay::sl dL.c w.dU::l)=V (.a w.c):=rfl
structure R4(b:Id)(Y:ae)(a:AV)(Y1:ae)(a1:AV):Prop where
 f:Fx Y Y1 (b::aA a)
 i:∀q∈aA a1,q∈aA a\/bK Y q
section
variable{κ:Int}{Y Y0 Y1 Y2:ae}{b:Id}{w:br}{loc:List ByteArray}{a a0 a1 a2:AV}{n N:Nat}{d:Nat}{K:be}{ol:List lF}
def R4.refl:R4 b Y a Y a:=⟨Fx.refl _ _,λ_ h=> .inl h⟩
def R4.trans(h:R4 b Y a Y1 a1)(j:R4 b Y1 a1 Y2 a2):R4 b Y a Y2 a2:=by refine⟨(h.f.trans j.f).mono λq g=>?_,λq g=>(j.i q g).elim (h.i q) λe=> .inr (e.old h.f)⟩;rcases dF.1 g with c|c;exact .inl c;rcases eW.1 c with c|c;exact .inl (by simp[c]);rcases h.i q c with e|e;exact .inl (zu _ e);exact .inr e.no
def R4.of0(F:Fx Y Y1 []):R4 b Y a Y1 a:=⟨F.mono (by simp),λ_ h=> .inl h⟩
def R4.ofb(F:Fx Y Y1 [b]):R4 b Y a Y1 a:=⟨F.mono λq c=> .inl (by simp at c;simp[c]),λ_ h=> .inl h⟩
def Gn.fx(G:Gn κ Y b w loc a n){ks:List Id}(F:Fx Y Y1 ks)(e:b∉ks)(f:∀q∈aA a,q∉ks):Gn κ Y1 b w loc a n:=by obtain⟨s,k,j,h⟩:=G.bx0;obtain⟨c,g,i⟩:=G.ga;exact⟨⟨s,k,j,F.keep _ _ e h⟩,⟨c,g.fx F f,i⟩,F.len.trans G.le,G.sb,G.sa,G.wb,G.lb,G.hq⟩
def Gn.mono(G:Gn κ Y b w loc a n){κ':Int}(h:κ<=κ'):Gn κ' Y b w loc a n:=by obtain⟨s,f,e,c⟩:=G.bx0;exact⟨⟨s,f,⟨e.1,by omega⟩,c⟩,G.ga,G.le,G.sb,G.sa,G.wb,G.lb,G.hq⟩
def Gn.fx0(G:Gn κ Y b w loc a n)(F:Fx Y Y1 []):Gn κ Y1 b w loc a n:=G.fx F (by simp) (by simp)
def Gn.out(G:Gn κ Y b w loc a n):∀q:Id,q.1≠45->q.1≠16->q∉b::aA a:=λq c e f=>by
 rcases eW.1 f with h|h
 ·subst h;exact c G.sb
 ·exact e (G.sa q h)
def GR(κ:Int)(N:Nat)(Y:ae)(b:Id)(w:br)(loc:List ByteArray)(a:AV)(n:Nat)(r:AV)(Y1:ae):Prop:=∃e c,r= .t []/\Gn κ Y1 b w loc e c/\n<=c/\c<=n+N/\R4 b Y a Y1 e
def aPv{fn:Nat}{xs:List AV}(m:uQ.elem fn=I)(h:∃r Y1,GR κ N Y b w loc a n r Y1/\cZ aS GG fn xs Y r Y1)(l:∀e c Y1,Gn κ Y1 b w loc e c->n<=c->c<=n+N->R4 b Y a Y1 e->K (.t []) Y1):cB fn xs Y d K:=by refine jH m h ?_;rintro r Y1 ⟨e,c,rfl,i,j,k,g⟩;exact⟨g.f.len,l e c Y1 i j k g⟩
def bdp(G:Gn κ Y b w loc a n)(hn:n<100000)(x:lF):∃r Y1,(∃j,r= .t []/\Gn (κ-1) Y1 b w loc j (n+1)/\R4 b Y a Y1 j)/\cZ aS GG 121 [.p b 0 0, .a x.c] Y r Y1:=by obtain⟨T,W⟩:=b;obtain rfl:T=45:=G.sb;refine bg4 G.le rfl λs2 v3 K2 ad nf2 R=>?_;have u:Fx Y s2 []:=K2.fx [];have G2:=G.fx0 u;obtain⟨s,nx,H⟩:=G2.bx;simp only[aU7,oo H,u0,u1,H,R,yr,C5,yd,aj,↓uL];refine A0 R rfl (by show 5<6;decide) λE v q3=>?_;have S:box E (3,v3)=V ⟨209,6,U,U,[lF.c {x with site:=s}]⟩:=q3;have k:=G2.fx v (by simp) (λq i e=>by have:=G2.sa q i;simp at e;subst e;simp at this);obtain⟨s',ae,O,m⟩:=k.bx0;have M:∀{x:lF},aX a71 1 E [(0, .a (lF.c x))]=V (.l ([x].map lF.c) U U,E):=λ{x}=>ua rfl rfl rfl (by decide) rfl (by decide);simp only[a2l,oo m,u0,u1,m,S,gw,aj,M,↓uL];obtain⟨P,g,Z⟩:=k.ga;refine apQ g k.le (qW (f:=lF.c) (z:=6) λ_=>rfl) (qW (f:=lF.c) (z:=6) λ_=>rfl) (by simp) (by simp;omega) λj s4 C y B=>?_;rw[<-dg] at C;have o:=y.keep _ _ (λi=>by have:=k.sa _ i;simp at this) m;simp only[a2k,oo o,u0,u1,o,aj,↓uL];refine A0 o C.p.ce (by simp) λs5 A X=>?_;refine dT (by first|rfl|(simp[eL,okT,tok,lb,cq,Qh,cD,dC,pP,dK,lF.c];done)) ?_;have F:∀q∈aA j,q∉[((45,W):Id)]:=λq i e=>(by have:=(B q i).2;simp at e;subst e;simp at this);have D:∀q∈aA j,bK Y q:=λq i=>((B q i).1.old v).old u;refine⟨j,rfl,⟨⟨_,_,⟨O.1,by omega⟩,X⟩,⟨P++[_],C.p.fx A F,by simp[Z]⟩,A.len.trans (y.len.trans k.le),rfl,λq i=>(B q i).2,G.wb,G.lb,G.hq⟩,⟨(((u.trans v).trans y).trans A).mono λq i=>?_,λq i=> .inr (D q i)⟩⟩;simp at i;rcases i with rfl|h|rfl;exact .inr nf2;exact .inl (zu _ h);exact .inl (by simp)
def aPw(G:Gn κ Y b w loc a n)(k:n<100000){x:lF}(j:∀e Y1 g,Gn (κ-1) Y1 b w loc e g->n+1<=g->g<=n+1->R4 b Y a Y1 e->K (.t []) Y1):cB 121 [.p b 0 0, .a x.c] Y d K:=by refine jH rfl (bdp G k x) ?_;rintro r Y1 ⟨e,rfl,i,h⟩;exact⟨h.f.len,j e Y1 (n+1) i (by omega) (by omega) h⟩
def a58(h:∃c∈w.cells,c.name=qN):aF (L w.cells) (uo (λi=>Q ((gd w.cells i).name=qN)) (L w.cells)):=by obtain⟨c,k,l⟩:=h;obtain⟨j,g,rfl⟩:=ou k;have e:=aTb (p:=λi=>Q ((gd w.cells i).name=qN)) (n:=L w.cells);refine⟨?_,e.2⟩;unfold uo;split;omega;rename_i f;rw[List.find?_eq_none] at f;have:=f j (List.mem_range.2 g);rw[bT g] at this;simp[l] at this
def bV:Nat->Nat|0=>0|m+1=>1+2*bV m
def ban{o x y:Int}:bM Py C2 [(0,iv o),(1,iv x),(4,iv y)]=V (.a (lF.c ⟨o,x,0,0,y,0⟩)):=rfl
def bao{o x y:Int}:bM Py C2 [(0,iv o),(1,iv x),(2,iv y)]=V (.a (lF.c ⟨o,x,y,0,0,0⟩)):=rfl
def bap{o x y z u:Int}:bM Py C2 [(0,iv o),(1,iv x),(2,iv y),(3,iv z),(4,iv u)]=V (.a (lF.c ⟨o,x,y,z,u,0⟩)):=rfl
def baq{o x:Int}:bM Py C2 [(0,iv o),(1,iv x)]=V (.a (lF.c ⟨o,x,0,0,0,0⟩)):=rfl
def bar{o:Int}:bM Py C2 [(0,iv o)]=V (.a (lF.c ⟨o,0,0,0,0,0⟩)):=rfl
def bdI:=ai @ban<|ai @bao<|ai @bap<|ai @baq<|@bar
def GR.mono{N M:Nat}{r:AV}(h:GR κ N Y b w loc a n r Y1)(l:N<=M):GR κ M Y b w loc a n r Y1:=by obtain⟨c,j,e,f,g,k,i⟩:=h;exact⟨c,j,e,f,g,by omega,i⟩
def bdC:∀(m:Nat) {Y:ae} {a:AV} {n:Nat} {e:fc} {dd:Int},Gn κ Y b w loc a n->n+bV m<100000->C6 m e->∃r Y1,GR (κ-1) (bV m) Y b w loc a n r Y1/\cZ aS GG 211 [.p b 0 0, .a e.c,iv dd] Y r Y1:=by
 intro m
 induction m with
 |zero=>intro Y a n e dd G hn H;exact H.elim
 |succ m ih=>
  intro Y a n e dd G hn H
  obtain⟨b1,g⟩:=b
  obtain rfl:b1=45:=G.sb
  have az:bV (m+1)=1+2*bV m:=rfl
  refine bg6 G.le aN9 λP v4 K2 aD nf2 C=>?_
  have R:Fx Y P []:=K2.fx []
  have G2:=G.fx0 R
  have D:R4 (45,g) Y a P a:=R4.of0 R
  obtain⟨s,nx,hb⟩:=G2.bx
  have Z:=G.wb
  have hL:=G.lb
  have q4:∀q:Id,q.1=4->q∉((45,g):Id)::aA a:=λq h=>G.out q (by omega) (by omega)
  have k:∀{v:ae} {y:AV} {i:Nat} {x:lF} {d:Nat},Gn κ v (45,g) w loc y i->n<=i->i<=n+2*bV m->R4 (45,g) Y a v y->cB 121 [.p (45,g) 0 0, .a x.c] v d λaF ah=>fe (GR (κ-1) (bV (m+1)) Y (45,g) w loc a n) ah []:=λj o h2 u=>
   aPw j (by omega) λB Y1 A G' g1 X R'=>⟨B,A,rfl,G',by omega,by omega,u.trans R'⟩
  have F:∀{v:ae} {y:AV} {i:Nat} {W:fc} {T:Int} {d:Nat} {K:be},Gn κ v (45,g) w loc y i->i<=n+bV m->C6 m W->(∀B A Y1,Gn κ Y1 (45,g) w loc B A->i<=A->A<=i+bV m->R4 (45,g) v y Y1 B->K (.t []) Y1)->cB 211 [.p (45,g) 0 0, .a W.c,iv T] v d K:=λj o ab hK=>aPv rfl (ih j (by omega) ab) λB A Y1 k1 k2 k3 k4=>hK B A Y1 (k1.mono (by omega)) k2 k3 k4
  have z:=H.2
  rcases H.1 with⟨o|o,aB⟩|⟨o,ad,aC⟩|⟨o,ac⟩
  ·simp only[aQI,u0,u1,C,gw,aj,o,aNV,↓iC,bdI,↓uL]
   exact k G2 (by omega) (by omega) D
  ·have E:dG P (.a w.c)= .a w.c:=rfl
   simp only[aQI,oo hb,u0,u1,hb,C,gw,aRZ,aj,o,aNV,aNE,Int.reduceEq,↓iC,↓iB,jM,kU,jt,E,tW,alg,aD6,AL,bdI,mn,↓uL]
   exact⟨by omega,λ_=>k G2 (by omega) (by omega) D,λ_=>⟨by have:=Z.1;omega,k G2 (by omega) (by omega) D⟩⟩
  ·simp only[aQI,u0,u1,C,gw,aj,o,aNV,aNE,Int.reduceEq,↓iC,↓iB,y9,rr,↓uL]
   refine⟨⟨by omega,by omega⟩,F G2 (by omega) (z _ (dB (by simp;omega))) λy i s3 j g1 X u=>?_⟩
   have M:=u.f.keep _ _ (q4 _ rfl) C
   obtain⟨s',aE,O⟩:=j.bx
   have E:dG s3 (.a w.c)= .a w.c:=rfl
   simp only[a2v,oo O,u0,u1,O,M,gw,aRZ,aj,ad,jM,kU,jt,E,tW,aD6,AL,ix,bdI,rk,mn,↓uL]
   exact⟨by have:=Z.1;omega,a58 G.hq,k j (by omega) (by omega) (D.trans u)⟩
  ·have o1:e.op≠1:=by omega
   have o2:e.op≠2:=by omega
   have o3:e.op≠3:=by omega
   have ol:Q ((L e.l:Int)=1)=I:=by simp[ac]
   simp only[aQI,u0,u1,C,gw,aj,o1,o2,o3,ol,aNE,↓iB,y9,rr,↓uL]
   refine⟨⟨by omega,by omega⟩,F G2 (by omega) (z _ (dB (by simp;omega))) λy i s3 j g1 X u=>?_⟩
   have M:=u.f.keep _ _ (q4 _ rfl) C
   simp only[a2x,u0,u1,M,gw,aj,y9,rr,↓uL]
   refine⟨⟨by omega,by omega⟩,F j (by omega) (z _ (dB (by simp;omega))) λa5 n5 s5 G5 g3 g4 S=>?_⟩
   have q5:=S.f.keep _ _ (j.out _ (by simp) (by simp)) M
   simp only[a2w,u0,u1,q5,gw,aj,bdI,↓uL]
   exact k G5 (by omega) (by omega) ((D.trans u).trans S)
def aRF(G:Gn κ Y b w loc a n)(j:n<90000){e:fc}(i:C6 2 e){dd:Int}(h:∀g f Y1,Gn (κ-1) Y1 b w loc g f->n<=f->f<=n+3->R4 b Y a Y1 g->K (.t []) Y1):cB 211 [.p b 0 0, .a e.c,iv dd] Y d K:=aPv rfl (bdC 2 G (by have:bV 2=3:=rfl;omega) i) h
def bda(G:Gn κ Y b w loc a n)(hn:n<80000){x:eo}(M:C6 2 x.expr)(hI:∀y∈x.index,C6 2 y)(P:x.index≠[]->x.name=qN)(ag:L x.index<=1):∃r Y1,GR (κ-1) 7 Y b w loc a n r Y1/\cZ aS GG 207 [.p b 0 0, .a x.c] Y r Y1:=by
 obtain⟨b1,i⟩:=b
 obtain rfl:b1=45:=G.sb
 refine bg1 G.le WV λS v3 K2 ah nf2 A=>?_
 have B:Fx Y S []:=K2.fx []
 have G2:=G.fx0 B
 have v:R4 (45,i) Y a S a:=R4.of0 B
 obtain⟨s,nx,H⟩:=G2.bx
 have F:=G.wb
 have hL:=G.lb
 have j:∀{z:ae} {o:AV} {m:Nat} {x:lF} {d:Nat},Gn κ z (45,i) w loc o m->n<=m->m<=n+6->R4 (45,i) Y a z o->cB 121 [.p (45,i) 0 0, .a x.c] z d λak W=>fe (GR (κ-1) 7 Y (45,i) w loc a n) W []:=λe h1 h2 g=>
  aPw e (by omega) λa' Y1 n' X g1 E Z=>⟨a',n',rfl,X,by omega,by omega,g.trans Z⟩
 simp only[aU4,oo H,u0,u1,H,A,gw,aj,y9,rr,↓uL]
 refine⟨λh=>?_,λh=>?_⟩
 ·have l:0<L x.index:=by simpa using h
  have O:x.index≠[]:=aqS.1 l
  refine⟨⟨by omega,by omega⟩,aRF G2 (by omega) (hI _ (dB (by simpa using l))) λo m T e g1 E g=>?_⟩
  have q:=g.f.keep _ _ (G2.out _ (by simp) (by simp)) A
  simp only[a19,u0,u1,q,gw,aj,↓uL]
  refine aRF e (by omega) M λa5 n5 s5 C g3 g4 D=>?_
  have q5:=D.f.keep _ _ (e.out _ (by simp) (by simp)) q
  obtain⟨s',R,u⟩:=C.bx
  have k:dG s5 (.a w.c)= .a w.c:=rfl
  simp only[a18,oo u,u0,u1,u,q5,gw,aRZ,aj,P O,jM,kU,jt,k,tW,aD6,AL,ix,bdI,rk,mn,↓uL]
  exact⟨by have:=F.1;omega,a58 G.hq,j (C.mono (by omega)) (by omega) (by omega) ((v.trans g).trans D)⟩
 ·refine aRF G2 (by omega) M λo m T e g1 E g=>?_
  have q:=g.f.keep _ _ (G2.out _ (by simp) (by simp)) A
  obtain⟨s',R,t⟩:=e.bx
  have k:dG T (.a w.c)= .a w.c:=rfl
  simp only[a2a,oo t,u0,u1,t,q,gw,aRZ,aj,jM,kU,jt,k,tW,alg,aD6,AL,bdI,mn,↓uL]
  exact⟨by omega,λ_=>j (e.mono (by omega)) (by omega) (by omega) (v.trans g),λ_=>⟨by have:=F.1;omega,j (e.mono (by omega)) (by omega) (by omega) (v.trans g)⟩⟩
def bcN(g:gm Y 209 6 a (ol.map lF.c)){i:Nat}(e:i<L ol){j:Nat}(z:j=1\/j=2){v:Int}{K:ae->Prop}(u:∀(Y':ae) (f:List lF),L f=L ol->gm Y' 209 6 a (f.map lF.c)->Fx Y Y' (aA a)->K Y'):rV (cz 6 Y a (iv i)) λl=>rV (iQ j Y l) λo=>sV (aK 1 Y o (iv v)) K:=by rcases g with⟨h,rfl⟩|⟨q,m,rfl,k⟩;simp at h;subst h;simp at e;have s:cz 6 Y (.m q (L (ol.map lF.c))) (iv i)=V (.p q i 0):=(by simp[cz,k,e]);have t:iQ j Y (.p q i 0)=V (.p q i j):=(by simp[iQ,k]);simp only[s,t,aY];have A:(ol.map lF.c++m)[i]?=V (lF.c (gd ol i)):=(by rw[xe (by simpa using e),ve,eC e,bT e];rfl);refine aQz (x:=iv v) k A (by show j<6;omega) rfl rfl rfl λY' F r=>?_;obtain⟨y,C⟩:∃y:lF,(lF.c (gd ol i)).set j (iv v)=y.c:=(by rcases z with rfl|rfl;exact⟨{gd ol i with a:=v},rfl⟩;exact⟨{gd ol i with b:=v},rfl⟩);have B:(ol.map lF.c++m).set i ((lF.c (gd ol i)).set j (iv v))=(ol.set i y).map lF.c++m:=(by rw[C,List.set_append_left _ _ (by simpa using e),List.map_set]);refine u Y' (ol.set i y) (by simp) (.inr ⟨q,m,by simp,?_⟩) (by simpa[aA] using F);rw[r,<-B];rfl
def Gn.patch(G:Gn κ Y b w loc a n){i:Nat}(A:i<n){j:Nat}(p:j=1\/j=2){v:Int}{K:ae->Prop}(m:∀Y',Gn κ Y' b w loc a n->R4 b Y a Y' a->K Y'):rV (cz 6 Y a (iv i)) λf=>rV (iQ j Y f) λk=>sV (aK 1 Y k (iv v)) K:=by obtain⟨s,t,r,o⟩:=G.bx0;obtain⟨x,g,B⟩:=G.ga;refine bcN g (by omega) p λY' e u l F=>m Y' ⟨⟨s,t,r,F.keep _ _ (λc=>by have y:=G.sa _ c;have z:=G.sb;omega) o⟩,⟨e,l,by omega⟩,F.len.trans G.le,G.sb,G.sa,G.wb,G.lb,G.hq⟩ ⟨F.mono λq c=> .inl (zu _ c),λ_ h=> .inl h⟩
def Gn.set(G:Gn κ Y b w loc a n){v:Int}{K:ae->Prop}(i:∀Y',Gn κ Y' b w loc a n->Fx Y Y' [b]->K Y'):sV (aK 1 Y (.p b 0 8) (iv v)) K:=by obtain⟨s,m,l,j⟩:=G.bx0;obtain⟨f,g,k⟩:=G.ga;exact A0 j rfl (by simp) λY' F h=>i Y' ⟨⟨v,m,l,h⟩,⟨f,g.fx F (λq c e=>by have o:=G.sa q c;have r:=G.sb;simp at e;subst e;omega),k⟩,F.len.trans G.le,G.sb,G.sa,G.wb,G.lb,G.hq⟩ F
def Gn.nxt(G:Gn κ Y b w loc a n){v:Int}(j:0<=v)(c:v<=n+κ){K:ae->Prop}(k:∀Y',Gn κ Y' b w loc a n->Fx Y Y' [b]->K Y'):sV (aK 1 Y (.p b 0 9) (iv v)) K:=by obtain⟨s,t,r,l⟩:=G.bx0;obtain⟨h,g,m⟩:=G.ga;exact A0 l rfl (by simp) λY' F i=>k Y' ⟨⟨s,v,⟨j,c⟩,i⟩,⟨h,g.fx F (λq f e=>by have c:=G.sa q f;have o:=G.sb;simp at e;subst e;omega),m⟩,F.len.trans G.le,G.sb,G.sa,G.wb,G.lb,G.hq⟩ F
def bG:Nat->Nat|0=>0|m+1=>10+8*bG m
def aRo(b:Id)(w:br)(loc:List ByteArray)(m:Nat):Prop:=∀{κ:Int} {Y:ae} {a:AV} {n:Nat} {l:List eo},Gn κ Y b w loc a n->κ<=1000000->shL m 8 l->n+L l*bG m<60000->∃r Y1,GR κ (L l*bG m) Y b w loc a n r Y1/\cZ aS GG 120 [.p b 0 0,sl eo.c l] Y r Y1
def aV7{m:Nat}(q:aRo b w loc m)(G:Gn κ Y b w loc a n)(i:κ<=1000000){l:List eo}(g:shL m 4 l)(s:n+4*bG m<60000)(o:∀f e Y1,Gn κ Y1 b w loc f e->n<=e->e<=n+4*bG m->R4 b Y a Y1 f->K (.t []) Y1):cB 120 [.p b 0 0,sl eo.c l] Y d K:=by have h:L l*bG m<=4*bG m:=qo _ g.1;exact aPv rfl (q G i ⟨by have:=g.1;omega,g.2⟩ (by omega)) λf e Y1 j k r h=>o f e Y1 j k (by omega) h
def bc9{m:Nat}(E:aRo b w loc m)(G:Gn κ Y b w loc a n){x:eo}(D:A5 (m+1) x)(hn:n+bG (m+1)<60000)(S:κ<=1000001)(o1 H y:Int):∃r Y1,GR (κ-1) (bG (m+1)) Y b w loc a n r Y1/\cZ aS GG 209 [.p b 0 0, .a x.c,iv o1,iv H,iv y] Y r Y1:=by obtain⟨m',R,g1,g2⟩:=D.body;obtain rfl:m=m':=(by omega);have P:bG (m+1)=10+8*bG m:=rfl;obtain⟨B,C⟩:=b;obtain rfl:B=45:=G.sb;refine bg0 G.le WV λl v3 K2 T nf2 M=>?_;have g:Fx Y l []:=K2.fx [];have G2:=G.fx0 g;have v:R4 (45,C) Y a l a:=R4.of0 g;obtain⟨s,nx,k⟩:=G2.bx;simp only[aU3,oo k,u0,u1,k,yr,C5,yd,aj,bdI,↓uL];refine aPw G2 (by omega) λX s3 n3 q h1 h2 i=>?_;have O:=i.f.keep _ _ (G2.out _ (by simp) (by simp)) M;simp only[a17,u0,u1,O,gw,aj,↓uL];refine aV7 E q (by omega) g1 (by omega) λZ n4 s4 h h3 h4 j=>?_;obtain⟨s',W,e⟩:=h.bx;simp only[a16,oo e,u0,u1,e,aj,↓uL];refine h.set λs5 t o=>?_;simp only[a15,bdI,aY];refine aPw t (by omega) λA s6 F u h5 h6 z=>⟨A,F,rfl,u.mono (by omega),by omega,by omega,(((v.trans i).trans j).trans (R4.ofb o)).trans z⟩
def a6I{m:Nat}(ih:aRo b w loc m)(G:Gn κ Y b w loc a n){x:eo}(hx:A5 (m+1) x)(he:C6 2 x.expr)(hn:n+bG (m+1)<60000)(aV:κ<=1000001):∃r Y1,GR (κ-1) (bG (m+1)) Y b w loc a n r Y1/\cZ aS GG 208 [.p b 0 0, .a x.c] Y r Y1:=by obtain⟨m',aR,g1,g2⟩:=hx.body;obtain rfl:m=m':=(by omega);have aQ:bG (m+1)=10+8*bG m:=rfl;obtain⟨b1,W⟩:=b;obtain rfl:b1=45:=G.sb;refine bg2 G.le WV λs2 v3 K2 aW nf2 q2=>?_;have D:Fx Y s2 []:=K2.fx [];have G2:=G.fx0 D;have R2:R4 (45,W) Y a s2 a:=R4.of0 D;obtain⟨s,nx,hb⟩:=G2.bx;obtain⟨o2,X,aT⟩:=G2.ga;simp only[aU5,oo hb,u0,u1,hb,q2,gw,aj,X.ln,↓uL];refine aRF G2 (by omega) he λa3 n3 s3 l h1 h2 P=>?_;have q3:=P.f.keep _ _ (G2.out _ (by simp) (by simp)) q2;obtain⟨s',aX,t⟩:=l.bx;obtain⟨o3,Z,ad⟩:=l.ga;simp only[a2i,oo t,u0,u1,t,yr,C5,yd,aj,Z.ln,bdI,↓uL];refine aPw l (by omega) λa4 s4 n4 H h3 h4 q=>?_;have q4:=q.f.keep _ _ (l.out _ (by simp) (by simp)) q3;simp only[a2h,u0,u1,q4,gw,aj,↓uL];refine aV7 ih H (by omega) g1 (by omega) λS n5 s5 M h5 h6 R=>?_;have q5:=R.f.keep _ _ (H.out _ (by simp) (by simp)) q4;obtain⟨a6,aF,u⟩:=M.bx;simp only[a2g,oo u,u0,u1,u,aj,↓uL];refine M.set λs6 h E=>?_;have q6:=E.kq q5;have A:R4 (45,W) Y a s6 S:=(((R2.trans P).trans q).trans R).trans (R4.ofb E);obtain⟨ba,aY,v⟩:=h.bx;obtain⟨o6,aa,ae⟩:=h.ga;have B:L (o3.map lF.c)=n3:=(by simp[ad]);simp only[a2f,oo v,u0,u1,v,q6,gw,aj,aa.ln,bdI,B,↓uL];refine⟨λ_=>?_,λ_=>⟨λ_=>?_,λ_=>?_⟩⟩;refine aPw h (by omega) λT s7 n7 e h7 h8 o=>?_;obtain⟨aq,al,g⟩:=e.bx;obtain⟨o7,k,af⟩:=e.ga;simp only[a2b,oo g,u0,u1,g,yr,C5,yd,aj,k.ln,↓uL];refine e.patch (by omega) (.inr rfl) λs8 j i=>?_;exact⟨T,n7,rfl,j.mono (by omega),by omega,by omega,(A.trans o).trans i⟩;refine h.patch (by omega) (.inr rfl) λs8 j i=>?_;exact⟨S,n5,rfl,j.mono (by omega),by omega,by omega,A.trans i⟩;refine aPw h (by omega) λT s7 n7 e h7 h8 o=>?_;have q7:=o.f.keep _ _ (h.out _ (by simp) (by simp)) q6;obtain⟨aq,al,g⟩:=e.bx;obtain⟨o7,k,af⟩:=e.ga;simp only[a2e,oo g,u0,u1,g,yr,C5,yd,aj,k.ln,↓uL];refine e.patch (by omega) (.inr rfl) λs8 j i=>?_;have q8:=i.f.keep _ _ (e.out _ (by simp) (by simp)) q7;simp only[a2d,u0,u1,q8,gw,aj,↓uL];refine aV7 ih j (by omega) g2 (by omega) λa9 n9 s9 z h9 aP R9=>?_;obtain⟨bb,aZ,y⟩:=z.bx;obtain⟨o9,ab,aU⟩:=z.ga;have C:L (o6.map lF.c)=n5:=(by simp[ae]);simp only[a2c,oo y,u0,u1,y,yr,C5,yd,aj,ab.ln,C,↓uL];refine z.patch (by omega) (.inl rfl) λa8 F O=>?_;exact⟨a9,n9,rfl,F.mono (by omega),by omega,by omega,(((A.trans o).trans i).trans R9).trans O⟩
def bde(G:Gn κ Y b w loc a n)(i:ByteArray):∃r Y1,((∃v,r= .s v/\∃u:Int,AV.s v=iv u)/\Fx Y Y1 [])/\cZ aS GG 210 [.p b 0 0,st i] Y r Y1:=by refine bg3 G.le ?_;obtain⟨s,o,e⟩:=G.bx;have j:=G.wb.2.2.1;simp only[aU6];refine C7 (L w.bC) (λk=>True) trivial λk m l=>?_;have g:∀u:Int,fe (λr Y1=>(∃v,r= .s v/\∃u:Int,AV.s v=iv u)/\Fx Y Y1 []) Y [iv u]:=λu=>⟨⟨_,rfl,u,rfl⟩,Fx.refl _ _⟩;simp+contextual only[a2j,aI,au,oo e,u0,u1,e,yr,C5,yd,rk,aj,aBz (f:=yp.c) (z:=2) (λ_=>rfl),bh,g,↓uL];exact⟨λh=>⟨bA h,λ_=>trivial,λ_=>gS (aL h) (by omega) trivial⟩,λ_=>trivial⟩
def baW(G:Gn κ Y b w loc a n){c:ByteArray}(e:∀u:Int,K (iv u) Y):cB 210 [.p b 0 0,st c] Y d K:=aV6 rfl (bde G c) (by rintro v ⟨u,f⟩;rw[f];exact e u)
def bdx{m:Nat}(X:aRo b w loc m)(G:Gn κ Y b w loc a n){x:eo}(H:A5 (m+1) x)(W:n+bG (m+1)<60000)(aJ:κ<=1000000):∃r Y1,GR κ (bG (m+1)) Y b w loc a n r Y1/\cZ aS GG 178 [.p b 0 0, .a x.c] Y r Y1:=by
 have B:=H.at
 have ho:=H.ops
 have aF:bG (m+1)=10+8*bG m:=rfl
 obtain⟨b1,i⟩:=b
 obtain rfl:b1=45:=G.sb
 refine bg5 G.le WV λs2 v3 K2 aK nf2 q2=>?_
 have F2:Fx Y s2 []:=K2.fx []
 have G2:=G.fx0 F2
 obtain⟨s,nx,hb⟩:=G2.bx
 simp only[aU8,oo hb,u0,u1,hb,yr,C5,yd,aj,↓uL]
 refine G2.set λs3 M F3=>?_
 have q3:=F3.kq q2
 obtain⟨s',am,aG,P⟩:=M.bx0
 simp only[a2r,oo P,u0,u1,P,yr,C5,yd,aj,eM (x:=am+1) (by omega) (by omega),↓uL]
 refine(M.mono (κ':=κ+1) (by omega)).nxt (by omega) (by omega) λE g F4=>?_
 have q4:=F4.kq q3
 have j:R4 (45,i) Y a E a:=((R4.of0 F2).trans (R4.ofb F3)).trans (R4.ofb F4)
 obtain⟨aM,ay,C⟩:=g.bx
 have A:=g.wb
 have hL:=g.lb
 have O:∀{T:ae} {a3:AV} {Z:Nat} {x:lF} {d:Nat},Gn (κ+1) T (45,i) w loc a3 Z->n<=Z->Z<=n+3->R4 (45,i) Y a T a3->cB 121 [.p (45,i) 0 0, .a x.c] T d λS v=>fe (GR κ (bG (m+1)) Y (45,i) w loc a n) v []:=λM l o R3=>
  aPw M (by omega) λk Y1 q G' g1 g2 R'=>⟨k,q,rfl,G'.mono (by omega),by omega,by omega,R3.trans R'⟩
 have t:∀{o1 o2 y:Int} {d:Nat},cB 209 [.p (45,i) 0 0, .a x.c,iv o1,iv o2,iv y] E d λS v=>fe (GR κ (bG (m+1)) Y (45,i) w loc a n) v []:=λ{o1 o2 y d}=>
  aPv rfl (bc9 X g H W (by omega) o1 o2 y) λk q Y1 l o D z=>⟨k,q,rfl,l.mono (by omega),o,D,j.trans z⟩
 have F:∀{nm:ByteArray} {d:Nat} {K:be},(∀u:Int,K (iv u) E)->cB 210 [.p (45,i) 0 0,st nm] E d K:=λhK=>baW g hK
 have e:∀{x:lF} {d:Nat},cB 121 [.p (45,i) 0 0, .a x.c] E d λS v=>fe (GR κ (bG (m+1)) Y (45,i) w loc a n) v []:=λ{x d}=>O g (by omega) (by omega) j
 have aE:dG E (.a w.c)= .a w.c:=rfl
 simp only[a2q,oo C,u0,u1,C,q4,gw,aj,↓uL]
 have hc:x.op=1\/x.op=2\/x.op=3\/x.op=4\/x.op=5\/x.op=6\/x.op=7\/x.op=8\/x.op=9\/x.op=10\/x.op=11\/x.op=12\/x.op=13\/x.op=14\/x.op=15:=by omega
 rcases hc with h|h|h|h|h|h|h|h|h|h|h|h|h|h|h
 all_goals
  simp only[h,aI,au,a2t,a2s,oo C,u0,u1,C,q4,gw,aj,aNV,aNE,Int.reduceEq,↓iC,↓iB,jM,kU,jt,tW,alg,aD6,rr,bdI,mn,O9,sr,eE,Ca,vm,↓uL]
 ·exact aPv rfl (bda g (by omega) (B.1 (.inl h)) B.2.2.1 B.2.2.2.1 B.2.1) λk q Y1 l o D z=>⟨k,q,rfl,l.mono (by omega),o,by omega,j.trans z⟩
 ·exact aPv rfl (a6I X g H (B.1 (by omega)) W (by omega)) λk q Y1 l o D z=>⟨k,q,rfl,l.mono (by omega),o,D,j.trans z⟩
 ·exact aPv rfl (a6I X g H (B.1 (by omega)) W (by omega)) λk q Y1 l o D z=>⟨k,q,rfl,l.mono (by omega),o,D,j.trans z⟩
 ·exact⟨by have:=A.2.1;omega,λ_=>t⟩
 ·exact⟨by have:=A.2.1;omega,λ_=>t⟩
 ·exact⟨by have:=A.2.1;omega,λ_=>t⟩
 ·exact t
 ·exact t
 ·exact F λu=>by simp only[a2m,bdI,aY];exact e
 ·exact F λu=>by simp only[a2n,bdI,aY];exact e
 ·exact F λu=>by simp only[a2o,bdI,aY];exact e
 ·exact⟨by have:=A.2.2.2.2.1;omega,e⟩
 ·exact⟨by have:=A.2.2.2.2.1;omega,e⟩
 ·refine aRF g (by omega) (B.1 (by omega)) λa5 n5 s5 G5 l o R5=>?_
  have q5:=R5.f.keep _ _ (g.out _ (by simp) (by simp)) q4
  obtain⟨aN,aL,R⟩:=G5.bx
  have av:dG s5 (.a w.c)= .a w.c:=rfl
  simp only[a2p,oo R,u0,u1,R,q5,gw,aj,jM,kU,jt,tW,alg,aD6,AL,bdI,mn,↓uL]
  exact⟨by have:=A.2.2.2.1;omega,O (G5.mono (by omega)) (by omega) (by omega) (j.trans R5)⟩
 ·exact⟨by omega,by have:=A.2.2.2.1;omega,e⟩
def bdz(m:Nat):m<=4->aRo b w loc m:=by induction m with|zero=>intro _ κ Y a n l G p e v;have o:l=[]:=(by cases l with|nil=>rfl|cons x l=>exact(e.2 x (by simp)).elim);subst o;refine a7T G.le ?_;simp only[aSu];refine yV 0 (λ_ _ Y'=>Y'=Y) rfl ?_;rintro k _ Y1 j rfl;obtain rfl:k=0:=(by omega);simp only[aU9,aI,au,u0,u1,vw,↓uL];exact⟨λh=>by simp at h,λ_=>⟨a,n,rfl,G,by omega,by omega,R4.refl⟩⟩|succ m y=>intro F κ Y a n l G p e v;have E:=G.le;have A:bG (m+1)<=46810:=(by have:m=0\/m=1\/m=2\/m=3:=(by omega);rcases this with rfl|rfl|rfl|rfl<;>decide);refine a7T G.le ?_;simp only[aSu];refine jD (α:=AV×Nat) (λ_ i=>[iv i]) 0 (L l) (λi x Y'=>Gn κ Y' b w loc x.1 x.2/\n<=x.2/\x.2<=n+i*bG (m+1)/\R4 b Y a Y' x.1) (s0:=(a,n)) ⟨G,by omega,by omega,R4.refl⟩ ?_;rintro k ⟨a1,q⟩ Y1 j ⟨f,t,D,g⟩;have B:k*bG (m+1)<=L l*bG (m+1):=qo _ j;simp only[aU9,aI,au,u0,u1,y9,bh,rr,gw,↓uL];refine⟨λh=>⟨bA h,?_⟩,λ_=>⟨a1,q,rfl,f,t,by omega,g⟩⟩;have c:=aL h;have H:(k+1)*bG (m+1)=k*bG (m+1)+bG (m+1):=tN _ _;have u:(k+1)*bG (m+1)<=L l*bG (m+1):=qo _ c;refine aPv rfl (bdx (y (by omega)) f (e.2 _ (dB c)) (by omega) (by omega)) λa2 z Y2 G2 g1 C r=>?_;simp only[a2u,au,u0,u1,↓uL];exact dR (mk:=λ(_:AV×Nat) i=>[iv i]) (s:=(a1,q)) (s':=(a2,z)) (λ_ _=>rfl) c (by have:=e.1;omega) ⟨G2,by omega,by omega,g.trans r⟩
def ba2(G:Gn κ Y b w loc a 0){l:List eo}(h:shL 4 8 l)(i:κ<=1000000)(k:∀e f Y1,Gn κ Y1 b w loc e f->f<=50000->R4 b Y a Y1 e->K (.t []) Y1):cB 120 [.p b 0 0,sl eo.c l] Y d K:=by have q:L l*bG 4<=8*bG 4:=qo _ h.1;have g:bG 4=5850:=rfl;exact aPv rfl (bdz 4 (by omega) G i h (by omega)) λe f Y1 j m o g=>k e f Y1 j (by omega) g
end
def aQN{fn:FuncId}{xs:List AV}{Y:ae}{d:Nat}{K:be}{R:be}{ks:List Nat}(n:uQ.elem fn=I)(k:fps.lookup fn=V ks)(l:List Id)(a:∀x∈xs,okX ks l x)(f:okB ks l (Nm ks l Y))(h:∃r Y1,R r Y1/\cZ aS GG fn xs (Nm ks l Y) r Y1)(j:∀r Y1,R r Y1->L Y1=L Y/\∃l':List Id,okB ks l' Y1/\okX ks l' r/\K r (avs ks l' Y Y1)):cV fn xs Y d K:=by obtain⟨r,Y1,g,i⟩:=h;obtain⟨m,l',o,p,q⟩:=j r Y1 g;have e:aPf GGV fn=V ks:=(by have b:GGV.fp fn=V ks:=k;have c:GGV.rd fn=I:=n;unfold aPf;rw[b,c];rfl);unfold cV tR;rw[e];exact⟨l,l',r,Y1,i,m,a,f,o,p,q⟩
section
variable{ks:List Nat}{l:List Id}{Y Y1:ae}
def aQw{e:TypeId}{z:Nat}{a:AV}{aa:List (List AV)}(g:gm Y1 e z a aa)(h:∀q∈aA a,A6 ks l q):okC ks l a:=by rcases g with⟨_,rfl⟩|⟨q,m,rfl,_⟩;exact .inr rfl;exact h q (by simp[aA])
def a6y{e:TypeId}{z:Nat}{a:AV}{aa:List (List AV)}(g:gm Y e z a aa)(h:∀q∈aA a,A6 ks l q):gm (Nm ks l Y) e z a aa:=by rcases g with g|⟨q,r,rfl,g⟩;exact .inl g;have b:=h q (by simp[aA]);exact .inr ⟨q,r,rfl,by rw[aOV b.1,bX b.2];exact g⟩
def aRR(c:L Y1=L Y){e:TypeId}{z:Nat}{a:AV}{aa:List (List AV)}(g:gm Y1 e z a aa)(h:∀q∈aA a,A6 ks l q):gm (avs ks l Y Y1) e z a aa:=by rcases g with g|⟨q,r,rfl,g⟩;exact .inl g;have b:=h q (by simp[aA]);exact .inr ⟨q,r,rfl,by rw[aPT c b.1,bX b.2];exact g⟩
def aNO{e:TypeId}{z:Nat}{a:AV}{aa:List (List AV)}(g:gm Y e z a aa):∀p∈aA a,∀x,box Y p=V x->x.var=U->False:=by rcases g with⟨_,rfl⟩|⟨f,r,rfl,g⟩;simp[aA];intro p b x c d;simp only[aA,cE] at b;subst b;rw[g] at c;cases c;cases d
end
structure Kx(ks:List Nat)(Y Y':ae):Prop where
 len:L Y'=L Y
 keep:∀b x,b.1∉ks->box Y b=V x->box Y' b=V x
def Kx.mix{ks:List Nat}{l:List Id}{Y Y1:ae}:Kx ks Y (avs ks l Y Y1):=⟨aPl,λb x a c=>by rw[aPt a];exact c⟩
def Kx.kq{ks:List Nat}{Y Y':ae}(k:Kx ks Y Y'){b:Id}{x:bY}(c:box Y b=V x)(a:b.1∉ks:=by simp):box Y' b=V x:=k.keep b x a c
section
variable{ks:List Nat}{Y Y' Y1:ae}{m b:Id}{hs:List ByteArray}{h:AV}{d:Nat}{K:be}{l:List Id}
def Kx.gr(k:Kx ks Y Y'){e:TypeId}{z:Nat}{a:AV}{aa:List (List AV)}(g:gm Y e z a aa)(c:∀q∈aA a,q.1∉ks):gm Y' e z a aa:=by rcases g with g|⟨b,m,rfl,g⟩;exact .inl g;exact .inr ⟨b,m,rfl,k.keep _ _ (c b (by simp[aA])) g⟩
def Fx.kx{c:List Id}(F:Fx Y Y' c)(e:∀q∈c,q.1∈ks):Kx ks Y Y':=⟨F.len,λb x f i=>F.keep b x (λg=>f (e b g)) i⟩
def qa.mix(M:qa Y1 m b hs h)(c:L Y1=L Y)(g:A6 ks l m)(f:A6 ks l b)(j:∀q∈aA h,A6 ks l q):qa (avs ks l Y Y1) m b hs h:=by obtain⟨p,n,s,tx,e,o,k⟩:=M.mx;obtain⟨i,a,T⟩:=M.tp;refine⟨⟨p,n,s,tx,e,o,?_⟩,⟨i,a,⟨?_,T.le,T.ok,T.ll⟩⟩,aRR c M.gh j,by rw[aPl,<-c];exact M.le,M.sm,M.sb,M.sh⟩;rw[aPT c g.1,bX g.2];exact k;rw[aPT c f.1,bX f.2];exact T.bx
def qa.cut(M:qa Y m b hs h)(f:A6 ks l m)(e:A6 ks l b)(i:∀q∈aA h,A6 ks l q):qa (Nm ks l Y) m b hs h:=by obtain⟨o,k,s,tx,c,n,j⟩:=M.mx;obtain⟨g,a,T⟩:=M.tp;refine⟨⟨o,k,s,tx,c,n,?_⟩,⟨g,a,⟨?_,T.le,T.ok,T.ll⟩⟩,a6y M.gh i,by rw[aOr];exact M.le,M.sm,M.sb,M.sh⟩;rw[aOV f.1,bX f.2];exact j;rw[aOV e.1,bX e.2];exact T.bx
def qa.aa(M:qa Y1 m b hs h)(g:A6 ks l b)(i:∀q∈aA h,A6 ks l q):∀p,p=m\/p=b\/p∈aA h->∀x,box Y1 p=V x->x.var=U->∀q∈x.aa,∀y∈q,okC ks l y:=by obtain⟨w,t,s,tx,o,u,n⟩:=M.mx;obtain⟨r,a,T⟩:=M.tp;rintro p (rfl|rfl|j) x c k q e y f;rw[n] at c;cases c;simp only[cE] at e;subst e;simp only[eW,ql,C8] at f;rcases f with rfl|rfl|rfl|rfl|rfl|rfl|rfl|rfl;exact g;trivial;trivial;trivial;trivial;trivial;trivial;exact aQw M.gh i;rw[T.bx] at c;cases c;simp only[cE] at e;subst e;simp only[eW,ql,C8] at f;rcases f with rfl|rfl;exact .inl rfl;trivial;exact(aNO M.gh p j x c k).elim
def aXR(M:qa Y m b hs h){n:Int}(E:∀(x:Int) Y1,0<=x->(1<=n->x<n)->qa Y1 m b hs h->Kx [14,15,16] Y Y1->K (iv x) Y1):cV 66 [.p b 0 0,iv n] Y d K:=by have u:=M.sm;have t:=M.sb;have y:A6 [14,15,16] (m::b::aA h) m:=⟨by simp[u],by simp⟩;have e:A6 [14,15,16] (m::b::aA h) b:=⟨by simp[t],by simp⟩;have f:∀q∈aA h,A6 [14,15,16] (m::b::aA h) q:=λq o=>⟨by simp[M.sh q o],by simp[o]⟩;have c:=M.cut y e f;obtain⟨z,a,T⟩:=c.tp;refine aQN rfl rfl (m::b::aA h) (λx w=>?_) (λp i=>c.aa e f p (by simpa using i)) (aWF c.le T n) ?_;simp only[eW,ql,C8] at w;rcases w with rfl|rfl;exact e;trivial;rintro r Y1 ⟨x,A,rfl,B,C,D,P,_,F⟩;have g:qa Y1 m b hs h:=(by obtain⟨O,H,s,tx,j,N,G⟩:=c.mx;exact⟨⟨O,H,s,tx,j,N,F.keep _ _ (by simpa using M.ne) G⟩,⟨z,A,D⟩,c.gh.fx F M.nb,F.len.trans c.le,M.sm,M.sb,M.sh⟩);have k:L Y1=L Y:=g.le.trans M.le.symm;exact⟨k,m::b::aA h,λp i=>g.aa e f p (by simpa using i),trivial,E x _ B C (g.mix k y e f) Kx.mix⟩
def baZ{D:Nat}(M:qa Y m b hs h)(X:L hs+D<=500){A n:Int}(W:A=D)(P:0<=n)(S:n<=3)(T:∀(a:AV) (l:List eo) (h':AV) Y1,gm Y1 219 11 a (l.map eo.c)->(L l:Int)<=n->(∀x∈l,A5 (D+1) x)->(∀q∈aA a,q.1=30)->qa Y1 m b hs h'->Kx [14,15,16,30] Y Y1->K a Y1):cV 124 [.p m 0 0,iv A,iv n] Y d K:=by subst W;have u:=M.sm;have t:=M.sb;have F:A6 [14,15,16,30] (m::b::aA h) m:=⟨by simp[u],by simp⟩;have C:A6 [14,15,16,30] (m::b::aA h) b:=⟨by simp[t],by simp⟩;have E:∀q∈aA h,A6 [14,15,16,30] (m::b::aA h) q:=λq e=>⟨by simp[M.sh q e],by simp[e]⟩;have z:=M.cut F C E;refine aQN rfl rfl (m::b::aA h) (λx g=>?_) (λp f=>z.aa C E p (by simpa using f)) (bdw D z X P S) ?_;simp only[eW,ql,C8] at g;rcases g with rfl|rfl|rfl;exact F;trivial;trivial;rintro r Y1 ⟨l,h',g1,N,O,B,k,R⟩;have o:L Y1=L Y:=k.le.trans M.le.symm;have G:A6 [14,15,16,30] (m::b::(aA h'++aA r)) m:=⟨by simp[u],by simp⟩;have i:A6 [14,15,16,30] (m::b::(aA h'++aA r)) b:=⟨by simp[t],by simp⟩;have j:∀q∈aA h',A6 [14,15,16,30] (m::b::(aA h'++aA r)) q:=λq e=>⟨by simp[k.sh q e],by simp[e]⟩;have H:∀q∈aA r,A6 [14,15,16,30] (m::b::(aA h'++aA r)) q:=λq e=>⟨by simp[(B q e).2],by simp[e]⟩;refine⟨o,m::b::(aA h'++aA r),?_,?_,T r l h' _ (aRR o g1 H) N O (λq e=>(B q e).2) (k.mix o G i j) Kx.mix⟩;intro p f x g s q e y w;simp only[eW,dF] at f;rcases f with f|f|f|f;exact k.aa i j p (.inl f) x g s q e y w;exact k.aa i j p (.inr (.inl f)) x g s q e y w;exact k.aa i j p (.inr (.inr f)) x g s q e y w;exact(aNO g1 p f x g s).elim;have:=aQw (ks:=[14,15,16,30]) (l:=m::b::(aA h'++aA r)) g1 H;rcases g1 with⟨_,rfl⟩|⟨q,Z,rfl,_⟩<;>exact this
end
def apX{Y:ae}{e:TypeId}{z d by':Nat}{zs:List AV}{a x:AV}{aa new:List (List AV)}{K:be}(i:gm Y e z a aa)(w:gm Y e z x new)(C:L zs=z)(o:0<z)(y:d<L Y)(B:∀r∈aa,L r=z)(A:∀r∈new,L r=z)(f:(L aa+L new)*(by'+1)<=1099511627776)(n:∀c Y',gm Y' e z c (aa++new)->Fx Y Y' (aA a)->(∀b∈aA c,b∈aA a\/b.1=d)->K c Y'):eV (j5 e zs by' Y d a x) K:=by have t:gL Y x=V new:=(by rcases w with⟨rfl,rfl⟩|⟨q,m,rfl,j⟩;rfl;simp[gL,j]);have u:j5 e zs by' Y d a x=j5 e zs by' Y d a (.l new U U):=(by have s:gL Y (.l new U U)=V new:=rfl;unfold j5;rw[t,s]);rw[u];by_cases k:new=[];subst k;have:j5 e zs by' Y d a (.l [] U U)=V (a,Y):=(by unfold j5;simp only[gL];rw[bX (by simp)];rcases i with⟨_,rfl⟩|⟨q,m,rfl,j⟩;rfl;simp[j]);rw[this];exact n a Y (by simpa using i) (Fx.refl _ _) λb f=> .inl f;exact qs i C o y B A k f λc Y' g F N=>n c Y' g.p F λb f=> .inr (N b f).2
structure MPs(Y:ae)(m b:Id)(v1 v4:Nat)(h:AV)(ts:List xt)(a:AV):Prop where
 M:qa Y m b [] h
 p:box Y (4,v4)=V ⟨143,2,U,U,[[sl w6.c aNF,a]]⟩
 ga:gm Y 203 4 a (ts.map xt.c)
 pa:∀q∈aA a,q.1=93
 r:box Y (2,v1)=V ⟨143,2,U,U,[aP6]⟩
 ht:∀t∈ts,shT t
structure TB(Y:ae)(v:Nat)(nm:ByteArray)(a:AV)(l:List eo):Prop where
 p:box Y (8,v)=V ⟨203,4,U,U,[[st nm,iv 0, .l ([⟨#[97]⟩,⟨#[98]⟩].map cs) U U,a]]⟩
 ga:gm Y 219 11 a (l.map eo.c)
 pa:∀q∈aA a,q.1=56\/q.1=68\/q.1=87
 hs:∀s∈l,A5 4 s
section
variable{ks:List Nat}{Y Y':ae}{m b:Id}{v1 v4 v:Nat}{h h' a:AV}{ts:List xt}{nm:ByteArray}{l:List eo}{Lw:List Id}
def MPs.kx(S:MPs Y m b v1 v4 h ts a)(k:Kx ks Y Y')(M:qa Y' m b [] h')(c:4∉ks)(e:2∉ks)(f:93∉ks):MPs Y' m b v1 v4 h' ts a:=⟨M,k.keep _ _ c S.p,k.gr S.ga λq g=>by rw[S.pa q g];exact f,S.pa,k.keep _ _ e S.r,S.ht⟩
def MPs.fx(S:MPs Y m b v1 v4 h ts a)(F:Fx Y Y' Lw)(c:∀q∈Lw,q.1=8\/q.1=56\/q.1=68\/q.1=87):MPs Y' m b v1 v4 h ts a:=by have i:=S.M.sm;have f:=S.M.sb;refine⟨S.M.fx F (λg=>by have:=c _ g;omega) (λg=>by have:=c _ g;omega) (λq e g=>by have:=c _ g;have:=S.M.sh q e;omega),F.keep _ _ (λg=>by have:=c _ g;simp at this) S.p,S.ga.fx F (λq e g=>by have:=c _ g;have:=S.pa q e;omega),S.pa,F.keep _ _ (λg=>by have:=c _ g;simp at this) S.r,S.ht⟩
def TB.kx(S:TB Y v nm a l)(k:Kx ks Y Y')(c:8∉ks)(f:56∉ks)(i:68∉ks)(j:87∉ks):TB Y' v nm a l:=⟨k.keep _ _ c S.p,k.gr S.ga (λq e=>by rcases S.pa q e with g|g|g<;>rw[g]<;>assumption),S.pa,S.hs⟩
def TB.fx0(S:TB Y v nm a l)(F:Fx Y Y' Lw)(c:∀q∈Lw,q.1≠8/\q.1≠56/\q.1≠68/\q.1≠87):TB Y' v nm a l:=⟨F.keep _ _ (λg=>(c _ g).1 rfl) S.p,S.ga.fx F (λq e g=>by have:=c _ g;have:=S.pa q e;omega),S.pa,S.hs⟩
def TB.set{k:AV}(r:box Y (8,v)=V ⟨203,4,U,U,[[st nm,iv 0, .l ([⟨#[97]⟩,⟨#[98]⟩].map cs) U U,k]]⟩){f:AV}{l':List eo}(g:gm Y 219 11 f (l'.map eo.c))(i:∀q∈aA f,q.1=56\/q.1=68\/q.1=87)(j:∀s∈l',A5 4 s){K:ae->Prop}(o:∀Y1,TB Y1 v nm f l'->Fx Y Y1 [(8,v)]->K Y1):sV (aK 1 Y (.p (8,v) 0 3) f) K:=A0 r g.ce (by simp) λY1 F n=>o Y1 ⟨n,g.fx F (λq t e=>by have:=i q t;simp at e;subst e;simp at this),i,j⟩ F
end
def baI{Y:ae}:aX C9 4 Y [(0,(sv [109,97,105,110])),(1,(sv [116,49])),(2,(sv [116,50])),(3,(sv [116,51]))]=V (.l ([⟨#[109,97,105,110]⟩,⟨#[116,49]⟩,⟨#[116,50]⟩,⟨#[116,51]⟩].map cs) U U,Y):=by kernel_rfl
def bas{nm:ByteArray}:bM aPM alz [(0,st nm),(2, .l ([⟨#[97]⟩,⟨#[98]⟩].map cs) U U)]=V (.a [st nm,iv 0, .l ([⟨#[97]⟩,⟨#[98]⟩].map cs) U U, .l [] U U]):=rfl
def a5R{o:Int}{nm:ByteArray}:bM A4 aon [(0,iv o),(2,st nm)]=V (.a [iv o,iv 0,st nm,sv [], .l [] U U,iv 0,iv 0,sv [], .l [] U U, .l [] U U, .l [] U U]):=rfl
def a51{Y:ae}{o:Int}{nm:ByteArray}:aX aNA 1 Y [(0, .a [iv o,iv 0,st nm,sv [], .l [] U U,iv 0,iv 0,sv [], .l [] U U, .l [] U U, .l [] U U])]=V (.l ([eo.mk o 0 nm ⟨#[]⟩ [] (fc.mk 0 0 ⟨#[]⟩ []) [] []].map eo.c) U U,Y):=aQm (tgt:=(eo.mk o 0 nm ⟨#[]⟩ [] (fc.mk 0 0 ⟨#[]⟩ []) [] []).c) (by rw[apT];rfl) WV (by decide) (aS7 (x:=eo.mk o 0 nm ⟨#[]⟩ [] (fc.mk 0 0 ⟨#[]⟩ []) [] [])) (by decide)
def aWJ(l:List Int)(hp:(∀x∈l,0<=x/\x<256)/\L l<4611686018427387904):Ct 74 [sl cu l] (λr=>∃p:xr,r= .a p.c/\shP p/\p.A7=aNF):=by refine aDq (bgf λs0 hl h0=>?_);simp only[aUA];refine so hl λv1 s1 F1 N1 q1=>?_;have aO:=F1.len.trans hl;have af:bM aTP O7 [(0,sl cu l)]=V (.a [sl cu l,iv 0]):=rfl;simp only[aY4,af,aY];refine bxL rfl (by decide) (by rw[aO];decide) λE s2 F2 N2 q2=>?_;have aP:=F2.len.trans aO;have bt:bM a75 a6U [(0, .p (14,E) 0 0),(2,iv 20)]=V (.a [.p (14,E) 0 0,iv 0,iv 20,bv I,bv I,bv I,bv I, .l [] U U]):=rfl;simp only[bt,aY];refine bxL rfl (by decide) (by rw[aP];decide) λG s3 F3 N3 q3=>?_;have aQ:=F3.len.trans aP;have T3:Tp s3 (14,E) l 0:=⟨F3.kq q2,by omega,hp.1,hp.2⟩;have M3:qa s3 (16,G) (14,E) [] (.l [] U U):=⟨⟨0,20,I,I,I,I,q3⟩,⟨l,0,T3⟩, .inl ⟨rfl,rfl⟩,aQ,rfl,rfl,by simp[aA]⟩;have bu:bM aP6 O7 [(0,sl w6.c aNF)]=V (.a [sl w6.c aNF, .l [] U U]):=rfl;simp only[jM,jt,aQV,bu,u0,↓uL];refine⟨by simp[lo,nA,uN,yv,wD],?_⟩;refine anu aQ λv4 s4 F4 N4 q4=>?_;have S4:MPs s4 (16,G) (14,E) v1 v4 (.l [] U U) [] (.l [] U U):=⟨M3.fx0 F4,q4, .inl ⟨rfl,rfl⟩,by simp[aA],F4.kq (F3.kq (F2.kq q1)),by simp⟩;obtain⟨th,lf,s,tx,ad,lp,aM⟩:=S4.M.mx;simp only[aY3,oo aM,u0,u1,aM,yr,yd,aj,↓uL];refine aXR S4.M λy s5 y0 y1 M5 K5=>?_;have y1:=y1 (by decide);have S5:=S4.kx K5 M5 (by decide) (by decide) (by decide);simp only[aY2,u0,u1,baI,eM (x:=2+y) (by omega) (by omega),↓uL];obtain⟨n,hn⟩:∃n:Nat,2+y=n:=⟨(2+y).toNat,by omega⟩;rw[hn];have cv:n<=4:=(by omega);refine yV n (λk _ Y=>∃h ts a,MPs Y (16,G) (14,E) v1 v4 h ts a/\L ts=k) ⟨_,_,_,S5,rfl⟩ ?_;rintro k _ Y hk ⟨h,ts,a,S,bF⟩;have aR:=S.M.le;obtain⟨th,lf,s,tx,ad,lp,hb⟩:=S.M.mx;simp only[aZb,aI,au,oo hb,u0,u1,hb,yd,aj,↓uL];refine⟨λN=>?_,λN=>?_⟩;have be:k<n:=(by simpa using N);refine aPJ S.M (.inl ⟨.inl rfl,_,rfl⟩) λs6 M6 F6=>?_;have S6:MPs s6 (16,G) (14,E) v1 v4 h ts a:=S.kx (ks:=[16]) (F6.kx (by simp)) M6 (by decide) (by decide) (by decide);simp only[aYY,au,amZ,u0,rk,gw,aV4,↓uL];refine⟨⟨by omega,by simp;omega⟩,?_⟩;generalize gd ([⟨#[109,97,105,110]⟩,⟨#[116,49]⟩,⟨#[116,50]⟩,⟨#[116,51]⟩]:List ByteArray) (k:Int).toNat=nm;simp only[aYX,bas,aY];refine anu S6.M.le λv8 s7 F7 N7 q7=>?_;have S7:=S6.fx F7 (by simp);have B7:TB s7 v8 nm (.l [] U U) []:=⟨q7, .inl ⟨rfl,rfl⟩,by simp[aA],by simp⟩;simp only[aYW,di];have aD:∀(Y1:ae) (h1 a8:AV) (u:List eo),MPs Y1 (16,G) (14,E) v1 v4 h1 ts a->TB Y1 v8 nm a8 u->L u<=3->aUB (.p (8,v8) 0 0) (.p (16,G) 0 0) (.p (4,v4) 0 0) [iv k] (yI (λ(_:Unit) i=>[iv i]) n λk _ Y=>∃h ts a,MPs Y (16,G) (14,E) v1 v4 h ts a/\L ts=k) (gM 0 n) Y (.l ([⟨#[109,97,105,110]⟩,⟨#[116,49]⟩,⟨#[116,50]⟩,⟨#[116,51]⟩].map cs) U U) [] Y1:=(by intro Y1 h1 a8 u A B aB;obtain⟨th,lf,s,tx,ad,lp,af⟩:=A.M.mx;simp only[aUB,aI,oo af,u0,u1,af,B.p,yr,C5,yd,aj,↓uL];refine aXR A.M λy s8 y0 y1 M8 K8=>?_;have y1:=y1 (by decide);have A8:=A.kx K8 M8 (by decide) (by decide) (by decide);have B8:=B.kx K8 (by decide) (by decide) (by decide) (by decide);simp only[aY9,u0,u1,eM (x:=1+y) (by omega) (by omega),↓uL];refine baZ (D:=2) A8.M (by simp) rfl (by omega) (by omega) λa9 l9 h9 s9 g9 ct bC p9 M9 K9=>?_;have A9:=A8.kx K9 M9 (by decide) (by decide) (by decide);have B9:=B8.kx K9 (by decide) (by decide) (by decide) (by decide);simp only[aY8];refine apX B9.ga g9 rfl (by decide) (by rw[A9.M.le];decide) (qW (f:=eo.c) (z:=11) λ_=>WV) (qW (f:=eo.c) (z:=11) λ_=>WV) (by simp;omega) λcq cw ay aK bH=>?_;rw[<-dg] at ay;have w:=B9.pa;have bg:=A9.fx aK (λq o=>by have:=w q o;omega);have aE:=aK.keep _ _ (λo=>by have:=w _ o;simp at this) B9.p;simp only[aY7,u0,u1,aE,aj,↓uL];refine TB.set aE ay (λq o=>by rcases bH q o with g|g;exact w q g;exact .inr (.inl g)) (λs C=>?_) λbK ap bl=>?_;rcases dF.1 C with g|g;exact B.hs s g;exact(bC s g).mono (by omega);have ac:=bg.fx bl (by simp);refine dT (by simp[eL,lb,lbV,cD,dC,dK]) ?_;have bc:L (u++l9)<=6:=(by simp;omega);generalize u++l9=bV at ap bc;clear ay aE;have ab:∀(Z:ae) (h2 a2:AV) (bd:List eo),MPs Z (16,G) (14,E) v1 v4 h2 ts a->TB Z v8 nm a2 bd->L bd<=8->aUC (.p (4,v4) 0 0) (.p (8,v8) 0 0) [iv k] (yI (λ(_:Unit) i=>[iv i]) n λk _ Y=>∃h ts a,MPs Y (16,G) (14,E) v1 v4 h ts a/\L ts=k) (gM 0 n) Y [] Z:=(by intro Z h2 a2 bd A B aB;have aC:aX aTM 1 Z [(0, .a [st nm,iv 0, .l ([⟨#[97]⟩,⟨#[98]⟩].map cs) U U,a2])]=V (.l ([(⟨nm,0,[⟨#[97]⟩,⟨#[98]⟩],bd⟩:xt)].map xt.c) U U,kills Z (eB (.a [st nm,iv 0, .l ([⟨#[97]⟩,⟨#[98]⟩].map cs) U U,a2]))):=aQm (tgt:=(⟨nm,0,[⟨#[97]⟩,⟨#[98]⟩],bd⟩:xt).c) (by simp only[ji,mU,aQ5,aXQ,aOb B.ga];rfl) rfl (by decide) rfl (by decide);have bb:∀q∈eB (.a [st nm,iv 0, .l ([⟨#[97]⟩,⟨#[98]⟩].map cs) U U,a2]),q.1=56\/q.1=68\/q.1=87:=λq o=>(by simp only[eB,Cz,RN,iR,dW,cL] at o;exact B.pa q (by cases a2<;>first|exact o|simp[iR] at o));have FK:=aOp (eB (.a [st nm,iv 0, .l ([⟨#[97]⟩,⟨#[98]⟩].map cs) U U,a2])) Z;simp only[aUC,aI,u0,u1,A.p,aEa B.p rfl,yr,C5,yd,aj,aC,↓uL];have F:=A.fx FK (λq o=>by have:=bb q o;omega);refine apQ F.ga F.M.le (qW (f:=xt.c) (z:=4) λ_=>rfl) (qW (f:=xt.c) (z:=4) λ_=>rfl) (by simp) (by simp;omega) λa4 s4 g4 F4 N4=>?_;rw[<-dg] at g4;have W:=F.pa;have p4:=F4.keep _ _ (λo=>by have:=W _ o;simp at this) F.p;simp only[aY5,u0,u1,p4,aj,↓uL];refine A0 p4 g4.p.ce (by simp) λs5 F5 b5=>?_;have hm:=F.M.sm;have hb:=F.M.sb;have M5:=(F.M.fx F4 (λg=>by have:=W _ g;omega) (λg=>by have:=W _ g;omega) (λq o g=>by have:=W _ g;have:=F.M.sh q o;omega)).fx F5 (by simp) (by simp) (λq o g=>by simp at g;subst g;have:=F.M.sh _ o;simp at this);simp only[aYU,au,u0,u1,↓uL];refine dR (mk:=λ(_:Unit) i=>[iv i]) (s:=()) (s':=()) (λ_ _=>rfl) be (by omega) ⟨h2,ts++[⟨nm,0,[⟨#[97]⟩,⟨#[98]⟩],bd⟩],a4,⟨M5,b5,g4.p.fx F5 (λq o e=>by have:=(N4 q o).2;simp at e;subst e;simp at this),λq o=>(N4 q o).2,?_,?_⟩,by simp[bF]⟩;exact F5.kq (F4.keep _ _ (λo=>by have:=W _ o;simp at this) F.r);intro t O;rcases dF.1 O with g|g;exact A.ht t g;simp only[cE] at g;subst g;exact⟨by simp,aB,B.hs⟩);simp only[di];obtain⟨th,lf,s,tx,ad,lp,az⟩:=ac.M.mx;rcases T:Q ((k:Int)=0) with _|_;simp only[aUE,au,T,u0,u1,aj,aOq,↓jN,Aa,↓iB,↓uL];exact ab bK _ _ _ ac ap (by omega);simp only[aUE,au,T,oo az,az,u0,u1,yr,yd,aj,aPh,↓jA,ya,↓uL];refine aXR ac.M λy bL y0 y1 bp aL=>?_;have an:=ac.kx aL bp (by decide) (by decide) (by decide);have H:=ap.kx aL (by decide) (by decide) (by decide) (by decide);simp only[H.p,amZ,rk,gw,a5R,a51,u0,u1,↓uL];refine⟨λ_=>⟨⟨by decide,by decide⟩,?_⟩,λ_=>ab bL _ _ _ an H (by omega)⟩;refine apQ H.ga an.M.le (qW (f:=eo.c) (z:=11) λ_=>WV) (qW (f:=eo.c) (z:=11) λ_=>WV) (by simp) (by simp;omega) λbr bO R P av=>?_;rw[<-dg] at R;have w:=H.pa;have ao:=an.fx P (λq o=>by have:=w q o;omega);have X:=P.keep _ _ (λo=>by have:=w _ o;simp at this) H.p;simp only[aY6,X,u0,u1,aj,↓uL];refine TB.set X R.p (λq o=> .inr (.inr (av q o).2)) (λs C=>?_) λaV aq ar=>?_;rcases dF.1 C with g|g;exact H.hs s g;simp only[cE] at g;subst g;exact aOI (λh=>nl h (by decide)) (.inl rfl) (by decide) (by decide);refine dT (by simp[eL,lb,lbV,cD,dC,dK]) ?_;exact ab aV _ _ _ (ao.fx ar (by simp)) aq (by simp;omega));obtain⟨th,lf,s,tx,ad,lp,cr⟩:=S7.M.mx;rcases T:Q ((k:Int)=0) with _|_;simp only[aUD,au,T,u0,u1,↓iB,↓uL];exact aD s7 _ _ _ S7 B7 (by simp);simp only[aUD,au,T,u0,u1,↓iC,↓uL];refine AI (α:=Unit) (λ_ i=>[iv i]) 0 n 1 (by omega) (λj _ Y=>∃a8 u,MPs Y (16,G) (14,E) v1 v4 h ts a/\TB Y v8 nm a8 u/\L u+1=j) (s0:=()) ⟨_,_,S7,B7,by simp⟩ ?_;rintro j _ Y1 hj ⟨a8,u,A,B,aB⟩;simp only[aZa,aI,au,B.p,amZ,rk,gw,a5R,a51,bh,u0,u1,aj,↓uL];refine⟨λN=>⟨⟨by omega,by have:j<n:=(by simpa using N);simp;omega⟩,?_⟩,λN=>aD Y1 _ _ _ A B (by omega)⟩;have bA:j<n:=(by simpa using N);refine apQ B.ga A.M.le (qW (f:=eo.c) (z:=11) λ_=>WV) (qW (f:=eo.c) (z:=11) λ_=>WV) (by simp) (by simp;omega) λbr bO R P av=>?_;rw[<-dg] at R;have w:=B.pa;have ao:=A.fx P (λq o=>by have:=w q o;omega);have X:=P.keep _ _ (λo=>by have:=w _ o;simp at this) B.p;simp only[aYV,X,u0,u1,aj,↓uL];refine TB.set X R.p (λq o=> .inl (av q o).2) (λs C=>?_) λaV aq ar=>?_;rcases dF.1 C with g|g;exact B.hs s g;simp only[cE] at g;subst g;exact aOI (λh=>nl h (by decide)) (.inl rfl) (by decide) (by decide);refine dT (by simp[eL,lb,lbV,cD,dC,dK]) ?_;simp only[au,u0,u1,↓uL];exact dR (mk:=λ(_:Unit) i=>[iv i]) (s:=()) (s':=()) (λ_ _=>rfl) bA (by omega) ⟨_,_,ao.fx ar (by simp),aq,by simp;omega⟩;have ha:dG Y (.a [sl w6.c aNF,a])= .a (⟨aNF,ts⟩:xr).c:=(by simp only[dG,eR,nrm,ji,mU];have e1:gK (gi Y a)=sl xt.c ts:=aOb S.ga;rw[e1];rfl);have aU:∀x y:AV,aN (V 2) [x,y]=V (.a [x,y]):=λ_ _=>rfl;have aR:L ts<=4:=(by omega);have aT:shP ⟨aNF,ts⟩:=⟨⟨by show L aNF<1000;decide,by show L ts<1000;omega,λt O=>by have:=(S.ht t O).1;omega⟩,aR,S.ht⟩;simp only[S.p,qd,qh,df,aU,jM,kU,jt,ha,u0,aQV,↓uL];refine⟨aT,by simp[lo,uN,yv,wD],?_⟩;simp only[oJ,pG,u0,u1,↓uL];refine⟨λhc=>?_,λhc=>?_⟩;refine⟨by simp[lo,nA,uN,yv,wD],?_⟩;simp only[aV4,bQ,aY1,jM,kU,jt,tW,Fa,aQV];refine⟨by simp[lo,nA,eB,iR],by rw[aXP rfl];trivial,?_⟩;have bD:A5 4 (eo.mk 1 0 ⟨#[120]⟩ ⟨#[]⟩ [] (fc.mk 1 1 ⟨#[]⟩ []) [] []):=aOI (λ_=>⟨.inl ⟨.inl rfl,rfl⟩,by simp[fc.l]⟩) (.inl rfl) (by decide) (by decide);have bw:∀x:eo,bM aPM alz [(0,sv [109,97,105,110]),(2, .l ([⟨#[97]⟩,⟨#[98]⟩].map cs) U U),(3, .l ([x].map eo.c) U U)]=V (.a [sv [109,97,105,110],iv 0, .l ([⟨#[97]⟩,⟨#[98]⟩].map cs) U U, .l ([x].map eo.c) U U]):=λ_=>rfl;have aC:∀(s:ae) (x:eo),aX aTM 1 s [(0, .a [sv [109,97,105,110],iv 0, .l ([⟨#[97]⟩,⟨#[98]⟩].map cs) U U, .l ([x].map eo.c) U U])]=V (.l ([(⟨⟨#[109,97,105,110]⟩,0,[⟨#[97]⟩,⟨#[98]⟩],[x]⟩:xt)].map xt.c) U U,s):=λs x=>aQm (tgt:=(⟨⟨#[109,97,105,110]⟩,0,[⟨#[97]⟩,⟨#[98]⟩],[x]⟩:xt).c) rfl rfl (by decide) rfl (by decide);have bx:∀t:xt,bM aP6 O7 [(0,sl w6.c aNF),(1, .l ([t].map xt.c) U U)]=V (.a [sl w6.c aNF, .l ([t].map xt.c) U U]):=λ_=>rfl;simp only[a50,bQ,aY0,bw,aC,aY,aYZ,bx,↓uL];refine qr S.r rfl rfl λs5 F5 b5=>?_;rw[aEa b5 rfl];refine aOv (v':= .a (⟨aNF,[⟨⟨#[109,97,105,110]⟩,0,[⟨#[97]⟩,⟨#[98]⟩],[eo.mk 1 0 ⟨#[120]⟩ ⟨#[]⟩ [] (fc.mk 1 1 ⟨#[]⟩ []) [] []]⟩]⟩:xr).c) (Q:=λr=>∃p:xr,r= .a p.c/\shP p/\p.A7=aNF) rfl rfl ⟨_,rfl,⟨⟨by decide,by decide,by simp⟩,by decide,?_⟩,rfl⟩;intro t O;simp only[cE] at O;subst O;exact⟨by decide,by decide,by intro s C;simp only[cE] at C;subst C;exact bD⟩;refine qr S.r rfl rfl λs5 F5 b5=>?_;have g5:=S.ga.fx F5 (λq o e=>by have:=S.pa q o;simp at e;subst e;simp at this);simp only[b5,qd,qh,df,aU,aY];refine aOv (v':= .a (⟨aNF,ts⟩:xr).c) (Q:=λr=>∃p:xr,r= .a p.c/\shP p/\p.A7=aNF) ?_ (by simp[iX,xr.c,eN,sl]) ⟨_,rfl,aT,rfl⟩;simp only[fzT,ji,mU,aBr g5];rfl
def aTV:FT:=om aWJ
def bbr{l Lw K}:=qz aTV aWJ l Lw K (j:=by simp+contextual only[ij,aQZ])
def a64(i:lF):L (A1 i)<=3:=by unfold A1;simp only[cond_eq_ite];(repeat' split);all_goals simp
structure RP(Y:ae)(v1 v7:Nat)(p:xr)(w:br)(ts:List A2)(a:AV):Prop where
 p:box Y (1,1)=V ⟨143,2,U,U,[p.c]⟩
 c:box Y (7,v7)=V ⟨92,7,U,U,[[sl cA.c w.cells,sl dS.c w.ak,sl yp.c w.bC,sl cs w.bU,sl cs w.ay,sl dL.c w.dU,a]]⟩
 ga:gm Y 192 2 a (ts.map A2.c)
 pa:∀q∈aA a,q.1=110
 r:box Y (2,v1)=V ⟨92,7,U,U,[aOR]⟩
 ht:∀t∈ts,L t.No<1000000
 le:L Y=4096
def RP.fx{Y Y':ae}{v1 i:Nat}{p:xr}{w:br}{ts:List A2}{a:AV}{f:List Id}(S:RP Y v1 i p w ts a)(F:Fx Y Y' f)(e:∀q∈f,q.1≠1/\q.1≠2/\q.1≠7/\q.1≠110):RP Y' v1 i p w ts a:=⟨F.keep _ _ (λg=>(e _ g).1 rfl) S.p,F.keep _ _ (λg=>(e _ g).2.2.1 rfl) S.c,S.ga.fx F (λq j g=>(e q g).2.2.2 (S.pa q j)),S.pa,F.keep _ _ (λg=>(e _ g).2.1 rfl) S.r,S.ht,F.len.trans S.le⟩
def aXe(p:xr)(R:shP p/\p.A7=aNF):Ct 73 [.a p.c] (λr=>∃(c:qt) (e l:Int),r= .t [.a c.c,iv e,iv l]/\aOc c):=by obtain⟨R,hd⟩:=R;refine aDq (bgU rfl λs2 hl b1 h0=>?_);simp only[a1t];refine so hl λv1 s3 F3 N3 q3=>?_;have am:=F3.len.trans hl;have b3:=F3.kq b1;have aR:bM aOR aP0 []=V (.a aOR):=rfl;simp only[a1B,u0,u1,b3,gw,jM,kU,jt,Fa,aQV,rr,aR,↓uL];refine⟨R,trivial,λ_=>?_,λhc=>⟨⟨R,hd⟩,?_⟩⟩;refine qr q3 rfl rfl λs5 F5 b5=>?_;have:aN (V 7) aOR=V (.a aOR):=rfl;simp only[b5,qd,qh,df,this,aY];exact aOH (vs':=[.a (⟨⟨[],[],[],[],[],[]⟩,[]⟩:qt).c,iv (chk p).1,iv (chk p).2]) (Q:=λr=>∃(c:qt) (e l:Int),r= .t [.a c.c,iv e,iv l]/\aOc c) rfl rfl ⟨_,_,_,rfl,by simp[aOc]⟩;rintro r ⟨w,rfl,hw,u⟩;have u:=u (by simpa using hc);have aQ:bM aOR aP0 [(0, .a w.c)]=V (.a [sl cA.c w.cells,sl dS.c w.ak,sl yp.c w.bC,sl cs w.bU,sl cs w.ay,sl dL.c w.dU, .l [] U U]):=rfl;simp only[aQ,aY];refine⟨by simp[lo,nA,eB,iR,xr.c,sl],?_⟩;refine anu am λv7 s4 F4 N4 q4=>?_;have S4:RP s4 v1 v7 p w [] (.l [] U U):=⟨F4.kq b3,q4, .inl ⟨rfl,rfl⟩,by simp[aA],F4.kq q3,by simp,F4.len.trans am⟩;have a2:=R.2.2;have b0:=R.2.1;refine jD (α:=Int) (λA i=>[iv A,iv i]) 1 (L p.ay) (λk A Y=>0<=A/\A<=k*60000/\∃ts a,RP Y v1 v7 p w ts a/\L ts=k) (s0:=0) ⟨by omega,by omega,[],_,S4,rfl⟩ ?_;rintro k A Y hk ⟨a4,b2,ts,a,S,a3⟩;simp only[a1E,aI,au,u0,u1,S.p,S.c,rk,gw,aRZ,aj,y9,bh,↓uL];refine⟨λE=>⟨bA E,?_⟩,λE=>?_⟩;rotate_left;refine qr S.r rfl rfl λs5 F5 b5=>?_;have g5:=S.ga.fx F5 (λq u e=>by have:=S.pa q u;simp at e;subst e;simp at this);simp only[a1A,aEa b5 rfl,aY,↓uL];refine aOH (vs':=[.a (⟨w,ts⟩:qt).c,iv 0,iv 0]) (Q:=λr=>∃(c:qt) (e l:Int),r= .t [.a c.c,iv e,iv l]/\aOc c) ?_ (by simp[iX,qt.c,br.c,eN,sl]) ⟨_,_,_,rfl,?_,S.ht⟩;have e1:fz s5 a=sl A2.c ts:=aBr g5;simp only[ji,mU,fzT,List.take_succ_cons,CE,e1];rfl;show L ts<1000;omega;have H:=aL E;have ht:=a2 _ (dB H);have aM:bM a74 [(0,6),(6,1),(7,1),(8,1),(9,1)] [(0, .a w.c),(1,sl cs (gd p.ay k).locs),(4,iv A)]=V (.a [sl cA.c w.cells,sl dS.c w.ak,sl yp.c w.bC,sl cs w.bU,sl cs w.ay,sl dL.c w.dU,sl cs (gd p.ay k).locs, .l [] U U,iv 0,iv A]):=rfl;simp only[aM,aY];refine bxL rfl (by decide) (by rw[S.le];decide) λv s5 F5 N5 q5=>?_;have S5:=S.fx F5 (by simp);have bV:k<4:=(by omega);have G5:Gn A s5 (45,v) w (gd p.ay k).locs (.l [] U U) 0:=⟨⟨0,A,⟨a4,by omega⟩,q5⟩,⟨[], .inl ⟨rfl,rfl⟩,rfl⟩,S5.le,rfl,by simp[aA],hw,by have:=ht.1;omega,u⟩;simp only[S5.p,rk,gw,y9,u0,u1,bh,↓uL];refine⟨dJ H,?_⟩;refine ba2 G5 ht.2 (by omega) λa6 n6 s6 G6 bW R6=>?_;have a9:∀q∈((45,v):Id)::aA (AV.l [] U U),q.1≠1/\q.1≠2/\q.1≠7/\q.1≠110:=(by simp[aA]);have S6:=S5.fx R6.f a9;obtain⟨ca,a7,a5,al⟩:=G6.bx0;simp only[a1z,oo al,u0,u1,al,yr,C5,yd,aj,↓uL];refine G6.set λs7 G7 F7=>?_;have S7:=S6.fx F7 (by simp);simp only[a1y,bdI,aY];refine aPw G7 (by omega) λa8 s8 n8 G8 bY bG R8=>?_;have ba:∀q∈((45,v):Id)::aA a6,q.1≠1/\q.1≠2/\q.1≠7/\q.1≠110:=λq u=>(by rcases eW.1 u with g|g;subst g;simp;have:=G6.sa q g;omega);have S8:=S7.fx R8.f ba;obtain⟨cb,b6,b4,X⟩:=G8.bx0;obtain⟨o,go,aZ⟩:=G8.ga;obtain⟨bc,an,rfl,az⟩:∃q m,a8= .m q (L o)/\box s8 q=V ⟨209,6,U,I,o.map lF.c++m⟩:=(by rcases go with⟨g,_⟩|⟨q,m,g1,g2⟩;have:o=[]:=(by simpa using g);subst this;simp at aZ;omega;exact⟨q,m,by simpa using g1,g2⟩);obtain⟨q1,C⟩:=bc;obtain rfl:q1=16:=G8.sa (q1,C) (by simp[aA]);have aP:∀a:AV,(∃q n,a= .m q n)->bM aTO O7 [(0,iv (L (gd p.ay k).locs)),(1,a)]=V (.a [iv (L (gd p.ay k).locs),a]):=(by rintro a ⟨q,n,rfl⟩;rfl);simp only[a1x,oo X,u0,u1,X,yr,C5,yd,aj,aP _ ⟨_,_,rfl⟩,↓uL];refine anu S8.le λO s9 F9 N9 q9=>?_;have S9:=S8.fx F9 (by simp);refine dT (by simp[eL,lb,cD,dC,dK,sl]) ?_;have aK:=F9.kq X;have a0:=F9.kq az;refine yV (L o) (λ_ _ Y'=>Fx s9 Y' [(11,O)]/\∃rg:Int,box Y' (11,O)=V ⟨192,2,U,U,[[iv rg, .m (16,C) (L o)]]⟩) ⟨Fx.refl _ _,_,q9⟩ ?_;rintro j _ Y1 P ⟨M,rg,ao⟩;have W:=M.kq aK;have F:=M.kq a0;have aW:fS Y1 (.m (16,C) (L o))=V (iv (L o)):=(by simp[fS,F]);have ag:=S9.fx M (by simp);have be:∀x y:AV,aN (V 2) [x,y]=V (.a [x,y]):=λ_ _=>rfl;simp only[a1C,aI,au,oo W,u0,u1,W,ag.c,ao,be,yr,C5,yd,aj,aW,↓uL];refine⟨λE=>?_,λE=>?_⟩;have P:=aL E;have aT:cz 6 Y1 (.m (16,C) (L o)) (iv j)=V (.p (16,C) j 0):=(by simp[cz,F,P]);have aV:kb (V 6) Y1 (.p (16,C) j 0)=V (.a (gd o j).c):=(by have hr:(o.map lF.c++an)[j]?=V (lF.c (gd o j)):=(by rw[xe (by simpa using P),ve,eC P,bT P];rfl);simp only[kb,iE,F,qd,hr];rfl);simp only[aT,aV,aY,jM,kU,jt,Fa,aQV];rintro r ⟨t',o',rfl⟩;refine⟨by simp[lo,nA,eB,iR,lF.c],?_⟩;refine yV (L (A1 (gd o j))) (λ_ _ Y'=>Fx s9 Y' [(11,O)]/\∃rg:Int,box Y' (11,O)=V ⟨192,2,U,U,[[iv rg, .m (16,C) (L o)]]⟩) ⟨M,rg,ao⟩ ?_;rintro i _ Y2 hi ⟨ae,b7,aa⟩;simp only[a1D,aI,au,u0,u1,aa,yr,yd,gT,tf,rk,aj,bh,aRW,↓uL];refine⟨λG=>⟨dJ (aL G),?_⟩,λG=>?_⟩;refine A0 aa rfl (by simp) λY3 D aE=>?_;simp only[a1u,au,u0,u1,↓uL];exact dR (mk:=λ(_:Unit) i=>[iv i]) (s:=()) (s':=()) (λ_ _=>rfl) (aL G) (by have:=a64 (gd o j);omega) ⟨(ae.trans D).mono (λq u=> .inl (by simpa using u)),_,aE⟩;exact dR (mk:=λ(_:Unit) i=>[iv i]) (s:=()) (s':=()) (λ_ _=>rfl) P (by omega) ⟨ae,_,aa⟩;have aJ:gm Y1 209 6 (.m (16,C) (L o)) (o.map lF.c):= .inr ⟨_,an,by simp,F⟩;have aO:aX a7Z 1 Y1 [(0, .a [iv rg, .m (16,C) (L o)])]=V (.l ([(⟨rg,o⟩:A2)].map A2.c) U U,kills Y1 (eB (.a [iv rg, .m (16,C) (L o)]))):=aQm (tgt:=(⟨rg,o⟩:A2).c) (by simp only[ji,mU,aQ5,aOb aJ];rfl) rfl (by decide) rfl (by decide);have FK:=aOp (eB (.a [iv rg, .m (16,C) (L o)])) Y1;have B:=ag.fx FK (by simp[eB,iR]);simp only[aO,bQ];have Z:=B.pa;refine apQ B.ga B.le (qW (f:=A2.c) (z:=2) λ_=>rfl) (qW (f:=A2.c) (z:=2) λ_=>rfl) (by simp) (by simp;omega) λaD b8 T D af=>?_;rw[<-dg] at T;have ah:=D.keep _ _ (λu=>by have:=Z _ u;simp at this) B.c;simp only[a1w,u0,u1,ah,aj,↓uL];refine A0 ah T.p.ce (by simp) λb9 N aG=>?_;simp only[a1v,au,u0,u1,↓uL];refine dR (mk:=λ(A:Int) i=>[iv A,iv i]) (s:=A) (s':=a7) (λ_ _=>rfl) H (by omega) ⟨a5.1,by omega,ts++[⟨rg,o⟩],aD,⟨?_,aG,T.p.fx N (λq u e=>by have:=(af q u).2;simp at e;subst e;simp at this),λq u=>(af q u).2,?_,?_,N.len.trans (D.len.trans B.le)⟩,by simp[a3]⟩;exact N.kq (D.keep _ _ (λu=>by have:=Z _ u;simp at this) B.p);exact N.kq (D.keep _ _ (λu=>by have:=Z _ u;simp at this) B.r);intro t a1;rcases dF.1 a1 with g|g;exact S.ht t g;simp only[cE] at g;subst g;show L o<1000000;omega
def aUc:FT:=om aXe
def bbW{p Lw K}:=qz aUc aXe p Lw K (j:=by simp+contextual only[ij,Nb])
def a7C:dO:=(74,aTV)::(73,aUc)::aYc
def a7l:eJ a7C:=it (rj aWJ) (it (rj aXe) (aX5))
def aWk:=ai @bbr<|ai @bbW<|@aQV
section
attribute[local irreducible] aX
def a8I:=bi 3 []
def aYS c t1 R a:=aw 7 a c λd=>sV (aK 7 a t1 d) λb=>aw 7 b t1 λe=>aE R b [e]
def aYT c R t1 b:=fV aTV b [c] λt3=>fV aUc b [t3] λt4=>rV (eO 0 t4) λe=>rV (eO 1 t4) λf=>rV (eO 2 t4) λg=>eV (bs 92 aOR b 3) λa d=>sV (aK 7 d a e) (aYS a t1 R)
def aYR a s0 R:=eV (bs 92 aOR s0 2) (aYT a R)
def bge{a:AV}{R:d7}(h:H0 λs0=>aYR a s0 R):Ct 31 [a] R:=z0 a8I a7l Tryz.func31 h
end
def aWI(l:List Int)(s:(∀x∈l,0<=x/\x<256)/\L l<4611686018427387904):Ct 31 [sl cu l] (λr=>∃c:qt,r= .a c.c/\aOc c):=by refine aDq (bge λs0 d A=>?_);simp only[aYR];refine so d λE B g y u=>?_;simp only[aYT,jM,kU,jt,alg,aWk];refine⟨s,?_⟩;rintro r ⟨p,rfl,n,o⟩;refine⟨by simp[lo,nA,eB,iR,sl],?_⟩;simp only[Fa,aWk];refine⟨⟨n,o⟩,?_⟩;rintro r ⟨c,e,l',rfl,q⟩;refine⟨by simp[lo,nA,eB,iR,xr.c,sl],?_⟩;have j:eO 0 (.t [.a c.c,iv e,iv l'])=V (.a c.c):=rfl;have k:eO 1 (.t [.a c.c,iv e,iv l'])=V (iv e):=rfl;have m:eO 2 (.t [.a c.c,iv e,iv l'])=V (iv l'):=rfl;simp only[j,k,m,aY];have f:=g.len.trans d;have b:L c.c=7:=rfl;refine aRA rfl b (by decide) (by rw[f];decide) λF C h z v=>?_;simp only[aYS,aEa v b,aY,↓uL];refine qr (h.kq u) rfl b λD w i=>?_;rw[aEa i b];exact aOv (v':= .a c.c) (Q:=λr=>∃c:qt,r= .a c.c/\aOc c) rfl (by simp[iX,qt.c,br.c,eN,sl]) ⟨c,rfl,q⟩
def aTU:FT:=om aWI
def bbq{l Lw K}:=qz aTU aWI l Lw K (j:=by simp+contextual only[ij,aQZ])
def a7D:dO:=(31,aTU)::a7C
def aR2:eJ a7D:=it (rj aWI) (a7l)
def bcw:=ai @bbq<|@aWk
section
attribute[local irreducible] aX
def atZ:=bi 24 [(4,([4],[1,2,3])),(10,([5],[1,2,3])),(16,([6],[1,2,3])),(21,([],[1,2,3,6,7]))]
def acV c(f:aG)(d:bu) e a:=aV (gt c 0) (iv 1) λb=>f [b] a/\d [b] a<d c e
def arO c f g h b d a:=aB 0 a c λe=>sV (aK 1 a e d) (acV f g h b)
def acW a(e:aG)(b:bu) f c:=aV (gt a 0) (iv 1) λd=>e [d] c/\b [d] c<b a f
def arP f b c d e g a:=aB 2 a f λh=>sV (aK 1 a h g) (acW b c d e)
def acX a(e:aG)(b:bu) f c:=aV (gt a 0) (iv 1) λd=>e [d] c/\b [d] c<b a f
def arQ f b c d e g a:=aB 3 a f λh=>sV (aK 1 a h g) (acX b c d e)
def ac0 b c d e f g(l:eQ) a:=∀_:Rg,ab 3 a b λi=>aw 3 a c λj=>eV (aX aTI 1 a [(0,j)]) λk h=>eV (j5 105 aNB 24 h 49 i k) (arQ b d e f g)
def ac1 d a c(b:aG):=bf (gt d 0) (iv 0) λf=>ah f (aB 0 a c λg=>sV (aK 1 a g (iv 1)) λe=>b [] e) (b [] a)
def acY g a b c d e f:=jV 21 (ac0 g a b c d e) (ac1 b f a)
def ac3 o e t3 R f g c a:=∀_:Rg,ab 4 a o λi=>aJ a i λj=>aU (gt c 0) j λk=>ah k (rV (bM aNB aM7 [(0,(iv 0))]) λl=>eV (bs 105 aNB a 7) λb h=>sV (aK 3 h b l) (acY e b c f g a)) (aw 4 a e λm=>sV (aK 4 a t3 m) λd=>aw 4 d t3 λn=>fe R d [n])
def ac2 d b t3 R e f c a:=∀_:Rg,ab 3 a d λh=>aJ a h λi=>aU (gt c 0) i λj=>ah j (ab 2 a b λk=>eV (aX BD 1 a [(0,(bv I))]) λl g=>eV (j5 4 BE 1 g 32 k l) (arP b c e f a)) (lV [(iv 0)] a (ac3 d b t3 R))
def ac4 d b t3 R l m c a:=∀_:Rg,ab 1 a d λf=>aJ a f λg=>aU (gt c 0) g λh=>ah h (ab 0 a b λi=>rV (bM aO9 O7 [(0,(iv (-1)))]) λj=>eV (aX aTL 1 a [(0,j)]) λk e=>eV (j5 131 aO9 32 e 20 i k) (arO b c l m a)) (lV [(iv 0)] a (ac2 d b t3 R))
def acZ b R t3 c:=rV (bM aNC alz [(1,(iv (-1)))]) λf=>eV (bs 36 aNC c 3) λa d=>sV (aK 4 d a f) λe=>lV [(iv 0)] e (ac4 b a t3 R)
def IH a b R:=eV (bs 36 aNC b 2) (acZ a R)
def aJt{a:AV}{s0:ae}{R:be}(h:eV (qm 31 6 s0 1 a) λb c=>IH b c R):EB 69 [a] s0 R:=zB atZ aR2 Tryz.func69 h
def aLs{d:List AV}{s0:ae}{R:be}(g:L s0=4096)(l0:L d=6)(h:∀(b:ae) (c:Nat),Kp s0 b->(∀k,k≠1->aZ b k=aZ s0 k)->(∀x,box s0 (1,c)≠V x)->box b (1,c)=V ⟨31,6,U,U,[d]⟩->IH (.p (1,c) 0 0) b R):EB 69 [.a d] s0 R:=by refine aJt ?_;refine iN rfl l0 (by decide) (by decide) g λb c j g0 l e=>?_;exact h b c j (λk f=>g0 k f) (λx i=>l x ((Kp.refl _).keep _ _ i)) e
def at6:=bi 9 [(4,([4],[1,2,3]))]
def adt b h r j k a l m n i o q p(f:aG)(c:bu) g d:=dH [(bo b),(bo h),(bo r),(bo j),km,(lb U [k,(gt a 0)] []),(bo l),(bo m),(lb I [n] []),(lb I [i,o] [32]),(bo b),(lb I [q,p] [])] [(0,8),(1,8)] (aV (gt a 0) (iv 1) λe=>f [e] d/\c [e] d<c a g)
def adu a i q k l e m n o j p f g h c b:=aB 4 b a λd=>sV (aK 1 b d c) (adt a i q k l e m n o j p d c f g h)
def adA d b t3 R n o c a:=∀_:Rg,ab 0 a d λq=>aJ a q λr=>aU (gt c 0) r λs=>ah s (aB 4 a b λf=>aM a f λg=>aB 0 a d λh=>aM a h λi=>ao 5 a i (gt c 0) λj=>aB 4 a j λk=>aM a k λl=>eV (aX yW 1 a [(0,l)]) λm p=>eV (j5 2 EN 8 p 32 g m) (adu b f d h i c j k l g m n o a)) (aw 7 a b λt=>sV (aK 7 a t3 t) λe=>aw 7 e t3 λu=>fe R e [u])
def adv a l n o c h i d m g j b k t3 R e:=dH [(bo a),(lb I [(.f 69 [] []),l] [6]),(bo a),(bo n),(bo o),(lb I [c,c] [10]),(bo a),(bo h),(bo i),(lb I [d,d] [14]),(lb U [m,g,j] []),(lb I [] [3]),(lb I [b,k] [])] [(1,2),(1,3),(1,4),(0,5),(1,5),(1,6),(5,6),(1,7),(5,7),(1,8),(5,8),(0,9),(1,9),(2,9),(3,9),(4,9),(5,9),(0,11),(1,11),(2,11),(3,11),(4,11),(5,11),(6,11),(7,11),(8,11),(9,11),(10,11)] (lV [(iv 0)] e (adA a b t3 R))
def adw k b l m n o g h i j t3 R c e:=rV (bM BF anY [(0,k),(2,b),(3,c)]) λd=>eV (bs 40 BF e 3) λa f=>sV (aK 7 f a d) (adv l m n o g h i j k b c a d t3 R)
def adx e i h j k f t3 R g a:=aB 4 a e λc=>aM a c λd=>aJ a d λb=>eV (qO 3 bH 8 a 14 b b) (adw i g e h j k f c d b t3 R)
def ady c f t3 R g b:=aB 3 b c λd=>aM b d λe=>aJ b e λa=>eV (qO 2 yW 8 b 10 a a) (adx c g f d e a t3 R)
def adz a R t3 b:=aw 6 b a λc=>cN 69 [c] b 6 (ady a c t3 R)
def IK a b R:=eV (bs 40 BF b 2) (adz a R)
def aJu{a:AV}{s0:ae}{R:be}(h:eV (qm 31 6 s0 1 a) λb c=>IK b c R):EB 29 [a] s0 R:=zB at6 aR2 Tryz.func29 h
def aLy{d:List AV}{s0:ae}{R:be}(g:L s0=4096)(l0:L d=6)(h:∀(b:ae) (c:Nat),Kp s0 b->(∀k,k≠1->aZ b k=aZ s0 k)->(∀x,box s0 (1,c)≠V x)->box b (1,c)=V ⟨31,6,U,U,[d]⟩->IK (.p (1,c) 0 0) b R):EB 29 [.a d] s0 R:=by refine aJu ?_;refine iN rfl l0 (by decide) (by decide) g λb c j g0 l e=>?_;exact h b c j (λk f=>g0 k f) (λx i=>l x ((Kp.refl _).keep _ _ i)) e
def au4:=bi 15 [(4,([22],[0,1,21])),(10,([3],[0,1,2,21,22]))]
def ajQ a(e:aG)(b:bu) f c:=aV (gt a 0) (iv 1) λd=>e [d] c/\b [d] c<b a f
def arR c b d e f g a:=aB 5 a c λh=>sV (aK 1 a h g) (ajQ b d e f)
def ajY d a(g:aG)(e:bu) j h i b c:=∀_:Rg,aU (gt b 0) (iv 6) λl=>ah l (ab 5 c d λm=>aO .mul (iv 10) (gt a 0) λn=>aV n (gt b 0) λo=>aV o (iv 1) λp=>rV (bM aP5 aM7 [(0,(gt a 0)),(1,(gt b 0)),(2,p)]) λq=>eV (aX aTK 1 c [(0,q)]) λr k=>eV (j5 128 aP5 24 k 40 m r) (arR d b h i c)) (aV (gt a 0) (iv 1) λf=>g [f] c/\e [f] c<e a j)
def ajZ g c t1 R e f b a:=∀_:Rg,aU (gt b 0) g λh=>ah h (lV [(iv 0)] a (ajY c b e f a)) (aw 6 a c λi=>sV (aK 6 a t1 i) λd=>aw 6 d t1 λj=>aE R d [j])
def ajR b t1 R a:=ab 4 a b λc=>aJ a c λd=>lV [(iv 0)] a (ajZ d b t1 R)
def ajS i d e f t1 R g b:=rV (bM aRc C2 [(0,i),(1,d),(2,e),(3,f),(4,g)]) λh=>eV (bs 31 aRc b 1) λa c=>sV (aK 6 c a h) (ajR a t1 R)
def ajT e b c t1 R d a:=eV (aX C9 4 a [(0,(sv [109,97,105,110])),(1,(sv [116,49])),(2,(sv [116,50])),(3,(sv [116,51]))]) (ajS e b c d t1 R)
def ajU d b t1 R c a:=eV (aX C9 1 a [(0,(sv [102]))]) (ajT d b c t1 R)
def ajV d t1 R b a:=rV (bM aPp O7 [(0,(sv [99]))]) λc=>eV (aX aR8 1 a [(0,c)]) (ajU d b t1 R)
def ajW t1 R e d:=rV (bM aOO O7 [(0,(sv [109]))]) λa=>rV (bM aOO O7 [(0,(sv [110]))]) λb=>rV (bM aOO O7 [(0,(sv [114])),(1,(bv U))]) λc=>eV (aX aR7 3 d [(0,a),(1,b),(2,c)]) (ajV e t1 R)
def ajX R t1 a:=rV (bM aN1 aOG [(0,(sv [120]))]) λt3=>rV (bM aN1 aOG [(0,(sv [121])),(4,(iv 1))]) λt4=>rV (bM aN1 aOG [(0,(sv [118])),(3,(bv U))]) λb=>rV (bM aN1 aOG [(0,(sv [113])),(2,(iv 2))]) λc=>rV (bM aN1 aOG [(0,(sv [113])),(1,(iv 1)),(2,(iv 2))]) λd=>eV (aX aTJ 5 a [(0,t3),(1,t4),(2,b),(3,c),(4,d)]) (ajW t1 R)
def ajP s0 R:=eV (bs 31 aRc s0 0) (ajX R)
def aMx{R:d7}(h:H0 λs0=>ajP s0 R):Ct 26 [] R:=z0 au4 aR2 Tryz.func26 h
def a9G:=bi 9 [(4,([4],[1,2,3]))]
def a2V a i h l m b n k o p j q s r(f:aG)(c:bu) g d:=dH [(bo a),(bo i),(lb I [] []),(bo h),(bo l),km,(lb U [m,(gt b 0)] []),(bo n),(lb I [k,o] [29]),(lb I [p] []),(lb I [j,q] [31]),(bo a),(lb I [s,r] [])] [(0,2),(1,2),(2,3),(2,4),(2,5),(2,6),(2,7),(0,8),(1,8),(0,9),(1,9)] (aV (gt b 0) (iv 1) λe=>f [e] d/\c [e] d<c b g)
def a2W a j i m n e o l p q k r f g h c b:=aB 2 b a λd=>sV (aK 1 b d c) (a2V a j i m n e o l p q k r d c f g h)
def a2X b a l k n o e p m q f g h c i:=eV (aX aYp 1 i [(0,c)]) λd j=>eV (j5 38 bhN 24 j 31 b d) (a2W a l k n o e p m q c b d f g h)
def a2Y d c n b m j k l e a:=aB 2 a d λf=>aM a f λg=>ao 1 a g (gt c 0) λh=>aM a h λi=>eV (j5 3 fB 8 a 29 e i) (a2X n b m d f g c h e i j k l)
def a22 e b t3 R g h c a:=∀_:Rg,ab 2 a e λi=>aJ a i λj=>aU (gt c 0) j λk=>ah k (aB 2 a b λf=>aM a f λl=>eV (aX bH 0 a []) (a2Y e c l b f g h a)) (aw 4 a b λm=>sV (aK 4 a t3 m) λd=>aw 4 d t3 λn=>fe R d [n])
def a8z b h j d l e i k f a g t3 R c:=dH [(bo b),(bo h),(bo b),(bo j),(lb I [] []),(bo b),(bo d),(lb I [l,e] [12]),(lb U [i,k,f] []),(lb I [] [3]),(lb I [a,g] [])] [(0,4),(1,4),(2,4),(3,4),(4,5),(4,6),(0,7),(1,7),(2,7),(3,7),(0,9),(1,9),(2,9),(3,9),(4,9),(5,9),(6,9),(7,9),(8,9)] (lV [(iv 0)] c (a22 b a t3 R))
def a2Z i j f k l g m h t3 R b d:=rV (bM aoD alz [(0,i),(3,j),(1,b)]) λc=>eV (bs 196 aoD d 3) λa e=>sV (aK 4 e a c) (a8z f k l g m h i j b a c t3 R)
def a20 b g i f h t3 R e a:=aB 1 a b λc=>aM a c λd=>eV (j5 2 EN 8 a 12 e d) (a2Z g i b f h c e d t3 R)
def a21 b R t3 a:=aB 0 a b λc=>aM a c λe=>aB 3 a b λd=>aM a d λf=>eV (aX yW 0 a []) (a20 b e f c d t3 R)
def aVb a b R:=eV (bs 196 aoD b 2) (a21 a R)
def bfZ{a:AV}{s0:ae}{R:be}(h:eV (qm 196 4 s0 1 a) λb c=>aVb b c R):EB 200 [a] s0 R:=zB a9G aR2 Tryz.func200 h
def bhc{d:List AV}{s0:ae}{R:be}(g:L s0=4096)(l0:L d=4)(h:∀(b:ae) (c:Nat),Kp s0 b->(∀k,k≠1->aZ b k=aZ s0 k)->(∀x,box s0 (1,c)≠V x)->box b (1,c)=V ⟨196,4,U,U,[d]⟩->aVb (.p (1,c) 0 0) b R):EB 200 [.a d] s0 R:=by refine bfZ ?_;refine iN rfl l0 (by decide) (by decide) g λb c j g0 l e=>?_;exact h b c j (λk f=>g0 k f) (λx i=>l x ((Kp.refl _).keep _ _ i)) e
end
end Go.Ab
