/- Part of the proof of EncodeAny, made short by a program: LPN CPN LPO LQ CQ. -/
import Derived.Test.YtokoambdbclaaaaGreatDoorR
set_option linter.all false
set_option maxRecDepth 100000
open Bool renaming and_comm->aqr,and_eq_true->bN,false->I,or_eq_false_iff->cP,or_eq_true->fH,true->U
open Decidable renaming decide->Q,not_not->rx
open Go.Proofs.Tryz renaming prog->aS
open Int renaming toNat_natCast->bh,toNat_of_nonneg->kA
open List renaming append_assoc->cC,append_nil->cL,length->L,length_append->bq,length_cons->bZ,length_filter_le->fZ,length_map->bJ,length_nil->bO,length_take->gC,map_append->dg,mem_cons->eW,mem_filter->jW,nil_append->dW,range->aH,take_length->gV,take_succ_eq_append_getElem->iJ
open Nat renaming le_antisymm->bP,zero_add->aj
open Option renaming none->J,some->V
namespace Go.Ab
open Go Go.RowKit Go.Proofs
def asX:=bi 32 [(3,([16],[0,2,15])),(9,([4],[0,2,3,15,16])),(15,([39],[0,2,38])),(18,([],[0,2,38,39])),(24,([66],[0,65])),(27,([],[0,65,66]))]
def W3 vs10(c:aG)(a:bu) s11(d:AV) s20:=aV (gt vs10 0) (iv 1) λb=>c [b] s20/\a [b] s20<a vs10 s11
def Xc a0 vs10 I10 m10 s11 t17 s18:=cB eS [a0,t17] s18 36 (W3 vs10 I10 m10 s11)
def Xd t13 a0 vs10 I10 m10 s11 t15 s16:=eV (aX bH 2 s16 [(0,t13),(1,t15)]) (Xc a0 vs10 I10 m10 s11)
def Xe a0 vs10 vs6 I10 m10 s11 t13 s14:=cB je [a0,(gt vs10 0),(gt vs6 0)] s14 34 (Xd t13 a0 vs10 I10 m10 s11)
def Xp t5 a0 vs6(d:aG)(b:bu) s7 I10 m10 vs10 s11:=∀_:Rg,aU (gt vs10 0) t5 λc=>ah c (cB je [a0,(gt vs6 0),(gt vs10 0)] s11 30 (Xe a0 vs10 vs6 I10 m10 s11)) (aV (gt vs6 0) (iv 1) λa=>d [a] s11/\b [a] s11<b vs6 s7)
def HD vs23(c:aG)(a:bu) s24(d:eQ) s27:=∀_:Rg,aV (gt vs23 0) (iv 1) λb=>c [b] s27/\a [b] s27<a vs23 s24
def Xf t40 a0(a:aG) t41 s42:=eV (aX bH 2 s42 [(0,t40),(1,t41)]) λd b=>cB eS [a0,d] b 63 λe c=>a [] c
def Xg a0 t29 J26 t38 s39:=rV (cR .neg t38) λa=>cB fL [a0,t29] s39 61 (Xf a a0 J26)
def Xh a0 vs23 t29 J26(a:AV) s37:=cB fL [a0,(gt vs23 0)] s37 57 (Xg a0 t29 J26)
def Xi a0 vs23 t29 J26 t34 s35:=cB eS [a0,t34] s35 53 (Xh a0 vs23 t29 J26)
def Xj a0 vs23 t29 J26 t32 s33:=eV (aX bH 1 s33 [(0,t32)]) (Xi a0 vs23 t29 J26)
def W4 a0 vs23(a:aG) t29 s30:=aO .geq t29 (iv 0) λb=>ah b (cB je [a0,t29,(gt vs23 0)] s30 51 (Xj a0 vs23 t29 a)) (a [] s30)
def Xk a0 vs23 s24 J26:=cB xR [a0,(gt vs23 0)] s24 44 (W4 a0 vs23 J26)
def HE vs47(c:aG)(a:bu) s48(d:eQ) s51:=∀_:Rg,aV (gt vs47 0) (iv 1) λb=>c [b] s51/\a [b] s51<a vs47 s48
def W5 t67 a0(a:aG) t68 s69:=eV (aX bH 2 s69 [(0,t67),(1,t68)]) λd b=>cB eS [a0,d] b 94 λe c=>a [] c
def W6 a0 t53 vs47 J50 t65 s66:=rV (cR .neg t65) λa=>cB je [a0,t53,(gt vs47 0)] s66 92 (W5 a a0 J50)
def W7 a0 vs47 t53 J50(a:AV) s64:=cB fL [a0,(gt vs47 0)] s64 87 (W6 a0 t53 vs47 J50)
def W8 a0 vs47 t53 J50 t61 s62:=cB eS [a0,t61] s62 83 (W7 a0 vs47 t53 J50)
def W9 t58 a0 vs47 t53 J50 t59 s60:=eV (aX bH 2 s60 [(0,t58),(1,t59)]) (W8 a0 vs47 t53 J50)
def Xa a0 t53 vs47 J50 t56 s57:=rV (cR .neg t56) λa=>cB fL [a0,t53] s57 81 (W9 a a0 vs47 t53 J50)
def Xb a0 vs47(a:aG) t53 s54:=aO .geq t53 (iv 0) λb=>ah b (cB fL [a0,(gt vs47 0)] s54 77 (Xa a0 t53 vs47 a)) (a [] s54)
def Xl a0 vs47 s48 J50:=cB Aq [a0,(gt vs47 0)] s48 71 (Xb a0 vs47 J50)
def Xn t5 a0 R I47 m47 vs47 s48:=∀_:Rg,aU (gt vs47 0) t5 λa=>ah a (jV 27 (HE vs47 I47 m47 s48) (Xl a0 vs47 s48)) (bz R s48 [])
def Xm t5 a0 R I23 m23 vs23 s24:=∀_:Rg,aU (gt vs23 0) t5 λa=>ah a (jV 18 (HD vs23 I23 m23 s24) (Xk a0 vs23 s24)) (lV [(iv 0)] s24 (Xn t5 a0 R))
def Xo t5 a0 R I6 m6 vs6 s7:=∀_:Rg,aU (gt vs6 0) t5 λa=>ah a (aV (gt vs6 0) (iv 1) λb=>lV [b] s7 (Xp t5 a0 vs6 I6 m6 s7)) (lV [(iv 0)] s7 (Xm t5 a0 R))
def HC a0 s0 R:=rV (cO s0 a0) λt1=>aB 0 s0 t1 λa=>ag 14 s0 a λt4=>aJ s0 t4 λb=>lV [(iv 0)] s0 (Xo b a0 R)
theorem aJa{a:AV}{s0:ae}{R:be}(h:HC a s0 R):EB Ap [a] s0 R:=zB asX tB Tryz.func77 h
theorem aKo{a:AV}{s0:ae}{R:be}(hs:L s0=4096)(h:HC a s0 R):EB Ap [a] s0 R:=by refine aJa ?_;exact h
def as3:=bi 26 [(2,([],[0,4,5,6])),(8,([55],[0,4,5,6,53,54])),(15,([11],[0,4,5,6,10])),(18,([85],[0,4,5,6,10,11,83,84])),(21,([],[0,4,5,6,10,11,83,84,85]))]
def HO vs27(c:aG)(a:bu) s28(d:eQ) s31:=∀_:Rg,aV (gt vs27 0) (iv 1) λb=>c [b] s31/\a [b] s31<a vs27 s28
def XJ t66 t69 t70 a0(a:aG) t72 s73:=eV (aX bH 4 s73 [(0,t66),(1,t69),(2,t70),(3,t72)]) λd b=>cB eS [a0,d] b 124 λe c=>a [] c
def XU a0 t4 vs27 t66 t69 J30 t70 s71:=cB je [a0,t4,(gt vs27 0)] s71 122 (XJ t66 t69 t70 a0 J30)
def XW a0 vs27 t6 t4 t66 J30 t67 s68:=rV (cR .neg t67) λa=>cB je [a0,(gt vs27 0),t6] s68 118 (XU a0 t4 vs27 t66 a J30)
def XX t78 t81 a0(a:aG) t82 s83:=eV (aX bH 3 s83 [(0,t78),(1,t81),(2,t82)]) λd b=>cB eS [a0,d] b 137 λe c=>a [] c
def XY a0 t4 vs27 t78 J30 t79 s80:=rV (cR .neg t79) λa=>cB je [a0,t4,(gt vs27 0)] s80 135 (XX t78 a a0 J30)
def XZ e_35 vs21 read_18 vs27 t6(c:aG) t8 a0 t4 s37:=ag 1 s37 e_35 λd=>aO .neq d (gt vs21 0) λa=>bn a 2 s37 e_35 λe=>bn a 2 s37 read_18 λf=>aC a (aO .neq e f) λg=>aD a (bv U) g λb=>bG b (gt vs27 0) λh=>bG b t6 λi=>aC b (al h i) λj=>aD b (bv U) j λk=>ah k (c [] s37) (aO .geq t6 (iv 0) λl=>ah l (rV (cR .neg t8) λm=>cB fL [a0,(gt vs27 0)] s37 113 (XW a0 vs27 t6 t4 m c)) (rV (cR .neg t8) λn=>cB fL [a0,(gt vs27 0)] s37 130 (XY a0 t4 vs27 n c)))
def X6 s28 t25 vs27 vs21 read_18 t6 t8 a0 t4 J30:=ao 7 s28 t25 (gt vs27 0) λc=>aw 7 s28 c λd=>eV (bs 59 ee s28 13) λa b=>sV (aK 7 b a d) (XZ a vs21 read_18 vs27 t6 J30 t8 a0 t4)
def X7 t26 t25 vs21 read_18 t6 t8 a0 t4 R I27 m27 vs27 s28:=∀_:Rg,aU (gt vs27 0) t26 λa=>ah a (jV 21 (HO vs27 I27 m27 s28) (X6 s28 t25 vs27 vs21 read_18 t6 t8 a0 t4)) (bz R s28 [])
def HN s20 a0 read_18 t6 t8 t4 R vs21:=∀_:Rg,rV (cO s20 a0) λb=>aB 0 s20 b λc=>ag 14 s20 c λa=>aJ s20 a λd=>lV [(iv 0)] s20 (X7 d a vs21 read_18 t6 t8 a0 t4 R)
def X4 s20 read_18(a:cG):=ag 1 s20 read_18 λb=>al b (iv 23) λc=>ah c (a [(iv 22)]) (a [(iv 4)])
def X0 a0 read_18 t6 t8 t4 R s20:=jR 15 (HN s20 a0 read_18 t6 t8 t4 R) (X4 s20 read_18)
def X3 a0 t4 t6 t8 R(h:eQ) s11:=∀_:Rg,rV (cO s11 a0) λc=>aB 0 s11 c λd=>ag 14 s11 d λe=>ao 7 s11 e t4 λf=>aw 7 s11 f λg=>eV (bs 59 ee s11 10) λa b=>sV (aK 7 b a g) (X0 a0 a t6 t8 t4 R)
def X1 vs122(c:aG)(a:bu) s123(d:AV) s133:=aV (gt vs122 0) (iv 1) λb=>c [b] s133/\a [b] s133<a vs122 s123
def X2 a0 vs122 I122 m122 s123 t130 s131:=cB eS [a0,t130] s131 66 (X1 vs122 I122 m122 s123)
def XK t127 a0 vs122 I122 m122 s123 t128 s129:=eV (aX bH 2 s129 [(0,t127),(1,t128)]) (X2 a0 vs122 I122 m122 s123)
def X8 t121 t119 t8 a0(e:aG) I122 m122 vs122 s123:=∀_:Rg,aU (gt vs122 0) t121 λa=>ah a (ao 1 s123 t119 (gt vs122 0) λb=>aM s123 b λc=>rV (cR .neg t8) λd=>cB ta [a0,c] s123 64 (XK d a0 vs122 I122 m122 s123)) (e [] s123)
def XL t8 a0 J10 t119 s120:=aJ s120 t119 λa=>lV [(iv 0)] s120 (X8 a t119 t8 a0 J10)
def XM e_112 a0 t8 J10 s114:=ag 0 s114 e_112 λa=>ag 6 s114 e_112 λb=>cB we [a0,a,b] s114 53 (XL t8 a0 J10)
def XN a0 t6 t8 J10(h:AV) s105:=rV (cO s105 a0) λc=>aB 0 s105 c λd=>ag 14 s105 d λe=>ao 7 s105 e t6 λf=>aw 7 s105 f λg=>eV (bs 59 ee s105 7) λa b=>sV (aK 7 b a g) (XM a a0 t8 J10)
def XO a0 t6 t8 J10 t102 s103:=cB eS [a0,t102] s103 39 (XN a0 t6 t8 J10)
def XP t99 a0 t6 t8 J10 t100 s101:=eV (aX bH 2 s101 [(0,t99),(1,t100)]) (XO a0 t6 t8 J10)
def XQ t8 a0 t6 t4 J10(b:AV) s98:=rV (cR .neg t8) λa=>cB je [a0,t6,t4] s98 37 (XP a a0 t6 t8 J10)
def XR a0 t8 t6 t4 J10 t95 s96:=cB eS [a0,t95] s96 30 (XQ t8 a0 t6 t4 J10)
def XS t92 a0 t8 t6 t4 J10 t93 s94:=eV (aX bH 2 s94 [(0,t92),(1,t93)]) (XR a0 t8 t6 t4 J10)
def X5 t6 t8 a0 s9 t4(a:aG):=aO .geq t6 (iv 0) λb=>ah b (rV (cR .neg t8) λc=>cB fL [a0,t6] s9 28 (XS c a0 t8 t6 t4 a)) (a [] s9)
def XT n_1 t3 t5 s2 a0 t4 t6 R t8 s9:=dH [(lz n_1),(lz t3),(lz n_1),(lz t5),lzz,(lz n_1),(cq U s2),lzz,lzz,lzz] [(0,6),(1,6),(2,6),(3,6)] (jV 2 (X3 a0 t4 t6 t8 R) (X5 t6 t8 a0 s9 t4))
def HM a0 n_1 s2 R:=aB 1 s2 n_1 λt3=>aM s2 t3 λt4=>aB 2 s2 n_1 λa=>aM s2 a λb=>aw 3 s2 n_1 λc=>cB jB [a0,c] s2 20 (XT n_1 t3 a s2 a0 t4 b R)
theorem aJg{a a1:AV}{s0:ae}{R:be}(h:eV (ej 66 3 s0 3 a1) λb c=>HM a b c R):EB Ar [a,a1] s0 R:=zB as3 tB Tryz.func136 h
theorem aKu{e:AV}{d:List AV}{s0:ae}{R:be}(hs:L s0=4096)(l1:L d=3)(h:∀(b:ae) (c:Nat),Kp s0 b->(∀k,k≠3->aZ b k=aZ s0 k)->(∀x,box s0 (3,c)≠V x)->box b (3,c)=V ⟨66,3,U,U,[d]⟩->HM e (.p (3,c) 0 0) b R):EB Ar [e, .a d] s0 R:=by refine aJg ?_;refine iN rfl l1 (by decide) (by decide) hs λb c j g0 l f=>?_;exact h b c j (λk g=>g0 k g) (λx i=>l x ((Kp.refl _).keep _ _ i)) f
def asO:=bi 5 []
def VJ s30 t31 p_1 t34 s32 t33 t36 s39 R(a:AV) s41:=dH [lzz,lzz,lzz,(cq U s30),(lz t31),lzz,(lz p_1),(lz t34),lzz,(cq U s32),(lb I [t33,t36] []),(cq I s39)] [(0,3),(3,5),(3,6),(3,7),(3,8),(0,9),(4,9),(0,10)] (bz R s41 [])
def VK a0 s30 t31 p_1 t34 s32 t33 t36 R t38 s39:=cB eS [a0,t38] s39 39 (VJ s30 t31 p_1 t34 s32 t33 t36 s39 R)
def VL t33 a0 s30 t31 p_1 t34 s32 R t36 s37:=eV (aX bH 2 s37 [(0,t33),(1,t36)]) (VK a0 s30 t31 p_1 t34 s32 t33 t36 R)
def VM p_1 a0 t19 s30 R t31 s32:=rV (cR .neg t31) λb=>aB 2 s32 p_1 λa=>aM s32 a λc=>cB je [a0,c,t19] s32 37 (VL b a0 s30 t31 p_1 a s32 R)
def VN s4 t20 p_1 t23 s21 t22 t25 s28 a0 t19 R(a:AV) s30:=dH [lzz,lzz,lzz,(cq U s4),(lz t20),lzz,(lz p_1),(lz t23),(cq U s21),(lb I [t22,t25] []),(cq I s28)] [(0,3),(3,5),(3,6),(3,7),(0,8),(4,8),(0,9)] (cB fL [a0,t19] s30 31 (VM p_1 a0 t19 s30 R))
def VO a0 s4 t20 p_1 t23 s21 t22 t25 t19 R t27 s28:=cB eS [a0,t27] s28 27 (VN s4 t20 p_1 t23 s21 t22 t25 s28 a0 t19 R)
def VP t22 a0 s4 t20 p_1 t23 s21 t19 R t25 s26:=eV (aX bH 2 s26 [(0,t22),(1,t25)]) (VO a0 s4 t20 p_1 t23 s21 t22 t25 t19 R)
def VQ p_1 a0 s4 t19 R t20 s21:=rV (cR .neg t20) λb=>aB 2 s21 p_1 λa=>aM s21 a λc=>cB fL [a0,c] s21 25 (VP b a0 s4 t20 p_1 a s21 t19 R)
def Hl a0 p_1 q_3 s4 R:=ag 1 s4 q_3 λf=>aU f (iv 0) λb=>bn b 2 s4 p_1 λc=>aC b (aU c (iv 0)) λd=>aD b (bv U) d λe=>ah e (bz R s4 []) (ag 1 s4 q_3 λa=>cB fL [a0,a] s4 20 (VQ p_1 a0 s4 a R))
theorem aI1{a a1 b:AV}{s0:ae}{R:be}(h:eV (ej 153 4 s0 4 a1) λc e=>eV (ej 153 4 e 5 b) λd f=>Hl a c d f R):EB Al [a,a1,b] s0 R:=zB asO tB Tryz.func128 h
theorem aKf{j:AV}{e:List AV}{f:List AV}{s0:ae}{R:be}(hs:L s0=4096)(l1:L e=4)(r:L f=4)(h:∀(b:ae) (c d:Nat),Kp s0 b->(∀k,k≠4->k≠5->aZ b k=aZ s0 k)->(∀x,box s0 (4,c)≠V x)->(∀x,box s0 (5,d)≠V x)->box b (4,c)=V ⟨153,4,U,U,[e]⟩->box b (5,d)=V ⟨153,4,U,U,[f]⟩->Hl j (.p (4,c) 0 0) (.p (5,d) 0 0) b R):EB Al [j, .a e, .a f] s0 R:=by refine aI1 ?_;refine iN rfl l1 (by decide) (by decide) hs λu c i g0 s m=>?_;refine iN rfl r (by decide) (by decide) (i.len.trans hs) λb d l g1 t n=>?_;exact h b c d (Kp.trans i l) (λk o q=>(g1 k q).trans (g0 k o)) (λx g=>s x ((Kp.refl _).keep _ _ g)) (λx g=>t x (i.keep _ _ g)) (l.keep _ _ m) n
def asK:=bi 6 []
def Vo t14 t17 a0 R t18 s19:=rV (cR .neg t18) λc=>eV (aX bH 3 s19 [(0,t14),(1,t17),(2,c)]) λd a=>cB eS [a0,d] a 30 λe b=>bz R b []
def Vv a0 t6 t8 t14 R t15 s16:=rV (cR .neg t15) λa=>cB je [a0,t6,t8] s16 27 (Vo t14 a a0 R)
def Vw a0 t8 t6 R t12 s13:=rV (cR .neg t12) λa=>cB fL [a0,t8] s13 22 (Vv a0 t6 t8 a R)
def Vx s41 t42 s43 t45 s46 t48 x_1 t51 s49 t44 t47 t50 t53 s56 R(a:AV) s58:=dH [lzz,lzz,lzz,(cq U s41),(lz t42),lzz,lzz,(cq U s43),(lz t45),lzz,lzz,lzz,(cq U s46),(lz t48),lzz,(lz x_1),(lz t51),lzz,(cq U s49),(lb I [t44,t47,t50,t53] []),(cq I s56)] [(0,3),(3,5),(3,6),(0,7),(4,7),(3,9),(7,9),(3,10),(7,10),(3,11),(7,11),(0,12),(4,12),(8,12),(3,14),(7,14),(12,14),(3,15),(7,15),(12,15),(3,16),(7,16),(12,16),(3,17),(7,17),(12,17),(0,18),(4,18),(8,18),(13,18),(0,19)] (bz R s58 [])
def Vy a0 s41 t42 s43 t45 s46 t48 x_1 t51 s49 t44 t47 t50 t53 R t55 s56:=cB eS [a0,t55] s56 71 (Vx s41 t42 s43 t45 s46 t48 x_1 t51 s49 t44 t47 t50 t53 s56 R)
def Vz t44 t47 t50 a0 s41 t42 s43 t45 s46 t48 x_1 t51 s49 R t53 s54:=eV (aX bH 4 s54 [(0,t44),(1,t47),(2,t50),(3,t53)]) (Vy a0 s41 t42 s43 t45 s46 t48 x_1 t51 s49 t44 t47 t50 t53 R)
def VA x_1 a0 t8 t44 t47 s41 t42 s43 t45 s46 R t48 s49:=rV (cR .neg t48) λb=>aB 2 s49 x_1 λa=>aM s49 a λc=>cB je [a0,c,t8] s49 69 (Vz t44 t47 b a0 s41 t42 s43 t45 s46 t48 x_1 a s49 R)
def VB a0 t6 t8 x_1 t44 s41 t42 s43 R t45 s46:=rV (cR .neg t45) λa=>cB je [a0,t6,t8] s46 63 (VA x_1 a0 t8 t44 a s41 t42 s43 t45 s46 R)
def VC a0 t8 t6 x_1 s41 R t42 s43:=rV (cR .neg t42) λa=>cB fL [a0,t8] s43 58 (VB a0 t6 t8 x_1 a s41 t42 s43 R)
def Vp s4 t25 s26 t28 s29 t31 x_1 t34 s32 t27 t30 t33 t36 s39 a0 t6 t8 R(a:AV) s41:=dH [lzz,lzz,lzz,(cq U s4),(lz t25),lzz,lzz,(cq U s26),(lz t28),lzz,lzz,lzz,(cq U s29),(lz t31),lzz,(lz x_1),(lz t34),(cq U s32),(lb I [t27,t30,t33,t36] []),(cq I s39)] [(0,3),(3,5),(3,6),(0,7),(4,7),(3,9),(7,9),(3,10),(7,10),(3,11),(7,11),(0,12),(4,12),(8,12),(3,14),(7,14),(12,14),(3,15),(7,15),(12,15),(3,16),(7,16),(12,16),(0,17),(4,17),(8,17),(13,17),(0,18)] (cB fL [a0,t6] s41 54 (VC a0 t8 t6 x_1 s41 R))
def Vq a0 s4 t25 s26 t28 s29 t31 x_1 t34 s32 t27 t30 t33 t36 t6 t8 R t38 s39:=cB eS [a0,t38] s39 50 (Vp s4 t25 s26 t28 s29 t31 x_1 t34 s32 t27 t30 t33 t36 s39 a0 t6 t8 R)
def Vr t27 t30 t33 a0 s4 t25 s26 t28 s29 t31 x_1 t34 s32 t6 t8 R t36 s37:=eV (aX bH 4 s37 [(0,t27),(1,t30),(2,t33),(3,t36)]) (Vq a0 s4 t25 s26 t28 s29 t31 x_1 t34 s32 t27 t30 t33 t36 t6 t8 R)
def Vs x_1 a0 t27 t30 s4 t25 s26 t28 s29 t6 t8 R t31 s32:=rV (cR .neg t31) λb=>aB 2 s32 x_1 λa=>aM s32 a λc=>cB fL [a0,c] s32 48 (Vr t27 t30 b a0 s4 t25 s26 t28 s29 t31 x_1 a s32 t6 t8 R)
def Vt a0 t6 t8 x_1 t27 s4 t25 s26 R t28 s29:=rV (cR .neg t28) λa=>cB je [a0,t6,t8] s29 43 (Vs x_1 a0 t27 a s4 t25 s26 t28 s29 t6 t8 R)
def Vu a0 t8 t6 x_1 s4 R t25 s26:=rV (cR .neg t25) λa=>cB fL [a0,t8] s26 38 (Vt a0 t6 t8 x_1 a s4 t25 s26 R)
def Hg a0 x_1 y_3 s4 R:=ag 1 s4 x_1 λa=>ag 1 s4 y_3 λd=>ag 2 s4 x_1 λb=>aU b (iv 0) λc=>ah c (cB fL [a0,a] s4 18 (Vw a0 d a R)) (cB fL [a0,a] s4 34 (Vu a0 d a x_1 s4 R))
theorem aIX{a a1 b:AV}{s0:ae}{R:be}(h:eV (ej 153 4 s0 4 a1) λc e=>eV (ej 153 4 e 5 b) λd f=>Hg a c d f R):EB xN [a,a1,b] s0 R:=zB asK tB Tryz.func129 h
theorem aKb{j:AV}{e:List AV}{f:List AV}{s0:ae}{R:be}(hs:L s0=4096)(l1:L e=4)(r:L f=4)(h:∀(b:ae) (c d:Nat),Kp s0 b->(∀k,k≠4->k≠5->aZ b k=aZ s0 k)->(∀x,box s0 (4,c)≠V x)->(∀x,box s0 (5,d)≠V x)->box b (4,c)=V ⟨153,4,U,U,[e]⟩->box b (5,d)=V ⟨153,4,U,U,[f]⟩->Hg j (.p (4,c) 0 0) (.p (5,d) 0 0) b R):EB xN [j, .a e, .a f] s0 R:=by refine aIX ?_;refine iN rfl l1 (by decide) (by decide) hs λu c i g0 s m=>?_;refine iN rfl r (by decide) (by decide) (i.len.trans hs) λb d l g1 t n=>?_;exact h b c d (Kp.trans i l) (λk o q=>(g1 k q).trans (g0 k o)) (λx g=>s x ((Kp.refl _).keep _ _ g)) (λx g=>t x (i.keep _ _ g)) (l.keep _ _ m) n
def asJ:=bi 12 [(1,([12],[0,10,11])),(7,([24],[0,2,10,11,12,22,23]))]
def Vg vs21(c:aG)(a:bu) s22(d:AV) s34:=aV (gt vs21 0) (iv 1) λb=>c [b] s34/\a [b] s34<a vs21 s22
def Vh a0 vs21 I21 m21 s22 t31 s32:=cB eS [a0,t31] s32 37 (Vg vs21 I21 m21 s22)
def Vi t28 a0 vs21 I21 m21 s22 t29 s30:=eV (aX bH 2 s30 [(0,t28),(1,t29)]) (Vh a0 vs21 I21 m21 s22)
def Vj a0 t25 vs21 I21 m21 s22 t26 s27:=rV (cR .neg t26) λa=>cB ta [a0,t25] s27 35 (Vi a a0 vs21 I21 m21 s22)
def Vn t20 t18 a0 vs6(f:aG)(b:bu) s7 I21 m21 vs21 s22:=∀_:Rg,aU (gt vs21 0) t20 λc=>ah c (ao 1 s22 t18 (gt vs21 0) λd=>aM s22 d λe=>cB fL [a0,(gt vs6 0)] s22 31 (Vj a0 e vs21 I21 m21 s22)) (aV (gt vs6 0) (iv 1) λa=>f [a] s22/\b [a] s22<b vs6 s7)
def Vk a0 vs6 I6 m6 s7 t18 s19:=aJ s19 t18 λa=>lV [(iv 0)] s19 (Vn a t18 a0 vs6 I6 m6 s7)
def Vl e_11 a0 vs6 I6 m6 s7 s13:=ag 0 s13 e_11 λa=>ag 5 s13 e_11 λb=>cB we [a0,a,b] s13 22 (Vk a0 vs6 I6 m6 s7)
def Vm t5 t4 a0 R I6 m6 vs6 s7:=∀_:Rg,aU (gt vs6 0) t5 λd=>ah d (ao 7 s7 t4 (gt vs6 0) λe=>aw 7 s7 e λc=>eV (bs 59 ee s7 3) λa b=>sV (aK 7 b a c) (Vl a a0 vs6 I6 m6 s7)) (bz R s7 [])
def Hf a0 s0 R:=rV (cO s0 a0) λt1=>aB 0 s0 t1 λa=>ag 14 s0 a λt4=>aJ s0 t4 λb=>lV [(iv 0)] s0 (Vm b t4 a0 R)
theorem aIW{a:AV}{s0:ae}{R:be}(h:Hf a s0 R):EB Aj [a] s0 R:=zB asJ tB Tryz.func84 h
theorem aKa{a:AV}{s0:ae}{R:be}(hs:L s0=4096)(h:Hf a s0 R):EB Aj [a] s0 R:=by refine aIW ?_;exact h
def asG:=bi 19 [(1,([14],[0,12,13])),(4,([],[0,12,13,14])),(13,([46],[0,2,4,12,13,14,44,45])),(16,([],[0,2,4,12,13,14,44,45,46]))]
def Hb vs6(c:aG)(b:bu) s7(d:eQ) s10:=∀_:Rg,aV (gt vs6 0) (iv 1) λa=>c [a] s10/\b [a] s10<b vs6 s7
def Ha vs40(c:aG)(a:bu) s41(d:eQ) s44:=∀_:Rg,aV (gt vs40 0) (iv 1) λb=>c [b] s44/\a [b] s44<a vs40 s41
def TA s50 t54 n_48 s55 t58 t61 s59 t56 t60 t63 s66(a:aG)(b:AV) s68:=dH [lzz,lzz,lzz,(cq U s50),(lz t54),lzz,(lz n_48),(cq U s55),(lz t58),lzz,(lz n_48),(lz t61),lzz,(cq U s59),(lb I [t56,t60,t63] []),(cq I s66)] [(0,3),(3,5),(3,6),(0,7),(4,7),(3,9),(7,9),(3,10),(7,10),(3,11),(7,11),(3,12),(7,12),(0,13),(4,13),(8,13),(0,14)] (a [] s68)
def TE a0 s50 t54 n_48 s55 t58 t61 s59 t56 t60 t63 J43 t65 s66:=cB eS [a0,t65] s66 69 (TA s50 t54 n_48 s55 t58 t61 s59 t56 t60 t63 s66 J43)
def TF t56 t60 a0 s50 t54 n_48 s55 t58 t61 s59 J43 t63 s64:=eV (aX bH 3 s64 [(0,t56),(1,t60),(2,t63)]) (TE a0 s50 t54 n_48 s55 t58 t61 s59 t56 t60 t63 J43)
def TG n_48 a0 vs6 t56 s50 t54 s55 J43 t58 s59:=rV (cR .neg t58) λb=>aB 1 s59 n_48 λa=>aM s59 a λc=>cB je [a0,c,(gt vs6 0)] s59 67 (TF t56 b a0 s50 t54 n_48 s55 t58 a s59 J43)
def TH n_48 a0 vs6 s50 J43 t54 s55:=rV (cR .neg t54) λa=>aw 3 s55 n_48 λb=>cB jB [a0,b] s55 61 (TG n_48 a0 vs6 a s50 t54 s55 J43)
def TI n_48 t22 a0 vs6(a:aG) s50:=ag 2 s50 n_48 λb=>al b t22 λc=>ah c (cB fL [a0,(gt vs6 0)] s50 57 (TH n_48 a0 vs6 s50 a)) (a [] s50)
def TM s41 t38 vs40 t22 a0 vs6 J43:=ao 3 s41 t38 (gt vs40 0) λc=>aw 3 s41 c λd=>eV (bs 66 dM s41 7) λa b=>sV (aK 3 b a d) (TI a t22 a0 vs6 J43)
def TP t39 t38 t22 a0 vs6(b:aG) I40 m40 vs40 s41:=∀_:Rg,aU (gt vs40 0) t39 λa=>ah a (jV 16 (Ha vs40 I40 m40 s41) (TM s41 t38 vs40 t22 a0 vs6)) (b [] s41)
def TJ a0 t22 vs6 J9(d:AV) s35:=rV (cO s35 a0) λb=>ag 17 s35 b λa=>aJ s35 a λc=>lV [(iv 0)] s35 (TP c a t22 a0 vs6 J9)
def TK a0 t22 vs6 J9 t32 s33:=cB eS [a0,t32] s33 40 (TJ a0 t22 vs6 J9)
def TL t28 a0 t22 vs6 J9 t30 s31:=eV (bS 3 fB 8 s31 39 t28 t30) (TK a0 t22 vs6 J9)
def arM a0 t22 vs6 J9 t28 s29:=cB xV [a0,t22] s29 38 (TL t28 a0 t22 vs6 J9)
def TB a0 t22 vs6 J9 t25 s26:=rV (cR .neg t25) λa=>eV (aX bH 1 s26 [(0,a)]) (arM a0 t22 vs6 J9)
def TC(a:aG) a0 vs6 t20 s21:=rV (eO 0 t20) λb=>rV (eO 1 t20) λc=>cf c λd=>ah d (a [] s21) (cB fL [a0,(gt vs6 0)] s21 33 (TB a0 b vs6 a))
def TD e_14(a:aG) a0 vs6 s16:=ag 1 s16 e_14 λb=>aO .neq b (iv 17) λc=>ah c (a [] s16) (cB xU [a0,(gt vs6 0)] s16 25 (TC a a0 vs6))
def TN s7 t4 vs6 a0 J9:=ao 7 s7 t4 (gt vs6 0) λc=>aw 7 s7 c λd=>eV (bs 59 ee s7 3) λa b=>sV (aK 7 b a d) (TD a J9 a0 vs6)
def TO t5 t4 a0 R I6 m6 vs6 s7:=∀_:Rg,aU (gt vs6 0) t5 λa=>ah a (jV 4 (Hb vs6 I6 m6 s7) (TN s7 t4 vs6 a0)) (bz R s7 [])
def G9 a0 s0 R:=rV (cO s0 a0) λt1=>aB 0 s0 t1 λa=>ag 14 s0 a λt4=>aJ s0 t4 λb=>lV [(iv 0)] s0 (TO b t4 a0 R)
theorem aIT{a:AV}{s0:ae}{R:be}(h:G9 a s0 R):EB DC [a] s0 R:=zB asG tB Tryz.func82 h
theorem aJ7{a:AV}{s0:ae}{R:be}(hs:L s0=4096)(h:G9 a s0 R):EB DC [a] s0 R:=by refine aIT ?_;exact h
def asI:=bi 31 [(2,([4],[0,3])),(7,([4,5,43],[0,3,41,42])),(10,([4,5],[0,3,41,42,43])),(12,([4],[0,3,5,7,41,42,43])),(18,([8,98],[0,3,4,5,96,97])),(25,([114],[0,3,4,112,113]))]
def He vs16(c:aG)(a:bu) s17 vs19 s20:=∀_:Rg,aV (gt vs16 2) (iv 1) λb=>c [(gt vs19 0),(gt vs19 1),b] s20/\a [(gt vs19 0),(gt vs19 1),b] s20<a vs16 s17
def T8 y_24 x_1 vs16(b:aG) vs27 s28:=∀_:Rg,ag 2 s28 y_24 λe=>ag 2 s28 x_1 λf=>al e f λa=>aT a 1 s28 y_24 λg=>aT a 1 s28 x_1 λh=>az a (aO .neq g h) λi=>aD a i (bv I) λj=>ah j (aw 3 s28 y_24 λk=>eV (aX mb 1 s28 [(0,k)]) λl c=>eV (bS 66 dM 24 c 91 (gt vs16 1) l) λm d=>b [(gt vs27 0),m] d) (b [(gt vs27 0),(gt vs16 1)] s28)
def TQ vs16(e:aG) t112 s113:=eV (aX bH 1 s113 [(0,t112)]) λc a=>eV (bS 3 fB 8 a 75 (gt vs16 0) c) λd b=>e [d] b
def Vb s26 y_24 x_1 a0 vs16(c:aG):=aw 3 s26 y_24 λi=>aw 3 s26 x_1 λj=>rV (eu .eql 2 [(0,0),(1,0),(2,0)] i j) λb=>bn b 1 s26 y_24 λk=>bn b 1 s26 x_1 λl=>aC b (al k l) λm=>bG b m λa=>bB a a0 λn=>az a (rV (cO s26 n)) λo=>az a (aB 0 s26 o) λp=>aT a 14 s26 p λq=>aT a 1 s26 x_1 λr=>az a (ao 7 s26 q r) λs=>aT a 1 s26 s λd=>az a (al d (iv 18)) λe=>aC b (aD a e (bv I)) λf=>aD b (bv U) f λg=>ah g (aw 3 s26 y_24 λh=>cB jB [a0,h] s26 73 (TQ vs16 c)) (c [(gt vs16 0)] s26)
def T0 y_24 x_1 vs16 J19 a0 s26:=jV 12 (T8 y_24 x_1 vs16 J19) (Vb s26 y_24 x_1 a0 vs16)
def Va s17 t14 vs16 x_1 a0 J19:=ao 3 s17 t14 (gt vs16 2) λc=>aw 3 s17 c λd=>eV (bs 66 dM s17 7) λa b=>sV (aK 3 b a d) (T0 a x_1 vs16 J19 a0)
def T1 vs123(c:aG)(a:bu) s124 t136 s137:=aV (gt vs123 1) (iv 1) λb=>c [t136,b] s137/\a [t136,b] s137<a vs123 s124
def T2 vs123 I123 m123 s124 t132 s133:=eV (aX bH 1 s133 [(0,t132)]) λb a=>eV (bS 3 fB 8 a 107 (gt vs123 0) b) (T1 vs123 I123 m123 s124)
def T3 y_128 a0 vs123 I123 m123 s124 s130:=aw 3 s130 y_128 λa=>cB jB [a0,a] s130 105 (T2 vs123 I123 m123 s124)
def T4 y_147 s153 t155 t158 x_1 t160 s156 t157 t162 t152 t164 s167 vs142(c:aG)(a:bu) s143(d:AV) s169:=dH [lzz,lzz,lzz,(lz y_147),(cq U s153),(lz t155),lzz,(lz y_147),(lz t158),(lz x_1),(lz t160),(cq U s156),(lb I [t157,t162] []),(lb I [t152,t164] [134]),(cq I s167)] [(0,4),(1,4),(4,6),(4,7),(4,8),(4,9),(4,10),(0,11),(1,11),(5,11),(0,12),(1,12),(0,13)] (aV (gt vs142 0) (iv 1) λb=>c [b] s169/\a [b] s169<a vs142 s143)
def T5 a0 y_147 s153 t155 t158 x_1 t160 s156 t157 t162 t152 t164 vs142 I142 m142 s143 t166 s167:=cB eS [a0,t166] s167 135 (T4 y_147 s153 t155 t158 x_1 t160 s156 t157 t162 t152 t164 s167 vs142 I142 m142 s143)
def T6 t157 t152 a0 y_147 s153 t155 t158 x_1 t160 s156 vs142 I142 m142 s143 t162 s163:=eV (aX bH 2 s163 [(0,t157),(1,t162)]) λa b=>eV (bS 3 fB 8 b 134 t152 a) (T5 a0 y_147 s153 t155 t158 x_1 t160 s156 t157 t162 t152 a vs142 I142 m142 s143)
def T7 y_147 x_1 a0 t152 s153 vs142 I142 m142 s143 t155 s156:=rV (cR .neg t155) λc=>aB 1 s156 y_147 λa=>aM s156 a λd=>aB 1 s156 x_1 λb=>aM s156 b λe=>cB je [a0,d,e] s156 132 (T6 c t152 a0 y_147 s153 t155 a x_1 b s156 vs142 I142 m142 s143)
def TR y_147 a0 x_1 vs142 I142 m142 s143 t152 s153:=aw 3 s153 y_147 λa=>cB jB [a0,a] s153 125 (T7 y_147 x_1 a0 t152 s153 vs142 I142 m142 s143)
def TS vs16 y_147 a0 x_1 vs142 I142 m142 s143 s149:=eV (aX bH 0 s149 []) λb a=>eV (bS 3 fB 8 a 120 b (gt vs16 0)) (TR y_147 a0 x_1 vs142 I142 m142 s143)
def Ve t141 vs16 a0 x_1 R I142 m142 vs142 s143:=∀_:Rg,aU (gt vs142 0) t141 λc=>ah c (ao 3 s143 (gt vs16 1) (gt vs142 0) λd=>aw 3 s143 d λe=>eV (bs 66 dM s143 12) λa b=>sV (aK 3 b a e) (TS vs16 a a0 x_1 vs142 I142 m142 s143)) (bz R s143 [])
def TT vs16 a0 x_1 R(b:AV) s140:=aJ s140 (gt vs16 1) λa=>lV [(iv 0)] s140 (Ve a vs16 a0 x_1 R)
def Vd t122 vs16 a0 x_1 R I123 m123 vs123 s124:=∀_:Rg,aU (gt vs123 1) t122 λc=>ah c (ao 3 s124 (gt vs16 1) (gt vs123 1) λd=>aw 3 s124 d λe=>eV (bs 66 dM s124 10) λa b=>sV (aK 3 b a e) (T3 a a0 vs123 I123 m123 s124)) (cB eS [a0,(gt vs123 0)] s124 111 (TT vs16 a0 x_1 R))
def TU vs16 a0 x_1 R t120 s121:=aJ s121 (gt vs16 1) λa=>lV [t120,(iv 0)] s121 (Vd a vs16 a0 x_1 R)
def Vf t15 t14 x_1 a0 R I16 m16 vs16 s17:=∀_:Rg,aU (gt vs16 2) t15 λc=>ah c (jV 10 (He vs16 I16 m16 s17) (Va s17 t14 vs16 x_1 a0)) (eV (aX bH 0 s17 []) λb a=>eV (bS 3 fB 8 a 95 b (gt vs16 0)) (TU vs16 a0 x_1 R))
def T9 a0 x_1 R vs10 s11:=∀_:Rg,rV (cO s11 a0) λb=>ag 17 s11 b λa=>aJ s11 a λc=>lV [(gt vs10 0),(.l [] U U),(iv 0)] s11 (Vf c a x_1 a0 R)
def TV x_1 t174 s9 t176 t179 t181 s177 t183 t178 t185 t8 t186(a:aG) t188 s189:=dH [lzz,lzz,(lz x_1),(lz t174),(cq U s9),(lz t176),lzz,(lz x_1),(lz t179),(lz x_1),(lz t181),(cq U s177),(lz t183),(lb I [t178,t185] []),(lb I [t8,t186] [37]),lzz] [(0,4),(4,6),(4,7),(4,8),(4,9),(4,10),(0,11),(5,11),(0,13)] (a [t188] s189)
def TW t178 t8 x_1 t174 s9 t176 t179 t181 s177 J10 t183 s184:=rV (cR .neg t183) λa=>eV (aX bH 2 s184 [(0,t178),(1,a)]) λb c=>eV (bS 3 fB 8 c 37 t8 b) (TV x_1 t174 s9 t176 t179 t181 s177 t183 t178 a t8 b J10)
def TX x_1 a0 t8 t174 s9 J10 t176 s177:=rV (cR .neg t176) λc=>aB 2 s177 x_1 λa=>aM s177 a λd=>aB 1 s177 x_1 λb=>aM s177 b λe=>cB je [a0,d,e] s177 34 (TW c t8 x_1 t174 s9 t176 a b s177 J10)
def Vc s9 x_1 a0 t8(b:aG):=ag 2 s9 x_1 λc=>aO .geq c (iv 0) λd=>ah d (aB 2 s9 x_1 λa=>aM s9 a λe=>cB fL [a0,e] s9 27 (TX x_1 a0 t8 a s9 b)) (b [t8] s9)
def TY a0 x_1 R t8 s9:=jV 2 (T9 a0 x_1 R) (Vc s9 x_1 a0 t8)
def TZ a0 x_1 R t5 s6:=rV (cR .neg t5) λa=>eV (aX bH 1 s6 [(0,a)]) (TY a0 x_1 R)
def Hd a0 x_1 s2 R:=ag 1 s2 x_1 λt4=>cB fL [a0,t4] s2 17 (TZ a0 x_1 R)
theorem aIV{a a1:AV}{s0:ae}{R:be}(h:eV (ej 66 3 s0 3 a1) λb c=>Hd a b c R):EB DD [a,a1] s0 R:=zB asI tB Tryz.func135 h
theorem aJ9{e:AV}{d:List AV}{s0:ae}{R:be}(hs:L s0=4096)(l1:L d=3)(h:∀(b:ae) (c:Nat),Kp s0 b->(∀k,k≠3->aZ b k=aZ s0 k)->(∀x,box s0 (3,c)≠V x)->box b (3,c)=V ⟨66,3,U,U,[d]⟩->Hd e (.p (3,c) 0 0) b R):EB DD [e, .a d] s0 R:=by refine aIV ?_;refine iN rfl l1 (by decide) (by decide) hs λb c j g0 l f=>?_;exact h b c j (λk g=>g0 k g) (λx i=>l x ((Kp.refl _).keep _ _ i)) f
def asV:=bi 3 []
def Wo a0 R t11 s12:=eV (aX bH 1 s12 [(0,t11)]) λc a=>cB eS [a0,c] a 22 λd b=>bz R b []
def Wp a0 R t8 s9:=aO .geq t8 (iv 0) λa=>ah a (cB fL [a0,t8] s9 20 (Wo a0 R)) (bz R s9 [])
def Wq a0 a1 R(a:AV) s7:=cB xR [a0,a1] s7 14 (Wp a0 R)
def Wr a0 a1 R t1 s2:=rV (cR .neg t1) λt3=>eV (aX bH 1 s2 [(0,t3)]) λt4 a=>cB eS [a0,t4] a 11 (Wq a0 a1 R)
def Hx a0 a1 s0 R:=cB fL [a0,a1] s0 8 (Wr a0 a1 R)
theorem aI8{a a1:AV}{s0:ae}{R:be}(h:Hx a a1 s0 R):EB xQ [a,a1] s0 R:=zB asV tB Tryz.func41 h
theorem aKm{a:AV}{a1:AV}{s0:ae}{R:be}(hs:L s0=4096)(h:Hx a a1 s0 R):EB xQ [a,a1] s0 R:=by refine aI8 ?_;exact h
structure jb(w:am)(ns:List ap):Prop where
 ln:L ns<100000
 bf:∀x y:Int,aF (L w.ac) x->aF (L w.ac) y->x≠y->(⟨1,x,y⟩:ap)∈ns
 ex:∀x:Int,aF (L w.ac) x->(⟨2,x,0⟩:ap)∈ns
 fx:∀x:Int,aF (L w.ac) x->fR (gd w.ac x.toNat)=U->(⟨3,x,0⟩:ap)∈ns
theorem anX{l:List aP}{t:Int}:∀{k:Nat},qT l t k<k
 |0=>by simp[qT]
 |k+1=>by
  rw[qT]
  split
  ·omega
  ·have:=anX (l:=l) (t:=t) (k:=k);omega
theorem anW{w:am}{j:Nat}:lw w.ac j<j:=by have:=anX (l:=w.ac) (t:=(gd w.ac j).aq) (k:=j);rw[lw,bh];exact this
theorem azY{p:Nat->Bool}:∀{n:Nat},0<=uo p n->uo p n<n/\p (uo p n).toNat=U:=by intro n h;by_cases r:∃i,i<n/\p i=U;obtain⟨i,g,t⟩:=r;have l:∃k,k<n/\p k=U/\∀j,j<k->p j=I:=(by induction i using Nat.strongRecOn with|_ i u=>by_cases c:∃j,j<i/\p j=U;obtain⟨j,c,q⟩:=c;exact u j c (by omega) q;exact⟨i,g,t,λj m=>by cases h:p j;rfl;exact absurd ⟨j,m,h⟩ c⟩);obtain⟨k,s,e,o⟩:=l;rw[KW s e o];exact⟨by omega,by simpa using e⟩;have:=KX (p:=p) (n:=n) λi g=>(by cases h:p i;rfl;exact absurd ⟨i,g,h⟩ r);rw[this] at h;omega
theorem aIp{w:am}{j:Nat}(h:0<=kr w j):aF (L w.ac) (kr w j)/\kr w j≠j:=by obtain⟨g,i⟩:=azY h;refine⟨⟨h,g⟩,λe=>?_⟩;have c:pV (gd w.ac j) (gd w.ac (kr w j).toNat)=U:=(by simpa[kr] using i);rw[e,bh] at c;simp only[pV,fH,bN,decide_eq_true_eq] at c;omega
section
variable{Y:ae}{b:Id}{w:am}{ns:List ap}{out:List (List Int)}{n wk a:AV}{bm bo:Id}{f:Nat->AV}{d:Nat}{K:be}
def mS(Y:ae)(b:Id)(w:am)(ns:List ap)(out cl:List (List Int))(n wk a:AV)(bm bo:Id)(f:Nat->AV):be:=λr c=>∃a1,r= .t []/\bD c b w ns (out++cl) n wk a1 bm bo f/\Ad Y c b a a1
theorem n6{fn:Nat}{xs:List AV}{cl:List (List Int)}(k:uQ.elem fn=I)(h:∃r c,mS Y b w ns out cl n wk a bm bo f r c/\cZ aS GG fn xs Y r c)(j:∀e c,bD c b w ns (out++cl) n wk e bm bo f->Ad Y c b a e->K (.t []) c):cB fn xs Y d K:=by refine jH k h ?_;rintro r c ⟨e,rfl,i,g⟩;exact⟨g.fx.len,j e c i g⟩
theorem aDI(C:bD Y b w ns out n wk a bm bo f)(M:jb w ns)(q:∀k,k<L w.ac->aF (L w.aQ.ay) (gd w.ac k).aq)(D:L w.ac<=16)(B:L out<100000000){x:Int}(e:aF (L w.ac) x):∃r g,mS Y b w ns out (jc ns w x) n wk a bm bo f r g/\cZ aS GG xQ [.p b 0 0,iv x] Y r g:=by have i:=M.ln;have s:=e.1;have z:=e.2;have t:((x.toNat:Nat):Int)=x:=kA s;refine aKm C.le ?_;simp only[Hx,↓uL];refine gq C i (M.ex _ e) ?_;simp only[Wr,de i,aY,f7,bQ,↓uL];refine gc C (by omega) [_] (by simp) λa1 g c l=>?_;simp only[Wq,↓uL];refine anA c (by omega) e (q _ (by omega)) ?_;simp only[Wp,u0,u1,↓uL];refine⟨λh=>?_,λh=>?_⟩;have o:=of_decide_eq_true h;have m:=anW (w:=w) (j:=x.toNat);rw[t] at m;refine gq c i (M.ex _ ⟨o,by omega⟩) ?_;simp only[Wo,f7,bQ,↓uL];refine gc c (by simp;omega) [_] (by simp) λy A v u=>?_;simp only[bz,ew];refine⟨y,rfl,?_,l.trans u⟩;rw[jc,if_pos o];simpa using v;simp only[bz,ew];refine⟨a1,rfl,?_,l⟩;rw[jc,if_neg (of_decide_eq_false h)];exact c
theorem anz(C:bD Y b w ns out n wk a bm bo f)(M:jb w ns)(g:∀k,k<L w.ac->aF (L w.aQ.ay) (gd w.ac k).aq)(j:L w.ac<=16)(i:L out<100000000){x:Int}(l:aF (L w.ac) x)(h:∀e c,bD c b w ns (out++jc ns w x) n wk e bm bo f->Ad Y c b a e->K (.t []) c):cB xQ [.p b 0 0,iv x] Y d K:=n6 rfl (aDI C M g j i l) h
theorem aDK(C:bD Y b w ns out n wk a bm bo f)(M:jb w ns)(ae:∀k,k<L w.ac->aF (L w.aQ.ay) (gd w.ac k).aq)(hw:L w.ac<=16)(ho:L out+L (kE ns w)<1000000000):∃r H,mS Y b w ns out (kE ns w) n wk a bm bo f r H/\cZ aS GG Ap [.p b 0 0] Y r H:=by have g:=M.ln;refine aKo C.le ?_;have N:=C.bx;simp only[kE,bq] at ho;simp only[HC,dy N,u0,u1,N,eT,rk,aj,cT,↓uL];refine yV (L w.ac) (λk _ l=>∃m,bD l b w ns (out++(aH k).flatMap (jy ns (L w.ac))) n wk m bm bo f/\Ad Y l b a m) ⟨a,by simpa using C,Ad.refl _ _ _⟩ ?_;rintro k _ H s ⟨a1,R,P⟩;have l1:=fU (f:=jy ns (L w.ac)) s;simp only[Xo,au,aI,u0,u1,↓uL];refine⟨λh=>?_,λh=>?_⟩;have ab:=aL h;rw[fX (by omega)];have af:=fU (f:=jy ns (L w.ac)) (show k+1<=L w.ac by omega);rw[cr,bq] at af;have ar:L ((aH (L w.ac)).flatMap (my ns k))=L (jy ns (L w.ac) k):=rfl;refine AI (α:=Unit) (λ_ i=>[iv i]) 0 (L w.ac) (k+1) (by omega) (λj _ l=>∃m,bD l b w ns (out++(aH k).flatMap (jy ns (L w.ac))++(aH j).flatMap (my ns k)) n wk m bm bo f/\Ad Y l b a m/\k<j) (s0:=()) ⟨a1,by rw[aol (k:=k+1) (λj O=>by simp[my];omega),cL];exact R,P,by omega⟩ ?_;rintro j _ Y2 O ⟨A,q,v,aa⟩;have l2:=fU (f:=my ns k) O;simp only[Xp,au,aI,u0,u1,↓uL];refine⟨λo=>?_,λo=>?_⟩;have Z:=aL o;refine kg q g (M.bf _ _ ⟨by omega,by omega⟩ ⟨by omega,by omega⟩ (by omega)) ?_;simp only[Xe,au,↓uL];refine kg q g (M.bf _ _ ⟨by omega,by omega⟩ ⟨by omega,by omega⟩ (by omega)) ?_;simp only[Xd,fi,bQ,Xc,↓uL];refine gc q (by simp only[bq];omega) [_,_] (by simp) λy S e u=>?_;simp only[W3,au,u0,u1,↓uL];refine yU Z ⟨y,?_,v.trans u,by omega⟩;rw[cr,<-cC,my,if_pos aa];exact e;refine yU ab ⟨A,?_,v⟩;rw[cr,<-cC,show jy ns (L w.ac) k=(aH j).flatMap (my ns k) by rw[jy,bP (bw o) O]];exact q;have t:k=L w.ac:=bP s (bw h);subst t;refine yV (L w.ac) (λk _ l=>∃m,bD l b w ns (out++(aH (L w.ac)).flatMap (jy ns (L w.ac))++(aH k).flatMap (kY ns w)) n wk m bm bo f/\Ad Y l b a m) ⟨a1,by simpa using R,P⟩ ?_;rintro k _ Y2 s ⟨A,q,v⟩;have l2:=fU (f:=kY ns w) s;simp only[Xm,au,aI,u0,u1,di,Xk,↓uL];refine⟨λh=>?_,λh=>?_⟩;have c:=aL h;refine anA q (by omega) (dJ c) (by rw[bh];exact ae _ c) ?_;have ap:=anW (w:=w) (j:=k);simp only[W4,u0,u1,au,↓uL];refine⟨λo=>?_,λo=>?_⟩;have z:=of_decide_eq_true o;have E:=fU (f:=kY ns w) (show k+1<=L w.ac from c);have W:kY ns w k=[[lB ns (lw w.ac k) k],[-lE ns k,lE ns (lw w.ac k)]]:=(by rw[kY,if_pos z]);rw[cr,W,bq] at E;simp only[bZ,bO] at E;have B:aF (L w.ac) (lw w.ac k):=⟨z,by omega⟩;refine kg q g (M.bf _ _ B (dJ c) (by omega)) ?_;simp only[Xj,f7,bQ,Xi,↓uL];refine gc q (by simp only[bq];omega) [_] (by simp) λy S e u=>?_;simp only[Xh,au,↓uL];refine gq e g (M.ex _ (dJ c)) ?_;simp only[Xg,de g,aY,↓uL];refine gq e g (M.ex _ B) ?_;simp only[Xf,fi,bQ,↓uL];refine gc e (by simp only[bq,bZ,bO];omega) [_,_] (by simp) λT Y4 x G=>?_;simp only[HD,au,aI,u0,u1,↓uL];refine yU c ⟨T,?_,(v.trans u).trans G⟩;rw[cr,W];simpa using x;simp only[HD,au,aI,u0,u1,↓uL];refine yU c ⟨A,?_,v⟩;rw[cr,kY,if_neg (of_decide_eq_false o),cL];exact q;have t:k=L w.ac:=bP s (bw h);subst t;refine yV (L w.ac) (λk _ l=>∃m,bD l b w ns (out++(aH (L w.ac)).flatMap (jy ns (L w.ac))++(aH (L w.ac)).flatMap (kY ns w)++(aH k).flatMap (mA ns w)) n wk m bm bo f/\Ad Y l b a m) ⟨A,by simpa using q,v⟩ ?_;rintro k _ S s ⟨y,e,u⟩;have l3:=fU (f:=mA ns w) s;simp only[Xn,au,aI,u0,u1,di,Xl,↓uL];refine⟨λh=>?_,λh=>?_⟩;have c:=aL h;refine aEi e (by omega) (dJ c) ?_;simp only[Xb,u0,u1,au,↓uL];refine⟨λo=>?_,λo=>?_⟩;have z:=of_decide_eq_true o;obtain⟨D,ad⟩:=aIp z;have F:=fU (f:=mA ns w) (show k+1<=L w.ac from c);have X:mA ns w k=[[-lE ns k,lE ns (kr w k)],[-lE ns k,lB ns (kr w k) k]]:=(by rw[mA,if_pos z]);rw[cr,X,bq] at F;simp only[bZ,bO] at F;refine gq e g (M.ex _ (dJ c)) ?_;simp only[Xa,de g,aY,↓uL];refine gq e g (M.ex _ D) ?_;simp only[W9,fi,bQ,W8,↓uL];refine gc e (by simp only[bq];omega) [_,_] (by simp) λT Y4 x G=>?_;simp only[W7,au,↓uL];refine gq x g (M.ex _ (dJ c)) ?_;simp only[W6,de g,aY,au,↓uL];refine kg x g (M.bf _ _ D (dJ c) ad) ?_;simp only[W5,fi,bQ,↓uL];refine gc x (by simp only[bq,bZ,bO];omega) [_,_] (by simp) λa5 Y5 C5 A5=>?_;simp only[HE,au,aI,u0,u1,↓uL];refine yU c ⟨a5,?_,(u.trans G).trans A5⟩;rw[cr,X];simpa using C5;simp only[HE,au,aI,u0,u1,↓uL];refine yU c ⟨y,?_,u⟩;rw[cr,mA,if_neg (of_decide_eq_false o),cL];exact e;have t:k=L w.ac:=bP s (bw h);subst t;exact⟨y,rfl,by simpa[kE] using e,u⟩
theorem aEh(C:bD Y b w ns out n wk a bm bo f)(M:jb w ns)(g:∀k,k<L w.ac->aF (L w.aQ.ay) (gd w.ac k).aq)(j:L w.ac<=16)(i:L out+L (kE ns w)<1000000000)(h:∀e c,bD c b w ns (out++kE ns w) n wk e bm bo f->Ad Y c b a e->K (.t []) c):cB Ap [.p b 0 0] Y d K:=n6 rfl (aDK C M g j i) h
structure tP(w:am):Prop where
 ct:L w.init.count=L w.aQ.ay
 c0:∀u:Int,aF (L w.aQ.ay) u->0<=gd w.init.count u.toNat/\gd w.init.count u.toNat<=400
 dl:∀k,k<L w.ac->L (gd w.ac k).dI<100000/\∀x∈(gd w.ac k).dI,-1000<=x/\x<=1000
 fl:∀k,k<L w.ac->L (gd w.ac k).ep<100000/\∀x∈(gd w.ac k).ep,-1000<=x/\x<=1000
 dp:∀k,k<L w.ac->∀q∈fg w (gd w.ac k).aq (gd w.ac k).dI,aF (L w.ac) q/\fR (gd w.ac q.toNat)=U
 fr:∀k,k<L w.ac->∀q∈fg w (gd w.ac k).aq (gd w.ac k).ep,aF (L w.ac) q/\fR (gd w.ac q.toNat)=U
theorem aDy(C:bD Y b w ns out n wk a bm bo f)(M:jb w ns)(D:tP w)(z:∀k,k<L w.ac->aF (L w.aQ.ay) (gd w.ac k).aq)(hw:L w.ac<=16)(ho:L out+L ((aH (L w.ac)).flatMap (kX ns w))<1000000000):∃r q,mS Y b w ns out ((aH (L w.ac)).flatMap (kX ns w)) n wk a bm bo f r q/\cZ aS GG Aj [.p b 0 0] Y r q:=by have E:=M.ln;refine aKa C.le ?_;have B:=C.bx;simp only[Hf,dy B,u0,u1,B,eT,rk,aj,cT,↓uL];refine yV (L w.ac) (λk _ i=>∃l,bD i b w ns (out++(aH k).flatMap (kX ns w)) n wk l bm bo f/\Ad Y i b a l) ⟨a,by simpa using C,Ad.refl _ _ _⟩ ?_;rintro k _ q hk ⟨a1,A,G⟩;simp only[Vm,au,aI,u0,u1,ix,rk,bh,↓uL];refine⟨λh=>⟨bA h,?_⟩,λh=>?_⟩;have e:=aL h;refine cV A.le λv Y2 X N2 b2=>?_;refine cy (y:=7) (cs:=aP.c (gd w.ac k)) b2 rfl rfl (by decide) λO Z b3=>?_;have P:box O (3,v)=V ⟨59,7,U,U,[aP.c (gd w.ac k)]⟩:=b3;have u:Fx q O []:=X.tn Z N2.no;have N:=A.fx u;simp only[Vl,u0,u1,P,rk,aj,↓uL];refine Qp N hw (D.dl k e).1 (z k e) D.ct (D.c0 _ (z k e)) (D.dl k e).2 λt=>?_;have l1:=fU (f:=kX ns w) (show k+1<=L w.ac from e);rw[cr,bq] at l1;have F:=D.dp k e;have g:kX ns w k=(aH (L (fg w (gd w.ac k).aq (gd w.ac k).dI))).flatMap (qv ns k (fg w (gd w.ac k).aq (gd w.ac k).dI)):=rfl;rw[g] at l1;generalize hL:fg w (gd w.ac k).aq (gd w.ac k).dI=Lw at F g l1;have ao:L Lw<4000000000:=(by have:L Lw=L ((aH (L Lw)).flatMap (qv ns k Lw)):=(by clear hL g l1 F;generalize L Lw=m;induction m with|zero=>rfl|succ m ih=>rw[cr,bq,<-ih];rfl);omega);simp only[Vk,gT,u0,↓uL];refine yV (L Lw) (λj _ i=>∃l,bD i b w ns (out++(aH k).flatMap (kX ns w)++(aH j).flatMap (qv ns k Lw)) n wk l bm bo f/\Ad Y i b a l) ⟨a1,by simpa using N,G.fxn u⟩ ?_;rintro j _ Y4 R ⟨a4,o,H⟩;have l4:=fU (f:=qv ns k Lw) R;simp only[Vn,au,aI,u0,u1,tf,rk,qM,bh,↓uL];refine⟨λs=>⟨bA s,?_⟩,λs=>?_⟩;have x:=aL s;obtain⟨q1,q2⟩:=F _ (dB x);refine gq o E (M.ex _ (dJ e)) ?_;simp only[Vj,de E,aY,↓uL];refine AQ o E (M.fx _ q1 q2) ?_;simp only[Vi,fi,bQ,Vh,↓uL];refine gc o (by simp only[bq];omega) [_,_] (by simp) λa5 Y5 W T=>?_;simp only[Vg,au,cS,aY,↓uL];refine yU x ⟨a5,?_,H.trans T⟩;rw[cr,<-cC];exact W;refine yU e ⟨a4,?_,H⟩;rw[cr,g,<-cC,<-bP R (bw s)];exact o;have S:k=L w.ac:=bP hk (bw h);subst S;exact⟨a1,rfl,A,G⟩
theorem aEd(C:bD Y b w ns out n wk a bm bo f)(M:jb w ns)(D:tP w)(g:∀k,k<L w.ac->aF (L w.aQ.ay) (gd w.ac k).aq)(j:L w.ac<=16)(i:L out+L ((aH (L w.ac)).flatMap (kX ns w))<1000000000)(h:∀e c,bD c b w ns (out++(aH (L w.ac)).flatMap (kX ns w)) n wk e bm bo f->Ad Y c b a e->K (.t []) c):cB Aj [.p b 0 0] Y d K:=n6 rfl (aDy C M D g j i) h
def uf(ns:List ap)(e c:Int):List (List Int):=if c<0\/e<0 then[] else[[-lE ns c,lE ns e],[-lE ns c,lB ns e c]]
theorem aDC(C:bD Y b w ns out n wk a bm bo f)(M:jb w ns)(ho:L out<999999990){X T g qt c qr:Int}{W Z:Bool}(R:0<=g->aF (L w.ac) g)(S:0<=c->aF (L w.ac) c)(af:g≠c\/c<0):∃r x,mS Y b w ns out (uf ns g c) n wk a bm bo f r x/\cZ aS GG Al [.p b 0 0, .a [iv X,iv T,iv g,bv W], .a [iv qt,iv c,iv qr,bv Z]] Y r x:=by have i:=M.ln;refine aKf C.le rfl rfl λs4 v4 v5 H ag _ _ m O=>?_;have v:Fx Y s4 []:=H.fx [];have j:=C.fx v;have r1:∀{p q s t:AV},aN J ([p,q,s,t].drop 1)=V q:=rfl;have y:∀{p q s t:AV},aN J ([p,q,s,t].drop 2)=V s:=rfl;simp+contextual only[Hl,u0,u1,m,O,r1,y,aj,↓uL];refine⟨λh=>?_,λh=>?_⟩;simp only[bz,ew];simp only[fH,decide_eq_true_eq] at h;refine⟨a,rfl,?_,⟨v.mono (by simp),λk P=> .inl P⟩⟩;rw[uf,if_pos h,cL];exact j;simp only[cP,decide_eq_false_iff_not] at h;have l:=S (by omega);have o:=R (by omega);have E:uf ns g c=[[-lE ns c,lE ns g],[-lE ns c,lB ns g c]]:=(by rw[uf,if_neg (by omega)]);refine gq j i (M.ex _ l) ?_;simp only[VQ,de i,aY,u0,u1,m,y,aj,↓uL];refine gq j i (M.ex _ o) ?_;simp only[VP,fi,bQ,VO,↓uL];refine gc j (by omega) [_,_] (by simp) λa1 x u z=>?_;have D:=z.keep m (by intro e;have:=C.sb;rw[<-e] at this;simp at this) (j.ne m (.inl rfl));simp only[VN,↓uL];refine dT ?_ ?_;obtain⟨A,B⟩:=b;have:=C.sb;simp only at this;subst this;simp[eL,lb,cq,cD,dC,dK];refine gq u i (M.ex _ l) ?_;simp only[VM,de i,aY,u0,u1,D,y,aj,↓uL];refine kg u i (M.bf _ _ o l (by omega)) ?_;simp only[VL,fi,bQ,VK,↓uL];refine gc u (by simp;omega) [_,_] (by simp) λN Y2 G F=>?_;simp only[VJ,↓uL];refine dT ?_ ⟨N,rfl,?_,Ad.pre v (z.trans F)⟩;obtain⟨A,B⟩:=b;have:=C.sb;simp only at this;subst this;simp[eL,lb,cq,cD,dC,dK];rw[E];simpa using G
theorem aDz(C:bD Y b w ns out n wk a bm bo f)(M:jb w ns)(ho:L out<999999990){xt y l yt o yr:Int}{Z yd:Bool}(k:aF (L w.ac) y)(j:aF (L w.ac) o)(T:0<=l->aF (L w.ac) l)(m:y≠o)(G:0<=l->l≠o):∃r v,mS Y b w ns out (jI ns y l o) n wk a bm bo f r v/\cZ aS GG xN [.p b 0 0, .a [iv xt,iv y,iv l,bv Z], .a [iv yt,iv o,iv yr,bv yd]] Y r v:=by have c:=M.ln;refine aKb C.le rfl rfl λX v4 v5 O af _ _ x R=>?_;have A:Fx Y X []:=O.fx [];have g:=C.fx A;have W:∀{p q s t:AV},aN J ([p,q,s,t].drop 1)=V q:=rfl;have B:∀{p q s t:AV},aN J ([p,q,s,t].drop 2)=V s:=rfl;simp+contextual only[Hg,u0,u1,x,R,W,B,aj,↓uL];refine⟨λh=>?_,λh=>?_⟩;refine gq g c (M.ex _ k) ?_;simp only[Vw,de c,aY,↓uL];refine gq g c (M.ex _ j) ?_;simp only[Vv,de c,aY,↓uL];refine kg g c (M.bf _ _ k j m) ?_;simp only[Vo,de c,aY,xA,bQ,↓uL];refine gc g (by omega) [_,_,_] (by simp) λa1 v i u=>⟨a1,rfl,?_,Ad.pre A u⟩;rw[jI,if_pos (of_decide_eq_true h)];exact i;have S:=of_decide_eq_false h;have z:=T (by omega);refine gq g c (M.ex _ k) ?_;simp only[Vu,de c,aY,↓uL];refine gq g c (M.ex _ j) ?_;simp only[Vt,de c,aY,↓uL];refine kg g c (M.bf _ _ k j m) ?_;simp only[Vs,de c,aY,u0,u1,x,B,aj,↓uL];refine gq g c (M.ex _ z) ?_;simp only[Vr,vR,bQ,Vq,↓uL];refine gc g (by omega) [_,_,_,_] (by simp) λa1 v i u=>?_;have F:=u.keep x (by intro e;have:=C.sb;rw[<-e] at this;simp at this) (g.ne x (.inl rfl));simp only[Vp,↓uL];refine dT ?_ ?_;obtain⟨D,E⟩:=b;have:=C.sb;simp only at this;subst this;simp[eL,lb,cq,cD,dC,dK];refine gq i c (M.ex _ k) ?_;simp only[VC,de c,aY,↓uL];refine gq i c (M.ex _ j) ?_;simp only[VB,de c,aY,↓uL];refine kg i c (M.bf _ _ k j m) ?_;simp only[VA,de c,aY,u0,u1,F,B,aj,↓uL];refine kg i c (M.bf _ _ z j (G (by omega))) ?_;simp only[Vz,vR,bQ,Vy,↓uL];refine gc i (by simp;omega) [_,_,_,_] (by simp) λP Y2 N H=>?_;simp only[Vx,↓uL];refine dT ?_ ⟨P,rfl,?_,Ad.pre A (u.trans H)⟩;obtain⟨D,E⟩:=b;have:=C.sb;simp only at this;subst this;simp[eL,lb,cq,cD,dC,dK];rw[jI,if_neg S];simpa using N
theorem aEe(C:bD Y b w ns out n wk a bm bo f)(M:jb w ns)(k:L out<999999990){r o e v c u:Int}{q s:Bool}(l:0<=e->aF (L w.ac) e)(m:0<=c->aF (L w.ac) c)(i:e≠c\/c<0)(j:∀h g,bD g b w ns (out++uf ns e c) n wk h bm bo f->Ad Y g b a h->K (.t []) g):cB Al [.p b 0 0, .a [iv r,iv o,iv e,bv q], .a [iv v,iv c,iv u,bv s]] Y d K:=n6 rfl (aDC C M k l m i) j
theorem anx(C:bD Y b w ns out n wk a bm bo f)(M:jb w ns)(m:L out<999999990){u g c y e x:Int}{s v:Bool}(q:aF (L w.ac) g)(r:aF (L w.ac) e)(o:0<=c->aF (L w.ac) c)(j:g≠e)(k:0<=c->c≠e)(l:∀i h,bD h b w ns (out++jI ns g c e) n wk i bm bo f->Ad Y h b a i->K (.t []) h):cB xN [.p b 0 0, .a [iv u,iv g,iv c,bv s], .a [iv y,iv e,iv x,bv v]] Y d K:=n6 rfl (aDz C M m q r o j k) l
theorem aDR(C:bD Y b w ns out n wk a bm bo f)(M:jb w ns)(D:tP w)(aM:∀k,k<L w.ac->aF (L w.aQ.ay) (gd w.ac k).aq)(hw:L w.ac<=16){r:Nat}{s:Int}(hr:r<L w.ac)(ao:fR (gd w.ac r)=U)(hm:(⟨4,(r:Int),s⟩:ap)∈ns)(hs:0<=s->aF (L w.ac) s/\s≠(r:Int))(ho:L out+L (iP ns w r s)<999999900):∃r1 S,mS Y b w ns out (iP ns w r s) n wk a bm bo f r1 S/\cZ aS GG Ar [.p b 0 0, .a (ap.c ⟨4,r,s⟩)] Y r1 S:=by have l:=M.ln;refine aKu C.le rfl λs2 v3 K2 b4 _ b3=>?_;have F2:Fx Y s2 []:=K2.fx [];have C0:=C.fx F2;have bj:aN (V 3) (ap.c ⟨4,(r:Int),s⟩)=V (.a (ap.c ⟨4,r,s⟩)):=rfl;simp only[iP,bq] at ho;simp only[HM,u0,u1,b3,bj,rk,aj,↓uL];refine lq C0 l hm ?_;simp only[XT,↓uL];refine dT rfl ?_;refine mG (λvs o=>vs=[]/\∃u,bD o b w ns (out++kD ns w r s) n wk u bm bo f/\Ad Y o b a u) (λg hJ=>?_) ?_;simp only[X5,u0,u1,↓uL];refine⟨λh=>?_,λh=>hJ _ _ ⟨rfl,a,by rw[kD,if_neg (of_decide_eq_false h),cL];exact C0,⟨F2.mono (by simp),λk hk=> .inl hk⟩⟩⟩;have T:=of_decide_eq_true h;obtain⟨N,bi⟩:=hs T;have b2:((s.toNat:Nat):Int)=s:=kA T;have O:s.toNat<L w.ac:=(by have:=N.1;have:=N.2;omega);have q:kD ns w r s=[[-lS ns r s,lE ns s],[-lS ns r s,lB ns s r]]++(aH (L (fg w (gd w.ac s.toNat).aq (gd w.ac s.toNat).ep))).flatMap (pD ns r s (fg w (gd w.ac s.toNat).aq (gd w.ac s.toNat).ep)):=(by rw[kD,if_pos T]);rw[q,bq] at ho;simp only[de l,aY,↓uL];refine gq C0 l (M.ex _ N) ?_;simp only[XS,fi,bQ,XR,↓uL];refine gc C0 (by omega) [_,_] (by simp) λa1 S C1 A1=>?_;simp only[XQ,de l,aY,↓uL];refine kg C1 l (M.bf _ _ N (dJ hr) bi) ?_;simp only[XP,fi,bQ,XO,↓uL];refine gc C1 (by simp;omega) [_,_] (by simp) λa2 Y2 C2 A2=>?_;have aC:=C2.bx;simp only[XN,dy aC,u0,u1,aC,eT,rk,ix,aj,↓uL];refine⟨N,?_⟩;refine cV C2.le λv Y3 F3 N3 d3=>?_;refine cy (y:=7) (cs:=aP.c (gd w.ac s.toNat)) d3 rfl rfl (by decide) λY4 F4 d4=>?_;have W:box Y4 (7,v)=V ⟨59,7,U,U,[aP.c (gd w.ac s.toNat)]⟩:=d4;have F:Fx Y2 Y4 []:=F3.tn F4 N3.no;have C4:=C2.fx F;simp only[XM,u0,u1,W,rk,aj,↓uL];refine Qp C4 hw (D.fl _ O).1 (aM _ O) D.ct (D.c0 _ (aM _ O)) (D.fl _ O).2 λt=>?_;have hq:=D.fr _ O;generalize hL:fg w (gd w.ac s.toNat).aq (gd w.ac s.toNat).ep=Lw at hq q ho;have b1:L Lw<4000000000:=(by have:L Lw=L ((aH (L Lw)).flatMap (pD ns r s Lw)):=(by clear hL q ho hq;generalize L Lw=m;induction m with|zero=>rfl|succ m ih=>rw[cr,bq,<-ih];rfl);omega);simp only[XL,gT,u0,↓uL];refine yV (L Lw) (λj _ o=>∃u,bD o b w ns (out++[[-lS ns r s,lE ns s],[-lS ns r s,lB ns s r]]++(aH j).flatMap (pD ns r s Lw)) n wk u bm bo f/\Ad Y o b a u) ⟨a2,by simpa using C4,(Ad.pre F2 (A1.trans A2)).fxn F⟩ ?_;rintro j _ Y5 hj ⟨a5,R,A5⟩;have l5:=fU (f:=pD ns r s Lw) hj;simp only[X8,au,aI,u0,u1,tf,rk,qM,bh,de l,↓uL];refine⟨λh2=>⟨bA h2,?_⟩,λh2=>?_⟩;have aG:=aL h2;obtain⟨q1,q2⟩:=hq _ (dB aG);refine AQ R l (M.fx _ q1 q2) ?_;simp only[XK,fi,bQ,X2,↓uL];refine gc R (by simp only[bq,bZ,bO] at*;omega) [_,_] (by simp) λa6 Y6 C6 A6=>?_;simp only[X1,au,cS,aY,↓uL];refine yU aG ⟨a6,?_,A5.trans A6⟩;rw[cr,<-cC];exact C6;refine hJ _ _ ⟨rfl,a5,?_,A5⟩;rw[q,<-cC,<-bP hj (bw h2)];exact R;rintro vs S ⟨rfl,a1,C1,A1⟩;have aB:=C1.bx;simp only[X3,aI,dy aB,u0,u1,aB,eT,rk,ix,aj,bh,↓uL];refine⟨dJ hr,?_⟩;refine cV C1.le λv Y3 F3 N3 d3=>?_;refine cy (y:=7) (cs:=aP.c (gd w.ac r)) d3 rfl rfl (by decide) λY4 F4 d4=>?_;have W:box Y4 (10,v)=V ⟨59,7,U,U,[aP.c (gd w.ac r)]⟩:=d4;have F:Fx S Y4 []:=F3.tn F4 N3.no;have C4:=C1.fx F;have aD:=C4.bx;simp only[X0,f8,X4,u0,u1,W,rk,aj,↓uL];have hj:∀kd:Int,kd=(if(gd w.ac r).kind=23 then 22 else 4)->HN Y4 (.p b 0 0) (.p (10,v) 0 0) (iv s) (iv (lS ns r s)) (iv r) (λr1 S=>mS Y b w ns out (iP ns w r s) n wk a bm bo f r1 S) [iv kd]:=(by intro kd Z;simp only[HN,aI,dy aD,u0,u1,aD,eT,rk,aj,cT,↓uL];have aR:∀x:aP,pf x (gd w.ac r)=(Q (x.kind=kd)&&Q (x.obj=(gd w.ac r).obj)):=(by intro x;simp only[fR,fH,decide_eq_true_eq] at ao;rcases ao with h3|aE;rw[if_neg (by omega)] at Z;subst Z;simp[pf,h3,aqr];rw[if_pos aE] at Z;subst Z;simp[pf,aE,aqr]);refine yV (L w.ac) (λk _ o=>∃u,bD o b w ns (out++kD ns w r s++(aH k).flatMap (jl ns w r s)) n wk u bm bo f/\Ad Y o b a u/\box o (10,v)=V ⟨59,7,U,U,[aP.c (gd w.ac r)]⟩) ⟨a1,by simpa using C4,A1.fxn F,W⟩ ?_;rintro z _ Y5 hz ⟨a5,R,A5,e5⟩;simp only[X7,au,aI,u0,u1,di,X6,ix,rk,bh,↓uL];refine⟨λh=>⟨bA h,?_⟩,λh=>?_⟩;have A:=aL h;have l5:=fU (f:=jl ns w r s) (show z+1<=L w.ac from A);rw[cr,bq] at l5;refine cV R.le λv6 Y6 F6 N6 d6=>?_;refine cy (y:=7) (cs:=aP.c (gd w.ac z)) d6 rfl rfl (by decide) λY7 F7 d7=>?_;have bd:box Y7 (13,v6)=V ⟨59,7,U,U,[aP.c (gd w.ac z)]⟩:=d7;have al:Fx Y5 Y7 []:=F6.tn F7 N6.no;have B:=R.fx al;have A7:=A5.fxn al;have e7:=al.kq e5;have am:((10,v):Id)≠b:=(by intro e;have:=C.sb;rw[<-e] at this;simp at this);simp+contextual only[XZ,u0,u1,bd,e7,rk,aj,au,de l,↓uL];have H:∀E G,bD E b w ns (out++kD ns w r s++(aH z).flatMap (jl ns w r s)++jl ns w r s z) n wk G bm bo f->Ad Y E b a G->box E (10,v)=V ⟨59,7,U,U,[aP.c (gd w.ac r)]⟩->HO [iv z] (yI (α:=Unit) (λ_ i=>[iv i]) (L w.ac) λk _ o=>∃u,bD o b w ns (out++kD ns w r s++(aH k).flatMap (jl ns w r s)) n wk u bm bo f/\Ad Y o b a u/\box o (10,v)=V ⟨59,7,U,U,[aP.c (gd w.ac r)]⟩) (gM 0 (L w.ac)) Y5 [] E:=(by intro E G C8 P e8;simp only[HO,aI,au,cS,aY,↓uL];refine yU A ⟨G,?_,P,e8⟩;rw[cr,<-cC];exact C8);refine⟨λhc=>?_,λhc=>?_⟩;refine H Y7 a5 ?_ A7 e7;have:jl ns w r s z=[]:=(by rw[jl,if_pos ?_];by_cases aa:(z:Int)=s;exact .inl aa;right;rw[aR];simp only[fH,decide_eq_true_eq] at hc;simp only[Bool.and_eq_false_iff,decide_eq_false_iff_not];omega);rw[this,cL];exact B;simp only[cP,decide_eq_false_iff_not,rx] at hc;have aa:(z:Int)≠s:=(by omega);have aO:pf (gd w.ac z) (gd w.ac r)=U:=(by rw[aR];simp only[bN,decide_eq_true_eq];omega);have aK:(r:Int)≠z:=(by intro e;have bc:r=z:=(by omega);subst bc;simp only[fR,fH,decide_eq_true_eq] at ao;simp only[pf,bN,fH,decide_eq_true_eq] at aO;omega);have aJ:¬((z:Int)=s\/pf (gd w.ac z) (gd w.ac r)=I):=(by rintro(h|h);exact aa h;rw[aO] at h;cases h);refine⟨λT=>?_,λT=>?_⟩;have X:=of_decide_eq_true T;have q:jl ns w r s z=[[-lS ns r s,-lE ns z,lB ns z s,lB ns r z]]:=(by rw[jl,if_neg aJ,if_pos X]);rw[q] at l5 H;simp only[bZ,bO] at l5;refine gq B l (M.ex _ (dJ A)) ?_;simp only[XW,de l,aY,au,↓uL];refine kg B l (M.bf _ _ (dJ A) (hs X).1 aa) ?_;simp only[XU,au,↓uL];refine kg B l (M.bf _ _ (dJ hr) (dJ A) aK) ?_;simp only[XJ,vR,bQ,↓uL];refine gc B (by simp only[bq];omega) [_,_,_,_] (by simp) λG E C8 P=>?_;exact H E G C8 (A7.trans P) (P.keep e7 am (B.ne e7 (.inl rfl)));have X:=of_decide_eq_false T;have q:jl ns w r s z=[[-lS ns r s,-lE ns z,lB ns r z]]:=(by rw[jl,if_neg aJ,if_neg X]);rw[q] at l5 H;simp only[bZ,bO] at l5;refine gq B l (M.ex _ (dJ A)) ?_;simp only[XY,de l,aY,au,↓uL];refine kg B l (M.bf _ _ (dJ hr) (dJ A) aK) ?_;simp only[XX,xA,bQ,↓uL];refine gc B (by simp only[bq];omega) [_,_,_] (by simp) λG E C8 P=>?_;exact H E G C8 (A7.trans P) (P.keep e7 am (B.ne e7 (.inl rfl)));have bg:z=L w.ac:=bP hz (bw h);subst bg;refine⟨a5,rfl,?_,A5⟩;rw[iP,<-cC];exact R);refine⟨λh=>hj 22 (by rw[if_pos (of_decide_eq_true h)]),λh=>hj 4 (by rw[if_neg (of_decide_eq_false h)])⟩
theorem aEj(C:bD Y b w ns out n wk a bm bo f)(M:jb w ns)(D:tP w)(i:∀k,k<L w.ac->aF (L w.aQ.ay) (gd w.ac k).aq)(q:L w.ac<=16){r:Nat}{s:Int}(o:r<L w.ac)(h:fR (gd w.ac r)=U)(l:(⟨4,(r:Int),s⟩:ap)∈ns)(hs:0<=s->aF (L w.ac) s/\s≠(r:Int))(m:L out+L (iP ns w r s)<999999900)(j:∀g e,bD e b w ns (out++iP ns w r s) n wk g bm bo f->Ad Y e b a g->K (.t []) e):cB Ar [.p b 0 0, .a (ap.c ⟨4,r,s⟩)] Y d K:=n6 rfl (aDR C M D i q o h l hs m) j
structure sE(w:am)(ns:List ap):Prop where
 ok:∀x∈aR ns 5,aF (L w.ac) x.a/\pN (gd w.ac x.a.toNat)=U/\(0<=x.b->aF (L w.ac) x.b/\x.b≠x.a)
 ln:L (aR ns 5)<=1000
def iO(ns:List ap)(k:Nat)(c:Int)(l:List ap)(j:Nat):List (List Int):=if(gd l j).b=c then[[-lE ns k,-dP ns (gd l j),lB ns (gd l j).a k]] else[]
def mu(ns:List ap)(w:am)(k:Nat):List (List Int):=
 if(gd w.ac k).kind=17/\(e9 w k).2=U then(-lE ns k::gO ns (aR ns 5) (e9 w k).1)::(aH (L (aR ns 5))).flatMap (iO ns k (e9 w k).1 (aR ns 5)) else[]
theorem qs{Y:ae}{e:TypeId}{z d by':Nat}{zs:List AV}{a:AV}{rows new:List (List AV)}{t o:Bool}{K:be}(E:gA Y e z a rows)(k:L zs=z)(m:0<z)(c:d<L Y)(B:∀r∈rows,L r=z)(x:∀r∈new,L r=z)(v:(L rows+L new)*(by'+1)<=1099511627776)(u:∀j i,gA i e z j (rows++new)->Fx Y i (aA a)->(∀b∈aA j,b∈aA a\/(bK Y b/\b.1=d))->K j i):eV (bS e zs by' Y d a (.l new t o)) K:=by rcases E with⟨o',rfl⟩|⟨b,rfl,D⟩;unfold bS;simp only[gL];by_cases s:L new=0;rw[if_pos s];have y:new=[]:=List.length_eq_zero_iff.1 s;subst y;exact u _ _ (.inl ⟨o',by simp⟩) (Fx.refl _ _) (by simp[aA]);rw[if_neg s,if_pos ⟨by rw[k];exact m,by simp[eX,c],by rw[k];exact x⟩];rw[if_pos ⟨by rw[k];exact B,by simpa[lx] using v⟩];refine u _ _ (.inr ⟨bV Y d,by simp,?_⟩) ((kH c).mono (by simp)) (by simp[aA];exact⟨qQ Y d,rfl⟩);rw[<-k];exact iy c;refine gD (.inr ⟨b,rfl,D⟩) k m c B x v λj i g F G H=>u j i ?_ F λq A=>?_;rcases g with⟨C,rfl⟩|h;exact .inl ⟨U,by rw[C]⟩;exact .inr h;rcases G q A with h|h;exact .inl h;rcases H q A with p|p;exact .inl p;exact .inr ⟨h,p⟩
theorem Ea(C:bD Y b w ns out n wk a bm bo f)(l:L out<1000000000){x:AV}(c:List Int)(h:gA Y 3 1 x (c.map ci))(j:L c<1000000)(m:∀k∈aA x,k.1≠18)(i:∀g e,bD e b w ns (out++[c]) n wk g bm bo f->Ad Y e b a g->K (.t []) e):cB eS [.p b 0 0,x] Y d K:=by refine anw C l (ali h) j ?_ i;rcases h with⟨o,rfl⟩|⟨k,rfl,_⟩;exact .inl ⟨_,_,_,rfl⟩;exact .inr ⟨k,_,rfl,m k (by simp[aA])⟩
theorem aDv(C:bD Y b w ns out n wk a bm bo f)(M:jb w ns)(Wk:sE w ns)(a0:∀k,k<L w.ac->aF (L w.aQ.ay) (gd w.ac k).aq)(aV:L w.init.sync.ay=L w.aQ.ay)(bF:L w.aQ.ay<=4)(hw:L w.ac<=16)(ho:L out+L ((aH (L w.ac)).flatMap (mu ns w))<999999900):∃r N,mS Y b w ns out ((aH (L w.ac)).flatMap (mu ns w)) n wk a bm bo f r N/\cZ aS GG DC [.p b 0 0] Y r N:=by
 have z:=M.ln
 have bG:=Wk.ln
 refine aJ7 C.le ?_
 have Z:=C.bx
 simp only[G9,dy Z,u0,u1,Z,eT,rk,aj,cT,↓uL]
 refine yV (L w.ac) (λk _ l=>∃m,bD l b w ns (out++(aH k).flatMap (mu ns w)) n wk m bm bo f/\Ad Y l b a m) ⟨a,by simpa using C,Ad.refl _ _ _⟩ ?_
 rintro k _ N hk ⟨a1,C1,A1⟩
 simp only[TO,au,aI,u0,u1,di,TN,ix,rk,bh,↓uL]
 refine⟨λh=>⟨bA h,?_⟩,λh=>?_⟩
 ·have o:=aL h
  have l1:=fU (f:=mu ns w) (show k+1<=L w.ac from o)
  rw[cr,bq] at l1
  refine cV C1.le λv Y2 F2 N2 b2=>?_
  refine cy (y:=7) (cs:=aP.c (gd w.ac k)) b2 rfl rfl (by decide) λO F3 b3=>?_
  have aG:box O (3,v)=V ⟨59,7,U,U,[aP.c (gd w.ac k)]⟩:=b3
  have aa:Fx N O []:=F2.tn F3 N2.no
  have A:=C1.fx aa
  have A3:=A1.fxn aa
  have E:∀s X,bD s b w ns (out++(aH k).flatMap (mu ns w)++mu ns w k) n wk X bm bo f->Ad Y s b a X->Hb [iv k] (yI (α:=Unit) (λ_ i=>[iv i]) (L w.ac) λk _ l=>∃m,bD l b w ns (out++(aH k).flatMap (mu ns w)) n wk m bm bo f/\Ad Y l b a m) (gM 0 (L w.ac)) N [] s:=by
   intro s X B S
   simp only[Hb,aI,au,cS,aY,↓uL]
   refine yU o ⟨X,?_,S⟩
   rw[cr,<-cC]
   exact B
  simp only[TD,u0,u1,aG,rk,aj,au,↓uL]
  refine⟨λh1=>?_,λh1=>?_⟩
  ·refine E O a1 ?_ A3
   rw[mu,if_neg (λh=>of_decide_eq_true h1 h.1),cL]
   exact A
  have af:(gd w.ac k).kind=17:=by have:=of_decide_eq_false h1;omega
  refine anB A (by omega) (dJ o) (by rw[bh,aV];exact a0 _ o) (by omega) λv' a2=>?_
  simp only[TC,oJ,pG,aY,u0,u1,au,↓uL]
  refine⟨λh2=>?_,λh2=>?_⟩
  ·refine E O a1 ?_ A3
   have F:(e9 w k).2=I:=by simpa using h2
   rw[mu,if_neg (λh=>by rw[F] at h;cases h.2),cL]
   exact A
  have F:(e9 w k).2=U:=by simpa using h2
  obtain rfl:=a2 F
  generalize a3:(e9 w (k:Int)).1=g at*
  have ag:mu ns w k=(-lE ns k::gO ns (aR ns 5) g)::(aH (L (aR ns 5))).flatMap (iO ns k g (aR ns 5)):=by rw[mu,if_pos ⟨af,F⟩,a3]
  rw[ag,bZ] at l1
  rw[ag] at E
  refine gq A z (M.ex _ (dJ o)) ?_
  simp only[TB,de z,aY,f7,bQ,↓uL]
  refine anC A z _ λt=>?_
  simp only[TL,↓uL]
  have bH:L (gO ns (aR ns 5) g)<=1000:=by
   have:=fZ (λx:ap=>Q (x.b=g)) (aR ns 5)
   have:=Wk.ln
   simp only[gO,bJ];omega
  refine qs (rows:=[-lE ns k].map ci) (.inl ⟨U,rfl⟩) rfl (by decide) (by rw[A.le];decide) fF fF (by simp only[bJ,bZ,bO];omega) λx4 Y4 g4 F4 aT=>?_
  rw[<-dg] at g4
  have ab:Fx O Y4 []:=F4.mono (by simp[aA])
  have C4:=A.fx ab
  simp only[TK,↓uL]
  refine Ea C4 (by simp only[bq];omega) _ g4 (by simp;omega) (λq hq=>by
   rcases aT q hq with h|h
   ·simp[aA] at h
   ·rw[h.2];decide) λa5 Y5 T A5=>?_
  have ae:=T.bx
  simp only[TJ,dy ae,u0,u1,ae,eT,aj,ke T.gw,bJ,↓uL]
  have aB:Ad Y Y5 b a a5:=(A3.fxn ab).trans A5
  rw[show[-lE ns k]++gO ns (aR ns 5) g= -lE ns k::gO ns (aR ns 5) g from rfl] at T
  refine yV (L (aR ns 5)) (λj _ l=>∃m,bD l b w ns (out++(aH k).flatMap (mu ns w)++[-lE ns k::gO ns (aR ns 5) g]++(aH j).flatMap (iO ns k g (aR ns 5))) n wk m bm bo f/\Ad Y l b a m) ⟨a5,by simpa using T,aB⟩ ?_
  rintro j _ Y6 hj ⟨a6,W,A6⟩
  have l6:=fU (f:=iO ns k g (aR ns 5)) hj
  simp only[TP,au,aI,u0,u1,di,TM,↓uL]
  refine⟨λh3=>?_,λh3=>?_⟩
  ·have u:=aL h3
   have R:=fU (f:=iO ns k g (aR ns 5)) (show j+1<=L (aR ns 5) from u)
   rw[cr,bq] at R
   obtain⟨o1,o2,o3⟩:=Wk.ok _ (dB u)
   have aU:gd (aR ns 5) j∈ns:=(jW.1 (dB u)).1
   rw[qB W.gw u]
   refine cV W.le λv7 Y7 F7 N7 d7=>?_
   refine cy (cs:=ap.c (gd (aR ns 5) j)) d7 rfl rfl (by decide) λs F8 d8=>?_
   have P:box s (7,v7)=V ⟨66,3,U,U,[ap.c (gd (aR ns 5) j)]⟩:=d8
   have ad:Fx Y6 s []:=F7.tn F8 N7.no
   have B:=W.fx ad
   have S:=A6.fxn ad
   have a7:aN (V 3) (ap.c (gd (aR ns 5) j))=V (.a (ap.c (gd (aR ns 5) j))):=rfl
   have D:∀G H,bD G b w ns (out++(aH k).flatMap (mu ns w)++[-lE ns k::gO ns (aR ns 5) g]++(aH j).flatMap (iO ns k g (aR ns 5))++iO ns k g (aR ns 5) j) n wk H bm bo f->Ad Y G b a H->Ha [iv j] (yI (α:=Unit) (λ_ i=>[iv i]) (L (aR ns 5)) λj _ l=>∃m,bD l b w ns (out++(aH k).flatMap (mu ns w)++[-lE ns k::gO ns (aR ns 5) g]++(aH j).flatMap (iO ns k g (aR ns 5))) n wk m bm bo f/\Ad Y l b a m) (gM 0 (L (aR ns 5))) Y6 [] G:=by
    intro G H C9 A9
    simp only[Ha,aI,au,cS,aY,↓uL]
    refine yU u ⟨H,?_,A9⟩
    rw[cr,<-cC]
    exact C9
   simp only[TI,u0,u1,P,rk,aj,au,↓uL]
   refine⟨λh4=>?_,λh4=>?_⟩
   ·have aK:=of_decide_eq_true h4
    have aO:iO ns k g (aR ns 5) j=[[-lE ns k,-dP ns (gd (aR ns 5) j),lB ns (gd (aR ns 5) j).a k]]:=by rw[iO,if_pos aK]
    rw[aO] at R D
    simp only[bZ,bO] at R
    have aM:(gd (aR ns 5) j).a≠(k:Int):=by
     intro e
     rw[e,bh] at o2
     simp[pN,af] at o2
    refine gq B z (M.ex _ (dJ o)) ?_
    simp only[TH,de z,aY,u0,u1,P,a7,aj,↓uL]
    refine lq B z aU ?_
    simp only[TG,de z,aY,u0,u1,P,rk,aj,au,↓uL]
    refine kg B z (M.bf _ _ o1 (dJ o) aM) ?_
    simp only[TF,xA,bQ,TE,↓uL]
    refine gc B (by simp only[bq,bZ,bO];omega) [_,_,_] (by simp) λH G C9 A9=>?_
    simp only[TA,↓uL]
    refine dT ?_ (D G H C9 (S.trans A9))
    obtain⟨bB,bC⟩:=b
    have:=C.sb
    simp only at this
    subst this
    simp[eL,lb,cq,cD,dC,dK]
   ·refine D s a6 ?_ S
    rw[iO,if_neg (of_decide_eq_false h4),cL]
    exact B
  ·refine E Y6 a6 ?_ A6
   have aX:j=L (aR ns 5):=bP hj (bw h3)
   subst aX
   simpa using W
 ·have aZ:k=L w.ac:=bP hk (bw h)
  subst aZ
  exact⟨a1,rfl,C1,A1⟩
theorem alf{e:TypeId}{z by' d:Nat}{zs:List AV}{s x:AV}{c:TypeId}{rows:List (List AV)}(h:gA Y c z x rows):bS e zs by' Y d s x=bS e zs by' Y d s (.l rows U U):=by have:gL Y x=gL Y (.l rows U U):=(by rcases h with⟨o,rfl⟩|⟨k,rfl,g⟩;rfl;simp[gL,g]);unfold bS;rw[this]
theorem alV{x y:ap}:eu .eql 2 [(0,0),(1,0),(2,0)] (.a (ap.c x)) (.a (ap.c y))=V (bv (Q (x=y))):=by obtain⟨a,b,c⟩:=x;obtain⟨e,g,h⟩:=y;by_cases i:a=e<;>by_cases j:b=g<;>by_cases k:c=h<;>simp[eu,nW,sS,ap.c,i,j,k]
def j8(w:am)(x y:ap):Bool:=Q (y=x)||(Q (y.a=x.a)&&Q ((gd w.ac x.a.toNat).kind=18))
def eZ(x y:ap):Bool:=Q (y.b=x.b)&&Q (y.a≠x.a)
def jd(ns:List ap)(x:ap):List Int:= -lE ns x.a::(if 0<=x.b then[-lE ns x.b,-lB ns x.b x.a] else[])
def kZ(ns:List ap)(w:am)(l:List ap)(x:ap):List Int:=jd ns x++(l.filter (j8 w x)).map (dP ns)
def pB(ns:List ap)(w:am)(l:List ap)(x:ap)(j:Nat):List (List Int):=[kZ ns w l x++[-dP ns (gd (l.filter (eZ x)) j),lB ns (gd (l.filter (eZ x)) j).a x.a]]
def qw(ns:List ap)(w:am)(x:ap):List (List Int):=(kZ ns w (aR ns 5) x++((aR ns 5).filter (eZ x)).map (dP ns))::(aH (L ((aR ns 5).filter (eZ x)))).flatMap (pB ns w (aR ns 5) x)
theorem bc.t{e:TypeId}{z:Nat}{x:AV}{rows:List (List AV)}(h:bc Y e z x rows):gA Y e z x rows:=by rcases h with⟨rfl,rfl⟩|h;exact .inl ⟨U,rfl⟩;exact .inr h
theorem pH{α:Type}[Inhabited α]{p:α->Bool}{l:List α}{k:Nat}(h:k<L l):(l.take (k+1)).filter p=(l.take k).filter p++if p (gd l k)=U then[gd l k] else[]:=by rw[iJ h,List.filter_append,bT h];congr 1;cases c:p l[k]<;>simp[c]
theorem aDx(C:bD Y b w ns out n wk a bm bo f)(M:jb w ns)(Wk:sE w ns)(hw:L w.ac<=16){x:ap}(hx:x∈aR ns 5)(ho:L out+L (qw ns w x)<999999900):∃r1 Y1,mS Y b w ns out (qw ns w x) n wk a bm bo f r1 Y1/\cZ aS GG DD [.p b 0 0, .a (ap.c x)] Y r1 Y1:=by
 have G:=M.ln
 have ec:=Wk.ln
 obtain⟨x1,x2,x3⟩:=Wk.ok x hx
 refine aJ9 C.le rfl λs2 v3 K2 ee nf b3=>?_
 have F2:Fx Y s2 []:=K2.fx []
 have X:=C.fx F2
 simp only[Hd,u0,u1,b3,rk,aj,↓uL]
 refine gq X G (M.ex _ x1) ?_
 simp only[TZ,de G,aY,f7,bQ,TY,↓uL]
 refine mG (λvs t=>∃y0,vs=[y0]/\gA t 3 1 y0 ((jd ns x).map ci)/\Fx s2 t []/\∀q∈aA y0,bK s2 q/\q.1=37) (λm hJ=>?_) ?_
 ·simp only[Vc,u0,u1,b3,rk,aj,↓uL]
  refine⟨λh=>?_,λh=>hJ _ _ ⟨_,rfl, .inl ⟨U,by rw[jd,if_neg (of_decide_eq_false h)]⟩,Fx.refl _ _,by simp[aA]⟩⟩
  have h0:=of_decide_eq_true h
  obtain⟨bL,cY⟩:=x3 h0
  refine gq X G (M.ex _ bL) ?_
  simp only[TX,de G,aY,u0,u1,b3,rk,aj,↓uL]
  refine kg X G (M.bf _ _ bL x1 cY) ?_
  simp only[TW,de G,aY,fi,bQ,↓uL]
  refine qs (rows:=[-lE ns x.a].map ci) (.inl ⟨U,rfl⟩) rfl (by decide) (by rw[X.le];decide) fF fF (by simp) λy4 Y4 g4 F4 c1=>?_
  rw[<-dg] at g4
  simp only[TV,↓uL]
  refine dT rfl (hJ _ _ ⟨y4,rfl,?_,F4.mono (by simp[aA]),λq r=>?_⟩)
  ·rw[jd,if_pos h0];exact g4
  ·rcases c1 q r with h|h
   ·simp[aA] at h
   ·exact h
 ·rintro vs Y1 ⟨y0,rfl,g0,F1,P0⟩
  have C1:=X.fx F1
  have bt:=C1.bx
  have d2:=F1.kq b3
  have c0:=C1.gw
  have am:∀y∈aR ns 5,y∈ns:=λy hy=>(jW.1 hy).1
  simp only[T9,aI,au,dy bt,u0,u1,bt,eT,aj,ke c0,bJ,↓uL]
  refine jD (α:=AV×AV) (λa i=>[a.1,a.2,iv i]) 2 (L (aR ns 5)) (λk a t=>gA t 3 1 a.1 ((jd ns x++(((aR ns 5).take k).filter (j8 w x)).map (dP ns)).map ci)/\bc t 66 3 a.2 ((((aR ns 5).take k).filter (eZ x)).map ap.c)/\Fx s2 t []/\(∀q∈aA a.1,bK s2 q/\(q.1=37\/q.1=75))/\∀q∈aA a.2,bK s2 q/\q.1=91) (s0:=(y0, .l [] U U)) ⟨by simpa using g0,bc.nil,F1,λq r=>⟨(P0 q r).1, .inl (P0 q r).2⟩,by simp[aA]⟩ ?_
  rintro k ⟨y,o⟩ Y2 hk ⟨gy,go,ar,Py,R⟩
  simp only at gy go Py R
  have C2:=X.fx ar
  simp only[Vf,au,ck,nr,aI,u0,u1,di,Va,↓uL]
  refine⟨λh=>?_,λh=>?_⟩
  ·have D:=aL h
   rw[qB C2.gw D]
   refine cV C2.le λv7 Y3 F3 N3 d3=>?_
   refine cy (cs:=ap.c (gd (aR ns 5) k)) d3 rfl rfl (by decide) λY4 F4 d4=>?_
   have bA:box Y4 (7,v7)=V ⟨66,3,U,U,[ap.c (gd (aR ns 5) k)]⟩:=d4
   have aQ:Fx Y2 Y4 []:=F3.tn F4 N3.no
   have av:=ar.trans aQ
   have C4:=X.fx av
   have bu:=C4.bx
   have br:=av.kq b3
   have da:aN (V 3) (ap.c x)=V (.a (ap.c x)):=rfl
   have bU:aN (V 3) (ap.c (gd (aR ns 5) k))=V (.a (ap.c (gd (aR ns 5) k))):=rfl
   have bH:=gy.fx aQ (by simp)
   have cR:=go.fx aQ (by simp)
   have eb:L ((jd ns x++(((aR ns 5).take k).filter (j8 w x)).map (dP ns)))<=3+k:=by
    have u:=fZ (j8 w x) ((aR ns 5).take k)
    simp only[gC] at u
    have B:L (jd ns x)<=3:=by unfold jd;split<;>simp
    simp only[bq,bJ];omega
   have ea:L (((aR ns 5).take k).filter (eZ x))<=k:=by
    have u:=fZ (eZ x) ((aR ns 5).take k)
    simp only[gC] at u;omega
   simp only[T0,di,↓uL]
   refine mG (λvs t=>∃y',vs=[y']/\gA t 3 1 y' ((jd ns x++(((aR ns 5).take (k+1)).filter (j8 w x)).map (dP ns)).map ci)/\Fx Y4 t (aA y)/\∀q∈aA y',bK s2 q/\(q.1=37\/q.1=75)) (λm hJ=>?_) ?_
   ·simp+contextual only[Vb,u0,u1,bA,br,da,bU,rk,ix,alV,dy bu,bu,eT,aj,au,ck,nr,↓uL]
    refine⟨λ_ _=>x1,λS=>?_,λS=>?_⟩
    ·refine lq C4 G (am _ (dB D)) ?_
     simp only[TQ,f7,bQ,au,↓uL]
     refine qs bH rfl (by decide) (by rw[C4.le];decide) fF fF (by simp only[bJ,bZ,bO];omega) λy5 Y5 g5 F5 c2=>hJ _ _ ⟨y5,rfl,?_,F5,λq r=>?_⟩
     ·rw[pH D,if_pos (show j8 w x (gd (aR ns 5) k)=U from S)]
      simpa using g5
     ·rcases c2 q r with H|H
      ·exact Py q H
      ·exact⟨H.1.old av, .inr H.2⟩
    ·refine hJ _ _ ⟨y,rfl,?_,Fx.refl _ _,Py⟩
     rw[pH D,if_neg (show¬j8 w x (gd (aR ns 5) k)=U fromλH=>by rw[show j8 w x (gd (aR ns 5) k)=I from S] at H;cases H),cL]
     exact bH
   ·rintro vs Y5 ⟨y',rfl,bI,F5,aU⟩
    have a8:∀{q:Id},q.1≠37->q.1≠75->q∉aA y:=λu B r=>(Py _ r).2.elim u B
    have d5:=F5.keep _ _ (a8 (by simp) (by simp)) bA
    have cH:=F5.keep _ _ (a8 (by simp) (by simp)) br
    have bF:=cR.fx F5 (λq r=>a8 (by rw[(R q r).2];decide) (by rw[(R q r).2];decide))
    have aw:Fx s2 Y5 []:=(av.trans F5).mono (by simp only[dW];exactλq r=> .inr (Py q r).1.no)
    simp+contextual only[T8,aI,u0,u1,d5,cH,bU,rk,aj,au,ck,nr,Db,bQ,↓uL]
    have d8:(Q ((gd (aR ns 5) k).b=x.b)&&Q ((gd (aR ns 5) k).a≠x.a))=eZ x (gd (aR ns 5) k):=rfl
    refine⟨λS=>?_,λS=>?_⟩
    ·refine gD bF rfl (by decide) (by rw[aw.len,X.le];decide) uT uT (by simp only[bJ,bZ,bO];omega) λo6 Y6 g6 F6 c3 c7=>?_
     simp only[He,aI,au,ck,nr,cS,aY,↓uL]
     refine dR (p:=2) (mk:=λ(a:AV×AV) i=>[a.1,a.2,iv i]) (s:=(y,o)) (s':=(y',o6)) (λ_ _=>rfl) D (by omega) ⟨bI.fx F6 λq r af=>?_,?_,(aw.trans F6).mono (by simp only[dW];exactλq r=> .inr (R q r).1.no),aU,λq r=>?_⟩
     ·have u:=(R q af).2
      rcases(aU q r).2 with B|B<;>(rw[u] at B;simp at B)
     ·rw[pH D,if_pos (show eZ x (gd (aR ns 5) k)=U from S),dg];exact g6
     ·refine⟨?_,(c7 q r).elim (λh=>(R q h).2) id⟩
      rcases c3 q r with h|h
      ·exact(R q h).1
      ·exact h.old aw
    ·simp only[He,aI,au,ck,nr,cS,aY,↓uL]
     refine dR (p:=2) (mk:=λ(a:AV×AV) i=>[a.1,a.2,iv i]) (s:=(y,o)) (s':=(y',o)) (λ_ _=>rfl) D (by omega) ⟨bI,?_,aw,aU,R⟩
     rw[pH D,if_neg (show¬eZ x (gd (aR ns 5) k)=U fromλH=>by rw[show eZ x (gd (aR ns 5) k)=I from S] at H;cases H),cL];exact bF
  ·have c5:k=L (aR ns 5):=bP hk (bw h)
   subst c5
   rw[gV] at gy go
   rw[show jd ns x++((aR ns 5).filter (j8 w x)).map (dP ns)=kZ ns w (aR ns 5) x from rfl] at gy
   have a5:∀v∈(aR ns 5).filter (eZ x),v∈aR ns 5/\eZ x v=U:=λv hv=>jW.1 hv
   have d6:L (kZ ns w (aR ns 5) x)<=1003:=by
    have u:=fZ (j8 w x) (aR ns 5)
    have B:L (jd ns x)<=3:=by unfold jd;split<;>simp
    simp only[kZ,bq,bJ];omega
   have d7:L ((aR ns 5).filter (eZ x))<=1000:=by
    have u:=fZ (eZ x) (aR ns 5);omega
   have bS:qw ns w x=(kZ ns w (aR ns 5) x++((aR ns 5).filter (eZ x)).map (dP ns))::(aH (L ((aR ns 5).filter (eZ x)))).flatMap (pB ns w (aR ns 5) x):=rfl
   have bR:∀j,pB ns w (aR ns 5) x j=[kZ ns w (aR ns 5) x++[-dP ns (gd ((aR ns 5).filter (eZ x)) j),lB ns (gd ((aR ns 5).filter (eZ x)) j).a x.a]]:=λ_=>rfl
   rw[bS,bZ] at ho
   generalize hL:kZ ns w (aR ns 5) x=Lw at*
   generalize hO:(aR ns 5).filter (eZ x)=O at*
   simp only[nS,bQ]
   rw[alf gy]
   refine qs (rows:=[]) (.inl ⟨U,rfl⟩) rfl (by decide) (by rw[C2.le];decide) (by simp) fF (by simp;omega) λz7 Y7 g7 F7 c4=>?_
   rw[dW] at g7
   have bn:Fx Y2 Y7 []:=F7.mono (by simp[aA])
   simp only[TU,au,ck,u0,ke (go.fx bn (by simp)),bJ,↓uL]
   refine jD (α:=AV) (λa i=>[a,iv i]) 1 (L O) (λj z t=>gA t 3 1 z ((Lw++(O.take j).map (dP ns)).map ci)/\Fx Y2 t []/\∀q∈aA z,bK Y2 q/\(q.1=95\/q.1=107)) (s0:=z7) ⟨by simpa using g7,bn,λq r=>by
    rcases c4 q r with h|h
    ·simp[aA] at h
    ·exact⟨h.1, .inl h.2⟩⟩ ?_
   rintro j z Y8 hj ⟨g8,F8,P8⟩
   have C8:=C2.fx F8
   have cT:=go.fx F8 (by simp)
   simp only[Vd,au,ck,aI,u0,u1,↓uL]
   refine⟨λB=>?_,λB=>?_⟩
   ·have ad:=aL B
    rw[qB cT ad]
    refine cV C8.le λdb Y9 F9 N9 d9=>?_
    refine cy (cs:=ap.c (gd O j)) d9 rfl rfl (by decide) λax ch cJ=>?_
    have b6:box ax (10,db)=V ⟨66,3,U,U,[ap.c (gd O j)]⟩:=cJ
    have aT:Fx Y8 ax []:=F9.tn ch N9.no
    have N:=F8.trans aT
    have bb:aN (V 3) (ap.c (gd O j))=V (.a (ap.c (gd O j))):=rfl
    simp only[T3,u0,u1,b6,bb,↓uL]
    refine lq (C2.fx N) G (am _ (a5 _ (dB ad)).1) ?_
    simp only[T2,f7,bQ,au,↓uL]
    refine qs (g8.fx aT (by simp)) rfl (by decide) (by rw[N.len,C2.le];decide) fF fF (by simp;omega) λdj cu cN aP cb=>?_
    simp only[T1,au,ck,cS,aY,↓uL]
    refine dR (p:=1) (mk:=λa i=>[a,iv i]) (s:=z) (s':=dj) (λ_ _=>rfl) ad (by omega) ⟨?_,(N.trans aP).mono (by simp only[dW];exactλq r=> .inr (P8 q r).1.no),λq r=>?_⟩
    ·rw[iJ ad,<-bT ad]
     simpa using cN
    ·rcases cb q r with h|h
     ·exact P8 q h
     ·exact⟨h.1.old N, .inr h.2⟩
   ·have a4:j=L O:=bP hj (bw B)
    subst a4
    rw[gV] at g8
    have cU:=gy.fx F8 (by simp)
    refine Ea C8 (by omega) _ g8 (by simp;omega) (λq r=>by rcases(P8 q r).2 with h|h<;>(rw[h];decide)) λa9 Y9 C9 A9=>?_
    have a6:∀q∈aA y,q.1≠18:=λq r=>by rcases(Py q r).2 with h|h<;>(rw[h];decide)
    have bM:∀{A:ae},gA A 3 1 y (Lw.map ci)->∀q∈aA y,∃bx,box A q=V bx/\bx.elem≠35:=by
     intro A g q r
     rcases g with⟨o',rfl⟩|⟨k',rfl,S⟩
     ·simp[aA] at r
     ·simp only[aA,List.mem_singleton] at r
      subst r
      exact⟨_,S,by simp⟩
    have W:∀{A Yb:ae} {aa ab:AV} {oo:List (List Int)},bD A b w ns oo n wk aa bm bo f->Ad A Yb b aa ab->gA A 3 1 y (Lw.map ci)->gA Yb 3 1 y (Lw.map ci):=by
     intro A Yb aa ab oo Ca Aa g
     refine g.fx Aa.fx λq r af=>?_
     rcases eW.1 af with h|h
     ·exact a6 q r (h▸C.sb)
     ·obtain⟨bx,u,B⟩:=bM g q r
      exact Ca.ne u (.inr B) h
    have T:∀{A Yb:ae} {aa ab:AV} {oo:List (List Int)},bD A b w ns oo n wk aa bm bo f->Ad A Yb b aa ab->bc A 66 3 o (O.map ap.c)->bc Yb 66 3 o (O.map ap.c):=by
     intro A Yb aa ab oo Ca Aa g
     refine g.fx Aa.fx λq r af=>?_
     rcases eW.1 af with h|h
     ·have u:=(R q r).2
      rw[h,C.sb] at u
      simp at u
     ·exact Ca.ne (g.ids q r) (.inr (by simp)) h
    have a3:((3,v3):Id)≠b:=by intro e;have:=C.sb;rw[<-e] at this;simp at this
    have bs:=F8.kq (ar.kq b3)
    have cI:=A9.keep bs a3 (C8.ne bs (.inl rfl))
    have ce:Ad Y Y9 b a a9:=Ad.pre ((F2.trans ar).trans F8) A9
    have bG:=T C8 A9 (go.fx F8 (by simp))
    have cW:=W C8 A9 cU
    simp only[TT,au,ck,u0,ke bG,bJ,↓uL]
    refine yV (L O) (λj _ t=>∃a',bD t b w ns (out++[Lw++O.map (dP ns)]++(aH j).flatMap (pB ns w (aR ns 5) x)) n wk a' bm bo f/\Ad Y t b a a'/\gA t 3 1 y (Lw.map ci)/\bc t 66 3 o (O.map ap.c)/\box t (3,v3)=V ⟨66,3,U,U,[ap.c x]⟩) ⟨a9,by simpa using C9,ce,cW,bG,cI⟩ ?_
    rintro j _ ax hj ⟨cB,aJ,bl,a1,a0,aW⟩
    have ed:=fU (f:=pB ns w (aR ns 5) x) hj
    simp only[Ve,au,ck,aI,u0,u1,↓uL]
    refine⟨λh3=>?_,λh3=>?_⟩
    ·have ay:=aL h3
     obtain⟨m1,m2⟩:=a5 _ (dB ay)
     obtain⟨o1,o2,o3⟩:=Wk.ok _ m1
     have c6:(gd O j).a≠x.a:=by
      simp only[eZ,bN,decide_eq_true_eq] at m2
      exact m2.2
     have a7:=fU (f:=pB ns w (aR ns 5) x) (show j+1<=L O from ay)
     rw[cr,bq,bR] at a7
     simp only[bZ,bO] at a7
     rw[qB a0 ay]
     refine cV aJ.le λdd cu aP cp cK=>?_
     refine cy (cs:=ap.c (gd O j)) cK rfl rfl (by decide) λZ cj cM=>?_
     have b7:box Z (12,dd)=V ⟨66,3,U,U,[ap.c (gd O j)]⟩:=cM
     have E:Fx ax Z []:=aP.tn cj cp.no
     have aK:=aJ.fx E
     have b9:=a1.fx E (by simp)
     have bb:aN (V 3) (ap.c (gd O j))=V (.a (ap.c (gd O j))):=rfl
     simp only[TS,nS,bQ,au,↓uL]
     rw[alf b9]
     refine qs (rows:=[]) (.inl ⟨U,rfl⟩) rfl (by decide) (by rw[aK.le];decide) (by simp) fF (by simp;omega) λdk cv bB cl cc=>?_
     rw[dW] at bB
     have P:Fx Z cv []:=cl.mono (by simp[aA])
     have aM:=aK.fx P
     have bv:=P.kq b7
     have b5:=P.kq (E.kq aW)
     simp only[TR,u0,u1,bv,bb,↓uL]
     refine lq aM G (am _ m1) ?_
     simp only[T7,de G,aY,u0,u1,bv,b5,rk,aj,↓uL]
     refine kg aM G (M.bf _ _ o1 x1 c6) ?_
     simp only[T6,fi,bQ,↓uL]
     refine qs bB rfl (by decide) (by rw[aM.le];decide) fF fF (by simp;omega) λef cw bC cm cd=>?_
     rw[<-dg] at bC
     have bp:∀q∈aA dk,bK Z q/\q.1=120:=λq r=>by
      rcases cc q r with h|h
      ·simp[aA] at h
      ·exact h
     have aq:Fx Z cw []:=(P.trans cm).mono (by simp only[dW];exactλq r=> .inr (bp q r).1.no)
     have ao:=aK.fx aq
     have F:=E.trans aq
     simp only[T5,↓uL]
     refine Ea ao (by simp only[bq,bZ,bO];omega) _ bC (by simp;omega) (λq r=>by
      rcases cd q r with h|h
      ·rw[(bp q h).2];decide
      ·rw[h.2];decide) λcF dZ cg an=>?_
     simp only[T4,↓uL]
     refine dT ?_ ?_
     ·have:=C.sb
      clear a3 a6 W T bM
      obtain⟨d0,d1⟩:=b
      simp only at this
      subst this
      simp[eL,lb,cq,cD,dC,dK]
     ·have aX:=F.kq aW
      simp only[au,cS,aY,↓uL]
      refine dR (p:=0) (mk:=λ_ i=>[iv i]) (s:=()) (s':=()) (λ_ _=>rfl) ay (by omega) ⟨cF,?_,(bl.fxn F).trans an,W ao an (a1.fx F (by simp)),T ao an (a0.fx F (by simp)),an.keep aX a3 (ao.ne aX (.inl rfl))⟩
      rw[cr,bR,<-cC]
      exact cg
    ·have a4:j=L O:=bP hj (bw h3)
     subst a4
     simp only[bz,ew]
     refine⟨cB,rfl,?_,bl⟩
     rw[bS]
     simpa using aJ
end
def apw:dO:=apv
theorem wS:eJ apw:=tB
def amn:=@aBo
abbrev oj:List AV:=[(iv 0),(iv 0),(iv 0),(bv I)]
def asW:=bi 44 [(2,([19],[0,17,18])),(5,([],[0,17,18,19])),(12,([67],[0,65,66])),(18,([80],[0,5,65,66,67,78,79])),(21,([],[0,5,65,66,67,78,79,80])),(26,([107],[0,105,106])),(32,([120],[0,9,105,106,107,118,119])),(35,([],[0,9,105,106,107,118,119,120])),(39,([160],[0,158,159]))]
def HB vs5(c:aG)(b:bu) s6(d:eQ) s9:=∀_:Rg,aV (gt vs5 0) (iv 1) λa=>c [a] s9/\b [a] s9<b vs5 s6
def Ws x_13 s42 t44 t47 t49 s45 t46 t51 s54(a:aG)(b:AV) s56:=dH [lzz,lzz,(lz x_13),(cq U s42),(lz t44),lzz,(lz x_13),(lz t47),(lz x_13),(lz t49),(cq U s45),(lb I [t46,t51] []),(cq I s54)] [(0,3),(3,5),(3,6),(3,7),(3,8),(3,9),(0,10),(4,10),(0,11)] (a [] s56)
def WD a0 x_13 s42 t44 t47 t49 s45 t46 t51 J8 t53 s54:=cB eS [a0,t53] s54 60 (Ws x_13 s42 t44 t47 t49 s45 t46 t51 s54 J8)
def WM t46 a0 x_13 s42 t44 t47 t49 s45 J8 t51 s52:=eV (aX bH 2 s52 [(0,t46),(1,t51)]) (WD a0 x_13 s42 t44 t47 t49 s45 t46 t51 J8)
def WN x_13 a0 s42 J8 t44 s45:=rV (cR .neg t44) λc=>aB 2 s45 x_13 λa=>aM s45 a λd=>aB 1 s45 x_13 λb=>aM s45 b λe=>cB je [a0,d,e] s45 58 (WM c a0 x_13 s42 t44 a b s45 J8)
def WO x_13 s27 t32 t35 s33 t34 t37 s40 a0 J8(b:AV) s42:=dH [lzz,lzz,(lz x_13),(cq U s27),(lz t32),lzz,(lz x_13),(lz t35),(cq U s33),(lb I [t34,t37] []),(cq I s40)] [(0,3),(3,5),(3,6),(3,7),(0,8),(4,8),(0,9)] (aw 3 s42 x_13 λa=>cB jB [a0,a] s42 51 (WN x_13 a0 s42 J8))
def WP a0 x_13 s27 t32 t35 s33 t34 t37 J8 t39 s40:=cB eS [a0,t39] s40 47 (WO x_13 s27 t32 t35 s33 t34 t37 s40 a0 J8)
def WQ t34 a0 x_13 s27 t32 t35 s33 J8 t37 s38:=eV (aX bH 2 s38 [(0,t34),(1,t37)]) (WP a0 x_13 s27 t32 t35 s33 t34 t37 J8)
def WR x_13 a0 s27 J8 t32 s33:=rV (cR .neg t32) λb=>aB 2 s33 x_13 λa=>aM s33 a λc=>cB fL [a0,c] s33 45 (WQ b a0 x_13 s27 t32 a s33 J8)
def WS x_13 s15 t17 t20 s18 t19 t22 s25 a0(a:aG)(e:AV) s27:=dH [lzz,lzz,(lz x_13),(cq U s15),(lz t17),lzz,(lz x_13),(lz t20),(cq U s18),(lb I [t19,t22] []),(cq I s25)] [(0,3),(3,5),(3,6),(3,7),(0,8),(4,8),(0,9)] (ag 2 s27 x_13 λb=>aO .geq b (iv 0) λc=>ah c (aw 3 s27 x_13 λd=>cB jB [a0,d] s27 40 (WR x_13 a0 s27 a)) (a [] s27))
def Wt a0 x_13 s15 t17 t20 s18 t19 t22 J8 t24 s25:=cB eS [a0,t24] s25 33 (WS x_13 s15 t17 t20 s18 t19 t22 s25 a0 J8)
def Wu t19 a0 x_13 s15 t17 t20 s18 J8 t22 s23:=eV (aX bH 2 s23 [(0,t19),(1,t22)]) (Wt a0 x_13 s15 t17 t20 s18 t19 t22 J8)
def Wv x_13 a0 s15 J8 t17 s18:=rV (cR .neg t17) λb=>aB 1 s18 x_13 λa=>aM s18 a λc=>cB fL [a0,c] s18 31 (Wu b a0 x_13 s15 t17 a s18 J8)
def Ww x_13 a0 J8 s15:=aw 3 s15 x_13 λa=>cB jB [a0,a] s15 26 (Wv x_13 a0 s15 J8)
def WW s6 t3 vs5 a0 J8:=ao 3 s6 t3 (gt vs5 0) λc=>aw 3 s6 c λd=>eV (bs 66 dM s6 3) λa b=>sV (aK 3 b a d) (Ww a a0 J8)
def Hz vs75(c:aG)(a:bu) s76(d:eQ) s79:=∀_:Rg,aV (gt vs75 0) (iv 1) λb=>c [b] s79/\a [b] s79<a vs75 s76
def Wx x_66 s85 t92 y_83 s93 t96 t94 t98 s100(a:aG)(b:AV) s102:=dH [lzz,lzz,(lz x_66),(cq U s85),(lz t92),lzz,(lz y_83),(cq U s93),(lz t96),(lb I [t94,t98] []),(cq I s100)] [(0,3),(3,5),(3,6),(0,7),(4,7),(0,9)] (a [] s102)
def Wy a0 x_66 s85 t92 y_83 s93 t96 t94 t98 J78 t99 s100:=cB eS [a0,t99] s100 99 (Wx x_66 s85 t92 y_83 s93 t96 t94 t98 s100 J78)
def Wz t94 a0 x_66 s85 t92 y_83 s93 J78 t96 s97:=rV (cR .neg t96) λa=>eV (aX bH 2 s97 [(0,t94),(1,a)]) (Wy a0 x_66 s85 t92 y_83 s93 t96 t94 a J78)
def WA y_83 a0 x_66 s85 J78 t92 s93:=rV (cR .neg t92) λa=>aw 3 s93 y_83 λb=>cB jB [a0,b] s93 96 (Wz a a0 x_66 s85 t92 y_83 s93 J78)
def WB x_66 y_83 a0(a:aG) s85:=ag 2 s85 x_66 λb=>ag 2 s85 y_83 λc=>al b c λd=>ah d (aw 3 s85 x_66 λe=>cB jB [a0,e] s85 92 (WA y_83 a0 x_66 s85 a)) (a [] s85)
def WT s76 t73 vs75 x_66 a0 J78:=ao 3 s76 t73 (gt vs75 0) λc=>aw 3 s76 c λd=>eV (bs 66 dM s76 7) λa b=>sV (aK 3 b a d) (WB x_66 a a0 J78)
def WY t74 t73 x_66 a0 vs61(c:aG)(b:bu) s62 I75 m75 vs75 s76:=∀_:Rg,aU (gt vs75 0) t74 λd=>ah d (jV 21 (Hz vs75 I75 m75 s76) (WT s76 t73 vs75 x_66 a0)) (aV (gt vs61 0) (iv 1) λa=>c [a] s76/\b [a] s76<b vs61 s62)
def WC a0 vs61 x_66 I61 m61 s62 s68:=rV (cO s68 a0) λb=>ag 17 s68 b λc=>aV (gt vs61 0) (iv 1) λd=>rV (fo 3 s68 c (V d) J J) λa=>aJ s68 a λe=>lV [(iv 0)] s68 (WY e a x_66 a0 vs61 I61 m61 s62)
def HA vs122(c:aG)(a:bu) s123(d:eQ) s126:=∀_:Rg,aV (gt vs122 0) (iv 1) λb=>c [b] s126/\a [b] s126<a vs122 s123
def WE x_113 s132 t172 y_130 s173 t176 t174 t178 s180(a:aG)(b:AV) s182:=dH [lzz,lzz,(lz x_113),(cq U s132),(lz t172),lzz,(lz y_130),(cq U s173),(lz t176),(lb I [t174,t178] []),(cq I s180)] [(0,3),(3,5),(3,6),(0,7),(4,7),(0,9)] (a [] s182)
def WF a0 x_113 s132 t172 y_130 s173 t176 t174 t178 J125 t179 s180:=cB eS [a0,t179] s180 152 (WE x_113 s132 t172 y_130 s173 t176 t174 t178 s180 J125)
def WG t174 a0 x_113 s132 t172 y_130 s173 J125 t176 s177:=rV (cR .neg t176) λa=>eV (aX bH 2 s177 [(0,t174),(1,a)]) (WF a0 x_113 s132 t172 y_130 s173 t176 t174 a J125)
def WH y_130 a0 x_113 s132 J125 t172 s173:=rV (cR .neg t172) λa=>aw 3 s173 y_130 λb=>cB jB [a0,b] s173 149 (WG a a0 x_113 s132 t172 y_130 s173 J125)
def WI x_113 y_130 a0(b:aG) s132:=ag 1 s132 x_113 λc=>ag 1 s132 y_130 λd=>al c d λa=>bB a a0 λe=>az a (rV (cO s132 e)) λf=>az a (aB 0 s132 f) λg=>aT a 14 s132 g λh=>aT a 1 s132 x_113 λi=>az a (ao 7 s132 h i) λj=>aT a 1 s132 j λk=>az a (al k (iv 18)) λl=>aD a l (bv I) λm=>ah m (aw 3 s132 x_113 λn=>cB jB [a0,n] s132 145 (WH y_130 a0 x_113 s132 b)) (b [] s132)
def WU s123 t120 vs122 x_113 a0 J125:=ao 3 s123 t120 (gt vs122 0) λc=>aw 3 s123 c λd=>eV (bs 66 dM s123 11) λa b=>sV (aK 3 b a d) (WI x_113 a a0 J125)
def W1 t121 t120 x_113 a0 vs108(c:aG)(a:bu) s109 I122 m122 vs122 s123:=∀_:Rg,aU (gt vs122 0) t121 λd=>ah d (jV 35 (HA vs122 I122 m122 s123) (WU s123 t120 vs122 x_113 a0)) (aV (gt vs108 0) (iv 1) λb=>c [b] s123/\a [b] s123<a vs108 s109)
def WJ a0 vs108 x_113 I108 m108 s109 s115:=rV (cO s115 a0) λb=>ag 17 s115 b λc=>aV (gt vs108 0) (iv 1) λd=>rV (fo 3 s115 c (V d) J J) λa=>aJ s115 a λe=>lV [(iv 0)] s115 (W1 e a x_113 a0 vs108 I108 m108 s109)
def WK vs188(c:aG)(a:bu) s189(d:AV) s198:=aV (gt vs188 0) (iv 1) λb=>c [b] s198/\a [b] s198<a vs188 s189
def WL x_193 a0 vs188 I188 m188 s189 s195:=aw 3 s195 x_193 λa=>cB DD [a0,a] s195 166 (WK vs188 I188 m188 s189)
def W2 t187 t186 a0 R I188 m188 vs188 s189:=∀_:Rg,aU (gt vs188 0) t187 λc=>ah c (ao 3 s189 t186 (gt vs188 0) λd=>aw 3 s189 d λe=>eV (bs 66 dM s189 13) λa b=>sV (aK 3 b a e) (WL a a0 vs188 I188 m188 s189)) (bz R s189 [])
def W0 t107 t106 a0 R I108 m108 vs108 s109:=∀_:Rg,aU (gt vs108 0) t107 λd=>ah d (ao 3 s109 t106 (gt vs108 0) λe=>aw 3 s109 e λf=>eV (bs 66 dM s109 9) λa c=>sV (aK 3 c a f) (WJ a0 vs108 a I108 m108 s109)) (rV (cO s109 a0) λg=>ag 17 s109 g λb=>aJ s109 b λh=>lV [(iv 0)] s109 (W2 h b a0 R))
def WX t60 t59 a0 R I61 m61 vs61 s62:=∀_:Rg,aU (gt vs61 0) t60 λf=>ah f (ao 3 s62 t59 (gt vs61 0) λg=>aw 3 s62 g λh=>eV (bs 66 dM s62 5) λb e=>sV (aK 3 e b h) (WC a0 vs61 b I61 m61 s62)) (rV (cO s62 a0) λc=>ag 17 s62 c λa=>aJ s62 a λd=>lV [(iv 0)] s62 (W0 d a a0 R))
def WZ t4 t3 a0 R I5 m5 vs5 s6:=∀_:Rg,aU (gt vs5 0) t4 λd=>ah d (jV 5 (HB vs5 I5 m5 s6) (WW s6 t3 vs5 a0)) (rV (cO s6 a0) λb=>ag 17 s6 b λa=>aJ s6 a λc=>lV [(iv 0)] s6 (WX c a a0 R))
def Hy a0 s0 R:=rV (cO s0 a0) λt1=>ag 17 s0 t1 λt3=>aJ s0 t3 λt4=>lV [(iv 0)] s0 (WZ t4 t3 a0 R)
theorem aI9{a:AV}{s0:ae}{R:be}(h:Hy a s0 R):EB DE [a] s0 R:=zB asW wS Tryz.func81 h
theorem aKn{a:AV}{s0:ae}{R:be}(hs:L s0=4096)(h:Hy a s0 R):EB DE [a] s0 R:=by refine aI9 ?_;exact h
def asL:=bi 18 [(1,([10],[0,1,8,9])),(7,([20],[0,1,5,8,9,10,18,19])),(10,([],[0,1,5,8,9,10,18,19,20]))]
def Hi vs13(c:aG)(a:bu) s14(d:eQ) s17:=∀_:Rg,aV (gt vs13 0) (iv 1) λb=>c [b] s17/\a [b] s17<a vs13 s14
def VD q_21 p_7 a0(a:aG)(e:AV) s57:=aw 4 s57 q_21 λc=>aw 4 s57 p_7 λd=>cB xN [a0,c,d] s57 51 λf b=>a [] b
def VE p_7 q_21(b:aG) a0 s23:=ag 0 s23 p_7 λe=>ag 0 s23 q_21 λf=>al e f λa=>bn a 3 s23 p_7 λg=>bG a g λc=>aT c 3 s23 q_21 λh=>aC a (aD c h (bv I)) λi=>aD a (bv U) i λj=>ah j (b [] s23) (ag 1 s23 p_7 λk=>aU k (iv 0) λl=>ah l (aw 4 s23 p_7 λm=>aw 4 s23 q_21 λn=>cB Al [a0,m,n] s23 43 λq d=>b [] d) (aw 4 s23 p_7 λo=>aw 4 s23 q_21 λp=>cB xN [a0,o,p] s23 47 (VD q_21 p_7 a0 b)))
def VG s14 t11 vs13 p_7 a0 J16:=ao 4 s14 t11 (gt vs13 0) λc=>aw 4 s14 c λd=>eV (bs 153 oj s14 7) λa b=>sV (aK 4 b a d) (VE p_7 a J16 a0)
def VI t12 t11 p_7 a0 vs2(d:aG)(b:bu) s3 I13 m13 vs13 s14:=∀_:Rg,aU (gt vs13 0) t12 λc=>ah c (jV 10 (Hi vs13 I13 m13 s14) (VG s14 t11 vs13 p_7 a0)) (aV (gt vs2 0) (iv 1) λa=>d [a] s14/\b [a] s14<b vs2 s3)
def VF vs2 a1 p_7 a0 I2 m2 s3 s9:=aV (gt vs2 0) (iv 1) λb=>rV (fo 4 s9 a1 (V b) J J) λa=>aJ s9 a λc=>lV [(iv 0)] s9 (VI c a p_7 a0 vs2 I2 m2 s3)
def VH t1 a1 a0 R I2 m2 vs2 s3:=∀_:Rg,aU (gt vs2 0) t1 λt4=>ah t4 (ao 4 s3 a1 (gt vs2 0) λc=>aw 4 s3 c λd=>eV (bs 153 oj s3 5) λa b=>sV (aK 4 b a d) (VF vs2 a1 a a0 I2 m2 s3)) (bz R s3 [])
def Hh a0 a1 s0 R:=aJ s0 a1 λt1=>lV [(iv 0)] s0 (VH t1 a1 a0 R)
theorem aIY{a a1:AV}{s0:ae}{R:be}(h:Hh a a1 s0 R):EB Ak [a,a1] s0 R:=zB asL wS Tryz.func78 h
theorem aKc{a:AV}{a1:AV}{s0:ae}{R:be}(hs:L s0=4096)(h:Hh a a1 s0 R):EB Ak [a,a1] s0 R:=by refine aIY ?_;exact h
def as7:=bi 27 [(1,([16],[0,14,15])),(4,([],[0,14,15,16])),(13,([4,5,44],[0,2,14,15,16,42,43])),(16,([4,5],[0,2,14,15,16,42,43,44])),(22,([73],[0,14,15,16,71,72]))]
def HU vs6(c:aG)(b:bu) s7(d:eQ) s10:=∀_:Rg,aV (gt vs6 0) (iv 1) λa=>c [a] s10/\b [a] s10<b vs6 s7
def HT vs38(c:aG)(a:bu) s39 vs41 s42:=∀_:Rg,aV (gt vs38 2) (iv 1) λb=>c [(gt vs41 0),(gt vs41 1),b] s42/\a [(gt vs41 0),(gt vs41 1),b] s42<a vs38 s39
def Ye vs38(a:aG) t67 t70 s71:=eV (aX bH 1 s71 [(0,t70)]) λd b=>eV (bS 3 fB 8 b 66 (gt vs38 0) d) λe c=>a [e,t67] c
def Yj n_46 a0 vs38 J41 t67 s68:=aw 3 s68 n_46 λa=>cB jB [a0,a] s68 64 (Ye vs38 J41 t67)
def Yk n_46 vs6 vs38 a0(b:aG) s48:=ag 0 s48 n_46 λd=>al d (iv 4) λa=>aT a 1 s48 n_46 λe=>bB a (gt vs6 0) λf=>az a (al e f) λg=>aD a g (bv I) λh=>ah h (aw 3 s48 n_46 λi=>eV (aX mb 1 s48 [(0,i)]) λj c=>eV (bS 66 dM 24 c 60 (gt vs38 1) j) (Yj n_46 a0 vs38 b)) (b [(gt vs38 0),(gt vs38 1)] s48)
def Yr s39 t36 vs38 vs6 a0 J41:=ao 3 s39 t36 (gt vs38 2) λc=>aw 3 s39 c λd=>eV (bs 66 dM s39 7) λa b=>sV (aK 3 b a d) (Yk a vs6 vs38 a0 J41)
def Yl vs79(c:aG)(a:bu) s80(d:AV) s89:=aV (gt vs79 0) (iv 1) λb=>c [b] s89/\a [b] s89<a vs79 s80
def Ym n_84 a0 vs79 I79 m79 s80 s86:=aw 3 s86 n_84 λa=>cB Ar [a0,a] s86 79 (Yl vs79 I79 m79 s80)
def Yv t78 vs38 a0(f:aG) I79 m79 vs79 s80:=∀_:Rg,aU (gt vs79 0) t78 λc=>ah c (ao 3 s80 (gt vs38 1) (gt vs79 0) λd=>aw 3 s80 d λe=>eV (bs 66 dM s80 9) λa b=>sV (aK 3 b a e) (Ym a a0 vs79 I79 m79 s80)) (f [] s80)
def Yn vs38 a0 J9(b:AV) s77:=aJ s77 (gt vs38 1) λa=>lV [(iv 0)] s77 (Yv a vs38 a0 J9)
def Yu t37 t36 vs6 a0 J9 I38 m38 vs38 s39:=∀_:Rg,aU (gt vs38 2) t37 λa=>ah a (jV 16 (HT vs38 I38 m38 s39) (Yr s39 t36 vs38 vs6 a0)) (cB eS [a0,(gt vs38 0)] s39 70 (Yn vs38 a0 J9))
def Yo a0 vs6 J9 t32 s33:=rV (cO s33 a0) λb=>ag 15 s33 b λa=>aJ s33 a λc=>lV [t32,(.l [] U U),(iv 0)] s33 (Yu c a vs6 a0 J9)
def Yp a0 vs6 J9 t29 s30:=rV (cR .neg t29) λa=>eV (aX bH 1 s30 [(0,a)]) (Yo a0 vs6 J9)
def Yq a0 vs6 J9(a:AV) s28:=cB ta [a0,(gt vs6 0)] s28 36 (Yp a0 vs6 J9)
def Yf a0 vs6 J9 t25 s26:=cB eS [a0,t25] s26 33 (Yq a0 vs6 J9)
def Yg t22 a0 vs6 J9 t23 s24:=eV (aX bH 2 s24 [(0,t22),(1,t23)]) (Yf a0 vs6 J9)
def Yh a0 vs6 J9 t20 s21:=rV (cR .neg t20) λa=>cB fL [a0,(gt vs6 0)] s21 31 (Yg a a0 vs6 J9)
def Yi e_14(a:aG) a0 vs6 s16:=aw 7 s16 e_14 λb=>fV zc s16 [b] λc=>cf c λd=>ah d (a [] s16) (cB ta [a0,(gt vs6 0)] s16 27 (Yh a0 vs6 a))
def Ys s7 t4 vs6 a0 J9:=ao 7 s7 t4 (gt vs6 0) λc=>aw 7 s7 c λd=>eV (bs 59 ee s7 3) λa b=>sV (aK 7 b a d) (Yi a J9 a0 vs6)
def Yt t5 t4 a0 R I6 m6 vs6 s7:=∀_:Rg,aU (gt vs6 0) t5 λa=>ah a (jV 4 (HU vs6 I6 m6 s7) (Ys s7 t4 vs6 a0)) (bz R s7 [])
def HS a0 s0 R:=rV (cO s0 a0) λt1=>aB 0 s0 t1 λa=>ag 14 s0 a λt4=>aJ s0 t4 λb=>lV [(iv 0)] s0 (Yt b t4 a0 R)
theorem aJk{a:AV}{s0:ae}{R:be}(h:HS a s0 R):EB DF [a] s0 R:=zB as7 wS Tryz.func83 h
theorem aKy{a:AV}{s0:ae}{R:be}(hs:L s0=4096)(h:HS a s0 R):EB DF [a] s0 R:=by refine aJk ?_;exact h
def as0:=bi 8 [(3,([25],[0,23,24]))]
def Xs vs19(c:aG)(a:bu) s20(d:AV) s29:=aV (gt vs19 0) (iv 1) λb=>c [b] s29/\a [b] s29<a vs19 s20
def Xt a0 vs19 I19 m19 s20 t26 s27:=cB eS [a0,t26] s27 34 (Xs vs19 I19 m19 s20)
def Xu a0 vs19 I19 m19 s20 t24 s25:=eV (aX bH 1 s25 [(0,t24)]) (Xt a0 vs19 I19 m19 s20)
def Xy t18 t16 a0 R I19 m19 vs19 s20:=∀_:Rg,aU (gt vs19 0) t18 λa=>ah a (ao 1 s20 t16 (gt vs19 0) λb=>aM s20 b λc=>cB ta [a0,c] s20 32 (Xu a0 vs19 I19 m19 s20)) (bz R s20 [])
def Xv a0 R t16 s17:=aJ s17 t16 λa=>lV [(iv 0)] s17 (Xy a t16 a0 R)
def Xw e_9 a0 R s11:=ag 0 s11 e_9 λa=>ag 5 s11 e_9 λb=>cB we [a0,a,b] s11 23 (Xv a0 R)
def Xx a0 a1 R(t1:AV) s2:=rV (cO s2 a0) λt3=>aB 0 s2 t3 λt4=>ag 14 s2 t4 λc=>ao 7 s2 c a1 λd=>aw 7 s2 d λe=>eV (bs 59 ee s2 4) λa b=>sV (aK 7 b a e) (Xw a a0 R)
def HH a0 a1 s0 R:=cB xQ [a0,a1] s0 9 (Xx a0 a1 R)
theorem aJd{a a1:AV}{s0:ae}{R:be}(h:HH a a1 s0 R):EB wf [a,a1] s0 R:=zB as0 wS Tryz.func40 h
theorem aKr{a:AV}{a1:AV}{s0:ae}{R:be}(hs:L s0=4096)(h:HH a a1 s0 R):EB wf [a,a1] s0 R:=by refine aJd ?_;exact h
def asU:=bi 19 [(6,([36],[0,3,35])),(9,([],[0,3,35,36])),(13,([61],[0,3,59,60])),(16,([],[0,3,59,60,61]))]
def Hw vs34(c:aG)(a:bu) s35(d:eQ) s38:=∀_:Rg,aV (gt vs34 0) (iv 1) λb=>c [b] s38/\a [b] s38<a vs34 s35
def V7 s35 t43 g_1 t46 s44 t45 t48 s51(a:aG)(b:AV) s53:=dH [lzz,lzz,lzz,(cq U s35),(lz t43),lzz,lzz,(lz g_1),(lz t46),(cq U s44),(lb I [t45,t48] []),(cq I s51)] [(0,3),(3,5),(3,6),(3,7),(3,8),(0,9),(4,9),(0,10)] (a [] s53)
def Wb a0 s35 t43 g_1 t46 s44 t45 t48 J37 t50 s51:=cB eS [a0,t50] s51 54 (V7 s35 t43 g_1 t46 s44 t45 t48 s51 J37)
def Wc t45 a0 s35 t43 g_1 t46 s44 J37 t48 s49:=eV (aX bH 2 s49 [(0,t45),(1,t48)]) (Wb a0 s35 t43 g_1 t46 s44 t45 t48 J37)
def Wd g_1 a0 vs34 s35 J37 t43 s44:=rV (cR .neg t43) λb=>aB 2 s44 g_1 λa=>aM s44 a λc=>cB je [a0,(gt vs34 0),c] s44 52 (Wc b a0 s35 t43 g_1 a s44 J37)
def Wl s35 g_1 vs34 a0(a:aG):=ag 2 s35 g_1 λb=>aO .neq (gt vs34 0) b λc=>ah c (cB fL [a0,(gt vs34 0)] s35 46 (Wd g_1 a0 vs34 s35 a)) (a [] s35)
def Hv vs58(c:aG)(a:bu) s59(d:eQ) s62:=∀_:Rg,aV (gt vs58 0) (iv 1) λb=>c [b] s62/\a [b] s62<a vs58 s59
def We a0(a:aG) t75 s76:=rV (cR .neg t75) λd=>eV (aX bH 1 s76 [(0,d)]) λe b=>cB eS [a0,e] b 76 λf c=>a [] c
def Wf n_66 g_1 a0(a:aG) s68:=ag 1 s68 n_66 λb=>ag 1 s68 g_1 λc=>al b c λd=>ah d (aw 3 s68 n_66 λe=>cB jB [a0,e] s68 73 (We a0 a)) (a [] s68)
def Wj s59 t56 vs58 g_1 a0 J61:=ao 3 s59 t56 (gt vs58 0) λc=>aw 3 s59 c λd=>eV (bs 66 dM s59 6) λa b=>sV (aK 3 b a d) (Wf a g_1 a0 J61)
def Wm t57 t56 g_1 a0 R I58 m58 vs58 s59:=∀_:Rg,aU (gt vs58 0) t57 λa=>ah a (jV 16 (Hv vs58 I58 m58 s59) (Wj s59 t56 vs58 g_1 a0)) (bz R s59 [])
def Wn t33 g_1 a0 R I34 m34 vs34 s35:=∀_:Rg,aU (gt vs34 0) t33 λb=>ah b (jV 9 (Hw vs34 I34 m34 s35) (Wl s35 g_1 vs34 a0)) (rV (cO s35 a0) λc=>ag 17 s35 c λa=>aJ s35 a λd=>lV [(iv 0)] s35 (Wm d a g_1 a0 R))
def Wg a0 g_1 R(e:AV) s28:=rV (cO s28 a0) λa=>aB 0 s28 a λb=>ag 14 s28 b λc=>aJ s28 c λd=>lV [(iv 0)] s28 (Wn d g_1 a0 R)
def Wh a0 g_1 R t25 s26:=cB eS [a0,t25] s26 29 (Wg a0 g_1 R)
def Wi g_1 a0 R(e:AV) s18:=ag 1 s18 g_1 λb=>ag 2 s18 g_1 λc=>cB je [a0,b,c] s18 27 λd a=>eV (aX bH 1 a [(0,d)]) (Wh a0 g_1 R)
def V8 a0 g_1 R t15 s16:=cB eS [a0,t15] s16 20 (Wi g_1 a0 R)
def V9 g_1 a0 R(d:AV) s10:=ag 2 s10 g_1 λb=>cB fL [a0,b] s10 18 λc a=>eV (aX bH 1 a [(0,c)]) (V8 a0 g_1 R)
def Wa a0 g_1 R t7 s8:=cB eS [a0,t7] s8 13 (V9 g_1 a0 R)
def Hu a0 g_1 s2 R:=ag 1 s2 g_1 λt4=>cB fL [a0,t4] s2 11 λb a=>eV (aX bH 1 a [(0,b)]) (Wa a0 g_1 R)
theorem aI7{a a1:AV}{s0:ae}{R:be}(h:eV (ej 42 6 s0 3 a1) λb c=>Hu a b c R):EB Ao [a,a1] s0 R:=zB asU wS Tryz.func45 h
theorem aKl{e:AV}{d:List AV}{s0:ae}{R:be}(hs:L s0=4096)(l1:L d=6)(h:∀(b:ae) (c:Nat),Kp s0 b->(∀k,k≠3->aZ b k=aZ s0 k)->(∀x,box s0 (3,c)≠V x)->box b (3,c)=V ⟨42,6,U,U,[d]⟩->Hu e (.p (3,c) 0 0) b R):EB Ao [e, .a d] s0 R:=by refine aI7 ?_;refine iN rfl l1 (by decide) (by decide) hs λb c j g0 l f=>?_;exact h b c j (λk g=>g0 k g) (λx i=>l x ((Kp.refl _).keep _ _ i)) f
def asP:=bi 11 [(4,([27],[2,3,25,26])),(7,([],[2,3,25,26,27]))]
def Hn vs23(c:aG)(a:bu) s24(d:eQ) s27:=∀_:Rg,aV (gt vs23 0) (iv 1) λb=>c [b] s27/\a [b] s27<a vs23 s24
def VR f_16(a:aG) t46 s47:=aB 2 s47 f_16 λc=>sV (aK 1 s47 c t46) λb=>a [] b
def VS n_31 f_16(a:aG) s33:=ag 0 s33 n_31 λc=>al c (iv 1) λd=>ah d (ag 2 s33 f_16 λe=>ag 1 s33 n_31 λf=>ag 2 s33 n_31 λg=>rV (bM yX [(0,1),(1,1),(2,1)] [(0,f),(1,g),(2,(iv (-1)))]) λh=>eV (aX EI 1 s33 [(0,h)]) λi b=>eV (bS 71 yX 24 b 42 e i) (VR f_16 a)) (a [] s33)
def VV s24 t21 vs23 f_16 J26:=ao 3 s24 t21 (gt vs23 0) λc=>aw 3 s24 c λd=>eV (bs 66 dM s24 5) λa b=>sV (aK 3 b a d) (VS a f_16 J26)
def VX t22 t21 f_16 t1 R I23 m23 vs23 s24:=∀_:Rg,aU (gt vs23 0) t22 λb=>ah b (jV 7 (Hn vs23 I23 m23 s24) (VV s24 t21 vs23 f_16)) (aw 4 s24 f_16 λc=>sV (aK 4 s24 t1 c) λa=>aw 4 a t1 λd=>bz R a [d])
def VT a0 t3 t4 t5 t6 t8 t9 t10 t12 t13 t7 t11 t14 f_16 t15 t1 R s18:=dH [lzz,(lz a0),(lz t3),(lz t4),(lz t5),(lz t6),lzz,(lz a0),(lz t8),(lz t9),(lz t10),lzz,(lz a0),(lz t12),(lz t13),(lb U [t7,t11,t14] []),(lb I [] [3]),(lb I [f_16,t15] [])] [(0,16),(1,16),(2,16),(3,16),(4,16),(5,16),(6,16),(7,16),(8,16),(9,16),(10,16),(11,16),(12,16),(13,16),(14,16),(15,16)] (rV (cO s18 a0) λb=>ag 15 s18 b λa=>aJ s18 a λc=>lV [(iv 0)] s18 (VX c a f_16 t1 R))
def VU a0 R t1 s2:=rV (cO s2 a0) λt3=>aB 0 s2 t3 λt4=>aB 14 s2 t4 λi=>aM s2 i λj=>aJ s2 j λk=>rV (cO s2 a0) λl=>aB 15 s2 l λm=>aM s2 m λb=>aJ s2 b λc=>rV (cO s2 a0) λd=>aB 19 s2 d λe=>aM s2 e λf=>rV (bM nJ [(0,1),(1,1),(2,1),(3,1)] [(0,k),(1,c),(3,f)]) λg=>eV (bs 52 nJ s2 3) λa h=>sV (aK 4 h a g) (VT a0 t3 t4 i j l m b d e k c f a g t1 R)
def Hm a0 s0 R:=eV (bs 52 nJ s0 2) (VU a0 R)
theorem aI2{a:AV}{s0:ae}{R:be}(h:Hm a s0 R):EB Am [a] s0 R:=zB asP wS Tryz.func31 h
theorem aKg{a:AV}{s0:ae}{R:be}(hs:L s0=4096)(h:Hm a s0 R):EB Am [a] s0 R:=by refine aI2 ?_;exact h
abbrev aqe:List AV:=[(.l [] U U),(.l [] U U),(.l [] U U),(.l [] U U),(.l [] U U),(.l [] U U),(iv 0),(.l [] U U),(iv 0),(.l [] U U),(.l [] U U),(.l [] U U),(.l [] U U),(.l [] U U),(.l [] U U),(.l [] U U),(.l [] U U)]
def auU:=bi 39 [(6,([28],[0,26,27])),(9,([],[0,26,27,28])),(22,([92],[0,3,91])),(25,([],[0,3,91,92])),(29,([115],[0,3,113,114])),(32,([],[0,3,113,114,115]))]
def agB g_1 a0 R(d:AV) s9:=ag 2 s9 g_1 λb=>cB wh [a0,b] s9 22 λc a=>bz R a []
def agZ vs18(c:aG)(a:bu) s19(d:eQ) s22:=∀_:Rg,aV (gt vs18 0) (iv 1) λb=>c [b] s22/\a [b] s22<a vs18 s19
def agM a0 t25(a:aG)(q:AV) s27:=rV (cO s27 a0) λe=>aB 0 s27 e λf=>ag 14 s27 f λg=>ao 7 s27 g t25 λh=>ag 1 s27 h λi=>aO .neq i (iv 17) λj=>ah j (a [] s27) (rV (cO s27 a0) λk=>aB 0 s27 k λl=>aw 15 s27 l λm=>fV Cm s27 [m,t25] λb=>rV (eO 0 b) λn=>rV (eO 1 b) λo=>ah o (cB wi [a0,n,(iv (-1))] s27 58 λp c=>cB eP [a0,p] c 59 λr d=>a [] d) (a [] s27))
def ag2 s19 t16 vs18 a0 J21:=ao 1 s19 t16 (gt vs18 0) λb=>aM s19 b λa=>cB xX [a0,a] s19 34 (agM a0 a J21)
def ag5 t17 t16 a0 R I18 m18 vs18 s19:=∀_:Rg,aU (gt vs18 0) t17 λa=>ah a (jV 9 (agZ vs18 I18 m18 s19) (ag2 s19 t16 vs18 a0)) (bz R s19 [])
def agX vs78(c:aG)(a:bu) s79(d:eQ) s82:=∀_:Rg,aV (gt vs78 0) (iv 1) λb=>c [b] s82/\a [b] s82<a vs78 s79
def agQ s79 t87 g_1 t90 s88 t89 t92 s95(a:aG)(b:AV) s97:=dH [lzz,lzz,lzz,(cq U s79),(lz t87),lzz,lzz,(lz g_1),(lz t90),(cq U s88),(lb I [t89,t92] []),(cq I s95)] [(0,3),(3,5),(3,6),(3,7),(3,8),(0,9),(4,9),(0,10)] (a [] s97)
def agR a0 s79 t87 g_1 t90 s88 t89 t92 J81 t94 s95:=cB eP [a0,t94] s95 110 (agQ s79 t87 g_1 t90 s88 t89 t92 s95 J81)
def agS t89 a0 s79 t87 g_1 t90 s88 J81 t92 s93:=eV (aX bH 2 s93 [(0,t89),(1,t92)]) (agR a0 s79 t87 g_1 t90 s88 t89 t92 J81)
def agT g_1 a0 vs78 s79 J81 t87 s88:=rV (cR .neg t87) λb=>aB 2 s88 g_1 λa=>aM s88 a λc=>cB jP [a0,(gt vs78 0),c] s88 108 (agS b a0 s79 t87 g_1 a s88 J81)
def ag0 s79 g_1 vs78 a0(a:aG):=ag 2 s79 g_1 λb=>aO .neq (gt vs78 0) b λc=>ah c (cB gJ [a0,(gt vs78 0)] s79 102 (agT g_1 a0 vs78 s79 a)) (a [] s79)
def agY vs101(c:aG)(a:bu) s102(d:eQ) s105:=∀_:Rg,aV (gt vs101 0) (iv 1) λb=>c [b] s105/\a [b] s105<a vs101 s102
def agU a0(a:aG) t126 s127:=cB eP [a0,t126] s127 135 λc b=>a [] b
def agV a0 J104 t123 s124:=rV (cR .neg t123) λa=>eV (aX bH 1 s124 [(0,a)]) (agU a0 J104)
def agW x_109 g_1 a0(a:aG) s111:=ag 1 s111 x_109 λb=>ag 1 s111 g_1 λc=>al b c λd=>ah d (ag 0 s111 x_109 λe=>ag 1 s111 x_109 λf=>ag 2 s111 x_109 λg=>cB kI [a0,e,f,g] s111 132 (agV a0 a)) (a [] s111)
def ag1 s102 t98 vs101 g_1 a0 J104:=ao 3 s102 t98 (gt vs101 0) λc=>aw 3 s102 c λd=>eV (bs 66 dM s102 10) λa b=>sV (aK 3 b a d) (agW a g_1 a0 J104)
def ag4 t100 t98 g_1 a0 R I101 m101 vs101 s102:=∀_:Rg,aU (gt vs101 0) t100 λa=>ah a (jV 32 (agY vs101 I101 m101 s102) (ag1 s102 t98 vs101 g_1 a0)) (bz R s102 [])
def agC g_1 a0 R t98 s99:=aJ s99 t98 λa=>lV [(iv 0)] s99 (ag4 a t98 g_1 a0 R)
def ag3 t77 g_1 a0 R I78 m78 vs78 s79:=∀_:Rg,aU (gt vs78 0) t77 λa=>ah a (jV 25 (agX vs78 I78 m78 s79) (ag0 s79 g_1 vs78 a0)) (cB uw [a0,(iv 5)] s79 113 (agC g_1 a0 R))
def agD a0 g_1 R(e:AV) s72:=rV (cO s72 a0) λa=>aB 0 s72 a λb=>ag 14 s72 b λc=>aJ s72 c λd=>lV [(iv 0)] s72 (ag3 d g_1 a0 R)
def agE a0 g_1 R t69 s70:=cB eP [a0,t69] s70 85 (agD a0 g_1 R)
def agF g_1 a0 R(e:AV) s62:=ag 1 s62 g_1 λb=>ag 2 s62 g_1 λc=>cB jP [a0,b,c] s62 83 λd a=>eV (aX bH 1 a [(0,d)]) (agE a0 g_1 R)
def agG a0 g_1 R t59 s60:=cB eP [a0,t59] s60 76 (agF g_1 a0 R)
def agH g_1 a0 R(d:AV) s54:=ag 2 s54 g_1 λb=>cB gJ [a0,b] s54 74 λc a=>eV (aX bH 1 a [(0,c)]) (agG a0 g_1 R)
def agI a0 g_1 R t51 s52:=cB eP [a0,t51] s52 69 (agH g_1 a0 R)
def agJ g_1 a0 R(c:AV) s156:=ag 2 s156 g_1 λb=>cB wh [a0,b] s156 165 λd a=>bz R a []
def agK a0 g_1 R t153 s154:=cB eP [a0,t153] s154 161 (agJ g_1 a0 R)
def agL g_1 a0 R(e:AV) s146:=ag 1 s146 g_1 λb=>ag 3 s146 g_1 λc=>cB jP [a0,b,c] s146 159 λd a=>eV (aX bH 1 a [(0,d)]) (agK a0 g_1 R)
def agN a0 g_1 R t143 s144:=cB eP [a0,t143] s144 152 (agL g_1 a0 R)
def agO g_1 a0 R(d:AV) s138:=ag 4 s138 g_1 λb=>cB gJ [a0,b] s138 150 λc a=>eV (aX bH 1 a [(0,c)]) (agN a0 g_1 R)
def agP a0 g_1 R t135 s136:=cB eP [a0,t135] s136 145 (agO g_1 a0 R)
def Js a0 g_1 s2 R:=ag 0 s2 g_1 λt4=>al t4 (iv 1) λl=>ah l (ag 1 s2 g_1 λm=>cB wh [a0,m] s2 18 (agB g_1 a0 R)) (al t4 (iv 2) λg=>ah g (ag 5 s2 g_1 λa=>aJ s2 a λh=>lV [(iv 0)] s2 (ag5 h a a0 R)) (al t4 (iv 3) λi=>ah i (ag 1 s2 g_1 λj=>cB gJ [a0,j] s2 67 λk f=>eV (aX bH 1 f [(0,k)]) (agI a0 g_1 R)) (al t4 (iv 4) λc=>ah c (ag 1 s2 g_1 λd=>cB gJ [a0,d] s2 143 λe b=>eV (aX bH 1 b [(0,e)]) (agP a0 g_1 R)) (bz R s2 []))))
theorem aJD{a a1:AV}{s0:ae}{R:be}(h:eV (ej 42 6 s0 3 a1) λb c=>Js a b c R):EB DL [a,a1] s0 R:=zB auU jT Tryz.func48 h
theorem aMn{e:AV}{d:List AV}{s0:ae}{R:be}(hs:L s0=4096)(l1:L d=6)(h:∀(b:ae) (c:Nat),Kp s0 b->(∀k,k≠3->aZ b k=aZ s0 k)->(∀x,box s0 (3,c)≠V x)->box b (3,c)=V ⟨42,6,U,U,[d]⟩->Js e (.p (3,c) 0 0) b R):EB DL [e, .a d] s0 R:=by refine aJD ?_;refine iN rfl l1 (by decide) (by decide) hs λb c j g0 l f=>?_;exact h b c j (λk g=>g0 k g) (λx i=>l x ((Kp.refl _).keep _ _ i)) f
def auN:=bi 7 []
def agj t7 R(c:AV) s12:=cB DM [t7] s12 14 λd a=>cB DN [t7] a 16 λe b=>bz R b [t7]
def Jk w_1 s2 R:=aw 15 s2 w_1 λt3=>aw 15 s2 w_1 λt4=>fV Cp s2 [t4] λd=>rV (bM aqe [(0,15),(15,1),(16,1)] [(0,t3),(1,d)]) λe=>eV (ej 123 17 s2 8 e) λa c=>cB Az [a] c 10 λf b=>cB Ay [a] b 12 (agj a R)
theorem aJw{a:AV}{s0:ae}{R:be}(h:eV (ej 40 15 s0 1 a) λb c=>Jk b c R):EB Av [a] s0 R:=zB auN jT Tryz.func32 h
theorem aMg{d:List AV}{s0:ae}{R:be}(hs:L s0=4096)(l0:L d=15)(h:∀(b:ae) (c:Nat),Kp s0 b->(∀k,k≠1->aZ b k=aZ s0 k)->(∀x,box s0 (1,c)≠V x)->box b (1,c)=V ⟨40,15,U,U,[d]⟩->Jk (.p (1,c) 0 0) b R):EB Av [.a d] s0 R:=by refine aJw ?_;refine iN rfl l0 (by decide) (by decide) hs λb c i g0 j e=>?_;exact h b c i (λk f=>g0 k f) (λx g=>j x ((Kp.refl _).keep _ _ g)) e
section
variable{Y:ae}{b:Id}{w:am}{ns:List ap}{out:List (List Int)}{n a:AV}{d:Nat}{K:be}
theorem ama{ns:List ap}{l:List Int}:∀m,L ((aH m).flatMap (pC ns l))=m
 |0=>rfl
 |m+1=>by rw[cr,bq,ama m];rfl
theorem zW(W:WV w)(hI:∀u l,L (fg w u l)<=L l){x:Int}(c:aF (L w.ac) x):L (jK ns w x)<=10010:=by have e:x.toNat<L w.ac:=(by have:=c.1;have:=c.2;omega);have f:=(W.dp _ e).1;have g:=hI (gd w.ac x.toNat).aq (gd w.ac x.toNat).dI;have h:L (jc ns w x)<=2:=(by unfold jc;split<;>simp);rw[jK,bq,ama];omega
def jw(ns:List ap)(w:am)(e:Int):List (List Int):=jc ns w e++(if(gd w.ac e.toNat).kind=17/\(e9 w e).2=U then[nG ns (aR ns 5) (e9 w e).1 (-1)] else[])
def jJ(ns:List ap)(c:Int)(e:Nat):List (List Int):=if(e:Int)≠c then[[-lE ns e,lB ns e c]] else[]
def kF(ns:List ap)(c:Int)(x:ap):List (List Int):=if x.a=c then[[-dP ns x]] else[]
def jx(ns:List ap)(w:am)(g:cJ):List (List Int):=
 if g.kind=1 then jK ns w g.ea++jK ns w g.eb
 else if g.kind=2 then(aH (L g.cW)).flatMap λk=>jw ns w (gd g.cW k)
 else if g.kind=3 then[[lE ns g.ea],[lE ns g.eb],[lB ns g.ea g.eb]]++(aH (L w.ac)).flatMap (jJ ns g.eb)++(aH (L (aR ns 5))).flatMap λj=>kF ns g.ea (gd (aR ns 5) j)
 else if g.kind=4 then[[lE ns g.ea],[lE ns g.ed],[lB ns g.ea g.ec]]++jK ns w g.eb
 else[]
theorem aCu(B:cm Y b w ns out n a)(y:L ns<100000)(W:WV w)(hI:∀u l,L (fg w u l)<=L l)(g:cJ)(h1:g.kind=1->aF (L w.ac) g.ea/\aF (L w.ac) g.eb)(h2:g.kind=2->(∀e∈g.cW,aF (L w.ac) e)/\L g.cW<=4)(h4:g.kind=4->aF (L w.ac) g.eb)(ho:L out<900000000):∃r Y1,sj Y b w ns out (jx ns w g) n a r Y1/\cZ aS GG DL [.p b 0 0, .a g.c] Y r Y1:=by refine aMn B.le rfl λs2 vg K2 bT _ R=>?_;have F0:Fx Y s2 []:=K2.fx [];have F:=B.kp F0;have A0:Ad Y s2 b a a:=(Ad.refl Y b a).fxn F0;have H:∀{k v:Nat},k≠sB->(k,v)≠b:=λ{k v} h e=>h (by have:=B.sb;rw[<-e] at this;exact this);have hw:=W.ok.ev;simp+contextual only[Js,u0,u1,R,rk,aj,cT,↓uL];refine⟨λT=>?_,λX=>⟨λT=>?_,λax=>⟨λT=>?_,λaO=>⟨λT=>?_,λbj=>?_⟩⟩⟩⟩;have s:g.kind=1:=of_decide_eq_true T;obtain⟨ha,hb⟩:=h1 s;have la:=zW (ns:=ns) W hI ha;have bk:=zW (ns:=ns) W hI hb;refine Kq (d:=0) F y W _ ha (by omega) λa1 Y1 C A=>?_;have g1:=A.keep R (H (by decide)) (F.nv R (.inl rfl));simp only[agB,u0,u1,g1,rk,aj,↓uL];refine Kq C y W _ hb (by simp only[bq];omega) λa2 Y2 z D=>⟨a2,rfl,?_,(A0.trans A).trans D⟩;rw[jx,if_pos s,<-cC];exact z;(focus have s:g.kind=2:=of_decide_eq_true T;obtain⟨hc,bR⟩:=h2 s;have hq:∀k,L (jw ns w (gd g.cW k))<=3:=λk=>(by unfold jw jc;(repeat' split);all_goals simp);refine yV (L g.cW) (λk _ o=>∃q,cm o b w ns (out++(aH k).flatMap λk=>jw ns w (gd g.cW k)) n q/\Ad Y o b a q) ⟨a,by simpa using F,A0⟩ ?_;rintro i _ Y1 hi ⟨a1,C,A⟩;have m1:=eU (f:=λk=>jw ns w (gd g.cW k)) (c:=3) hq i;simp+contextual only[ag5,au,aI,u0,u1,↓uL];refine⟨λh=>?_,λh=>?_⟩;have M:=aL h;have he:=hc _ (dB M);have bf:(gd g.cW i).toNat<L w.ac:=(by have:=he.1;have:=he.2;omega);refine mG (λvs o=>vs=[]/\∃q,cm o b w ns (out++((aH i).flatMap λk=>jw ns w (gd g.cW k))++jw ns w (gd g.cW i)) n q/\Ad Y o b a q) (λm G=>?_) ?_;simp only[ag2,au,ix,iF,u0,u1,bh,↓uL];refine⟨dJ M,?_⟩;generalize gd g.cW i=e at*;refine alF (d:=0) C y hw (by simp only[bq];omega) e he λa2 Y2 z D=>?_;have aK:=z.bx;simp+contextual only[agM,dy aK,u0,u1,aK,kn,rk,ix,aj,sY,ar,oJ,pG,↓uL];refine⟨he,λaq=>G [] Y2 ⟨rfl,a2,?_,A.trans D⟩,λaq=>⟨⟨by omega,he,(W.th _ bf).2,by have:=W.ts;omega⟩,?_⟩⟩;have:¬((gd w.ac e.toNat).kind=17/\(e9 w e).2=U):=λh'=>(by simp[h'.1] at aq);rw[jw,if_neg this,cL];exact z;have aX:(gd w.ac e.toNat).kind=17:=(by simpa using aq);refine⟨.inl rfl,λZ=>?_,λZ=>G [] Y2 ⟨rfl,a2,?_,A.trans D⟩⟩;have bS:L (jc ns w e)<=2:=(by unfold jc;split<;>simp);refine Ks z y _ _ λt=>?_;refine fQ z (by simp only[bq];omega) _ λa3 Y3 B3 N=>G [] Y3 ⟨rfl,a3,?_,(A.trans D).trans N⟩;rw[jw,if_pos ⟨aX,Z⟩,<-cC];exact B3;rw[jw,if_neg (λh'=>by rw[h'.2] at Z;cases Z),cL];exact z;rintro vs o ⟨rfl,q,B',A'⟩;simp only[agZ,au,aI,u0,u1,↓uL];refine yU M ⟨q,?_,A'⟩;rw[cr,<-cC];exact B';rw[bP hi (bw h)] at C;exact⟨a1,rfl,by rw[jx,if_neg (of_decide_eq_false X),if_pos s];exact C,A⟩);have s:g.kind=3:=of_decide_eq_true T;refine ig F y _ ?_;simp only[f7,bQ,agI,↓uL];refine fQ F (by omega) [_] λa1 Y1 C A=>?_;have g1:=A.keep R (H (by decide)) (F.nv R (.inl rfl));simp only[agH,u0,u1,g1,rk,aj,↓uL];refine ig C y _ ?_;simp only[f7,bQ,agG,↓uL];refine fQ C (by simp;omega) [_] λa2 Y2 z D=>?_;have S:=D.keep g1 (H (by decide)) (C.nv g1 (.inl rfl));simp only[agF,u0,u1,S,rk,aj,↓uL];refine kV z y _ _ ?_;simp only[f7,bQ,agE,↓uL];refine fQ z (by simp;omega) [_] λa3 Y3 B3 N=>?_;have g3:=N.keep S (H (by decide)) (z.nv S (.inl rfl));have aM:=B3.bx;simp only[agD,dy aM,u0,u1,aM,kn,aj,cT,↓uL];have aJ:cm Y3 b w ns (out++[[lE ns g.ea],[lE ns g.eb],[lB ns g.ea g.eb]]) n a3:=(by simpa using B3);generalize hO:out++[[lE ns g.ea],[lE ns g.eb],[lB ns g.ea g.eb]]=O at aJ;have bL:L O=L out+3:=(by rw[<-hO];simp);refine yV (L w.ac) (λk _ o=>∃q,cm o b w ns (O++(aH k).flatMap (jJ ns g.eb)) n q/\Ad Y o b a q/\box o (3,vg)=V ⟨42,6,U,U,[g.c]⟩) ⟨a3,by simpa using aJ,((A0.trans A).trans D).trans N,g3⟩ ?_;rintro i _ Y4 hi ⟨a4,E,A4,g4⟩;have m4:=eU (f:=jJ ns g.eb) (c:=1) (λk=>by unfold jJ;split<;>simp) i;simp+contextual only[ag3,au,aI,u0,u1,↓uL];refine⟨λh=>?_,λh=>?_⟩;have M:=aL h;refine mG (λvs o=>vs=[]/\∃q,cm o b w ns (O++(aH i).flatMap (jJ ns g.eb)++jJ ns g.eb i) n q/\Ad Y o b a q/\box o (3,vg)=V ⟨42,6,U,U,[g.c]⟩) (λm G=>?_) ?_;simp+contextual only[ag0,au,u0,u1,g4,rk,aj,↓uL];refine⟨λay=>?_,λay=>G [] Y4 ⟨rfl,a4,?_,A4,g4⟩⟩;refine ig (d:=0) E y _ ?_;simp only[agT,de y,u0,u1,g4,rk,au,aj,↓uL];refine kV (d:=0) E y _ _ ?_;simp only[agS,fi,bQ,agR,↓uL];refine fQ E (by simp only[bq];omega) [_,_] λa5 Y5 P A5=>?_;simp only[agQ,↓uL];refine dT (by simp[eL,lb,cq,cD,dC,dK]) (G [] Y5 ⟨rfl,a5,?_,A4.trans A5,A5.keep g4 (H (by decide)) (E.nv g4 (.inl rfl))⟩);rw[jJ,if_pos (of_decide_eq_true ay)];exact P;rw[jJ,if_neg (of_decide_eq_false ay),cL];exact E;rintro vs o ⟨rfl,q,B',A',g'⟩;simp only[agX,au,aI,u0,u1,↓uL];refine yU M ⟨q,?_,A',g'⟩;rw[cr,<-cC];exact B';rw[bP hi (bw h)] at E m4;refine De (d:=0) E y 5 λt=>?_;have bM:L (aR ns 5)<=L ns:=fZ _ _;have bi:jx ns w g=[[lE ns g.ea],[lE ns g.eb],[lB ns g.ea g.eb]]++(aH (L w.ac)).flatMap (jJ ns g.eb)++(aH (L (aR ns 5))).flatMap λj=>kF ns g.ea (gd (aR ns 5) j):=(by rw[jx,if_neg (of_decide_eq_false X),if_neg (of_decide_eq_false ax),if_pos s]);generalize aR ns 5=l at*;simp only[agC,gT,u0,↓uL];generalize aN:O++(aH (L w.ac)).flatMap (jJ ns g.eb)=O2 at E;have bD:L O2<=L O+L w.ac*1:=(by rw[<-aN,bq];omega);refine yV (L l) (λk _ o=>∃q,cm o b w ns (O2++(aH k).flatMap λj=>kF ns g.ea (gd l j)) n q/\Ad Y o b a q/\box o (3,vg)=V ⟨42,6,U,U,[g.c]⟩) ⟨a4,by simpa using E,A4,g4⟩ ?_;rintro j _ Y5 hj ⟨a5,P,A5,g5⟩;have m5:=eU (f:=λj=>kF ns g.ea (gd l j)) (c:=1) (λk=>by unfold kF;split<;>simp) j;simp+contextual only[ag4,au,aI,u0,u1,↓uL];refine⟨λh5=>?_,λh5=>?_⟩;refine mG (λvs o=>vs=[]/\∃q,cm o b w ns (O2++((aH j).flatMap λj=>kF ns g.ea (gd l j))++kF ns g.ea (gd l j)) n q/\Ad Y o b a q/\box o (3,vg)=V ⟨42,6,U,U,[g.c]⟩) (λm G=>?_) ?_;simp only[ag1,au,lX,u0,u1,rk,bh,↓uL];refine⟨bA h5,?_⟩;generalize gd l j=x at*;refine cV P.le λv6 Y6 F6 N6 b6=>?_;refine cy (cs:=ap.c x) b6 rfl rfl (by decide) λY7 F7 b7=>?_;have ba:box Y7 (10,v6)=V ⟨66,3,U,U,[ap.c x]⟩:=b7;have am:Fx Y5 Y7 []:=F6.tn F7 N6.no;have B7:=P.kp am;have A7:=A5.fxn am;have g7:=am.kq g5;simp+contextual only[agW,u0,u1,ba,g7,rk,aj,↓uL];refine⟨λhc=>?_,λhc=>G [] Y7 ⟨rfl,a5,?_,A7,g7⟩⟩;refine nc (d:=0) B7 y _ _ _ ?_;simp only[agV,de y,aY,f7,bQ,agU,↓uL];refine fQ B7 (by simp only[bq];omega) [_] λa8 Y8 B8 A8=>G [] Y8 ⟨rfl,a8,?_,A7.trans A8,A8.keep g7 (H (by decide)) (B7.nv g7 (.inl rfl))⟩;rw[kF,if_pos (of_decide_eq_true hc)];exact B8;rw[kF,if_neg (of_decide_eq_false hc),cL];exact B7;rintro vs o ⟨rfl,q,B',A',g'⟩;simp only[agY,au,aI,u0,u1,↓uL];refine yU (aL h5) ⟨q,?_,A',g'⟩;rw[cr,<-cC];exact B';rw[bP hj (bw h5)] at P;refine⟨a5,rfl,?_,A5⟩;rw[bi];rw[<-aN,<-hO] at P;simpa using P;have s:g.kind=4:=of_decide_eq_true T;have bk:=zW (ns:=ns) W hI (h4 s);refine ig F y _ ?_;simp only[f7,bQ,agP,↓uL];refine fQ F (by omega) [_] λa1 Y1 C A=>?_;have g1:=A.keep R (H (by decide)) (F.nv R (.inl rfl));simp only[agO,u0,u1,g1,rk,aj,↓uL];refine ig C y _ ?_;simp only[f7,bQ,agN,↓uL];refine fQ C (by simp;omega) [_] λa2 Y2 z D=>?_;have S:=D.keep g1 (H (by decide)) (C.nv g1 (.inl rfl));simp only[agL,u0,u1,S,rk,aj,↓uL];refine kV z y _ _ ?_;simp only[f7,bQ,agK,↓uL];refine fQ z (by simp;omega) [_] λa3 Y3 B3 N=>?_;have g3:=N.keep S (H (by decide)) (z.nv S (.inl rfl));simp only[agJ,u0,u1,g3,rk,aj,↓uL];refine Kq B3 y W _ (h4 s) (by simp;omega) λa4 Y4 E A4=>⟨a4,rfl,?_,(((A0.trans A).trans D).trans N).trans A4⟩;rw[jx,if_neg (of_decide_eq_false X),if_neg (of_decide_eq_false ax),if_neg (of_decide_eq_false aO),if_pos s];simpa using E;refine⟨a,rfl,?_,A0⟩;rw[jx,if_neg (of_decide_eq_false X),if_neg (of_decide_eq_false ax),if_neg (of_decide_eq_false aO),if_neg (of_decide_eq_false bj),cL];exact F
end
def iW(ns:List ap)(x:ap):List (List Int):=[[-dP ns x,lE ns x.a]]++(if 0<=x.b then[[-dP ns x,lE ns x.b],[-dP ns x,lB ns x.b x.a]] else[])
def ju(ns:List ap)(x y:ap):List (List Int):=if x.b=y.b then[[-dP ns x,-dP ns y]] else[]
def lP(ns l:List ap)(i:Nat):List (List Int):=(aH (L (l.drop (i+1)))).flatMap λj=>ju ns (gd l i) (gd (l.drop (i+1)) j)
def jk(ns:List ap)(w:am)(x y:ap):List (List Int):=if x.a=y.a/\(gd w.ac x.a.toNat).kind=18 then[[-dP ns x,-dP ns y]] else[]
def lQ(ns:List ap)(w:am)(l:List ap)(i:Nat):List (List Int):=(aH (L (l.drop (i+1)))).flatMap λj=>jk ns w (gd l i) (gd (l.drop (i+1)) j)
end Go.Ab
