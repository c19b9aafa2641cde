/- Part of the proof of WitnessMinimal. -/
import Derived.Test.YthlflpfcfdpedaaGreatDoorC
set_option linter.all false
set_option maxRecDepth 100000
open And renaming intro->ai
open Bool renaming and_eq_false_iff->bik,and_eq_true->bN,and_true->ru,false->I,false_eq_true->eE,false_or->lG,not_eq_false'->fK,not_eq_true'->eH,not_false->kN,not_true->fh,or_eq_false_iff->cP,or_eq_true->fH,or_false->kz,true->U,true_and->iw,true_eq_false->sr
open Decidable renaming decide->Q,not_not->aNS
open Eq renaming mpr->aND
open Go.Code renaming region->BM,ret->ET
open Go.IntKind renaming i64->dq
open Go.Proofs.Tryz renaming f164->CF,prog->aS
open Go.Value renaming bool.injEq->mV,int.injEq->mW,string.injEq->mX
open Int renaming toNat_natCast->bh,toNat_zero->Gx
open List renaming all_cons->Cs,all_eq_true->dV,all_nil->aqG,append_assoc->bje,append_nil->cL,cons.injEq->kO,cons_append->zn,drop->aOz,drop_succ_cons->nM,drop_zero->ip,ext_getElem->biF,flatMap_cons->Cz,flatMap_nil->RN,foldl_nil->aRl,getD_eq_getElem?_getD->eI,getElem?_append_left->xe,getElem?_eq_getElem->eC,getElem?_set_ne->oq,getElem_of_mem->ou,length->L,length_append->a6G,length_cons->bZ,length_filter_le->fZ,length_map->bJ,length_nil->vw,length_pos_iff->aqS,length_replicate->oA,length_set->zq,map_append->dg,map_congr_left->ja,map_cons->ji,map_map->vA,map_nil->mU,mem_append->dF,mem_cons->eW,mem_map->dN,mem_range->fq,mem_singleton->cE,nil_append->dW,not_mem_nil->ql,range->aH,range_succ->qn,replicate->er,set_eq_take_append_cons_drop->GP,take_append_drop->aq0,take_length->gV,take_succ_eq_append_getElem->iJ,take_zero->CE
open Nat renaming eq_zero_or_pos->oD,le_refl->dA,le_trans->gl,lt_of_le_of_lt->rC,lt_of_lt_of_le->C3,lt_or_ge->jj,mul_le_mul_right->qo,reduceAdd->dc,succ_mul->tN,zero_add->aj
open Option renaming bind_some->qd,map_some->df,none->J,some->V,some.injEq->bE
open Prod renaming mk.injEq->iK
namespace Go.Ab
open Go Go.RowKit Go.Proofs
def au5:=bA 23 [(6,([3],[0])),(14,([3,5],[0,4])),(17,([3],[0,4,5]))]
def JN a s0 R:=(.mk _:NF<|zF GG apn au5 Tryz.f186 [a] [] s0<|QDb Tryz.f186 R).p
def aJN{a:AV}{s0:ae}{R:be}(h:JN a s0 R):EB 186 [a] s0 R:=zB au5 wR Tryz.func186 h
def aMy{a:AV}{s0:ae}{R:be}(b:L s0=4096)(h:JN a s0 R):EB 186 [a] s0 R:=by refine aJN ?_;exact h
def avb:=bA 10 [(1,([6],[0,1,2])),(6,([7],[0,1,2,6]))]
def JT a b c s0 R:=(.mk _:NF<|zF GG apn avb Tryz.f258 [a,b,c] [] s0<|QDb Tryz.f258 R).p
def aJR{a b c:AV}{s0:ae}{R:be}(h:JT a b c s0 R):EB 258 [a,b,c] s0 R:=zB avb wR Tryz.func258 h
def aME{a b c:AV}{s0:ae}{R:be}(d:L s0=4096)(h:JT a b c s0 R):EB 258 [a,b,c] s0 R:=by refine aJR ?_;exact h
def JQ a b s0 R:=(.mk _:NF<|zF GG apn au9 Tryz.f230 [a,b] [] s0<|QDb Tryz.f230 R).p
def aJP{a b:AV}{s0:ae}{R:be}(h:JQ a b s0 R):EB 230 [a,b] s0 R:=zB au9 wR Tryz.func230 h
def aMB{a b:AV}{s0:ae}{R:be}(c:L s0=4096)(h:JQ a b s0 R):EB 230 [a,b] s0 R:=by refine aJP ?_;exact h
def Ij a b s0 R:=(.mk _:NF<|zF GG apn at1 Tryz.f188 [a,b] [] s0<|QDb Tryz.f188 R).p
def aJo{a b:AV}{s0:ae}{R:be}(h:Ij a b s0 R):EB 188 [a,b] s0 R:=zB at1 wR Tryz.func188 h
def aK2{a b:AV}{s0:ae}{R:be}(c:L s0=4096)(h:Ij a b s0 R):EB 188 [a,b] s0 R:=by refine aJo ?_;exact h
def atF:=bA 13 [(4,([7,13],[1,2,3,11,12])),(7,([7],[1,2,3,11,12,13])),(10,([],[7]))]
def Iv c(f:aG)(e:bu) g d a:=Rg->aV (gt c 1) (iv 1) λb=>f [gt d 0,b] a/\e [gt d 0,b] a<e c g
def abC e o d p(f:aG) b:=aw 3 b e λg=>fV BV b [g,o] λa=>fm a (gt d 0) λh=>u6 a (aU h<|iv 0) λi=>fm a i λc=>bX c (gt d 1) λj=>bX c p λk=>aC c (bf j k) λl=>u6 a (aD c (bv U) l) λm=>aD a m (bv I) λn=>ah n (f [gt d 1] b)<|f [gt d 0] b
def abE c t4 b h i g:=ao 3 c t4 (gt b 1) λe=>aw 3 c e λf=>eV (alA 85 aQ2 c 9) λa d=>sV (aK 3 d a f)<|abC a h b i g
def Iu R b(c:eQ) a:=Rg->fe R a [gt b 0]
def abD c a e(b:aG):=aO .geq (gt c 0) (iv 0) λf=>ah f (ab 3 a e λg=>ao 3 a g (gt c 0) λh=>aB 0 a h λi=>sV (aK 1 a i<|iv 4) λd=>b [] d)<|b [] a
def abF h t4 e f R c d g a b:=Rg->aU (gt a 1) h λi=>ah i (jV 7 (Iv a d g b)<|abE b t4 a e f)<|jV 10 (Iu R a)<|abD a b c
def Ir a c d b R:=ab 3 b a λt4=>aJ b t4 λe=>lV [iv<|-1,iv 0] b<|abF e t4 c d R a
def aJq{a b c:AV}{s0:ae}{R:be}(h:eV (u4 36 4 s0 3 a) λd e=>Ir d b c e R):EB 189 [a,b,c] s0 R:=zB atF wR Tryz.func189 h
def aK7{c0:List AV}{d e:AV}{s0:ae}{R:be}(i:L s0=4096)(l0:L c0=4)(h:∀(b:ae) (c:Nat),Kp s0 b->(∀k,k≠3->aZ b k=aZ s0 k)->(∀x,box s0 (3,c)≠V x)->box b (3,c)=V ⟨36,4,U,U,[c0]⟩->Ir (.p (3,c) 0 0) d e b R):EB 189 [.a c0,d,e] s0 R:=by refine aJq ?_;refine iN rfl l0 (by decide) (by decide) i λb c l g0 m f=>?_;exact h b c l (λk g=>g0 k g) (λx j=>m x<|(Kp.refl _).keep _ _ j) f
def atG:=bA 12 [(4,([5,11],[1,2,9,10])),(7,([5],[1,2,9,10,11]))]
def Is a b c R:=(.mk _:NF<|zF GG apn atG Tryz.f190 [.u,b] [a] c<|QDb Tryz.f190 R).p
def aJr{a b:AV}{s0:ae}{R:be}(h:eV (u4 36 4 s0 2 a) λc d=>Is c b d R):EB 190 [a,b] s0 R:=zB atG wR Tryz.func190 h
def aK8{c0:List AV}{d:AV}{s0:ae}{R:be}(g:L s0=4096)(l0:L c0=4)(h:∀(b:ae) (c:Nat),Kp s0 b->(∀k,k≠2->aZ b k=aZ s0 k)->(∀x,box s0 (2,c)≠V x)->box b (2,c)=V ⟨36,4,U,U,[c0]⟩->Is (.p (2,c) 0 0) d b R):EB 190 [.a c0,d] s0 R:=by refine aJr ?_;refine iN rfl l0 (by decide) (by decide) g λb c j g0 l e=>?_;exact h b c j (λk f=>g0 k f) (λx i=>l x<|(Kp.refl _).keep _ _ i) e
theorem axp(n c:Nat)(w:World)(R:Ending->World->Prop)(a:R (.returned<|.slice J 0 0) w):Calls aS 133 #[.slice J n c] w R:=by have b:=λ(W:World)=>run_eql_slice_nil (P:=aS) W 38 3 J n c (by kernel_rfl);go_enter Tryz.func133,Tryz.ntmps133;go_wp2;exact a
theorem axt(A:Addr)(n c:Nat)(w:World)(R:Ending->World->Prop)(b:(nU Tryz.f133).wp aS (bodyPost aS Tryz.f133 R) {tmps:=#[.slice (V A) n c,undef, .slice J 0 0, .slice (V A) n c, .bool I,undef,undef,undef],defers:=[]} w):Calls aS 133 #[.slice (V A) n c] w R:=by have d:=λ(W:World)=>run_eql_slice_nil (P:=aS) W 38 3 (V A) n c (by kernel_rfl);go_enter Tryz.func133,Tryz.ntmps133;generalize a:(BM 3 _ I).seq ET=T;go_wp2;subst a;exact b
def aCM{aa:List (List AV)}(g:∀r∈aa,L r=1)(q:L aa<1000000):∃r a,bc a 3 1 r aa/\cZ aS GG 133 [.l aa I I] eK r a/\(aa=[]->r= .l [] U U):=by have h:=DX (fn:=133) (f:=Tryz.f133) (an:=[J,J]) Tryz.func133 rfl rfl (by grind [axp]) (by grind [axt]) (by kernel_rfl) (by kernel_rfl) (aa:=aa) (R:=λr a=>bc a 3 1 r aa/\(aa=[]->r= .l [] U U/\a=eK)) (aND (show iV aS GG [] [J,J] (nU Tryz.f133) 0 (tO aS Tryz.f133 λr a=>bc a 3 1 r aa/\(aa=[]->r= .l [] U U/\a=eK)) (gt<|xE<|.l aa I I) eK=(eV (aX bH 0 eK []) λk i=>eV (cj 3 fB 8 i 7 k<|.l aa I I) λt4 j=>fe (λr a=>bc a 3 1 r aa/\(aa=[]->r= .l [] U U/\a=eK)) j [t4]) by kernel_rfl) ?_) (λr a h=>h.2);obtain⟨r,a,b,d⟩:=h;exact⟨r,a,b.1,d,λe=>(b.2 e).1⟩;simp only[nS,bQ];by_cases c:aa=[];subst c;simp only[cj,gL,vw,aNR,eV,fe,aoz];grind [bc.nil];refine gD (e:=3) (new:=aa) bc.nil rfl (by decide) (by rw[show L eK=4096 from oA ..];decide) (by simp) g (by grind) λn Y' o m p _=>?_;grind [fe,aoz,absurd]
def Kr{Y:ae}{d:Nat}{K:be}{aa:List (List AV)}{x:AV}(p:dG Y x= .l aa I I)(o:∀r∈aa,L r=1)(n:L aa<1000000)(q:aa.all (λr=>r.all gY)=U)(c:d<L Y)(e:∀a Y',bc Y' 3 1 a aa->Fx Y Y' []->(∀k∈aA a,bK Y k/\k.1=d)->K a Y'):cN 133 [x] Y d K:=by obtain⟨r,i,g,h,_⟩:=aCM o n;have f:[x].map (dG Y)=[.l aa I I]:=(by simp[p]);refine .inl ⟨by rw[f];rfl,by simp[vg,c],r,i,by rw[f];exact h,?_⟩;rcases g with⟨j,rfl⟩|⟨b,rfl,m⟩;exact .inl ⟨rfl,e _ _ (.inl ⟨j,rfl⟩) (Fx.refl _ _) (by simp[aA])⟩;refine .inr ⟨b,_,_,rfl,m,?_,e _ _ (.inr ⟨lA Y d,rfl,iy c⟩) (kH c)<|by simp[aA,lA,bK]⟩;grind [qA]
theorem axo(n c:Nat)(w:World)(R:Ending->World->Prop)(a:R (.returned<|.slice J 0 0) w):Calls aS 132 #[.slice J n c] w R:=by have b:=λ(W:World)=>run_eql_slice_nil (P:=aS) W 33 4 J n c (by kernel_rfl);go_enter Tryz.func132,Tryz.ntmps132;go_wp2;exact a
theorem axs(A:Addr)(n c:Nat)(w:World)(R:Ending->World->Prop)(b:(nU Tryz.f132).wp aS (bodyPost aS Tryz.f132 R) {tmps:=#[.slice (V A) n c,undef, .slice J 0 0, .slice (V A) n c, .bool I,undef,undef,undef],defers:=[]} w):Calls aS 132 #[.slice (V A) n c] w R:=by have d:=λ(W:World)=>run_eql_slice_nil (P:=aS) W 33 4 (V A) n c (by kernel_rfl);go_enter Tryz.func132,Tryz.ntmps132;generalize a:(BM 3 _ I).seq ET=T;go_wp2;subst a;exact b
def aCL{aa:List (List AV)}(g:∀r∈aa,L r=1)(q:L aa<1000000):∃r a,bc a 4 1 r aa/\cZ aS GG 132 [.l aa I I] eK r a/\(aa=[]->r= .l [] U U):=by have h:=DX (fn:=132) (f:=Tryz.f132) (an:=[J,J]) Tryz.func132 rfl rfl (by grind [axo]) (by grind [axs]) (by kernel_rfl) (by kernel_rfl) (aa:=aa) (R:=λr a=>bc a 4 1 r aa/\(aa=[]->r= .l [] U U/\a=eK)) (aND (show iV aS GG [] [J,J] (nU Tryz.f132) 0 (tO aS Tryz.f132 λr a=>bc a 4 1 r aa/\(aa=[]->r= .l [] U U/\a=eK)) (gt<|xE<|.l aa I I) eK=(eV (aX BD 0 eK []) λk i=>eV (cj 4 BE 1 i 7 k<|.l aa I I) λt4 j=>fe (λr a=>bc a 4 1 r aa/\(aa=[]->r= .l [] U U/\a=eK)) j [t4]) by kernel_rfl) ?_) (λr a h=>h.2);obtain⟨r,a,b,d⟩:=h;exact⟨r,a,b.1,d,λe=>(b.2 e).1⟩;simp only[nS,bQ];by_cases c:aa=[];subst c;simp only[cj,gL,vw,aNR,eV,fe,aoz];grind [bc.nil];refine gD (e:=4) (new:=aa) bc.nil rfl (by decide) (by rw[show L eK=4096 from oA ..];decide) (by simp) g (by grind) λn Y' o m p _=>?_;grind [fe,aoz,absurd]
def aw2{Y:ae}{d:Nat}{K:be}{aa:List (List AV)}{x:AV}(p:dG Y x= .l aa I I)(o:∀r∈aa,L r=1)(n:L aa<1000000)(q:aa.all (λr=>r.all gY)=U)(c:d<L Y)(e:∀a Y',bc Y' 4 1 a aa->Fx Y Y' []->(∀k∈aA a,bK Y k/\k.1=d)->K a Y'):cN 132 [x] Y d K:=by obtain⟨r,i,g,h,_⟩:=aCL o n;have f:[x].map (dG Y)=[.l aa I I]:=(by simp[p]);refine .inl ⟨by rw[f];rfl,by simp[vg,c],r,i,by rw[f];exact h,?_⟩;rcases g with⟨j,rfl⟩|⟨b,rfl,m⟩;exact .inl ⟨rfl,e _ _ (.inl ⟨j,rfl⟩) (Fx.refl _ _) (by simp[aA])⟩;refine .inr ⟨b,_,_,rfl,m,?_,e _ _ (.inr ⟨lA Y d,rfl,iy c⟩) (kH c)<|by simp[aA,lA,bK]⟩;grind [qA]
theorem axn(n c:Nat)(w:World)(R:Ending->World->Prop)(a:R (.returned<|.slice J 0 0) w):Calls aS 182 #[.slice J n c] w R:=by have b:=λ(W:World)=>run_eql_slice_nil (P:=aS) W 34 85 J n c (by kernel_rfl);go_enter Tryz.func182,Tryz.ntmps182;go_wp2;exact a
theorem axr(A:Addr)(n c:Nat)(w:World)(R:Ending->World->Prop)(b:(nU Tryz.f182).wp aS (bodyPost aS Tryz.f182 R) {tmps:=#[.slice (V A) n c,undef, .slice J 0 0, .slice (V A) n c, .bool I,undef,undef,undef],defers:=[]} w):Calls aS 182 #[.slice (V A) n c] w R:=by have d:=λ(W:World)=>run_eql_slice_nil (P:=aS) W 34 85 (V A) n c (by kernel_rfl);go_enter Tryz.func182,Tryz.ntmps182;generalize a:(BM 3 _ I).seq ET=T;go_wp2;subst a;exact b
def aCK{aa:List (List AV)}(g:∀r∈aa,L r=3)(q:L aa<1000000):∃r a,bc a 85 3 r aa/\cZ aS GG 182 [.l aa I I] eK r a/\(aa=[]->r= .l [] U U):=by have h:=DX (fn:=182) (f:=Tryz.f182) (an:=[J,J]) Tryz.func182 rfl rfl (by grind [axn]) (by grind [axr]) (by kernel_rfl) (by kernel_rfl) (aa:=aa) (R:=λr a=>bc a 85 3 r aa/\(aa=[]->r= .l [] U U/\a=eK)) (aND (show iV aS GG [] [J,J] (nU Tryz.f182) 0 (tO aS Tryz.f182 λr a=>bc a 85 3 r aa/\(aa=[]->r= .l [] U U/\a=eK)) (gt<|xE<|.l aa I I) eK=(eV (aX biW 0 eK []) λk i=>eV (cj 85 aQ2 24 i 7 k<|.l aa I I) λt4 j=>fe (λr a=>bc a 85 3 r aa/\(aa=[]->r= .l [] U U/\a=eK)) j [t4]) by kernel_rfl) ?_) (λr a h=>h.2);obtain⟨r,a,b,d⟩:=h;exact⟨r,a,b.1,d,λe=>(b.2 e).1⟩;simp only[nS,bQ];by_cases c:aa=[];subst c;simp only[cj,gL,vw,aNR,eV,fe,aoz];grind [bc.nil];refine gD (e:=85) (new:=aa) bc.nil rfl (by decide) (by rw[show L eK=4096 from oA ..];decide) (by simp) g (by grind) λn Y' o m p _=>?_;grind [fe,aoz,absurd]
def aw1{Y:ae}{d:Nat}{K:be}{aa:List (List AV)}{x:AV}(p:dG Y x= .l aa I I)(o:∀r∈aa,L r=3)(n:L aa<1000000)(q:aa.all (λr=>r.all gY)=U)(c:d<L Y)(e:∀a Y',bc Y' 85 3 a aa->Fx Y Y' []->(∀k∈aA a,bK Y k/\k.1=d)->K a Y'):cN 182 [x] Y d K:=by obtain⟨r,i,g,h,_⟩:=aCK o n;have f:[x].map (dG Y)=[.l aa I I]:=(by simp[p]);refine .inl ⟨by rw[f];rfl,by simp[vg,c],r,i,by rw[f];exact h,?_⟩;rcases g with⟨j,rfl⟩|⟨b,rfl,m⟩;exact .inl ⟨rfl,e _ _ (.inl ⟨j,rfl⟩) (Fx.refl _ _) (by simp[aA])⟩;refine .inr ⟨b,_,_,rfl,m,?_,e _ _ (.inr ⟨lA Y d,rfl,iy c⟩) (kH c)<|by simp[aA,lA,bK]⟩;grind [qA]
theorem axq(n c:Nat)(w:World)(R:Ending->World->Prop)(a:R (.returned<|.slice J 0 0) w):Calls aS 204 #[.slice J n c] w R:=by have b:=λ(W:World)=>run_eql_slice_nil (P:=aS) W 37 2 J n c (by kernel_rfl);go_enter Tryz.func204,Tryz.ntmps204;go_wp2;exact a
theorem axu(A:Addr)(n c:Nat)(w:World)(R:Ending->World->Prop)(b:(nU Tryz.f204).wp aS (bodyPost aS Tryz.f204 R) {tmps:=#[.slice (V A) n c,undef, .slice J 0 0, .slice (V A) n c, .bool I,undef,undef,undef],defers:=[]} w):Calls aS 204 #[.slice (V A) n c] w R:=by have d:=λ(W:World)=>run_eql_slice_nil (P:=aS) W 37 2 (V A) n c (by kernel_rfl);go_enter Tryz.func204,Tryz.ntmps204;generalize a:(BM 3 _ I).seq ET=T;go_wp2;subst a;exact b
def aCN{aa:List (List AV)}(g:∀r∈aa,L r=1)(q:L aa<1000000):∃r a,bc a 2 1 r aa/\cZ aS GG 204 [.l aa I I] eK r a/\(aa=[]->r= .l [] U U):=by have h:=DX (fn:=204) (f:=Tryz.f204) (an:=[J,J]) Tryz.func204 rfl rfl (by grind [axq]) (by grind [axu]) (by kernel_rfl) (by kernel_rfl) (aa:=aa) (R:=λr a=>bc a 2 1 r aa/\(aa=[]->r= .l [] U U/\a=eK)) (aND (show iV aS GG [] [J,J] (nU Tryz.f204) 0 (tO aS Tryz.f204 λr a=>bc a 2 1 r aa/\(aa=[]->r= .l [] U U/\a=eK)) (gt<|xE<|.l aa I I) eK=(eV (aX yW 0 eK []) λk i=>eV (cj 2 EN 8 i 7 k<|.l aa I I) λt4 j=>fe (λr a=>bc a 2 1 r aa/\(aa=[]->r= .l [] U U/\a=eK)) j [t4]) by kernel_rfl) ?_) (λr a h=>h.2);obtain⟨r,a,b,d⟩:=h;exact⟨r,a,b.1,d,λe=>(b.2 e).1⟩;simp only[nS,bQ];by_cases c:aa=[];subst c;simp only[cj,gL,vw,aNR,eV,fe,aoz];grind [bc.nil];refine gD (e:=2) (new:=aa) bc.nil rfl (by decide) (by rw[show L eK=4096 from oA ..];decide) (by simp) g (by grind) λn Y' o m p _=>?_;grind [fe,aoz,absurd]
def jC(l:List Int):Prop:=∀i,i+1<L l->gd l i<gd l (i+1)
def AD{l:List Int}(h:jC l):∀{i j:Nat},i<j->j<L l->gd l i<gd l j:=by intro i j c a;induction j with|zero=>omega|succ j e=>have d:=h j a;grind
section
variable{Y:ae}{b:Id}{l:List Int}{n:Nat}{K:o8}
theorem mx{e:TypeId}{i:Int}{o v:Bool}{aa:List (List AV)}(d:box Y b=V ⟨e,1,o,v,aa⟩)(h:aF n i):rV (cz 1 Y (.m b n)<|iv i) K=K (.p b i.toNat 0):=by have a:0<=i:=h.1;have c:i.toNat<n:=(by have:=h.1;have:=h.2;omega);grind [cz,rV]
theorem ml{e:TypeId}{o v:Bool}{k:Nat}(a:box Y b=V ⟨e,1,o,v,l.map ci⟩)(c:k<L l):lS J Y (.p b k 0)=V (iv<|gd l k):=by grind [lS,iE,aN,bT]
end
theorem aIh{l:List Int}{k:Nat}{x:Int}:(l.map ci).set k ((ci<|gd l k).set 0<|iv x)=(l.set k x).map ci:=by simp
def Qo{Y:ae}{b:Id}{l:List Int}{k:Nat}{x:Int}{K:ae->Prop}(c:box Y b=V ⟨3,1,U,I,l.map ci⟩)(d:k<L l)(a:∀Y',Fx Y Y' [b]->box Y' b=V ⟨3,1,U,I,(l.set k x).map ci⟩->K Y'):sV (aK 1 Y (.p b k 0)<|iv x) K:=by have e:(l.map ci)[k]?=V (ci<|gd l k):=(by grind [eC,bT]);grind [wL,aIh]
def Dt{a b:List Int}{k:Nat}(h:k<L a):gd (a++b) k=gd a k:=by grind [bT,List.getElem_append_left]
def aBD{a:List Int}{j k:Nat}(h:k<j)(c:k<L a):gd (a.take j) k=gd a k:=by grind [bT]
def aBB{a d:List Int}{t:Int}:gd (a++t::d) (L a)=t:=by grind [bT]
def aIA{r:List Int}{t:Int}{j:Nat}(c:0<j)(g:j<=L r):((r.take j++t::r.drop j).set j<|gd r<|j-1).set (j-1) t=r.take (j-1)++t::r.drop (j-1):=by obtain⟨i,rfl⟩:∃i,j=i+1:=⟨j-1,by omega⟩;have a:i<L r:=(by omega);have d:r.take (i+1)=r.take i++[gd r i]:=(by rw[iJ a,bT a]);have e:r.drop i=gd r i::r.drop (i+1):=(by rw[List.drop_eq_getElem_cons a,bT a]);have f:L (r.take i)=i:=(by simp;omega);simp_all
def aCw{Y:ae}{b:Id}{r:List Int}{t:Int}(q:jC r)(ht:t∉r)(hn:L r<12)(M:box Y b=V ⟨3,1,U,I,(r++[t]).map ci⟩)(hl:L Y=4096):∃y f,(y= .t []/\box f b=V ⟨3,1,U,I,(fk r t).map ci⟩/\Fx Y f [b])/\cZ aS GG 258 [.m b<|L r+1,iv 0,iv ((L r+1:Nat):Int)] Y y f:=by refine aME hl ?_;simp only[JT,cS,aY,↓uL];rw[show dq.wrap (0+1)=((1:Nat):Int) from rfl];refine AI (α:=Unit) (λ_ i=>[iv i]) 0 (L r+1) 1 (by omega) (λi _ Y'=>1<=i/\box Y' b=V ⟨3,1,U,I,(if i<L r+1 then r++[t] else fk r t).map ci⟩/\Fx Y Y' [b]) (s0:=()) ⟨by omega,?_,Fx.refl _ _⟩ ?_;split;exact M;have:r=[]:=(by simp_all);subst this;exact M;rintro i _ f hi ⟨ac,p,F1⟩;simp only[qz 7,aI,au,u0,u1,↓uL];refine⟨λh=>?_,λh=>?_⟩;have x:=aL h;rw[hH x] at p;have e:∀{k:Nat},k<L r+1->k<L (r++[t]):=λh=>(by simp;omega);have nx:∀g,box g b=V ⟨3,1,U,I,(if i+1<L r+1 then r++[t] else fk r t).map ci⟩->Fx Y g [b]->yI (λ(_:Unit) i=>[iv i]) (L r+1) (λi _ Y'=>1<=i/\box Y' b=V ⟨3,1,U,I,(if i<L r+1 then r++[t] else fk r t).map ci⟩/\Fx Y Y' [b]) [iv<|dq.wrap<|(i:Int)+1] g/\gM 0 (L r+1) [iv<|dq.wrap<|(i:Int)+1] g<gM 0 (L r+1) [iv i] f:=λg N z=>yU x ⟨by omega,N,z⟩;have R:Q ((0:Int)<(i:Int))=U:=(by simp;omega);have C:∀j:Nat,0<j->j<100->dq.wrap ((j:Int)-1)=((j-1:Nat):Int):=(by grind [eM]);rcases jj i (L r) with u|u;refine⟨λvs Y'=>vs=[iv i]/\Y'=f,λ_ _=>0,⟨rfl,rfl⟩,?_⟩;rintro vs Y' ⟨rfl,rfl⟩;have T:Q (gd (r++[t]) i<gd (r++[t]) (i-1))=I:=(by rw[Dt u,Dt<|by omega];have:=AD q (show i-1<i by omega) u;simp;omega);simp only[qz 37,aI,au,u0,u1,R,jA,qE,C i (by omega) (by omega),mx p<|dJ<|show i<L r+1 by omega,mx p<|dJ<|show i-1<L r+1 by omega,bh,ml p<|e<|show i<L r+1 by omega,ml p<|e<|show i-1<L r+1 by omega,ar,ut,T,uO,aNN,eE,aNG,aNU,bR,AL,↓uL];simp_all;obtain rfl:i=L r:=(by omega);refine⟨λvs Y'=>∃j:Nat,j<=L r/\vs=[iv j]/\box Y' b=V ⟨3,1,U,I,(r.take j++t::r.drop j).map ci⟩/\(∀k,j<=k->k<L r->t<gd r k)/\Fx Y Y' [b],λvs _=>match gt vs 0 with| .s (.int _ i)=>i.toNat|_=>0,(by grind),?_⟩;rintro vs Y' ⟨j,S,rfl,o,Z,D⟩;have w:L (r.take j++t::r.drop j)=L r+1:=(by simp;omega);have G:(∀k,k<j->gd r k<t)->box Y' b=V ⟨3,1,U,I,(if L r+1<L r+1 then r++[t] else fk r t).map ci⟩:=λA=>(by rw[j1 (by omega),o];congr 3;rw[QJ r t j S A (by grind),j1];grind);rcases oD j with rfl|v;simp only[qz 37,aI,au,u0,u1,Int.lt_irrefl,Int.ofNat_eq_natCast,Int.natCast_zero,aPy,jN,Bc,eE,aNG,aNU,bR,↓uL];simp_all;have B:Q ((0:Int)<(j:Int))=U:=(by simp;omega);have O:gd (r.take j++t::r.drop j) j=t:=(by have:=aBB (a:=r.take j) (d:=r.drop j) (t:=t);simp_all);have P:gd (r.take j++t::r.drop j) (j-1)=gd r (j-1):=(by rw[Dt (by simp;omega),aBD (by omega)<|by omega]);simp only[qz 37,aI,au,u0,u1,B,jA,qE,C j v (by omega),mx o<|dJ<|show j<L r+1 by omega,mx o<|dJ<|show j-1<L r+1 by omega,bh,ml o (show j<_ by rw[w];omega),ml o (show j-1<_ by rw[w];omega),ar,ut,O,P,uO,aNN,aNU,bR,AL,↓uL];refine⟨λc=>?_,λc=>?_⟩;have ab:=awG c;refine Qo o (by omega) λg z E=>?_;simp only[qz 2,mx E<|dJ<|show j-1<L r+1 by omega,bh,↓uL];refine Qo E (by simp;omega) λY3 W F=>?_;simp only[qz 4,↓uL];refine dT rfl ?_;simp only[au,u0,u1,C j v (by omega),↓uL];rw[aIA v S] at F;refine⟨⟨j-1,by omega,rfl,F,λk X h2=>?_,(D.trans<|z.trans W).mono<|by simp⟩,by omega⟩;grind;have ad:=bd2 c;refine nx _ (G λk hk=>?_) D;have X:gd r (j-1)<t:=(by grind [gd,dB]);rcases jj k (j-1) with H|H;have:=AD q H (by omega);omega;grind;grind [Nat.le_antisymm,bw,fe,aoz]
def aCq{Y:ae}{b:Id}{l:List Int}(f:jC l)(c:box Y b=V ⟨3,1,U,I,l.map ci⟩)(o:L Y=4096)(s:L l<1000):∃e g,(e= .m b (L l)/\g=Y)/\cZ aS GG 186 [.m b<|L l] Y e g:=by refine aMy o ?_;have d:fS Y (.m b<|L l)=V (iv<|L l):=(by simp[fS,c]);simp only[JN,d,u0,u1,↓uL];refine⟨λh=>by simp[fe,aoz],λh=>?_⟩;show lV [iv ((1:Nat):Int)] _ _;refine AI (α:=Unit) (λ_ i=>[iv i]) 0 (L l) 1 (by grind) (λi _ Y'=>1<=i/\Y'=Y) (s0:=()) ⟨by omega,rfl⟩ ?_;rintro i _ Y' r ⟨q,rfl⟩;simp only[qz 37,aI,au,d,u0,u1,↓uL];refine⟨λj=>?_,λj=>by simp[fe,aoz]⟩;have a:=aL j;have p:dq.wrap ((i:Int)-1)=((i-1:Nat):Int):=(by grind [eM]);have k:Q (gd l i=gd l (i-1))=I:=(by have:=AD f (show i-1<i by omega) a;simp;omega);simp only[mx c<|dJ a,bh,ml c a,u0,u1,p,mx c<|dJ<|show i-1<L l by omega,ml c (show i-1<L l by omega),k,eE,aNG,aNU,bR,↓uL];exact yU a ⟨by omega,rfl⟩
def alB{Y:ae}{d:Nat}{K:be}{b:Id}{t x:Int}{e:TypeId}(c:box Y b=V ⟨e,1,U,U,[[iv t]]⟩)(g:L Y=4096)(a:K (bv<|Q<|x=t) Y):cF (.f 188 [] [.p b 0 0]) [iv x] Y d K:=by simp only[cF,bqK];rw[j1 (show¬GG.nw 188=U by decide),hH<|show GG.imp 188=U by decide];refine(aS2 rfl (aK2 g ?_) a:cB 188 [iv x, .p b 0 0] Y d K);simp only[Ij,u0,u1,c,iF,fe,aoz,ip,↓uL];grind [Fx.refl]
def aCv{Y:ae}{b c:Id}{l:List Int}{t:Int}{e:TypeId}(g:box Y b=V ⟨3,1,U,I,l.map ci⟩)(r:box Y c=V ⟨e,1,U,U,[[iv t]]⟩)(o:L Y=4096)(w:L l<1000):∃d i,(d=iv (oW l t)/\Fx Y i [])/\cZ aS GG 230 [.m b<|L l, .f 188 [] [.p c 0 0]] Y d i:=by refine aMB o ?_;have q:fS Y (.m b<|L l)=V (iv<|L l):=(by simp[fS,g]);simp only[JQ,q,u0,u1,↓uL];refine yV (L l) (λk _ Y'=>Y'=Y/\∀j,j<k->gd l j≠t) ⟨rfl,by simp⟩ ?_;rintro k _ Y' v ⟨rfl,u⟩;simp only[qz 19,aI,au,u0,u1,↓uL];refine⟨λh=>?_,λh=>?_⟩;have a:=aL h;simp only[mx g<|dJ a,bh,ml g a,aY,↓uL];refine alB r o ?_;simp only[u0,u1,↓uL];refine⟨λs=>?_,λs=>yU a<|by grind⟩;grind [fe,aoz,anR,Fx.refl];grind [fe,aoz,anS,C3,bw,Fx.refl]
def gH(s:aW)(nt lD:Int)(k:Nat):Int:=if eh s nt k=[] then-1 else if lD∈eh s nt k then lD else gd (eh s nt k) 0
theorem AN{s:aW}{nt x:Int}{k:Nat}:x∈eh s nt k↔∃i:Nat,i<k/\pe s nt i=U/\x=i:=by grind [eh]
theorem Li{s:aW}{nt:Int}{k:Nat}(h:eh s nt k≠[]):0<=gd (eh s nt k) 0/\gd (eh s nt k) 0<k:=by grind [dB,eh,aqS,AN]
def axd{s:aW}{nt lD:Int}{k:Nat}(h:0<=gH s nt lD k):gH s nt lD k<k/\eh s nt k≠[]:=by grind [gH,AN,Li]
def axe{s:aW}{nt lD:Int}{k:Nat}:gH s nt lD (k+1)=if(pe s nt k&&(Q (gH s nt lD k<0)||Q ((k:Int)=lD)))=U then(k:Int) else gH s nt lD k:=by have d:=vc s nt k;cases j:pe s nt k with|false=>grind [eE,gH]|true=>rw[j,hH rfl] at d;simp only[iw];by_cases c:eh s nt k=[];have f:gH s nt lD k= -1:=(by grind [gH]);rw[f,hH (by simp),gH,d,c];simp only[dW,List.cons_ne_nil,bcV,cE];split;omega;rfl;have m:¬gH s nt lD k<0:=(by rw[gH,j1 c];split;grind [AN];simp_all [Li]);rw[show Q (gH s nt lD k<0)=I by grind,lG];rw[gH,d,j1<|by simp];by_cases i:(k:Int)=lD;simp_all;rw[j1 (show¬Q ((k:Int)=lD)=U by simpa using i),gH,j1 c];have e:lD∈eh s nt k++[(k:Int)]↔lD∈eh s nt k:=(by grind);have g:gd (eh s nt k++[(k:Int)]) 0=gd (eh s nt k) 0:=Dt<|aqS.2 c;by_cases a:lD∈eh s nt k;rw[hH<|e.2 a,hH a];rw[j1<|λh=>a<|e.1 h,j1 a,g]
def giT{Y:ae}{a:AV}{l:List aoC}{k:Nat}{K:o8}(d:bc Y 85 3 a<|l.map aoC.c)(g:k<L l):(rV (cz 3 Y a<|iv k) λt=>rV (lS (V 3) Y t) K)=K (.a (gd l k).c):=by rcases d with⟨e,_⟩|⟨b,rfl,f⟩;simp_all;simp_all [cz,rV,lS,iE,aN,bT,aoC.c]
def DB{Y:ae}{a:AV}{l:List aoC}{i:Int}{j:Nat}{x:Value}{K:AV->be}(r:bc Y 85 3 a<|l.map aoC.c)(e:aF (L l) i)(y:j<3)(g:aoC)(v:(gd l i.toNat).c.set j (.s x)=g.c)(t:∀b Y',aA a=[b]->Fx Y Y' (aA a)->bc Y' 85 3 a ((l.set i.toNat g).map aoC.c)->K (.p b i.toNat 0) (.p b i.toNat j) Y'):rV (cz 3 Y a<|iv i) λp=>rV (iQ j Y p) λq=>sV (aK 1 Y q<|.s x) (K p q):=by have o:i.toNat<L l:=(by have:=e.1;have:=e.2;omega);rcases r with⟨w,_⟩|⟨b,rfl,d⟩;simp_all;have f:cz 3 Y (.m b<|L<|l.map aoC.c) (iv i)=V (.p b i.toNat 0):=(by simp[cz,e.1,d,o]);rw[f];simp only[rV,rR,d,df,aj];have u:(l.map aoC.c)[i.toNat]?=V (gd l i.toNat).c:=(by grind [eC,bT]);refine wL d u (by grind [aoC.c]) λY' h k=>t b Y' rfl h ?_;rw[v] at k;refine .inr ⟨b,by simp,?_⟩;simp_all
def aCD(s:aW)(nt lD:Int){T x2 f:AV}{Y:ae}(B:L Y=4096)(hn:L s.ay<1000)(P:bc Y 85 3 f<|s.ay.map aoC.c):∃r d,(r=iv (gH s nt lD<|L s.ay)/\bc d 85 3 f ((if 0<=gH s nt lD (L s.ay) then s.ay.set (gH s nt lD<|L s.ay).toNat {gd s.ay (gH s nt lD<|L s.ay).toNat with cQ:=4} else s.ay).map aoC.c)/\Fx Y d (aA f))/\cZ aS GG 189 [.a [T,iv s.tx,x2,f],iv nt,iv lD] Y r d:=by refine aK7 B rfl λq v3 K2 Z nf v=>?_;have u:=K2.fx [];have x:=P.fx u (by simp);have D:L q=4096:=K2.len.trans B;simp only[Ir,u0,u1,v,aj,iF,nM,ip,lnI x,bJ,↓uL];refine jD (α:=Int) (λa i=>[iv a,iv i]) 1 (L s.ay) (λk a Y'=>a=gH s nt lD k/\Fx q Y' []) (s0:= -1) ⟨by simp[gH,eh],Fx.refl _ _⟩ ?_;rintro k _ d hk ⟨rfl,e⟩;have y:=x.fx e (by simp);have C:L d=4096:=e.len.trans D;have N:=e.kq v;simp only[abF,aI,au,ck,u0,u1,di,↓uL];refine⟨λh=>?_,λh=>?_⟩;have j:=aL h;simp only[abE,au,ck,giT y j,↓uL];refine so C λS Y2 G N2 O=>?_;refine cy (cs:=aoC.c<|gd s.ay k) O rfl rfl (by decide) λm H w=>?_;have o:box m (9,S)=V ⟨85,3,U,U,[aoC.c<|gd s.ay k]⟩:=w;have t:Fx d m []:=(G.trans H).mono (by grind [bK.no]);have nx:∀a:Int,a=gH s nt lD (k+1)->Iv [iv<|gH s nt lD k,iv k] (yI (λa i=>[iv a,iv i]) (L s.ay) λk a Y'=>a=gH s nt lD k/\Fx q Y' []) (gM 1<|L s.ay) d [iv a] m:=(by rintro a rfl;simp only[Iv,aI,au,ck,u0,u1,↓uL];exact dR (mk:=λa i=>[iv a,iv i]) (p:=1) (s:=gH s nt lD k) (s':=gH s nt lD<|k+1) (λ_ _=>rfl) j (by omega) ⟨rfl,e.trans t⟩);have W:=axe (s:=s) (nt:=nt) (lD:=lD) (k:=k);have E:(Q ((gd s.ay k).cQ=3)&&Q ((gd s.ay k).cond=nt))=pe s nt k:=rfl;simp+contextual only[abC,u0,u1,o,rk,ar,ut,aj,au,ck,E,↓uL];refine⟨λR=>nx _ ?_,λR=>nx _ ?_⟩;simp_all;simp_all;obtain rfl:k=L s.ay:=(by grind);have M:Fx Y d []:=(u.trans e).mono (by simp);simp only[abD,au,ck,u0,u1,↓uL];refine⟨λA=>?_,λA=>?_⟩;have g:=awG A;have z:=(axd g).1;simp only[N,u0,u1,aj,iF,nM,ip,↓uL];refine DB y ⟨g,z⟩ (by decide) {gd s.ay (gH s nt lD<|L s.ay).toNat with cQ:=4} rfl λb Y' X F g'=>?_;simp only[Iu,aI,au,fe,aoz,↓uL];refine⟨trivial,?_,(M.trans F).mono<|by simp_all⟩;simp_all;simp only[Iu,aI,au,fe,aoz,↓uL];grind [Fx.mono]
abbrev mH(s:aW)(l:List Int):aW:=l.foldl (λs u=>ni s u {fA s u with cQ:=4}) s
def anr:∀(l:List Int) (s:aW),L (mH s l).ay=L s.ay
 |[],s=>rfl
 |u::l,s=>by
  show L (mH (ni s u _) l).ay=_
  rw[anr l];simp[ni]
theorem anq:∀(l:List Int) (s:aW) (k:Nat),(∀u∈l,u.toNat≠k)->gd (mH s l).ay k=gd s.ay k
 |[],s,k,_=>rfl
 |u::l,s,k,h=>by
  show gd (mH (ni s u _) l).ay k=_
  rw[anq l _ k<|by simp_all]
  grind [ni,gd]
def aD2(s:aW)(l:List Int)(u:Int):mH s (l++[u])=ni (mH s l) u {fA (mH s l) u with cQ:=4}:=by simp[mH]
def aCE(s:aW)(nt:Int){x1 x2 d:AV}{Y:ae}(F:L Y=4096)(hn:L s.ay<1000)(v:bc Y 85 3 d<|s.ay.map aoC.c):∃r f,(r=iv (L<|fO s nt)/\bc f 85 3 d ((mH s<|fO s nt).ay.map aoC.c)/\Fx Y f (aA d))/\cZ aS GG 190 [.a [x1,iv s.tx,x2,d],iv nt] Y r f:=by refine aK8 F rfl λO v3 K2 ah nf q=>?_;have z:=K2.fx [];have C:=v.fx z (by simp);have H:L O=4096:=K2.len.trans F;have y:∀{P:ae} {l:List aoC} {w:Id} {x:bY},bc P 85 3 d (l.map aoC.c)->box P w=V x->x.var=U->w∉aA d:=λv hw hx hm=>(by rcases v with⟨_,rfl⟩|⟨b,rfl,o⟩;simp[aA] at hm;grind [aA,cE]);simp only[Is,u0,u1,q,aj,iF,nM,ip,lnI C,bJ,↓uL];refine jD (α:=Int) (λa i=>[iv a,iv i]) 1 (L s.ay) (λk a Y'=>a=(L (eh s nt k):Int)/\bc Y' 85 3 d ((mH s<|eh s nt k).ay.map aoC.c)/\Fx O Y' (aA d)) (s0:=0) (by grind [eh,Fx.refl]) ?_;rintro k _ f hk ⟨rfl,u,g⟩;have G:L f=4096:=g.len.trans H;have W:=g.keep _ _ (y C q rfl) q;have M:=anr (eh s nt k) s;have ag:=wU s nt k;simp only[qz 25,aI,au,ck,u0,u1,di,↓uL];refine⟨λh=>?_,λh=>?_⟩;have j:=aL h;have E:gd (mH s<|eh s nt k).ay k=gd s.ay k:=(by grind [anq,AN]);simp only[qz 47,qy 4,au,ck,giT u (by rw[M];exact j),E,↓uL];refine so G λv9 Y2 S N2 Z=>?_;refine cy (cs:=aoC.c<|gd s.ay k) Z rfl rfl (by decide) λA T B=>?_;have t:box A (7,v9)=V ⟨85,3,U,U,[aoC.c<|gd s.ay k]⟩:=B;have e:Fx f A []:=(S.trans T).mono (by grind [bK.no]);have D:=u.fx e (by simp);have X:=e.kq W;have m:=vc s nt k;have N:(Q ((gd s.ay k).cQ=3)&&Q ((gd s.ay k).cond=nt))=pe s nt k:=rfl;simp+contextual only[qz 6,qy 8,u0,u1,t,rk,ar,ut,aj,au,ck,N,↓uL];refine⟨λo=>?_,λo=>?_⟩;rw[o,hH rfl] at m;simp only[X,u0,u1,aj,iF,nM,ip,↓uL];refine DB D (by grind [dJ]) (by decide) {fA (mH s<|eh s nt k) k with cQ:=4} rfl λb Y' af R g'=>?_;simp only[qz 45,aI,au,ck,u0,u1,↓uL];refine dR (mk:=λa i=>[iv a,iv i]) (p:=1) (s:=(L (eh s nt k):Int)) (s':=dq.wrap<|(L (eh s nt k):Int)+1) (λ_ _=>rfl) j (by omega) ?_;refine⟨?_,?_,(g.trans<|e.trans R).mono<|by simp_all⟩;grind [fX];rw[m,aD2];exact g';rw[o] at m;simp only[eE,bcV,cL] at m;simp only[qz 45,aI,au,ck,u0,u1,↓uL];refine dR (mk:=λa i=>[iv a,iv i]) (p:=1) (s:=(L (eh s nt k):Int)) (s':=(L (eh s nt k):Int)) (λ_ _=>rfl) j (by omega) ?_;rw[m];exact⟨rfl,D,(g.trans e).mono<|by simp_all⟩;obtain rfl:k=L s.ay:=(by grind);simp only[fe,aoz];exact⟨rfl,u,(z.trans g).mono<|by simp_all⟩
def apl:dO:=apn
def yR:eJ apl:=wR
def aBn:=@ut
def atE:=bA 13 [(4,([13],[1,2,3,11,12]))]
def Iq a b R:=(.mk _:NF<|zF GG apl atE Tryz.f184 [.u] [a] b<|QDb Tryz.f184 R).p
def aJp{a:AV}{s0:ae}{R:be}(h:eV (u4 36 4 s0 1 a) λb c=>Iq b c R):EB 184 [a] s0 R:=zB atE yR Tryz.func184 h
def aK6{c0:List AV}{s0:ae}{R:be}(f:L s0=4096)(l0:L c0=4)(h:∀(b:ae) (c:Nat),Kp s0 b->(∀k,k≠1->aZ b k=aZ s0 k)->(∀x,box s0 (1,c)≠V x)->box b (1,c)=V ⟨36,4,U,U,[c0]⟩->Iq (.p (1,c) 0 0) b R):EB 184 [.a c0] s0 R:=by refine aJp ?_;refine iN rfl l0 (by decide) (by decide) f λb c i g0 j d=>?_;exact h b c i (λk e=>g0 k e) (λx g=>j x<|(Kp.refl _).keep _ _ g) d
def avc:=bA 34 [(2,([1,2,3,8,9],[0])),(10,([3],[0,1,2,8,9,10])),(14,([11,12],[0,1,2,3,8,9,10])),(18,([],[0,1,2,3,8,9,10,11]))]
def JU a b c d s0 R:=(.mk _:NF<|zF GG apl avc Tryz.f228 [a,b,c,d] [] s0<|QDb Tryz.f228 R).p
def aJS{a b c d:AV}{s0:ae}{R:be}(h:JU a b c d s0 R):EB 228 [a,b,c,d] s0 R:=zB avc yR Tryz.func228 h
def aMF{a b c d:AV}{s0:ae}{R:be}(e:L s0=4096)(h:JU a b c d s0 R):EB 228 [a,b,c,d] s0 R:=by refine aJS ?_;exact h
def ava:=bA 1 []
def JS a s0 R:=(.mk _:NF<|zF GG apl ava Tryz.f185 [a] [] s0<|QDb Tryz.f185 R).p
def aJQ{a:AV}{s0:ae}{R:be}(h:JS a s0 R):EB 185 [a] s0 R:=zB ava yR Tryz.func185 h
def aMD{a:AV}{s0:ae}{R:be}(b:L s0=4096)(h:JS a s0 R):EB 185 [a] s0 R:=by refine aJQ ?_;exact h
def au7:=bA 16 [(7,([5,6],[0,1])),(10,([5],[0,1,6]))]
def JO a b s0 R:=(.mk _:NF<|zF GG apl au7 Tryz.f187 [a,b] [] s0<|QDb Tryz.f187 R).p
def aJO{a b:AV}{s0:ae}{R:be}(h:JO a b s0 R):EB 187 [a,b] s0 R:=zB au7 yR Tryz.func187 h
def aMA{a b:AV}{s0:ae}{R:be}(c:L s0=4096)(h:JO a b s0 R):EB 187 [a,b] s0 R:=by refine aJO ?_;exact h
def atB:=bA 12 []
def In b a c d e f R:=(.mk _:NF<|zF GG apl atB Tryz.f183 [.u, .u,c,d,e] [b,a] f<|I3 Tryz.f183 R).p
def aK3{c0:List AV}{b:List AV}{c d e:AV}{R:o8}(l0:L c0=6)(l1:L b=4)(h:H2 31 6 5 c0 36 4 6 b λia f g=>In ia f c d e g R):Ct 183 [.a c0, .a b,c,d,e] R:=z2 atB yR Tryz.func183 l0 l1 h
def aCG{Y:ae}{b:Id}{r:List Int}{t d:Int}(e:jC r)(k:t∉r)(j:L r<12)(i:box Y b=V ⟨3,1,U,I,(r++[t]).map ci⟩)(f:L Y=4096):∃a c,(a= .t []/\box c b=V ⟨3,1,U,I,(fk r t).map ci⟩/\Fx Y c [b])/\cZ aS GG 228 [.m b<|L r+1,iv 0,iv ((L r+1:Nat):Int),iv d] Y a c:=by refine aMF f ?_;simp only[JU,↓uL];refine⟨λvs Y'=>vs=[iv 0,iv ((L r+1:Nat):Int),iv d,bv U,bv U]/\Y'=Y,λ_ _=>0,⟨rfl,rfl⟩,?_⟩;rintro vs Y' ⟨rfl,rfl⟩;have g:Q (((L r+1:Nat):Int)<=12)=U:=(by simp;omega);simp only[qz 13,qy 2,aI,au,ck,u0,u1,Int.sub_zero,eM (x:=((L r+1:Nat):Int)) (by omega) (by omega),g,↓iC,↓uL];refine jH rfl (aCw e k j i f) ?_;rintro a c ⟨rfl,l,h⟩;exact⟨h.len,by grind [fe,aoz]⟩
def aCO{Y:ae}{b:Id}{r:List Int}{t:Int}(d:jC r)(l:t∉r)(j:L r<12)(e:box Y b=V ⟨3,1,U,I,(r++[t]).map ci⟩)(g:L Y=4096):∃a c,(a= .t []/\box c b=V ⟨3,1,U,I,(fk r t).map ci⟩/\Fx Y c [b])/\cZ aS GG 185 [.m b<|L r+1] Y a c:=by refine aMD g ?_;have h:fS Y (.m b<|L r+1)=V (iv ((L r+1:Nat):Int)):=(by simp[fS,e]);have f:sO (V .u64) (iv ((L r+1:Nat):Int))=V (.s<|.int .u64 ((L r+1:Nat):Int)):=(by show V (AV.s<|.int .u64<|IntKind.u64.wrap _)=_;grind [IntKind.wrap_u64]);simp only[JS,qy 2,h,aY,f,ar,ut,jM,↓uL];refine⟨by omega,?_⟩;rintro k ⟨n,rfl⟩;refine⟨.inl rfl,?_⟩;refine jH rfl (aCG d l j e g) ?_;rintro a c ⟨rfl,o,i⟩;exact⟨i.len,by grind [fe,aoz]⟩
def apJ{l:List Int}{t:Int}{j:Nat}(h:j<L l):fJ (l.take<|j+1) t=fJ (l.take j) t++if gd l j≠t then[gd l j] else[]:=by grind [fJ,iJ,bT]
theorem aE6{l:List Int}{t:Int}(h:t∈l):∃i:Nat,oW l t=i/\i<L l/\gd l i=t/\∀j,j<i->gd l j≠t:=by have a:(l.findIdx? λx=>Q<|x=t).isSome=U:=(by simp_all);grind [Option.isSome_iff_exists,List.findIdx?_eq_some_iff_getElem,oW,bT]
def aCs{Y:ae}{b c:Id}{l:List Int}{t:Int}{e:TypeId}(hm:t∈l)(B:box Y b=V ⟨3,1,U,I,l.map ci⟩)(D:box Y c=V ⟨e,1,U,U,[[iv t]]⟩)(z:L Y=4096)(hn:L l<1000):∃x n,(x= .m b (L<|fJ l t)/\box n b=V ⟨3,1,U,I,(fJ l t++er (L l-L (fJ l t)) 0).map ci⟩/\Fx Y n [b])/\cZ aS GG 187 [.m b<|L l, .f 188 [] [.p c 0 0]] Y x n:=by refine aMA z ?_;have C:c≠b:=(by grind);simp only[JO,↓uL];refine aS2 rfl (aCv B D z hn) ?_;obtain⟨v,hp,N,M,ac⟩:=aE6 hm;rw[hp];have R:Q ((v:Int)= -1)=I:=(by simp);simp only[qz 2,u0,u1,R,eE,aNG,aNU,bR,↓uL];rw[fX<|by omega];have X:fJ (l.take<|v+1) t=l.take v:=(by rw[apJ N,j1 (by simp[M]),cL,fJ,List.filter_eq_self];grind [ou,bT]);refine AI (α:=Nat) (λa i=>[iv (a:Int),iv i]) 1 (L l) (v+1) (by omega) (λj a Y'=>∃d:List Int,a=L (fJ (l.take j) t)/\a<j/\L d=L l/\d.take a=fJ (l.take j) t/\d.drop j=l.drop j/\box Y' b=V ⟨3,1,U,I,d.map ci⟩/\Fx Y Y' [b]) (s0:=v) ⟨l,?_,by omega,rfl,?_,rfl,B,Fx.refl _ _⟩ ?_;grind;rw[X];rintro j a n hj ⟨d,A,ak,F,W,K,o,r⟩;have O:L n=4096:=r.len.trans z;have c1:=r.keep _ _ (by simpa using C) D;have P:fS n (.m b<|L l)=V (iv<|L l):=(by simp[fS,o]);simp only[qz 43,aI,au,ck,P,u0,u1,↓uL];refine⟨λh=>?_,λh=>?_⟩;have q:=aL h;have H:gd d j=gd l j:=(by have h1:(d.drop j)[0]?=(l.drop j)[0]?:=(by rw[K]);grind [eC,bT]);have w:=apJ (t:=t) q;simp only[di,qz 65,qy 6,au,ck,mx o<|dJ q,bh,ml o (show j<L d by omega),aY,H,↓uL];refine alB c1 O ?_;simp only[u0,u1,↓uL];refine⟨λhv=>?_,λhv=>?_⟩;have u:gd l j≠t:=(by grind);rw[hH u] at w;simp only[mx o<|dJ<|show a<L l by omega,bh];refine Qo o (by omega) λY2 Z b2=>?_;simp only[qz 63,aI,au,ck,u0,u1,↓uL];rw[fX (k:=a)<|by omega];refine dR (mk:=λ(a:Nat) i=>[iv (a:Int),iv i]) (p:=1) (s:=a) (s':=a+1) (λ_ _=>rfl) q (by omega) ?_;refine⟨d.set a<|gd l j,by simp_all,by omega,by simp[F],?_,?_,b2,(r.trans Z).mono<|by simp⟩;grind [iJ,List.take_set_of_le];rw[List.drop_set_of_lt<|by omega];have:d.drop (j+1)=(d.drop j).drop 1:=(by simp);simp_all;have u:gd l j=t:=(by grind);rw[j1 (by simp[u]),cL] at w;simp only[qz 63,aI,au,ck,u0,u1,↓uL];refine dR (mk:=λ(a:Nat) i=>[iv (a:Int),iv i]) (p:=1) (s:=a) (s':=a) (λ_ _=>rfl) q (by omega) ?_;refine⟨d,by simp_all,by omega,F,by simp_all,?_,o,r⟩;have:d.drop (j+1)=(d.drop j).drop 1:=(by simp);simp_all;obtain rfl:j=L l:=(by grind);rw[gV] at A W;have T:fo 1 n (.m b<|L l) (V<|iv (a:Int)) J J=V (.g 2 b a<|L l-a):=(by simp only[fo,lM];grind [qY,bh]);simp only[T,aY,↓uL];have E:pA (.int .i64 0) n (.g 2 b a<|L l-a)=V (wr n b ⟨3,1,U,I,(d.take a++er (L l-a) 0++d.drop (L l)).map ci⟩):=(by simp only[pA,o];rw[hH ⟨trivial,by omega⟩];congr 3;rw[show a+(L l-a)=L l by omega];simp);simp only[E,aoq,qz 8,au,↓uL];have y:=lO (x':=⟨3,1,U,I,(d.take a++er (L l-a) 0++d.drop (L l)).map ci⟩) o;have S:fo 1 (wr n b ⟨3,1,U,I,(d.take a++er (L l-a) 0++d.drop (L l)).map ci⟩) (.m b<|L l) J (V<|iv (a:Int)) J=V (.m b a):=(by simp only[fo,lM];rw[hH<|by omega];simp only[qY,y,qd,bh,Option.getD_some];rw[hH ⟨trivial,trivial,by omega⟩]);simp only[S,aY,fe,aoz,↓uL];have G:d.drop (L l)=[]:=(by grind);rw[G,cL,W] at y;subst A;rw[show d.take (L<|fJ l t)++er (L l-L (fJ l t)) 0++d.drop (L l)=fJ l t++er (L l-L (fJ l t)) 0 by simp_all];exact⟨rfl,y,(r.trans<|wc o).mono<|by simp⟩
def anf{Y a:ae}{b:Id}{x:bY}(c:Fx Y a [b])(h:box a b=V x):LoC b x Y a:=⟨c.len,c.lB,(by grind [Fx.keep]),h⟩
def awP{Y:ae}{d:Nat}{K:be}{b:Id}{l:List Int}(e:jC l)(c:box Y b=V ⟨3,1,U,I,l.map ci⟩)(j:L Y=4096)(k:L l<1000)(i:∀Y',Fx Y Y' [b]->box Y' b=V ⟨3,1,U,I,l.map ci⟩->K (.m b<|L l) Y'):cN 186 [.m b<|L l] Y d K:=by refine .inr (.inl ⟨.m b<|L l,b,_,⟨3,1,U,I,l.map ci⟩,L l,rfl,c,(by grind [qA,gY]), .inr ⟨_,rfl⟩,λg f n=>?_,i _ (wc c)<|lO c⟩);have a:box g b=V ⟨3,1,U,I,l.map ci⟩:=(by grind [nQ,pP,dC,dK]);obtain⟨r,o,⟨rfl,rfl⟩,h⟩:=aCq e a (f.trans j) k;exact⟨_,h,anf (Fx.refl _ _) a⟩
def awR{Y:ae}{d:Nat}{K:be}{b c:Id}{l:List Int}{t:Int}{e:TypeId}(u:t∈l)(a:box Y b=V ⟨3,1,U,I,l.map ci⟩)(z:box Y c=V ⟨e,1,U,U,[[iv t]]⟩)(s:L Y=4096)(v:L l<1000)(q:∀Y',Fx Y Y' [b]->box Y' b=V ⟨3,1,U,I,(fJ l t++er (L l-L (fJ l t)) 0).map ci⟩->K (.m b<|L<|fJ l t) Y'):cN 187 [.m b<|L l, .f 188 [] [.p c 0 0]] Y d K:=by have x:L (fJ l t)<=L l:=fZ _ _;refine .inr (.inl ⟨.m b<|L<|fJ l t,b,_,⟨3,1,U,I,(fJ l t++er (L l-L (fJ l t)) 0).map ci⟩,L l,rfl,a,(by grind [qA,gY]), .inr ⟨_,rfl⟩,λg k w=>?_,q _ (wc a)<|lO a⟩);have i:box g b=V ⟨3,1,U,I,l.map ci⟩:=(by grind [nQ,pP,dC,dK]);have j:box g c=V ⟨e,1,U,U,[[iv t]]⟩:=(by grind [nQ,pP,dC,dK]);obtain⟨r,y,⟨rfl,n,o⟩,h⟩:=aCs u i j (k.trans s) v;exact⟨_,h,anf o n⟩
theorem Ny{x:Int}{l:List Int}:jC (x::l)↔(∀y∈l.head?,x<y)/\jC l:=by constructor;intro h;refine⟨λy a=>?_,λi b=>by have:=h (i+1) (by simp;omega);grind [gd]⟩;(cases l with|nil=>simp at a|cons z l=>simp only[List.head?_cons,Option.mem_def,bE] at a;subst a;have:=h 0 (by simp);grind [gd]);rintro⟨d,c⟩ i b;cases i with|zero=>(cases l with|nil=>simp at b|cons z l=>simp_all [gd])|succ i=>have:=c i (by simp_all);grind [gd]
def aE9{l:List Int}{t:Int}:∀y∈(fk l t).head?,y=t\/y∈l.head?:=by cases l with|nil=>simp[fk]|cons x l=>grind [fk]
theorem Nz:∀{l:List Int} {t:Int},jC l->jC (fk l t)
 |[],t,_=>by intro i c;simp[fk] at c
 |x::l,t,h=>by
  have b:=Ny.1 h
  simp only[fk]
  split
  ·rename_i d
   refine Ny.2 ⟨λy a=>?_,Nz b.2⟩
   rcases aE9 y a with rfl|a
   ·exact d
   simp_all
  grind [Ny]
def an0:∀{l:List Int} {t:Int},(∀x∈l,x<t)->fk l t=l++[t]
 |[],t,_=>rfl
 |x::l,t,h=>by
  simp only[fk,hH<|h x<|by simp,zn]
  rw[an0<|by simp_all]
def an3{l:List Int}(h:jC l):∀k,k<=L l->jh [] l k=l.take k
 |0,_=>rfl
 |k+1,f=>by
  have a:k<L l:=by omega
  have c:jh [] l (k+1)=fk (jh [] l k) (gd l k):=by
   grind [jh,iJ,bT]
  rw[c,an3 h k (by omega),iJ a,<-bT a]
  refine an0 λx d=>?_
  obtain⟨j,e,rfl⟩:=ou d
  have b:j<k:=by grind
  have:=AD h b a
  grind [bT]
theorem Ro{l:List Int}{t:Int}(h:jC l):mP l [t]=fk l t:=by show jh (jh [] l<|L l) [t] 1=_;rw[an3 h _<|dA _,gV];rfl
def io(n:Nat)(f:Nat->List AV):List (List AV):=(aH n).map f
theorem aH0{n:Nat}{f:Nat->List AV}:L (io n f)=n:=by simp[io]
def uU{n:Nat}{f:Nat->List AV}{k:Nat}(h:k<n):(io n f)[k]?=V (f k):=by simp[io,h]
def yC{n:Nat}{f g:Nat->List AV}(h:∀i,i<n->f i=g i):io n f=io n g:=ja λi a=>h i<|fq.1 a
def Bl{n:Nat}{f:Nat->List AV}{k:Nat}{x:List AV}:(io n f).set k x=io n λi=>if i=k then x else f i:=by refine biF (by simp[io]) λj a b=>?_;grind [io]
def Q0{n:Nat}{x:List AV}:er n x=io n λ_=>x:=by refine biF (by simp[io]) λj a b=>?_;simp[io]
def aH1{α:Type}[Inhabited α]{l:List α}{g:α->List AV}:(l.map g)=io (L l) λi=>g (gd l i):=by refine biF (by simp[io]) λj a b=>?_;grind [io,bT]
def qg(Y:ae)(e:TypeId)(z:Nat)(a:AV)(aa:List<|List AV):Prop:=(aa=[]/\a= .l [] U U)\/∃b c,a= .m b (L aa)/\box Y b=V ⟨e,z,U,I,c⟩/\c.take (L aa)=aa
theorem qg.fx{Y Y':ae}{ks:List Id}{e:TypeId}{z:Nat}{a:AV}{aa:List (List AV)}(i:qg Y e z a aa)(g:Fx Y Y' ks)(j:∀b∈aA a,b∉ks):qg Y' e z a aa:=by rcases i with h|⟨b,c,rfl,d,f⟩;exact .inl h;exact .inr ⟨b,c,rfl,g.keep b _ (j b<|by simp[aA]) d,f⟩
def bc.x{Y:ae}{e:TypeId}{z:Nat}{a:AV}{aa:List (List AV)}(d:bc Y e z a aa):qg Y e z a aa:=by rcases d with h|⟨b,rfl,c⟩;exact .inl h;exact .inr ⟨b,aa,rfl,c,gV⟩
theorem qg.ids{Y:ae}{e:TypeId}{z:Nat}{a:AV}{aa:List (List AV)}(d:qg Y e z a aa):∀k∈aA a,∃c,box Y k=V ⟨e,z,U,I,c⟩:=by rcases d with⟨_,rfl⟩|⟨b,c,rfl,f,g⟩;simp[aA];grind [aA,cE]
theorem qg.ce{Y:ae}{e:TypeId}{z:Nat}{a:AV}{aa:List (List AV)}(c:qg Y e z a aa):eY a=V [a]:=by rcases c with⟨_,rfl⟩|⟨b,_,rfl,_⟩<;>rfl
theorem qg.fr{Y:ae}{e:TypeId}{a:AV}{l:List Int}(f:qg Y e 1 a<|l.map ci):frN Y a=sl ci l:=by rcases f with⟨h,rfl⟩|⟨b,g,rfl,c,d⟩;simp at h;subst h;rfl;simp only[frN,aOn,c,aNR,gK];rw[d];rfl
def vC(Y:ae)(a:AV)(ls:List cg):Prop:=∃(b:Id) (f:Nat->AV),a= .m b (L ls)/\box Y b=V ⟨186,2,U,U,io (L ls) λi=>[iv (gd ls i).pw,f i]⟩/\(∀i,i<L ls->bc Y 3 1 (f i) ((gd ls i).bk.map ci))/\(∀i j,i<L ls->j<L ls->i≠j->∀k∈aA (f i),k∉aA (f j))/\∀i,i<L ls->∀k∈aA (f i),k.1=24
def sC(Y:ae)(a:AV)(ls:List cg):Prop:=∃(b:Id) (f:Nat->AV),a= .m b (L ls)/\box Y b=V ⟨186,2,U,U,io (L ls) λi=>[iv (gd ls i).pw,f i]⟩/\(∀i,i<L ls->qg Y 3 1 (f i) ((gd ls i).bk.map ci))/\∀i j,i<L ls->j<L ls->i≠j->∀k∈aA (f i),k∉aA (f j)
def Bp{Y:ae}{b:Id}{i j z y:Nat}{e:TypeId}{o:Bool}{aa:List (List AV)}{r cs:List AV}{x:AV}{K:ae->Prop}(a:box Y b=V ⟨e,z,o,U,aa⟩)(g:aa[i]?=V r)(h:eY x=V cs)(k:L cs=y)(f:j+y<=L r)(d:∀Y',Fx Y Y' [b]->box Y' b=V ⟨e,z,o,U,aa.set i<|r.take j++cs++r.drop (j+y)⟩->K Y'):sV (aK y Y (.p b i j) x) K:=by have c:aK y Y (.p b i j) x=V (wr Y b ⟨e,z,o,U,aa.set i<|r.take j++cs++r.drop (j+y)⟩):=(by grind [aK,aBG,pW]);rw[c];exact d _ (wc a)<|lO a
def AP{e:TypeId}{zs:List AV}{a d n:Nat}{Y:ae}{K:be}(j:0<L zs)(i:zs.all eN=U)(c:d<L Y)(k:n*(a+1)<=1099511627776)(h:∀b Y',b.1=d->bK Y b->Fx Y Y' []->box Y' b=V ⟨e,L zs,U,uj zs,er n<|mz zs⟩->K (.m b n) Y'):eV (qO e zs a Y d (iv n)<|iv n) K:=by have f:qO e zs a Y d (iv n) (iv n)=V (.m (lA Y d) n,put Y d ⟨e,L zs,U,uj zs,er n<|mz zs⟩):=(by have g:(n:Int)*((a:Int)+1)<=((1099511627776:Nat):Int):=(by grind);simp only[qO];rw[hH ⟨by omega,Int.le_refl _,j,i,by simp[vg,c],g⟩];simp);rw[f];exact h _ _ rfl (qQ Y d) (kH c)<|iy c
def aqw(s:aW)(r:AV)(f Y:ae):Prop:=∃d e b,r= .a [d,iv s.tx,e,b]/\vC Y d s.ak/\bc Y 4 1 e (s.done.map cb)/\bc Y 85 3 b (s.ay.map aoC.c)/\(∀k∈aA d++aA e++aA b,bK f k)/\∀k∈aA b,k.1≠7/\k.1≠8
def aCp(s:aW){Y:ae}(hl:L Y=4096)(hp:L s.ak<1000/\L s.done<1000/\L s.ay<1000/\∀l∈s.ak,L l.bk<1000):∃r Y1,(aqw s r Y Y1/\Fx Y Y1 [])/\cZ aS GG 184 [.a s.c] Y r Y1:=by refine aK6 hl rfl λs2 n K2 bw bz b1=>?_;have D:Fx Y s2 []:=K2.fx [];have ao:L s2=4096:=K2.len.trans hl;simp only[Iq,↓uL];refine so ao λK Y2 N N2 b2=>?_;have d1:=N.kq b1;have a0:L Y2=4096:=N.len.trans ao;simp only[qz 4,u0,u1,d1,rk,aj,cT,↓uL];refine AP (by decide) (by decide) (by omega) (by omega) λd Y3 bt NL F3 aQ=>?_;have hL:box Y3 d=V ⟨186,2,U,U,io (L s.ak) λ_=>[iv 0, .l [] U U]⟩:=(by rw[aQ,Q0];rfl);have e1:=F3.kq d1;simp only[qz 6,u0,u1,e1,rk,aj,cT,↓uL];refine yV (L s.ak) (λk _ Y'=>Fx Y2 Y' []/\∃f:Nat->AV,box Y' d=V ⟨186,2,U,U,io (L s.ak) λi=>if i<k then[iv (gd s.ak i).pw,f i] else[iv 0, .l [] U U]⟩/\(∀i,i<k->bc Y' 3 1 (f i) ((gd s.ak i).bk.map ci))/\(∀i j,i<k->j<k->i≠j->∀q∈aA (f i),q∉aA (f j))/\(∀i,i<k->∀q∈aA (f i),q≠d)/\∀i,i<k->∀q∈aA (f i),q.1=24) (by simp_all) ?_;rintro k _ A hk ⟨E,f,aT,T,aP,bs,aR⟩;have W:L A=4096:=E.len.trans a0;have g1:=E.kq d1;have g2:=E.kq b2;simp only[qz 25,qy 8,aI,au,u0,u1,ix,rk,bh,g1,aj,↓uL];refine⟨λh=>⟨vp h,?_⟩,λh=>?_⟩;have X:=aL h;refine so W λv5 Y5 o N5 b5=>?_;refine cy (cs:=cg.c<|gd s.ak k) b5 rfl rfl (by decide) λZ t P=>?_;have aN:box Z (5,v5)=V ⟨186,2,U,U,[cg.c<|gd s.ak k]⟩:=P;have C:Fx A Z []:=(o.trans t).mono (by grind [bK.no]);have bu:L Z=4096:=C.len.trans W;simp only[qz 10,u0,u1,aN,rk,aj,↓uL];refine Kr (aa:=(gd s.ak k).bk.map ci) rfl fF (by grind [dB]) (by simp[gY]) (by omega) λG Y7 g7 u N7=>?_;have aU:bM aPz C2 [(0,iv (gd s.ak k).pw),(1,G)]=V (.a [iv (gd s.ak k).pw,G]):=(by simp[bM,aly,ms g7,zU]);have an:=u.kq<|C.kq aT;have aV:cz 2 Y7 (.m d<|L s.ak) (iv k)=V (.p d k 0):=(by simp[cz,an,X]);simp only[qz 12,aU,aY,aV,au,↓uL];refine Bp an (uU X) (x:= .a [iv (gd s.ak k).pw,G]) rfl rfl (by simp) λY8 F R=>?_;simp only[qz 14,↓uL];refine dT rfl ?_;simp only[au,u0,u1,↓uL];have bm:∀q∈aA G,q≠d:=(by grind);have bn:∀i,i<k->∀q∈aA (f i),q∉aA G:=λi y q g a4=>(by obtain⟨v,b⟩:=(T i y).x.ids q g;exact(N7 q a4).1.no _<|C.kq b);have aD:Fx A Y8 [d]:=(C.trans<|u.trans F).mono (by simp);refine yU X ⟨(E.trans aD).mono (by grind [bK.no]),λi=>if i=k then G else f i,?_,?_,?_,?_,?_⟩;rw[R,Bl];congr 2;refine yC λi y=>?_;grind;intro i y;by_cases h1:i=k;grind [bc.fx];grind [bc.fx];grind;grind;grind;obtain rfl:k=L s.ak:=(by grind);have aC:box A d=V ⟨186,2,U,U,io (L s.ak) λi=>[iv (gd s.ak i).pw,f i]⟩:=(by simp_all [yC,hH]);have n1:d≠(1,n):=(NL.ne d1).symm;refine cy (cs:=[.m d<|L s.ak]) g1 rfl rfl (by simp[aW.c]) λY5 o b5=>?_;have al:box Y5 (1,n)=V ⟨36,4,U,U,[[.m d<|L s.ak,iv s.tx,sl cb s.done,sl aoC.c s.ay]]⟩:=b5;have a1:L Y5=4096:=o.len.trans W;simp only[qz 16,u0,u1,al,aj,iF,nM,ip,↓uL];refine aw2 (aa:=s.done.map cb) rfl (by grind) (by simp;omega) (by simp[gY]) (by omega) λB Z g6 t N6=>?_;have P:=t.kq al;simp only[qz 18,u0,u1,P,aj,↓uL];refine cy (cs:=[B]) P (ms g6) rfl (by simp) λY7 u b7=>?_;have am:box Y7 (1,n)=V ⟨36,4,U,U,[[.m d<|L s.ak,iv s.tx,B,sl aoC.c s.ay]]⟩:=b7;have bv:L Y7=4096:=u.len.trans<|t.len.trans a1;simp only[qz 20,u0,u1,am,aj,iF,nM,ip,↓uL];refine aw1 (aa:=s.ay.map aoC.c) rfl (qW (f:=aoC.c) λ_=>rfl) (by simp;omega) (by simp[gY,aoC.c]) (by omega) λH Y8 g8 F N8=>?_;have R:=F.kq am;simp only[qz 22,u0,u1,R,aj,↓uL];refine cy (cs:=[H]) R (ms g8) rfl (by simp) λY9 F9 b9=>?_;have aO:box Y9 (1,n)=V ⟨36,4,U,U,[[.m d<|L s.ak,iv s.tx,B,H]]⟩:=b9;have af:Fx A Y9 [(1,n)]:=(o.trans<|t.trans<|u.trans<|F.trans F9).mono (by simp);have bx:(2,K)≠(1,n):=(by simp);have g9:=af.kq g2;simp only[qz 24,qy 26,u0,u1,aO,aj,uS,↓uL];refine cy (cs:=[.m d<|L s.ak,iv s.tx,B,H]) g9 rfl rfl (by decide) λah M aM=>?_;have av:box ah (2,K)=V ⟨36,4,U,U,[[.m d<|L s.ak,iv s.tx,B,H]]⟩:=aM;simp only[u0,u1,av,aj,uS,fe,aoz,↓uL];have ag:Fx Y A []:=(D.trans<|N.trans E).mono (by simp);have O:Fx A ah [(1,n),(2,K)]:=(af.trans M).mono (by simp);have hv:∀{q:Id} {e:TypeId} {z:Nat} {v:List (List AV)} {τ:ae},box τ q=V ⟨e,z,U,I,v⟩->∀{w:Id} {x:bY},box τ w=V x->x.var=U->q≠w:=(by grind);have k1:∀i,i<L s.ak->∀q∈aA (f i),q∉[(1,n),(2,K)]:=λi y q g=>(by obtain⟨v,b⟩:=(T i y).x.ids q g;simp only[eW,ql,aPI,not_or];grind);have i2:∀q∈aA B,q∉[(1,n)]/\q∉[(2,K)]:=λq g=>(by obtain⟨v,b⟩:=g6.x.ids q g;have S:=t.kq<|o.kq g2;exact⟨by simpa using hv b P rfl,by simpa using hv b S rfl⟩);have i3:∀q∈aA H,q∉[(1,n)]/\q∉[(2,K)]:=λq g=>(by obtain⟨v,b⟩:=g8.x.ids q g;have S:=F.kq<|u.kq<|t.kq<|o.kq g2;exact⟨by simpa using hv b R rfl,by simpa using hv b S rfl⟩);refine⟨⟨_,B,H,rfl,⟨d,f,rfl,?_,λi y=>(T i y).fx O<|k1 i y,aP,aR⟩,?_,?_,?_,λk hk=>by have:=(N8 k hk).2;omega⟩,?_⟩;refine O.keep _ _ ?_ aC;simp only[eW,ql,aPI,not_or];grind;exact((g6.fx u λq g=>(i2 q g).1).fx F<|by simp).fx (F9.trans M) (by grind);exact g8.fx (F9.trans M) (by grind);intro q g;simp only[dF,aA,cE] at g;rcases g with(rfl|g)|g;exact NL.old<|D.trans N;exact rC (gl (ag.lB _)<|o.lB _) (N6 q g).1;exact rC (gl (ag.lB _)<|gl (o.lB _)<|gl (t.lB _)<|u.lB _) (N8 q g).1;refine((D.trans N).trans<|E.trans O).mono ?_;simp only[dW,eW,ql,aPI];rintro q (rfl|rfl);grind;exact .inr λx hx=>N2.no _<|D.kq hx
def Ov(w:vb)(s:aW)(t kind nt:Int)(v:lh w s=U/\L w.bC<=2/\(∀l∈s.ak,L l.bk<100000)):Ct 183 [.a w.c, .a s.c,iv t,iv kind,iv nt] (·=bv (jm w s t kind nt)):=by refine aK3 rfl rfl λK G h i D=>?_;obtain⟨b,k,n⟩:=v;obtain⟨z,A,B,C⟩:=iY b;simp+contextual only[In,qy 6,u0,u1,ut,ar,h,i,rk,ix,cT,aj,b,k,fh,lG,bR,J7,↓uL];rcases g:dh t (L w.ay) with _|_;simp[jm,g,iC];rcases d:named w kind nt with _|_;simp[jm,g,d,iC];have f:aF (L s.ay) t:=(by grind [dX]);simp only[fh,kz,↓iB,f,bR,eE,aNG,aNU];refine eF rfl rfl (by decide) (by omega) λY F o=>?_;have p:box Y (5,1)=_:=F.bt h;have q:box Y (6,1)=_:=F.bt i;have m:jm w s t kind nt=lc w s t kind nt:=(by simp[jm,b,g,d]);rw[m,axG];simp+contextual only[qz 8,In,qy 6,↓iC,↓iB,↓iS,u0,u1,ut,ar,o,p,q,rk,ix,cT,aj,↓uL];obtain⟨x,H,r,M,y⟩:=D0 b d;refine⟨λu=>?_,λu=>⟨λe=>?_,λe=>⟨λ_=>⟨b,d,f,n⟩,?_⟩⟩⟩;rfl;have:=awG e;have j:=r (by omega) (by omega);exact⟨λ_ _=>j,λ_ _=>x j,rfl⟩;simp only[aNZ];rcases E:Q ((gd s.ay t.toNat).cQ=2) with _|_<;>simp_all
def BU:FT:=bpg Ov
def ays{w s t kind nt Lw K}:=KQ BU Ov w s t kind nt Lw K
def Rm:dO:=(183,BU)::apl
def ape:eJ Rm:=it (Rt Ov)<|yR
def aml:=ai @ays<|@aBn
def ak9:=bA 31 [(6,([15],[7,12])),(10,([42],[4,5,6,7,8,12,15,27])),(12,([51],[4,5,6,7,8,12,15,27]))]
def aaV c e d g k i j h(a:aG) b:=dH [bo c,bo e,km,km,lb I [.f 186 [] [],d] [76],lb U [g,k] [],bo i,lb I [j,h] []] [(0,4),(1,4),(2,4)]<|a [iv 0] b
def Im b g h j i f c a:=ao 2 a b g λd=>aB 1 a d λe=>sV (aK 1 a e c)<|aaV h j i b g d e c f
def aaW b c g e(h:AV) a:=aB 0 a b λd=>aM a d λf=>cN 186 [c] a 76<|Im f g b d c e
def aaX b g h e i j a l k m d c f:=dH [bo b,bo g,km,lb U [h,e] [],bo i,bo j,bo a,lb I [l] [],lb I [k,m] [69],km] [(0,7),(1,7),(2,7),(3,7),(4,7),(5,7)]<|cB 185 [c] f 71<|aaW b c e d
def aaY b g i j d k l a m h o p n(c:aG) e:=dH [bo b,bo g,km,bo b,bo i,km,lb U [j,d] [],bo k,bo l,bo a,lb I [.f 187 [] [],m,.f 188 [] [a]] [91],lb U [h,d] [],bo o,lb I [p,n] []] [(0,10),(1,10),(2,10)]<|c [iv 0] e
def aaZ c h i j k l m n a o g d b:=ao 2 b c h λe=>aB 1 b e λf=>sV (aK 1 b f d)<|aaY i j k l h m n a o c e f d g
def aa0 b d a g e f j k h i l m o(n:aG) c:=dH [bo b,bo d,bo a,bo b,bo g,bo a,km,lb U [e,f] [],bo j,lb I [k,iv 3] [],lb U [h,i] [],bo l,lb I [m,o] []] [(3,9),(4,9),(5,9),(6,9)]<|n [iv 0] c
def aaO c d n o g b j h i k l m a:=ao 3 a c d λe=>aB 1 a e λf=>sV (aK 1 a f n)<|aa0 o g b j h i k l c d e f n m
def Ik c b m l a:=aB 3 a c λd=>aM a d λe=>aM a b λf=>aB 3 a c λg=>aM a g λj=>aM a b λk=>ao 3 a e f λh=>aB 0 a h λi=>sV (aK 1 a i<|iv 3)<|aaO j k m c d b g e f h i l
def aaP b d a g e f j k h i l m(n:aG) c:=dH [bo b,bo d,bo a,bo b,bo g,bo a,lb U [e,f] [],bo j,lb I [k,iv 2] [],lb U [h,i] [],bo l,lb I [m,iv 0] []] [(3,8),(4,8),(5,8)]<|n [iv 0] c
def aaQ c d n g b j h i k l m a:=ao 3 a c d λe=>aB 1 a e λf=>sV (aK 1 a f<|iv 0)<|aaP n g b j h i k l c d e f m
def Il c b l a:=aB 3 a c λd=>aM a d λe=>aM a b λf=>aB 3 a c λg=>aM a g λj=>aM a b λk=>ao 3 a e f λh=>aB 0 a h λi=>sV (aK 1 a i<|iv 2)<|aaQ j k c d b g e f h i l
def aa2 a c g(d:aG) e b u a5 av:=Rg->ah (gt av 0) (ab 0 a c λaD=>ao 2 a aD g λaE=>aB 0 a aE λaF=>sV (aK 1 a aF<|iv<|-1) λax=>d [iv 0] ax) (bf e (iv 8) λaI=>ah aI (aB 0 a c λh=>aM a h λi=>ao 2 a i g λj=>aB 1 a j λk=>aM a k λl=>aM a b λm=>eV (aX bH 1 a [(0,m)]) λn ay=>eV (cj 3 fB 8 ay 69 l n)<|aaX c h i g j k b m l n d)<|bf e (iv 9) λaJ=>ah aJ (aB 0 a c λo=>aM a o λaL=>aB 0 a c λp=>aM a p λq=>ao 2 a q g λr=>aB 1 a r λs=>aM a s λt=>cN 187 [t,.f 188 [] [b]] a 91<|aaZ aL g c o p q r s b t d)<|bf e (iv 12) λaN=>ah aN (aM a b λaO=>aB 1 a c λaP=>sV (aK 1 a aP aO) λaz=>d [iv 0] az)<|bf e (iv 13) λaQ=>ah aQ (aB 1 a c λaR=>sV (aK 1 a aR<|iv<|-1) λaA=>d [iv 0] aA)<|bf e (iv 14) λaT=>ah aT (ab 3 a c λaU=>aM a b λaV=>ao 3 a aU aV λaW=>aB 2 a aW λaY=>sV (aK 1 a aY<|bv U) λaC=>d [iv 0] aC)<|bf e (iv 15) λA=>ah A (ab 3 a c λB=>aM a b λC=>ao 3 a B C λD=>aB 2 a D λE=>sV (aK 1 a E<|bv I) λv=>d [iv 0] v)<|bf e (iv 16) λF=>ah F (ab 0 a c λG=>ab 2 a u λH=>ao 2 a H g λK=>ab 1 a K λM=>ao 2 a G M λN=>aB 0 a N λO=>sV (aK 1 a O<|iv<|-1)<|Ik c b g d)<|bf e (iv 17) λP=>ah P (ab 0 a c λR=>ab 2 a u λS=>ao 2 a S g λT=>ab 1 a T λW=>aM a b λX=>ao 2 a R W λZ=>aB 0 a Z λaa=>sV (aK 1 a aa X)<|Il c b d)<|bf e (iv 18) λac=>ah ac (aw 4 a c λad=>cB 189 [ad,g,a5] a 166 λae w=>d [ae] w)<|bf e (iv 19) λaf=>ah af (aw 4 a c λag=>cB 190 [ag,g] a 171 λak x=>d [ak] x)<|bf e (iv 20) λal=>ah al (ab 3 a c λam=>ao 3 a am g λan=>aB 0 a an λap=>sV (aK 1 a ap<|iv 1) λy=>d [iv 0] y)<|bf e (iv 22) λaq=>ah aq (ab 2 a c λar=>ao 1 a ar g λau=>sV (aK 1 a au<|bv U) λz=>d [iv 0] z)<|d [iv 0] a)
def aa1 b d a g(c:aG) f m n e:=Rg->ah (gt e 0) (ab 0 b d λi=>aM b a λj=>ao 2 b i g λk=>aB 0 b k λl=>sV (aK 1 b l j) λh=>c [iv 0] h) (jR 12 (aa2 b d g c f a m n)<|acA f)
def aa6 e a d b s r t(c:aG):=bf e (iv 1) λh=>ah h (ab 3 a d λi=>aM a b λj=>ao 3 a i j λk=>aB 0 a k λl=>sV (aK 1 a l<|iv 2) λf=>c [iv 0] f) (bf e (iv 2) λm=>ah m (ab 3 a d λn=>aM a b λo=>ao 3 a n o λp=>aB 0 a p λq=>sV (aK 1 a q<|iv 5) λg=>c [iv 0] g)<|jR 10 (aa1 a d b s c e r t)<|acz e)
def aaR b h R e a f d g c:=jV 6 (CP b h R)<|aa6 e c b a f d g
def aaS b i R f a g e h d c:=sV (aK 4 c b d)<|aaR b i R f a g e h
def aaT d c a f g R n e b:=aw 6 b d λo=>aw 4 b c λh=>aM b a λi=>fV BU b [o,h,i,f,g] λj=>Qun j λk=>ah k (rV (bM aNC alz []) λl=>sV (aK 4 b e l)<|acl e R) (aw 4 b c λm=>cB 184 [m] b 26<|aaS c e R f a g d n)
def Ii c b a d e f g R:=eV (alA 36 aNC g 12)<|aaT c b a d e R f
def aK1{c0:List AV}{e:List AV}{d f g i:AV}{R:o8}(l0:L c0=6)(l1:L e=4)(y:eY d=V [d])(h:∀b:ae,L b=4096->box b (6,1)=V ⟨31,6,U,U,[c0]⟩->box b (7,1)=V ⟨36,4,U,U,[e]⟩->box b (8,1)=V ⟨3,1,U,U,[[d]]⟩->(∀k,k≠6->k≠7->k≠8->aZ b k=mO)->Ii (.p (6,1) 0 0) (.p (7,1) 0 0) (.p (8,1) 0 0) f g i b R):Fn aS GG 130 [.a c0, .a e,d,f,g,i] R:=by refine uq ready ape Tryz.func130 (an:=ak9) (by kernel_rfl) (aND (show ZF aS GG Rm ak9 Tryz.f130 [.a c0, .a e,d,f,g,i] R=(eV (u4 31 6 (ly Tryz.f130) 6<|.a c0) λo l=>eV (u4 36 4 l 7<|.a e) λn m=>eV (u4 3 1 m 8 d) λc b=>Ii o n c f g i b R) by kernel_rfl) ?_);refine mY (N:=4096) rfl l0 (by decide) (by decide) uB (by rw[i8]) λl z q C g0=>?_;refine mY (N:=4096) rfl l1 (by decide) (by decide) z (by rw[g0 _ (by decide),i8]) λm A r t g1=>?_;refine mY (N:=4096) y rfl (by decide) (by decide) A (by rw[g1 _ (by decide),g0 _ (by decide),i8]) λb B s j u=>?_;exact h b B (by rw[j _ _ (by decide),t _ _<|by decide];exact q) (by rw[j _ _<|by decide];exact r) s (λk v w x=>by rw[u k x,g1 k w,g0 k v];exact i8 _ k)
def aCn{B:aG}{A:(aG)->Prop}(Q:aG)(b:∀a,(∀vs Y',Q vs Y'->a vs Y')->A a)(c:∀vs Y',Q vs Y'->B vs Y'):A B:=b B c
structure Sz(Y:ae)(s:aW)(a1 a2 a3:AV):Prop where
 bx:box Y (7,1)=V ⟨36,4,U,U,[[a1,iv s.tx,a2,a3]]⟩
 g1:sC Y a1 s.ak
 g2:bc Y 4 1 a2 (s.done.map cb)
 g3:bc Y 85 3 a3 (s.ay.map aoC.c)
theorem bc.ids{Y:ae}{e:TypeId}{z:Nat}{a:AV}{aa:List (List AV)}(c:bc Y e z a aa):∀k∈aA a,box Y k=V ⟨e,z,U,I,aa⟩:=by rcases c with⟨_,rfl⟩|⟨b,rfl,d⟩;simp[aA];grind [aA,cE]
def vC.g{Y:ae}{a:AV}{ls:List cg}(h:vC Y a ls):sC Y a ls:=by obtain⟨b,f,c,d,e,j,_⟩:=h;exact⟨b,f,c,d,λi k=>(e i k).x,j⟩
theorem vC.fx{Y Y':ae}{ks:List Id}{a:AV}{ls:List cg}(h:vC Y a ls)(c:Fx Y Y' ks)(p:∀k∈ks,(∃x,box Y k=V x/\((x.var=U/\x.elem≠186)\/(x.var=I/\x.elem≠3)))\/∀x,box Y k≠V x):vC Y' a ls:=by obtain⟨b,f,rfl,m,d,g,j⟩:=h;refine⟨b,f,rfl,c.keep _ _ (λn=>?_) m,λi e=>(d i e).fx c λq o n=>?_,g,j⟩;grind;have l:=(d i e).ids q o;grind
theorem sC.fx{Y Y':ae}{ks:List Id}{a:AV}{ls:List cg}(e:sC Y a ls)(c:Fx Y Y' ks)(m:∀k∈ks,(∃x,box Y k=V x/\((x.var=U/\x.elem≠186)\/(x.var=I/\x.elem≠3)))\/∀x,box Y k≠V x):sC Y' a ls:=by obtain⟨b,f,rfl,h,g,d⟩:=e;refine⟨b,f,rfl,c.keep _ _ (λl=>?_) h,λi j=>(g i j).fx c λq n l=>?_,d⟩;grind;grind [qg.ids]
theorem sC.fr{Y:ae}{a:AV}{ls:List cg}(j:sC Y a ls):dQ Y a= .l (ls.map cg.c) I U:=by obtain⟨b,f,rfl,o,e,n⟩:=j;have m:∀i,i<L ls->([iv (gd ls i).pw,f i].map<|frN Y)=cg.c (gd ls i):=λi d=>(by simp only[ji,mU,(e i d).fr,cg.c];rfl);have p:(io (L ls) λi=>[iv (gd ls i).pw,f i]).map (·.map (frN Y))=ls.map cg.c:=(by rw[aH1 (l:=ls) (g:=cg.c)];grind [io,vA,ja]);have k:((io (L ls) λi=>[iv (gd ls i).pw,f i]).all λr=>r.all λc=>eN<|frN Y c)=U:=(by rw[dV];intro r h;simp only[io,dN,fq] at h;obtain⟨i,d,rfl⟩:=h;simp only[Cs,aqG,(e i d).fr,ru];rfl);have q:(io (L ls) λi=>[iv (gd ls i).pw,f i]).take (L ls)=io (L ls) λi=>[iv (gd ls i).pw,f i]:=(by grind [List.take_of_length_le,aH0]);grind [dQ]
def bc.frD{Y:ae}{e:TypeId}{z:Nat}{a:AV}{aa:List (List AV)}(c:bc Y e z a aa):∃t o,dQ Y a= .l aa t o:=by rcases c with⟨rfl,rfl⟩|⟨b,rfl,d⟩;exact⟨_,_,rfl⟩;simp_all [dQ]
section
variable{Y:ae}{s:aW}{a1 a2 a3:AV}
theorem Sz.fx{Y':ae}(S:Sz Y s a1 a2 a3)(a:Fx Y Y' []):Sz Y' s a1 a2 a3:=⟨a.kq S.bx,S.g1.fx a (by simp),S.g2.fx a (by simp),S.g3.fx a<|by simp⟩
theorem Sz.th{i:Int}{j:Nat}{x:Value}{K:AV->be}(S:Sz Y s a1 a2 a3)(n:aF (L s.ay) i)(o:j<3)(d:aoC)(r:(gd s.ay i.toNat).c.set j (.s x)=d.c)(m:∀b Y',Fx Y Y' (aA a3)->Sz Y' (ni s i d) a1 a2 a3->aA a3=[b]->K (.p b i.toNat 0) (.p b i.toNat j) Y'):rV (cz 3 Y a3<|iv i) λp=>rV (iQ j Y p) λq=>sV (aK 1 Y q<|.s x) (K p q):=by refine DB S.g3 n o d r λb Y' h a l=>m b Y' a ⟨?_,?_,?_,l⟩ h;refine a.keep _ _ (λf=>?_) S.bx;have:=S.g3.ids _ f;rw[S.bx] at this;cases this;exact S.g1.fx a λk e=> .inl ⟨_,S.g3.ids k e, .inr ⟨rfl,by simp⟩⟩;exact S.g2.fx a λk e f=>by have g:=S.g2.ids _ e;rw[S.g3.ids _ f] at g;cases g
theorem Sz.lk{i o:Int}{K:AV->be}(S:Sz Y s a1 a2 a3)(e:aF (L s.ak) i)(r:∀b Y',Fx Y Y' (aA a1)->Sz Y' (lC s i {cH s i with pw:=o}) a1 a2 a3->aA a1=[b]->K (.p b i.toNat 0) (.p b i.toNat 0) Y'):rV (cz 2 Y a1<|iv i) λp=>rV (iQ 0 Y p) λq=>sV (aK 1 Y q<|iv o) (K p q):=by have h:i.toNat<L s.ak:=(by have:=e.1;have:=e.2;omega);obtain⟨b,f,rfl,d,w,v⟩:=S.g1;have j:cz 2 Y (.m b<|L s.ak) (iv i)=V (.p b i.toNat 0):=(by simp[cz,e.1,d,h]);rw[j];simp only[rV,rR,d,df,aj];refine Bp d (uU h) (x:=iv o) rfl rfl (by simp) λY' c l=>r b Y' c ⟨?_,?_,?_,?_⟩ rfl;refine c.keep _ _ (λg=>?_) S.bx;simp only[cE] at g;have:=S.bx;simp_all;refine⟨b,f,by simp[lC],?_,λk a=>?_,?_⟩;rw[l,Bl];simp only[lC,zq];congr 2;refine yC λk a=>?_;grind [gd,cH,oq];have t:k<L s.ak:=(by grind [lC]);have u:(gd (lC s i {cH s i with pw:=o}).ak k).bk=(gd s.ak k).bk:=(by grind [lC,cH,gd,oq]);grind [qg.fx,qg.ids];grind [lC];exact S.g2.fx c λk a g=>(by have n:=S.g2.ids _ a;simp_all);exact S.g3.fx c λk a g=>by have n:=S.g3.ids _ a;simp_all
theorem Sz.dn{i:Int}{v:Bool}{K:ae->Prop}(S:Sz Y s a1 a2 a3)(e:aF (L s.done) i)(g:∀Y',Fx Y Y' (aA a2)->Sz Y' {s with done:=s.done.set i.toNat v} a1 a2 a3->K Y'):rV (cz 1 Y a2<|iv i) λp=>sV (aK 1 Y p<|bv v) K:=by have n:i.toNat<L s.done:=(by have:=e.1;have:=e.2;omega);refine ixI S.g2 (by grind) λb d h=>?_;have l:(s.done.map cb)[i.toNat]?=V (cb<|gd s.done i.toNat):=(by grind [eC,bT]);refine wL h l (by simp) λY' f m=>?_;have F:Fx Y Y' (aA a2):=(by rw[d];exact f);refine g Y' F ⟨?_,?_,?_,?_⟩;grind [Fx.keep,bc.ids,Sz.g2,Sz.bx];exact S.g1.fx F λk a=> .inl ⟨_,S.g2.ids k a, .inr ⟨rfl,by simp⟩⟩;refine .inr ⟨b,by rw[d];simp,?_⟩;simp_all;exact S.g3.fx F λk a j=>by have c:=S.g3.ids _ a;rw[S.g2.ids _ j] at c;cases c
theorem Sz.tx{x:Int}{K:ae->Prop}(S:Sz Y s a1 a2 a3)(e:∀Y',Fx Y Y' [(7,1)]->Sz Y' {s with tx:=x} a1 a2 a3->K Y'):sV (aK 1 Y (.p (7,1) 0 1)<|iv x) K:=by refine cy (cs:=[iv x]) S.bx rfl rfl (by simp) λY' F c=>e Y' F ⟨c,?_,?_,?_⟩;exact S.g1.fx F (by grind [Sz.bx]);exact S.g2.fx F λk a b=>(by simp only[cE] at b;have d:=S.g2.ids _ a;grind [Sz.bx]);exact S.g3.fx F λk a b=>by simp only[cE] at b;have d:=S.g3.ids _ a;grind [Sz.bx]
end
theorem sC.ids{Y:ae}{a:AV}{ls:List cg}(c:sC Y a ls):∀k∈aA a,∃aa,box Y k=V ⟨186,2,U,U,aa⟩:=by obtain⟨b,f,rfl,d,_⟩:=c;grind [aA,cE]
theorem Sz.no{Y:ae}{s:aW}{a1 a2 a3:AV}(S:Sz Y s a1 a2 a3){c:Id}{x:bY}(b:box Y c=V x)(e:x.var=U)(d:x.elem≠186):c∉aA a1/\c∉aA a2/\c∉aA a3:=by refine⟨λh=>?_,λh=>?_,λh=>?_⟩;obtain⟨aa,a⟩:=S.g1.ids _ h;grind;have a:=S.g2.ids _ h;grind;have a:=S.g3.ids _ h;grind
def Bk{a b c d:AV}:aN J ([a,b,c,d].drop 3)=V d:=rfl
def aHW{a b c d:AV}:aN J ([a,b,c,d].drop 2)=V c:=rfl
def QW{a b c d:AV}:aN J ([a,b,c,d].drop 0)=V a:=rfl
def Ou(w:vb)(s:aW)(t kind nt lD:Int)(hp:jm w s t kind nt=U/\L w.bC<=2/\(∀l∈s.ak,L l.bk<12)/\(∀l∈s.ak,jC l.bk)/\L s.ak<1000/\L s.done<1000/\L s.ay<1000):Ct 130 [.a w.c, .a s.c,iv t,iv kind,iv nt,iv lD] (λr=>∃f,r= .t [.a<|eD (cU w s t kind nt lD).1 f,iv (cU w s t kind nt lD).2,bv U]):=by refine aK1 rfl rfl rfl λs6 hl b1 b2 b3 h0=>?_;obtain⟨he,cC,bd,cI,dw,dx,bF⟩:=hp;have br:=he;simp only[jm,bN] at br;obtain⟨hf,hi,hn,af⟩:=br;obtain⟨f1,f2,f3,f4⟩:=iY hf;obtain⟨mI,lk,cd,th,dn⟩:=D0 hf hn;have ag:aF (L s.ay) t:=(by grind [dX]);simp only[Ii,↓uL];refine mo hl λs8 F8 b8=>?_;have c1:box s8 (6,1)=_:=F8.bt b1;have c2:box s8 (7,1)=V ⟨36,4,U,U,[s.c]⟩:=(by grind [Fr.box]);have c3:box s8 (8,1)=V ⟨3,1,U,U,[[iv t]]⟩:=(by grind [Fr.box]);have bu:L s8=4096:=(by rw[F8.1,hl]);generalize(aZ s6 12).lB+1=Z at*;have cb:lh w s=U/\L w.bC<=2/\∀l∈s.ak,L l.bk<100000:=⟨hf,cC,λl hl=>by have:=bd l hl;omega⟩;simp+contextual only[aaT,u0,u1,c1,c2,c3,rk,iF,ip,ar,aml,he,aj,fh,eE,aNG,aNU,bR,↓uL];refine⟨cb,?_⟩;refine jH rfl (aCp s bu<|by grind) ?_;rintro r Y1 ⟨⟨a1,a2,a3,rfl,g1,g2,g3,hN,bD⟩,F1⟩;refine⟨F1.len,?_⟩;have d1:=F1.kq c1;have d2:=F1.kq c2;have d3:=F1.kq c3;have d8:=F1.kq b8;simp only[aaS,↓uL];refine cy (cs:=[a1,iv s.tx,a2,a3]) d2 rfl rfl (by simp[aW.c]) λC F2 e2=>?_;have bp:vC C a1 s.ak:=(by grind [vC.fx]);have S:Sz C s a1 a2 a3:=(by refine⟨e2,g1.g.fx F2 λk W=>?_,g2.fx F2 λk W H=>?_,g3.fx F2 λk W H=>?_⟩;simp_all;simp only[cE] at H;have y:=g2.ids _ W;simp_all;grind);have e1:box C (6,1)=_:=F2.kq d1;have e3:=F2.kq d3;have e8:box C (12,Z)=V ⟨36,4,U,U,[aNC]⟩:=F2.kq d8;have ax:L C=4096:=F2.len.trans<|F1.len.trans bu;simp only[aaR,di,↓uL];refine aCn (λvs Y'=>vs=[iv (cU w s t kind nt lD).2]/\Sz Y' (cU w s t kind nt lD).1 a1 a2 a3/\∃aa,box Y' (12,Z)=V ⟨36,4,U,U,[aa]⟩/\L aa=4) (λo hJ=>?_) ?_;have aq:∀(sv:aW×Int) Y',cU w s t kind nt lD=sv->Sz Y' sv.1 a1 a2 a3->(∃aa,box Y' (12,Z)=V ⟨36,4,U,U,[aa]⟩/\L aa=4)->o [iv sv.2] Y':=(by grind);have r0:∃aa,box C (12,Z)=V ⟨36,4,U,U,[aa]⟩/\L aa=4:=⟨_,e8,rfl⟩;have rK:∀{Y Y':ae} {s':aW} {ks:List Id},Sz Y s' a1 a2 a3->(∃aa,box Y (12,Z)=V ⟨36,4,U,U,[aa]⟩/\L aa=4)->Fx Y Y' ks->(ks=aA a1\/ks=aA a2\/ks=aA a3\/ks=[(7,1)])->(∃aa,box Y' (12,Z)=V ⟨36,4,U,U,[aa]⟩/\L aa=4):=(by rintro Y Y' s' ks N ⟨aa,y,A⟩ F du;obtain⟨n1,n2,n3⟩:=N.no y rfl (by simp);refine⟨aa,F.keep _ _ ?_ y,A⟩;grind);simp+contextual only[aa6,u0,u1,S.bx,e3,aj,dc,Bk,iF,ip,↓uL];refine⟨λk1=>?_,λk1=>⟨λk2=>?_,λk2=>?_⟩⟩;have dy:=awG k1;exact S.th ag (by decide) {fA s t with cQ:=2} rfl (by grind [cU]);have dz:=awG k2;exact S.th ag (by decide) {fA s t with cQ:=5} rfl (by grind [cU]);simp only[aOe,acz,iM,aY,sw,↓uL];simp+contextual only[aa1,aI,au,u0,u1,S.bx,e3,aj,dc,Bk,QW,iF,ip,↓uL];refine⟨λk6=>?_,λk6=>?_⟩;simp only[fH,NA] at k6;exact S.lk (by grind) (by grind [cU]);simp only[aOe,acA,iM,aY,sw,↓uL];simp+contextual only[aa2,aI,au,u0,u1,S.bx,e1,e3,aj,dc,Bk,QW,aHW,iF,ip,↓uL];refine⟨λk7=>?_,λk7=>?_⟩;simp only[fH,NA] at k7;exact S.lk (by grind) (by grind [cU]);refine⟨λk8=>?_,λk8=>⟨λk9=>?_,λk9=>⟨λbG=>?_,λbG=>⟨λbH=>?_,λbH=>⟨λbI=>?_,λbI=>⟨λbM=>?_,λbM=>⟨λbO=>?_,λbO=>⟨λbS=>?_,λbS=>⟨λbT=>?_,λbT=>⟨λbU=>?_,λbU=>⟨λbV=>?_,λbV=>⟨λbW=>?_,λbW=>?_⟩⟩⟩⟩⟩⟩⟩⟩⟩⟩⟩⟩;have k:=awG k8;have M:=lk (by omega) (by omega);have G:nt.toNat<L s.ak:=qI M;obtain⟨B,f,rfl,P,hX,hD,hP⟩:=bp;have hc:=hX _ G;have aM:=cI _<|ii M;have be:=bd _<|ii M;have bB:t∉(gd s.ak nt.toNat).bk:=(by rw[lc] at af;simp[k] at af;exact af.2.2);have ba:cz 2 C (.m B<|L s.ak) (iv nt)=V (.p B nt.toNat 0):=(by simp[cz,M.1,P,G]);have bb:lS J C (.p B nt.toNat 1)=V (f nt.toNat):=(by simp only[lS,iE,P,qd,uU G,df];rfl);simp only[ba,aY,rR,P,df,aj,bb,iz,bQ,↓uL];refine gD (new:=[ci t]) hc rfl (by decide) (by omega) fF (by simp) (by simp;omega) λa' R ao D cF cG=>?_;have cw:(gd s.ak nt.toNat).bk.map ci++[ci t]=((gd s.ak nt.toNat).bk++[t]).map ci:=(by simp);rw[cw] at ao;obtain⟨z,rfl,a6⟩:∃z,a'= .m z (L (gd s.ak nt.toNat).bk+1)/\box R z=V ⟨3,1,U,I,((gd s.ak nt.toNat).bk++[t]).map ci⟩:=(by rcases ao with⟨y,_⟩|⟨z,y,A⟩;simp at y;exact⟨z,by rw[y];simp,A⟩);have a8:z.1≠7:=(by rcases cG z (by simp[aA]) with h|h;grind;omega);have bq:z∈aA (f nt.toNat)\/bK C z:=cF z (by simp[aA]);simp only[aaX,↓uL];refine dT (by simp[eL,okT,tok,lb,J4,dC,dK]) ?_;refine jH rfl (aCO aM bB be a6<|D.len.trans ax) ?_;rintro r Y4 ⟨rfl,cA,F4⟩;refine⟨F4.len,?_⟩;have nv:∀{q:Id} {x:bY},box C q=V x->x.elem≠3\/x.var=U->q∉aA (f nt.toNat)/\q≠z:=λ{q x} v X=>(by have y:q∉aA (f nt.toNat):=λH=>(by rw[hc.ids _ H] at v;grind);grind [bK.no]);have b0:∀{q:Id} {x:bY},box C q=V x->x.elem≠3\/x.var=U->box Y4 q=V x:=λ{q x} v X=>(by obtain⟨n1,n2⟩:=nv v X;exact F4.keep _ _ (by simpa using n2)<|D.keep _ _ n1 v);simp only[aaW,u0,u1,b0 S.bx<|.inl<|by simp,aj,QW,ip,iF,↓uL];have cj:L (fk (gd s.ak nt.toNat).bk t)=L (gd s.ak nt.toNat).bk+1:=(by have:=QK (gd s.ak nt.toNat).bk t;have h0:∀{l:List Int} {t:Int},t∉l->L (fk l t)=L l+1:=(by intro l;induction l with|nil=>intro t _;rfl|cons x l ih=>intro t ht;simp only[eW,not_or] at ht;simp only[fk];split;simp[ih ht.2];grind);exact h0 bB);have bz:=awP (d:=76) (K:=Im (.m B<|L s.ak) (iv nt) (.p (7,1) 0 0) (.p (7,1) 0 0) (.m z<|L (gd s.ak nt.toNat).bk+1) o) (Nz aM) cA (F4.len.trans<|D.len.trans ax) (by omega);rw[cj] at bz;refine bz λY5 F5 cB=>?_;have b5:∀{q:Id} {x:bY},box C q=V x->x.elem≠3\/x.var=U->box Y5 q=V x:=λ{q x} v X=>F5.keep _ _ (by simpa using(nv v X).2) (b0 v X);have aJ:=b5 P (.inl<|by simp);have cg:cz 2 Y5 (.m B<|L s.ak) (iv nt)=V (.p B nt.toNat 0):=(by simp[cz,M.1,aJ,G]);simp only[Im,cg,aY,rR,aJ,df,aj,↓uL];refine Bp aJ (uU G) (x:= .m z<|L (gd s.ak nt.toNat).bk+1) rfl rfl (by simp) λY6 F6 a7=>?_;simp only[aaV,↓uL];have nL:∀{q:Id} {x:bY},box C q=V x->x.elem≠186->q≠B:=(by grind);have O:∀{q:Id} {x:bY},box C q=V x->x.elem≠3\/x.var=U->x.elem≠186->box Y6 q=V x:=λ{q x} v X hL=>F6.keep _ _ (by simpa using nL v hL)<|b5 v X;have aD:z≠B:=(by grind);have S6:Sz Y6 (lC s nt {cH s nt with bk:=mP (cH s nt).bk [t]}) (.m B<|L s.ak) a2 a3:=(by refine⟨O S.bx (.inr rfl) (by simp),⟨B,λi=>if i=nt.toNat then .m z (L (gd s.ak nt.toNat).bk+1) else f i,by simp[lC],?_,λi hi=>?_,λi j hi hj bA q v=>?_⟩,?_,?_⟩;rw[a7,Bl];simp only[lC,zq];congr 2;refine yC λi hi=>?_;by_cases h:i=nt.toNat;subst h;simp[gd,G,cH];have:gd (s.ak.set nt.toNat {cH s nt with bk:=mP (cH s nt).bk [t]}) i=gd s.ak i:=(by simp only[gd,eI];rw[oq<|λe=>h e.symm]);grind;have E:i<L s.ak:=(by simpa[lC] using hi);by_cases h:i=nt.toNat;subst h;have:(gd (lC s nt {cH s nt with bk:=mP (cH s nt).bk [t]}).ak nt.toNat).bk=fk (gd s.ak nt.toNat).bk t:=(by rw[show gd (lC s nt {cH s nt with bk:=mP (cH s nt).bk [t]}).ak nt.toNat={cH s nt with bk:=mP (cH s nt).bk [t]} from by simp[lC,gd,G]];exact Ro aM);simp only[this,↓reduceIte];refine .inr ⟨z,(fk (gd s.ak nt.toNat).bk t).map ci,by grind,F6.keep _ _ (by simpa using aD) cB,gV⟩;have:gd (lC s nt {cH s nt with bk:=mP (cH s nt).bk [t]}).ak i=gd s.ak i:=(by simp only[lC,gd,eI];rw[oq<|λe=>h e.symm]);simp only[this,j1 h];have q0:∀q∈aA (f i),q∉aA (f nt.toNat)/\q≠z/\q≠B:=λq v=>(by have y:=hD i nt.toNat E G h q v;have A:=(hX i E).ids q v;refine⟨y,?_,by grind⟩;rintro rfl;rcases bq with h3|h3;exact y h3;exact h3.no _ A);exact((((hX i E).fx D λq v=>(q0 q v).1).fx F4 λq v=>by simpa using(q0 q v).2.1).fx F5 λq v=>by simpa using(q0 q v).2.1).fx F6 (λq v=>by simpa using(q0 q v).2.2)|>.x;have E:i<L s.ak:=(by simpa[lC] using hi);have aO:j<L s.ak:=(by simpa[lC] using hj);have aw:∀m,m<L s.ak->m≠nt.toNat->z∉aA (f m):=λm H bw v=>(by rcases bq with h3|h3;grind;exact h3.no _<|(hX m H).ids _ v);by_cases y:i=nt.toNat;have A:j≠nt.toNat:=(by omega);simp only[hH y,aA,cE] at v;subst v;simp only[j1 A];exact aw j aO A;simp only[j1 y] at v;by_cases A:j=nt.toNat;simp only[hH A,aA,cE];rintro rfl;exact aw i E y v;simp only[j1 A];exact hD i j E aO bA q v;rcases S.g2 with h|⟨q,y,A⟩;exact .inl h;exact .inr ⟨q,y,O A (.inl<|by simp) (by simp)⟩;rcases S.g3 with h|⟨q,y,A⟩;exact .inl h;exact .inr ⟨q,y,O A (.inl<|by simp) (by simp)⟩);obtain⟨aa,r1,r2⟩:=r0;refine dT (by simp[eL,okT,tok,lb,J4,dC,dK,a8.symm]) (aq (_,0) Y6 (by simp[cU,lC,k]) S6 ⟨aa,O r1 (.inr rfl) (by simp),r2⟩);have k:=awG k9;have M:=lk (by omega) (by omega);have G:nt.toNat<L s.ak:=qI M;obtain⟨B,f,rfl,P,hX,hD,hP⟩:=bp;have hc:=hX _ G;have be:=bd _<|ii M;have H:t∈(gd s.ak nt.toNat).bk:=(by rw[lc] at af;simp[k] at af;exact af.2);obtain⟨z,bs,a6⟩:∃z,f nt.toNat= .m z (L (gd s.ak nt.toNat).bk)/\box C z=V ⟨3,1,U,I,(gd s.ak nt.toNat).bk.map ci⟩:=(by rcases hc with⟨y,_⟩|⟨z,y,A⟩;simp at y;grind;grind);have a9:aA (f nt.toNat)=[z]:=(by rw[bs];rfl);have a8:z.1≠7:=(by grind);have ba:cz 2 C (.m B<|L s.ak) (iv nt)=V (.p B nt.toNat 0):=(by simp[cz,M.1,P,G]);have bb:lS J C (.p B nt.toNat 1)=V (f nt.toNat):=(by simp only[lS,iE,P,qd,uU G,df];rfl);simp only[ba,aY,rR,P,df,aj,bb,bs,↓uL];refine awR H a6 e3 ax (by omega) λR D cx=>?_;have nv:∀{q:Id} {x:bY},box C q=V x->x.elem≠3\/x.var=U->q≠z:=(by grind);have bX:∀{q:Id} {x:bY},box C q=V x->x.elem≠3\/x.var=U->box R q=V x:=λ{q x} v X=>D.keep _ _ (by simpa using nv v X) v;have aG:=bX P (.inl<|by simp);have cf:cz 2 R (.m B<|L s.ak) (iv nt)=V (.p B nt.toNat 0):=(by simp[cz,M.1,aG,G]);simp only[aaZ,cf,aY,rR,aG,df,aj,↓uL];refine Bp aG (uU G) (x:= .m z<|L<|fJ (gd s.ak nt.toNat).bk t) rfl rfl (by simp) λY6 F6 a7=>?_;simp only[aaY,↓uL];have nL:∀{q:Id} {x:bY},box C q=V x->x.elem≠186->q≠B:=(by grind);have O:∀{q:Id} {x:bY},box C q=V x->x.elem≠3\/x.var=U->x.elem≠186->box Y6 q=V x:=λ{q x} v X hL=>F6.keep _ _ (by simpa using nL v hL)<|bX v X;have aD:z≠B:=(by grind);have S6:Sz Y6 (lC s nt {cH s nt with bk:=fJ (cH s nt).bk t}) (.m B<|L s.ak) a2 a3:=(by refine⟨O S.bx (.inr rfl) (by simp),⟨B,λi=>if i=nt.toNat then .m z (L<|fJ (gd s.ak nt.toNat).bk t) else f i,by simp[lC],?_,λi hi=>?_,λi j hi hj bA q v=>?_⟩,?_,?_⟩;rw[a7,Bl];simp only[lC,zq];congr 2;refine yC λi hi=>?_;by_cases h:i=nt.toNat;subst h;simp[gd,G,cH];have:gd (s.ak.set nt.toNat {cH s nt with bk:=fJ (cH s nt).bk t}) i=gd s.ak i:=(by simp only[gd,eI];rw[oq<|λe=>h e.symm]);grind;have E:i<L s.ak:=(by simpa[lC] using hi);by_cases h:i=nt.toNat;subst h;have:(gd (lC s nt {cH s nt with bk:=fJ (cH s nt).bk t}).ak nt.toNat).bk=fJ (gd s.ak nt.toNat).bk t:=(by simp[lC,gd,G,cH]);simp only[this,↓reduceIte];refine .inr ⟨z,_,by simp,F6.keep _ _ (by simpa using aD) cx,?_⟩;simp;have:gd (lC s nt {cH s nt with bk:=fJ (cH s nt).bk t}).ak i=gd s.ak i:=(by simp only[lC,gd,eI];rw[oq<|λe=>h e.symm]);simp only[this,j1 h];have q0:∀q∈aA (f i),q≠z/\q≠B:=λq v=>(by have y:=hD i nt.toNat E G h q v;rw[a9] at y;have A:=(hX i E).ids q v;grind);exact(((hX i E).fx D<|by grind).fx F6<|λq v=>by simpa using(q0 q v).2).x;have E:i<L s.ak:=(by simpa[lC] using hi);have aO:j<L s.ak:=(by simpa[lC] using hj);have aw:∀m,m<L s.ak->m≠nt.toNat->z∉aA (f m):=λm H bw v=>hD m nt.toNat H G bw _ v (by grind);by_cases y:i=nt.toNat;have A:j≠nt.toNat:=(by omega);simp only[hH y,aA,cE] at v;subst v;simp only[j1 A];exact aw j aO A;simp only[j1 y] at v;by_cases A:j=nt.toNat;simp only[hH A,aA,cE];rintro rfl;exact aw i E y v;grind;rcases S.g2 with h|⟨q,y,A⟩;exact .inl h;exact .inr ⟨q,y,O A (.inl<|by simp) (by simp)⟩;rcases S.g3 with h|⟨q,y,A⟩;exact .inl h;exact .inr ⟨q,y,O A (.inl<|by simp) (by simp)⟩);obtain⟨aa,r1,r2⟩:=r0;refine dT (by simp[eL,okT,tok,lb,J4,dC,pP,dK,a8.symm]) (aq (_,0) Y6 (by simp[cU,lC,k]) S6 ⟨aa,O r1 (.inr rfl) (by simp),r2⟩);have k:=awG bG;exact S.tx (by grind [cU]);have k:=awG bH;exact S.tx (by grind [cU]);have k:=awG bI;exact S.th ag (by decide) {fA s t with atomic:=U} rfl (by grind [cU]);have k:=awG bM;exact S.th ag (by decide) {fA s t with atomic:=I} rfl (by grind [cU]);have k:=awG bO;have T:=cd (by omega) (by omega);simp only[rk,ix,u0,u1,↓uL];refine⟨T,?_⟩;refine S.lk (K:=λ_ _ Y=>Ik (.p (7,1) 0 0) (.p (8,1) 0 0) (iv nt) o Y) (mI T) λb Y' F' N a9=>?_;have n:=S.no e3 rfl (by simp);have a4:=F'.keep _ _ n.1 e3;simp only[Ik,u0,u1,N.bx,a4,aj,Bk,iF,ip,↓uL];refine N.th (by grind [lC]) (by decide) {fA s t with cQ:=3} rfl λb3 R D S3 aL=>?_;simp only[aaO,↓uL];refine S3.th (by grind [lC,ni]) (by decide) {fA s t with cQ:=3,cond:=nt} (by simp only[ni,lC];rw[Af ag];rfl) λb4 Y4 F4 S4 ce=>?_;simp only[aa0,↓uL];refine dT ?_ (aq (_,0) Y4 ?_ S4<|rK S3 (rK N (rK S r0 F'<|by simp) D<|by simp) F4<|by simp);have:=bD b3 (by rw[aL];simp);simp[eL,okT,tok,lb,J4,dC,dK,this.1.symm,this.2.symm];simp[cU,k,ni,lC];have k:=awG bS;have T:=cd (by omega) (by omega);simp only[rk,ix,u0,u1,↓uL];refine⟨T,?_⟩;refine S.lk (K:=λ_ _ Y=>Il (.p (7,1) 0 0) (.p (8,1) 0 0) o Y) (mI T) λb Y' F' N a9=>?_;have n:=S.no e3 rfl (by simp);have a4:=F'.keep _ _ n.1 e3;simp only[Il,u0,u1,N.bx,a4,aj,Bk,iF,ip,↓uL];refine N.th (by grind [lC]) (by decide) {fA s t with cQ:=2} rfl λb3 R D S3 aL=>?_;simp only[aaQ,↓uL];refine S3.th (by grind [lC,ni]) (by decide) {fA s t with cQ:=2,cond:=0} (by simp only[ni,lC];rw[Af ag];rfl) λb4 Y4 F4 S4 ce=>?_;simp only[aaP,↓uL];refine dT ?_ (aq (_,0) Y4 ?_ S4<|rK S3 (rK N (rK S r0 F'<|by simp) D<|by simp) F4<|by simp);have:=bD b3 (by rw[aL];simp);simp[eL,okT,tok,lb,J4,dC,dK,this.1.symm,this.2.symm];simp[cU,k,ni,lC];have k:=awG bT;simp only[uS,aY,↓uL];refine jH rfl (aCD s nt lD ax bF S.g3) ?_;rintro r R ⟨rfl,ao,D⟩;have dt:∀x:aW,x.ak=s.ak->x.tx=s.tx->x.done=s.done->bc R 85 3 a3 (x.ay.map aoC.c)->Sz R x a1 a2 a3:=λx q1 q2 q3 q4=>(by have n:=S.no S.bx rfl (by simp);refine⟨by grind [Fx.keep,Sz.bx],by rw[q1];exact S.g1.fx D λk W=> .inl ⟨_,S.g3.ids k W, .inr ⟨rfl,by simp⟩⟩,?_,q4⟩;rw[q3];exact S.g2.fx D λk W H=>by have y:=S.g2.ids _ W;rw[S.g3.ids _ H] at y;cases y);refine⟨D.len,?_⟩;by_cases hw:fO s nt=[];have hc:gH s nt lD (L s.ay)= -1:=(by rw[gH];exact hH hw);grind [cU];have hc:gH s nt lD (L s.ay)=tD s nt lD:=(by rw[gH];exact j1 hw);have h0:0<=tD s nt lD:=(by rw[<-hc,gH,j1<|show¬eh s nt (L s.ay)=[] from hw];split;grind [AN];exact(Li hw).1);grind [cU,ni,tD,fA];have k:=awG bU;simp only[uS,aY,↓uL];refine jH rfl (aCE s nt ax bF S.g3) ?_;rintro r R ⟨rfl,ao,D⟩;have n:=S.no S.bx rfl (by simp);have H:∀(l:List Int) (s:aW),(mH s l).ak=s.ak/\(mH s l).tx=s.tx/\(mH s l).done=s.done:=(by intro l;induction l with|nil=>simp|cons u l ih=>grind [ni]);obtain⟨q1,q2,q3⟩:=H (fO s nt) s;refine⟨D.len,?_⟩;refine aq (mH s<|fO s nt,L<|fO s nt) R (by simp[cU,k]) ⟨?_,?_,?_,ao⟩ (rK S r0 D<|by simp);grind [Fx.keep,Sz.bx];rw[q1];exact S.g1.fx D λk W=> .inl ⟨_,S.g3.ids k W, .inr ⟨rfl,by simp⟩⟩;rw[q3];exact S.g2.fx D λk W H=>(by have y:=S.g2.ids _ W;rw[S.g3.ids _ H] at y;cases y);have k:=awG bV;exact S.th (by grind) (by decide) {fA s nt with cQ:=1} rfl (by grind [cU]);have k:=awG bW;exact S.dn (by grind) (by grind [cU]);grind [cP,decide_eq_false_iff_not,cU];rintro vs Y' ⟨rfl,N,aa,r1,r2⟩;have dv:(7:Nat)≠12:=(by decide);simp only[CP,aI,u0,u1,N.bx,aj,uS,↓uL];refine cy (cs:=[a1,iv (cU w s t kind nt lD).1.tx,a2,a3]) r1 rfl rfl (by omega) λad aV ds=>?_;have cq:box ad (12,Z)=V ⟨36,4,U,U,[[a1,iv (cU w s t kind nt lD).1.tx,a2,a3]]⟩:=(by simp_all);have n:=N.no r1 rfl (by simp);have y:=N.g1.fx aV (by simp_all);have A:=N.g2.fx aV (by grind);have h3:=N.g3.fx aV (by grind);simp only[aco,u0,u1,cq,aj,uS,au,↓uL];obtain⟨t2,o2,q2⟩:=A.frD;obtain⟨t3,o3,q3⟩:=h3.frD;have hr:jS ad [.a [a1,iv (cU w s t kind nt lD).1.tx,a2,a3],iv (cU w s t kind nt lD).2,bv U]= .t [.a<|eD (cU w s t kind nt lD).1 (I,U,t2,o2,t3,o3),iv (cU w s t kind nt lD).2,bv U]:=(by show AV.t [.a [dQ ad a1,dQ ad<|iv (cU w s t kind nt lD).1.tx,dQ ad a2,dQ ad a3],_,_]=_;rw[y.fr,q2,q3];rfl);unfold aE;rw[hr];exact⟨rfl,_,rfl⟩
def BT:FT:=BL Ou
def ayr{w s t kind nt lD Lw K}:=al4 BT Ou w s t kind nt lD Lw K
def aYa:dO:=(130,BT)::Rm
def Bv:eJ aYa:=it (apO Ou)<|ape
def rX:=ai @ayr<|@aml
def ath:=bA 22 [(8,([32],[1,2,4,5,30,31])),(15,([8],[1,2,4,5,7,30,31,32]))]
def Zt a b R:=(.mk _:NF<|zF GG aYa ath Tryz.f96 [.u] [a] b<|I3 Tryz.f96 R).p
def aKI{c0:List AV}{R:o8}(l0:L c0=15)(h:H1 43 15 1 c0 λia b=>Zt ia b R):Ct 96 [.a c0] R:=z1 ath Bv Tryz.func96 l0 h
def atm:=bA 23 [(6,([25],[1,2,23,24])),(15,([53],[1,2,6,23,24,25,51,52]))]
def ZW a b c R:=(.mk _:NF<|zF GG aYa atm Tryz.f154 [.u,b] [a] c<|I3 Tryz.f154 R).p
def aKN{c0:List AV}{b:AV}{R:o8}(l0:L c0=16)(h:H1 174 16 2 c0 λia c=>ZW ia b c R):Ct 154 [.a c0,b] R:=z1 atm Bv Tryz.func154 l0 h
theorem awz{w:am}{f e:Int}(h:aOj w f e=U):wW (gd w.ac e.toNat).kind=U:=by grind [aOj,wW,decide,gd]
def Ds(l:List Int):cJ:=⟨2,0,0,0,0,l⟩
def Od(x:jY)(l:List Int)(B:nK x/\qx x.w (Ds l)=U):Ct 154 [.a x.c,sl ci l] (·=bv U):=by refine aKN rfl λC P u H=>?_;obtain⟨z,s⟩:=B;have D:=z.wo.ev;have n:box C (2,1)=V ⟨174,16,U,U,[x.w.c++[sl aW.c x.ss]]⟩:=u;simp only[qx,bN,eH,NA] at s;obtain⟨K,t,f⟩:=s;have e:(Ds l).cW=l:=rfl;have F:2<=L l/\L l<=4:=(by grind [rO,cP,decide_eq_false_iff_not]);rw[e] at t f;have A:∀j,j<L l->aF (L x.w.ac) (gd l j):=(by grind [dX]);have o:(l.all λi=>dh i<|L x.w.ac)=U:=(by grind [dV,List.mem_iff_getElem,bT]);have z1:¬((L l:Int)<2):=(by omega);have z2:¬((4:Int)<L l):=(by omega);have d:aN (V 16) (x.w.c++[sl aW.c x.ss])=V (.a x.c):=rfl;simp+contextual only[ZW,u0,u1,n,kj,d,rk,ix,aj,z1,z2,aPy,kz,lG,eE,aNG,aNU,bR,ar,sG,rX,o,fh,↓uL];refine⟨by omega,?_⟩;refine C7 (L l) (λk=>True) trivial λk O N=>?_;have q:wl .rem 0 [] (iv<|dq.wrap<|(k:Int)+1) (iv<|L l)=V (iv (((k+1)%L l:Nat):Int)):=(by rw[fX<|by omega];exact aod<|by omega);have p:(k+1)%L l<L l:=Nat.mod_lt _ (by omega);simp+contextual only[qz 37,u0,u1,n,kj,d,rk,ix,aj,ar,sG,rX,bh,Gx,q,cT,↓uL];refine⟨λr=>?_,λr=>trivial⟩;have g:=aL r;obtain⟨y,M⟩:=f k g;have b:=y;simp only[rN,cP,fK,e,alP] at b;have G:wW (gd x.w.ac (gd l<|(k+1)%L l).toNat).kind=U:=(by grind [rN,cP,fK,awz]);simp+contextual only[b.1,b.2,eE,aNG,aNU,fh,kz,lG,bR,aov,cT,u0,u1,↓uL];refine⟨dJ g,⟨by omega,by omega⟩,dJ p,(by simp_all),(by omega),?_⟩;have h:L (l.take k)=k:=(by simp_all);rw[bh,h];refine C7 k (λm=>True) trivial λm R _=>?_;simp+contextual only[qz 91,u0,u1,n,kj,d,rk,ix,aj,bh,cT,h,↓uL];refine⟨λv=>?_,by grind [gS]⟩;have E:=aL v;grind [gd,bT,sP,dJ,gS]
def Fb:FT:=aIc Od
def ayf{x l Lw K}:=f210 Fb Od x l Lw K (j:=by simp+contextual only[ij,j9])
structure kQ(n:Nat)(s:aW):Prop where
 lo:L s.ak<=4
 dn:L s.done<=2
 th:L s.ay<=4
 rd:∀l∈s.ak,jC l.bk/\∀x∈l.bk,aF n x
def aB2{l:List Int}{n:Nat}(h:jC l)(b:∀x∈l,aF n x):∀i:Nat,i<L l->(i:Int)<=gd l i:=by intro i;induction i with|zero=>intro a;exact(b _<|dB a).1|succ i c=>intro a;have:=h i a;omega
def AC{l:List Int}{n:Nat}(h:jC l)(a:∀x∈l,aF n x):L l<=n:=by rcases oD (L l) with b|b;omega;have c:=aB2 h a (L l-1) (by omega);have d:=(a _<|dB<|show L l-1<L l by omega).2;omega
structure vL(w:am):Prop where
 wo:kB w
 th:L w.aQ.ay<=4
 sy:∀k:Nat,k<L w.ac->kQ (L w.aQ.ay) (cY w k).bm
def awH{ds:List AV}{s:aW}{Y:ae}(h:Lk ds s.c):aX bnE 1 Y [(0, .a ds)]=V (.l [s.c] U U,Y):=by unfold aX;simp only[ji,mU,Cz,RN,cL,show nrm (eR Y<|.a ds)= .a s.c from h.arg Y,x9 h];rfl
def aDi{s:aW}{f:Bool×Bool×Bool×Bool×Bool×Bool}:Lk (eD s f) s.c:=⟨rfl,rfl⟩
def aQv(w:am)(k:Nat):List aW:=(aH k).map λj=>(cY w j).bm
def aIv{w:am}{k:Nat}:aQv w (k+1)=aQv w k++[(cY w k).bm]:=by rw[aQv,qn,dg];rfl
theorem aIu{w:am}{k:Nat}:L (aQv w k)=k:=by simp[aQv]
def Kk{w:am}(h:vL w){k:Nat}(c:k<L w.ac):jm w.aQ (cY w k).bm (gd w.ac k).aq (gd w.ac k).kind (gd w.ac k).nt=U/\L w.aQ.bC<=2/\(∀l∈(cY w k).bm.ak,L l.bk<12)/\(∀l∈(cY w k).bm.ak,jC l.bk)/\L (cY w k).bm.ak<1000/\L (cY w k).bm.done<1000/\L (cY w k).bm.ay<1000:=by have d:=(h.wo.en k c).2;have a:=h.sy k c;have:=h.th;have:=a.lo;have:=a.dn;have:=a.th;refine⟨?_,h.wo.co,λl b=>by have:=AC (a.rd l b).1 (a.rd l b).2;omega,λl b=>(a.rd l b).1,by omega,by omega,by omega⟩;grind [C1,aOL,eH,cP,fK]
def aoF{w:am}(h:vL w){k:Nat}(a:k<L w.ac):(cY w<|k+1).bm=(cU w.aQ (cY w k).bm (gd w.ac k).aq (gd w.ac k).kind (gd w.ac k).nt<|og<|gd w.ac k).1:=by have b:=(h.wo.en k a).2;grind [cY,nD,oc]
def NX(w:am)(M:vL w):Ct 96 [.a w.c] (λr=>∃f o,r= .t [.a<|w.c++[.l ((aQv w<|L w.ac).map aW.c) f o],bv U]):=by refine aKI rfl λs2 x b1 h0=>?_;have br:=M.wo.ev;have bs:=M.th;have z1:¬((16:Int)<L w.ac):=(by omega);have z2:¬((4:Int)<L w.aQ.ay):=(by omega);simp only[Zt,↓uL];refine mo x λs3 s b3=>?_;have c1:box s3 (1,1)=_:=s.bt b1;have z7:aN (V 15) w.c=V (.a w.c):=rfl;have aP:bM baF [(0,15),(15,1)] [(0, .a w.c)]=V (.a<|w.c++[.l [] U U]):=rfl;simp only[qz 4,qy 6,u0,u1,c1,z7,aP,aY,↓uL];refine mo (s.1.trans x) λZ O ap=>?_;have aq:box Z (4,(aZ s3 4).lB+1)=V ⟨174,16,U,U,[baF]⟩:=ap;have aR:L (w.c++[AV.l [] U U])=16:=(by simp[am.c,vb.c,mn.c,aW.c]);have S:L (baF)=16:=rfl;have aU:4<L Z:=(by rw[O.1,s.1,x];decide);refine gN aq aU S aR λs4 al b4=>?_;have D:=O.trans al;have d1:box s4 (1,1)=_:=D.bt c1;have d3:box s4 (2,_)=_:=D.bt b3;simp+contextual only[qz 8,qy 10,qy 12,u0,u1,d1,rk,aj,Nat.add_zero,z1,z2,aPy,kz,lG,eE,aNG,aNU,bR,↓uL];refine eF rfl rfl (by decide) (by rw[D.1,s.1,x];decide) λB E b5=>?_;have e1:box B (1,1)=_:=E.bt d1;have e3:box B (2,_)=_:=E.bt d3;have e4:box B (4,_)=_:=E.bt b4;simp only[qz 14,u0,u1,e1,rk,aj,↓uL];generalize bu:(aZ s2 2).lB+1=v2 at e3⊢;generalize bw:(aZ s3 4).lB+1=q at e4⊢;generalize bx:(aZ s4 5).lB+1=C at b5⊢;have l5:L B=4096:=(by rw[E.1,D.1,s.1,x]);refine⟨λvs Y=>∃(k:Nat) (a:AV) (ds:List AV),vs=[iv k]/\k<=L w.ac/\Lk ds (cY w k).bm.c/\box Y (5,C)=V ⟨36,4,U,U,[ds]⟩/\box Y (4,q)=V ⟨174,16,U,U,[w.c++[a]]⟩/\Gr Y [40] 36 4 a ((aQv w k).map aW.c)/\Fr B Y [4,5,7,9,40],fM<|L w.ac,⟨0,_,_,rfl,Nat.zero_le _,⟨rfl,rfl⟩,b5,e4,Gr.nil,Fr.refl _ _⟩,?_⟩;rintro vs Y ⟨k,a,ds,rfl,hk,H,aO,P,hG,G⟩;have f1:box Y (1,1)=_:=G.bt e1;have f3:box Y (2,v2)=_:=G.bt e3;have z:L Y=4096:=(by rw[G.1,l5]);have aT:L ds=4:=(by have:=aRf L H.1;grind [aW.c]);have X:aN (V 4) ds=V (.a ds):=(by show(if 4<=L ds then V (AV.a<|ds.take 4) else J)=_;grind);have W:aN (V 16) (w.c++[a])=V (.a<|w.c++[a]):=rfl;simp only[qz 49,qy 16,qy 34,aI,u0,u1,au,f1,rk,ix,aj,bh,↓uL];refine⟨λh2=>⟨vp h2,?_⟩,λh2=>?_⟩;have A:=aL h2;refine eF rfl rfl (by decide) (by omega) λn d b7=>?_;have g1:box n (1,1)=_:=d.bt f1;have g4:box n (4,q)=_:=d.bt P;have g5:box n (5,C)=_:=d.bt aO;have G1:=hG.fr d (by decide);generalize bz:(aZ Y 7).lB+1=v7 at b7⊢;simp only[qz 18,qy 20,u0,u1,g4,g5,kj,X,aj,awH H,bQ,↓uL];refine fP (new:=[(cY w k).bm.c]) G1 rfl (by decide) (by decide) (by rw[d.1,z];decide) (by intro r N;obtain⟨y,_,rfl⟩:=dN.1 N;rfl) (by intro r N;simp at N;subst N;rfl) (by grind [bJ,aIu,bZ,vw]) λa' F G2 j=>?_;have h1:box F (1,1)=_:=j.bt g1;have h4:box F (4,q)=_:=j.bt g4;have h5:box F (5,C)=_:=j.bt g5;have h7:box F (7,v7)=_:=j.bt b7;simp only[qz 22,u0,u1,h4,aj,↓uL];have ad:15<L (w.c++[a]):=(by grind);refine Ev h4 (by rw[j.1,d.1,z];decide) (uc G2) ad λp e i4=>?_;have aX:box p (4,q)=V ⟨174,16,U,U,[w.c++[a']]⟩:=i4;have i1:box p (1,1)=_:=e.bt h1;have i5:box p (5,C)=_:=e.bt h5;have i7:box p (7,v7)=_:=e.bt h7;have G3:=G2.fr e (by decide);have l3:L p=4096:=(by rw[e.1,j.1,d.1,z]);simp only[qz 24,↓uL];refine bvA (λb=>b [iv<|og<|gd w.ac k]) ?_ λb K=>(by simp+contextual only[qz 95,u0,u1,i7,rk,aj,↓uL];refine⟨λh=>?_,λh=>?_⟩;simp only[NA] at h;rw[og,hH h] at K;exact K;simp only[NR] at h;rw[og,j1 h] at K;exact K);simp only[qz 93,qy 26,aI,au,u0,u1,i1,i5,i7,X,rk,aj,↓uL];simp only[jM,kU,jt,zN,tW,H.arg,rX];refine⟨Kk M A,?_⟩;rintro r ⟨f,rfl⟩;refine⟨.inl ?_,?_⟩;simp only[nA,List.any_cons,List.any_nil,x9 H];rfl;rw[<-aoF M A];simp only[oJ,pG,KM,aY,↓uL];refine mo l3 λY4 g b9=>?_;generalize bA:(aZ p 9).lB+1=v9 at b9⊢;have T:Lk (eD (cY w<|k+1).bm f) (cY w<|k+1).bm.c:=aDi;generalize R:eD (cY w<|k+1).bm f=m at T⊢;have v:L m=4:=(by rw[<-R];rfl);have ag:aN (V 4) m=V (.a m):=(by rw[<-R];rfl);refine gN b9 (by rw[g.1,l3];decide) rfl v λY5 i ax=>?_;have j5:box Y5 (5,C)=_:=i.bt<|g.bt i5;have j4:box Y5 (4,q)=_:=i.bt<|g.bt aX;simp+contextual only[qz 28,qy 30,u0,u1,ax,ag,fh,eE,aNG,aNU,bR,↓uL];refine gN j5 (by rw[i.1,g.1,l3];decide) aT v λY6 u k5=>?_;have k4:box Y6 (4,q)=_:=u.bt j4;simp only[qz 32,au,cS,aY,↓uL];rw[fX<|by omega];refine⟨⟨k+1,a',m,rfl,A,T,k5,k4,?_,?_⟩,?_⟩;rw[aIv,dg];exact((G3.fr g<|by decide).fr i<|by decide).fr u (by decide);exact(((((G.trans<|d.mono<|by decide).trans<|j.mono<|by decide).trans<|e.mono<|by decide).trans<|g.mono<|by decide).trans<|i.mono<|by decide).trans (u.mono<|by decide);grind [fM,cM,bh];have aV:k=L w.ac:=(by grind);subst aV;simp only[P,W,u0,u1,↓uL];have ab:L (w.c++[a])=16:=(by grind);refine gN f3 (by omega) S ab λn d b2=>?_;simp only[b2,W,u0,u1,↓uL];obtain⟨f,o,hf⟩:=sU (hG.fr d<|by decide);have ae:jS n [.a<|w.c++[a],bv U]= .t [.a<|w.c++[.l ((aQv w<|L w.ac).map aW.c) f o],bv U]:=(by show AV.t [.a<|(w.c++[a]).map<|dQ n,bv U]=_;rw[dg];simp only[ji,mU,hf];rfl);unfold aE;rw[ae];exact⟨rfl,_,_,rfl⟩
def E6:FT:=om NX
def aya{w Lw K}:=f111 E6 NX w Lw K (j:=by simp+contextual only[ij,j9])
def apo:dO:=(154,Fb)::(96,E6)::aYa
def Rf:eJ apo:=it (aCb Od)<|it (rj NX)<|Bv
def Ac:=ai @ayf<|ai @aya<|@rX
def zE b a c R:=(.mk _:NF<|zF GG apo atB Tryz.f97 [.u, .u] [b,a] c<|I3 Tryz.f97 R).p
def aKQ{c0:List AV}{b:List AV}{R:o8}(l0:L c0=16)(l1:L b=6)(h:H2 174 16 2 c0 46 6 3 b λia c d=>zE ia c d R):Ct 97 [.a c0, .a b] R:=z2 atB Rf Tryz.func97 l0 l1 h
def Lg{A:(be)->Prop}{Y:ae}{K:be}:gF U A Y K=A K:=rfl
def Og(x:jY)(g:cJ)(S:nK x/\qC x.w g=U):Ct 97 [.a x.c, .a g.c] (·=bv U):=by refine aKQ rfl rfl λZ hl P l h0=>?_;obtain⟨n,b⟩:=S;have m:box Z (2,1)=V ⟨174,16,U,U,[x.w.c++[sl aW.c x.ss]]⟩:=P;have e:aN (V 16) (x.w.c++[sl aW.c x.ss])=V (.a x.c):=rfl;simp only[qC] at b;(cases f:Q<|g.kind=2);simp only[f,aNZ,bN] at b;obtain⟨⟨ia,T,W,X⟩,b⟩:=b;have t:=dX.1 ia;have u:=dX.1 T;have F:=dX.1 W;have G:=dX.1 X;(cases d:Q<|g.kind=1);simp only[d,aNZ] at b;(cases p:Q<|g.kind=3);simp only[p,aNZ] at b;(cases y:Q<|g.kind=4);simp only[y,aNZ] at b;cases b;simp only[y,aNN,tZ,bpK,vQ,bN,eH,cP,NR,NA,fK,aNS] at b;obtain⟨⟨⟨h,j⟩,q⟩,⟨⟨⟨⟨r,N⟩,O⟩,y7⟩,y8⟩,y9,K⟩:=b;have H:((L g.cW:Int)=0):=(by omega);have A:([g.ea,g.eb,g.ec,g.ed].all λi=>dh i<|L x.w.ac)=U:=(by simp_all);have v:nK x/\aF (L x.w.ac) g.ea/\aF (L x.w.ac) g.eb/\g.ea<g.eb/\(gd x.w.ac g.eb.toNat).aq=(gd x.w.ac g.ea.toNat).aq/\(gd (cY x.w g.ea.toNat).bm.ay (gd x.w.ac g.ea.toNat).aq.toNat).atomic=U/\(∀k,k<g.eb.toNat->g.ea.toNat<=k->((gd x.w.ac k).aq≠(gd x.w.ac g.ea.toNat).aq\/(gd x.w.ac k).kind≠15)):=(by simp_all);have hC:kB x.w/\aF (L x.w.ac) g.ea/\aF (L x.w.ac) g.eb/\aF (L x.w.ac) g.ec/\aF (L x.w.ac) g.ed/\g.ec<=g.ed/\(rP x.w g).aq=(xI x.w g).aq/\(rP x.w g).aq≠(jn x.w g).aq/\nh (jn x.w g) (rP x.w g)=U/\nh (xI x.w g) (mB x.w g)=U:=(by grind [nK.wo]);simp+contextual only[zE,u0,u1,m,l,e,kj,rk,aj,d,f,p,y,H,vR,Lg,aRa,iw,ru,ar,sG,Ac,A,n,n.wo,t,u,F,G,sr,eE,aNG,aNU,bR,↓uL];grind;simp only[p,aNN,wz,tm,bN,eH,cP,NR,NA,fH,aNS,Bool.and_eq_false_imp] at b;obtain⟨⟨⟨⟨⟨⟨⟨⟨h,j⟩,q⟩,r⟩,N⟩,O⟩,y7⟩,y8⟩,y9,K,af⟩:=b;have M:((L g.cW:Int)=0):=(by omega);have hL:nK x/\aF (L x.w.ac) g.ea/\aF (L x.w.ac) g.eb/\g.eb<g.ea/\((gd x.w.ac g.ea.toNat).kind=18\/(gd x.w.ac g.ea.toNat).kind=19)/\(gd x.w.ac g.eb.toNat).kind=16/\(gd x.w.ac g.ea.toNat).nt=(gd x.w.ac g.eb.toNat).nt/\(gd x.w.ac g.ea.toNat).aq≠(gd x.w.ac g.eb.toNat).aq/\(∀k,k<g.ea.toNat->g.eb.toNat<k->(gd x.w.ac k).aq≠(gd x.w.ac g.eb.toNat).aq)/\(gd (cY x.w g.ea.toNat).bm.ay (gd x.w.ac g.eb.toNat).aq.toNat).cQ=3/\((gd x.w.ac g.ea.toNat).kind=19\/(gd x.w.ac g.ea.toNat).value=(gd x.w.ac g.eb.toNat).aq):=(by grind);have fl:=@al5 x g.ea g.eb;simp+contextual only[zE,u0,u1,m,l,e,kj,rk,aj,d,f,p,h,j,M,aRa,iw,ru,ar,sG,fl,sr,eE,aNG,aNU,bR,↓uL];simp_all;simp only[d,aNN,Ek,bN,NA,eH] at b;obtain⟨z,R,o,s,D,B,E⟩:=b;simp+contextual only[zE,u0,u1,m,l,e,kj,rk,aj,d,eE,aNG,aNU,bR,R,o,s,aRa,iw,ru,fh,ar,sG,Ac,sr,n.wo,t,u,z,B,D,E,be8,btF,kN,J7,↓uL];simp only[f,aNN] at b;have d:Q (g.kind=1)=I:=(by simp_all);have o:=b;simp only[qx,bN,eH,NA] at o;obtain⟨v,ae,s⟩:=o;simp only[rO,cP,NR,aNS] at v;obtain⟨⟨⟨⟨⟨h,j⟩,q⟩,r⟩,N⟩,O⟩:=v;have C:qx x.w (Ds g.cW)=U:=(by rw[<-b];simp only[qx,rO,Ds,h,j,q,r];rfl);simp+contextual only[zE,u0,u1,m,l,e,kj,rk,aj,d,f,h,j,q,r,aRa,iw,ru,ar,sG,Ac,n,C,J7,sr,eE,aNG,aNU,bR,↓uL]
def Fg:FT:=aIc Og
def ayh{x g Lw K}:=f210 Fg Og x g Lw K (j:=by simp+contextual only[ij,j9])
structure lJ(Y:ae)(b:Id)(e1 e:TypeId)(d n:Nat)(Lw:Nat->List (List AV))(f:Nat->AV):Prop where
 bx:box Y b=V ⟨e1,1,U,U,io n λi=>[f i]⟩
 gr:∀i,i<n->bc Y e 1 (f i) (Lw i)
 dj:∀i j,i<n->j<n->i≠j->∀q∈aA (f i),q∉aA (f j)
 pl:∀i,i<n->∀q∈aA (f i),q.1=d
def lJ.ix{Y:ae}{b:Id}{g e:TypeId}{d n:Nat}{c:Nat->List (List AV)}{f:Nat->AV}(O:lJ Y b g e d n c f){i:Int}(a:aF n i):cz 1 Y (.m b n) (iv i)=V (.p b i.toNat 0):=by have h:i.toNat<n:=(by have:=a.1;have:=a.2;omega);simp[cz,a.1,O.bx,h]
def lJ.ld{Y:ae}{b:Id}{c e:TypeId}{d n:Nat}{a:Nat->List (List AV)}{f:Nat->AV}(O:lJ Y b c e d n a f){i:Nat}(g:i<n):lS J Y (.p b i 0)=V (f i):=by simp[lS,iE,O.bx,uU g,aN]
theorem lJ.ln{Y:ae}{b:Id}{c e:TypeId}{d n:Nat}{a:Nat->List (List AV)}{f:Nat->AV}(O:lJ Y b c e d n a f){i:Nat}(g:i<n):fS Y (f i)=V (iv<|L<|a i):=lnI<|O.gr i g
theorem lJ.keep{Y Y':ae}{b:Id}{ks:List Id}{c e:TypeId}{d n:Nat}{a:Nat->List (List AV)}{f:Nat->AV}(O:lJ Y b c e d n a f)(F:Fx Y Y' ks)(h:b∉ks)(j:∀i,i<n->∀q∈aA (f i),q∉ks):lJ Y' b c e d n a f:=⟨F.keep _ _ h O.bx,λi g=>(O.gr i g).fx F<|j i g,O.dj,O.pl⟩
theorem lJ.no{Y:ae}{b:Id}{c e:TypeId}{d n:Nat}{a:Nat->List (List AV)}{f:Nat->AV}(O:lJ Y b c e d n a f){q:Id}{x:bY}(j:box Y q=V x)(k:x.var=U\/x.elem≠e){i:Nat}(g:i<n):q∉aA (f i):=λh=>by
 have:=(O.gr i g).ids q h
 grind
def fj(l:List aP)(t:Int)(k:Nat):List Nat:=(aH k).filter λj=>Q<|(gd l j).aq=t
theorem Bb{l:List aP}{t:Int}{k:Nat}:fj l t (k+1)=fj l t k++if(gd l k).aq=t then[k] else[]:=by grind [fj,qn,gd]
theorem wF{l:List aP}{t:Int}{k:Nat}:L (fj l t k)<=k:=by grind [fZ,decide,gd,aH,fj]
def aOu(l:List aP)(k t:Nat):List Bool:=(fj l t k).map λj=>fR<|gd l j
structure bwj(w:am):Prop where
 wo:vL w
 ev:∀e∈w.ac,vo e
 sn:∀k,k<L w.ac->L (cY w k).cells<1000/\L (cY w k).bU<1000/\L (cY w k).count<1000
 ct:L w.init.count=L w.aQ.ay/\∀c∈w.init.count,0<=c/\c<=400
 rd:∀k,k<L w.ac->∀x,x∈(gd w.ac k).dI\/x∈(gd w.ac k).ep-> -1000<=x/\x<=1000/\(gd w.init.count (gd w.ac k).aq.toNat<=x->x-gd w.init.count (gd w.ac k).aq.toNat<(L (aOu w.ac k (gd w.ac k).aq.toNat):Int)/\gd (aOu w.ac k (gd w.ac k).aq.toNat) (x-gd w.init.count (gd w.ac k).aq.toNat).toNat=U)
def apq:dO:=(97,Fg)::apo
def Rh:eJ apq:=it (aCb Og)<|Rf
def Do:=ai @ayh<|@Ac
def Zq b a c R:=(.mk _:NF<|zF GG apq aur Tryz.f46 [.u, .u] [b,a] c<|I3 Tryz.f46 R).p
def aKG{c0:List AV}{b:List AV}{R:o8}(l0:L c0=15)(l1:L b=6)(h:H2 43 15 2 c0 46 6 3 b λia c d=>Zq ia c d R):Ct 46 [.a c0, .a b] R:=z2 aur Rh Tryz.func46 l0 l1 h
def amF{l:List Int}:jC l↔l.Pairwise (·<·):=by rw[List.pairwise_iff_getElem];refine⟨λh i j b c a=>?_,λh i b=>?_⟩;have:=AD h a c;grind [bT];grind [bT]
theorem an1:∀{l:List Int} {t x:Int},x∈fk l t->x=t\/x∈l
 |[],t,x,h=>by grind [fk]
 |y::l,t,x,h=>by
  simp only[fk] at h
  split at h
  ·rcases eW.1 h with h|h
   ·simp_all
   ·rcases an1 h with h|h
    ·exact .inl h
    simp_all
  grind
theorem kQ.ni{n:Nat}{s:aW}(h:kQ n s)(i:Int)(t:aoC):kQ n (ni s i t):=⟨h.lo,h.dn,by simp[Ab.ni];exact h.th,h.rd⟩
theorem kQ.lk{n:Nat}{s:aW}(h:kQ n s)(i:Int):jC (cH s i).bk/\∀x∈(cH s i).bk,aF n x:=by unfold cH gd;rw[eI];cases a:s.ak[i.toNat]? with|none=>exact⟨λi b=>aNK b (Nat.not_lt_zero _),λx a=>aNK a ql⟩|some x=>grind [kQ.rd]
theorem kQ.lC{n:Nat}{s:aW}(h:kQ n s)(i:Int)(l:cg)(b:jC l.bk/\∀x∈l.bk,aF n x):kQ n (lC s i l):=by refine⟨by simp[Ab.lC];exact h.lo,h.dn,h.th,λx a=>?_⟩;simp only[Ab.lC] at a;grind [kQ.rd]
theorem kQ.marks{n:Nat}:∀{l:List Int} {s:aW},kQ n s->kQ n (l.foldl (λs u=>Ab.ni s u {fA s u with cQ:=4}) s)|[],_,h=>h|u::l,s,h=>kQ.marks (l:=l)<|h.ni u _
theorem kQ.apply{n:Nat}{s:aW}(h:kQ n s)(w:vb)(t kind nt lD:Int)(v:aF n t):kQ n (cU w s t kind nt lD).1:=by unfold cU;by_cases o:kind=1;grind [kQ.ni];rw[j1 o];by_cases p:kind=2;grind [kQ.ni];rw[j1 p];by_cases q:kind=6\/kind=10;grind [kQ.lC,kQ.lk];rw[j1 q];by_cases r:kind=7\/kind=11;grind [kQ.lC,kQ.lk];rw[j1 r];by_cases u:kind=8;grind [kQ.lC,kQ.lk,Ro,Nz,an1];rw[j1 u];by_cases l:kind=9;rw[hH l];refine h.lC _ _ ⟨amF.2<|(amF.1 (h.lk nt).1).filter _,λx m=>?_⟩;exact(h.lk nt).2 x (List.mem_filter.1 m).1;rw[j1 l];by_cases a:kind=12;rw[hH a];exact⟨h.lo,h.dn,h.th,h.rd⟩;rw[j1 a];by_cases b:kind=13;rw[hH b];exact⟨h.lo,h.dn,h.th,h.rd⟩;rw[j1 b];by_cases c:kind=14;grind [kQ.ni];rw[j1 c];by_cases d:kind=15;grind [kQ.ni];rw[j1 d];by_cases e:kind=16;grind [kQ.ni,kQ.lC,kQ.lk];rw[j1 e];by_cases f:kind=17;grind [kQ.ni,kQ.lC,kQ.lk];rw[j1 f];by_cases g:kind=18;grind [kQ.ni];rw[j1 g];by_cases i:kind=19;grind [kQ.marks];rw[j1 i];by_cases j:kind=20;grind [kQ.ni];rw[j1 j];by_cases k:kind=22;rw[hH k];exact⟨h.lo,by simp;exact h.dn,h.th,h.rd⟩;simp_all
theorem Bq{w:am}(h:Po w=U):∀k,k<=L w.ac->kQ (L w.aQ.ay) (cY w k).bm:=by obtain⟨e,p⟩:=aQA h;obtain⟨a,v,s,t,y⟩:=tC e;intro k;induction k with|zero=>intro _;have f:=e;simp only[oh,cP,fK,NR] at f;have d:=f.2;simp only[ny,bN,NA] at d;have u:L w.init.count=L w.aQ.ay:=(by grind [fN]);refine⟨a.sy.lo,a.sy.dn,a.sy.th,λl o=>?_⟩;have m:l∈w.init.bm.ak:=o;obtain⟨j,g,rfl⟩:=ou m;have c:=(d.1 j g).2;rw[bT g] at c;refine⟨λi b=>?_,λx q=>?_⟩;have:=(c (i+1) b).2 (by omega);simp_all;obtain⟨i,b,rfl⟩:=ou q;have:=(c i b).1;grind [nO,dX,bT]|succ k r=>intro z;have n:=p k (by omega);simp only[cY,nD,n,aNN,oc];refine(r<|by omega).apply _ _ _ _ _ ?_;grind [C1,eH,cP,aOL,fK,dX]
def vd{w:am}(a:hU w)(h:Po w=U):vL w:=by obtain⟨b,c⟩:=aQA h;refine⟨Rr a h,?_,by grind [Bq]⟩;grind [oh,cP,fK,mQ,eH,wJ,decide_eq_false_iff_not]
def kJ(t:Int):List aP->Nat->List Nat|[],_=>[]|e::l,i=>(if e.aq=t then[i] else[])++kJ t l (i+1)
theorem QH{t:Int}:∀{a b:List aP} {i:Nat},kJ t (a++b) i=kJ t a i++kJ t b (i+L a)
 |[],b,i=>by simp[kJ]
 |e::a,b,i=>by
  simp only[zn,kJ,bje]
  rw[QH (a:=a)]
  grind
theorem Qz{t:Int}:∀{l:List aP} {i m:Nat},m<L (kJ t l i)->pS t l m i=((gd (kJ t l i) m:Nat):Int)
 |[],i,m,h=>by simp[kJ] at h
 |e::l,i,m,h=>by
  simp only[pS]
  by_cases a:e.aq=t
  ·rw[hH a]
   cases m with
   |zero=>simp[kJ,a,gd]
   |succ m=>
    rw[j1 (by omega),show((m+1:Nat):Int)-1=(m:Int) by omega]
    rw[Qz (l:=l) (i:=i+1) (m:=m)<|by grind [kJ]]
    simp[kJ,a,gd]
  ·rw[j1 a]
   rw[Qz (l:=l) (i:=i+1) (m:=m)<|by grind [kJ]]
   simp[kJ,a]
theorem anU{t:Int}{l:List aP}:∀{k:Nat},k<=L l->kJ t (l.take k) 0=fj l t k
 |0,_=>by simp[kJ,fj]
 |k+1,h=>by
  have a:k<L l:=by omega
  rw[iJ a,<-bT a,QH,anU (k:=k) (by omega),Bb]
  grind [gd,kJ]
theorem aEv{w:am}{t:Int}{k m:Nat}(b:k<=L w.ac)(c:m<L (fj w.ac t k)):oV w t m=(gd (fj w.ac t k) m:Nat):=by have a:kJ t w.ac 0=fj w.ac t k++kJ t (w.ac.drop k) k:=(by(conv=>lhs;rw[<-aq0 k w.ac]);grind [QH,anU]);grind [oV,Qz,gd,xe]
def NV(w:am)(g:cJ)(B:vL w/\qC w g=U):Ct 46 [.a w.c, .a g.c] (·=bv U):=by refine aKG rfl rfl λC k t u E=>?_;obtain⟨e,A⟩:=B;have z7:aN (V 15) w.c=V (.a w.c):=rfl;simp only[Zq,qy 6,u0,u1,t,z7,ar,Do,↓uL];refine⟨e,?_⟩;rintro r ⟨f,o,rfl⟩;refine⟨.inl rfl,?_⟩;simp only[oJ,pG,aY,↓uL];have i:L (w.c++[AV.l ((aQv w<|L w.ac).map aW.c) f o])=16:=(by simp[am.c,vb.c,mn.c,aW.c]);have m:L (baF)=16:=rfl;refine mo k λp b v=>?_;have d:box p (5,(aZ C 5).lB+1)=V ⟨174,16,U,U,[baF]⟩:=v;have j:5<L p:=(by rw[b.1,k];decide);refine gN d j m i λD q x=>?_;have y:box D (3,1)=_:=q.bt<|b.bt u;have n:aN (V 16) (w.c++[AV.l ((aQv w<|L w.ac).map aW.c) f o])=V (.a<|w.c++[.l ((aQv w<|L w.ac).map aW.c) f o]):=rfl;have z:nK ⟨w,aQv w<|L w.ac⟩:=⟨e.wo,rfl⟩;have h:∀s:ae,dG s (.a<|w.c++[.l ((aQv w<|L w.ac).map aW.c) f o])= .a (jY.c ⟨w,aQv w<|L w.ac⟩):=λ_=>rfl;simp+contextual only[qz 8,u0,u1,x,y,n,rk,h,ar,Do,z,A,J7,bR,iw,ru,aNU,mp,↓uL]
def E5:FT:=aIc NV
def ax8{w g Lw K}:=f210 E5 NV w g Lw K (j:=by simp+contextual only[ij,j9])
def apr:dO:=(46,E5)::apq
def apf:eJ apr:=it (aCb NV)<|Rh
def amm:=ai @ax8<|@Do

def aps:dO:=apr
def apg:eJ aps:=apf
def Dp:=@amm

abbrev nf2:List Nat:=[37,50,66,92,122,8,10,14]
def apt:dO:=aps
def Ey:eJ apt:=apg
def Lb:=@Dp
section
attribute[local irreducible] aX
def a9k:=bA 5 []
def a1q a s0 R:=(.mk _:NF<|zF GG apt a9k Tryz.f286 [a] [] s0<|I3 Tryz.f286 R).p
def bgS{a:AV}{R:o8}(h:H0 λs0=>a1q a s0 R):Ct 286 [a] R:=z0 a9k Ey Tryz.func286 h
def a9i:=bA 8 [(5,([5],[]))]
def a1m a b s0 R:=(.mk _:NF<|zF GG apt a9i Tryz.f269 [a,b] [] s0<|I3 Tryz.f269 R).p
def bgQ{a b:AV}{R:o8}(h:H0 λs0=>a1m a b s0 R):Ct 269 [a,b] R:=z0 a9i Ey Tryz.func269 h
def a1M a s0 R:=(.mk _:NF<|zF GG apt at1 Tryz.f237 [a] [] s0<|I3 Tryz.f237 R).p
def bgW{a:AV}{R:o8}(h:H0 λs0=>a1M a s0 R):Ct 237 [a] R:=z0 at1 Ey Tryz.func237 h
def a2y a b s0 R:=(.mk _:NF<|zF GG apt at1 Tryz.f211 [a,b] [] s0<|I3 Tryz.f211 R).p
def bg7{a b:AV}{R:o8}(h:H0 λs0=>a2y a b s0 R):Ct 211 [a,b] R:=z0 at1 Ey Tryz.func211 h
def a2D a b s0 R:=(.mk _:NF<|zF GG apt atS Tryz.f220 [a,b] [] s0<|I3 Tryz.f220 R).p
def bg9{a b:AV}{R:o8}(h:H0 λs0=>a2D a b s0 R):Ct 220 [a,b] R:=z0 atS Ey Tryz.func220 h
def a9l:=bA 10 [(3,([5],[1,2]))]
def a1r a b c R:=(.mk _:NF<|zF GG apt a9l Tryz.f279 [.u,b] [a] c<|I3 Tryz.f279 R).p
def bgT{c0:List AV}{b:AV}{R:o8}(l0:L c0=6)(h:H1 31 6 2 c0 λia c=>a1r ia b c R):Ct 279 [.a c0,b] R:=z1 a9l Ey Tryz.func279 l0 h
def a9n:=bA 21 [(3,([5],[1,4])),(8,([13],[1,4])),(15,([37],[1,4]))]
def a1F a b R:=(.mk _:NF<|zF GG apt a9n Tryz.f174 [.u] [a] b<|I3 Tryz.f174 R).p
def bgV{c0:List AV}{R:o8}(l0:L c0=6)(h:H1 251 6 1 c0 λia b=>a1F ia b R):Ct 174 [.a c0] R:=z1 a9n Ey Tryz.func174 l0 h
def a24 a s0 R:=(.mk _:NF<|zF GG apt a9k Tryz.f271 [a] [] s0<|I3 Tryz.f271 R).p
def bhe{a:AV}{R:o8}(h:H0 λs0=>a24 a s0 R):Ct 271 [a] R:=z0 a9k Ey Tryz.func271 h
def aVt b R t1 a:=aU b (iv 6) λt3=>bX t3 b λf=>aC t3 (aO .gtr f<|iv 28) λg=>aD t3 (bv U) g λh=>ah h (aE R a [iv 0]) (aO .sub b (iv 6) λc=>ao 1 a t1 c λd=>aM a d λe=>aE R a [e])
def aVs a s0 R:=eV (aX bH 23 s0 [(0,iv 3),(1,iv 3),(2,iv 4),(3,iv 4),(4,iv 5),(5,iv 6),(6,iv 7),(7,iv 8),(8,iv 9),(9,iv 10),(10,iv 11),(11,iv 12),(12,iv 13),(13,iv 14),(14,iv 15),(15,iv 16),(16,iv 18),(17,iv 19),(18,iv 20),(19,iv 21),(20,iv 22),(21,iv 23),(22,iv 2)])<|aVt a R
def bhn{a:AV}{R:o8}(h:H0 λs0=>aVs a s0 R):Ct 239 [a] R:=z0 ato Ey Tryz.func239 h
def a0p a b s0 R:=(.mk _:NF<|zF GG apt atS Tryz.f245 [a,b] [] s0<|I3 Tryz.f245 R).p
def bgB{a b:AV}{R:o8}(h:H0 λs0=>a0p a b s0 R):Ct 245 [a,b] R:=z0 atS Ey Tryz.func245 h
def a0C a b s0 R:=(.mk _:NF<|zF GG apt atS Tryz.f246 [a,b] [] s0<|I3 Tryz.f246 R).p
def bgG{a b:AV}{R:o8}(h:H0 λs0=>a0C a b s0 R):Ct 246 [a,b] R:=z0 atS Ey Tryz.func246 h
def a8V:=bA 9 []
def a0e a s0 R:=(.mk _:NF<|zF GG apt a8V Tryz.f293 [a] [] s0<|I3 Tryz.f293 R).p
def bgt{a:AV}{R:o8}(h:H0 λs0=>a0e a s0 R):Ct 293 [a] R:=z0 a8V Ey Tryz.func293 h
def a0l a b R:=(.mk _:NF<|zF GG apt at1 Tryz.f288 [.u] [a] b<|I3 Tryz.f288 R).p
def bgy{c0:List AV}{R:o8}(l0:L c0=4)(h:H1 259 4 1 c0 λia b=>a0l ia b R):Ct 288 [.a c0] R:=z1 at1 Ey Tryz.func288 l0 h
def a0S a b s0 R:=(.mk _:NF<|zF GG apt a9k Tryz.f275 [a,b] [] s0<|I3 Tryz.f275 R).p
def bgK{a b:AV}{R:o8}(h:H0 λs0=>a0S a b s0 R):Ct 275 [a,b] R:=z0 a9k Ey Tryz.func275 h
def a0R a s0 R:=(.mk _:NF<|zF GG apt a9k Tryz.f278 [a] [] s0<|I3 Tryz.f278 R).p
def bgJ{a:AV}{R:o8}(h:H0 λs0=>a0R a s0 R):Ct 278 [a] R:=z0 a9k Ey Tryz.func278 h
def a0c a s0 R:=(.mk _:NF<|zF GG apt at1 Tryz.f178 [a] [] s0<|I3 Tryz.f178 R).p
def bgs{a:AV}{R:o8}(h:H0 λs0=>a0c a s0 R):Ct 178 [a] R:=z0 at1 Ey Tryz.func178 h
def a0a a s0 R:=(.mk _:NF<|zF GG apt at1 Tryz.f255 [a] [] s0<|I3 Tryz.f255 R).p
def bgr{a:AV}{R:o8}(h:H0 λs0=>a0a a s0 R):Ct 255 [a] R:=z0 at1 Ey Tryz.func255 h
def aUG s0 R:=(.mk _:NF<|zF GG apt at1 Tryz.f175 [] [] s0<|I3 Tryz.f175 R).p
def bgk{R:o8}(h:H0 λs0=>aUG s0 R):Ct 175 [] R:=z0 at1 Ey Tryz.func175 h
def aVS s0 R:=(.mk _:NF<|zF GG apt at1 CF [] [] s0<|I3 CF R).p
def bhz{R:o8}(h:H0 λs0=>aVS s0 R):Ct 164 [] R:=z0 at1 Ey Tryz.func164 h
def a9S:=bA 21 [(3,([9],[0,1,2,3])),(11,([10,11,12],[0,1,2,3,9])),(14,([10,11],[0,1,2,3,9,12]))]
def a4p a b c d s0 R:=(.mk _:NF<|zF GG apt a9S Tryz.f115 [a,b,c,d] [] s0<|I3 Tryz.f115 R).p
def bhq{a b c d:AV}{R:o8}(h:H0 λs0=>a4p a b c d s0 R):Ct 115 [a,b,c,d] R:=z0 a9S Ey Tryz.func115 h
def aU6 a b s0 R:=(.mk _:NF<|zF GG apt atS Tryz.f251 [a,b] [] s0<|QDb Tryz.f251 R).p
def bfT{a b:AV}{s0:ae}{R:be}(h:aU6 a b s0 R):EB 251 [a,b] s0 R:=zB atS Ey Tryz.func251 h
def bg3{a b:AV}{s0:ae}{R:be}(c:L s0=4096)(h:aU6 a b s0 R):EB 251 [a,b] s0 R:=by refine bfT ?_;exact h
end
inductive vm where
 |mk(op n:Int)(name:ByteArray)(l:List vm)
def vm.op:vm->Int| .mk a _ _ _=>a
def vm.n:vm->Int| .mk _ a _ _=>a
def vm.name:vm->ByteArray| .mk _ _ a _=>a
def vm.l:vm->List vm| .mk _ _ _ a=>a
instance:Inhabited vm:=⟨.mk 0 0 ⟨#[]⟩ []⟩
mutual
def vm.c:vm->List AV| .mk op n a l=>[iv op,iv n,st a, .l (vm.cr l) I I]
def vm.cr:List vm->List (List AV)|[]=>[]|e::l=>vm.c e::vm.cr l
end
def vm.cr_eq:∀{l:List vm},vm.cr l=l.map vm.c
 |[]=>by simp only[vm.cr,mU]
 |e::l=>by simp only[vm.cr,ji,vm.cr_eq]
def aoH{x:vm}:vm.c x=[iv x.op,iv x.n,st x.name,sl vm.c x.l]:=by cases x;simp only[vm.c,vm.cr_eq,vm.op,vm.n,vm.name,vm.l,sl]
inductive eo where
 |mk(op line:Int)(name arg:ByteArray)(index:List vm)(expr:vm)(body els:List eo)
def eo.op:eo->Int| .mk a _ _ _ _ _ _ _=>a
def eo.line:eo->Int| .mk _ a _ _ _ _ _ _=>a
def eo.name:eo->ByteArray| .mk _ _ a _ _ _ _ _=>a
def eo.arg:eo->ByteArray| .mk _ _ _ a _ _ _ _=>a
def eo.index:eo->List vm| .mk _ _ _ _ a _ _ _=>a
def eo.expr:eo->vm| .mk _ _ _ _ _ a _ _=>a
def eo.body:eo->List eo| .mk _ _ _ _ _ _ a _=>a
def eo.els:eo->List eo| .mk _ _ _ _ _ _ _ a=>a
instance:Inhabited eo:=⟨.mk 0 0 ⟨#[]⟩ ⟨#[]⟩ [] default [] []⟩
mutual
def eo.c:eo->List AV| .mk op e b arg index a d els=>[iv op,iv e,st b,st arg,sl vm.c index,iv a.op,iv a.n,st a.name,sl vm.c a.l, .l (eo.cr d) I I, .l (eo.cr els) I I]
def eo.cr:List eo->List (List AV)|[]=>[]|e::l=>eo.c e::eo.cr l
end
def eo.cr_eq:∀{l:List eo},eo.cr l=l.map eo.c
 |[]=>by simp only[eo.cr,mU]
 |e::l=>by simp only[eo.cr,ji,eo.cr_eq]
def apT{x:eo}:eo.c x=[iv x.op,iv x.line,st x.name,st x.arg,sl vm.c x.index,iv x.expr.op,iv x.expr.n,st x.expr.name,sl vm.c x.expr.l,sl eo.c x.body,sl eo.c x.els]:=by cases x;simp only[eo.c,eo.cr_eq,eo.op,eo.line,eo.name,eo.arg,eo.index,eo.expr,eo.body,eo.els,sl]
structure asq where
 kind:Int
 line:Int
 name:ByteArray
 size:Int
 init:Int
 on:ByteArray
 deriving Inhabited
def asq.c(x:asq):List AV:=[iv x.kind,iv x.line,st x.name,iv x.size,iv x.init,st x.on]
structure xt where
 name:ByteArray
 line:Int
 locs:List ByteArray
 body:List eo
 deriving Inhabited
def xt.c(x:xt):List AV:=[st x.name,iv x.line,sl cs x.locs,sl eo.c x.body]
structure xr where
 A7:List asq
 ay:List xt
 deriving Inhabited
def xr.c(x:xr):List AV:=[sl asq.c x.A7,sl xt.c x.ay]
structure lF where
 op:Int
 a:Int
 b:Int
 k:Int
 n:Int
 site:Int
 deriving Inhabited
def lF.c(x:lF):List AV:=[iv x.op,iv x.a,iv x.b,iv x.k,iv x.n,iv x.site]
structure A2 where
 li:Int
 No:List lF
 deriving Inhabited
def A2.c(x:A2):List AV:=[iv x.li,sl lF.c x.No]
structure qt where
 aQ:vb
 ay:List A2
 deriving Inhabited
def qt.c(x:qt):List AV:=x.aQ.c++[sl A2.c x.ay]
structure pt where
 pc:Int
 li:List Int
 lj:List (List Int)
 ac:Int
 deriving Inhabited
def pt.c(x:pt):List AV:=[iv x.pc,sl ci x.li,sl cl x.lj,iv x.ac]
structure pm where
 bm:aW
 cells:List Int
 bU:List Int
 ay:List pt
 deriving Inhabited
def pm.c(x:pm):List AV:=x.bm.c++[sl ci x.cells,sl ci x.bU,sl pt.c x.ay]
structure O3 where
 aQ:vb
 ac:List aP
 deriving Inhabited
def O3.c(x:O3):List AV:=x.aQ.c++[sl aP.c x.ac]
def aN9{x:vm}:L (vm.c x)=4:=by rw[aoH];rfl
theorem WV{x:eo}:L (eo.c x)=11:=by rw[apT];rfl
section
variable{K:o8}{Y:ae}{i:Int}
def bcY{l:List vm}:rV (cz 4 Y (sl vm.c l)<|iv i) K=(aF (L l) i/\K (.q<|vm.c<|gd l i.toNat)):=aBz λ_=>aN9
def bc0{l:List eo}:rV (cz 11 Y (sl eo.c l)<|iv i) K=(aF (L l) i/\K (.q<|eo.c<|gd l i.toNat)):=aBz λ_=>WV
def bcX{l:List asq}:rV (cz 6 Y (sl asq.c l)<|iv i) K=(aF (L l) i/\K (.q<|asq.c<|gd l i.toNat)):=aBz λ_=>rfl
def bc2{l:List xt}:rV (cz 4 Y (sl xt.c l)<|iv i) K=(aF (L l) i/\K (.q<|xt.c<|gd l i.toNat)):=aBz λ_=>rfl
def bcZ{l:List lF}:rV (cz 6 Y (sl lF.c l)<|iv i) K=(aF (L l) i/\K (.q<|lF.c<|gd l i.toNat)):=aBz λ_=>rfl
def bc1{l:List A2}:rV (cz 2 Y (sl A2.c l)<|iv i) K=(aF (L l) i/\K (.q<|A2.c<|gd l i.toNat)):=aBz λ_=>rfl
def bc3{l:List pt}:rV (cz 4 Y (sl pt.c l)<|iv i) K=(aF (L l) i/\K (.q<|pt.c<|gd l i.toNat)):=aBz λ_=>rfl
def aPR{a b:Int}:wl .rem 0 [] (iv a) (iv b)=if b≠0 then V (iv<|a.tmod b) else J:=by by_cases h:b=0<;>simp[wl,zP,h]
def a5N{a b:Int}:wl .quo 0 [] (iv a) (iv b)=if b≠0 then V (iv<|dq.wrap<|a.tdiv b) else J:=by by_cases h:b=0<;>simp[wl,zP,h]
end
def Ca:=ai @bcY<|ai @bc0<|ai @bcX<|ai @bc2<|ai @bcZ<|ai @bc1<|@bc3
mutual
def a53:∀{x y:vm},vm.c x=vm.c y->x=y
 | .mk a b c d, .mk e f g j,h=>by
  simp only[vm.c,kO,AV.s.injEq,mW,mX,AV.l.injEq,bR,u5] at h
  obtain⟨rfl,rfl,rfl,h⟩:=h
  rw[a6d h]
def a6d:∀{x y:List vm},vm.cr x=vm.cr y->x=y
 |[],[],_=>rfl
 |[],_::_,h=>by grind [vm.cr]
 |_::_,[],h=>by grind [vm.cr]
 |a::l,b::m,h=>by
  simp only[vm.cr,kO] at h
  rw[a53 h.1,a6d h.2]
end
theorem aOD{x y:vm}:(vm.c x=vm.c y)=(x=y):=amt ⟨a53,λh=>by rw[h]⟩
def aOZ{l l':List vm}:(sl vm.c l=sl vm.c l')=(l=l'):=(by grind [kL,aOD])
mutual
def a54:∀{x y:eo},eo.c x=eo.c y->x=y
 | .mk a b c d e f g i, .mk k m o p t j u B,h=>by
  simp only[eo.c,kO,AV.s.injEq,mW,mX,AV.l.injEq,bR,u5,aOZ] at h
  obtain⟨rfl,rfl,rfl,rfl,rfl,v,w,z,A,q,r⟩:=h
  have:f=j:=by
   obtain⟨a,b,c,d⟩:=f;obtain⟨k,m,o,p⟩:=j
   grind [vm.op,vm.n,vm.name,vm.l]
  rw[this,aV9 q,aV9 r]
def aV9:∀{x y:List eo},eo.cr x=eo.cr y->x=y
 |[],[],_=>rfl
 |[],_::_,h=>by grind [eo.cr]
 |_::_,[],h=>by grind [eo.cr]
 |a::l,b::m,h=>by
  simp only[eo.cr,kO] at h
  rw[a54 h.1,aV9 h.2]
end
theorem a6B{x y:eo}:(eo.c x=eo.c y)=(x=y):=amt ⟨a54,λh=>by rw[h]⟩
def aO0{l l':List eo}:(sl eo.c l=sl eo.c l')=(l=l'):=(by grind [kL,a6B])
structure xd where
 aq:Int
 lD:Int
 deriving Inhabited,DecidableEq
def xd.c(x:xd):List AV:=[iv x.aq,iv x.lD]
theorem aOY{x y:asq}:(asq.c x=asq.c y)=(x=y):=by apply amt;constructor;intro h;(cases x;cases y);simp only[asq.c,vb.c,aW.c,zn,dW,kO,AV.s.injEq,mW,mV,mX,bR,u5,amV,aOD,aOZ,aO0] at h;simp only[asq.mk.injEq,vb.ext_iff',aW.ext_iff',mn.ext_iff',aPe];exact h;intro h;rw[h]
def aPj{l l':List asq}:(sl asq.c l=sl asq.c l')=(l=l'):=(by grind [kL,aOY])
theorem aPD{x y:xt}:(xt.c x=xt.c y)=(x=y):=by apply amt;constructor;intro h;(cases x;cases y);simp only[xt.c,vb.c,aW.c,zn,dW,kO,AV.s.injEq,mW,mV,mX,bR,u5,amV,aOD,aOZ,aO0,aOY,aPj] at h;simp only[xt.mk.injEq,vb.ext_iff',aW.ext_iff',mn.ext_iff',aPe];exact h;intro h;rw[h]
def aPE{l l':List xt}:(sl xt.c l=sl xt.c l')=(l=l'):=(by grind [kL,aPD])
theorem aPC{x y:xr}:(xr.c x=xr.c y)=(x=y):=by apply amt;constructor;intro h;(cases x;cases y);simp only[xr.c,vb.c,aW.c,zn,dW,kO,AV.s.injEq,mW,mV,mX,bR,u5,amV,aOD,aOZ,aO0,aOY,aPj,aPD,aPE] at h;simp only[xr.mk.injEq,vb.ext_iff',aW.ext_iff',mn.ext_iff',aPe];exact h;intro h;rw[h]
def aQr{l l':List xr}:(sl xr.c l=sl xr.c l')=(l=l'):=(by grind [kL,aPC])
theorem aPX{x y:lF}:(lF.c x=lF.c y)=(x=y):=by apply amt;constructor;intro h;(cases x;cases y);simp only[lF.c,vb.c,aW.c,zn,dW,kO,AV.s.injEq,mW,mV,mX,bR,u5,amV,aOD,aOZ,aO0,aOY,aPj,aPD,aPE,aPC,aQr] at h;simp only[lF.mk.injEq,vb.ext_iff',aW.ext_iff',mn.ext_iff',aPe];exact h;intro h;rw[h]
def aQq{l l':List lF}:(sl lF.c l=sl lF.c l')=(l=l'):=(by grind [kL,aPX])
theorem aQp{x y:A2}:(A2.c x=A2.c y)=(x=y):=by apply amt;constructor;intro h;(cases x;cases y);simp only[A2.c,vb.c,aW.c,zn,dW,kO,AV.s.injEq,mW,mV,mX,bR,u5,amV,aOD,aOZ,aO0,aOY,aPj,aPD,aPE,aPC,aQr,aPX,aQq] at h;simp only[A2.mk.injEq,vb.ext_iff',aW.ext_iff',mn.ext_iff',aPe];exact h;intro h;rw[h]
def aRT{l l':List A2}:(sl A2.c l=sl A2.c l')=(l=l'):=(by grind [kL,aQp])
theorem aQY{x y:qt}:(qt.c x=qt.c y)=(x=y):=by apply amt;constructor;intro h;(cases x;cases y);simp only[qt.c,vb.c,aW.c,zn,dW,kO,AV.s.injEq,mW,mV,mX,bR,u5,amV,aOD,aOZ,aO0,aOY,aPj,aPD,aPE,aPC,aQr,aPX,aQq,aQp,aRT] at h;simp only[qt.mk.injEq,vb.ext_iff',aW.ext_iff',mn.ext_iff',aPe];exact h;intro h;rw[h]
def aTm{l l':List qt}:(sl qt.c l=sl qt.c l')=(l=l'):=(by grind [kL,aQY])
theorem aRS{x y:pt}:(pt.c x=pt.c y)=(x=y):=by apply amt;constructor;intro h;(cases x;cases y);simp only[pt.c,vb.c,aW.c,zn,dW,kO,AV.s.injEq,mW,mV,mX,bR,u5,amV,aOD,aOZ,aO0,aOY,aPj,aPD,aPE,aPC,aQr,aPX,aQq,aQp,aRT,aQY,aTm] at h;simp only[pt.mk.injEq,vb.ext_iff',aW.ext_iff',mn.ext_iff',aPe];exact h;intro h;rw[h]
def aWB{l l':List pt}:(sl pt.c l=sl pt.c l')=(l=l'):=(by grind [kL,aRS])
theorem aTl{x y:pm}:(pm.c x=pm.c y)=(x=y):=by apply amt;constructor;intro h;(cases x;cases y);simp only[pm.c,vb.c,aW.c,zn,dW,kO,AV.s.injEq,mW,mV,mX,bR,u5,amV,aOD,aOZ,aO0,aOY,aPj,aPD,aPE,aPC,aQr,aPX,aQq,aQp,aRT,aQY,aTm,aRS,aWB] at h;simp only[pm.mk.injEq,vb.ext_iff',aW.ext_iff',mn.ext_iff',aPe];exact h;intro h;rw[h]
def a6C{l l':List pm}:(sl pm.c l=sl pm.c l')=(l=l'):=(by grind [kL,aTl])
theorem aWA{x y:O3}:(O3.c x=O3.c y)=(x=y):=by apply amt;constructor;intro h;(cases x;cases y);simp only[O3.c,vb.c,aW.c,zn,dW,kO,AV.s.injEq,mW,mV,mX,bR,u5,amV,aOD,aOZ,aO0,aOY,aPj,aPD,aPE,aPC,aQr,aPX,aQq,aQp,aRT,aQY,aTm,aRS,aWB,aTl,a6C] at h;simp only[O3.mk.injEq,vb.ext_iff',aW.ext_iff',mn.ext_iff',aPe];exact h;intro h;rw[h]
def bcS{l l':List O3}:(sl O3.c l=sl O3.c l')=(l=l'):=(by grind [kL,aWA])
theorem a6A{x y:xd}:(xd.c x=xd.c y)=(x=y):=by apply amt;constructor;intro h;(cases x;cases y);simp only[xd.c,vb.c,aW.c,zn,dW,kO,AV.s.injEq,mW,mV,mX,bR,u5,amV,aOD,aOZ,aO0,aOY,aPj,aPD,aPE,aPC,aQr,aPX,aQq,aQp,aRT,aQY,aTm,aRS,aWB,aTl,a6C,aWA,bcS] at h;simp only[xd.mk.injEq,vb.ext_iff',aW.ext_iff',mn.ext_iff',aPe];exact h;intro h;rw[h]
def bcR{l l':List xd}:(sl xd.c l=sl xd.c l')=(l=l'):=(by grind [kL,a6A])
def Nb:=ai @aOD<|ai @aOZ<|ai @a6B<|ai @aO0<|ai @aOY<|ai @aPj<|ai @aPD<|ai @aPE<|ai @aPC<|ai @aQr<|ai @aPX<|ai @aQq<|ai @aQp<|ai @aRT<|ai @aQY<|ai @aTm<|ai @aRS<|ai @aWB<|ai @aTl<|ai @a6C<|ai @aWA<|ai @bcS<|ai @a6A<|@bcR
def ben{x:vm}:aN J (vm.c x)=V (iv x.op):=by rw[aoH];rfl
def bwL{x:vm}:cK 0 J (.a<|vm.c x)=V (iv x.op):=by rw[aoH];rfl
def beo{x:vm}:aN J ((vm.c x).drop 1)=V (iv x.n):=by rw[aoH];rfl
def bwM{x:vm}:cK 1 J (.a<|vm.c x)=V (iv x.n):=by rw[aoH];rfl
def bep{x:vm}:aN J ((vm.c x).drop 2)=V (st x.name):=by rw[aoH];rfl
def bwN{x:vm}:cK 2 J (.a<|vm.c x)=V (st x.name):=by rw[aoH];rfl
def ber{x:vm}:aN J ((vm.c x).drop 3)=V (sl vm.c x.l):=by rw[aoH];rfl
def bwO{x:vm}:cK 3 J (.a<|vm.c x)=V (sl vm.c x.l):=by rw[aoH];rfl
theorem a69{x:vm}:aN (V 4) (vm.c x)=V (.a<|vm.c x):=by rw[aoH];rfl
def beI{x:eo}:aN J (eo.c x)=V (iv x.op):=by rw[apT];rfl
def bw5{x:eo}:cK 0 J (.a<|eo.c x)=V (iv x.op):=by rw[apT];rfl
def beJ{x:eo}:aN J ((eo.c x).drop 1)=V (iv x.line):=by rw[apT];rfl
def bw6{x:eo}:cK 1 J (.a<|eo.c x)=V (iv x.line):=by rw[apT];rfl
def beL{x:eo}:aN J ((eo.c x).drop 2)=V (st x.name):=by rw[apT];rfl
def bw8{x:eo}:cK 2 J (.a<|eo.c x)=V (st x.name):=by rw[apT];rfl
def beM{x:eo}:aN J ((eo.c x).drop 3)=V (st x.arg):=by rw[apT];rfl
def bw9{x:eo}:cK 3 J (.a<|eo.c x)=V (st x.arg):=by rw[apT];rfl
def beN{x:eo}:aN J ((eo.c x).drop 4)=V (sl vm.c x.index):=by rw[apT];rfl
def bxa{x:eo}:cK 4 J (.a<|eo.c x)=V (sl vm.c x.index):=by rw[apT];rfl
def byc{x:eo}:aN J ((eo.c x).drop 5)=V (iv x.expr.op):=by rw[apT];rfl
def bxb{x:eo}:cK 5 J (.a<|eo.c x)=V (iv x.expr.op):=by rw[apT];rfl
def byd{x:eo}:aN J ((eo.c x).drop 6)=V (iv x.expr.n):=by rw[apT];rfl
def bxc{x:eo}:cK 6 J (.a<|eo.c x)=V (iv x.expr.n):=by rw[apT];rfl
def bye{x:eo}:aN J ((eo.c x).drop 7)=V (st x.expr.name):=by rw[apT];rfl
def bxd{x:eo}:cK 7 J (.a<|eo.c x)=V (st x.expr.name):=by rw[apT];rfl
def byf{x:eo}:aN J ((eo.c x).drop 8)=V (sl vm.c x.expr.l):=by rw[apT];rfl
def bxe{x:eo}:cK 8 J (.a<|eo.c x)=V (sl vm.c x.expr.l):=by rw[apT];rfl
def beO{x:eo}:aN J ((eo.c x).drop 9)=V (sl eo.c x.body):=by rw[apT];rfl
def bxf{x:eo}:cK 9 J (.a<|eo.c x)=V (sl eo.c x.body):=by rw[apT];rfl
def beK{x:eo}:aN J ((eo.c x).drop 10)=V (sl eo.c x.els):=by rw[apT];rfl
def bw7{x:eo}:cK 10 J (.a<|eo.c x)=V (sl eo.c x.els):=by rw[apT];rfl
def beP{x:eo}:aN (V 4) ((eo.c x).drop 5)=V (.a<|vm.c x.expr):=by rw[apT,aoH];rfl
def bxg{x:eo}:cK 5 (V 4) (.a<|eo.c x)=V (.a<|vm.c x.expr):=by rw[apT,aoH];rfl
def beQ{x:eo}:aN (V 11) (eo.c x)=V (.a<|eo.c x):=by rw[apT];rfl
def bef{x:asq}:aN J (asq.c x)=V (iv x.kind):=rfl
def bwF{x:asq}:cK 0 J (.a<|asq.c x)=V (iv x.kind):=rfl
def beg{x:asq}:aN J ((asq.c x).drop 1)=V (iv x.line):=rfl
def bwG{x:asq}:cK 1 J (.a<|asq.c x)=V (iv x.line):=rfl
def beh{x:asq}:aN J ((asq.c x).drop 2)=V (st x.name):=rfl
def bwH{x:asq}:cK 2 J (.a<|asq.c x)=V (st x.name):=rfl
def bei{x:asq}:aN J ((asq.c x).drop 3)=V (iv x.size):=rfl
def bwI{x:asq}:cK 3 J (.a<|asq.c x)=V (iv x.size):=rfl
def bej{x:asq}:aN J ((asq.c x).drop 4)=V (iv x.init):=rfl
def bwJ{x:asq}:cK 4 J (.a<|asq.c x)=V (iv x.init):=rfl
def bek{x:asq}:aN J ((asq.c x).drop 5)=V (st x.on):=rfl
def bwK{x:asq}:cK 5 J (.a<|asq.c x)=V (st x.on):=rfl
def bem{x:asq}:aN (V 6) (asq.c x)=V (.a<|asq.c x):=rfl
def beU{x:xt}:aN J (xt.c x)=V (st x.name):=rfl
def bxj{x:xt}:cK 0 J (.a<|xt.c x)=V (st x.name):=rfl
def beV{x:xt}:aN J ((xt.c x).drop 1)=V (iv x.line):=rfl
def bxk{x:xt}:cK 1 J (.a<|xt.c x)=V (iv x.line):=rfl
def beW{x:xt}:aN J ((xt.c x).drop 2)=V (sl cs x.locs):=rfl
def bxl{x:xt}:cK 2 J (.a<|xt.c x)=V (sl cs x.locs):=rfl
def beX{x:xt}:aN J ((xt.c x).drop 3)=V (sl eo.c x.body):=rfl
def bxm{x:xt}:cK 3 J (.a<|xt.c x)=V (sl eo.c x.body):=rfl
def beY{x:xt}:aN (V 4) (xt.c x)=V (.a<|xt.c x):=rfl
def bez{x:xr}:aN J (xr.c x)=V (sl asq.c x.A7):=rfl
def bwV{x:xr}:cK 0 J (.a<|xr.c x)=V (sl asq.c x.A7):=rfl
def beA{x:xr}:aN J ((xr.c x).drop 1)=V (sl xt.c x.ay):=rfl
def bwW{x:xr}:cK 1 J (.a<|xr.c x)=V (sl xt.c x.ay):=rfl
def beB{x:xr}:aN (V 2) (xr.c x)=V (.a<|xr.c x):=rfl
def bes{x:lF}:aN J (lF.c x)=V (iv x.op):=rfl
def bwP{x:lF}:cK 0 J (.a<|lF.c x)=V (iv x.op):=rfl
def bet{x:lF}:aN J ((lF.c x).drop 1)=V (iv x.a):=rfl
def bwQ{x:lF}:cK 1 J (.a<|lF.c x)=V (iv x.a):=rfl
def beu{x:lF}:aN J ((lF.c x).drop 2)=V (iv x.b):=rfl
def bwR{x:lF}:cK 2 J (.a<|lF.c x)=V (iv x.b):=rfl
def bev{x:lF}:aN J ((lF.c x).drop 3)=V (iv x.k):=rfl
def bwS{x:lF}:cK 3 J (.a<|lF.c x)=V (iv x.k):=rfl
def bew{x:lF}:aN J ((lF.c x).drop 4)=V (iv x.n):=rfl
def bwT{x:lF}:cK 4 J (.a<|lF.c x)=V (iv x.n):=rfl
def bex{x:lF}:aN J ((lF.c x).drop 5)=V (iv x.site):=rfl
def bwU{x:lF}:cK 5 J (.a<|lF.c x)=V (iv x.site):=rfl
def bey{x:lF}:aN (V 6) (lF.c x)=V (.a<|lF.c x):=rfl
def beR{x:A2}:aN J (A2.c x)=V (iv x.li):=rfl
def bxh{x:A2}:cK 0 J (.a<|A2.c x)=V (iv x.li):=rfl
def beS{x:A2}:aN J ((A2.c x).drop 1)=V (sl lF.c x.No):=rfl
def bxi{x:A2}:cK 1 J (.a<|A2.c x)=V (sl lF.c x.No):=rfl
def beT{x:A2}:aN (V 2) (A2.c x)=V (.a<|A2.c x):=rfl
def bd9{x:qt}:aN J (qt.c x)=V (sl cA.c x.aQ.cells):=rfl
def bwi{x:qt}:cK 0 J (.a<|qt.c x)=V (sl cA.c x.aQ.cells):=rfl
def bx3{x:qt}:aN J ((qt.c x).drop 1)=V (sl dS.c x.aQ.ak):=rfl
def bwk{x:qt}:cK 1 J (.a<|qt.c x)=V (sl dS.c x.aQ.ak):=rfl
def bx4{x:qt}:aN J ((qt.c x).drop 2)=V (sl yp.c x.aQ.bC):=rfl
def bwl{x:qt}:cK 2 J (.a<|qt.c x)=V (sl yp.c x.aQ.bC):=rfl
def bea{x:qt}:aN J ((qt.c x).drop 3)=V (sl cs x.aQ.bU):=rfl
def bwm{x:qt}:cK 3 J (.a<|qt.c x)=V (sl cs x.aQ.bU):=rfl
def beb{x:qt}:aN J ((qt.c x).drop 4)=V (sl cs x.aQ.ay):=rfl
def bwn{x:qt}:cK 4 J (.a<|qt.c x)=V (sl cs x.aQ.ay):=rfl
def bx5{x:qt}:aN J ((qt.c x).drop 5)=V (sl dL.c x.aQ.dU):=rfl
def bwo{x:qt}:cK 5 J (.a<|qt.c x)=V (sl dL.c x.aQ.dU):=rfl
def bec{x:qt}:aN J ((qt.c x).drop 6)=V (sl A2.c x.ay):=rfl
def bwp{x:qt}:cK 6 J (.a<|qt.c x)=V (sl A2.c x.ay):=rfl
def bed{x:qt}:aN (V 6) (qt.c x)=V (.a<|x.aQ.c):=rfl
def bwq{x:qt}:cK 0 (V 6) (.a<|qt.c x)=V (.a<|x.aQ.c):=rfl
def bee{x:qt}:aN (V 7) (qt.c x)=V (.a<|qt.c x):=rfl
def beZ{x:pt}:aN J (pt.c x)=V (iv x.pc):=rfl
def bxv{x:pt}:cK 0 J (.a<|pt.c x)=V (iv x.pc):=rfl
def be0{x:pt}:aN J ((pt.c x).drop 1)=V (sl ci x.li):=rfl
def bxw{x:pt}:cK 1 J (.a<|pt.c x)=V (sl ci x.li):=rfl
def be1{x:pt}:aN J ((pt.c x).drop 2)=V (sl cl x.lj):=rfl
def bxx{x:pt}:cK 2 J (.a<|pt.c x)=V (sl cl x.lj):=rfl
def byq{x:pt}:aN J ((pt.c x).drop 3)=V (iv x.ac):=rfl
def bxy{x:pt}:cK 3 J (.a<|pt.c x)=V (iv x.ac):=rfl
def be2{x:pt}:aN (V 4) (pt.c x)=V (.a<|pt.c x):=rfl
def bx9{x:pm}:aN J (pm.c x)=V (sl cg.c x.bm.ak):=rfl
def bwX{x:pm}:cK 0 J (.a<|pm.c x)=V (sl cg.c x.bm.ak):=rfl
def bya{x:pm}:aN J ((pm.c x).drop 1)=V (iv x.bm.tx):=rfl
def bwY{x:pm}:cK 1 J (.a<|pm.c x)=V (iv x.bm.tx):=rfl
def byb{x:pm}:aN J ((pm.c x).drop 2)=V (sl cb x.bm.done):=rfl
def bwZ{x:pm}:cK 2 J (.a<|pm.c x)=V (sl cb x.bm.done):=rfl
def beC{x:pm}:aN J ((pm.c x).drop 3)=V (sl aoC.c x.bm.ay):=rfl
def bw0{x:pm}:cK 3 J (.a<|pm.c x)=V (sl aoC.c x.bm.ay):=rfl
def beD{x:pm}:aN J ((pm.c x).drop 4)=V (sl ci x.cells):=rfl
def bw1{x:pm}:cK 4 J (.a<|pm.c x)=V (sl ci x.cells):=rfl
def beE{x:pm}:aN J ((pm.c x).drop 5)=V (sl ci x.bU):=rfl
def bw2{x:pm}:cK 5 J (.a<|pm.c x)=V (sl ci x.bU):=rfl
def beF{x:pm}:aN J ((pm.c x).drop 6)=V (sl pt.c x.ay):=rfl
def bw3{x:pm}:cK 6 J (.a<|pm.c x)=V (sl pt.c x.ay):=rfl
def beG{x:pm}:aN (V 4) (pm.c x)=V (.a<|x.bm.c):=rfl
def bw4{x:pm}:cK 0 (V 4) (.a<|pm.c x)=V (.a<|x.bm.c):=rfl
def beH{x:pm}:aN (V 7) (pm.c x)=V (.a<|pm.c x):=rfl
def byg{x:O3}:aN J (O3.c x)=V (sl cA.c x.aQ.cells):=rfl
def bxn{x:O3}:cK 0 J (.a<|O3.c x)=V (sl cA.c x.aQ.cells):=rfl
def byh{x:O3}:aN J ((O3.c x).drop 1)=V (sl dS.c x.aQ.ak):=rfl
def bxo{x:O3}:cK 1 J (.a<|O3.c x)=V (sl dS.c x.aQ.ak):=rfl
def byi{x:O3}:aN J ((O3.c x).drop 2)=V (sl yp.c x.aQ.bC):=rfl
def bxp{x:O3}:cK 2 J (.a<|O3.c x)=V (sl yp.c x.aQ.bC):=rfl
def byj{x:O3}:aN J ((O3.c x).drop 3)=V (sl cs x.aQ.bU):=rfl
def bxq{x:O3}:cK 3 J (.a<|O3.c x)=V (sl cs x.aQ.bU):=rfl
def byk{x:O3}:aN J ((O3.c x).drop 4)=V (sl cs x.aQ.ay):=rfl
def bxr{x:O3}:cK 4 J (.a<|O3.c x)=V (sl cs x.aQ.ay):=rfl
def bym{x:O3}:aN J ((O3.c x).drop 5)=V (sl dL.c x.aQ.dU):=rfl
def bxs{x:O3}:cK 5 J (.a<|O3.c x)=V (sl dL.c x.aQ.dU):=rfl
def byn{x:O3}:aN J ((O3.c x).drop 6)=V (sl aP.c x.ac):=rfl
def bxt{x:O3}:cK 6 J (.a<|O3.c x)=V (sl aP.c x.ac):=rfl
def byo{x:O3}:aN (V 6) (O3.c x)=V (.a<|x.aQ.c):=rfl
def bxu{x:O3}:cK 0 (V 6) (.a<|O3.c x)=V (.a<|x.aQ.c):=rfl
def byp{x:O3}:aN (V 7) (O3.c x)=V (.a<|O3.c x):=rfl
def bpn{x:xd}:aN J (xd.c x)=V (iv x.aq):=rfl
def bvT{x:xd}:cK 0 J (.a<|xd.c x)=V (iv x.aq):=rfl
def bpo{x:xd}:aN J ((xd.c x).drop 1)=V (iv x.lD):=rfl
def bvU{x:xd}:cK 1 J (.a<|xd.c x)=V (iv x.lD):=rfl
def bpp{x:xd}:aN (V 2) (xd.c x)=V (.a<|xd.c x):=rfl
def yr{a:AV}{l:List AV}:aN J (a::l)=V a:=rfl
def C5{α:Type}{a:α}{n:Nat}{l:List α}:aOz (n+1) (a::l)=aOz n l:=rfl
def yd{α:Type}{l:List α}:aOz 0 l=l:=rfl
def gw:=ai @ben<|ai @bwL<|ai @beo<|ai @bwM<|ai @bep<|ai @bwN<|ai @ber<|ai @bwO<|ai @a69<|ai @beI<|ai @bw5<|ai @beJ<|ai @bw6<|ai @beL<|ai @bw8<|ai @beM<|ai @bw9<|ai @beN<|ai @bxa<|ai @byc<|ai @bxb<|ai @byd<|ai @bxc<|ai @bye<|ai @bxd<|ai @byf<|ai @bxe<|ai @beO<|ai @bxf<|ai @beK<|ai @bw7<|ai @beP<|ai @bxg<|ai @beQ<|ai @bef<|ai @bwF<|ai @beg<|ai @bwG<|ai @beh<|ai @bwH<|ai @bei<|ai @bwI<|ai @bej<|ai @bwJ<|ai @bek<|ai @bwK<|ai @bem<|ai @beU<|ai @bxj<|ai @beV<|ai @bxk<|ai @beW<|ai @bxl<|ai @beX<|ai @bxm<|ai @beY<|ai @bez<|ai @bwV<|ai @beA<|ai @bwW<|ai @beB<|ai @bes<|ai @bwP<|ai @bet<|ai @bwQ<|ai @beu<|ai @bwR<|ai @bev<|ai @bwS<|ai @bew<|ai @bwT<|ai @bex<|ai @bwU<|ai @bey<|ai @beR<|ai @bxh<|ai @beS<|ai @bxi<|ai @beT<|ai @bd9<|ai @bwi<|ai @bx3<|ai @bwk<|ai @bx4<|ai @bwl<|ai @bea<|ai @bwm<|ai @beb<|ai @bwn<|ai @bx5<|ai @bwo<|ai @bec<|ai @bwp<|ai @bed<|ai @bwq<|ai @bee<|ai @beZ<|ai @bxv<|ai @be0<|ai @bxw<|ai @be1<|ai @bxx<|ai @byq<|ai @bxy<|ai @be2<|ai @bx9<|ai @bwX<|ai @bya<|ai @bwY<|ai @byb<|ai @bwZ<|ai @beC<|ai @bw0<|ai @beD<|ai @bw1<|ai @beE<|ai @bw2<|ai @beF<|ai @bw3<|ai @beG<|ai @bw4<|ai @beH<|ai @byg<|ai @bxn<|ai @byh<|ai @bxo<|ai @byi<|ai @bxp<|ai @byj<|ai @bxq<|ai @byk<|ai @bxr<|ai @bym<|ai @bxs<|ai @byn<|ai @bxt<|ai @byo<|ai @bxu<|ai @byp<|ai @bpn<|ai @bvT<|ai @bpo<|ai @bvU<|ai @bpp<|ai @yr<|ai @C5<|@yd
def bab{Y:ae}{x:vm}:dG Y (.a<|vm.c x)= .a (vm.c x):=by rw[aoH];rfl
def baf{Y:ae}{x:eo}:dG Y (.a<|eo.c x)= .a (eo.c x):=by rw[apT];rfl
def baa{Y:ae}{x:asq}:dG Y (.a<|asq.c x)= .a (asq.c x):=rfl
def bvs{Y:ae}{x:xt}:dG Y (.a<|xt.c x)= .a (xt.c x):=rfl
def bad{Y:ae}{x:xr}:dG Y (.a<|xr.c x)= .a (xr.c x):=rfl
def bac{Y:ae}{x:lF}:dG Y (.a<|lF.c x)= .a (lF.c x):=rfl
def bag{Y:ae}{x:A2}:dG Y (.a<|A2.c x)= .a (A2.c x):=rfl
def a99{Y:ae}{x:qt}:dG Y (.a<|qt.c x)= .a (qt.c x):=rfl
def bai{Y:ae}{x:pt}:dG Y (.a<|pt.c x)= .a (pt.c x):=rfl
def bae{Y:ae}{x:pm}:dG Y (.a<|pm.c x)= .a (pm.c x):=rfl
def bah{Y:ae}{x:O3}:dG Y (.a<|O3.c x)= .a (O3.c x):=rfl
def a98{Y:ae}{x:xd}:dG Y (.a<|xd.c x)= .a (xd.c x):=rfl
def bba{v:Value}:iX (.s v)=U:=rfl
def ba8{α:Type}{f:α->List AV}{l:List α}:iX (sl f l)=U:=rfl
def bvv{x:vb}:iX (.a x.c)=U:=rfl
def bbb{x:vm}:iX (.a<|vm.c x)=U:=by simp[iX,eN,aoH,sl]
def bbd{x:eo}:iX (.a<|eo.c x)=U:=by simp[iX,eN,apT,sl]
def bvC{x:asq}:iX (.a<|asq.c x)=U:=rfl
def bvI{x:xt}:iX (.a<|xt.c x)=U:=rfl
def bbc{x:xr}:iX (.a<|xr.c x)=U:=rfl
def bvF{x:lF}:iX (.a<|lF.c x)=U:=rfl
def bvH{x:A2}:iX (.a<|A2.c x)=U:=rfl
def bvB{x:qt}:iX (.a<|qt.c x)=U:=rfl
def bvL{x:pt}:iX (.a<|pt.c x)=U:=rfl
def bvG{x:pm}:iX (.a<|pm.c x)=U:=rfl
def bvJ{x:O3}:iX (.a<|O3.c x)=U:=rfl
def bvw{x:xd}:iX (.a<|xd.c x)=U:=rfl
def aOW:=ai @bba<|ai @ba8<|ai @bvv<|ai @bbb<|ai @bbd<|ai @bvC<|ai @bvI<|ai @bbc<|ai @bvF<|ai @bvH<|ai @bvB<|ai @bvL<|ai @bvG<|ai @bvJ<|@bvw
def Fa:=ai @bab<|ai @baf<|ai @baa<|ai @bvs<|ai @bad<|ai @bac<|ai @bag<|ai @a99<|ai @bai<|ai @bae<|ai @bah<|@a98
section
variable{K:o8}{Y:ae}{i:Int}
def boW{l:List xd}:rV (cz 2 Y (sl xd.c l)<|iv i) K=(aF (L l) i/\K (.q<|xd.c<|gd l i.toNat)):=aBz λ_=>rfl
end
abbrev qN:ByteArray:=⟨#[113]⟩
def C6:Nat->vm->Prop|0,_=>False|n+1,e=>(((e.op=1\/e.op=2)/\e.l=[])\/(e.op=3/\e.name=qN/\L e.l=1)\/(6<=e.op/\L e.l=2))/\∀x∈e.l,C6 n x
theorem C6.len{n:Nat}{e:vm}(h:C6 n e):L e.l<=2:=by cases n with|zero=>exact h.elim|succ n=>rcases h.1 with⟨_,h⟩|⟨_,_,h⟩|⟨_,h⟩<;>simp[h]
theorem C6.sub{n:Nat}{e:vm}(h:C6 n e){k:Nat}(a:k<L e.l):∃m,n=m+1/\C6 m (gd e.l k):=by cases n with|zero=>exact h.elim|succ n=>exact⟨n,rfl,h.2 _ (dB a)⟩
theorem C6.mono:∀{n m:Nat} {e:vm},C6 n e->n<=m->C6 m e
 |0,_,_,h,_=>h.elim
 |n+1,0,_,_,h=>by omega
 |n+1,m+1,e,h,b=>⟨h.1,λx a=>(h.2 x a).mono<|by omega⟩
def A5:Nat->eo->Prop|0,_=>False|n+1,s=>((s.op=1\/s.op=2\/s.op=3\/s.op=14)->C6 2 s.expr)/\L s.index<=1/\(∀x∈s.index,C6 2 x)/\(s.index≠[]->s.name=qN)/\L s.expr.l<=2/\L s.body<=4/\(∀x∈s.body,A5 n x)/\L s.els<=4/\(∀x∈s.els,A5 n x)/\1<=s.op/\s.op<=15
def A5.up{n:Nat}{s:eo}(h:A5 n s):∃m,n=m+1/\(∀x∈s.body,A5 m x)/\∀x∈s.els,A5 m x:=by cases n with|zero=>exact h.elim|succ n=>exact⟨n,rfl,h.2.2.2.2.2.2.1,h.2.2.2.2.2.2.2.2.1⟩
def A5.at{n:Nat}{s:eo}(h:A5 n s):((s.op=1\/s.op=2\/s.op=3\/s.op=14)->C6 2 s.expr)/\L s.index<=1/\(∀x∈s.index,C6 2 x)/\(s.index≠[]->s.name=qN)/\L s.expr.l<=2/\L s.body<=4/\L s.els<=4:=by cases n with|zero=>exact h.elim|succ n=>exact⟨h.1,h.2.1,h.2.2.1,h.2.2.2.1,h.2.2.2.2.1,h.2.2.2.2.2.1,h.2.2.2.2.2.2.2.1⟩
def A5.ops{n:Nat}{s:eo}(h:A5 n s):1<=s.op/\s.op<=15:=by cases n with|zero=>exact h.elim|succ n=>exact h.2.2.2.2.2.2.2.2.2
theorem A5.mono:∀{n m:Nat} {s:eo},A5 n s->n<=m->A5 m s
 |0,_,_,h,_=>h.elim
 |n+1,0,_,_,h=>by omega
 |n+1,m+1,s,⟨c,d,e,f,g,i,j,k,l,b⟩,o=>⟨c,d,e,f,g,i,λx a=>(j x a).mono (by omega),k,λx a=>(l x a).mono (by omega),b⟩
def shL(n m:Nat)(l:List eo):Prop:=L l<=m/\∀s∈l,A5 n s
def A5.body{n:Nat}{s:eo}(h:A5 n s):∃m,n=m+1/\shL m 4 s.body/\shL m 4 s.els:=by obtain⟨m,e,a,b⟩:=h.up;exact⟨m,e,⟨h.at.2.2.2.2.2.1,a⟩,⟨h.at.2.2.2.2.2.2,b⟩⟩
def shT(t:xt):Prop:=L t.locs<=4/\shL 4 8 t.body
def PrB(p:xr):Prop:=L p.A7<1000/\L p.ay<1000/\∀t∈p.ay,L t.locs<1000
def shP(p:xr):Prop:=PrB p/\L p.ay<=4/\∀t∈p.ay,shT t
section
variable{i:Nat}(F:FT)
def aP7{A:Type}{b:A->List AV}{c:A->o8}(k:∀a,Ct i (b a)<|c a):FT:=λys K=>∃a,ys=b a/\∀r,c a r->K r
def aRM{A:Type}{b:A->List AV}{e:A->o8}(k:∀a,Ct i (b a)<|e a)(a:A)(d K:o8)(g:F=aP7 k:=by exact rfl)(j:∀a c,b a=b c->a=c:=by simp+contextual only[ij]):fW F (b a) d K=(∀r,e a r->d r/\K r):=by subst g;apply amt;constructor;rintro⟨c,h,f⟩;obtain rfl:=j _ _ h;exact f;intro h;exact⟨_,rfl,h⟩
def aR6{A:Type}{b:A->List AV}{e:A->o8}(k:∀a,Ct i (b a)<|e a)(c:∀a,(b a).all iX=U:=by intros;exact rfl):∀ys K,aP7 k ys K->jz aS GG i ys K:=by rintro ys K ⟨a,rfl,h⟩;exact nX (k a) (c a) (λr d=>h r d)
def aRd{A B:Type}{c:A->B->List AV}{d:A->B->o8}(k:∀a b,Ct i (c a b)<|d a b):FT:=λys K=>∃a b,ys=c a b/\∀r,d a b r->K r
def aWg{A B:Type}{c:A->B->List AV}{g:A->B->o8}(k:∀a b,Ct i (c a b)<|g a b)(a:A)(b:B)(f K:o8)(m:F=aRd k:=by exact rfl)(j:∀a b d e,c a b=c d e->a=d/\b=e:=by simp+contextual only[ij]):fW F (c a b) f K=(∀r,g a b r->f r/\K r):=by subst m;apply amt;constructor;rintro⟨d,e,h,l⟩;obtain⟨rfl,rfl⟩:=j _ _ _ _ h;exact l;intro h;exact⟨_,_,rfl,h⟩
def aYm{A B:Type}{c:A->B->List AV}{f:A->B->o8}(k:∀a b,Ct i (c a b)<|f a b)(d:∀a b,(c a b).all iX=U:=by intros;exact rfl):∀ys K,aRd k ys K->jz aS GG i ys K:=by rintro ys K ⟨a,b,rfl,h⟩;exact nX (k a b) (d a b) (λr e=>h r e)
def aSb{A B C:Type}{d:A->B->C->List AV}{e:A->B->C->o8}(k:∀a b c,Ct i (d a b c)<|e a b c):FT:=λys K=>∃a b c,ys=d a b c/\∀r,e a b c r->K r
def a6o{A B C:Type}{d:A->B->C->List AV}{m:A->B->C->o8}(k:∀a b c,Ct i (d a b c)<|m a b c)(a:A)(b:B)(c:C)(l K:o8)(o:F=aSb k:=by exact rfl)(j:∀a b c e f g,d a b c=d e f g->a=e/\b=f/\c=g:=by simp+contextual only[ij]):fW F (d a b c) l K=(∀r,m a b c r->l r/\K r):=by subst o;apply amt;constructor;rintro⟨e,f,g,h,n⟩;obtain⟨rfl,rfl,rfl⟩:=j _ _ _ _ _ _ h;exact n;intro h;exact⟨_,_,_,rfl,h⟩
def a7W{A B C:Type}{d:A->B->C->List AV}{g:A->B->C->o8}(k:∀a b c,Ct i (d a b c)<|g a b c)(e:∀a b c,(d a b c).all iX=U:=by intros;exact rfl):∀ys K,aSb k ys K->jz aS GG i ys K:=by rintro ys K ⟨a,b,c,rfl,h⟩;exact nX (k a b c) (e a b c) (λr f=>h r f)
def bix{A B C D:Type}{e:A->B->C->D->List AV}{f:A->B->C->D->Prop}{v:A->B->C->D->AV}(k:∀a b c d,f a b c d->Ct i (e a b c d) (·=v a b c d)):FT:=λys K=>∃a b c d,ys=e a b c d/\f a b c d/\K (v a b c d)
def bmX{A B C D:Type}{e:A->B->C->D->List AV}{o:A->B->C->D->Prop}{v:A->B->C->D->AV}(k:∀a b c d,o a b c d->Ct i (e a b c d) (·=v a b c d))(a:A)(b:B)(c:C)(d:D)(n K:o8)(q:F=bix k:=by exact rfl)(j:∀a b c d f g l m,e a b c d=e f g l m->a=f/\b=g/\c=l/\d=m:=by simp+contextual only[ij]):fW F (e a b c d) n K=(o a b c d/\n (v a b c d)/\K (v a b c d)):=by subst q;apply amt;constructor;rintro⟨f,g,l,m,h,p⟩;obtain⟨rfl,rfl,rfl,rfl⟩:=j _ _ _ _ _ _ _ _ h;exact p;intro h;exact⟨_,_,_,_,rfl,h⟩
def bnA{A B C D:Type}{e:A->B->C->D->List AV}{l:A->B->C->D->Prop}{v:A->B->C->D->AV}(k:∀a b c d,l a b c d->Ct i (e a b c d) (·=v a b c d))(f:∀a b c d,(e a b c d).all iX=U:=by intros;exact rfl):∀ys K,bix k ys K->jz aS GG i ys K:=by rintro ys K ⟨a,b,c,d,rfl,g,h⟩;exact nX (k a b c d g) (f a b c d) (λr j=>by rw[j];exact h)
def aTQ{A B C D E:Type}{f:A->B->C->D->E->List AV}{g:A->B->C->D->E->Prop}{h:A->B->C->D->E->o8}(k:∀a b c d e,g a b c d e->Ct i (f a b c d e) (h a b c d e)):FT:=λys K=>∃a b c d e,ys=f a b c d e/\g a b c d e/\∀r,h a b c d e r->K r
def bbn{A B C D E:Type}{f:A->B->C->D->E->List AV}{q:A->B->C->D->E->Prop}{s:A->B->C->D->E->o8}(k:∀a b c d e,q a b c d e->Ct i (f a b c d e) (s a b c d e))(a:A)(b:B)(c:C)(d:D)(e:E)(p K:o8)(u:F=aTQ k:=by exact rfl)(j:∀a b c d e g l m n o,f a b c d e=f g l m n o->a=g/\b=l/\c=m/\d=n/\e=o:=by simp+contextual only[ij]):fW F (f a b c d e) p K=(q a b c d e/\∀r,s a b c d e r->p r/\K r):=by subst u;apply amt;constructor;rintro⟨g,l,m,n,o,h,t⟩;obtain⟨rfl,rfl,rfl,rfl,rfl⟩:=j _ _ _ _ _ _ _ _ _ _ h;exact t;intro h;exact⟨_,_,_,_,_,rfl,h⟩
def bhJ{A B C D E:Type}{f:A->B->C->D->E->List AV}{m:A->B->C->D->E->Prop}{n:A->B->C->D->E->o8}(k:∀a b c d e,m a b c d e->Ct i (f a b c d e) (n a b c d e))(g:∀a b c d e,(f a b c d e).all iX=U:=by intros;exact rfl):∀ys K,aTQ k ys K->jz aS GG i ys K:=by rintro ys K ⟨a,b,c,d,e,rfl,j,h⟩;exact nX (k a b c d e j) (g a b c d e) (λr l=>h r l)
end
def B1:AV->AV| .t vs=> .t (vs.map nrm)|x=>nrm x
theorem bdV{κ:rm}{w:World}{Y:ae}{β:Id->Nat}{v:Value}{x:AV}(h:ba κ w Y β v x):ba κ w Y β v (B1 x):=by cases x with|t vs=>(cases h with|t d h=>refine .t (by grind) λi v c f b=>?_;grind [bE,yo])|_=>exact yo h
theorem a6f{x:AV}:nj (gK x)=nj x:=by cases x<;>rfl
theorem aWa{x:AV}:pF (nrm x)=pF x:=by cases x with|a cs=>grind [nrm,pF,List.all_map,a6f]|_=>first|rfl|exact a6f
def ba7{x:AV}:kG (B1 x)=kG x:=by have h:=@aWa x;(cases x<;>first|exact h|skip);grind [B1,kG,List.all_map,aWa]
def aDq{fn:Nat}{ys:List AV}{Q:o8}(h:Ct fn ys λr=>Q<|B1 r):Ct fn ys Q:=by obtain⟨r,f,g,i,j⟩:=h;refine⟨B1 r,f,by rw[ba7];exact g,i,λF w d a b c=>(j F w d a b c).mono ?_⟩;grind [bdV]
def fz(Y:ae)(c:AV):AV:=gK<|dQ Y c
def fzT(Y:ae):AV->AV| .a cs=> .a (cs.map<|fz Y)|x=>fz Y x
def bcq{Y:ae}{c:AV}:(∃l t o,dQ Y c= .l l t o)\/dQ Y c=c:=by(cases c<;>first|exact .inr rfl|skip);grind [box,dQ,eN,frN]
theorem aXU{Y:ae}{x:AV}:nrm (iZ Y x)=fzT Y x:=by cases x with|a cs=>simp only[iZ,nrm,fzT,vA];rfl|m b n=>show nrm (dQ Y<|.m b n)=gK (dQ Y<|.m b n);(rcases bcq (Y:=Y) (c:= .m b n) with⟨l,t,o,h⟩|h<;>rw[h]<;>rfl)|_=>rfl
theorem a6g{Y:ae}{x:AV}(h:iX (fzT Y x)=U):pF (iZ Y x)=U:=by have b:pF (nrm<|iZ Y x)=U:=(by rw[aXU];generalize fzT Y x=y at h;cases y with|a cs=>simp only[iX,dV] at h;simp only[pF,dV];intro c d;have:=h c d;(cases c<;>first|rfl|grind [eN])|_=>first|rfl|grind [iX,eN]);rwa [aWa] at b
def aOH{Q:o8}{Y:ae}{vs vs':List AV}(h:vs.map (fzT Y)=vs')(d:vs'.all iX=U)(c:Q<|aoz vs'):aE (λr=>Q<|B1 r) Y vs:=by have b:kG (.t<|vs.map<|iZ Y)=U/\B1 (.t<|vs.map<|iZ Y)= .t vs':=(by constructor;grind [kG,List.all_map,dV,a6g,List.mem_map_of_mem];simp only[B1,vA,<-h];grind [ja,aXU]);unfold aE jS;rcases vs with _|⟨v,_|⟨w,l⟩⟩;subst h;exact⟨rfl,c⟩;subst h;simp only[ji,mU,Cs,aqG,ru] at d;have f:=a6g d;have g:B1 (iZ Y v)=fzT Y v/\kG (iZ Y v)=pF (iZ Y v):=(by rw[<-aXU];generalize iZ Y v=y at f;cases y<;>first|exact⟨rfl,rfl⟩|grind [pF,nj]);refine⟨by simp_all,?_⟩;show Q<|B1<|iZ Y v;rw[g.1];exact c;subst h;refine⟨b.1,?_⟩;show Q<|B1<|.t<|(v::w::l).map<|iZ Y;rw[b.2];exact c
def aOv{Q:o8}{Y:ae}{v v':AV}(h:fzT Y v=v')(c:iX v'=U)(b:Q v'):aE (λr=>Q<|B1 r) Y [v]:=by subst h;exact aOH (vs':=[fzT Y v]) rfl (by simp[c]) b
theorem aQ7{Y:ae}{v x:AV}(h:fzT Y v=x)(b:iX x=U):aE (λr=>B1 r=x) Y [v]:=aOv (Q:=(·=x)) h b rfl
def gm(Y:ae)(e:TypeId)(z:Nat)(a:AV)(aa:List<|List AV):Prop:=(aa=[]/\a= .l [] U U)\/∃b m,a= .m b (L aa)/\box Y b=V ⟨e,z,U,I,aa++m⟩
theorem bc.p{Y:ae}{e:TypeId}{z:Nat}{a:AV}{aa:List (List AV)}(h:bc Y e z a aa):gm Y e z a aa:=by rcases h with h|⟨b,c,d⟩;exact .inl h;exact .inr ⟨b,[],c,by simpa using d⟩
section
variable{Y Y':ae}{e:TypeId}{z:Nat}{a:AV}{aa:List (List AV)}
theorem gm.fx{ks:List Id}(f:gm Y e z a aa)(d:Fx Y Y' ks)(g:∀b∈aA a,b∉ks):gm Y' e z a aa:=by rcases f with h|⟨b,m,rfl,c⟩;exact .inl h;exact .inr ⟨b,m,rfl,d.keep b _ (g b<|by simp[aA]) c⟩
def aWt{v:Value}:fz Y (.s v)= .s v:=rfl
def bcz{t o:Bool}:fz Y (.l aa t o)= .l aa I I:=rfl
def aBr(h:gm Y e z a aa):fz Y a= .l aa I I:=by rcases h with⟨rfl,rfl⟩|⟨b,m,rfl,c⟩;rfl;simp[fz,dQ,c,gK]
def aWs(h:gm Y e z a aa):fzT Y a= .l aa I I:=by rw[<-aBr h];rcases h with⟨rfl,rfl⟩|⟨b,m,rfl,c⟩<;>rfl
def lz(Y:ae)(c:AV):AV:=gK<|gi Y c
def aQ5{v:Value}:lz Y (.s v)= .s v:=rfl
def aXQ{t o:Bool}:lz Y (.l aa t o)= .l aa I I:=rfl
def aOb(h:gm Y e z a aa):lz Y a= .l aa I I:=by rcases h with⟨rfl,rfl⟩|⟨b,m,rfl,c⟩;rfl;simp[lz,gi,c,gK]
theorem gm.ce(h:gm Y e z a aa):eY a=V [a]:=by rcases h with⟨_,rfl⟩|⟨b,m,rfl,_⟩<;>rfl
theorem gm.ln(h:gm Y e z a aa):fS Y a=V (iv<|L aa):=by rcases h with⟨rfl,rfl⟩|⟨b,m,rfl,c⟩;rfl;simp[fS,c]
def gm.ar(h:gm Y e z a aa):dG Y a= .l aa I I:=by rcases h with⟨rfl,rfl⟩|⟨b,m,rfl,c⟩;rfl;simp[dG,eR,gi,c,nrm,gK]
def oo{b:Id}{i j:Nat}{x:bY}(h:box Y b=V x):cO Y (.p b i j)=V (.p b i j):=by simp[cO,h]
theorem qs{d c:Nat}{zs:List AV}{new:List (List AV)}{t o:Bool}{K:be}(j:gm Y e z a aa)(n:L zs=z)(p:0<z)(f:d<L Y)(v:∀r∈aa,L r=z)(u:∀r∈new,L r=z)(q:new≠[])(s:(L aa+L new)*(c+1)<=1099511627776)(i:∀g Y',bc Y' e z g (aa++new)->Fx Y Y' (aA a)->(∀b∈aA g,bK Y b/\b.1=d)->K g Y'):eV (cj e zs c Y d a<|.l new t o) K:=by unfold cj;simp only[gL];rw[j1 (by grind),hH ⟨by omega,by simp[vg,f],by simp_all⟩];rcases j with⟨rfl,rfl⟩|⟨b,m,rfl,h⟩;simp only;rw[hH ⟨by simp,by grind [lx]⟩];refine i _ _ (.inr ⟨lA Y d,by simp,?_⟩) ((kH f).mono<|by simp) (by simp[aA];exact⟨qQ Y d,rfl⟩);grind [iy];simp only[h];rw[hH ⟨trivial,trivial,n.symm,by simp,by grind [lx]⟩];have k:d<L (kill Y b):=(by grind [yg]);refine i _ _ (.inr ⟨lA Y d,by simp,?_⟩) (((Le h).trans<|kH k).mono<|by simp[aA]) (by simp[aA];exact⟨qQ Y d,rfl⟩);grind [List.take_left',anF,iy]
theorem slP{i:Int}{K:o8}(g:gm Y e z a aa)(f:0<=i)(j:i<=L aa)(d:∀c,gm Y e z c (aa.take i.toNat)->aA c=aA a->K c):rV (fo z Y a J (V<|iv i) J) K:=by have k:i.toNat<=L aa:=(by omega);rcases g with⟨rfl,rfl⟩|⟨b,m,rfl,n⟩;have h:i.toNat=0:=(by grind);have:fo z Y (.l [] U U) J (V<|iv i) J=V (.l [] U U):=(by simp[fo,lM,f,qY,h]);rw[this];exact d _ (.inl ⟨by simp,rfl⟩) rfl;have:fo z Y (.m b<|L aa) J (V<|iv i) J=V (.m b i.toNat):=(by grind [fo,lM,qY]);rw[this];refine d _ (.inr ⟨b,aa.drop i.toNat++m,?_,?_⟩) rfl;simp_all;grind [bje,aq0]
theorem aOp:∀(l:List Id) (Y:ae),Fx Y (kills Y l) l:=by intro l;induction l with|nil=>intro Y;exact Fx.refl _ _|cons b l d=>intro Y;show Fx Y (kills (if(box Y b).isSome then kill Y b else Y) l) (b::l);cases c:box Y b with|none=>grind [Fx.mono]|some x=>exact(Le c).trans<|d<|kill Y b
end
structure Lv(Y0 Y:ae)(cs tgt:List AV):Prop where
 eq:cs.map (lz Y)=tgt
 nw:∀b∈eB (.a cs),bK Y0 b
def aQm{Y:ae}{zs cs tgt:List AV}(d:cs.map (lz Y)=tgt)(b:L tgt=L zs)(f:0<L zs)(g:tgt.all eN=U)(i:L zs<=1000):aX zs 1 Y [(0, .a cs)]=V (.l [tgt] U U,kills Y<|eB<|.a cs):=by have h:nrm (eR Y<|.a cs)= .a tgt:=(by simp only[eR,nrm,vA,<-d];rfl);simp only[aX,ji,mU,h,Cz,RN,cL];have c:(er 1 zs).flatten=zs:=(by simp);rw[hH ⟨by omega,f⟩,c];simp only[aly,eY,b,Nat.zero_mul,aj,dA,J7,aNR,CE,dW,List.drop_length,cL,qd,g,df];simp[kC,<-b]
theorem Lv.fx{d Y Y':ae}{cs tgt:List AV}{ks:List Id}(h:Lv d Y cs tgt)(f:Fx Y Y' ks)(l:∀b∈eB (.a cs),b∉ks)(i:tgt.all eN=U):Lv d Y' cs tgt:=by refine⟨?_,h.nw⟩;rw[<-h.eq];refine ja λc k=>?_;have j:eN (lz Y c)=U:=(by rw[<-h.eq] at i;simp_all);cases c with|m b n=>(cases g:box Y b with|none=>grind [lz,gi,gK,eN]|some x=>have:=f.keep b x (by grind [eB,iR]) g;grind [lz,gi])|_=>rfl
def aRA{e:TypeId}{z d:Nat}{zs cs:List AV}{Y:ae}{K:be}(l:L zs=z)(j:L cs=z)(h:0<z)(k:d<L Y)(i:∀v Y',Fx Y Y' []->bK Y (d,v)->box Y' (d,v)=V ⟨e,z,U,U,[cs]⟩->K (.p (d,v) 0 0) Y'):eV (alA e zs Y d) λp s=>sV (aK z s p<|.a cs) λs'=>K p s':=by refine alI l h k λv o b f g=>?_;refine cy (y:=z) (cs:=cs) g rfl j (by omega) λm c n=>?_;refine i v m ((b.trans c).mono<|by grind [bK.no]) f ?_;simp_all
def qr{Y:ae}{b:Id}{z:Nat}{e:TypeId}{o:Bool}{r cs:List AV}{K:ae->Prop}(f:box Y b=V ⟨e,z,o,U,[r]⟩)(j:L r=z)(g:L cs=z)(d:∀Y',Fx Y Y' [b]->box Y' b=V ⟨e,z,o,U,[cs]⟩->K Y'):sV (aK z Y (.p b 0 0)<|.a cs) K:=by refine cy (y:=z) (cs:=cs) f rfl g (by omega) λh c i=>d h c ?_;simp_all
def bdJ{Y:ae}{q:Option Nat}{cs:List AV}:lS q Y (.q cs)=aN q cs:=rfl
def A0{Y:ae}{b:Id}{j z:Nat}{e:TypeId}{o:Bool}{r:List AV}{x:AV}{K:ae->Prop}(d:box Y b=V ⟨e,z,o,U,[r]⟩)(g:eY x=V [x])(f:j<L r)(c:∀Y',Fx Y Y' [b]->box Y' b=V ⟨e,z,o,U,[r.set j x]⟩->K Y'):sV (aK 1 Y (.p b 0 j) x) K:=by grind [cy,GP]
def aPW{i:Nat}{ys:List AV}{R b K:o8}(h:Ct i ys R)(c:ys.all iX=U)(d:∀r,R r->b r/\K r):fW (cX i) ys b K:=nX h c d
def a6h{x:vm}:iX (.a<|vm.c x)=U:=by simp[iX,eN,aoH,sl]
def aS7{x:eo}:iX (.a<|eo.c x)=U:=by simp[iX,eN,apT,sl]
def aV2{x:AV}(h:iX x=U):[x].all iX=U:=by simp[h]
def O5{Y:ae}{e:TypeId}{z d c n:Nat}{zs:List AV}{a:AV}{aa new:List (List AV)}{t o:Bool}{K:be}(i:gm Y e z a aa)(p:L Y=n)(s:∀r∈aa,L r=z)(q:∀r∈new,L r=z)(h:new≠[])(k:(L aa+L new)*(c+1)<=1099511627776)(j:∀f Y',bc Y' e z f (aa++new)->Fx Y Y' (aA a)->(∀b∈aA f,bK Y b/\b.1=d)->K f Y')(u:L zs=z:=by exact rfl)(g:0<z:=by decide)(m:d<n:=by decide):eV (cj e zs c Y d a<|.l new t o) K:=qs i u g (p▸m) s q h k j
def anu{e:TypeId}{z d n:Nat}{zs cs:List AV}{Y:ae}{K:be}(h:L Y=n)(c:∀v Y',Fx Y Y' []->bK Y (d,v)->box Y' (d,v)=V ⟨e,z,U,U,[cs]⟩->K (.p (d,v) 0 0) Y')(i:L zs=z:=by exact rfl)(f:L cs=z:=by exact rfl)(b:0<z:=by decide)(g:d<n:=by decide):eV (alA e zs Y d) λp s=>sV (aK z s p<|.a cs) λs'=>K p s':=aRA i f b (h▸g) c
def isI(r:AV):Prop:=∃x:Int,r=iv x
def isB(r:AV):Prop:=∃b:Bool,r=bv b
def aPG{x:Int}:isI (iv x)=True:=bqJ ⟨x,rfl⟩
def aNP{b:Bool}:isB (bv b)=True:=bqJ ⟨b,rfl⟩
def aP1{c:Prop}[Decidable c]{v:AV}{K:o8}:rV (if c then V v else J) K=(c/\K v):=by grind [rV]
def aWE(r:AV):Prop:=∃(x:Int) (b:Bool),r= .t [iv x,bv b]
def aQ1(r:AV):Prop:=∃x y:Int,r= .t [iv x,iv y]
def a6D{x:Int}{b:Bool}:aWE (.t [iv x,bv b])=True:=bqJ ⟨x,b,rfl⟩
def aO2{x y:Int}:aQ1 (.t [iv x,iv y])=True:=bqJ ⟨x,y,rfl⟩
def bd7{R:o8}{Y:ae}{x y:Int}:aE R Y [iv x,iv y]=R (.t [iv x,iv y]):=by simp[aE,jS,iZ,dQ,kG,pF,nj]
def aTb{p:Nat->Bool}{n:Nat}: -1<=uo p n/\uo p n<n:=by grind [uo,List.mem_of_find?_eq_some]
def aXc(b:Bool):Ct 286 [bv b] (·=iv (if b then 1 else 0)):=by refine bgS λs0 c a=>?_;cases b<;>simp[a1q,u1,ah]
def aOT:FT:=lH aXc
def bbU{b Lw K}:=np aOT aXc b Lw K
def aXa(i n:Int):Ct 269 [iv i,iv n] (λr=>isI r):=by refine bgQ λs0 b a=>?_;simp+contextual only[a1m,u0,u1,aPR,↓uL,aP1,aPG];refine⟨λh=>trivial,λh=>⟨by grind,?_⟩⟩;simp+contextual only[qz 35,qz 33,↓uL,u0,u1,aPG,mp,J7]
def aSe:FT:=aRd aXa
def bbS{i n Lw K}:=aWg aSe aXa i n Lw K
def aXg(o:Int):Ct 237 [iv o] (·=bv (Q (1<=o)&&Q (o<=5))):=by refine bgW λs0 b a=>?_;simp+contextual only[a1M,u0,u1,↓uL]
def aSf:FT:=lH aXg
def bbY{o Lw K}:=np aSf aXg o Lw K
def aXk(i n:Int):Ct 211 [iv i,iv n] (·=bv (dh i n)):=by refine bg7 λs0 b a=>?_;simp+contextual only[a2y,u0,u1,dh,↓uL]
def aN3:FT:=lI aXk
def bb2{i n Lw K}:=nq aN3 aXk i n Lw K
def aXm(l:List dS)(s:ByteArray)(f:L l<4611686018427387904):Ct 220 [sl dS.c l,st s] (λr=>isI r):=by refine bg9 λs0 e a=>?_;simp only[a2D];refine C7 (L l) (λk=>True) trivial λk d b=>?_;simp+contextual only[qz 19,u0,u1,ix,rk,bh,aPG,mp,bR,u5,↓uL];grind [dJ,aL,gS]
def aQE:FT:=pn aXm
def bb4{l s Lw K}:=f211 aQE aXm l s Lw K
def aXd(w:vb)(s:ByteArray)(m:L w.cells<4611686018427387904):Ct 279 [.a w.c,st s] (·=iv (uo (λi=>Q<|(gd w.cells i).name=s)<|L w.cells)):=by refine bgT rfl λn l b f=>?_;simp only[a1r];refine C7 (L w.cells) (λk=>∀j,j<k->Q ((gd w.cells j).name=s)=I) (by simp) λk g e=>?_;simp+contextual only[qz 19,u0,u1,b,ix,rk,aj,bh,↓uL];refine⟨λh=>⟨vp h,λd=>?_,by grind [gS,aL]⟩,λh=>?_⟩;rw[KW (aL h) d e];grind [KX,C3,bw]
def aQD:FT:=aIc aXd
def bbV{w s Lw K}:=f210 aQD aXd w s Lw K
def aOB(l:List asq)(s:ByteArray):Int:=uo (λi=>Q<|(gd l i).name=s)<|L l
def aYi(l:List xt)(s:ByteArray):Int:=uo (λi=>Q<|(gd l i).name=s)<|L l
def aWX(l:List asq)(s:ByteArray)(g:L l<4611686018427387904):Ct 245 [sl asq.c l,st s] (·=iv (aOB l s)):=by refine bgB λi f d=>?_;simp only[a0p];refine C7 (L l) (λk=>∀j,j<k->Q ((gd l j).name=s)=I) (by simp) λk e b=>?_;simp+contextual only[qz 19,u0,u1,Ca,rk,gw,bh,↓uL];refine⟨λh=>⟨vp h,λa=>?_,by grind [gS,aL]⟩,λh=>?_⟩;rw[aOB,KW (aL h) a b];grind [aOB,KX,C3,bw]
def aPO:FT:=aIc aWX
def bbF{l s Lw K}:=f210 aPO aWX l s Lw K (j:=by simp+contextual only[ij,Nb])
def aW2(l:List xt)(s:ByteArray)(g:L l<4611686018427387904):Ct 246 [sl xt.c l,st s] (·=iv (aYi l s)):=by refine bgG λi f d=>?_;simp only[a0C];refine C7 (L l) (λk=>∀j,j<k->Q ((gd l j).name=s)=I) (by simp) λk e b=>?_;simp+contextual only[qz 19,u0,u1,Ca,rk,gw,bh,↓uL];refine⟨λh=>⟨vp h,λa=>?_,by grind [gS,aL]⟩,λh=>?_⟩;rw[aYi,KW (aL h) a b];grind [aYi,KX,C3,bw]
def aP9:FT:=aIc aW2
def bbK{l s Lw K}:=f210 aP9 aW2 l s Lw K (j:=by simp+contextual only[ij,Nb])
def aXp(n:Int):Ct 271 [iv n] (λr=>isI r):=by refine bhe λs0 b a=>?_;simp+contextual only[a24,u0,u1,aPG,mp,J7,↓uL]
def aSh:FT:=aP7 aXp
def bb7{n Lw K}:=aRM aSh aXp n Lw K
def aWQ(n:Int):Ct 293 [iv n] (λr=>isI r):=by refine bgt λs0 b a=>?_;simp+contextual only[a0e,u0,u1,aPG,mp,J7,↓uL]
def aTZ:FT:=aP7 aWQ
def bby{n Lw K}:=aRM aTZ aWQ n Lw K
def aW6(a b:Int):Ct 275 [iv a,iv b] (·=iv (if a≠0 then a else b)):=by refine bgK λs0 d c=>?_;simp+contextual only[a0S,u0,u1,↓uL];simp_all
def aOi:FT:=lI aW6
def bbO{a b Lw K}:=nq aOi aW6 a b Lw K
def aW5(b:Bool):Ct 278 [bv b] (·=iv (if b then 7 else 0)):=by refine bgJ λs0 c a=>?_;cases b<;>simp[a0R,u1,ah]
def aOS:FT:=lH aW5
def bbN{b Lw K}:=np aOS aW5 b Lw K
def aWU(e:vm):Ct 288 [.a e.c] (λr=>isB r):=by refine bgy aN9 λg f b d=>?_;simp+contextual only[a0l,u0,u1,b,gw,aj,aNP,↓uL]
def aT2:FT:=aP7 aWU
def bbC{e Lw K}:=aRM aT2 aWU e Lw K (j:=by simp+contextual only[ij,Nb])
def aWP(n:Int):Ct 178 [iv n] (·= .a (vm.mk 1 n ⟨#[]⟩ []).c):=by refine aDq (bgs λs0 d i=>?_);simp only[a0c];refine mo d λj e f=>?_;have b:bM aR4 alz [(0,iv 1),(1,iv n)]=V (.a [iv 1,iv n,sv [], .l [] U U]):=rfl;simp only[qz 2,qy 4,b,aY,↓uL];refine gN f (by rw[e.1,d];decide) rfl rfl λk h g=>?_;simp only[u0,u1,g,aj,aN,bZ,vw,dA,aNR,List.take_succ_cons,CE,↓uL];exact aQ7 (by rw[aoH];rfl) (by rw[aoH];rfl)
def aQC:FT:=lH aWP
def bbx{n Lw K}:=np aQC aWP n Lw K
def A1(i:lF):List Int:=
 bif Q (i.op=1)||(Q (i.op=6)||(Q (i.op=10)||Q (i.op=27))) then[i.a]
 else bif Q (i.op=2)||Q (i.op=3) then[i.a,i.b]
 else bif Q (i.op=4) then[i.a,i.b,i.k]
 else bif Q (i.op=7) then[i.a,i.k]
 else bif Q (i.op=8)||Q (i.op=26) then[i.b]
 else bif Q (i.op=9) then[i.b,i.k]
 else[]
attribute[local irreducible] aX
def aRU(l:List Int)(r:AV):Prop:=∃t o,r= .l (l.map ci) t o
def rLI{l:List Int}{Y:ae}{t o:Bool}:aE (λr=>aRU l r) Y [.l (l.map ci) t o]=True:=bqJ ⟨rfl,t,o,rfl⟩
def bd0{Y:ae}{t o:Bool}:aE (λr=>aRU [] r) Y [.l [] t o]=True:=bqJ ⟨rfl,t,o,rfl⟩
def aXf(i:lF):Ct 174 [.a i.c] (λr=>aRU (A1 i) r):=by refine bgV rfl λf e b d=>?_;simp only[a1F,u0,u1,b,gw,aj,↓uL];simp only[qz 23,iM,aY,sw,↓uL];simp only[qz 21,qy 4,aI,au,↓uL];simp only[aOe,qz 53,iM,aY,sw,↓uL];simp only[qz 51,qy 6,qy 8,qy 10,aI,au,↓uL];simp only[aOe,qz 95,iM,aY,sw,↓uL];simp only[qz 93,qy 12,qy 14,aI,au,↓uL];simp+contextual (maxSteps:=2000000) only[↓iS,u0,u1,b,gw,aj,a5Y,fi,xA,A1,aNN,aNZ,rLI,bd0,mp,J7,↓uL]
def aRj:FT:=aP7 aXf
def bbX{i Lw K}:=aRM aRj aXf i Lw K (j:=by simp+contextual only[ij,Nb])
def aTp:List Int:=[3,3,3,3,3,4,4,4,4,4,5,5,5,6,6,6,7,7,7,8,9,10,11,12,13,14,14,15,16,16,17,17,18,18,19,20,1,1,2,21,22,23,23]
def aXF:Ct 164 [] (λr=>aRU aTp r):=by refine bhz λs0 c b=>?_;have a:∀R,aVS s0 R=aE R s0 [.l (aTp.map ci) U U]:=λR=>(by kernel_rfl);show aVS s0 _;rw[a];exact⟨rfl,U,U,rfl⟩
def aUt:FT:=BK aXF
def bcm{Lw K}:=al3 aUt aXF Lw K
def aWO(s:ByteArray):Ct 255 [st s] (·= .a (vm.mk 2 0 s []).c):=by refine aDq (bgr λs0 d i=>?_);simp only[a0a];refine mo d λj e f=>?_;have b:bM aR4 alz [(0,iv 2),(2,st s)]=V (.a [iv 2,iv 0,st s, .l [] U U]):=rfl;simp only[qz 2,qy 4,b,aY,↓uL];refine gN f (by rw[e.1,d];decide) rfl rfl λk h g=>?_;simp only[u0,u1,g,aj,aN,bZ,vw,dA,aNR,List.take_succ_cons,CE,↓uL];exact aQ7 (by rw[aoH];rfl) (by rw[aoH];rfl)
def aQB:FT:=lH aWO
def bbw{s Lw K}:=np aQB aWO s Lw K
def aXK:List Int:=[3,3,4,4,5,6,7,8,9,10,11,12,13,14,15,16,18,19,20,21,22,23,2]
def aPY(o:Int):Int:=bif Q (o<6)||Q (28<o) then 0 else gd aXK (o-6).toNat
def aXv(o:Int):Ct 239 [iv o] (·=iv (aPY o)):=by refine bhn λs0 c b=>?_;have a:∀R,aVs (iv o) s0 R=aVt (iv o) R (.l (aXK.map ci) U U) s0:=λR=>(by kernel_rfl);show aVs (iv o) s0 _;rw[a];simp+contextual only[aVt,u0,u1,tf,rk,↓uL];refine⟨(by grind [aPY]),λh=>?_⟩;rw[aPY,h];simp only[cP,NR] at h;rw[eM (by omega)<|by omega];exact⟨⟨by omega,by show o-6<23;omega⟩,rfl⟩
def aUm:FT:=lH aXv
def bcd{o Lw K}:=np aUm aXv o Lw K
def aNF:List asq:=[⟨1,0,⟨#[120]⟩,0,0,⟨#[]⟩⟩,⟨1,0,⟨#[121]⟩,0,1,⟨#[]⟩⟩,⟨2,0,⟨#[118]⟩,0,0,⟨#[]⟩⟩,⟨1,0,⟨#[113]⟩,2,0,⟨#[]⟩⟩,⟨3,0,⟨#[109]⟩,0,0,⟨#[]⟩⟩,⟨3,0,⟨#[110]⟩,0,0,⟨#[]⟩⟩,⟨4,0,⟨#[114]⟩,0,0,⟨#[]⟩⟩,⟨5,0,⟨#[99]⟩,0,0,⟨#[109]⟩⟩,⟨6,0,⟨#[102]⟩,0,0,⟨#[]⟩⟩]
def aWN:Ct 175 [] (·=sl asq.c aNF):=by refine aDq (bgk λs0 d b=>?_);have a:∀R,aUG s0 R=aE R s0 [.l (aNF.map asq.c) U U]:=λR=>(by kernel_rfl);show aUG s0 _;rw[a];exact aQ7 rfl rfl
def aSd:FT:=BJ aWN
def bbv{Lw K}:=al2 aSd aWN Lw K
attribute[local semireducible] aX
def VW(l:List aP)(t:Int)(j:Nat):Nat:=L ((l.take j).filter λe=>Q<|e.aq=t)
theorem aV8{l:List aP}{t:Int}{j:Nat}(h:j<L l):VW l t (j+1)=VW l t j+if(gd l j).aq=t then 1 else 0:=by grind [VW,iJ,bT,a6G]
theorem a6c{l:List aP}{t:Int}{j:Nat}:VW l t j<=j:=gl (fZ _ _) (by simp;omega)
def aOE(l:List aP)(i:Nat)(t n:Int):Prop:=∃j,j<i/\(gd l j).aq=t/\((gd l j).kind=3\/(gd l j).kind=23)/\(VW l t j:Int)=n
def aXy(l:List aP)(i:Nat)(t:Int)(d:List Int)(v:i<=L l/\L l<1000000/\L d<4611686018427387904):Ct 115 [sl aP.c l,iv i,iv t,sl ci d] (λr=>∃b,r=bv b/\(b=U->∀n∈d,aOE l i t n)):=by obtain⟨z,A,B⟩:=v;refine bhq λs0 E y=>?_;simp only[a4p];refine C7 (L d) (λk=>∀j,j<k->aOE l i t (gd d j)) (by simp) λk D q=>?_;simp only[qz 19,aI,u0,u1,↓uL];refine⟨λh=>?_,λh=>⟨U,rfl,λ_=>?_⟩⟩;(focus refine yh (λs:Bool×Nat=>[iv<|VW l t s.2,bv s.1,iv s.2]) 2 i (λs=>s.2<=i/\(s.1=U->aOE l i t (gd d k))) (I,0) ⟨by omega,by simp⟩ ?_;rintro⟨w,j⟩ ⟨C,F⟩;simp only[qz 67,aI,au,u0,u1,↓uL];refine⟨λh=>?_,λh=>⟨(by simp),λe=>?_⟩⟩;(focus have m:j<i:=aL h;have g:j<L l:=(by omega);have f:=aV8 (t:=t) g;have x:=a6c (l:=l) (t:=t) (j:=j);have nx:∀(a b:Bool) (c:Int),c=((VW l t (j+1):Nat):Int)->(b=U->aOE l i t (gd d k))->tI (λs:Bool×Nat=>[iv<|VW l t s.2,bv s.1,iv s.2]) (λs=>s.2<=i/\(s.1=U->aOE l i t (gd d k))) [iv c,bv b,iv ((j+1:Nat):Int)]/\pM 2 i [iv c,bv b,iv ((j+1:Nat):Int)]<pM 2 i [iv<|VW l t j,bv a,iv j]:=λa b c q h=>(by subst q;exact wN (enc:=λs:Bool×Nat=>[iv<|VW l t s.2,bv s.1,iv s.2]) (s:=(a,j)) (s':=(b,j+1)) rfl rfl rfl m ⟨m,h⟩);(cases w<;>simp+contextual only[qz 89,ix,bh,u0,u1,rk,gw,↓uL,jA,jN,qz 87,uO,aNN,aNZ]);(all_goals refine⟨dJ g,λe=>?_,λe=>?_⟩;all_goals rw[fX<|by omega]);simp_all;simp at e;rw[hH e] at f;rw[fX<|by omega];refine⟨dJ<|aL ‹_›,λ_=>dJ g,λ_ _=>dJ g,?_⟩;(cases o:Q ((VW l t j:Int)=gd d k)<;>cases u:Q ((gd l j).kind=3)<;>simp only[aNN,aNZ,qE,xM,ru,Bool.and_false,fh,kN]);simp_all;simp_all;exact nx _ _ _ (by rw[f]) λp=>⟨j,m,e, .inr (by simpa using p),by simpa using o⟩;exact nx _ _ _ (by rw[f]) λp=>⟨j,m,e, .inl (by simpa using u),by simpa using o⟩;simp_all;simp at e;rw[hH e] at f;rw[fX<|by omega];simp_all);grind [gS,aL]);grind [ou,bT,C3,bw]
def aSi:FT:=ER aXy
def bcg{l i t ns Lw K}:=axQ aSi aXy l i t ns Lw K (j:=by simp+contextual only[ij,Int.natCast_inj])
section
variable{Q:o8}{Y:ae}{xs:List AV}
def bd1:(∀r,isB r->Q r)=∀b,Q (bv b):=amt ⟨λh b=>h _ ⟨b,rfl⟩,by rintro h r ⟨b,rfl⟩;exact h b⟩
def a65:(∀r,isI r->Q r)=∀x,Q (iv x):=amt ⟨λh b=>h _ ⟨b,rfl⟩,by rintro h r ⟨b,rfl⟩;exact h b⟩
def bx2:(∀r,aWE r->Q r)=∀x b,Q (.t [iv x,bv b]):=amt ⟨λh x b=>h _ ⟨x,b,rfl⟩,by rintro h r ⟨x,b,rfl⟩;exact h x b⟩
def bd4:(∀r,aQ1 r->Q r)=∀x y,Q (.t [iv x,iv y]):=amt ⟨λh x b=>h _ ⟨x,b,rfl⟩,by rintro h r ⟨x,b,rfl⟩;exact h x b⟩
def bdO{v w:Value}:lo Y xs (.t [.s v, .s w])=True:=by simp[lo,uN,bdZ,wD]
def bxD{α:Type}[Nonempty α]{b:Bool}{P:α->Prop}{f:α->AV}{K:o8}:gB b (λk=>∀x,P x->k (f x)) K=∀x,(b=U->P x)->K (gv b<|f x):=by(cases b);exact amt ⟨λh x _=>h,λh=>h (Classical.choice ‹_›)<|λh=>by cases h⟩;exact amt ⟨λh x a=>h x<|a rfl,λh x a=>h x<|λ_=>a⟩
def bxG{α:Type}[Nonempty α]{b:Bool}{S:Prop}{P:α->Prop}{f:α->AV}{K:o8}:gB b (λk=>S/\∀x,P x->k (f x)) K=((b=U->S)/\∀x,(b=U->P x)->K (gv b<|f x)):=by(cases b);exact amt ⟨λh=>⟨(λh=>by cases h),λx _=>h⟩,λh=>h.2 (Classical.choice ‹_›)<|λh=>by cases h⟩;exact amt ⟨λh=>⟨λ_=>h.1,λx a=>h.2 x<|a rfl⟩,λh=>⟨h.1 rfl,λx a=>h.2 x<|λ_=>a⟩⟩
def bcB{α:Type}[Nonempty α]{b:Bool}{f:α->AV}{K:o8}:gB b (λk=>∀x,k<|f x) K=∀x,K (gv b<|f x):=by(cases b);exact amt ⟨λh x=>h,λh=>h<|Classical.choice ‹_›⟩;rfl
def bcD{α:Type}[Nonempty α]{b:Bool}{S:Prop}{f:α->AV}{K:o8}:gB b (λk=>S/\∀x,k<|f x) K=((b=U->S)/\∀x,K<|gv b<|f x):=by(cases b);exact amt ⟨λh=>⟨(λh=>by cases h),λx=>h⟩,λh=>h.2<|Classical.choice ‹_›⟩;simp[gB,gv]
def bcC{b:Bool}{f:Bool->AV}{K:o8}:gB b (λk=>∀x,k<|f x) K=∀x,K (gv b<|f x):=bcB
def bcE{b:Bool}{S:Prop}{f:Bool->AV}{K:o8}:gB b (λk=>S/\∀x,k<|f x) K=((b=U->S)/\∀x,K<|gv b<|f x):=bcD
def bxC{b:Bool}{f:Int->AV}{K:o8}:gB b (λk=>∀x,k<|f x) K=∀x,K (gv b<|f x):=bcB
def bxF{b:Bool}{S:Prop}{f:Int->AV}{K:o8}:gB b (λk=>S/\∀x,k<|f x) K=((b=U->S)/\∀x,K<|gv b<|f x):=bcD
def bxE{b:Bool}{P:Int->Prop}{f:Int->AV}{K:o8}:gB b (λk=>∀x,P x->k (f x)) K=∀x,(b=U->P x)->K (gv b<|f x):=bxD
def bxH{b:Bool}{S:Prop}{P:Int->Prop}{f:Int->AV}{K:o8}:gB b (λk=>S/\∀x,P x->k (f x)) K=((b=U->S)/\∀x,(b=U->P x)->K (gv b<|f x)):=bxG
def rg:=ai @bcC<|ai @bcE<|ai @bxC<|ai @bxF<|ai @bxE<|@bxH
def rr:=ai @bd1<|ai @a65<|ai @bx2<|ai @bd4<|ai @bdO<|ai @AL<|ai @oJ<|ai @pG<|ai @bdJ<|@bd7
end
def a6n{a:Int}{p:Int->Prop}:(∃k,iv a=iv k/\p k)=p a:=(by simp)
def aRB{a b:ByteArray}:wl .neq 0 [] (st a) (st b)=V (bv<|Q<|a≠b):=by have h:=@alq a b;simp only[wl,zP,df,bE,AV.s.injEq,mV] at h;simp only[wl,zP,df,h,decide_not]
def a7w:dO:=(286,aOT)::(269,aSe)::(237,aSf)::(211,aN3)::(220,aQE)::(279,aQD)::(245,aPO)::(246,aP9)::(271,aSh)::(293,aTZ)::(275,aOi)::(278,aOS)::(288,aT2)::(178,aQC)::(174,aRj)::(164,aUt)::(255,aQB)::(239,aUm)::(175,aSd)::(115,aSi)::apt
def aOh:eJ a7w:=it (nH aXc) (it (aYm aXa)<|it (nH aXg)<|it (nI aXk)<|it (aN0 aXm)<|it (aCb aXd)<|it (aCb aWX)<|it (aCb aW2)<|it (aR6 aXp)<|it (aR6 aWQ)<|it (nI aW6)<|it (nH aW5)<|it (aR6 aWU<|λ_=>by simp only[Cs,aqG,aOW,Bool.and_self])<|it (nH aWP)<|it (aR6 aXf)<|it (bwh aXF)<|it (nH aWO)<|it (nH aXv)<|it (apM aWN)<|it (aM6 aXy)<|Ey)
def aOX:=ai @bbU<|ai @bbS<|ai @bbY<|ai @bb2<|ai @bb4<|ai @bbV<|ai @bbF<|ai @bbK<|ai @bb7<|ai @bby<|ai @bbO<|ai @bbN<|ai @bbC<|ai @bbx<|ai @bbX<|ai @bcm<|ai @bbw<|ai @bcd<|ai @bbv<|ai @bcg<|@Lb
section
attribute[local irreducible] aX
def a9j:=bA 8 []
def a1p a b s0 R:=(.mk _:NF<|zF GG a7w a9j Tryz.f270 [a,b] [] s0<|I3 Tryz.f270 R).p
def bgR{a b:AV}{R:o8}(h:H0 λs0=>a1p a b s0 R):Ct 270 [a,b] R:=z0 a9j aOh Tryz.func270 h
def a9h:=bA 36 []
def aU1 a b c s0 R:=(.mk _:NF<|zF GG a7w a9h Tryz.f272 [a,b,c] [] s0<|I3 Tryz.f272 R).p
def bgP{a b c:AV}{R:o8}(h:H0 λs0=>aU1 a b c s0 R):Ct 272 [a,b,c] R:=z0 a9h aOh Tryz.func272 h
def a14 a b c d R:=(.mk _:NF<|zF GG a7w at1 Tryz.f236 [.u,b,c] [a] d<|I3 Tryz.f236 R).p
def bgZ{c0:List AV}{b c:AV}{R:o8}(l0:L c0=6)(h:H1 31 6 3 c0 λia d=>a14 ia b c d R):Ct 236 [.a c0,b,c] R:=z1 at1 aOh Tryz.func236 l0 h
def a9B:=bA 15 [(3,([1,5],[0])),(6,([1],[0,5]))]
def a2z a b s0 R:=(.mk _:NF<|zF GG a7w a9B Tryz.f210 [a,b] [] s0<|I3 Tryz.f210 R).p
def bg8{a b:AV}{R:o8}(h:H0 λs0=>a2z a b s0 R):Ct 210 [a,b] R:=z0 a9B aOh Tryz.func210 h
def a9P:=bA 18 [(3,([7],[2,3,6])),(10,([40],[2]))]
def a4h a b c R:=(.mk _:NF<|zF GG a7w a9P Tryz.f240 [.u, .u] [a,b] c<|I3 Tryz.f240 R).p
def bho{c0:List AV}{b:List AV}{R:o8}(l0:L c0=6)(l1:L b=4)(h:H2 251 6 2 c0 238 4 3 b λia c d=>a4h ia c d R):Ct 240 [.a c0, .a b] R:=z2 a9P aOh Tryz.func240 l0 l1 h
def a0m a b R:=(.mk _:NF<|zF GG a7w a9j Tryz.f243 [.u] [a] b<|I3 Tryz.f243 R).p
def bgz{c0:List AV}{R:o8}(l0:L c0=6)(h:H1 296 6 1 c0 λia b=>a0m ia b R):Ct 243 [.a c0] R:=z1 a9j aOh Tryz.func243 l0 h
def a85:=bA 26 [(20,([56],[3,7]))]
def a0s a b c d R:=(.mk _:NF<|zF GG a7w a85 Tryz.f289 [.u,b,c] [a] d<|I3 Tryz.f289 R).p
def bgD{c0:List AV}{b c:AV}{R:o8}(l0:L c0=2)(h:H1 197 2 3 c0 λia d=>a0s ia b c d R):Ct 289 [.a c0,b,c] R:=z1 a85 aOh Tryz.func289 l0 h
def a89:=bA 33 [(4,([4,5,6,7,8],[0])),(7,([4,5,6,7],[0,8])),(15,([4,5,6,7],[0,8,9])),(17,([39],[0,4,5,6,7,8,9,36])),(19,([47],[0,4,5,6,7,8,9,36]))]
def a0E a s0 R:=(.mk _:NF<|zF GG a7w a89 Tryz.f216 [a] [] s0<|I3 Tryz.f216 R).p
def bgH{a:AV}{R:o8}(h:H0 λs0=>a0E a s0 R):Ct 216 [a] R:=z0 a89 aOh Tryz.func216 h
def a9d:=bA 29 [(3,([4],[1])),(12,([6],[1])),(21,([8],[1,6,7]))]
def a0T a b R:=(.mk _:NF<|zF GG a7w a9d Tryz.f217 [.u] [a] b<|I3 Tryz.f217 R).p
def bgL{c0:List AV}{R:o8}(l0:L c0=2)(h:H1 197 2 1 c0 λia b=>a0T ia b R):Ct 217 [.a c0] R:=z1 a9d aOh Tryz.func217 l0 h
def a8H:=bA 9 [(4,([3,4],[0]))]
def aYP a s0 R:=(.mk _:NF<|zF GG a7w a8H Tryz.f61 [a] [] s0<|I3 Tryz.f61 R).p
def bgd{a:AV}{R:o8}(h:H0 λs0=>aYP a s0 R):Ct 61 [a] R:=z0 a8H aOh Tryz.func61 h
def aZh b a c R:=(.mk _:NF<|zF GG a7w at1 Tryz.f177 [b, .u] [a] c<|I3 Tryz.f177 R).p
def bgi{c:AV}{b:List AV}{R:o8}(l1:L b=4)(h:H1 259 4 3 b λia d=>aZh c ia d R):Ct 177 [c, .a b] R:=z1 at1 aOh Tryz.func177 l1 h
def aZj c a b d R:=(.mk _:NF<|zF GG a7w at1 Tryz.f254 [c, .u, .u] [a,b] d<|I3 Tryz.f254 R).p
def bgj{d:AV}{b:List AV}{c:List AV}{R:o8}(l1:L b=4)(f:L c=4)(h:H2 259 4 4 b 259 4 5 c λia e g=>aZj d ia e g R):Ct 254 [d, .a b, .a c] R:=z2 at1 aOh Tryz.func254 l1 f h
def a94:=bA 11 [(4,([3,10],[8,9])),(7,([3],[8,9,10]))]
def a5v a b R:=(.mk _:NF<|zF GG a7w a94 Tryz.f208 [.u] [a] b<|I3 Tryz.f208 R).p
def bhE{c0:List AV}{R:o8}(l0:L c0=7)(h:H1 40 7 1 c0 λia b=>a5v ia b R):Ct 208 [.a c0] R:=z1 a94 aOh Tryz.func208 l0 h
end
def ya{a b:AV}:mL (bv U) a b=V a:=rfl
def Aa{a b:AV}:mL (bv I) a b=V b:=rfl
def aXX{P:Int->Prop}{Q:o8}:(∀r,(∃k:Int,r=iv k/\P k)->Q r)=∀k,P k->Q (iv k):=(by grind)
def bd8{a b c d e f g h i j k:AV}:aN (V 11) [a,b,c,d,e,f,g,h,i,j,k]=V (.a [a,b,c,d,e,f,g,h,i,j,k]):=rfl
def rkx{s:aoC}:aN (V 3) (aoC.c s)=V (.a<|aoC.c s):=rfl
def aXb(o a:Int):Ct 270 [iv o,iv a] (λr=>aWE r):=by refine bgR λs0 c b=>?_;simp+contextual only[a1p,u0,u1,aEn,aOX,ar,a6D,QV,mp,J7,↓uL]
def aUb:FT:=aRd aXb
def bbT{o a Lw K}:=aWg aUb aXb o a Lw K
def aW9(o a b:Int):Ct 272 [iv o,iv a,iv b] (λr=>aWE r):=by refine bgP λs0 d c=>?_;simp+contextual only[aU1,u0,u1,aPR,a5N,aP1,aOX,ar,a6D,QV,mp,J7,↓uL,aU1,u5,NR,NA,be8,not_false_iff]
def aUa:FT:=aSb aW9
def bbR{o a b Lw K}:=a6o aUa aW9 o a b Lw K
def aXj(w:vb)(b n:Int):Ct 236 [.a w.c,iv b,iv n] (λr=>isB r):=by refine bgZ rfl λg f d e=>?_;simp+contextual only[a14,u0,u1,d,ix,rk,ar,aOX,aj,DR,aNP,↓uL];grind [dX]
def aSg:FT:=aSb aXj
def bb1{w b n Lw K}:=a6o aSg aXj w b n Lw K
def aXl(l:List lF)(a:Int)(n:L l<1000000):Ct 210 [sl lF.c l,iv a] (λr=>isB r):=by refine bg8 λs0 m i=>?_;simp only[a2z];have nx:∀(a b:Int) (k:Nat),k<L l+1->tI (λs:Int×Nat=>[iv s.1,iv s.2]) (λs=>s.2<=L l+1) [iv b,iv ((k+1:Nat):Int)]/\pM 1 (L l+1) [iv b,iv ((k+1:Nat):Int)]<pM 1 (L l+1) [iv a,iv k]:=λa b k e=>wN (enc:=λs:Int×Nat=>[iv s.1,iv s.2]) (s:=(a,k)) (s':=(b,k+1)) rfl rfl rfl e e;refine yh (λs:Int×Nat=>[iv s.1,iv s.2]) 1 (L l+1) (λs=>s.2<=L l+1) (a,0) (by simp) ?_;rintro⟨f,k⟩ e;simp+contextual only[qz 39,qz 41,qz 19,aOe,aI,au,u0,u1,Ca,rk,gw,ar,aOX,aNP,mp,u5,rr,↓uL];intro j h;have g:k<L l+1:=(by grind);have d:aF (L l) f:=(by simp at h;exact⟨by omega,by omega⟩);rw[fX<|by omega];exact⟨d,λ_=>⟨d,λ_=>⟨d,nx _ _ _ g⟩,λ_=>nx _ _ _ g⟩⟩
def aUe:FT:=pn aXl
def bb3{l a Lw K}:=f211 aUe aXl l a Lw K (j:=by simp+contextual only[ij,Nb])
def a8e(i:lF)(s:pt):Prop:=i.op=7\/i.op=9->aF (L s.li) i.k
def aXw(i:lF)(s:pt)(b:a8e i s):Ct 240 [.a i.c, .a s.c] (λr=>isI r):=by refine bho rfl rfl λj g d e f=>?_;simp+contextual only[qz 63,qz 65,qz 21,qz 23,a4h,aOe,aI,au,u0,u1,d,e,ix,rk,gw,ar,aOX,aj,aPG,mp,J7,u5,rr,↓uL];simp only[NA,NR,sr,aNG,mp,bR];exactλ_ _=>⟨λh=>b<|.inl h,λ_ h=>b<|.inr h⟩
def aUn:FT:=pn aXw
def bce{i s Lw K}:=f211 aUn aXw i s Lw K (j:=by simp+contextual only[ij,Nb])
def aWV(d:asq):Ct 243 [.a d.c] (λr=>isB r):=by refine bgz rfl λg f b e=>?_;simp+contextual only[a0m,u0,u1,b,gw,ar,aOX,aj,aRB,aNP,mp,J7,↓uL]
def aT3:FT:=aP7 aWV
def bbD{d Lw K}:=aRM aT3 aWV d Lw K (j:=by simp+contextual only[ij,Nb])
def slc{Y:ae}{K:o8}{i:Int}{l:List ByteArray}:rV (fo 1 Y (sl cs l) J (V<|iv i) J) K=((0<=i/\i<=L l)/\K (sl cs<|l.take i.toNat)):=aIk λ_=>rfl
def aWZ(p:xr)(t:Int)(s:ByteArray)(e:PrB p):Ct 289 [.a p.c,iv t,st s] (λr=>∃k,r=iv k/\(k=5->0<=aOB p.A7 s)):=by obtain⟨g,j,l⟩:=e;refine bgD rfl λq o b f=>?_;have d:=aTb (p:=λi=>Q<|(gd p.A7 i).name=s) (n:=L p.A7);have m:∀t:Int,L (gd p.ay t.toNat).locs<4611686018427387904:=λt=>(by by_cases h:t.toNat<L p.ay;grind [dB];rw[gd,eI,List.getElem?_eq_none<|by omega];decide);rw[<-aOB] at d;simp+contextual only[qz 123,qz 125,a0s,aOe,aI,au,u0,u1,b,Ca,rk,gw,ar,aOX,aj,a6n,↓uL];simp only[aF];(try simp only[NA,NR,bN,bik,aNS,be8]);grind
def aT5:FT:=vn aWZ
def bbH{p t s Lw K}:=zZ aT5 aWZ p t s Lw K (j:=by simp+contextual only[ij,Nb])
def aW3(l:List asq)(N:L l<1000):Ct 216 [sl asq.c l] (λr=>aQ1 r):=by
 refine bgH λs0 E G=>?_
 simp only[a0E]
 refine jD (α:=Int×Int×Int×Int) (λs i=>[iv s.1,iv s.2.1,iv s.2.2.1,iv s.2.2.2,iv i]) 4 (L l) (λ_ _ Y=>L Y=4096) (s0:=(0,0,0,0)) E ?_
 rintro k ⟨a,b,c,d⟩ Y M e
 have nx:∀(x y z u:Int) Y',L Y'=4096->k<L l->yI (λ(s:Int×Int×Int×Int) i=>[iv s.1,iv s.2.1,iv s.2.2.1,iv s.2.2.2,iv i]) (L l) (λ_ _ Y=>L Y=4096) [iv x,iv y,iv z,iv u,iv<|dq.wrap<|(k:Int)+1] Y'/\gM 4 (L l) [iv x,iv y,iv z,iv u,iv<|dq.wrap<|(k:Int)+1] Y'<gM 4 (L l) [iv a,iv b,iv c,iv d,iv k] Y:=λx y z u Y' m g=>
  dR (mk:=λ(s:Int×Int×Int×Int) i=>[iv s.1,iv s.2.1,iv s.2.2.1,iv s.2.2.2,iv i]) (s:=(a,b,c,d)) (s':=(x,y,z,u)) (λ_ _=>rfl) g (by omega) m
 have t:∀{Y:ae} {K:o8} {i:Int},rV (fo 6 Y (sl asq.c l) J (V<|iv i) J) K=((0<=i/\i<=L l)/\K (sl asq.c<|l.take i.toNat)):=aIk λ_=>rfl
 simp only[qz 25,aI,au,u0,u1,aO2,rr,mp,u5,qz 47,qy 2,Ca,bh,gw,rr,↓uL]
 intro h
 have f:=aL h
 refine⟨dJ f,anu e λv A w F B=>?_⟩
 have o:L A=4096:=w.len.trans e
 have j:(0:Int)<=k/\(k:Int)<=L l:=(by omega)
 have D:=aTb (p:=λi=>Q<|(gd (l.take k) i).name=(gd l k).on) (n:=L<|l.take k)
 have q:L (l.take k)<4611686018427387904:=by simp;omega
 have C:Q (aOB (l.take k) (gd l k).on<0)=I->aF (L l) (aOB (l.take k) (gd l k).on):=λh=>by
  simp only[NR] at h
  have H:L (l.take k)<=L l:=by simp only[List.length_take];omega
  exact⟨by omega,by have:=D.2;rw[aOB];omega⟩
 simp+contextual only[qz 4,t,bh,u0,u1,B,rk,gw,aj,ar,aOX,rr,aO2,mp,u5,qz 45,qz 93,qz 117,qz 119,qz 105,qz 107,qz 95,qz 4,j,Ca,C,nx,f,o,q,aRW,J7,↓uL]
def aT7:FT:=om aW3
def bbL{l Lw K}:=f111 aT7 aW3 l Lw K (j:=by simp+contextual only[ij,Nb])
def aW7(p:xr)(B:PrB p):Ct 217 [.a p.c] (λr=>aQ1 r):=by refine bgL rfl λm t o D=>?_;obtain⟨E,G,y⟩:=B;simp only[a0T];have w:∀{Y:ae} {K:o8} {i:Int},rV (fo 4 Y (sl xt.c p.ay) J (V<|iv i) J) K=((0<=i/\i<=L p.ay)/\K (sl xt.c<|p.ay.take i.toNat)):=aIk λ_=>rfl;refine yV (L p.ay) (λ_ _ Y=>Fx m Y []) (Fx.refl _ _) ?_;rintro k _ Y A F;have e:=F.kq o;have f:L Y=4096:=F.len.trans t;simp only[qz 19,qy 4,aI,au,u0,u1,e,rk,gw,aj,Ca,bh,↓uL];refine⟨λh=>⟨vp h,anu f λv n d x g=>?_⟩,λh=>?_⟩;have b:=aL h;have l:=d.kq e;have q:(0:Int)<=k/\(k:Int)<=L p.ay:=(by omega);have u:L (p.ay.take k)<4611686018427387904:=(by simp;omega);have nx:=dR (mk:=λ(_:Unit) i=>[iv i]) (p:=0) (s:=()) (s':=()) (Inv:=λ_ _ Y=>Fx m Y []) (Y:=Y) (Y':=n) (λ_ _=>rfl) b (by omega)<|F.trans d;simp+contextual only[qz 6,w,bh,u0,u1,l,g,gw,aj,ar,aOX,rr,aO2,mp,u5,q,u,nx,↓uL];omega;refine yV (L p.ay) (λ_ _ Y=>Fx m Y []) F ?_;rintro k _ Y A F;have e:=F.kq o;have f:L Y=4096:=F.len.trans t;simp only[qz 73,qy 8,aI,au,u0,u1,e,rk,gw,aj,Ca,bh,rr,aO2,mp,u5,↓uL];refineλh=>⟨vp h,anu f λv n d x g=>?_⟩;have b:=aL h;have l:=d.kq e;simp+contextual only[qz 10,u0,u1,g,gw,aj,rr,aO2,mp,bR,↓uL];intro H;have C:=y _<|dB b;refine C7 (L (gd p.ay k).locs) (λ_=>True) trivial λj M _=>?_;simp+contextual only[qz 127,aI,au,u0,u1,l,g,rk,gw,aj,ix,bh,ar,aOX,rr,aO2,mp,slc,↓uL];refine⟨λz=>?_,λz=>dR (mk:=λ(_:Unit) i=>[iv i]) (s:=()) (s':=()) (λ_ _=>rfl) b (by omega)<|F.trans d⟩;grind [aL,dJ,gS]
def aT9:FT:=om aW7
def bbP{p Lw K}:=f111 aT9 aW7 p Lw K (j:=by simp+contextual only[ij,Nb])
def cu(x:Int):List AV:=[.s<|.int .u8 x]
def a6E{Y:ae}{K:o8}{i:Int}{l:List Int}:rV (cz 1 Y (sl cu l)<|iv i) K=(aF (L l) i/\K (.q<|cu<|gd l i.toNat)):=aBz λ_=>rfl
theorem bcP{x y:Int}:(cu x=cu y)=(x=y):=by simp[cu]
def aQZ{l l':List Int}:(sl cu l=sl cu l')=(l=l'):=(by grind [kL,bcP])
def aWH(l:List Int)(t:L l<1000):Ct 61 [sl cu l] (λr=>∃cs:List xd,r=sl xd.c cs/\L cs=L l):=by refine aDq (bgd λs0 n o=>?_);simp only[aYP];refine jD (α:=AV) (λa i=>[a,iv i]) 1 (L l) (λk a Y=>L Y=4096/\∃cs:List xd,L cs=k/\bc Y 52 2 a (cs.map xd.c)) (s0:= .l [] U U) ⟨n,[],rfl,bc.nil⟩ ?_;rintro k a Y q ⟨b,cs,m,d⟩;simp+contextual only[qz 25,qy 2,aI,au,u0,u1,a6E,bh,cu,qM,aS6,aPR,a5N,aP1,↓uL];refine⟨λh=>⟨vp h,by decide,vp h,by decide,by decide,?_⟩,λh=>?_⟩;generalize(dq.wrap<|gd l k).tmod 4=x;generalize dq.wrap ((dq.wrap<|(dq.wrap<|gd l k).tdiv 4).tmod 5-1)=y;have e:bM nJ C2 [(0,iv x),(1,iv y)]=V (.a<|xd.c ⟨x,y⟩):=rfl;have f:aX bh6 1 Y [(0, .a<|xd.c ⟨x,y⟩)]=V (.l ([(⟨x,y⟩:xd)].map xd.c) U U,Y):=ua rfl rfl rfl (by decide) rfl (by decide);simp only[e,f,aY,bQ];refine O5 d.p b (by grind [xd.c]) (by grind [xd.c]) (by simp) (by simp;omega) λj Y' g F N=>?_;refine dT (by first|rfl|(simp[eL,okT,tok,lb,cq,Qh,J4,dC,pP,dK];done)) ?_;simp only[u0,u1,↓uL];refine dR (mk:=λa i=>[a,iv i]) (s:=a) (s':=j) (λ_ _=>rfl) (aL h) (by omega) ⟨F.len.trans b,cs++[⟨x,y⟩],by simp[m],by simp_all⟩;exact aOv (Q:=λr=>∃cs:List xd,r=sl xd.c cs/\L cs=L l) (aWs d.p) (by simp[iX,eN]) ⟨cs,rfl,by grind⟩
def aTT:FT:=om aWH
def bbp{l Lw K}:=f111 aTT aWH l Lw K (j:=by simp+contextual only[ij,aQZ])
def aWL(s:ByteArray)(e:vm):Ct 177 [st s, .a e.c] (·= .a (eo.mk 1 0 s ⟨#[]⟩ [] e [] []).c):=by refine aDq (bgi aN9 λp j f o=>?_);simp only[aZh];refine so j λv q d m g=>?_;have i:=d.kq f;have b:bM C8 aon [(0,iv 1),(2,st s),(5, .a e.c)]=V (.a [iv 1,iv 0,st s,sv [], .l [] U U,iv e.op,iv e.n,st e.name,sl vm.c e.l, .l [] U U, .l [] U U]):=(by rw[aoH];rfl);simp only[qz 4,qy 6,u0,u1,i,gw,b,↓uL];refine qr g rfl rfl λr k h=>?_;simp only[u0,u1,h,bd8,↓uL];exact aQ7 (by rw[apT];rfl) (by rw[apT];rfl)
def aPN:FT:=lI aWL
def bbt{s e Lw K}:=nq aPN aWL s e Lw K (j:=by simp+contextual only[ij,Nb])
def aWM(o:Int)(a b:vm):Ct 254 [iv o, .a a.c, .a b.c] (·= .a (vm.mk o 0 ⟨#[]⟩ [a,b]).c):=by refine aDq (bgj aN9 aN9 λt p h i s=>?_);simp only[aZj];refine so p λv g d r j=>?_;have m:=d.kq h;have n:=d.kq i;have f:aX bh5 2 g [(0, .a a.c),(1, .a b.c)]=V (.l [a.c,b.c] U U,g):=(by rw[aoH (x:=a),aoH (x:=b)];kernel_rfl);simp only[qz 6,u0,u1,m,n,gw,f,↓uL];have e:bM aR4 alz [(0,iv o),(3, .l [a.c,b.c] U U)]=V (.a [iv o,iv 0,sv [], .l [a.c,b.c] U U]):=rfl;simp only[qz 8,qy 10,e,aY,↓uL];refine qr j rfl rfl λu q k=>?_;simp only[u0,u1,k,uS,↓uL];exact aQ7 (by rw[aoH (x:= .mk o 0 ⟨#[]⟩ [a,b])];rfl) (by rw[aoH (x:= .mk o 0 ⟨#[]⟩ [a,b])];rfl)
def aRg:FT:=za aWM
def bbu{o a b Lw K}:=KP aRg aWM o a b Lw K (j:=by simp+contextual only[ij,Nb])
def aXG(s:mn)(E:L s.bm.ay<1000):Ct 208 [.a s.c] (λr=>∃l:List Int,r=sl ci l/\L l<=L s.bm.ay):=by refine aDq (bhE rfl λj x t B=>?_);simp only[a5v,u0,u1,t,rk,aj,↓uL];refine jD (α:=AV) (λa i=>[a,iv i]) 1 (L s.bm.ay) (λk a Y=>Fx j Y []/\∃l:List Int,L l<=k/\bc Y 3 1 a (l.map ci)/\∀q∈aA a,bK j q) (s0:= .l [] U U) ⟨Fx.refl _ _,[],by simp,bc.nil,by simp[aA]⟩ ?_;rintro k a Y D ⟨F,l,C,f,w⟩;have d:L Y=4096:=F.len.trans x;simp only[qz 25,aI,au,u0,u1,qz 47,qy 4,ix,bh,rkx,rr,↓uL];refine⟨λh=>⟨vp h,anu d λv n b A u=>?_⟩,λh=>?_⟩;have e:=aL h;have y:L n=4096:=b.len.trans d;simp+contextual only[qz 6,qy 8,qy 10,u0,u1,u,rk,aj,a5Y,qz 45,↓uL];refine⟨λ_=>?_,λ_=>dR (mk:=λa i=>[a,iv i]) (s:=a) (s':=a) (λ_ _=>rfl) e (by omega) ⟨F.trans b,l,by omega,f.fx b (by simp),w⟩⟩;refine qs (f.fx b<|by simp).p rfl (by decide) (by omega) pU pU (by simp) (by simp;omega) λo Y' g m z=>?_;refine dR (mk:=λa i=>[a,iv i]) (s:=a) (s':=o) (λ_ _=>rfl) e (by omega) ⟨((F.trans b).trans m).mono λq G=> .inr ?_,l++[(k:Int)],by simp;omega,by simp_all,by grind [bK.old]⟩;grind [bK.no];exact aOv (Q:=λr=>∃l:List Int,r=sl ci l/\L l<=L s.bm.ay) (aWs f.p) (by simp[iX,eN]) ⟨l,rfl,by omega⟩
def aSk:FT:=om aXG
def bcn{s Lw K}:=f111 aSk aXG s Lw K
def a7x:dO:=(270,aUb)::(272,aUa)::(236,aSg)::(210,aUe)::(240,aUn)::(243,aT3)::(289,aT5)::(216,aT7)::(217,aT9)::(61,aTT)::(177,aPN)::(254,aRg)::(208,aSk)::a7w
def aNH:eJ a7x:=it (aYm aXb) (it (a7W aW9)<|it (a7W aXj)<|it (aN0 aXl)<|it (aN0 aXw)<|it (aR6 aWV)<|it (By aWZ)<|it (rj aW3)<|it (rj aW7)<|it (rj aWH)<|it (nI aWL<|λ_ _=>by simp only[Cs,aqG,aOW,Bool.and_self])<|it (Rs aWM<|λ_ _ _=>by simp only[Cs,aqG,aOW,Bool.and_self])<|it (rj aXG)<|aOh)
def aD6:=ai @bbT<|ai @bbR<|ai @bb1<|ai @bb3<|ai @bce<|ai @bbD<|ai @bbH<|ai @bbL<|ai @bbP<|ai @bbp<|ai @bbt<|ai @bbu<|ai @bcn<|@aOX
section
attribute[local irreducible] aX
def a1l a b c d e f R:=(.mk _:NF<|zF GG a7x a8V Tryz.f276 [.u,b,c,d,e] [a] f<|I3 Tryz.f276 R).p
def bgO{c0:List AV}{b c d e:AV}{R:o8}(l0:L c0=2)(h:H1 197 2 5 c0 λia f=>a1l ia b c d e f R):Ct 276 [.a c0,b,c,d,e] R:=z1 a8V aNH Tryz.func276 l0 h
def a86:=bA 10 [(4,([4,5,6],[1]))]
def a0v a b R:=(.mk _:NF<|zF GG a7x a86 Tryz.f290 [.u] [a] b<|I3 Tryz.f290 R).p
def bgE{c0:List AV}{R:o8}(l0:L c0=4)(h:H1 259 4 1 c0 λia b=>a0v ia b R):Ct 290 [.a c0] R:=z1 a86 aNH Tryz.func290 l0 h
def a0n a s0 R:=(.mk _:NF<|zF GG a7x a8H Tryz.f218 [a] [] s0<|I3 Tryz.f218 R).p
def bgA{a:AV}{R:o8}(h:H0 λs0=>a0n a s0 R):Ct 218 [a] R:=z0 a8H aNH Tryz.func218 h
def a8X:=bA 14 [(7,([4],[1]))]
def aUR b d R(i:cG)(e:fD) a:=Rg->ab 3 b d λj=>aJ b j λk=>aU (gt a 0) k λl=>ah l (ab 3 b d λm=>ao 4 b m (gt a 0) λn=>aw 4 b n λf=>fV (cX 287) b [f] λg=>Qun g λh=>ah h (aE R b [bv I])<|aV (gt a 0) (iv 1) λc=>i [c]/\e [c]<e a)<|aE R b [bv U]
def aSt a b R:=ab 0 b a λt4=>bf t4 (iv 2) λj=>bn j 0 b a λk=>aC j (bf k<|iv 3) λl=>aD j (bv U) l λi=>ab 0 b a λm=>fV aTZ b [m] λn=>ab 3 b a λo=>aJ b o λp=>aO .neq n p λc=>bX c i λq=>bn c 2 b a λr=>aC c (aO .neq r<|sv []) λs=>aC c (rV<|wl .neq 1 [] q s) λt=>aD c (bv U) t λe=>bX e i λu=>bX e u λf=>aT f 2 b a λv=>u6 f (fV aPd b [v]) λw=>u6 f (Qun w) λx=>aC e (aD f x<|bv I) λy=>aD e (bv U) y λg=>bn g 1 b a λz=>aC g (aU z<|iv 0) λA=>aD g (bv U) A λd=>bn d 0 b a λB=>aC d (aO .neq B<|iv 1) λC=>bX d C λh=>aT h 1 b a λD=>u6 h (aO .neq D<|iv 0) λE=>aC d (aD h E<|bv I) λF=>aD d (bv U) F λG=>ah G (aE R b [bv I])<|lR [iv 0]<|aUR b a R
def bgv{c0:List AV}{R:o8}(l0:L c0=4)(h:H1 259 4 1 c0 λia b=>aSt ia b R):Ct 287 [.a c0] R:=z1 a8X aNH Tryz.func287 l0 h
def a9D:=bA 35 [(11,([59],[2,3,6])),(14,([78],[2,3,6])),(19,([98],[2,3,6])),(23,([108],[2,3,6]))]
def a2F b a c R:=(.mk _:NF<|zF GG a7x a9D Tryz.f209 [.u, .u] [b,a] c<|I3 Tryz.f209 R).p
def bha{c0:List AV}{b:List AV}{R:o8}(l0:L c0=6)(l1:L b=6)(h:H2 31 6 2 c0 251 6 3 b λia c d=>a2F ia c d R):Ct 209 [.a c0, .a b] R:=z2 a9D aNH Tryz.func209 l0 l1 h
end
def aW8(p:xr)(t:Int)(s:ByteArray)(a b:Int)(e:PrB p):Ct 276 [.a p.c,iv t,st s,iv a,iv b] (λr=>∃k,r=iv k/\(k=0->a=5->b=5->0<=aOB p.A7 s)):=by refine bgO rfl λh g d f=>?_;simp+contextual only[a1l,u0,u1,d,gw,ar,Fa,aD6,e,aXX,a6n,↓uL];grind
def aOd:FT:=aTQ aW8
def bbQ{p t s a b Lw K}:=bbn aOd aW8 p t s a b Lw K (j:=by simp+contextual only[ij,Nb])
def aW0(e:vm)(f:∃n,C6 n e):Ct 290 [.a e.c] (λr=>aQ1 r):=by obtain⟨n,f⟩:=f;induction n generalizing e with|zero=>exact f.elim|succ n j=>have i:=f.len;refine bgE aN9 λp o g m=>?_;simp only[a0v];refine yh (λs:Int×Int×Nat=>[iv s.1,iv s.2.1,iv s.2.2]) 2 (L e.l) (λ_=>True) (1,0,0) trivial ?_;rintro⟨a,b,k⟩ _;simp only[qz 25,aI,au,u0,u1,g,gw,aj,Ca,bh,rr,jM,kU,jt,Fa,aO2,mp,u5,↓uL];intro h;have d:=aL h;refine⟨dJ d,aPW (j _<|f.2 _<|dB d) (aV2 a6h) ?_⟩;rintro r ⟨x,y,rfl⟩;simp only[u0,u1,rr,aRW,bR];exact wN (enc:=λs:Int×Int×Nat=>[iv s.1,iv s.2.1,iv s.2.2]) (s:=(a,b,k)) (s':=(_,_,k+1)) (by rw[fX<|by omega]) rfl rfl d trivial
def aT6:FT:=om aW0
def bbI{e Lw K}:=f111 aT6 aW0 e Lw K (j:=by simp+contextual only[ij,Nb])
def aWW(l:List eo)(d:∃n,shL n 8 l):Ct 218 [sl eo.c l] (λr=>isI r):=by obtain⟨n,d⟩:=d;induction n using Nat.strongRecOn generalizing l with|ind n f=>obtain⟨j,g⟩:=d;refine bgA λs0 o i=>?_;simp only[a0n,u0,u1,↓uL];refine yh (λs:Int×Nat=>[iv s.1,iv s.2]) 1 (L l) (λ_=>True) (L l,0) trivial ?_;rintro⟨a,k⟩ _;simp only[qz 25,aI,au,u0,u1,Ca,rr,gw,bh,jM,kU,jt,alg,aPG,mp,u5,↓uL];intro h;have b:=aL h;obtain⟨m,rfl,g1,e⟩:=(g _<|dB b).body;refine⟨dJ b,aPW (f m (by omega) _ ⟨by have:=g1.1;omega,g1.2⟩) rfl ?_⟩;rintro r ⟨x,rfl⟩;simp only[u0,u1,AL,bR];refine⟨dJ b,aPW (f m (by omega) _ ⟨by have:=e.1;omega,e.2⟩) rfl ?_⟩;rintro r ⟨y,rfl⟩;simp only[u0,u1,AL,bR];exact wN (enc:=λs:Int×Nat=>[iv s.1,iv s.2]) (s:=(a,k)) (s':=(_,k+1)) (by rw[fX<|by omega]) rfl rfl b trivial
def aT4:FT:=om aWW
def bbE{l Lw K}:=f111 aT4 aWW l Lw K (j:=by simp+contextual only[ij,Nb])
def aWS(e:vm)(f:∃n,C6 n e):Ct 287 [.a e.c] (λr=>isB r):=by obtain⟨n,f⟩:=f;induction n generalizing e with|zero=>exact f.elim|succ n o=>have m:=f.len;refine bgv aN9 λq u g s=>?_;have d:lR [iv 0] (aUR q (.p (1,1) 0 0) λr=>isB r):=(by refine C7 (L e.l) (λ_=>True) trivial λk t _=>?_;simp only[aUR,aI,au,u0,u1,g,gw,aj,Ca,bh,rr,jM,kU,jt,Fa,aNP,mp,u5,↓uL];intro h;have i:=aL h;refine⟨dJ i,aPW (o _<|f.2 _<|dB i) (aV2 a6h) ?_⟩;rintro r ⟨x,rfl⟩;simp only[u0,u1,AL,bR,mp];grind [gS]);have b:e.op=2\/e.op=3\/(e.op≠2/\e.op≠3):=(by omega);rcases b with b|b|⟨j,b⟩;simp+contextual only[aSt,u0,u1,g,gw,ar,aD6,aj,rr,aRB,aNP,mp,b,aRa,d,ya,Bool.and_self,↓jN,↓uL];simp+contextual only[aSt,u0,u1,g,gw,ar,aD6,aj,rr,aRB,aNP,mp,b,aRa,aPy,Bool.or_true,d,Int.reduceEq,ya,Bool.and_self,↓jA,↓uL];simp+contextual only[aSt,u0,u1,g,gw,ar,aD6,aj,rr,aRB,aNP,mp,j,b,aPy,d,Aa,Bool.and_self,↓jA,↓jN,↓uL]
def aRh:FT:=om aWS
def bbA{e Lw K}:=f111 aRh aWS e Lw K (j:=by simp+contextual only[ij,Nb])
def aXn(w:vb)(i:lF):Ct 209 [.a w.c, .a i.c] (λr=>isB r):=by refine bha rfl rfl λg f b d e=>?_;simp+contextual (maxSteps:=2000000) only[qz 141,qz 143,qz 117,qz 119,qz 87,qz 89,qz 69,qz 71,a2F,aOe,au,u0,u1,b,d,ix,rk,gw,ar,aD6,aj,rr,aNP,DR,mp,J7,↓uL];(try simp only[NA,NR,bN,bik,aNS,be8]);(repeat' (first|apply ai|intro _));all_goals first|omega|trivial
def aUf:FT:=aRd aXn
def bb5{w i Lw K}:=aWg aUf aXn w i Lw K (j:=by simp+contextual only[ij,Nb])
def a7y:dO:=(276,aOd)::(290,aT6)::(218,aT4)::(287,aRh)::(209,aUf)::a7x
def aR1:eJ a7y:=it (bhJ aW8) (it (rj aW0<|λ_=>by simp only[Cs,aqG,aOW,Bool.and_self])<|it (rj aWW<|λ_=>by simp only[Cs,aqG,aOW,Bool.and_self])<|it (rj aWS<|λ_=>by simp only[Cs,aqG,aOW,Bool.and_self])<|it (aYm aXn)<|aNH)
def aRO:=ai @bbQ<|ai @bbI<|ai @bbE<|ai @bbA<|ai @bb5<|@aD6
section
attribute[local irreducible] aX
def a9a:=bA 13 [(2,([7],[1,3,5])),(8,([7,8],[1,3,5]))]
def aUU b d h q R(p:cG)(g:fD) a:=Rg->ab 3 b d λr=>aJ b r λs=>aU (gt a 1) s λc=>fm c (gt a 0) λi=>u6 c (bf i<|iv 0) λj=>aD c j (bv I) λk=>ah k (aw 2 b h λl=>ab 3 b d λm=>ao 4 b m (gt a 1) λn=>aw 4 b n λo=>fV (cX 291) b [l,q,o] λe=>aV (gt a 1) (iv 1) λf=>p [e,f]/\g [e,f]<g a)<|aE R b [gt a 0]
def a0P e a b d R c:=Rg->lR [gt c 0,iv 0] (aUU e a b d R)
def a0Q a b c f(e:cG):=ab 0 a b λd=>bf d (iv 2) λg=>ah g (aw 2 a c λh=>ab 2 a b λi=>fV aOd a [h,f,i,iv 8,iv 1] λj=>e [j]) (bf d (iv 3) λk=>ah k (aw 2 a c λl=>ab 2 a b λm=>fV aOd a [l,f,m,iv 2,iv 2] λn=>e [n])<|e [iv 0])
def a0O b c a d R:=jR 2 (a0P d a b c R)<|a0Q d a b c
def bgI{c0:List AV}{c:AV}{b:List AV}{R:o8}(l0:L c0=2)(e:L b=4)(h:H2 197 2 3 c0 259 4 5 b λia d f=>a0O ia c d f R):Ct 291 [.a c0,c, .a b] R:=z2 a9a aR1 Tryz.func291 l0 e h
def a8Y:=bA 23 []
def aUS a b R:=(.mk _:NF<|zF GG a7y a8Y Tryz.f273 [.u] [a] b<|I3 Tryz.f273 R).p
def bgw{c0:List AV}{R:o8}(l0:L c0=11)(h:H1 261 11 1 c0 λia b=>aUS ia b R):Ct 273 [.a c0] R:=z1 a8Y aR1 Tryz.func273 l0 h
def a8Z:=bA 10 [(3,([3],[0]))]
def a0g a s0 R:=(.mk _:NF<|zF GG a7y a8Z Tryz.f244 [a] [] s0<|I3 Tryz.f244 R).p
def bgx{a:AV}{R:o8}(h:H0 λs0=>a0g a s0 R):Ct 244 [a] R:=z0 a8Z aR1 Tryz.func244 h
def a9F:=bA 30 [(7,([8],[1,3,5,7])),(23,([11],[1,3,5,7,8,10]))]
def a2R b c a d R:=(.mk _:NF<|zF GG a7y a9F Tryz.f168 [.u,c, .u] [b,a] d<|I3 Tryz.f168 R).p
def bhb{c0:List AV}{c:AV}{b:List AV}{R:o8}(l0:L c0=6)(e:L b=2)(h:H2 31 6 3 c0 234 2 5 b λia d f=>a2R ia c d f R):Ct 168 [.a c0,c, .a b] R:=z2 a9F aR1 Tryz.func168 l0 e h
end
def aW4(p:xr)(t:Int)(e:vm)(d:PrB p/\∃n,C6 n e):Ct 291 [.a p.c,iv t, .a e.c] (λr=>isI r):=by obtain⟨j,n,d⟩:=d;induction n generalizing e with|zero=>exact d.elim|succ n o=>have m:=d.len;refine bgI rfl aN9 λq v g i u=>?_;have f:∀x:Int,lR [iv x,iv 0] (aUU q (.p (5,1) 0 0) (.p (3,1) 0 0) (iv t) λr=>isI r):=(by intro x;refine yh (λs:Int×Nat=>[iv s.1,iv s.2]) 1 (L e.l) (λ_=>True) (x,0) trivial ?_;rintro⟨a,k⟩ _;simp+contextual only[aUU,aI,au,u0,u1,g,i,gw,aj,Ca,bh,rr,jM,kU,jt,Fa,aPG,tW,mp,u5,↓uL];intro h;have b:k<L e.l:=(by simp_all);refine⟨dJ b,aPW (o _<|d.2 _<|dB b) (by simp only[Cs,aqG,aOW,Bool.and_self]) ?_⟩;rintro r ⟨y,rfl⟩;simp only[AL,bR];exact wN (enc:=λs:Int×Nat=>[iv s.1,iv s.2]) (s:=(a,k)) (s':=(y,k+1)) (by grind [fX]) rfl rfl b trivial);simp+contextual only[a0O,aOe,a0Q,a0P,aI,au,u0,u1,g,i,gw,aj,aRO,j,aXX,AL,ar,Fa,f,mp,J7,↓uL]
def aT8:FT:=vn aW4
def bbM{p t e Lw K}:=zZ aT8 aW4 p t e Lw K (j:=by simp+contextual only[ij,Nb])
def aX1(n:Nat)(h:∀s,A5 n s->Ct 273 [.a s.c] isB)(l:List eo)(j:L l<=8)(e:∀s∈l,A5 n s):Ct 244 [sl eo.c l] isB:=by refine bgx λs0 f g=>?_;simp only[a0g];refine C7 (L l) (λ_=>True) trivial λk i _=>?_;simp only[qz 19,aI,au,u0,u1,Ca,bh,rr,gw,jM,kU,jt,Fa,aNP,mp,u5,↓uL];intro d;have b:=aL d;refine⟨dJ b,aPW (h _<|e _<|dB b) (aV2 aS7) ?_⟩;rintro r ⟨x,rfl⟩;simp only[u0,u1,AL,bR,mp];grind [gS]
set_option maxHeartbeats 8000000 in
def a7f:∀(n:Nat) (s:eo),A5 n s->Ct 273 [.a s.c] isB:=by intro n;induction n with|zero=>intro s h;exact h.elim|succ n o=>intro s l;have A:=l.at;obtain⟨m,C,g1,q⟩:=l.body;obtain rfl:n=m:=(by omega);refine bgw WV λd B f z=>?_;have hI:Q ((L s.index:Int)=1)=U->∃n,C6 n (gd s.index 0):=(by grind [dB]);have u:s.op=1\/s.op=2\/s.op=3\/s.op=14->∃n,C6 n s.expr:=(by grind);have k:fW (cX 244) [sl eo.c s.body] (lo d [sl eo.c s.body]) (λb=>gR (gP U b) (λg=>g<|AV.p (1,1) 0 10) λt=>gR (gP U b) (λg=>rV (lS J d t) λv=>g v) λe=>gR (gP U b) (λg=>fW (cX 244) [dG d e] (lo d [e]) λv=>g v) λi=>rV (mL b i<|bv I) λj=>aE isB d [j]):=(by refine aPW (aX1 n o _ (by omega) g1.2) rfl ?_;rintro r ⟨x,rfl⟩;(cases x);simp only[u0,AL,Aa,aNP,u1,jN,bR];simp only[u0,u1,AL,bR,jA,f,gw,alg,ya];refine aPW (aX1 n o _ (by omega) q.2) rfl ?_;rintro r ⟨y,rfl⟩;simp only[AL,u1,aNP,bR]);have cs:(Q (s.op<1)||Q (15<s.op))=U\/s.op=1\/s.op=2\/s.op=3\/s.op=4\/s.op=5\/s.op=6\/s.op=7\/s.op=8\/s.op=9\/s.op=10\/s.op=11\/s.op=12\/s.op=13\/s.op=14\/s.op=15:=(by grind);rcases cs with h|h|h|h|h|h|h|h|h|h|h|h|h|h|h|h;simp+contextual only[aUS,u0,u1,f,gw,aj,h,aNP,↓iC,↓uL];trace_state;all_goals(try have w:=u<|by omega);simp+contextual only[aUS,u0,u1,f,rk,gw,ar,Fa,aRO,aj,rr,rg,Ca,Gx,aRB,aNP,h,k,aRa,aPy,Int.reduceLT,Int.reduceEq,Int.reduceLE,be8,btF,bx1,ya,Aa,↓jA,↓jN,Bool.and_self,mp,u5,↓uL];(try simp only[aF,NA,NR,bN,fH,cP,bik,aNS,eH,fK]);simp_all
def a6L(s:eo)(b:∃n,A5 n s):Ct 273 [.a s.c] (λr=>isB r):=by obtain⟨n,b⟩:=b;exact a7f n s b
def a8a:FT:=om a6L
def bvN{s Lw K}:=f111 a8a a6L s Lw K (j:=by simp+contextual only[ij,Nb])
def aWT(l:List eo)(a:∃n,shL n 8 l):Ct 244 [sl eo.c l] (λr=>isB r):=by obtain⟨n,a⟩:=a;exact aX1 n (a7f n) l a.1 a.2
def aT1:FT:=om aWT
def bbB{l Lw K}:=f111 aT1 aWT l Lw K (j:=by simp+contextual only[ij,Nb])
def aYh(c:A2):Prop:=0<=c.li/\c.li<=32/\∀k,k<L c.No->∀j∈A1 (gd c.No k),0<=j/\j<c.li
def aTv{P:Bool->Prop}{Q:o8}:(∀r,(∃b:Bool,r=bv b/\P b)->Q r)=∀b,P b->Q (bv b):=(by grind)
def aPA{a:Bool}{p:Bool->Prop}:(∃k,bv a=bv k/\p k)=p a:=(by simp)
def bd5{l:List Int}{Q:o8}:(∀r,aRU l r->Q r)=∀t o,Q (.l (l.map ci) t o):=QS
def bdN{Y:ae}{x:lF}{r:AV}:lo Y [.a x.c] r=True:=by simp[lo,nA,eB,iR,lF.c]
def aXo(w:vb)(t:Int)(c:A2)(H:L c.No<1000000):Ct 168 [.a w.c,iv t, .a c.c] (λr=>∃b,r=bv b/\(b=U->aYh c)):=by refine bhb rfl rfl λK E z g P=>?_;simp+contextual only[a2R,u0,u1,g,gw,ar,aj,aPA,eE,aNG,mp,↓uL];intro f;refine yV (L c.No) (λk _ Y=>Fx K Y []/\∀u,u<k->∀j∈A1 (gd c.No u),0<=j/\j<c.li) ⟨Fx.refl _ _,by simp⟩ ?_;rintro k _ Y W ⟨F,hI⟩;have p:L Y=4096:=F.len.trans E;have B:=F.kq z;have l:=F.kq g;simp only[qz 43,qy 6,aI,au,u0,u1,l,rk,gw,aj,Ca,bh,aPA,↓uL];refine⟨λh=>⟨vp h,anu p λv O e N A=>?_⟩,λh _=>?_⟩;have q:=aL h;have C:=e.kq B;have m:=e.kq l;simp+contextual only[qz 8,au,u0,u1,C,m,A,ix,rk,gw,ar,Fa,aRO,aj,rr,rg,aPA,bd5,bdN,H,eE,aNG,mp,↓uL];refineλx y _=>⟨(by grind [dX]),λ_ _ X o=>?_⟩;refine C7 (L<|A1<|gd c.No k) (λi=>∀d,d<i->0<=gd (A1<|gd c.No k) d/\gd (A1<|gd c.No k) d<c.li) (by simp) λi T S=>?_;have G:L (A1<|gd c.No k)<=3:=(by grind [A1]);simp only[qz 139,aI,au,u0,u1,gT,tf,rk,gw,m,bh,aj,ar,aRO,rr,aPA,eE,aNG,mp,↓uL];refine⟨(by grind [dJ,aL,gS,dh]),λR=>?_⟩;refine dR (mk:=λ(_:Unit) i=>[iv i]) (s:=()) (s':=()) (λ_ _=>rfl) q (by omega) ⟨F.trans e,a6p hI λj D=>?_⟩;obtain⟨d,M,rfl⟩:=ou D;grind [bT,C3,bw];simp at f;have n:k=L c.No:=(by grind);subst n;exact⟨by omega,by omega,hI⟩
def aUg:FT:=vn aXo
def bb6{w t c Lw K}:=zZ aUg aXo w t c Lw K (j:=by simp+contextual only[ij,Nb])
def a7z:dO:=(291,aT8)::(273,a8a)::(244,aT1)::(168,aUg)::a7y
def aTB:eJ a7z:=it (By aW4<|λ_ _ _=>by simp only[Cs,aqG,aOW,Bool.and_self]) (it (rj a6L<|λ_=>by simp only[Cs,aqG,aOW,Bool.and_self])<|it (rj aWT<|λ_=>by simp only[Cs,aqG,aOW,Bool.and_self])<|it (By aXo)<|aR1)
def aQT:=ai @bbM<|ai @bvN<|ai @bbB<|ai @bb6<|@aRO
section
attribute[local irreducible] aX
def a8W:=bA 27 [(3,([3],[1])),(11,([4],[1])),(18,([6],[1,4,5]))]
def a0f a b R:=(.mk _:NF<|zF GG a7z a8W Tryz.f215 [.u] [a] b<|I3 Tryz.f215 R).p
def bgu{c0:List AV}{R:o8}(l0:L c0=2)(h:H1 197 2 1 c0 λia b=>a0f ia b R):Ct 215 [.a c0] R:=z1 a8W aTB Tryz.func215 l0 h
def a0r b c a d R:=(.mk _:NF<|zF GG a7z a8V Tryz.f277 [.u,c, .u] [b,a] d<|I3 Tryz.f277 R).p
def bgC{c0:List AV}{c:AV}{b:List AV}{R:o8}(l0:L c0=2)(e:L b=4)(h:H2 197 2 3 c0 259 4 5 b λia d f=>a0r ia c d f R):Ct 277 [.a c0,c, .a b] R:=z2 a8V aTB Tryz.func277 l0 e h
def a9p:=bA 13 [(6,([3],[1]))]
def a1N a b R:=(.mk _:NF<|zF GG a7z a9p Tryz.f110 [.u] [a] b<|I3 Tryz.f110 R).p
def bgX{c0:List AV}{R:o8}(l0:L c0=7)(h:H1 135 7 1 c0 λia b=>a1N ia b R):Ct 110 [.a c0] R:=z1 a9p aTB Tryz.func110 l0 h
end
def aWR(p:xr)(u:shP p):Ct 215 [.a p.c] (λr=>isB r):=by obtain⟨⟨A,B,C⟩,D,o⟩:=u;refine bgu rfl λw t e z=>?_;simp only[a0f];refine C7 (L p.A7) (λ_=>True) trivial λk q _=>?_;simp+contextual only[qz 19,aI,au,u0,u1,e,rk,gw,aj,Ca,bh,ar,Fa,aQT,rr,aNP,mp,↓uL];refine⟨λh=>⟨vp h,by grind [gS,aL]⟩,λ_=>?_⟩;refine yV (L p.ay) (λ_ _ Y=>Fx w Y []) (Fx.refl _ _) ?_;rintro k _ Y q F;have n:=F.kq e;have f:L Y=4096:=F.len.trans t;simp only[qz 67,qy 4,qy 6,aI,au,u0,u1,n,rk,gw,aj,Ca,bh,aNP,mp,u5,↓uL];intro h;have d:=aL h;refine⟨dJ d,anu f λv y l x m=>?_⟩;have g:=o _<|dB d;refine C7 (L (gd p.ay k).locs) (λ_=>True) trivial λj E _=>?_;simp+contextual only[qz 109,aI,au,u0,u1,m,rk,gw,aj,ix,bh,ar,aQT,rr,rg,aNP,mp,↓uL];refine⟨λh=>⟨vp h,λ_=>gS (aL h) (by have:=g.1;omega) trivial⟩,λ_=>⟨λ_=>⟨4,g.2⟩,λb _=>dR (mk:=λ(_:Unit) i=>[iv i]) (s:=()) (s':=()) (λ_ _=>rfl) d (by omega)<|F.trans l⟩⟩
def aT0:FT:=om aWR
def bbz{p Lw K}:=f111 aT0 aWR p Lw K (j:=by simp+contextual only[ij,Nb])
def aWY(p:xr)(t:Int)(e:vm)(f:PrB p/\∃n,C6 n e):Ct 277 [.a p.c,iv t, .a e.c] (λr=>isI r):=by refine bgC rfl aN9 λi h b d g=>?_;simp+contextual only[a0r,u0,u1,b,d,gw,ar,Fa,aQT,f,rr,aPG,mp,J7,↓uL]
def aP8:FT:=vn aWY
def bbG{p t e Lw K}:=zZ aP8 aWY p t e Lw K (j:=by simp+contextual only[ij,Nb])
def aPU(c:qt):Prop:=mQ c.aQ=U/\L c.ay=L c.aQ.ay/\∀t∈c.ay,aYh t
def aOc(c:qt):Prop:=L c.ay<1000/\∀t∈c.ay,L t.No<1000000
def aXh(c:qt)(f:aOc c):Ct 110 [.a c.c] (λr=>∃b,r=bv b/\(b=U->aPU c)):=by obtain⟨i,e⟩:=f;refine bgX rfl λp n d g=>?_;simp+contextual only[a1N,u0,u1,d,gw,aj,ar,aQT,rr,aPA,eE,aNG,mp,↓uL];intro o;refine C7 (L c.ay) (λk=>∀j,j<k->aYh (gd c.ay j)) (by simp) λk m l=>?_;simp+contextual only[qz 37,aI,au,u0,u1,d,rk,gw,aj,Ca,bh,ar,Fa,aQT,rr,aTv,aPA,eE,aNG,mp,↓uL];refine⟨λh=>⟨vp h,e _<|dB<|aL h,by grind [gS,aL]⟩,λh _=>⟨?_,?_,?_⟩⟩;simp_all;grind;grind [ou,bT,C3,bw]
def aRk:FT:=om aXh
def bbZ{c Lw K}:=f111 aRk aXh c Lw K (j:=by simp+contextual only[ij,Nb])
def aYb:dO:=(215,aT0)::(277,aP8)::(110,aRk)::a7z
def aTC:eJ aYb:=it (rj aWR) (it (By aWY<|λ_ _ _=>by simp only[Cs,aqG,aOW,Bool.and_self])<|it (rj aXh)<|aTB)
def aQU:=ai @bbz<|ai @bbG<|ai @bbZ<|@aQT
section
attribute[local irreducible] aX
def a9e:=bA 11 [(3,([9],[0,1,2,3]))]
def aUX a b c d s0 R:=(.mk _:NF<|zF GG aYb a9e Tryz.f274 [a,b,c,d] [] s0<|QDb Tryz.f274 R).p
def bfO{a b c d:AV}{s0:ae}{R:be}(h:aUX a b c d s0 R):EB 274 [a,b,c,d] s0 R:=zB a9e aTC Tryz.func274 h
def bgM{a b c d:AV}{s0:ae}{R:be}(e:L s0=4096)(h:aUX a b c d s0 R):EB 274 [a,b,c,d] s0 R:=by refine bfO ?_;exact h
def a9f:=bA 56 [(12,([67],[0,3,5,6,7,8,9,30])),(17,([91],[0,3,5,6,7,8,9,30])),(24,([119],[0,3,5,6,7,8,9,30])),(51,([14],[0,3,5,6]))]
def aUY b a c R:=(.mk _:NF<|zF GG aYb a9f Tryz.f247 [b, .u] [a] c<|QDb Tryz.f247 R).p
def bfP{a b:AV}{s0:ae}{R:be}(h:eV (u4 261 11 s0 3 b) λc d=>aUY a c d R):EB 247 [a,b] s0 R:=zB a9f aTC Tryz.func247 h
def bgN{e:AV}{d:List AV}{s0:ae}{R:be}(i:L s0=4096)(l1:L d=11)(h:∀(b:ae) (c:Nat),Kp s0 b->(∀k,k≠3->aZ b k=aZ s0 k)->(∀x,box s0 (3,c)≠V x)->box b (3,c)=V ⟨261,11,U,U,[d]⟩->aUY e (.p (3,c) 0 0) b R):EB 247 [e, .a d] s0 R:=by refine bfP ?_;refine iN rfl l1 (by decide) (by decide) i λb c l g0 m f=>?_;exact h b c l (λk g=>g0 k g) (λx j=>m x<|(Kp.refl _).keep _ _ j) f
def a5F:=bA 22 [(3,([6],[0,1])),(9,([8],[0,1,6,7])),(16,([8,9],[0,1,6]))]
def aRq a b s0 R:=(.mk _:NF<|zF GGV aYb a5F Tryz.f219 [a,b] [] s0<|QDb Tryz.f219 R).p
def bfN{a b:AV}{s0:ae}{R:be}(h:aRq a b s0 R):EB 219 [a,b] s0 R:=aTc (aBe ready (aQ9 aTC) Tryz.func219 (an:=a5F) (by kernel_rfl)<|aND (show ZB aS GGV aYb a5F Tryz.f219 [a,b] s0 R=(aRq a b s0 R) by kernel_rfl) h)
def a7S{a b:AV}{s0:ae}{R:be}(c:L s0=4096)(h:aRq a b s0 R):EB 219 [a,b] s0 R:=by refine bfN ?_;exact h
end
def aV6{fn:Nat}{xs:List AV}{Y:ae}{d:Nat}{K:be}{P:Value->Prop}(i:uQ.elem fn=U)(h:∃r b,((∃v,r= .s v/\P v)/\Fx Y b [])/\cZ aS GG fn xs Y r b)(g:∀v,P v->K (.s v) Y):cB fn xs Y d K:=by obtain⟨r,b,⟨⟨v,rfl,j⟩,c⟩,f⟩:=h;exact aS2 i ⟨_,b,⟨rfl,c⟩,f⟩<|g v j
section
variable{Y:ae}{e:TypeId}{z:Nat}{a:AV}{aa:List (List AV)}
theorem ixG{i:Int}{K:o8}(d:gm Y e z a aa)(c:aF (L aa) i)(h:∀b m,a= .m b (L aa)->box Y b=V ⟨e,z,U,I,aa++m⟩->K (.p b i.toNat 0)):rV (cz z Y a<|iv i) K:=by have f:=c.1;have g:=c.2;rcases d with⟨rfl,rfl⟩|⟨b,m,rfl,j⟩;grind;grind [cz,rV]
theorem stG{b:Id}{i:Nat}{cs:List AV}{K:ae->Prop}(c:box Y b=V ⟨e,z,U,I,aa⟩)(m:i<L aa)(n:∀r∈aa,L r=z)(k:L cs=z)(l:cs.all eN=U)(h:nrm (eR Y<|.a cs)= .a cs)(hI:eB (.a cs)=[])(g:∀Y',Fx Y Y' [b]->box Y' b=V ⟨e,z,U,I,aa.set i cs⟩->K Y'):sV (aK z Y (.p b i 0)<|.a cs) K:=by have d:aa[i]?=V aa[i]:=(by simp);have j:aa[i].length=z:=(by simp_all);have f:aK z Y (.p b i 0) (.a cs)=V (wr Y b ⟨e,z,U,I,aa.set i cs⟩):=(by simp only[aK,aBG,c,eE,bcV,hI,kills,aRl,h,pW,eY,d];grind);rw[f];exact g _ (wc c)<|lO c
theorem aQz{b:Id}{i j:Nat}{x:AV}{r:List AV}{K:ae->Prop}(c:box Y b=V ⟨e,z,U,I,aa⟩)(h:aa[i]?=V r)(l:j<L r)(g:eY (nrm<|eR Y x)=V [nrm<|eR Y x])(k:eN (nrm<|eR Y x)=U)(hI:eB x=[])(f:∀Y',Fx Y Y' [b]->box Y' b=V ⟨e,z,U,I,aa.set i<|r.set j<|nrm<|eR Y x⟩->K Y'):sV (aK 1 Y (.p b i j) x) K:=by have d:aK 1 Y (.p b i j) x=V (wr Y b ⟨e,z,U,I,aa.set i<|r.set j<|nrm<|eR Y x⟩):=(by simp only[aK,aBG,c,eE,bcV,hI,kills,aRl,pW,g,h,bZ,vw];grind [GP]);rw[d];exact f _ (wc c)<|lO c
end
def bxL{e:TypeId}{z d:Nat}{cs:List AV}{Y:ae}{K:be}(h:L cs=z)(g:0<z)(b:d<L Y)(f:∀v Y',Fx Y Y' []->bK Y (d,v)->box Y' (d,v)=V ⟨e,z,U,U,[cs]⟩->K (.p (d,v) 0 0) Y'):eV (u4 e z Y d<|.a cs) K:=by have c:u4 e z Y d (.a cs)=V (.p (lA Y d) 0 0,put Y d ⟨e,z,U,U,[cs]⟩):=(by grind [u4,eY,vg]);rw[c];exact f _ _ (kH b) (qQ Y d)<|iy b
def gfP{Y:ae}{b:Id}{T e:TypeId}{z ze j d f:Nat}{cs zs:List AV}{a:AV}{aa new:List (List AV)}{t o:Bool}{K:AV->be}(C:box Y b=V ⟨T,z,U,U,[cs]⟩)(H:j<L cs)(A:gm Y e ze a aa)(k:b∉aA a)(P:L zs=ze)(m:0<ze)(E:d<L Y)(O:∀r∈aa,L r=ze)(M:∀r∈new,L r=ze)(w:new≠[])(i:(L aa+L new)*(f+1)<=1099511627776)(D:b.1≠d)(B:∀c Y',box Y' b=V ⟨T,z,U,U,[cs.set j c]⟩->bc Y' e ze c (aa++new)->Fx Y Y' (b::aA a)->(∀q∈aA c,bK Y q/\q.1=d)->K (.p b 0 j) c Y'):eV (cj e zs f Y d a<|.l new t o) λx s=>rV (iQ j s<|.p b 0 0) λy=>sV (aK 1 s y x) (K y x):=by refine qs A P m E O M w i λc Y' g F N=>?_;have h:=F.keep _ _ k C;have G:iQ j Y' (.p b 0 0)=V (.p b 0 j):=(by simp[iQ,h]);simp only[G,aY];refine A0 h g.p.ce H λu n v=>?_;have R:b∉aA c:=(by grind);refine B c u v (by grind [bc.fx]) ((F.trans n).mono λq S=>?_) N;grind
def bfa{α:Type}{l:List α}{x y:α}:(l++[x]).set (L l) y=l++[y]:=by simp
structure Wk(Y:ae)(b:Id)(p:xr)(al:List eo)(n:Nat)(a s t:AV):Prop where
 bx:∃th:Int,box Y b=V ⟨293,6,U,U,[[sl asq.c p.A7,sl xt.c p.ay,iv th,a,s,t]]⟩
 ga:gm Y 261 11 a (al.map eo.c)
 gs:∃l:List ByteArray,gm Y 9 1 s (l.map cs)/\L l<=n
 gt:∃l:List ByteArray,gm Y 9 1 t (l.map cs)/\L l<=n
 la:L al<=6
 le:L Y=4096
 sb:b.1=60
 sa:∀q∈aA a,q.1=42
 ss:∀q∈aA s,q.1=204
 st:∀q∈aA t,q.1=262
section
variable{Y Y':ae}{b:Id}{p:xr}{al:List eo}{n:Nat}{a s t:AV}
theorem Wk.fx{ks:List Id}(W:Wk Y b p al n a s t)(F:Fx Y Y' ks)(d:b∉ks)(e:∀q∈aA a,q∉ks)(f:∀q∈aA s,q∉ks)(h:∀q∈aA t,q∉ks):Wk Y' b p al n a s t:=by obtain⟨o,i⟩:=W.bx;obtain⟨l,g,j⟩:=W.gs;obtain⟨m,c,k⟩:=W.gt;exact⟨⟨o,F.keep _ _ d i⟩,W.ga.fx F e,⟨l,g.fx F f,j⟩,⟨m,c.fx F h,k⟩,W.la,F.len.trans W.le,W.sb,W.sa,W.ss,W.st⟩
theorem Wk.fx0(W:Wk Y b p al n a s t)(F:Fx Y Y' []):Wk Y' b p al n a s t:=(by grind [Wk.fx])
theorem Wk.mono{m:Nat}(W:Wk Y b p al n a s t)(h:n<=m):Wk Y b p al m a s t:=by obtain⟨l,g,e⟩:=W.gs;obtain⟨k,c,d⟩:=W.gt;exact⟨W.bx,W.ga,⟨l,g,by omega⟩,⟨k,c,by omega⟩,W.la,W.le,W.sb,W.sa,W.ss,W.st⟩
theorem ixL{i:Int}{K:o8}{α:Type}[Inhabited α]{f:α->List AV}{l:List α}{z:Nat}{e:TypeId}(d:gm Y e z a<|l.map f)(c:aF (L l) i)(w:∀x,L (f x)=z)(g:∀y,(∀q,lS q Y y=aN q (f<|gd l i.toNat))->(∀j q,rV (iQ j Y y) q=q (match y with| .p b k o=> .p b k (o+j)|y=>y))->K y):rV (cz z Y a<|iv i) K:=by refine ixG d (by grind) λb m v h=>g _ (λq=>?_) (λj q=>?_);have r:=c.1;have u:=c.2;grind [gd,xe,eC,bT,lS,iE];simp[iQ,h,rV]
def bdi(W:Wk Y b p al n a s t)(x y:Int)(q:ByteArray):∃r c,((∃v,r= .s v/\∃u:Bool,v= .bool u)/\Fx Y c [])/\cZ aS GG 274 [.p b 0 0,iv x,iv y,st q] Y r c:=by refine bgM W.le ?_;simp only[aUX];refine yV (L al) (λ_ _ Y'=>Fx Y Y' []) (Fx.refl _ _) ?_;rintro k _ c B F;have e:=W.fx0 F;obtain⟨C,g⟩:=e.bx;have j:∀u Y',Fx Y Y' []->fe (λr c=>(∃v,r= .s v/\∃u:Bool,v= .bool u)/\Fx Y c []) Y' [bv u]:=λu Y' d=>⟨⟨_,rfl,u,rfl⟩,d⟩;simp only[qz 19,qy 2,aI,au,oo g,u0,u1,g,gw,aj,e.ga.ln,bJ,↓uL];refine⟨λh=>?_,λ_=>j _ _ F⟩;have f:=aL h;refine ixL e.ga (dJ f) (λ_=>WV) λD o _=>?_;simp only[o,bh,gw,aY];refine aRA rfl WV (by decide) (by rw[e.le];decide) λv A l z m=>?_;have d:=F.trans l;simp+contextual only[qz 4,au,u0,u1,m,gw,aj,j _ _ d,mp,bR,↓uL];have w:=W.la;exactλ_=>dR (mk:=λ(_:Unit) i=>[iv i]) (s:=()) (s':=()) (λ_ _=>rfl) f (by omega) d
theorem aRE(W:Wk Y b p al n a s t){x y:Int}{c:ByteArray}{d:Nat}{K:be}(e:∀u:Bool,K (bv u) Y):cB 274 [.p b 0 0,iv x,iv y,st c] Y d K:=aV6 rfl (bdi W x y c) (by simp_all)
def aPr(Y:ae)(b:Id)(p:xr)(al:List eo)(n:Nat)(a s t:AV)(r:AV)(c:ae):Prop:=∃(e:Int) (s' d:AV),r=iv e/\Wk c b p al (n+1) a s' d/\Fx Y c (b::(aA s++aA t))/\(∀q∈aA s',q∈aA s\/bK Y q)/\∀q∈aA d,q∈aA t\/bK Y q
theorem aPr.no(W:Wk Y b p al n a s t)(F:Fx Y Y' [])(e:Int):aPr Y b p al n a s t (iv e) Y':=⟨e,s,t,rfl,(W.fx0 F).mono (by omega),F.mono (by simp),λ_ h=> .inl h,λ_ h=> .inl h⟩
def bd6{Q:o8}:(∀r,(∃k:Int,r=iv k)->Q r)=∀k,Q (iv k):=a65
def a52{x:ByteArray}:aX C9 1 Y [(0,st x)]=V (.l ([x].map cs) U U,Y):=iz
set_option maxHeartbeats 8000000 in
theorem bdl(W:Wk Y b p al n a s t)(O:PrB p){m:Nat}{x:eo}(hx:A5 m x)(hn:n<100000):∃r Y1,aPr Y b p al n a s t r Y1/\cZ aS GG 247 [.p b 0 0, .a x.c] Y r Y1:=by have hw:=W;have ha:=hx.at;obtain⟨b1,B⟩:=b;obtain rfl:b1=60:=W.sb;refine bgN W.le WV λs2 v3 K2 a0 nf2 b3=>?_;have F2:Fx Y s2 []:=K2.fx [];have T:=W.fx0 F2;obtain⟨th,D⟩:=T.bx;have rp:∀{l:List AV},aN (V 2) (sl asq.c p.A7::sl xt.c p.ay::l)=V (.a p.c):=rfl;simp only[aUY,qy 4,oo D,u0,u1,D,rp,gw,aj,↓uL];refine anu T.le λv5 A E aQ b5=>?_;have f:=T.fx0 E;have X:=E.kq b3;have F:=F2.trans E;obtain⟨th,D⟩:=f.bx;have aZ:cO A (.p (60,B) 0 0)=V (.p (60,B) 0 0):=oo D;obtain⟨ls,N,aX⟩:=f.gs;obtain⟨lt,H,aY⟩:=f.gt;have aJ:dG A s=sl Ab.cs ls:=N.ar;have aK:dG A t=sl Ab.cs lt:=H.ar;refine dT (by first|rfl|(simp[eL,okT,tok,lb,cq,Qh,J4,dC,pP,dK];done)) ?_;refine aRE f λtx=>?_;simp only[qz 8,↓uL];refine aRE f λaR=>?_;simp only[qz 10,↓uL];refine aRE f λlp=>?_;have dn:∀e:Int,fe (aPr Y (60,B) p al n a s t) A [iv e]:=λe=>aPr.no W F e;have hI:∀y∈x.index,∃n,C6 n y:=(by grind);have hX:x.op=1\/x.op=2\/x.op=3\/x.op=14->∃n,C6 n x.expr:=(by grind);have an:=aTb (p:=λi=>Q<|(gd p.A7 i).name=x.name) (n:=L p.A7);have ah:(x.op=1\/x.op=2\/x.op=3\/x.op=4\/x.op=5\/x.op=6\/x.op=7\/x.op=8\/x.op=9\/x.op=10\/x.op=11\/x.op=12\/x.op=13\/x.op=14)\/(x.op≠1/\x.op≠2/\x.op≠3/\x.op≠4/\x.op≠5/\x.op≠6/\x.op≠7/\x.op≠8/\x.op≠9/\x.op≠10/\x.op≠11/\x.op≠12/\x.op≠13/\x.op≠14):=(by omega);have aM:∀(i j:Int) (d:Nat) (k:Int),gF (!tx) (λk=>cB 274 [AV.p (60,B) 0 0,iv i,iv j,st x.name] A d λax av=>k ax av) A λaz C=>rV (mL (bv tx) (bv U) az) λR=>fW aOS [dG C R] (lo C [R]) λS=>fW aOi [AV.s<|Value.int dq k,dG C S] (lo C [iv k,S]) λaB=>fe (aPr Y (60,B) p al n a s t) C [aB]:=(by intro i j d k;(cases tx);simp only[kN,gF,aNN];refine aRE f λu=>?_;simp only[u0,ar,aQU,dn,J7];simp only[gF,fh,aNZ,ya,u0,ar,aQU,dn,J7]);simp only[qz 12,u0,u1,X,gw,aj,↓uL];rcases ah with(h|h|h|h|h|h|h|h|h|h|h|h|h|h)|⟨g1,g2,g3,g4,g5,g6,g7,g8,g9,aT,aU,z,aV,aW⟩;(all_goals(try have am:=hX<|by omega);simp+contextual only[qz 309,qy 26,qz 311,qz 147,qy 20,qz 149,qz 105,qz 107,qz 75,qz 77,aOe,aI,au,u0,u1,rk,gw,ar,Fa,aQU,aj,rr,Ca,Gx, *,aRa,aPy,Int.reduceEq,be8,↓iC,↓iB,aXX,bd6,mp,u5,eE,sr,aNG,aNU,↓uL]);intro h0 k;have:0<L x.index:=(by grind);exact⟨⟨by omega,by omega⟩,hI _<|dB this⟩;(any_goals intro k hk h0;have ap:k=0:=(by simp_all);refine⟨by have:=O.1;omega,⟨hk ap,an.2⟩,aRE f λu=>?_⟩;cases tx<;>cases u<;>simp+contextual only[qz 18,u0,u1,X,gw,aj,ar,aQU,dn,ya,Aa,jA,jN,J7,↓uL]);intro k hk;refine⟨by have:=O.2.1;omega,λ_=>⟨by omega,λ_=>?_⟩⟩;simp only[a52,bQ];refine O5 N f.le oX oX (by simp) (by simp;omega) λs' aq z o af=>?_;have w:=o.keep _ _ (λg=>by have:=f.ss _ g;simp at this) D;simp only[qz 22,oo w,u0,u1,w,aj,↓uL];refine A0 w z.p.ce (by simp) λP v G=>?_;refine dT (by first|rfl|(simp[eL,okT,tok,lb,cq,Qh,J4,dC,pP,dK];done)) ?_;have M:∀q∈aA s',q∉[((60,B):Id)]:=(by grind);refine⟨0,s',t,rfl,⟨⟨th,G⟩,(f.ga.fx o<|λq g K=>by grind [Wk.sa,Wk.ss]).fx v (λq g e=>by grind [Wk.sa]),⟨ls++[x.name],by rw[dg];exact z.p.fx v M,by simp;omega⟩,⟨lt,(H.fx o<|λq g K=>by grind [Wk.st,Wk.ss]).fx v (λq g e=>by grind [Wk.st]),by omega⟩,f.la,v.len.trans<|o.len.trans f.le,rfl,f.sa,(by grind),f.st⟩,((F.trans o).trans v).mono<|λq g=> .inl ?_,(by grind [bK.old]),λq g=> .inl g⟩;grind;intro k _;have:=O.2.1;omega;(focus refineλk=>⟨λ_=>by omega,λ_=>?_,λ_=>?_⟩;all_goals simp only[a52,bQ];refine O5 H f.le oX oX (by simp) (by simp;omega) λt' aq z o af=>?_;have w:=o.keep _ _ (λg=>by have:=f.st _ g;simp at this) D;have Z:=o.keep _ _ (λg=>by have:=f.st _ g;simp at this) X;have d5:=o.keep _ _ (λg=>by have:=f.st _ g;simp at this) b5;simp only[qz 28,oo w,u0,u1,w,aj,↓uL];refine A0 w z.p.ce (by simp) λP v G=>?_;have Z:=v.kq Z;have d5:=v.kq d5;refine dT (by first|rfl|(simp[eL,okT,tok,lb,cq,Qh,J4,dC,pP,dK];done)) ?_;have M:∀q∈aA t',q∉[((60,B):Id)]:=(by grind);have ak:∀e:Int,aPr Y (60,B) p al n a s t (iv e) P:=(by intro e;refine⟨e,s,t',rfl,⟨⟨th,G⟩,(f.ga.fx o<|λq g K=>by grind [Wk.sa,Wk.st]).fx v (λq g e=>by grind [Wk.sa]),⟨ls,(N.fx o<|λq g K=>by grind [Wk.ss,Wk.st]).fx v (λq g e=>by grind [Wk.ss]),by omega⟩,⟨lt++[x.name],by rw[dg];exact z.p.fx v M,by simp;omega⟩,f.la,v.len.trans<|o.len.trans f.le,rfl,f.sa,f.ss,by grind⟩,((F.trans o).trans v).mono<|λq g=> .inl ?_,λq g=> .inl g,by grind [bK.old]⟩;grind);simp only[u0,u1,Z,d5,gw,aj,ar,Fa,aQU,O,am,rr,J7,↓uL];exactλ_=>ak _)
theorem baX(W:Wk Y b p al n a s t)(h:PrB p){m:Nat}{x:eo}(j:A5 m x)(i:n<100000){d:Nat}{K:be}(v:∀(e:Int) (s' g:AV) f,Wk f b p al (n+1) a s' g->Fx Y f (b::(aA s++aA t))->(∀q∈aA s',q∈aA s\/bK Y q)->(∀q∈aA g,q∈aA t\/bK Y q)->K (iv e) f):cB 247 [.p b 0 0, .a x.c] Y d K:=by refine jH rfl (bdl W h j i) ?_;rintro r f ⟨e,s',g,rfl,k,l,o,u⟩;grind [Fx.len]
def bS:Nat->Nat|0=>0|m+1=>1+8*bS m
def aR9(Y:ae)(b:Id)(p:xr)(al:List eo)(n:Nat)(a s t:AV)(r:AV)(c:ae):Prop:=∃(e l:Int) (d s' f:AV),r= .t [iv e,iv l]/\Wk c b p al n d s' f/\Fx Y c (b::(aA a++(aA s++aA t)))/\(∀q∈aA d,q∈aA a\/bK Y q)/\(∀q∈aA s',q∈aA s\/bK Y q)/\∀q∈aA f,q∈aA t\/bK Y q
theorem bc8(hB:PrB p):∀(m:Nat) {Y:ae} {al:List eo} {n:Nat} {a s t:AV} {l:List eo},Wk Y b p al n a s t->shL m 8 l->n+L l*bS m<100000->
  ∃r Y1,aR9 Y b p al (n+L l*bS m) a s t r Y1/\cZ aS GG 219 [.p b 0 0,sl eo.c l] Y r Y1:=by
 intro m
 induction m with
 |zero=>
  intro Y al n a s t l W hs hn
  have:l=[]:=List.eq_nil_iff_forall_not_mem.2 λx hx=>hs.2 x hx
  subst this
  refine a7S W.le ?_
  simp only[aRq]
  refine yV 0 (λ_ _ Y'=>Y'=Y) rfl ?_
  rintro k _ Y1 hk rfl
  simp only[qz 19,qy 2,aI,au,u0,u1,vw,↓uL]
  refine⟨λh=>by simp at h;omega,λ_=>⟨0,0,a,s,t,rfl,W.mono (by omega),Fx.refl _ _,λ_ h=> .inl h,λ_ h=> .inl h,λ_ h=> .inl h⟩⟩
 |succ m ih=>
  intro Y al n a s t l W hs hn
  obtain⟨b1,g⟩:=b
  obtain rfl:b1=60:=W.sb
  refine a7S W.le ?_
  simp only[aRq]
  refine yV (L l) (λk _ Y'=>∃D s' F,Wk Y' (60,g) p al (n+k*bS (m+1)) D s' F/\Fx Y Y' ((60,g)::(aA a++(aA s++aA t)))/\(∀q∈aA D,q∈aA a\/bK Y q)/\(∀q∈aA s',q∈aA s\/bK Y q)/\∀q∈aA F,q∈aA t\/bK Y q) (by grind [Fx.refl]) ?_
  rintro k _ Y1 hk ⟨a1,s1,t1,W1,F1,i1,i2,i3⟩
  have cc:k*bS (m+1)<=L l*bS (m+1):=qo _ hk
  have aO:∀(e ln:Int) (D s' F:AV) Y',Wk Y' (60,g) p al (n+L l*bS (m+1)) D s' F->Fx Y Y' ((60,g)::(aA a++(aA s++aA t)))->(∀q∈aA D,q∈aA a\/bK Y q)->(∀q∈aA s',q∈aA s\/bK Y q)->(∀q∈aA F,q∈aA t\/bK Y q)->fe (aR9 Y (60,g) p al (n+L l*bS (m+1)) a s t) Y' [iv e,iv ln]:=λe ln D s' F Y' h1 h2 h3 h4 h5=>⟨e,ln,D,s',F,rfl,h1,h2,h3,h4,h5⟩
  simp only[qz 19,qy 2,aI,au,u0,u1,Ca,bh,rr,gw,↓uL]
  refine⟨λh=>⟨vp h,aRA rfl WV (by decide) (by rw[W1.le];decide) λv s2 F2 N2 aM=>?_⟩,by grind⟩
  have ao:=aL h
  have W2:=W1.fx0 F2
  have hx:=hs.2 _<|dB ao
  obtain⟨m',cq,g1,g2⟩:=hx.body
  obtain rfl:m=m':=by omega
  have bF:n+k*bS (m+1)+(1+8*bS m)<=n+L l*bS (m+1):=by
   have h9:(k+1)*bS (m+1)<=L l*bS (m+1):=qo _ ao
   grind [tN,bS]
  have n7:∀{D s' F:AV} {Y':ae} {bk:List eo} {n':Nat},Wk Y' (60,g) p bk n' D s' F->∀(v:Nat),((7,v):Id)∉((60,g):Id)::(aA D++(aA s'++aA F)):=λW v o=>by
   simp only[eW,dF,iK] at o
   rcases o with h|h|h|h
   ·omega
   ·have:=W.sa _ h;simp at this
   ·have:=W.ss _ h;simp at this
   ·have:=W.st _ h;simp at this
  generalize cs:gd l k=x at*
  simp only[qz 4,u0,u1,aM,gw,↓uL]
  refine baX W2 hB hx (by omega) λe s3 t3 Y3 z F3 j2 j3=>?_
  have b3:=F3.keep _ _ (λo=>n7 W2 v<|by simp only[eW,dF] at o⊢;rcases o with h|h|h;exact .inl h;exact .inr<|.inr<|.inl h;exact .inr<|.inr<|.inr h) aM
  have Z:Fx Y Y3 ((60,g)::(aA a++(aA s++aA t))):=((F1.trans F2).trans F3).mono (by grind [bK.no])
  have aR:∀q∈aA s3,q∈aA s\/bK Y q:=(by grind [bK.old])
  have aT:∀q∈aA t3,q∈aA t\/bK Y q:=(by grind [bK.old])
  obtain⟨th,ah⟩:=z.bx
  have bp:=z.la
  have ew:dq.wrap ((L al:Int)+1)=((L al+1:Nat):Int):=fX (by omega)
  simp+contextual only[qz 6,aOe,qz 59,qz 57,qy 8,aI,au,oo ah,u0,u1,ah,yr,C5,yd,z.ga.ln,bJ,b3,gw,aj,ew,Int.reduceEq,be8,btF,aRa,↓iC,↓uL]
  have ac:∀(e ln:Int),fe (aR9 Y (60,g) p al (n+L l*bS (m+1)) a s t) Y3 [iv e,iv ln]:=λe ln=>aO e ln _ _ _ _ (z.mono<|by omega) Z i1 aR aT
  refine⟨λ_=>ac _ _,λh6=>⟨λ_=>ac _ _,λ_=>?_⟩⟩
  have cp:L al+1<=6:=by grind
  have bs:aX aOl 1 Y3 [(0,.a [iv 0,iv 0,sv [],sv [],.l [] U U,iv 0,iv 0,sv [],.l [] U U,.l [] U U,.l [] U U])]=V (.l [aOl] U U,Y3):=by kernel_rfl
  simp only[bs,bQ]
  refine O5 z.ga z.le (qW λ_=>WV) (by simp) (by simp) (by simp;omega) λa4 Y4 g4 F4 N4=>?_
  rcases g4 with⟨h8,_⟩|⟨q,bo,o⟩
  ·simp at h8
  subst bo
  have aP:q.1=42:=(N4 q<|by simp[aA]).2
  have bw:=(N4 q<|by simp[aA]).1
  obtain⟨q1,q2⟩:=q
  simp only at aP
  subst aP
  have na:∀{u:Nat} {r:Nat},r≠42->((r,u):Id)∉aA a1:=λj o=>j<|z.sa _ o
  have b4:=F4.keep _ _ (na<|by decide) b3
  have bq:=F4.keep _ _ (na<|by decide) ah
  have aC:L (al.map eo.c++[aOl])=L al+1:=by simp
  have bt:∀{K:o8},K (.p (42,q2) (L al) 0)->rV (cz 11 Y4 (.m (42,q2)<|L<|al.map eo.c++[aOl])<|iv (L al:Int)) K:=λ{K} hK=>by
   simp only[cz,Int.natCast_nonneg,aNR,o,qd,bh,aC,Nat.lt_succ_self,J7,rV]
   exact hK
  simp only[qz 10,↓uL]
  refine bt ?_
  refine stG o (by simp) (by intro r j;simp only[dF,dN,cE] at j;rcases j with⟨y,_,rfl⟩|rfl;exact WV;rfl) WV (by rw[apT];rfl) (by rw[apT];rfl) (by rw[apT];rfl) λY5 F5 aQ=>?_
  have a2:(al.map eo.c++[aOl]).set (L al) (eo.c x)=(al++[x]).map eo.c:=by
   have:=bfa (l:=al.map eo.c) (x:=aOl) (y:=eo.c x)
   rw[bJ] at this
   rw[this];simp
  rw[a2] at aQ
  have b5:=F5.kq b4
  have T:=F5.kq bq
  simp only[qz 12,oo T,u0,u1,T,aj,↓uL]
  refine A0 T rfl (by simp) λY6 F6 br=>?_
  have b6:=F6.kq b5
  have cr:=F6.kq aQ
  have bv:J4 (.a x.c)=[]:=by rw[apT];rfl
  refine dT (by simp only[lbV,aBG,T,o,aNR,eE,bcV,Cz,RN,bv];simp[eL,lb,J4,dC,dK]) ?_
  have aa:Fx Y3 Y6 (aA a1++[(60,g)]):=((F4.trans F5).trans F6).mono λr j=>by
   simp only[dF,cE] at j⊢
   grind [bK.no]
  have ba:Fx Y Y6 ((60,g)::(aA a++(aA s++aA t))):=(Z.trans aa).mono λr j=>by
   rcases dF.1 j with h|h
   ·exact .inl h
   ·rcases dF.1 h with h|h
    ·rcases i1 r h with h|h
     ·grind
     ·exact .inr h.no
    grind
  have aN:∀r:Id,r.1≠42->r.1≠60->r∉aA a1++[((60,g):Id)]:=(by grind)
  obtain⟨ls,gs,an⟩:=z.gs
  obtain⟨lt,ag,S⟩:=z.gt
  have W6:Wk Y6 (60,g) p (al++[x]) (n+k*bS (m+1)+1) (.m (42,q2)<|L<|al.map eo.c++[aOl]) s3 t3:=by
   refine⟨⟨th,br⟩, .inr ⟨(42,q2),[],by simp,by grind⟩,⟨ls,gs.fx aa<|λr j=>aN r (by grind [Wk.ss])<|by grind [Wk.ss],an⟩,⟨lt,ag.fx aa<|λr j=>aN r (by grind [Wk.st])<|by grind [Wk.st],S⟩,by simp;omega,F6.len.trans<|F5.len.trans<|F4.len.trans z.le,rfl,by simp[aA],z.ss,z.st⟩
  have a5:bK Y (42,q2):=bw.old Z
  have ad:∀{B:ae} {N:Nat} {M E G:AV} {l':List eo} {d:Nat} {K:be},Wk B (60,g) p (al++[x]) N M E G->shL m 4 l'->N<=n+k*bS (m+1)+(1+4*bS m)->Fx Y B ((60,g)::(aA a++(aA s++aA t)))->(∀q∈aA M,q∈aA a\/bK Y q)->(∀q∈aA E,q∈aA s\/bK Y q)->(∀q∈aA G,q∈aA t\/bK Y q)->
    (∀(e ln:Int) (H s9 t9:AV) (C:ae),Wk C (60,g) p (al++[x]) (N+4*bS m) H s9 t9->Fx B C ((60,g)::(aA M++(aA E++aA G)))->Fx Y C ((60,g)::(aA a++(aA s++aA t)))->(∀q∈aA H,q∈aA a\/bK Y q)->(∀q∈aA s9,q∈aA s\/bK Y q)->(∀q∈aA t9,q∈aA t\/bK Y q)->K (.t [iv e,iv ln]) C)->cB 219 [.p (60,g) 0 0,sl eo.c l'] B d K:=by
   intro B N M E G l' d K A am hN X aw O P hK
   have h4:L l'*bS m<=4*bS m:=qo _ am.1
   refine jH rfl (ih A ⟨by have:=am.1;omega,am.2⟩<|by omega) ?_
   rintro r C ⟨e,ln,H,s9,t9,rfl,R,w,v1,v2,v3⟩
   refine⟨w.len,hK e ln H s9 t9 C (R.mono<|by omega) w ((X.trans w).mono λr j=>?_) (λq o=>(v1 q o).elim (aw q) λh=> .inr<|h.old X) (λq o=>(v2 q o).elim (O q) λh=> .inr<|h.old X)<|λq o=>(v3 q o).elim (P q) λh=> .inr<|h.old X⟩
   rcases dF.1 j with h|h
   ·exact .inl h
   ·simp only[eW,dF] at h⊢
    rcases h with h|h|h|h
    ·grind
    ·exact(aw r h).elim (by grind) λh=> .inr h.no
    ·exact(O r h).elim (by grind) λh=> .inr h.no
    ·exact(P r h).elim (by grind) λh=> .inr h.no
  simp only[u0,u1,b6,gw,aj,↓uL]
  refine ad W6 g1 (by omega) ba (by simp[aA];exact .inr a5) aR aT λe' ln H s9 t9 C R G9 w v1 v2 v3=>?_
  have b9:=G9.keep _ _ (n7 W6 v) b6
  simp only[qz 16,rr,aY,↓uL]
  refine bjf (λf=>∀(e ln:Int) {B:ae} {N:Nat} {M E G:AV},Wk B (60,g) p (al++[x]) N M E G->N<=n+k*bS (m+1)+(1+8*bS m)->Fx Y B ((60,g)::(aA a++(aA s++aA t)))->(∀q∈aA M,q∈aA a\/bK Y q)->(∀q∈aA E,q∈aA s\/bK Y q)->(∀q∈aA G,q∈aA t\/bK Y q)->f [iv e,iv ln] B) ?_ λf ap=>?_
  ·intro e ln B N M E G A hN X aw O P
   obtain⟨th,ak⟩:=A.bx
   have e1:dq.wrap (((L al+1:Nat):Int)-1)=(L al:Int):=by grind [eM]
   simp only[qz 99,aI,oo ak,u0,u1,ak,yr,C5,yd,aj,A.ga.ln,bJ,a6G,bZ,vw,e1,↓uL]
   refine slP A.ga (by omega) (by simp;omega) λH g9 i9=>?_
   have ht:((al++[x]).map eo.c).take ((L al:Int).toNat)=al.map eo.c:=by simp
   rw[ht] at g9
   refine A0 ak g9.ce (by simp) λC w b9=>?_
   have d9:∀r:Id,r.1≠60->r∉[((60,g):Id)]:=(by grind)
   obtain⟨ls,gs,an⟩:=A.gs
   obtain⟨lt,ag,S⟩:=A.gt
   have R:Wk C (60,g) p al N H E G:=⟨⟨th,b9⟩,g9.fx w<|λr j=>(by grind [Wk.sa]),⟨ls,gs.fx w<|λr j=>(by grind [Wk.ss]),an⟩,⟨lt,ag.fx w<|λr j=>(by grind [Wk.st]),S⟩,bp,w.len.trans A.le,rfl,λr j=>A.sa r<|i9▸j,A.ss,A.st⟩
   have aK:Fx Y C ((60,g)::(aA a++(aA s++aA t))):=(X.trans w).mono λr j=>by
    rcases dF.1 j with h|h
    ·exact .inl h
    ·exact .inl (by simp at h;simp[h])
   have u9:∀q∈aA H,q∈aA a\/bK Y q:=(by grind)
   simp only[qz 20,au,u0,u1,↓uL]
   refine⟨λ_=>aO _ _ _ _ _ _ (R.mono<|by omega) aK u9 O P,λ_=>?_⟩
   refine dR (mk:=λ(_:Unit) i=>[iv i]) (s:=()) (s':=()) (λ_ _=>rfl) ao (by have:=hs.1;omega) ⟨H,E,G,R.mono ?_,aK,u9,O,P⟩
   grind [tN,bS]
  simp only[qz 101,u0,u1,b9,gw,aj,↓uL]
  refine⟨λ_=>?_,λ_=>ap _ _ R (by omega) w v1 v2 v3⟩
  refine ad R g2 (by omega) w v1 v2 v3 λe2 ct co cu cv cn bg cm a7 w1 w2 w3=>?_
  simp only[qz 18,rr,aY]
  exact ap _ _ bg (by omega) a7 w1 w2 w3
theorem baR(i:PrB p){m:Nat}{l:List eo}(W:Wk Y b p al n a s t)(k:shL m 8 l)(j:n+L l*bS m<100000){d:Nat}{K:be}(y:∀(e ln:Int) (g s' h:AV) f,Wk f b p al (n+L l*bS m) g s' h->Fx Y f (b::(aA a++(aA s++aA t)))->(∀q∈aA g,q∈aA a\/bK Y q)->(∀q∈aA s',q∈aA s\/bK Y q)->(∀q∈aA h,q∈aA t\/bK Y q)->K (.t [iv e,iv ln]) f):cB 219 [.p b 0 0,sl eo.c l] Y d K:=by refine jH rfl (bc8 i m W k j) ?_;rintro r f ⟨e,ln,g,s',h,rfl,o,u,v,w,x⟩;grind [Fx.len]
end
def a7A:dO:=aYb
def a7k:eJ a7A:=aTC
def aWi:=@aQU
section
attribute[local irreducible] aX
def a87:=bA 37 [(18,([8,9],[1])),(28,([11],[1,10]))]
def a0x a b R:=(.mk _:NF<|zF GG a7A a87 Tryz.f170 [.u] [a] b<|I3 Tryz.f170 R).p
def bgF{c0:List AV}{R:o8}(l0:L c0=2)(h:H1 197 2 1 c0 λia b=>a0x ia b R):Ct 170 [.a c0] R:=z1 a87 a7k Tryz.func170 l0 h
end
def bdo{p:xr}(f:shP p):Ct 170 [.a p.c] aQ1:=by
 have g:=f.1
 have R:=g.1
 have h2:=g.2.1
 refine bgF rfl λs2 S j h0=>?_
 simp+contextual only[a0x,u0,u1,j,gw,aj,ar,Fa,aWi,f,R,g,rr,aO2,mp,↓uL]
 intros
 refine yh (λs:Int×Nat=>[iv s.1,iv s.2]) 1 (L p.ay) (λ_=>True) (0,0) trivial ?_
 rintro⟨c,k⟩ _
 simp+contextual only[qz 109,aI,au,u0,u1,j,rk,gw,aj,Ca,bh,ar,aWi,rr,aO2,mp,↓uL]
 refine⟨λh=>⟨vp h,⟨4,(f.2.2 _<|dB<|aL h).2⟩,λx=>wN (enc:=λs:Int×Nat=>[iv s.1,iv s.2]) (s:=(c,k)) (s':=(_,k+1)) (by rw[fX<|by grind]) rfl rfl (aL h) trivial⟩,λ_ _=>?_⟩
 have z:bM bnH [(0,2),(2,1),(3,1),(4,1),(5,1)] [(0, .a p.c)]=V (.a [sl asq.c p.A7,sl xt.c p.ay,iv 0, .l [] U U, .l [] U U, .l [] U U]):=rfl
 simp only[z,aY]
 refine bxL rfl (by decide) (by omega) λv F o N3 N=>?_
 have A:L F=4096:=o.len.trans S
 have W3:Wk F (60,v) p [] 0 (.l [] U U) (.l [] U U) (.l [] U U):=⟨⟨0,N⟩, .inl ⟨rfl,rfl⟩,⟨[], .inl ⟨rfl,rfl⟩,by simp⟩,⟨[], .inl ⟨rfl,rfl⟩,by simp⟩,by simp,A,rfl,by simp[aA],by simp[aA],by simp[aA]⟩
 have c3:=o.kq j
 refine yV (L p.ay) (λk _ Y=>∃a s t,Wk Y (60,v) p [] (k*10000) a s t/\box Y (1,1)=V ⟨197,2,U,U,[p.c]⟩) (by grind) ?_
 rintro k _ Y hk ⟨a,s,t,W,q⟩
 obtain⟨th,m⟩:=W.bx
 simp only[qz 169,aI,au,u0,u1,q,oo m,m,gw,aj,rr,aO2,mp,u5,↓uL]
 intro h
 have d:=aL h
 have E:=f.2.2 _<|dB d
 have ab:=f.2.1
 refine A0 m rfl (by simp) λX b O=>?_
 have u:=b.kq q
 have H:Wk X (60,v) p [] (k*10000) a s t:=by
  obtain⟨ls,w,B⟩:=W.gs
  obtain⟨T,y,n⟩:=W.gt
  have d9:∀r:Id,r.1≠60->r∉[((60,v):Id)]:=(by simp_all)
  exact⟨⟨k,O⟩,W.ga.fx b<|λr D=>(by grind [Wk.sa]),⟨ls,w.fx b<|λr D=>(by grind [Wk.ss]),B⟩,⟨T,y.fx b<|λr D=>(by grind [Wk.st]),n⟩,W.la,b.len.trans W.le,rfl,W.sa,W.ss,W.st⟩
 simp only[qz 6,u0,u1,u,rk,gw,aj,Ca,bh,↓uL]
 have aa:bS 4=585:=rfl
 have hm:L (gd p.ay k).body*bS 4<=8*bS 4:=qo _ E.2.1
 refine⟨dJ d,baR g H E.2 (by omega) λe ln M s' Z s5 K G _ _ _=>?_⟩
 have P:=G.keep _ _ (λC=>by
  simp only[eW,dF,iK] at C
  rcases C with h|h|h|h
  ·omega
  ·have:=W.sa _ h;simp at this
  ·have:=W.ss _ h;simp at this
  ·have:=W.st _ h;simp at this) u
 simp only[qz 8,au,u0,u1,rr,aO2,mp,bR,↓uL]
 exactλ_=>dR (mk:=λ(_:Unit) i=>[iv i]) (s:=()) (s':=()) (λ_ _=>rfl) d (by omega) ⟨M,s',Z,K.mono (by omega),P⟩
def a59{p:xr}(f:shP p):∃x:Int×Int,Ct 170 [.a p.c] (·= .t [iv x.1,iv x.2]):=by obtain⟨r,⟨e,l,rfl⟩,b,d⟩:=bdo f;exact⟨(e,l),_,rfl,b,d⟩
noncomputable def chk(p:xr):Int×Int:=@dite _ (shP p) (Classical.propDecidable _) (λh=>Classical.choose<|a59 h) λ_=>(0,0)
def aW1(p:xr)(b:shP p):Ct 170 [.a p.c] (·= .t [iv (chk p).1,iv (chk p).2]):=by rw[chk,dif_pos b];exact Classical.choose_spec<|a59 b
def aRi:FT:=mT aW1
def bbJ{p Lw K}:=f110 aRi aW1 p Lw K (j:=by simp+contextual only[ij,Nb])
def a7B:dO:=(170,aRi)::a7A
def aX4:eJ a7B:=it (pg aW1)<|a7k
def aWj:=ai @bbJ<|@aWi
section
attribute[local irreducible] aX
def a9E:=bA 11 [(3,([0,2,10],[1,3]))]
def aSv a b c d s0 R:=(.mk _:NF<|zF GG a7B a9E Tryz.f221 [a,b,c,d] [] s0<|QDb Tryz.f221 R).p
def bfY{a b c d:AV}{s0:ae}{R:be}(h:aSv a b c d s0 R):EB 221 [a,b,c,d] s0 R:=zB a9E aX4 Tryz.func221 h
def a7U{a b c d:AV}{s0:ae}{R:be}(e:L s0=4096)(h:aSv a b c d s0 R):EB 221 [a,b,c,d] s0 R:=by refine bfY ?_;exact h
def a9q:=bA 32 [(8,([6],[1,2,3])),(11,([],[1,2,3,6])),(14,([39],[1,2,3,6,7,31])),(17,([8],[1,2,3,6,7])),(21,([65],[1,2,3,6,7,31])),(26,([9],[1,2,3]))]
def aQf a(e:aG)(b:bu) f(g:eQ) c:=Rg->aV (gt a 0) (iv 1) λd=>e [d] c/\b [d] c<b a f
def a8v h b c d e f a:=aB 0 a h λg=>sV (aK 1 a g f)<|ID b c d e
def aU2 b d(f:aG) e g c a:=Rg->ab 3 a b λi=>rV (AO .max i<|iv 1) λj=>aU (gt c 0) j λk=>ah k (ab 0 a d λl=>ab 2 a b λm=>ab 3 a b λn=>ab 0 a b λo=>bf o (iv 2) λp=>ab 4 a b λq=>rV (bM aP3 aOG [(0,m),(1,gt c 0),(2,n),(3,p),(4,q)]) λr=>eV (aX biS 1 a [(0,r)]) λs h=>eV (cj 142 aP3 48 h 63 l s)<|a8v d c e g a)<|f [] a
def a1T f(b:aG) d a:=aB 1 a f λe=>sV (aK 1 a e d) λc=>b [] c
def a8w b e a h j l k m i n o g p r q(c:aG) d:=dH [bo b,bo e,bo a,bo h,bo b,bo j,bo a,bo l,Qh [.f 220 [] [],k,m],lb U [i,n] [],lb I [o] [],lb I [g,p] [92],bo b,lb I [r,q] []] [(0,10),(1,10)]<|c [] d
def a1U d g e i k m l n j o p h q f b a:=aB 2 a d λc=>sV (aK 1 a c b)<|a8w d g e i k m l n j o p h q c b f
def a1V f(c:aG) d a:=aB 3 a f λe=>sV (aK 1 a e d) λb=>c [] b
def aQh a c b d t p:=Rg->ah (gt p 0) (ab 1 a c λu=>ab 2 a b λv=>ab 0 a b λw=>bf w (iv 4) λx=>rV (bM aXN C2 [(0,v),(1,x)]) λy=>eV (aX biv 1 a [(0,y)]) λz q=>eV (cj 144 aXN 24 q 77 u z)<|a1T c d) (bf t (iv 5) λA=>ah A (aB 2 a c λe=>aM a e λf=>aB 2 a b λg=>aM a g λh=>aB 1 a c λi=>aM a i λj=>aB 5 a b λk=>aM a k λl=>fV aQE a [j,l] λm=>rV (bM aYq C2 [(0,h),(1,m)]) λn=>eV (aX a7Y 1 a [(0,n)]) λo r=>eV (cj 146 aYq 24 r 92 f o)<|a1U c e b g i k j l h m n f o d)<|ab 3 a c λB=>ab 2 a b λC=>eV (aX C9 1 a [(0,C)]) λD s=>eV (cj 9 zz9 16 s 37 B D)<|a1V c d)
def aQj c(b:cG):=bf c (iv 3) λa=>ah a (b [a]) (bf c (iv 4) λd=>b [d])
def aQg c a e b d f:=Rg->ah (gt f 0) (lV [iv 0] c<|aU2 a e b) (jR 21 (aQh c e a b d)<|aQj d)
def aQi c(b:cG):=bf c (iv 1) λa=>ah a (b [a]) (bf c (iv 2) λd=>b [d])
def aQe a e d b:=ab 0 b a λc=>jR 14 (aQg b a e d c)<|aQi c
def a1Y a e c j d:=ab 0 a e λg=>ao 6 a g (gt c 0) λh=>aw 6 a h λi=>eV (alA 296 aXV a 7) λb f=>sV (aK 6 f b i)<|aQe b j d
def a1W f j q k l a m n i d p o(g:aG)(b:bu) h c:=dH [bo f,bo j,km,bo q,bo k,km,lb U [l,gt a 0] [],bo m,bo n,cq I i,km,bo d,bo d,bo f,lb I [p,o] []] [(12,14)] (aV (gt a 0) (iv 1) λe=>g [e] c/\b [e] c<b a h)
def a1X f k p l m e n o j g h i a b:=rV (eO 0 a) λc=>rV (eO 1 a) λq=>aB 5 b f λd=>sV (aK 1 b d c)<|a1W f k p l m e n o j a d c g h i
def a1R c m d o p b q r s n t v u j k l a:=dH [bo c,bo m,bo d,bo o,km,lb U [p,gt b 0] [],bo q,bo r,lb I [s] [],lb I [n,t] [110],bo c,lb I [v,u] []] [(0,8),(1,8)] (aB 5 a c λe=>aM a e λw=>aB 1 a d λf=>aM a f λg=>ao 4 a g (gt b 0) λh=>aB 3 a h λi=>aM a i λx=>cB 221 [w,gt b 0,iv 0,x] a 122<|a1X c e d f g b h i a j k l)
def a8u e i q k l d m n o j p f g h b a:=aB 4 a e λc=>sV (aK 1 a c b)<|a1R e i q k l d m n o j p c b f g h
def a1Z c m t3 R n o b a:=Rg->ab 1 a c λq=>aJ a q λr=>aU (gt b 0) r λs=>ah s (aB 4 a m λe=>aM a e λf=>aB 1 a c λg=>aM a g λh=>ao 4 a h (gt b 0) λi=>aB 0 a i λj=>aM a j λk=>eV (aX C9 1 a [(0,k)]) λl p=>eV (cj 9 zz9 16 p 110 f l)<|a8u m e c g h b i j k f l n o a) (aw 6 a m λt=>sV (aK 6 a t3 t) λd=>aw 6 d t3 λu=>aE R d [u])
def a11 c d t3 R e f b a:=Rg->ab 0 a c λg=>aJ a g λh=>aU (gt b 0) h λi=>ah i (jV 11 (aQf b e f a)<|a1Y a c b d)<|lV [iv 0] a<|a1Z c d t3 R
def a1S b t3 R d a:=aw 2 a b λi=>fV aRi a [i] λh=>rV (eO 0 h) λj=>rV (eO 1 h) λk=>aO .neq j (iv 0) λe=>ah e (aw 6 a d λf=>sV (aK 6 a t3 f) λc=>aw 6 c t3 λg=>aE R c [g])<|lV [iv 0] a<|a11 b d t3 R
def a1P a b R:=eV (alA 31 aRc b 2) λt3 c=>eV (alA 31 aRc c 3)<|a1S a t3 R
def bgY{c0:List AV}{R:o8}(l0:L c0=2)(h:H1 197 2 1 c0 λia b=>a1P ia b R):Ct 171 [.a c0] R:=z1 a9q aX4 Tryz.func171 l0 h
end
def SiR(Y:ae)(a:AV)(N:Nat)(r:AV)(d:ae):Prop:=∃(a':AV) (e:Int) (l':List dL),r= .t [a',iv e]/\gm d 148 3 a' (l'.map dL.c)/\L l'<=N/\Fx Y d (aA a)/\(∀q∈aA a',q∈aA a\/bK Y q)/\∀q∈aA a',q∈aA a\/q.1=27
def bdu(u:Int):∀(m:Nat) {Y:ae} {a:AV} {n:Int} {l:List dL} {st:List eo},L Y=4096->gm Y 148 3 a (l.map dL.c)->shL m 8 st->L l+L st*bS m<100000->
  ∃r f,SiR Y a (L l+L st*bS m) r f/\cZ aS GG 221 [a,iv u,iv n,sl eo.c st] Y r f:=by
 intro m
 induction m with
 |zero=>
  intro Y a n l st y g E hn
  have:st=[]:=List.eq_nil_iff_forall_not_mem.2 λx P=>E.2 x P
  subst this
  refine a7U y ?_
  simp only[aSv]
  refine jD (α:=AV×Int) (λs i=>[s.1,iv s.2,iv i]) 2 0 (λ_ s Y'=>Y'=Y/\s.1=a) (s0:=(a,n)) ⟨rfl,rfl⟩ ?_
  rintro k ⟨a',n'⟩ f hk ⟨rfl,rfl⟩
  simp only[qz 19,qy 2,aI,au,u0,u1,vw,↓uL]
  exact⟨λh=>by simp at h;omega,λ_=>⟨_,_,l,rfl,g,by omega,Fx.refl _ _,λ_ h=> .inl h,λ_ h=> .inl h⟩⟩
 |succ m ih=>
  intro Y a n l st y g E hn
  refine a7U y ?_
  simp only[aSv]
  refine jD (α:=AV×Int) (λs i=>[s.1,iv s.2,iv i]) 2 (L st) (λk s Y'=>∃l':List dL,gm Y' 148 3 s.1 (l'.map dL.c)/\L l'<=L l+k*bS (m+1)/\Fx Y Y' (aA a)/\(∀q∈aA s.1,q∈aA a\/bK Y q)/\∀q∈aA s.1,q∈aA a\/q.1=27) (s0:=(a,n)) (by grind [Fx.refl]) ?_
  rintro k ⟨a1,o⟩ f hk ⟨l1,g1,aC,N,i1,p1⟩
  simp only at g1 i1 p1
  have z:L f=4096:=N.len.trans y
  simp only[qz 19,qy 2,aI,au,u0,u1,Ca,bh,rk,gw,↓uL]
  refine⟨λh=>⟨vp h,?_⟩,λh=>⟨a1,o,l1,rfl,g1,by grind,N,i1,p1⟩⟩
  have e:=aL h
  have P:=E.2 _<|dB e
  obtain⟨m',aF,b1,b2⟩:=P.body
  obtain rfl:m=m':=by omega
  have ah:L l+k*bS (m+1)+(1+8*bS m)<=L l+L st*bS (m+1):=by
   have h9:(k+1)*bS (m+1)<=L st*bS (m+1):=qo _ e
   grind [bS]
  generalize M:gd st k=x at*
  have Z:bM bhQ aOs [(0,iv u),(1,iv o),(2,iv x.line)]=V (.a<|dL.c ⟨u,o,x.line⟩):=rfl
  have aa:aX biT 1 f [(0, .a<|dL.c ⟨u,o,x.line⟩)]=V (.l ([(⟨u,o,x.line⟩:dL)].map dL.c) U U,f):=ua rfl rfl rfl (by decide) rfl (by decide)
  simp only[Z,aY,aa,bQ]
  refine O5 g1 z (by grind [dL.c]) (by grind [dL.c]) (by simp) (by simp;omega) λa2 W X S N2=>?_
  have ar:L W=4096:=S.len.trans z
  rw[<-dg] at X
  have R:Fx Y W (aA a):=(N.trans S).mono (by grind [bK.no])
  have v:∀{D:ae} {a3:AV} {n3:Int} {F:List dL} {H:List eo} {d:Nat} {K:be},gm D 148 3 a3 (F.map dL.c)->shL m 4 H->L F<=L l+k*bS (m+1)+(1+4*bS m)->Fx Y D (aA a)->(∀q∈aA a3,q∈aA a\/bK Y q)->(∀q∈aA a3,q∈aA a\/q.1=27)->
    (∀(a4:AV) (G:Int) (B:List dL) (j:ae),gm j 148 3 a4 (B.map dL.c)->L B<=L F+4*bS m->Fx Y j (aA a)->(∀q∈aA a4,q∈aA a\/bK Y q)->(∀q∈aA a4,q∈aA a\/q.1=27)->K (.t [a4,iv G]) j)->cB 221 [a3,iv u,iv n3,sl eo.c H] D d K:=by
   intro D a3 n3 F H d K g3 A aD T i3 p3 hK
   have h4:L H*bS m<=4*bS m:=qo _ A.1
   refine jH rfl (ih (T.len.trans y) g3 ⟨by have:=A.1;omega,A.2⟩<|by omega) ?_
   rintro r j ⟨a4,G,B,rfl,O,ab,C,i4,p4⟩
   exact⟨C.len,hK a4 G B j O (by omega) ((T.trans C).mono<|by grind [bK.no]) (by grind [bK.old])<|by grind⟩
  simp only[qz 4,au,u0,u1,Ca,bh,rk,gw,M,↓uL]
  refine⟨dJ e,v X.p b1 (by simp;omega) R (by grind [bK.old]) (by grind) λa4 G B j O ab C i4 p4=>?_⟩
  simp only[qz 6,au,rr,u0,u1,Ca,bh,gw,M,↓uL]
  refine⟨dJ e,v O b2 (by grind) C i4 p4 λa5 n5 l5 Y5 g5 aE F5 i5 p5=>?_⟩
  simp only[qz 8,au,rr,u0,u1,↓uL]
  refine dR (mk:=λ(s:AV×Int) i=>[s.1,iv s.2,iv i]) (s:=(a1,o)) (s':=(a5,n5)) (λ_ _=>rfl) e (by have:=E.1;omega) ⟨l5,g5,?_,F5,i5,p5⟩
  grind [bS]
structure Wo(Y:ae)(b:Id)(w:vb)(a0 a1 a2 a3 a4 a5:AV):Prop where
 bx:box Y b=V ⟨31,6,U,U,[[a0,a1,a2,a3,a4,a5]]⟩
 g0:gm Y 142 5 a0 (w.cells.map cA.c)
 g1:gm Y 144 2 a1 (w.ak.map dS.c)
 g2:gm Y 146 2 a2 (w.bC.map yp.c)
 g3:gm Y 9 1 a3 (w.bU.map cs)
 g4:gm Y 9 1 a4 (w.ay.map cs)
 g5:gm Y 148 3 a5 (w.dU.map dL.c)
 p0:∀q∈aA a0,q.1=63
 p1:∀q∈aA a1,q.1=77
 p2:∀q∈aA a2,q.1=92
 p3:∀q∈aA a3,q.1=37
 p4:∀q∈aA a4,q.1=110
 p5:∀q∈aA a5,q.1=27
 sb:b.1=3
 le:L Y=4096
section
variable{Y Y':ae}{b:Id}{w:vb}{a0 a1 a2 a3 a4 a5 a':AV}
theorem Wo.fx0(W:Wo Y b w a0 a1 a2 a3 a4 a5)(F:Fx Y Y' []):Wo Y' b w a0 a1 a2 a3 a4 a5:=⟨F.kq W.bx,W.g0.fx F (by simp),W.g1.fx F (by simp),W.g2.fx F (by simp),W.g3.fx F (by simp),W.g4.fx F (by simp),W.g5.fx F (by simp),W.p0,W.p1,W.p2,W.p3,W.p4,W.p5,W.sb,F.len.trans W.le⟩
theorem Wo.up0{new:List cA}(W:Wo Y b w a0 a1 a2 a3 a4 a5)(e:box Y' b=V ⟨31,6,U,U,[[a',a1,a2,a3,a4,a5]]⟩)(g:bc Y' 142 5 a'<|(w.cells++new).map cA.c)(F:Fx Y Y' (b::aA a0))(N:∀q∈aA a',bK Y q/\q.1=63):Wo Y' b {w with cells:=w.cells++new} a' a1 a2 a3 a4 a5:=by have d:∀q:Id,q.1≠3->q.1≠63->q∉b::aA a0:=λq f h a=>(by grind [Wo.sb,Wo.p0]);exact⟨e,g.p,W.g1.fx F<|λq a=>(by grind [Wo.p1]),W.g2.fx F<|λq a=>(by grind [Wo.p2]),W.g3.fx F<|λq a=>(by grind [Wo.p3]),W.g4.fx F<|λq a=>(by grind [Wo.p4]),W.g5.fx F<|λq a=>(by grind [Wo.p5]),(by grind),W.p1,W.p2,W.p3,W.p4,W.p5,W.sb,F.len.trans W.le⟩
theorem Wo.up1{new:List dS}(W:Wo Y b w a0 a1 a2 a3 a4 a5)(e:box Y' b=V ⟨31,6,U,U,[[a0,a',a2,a3,a4,a5]]⟩)(g:bc Y' 144 2 a'<|(w.ak++new).map dS.c)(F:Fx Y Y' (b::aA a1))(N:∀q∈aA a',bK Y q/\q.1=77):Wo Y' b {w with ak:=w.ak++new} a0 a' a2 a3 a4 a5:=by have d:∀q:Id,q.1≠3->q.1≠77->q∉b::aA a1:=λq f h a=>(by grind [Wo.sb,Wo.p1]);exact⟨e,W.g0.fx F<|λq a=>(by grind [Wo.p0]),g.p,W.g2.fx F<|λq a=>(by grind [Wo.p2]),W.g3.fx F<|λq a=>(by grind [Wo.p3]),W.g4.fx F<|λq a=>(by grind [Wo.p4]),W.g5.fx F<|λq a=>(by grind [Wo.p5]),W.p0,(by grind),W.p2,W.p3,W.p4,W.p5,W.sb,F.len.trans W.le⟩
theorem Wo.up2{new:List yp}(W:Wo Y b w a0 a1 a2 a3 a4 a5)(e:box Y' b=V ⟨31,6,U,U,[[a0,a1,a',a3,a4,a5]]⟩)(g:bc Y' 146 2 a'<|(w.bC++new).map yp.c)(F:Fx Y Y' (b::aA a2))(N:∀q∈aA a',bK Y q/\q.1=92):Wo Y' b {w with bC:=w.bC++new} a0 a1 a' a3 a4 a5:=by have d:∀q:Id,q.1≠3->q.1≠92->q∉b::aA a2:=λq f h a=>(by grind [Wo.sb,Wo.p2]);exact⟨e,W.g0.fx F<|λq a=>(by grind [Wo.p0]),W.g1.fx F<|λq a=>(by grind [Wo.p1]),g.p,W.g3.fx F<|λq a=>(by grind [Wo.p3]),W.g4.fx F<|λq a=>(by grind [Wo.p4]),W.g5.fx F<|λq a=>(by grind [Wo.p5]),W.p0,W.p1,(by grind),W.p3,W.p4,W.p5,W.sb,F.len.trans W.le⟩
theorem Wo.up3{new:List ByteArray}(W:Wo Y b w a0 a1 a2 a3 a4 a5)(c:box Y' b=V ⟨31,6,U,U,[[a0,a1,a2,a',a4,a5]]⟩)(g:bc Y' 9 1 a'<|(w.bU++new).map cs)(F:Fx Y Y' (b::aA a3))(N:∀q∈aA a',bK Y q/\q.1=37):Wo Y' b {w with bU:=w.bU++new} a0 a1 a2 a' a4 a5:=by have d:∀q:Id,q.1≠3->q.1≠37->q∉b::aA a3:=λq e f a=>(by grind [Wo.sb,Wo.p3]);exact⟨c,W.g0.fx F<|λq a=>(by grind [Wo.p0]),W.g1.fx F<|λq a=>(by grind [Wo.p1]),W.g2.fx F<|λq a=>(by grind [Wo.p2]),g.p,W.g4.fx F<|λq a=>(by grind [Wo.p4]),W.g5.fx F<|λq a=>(by grind [Wo.p5]),W.p0,W.p1,W.p2,(by grind),W.p4,W.p5,W.sb,F.len.trans W.le⟩
theorem Wo.up4{new:List ByteArray}(W:Wo Y b w a0 a1 a2 a3 a4 a5)(c:box Y' b=V ⟨31,6,U,U,[[a0,a1,a2,a3,a',a5]]⟩)(g:bc Y' 9 1 a'<|(w.ay++new).map cs)(F:Fx Y Y' (b::aA a4))(N:∀q∈aA a',bK Y q/\q.1=110):Wo Y' b {w with ay:=w.ay++new} a0 a1 a2 a3 a' a5:=by have d:∀q:Id,q.1≠3->q.1≠110->q∉b::aA a4:=λq e f a=>(by grind [Wo.sb,Wo.p4]);exact⟨c,W.g0.fx F<|λq a=>(by grind [Wo.p0]),W.g1.fx F<|λq a=>(by grind [Wo.p1]),W.g2.fx F<|λq a=>(by grind [Wo.p2]),W.g3.fx F<|λq a=>(by grind [Wo.p3]),g.p,W.g5.fx F<|λq a=>(by grind [Wo.p5]),W.p0,W.p1,W.p2,W.p3,(by grind),W.p5,W.sb,F.len.trans W.le⟩
end
def WBd(w:vb):Prop:=L w.cells<100000/\L w.ak<100000/\L w.bC<100000/\L w.bU<100000/\L w.ay<100000/\L w.dU<100000
def bbe:∀k,k<9->(gd aNF k).size<=4:=by decide
def rwW{a b c d e f:AV}:aN (V 6) [a,b,c,d,e,f]=V (.a [a,b,c,d,e,f]):=rfl
def aXi(p:xr)(hp:shP p/\p.A7=aNF):Ct 171 [.a p.c] (λr=>∃w:vb,r= .a w.c/\WBd w/\((chk p).1=0->∃c∈w.cells,c.name=qN)):=by
 obtain⟨hp,hd⟩:=hp
 refine aDq (bgY rfl λs2 hl b1 h0=>?_)
 simp only[a1P]
 refine so hl λv2 s4 F4 N4 b2=>?_
 have az:L s4=4096:=F4.len.trans hl
 refine so az λo s6 F6 N6 H=>?_
 have c1:=F6.kq<|F4.kq b1
 have c2:=F6.kq b2
 have bF:L s6=4096:=F6.len.trans az
 have W6:Wo s6 (3,o) ⟨[],[],[],[],[],[]⟩ (.l [] U U) (.l [] U U) (.l [] U U) (.l [] U U) (.l [] U U) (.l [] U U):=⟨H, .inl ⟨rfl,rfl⟩, .inl ⟨rfl,rfl⟩, .inl ⟨rfl,rfl⟩, .inl ⟨rfl,rfl⟩, .inl ⟨rfl,rfl⟩, .inl ⟨rfl,rfl⟩,by simp[aA],by simp[aA],by simp[aA],by simp[aA],by simp[aA],by simp[aA],rfl,bF⟩
 have aT:∀{Y:ae} {w:vb} {a0 a1 a2 a3 a4 a5:AV} {r:List AV},Wo Y (3,o) w a0 a1 a2 a3 a4 a5->box Y (2,v2)=V ⟨31,6,U,U,[r]⟩->L r=6->WBd w->((chk p).1=0->∃c∈w.cells,c.name=qN)->
   aw 6 Y (.p (3,o) 0 0) λt=>sV (aK 6 Y (.p (2,v2) 0 0) t) λaD=>aw 6 aD (.p (2,v2) 0 0) λbe=>aE (λr=>∃w:vb,B1 r= .a w.c/\WBd w/\((chk p).1=0->∃c∈w.cells,c.name=qN)) aD [be]:=by
  intro Y w a0 a1 a2 a3 a4 a5 r W hb hr hB y
  simp only[aC5,W.bx,aww,aBF,df,axE,awx,rwW,aY,↓uL]
  refine qr hb hr rfl λY' F b'=>?_
  simp only[b',aww,aBF,df,awx,rwW,aY]
  have d:∀q:Id,q.1≠2->q∉[((2,v2):Id)]:=(by simp_all)
  refine aOv (Q:=λr=>∃w:vb,r= .a w.c/\WBd w/\((chk p).1=0->∃c∈w.cells,c.name=qN)) (v':= .a w.c) ?_ rfl ⟨w,rfl,hB,y⟩
  simp only[fzT,ji,mU,aBr<|W.g0.fx F λq y=>(by grind [Wo.p0]),aBr<|W.g1.fx F λq y=>(by grind [Wo.p1]),aBr<|W.g2.fx F λq y=>(by grind [Wo.p2]),aBr<|W.g3.fx F λq y=>(by grind [Wo.p3]),aBr<|W.g4.fx F λq y=>(by grind [Wo.p4]),aBr<|W.g5.fx F λq y=>(by grind [Wo.p5])]
  rfl
 simp+contextual only[a1S,u0,u1,c1,gw,ar,Fa,aWj,hp,rr,↓uL]
 refine⟨λbG=>aT W6 c2 rfl (by simp[WBd]) (λh=>by simp[h] at bG),λcz=>?_⟩
 have h9:L p.A7=9:=by rw[hd];rfl
 obtain⟨Inv,ax⟩:∃e:Nat->Unit->ae->Prop,e=λk _ Y=>∃(w:vb) (a0 a1 a2 a3 a4 a5:AV) (r:List AV),Wo Y (3,o) w a0 a1 a2 a3 a4 a5/\box Y (1,1)=V ⟨197,2,U,U,[p.c]⟩/\box Y (2,v2)=V ⟨31,6,U,U,[r]⟩/\L r=6/\L w.cells<=4*k/\L w.ak<=k/\L w.bC<=k/\L w.bU<=k/\w.ay=[]/\w.dU=[]/\(3<k->∃c∈w.cells,c.name=qN):=⟨_,rfl⟩
 refine yV (L p.A7) Inv (by rw[ax];exact⟨_,_,_,_,_,_,_,_,W6,c1,c2,rfl,by simp,by simp,by simp,by simp,rfl,rfl,by simp⟩) ?_
 rintro k _ Y hk hi
 rw[ax] at hi
 obtain⟨w,a0,a1,a2,a3,a4,a5,r,W,d1,d2,hr,n0,n1,n2,n3,n4,n5,y⟩:=hi
 simp only[a11,aI,au,u0,u1,d1,rk,gw,aj,a1Y,Ca,bh,↓uL]
 refine⟨λh=>⟨vp h,anu W.le λv7 D F1 N1 e7=>?_⟩,λh=>?_⟩
 ·have Z:=aL h
  have m:=W.fx0 F1
  have e1:=F1.kq d1
  have e2:=F1.kq d2
  have cF:(gd p.A7 k).size<=4:=by rw[hd];exact bbe k (by omega)
  have cD:k=3->(gd p.A7 k).kind=1/\(gd p.A7 k).name=qN:=by rintro rfl;rw[hd];exact⟨rfl,rfl⟩
  generalize cy:gd p.A7 k=g at*
  have ag:∀{Y':ae} {S:vb} {x0 x1 x2 x3 x4 x5:AV},Wo Y' (3,o) S x0 x1 x2 x3 x4 x5->box Y' (1,1)=V ⟨197,2,U,U,[p.c]⟩->box Y' (2,v2)=V ⟨31,6,U,U,[r]⟩->L S.cells<=4*(k+1)->L S.ak<=k+1->L S.bC<=k+1->L S.bU<=k+1->S.ay=[]->S.dU=[]->(3<k+1->∃c∈S.cells,c.name=qN)->aQf [iv k] (yI (λ(_:Unit) i=>[iv i]) (L p.A7) Inv) (gM 0<|L p.A7) Y [] Y':=by
   intro Y' S x0 x1 x2 x3 x4 x5 g1 g2 A g4 g5 g6 g7 g8 g9 cw
   simp only[aQf,aI,au,u0,u1,↓uL]
   exact dR (mk:=λ(_:Unit) i=>[iv i]) (s:=()) (s':=()) (λ_ _=>rfl) Z (by omega) (by grind)
  have ep:∀{Y':ae} {j:Nat} {a:AV} {T z:Nat} {bq:Bool} {rs:List (List AV)} {q:Id},Fx D Y' ((3,o)::aA a)->(∀q∈aA a,q.1=j)->q.1≠3->q.1≠j->box D q=V ⟨T,z,U,bq,rs⟩->box Y' q=V ⟨T,z,U,bq,rs⟩:=λF hj E cB hb=>F.keep _ _ (by grind) hb
  have nb:∀{a:AV} {j:Nat},(∀q∈aA a,q.1=j)->j≠3->((3,o):Id)∉aA a:=(by grind)
  have af:k≠3->3<k+1->∃c∈w.cells,c.name=qN:=(by grind)
  have oO:(g.kind=1\/g.kind=2)->lV [iv 0] D (aU2 (.p (7,v7) 0 0) (.p (3,o) 0 0)<|aQf [iv k] (yI (λ(_:Unit) i=>[iv i]) (L p.A7) Inv) (gM 0<|L p.A7) Y):=by
   intro _
   obtain⟨M,hM⟩:∃M:Int,M=if 1>g.size then 1 else g.size:=⟨_,rfl⟩
   have cx:1<=M/\M<=4:=by omega
   refine yV M.toNat (λR _ Y'=>∃(new:List cA) (x0:AV),Wo Y' (3,o) {w with cells:=w.cells++new} x0 a1 a2 a3 a4 a5/\box Y' (1,1)=V ⟨197,2,U,U,[p.c]⟩/\box Y' (2,v2)=V ⟨31,6,U,U,[r]⟩/\box Y' (7,v7)=V ⟨296,6,U,U,[g.c]⟩/\L new=R/\(0<R->∃c∈new,c.name=g.name)) ⟨[],a0,by simpa using m,e1,e2,e7,rfl,by simp⟩ ?_
   rintro R _ Y2 cC ⟨new,x0,v,f1,f2,f7,bc,bH⟩
   simp only[aU2,aI,au,u0,u1,f7,v.bx,gw,aj,aRW,<-hM,↓uL]
   refine⟨λh2=>?_,λh2=>?_⟩
   ·have bb:R<M.toNat:=by grind
    have X:bM aP3 aOG [(0,st g.name),(1,iv R),(2,iv g.size),(3,bv<|Q<|g.kind=2),(4,iv g.init)]=V (.a<|cA.c ⟨g.name,R,g.size,Q<|g.kind=2,g.init⟩):=rfl
    have C:∀{x:cA},aX biS 1 Y2 [(0, .a<|cA.c x)]=V (.l ([x].map cA.c) U U,Y2):=λ{x}=>ua rfl rfl rfl (by decide) rfl (by decide)
    simp only[X,aY,C,bQ]
    refine gfP (j:=0) v.bx (by simp) v.g0 (nb v.p0<|by decide) rfl (by decide) (by rw[v.le];decide) (qW (f:=cA.c) (z:=5) λ_=>rfl) (qW (f:=cA.c) (z:=5) λ_=>rfl) (by simp) (by simp;omega) (by simp) λa' Y3 H A u P=>?_
    simp only[ID,au,u0,u1,↓uL]
    rw[<-dg] at A
    have N:∀{q:Id},q.1≠3->q.1≠63->q∉((3,o):Id)::aA x0:=λE bt y=>by
     rcases eW.1 y with h|h
     ·rw[h] at E;exact E rfl
     ·exact bt (v.p0 _ h)
    have B:=v.up0 (new:=[⟨g.name,R,g.size,Q<|g.kind=2,g.init⟩]) H A u P
    refine dR (mk:=λ(_:Unit) i=>[iv i]) (s:=()) (s':=()) (λ_ _=>rfl) bb (by omega) ⟨new++[⟨g.name,R,g.size,Q<|g.kind=2,g.init⟩],a',by grind,u.keep _ _ (by grind) f1,u.keep _ _ (by grind) f2,u.keep _ _ (by grind) f7,by simp[bc],by simp⟩
   ·have ct:R=M.toNat:=by grind
    refine ag v f1 f2 (by simp;omega) (by grind) (by grind) (by grind) n4 n5 λE=>?_
    by_cases h4:k=3
    ·obtain⟨c,hc,bw⟩:=bH (by omega)
     grind
    ·obtain⟨c,hc,bw⟩:=af h4 E
     grind
  have bu:dG D a1=sl dS.c w.ak:=m.g1.ar
  have N:∀{a:AV} {j:Nat},(∀q∈aA a,q.1=j)->∀q:Id,q.1≠3->q.1≠j->q∉((3,o):Id)::aA a:=(by grind)
  have lk:∀rw:Bool,k≠3->rV (bM aXN C2 [(0,st g.name),(1,bv rw)]) λbX=>eV (aX biv 1 D [(0,bX)]) λbY bT=>eV (cj 144 aXN 24 bT 77 a1 bY) (a1T (.p (3,o) 0 0)<|aQf [iv k] (yI (λ(_:Unit) i=>[iv i]) (L p.A7) Inv) (gM 0<|L p.A7) Y):=by
   intro rw E
   have X:bM aXN C2 [(0,st g.name),(1,bv rw)]=V (.a<|dS.c ⟨g.name,rw⟩):=rfl
   have C:∀{x:dS},aX biv 1 D [(0, .a<|dS.c x)]=V (.l ([x].map dS.c) U U,D):=λ{x}=>ua rfl rfl rfl (by decide) rfl (by decide)
   simp only[X,aY,C,bQ]
   refine gfP (j:=1) m.bx (by simp) m.g1 (nb m.p1<|by decide) rfl (by decide) (by rw[m.le];decide) (qW (f:=dS.c) (z:=2) λ_=>rfl) (qW (f:=dS.c) (z:=2) λ_=>rfl) (by simp) (by simp;omega) (by simp) λa' Y3 H A u P=>?_
   rw[<-dg] at A
   exact ag (m.up1 (new:=[⟨g.name,rw⟩]) H A u P) (u.keep _ _ (N m.p1 _ (by simp)<|by simp) e1) (u.keep _ _ (N m.p1 _ (by simp)<|by simp) e2) (by grind) (by simp;omega) (by grind) (by grind) n4 n5<|af E
  have cd:∀x:Int,k≠3->rV (bM aYq C2 [(0,st g.name),(1,iv x)]) λaU=>eV (aX a7Y 1 D [(0,aU)]) λaV bV=>eV (cj 146 aYq 24 bV 92 a2 aV) (a1U (AV.p (3,o) 0 0) (AV.p (3,o) 0 2) (AV.p (7,v7) 0 0) (AV.p (7,v7) 0 2) (AV.p (3,o) 0 1) (AV.p (7,v7) 0 5) a1 (st g.on) (st g.name) (iv x) aU a2 aV<|aQf [iv k] (yI (λ(_:Unit) i=>[iv i]) (L p.A7) Inv) (gM 0<|L p.A7) Y):=by
   intro x E
   have X:bM aYq C2 [(0,st g.name),(1,iv x)]=V (.a<|yp.c ⟨g.name,x⟩):=rfl
   have C:∀{x:yp},aX a7Y 1 D [(0, .a<|yp.c x)]=V (.l ([x].map yp.c) U U,D):=λ{x}=>ua rfl rfl rfl (by decide) rfl (by decide)
   simp only[X,aY,C,bQ]
   refine gfP (j:=2) m.bx (by simp) m.g2 (nb m.p2<|by decide) rfl (by decide) (by rw[m.le];decide) (qW (f:=yp.c) (z:=2) λ_=>rfl) (qW (f:=yp.c) (z:=2) λ_=>rfl) (by simp) (by simp;omega) (by simp) λa' Y3 H A u P=>?_
   rw[<-dg] at A
   refine dT (by first|rfl|(simp[eL,okT,tok,lb,cq,Qh,J4,dC,pP,dK];done)) ?_
   exact ag (m.up2 (new:=[⟨g.name,x⟩]) H A u P) (u.keep _ _ (N m.p2 _ (by simp)<|by simp) e1) (u.keep _ _ (N m.p2 _ (by simp)<|by simp) e2) (by grind) (by grind) (by simp;omega) (by grind) n4 n5<|af E
  have fu:k≠3->eV (aX C9 1 D [(0,st g.name)]) λb0 bW=>eV (cj 9 zz9 16 bW 37 a3 b0) (a1V (AV.p (3,o) 0 0)<|aQf [iv k] (yI (λ(_:Unit) i=>[iv i]) (L p.A7) Inv) (gM 0<|L p.A7) Y):=by
   intro E
   have C:aX C9 1 D [(0,st g.name)]=V (.l ([g.name].map cs) U U,D):=iz
   simp only[C,bQ]
   refine gfP (j:=3) m.bx (by simp) m.g3 (nb m.p3<|by decide) rfl (by decide) (by rw[m.le];decide) oX oX (by simp) (by simp;omega) (by simp) λa' Y3 H A u P=>?_
   rw[<-dg] at A
   exact ag (m.up3 (new:=[g.name]) H A u P) (u.keep _ _ (N m.p3 _ (by simp)<|by simp) e1) (u.keep _ _ (N m.p3 _ (by simp)<|by simp) e2) (by grind) (by grind) (by grind) (by simp;omega) n4 n5<|af E
  have kc:g.kind=1\/g.kind=2\/g.kind=3\/g.kind=4\/g.kind=5\/(g.kind≠1/\g.kind≠2/\g.kind≠3/\g.kind≠4/\g.kind≠5):=by omega
  have ad:g.kind≠1->k≠3:=(by omega)
  rcases kc with h|h|h|h|h|⟨h1,h2,E,h4,h5⟩
  ·simp only[aQe,aOe,aQi,aQg,aQj,aQh,aI,au,u0,u1,e7,m.bx,gw,aj,ar,eE,sr,aNG,aNU,u5,h,aRa,aPy,Int.reduceEq,↓iC,↓iB,↓uL]
   exact oO<|.inl h
  ·simp only[aQe,aOe,aQi,aQg,aQj,aQh,aI,au,u0,u1,e7,m.bx,gw,aj,ar,eE,sr,aNG,aNU,u5,h,aRa,aPy,Int.reduceEq,↓iB,↓uL]
   exact oO<|.inr h
  ·simp only[aQe,aOe,aQi,aQg,aQj,aQh,aI,au,u0,u1,e7,m.bx,gw,aj,ar,eE,sr,aNG,aNU,u5,h,aRa,aPy,Int.reduceEq,↓iC,↓iB,↓uL]
   exact lk _ (ad<|by omega)
  ·simp only[aQe,aOe,aQi,aQg,aQj,aQh,aI,au,u0,u1,e7,m.bx,gw,aj,ar,eE,sr,aNG,aNU,u5,h,aRa,aPy,Int.reduceEq,↓iB,↓uL]
   exact lk _ (ad<|by omega)
  ·simp only[aQe,aOe,aQi,aQg,aQj,aQh,aI,au,u0,u1,e7,m.bx,gw,aj,bu,ar,aWj,rr,eE,aNG,aNU,h,aRa,aPy,Int.reduceEq,↓iC,↓iB,↓uL]
   exact⟨by omega,λx=>cd x<|ad<|by omega⟩
  ·simp only[aQe,aOe,aQi,aQg,aQj,aQh,aI,au,u0,u1,e7,m.bx,gw,aj,ar,eE,aNG,aNU,h1,h2,E,h4,h5,aPy,↓iB,↓uL]
   exact fu<|ad h1
 ·have bB:k=9:=by grind
  subst bB
  clear hk h
  refine yV (L p.ay) (λk _ Y=>∃(O:vb) (a4 a5:AV),Wo Y (3,o) O a0 a1 a2 a3 a4 a5/\O.cells=w.cells/\O.ak=w.ak/\O.bC=w.bC/\O.bU=w.bU/\box Y (1,1)=V ⟨197,2,U,U,[p.c]⟩/\box Y (2,v2)=V ⟨31,6,U,U,[r]⟩/\L O.ay<=k/\L O.dU<=k*5000) (by grind) ?_
  rintro k _ Y2 hk ⟨O,x4,x5,v,w0,w1,w2,w3,f1,f2,m4,m5⟩
  have cG:=hp.2.1
  simp only[a1Z,aI,au,u0,u1,f1,v.bx,rk,gw,aj,Ca,bh,↓uL]
  refine⟨λh=>⟨vp h,?_⟩,λh=>?_⟩
  rotate_left
  ·have:=aT v f2 hr (by simp only[WBd,w0,w1,w2,w3];omega) (λ_=>by rw[w0];exact y<|by omega)
   simp only[u1,v.bx,gw,↓uL] at this
   exact this
  have Z:=aL h
  have aR:=(hp.2.2 _<|dB Z).2
  generalize bI:gd p.ay k=tk at*
  have C:aX C9 1 Y2 [(0,st tk.name)]=V (.l ([tk.name].map cs) U U,Y2):=iz
  simp only[C,bQ]
  have nb:∀{a:AV} {j:Nat},(∀q∈aA a,q.1=j)->j≠3->((3,o):Id)∉aA a:=(by grind)
  have N:∀{a:AV} {j:Nat},(∀q∈aA a,q.1=j)->∀q:Id,q.1≠3->q.1≠j->q∉((3,o):Id)::aA a:=(by grind)
  refine gfP (j:=4) v.bx (by simp) v.g4 (nb v.p4<|by decide) rfl (by decide) (by rw[v.le];decide) oX oX (by simp) (by simp;omega) (by simp) λa' Y3 H A u P=>?_
  rw[<-dg] at A
  have B:=v.up4 (new:=[tk.name]) H A u P
  have h1:=u.keep _ _ (N v.p4 _ (by simp)<|by simp) f1
  have h2:=u.keep _ _ (N v.p4 _ (by simp)<|by simp) f2
  have cn:bS 4=585:=rfl
  have hm:L tk.body*bS 4<=8*bS 4:=qo _ aR.1
  simp only[a1R,↓uL]
  refine dT (by first|rfl|(simp[eL,okT,tok,lb,cq,Qh,J4,dC,pP,dK];done)) ?_
  simp only[u0,u1,B.bx,h1,rk,gw,aj,Ca,bh,bI,↓uL]
  refine⟨dJ Z,jH rfl (bdu k 4 (n:=0) B.le B.g5 aR<|by grind) ?_⟩
  rintro cH Y4 ⟨aJ,n',l',rfl,g4,az,F4,i4,p4⟩
  refine⟨F4.len,?_⟩
  have p5:∀q∈aA aJ,q.1=27:=λq y=>(by grind [Wo.p5])
  have br:∀q:Id,q.1≠27->q∉aA x5:=λq h y=>h<|B.p5 q y
  have b4:=F4.keep _ _ (br _<|by simp) B.bx
  simp only[a1X,rr,aY,u1,b4,aj,↓uL]
  refine A0 b4 g4.ce (by simp) λY5 F5 b5=>?_
  simp only[a1W,↓uL]
  refine dT (by first|rfl|(simp[eL,okT,tok,lb,cq,Qh,J4,dC,pP,dK];done)) ?_
  have cv:∀q:Id,q.1≠3->q∉[((3,o):Id)]:=(by grind)
  have G:Fx Y3 Y5 (aA x5++[(3,o)]):=F4.trans F5
  have K:∀q:Id,q.1≠27->q.1≠3->q∉aA x5++[((3,o):Id)]:=(by grind)
  have W5:Wo Y5 (3,o) {O with ay:=O.ay++[tk.name],dU:=l'} a0 a1 a2 a3 a' aJ:=⟨b5,B.g0.fx G<|λq y=>K q (by grind [Wo.p0])<|by grind [Wo.p0],B.g1.fx G<|λq y=>K q (by grind [Wo.p1])<|by grind [Wo.p1],B.g2.fx G<|λq y=>K q (by grind [Wo.p2])<|by grind [Wo.p2],B.g3.fx G<|λq y=>K q (by grind [Wo.p3])<|by grind [Wo.p3],B.g4.fx G<|λq y=>K q (by grind)<|by grind,g4.fx F5 (by grind),B.p0,B.p1,B.p2,B.p3,B.p4,p5,rfl,F5.len.trans<|F4.len.trans B.le⟩
  simp only[u0,u1,↓uL]
  refine dR (mk:=λ(_:Unit) i=>[iv i]) (s:=()) (s':=()) (λ_ _=>rfl) Z (by omega) ⟨_,a',aJ,W5,w0,w1,w2,w3,G.keep _ _ (by grind) h1,G.keep _ _ (by grind) h2,by simp;omega,?_⟩
  grind
def aUd:FT:=om aXi
def bb0{p Lw K}:=f111 aUd aXi p Lw K (j:=by simp+contextual only[ij,Nb])
def aYc:dO:=(171,aUd)::a7B
def aX5:eJ aYc:=it (rj aXi)<|aX4
def aQV:=ai @bb0<|@aWj
section
attribute[local irreducible] aX
def a5E:=bA 28 [(7,([7],[2,3,4,5,6])),(13,([],[2,3,4,5,6,7,8])),(16,([9],[2,3,4,5,6,7,8])),(21,([],[2,3,4,5,6,7,8]))]
def aUA a s0 R:=(.mk _:NF<|zF GGV aYc a5E Tryz.f114 [a] [] s0<|I3 Tryz.f114 R).p
def bgf{a:AV}{R:o8}(h:∀s0:ae,L s0=4096->(∀k,aZ s0 k=mO)->aUA a s0 R):Fn aS GG 114 [a] R:=by refine fnV (uq ready (aQ9 aX5) Tryz.func114 (an:=a5E) (by kernel_rfl)<|aND (show ZF aS GGV aYc a5E Tryz.f114 [a] R=(aUA a (ly Tryz.f114) R) by kernel_rfl) ?_);exact h _ uB<|i8 _
def a9m:=bA 32 [(9,([8,9],[1,2,7])),(21,([12],[1,2,7,8,9,10,11])),(27,([14],[1,2,7,8,9,10,11,12,13]))]
def a1t a b R:=(.mk _:NF<|zF GG aYc a9m Tryz.f113 [.u] [a] b<|I3 Tryz.f113 R).p
def bgU{c0:List AV}{R:o8}(l0:L c0=2)(h:H1 197 2 1 c0 λia b=>a1t ia b R):Ct 113 [.a c0] R:=z1 a9m aX5 Tryz.func113 l0 h
end
section
attribute[local irreducible] aX
def aUF a b s0 R:=(.mk _:NF<|zF GG a7x ato Tryz.f107 [a,b] [] s0<|QDb Tryz.f107 R).p
def bfH{a b:AV}{s0:ae}{R:be}(h:aUF a b s0 R):EB 107 [a,b] s0 R:=zB ato aNH Tryz.func107 h
def bgg{a b:AV}{s0:ae}{R:be}(c:L s0=4096)(h:aUF a b s0 R):EB 107 [a,b] s0 R:=by refine bfH ?_;exact h
def aUJ a b s0 R:=(.mk _:NF<|zF GG a7x at1 Tryz.f256 [a,b] [] s0<|QDb Tryz.f256 R).p
def bfK{a b:AV}{s0:ae}{R:be}(h:aUJ a b s0 R):EB 256 [a,b] s0 R:=zB at1 aNH Tryz.func256 h
def bgo{a b:AV}{s0:ae}{R:be}(c:L s0=4096)(h:aUJ a b s0 R):EB 256 [a,b] s0 R:=by refine bfK ?_;exact h
def aUI a b s0 R:=(.mk _:NF<|zF GG a7x atB Tryz.f253 [a,b] [] s0<|QDb Tryz.f253 R).p
def bfJ{a b:AV}{s0:ae}{R:be}(h:aUI a b s0 R):EB 253 [a,b] s0 R:=zB atB aNH Tryz.func253 h
def bgm{a b:AV}{s0:ae}{R:be}(c:L s0=4096)(h:aUI a b s0 R):EB 253 [a,b] s0 R:=by refine bfJ ?_;exact h
def aUH a b c s0 R:=(.mk _:NF<|zF GG a7x a9k Tryz.f257 [a,b,c] [] s0<|QDb Tryz.f257 R).p
def bfI{a b c:AV}{s0:ae}{R:be}(h:aUH a b c s0 R):EB 257 [a,b,c] s0 R:=zB a9k aNH Tryz.func257 h
def bgl{a b c:AV}{s0:ae}{R:be}(d:L s0=4096)(h:aUH a b c s0 R):EB 257 [a,b,c] s0 R:=by refine bfI ?_;exact h
def a8R:=bA 47 [(13,([],[4,7]))]
def aUK a b s0 R:=(.mk _:NF<|zF GG a7x a8R Tryz.f223 [a,b] [] s0<|QDb Tryz.f223 R).p
def bfL{a b:AV}{s0:ae}{R:be}(h:aUK a b s0 R):EB 223 [a,b] s0 R:=zB a8R aNH Tryz.func223 h
def bgp{a b:AV}{s0:ae}{R:be}(c:L s0=4096)(h:aUK a b s0 R):EB 223 [a,b] s0 R:=by refine bfL ?_;exact h
def a8S:=bA 9 [(4,([7,8],[0,1,2]))]
def aZ9 d(I1:aG)(m1:bu) e b a:=aV (gt d 1) (iv 1) λc=>I1 [b,c] a/\m1 [b,c] a<m1 d e
def aUQ a I1 m1 f d b:=eV (aX aOl 1 b [(0,d)]) λe c=>eV (cj 261 C8 176 c 30 (gt a 0) e)<|aZ9 a I1 m1 f
def aRp l d k R I1 m1 b c:=Rg->aU (gt b 1) l λt3=>fm t3 (gt b 1) λm=>u6 t3 (bf m<|iv 0) λn=>fm t3 n λa=>bX a d λe=>aC a (rV<|cO c e) λf=>bn a 2 c f λg=>aC a (aO .gtr g<|iv 0) λh=>u6 t3 (aD a (bv U) h) λi=>aD t3 i (bv I) λj=>ah j (cB 223 [d,k] c 28<|aUQ b I1 m1 c)<|fe R c [gt b 0]
def aUP a b c s0 R:=lV [.l [] U U,iv 0] s0<|aRp c a b R
def bfM{a b c:AV}{s0:ae}{R:be}(h:aUP a b c s0 R):EB 176 [a,b,c] s0 R:=zB a8S aNH Tryz.func176 h
def bgq{a b c:AV}{s0:ae}{R:be}(d:L s0=4096)(h:aUP a b c s0 R):EB 176 [a,b,c] s0 R:=by refine bfM ?_;exact h
end
end Go.Ab
