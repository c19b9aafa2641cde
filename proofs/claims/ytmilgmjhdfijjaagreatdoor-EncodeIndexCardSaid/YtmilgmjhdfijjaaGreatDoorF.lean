/- Part of the proof of EncodeIndex, made short by a program. -/
import Derived.Test.YtmilgmjhdfijjaaGreatDoorE
set_option linter.all false
set_option maxRecDepth 100000
open And renaming intro->ai
open Bool renaming and_eq_false_iff->pk,and_eq_true->bN,false->I,false_eq_true->eE,not_eq_false'->fK,not_eq_true'->eH,not_false->kN,not_true->fh,or_eq_false_iff->cP,or_true->wY,true->U
open Decidable renaming decide->Q,not_not->aNS
open Eq renaming mpr->aND
open Go.IntKind renaming i64->dq
open Go.Proofs.Tryz renaming prog->aS
open Int renaming ofNat_lt->RF,toNat_natCast->bh,toNat_of_nonneg->kA
open List renaming Pairwise->Cr,all_eq_true->dV,append_nil->cL,cons.injEq->kO,cons_append->zn,drop_succ_cons->nM,drop_zero->ip,ext_getElem?->aqI,flatMap_cons->Cz,getD_eq_getElem?_getD->eI,getElem?_append_left->xe,getElem?_cons_zero->qh,getElem?_drop->mf,getElem?_eq_getElem->eC,getElem?_eq_none->qi,getElem?_map->ve,getElem_of_mem->ou,length->L,length_append->P8,length_drop->oz,length_map->bJ,length_set->zq,length_take->gC,map_append->dg,map_congr_left->ja,map_cons->ji,map_map->vA,map_nil->mU,map_set->vB,mem_append->dF,mem_cons->eW,mem_filter->jW,mem_flatMap->iI,mem_map->dN,mem_map_of_mem->CA,mem_of_mem_take->sA,mem_or_eq_of_mem_set->CC,mem_range->fq,mem_singleton->cE,nil_append->dW,nodup_append->xl,nodup_range->GM,not_mem_nil->ql,range->aH,replicate->er,set_cons_zero->RY,take_of_length_le->oB,take_zero->CE
open Nat renaming beq->pp,le_antisymm->bP,le_of_eq->aSp,le_of_lt->aYB,le_refl->dA,le_trans->gl,lt_of_lt_of_le->C3,lt_or_ge->jj,mul_le_mul->xn,zero_add->aj
open Ne renaming symm->Sa
open Option renaming bind_some->qd,map_some->df,none->J,some->V,some.inj->xu
namespace Go.Ab
open Go Go.RowKit Go.Proofs
section
variable{ks:List Nat}{l l':List Id}{Y Y' Y1:ae}
def aTi{e:TypeId}{z:Nat}{a:AV}{aa:List (List AV)}(g:gm Y e z a aa):∀q∈aA a,∃x,box Y q=V x:=by rcases g with⟨_,rfl⟩|⟨b,m,rfl,h⟩;simp[aA];intro q c;simp only[aA,cE] at c;subst c;exact⟨_,h⟩
def aQu{e:TypeId}{z k:Nat}{a:AV}{aa:List (List AV)}(g:gm Y e z a aa)(h:k∈dK a):∃q∈aA a,q.1=k:=by rcases g with⟨_,rfl⟩|⟨b,m,rfl,_⟩;rw[k1l] at h;simp at h;rw[k1m] at h;simp at h;exact⟨b,by simp[aA],h.symm⟩
end
def baT{S ev:Int}{T x2:AV}{li:List Int}{lj:List (List Int)}{Y:ae}{d:Nat}{K:be}(hl:L Y=4096)(e1:T=sl ci li)(e2:x2=sl cl lj)(W:L li<=1000)(X:L lj<=1000)(Z:∀t∈lj,L t<=1000)(l:List Id)(D:∀p∈l,∃e z a aa,gm Y e z a aa/\p∈aA a)(w:∀p∈l,p.1=12\/p.1=31)(hK:∀j k Y',gm Y' 2 1 j (li.map ci)->gm Y' 38 1 k (lj.map cl)->Kx [12,31] Y Y'->(∀{e z a aa},gm Y e z a aa->(∀q∈aA a,q∈l)->gm Y' e z a aa)->(∀q∈aA j,q∉l/\q.1=12)->(∀q∈aA k,q∉l/\q.1=31)->K (.a [iv S,j,k,iv ev]) Y'):cV 200 [.a [iv S,T,x2,iv ev]] Y d K:=by subst e1 e2;have N:L (Nm [12,31] l Y)=4096:=aOr.trans hl;have u:∀{l':List Id} {q:Id},q.1=12\/q.1=31->q∈l'->A6 [12,31] l' q:=λh h'=>⟨by rcases h with h|h<;>simp[h],h'⟩;have E:∀{e z a aa},gm Y e z a aa->(∀q∈aA a,q∈l)->gm (Nm [12,31] l Y) e z a aa:=λg h=>a6y g λq b=>u (w q (h q b)) (h q b);refine aQN rfl rfl l (λx i=>?_) ?_ (a6M N (.inl ⟨_,_,rfl⟩) (.inl ⟨_,_,rfl⟩) (by simp[aA,sl]) W X Z) ?_;simp only[cE] at i;subst i;intro c v;simp only[eW,ql,y6] at v;rcases v with rfl|rfl|rfl|rfl;trivial;exact .inl (by simp[eN]);exact .inl (by simp[eN]);trivial;intro p m x i B;obtain⟨e,z,a,aa,g,b⟩:=D p m;rw[aOV (by rcases w p m with h|h<;>simp[h]),bX m] at i;exact(aNO g p b x i B).elim;rintro r Y1 ⟨j,k,rfl,g1,C,F,p1,H⟩;have s:L Y1=L Y:=F.len.trans aOr;have P:∀q∈aA j,A6 [12,31] (l++(aA j++aA k)) q:=λq b=>u (.inl (p1 q b).2) (by simp[b]);have R:∀q∈aA k,A6 [12,31] (l++(aA j++aA k)) q:=λq b=>u (.inr (H q b).2) (by simp[b]);have o:∀q∈l,∃x,box (Nm [12,31] l Y) q=V x:=λq b=>(by obtain⟨e,z,a,aa,g,O⟩:=D q b;obtain⟨x,i⟩:=aTi g q O;exact⟨x,by rw[aOV (by rcases w q b with h|h<;>simp[h]),bX b];exact i⟩);refine⟨s,l++(aA j++aA k),λp m x i B=>?_,λc v=>?_,hK j k _ (aRR s g1 P) (aRR s C R) Kx.mix (λg h=>aRR s ((E g h).fx F (by simp)) λq b=>u (w q (h q b)) (by simp[h q b])) (λq b=>⟨λA=>?_,(p1 q b).2⟩) λq b=>⟨λA=>?_,(H q b).2⟩⟩;rcases dF.1 m with h|h;obtain⟨e,z,a,aa,g,b⟩:=D p h;obtain⟨y,G⟩:=o p h;have M:=F.kq G;rw[i] at M;cases M;rw[aOV (by rcases w p h with h|h<;>simp[h]),bX h] at G;exact(aNO g p b x G B).elim;rcases dF.1 h with h|h;exact(aNO g1 p h x i B).elim;exact(aNO C p h x i B).elim;simp only[eW,ql,y6] at v;rcases v with rfl|rfl|rfl|rfl;trivial;exact aQw g1 P;exact aQw C R;trivial;obtain⟨x,i⟩:=o q A;exact(p1 q b).1.no x i;obtain⟨x,i⟩:=o q A;exact(H q b).1.no x i
def aTn{b:Id}{i j:Nat}:cD (.p b i j)=[b.1]:=rfl
def a6H{r:List (List AV)}{t o:Bool}:cD (.l r t o)=[]:=rfl
def bc7{α:Type}{f:α->List AV}{l:List α}:cD (sl f l)=[]:=rfl
def aWx{Y:ae}{ds:List Nat}{e:TypeId}{z:Nat}{a:AV}{aa:List (List AV)}(g:Gr Y ds e z a aa):gm Y e z a aa/\∀q∈aA a,q.1∈ds:=by rcases g with⟨b,c⟩|⟨d,v,b,c,i⟩;exact⟨.inl ⟨b,c⟩,by subst c;simp[aA]⟩;refine⟨.inr ⟨_,[],b,by simpa using i⟩,?_⟩;subst b;intro q h;simp only[aA,cE] at h;subst h;exact c
def baS{s:aW}{Y:ae}{d:Nat}{K:be}(R:L Y=4096)(z:L s.ak<100000/\L s.done<100000/\L s.ay<100000/\∀l∈s.ak,L l.bk<1000000)(P:∀g i j Y',Kx [10,14,41] Y Y'->(∀k∈cD (.a [g,iv s.tx,i,j]),k=10\/k=14\/k=41)->K (.a [g,iv s.tx,i,j]) Y'):cV 161 [.a s.c] Y d K:=by have D:L (Nm [10,14,41] [] Y)=4096:=aOr.trans R;refine aQN rfl rfl [] (λx o=>?_) (by intro p z;simp at z) (aCH s D z) ?_;simp only[cE] at o;subst o;intro c t;simp only[aW.c,eW,ql,y6] at t;rcases t with rfl|rfl|rfl|rfl;exact .inl (by simp[eN]);trivial;exact .inl (by simp[eN]);exact .inl (by simp[eN]);rintro r Y1 ⟨⟨g,i,j,rfl,g1,M,N⟩,F⟩;obtain⟨v,E⟩:=aWx g1;obtain⟨w,G⟩:=aWx M;obtain⟨y,H⟩:=aWx N;have C:L Y1=L Y:=F.1.trans aOr;have B:∀{q:Id},q.1=10\/q.1=14\/q.1=41->q∈aA g++(aA i++aA j)->A6 [10,14,41] (aA g++(aA i++aA j)) q:=λh O=>⟨by rcases h with h|h|h<;>simp[h],O⟩;have S:∀q∈aA g,A6 [10,14,41] (aA g++(aA i++aA j)) q:=λq b=>B (.inr (.inr (by simpa using E q b))) (by simp[b]);have T:∀q∈aA i,A6 [10,14,41] (aA g++(aA i++aA j)) q:=λq b=>B (.inl (by simpa using G q b)) (by simp[b]);have W:∀q∈aA j,A6 [10,14,41] (aA g++(aA i++aA j)) q:=λq b=>B (.inr (.inl (by simpa using H q b))) (by simp[b]);refine⟨C,aA g++(aA i++aA j),λp u x o A=>?_,λc t=>?_,P g i j _ Kx.mix λk m=>?_⟩;simp only[dF] at u;rcases u with h|h|h;exact(aNO v p h x o A).elim;exact(aNO w p h x o A).elim;exact(aNO y p h x o A).elim;simp only[eW,ql,y6] at t;rcases t with rfl|rfl|rfl|rfl;exact aQw v S;trivial;exact aQw w T;exact aQw y W;have e:cD (.a [g,iv s.tx,i,j])=dK g++(dK i++dK j):=(by simp[cD,dC,dK]);rw[e] at m;simp only[dF] at m;rcases m with m|m|m;obtain⟨q,b,rfl⟩:=aQu v m;have:=E q b;simp at this;omega;obtain⟨q,b,rfl⟩:=aQu w m;have:=G q b;simp at this;omega;obtain⟨q,b,rfl⟩:=aQu y m;have:=H q b;simp at this;omega
def alx(f:Nat->AV×AV)(ss:List pt)(n:Nat):List (List AV):=(aH n).map λk=>[iv (gd ss k).pc,(f k).1,(f k).2,iv (gd ss k).ac]
def G2(vr:Bool)(Y:ae)(a:AV)(t:List (List Int)):Prop:=bif vr then t=er (L t) []/\∃b,a= .m b (L t)/\box Y b=V ⟨38,1,U,U,er (L t) [.l [] U U]⟩ else gm Y 38 1 a (t.map cl)
theorem G2.fx{vr:Bool}{Y Y':ae}{a:AV}{t:List (List Int)}{c:List Id}(g:G2 vr Y a t)(F:Fx Y Y' c)(h:∀q∈aA a,q∉c):G2 vr Y' a t:=by cases vr with|false=>exact gm.fx g F h|true=>obtain⟨d,b,rfl,e⟩:=g;exact⟨d,b,rfl,F.keep _ _ (h b (by simp[aA])) e⟩
def aWh{Y:ae}{e:TypeId}{z:Nat}{a:AV}{aa:List (List AV)}(g:gm Y e z a aa):rS Y a= .l aa I I:=by rcases g with⟨rfl,rfl⟩|⟨b,m,rfl,c⟩;rfl;simp[rS,aOn,c,gK]
theorem G2.fr{vr:Bool}{Y:ae}{a:AV}{t:List (List Int)}(g:G2 vr Y a t):rS Y a=sl cl t:=by cases vr with|false=>exact aWh g|true=>obtain⟨d,b,rfl,h⟩:=g;have e:(((er (L t) [AV.l [] U U]).take (L t)).all λr=>r.all λc=>eN (frM Y c))=U:=(by rw[dV];intro r i;rw[(List.mem_replicate.1 (sA i)).2];rfl);simp only[rS,aOn,h,e,vm,gK];rw[cj (by decide)];simp only[sl];rw[d];simp[List.map_replicate,frM,gi,gK,sl,cl]
structure O9(pl:Nat×Nat×Nat)(vr:Bool)(Y:ae)(a:AV)(f:Nat->AV×AV)(ss:List pt)(n:Nat):Prop where
 bx:(n=0/\a= .l [] U U)\/∃b,a= .m b n/\b.1=pl.2.2/\box Y b=V ⟨196,4,U,U,alx f ss n⟩
 g1:∀k,k<n->gm Y 2 1 (f k).1 ((gd ss k).li.map ci)
 g2:∀k,k<n->G2 vr Y (f k).2 (gd ss k).lj
 p1:∀k,k<n->∀q∈aA (f k).1,q.1=pl.1
 p2:∀k,k<n->∀q∈aA (f k).2,q.1=pl.2.1
 d1:∀i j,i<n->j<n->i≠j->∀q∈aA (f i).1,q∉aA (f j).1
 d2:∀i j,i<n->j<n->i≠j->∀q∈aA (f i).2,q∉aA (f j).2
def aQ8{f:Nat->AV×AV}{ss:List pt}{n:Nat}:L (alx f ss n)=n:=by simp[alx]
def aTy{f:Nat->AV×AV}{ss:List pt}{n k:Nat}(h:k<n):(alx f ss n)[k]?=V [iv (gd ss k).pc,(f k).1,(f k).2,iv (gd ss k).ac]:=by simp[alx,ve,List.getElem?_range h]
def ext(f:Nat->AV×AV)(n:Nat)(x:AV×AV):Nat->AV×AV:=λk=>if k=n then x else f k
def be5{f:Nat->AV×AV}{ss:List pt}{n:Nat}{x:AV×AV}:alx (ext f n x) ss (n+1)=alx f ss n++[[iv (gd ss n).pc,x.1,x.2,iv (gd ss n).ac]]:=by simp only[alx,List.range_succ,dg,ji,mU,ext,vm];congr 1;refine ja λk b=>?_;have:k≠n:=(by have:=fq.1 b;omega);rw[cj this]
section
variable{pl:Nat×Nat×Nat}{vr:Bool}{Y Y':ae}{a:AV}{f:Nat->AV×AV}{ss:List pt}{n:Nat}
def aPi(f:Nat->AV×AV)(n:Nat):List Id:=(aH n).flatMap λk=>aA (f k).1++aA (f k).2
def aXS{q:Id}(h:q∈aPi f n):∃k,k<n/\(q∈aA (f k).1\/q∈aA (f k).2):=by simp only[aPi,iI,fq,dF] at h;exact h
def aWy{k:Nat}(b:k<n):∀q∈aA (f k).1,q∈aPi f n:=λq c=>by
 simp only[aPi,iI,fq,dF];exact⟨k,b, .inl c⟩
def aWz{k:Nat}(b:k<n):∀q∈aA (f k).2,q∈aPi f n:=λq c=>by
 simp only[aPi,iI,fq,dF];exact⟨k,b, .inr c⟩
theorem O9.fx(T:O9 pl vr Y a f ss n){g:List Id}(F:Fx Y Y' g)(d:∀q∈g,q.1≠pl.1/\q.1≠pl.2.1/\q.1≠pl.2.2):O9 pl vr Y' a f ss n:=⟨T.bx.elim .inl λ⟨b,j,i,m⟩=> .inr ⟨b,j,i,F.keep _ _ (λh=>(d _ h).2.2 i) m⟩,λk c=>(T.g1 k c).fx F λq e h=>(d q h).1 (T.p1 k c q e),λk c=>(T.g2 k c).fx F λq e h=>(d q h).2.1 (T.p2 k c q e),T.p1,T.p2,T.d1,T.d2⟩
def O9.ids(T:O9 pl vr Y a f ss n):∀q∈aA a,q.1=pl.2.2:=by rcases T.bx with⟨_,rfl⟩|⟨b,rfl,h,_⟩;simp[aA];simpa[aA] using h
def O9.ce(T:O9 pl vr Y a f ss n):eY a=V [a]:=by rcases T.bx with⟨_,rfl⟩|⟨b,rfl,h,_⟩<;>rfl
def a7Q{r ev:Int}{p x2:AV}{o d by':Nat}{zs z0:List AV}{K:AV->be}(T:O9 pl vr Y a f ss n)(hz:L zs=4)(w:L z0=4)(G:o<L Y)(W:d=pl.2.2)(ap:d<L Y)(h3:pl.2.2≠pl.1/\pl.2.2≠pl.2.1)(P:(n+1)*(by'+1)<=1099511627776)(Z:r=(gd ss n).pc)(X:ev=(gd ss n).ac)(g1:gm Y 2 1 p ((gd ss n).li.map ci))(O:G2 vr Y x2 (gd ss n).lj)(p1:∀q∈aA p,q∉aPi f n/\q.1=pl.1)(B:∀q∈aA x2,q∉aPi f n/\q.1=pl.2.1)(hK:∀y N Y',(∃v,y= .m (o,v) 1)->O9 pl vr Y' N (ext f n (p,x2)) ss (n+1)->Fx Y Y' (aA a)->(∀q∈aA N,∀x,box Y q≠V x)->K y N Y'):eV (lvS 196 zs 1 Y o [(0, .a [iv r,p,x2,iv ev])]) λy s=>eV (avA 196 z0 by' s d a y) (K y):=by subst Z X;have h1:lvS 196 zs 1 Y o [(0, .a [iv (gd ss n).pc,p,x2,iv (gd ss n).ac])]=V (.m (lA Y o) 1,put Y o ⟨196,L zs,U,U,[[iv (gd ss n).pc,p,x2,iv (gd ss n).ac]]⟩):=(by simp[lvS,eY,hz,y7,G]);rw[h1];show eV (avA 196 z0 by' (put Y o _) d a (.m (lA Y o) 1)) (K (.m (lA Y o) 1));have z:Fx Y (put Y o ⟨196,L zs,U,U,[[iv (gd ss n).pc,p,x2,iv (gd ss n).ac]]⟩) []:=kH G;have R:=iy (x:=(⟨196,L zs,U,U,[[iv (gd ss n).pc,p,x2,iv (gd ss n).ac]]⟩:bY)) G;generalize put Y o ⟨196,L zs,U,U,[[iv (gd ss n).pc,p,x2,iv (gd ss n).ac]]⟩=C at*;have T1:=T.fx z (by simp);have aq:=z.len;have aa:aEx U C (.m (lA Y o) 1)=V [[iv (gd ss n).pc,p,x2,iv (gd ss n).ac]]:=(by simp[aEx,R]);have mk:∀(M:ae) (b:Id),b.1=pl.2.2->(∀x,box Y b≠V x)->Fx Y M (aA a)->box M b=V ⟨196,4,U,U,alx f ss n++[[iv (gd ss n).pc,p,x2,iv (gd ss n).ac]]⟩->K (.m (lA Y o) 1) (.m b (n+1)) M:=λM b S hn F H=>(by have u:∀q∈aA a,q.1≠pl.1/\q.1≠pl.2.1:=λq c=>(by have:=T.ids q c;rw[this];exact h3);refine hK _ _ M ⟨_,rfl⟩ ⟨.inr ⟨b,rfl,S,by rw[be5];exact H⟩,λk A=>?_,λk A=>?_,λk A=>?_,λk A=>?_,λi j hi hj t=>?_,λi j hi hj t=>?_⟩ F λq c=>?_;by_cases e:k=n;subst e;simp only[ext,vm];exact g1.fx F λq c h=>(u q h).1 (p1 q c).2;simp only[ext,cj e];exact(T.g1 k (by omega)).fx F λq c h=>(u q h).1 (T.p1 k (by omega) q c);by_cases e:k=n;subst e;simp only[ext,vm];exact O.fx F λq c h=>(u q h).2 (B q c).2;simp only[ext,cj e];exact(T.g2 k (by omega)).fx F λq c h=>(u q h).2 (T.p2 k (by omega) q c);by_cases e:k=n;subst e;simp only[ext,vm];exactλq c=>(p1 q c).2;simp only[ext,cj e];exact T.p1 k (by omega);by_cases e:k=n;subst e;simp only[ext,vm];exactλq c=>(B q c).2;simp only[ext,cj e];exact T.p2 k (by omega);intro q c g;by_cases e:i=n;subst e;simp only[ext,vm,cj (Sa t)] at c g;exact(p1 q c).1 (aWy (by omega) q g);by_cases D:j=n;subst D;simp only[ext,vm,cj e] at c g;exact(p1 q g).1 (aWy (by omega) q c);simp only[ext,cj e,cj D] at c g;exact T.d1 i j (by omega) (by omega) t q c g;intro q c g;by_cases e:i=n;subst e;simp only[ext,vm,cj (Sa t)] at c g;exact(B q c).1 (aWz (by omega) q g);by_cases D:j=n;subst D;simp only[ext,vm,cj e] at c g;exact(B q g).1 (aWz (by omega) q c);simp only[ext,cj e,cj D] at c g;exact T.d2 i j (by omega) (by omega) t q c g;simp only[aA,cE] at c;subst c;exact hn);unfold avA;rw[aa];simp only[List.length_cons,List.length_nil];rw[cj (by decide),bX ⟨by omega,by simp[y7];omega,by simp[w]⟩];rcases T1.bx with⟨h0,rfl⟩|⟨b,rfl,ao,E⟩;subst h0;simp only;rw[bX ⟨by simp,by simpa[lx] using P⟩];refine mk _ (lA C d) W (λx H=>(qQ C d).no x (z.kq H)) ((z.trans (kH (by omega))).mono (by simp)) ?_;rw[<-w];exact iy (by omega);simp only[E];rw[bX ⟨trivial,trivial,w.symm,by simp[aQ8],by simpa[lx] using P⟩];have A:d<L (kill C b):=(by rw[yg];omega);refine mk _ (lA C d) W (λx H=>(qQ C d).no x (z.kq H)) (((z.trans (Le E)).trans (kH A)).mono (by simp[aA])) ?_;rw[<-anF E,<-w];have e:(alx f ss n).take n=alx f ss n:=oB (by rw[aQ8];omega);simp only[e];exact iy A
end
def O9.fz{pl:Nat×Nat×Nat}{vr:Bool}{Y:ae}{a:AV}{f:Nat->AV×AV}{ss:List pt}(T:O9 pl vr Y a f ss (L ss)):fz Y a=sl pt.c ss:=by rcases T.bx with⟨o,rfl⟩|⟨b,rfl,_,q⟩;have:=List.length_eq_zero_iff.1 o;subst this;rfl;have i:(alx f ss (L ss)).map (·.map (rS Y))=ss.map pt.c:=(by refine aqI λk=>?_;rcases jj k (L ss) with d|d;rw[ve,aTy d,ve,eC d];have j:=aWh (T.g1 k d);have m:=(T.g2 k d).fr;simp only[df,ji,mU,j,m,bT d];rfl;rw[qi (by simpa[aQ8] using d),qi (by simpa using d)]);have e:(alx f ss (L ss)).take (L ss)=alx f ss (L ss):=oB (by rw[aQ8];omega);have p:((alx f ss (L ss)).all λr=>r.all λc=>eN (rS Y c))=U:=(by rw[dV];intro r u;rw[dV];intro c t;have g:=CA (f:=(·.map (rS Y))) u;rw[i] at g;obtain⟨s,_,v⟩:=dN.1 g;have:=CA (f:=rS Y) t;rw[<-v] at this;simp only[pt.c,eW,ql,y6] at this;rcases this with h|h|h|h<;>rw[h]<;>simp[eN,sl]);simp only[Ab.fz,dQ,q,e,p,vm,i];rw[cj (by decide)];rfl
theorem Kx.fx{ks:List Nat}{Y Y' c:ae}{d:List Id}(k:Kx ks Y Y')(F:Fx Y' c d)(h:∀q∈d,q.1∈ks\/∀x,box Y q≠V x):Kx ks Y c:=⟨F.len.trans k.len,λb x e i=>F.keep _ _ (λj=>(h b j).elim e λg=>g x i) (k.keep _ _ e i)⟩
def Kx.kx{ks ks':List Nat}{Y Y' c:ae}(k:Kx ks Y Y')(e:Kx ks' Y' c)(h:∀n∈ks',n∈ks):Kx ks Y c:=⟨e.len.trans k.len,λb x d i=>e.keep _ _ (λg=>d (h _ g)) (k.keep _ _ d i)⟩
theorem Kx.no{ks:List Nat}{Y Y':ae}{b:Id}(k:Kx ks Y Y')(c:b.1∉ks)(h:∀x,box Y' b≠V x):∀x,box Y b≠V x:=λx d=>h x (k.keep _ _ c d)
def a79(Y:ae)(s:pm)(r:AV)(Y1:ae):Prop:=∃d e g c b a f,r= .a [d,iv s.bm.tx,e,g,c,b,a]/\(∀k∈cD (.a [d,iv s.bm.tx,e,g]),k=10\/k=14\/k=41)/\gm Y1 2 1 c (s.cells.map ci)/\gm Y1 2 1 b (s.bU.map ci)/\O9 (12,31,33) I Y1 a f s.ay (L s.ay)/\Kx [10,12,14,31,41] Y Y1/\(∀q∈aA c,q.1=11/\∀x,box Y q≠V x)/\(∀q∈aA b,q.1=15/\∀x,box Y q≠V x)/\∀q∈aA a,∀x,box Y q≠V x
def bds{s:pm}{Y:ae}(hl:L Y=4096)(h1:L s.bm.ak<100000/\L s.bm.done<100000/\L s.bm.ay<100000/\∀l∈s.bm.ak,L l.bk<1000000)(h2:L s.cells<=1000)(W:L s.bU<=1000)(h4:L s.ay<=1000)(h5:∀t∈s.ay,L t.li<=1000/\L t.lj<=1000/\∀x∈t.lj,L x<=1000):∃r Y1,a79 Y s r Y1/\cZ aS GG 169 [.a s.c] Y r Y1:=by refine bhg hl rfl λs2 v1 K2 co nf b1=>?_;have F2:Fx Y s2 []:=K2.fx [];have aw:=F2.len.trans hl;simp only[aSz];refine so aw λv2 s3 F3 N3 b3=>?_;have c1:=F3.kq b1;have ax:=F3.len.trans aw;have k1:∀{x:List AV} {y:AV},aN J (y::x)=V y:=λ{x y}=>(by cases y<;>rfl);have k7:=@r7A;simp only[a3j,u0,u1,c1,gw,aj,↓uL];refine baS ax h1 λM N O s8 X8 av=>?_;have az:=X8.len.trans ax;have aq:=X8.kq c1;have bi:=X8.kq b3;simp only[nS,bQ,a3i,u0,u1,aq,gw,aj,↓uL];refine apV (aa:=[]) (e:=2) (z:=1) (new:=s.cells.map ci) (.inl ⟨rfl,rfl⟩) rfl rfl (by decide) (by rw[az];decide) (by simp) fF (by simp;omega) λD s9 g4 F9 P9=>?_;simp only[dW] at g4;have C:Fx s8 s9 []:=F9.mono (by simp[aA]);have K:∀q∈aA D,bK s8 q/\q.1=11:=λq d=>(P9 q d).elim (λh=>by simp[aA] at h) id;have aB:=C.len.trans az;have ar:=C.kq aq;have bj:=C.kq bi;simp only[a3h,u0,u1,ar,gw,aj,↓uL];refine apV (aa:=[]) (e:=2) (z:=1) (new:=s.bU.map ci) (.inl ⟨rfl,rfl⟩) rfl rfl (by decide) (by rw[aB];decide) (by simp) fF (by simp;omega) λE aD g5 a6 ba=>?_;simp only[dW] at g5;have o:Fx s9 aD []:=a6.mono (by simp[aA]);have A:∀q∈aA E,bK s9 q/\q.1=15:=λq d=>(ba q d).elim (λh=>by simp[aA] at h) id;have X:=o.len.trans aB;have aP:=o.kq ar;have aM:=o.kq bj;have bn:=g4.fx o (by simp);have bu:bM NY anY [(0, .a [M,iv s.bm.tx,N,O]),(1,D),(2,E)]=V (.a [M,iv s.bm.tx,N,O,D,E, .l [] U U]):=(by rcases g4 with⟨_,rfl⟩|⟨q4,m4,rfl,_⟩<;>rcases g5 with⟨_,rfl⟩|⟨q5,m5,rfl,_⟩<;>rfl);simp only[a3g,bu,aY];refine so X λv3 ch aE ao aK=>?_;refine qr aK rfl rfl λbH aF be=>?_;have w:Fx aD bH []:=(aE.trans aF).mono λq d=>(by simp at d;subst d;exact .inr ao.no);have aQ:=w.kq aP;have aO:=w.kq aM;have aR:=bn.fx w (by simp);have aT:=g5.fx w (by simp);have aX:=w.len.trans X;have X3:Kx [10,12,14,31,41] Y s3:=((F2.trans F3).kx (by simp));have S:=X3.kx X8 (by simp);have ap:=(S.fx C (by simp)).fx o (by simp);have bc:=ap.fx w (by simp);have F:∀{q:Id},q∈aA D->q.1=11/\∀x,box Y q≠V x:=λ{q} d=>⟨(K q d).2,S.no (by simp[(K q d).2]) (K q d).1.no⟩;have G:∀{q:Id},q∈aA E->q.1=15/\∀x,box Y q≠V x:=λ{q} d=>⟨(A q d).2,(S.fx C (by simp)).no (by simp[(A q d).2]) (A q d).1.no⟩;have bG:∀x,box Y (3,v3)≠V x:=ap.no (by simp) ao.no;have bF:∀x,box Y (2,v2)≠V x:=(F2.kx (ks:=[]) (by simp)).no (by simp) N3.no;simp only[a3f];refine dT ?_ ?_;have h4:3∉cD D:=λh=>(by rcases O1.keys (P:=λp=>p=11) (.of g4) (λq d=>(K q d).2) with e|⟨p,e,e'⟩<;>rw[e] at h<;>simp at h;omega);have h5:3∉cD E:=λh=>(by rcases O1.keys (P:=λp=>p=15) (.of g5) (λq d=>(A q d).2) with e|⟨p,e,e'⟩<;>rw[e] at h<;>simp at h;omega);have h0:3∉cD (.a [M,iv s.bm.tx,N,O]):=λh=>(by have:=av _ h;omega);generalize AV.a [M,iv s.bm.tx,N,O]=b0 at h0⊢;simp[eL,lb,Cz,aTn,a6H,bc7];exact⟨λx H e=>h0 (e▸H),λx H e=>h4 (e▸H),λx H e=>h5 (e▸H)⟩;refine yV (L s.ay) (λk _ x=>∃a f,L x=4096/\box x (1,v1)=V ⟨87,7,U,U,[s.c]⟩/\box x (2,v2)=V ⟨87,7,U,U,[NY]⟩/\box x (3,v3)=V ⟨87,7,U,U,[[M,iv s.bm.tx,N,O,D,E,a]]⟩/\gm x 2 1 D (s.cells.map ci)/\gm x 2 1 E (s.bU.map ci)/\O9 (12,31,33) I x a f s.ay k/\Kx [10,12,14,31,41] Y x/\∀q∈aA a,∀y,box Y q≠V y) ⟨.l [] U U,λ_=>(.u, .u),aX,aQ,aO,be,aR,aT,⟨.inl ⟨rfl,rfl⟩,by simp,by simp,by simp,by simp,by simp,by simp⟩,bc,by simp[aA]⟩ ?_;rintro k _ x hk ⟨a,f,aC,m1,m2,m3,ga,gb,T,iq,na⟩;simp only[a3k,au,aI,u0,u1,m1,m3,rk,gw,k1,k7,aj,y9,bh,↓uL];refine⟨λh=>?_,λh=>?_⟩;have Z:=aL h;refine⟨dJ Z,?_⟩;obtain⟨q1,q2,q3⟩:=h5 _ (dB Z);show cV 200 [.a [iv (gd s.ay k).pc,sl ci (gd s.ay k).li,sl cl (gd s.ay k).lj,iv (gd s.ay k).ac]] _ _ _;refine baT aC rfl rfl q1 q2 q3 (aPi f k) (λp hp=>?_) (λp hp=>?_) λx1 x2 y G1 an Y af P1 P2=>?_;obtain⟨j,m,h|h⟩:=aXS hp;exact⟨_,_,_,_,T.g1 j m,h⟩;exact⟨_,_,_,_,T.g2 j m,h⟩;obtain⟨j,m,h|h⟩:=aXS hp;exact .inl (T.p1 j m p h);exact .inr (T.p2 j m p h);have Ty:O9 (12,31,33) I y a f s.ay k:=⟨T.bx.elim .inl λ⟨b,h1,h2,W⟩=> .inr ⟨b,h1,h2,Y.keep _ _ (by simp[h2]) W⟩,λj m=>af (T.g1 j m) (aWy m),λj m=>af (T.g2 j m) (aWz m),T.p1,T.p2,T.d1,T.d2⟩;have ab:=Y.len.trans aC;have o1:=Y.kq m1;have o2:=Y.kq m2;have o3:=Y.kq m3;have bp:=Y.gr ga λq d=>(by simp[(F d).1]);have br:=Y.gr gb λq d=>(by simp[(G d).1]);have Xy:=iq.kx Y (by simp);simp only[a3e];refine a7Q Ty rfl rfl (by rw[ab];decide) rfl (by rw[ab];decide) (by decide) (by omega) rfl rfl G1 an P1 P2 λz a' bI hz R g a8=>?_;obtain⟨vz,rfl⟩:=hz;have ad:∀q∈aA a,q.1=33:=T.ids;have o4:=g.keep _ _ (λd=>by have:=ad _ d;simp at this) o3;simp only[a3d,u0,u1,o4,aj,↓uL];refine A0 o4 R.ce (by simp) λcp v bg=>?_;simp only[a3c,↓uL];refine dT ?_ ?_;have H:∀j∈cD (.a [iv (gd s.ay k).pc,x1,x2,iv (gd s.ay k).ac]),j=12\/j=31:=λj m=>(by have e:cD (.a [iv (gd s.ay k).pc,x1,x2,iv (gd s.ay k).ac])=dK x1++dK x2:=(by simp[cD,dC,dK]);rw[e] at m;rcases dF.1 m with h|h;obtain⟨q,d,rfl⟩:=aQu G1 h;exact .inl (P1 q d).2;obtain⟨q,d,rfl⟩:=aQu an h;exact .inr (P2 q d).2);have W:3∉cD (.a [iv (gd s.ay k).pc,x1,x2,iv (gd s.ay k).ac]):=λh=>(by have:=H _ h;omega);generalize AV.a [iv (gd s.ay k).pc,x1,x2,iv (gd s.ay k).ac]=b0 at W⊢;simp[eL,lb,Cz,aTn,W];simp only[au,u0,u1];have B:∀{b:Id},b.1≠33->b∉aA a:=λhb d=>hb (ad _ d);refine dR (mk:=λ(_:Unit) i=>[iv i]) (s:=()) (s':=()) (λ_ _=>rfl) Z (by omega) ⟨a',_,(v.len.trans g.len).trans ab,v.kq (g.keep _ _ (B (by simp)) o1),v.kq (g.keep _ _ (B (by simp)) o2),bg,(bp.fx g λq d=>B (by simp[(F d).1])).fx v λq d e=>?_,(br.fx g λq d=>B (by simp[(G d).1])).fx v λq d e=>?_,R.fx v (by simp),(Xy.fx g λq d=> .inr (na q d)).fx v λq d=> .inr (by simp at d;subst d;exact bG),λq d=>Xy.no (by rw[R.ids q d];decide) (a8 q d)⟩;simp at e;subst e;have:=(F d).1;simp at this;simp at e;subst e;have:=(G d).1;simp at this;have bv:k=L s.ay:=bP hk (bw h);subst bv;refine qr m2 rfl rfl λbI g bf=>?_;simp only[bf,qd,qh,df,k7,aY];refine⟨M,N,O,D,E,a,f,rfl,av,ga.fx g λq d e=>?_,gb.fx g λq d e=>?_,T.fx g (by simp),iq.fx g λq d=> .inr (by simp at d;subst d;exact bF),λq d=>F d,λq d=>G d,na⟩;simp at e;subst e;have:=(F d).1;simp at this;simp at e;subst e;have:=(G d).1;simp at this
def a7F:dO:=aYd
def aX6:eJ a7F:=a7n
def aWl:=@bcx
section
attribute[local irreducible] aX
def a9M:=bi 14 [(6,([5],[2,3]))]
def a39 e g f R(H:aG)(i:bu) j a:=ab 0 a e λk=>aU k (iv 0) λb=>bn b 0 a e λl=>bn b 6 a g λm=>ic b (gt f 0) λn=>aC b (ao 2 a m n) λo=>bn b 1 a o λp=>aC b (aJ a p) λq=>aC b (aO .geq l q) λr=>aD b (bv U) r λc=>bn c 1 a e λs=>aC c (aJ a s) λt=>bn c 6 a g λu=>ic c (gt f 0) λv=>aC c (ao 2 a u v) λw=>bn c 0 a w λx=>aC c (aO .neq t x) λy=>aD c (bv U) y λd=>bn d 2 a e λz=>aC d (aJ a z) λA=>bn d 6 a g λB=>ic d (gt f 0) λC=>aC d (ao 2 a B C) λD=>bn d 0 a D λE=>aC d (aO .neq A E) λF=>aD d (bv U) F λG=>ah G (aE R a [(bv I)]) (aV (gt f 0) (iv 1) λh=>H [h] a/\i [h] a<i f j)
def a4a d n R l m b a:=∀_:Rg,ab 6 a d λf=>aJ a f λg=>aU (gt b 0) g λh=>ah h (ab 6 a n λi=>ao 4 a i (gt b 0) λj=>aw 4 a j λk=>eV (bs 196 aoD a 6) λc e=>sV (aK 4 e c k) (a39 c d b R l m a)) (aE R a [(bv U)])
def a38 d f a R:=aw 7 a d λF=>fV aRk a [F] λG=>cf G λg=>aC g (aB 0 a d) λh=>aC g (aw 6 a h) λi=>aC g (aB 0 a f) λj=>aC g (aw 4 a j) λk=>aC g (fV BZ a [i,k]) λl=>aC g (cf l) λm=>aD g (bv U) m λb=>bn b 4 a f λn=>aC b (aJ a n) λo=>aC b (aB 0 a d) λp=>bn b 0 a p λq=>aC b (aJ a q) λr=>aC b (aO .neq o r) λs=>aD b (bv U) s λc=>bn c 5 a f λt=>aC c (aJ a t) λu=>aC c (aB 0 a d) λv=>bn c 3 a v λw=>aC c (aJ a w) λx=>aC c (aO .neq u x) λy=>aD c (bv U) y λe=>bn e 6 a f λz=>aC e (aJ a z) λA=>bn e 6 a d λB=>aC e (aJ a B) λC=>aC e (aO .neq A C) λD=>aD e (bv U) D λE=>ah E (aE R a [(bv I)]) (lV [(iv 0)] a (a4a d f R))
def bhl{b:List AV}{c:List AV}{R:d7}(l0:L b=7)(l1:L c=7)(h:H2 92 7 2 b 87 7 3 c λd e f=>a38 d e f R):Ct 197 [.a b, .a c] R:=z2 a9M aX6 Tryz.func197 l0 l1 h
def a9L:=bi 24 [(7,([4],[1,2,3])),(13,([5],[1,2,3])),(19,([6],[1,2,3]))]
def a3E b i g k l m a n o p j q s r(f:aG)(c:bu) h d:=dH [(bo b),(bo i),(bo g),(bo k),(bo l),km,(lb U [m,(gt a 0)] []),(bo n),(bo o),(lb I [p] []),(lb I [j,q] [33]),(bo b),(lb I [s,r] [])] [(0,9),(1,9)] (aV (gt a 0) (iv 1) λe=>f [e] d/\c [e] d<c a h)
def a3G a j g l m n e o p q k r f h i c b:=aB 4 b a λd=>sV (aK 1 b d c) (a3E a j g l m n e o p q k r d c f h i)
def a3H a(e:aG)(b:bu) f c:=aV (gt a 0) (iv 1) λd=>e [d] c/\b [d] c<b a f
def a3I b c d e f g a:=aB 5 a b λh=>sV (aK 1 a h g) (a3H c d e f)
def a3J b k c m n a o p f r s t u g q v w l x z y(i:aG)(d:bu) j e:=dH [(bo b),(bo k),(bo c),(bo m),km,(lb U [n,(gt a 0)] []),(bo o),(bo p),(lb I [f,f] [63]),(bo c),(bo r),km,(lb U [s,(gt a 0)] []),(bo t),(bo u),(lb I [g,g] [70]),(lb U [q,v] []),(lb I [w] [72]),(lb I [l,x] [73]),(bo b),(lb I [z,y] [])] [(0,8),(1,8),(8,9),(8,10),(8,11),(8,12),(8,13),(8,14),(0,15),(1,15),(2,15),(3,15),(4,15),(5,15),(6,15),(7,15),(8,15),(0,17),(1,17)] (aV (gt a 0) (iv 1) λh=>i [h] e/\d [h] e<d a j)
def a3K a j g l m e n o p r s t u v q w x k y f h i c b:=aB 6 b a λd=>sV (aK 1 b d c) (a3J a j g l m e n o p r s t u v q w x k y d c f h i)
def a3L b a f n i o p g q r s t u v w x h j k c l:=rV (bM aoD alz [(1,b),(2,c)]) λd=>eV (lvS 196 a70 1 l 72 [(0,d)]) λe m=>eV (avA 196 aoD 64 m 73 a e) (a3K f n i o p g q r s t u v w x b c d a e h j k)
def a3M d c n i m o p q r s j k l t a:=aB 6 a d λe=>aM a e λf=>ao 2 a f (gt c 0) λg=>aB 0 a g λh=>aM a h λb=>eV (qO 38 aYp 24 a 70 b b) (a3L t n i m d o p c q r s e f g h b j k l)
def a3P d b t3 R l m c a:=∀_:Rg,ab 6 a d λn=>aJ a n λo=>aU (gt c 0) o λp=>ah p (aB 6 a b λg=>aM a g λq=>aB 6 a d λh=>aM a h λi=>ao 2 a i (gt c 0) λj=>aB 0 a j λk=>aM a k λe=>eV (qO 2 yW 8 a 63 e e) (a3M d c q b g h i j k e l m a)) (aw 7 a b λr=>sV (aK 7 a t3 r) λf=>aw 7 f t3 λs=>aE R f [s])
def a3O d b t3 R e f c a:=∀_:Rg,aB 0 a d λh=>ab 3 a h λi=>aJ a i λj=>aU (gt c 0) j λk=>ah k (ab 5 a b λl=>eV (aX yW 1 a [(0,(iv 0))]) λm g=>eV (j5 2 EN 8 g 46 l m) (a3I b c e f a)) (lV [(iv 0)] a (a3P d b t3 R))
def a3Q d b t3 R n o c a:=∀_:Rg,aB 0 a d λq=>ab 0 a q λr=>aJ a r λs=>aU (gt c 0) s λt=>ah t (aB 4 a b λe=>aM a e λf=>aB 0 a d λg=>aB 0 a g λh=>aM a h λi=>ao 5 a i (gt c 0) λj=>aB 4 a j λk=>aM a k λl=>eV (aX yW 1 a [(0,l)]) λm p=>eV (j5 2 EN 8 p 33 f m) (a3G b e d g h i c j k l f m n o a)) (lV [(iv 0)] a (a3O d b t3 R))
def a3N b t3 R f c:=rV (bM NY anY [(0,f)]) λg=>eV (bs 87 NY c 3) λa d=>sV (aK 7 d a g) λe=>lV [(iv 0)] e (a3Q b a t3 R)
def a3F b R t3 a:=aw 7 a b λg=>fV aRk a [g] λh=>cf h λi=>ah i (rV (bM NY anY []) λj=>sV (aK 7 a t3 j) λc=>aw 7 c t3 λd=>aE R c [d]) (aB 0 a b λe=>aw 6 a e λf=>cN 69 [f] a 13 (a3N b t3 R))
def a3D a b R:=eV (bs 87 NY b 2) (a3F a R)
def bhj{b:List AV}{R:d7}(l0:L b=7)(h:H1 92 7 1 b λc d=>a3D c d R):Ct 72 [.a b] R:=z1 a9L aX6 Tryz.func72 l0 h
end
def aYu(c:A2)(s:pt):Prop:=aF (L c.No) s.pc/\(L s.li:Int)=c.li/\(L s.lj:Int)=c.li
def aSm(c:qt)(s:pm):Prop:=aPU c/\lh c.aQ s.bm=U/\L s.cells=L c.aQ.cells/\L s.bU=L c.aQ.bU/\L s.ay=L c.ay/\∀k,k<L c.ay->aYu (gd c.ay k) (gd s.ay k)
def aP4{w:br}(h:mQ w=U):L w.cells<=12/\L w.ak<=4/\L w.bC<=2/\L w.bU<=2/\L w.ay<=4/\L w.dU<=60:=by simp only[mQ,bN,eH] at h;have a:=h.1;simp only[wJ,cP,nl] at a;omega
def aXu(c:qt)(s:pm)(E:aOc c/\L c.aQ.bC<4611686018427387904):Ct 197 [.a c.c, .a s.c] (λr=>∃b,r=bv b/\(b=U->aSm c s)):=by obtain⟨m,n⟩:=E;refine bhl rfl rfl λK D f g O=>?_;simp+contextual only[a38,u0,u1,f,g,gw,aj,ar,Fa,aWl,rr,aTv,aPA,eE,vp,oe,m,n,↓uL];intro b B h;simp only[cP,fK,nl,aNS,Int.ofNat_inj,aN2] at h;obtain⟨⟨⟨⟨g1,w⟩,y⟩,z⟩,A⟩:=h;have o:=B g1;have M:L c.ay<1000:=m.1;refine yV (L c.ay) (λk _ x=>Fx K x []/\∀j,j<k->aYu (gd c.ay j) (gd s.ay j)) ⟨Fx.refl _ _,by simp⟩ ?_;rintro k _ x P ⟨F,hI⟩;have l:=F.kq f;have t:=F.kq g;have p:=F.len.trans D;simp only[a4a,aI,au,u0,u1,l,t,rk,gw,aj,y9,bh,aPA,↓uL];refine⟨λh=>?_,λh _=>⟨o,w,y,z,A,λj C=>hI j (C3 C (bw h))⟩⟩;have d:=aL h;refine⟨dJ (by omega),anu p λv x2 e N q=>?_⟩;have u:=e.kq l;simp+contextual only[a39,au,u0,u1,u,q,rk,gw,y9,aj,bh,dJ d,aPA,eE,vp,oe,lS,↓uL];intro h;simp only[cP,nl,aNS,aN2] at h;obtain⟨⟨⟨R,S⟩,G⟩,H⟩:=h;exact dR (mk:=λ(_:Unit) i=>[iv i]) (s:=()) (s':=()) (λ_ _=>rfl) d (by omega) ⟨F.trans e,jf hI ⟨⟨by omega,by omega⟩,G,H⟩⟩
def aUl:FT:=pn aXu
def bcc{c s Lw K}:=rQ aUl aXu c s Lw K (j:=by simp+contextual only[ij,Nb])
def ThB(k:Nat)(s:pt):Prop:=L s.li<=1000/\L s.lj<=1000/\(∀t∈s.lj,Tn t)/\0<=s.ac/\s.ac<=k
def a68{α:Type}{n:Nat}{x y:α}(h:y∈er n x):y=x:=(List.mem_replicate.1 h).2
structure StB(k:Nat)(s:pm):Prop where
 sy:jX k s.bm
 ce:L s.cells<=12
 fu:L s.bU<=2
 tl:L s.ay<=4
 th:∀t∈s.ay,ThB k t
structure SJ(x:ae)(v2:Nat)(c:qt)(a1 a2 a3:AV):Prop where
 hl:L x=4096
 b1:box x (1,1)=V ⟨92,7,U,U,[c.c]⟩
 b2:box x (2,v2)=V ⟨87,7,U,U,[NY]⟩
 g1:gm x 131 2 a1 ((er (L c.aQ.ak) (⟨-1,[]⟩:cg)).map cg.c)
 g2:gm x 4 1 a2 ((er (L c.aQ.bU) I).map cb)
 g3:gm x 105 3 a3 ((qZ (L c.aQ.ay)).map bF.c)
 ids:∀q∈aA a1++(aA a2++aA a3),q.1=13
theorem SJ.fx{x y:ae}{i:Nat}{c:qt}{e f g:AV}{d:List Id}(S:SJ x i c e f g)(F:Fx x y d)(a:∀q∈d,q.1≠1/\q.1≠2/\q.1≠13):SJ y i c e f g:=⟨F.len.trans S.hl,F.keep _ _ (λh=>(a _ h).1 rfl) S.b1,F.keep _ _ (λh=>(a _ h).2.1 rfl) S.b2,S.g1.fx F λq b h=>(a q h).2.2 (S.ids q (by simp[b])),S.g2.fx F λq b h=>(a q h).2.2 (S.ids q (by simp[b])),S.g3.fx F λq b h=>(a q h).2.2 (S.ids q (by simp[b])),S.ids⟩
def aPn(c:A2):pt:=⟨0,er c.li.toNat 0,er c.li.toNat [],0⟩
def aTA(w:br):aW:=⟨er (L w.ak) ⟨-1,[]⟩,-1,er (L w.bU) I,qZ (L w.ay)⟩
def aPK(c:qt):pm:=⟨aTA c.aQ,c.aQ.cells.map (·.init),er (L c.aQ.bU) 0,c.ay.map aPn⟩
def bfv{c:qt}(d:aPU c):StB 0 (aPK c):=by obtain⟨g,i,b⟩:=d;have h:=aP4 g;refine⟨⟨by simp[aPK,aTA];omega,by simp[aPK,aTA];omega,by simp[aPK,aTA,qZ];omega,λl f=>by rw[a68 f];simp⟩,by simp[aPK];omega,by simp[aPK];omega,by simp[aPK];omega,λt a=>?_⟩;simp only[aPK,dN] at a;obtain⟨k,e,rfl⟩:=a;obtain⟨j,m,_⟩:=b k e;refine⟨by simp[aPn];omega,by simp[aPn];omega,λt a=>?_,by simp[aPn],by simp[aPn]⟩;rw[a68 a];exact Tn.nil
def aXs(c:qt)(hp:aPU c/\aOc c):Ct 72 [.a c.c] (λr=>∃s:pm,r= .a s.c/\StB 0 s):=by obtain⟨hc,hb⟩:=hp;have bK:=aP4 hc.1;have bI:=hb.1;generalize hQ:(λ(r:AV)=>∃s:pm,r= .a s.c/\StB 0 s)=Qq;refine aDq (bhj rfl λs2 F b1 h0=>?_);simp only[a3D];refine so F λv2 s3 F3 N3 b3=>?_;have c1:=F3.kq b1;have av:=F3.len.trans F;have k1:∀{x:List AV} {y:AV},aN J (y::x)=V y:=λ{x y}=>(by cases y<;>rfl);have k7:=@r7A;have hz:bM NY anY []=V (.a NY):=rfl;simp only[a3F,u0,u1,c1,gw,aj,ar,Fa,aWl,rr,aTv,↓uL];refine⟨hb,λb bH=>⟨λh=>?_,λh=>?_⟩⟩;simp only[hz,aY];refine qr b3 rfl rfl λs4 F4 b4=>?_;simp only[b4,qd,qh,df,k7,aY];refine aOv (v':= .a (pm.c ⟨⟨[],0,[],[]⟩,[],[],[]⟩)) rfl rfl ?_;rw[<-hQ];exact⟨_,rfl,⟨by simp,by simp,by simp,by simp⟩,by simp,by simp,by simp,by simp⟩;refine a57 (by rw[av];decide) (by omega) (by omega) (by omega) λB C D s4 g1 g2 g3 F4 P4=>?_;have S4:SJ s4 v2 c B C D:=⟨F4.len.trans av,F4.kq c1,F4.kq b3,g1.p,g2.p,g3.p,λq d=>(P4 q d).2⟩;have bc:bM NY anY [(0, .a [B,iv (-1),C,D])]=V (.a [B,iv (-1),C,D, .l [] U U, .l [] U U, .l [] U U]):=rfl;simp only[a3N,bc,aY];refine anu S4.hl λv3 s5 F5 N5 b5=>?_;have S5:=S4.fx F5 (by simp);have bd:∀{x:ae} {y:Int},aX yW 1 x [(0,iv y)]=V (.l ([y].map ci) U U,x):=λ{x y}=>iz;refine yV (L c.aQ.cells) (λk _ x=>∃a,SJ x v2 c B C D/\box x (3,v3)=V ⟨87,7,U,U,[[B,iv (-1),C,D,a, .l [] U U, .l [] U U]]⟩/\gm x 2 1 a (((c.aQ.cells.take k).map (·.init)).map ci)/\∀q∈aA a,q.1=33) ⟨_,S5,b5, .inl ⟨by simp,rfl⟩,by simp[aA]⟩ ?_;rintro k _ x hk ⟨a,S,A,E,O⟩;have m1:=S.b1;simp only[a3Q,au,aI,u0,u1,m1,A,rk,gw,k1,ix,aj,bh,bd,↓uL];refine⟨λh=>?_,λh=>?_⟩;have g:=aL h;refine⟨dJ g,?_⟩;refine apQ E S.hl fF fF (by simp) (by simp;omega) λa' s6 g6 v Z=>?_;have M:=S.fx v (λq d=>by have:=O q d;omega);have K:=v.keep _ _ (λd=>by have:=O _ d;simp at this) A;simp only[a3G,u0,u1,K,aj,↓uL];refine A0 K g6.p.ce (by simp) λs7 w b7=>?_;simp only[a3E,↓uL];refine dT (by simp[eL,lb,cD,dC,dK]) ?_;simp only[au,u0,u1];refine dR (mk:=λ(_:Unit) i=>[iv i]) (s:=()) (s':=()) (λ_ _=>rfl) g (by omega) ⟨a',M.fx w (by simp),b7,?_,λq d=>(Z q d).2⟩;rw[List.take_succ_eq_append_getElem g,<-bT g,dg,dg];exact g6.p.fx w λq d e=>(by simp at e;subst e;have:=(Z _ d).2;simp at this);have H:k=L c.aQ.cells:=bP hk (bw h);subst H;rw[List.take_length] at E;clear m1;refine yV (L c.aQ.bU) (λk _ x=>∃W,SJ x v2 c B C D/\box x (3,v3)=V ⟨87,7,U,U,[[B,iv (-1),C,D,a,W, .l [] U U]]⟩/\gm x 2 1 a ((c.aQ.cells.map (·.init)).map ci)/\gm x 2 1 W ((er k (0:Int)).map ci)/\∀q∈aA W,q.1=46) ⟨_,S,A,E, .inl ⟨by simp,rfl⟩,by simp[aA]⟩ ?_;rintro k _ x hk ⟨W,S,A,E,gb,X⟩;have m1:=S.b1;have bb:∀{x:ae},aX yW 1 x [(0,iv 0)]=V (.l ([(0:Int)].map ci) U U,x):=λ{x}=>iz;simp only[a3O,au,aI,u0,u1,m1,A,gw,k1,aj,bb,↓uL];refine⟨λh=>?_,λh=>?_⟩;have g:=aL h;refine apQ gb S.hl fF fF (by simp) (by simp;omega) λa' s6 g6 v Z=>?_;have M:=S.fx v (λq d=>by have:=X q d;omega);have K:=v.keep _ _ (λd=>by have:=X _ d;simp at this) A;simp only[a3I,u0,u1,K,aj,↓uL];refine A0 K g6.p.ce (by simp) λs7 w b7=>?_;simp only[a3H,au,u0,u1,↓uL];refine dR (mk:=λ(_:Unit) i=>[iv i]) (s:=()) (s':=()) (λ_ _=>rfl) g (by omega) ⟨a',M.fx w (by simp),b7,(E.fx v λq d bg=>by have:=O q d;have:=X q bg;omega).fx w λq d e=>by simp at e;subst e;have:=O _ d;simp at this,?_,λq d=>(Z q d).2⟩;rw[List.replicate_succ',dg];exact g6.p.fx w λq d e=>(by simp at e;subst e;have:=(Z _ d).2;simp at this);have H:k=L c.aQ.bU:=bP hk (bw h);subst H;clear m1;refine yV (L c.ay) (λk _ x=>∃t f,SJ x v2 c B C D/\box x (3,v3)=V ⟨87,7,U,U,[[B,iv (-1),C,D,a,W,t]]⟩/\gm x 2 1 a ((c.aQ.cells.map (·.init)).map ci)/\gm x 2 1 W ((er (L c.aQ.bU) (0:Int)).map ci)/\O9 (63,70,73) U x t f (c.ay.map aPn) k) ⟨.l [] U U,λ_=>(.u, .u),S,A,E,gb,⟨.inl ⟨rfl,rfl⟩,by simp,by simp,by simp,by simp,by simp,by simp⟩⟩ ?_;rintro k _ x hk ⟨t,f,S,A,E,gb,T⟩;have m1:=S.b1;simp only[a3P,au,aI,u0,u1,m1,A,rk,gw,k1,k7,aj,y9,bh,↓uL];refine⟨λh=>?_,λh=>?_⟩;have g:=aL h;refine⟨dJ g,?_⟩;obtain⟨q1,q2,_⟩:=hc.2.2 _ (dB g);obtain⟨n,hn⟩:∃n:Nat,(gd c.ay k).li=n:=⟨(gd c.ay k).li.toNat,by omega⟩;rw[hn] at q2⊢;refine AP (by decide) (by decide) (by rw[S.hl];decide) (by omega) λe1 s6 ap N6 v b6=>?_;have M:=S.fx v (by simp);have bi:=M.b1;simp only[a3M,au,u0,u1,bi,rk,gw,aj,y9,bh,hn,↓uL];refine⟨dJ g,?_⟩;refine AP (by decide) (by decide) (by rw[M.hl];decide) (by omega) λe2 s7 aq N7 w b7=>?_;have S7:=M.fx w (by simp);have a5:=w.kq b6;have bj:=w.kq (v.kq A);have a8:=(E.fx v (by simp)).fx w (by simp);have a9:=(gb.fx v (by simp)).fx w (by simp);have T7:=(T.fx v (by simp)).fx w (by simp);have be:bM aoD alz [(1, .m e1 n),(2, .m e2 n)]=V (.a [iv 0, .m e1 n, .m e2 n,iv 0]):=rfl;simp only[a3L,be,aY];have G:gd (c.ay.map aPn) k=⟨0,er n 0,er n [],0⟩:=(by rw[bT (by simpa using g),List.getElem_map,<-bT g];simp[aPn,hn]);have ag:∀{q:Id},(∀y,box x q≠V y)->q∉aPi f k:=λ{q} aw d=>(by obtain⟨j,hj,h|h⟩:=aXS d;obtain⟨y,hy⟩:=aTi (T.g1 j hj) q h;exact aw y hy;obtain⟨_,b,e,hy⟩:=T.g2 j hj;rw[e] at h;simp only[aA,cE] at h;subst h;exact aw _ hy);refine a7Q T7 rfl rfl (by rw[S7.hl];decide) rfl (by rw[S7.hl];decide) (by decide) (by omega) (by rw[G]) (by rw[G]) (.inr ⟨e1,[],by rw[G];simp,by rw[G,a5];simp;exact⟨rfl, .inr rfl⟩⟩) (by rw[G];exact⟨by simp,e2,by simp,by rw[b7];simp;exact⟨rfl, .inr rfl⟩⟩) (λq d=>?_) (λq d=>?_) λz t' az aM R o bG=>?_;simp only[aA,cE] at d;subst d;exact⟨ag N6.no,ap⟩;simp only[aA,cE] at d;subst d;exact⟨ag (λy hy=>N7.no y (v.kq hy)),aq⟩;obtain⟨vz,rfl⟩:=aM;have ax:∀q∈aA t,q.1=73:=T.ids;have N:∀{b:Id},b.1≠73->b∉aA t:=λhb d=>hb (ax _ d);have aU:=S7.fx o (λq d=>by have:=ax q d;omega);have ak:=o.keep _ _ (N (by simp)) bj;simp only[a3K,u0,u1,ak,aj,↓uL];refine A0 ak R.ce (by simp) λbL P a0=>?_;simp only[a3J,↓uL];refine dT (by simp[eL,lb,au,sl,ap,aq,cD,dC,dK]) ?_;simp only[au,u0,u1];refine dR (mk:=λ(_:Unit) i=>[iv i]) (s:=()) (s':=()) (λ_ _=>rfl) g (by omega) ⟨t',_,aU.fx P (by simp),a0,(a8.fx o λq d=>N (by have:=O q d;omega)).fx P λq d e=>?_,(a9.fx o λq d=>N (by have:=X q d;omega)).fx P λq d e=>?_,R.fx P (by simp)⟩;simp at e;subst e;have:=O _ d;simp at this;simp at e;subst e;have:=X _ d;simp at this;have H:k=L c.ay:=bP hk (bw h);subst H;refine qr S.b2 rfl rfl λaz o aZ=>?_;simp only[aZ,qd,qh,df,k7,aY];have nd:∀{q:Id},q.1≠2->q∉[((2,v2):Id)]:=λh e=>(by simp at e;subst e;exact h rfl);have R:=T.fx o (by simp);have aC:O9 (63,70,73) U az t f (c.ay.map aPn) (L (c.ay.map aPn)):=(by rw[bJ];exact R);have x1:=aBr (S.g1.fx o λq d=>nd (by rw[S.ids q (by simp[d])];decide));have x2:=aBr (S.g2.fx o λq d=>nd (by rw[S.ids q (by simp[d])];decide));have x3:=aBr (S.g3.fx o λq d=>nd (by rw[S.ids q (by simp[d])];decide));have x4:=aBr (E.fx o λq d=>nd (by rw[O q d];decide));have x5:=aBr (gb.fx o λq d=>nd (by rw[X q d];decide));refine aOv (v':= .a (aPK c).c) ?_ (by simp[iX,pm.c,aW.c,eN,sl]) (by rw[<-hQ];exact⟨_,rfl,bfv hc⟩);simp only[fzT,ji,mU,x1,x2,x3,x4,x5,aC.fz,aWt];rfl
def aUj:FT:=om aXs
def bca{c Lw K}:=qz aUj aXs c Lw K (j:=by simp+contextual only[ij,Nb])
def a7G:dO:=(197,aUl)::(72,aUj)::a7F
def a7o:eJ a7G:=it (aN0 aXu) (it (rj aXs) (aX6))
def aWm:=ai @bcc<|ai @bca<|@aWl
section
attribute[local irreducible] aX
def a9K:=bi 28 [(20,([],[6,8,9,10])),(23,([98],[6,8,9,10])),(25,([],[6,10]))]
def a3m d f g h p i j a l m k e R b:=dH [(bo d),(bo f),(bo g),km,(lb U [h,p] []),(bo i),(bo j),(bo a),(lb I [l,(iv 17)] []),(bo a),(lb I [m,k] [])] [(0,8),(1,8),(2,8),(3,8),(4,8),(5,8),(6,8)] (aw 7 b a λn=>sV (aK 7 b e n) λc=>aw 7 c e λo=>aE R c [o,(bv U)])
def a3p a c e f g h l i j k m R b:=aB 2 b a λd=>sV (aK 1 b d c) (a3m e f g h l i j a k d c m R)
def aQK c f R(g:eQ) a:=∀_:Rg,aw 7 a c λd=>sV (aK 7 a f d) λb=>aw 7 b f λe=>aE R b [e,(bv U)]
def aVh c(b:aG) e a:=aB 6 a c λf=>sV (aK 1 a f e) λd=>b [] d
def a3w a b f r(e:aG):=ab 0 a b λg=>bf g (iv 8) λc=>bn c 0 a b λh=>aC c (bf h (iv 9)) λi=>aD c (bv U) i λd=>bn d 0 a b λj=>aC d (bf j (iv 26)) λk=>aD d (bv U) k λl=>ah l (ab 6 a f λm=>ab 2 a r λn=>ab 2 a b λo=>ao 1 a n o λp=>aM a p λq=>eV (j5 3 fB 8 a 132 m q) (aVh f e)) (e [] a)
def aQJ a f R b d(e:eQ) c:=∀_:Rg,jV 25 (aQK a f R) (a3w c b a d)
def a3q c(b:aG) e a:=aB 5 a c λf=>sV (aK 1 a f e) λd=>b [] d
def a3r c(b:aG) e a:=aB 5 a c λf=>sV (aK 1 a f e) λd=>b [] d
def aSA a c k e(b:aG) d:=∀_:Rg,ah (gt d 0) (ab 5 a c λf=>ab 2 a k λg=>ab 3 a e λh=>ao 1 a g h λi=>aM a i λj=>eV (j5 3 fB 8 a 109 f j) (a3r c b)) (b [] a)
def a3v b(a:cG):=bf b (iv 7) λc=>ah c (a [c]) (bf b (iv 9) λd=>a [d])
def a3u a c b f d:=ab 0 a c λe=>bf e (iv 10) λg=>ah g (ab 5 a b λh=>ab 2 a f λi=>ab 1 a c λj=>ao 1 a i j λk=>aM a k λl=>eV (j5 3 fB 8 a 96 h l) (a3q b d)) (jR 23 (aSA a b f c d) (a3v e))
def aVi a g R b d c:=ab 1 c a λh=>bf h (iv 0) λi=>ah i (rV (bM y8 aOs []) λj=>sV (aK 7 c g j) λe=>aw 7 e g λf=>aE R e [f,(bv I)]) (jV 20 (aQJ a g R b d) (a3u c b a d))
def a3s a e g R c d b:=aB 2 b a λf=>sV (aK 1 b f e) (aVi a g R c d)
def aRt f i d R b c h a:=aB 0 a f λs=>ab 3 a s λt=>ao 3 a t i λu=>ab 0 a u λg=>bf g (iv 1) λv=>ah v (rV (bM y8 aOs [(0,i),(1,(iv 1)),(2,(iv (-1))),(4,(iv (-1)))]) λw=>sV (aK 7 a d w) λj=>aw 7 j d λx=>aE R j [x,(bv U)]) (bf g (iv 4) λy=>ah y (aB 0 a f λk=>aB 3 a k λl=>aM a l λm=>ao 3 a m i λn=>aB 1 a n λo=>aM a o λz=>aB 1 a b λp=>sV (aK 1 a p (iv 17)) (a3p b z f k l m i n o p d R)) (bf g (iv 2) λA=>ah A (ab 0 a c λB=>fV aUm a [B] λC=>aw 6 a c λD=>aw 4 a h λE=>fV aUn a [D,E] λF=>aB 1 a b λG=>sV (aK 1 a G C) (a3s b F d R c h)) (rV (bM y8 aOs []) λq=>sV (aK 7 a d q) λe=>aw 7 e d λr=>aE R e [r,(bv I)])))
def a3t f i j e k l c n m o p a q h t R d:=dH [(bo f),(bo i),km,(lb U [j,e] []),(bo k),(bo l),(bo c),(bo n),(lb U [m,o] []),(bo p),(lb I [] [9]),(lb I [a,q] [])] [(0,10),(1,10),(2,10),(3,10),(4,10),(5,10),(6,10),(7,10),(8,10),(9,10)] (ab 5 d a λr=>rV (bM y8 aOs [(0,e),(4,r)]) λs=>eV (bs 64 y8 d 10) λb g=>sV (aK 7 g b s) (aRt h e t R b a c))
def a3n d n c p q R a:=aB 6 a d λe=>aM a e λf=>ao 2 a f n λg=>aB 1 a g λh=>aM a h λi=>aB 0 a c λj=>aM a j λk=>ao 6 a i k λl=>aw 6 a l λm=>eV (bs 209 Py a 9) λb o=>sV (aK 6 o b m) (a3t d e f n g h c j i k l b m p q R)
def a3o c d g R i a:=aw 7 a c λw=>aw 7 a d λx=>fV aUl a [w,x] λy=>cf y λe=>ic e g λk=>aC e (aU k (iv 0)) λl=>aD e (bv U) l λb=>ic b g λm=>bn b 6 a c λn=>aC b (aJ a n) λo=>aC b (aO .geq m o) λp=>aD b (bv U) p λq=>ah q (rV (bM y8 aOs []) λr=>sV (aK 7 a i r) λh=>aw 7 h i λs=>aE R h [s,(bv I)]) (ab 6 a d λt=>ao 4 a t g λu=>aw 4 a u λv=>eV (bs 196 aoD a 8) λf j=>sV (aK 4 j f v) (a3n c g f d i R))
def a3l a b c d R:=eV (bs 64 y8 d 6) (a3o a b c R)
def bhh{b:List AV}{c:List AV}{d:AV}{R:d7}(l0:L b=7)(l1:L c=7)(h:H2 92 7 3 b 87 7 4 c λe f g=>a3l e f d g R):Ct 168 [.a b, .a c,d] R:=z2 a9K a7o Tryz.func168 l0 l1 h
end
def aQs(c:qt)(s:pm)(t:Int):lF:=gd (gd c.ay t.toNat).No (gd s.ay t.toNat).pc.toNat
def PK(k:Int)(i:lF):Prop:=(k=3\/k=23->i.a∈A1 i)/\(k=4\/k=22->i.b∈A1 i)/\(k=5->i.a∈A1 i)
def EvL(e:aP):Prop:=L e.dI<=1000/\L e.ep<=1000
def bdY{i:lF}:PK (aPY i.op) i:=by rcases i with⟨op,a,b,k,n,st⟩;simp only[PK,aPY,cond_eq_ite];by_cases h:op<6\/28<op;rw[bX (by simpa using h)];omega;rw[cj (by simpa using h)];have c:op=6\/op=7\/op=8\/op=9\/op=10\/op=11\/op=12\/op=13\/op=14\/op=15\/op=16\/op=17\/op=18\/op=19\/op=20\/op=21\/op=22\/op=23\/op=24\/op=25\/op=26\/op=27\/op=28:=(by omega);rcases c with rfl|rfl|rfl|rfl|rfl|rfl|rfl|rfl|rfl|rfl|rfl|rfl|rfl|rfl|rfl|rfl|rfl|rfl|rfl|rfl|rfl|rfl|rfl<;>simp[gd,aXK,A1]
def aXq(c:qt)(s:pm)(t:Int)(hp:aPU c/\aOc c/\∃k,StB k s):Ct 168 [.a c.c, .a s.c,iv t] (λr=>∃(e:aP) (ok:Bool),r= .t [.a e.c,bv ok]/\EvL e/\(ok=U->aSm c s/\aF (L c.ay) t/\PK e.kind (aQs c s t))):=by
 obtain⟨hc,G,K,hs⟩:=hp
 have cR:=aP4 hc.1
 have cO:=G.1
 generalize hQ:(λ(r:AV)=>∃(e:aP) (ok:Bool),r= .t [.a e.c,bv ok]/\EvL e/\(ok=U->aSm c s/\aF (L c.ay) t/\PK e.kind (aQs c s t)))=M
 refine aDq (bhh rfl rfl λs4 hl b1 b2 h0=>?_)
 simp only[a3l]
 refine so hl λA s6 F6 N6 b6=>?_
 have c1:=F6.kq b1
 have c2:=F6.kq b2
 have a6:=F6.len.trans hl
 have k1:∀{x:List AV} {y:AV},aN J (y::x)=V y:=λ{x y}=>by cases y<;>rfl
 have k7:=@r7A
 have hz:bM y8 aOs []=V (.a y8):=rfl
 simp only[a3o,u0,u1,c1,c2,gw,aj,ar,Fa,aWm,rr,aTv,↓uL]
 refine⟨⟨G,by omega⟩,λb bl=>?_⟩
 have E:∀{x:ae},box x (6,A)=V ⟨64,7,U,U,[y8]⟩->sV (aK 7 x (.p (6,A) 0 0) (.a y8)) λy=>rV (kb (V 7) y (.p (6,A) 0 0)) λt=>aE (λr=>M (B1 r)) y [t,bv I]:=λ{x} G=>by
  refine qr G rfl rfl λs7 F7 b7=>?_
  rw[aEa b7 rfl]
  refine aOH (vs':=[.a (aP.c ⟨0,0,0,0,0,[],[]⟩),bv I]) rfl rfl ?_
  rw[<-hQ];exact⟨_,_,rfl,⟨by simp,by simp⟩,by simp⟩
 cases b with
 |false=>
  simp only[u0,↓jN,ya,↓iC,hz,↓uL]
  exact E b6
 |true=>
 obtain⟨hF⟩:Nonempty (aSm c s):=⟨bl rfl⟩
 have bW:=hF
 obtain⟨_,f1,f2,f3,f4,f5⟩:=bW
 rcases h1:Q (t<0) with _|_
 rotate_left
 ·simp only[u0,u1,↓jN,ya,↓iC,wY,hz,h1,↓uL]
  exact E b6
 rcases h2:Q (t>=(L c.ay:Int)) with _|_
 rotate_left
 ·simp only[u0,u1,c1,gw,↓jA,↓iC,wY,hz,h1,h2,↓uL]
  exact E b6
 simp only[nl] at h1 h2
 have a4:aF (L c.ay) t:=⟨by omega,by omega⟩
 obtain⟨m,rfl⟩:∃m:Nat,t=m:=⟨t.toNat,by omega⟩
 have hm:m<L c.ay:=by have:=a4.2;omega
 obtain⟨p1,p2,p3⟩:=f5 m hm
 obtain⟨r1,r2,r3⟩:=hc.2.2 _ (dB hm)
 have bT:Q ((m:Int)<0)=I:=aPk h1
 have bU:Q ((m:Int)>=(L c.ay:Int))=I:=aPk h2
 have cf:(gd s.ay m).pc.toNat<L (gd c.ay m).No:=by have:=p1.1;have:=p1.2;omega
 have X:∀j∈A1 (aQs c s m),aF (L (gd s.ay m).lj) j/\aF (L (gd s.ay m).li) j:=λj hj=>by
  have:=r3 _ cf j hj
  exact⟨⟨this.1,by omega⟩,⟨this.1,by omega⟩⟩
 have b5:=f1
 obtain⟨_,_,_,ft⟩:=iY b5
 simp only[u0,u1,c1,rk,gw,↓jA,↓iB,bT,bU,y9,bh,↓uL]
 refine⟨by rw[f4];exact dJ hm,anu a6 λv8 s8 F8 N8 b8=>?_⟩
 have bI:=F8.kq c1
 have bO:=F8.kq c2
 have bA:=F8.kq b6
 have a7:=F8.len.trans a6
 simp only[a3n,u0,u1,bI,b8,rk,gw,aj,y9,bh,↓uL]
 refine⟨dJ hm,p1,so a7 λv9 cT bx N9 bG=>?_⟩
 refine qr bG rfl rfl λs9 bz b9=>?_
 have F9:Fx s8 s9 []:=(bx.trans bz).mono λq H=>by simp at H;subst H;exact .inr N9.no
 have bQ:=F9.kq bO
 have bB:=F9.kq bA
 have bD:=F9.kq b8
 have a8:=F9.len.trans a7
 simp only[a3t,↓uL]
 refine dT (by simp[eL,lb,cD,dC,dK,sl,lF.c]) ?_
 generalize hi:gd (gd c.ay m).No (gd s.ay m).pc.toNat=i at*
 have a3:aQs c s m=i:=by simp[aQs,hi]
 rw[a3] at X
 have b4:bM y8 aOs [(0,iv m),(4,iv i.site)]=V (.a [iv m,iv 0,iv 0,iv 0,iv i.site, .l [] U U, .l [] U U]):=rfl
 simp only[u0,u1,b9,gw,aj,b4,↓uL]
 refine anu a8 λg cS Z cN ab=>?_
 have W:=Z.kq bQ
 have R:=Z.kq bB
 have az:=Z.kq bD
 have D:=Z.kq b9
 have bo:=Z.len.trans a8
 have aB:∀{x:ae} {k o u:Int} {d f:AV} {ds fs:List Int},box x (6,A)=V ⟨64,7,U,U,[y8]⟩->gm x 3 1 d (ds.map ci)->gm x 3 1 f (fs.map ci)->(∀q∈aA d++aA f,q.1≠6)->L ds<=1000->L fs<=1000->PK k i->sV (aK 7 x (.p (6,A) 0 0) (.a [iv m,iv k,iv o,iv 0,iv u,d,f])) λy=>rV (kb (V 7) y (.p (6,A) 0 0)) λt=>aE (λr=>M (B1 r)) y [t,bv U]:=λ{x k o u d f ds fs} G bS B H l1 l2 hk=>by
  refine qr G rfl rfl λs7 F7 b7=>?_
  rw[aEa b7 rfl]
  have e1:=aBr (bS.fx F7 λq h e=>H q (by simp[h]) (by simp at e;subst e;rfl))
  have e2:=aBr (B.fx F7 λq h e=>H q (by simp[h]) (by simp at e;subst e;rfl))
  refine aOH (vs':=[.a (aP.c ⟨m,k,o,0,u,ds,fs⟩),bv U]) (by simp only[ji,mU,fzT,aWt,e1,e2];rfl) (by simp[iX,aP.c,eN,sl]) ?_
  rw[<-hQ];exact⟨_,_,rfl,⟨l1,l2⟩,λ_=>⟨hF,a4,by rw[a3];exact hk⟩⟩
 have a5:∀{x:ae} {l:List (List Int)} {j:Int} {K:d7},rV (cz 1 x (sl cl l) (iv j)) K=(aF (L l) j/\K (.q (cl (gd l j.toNat)))):=aBz λ_=>rfl
 have a9:∀{x:ae} {l:List Int},kb J x (.q (cl l))=V (sl ci l):=rfl
 have a2:∀t∈(gd s.ay m).lj,Tn t:=(hs.th _ (dB (by omega))).2.2.1
 have nil:∀{x:ae},gm x 3 1 (.l [] U U) (([]:List Int).map ci):=λ{x}=> .inl ⟨rfl,rfl⟩
 have af:aF (L s.bm.ay) (m:Int):=by rw[ft,<-hc.2.1];exact dJ hm
 rcases q1:Q ((gd s.bm.ay m).cQ=1) with _|_
 rotate_left
 ·have b3:bM y8 aOs [(0,iv m),(1,iv 1),(2,iv (-1)),(4,iv (-1))]=V (.a [iv m,iv 1,iv (-1),iv 0,iv (-1), .l [] U U, .l [] U U]):=rfl
  simp only[aRt,u0,u1,W,D,rk,gw,aj,ix,bh,q1,↓iC,b3,↓uL]
  refine⟨af,?_⟩
  exact aB R nil nil (by simp[aA]) (by simp) (by simp) (by simp[PK])
 rcases q2:Q ((gd s.bm.ay m).cQ=4) with _|_
 rotate_left
 ·simp only[aRt,u0,u1,W,D,ab,rk,gw,aj,ix,bh,q1,q2,↓iC,↓iB,↓uL]
  refine⟨af,af,?_⟩
  refine A0 ab rfl (by simp) λcm N ac=>?_
  have ah:=N.kq R
  simp only[a3p,u0,u1,ac,aj,↓uL]
  refine A0 ac rfl (by simp) λw O v=>?_
  have C:=O.kq ah
  simp only[a3m,↓uL]
  refine dT (by simp[eL,lb,cD,dC,dK,sl,bF.c]) ?_
  simp only[u0,u1,v,List.set_cons_succ,RY,k7,↓uL]
  exact aB C nil nil (by simp[aA]) (by simp) (by simp) (by simp[PK])
 rcases q3:Q ((gd s.bm.ay m).cQ=2) with _|_
 ·simp only[aRt,u0,u1,W,D,ab,rk,gw,aj,ix,bh,q1,q2,q3,↓iB,hz,↓uL]
  exact⟨af,E R⟩
 simp only[aRt,u0,u1,W,az,D,ab,rk,gw,aj,ix,ar,Fa,aWm,rr,bh,q1,q2,q3,↓iC,↓iB,↓uL]
 refine⟨af,λho=>(X _ ?_).2,λo=>?_⟩
 ·rcases i with⟨op,a,b,k,n,st⟩
  simp only at ho⊢
  rcases ho with rfl|rfl<;>simp[A1]
 refine A0 ab rfl (by simp) λcm N ac=>?_
 have ah:=N.kq R
 have bf:=N.kq az
 have bg:=N.kq D
 simp only[a3s,u0,u1,ac,aj,↓uL]
 refine A0 ac rfl (by simp) λw O v=>?_
 have C:=O.kq ah
 have S:=O.kq bf
 have T:=O.kq bg
 have ak:=(O.len.trans N.len).trans bo
 simp only[List.set_cons_succ,RY] at v
 rcases q4:Q (aPY i.op=0) with _|_
 rotate_left
 ·simp only[aVi,u0,u1,v,k1,nM,ip,aj,q4,↓iC,hz,↓uL]
  exact E C
 simp only[aVi,u0,u1,v,k1,nM,ip,aj,q4,↓iB,↓uL]
 have aJ:∀{x:ae} {d f:AV} {ds fs:List Int},box x (6,A)=V ⟨64,7,U,U,[y8]⟩->box x (10,g)=V ⟨64,7,U,U,[[iv m,iv (aPY i.op),iv o,iv 0,iv i.site,d,f]]⟩->gm x 3 1 d (ds.map ci)->gm x 3 1 f (fs.map ci)->(∀q∈aA d++aA f,q.1≠6)->L ds<=1000->L fs<=1000->aQK (.p (10,g) 0 0) (.p (6,A) 0 0) (λr=>M (B1 r)) [] x:=λ{x d f ds fs} G he g1 g2 H l1 l2=>by
  simp only[aQK,aI,u0,u1,he,k7,↓uL]
  exact aB G g1 g2 H l1 l2 bdY
 have aG:∀{x:ae} {d:AV} {ds:List Int},L x=4096->box x (6,A)=V ⟨64,7,U,U,[y8]⟩->box x (8,v8)=V ⟨196,4,U,U,[(gd s.ay m).c]⟩->box x (9,v9)=V ⟨209,6,U,U,[i.c]⟩->box x (10,g)=V ⟨64,7,U,U,[[iv m,iv (aPY i.op),iv o,iv 0,iv i.site,d, .l [] U U]]⟩->gm x 3 1 d (ds.map ci)->(∀q∈aA d,q.1≠6/\q.1≠10)->L ds<=1000->aQJ (.p (10,g) 0 0) (.p (6,A) 0 0) (λr=>M (B1 r)) (.p (9,v9) 0 0) (.p (8,v8) 0 0) [] x:=λ{x d ds} cb G h8 h9 he g1 H l1=>by
  simp only[aQJ,aI,di]
  have go:∀{y:ae} {f:AV} {fs:List Int},Fx x y []->gm y 3 1 f (fs.map ci)->(∀q∈aA f,bK x q/\q.1=132)->L fs<=1000->sV (aK 1 y (.p (10,g) 0 6) f) λs=>aQK (.p (10,g) 0 0) (.p (6,A) 0 0) (λr=>M (B1 r)) [] s:=λ{y f fs} F B hf lf=>by
   refine A0 (F.kq he) B.ce (by simp) λs2 F2 b2=>?_
   refine aJ (F2.kq (F.kq G)) b2 ((g1.fx F (by simp)).fx F2 λq h e=>?_) (B.fx F2 λq h e=>?_) (λq h=>?_) l1 lf
   ·simp at e;subst e;exact(H _ h).2 rfl
   ·simp at e;subst e;have:=(hf _ h).2;simp at this
   ·rcases dF.1 h with h|h
    ·exact(H q h).1
    ·rw[(hf q h).2];decide
  have dn:(Q (i.op=8)||Q (i.op=9)||Q (i.op=26))=I->aQK (.p (10,g) 0 0) (.p (6,A) 0 0) (λr=>M (B1 r)) [] x:=λ_=>aJ G he g1 nil (λq h=>by
   rcases dF.1 h with h|h
   ·exact(H q h).1
   ·simp[aA] at h) l1 (by simp)
  have up:(Q (i.op=8)||Q (i.op=9)||Q (i.op=26))=U->rV (cz 1 x (sl cl (gd s.ay m).lj) (iv i.b)) λbr=>rV (kb J x br) λbs=>eV (j5 3 fB 8 x 132 (.l [] U U) bs) (aVh (.p (10,g) 0 0) (aQK (.p (10,g) 0 0) (.p (6,A) 0 0) (λr=>M (B1 r)))):=λho=>by
   have hr:=X i.b (by
    rcases i with⟨op,a,b,k,n,st⟩
    simp only[Bool.or_eq_true,mn] at ho⊢
    rcases ho with(rfl|rfl)|rfl<;>simp[A1])
   rw[a5]
   refine⟨hr.1,?_⟩
   simp only[a9,aY]
   have hT:=a2 _ (dB (l:=(gd s.ay m).lj) (k:=i.b.toNat) (by have:=hr.1.1;have:=hr.1.2;omega))
   refine apV (aa:=[]) (e:=3) (z:=1) (.inl ⟨rfl,rfl⟩) rfl rfl (by decide) (by rw[cb];decide) (by simp) fF (by simp;have:=hT.len;omega) λf y B F P=>?_
   have F':Fx x y []:=F.mono (by simp[aA])
   simp only[aVh,u0,u1,F'.kq he,aj,↓uL]
   exact go F' B (λq h=>(P q h).elim (λh=>by simp[aA] at h) id) hT.len
  rcases z1:Q (i.op=8) with _|_<;>rcases z2:Q (i.op=9) with _|_<;>rcases z3:Q (i.op=26) with _|_<;>simp only[z1,z2,z3,wY,Bool.or_false] at up dn<;>simp only[a3w,u0,u1,h9,he,h8,z1,z2,z3,gw,k1,aj,↓jA,↓jN,ya,↓iC,↓iB,wY,↓uL]
  all_goals first|exact dn rfl|exact up trivial|exact dn trivial
 simp only[a3u,u0,u1,T,v,S,gw,k1,aj,↓uL]
 have a1:∀{y:ae} {f:AV} {fs:List Int} {pl:Nat},Fx w y []->gm y 3 1 f (fs.map ci)->(∀q∈aA f,bK w q/\q.1=pl)->pl≠10->pl≠6->L fs<=1000->sV (aK 1 y (.p (10,g) 0 5) f) λs2=>aQJ (.p (10,g) 0 0) (.p (6,A) 0 0) (λr=>M (B1 r)) (.p (9,v9) 0 0) (.p (8,v8) 0 0) [] s2:=λ{y f fs pl} F B hf hp cc lf=>by
  refine A0 (F.kq v) B.ce (by simp) λs2 F2 b2=>?_
  have av:∀{q:Id} {z:bY},q≠(10,g)->box w q=V z->box s2 q=V z:=λh hz=>F2.keep _ _ (by simpa using h) (F.kq hz)
  exact aG ((F2.len.trans F.len).trans ak) (av (by simp) C) (av (by simp) S) (av (by simp) T) b2 (B.fx F2 λq h e=>by simp at e;subst e;exact hp (hf _ h).2.symm) (λq h=>by rw[(hf q h).2];exact⟨cc,hp⟩) lf
 have aw:∀{j:Int} {pl:Nat} {K:be},j∈A1 i->pl<4096->(∀(f:AV) (y:ae) (fs:List Int),Fx w y []->gm y 3 1 f (fs.map ci)->(∀q∈aA f,bK w q/\q.1=pl)->L fs<=1000->K f y)->rV (cz 1 w (sl cl (gd s.ay m).lj) (iv j)) λbt=>rV (kb J w bt) λbu=>eV (j5 3 fB 8 w pl (.l [] U U) bu) K:=λ{j pl K} hj cd hK=>by
  have hr:=X j hj
  rw[a5]
  refine⟨hr.1,?_⟩
  simp only[a9,aY]
  have hT:=a2 _ (dB (l:=(gd s.ay m).lj) (k:=j.toNat) (by have:=hr.1.1;have:=hr.1.2;omega))
  refine apV (aa:=[]) (e:=3) (z:=1) (.inl ⟨rfl,rfl⟩) rfl rfl (by decide) (by rw[ak];exact cd) (by simp) fF (by simp;have:=hT.len;omega) λf y B F P=>?_
  exact hK f y _ (F.mono (by simp[aA])) B (λq h=>(P q h).elim (λh=>by simp[aA] at h) id) hT.len
 refine⟨λho=>?_,λho=>?_⟩
 ·have ba:=nt ho
  refine aw (j:=i.a) (pl:=96) (by rcases i with⟨op,a,b,k,n,st⟩;simp only at ba⊢;subst ba;simp[A1]) (by decide) λf y fs F B P lf=>?_
  simp only[a3q,u0,u1,F.kq v,aj,↓uL]
  exact a1 F B P (by decide) (by decide) lf
 ·have bR:aQJ (.p (10,g) 0 0) (.p (6,A) 0 0) (λr=>M (B1 r)) (.p (9,v9) 0 0) (.p (8,v8) 0 0) [] w:=aG ak C S T v nil (by simp[aA]) (by simp)
  have aQ:i.op=7\/i.op=9->aSA w (.p (10,g) 0 0) (.p (8,v8) 0 0) (.p (9,v9) 0 0) (aQJ (.p (10,g) 0 0) (.p (6,A) 0 0) (λr=>M (B1 r)) (.p (9,v9) 0 0) (.p (8,v8) 0 0)) [bv U]:=λh=>by
   simp only[aSA,au,aI,↓uL]
   simp only[u0,u1,T,v,S,gw,k1,aj,↓iC,↓uL]
   refine aw (j:=i.k) (pl:=109) (by rcases i with⟨op,a,b,k,n,st⟩;simp only at h⊢;rcases h with rfl|rfl<;>simp[A1]) (by decide) λf y fs F B P lf=>?_
   simp only[a3r,u0,u1,F.kq v,aj,↓uL]
   exact a1 F B P (by decide) (by decide) lf
  rcases z1:Q (i.op=7) with _|_<;>rcases z2:Q (i.op=9) with _|_<;>simp only[a3v,u0,u1,z1,z2,↓iC,↓iB,↓uL]
  ·simp only[aSA,au,aI,↓iB,↓uL]
   exact bR
  ·exact aQ (.inr (nt z2))
  ·exact aQ (.inl (nt z1))
  ·exact aQ (.inl (nt z1))
def aUh:FT:=vn aXq
def bb8{c s t Lw K}:=zZ aUh aXq c s t Lw K (j:=by simp+contextual only[ij,Nb])
def aYe:dO:=(168,aUh)::a7G
def a7p:eJ aYe:=it (By aXq) (a7o)
def aWn:=ai @bb8<|@aWm
section
attribute[local irreducible] aX
def a5I:=bi 39 [(15,([16],[3,4,5,6,7,9,14,15])),(17,([78],[3,4,5,6,7,9,14,15,16,77])),(30,([],[3,4,5,6,7,9,14,16])),(35,([],[4,5,6,7,9,14]))]
def a8A d e R a:=aw 7 a d λb=>aw 7 a e λc=>aE R a [b,c,(bv I)]
def a8B d e R a:=aw 7 a d λb=>aw 7 a e λc=>aE R a [b,c,(bv I)]
def a32 g b h c i d R a:=dH [(bo g),(bo b),(lb I [h,c] []),(lb I [i,d] []),km] [(1,2)] (aw 7 a h λe=>aw 7 a i λf=>aE R a [e,f,(bv U)])
def a33 e b g h R a:=aw 7 a e λc=>aw 7 a b λd=>sV (aK 7 a g c) λf=>sV (aK 7 f h d) (a32 e b g c h d R)
def aRu b c i d k l R(j:eQ) a:=∀_:Rg,ab 6 a b λe=>ab 0 a c λf=>aw 4 a i λg=>ao 4 a e f λh=>sV (aK 4 a h g) (a33 b d k l R)
def a34 l f d h g i j b m a k(c:aG) e:=dH [(bo l),(bo f),(bo d),(bo h),(lb U [g,i] []),(bo j),(bo b),(cq I m),km,(bo a),(bo a),(lb I [b,k] [])] [(10,11)] (c [] e)
def aVn c l g e i h j k m d a f:=rV (eO 0 a) λb=>rV (eO 1 a) λn=>sV (aK 4 f c b) (a34 l g e i h j k c m a b d)
def aSF a e l d k(c:aG):=ab 1 a e λm=>aO .neq m (iv 16) λb=>aT b 1 a e λn=>az b (aO .neq n (iv 2)) λo=>aD b o (bv I) λp=>ah p (aB 6 a l λf=>aM a f λg=>aB 0 a d λh=>aM a h λi=>ao 2 a g i λj=>aw 2 a j λq=>aw 4 a k λr=>cB 170 [q,r] a 192 (aVn k l f d h g i j a c)) (c [] a)
def a35 f a c b g h R d e:=jV 35 (aRu f a c b g h R) (aSF e b d a c)
def a36 a e g c d i j R f b:=aB 0 b a λh=>sV (aK 1 b h (gt e 0)) (a35 g c a d i j R f)
def aSD a e g c d k l R f(m:eQ) b:=∀_:Rg,ab 3 b a λh=>aV h (iv 1) λi=>aB 3 b a λj=>sV (aK 1 b j i) (a36 a e g c d k l R f)
def a37 c d(g:aG) e a:=ao 1 a c d λf=>sV (aK 1 a f e) λb=>g [] b
def aSB b c g a:=ab 2 a b λd=>ab 1 a c λe=>ab 3 a b λf=>eV (aX bH 1 a [(0,f)]) (a37 d e g)
def aSE a b e d(f:aG):=ab 1 a b λg=>bf g (iv 3) λc=>bn c 1 a b λh=>aC c (bf h (iv 23)) λi=>aD c (bv U) i λj=>ah j (ab 1 a e λk=>ab 1 a d λl=>ab 3 a b λm=>ao 1 a k l λn=>sV (aK 1 a n m) (aSB e d f)) (f [] a)
def aVo b h c a i j R f d e g:=∀_:Rg,jV 30 (aSD b e h c a i j R f) (aSE g a b d)
def a3R i b(h:aG) j a:=ab 4 a i λd=>ab 2 a b λe=>ab 3 a b λf=>ao 1 a d e λg=>sV (aK 1 a g f) λc=>h [j] c
def a3S i b(h:aG) j a:=ab 5 a i λd=>ab 2 a b λe=>ab 3 a b λf=>ao 1 a d e λg=>sV (aK 1 a g f) λc=>h [j] c
def a3T b(d:aG) a:=ab 2 a b λc=>d [c] a
def a3U k b d(c:aG) l a:=ab 1 a k λe=>ab 1 a b λf=>ao 1 a e f λg=>aM a g λh=>bf h (iv 0) λi=>ah i (aB 3 a d λj=>sV (aK 1 a j (iv 0)) (a3T b c)) (c [l] a)
def aSC a f(c:aG) d h b e g i:=∀_:Rg,ah (gt i 0) (ab 0 a f λl=>c [l] a) (bf d (iv 3) λm=>ah m (ab 4 a h λn=>ab 2 a b λo=>ao 1 a n o λp=>aM a p λq=>aB 3 a b λr=>sV (aK 1 a r q) λj=>c [e] j) (bf d (iv 23) λs=>ah s (ab 5 a h λt=>ab 2 a b λu=>ao 1 a t u λv=>aM a v λw=>aB 3 a b λx=>sV (aK 1 a x w) λk=>c [e] k) (bf d (iv 4) λy=>ah y (ab 1 a f λz=>ab 2 a g λA=>ao 1 a z A λB=>aM a B λC=>aB 3 a b λD=>sV (aK 1 a D C) (a3R h b c e)) (bf d (iv 22) λE=>ah E (ab 1 a f λF=>ab 2 a g λG=>ao 1 a F G λH=>aM a H λK=>aB 3 a b λM=>sV (aK 1 a M K) (a3S h b c e)) (bf d (iv 5) λN=>ah N (aB 3 a b λO=>sV (aK 1 a O (iv 1)) (a3U f g b c e)) (c [e] a))))))
def aRv b(a:cG):=bf b (iv 1) λc=>ah c (a [c]) (bf b (iv 16) λd=>ah d (a [d]) (bf b (iv 2) λe=>a [e]))
def aQL c a e g h d f:=ab 1 c a λb=>jR 17 (aSC c e f b g a h d) (aRv b)
def a3V c d e a i j R f b h g:=jV 15 (aVo c d e a i j R f b) (aQL g a c d h b)
def a3W f i b k j l m n a p o q r d s c h g w x R e:=dH [(bo f),(bo i),(bo b),(bo k),(lb U [j,l] []),(bo m),(bo n),(bo a),(bo p),(lb U [o,q] []),(bo r),(lb I [] [15]),(lb I [d,s] [])] [(0,11),(1,11),(2,11),(3,11),(4,11),(5,11),(6,11),(7,11),(8,11),(9,11),(10,11)] (ab 0 e a λt=>aV t (iv 1) λu=>aB 3 e c λv=>sV (aK 1 e v h) (a3V a g b c w x R f d u))
def a3X e b d q t s u v R a:=aB 6 a e λf=>aM a f λg=>aB 0 a b λh=>aM a h λi=>ao 2 a g i λj=>aB 1 a j λk=>aM a k λl=>aB 0 a d λm=>aM a m λn=>ao 6 a l n λo=>aw 6 a o λp=>eV (bs 209 Py a 15) λc r=>sV (aK 6 r c p) (a3W e f b h g i j k d m l n o c p q t s u v R)
def a3Y d b f e h m n R a:=ab 6 a d λi=>ab 0 a b λj=>ao 4 a i j λk=>aw 4 a k λl=>eV (bs 196 aoD a 14) λc g=>sV (aK 4 g c l) (a3X f b c e h d m n R)
def a3Z a c d f e g j k R b:=aw 4 b a λh=>aB 0 b c λi=>sV (aK 4 b i h) (a3Y c d f e g j k R)
def a30 b a c e d g i j R h f:=sV (aK 7 f b h) (a3Z a b c e d g i j R)
def aVl k f g R c a d h e j b:=cf k λl=>ah l (rV (bM NY anY []) λm=>rV (bM y8 aOs []) λn=>sV (aK 7 b f m) λi=>sV (aK 7 i g n) (a8B f g R)) (aw 7 b c λo=>cB 169 [o] b 51 (a30 c a d h e j f g R))
def aVm l h i R f g c d a:=cf l λm=>ah m (rV (bM NY anY []) λn=>rV (bM y8 aOs []) λo=>sV (aK 7 a h n) λj=>sV (aK 7 j i o) (a8A h i R)) (aB 0 a f λp=>aw 6 a p λq=>aB 0 a g λr=>aw 4 a r λs=>ab 0 a c λt=>ab 1 a d λu=>ab 2 a d λv=>ab 1 a c λw=>fV FG a [q,s,t,u,v,w] λe=>rV (eO 0 e) λx=>rV (eO 1 e) λy=>rV (eO 2 e) λz=>eV (bs 36 aNC a 11) λb k=>sV (aK 4 k b x) (aVl z h i R g b c f d y))
def a31 d e b m R n a:=aw 7 a d λh=>aw 7 a e λi=>ab 0 a b λj=>fV aUh a [h,i,j] λf=>rV (eO 0 f) λk=>rV (eO 1 f) λl=>eV (bs 64 y8 a 9) λc g=>sV (aK 7 g c k) (aVm l m n R d e b c)
def aVk b c a d R:=eV (bs 87 NY d 6) λf e=>eV (bs 64 y8 e 7) (a31 b c a f R)
def bhk{c:List AV}{d:List AV}{e:List AV}{R:d7}(l0:L c=7)(l1:L d=7)(w:L e=2)(h:∀b:ae,L b=4096->box b (3,1)=V ⟨92,7,U,U,[c]⟩->box b (4,1)=V ⟨87,7,U,U,[d]⟩->box b (5,1)=V ⟨146,2,U,U,[e]⟩->(∀k,k≠3->k≠4->k≠5->aZ b k=mO)->aVk (.p (3,1) 0 0) (.p (4,1) 0 0) (.p (5,1) 0 0) b R):Fn aS GG 117 [.a c, .a d, .a e] R:=by refine uq ready a7p Tryz.func117 (an:=a5I) (by kernel_rfl) (aND (show ZF aS GG aYe a5I Tryz.f117 [.a c, .a d, .a e] R=(eV (qm 92 7 (ly Tryz.f117) 3 (.a c)) λg j=>eV (qm 87 7 j 4 (.a d)) λm l=>eV (qm 146 2 l 5 (.a e)) λf b=>aVk g m f b R) by kernel_rfl) ?_);refine mY (N:=4096) rfl l0 (by decide) (by decide) uB (by rw[i8]) λj x n A g0=>?_;refine mY (N:=4096) rfl l1 (by decide) (by decide) x (by rw[g0 _ (by decide),i8]) λl y o r g1=>?_;refine mY (N:=4096) rfl w (by decide) (by decide) y (by rw[g1 _ (by decide),g0 _ (by decide),i8]) λb z q i s=>?_;exact h b z (by rw[i _ _ (by decide),r _ _ (by decide)];exact n) (by rw[i _ _ (by decide)];exact o) q (λk t u v=>by rw[s k v,g1 k u,g0 k t];exact i8 _ k)
end
def bg(s:bW)(t:Int):Prop:=aF (L s.count) t/\1<=gd s.count t.toNat
structure StI(w:br)(s:bW)(j:Nat):Prop where
 r:0<=(gd s.bm.ay j).cQ/\(gd s.bm.ay j).cQ<=5
 fr:((gd s.bm.ay j).cQ=0\/(gd s.bm.ay j).cQ=1)↔gd s.count j=0
 z:j=0->(gd s.bm.ay j).cQ≠0
 wt:((gd s.bm.ay j).cQ=3\/(gd s.bm.ay j).cQ=4)->aF (L w.bC) (gd s.bm.ay j).cond/\(gd s.bm.ak (gd w.bC (gd s.bm.ay j).cond.toNat).eg.toNat).pw≠j
 nw:¬((gd s.bm.ay j).cQ=3\/(gd s.bm.ay j).cQ=4)->(gd s.bm.ay j).cond=0
 at':(gd s.bm.ay j).atomic=U->bg s j
structure LcI(w:br)(s:bW)(j:Nat):Prop where
 ow:(gd s.bm.ak j).pw≠-1->bg s (gd s.bm.ak j).pw
 rd:(gd s.bm.ak j).bk≠[]->(gd w.ak j).rw=U/\(gd s.bm.ak j).pw= -1
 rb:∀x∈(gd s.bm.ak j).bk,bg s x
 inc:jC (gd s.bm.ak j).bk
structure SI(w:br)(s:bW)(n:Nat):Prop where
 fit:fN w s=U
 c0:∀c∈s.count,0<=c
 sum:s.count.sum=n
 st:∀j,j<L s.bm.ay->StI w s j
 lk:∀j,j<L s.bm.ak->LcI w s j
 tx:s.bm.tx≠-1->bg s s.bm.tx
 fu:∀j,j<L s.bU->gd s.bm.done j=I->gd s.bU j=0
def gdS{α:Type}[Inhabited α]{l:List α}{i j:Nat}{x:α}:gd (l.set i x) j=if i=j/\j<L l then x else gd l j:=by unfold gd;rw[eI,eI,List.getElem?_set];by_cases h:i=j;subst h;by_cases a:i<L l;simp[a];simp[a];simp[h]
def aTf{α:Type}[Inhabited α]{l:List α}{i j:Nat}{x:α}(h:i≠j):gd (l.set i x) j=gd l j:=by rw[gdS,cj (λe=>h e.1)]
def aTe{α:Type}[Inhabited α]{l:List α}{i:Nat}{x:α}(h:i<L l):gd (l.set i x) i=x:=by rw[gdS,bX ⟨rfl,h⟩]
structure Mk(s s':aW):Prop where
 lk:s'.ak=s.ak
 tx:s'.tx=s.tx
 dn:s'.done=s.done
 len:L s'.ay=L s.ay
 th:∀j,gd s'.ay j=gd s.ay j\/((gd s.ay j).cQ=3/\gd s'.ay j={gd s.ay j with cQ:=4})
theorem Mk.refl(s:aW):Mk s s:=⟨rfl,rfl,rfl,rfl,λ_=> .inl rfl⟩
def aYj{s:aW}{c u:Int}(h:u∈fO s c):aF (L s.ay) u/\(gd s.ay u.toNat).cQ=3/\(gd s.ay u.toNat).cond=c:=by unfold fO eh at h;simp only[dN,jW,fq] at h;obtain⟨i,⟨b,a⟩,rfl⟩:=h;simp only[pe,bN,mn] at a;refine⟨⟨by omega,by omega⟩,?_⟩;simpa using a
def Mk.one{s s':aW}(h:Mk s s'){u:Int}(c:(gd s.ay u.toNat).cQ=3):Mk s (ni s' u {fA s' u with cQ:=4}):=by refine⟨h.lk,h.tx,h.dn,by simp[ni,h.len],λj=>?_⟩;simp only[ni,fA,gdS];split;rename_i b;obtain⟨rfl,_⟩:=b;refine .inr ⟨c,?_⟩;rcases h.th u.toNat with a|⟨_,a⟩<;>rw[a];exact h.th j
def Mk.fold{s:aW}:∀(l:List Int) {s':aW},Mk s s'->(∀u∈l,(gd s.ay u.toNat).cQ=3)->Mk s (l.foldl (λs u=>ni s u {fA s u with cQ:=4}) s')|[],_,h,_=>h|u::l,_,h,a=>Mk.fold l (h.one (a u (by simp))) (λv b=>a v (by simp[b]))
def bhI{s:aW}{bb lD:Int}(h:fO s bb≠[]):(gd s.ay (tD s bb lD).toNat).cQ=3:=by unfold tD;split;rename_i d;exact(aYj d).2.1;cases b:fO s bb with|nil=>exact mp b h|cons a l=>exact(aYj (c:=bb) (by rw[b];simp[gd])).2.1
def a6V{w:br}{s:aW}{t bb lD:Int}:Mk s (cU w s t 18 bb lD).1:=by simp only[cU];simp only[show¬(18:Int)=1 by decide,show¬(18:Int)=2 by decide,show¬((18:Int)=6\/(18:Int)=10) by decide,show¬((18:Int)=7\/(18:Int)=11) by decide,show¬(18:Int)=8 by decide,show¬(18:Int)=9 by decide,show¬(18:Int)=12 by decide,show¬(18:Int)=13 by decide,show¬(18:Int)=14 by decide,show¬(18:Int)=15 by decide,show¬(18:Int)=16 by decide,show¬(18:Int)=17 by decide,aNV,vm];split;exact Mk.refl s;rename_i h;exact(Mk.refl s).one (bhI h)
def a6W{w:br}{s:aW}{t bb lD:Int}:Mk s (cU w s t 19 bb lD).1:=by simp only[cU];simp only[show¬(19:Int)=1 by decide,show¬(19:Int)=2 by decide,show¬((19:Int)=6\/(19:Int)=10) by decide,show¬((19:Int)=7\/(19:Int)=11) by decide,show¬(19:Int)=8 by decide,show¬(19:Int)=9 by decide,show¬(19:Int)=12 by decide,show¬(19:Int)=13 by decide,show¬(19:Int)=14 by decide,show¬(19:Int)=15 by decide,show¬(19:Int)=16 by decide,show¬(19:Int)=17 by decide,show¬(19:Int)=18 by decide,aNV,vm];exact Mk.fold _ (Mk.refl s) (λu a=>(aYj a).2.1)
section
variable{w:br}{s s':bW}{t:Nat}
structure Ct1(s s':bW)(t:Nat):Prop where
 lt:t<L s.count
 e:s'.count=s.count.set t (gd s.count t+1)
 p:0<=gd s.count t
def Ct1.len(h:Ct1 s s' t):L s'.count=L s.count:=by rw[h.e];simp
def Ct1.at(h:Ct1 s s' t):gd s'.count t=gd s.count t+1:=by rw[h.e,aTe h.lt]
def Ct1.ne(h:Ct1 s s' t){j:Nat}(a:j≠t):gd s'.count j=gd s.count j:=by rw[h.e,aTf (Sa a)]
def Ct1.bg(h:Ct1 s s' t){x:Int}(a:Ab.bg s x):Ab.bg s' x:=by refine⟨by rw[h.len];exact a.1,?_⟩;by_cases e:x.toNat=t;rw[e,h.at];have:=h.p;omega;rw[h.ne e];exact a.2
def Ct1.own(h:Ct1 s s' t):Ab.bg s' (t:Int):=by refine⟨⟨by omega,by rw[h.len];have:=h.lt;omega⟩,?_⟩;rw[bh,h.at];have:=h.p;omega
theorem StI.keep(c:Ct1 s s' t){j:Nat}(i:j≠t)(a:gd s'.bm.ay j=gd s.bm.ay j)(k:∀l,(gd s'.bm.ak l).pw=(gd s.bm.ak l).pw\/(gd s'.bm.ak l).pw=t\/(gd s'.bm.ak l).pw= -1)(h:StI w s j):StI w s' j:=by refine⟨by rw[a];exact h.r,by rw[a,c.ne i];exact h.fr,by rw[a];exact h.z,λd=>?_,by rw[a];exact h.nw,by rw[a];exactλg=>c.bg (h.at' g)⟩;rw[a] at d⊢;obtain⟨e,f⟩:=h.wt d;refine⟨e,?_⟩;rcases k (gd w.bC (gd s.bm.ay j).cond.toNat).eg.toNat with b|b|b<;>rw[b];exact f;omega;omega
def StI.own(c:Ct1 s s' t){x:bF}(a:gd s'.bm.ay t=x)(e:x.cQ=2\/x.cQ=5)(b:x.cond=0):StI w s' t:=by have d:=c.own;have f:¬gd s'.count t=0:=(by rw[c.at];have:=c.p;omega);refine⟨by rw[a];omega,by rw[a];constructor<;>intro h<;>omega,by rw[a];intro _;omega,by rw[a];intro h;omega,by rw[a];intro _;exact b,λ_=>d⟩
theorem LcI.keep(c:Ct1 s s' t){j:Nat}(a:gd s'.bm.ak j=gd s.bm.ak j)(h:LcI w s j):LcI w s' j:=⟨by rw[a];exactλb=>c.bg (h.ow b),by rw[a];exact h.rd,by rw[a];exactλx d=>c.bg (h.rb x d),by rw[a];exact h.inc⟩
end
def bfw{l:List Int}:∀{i:Nat} {x:Int},i<L l->(l.set i x).sum=l.sum-gd l i+x:=by induction l with|nil=>intro i x h;simp at h|cons a l b=>intro i x h;cases i with|zero=>simp[gd];omega|succ i=>have:=b (i:=i) (x:=x) (by simpa using h);have e:gd (a::l) (i+1)=gd l i:=(by simp[gd]);simp only[List.set_cons_succ,List.sum_cons,this,e];omega
def aWu{l:List Int}:(∀c∈l,0<=c)->∀i,gd l i<=l.sum/\0<=l.sum:=by induction l with|nil=>intro _ i;simp[gd]|cons a l f=>intro h i;have g:=h a (by simp);obtain⟨b,j⟩:=f (λc d=>h c (by simp[d])) (i-1);cases i with|zero=>simp[gd];omega|succ i=>have e:gd (a::l) (i+1)=gd l i:=(by simp[gd]);rw[e,List.sum_cons];simp only[Nat.add_sub_cancel] at b;omega
section
variable{w:br}{s s':bW}{t n:Nat}
def SI.next(h:SI w s n)(c:Ct1 s s' t)(d:fN w s'=U)(m:∀j,j<L s.bm.ay->StI w s' j)(l:∀j,j<L s.bm.ak->LcI w s' j)(f:L s'.bm.ay=L s.bm.ay)(i:L s'.bm.ak=L s.bm.ak)(k:s'.bm.tx=s.bm.tx\/s'.bm.tx=t\/s'.bm.tx= -1)(g:∀j,j<L s'.bU->gd s'.bm.done j=I->gd s'.bU j=0):SI w s' (n+1):=by refine⟨d,?_,?_,by rw[f];exact m,by rw[i];exact l,λb=>?_,g⟩;intro x b;rw[c.e] at b;rcases CC b with a|rfl;exact h.c0 x a;have:=c.p;omega;rw[c.e,bfw c.lt,h.sum];omega;rcases k with a|a|a;rw[a] at b⊢;exact c.bg (h.tx b);rw[a];exact c.own;exact mp a b
def SI.mk1(h:SI w s n)(c:Ct1 s s' t)(a:fN w s'=U)(g:∀j,j≠t->gd s'.bm.ay j=gd s.bm.ay j)(b:L s'.bm.ay=L s.bm.ay)(f:L s'.bm.ak=L s.bm.ak)(m:StI w s' t)(p:∀l,(gd s'.bm.ak l).pw=(gd s.bm.ak l).pw\/(gd s'.bm.ak l).pw=t\/(gd s'.bm.ak l).pw= -1)(k:∀j,j<L s.bm.ak->LcI w s' j)(i:s'.bm.tx=s.bm.tx\/s'.bm.tx=t\/s'.bm.tx= -1)(d:∀j,j<L s'.bU->gd s'.bm.done j=I->gd s'.bU j=0):SI w s' (n+1):=by refine h.next c a (λj o=>?_) k b f i d;by_cases e:j=t;rw[e];exact m;exact StI.keep c e (g j e) p (h.st j o)
end
def a97{w:br}{s:aW}{t k bb lD:Int}:L (cU w s t k bb lD).1.ak=L s.ak/\L (cU w s t k bb lD).1.done=L s.done/\L (cU w s t k bb lD).1.ay=L s.ay:=by by_cases a:k=18;subst a;have m:=a6V (w:=w) (s:=s) (t:=t) (bb:=bb) (lD:=lD);exact⟨by rw[m.lk],by rw[m.dn],m.len⟩;by_cases b:k=19;subst b;have m:=a6W (w:=w) (s:=s) (t:=t) (bb:=bb) (lD:=lD);exact⟨by rw[m.lk],by rw[m.dn],m.len⟩;unfold cU;by_cases q:k=1;rw[bX q];simp[ni,lC];rw[cj q];clear q;by_cases q:k=2;rw[bX q];simp[ni,lC];rw[cj q];clear q;by_cases q:k=6\/k=10;rw[bX q];simp[ni,lC];rw[cj q];clear q;by_cases q:k=7\/k=11;rw[bX q];simp[ni,lC];rw[cj q];clear q;by_cases q:k=8;rw[bX q];simp[ni,lC];rw[cj q];clear q;by_cases q:k=9;rw[bX q];simp[ni,lC];rw[cj q];clear q;by_cases q:k=12;rw[bX q];simp[ni,lC];rw[cj q];clear q;by_cases q:k=13;rw[bX q];simp[ni,lC];rw[cj q];clear q;by_cases q:k=14;rw[bX q];simp[ni,lC];rw[cj q];clear q;by_cases q:k=15;rw[bX q];simp[ni,lC];rw[cj q];clear q;by_cases q:k=16;rw[bX q];simp[ni,lC];rw[cj q];clear q;by_cases q:k=17;rw[bX q];simp[ni,lC];rw[cj q];clear q;rw[cj a,cj b];by_cases q:k=20;rw[bX q];simp[ni,lC];rw[cj q];clear q;by_cases q:k=22;rw[bX q];simp;rw[cj q];simp
def bfb{w:br}{s:bW}{e:aP}(h:fN w s=U):fN w (oc w s e)=U:=by obtain⟨a,b,c⟩:=a97 (w:=w) (s:=s.bm) (t:=e.aq) (k:=e.kind) (bb:=e.bb) (lD:=og e);simp only[fN,lh,bN,mn] at h⊢;obtain⟨⟨d,f,g,i⟩,j,l,m⟩:=h;refine⟨⟨d,a.trans f,b.trans g,c.trans i⟩,?_,?_,?_⟩;simp only[oc];split<;>simp[j];simp only[oc];split<;>simp[l];simp only[oc];simp[m]
def SI.step{w:br}{s:bW}{e:aP}{n:Nat}(h:SI w s n)(hv:∀j,j<L w.bC->uh w j=I)(hn:n<100000)(hk:C1 w s e=U):SI w (oc w s e) (n+1):=by
 simp only[C1,eH,cP] at hk
 obtain⟨b1,_,_,_,b5⟩:=hk
 simp only[aOL,cP,fK,nl] at b1
 obtain⟨⟨⟨⟨hf,ht⟩,k1⟩,k2⟩,he⟩:=b1
 have u:=bfb (e:=e) hf
 simp only[jm,bN] at he
 obtain⟨aw,_,r,d⟩:=he
 obtain⟨f1,f2,f3,f4⟩:=iY aw
 have ae:=dX.1 ht
 have aN:L s.count=L w.ay:=by simp only[fN,bN,mn] at hf;exact hf.2.2.2
 have aR:L s.bU=L w.bU:=by simp only[fN,bN,mn] at hf;exact hf.2.2.1
 obtain⟨th,g,bb,P,site,dI,ep⟩:=e
 simp only at ht ae k1 k2 r d
 obtain⟨t,rfl⟩:∃t:Nat,th=t:=⟨th.toNat,by have:=ae.1;omega⟩
 have aU:t<L w.ay:=by have:=ae.2;omega
 have K:=h.st t (by omega)
 have au:0<=gd s.count t/\gd s.count t<=n:=by
  have O:=aWu h.c0 t
  rw[h.sum] at O
  exact⟨h.c0 _ (dB (by omega)),O.1⟩
 have c:Ct1 s (oc w s ⟨t,g,bb,P,site,dI,ep⟩) t:=⟨by omega,by simp only[oc,bh];rw[eM (by omega) (by omega)],au.1⟩
 have ax:g=1\/g=2\/g=3\/g=4\/g=5\/g=6\/g=7\/g=8\/g=9\/g=10\/g=11\/g=12\/g=13\/g=14\/g=15\/g=16\/g=17\/g=18\/g=19\/g=20\/g=21\/g=22\/g=23:=by omega
 generalize hS:oc w s ⟨t,g,bb,P,site,dI,ep⟩=S at*
 have f:S.bm=(cU w s.bm t g bb (og ⟨t,g,bb,P,site,dI,ep⟩)).1:=by rw[<-hS];rfl
 have D:g≠22->S.bU=s.bU:=λb=>by rw[<-hS];simp only[oc];rw[cj b]
 have C:S.bU=s.bU->S.bm.done=s.bm.done->∀j,j<L S.bU->gd S.bm.done j=I->gd S.bU j=0:=λa i=>by rw[a,i];exact h.fu
 have M:S.bm.ak=s.bm.ak->∀j,j<L s.bm.ak->LcI w S j:=λa j q=>LcI.keep c (by rw[a]) (h.lk j q)
 generalize og ⟨t,g,bb,P,site,dI,ep⟩=wk at f
 have an:g=22->S.bU=s.bU.set bb.toNat P:=λe=>by rw[<-hS];simp only[oc];rw[bX e]
 clear hS
 have ah:Mk s.bm S.bm->g≠22->(gd s.bm.ay t).cQ=2->SI w S (n+1):=λm b T=>by
  refine h.next c u (λj q=>?_) (M m.lk) m.len (by rw[m.lk]) (.inl m.tx) (C (D b) m.dn)
  by_cases Z:j=t
  ·rw[Z]
   rcases m.th t with O|⟨O,_⟩
   ·exact StI.own c O (.inl T) (K.nw (by omega))
   ·omega
  ·have W:=h.st j q
   rcases m.th j with O|⟨O,A⟩
   ·exact StI.keep c Z O (λl=> .inl (by rw[m.lk])) W
   ·have e4:=W.wt (.inl O)
    refine⟨by rw[A];exact⟨by simp,by simp⟩,by rw[A,c.ne Z];constructor;intro H;simp at H;intro H;have:=W.fr.2 H;omega,by rw[A];intro _;simp,λ_=>by rw[A,m.lk];exact e4,by rw[A];intro H;exact mp (.inr rfl) H,by rw[A];exactλha=>c.bg (W.at' ha)⟩
 have E:S.bm=s.bm->g≠22->(gd s.bm.ay t).cQ=2->SI w S (n+1):=λa b T=>by
  refine h.mk1 c u (λj _=>by rw[a]) (by rw[a]) (by rw[a]) (StI.own c rfl (.inl (by rw[a];exact T)) (by rw[a];exact K.nw (by omega))) (λl=> .inl (by rw[a])) (M (by rw[a])) (.inl (by rw[a])) (C (D b) (by rw[a]))
 have one:∀x:bF,S.bm=ni s.bm t x->g≠22->x.cQ=2\/x.cQ=5->x.cond=0->SI w S (n+1):=λx a b T A=>by
  refine h.mk1 c u (λj q=>by rw[a];simp only[ni,bh];exact aTf (Sa q)) (by rw[a];simp[ni]) (by rw[a];rfl) (StI.own c (by rw[a];simp only[ni,bh];exact aTe (by omega)) T A) (λl=> .inl (by rw[a];rfl)) (M (by rw[a];rfl)) (.inl (by rw[a];rfl)) (C (D b) (by rw[a];rfl))
 have F:∀(k:Nat) (x:cg),S.bm={s.bm with ak:=s.bm.ak.set k x}->g≠22->(gd s.bm.ay t).cQ=2->(x.pw=(gd s.bm.ak k).pw\/x.pw=t\/x.pw= -1)->(x.bk≠[]->(gd w.ak k).rw=U/\x.pw= -1)->(∀y∈x.bk,y=t\/y∈(gd s.bm.ak k).bk)->jC x.bk->k<L s.bm.ak->SI w S (n+1):=λk x a b T A h4 h5 h6 hk=>by
  have z:∀j,gd S.bm.ak j=if k=j/\j<L s.bm.ak then x else gd s.bm.ak j:=λj=>by rw[a];exact gdS
  refine h.mk1 c u (λj _=>by rw[a]) (by rw[a]) (by rw[a];simp) (StI.own c rfl (.inl (by rw[a];exact T)) (by rw[a];exact K.nw (by omega))) (λl=>?_) (λj q=>?_) (.inl (by rw[a])) (C (D b) (by rw[a]))
  ·rw[z];split
   ·rename_i hl;rw[<-hl.1];exact A
   ·exact .inl rfl
  ·by_cases B:k=j
   ·subst B
    have i:gd S.bm.ak k=x:=by rw[z,bX ⟨rfl,q⟩]
    have l0:=h.lk k q
    refine⟨by rw[i];intro ho;rcases A with A|A|A<;>rw[A] at ho⊢;exact c.bg (l0.ow ho);exact c.own;exact mp rfl ho,by rw[i];exact h4,by rw[i];intro y v;rcases h5 y v with rfl|h7;exact c.own;exact c.bg (l0.rb y h7),by rw[i];exact h6⟩
   ·exact LcI.keep c (by rw[z,cj (λe=>B e.1)]) (h.lk j q)
 rcases ax with rfl|rfl|rfl|rfl|rfl|rfl|rfl|rfl|rfl|rfl|rfl|rfl|rfl|rfl|rfl|rfl|rfl|rfl|rfl|rfl|rfl|rfl|rfl
 all_goals simp[lc] at d
 ·exact one {gd s.bm.ay t with cQ:=2} (by rw[f];simp[cU,fA]) (by decide) (.inl rfl) (K.nw (by omega))
 ·exact one {gd s.bm.ay t with cQ:=5} (by rw[f];simp[cU,fA]) (by decide) (.inr rfl) (K.nw (by omega))
 ·exact E (by rw[f];simp[cU]) (by decide) d
 ·exact E (by rw[f];simp[cU]) (by decide) d
 ·exact E (by rw[f];simp[cU]) (by decide) d
 ·
  have p:=mJ r (by decide) (by decide)
  have o:bb.toNat<L s.bm.ak:=by have:=p.1;have:=p.2;omega
  have l0:=h.lk _ o
  simp[named] at r
  exact F bb.toNat {cH s.bm bb with pw:=t} (by rw[f];simp[cU,lC]) (by decide) d.1 (.inr (.inl rfl)) (λb=>by have:=(l0.rd b).1;simp[r.2] at this) (λy v=> .inr v) l0.inc o
 ·have p:=mJ r (by decide) (by decide)
  have o:bb.toNat<L s.bm.ak:=by have:=p.1;have:=p.2;omega
  have l0:=h.lk _ o
  exact F bb.toNat {cH s.bm bb with pw:= -1} (by rw[f];simp[cU,lC]) (by decide) d.1 (.inr (.inr rfl)) (λb=>⟨(l0.rd b).1,rfl⟩) (λy v=> .inr v) l0.inc o
 ·
  have p:=mJ r (by decide) (by decide)
  have o:bb.toNat<L s.bm.ak:=by have:=p.1;have:=p.2;omega
  have l0:=h.lk _ o
  simp[named] at r
  have e0:mP (cH s.bm bb).bk [(t:Int)]=fk (cH s.bm bb).bk t:=Ro l0.inc
  exact F bb.toNat {cH s.bm bb with bk:=mP (cH s.bm bb).bk [(t:Int)]} (by rw[f];simp[cU,lC]) (by decide) d.1 (.inl rfl) (λ_=>⟨r.2,d.2.1⟩) (λy v=>by rw[e0] at v;exact an1 v) (by rw[e0];exact Nz l0.inc) o
 ·
  have p:=mJ r (by decide) (by decide)
  have o:bb.toNat<L s.bm.ak:=by have:=p.1;have:=p.2;omega
  have l0:=h.lk _ o
  exact F bb.toNat {cH s.bm bb with bk:=fJ (cH s.bm bb).bk t} (by rw[f];simp[cU,lC]) (by decide) d.1 (.inl rfl) (λb=>l0.rd (λe=>b (by simp[cH,e,fJ]))) (λy v=> .inr (jW.1 v).1) (amF.2 ((amF.1 l0.inc).filter _)) o
 ·
  have p:=mJ r (by decide) (by decide)
  have o:bb.toNat<L s.bm.ak:=by have:=p.1;have:=p.2;omega
  have l0:=h.lk _ o
  exact F bb.toNat {cH s.bm bb with pw:=t} (by rw[f];simp[cU,lC]) (by decide) d.1 (.inr (.inl rfl)) (λb=>mp d.2.2 b) (λy v=> .inr v) l0.inc o
 ·have p:=mJ r (by decide) (by decide)
  have o:bb.toNat<L s.bm.ak:=by have:=p.1;have:=p.2;omega
  have l0:=h.lk _ o
  exact F bb.toNat {cH s.bm bb with pw:= -1} (by rw[f];simp[cU,lC]) (by decide) d.1 (.inr (.inr rfl)) (λb=>⟨(l0.rd b).1,rfl⟩) (λy v=> .inr v) l0.inc o
 ·
  have a:S.bm={s.bm with tx:=(t:Int)}:=by rw[f];simp[cU]
  exact h.mk1 c u (λj _=>by rw[a]) (by rw[a]) (by rw[a]) (StI.own c rfl (.inl (by rw[a];exact d.1)) (by rw[a];exact K.nw (by omega))) (λl=> .inl (by rw[a])) (M (by rw[a])) (.inr (.inl (by rw[a]))) (C (D (by decide)) (by rw[a]))
 ·have a:S.bm={s.bm with tx:= -1}:=by rw[f];simp[cU]
  exact h.mk1 c u (λj _=>by rw[a]) (by rw[a]) (by rw[a]) (StI.own c rfl (.inl (by rw[a];exact d.1)) (by rw[a];exact K.nw (by omega))) (λl=> .inl (by rw[a])) (M (by rw[a])) (.inr (.inr (by rw[a]))) (C (D (by decide)) (by rw[a]))
 ·exact one {gd s.bm.ay t with atomic:=U} (by rw[f];simp[cU,fA]) (by decide) (.inl d.1) (K.nw (by omega))
 ·exact one {gd s.bm.ay t with atomic:=I} (by rw[f];simp[cU,fA]) (by decide) (.inl d.1) (K.nw (by omega))
 ·
  have p:=oT r (by decide) (by decide)
  have G:bb.toNat<L w.bC:=by have:=p.1;have:=p.2;omega
  have hm:=f1 _ (dB G)
  have N:(gd w.bC bb.toNat).eg.toNat<L s.bm.ak:=by omega
  have l0:=h.lk _ N
  generalize X:(gd w.bC bb.toNat).eg=m at*
  have a:S.bm=ni (lC s.bm m {cH s.bm m with pw:= -1}) t {fA s.bm t with cQ:=3,cond:=bb}:=by rw[f];simp[cU,X]
  have z:∀j,gd S.bm.ak j=if m.toNat=j/\j<L s.bm.ak then{cH s.bm m with pw:= -1} else gd s.bm.ak j:=λj=>by rw[a];exact gdS
  have R:gd S.bm.ay t={fA s.bm t with cQ:=3,cond:=bb}:=by rw[a];simp only[ni,bh];exact aTe (by simp only[lC];omega)
  refine h.mk1 c u (λj q=>by rw[a];simp only[ni,bh,lC];exact aTf (Sa q)) (by rw[a];simp[ni,lC]) (by rw[a];simp[ni,lC]) ?_ (λl=>?_) (λj q=>?_) (.inl (by rw[a];rfl)) (C (D (by decide)) (by rw[a];rfl))
  ·have aO:=c.at
   refine⟨by rw[R];exact⟨by simp,by simp⟩,by rw[R];constructor;intro H;simp at H;intro H;omega,by rw[R];intro _;simp,λ_=>?_,by rw[R];intro H;exact mp (.inl rfl) H,λ_=>c.own⟩
   rw[R]
   refine⟨p,?_⟩
   simp only[X]
   rw[z,bX ⟨rfl,N⟩]
   simp only;omega
  ·rw[z];split
   ·exact .inr (.inr rfl)
   ·exact .inl rfl
  ·by_cases B:m.toNat=j
   ·subst B
    have i:=z m.toNat
    rw[bX ⟨rfl,N⟩] at i
    exact⟨by rw[i];intro ho;exact mp rfl ho,by rw[i];exactλb=>⟨(l0.rd b).1,rfl⟩,by rw[i];exactλy v=>c.bg (l0.rb y v),by rw[i];exact l0.inc⟩
   ·exact LcI.keep c (by rw[z,cj (λe=>B e.1)]) (h.lk j q)
 ·
  have p:=oT r (by decide) (by decide)
  have G:bb.toNat<L w.bC:=by have:=p.1;have:=p.2;omega
  have hm:=f1 _ (dB G)
  have ab:=hv _ G
  have N:(gd w.bC bb.toNat).eg.toNat<L s.bm.ak:=by omega
  have l0:=h.lk _ N
  simp only[uh,cP] at ab
  have az:=ab.2
  clear ab
  generalize X:(gd w.bC bb.toNat).eg=m at*
  have a:S.bm=ni (lC s.bm m {cH s.bm m with pw:=t}) t {fA s.bm t with cQ:=2,cond:=0}:=by rw[f];simp[cU,X]
  have z:∀j,gd S.bm.ak j=if m.toNat=j/\j<L s.bm.ak then{cH s.bm m with pw:=(t:Int)} else gd s.bm.ak j:=λj=>by rw[a];exact gdS
  have R:gd S.bm.ay t={fA s.bm t with cQ:=2,cond:=0}:=by rw[a];simp only[ni,bh];exact aTe (by simp only[lC];omega)
  refine h.mk1 c u (λj q=>by rw[a];simp only[ni,bh,lC];exact aTf (Sa q)) (by rw[a];simp[ni,lC]) (by rw[a];simp[ni,lC]) (StI.own c R (.inl rfl) rfl) (λl=>?_) (λj q=>?_) (.inl (by rw[a];rfl)) (C (D (by decide)) (by rw[a];rfl))
  ·rw[z];split
   ·exact .inr (.inl rfl)
   ·exact .inl rfl
  ·by_cases B:m.toNat=j
   ·subst B
    have i:=z m.toNat
    rw[bX ⟨rfl,N⟩] at i
    exact⟨by rw[i];intro _;exact c.own,by rw[i];exactλb=>mp (l0.rd b).1 (by rw[az];decide),by rw[i];exactλy v=>c.bg (l0.rb y v),by rw[i];exact l0.inc⟩
   ·exact LcI.keep c (by rw[z,cj (λe=>B e.1)]) (h.lk j q)
 ·exact ah (f▸a6V) (by decide) d.1
 ·exact ah (f▸a6W) (by decide) d.1
 ·
  have G:=Eb r (by decide) (by decide)
  have aT:bb.toNat<L w.ay:=by have:=G.1;have:=G.2;omega
  have b:bb.toNat≠t:=by have:=d.2.1;have:=G.1;omega
  have hO:=h.st bb.toNat (by omega)
  have a:S.bm=ni s.bm bb {fA s.bm bb with cQ:=1}:=by rw[f];simp[cU]
  have z:∀j,gd S.bm.ay j=if bb.toNat=j/\j<L s.bm.ay then{fA s.bm bb with cQ:=1} else gd s.bm.ay j:=λj=>by rw[a];exact gdS
  refine h.next c u (λj q=>?_) (M (by rw[a];rfl)) (by rw[a];simp[ni]) (by rw[a];rfl) (.inl (by rw[a];rfl)) (C (D (by decide)) (by rw[a];rfl))
  by_cases B:bb.toNat=j
  ·subst B
   have i:=z bb.toNat
   rw[bX ⟨rfl,q⟩] at i
   have h0:gd s.count bb.toNat=0:=hO.fr.1 (.inl d.2.2)
   refine⟨by rw[i];exact⟨by simp,by simp⟩,by rw[i,c.ne b];exact⟨λ_=>h0,λ_=> .inr rfl⟩,by rw[i];intro _;simp,by rw[i];intro H;simp at H,by rw[i];intro _;exact hO.nw (by omega),by rw[i];exactλha=>c.bg (hO.at' ha)⟩
  ·by_cases Z:j=t
   ·rw[Z]
    exact StI.own c (by rw[z,cj (λe=>b e.1)]) (.inl d.1) (K.nw (by omega))
   ·exact StI.keep c Z (by rw[z,cj (λe=>B e.1)]) (λl=> .inl (by rw[a];rfl)) (h.st j q)
 ·exact E (by rw[f];simp[cU]) (by decide) d.1
 ·
  have a:S.bm={s.bm with done:=s.bm.done.set bb.toNat U}:=by rw[f];simp[cU]
  refine h.mk1 c u (λj _=>by rw[a]) (by rw[a]) (by rw[a]) (StI.own c rfl (.inl (by rw[a];exact d.1)) (by rw[a];exact K.nw (by omega))) (λl=> .inl (by rw[a])) (M (by rw[a])) (.inl (by rw[a])) (λj q hd=>?_)
  rw[an rfl] at q⊢
  rw[a] at hd
  simp only[gdS] at hd⊢
  simp only[zq] at q
  have aQ:L s.bm.done=L s.bU:=by omega
  by_cases B:bb.toNat=j
  ·rw[bX ⟨B,by omega⟩] at hd;cases hd
  ·rw[cj (λe=>B e.1)] at hd⊢
   exact h.fu j q hd
 ·exact E (by rw[f];simp[cU]) (by decide) d.1
structure PB(x:ae)(v6 v7:Nat)(c:qt)(ch:xd):Prop where
 hl:L x=4096
 b1:box x (3,1)=V ⟨92,7,U,U,[c.c]⟩
 b3:box x (5,1)=V ⟨146,2,U,U,[ch.c]⟩
 b6:box x (6,v6)=V ⟨87,7,U,U,[NY]⟩
 b7:box x (7,v7)=V ⟨64,7,U,U,[y8]⟩
def PB.kx{x y:ae}{v6 v7:Nat}{c:qt}{ch:xd}{ks:List Nat}(P:PB x v6 v7 c ch)(F:Kx ks x y)(h:3∉ks/\5∉ks/\6∉ks/\7∉ks):PB y v6 v7 c ch:=⟨F.len.trans P.hl,F.keep _ _ h.1 P.b1,F.keep _ _ h.2.1 P.b3,F.keep _ _ h.2.2.1 P.b6,F.keep _ _ h.2.2.2 P.b7⟩
theorem PB.fx{x y:ae}{v6 v7:Nat}{c:qt}{ch:xd}{b:List Id}(P:PB x v6 v7 c ch)(F:Fx x y b)(h:∀q∈b,q.1≠3/\q.1≠5/\q.1≠6/\q.1≠7):PB y v6 v7 c ch:=⟨F.len.trans P.hl,F.keep _ _ (λe=>(h _ e).1 rfl) P.b1,F.keep _ _ (λe=>(h _ e).2.1 rfl) P.b3,F.keep _ _ (λe=>(h _ e).2.2.1 rfl) P.b6,F.keep _ _ (λe=>(h _ e).2.2.2 rfl) P.b7⟩
section
variable{pl:Nat×Nat×Nat}{x:ae}{a:AV}{f:Nat->AV×AV}{ss:List pt}{n u:Nat}
def O9.ix(T:O9 pl I x a f ss n)(h:u<n){K:d7}(g:∀b,a= .m b n->box x b=V ⟨196,4,U,U,alx f ss n⟩->K (.p b u 0)):rV (cz 4 x a (iv u)) K:=by rcases T.bx with⟨j,_⟩|⟨b,rfl,_,d⟩;omega;have:cz 4 x (.m b n) (iv u)=V (.p b u 0):=(by simp[cz,d,h]);rw[this];exact g b rfl d
def be4{b:Id}{e:TypeId}{z:Nat}{o v:Bool}(d:box x b=V ⟨e,z,o,v,alx f ss n⟩)(g:u<n):kb (V 4) x (.p b u 0)=V (.a [iv (gd ss u).pc,(f u).1,(f u).2,iv (gd ss u).ac]):=by simp only[kb,iE,d,qd,aTy g];rfl
def a7b{s:pt}(b:s.pc=(gd ss u).pc)(d:s.ac=(gd ss u).ac):alx f (ss.set u s) n=alx f ss n:=by unfold alx;refine ja λk _=>?_;rw[gdS];split;rename_i e;rw[<-e.1,b,d];rfl
def bfD(T:O9 pl I x a f ss n)(B:u<n)(R:n<=L ss){m:Nat}(l:m<L (gd ss u).li){v:Int}{K:be}(E:pl.1≠pl.2.1/\pl.1≠pl.2.2)(P:∀p y,O9 pl I y a f (ss.set u {gd ss u with li:=(gd ss u).li.set m v}) n->Fx x y (aA (f u).1)->K p y):rV (cz 1 x (f u).1 (iv m)) λp=>sV (aK 1 x p (iv v)) (K p):=by refine ixG (T.g1 u B) (dJ (by simpa using l)) λg m1 j G=>?_;rw[bh];have w:g.1=pl.1:=T.p1 u B g (by rw[j];simp[aA]);refine aQz (x:=iv v) (r:=[iv (gd (gd ss u).li m)]) G (by rw[xe (by simpa using l),ve,eC l,bT l];rfl) (by simp) rfl rfl rfl λy F C=>?_;have A:((gd ss u).li.map ci++m1).set m ([iv (gd (gd ss u).li m)].set 0 (nrm (eR x (iv v))))=((gd ss u).li.set m v).map ci++m1:=(by rw[List.set_append_left _ _ (by simpa using l),vB];rfl);rw[A] at C;have t:aA (f u).1=[g]:=(by rw[j];rfl);have M:∀k,k<n->k≠u->∀q∈aA (f k).1,q∉[g]:=λk d H q o e=>T.d1 k u d B H q o (by rw[t];exact e);refine P _ y ⟨T.bx.elim .inl λ⟨b,N,D,O⟩=> .inr ⟨b,N,D,?_⟩,λk d=>?_,λk d=>?_,T.p1,T.p2,T.d1,T.d2⟩ (F.mono λq o=> .inl (by rw[t];exact o));rw[a7b (u:=u) (s:={gd ss u with li:=(gd ss u).li.set m v}) rfl rfl];exact F.keep _ _ (λe=>by simp at e;subst e;exact E.2 (w.symm.trans D)) O;rw[gdS];by_cases e:u=k;subst e;rw[bX ⟨rfl,by omega⟩];exact .inr ⟨g,m1,by rw[j];simp,C⟩;rw[cj (λh=>e h.1)];exact(T.g1 k d).fx F (M k d (Sa e));rw[gdS];have z:G2 I y (f k).2 (gd ss k).lj:=(T.g2 k d).fx F λq o e=>(by simp at e;subst e;exact E.1 (w.symm.trans (T.p2 k d q o)));by_cases e:u=k;subst e;rw[bX ⟨rfl,by omega⟩];exact z;rw[cj (λh=>e h.1)];exact z
def bfE(T:O9 pl I x a f ss n)(D:u<n)(X:n<=L ss){m:Nat}(v:m<L (gd ss u).lj){l:List Int}{t o:Bool}{K:ae->Prop}(H:pl.2.1≠pl.1/\pl.2.1≠pl.2.2)(W:∀y,O9 pl I y a f (ss.set u {gd ss u with lj:=(gd ss u).lj.set m l}) n->Fx x y (aA (f u).2)->K y):rV (cz 1 x (f u).2 (iv m)) λp=>sV (aK 1 x p (.l (l.map ci) t o)) K:=by have B:gm x 38 1 (f u).2 ((gd ss u).lj.map cl):=T.g2 u D;refine ixG B (dJ (by simpa using v)) λg m1 j M=>?_;rw[bh];have A:g.1=pl.2.1:=T.p2 u D g (by rw[j];simp[aA]);refine aQz (x:= .l (l.map ci) t o) (r:=[sl ci (gd (gd ss u).lj m)]) M (by rw[xe (by simpa using v),ve,eC v,bT v];rfl) (by simp) rfl rfl rfl λy F E=>?_;have C:((gd ss u).lj.map cl++m1).set m ([sl ci (gd (gd ss u).lj m)].set 0 (nrm (eR x (.l (l.map ci) t o))))=((gd ss u).lj.set m l).map cl++m1:=(by rw[List.set_append_left _ _ (by simpa using v),vB];rfl);rw[C] at E;have z:aA (f u).2=[g]:=(by rw[j];rfl);have O:∀k,k<n->k≠u->∀q∈aA (f k).2,q∉[g]:=λk d N q w e=>T.d2 k u d D N q w (by rw[z];exact e);refine W y ⟨T.bx.elim .inl λ⟨b,P,G,R⟩=> .inr ⟨b,P,G,?_⟩,λk d=>?_,λk d=>?_,T.p1,T.p2,T.d1,T.d2⟩ (F.mono λq w=> .inl (by rw[z];exact w));rw[a7b (u:=u) (s:={gd ss u with lj:=(gd ss u).lj.set m l}) rfl rfl];exact F.keep _ _ (λe=>by simp at e;subst e;exact H.2 (A.symm.trans G)) R;rw[gdS];have g1:gm y 2 1 (f k).1 ((gd ss k).li.map ci):=(T.g1 k d).fx F λq w e=>(by simp at e;subst e;exact H.1 (A.symm.trans (T.p1 k d q w)));by_cases e:u=k;subst e;rw[bX ⟨rfl,by omega⟩];exact g1;rw[cj (λh=>e h.1)];exact g1;rw[gdS];by_cases e:u=k;subst e;rw[bX ⟨rfl,by omega⟩];show gm y 38 1 (f u).2 (((gd ss u).lj.set m l).map cl);exact .inr ⟨g,m1,by rw[j];simp,E⟩;rw[cj (λh=>e h.1)];exact(T.g2 k d).fx F (O k d (Sa e))
def bfC{b:Id}{r:List AV}{s:pt}{y:ae}(T:O9 pl I y (.m b (L ss)) f ss (L ss)){e:TypeId}{z:Nat}{o:Bool}(D:u<L ss)(v:box x b=V ⟨e,z,o,U,(alx f ss (L ss)).set u r⟩)(B:r.map (rS x)=s.c)(A:∀k,k<L ss->rS x (f k).1=sl ci (gd ss k).li/\rS x (f k).2=sl cl (gd ss k).lj):fz x (.m b (L ss))=sl pt.c (ss.set u s):=by have j:((alx f ss (L ss)).set u r).map (·.map (rS x))=(ss.set u s).map pt.c:=(by rw[vB,vB,B];congr 1;refine aqI λk=>?_;rcases jj k (L ss) with d|d;rw[ve,aTy d,ve,eC d];obtain⟨p,q⟩:=A k d;simp only[df,ji,mU,p,q,bT d];rfl;rw[qi (by simpa[aQ8] using d),qi (by simpa using d)]);have e:((alx f ss (L ss)).set u r).take (L ss)=(alx f ss (L ss)).set u r:=oB (by rw[zq,aQ8];omega);have t:(((alx f ss (L ss)).set u r).all λr=>r.all λc=>eN (rS x c))=U:=(by rw[dV];intro E l;rw[dV];intro c w;have g:=CA (f:=(·.map (rS x))) l;rw[j] at g;obtain⟨s,_,C⟩:=dN.1 g;have:=CA (f:=rS x) w;rw[<-C] at this;simp only[pt.c,eW,ql,y6] at this;rcases this with h|h|h|h<;>rw[h]<;>simp[eN,sl]);simp only[Ab.fz,dQ,v,e,t,vm,j];rw[cj (by decide)];rfl
def idb{b q:Id}{k:Nat}(h:q∈[b])(d:b.1=k):q.1=k:=by simp at h;rw[h];exact d
def bft{Qq:d7}{v6 v7 v9 v14:Nat}{c:qt}{ch:xd}{S:aW}{fl:Bool×Bool×Bool×Bool×Bool×Bool}{cc fu ta:AV}{cells w:List Int}{e:aP}{r:List AV}{D:pt}
  (P:PB x v6 v7 c ch)(b4:box x (4,1)=V ⟨87,7,U,U,[eD S fl++[cc,fu,ta]]⟩)(b9:box x (9,v9)=V ⟨64,7,U,U,[e.c]⟩)(aa:box x (14,v14)=V ⟨196,4,U,U,[r]⟩)
  (gc:gm x 2 1 cc (cells.map ci))(gf:gm x 2 1 fu (w.map ci))(T:O9 (12,31,33) I x ta f ss (L ss))(C:u<L ss)(ar:ch.aq=u)(hr:r=D.c\/∃R ev,r=[iv R,(f u).1,(f u).2,iv ev]/\D=⟨R,(gd ss u).li,(gd ss u).lj,ev⟩)
  (z:∀q∈aA cc,q.1=11)(A:∀q∈aA fu,q.1=15)(hQ:Qq (.t [.a (pm.c ⟨S,cells,w,ss.set u D⟩), .a e.c,bv U])):
  aRu (.p (4,1) 0 0) (.p (5,1) 0 0) (.p (14,v14) 0 0) (.p (9,v9) 0 0) (.p (6,v6) 0 0) (.p (7,v7) 0 0) (λr=>Qq (B1 r)) [] x:=by
 have k1:∀{x:List AV} {y:AV},aN J (y::x)=V y:=λ{x y}=>by cases y<;>rfl
 have k4:∀{a b c d:AV},aN (V 4) [a,b,c,d]=V (.a [a,b,c,d]):=rfl
 have av:∃G H M N,r=[G,H,M,N]:=by
  rcases hr with rfl|⟨_,_,rfl,_⟩<;>exact⟨_,_,_,_,rfl⟩
 obtain⟨G,H,M,N,rfl⟩:=av
 have ap:eY (.a [G,H,M,N])=V [G,H,M,N]:=rfl
 simp only[aRu,aI,u0,u1,b4,P.b3,aa,eD,zn,dW,xd.c,k1,k4,nM,ip,aj,ar,↓uL]
 refine T.ix C λb ha hb=>?_
 subst ha
 have E:b.1=33:=by rcases T.bx with⟨h,_⟩|⟨b',h,h2,_⟩;omega;simp only[AV.m.injEq] at h;rw[h.1];exact h2
 refine Bp hb (aTy C) ap rfl (by simp) λs1 v b1=>?_
 have B:∀{q:Id},q.1≠33->q∉[b]:=λh e=>h (idb e E)
 have Z:=P.fx v (λq g=>by have:=idb g E;omega)
 have ae:=v.keep _ _ (B (by simp)) b4
 have ag:=v.keep _ _ (B (by simp)) b9
 have am:=gc.fx v λq g=>B (by rw[z q g];decide)
 have ao:=gf.fx v λq g=>B (by rw[A q g];decide)
 have e1:aN (V 7) (eD S fl++[cc,fu, .m b (L ss)])=V (.a (eD S fl++[cc,fu, .m b (L ss)])):=rfl
 have e2:aN (V 7) e.c=V (.a e.c):=rfl
 simp only[a33,u0,u1,ae,ag,ip,e1,e2,↓uL]
 refine qr Z.b6 rfl rfl λs2 W b2=>?_
 have af:=W.kq Z.b7
 refine qr af rfl rfl λF X b3=>?_
 simp only[a32,↓uL]
 have O:9∉cD (.a (eD S fl++[cc,fu, .m b (L ss)])):=λh=>by
  have e:cD (.a (eD S fl++[cc,fu, .m b (L ss)]))=dK cc++(dK fu++[b.1]):=by simp[cD,dC,eD,dK]
  rw[e] at h
  simp only[dF,cE] at h
  rcases h with h|h|h
  ·obtain⟨q,g,h⟩:=aQu gc h;have:=z q g;omega
  ·obtain⟨q,g,h⟩:=aQu gf h;have:=A q g;omega
  ·omega
 refine dT ?_ ?_
 ·generalize AV.a (eD S fl++[cc,fu, .m b (L ss)])=b0 at O⊢
  simp[eL,lb,aTn,O]
 have ab:=X.kq b2
 simp only[u0,u1,b3,ab,ip,e1,e2,↓uL]
 have j:Fx s1 F [(6,v6),(7,v7)]:=W.trans X
 have o:∀{q:Id},q.1≠6->q.1≠7->q∉[((6,v6):Id),(7,v7)]:=λh h' e=>by simp at e;rcases e with rfl|rfl;exact h rfl;exact h' rfl
 have hT:fz F (.m b (L ss))=sl pt.c (ss.set u D):=by
  have g1:∀k,k<L ss->rS F (f k).1=sl ci (gd ss k).li/\rS F (f k).2=sl cl (gd ss k).lj:=λk l=>
   ⟨aWh (((T.g1 k l).fx v λq g=>B (by rw[T.p1 k l q g];decide)).fx j λq g=>o (by rw[T.p1 k l q g];decide) (by rw[T.p1 k l q g];decide)),(((T.g2 k l).fx v λq g=>B (by rw[T.p2 k l q g];decide)).fx j λq g=>o (by rw[T.p2 k l q g];decide) (by rw[T.p2 k l q g];decide)).fr⟩
  refine bfC T C (j.keep _ _ (o (by rw[E];decide) (by rw[E];decide)) b1) ?_ g1
  simp only[CE,dW,nM,List.drop_nil,cL]
  rcases hr with h|⟨R,ev,h,rfl⟩
  ·rw[h];rfl
  ·rw[h]
   simp only[ji,mU,(g1 u C).1,(g1 u C).2]
   rfl
 have x4:=aBr (am.fx j λq g=>o (by rw[z q g];decide) (by rw[z q g];decide))
 have x5:=aBr (ao.fx j λq g=>o (by rw[A q g];decide) (by rw[A q g];decide))
 refine aOH (vs':=[.a (pm.c ⟨S,cells,w,ss.set u D⟩), .a e.c,bv U]) ?_ (by simp[iX,pm.c,aP.c,aW.c,eN,sl]) hQ
 simp only[ji,mU,fzT,eD,x4,x5,hT,bcz,aWt,zn,dW]
 rfl
end
def aQc(t b:pt):Prop:=L t.li=L b.li/\L t.lj=L b.lj/\(∀l∈t.lj,Tn l)/\t.pc=b.pc/\t.ac=b.ac
structure SK(ch:xd)(cc fu:AV)(v15 u:Nat)(s:pm):Prop where
 pc:∀q∈aA cc,q.1=11
 pf:∀q∈aA fu,q.1=15/\q≠(15,v15)
 hu:u<L s.ay
 hch:ch.aq=u
structure SM(x:ae)(v6 v7 v9 v14 v15:Nat)(c:qt)(ch:xd)(S:aW)(fl:Bool×Bool×Bool×Bool×Bool×Bool)(cc fu ta:AV)(f:Nat->AV×AV)(u:Nat)(s:pm)(e:aP)(i:lF):Prop where
 P:PB x v6 v7 c ch
 b4:box x (4,1)=V ⟨87,7,U,U,[eD S fl++[cc,fu,ta]]⟩
 b9:∃v:Int,box x (9,v9)=V ⟨64,7,U,U,[({e with value:=v}:aP).c]⟩
 b14:box x (14,v14)=V ⟨196,4,U,U,[[iv (gd s.ay u).pc,(f u).1,(f u).2,iv (gd s.ay u).ac]]⟩
 b15:box x (15,v15)=V ⟨209,6,U,U,[i.c]⟩
 gc:∃l:List Int,L l=L s.cells/\gm x 2 1 cc (l.map ci)
 gf:∃l:List Int,L l=L s.bU/\gm x 2 1 fu (l.map ci)
 tt:∃ss:List pt,L ss=L s.ay/\O9 (12,31,33) I x ta f ss (L ss)/\∀k,k<L ss->aQc (gd ss k) (gd s.ay k)
section
variable{x:ae}{v6 v7 v9 v14 v15:Nat}{c:qt}{ch:xd}{S:aW}{fl:Bool×Bool×Bool×Bool×Bool×Bool}{cc fu ta:AV}{f:Nat->AV×AV}{u:Nat}{s:pm}{e:aP}{i:lF}{K:d7}{K2:be}{KS:ae->Prop}
def SM.to(M:SM x v6 v7 v9 v14 v15 c ch S fl cc fu ta f u s e i){y:ae}{b:List Id}(F:Fx x y b)(h:∀q∈b,q.1≠3/\q.1≠4/\q.1≠5/\q.1≠6/\q.1≠7/\q.1≠14/\q≠(15,v15))(d:∃v:Int,box y (9,v9)=V ⟨64,7,U,U,[({e with value:=v}:aP).c]⟩)(j:∃l:List Int,L l=L s.cells/\gm y 2 1 cc (l.map ci))(m:∃l:List Int,L l=L s.bU/\gm y 2 1 fu (l.map ci))(p:∃ss:List pt,L ss=L s.ay/\O9 (12,31,33) I y ta f ss (L ss)/\∀k,k<L ss->aQc (gd ss k) (gd s.ay k)):SM y v6 v7 v9 v14 v15 c ch S fl cc fu ta f u s e i:=⟨M.P.fx F λq o=>by have:=h q o;omega,F.keep _ _ (λg=>(h _ g).2.1 rfl) M.b4,d,F.keep _ _ (λg=>(h _ g).2.2.2.2.2.1 rfl) M.b14,F.keep _ _ (λg=>(h _ g).2.2.2.2.2.2 rfl) M.b15,j,m,p⟩
def SM.keep9(M:SM x v6 v7 v9 v14 v15 c ch S fl cc fu ta f u s e i){y:ae}{b:List Id}(F:Fx x y b)(h:∀q∈b,q.1≠9):∃v:Int,box y (9,v9)=V ⟨64,7,U,U,[({e with value:=v}:aP).c]⟩:=by obtain⟨v,d⟩:=M.b9;exact⟨v,F.keep _ _ (λg=>h _ g rfl) d⟩
def SM.keepC(M:SM x v6 v7 v9 v14 v15 c ch S fl cc fu ta f u s e i){y:ae}{b:List Id}(F:Fx x y b)(h:∀q∈aA cc,q∉b):∃l:List Int,L l=L s.cells/\gm y 2 1 cc (l.map ci):=by obtain⟨l,d,g⟩:=M.gc;exact⟨l,d,g.fx F h⟩
def SM.keepF(M:SM x v6 v7 v9 v14 v15 c ch S fl cc fu ta f u s e i){y:ae}{b:List Id}(F:Fx x y b)(h:∀q∈aA fu,q∉b):∃l:List Int,L l=L s.bU/\gm y 2 1 fu (l.map ci):=by obtain⟨l,d,g⟩:=M.gf;exact⟨l,d,g.fx F h⟩
def SM.keepT(M:SM x v6 v7 v9 v14 v15 c ch S fl cc fu ta f u s e i){y:ae}{b:List Id}(F:Fx x y b)(h:∀q∈b,q.1≠12/\q.1≠31/\q.1≠33):∃ss:List pt,L ss=L s.ay/\O9 (12,31,33) I y ta f ss (L ss)/\∀k,k<L ss->aQc (gd ss k) (gd s.ay k):=by obtain⟨ss,d,g,j⟩:=M.tt;exact⟨ss,d,g.fx F h,j⟩
def aX3(M:SM x v6 v7 v9 v14 v15 c ch S fl cc fu ta f u s e i)(C:SK ch cc fu v15 u s){v:Int}(j:∀y,SM y v6 v7 v9 v14 v15 c ch S fl cc fu ta f u s e i->KS y):sV (aK 1 x (.p (9,v9) 0 3) (iv v)) KS:=by obtain⟨l,k⟩:=M.b9;refine A0 k rfl (by simp[aP.c]) λy F b=>j y (M.to F (by simp) ⟨v,b⟩ (M.keepC F λq h g=>?_) (M.keepF F λq h g=>?_) (M.keepT F (by simp)));have d:=C.pc q h;simp at g;subst g;simp at d;have d:=(C.pf q h).1;simp at g;subst g;simp at d
def aTu{e:TypeId}{a:AV}{l:List Int}(g:gm x e 1 a (l.map ci)){o:Int}(d:aF (L l) o)(h:∀v:Int,K (iv v)):rV (cz 1 x a (iv o)) λp=>rV (kb J x p) K:=by obtain⟨m,rfl⟩:∃m:Nat,o=m:=⟨o.toNat,by have:=d.1;omega⟩;have b:m<L l:=(by have:=d.2;omega);refine(O1.of g).ix1 (c:=iv (gd l m)) (by rw[ve,eC b,bT b];rfl) (K:=λ_=>K) λ_ _=>h _
def bfe(M:SM x v6 v7 v9 v14 v15 c ch S fl cc fu ta f u s e i){o:Int}(h:aF (L s.cells) o)(d:∀v:Int,K (iv v)):rV (cz 1 x cc (iv o)) λp=>rV (kb J x p) K:=by obtain⟨l,b,g⟩:=M.gc;exact aTu g (by rw[b];exact h) d
def bff(M:SM x v6 v7 v9 v14 v15 c ch S fl cc fu ta f u s e i){o:Int}(h:aF (L s.bU) o)(d:∀v:Int,K (iv v)):rV (cz 1 x fu (iv o)) λp=>rV (kb J x p) K:=by obtain⟨l,b,g⟩:=M.gf;exact aTu g (by rw[b];exact h) d
def aX2(M:SM x v6 v7 v9 v14 v15 c ch S fl cc fu ta f u s e i)(C:SK ch cc fu v15 u s){o:Int}(j:aF (L (gd s.ay u).li) o)(h:∀v:Int,K (iv v)):rV (cz 1 x (f u).1 (iv o)) λp=>rV (kb J x p) K:=by obtain⟨ss,d,T,g⟩:=M.tt;have b:u<L ss:=(by rw[d];exact C.hu);exact aTu (T.g1 u b) (by rw[(g u b).1];exact j) h
def aR5{e:TypeId}{a:AV}{l:List Int}(g:gm x e 1 a (l.map ci)){o v:Int}(h:aF (L l) o)(w:∀p y,Fx x y (aA a)->gm y e 1 a ((l.set o.toNat v).map ci)->K2 p y):rV (cz 1 x a (iv o)) λp=>sV (aK 1 x p (iv v)) (K2 p):=by refine ixG g (by simpa using h) λb m t z=>?_;have d:o.toNat<L l:=(by have:=h.1;have:=h.2;omega);refine aQz (x:=iv v) (r:=[iv (gd l o.toNat)]) z (by rw[xe (by simpa using d),ve,eC d,bT d];rfl) (by simp) rfl rfl rfl λy F k=>?_;have j:(l.map ci++m).set o.toNat ([iv (gd l o.toNat)].set 0 (nrm (eR x (iv v))))=(l.set o.toNat v).map ci++m:=(by rw[List.set_append_left _ _ (by simpa using d),vB];rfl);rw[j] at k;exact w _ y (F.mono λq A=> .inl (by rw[t];simpa[aA] using A)) (.inr ⟨b,m,by rw[t];simp,k⟩)
def bfg(M:SM x v6 v7 v9 v14 v15 c ch S fl cc fu ta f u s e i)(C:SK ch cc fu v15 u s){o v:Int}(m:aF (L s.cells) o)(k:∀p y,SM y v6 v7 v9 v14 v15 c ch S fl cc fu ta f u s e i->K2 p y):rV (cz 1 x cc (iv o)) λp=>sV (aK 1 x p (iv v)) (K2 p):=by obtain⟨l,d,g⟩:=M.gc;refine aR5 g (by rw[d];exact m) λp y F j=>k p y (M.to F (λq b=>?_) (M.keep9 F λq b=>?_) ⟨_,by simpa using d,j⟩ (M.keepF F λq b h=>?_) (M.keepT F λq b=>?_));have:=C.pc q b;refine⟨by omega,by omega,by omega,by omega,by omega,by omega,λe=>?_⟩;subst e;simp at this;have:=C.pc q b;omega;have d:=(C.pf q b).1;have r:=C.pc q h;omega;have:=C.pc q b;omega
def bfh(M:SM x v6 v7 v9 v14 v15 c ch S fl cc fu ta f u s e i)(C:SK ch cc fu v15 u s){o v:Int}(m:aF (L s.bU) o)(k:∀p y,SM y v6 v7 v9 v14 v15 c ch S fl cc fu ta f u s e i->K2 p y):rV (cz 1 x fu (iv o)) λp=>sV (aK 1 x p (iv v)) (K2 p):=by obtain⟨l,d,g⟩:=M.gf;refine aR5 g (by rw[d];exact m) λp y F j=>k p y (M.to F (λq b=>?_) (M.keep9 F λq b=>?_) (M.keepC F λq b h=>?_) ⟨_,by simpa using d,j⟩ (M.keepT F λq b=>?_));have:=(C.pf q b).1;exact⟨by omega,by omega,by omega,by omega,by omega,by omega,(C.pf q b).2⟩;have:=(C.pf q b).1;omega;have d:=(C.pf q h).1;have r:=C.pc q b;omega;have:=(C.pf q b).1;omega
def a7e{ss:List pt}{t:pt}(b:∀k,k<L ss->aQc (gd ss k) (gd s.ay k))(g:aQc t (gd s.ay u)):∀k,k<L (ss.set u t)->aQc (gd (ss.set u t) k) (gd s.ay k):=λk d=>by
 rw[gdS]
 split
 ·rename_i e;rw[<-e.1];exact g
 ·exact b k (by simpa using d)
def bfi(M:SM x v6 v7 v9 v14 v15 c ch S fl cc fu ta f u s e i)(C:SK ch cc fu v15 u s){o v:Int}(l:aF (L (gd s.ay u).li) o)(w:∀p y,SM y v6 v7 v9 v14 v15 c ch S fl cc fu ta f u s e i->K2 p y):rV (cz 1 x (f u).1 (iv o)) λp=>sV (aK 1 x p (iv v)) (K2 p):=by obtain⟨ss,g,T,k⟩:=M.tt;have d:u<L ss:=(by rw[g];exact C.hu);obtain⟨m,rfl⟩:∃m:Nat,o=m:=⟨o.toNat,by have:=l.1;omega⟩;have h:=k u d;refine bfD T d (dA _) (by rw[h.1];have:=l.2;omega) (by decide) λp y r F=>w p y (M.to F (λq b=>?_) (M.keep9 F λq b=>?_) (M.keepC F λq b j=>?_) (M.keepF F λq b j=>?_) ⟨ss.set u {gd ss u with li:=(gd ss u).li.set m v},by simpa using g,by rw[zq];exact r,a7e k ⟨by simpa using h.1,h.2.1,h.2.2.1,h.2.2.2⟩⟩);have:=T.p1 u d q b;simp at this;refine⟨by omega,by omega,by omega,by omega,by omega,by omega,λe=>?_⟩;subst e;simp at this;have:=T.p1 u d q b;simp at this;omega;have g:=T.p1 u d q j;have t:=C.pc q b;simp at g;omega;have g:=T.p1 u d q j;have t:=(C.pf q b).1;simp at g;omega
def bfj(M:SM x v6 v7 v9 v14 v15 c ch S fl cc fu ta f u s e i)(C:SK ch cc fu v15 u s){o:Int}{l:List Int}{t b:Bool}(D:Tn l)(v:aF (L (gd s.ay u).lj) o)(B:∀y,SM y v6 v7 v9 v14 v15 c ch S fl cc fu ta f u s e i->KS y):rV (cz 1 x (f u).2 (iv o)) λp=>sV (aK 1 x p (.l (l.map ci) t b)) KS:=by obtain⟨ss,h,T,r⟩:=M.tt;have g:u<L ss:=(by rw[h];exact C.hu);obtain⟨m,rfl⟩:∃m:Nat,o=m:=⟨o.toNat,by have:=v.1;omega⟩;have j:=r u g;refine bfE T g (dA _) (by rw[j.2.1];have:=v.2;omega) (by decide) λy w F=>B y (M.to F (λq d=>?_) (M.keep9 F λq d=>?_) (M.keepC F λq d k=>?_) (M.keepF F λq d k=>?_) ⟨ss.set u {gd ss u with lj:=(gd ss u).lj.set m l},by simpa using h,by rw[zq];exact w,a7e r ⟨j.1,by simpa using j.2.1,λz E=>(CC E).elim (j.2.2.1 z) λe=>by rw[e];exact D,j.2.2.2⟩⟩);have:=T.p2 u g q d;simp at this;refine⟨by omega,by omega,by omega,by omega,by omega,by omega,λe=>?_⟩;subst e;simp at this;have:=T.p2 u g q d;simp at this;omega;have h:=T.p2 u g q k;have A:=C.pc q d;simp at h;omega;have h:=T.p2 u g q k;have A:=(C.pf q d).1;simp at h;omega
end
section
variable{x:ae}{v6 v7 v9 v14 v15:Nat}{c:qt}{ch:xd}{S:aW}{fl:Bool×Bool×Bool×Bool×Bool×Bool}{cc fu ta:AV}{f:Nat->AV×AV}{u:Nat}{s:pm}{e:aP}{i:lF}{Qq:d7}
structure SB(c:qt)(s:pm)(u:Nat):Prop where
 hu:u<L c.ay
 rg:(gd c.ay u).li<=1000
 il:L (gd c.ay u).No<1000000
 ev:0<=(gd s.ay u).ac/\(gd s.ay u).ac<=900
 rl:L (gd s.ay u).li<=1000
 tl:L (gd s.ay u).lj<=1000
def aSl(Qq:d7)(S:aW)(s:pm)(e:aP)(u:Nat):Prop:=∀(cells d:List Int) (ss:List pt) (v:Int) (b:pt),L cells=L s.cells->L d=L s.bU->L ss=L s.ay->(∀k,k<L ss->aQc (gd ss k) (gd s.ay k))->((∀l∈b.lj,Tn l)/\L b.li<=1000/\L b.lj<=1000/\0<=b.ac/\b.ac<=(gd s.ay u).ac+1)->Qq (.t [.a (pm.c ⟨S,cells,d,ss.set u b⟩), .a ({e with value:=v}:aP).c,bv U])
def bfs(M:SM x v6 v7 v9 v14 v15 c ch S fl cc fu ta f u s e i)(C:SK ch cc fu v15 u s)(B:SB c s u)(hQ:aSl Qq S s e u){X:Int}:
  aSD (.p (14,v14) 0 0) [iv X] (.p (4,1) 0 0) (.p (5,1) 0 0) (.p (9,v9) 0 0) (.p (6,v6) 0 0) (.p (7,v7) 0 0) (λr=>Qq (B1 r)) (.p (3,1) 0 0) [] x:=by
 have W:∀{x:List AV} {y:AV},aN J (y::x)=V y:=λ{x y}=>by cases y<;>rfl
 have k4:∀{a b c d:AV},aN (V 4) [a,b,c,d]=V (.a [a,b,c,d]):=rfl
 have hw:dq.wrap ((gd s.ay u).ac+1)=(gd s.ay u).ac+1:=eM (by have:=B.ev;omega) (by have:=B.ev;omega)
 simp only[aSD,aI,u0,u1,M.b14,W,nM,ip,aj,hw,↓uL]
 refine A0 M.b14 rfl (by simp) λx1 F1 H=>?_
 simp only[List.set_cons_succ,RY] at H
 simp only[a36,au,u0,u1,H,aj,↓uL]
 refine A0 H rfl (by simp) λx2 F2 N=>?_
 simp only[RY] at N
 have F:Fx x x2 [(14,v14)]:=(F1.trans F2).mono λq j=> .inl (by simpa using j)
 have P:=M.P.fx F (by simp)
 have A:=F.kq M.b4
 obtain⟨v,o⟩:=M.keep9 F (by simp)
 obtain⟨cells,al,O⟩:=M.keepC F λq j g=>by have:=C.pc q j;simp at g;subst g;simp at this
 obtain⟨D,am,R⟩:=M.keepF F λq j g=>by have:=(C.pf q j).1;simp at g;subst g;simp at this
 obtain⟨ss,h1,T,h3⟩:=M.keepT F (by simp)
 have t:u<L ss:=by rw[h1];exact C.hu
 have w:=h3 u t
 simp only[a35,di]
 have h:∀{y:ae} {r:List AV} {m:pt},PB y v6 v7 c ch->box y (4,1)=V ⟨87,7,U,U,[eD S fl++[cc,fu,ta]]⟩->box y (9,v9)=V ⟨64,7,U,U,[({e with value:=v}:aP).c]⟩->box y (14,v14)=V ⟨196,4,U,U,[r]⟩->gm y 2 1 cc (cells.map ci)->gm y 2 1 fu (D.map ci)->O9 (12,31,33) I y ta f ss (L ss)->(r=m.c\/∃G ev,r=[iv G,(f u).1,(f u).2,iv ev]/\m=⟨G,(gd ss u).li,(gd ss u).lj,ev⟩)->((∀l∈m.lj,Tn l)/\L m.li<=1000/\L m.lj<=1000/\0<=m.ac/\m.ac<=(gd s.ay u).ac+1)->
   aRu (.p (4,1) 0 0) (.p (5,1) 0 0) (.p (14,v14) 0 0) (.p (9,v9) 0 0) (.p (6,v6) 0 0) (.p (7,v7) 0 0) (λr=>Qq (B1 r)) [] y:=λ{y r m} P A o z O R T hr ht=>
  bft P A o z O R T t C.hch hr C.pc (λq j=>(C.pf q j).1) (hQ cells D ss v m al am h1 h3 ht)
 have aE:=B.ev
 have Z:=h P A o N O R T (.inr ⟨X,_,rfl,rfl⟩) ⟨w.2.2.1,by rw[w.1];exact B.rl,by rw[w.2.1];exact B.tl,by simp only;omega,by simp only;omega⟩
 have hb:=B.hu
 have go:cB 170 [.a (gd c.ay u).c, .a [iv X,(f u).1,(f u).2,iv ((gd s.ay u).ac+1)]] x2 192 (aVn (.p (14,v14) 0 0) (.p (3,1) 0 0) (.p (3,1) 0 6) (.p (5,1) 0 0) (.p (5,1) 0 0) (sl A2.c c.ay) (iv u) (.q (gd c.ay u).c) x2 (aRu (.p (4,1) 0 0) (.p (5,1) 0 0) (.p (14,v14) 0 0) (.p (9,v9) 0 0) (.p (6,v6) 0 0) (.p (7,v7) 0 0) (λr=>Qq (B1 r)))):=by
  refine baY (s:=⟨X,(gd ss u).li,(gd ss u).lj,(gd s.ay u).ac+1⟩) P.hl (.of (T.g1 u t)) (.of (e:=38) (T.g2 u t)) (λq j=>by have:=T.p1 u t q j;simp at this;omega) B.rg B.il (by have:=B.rl;simp only;have:=w.1;omega) (by have:=B.tl;simp only;have:=w.2.1;omega) w.2.2.1 λok s' x3 E F3=>?_
  have af:=F3.kq N
  simp only[aVn,oJ,pG,aY]
  refine qr af rfl rfl λx4 F4 ag=>?_
  simp only[a34]
  refine dT (by simp[eL,lb,cD,dC,dK,pt.c,sl]) ?_
  have k:Fx x2 x4 [(14,v14)]:=(F3.trans F4).mono λq j=> .inl (by simpa using j)
  refine h (P.fx k (by simp)) (k.kq A) (k.kq o) ag (O.fx k λq j g=>?_) (R.fx k λq j g=>?_) (T.fx k (by simp)) (.inl rfl) ⟨E.1,E.2.1,E.2.2.1,?_,?_⟩
  ·have:=C.pc q j;simp at g;subst g;simp at this
  ·have:=(C.pf q j).1;simp at g;subst g;simp at this
  ·rcases E.2.2.2 with e|e<;>(try simp only at e)<;>omega
  ·rcases E.2.2.2 with e|e<;>(try simp only at e)<;>omega
 have ke:({e with value:=v}:aP).c=[iv e.aq,iv e.kind,iv e.bb,iv v,iv e.site,sl ci e.dI,sl ci e.ep]:=rfl
 have kc:aN (V 2) (gd c.ay u).c=V (.a (gd c.ay u).c):=rfl
 rcases q1:Q (e.kind≠16) with _|_
 ·simp only[aSF,u0,u1,o,ke,W,nM,ip,aj,q1,↓jN,Aa,↓iB,↓uL]
  exact Z
 ·rcases q2:Q (e.kind≠2) with _|_
  ·simp only[aSF,u0,u1,o,ke,W,nM,ip,aj,q1,q2,↓jA,↓iB,↓uL]
   exact Z
  ·simp only[aSF,u0,u1,o,ke,P.b1,P.b3,N,xd.c,C.hch,rk,gw,W,k4,kc,aj,y9,bh,q1,q2,↓jA,↓iC,↓uL]
   exact⟨dJ hb,go⟩
end
section
variable{x:ae}{v6 v7 v9 v14 v15:Nat}{c:qt}{ch:xd}{S:aW}{fl:Bool×Bool×Bool×Bool×Bool×Bool}{cc fu ta:AV}{f:Nat->AV×AV}{u:Nat}{s:pm}{e:aP}{i:lF}{Qq:d7}
abbrev J30(v6 v7 v9 v14:Nat)(b:Int)(Qq:d7):aG:=aSD (.p (14,v14) 0 0) [iv b] (.p (4,1) 0 0) (.p (5,1) 0 0) (.p (9,v9) 0 0) (.p (6,v6) 0 0) (.p (7,v7) 0 0) (λr=>Qq (B1 r)) (.p (3,1) 0 0)
abbrev J15(v6 v7 v9 v14 v15:Nat)(Qq:d7):aG:=aVo (.p (14,v14) 0 0) (.p (4,1) 0 0) (.p (5,1) 0 0) (.p (9,v9) 0 0) (.p (6,v6) 0 0) (.p (7,v7) 0 0) (λr=>Qq (B1 r)) (.p (3,1) 0 0) (.p (15,v15) 0 0)
def aOf{v:Int}:({e with value:=v}:aP).c=[iv e.aq,iv e.kind,iv e.bb,iv v,iv e.site,sl ci e.dI,sl ci e.ep]:=rfl
def bfr(M:SM x v6 v7 v9 v14 v15 c ch S fl cc fu ta f u s e i)(C:SK ch cc fu v15 u s)(B:SB c s u)(A:aSl Qq S s e u)(w:e.kind=3\/e.kind=23->aF (L (gd s.ay u).li) i.a/\aF (L (gd s.ay u).lj) i.a){g:Int}:J15 v6 v7 v9 v14 v15 Qq [iv g] x:=by have d:∀{x:List AV} {y:AV},aN J (y::x)=V y:=λ{x y}=>(by cases y<;>rfl);obtain⟨v,b⟩:=M.b9;have j:∀{y:ae},SM y v6 v7 v9 v14 v15 c ch S fl cc fu ta f u s e i->J30 v6 v7 v9 v14 g Qq [] y:=λ{y} M=>bfs M C B A;simp only[J15,aVo,aI,di];have up:(e.kind=3\/e.kind=23)->rV (cz 1 x (f u).1 (iv i.a)) (λo=>sV (aK 1 x o (iv v)) (aSB (.p (14,v14) 0 0) (.p (15,v15) 0 0) (J30 v6 v7 v9 v14 g Qq))):=λE=>(by obtain⟨r,t⟩:=w E;refine bfi M C r (K2:=λ_=>aSB (.p (14,v14) 0 0) (.p (15,v15) 0 0) (J30 v6 v7 v9 v14 g Qq)) λ_ y k=>?_;have D:aX bH 1 y [(0,iv (gd s.ay u).ac)]=V (.l ([(gd s.ay u).ac].map ci) U U,y):=iz;simp only[aSB,u0,u1,k.b14,k.b15,gw,d,aj,D,a37,↓uL];exact bfj k C (Tn.one ⟨B.ev.1,by have:=B.ev.2;omega⟩) t λz q=>j q);rcases h:Q (e.kind=3) with _|_;rcases m:Q (e.kind=23) with _|_;simp only[aSE,u0,u1,b,aOf,d,nM,ip,aj,h,m,↓jA,↓iB,↓uL];exact j M;simp only[aSE,u0,u1,b,aOf,M.b14,M.b15,gw,d,aj,h,m,↓jA,↓iC,wY,↓uL];exact up (.inr (nt m));simp only[aSE,u0,u1,b,aOf,M.b14,M.b15,gw,d,aj,h,↓jN,ya,↓iC,↓uL];exact up (.inl (nt h))
def bfu(M:SM x v6 v7 v9 v14 v15 c ch S fl cc fu ta f u s e i)(C:SK ch cc fu v15 u s)(B:SB c s u)(hQ:aSl Qq S s e u)(hA:e.kind=3\/e.kind=23->aF (L (gd s.ay u).li) i.a/\aF (L (gd s.ay u).lj) i.a)(X:e.kind=4\/e.kind=22->aF (L (gd s.ay u).li) i.b)(hC:e.kind=5->aF (L (gd s.ay u).li) i.a)(hO:e.kind=3\/e.kind=4->aF (L s.cells) e.bb)(Z:e.kind=22\/e.kind=23->aF (L s.bU) e.bb){A:Int}:aQL x (.p (9,v9) 0 0) (.p (14,v14) 0 0) (.p (4,1) 0 0) (iv A) (.p (15,v15) 0 0) (J15 v6 v7 v9 v14 v15 Qq):=by have k:∀{x:List AV} {y:AV},aN J (y::x)=V y:=λ{x y}=>(by cases y<;>rfl);obtain⟨v,g⟩:=M.b9;have j:∀{y:ae} {A:Int},SM y v6 v7 v9 v14 v15 c ch S fl cc fu ta f u s e i->J15 v6 v7 v9 v14 v15 Qq [iv A] y:=λ{y A} M=>bfr M C B hQ hA;have G:=M.b4;have R:eD S fl++[cc,fu,ta]=[.l (S.ak.map cg.c) fl.1 fl.2.1,iv S.tx, .l (S.done.map cb) fl.2.2.1 fl.2.2.2.1, .l (S.ay.map bF.c) fl.2.2.2.2.1 fl.2.2.2.2.2,cc,fu,ta]:=rfl;rw[R] at G;have m:=M.b14;have o:=M.b15;have t:∀{w:Int} {K:ae->Prop},(∀y,SM y v6 v7 v9 v14 v15 c ch S fl cc fu ta f u s e i->K y)->sV (aK 1 x (.p (9,v9) 0 3) (iv w)) K:=λh=>aX3 M C h;have E:aSC x (.p (14,v14) 0 0) (J15 v6 v7 v9 v14 v15 Qq) (iv e.kind) (.p (4,1) 0 0) (.p (9,v9) 0 0) (iv A) (.p (15,v15) 0 0) [bv U]:=(by simp only[aSC,au,aI,↓uL];simp only[u0,u1,m,gw,k,aj,↓iC,↓uL];exact j M);rcases P:Q (e.kind=1) with _|_;rotate_left;simp only[aQL,aRv,u0,u1,g,aOf,gw,k,aj,↓iC,P,↓uL];exact E;rcases T:Q (e.kind=16) with _|_;rotate_left;simp only[aQL,aRv,u0,u1,g,aOf,gw,k,aj,↓iC,↓iB,P,T,↓uL];exact E;rcases q3:Q (e.kind=2) with _|_;rotate_left;simp only[aQL,aRv,u0,u1,g,aOf,gw,k,aj,↓iB,P,T,q3,↓uL];exact E;simp only[aQL,aRv,u0,u1,g,aOf,gw,k,aj,↓iB,P,T,q3,↓uL];simp only[aSC,au,aI,↓uL];rcases D:Q (e.kind=3) with _|_;rotate_left;simp only[u0,u1,g,aOf,G,gw,k,aj,↓iC,↓iB,D,↓uL];exact bfe M (hO (.inl (nt D))) λw=>t λy d=>j d;rcases H:Q (e.kind=23) with _|_;rotate_left;simp only[u0,u1,g,aOf,G,gw,k,aj,↓iC,↓iB,D,H,↓uL];exact bff M (Z (.inr (nt H))) λw=>t λy d=>j d;rcases N:Q (e.kind=4) with _|_;rotate_left;simp only[u0,u1,g,aOf,m,o,gw,k,aj,↓iC,↓iB,D,H,N,↓uL];refine aX2 M C (X (.inl (nt N))) λw=>t λy d=>?_;obtain⟨v1,r⟩:=d.b9;have q:=d.b4;rw[R] at q;simp only[a3R,u0,u1,r,aOf,q,k,nM,ip,aj,↓uL];exact bfg d C (hO (.inr (nt N))) (K2:=λ_=>J15 v6 v7 v9 v14 v15 Qq [iv A]) λ_ y F=>j F;rcases O:Q (e.kind=22) with _|_;rotate_left;simp only[u0,u1,g,aOf,m,o,gw,k,aj,↓iC,↓iB,D,H,N,O,↓uL];refine aX2 M C (X (.inr (nt O))) λw=>t λy d=>?_;obtain⟨v1,r⟩:=d.b9;have q:=d.b4;rw[R] at q;simp only[a3S,u0,u1,r,aOf,q,k,nM,ip,aj,↓uL];exact bfh d C (Z (.inl (nt O))) (K2:=λ_=>J15 v6 v7 v9 v14 v15 Qq [iv A]) λ_ y F=>j F;rcases W:Q (e.kind=5) with _|_;simp only[u0,u1,↓iB,D,H,N,O,W,↓uL];exact j M;simp only[u0,u1,g,aOf,aj,↓iC,↓iB,D,H,N,O,W,↓uL];refine t λy d=>?_;obtain⟨v1,r⟩:=d.b9;simp only[a3U,u0,u1,d.b14,d.b15,gw,k,aj,↓uL];refine aX2 d C (hC (nt W)) λw=>?_;simp only[u0,u1,r,↓uL];refine⟨λ_=>aX3 d C λz F=>?_,λ_=>j d⟩;simp only[a3T,u0,u1,F.b15,gw,aj,↓uL];exact j F
end
def aQG.b{s s':pt}(h:aQG s s'){k:Nat}(d:0<=s.ac/\s.ac<=k):ThB k s':=⟨h.2.1,h.2.2.1,h.1,by rcases h.2.2.2 with e|e<;>omega,by rcases h.2.2.2 with e|e<;>omega⟩
def aXt(c:qt)(s:pm)(ch:xd)(hp:aPU c/\aOc c/\∃k,k<=900/\StB k s):Ct 117 [.a c.c, .a s.c, .a ch.c] (λr=>∃(s':pm) (e:aP) (Z:Bool),r= .t [.a s'.c, .a e.c,bv Z]/\(Z=U->EvL e/\∀k,k<=900->StB k s->StB (k+1) s')):=by
 obtain⟨hc,hb,K,hK,w⟩:=hp
 have cZ:=aP4 hc.1
 generalize hQ:(λ(r:AV)=>∃(s':pm) (e:aP) (Z:Bool),r= .t [.a s'.c, .a e.c,bv Z]/\(Z=U->EvL e/\∀k,k<=900->StB k s->StB (k+1) s'))=Qq
 refine aDq (bhk rfl rfl rfl λs6 g b1 b2 b3 h0=>?_)
 simp only[aVk]
 refine so g λv6 s7 F7 N7 b6=>?_
 refine so (F7.len.trans g) λv7 s8 F8 N8 b7=>?_
 have aa:Fx s6 s8 []:=F7.trans F8
 have P:PB s8 v6 v7 c ch:=⟨aa.len.trans g,aa.kq b1,aa.kq b3,F8.kq b6,b7⟩
 have c2:=aa.kq b2
 have k1:∀{x:List AV} {y:AV},aN J (y::x)=V y:=λ{x y}=>by cases y<;>rfl
 have hz:bM NY anY []=V (.a NY):=rfl
 have a8:bM y8 aOs []=V (.a y8):=rfl
 have ap:∀{x:ae},PB x v6 v7 c ch->sV (aK 7 x (.p (6,v6) 0 0) (.a NY)) λy=>sV (aK 7 y (.p (7,v7) 0 0) (.a y8)) λz=>rV (kb (V 7) z (.p (6,v6) 0 0)) λa=>rV (kb (V 7) z (.p (7,v7) 0 0)) λb=>aE (λr=>Qq (B1 r)) z [a,b,bv I]:=λ{x} P=>by
  refine qr P.b6 rfl rfl λy F b=>?_
  refine qr (F.kq P.b7) rfl rfl λz F2 b2=>?_
  rw[aEa (F2.kq b) rfl]
  simp only[aY]
  rw[aEa b2 rfl]
  refine aOH (vs':=[.a (pm.c ⟨⟨[],0,[],[]⟩,[],[],[]⟩), .a (aP.c ⟨0,0,0,0,0,[],[]⟩),bv I]) rfl rfl ?_
  rw[<-hQ];exact⟨_,_,_,rfl,by simp⟩
 simp only[a31,u0,u1,P.b1,P.b3,c2,xd.c,gw,k1,aj,ar,Fa,aWn,↓uL]
 refine⟨⟨hc,hb,K,w⟩,?_⟩
 rintro r ⟨e,Z,rfl,b0,b8⟩
 refine⟨by simp[lo,nA,eB,iR,qt.c,br.c,pm.c,aW.c,sl],?_⟩
 simp only[oJ,pG,aY]
 refine anu P.hl λv9 s9 F9 N9 b9=>?_
 have R:=P.fx F9 (by simp)
 have a0:=F9.kq c2
 cases Z with
 |false=>
  simp only[aVm,u0,u1,↓iC,hz,a8,↓uL]
  exact ap R
 |true=>
 obtain⟨b4,a6,ag⟩:=b8 rfl
 have m:=w.sy
 simp only[aVm,u0,u1,R.b1,R.b3,a0,b9,xd.c,rk,gw,k1,aj,ar,aWn,↓iB,↓uL]
 refine⟨⟨by omega,λl g=>by have:=m.rd l g;omega,by have:=m.lo;omega,by have:=m.dn;omega,by have:=m.th;omega⟩,?_⟩
 rintro r ⟨fl,rfl⟩
 rcases a4:jm c.aQ s.bm ch.aq e.kind e.bb with _|_
 ·refine⟨by simp[lo,nA,eB,iR,br.c,aW.c,sl],?_⟩
  simp only[aOl,oJ,pG,KM,aY]
  refine anu R.hl λcn cf G bD aU=>?_
  simp only[aVl,u0,u1,↓iC,hz,a8,↓uL]
  exact ap (R.fx G (by simp))
 refine⟨by simp[lo,nA,eB,iR,br.c,aW.c,sl],?_⟩
 simp only[asq,oJ,pG,KM,aY]
 obtain⟨cr,f1,f2,f3,f4,f5⟩:=b4
 simp only[jm,bN] at a4
 obtain⟨_,c1,a7,_⟩:=a4
 obtain⟨u,hu⟩:∃u:Nat,ch.aq=u:=⟨ch.aq.toNat,by have:=a6.1;omega⟩
 have N:u<L c.ay:=by have:=a6.2;omega
 have O:u<L s.ay:=by omega
 obtain⟨p1,p2,p3⟩:=f5 u N
 obtain⟨r1,r2,r3⟩:=hc.2.2 _ (dB N)
 have ad:=w.th _ (dB O)
 generalize hi:aQs c s ch.aq=i at ag
 have a5:gd (gd c.ay u).No (gd s.ay u).pc.toNat=i:=by rw[<-hi];simp[aQs,hu]
 have ca:(gd s.ay u).pc.toNat<L (gd c.ay u).No:=by have:=p1.1;have:=p1.2;omega
 have W:∀j∈A1 i,aF (L (gd s.ay u).li) j/\aF (L (gd s.ay u).lj) j:=λj hj=>by
  have:=r3 _ ca j (by rw[a5];exact hj)
  exact⟨⟨this.1,by omega⟩,⟨this.1,by omega⟩⟩
 generalize hS:(cU c.aQ s.bm ch.aq e.kind e.bb ch.lD).1=S
 generalize(cU c.aQ s.bm ch.aq e.kind e.bb ch.lD).2=av
 have B:SB c s u:=⟨N,by omega,hb.2 _ (dB N),⟨ad.2.2.2.1,by have:=ad.2.2.2.2;omega⟩,ad.1,ad.2.1⟩
 have bu:aSl Qq S s e u:=λcells cF ss v t' q1 q2 q3 q4 q5=>by
  rw[<-hQ]
  refine⟨_,_,_,rfl,λ_=>⟨b0,λk hk E=>?_⟩⟩
  have bw:=E.th _ (dB O)
  refine⟨by rw[<-hS];exact E.sy.apply _ _ _ _ _,by simp only;rw[q1];exact E.ce,by simp only;rw[q2];exact E.fu,by simp only[zq];rw[q3];exact E.tl,λt X=>?_⟩
  rcases CC X with X|rfl
  ·obtain⟨j,hj,rfl⟩:=ou X
   obtain⟨w1,w2,w3,w4,w5⟩:=q4 j hj
   have af:=E.th _ (dB (l:=s.ay) (k:=j) (by omega))
   rw[bT hj] at w1 w2 w3 w4 w5
   exact⟨by rw[w1];exact af.1,by rw[w2];exact af.2.1,w3,by rw[w5];exact af.2.2.2.1,by rw[w5];have:=af.2.2.2.2;omega⟩
  ·exact⟨q5.2.1,q5.2.2.1,q5.1,q5.2.2.2.1,by have:=bw.2.2.2.2;have:=q5.2.2.2.2;omega⟩
 refine anu R.hl λcn cf G bD aU=>?_
 have aR:=R.fx G (by simp)
 have ao:=G.kq a0
 have bg:=G.kq b9
 have cd:aN (V 7) s.c=V (.a s.c):=rfl
 simp only[aVl,u0,u1,ao,cd,ip,↓iB,↓uL]
 refine jH rfl (bds aR.hl ⟨by have:=m.lo;omega,by have:=m.dn;omega,by have:=m.th;omega,λl g=>by have:=m.rd l g;omega⟩ (by have:=w.ce;omega) (by have:=w.fu;omega) (by have:=w.tl;omega) λt X=>⟨(w.th t X).1,(w.th t X).2.1,λz hz=>((w.th t X).2.2.1 z hz).len⟩) ?_
 rintro r c4 ⟨a1,a2,a3,cc,fu,ta,f,rfl,_,gc,gf,T,iq,ax,az,na⟩
 refine⟨iq.len,?_⟩
 have bG:=aR.kx iq (by simp)
 have bn:=iq.kq ao
 have bi:=iq.kq bg
 have aC:=iq.kq aU
 simp only[a30]
 refine qr bn rfl rfl λc5 A aV=>?_
 have bj:=A.kq bi
 have aD:=A.kq aC
 have bH:=bG.fx A (by simp)
 have n4:∀{q:Id},q.1≠4->q∉[((4,1):Id)]:=λh e=>by simp at e;subst e;exact h rfl
 have bo:=gc.fx A λq d=>n4 (by rw[(ax q d).1];decide)
 have bs:=gf.fx A λq d=>n4 (by rw[(az q d).1];decide)
 have bK:=T.fx A (by simp)
 have es:aN (V 4) (eD S fl)=V (.a (eD S fl)):=rfl
 simp only[a3Z,u0,u1,aD,aV,es,ip,aj,↓uL]
 refine cy (y:=4) (cs:=eD S fl) aV rfl rfl (by simp) λck H bO=>?_
 have al:box ck (4,1)=V ⟨87,7,U,U,[eD S fl++[cc,fu,ta]]⟩:=bO
 have bk:=H.kq bj
 have ah:=bH.fx H (by simp)
 have bp:=bo.fx H λq d=>n4 (by rw[(ax q d).1];decide)
 have bt:=bs.fx H λq d=>n4 (by rw[(az q d).1];decide)
 have aT:=bK.fx H (by simp)
 have e4:eD S fl++[cc,fu,ta]=[.l (S.ak.map cg.c) fl.1 fl.2.1,iv S.tx, .l (S.done.map cb) fl.2.2.1 fl.2.2.2.1, .l (S.ay.map bF.c) fl.2.2.2.2.1 fl.2.2.2.2.2,cc,fu,ta]:=rfl
 have aZ:=al
 rw[e4] at aZ
 simp only[a3Y,u0,u1,aZ,ah.b3,xd.c,hu,k1,nM,ip,aj,↓uL]
 refine aT.ix O λb c0 hb=>?_
 simp only[be4 hb O,aY]
 refine anu ah.hl λv14 cl D cY aX=>?_
 have ab:=ah.fx D (by simp)
 have bf:=D.kq al
 have bl:=D.kq bk
 have bq:=bp.fx D (by simp)
 have au:=bt.fx D (by simp)
 have bL:=aT.fx D (by simp)
 have ri:aN (V 6) i.c=V (.a i.c):=rfl
 have c3:∀{j:Nat},(j:Int).toNat=j:=λ{j}=>bh j
 simp only[a3X,u0,u1,ab.b1,ab.b3,aX,xd.c,hu,rk,gw,k1,aj,y9,bh,a5,ri,↓uL]
 refine⟨dJ N,p1,so ab.hl λv15 cV ba aO bd=>?_⟩
 refine qr bd rfl rfl λa9 bc bQ=>?_
 have o:Fx cl a9 []:=(ba.trans bc).mono λq d=>by simp at d;subst d;exact .inr aO.no
 have bI:=ab.fx o (by simp)
 simp only[a3W,↓uL]
 refine dT (by simp[eL,lb,cD,dC,dK,sl,A2.c]) ?_
 have an:=o.kq bl
 have ac:=o.kq aX
 have ec:e.c=[iv e.aq,iv e.kind,iv e.bb,iv e.value,iv e.site,sl ci e.dI,sl ci e.ep]:=rfl
 have M:SM a9 v6 v7 v9 v14 v15 c ch S fl cc fu ta f u s e i:=⟨bI,o.kq bf,⟨e.value,an⟩,ac,bQ,⟨s.cells,rfl,bq.fx o (by simp)⟩,⟨s.bU,rfl,au.fx o (by simp)⟩,⟨s.ay,rfl,bL.fx o (by simp),λk hk=>⟨rfl,rfl,(w.th _ (dB hk)).2.2.1,rfl,rfl⟩⟩⟩
 have C:SK ch cc fu v15 u s:=⟨λq d=>(ax q d).1,λq d=>⟨(az q d).1,λeq=>?_⟩,O,hu⟩
 ·simp only[u0,u1,ac,an,k1,ip,aj,↓uL]
  refine aX3 M C λy M1=>?_
  simp only[a3V,di]
  refine bfu M1 C B bu (λh=>W _ (ag.1 h)) (λh=>(W _ (ag.2.1 h)).1) (λh=>(W _ (ag.2.2 h)).1) (λh=>?_) (λh=>?_)
  ·rw[f2];exact qP a7 (by omega) (by omega)
  ·rw[f3];exact oU a7 (by omega) (by omega)
 ·obtain⟨x,hx⟩:=aTi au q d
  subst eq
  exact aO.no x hx
def aUk:FT:=vn aXt
def bcb{c s ch Lw K}:=zZ aUk aXt c s ch Lw K (j:=by simp+contextual only[ij,Nb])
def a7H:dO:=(117,aUk)::aYe
def a7q:eJ a7H:=it (By aXt) (a7p)
def a6s:=ai @bcb<|@aWn
section
attribute[local irreducible] aX
def a9N:=bi 11 [(3,([2,10],[3,4,5,9])),(6,([2],[3,4,5,9,10]))]
def aVq d(f:aG)(e:bu) g a b:=∀_:Rg,aV (gt d 1) (iv 1) λc=>f [(gt a 0),c] b/\e [(gt a 0),c] b<e d g
def a4b b i(c:aG) a:=aw 7 a b λf=>eV (aX aTN 1 a [(0,f)]) λg d=>eV (j5 64 y8 88 d 41 (gt i 0) g) λh e=>c [h] e
def a4c i h r e l j k m d a n b o p(g:aG) c:=dH [(bo i),(bo h),km,km,(lb U [r,(gt e 1)] []),(bo l),(Qh [(.f 117 [] []),j,k,m]),km,(bo d),(bo d),(bo d),(lb I [] [11]),(lb I [] [12]),(lb I [a,n] []),(lb I [b,o] []),km] [(0,11),(1,11),(2,11),(3,11),(4,11),(5,11),(6,11),(7,11),(8,11),(9,11),(10,11),(0,12),(1,12),(2,12),(3,12),(4,12),(5,12),(6,12),(7,12),(8,12),(9,12),(10,12),(11,12),(9,13),(10,13),(10,14)] (ah p (aw 7 c a λq=>sV (aK 7 c h q) (a4b b e g)) (g [(gt e 0)] c))
def a4d b c e g p o j h i k l a m n d f:=sV (aK 7 f b c) (a4c e g p o j h i k l a m b c n d)
def a4e a b m e g p o j h i k l n d c f:=sV (aK 7 f a b) (a4d c m e g p o j h i k l a b n d)
def a4f k l c e o n h f g i j m b a d:=eV (bs 64 y8 d 12) (a4e a k l c e o n h f g i j m b)
def a4g b c d k i j:=aw 7 b c λe=>aw 7 b d λf=>ao 2 b k (gt i 1) λg=>aw 2 b g λh=>fV aUk b [e,f,h] λa=>rV (eO 0 a) λl=>rV (eO 1 a) λm=>rV (eO 2 a) λn=>eV (bs 87 NY b 11) (a4f l m c d k i g e f h a n j)
def aVr f g e n R o p a c:=∀_:Rg,aJ c f λq=>aU (gt a 1) q λb=>fm b (gt a 0) λh=>az b (aJ c h) λi=>az b (aU i (iv 400)) λj=>aD b j (bv I) λk=>ah k (jV 6 (aVq a o p c) (a4g c g e f a)) (aw 7 c e λl=>sV (aK 7 c n l) λd=>aw 7 d n λm=>fe R d [(gt a 0),m])
def aVp a b c d e R:=eV (bs 87 NY e 9) λg f=>lV [c,(iv 0)] f (aVr d a b g R)
def bf3{a b c d:AV}{s0:ae}{R:be}(h:eV (qm 92 7 s0 4 a) λe g=>eV (qm 87 7 g 5 b) λf i=>aVp e f c d i R):EB 71 [a,b,c,d] s0 R:=zB a9N a7q Tryz.func71 h
def bhm{e:List AV}{f:List AV}{j:AV}{l:AV}{s0:ae}{R:be}(m:L s0=4096)(l0:L e=7)(l1:L f=7)(h:∀(b:ae) (c d:Nat),Kp s0 b->(∀k,k≠4->k≠5->aZ b k=aZ s0 k)->(∀x,box s0 (4,c)≠V x)->(∀x,box s0 (5,d)≠V x)->box b (4,c)=V ⟨92,7,U,U,[e]⟩->box b (5,d)=V ⟨87,7,U,U,[f]⟩->aVp (.p (4,c) 0 0) (.p (5,d) 0 0) j l b R):EB 71 [.a e, .a f,j,l] s0 R:=by refine bf3 ?_;refine iN rfl l0 (by decide) (by decide) m λv c i g0 t o=>?_;refine iN rfl l1 (by decide) (by decide) (i.len.trans m) λb d n g1 u q=>?_;exact h b c d (Kp.trans i n) (λk r s=>(g1 k s).trans (g0 k r)) (λx g=>t x ((Kp.refl _).keep _ _ g)) (λx g=>u x (i.keep _ _ g)) (n.keep _ _ o) q
end
def bcu{Y:ae}{a:AV}{cs c:List AV}{aa:List (List AV)}{e:TypeId}{z:Nat}(g:gm Y e z a aa)(h:cs.map (lz Y)=c):aOo Y (.t [a, .a cs])= .t [.l aa I I, .a c]:=by have d:nrm (eR Y a)= .l aa I I:=(by rw[<-aOb g];rcases g with⟨_,rfl⟩|⟨b,m,rfl,i⟩;rfl;simp[eR,gi,i,nrm,lz]);have f:nrm (eR Y (.a cs))= .a (cs.map (lz Y)):=(by simp only[eR,nrm,vA];rfl);simp only[aOo,ji,mU,d,f,h]
def bdt{Y:ae}{c:qt}{s:pm}{f:List xd}(hl:L Y=4096)(hc:aPU c)(hb:aOc c)(hs:StB 0 s)(hn:L f<=100):
  ∃r Y1,((∃(l:List aP) (s':pm),r= .t [sl aP.c l, .a s'.c]/\L l<=100/\∀e∈l,EvL e)/\Fx Y Y1 [])/\cZ aS GG 71 [.a c.c, .a s.c, .l [] U U,sl xd.c f] Y r Y1:=by
 generalize hQ:(λ(r:AV) (y:ae)=>(∃(l:List aP) (s':pm),aOo y r= .t [sl aP.c l, .a s'.c]/\L l<=100/\∀e∈l,EvL e)/\Fx Y (kills y (aNW r)) [])=Qq
 refine aQR (R:=Qq) ?_ (λr y h=>by rw[<-hQ] at h;exact h)
 refine bhm hl rfl rfl λs4 v4 v5 K4 bz bA aQ b4 b5=>?_
 have F4:Fx Y s4 []:=K4.fx []
 simp only[aVp]
 refine so (F4.len.trans hl) λS s6 n N6 b9=>?_
 have am:Fx Y s6 []:=F4.trans n
 have n9:∀y,box Y (9,S)≠V y:=(N6.old F4).no
 have rc:aN (V 7) c.c=V (.a c.c):=rfl
 have O:∀{s:pm},aN (V 7) s.c=V (.a s.c):=rfl
 have re:∀{s:aP},aN (V 7) s.c=V (.a s.c):=rfl
 have aR:∀{s:xd},aN (V 2) s.c=V (.a s.c):=rfl
 have aG:∀{x:ae} {j:Int} {K:d7},rV (cz 2 x (sl xd.c f) (iv j)) K=(aF (L f) j/\K (.q (xd.c (gd f j.toNat)))):=aBz λ_=>rfl
 refine jD (α:=AV) (λa i=>[a,iv i]) 1 (L f) (λk a x=>Fx Y x []/\box x (4,v4)=V ⟨92,7,U,U,[c.c]⟩/\(∃s',box x (5,v5)=V ⟨87,7,U,U,[s'.c]⟩/\StB k s')/\box x (9,S)=V ⟨87,7,U,U,[NY]⟩/\∃l:List aP,L l<=k/\(∀e∈l,EvL e)/\gm x 64 7 a (l.map aP.c)/\∀q∈aA a,q.1=41/\∀y,box Y q≠V y) (s0:= .l [] U U) ⟨am,n.kq b4,⟨s,n.kq b5,hs⟩,b9,[],by simp,by simp, .inl ⟨rfl,rfl⟩,by simp[aA]⟩ ?_
 rintro k a x hk ⟨F,E,⟨s',H,D⟩,M,l,bx,B,g,w⟩
 have C:=F.len.trans hl
 have aK:fS x a=V (iv (L l)):=by rw[g.ln,bJ]
 rcases q1:Q ((k:Int)<(L f:Int)) with _|_
 ·simp only[aVr,aI,au,u0,u1,H,O,q1,↓jN,Aa,↓iB,ip,↓uL]
  refine qr M rfl rfl λs7 F7 b7=>?_
  simp only[b7,qd,qh,df,O,aY]
  have g7:=g.fx F7 λq d h=>by have:=(w q d).1;simp at h;subst h;simp at this
  show Qq (.t [a, .a s'.c]) s7
  rw[<-hQ]
  refine⟨⟨l,s',bcu g7 rfl,by omega,B⟩,((F.trans F7).trans (aOp _ _)).mono λq d=> .inr ?_⟩
  have ei:aNW (.t [a, .a s'.c])=aA a:=by
   have:=aQX g7
   rcases g7 with⟨_,rfl⟩|⟨b,m,rfl,_⟩<;>simp[aNW,eB,iR,pm.c,aW.c,sl,aA]
  rw[ei] at d
  simp only[dW,dF,cE] at d
  rcases d with rfl|d
  ·exact n9
  ·exact(w q d).2
 ·have q2:Q (((L l:Nat):Int)<400)=U:=aPI (by omega)
  simp only[aVr,aI,au,u0,u1,aK,q1,q2,↓jA,ya,↓iC,ip,↓uL]
  have W:k<L f:=RF.1 (nt q1)
  simp only[a4g,u0,u1,E,H,O,rc,aG,aR,bh,ar,Fa,a6s,rr,ip,↓uL]
  refine⟨dJ W,⟨hc,hb,k,by omega,D⟩,?_⟩
  rintro r ⟨s2,e,ok,rfl,aL⟩
  refine⟨by simp[lo,nA,eB,iR,qt.c,br.c,pm.c,aW.c,xd.c,sl],?_⟩
  simp only[oJ,pG,KM,aY]
  refine so C λbB x1 Z N1 b1=>?_
  simp only[a4f]
  refine so (Z.len.trans C) λbC x2 F2 N2 b2=>?_
  have av:=F2.kq b1
  simp only[a4e]
  refine qr av rfl rfl λx3 F3 b3=>?_
  have aw:=F3.kq b2
  simp only[a4d]
  refine qr aw rfl rfl λx4 T ay=>?_
  have ax:=T.kq b3
  have G:Fx x x4 []:=(((Z.trans F2).trans F3).trans T).mono λq d=>by
   simp at d
   rcases d with rfl|rfl
   ·exact .inr N1.no
   ·exact .inr (N2.old Z).no
  simp only[a4c,↓uL]
  refine dT (by simp[ck,eL,lb,Qh,cD,dC,dK,sl,xd.c,pm.c,aW.c,aP.c,qt.c,br.c]) ?_
  have X:=G.kq H
  have g4:=g.fx G (by simp)
  have aJ:=G.len.trans C
  have j6:∀{v:AV} {y:ae} {P:pm} {l':List aP},Fx Y y []->box y (4,v4)=V ⟨92,7,U,U,[c.c]⟩->box y (5,v5)=V ⟨87,7,U,U,[P.c]⟩->StB (k+1) P->box y (9,S)=V ⟨87,7,U,U,[NY]⟩->L l'<=k+1->(∀e∈l',EvL e)->gm y 64 7 v (l'.map aP.c)->(∀q∈aA v,q.1=41/\∀z,box Y q≠V z)->aVq [a,iv k]
   (yI (λa i=>[a,iv i]) (L f) (λk a x=>Fx Y x []/\box x (4,v4)=V ⟨92,7,U,U,[c.c]⟩/\(∃s',box x (5,v5)=V ⟨87,7,U,U,[s'.c]⟩/\StB k s')/\box x (9,S)=V ⟨87,7,U,U,[NY]⟩/\∃l:List aP,L l<=k/\(∀e∈l,EvL e)/\gm x 64 7 a (l.map aP.c)/\∀q∈aA a,q.1=41/\∀y,box Y q≠V y)) (gM 1 (L f)) x [v] y:=λ{v y P l'} F E H hs M h1 h2 g p=>by
   simp only[aVq,aI,au,u0,u1,↓uL]
   exact dR (mk:=λ(a:AV) i=>[a,iv i]) (s:=a) (s':=v) (λ_ _=>rfl) W (by omega) ⟨F,E,⟨P,H,hs⟩,M,l',h1,h2,g,p⟩
  have aT:StB k s'->StB (k+1) s':=λh=>⟨h.sy.mono (by omega),h.ce,h.fu,h.tl,λt ht=>by obtain⟨w1,w2,w3,w4,w5⟩:=h.th t ht;exact⟨w1,w2,w3,w4,by omega⟩⟩
  cases ok with
  |false=>
   simp only[↓iB]
   exact j6 (F.trans G) (G.kq E) X (aT D) (G.kq M) (by omega) B g4 w
  |true=>
   obtain⟨he,aM⟩:=aL rfl
   simp only[↓iC,u0,u1,ax,O,ip,↓uL]
   refine qr X rfl rfl λx5 u aB=>?_
   have az:=u.kq ay
   have g5:=g4.fx u λq d h=>by have:=(w q d).1;simp at h;subst h;simp at this
   have aE:aX aTN 1 x5 [(0, .a e.c)]=V (.l ([e].map aP.c) U U,x5):=ua rfl rfl rfl (by decide) (by simp[aP.c,eN,sl]) (by decide)
   have o:∀{l:List aP},∀r∈l.map aP.c,L r=7:=qW (by intro _;rfl)
   simp only[a4b,u0,u1,az,re,aE,ip,↓uL]
   refine apQ g5 (u.len.trans aJ) o o (by simp) (by simp;omega) λv x6 g6 n P6=>?_
   have N:∀{q:Id},q.1≠41->q∉aA a:=λ{q} h d=>h (w q d).1
   have A:Fx Y x5 []:=((F.trans G).trans u).mono λq d=>by simp at d;subst d;exact .inr aQ
   refine j6 (l':=l++[e]) ((A.trans n).mono λq d=> .inr (w q (by simpa using d)).2) (n.keep _ _ (N (by simp)) (u.kq (G.kq E))) (n.keep _ _ (N (by simp)) aB) (aM k (by omega) D) (n.keep _ _ (N (by simp)) (u.kq (G.kq M))) (by simp;omega) (λy hy=>?_) (by rw[dg];exact g6.p) λq d=>⟨(P6 q d).2,((P6 q d).1.old A).no⟩
   rcases dF.1 hy with h|h
   ·exact B y h
   ·simp at h;subst h;exact he
def aYf:dO:=a7H
def a7r:eJ aYf:=a7q
def a6t:=@a6s
section
attribute[local irreducible] aX
def a5H:=bi 6 []
def a3x t3 d R a:=aw 7 a t3 λb=>aw 7 a d λc=>aE R a [b,c]
def a3y c g h f b d t3 i e m j R a:=dH [(bo c),(bo g),km,(lb U [h,f] []),(bo b),(lbV d t3 i),(lbV e m j)] [(4,5)] (aw 7 a t3 λk=>aw 7 a m λl=>aE R a [k,l])
def a3z j b d g h f c e t3 i R a:=sV (aK 7 a j b) (a3y d g h f c e t3 i a j b R)
def a3A c k d j b l e t3 n R a:=dH [(bo c),(bo c),(Qh [(.f 72 [] []),k]),km,(lb I [] []),km,(bo d),(bo d),(lb I [] [7]),km,(lbV j b l)] [(0,8),(1,8),(2,8),(3,8),(4,8),(5,8),(6,8),(7,8)] (aB 0 a c λg=>aw 6 a g λh=>rV (bM aPb aP0 [(0,h),(1,e)]) λi=>aw 7 a b λm=>sV (aK 7 a t3 i) (a3z n m c g h e b a t3 i R))
def a3B e g t3 i R b f:=rV (eO 0 b) λh=>rV (eO 1 b) λd=>eV (bs 87 NY f 7) λa c=>sV (aK 7 c a d) (a3A e g b c a d h t3 i R)
def a3C b t3 R j d a:=aw 7 a b λk=>fV aRk a [k] λm=>cf m λn=>ah n (rV (bM aPb aP0 []) λf=>rV (bM NY anY []) λg=>sV (aK 7 a t3 f) λe=>sV (aK 7 e d g) (a3x t3 d R)) (aw 7 a b λh=>aw 7 a b λc=>fV aUj a [c] λi=>cV 71 [h,i,(.l [] U U),j] a 18 (a3B b c t3 d R))
def aVj a b c R:=eV (bs 56 aPb c 4) λt3 d=>eV (bs 87 NY d 5) (a3C a t3 R b)
def bhi{c:List AV}{d:AV}{R:d7}(l0:L c=7)(h:∀b:ae,L b=4096->box b (2,1)=V ⟨92,7,U,U,[c]⟩->(∀k,k≠2->aZ b k=mO)->aVj (.p (2,1) 0 0) d b R):Fn aS GG 30 [.a c,d] R:=by refine fnV (uq ready (aQ9 a7r) Tryz.func30 (an:=a5H) (by kernel_rfl) (aND (show ZF aS GGV aYf a5H Tryz.f30 [.a c,d] R=(eV (qm 92 7 (ly Tryz.f30) 2 (.a c)) λe b=>aVj e d b R) by kernel_rfl) ?_));refine mY (N:=4096) rfl l0 (by decide) (by decide) uB (by rw[i8]) λb i f j g0=>?_;exact h b i f (λk g=>by rw[g0 k g];exact i8 _ k)
end
def Kx.fx0{Y Y':ae}(k:Kx [] Y Y'){b:Id}{x:bY}(h:box Y b=V x):box Y' b=V x:=k.keep b x (by simp) h
def baV{Y:ae}{c:qt}{s:pm}{f:List xd}{d:Nat}{K:be}(u:L Y=4096)(q:aPU c)(o:aOc c)(z:StB 0 s)(w:L f<=100)(n:∀(l:List aP) (s':pm) g,L l<=100->(∀e∈l,EvL e)->Kx [] Y g->K (.t [sl aP.c l, .a s'.c]) g):cV 71 [.a c.c, .a s.c, .l [] U U,sl xd.c f] Y d K:=by refine aQN rfl rfl [] (λx j=>?_) (by intro p h;simp at h) (bdt (aOr.trans u) q o z w) ?_;simp only[eW,ql,y6] at j;rcases j with rfl|rfl|rfl|rfl;intro y b;simp only[qt.c,br.c,dF,eW,ql,y6,or_assoc] at b;rcases b with rfl|rfl|rfl|rfl|rfl|rfl|rfl<;>exact .inl (by simp[eN]);intro y b;simp only[pm.c,aW.c,dF,eW,ql,y6,or_assoc] at b;(rcases b with rfl|rfl|rfl|rfl|rfl|rfl|rfl<;>first|trivial|exact .inl (by simp[eN]));exact .inr rfl;exact .inl (by simp[eN]);rintro r g ⟨⟨l,s',rfl,k,m⟩,F⟩;refine⟨F.len.trans aOr,[],(by intro p h;simp at h),?_,n l s' _ k m Kx.mix⟩;intro v i;simp only[eW,ql,y6] at i;rcases i with rfl|rfl;exact .inl (by simp[eN]);intro y b;simp only[pm.c,aW.c,dF,eW,ql,y6,or_assoc] at b;rcases b with rfl|rfl|rfl|rfl|rfl|rfl|rfl<;>first|trivial|exact .inl (by simp[eN])
def aXr(c:qt)(g:List xd)(hp:aOc c/\L g<=100):Ct 30 [.a c.c,sl xd.c g] (λr=>∃(t:O3) (s:pm),r= .t [.a t.c, .a s.c]/\L t.ac<=100/\∀e∈t.ac,EvL e):=by obtain⟨o,hn⟩:=hp;generalize K:(λ(r:AV)=>∃(t:O3) (s:pm),r= .t [.a t.c, .a s.c]/\L t.ac<=100/\∀e∈t.ac,EvL e)=Qq;refine aDq (bhi rfl λs2 p X h0=>?_);simp only[aVj];refine so p λv4 s4 B N4 Z=>?_;refine so (B.len.trans p) λv5 v C N6 F=>?_;have f:=C.kq Z;have b:Fx s2 v []:=B.trans C;have H:=b.kq X;have i:=b.len.trans p;have hz:bM NY anY []=V (.a NY):=rfl;have N:bM aPb aP0 []=V (.a aPb):=rfl;have rc:aN (V 7) c.c=V (.a c.c):=rfl;simp only[a3C,u0,u1,H,rc,ip,a6t,ar,Fa,hz,N,↓uL];have k:∀{r:AV},lo v [.a c.c] r:=(by intro r;simp[lo,nA,eB,iR,qt.c,br.c,sl]);refine⟨o,?_⟩;rintro _ ⟨ok,rfl,j⟩;refine⟨k,?_⟩;simp only[aIN,aY];cases ok with|false=>simp only[kN,↓iC];refine qr f rfl rfl λs7 T n=>?_;refine qr (T.kq F) rfl rfl λs8 W b8=>?_;have G:=W.kq n;have rz:aN (V 7) NY=V (.a NY):=rfl;have R:aN (V 7) aPb=V (.a aPb):=rfl;simp only[a3x,u0,u1,b8,G,rz,R,ip,↓uL];refine aOH (vs':=[.a (O3.c ⟨⟨[],[],[],[],[],[]⟩,[]⟩), .a (pm.c ⟨⟨[],0,[],[]⟩,[],[],[]⟩)]) rfl rfl ?_;rw[<-K];exact⟨_,_,rfl,by simp,by simp⟩|true=>simp only[fh,↓iB];refine⟨⟨j rfl,o⟩,?_⟩;rintro _ ⟨s,rfl,hs⟩;refine⟨k,?_⟩;refine baV i (j rfl) o hs hn λl s' az h1 h2 d=>?_;have u:=d.len.trans i;simp only[a3B,oJ,pG,aY];refine so u λv7 aA w ay n=>?_;refine qr n rfl rfl λS x c7=>?_;have up:∀{q:Id} {z:bY},q≠(7,v7)->box v q=V z->box S q=V z:=λh h'=>x.keep _ _ (by simpa using h) (w.kq (d.fx0 h'));have d1:=up (by simp) H;have d4:=up (by simp) f;have d5:=up (by simp) F;have O:aN (V 6) c.c=V (.a c.aQ.c):=rfl;have P:aN (V 7) s'.c=V (.a s'.c):=rfl;have rt:aN (V 7) (O3.c ⟨c.aQ,l⟩)=V (.a (O3.c ⟨c.aQ,l⟩)):=rfl;have M:bM aPb aP0 [(0, .a c.aQ.c),(1,sl aP.c l)]=V (.a (O3.c ⟨c.aQ,l⟩)):=rfl;simp only[a3A,↓uL];refine dT (by simp[eL,lb,lbV,Qh,cD,dC,dK,qt.c,pm.c,aW.c,br.c,sl]) ?_;simp only[u0,u1,d1,c7,O,P,M,aj,ip,↓uL];refine qr d4 rfl rfl λaB y D=>?_;simp only[a3z];refine qr (y.kq d5) rfl rfl λaC A E=>?_;have m:=A.kq D;simp only[a3y,↓uL];refine dT (by simp[eL,lb,lbV,cD,dC,dK,pm.c,aW.c,br.c,O3.c,sl]) ?_;simp only[u0,u1,m,E,P,rt,ip,↓uL];refine aOH (vs':=[.a (O3.c ⟨c.aQ,l⟩), .a s'.c]) rfl (by simp[iX,eN,O3.c,br.c,pm.c,aW.c,sl]) ?_;rw[<-K];exact⟨_,_,rfl,h1,h2⟩
def aUi:FT:=pn aXr
def bb9{c chs Lw K}:=rQ aUi aXr c chs Lw K (j:=by simp+contextual only[ij,Nb])
def a7I:dO:=(30,aUi)::aYf
def a7s:eJ a7I:=it (aN0 aXr) (a7r)
def aWo:=ai @bb9<|@a6t
section
attribute[local irreducible] aX
def a9X:=bi 18 [(1,([0],[1,4])),(8,([28],[1,4,5,6,26,27]))]
def a4C a(e:aG)(b:bu) f c:=aV (gt a 0) (iv 1) λd=>e [d] c/\b [d] c<b a f
def a4D c t1 R d b:=rV (bM aOQ aQ4 [(0,c),(2,d)]) λe=>sV (aK 15 b t1 e) λa=>aw 15 a t1 λf=>aE R a [f]
def a4E c t1 R a:=aw 15 a c λd=>fV Cg a [d] λe=>cf e λf=>ah f (fV Gf a [] λg=>fV Gf a [] λh=>cB 29 [h] a 53 (a4D g t1 R)) (aw 15 a c λi=>sV (aK 15 a t1 i) λb=>aw 15 b t1 λj=>aE R b [j])
def a4F b t1 R c a:=aB 14 a b λd=>sV (aK 1 a d c) (a4E b t1 R)
def aVF g f b t u t1 R d e c a:=∀_:Rg,aU (gt c 0) g λh=>ah h (ao 1 a f (gt c 0) λi=>aM a i λj=>ab 6 a b λk=>aV k j λl=>aB 6 a b λm=>sV (aK 1 a m l) (a4C c d e a)) (aB 7 a b λn=>aw 7 a n λo=>aB 0 a b λp=>aw 6 a p λq=>rV (AO .max t (iv 0)) λr=>rV (AO .min r (iv 16)) λs=>cB 28 [u,o,q,s,(bv U)] a 46 (a4F b t1 R))
def a4G c f g t1 R a:=aB 7 a c λd=>ab 6 a d λb=>aJ a b λe=>lV [(iv 0)] a (aVF e b c f g t1 R)
def a4H b e f t1 R c a:=aB 7 a b λd=>sV (aK 7 a d c) (a4G b e f t1 R)
def a4I b e f t1 R a:=aB 0 a b λc=>aw 6 a c λd=>cB 27 [e,d] a 22 (a4H b f e t1 R)
def aVD f e t1 R d:=∀_:Rg,rV (bM aTP O7 [(0,(gt d 0))]) λt4=>eV (qm 80 2 f 16 t4) λg c=>fV Gf c [] λh=>rV (bM aOQ aQ4 [(0,h)]) λi=>eV (bs 43 aOQ c 6) λa b=>sV (aK 15 b a i) (a4I a g e t1 R)
def aVE c a(b:cG):=aJ c a λd=>aO .gtr d (iv 400) λe=>ah e (rV (fo 1 c a J (V (iv 400)) J) λf=>b [f]) (b [a])
def a4B b c s0 R:=eV (bs 43 aOQ s0 4) λt1 a=>jR 1 (aVD a c t1 R) (aVE a b)
def bhv{a:AV}{b:AV}{R:d7}(h:H0 λs0=>a4B a b s0 R):Ct 12 [a,b] R:=z0 a9X a7s Tryz.func12 h
end
section
attribute[local irreducible] aX
def a9Y:=bi 6 []
def aVP d R k b:=aO .sub k (iv 2) λc=>aU c (iv 0) λa=>bn a 6 b d λe=>ic a c λf=>aC a (ao 1 b e f) λg=>aC a (aM b g) λh=>aC a (bf h (iv 0)) λi=>aD a (bv U) i λj=>ah j (fe R b [(iv (-1))]) (fe R b [c])
def aVO c a b R:=ab 6 b a λt4=>aJ b t4 λd=>aV d (iv 2) λe=>cB 66 [c,e] b 11 (aVP a R)
def bf5{a b:AV}{s0:ae}{R:be}(h:eV (qm 40 7 s0 3 b) λc d=>aVO a c d R):EB 67 [a,b] s0 R:=zB a9Y aPL Tryz.func67 h
def bhx{e:AV}{d:List AV}{s0:ae}{R:be}(i:L s0=4096)(l1:L d=7)(h:∀(b:ae) (c:Nat),Kp s0 b->(∀k,k≠3->aZ b k=aZ s0 k)->(∀x,box s0 (3,c)≠V x)->box b (3,c)=V ⟨40,7,U,U,[d]⟩->aVO e (.p (3,c) 0 0) b R):EB 67 [e, .a d] s0 R:=by refine bf5 ?_;refine iN rfl l1 (by decide) (by decide) i λb c l g0 m f=>?_;exact h b c l (λk g=>g0 k g) (λx j=>m x ((Kp.refl _).keep _ _ j)) f
def a90:=bi 25 [(3,([8],[0,2,7])),(6,([16],[0,2,7])),(9,([21],[0,2,7])),(14,([26],[0,2,7])),(21,([33],[0,2]))]
def a5f b R t4 a:=ao 1 a b t4 λc=>aM a c λd=>fe R a [d]
def a5g b R c a:=aV b c λd=>aO .rem d (iv 4) λe=>fe R a [e]
def aSQ d c s0 R a:=∀_:Rg,ah (gt a 0) (aV d (iv 1) λb=>cB 66 [c,(iv 3)] s0 39 (a5g b R)) (fe R s0 [(iv (-1))])
def a5i c(a:cG):=bf c (iv 20) λb=>ah b (a [b]) (bf c (iv 21) λd=>a [d])
def aSP R s0 d b c a:=∀_:Rg,ah (gt a 0) (fe R s0 [(iv 0)]) (jR 21 (aSQ d b s0 R) (a5i c))
def a5h b(a:cG):=bf b (iv 16) λc=>ah c (a [c]) (bf b (iv 17) λd=>ah d (a [d]) (bf b (iv 18) λe=>ah e (a [e]) (bf b (iv 19) λf=>ah f (a [f]) (bf b (iv 22) λg=>ah g (a [g]) (bf b (iv 23) λh=>a [h])))))
def aST R s0 d c b a:=∀_:Rg,ah (gt a 0) (fe R s0 [(iv 2)]) (jR 14 (aSP R s0 d c b) (a5h b))
def a5k b(a:cG):=bf b (iv 8) λc=>ah c (a [c]) (bf b (iv 9) λd=>ah d (a [d]) (bf b (iv 10) λe=>ah e (a [e]) (bf b (iv 11) λf=>a [f])))
def aSS a s0 R e b d:=∀_:Rg,ah (gt d 0) (cB 66 [a,(iv 2)] s0 20 λf c=>fe R c [f]) (jR 9 (aST R s0 e a b) (a5k b))
def a5j c(b:cG):=bf c (iv 6) λa=>ah a (b [a]) (bf c (iv 7) λd=>b [d])
def aSR s0 a R d b c:=∀_:Rg,ah (gt c 0) (eV (aX bH 8 s0 [(0,(iv 0)),(1,(iv 0)),(2,(iv 0)),(3,(iv 1)),(4,(iv 1)),(5,(iv 2)),(6,(iv 3)),(7,(iv 4))]) λf e=>cB 66 [a,(iv 8)] e 13 (a5f f R)) (jR 6 (aSS a s0 R d b) (a5j b))
def aSU c(b:cG):=bf c (iv 3) λa=>ah a (b [a]) (bf c (iv 4) λd=>b [d])
def aRx b a c s0 R:=jR 3 (aSR s0 b R c a) (aSU a)
def bf7{a b c:AV}{s0:ae}{R:be}(h:aRx a b c s0 R):EB 113 [a,b,c] s0 R:=zB a90 aPL Tryz.func113 h
def bhA{a:AV}{b:AV}{c:AV}{s0:ae}{R:be}(d:L s0=4096)(h:aRx a b c s0 R):EB 113 [a,b,c] s0 R:=by refine bf7 ?_;exact h
def a93:=bi 21 [(7,([24],[0,5,10]))]
def a5t b R c a:=ao 1 a b c λd=>aM a d λe=>fe R a [e]
def aQk d a R e c f:=∀_:Rg,ah (gt f 0) (cB 66 [d,(iv 3)] a 28 λi g=>fe R g [i]) (bf e (iv 5) λj=>ah j (cB 66 [d,(iv 2)] a 32 λk h=>fe R h [k]) (bf e (iv 18) λl=>ah l (aw 7 a c λm=>fV aSk a [m] λb=>aJ a b λn=>aO .gtr n (iv 0) λo=>ah o (aJ a b λp=>cB 66 [d,p] a 44 (a5t b R)) (fe R a [(iv (-1))])) (bf e (iv 19) λq=>ah q (aw 7 a c λr=>fV aSk a [r] λs=>aJ a s λt=>fe R a [t]) (fe R a [(iv 0)]))))
def a5u c(a:cG):=bf c (iv 4) λb=>ah b (a [b]) (bf c (iv 22) λd=>a [d])
def aRz g b c h a R:=bf c (iv 3) λt3=>ah t3 (ab 4 a b λi=>ao 1 a i h λj=>aM a j λk=>fe R a [k]) (bf c (iv 23) λl=>ah l (ab 5 a b λd=>ao 1 a d (iv 0) λe=>aM a e λf=>fe R a [f]) (jR 7 (aQk g a R c b) (a5u c)))
def bga{a b c d:AV}{s0:ae}{R:be}(h:eV (qm 40 7 s0 5 b) λe f=>aRz a e c d f R):EB 114 [a,b,c,d] s0 R:=zB a93 aPL Tryz.func114 h
def bhD{e:AV}{d:List AV}{f:AV}{g:AV}{s0:ae}{R:be}(l:L s0=4096)(l1:L d=7)(h:∀(b:ae) (c:Nat),Kp s0 b->(∀k,k≠5->aZ b k=aZ s0 k)->(∀x,box s0 (5,c)≠V x)->box b (5,c)=V ⟨40,7,U,U,[d]⟩->aRz e (.p (5,c) 0 0) f g b R):EB 114 [e, .a d,f,g] s0 R:=by refine bga ?_;refine iN rfl l1 (by decide) (by decide) l λb c n g0 o i=>?_;exact h b c n (λk j=>g0 k j) (λx m=>o x ((Kp.refl _).keep _ _ m)) i
def a92:=bi 11 [(4,([5,10],[0,1,8,9])),(7,([5],[0,1,8,9,10]))]
def aVY a(f:aG)(c:bu) g b d:=∀_:Rg,aV (gt a 1) (iv 1) λe=>f [(gt b 0),e] d/\c [(gt b 0),e] d<c a g
def a5s c f b t(e:aG):=ao 1 c f (gt b 1) λu=>aM c u λv=>aV (gt b 1) (iv 3) λk=>aJ c f λl=>aO .geq k l λa=>fm a t λm=>gE (gP U a) (λg=>cB 66 [m,(iv 2)] c 22 λn h=>g n h) c λo d=>az a (bf o (iv 1)) λp=>aD a p (bv I) λq=>ah q (eV (aX bH 1 d [(0,v)]) λr i=>eV (j5 3 fB 8 i 28 (gt b 0) r) λs j=>e [s] j) (e [(gt b 0)] d)
def aVZ t1 e d R c f a b:=∀_:Rg,aU (gt a 1) t1 λt4=>ah t4 (jV 7 (aVY a c f b) (a5s b e a d)) (fe R b [(gt a 0)])
def aVX b a s0 R:=aJ s0 a λt1=>lV [(.l [] U U),(iv 0)] s0 (aVZ t1 a b R)
def bf9{a b:AV}{s0:ae}{R:be}(h:aVX a b s0 R):EB 115 [a,b] s0 R:=zB a92 aPL Tryz.func115 h
def bhC{a:AV}{b:AV}{s0:ae}{R:be}(c:L s0=4096)(h:aVX a b s0 R):EB 115 [a,b] s0 R:=by refine bf9 ?_;exact h
def a5J:=bi 39 [(4,([16],[0,4,5,15])),(7,([],[0,4,5,15,16])),(10,([7],[0,4,5,6,15,16])),(17,([64],[0,4,5,63])),(20,([],[0,4,5,63,64])),(26,([],[0,4,5])),(28,([],[0,4,5])),(33,([143],[0,4,5,142]))]
def aVL a(e:aG)(b:bu) f(g:eQ) c:=∀_:Rg,aV (gt a 0) (iv 1) λd=>e [d] c/\b [d] c<b a f
def a4J e f g i h a k c l j(b:aG) d:=dH [(bo e),(bo f),(bo g),km,km,(lb I [] [14,15,16]),(lb U [i,(iv 3)] []),(lb U [h,(gt a 0)] []),(bo k),(lbV c l j)] [(0,5),(1,5),(2,5),(3,5)] (b [] d)
def a4S c b i j k h d a:=bf d (iv 3) λe=>ao 3 a c (gt b 0) λf=>aB 2 a f λg=>sV (aK 1 a g e) (a4J i j k d c b f a g e h)
def a4U b h j i c g l k n f a:=dH [(bo b),(bo h),km,km,(lb I [] [14,15,16]),(lb U [(iv 1),j] []),(lb U [i,(gt c 0)] []),(lbV g l k)] [(0,4),(1,4),(2,4)] (aB 0 a b λd=>aB 3 a d λe=>aM a e λm=>cV 66 [n,(iv 4)] a 55 (a4S m c b d e f))
def a4V c b h i j g d a:=aV (iv 1) d λe=>ao 1 a c (gt b 0) λf=>sV (aK 1 a f e) (a4U h i d c b a f e j g)
def aSI c e h g(d:aG) a:=aO .neq (gt c 0) (iv 0) λb=>fm b (gt c 0) λi=>az b (aO .neq i (iv 1)) λj=>aD b j (bv I) λk=>ah k (aB 6 a e λf=>aM a f λl=>cV 66 [h,(iv 3)] a 47 (a4V l g e f h d)) (d [] a)
def aVI a d b j e c:=∀_:Rg,aB 0 a d λf=>ab 3 a f λg=>rV (bM aNB aM7 [(0,(gt c 0))]) λh=>ao 3 a g (gt b 0) λi=>sV (aK 3 a i h) (aSI c d j b e)
def a40 d c(b:cG):=bf (gt d 0) (iv 0) λa=>fm a c λe=>az a (bf e (iv 0)) λf=>aD a f (bv I) λg=>ah g (b [(iv 1)]) (b [c])
def a4W e d b i c f a:=ao 1 a e f λg=>aM a g λh=>jR 10 (aVI a d b i c) (a40 b h)
def a4X c e a b f d:=cV 66 [c,(iv 9)] d 21 (a4W f e a c b)
def a43 c e d a b:=eV (aX bH 9 c [(0,(iv 2)),(1,(iv 2)),(2,(iv 2)),(3,(iv 2)),(4,(iv 0)),(5,(iv 1)),(6,(iv 3)),(7,(iv 4)),(8,(iv 5))]) (a4X e d a b)
def a4Z a(e:aG)(b:bu) f(g:eQ) c:=∀_:Rg,aV (gt a 0) (iv 1) λd=>e [d] c/\b [d] c<b a f
def a4Y e b(c:aG) f a:=ao 2 a e (gt b 0) λg=>aB 1 a g λh=>sV (aK 1 a h f) λd=>c [] d
def aRw(f:aG) d P g e i:=aU e (iv 0) λE=>ah E (f [] i) (bf (gt d 0) (iv 2) λh=>fm h P λF=>gE (gP U h) (λC=>cV 66 [F,(iv 2)] i 85 λG D=>C G D) i λH a=>az h (bf H (iv 1)) λK=>aD h K (bv I) λM=>ah M (aB 0 a g λN=>ab 0 a N λO=>eV (aX bH 1 a [(0,e)]) (a4Y O d f)) (bf (gt d 0) (iv 0) λc=>az c (aB 0 a g) λk=>aT c 3 a k λl=>fm c e λm=>az c (ao 3 a l m) λn=>aT c 0 a n λo=>az c (bf o (iv 3)) λp=>fm c p λb=>aC b (aB 0 a g) λq=>bn b 3 a q λr=>ic b e λs=>aC b (ao 3 a r s) λt=>bn b 0 a t λu=>aC b (bf u (iv 4)) λv=>az c (aD b (bv U) v) λw=>aD c w (bv I) λx=>ah x (f [] a) (aB 0 a g λy=>ab 0 a y λz=>ao 2 a z (gt d 0) λA=>aB 0 a A λB=>sV (aK 1 a B e) λj=>f [] j)))
def aVM a b e c d:=aw 7 a b λf=>cB 67 [e,f] a 69 (aRw d c e b)
def a4K l h i a g k j(e:aG)(b:bu) f c:=dH [(bo l),(bo h),km,km,(lb I [] [14,15,16]),(lb U [i,(gt a 0)] []),(lbV g k j)] [(0,4),(1,4),(2,4)] (aV (gt a 0) (iv 1) λd=>e [d] c/\b [d] c<b a f)
def a4L c b j i f g h d a:=ao 1 a c (gt b 0) λe=>sV (aK 1 a e d) (a4K j i c b a e d f g h)
def aSK h d m t3 R f g b a:=∀_:Rg,aU (gt b 0) h λi=>ah i (aB 4 a d λe=>aM a e λj=>cV 66 [m,(iv 3)] a 150 (a4L j b d e f g a)) (aw 7 a d λk=>sV (aK 7 a t3 k) λc=>aw 7 c t3 λl=>fe R c [l])
def aVK b f t3 R(e:eQ) a:=∀_:Rg,ab 4 a b λc=>aJ a c λd=>lV [(iv 0)] a (aSK d b f t3 R)
def a4M h d e b g f(a:aG) c:=dH [(bo h),(bo d),km,(lb I [] [14,15,16]),(lb U [e,(iv 0)] []),(lbV b g f)] [(0,3),(1,3)] (a [] c)
def a4N b g f e c a:=ao 1 a b (iv 0) λd=>sV (aK 1 a d c) (a4M g f b a d c e)
def a4O c f d a:=aB 5 a c λb=>aM a b λe=>cV 66 [f,(iv 3)] a 138 (a4N e c b d)
def aVG c i(b:aG) d a:=bf d (iv 2) λe=>ah e (aB 0 a c λf=>ab 2 a f λg=>ao 1 a g (iv 0) λh=>sV (aK 1 a h (bv U)) (a4O c i b)) (b [] a)
def a42 c b d a:=cV 66 [c,(iv 3)] b 129 (aVG d c a)
def aVJ a c t3 R(d:eQ) b:=∀_:Rg,jV 28 (aVK a c t3 R) (a42 c b a)
def a4P g(b:aG) d a:=aB 0 a g λe=>aB 1 a e λf=>sV (aK 1 a f d) λc=>b [] c
def aVH c g(b:aG) d a:=bf d (iv 2) λe=>ah e (aw 7 a c λf=>cB 67 [g,f] a 125 (a4P c b)) (b [] a)
def a41 b c d a:=cV 66 [b,(iv 3)] c 121 (aVH d b a)
def aSJ g c d t3 R e f a b:=∀_:Rg,aU (gt a 0) g λh=>ah h (jV 20 (a4Z a e f b) (aVM b c d a)) (jV 26 (aVJ c d t3 R) (a41 d b c))
def aVN g e c t3 R d f b a:=∀_:Rg,aU (gt b 0) g λh=>ah h (jV 7 (aVL b d f a) (a43 a e c b)) (aB 0 a c λi=>ab 0 a i λj=>aJ a j λk=>lV [(iv 0)] a (aSJ k c e t3 R))
def a4Q b e t3 R a:=ab 6 a b λc=>aJ a c λd=>lV [(iv 0)] a (aVN d e b t3 R)
def a4R b t3 R e c:=eV (bs 40 BF c 5) λa d=>sV (aK 7 d a e) (a4Q a b t3 R)
def a4T b c R t3 a:=aw 6 a b λd=>cB 29 [d] a 12 (a4R c t3 R)
def aSH b a c R:=eV (bs 40 BF c 4) (a4T a b R)
def bf4{b c:AV}{s0:ae}{R:be}(h:eV (qm 31 6 s0 3 c) λa d=>aSH b a d R):EB 27 [b,c] s0 R:=aTc (aBe ready (aQ9 aPL) Tryz.func27 (an:=a5J) (by kernel_rfl) (aND (show ZB aS GGV aR3 a5J Tryz.f27 [b,c] s0 R=(eV (qm 31 6 s0 3 c) λa d=>aSH b a d R) by kernel_rfl) h))
def bhw{e:AV}{d:List AV}{s0:ae}{R:be}(i:L s0=4096)(l1:L d=6)(h:∀(b:ae) (c:Nat),Kp s0 b->(∀k,k≠3->aZ b k=aZ s0 k)->(∀x,box s0 (3,c)≠V x)->box b (3,c)=V ⟨31,6,U,U,[d]⟩->aSH e (.p (3,c) 0 0) b R):EB 27 [e, .a d] s0 R:=by refine bf4 ?_;refine iN rfl l1 (by decide) (by decide) i λb c l g0 m f=>?_;exact h b c l (λk g=>g0 k g) (λx j=>m x ((Kp.refl _).keep _ _ j)) f
def a5K:=bi 13 [(4,([],[0,3,5,6,8,9,11])),(8,([],[0,3,8,9,11])),(10,([],[8,11]))]
def aSN c f R(g:eQ) a:=∀_:Rg,aw 7 a c λd=>sV (aK 7 a f d) λb=>aw 7 b f λe=>fe R b [e]
def aVQ b(c:aG) e a:=aB 6 a b λf=>sV (aK 1 a f e) λd=>c [] d
def a5c a b l m k(d:aG):=ab 1 a b λe=>bf e (iv 4) λc=>bn c 1 a b λf=>aC c (bf f (iv 22)) λg=>aD c (bv U) g λh=>ah h (ao 1 a l m λi=>aM a i λj=>cB 115 [k,j] a 95 (aVQ b d)) (d [] a)
def aQM a e R d f c(g:eQ) b:=∀_:Rg,jV 10 (aSN a e R) (a5c b a d f c)
def aSM b(f:aG) d a:=aB 5 a b λe=>sV (aK 1 a e d) λc=>f [] c
def a5e a b v x y w(f:aG):=ab 1 a b λo=>bf o (iv 5) λc=>bn c 1 a b λp=>aC c (bf p (iv 3)) λq=>ic c q λe=>bn e 1 a b λr=>aC e (bf r (iv 4)) λs=>aC c (aD e (bv U) s) λt=>ic c t λd=>aT d 0 a v λu=>aT d 2 a b λg=>az d (ao 5 a u g) λh=>aT d 2 a h λi=>az d (aO .gtr i (iv 0)) λj=>aC c (aD d j (bv I)) λk=>aD c (bv U) k λl=>ah l (ao 1 a x y λm=>aM a m λn=>cB 115 [w,n] a 80 (aSM b f)) (f [] a)
def aVR a g R c e b f d:=jV 8 (aQM a g R c e b) (a5e d a f c e b)
def a46 a h R g i f e c b:=aB 3 b a λd=>sV (aK 1 b d c) (aVR a h R g i f e)
def a47 d a c j R i k h b:=aw 7 b d λe=>ab 1 b a λf=>ab 2 b a λg=>cB 114 [c,e,f,g] b 50 (a46 a j R i k c h)
def a48 a c g i R h j f d b:=aB 2 b a λe=>sV (aK 1 b e d) (a47 c a g i R h j f)
def aSO a c f d i R h g(j:eQ) b:=∀_:Rg,ab 1 b a λe=>cB 113 [c,e,f] b 42 (a48 a d c i R h f g)
def a5d a b(d:aG):=ab 1 a b λf=>bf f (iv 1) λc=>bn c 1 a b λg=>aC c (bf g (iv 2)) λh=>aD c (bv U) h λi=>ah i (aB 4 a b λj=>sV (aK 1 a j (iv (-1))) λe=>d [] e) (d [] a)
def a49 m f g b i j h k c a l o e q R p n d:=dH [km,km,km,km,(bo m),(lb I [] [14,15,16]),(lb U [m,f] []),(bo g),km,(lb U [b,(iv 6)] []),km,(lb I [] [14,15,16]),(lb U [i,j] []),(lb U [b,h,k] []),(lb I [] [11]),(lbV c a l)] [(0,5),(1,5),(5,8),(5,9),(5,10),(0,11),(1,11),(6,11),(7,11),(8,11),(9,11),(0,14),(1,14),(2,14),(3,14),(4,14),(5,14),(6,14),(7,14),(8,14),(9,14),(10,14),(11,14),(12,14),(13,14)] (jV 4 (aSO a o b e q R p n) (a5d d a))
def a5a d l c q j k n i p R o m e h:=aV d e λf=>rV (bM y8 aOs [(0,l),(1,c),(4,f)]) λg=>eV (bs 64 y8 h 11) λa b=>sV (aK 7 b a g) (a49 q j k l d e c f b a g n i p R o m)
def a5b i h d e l R k j b a:=ao 1 a i b λc=>aM a c λf=>aO .mul h (iv 6) λg=>cV 66 [d,(iv 6)] a 26 (a5a g h f i b c d e l R k j)
def a44 b c h R g f i a:=fV aUt a [] λe=>aJ a e λd=>cV 66 [b,d] a 20 (a5b e i b c h R g f)
def a45 a b R d c f e:=cV 66 [a,(iv 4)] e 13 (a44 a b f R d c)
def aSL c a b d e R:=eV (bs 64 y8 e 8) (a45 c a R d b)
def bf6{c d e f:AV}{s0:ae}{R:be}(h:eV (qm 40 7 s0 5 d) λa g=>eV (qm 31 6 g 6 e) λb i=>aSL c a b f i R):EB 68 [c,d,e,f] s0 R:=aTc (aBe ready (aQ9 aPL) Tryz.func68 (an:=a5K) (by kernel_rfl) (aND (show ZB aS GGV aR3 a5K Tryz.f68 [c,d,e,f] s0 R=(eV (qm 40 7 s0 5 d) λa g=>eV (qm 31 6 g 6 e) λb i=>aSL c a b f i R) by kernel_rfl) h))
def bhy{j:AV}{e:List AV}{f:List AV}{l:AV}{s0:ae}{R:be}(m:L s0=4096)(l1:L e=7)(t:L f=6)(h:∀(b:ae) (c d:Nat),Kp s0 b->(∀k,k≠5->k≠6->aZ b k=aZ s0 k)->(∀x,box s0 (5,c)≠V x)->(∀x,box s0 (6,d)≠V x)->box b (5,c)=V ⟨40,7,U,U,[e]⟩->box b (6,d)=V ⟨31,6,U,U,[f]⟩->aSL j (.p (5,c) 0 0) (.p (6,d) 0 0) l b R):EB 68 [j, .a e, .a f,l] s0 R:=by refine bf6 ?_;refine iN rfl l1 (by decide) (by decide) m λw c i g0 u o=>?_;refine iN rfl t (by decide) (by decide) (i.len.trans m) λb d n g1 v q=>?_;exact h b c d (Kp.trans i n) (λk r s=>(g1 k s).trans (g0 k r)) (λx g=>u x ((Kp.refl _).keep _ _ g)) (λx g=>v x (i.keep _ _ g)) (n.keep _ _ o) q
end
def bt:(∀p:Prop,(True->p)=p)/\(∀p:Prop,(False->p)=True)/\((I=U)=False)/\((U=I)=False)/\(∀p:Prop,(p/\True)=p)/\(∀p:Prop,(True/\p)=p)/\(∀b,(U||b)=U)/\(∀b,(I||b)=b)/\(∀b,(b||U)=U)/\(∀b,(b||I)=b)/\(∀b,(U&&b)=b)/\(∀b,(I&&b)=I)/\(∀b,(b&&U)=b)/\(∀b,(b&&I)=I)/\(∀α:Sort 1,(α->True)=True):=by refine⟨λp=>by simp,λp=>by simp,by simp,by simp,λp=>by simp,λp=>by simp,by simp,by simp,by simp,by simp,by simp,by simp,by simp,by simp,by simp⟩
def aS3{Y:ae}{b:Id}{l:List Int}{a d:Nat}{n:Int}{K:be}(e:List Id)(X:L Y=4096)(A:b.1=14\/b.1=15\/b.1=16)(T:Tp Y b l a)(t:∀q∈e,(q.1=14\/q.1=15\/q.1=16)/\∃x,box Y q=V x/\x.var=I)(S:∀(x:Int) (i:Nat) j,0<=x->(1<=n->x<n)->Tp j b l i->a<=i->(a<L l->1<=n->i=a+1)->Kx [14,15,16] Y j->(∀q∈e,∀x,box Y q=V x->box j q=V x)->K (iv x) j):cV 66 [.p b 0 0,iv n] Y d K:=by have o:∀{q:Id},q.1=14\/q.1=15\/q.1=16->q.1∈[14,15,16]:=λh=>(by rcases h with h|h|h<;>simp[h]);have Z:A6 [14,15,16] (b::e) b:=⟨o A,by simp⟩;have D:b∉e:=λh=>(by obtain⟨_,x,c,w⟩:=t b h;rw[T.bx] at c;cases c;cases w);have z:∀q∈e,∀x,box Y q=V x->box (Nm [14,15,16] (b::e) Y) q=V x:=λq g x c=>(by rw[aOV (o (t q g).1),bX (by simp[g])];exact c);have C:Tp (Nm [14,15,16] (b::e) Y) b l a:=⟨by rw[aOV (o A),bX (by simp)];exact T.bx,T.le,T.ok,T.ll⟩;have aa:∀(Y':ae) (i:Nat),Tp Y' b l i->(∀q∈e,∀x,box Y q=V x->box Y' q=V x)->okB [14,15,16] (b::e) Y':=λY' i M W p v x c w q g y H=>(by rcases eW.1 v with rfl|v;rw[M.bx] at c;cases c;simp only[cE] at g;subst g;simp only[eW,ql,y6] at H;rcases H with rfl|rfl;exact .inl rfl;trivial;obtain⟨_,x',G,E⟩:=t p v;rw[W p v x' G] at c;cases c;rw[E] at w;cases w);refine aQN rfl rfl (b::e) (λx c=>?_) (aa _ _ C z) (aWF (aOr.trans X) C n) ?_;simp only[eW,ql,y6] at c;rcases c with rfl|rfl;exact Z;trivial;rintro r j ⟨x,i,rfl,N,O,k,P,R,F⟩;have m:L j=L Y:=F.len.trans aOr;have kp:∀q∈e,∀x,box Y q=V x->box j q=V x:=λq g x c=>F.keep _ _ (by simp only[cE];rintro rfl;exact D g) (z q g x c);exact⟨m,b::e,aa _ _ k kp,trivial,S x i _ N O ⟨by rw[aPT m (o A),bX (by simp)];exact k.bx,k.le,k.ok,k.ll⟩ P R Kx.mix λq g x c=>by rw[aPT m (o (t q g).1),bX (by simp[g])];exact kp q g x c⟩
def aPu{Y:ae}{b:Id}{l:List Int}{a d:Nat}{n:Int}{K:be}(m:L Y=4096)(T:Tp Y b l a)(j:∀(x:Int) (e:Nat) c,0<=x->(1<=n->x<n)->Tp c b l e->a<=e->Fx Y c [b]->K (iv x) c):cB 66 [.p b 0 0,iv n] Y d K:=a55 m T λx e c h i g k _ F=>j x e c h i g k F
def C8{x:List AV}{y:AV}:aN J (y::x)=V y:=by cases y<;>rfl
def aTE{Y:ae}{b:Id}{l:List Int}{n:Nat}(T:Tp Y b l n){e:TypeId}{z:Nat}{a:AV}{aa:List (List AV)}(g:gm Y e z a aa):∀q∈aA a,q∉[b]:=λq c h=>by
 simp only[cE] at h;subst h
 exact aNO g q c _ T.bx rfl
def bdc{Y:ae}{b:Id}{l:List Int}{a:Nat}{x0 O x2 P R x5 a6:AV}{cnt:List Int}(A:L Y=4096)(T:Tp Y b l a)(g:gm Y 3 1 a6 (cnt.map ci))(Z:L cnt<=1000):∃r j,(∃(u:Int) (e:Nat),r=iv u/\(u= -1\/aF (L cnt) u)/\Tp j b l e/\a<=e/\Fx Y j [b])/\cZ aS GG 67 [.p b 0 0, .a [x0,O,x2,P,R,x5,a6]] Y r j:=by refine bhx A rfl λM N K2 W H t=>?_;have c:Fx Y M []:=K2.fx [];have q:=T.fx c (by simp);have m:=g.fx c (by simp);have G:((3,N):Id)∉[b]:=λh=>(by simp only[cE] at h;subst h;exact H _ T.bx);simp only[aVO,u0,u1,t,C8,nM,ip,aj,m.ln,bJ,↓uL];rw[eM (by omega) (by omega)];refine aPu (c.len.trans A) q λu e j X F k n i=>?_;have S:=F (by omega);have w:=i.keep _ _ G t;have g1:=m.fx i (aTE q m);have z:dq.wrap (u-2)=u-2:=eM (by omega) (by omega);rcases o:Q (u-2<0) with _|_;simp only[nl] at o;have C:aF (L cnt) (u-2):=⟨by omega,by omega⟩;have D:Q (u-2<0)=I:=aPk o;simp only[aVP,u0,u1,z,D,w,C8,nM,ip,aj,↓jA,Aa,↓uL];refine aTu g1 C λv=>?_;rcases E:Q (v=0) with _|_;simp only[u0,u1,E,bt,↓uL];exact⟨u-2,e,rfl, .inr C,k,n,c.trans i⟩;simp only[u0,u1,E,bt,↓uL];exact⟨-1,e,rfl, .inl rfl,k,n,c.trans i⟩;simp only[aVP,u0,u1,z,o,↓jN,ya,bt,↓uL];exact⟨-1,e,rfl, .inl rfl,k,n,c.trans i⟩
def baM{Y:ae}:aX bH 8 Y [(0,iv 0),(1,iv 0),(2,iv 0),(3,iv 1),(4,iv 1),(5,iv 2),(6,iv 3),(7,iv 4)]=V (.l ([0,0,0,1,1,2,3,4].map ci) U U,Y):=by kernel_rfl
section
attribute[local irreducible] aX
def bdk{Y:ae}{b:Id}{l:List Int}{a:Nat}{kd n:Int}(w:L Y=4096)(T:Tp Y b l a):∃r i,(∃(o:Int) (g:Nat),r=iv o/\(kd=3\/kd=4->0<=o/\o<5)/\Tp i b l g/\a<=g/\Fx Y i [b])/\cZ aS GG 113 [.p b 0 0,iv kd,iv n] Y r i:=by refine bhA w ?_;generalize S:(λ(r:AV) (i:ae)=>∃(o:Int) (g:Nat),r=iv o/\(kd=3\/kd=4->0<=o/\o<5)/\Tp i b l g/\a<=g/\Fx Y i [b])=R;have c:∀{o:Int} {g:Nat} {y:ae},(kd=3\/kd=4->0<=o/\o<5)->Tp y b l g->a<=g->Fx Y y [b]->R (iv o) y:=λq N O P=>(by rw[<-S];exact⟨_,_,rfl,q,N,O,P⟩);have D:¬(kd=3\/kd=4)->∀t,aSQ (iv n) (.p b 0 0) Y R [bv t]:=λe t=>(by(cases t);simp only[aSQ,au,aI,u0,u1,bt,↓uL];exact c (λh=>mp h e) T (dA _) (Fx.refl _ _);simp only[aSQ,au,aI,u0,u1,bt,↓uL];refine aPu w T λu g i A q k m j=>?_;simp only[a5g,u0,u1,aPR,aP1,↓uL];first|exact c (λh=>mp h e) k m j|exact⟨by decide,c (λh=>mp h e) k m j⟩);have C:¬(kd=3\/kd=4)->∀t,aSP R Y (iv n) (.p b 0 0) (iv kd) [bv t]:=λe t=>(by(cases t);simp only[aSP,a5i,au,u0,u1,D e,oe,vg,bt,↓uL];simp only[aSP,au,aI,u0,u1,bt,↓uL];exact c (λh=>mp h e) T (dA _) (Fx.refl _ _));have M:¬(kd=3\/kd=4)->∀t,aST R Y (iv n) (.p b 0 0) (iv kd) [bv t]:=λe t=>(by(cases t);simp only[aST,a5h,au,u0,u1,C e,oe,vg,bt,↓uL];simp only[aST,au,aI,u0,u1,bt,↓uL];exact c (λh=>mp h e) T (dA _) (Fx.refl _ _));have H:¬(kd=3\/kd=4)->∀t,aSS (.p b 0 0) Y R (iv n) (iv kd) [bv t]:=λe t=>(by(cases t);simp only[aSS,a5k,au,u0,u1,M e,oe,vg,bt,↓uL];simp only[aSS,au,aI,u0,u1,bt,↓uL];refine aPu w T λu g i A q k m j=>?_;exact c (λh=>mp h e) k m j);have v:∀t,(t=I->¬(kd=3\/kd=4))->aSR Y (.p b 0 0) R (iv n) (iv kd) [bv t]:=λt e=>(by(cases t);simp only[aSR,a5j,au,u0,u1,H (e rfl),oe,vg,bt,↓uL];have G:=@baM Y;simp only[aSR,au,aI,u0,u1,G,bt,↓uL];refine aPu w T λu g i A q k m j=>?_;have F:=q (by decide);simp only[a5f,tf,ci,qM,u0,↓uL];refine⟨⟨A,by simpa using F⟩,c (λ_=>?_) k m j⟩;have W:∀x∈([0,0,0,1,1,2,3,4]:List Int),0<=x/\x<5:=(by decide);exact W _ (dB (by simp;omega)));rcases z:Q (kd=3) with _|_;rcases E:Q (kd=4) with _|_;simp only[aRx,aSU,z,E,u0,u1,bt,↓uL];refine v I λ_=>?_;simp at z E;omega;simp only[aRx,aSU,z,E,u0,u1,bt,↓uL];exact v U (λh=>Bool.noConfusion h);simp only[aRx,aSU,z,u0,u1,bt,↓uL];exact v U (λh=>Bool.noConfusion h)
end
def aRH{c:AV}{l:List Int}(h:gK c=sl ci l):∃t o,c= .l (l.map ci) t o:=by(cases c<;>first|(simp[gK,sl] at h;done)|skip);rename_i aa t o;simp only[gK,sl,AV.l.injEq] at h;exact⟨t,o,by rw[h.1]⟩
def bdL{ds:List AV}{s:bW}(h:Lk ds s.c):∃x0 g x2 i t4 o4 e a j,ds=[x0,g,x2,i, .l (s.cells.map ci) t4 o4, .l (s.bU.map ci) e a,j]:=by have k:=oC h;obtain⟨h,_⟩:=h;rcases ds with _|⟨x0,_|⟨g,_|⟨x2,_|⟨i,_|⟨m,_|⟨x5,_|⟨j,_|⟨n,ds⟩⟩⟩⟩⟩⟩⟩⟩<;>simp at k;simp only[ji,mU,bW.c,kO] at h;obtain⟨t4,o4,rfl⟩:=aRH h.2.2.2.2.1;obtain⟨e,a,rfl⟩:=aRH h.2.2.2.2.2.1;exact⟨_,_,_,_,_,_,_,_,_,rfl⟩
def bdD{Y:ae}{b:Id}{l:List Int}{a:Nat}{ds:List AV}{s:bW}{kd ob:Int}(hl:L Y=4096)(T:Tp Y b l a)(n:Lk ds s.c)(hs:L s.bm.ay<1000)(S:kd=3->aF (L s.cells) ob)(ao:0<L s.bU):∃r h,(∃(v:Int) (e:Nat),r=iv v/\Tp h b l e/\a<=e/\Fx Y h [b])/\cZ aS GG 114 [.p b 0 0, .a ds,iv kd,iv ob] Y r h:=by refine bhD hl (oC n) λF v5 K2 ap nf C=>?_;generalize hR:(λ(r:AV) (h:ae)=>∃(v:Int) (e:Nat),r=iv v/\Tp h b l e/\a<=e/\Fx Y h [b])=R;have N:Fx Y F []:=K2.fx [];have A:=T.fx N (by simp);have q:=N.len.trans hl;have i:∀{v:Int} {e:Nat} {y:ae},Tp y b l e->a<=e->Fx F y [b]->R (iv v) y:=λh2 S h4=>(by rw[<-hR];exact⟨_,_,rfl,h2,S,N.trans h4⟩);have g:∀{v:Int},R (iv v) F:=i A (dA _) (Fx.refl _ _);obtain⟨x0,x1,x2,x3,t4,o4,Z,W,x6,rfl⟩:=bdL n;have G:∀{Y:ae},dG Y (.a [x0,x1,x2,x3, .l (s.cells.map ci) t4 o4, .l (s.bU.map ci) Z W,x6])= .a s.c:=λ{Y}=>n.arg Y;have Bi:aN (V 7) [x0,x1,x2,x3, .l (s.cells.map ci) t4 o4, .l (s.bU.map ci) Z W,x6]=V (.a [x0,x1,x2,x3, .l (s.cells.map ci) t4 o4, .l (s.bU.map ci) Z W,x6]):=rfl;have j:∀{Y:ae} {l:List Int},fS Y (sl ci l)=V (iv (L l)):=cT;have af:∀t,aQk (.p b 0 0) F R (iv kd) (.p (5,v5) 0 0) [bv t]:=λt=>(by(cases t);rcases E:Q (kd=5) with _|_;rcases z:Q (kd=18) with _|_;rcases H:Q (kd=19) with _|_;simp only[aQk,au,aI,E,z,H,u0,u1,↓iB,bt,↓uL];exact g;simp only[aQk,au,aI,E,z,H,u0,u1,↓iB,↓iC,C,Bi,ip,aPg,ar,G,bt,↓uL];refine⟨hs,?_⟩;rintro _ ⟨w,rfl,hw⟩;refine⟨by rw[lo,nA];simp[x9 n],?_⟩;simp only[j,u0,↓uL];exact g;simp only[aQk,au,aI,E,z,u0,u1,↓iB,↓iC,C,Bi,ip,aPg,ar,G,bt,↓uL];refine⟨hs,?_⟩;rintro _ ⟨w,rfl,hw⟩;refine⟨by rw[lo,nA];simp[x9 n],?_⟩;rcases X:Q ((0:Int)<(L w:Int)) with _|_;simp only[j,u0,u1,X,↓iB,↓uL];exact g;simp only[j,u0,u1,X,↓iC,↓uL];simp only[mn] at X;refine aPu q A λu e h O P m o k=>?_;have ad:=P (by omega);simp only[a5t,amX,ci,qM,u0,↓uL];exact⟨⟨O,ad⟩,i m o k⟩;simp only[aQk,au,aI,E,u0,u1,↓iC,bt,↓uL];exact aPu q A λu e h O P m o k=>i m o k;simp only[aQk,au,aI,u0,u1,bt,↓uL];exact aPu q A λu e h O P m o k=>i m o k);rcases D:Q (kd=3) with _|_;rcases M:Q (kd=23) with _|_;simp only[aRz,a5u,D,M,u0,u1,↓iB,af,oe,vg,↓uL];simp only[aRz,D,M,u0,u1,↓iB,↓iC,C,C8,nM,ip,aj,tf,ci,qM,↓uL];exact⟨⟨by omega,by omega⟩,g⟩;simp only[aRz,D,u0,u1,↓iC,C,C8,nM,ip,aj,tf,ci,qM,↓uL];exact⟨S (by simpa using D),g⟩
def aS1{Y:ae}{n:Int}:aX bH 1 Y [(0,iv n)]=V (.l ([n].map ci) U U,Y):=iz
def bdv{Y:ae}{b:Id}{l j:List Int}{a:Nat}{x:AV}(E:L Y=4096)(hb:b.1≠28)(T:Tp Y b l a)(g:gm Y 3 1 x (j.map ci))(hn:L j<=1000):∃r n,(∃(m:List Int) (e:Nat),gm n 3 1 r (m.map ci)/\L m<=L j/\Tp n b l e/\a<=e/\Fx Y n [b]/\∀q∈aA r,bK Y q/\q.1=28)/\cZ aS GG 115 [.p b 0 0,x] Y r n:=by refine bhC E ?_;generalize hR:(λ(r:AV) (n:ae)=>∃(m:List Int) (e:Nat),gm n 3 1 r (m.map ci)/\L m<=L j/\Tp n b l e/\a<=e/\Fx Y n [b]/\∀q∈aA r,bK Y q/\q.1=28)=R;simp only[aVX,g.ln,bJ,u0,↓uL];refine jD (α:=AV) (λa i=>[a,iv i]) 1 (L j) (λk c y=>Fx Y y [b]/\(∃e,Tp y b l e/\a<=e)/\∃m:List Int,L m<=k/\gm y 3 1 c (m.map ci)/\∀q∈aA c,bK Y q/\q.1=28) (s0:= .l [] U U) ⟨Fx.refl _ _,⟨a,T,dA _⟩,[],by simp, .inl ⟨rfl,rfl⟩,by simp[aA]⟩ ?_;rintro k c y hk ⟨F,⟨e,C,Z⟩,m,hm,D,w⟩;have aa:=F.len.trans E;rcases H:Q ((k:Int)<(L j:Int)) with _|_;simp only[aVZ,aI,au,u0,u1,H,↓iB,↓uL];rw[<-hR];exact⟨m,e,D,by omega,C,Z,F,w⟩;have v:k<L j:=RF.1 (nt H);have W:=g.fx F (aTE T g);have ek:dq.wrap ((k:Int)+3)=(k:Int)+3:=eM (by omega) (by omega);have G:∀{o:AV} {z:ae} {m':List Int} {e:Nat},Fx Y z [b]->Tp z b l e->a<=e->L m'<=k+1->gm z 3 1 o (m'.map ci)->(∀q∈aA o,bK Y q/\q.1=28)->aVY [c,iv k] (yI (λa i=>[a,iv i]) (L j) (λk c y=>Fx Y y [b]/\(∃e,Tp y b l e/\a<=e)/\∃m:List Int,L m<=k/\gm y 3 1 c (m.map ci)/\∀q∈aA c,bK Y q/\q.1=28)) (gM 1 (L j)) y [o] z:=λ{o z m' e} F T X h2 g p=>(by simp only[aVY,aI,au,u0,u1,↓uL];exact dR (mk:=λ(a:AV) i=>[a,iv i]) (s:=c) (s':=o) (λ_ _=>rfl) v (by omega) ⟨F,⟨_,T,X⟩,m',h2,g,p⟩);simp only[aVZ,aI,au,u0,u1,H,↓iC,a5s,↓uL];refine(O1.of W).ix1 (c:=iv (gd j k)) (by rw[ve,eC v,bT v];rfl) λp _=>?_;simp only[W.ln,bJ,ek,u0,u1,↓uL];rcases q2:Q ((L j:Int)<=(k:Int)+3) with _|_;simp only[u0,↓jN,Aa,bt,↓uL];exact G F C Z (by omega) D w;simp only[u0,↓jA,ya,↓uL];refine aPu (d:=22) aa C λu a2 y2 h0 X P al M=>?_;have S:=D.fx M (aTE C D);have A:=(F.trans M).mono (ks':=[b]) λq t=> .inl (by simpa using t);rcases q3:Q (u=1) with _|_;simp only[u0,u1,q3,bt,↓uL];exact G A P (by omega) (by omega) S w;simp only[u0,u1,q3,aS1,bt,↓uL];refine apQ S (A.len.trans E) pU pU (by simp) (by simp;omega) λo y3 g3 N O=>?_;have nb:b∉aA c:=λh=>hb (w b h).2;refine G (m':=m++[gd j k]) ((A.trans N).mono λq t=>?_) (P.fx N nb) (by omega) (by simp;omega) (by rw[dg];exact g3.p) λq t=>⟨(O q t).1.old A,(O q t).2⟩;rcases dF.1 t with h|h;exact .inl h;exact .inr (w q h).1.no
structure Rds(Y:ae)(B:Id)(f:Nat->AV)(m:Nat):Prop where
 bx:box Y B=V ⟨38,1,U,U,io 4 λi=>[f i]⟩
 gr:∀i,i<4->∃ns:List Int,L ns<=m/\gm Y 3 1 (f i) (ns.map ci)
 dj:∀i j,i<4->j<4->i≠j->∀q∈aA (f i),q∉aA (f j)
 pl:∀i,i<4->∀q∈aA (f i),q.1=47\/q.1=103
def Rds.kx{Y Y':ae}{B:Id}{f:Nat->AV}{m:Nat}{ks:List Nat}(O:Rds Y B f m)(k:Kx ks Y Y')(h:B.1∉ks/\47∉ks/\103∉ks):Rds Y' B f m:=⟨k.keep _ _ h.1 O.bx,λi a=>by obtain⟨n,c,g⟩:=O.gr i a;exact⟨n,c,k.gr g λq j=>by rcases O.pl i a q j with e|e<;>rw[e]<;>first|exact h.2.1|exact h.2.2⟩,O.dj,O.pl⟩
theorem Rds.fx{Y Y':ae}{B:Id}{f:Nat->AV}{m:Nat}{c:List Id}(O:Rds Y B f m)(F:Fx Y Y' c)(h:∀q∈c,q≠B/\q.1≠47/\q.1≠103):Rds Y' B f m:=⟨F.keep _ _ (λe=>(h _ e).1 rfl) O.bx,λi g=>by obtain⟨o,j,k⟩:=O.gr i g;exact⟨o,j,k.fx F λq n e=>by rcases O.pl i g q n with a|a<;>first|exact(h q e).2.1 a|exact(h q e).2.2 a⟩,O.dj,O.pl⟩
theorem Rds.rd{Y:ae}{B:Id}{f:Nat->AV}{m:Nat}(O:Rds Y B f m){u:Int}(h:0<=u/\u<4){K:d7}(g:K (f u.toNat)):rV (cz 1 Y (.m B 4) (iv u)) λp=>rV (kb J Y p) K:=by have a:u.toNat<4:=(by omega);have c:cz 1 Y (.m B 4) (iv u)=V (.p B u.toNat 0):=(by simp[cz,h.1,O.bx,a]);have e:kb J Y (.p B u.toNat 0)=V (f u.toNat):=(by simp[kb,iE,O.bx,uU a,aN]);rw[c,aY,e,aY];exact g
structure EvS(Y x:ae)(b:Id)(l:List Int)(a0 v5 v6 v8 v11:Nat)(ds:List AV)(B:Id)(f:Nat->AV)(u kd ob va st:Int)(dp fr:AV):Prop where
 bx:box x (11,v11)=V ⟨64,7,U,U,[[iv u,iv kd,iv ob,iv va,iv st,dp,fr]]⟩
 b8:box x (8,v8)=V ⟨64,7,U,U,[y8]⟩
 b5:box x (5,v5)=V ⟨40,7,U,U,[ds]⟩
 b6:box x (6,v6)=V ⟨31,6,U,U,[dE.c]⟩
 tp:∃a',Tp x b l a'/\a0<=a'
 kx:Kx [14,15,16] Y x
 pb:b.1=14\/b.1=15\/b.1=16
 gd:∃m:List Int,L m<=1000/\gm x 3 1 dp (m.map ci)
 gf:∃m:List Int,L m<=1000/\gm x 3 1 fr (m.map ci)
 pd:∀q∈aA dp,q.1=28/\∀z,box Y q≠V z
 pf:∀q∈aA fr,q.1=28/\∀z,box Y q≠V z
 rd:Rds x B f 1000
 pB:B.1=20
 no:(∀z,box Y (11,v11)≠V z)/\∀z,box Y (8,v8)≠V z
section
variable{Y x y:ae}{b B:Id}{l:List Int}{a0 v5 v6 v8 v11 d:Nat}{ds:List AV}{f:Nat->AV}{u kd ob va st:Int}{dp fr:AV}{K:be}{KS:ae->Prop}
def EvS.le(E:EvS Y x b l a0 v5 v6 v8 v11 ds B f u kd ob va st dp fr)(h:L Y=4096):L x=4096:=E.kx.len.trans h
def EvS.nx(E:EvS Y x b l a0 v5 v6 v8 v11 ds B f u kd ob va st dp fr)(F:Fx x y [b]){i:Nat}(T:Tp y b l i)(h:a0<=i):EvS Y y b l a0 v5 v6 v8 v11 ds B f u kd ob va st dp fr:=by have n:=E.pb;have c:∀{q:Id},q.1≠14->q.1≠15->q.1≠16->q∉[b]:=λj k r e=>(by simp at e;subst e;omega);obtain⟨m,j,g1⟩:=E.gd;obtain⟨p,k,o⟩:=E.gf;have g:∀{q:Id},q.1=28->q∉[b]:=λh=>c (by omega) (by omega) (by omega);exact⟨F.keep _ _ (c (by simp) (by simp) (by simp)) E.bx,F.keep _ _ (c (by simp) (by simp) (by simp)) E.b8,F.keep _ _ (c (by simp) (by simp) (by simp)) E.b5,F.keep _ _ (c (by simp) (by simp) (by simp)) E.b6,⟨i,T,h⟩,E.kx.fx F λq a=> .inl (by simp at a;subst a;rcases n with e|e|e<;>simp[e]),n,⟨m,j,g1.fx F λq a=>g (E.pd q a).1⟩,⟨p,k,o.fx F λq a=>g (E.pf q a).1⟩,E.pd,E.pf,E.rd.fx F (λq a=>by simp at a;subst a;exact⟨λe=>by have:=E.pB;rw[<-e] at this;omega,by omega,by omega⟩),E.pB,E.no⟩
def EvS.set(E:EvS Y x b l a0 v5 v6 v8 v11 ds B f u kd ob va st dp fr)(F:Fx x y [(11,v11)]){j n k:Int}{c g:AV}(G:box y (11,v11)=V ⟨64,7,U,U,[[iv u,iv kd,iv j,iv n,iv k,c,g]]⟩)(gd:∃m:List Int,L m<=1000/\gm x 3 1 c (m.map ci))(w:∃m:List Int,L m<=1000/\gm x 3 1 g (m.map ci))(p:∀q∈aA c,q.1=28/\∀z,box Y q≠V z)(r:∀q∈aA g,q.1=28/\∀z,box Y q≠V z):EvS Y y b l a0 v5 v6 v8 v11 ds B f u kd j n k c g:=by obtain⟨m,A,g1⟩:=gd;obtain⟨H,C,v⟩:=w;obtain⟨t,T,D⟩:=E.tp;have o:=E.pb;have i:∀{q:Id},q.1=28->q∉[((11,v11):Id)]:=λh e=>(by simp at e;subst e;simp at h);exact⟨G,F.kq E.b8,F.kq E.b5,F.kq E.b6,⟨t,T.fx F (λe=>by simp at e;subst e;simp at o),D⟩,E.kx.fx F (λq a=> .inr (by simp at a;subst a;exact E.no.1)),o,⟨m,A,g1.fx F λq a=>i (p q a).1⟩,⟨H,C,v.fx F λq a=>i (r q a).1⟩,p,r,E.rd.fx F (λq a=>by simp at a;subst a;exact⟨λe=>by have:=E.pB;rw[<-e] at this;simp at this,by simp,by simp⟩),E.pB,E.no⟩
def a56(E:EvS Y x b l a0 v5 v6 v8 v11 ds B f u kd ob va st dp fr)(n:L Y=4096){j:Nat}(k:j<4)(i:∀r y,EvS Y y b l a0 v5 v6 v8 v11 ds B f u kd ob va st dp fr->(∃m:List Int,L m<=1000/\gm y 3 1 r (m.map ci))->(∀q∈aA r,q.1=28/\∀z,box Y q≠V z)->K r y):cB 115 [.p b 0 0,f j] x d K:=by obtain⟨C,h,g⟩:=E.rd.gr j k;obtain⟨v,T,A⟩:=E.tp;refine jH rfl (bdv (E.le n) (by have:=E.pb;omega) T g h) ?_;rintro r y ⟨m,a2,e,w,c,t,F,p⟩;exact⟨F.len,i r y (E.nx F c (by omega)) ⟨m,by omega,e⟩ λq a=>⟨(p q a).2,λz o=>(p q a).1.no z (E.kx.keep _ _ (by rw[(p q a).2];decide) o)⟩⟩
end
def bcs{Y:ae}{e h i j k:Int}{dp fr:AV}{m n:List Int}(g:gm Y 3 1 dp (m.map ci))(o:gm Y 3 1 fr (n.map ci)):aOo Y (.a [iv e,iv h,iv i,iv j,iv k,dp,fr])= .a (aP.mk e h i j k m n).c:=by show AV.a (List.map gK (List.map (gi Y) _))=_;have p:=a6r g;have q:=a6r o;simp only[ji,mU,p,q];rfl
def bdf{Y:ae}{b B:Id}{l:List Int}{a:Nat}{ds:List AV}{s:bW}{f:Nat->AV}(w:L Y=4096)(hb:b.1=14\/b.1=15\/b.1=16)(hB:B.1=20)(T:Tp Y b l a)(hL:Lk ds s.c)(hs:L s.bm.ay<1000)(h3:L s.cells=5)(bu:0<L s.bU)(O:Rds Y B f 1000):∃r Y1,(∃(e:aP) (v:Nat),r= .a e.c/\EvL e/\(0<=e.aq/\e.aq<4)/\Tp Y1 b l v/\a<=v/\(a<L l->a+1<=v)/\Kx [14,15,16] Y Y1)/\cZ aS GG 68 [.p b 0 0, .a ds, .a dE.c, .m B 4] Y r Y1:=by generalize hQ:(λ(r:AV) (y:ae)=>∃(e:aP) (v:Nat),aOo y r= .a e.c/\EvL e/\(0<=e.aq/\e.aq<4)/\Tp (kills y (aNW r)) b l v/\a<=v/\(a<L l->a+1<=v)/\Kx [14,15,16] Y (kills y (aNW r)))=Qq;refine aQR (R:=Qq) ?_ (λr y h=>by rw[<-hQ] at h;exact h);refine bhy w (oC hL) rfl λs4 v5 v6 K4 cG cH cI b5 b6=>?_;have F4:Fx Y s4 []:=K4.fx [];have bG:=F4.len.trans w;simp only[aSL];refine so bG λv8 s6 P N8 b8=>?_;have X:=F4.trans P;have K6:Kx [14,15,16] Y s6:=X.kx (by simp);have bH:=X.len.trans w;have n8:∀z,box Y (8,v8)≠V z:=(N8.old F4).no;simp only[a45];refine aS3 [] bH hb (T.fx X (by simp)) (by simp) λu a1 s8 bO bQ T8 ct bK K8 _=>?_;have hu:0<=u/\u<4:=⟨bO,bQ (by decide)⟩;have ax:Kx [14,15,16] Y s8:=K6.kx K8 (by simp);have bI:=ax.len.trans w;simp only[a44,aPg,ar,↓uL];rintro _ ⟨t,o,rfl⟩;refine⟨by rw[lo,nA];simp,?_⟩;simp only[bdM,u0,↓uL];refine aS3 [] bI hb T8 (by simp) λk a2 b0 bD bF bk cu cw av _=>?_;have hk:aF (L aTp) k:=⟨bD,by have:=bF (by decide);simpa using this⟩;have Z:Kx [14,15,16] Y b0:=ax.kx av (by simp);have aY:=Z.len.trans w;simp only[a5b,tf,ci,qM,u0,u1,↓uL];refine⟨hk,?_⟩;generalize gd aTp k.toNat=kd;refine aS3 [] aY hb bk (by simp) λst a3 aL cy cF bl cv cx aw _=>?_;have H:Kx [14,15,16] Y aL:=Z.kx aw (by simp);have aZ:=H.len.trans w;have bB:∀{u k st:Int},bM y8 aOs [(0,iv u),(1,iv k),(4,iv st)]=V (.a [iv u,iv k,iv 0,iv 0,iv st, .l [] U U, .l [] U U]):=λ{u k st}=>rfl;simp only[a5a,bB,u0,u1,↓uL];generalize dq.wrap (dq.wrap (u*6)+st)=site;refine so aZ λv11 cJ ap az bn=>?_;refine qr bn rfl rfl λA au br=>?_;have aE:∀z,box Y (11,v11)≠V z:=H.no (by simp) az.no;have aa:Kx [14,15,16] Y A:=(H.fx ap (by simp)).fx au λq j=> .inr (by simp at j;subst j;exact aE);have N:Fx aL A []:=(ap.trans au).mono λq j=>(by simp at j;subst j;exact .inr az.no);have kk:∀{q:Id} {z:bY},q.1≠14->q.1≠15->q.1≠16->box s6 q=V z->box A q=V z:=λh1 S h3 h=>N.kq (aw.keep _ _ (by simp[h1,S,h3]) (av.keep _ _ (by simp[h1,S,h3]) (K8.keep _ _ (by simp[h1,S,h3]) h)));simp only[a49];refine dT (by simp[eL,lb,lbV,cD,dC,dK]) ?_;have E:EvS Y A b l a3 v5 v6 v8 v11 ds B f u kd 0 0 site (.l [] U U) (.l [] U U):=⟨br,kk (by simp) (by simp) (by simp) b8,kk (by simp) (by simp) (by simp) (P.kq b5),kk (by simp) (by simp) (by simp) (P.kq b6),⟨a3,bl.fx N (by simp),dA _⟩,aa,hb,⟨[],by simp, .inl ⟨rfl,rfl⟩⟩,⟨[],by simp, .inl ⟨rfl,rfl⟩⟩,by simp[aA],by simp[aA],O.kx aa ⟨by rw[hB];decide,by decide,by decide⟩,hB,aE,n8⟩;have aX:a<L l->a+1<=a3:=λh=>(by have:=bK h (by decide);omega);have ch:a<=a3:=(by omega);have aC:u.toNat<4:=(by omega);have r7:=@r7A;have uQ:aN (V 7) ds=V (.a ds):=(by have:=oC hL;simp[aN,this,oB (aSp this)]);have aD:∀{x ob va st dp fr},EvS Y x b l a3 v5 v6 v8 v11 ds B f u kd ob va st dp fr->aSN (.p (11,v11) 0 0) (.p (8,v8) 0 0) Qq [] x:=λ{x ob va st dp fr} E=>(by simp only[aSN,aI,u0,u1,E.bx,r7,ip,↓uL];refine qr E.b8 rfl rfl λy F b=>?_;simp only[b,u0,u1,r7,↓uL];obtain⟨m,h1,g1⟩:=E.gd;obtain⟨m2,S,g2⟩:=E.gf;have aG:∀{q:Id},q.1=28->q∉[((8,v8):Id)]:=λh e=>(by simp at e;subst e;simp at h);have y1:=g1.fx F λq j=>aG (E.pd q j).1;have y2:=g2.fx F λq j=>aG (E.pf q j).1;obtain⟨v,T',bA⟩:=E.tp;have ei:aNW (.a [iv u,iv kd,iv ob,iv va,iv st,dp,fr])=aA dp++aA fr:=(by have i1:=aQX y1;have i2:=aQX y2;have e0:∀{n:Int},iR (iv n)=[]:=rfl;simp only[aNW,eB,Cz,List.flatMap_nil,i1,i2,e0,dW,cL]);have nb:∀q∈aA dp++aA fr,q.1=28/\∀z,box Y q≠V z:=λq j=>(by rcases dF.1 j with h|h;exact E.pd q h;exact E.pf q h);have bL:=E.pb;show Qq (.a [iv u,iv kd,iv ob,iv va,iv st,dp,fr]) y;rw[<-hQ];refine⟨_,v,bcs y1 y2,⟨h1,S⟩,hu,?_,by omega,λh=>by have:=aX h;omega,?_⟩;rw[ei];exact(T'.fx F (λe=>by simp at e;subst e;simp at bL)).fx (aOp _ _) λe=>(by have:=(nb _ e).1;omega);rw[ei];exact(E.kx.fx F (λq j=> .inr (by simp at j;subst j;exact E.no.2))).fx (aOp _ _) λq j=> .inr (nb q j).2);have j8:∀{x ob va st dp fr},EvS Y x b l a3 v5 v6 v8 v11 ds B f u kd ob va st dp fr->aQM (.p (11,v11) 0 0) (.p (8,v8) 0 0) Qq (.m B 4) (iv u) (.p b 0 0) [] x:=λ{x ob va st dp fr} E=>(by have go:rV (cz 1 x (.m B 4) (iv u)) λC=>rV (kb J x C) λD=>cB 115 [.p b 0 0,D] x 95 (aVQ (.p (11,v11) 0 0) (aSN (.p (11,v11) 0 0) (.p (8,v8) 0 0) Qq)):=(by refine E.rd.rd hu ?_;refine a56 E w aC λr y i gr pr=>?_;have cr:eY r=V [r]:=(by obtain⟨m,_,g⟩:=gr;exact g.ce);simp only[aVQ,u0,u1,i.bx,aj,↓uL];refine A0 i.bx cr (by simp) λz F b=>?_;exact aD (i.set F b i.gd gr i.pd pr));simp only[aQM,aI,di,a5c,↓uL];rcases M:Q (kd=4) with _|_;rcases aJ:Q (kd=22) with _|_;simp only[u0,u1,E.bx,C8,nM,ip,aj,M,aJ,↓jA,bt,↓uL];exact aD E;simp only[u0,u1,E.bx,C8,nM,ip,aj,M,aJ,↓jA,bt,↓uL];exact go;simp only[u0,u1,E.bx,C8,nM,ip,aj,M,↓jN,ya,bt,↓uL];exact go);have k8:∀{x ob va st dp fr},EvS Y x b l a3 v5 v6 v8 v11 ds B f u kd ob va st dp fr->(kd=3\/kd=4->0<=ob/\ob<5)->aVR (.p (11,v11) 0 0) (.p (8,v8) 0 0) Qq (.m B 4) (iv u) (.p b 0 0) (.p (6,v6) 0 0) x:=λ{x ob va st dp fr} E ho=>(by have go:rV (cz 1 x (.m B 4) (iv u)) λC=>rV (kb J x C) λD=>cB 115 [.p b 0 0,D] x 80 (aSM (.p (11,v11) 0 0) (aQM (.p (11,v11) 0 0) (.p (8,v8) 0 0) Qq (.m B 4) (iv u) (.p b 0 0))):=(by refine E.rd.rd hu ?_;refine a56 E w aC λr y i gr pr=>?_;have cr:eY r=V [r]:=(by obtain⟨m,_,g⟩:=gr;exact g.ce);simp only[aSM,u0,u1,i.bx,aj,↓uL];refine A0 i.bx cr (by simp) λz F b=>?_;exact j8 (i.set F b gr i.gf pr i.pf));have ag:aN J dE.c=V (sl cA.c dE.cells):=rfl;have bC:L dE.cells=5:=rfl;have ak:(kd=3\/kd=4)->rV (cz 5 x (sl cA.c dE.cells) (iv ob)) λbc=>rV (iQ 2 x bc) λt=>rV (kb J x t) λbd=>rV (wl .gtr 0 [] bd (iv 0)) λbe=>ah be (rV (cz 1 x (.m B 4) (iv u)) λC=>rV (kb J x C) λD=>cB 115 [.p b 0 0,D] x 80 (aSM (.p (11,v11) 0 0) (aQM (.p (11,v11) 0 0) (.p (8,v8) 0 0) Qq (.m B 4) (iv u) (.p b 0 0)))) (aQM (.p (11,v11) 0 0) (.p (8,v8) 0 0) Qq (.m B 4) (iv u) (.p b 0 0) [] x):=λh=>(by have h5:=ho h;simp only[aCd,u0,u1,cA.c,aC6,nM,ip,C8,↓uL];refine⟨⟨h5.1,by rw[bC];exact h5.2⟩,λ_=>go,λ_=>j8 E⟩);simp only[aVR,di,a5e,↓uL];rcases q5:Q (kd=5) with _|_;rcases q3:Q (kd=3) with _|_;rcases M:Q (kd=4) with _|_;simp only[u0,u1,E.bx,C8,nM,ip,aj,q5,q3,M,↓jA,↓jN,Aa,bt,↓uL];exact j8 E;simp only[u0,u1,E.bx,E.b6,C8,ag,nM,ip,aj,q5,q3,M,↓jA,ya,Aa,bt,↓uL];exact ak (.inr (by simpa using M));simp only[u0,u1,E.bx,E.b6,C8,ag,nM,ip,aj,q5,q3,↓jA,↓jN,ya,Aa,↓uL];exact ak (.inl (by simpa using q3));simp only[u0,u1,E.bx,C8,nM,ip,aj,q5,↓jN,ya,bt,↓uL];exact go);have j4:∀{x st},EvS Y x b l a3 v5 v6 v8 v11 ds B f u kd 0 0 st (.l [] U U) (.l [] U U)->aSO (.p (11,v11) 0 0) (.p b 0 0) (iv u) (.p (5,v5) 0 0) (.p (8,v8) 0 0) Qq (.m B 4) (.p (6,v6) 0 0) [] x:=λ{x st} E=>(by simp only[aSO,aI,u0,u1,E.bx,C8,nM,ip,aj,↓uL];obtain⟨v,T',bA⟩:=E.tp;refine jH rfl (bdk (E.le w) T') ?_;rintro _ y ⟨ob,a2,rfl,ho,T2,S,F2⟩;refine⟨F2.len,?_⟩;have i:=E.nx F2 T2 (by omega);simp only[a48,u0,u1,i.bx,aj,↓uL];refine A0 i.bx rfl (by simp) λz Fz bz=>?_;have W:=i.set Fz bz i.gd i.gf i.pd i.pf;obtain⟨a5,T5,h5⟩:=W.tp;simp only[a47,u0,u1,W.bx,W.b5,uQ,C8,nM,ip,aj,↓uL];refine jH rfl (bdD (W.le w) T5 hL hs (λh=>?_) bu) ?_;rw[h3];exact ho (.inl h);rintro _ y2 ⟨va,a6,rfl,T6,h6,P⟩;refine⟨P.len,?_⟩;have G:=W.nx P T6 (by omega);simp only[a46,u0,u1,G.bx,aj,↓uL];refine A0 G.bx rfl (by simp) λz2 bi bq=>?_;exact k8 (G.set bi bq G.gd G.gf G.pd G.pf) ho);have aB:rV (iQ 4 A (.p (11,v11) 0 0)) λt=>sV (aK 1 A t (iv (-1))) λs=>aSO (.p (11,v11) 0 0) (.p b 0 0) (iv u) (.p (5,v5) 0 0) (.p (8,v8) 0 0) Qq (.m B 4) (.p (6,v6) 0 0) [] s:=(by simp only[u0,u1,E.bx,aj,↓uL];refine A0 E.bx rfl (by simp) λz F bz=>?_;exact j4 (E.set F bz E.gd E.gf E.pd E.pf));simp only[di,a5d,↓uL];rcases q1:Q (kd=1) with _|_;rcases q2:Q (kd=2) with _|_;simp only[u0,u1,E.bx,C8,nM,ip,aj,q1,q2,↓jA,bt,↓uL];exact j4 E;simp only[u0,u1,E.bx,C8,nM,ip,aj,q1,q2,↓jA,bt,↓uL];have:=aB;simp only[u0,u1,E.bx,aj,↓uL] at this;exact this;simp only[u0,u1,E.bx,C8,nM,ip,aj,q1,↓jN,ya,bt,↓uL];have:=aB;simp only[u0,u1,E.bx,aj,↓uL] at this;exact this
def bcM{Y:ae}{e n:TypeId}{z v:Nat}{a k:AV}{r t:List (List AV)}(g:gm Y e z a r)(o:gm Y n v k t)(h:e≠n):∀q∈aA k,q∉aA a:=λq i j=>by
 rcases g with⟨_,rfl⟩|⟨b,m,rfl,p⟩
 ·simp[aA] at j
 rcases o with⟨_,rfl⟩|⟨w,m',rfl,c⟩
 ·simp[aA] at i
 simp only[aA,cE] at j i
 subst j i
 rw[p] at c;exact h (aNJ bY.elem (xu c))
def gm.fn{Y Y':ae}{e c:TypeId}{z m:Nat}{a i:AV}{r k:List (List AV)}(j:gm Y c m i k)(F:Fx Y Y' (aA a))(g:gm Y e z a r)(h:e≠c:=by decide):gm Y' c m i k:=j.fx F (bcM g j h)
section
variable{Y x y:ae}{s:bW}{a1 a2 a3 a4 a5 a6:AV}{KS:ae->Prop}
theorem SnL.keep(S:SnL Y x s a1 a2 a3 a4 a5 a6){c:List Id}(F:Fx x y c)(h:∀q∈c,q.1≠6/\q.1≠32/\q.1≠10/\q.1≠14):SnL Y y s a1 a2 a3 a4 a5 a6:=⟨S.g1.fx F λq a e=>(h q e).1 (S.p1 q a).2,S.g2.fx F λq a e=>(h q e).1 (S.p2 q a).2,S.g3.fx F λq a e=>(h q e).1 (S.p3 q a).2,S.g4.fx F λq a e=>(h q e).2.1 (S.p4 q a).2,S.g5.fx F λq a e=>(h q e).2.2.1 (S.p5 q a).2,S.g6.fx F λq a e=>(h q e).2.2.2 (S.p6 q a).2,S.p1,S.p2,S.p3,S.p4,S.p5,S.p6⟩
def SnL.old{a:ae}{c:List Id}(S:SnL Y x s a1 a2 a3 a4 a5 a6)(F:Fx a Y c):SnL a x s a1 a2 a3 a4 a5 a6:=⟨S.g1,S.g2,S.g3,S.g4,S.g5,S.g6,λq h=>⟨(S.p1 q h).1.old F,(S.p1 q h).2⟩,λq h=>⟨(S.p2 q h).1.old F,(S.p2 q h).2⟩,λq h=>⟨(S.p3 q h).1.old F,(S.p3 q h).2⟩,λq h=>⟨(S.p4 q h).1.old F,(S.p4 q h).2⟩,λq h=>⟨(S.p5 q h).1.old F,(S.p5 q h).2⟩,λq h=>⟨(S.p6 q h).1.old F,(S.p6 q h).2⟩⟩
def a7V{α:Type}[Inhabited α]{c:α->List AV}{e:TypeId}{z:Nat}{a:AV}{l:List α}(g:gm x e z a (l.map c))(P:∀y,L (c y)=z){i:Int}(n:aF (L l) i){j:Nat}{v:AV}{t:α}(M:j<z)(G:eY (nrm (eR x v))=V [nrm (eR x v)])(H:eN (nrm (eR x v))=U)(hI:eB v=[]){w:AV->be}(O:(c (gd l i.toNat)).set j (nrm (eR x v))=c t)(E:∀p k y,Fx x y (aA a)->gm y e z a ((l.set i.toNat t).map c)->w p k y):rV (cz z x a (iv i)) λp=>rV (iQ j x p) λk=>sV (aK 1 x k v) (w p k):=by refine ixG g (by simpa using n) λb m C D=>?_;have h:i.toNat<L l:=(by have:=n.1;have:=n.2;omega);simp only[rR,D,df,aY,aj];refine aQz (r:=c (gd l i.toNat)) D (by rw[xe (by simpa using h),ve,eC h,bT h];rfl) (by rw[P];exact M) G H hI λy F A=>?_;have o:(l.map c++m).set i.toNat ((c (gd l i.toNat)).set j (nrm (eR x v)))=(l.set i.toNat t).map c++m:=(by rw[List.set_append_left _ _ (by simpa using h),vB,O]);rw[o] at A;exact E _ _ y (F.mono λq N=> .inl (by rw[C];simpa[aA] using N)) (.inr ⟨b,m,by rw[C];simp,A⟩)
end
def sz5(s:bW):Prop:=L s.bm.ak=3/\L s.bm.done=1/\L s.bm.ay=4/\L s.cells=5/\L s.bU=1/\L s.count=4/\(∀q∈s.bm.ak,L q.bk<=1)/\∀c∈s.count,0<=c/\c<=400
structure Bg(Y x:ae)(b:Id)(l:List Int)(a0 v4 v8:Nat)(a1 a2 a3 a4 a5 a6:AV):Prop where
 ex:∃s:bW,SnL Y x s a1 a2 a3 a4 a5 a6/\sz5 s/\box x (5,v8)=V ⟨40,7,U,U,[[a1,iv s.bm.tx,a2,a3,a4,a5,a6]]⟩
 b4:box x (4,v4)=V ⟨40,7,U,U,[BF]⟩
 tp:∃a',Tp x b l a'/\a0<=a'
 kx:Kx [14,15,16] Y x
 pb:b.1=14\/b.1=15\/b.1=16
 no:(∀z,box Y (4,v4)≠V z)/\∀z,box Y (5,v8)≠V z
section
variable{Y x y:ae}{b:Id}{l:List Int}{a0 v4 v8 d:Nat}{a1 a2 a3 a4 a5 a6:AV}{K:be}{KS:ae->Prop}
def Bg.le(B:Bg Y x b l a0 v4 v8 a1 a2 a3 a4 a5 a6)(h:L Y=4096):L x=4096:=B.kx.len.trans h
def aPS(B:Bg Y x b l a0 v4 v8 a1 a2 a3 a4 a5 a6)(t:L Y=4096){n:Int}(r:∀(u:Int) y,0<=u->(1<=n->u<n)->Bg Y y b l a0 v4 v8 a1 a2 a3 a4 a5 a6->K (iv u) y):cV 66 [.p b 0 0,iv n] x d K:=by obtain⟨s,S,v,j⟩:=B.ex;obtain⟨w,T,A⟩:=B.tp;refine aS3 (aA a6) (B.le t) B.pb T (λq e=>⟨.inl (S.p6 q e).2,?_⟩) λu g y k o i z _ a kp=>r u y k o ⟨⟨s,⟨a.gr S.g1 λq h=>by rw[(S.p1 q h).2];decide,a.gr S.g2 λq h=>by rw[(S.p2 q h).2];decide,a.gr S.g3 λq h=>by rw[(S.p3 q h).2];decide,a.gr S.g4 λq h=>by rw[(S.p4 q h).2];decide,a.gr S.g5 λq h=>by rw[(S.p5 q h).2];decide,?_,S.p1,S.p2,S.p3,S.p4,S.p5,S.p6⟩,v,a.kq j⟩,a.kq B.b4,⟨g,i,by omega⟩,B.kx.kx a (by simp),B.pb,B.no⟩;rcases S.g6 with⟨_,rfl⟩|⟨c,m,rfl,h⟩;simp[aA] at e;simp only[aA,cE] at e;subst e;exact⟨_,h,rfl⟩;rcases S.g6 with h|⟨c,m,rfl,h⟩;exact .inl h;exact .inr ⟨c,m,rfl,kp c (by simp[aA]) _ h⟩
def a5S(B:Bg Y x b l a0 v4 v8 a1 a2 a3 a4 a5 a6)(C:L Y=4096){t:Int}(A:∀(u:Int) y,(u= -1\/aF 4 u)->Bg Y y b l a0 v4 v8 a1 a2 a3 a4 a5 a6->K (iv u) y):cB 67 [.p b 0 0, .a [a1,iv t,a2,a3,a4,a5,a6]] x d K:=by obtain⟨s,S,m,v⟩:=B.ex;obtain⟨E,T,H⟩:=B.tp;have j:=B.pb;have D:L s.count=4:=m.2.2.2.2.2.1;refine jH rfl (bdc (B.le C) T S.g6 (by omega)) ?_;rintro _ y ⟨u,i,rfl,h,o,w,F⟩;rw[D] at h;have c:∀{a:AV} {e:TypeId} {z:Nat} {r:List (List AV)},gm x e z a r->gm y e z a r:=λg=>g.fx F (aTE T g);have n:∀{q:Id},q.1≠14->q.1≠15->q.1≠16->q∉[b]:=λh w G e=>(by simp at e;subst e;omega);exact⟨F.len,A u y h ⟨⟨s,⟨c S.g1,c S.g2,c S.g3,c S.g4,c S.g5,c S.g6,S.p1,S.p2,S.p3,S.p4,S.p5,S.p6⟩,m,F.keep _ _ (n (by simp) (by simp) (by simp)) v⟩,F.keep _ _ (n (by simp) (by simp) (by simp)) B.b4,⟨i,o,by omega⟩,B.kx.fx F (λq k=> .inl (by simp at k;subst k;rcases j with e|e|e<;>simp[e])),j,B.no⟩⟩
theorem Bg.wr(B:Bg Y x b l a0 v4 v8 a1 a2 a3 a4 a5 a6){a:List Id}(F:Fx x y a)(h:∀q∈a,bK Y q/\(q.1=6\/q.1=32\/q.1=10\/q.1=14))(m:∀q∈a,∀z,box x q=V z->z.var=U->False){s:bW}(S:SnL Y y s a1 a2 a3 a4 a5 a6)(n:sz5 s)(k:∃z,box x (5,v8)=V z/\z=⟨40,7,U,U,[[a1,iv s.bm.tx,a2,a3,a4,a5,a6]]⟩):Bg Y y b l a0 v4 v8 a1 a2 a3 a4 a5 a6:=by obtain⟨c,T,i⟩:=B.tp;obtain⟨z,g,rfl⟩:=k;exact⟨⟨s,S,n,F.keep _ _ (λe=>by have:=(h _ e).2;simp at this) g⟩,F.keep _ _ (λe=>by have:=(h _ e).2;simp at this) B.b4,⟨c,T.fx F λe=>m b e _ T.bx rfl,i⟩,B.kx.fx F (λq j=> .inr (h q j).1.no),B.pb,B.no⟩
def baw(B:Bg Y x b l a0 v4 v8 a1 a2 a3 a4 a5 a6){i v:Int}(o:aF 4 i)(r:0<=v/\v<=400){K2:be}(m:∀p y,Bg Y y b l a0 v4 v8 a1 a2 a3 a4 a5 a6->K2 p y):rV (cz 1 x a6 (iv i)) λp=>sV (aK 1 x p (iv v)) (K2 p):=by obtain⟨s,S,a,j⟩:=B.ex;have g:L s.count=4:=a.2.2.2.2.2.1;refine aR5 S.g6 (by rw[g];exact o) λp y F k=>m p y (B.wr F (λq e=>⟨(S.p6 q e).1, .inr (.inr (.inr (S.p6 q e).2))⟩) (aNO S.g6) (s:={s with count:=s.count.set i.toNat v}) ⟨S.g1.fn F S.g6,S.g2.fn F S.g6,S.g3.fn F S.g6,S.g4.fn F S.g6,S.g5.fn F S.g6,k,S.p1,S.p2,S.p3,S.p4,S.p5,S.p6⟩ ⟨a.1,a.2.1,a.2.2.1,a.2.2.2.1,a.2.2.2.2.1,by simpa using g,a.2.2.2.2.2.2.1,λc n=>by rcases CC n with h|rfl;exact a.2.2.2.2.2.2.2 c h;exact r⟩ ⟨_,j,rfl⟩)
def bav(B:Bg Y x b l a0 v4 v8 a1 a2 a3 a4 a5 a6){i v:Int}(m:aF 5 i){K2:be}(k:∀p y,Bg Y y b l a0 v4 v8 a1 a2 a3 a4 a5 a6->K2 p y):rV (cz 1 x a4 (iv i)) λp=>sV (aK 1 x p (iv v)) (K2 p):=by obtain⟨s,S,c,e⟩:=B.ex;have n:L s.cells=5:=c.2.2.2.1;refine aR5 S.g4 (by rw[n];exact m) λp y F g=>k p y (B.wr F (λq a=>⟨(S.p4 q a).1, .inr (.inl (S.p4 q a).2)⟩) (aNO S.g4) (s:={s with cells:=s.cells.set i.toNat v}) ⟨S.g1.fn F S.g4,S.g2.fn F S.g4,S.g3.fn F S.g4,g,S.g5.fx F (λq h j=>by have:=(S.p5 q h).2;have:=(S.p4 q j).2;omega),S.g6.fn F S.g4,S.p1,S.p2,S.p3,S.p4,S.p5,S.p6⟩ (by simpa[sz5] using c) ⟨_,e,rfl⟩)
def bay(B:Bg Y x b l a0 v4 v8 a1 a2 a3 a4 a5 a6){i v:Int}(m:aF 1 i){K2:be}(k:∀p y,Bg Y y b l a0 v4 v8 a1 a2 a3 a4 a5 a6->K2 p y):rV (cz 1 x a5 (iv i)) λp=>sV (aK 1 x p (iv v)) (K2 p):=by obtain⟨s,S,c,e⟩:=B.ex;have n:L s.bU=1:=c.2.2.2.2.1;refine aR5 S.g5 (by rw[n];exact m) λp y F g=>k p y (B.wr F (λq a=>⟨(S.p5 q a).1, .inr (.inr (.inl (S.p5 q a).2))⟩) (aNO S.g5) (s:={s with bU:=s.bU.set i.toNat v}) ⟨S.g1.fn F S.g5,S.g2.fn F S.g5,S.g3.fn F S.g5,S.g4.fx F (λq h j=>by have:=(S.p4 q h).2;have:=(S.p5 q j).2;omega),g,S.g6.fn F S.g5,S.p1,S.p2,S.p3,S.p4,S.p5,S.p6⟩ (by simpa[sz5] using c) ⟨_,e,rfl⟩)
def a5T(B:Bg Y x b l a0 v4 v8 a1 a2 a3 a4 a5 a6){i:Int}(g:aF 3 i){j:Nat}{v:AV}(G:(j=0/\∃u:Int,v=iv u)\/(j=1/\∃(u:Int) (t o:Bool),v= .l [[iv u]] t o))(A:∀y,Bg Y y b l a0 v4 v8 a1 a2 a3 a4 a5 a6->KS y):rV (cz 2 x a1 (iv i)) λp=>rV (iQ j x p) λH=>sV (aK 1 x H v) KS:=by obtain⟨s,S,a,m⟩:=B.ex;have k:L s.bm.ak=3:=a.1;obtain⟨t,E,D,C,r,w,z⟩:∃t:cg,(cg.c (gd s.bm.ak i.toNat)).set j (nrm (eR x v))=t.c/\L t.bk<=1/\j<2/\eY (nrm (eR x v))=V [nrm (eR x v)]/\eN (nrm (eR x v))=U/\eB v=[]:=(by rcases G with⟨rfl,u,rfl⟩|⟨rfl,u,t,o,rfl⟩;refine⟨⟨u,(gd s.bm.ak i.toNat).bk⟩,rfl,a.2.2.2.2.2.2.1 (gd s.bm.ak i.toNat) (dB ?_),by decide,rfl,rfl,rfl⟩;have:=g.1;have:=g.2;omega;exact⟨⟨(gd s.bm.ak i.toNat).pw,[u]⟩,rfl,by simp,by decide,rfl,rfl,rfl⟩);refine a7V S.g1 (λ_=>rfl) (by rw[k];exact g) C r w z E λ_ _ y F n=>A y (B.wr F (λq e=>⟨(S.p1 q e).1, .inl (S.p1 q e).2⟩) (aNO S.g1) (s:={s with bm:={s.bm with ak:=s.bm.ak.set i.toNat t}}) ⟨n,S.g2.fn F S.g1,S.g3.fn F S.g1,S.g4.fn F S.g1,S.g5.fn F S.g1,S.g6.fn F S.g1,S.p1,S.p2,S.p3,S.p4,S.p5,S.p6⟩ ⟨by simpa using k,a.2.1,a.2.2.1,a.2.2.2.1,a.2.2.2.2.1,a.2.2.2.2.2.1,λq e=>?_,a.2.2.2.2.2.2.2⟩ ⟨_,m,rfl⟩);rcases CC e with h|rfl;exact a.2.2.2.2.2.2.1 q h;exact D
def bfp{e:TypeId}{z:Nat}{aa:List (List AV)}{r:List AV}{q:Id}{i:Nat}{cs:List AV}(c:box x q=V ⟨e,z,U,I,aa⟩)(g:aa[i]?=V r)(o:L r=z)(k:L cs=z)(m:cs.all eN=U)(n:nrm (eR x (.a cs))= .a cs)(hI:eB (.a cs)=[])(j:∀Y',Fx x Y' [q]->box Y' q=V ⟨e,z,U,I,aa.set i cs⟩->KS Y'):sV (aK z x (.p q i 0) (.a cs)) KS:=by have h:aK z x (.p q i 0) (.a cs)=V (wr x q ⟨e,z,U,I,aa.set i cs⟩):=(by simp only[aK,aBG,c,eE,aNV,hI,kills,List.foldl_nil,n,pW,eY,g];rw[bX ⟨k.symm,by omega,λ_=>m⟩];simp only[CE,dW,aj];rw[List.drop_of_length_le (by omega),cL]);rw[h];exact j _ (wc c) (lO c)
def baC(B:Bg Y x b l a0 v4 v8 a1 a2 a3 a4 a5 a6){i st:Int}(j:aF 4 i)(w:∀y,Bg Y y b l a0 v4 v8 a1 a2 a3 a4 a5 a6->KS y):rV (cz 3 x a3 (iv i)) λp=>sV (aK 3 x p (.a [iv st,iv 0,bv I])) KS:=by obtain⟨s,S,t,v⟩:=B.ex;have A:L s.bm.ay=4:=t.2.2.1;have g:i.toNat<L s.bm.ay:=(by have:=j.1;have:=j.2;omega);refine ixG S.g3 (by rw[bJ,A];exact j) λq m o z=>?_;refine bfp z (r:=bF.c (gd s.bm.ay i.toNat)) (by rw[xe (by simpa using g),ve,eC g,bT g];rfl) rfl rfl rfl rfl rfl λy F n=>?_;have e:Fx x y (aA a3):=F.mono λC h=> .inl (by rw[o];simpa[aA] using h);have k:(s.bm.ay.map bF.c++m).set i.toNat [iv st,iv 0,bv I]=(s.bm.ay.set i.toNat ⟨st,0,I⟩).map bF.c++m:=(by rw[List.set_append_left _ _ (by simpa using g),vB];rfl);rw[k] at n;exact w y (B.wr e (λq h=>⟨(S.p3 q h).1, .inl (S.p3 q h).2⟩) (aNO S.g3) (s:={s with bm:={s.bm with ay:=s.bm.ay.set i.toNat ⟨st,0,I⟩}}) ⟨S.g1.fn e S.g3,S.g2.fn e S.g3, .inr ⟨q,m,by rw[o];simp,n⟩,S.g4.fn e S.g3,S.g5.fn e S.g3,S.g6.fn e S.g3,S.p1,S.p2,S.p3,S.p4,S.p5,S.p6⟩ (by simpa[sz5] using t) ⟨_,v,rfl⟩)
end
section
variable{Y x y:ae}{b:Id}{l:List Int}{a0 v4 v8 d:Nat}{a1 a2 a3 a4 a5 a6:AV}{K:be}{KS:ae->Prop}
def bat(B:Bg Y x b l a0 v4 v8 a1 a2 a3 a4 a5 a6){i:Int}{f:Bool}(m:aF 4 i){c:AV->be}(k:∀p a y,Bg Y y b l a0 v4 v8 a1 a2 a3 a4 a5 a6->c p a y):rV (cz 3 x a3 (iv i)) λp=>rV (iQ 2 x p) λa=>sV (aK 1 x a (bv f)) (c p a):=by obtain⟨s,S,g,h⟩:=B.ex;have n:L s.bm.ay=4:=g.2.2.1;refine a7V S.g3 (λ_=>rfl) (by rw[n];exact m) (by decide) rfl rfl rfl (t:={gd s.bm.ay i.toNat with atomic:=f}) rfl λp a y F j=>k p a y (B.wr F (λq e=>⟨(S.p3 q e).1, .inl (S.p3 q e).2⟩) (aNO S.g3) (s:={s with bm:={s.bm with ay:=s.bm.ay.set i.toNat {gd s.bm.ay i.toNat with atomic:=f}}}) ⟨S.g1.fn F S.g3,S.g2.fn F S.g3,j,S.g4.fn F S.g3,S.g5.fn F S.g3,S.g6.fn F S.g3,S.p1,S.p2,S.p3,S.p4,S.p5,S.p6⟩ (by simpa[sz5] using g) ⟨_,h,rfl⟩)
def bax(B:Bg Y x b l a0 v4 v8 a1 a2 a3 a4 a5 a6){i:Int}{f:Bool}(g:aF 1 i)(t:∀y,Bg Y y b l a0 v4 v8 a1 a2 a3 a4 a5 a6->KS y):rV (cz 1 x a2 (iv i)) λp=>sV (aK 1 x p (bv f)) KS:=by obtain⟨s,S,n,o⟩:=B.ex;have w:L s.bm.done=1:=n.2.1;have c:i.toNat<L s.bm.done:=(by have:=g.1;have:=g.2;omega);refine ixG S.g2 (by rw[bJ,w];exact g) λq m k v=>?_;refine aQz (x:=bv f) (r:=cb (gd s.bm.done i.toNat)) v (by rw[xe (by simpa using c),ve,eC c,bT c];rfl) (by simp[cb]) rfl rfl rfl λy F j=>?_;have a:Fx x y (aA a2):=F.mono λz e=> .inl (by rw[k];simpa[aA] using e);have h:(s.bm.done.map cb++m).set i.toNat ((cb (gd s.bm.done i.toNat)).set 0 (nrm (eR x (bv f))))=(s.bm.done.set i.toNat f).map cb++m:=(by rw[List.set_append_left _ _ (by simpa using c),vB];rfl);rw[h] at j;exact t y (B.wr a (λq e=>⟨(S.p2 q e).1, .inl (S.p2 q e).2⟩) (aNO S.g2) (s:={s with bm:={s.bm with done:=s.bm.done.set i.toNat f}}) ⟨S.g1.fn a S.g2, .inr ⟨q,m,by rw[k];simp,j⟩,S.g3.fn a S.g2,S.g4.fn a S.g2,S.g5.fn a S.g2,S.g6.fn a S.g2,S.p1,S.p2,S.p3,S.p4,S.p5,S.p6⟩ (by simpa[sz5] using n) ⟨_,o,rfl⟩)
def baD(B:Bg Y x b l a0 v4 v8 a1 a2 a3 a4 a5 a6){t:Int}(k:∀y,Bg Y y b l a0 v4 v8 a1 a2 a3 a4 a5 a6->KS y):sV (aK 1 x (.p (5,v8) 0 1) (iv t)) KS:=by obtain⟨s,S,n,i⟩:=B.ex;obtain⟨h,T,m⟩:=B.tp;have c:=B.pb;refine A0 i rfl (by simp) λy F j=>k y ⟨⟨{s with bm:={s.bm with tx:=t}},(by have a:=S.keep F (by simp);exact⟨a.g1,a.g2,a.g3,a.g4,a.g5,a.g6,a.p1,a.p2,a.p3,a.p4,a.p5,a.p6⟩),n,j⟩,F.kq B.b4,⟨h,T.fx F (λe=>by simp at e;subst e;simp at c),m⟩,B.kx.fx F (λq g=> .inr (by simp at g;subst g;exact B.no.2)),c,B.no⟩
def baB(B:Bg Y x b l a0 v4 v8 a1 a2 a3 a4 a5 a6):∃st:Nat->Int,∀{i:Int} {K:d7},aF 4 i->K (iv (st i.toNat))->rV (cz 3 x a3 (iv i)) λp=>rV (iQ 0 x p) λr=>rV (kb J x r) K:=by obtain⟨s,S,n,t⟩:=B.ex;have o:L s.bm.ay=4:=n.2.2.1;refine⟨λk=>(gd s.bm.ay k).cQ,λ{i K} a h=>?_⟩;have e:i.toNat<L s.bm.ay:=(by have:=a.1;have:=a.2;omega);refine ixG S.g3 (by rw[bJ,o];exact a) λq m v g=>?_;have j:(s.bm.ay.map bF.c++m)[i.toNat]?=V (bF.c (gd s.bm.ay i.toNat)):=(by rw[xe (by simpa using e),ve,eC e,bT e];rfl);simp only[rR,aC5,g,df,qd,j,aY,aj,ip,bF.c,C8];exact h
def aN5(B:Bg Y x b l a0 v4 v8 a1 a2 a3 a4 a5 a6){j:Nat}:iQ j x (.p (5,v8) 0 0)=V (.p (5,v8) 0 j):=by obtain⟨s,S,c,a⟩:=B.ex;rw[rR,a];simp
def aRC(B:Bg Y x b l a0 v4 v8 a1 a2 a3 a4 a5 a6):kb J x (.p (5,v8) 0 0)=V a1:=by obtain⟨s,S,c,a⟩:=B.ex;rw[aC5,a];simp[C8]
def baz(B:Bg Y x b l a0 v4 v8 a1 a2 a3 a4 a5 a6):kb J x (.p (5,v8) 0 2)=V a2:=by obtain⟨s,S,c,a⟩:=B.ex;rw[aC5,a];simp[C8]
def aS0(B:Bg Y x b l a0 v4 v8 a1 a2 a3 a4 a5 a6):kb J x (.p (5,v8) 0 3)=V a3:=by obtain⟨s,S,c,a⟩:=B.ex;rw[aC5,a];simp[C8]
def a5U(B:Bg Y x b l a0 v4 v8 a1 a2 a3 a4 a5 a6):kb J x (.p (5,v8) 0 4)=V a4:=by obtain⟨s,S,c,a⟩:=B.ex;rw[aC5,a];simp[C8]
def baA(B:Bg Y x b l a0 v4 v8 a1 a2 a3 a4 a5 a6):kb J x (.p (5,v8) 0 5)=V a5:=by obtain⟨s,S,c,a⟩:=B.ex;rw[aC5,a];simp[C8]
def a5V(B:Bg Y x b l a0 v4 v8 a1 a2 a3 a4 a5 a6):kb J x (.p (5,v8) 0 6)=V a6:=by obtain⟨s,S,c,a⟩:=B.ex;rw[aC5,a];simp[C8]
def a5W(B:Bg Y x b l a0 v4 v8 a1 a2 a3 a4 a5 a6):∃t:Int,kb (V 7) x (.p (5,v8) 0 0)=V (.a [a1,iv t,a2,a3,a4,a5,a6]):=by obtain⟨s,S,e,c⟩:=B.ex;exact⟨s.bm.tx,by rw[aC5,c];rfl⟩
def aV3(B:Bg Y x b l a0 v4 v8 a1 a2 a3 a4 a5 a6):fS x a1=V (iv (3:Nat))/\fS x a4=V (iv (5:Nat))/\fS x a6=V (iv (4:Nat)):=by obtain⟨s,S,a,c⟩:=B.ex;refine⟨?_,?_,?_⟩;rw[S.g1.ln,bJ,a.1];rw[S.g4.ln,bJ,a.2.2.2.1];rw[S.g6.ln,bJ,a.2.2.2.2.2.1]
end
def baP{Y:ae}:aX bH 9 Y [(0,iv 2),(1,iv 2),(2,iv 2),(3,iv 2),(4,iv 0),(5,iv 1),(6,iv 3),(7,iv 4),(8,iv 5)]=V (.l ([2,2,2,2,0,1,3,4,5].map ci) U U,Y):=by kernel_rfl
section
attribute[local irreducible] aX
def bdb{Y:ae}{b:Id}{l:List Int}{a:Nat}(n:L Y=4096)(hb:b.1=14\/b.1=15\/b.1=16)(T:Tp Y b l a):∃r Y1,(∃(s:bW) (G:Nat),r= .a s.c/\sz5 s/\Tp Y1 b l G/\a<=G/\Kx [14,15,16] Y Y1)/\cZ aS GG 27 [.p b 0 0, .a dE.c] Y r Y1:=by generalize hQ:(λ(r:AV) (y:ae)=>∃(s:bW) (G:Nat),aOo y r= .a s.c/\sz5 s/\Tp (kills y (aNW r)) b l G/\a<=G/\Kx [14,15,16] Y (kills y (aNW r)))=Qq;refine aQR (R:=Qq) ?_ (λr y h=>by rw[<-hQ] at h;exact h);refine bhw n rfl λs2 v3 K2 bC nf b3=>?_;have F2:Fx Y s2 []:=K2.fx [];have aV:=F2.len.trans n;simp only[aSH];refine so aV λv4 s4 F4 N4 b4=>?_;have W:=F2.trans F4;have an:=W.len.trans n;have c3:=F4.kq b3;have ba:aN (V 6) dE.c=V (.a dE.c):=rfl;simp only[a4T,u0,u1,c3,ba,ip,↓uL];refine jH rfl (aXI (w:=dE) an (by decide) (by decide) (by decide) (by decide)) ?_;rintro _ s7 ⟨a1,a2,a3,a4,a5,a6,rfl,S,F7⟩;refine⟨F7.len,?_⟩;have aW:=F7.len.trans an;simp only[a4R];refine so aW λv8 s9 F9 N8 b8=>?_;refine qr b8 rfl rfl λbb P c8=>?_;have al:Fx s4 s9 []:=F7.trans F9;have ak:Fx Y s9 []:=W.trans al;have n8:∀z,box Y (5,v8)≠V z:=(N8.old (W.trans F7)).no;have n4:∀z,box Y (4,v4)≠V z:=(N4.old F2).no;have B0:Bg Y bb b l a v4 v8 a1 a2 a3 a4 a5 a6:=⟨⟨aH6 dE,((S.keep F9 (by simp)).keep P (by simp)).old W,⟨rfl,rfl,rfl,rfl,rfl,rfl,by decide,by decide⟩,c8⟩,P.kq (al.kq b4),⟨a,(T.fx ak (by simp)).fx P (λe=>by simp at e;subst e;simp at hb),dA _⟩,(ak.kx (by simp)).fx P (λq O=> .inr (by simp at O;subst O;exact n8)),hb,n4,n8⟩;have br:=B0.le n;have aR:∀{x:ae},Bg Y x b l a v4 v8 a1 a2 a3 a4 a5 a6->rV (kb (V 7) x (.p (5,v8) 0 0)) λaE=>sV (aK 7 x (.p (4,v4) 0 0) aE) λaf=>rV (kb (V 7) af (.p (4,v4) 0 0)) λaJ=>fe Qq af [aJ]:=λ{x} B=>(by obtain⟨s,S,hz,b8⟩:=B.ex;obtain⟨G,T',ha⟩:=B.tp;have Z:=@r7A;simp only[u1,b8,Z,aY,ip];refine qr B.b4 rfl rfl λy F aQ=>?_;simp only[u1,aQ,Z,aY];have S':=S.keep F (by simp);show Qq (.a [a1,iv s.bm.tx,a2,a3,a4,a5,a6]) y;rw[<-hQ];refine⟨s,G,?_,hz,(T'.fx F (λe=>by simp at e;subst e;simp at hb)).fx (aOp _ _) (λe=>(S'.ids b e).1.no _ T.bx),ha,(B.kx.fx F (λq O=> .inr (by simp at O;subst O;exact n4))).fx (aOp _ _) λq O=> .inr (S'.ids q O).1.no⟩;show AV.a (List.map gK (List.map (gi y) _))=_;rw[vA];exact aNJ AV.a S'.lz);have i4:∀{k:Nat},k<4->aF 4 (k:Int):=λh=>⟨by omega,by omega⟩;have aB:∀{x:ae},Bg Y x b l a v4 v8 a1 a2 a3 a4 a5 a6->lV [iv 0] x (aSK (iv (5:Nat)) (.p (5,v8) 0 0) (.p b 0 0) (.p (4,v4) 0 0) Qq):=λ{x} B=>(by refine yV 5 (λ_ _ y=>Bg Y y b l a v4 v8 a1 a2 a3 a4 a5 a6) B ?_;rintro k _ x N B;rcases t:Q ((k:Int)<((5:Nat):Int)) with _|_;simp only[aSK,aI,au,av4,aY,t,↓iB,↓uL];exact aR B;have o:k<5:=RF.1 (nt t);simp only[aSK,aI,au,av4,aY,t,↓iC,aN5 B,a5U B,↓uL];refine aPS B n λu y X H j=>?_;simp only[a4L,au,↓uL];refine bav j ⟨by omega,by omega⟩ λp y2 m=>?_;simp only[a4K,↓uL];refine dT (by simp[eL,lb,lbV,cD,dC,dK]) ?_;simp only[au,cS,aY,↓uL];exact yU o m);have ac:∀{x:ae},Bg Y x b l a v4 v8 a1 a2 a3 a4 a5 a6->aVK (.p (5,v8) 0 0) (.p b 0 0) (.p (4,v4) 0 0) Qq [] x:=λ{x} B=>(by simp only[aVK,aI,aN5 B,a5U B,(aV3 B).2.1,aY,↓uL];exact aB B);have ab:∀{x:ae},Bg Y x b l a v4 v8 a1 a2 a3 a4 a5 a6->aVJ (.p (5,v8) 0 0) (.p b 0 0) (.p (4,v4) 0 0) Qq [] x:=λ{x} B=>(by simp only[aVJ,aI,di,a42];refine aPS B n λu y X H j=>?_;rcases v:Q (u=2) with _|_;simp only[aVG,iM,aY,v,↓iB,↓uL];exact ac j;simp only[aVG,iM,aY,v,↓iC,aN5 j,baz j,↓uL];refine bax j ⟨by omega,by omega⟩ λy2 m=>?_;simp only[a4O,aN5 m,baA m,aY,↓uL];refine aPS m n λu2 y3 h2 h3 E=>?_;simp only[a4N,↓uL];refine bay E ⟨by omega,by omega⟩ λp y4 B5=>?_;simp only[a4M];refine dT (by simp[eL,lb,lbV,cD,dC,dK]) ?_;exact ac B5);have az:∀{x:ae} {k:Nat} {g:aG},k<3->(∀y,Bg Y y b l a v4 v8 a1 a2 a3 a4 a5 a6->g [] y)->Bg Y x b l a v4 v8 a1 a2 a3 a4 a5 a6->aVM x (.p (5,v8) 0 0) (.p b 0 0) [iv k] g:=λ{x k g} N A B=>(by obtain⟨t7,Z⟩:=a5W B;simp only[aVM,Z,aY,↓uL];refine a5S B n λu y hu j=>?_;have i3:aF 3 (k:Int):=⟨by omega,by omega⟩;rcases qu:Q (u<0) with _|_;have ap:aF 4 u:=(by simp only[nl] at qu;rcases hu with h|h;omega;exact h);have own:∀{z:ae},Bg Y z b l a v4 v8 a1 a2 a3 a4 a5 a6->rV (cz 2 z a1 (iv k)) λp=>rV (iQ 0 z p) λp'=>sV (aK 1 z p' (iv u)) λaD=>g [] aD:=λ{z} Bz=>a5T Bz i3 (.inl ⟨rfl,u,rfl⟩) λy B=>A y B;rcases C:Q ((k:Int)=0) with _|_;rcases v:Q ((k:Int)=2) with _|_;simp only[aRw,au,u0,av4,iM,aOq,qu,C,v,↓jN,Aa,aN5 j,aRC j,bt,↓uL];exact own j;simp only[aRw,au,u0,av4,iM,aPh,qu,v,↓jA,ya,bt,↓uL];refine aPS (d:=85) j n λu2 z X H m=>?_;rcases D:Q (u2=1) with _|_;simp only[u0,iM,D,C,↓jN,Aa,aN5 m,aRC m,bt,↓uL];exact own m;simp only[au,u0,iM,D,C,aS1,↓jN,Aa,aN5 m,aRC m,a4Y,bt,↓uL];exact a5T m i3 (.inr ⟨rfl,u,_,_,rfl⟩) λy B=>A y B;have v:Q ((k:Int)=2)=I:=aPk (by have:=nt C;omega);obtain⟨st,ao⟩:=baB j;simp only[aRw,au,u0,av4,iM,aOq,qu,C,v,↓jA,↓jN,ya,Aa,aN5 j,aRC j,aS0 j,bt,↓uL];refine ao ap ?_;rcases D:Q (st u.toNat=3) with _|_;simp only[u0,iM,D,↓jA,Aa,aN5 j,aS0 j,↓uL];refine ao ap ?_;rcases q4:Q (st u.toNat=4) with _|_;simp only[u0,iM,q4,bt,↓uL];exact own j;simp only[u0,iM,q4,bt,↓uL];exact A _ j;simp only[u0,iM,D,↓jN,ya,bt,↓uL];exact A _ j;simp only[aRw,au,u0,av4,iM,qu,bt,↓uL];exact A _ j);have aA:∀{x:ae},Bg Y x b l a v4 v8 a1 a2 a3 a4 a5 a6->lV [iv 0] x (aSJ (iv (3:Nat)) (.p (5,v8) 0 0) (.p b 0 0) (.p (4,v4) 0 0) Qq):=λ{x} B=>(by refine yV 3 (λ_ _ y=>Bg Y y b l a v4 v8 a1 a2 a3 a4 a5 a6) B ?_;rintro k _ x N B;rcases t:Q ((k:Int)<((3:Nat):Int)) with _|_;simp only[aSJ,aI,au,av4,aY,t,↓iB,di,a41,↓uL];refine aPS B n λu y X H j=>?_;rcases v:Q (u=2) with _|_;simp only[aVH,iM,aY,v,↓iB,↓uL];exact ab j;obtain⟨t7,Z⟩:=a5W j;simp only[aVH,iM,aY,v,↓iC,Z,↓uL];refine a5S j n λu2 y2 _ m=>?_;simp only[a4P,aN5 m,aY,↓uL];exact baD m λy3 E=>ab E;have o:k<3:=RF.1 (nt t);simp only[aSJ,aI,au,av4,aY,t,↓iC,di,↓uL];refine az o (λy B=>?_) B;simp only[a4Z,aI,au,cS,aY,↓uL];exact yU o B);have M:∀{x:ae} {k:Nat} {g:aG} {st:Int},k<4->(∀y,Bg Y y b l a v4 v8 a1 a2 a3 a4 a5 a6->g [] y)->Bg Y x b l a v4 v8 a1 a2 a3 a4 a5 a6->aVI x (.p (5,v8) 0 0) [iv k] (.p b 0 0) g [iv st]:=λ{x k g st} N A B=>(by have aU:bM aNB aM7 [(0,iv st)]=V (.a [iv st,iv 0,bv I]):=rfl;simp only[aVI,aI,au,aN5 B,aS0 B,aU,aY,↓uL];refine baC B (i4 N) λy j=>?_;rcases C:Q (st≠0) with _|_;simp only[aSI,au,u0,av6,C,↓jN,Aa,bt,↓uL];exact A _ j;rcases t:Q (st≠1) with _|_;simp only[aSI,au,u0,av6,C,t,↓jA,bt,↓uL];exact A _ j;simp only[aSI,au,u0,av6,C,t,aN5 j,a5V j,↓jA,bt,↓uL];refine aPS j n λu y2 X H m=>?_;simp only[a4V,au,cS,aY,↓uL];have am:=H (by decide);refine baw m (i4 N) (by rw[eM (by omega) (by omega)];omega) λp y3 E=>?_;simp only[a4U,↓uL];refine dT (by simp[eL,lb,lbV,cD,dC,dK]) ?_;simp only[aN5 E,aS0 E,aY,↓uL];refine aPS E n λu2 y4 h2 h3 B5=>?_;simp only[a4S,au,iM,aY,↓uL];refine bat B5 (i4 N) λp p' y5 B6=>?_;simp only[a4J];refine dT (by simp[eL,lb,lbV,cD,dC,dK]) ?_;exact A _ B6);simp only[a4Q,aN5 B0,a5V B0,(aV3 B0).2.2,aY,↓uL];refine yV 4 (λ_ _ y=>Bg Y y b l a v4 v8 a1 a2 a3 a4 a5 a6) B0 ?_;rintro k _ x N B;rcases t:Q ((k:Int)<((4:Nat):Int)) with _|_;simp only[aVN,aI,au,av4,aY,t,↓iB,aN5 B,aRC B,(aV3 B).1,↓uL];exact aA B;have o:k<4:=RF.1 (nt t);simp only[aVN,aI,au,av4,aY,t,↓iC,di,a43,baP,bQ,a4X,↓uL];refine aPS B n λu y X H j=>?_;have am:=H (by decide);simp only[a4W,tf,ci,qM,aY,f8,a40,au,↓uL];refine⟨⟨X,by simpa using am⟩,?_⟩;generalize gd ([2,2,2,2,0,1,3,4,5]:List Int) u.toNat=st;have A:∀y,Bg Y y b l a v4 v8 a1 a2 a3 a4 a5 a6->aVL [iv k] (yI (λ(_:Unit) i=>[iv i]) 4 (λ_ _ y=>Bg Y y b l a v4 v8 a1 a2 a3 a4 a5 a6)) (gM 0 4) x [] y:=λy B=>(by simp only[aVL,aI,au,cS,aY,↓uL];exact yU o B);rcases v:Q ((k:Int)=0) with _|_;simp only[u0,iM,v,↓jN,Aa,bt,↓uL];exact M o A j;rcases D:Q (st=0) with _|_;simp only[u0,iM,v,D,↓jA,ya,bt,↓uL];exact M o A j;simp only[u0,iM,v,D,↓jA,ya,bt,↓uL];exact M o A j
end
def bfA:dO:=aR3
def bfy:eJ bfA:=aPL
def bcy:=@aPg
section
attribute[local irreducible] aX
def a91:=bi 23 [(5,([23],[0,3,4,6,7,11,12,22])),(8,([],[0,3,4,6,7,11,12,22,23])),(12,([11],[0,3,6,7,12])),(19,([],[0,3,6,7,11,12,14,15]))]
def aVV a(e:aG)(b:bu) f(g:eQ) c:=∀_:Rg,aV (gt a 0) (iv 1) λd=>e [d] c/\b [d] c<b a f
def a8C g b(c:aG) e a:=ao 1 a g (gt b 0) λf=>sV (aK 1 a f e) λd=>c [] d
def a5r e a j b y x(f:aG):=aT e 6 a j λk=>fm e (gt b 0) λl=>az e (ao 1 a k l) λm=>az e (aM a m) λn=>az e (aO .gtr n (iv 1)) λo=>aD e o (bv I) λd=>fm d y λp=>gE (gP U d) (λg=>cB 66 [p,(iv 3)] a 37 λq h=>g q h) a λr c=>az d (bf r (iv 2)) λs=>aD d s (bv I) λt=>ah t (ao 1 c x (gt b 0) λu=>aM c u λv=>eV (aX bH 1 c [(0,(iv 1))]) λw i=>eV (j5 3 fB 8 i 47 v w) (a8C x b f)) (f [] c)
def a5l a j(h:aG)(e:bu) g i d b:=aw 7 b a λf=>sV (aK 7 b j f) λc=>h [d] c/\e [d] c<e g i
def aSV d c a k h i j(l:eQ) b:=∀_:Rg,aw 7 b d λf=>eV (aX aTN 1 b [(0,f)]) λg e=>eV (j5 64 y8 88 e 108 (gt c 0) g) (a5l a k h i c j)
def a5m a d f t g h s j l k m n o i p e r q(b:aG) c:=dH [km,(bo a),(bo d),km,(bo a),(bo f),(lb U [t,g] []),(bo h),(bo s),(bo j),(bo a),(bo l),(lb U [k,m] []),(bo n),(lb I [o] []),(lb I [i,p] [103]),(lb U [t,e] []),(lb I [r,q] [])] [(0,14),(1,14),(2,14),(3,14),(4,14),(5,14),(6,14),(7,14),(0,15),(1,15),(2,15)] (b [] c)
def a5n t b f g h i j s l n m o p q k r e c a:=ao 1 a t b λd=>sV (aK 1 a d c) (a5m f g h t i j s l n m o p q k r b d c e)
def aSW a b x q(d:aG):=ab 1 a b λs=>bf s (iv 3) λc=>bn c 1 a b λt=>aC c (bf t (iv 23)) λu=>aD c (bv U) u λv=>ah v (aB 0 a b λe=>aM a e λw=>aB 0 a b λf=>aM a f λg=>ao 1 a x g λh=>aM a h λi=>aB 6 a q λj=>aM a j λk=>aB 0 a b λl=>aM a l λm=>ao 1 a k m λn=>aM a n λo=>eV (aX bH 1 a [(0,o)]) λp r=>eV (j5 3 fB 8 r 103 i p) (a5n x w b e f g h q j l k m n o i p d)) (d [] a)
def aVU j(f:aG) a(e:bu) g d b h k c:=cf j λi=>ah i (f [(gt a 0)] c/\e [(gt a 0)] c<e a g) (jV 19 (aSV d a b h f e g) (aSW c d k h))
def a5o p d c h g i j q b:=aw 6 b p λk=>aw 7 b d λl=>aw 7 b c λm=>fV Cd b [k,l,m] λe=>rV (eO 0 e) λn=>rV (eO 1 e) λo=>eV (bs 40 BF b 15) λa f=>sV (aK 7 f a n) (aVU o h g i j c a d q)
def a5p j h c b d e k i f:=eV (bs 64 y8 f 14) λa g=>sV (aK 7 g a i) (a5o j h a c b d e k)
def aRy v f d e p R g h c a:=∀_:Rg,aJ a (gt c 0) λi=>aU i v λb=>fm b f λj=>az b (rV (cO a j)) λk=>aT b 1 a k λl=>fm b f λm=>az b (rV (cO a m)) λn=>aT b 0 a n λo=>az b (aJ a o) λq=>az b (aU l q) λr=>aD b r (bv I) λs=>ah s (aw 7 a d λt=>aw 6 a e λu=>cB 68 [f,t,u,p] a 70 (a5p e d g c h a p)) (fe R a [(gt c 0)])
def aVW g m c e i k j R d f a b:=∀_:Rg,aU (gt a 0) g λh=>ah h (jV 8 (aVV a d f b) (a5r m b c a e i)) (lV [(.l [] U U)] b (aRy k e c j i R))
def a5q h b f g e R d a:=aJ a d λc=>lV [(iv 0)] a (aVW c h b f d g e R)
def aVT e c a f g b R:=ab 4 b a λh=>aJ b h λd=>eV (qO 38 aYp 24 b 20 d d) (a5q g c e f a R)
def bf8{a b c d e:AV}{s0:ae}{R:be}(h:eV (qm 40 7 s0 6 b) λf i=>eV (qm 31 6 i 7 c) λg j=>aVT a f g d e j R):EB 28 [a,b,c,d,e] s0 R:=zB a91 bfy Tryz.func28 h
def bhB{j:AV}{e:List AV}{f:List AV}{l:AV}{m:AV}{s0:ae}{R:be}(n:L s0=4096)(l1:L e=7)(u:L f=6)(h:∀(b:ae) (c d:Nat),Kp s0 b->(∀k,k≠6->k≠7->aZ b k=aZ s0 k)->(∀x,box s0 (6,c)≠V x)->(∀x,box s0 (7,d)≠V x)->box b (6,c)=V ⟨40,7,U,U,[e]⟩->box b (7,d)=V ⟨31,6,U,U,[f]⟩->aVT j (.p (6,c) 0 0) (.p (7,d) 0 0) l m b R):EB 28 [j, .a e, .a f,l,m] s0 R:=by refine bf8 ?_;refine iN rfl l1 (by decide) (by decide) n λy c i g0 v q=>?_;refine iN rfl u (by decide) (by decide) (i.len.trans n) λb d o g1 w r=>?_;exact h b c d (Kp.trans i o) (λk s t=>(g1 k t).trans (g0 k s)) (λx g=>v x ((Kp.refl _).keep _ _ g)) (λx g=>w x (i.keep _ _ g)) (o.keep _ _ q) r
end
def aNI{Y:ae}{b:Id}{e:TypeId}{z j:Nat}{o v:Bool}{r:List (List AV)}(h:box Y b=V ⟨e,z,o,v,r⟩):iQ j Y (.p b 0 0)=V (.p b 0 j):=by rw[rR,h];simp
def aXM{ds:List AV}{s:bW}(h:Lk ds s.c):∃x0 i x2 j t4 o4 e a g d,ds=[x0,i,x2,j, .l (s.cells.map ci) t4 o4, .l (s.bU.map ci) e a, .l (s.count.map ci) g d]:=by have m:=oC h;obtain⟨h,_⟩:=h;rcases ds with _|⟨x0,_|⟨i,_|⟨x2,_|⟨j,_|⟨n,_|⟨x5,_|⟨o,_|⟨p,ds⟩⟩⟩⟩⟩⟩⟩⟩<;>simp at m;simp only[ji,mU,bW.c,kO] at h;obtain⟨t4,o4,rfl⟩:=aRH h.2.2.2.2.1;obtain⟨e,a,rfl⟩:=aRH h.2.2.2.2.2.1;obtain⟨g,d,rfl⟩:=aRH h.2.2.2.2.2.2.1;exact⟨_,_,_,_,_,_,_,_,_,_,rfl⟩
theorem Rds.mono{Y:ae}{B:Id}{f:Nat->AV}{m n:Nat}(O:Rds Y B f m)(h:m<=n):Rds Y B f n:=⟨O.bx,λi c=>by obtain⟨d,e,a⟩:=O.gr i c;exact⟨d,by omega,a⟩,O.dj,O.pl⟩
def a62{Y:ae}{B:Id}{f:Nat->AV}{m d:Nat}{i v:Int}{t o:Bool}{K:AV->be}(O:Rds Y B f m)(hi:0<=i/\i<4)(T:d=47\/d=103)(hl:L Y=4096)(hm:m<=1000)(hB:B.1=20)(hK:∀a Y' R,Rds Y' B R (m+1)->Fx Y Y' (B::aA (f i.toNat))->(∀j,j<4->∀q∈aA (R j),q∈aA (f j)\/bK Y q)->K a (.p B i.toNat 0) Y'):eV (j5 3 fB 8 Y d (f i.toNat) (.l [[iv v]] t o)) λa w=>rV (cz 1 w (.m B 4) (iv i)) λp=>sV (aK 1 w p a) (K a p):=by have r:i.toNat<4:=(by omega);obtain⟨ns,ak,g⟩:=O.gr _ r;refine qs g rfl (by decide) (by rw[hl];rcases T with e|e<;>rw[e]<;>decide) pU (by simp) (by simp) (by simp;omega) λa w H E u=>?_;have C:∀j,j<4->B∉aA (f j):=λj n h=>(by rcases O.pl j n B h with e|e<;>omega);have N:=E.keep _ _ (C _ r) O.bx;have W:cz 1 w (.m B 4) (iv i)=V (.p B i.toNat 0):=(by simp[cz,hi.1,N,r]);rw[W];have S:B∉aA a:=λh=>(u _ h).1.no _ O.bx;refine Bp N (uU r) (ms H) rfl (by simp) λM F b2=>?_;have P:box M B=V ⟨38,1,U,U,io 4 λj=>[if j=i.toNat then a else f j]⟩:=(by rw[b2,Bl];congr 2;refine yC λj n=>?_;by_cases h:j=i.toNat<;>simp[h]);have D:∀j,j<4->∀q∈aA (f j),q∉aA a:=λj n q c s=>(by obtain⟨_,_,G⟩:=O.gr j n;obtain⟨z,hz⟩:=aTi G q c;exact(u q s).1.no _ hz);refine hK a M _ ⟨P,λj n=>?_,λj k n X Z q c=>?_,λj n q c=>?_⟩ ((E.trans F).mono (by simp only[dF,eW];rintro q (h|h|h);exact .inl (.inr h);exact .inl (.inl h);cases h)) λj n q c=>?_;by_cases h:j=i.toNat;subst h;simp only[vm];refine⟨ns++[v],by simp;omega,?_⟩;rw[dg];exact(H.fx F λq c e=>S (by simp at e;exact e▸c)).p;simp only[cj h];obtain⟨mj,h1,G⟩:=O.gr j n;exact⟨mj,by omega,(G.fx E λq c=>O.dj j _ n r h q c).fx F λq c e=>by simp at e;exact C j n (e▸c)⟩;by_cases h:j=i.toNat;simp only[bX h] at c;by_cases A:k=i.toNat;omega;simp only[cj A];exactλs=>D k X q s c;simp only[cj h] at c;by_cases A:k=i.toNat;simp only[bX A];exact D j n q c;simp only[cj A];exact O.dj j k n X Z q c;by_cases h:j=i.toNat;simp only[bX h] at c;rw[(u q c).2];exact T;simp only[cj h] at c;exact O.pl j n q c;by_cases h:j=i.toNat;simp only[bX h] at c;exact .inr (u q c).1;simp only[cj h] at c;exact .inl c
def bc6{n:Int}:cD (iv n)=[]:=rfl
structure PlS(Y x:ae)(b:Id)(l:List Int)(v6 v7:Nat)(B:Id)(f:Nat->AV)(k:Nat):Prop where
 b6:∃ds s,box x (6,v6)=V ⟨40,7,U,U,[ds]⟩/\Lk ds s.c/\vH k s/\L s.cells=5/\L s.bU=1/\L s.count=4
 b7:box x (7,v7)=V ⟨31,6,U,U,[dE.c]⟩
 tp:∃a',Tp x b l a'
 kx:Kx [14,15,16] Y x
 rd:Rds x B f (k+1)
 nw:∀i,i<4->∀q∈aA (f i),∀z,box Y q≠V z
 no:(∀z,box Y (6,v6)≠V z)/\∀z,box Y B≠V z
 pb:b.1=16/\B.1=20
section
variable{Y x y:ae}{b B:Id}{l:List Int}{v6 v7 k:Nat}{f:Nat->AV}
theorem PlS.fx(P:PlS Y x b l v6 v7 B f k){c:List Id}(F:Fx x y c)(h:∀q∈c,q.1≠6/\q.1≠7/\q.1≠16/\q.1≠20/\q.1≠47/\q.1≠103)(m:∀q∈c,q.1=14\/q.1=15\/∀z,box Y q≠V z):PlS Y y b l v6 v7 B f k:=by obtain⟨ds,s,i,j⟩:=P.b6;obtain⟨g,T⟩:=P.tp;have d:=P.pb;exact⟨⟨ds,s,F.keep _ _ (λe=>(h _ e).1 rfl) i,j⟩,F.keep _ _ (λe=>(h _ e).2.1 rfl) P.b7,⟨g,T.fx F λe=>(h _ e).2.2.1 d.1⟩,P.kx.fx F (λq a=>by rcases m q a with e|e|e;exact .inl (by simp[e]);exact .inl (by simp[e]);exact .inr e),P.rd.fx F (λq a=>⟨λe=>(h q a).2.2.2.1 (by rw[e];exact d.2),(h q a).2.2.2.2⟩),P.nw,P.no,d⟩
def PlS.kxx(P:PlS Y x b l v6 v7 B f k)(K:Kx [14,15,16] x y){a:Nat}(T:Tp y b l a):PlS Y y b l v6 v7 B f k:=by obtain⟨ds,s,c,d⟩:=P.b6;exact⟨⟨ds,s,K.kq c,d⟩,K.kq P.b7,⟨a,T⟩,P.kx.kx K (by simp),P.rd.kx K ⟨by rw[P.pb.2];decide,by decide,by decide⟩,P.nw,P.no,P.pb⟩
def PlS.tape(P:PlS Y x b l v6 v7 B f k)(F:Fx x y [b]){c:Nat}(T:Tp y b l c):PlS Y y b l v6 v7 B f k:=P.kxx (F.kx λq a=>by simp at a;subst a;rw[P.pb.1];decide) T
def PlS.reads(P:PlS Y x b l v6 v7 B f k){d:Nat->AV}{i:Nat}(t:i<4)(R:Rds y B d (k+2))(F:Fx x y (B::aA (f i)))(A:∀j,j<4->∀q∈aA (d j),q∈aA (f j)\/bK x q){n:Nat}(E:k+1<=n)
  (w:∃ds s,box x (6,v6)=V ⟨40,7,U,U,[ds]⟩/\Lk ds s.c/\vH n s/\L s.cells=5/\L s.bU=1/\L s.count=4):PlS Y y b l v6 v7 B d n:=by
 obtain⟨ds,s,g,r⟩:=w
 obtain⟨v,T⟩:=P.tp
 have u:=P.pb
 have pl:=P.rd.pl i t
 have o:∀{q:Id},q.1≠20->q.1≠47->q.1≠103->q∉B::aA (f i):=λ{q} g r D a=>by
  rcases eW.1 a with rfl|h
  ·exact g u.2
  ·rcases pl _ h with e|e<;>omega
 exact⟨⟨ds,s,F.keep _ _ (o (by simp) (by simp) (by simp)) g,r⟩,F.keep _ _ (o (by simp) (by simp) (by simp)) P.b7,⟨v,T.fx F (o (by omega) (by omega) (by omega))⟩,P.kx.fx F (λq a=> .inr (by
   rcases eW.1 a with rfl|h
   ·exact P.no.2
   ·exact P.nw i t q h)),R.mono (by omega),λj m q a=>by
   rcases A j m q a with h|h
   ·exact P.nw j m q h
   ·intro z C
    by_cases e:q.1∈[14,15,16]
    ·rcases R.pl j m q a with p|p<;>rw[p] at e<;>revert e<;>decide
    ·exact h.no _ (P.kx.keep _ _ e C),P.no,u⟩
end
def tpM(b:Id)(y:ae):Nat:=((box y b).map λx=>match x.aa with|[[.l aa _ _, .s (.int _ n)]]=>L aa-n.toNat|_=>0).getD 0
def aTD{Y:ae}{b:Id}{l:List Int}{a:Nat}(T:Tp Y b l a):tpM b Y=L l-a:=by simp only[tpM,T.bx];show L (l.map cu)-(a:Int).toNat=_;simp
def bfl{k:Nat}{s:bW}{e:aP}(h:vH k s)(i:k<1000)(a:C1 dE s e=U)(g:L s.cells=5)(c:L s.bU=1)(d:L s.count=4):vH (k+1) (nD dE s e)/\L (nD dE s e).cells=5/\L (nD dE s e).bU=1/\L (nD dE s e).count=4:=by refine⟨h.step (by omega),?_⟩;simp only[nD,a,asq,oc];refine⟨?_,?_,by simpa using d⟩;split<;>simpa using g;split<;>simpa using c
section
attribute[local irreducible] aX
def bdm{Y:ae}{b:Id}{l:List Int}{a:Nat}{ds:List AV}{s:bW}{n:Int}(N:L Y=4096)(hb:b.1=16)(T:Tp Y b l a)(hL:Lk ds s.c)(hS:vH 0 s)(h5:L s.cells=5)(h1:L s.bU=1)(h4:L s.count=4)(hn:n<=16):∃r Y1,(∃t:List aP,r= .l (t.map aP.c) I I/\L t<=16/\(∀e∈t,EvL e)/\Kx [14,15,16] Y Y1)/\cZ aS GG 28 [.p b 0 0, .a ds, .a dE.c,iv n,bv U] Y r Y1:=by generalize hQ:(λ(r:AV) (y:ae)=>∃t:List aP,aOo y r= .l (t.map aP.c) I I/\L t<=16/\(∀e∈t,EvL e)/\Kx [14,15,16] Y (kills y (aNW r)))=Qq;refine aQR (R:=Qq) ?_ (λr y h=>by rw[<-hQ] at h;exact h);refine bhB N (oC hL) rfl λs4 v6 v7 K4 dH cH dI S Z=>?_;have F4:Fx Y s4 []:=K4.fx [];have cy:=F4.len.trans N;have cW:aN J (List.drop 4 dE.c)=V (sl cs dE.ay):=rfl;have cB:∀{Y:ae},fS Y (sl cs dE.ay)=V (iv (4:Nat)):=rfl;simp only[aVT,u0,u1,Z,cW,cB,aj,↓uL];refine AP (by decide) (by decide) (by rw[cy];decide) (by decide) λB s9 hB NB F9 bB=>?_;have bc:=F4.trans F9;have P0:PlS Y s9 b l v6 v7 B (λ_=> .l [] U U) 0:=⟨⟨ds,s,F9.kq S,hL,hS,h5,h1,h4⟩,F9.kq Z,⟨a,T.fx bc (by simp)⟩,bc.kx (by simp),⟨by rw[bB];rfl,λi hi=>⟨[],by simp, .inl ⟨rfl,rfl⟩⟩,by simp[aA],by simp[aA]⟩,by simp[aA],⟨cH,(NB.old F4).no⟩,hb,hB⟩;have bT:∀{x:ae} {f:Nat->AV} {k:Nat},PlS Y x b l v6 v7 B f k->fS x (.m B 4)=V (iv (4:Nat)):=λ{x f k} P=>(by simp[fS,P.rd.bx]);simp only[a5q,bT P0,aY,↓uL];have bs:∀{e:aP},aN (V 7) e.c=V (.a e.c):=rfl;have bu:aN (V 6) dE.c=V (.a dE.c):=rfl;suffices hl12:∀{x:ae} {f:Nat->AV},PlS Y x b l v6 v7 B f 4->lV [.l [] U U] x (aRy (iv n) (.p b 0 0) (.p (6,v6) 0 0) (.p (7,v7) 0 0) (.m B 4) Qq) from(by refine yV 4 (λk _ y=>∃f,PlS Y y b l v6 v7 B f k) ⟨_,P0⟩ ?_;rintro k _ x hk ⟨f,P⟩;rcases O:Q ((k:Int)<((4:Nat):Int)) with _|_;simp only[aVW,aI,au,av4,aY,O,↓iB,↓uL];have cx:k=4:=bP hk (bw O);subst cx;exact hl12 P;have cD:k<4:=RF.1 (nt O);have nx:∀{y:ae} {f:Nat->AV},PlS Y y b l v6 v7 B f (k+1)->aVV [iv k] (yI (λ(_:Unit) i=>[iv i]) 4 (λk _ y=>∃f,PlS Y y b l v6 v7 B f k)) (gM 0 4) x [] y:=λ{y f} P=>(by simp only[aVV,aI,au,cS,aY,↓uL];exact yU cD ⟨_,P⟩);have up:∀{y:ae} {f:Nat->AV},PlS Y y b l v6 v7 B f k->PlS Y y b l v6 v7 B f (k+1):=λ{y f} P=>(by obtain⟨ds,s,h1,h2,G,h4⟩:=P.b6;exact⟨⟨ds,s,h1,h2,⟨G.sy.mono (by omega),G.ce,G.fu,G.co,λc hc=>by have:=G.cn c hc;omega⟩,h4⟩,P.b7,P.tp,P.kx,P.rd.mono (by omega),P.nw,P.no,P.pb⟩);obtain⟨az,s',ax,af,bl,bk,cf,cl⟩:=P.b6;obtain⟨x0,x1,x2,x3,t4,o4,t5,o5,t6,o6,rfl⟩:=aXM af;have aL:=P.kx.len.trans N;simp only[aVW,aI,au,av4,aY,O,↓iC,di,a5r,u0,u1,ax,C8,nM,ip,aj,tf,ci,qM,↓jA,ya,↓uL];refine⟨⟨by omega,by omega⟩,?_⟩;rcases q2:Q (1<gd s'.count ((k:Int)).toNat) with _|_;simp only[u0,aOq,↓jN,Aa,bt,↓uL];exact nx (up P);simp only[u0,aPh,↓jA,ya,↓uL];obtain⟨a',M⟩:=P.tp;refine aPu (d:=37) aL M λu a2 y _ _ T2 _ X=>?_;have K:=P.tape X T2;rcases q3:Q (u=2) with _|_;simp only[u0,u1,q3,bt,↓uL];exact nx (up K);simp only[u0,iM,q3,bt,↓uL];refine K.rd.rd ⟨by omega,by omega⟩ ?_;simp only[aS1,bQ];refine a62 K.rd ⟨by omega,by omega⟩ (.inl rfl) (K.kx.len.trans N) (by omega) hB λa' z f' R F hf=>?_;exact nx (K.reads (by omega) R F hf (dA _) (up K).b6));intro x f P;let j:aG:=λvs y=>∃(v:AV) (t:List aP) (f:Nat->AV),vs=[v]/\L t<=16/\(∀e∈t,EvL e)/\gm y 64 7 v (t.map aP.c)/\(∀q∈aA v,q.1=108/\∀z,box Y q≠V z)/\PlS Y y b l v6 v7 B f (4+L t);refine⟨j,λ_ y=>tpM b y,⟨_,[],f,rfl,by simp,by simp, .inl ⟨rfl,rfl⟩,by simp[aA],P⟩,?_⟩;rintro _ x ⟨v,t,f,rfl,bn,aJ,g,H,P⟩;generalize hI:j=I';obtain⟨a',M⟩:=P.tp;have aL:=P.kx.len.trans N;have aK:fS x v=V (iv (L t)):=(by rw[g.ln,bJ]);have aQ:fe Qq x [v]:=(by show Qq v x;rw[<-hQ];have ei:aNW v=aA v:=(by have:=aQX g;rcases g with⟨_,rfl⟩|⟨c,m,rfl,_⟩<;>rfl);have ef:aOo x v= .l (t.map aP.c) I I:=(by rw[<-g.ar];rcases g with⟨_,rfl⟩|⟨c,m,rfl,_⟩<;>rfl);refine⟨t,ef,bn,aJ,?_⟩;rw[ei];exact P.kx.fx (aOp _ _) λq o=> .inr (H q o).2);rcases O:Q ((L t:Int)<n) with _|_;simp only[aRy,aI,au,aK,u0,u1,O,ip,↓jN,Aa,bt,↓uL];exact aQ;rcases q2:Q ((a':Int)<(L l:Int)) with _|_;simp only[aRy,aI,au,aK,u0,u1,oo M.bx,M.bx,O,q2,C8,nM,ip,aj,↓jA,bt,↓uL];exact aQ;have dh:L t<16:=(by have:=nt O;omega);have dC:a'<L l:=RF.1 (nt q2);obtain⟨az,s',ax,af,bl,bk,cf,cl⟩:=P.b6;obtain⟨x0,x1,x2,x3,t4,o4,t5,o5,t6,o6,cv⟩:=aXM af;have cV:aN (V 7) az=V (.a az):=(by rw[cv];rfl);simp only[aRy,aI,au,aK,u0,u1,oo M.bx,M.bx,O,q2,ax,P.b7,cV,bu,C8,nM,ip,aj,↓jA,bt,↓uL];refine jH rfl (bdf aL (.inr (.inr hb)) hB M af (by have:=bl.sy.th;omega) bk (by omega) (P.rd.mono (by omega))) ?_;rintro _ y ⟨e,a2,rfl,he,ah,T2,_,de,K2⟩;refine⟨K2.len,?_⟩;have K:=P.kxx K2 T2;have cF:=K.kx.len.trans N;have g2:gm y 64 7 v (t.map aP.c):=K2.gr g λq o=>(by rw[(H q o).1];decide);simp only[a5p];refine so cF λC y1 G1 dz b9=>?_;refine qr b9 rfl rfl λy2 G2 bf=>?_;have P3:=(K.fx G1 (by simp) (by simp)).fx G2 (by simp) (by simp);have g3:=(g2.fx G1 (by simp)).fx G2 λq o h=>(by have:=(H q o).1;simp at h;subst h;simp at this);have T3:Tp y2 b l a2:=(T2.fx G1 (by simp)).fx G2 (λh=>by simp at h;subst h;simp at hb);obtain⟨aB,s3,be,W,bm,cm,cg,bj⟩:=P3.b6;obtain⟨z0,z1,z2,z3,dL,dJ,dM,dK,cX,cI,aF⟩:=aXM W;have b0:aN (V 7) aB=V (.a aB):=(by rw[aF];rfl);have b8:∀{Y:ae},dG Y (.a aB)= .a s3.c:=λ{Y}=>W.arg Y;obtain⟨cK,cM,cN,cO,cQ,cR,cT⟩:=bm.snB (by omega);simp only[a5o,u0,u1,be,P3.b7,bf,b0,bu,bs,ip,bcy,ar,b8,↓uL];refine⟨⟨by decide,cK,cM,cN,cO,cQ,cR,cT,by have:=he.1;omega,by have:=he.2;omega⟩,?_⟩;rintro _ ⟨cs,rfl,ag⟩;refine⟨by rw[lo,nA];exact .inl (by simp[x9 W];simp[eB,iR,aP.c,br.c,sl]),?_⟩;simp only[oJ,pG,aY];have bV:=P3.kx.len.trans N;refine so bV λa7 y3 G3 dB ca=>?_;refine qr ca rfl (oC ag) λA G4 bg=>?_;have E:=(P3.fx G3 (by simp) (by simp)).fx G4 (by simp) (by simp);have g4:=(g3.fx G3 (by simp)).fx G4 λq o h=>(by have:=(H q o).1;simp at h;subst h;simp at this);have T4:Tp A b l a2:=(T3.fx G3 (by simp)).fx G4 (λh=>by simp at h;subst h;simp at hb);have D:=G4.kq (G3.kq bf);have ad:=G4.kq (G3.kq be);rcases cG:C1 dE s3 e with _|_;simp only[aVU,aIN,u0,↓iC,↓uL];rw[<-hI];exact⟨⟨v,t,f,rfl,bn,aJ,g4,H,E⟩,by rw[aTD T4,aTD M];omega⟩;have bo:=bfl bm (by omega) cG cm cg bj;have cU:aN (V 7) cs=V (.a cs):=(by have:=oC ag;simp[aN,this,oB (aSp this)]);have bp:∀{z:ae} {f':Nat->AV},PlS Y z b l v6 v7 B f' (4+(L t+1))->(∃d,box z (6,v6)=V ⟨40,7,U,U,[d]⟩/\L d=7)->box z (14,C)=V ⟨64,7,U,U,[e.c]⟩->box z (15,a7)=V ⟨40,7,U,U,[cs]⟩->gm z 64 7 v (t.map aP.c)->Tp z b l a2->aSV (.p (14,C) 0 0) [v] (.p (15,a7) 0 0) (.p (6,v6) 0 0) I' (λ_ y=>tpM b y) x [] z:=λ{z f'} P h6 ch ck g T=>(by obtain⟨d6,h6,cu⟩:=h6;have ct:aX aTN 1 z [(0, .a e.c)]=V (.l ([e].map aP.c) U U,z):=ua rfl rfl rfl (by decide) (by simp[aP.c,eN,sl]) (by decide);have ak:∀{l:List aP},∀r∈l.map aP.c,L r=7:=qW (by intro _;rfl);simp only[aSV,aI,au,u0,u1,ch,bs,ct,ip,↓uL];refine apQ g (P.kx.len.trans N) ak ak (by simp) (by simp;omega) λaO z1 g1 F1 p1=>?_;have ac:∀{q:Id},q.1≠108->q∉aA v:=λ{q} h o=>h (H q o).1;have bI:=F1.keep _ _ (ac (by simp)) ck;have cp:=F1.keep _ _ (ac (by simp)) h6;have P1:=P.fx F1 (λq o=>by rw[(H q o).1];decide) λq o=> .inr (.inr (H q o).2);simp only[a5l,u0,u1,bI,cU,ip,↓uL];refine qr cp cu (oC ag) λz2 X c6=>?_;have bd:Tp z2 b l a2:=(T.fx F1 (ac (by omega))).fx X (λh=>by simp at h;subst h;simp at hb);have cJ:∀q∈aA aO,q.1=108/\∀w,box Y q≠V w:=λq o=>⟨(p1 q o).2,λw hw=>(p1 q o).1.no w (P.kx.keep _ _ (by rw[(p1 q o).2];decide) hw)⟩;rw[<-hI];refine⟨⟨aO,t++[e],f',rfl,by simp;omega,λy hy=>?_,?_,cJ,?_⟩,by rw[aTD bd,aTD M];omega⟩;rcases dF.1 hy with h|h;exact aJ y h;simp at h;subst h;exact he;rw[dg];exact g1.p.fx X λq o h=>(by have:=(p1 q o).2;simp at h;subst h;simp at this);rw[P8];exact⟨⟨cs,_,c6,ag,(show 4+L t+1=4+(L t+[e].length) from rfl)▸bo.1,bo.2⟩,X.kq P1.b7,⟨a2,bd⟩,P1.kx.fx X (λq o=> .inr (by simp at o;subst o;exact P.no.1)),P1.rd.fx X (λq o=>by simp at o;subst o;exact⟨λh=>by rw[<-h] at hB;simp at hB,by simp,by simp⟩),P1.nw,P1.no,P1.pb⟩);have up:∀{y:ae} {f:Nat->AV},PlS Y y b l v6 v7 B f (4+L t)->PlS Y y b l v6 v7 B f (4+(L t+1)):=λ{y f} P=>(by obtain⟨ds,s,h1,h2,G,h4⟩:=P.b6;exact⟨⟨ds,s,h1,h2,⟨G.sy.mono (by omega),G.ce,G.fu,G.co,λc hc=>by have:=G.cn c hc;omega⟩,h4⟩,P.b7,P.tp,P.kx,P.rd.mono (by omega),P.nw,P.no,P.pb⟩);have cd:=bp (up E) ⟨_,ad,oC W⟩ D bg g4 T4;have hu:e.aq.toNat<4:=(by omega);have bi:rV (iQ 0 A (.p (14,C) 0 0)) λaR=>rV (kb J A aR) λb3=>rV (iQ 0 A (.p (14,C) 0 0)) λaT=>rV (kb J A aT) λaU=>rV (cz 1 A (.m B 4) aU) λaV=>rV (kb J A aV) λaW=>rV (iQ 6 A (.p (6,v6) 0 0)) λaZ=>rV (kb J A aZ) λa0=>rV (iQ 0 A (.p (14,C) 0 0)) λa1=>rV (kb J A a1) λa3=>rV (cz 1 A a0 a3) λa4=>rV (kb J A a4) λa5=>eV (aX bH 1 A [(0,a5)]) λa6 b1=>eV (j5 3 fB 8 b1 103 aW a6) (a5n (.m B 4) b3 (.p (14,C) 0 0) aR aT aU aV (.p (6,v6) 0 0) aZ a1 a0 a3 a4 a5 aW a6 (aSV (.p (14,C) 0 0) [v] (.p (15,a7) 0 0) (.p (6,v6) 0 0) I' (λ_ y=>tpM b y) x)):=(by have f0:iQ 0 A (.p (14,C) 0 0)=V (.p (14,C) 0 0):=(by rw[rR,D];rfl);have l0:kb J A (.p (14,C) 0 0)=V (iv e.aq):=(by rw[aC5,D];rfl);have f6:iQ 6 A (.p (6,v6) 0 0)=V (.p (6,v6) 0 6):=(by rw[rR,ad];rfl);have l6:kb J A (.p (6,v6) 0 6)=V (.l (s3.count.map ci) cX cI):=(by rw[aC5,ad,aF];rfl);have cw:cz 1 A (.m B 4) (iv e.aq)=V (.p B e.aq.toNat 0):=(by simp[cz,ah.1,E.rd.bx,hu]);have cA:kb J A (.p B e.aq.toNat 0)=V (f e.aq.toNat):=(by simp[kb,iE,E.rd.bx,uU hu,aN]);simp only[f0,l0,f6,l6,cw,cA,aY,tf,ci,qM,aS1,bQ];refine⟨⟨ah.1,by rw[bj];exact ah.2⟩,?_⟩;obtain⟨ns,dD,cc⟩:=E.rd.gr _ hu;have hk:=(O1.of cc).keys (P:=λp=>p=47\/p=103) (λq o=>E.rd.pl _ hu q o);refine a62 E.rd ah (.inr rfl) (E.kx.len.trans N) (by omega) hB λa' z f' R F hf=>?_;simp only[a5m];refine dT ?_ ?_;rcases hk with e1|⟨p,e1,rfl|rfl⟩<;>simp[eL,lb,e1,aTn,a6H,bc6];have h1:=E.rd.pl _ hu;have ne:∀{q:Id},q.1≠20->q.1≠47->q.1≠103->q∉B::aA (f e.aq.toNat):=λ{q} n1 n2 n3 o=>(by rcases eW.1 o with rfl|h;exact n1 hB;rcases h1 _ h with e|e<;>omega);exact bp (E.reads hu R F hf (by omega) (up E).b6) ⟨_,F.keep _ _ (ne (by simp) (by simp) (by simp)) ad,oC W⟩ (F.keep _ _ (ne (by simp) (by simp) (by simp)) D) (F.keep _ _ (ne (by simp) (by simp) (by simp)) bg) (g4.fx F λq o=>ne (by rw[(H q o).1];decide) (by rw[(H q o).1];decide) (by rw[(H q o).1];decide)) (T4.fx F (ne (by omega) (by omega) (by omega))));simp only[aVU,aIN,u0,↓iB,di,↓uL];have f1:iQ 1 A (.p (14,C) 0 0)=V (.p (14,C) 0 1):=(by rw[rR,D];rfl);have l1:kb J A (.p (14,C) 0 1)=V (iv e.kind):=(by rw[aC5,D];rfl);rcases q3:Q (e.kind=3) with _|_;rcases bq:Q (e.kind=23) with _|_;simp only[aSW,u0,f1,l1,iM,q3,bq,↓jA,Aa,bt,↓uL];exact cd;simp only[aSW,u0,f1,l1,iM,q3,bq,↓jA,Aa,bt,↓uL];exact bi;simp only[aSW,u0,f1,l1,iM,q3,↓jN,ya,bt,↓uL];exact bi
end
def vq(w:br)(l:List aP):Nat->bW|0=>aH6 w|k+1=>nD w (vq w l k) (gd l k)
structure aN4(w:br)(l:List aP):Prop where
 wv:mQ w=U
 ln:L l<=400
 st:∀k,k<L l->C1 w (vq w l k) (gd l k)=U
 dp:∀k,k<L l->∀n∈(gd l k).dI,aOE l k (gd l k).aq n
 fr:∀k,k<L l->∀n∈(gd l k).ep,aOE l k (gd l k).aq n
def a6b{l:List aP}{t:Int}{i m:Nat}:VW l t (i+m)=VW l t i+VW (l.drop i) t m:=by simp only[VW,List.take_add,List.filter_append,P8]
def ba3{e:aP}{l:List aP}{t:Int}{j:Nat}:VW (e::l) t (j+1)=VW l t j+if e.aq=t then 1 else 0:=by simp only[VW,List.take_succ_cons,List.filter_cons];by_cases h:e.aq=t<;>simp[h]
def a6Y(t:Int):∀(l:List aP) (j i:Nat),j<L l->(gd l j).aq=t->pS t l (VW l t j) i=((i+j:Nat):Int)
 |[],j,i,h,_=>by simp at h
 |e::l,0,i,_,h=>by
  have d:e.aq=t:=h
  simp[pS,VW,d]
 |e::l,j+1,i,h,f=>by
  have b:(gd l j).aq=t:=by simpa[gd] using f
  have c:=a6Y t l j (i+1) (by simpa using h) b
  rw[ba3]
  simp only[pS]
  by_cases a:e.aq=t
  ·rw[bX a,bX a,cj (by omega)]
   have:((VW l t j+1:Nat):Int)-1=VW l t j:=by omega
   rw[this,c]
   omega
  ·rw[cj a,cj a,Nat.add_zero,c]
   omega
def aXY{α:Type}{n:Nat}{x y:α}(h:y∈er n x):y=x:=(List.mem_replicate.1 h).2
def aTg{α:Type}[Inhabited α]{n j:Nat}{x:α}(h:j<n):gd (er n x) j=x:=by rw[bT (by simpa using h)];simp
def bcG{n j:Nat}(h:j<n):gd (qZ n) j=⟨if j=0 then 1 else 0,0,I⟩:=by rw[bT (by simpa[qZ] using h)];simp[qZ]
def a7j:∀n:Nat,(er n (0:Int)).sum=0
 |0=>rfl
 |n+1=>by rw[List.replicate_succ,List.sum_cons,a7j n];rfl
def a7R{w:br}(h:mQ w=U):∀j,j<L w.bC->uh w j=I:=by simp only[mQ,bN] at h;obtain⟨_,h⟩:=h;split at h;(cases h);simp only[bN,mn] at h;exact h.2.1
theorem SI.start{w:br}(h:mQ w=U):SI w (aH6 w) 0:=by have k:=a7R h;refine⟨?_,?_,?_,?_,?_,?_,?_⟩;simp only[fN,lh,aH6,bN,mn];refine⟨⟨?_,by simp,by simp,by simp[qZ]⟩,by simp,by simp,by simp⟩;intro c f;obtain⟨j,b,rfl⟩:=ou f;have:=k j b;simp only[uh,bT b,cP,nl] at this;omega;intro c f;rw[aXY f];omega;exact a7j _;intro j b;have a:j<L w.ay:=(by simpa[aH6,qZ] using b);have e:gd (aH6 w).bm.ay j=⟨if j=0 then 1 else 0,0,I⟩:=bcG a;have g:gd (aH6 w).count j=0:=aTg a;by_cases d:j=0;subst d;simp only[vm] at e;exact⟨by rw[e];simp,by rw[e,g];simp,by rw[e];simp,by rw[e];simp,by rw[e];simp,by rw[e];simp⟩;rw[cj d] at e;exact⟨by rw[e];simp,by rw[e,g];simp,λm=>mp m d,by rw[e];simp,by rw[e];simp,by rw[e];simp⟩;intro j b;have a:j<L w.ak:=(by simpa[aH6] using b);have e:gd (aH6 w).bm.ak j=⟨-1,[]⟩:=aTg a;exact⟨by rw[e];intro h;exact mp rfl h,by rw[e];intro h;exact mp rfl h,by rw[e];intro x o;simp at o,by rw[e];intro i n;simp at n⟩;intro h;exact mp rfl h;intro j b _;have a:j<L w.bU:=(by simpa[aH6] using b);exact aTg a
section
variable{w:br}{l:List aP}
def aN4.si(h:aN4 w l):∀k,k<=L l->SI w (vq w l k) k
 |0,_=>SI.start h.wv
 |k+1,c=>by
  have b:=h.si k (by omega)
  have a:=h.st k c
  have e:vq w l (k+1)=oc w (vq w l k) (gd l k):=by simp only[vq,nD,a,asq]
  rw[e]
  exact b.step (a7R h.wv) (by have:=h.ln;omega) a
def aN4.thr(h:aN4 w l){k:Nat}(b:k<L l):aF (L w.ay) (gd l k).aq:=by have a:=h.st k b;simp only[C1,eH,cP,aOL,fK] at a;exact dX.1 a.1.1.1.1.2
def aN4.cnt(h:aN4 w l){t:Nat}(f:t<L w.ay):∀k,k<=L l->gd (vq w l k).count t=VW l t k
 |0,_=>by
  have:gd (aH6 w).count t=0:=aTg f
  simp[vq,this,VW]
 |k+1,b=>by
  have i:=h.cnt f k (by omega)
  have j:=h.st k b
  have g:=h.thr b
  have d:=h.si k (by omega)
  have m:L (vq w l k).count=L w.ay:=by
   have:=d.fit
   simp only[fN,bN,mn] at this;exact this.2.2.2
  have e:vq w l (k+1)=oc w (vq w l k) (gd l k):=by simp only[vq,nD,j,asq]
  rw[e,aV8 (by omega)]
  simp only[oc]
  rw[gdS]
  have o:=aWu d.c0
  have n:=h.ln
  by_cases c:(gd l k).aq=(t:Int)
  ·have a:(gd l k).aq.toNat=t:=by omega
   rw[bX ⟨a,by omega⟩,bX c,a,i]
   have:=@a6c l t k
   rw[eM (by omega) (by omega)];omega
  ·have a:¬(gd l k).aq.toNat=t:=by have:=g.1;omega
   rw[cj (λe=>a e.1),cj c,i];omega
def a7P(h:aN4 w l){i m:Nat}{st:Int}:∀k,k<=m->cY ⟨w,st,vq w l i,(l.drop i).take m⟩ k=vq w l (i+k)
 |0,_=>rfl
 |k+1,a=>by
  have b:=a7P h (i:=i) (m:=m) (st:=st) k (by omega)
  show nD w (cY _ k) (gd ((l.drop i).take m) k)=nD w (vq w l (i+k)) (gd l (i+k))
  rw[b]
  have:gd ((l.drop i).take m) k=gd l (i+k):=by
   simp only[gd,eI]
   rw[List.getElem?_take_of_lt a,mf]
  rw[this]
def aWv{i m k:Nat}(a:k<m):gd ((l.drop i).take m) k=gd l (i+k):=by simp only[gd,eI];rw[List.getElem?_take_of_lt a,mf]
def a63(h:aN4 w l){i m k:Nat}{st:Int}(v:i<=L l)(F:k<m)(A:i+k<L l){t n:Int}(o:aF (L w.ay) t)(y:aOE l (i+k) t n):qU ⟨w,st,vq w l i,(l.drop i).take m⟩ t n=U:=by obtain⟨j,C,e,b,D⟩:=y;obtain⟨a,rfl⟩:∃a:Nat,t=a:=⟨t.toNat,by have:=o.1;omega⟩;have p:a<L w.ay:=(by have:=o.2;omega);have E:=h.cnt p i v;unfold qU;simp only[bh];rcases Decidable.em (n<gd (vq w l i).count a) with g|g;simp[g];have z:i<=j:=(by rcases jj j i with f|f;exfalso;have:VW l a (j+1)<=VW l a i:=(by obtain⟨d,rfl⟩:∃d,i=j+1+d:=⟨i-(j+1),by omega⟩;have:=@a6b l a (j+1) d;omega);rw[aV8 (by omega),bX e] at this;omega;exact f);obtain⟨d,rfl⟩:∃d,j=i+d:=⟨j-i,by omega⟩;have c:d<m:=(by omega);have r:VW ((l.drop i).take m) a d=VW (l.drop i) a d:=(by simp only[VW,List.take_take,Nat.min_eq_left (aYB c)]);have B:=@a6b l a i d;have s:=a6Y a ((l.drop i).take m) d 0 (by simp only[gC,oz];omega) (by rw[aWv c];exact e);have u:oV ⟨w,st,vq w l i,(l.drop i).take m⟩ a (n-gd (vq w l i).count a)=(d:Int):=(by unfold oV;simp only;rw[show n-gd (vq w l i).count a=((VW ((l.drop i).take m) a d:Nat):Int) by rw[r];omega,s];simp);have q:∀x:Int,x=d->(Q (n<gd (vq w l i).count a)||(Q (0<=x)&&(Q ((gd ((l.drop i).take m) x.toNat).kind=3)||Q ((gd ((l.drop i).take m) x.toNat).kind=23))))=U:=(by rintro x rfl;rw[bh,aWv c];have:0<=(d:Int):=(by omega);rcases b with b|b<;>simp[b,this]);exact q _ u
def bau{a:am}{t:Int}:bg a.init t->nO a t=U:=λh=>by
 simp only[nO,bN,mn]
 exact⟨dX.2 h.1,h.2⟩
def bhG(h:aN4 w l){i m:Nat}(y:i<=L l)(P:m<=16):Po ⟨w,i,vq w l i,(l.drop i).take m⟩=U:=by have f:=h.si i y;have M:=h.ln;have N:L ((l.drop i).take m)<=L l-i:=(by simp only[gC,oz];omega);have O:L ((l.drop i).take m)<=m:=(by simp only[gC];omega);generalize g:(⟨w,i,vq w l i,(l.drop i).take m⟩:am)=W;have q:W.aQ=w:=(by rw[<-g]);have b:W.init=vq w l i:=(by rw[<-g]);have K:W.start=i:=(by rw[<-g]);have v:W.ac=(l.drop i).take m:=(by rw[<-g]);have o:∀t,bg (vq w l i) t->nO W t=U:=λt H=>bau (by rw[b];exact H);simp only[Po,oh,bN,eH,cP,fK,mn,nl];refine⟨⟨⟨⟨⟨⟨?_,?_⟩,?_⟩,?_⟩,?_⟩,?_⟩,?_,?_⟩;rw[q];exact h.wv;rw[q,b];exact f.fit;rw[v];omega;simp only[rM,bN,mn];rw[b,K,v,f.sum];refine⟨λc C=>⟨f.c0 c C,?_⟩,rfl,by omega⟩;obtain⟨j,d,rfl⟩:=ou C;have:=(aWu f.c0 j).1;rw[bT d,f.sum] at this;omega;simp only[uZ,mn];rw[b];intro j d;have S:=f.st j d;obtain⟨R,T⟩:=S.r;simp only[aOK,Eu,zX,q,b,bN,eH,cP,nl,pk,fK,beq_iff_eq];refine⟨⟨⟨⟨by omega,by omega⟩,?_⟩,?_⟩,?_,?_⟩;have:=S.fr;rcases Decidable.em (gd (vq w l i).count j=0) with a|a;rcases this.2 a with p|p<;>simp[a,p];have p:¬((gd (vq w l i).bm.ay j).cQ=0\/(gd (vq w l i).bm.ay j).cQ=1):=λx=>a (this.1 x);simp only[not_or] at p;simp[a,p.1,p.2];rcases Nat.eq_zero_or_pos j with a|a;exact .inr (S.z a);exact .inl (by omega);rcases Decidable.em ((gd (vq w l i).bm.ay j).cQ=3\/(gd (vq w l i).bm.ay j).cQ=4) with a|a;exact .inr (dX.2 (S.wt a).1);simp only[not_or] at a;exact .inl a;rcases Decidable.em ((gd (vq w l i).bm.ay j).cQ=3\/(gd (vq w l i).bm.ay j).cQ=4) with a|a;left;rcases a with a|a<;>simp[a];right;simpa using S.nw a;simp only[ny,bN,mn,eH];refine⟨λj d=>?_,?_,λj d=>?_⟩;rw[b] at d;have u:=f.lk j d;refine⟨?_,λk A=>?_⟩;simp only[AM,q,b,cP,pk,nl,fK,aNS];refine⟨?_,?_⟩;rcases Decidable.em ((gd (vq w l i).bm.ak j).pw= -1) with a|a;exact .inl a;exact .inr (o _ (u.ow a));rcases Decidable.em ((gd (vq w l i).bm.ak j).bk=[]) with a|a;exact .inl (by simp[a]);exact .inr (u.rd a);rw[b] at A⊢;refine⟨o _ (u.rb _ (dB A)),λa=>?_⟩;have:=u.inc (k-1) (by omega);rwa [show k-1+1=k by omega] at this;simp only[yS,b,pk,nl,aNS,fK];rcases Decidable.em ((vq w l i).bm.tx= -1) with a|a;exact .inl a;exact .inr (o _ (f.tx a));rw[b] at d;have S:=f.st j d;simp only[pX,q,b,bN,eH,pk,fK,cP,nl];refine⟨?_,?_⟩;(cases F:(gd (vq w l i).bm.ay j).atomic);exact .inl rfl;exact .inr (o _ (S.at' F));rcases Decidable.em ((gd (vq w l i).bm.ay j).cQ=3\/(gd (vq w l i).bm.ay j).cQ=4) with a|a;exact .inr (S.wt a).2;simp only[not_or] at a;exact .inl a;rw[b];intro j d;have:=f.fu j d;simp only[Ae,b,pk,fK,nl,aNS];(cases G:gd (vq w l i).bm.done j);exact .inr (this G);exact .inl rfl;rw[v];intro k A;have s:k<m:=(by omega);have e:i+k<L l:=(by omega);have D:gd W.ac k=gd l (i+k):=(by rw[v];exact aWv s);have E:cY W k=vq w l (i+k):=(by rw[<-g];exact a7P h k (by omega));simp only[xH,D,E,q,cP,fK,mn];refine⟨⟨h.st _ e,λn B=>?_⟩,λn B=>?_⟩;rw[<-g];exact a63 h y s e (h.thr e) (h.dp _ e n B);rw[<-g];exact a63 h y s e (h.thr e) (h.fr _ e n B)
end
def aXL(s:bW):Lk s.c s.c:=⟨rfl,rfl⟩
def bfm{s:bW}(h:sz5 s):vH 0 s:=⟨⟨by rw[h.1];decide,by rw[h.2.1];decide,by rw[h.2.2.1];decide,λl b=>by have:=h.2.2.2.2.2.2.1 l b;omega⟩,by rw[h.2.2.2.1];decide,by rw[h.2.2.2.2.1];decide,by rw[h.2.2.2.2.2.1];decide,λc a=>by have:=h.2.2.2.2.2.2.2 c a;omega⟩
def w00:am:=⟨dE,0,aH6 dE,[]⟩
def bfG:Po w00=U:=by kernel_rfl
def bfF:hU w00:=⟨by decide,by decide,by intro e a;simp[w00] at a,by decide⟩
def aWb(w:am):iX (.a w.c)=U:=by simp[iX,eN,am.c,sl]
def aXE(l:List Int)(n:Int)(hp:(∀x∈l,0<=x/\x<256)/\L l<4611686018427387904):Ct 12 [sl cu l,iv n] (λr=>∃w:am,r= .a w.c/\Po w=U/\hU w):=by obtain⟨hb,aV⟩:=hp;generalize hQ:(λ(r:AV)=>∃w:am,r= .a w.c/\Po w=U/\hU w)=Qq;refine aDq (bhv λs0 hl h0=>?_);simp only[a4B];refine so hl λv1 s2 F2 N2 b1=>?_;have W:=F2.len.trans hl;suffices hj:∀l':List Int,(∀x∈l',0<=x/\x<256)->L l'<4611686018427387904->aVD s2 (iv n) (.p (4,v1) 0 0) (λr=>Qq (B1 r)) [sl cu l'] from(by rcases q:Q ((400:Int)<(L l:Int)) with _|_;simp only[aVE,u0,u1,q,bt,↓uL];exact hj l hb aV;simp only[aVE,u0,u1,q,bt,↓uL];rw[aIk (z:=1) (f:=cu) λ_=>rfl];have:=nt q;refine⟨⟨by omega,by omega⟩,hj _ (λx hx=>hb x (sA hx)) (by rw[gC];omega)⟩);intro l' aO an;have aQ:bM aTP O7 [(0,sl cu l')]=V (.a [sl cu l',iv 0]):=rfl;simp only[aVD,aI,au,aQ,aY];refine bxL rfl (by decide) (by rw[W];decide) λv5 s6 F6 N5 G=>?_;have T6:Tp s6 (16,v5) l' 0:=⟨G,by omega,aO,an⟩;have X:=F6.len.trans W;have aE:=F6.kq b1;have aP:bM aOQ aQ4 [(0, .a dE.c)]=V (.a (dE.c++(iv 0::(BF++[.l [] U U])))):=rfl;simp only[aWo,ar,u0,aP,↓uL];refine⟨by simp[lo,nA],?_⟩;refine so X λb bB aq N9 b9=>?_;refine qr b9 rfl rfl λa8 av c9=>?_;have d:Fx s6 a8 []:=(aq.trans av).mono λq u=>(by simp at u;subst u;exact .inr N9.no);have aA:=T6.fx d (by simp);have K:=d.len.trans X;have af:=d.kq aE;have a0:∀{xs:List AV},aN (V 6) (dE.c++xs)=V (.a dE.c):=λ{xs}=>rfl;simp only[a4I,u0,u1,c9,a0,aj,ip,↓uL];refine jH rfl (bdb K (.inr (.inr rfl)) aA) ?_;rintro _ bD ⟨s,a',rfl,i,aB,_,m⟩;refine⟨m.len,?_⟩;have ak:=m.len.trans K;have P:=m.kq c9;have aD:=m.kq af;have fb:∀{y:ae} {j:Nat} {r:List AV},box y (6,b)=V ⟨43,15,U,U,[r]⟩->iQ j y (.p (6,b) 0 7)=V (.p (6,b) 0 (7+j)):=λ{y j r} h=>(by rw[rR,h];simp);simp only[a4H,aNI P,aY,↓uL];refine cy (y:=7) (cs:=s.c) P rfl rfl (by decide) λac v aJ=>?_;have aC:=aB.fx v (by simp);have al:=v.len.trans ak;have aF:=v.kq aD;have o:box ac (6,b)=V ⟨43,15,U,U,[dE.c++(iv 0::(s.c++[.l [] U U]))]⟩:=aJ;have aZ:∀{y:ae} {st:Int} {e:AV},box y (6,b)=V ⟨43,15,U,U,[dE.c++(iv st::(s.c++[e]))]⟩->kb J y (.p (6,b) 0 13)=V (sl ci s.count):=λ{y st e} h=>(by rw[aC5,h];rfl);have l6:∀{y:ae} {st:Int} {e:AV},box y (6,b)=V ⟨43,15,U,U,[dE.c++(iv st::(s.c++[e]))]⟩->kb J y (.p (6,b) 0 6)=V (iv st):=λ{y st e} h=>(by rw[aC5,h];rfl);have l7:∀{y:ae} {st:Int} {e:AV},box y (6,b)=V ⟨43,15,U,U,[dE.c++(iv st::(s.c++[e]))]⟩->kb (V 7) y (.p (6,b) 0 7)=V (.a s.c):=λ{y st e} h=>(by rw[aC5,h];rfl);have l0:∀{y:ae} {r:List AV},box y (6,b)=V ⟨43,15,U,U,[dE.c++r]⟩->kb (V 6) y (.p (6,b) 0 0)=V (.a dE.c):=λ{y r} h=>(by rw[aC5,h];rfl);have N:∀{Y:ae} {l:List Int},fS Y (sl ci l)=V (iv (L l)):=cT;have bz:L s.count<1000:=(by rw[i.2.2.2.2.2.1];decide);simp only[a4G,aNI o,fb o,aZ o,N,aY,Nat.reduceAdd,↓uL];refine yV (L s.count) (λ_ _ y=>(∃st:Int,box y (6,b)=V ⟨43,15,U,U,[dE.c++(iv st::(s.c++[.l [] U U]))]⟩)/\Fx ac y [(6,b)]) ⟨⟨0,o⟩,Fx.refl _ _⟩ ?_;rintro k _ y hk ⟨⟨st,g⟩,M⟩;rcases q1:Q ((k:Int)<(L s.count:Int)) with _|_;simp only[aVF,aI,au,av4,aY,q1,↓iB,aNI g,l7 g,l0 g,aRW,aXT,↓uL];generalize aW:(if(16:Int)<(if(0:Int)>n then 0 else n) then(16:Int) else(if(0:Int)>n then 0 else n))=n';have ao:n'<=16:=(by rw[<-aW];split<;>omega);have aa:=M.len.trans al;have Ty:=aC.fx M (by simp);refine jH rfl (bdm aa rfl Ty (aXL s) (bfm i) i.2.2.2.1 i.2.2.2.2.1 i.2.2.2.2.2.1 ao) ?_;rintro _ y2 ⟨es,rfl,bm,T,K2⟩;refine⟨K2.len,?_⟩;have R:=K2.kq g;have aG:=K2.kq (M.kq aF);simp only[a4F,aNI R,aY,↓uL];refine A0 R rfl (by simp[br.c,bW.c]) λy3 F3 b3=>?_;have O:=F3.kq aG;have aU:L y3=4096:=F3.len.trans (K2.len.trans aa);have d3:box y3 (6,b)=V ⟨43,15,U,U,[am.c ⟨dE,st,s,es⟩]⟩:=b3;have ab:∀{w:am},aN (V 15) w.c=V (.a w.c):=λ{w}=>rfl;have H:hU ⟨dE,st,s,es⟩:=⟨by show L dE.bC<_;decide,λq u=>by have:=i.2.2.2.2.2.2.1 q u;omega,λe he=>⟨by have:=(T e he).1;omega,by have:=(T e he).2;omega⟩,by show L s.bU<_;rw[i.2.2.2.2.1];decide⟩;simp only[a4E,u0,u1,d3,ab,ip,aWo,ar,rr,↓uL];refine⟨H,λbA=>?_,λaX=>?_⟩;refine⟨by simp[lo,nA],by simp[lo,nA],?_⟩;refine jH rfl (aXI (w:=dE) aU (by decide) (by decide) (by decide) (by decide)) ?_;rintro _ y4 ⟨A,B,C,D,E,F,rfl,S,F4⟩;refine⟨F4.len,?_⟩;have ah:bM aOQ aQ4 [(0, .a dE.c),(2, .a [A,iv (-1),B,C,D,E,F])]=V (.a (dE.c++(iv 0::([A,iv (-1),B,C,D,E,F]++[.l [] U U])))):=rfl;have a7:aN (V 15) (dE.c++(iv 0::([A,iv (-1),B,C,D,E,F]++[.l [] U U])))=V (.a (dE.c++(iv 0::([A,iv (-1),B,C,D,E,F]++[.l [] U U])))):=rfl;simp only[a4D,ah,aY,↓uL];refine qr (F4.kq O) rfl rfl λy5 F5 G=>?_;have t:=S.keep F5 (by simp);simp only[u0,u1,G,a7,ip,↓uL];have hf:(dE.c++(iv 0::([A,iv (-1),B,C,D,E,F]++[.l [] U U]))).map (fz y5)=w00.c:=(by simp only[dg,ji,mU,aBr t.g1,aBr t.g2,aBr t.g3,aBr t.g4,aBr t.g5,aBr t.g6];rfl);refine aOv (v':= .a w00.c) (aNJ AV.a hf) (aWb _) ?_;rw[<-hQ];exact⟨w00,rfl,bfG,bfF⟩;refine qr O rfl rfl λy5 F5 G=>?_;simp only[u0,u1,G,ab,↓uL];refine aOv (v':= .a (am.c ⟨dE,st,s,es⟩)) rfl (aWb _) ?_;rw[<-hQ];exact⟨_,rfl,by simpa using aX,H⟩;have Z:k<L s.count:=RF.1 (nt q1);simp only[aVF,aI,au,av4,aY,q1,↓iC,amX,ci,qM,aNI g,l6 g,cS,↓uL];refine⟨dJ Z,?_⟩;refine A0 g rfl (by simp[br.c,bW.c]) λy2 F2 b2=>?_;simp only[a4C,au,cS,aY,↓uL];exact yU Z ⟨⟨_,b2⟩,(M.trans F2).mono λq u=> .inl (by simpa using u)⟩
def aSj:FT:=pn aXE
def bcl{l n Lw K}:=rQ aSj aXE l n Lw K (j:=by simp+contextual only[ij,aQZ])
def a7J:dO:=(12,aSj)::a7I
def aX7:eJ a7J:=it (aN0 aXE) (a7s)
def aQW:=ai @bcl<|@aWo
section
attribute[local irreducible] aX
def a9Q:=bi 20 [(10,([5],[1,4]))]
def a4m a(e:aG)(b:bu) f c:=aV (gt a 0) (iv 1) λd=>e [d] c/\b [d] c<b a f
def aVu l g e d R f h i j k a:=cf l λb=>bn b 6 a g λm=>ic b (gt e 0) λn=>bn b 0 a d λo=>bn b 5 a d λp=>aC b (fV aSi a [m,n,o,p]) λq=>aC b (cf q) λr=>aD b (bv U) r λc=>bn c 6 a g λs=>ic c (gt e 0) λt=>bn c 0 a d λu=>bn c 6 a d λv=>aC c (fV aSi a [s,t,u,v]) λw=>aC c (cf w) λx=>aD c (bv U) x λy=>ah y (aE R a [(gt e 0),(iv 12)]) (aw 7 a f λz=>sV (aK 7 a h z) (a4m e i j k))
def a4n f d c g R h i j b:=aB 0 b f λl=>aw 6 b l λm=>aw 7 b d λn=>aw 7 b c λo=>fV Cd b [m,n,o] λe=>rV (eO 0 e) λp=>rV (eO 1 e) λq=>eV (bs 40 BF b 7) λa k=>sV (aK 7 k a p) (aVu q f g c R a d h i j)
def aVv d e R f g b a:=∀_:Rg,ab 6 a d λi=>aJ a i λj=>aU (gt b 0) j λk=>ah k (ab 6 a d λl=>ao 7 a l (gt b 0) λm=>aw 7 a m λn=>eV (bs 64 y8 a 6) λc h=>sV (aK 7 h c n) (a4n d e c b R f g a)) (aE R a [(iv 0),(iv 0)])
def a4o f R e b:=eV (bs 40 BF b 4) λa c=>sV (aK 7 c a e) λd=>lV [(iv 0)] d (aVv f a R)
def aSG b a R:=ab 6 a b λt4=>aJ a t4 λf=>aO .gtr f (iv 400) λg=>ah g (aE R a [(iv 0),(iv 2)]) (aB 0 a b λh=>aw 6 a h λi=>fV FC a [i] λj=>cf j λc=>ah c (aE R a [(iv 0),(iv 1)]) (aB 0 a b λd=>aw 6 a d λe=>cB 29 [e] a 19 (a4o b R)))
def bhp{b:List AV}{R:d7}(l0:L b=7)(h:H1 56 7 1 b λc d=>aSG c d R):Ct 33 [.a b] R:=z1 a9Q aX7 Tryz.func33 l0 h
def a9U:=bi 9 [(4,([6],[1,2,4,5]))]
def a4v h k d n o a p l m q e r(i:aG)(b:bu) j c:=dH [(bo h),(bo k),(bo d),(bo h),(bo n),km,(lb U [o,(gt a 0)] []),(bo p),(Qh [(.f 64 [] []),l,m,q]),km,(bo e),(bo e),(lb I [d,r] [])] [(11,12)] (aV (gt a 0) (iv 1) λg=>i [g] c/\b [g] c<b a j)
def aVz t e c t3 R o p b a:=∀_:Rg,aU (gt b 0) t λq=>ah q (aB 0 a e λg=>aw 6 a g λh=>aw 7 a c λi=>aB 6 a e λj=>aM a j λk=>ao 7 a k (gt b 0) λl=>aw 7 a l λm=>fV Cd a [h,i,m] λd=>rV (eO 0 d) λn=>rV (eO 1 d) λu=>sV (aK 7 a c n) (a4v e g c j k b l h i m d n o p a)) (aw 7 a c λr=>sV (aK 7 a t3 r) λf=>aw 7 f t3 λs=>aE R f [s])
def a4w e d t3 R g f:=eV (bs 40 BF f 5) λa b=>sV (aK 7 b a g) λc=>lV [(iv 0)] c (aVz e d a t3 R)
def a4x a c R t3 b:=aB 0 b a λd=>aw 6 b d λe=>cB 29 [e] b 9 (a4w c a t3 R)
def aVy a b c R:=eV (bs 40 BF c 4) (a4x a b R)
def bhs{b:List AV}{c:AV}{R:d7}(l0:L b=7)(h:H1 56 7 2 b λd e=>aVy d c e R):Ct 34 [.a b,c] R:=z1 a9U aX7 Tryz.func34 l0 h
end
def a6N{Y:ae}{w:br}(h:L Y=4096)(d:L w.cells<=1000)(e:L w.ak<=100)(f:L w.bU<=100)(g:L w.ay<=100):∃r b,(r= .a (aH6 w).c/\Fx Y b [])/\cZ aS GG 29 [.a w.c] Y r b:=by refine aQR (aXI h d e f g) ?_;rintro _ b ⟨j,k,l,m,n,o,rfl,S,F⟩;refine⟨?_,(F.trans (aOp _ _)).mono λq i=> .inr (S.ids q i).1.no⟩;show AV.a (List.map gK (List.map (gi b) _))=_;rw[vA];exact aNJ AV.a S.lz
def bfk{w:br}(h:mQ w=U):vH 0 (aH6 w):=by obtain⟨d,e,f,g,i,j⟩:=aP4 h;refine⟨⟨by simp[aH6];omega,by simp[aH6];omega,by simp[aH6,qZ];omega,λl b=>?_⟩,by simp[aH6];omega,by simp[aH6];omega,by simp[aH6];omega,λc a=>?_⟩;rw[aXY b];simp;rw[aXY a];simp
def aTz{w:br}{l:List aP}(h:mQ w=U):∀k,k<=90000->vH k (vq w l k)|0,_=>bfk h|k+1,a=>(aTz h k (by omega)).step (by omega)
def bcA{ds:List AV}{s:bW}(h:Lk ds s.c)(Y:ae):fzT Y (.a ds)= .a s.c:=by have b:=h.fd Y;have d:ds.map (fz Y)=(ds.map (dQ Y)).map gK:=(by rw[vA];rfl);show AV.a (ds.map (fz Y))=_;rw[d,b,h.1]
def aR0{ds:List AV}{s:bW}(h:Lk ds s.c):aN (V 7) ds=V (.a ds):=Bi (oC h)
def ba9(s:bW):iX (.a s.c)=U:=by simp[iX,eN,bW.c,sl]
def aYr(w:br)(l:List aP)(k:Nat):Prop:=∀j,j<k->C1 w (vq w l j) (gd l j)=U/\(∀n∈(gd l j).dI,aOE l j (gd l j).aq n)/\∀n∈(gd l j).ep,aOE l j (gd l j).aq n
def aXx(t:O3)(hp:L t.ac<1000000/\∀e∈t.ac,EvL e):Ct 33 [.a t.c] (λr=>∃i e:Int,r= .t [iv i,iv e]/\(e=0->aN4 t.aQ t.ac)):=by obtain⟨S,aw⟩:=hp;generalize hQ:(λ(r:AV)=>∃i e:Int,r= .t [iv i,iv e]/\(e=0->aN4 t.aQ t.ac))=Qq;refine aDq (bhp rfl λs2 hl b h0=>?_);show aSG (.p (1,1) 0 0) s2 λr=>Qq (B1 r);have f:∀{i e:Int},(e=0->aN4 t.aQ t.ac)->Qq (B1 (.t [iv i,iv e])):=λ{i e} h=>(by rw[<-hQ];exact⟨i,e,rfl,h⟩);have C:∀{y:ae} {i e:Int},(e=0->aN4 t.aQ t.ac)->aE (λr=>Qq (B1 r)) y [iv i,iv e]:=λ{y i e} h=>aOH (vs':=[iv i,iv e]) rfl rfl (by rw[<-hQ];exact⟨i,e,rfl,h⟩);have s:∀{y:ae},box y (1,1)=V ⟨56,7,U,U,[t.c]⟩->kb J y (.p (1,1) 0 6)=V (sl aP.c t.ac):=λ{y} h=>(by rw[aC5,h];rfl);have lW:∀{y:ae},box y (1,1)=V ⟨56,7,U,U,[t.c]⟩->kb (V 6) y (.p (1,1) 0 0)=V (.a t.aQ.c):=λ{y} h=>(by rw[aC5,h];rfl);have q:∀{y:ae},fS y (sl aP.c t.ac)=V (iv (L t.ac)):=cT;rcases q0:Q ((400:Int)<(L t.ac:Int)) with _|_;rotate_left;simp only[aSG,aNI b,s b,q,av1,aY,q0,↓iC,↓uL];exact C (by simp);have az:L t.ac<=400:=(by have:=aPy q0;omega);simp only[aSG,aNI b,s b,lW b,q,av1,aY,q0,↓iB,aQW,ar,rr,aIN,↓uL];rcases hv:mQ t.aQ with _|_;simp only[kN,iC];exact f (by simp);obtain⟨z1,z2,z3,z4,z5,z6⟩:=aP4 hv;simp only[fh,iB];refine jH rfl (a6N hl (by omega) (by omega) (by omega) (by omega)) ?_;rintro _ bb ⟨rfl,u⟩;refine⟨u.len,?_⟩;have z:=u.len.trans hl;have Z:=u.kq b;simp only[a4o];refine so z λv4 bc N N4 b4=>?_;refine qr b4 rfl rfl λbd O c4=>?_;have aa:=O.kq (N.kq Z);have ad:=O.len.trans (N.len.trans z);refine yV (L t.ac) (λk _ y=>box y (1,1)=V ⟨56,7,U,U,[t.c]⟩/\(∃ds,box y (4,v4)=V ⟨40,7,U,U,[ds]⟩/\Lk ds (vq t.aQ t.ac k).c)/\L y=4096/\aYr t.aQ t.ac k) ⟨aa,⟨_,c4,aXL _⟩,ad,λj d=>mp d (Nat.not_lt_zero _)⟩ ?_;rintro k _ y hk ⟨v,⟨ds,d4,H⟩,T,G⟩;rcases K:Q ((k:Int)<(L t.ac:Int)) with _|_;simp only[aVv,aI,au,aNI v,s v,q,av4,aY,K,↓iB,↓uL];have ax:k=L t.ac:=bP hk (bw K);subst ax;exact C λ_=>⟨hv,az,λj d=>(G j d).1,λj d=>(G j d).2.1,λj d=>(G j d).2.2⟩;have A:k<L t.ac:=RF.1 (nt K);have W:∀{e:aP},aN (V 7) e.c=V (.a e.c):=rfl;simp only[aVv,aI,au,aNI v,s v,q,av4,aY,K,↓iC,aCh,aC6,W,bh,↓uL];refine⟨dJ A,?_⟩;have x:=aw _ (dB A);generalize he:gd t.ac k=e at x;refine so T λD y1 X N6 c6=>?_;refine qr c6 rfl rfl λy2 G2 P=>?_;have w:=G2.kq (X.kq v);have R:=G2.kq (X.kq d4);have B:=G2.len.trans (X.len.trans T);have al:∀{Y:ae},dG Y (.a ds)= .a (vq t.aQ t.ac k).c:=λ{Y}=>H.arg Y;obtain⟨p2,p3,p4,p5,p6,p7,p8⟩:=(aTz (l:=t.ac) hv k (by omega)).snB (by omega);simp only[a4n,aNI w,lW w,u0,u1,R,P,aR0 H,W,ip,aQW,ar,al,↓uL];refine⟨⟨by omega,p2,p3,p4,p5,p6,p7,p8,by have:=x.1;omega,by have:=x.2;omega⟩,?_⟩;rintro _ ⟨cs,rfl,o⟩;refine⟨.inl (by simp[nA,x9 H];simp[eB,iR,aP.c,br.c,sl]),?_⟩;simp only[oJ,pG,aY];refine so B λv7 y3 E N7 c7=>?_;refine qr c7 rfl (oC o) λM F am=>?_;have m:=F.kq (E.kq w);have an:=F.kq (E.kq R);have g:=F.kq (E.kq P);have af:=F.len.trans (E.len.trans B);have g0:∀{j:Nat},iQ j M (.p (6,D) 0 0)=V (.p (6,D) 0 j):=λ{j}=>(by rw[rR,g];simp);have g1:kb J M (.p (6,D) 0 0)=V (iv e.aq):=(by rw[aC5,g];rfl);have g5:kb J M (.p (6,D) 0 5)=V (sl ci e.dI):=(by rw[aC5,g];rfl);have g6:kb J M (.p (6,D) 0 6)=V (sl ci e.ep):=(by rw[aC5,g];rfl);rcases aA:C1 t.aQ (vq t.aQ t.ac k) e with _|_;simp only[aVu,au,aIN,u0,↓jN,ya,bt,↓uL];exact C (by simp);simp only[aVu,au,aIN,u0,↓jA,Aa,aNI m,s m,g0,g1,g5,aQW,ar,rr,↓uL];have ao:∀(b b2:Bool),(b=U->∀n∈e.dI,aOE t.ac k e.aq n)->(b2=U->∀n∈e.ep,aOE t.ac k e.aq n)->b=U->b2=U->aYr t.aQ t.ac (k+1):=λb b2 h1 h2 h3 h4 j d=>(by rcases Nat.lt_succ_iff_lt_or_eq.1 d with h|rfl;exact G j h;rw[he];exact⟨aA,h1 h3,h2 h4⟩);refine⟨⟨by omega,S,by have:=x.1;omega⟩,?_⟩;rintro _ ⟨r1,rfl,aB⟩;refine⟨.inl (by simp[nA,eB,iR,sl]),?_⟩;cases r1 with|false=>simp only[aIN,aY,aMZ,kN,fh,aBA,jN,ya,iC];exact f (by simp)|true=>simp only[aIN,aY,aMZ,kN,fh,aBA,jA,s m,g1,g6,aQW,ar];refine⟨⟨by omega,S,by have:=x.2;omega⟩,?_⟩;rintro _ ⟨r2,rfl,aC⟩;refine⟨.inl (by simp[nA,eB,iR,sl]),?_⟩;cases r2 with|false=>simp only[aIN,aY,kN,Aa,iC];exact f (by simp)|true=>simp only[aIN,aY,fh,Aa,iB,u1,am,aR0 o,ip];refine qr an (oC H) (oC o) λy5 G5 c5=>?_;simp only[a4m,au,cS,aY,↓uL];refine yU A ⟨G5.kq m,⟨cs,c5,?_⟩,G5.len.trans af,ao U U aB aC rfl rfl⟩;show Lk cs (nD t.aQ (vq t.aQ t.ac k) (gd t.ac k)).c;rw[he];exact o
def aUo:FT:=om aXx
def bcf{t Lw K}:=qz aUo aXx t Lw K (j:=by simp+contextual only[ij,Nb])
def aXA(t:O3)(n:Nat)(hp:aN4 t.aQ t.ac/\n<=L t.ac/\∀e∈t.ac,EvL e):Ct 34 [.a t.c,iv n] (·= .a (vq t.aQ t.ac n).c):=by obtain⟨D,hn,E⟩:=hp;have N:=D.wv;have aA:=D.ln;obtain⟨z1,z2,z3,z4,z5,z6⟩:=aP4 N;refine aDq (bhs rfl λs2 H W h0=>?_);show aVy (.p (2,1) 0 0) (iv n) s2 λr=>B1 r= .a (vq t.aQ t.ac n).c;have lE:∀{y:ae},box y (2,1)=V ⟨56,7,U,U,[t.c]⟩->kb J y (.p (2,1) 0 6)=V (sl aP.c t.ac):=λ{y} h=>(by rw[aC5,h];rfl);have O:∀{y:ae},box y (2,1)=V ⟨56,7,U,U,[t.c]⟩->kb (V 6) y (.p (2,1) 0 0)=V (.a t.aQ.c):=λ{y} h=>(by rw[aC5,h];rfl);simp only[aVy];refine so H λv4 S A N4 Z=>?_;have m:=A.len.trans H;have d:=A.kq W;simp only[a4x,aNI d,O d,aY,↓uL];refine jH rfl (a6N m (by omega) (by omega) (by omega) (by omega)) ?_;rintro _ s8 ⟨rfl,o⟩;refine⟨o.len,?_⟩;have K:=o.len.trans m;simp only[a4w];refine so K λi aB w N9 b9=>?_;refine qr b9 rfl rfl λR x c9=>?_;have B:Fx S R [(5,i)]:=(o.trans w).trans x;refine yV n (λk _ y=>Fx S y [(5,i)]/\∃ds,box y (5,i)=V ⟨40,7,U,U,[ds]⟩/\Lk ds (vq t.aQ t.ac k).c) ⟨B,_,c9,aXL _⟩ ?_;rintro k _ y hk ⟨F,ds,u,b⟩;have s:=F.kq d;have d4:=F.kq Z;have P:∀{e:aP},aN (V 7) e.c=V (.a e.c):=rfl;rcases g:Q ((k:Int)<(n:Int)) with _|_;have G:k=n:=bP hk (bw g);subst G;simp only[aVz,aI,au,av4,aY,g,↓iB,u1,u,aR0 b,aj,ip,↓uL];refine qr d4 rfl (oC b) λT z X=>?_;simp only[u0,u1,X,aR0 b,↓uL];exact aQ7 (bcA b T) (ba9 _);have M:k<n:=RF.1 (nt g);have f:k<L t.ac:=(by omega);have C:∀{Y:ae},dG Y (.a ds)= .a (vq t.aQ t.ac k).c:=λ{Y}=>b.arg Y;obtain⟨p2,p3,p4,p5,p6,p7,p8⟩:=(aTz (l:=t.ac) N k (by omega)).snB (by omega);have v:=E _ (dB f);have l9:kb (V 7) y (.p (5,i) 0 0)=V (.a ds):=(by rw[aC5,u];simp[aR0 b]);simp only[aVz,aI,au,av4,aY,g,↓iC,aNI s,O s,lE s,l9,aCh,aC6,P,bh,↓uL];refine⟨dJ f,?_⟩;generalize he:gd t.ac k=e at v;simp only[aQW,ar,C];refine⟨⟨by omega,p2,p3,p4,p5,p6,p7,p8,by have:=v.1;omega,by have:=v.2;omega⟩,?_⟩;rintro _ ⟨cs,rfl,j⟩;refine⟨.inl (by simp[nA,x9 b];simp[eB,iR,aP.c,br.c,sl]),?_⟩;simp only[oJ,pG,aY];refine qr u (oC b) (oC j) λT z c2=>?_;simp only[a4v,↓uL];refine dT (by simp[eL,lb,Qh,cD,dC,dK]) ?_;simp only[au,cS,aY];refine yU M ⟨(F.trans z).mono λq hq=> .inl (by simpa using hq),cs,c2,?_⟩;show Lk cs (nD t.aQ (vq t.aQ t.ac k) (gd t.ac k)).c;rw[he];exact j
def aUq:FT:=gz aXA
def bci{t n Lw K}:=gX aUq aXA t n Lw K (j:=by simp+contextual only[ij,Nb,Int.natCast_inj])
def a7K:dO:=(33,aUo)::(34,aUq)::a7J
def a7t:eJ a7K:=it (rj aXx) (it (aCb aXA) (aX7))
def aWp:=ai @bcf<|ai @bci<|@aQW
section
attribute[local irreducible] aX
def a9T:=bi 16 [(11,([8,9],[1,2]))]
def a4u b k m a o i r s q t p u l n v w x(h:aG)(c:bu) j e d:=dH [km,(bo b),(bo k),km,(bo b),km,(Qh [(.f 34 [] []),m,(gt a 1)]),(bo b),(bo o),km,km,km,(lb U [(gt a 1),i] []),(bo b),(bo r),(bo s),(lb U [q,t] []),(lb U [p,(gt a 1),u] []),(lb U [l,(gt a 1),n,v] []),(lb I [w] []),(lb I [(gt a 0),x] [51]),km] [(0,19)] (aV (gt a 1) i λg=>h [e,g] d/\c [e,g] d<c a j)
def aVx c s R r t b a:=∀_:Rg,ab 6 a c λv=>aJ a v λw=>aU (gt b 1) w λx=>ah x (aB 0 a c λd=>aw 6 a d λe=>aw 7 a c λf=>fV aUq a [f,(gt b 1)] λg=>aB 6 a c λh=>aM a h λi=>aV (gt b 1) s λj=>aB 6 a c λk=>aM a k λl=>aJ a l λm=>rV (AO .min j m) λn=>rV (fo 7 a i (V (gt b 1)) (V n) J) λo=>rV (bM aOQ aQ4 [(0,e),(1,(gt b 1)),(2,g),(3,o)]) λp=>eV (aX a72 1 a [(0,p)]) λq u=>eV (j5 43 aOQ 328 u 51 (gt b 0) q) (a4u c d f b h s k l j m i n e g o p q r t a)) (aE R a [(gt b 0),(iv 0)])
def aVw b c a R:=aw 7 a b λt3=>fV aUo a [t3] λt4=>rV (eO 0 t4) λj=>rV (eO 1 t4) λh=>aO .neq h (iv 0) λi=>ah i (aE R a [(.l [] U U),(iv 12)]) (aU c (iv 1) λd=>ic d c λe=>aC d (aO .gtr e (iv 16)) λf=>aD d (bv U) f λg=>ah g (aE R a [(.l [] U U),(iv 1)]) (lV [(.l [] U U),(iv 0)] a (aVx b c R)))
def bhr{b:List AV}{c:AV}{R:d7}(l0:L b=7)(h:H1 56 7 2 b λd e=>aVw d c e R):Ct 14 [.a b,c] R:=z1 a9T a7t Tryz.func14 l0 h
end
def aV1(l:List am):Prop:=∀w∈l,Po w=U/\hU w
def bhH{t:O3}(a:aN4 t.aQ t.ac)(d:∀e∈t.ac,EvL e){i j:Nat}(g:i<=L t.ac)(k:j<=i+16):Po ⟨t.aQ,i,vq t.aQ t.ac i,(t.ac.take j).drop i⟩=U/\hU ⟨t.aQ,i,vq t.aQ t.ac i,(t.ac.take j).drop i⟩:=by obtain⟨z1,z2,m,n,o,p⟩:=aP4 a.wv;have c:=aTz (l:=t.ac) a.wv i (by have:=a.ln;omega);rw[List.drop_take];refine⟨bhG a g (by omega),by show L t.aQ.bC<_;omega,λl h=>?_,λe f=>?_,?_⟩;have:=c.sy.rd l h;have:=a.ln;omega;have b:=d e (List.mem_of_mem_drop (sA f));exact⟨by have:=b.1;omega,by have:=b.2;omega⟩;have:=c.fu;show L (vq t.aQ t.ac i).bU<_;omega
def spM(vs:List AV)(y:ae):Nat:=(1000-(match gt vs 1 with| .s (.int _ n)=>n|_=>0)).toNat
def aXz(t:O3)(n:Int)(hp:L t.ac<1000000/\∀e∈t.ac,EvL e):Ct 14 [.a t.c,iv n] (λr=>∃(l:List am) (e:Int),r= .t [sl am.c l,iv e]/\aV1 l):=by obtain⟨P,v⟩:=hp;generalize K:(λ(r:AV)=>∃(l:List am) (e:Int),r= .t [sl am.c l,iv e]/\aV1 l)=Qq;refine aDq (bhr rfl λs2 hl G h0=>?_);show aVw (.p (2,1) 0 0) (iv n) s2 λr=>Qq (B1 r);have Z:∀{y:ae},box y (2,1)=V ⟨56,7,U,U,[t.c]⟩->kb (V 7) y (.p (2,1) 0 0)=V (.a t.c):=λ{y} h=>(by rw[aC5,h];rfl);have X:∀{y:ae},box y (2,1)=V ⟨56,7,U,U,[t.c]⟩->kb J y (.p (2,1) 0 6)=V (sl aP.c t.ac):=λ{y} h=>(by rw[aC5,h];rfl);have lW:∀{y:ae},box y (2,1)=V ⟨56,7,U,U,[t.c]⟩->kb (V 6) y (.p (2,1) 0 0)=V (.a t.aQ.c):=λ{y} h=>(by rw[aC5,h];rfl);have B:∀{y:ae},fS y (sl aP.c t.ac)=V (iv (L t.ac)):=cT;have f:∀{y:ae} {e:Int},aE (λr=>Qq (B1 r)) y [.l [] U U,iv e]:=λ{y e}=>aOH (vs':=[sl am.c [],iv e]) rfl rfl (by rw[<-K];exact⟨[],e,rfl,by intro w s;simp at s⟩);simp only[aVw,Z G,aY,aWp,ar,Fa,↓uL];refine⟨⟨P,v⟩,?_⟩;rintro _ ⟨i0,e0,rfl,u⟩;refine⟨.inl (by simp[nA,eB,iR,O3.c,br.c,sl]),?_⟩;simp only[oJ,pG,aY,av6];rcases q0:Q (e0≠0) with _|_;rotate_left;simp only[iC];exact f;have u:=u (by simpa using q0);have aw:=u.ln;simp only[iB];rcases x:Q (n<1) with _|_;rotate_left;simp only[u0,u1,x,↓jN,ya,bt,↓uL];exact f;rcases D:Q (16<n) with _|_;rotate_left;simp only[u0,u1,x,D,↓jA,bt,↓uL];exact f;have h1:1<=n:=(by have:=aPy x;omega);have ap:n<=16:=(by have:=aPy D;omega);simp only[u0,u1,x,D,↓jA,bt,↓uL];let b:aG:=λvs y=>∃(o:AV) (k:List am) (i:Nat),vs=[o,iv i]/\i<=500/\L k<=i/\aV1 k/\gm y 43 15 o (k.map am.c)/\(∀q∈aA o,q.1=51)/\box y (2,1)=V ⟨56,7,U,U,[t.c]⟩/\L y=4096;refine⟨b,spM,⟨_,[],0,rfl,by omega,by simp,by intro w s;simp at s, .inl ⟨rfl,rfl⟩,by simp[aA],G,hl⟩,?_⟩;rintro _ y ⟨o,k,i,rfl,hi,ax,M,g,po,d,A⟩;generalize hI:b=I';rcases E:Q ((i:Int)<(L t.ac:Int)) with _|_;simp only[aVx,aI,au,ck,aNI d,X d,B,av4,aY,E,↓iB,↓uL];refine aOH (vs':=[sl am.c k,iv 0]) (by simp only[ji,mU,aWs g];rfl) (by simp[iX,eN,sl]) ?_;rw[<-K];exact⟨k,0,rfl,M⟩;have z:i<L t.ac:=RF.1 (nt E);have H:dq.wrap ((i:Int)+n)=(i:Int)+n:=eM (by omega) (by omega);obtain⟨m,rfl⟩:∃m:Nat,n=m:=⟨n.toNat,by omega⟩;obtain⟨j,R,S,av⟩:∃j:Nat,(if(L t.ac:Int)<(i:Int)+m then(L t.ac:Int) else(i:Int)+m)=j/\j<=i+16/\i<=j/\j<=L t.ac:=(by split;exact⟨L t.ac,rfl,by omega,by omega,by omega⟩;exact⟨i+m,by omega,by omega,by omega,by omega⟩);have s:=bhH u v (aYB z) S;have N:bM aOQ aQ4 [(0, .a t.aQ.c),(1,iv i),(2, .a (vq t.aQ t.ac i).c),(3,sl aP.c ((t.ac.take j).drop i))]=V (.a (am.c ⟨t.aQ,i,vq t.aQ t.ac i,(t.ac.take j).drop i⟩)):=rfl;simp only[aVx,aI,au,ck,aNI d,X d,lW d,Z d,B,av4,cS,aY,E,↓iC,aWp,ar,Fa,H,aXT,R,slE,↓uL];refine⟨⟨u,aYB z,v⟩, .inl (by simp[nA,eB,iR,O3.c,br.c,sl]),⟨by omega,by omega,by omega⟩,?_⟩;simp only[bh,N,aY];generalize aq:(am.mk t.aQ i (vq t.aQ t.ac i) ((t.ac.take j).drop i))=W at s;have O:aX a72 1 y [(0, .a W.c)]=V (.l ([W].map am.c) U U,y):=ua rfl rfl rfl (by decide) (by simp[am.c,eN,sl]) (by decide);have aEx:∀{l:List am},∀r∈l.map am.c,L r=15:=qW (by intro _;rfl);simp only[O,bQ];refine apQ g A aEx aEx (by simp) (by simp;omega) λC y2 g2 F p2=>?_;simp only[a4u,↓uL];refine dT (by simp[eL,lb]) ?_;simp only[ck,cS,aY,H,↓uL];rw[<-hI];refine⟨⟨C,k++[W],i+m,by simp,by omega,by simp;omega,λw T=>?_,by rw[dg];exact g2.p,λq hq=>(p2 q hq).2,F.keep _ _ (λh=>by have:=po _ h;simp at this) d,F.len.trans A⟩,?_⟩;rcases dF.1 T with h|h;exact M w h;simp at h;subst h;exact s;show(1000-((i:Int)+m)).toNat<(1000-(i:Int)).toNat;omega
def aUp:FT:=pn aXz
def bch{t n Lw K}:=rQ aUp aXz t n Lw K (j:=by simp+contextual only[ij,Nb])
def a7L:dO:=(14,aUp)::a7K
def a7u:eJ a7L:=it (aN0 aXz) (a7t)
def aWq:=ai @bch<|@aWp
section
attribute[local irreducible] aX
def a8K:=bi 3 []
def aZe e t1 R a:=aw 7 a e λc=>sV (aK 7 a t1 c) λb=>aw 7 b t1 λd=>aE R b [d]
def aZf a e f t1 R d b:=sV (aK 7 b a e) λc=>sV (aK 7 c d f) (aZe a t1 R)
def aZg d e R t1 a:=fV aTU a [d] λt3=>fV aTT a [e] λt4=>fV aUi a [t3,t4] λb=>rV (eO 0 b) λg=>rV (eO 1 b) λh=>eV (bs 56 aPb a 5) λc f=>eV (bs 87 NY f 6) (aZf c g h t1 R)
def aZd a b s0 R:=eV (bs 56 aPb s0 4) (aZg a b R)
def bgh{a:AV}{b:AV}{R:d7}(h:H0 λs0=>aZd a b s0 R):Ct 13 [a,b] R:=z0 a8K a7u Tryz.func13 h
end
def aWK(p:List Int)(s:List Int)(D:(∀x∈p,0<=x/\x<256)/\L p<4611686018427387904/\L s<=100):Ct 13 [sl cu p,sl cu s] (λr=>∃t:O3,r= .a t.c/\L t.ac<=100/\∀e∈t.ac,EvL e):=by obtain⟨z,A,W⟩:=D;generalize B:(λ(r:AV)=>∃t:O3,r= .a t.c/\L t.ac<=100/\∀e∈t.ac,EvL e)=Qq;refine aDq (bgh λs0 k T=>?_);simp only[aZd];refine so k λv1 X o R q=>?_;have g:=o.len.trans k;simp only[aZg,aWq,ar];refine⟨⟨z,A⟩,?_⟩;rintro _ ⟨c,rfl,C⟩;refine⟨.inl (by simp[nA,eB,iR,sl]),?_⟩;simp only[Fa];refine⟨by omega,?_⟩;rintro _ ⟨cs,rfl,H⟩;refine⟨.inl (by simp[nA,eB,iR,sl]),?_⟩;simp only[aWq,ar];refine⟨⟨C,by omega⟩,?_⟩;rintro _ ⟨t,st,rfl,l,m⟩;refine⟨.inl (by simp[nA,eB,iR,sl,qt.c,br.c]),?_⟩;simp only[oJ,pG,aY];refine so g λv8 Z h S u=>?_;refine so (h.len.trans g) λP K b F i=>?_;simp only[aZf];refine qr (b.kq u) rfl rfl λM d v=>?_;refine qr (d.kq i) rfl rfl λN f G=>?_;have j:=f.kq v;have w:=f.kq (d.kq (b.kq (h.kq q)));have n:aN (V 7) t.c=V (.a t.c):=rfl;simp only[aZe,u0,u1,j,n,ip,↓uL];refine qr w rfl rfl λO E y=>?_;simp only[u0,u1,y,n,↓uL];refine aOv (v':= .a t.c) rfl (by simp[iX,eN,O3.c,br.c,sl]) ?_;rw[<-B];exact⟨t,rfl,l,m⟩
def aTW:FT:=pn aWK
def bbs{p s Lw K}:=rQ aTW aWK p s Lw K (j:=by simp+contextual only[ij,aQZ])
def a7M:dO:=(13,aTW)::a7L
def a7v:eJ a7M:=it (aN0 aWK) (a7u)
def aRP:=ai @bbs<|@aWq
section
attribute[local irreducible] aX
def a9W:=bi 10 []
def a4A b i k n o p m q j r d s M t3 R a:=dH [(bo b),(bo i),(bo b),(bo k),(bo b),(bo n),(bo o),(lb U [p,(iv 80)] []),(lb U [m,q] []),(Qh [(.f 13 [] []),j,r]),(lb I [] [5]),(lb I [d,s] [])] [(0,10),(1,10),(2,10),(3,10),(4,10),(5,10),(6,10),(7,10),(8,10),(9,10)] (aw 7 a d λt=>ab 3 a b λu=>rV (sO (V .i64) u) λv=>aO .rem v M λw=>aV (iv 1) w λx=>fV aUp a [t,x] λh=>rV (eO 0 h) λc=>rV (eO 1 h) λN=>aJ a c λy=>bf y (iv 0) λz=>ah z (fV aSj a [(.l [] U U),(iv 0)] λA=>sV (aK 15 a t3 A) λe=>aw 15 e t3 λB=>aE R e [B]) (ab 4 a b λC=>rV (sO (V .i64) C) λD=>aJ a c λE=>aO .rem D E λF=>ao 15 a c F λG=>aw 15 a G λH=>sV (aK 15 a t3 H) λg=>aw 15 g t3 λK=>aE R g [K]))
def aVC b o R t3 a:=ab 2 a b λx=>aJ a x λy=>aO .gtr y (iv 0) λz=>ah z (ab 2 a b λq=>ab 3 a b λr=>rV (sO (V .i64) r) λs=>aO .rem s o λt=>aV (iv 1) t λu=>fV aSj a [q,u] λv=>sV (aK 15 a t3 v) λd=>aw 15 d t3 λw=>aE R d [w]) (aB 0 a b λe=>aM a e λf=>aB 1 a b λg=>aM a g λh=>aB 1 a b λi=>aM a i λj=>aJ a j λk=>rV (AO .min k (iv 80)) λl=>rV (fo 1 a h J (V l) J) λm=>fV aTW a [f,m] λn=>eV (bs 56 aPb a 5) λc p=>sV (aK 7 p c n) (a4A b e g i j k h l f m c n o t3 R))
def aVB a b c R:=eV (bs 43 aOQ c 4) (aVC a b R)
def bhu{b:List AV}{c:AV}{R:d7}(l0:L b=5)(h:H1 24 5 2 b λd e=>aVB d c e R):Ct 5 [.a b,c] R:=z1 a9W a7v Tryz.func5 l0 h
end
structure aOA where
 p:List Int
 s:List Int
 c:List Int
 z:Int
 w:Int
 deriving Inhabited
def aOA.cs(v:aOA):List AV:=[sl cu v.p,sl cu v.s,sl cu v.c, .s (.int .u8 v.z), .s (.int .u8 v.w)]
def ByL(l:List Int):Prop:=(∀x∈l,0<=x/\x<256)/\L l<4611686018427387904
structure aSr(v:aOA):Prop where
 p:ByL v.p
 s:ByL v.s
 c:ByL v.c
 z:0<=v.z/\v.z<256
 w:0<=v.w/\v.w<256
def bcQ{v v':aOA}:(v.cs=v'.cs)=(v=v'):=by(cases v;cases v');simp only[aOA.cs,kO,aQZ,AV.s.injEq,Value.int.injEq,aOA.mk.injEq,lS,o8]
def aYl{w:am}:aN (V 15) w.c=V (.a w.c):=rfl
def aXD(v:aOA)(n:Int)(hp:aSr v/\1<=n/\n<=16):Ct 5 [.a v.cs,iv n] (λr=>∃w:am,r= .a w.c/\Po w=U/\hU w):=by obtain⟨B,aN,ay⟩:=hp;generalize hQ:(λ(r:AV)=>∃w:am,r= .a w.c/\Po w=U/\hU w)=Qq;refine aDq (bhu rfl λs2 Z b1 h0=>?_);show aVB (.p (2,1) 0 0) (iv n) s2 λr=>Qq (B1 r);simp only[aVB];refine so Z λH s4 M N4 P=>?_;have aa:=M.len.trans Z;have d:=M.kq b1;have l0:∀{y:ae},box y (2,1)=V ⟨24,5,U,U,[v.cs]⟩->kb J y (.p (2,1) 0 0)=V (sl cu v.p):=λ{y} h=>(by rw[aC5,h];rfl);have l1:∀{y:ae},box y (2,1)=V ⟨24,5,U,U,[v.cs]⟩->kb J y (.p (2,1) 0 1)=V (sl cu v.s):=λ{y} h=>(by rw[aC5,h];rfl);have l2:∀{y:ae},box y (2,1)=V ⟨24,5,U,U,[v.cs]⟩->kb J y (.p (2,1) 0 2)=V (sl cu v.c):=λ{y} h=>(by rw[aC5,h];rfl);have G:∀{y:ae},box y (2,1)=V ⟨24,5,U,U,[v.cs]⟩->kb J y (.p (2,1) 0 3)=V (.s (.int .u8 v.z)):=λ{y} h=>(by rw[aC5,h];rfl);have l4:∀{y:ae},box y (2,1)=V ⟨24,5,U,U,[v.cs]⟩->kb J y (.p (2,1) 0 4)=V (.s (.int .u8 v.w)):=λ{y} h=>(by rw[aC5,h];rfl);have hz:=B.z;have hw:=B.w;have W:dq.wrap v.z=v.z:=eM (by omega) (by omega);have T:dq.wrap v.w=v.w:=eM (by omega) (by omega);have aL:=Int.tmod_nonneg n hz.1;have aM:=Int.tmod_lt_of_pos v.z (show 0<n by omega);have S:dq.wrap (1+v.z.tmod n)=1+v.z.tmod n:=eM (by omega) (by omega);have N:∀{Y:ae},dG Y (.l [] U U)=sl cu []:=rfl;have o:∀{y:ae} {w:am},Po w=U->hU w->box y (4,H)=V ⟨43,15,U,U,[aOQ]⟩->sV (aK 15 y (.p (4,H) 0 0) (.a w.c)) λE=>rV (kb (V 15) E (.p (4,H) 0 0)) λal=>aE (λr=>Qq (B1 r)) E [al]:=λ{y w} u A hb=>(by refine qr hb rfl rfl λz F b=>?_;simp only[u0,u1,b,aYl,ip];refine aOv (v':= .a w.c) rfl (aWb _) ?_;rw[<-hQ];exact⟨w,rfl,u,A⟩);rcases q0:Q ((0:Int)<(L v.c:Int)) with _|_;rotate_left;simp only[aVC,aNI d,l2 d,G d,a6S,av1,aY,q0,↓iC,aS6,W,aPR,aP1,cS,S,aRP,ar,↓uL];refine⟨by omega,B.c,?_⟩;rintro _ ⟨w,rfl,u,A⟩;exact⟨.inl (by simp[nA,eB,iR,sl]),o u A P⟩;simp only[aVC,aNI d,l0 d,l1 d,l2 d,G d,a6S,av1,aY,q0,↓iB,aXT,↓uL];rw[aIk (z:=1) (f:=cu) λ_=>rfl];refine⟨⟨by split<;>omega,by split<;>omega⟩,?_⟩;generalize hk:(if(80:Int)<(L v.s:Int) then(80:Int) else(L v.s:Int))=k;have ax:k<=80:=(by rw[<-hk];split<;>omega);simp only[aRP,ar];refine⟨⟨B.p.1,B.p.2,by rw[gC];omega⟩,?_⟩;rintro _ ⟨t,rfl,aO,ad⟩;refine⟨.inl (by simp[nA,eB,iR,sl]),?_⟩;refine so aa λan aP C aJ O=>?_;refine qr O rfl rfl λak D R=>?_;have i:=D.kq (C.kq d);have m:=D.kq (C.kq P);have lt:kb (V 7) ak (.p (5,an) 0 0)=V (.a t.c):=(by rw[aC5,R];rfl);simp only[a4A,↓uL];refine dT (by simp[eL,lb,Qh,cD,dC,dK,sl]) ?_;simp only[aNI i,G i,l4 i,lt,aY,aS6,W,T,aPR,aP1,cS,S,aRP,ar,Fa,↓uL];refine⟨by omega,⟨by omega,ad⟩,?_⟩;rintro _ ⟨g,e,rfl,hW⟩;refine⟨.inl (by simp[nA,eB,iR,O3.c,br.c,sl]),?_⟩;have ag:∀{y:ae},fS y (sl am.c g)=V (iv (L g)):=cT;simp only[oJ,pG,aY,ag,iM];rcases q1:Q ((L g:Int)=0) with _|_;rotate_left;simp only[iC,aRP,N];refine⟨⟨by simp,by simp⟩,?_⟩;rintro _ ⟨w,rfl,u,A⟩;exact⟨.inl (by simp[nA,eB,iR]),o u A m⟩;have h0:0<L g:=(by have:=aPy q1;omega);have ab:=Int.tmod_nonneg (L g:Int) hw.1;have ac:=Int.tmod_lt_of_pos v.w (show(0:Int)<L g by omega);have X:∀{x:ae} {j:Int} {K:d7},rV (cz 15 x (sl am.c g) (iv j)) K=(aF (L g) j/\K (.q (am.c (gd g j.toNat)))):=aBz λ_=>rfl;simp only[iB,aPR,aP1,X,aC6,aYl,aY];have h:=hW _ (dB (show(v.w.tmod (L g:Int)).toNat<L g by omega));exact⟨by omega,⟨ab,ac⟩,o h.1 h.2 m⟩
def aUs:FT:=pn aXD
def bck{v n Lw K}:=rQ aUs aXD v n Lw K (j:=by simp+contextual only[ij,bcQ])
def a7N:dO:=(5,aUs)::a7M
def aX8:eJ a7N:=it (aN0 aXD) (a7v)
def a6u:=ai @bck<|@aRP
def asD:=bi 5 []
def aYM b a R:=aw 15 a b λt3=>fV xc a [t3] λt4=>cf t4 λc=>ah c (aE R a [(.l [] U U)]) (aw 15 a b λd=>fV BQ a [d] λe=>aE R a [e])
def aJ4{b:List AV}{R:d7}(l0:L b=15)(h:H1 43 15 1 b λc d=>aYM c d R):Ct 7 [.a b] R:=z1 asD aX8 Tryz.func7 l0 h
def a95:=bi 11 [(3,([8],[0,3,7]))]
def a5B t3 b e g R(f:cG)(d:fD) a:=∀_:Rg,aU (gt a 0) t3 λh=>ah h (aw 3 b e λi=>ao 3 b g (gt a 0) λj=>aw 3 b j λk=>rV (wl .eql 2 [(0,0),(1,0),(2,0)] i k) λl=>ah l (aE R b [(gt a 0)]) (aV (gt a 0) (iv 1) λc=>f [c]/\d [c]<d a)) (aE R b [(iv (-1))])
def a5A a c b R:=aJ b a λt3=>lR [(iv 0)] (a5B t3 b c a R)
def bhF{c:AV}{b:List AV}{R:d7}(l1:L b=3)(h:H1 51 3 3 b λd e=>a5A c d e R):Ct 25 [c, .a b] R:=z1 a95 aX8 Tryz.func25 l1 h
def yH{p:Nat->Bool}{k:Nat}{s:Int}(h:s∈fw p k):∃i:Nat,i<k/\p i=U/\s=i:=by obtain⟨i,a,rfl⟩:=dN.1 h;have:=jW.1 a;exact⟨i,fq.1 this.1,this.2,rfl⟩
def D5{w:am}{x:ap}:x∈lr (L w.ac) (L w.ac)↔x.kind=1/\aF (L w.ac) x.a/\aF (L w.ac) x.b/\x.a≠x.b:=by obtain⟨k,a,b⟩:=x;simp only[lr,nB,iI,fq,dN,jW,mn,ap.mk.injEq];constructor;rintro⟨i,g,j,⟨h,e⟩,rfl,rfl,rfl⟩;exact⟨rfl,⟨by omega,by omega⟩,⟨by omega,by omega⟩,e⟩;rintro⟨rfl,c,d,f⟩;refine⟨a.toNat,by have:=c.1;have:=c.2;omega,b.toNat,⟨by have:=d.1;have:=d.2;omega,?_⟩,rfl,kA c.1,kA d.1⟩;rw[kA c.1,kA d.1];exact f
def D6{n:Nat}{x:ap}:x∈mK n↔∃a:Nat,a<n/\x=⟨2,a,0⟩:=by simp only[mK,dN,fq];constructor;rintro⟨a,h,rfl⟩;exact⟨a,h,rfl⟩;rintro⟨a,h,rfl⟩;exact⟨a,h,rfl⟩
def D7{l:List aP}{n:Nat}{x:ap}:x∈kh l n↔∃a:Nat,a<n/\fR (gd l a)=U/\x=⟨3,a,0⟩:=by simp only[kh,dN,jW,fq];constructor;rintro⟨a,⟨h,b⟩,rfl⟩;exact⟨a,h,b,rfl⟩;rintro⟨a,h,b,rfl⟩;exact⟨a,⟨h,b⟩,rfl⟩
def ant{w:am}{n:Nat}{x:ap}:x∈ki w n↔∃a:Nat,a<n/\∃s∈dx w a,x=⟨4,a,s⟩:=by simp only[ki,iI,dN,fq];constructor;rintro⟨a,h,s,b,rfl⟩;exact⟨a,h,s,b,rfl⟩;rintro⟨a,h,s,b,rfl⟩;exact⟨a,h,s,b,rfl⟩
def D8{w:am}{n:Nat}{x:ap}:x∈jp w n↔∃a:Nat,a<n/\pN (gd w.ac a)=U/\∃s∈mR w (gd w.ac a).bb (gd w.ac a).aq,x=⟨5,a,s⟩:=by simp only[jp,iI,fq,pR];constructor;rintro⟨a,h,c⟩;by_cases b:pN (gd w.ac a)=U;rw[bX b] at c;obtain⟨s,d,rfl⟩:=dN.1 c;exact⟨a,h,b,s,d,rfl⟩;rw[cj b] at c;cases c;rintro⟨a,h,b,s,d,rfl⟩;exact⟨a,h,by rw[bX b];exact dN.2 ⟨s,d,rfl⟩⟩
def anE{w:am}(a:L w.ac<=16)(g:L w.init.bm.ay<=4):L (cw w)<2000/\L (jp w (L w.ac))<=320:=by have b:=AS (L w.ac) (L w.ac);have c:=AT (L w.ac);have d:=AU w.ac (L w.ac);have e:=AW w (L w.ac);have f:=Qv w (L w.ac);have m1:L w.ac*L w.ac<=16*16:=xn a a;have h:L w.ac*(1+L w.ac)<=16*17:=xn a (by omega);have i:L w.ac*(L w.init.bm.ay+L w.ac)<=16*20:=xn a (by omega);simp only[cw,P8];omega
def Ec{β:Type}{f:Nat->List β}:∀{n:Nat},(∀a,(f a).Nodup)->(∀a c,a≠c->∀x∈f a,x∉f c)->((aH n).flatMap f).Nodup
 |0,_,_=>by simp
 |n+1,b,d=>by
  rw[a7a,xl]
  refine⟨Ec b d,b n,λx i y j e=>?_⟩
  subst e
  obtain⟨a,h,g⟩:=iI.1 i
  have:=fq.1 h
  exact d a n (by omega) x g j
def wC{α β:Type}{f:α->β}{l:List α}(d:∀a b,f a=f b->a=b)(h:l.Nodup):(l.map f).Nodup:=by rw[List.Nodup,List.pairwise_map];exact Cr.imp (λc e=>c (d _ _ e)) h
def Qw{p:Nat->Bool}{k:Nat}:(fw p k).Nodup:=wC (λa b h=>by omega) (Cr.filter _ GM)
def aEo{w:am}{r:Nat}:(dx w r).Nodup:=by unfold dx;(cases(dh (r:Int) (L w.ac)&&fR (gd w.ac (r:Int).toNat)));simp;simp only[asq];rw[xl];refine⟨?_,Qw,λx a y c e=>?_⟩;(cases oM w (gd w.ac (r:Int).toNat)<;>simp);obtain⟨i,_,_,rfl⟩:=yH c;(cases b:oM w (gd w.ac (r:Int).toNat)<;>rw[b] at a);(cases a);simp at a;omega
def aEp{w:am}{c u:Int}:(mR w c u).Nodup:=by unfold mR iH;rw[xl];refine⟨wC (λa b h=>by omega) Qw,Qw,λx f y g e=>?_⟩;obtain⟨t,d,rfl⟩:=dN.1 f;obtain⟨i,_,_,rfl⟩:=yH d;obtain⟨j,_,_,rfl⟩:=yH g;omega
def aEm{w:am}:(cw w).Nodup:=by have o:(lr (L w.ac) (L w.ac)).Nodup:=(by refine Ec (λa=>?_) λa c l x b d=>?_;exact wC (λi j h=>by simp only[ap.mk.injEq] at h;omega) (Cr.filter _ GM);obtain⟨i,_,rfl⟩:=dN.1 b;obtain⟨j,_,h⟩:=dN.1 d;simp only[ap.mk.injEq] at h;omega);have p:(mK (L w.ac)).Nodup:=wC (λi j h=>by simp only[ap.mk.injEq] at h;omega) GM;have q:(kh w.ac (L w.ac)).Nodup:=wC (λi j h=>by simp only[ap.mk.injEq] at h;omega) (Cr.filter _ GM);have r:(ki w (L w.ac)).Nodup:=(by refine Ec (λa=>wC (λi j h=>by simp only[ap.mk.injEq] at h;omega) aEo) λa c l x b d=>?_;obtain⟨i,_,rfl⟩:=dN.1 b;obtain⟨j,_,h⟩:=dN.1 d;simp only[ap.mk.injEq] at h;omega);have t:(jp w (L w.ac)).Nodup:=(by refine Ec (λa=>?_) λa c l x b d=>?_;unfold pR;split;exact wC (λi j h=>by simp only[ap.mk.injEq] at h;omega) aEp;simp;unfold pR at b d;split at b;split at d;obtain⟨i,_,rfl⟩:=dN.1 b;obtain⟨j,_,h⟩:=dN.1 d;simp only[ap.mk.injEq] at h;omega;(cases d);cases b);have g:∀x∈lr (L w.ac) (L w.ac),x.kind=1:=λx b=>(D5.1 b).1;have k:∀x∈mK (L w.ac),x.kind=2:=λx b=>(by obtain⟨a,_,rfl⟩:=D6.1 b;rfl);have m:∀x∈kh w.ac (L w.ac),x.kind=3:=λx b=>(by obtain⟨a,_,_,rfl⟩:=D7.1 b;rfl);have n:∀x∈ki w (L w.ac),x.kind=4:=λx b=>(by obtain⟨a,_,s,_,rfl⟩:=ant.1 b;rfl);have u:∀x∈jp w (L w.ac),x.kind=5:=λx b=>(by obtain⟨a,_,_,s,_,rfl⟩:=D8.1 b;rfl);unfold cw;rw[xl,xl,xl,xl];refine⟨⟨⟨⟨o,p,λx b y f e=>?_⟩,q,λx b y f e=>?_⟩,r,λx b y f e=>?_⟩,t,λx b y f e=>?_⟩;subst e;have:=g x b;have:=k x f;omega;subst e;have:=m x f;rcases dF.1 b with h|h;have:=g x h;omega;have:=k x h;omega;subst e;have:=n x f;simp only[dF] at b;rcases b with(h|h)|h;have:=g x h;omega;have:=k x h;omega;have:=m x h;omega;subst e;have:=u x f;simp only[dF] at b;rcases b with((h|h)|h)|h;have:=g x h;omega;have:=k x h;omega;have:=m x h;omega;have:=n x h;omega
def aQy(l:List ap)(n:ap):Int:=match l.findIdx? (λx=>Q (x=n)) with|some i=>i|none=> -1
def a6Z{l:List ap}{n:ap}{k:Nat}(a:k<L l)(h:∀j,j<k->gd l j≠n)(b:gd l k=n):aQy l n=k:=by have:l.findIdx? (λx=>Q (x=n))=V k:=(by rw[List.findIdx?_eq_some_iff_getElem];refine⟨a,by rw[<-bT a,b];simp,λj c=>?_⟩;have:=h j c;rw[bT (by omega)] at this;simpa using this);rw[aQy,this]
def a60{l:List ap}{n:ap}(h:∀j,j<L l->gd l j≠n):aQy l n= -1:=by have:l.findIdx? (λx=>Q (x=n))=J:=(by rw[List.findIdx?_eq_none_iff];intro x a;have:=(px (p:=λx=>x≠n)).1 h x a;simpa using this);rw[aQy,this]
def bfo{l:List ap}(h:l.Nodup){k:Nat}(a:k<L l):aQy l (gd l k)=k:=by refine a6Z a (λj b e=>?_) rfl;rw[bT a,bT (by omega)] at e;exact List.pairwise_iff_getElem.1 h j k (by omega) a b e
def a6i{x y:ap}:wl .eql 2 [(0,0),(1,0),(2,0)] (.a x.c) (.a y.c)=V (bv (Q (x=y))):=by obtain⟨a,b,c⟩:=x;obtain⟨d,e,f⟩:=y;have h:∀p q:Int,sS 0 (.int .i64 p) (.int .i64 q)=V (Q (p=q)):=λp q=>rfl;simp[wl,ap.c,nW,h];by_cases g:a=d<;>by_cases i:b=e<;>by_cases j:c=f<;>simp[g,i,j]
def NP(w:am)(k:Po w=U/\hU w):Ct 7 [.a w.c] (λr=>∃t,r= .l ((cw w).map ap.c) t U):=by refine aJ4 rfl λu q h p=>?_;obtain⟨b,d⟩:=k;have f:aN (V 15) w.c=V (.a w.c):=rfl;obtain⟨i,s⟩:=aQA b;obtain⟨g,o,m,n,e⟩:=tC i;have j:kB w/\L w.init.bm.ay<=4/\fN w.aQ w.init=U/\Po w=U/\hU w:=⟨Rr d b,g.sy.th,e,b,d⟩;simp+contextual only[aYM,u0,u1,h,f,ar,a6u,b,d,j,vg,eE,vp,Ca,↓uL];intro t;exact⟨.inl rfl,rfl,t,rfl⟩
def aSc:FT:=om NP
def ax3{w Lw K}:=qz aSc NP w Lw K
def aXH(l:List ap)(n:ap)(i:L l<4611686018427387904):Ct 25 [sl ap.c l, .a n.c] (·=iv (aQy l n)):=by refine bhF rfl λr q f o=>?_;have m:∀{x:ap},aN (V 3) x.c=V (.a x.c):=λ{x}=>rfl;simp only[a5A,cT,aY,↓uL];refine C7 (L l) (λk=>∀j,j<k->gd l j≠n) (by simp) λk p d=>?_;simp+contextual only[a5B,u0,u1,aCm,aC6,f,m,bh,a6i,↓uL];refine⟨λh=>⟨bA h,λb=>?_,λb=>gS (aL h) i (jf d (by simp at b;exactλe=>b e.symm))⟩,λh=>?_⟩;rw[a6Z (aL h) d (by simp at b;exact b.symm)];rw[a60 λj g=>d j (C3 g (bw h))]
def aUu:FT:=gz aXH
def bco{l n Lw K}:=gX aUu aXH l n Lw K
def a7O:dO:=(7,aSc)::(25,aUu)::a7N
def aX9:eJ a7O:=it (rj NP) (it (aCb aXH) (aX8))
def aWr:=ai @ax3<|ai @bco<|@a6u
def a8F:=bi 2 []
def aYL c b a R:=aw 15 a c λd=>fV aSc a [d] λe=>aw 3 a b λf=>fV aUu a [e,f] λg=>aE R a [g]
def bgb{b:List AV}{c:List AV}{R:d7}(l0:L b=15)(l1:L c=3)(h:H2 43 15 2 b 51 3 3 c λd e f=>aYL d e f R):Ct 10 [.a b, .a c] R:=z2 a8F aX9 Tryz.func10 l0 l1 h
def a9V:=bi 11 [(3,([10],[3,8,9]))]
def a4z d f R b(j:aG)(e:bu) k a:=aw 3 a d λg=>aw 3 a f λh=>rV (wl .eql 2 [(0,0),(1,0),(2,0)] g h) λi=>ah i (aE R a [(gt b 0)]) (aV (gt b 0) (iv 1) λc=>j [c] a/\e [c] a<e b k)
def aVA l k d R i j b a:=∀_:Rg,aU (gt b 0) l λf=>ah f (ao 3 a k (gt b 0) λg=>aw 3 a g λh=>eV (bs 51 aBH a 6) λc e=>sV (aK 3 e c h) (a4z c d R b i j a)) (aE R a [(iv (-1))])
def a4y d b a R:=aw 15 a d λe=>fV Cp a [e] λc=>aJ a c λf=>lV [(iv 0)] a (aVA f c b R)
def bht{b:List AV}{c:List AV}{R:d7}(l0:L b=15)(l1:L c=3)(h:H2 43 15 2 b 51 3 3 c λd e f=>a4y d e f R):Ct 11 [.a b, .a c] R:=z2 a9V aX9 Tryz.func11 l0 l1 h
def aN6{α:Type}(f:α->α->Bool):List α->List α->Bool|[],[]=>U|a::l,b::m=>f a b&&aN6 f l m|_,_=>I
def aOC{α:Type}{f:α->α->Bool}(c:∀a b,f a b=U->a=b):∀{l m:List α},aN6 f l m=U->l=m
 |[],[],_=>rfl
 |a::l,b::m,h=>by
  simp only[aN6,bN] at h
  rw[c a b h.1,aOC c h.2]
 |[],_::_,h=>by cases h
 |_::_,[],h=>by cases h
def xqV:Nat->Value->Value->Bool
 |0,_,_=>I
 |n+1,x,y=>
  match x,y with
  | .int k a, .int c b=>Q (k=c)&&Q (a=b)
  | .bool a, .bool b=>a==b
  | .string a, .string b=>Q (a.data.toList=b.data.toList)
  | .agg a, .agg b=>aN6 (xqV n) a.toList b.toList
  | .pointer none, .pointer none=>U
  | .nilFunc, .nilFunc=>U
  | .nilIface, .nilIface=>U
  | .map none, .map none=>U
  |_,_=>I
def bhK:∀{n:Nat} {a b:Value},xqV n a b=U->a=b:=by intro n;induction n with|zero=>intro a b h;cases h|succ n c=>intro a b h;simp only[xqV] at h;(split at h<;>first|rfl|(cases h;done)|skip);simp only[bN,mn] at h;rw[h.1,h.2];rw[beq_iff_eq] at h;rw[h];rename_i a b;have h:=nt h;obtain⟨⟨a⟩⟩:=a;obtain⟨⟨b⟩⟩:=b;exact aNJ (λl=>Value.string ⟨⟨l⟩⟩) h;rename_i a b;have h:=aOC (λa b=>c) h;obtain⟨a⟩:=a;obtain⟨b⟩:=b;exact aNJ (λl=>Value.agg ⟨l⟩) h
def xqA:Nat->AV->AV->Bool
 |0,_,_=>I
 |n+1,x,y=>
  match x,y with
  | .s v, .s w=>xqV 4 v w
  | .u, .u=>U
  | .l r t o, .l D E o'=>(t==E&&o==o')&&aN6 (aN6 (xqA n)) r D
  | .a c, .a e=>aN6 (xqA n) c e
  | .t c, .t e=>aN6 (xqA n) c e
  | .q c, .q e=>aN6 (xqA n) c e
  | .p b i j, .p h z A=>Q (b=h/\i=z/\j=A)
  | .m b i, .m h z=>Q (b=h/\i=z)
  | .g k b i j, .g B h z A=>Q (k=B/\b=h/\i=z/\j=A)
  | .f k c d, .f B e C=>Q (k=B)&&(aN6 (xqA n) c e&&aN6 (xqA n) d C)
  |_,_=>I
def aYn:∀{n:Nat} {a b:AV},xqA n a b=U->a=b:=by intro n;induction n with|zero=>intro a b h;cases h|succ n c=>intro a b h;simp only[xqA] at h;split at h;rw[bhK h];rfl;simp only[bN,beq_iff_eq] at h;rw[h.1.1,h.1.2,aOC (λa b=>aOC (λa b=>c)) h.2];rw[aOC (λa b=>c) h];rw[aOC (λa b=>c) h];rw[aOC (λa b=>c) h];obtain⟨d,e,f⟩:=nt h;rw[d,e,f];obtain⟨d,e⟩:=nt h;rw[d,e];obtain⟨d,e,f,g⟩:=nt h;rw[d,e,f,g];simp only[bN] at h;rw[nt h.1,aOC (λa b=>c) h.2.1,aOC (λa b=>c) h.2.2];cases h
def eqB(x y:bY):Bool:=Q (x.elem=y.elem/\x.size=y.size/\x.own=y.own/\x.var=y.var)&&aN6 (aN6 (xqA 9)) x.aa y.aa
def bbh{x y:bY}(h:eqB x y=U):x=y:=by unfold eqB at h;rw[bN] at h;obtain⟨c,d,e,f⟩:=nt h.1;have g:=aOC (λa b=>aOC (λa b=>aYn)) h.2;(cases x;cases y);simp only at c d e f g;subst c d e f g;rfl
def kpS(a b:vG):Bool:=Nat.ble a.lB b.lB&&(aH (a.lB+1)).all λv=>match a.val v with|none=>U|some x=>match b.val v with|some y=>eqB x y|none=>I
def kpB:ae->ae->Bool:=eqLs' kpS
where eqLs' (f:vG->vG->Bool):ae->ae->Bool
 |[],[]=>U
 |a::l,b::m=>f a b&&eqLs' f l m
 |_,_=>I
def a6R:∀{Y Y':ae},kpB Y Y'=U->L Y'=L Y/\∀k,kpS (aZ Y k) (aZ Y' k)=U
 |[],[],_=>⟨rfl,λk=>by simp only[aZ,List.getD_nil];rfl⟩
 |a::l,b::m,h=>by
  have h:(kpS a b&&kpB.eqLs' kpS l m)=U:=h
  rw[bN] at h
  have c:=a6R (Y:=l) (Y':=m) h.2
  refine⟨by simp[c.1],λk=>?_⟩
  cases k with
  |zero=>exact h.1
  |succ k=>exact c.2 k
 |[],_::_,h=>by cases h
 |_::_,[],h=>by cases h
def bdG{Y Y':ae}(h:kpB Y Y'=U):Kp Y Y':=by obtain⟨e,d⟩:=a6R h;refine⟨e,λk=>?_,λb x c=>?_⟩;have:=d k;unfold kpS at this;rw[bN] at this;exact Nat.le_of_ble_eq_true this.1;have h:=d b.1;unfold kpS at h;rw[bN,dV] at h;unfold box at c⊢;split at c;rename_i f;rw[bX (gl f (Nat.le_of_ble_eq_true h.1))];have a:=h.2 b.2 (fq.2 (by omega));rw[c] at a;simp only at a;split at a;rename_i y g;rw[g,bbh a];(cases a);cases c
section
variable(P:Program)(G:nn)
abbrev aPc:=FuncId->List AV->ae->Nat->Option (AV×ae)
abbrev aQb:=Code->List AV->ae->Option (Exit×List AV×ae)
def aWf(a:aPc)(b:List AV)(Y:ae)(o:Oper):Option (AV×ae):=
 match dz P (du G b) Y o.op with
 |some d=>V (d,Y)
 |none=>
  match eA P (du G b) Y (o.dst.getD 0) o.op with
  |some p=>V p
  |none=>
   match o.op with
   | .call c=>
    match c.callee with
    | .value f=>
     match du G b f with
     | .f fn first cap=>a fn (first++c.args.toList.map (du G b)++cap) Y (o.dst.getD 0)
     |_=>J
    |_=>J
   |_=>J
def aS9(b:aPc)(ops:Array Oper)(a:List AV)(Y:ae)(o:Oper):Option (List AV×ae):=
 match rh ops a o with
 |some true=>match aWf P G b a Y o with|some p=>V (ge a o.dst p.1,p.2)|none=>J
 |some false=>V (ge a o.dst (.t []),Y)
 |none=>J
def aRK(a:aPc)(ops:Array Oper):List Oper->List AV->ae->Option (List AV×ae)
 |[],b,Y=>V (b,Y)
 |o::l,b,Y=>match aS9 P G a ops b Y o with|some p=>aRK a ops l p.1 p.2|none=>J
def aS8(b:aPc)(ops:Array Oper):List Oper->List fY->List AV->ae->Option (List fY×List AV×ae)
 |[],a,c,Y=>V (a,c,Y)
 |o::l,a,c,Y=>match aS9 P G b ops c Y o with|some p=>aS8 b ops l (a++[C4 P G ops c Y o]) p.1 p.2|none=>J
def aQ0:Exit->Bool| .normal| .ret=>U|_=>I
def a6k(Y:ae)(d:Nat)(c:ae)(r:AV):Option (AV×ae):=
 match r with
 | .l [] true true=>V (.l [] U U,Y)
 | .m b n=>match box c b with|some x=>if qA x=U then V (.m (lA Y d) n,put Y d x) else J|none=>J
 | .a cs=>if(wn cs).Nodup then(match gU c d Y cs with|some p=>V (.a p.1,p.2)|none=>J) else J
 |_=>J
abbrev aSo:=List (FuncId×List AV×AV)
structure aPP where
 l:aSo
 cl:List (FuncId×TypeId×Nat)
def aTq(fn:FuncId)(ys:List AV):aSo->Option AV|[]=>J|p::T=>bif pp fn p.1&&aN6 (xqA 9) ys p.2.1 then V p.2.2 else aTq fn ys T
def aRG(fn:FuncId):List (FuncId×TypeId×Nat)->Option (TypeId×Nat)|[]=>J|p::T=>bif pp fn p.1 then V p.2 else aRG fn T
def aWe(Y:ae)(d:Nat)(p:TypeId×Nat)(ys:List AV):Option (AV×ae):=
 match ys with
 |[.l [] false false]=>V (.l [] U U,Y)
 |[.l (r::aa) false false]=>
  if((r::aa).all λr=>pp (L r) p.2&&r.all gY)=U/\L (r::aa)<1000000 then V (.m (lA Y d) (L (r::aa)),put Y d ⟨p.1,p.2,U,I,r::aa⟩) else J
 |_=>J
def aRJ(T:aPP)(E:aQb):aPc:=λfn xs Y d=>
 match P.funcs[fn]? with
 |none=>J
 |some f=>
  match f.body with
  |none=>J
  |some c=>
   if(f.name== "runtime.NumGoroutine")=U then J
   else if G.nw fn=U then
    if(xs.map (dG Y)).all iX=U/\y7 Y d=U then
     match aRG fn T.cl with
     |some p=>aWe Y d p (xs.map (dG Y))
     |none=>
     match E c (start f (xs.map (dG Y))) eK with
     |some (e,b,a)=>if aQ0 e=U then(match wG P f b a with|some r=>a6k Y d a r|none=>J) else J
     |none=>J
    else J
   else if G.imp fn=U then
    match E c (start f xs) Y with
    |some (e,b,a)=>
     if aQ0 e=U then
      match wG P f b a with
      |some r=>
       if L a=L Y then
        if G.rd fn=U then(if kpB Y (kills a (eB r))=U/\kG (eR a r)=U then V (eR a r,Y) else J)
        else V (r,a)
       else J
      |none=>J
     else J
    |none=>J
   else if(xs.map (dG Y)).all iX=U/\L (xs.map (dG Y))<=f.ntmps then
    match aTq fn (xs.map (dG Y)) T.l with
    |some r=>if kG r=U/\(nA Y xs=I\/uN r=U) then V (r,Y) else J
    |none=>
    match E c (start f (xs.map (dG Y))) (ly f) with
    |some (e,b,a)=>
     if aQ0 e=U then
      match yB P f b a with
      |some r=>if kG r=U/\(nA Y xs=I\/uN r=U) then V (r,Y) else J
      |none=>J
     else J
    |none=>J
   else J
def aRL(T:aPP)(E:aQb):aQb:=λc a Y=>
 match c with
 | .skip=>V (.normal,a,Y)
 | .label _=>V (.normal,a,Y)
 | .region _ ops false=>match aRK P G (aRJ P G T E) ops ops.toList a Y with|some p=>V (.normal,p.1,p.2)|none=>J
 | .region _ ops true=>
  if rG G ops.toList=U then match aRK P G (aRJ P G T E) ops ops.toList a Y with|some p=>V (.normal,p.1,p.2)|none=>J
  else match aS8 P G (aRJ P G T E) ops ops.toList [] a Y with|some p=>if xG ops p.1=U then V (.normal,p.2.1,p.2.2) else J|none=>J
 | .seq x y=>match E x a Y with|some (.normal,τ',Y')=>E y τ' Y'|r=>r
 | .cond c x y=>match du G a c with| .s (.bool t)=>if t=U then E x a Y else E y a Y|_=>J
 | .block b c=>match E c a Y with|some (.exit j,τ',Y')=>if j=b then V (.normal,τ',Y') else V (.exit j,τ',Y')|r=>r
 | .loop c=>match E c a Y with|some (.normal,τ',Y')=>E (.loop c) τ' Y'|r=>r
 | .exit b=>V (.exit b,a,Y)
 | .ret=>V (.ret,a,Y)
 |_=>J
def ev(T:aPP):Nat->aQb|0=>λ_ _ _=>J|n+1=>aRL P G T (ev T n)
end
section
variable{P:Program}{G:nn}
def Xcl(P:Program)(G:nn)(fn:FuncId)(xs:List AV)(Y:ae)(d:Nat)(K:be):Prop:=
 if G.nw fn=U then tS P G fn xs Y d K else if G.imp fn=U then tR P G fn xs Y d K else Kh P G fn xs Y λr=>K r Y
def aRe(P:Program)(G:nn)(a:aPc):Prop:=∀fn xs Y d r Y',a fn xs Y d=V (r,Y')->∀K:be,K r Y'->Xcl P G fn xs Y d K
def aUx(P:Program)(G:nn)(E:aQb):Prop:=∀c a Y e τ' Y',E c a Y=V (e,τ',Y')->∀Q:QX,Q e τ' Y'->iq P G c Q a Y
def bbm{a:aPc}(j:aRe P G a){g:List AV}{Y Y':ae}{o:Oper}{r:AV}(h:aWf P G a g Y o=V (r,Y')){K:be}(b:K r Y'):j0 P G g Y o K:=by unfold aWf at h;unfold j0;split at h;rename_i m e;cases h;rw[e];exact b;rename_i e;rw[e];simp only;split at h;rename_i p d;cases h;rw[d];exact b;rename_i d;rw[d];simp only;split at h;rename_i c l;rw[l];simp only;split at h;rename_i f k;rw[k];simp only;split at h;rename_i fn first cap i;rw[i];exact j _ _ _ _ _ _ h K b;(cases h);(cases h);cases h
def a6l{a:aPc}(e:aRe P G a){ops:Array Oper}{d τ':List AV}{Y Y':ae}{o:Oper}(h:aS9 P G a ops d Y o=V (τ',Y')){K:aG}(c:K τ' Y'):kS P G ops o K d Y:=by unfold aS9 at h;unfold kS;split at h;rename_i b;rw[b];simp only;split at h;rename_i p f;cases h;exact bbm e f c;(cases h);rename_i b;rw[b];cases h;exact c;cases h
def a6m{a:aPc}(d:aRe P G a){ops:Array Oper}{K:aG}:∀{l:List Oper} {b τ':List AV} {Y Y':ae},aRK P G a ops l b Y=V (τ',Y')->K τ' Y'->rE P G ops l K b Y:=by intro l;induction l with|nil=>intro b τ' Y Y' h c;cases h;exact c|cons o l f=>intro b τ' Y Y' h c;simp only[aRK] at h;split at h;rename_i p e;exact a6l d (τ':=p.1) (Y':=p.2) e (f h c);cases h
def bbk{b:aPc}(e:aRe P G b){ops:Array Oper}{K:List fY->aG}:∀{l:List Oper} {a ls:List fY} {c τ':List AV} {Y Y':ae},aS8 P G b ops l a c Y=V (ls,τ',Y')->K ls τ' Y'->qq P G ops l a K c Y:=by intro l;induction l with|nil=>intro a ls c τ' Y Y' h d;cases h;exact d|cons o l g=>intro a ls c τ' Y Y' h d;simp only[aS8] at h;split at h;rename_i p f;exact a6l e (τ':=p.1) (Y':=p.2) f (g h d);cases h
def aWD{e:Exit}(h:aQ0 e=U):e= .normal\/e= .ret:=by cases e<;>first|exact .inl rfl|exact .inr rfl|cases h
def a6j(p:tQ P){E:aQb}(j:aUx P G E){fn:FuncId}{f:Func}{c:Code}(n:P.funcs[fn]?=V f)(l:f.body=V c)(o:¬(f.name== "runtime.NumGoroutine")=U){xs g:List AV}{Y d:ae}{e:Exit}{r:AV}(h:E c (start f xs) Y=V (e,g,d))(m:aQ0 e=U)(i:wG P f g d=V r):cZ P G fn xs Y r d:=by obtain⟨q,Y',⟨rfl,rfl⟩,k⟩:=aBf (R:=λa b=>a=r/\b=d) p n l (by simpa using o) (j _ _ _ _ _ _ h (QB P f λa b=>a=r/\b=d) (by rcases aWD m with rfl|rfl<;>exact⟨r,i,rfl,rfl⟩));exact k
def aYw(P:Program)(G:nn)(T:aSo):Prop:=∀p∈T,zm P G p.1 p.2.1 (·=p.2.2)
def a78(P:Program)(G:nn)(T:List (FuncId×TypeId×Nat)):Prop:=∀p∈T,∀aa:List (List AV),(∀r∈aa,L r=p.2.2)->L aa<1000000->∃r a,cZ P G p.1 [.l aa I I] eK r a/\(aa=[]->r= .l [] U U)/\(aa≠[]->∃b,r= .m b (L aa)/\box a b=V ⟨p.2.1,p.2.2,U,I,aa⟩)
structure aSn(P:Program)(G:nn)(T:aPP):Prop where
 fp:∀fn,G.fp fn=J
 l:aYw P G T.l
 cl:a78 P G T.cl
def a6Q{fn:FuncId}{ys:List AV}{r:AV}:∀{T:aSo},aYw P G T->aTq fn ys T=V r->zm P G fn ys (·=r)
 |[],_,h=>by cases h
 |p::T,d,h=>by
  simp only[aTq] at h
  cases c:(pp fn p.1&&aN6 (xqA 9) ys p.2.1) with
  |true=>
   rw[c] at h
   rw[bN] at c
   have e:=Nat.eq_of_beq_eq_true c.1
   have f:=aOC (λa b=>aYn) c.2
   obtain rfl:=xu h
   subst e f
   exact d p (by simp)
  |false=>
   rw[c] at h
   exact a6Q (λq g=>d q (by simp[g])) h
def a6a{fn:FuncId}{p:TypeId×Nat}:∀{T:List (FuncId×TypeId×Nat)},aRG fn T=V p->(fn,p)∈T
 |[],h=>by cases h
 |q::T,h=>by
  simp only[aRG] at h
  cases a:pp fn q.1 with
  |true=>
   rw[a] at h
   have b:=Nat.eq_of_beq_eq_true a
   obtain rfl:=xu h
   rw[b];simp
  |false=>rw[a] at h;exact List.mem_cons_of_mem _ (a6a h)
def bbj{T:aPP}(m:aSn P G T){fn:FuncId}{p:TypeId×Nat}{xs:List AV}{Y Y':ae}{d:Nat}{r:AV}(q:aRG fn T.cl=V p)(j:(xs.map (dG Y)).all iX=U/\y7 Y d=U)(h:aWe Y d p (xs.map (dG Y))=V (r,Y')){K:be}(i:K r Y'):zI P G fn xs Y d K:=by have g:=m.cl _ (a6a q);refine⟨j.1,j.2,?_⟩;generalize xs.map (dG Y)=ys at*;unfold aWe at h;split at h;(cases h);obtain⟨r,c,e,k,_⟩:=g [] (by simp) (by decide);exact⟨r,c,e, .inl ⟨k rfl,i⟩⟩;rename_i s aa;split at h;rename_i a;cases h;obtain⟨a,o⟩:=a;rw[dV] at a;obtain⟨r,c,e,_,l⟩:=g (s::aa) (λr f=>Nat.eq_of_beq_eq_true (bN _ _▸a r f).1) o;obtain⟨b,rfl,n⟩:=l (by simp);refine⟨_,c,e, .inr ⟨b,_,_,rfl,n,?_,i⟩⟩;simp only[qA,kN,Bool.true_and,dV];intro r f;have:=a r f;rw[bN,dV] at this;exact this.2;(cases h);cases h
def bbi(C:tQ P){T:aPP}(t:aSn P G T){E:aQb}(v:aUx P G E):aRe P G (aRJ P G T E):=by intro fn xs Y d r Y' h K j;unfold aRJ at h;unfold Xcl;split at h;(cases h);rename_i f y;split at h;(cases h);rename_i c w;split at h;(cases h);rename_i A;split at h;rename_i D;rw[bX D];split at h;rename_i a;split at h;rename_i p B;exact .inl (bbj t B a h j);split at h;rename_i e O s q;split at h;rename_i m;split at h;rename_i u g;have k:=a6j C v y w A q m g;unfold a6k at h;split at h;(cases h);exact .inl ⟨a.1,a.2,_,_,k, .inl ⟨rfl,j⟩⟩;rename_i b n;split at h;rename_i x N;split at h;rename_i F;cases h;exact .inl ⟨a.1,a.2,_,_,k, .inr ⟨b,n,x,rfl,N,F,j⟩⟩;(cases h);(cases h);rename_i cs;split at h;rename_i M;split at h;rename_i p B;cases h;exact .inr (.inr ⟨a.1,a.2,cs,s,p.1,p.2,k,M,B,j⟩);(cases h);(cases h);(cases h);(cases h);(cases h);(cases h);(cases h);rename_i D;rw[cj D];split at h;rename_i z;rw[bX z];split at h;rename_i e O s q;split at h;rename_i m;split at h;rename_i u g;have k:=a6j C v y w A q m g;split at h;rename_i H;split at h;rename_i o;split at h;rename_i i;cases h;unfold tR aPf;rw[t.fp fn];exact⟨u,s,k,H,by rw[bX o];exact⟨bdG i.1,i.2,j⟩⟩;(cases h);rename_i o;cases h;unfold tR aPf;rw[t.fp fn];exact⟨_,_,k,H,by rw[cj o];exact j⟩;(cases h);(cases h);(cases h);(cases h);rename_i z;rw[cj z];split at h;rename_i a;split at h;rename_i u g;split at h;rename_i i;cases h;exact⟨_,a6Q t.l g,a.1,i.1,i.2,j⟩;(cases h);split at h;rename_i e O s q;split at h;rename_i m;split at h;rename_i u g;split at h;rename_i i;cases h;refine⟨_,aBh C y w (by simpa using A) a.2 (v _ _ _ _ _ _ q (QR P f (·=_)) ?_),a.1,i.1,i.2,j⟩;rcases aWD m with rfl|rfl<;>exact⟨_,g,i.1,rfl⟩;(cases h);(cases h);(cases h);(cases h);cases h
def bdK{p:Nat->Prop}:∀{n:Nat},p n->∃m,p m/\∀k,p k->m<=k:=by intro n;induction n using Nat.strongRecOn with|_ n e=>intro h;by_cases b:∃k,k<n/\p k;obtain⟨k,a,d⟩:=b;exact e k a d;exact⟨n,h,λk a=>Nat.le_of_not_lt λc=>b ⟨k,c,a⟩⟩
def bbl(R:tQ P){T:aPP}(M:aSn P G T):∀n,aUx P G (ev P G T n):=by intro n;induction n using Nat.strongRecOn with|_ n F=>cases n with|zero=>intro c b Y e τ' Y' h;cases h|succ n=>have i:=F n (Nat.lt_succ_self n);have A:=bbi (G:=G) R M i;intro c b Y e τ' Y' h Q f;have H:=h;change aRL P G T (ev P G T n) c b Y=_ at h;unfold aRL at h;split at h;(cases h;exact f);(cases h;exact f);split at h;rename_i p r;cases h;exact a6m A r f;(cases h);show sF P G _ _ _ _;unfold sF;split at h;rename_i B;rw[bX B];split at h;rename_i p r;cases h;exact a6m A r f;(cases h);rename_i B;rw[cj B];split at h;rename_i p r;split at h;rename_i N;cases h;exact bbk A r ⟨N,f⟩;(cases h);(cases h);rename_i x y;show iq P G x _ _ _;split at h;rename_i o q d;exact i _ _ _ _ _ _ d _ (i _ _ _ _ _ _ h _ f);rename_i l;refine i _ _ _ _ _ _ h _ ?_;(cases e<;>first|exact f|exact mp h (l _ _));rename_i cc x y;show(match du G b cc with| .s (.bool t)=>if t=U then iq P G x Q b Y else iq P G y Q b Y|_=>False);split at h;rename_i t X;split at h;rename_i d;rw[bX d];exact i _ _ _ _ _ _ h _ f;rename_i d;rw[cj d];exact i _ _ _ _ _ _ h _ f;(cases h);rename_i S c;show iq P G c _ _ _;split at h;rename_i j o q d;refine i _ _ _ _ _ _ d _ ?_;show(if j=S then Q .normal _ _ else Q (.exit j) _ _);split at h;rename_i C;cases h;rw[bX C];exact f;rename_i C;cases h;rw[cj C];exact f;rename_i l;refine i _ _ _ _ _ _ h _ ?_;(cases e<;>first|exact f|exact mp h (l _ _ _));rename_i c;clear h;let z:List AV->ae->Nat->Prop:=λb Y m=>ev P G T m (.loop c) b Y=V (e,τ',Y');let a:aG:=λb Y=>∃m,m<=n+1/\z b Y m;have g:∀b Y,∃m,a b Y->z b Y m/\(∀k,z b Y k->m<=k):=(by intro b Y;by_cases hI:a b Y;obtain⟨m,_,D⟩:=hI;obtain⟨k,d,u⟩:=bdK D;exact⟨k,λ_=>⟨d,u⟩⟩;exact⟨0,λh=>mp h hI⟩);refine⟨a,λb Y=>Classical.choose (g b Y),⟨n+1,dA _,H⟩,?_⟩;intro b Y hI;obtain⟨d,u⟩:=Classical.choose_spec (g b Y) hI;generalize D:Classical.choose (g b Y)=m at d u;have W:m<=n+1:=(by obtain⟨k,O,E⟩:=hI;exact gl (u k E) O);(cases m with|zero=>(cases d)|succ k=>have v:=F k (by omega);change aRL P G T (ev P G T k) (.loop c) b Y=_ at d;unfold aRL at d;simp only at d;split at d;rename_i o q K;refine v _ _ _ _ _ _ K _ ?_;have w:a o q:=⟨k,by omega,d⟩;refine⟨w,?_⟩;have:=(Classical.choose_spec (g o q) w).2 k d;show Classical.choose (g o q)<Classical.choose (g b Y);rw[D];omega;rename_i l;refine v _ _ _ _ _ _ d _ ?_;cases e<;>first|exact f|exact mp d (l _ _));(cases h;exact f);(cases h;exact f);cases h
end
def aYk{w:am}(d:Po w=U)(f:hU w):(kB w/\L w.init.bm.ay<=4/\fN w.aQ w.init=U)/\L (cw w)<2000:=by obtain⟨e,i⟩:=aQA d;obtain⟨a,b,g,h,c⟩:=tC e;exact⟨⟨Rr f d,a.sy.th,c⟩,(anE b a.sy.th).1⟩
def aWG(w:am)(n:ap)(h:Po w=U/\hU w):Ct 10 [.a w.c, .a n.c] (·=iv (aQy (cw w) n)):=by obtain⟨d,b⟩:=h;obtain⟨l,j⟩:=aYk d b;refine bgb rfl rfl λo m f g k=>?_;have e:aN (V 15) w.c=V (.a w.c):=rfl;have i:aN (V 3) n.c=V (.a n.c):=rfl;simp only[aYL,u0,u1,f,g,e,i,ip,ar,aWr,d,b,vg,↓uL];intro t;exact⟨.inl rfl,by omega,trivial⟩
def aYs:FT:=gz aWG
def bbo{w n Lw K}:=gX aYs aWG w n Lw K
def aXB(w:am)(n:ap)(S:Po w=U/\hU w):Ct 11 [.a w.c, .a n.c] (·=iv (aQy (cw w) n)):=by obtain⟨T,P⟩:=S;obtain⟨O,X⟩:=aYk T P;refine bht rfl rfl λh R D E Z=>?_;have A:aN (V 15) w.c=V (.a w.c):=rfl;have B:∀{n:ap},aN (V 3) n.c=V (.a n.c):=rfl;simp only[a4y,u0,u1,D,A,ip,ar,aWr,O,vg,↓uL];intro t;refine⟨.inl rfl,?_⟩;have p:box h (3,1)=V ⟨51,3,U,U,[n.c]⟩:=E;refine yV (L (cw w)) (λk _ y=>Fx h y []/\∀j,j<k->gd (cw w) j≠n) ⟨Fx.refl _ _,λj g=>mp g (Nat.not_lt_zero _)⟩ ?_;rintro k _ y hk ⟨F,e⟩;have M:=F.kq p;have s:=F.len.trans R;have r:∀{x:ae} {j:Int} {K:d7},rV (cz 3 x (.l ((cw w).map ap.c) t U) (iv j)) K=(aF (L (cw w)) j/\K (.q (ap.c (gd (cw w) j.toNat)))):=aBz (f:=ap.c) (Y:=y) λ_=>rfl;rcases d:Q ((k:Int)<(L (cw w):Int)) with _|_;simp only[aVA,aI,au,av4,aY,d,↓iB,↓uL];rw[a60 λj g=>e j (C3 g (bw d))];exact⟨rfl,rfl⟩;have b:k<L (cw w):=RF.1 (nt d);simp only[aVA,aI,au,av4,aY,d,↓iC,r,aC6,B,bh,↓uL];refine⟨dJ b,?_⟩;refine so s λv y1 m C G=>?_;refine qr G rfl rfl λW o H=>?_;have i:Fx h W []:=((F.trans m).trans o).mono λq u=>(by simp at u;subst u;exact .inr (C.old F).no);have N:=o.kq (m.kq M);simp only[a4z,au,u1,H,N,B,aY,ip,a6i,↓uL];rcases z:Q (gd (cw w) k=n) with _|_;simp only[iB];exact yU b ⟨i,jf e (by simpa using z)⟩;simp only[iC];rw[a6Z b e (by simpa using z)]
def aYt:FT:=gz aXB
def bcj{w n Lw K}:=gX aYt aXB w n Lw K
def yL(k:Nat):List Int:=(aH 4).map λi=>if i<k then 1 else 0
def uY(k:Nat):List bF:=(aH 4).map λi=>⟨if i<k then 2 else if i=0 then 1 else 0,0,I⟩
def ku:am:=⟨dE,4,⟨⟨er 3 ⟨-1,[]⟩,-1,[I],uY 4⟩,[0,1,0,0,0],[0],yL 4⟩,[⟨0,4,0,1,0,[],[]⟩,⟨1,4,0,2,6,[],[]⟩]⟩
def aoM:Po ku=U:=by kernel_rfl
def aoL:hU ku:=by refine⟨by decide,?_,?_,by decide⟩;intro l b;have:l=⟨-1,[]⟩:=List.eq_of_mem_replicate b;subst this;decide;intro e a;have:e=⟨0,4,0,1,0,[],[]⟩\/e=⟨1,4,0,2,6,[],[]⟩:=(by simpa[ku] using a);rcases this with rfl|rfl<;>exact⟨by decide,by decide⟩
def a6e{fn:Nat}{ys:List AV}{r:AV}(h:Ct fn ys (·=r)):zm aS GG fn ys (·=r):=by obtain⟨a,rfl,_,h⟩:=h;exact h
def aS5{fn:Nat}{e:TypeId}{z:Nat}(h:∀aa:List (List AV),(∀r∈aa,L r=z)->L aa<1000000->∃r a,bc a e z r aa/\cZ aS GG fn [.l aa I I] eK r a/\(aa=[]->r= .l [] U U))(aa:List (List AV))(f:∀r∈aa,L r=z)(i:L aa<1000000):∃r a,cZ aS GG fn [.l aa I I] eK r a/\(aa=[]->r= .l [] U U)/\(aa≠[]->∃b,r= .m b (L aa)/\box a b=V ⟨e,z,U,I,aa⟩):=by obtain⟨r,a,g,j,d⟩:=h aa f i;refine⟨r,a,j,d,λc=>?_⟩;rcases g with⟨e,_⟩|g;exact mp e c;exact g
def knT:aPP:=⟨[(15,[.a ku.c],bv U),(23,[.a ku.c],bv U)],[(98,3,1),(218,4,1),(219,105,3),(136,2,1)]⟩
def bdF:aSn aS GG knT:=by refine⟨λ_=>rfl,λp c=>?_,λp c=>?_⟩;simp only[knT,eW,ql,y6] at c;rcases c with rfl|rfl;exact a6e (PW ku ⟨aoM,aoL⟩);have h:=O8 ku aoL;rw[aoM] at h;exact a6e h;simp only[knT,eW,ql,y6] at c;rcases c with rfl|rfl|rfl|rfl;exact aS5 λaa a b=>aCM a b;exact aS5 λaa a b=>aCL a b;exact aS5 λaa a b=>aCK a b;exact aS5 λaa a b=>aCN a b
noncomputable def aX0(f:Func)(x:AV):Bool:=match f.body with
 |some c=>match ev aS GG knT 3000 c (start f []) (ly f) with
  |some p=>aQ0 p.1&&(match yB aS f p.2.1 p.2.2 with|some r=>xqA 9 r x|none=>I)
  |none=>I
 |none=>I
def be9{fn:Nat}{f:Func}{x:AV}(j:aS.funcs[fn]?=V f)(k:(f.name== "runtime.NumGoroutine")=I)(d:kG x=U)(h:aX0 f x=U):Ct fn [] (·=x):=by unfold aX0 at h;split at h;rename_i c i;split at h;rename_i p l;obtain⟨e,m,Y⟩:=p;simp only[bN] at h;obtain⟨g,a⟩:=h;split at a;rename_i r b;obtain rfl:=aYn a;refine aBg ready j i k (Nat.zero_le _) (bbl ready bdF 3000 c _ _ e m Y l _ ?_);rcases aWD g with rfl|rfl;exact⟨_,b,d,rfl⟩;exact⟨_,b,d,rfl⟩;(cases a);(cases h);cases h
set_option maxRecDepth 100000 in
def bal:aX0 Tryz.f9 (bv U)=U:=by kernel_rfl
def Oj:Ct 9 [] (·=bv U):=by exact be9 Tryz.func9 (by kernel_rfl) rfl bal
def BS:FT:=BJ Oj
def ayk{Lw K}:=al2 BS Oj Lw K
def bfB:dO:=(10,aYs)::(11,aYt)::(9,BS)::a7O
def bfz:eJ bfB:=it (aCb aWG) (it (aCb aXB) (it (apM Oj) (aX9)))
def a6v:=ai @bbo<|ai @bcj<|ai @ayk<|@aWr
def bcH:=bi 12 [(4,([13],[3,5,11,12]))]
def a5M l e b R(f:aG)(c:bu) g a:=aw 15 a l λh=>aw 3 a e λi=>fV aYs a [h,i] λj=>aO .neq j (gt b 0) λk=>ah k (aE R a [(bv I)]) (aV (gt b 0) (iv 1) λd=>f [d] a/\c [d] a<c b g)
def aV5 k j c R e g h b a:=∀_:Rg,aU (gt b 0) k λl=>ah l (ao 3 a j (gt b 0) λm=>aw 3 a m λn=>eV (bs 51 aBH a 7) λd i=>sV (aK 3 i d n) (a5M c d b R g h a)) (aw 15 a c λo=>aw 3 a e λp=>fV aYs a [o,p] λq=>aw 15 a c λr=>aw 3 a e λs=>fV aYt a [r,s] λt=>bf q t λf=>az f (fV BS a []) λu=>aD f u (bv I) λv=>aE R a [v])
def a5X c R d a:=aw 15 a c λe=>fV Cp a [e] λb=>aJ a b λf=>lV [(iv 0)] a (aV5 f b c R d)
def a5D d c b R:=aw 5 b d λf=>fV aUs b [f,(iv 6)] λg=>eV (bs 43 aOQ b 5) λa e=>sV (aK 15 e a g) (a5X a R c)
def bhW{b:List AV}{c:List AV}{R:d7}(l0:L b=5)(l1:L c=3)(h:H2 24 5 2 b 51 3 3 c λd e f=>a5D d e f R):Ct 4 [.a b, .a c] R:=z2 bcH bfz Tryz.func4 l0 l1 h
end Go.Ab
