/- Part of the proof of EncodeAny, made short by a program: Loop. -/
import Derived.Test.YtokoambdbclaaaaGreatDoorK
set_option linter.all false
open Bool renaming false->I,true->U
open Go.IntKind renaming i64->dq
open List renaming find?_eq_none->aqK,length->L,length_map->bJ,map_append->dg,mem_range->fq,range->aH,range_succ->qn,take_succ_eq_append_getElem->iJ
open Nat renaming lt_or_ge->jj,zero_le->mh
open Option renaming none->J,some->V
namespace Go.Ab
open Go Go.RowKit
def hI(mk:AV->Int->List AV)(c:ae)(ds fs:List Nat)(e:TypeId)(z n:Nat)(rows:Nat->List (List AV))(b:Nat->Prop):aG:=λvs Y=>∃(k:Nat) (a:AV),vs=mk a k/\k<=n/\b k/\Gr Y ds e z a (rows k)/\Fr c Y fs
theorem iu{B:(aG)->(bu)->aG}(mk:AV->Int->List AV)(p:Nat)(ds fs:List Nat)(e:TypeId)(z n:Nat)(rows:Nat->List (List AV))(b:Nat->Prop){d:AV}{c:ae}(f:b 0)(g:Gr c ds e z d (rows 0))(h:∀(k:Nat) a Y,k<=n->b k->Gr Y ds e z a (rows k)->Fr c Y fs->B (hI mk c ds fs e z n rows b) (gM p n) (mk a k) Y):lV (mk d 0) c B:=⟨hI mk c ds fs e z n rows b,gM p n,⟨0,d,rfl,mh _,f,g,Fr.refl _ _⟩,by rintro vs Y ⟨k,a,rfl,m,l,j,i⟩;exact h k a Y m l j i⟩
theorem ft{mk:AV->Int->List AV}{p:Nat}{f Y b:ae}{ds fs:List Nat}{e:TypeId}{z n k:Nat}{rows:Nat->List (List AV)}{d:Nat->Prop}{a c:AV}(m:∀a i,gt (mk a i) p=iv i)(l:k<n)(o:n<4611686018427387904)(g:d (k+1))(j:Gr b ds e z c (rows (k+1)))(h:Fr f b fs):hI mk f ds fs e z n rows d (mk c (dq.wrap ((k:Int)+1))) b/\gM p n (mk c (dq.wrap ((k:Int)+1))) b<gM p n (mk a k) Y:=by rw[eM (by omega) (by omega)];refine⟨⟨k+1,c,rfl,l,g,j,h⟩,?_⟩;simp only[gM,m];omega
def fw(p:Nat->Bool)(k:Nat):List Int:=((aH k).filter p).map λ(i:Nat)=>(i:Int)
theorem yK(p:Nat->Bool)(k:Nat):fw p (k+1)=fw p k++if p k then[(k:Int)] else[]:=by simp only[fw,qn,List.filter_append,dg,List.filter_cons,List.filter_nil];split<;>simp
theorem qX(p:Nat->Bool)(k:Nat):L (fw p k)<=k:=by simp only[fw,bJ];exact Nat.le_trans (List.length_filter_le _ _) (by simp)
theorem Bo{a:List Int}{p:Nat->Bool}{k:Nat}(h:p k=U):(a++fw p (k+1)).map ci=(a++fw p k).map ci++[ci k]:=by rw[yK,if_pos h];simp
theorem yJ{a:List Int}{p:Nat->Bool}{k:Nat}(h:p k=I):(a++fw p (k+1)).map ci=(a++fw p k).map ci:=by rw[yK,h];simp
theorem jo{α β:Type}{f:α->List β}{m:Nat}:∀{l:List α},(∀x∈l,L (f x)<=m)->L (l.flatMap f)<=L l*m
 |[],_=>by simp
 |a::l,h=>by
  have c:=h a (by simp)
  have d:=jo (f:=f) (m:=m) (l:=l) λx b=>h x (by simp[b])
  rw[List.flatMap_cons,List.length_append,List.length_cons,Nat.succ_mul]
  omega
theorem aII{β:Type}{l:List Int}{f:Int->List β}{k:Nat}(h:k<L l):(l.take (k+1)).flatMap f=(l.take k).flatMap f++f (gd l k):=by rw[iJ h,List.flatMap_append,bT h];simp
theorem oX{l:List ByteArray}:∀r∈l.map cs,L r=1:=by intro r a;obtain⟨x,_,rfl⟩:=List.mem_map.1 a;rfl
theorem Ez{α:Type}[Inhabited α]{a:List ByteArray}{l:List α}{g:α->ByteArray}{k:Nat}(h:k<L l):(a++(l.take (k+1)).map g).map cs=(a++(l.take k).map g).map cs++[cs (g (gd l k))]:=by rw[iJ h,bT h];simp only[dg,List.map_cons,List.map_nil,List.append_assoc]
def uo(p:Nat->Bool)(n:Nat):Int:=match(aH n).find? p with|some i=>i|none=> -1
theorem al8{p:Nat->Bool}{k:Nat}(c:p k=U)(b:∀j,j<k->p j=I):∀n,k<n->(aH n).find? p=V k
 |0,h=>by omega
 |n+1,h=>by
  rw[qn,List.find?_append]
  rcases jj k n with a|a
  ·rw[al8 c b n a];rfl
  ·obtain rfl:k=n:=by omega
   have:(aH k).find? p=J:=by
    rw[aqK]
    intro x d
    simp[b x (fq.1 d)]
   rw[this]
   simp[c]
theorem KW{p:Nat->Bool}{n k:Nat}(a:k<n)(c:p k=U)(b:∀j,j<k->p j=I):uo p n=k:=by simp[uo,al8 c b n a]
theorem KX{p:Nat->Bool}{n:Nat}(a:∀j,j<n->p j=I):uo p n= -1:=by have:(aH n).find? p=J:=(by rw[aqK];intro x b;simp[a x (fq.1 b)]);simp[uo,this]
theorem QV{R:bd}{Y:ae}{n:Int}{b:Bool}:aE R Y [iv n,bv b]=R (.t [iv n,bv b]):=by simp[aE,jS,iZ,dQ,kG,pF,nj]
theorem un{p:Nat->Bool}{k:Nat}(h:∀j,j<k->p j=I)(b:p k=I):∀j,j<k+1->p j=I:=λj c=>by
 rcases jj j k with a|a
 ·exact h j a
 ·obtain rfl:j=k:=by omega
  exact b
theorem oJ{a:AV}{l:List AV}:eO 0 (.t (a::l))=V a:=rfl
theorem pG{a b:AV}{l:List AV}:eO 1 (.t (a::b::l))=V b:=rfl
theorem KM{a b c:AV}{l:List AV}:eO 2 (.t (a::b::c::l))=V c:=rfl
theorem aIl{l:List ByteArray}{t o:Bool}{i:Int}{Y:ae}{K:bd}:rV (fo 1 Y (.l (l.map cs) t o) J (V (iv i)) J) K=((0<=i/\i<=L l)/\K (.l ((l.take i.toNat).map cs) (t&&((i.toNat:Nat)==L l)) o)):=by simp only[fo,lM];by_cases b:0<=i;simp only[b,if_true,qY,Option.getD_none,Option.getD_some,mh,true_and,bJ];by_cases c:i<=L l;have a:i.toNat<=L l:=(by omega);rw[if_pos ⟨a,by simp⟩];simp[rV,c,List.map_take];have a:¬i.toNat<=L l:=(by omega);rw[if_neg (λh=>a h.1)];simp[rV,c];simp[b,rV]
end Go.Ab
