/- Part of the proof of EncodeAny, made short by a program: Grow. -/
import Derived.Test.YtokoambdbclaaaaGreatDoorG
set_option linter.all false
open Bool renaming false->I,true->U
open Go.IntKind renaming i64->dq
open List renaming append_nil->cL,length->L,length_map->bJ,take_length->gV
open Nat renaming le_refl->dA,zero_le->mh
open Option renaming getD_none->sD,getD_some->mi,map_some->df,none->J,some->V
namespace Go.Ab
open Go Go.RowKit
def Gr(Y:ae)(ds:List Nat)(e:TypeId)(z:Nat)(a:AV)(rows:List (List AV)):Prop:=(rows=[]/\a= .l [] U U)\/∃d v,a= .m (d,v) (L rows)/\d∈ds/\box Y (d,v)=V ⟨e,z,U,I,rows⟩
def Fr(Y a:ae)(ds:List Nat):Prop:=L a=L Y/\∀k,k∉ds->aZ a k=aZ Y k
theorem Fr.refl(Y:ae)(ds:List Nat):Fr Y Y ds:=⟨rfl,λ_ _=>rfl⟩
theorem Fr.trans{Y b a:ae}{ds:List Nat}(h:Fr Y b ds)(c:Fr b a ds):Fr Y a ds:=⟨c.1.trans h.1,λk d=>(c.2 k d).trans (h.2 k d)⟩
theorem Fr.box{Y a:ae}{ds:List Nat}(h:Fr Y a ds){k v:Nat}(b:k∉ds):box a (k,v)=box Y (k,v):=by unfold Ab.box;simp only[h.2 k b]
theorem Gr.nil{Y:ae}{ds:List Nat}{e:TypeId}{z:Nat}:Gr Y ds e z (.l [] U U) []:= .inl ⟨rfl,rfl⟩
theorem Qi{Y:ae}{b:Id}:L (kill Y b)=L Y:=yg b
theorem ani{Y:ae}{b:Id}{k:Nat}(h:k≠b.1):aZ (kill Y b) k=aZ Y k:=jQ h
theorem aIQ{Y:ae}{b:Id}{k:Nat}(a:b.1<L Y):(aZ (kill Y b) k).ver=(aZ Y k).ver:=by unfold kill;by_cases e:k=b.1;subst e;rw[iD a];rw[jQ e]
theorem eF{e:TypeId}{z d:Nat}{zs cs:List AV}{Y:ae}{K:be}(g:L zs=z)(f:L cs=z)(l:0<z)(j:d<L Y)(o:∀c,Fr Y c [d]->box c (d,(aZ Y d).ver+1)=V ⟨e,z,U,U,[cs]⟩->K (.p (d,(aZ Y d).ver+1) 0 0) c):eV (bs e zs Y d) λp s=>sV (aK z s p (.a cs)) λs'=>K p s':=by have m:bs e zs Y d=V (.p (d,(aZ Y d).ver+1) 0 0,put Y d ⟨e,z,U,U,[zs]⟩):=(by simp[bs,g,l,eX,j,bV]);rw[m];have i:box (put Y d ⟨e,z,U,U,[zs]⟩) (d,(aZ Y d).ver+1)=V ⟨e,z,U,U,[zs]⟩:=zQ j rfl;have n:aK z (put Y d ⟨e,z,U,U,[zs]⟩) (.p (d,(aZ Y d).ver+1) 0 0) (.a cs)=V (wr (put Y d ⟨e,z,U,U,[zs]⟩) (d,(aZ Y d).ver+1) ⟨e,z,U,U,[cs]⟩):=(by simp only[aK,o9,i,if_true,pW,eY,List.getElem?_cons_zero];rw[if_pos ⟨f.symm,by rw[f,g];omega,λh=>by cases h⟩];simp[f,<-g]);show sV (aK z (put Y d ⟨e,z,U,U,[zs]⟩) (.p (d,(aZ Y d).ver+1) 0 0) (.a cs)) _;rw[n];refine o _ ⟨by rw[uC,D3],λk q=>?_⟩ (lO i);have b:k≠d:=λe=>q (by simp[e]);rw[wy b,yk b]
theorem fP{Y:ae}{ds:List Nat}{e:TypeId}{z d by':Nat}{zs:List AV}{a:AV}{rows new:List (List AV)}{t o:Bool}{K:be}(y:Gr Y ds e z a rows)(g:L zs=z)(C:0<z)(m:d∈ds)(p:d<L Y)(F:∀r∈rows,L r=z)(E:∀r∈new,L r=z)(A:(L rows+L new)*(by'+1)<=1099511627776)(j:∀w q,Gr q ds e z w (rows++new)->Fr Y q ds->K w q):eV (bS e zs by' Y d a (.l new t o)) K:=by unfold bS;simp only[gL];by_cases u:L new=0;rw[if_pos u];have B:new=[]:=List.length_eq_zero_iff.1 u;subst B;rcases y with⟨b,c⟩|⟨s,v,b,c,f⟩;subst b c;exact j _ _ (.inl ⟨rfl,rfl⟩) (Fr.refl _ _);subst b;simp only[f,df];exact j _ _ (.inr ⟨s,v,by simp,c,by simpa using f⟩) (Fr.refl _ _);rw[if_neg u,if_pos ⟨by rw[g];exact C,by simp[eX,p],by rw[g];exact E⟩];have h:∀(i:ae) (x:bY),L i=L Y->box (put i d x) (bV i d)=V x:=λi x D=>(by unfold bV;exact zQ (by rw[D];exact p) rfl);rcases y with⟨b,c⟩|⟨s,v,b,c,f⟩;subst b c;simp only;rw[if_pos ⟨by simp,by simpa[lx] using A⟩];refine j _ _ (.inr ⟨d,(aZ Y d).ver+1,by simp[bV],m,?_⟩) ⟨by simp[put],λk n=>yk (λe=>n (e▸m))⟩;rw[<-g];exact h Y _ rfl;subst b;simp only[f];rw[if_pos ⟨trivial,trivial,g.symm,dA _,by simpa[lx] using A⟩];refine j _ _ (.inr ⟨d,(aZ (kill Y (s,v)) d).ver+1,by simp[bV,aIQ (lN f)],m,?_⟩) ⟨by simp[put,Qi],λk n=>?_⟩;rw[<-g];simp only[gV];exact h _ _ Qi;rw[yk (λe=>n (by rw[e];exact m)),ani (λe=>n (by rw[e];exact c))]
theorem qV{Y:ae}{ds:List Nat}{e:TypeId}{z:Nat}{a:AV}{rows:List (List AV)}{R:bd}(f:Gr Y ds e z a rows)(h:∀t,R (.l rows t U)):aE R Y [a]:=by unfold aE jS;rcases f with⟨b,c⟩|⟨g,v,b,c,d⟩;subst b c;exact⟨rfl,h U⟩;subst b;simp only[iZ,dQ,d,if_true,gV];exact⟨rfl,h I⟩
theorem aDk{Y:ae}{ds:List Nat}{e:TypeId}{z:Nat}{a:AV}{rows:List (List AV)}(f:Gr Y ds e z a rows):fS Y a=V (iv (L rows)):=by rcases f with⟨b,c⟩|⟨g,v,b,c,d⟩;subst b c;rfl;subst b;simp[fS,d]
theorem iz{Y:ae}{z0:AV}{y:Value}:aX [z0] 1 Y [(0, .s y)]=V (.l [[.s y]] U U,Y):=by simp[aX,gp,eY,nrm,gK,eR,gi,eB,iR,kills,kC,eN]
theorem ua{Y:ae}{zs cs:List AV}(d:nrm (eR Y (.a cs))= .a cs)(e:eB (.a cs)=[])(b:L cs=L zs)(f:0<L zs)(g:cs.all eN=U)(h:L zs<=1000):aX zs 1 Y [(0, .a cs)]=V (.l [cs] U U,Y):=by simp only[aX,List.map_cons,List.map_nil,d,List.flatMap_cons,List.flatMap_nil,e,cL,kills,List.foldl_nil];have c:(List.replicate 1 zs).flatten=zs:=(by simp);rw[if_pos ⟨by omega,f⟩,c];simp only[gp,eY,b,Nat.zero_mul,Nat.zero_add,dA,and_self,if_true,List.take_zero,List.nil_append,List.drop_length,cL,Option.bind_some,g,df];rw[<-b];simp[kC]
def gI(mk:AV->Int->List AV)(c:ae)(ds:List Nat)(e:TypeId)(z n:Nat)(rows:Nat->List (List AV))(b:Nat->Prop):aG:=λvs Y=>∃(k:Nat) (a:AV),vs=mk a k/\k<=n/\b k/\Gr Y ds e z a (rows k)/\Fr c Y ds
def gM(p n:Nat):bu:=λvs _=>match gt vs p with| .s (.int _ i)=>n-i.toNat|_=>0
theorem am9{B:(aG)->(bu)->aG}(mk:AV->Int->List AV)(p:Nat)(ds:List Nat)(e:TypeId)(z n:Nat)(rows:Nat->List (List AV))(b:Nat->Prop){d:AV}{c:ae}(f:b 0)(g:Gr c ds e z d (rows 0))(h:∀(k:Nat) a Y,k<=n->b k->Gr Y ds e z a (rows k)->Fr c Y ds->B (gI mk c ds e z n rows b) (gM p n) (mk a k) Y):lV (mk d 0) c B:=⟨gI mk c ds e z n rows b,gM p n,⟨0,d,rfl,mh _,f,g,Fr.refl _ _⟩,by rintro vs Y ⟨k,a,rfl,m,l,j,i⟩;exact h k a Y m l j i⟩
theorem Dr{mk:AV->Int->List AV}{p:Nat}{f Y b:ae}{ds:List Nat}{e:TypeId}{z n k:Nat}{rows:Nat->List (List AV)}{d:Nat->Prop}{a c:AV}(l:∀a i,gt (mk a i) p=iv i)(j:k<n)(m:n<4611686018427387904)(hI:d (k+1))(h:Gr b ds e z c (rows (k+1)))(g:Fr f b ds):gI mk f ds e z n rows d (mk c (dq.wrap ((k:Int)+1))) b/\gM p n (mk c (dq.wrap ((k:Int)+1))) b<gM p n (mk a k) Y:=by rw[eM (by omega) (by omega)];refine⟨⟨k+1,c,rfl,j,hI,h,g⟩,?_⟩;simp only[gM,l];omega
def fI(b:ae)(ds:List Nat)(n:Nat)(a:Nat->Prop):aG:=λvs Y=>∃k:Nat,vs=[iv k]/\k<=n/\a k/\Fr b Y ds
def fM(n:Nat):bu:=λvs _=>cM n vs
theorem pQ{B:(aG)->(bu)->aG}{b:ae}(n:Nat)(ds:List Nat)(a:Nat->Prop)(c:a 0)(h:∀(k:Nat) Y,k<=n->a k->Fr b Y ds->B (fI b ds n a) (fM n) [iv k] Y):lV [iv 0] b B:=⟨fI b ds n a,fM n,⟨0,rfl,mh _,c,Fr.refl _ _⟩,by rintro vs Y ⟨k,rfl,f,e,d⟩;exact h k Y f e d⟩
theorem oL{n k:Nat}{ds:List Nat}{a:Nat->Prop}{c Y b:ae}(e:k<n)(f:n<4611686018427387904)(h:a (k+1))(d:Fr c b ds):fI c ds n a [iv (dq.wrap ((k:Int)+1))] b/\fM n [iv (dq.wrap ((k:Int)+1))] b<fM n [iv k] Y:=by rw[fX (by omega)];refine⟨⟨k+1,rfl,e,h,d⟩,?_⟩;simp only[fM,cM,Int.toNat_natCast];omega
theorem Fr.mono{Y b:ae}{ds a:List Nat}(h:Fr Y b ds)(d:∀k∈ds,k∈a):Fr Y b a:=⟨h.1,λk e=>h.2 k (λc=>e (d k c))⟩
theorem nS{Y:ae}{z0:AV}{zs:List AV}:aX (z0::zs) 0 Y []=V (.l [] U U,Y):=by simp[aX,gp,kills,kC]
theorem aIk{α:Type}{f:α->List AV}{l:List α}{z:Nat}{i:Int}{Y:ae}{K:bd}(d:∀x,L (f x)=z):rV (fo z Y (sl f l) J (V (iv i)) J) K=((0<=i/\i<=L l)/\K (sl f (l.take i.toNat))):=by simp only[fo,lM,sl];by_cases b:0<=i;simp only[b,if_true,qY,sD,mi,mh,true_and,bJ];by_cases c:i<=L l;have a:i.toNat<=L l:=(by omega);rw[if_pos ⟨a,by simp[d]⟩];simp[rV,c,List.map_take];have a:¬i.toNat<=L l:=(by omega);rw[if_neg (λh=>a h.1)];simp[rV,c];simp[b,rV]
theorem aIm{α:Type}{f:α->List AV}{l:List α}{z:Nat}{i:Int}{Y:ae}{K:bd}(d:∀x,L (f x)=z):rV (fo z Y (sl f l) (V (iv i)) J J) K=((0<=i/\i<=L l)/\K (sl f (l.drop i.toNat))):=by simp only[fo,lM,sl];by_cases b:0<=i;simp only[b,if_true,qY,sD,mi,bJ,dA,true_and];by_cases c:i<=L l;have a:i.toNat<=L l:=(by omega);rw[if_pos ⟨a,by simp[d]⟩];simp only[if_true,rV];have:((l.map f).drop i.toNat).take (L l-i.toNat)=(l.drop i.toNat).map f:=(by rw[List.map_drop,List.take_of_length_le (by simp)]);rw[this];simp[c];have a:¬i.toNat<=L l:=(by omega);rw[if_neg (λh=>a h.1)];simp[rV,c];simp[b,rV]
theorem aov{l:List Int}{i:Int}{Y:ae}{K:bd}:rV (fo 1 Y (sl ci l) J (V (iv i)) J) K=((0<=i/\i<=L l)/\K (sl ci (l.take i.toNat))):=aIk λ_=>rfl
theorem aIg{l:List Int}{i:Int}{Y:ae}{K:bd}:rV (fo 1 Y (sl ci l) (V (iv i)) J J) K=((0<=i/\i<=L l)/\K (sl ci (l.drop i.toNat))):=aIm λ_=>rfl
theorem aFj{α:Type}{f:α->List AV}{l:List α}{R:bd}{Y:ae}:aE R Y [sl f l]=R (sl f l):=by simp[aE,jS,iZ,dQ,sl,kG,pF,nj]
theorem Fr.bt{Y a:ae}{ds:List Nat}(h:Fr Y a ds){k v:Nat}{x:Option bY}(c:Ab.box Y (k,v)=x)(b:k∉ds:=by decide):Ab.box a (k,v)=x:=(h.box b).trans c
end Go.Ab
