/- Part of the proof of EncodeAny, made short by a program: Obj Rk. -/
import Derived.Test.YtokoambdbclaaaaGreatDoorM
set_option linter.all false
open And renaming intro->ai
open Bool renaming false->I,true->U
open Go.IntKind renaming i64->dq
open List renaming length->L
open Nat renaming le_refl->dA
open Option renaming none->J,some->V
namespace Go.Ab
open Go Go.RowKit
structure Fx(Y Y':ae)(ks:List Id):Prop where
 len:L Y'=L Y
 keep:∀b x,b∉ks->box Y b=V x->box Y' b=V x
 ver:∀k,(aZ Y k).ver<=(aZ Y' k).ver
theorem Fx.refl(Y:ae)(ks:List Id):Fx Y Y ks:=⟨rfl,λ_ _ _ h=>h,λ_=>dA _⟩
theorem Fx.trans{Y d a:ae}{ks ks':List Id}(h:Fx Y d ks)(c:Fx d a ks'):Fx Y a (ks++ks'):=⟨c.len.trans h.len,λb x e f=>c.keep b x (λh=>e (List.mem_append_right _ h)) (h.keep b x (λh=>e (List.mem_append_left _ h)) f),λk=>Nat.le_trans (h.ver k) (c.ver k)⟩
theorem Fx.mono{Y c:ae}{ks ks':List Id}(h:Fx Y c ks)(hs:∀b∈ks,b∈ks'\/∀x,box Y b≠V x):Fx Y c ks':=⟨h.len,λb x e d=>h.keep b x (λf=>by rcases hs b f with a|a;exact e a;exact a x d) d,h.ver⟩
theorem Fx.kp{Y a:ae}(h:Fx Y a []):Kp Y a:=⟨h.len,h.ver,λb x c=>h.keep b x (by simp) c⟩
theorem Kp.fx{Y a:ae}(h:Kp Y a)(ks:List Id):Fx Y a ks:=⟨h.len,λb x _ c=>h.keep b x c,h.ver⟩
def bK(Y:ae)(b:Id):Prop:=(aZ Y b.1).ver<b.2
theorem bK.no{Y:ae}{b:Id}(h:bK Y b)(x:bY):box Y b≠V x:=λa=>by have:=(qu a).1;unfold bK at h;omega
theorem bK.ne{Y:ae}{b c:Id}{x:bY}(h:bK Y b)(a:box Y c=V x):c≠b:=λe=>h.no x (e▸a)
theorem bK.old{Y a:ae}{b:Id}{ks:List Id}(c:Fx Y a ks)(h:bK a b):bK Y b:=Nat.lt_of_le_of_lt (c.ver _) h
theorem wc{Y:ae}{b:Id}{x x':bY}(a:box Y b=V x):Fx Y (wr Y b x') [b]:=by refine⟨uC,λc y d e=>DY a e (by simpa using d),λk=>?_⟩;by_cases h:k=b.1;subst h;rw[wr,iD (lN a)];exact dA _;rw[wr,jQ h];exact dA _
theorem Le{Y:ae}{b:Id}{x:bY}(a:box Y b=V x):Fx Y (kill Y b) [b]:=by refine⟨yg b,λc y d e=>Qc a e (by simpa using d),λk=>?_⟩;by_cases h:k=b.1;subst h;rw[kill,iD (lN a)];exact dA _;rw[kill,jQ h];exact dA _
theorem kH{Y:ae}{d:Nat}{x:bY}(a:d<L Y):Fx Y (put Y d x) []:=(am8 a).fx []
theorem qQ(Y:ae)(d:Nat):bK Y (bV Y d):=by simp[bK,bV]
theorem alI{e:TypeId}{z d:Nat}{zs:List AV}{Y:ae}{K:be}(h:L zs=z)(c:0<z)(b:d<L Y)(g:∀v a,Fx Y a []->bK Y (d,v)->box a (d,v)=V ⟨e,z,U,U,[zs]⟩->K (.p (d,v) 0 0) a):eV (bs e zs Y d) K:=by have f:bs e zs Y d=V (.p (bV Y d) 0 0,put Y d ⟨e,z,U,U,[zs]⟩):=(by simp[bs,h,c,eX,b]);rw[f];exact g _ _ (kH b) (qQ Y d) (iy b)
theorem cy{Y:ae}{b:Id}{j z y:Nat}{e:TypeId}{o:Bool}{r cs:List AV}{x:AV}{K:ae->Prop}(c:box Y b=V ⟨e,z,o,U,[r]⟩)(i:eY x=V cs)(k:L cs=y)(g:j+y<=L r)(f:∀a,Fx Y a [b]->box a b=V ⟨e,z,o,U,[r.take j++cs++r.drop (j+y)]⟩->K a):sV (aK y Y (.p b 0 j) x) K:=by have d:aK y Y (.p b 0 j) x=V (wr Y b ⟨e,z,o,U,[r.take j++cs++r.drop (j+y)]⟩):=(by subst k;simp only[aK,o9,c,if_true,pW,i,List.getElem?_cons_zero];rw[if_pos ⟨trivial,g,λh=>by cases h⟩];simp);rw[d];exact f _ (wc c) (lO c)
def bc(Y:ae)(e:TypeId)(z:Nat)(a:AV)(rows:List (List AV)):Prop:=(rows=[]/\a= .l [] U U)\/∃b,a= .m b (L rows)/\box Y b=V ⟨e,z,U,I,rows⟩
def aA(a:AV):List Id:=match a with| .m b _=>[b]|_=>[]
theorem bc.nil{Y:ae}{e:TypeId}{z:Nat}:bc Y e z (.l [] U U) []:= .inl ⟨rfl,rfl⟩
theorem bc.fx{Y c:ae}{ks:List Id}{e:TypeId}{z:Nat}{a:AV}{rows:List (List AV)}(g:bc Y e z a rows)(f:Fx Y c ks)(i:∀b∈aA a,b∉ks):bc c e z a rows:=by rcases g with h|⟨b,rfl,d⟩;exact .inl h;exact .inr ⟨b,rfl,f.keep b _ (i b (by simp[aA])) d⟩
theorem gD{Y:ae}{e:TypeId}{z d by':Nat}{zs:List AV}{a:AV}{rows new:List (List AV)}{t o:Bool}{K:be}(p:bc Y e z a rows)(h:L zs=z)(v:0<z)(f:d<L Y)(x:∀r∈rows,L r=z)(w:∀r∈new,L r=z)(q:(L rows+L new)*(by'+1)<=1099511627776)(j:∀i k,bc k e z i (rows++new)->Fx Y k (aA a)->(∀b∈aA i,b∈aA a\/bK Y b)->(∀b∈aA i,b∈aA a\/b.1=d)->K i k):eV (bS e zs by' Y d a (.l new t o)) K:=by unfold bS;simp only[gL];by_cases m:L new=0;rw[if_pos m];have u:new=[]:=List.length_eq_zero_iff.1 m;subst u;rcases p with⟨c,n⟩|⟨b,c,g⟩;subst c n;exact j _ _ (.inl ⟨rfl,rfl⟩) (Fx.refl _ _) (by simp[aA]) (by simp[aA]);subst c;simp only[g,Option.map_some];exact j _ _ (.inr ⟨b,by simp,by simpa using g⟩) (Fx.refl _ _) (by simp[aA]) (by simp[aA]);rw[if_neg m,if_pos ⟨by rw[h];exact v,by simp[eX,f],by rw[h];exact w⟩];rcases p with⟨c,n⟩|⟨b,c,g⟩;subst c n;simp only;rw[if_pos ⟨by simp,by simpa[lx] using q⟩];refine j _ _ (.inr ⟨bV Y d,by simp,?_⟩) ((kH f).mono (by simp)) (by simp[aA];exact qQ Y d) (by simp[aA,bV]);rw[<-h];exact iy f;subst c;simp only[g];rw[if_pos ⟨trivial,trivial,h.symm,dA _,by simpa[lx] using q⟩];have s:d<L (kill Y b):=(by rw[yg];exact f);refine j _ _ (.inr ⟨bV Y d,by simp,?_⟩) (((Le g).trans (kH s)).mono (by simp[aA])) (by simp[aA];exact .inr (qQ Y d)) (by simp[aA,bV]);rw[<-h];simp only[List.take_length];rw[<-anF g];exact iy s
theorem ke{Y:ae}{e:TypeId}{z:Nat}{a:AV}{rows:List (List AV)}(g:bc Y e z a rows):fS Y a=V (iv (L rows)):=by rcases g with⟨c,d⟩|⟨b,c,f⟩;subst c d;rfl;subst c;simp[fS,f]
theorem ms{Y:ae}{e:TypeId}{z:Nat}{a:AV}{rows:List (List AV)}(c:bc Y e z a rows):eY a=V [a]:=by rcases c with⟨_,rfl⟩|⟨b,rfl,_⟩<;>rfl
theorem bsI{Y:ae}{z0 a:AV}{e:TypeId}{z:Nat}{rows:List (List AV)}{K:be}(g:bc Y e z a rows)(d:∀c,Fx Y c (aA a)->K (.l [[.l rows I I]] U U) c):eV (aX [z0] 1 Y [(0,a)]) K:=by rcases g with⟨rfl,rfl⟩|⟨b,rfl,f⟩;have:aX [z0] 1 Y [(0, .l [] U U)]=V (.l [[.l [] I I]] U U,Y):=(by simp[aX,gp,eY,nrm,gK,eR,gi,eB,iR,kills,kC,eN]);rw[this];exact d Y (Fx.refl _ _);have:aX [z0] 1 Y [(0, .m b (L rows))]=V (.l [[.l rows I I]] U U,kill Y b):=(by simp[aX,gp,eY,nrm,gK,eR,gi,f,eB,iR,kills,kC,eN]);rw[this];exact d _ (Le f)
theorem bsL{Y:ae}{z0:AV}{rows:List (List AV)}{t o:Bool}:aX [z0] 1 Y [(0, .l rows t o)]=V (.l [[.l rows I I]] U U,Y):=by simp[aX,gp,eY,nrm,gK,eR,gi,eB,iR,kills,kC,eN]
def yI{α:Type}(mk:α->Int->List AV)(n:Nat)(a:Nat->α->ae->Prop):aG:=λvs Y=>∃(k:Nat) (s:α),vs=mk s k/\k<=n/\a k s Y
theorem jD{α:Type}{B:(aG)->(bu)->aG}(mk:α->Int->List AV)(p n:Nat)(a:Nat->α->ae->Prop){s0:α}{b:ae}(c:a 0 s0 b)(h:∀(k:Nat) s Y,k<=n->a k s Y->B (yI mk n a) (gM p n) (mk s k) Y):lV (mk s0 0) b B:=⟨yI mk n a,gM p n,⟨0,s0,rfl,Nat.zero_le _,c⟩,by rintro vs Y ⟨k,s,rfl,e,d⟩;exact h k s Y e d⟩
theorem dR{α:Type}{mk:α->Int->List AV}{p n k:Nat}{a:Nat->α->ae->Prop}{s s':α}{Y b:ae}(d:∀s i,gt (mk s i) p=iv i)(c:k<n)(e:n<4611686018427387904)(hI:a (k+1) s' b):yI mk n a (mk s' (dq.wrap ((k:Int)+1))) b/\gM p n (mk s' (dq.wrap ((k:Int)+1))) b<gM p n (mk s k) Y:=by rw[fX (by omega)];refine⟨⟨k+1,s',rfl,c,hI⟩,?_⟩;simp only[gM,d];omega
theorem cV{e:TypeId}{z d n:Nat}{zs:List AV}{Y:ae}{K:be}(g:L Y=n)(c:∀v a,Fx Y a []->bK Y (d,v)->box a (d,v)=V ⟨e,z,U,U,[zs]⟩->K (.p (d,v) 0 0) a)(h:L zs=z:=by exact rfl)(b:0<z:=by decide)(f:d<n:=by decide):eV (bs e zs Y d) K:=alI h b (g▸f) c
theorem Fx.kq{Y a:ae}{ks:List Id}(h:Fx Y a ks){b:Id}{x:bY}(d:box Y b=V x)(c:b∉ks:=by simp):box a b=V x:=h.keep b x c d
theorem Fx.tn{Y c a:ae}{b:Id}(h:Fx Y c [])(d:Fx c a [b])(f:∀x,box Y b≠V x):Fx Y a []:=(h.trans d).mono (by simp only[List.nil_append,List.mem_singleton];rintro e rfl;exact .inr f)
theorem yV{B:(aG)->(bu)->aG}(n:Nat)(a:Nat->Unit->ae->Prop){b:ae}(c:a 0 () b)(h:∀(k:Nat) s Y,k<=n->a k s Y->B (yI (λ_ i=>[iv i]) n a) (gM 0 n) [iv k] Y):lV [iv 0] b B:=jD (λ_ i=>[iv i]) 0 n a (s0:=()) c h
theorem yU{n k:Nat}{a:Nat->Unit->ae->Prop}{Y b:ae}(c:k<n)(hI:a (k+1) () b)(d:n<4611686018427387904:=by omega):yI (λ_ i=>[iv i]) n a [iv (dq.wrap ((k:Int)+1))] b/\gM 0 n [iv (dq.wrap ((k:Int)+1))] b<gM 0 n [iv k] Y:=dR (mk:=λ_ i=>[iv i]) (s:=()) (s':=()) (λ_ _=>rfl) c d hI
theorem aFm{w:am}{n:AV}:aN J (am.c w++[n])=V (sl cA.c w.aQ.cells):=rfl
theorem aFn{w:am}{n:AV}:aN J ((am.c w++[n]).drop 1)=V (sl dS.c w.aQ.ak):=rfl
theorem aFu{w:am}{n:AV}:aN J ((am.c w++[n]).drop 2)=V (sl el.c w.aQ.bC):=rfl
theorem aFv{w:am}{n:AV}:aN J ((am.c w++[n]).drop 3)=V (sl cs w.aQ.bU):=rfl
theorem aFw{w:am}{n:AV}:aN J ((am.c w++[n]).drop 4)=V (sl cs w.aQ.ay):=rfl
theorem aFx{w:am}{n:AV}:aN J ((am.c w++[n]).drop 5)=V (sl dL.c w.aQ.dU):=rfl
theorem aFy{w:am}{n:AV}:aN J ((am.c w++[n]).drop 6)=V (iv w.start):=rfl
theorem aFz{w:am}{n:AV}:aN J ((am.c w++[n]).drop 7)=V (sl cg.c w.init.sync.ak):=rfl
theorem aFA{w:am}{n:AV}:aN J ((am.c w++[n]).drop 8)=V (iv w.init.sync.tx):=rfl
theorem aFB{w:am}{n:AV}:aN J ((am.c w++[n]).drop 9)=V (sl cb w.init.sync.done):=rfl
theorem aFo{w:am}{n:AV}:aN J ((am.c w++[n]).drop 10)=V (sl bF.c w.init.sync.ay):=rfl
theorem aFp{w:am}{n:AV}:aN J ((am.c w++[n]).drop 11)=V (sl ci w.init.cells):=rfl
theorem aFq{w:am}{n:AV}:aN J ((am.c w++[n]).drop 12)=V (sl ci w.init.bU):=rfl
theorem aFr{w:am}{n:AV}:aN J ((am.c w++[n]).drop 13)=V (sl ci w.init.count):=rfl
theorem aFs{w:am}{n:AV}:aN J ((am.c w++[n]).drop 14)=V (sl aP.c w.ac):=rfl
theorem aFt{w:am}{n:AV}:aN J ((am.c w++[n]).drop 15)=V (n):=rfl
theorem aFC{w:am}{n:AV}:aN (V 15) (am.c w++[n])=V (.a w.c):=rfl
theorem aFD{w:am}{n:AV}:aN (V 6) (am.c w++[n])=V (.a w.aQ.c):=rfl
theorem aFE{w:am}{n:AV}:aN (V 7) ((am.c w++[n]).drop 7)=V (.a w.init.c):=rfl
theorem aFF{w:am}{n:AV}:aN (V 4) ((am.c w++[n]).drop 7)=V (.a w.init.sync.c):=rfl
def kj:=ai @aFm<|ai @aFn<|ai @aFu<|ai @aFv<|ai @aFw<|ai @aFx<|ai @aFy<|ai @aFz<|ai @aFA<|ai @aFB<|ai @aFo<|ai @aFp<|ai @aFq<|ai @aFr<|ai @aFs<|ai @aFt<|ai @aFC<|ai @aFD<|ai @aFE<|@aFF
theorem aFG{w:am}{n a:AV}:aN J (am.c w++[n,a])=V (sl cA.c w.aQ.cells):=rfl
theorem aFH{w:am}{n a:AV}:aN J ((am.c w++[n,a]).drop 1)=V (sl dS.c w.aQ.ak):=rfl
theorem aFP{w:am}{n a:AV}:aN J ((am.c w++[n,a]).drop 2)=V (sl el.c w.aQ.bC):=rfl
theorem aFQ{w:am}{n a:AV}:aN J ((am.c w++[n,a]).drop 3)=V (sl cs w.aQ.bU):=rfl
theorem aFR{w:am}{n a:AV}:aN J ((am.c w++[n,a]).drop 4)=V (sl cs w.aQ.ay):=rfl
theorem aFS{w:am}{n a:AV}:aN J ((am.c w++[n,a]).drop 5)=V (sl dL.c w.aQ.dU):=rfl
theorem aFT{w:am}{n a:AV}:aN J ((am.c w++[n,a]).drop 6)=V (iv w.start):=rfl
theorem aFU{w:am}{n a:AV}:aN J ((am.c w++[n,a]).drop 7)=V (sl cg.c w.init.sync.ak):=rfl
theorem aFV{w:am}{n a:AV}:aN J ((am.c w++[n,a]).drop 8)=V (iv w.init.sync.tx):=rfl
theorem aFW{w:am}{n a:AV}:aN J ((am.c w++[n,a]).drop 9)=V (sl cb w.init.sync.done):=rfl
theorem aFI{w:am}{n a:AV}:aN J ((am.c w++[n,a]).drop 10)=V (sl bF.c w.init.sync.ay):=rfl
theorem aFJ{w:am}{n a:AV}:aN J ((am.c w++[n,a]).drop 11)=V (sl ci w.init.cells):=rfl
theorem aFK{w:am}{n a:AV}:aN J ((am.c w++[n,a]).drop 12)=V (sl ci w.init.bU):=rfl
theorem aFL{w:am}{n a:AV}:aN J ((am.c w++[n,a]).drop 13)=V (sl ci w.init.count):=rfl
theorem aFM{w:am}{n a:AV}:aN J ((am.c w++[n,a]).drop 14)=V (sl aP.c w.ac):=rfl
theorem aFN{w:am}{n a:AV}:aN J ((am.c w++[n,a]).drop 15)=V (n):=rfl
theorem aFO{w:am}{n a:AV}:aN J ((am.c w++[n,a]).drop 16)=V (a):=rfl
theorem aFX{w:am}{n a:AV}:aN (V 15) (am.c w++[n,a])=V (.a w.c):=rfl
theorem aFY{w:am}{n a:AV}:aN (V 6) (am.c w++[n,a])=V (.a w.aQ.c):=rfl
theorem aFZ{w:am}{n a:AV}:aN (V 7) ((am.c w++[n,a]).drop 7)=V (.a w.init.c):=rfl
theorem aF0{w:am}{n a:AV}:aN (V 4) ((am.c w++[n,a]).drop 7)=V (.a w.init.sync.c):=rfl
def kn:=ai @aFG<|ai @aFH<|ai @aFP<|ai @aFQ<|ai @aFR<|ai @aFS<|ai @aFT<|ai @aFU<|ai @aFV<|ai @aFW<|ai @aFI<|ai @aFJ<|ai @aFK<|ai @aFL<|ai @aFM<|ai @aFN<|ai @aFO<|ai @aFX<|ai @aFY<|ai @aFZ<|@aF0
theorem aF1{w:am}{n m k o a:AV}:aN J (am.c w++[n,m,k,o,a])=V (sl cA.c w.aQ.cells):=rfl
theorem aF2{w:am}{n m k o a:AV}:aN J ((am.c w++[n,m,k,o,a]).drop 1)=V (sl dS.c w.aQ.ak):=rfl
theorem aGd{w:am}{n m k o a:AV}:aN J ((am.c w++[n,m,k,o,a]).drop 2)=V (sl el.c w.aQ.bC):=rfl
theorem aGe{w:am}{n m k o a:AV}:aN J ((am.c w++[n,m,k,o,a]).drop 3)=V (sl cs w.aQ.bU):=rfl
theorem aGf{w:am}{n m k o a:AV}:aN J ((am.c w++[n,m,k,o,a]).drop 4)=V (sl cs w.aQ.ay):=rfl
theorem aGg{w:am}{n m k o a:AV}:aN J ((am.c w++[n,m,k,o,a]).drop 5)=V (sl dL.c w.aQ.dU):=rfl
theorem aGh{w:am}{n m k o a:AV}:aN J ((am.c w++[n,m,k,o,a]).drop 6)=V (iv w.start):=rfl
theorem aGi{w:am}{n m k o a:AV}:aN J ((am.c w++[n,m,k,o,a]).drop 7)=V (sl cg.c w.init.sync.ak):=rfl
theorem aGj{w:am}{n m k o a:AV}:aN J ((am.c w++[n,m,k,o,a]).drop 8)=V (iv w.init.sync.tx):=rfl
theorem aGk{w:am}{n m k o a:AV}:aN J ((am.c w++[n,m,k,o,a]).drop 9)=V (sl cb w.init.sync.done):=rfl
theorem aF3{w:am}{n m k o a:AV}:aN J ((am.c w++[n,m,k,o,a]).drop 10)=V (sl bF.c w.init.sync.ay):=rfl
theorem aF4{w:am}{n m k o a:AV}:aN J ((am.c w++[n,m,k,o,a]).drop 11)=V (sl ci w.init.cells):=rfl
theorem aF5{w:am}{n m k o a:AV}:aN J ((am.c w++[n,m,k,o,a]).drop 12)=V (sl ci w.init.bU):=rfl
theorem aF6{w:am}{n m k o a:AV}:aN J ((am.c w++[n,m,k,o,a]).drop 13)=V (sl ci w.init.count):=rfl
theorem aF7{w:am}{n m k o a:AV}:aN J ((am.c w++[n,m,k,o,a]).drop 14)=V (sl aP.c w.ac):=rfl
theorem aF8{w:am}{n m k o a:AV}:aN J ((am.c w++[n,m,k,o,a]).drop 15)=V (n):=rfl
theorem aF9{w:am}{n m k o a:AV}:aN J ((am.c w++[n,m,k,o,a]).drop 16)=V (m):=rfl
theorem aGa{w:am}{n m k o a:AV}:aN J ((am.c w++[n,m,k,o,a]).drop 17)=V (k):=rfl
theorem aGb{w:am}{n m k o a:AV}:aN J ((am.c w++[n,m,k,o,a]).drop 18)=V (o):=rfl
theorem aGc{w:am}{n m k o a:AV}:aN J ((am.c w++[n,m,k,o,a]).drop 19)=V (a):=rfl
theorem aGl{w:am}{n m k o a:AV}:aN (V 15) (am.c w++[n,m,k,o,a])=V (.a w.c):=rfl
theorem aGm{w:am}{n m k o a:AV}:aN (V 6) (am.c w++[n,m,k,o,a])=V (.a w.aQ.c):=rfl
theorem aGn{w:am}{n m k o a:AV}:aN (V 7) ((am.c w++[n,m,k,o,a]).drop 7)=V (.a w.init.c):=rfl
theorem aGo{w:am}{n m k o a:AV}:aN (V 4) ((am.c w++[n,m,k,o,a]).drop 7)=V (.a w.init.sync.c):=rfl
def eT:=ai @aF1<|ai @aF2<|ai @aGd<|ai @aGe<|ai @aGf<|ai @aGg<|ai @aGh<|ai @aGi<|ai @aGj<|ai @aGk<|ai @aF3<|ai @aF4<|ai @aF5<|ai @aF6<|ai @aF7<|ai @aF8<|ai @aF9<|ai @aGa<|ai @aGb<|ai @aGc<|ai @aGl<|ai @aGm<|ai @aGn<|@aGo
end Go.Ab
