/- Part of the proof of EncodeAny, made short by a program: Open. -/
import Derived.Test.YtokoambdbclaaaaGreatDoorU
import Derived.ProofKit
import Derived.OpenShut
import Derived.ChangeOld
import Derived.Deep.Slices
import Derived.Deep.Fields
import Derived.ChangeSame
import Derived.SizedLaws
import Derived.LaidMore
import Derived.MakeChecks
import Derived.Stop.Joined
set_option linter.all false
open Bool renaming false->I,true->U
open Go.Proofs.Tryz renaming prog->aS,underlying100->Sp,underlying104->zC,underlying2->Sq,underlying28->xx,underlying3->jZ,underlying33->CJ,underlying37->CK,underlying4->CL,underlying40->zD,underlying42->vJ,underlying59->vK,underlying9->CM,underlying91->Sr,underlying93->Ss,underlying95->GY,underlying98->GZ
open Go.World renaming cells?_some->ar7
open List renaming getElem?_append_left->xe,getElem?_append_right->xf,getElem?_eq_getElem->eC,getElem?_eq_some_iff->mg,getElem?_map->fp,length->L,length_map->bJ,length_range->sz,mem_append->dF,mem_map->dN,mem_of_getElem?->fC,mem_range->fq,range->aH
open Nat renaming lt_of_le_of_lt->rC
open Option renaming none->J,some->V
namespace Go.Ab
open Go Go.RowKit Go.Proofs Go.ChangeShapes Go.WideShapes Go.ChangeAt Go.Deep
abbrev tg(W:World):ei:=⟨λ_=>False,W.heap.size⟩
structure da(W:World)(vs:List Value)(cs:List AV):Prop where
 len:L vs=L cs
 cell:∀v∈vs,ir v=U
 rep:∀(i:Nat) v c,vs[i]?=V v->cs[i]?=V c->ba (tg W) W [] β0 v c
section
variable{H:Type}{enc:TypeId×Value->H}{P:Program}{W:World}
theorem da.nil:da W [] []:=⟨rfl,λ_ h=>(by cases h),λi v c h _=>(by simp at h)⟩
theorem da.one{v:Value}{c:AV}(h:ba (tg W) W [] β0 v c)(d:ir v=U):da W [v] [c]:=by refine⟨rfl,λx a=>?_,λi x y a b=>?_⟩;rw[List.mem_singleton.1 a];exact d;cases i with|zero=>simp at a b;rw[<-a,<-b];exact h|succ i=>simp at a
theorem da.app{a b:List Value}{x y:List AV}(h:da W a x)(f:da W b y):da W (a++b) (x++y):=by refine⟨by simp[h.len,f.len],λv d=>(dF.1 d).elim (h.cell v) (f.cell v),λi v c d e=>?_⟩;have j:=h.len;rcases Nat.lt_or_ge i (L a) with g|g;rw[xe g] at d;rw[xe (by omega)] at e;exact h.rep i v c d e;rw[xf g] at d;rw[xf (by omega)] at e;rw[<-j] at e;exact f.rep _ v c d e
theorem da.step{cs:List Value}{o z:Nat}{x y:List AV}(a:da W ((cs.drop o).take z) x)(b:da W (cs.drop (o+z)) y):da W (cs.drop o) (x++y):=by rw[<-List.take_append_drop z (cs.drop o),List.drop_drop];exact a.app b
theorem da.last{cs:List Value}{n:Nat}(h:L cs=n):da W (cs.drop n) []:=by rw[List.drop_of_length_le (by omega)];exact .nil
def hY(enc:TypeId×Value->H)(P:Program)(W:World){α:Type}(t:TypeId)(f:α->List AV)(Q:α->Prop):Prop:=∀(fuel:Nat) (cs:List Value) (x:DataW H×List MemPlace),DataW.trod enc P W 0 (λ_=>U) U fuel t cs=V x->(∀n∈x.1.weights P t,n<=reachBytes)->∃a,Q a/\da W cs (f a)
theorem jg{t:TypeId}(a:P.underlying t=V (.int .i64)):hY enc P W t ci (λ_=>True):=by intro fuel cs x h b;obtain⟨n,rfl,_,_⟩:=DataW.trod_int a h;exact⟨n,trivial, .one (.s rfl) rfl⟩
theorem Ed{t:TypeId}(a:P.underlying t=V .bool):hY enc P W t cb (λ_=>True):=by intro fuel cs x h b;obtain⟨n,rfl,_⟩:=DataW.trod_bool a h;exact⟨n,trivial, .one (.s rfl) rfl⟩
theorem Ee{t:TypeId}(a:P.underlying t=V .string):hY enc P W t Go.Ab.cs (λ_=>True):=by intro fuel cs x h b;obtain⟨n,rfl,_,_⟩:=DataW.trod_string a h;exact⟨n,trivial, .one (.s rfl) rfl⟩
theorem ak7{b off n:Nat}:(⟨b,off,J⟩:Addr).add n=⟨b,off+n,J⟩:=by unfold Addr.add;split;rename_i h;subst h;rfl;rfl
theorem apH{e:TypeId}:∀{l:List (DataW H)} {d:DataW H},d∈l->∀n∈d.weights P e,n∈DataW.weightsAll P e l
 |y::l,d,h,n,a=>by
  simp only[DataW.weightsAll,dF]
  rcases List.mem_cons.1 h with rfl|h
  ·exact .inl a
  ·exact .inr (apH h n a)
theorem qS{α:Type}[Inhabited α]{t e:TypeId}{z:Nat}{f:α->List AV}{Q:α->Prop}(ht:P.underlying t=V (.slice e))(hz:P.cellsOf e=z)(ae:0<z)(C:1<=P.bytesOf e)(hf:∀a,L (f a)=z)(hd:∀a,(f a).all eN=U)(hO:hY enc P W e f Q):hY enc P W t (λl:List α=>[sl f l]) (λl=>L l<=reachBytes/\∀a∈l,Q a):=by intro fuel cs x h T;rcases open_slice ht h with⟨rfl,rfl⟩|⟨a,len,cap,m,n,D,Pl,rfl,av,hl,hm,N,rfl,hi⟩;exact⟨[],⟨by simp,by simp⟩, .one (.l0 (λh=>by cases h)) rfl⟩;simp only[if_true] at N;subst N;simp only[DataW.weights,ht] at T;have S:len<=reachBytes:=(by have c:=T _ (List.mem_cons_self ..);simp only[bJ,sz] at c;have o:len*1<=(len+(m-len))*P.bytesOf e:=Nat.mul_le_mul (by omega) C;omega);have af:∀i,∃p:α×List Value,i<len->Q p.1/\W.cells? 0 (a.add (i*z)) z=V p.2/\da W p.2 (f p.1):=(by intro i;by_cases M:i<len;(case neg=>exact⟨default,λh=>absurd h M⟩);obtain⟨Z,c,o⟩:=hi i (by omega);rw[hz] at c;obtain⟨y,q1,q2⟩:=hO _ _ _ o λk hk=>T k (List.mem_cons_of_mem _ (List.mem_append_left _ (apH (dN.2 ⟨i,fq.2 M,rfl⟩) k hk)));exact⟨(y,Z),λ_=>⟨q1,c,q2⟩⟩);obtain⟨F,w⟩:=Classical.axiomOfChoice af;refine⟨(aH len).map λi=>(F i).1,⟨by simpa using S,λy d=>?_⟩, .one ?_ rfl⟩;obtain⟨i,ac,rfl⟩:=dN.1 d;exact(w i (fq.1 ac)).1;rcases Nat.eq_zero_or_pos len with B|B;subst B;exact .l0 (λh=>by cases h);have c0:=ar7 (w 0 B).2.1;have e0:∃v,W.cell? a=V v:=(by have c:=c0.2.2 0 ae;rw[show(a.add (0*z)).add 0=a by simp[Addr.add]] at c;rw[c];exact⟨_,eC (by omega)⟩);obtain⟨v0,O⟩:=e0;obtain⟨b,off,X⟩:=a;have hs:X=J:=(by simpa using World.cell?_spot O);subst hs;have R:=World.block_lt_of_cell? W _ O;have g:∀i j y,db (((aH len).map λi=>(F i).1).map f) i j=V y->i<len/\j<z/\(f (F i).1)[j]?=V y:=(by intro i j y d;unfold db at d;cases A:(((aH len).map λi=>(F i).1).map f)[i]? with|none=>rw[A] at d;cases d|some r=>rw[A] at d;obtain⟨G,K⟩:=mg.1 A;simp only[bJ,sz] at G;simp only[List.getElem_map,List.getElem_range] at K;subst K;simp only[Option.bind_some] at d;have:=(mg.1 d).1;rw[hf] at this;exact⟨G,this,d⟩);have q:∀i j,i<len->j<z->∃v,(F i).2[j]?=V v/\W.cell? ⟨b,off+i*z+j,J⟩=V v:=(by intro i j c o;obtain⟨_,E,k3⟩:=ar7 (w i c).2.1;have s:=k3 j o;rw[ak7,ak7] at s;have h4:(F i).2[j]?=V ((F i).2[j]'(by omega)):=eC (by omega);exact⟨_,h4,by rw[s];exact h4⟩);refine .l1 (size:=z) (λh=>by cases h) (λh=>h) (λi j y d=>?_) (λi j=>((F i).2[j]?).getD (.bool I)) (by simp) B hl (λh=>by cases h) R (λb x C=>by rw[sK] at C;cases C) (λr A=>?_) (λi j y d=>?_) (λi j y d=>?_) (λi j y d=>?_);obtain⟨c,o,s⟩:=g i j y d;exact List.all_eq_true.1 (hd _) y (fC s);obtain⟨y,_,rfl⟩:=dN.1 A;exact hf y;obtain⟨c,o,s⟩:=g i j y d;obtain⟨v,u,E⟩:=q i j c o;rw[E,u];rfl;obtain⟨c,o,s⟩:=g i j y d;obtain⟨v,u,E⟩:=q i j c o;rw[u];exact(w i c).2.2.rep j v y u s;obtain⟨c,o,s⟩:=g i j y d;obtain⟨v,u,E⟩:=q i j c o;rw[u];exact(w i c).2.2.cell v (fC u)
theorem eG{t:TypeId}{fs:Array Field}{cs:List Value}{xs:List (DataW H×List MemPlace)}{n:Nat}(s:P.underlying t=V (.struct fs))(v:∀k∈(DataW.agg (xs.map (·.1))).weights P t,k<=reachBytes)(l:L xs=fs.size)(p:∀(i:Nat) (f:Field),fs[i]?=V f->DataW.trod enc P W 0 (λ_=>U) U n f.type ((cs.drop f.offset).take (P.cellsOf f.type))=xs[i]?)(i:Nat){f:Field}{α:Type}{g:α->List AV}{Q:α->Prop}{u:TypeId}{o z:Nat}(c:fs[i]?=V f)(h:f.type=u)(r:f.offset=o)(w:P.cellsOf u=z)(m:hY enc P W u g Q):∃a,Q a/\da W ((cs.drop o).take z) (g a):=by have e:=p i f c;have b:i<L xs:=(by rw[l];exact(Array.getElem?_eq_some_iff.1 c).1);rw[h,r,w,eC b] at e;refine m _ _ _ e λk q=>v k ?_;simp only[DataW.weights,s];refine DataW.weights_mem_each (j:=i) (t:=u) (d:=(xs[i]'b).1) ?_ ?_ k q;rw[fp,Array.getElem?_toList,c,Option.map_some,h];rw[fp,eC b];rfl
end
section
variable{H:Type}{enc:TypeId×Value->H}{W:World}
theorem azU{d:br}{a1:Int}{c:bW}{f:List aP}(j:L d.bC<=reachBytes)(g:(∀l∈c.sync.ak,L l.bk<=reachBytes)/\L c.bU<=reachBytes)(h:∀a∈f,L a.dI<=reachBytes/\L a.ep<=reachBytes):hU ⟨d,a1,c,f⟩:=by have b:reachBytes<4611686018427387904:=(by decide);exact⟨rC j b,λl k=>rC (g.1 l k) b,λe i=>⟨rC (h e i).1 b,rC (h e i).2 b⟩,rC g.2 b⟩
theorem Ru:aS.cellsOf 2=1:=by kernel_rfl
theorem jU:aS.cellsOf 3=1:=by kernel_rfl
theorem EF:aS.cellsOf 4=1:=by kernel_rfl
theorem EG:aS.cellsOf 9=1:=by kernel_rfl
theorem aM8:aS.cellsOf 22=1:=by kernel_rfl
theorem aM9:aS.cellsOf 23=1:=by kernel_rfl
theorem aNa:aS.cellsOf 24=1:=by kernel_rfl
theorem apU:aS.cellsOf 25=1:=by kernel_rfl
theorem aNb:aS.cellsOf 26=1:=by kernel_rfl
theorem apV:aS.cellsOf 28=6:=by kernel_rfl
theorem aNc:aS.cellsOf 29=1:=by kernel_rfl
theorem aNd:aS.cellsOf 30=1:=by kernel_rfl
theorem aNe:aS.cellsOf 31=1:=by kernel_rfl
theorem apW:aS.cellsOf 33=4:=by kernel_rfl
theorem apX:aS.cellsOf 34=1:=by kernel_rfl
theorem Bz:aS.cellsOf 35=1:=by kernel_rfl
theorem apY:aS.cellsOf 37=7:=by kernel_rfl
theorem aNf:aS.cellsOf 38=1:=by kernel_rfl
theorem aNg:aS.cellsOf 40=15:=by kernel_rfl
theorem aNh:aS.cellsOf 42=6:=by kernel_rfl
theorem apZ:aS.cellsOf 59=7:=by kernel_rfl
theorem ap0:aS.cellsOf 91=2:=by kernel_rfl
theorem ap1:aS.cellsOf 93=2:=by kernel_rfl
theorem ap2:aS.cellsOf 95=3:=by kernel_rfl
theorem ap3:aS.cellsOf 98=3:=by kernel_rfl
theorem apR:aS.cellsOf 100=2:=by kernel_rfl
theorem apS:aS.cellsOf 104=5:=by kernel_rfl
theorem AX:hY enc aS W 35 (λl:List Int=>[sl ci l]) (λl=>L l<=reachBytes/\∀a∈l,True):=qS Tryz.underlying35 jU (by decide) (by show 1<=aS.bytesOf 3;rw[show aS.bytesOf 3=8 by kernel_rfl];decide) (λa=>rfl) (λa=>rfl) (jg jZ)
theorem anN:hY enc aS W 34 (λl:List Int=>[sl ci l]) (λl=>L l<=reachBytes/\∀a∈l,True):=qS Tryz.underlying34 Ru (by decide) (by show 1<=aS.bytesOf 2;rw[show aS.bytesOf 2=8 by kernel_rfl];decide) (λa=>rfl) (λa=>rfl) (jg Sq)
theorem aET:hY enc aS W 30 (λl:List Bool=>[sl cb l]) (λl=>L l<=reachBytes/\∀a∈l,True):=qS Tryz.underlying30 EF (by decide) (by show 1<=aS.bytesOf 4;rw[show aS.bytesOf 4=1 by kernel_rfl];decide) (λa=>rfl) (λa=>rfl) (Ed CL)
theorem anM:hY enc aS W 25 (λl:List ByteArray=>[sl Go.Ab.cs l]) (λl=>L l<=reachBytes/\∀a∈l,True):=qS Tryz.underlying25 EG (by decide) (by show 1<=aS.bytesOf 9;rw[show aS.bytesOf 9=16 by kernel_rfl];decide) (λa=>rfl) (λa=>rfl) (Ee CM)
theorem aED:hY enc aS W 104 cA.c (λ_=>True):=by intro fuel cs x h d;obtain⟨xs,n,_,rfl,j,a,b⟩:=DataW.trod_struct zC h;obtain⟨e,r,k⟩:=eG zC d a b 0 (u:=9) (o:=0) rfl rfl rfl EG (Ee CM);obtain⟨a1,s,l⟩:=eG zC d a b 1 (u:=3) (o:=1) rfl rfl rfl jU (jg jZ);obtain⟨f,t,m⟩:=eG zC d a b 2 (u:=3) (o:=2) rfl rfl rfl jU (jg jZ);obtain⟨g,v,p⟩:=eG zC d a b 3 (u:=4) (o:=3) rfl rfl rfl EF (Ed CL);obtain⟨i,w,q⟩:=eG zC d a b 4 (u:=2) (o:=4) rfl rfl rfl Ru (jg Sq);exact⟨⟨e,a1,f,g,i⟩,trivial,(da.step k (da.step l (da.step m (da.step p (da.step q (da.last (j.trans apS)))))))⟩
theorem aEL:hY enc aS W 93 dS.c (λ_=>True):=by intro fuel cs x h d;obtain⟨xs,n,_,rfl,f,a,b⟩:=DataW.trod_struct Ss h;obtain⟨e,j,g⟩:=eG Ss d a b 0 (u:=9) (o:=0) rfl rfl rfl EG (Ee CM);obtain⟨a1,k,i⟩:=eG Ss d a b 1 (u:=4) (o:=1) rfl rfl rfl EF (Ed CL);exact⟨⟨e,a1⟩,trivial,(da.step g (da.step i (da.last (f.trans ap1))))⟩
theorem aEK:hY enc aS W 91 el.c (λ_=>True):=by intro fuel cs x h d;obtain⟨xs,n,_,rfl,f,a,b⟩:=DataW.trod_struct Sr h;obtain⟨e,j,g⟩:=eG Sr d a b 0 (u:=9) (o:=0) rfl rfl rfl EG (Ee CM);obtain⟨a1,k,i⟩:=eG Sr d a b 1 (u:=3) (o:=1) rfl rfl rfl jU (jg jZ);exact⟨⟨e,a1⟩,trivial,(da.step g (da.step i (da.last (f.trans ap0))))⟩
theorem aEM:hY enc aS W 95 dL.c (λ_=>True):=by intro fuel cs x h d;obtain⟨xs,n,_,rfl,g,a,b⟩:=DataW.trod_struct GY h;obtain⟨e,l,i⟩:=eG GY d a b 0 (u:=3) (o:=0) rfl rfl rfl jU (jg jZ);obtain⟨a1,m,j⟩:=eG GY d a b 1 (u:=3) (o:=1) rfl rfl rfl jU (jg jZ);obtain⟨f,p,k⟩:=eG GY d a b 2 (u:=3) (o:=2) rfl rfl rfl jU (jg jZ);exact⟨⟨e,a1,f⟩,trivial,(da.step i (da.step j (da.step k (da.last (g.trans ap2)))))⟩
theorem aEC:hY enc aS W 100 cg.c (λx=>L x.bk<=reachBytes):=by intro fuel cs x h d;obtain⟨xs,n,_,rfl,f,a,b⟩:=DataW.trod_struct Sp h;obtain⟨e,k,i⟩:=eG Sp d a b 0 (u:=3) (o:=0) rfl rfl rfl jU (jg jZ);obtain⟨a1,g,j⟩:=eG Sp d a b 1 (u:=35) (o:=1) rfl rfl rfl Bz AX;exact⟨⟨e,a1⟩,g.1,(da.step i (da.step j (da.last (f.trans apR))))⟩
theorem aEN:hY enc aS W 98 bF.c (λ_=>True):=by intro fuel cs x h d;obtain⟨xs,n,_,rfl,g,a,b⟩:=DataW.trod_struct GZ h;obtain⟨e,l,i⟩:=eG GZ d a b 0 (u:=3) (o:=0) rfl rfl rfl jU (jg jZ);obtain⟨a1,m,j⟩:=eG GZ d a b 1 (u:=3) (o:=1) rfl rfl rfl jU (jg jZ);obtain⟨f,p,k⟩:=eG GZ d a b 2 (u:=4) (o:=2) rfl rfl rfl EF (Ed CL);exact⟨⟨e,a1,f⟩,trivial,(da.step i (da.step j (da.step k (da.last (g.trans ap3)))))⟩
theorem aEJ:hY enc aS W 59 aP.c (λx=>L x.dI<=reachBytes/\L x.ep<=reachBytes):=by intro fuel cs x h d;obtain⟨xs,n,_,rfl,l,a,b⟩:=DataW.trod_struct vK h;obtain⟨e,z,q⟩:=eG vK d a b 0 (u:=3) (o:=0) rfl rfl rfl jU (jg jZ);obtain⟨a1,A,r⟩:=eG vK d a b 1 (u:=3) (o:=1) rfl rfl rfl jU (jg jZ);obtain⟨f,B,s⟩:=eG vK d a b 2 (u:=3) (o:=2) rfl rfl rfl jU (jg jZ);obtain⟨g,C,t⟩:=eG vK d a b 3 (u:=2) (o:=3) rfl rfl rfl Ru (jg Sq);obtain⟨i,D,v⟩:=eG vK d a b 4 (u:=3) (o:=4) rfl rfl rfl jU (jg jZ);obtain⟨j,m,w⟩:=eG vK d a b 5 (u:=35) (o:=5) rfl rfl rfl Bz AX;obtain⟨k,p,y⟩:=eG vK d a b 6 (u:=35) (o:=6) rfl rfl rfl Bz AX;exact⟨⟨e,a1,f,g,i,j,k⟩,⟨m.1,p.1⟩,(da.step q (da.step r (da.step s (da.step t (da.step v (da.step w (da.step y (da.last (l.trans apZ)))))))))⟩
theorem aEO:hY enc aS W 22 (λl:List cA=>[sl cA.c l]) (λl=>L l<=reachBytes/\∀a∈l,True):=qS Tryz.underlying22 apS (by decide) (by show 1<=aS.bytesOf 104;rw[show aS.bytesOf 104=48 by kernel_rfl];decide) (λa=>rfl) (λa=>rfl) (aED)
theorem aEP:hY enc aS W 23 (λl:List dS=>[sl dS.c l]) (λl=>L l<=reachBytes/\∀a∈l,True):=qS Tryz.underlying23 ap1 (by decide) (by show 1<=aS.bytesOf 93;rw[show aS.bytesOf 93=24 by kernel_rfl];decide) (λa=>rfl) (λa=>rfl) (aEL)
theorem aEQ:hY enc aS W 24 (λl:List el=>[sl el.c l]) (λl=>L l<=reachBytes/\∀a∈l,True):=qS Tryz.underlying24 ap0 (by decide) (by show 1<=aS.bytesOf 91;rw[show aS.bytesOf 91=24 by kernel_rfl];decide) (λa=>rfl) (λa=>rfl) (aEK)
theorem aER:hY enc aS W 26 (λl:List dL=>[sl dL.c l]) (λl=>L l<=reachBytes/\∀a∈l,True):=qS Tryz.underlying26 ap2 (by decide) (by show 1<=aS.bytesOf 95;rw[show aS.bytesOf 95=24 by kernel_rfl];decide) (λa=>rfl) (λa=>rfl) (aEM)
theorem aES:hY enc aS W 29 (λl:List cg=>[sl cg.c l]) (λl=>L l<=reachBytes/\∀a∈l,L a.bk<=reachBytes):=qS Tryz.underlying29 apR (by decide) (by show 1<=aS.bytesOf 100;rw[show aS.bytesOf 100=32 by kernel_rfl];decide) (λa=>rfl) (λa=>rfl) (aEC)
theorem aEU:hY enc aS W 31 (λl:List bF=>[sl bF.c l]) (λl=>L l<=reachBytes/\∀a∈l,True):=qS Tryz.underlying31 ap3 (by decide) (by show 1<=aS.bytesOf 98;rw[show aS.bytesOf 98=24 by kernel_rfl];decide) (λa=>rfl) (λa=>rfl) (aEN)
theorem aEV:hY enc aS W 38 (λl:List aP=>[sl aP.c l]) (λl=>L l<=reachBytes/\∀a∈l,(L a.dI<=reachBytes/\L a.ep<=reachBytes)):=qS Tryz.underlying38 apZ (by decide) (by show 1<=aS.bytesOf 59;rw[show aS.bytesOf 59=88 by kernel_rfl];decide) (λa=>rfl) (λa=>rfl) (aEJ)
theorem aEE:hY enc aS W 28 br.c (λx=>L x.bC<=reachBytes):=by intro fuel cs x h d;obtain⟨xs,n,_,rfl,k,a,b⟩:=DataW.trod_struct xx h;obtain⟨e,v,m⟩:=eG xx d a b 0 (u:=22) (o:=0) rfl rfl rfl aM8 aEO;obtain⟨a1,w,p⟩:=eG xx d a b 1 (u:=23) (o:=1) rfl rfl rfl aM9 aEP;obtain⟨f,l,q⟩:=eG xx d a b 2 (u:=24) (o:=2) rfl rfl rfl aNa aEQ;obtain⟨g,y,r⟩:=eG xx d a b 3 (u:=25) (o:=3) rfl rfl rfl apU anM;obtain⟨i,z,s⟩:=eG xx d a b 4 (u:=25) (o:=4) rfl rfl rfl apU anM;obtain⟨j,A,t⟩:=eG xx d a b 5 (u:=26) (o:=5) rfl rfl rfl aNb aER;exact⟨⟨e,a1,f,g,i,j⟩,l.1,(da.step m (da.step p (da.step q (da.step r (da.step s (da.step t (da.last (k.trans apV))))))))⟩
theorem aEF:hY enc aS W 33 aW.c (λx=>∀l∈x.ak,L l.bk<=reachBytes):=by intro fuel cs x h d;obtain⟨xs,n,_,rfl,i,a,b⟩:=DataW.trod_struct CJ h;obtain⟨e,j,k⟩:=eG CJ d a b 0 (u:=29) (o:=0) rfl rfl rfl aNc aES;obtain⟨a1,r,m⟩:=eG CJ d a b 1 (u:=3) (o:=1) rfl rfl rfl jU (jg jZ);obtain⟨f,s,p⟩:=eG CJ d a b 2 (u:=30) (o:=2) rfl rfl rfl aNd aET;obtain⟨g,t,q⟩:=eG CJ d a b 3 (u:=31) (o:=3) rfl rfl rfl aNe aEU;exact⟨⟨e,a1,f,g⟩,j.2,(da.step k (da.step m (da.step p (da.step q (da.last (i.trans apW))))))⟩
theorem aEG:hY enc aS W 37 bW.c (λx=>(∀l∈x.sync.ak,L l.bk<=reachBytes)/\L x.bU<=reachBytes):=by intro fuel cs x h d;obtain⟨xs,n,_,rfl,i,a,b⟩:=DataW.trod_struct CK h;obtain⟨e,j,m⟩:=eG CK d a b 0 (u:=33) (o:=0) rfl rfl rfl apW aEF;obtain⟨a1,s,p⟩:=eG CK d a b 1 (u:=34) (o:=4) rfl rfl rfl apX anN;obtain⟨f,k,q⟩:=eG CK d a b 2 (u:=34) (o:=5) rfl rfl rfl apX anN;obtain⟨g,t,r⟩:=eG CK d a b 3 (u:=35) (o:=6) rfl rfl rfl Bz AX;exact⟨⟨e,a1,f,g⟩,⟨j,k.1⟩,(da.step m (da.step p (da.step q (da.step r (da.last (i.trans apY))))))⟩
theorem aEH:hY enc aS W 40 am.c (λx=>hU x):=by intro fuel cs x h d;obtain⟨xs,n,_,rfl,i,a,b⟩:=DataW.trod_struct zD h;obtain⟨e,j,m⟩:=eG zD d a b 0 (u:=28) (o:=0) rfl rfl rfl apV aEE;obtain⟨a1,s,p⟩:=eG zD d a b 1 (u:=3) (o:=6) rfl rfl rfl jU (jg jZ);obtain⟨f,k,q⟩:=eG zD d a b 2 (u:=37) (o:=7) rfl rfl rfl apY aEG;obtain⟨g,l,r⟩:=eG zD d a b 3 (u:=38) (o:=14) rfl rfl rfl aNf aEV;exact⟨⟨e,a1,f,g⟩,azU j k l.2,(da.step m (da.step p (da.step q (da.step r (da.last (i.trans aNg))))))⟩
theorem aEI:hY enc aS W 42 cJ.c (λx=>L x.cW<=reachBytes):=by intro fuel cs x h d;obtain⟨xs,n,_,rfl,k,a,b⟩:=DataW.trod_struct vJ h;obtain⟨e,v,m⟩:=eG vJ d a b 0 (u:=3) (o:=0) rfl rfl rfl jU (jg jZ);obtain⟨a1,w,p⟩:=eG vJ d a b 1 (u:=3) (o:=1) rfl rfl rfl jU (jg jZ);obtain⟨f,y,q⟩:=eG vJ d a b 2 (u:=3) (o:=2) rfl rfl rfl jU (jg jZ);obtain⟨g,z,r⟩:=eG vJ d a b 3 (u:=3) (o:=3) rfl rfl rfl jU (jg jZ);obtain⟨i,A,s⟩:=eG vJ d a b 4 (u:=3) (o:=4) rfl rfl rfl jU (jg jZ);obtain⟨j,l,t⟩:=eG vJ d a b 5 (u:=35) (o:=5) rfl rfl rfl Bz AX;exact⟨⟨e,a1,f,g,i,j⟩,l.1,(da.step m (da.step p (da.step q (da.step r (da.step s (da.step t (da.last (k.trans aNh))))))))⟩
end
end Go.Ab
