/- Part of the proof of EncodeIndex, made short by a program. -/
import Derived.Test.YtmilgmjhdfijjaaGreatDoorG
import Derived.ProofKit
import Derived.OpenShut
import Derived.ChangeOld
import Derived.Deep.Slices
import Derived.Deep.Fields
import Derived.ChangeSame
import Derived.SizedLaws
import Derived.LaidMore
import Derived.MakeChecks
import Derived.Stop.Joined
set_option linter.all false
open Bool renaming false->I,true->U
open Go.Proofs.Tryz renaming prog->aS,underlying3->jZ
open Go.World renaming cells?_some->ar7
open List renaming getElem?_append_left->xe,getElem?_append_right->xf,getElem?_eq_getElem->eC,getElem?_eq_some_iff->mg,getElem?_map->ve,length->L,length_map->bJ,length_range->sz,mem_append->dF,mem_map->dN,mem_of_getElem?->fC,mem_range->fq,range->aH
open Option renaming none->J,some->V
namespace Go.Ab
open Go Go.RowKit Go.Proofs Go.ChangeShapes Go.WideShapes Go.ChangeAt Go.Deep
abbrev tg(W:World):rm:=⟨λ_=>False,W.heap.size⟩
structure da(W:World)(vs:List Value)(cs:List AV):Prop where
 len:L vs=L cs
 cell:∀v∈vs,amk v=U
 rep:∀(i:Nat) v c,vs[i]?=V v->cs[i]?=V c->ba (tg W) W [] β0 v c
section
variable{H:Type}{enc:TypeId×Value->H}{P:Program}{W:World}
theorem da.nil:da W [] []:=⟨rfl,λ_ h=>(by cases h),λi v c h _=>(by simp at h)⟩
def da.one{v:Value}{c:AV}(h:ba (tg W) W [] β0 v c)(d:amk v=U):da W [v] [c]:=by refine⟨rfl,λx a=>?_,λi x y a b=>?_⟩;rw[List.mem_singleton.1 a];exact d;cases i with|zero=>simp at a b;rw[<-a,<-b];exact h|succ i=>simp at a
def da.app{a b:List Value}{x y:List AV}(h:da W a x)(f:da W b y):da W (a++b) (x++y):=by refine⟨by simp[h.len,f.len],λv d=>(dF.1 d).elim (h.cell v) (f.cell v),λi v c d e=>?_⟩;have j:=h.len;rcases Nat.lt_or_ge i (L a) with g|g;rw[xe g] at d;rw[xe (by omega)] at e;exact h.rep i v c d e;rw[xf g] at d;rw[xf (by omega)] at e;rw[<-j] at e;exact f.rep _ v c d e
def da.step{cs:List Value}{o z:Nat}{x y:List AV}(a:da W ((cs.drop o).take z) x)(b:da W (cs.drop (o+z)) y):da W (cs.drop o) (x++y):=by rw[<-List.take_append_drop z (cs.drop o),List.drop_drop];exact a.app b
def da.last{cs:List Value}{n:Nat}(h:L cs=n):da W (cs.drop n) []:=by rw[List.drop_of_length_le (by omega)];exact .nil
def hY(enc:TypeId×Value->H)(P:Program)(W:World){α:Type}(t:TypeId)(f:α->List AV)(Q:α->Prop):Prop:=∀(fuel:Nat) (cs:List Value) (x:DataW H×List MemPlace),DataW.trod enc P W 0 (λ_=>U) U fuel t cs=V x->(∀n∈x.1.weights P t,n<=reachBytes)->∃a,Q a/\da W cs (f a)
def jg{t:TypeId}(a:P.underlying t=V (.int .i64)):hY enc P W t ci (λ_=>True):=by intro fuel cs x h b;obtain⟨n,rfl,_,_⟩:=DataW.trod_int a h;exact⟨n,trivial, .one (.s rfl) rfl⟩
def aXW{t:TypeId}(b:P.underlying t=V (.int .u8)):hY enc P W t cu (λn=>0<=n/\n<256):=by intro fuel cs x h d;obtain⟨n,rfl,_,a⟩:=DataW.trod_int b h;refine⟨n,?_, .one (.s rfl) rfl⟩;simp only[Lit.wf,Bool.and_eq_true,mn] at a;exact⟨a.1,by have c:n<=255:=a.2;omega⟩
def ak7{b a n:Nat}:(⟨b,a,J⟩:Addr).add n=⟨b,a+n,J⟩:=by unfold Addr.add;split;rename_i h;subst h;rfl;rfl
def apH{e:TypeId}:∀{l:List (DataW H)} {d:DataW H},d∈l->∀n∈d.weights P e,n∈DataW.weightsAll P e l
 |y::l,d,h,n,a=>by
  simp only[DataW.weightsAll,dF]
  rcases List.mem_cons.1 h with rfl|h
  ·exact .inl a
  ·exact .inr (apH h n a)
def qS{α:Type}[Inhabited α]{t e:TypeId}{z:Nat}{f:α->List AV}{Q:α->Prop}(ht:P.underlying t=V (.slice e))(hz:P.cellsOf e=z)(ae:0<z)(C:1<=P.bytesOf e)(hf:∀a,L (f a)=z)(hd:∀a,(f a).all eN=U)(hO:hY enc P W e f Q):hY enc P W t (λl:List α=>[sl f l]) (λl=>L l<=reachBytes/\∀a∈l,Q a):=by intro fuel cs x h T;rcases open_slice ht h with⟨rfl,rfl⟩|⟨a,len,cap,m,n,D,Pl,rfl,ax,hl,hm,N,rfl,hi⟩;exact⟨[],⟨by simp,by simp⟩, .one (.l0 (λh=>by cases h)) rfl⟩;simp only[vm] at N;subst N;simp only[DataW.weights,ht] at T;have S:len<=reachBytes:=(by have c:=T _ (List.mem_cons_self ..);simp only[bJ,sz] at c;have o:len*1<=(len+(m-len))*P.bytesOf e:=Nat.mul_le_mul (by omega) C;omega);have af:∀i,∃p:α×List Value,i<len->Q p.1/\W.cells? 0 (a.add (i*z)) z=V p.2/\da W p.2 (f p.1):=(by intro i;by_cases M:i<len;(case neg=>exact⟨default,λh=>mp h M⟩);obtain⟨Z,c,o⟩:=hi i (by omega);rw[hz] at c;obtain⟨y,q1,q2⟩:=hO _ _ _ o λk hk=>T k (List.mem_cons_of_mem _ (List.mem_append_left _ (apH (dN.2 ⟨i,fq.2 M,rfl⟩) k hk)));exact⟨(y,Z),λ_=>⟨q1,c,q2⟩⟩);obtain⟨F,w⟩:=Classical.axiomOfChoice af;refine⟨(aH len).map λi=>(F i).1,⟨by simpa using S,λy d=>?_⟩, .one ?_ rfl⟩;obtain⟨i,ac,rfl⟩:=dN.1 d;exact(w i (fq.1 ac)).1;rcases Nat.eq_zero_or_pos len with B|B;subst B;exact .l0 (λh=>by cases h);have c0:=ar7 (w 0 B).2.1;have e0:∃v,W.cell? a=V v:=(by have c:=c0.2.2 0 ae;rw[show(a.add (0*z)).add 0=a by simp[Addr.add]] at c;rw[c];exact⟨_,eC (by omega)⟩);obtain⟨v0,O⟩:=e0;obtain⟨b,ag,X⟩:=a;have hs:X=J:=(by simpa using World.cell?_spot O);subst hs;have R:=World.block_lt_of_cell? W _ O;have g:∀i j y,db (((aH len).map λi=>(F i).1).map f) i j=V y->i<len/\j<z/\(f (F i).1)[j]?=V y:=(by intro i j y d;unfold db at d;cases A:(((aH len).map λi=>(F i).1).map f)[i]? with|none=>rw[A] at d;cases d|some r=>rw[A] at d;obtain⟨G,K⟩:=mg.1 A;simp only[bJ,sz] at G;simp only[List.getElem_map,List.getElem_range] at K;subst K;simp only[Option.bind_some] at d;have:=(mg.1 d).1;rw[hf] at this;exact⟨G,this,d⟩);have q:∀i j,i<len->j<z->∃v,(F i).2[j]?=V v/\W.cell? ⟨b,ag+i*z+j,J⟩=V v:=(by intro i j c o;obtain⟨_,E,k3⟩:=ar7 (w i c).2.1;have s:=k3 j o;rw[ak7,ak7] at s;have h4:(F i).2[j]?=V ((F i).2[j]'(by omega)):=eC (by omega);exact⟨_,h4,by rw[s];exact h4⟩);refine .l1 (size:=z) (λh=>by cases h) (λh=>h) (λi j y d=>?_) (λi j=>((F i).2[j]?).getD (.bool I)) (by simp) B hl (λh=>by cases h) R (λb x C=>by rw[sK] at C;cases C) (λr A=>?_) (λi j y d=>?_) (λi j y d=>?_) (λi j y d=>?_);obtain⟨c,o,s⟩:=g i j y d;exact List.all_eq_true.1 (hd _) y (fC s);obtain⟨y,_,rfl⟩:=dN.1 A;exact hf y;obtain⟨c,o,s⟩:=g i j y d;obtain⟨v,u,E⟩:=q i j c o;rw[E,u];rfl;obtain⟨c,o,s⟩:=g i j y d;obtain⟨v,u,E⟩:=q i j c o;rw[u];exact(w i c).2.2.rep j v y u s;obtain⟨c,o,s⟩:=g i j y d;obtain⟨v,u,E⟩:=q i j c o;rw[u];exact(w i c).2.2.cell v (fC u)
def eG{t:TypeId}{fs:Array Field}{cs:List Value}{xs:List (DataW H×List MemPlace)}{n:Nat}(s:P.underlying t=V (.struct fs))(v:∀k∈(DataW.agg (xs.map (·.1))).weights P t,k<=reachBytes)(l:L xs=fs.size)(p:∀(i:Nat) (f:Field),fs[i]?=V f->DataW.trod enc P W 0 (λ_=>U) U n f.type ((cs.drop f.offset).take (P.cellsOf f.type))=xs[i]?)(i:Nat){f:Field}{α:Type}{g:α->List AV}{Q:α->Prop}{u:TypeId}{o z:Nat}(c:fs[i]?=V f)(h:f.type=u)(r:f.offset=o)(w:P.cellsOf u=z)(m:hY enc P W u g Q):∃a,Q a/\da W ((cs.drop o).take z) (g a):=by have e:=p i f c;have b:i<L xs:=(by rw[l];exact(Array.getElem?_eq_some_iff.1 c).1);rw[h,r,w,eC b] at e;refine m _ _ _ e λk q=>v k ?_;simp only[DataW.weights,s];refine DataW.weights_mem_each (j:=i) (t:=u) (d:=(xs[i]'b).1) ?_ ?_ k q;rw[ve,Array.getElem?_toList,c,Option.map_some,h];rw[ve,eC b];rfl
end
section
variable{H:Type}{enc:TypeId×Value->H}{W:World}
def jU:aS.cellsOf 3=1:=by kernel_rfl
def zc5:aS.cellsOf 5=1:=by kernel_rfl
def aM8:aS.cellsOf 22=1:=by kernel_rfl
def aNa:aS.cellsOf 24=5:=by kernel_rfl
def bhY:aS.cellsOf 51=3:=by kernel_rfl
def aEO:hY enc aS W 22 (λl:List Int=>[sl cu l]) (λl=>L l<=reachBytes/\∀a∈l,0<=a/\a<256):=qS Tryz.underlying22 zc5 (by decide) (by show 1<=aS.bytesOf 5;rw[show aS.bytesOf 5=1 by kernel_rfl];decide) (λa=>rfl) (λa=>rfl) (aXW Tryz.underlying5)
def byl{l:List Int}(h:L l<=reachBytes/\∀a∈l,0<=a/\a<256):ByL l:=⟨h.2,Nat.lt_of_le_of_lt h.1 (by decide)⟩
def bdX:hY enc aS W 24 aOA.cs (aSr):=by intro fuel cs x h c;obtain⟨xs,n,_,rfl,j,a,b⟩:=DataW.trod_struct Tryz.underlying24 h;obtain⟨d,k,r⟩:=eG Tryz.underlying24 c a b 0 (u:=22) (o:=0) rfl rfl rfl aM8 aEO;obtain⟨e,l,s⟩:=eG Tryz.underlying24 c a b 1 (u:=22) (o:=1) rfl rfl rfl aM8 aEO;obtain⟨f,m,t⟩:=eG Tryz.underlying24 c a b 2 (u:=22) (o:=2) rfl rfl rfl aM8 aEO;obtain⟨g,p,v⟩:=eG Tryz.underlying24 c a b 3 (u:=5) (o:=3) rfl rfl rfl zc5 (aXW Tryz.underlying5);obtain⟨i,q,w⟩:=eG Tryz.underlying24 c a b 4 (u:=5) (o:=4) rfl rfl rfl zc5 (aXW Tryz.underlying5);exact⟨⟨d,e,f,g,i⟩,⟨byl k,byl l,byl m,p,q⟩,(da.step r (da.step s (da.step t (da.step v (da.step w (da.last (j.trans aNa)))))))⟩
def bfn:hY enc aS W 51 ap.c (λ_=>True):=by intro fuel cs x h d;obtain⟨xs,n,_,rfl,i,a,b⟩:=DataW.trod_struct Tryz.underlying51 h;obtain⟨e,m,j⟩:=eG Tryz.underlying51 d a b 0 (u:=3) (o:=0) rfl rfl rfl jU (jg jZ);obtain⟨f,p,k⟩:=eG Tryz.underlying51 d a b 1 (u:=3) (o:=1) rfl rfl rfl jU (jg jZ);obtain⟨g,q,l⟩:=eG Tryz.underlying51 d a b 2 (u:=3) (o:=2) rfl rfl rfl jU (jg jZ);exact⟨⟨e,f,g⟩,trivial,(da.step j (da.step k (da.step l (da.last (i.trans bhY)))))⟩
end
end Go.Ab
