/- Part of the proof of WitnessSchedules. -/
import Derived.Test.YtdgiigkneimbdaaGreatDoorH
import Derived.ProofKit
import Derived.OpenShut
import Derived.ChangeOld
import Derived.Deep.Slices
import Derived.Deep.Fields
import Derived.ChangeSame
import Derived.SizedLaws
import Derived.LaidMore
import Derived.MakeChecks
import Derived.Stop.Joined
set_option linter.all false
open Bool renaming and_eq_true->bN,false->I,true->U
open Go.Proofs.Tryz renaming prog->aS
open Go.Value renaming okWide->a8f
open Go.World renaming cells?_some->ar7
open List renaming length->L,range->aH
open Nat renaming lt_of_le_of_lt->rC
open Option renaming none->J,some->V
namespace Go.Ab
open Go Go.RowKit Go.Proofs Go.ChangeShapes Go.WideShapes Go.ChangeAt Go.Deep
abbrev tg(W:World):Ctx:=⟨λ_=>False,W.heap.size⟩
structure da(W:World)(vs:List Value)(cs:dM):Prop where
 len:L vs=L cs
 cell:∀v∈vs,amk v=U
 rep:∀(i:Nat) v c,vs[i]?=V v->cs[i]?=V c->ba (tg W) W [] β0 v c
section
variable{Hq:Type}{enc:TypeId×Value->Hq}{P:Program}{W:World}
theorem da.nil:da W [] []:=⟨A,λ_ h=>(by cases h),O⟩
theorem da.one{v c}(h:ba (tg W) W [] β0 v c)(b:amk v=U):da W [v] [c]:=by refine⟨A,λx a=>?_,λi x y a d=>?_⟩;simp_all;grind
theorem da.app{a b x y}(h:da W a x)(d:da W b y):da W (a++b) (x++y):=by refine⟨by simp[h.len,d.len],(by grind [da.cell]),λi v c f e=>?_⟩;grind [da.len,da.rep]
theorem da.step{cs:List Value}{o z x y}(a:da W ((cs.drop o).take z) x)(b:da W (cs.drop<|o+z) y):da W (cs.drop o) (x++y):=by rw[<-List.take_append_drop z (cs.drop o),List.drop_drop];exact a.app b
theorem da.last{cs:List Value}{n:Nat}(h:L cs=n):da W (cs.drop n) []:=by grind [nil]
def buc(enc:TypeId×Value->Hq)(P:Program)(W:World){α}(t:TypeId)(f:α->dM)(Q:α->Prop):Prop:=∀(fuel:Nat) (cs:List Value) (x:DataW Hq×List MemPlace),DataW.trod enc P W 0 (λ_=>U) U fuel t cs=V x->(∀n∈x.1.weights P t,n<=reachBytes)->∃a,Q a/\da W cs (f a)
def bpi{t}(a:P.underlying t=V (.int .i64)):buc enc P W t ci (λ_=>True):=by intro fuel cs x h b;obtain⟨n,rfl,_,_⟩:=DataW.trod_int a h;exact⟨n,trivial, .one (.s A) A⟩
def aXW{t}(b:P.underlying t=V (.int .u8)):buc enc P W t cu (λn=>0<=n/\n<256):=by intro fuel cs x h c;obtain⟨n,rfl,_,a⟩:=DataW.trod_int b h;refine⟨n,?_, .one (.s A) A⟩;simp only[Lit.wf,bN,awG] at a;exact⟨a.1,by have:n<=255:=a.2;omega⟩
def bFo{t:TypeId}(b:P.underlying t=V (.int .u16)):buc enc P W t cw (λn=>0<=n/\n<65536):=by intro fuel cs x h c;obtain⟨n,rfl,_,a⟩:=DataW.trod_int b h;refine⟨n,?_, .one (.s A) A⟩;simp only[Lit.wf,bN,awG] at a;exact⟨a.1,by have:n<=65535:=a.2;omega⟩
def brM{a t v k}(b:P.underlying t=V (.int k))(h:a8f P W .any a t v):v.cells.toList=[v]:=by cases v<;>first|rfl|(simp[a8f,Cell.okWide,Cell.ok,b] at h)
def bph{a t e v}(b:P.underlying t=V (.slice e))(h:a8f P W .any a t v):v.cells.toList=[v]:=by cases v<;>first|rfl|(simp[a8f,Cell.okWide,Cell.ok,b] at h)
def da.val{v c}(h:da W [v] [c]):ba (tg W) W [] β0 v c:=h.rep 0 _ _ A rfl
theorem ak7{b a n}:(⟨b,a,J⟩:Addr).add n=⟨b,a+n,J⟩:=by grind [Addr.add]
def apH{e}:∀{l} {d:DataW Hq},d∈l->∀n∈d.weights P e,n∈DataW.weightsAll P e l
 |y::l,d,h,n,a=>by
  simp only[DataW.weightsAll,List.mem_append]
  obtain rfl|h:=List.mem_cons.1 h
  ·exact .inl a
  ·exact .inr (apH h n a)
theorem qS{α}[Inhabited α]{t e}{z:Nat}{f Q}(M:P.underlying t=V (.slice e))(hz:P.cellsOf e=z)(ag:0<z)(T:1<=P.bytesOf e)(hf:∀a,L (f a)=z)(hd:∀a,(f a).all eN=U)(S:buc enc P W e f Q):buc enc P W t (λl:List α=>[sl f l]) (λl=>L l<=reachBytes/\∀a∈l,Q a):=by intro fuel cs x h B;obtain⟨rfl,rfl⟩|⟨a,len,cap,m,n,D,Pl,rfl,af,hl,hm,s,rfl,hi⟩:=open_slice M h;exact⟨[],⟨O,O⟩, .one (.l0<|λh=>by cases h) A⟩;simp only[a6F] at s;subst s;simp only[DataW.weights,M] at B;have ad:len<=reachBytes:=(by have d:=B _<|List.mem_cons_self ..;simp only[List.length_map,List.length_range] at d;have q:len*1<=(len+(m-len))*P.bytesOf e:=Nat.mul_le_mul Z T;omega);have key:∀i,∃p:α×List Value,i<len->Q p.1/\W.cells? 0 (a.add<|i*z) z=V p.2/\da W p.2 (f p.1):=(λi=>by by_cases K:i<len;(case neg=>exact⟨default,λh=>aYx h K⟩);obtain⟨E,d,q⟩:=hi i Z;rw[hz] at d;obtain⟨y,q1,q2⟩:=S _ _ _ q λk hk=>B k<|List.mem_cons_of_mem _<|List.mem_append_left _<|apH X k hk;exact⟨(y,E),vB⟩);obtain⟨F,G⟩:=Classical.axiomOfChoice key;refine⟨(aH len).map λi=>(F i).1,⟨vB,λy c=>?_⟩, .one ?_ A⟩;grind;obtain o|o:=Nat.eq_zero_or_pos len;subst o;exact .l0 (λh=>by cases h);have c0:=ar7 (G 0 o).2.1;have e0:∃v,W.cell? a=V v:=(by grind [Addr.add]);obtain⟨v0,u⟩:=e0;obtain⟨b,N,C⟩:=a;obtain rfl:C=J:=(by simpa using World.cell?_spot u);have w:=World.block_lt_of_cell? W _ u;have g:∀i j y,db (((aH len).map λi=>(F i).1).map f) i j=V y->i<len/\j<z/\(f (F i).1)[j]?=V y:=(λi j y c=>by unfold db at c;grind);have R:∀i j,i<len->j<z->∃v,(F i).2[j]?=V v/\W.cell? ⟨b,N+i*z+j,J⟩=V v:=(λi j d q=>by obtain⟨_,k2,k3⟩:=ar7 (G i d).2.1;grind [ak7]);refine .l1 (size:=z) (λh=>by cases h) (λh=>h) (λi j y c=>?_) (λi j=>((F i).2[j]?).getD<|.bool I) O o hl (λh=>by cases h) w (by grind [sK]) (λr hr=>?_) (λi j y c=>?_) (λi j y c=>?_) (λi j y c=>?_);grind;grind;grind;obtain⟨d,q,h3⟩:=g i j y c;grind [da.rep];grind [da.cell]
theorem eG{t fs}{cs:List Value}{xs:List (DataW Hq×List MemPlace)}{n:Nat}(q:P.underlying t=V (.struct fs))(s:∀k∈(DataW.agg<|xs.map (·.1)).weights P t,k<=reachBytes)(w:L xs=fs.size)(h:∀(i:Nat) (f),fs[i]?=V f->DataW.trod enc P W 0 (λ_=>U) U n f.type ((cs.drop f.offset).take<|P.cellsOf f.type)=xs[i]?)(i:Nat){f α g}{Q:α->Prop}{u}{o z:Nat}(l:fs[i]?=V f)(r:f.type=u)(p:f.offset=o)(v:P.cellsOf u=z)(e:buc enc P W u g Q):∃a,Q a/\da W ((cs.drop o).take z) (g a):=by have c:=h i f l;have b:i<L xs:=X;rw[r,p,v,List.getElem?_eq_getElem b] at c;refine e _ _ _ c λk m=>s k ?_;simp only[DataW.weights,q];refine DataW.weights_mem_each (j:=i) (t:=u) (d:=(xs[i]'b).1) ?_ ?_ k m;simp_all;grind
end
section
variable{Hq:Type}{enc:TypeId×Value->Hq}{W:World}
def jU:aS.cellsOf 3=1:=a7c
def zc5:aS.cellsOf 5=1:=a7c
def aM8:aS.cellsOf 22=1:=a7c
def aNa:aS.cellsOf 24=5:=a7c
def bF6:aS.cellsOf 56=1:=a7c
def aEO:buc enc aS W 22 (λl:eu=>[sl cu l]) (λl=>L l<=reachBytes/\∀a∈l,0<=a/\a<256):=qS Tryz.underlying22 zc5 H (by show 1<=aS.bytesOf 5;rw[show aS.bytesOf 5=1 by kernel_rfl];decide) (λa=>A) (λa=>A)<|aXW Tryz.underlying5
def anM:buc enc aS W 25 (λl:eu=>[sl ci l]) (λl=>L l<=reachBytes/\∀a∈l,True):=qS Tryz.underlying25 jU H (by show 1<=aS.bytesOf 3;rw[show aS.bytesOf 3=8 by kernel_rfl];decide) (λa=>A) (λa=>A)<|bpi Tryz.underlying3
def aER:buc enc aS W 26 (λl:eu=>[sl cw l]) (λl=>L l<=reachBytes/\∀a∈l,0<=a/\a<65536):=qS Tryz.underlying26 bF6 H (by show 1<=aS.bytesOf 56;rw[show aS.bytesOf 56=2 by kernel_rfl];decide) (λa=>A) (λa=>A)<|bFo Tryz.underlying56
def byw{l:eu}(h:L l<=reachBytes/\∀a∈l,0<=a/\a<65536):(∀x∈l,0<=x/\x<65536)/\L l<4611686018427387904:=⟨h.2,rC h.1 H⟩
def byl{l}(h:L l<=reachBytes/\∀a∈l,0<=a/\a<256):ByL l:=⟨h.2,rC h.1 H⟩
def bdX:buc enc aS W 24 aOA.cs (aSr):=by intro fuel cs x h c;obtain⟨xs,n,_,rfl,i,a,b⟩:=DataW.trod_struct Tryz.underlying24 h;obtain⟨d,j,q⟩:=eG Tryz.underlying24 c a b 0 (u:=22) (o:=0) A rfl rfl aM8 aEO;obtain⟨a1,k,r⟩:=eG Tryz.underlying24 c a b 1 (u:=22) (o:=1) A rfl rfl aM8 aEO;obtain⟨e,l,s⟩:=eG Tryz.underlying24 c a b 2 (u:=22) (o:=2) A rfl rfl aM8 aEO;obtain⟨f,m,t⟩:=eG Tryz.underlying24 c a b 3 (u:=5) (o:=3) A rfl rfl zc5<|aXW Tryz.underlying5;obtain⟨g,p,v⟩:=eG Tryz.underlying24 c a b 4 (u:=5) (o:=4) A rfl rfl zc5<|aXW Tryz.underlying5;exact⟨⟨d,a1,e,f,g⟩,⟨byl j,byl k,byl l,m,p⟩,da.step q<|da.step r<|da.step s<|da.step t<|da.step v<|da.last<|i.trans aNa⟩
end
end Go.Ab
