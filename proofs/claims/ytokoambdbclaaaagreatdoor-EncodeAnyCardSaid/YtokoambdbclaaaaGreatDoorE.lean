/- Part of the proof of EncodeAny, made short by a program: Seat Clone Ids Use. -/
import Derived.Test.YtokoambdbclaaaaGreatDoorD
import Derived.Test.YtokoambdbclaaaaGreatDoorChecked
import Derived.Lib.LazyBuf
import Derived.Laws.Strings
set_option linter.all false
open And renaming intro->ai
open Bool renaming false->I,true->U
open ByteArray renaming ext->aqv
open Decidable renaming decide->Q
open Go.IntKind renaming i64->dq
open Go.Proofs.Tryz renaming prog->aS
open List renaming length->L
open Option renaming none->J,some->V
namespace Go.Ab
open Go Go.RowKit Go.Proofs
def aB1:List Nat:=[30,31,32,33,40,41,42,43,44,45,46,47,48,62,76,77,78,79,80,81,82,83,84,85,86,87,88,89,95,96,97,99,100,101,103,104,105,106,107,115,124,127,128,129,130,131,132,133,134,135,136,140,142,167,168,171,172,173,182,184,189]
def uQ:List Nat:=[42,44,46,47,79,80,89,95,96,97,99,104,105,106,107,124,127,130,131,133,134,142,171,184]
def nws:List Nat:=[98,118,141,164,169,170,180,181]
def ik:List ByteArray:=[⟨#[118,97,114]⟩,⟨#[118,111,108,97,116,105,108,101]⟩,⟨#[109,117,116,101,120]⟩,⟨#[114,119,108,111,99,107]⟩,⟨#[99,111,110,100]⟩,⟨#[102,117,116,117,114,101]⟩,⟨#[116,104,114,101,97,100]⟩,⟨#[105,102]⟩,⟨#[101,108,115,101]⟩,⟨#[119,104,105,108,101]⟩,⟨#[108,111,99,107]⟩,⟨#[114,101,97,100]⟩,⟨#[119,114,105,116,101]⟩,⟨#[116,114,97,110,115,97,99,116,105,111,110]⟩,⟨#[97,116,111,109,105,99]⟩,⟨#[119,97,105,116]⟩,⟨#[110,111,116,105,102,121]⟩,⟨#[110,111,116,105,102,121,97,108,108]⟩,⟨#[115,112,97,119,110]⟩,⟨#[106,111,105,110]⟩,⟨#[115,101,116]⟩,⟨#[103,101,116]⟩]
abbrev pI:List AV:=ik.map λs=> .s (.string s)
def GG:dk:=⟨λk=>match k with|0=>V pI|_=>J,λf=>aB1.elem f,λf=>uQ.elem f,λf=>nws.elem f⟩
theorem ready:tQ aS:=⟨by kernel_rfl,Tryz.co.funcs,by kernel_rfl⟩
abbrev cX(fn:FuncId):FT:=jz aS GG fn
def cB(fn:FuncId)(xs:List AV)(Y:ae)(d:Nat)(K:AV->ae->Prop):Prop:=tR aS GG fn xs Y d K
def cN(fn:FuncId)(xs:List AV)(Y:ae)(d:Nat)(K:AV->ae->Prop):Prop:=tS aS GG fn xs Y d K
def cF(f:AV)(xs:List AV)(Y:ae)(d:Nat)(K:AV->ae->Prop):Prop:=rn aS GG f xs Y d K
abbrev Ct(fn:Nat)(xs:List AV)(R:AV->Prop):Prop:=Fn aS GG fn xs R
abbrev eJ(T:dO):Prop:=pq aS GG T
theorem nX{fn:Nat}{ys:List AV}{R K:AV->Prop}(h:Ct fn ys R)(d:ys.all iX=U)(e:∀r,R r->K r):jz aS GG fn ys K:=by obtain⟨r,a,b,c⟩:=h;exact⟨r,c,d,b,e r a⟩
theorem bI{fn:Nat}{F:FT}{T:dO}(b:∀ys K,F ys K->jz aS GG fn ys K)(c:eJ T):eJ ((fn,F)::T):=by intro p a;rcases List.mem_cons.1 a with rfl|a;exact b;exact c p a
theorem wO:pq aS GG []:=λp h=>by cases h
def nU(f:Func):Code:=match f.body with|some (.seq _ (.seq _ t))=>t|_=> .skip
abbrev xE(a:AV):List AV:=[a, .u, .l [] U U,a, .s (.bool I), .u, .u, .u]
theorem DX{fn:FuncId}{f:Func}{xa xb j:Code}{an:List (Option (List Nat×List Nat))}(D:aS.funcs[fn]?=V f)(y:f.body=V (.seq xa (.seq xb j)))(hn:(f.name== "runtime.NumGoroutine")=I)(N:∀n c w (R:Ending->World->Prop),R (.returned (.slice J 0 0)) w->Calls aS fn #[.slice J n c] w R)(C:∀A n c w (R:Ending->World->Prop),(nU f).wp aS (bodyPost aS f R) {tmps:=#[.slice (V A) n c,undef, .slice J 0 0, .slice (V A) n c, .bool I,undef,undef,undef],defers:=[]} w->Calls aS fn #[.slice (V A) n c] w R)(P:(gG (nU f)).all (λk=>Nat.blt k 8)=U)(M:oG an (nU f) 0=U){rows:List (List AV)}{R:AV->ae->Prop}(H:iV aS GG [] an (nU f) 0 (tO aS f R) (gt (xE (.l rows I I))) eK)(Z:∀r p,R r p->rows=[]->r= .l [] U U/\p=eK):∃r p,R r p/\cZ aS GG fn [.l rows I I] eK r p:=by have O:nU f=j:=(by rw[nU,y]);simp only[O] at C P M H;have S:qf aS j:=(ready.code D y).1.2.2;have hg:oI j=U:=(by have:=(ready.code D y).2;simp only[oI,Bool.and_eq_true] at this;exact this.2.2);have K:=Kj (T:=[]) wO j 0 _ (by intro k hk;have:=List.all_eq_true.1 P k hk;simpa using this) M H;obtain⟨e,X,m,b,a⟩:=Kf j K;obtain⟨_,_,_,z⟩:=b;have:∃r,wG aS f X m=V r/\R r m/\(e= .normal\/e= .ret):=(by(cases e<;>simp only[tO] at z<;>first|exact z.elim|skip);obtain⟨vs,t,o⟩:=Ep _ _ z;exact⟨_,QU t,o, .inl rfl⟩;obtain⟨vs,t,o⟩:=Ep _ _ z;exact⟨_,QU t,o, .inr rfl⟩);obtain⟨r,t,o,k4⟩:=this;refine⟨r,m,o,⟨f,_,D,y,hn⟩,λκ w β F hs hG W=>?_⟩;obtain⟨v,rfl⟩:∃v,F=[v]:=List.length_eq_one_iff.1 W.1;have h:=W.2 0 v _ rfl rfl;have d:∀A n c,v= .slice (V A) n c->Calls aS fn #[v] w λe B=>∃v g,e= .returned v/\ba κ B m g v r/\cv aS κ B m g/\dw w eK β B m g:=(by rintro A n c rfl;refine C A n c w _ ?_;have G:jG aS GG κ {tmps:=#[.slice (V A) n c,undef, .slice J 0 0, .slice (V A) n c, .bool I,undef,undef,undef],defers:=[]} w (xE (.l rows I I)) eK β:=(by refine⟨rfl,⟨rfl,λi v x b a=>?_⟩,hs,hG⟩;have E:ba κ w eK β (.slice J 0 0) (.l [] U U):= .l0 λ_=>rfl;match i,b,a with|0,b,a=>(cases b;cases a;exact h)|1,b,a=>(cases a;exact .u)|2,b,a=>(cases b;cases a;exact E)|3,b,a=>(cases b;cases a;exact h)|4,b,a=>(cases b;cases a;exact .s rfl)|5,b,a=>(cases a;exact .u)|6,b,a=>(cases a;exact .u)|7,b,a=>(cases a;exact .u)|i+8,b,a=>cases a);refine wp_mono (Kg ready.mixed j S hg _ G a) ?_;rintro e' a' B ⟨_,_,g,⟨rfl,rfl,rfl⟩,q,he⟩;obtain⟨v,q1,q2⟩:=aoi q t;rcases k4 with rfl|rfl<;>exact⟨q.defers,v,q1,v,g,rfl,q2,q.sim,he⟩);show Calls aS fn #[v] w _;cases h with|@l0 A c _ _ ht=>(cases A with|none=>obtain⟨rfl,rfl⟩:=Z _ _ o rfl;refine N 0 c w _ ⟨_,β,rfl, .l0 λ_=>rfl,hs,dw.refl _ _ _⟩|some A=>exact d A 0 c rfl)|l1=>exact d _ _ _ rfl
abbrev LS:Nat:=3
abbrev Mz:Nat:=4
abbrev LU:Nat:=5
abbrev LV:Nat:=6
abbrev Ly:Nat:=7
abbrev M9:Nat:=8
abbrev M6:Nat:=9
abbrev aln:Nat:=10
abbrev M7:Nat:=11
abbrev MJ:Nat:=12
abbrev Lx:Nat:=13
abbrev M8:Nat:=14
abbrev Mg:Nat:=15
abbrev Ms:Nat:=16
abbrev MB:Nat:=17
abbrev MF:Nat:=18
abbrev MC:Nat:=19
abbrev Mt:Nat:=20
abbrev ME:Nat:=21
abbrev LW:Nat:=22
abbrev M5:Nat:=23
abbrev Nq:Nat:=24
abbrev LB:Nat:=25
abbrev MX:Nat:=26
abbrev MV:Nat:=27
abbrev Na:Nat:=28
abbrev Nc:Nat:=29
abbrev Ai:Nat:=30
abbrev Am:Nat:=31
abbrev Av:Nat:=32
abbrev Aw:Nat:=33
abbrev ML:Nat:=34
abbrev MM:Nat:=35
abbrev MO:Nat:=36
abbrev MN:Nat:=37
abbrev MK:Nat:=38
abbrev LD:Nat:=39
abbrev wf:Nat:=40
abbrev xQ:Nat:=41
abbrev xU:Nat:=42
abbrev eS:Nat:=43
abbrev xV:Nat:=44
abbrev Ao:Nat:=45
abbrev fL:Nat:=46
abbrev je:Nat:=47
abbrev DL:Nat:=48
abbrev Mh:Nat:=49
abbrev Mb:Nat:=50
abbrev Mf:Nat:=51
abbrev Mn:Nat:=52
abbrev MD:Nat:=53
abbrev MA:Nat:=54
abbrev Mu:Nat:=55
abbrev Mm:Nat:=56
abbrev Mv:Nat:=57
abbrev Mw:Nat:=58
abbrev Ml:Nat:=59
abbrev My:Nat:=60
abbrev Nd:Nat:=61
abbrev DK:Nat:=62
abbrev Lq:Nat:=63
abbrev Ns:Nat:=64
abbrev Nr:Nat:=65
abbrev Nw:Nat:=66
abbrev Nv:Nat:=67
abbrev Nu:Nat:=68
abbrev Nt:Nat:=69
abbrev LA:Nat:=70
abbrev L0:Nat:=71
abbrev Lz:Nat:=72
abbrev LC:Nat:=73
abbrev M4:Nat:=74
abbrev M0:Nat:=75
abbrev DG:Nat:=76
abbrev Ap:Nat:=77
abbrev Ak:Nat:=78
abbrev An:Nat:=79
abbrev As:Nat:=80
abbrev DE:Nat:=81
abbrev DC:Nat:=82
abbrev DF:Nat:=83
abbrev Aj:Nat:=84
abbrev Az:Nat:=85
abbrev Ay:Nat:=86
abbrev DM:Nat:=87
abbrev DN:Nat:=88
abbrev uw:Nat:=89
abbrev MH:Nat:=90
abbrev MI:Nat:=91
abbrev Mx:Nat:=92
abbrev LG:Nat:=93
abbrev LO:Nat:=94
abbrev we:Nat:=95
abbrev ta:Nat:=96
abbrev xR:Nat:=97
abbrev ux:Nat:=98
abbrev jB:Nat:=99
abbrev wh:Nat:=100
abbrev xX:Nat:=101
abbrev MZ:Nat:=102
abbrev eP:Nat:=103
abbrev wi:Nat:=104
abbrev gJ:Nat:=105
abbrev jP:Nat:=106
abbrev kI:Nat:=107
abbrev Md:Nat:=108
abbrev Ma:Nat:=109
abbrev Me:Nat:=110
abbrev Mp:Nat:=111
abbrev Mq:Nat:=112
abbrev Mi:Nat:=113
abbrev Mo:Nat:=114
abbrev At:Nat:=115
abbrev Mk:Nat:=116
abbrev Mr:Nat:=117
abbrev Au:Nat:=118
abbrev Ls:Nat:=119
abbrev Lt:Nat:=120
abbrev Lr:Nat:=121
abbrev Lu:Nat:=122
abbrev L4:Nat:=123
abbrev x8:Nat:=124
abbrev Nj:Nat:=125
abbrev L1:Nat:=126
abbrev Aq:Nat:=127
abbrev Al:Nat:=128
abbrev xN:Nat:=129
abbrev xO:Nat:=130
abbrev xP:Nat:=131
abbrev wg:Nat:=132
abbrev xS:Nat:=133
abbrev xT:Nat:=134
abbrev DD:Nat:=135
abbrev Ar:Nat:=136
abbrev MR:Nat:=137
abbrev MY:Nat:=138
abbrev MU:Nat:=139
abbrev xW:Nat:=140
abbrev tc:Nat:=141
abbrev uv:Nat:=142
abbrev MW:Nat:=143
abbrev MG:Nat:=144
abbrev L2:Nat:=145
abbrev LN:Nat:=146
abbrev LL:Nat:=147
abbrev LM:Nat:=148
abbrev LP:Nat:=149
abbrev LH:Nat:=150
abbrev LJ:Nat:=151
abbrev Ng:Nat:=152
abbrev Mc:Nat:=153
abbrev L9:Nat:=154
abbrev Mj:Nat:=155
abbrev Ni:Nat:=156
abbrev Lv:Nat:=157
abbrev L8:Nat:=158
abbrev Nl:Nat:=159
abbrev L3:Nat:=160
abbrev Nn:Nat:=161
abbrev Nk:Nat:=162
abbrev Np:Nat:=163
abbrev wj:Nat:=164
abbrev MP:Nat:=165
abbrev MS:Nat:=166
abbrev DH:Nat:=167
abbrev DP:Nat:=168
abbrev AA:Nat:=169
abbrev AB:Nat:=170
abbrev tb:Nat:=171
abbrev DI:Nat:=172
abbrev DJ:Nat:=173
abbrev LK:Nat:=174
abbrev LI:Nat:=175
abbrev Nh:Nat:=176
abbrev L5:Nat:=177
abbrev L6:Nat:=178
abbrev MQ:Nat:=179
abbrev xZ:Nat:=180
abbrev xY:Nat:=181
abbrev x7:Nat:=182
abbrev LX:Nat:=183
abbrev DO:Nat:=184
abbrev L7:Nat:=185
abbrev LF:Nat:=186
abbrev LQ:Nat:=187
abbrev Nf:Nat:=188
abbrev DQ:Nat:=189
abbrev aBT:Nat:=190
abbrev aBR:Nat:=191
abbrev aBS:Nat:=192
abbrev aBX:Nat:=193
abbrev aBU:Nat:=194
abbrev Lo:Nat:=195
abbrev aBV:Nat:=196
abbrev aBW:Nat:=197
abbrev aBQ:Nat:=198
abbrev LZ:Nat:=199
abbrev Lp:Nat:=205
abbrev eQ:=List AV
abbrev bd:=AV->Prop
abbrev fD:=List AV->Nat
abbrev cG:=List AV->Prop
abbrev be:=AV->ae->Prop
abbrev bu:=List AV->ae->Nat
abbrev aG:=List AV->ae->Prop
def bi(n:Nat)(l:List (Nat×(List Nat×List Nat))):List (Option (List Nat×List Nat)):=(List.range n).map λi=>l.lookup i
section congr
@[congr] theorem aNy{o o':Option AV}{K:AV->Prop}(h:o=o'):rV o K=rV o' K:=by rw[h]
@[congr] theorem aNo{o o':Option (AV×ae)}{K:AV->ae->Prop}(h:o=o'):eV o K=eV o' K:=by rw[h]
@[congr] theorem aNz{o o':Option ae}{K:ae->Prop}(h:o=o'):sV o K=sV o' K:=by rw[h]
@[congr] theorem aNv{c a:AV}{A B:Prop}(h:c=a):ah c A B=ah a A B:=by rw[h]
@[congr] theorem aNu{w a:Option Bool}{A:(AV->Prop)->Prop}{K:AV->Prop}(h:w=a):gR w A K=gR a A K:=by rw[h]
@[congr] theorem aNs{w a:Option Bool}{A:(AV->ae->Prop)->Prop}{Y:ae}{K:AV->ae->Prop}(h:w=a):gE w A Y K=gE a A Y K:=by rw[h]
def gB(b:Bool)(A:(AV->Prop)->Prop)(K:AV->Prop):Prop:=bif b then A K else K (.t [])
def gF(b:Bool)(A:(AV->ae->Prop)->Prop)(Y:ae)(K:AV->ae->Prop):Prop:=bif b then A K else K (.t []) Y
@[congr] theorem aNr{b c:Bool}{A a:(AV->Prop)->Prop}{K:AV->Prop}(h:b=c)(d:c=U->∀k,A k=a k):gB b A K=gB c a K:=by subst h;cases b with|true=>show A K=a K;exact d rfl K|false=>rfl
@[congr] theorem aNt{b c:Bool}{A a:(AV->ae->Prop)->Prop}{Y:ae}{K:AV->ae->Prop}(h:b=c)(d:c=U->∀k,A k=a k):gF b A Y K=gF c a Y K:=by subst h;cases b with|true=>show A K=a K;exact d rfl K|false=>rfl
@[congr] theorem aNp{F:FT}{xs a:List AV}{Y:ae}{K:AV->Prop}(h:xs=a):fV F Y xs K=fV F Y a K:=by rw[h]
@[congr] theorem aNq{F:FT}{ys a:List AV}{Lw K:AV->Prop}(h:ys=a):fW F ys Lw K=fW F a Lw K:=by rw[h]
@[congr] theorem aNw{v a:List AV}{B:(List AV->Prop)->(List AV->Nat)->List AV->Prop}(h:v=a):lR v B=lR a B:=by rw[h]
@[congr] theorem aNx{v a:List AV}{Y:ae}{B:(List AV->ae->Prop)->(List AV->ae->Nat)->List AV->ae->Prop}(h:v=a):lV v Y B=lV a Y B:=by rw[h]
end congr
def gv(b:Bool)(v:AV):AV:=bif b then v else .t []
def gd{α:Type}[Inhabited α](l:List α)(k:Nat):α:=l.getD k default
def aF(n:Nat)(i:Int):Prop:=0<=i/\i<n
def sl{α:Type}(f:α->List AV)(l:List α):AV:= .l (l.map f) I I
abbrev ci(n:Int):List AV:=[iv n]
abbrev cb(b:Bool):List AV:=[bv b]
abbrev st(s:ByteArray):AV:= .s (.string s)
abbrev cs(s:ByteArray):List AV:=[st s]
section rules
variable{K:AV->Prop}{Y:ae}
theorem aY{v:AV}:rV (V v) K=K v:=rfl
theorem bQ{v:AV}{Y:ae}{K:AV->ae->Prop}:eV (V (v,Y)) K=K v Y:=rfl
theorem aoq{Y:ae}{K:ae->Prop}:sV (V Y) K=K Y:=rfl
theorem iS{b:Bool}{A B:Prop}:ah (bv b) A B=((b=U->A)/\(b=I->B)):=by cases b<;>simp[ah]
theorem iC{A B:Prop}:ah (bv U) A B=A:=by simp[ah]
theorem iB{A B:Prop}:ah (bv I) A B=B:=by simp[ah]
theorem sw{b c:Bool}{a:List AV->Prop}:ah (bv b) (a [bv b]) (a [bv c])=a [bv (b||c)]:=by cases b<;>simp[ah]
theorem aM2{b:Bool}:gP U (bv b)=V b:=by cases b<;>rfl
theorem aMZ{b:Bool}:gP I (bv b)=V (!b):=by cases b<;>rfl
theorem aM3{w:Bool}:gP w (.t [])=V I:=rfl
theorem aM1{b c:Bool}:gP U (gv b (bv c))=V (b&&c):=by cases b<;>cases c<;>rfl
theorem aM0{b c:Bool}:gP I (gv b (bv c))=V (b&&!c):=by cases b<;>cases c<;>rfl
theorem aBA{b:Bool}{A:(AV->Prop)->Prop}:gR (V b) A K=gB b A K:=by cases b<;>rfl
theorem aBy{b:Bool}{A:(AV->ae->Prop)->Prop}{K:AV->ae->Prop}:gE (V b) A Y K=gF b A Y K:=by cases b<;>rfl
theorem aBv{b c:Bool}{A:(AV->Prop)->Prop}:gB (b&&c) A K=gB b (λk=>gB c A k) K:=by cases b<;>cases c<;>rfl
theorem aBw{b:Bool}{v:AV}:gB b (λk=>k v) K=K (gv b v):=by cases b<;>rfl
theorem aBx{b:Bool}{S:Prop}{v:AV}:gB b (λk=>S/\k v) K=((b=U->S)/\K (gv b v)):=by cases b<;>simp[gB,gv]
theorem jA{A:(AV->Prop)->Prop}:gB U A K=A K:=rfl
theorem jN{A:(AV->Prop)->Prop}:gB I A K=K (.t []):=rfl
theorem aBL{b c:Bool}{v:AV}:gv b (gv c v)=gv (b&&c) v:=by cases b<;>rfl
theorem qE{v:AV}:gv U v=v:=rfl
theorem xM{v:AV}:gv I v= .t []:=rfl
theorem aE3{c a b:Bool}:mL (bv c) (bv a) (bv b)=V (bv (bif c then a else b)):=by cases c<;>rfl
theorem uO{c:Bool}{a b:AV}:mL (bv c) a b=V (bif c then a else b):=by cases c<;>rfl
theorem aE2{c a b:Bool}:mL (bv c) (gv c (bv a)) (bv b)=V (bv (bif c then a else b)):=by cases c<;>rfl
theorem aE4{c a b:Bool}:mL (bv c) (bv a) (gv (!c) (bv b))=V (bv (bif c then a else b)):=by cases c<;>rfl
theorem aws{c:Bool}:(bif c then U else I)=c:=by cases c<;>rfl
theorem awq{c a:Bool}:(bif c then a else I)=(c&&a):=by cases c<;>rfl
theorem awr{c a:Bool}:(bif c then U else a)=(c||a):=by cases c<;>rfl
theorem av4{a b:Int}:eu .lss 0 [] (iv a) (iv b)=V (bv (Q (a<b))):=rfl
theorem av2{a b:Int}:eu .leq 0 [] (iv a) (iv b)=V (bv (Q (a<=b))):=rfl
theorem av1{a b:Int}:eu .gtr 0 [] (iv a) (iv b)=V (bv (Q (b<a))):=rfl
theorem avY{a b:Int}:eu .geq 0 [] (iv a) (iv b)=V (bv (Q (b<=a))):=rfl
theorem iM{a b:Int}:eu .eql 0 [] (iv a) (iv b)=V (bv (Q (a=b))):=rfl
theorem av6{a b:Int}:eu .neq 0 [] (iv a) (iv b)=V (bv (Q (a≠b))):=by show V (bv (a !=b))=_;congr 3;by_cases h:a=b<;>simp[h]
theorem cS{a b:Int}:eu .add 0 [] (iv a) (iv b)=V (iv (dq.wrap (a+b))):=rfl
theorem alr{a b:Int}:eu .sub 0 [] (iv a) (iv b)=V (iv (dq.wrap (a-b))):=rfl
theorem av5{a b:Int}:eu .mul 0 [] (iv a) (iv b)=V (iv (dq.wrap (a*b))):=rfl
theorem avU{a b:Bool}:eu .eql 1 [] (bv a) (bv b)=V (bv (a==b)):=rfl
theorem avV{a b:Bool}:eu .neq 1 [] (bv a) (bv b)=V (bv (!(a==b))):=rfl
theorem alq{a b:ByteArray}:eu .eql 0 [] (st a) (st b)=V (bv (Q (a=b))):=by show V (bv (a.toList==b.toList))=_;congr 3;by_cases h:a=b;subst h;simp;have:a.toList≠b.toList:=λe=>h (aqv (by rw[ByteArray.toList_eq,ByteArray.toList_eq,Array.toList_inj] at e;exact e));simp[h,this]
theorem aIN{b:Bool}:cR .not (bv b)=V (bv (!b)):=rfl
theorem cT{α:Type}{f:α->List AV}{l:List α}:fS Y (sl f l)=V (iv (L l)):=by simp[fS,sl]
theorem ka{α:Type}[Inhabited α]{f:α->List AV}{l:List α}{z:Nat}{i:Int}(d:∀x,L (f x)=z):rV (cz z Y (sl f l) (iv i)) K=(aF (L l) i/\K (.q (f (gd l i.toNat)))):=by unfold aF;simp only[cz,sl];by_cases a:0<=i;by_cases c:i<L l;have b:i.toNat<L l:=(by omega);simp[rV,a,c,b,d,gd];have b:L l<=i.toNat:=(by omega);simp[rV,a,c,b];simp[rV,a]
theorem qM{c:AV}{cs:List AV}:ef J Y (.q (c::cs))=V c:=rfl
theorem azQ{cs:List AV}{n:Nat}:iQ n Y (.q cs)=V (.q (cs.drop n)):=rfl
theorem jM{F:FT}{xs:List AV}{K:AV->Prop}:fV F Y xs K=fW F (xs.map (dG Y)) (lo Y xs) K:=rfl
theorem jt:([]:List AV).map (dG Y)=[]:=rfl
theorem kU{x:AV}{xs:List AV}:(x::xs).map (dG Y)=dG Y x::xs.map (dG Y):=rfl
theorem tW{v:Value}:dG Y (.s v)= .s v:=rfl
theorem alg{α:Type}{f:α->List AV}{l:List α}:dG Y (sl f l)=sl f l:=rfl
theorem CV{α:Type}{f:α->List AV}{l:List α}{t o:Bool}:dG Y (.l (l.map f) t o)=sl f l:=rfl
theorem AL{xs:List AV}{v:Value}:lo Y xs (.s v)=True:=by simp[lo,uN,yv,wD]
theorem Ql{xs:List AV}{l:List Int}{t:Bool}:lo Y xs (.l (l.map ci) t U)=True:=by simp[lo,uN,yv,wD,gY]
theorem QQ{rows:List (List AV)}{o:Bool}{Q:AV->Prop}:(∀r,(∃t,r=AV.l rows t o)->Q r)=∀t,Q (.l rows t o):=by apply propext;exact⟨λh t=>h _ ⟨t,rfl⟩,by rintro h r ⟨t,rfl⟩;exact h t⟩
theorem gT{α:Type}{f:α->List AV}{l:List α}{t o:Bool}:fS Y (.l (l.map f) t o)=V (iv (L l)):=by simp[fS]
theorem uR{R:AV->Prop}{b:Bool}:aE R Y [bv b]=R (bv b):=by simp[aE,jS,iZ,dQ,kG,pF,nj]
theorem aFi{R:AV->Prop}{n:Int}:aE R Y [iv n]=R (iv n):=by simp[aE,jS,iZ,dQ,kG,pF,nj]
theorem aI{p:Prop}:(∀_:Rg,p)=p:=by simp
end rules
section
def u0:=ai @aY<|ai @bQ<|ai @aoq<|ai @iC<|ai @iB<|ai @iS<|ai @aM2<|ai @aMZ<|ai @aM3<|ai @aM1<|ai @aM0<|ai @aBA<|ai @aBy<|ai @aBv<|ai @aBw<|ai @aBx<|ai @aBL<|ai @qE<|ai @xM<|ai @aE2<|ai @aE4<|ai @aE3<|ai @aws<|ai @awq<|ai @awr<|ai @Bool.not_false<|ai @Bool.not_true<|ai @Bool.and_true<|ai @Bool.true_and<|@Bool.and_assoc
end
def aB(i:Nat)(s:ae)(p:AV)(k:AV->Prop):Prop:=rV (iQ i s p) k
def aM(s:ae)(t:AV)(k:AV->Prop):Prop:=rV (ef J s t) k
def aw(i:Nat)(s:ae)(t:AV)(k:AV->Prop):Prop:=rV (ef (V i) s t) k
def aO(o:BinOp)(a b:AV)(k:AV->Prop):Prop:=rV (eu o 0 [] a b) k
def al(a b:AV)(k:AV->Prop):Prop:=rV (eu .eql 0 [] a b) k
def aU(a b:AV)(k:AV->Prop):Prop:=rV (eu .lss 0 [] a b) k
def aV(a b:AV)(k:AV->Prop):Prop:=rV (eu .add 0 [] a b) k
def ao(z:Nat)(s:ae)(a i:AV)(k:AV->Prop):Prop:=rV (cz z s a i) k
def aJ(s:ae)(a:AV)(k:AV->Prop):Prop:=rV (fS s a) k
def aD(c a b:AV)(k:AV->Prop):Prop:=rV (mL c a b) k
def cf(a:AV)(k:AV->Prop):Prop:=rV (cR .not a) k
def bB(t e:AV)(k:AV->Prop):Prop:=gR (gP U t) (λg=>g e) k
def bG(t e:AV)(k:AV->Prop):Prop:=gR (gP I t) (λg=>g e) k
def az(t:AV)(f:(AV->Prop)->Prop)(k:AV->Prop):Prop:=gR (gP U t) (λg=>f λv=>g v) k
def aC(t:AV)(f:(AV->Prop)->Prop)(k:AV->Prop):Prop:=gR (gP I t) (λg=>f λv=>g v) k
def ag(i:Nat)(s:ae)(p:AV)(k:AV->Prop):Prop:=rV (iQ i s p) λt=>rV (ef J s t) k
def aT(d:AV)(i:Nat)(s:ae)(p:AV)(k:AV->Prop):Prop:=gR (gP U d) (λg=>rV (iQ i s p) λt=>g t) λt=>gR (gP U d) (λg=>rV (ef J s t) λv=>g v) k
def bn(d:AV)(i:Nat)(s:ae)(p:AV)(k:AV->Prop):Prop:=gR (gP I d) (λg=>rV (iQ i s p) λt=>g t) λt=>gR (gP I d) (λg=>rV (ef J s t) λv=>g v) k
theorem arn{i:Nat}{s:ae}{p:AV}{k:AV->Prop}:aB i s p k=(rV (iQ i s p) k):=rfl
theorem arq{s:ae}{t:AV}{k:AV->Prop}:aM s t k=(rV (ef J s t) k):=rfl
theorem art{i:Nat}{s:ae}{t:AV}{k:AV->Prop}:aw i s t k=(rV (ef (V i) s t) k):=rfl
theorem ark{o:BinOp}{a b:AV}{k:AV->Prop}:aO o a b k=(rV (eu o 0 [] a b) k):=rfl
theorem ari{a b:AV}{k:AV->Prop}:al a b k=(rV (eu .eql 0 [] a b) k):=rfl
theorem arj{a b:AV}{k:AV->Prop}:aU a b k=(rV (eu .lss 0 [] a b) k):=rfl
theorem arh{a b:AV}{k:AV->Prop}:aV a b k=(rV (eu .add 0 [] a b) k):=rfl
theorem arp{z:Nat}{s:ae}{a i:AV}{k:AV->Prop}:ao z s a i k=(rV (cz z s a i) k):=rfl
theorem ars{s:ae}{a:AV}{k:AV->Prop}:aJ s a k=(rV (fS s a) k):=rfl
theorem arx{c a b:AV}{k:AV->Prop}:aD c a b k=(rV (mL c a b) k):=rfl
theorem ary{a:AV}{k:AV->Prop}:cf a k=(rV (cR .not a) k):=rfl
theorem arm{t e:AV}{k:AV->Prop}:bB t e k=(gR (gP U t) (λg=>g e) k):=rfl
theorem arl{t e:AV}{k:AV->Prop}:bG t e k=(gR (gP I t) (λg=>g e) k):=rfl
theorem arw{t:AV}{f:(AV->Prop)->Prop}{k:AV->Prop}:az t f k=(gR (gP U t) (λg=>f λv=>g v) k):=rfl
theorem arv{t:AV}{f:(AV->Prop)->Prop}{k:AV->Prop}:aC t f k=(gR (gP I t) (λg=>f λv=>g v) k):=rfl
theorem aro{i:Nat}{s:ae}{p:AV}{k:AV->Prop}:ag i s p k=(rV (iQ i s p) λt=>rV (ef J s t) k):=rfl
theorem aru{d:AV}{i:Nat}{s:ae}{p:AV}{k:AV->Prop}:aT d i s p k=(gR (gP U d) (λg=>rV (iQ i s p) λt=>g t) λt=>gR (gP U d) (λg=>rV (ef J s t) λv=>g v) k):=rfl
theorem arr{d:AV}{i:Nat}{s:ae}{p:AV}{k:AV->Prop}:bn d i s p k=(gR (gP I d) (λg=>rV (iQ i s p) λt=>g t) λt=>gR (gP I d) (λg=>rV (ef J s t) λv=>g v) k):=rfl
def lzz:fY:=lb U [] []
def lz(x:AV):fY:=lb U [x] []
@[simp] theorem aDs:lzz=lb U [] []:=rfl
@[simp] theorem aDl{x:AV}:lz x=lb U [x] []:=rfl
def uL:=ai @arn<|ai @arq<|ai @art<|ai @ark<|ai @ari<|ai @arj<|ai @arh<|ai @arp<|ai @ars<|ai @arx<|ai @ary<|ai @arm<|ai @arl<|ai @arw<|ai @arv<|ai @aro<|ai @aru<|ai @arr<|ai @aDs<|@aDl
theorem f8{n:Nat}{B:List AV->Prop}{A:(List AV->Prop)->Prop}:jR n B A=A B:=rfl
theorem di{n:Nat}{B:List AV->ae->Prop}{A:(List AV->ae->Prop)->Prop}:jV n B A=A B:=rfl
def cI(n:Nat)(a:Nat->Prop):List AV->Prop:=λvs=>∃k:Nat,vs=[iv k]/\k<=n/\a k
def cM(n:Nat):List AV->Nat:=λvs=>match vs with|[.s (.int _ i)]=>n-i.toNat|_=>0
theorem il{B:(List AV->Prop)->(List AV->Nat)->List AV->Prop}(n:Nat)(a:Nat->Prop)(b:a 0)(h:∀k:Nat,k<=n->a k->B (cI n a) (cM n) [iv k]):lR [iv 0] B:=⟨cI n a,cM n,⟨0,rfl,Nat.zero_le _,b⟩,by rintro vs ⟨k,rfl,d,c⟩;exact h k d c⟩
theorem eM{x:Int}(a: -9223372036854775808<=x)(b:x<9223372036854775808):dq.wrap x=x:=by rw[IntKind.wrap_i64];omega
theorem gS{n k:Nat}{a:Nat->Prop}(b:k<n)(c:n<4611686018427387904)(h:a (k+1)):cI n a [iv (dq.wrap ((k:Int)+1))]/\cM n [iv (dq.wrap ((k:Int)+1))]<cM n [iv k]:=by rw[eM (by omega) (by omega)];refine⟨⟨k+1,rfl,b,h⟩,?_⟩;show n-((k:Int)+1).toNat<n-((k:Int)).toNat;omega
theorem au{a:AV}{l:List AV}:gt (a::l) 0=a:=rfl
theorem fE{a:AV}{l:List AV}{n:Nat}:gt (a::l) (n+1)=gt l n:=rfl
def tI{S:Type}(enc:S->List AV)(a:S->Prop):List AV->Prop:=λvs=>∃s,vs=enc s/\a s
def pM(p n:Nat):List AV->Nat:=λvs=>match gt vs p with| .s (.int _ i)=>n-i.toNat|_=>0
theorem yh{S:Type}(enc:S->List AV)(p n:Nat)(a:S->Prop)(s0:S){B:(List AV->Prop)->(List AV->Nat)->List AV->Prop}(b:a s0)(h:∀s,a s->B (tI enc a) (pM p n) (enc s)):lR (enc s0) B:=⟨tI enc a,pM p n,⟨s0,rfl,b⟩,by rintro vs ⟨s,rfl,c⟩;exact h s c⟩
theorem wN{S:Type}{enc:S->List AV}{p n:Nat}{a:S->Prop}{s s':S}{i:Nat}{vs:List AV}(d:vs=enc s')(c:gt (enc s) p=iv i)(b:gt (enc s') p=iv ((i+1:Nat):Int))(e:i<n)(hI:a s'):tI enc a vs/\pM p n vs<pM p n (enc s):=by subst d;refine⟨⟨s',rfl,hI⟩,?_⟩;simp only[pM,c,b,Int.toNat_natCast];omega
theorem fX{k:Nat}(h:k<4611686018427387904):dq.wrap ((k:Int)+1)=((k+1:Nat):Int):=by rw[eM (by omega) (by omega)];rfl
end Go.Ab
