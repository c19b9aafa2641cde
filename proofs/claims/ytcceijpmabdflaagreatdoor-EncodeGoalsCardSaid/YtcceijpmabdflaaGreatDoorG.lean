/- Part of the proof of EncodeGoals. -/
import Derived.Test.YtcceijpmabdflaaGreatDoorF
set_option linter.all false
set_option maxRecDepth 100000
open And renaming intro->ai
open Bool renaming and_eq_false_iff->bik,and_eq_true->bN,false->I,not_eq_false'->fK,not_eq_true'->eH,not_false->kN,not_true->fh,or_eq_false_iff->cP,true->U
open Decidable renaming decide->Q,not_not->aNS
open Go.IntKind renaming i64->dq
open Go.Proofs.Tryz renaming prog->aS
open Int renaming toNat_natCast->bh
open List renaming cons.injEq->kO,drop_succ_cons->nM,drop_zero->ip,getElem_of_mem->ou,length->L,length_append->a6G,length_drop->oz,length_map->bJ,length_take->gC,map_append->dg,map_cons->ji,map_map->vA,map_nil->mU,mem_append->dF,mem_map->dN,mem_singleton->cE,replicate->er
open Nat renaming beq->aOU,mul_le_mul_right->qo,zero_add->aj
open Option renaming none->J,some->V
namespace Go.Ab
open Go Go.RowKit Go.Proofs Go.Proofs.Tryz
def aNI{Y b e z j o v r}(h:box Y b=V ⟨e,z,o,v,r⟩):iQ j Y (.p b 0 0)=V (.p b 0 j):=by rw[rR,h];simp
def aXM{ds}{s:I5}(h:Lk ds s.c):∃x0 a x2 d t4 o4 j g m i,ds=[x0,a,x2,d, .l (s.cells.map ci) t4 o4, .l (s.bU.map ci) j g, .l (s.count.map ci) m i]:=by have e:=oC h;obtain⟨h,_⟩:=h;rcases ds with _|⟨x0,_|⟨a,_|⟨x2,_|⟨d,_|⟨n,_|⟨x5,_|⟨o,_|⟨p,ds⟩⟩⟩⟩⟩⟩⟩⟩<;>simp at e;simp only[ji,mU,I5.c,kO] at h;grind [aRH]
theorem Rds.mono{Y B f m n}(O:Rds Y B f m)(h:m<=n):Rds Y B f n:=⟨O.bx,(by grind [Rds.gr]),O.dj,O.pl⟩
def a62{Y B f}{m d:Nat}{i v:Int}{t o}{K:AV->be}(O:Rds Y B f m)(hi:0<=i/\i<4)(hd:d=47\/d=103)(hl:L Y=4096)(hm:m<=1000)(Z:B.1=20)(M:∀a Y' z,Rds Y' B z (m+1)->Fx Y Y' (B::aA (f i.toNat))->(∀j,j<4->∀q∈aA (z j),q∈aA (f j)\/bK Y q)->K a (.p B i.toNat 0) Y'):eV (apA 3 fB 8 Y d (f i.toNat)<|.l [[iv v]] t o) λa c=>rV (cz 1 c (.m B 4)<|iv i) λp=>sV (aK 1 c p a) (K a p):=by have r:i.toNat<4:=(by omega);obtain⟨ns,T,g⟩:=O.gr _ r;refine qs g rfl (by decide) (by omega) pU (by simp) (by simp) (by simp;omega) λa c E n W=>?_;have A:∀j,j<4->B∉aA (f j):=(by grind [Rds.pl]);have F:=n.keep _ _ (A _ r) O.bx;have C:cz 1 c (.m B 4) (iv i)=V (.p B i.toNat 0):=(by grind [cz]);rw[C];have P:B∉aA a:=(by grind);refine Bp F (uU r) (ms E) rfl (by simp) λu s G=>?_;have w:box u B=V ⟨38,1,U,U,io 4 λj=>[if j=i.toNat then a else f j]⟩:=(by rw[G,Bl];grind);have R:∀j,j<4->∀q∈aA (f j),q∉aA a:=(by grind [Rds.gr,aTi,bK.no]);refine M a u _ ⟨w,λj e=>?_,λj k e hk S q D=>?_,λj e q D=>?_⟩ ((n.trans s).mono<|by grind) λj e q D=>?_;by_cases h:j=i.toNat;subst h;simp only[a7g];refine⟨ns++[v],by simp;omega,?_⟩;grind [bc.p,bc.fx];simp only[r9 h];obtain⟨N,X,H⟩:=O.gr j e;exact⟨N,by omega,(H.fx n<|by grind [Rds.dj]).fx s<|by grind⟩;grind [Rds.dj];grind [Rds.pl];grind
def bc6{n}:zt (iv n)=[]:=rfl
structure PlS(Y x:ae)(b:Id)(l:d0)(v6 v7:Nat)(B:Id)(f:Nat->AV)(k:Nat):Prop where
 b6:∃ds s,box x (6,v6)=V ⟨40,7,U,U,[ds]⟩/\Lk ds s.c/\vH k s/\L s.cells=5/\L s.bU=1/\L s.count=4
 b7:box x (7,v7)=V ⟨31,6,U,U,[aNE.c]⟩
 tp:∃a',Tp x b l a'
 kx:Kx [14,15,16] Y x
 rd:Rds x B f (k+1)
 nw:∀i,i<4->∀q∈aA (f i),∀z,box Y q≠V z
 no:(∀z,box Y (6,v6)≠V z)/\∀z,box Y B≠V z
 pb:b.1=16/\B.1=20
section
variable{Y x y:ae}{b B:Id}{l:d0}{v6 v7 k:Nat}{f:Nat->AV}
theorem PlS.fx(P:PlS Y x b l v6 v7 B f k){Lw}(F:Fx x y Lw)(h:∀q∈Lw,q.1≠6/\q.1≠7/\q.1≠16/\q.1≠20/\q.1≠47/\q.1≠103)(g:∀q∈Lw,q.1=14\/q.1=15\/∀z,box Y q≠V z):PlS Y y b l v6 v7 B f k:=by obtain⟨ds,s,d,e⟩:=P.b6;obtain⟨a,T⟩:=P.tp;have c:=P.pb;exact⟨(by grind [Fx.keep]),(by grind [Fx.keep,PlS.b7]),⟨a,by grind [Tp.fx]⟩,P.kx.fx F (by grind),P.rd.fx F (by grind),P.nw,P.no,c⟩
theorem PlS.kxx(P:PlS Y x b l v6 v7 B f k)(K:Kx [14,15,16] x y){a}(T:Tp y b l a):PlS Y y b l v6 v7 B f k:=by obtain⟨ds,s,c,d⟩:=P.b6;exact⟨(by grind [Kx.keep]),K.kq P.b7,⟨a,T⟩,P.kx.kx K (by simp),P.rd.kx K (by grind [PlS.pb]),P.nw,P.no,P.pb⟩
theorem PlS.tape(P:PlS Y x b l v6 v7 B f k)(F:Fx x y [b]){a}(T:Tp y b l a):PlS Y y b l v6 v7 B f k:=(by grind [PlS.kxx,Fx.kx,PlS.pb])
theorem PlS.reads(P:PlS Y x b l v6 v7 B f k){a}{i:Nat}(p:i<4)(R:Rds y B a<|k+2)(F:Fx x y (B::aA (f i)))(o:∀j,j<4->∀q∈aA (a j),q∈aA (f j)\/bK x q){d:Nat}(A:k+1<=d)
  (n:∃ds s,box x (6,v6)=V ⟨40,7,U,U,[ds]⟩/\Lk ds s.c/\vH d s/\L s.cells=5/\L s.bU=1/\L s.count=4):PlS Y y b l v6 v7 B a d:=by
 obtain⟨ds,s,v,w⟩:=n
 obtain⟨m,T⟩:=P.tp
 have r:=P.pb
 have pl:=P.rd.pl i p
 have C:∀{q:Id},q.1≠20->q.1≠47->q.1≠103->q∉B::aA (f i):=(by grind)
 exact⟨(by grind [Fx.keep]),(by grind [Fx.keep,PlS.b7]),⟨m,by grind [Tp.fx]⟩,P.kx.fx F (by grind [PlS.no,PlS.nw]),R.mono (by omega),λj g q t=>by
   rcases o j g q t with h|h
   ·exact P.nw j g q h
   ·intro z u
    by_cases e:q.1∈[14,15,16]
    ·grind [Rds.pl]
    ·exact h.no _ (P.kx.keep _ _ e u),P.no,r⟩
end
def tpM(b:Id)(y:ae):Nat:=((box y b).map λx=>match x.bA with|[[.l bA _ _, .s (.int _ n)]]=>L bA-n.toNat|_=>0).getD 0
theorem aTD{Y b l}{a:Nat}(T:Tp Y b l a):tpM b Y=L l-a:=by simp only[tpM,T.bx];show L (l.map cu)-(a:Int).toNat=_;simp
def bfl{k:Nat}{s e}(h:vH k s)(i:k<1000)(a:bhO aNE s e=U)(g:L s.cells=5)(c:L s.bU=1)(d:L s.count=4):vH (k+1) (nD aNE s e)/\L (nD aNE s e).cells=5/\L (nD aNE s e).bU=1/\L (nD aNE s e).count=4:=by refine⟨h.step (by omega),?_⟩;grind [nD,oc]
section
attribute[local irreducible] aX
def LeN(n:Int)(k:Nat):Prop:=k<=16/\((k:Int)<=n\/k=0)
def bdm{Y b l}{a:Nat}{ds s}{n:Int}(H:L Y=4096)(hb:b.1=16)(T:Tp Y b l a)(hL:Lk ds s.c)(hS:vH 0 s)(h5:L s.cells=5)(h1:L s.bU=1)(h4:L s.count=4)(hn:n<=16):∃r Y1,(∃t:List aP,r= .l (t.map aP.c) I I/\LeN n (L t)/\(∀e∈t,EvL e)/\Kx [14,15,16] Y Y1)/\cZ aS GG 56 [.p b 0 0, .a ds, .a aNE.c,iv n,bv U] Y r Y1:=by generalize hQ:(λ(r:AV) (y:ae)=>∃t:List aP,aOo y r= .l (t.map aP.c) I I/\LeN n (L t)/\(∀e∈t,EvL e)/\Kx [14,15,16] Y (kills y<|aNW r))=Qq;refine aQR (R:=Qq) ?_ (by grind);refine bhB H (oC hL) rfl λs4 v6 v7 K4 c3 b2 c4 S W=>?_;have F4:=K4.fx [];have c1:=F4.len.trans H;have ck:aN J (List.drop 4 aNE.c)=V (sl cs aNE.ay):=rfl;have bW:∀{Y:ae},fS Y (sl cs aNE.ay)=V (iv (4:Nat)):=rfl;simp only[eS,W,ck,bW];refine AP (by decide) (by decide) (by omega) (by decide) λB s9 hB NB F9 bB=>?_;have aM:=F4.trans F9;have P0:PlS Y s9 b l v6 v7 B (λ_=> .l [] U U) 0:=⟨(by grind [Fx.keep]),F9.kq W,⟨a,T.fx aM<|by simp⟩,aM.kx (by simp),⟨by rw[bB];rfl,λi hi=>⟨[],by simp, .inl ⟨rfl,rfl⟩⟩,by simp[aA],by simp[aA]⟩,by simp[aA],⟨b2,(NB.old F4).no⟩,hb,hB⟩;have bg:∀{x:ae} {f:Nat->AV} {k:Nat},PlS Y x b l v6 v7 B f k->fS x (.m B 4)=V (iv (4:Nat)):=λ{x f k} P=>(by simp[fS,P.rd.bx]);simp only[qz 6,bg P0,aY];have a5:∀{e:aP},aN (V 7) e.c=V (.a e.c):=rfl;have a6:aN (V 6) aNE.c=V (.a aNE.c):=rfl;refine yV 4 (λk _ y=>∃f,PlS Y y b l v6 v7 B f k) ⟨_,P0⟩ ?_;rintro k _ x hk ⟨f,P⟩;rcases Z:Q ((k:Int)<((4:Nat):Int)) with _|_;(focus simp only[qz 31,aI,au,av4,aY,Z,↓iB];have bT:k=4:=(by grind);subst bT;let o:aG:=λvs y=>∃(out:AV) (t:List aP) (f:Nat->AV),vs=[out]/\LeN n (L t)/\(∀e∈t,EvL e)/\sA y 62 7 out (t.map aP.c)/\(∀q∈aA out,q.1=108/\∀z,box Y q≠V z)/\PlS Y y b l v6 v7 B f (4+L t);refine⟨o,λ_ y=>tpM b y,⟨_,[],f,rfl,⟨by simp, .inr rfl⟩,by simp, .inl ⟨rfl,rfl⟩,by simp[aA],P⟩,?_⟩;rintro _ x ⟨out,t,f,rfl,a1,az,g,po,P⟩;generalize hI:o=I';obtain⟨a',K⟩:=P.tp;have aC:=P.kx.len.trans H;have aB:fS x out=V (iv<|L t):=(by rw[g.ln,bJ]);have aD:aNR Qq x [out]:=(by show Qq out x;rw[<-hQ];have ei:aNW out=aA out:=(by have:=aQX g;rcases g with⟨_,rfl⟩|⟨c,m,rfl,_⟩<;>rfl);have ef:aOo x out= .l (t.map aP.c) I I:=(by rw[<-g.ar];rcases g with⟨_,rfl⟩|⟨c,m,rfl,_⟩<;>rfl);refine⟨t,ef,a1,az,?_⟩;rw[ei];exact P.kx.fx (aOp _ _)<|by simp_all);rcases Z:Q ((L t:Int)<n) with _|_;simp only[qz 73,au,aB,eQ,Z,ip,↓jN,bcW,bt];exact aD;rcases q2:Q ((a':Int)<(L l:Int)) with _|_;simp only[qz 73,au,aB,eS,nlP K.bx,K.bx,Z,q2,k1A,nM,ip,↓jA,bt];exact aD;have cI:L t<16:=(by grind);have c0:a'<L l:=(by simp_all);obtain⟨ao,s',an,ab,aZ,aW,bz,bF⟩:=P.b6;obtain⟨x0,x1,x2,x3,t4,o4,t5,o5,t6,o6,bM⟩:=aXM ab;have cj:aN (V 7) ao=V (.a ao):=(by rw[bM];rfl);simp only[qz 73,au,aB,eS,nlP K.bx,K.bx,Z,q2,an,P.b7,cj,a6,k1A,nM,ip,↓jA,bt];refine jH rfl (bdf aC (.inr<|.inr hb) hB K ab (by have:=aZ.sy.th;omega) aW (by omega)<|P.rd.mono<|by omega) ?_;rintro _ y ⟨e,a2,rfl,he,ac,T2,_,cH,K2⟩;refine⟨K2.len,?_⟩;have E:=P.kxx K2 T2;have bY:=E.kx.len.trans H;have g2:sA y 62 7 out (t.map aP.c):=(by grind [Kx.gr]);simp only[qz 16,qy 18];refine I7 bY λD y1 G1 cX br=>?_;refine stW br rfl rfl λy2 G2 aR=>?_;have P3:=(E.fx G1 (by simp)<|by simp).fx G2 (by simp) (by simp);have g3:=(g2.fx G1<|by simp).fx G2 (by grind);have T3:=(T2.fx G1<|by simp).fx G2 (by grind);obtain⟨aU,s3,aQ,M,a0,bG,bA,aV⟩:=P3.b6;obtain⟨z0,z1,z2,z3,c8,c5,c9,c7,cm,b3,ax⟩:=aXM M;have bk:aN (V 7) aU=V (.a aU):=(by rw[ax];rfl);have bq:=λ{Y}=>M.arg Y;obtain⟨b8,b9,cb,cc,cd,cf,cg⟩:=a0.snB (by omega);simp only[qz 20,qy 22,eQ,aQ,P3.b7,aR,bk,a6,a5,ip,bcy,ar,bq];refine⟨⟨by decide,b8,b9,cb,cc,cd,cf,cg,by have:=he.1;omega,by have:=he.2;omega⟩,?_⟩;rintro _ ⟨cs,rfl,aw⟩;refine⟨by rw[lo,nA];exact .inl (by simp[x9 M];simp[eB,iR,aP.c,pz.c,sl]),?_⟩;simp only[oJ,pG,aY];have bi:=P3.kx.len.trans H;refine I7 bi λcp y3 G3 cY bs=>?_;refine stW bs rfl (oC aw) λN G4 aT=>?_;have A:=(P3.fx G3 (by simp)<|by simp).fx G4 (by simp) (by simp);have g4:=(g3.fx G3<|by simp).fx G4 (by grind);have T4:=(T3.fx G3<|by simp).fx G4 (by grind);have G:=G4.kq<|G3.kq aR;have aa:=G4.kq<|G3.kq aQ;rcases b0:bhO aNE s3 e with _|_;simp only[qz 24,aIN,u0,↓iC];rw[<-hI];exact⟨⟨out,t,f,rfl,a1,az,g4,po,A⟩,by grind [aTD]⟩;have a3:=bfl a0 (by omega) b0 bG bA aV;have ch:aN (V 7) cs=V (.a cs):=(by grind [oC,aN]);have up:∀{y:ae} {f:Nat->AV},PlS Y y b l v6 v7 B f (4+L t)->PlS Y y b l v6 v7 B f (4+(L t+1)):=λ{y f} P=>(by obtain⟨ds,s,h1,h2,C,h4⟩:=P.b6;exact⟨⟨ds,s,h1,h2,⟨C.sy.mono (by omega),C.ce,C.fu,C.co,λc hc=>by have:=C.cn c hc;omega⟩,h4⟩,P.b7,P.tp,P.kx,P.rd.mono (by omega),P.nw,P.no,P.pb⟩);simp only[qz 24,aIN,u0,↓iB];refine bpl (λj=>∀{z:ae} {f':Nat->AV},PlS Y z b l v6 v7 B f' (4+(L t+1))->(∃d,box z (6,v6)=V ⟨40,7,U,U,[d]⟩/\L d=7)->box z (14,D)=V ⟨62,7,U,U,[e.c]⟩->box z (15,cp)=V ⟨40,7,U,U,[cs]⟩->sA z 62 7 out (t.map aP.c)->Tp z b l a2->j [] z) (λ{z f'} P h6 bC bD g T=>?_) λj a4=>?_;obtain⟨d6,h6,bL⟩:=h6;have bK:aX bt5 1 z [(0, .a e.c)]=V (.l ([e].map aP.c) U U,z):=ua rfl rfl rfl (by decide) (by simp[aP.c,eN,sl]) (by decide);have ad:∀{l:List aP},∀r∈l.map aP.c,L r=7:=qW (by intro _;rfl);simp only[qz 117,qy 32,au,eQ,bC,a5,bK,ip];refine apQ g (P.kx.len.trans H) ad ad (by simp) (by simp;omega) λout' z1 g1 F1 p1=>?_;have X:∀{q:Id},q.1≠108->q∉aA out:=(by grind);have bb:=F1.keep _ _ (X<|by simp) bD;have bH:=F1.keep _ _ (X<|by simp) h6;have P1:=P.fx F1 (λq v=>by rw[(po q v).1];decide) (by grind);simp only[qz 34,qy 36,eQ,bb,ch,ip];refine stW bH bL (oC aw) λz2 O c6=>?_;have aO:=(T.fx F1<|X<|by omega).fx O (by grind);have b5:∀q∈aA out',q.1=108/\∀w,box Y q≠V w:=λq v=>⟨(p1 q v).2,λw hw=>(p1 q v).1.no w<|P.kx.keep _ _ (by rw[(p1 q v).2];decide) hw⟩;rw[<-hI];refine⟨⟨out',t++[e],f',rfl,⟨by simp;omega, .inl (by have:=aNQ Z;simp;omega)⟩,λy hy=>?_,?_,b5,?_⟩,by rw[aTD aO,aTD K];omega⟩;rcases dF.1 hy with h|h;exact az y h;grind;rw[dg];exact g1.p.fx O (by grind);rw[a6G];exact⟨⟨cs,_,c6,aw,(show 4+L t+1=4+(L t+[e].length) from rfl)▸a3.1,a3.2⟩,O.kq P1.b7,⟨a2,aO⟩,P1.kx.fx O (by grind),P1.rd.fx O (λq v=>by simp at v;subst v;grind),P1.nw,P1.no,P1.pb⟩;have hu:e.aq.toNat<4:=(by omega);have f1:iQ 1 N (.p (14,D) 0 0)=V (.p (14,D) 0 1):=(by grind [rR]);have l1:Iy J N (.p (14,D) 0 1)=V (iv e.kind):=(by rw[aC5,G];rfl);rcases q3:Q (e.kind=3) with _|_<;>rcases ca:Q (e.kind=23) with _|_<;>simp only[qz 119,qy 26,u0,f1,l1,iM,q3,ca,↓jA,↓jN,aRV,bcW,bt];exact a4 (up A) ⟨_,aa,oC M⟩ G aT g4 T4;all_goals have f0:iQ 0 N (.p (14,D) 0 0)=V (.p (14,D) 0 0):=(by grind [rR]);have l0:Iy J N (.p (14,D) 0 0)=V (iv e.aq):=(by rw[aC5,G];rfl);have f6:iQ 6 N (.p (6,v6) 0 0)=V (.p (6,v6) 0 6):=(by rw[rR,aa];rfl);have l6:Iy J N (.p (6,v6) 0 6)=V (.l (s3.count.map ci) cm b3):=(by rw[aC5,aa,ax];rfl);have bR:cz 1 N (.m B 4) (iv e.aq)=V (.p B e.aq.toNat 0):=(by simp[cz,ac.1,A.rd.bx,hu]);have bV:Iy J N (.p B e.aq.toNat 0)=V (f e.aq.toNat):=(by simp[Iy,iE,A.rd.bx,uU hu,aN]);simp only[f0,l0,f6,l6,bR,bV,aY,tf,ci,qM,aS1,bQ];refine⟨⟨ac.1,by rw[aV];exact ac.2⟩,?_⟩;obtain⟨ns,c2,bw⟩:=A.rd.gr _ hu;have hk:=(SlR.of bw).keys (P:=λp=>p=47\/p=103) (λq v=>A.rd.pl _ hu q v);refine a62 A.rd ac (.inr rfl) (A.kx.len.trans H) (by omega) hB λa' z f' R F hf=>?_;simp only[qz 30];refine dT ?_ ?_;rcases hk with e1|⟨p,e1,rfl|rfl⟩<;>simp[eL,lb,e1,aTn,a6H,bc6];have h1:=A.rd.pl _ hu;have ne:∀{q:Id},q.1≠20->q.1≠47->q.1≠103->q∉B::aA (f e.aq.toNat):=λ{q} n1 n2 n3 v=>(by rcases List.mem_cons.1 v with rfl|h;exact n1 hB;rcases h1 _ h with e|e<;>omega);exact a4 (A.reads hu R F hf (by omega) (up A).b6) ⟨_,F.keep _ _ (by grind) aa,oC M⟩ (F.keep _ _ (by grind) G) (F.keep _ _ (by grind) aT) (g4.fx F λq v=>ne (by grind) (by grind)<|by grind)<|T4.fx F<|ne (by omega) (by omega)<|by omega);have bX:k<4:=(by grind);have up:∀{y:ae} {f:Nat->AV},PlS Y y b l v6 v7 B f k->PlS Y y b l v6 v7 B f (k+1):=λ{y f} P=>(by obtain⟨ds,s,h1,h2,C,h4⟩:=P.b6;exact⟨⟨ds,s,h1,h2,⟨C.sy.mono (by omega),C.ce,C.fu,C.co,λc hc=>by have:=C.cn c hc;omega⟩,h4⟩,P.b7,P.tp,P.kx,P.rd.mono (by omega),P.nw,P.no,P.pb⟩);obtain⟨ao,s',an,ab,aZ,aW,bz,bF⟩:=P.b6;obtain⟨x0,x1,x2,x3,t4,o4,t5,o5,t6,o6,rfl⟩:=aXM ab;have aC:=P.kx.len.trans H;simp only[qz 31,aI,au,av4,aY,Z,↓iC];refine bpl (λj=>∀{y:ae} {f:Nat->AV},PlS Y y b l v6 v7 B f (k+1)->j [] y) (λ{y f} P=>?_) λj nx=>?_;simp only[qz 51,aI,au,cS,aY];exact yU bX ⟨_,P⟩;simp only[qz 53,qy 10,eS,an,k1A,nM,ip,tf,ci,qM,↓jA,aRV];refine⟨⟨by omega,by omega⟩,?_⟩;rcases q2:Q (1<gd s'.count ((k:Int)).toNat) with _|_;simp only[u0,aOq,↓jN,bcW,bt];exact nx<|up P;simp only[u0,aPh,↓jA,aRV];obtain⟨a',K⟩:=P.tp;refine aPu (d:=37) aC K λu a2 y _ _ T2 _ O=>?_;have E:=P.tape O T2;rcases q3:Q (u=2) with _|_;simp only[eQ,q3,bt];exact nx<|up E;simp only[u0,iM,q3,bt];refine E.rd.rd (by omega) ?_;simp only[aS1,bQ];refine a62 E.rd (by omega) (.inl rfl) (E.kx.len.trans H) (by omega) hB λa' z f' R F hf=>?_;exact nx (E.reads (by omega) R F hf (Nat.le_refl _) (up E).b6)
end
def vq(w:pz)(l:List aP):Nat->I5|0=>aH6 w|k+1=>nD w (vq w l k)<|gd l k
structure aN4(w:pz)(l:List aP):Prop where
 wv:mQ w=U
 ln:L l<=400
 st:∀k,k<L l->bhO w (vq w l k) (gd l k)=U
 dp:∀k,k<L l->∀n∈(gd l k).dI,aOE l k (gd l k).aq n
 fr:∀k,k<L l->∀n∈(gd l k).ep,aOE l k (gd l k).aq n
def a6b{l t i m}:bkl l t (i+m)=bkl l t i+bkl (l.drop i) t m:=by simp only[bkl,List.take_add,List.filter_append,a6G]
def a6Y(t:Int):∀(l) (j i:Nat),j<L l->(gd l j).aq=t->pS t l (bkl l t j) i=((i+j:Nat):Int)
 |[],j,i,h,_=>by simp at h
 |e::l,0,i,_,h=>by
  have b:e.aq=t:=h
  simp[pS,bkl,b]
 |e::l,j+1,i,h,c=>by
  have a:(gd l j).aq=t:=by grind [gd]
  have d:=a6Y t l j (i+1) (by simpa using h) a
  grind [pS,bkl]
def aXY{α:Type}{n}{x y:α}(h:y∈er n x):y=x:=(by simp_all)
theorem aTg{α}[Inhabited α]{n j}{x:α}(h:j<n):gd (er n x) j=x:=by grind [bT]
def bcG{n j}(h:j<n):gd (qZ n) j=⟨if j=0 then 1 else 0,0,I⟩:=by grind [bT,qZ]
def a7j:∀n,(er n (0:Int)).sum=0
 |0=>rfl
 |n+1=>by simp
theorem a7R{w}(h:mQ w=U):∀j,j<L w.bC->uh w j=I:=by grind [mQ]
theorem SI.start{w}(h:mQ w=U):SI w (aH6 w) 0:=by have n:=a7R h;refine⟨?_,?_,?_,?_,?_,?_,?_⟩;simp only[fN,lh,aH6,bN,aBY];grind [qZ,ou,uh,bT];intro c k;rw[aXY k];omega;exact a7j _;intro j g;have a:j<L w.ay:=(by grind [aH6,qZ]);have e:gd (aH6 w).bW.ay j=⟨if j=0 then 1 else 0,0,I⟩:=bcG a;have m:gd (aH6 w).count j=0:=aTg a;by_cases b:j=0;subst b;simp only[a7g] at e;exact⟨by rw[e];simp,by simp_all,by rw[e];simp,by rw[e];simp,by rw[e];simp,by rw[e];simp⟩;rw[r9 b] at e;exact⟨by rw[e];simp,by simp_all,λd=>aRI d b,by rw[e];simp,by rw[e];simp,by rw[e];simp⟩;intro j g;have a:j<L w.ak:=(by grind [aH6]);have e:gd (aH6 w).bW.ak j=⟨-1,[]⟩:=aTg a;exact⟨by simp_all,by simp_all,by simp_all,by rw[e];intro i f;simp at f⟩;intro h;exact aRI rfl h;grind [aH6,aTg]
section
variable{w:pz}{l:List aP}
theorem aN4.si(h:aN4 w l):∀k,k<=L l->SI w (vq w l k) k
 |0,_=>SI.start h.wv
 |k+1,a=>by
  have b:=h.si k (by omega)
  have c:=h.st k a
  have e:vq w l (k+1)=oc w (vq w l k) (gd l k):=by grind [vq,nD]
  grind [SI.step,a7R,aN4.wv,aN4.ln]
theorem aN4.thr(h:aN4 w l){k:Nat}(a:k<L l):aF (L w.ay) (gd l k).aq:=by have b:=h.st k a;grind [bhO,aOL,dX]
theorem aN4.cnt(h:aN4 w l){t:Nat}(c:t<L w.ay):∀k,k<=L l->gd (vq w l k).count t=bkl l t k
 |0,_=>by
  grind [aH6,aTg,vq,bkl]
 |k+1,a=>by
  have n:=h.cnt c k (by omega)
  have i:=h.st k a
  have b:=h.thr a
  have hs:=h.si k (by omega)
  have d:L (vq w l k).count=L w.ay:=by
   have:=hs.fit
   grind [fN]
  have e:vq w l (k+1)=oc w (vq w l k) (gd l k):=by grind [vq,nD]
  rw[e,aV8<|by omega]
  simp only[oc]
  rw[gdS]
  have j:=aWu hs.c0
  have f:=h.ln
  by_cases m:(gd l k).aq=(t:Int)
  ·grind [a6c,eM]
  ·have g:¬(gd l k).aq.toNat=t:=by have:=b.1;omega
   simp_all
theorem a7P(h:aN4 w l){i m st}:∀k,k<=m->cY ⟨w,st,vq w l i,(l.drop i).take m⟩ k=vq w l (i+k)
 |0,_=>rfl
 |k+1,a=>by
  have b:=a7P h (i:=i) (m:=m) (st:=st) k (by omega)
  grind [cY,gd,vq]
theorem aWv{i m k}(a:k<m):gd ((l.drop i).take m) k=gd l (i+k):=by grind [gd]
theorem a63(h:aN4 w l){i m k:Nat}{st:Int}(r:i<=L l)(D:k<m)(v:i+k<L l){t n:Int}(e:aF (L w.ay) t)(s:aOE l (i+k) t n):qU ⟨w,st,vq w l i,(l.drop i).take m⟩ t n=U:=by obtain⟨j,z,p,A,B⟩:=s;obtain⟨a,rfl⟩:∃a:Nat,t=a:=⟨t.toNat,by have:=e.1;omega⟩;have f:a<L w.ay:=(by have:=e.2;omega);have C:=h.cnt f i r;unfold qU;simp only[bh];rcases Decidable.em (n<gd (vq w l i).count a) with c|c;simp[c];have u:i<=j:=(by rcases Nat.lt_or_ge j i with b|b;exfalso;have:bkl l a (j+1)<=bkl l a i:=(by obtain⟨d,rfl⟩:∃d,i=j+1+d:=⟨i-(j+1),by omega⟩;simp_all [a6b]);grind [aV8];exact b);obtain⟨d,rfl⟩:∃d,j=i+d:=⟨j-i,by omega⟩;have q:d<m:=(by omega);have g:bkl ((l.drop i).take m) a d=bkl (l.drop i) a d:=(by grind [bkl]);have x:=@a6b l a i d;have o:=a6Y a ((l.drop i).take m) d 0 (by simp only[gC,oz];omega) (by rw[aWv q];exact p);have y:oV ⟨w,st,vq w l i,(l.drop i).take m⟩ a (n-gd (vq w l i).count a)=(d:Int):=(by unfold oV;simp only;rw[show n-gd (vq w l i).count a=((bkl ((l.drop i).take m) a d:Nat):Int) by rw[g];omega,o];simp);grind [aWv]
theorem bau{a t}:bg a.init t->nO a t=U:=λh=>by
 simp only[nO,bN,aBY]
 exact⟨dX.2 h.1,h.2⟩
theorem bhG(h:aN4 w l){i m:Nat}(u:i<=L l)(D:m<=16):bdZ ⟨w,i,vq w l i,(l.drop i).take m⟩=U:=by have hs:=h.si i u;have A:=h.ln;have B:L ((l.drop i).take m)<=L l-i:=(by grind);have C:L ((l.drop i).take m)<=m:=(by grind);generalize e:(⟨w,i,vq w l i,(l.drop i).take m⟩:am)=W;have d:W.aQ=w:=(by rw[<-e]);have b:W.init=vq w l i:=(by rw[<-e]);have v:W.start=i:=(by rw[<-e]);have p:W.ac=(l.drop i).take m:=(by rw[<-e]);have n:∀t,bg (vq w l i) t->nO W t=U:=(by grind [bau]);simp only[bdZ,oh,bN,eH,cP,fK,aBY,aNK];refine⟨⟨⟨⟨⟨⟨?_,?_⟩,?_⟩,?_⟩,?_⟩,?_⟩,?_,?_⟩;rw[d];exact h.wv;grind [SI.fit];grind;simp only[rM,bN,aBY];rw[b,v,p,hs.sum];refine⟨λc o=>⟨hs.c0 c o,?_⟩,rfl,by omega⟩;obtain⟨j,a,rfl⟩:=ou o;have:=(aWu hs.c0 j).1;grind [SI.sum,bT];simp only[uZ,aBY];rw[b];intro j a;have S:=hs.st j a;obtain⟨E,F⟩:=S.r;simp only[aOK,Eu,zX,d,b,bN,eH,cP,aNK,bik,fK,beq_iff_eq];grind [StI.fr,StI.z,dX,StI.wt,StI.nw];simp only[ny,bN,aBY,eH];refine⟨λj a=>?_,?_,λj a=>?_⟩;rw[b] at a;have Lw:=hs.lk j a;refine⟨?_,λk g=>?_⟩;simp only[AM,d,b,cP,bik,aNK,fK,aNS];grind [LcI.ow,LcI.rd];rw[b] at g⊢;refine⟨n _<|Lw.rb _<|dB g,λf=>?_⟩;have:=Lw.inc (k-1) (by omega);grind;simp only[yS,b,bik,aNK,aNS,fK];grind [SI.tx];rw[b] at a;have S:=hs.st j a;simp only[pX,d,b,bN,eH,bik,fK,cP,aNK];refine⟨?_,?_⟩;grind [StI.at'];rcases Decidable.em ((gd (vq w l i).bW.ay j).cQ=3\/(gd (vq w l i).bW.ay j).cQ=4) with f|f;exact .inr (S.wt f).2;omega;rw[b];intro j a;have:=hs.fu j a;grind [Ae];rw[p];intro k g;have y:k<m:=(by omega);have x:i+k<L l:=(by omega);have q:gd W.ac k=gd l (i+k):=(by grind [aWv]);have s:cY W k=vq w l (i+k):=(by grind [a7P]);simp only[xH,q,s,d,cP,fK,aBY];grind [aN4.st,a63,aN4.thr,aN4.dp,aN4.fr]
end
def aXL(s:I5):Lk s.c s.c:=⟨rfl,rfl⟩
def bfm{s}(h:sz5 s):vH 0 s:=⟨⟨by rw[h.1];decide,by rw[h.2.1];decide,by rw[h.2.2.1];decide,λl b=>by have:=h.2.2.2.2.2.2.1 l b;omega⟩,by rw[h.2.2.2.1];decide,by rw[h.2.2.2.2.1];decide,by rw[h.2.2.2.2.2.1];decide,λc a=>by have:=h.2.2.2.2.2.2.2 c a;omega⟩
def w00:am:=⟨aNE,0,aH6 aNE,[]⟩
def bfG:bdZ w00=U:=by kernel_rfl
def bfF:hU w00:=⟨by decide,by decide,by grind [w00],by decide⟩
def aWb(w:am):iX (.a w.c)=U:=by simp[iX,eN,am.c,sl]
def aXE(l)(n:Int)(hp:(∀x∈l,0<=x/\x<256)/\L l<4611686018427387904):Ct 21 [sl cu l,iv n] (λr=>∃w:am,r= .a w.c/\bdZ w=U/\hU w/\((L w.ac:Int)<=n\/L w.ac=0)):=by obtain⟨hb,aZ⟩:=hp;generalize hQ:(λ(r:AV)=>∃w:am,r= .a w.c/\bdZ w=U/\hU w/\((L w.ac:Int)<=n\/L w.ac=0))=Qq;refine aDq (bhv λs0 hl h0=>?_);simp only[qy 2];refine I7 hl λv1 s2 F2 N2 b1=>?_;have aW:=F2.len.trans hl;refine btr (λb=>∀l':d0,(∀x∈l',0<=x/\x<256)->L l'<4611686018427387904->b [sl cu l']) ?_ λb hj=>(by rcases q:Q ((400:Int)<(L l:Int)) with _|_;simp only[qz 11,eQ,q,bt];exact hj l hb aZ;simp only[qz 11,eQ,q,bt];rw[aIk (z:=1) (f:=cu) λ_=>rfl];have:=aNQ q;refine⟨(by omega),hj _ (by grind)<|by grind⟩);intro l' aP aq;have aR:bM bt9 brL [(0,sl cu l')]=V (.a [sl cu l',iv 0]):=rfl;simp only[qz 9,qy 6,aI,au,aR,aY];refine bxL rfl (by decide) (by omega) λv5 s6 F6 N5 E=>?_;have T6:Tp s6 (16,v5) l' 0:=⟨E,by omega,aP,aq⟩;have X:=F6.len.trans aW;have aG:=F6.kq b1;have aQ:bM aOQ aP0 [(0, .a aNE.c)]=V (.a<|aNE.c++(iv 0::(BF++[.l [] U U]))):=rfl;simp only[aWo,ar,u0,aQ];refine⟨by simp[lo,nA],?_⟩;refine I7 X λd bz aw N9 b9=>?_;refine stW b9 rfl rfl λbb ax c9=>?_;have g:Fx s6 bb []:=(aw.trans ax).mono (by grind [bK.no]);have aC:=T6.fx g (by simp);have K:=g.len.trans X;have ah:=g.kq aG;have a9:∀{xs:dM},aN (V 6) (aNE.c++xs)=V (.a aNE.c):=λ{xs}=>rfl;simp only[qz 8,eS,c9,a9,ip];refine jH rfl (bdb K (.inr<|.inr rfl) aC) ?_;rintro _ bA ⟨s,a',rfl,m,aD,_,o⟩;refine⟨o.len,?_⟩;have ao:=o.len.trans K;have R:=o.kq c9;have aF:=o.kq ah;have fb:∀{y:ae} {j:Nat} {r:dM},box y (6,d)=V ⟨43,15,U,U,[r]⟩->iQ j y (.p (6,d) 0 7)=V (.p (6,d) 0<|7+j):=(by grind [rR]);simp only[qz 10,aNI R,aY];refine cy (y:=7) (cs:=s.c) R rfl rfl (by decide) λaf u aL=>?_;have aE:=aD.fx u (by simp);have ap:=u.len.trans ao;have aJ:=u.kq aF;have F:box af (6,d)=V ⟨43,15,U,U,[aNE.c++(iv 0::(s.c++[.l [] U U]))]⟩:=aL;have a7:∀{y:ae} {st:Int} {e:AV},box y (6,d)=V ⟨43,15,U,U,[aNE.c++(iv st::(s.c++[e]))]⟩->Iy J y (.p (6,d) 0 13)=V (sl ci s.count):=λ{y st e} h=>(by rw[aC5,h];rfl);have l6:∀{y:ae} {st:Int} {e:AV},box y (6,d)=V ⟨43,15,U,U,[aNE.c++(iv st::(s.c++[e]))]⟩->Iy J y (.p (6,d) 0 6)=V (iv st):=λ{y st e} h=>(by rw[aC5,h];rfl);have l7:∀{y:ae} {st:Int} {e:AV},box y (6,d)=V ⟨43,15,U,U,[aNE.c++(iv st::(s.c++[e]))]⟩->Iy (V 7) y (.p (6,d) 0 7)=V (.a s.c):=λ{y st e} h=>(by rw[aC5,h];rfl);have l0:∀{y:ae} {r:dM},box y (6,d)=V ⟨43,15,U,U,[aNE.c++r]⟩->Iy (V 6) y (.p (6,d) 0 0)=V (.a aNE.c):=λ{y r} h=>(by rw[aC5,h];rfl);have O:∀{Y:ae} {l:d0},fS Y (sl ci l)=V (iv<|L l):=cT;have bv:L s.count<1000:=(by rw[m.2.2.2.2.2.1];decide);simp only[qz 12,aNI F,fb F,a7 F,O,aY,Nat.reduceAdd];refine yV (L s.count) (λ_ _ y=>(∃st:Int,box y (6,d)=V ⟨43,15,U,U,[aNE.c++(iv st::(s.c++[.l [] U U]))]⟩)/\Fx af y [(6,d)]) (by grind [Fx.refl]) ?_;rintro k _ y hk ⟨⟨st,i⟩,M⟩;rcases q1:Q ((k:Int)<(L s.count:Int)) with _|_;simp only[qz 49,aI,au,av4,aY,q1,↓iB,aNI i,l7 i,l0 i,aRW,aXT];generalize ab:(if(16:Int)<(if(0:Int)>n then 0 else n) then(16:Int) else(if(0:Int)>n then 0 else n))=n';have av:n'<=16:=(by omega);have bw:n'<=n\/n'<=0:=(by by_cases h0:(0:Int)>n;right;rw[<-ab,sz h0];simp;left;rw[<-ab,r9 h0];split<;>omega);have aa:=M.len.trans ap;have Ty:=aE.fx M (by simp);refine jH rfl (bdm aa rfl Ty (aXL s) (bfm m) m.2.2.2.1 m.2.2.2.2.1 m.2.2.2.2.2.1 av) ?_;rintro _ y2 ⟨G,rfl,an,W,N⟩;refine⟨N.len,?_⟩;have T:=N.kq i;have aK:=N.kq<|M.kq aJ;simp only[qz 16,aNI T,aY];refine stC T rfl (by simp[pz.c,I5.c]) λy3 F3 b3=>?_;have P:=F3.kq aK;have aX:=F3.len.trans<|N.len.trans aa;have d3:box y3 (6,d)=V ⟨43,15,U,U,[am.c ⟨aNE,st,s,G⟩]⟩:=b3;have ad:∀{w:am},aN (V 15) w.c=V (.a w.c):=λ{w}=>rfl;have H:hU ⟨aNE,st,s,G⟩:=⟨by show L aNE.bC<_;decide,λq hq=>by have:=m.2.2.2.2.2.2.1 q hq;omega,λe he=>⟨by have:=(W e he).1;omega,by have:=(W e he).2;omega⟩,by show L s.bU<_;rw[m.2.2.2.2.1];decide⟩;simp only[qz 18,qy 24,eQ,d3,ad,ip,aWo,ar,rr];refine⟨H,λbx=>?_,λa0=>?_⟩;refine⟨by simp[lo,nA],by simp[lo,nA],?_⟩;refine jH rfl (aXI (w:=aNE) aX (by decide) (by decide) (by decide)<|by decide) ?_;rintro _ y4 ⟨a1,v,A,B,C,D,rfl,S,F4⟩;refine⟨F4.len,?_⟩;have al:bM aOQ aP0 [(0, .a aNE.c),(2, .a [a1,iv<|-1,v,A,B,C,D])]=V (.a<|aNE.c++(iv 0::([a1,iv<|-1,v,A,B,C,D]++[.l [] U U]))):=rfl;have ba:aN (V 15) (aNE.c++(iv 0::([a1,iv<|-1,v,A,B,C,D]++[.l [] U U])))=V (.a<|aNE.c++(iv 0::([a1,iv<|-1,v,A,B,C,D]++[.l [] U U]))):=rfl;simp only[qz 20,qy 22,al,aY];refine stW (F4.kq P) rfl rfl λy5 F5 E=>?_;have t:=S.keep F5 (by simp);simp only[eQ,E,ba,ip];have hf:(aNE.c++(iv 0::([a1,iv<|-1,v,A,B,C,D]++[.l [] U U]))).map (fz y5)=w00.c:=(by simp only[dg,ji,mU,aBr t.g1,aBr t.g2,aBr t.g3,aBr t.g4,aBr t.g5,aBr t.g6];rfl);refine aOv (v':= .a w00.c) (brD AV.a hf) (aWb _) ?_;rw[<-hQ];exact⟨w00,rfl,bfG,bfF, .inr rfl⟩;refine stW P rfl rfl λy5 F5 E=>?_;simp only[eQ,E,ad];refine aOv (v':= .a<|am.c ⟨aNE,st,s,G⟩) rfl (aWb _) ?_;rw[<-hQ];exact⟨_,rfl,by simpa using a0,H,by have:=an.2;show(L G:Int)<=n\/L G=0;omega⟩;have Z:k<L s.count:=(by simp_all);simp only[qz 49,aI,au,av4,aY,q1,↓iC,amX,ci,qM,aNI i,l6 i,cS];refine⟨dJ Z,?_⟩;refine stC i rfl (by simp[pz.c,I5.c]) λy2 F2 b2=>?_;simp only[qz 14,au,cS,aY];exact yU Z ⟨⟨_,b2⟩,(M.trans F2).mono<|by simp⟩
def aSj:FT:=pn aXE
def bcl:=rQ aSj aXE (j:=by simp+contextual only[ij,aQZ])
def a7J:dO:=(21,aSj)::a7I
def aX7:eJ a7J:=vl (aN0 aXE)<|a7s
def aQW:=ai @bcl<|@aWo
section
attribute[local irreducible] aX
def a9Q:=kW 20 [(10,([5],[1,4]))]
def aSG a b R:=(.mk _:NR a7J a9Q Tryz.f61 [.u] [a] b R).p
def bhp{c0:dM}{R:cC}(l0:L c0=7)(h:H1 75 7 1 c0 λia b=>aSG ia b R):Ct 61 [.a c0] R:=z1 a9Q aX7 func61 l0 h
def aVy a a1 b R:=(.mk _:NR a7J aua Tryz.f62 [.u,a1] [a] b R).p
def bhs{c0:dM}{a1:AV}{R:cC}(l0:L c0=7)(h:H1 75 7 2 c0 λia b=>aVy ia a1 b R):Ct 62 [.a c0,a1] R:=z1 aua aX7 func62 l0 h
end
def a6N{Y w}(h:L Y=4096)(d:L w.cells<=1000)(e:L w.ak<=100)(f:L w.bU<=100)(g:L w.ay<=100):∃r b,(r= .a (aH6 w).c/\Fx Y b [])/\cZ aS GG 57 [.a w.c] Y r b:=by refine aQR (aXI h d e f g) ?_;rintro _ b ⟨a1,j,k,l,m,n,rfl,S,F⟩;refine⟨?_,(F.trans<|aOp _ _).mono λq i=> .inr (S.ids q i).1.no⟩;show AV.a (List.map gK<|List.map (gi b) _)=_;rw[vA];exact brD AV.a S.lz
def bfk{w}(h:mQ w=U):vH 0 (aH6 w):=by obtain⟨d,e,f,g,i,j⟩:=aP4 h;refine⟨⟨by simp[aH6];omega,by simp[aH6];omega,by simp[aH6,qZ];omega,λl b=>?_⟩,by simp[aH6];omega,by simp[aH6];omega,by simp[aH6];omega,λc a=>?_⟩;rw[aXY b];simp;rw[aXY a];simp
def aTz{w l}(h:mQ w=U):∀k,k<=90000->vH k (vq w l k)|0,_=>bfk h|k+1,a=>(aTz h k<|by omega).step (by omega)
theorem bcA{ds}{s:I5}(h:Lk ds s.c)(Y):fzT Y (.a ds)= .a s.c:=by have b:=h.fd Y;have d:ds.map (fz Y)=(ds.map<|dQ Y).map gK:=(by rw[vA];rfl);show AV.a (ds.map<|fz Y)=_;rw[d,b,h.1]
theorem aR0{ds}{s:I5}(h:Lk ds s.c):aN (V 7) ds=V (.a ds):=Bi<|oC h
theorem ba9(s:I5):iX (.a s.c)=U:=by simp[iX,eN,I5.c,sl]
def aYr(w:pz)(l:List aP)(k:Nat):Prop:=∀j,j<k->bhO w (vq w l j) (gd l j)=U/\(∀n∈(gd l j).dI,aOE l j (gd l j).aq n)/\∀n∈(gd l j).ep,aOE l j (gd l j).aq n
def aXx(t:bim)(hp:L t.ac<1000000/\∀e∈t.ac,EvL e):Ct 61 [.a t.c] (λr=>∃i e:Int,r= .t [iv i,iv e]/\(e=0->aN4 t.aQ t.ac)):=by obtain⟨N,ak⟩:=hp;generalize hQ:(λ(r:AV)=>∃i e:Int,r= .t [iv i,iv e]/\(e=0->aN4 t.aQ t.ac))=Qq;refine aDq (bhp rfl λs2 hl b h0=>?_);show aSG (.p (1,1) 0 0) s2 λr=>Qq<|bmL r;have aW:∀{i e:Int},(e=0->aN4 t.aQ t.ac)->Qq (bmL<|.t [iv i,iv e]):=λ{i e} h=>(by rw[<-hQ];exact⟨i,e,rfl,h⟩);have aw:∀{y:ae} {i e:Int},(e=0->aN4 t.aQ t.ac)->aE (λr=>Qq<|bmL r) y [iv i,iv e]:=λ{y i e} h=>aOH (vs':=[iv i,iv e]) rfl rfl (by rw[<-hQ];exact⟨i,e,rfl,h⟩);have lE:∀{y:ae},box y (1,1)=V ⟨75,7,U,U,[t.c]⟩->Iy J y (.p (1,1) 0 6)=V (sl aP.c t.ac):=λ{y} h=>(by rw[aC5,h];rfl);have lW:∀{y:ae},box y (1,1)=V ⟨75,7,U,U,[t.c]⟩->Iy (V 6) y (.p (1,1) 0 0)=V (.a t.aQ.c):=λ{y} h=>(by rw[aC5,h];rfl);have g:∀{y:ae},fS y (sl aP.c t.ac)=V (iv<|L t.ac):=cT;rcases q0:Q ((400:Int)<(L t.ac:Int)) with _|_;rotate_left;simp only[aSG,aNI b,lE b,g,av1,aY,q0,↓iC];simp_all;have an:L t.ac<=400:=(by grind);simp only[aSG,aNI b,lE b,lW b,g,av1,aY,q0,↓iB,aQW,ar,rr,aIN];rcases hv:mQ t.aQ with _|_;simp only[kN,iC];simp_all;obtain⟨z1,z2,z3,z4,z5,z6⟩:=aP4 hv;simp only[fh,iB];refine jH rfl (a6N hl (by omega) (by omega) (by omega)<|by omega) ?_;rintro _ a4 ⟨rfl,m⟩;refine⟨m.len,?_⟩;have w:=m.len.trans hl;have S:=m.kq b;simp only[qz 4,qy 6,qy 8];refine I7 w λv4 a5 G N4 b4=>?_;refine stW b4 rfl rfl λa6 H c4=>?_;have T:=H.kq<|G.kq S;have X:=H.len.trans<|G.len.trans w;refine yV (L t.ac) (λk _ y=>box y (1,1)=V ⟨75,7,U,U,[t.c]⟩/\(∃ds,box y (4,v4)=V ⟨40,7,U,U,[ds]⟩/\Lk ds (vq t.aQ t.ac k).c)/\L y=4096/\aYr t.aQ t.ac k) ⟨T,⟨_,c4,aXL _⟩,X,λj d=>aRI d<|Nat.not_lt_zero _⟩ ?_;rintro k _ y hk ⟨q,⟨ds,d4,E⟩,O,D⟩;rcases q1:Q ((k:Int)<(L t.ac:Int)) with _|_;simp only[qz 61,qy 10,aI,au,aNI q,lE q,g,av4,aY,q1,↓iB];have al:k=L t.ac:=(by grind);subst al;exact aw λ_=>⟨hv,an,λj d=>(D j d).1,λj d=>(D j d).2.1,λj d=>(D j d).2.2⟩;have x:k<L t.ac:=(by simp_all);have P:∀{e:aP},aN (V 7) e.c=V (.a e.c):=rfl;simp only[qz 61,qy 10,aI,au,aNI q,lE q,g,av4,aY,q1,↓iC,aCh,aC6,P,bh];refine⟨dJ x,?_⟩;have u:=ak _<|dB x;generalize he:gd t.ac k=e at u;refine I7 O λA y1 R N6 c6=>?_;refine stW c6 rfl rfl λy2 G2 K=>?_;have s:=G2.kq<|R.kq q;have M:=G2.kq<|R.kq d4;have z:=G2.len.trans<|R.len.trans O;have ad:=λ{Y}=>E.arg Y;obtain⟨p2,p3,p4,p5,p6,p7,p8⟩:=(aTz (l:=t.ac) hv k<|by omega).snB (by omega);simp only[qz 12,qy 14,aNI s,lW s,eQ,M,K,aR0 E,P,ip,aQW,ar,ad];refine⟨⟨by omega,p2,p3,p4,p5,p6,p7,p8,by have:=u.1;omega,by have:=u.2;omega⟩,?_⟩;rintro _ ⟨cs,rfl,v⟩;refine⟨.inl (by simp[nA,x9 E];simp[eB,iR,aP.c,pz.c,sl]),?_⟩;simp only[oJ,pG,aY];refine I7 z λv7 y3 B N7 c7=>?_;refine stW c7 rfl (oC v) λF C af=>?_;have f:=C.kq<|B.kq s;have ag:=C.kq<|B.kq M;have o:=C.kq<|B.kq K;have Z:=C.len.trans<|B.len.trans z;have g0:∀{j:Nat},iQ j F (.p (6,A) 0 0)=V (.p (6,A) 0 j):=(by grind [rR]);have g1:Iy J F (.p (6,A) 0 0)=V (iv e.aq):=(by rw[aC5,o];rfl);have g5:Iy J F (.p (6,A) 0 5)=V (sl ci e.dI):=(by rw[aC5,o];rfl);have g6:Iy J F (.p (6,A) 0 6)=V (sl ci e.ep):=(by rw[aC5,o];rfl);rcases a1:bhO t.aQ (vq t.aQ t.ac k) e with _|_;simp only[qz 16,au,aIN,u0,↓jN,aRV,bt];simp_all;simp only[qz 16,au,aIN,u0,↓jA,bcW,aNI f,lE f,g0,g1,g5,aQW,ar,rr];have a0:∀(b W:Bool),(b=U->∀n∈e.dI,aOE t.ac k e.aq n)->(W=U->∀n∈e.ep,aOE t.ac k e.aq n)->b=U->W=U->aYr t.aQ t.ac (k+1):=λb W h1 h2 h3 h4 j d=>(by rcases Nat.lt_succ_iff_lt_or_eq.1 d with h|rfl;exact D j h;simp_all);refine⟨⟨by omega,N,by have:=u.1;omega⟩,?_⟩;rintro _ ⟨r1,rfl,a2⟩;refine⟨.inl (by simp[nA,eB,iR,sl]),?_⟩;cases r1 with|false=>simp only[aIN,aY,aMZ,kN,fh,aBA,jN,aRV,iC];simp_all|true=>simp only[aIN,aY,aMZ,kN,fh,aBA,jA,lE f,g1,g6,aQW,ar];refine⟨⟨by omega,N,by have:=u.2;omega⟩,?_⟩;rintro _ ⟨r2,rfl,a3⟩;refine⟨.inl (by simp[nA,eB,iR,sl]),?_⟩;cases r2 with|false=>simp only[aIN,aY,kN,bcW,iC];simp_all|true=>simp only[aIN,aY,fh,bcW,iB,u1,af,aR0 v,ip];refine stW ag (oC E) (oC v) λy5 G5 c5=>?_;simp only[qz 18,au,cS,aY];refine yU x ⟨G5.kq f,⟨cs,c5,?_⟩,G5.len.trans Z,by simp_all⟩;grind [vq]
def aUo:FT:=om aXx
def bcf:=aUy aUo aXx (j:=by simp+contextual only[ij,ijv])
def aXA(t:bim)(n:Nat)(hp:aN4 t.aQ t.ac/\n<=L t.ac/\∀e∈t.ac,EvL e):Ct 62 [.a t.c,iv n] (·= .a (vq t.aQ t.ac n).c):=by obtain⟨B,hn,C⟩:=hp;have K:=B.wv;have aq:=B.ln;obtain⟨z1,z2,z3,z4,z5,z6⟩:=aP4 K;refine aDq (bhs rfl λs2 E S h0=>?_);show aVy (.p (2,1) 0 0) (iv n) s2 λr=>bmL r= .a (vq t.aQ t.ac n).c;have lE:∀{y:ae},box y (2,1)=V ⟨75,7,U,U,[t.c]⟩->Iy J y (.p (2,1) 0 6)=V (sl aP.c t.ac):=λ{y} h=>(by rw[aC5,h];rfl);have M:∀{y:ae},box y (2,1)=V ⟨75,7,U,U,[t.c]⟩->Iy (V 6) y (.p (2,1) 0 0)=V (.a t.aQ.c):=λ{y} h=>(by rw[aC5,h];rfl);simp only[aVy];refine I7 E λv4 R v N4 W=>?_;have i:=v.len.trans E;have d:=v.kq S;simp only[qz 4,aNI d,M d,aY];refine jH rfl (a6N i (by omega) (by omega) (by omega)<|by omega) ?_;rintro _ s8 ⟨rfl,j⟩;refine⟨j.len,?_⟩;have G:=j.len.trans i;simp only[qz 6,qy 8,qy 10];refine I7 G λg av q N9 X=>?_;refine stW X rfl rfl λP s c9=>?_;have w:Fx R P [(5,g)]:=(j.trans q).trans s;refine yV n (λk _ y=>Fx R y [(5,g)]/\∃ds,box y (5,g)=V ⟨40,7,U,U,[ds]⟩/\Lk ds (vq t.aQ t.ac k).c) ⟨w,_,c9,aXL _⟩ ?_;rintro k _ y hk ⟨F,ds,z,b⟩;have m:=F.kq d;have d4:=F.kq W;have O:∀{e:aP},aN (V 7) e.c=V (.a e.c):=rfl;rcases N:Q ((k:Int)<(n:Int)) with _|_;have D:k=n:=(by grind);subst D;simp only[qz 25,qy 14,au,av4,aY,N,↓iB,u1,z,aR0 b,aj,ip];refine stW d4 rfl (oC b) λy2 u T=>?_;simp only[eQ,T,aR0 b];grind [aQ7,bcA,ba9];have H:k<n:=(by simp_all);have f:k<L t.ac:=(by omega);have x:=λ{Y}=>b.arg Y;obtain⟨p2,p3,p4,p5,p6,p7,p8⟩:=(aTz (l:=t.ac) K k<|by omega).snB (by omega);have o:=C _<|dB f;have l9:Iy (V 7) y (.p (5,g) 0 0)=V (.a ds):=(by grind [aC5,aR0]);simp only[qz 25,qy 14,aI,au,av4,aY,N,↓iC,aNI m,M m,lE m,l9,aCh,aC6,O,bh];refine⟨dJ f,?_⟩;generalize he:gd t.ac k=e at o;simp only[aQW,ar,x];refine⟨⟨by omega,p2,p3,p4,p5,p6,p7,p8,by have:=o.1;omega,by have:=o.2;omega⟩,?_⟩;rintro _ ⟨cs,rfl,A⟩;refine⟨.inl (by simp[nA,x9 b];simp[eB,iR,aP.c,pz.c,sl]),?_⟩;simp only[oJ,pG,aY];refine stW z (oC b) (oC A) λy2 u Z=>?_;simp only[qz 12];refine dT (by simp[eL,lb,Qh,zt,dC,dK]) ?_;simp only[au,cS,aY];refine yU H ⟨(F.trans u).mono (by simp),cs,Z,?_⟩;grind [vq]
def aUq:FT:=aIc aXA
def bci:=gX aUq aXA (j:=by simp+contextual only[ij,ijv,Int.natCast_inj])
def a7K:dO:=(61,aUo)::(62,aUq)::a7J
def a7t:eJ a7K:=vl (rj aXx)<|vl (aCb aXA)<|aX7
def aWp:=ai @bcf<|ai @bci<|@aQW
section
attribute[local irreducible] aX
def a9T:=kW 16 [(11,([8,9],[1,2]))]
def aVw a a1 b R:=(.mk _:NR a7K a9T Tryz.f23 [.u,a1] [a] b R).p
def bhr{c0:dM}{a1:AV}{R:cC}(l0:L c0=7)(h:H1 75 7 2 c0 λia b=>aVw ia a1 b R):Ct 23 [.a c0,a1] R:=z1 a9T a7t func23 l0 h
end
def aV1(n:Int)(l:List am):Prop:=∀w∈l,(bdZ w=U/\hU w)/\(L w.ac:Int)<=n
def bhH{t:bim}(a:aN4 t.aQ t.ac)(d:∀e∈t.ac,EvL e){i j:Nat}(g:i<=L t.ac)(k:j<=i+16):bdZ ⟨t.aQ,i,vq t.aQ t.ac i,(t.ac.take j).drop i⟩=U/\hU ⟨t.aQ,i,vq t.aQ t.ac i,(t.ac.take j).drop i⟩:=by obtain⟨z1,z2,z3,m,n,o⟩:=aP4 a.wv;have c:=aTz (l:=t.ac) a.wv i (by have:=a.ln;omega);rw[List.drop_take];refine⟨bhG a g (by omega),by grind,λl h=>?_,λe f=>?_,?_⟩;have:=c.sy.rd l h;have:=a.ln;omega;have b:=d e<|List.mem_of_mem_drop<|List.mem_of_mem_take f;exact⟨by have:=b.1;omega,by have:=b.2;omega⟩;have:=c.fu;show L (vq t.aQ t.ac i).bU<_;omega
def spM(vs:dM)(y:ae):Nat:=(1000-(match gt vs 1 with| .s (.int _ n)=>n|_=>0)).toNat
def aXz(t:bim)(n:Int)(Z:L t.ac<1000000/\∀e∈t.ac,EvL e):Ct 23 [.a t.c,iv n] (λr=>∃(l:List am) (e:Int),r= .t [sl am.c l,iv e]/\aV1 n l):=by obtain⟨H,u⟩:=Z;generalize D:(λ(r:AV)=>∃(l:List am) (e:Int),r= .t [sl am.c l,iv e]/\aV1 n l)=Qq;refine aDq (bhr rfl λs2 X B h0=>?_);show aVw (.p (2,1) 0 0) (iv n) s2 λr=>Qq<|bmL r;have P:∀{y:ae},box y (2,1)=V ⟨75,7,U,U,[t.c]⟩->Iy (V 7) y (.p (2,1) 0 0)=V (.a t.c):=λ{y} h=>(by rw[aC5,h];rfl);have lE:∀{y:ae},box y (2,1)=V ⟨75,7,U,U,[t.c]⟩->Iy J y (.p (2,1) 0 6)=V (sl aP.c t.ac):=λ{y} h=>(by rw[aC5,h];rfl);have lW:∀{y:ae},box y (2,1)=V ⟨75,7,U,U,[t.c]⟩->Iy (V 6) y (.p (2,1) 0 0)=V (.a t.aQ.c):=λ{y} h=>(by rw[aC5,h];rfl);have z:∀{y:ae},fS y (sl aP.c t.ac)=V (iv<|L t.ac):=cT;have d:∀{y:ae} {e:Int},aE (λr=>Qq<|bmL r) y [.l [] U U,iv e]:=λ{y e}=>aOH (vs':=[sl am.c [],iv e]) rfl rfl (by rw[<-D];exact⟨[],e,rfl,by intro w o;simp at o⟩);simp only[aVw,P B,aY,aWp,ar,Fa];refine⟨⟨H,u⟩,?_⟩;rintro _ ⟨i0,e0,rfl,s⟩;refine⟨.inl (by simp[nA,eB,iR,bim.c,pz.c,sl]),?_⟩;simp only[oJ,pG,aY,av6];rcases q0:Q (e0≠0) with _|_;rotate_left;simp only[iC];exact d;have s:=s (by grind);have al:=s.ln;simp only[iB];rcases A:Q (n<1) with _|_;rotate_left;simp only[eQ,A,↓jN,aRV,bt];exact d;rcases R:Q (16<n) with _|_;rotate_left;simp only[eQ,A,R,↓jA,bt];exact d;have h1:1<=n:=(by simp_all);have ag:n<=16:=(by simp_all);simp only[eQ,A,R,↓jA,bt];let b:aG:=λvs y=>∃(out:AV) (f:List am) (i:Nat),vs=[out,iv i]/\i<=500/\L f<=i/\aV1 n f/\sA y 43 15 out (f.map am.c)/\(∀q∈aA out,q.1=51)/\box y (2,1)=V ⟨75,7,U,U,[t.c]⟩/\L y=4096;refine⟨b,spM,⟨_,[],0,rfl,by omega,by simp,by intro w o;simp at o, .inl ⟨rfl,rfl⟩,by simp[aA],B,X⟩,?_⟩;rintro _ y ⟨out,f,i,rfl,hi,an,E,g,po,k,v⟩;generalize hI:b=I';rcases S:Q ((i:Int)<(L t.ac:Int)) with _|_;simp only[qz 67,qy 4,aI,au,ck,aNI k,lE k,z,av4,aY,S,↓iB];refine aOH (vs':=[sl am.c f,iv 0]) (by simp only[ji,mU,aWs g];rfl) (by simp[iX,eN,sl]) ?_;rw[<-D];exact⟨f,0,rfl,E⟩;have N:i<L t.ac:=(by simp_all);have C:dq.wrap ((i:Int)+n)=(i:Int)+n:=(by grind [eM]);obtain⟨m,rfl⟩:∃m:Nat,n=m:=⟨n.toNat,by omega⟩;obtain⟨j,K,M,ak⟩:∃j:Nat,(if(L t.ac:Int)<(i:Int)+m then(L t.ac:Int) else(i:Int)+m)=j/\j<=i+16/\i<=j/\j<=L t.ac:=(by split;grind;exact⟨i+m,by omega,by omega,by omega,by omega⟩);have o:=bhH s u (Nat.le_of_lt N) M;have F:bM aOQ aP0 [(0, .a t.aQ.c),(1,iv i),(2, .a (vq t.aQ t.ac i).c),(3,sl aP.c<|(t.ac.take j).drop i)]=V (.a<|am.c ⟨t.aQ,i,vq t.aQ t.ac i,(t.ac.take j).drop i⟩):=rfl;simp only[qz 67,qy 4,aI,au,ck,aNI k,lE k,lW k,P k,z,av4,cS,aY,S,↓iC,aWp,ar,Fa,C,aXT,K,slE];refine⟨(by grind), .inl (by simp[nA,eB,iR,bim.c,pz.c,sl]),(by omega),?_⟩;simp only[bh,F,aY];have x:(L (am.mk t.aQ i (vq t.aQ t.ac i)<|(t.ac.take j).drop i).ac:Int)<=m:=(by have:j<=i+m:=(by omega);show(L ((t.ac.take j).drop i):Int)<=m;rw[oz,gC];omega);generalize ah:(am.mk t.aQ i (vq t.aQ t.ac i)<|(t.ac.take j).drop i)=W at o x;have G:aX a72 1 y [(0, .a W.c)]=V (.l ([W].map am.c) U U,y):=ua rfl rfl rfl (by decide) (by simp[am.c,eN,sl]) (by decide);have aEx:∀{l:List am},∀r∈l.map am.c,L r=15:=qW (by intro _;rfl);simp only[G,bQ];refine apQ g v aEx aEx (by simp) (by simp;omega) λout' y2 g2 T p2=>?_;simp only[qz 6];refine dT (by simp[eL,lb]) ?_;simp only[ck,cS,aY,C];rw[<-hI];refine⟨⟨out',f++[W],i+m,by simp,by omega,by simp;omega,λw O=>?_,by grind [bc.p],λq hq=>(p2 q hq).2,(by grind [Fx.keep]),T.len.trans v⟩,?_⟩;rcases dF.1 O with h|h;exact E w h;simp at h;subst h;exact⟨o,x⟩;show(1000-((i:Int)+m)).toNat<(1000-(i:Int)).toNat;omega
def aUp:FT:=pn aXz
def bch:=rQ aUp aXz (j:=by simp+contextual only[ij,ijv])
def a7L:dO:=(23,aUp)::a7K
def a7u:eJ a7L:=vl (aN0 aXz)<|a7t
def aWq:=ai @bch<|@aWp
section
attribute[local irreducible] aX
def bgh{a a1}:=y0 a7u func22 aur [a,a1]
end
def aWK(p)(s)(z:(∀x∈p,0<=x/\x<256)/\L p<4611686018427387904/\L s<=100):Ct 22 [sl cu p,sl cu s] (λr=>∃t:bim,r= .a t.c/\L t.ac<=100/\∀e∈t.ac,EvL e):=by obtain⟨v,w,S⟩:=z;generalize T:(λ(r:AV)=>∃t:bim,r= .a t.c/\L t.ac<=100/\∀e∈t.ac,EvL e)=Qq;refine aDq (bgh λs0 k R=>?_);refine I7 k λZ W l O m=>?_;have g:=l.len.trans k;simp only[qz 2,qy 4,aWq,ar];refine⟨⟨v,w⟩,?_⟩;rintro _ ⟨c,rfl,y⟩;refine⟨.inl (by simp[nA,eB,iR,sl]),?_⟩;simp only[Fa];refine⟨by omega,?_⟩;rintro _ ⟨cs,rfl,D⟩;refine⟨.inl (by simp[nA,eB,iR,sl]),?_⟩;simp only[aWq,ar];refine⟨⟨y,by omega⟩,?_⟩;rintro _ ⟨t,st,rfl,E,F⟩;refine⟨.inl (by simp[nA,eB,iR,sl,aOw.c,pz.c]),?_⟩;simp only[oJ,pG,aY];refine I7 g λv8 X h P n=>?_;refine I7 (h.len.trans g) λN G b B i=>?_;simp only[qz 6,qy 8];refine stW (b.kq n) rfl rfl λH d o=>?_;refine stW (d.kq i) rfl rfl λK f C=>?_;have j:=f.kq o;have q:=f.kq<|d.kq<|b.kq<|h.kq m;have rt:aN (V 7) t.c=V (.a t.c):=rfl;simp only[qz 10,qy 12,eQ,j,rt,ip];refine stW q rfl rfl λM A u=>?_;simp only[eQ,u,rt];refine aOv (v':= .a t.c) rfl (by simp[iX,eN,bim.c,pz.c,sl]) ?_;grind
def aTW:FT:=pn aWK
def bbs:=rQ aTW aWK (j:=by simp+contextual only[ij,aQZ])
def a7M:dO:=(22,aTW)::a7L
def a7v:eJ a7M:=vl (aN0 aWK)<|a7u
def aRP:=ai @bbs<|@aWq
section
attribute[local irreducible] aX
def a9W:=kW 10 []
def aVB a a1 b R:=(.mk _:NR a7M a9W Tryz.f7 [.u,a1] [a] b R).p
def bhu{c0:dM}{a1:AV}{R:cC}(l0:L c0=5)(h:H1 24 5 2 c0 λia b=>aVB ia a1 b R):Ct 7 [.a c0,a1] R:=z1 a9W a7v func7 l0 h
end
structure aOA where
 p:d0
 s:d0
 c:d0
 z:Int
 w:Int
 deriving Inhabited
def aOA.cs(v:aOA):dM:=[sl cu v.p,sl cu v.s,sl cu v.c, .s<|.int .u8 v.z, .s<|.int .u8 v.w]
def ByL(l:d0):Prop:=(∀x∈l,0<=x/\x<256)/\L l<4611686018427387904
structure aSr(v:aOA):Prop where
 p:ByL v.p
 s:ByL v.s
 c:ByL v.c
 z:0<=v.z/\v.z<256
 w:0<=v.w/\v.w<256
def bcQ{v v':aOA}:(v.cs=v'.cs)=(v=v'):=by(cases v;cases v');simp only[aOA.cs,kO,aQZ,AV.s.injEq,Value.int.injEq,aOA.mk.injEq,aNG,aO5]
def aYl{w:am}:aN (V 15) w.c=V (.a w.c):=rfl
def aXD(v)(n:Int)(hp:aSr v/\1<=n/\n<=16):Ct 7 [.a v.cs,iv n] (λr=>∃w:am,r= .a w.c/\bdZ w=U/\hU w/\(L w.ac:Int)<=n):=by obtain⟨B,aN,az⟩:=hp;generalize hQ:(λ(r:AV)=>∃w:am,r= .a w.c/\bdZ w=U/\hU w/\(L w.ac:Int)<=n)=Qq;refine aDq (bhu rfl λs2 hl b1 h0=>?_);show aVB (.p (2,1) 0 0) (iv n) s2 λr=>Qq<|bmL r;simp only[aVB];refine I7 hl λM s4 N N4 R=>?_;have ab:=N.len.trans hl;have d:=N.kq b1;have l0:∀{y:ae},box y (2,1)=V ⟨24,5,U,U,[v.cs]⟩->Iy J y (.p (2,1) 0 0)=V (sl cu v.p):=λ{y} h=>(by rw[aC5,h];rfl);have l1:∀{y:ae},box y (2,1)=V ⟨24,5,U,U,[v.cs]⟩->Iy J y (.p (2,1) 0 1)=V (sl cu v.s):=λ{y} h=>(by rw[aC5,h];rfl);have l2:∀{y:ae},box y (2,1)=V ⟨24,5,U,U,[v.cs]⟩->Iy J y (.p (2,1) 0 2)=V (sl cu v.c):=λ{y} h=>(by rw[aC5,h];rfl);have H:∀{y:ae},box y (2,1)=V ⟨24,5,U,U,[v.cs]⟩->Iy J y (.p (2,1) 0 3)=V (.s<|.int .u8 v.z):=λ{y} h=>(by rw[aC5,h];rfl);have l4:∀{y:ae},box y (2,1)=V ⟨24,5,U,U,[v.cs]⟩->Iy J y (.p (2,1) 0 4)=V (.s<|.int .u8 v.w):=λ{y} h=>(by rw[aC5,h];rfl);have hz:=B.z;have hw:=B.w;have X:dq.wrap v.z=v.z:=(by grind [eM]);have W:dq.wrap v.w=v.w:=(by grind [eM]);have aL:=Int.tmod_nonneg n hz.1;have aM:=Int.tmod_lt_of_pos v.z (show 0<n by omega);have T:dq.wrap (1+v.z.tmod n)=1+v.z.tmod n:=(by grind [eM]);have O:∀{Y:ae},dG Y (.l [] U U)=sl cu []:=rfl;have o:∀{y:ae} {w:am},bdZ w=U->hU w->(L w.ac:Int)<=n->box y (4,M)=V ⟨43,15,U,U,[aOQ]⟩->sV (aK 15 y (.p (4,M) 0 0)<|.a w.c) λE=>rV (Iy (V 15) E<|.p (4,M) 0 0) λao=>aE (λr=>Qq<|bmL r) E [ao]:=λ{y w} u A G hb=>(by refine stW hb rfl rfl λz F b=>?_;simp only[eQ,b,aYl,ip];refine aOv (v':= .a w.c) rfl (aWb _) ?_;rw[<-hQ];exact⟨w,rfl,u,A,G⟩);rcases q0:Q ((0:Int)<(L v.c:Int)) with _|_;rotate_left;simp only[qz 4,qy 6,qy 8,aNI d,l2 d,H d,a6S,av1,aY,q0,↓iC,aS6,X,aPR,aP1,cS,T,aRP,ar];refine⟨by omega,B.c,?_⟩;rintro _ ⟨w,rfl,u,A,G⟩;exact⟨.inl (by simp[nA,eB,iR,sl]),o u A (by omega) R⟩;simp only[qz 4,qy 6,qy 8,aNI d,l0 d,l1 d,l2 d,H d,a6S,av1,aY,q0,↓iB,aXT];rw[aIk (z:=1) (f:=cu) λ_=>rfl];refine⟨(by omega),?_⟩;generalize hk:(if(80:Int)<(L v.s:Int) then(80:Int) else(L v.s:Int))=k;have ay:k<=80:=(by omega);simp only[aRP,ar];refine⟨⟨B.p.1,B.p.2,by grind⟩,?_⟩;rintro _ ⟨t,rfl,aO,ag⟩;refine⟨.inl (by simp[nA,eB,iR,sl]),?_⟩;refine I7 ab λap aP C aJ P=>?_;refine stW P rfl rfl λan D S=>?_;have i:=D.kq<|C.kq d;have m:=D.kq<|C.kq R;have lt:Iy (V 7) an (.p (5,ap) 0 0)=V (.a t.c):=(by rw[aC5,S];rfl);simp only[qz 10,qy 12,qy 14];refine dT (by simp[eL,lb,Qh,zt,dC,dK,sl]) ?_;simp only[aNI i,H i,l4 i,lt,aY,aS6,X,W,aPR,aP1,cS,T,aRP,ar,Fa];refine⟨by omega,⟨by omega,ag⟩,?_⟩;rintro _ ⟨g,e,rfl,hW⟩;refine⟨.inl (by simp[nA,eB,iR,bim.c,pz.c,sl]),?_⟩;have ak:∀{y:ae},fS y (sl am.c g)=V (iv<|L g):=cT;simp only[oJ,pG,aY,ak,iM];rcases q1:Q ((L g:Int)=0) with _|_;rotate_left;simp only[iC,aRP,O];refine⟨⟨by simp,by simp⟩,?_⟩;rintro _ ⟨w,rfl,u,A,G⟩;exact⟨.inl (by simp[nA,eB,iR]),o u A (by omega) m⟩;have h0:0<L g:=(by grind);have ad:=Int.tmod_nonneg (L g:Int) hw.1;have af:=Int.tmod_lt_of_pos v.w (show(0:Int)<L g by omega);have Z:∀{x:ae} {j:Int} {K:cC},rV (cz 15 x (sl am.c g)<|iv j) K=(aF (L g) j/\K (.q<|am.c<|gd g j.toNat)):=aBz λ_=>rfl;simp only[iB,aPR,aP1,Z,aC6,aYl,aY];have h:=hW _ (dB<|show(v.w.tmod (L g:Int)).toNat<L g by omega);exact⟨by omega,⟨ad,af⟩,o h.1.1 h.1.2 (by have:=h.2;omega) m⟩
def aUs:FT:=pn aXD
def bck:=rQ aUs aXD (j:=by simp+contextual only[ij,bcQ])
def a7N:dO:=(7,aUs)::a7M
def aX8:eJ a7N:=vl (aN0 aXD)<|a7v
def a6u:=ai @bck<|@aRP
def bn4:=kW 14 [(1,([2],[1,3])),(8,([2,7],[1,3])),(11,([2],[1,3,7]))]
def bqh{c0 a1 b}:=yB1 43 15 3 aX8 func25 bn4 c0 [.a c0,a1,b]
def bqi{c0 a1 b}:=yB2 43 15 3 49 6 5 aX8 func24 auF c0 b [.a c0,a1, .a b]
def r15{w:am}:aN (V 15) w.c=V (.a w.c):=rfl
def bnm{l:List cJ}:∀r∈l.map cJ.c,L r=6:=by intro r a;obtain⟨y,_,rfl⟩:=dN.1 a;rfl
def a7h(g:cJ)(f o:Bool):dM:=[iv g.kind,iv g.ea,iv g.eb,iv g.ec,iv g.ed, .l (g.cW.map ci) f o]
def bpb{w g f o a i Y}(k:L Y=4096)(z:kB w)(B:L g.cW<1000)(x:sA Y 49 6 a<|i.map cJ.c)(F:L i<1000000):∃r e,(sA e 49 6 r ((i++if qC w g then[g] else[]).map cJ.c)/\Fx Y e (aA a)/\∀q∈aA r,q∈aA a\/bK Y q/\q.1=13)/\cZ aS GG 24 [.a w.c,a, .a<|a7h g f o] Y r e:=by refine bqi k rfl rfl λb N O s G H K t u=>?_;have d:=s.fx [];have m:=d.len.trans k;have A:aN (V 6) (a7h g f o)=V (.a<|a7h g f o):=rfl;have arg:dG b (.a<|a7h g f o)= .a g.c:=rfl;have v:=x.fx d (by simp);have y:kB w/\L g.cW<4611686018427387904:=⟨z,by omega⟩;have j:aX bt4 1 b [(0, .a<|a7h g f o)]=V (.l [cJ.c g] U U,b):=aQm (Y:=b) (cs:=a7h g f o) (tgt:=g.c) rfl rfl (by decide) (by simp[cJ.c,eN,sl]) (by decide);simp only[qy 6,qy 8,eQ,t,u,r15,A,ar,arg,a6u,j];refine⟨y,λh=>?_,λh=>?_⟩;refine apQ v m bnm (by simp[cJ.c]) (by simp) (by simp;omega) λD M E n C=>?_;simp only[aNR,aoz];exact⟨by grind [bc.p],(d.trans n).mono (by simp_all),by grind [bK.old]⟩;simp only[aNR,aoz];grind [Fx.mono]
def cyB:Nat->Nat|0=>1|n+1=>1+16*cyB n
def CyL(w:am)(l:List<|d0):Prop:=∀c∈l,qC w (Ds c)=U
def bpC{l:List (d0)}:∀r∈l.map cl,L r=1:=by intro r a;obtain⟨y,_,rfl⟩:=dN.1 a;rfl
def bpa{w}(hw:kB w):∀(n:Nat) {p} {path:d0} {a out Y},L path+n=4->0<L path->(∀x∈path,aF (L w.ac) x)->L Y=4096->SlR Y 1 p (path.map ci)->(∀q∈aA p,q.1=54)->sA Y 38 1 a (out.map cl)->(∀q∈aA a,q.1=17)->CyL w out->L out+cyB n<1000000->
  ∃r Y1,(∃out',sA Y1 38 1 r (out'.map cl)/\(∀q∈aA r,q.1=17/\(q∈aA a\/bK Y q))/\Fx Y Y1 (aA a)/\CyL w out'/\L out'<=L out+cyB n)/\cZ aS GG 25 [.a w.c,p,a] Y r Y1:=by
 intro n
 induction n using Nat.strongRecOn with
 |ind n ih=>
 intro p path a out Y hn aZ aU H hp pp hG pa hC bi
 have aT:=hw.ev
 have bC:L path<=4:=by omega
 refine bqh H rfl λX v3 K2 lk nf b3=>?_
 have N:=K2.fx []
 have al:=N.len.trans H
 have D:=hp.fx N (by simp)
 have ga:=hG.fx N (by simp)
 have a2:∀{z:ae},SlR z 1 p (path.map ci)->lz z p=sl ci path:=λ{z} h=>by
  rcases h with⟨t,o,rfl⟩|⟨b,m,e,rfl,hb⟩
  ·rfl
  ·simp[lz,gi,hb,gK,sl]
 have av:∀{z:ae},SlR z 1 p (path.map ci)->dG z p=sl ci path:=λ{z} h=>by
  rcases h with⟨t,o,rfl⟩|⟨b,m,e,rfl,hb⟩
  ·rfl
  ·simp[dG,eR,gi,hb,nrm,gK,sl]
 have arg:dG X (.a [iv 2,iv 0,iv 0,iv 0,iv 0,p])= .a (Ds path).c:=by
  show AV.a [iv 2,iv 0,iv 0,iv 0,iv 0,lz X p]=_
  rw[a2 D];rfl
 have aQ:bM btk anY [(0,iv 2),(5,p)]=V (.a [iv 2,iv 0,iv 0,iv 0,iv 0,p]):=by
  rcases hp with⟨t,o,rfl⟩|⟨b,m,e,rfl,hb⟩<;>rfl
 have kp:zt p=[]\/zt p=[54]:=by
  rcases hp.keys (P:=λk=>k=54) pp with h|⟨k,h,rfl⟩
  ·exact .inl h
  grind
 have hV:kB w/\L (Ds path).cW<4611686018427387904:=⟨hw,by show L path<_;omega⟩
 have bq:=nf
 refine bpl (λd=>∀(y:ae) (C:AV) (out':List<|d0),Fx Y y (aA a)->box y (3,v3)=V ⟨43,15,U,U,[w.c]⟩->SlR y 1 p (path.map ci)->sA y 38 1 C (out'.map cl)->(∀q∈aA C,q.1=17/\(q∈aA a\/bK Y q))->CyL w out'->L out'<=L out+1->d [C] y) ?_ λd hJ=>?_
 ·intro y C out' F c3 D g ia aN bx
  have bB:=F.len.trans H
  simp only[qz 9,au,D.ln,bJ,eQ]
  refine⟨λh=>?_,λh=>?_⟩
  ·simp only[aNR,aoz]
   exact⟨out',g,ia,F,aN,by have:1<=cyB n:=(by cases n<;>simp[cyB]<;>omega);omega⟩
  ·obtain⟨m,rfl⟩:∃m,n=m+1:=⟨n-1,by grind⟩
   have ak:=aU _<|dB aZ
   obtain⟨e,he⟩:∃e:Nat,gd path 0=e:=⟨(gd path 0).toNat,by have:=ak.1;omega⟩
   have bw:e<L w.ac:=by have:=ak.2;omega
   show rV (cz 1 y p<|iv ((0:Nat):Int)) _
   refine SlR.ix1 D (i:=0) (c:=iv<|gd path 0) (by grind [bT]) λ_ _=>?_
   simp only[he,eQ]
   rw[fX<|by omega]
   refine AI (α:=AV) (λb i=>[b,iv i]) 1 (L w.ac) (e+1) (by omega) (λj b z=>∃v,Fx Y z (aA a)/\box z (3,v3)=V ⟨43,15,U,U,[w.c]⟩/\SlR z 1 p (path.map ci)/\sA z 38 1 b (v.map cl)/\(∀q∈aA b,q.1=17/\(q∈aA a\/bK Y q))/\CyL w v/\L v<=L out+1+j*cyB m) (s0:=C) (by grind) ?_
   rintro j b z hj ⟨v,R,z3,M,gb,ib,T,al⟩
   have aY:=R.len.trans H
   simp only[qz 49,au,eT,z3]
   refine⟨λh2=>?_,λh2=>?_⟩
   ·have aW:=aL h2
    have bt:j*cyB m<=(j+1)*cyB m:=(by grind)
    have bu:(j+1)*cyB m<=16*cyB m:=qo _ (by omega)
    have bv:cyB (m+1)=1+16*cyB m:=rfl
    generalize hI:yI (λ(b:AV) (i:Int)=>[b,iv i]) (L w.ac) (λj b z=>∃v,Fx Y z (aA a)/\box z (3,v3)=V ⟨43,15,U,U,[w.c]⟩/\SlR z 1 p (path.map ci)/\sA z 38 1 b (v.map cl)/\(∀q∈aA b,q.1=17/\(q∈aA a\/bK Y q))/\CyL w v/\L v<=L out+1+j*cyB m)=f
    refine biR (λd=>∀(K:ae) (S:AV) (o3:List<|d0),Fx Y K (aA a)->box K (3,v3)=V ⟨43,15,U,U,[w.c]⟩->SlR K 1 p (path.map ci)->sA K 38 1 S (o3.map cl)->(∀q∈aA S,q.1=17/\(q∈aA a\/bK Y q))->CyL w o3->L o3<=L out+1+(j+1)*cyB m->d [S] K) ?_ λd an=>?_
    ·intro K S o3 h1 h2 h3 h4 h5 h6 h7
     simp only[qz 69,au,eQ]
     rw[<-hI]
     exact dR (mk:=λ(a:AV) i=>[a,iv i]) (p:=1) (s:=b) (s':=S) (λ_ _=>rfl) (Y:=z) aW (by omega) (by grind)
    simp only[qz 71,qy 12,au,ar,av M,a6u,eQ]
    refine⟨by omega,?_⟩
    have G:=an z b v R z3 M gb ib T (by omega)
    rcases hM:Q ((j:Int)∈path) with _|_
    ·have ew:dq.wrap ((L path:Int)-1)=((L path-1:Nat):Int):=by grind [eM]
     have bz:L path-1<L path:=by omega
     simp only[jA,qE,eQ,M.ln,bJ,z3,r15,ew]
     refine SlR.ix1 M (i:=L path-1) (c:=iv<|gd path<|L path-1) (by grind [bT]) λ_ _=>?_
     simp only[ar,a6u,u0,uO,a7c]
     refine⟨(by grind [dJ,dB]),λbs=>?_,λ_=>G⟩
     simp only[nS,bQ]
     refine apV (bA:=[]) (e:=3) (z:=1) (new:=path.map ci) (.inl ⟨rfl,rfl⟩) M.ro rfl (by decide) (by omega) (by simp) fF (by simp;omega) λZ A g3 F3 P3=>?_
     have E:sA A 3 1 Z (path.map ci):=by grind
     have u:Fx z A []:=F3.mono (by simp[aA])
     have ah:∀q∈aA Z,bK z q/\q.1=51:=(by grind [aA])
     have aR:aX bH 1 A [(0,iv j)]=V (.l ([(j:Int)].map ci) U U,A):=iz
     have am:=u.len.trans aY
     simp only[qz 14,qy 16,ck,aR,bQ]
     refine apQ E am fF fF (by simp) (by simp;omega) λx2 s5 g5 B P5=>?_
     have a3:∀{q:Id},q.1≠51->q∉aA Z:=(by grind)
     have aK:=(gb.fx u<|by simp).fx B (by grind)
     have a6:=(M.fx u<|by simp).fx B (by grind)
     have a5:=B.keep _ _ (a3<|by simp)<|u.kq z3
     have aV:=B.len.trans am
     have aE:=(R.trans<|u.trans B).mono λq W=>by
      simp only[List.nil_append,dF] at W
      rcases W with h|h
      ·exact .inl h
      ·exact .inr ((ah q h).1.old R).no
     simp only[qz 18,au]
     refine jH rfl (ih m (by omega) (p:=x2) (path:=path++[(j:Int)]) (a:=b) (out:=v) (by simp;omega) (by simp) (λx hx=>?_) aV (.of (by rw[dg];exact g5.p)) (by grind) aK (by grind) T<|by grind) ?_
     ·grind [cE,dJ]
     rintro r s6 ⟨o3,g6,i6,F6,aO,bg⟩
     refine⟨F6.len,?_⟩
     simp only[qz 20]
     refine dT ?_ ?_
     ·have kx:zt Z=[]\/zt Z=[51]:=by
       rcases(SlR.of E).keys (P:=λk=>k=51) (by grind) with h|⟨k,h,rfl⟩
       ·exact .inl h
       grind
      rcases kp with h|h<;>rcases kx with h'|h'<;>simp[eL,lb,List.flatMap_cons,aTn,a6H,bc6,ck,h,h']
     have a4:∀{q:Id},q.1≠17->q∉aA b:=(by grind)
     refine an s6 r o3 ((aE.trans F6).mono λq W=>?_) (F6.keep _ _ (a4<|by simp) a5) (a6.fx F6<|by grind) g6 (λq W=>⟨(i6 q W).1,?_⟩) aO (by grind)
     ·grind [bK.no]
     grind [bK.old]
    ·simp only[jN,u0,uO,a5C]
     exact⟨λh=>(by cases h),λ_=>G⟩
   ·obtain rfl:j=L w.ac:=(by grind)
    simp only[aNR,aoz]
    refine⟨v,gb,ib,R,T,?_⟩
    have:L w.ac*cyB m<=16*cyB m:=qo _ aT
    grind [cyB]
 simp only[qz 11,qy 4,eQ,b3,r15,aQ,ar,arg,a6u]
 refine⟨hV,λh=>?_,λh=>?_⟩
 ·simp only[nS,bQ]
  refine apV (bA:=[]) (e:=3) (z:=1) (new:=path.map ci) (.inl ⟨rfl,rfl⟩) D.ro rfl (by decide) (by omega) (by simp) fF (by simp;omega) λx A g3 F3 P3=>?_
  have E:sA A 3 1 x (path.map ci):=by grind
  have u:Fx X A []:=F3.mono (by simp[aA])
  have ah:∀q∈aA x,bK X q/\q.1=15:=(by grind [aA])
  have O:=aOp (aA x) A
  have no:∀{q:Id},q.1≠15->q∉aA x:=(by grind)
  have aJ:=(ga.fx u<|by simp).fx O (by grind)
  have br:=(D.fx u<|by simp).fx O (by grind)
  have bp:=O.keep _ _ (no<|by simp)<|u.kq b3
  simp only[qz 6,qy 8,qy 10,baG E,bQ]
  refine qs (new:=[[.l (path.map ci) I I]]) aJ rfl (by decide) (by rw[O.len,u.len,al];decide) bpC (by simp) (by simp) (by simp;omega) λC s5 g5 B P5=>?_
  have bD:∀{q:Id},q.1≠17->q∉aA a:=λh h'=>h<|pa _ h'
  have ap:Fx Y s5 (aA a):=(N.trans<|u.trans<|O.trans B).mono (by grind [bK.no,bK.old])
  refine hJ s5 C (out++[path]) ap (by grind [Fx.keep]) (by grind [SlR.fx]) (by rw[dg];exact g5.p) (by grind [bK.old]) (λl H=>?_) (by simp)
  rcases dF.1 H with h1|h1
  ·exact hC l h1
  grind
 ·exact hJ X a out (N.mono<|by simp) b3 D ga (by grind) hC (by omega)
def btV:dO:=a7N
def buW:eJ btV:=aX8
def buz:=@a6u
def bn2:=kW 61 [(5,([3,5],[1,4])),(10,([3,6],[1,4,5])),(16,([3,7],[1,4])),(22,([3,9],[1,4,7,8])),(28,([3,10],[1,4])),(33,([3,11],[1,4,10])),(39,([3,12],[1,4])),(44,([3,13],[1,4,12])),(47,([3],[1,4,12,13])),(51,([3,14],[1,4,12,13])),(56,([3,15],[1,4,12,13,14]))]
def bjp a b R:=(.mk _:NR btV bn2 Tryz.f8 [.u] [a] b R).p
def bqf{c0:dM}{R:cC}(l0:L c0=15)(h:H1 43 15 1 c0 λia b=>bjp ia b R):Ct 8 [.a c0] R:=z1 bn2 buW func8 l0 h
theorem bjC{w g}(h:qC w g=U)(a:g.kind=2):L g.cW<=4/\∀j,j<L g.cW->dh (gd g.cW j) (L w.ac)=U:=by unfold qC at h;rw[bqH a,a7c] at h;simp only[qx,bN,eH,aBY] at h;refine⟨?_,h.2.1⟩;have:=h.1;simp only[rO,cP,aNK] at this;omega
def GL(w:am)(z:ae)(b:AV)(N:Nat):Prop:=∃a:List cJ,L z=4096/\box z (1,1)=V ⟨43,15,U,U,[w.c]⟩/\sA z 49 6 b (a.map cJ.c)/\(∀q∈aA b,q.1=13\/q.1=57)/\(∀g∈a,qC w g=U/\L g.cW<=4)/\L a<=N
theorem GL.mono{w z b N M}(h:GL w z b N)(j:N<=M):GL w z b M:=by obtain⟨a,c,d,e,f,g,i⟩:=h;exact⟨a,c,d,e,f,g,by omega⟩
def GL.putG{w}(u:kB w){z b}{N d:Nat}{g f o K}(h:GL w z b N)(C:N<1000000)(t:L g.cW<=4)(s:∀r e,GL w e r (N+1)->K r e):cB 24 [.a w.c,b, .a<|a7h g f o] z d K:=by obtain⟨A,j,m,n,k,p,B⟩:=h;refine jH rfl (bpb j u (by omega) n<|by omega) ?_;rintro r e ⟨l,F,y⟩;refine⟨F.len,s r e ⟨_,F.len.trans j,F.keep _ _ (λi=>by have:=k _ i;simp at this) m,l,λq i=>?_,λx v=>?_,?_⟩⟩;rcases y q i with h|h;exact k q h;exact .inl h.2;rcases dF.1 v with h|h;exact p x h;split at h;obtain rfl:=cE.1 h;exact⟨by assumption,t⟩;simp at h;rw[a6G];split<;>simp<;>omega
def bjZ(w)(hp:kB w):Ct 8 [.a w.c] (λr=>∃j:List cJ,r=sl cJ.c j/\(∀g∈j,qC w g=U/\L g.cW<=4)/\L j<=200000):=by have A:=hp;have aB:=A.ev;generalize hQ:(λ(r:AV)=>∃j:List cJ,r=sl cJ.c j/\(∀g∈j,qC w g=U/\L g.cW<=4)/\L j<=200000)=Q;refine aDq (bqf rfl λs2 hl W h0=>?_);show bjp (.p (1,1) 0 0) s2 λr=>Q<|bmL r;have X:∀{k a b c d:Int},bM btk anY [(0,iv k),(1,iv a),(2,iv b)]=V (.a<|a7h (cJ.mk k a b 0 0 []) U U):=λ{k a b c d}=>rfl;have b4:∀{k a b c d:Int},bM btk anY [(0,iv k),(1,iv a),(2,iv b),(3,iv c),(4,iv d)]=V (.a<|a7h (cJ.mk k a b c d []) U U):=λ{k a b c d}=>rfl;simp only[bjp,eT,W];refine jD (α:=AV) (λa i=>[a,iv i]) 1 (L w.ac) (λk a x=>GL w x a<|k*16) (s0:= .l [] U U) ⟨[],hl,W, .inl ⟨rfl,rfl⟩,by simp[aA],by simp,by simp⟩ ?_;rintro n a x H G;obtain⟨_,_,E,_⟩:=id G;simp only[qz 31,au,eQ];refine⟨λh=>?_,λh=>?_⟩;have f:=aL h;refine jD (α:=AV) (λa i=>[a,iv i]) 1 (L w.ac) (λk a x=>GL w x a<|n*16+k) (s0:=a) G ?_;rintro C a y K G;obtain⟨_,_,y1,_⟩:=id G;simp only[qz 61,au,eQ,y1,r15,X (c:=0) (d:=0)];refine⟨λm=>?_,λm=>?_⟩;have e:=aL m;refine GL.putG A G (by omega) (by simp) λr z v=>?_;simp only[qz 4,au,eQ];exact dR (mk:=λ(a:AV) i=>[a,iv i]) (p:=1) (s:=a) (s':=r) (λ_ _=>rfl) (Y:=y) e (by omega) (v.mono<|by omega);exact dR (mk:=λ(a:AV) i=>[a,iv i]) (p:=1) (s:=a) (s':=a) (λ_ _=>rfl) (Y:=x) f (by omega) (G.mono<|by omega);clear E;refine jD (α:=AV) (λa i=>[a,iv i]) 1 (L w.ac) (λk a x=>GL w x a<|256+k*4369) (s0:=a) (G.mono<|by omega) ?_;rintro kc a x M G;obtain⟨_,_,E,_⟩:=id G;have t:aX bH 1 x [(0,iv kc)]=V (.l ([(kc:Int)].map ci) U U,x):=iz;simp only[qz 97,au,eQ,E,r15,t];refine⟨λh=>?_,λh=>?_⟩;have f:=aL h;obtain⟨j,u,P,B,R,D,S⟩:=id G;simp only[qz 6,qy 8];refine jH rfl (bpa A 3 (p:= .l ([(kc:Int)].map ci) U U) (path:=[(kc:Int)]) (a:= .l [] U U) (out:=[]) rfl (by simp) (by grind [dJ]) u (.inl ⟨_,_,rfl⟩) (by simp[aA]) (.inl ⟨rfl,rfl⟩) (by simp[aA]) (by intro c hc;simp at hc)<|by simp[cyB]) ?_;rintro r y ⟨o,g,ig,F,hC,ah⟩;have T:Fx x y []:=F;have aw:L o<=4369:=ah;refine⟨F.len,?_⟩;have Gy:GL w y a (256+kc*4369):=⟨j,F.len.trans u,T.kq P,B.fx T (by simp),R,D,S⟩;refine jD (α:=AV) (λa i=>[a,iv i]) 1 (L o) (λk a z=>GL w z a (256+kc*4369+k)/\sA z 38 1 r (o.map cl)) (s0:=a) ⟨Gy,g⟩ ?_;rintro kd a z ag ⟨G,Z⟩;obtain⟨j,u,P,B,R,D,S⟩:=id G;simp only[qz 133,qy 10,au,eQ,Z.ln,bJ];refine⟨λm=>?_,λm=>?_⟩;have e:=aL m;have af:=hC _<|dB e;have ae:L (gd o kd)<=4:=(by grind [bjC,Ds]);refine SlR.ix1 (.of Z) (i:=kd) (c:=sl ci<|gd o kd) (by rw[List.getElem?_map,List.getElem?_eq_getElem e,bT e];rfl) λ_ _=>?_;have ad:bM btk anY [(0,iv 2),(5,sl ci<|gd o kd)]=V (.a (Ds<|gd o kd).c):=rfl;have t:aX bt4 1 z [(0, .a (Ds<|gd o kd).c)]=V (.l [cJ.c<|Ds<|gd o kd] U U,z):=ua rfl rfl rfl (by decide) (by simp[cJ.c,eN,sl]) (by decide);simp only[ad,t,aY,bQ];refine apQ B u bnm (by simp[cJ.c]) (by simp) (by simp;omega) λa' z2 g2 F2 P2=>?_;simp only[qz 12,au,eQ];have no:∀{q:Id},q.1≠13->q.1≠57->q∉aA a:=(by grind);refine dR (mk:=λ(a:AV) i=>[a,iv i]) (p:=1) (s:=a) (s':=a') (λ_ _=>rfl) (Y:=z) e (by omega) ⟨⟨j++[Ds<|gd o kd],F2.len.trans u,(by grind [Fx.keep]),by grind [bc.p],(by grind),λx hx=>?_,by simp;omega⟩,by grind [sA.fx]⟩;rcases dF.1 hx with h|h;exact D x h;obtain rfl:=cE.1 h;exact⟨af,ae⟩;exact dR (mk:=λ(a:AV) i=>[a,iv i]) (p:=1) (s:=a) (s':=a) (λ_ _=>rfl) (Y:=x) f (by omega) (G.mono<|by omega);clear E t;refine jD (α:=AV) (λa i=>[a,iv i]) 1 (L w.ac) (λk a x=>GL w x a<|71000+k*16) (s0:=a) (G.mono<|by omega) ?_;rintro n a x H G;simp only[qz 169,au,eQ];refine⟨λh=>?_,λh=>?_⟩;have f:=aL h;refine jD (α:=AV) (λa i=>[a,iv i]) 1 (L w.ac) (λk a x=>GL w x a<|71000+n*16+k) (s0:=a) G ?_;rintro C a y K G;obtain⟨_,_,y1,_⟩:=id G;simp only[qz 199,au,eQ,y1,r15,X (c:=0) (d:=0)];refine⟨λm=>?_,λm=>?_⟩;have e:=aL m;refine GL.putG A G (by omega) (by simp) λr z v=>?_;simp only[qz 14,au,eQ];exact dR (mk:=λ(a:AV) i=>[a,iv i]) (p:=1) (s:=a) (s':=r) (λ_ _=>rfl) (Y:=y) e (by omega) (v.mono<|by omega);exact dR (mk:=λ(a:AV) i=>[a,iv i]) (p:=1) (s:=a) (s':=a) (λ_ _=>rfl) (Y:=x) f (by omega) (G.mono<|by omega);refine jD (α:=AV) (λa i=>[a,iv i]) 1 (L w.ac) (λk a x=>GL w x a<|72000+k*6000) (s0:=a) (G.mono<|by omega) ?_;rintro n a x H G;simp only[qz 235,au,eQ];refine⟨λh=>?_,λh=>?_⟩;have f:=aL h;rw[fX<|by omega];refine AI (α:=AV) (λa i=>[a,iv i]) 1 (L w.ac) (n+1) f (λk a x=>GL w x a<|72000+n*6000+k*350) (s0:=a) (G.mono<|by omega) ?_;rintro C a y K G;obtain⟨_,_,y1,_⟩:=id G;simp only[qz 265,au,eQ];refine⟨λm=>?_,λm=>?_⟩;have e:=aL m;simp+contextual only[qz 287,au,eT,y1,ix,ar,buz,bh,dJ f,dJ e];refine⟨λh3=>?_,λh3=>?_⟩;simp only[qz 285,au,eQ];exact dR (mk:=λ(a:AV) i=>[a,iv i]) (p:=1) (s:=a) (s':=a) (λ_ _=>rfl) (Y:=y) e (by omega) (G.mono<|by omega);refine jD (α:=AV) (λa i=>[a,iv i]) 1 (L w.ac) (λk a x=>GL w x a<|72000+n*6000+C*350+k*17) (s0:=a) (G.mono<|by omega) ?_;rintro kc a z M G;simp only[qz 307,au,eQ];refine⟨λh4=>?_,λh4=>?_⟩;have N:=aL h4;refine AI (α:=AV) (λa i=>[a,iv i]) 1 (L w.ac) kc M (λk a x=>GL w x a<|72000+n*6000+C*350+kc*17+k) (s0:=a) (G.mono<|by omega) ?_;rintro kd a z2 ag G;obtain⟨_,_,z1,_⟩:=id G;simp only[qz 337,au,eQ,z1,r15,b4];refine⟨λh5=>?_,λh5=>?_⟩;have O:=aL h5;refine GL.putG A G (by omega) (by simp) λr z v=>?_;simp only[qz 16,au,eQ];exact dR (mk:=λ(a:AV) i=>[a,iv i]) (p:=1) (s:=a) (s':=r) (λ_ _=>rfl) (Y:=z2) O (by omega) (v.mono<|by omega);exact dR (mk:=λ(a:AV) i=>[a,iv i]) (p:=1) (s:=a) (s':=a) (λ_ _=>rfl) (Y:=z) N (by omega) (G.mono<|by omega);simp only[qz 285,au,eQ];exact dR (mk:=λ(a:AV) i=>[a,iv i]) (p:=1) (s:=a) (s':=a) (λ_ _=>rfl) (Y:=y) e (by omega) (G.mono<|by omega);exact dR (mk:=λ(a:AV) i=>[a,iv i]) (p:=1) (s:=a) (s':=a) (λ_ _=>rfl) (Y:=x) f (by omega) (G.mono<|by omega);obtain⟨j,u,P,B,R,D,S⟩:=G;refine aOv (v':=sl cJ.c j) (aWs B) rfl ?_;grind
def bjb:FT:=om bjZ
def boE:=aUy bjb bjZ
def buX:dO:=(8,bjb)::btV
def bv5:eJ buX:=vl (rj bjZ)<|buW
def bvu:=ai @boE<|@buz

def aN6{α:Type}(f:α->α->Bool):List α->List α->Bool|[],[]=>U|a::l,b::m=>f a b&&aN6 f l m|_,_=>I
theorem aOC{α f}(c:∀a b,f a b=U->a=b):∀{l m:List α},aN6 f l m=U->l=m
 |[],[],_=>rfl
 |a::l,b::m,h=>by
  simp only[aN6,bN] at h
  rw[c a b h.1,aOC c h.2]
 |[],_::_,h=>by cases h
 |_::_,[],h=>by cases h
def xqV:Nat->Value->Value->Bool
 |0,_,_=>I
 |n+1,x,y=>
  match x,y with
  | .int k a, .int c b=>Q (k=c)&&Q (a=b)
  | .bool a, .bool b=>a==b
  | .string a, .string b=>Q<|a.data.toList=b.data.toList
  | .agg a, .agg b=>aN6 (xqV n) a.toList b.toList
  | .pointer none, .pointer none=>U
  | .nilFunc, .nilFunc=>U
  | .nilIface, .nilIface=>U
  | .map none, .map none=>U
  |_,_=>I
theorem bhK:∀{n a b},xqV n a b=U->a=b:=by intro n;induction n with|zero=>intro a b h;cases h|succ n c=>intro a b h;simp only[xqV] at h;(split at h<;>first|rfl|(cases h;done)|skip);simp_all;simp_all;rename_i a b;have h:=aNQ h;obtain⟨⟨a⟩⟩:=a;simp_all;rename_i a b;have h:=aOC (λa b=>c) h;simp_all
def xqA:Nat->AV->AV->Bool
 |0,_,_=>I
 |n+1,x,y=>
  match x,y with
  | .s v, .s w=>xqV 4 v w
  | .u, .u=>U
  | .l r t o, .l D E o'=>(t==E&&o==o')&&aN6 (aN6<|xqA n) r D
  | .a c, .a e=>aN6 (xqA n) c e
  | .t c, .t e=>aN6 (xqA n) c e
  | .q c, .q e=>aN6 (xqA n) c e
  | .p b i j, .p h z A=>Q<|b=h/\i=z/\j=A
  | .m b i, .m h z=>Q<|b=h/\i=z
  | .g k b i j, .g B h z A=>Q<|k=B/\b=h/\i=z/\j=A
  | .f k c d, .f B e C=>Q (k=B)&&(aN6 (xqA n) c e&&aN6 (xqA n) d C)
  |_,_=>I
def aYn:∀{n a b},xqA n a b=U->a=b:=by intro n;induction n with|zero=>intro a b h;cases h|succ n c=>intro a b h;simp only[xqA] at h;grind [bhK,aOC]
def eqB(x y:bY):Bool:=Q (x.elem=y.elem/\x.size=y.size/\x.own=y.own/\x.var=y.var)&&aN6 (aN6<|xqA 9) x.bA y.bA
theorem bbh{x y}(h:eqB x y=U):x=y:=by unfold eqB at h;rw[bN] at h;obtain⟨c,d,e,f⟩:=aNQ h.1;have g:=aOC (λa b=>aOC<|λa b=>aYn) h.2;cases x;simp_all
def kpS(a b:vG):Bool:=Nat.ble a.I6 b.I6&&(List.range<|a.I6+1).all λv=>match a.val v with|none=>U|some x=>match b.val v with|some y=>eqB x y|none=>I
def kpB:ae->ae->Bool:=eqLs' kpS
where eqLs' (f:vG->vG->Bool):ae->ae->Bool
 |[],[]=>U
 |a::l,b::m=>f a b&&eqLs' f l m
 |_,_=>I
def a6R:∀{Y Y'},kpB Y Y'=U->L Y'=L Y/\∀k,kpS (aZ Y k) (aZ Y' k)=U
 |[],[],_=>⟨rfl,λk=>by simp only[aZ,List.getD_nil];rfl⟩
 |a::l,b::m,h=>by
  have h:(kpS a b&&kpB.eqLs' kpS l m)=U:=h
  rw[bN] at h
  have c:=a6R (Y:=l) (Y':=m) h.2
  refine⟨by simp[c.1],λk=>?_⟩
  cases k with
  |zero=>exact h.1
  |succ k=>exact c.2 k
 |[],_::_,h=>by cases h
 |_::_,[],h=>by cases h
theorem bdG{Y Y'}(h:kpB Y Y'=U):Kp Y Y':=by obtain⟨a,c⟩:=a6R h;refine⟨a,λk=>?_,λb x d=>?_⟩;simp_all [kpS];have h:=c b.1;unfold kpS at h;grind [box,Nat.le_trans,Nat.le_of_ble_eq_true,bbh]
section
variable(P:Program)(G:J7)
abbrev aPc:=FuncId->dM->ae->Nat->Option (AV×ae)
abbrev aQb:=Code->dM->ae->Option (Exit×dM×ae)
def aWf(a:aPc)(b:dM)(Y:ae)(o:Oper):Option (AV×ae):=
 match dz P (du G b) Y o.op with
 |some av=>V (av,Y)
 |none=>
  match eA P (du G b) Y (o.dst.getD 0) o.op with
  |some p=>V p
  |none=>
   match o.op with
   | .call c=>
    match c.callee with
    | .value f=>
     match du G b f with
     | .f fn first cap=>a fn (first++c.args.toList.map (du G b)++cap) Y (o.dst.getD 0)
     |_=>J
    |_=>J
   |_=>J
def aS9(b:aPc)(ops:Array Oper)(a:dM)(Y:ae)(o:Oper):Option (dM×ae):=
 match rh ops a o with
 |some true=>match aWf P G b a Y o with|some p=>V (ge a o.dst p.1,p.2)|none=>J
 |some false=>V (ge a o.dst<|.t [],Y)
 |none=>J
def aRK(a:aPc)(ops:Array Oper):List Oper->dM->ae->Option (dM×ae)
 |[],b,Y=>V (b,Y)
 |o::l,b,Y=>match aS9 P G a ops b Y o with|some p=>aRK a ops l p.1 p.2|none=>J
def aS8(b:aPc)(ops:Array Oper):List Oper->List fY->dM->ae->Option (List fY×dM×ae)
 |[],a,c,Y=>V (a,c,Y)
 |o::l,a,c,Y=>match aS9 P G b ops c Y o with|some p=>aS8 b ops l (a++[lab P G ops c Y o]) p.1 p.2|none=>J
def aQ0:Exit->Bool| .normal| .ret=>U|_=>I
def a6k(Y:ae)(d:Nat)(c:ae)(r:AV):Option (AV×ae):=
 match r with
 | .l [] true true=>V (.l [] U U,Y)
 | .m b n=>match box c b with|some x=>if qA x=U then V (.m (I8 Y d) n,put Y d x) else J|none=>J
 | .a cs=>if(wn cs).Nodup then(match gU c d Y cs with|some p=>V (.a p.1,p.2)|none=>J) else J
 |_=>J
abbrev aSo:=List<|FuncId×dM×AV
structure aPP where
 l:aSo
 cl:List (FuncId×TypeId×Nat)
def aTq(fn:FuncId)(ys:dM):aSo->Option AV|[]=>J|p::T=>bif aOU fn p.1&&aN6 (xqA 9) ys p.2.1 then V p.2.2 else aTq fn ys T
def aRG(fn:FuncId):List (FuncId×TypeId×Nat)->Option (TypeId×Nat)|[]=>J|p::T=>bif aOU fn p.1 then V p.2 else aRG fn T
def aWe(Y:ae)(d:Nat)(p:TypeId×Nat)(ys:dM):Option (AV×ae):=
 match ys with
 |[.l [] false false]=>V (.l [] U U,Y)
 |[.l (r::bA) false false]=>
  if((r::bA).all λr=>aOU (L r) p.2&&r.all gY)=U/\L (r::bA)<1000000 then V (.m (I8 Y d)<|L (r::bA),put Y d ⟨p.1,p.2,U,I,r::bA⟩) else J
 |_=>J
def aRJ(T:aPP)(E:aQb):aPc:=λfn xs Y d=>
 match P.funcs[fn]? with
 |none=>J
 |some f=>
  match f.body with
  |none=>J
  |some c=>
   if(f.name== "runtime.NumGoroutine")=U then J
   else if G.nw fn=U then
    if(xs.map<|dG Y).all iX=U/\aPF Y d=U then
     match aRG fn T.cl with
     |some p=>aWe Y d p<|xs.map<|dG Y
     |none=>
     match E c (start f<|xs.map<|dG Y) eK with
     |some (e,b,a)=>if aQ0 e=U then(match wG P f b a with|some r=>a6k Y d a r|none=>J) else J
     |none=>J
    else J
   else if G.imp fn=U then
    match E c (start f xs) Y with
    |some (e,b,a)=>
     if aQ0 e=U then
      match wG P f b a with
      |some r=>
       if L a=L Y then
        if G.rd fn=U then(if kpB Y (kills a<|eB r)=U/\kG (eR a r)=U then V (eR a r,Y) else J)
        else V (r,a)
       else J
      |none=>J
     else J
    |none=>J
   else if(xs.map<|dG Y).all iX=U/\L (xs.map<|dG Y)<=f.ntmps then
    match aTq fn (xs.map<|dG Y) T.l with
    |some r=>if kG r=U/\(nA Y xs=I\/uN r=U) then V (r,Y) else J
    |none=>
    match E c (start f<|xs.map<|dG Y) (ly f) with
    |some (e,b,a)=>
     if aQ0 e=U then
      match bsC P f b a with
      |some r=>if kG r=U/\(nA Y xs=I\/uN r=U) then V (r,Y) else J
      |none=>J
     else J
    |none=>J
   else J
def aRL(T:aPP)(E:aQb):aQb:=λc a Y=>
 match c with
 | .skip=>V (.normal,a,Y)
 | .label _=>V (.normal,a,Y)
 | .region _ ops false=>match aRK P G (aRJ P G T E) ops ops.toList a Y with|some p=>V (.normal,p.1,p.2)|none=>J
 | .region _ ops true=>
  if rG G ops.toList=U then match aRK P G (aRJ P G T E) ops ops.toList a Y with|some p=>V (.normal,p.1,p.2)|none=>J
  else match aS8 P G (aRJ P G T E) ops ops.toList [] a Y with|some p=>if xG ops p.1=U then V (.normal,p.2.1,p.2.2) else J|none=>J
 | .seq x y=>match E x a Y with|some (.normal,τ',Y')=>E y τ' Y'|r=>r
 | .cond c x y=>match du G a c with| .s (.bool t)=>if t=U then E x a Y else E y a Y|_=>J
 | .block b c=>match E c a Y with|some (.exit j,τ',Y')=>if j=b then V (.normal,τ',Y') else V (.exit j,τ',Y')|r=>r
 | .loop c=>match E c a Y with|some (.normal,τ',Y')=>E (.loop c) τ' Y'|r=>r
 | .exit b=>V (.exit b,a,Y)
 | .ret=>V (.ret,a,Y)
 |_=>J
def ev(T:aPP):Nat->aQb|0=>λ_ _ _=>J|n+1=>aRL P G T<|ev T n
end
section
variable{P:Program}{G:J7}
def Xcl(P:Program)(G:J7)(fn:FuncId)(xs:dM)(Y:ae)(d:Nat)(K:be):Prop:=
 if G.nw fn=U then tS P G fn xs Y d K else if G.imp fn=U then tR P G fn xs Y d K else Kh P G fn xs Y λr=>K r Y
def aRe(P:Program)(G:J7)(a:aPc):Prop:=∀fn xs Y d r Y',a fn xs Y d=V (r,Y')->∀K:be,K r Y'->Xcl P G fn xs Y d K
def aUx(P:Program)(G:J7)(E:aQb):Prop:=∀c a Y e τ' Y',E c a Y=V (e,τ',Y')->∀Q:QX,Q e τ' Y'->iq P G c Q a Y
theorem bbm{a}(g:aRe P G a){b Y Y' o r}(h:aWf P G a b Y o=V (r,Y')){K}(d:K r Y'):j0 P G b Y o K:=by unfold aWf at h;unfold j0;split at h;simp_all;rename_i l;rw[l];simp only;split at h;simp_all;rename_i i;rw[i];simp only;split at h;rename_i c k;rw[k];simp only;split at h;rename_i f j;rw[j];simp only;split at h;rename_i fn first cap e;rw[e];exact g _ _ _ _ _ _ h K d;(cases h);(cases h);cases h
theorem a6l{a}(d:aRe P G a){ops b τ' Y Y' o}(h:aS9 P G a ops b Y o=V (τ',Y')){K}(c:K τ' Y'):kS P G ops o K b Y:=by grind [aS9,kS,bbm]
theorem a6m{a}(d:aRe P G a){ops K}:∀{l b τ' Y Y'},aRK P G a ops l b Y=V (τ',Y')->K τ' Y'->rE P G ops l K b Y:=by intro l;induction l with|nil=>intro b τ' Y Y' h c;cases h;exact c|cons o l f=>intro b τ' Y Y' h c;simp only[aRK] at h;split at h;rename_i p e;exact a6l d (τ':=p.1) (Y':=p.2) e<|f h c;cases h
theorem bbk{b}(e:aRe P G b){ops K}:∀{l a ls c τ' Y Y'},aS8 P G b ops l a c Y=V (ls,τ',Y')->K ls τ' Y'->qq P G ops l a K c Y:=by intro l;induction l with|nil=>intro a ls c τ' Y Y' h d;cases h;exact d|cons o l g=>intro a ls c τ' Y Y' h d;simp only[aS8] at h;split at h;rename_i p f;exact a6l e (τ':=p.1) (Y':=p.2) f<|g h d;cases h
def aWD{e}(h:aQ0 e=U):e= .normal\/e= .ret:=by cases e<;>first|exact .inl rfl|exact .inr rfl|cases h
theorem a6j(o:tQ P){E}(j:aUx P G E){fn f c}(n:P.funcs[fn]?=V f)(l:f.body=V c)(p:¬(f.name== "runtime.NumGoroutine")=U){xs g Y d e r}(h:E c (start f xs) Y=V (e,g,d))(m:aQ0 e=U)(i:wG P f g d=V r):cZ P G fn xs Y r d:=by obtain⟨q,Y',⟨rfl,rfl⟩,k⟩:=aBf (R:=λa b=>a=r/\b=d) o n l (by grind) (j _ _ _ _ _ _ h (QB P f λa b=>a=r/\b=d)<|by rcases aWD m with rfl|rfl<;>exact⟨r,i,rfl,rfl⟩);exact k
def aYw(P:Program)(G:J7)(T:aSo):Prop:=∀p∈T,zm P G p.1 p.2.1 (·=p.2.2)
def a78(P:Program)(G:J7)(T:List<|FuncId×TypeId×Nat):Prop:=∀p∈T,∀bA:List (dM),(∀r∈bA,L r=p.2.2)->L bA<1000000->∃r a,cZ P G p.1 [.l bA I I] eK r a/\(bA=[]->r= .l [] U U)/\(bA≠[]->∃b,r= .m b (L bA)/\box a b=V ⟨p.2.1,p.2.2,U,I,bA⟩)
structure aSn(P:Program)(G:J7)(T:aPP):Prop where
 fp:∀fn,G.fp fn=J
 l:aYw P G T.l
 cl:a78 P G T.cl
def a6Q{fn ys r}:∀{T},aYw P G T->aTq fn ys T=V r->zm P G fn ys (·=r)
 |[],_,h=>by cases h
 |p::T,d,h=>by
  simp only[aTq] at h
  cases c:(aOU fn p.1&&aN6 (xqA 9) ys p.2.1) with
  |true=>
   rw[c] at h
   rw[bN] at c
   have e:=Nat.eq_of_beq_eq_true c.1
   have f:=aOC (λa b=>aYn) c.2
   obtain rfl:=Option.some.inj h
   subst e f
   exact d p (by simp)
  |false=>
   rw[c] at h
   exact a6Q (λq g=>d q<|by simp[g]) h
theorem a6a{fn p}:∀{T},aRG fn T=V p->(fn,p)∈T
 |[],h=>by cases h
 |q::T,h=>by
  simp only[aRG] at h
  cases a:aOU fn q.1 with
  |true=>
   grind [Nat.eq_of_beq_eq_true]
  |false=>rw[a] at h;exact List.mem_cons_of_mem _<|a6a h
theorem bbj{T}(l:aSn P G T){fn p xs Y Y' d r}(o:aRG fn T.cl=V p)(i:(xs.map<|dG Y).all iX=U/\aPF Y d=U)(h:aWe Y d p (xs.map<|dG Y)=V (r,Y')){K}(g:K r Y'):zI P G fn xs Y d K:=by have f:=l.cl _<|a6a o;refine⟨i.1,i.2,?_⟩;generalize xs.map (dG Y)=ys at*;unfold aWe at h;split at h;(cases h);obtain⟨r,a,c,j,_⟩:=f [] (by simp) (by decide);exact⟨r,a,c, .inl ⟨j rfl,g⟩⟩;rename_i q bA;split at h;rename_i e;cases h;obtain⟨e,n⟩:=e;rw[List.all_eq_true] at e;obtain⟨r,a,c,_,k⟩:=f (q::bA) (by simp_all) n;obtain⟨b,rfl,m⟩:=k (by simp);refine⟨_,a,c, .inr ⟨b,_,_,rfl,m,?_,g⟩⟩;grind [qA];(cases h);cases h
theorem bbi(z:tQ P){T}(t:aSn P G T){E}(s:aUx P G E):aRe P G (aRJ P G T E):=by intro fn xs Y d r Y' h K k;unfold aRJ at h;unfold Xcl;split at h;(cases h);rename_i f v;split at h;(cases h);rename_i c u;split at h;(cases h);rename_i C;split at h;rename_i A;rw[sz A];split at h;rename_i a;split at h;rename_i p y;exact .inl<|bbj t y a h k;split at h;rename_i e F q o;split at h;rename_i m;split at h;rename_i B g;have j:=a6j z s v u C o m g;unfold a6k at h;split at h;(cases h);exact .inl ⟨a.1,a.2,_,_,j, .inl ⟨rfl,k⟩⟩;rename_i b n;split at h;rename_i x O;split at h;rename_i M;cases h;exact .inl ⟨a.1,a.2,_,_,j,by grind⟩;(cases h);(cases h);rename_i cs;split at h;rename_i D;split at h;rename_i p y;cases h;exact .inr<|.inr ⟨a.1,a.2,cs,q,p.1,p.2,j,D,y,k⟩;(cases h);(cases h);(cases h);(cases h);(cases h);(cases h);(cases h);rename_i A;rw[r9 A];split at h;rename_i w;rw[sz w];split at h;rename_i e F q o;split at h;rename_i m;split at h;rename_i B g;have j:=a6j z s v u C o m g;split at h;rename_i H;split at h;grind [tR,aPf,bdG];rename_i N;cases h;unfold tR aPf;rw[t.fp fn];exact⟨_,_,j,H,by simp_all⟩;(cases h);(cases h);(cases h);(cases h);rename_i w;rw[r9 w];split at h;rename_i a;split at h;rename_i B g;split at h;rename_i i;cases h;exact⟨_,a6Q t.l g,a.1,i.1,i.2,k⟩;(cases h);split at h;rename_i e F q o;split at h;rename_i m;split at h;rename_i B g;split at h;rename_i i;cases h;refine⟨_,aBh z v u (by grind) a.2<|s _ _ _ _ _ _ o (QR P f (·=_)) ?_,a.1,i.1,i.2,k⟩;rcases aWD m with rfl|rfl<;>exact⟨_,g,i.1,rfl⟩;(cases h);(cases h);(cases h);(cases h);cases h
theorem bdK{p:Nat->Prop}:∀{n},p n->∃m,p m/\∀k,p k->m<=k:=by intro n;induction n using Nat.strongRecOn with|_ n a=>grind
theorem bbl(F:tQ P){T}(D:aSn P G T):∀n,aUx P G (ev P G T n):=by intro n;induction n using Nat.strongRecOn with|_ n A=>cases n with|zero=>intro c b Y e τ' Y' h;cases h|succ n=>have g:=A n<|Nat.lt_succ_self n;have C:=bbi (G:=G) F D g;intro c b Y e τ' Y' h Q f;have M:=h;change aRL P G T (ev P G T n) c b Y=_ at h;unfold aRL at h;split at h;(cases h;exact f);(cases h;exact f);split at h;rename_i p E;cases h;exact a6m C E f;(cases h);show sF P G _ _ _ _;grind [sF,a6m,bbk];rename_i x y;show iq P G x _ _ _;split at h;rename_i l u d;exact g _ _ _ _ _ _ d _<|g _ _ _ _ _ _ h _ f;rename_i q;refine g _ _ _ _ _ _ h _ ?_;(cases e<;>first|exact f|simp_all);rename_i cc x y;show(match du G b cc with| .s (.bool t)=>if t=U then iq P G x Q b Y else iq P G y Q b Y|_=>False);split at h;rename_i t N;split at h;rename_i d;rw[sz d];exact g _ _ _ _ _ _ h _ f;rename_i d;rw[r9 d];exact g _ _ _ _ _ _ h _ f;(cases h);rename_i H c;show iq P G c _ _ _;split at h;rename_i j l u d;refine g _ _ _ _ _ _ d _ ?_;show(if j=H then Q .normal _ _ else Q (.exit j) _ _);grind;rename_i q;refine g _ _ _ _ _ _ h _ ?_;(cases e<;>first|exact f|simp_all);rename_i c;clear h;let r:dM->ae->Nat->Prop:=λb Y m=>ev P G T m (.loop c) b Y=V (e,τ',Y');let a:aG:=λb Y=>∃m,m<=n+1/\r b Y m;have i:∀b Y,∃m,a b Y->r b Y m/\(∀k,r b Y k->m<=k):=(by intro b Y;by_cases hI:a b Y;obtain⟨m,_,z⟩:=hI;obtain⟨k,d,v⟩:=bdK z;grind;simp_all);refine⟨a,λb Y=>Classical.choose<|i b Y,(by grind),?_⟩;intro b Y hI;obtain⟨d,v⟩:=Classical.choose_spec (i b Y) hI;generalize z:Classical.choose (i b Y)=m at d v;have K:m<=n+1:=(by grind);(cases m with|zero=>(cases d)|succ k=>have o:=A k (by omega);change aRL P G T (ev P G T k) (.loop c) b Y=_ at d;unfold aRL at d;simp only at d;split at d;rename_i l u B;refine o _ _ _ _ _ _ B _ ?_;have w:a l u:=⟨k,by omega,d⟩;refine⟨w,?_⟩;grind;rename_i q;refine o _ _ _ _ _ _ d _ ?_;cases e<;>first|exact f|simp_all);(cases h;exact f);(cases h;exact f);cases h
end
end Go.Ab
