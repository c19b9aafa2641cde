/- Part of the proof of EncodeAny, made short by a program: OK. -/
import Derived.Orders
import GoSem.Core.CheckCode
set_option linter.all false
open Bool renaming true->U
open List renaming length->L
open Option renaming some->V
namespace Go.Ab
open Go
theorem qy{α β:Type}{x:Except String α}{f:α->Except String β}{b:β}(h:(x>>=f)= .ok b):∃a,x= .ok a/\f a= .ok b:=by cases x with|error e=>(cases h)|ok a=>exact⟨a,rfl,h⟩
def qf(p:Program):Code->Prop| .region _ ops d=>Region.ok p.types ops d=U| .seq a b=>qf p a/\qf p b| .cond _ a b=>qf p a/\qf p b| .block _ c=>qf p c| .loop c=>qf p c|_=>True
theorem aFc{p:Program}{f:Func}{c:Nat}{ops:Array Oper}{a:Bool}(h:CheckCode.region p f c ops a= .ok ()):Region.ok p.types ops a=U:=by unfold CheckCode.region at h;obtain⟨_,_,h⟩:=qy h;obtain⟨_,_,h⟩:=qy h;cases b:Region.ok p.types ops a with|true=>rfl|false=>rw[b] at h;cases h
theorem axx{p:Program}{f:Func}:∀(c:Code) (d lb:List Nat),CheckCode.code p f d lb c= .ok ()->qf p c:=by intro c;induction c with|region m ops l=>intro d lb h;exact aFc h|seq a b e g=>intro d lb h;obtain⟨_,i,j⟩:=qy h;exact⟨e d lb i,g d lb j⟩|cond c a b e g=>intro d lb h;obtain⟨_,_,h⟩:=qy h;obtain⟨_,i,j⟩:=qy h;exact⟨e d lb i,g d lb j⟩|block m c k=>intro d lb h;exact k _ _ h|loop c k=>intro d lb h;exact k _ _ h|_=>intro d lb h;trivial
theorem ame{α:Type}{g:α->Except String Unit}:∀(l:List α),l.forM g= .ok ()->∀x∈l,g x= .ok ()
 |[],_,x,a=>by cases a
 |y::l,h,x,a=>by
  have b:(g y>>=λ_=>l.forM g)= .ok ():=h
  obtain⟨_,c,d⟩:=qy b
  rcases List.mem_cons.1 a with rfl|a
  ·exact c
  ·exact ame l d x a
theorem aBs{p:Program}(h:(List.range p.funcs.size).forM (CheckCode.funcAt p)= .ok ()){fn:FuncId}{f:Func}{c:Code}(d:p.funcs[fn]?=V f)(j:f.body=V c):qf p c:=by have g:fn<p.funcs.size:=(Array.getElem?_eq_some_iff.1 d).1;have b:=ame _ h fn (List.mem_range.2 g);unfold CheckCode.funcAt at b;rw[d] at b;have a:CheckCode.func p f= .ok ():=(by cases k:CheckCode.func p f with|error e=>simp only[k] at b;cases b|ok u=>rfl);unfold CheckCode.func at a;obtain⟨_,_,a⟩:=qy a;obtain⟨_,_,a⟩:=qy a;obtain⟨_,_,a⟩:=qy a;rw[j] at a;obtain⟨_,_,a⟩:=qy a;obtain⟨_,i,_⟩:=qy a;exact axx c _ _ i
end Go.Ab
