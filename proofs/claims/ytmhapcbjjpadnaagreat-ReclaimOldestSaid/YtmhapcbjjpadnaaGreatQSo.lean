/- Caches. -/
import Derived.Test.YtmhapcbjjpadnaaGreatQCo
import Derived.Test.YtmhapcbjjpadnaaGreatGKo
set_option linter.all false
set_option maxRecDepth 40000
open List renaming getD_eq_getElem?_getD→zA,getElem_mem→zC
namespace Go.Proofs.YtmhapcbjjpadnaaGreat
open Go Go.Sk Go.RowKit
structure OkP(c:Dc):Prop where
 pgs:∀x∈c.pt,∃m u,m<c.fr.length/\x.frame=((m+1:Nat):Int)/\c.fr.getD m none=some u
 lst:∀m u,m<c.fr.length->c.fr.getD m none=some u->vK (c.ls.getD u.ten l0) ((m+1:Nat):Int)
theorem OkP.keep {c d:Dc} (hm:OkP c)(e:d.fr=c.fr)(f:d.ls=c.ls)(j:d.pt=c.pt):OkP d:= ⟨by rw [j,e];exact hm.pgs,by rw [e,f];exact hm.lst⟩
theorem bAZ {l:Ls} {f x:Int} (h:vK l x)(e:x≠f):vK (kE l f).1 x:=by
 unfold kE
 cases(!dM l) with
 |true=>exact h
 |false=>
  cases(!cE f) with
  |true=>exact h
  |false=>
   cases(!lO l f) with
   |true=>exact h
   |false=>exact h.imp (λy=>dO.2 ⟨y,e⟩) λy=>dO.2 ⟨y,e⟩
theorem aQQ {f:List Ls} {t s:Nat} {y:Ls} {x:Int} (h:vK (f.getD s l0) x)(m:s=t->vK y x):vK ((f.set t y).getD s l0) x:=by
 by_cases e:s=t
 ·subst e
  by_cases j:s<f.length
  ·rw [aH _ _ _ _ j];exact m rfl
  ·rw [dF _ _ (Nat.le_of_not_lt j)];exact h
 ·rw [getD_set_ne _ _ _ e];exact h
theorem OkP.gone {c:Dc} (h:Ok c)(hm:OkP c) {m:Nat} {u:Us} (z:m<c.fr.length)(h2:c.fr.getD m none=some u)(v:Int):OkP (c.gone m u v):=by
 refine⟨λx f=>?_,λn w k1 k2=>?_⟩
 ·have f:x∈nW c.pt ((m+1:Nat):Int):=f;unfold nW at f;rw [h.pt,zct] at f;obtain⟨f,j⟩:=List.mem_filter.1 f;obtain⟨n,w,a,b,d⟩:=hm.pgs x f;have e:n≠m:=λe=>by unfold oY at j;rw [b,e] at j;simp at j
  exact⟨n,w,by show n< (c.fr.set m none).length;rw [List.length_set];exact a,b,(getD_set_ne _ _ _ e).trans d⟩
 ·have k2:(c.fr.set m none).getD n none=some w:=k2;have k1:n<c.fr.length:=by have :(c.gone m u v).fr.length=c.fr.length:=List.length_set ..;omega
  by_cases e:n=m
  ·subst e;rw [aH _ _ _ _ z] at k2;cases k2
  ·rw [getD_set_ne _ _ _ e] at k2;have k:=hm.lst n w k1 k2;refine aQQ k λes=>bAZ ?_ (by omega);rw [<-es];exact k
end Go.Proofs.YtmhapcbjjpadnaaGreat
