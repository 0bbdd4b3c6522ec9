/- Caches. -/
import Derived.Test.YtmhapcbjjpadnaaGreatGTm
import Derived.Test.YtmhapcbjjpadnaaGreatGQm
set_option linter.unusedSimpArgs false
set_option linter.unusedVariables false
set_option linter.constructorNameAsVariable false
set_option maxRecDepth 40000
namespace Go.Proofs.YtmhapcbjjpadnaaGreat
open Go Go.Sk Go.RowKit
theorem aWY {c:Dc} (h:Ok c) {f p:Nat} {t pf:Int} {ur:Bool} (hf:f<c.fl.length)(e:(jB c f p t pf ur).2.2=0):
 ∃m,cC (jB c f p t pf ur).1 f p=some (m,qP c f p t.toNat)∧(jB c f p t pf ur).1.fl.length=c.fl.length∧((jB c f p t pf ur).1.fl.getD f aK).size=(c.fl.getD f aK).size:=by
 unfold jB at *
 cases hi:inI c f p t pf with
 |false=>rw [hi] at e;cases e
 |true=>
  rw [hi,cond_true] at e
  rw [cond_true]
  simp only [Int.toNat_natCast] at *
  unfold eA at *
  cases h1:decide (0< ((c.fl.getD f aK).E p).1) with
  |true=>rw [h1] at e;cases e
  |false=>
   rw [h1,cond_false] at e
   rw [cond_false]
   cases h2:((cB c.gr t.toNat).2==0) with
   |false=>
    rw [h2,cond_false] at e
    exact absurd (beq_iff_eq.2 e) (by rw [h2];simp)
   |true=>
    rw [h2,cond_true] at e
    rw [cond_true]
    cases h3:((bX c.zo c.zo pf ur).2.2==0) with
    |false=>
     rw [h3,cond_false] at e
     exact absurd (beq_iff_eq.2 e) (by rw [h3];simp)
    |true=>
     obtain⟨m,m1,m2,m3⟩:=take_at h (eq_of_beq h3)
     rw [cond_true]
     dsimp only
     rw [m2,show(((m+1:Nat):Int)-1).toNat=m by omega]
     refine⟨m,?_,List.length_set ..,aDP (nZ _ _)⟩
     have hE:((((c.ins f p t.toNat (bX c.zo c.zo pf ur).1 (cB c.gr t.toNat).1 m).fl.getD f aK).E p).1)=((m+1:Nat):Int):=by
      show(((c.fl.set f (dG (c.fl.getD f aK) (dA (c.fl.getD f aK).E p (((m+1:Nat):Int),0)))).getD f aK).E p).1=_
      rw [aD _ _ _ _ hf,dK,cR]
     unfold cC
     rw [hE,decide_eq_true (by omega),cond_true,show(((m+1:Nat):Int)-1).toNat=m by omega]
     show((c.fr.set m (some (qP c f p t.toNat))).getD m none).map _=_
     rw [aD _ _ _ _ m1];rfl
end Go.Proofs.YtmhapcbjjpadnaaGreat
