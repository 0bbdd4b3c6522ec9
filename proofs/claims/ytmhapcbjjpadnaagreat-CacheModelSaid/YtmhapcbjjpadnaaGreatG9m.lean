/- Caches. -/
import Derived.Test.YtmhapcbjjpadnaaGreatG8m
import Derived.Test.YtmhapcbjjpadnaaGreatG2m
import Derived.Test.YtmhapcbjjpadnaaGreatG5m
import Derived.Test.YtmhapcbjjpadnaaGreatG7m
set_option linter.unusedSimpArgs false
set_option linter.unusedVariables false
set_option linter.constructorNameAsVariable false
set_option maxRecDepth 40000
namespace Go.Proofs.YtmhapcbjjpadnaaGreat
open Go Go.Sk Go.RowKit
structure bI6(c:Ca):Prop where
 fl:c.fl.length≤100000
 fr:c.fr.length≤100000
 zo:kG c.zo
 gr:c.gr.length≤100000
 ls:c.ls.length≤100000
 lz:∀l∈c.ls,jD l
 ck:c.ck.length≤100000
 pt:c.pt.length≤100000
end Go.Proofs.YtmhapcbjjpadnaaGreat
set_option maxRecDepth 40000
namespace Go.Proofs.YtmhapcbjjpadnaaGreat
open Go Go.Sk Go.RowKit
def mkF(p:Int×Int):Fl:=⟨p.1,p.2,emT,0,0,0,0,0,0,0,0,0⟩
structure bL0(l:List (Int×Int))(z:List Zn)(g:List Gr):Prop where
 loc:aBB l=true
 grp:vC g=true
 chg:aRL g=true
 zon:aVK z
theorem kC {p:Nat→Bool} :∀ {n i:Nat},bO p n=true→i<n→p i=false
 |0,_,_,h=>absurd h (by omega)
 |n+1,i,h,hi=>by
  simp only [bO,Bool.and_eq_true,Bool.not_eq_true'] at h
  by_cases e:i=n
  ·subst e;first |exact h.1 |exact h.2
  ·exact kC (n:=n) (by first |exact h.1 |exact h.2) (by omega)
end Go.Proofs.YtmhapcbjjpadnaaGreat
