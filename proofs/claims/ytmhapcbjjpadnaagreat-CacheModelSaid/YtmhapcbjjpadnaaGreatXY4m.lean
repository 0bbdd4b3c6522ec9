/- Caches. -/
import Derived.Test.YtmhapcbjjpadnaaGreatG7m
set_option linter.unusedSimpArgs false
set_option linter.unusedVariables false
set_option linter.constructorNameAsVariable false
set_option maxRecDepth 40000
namespace Go.Proofs.YtmhapcbjjpadnaaGreat
open Go Go.Sk Go.RowKit
def bHA:V:=.bool true
theorem bJW:aQ Tryz.prog 37 [] [k3] bHA []:=run_eq E1 40 (by kernel_rfl)
end Go.Proofs.YtmhapcbjjpadnaaGreat
