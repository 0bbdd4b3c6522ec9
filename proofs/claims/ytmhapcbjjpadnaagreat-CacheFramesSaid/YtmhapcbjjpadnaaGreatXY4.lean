/- Caches. -/
import Derived.Test.YtmhapcbjjpadnaaGreatG7
set_option linter.unusedSimpArgs false
set_option linter.unusedVariables false
set_option maxRecDepth 40000
namespace Go.Proofs.YtmhapcbjjpadnaaGreat
open Go Go.Sk Go.RowKit
def bHX:V:=.bool true
theorem bK9:aN Tryz.prog 37 [] [k3] bHX []:=run_eq E1 40 (by kernel_rfl)
end Go.Proofs.YtmhapcbjjpadnaaGreat
