/- Caches. -/
import Derived.Test.YtmhapcbjjpadnaaGreatG7b
set_option linter.all false
set_option maxRecDepth 40000
namespace Go.Proofs.YtmhapcbjjpadnaaGreat
open Go Go.Sk Go.RowKit
def bKM:V:=.bool true
theorem bNB:aM Tryz.prog 37 [] [k3] bKM []:=run_eq E1 40 (by kernel_rfl)
end Go.Proofs.YtmhapcbjjpadnaaGreat
