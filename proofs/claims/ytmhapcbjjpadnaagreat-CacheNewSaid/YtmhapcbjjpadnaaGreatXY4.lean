/- Caches. -/
import Derived.Test.YtmhapcbjjpadnaaGreatGA
set_option linter.unusedSimpArgs false
set_option linter.unusedVariables false
set_option maxRecDepth 40000
namespace Go.Proofs.YtmhapcbjjpadnaaGreat
open Go Go.Sk Go.RowKit

def rs17 : V := .bool true
theorem rn17 : FnC Tryz.prog 37 [] [k3] rs17 [] := run_eq E1 40 (by kernel_rfl)
end Go.Proofs.YtmhapcbjjpadnaaGreat

