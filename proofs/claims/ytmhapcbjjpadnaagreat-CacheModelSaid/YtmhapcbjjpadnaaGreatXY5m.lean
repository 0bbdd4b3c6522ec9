/- Caches. -/
import Derived.Test.YtmhapcbjjpadnaaGreatG7m
set_option linter.unusedSimpArgs false
set_option linter.unusedVariables false
set_option linter.constructorNameAsVariable false
set_option maxRecDepth 40000
namespace Go.Proofs.YtmhapcbjjpadnaaGreat
open Go Go.Sk Go.RowKit
def rs2:V:=.tup [k2,i0 0]
theorem rn2:aQ Tryz.prog 56 [] [k1,i0 0,i0 0,.str ⟨#[97,98,99]⟩] rs2 []:=run_eq E1 40 (by kernel_rfl)
def rs6:V:=.tup [i0 1,.bool true]
theorem rn6:aQ Tryz.prog 138 [] [k2,i0 0,i0 0] rs6 []:=run_eq E1 40 (by kernel_rfl)
def bH4:V:=.tup [k2,i0 1]
theorem bJQ:aQ Tryz.prog 46 [] [k2,i0 1,i0 1] bH4 []:=run_eq E1 40 (by kernel_rfl)
end Go.Proofs.YtmhapcbjjpadnaaGreat
