/- Caches. -/
import Derived.Test.YtmhapcbjjpadnaaGreatG7m
set_option linter.unusedSimpArgs false
set_option linter.unusedVariables false
set_option linter.constructorNameAsVariable false
set_option maxRecDepth 40000
namespace Go.Proofs.YtmhapcbjjpadnaaGreat
open Go Go.Sk Go.RowKit
def rs1:V:=.tup [k1,i0 1,i0 0]
theorem rn1:aQ Tryz.prog 40 [] [k0,i0 0,i0 0,i0 0,i0 0,.bool false] rs1 []:=run_eq E1 40 (by kernel_rfl)
def rs5:V:=.tup [i0 0,i0 1,.bool true]
theorem rn5:aQ Tryz.prog 58 [] [k2,i0 0,i0 1,i0 9] rs5 []:=run_eq E1 40 (by kernel_rfl)
def rs7:V:=.tup [k4,i0 0]
theorem rn7:aQ Tryz.prog 44 [] [k2,i0 1,i0 1] rs7 []:=run_eq E1 40 (by kernel_rfl)
def bH6:V:=.tup [i0 (-1),i0 0]
theorem bJS:aQ Tryz.prog 60 [] [k2,i0 0,i0 9] bH6 []:=run_eq E1 40 (by kernel_rfl)
def bH7:V:=.lst 1 false [[i0 0],[i0 1]]
theorem bJT:aQ Tryz.prog 65 [] [i0 15,i0 2] bH7 []:=run_eq E1 40 (by kernel_rfl)
def bH8:V:=i0 1
theorem bJU:aQ Tryz.prog 139 [] [k2] bH8 []:=run_eq E1 40 (by kernel_rfl)
end Go.Proofs.YtmhapcbjjpadnaaGreat
