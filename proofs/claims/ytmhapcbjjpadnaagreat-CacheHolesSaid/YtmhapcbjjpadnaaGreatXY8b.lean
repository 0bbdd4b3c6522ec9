/- Caches. -/
import Derived.Test.YtmhapcbjjpadnaaGreatG7b
set_option linter.all false
set_option maxRecDepth 40000
namespace Go.Proofs.YtmhapcbjjpadnaaGreat
open Go Go.Sk Go.RowKit
def rs1:V:=.tup [k1,i0 1,i0 0]
theorem rn1:aM Tryz.prog 40 [] [k0,i0 0,i0 0,i0 0,i0 0,.bool false] rs1 []:=run_eq E1 40 (by kernel_rfl)
def rs5:V:=.tup [i0 0,i0 1,.bool true]
theorem rn5:aM Tryz.prog 58 [] [k2,i0 0,i0 1,i0 9] rs5 []:=run_eq E1 40 (by kernel_rfl)
def rs7:V:=.tup [k4,i0 0]
theorem rn7:aM Tryz.prog 44 [] [k2,i0 1,i0 1] rs7 []:=run_eq E1 40 (by kernel_rfl)
def bKI:V:=.tup [i0 (-1),i0 0]
theorem bN7:aM Tryz.prog 60 [] [k2,i0 0,i0 9] bKI []:=run_eq E1 40 (by kernel_rfl)
def bKJ:V:=.lst 1 false [[i0 0],[i0 1]]
theorem bN8:aM Tryz.prog 65 [] [i0 15,i0 2] bKJ []:=run_eq E1 40 (by kernel_rfl)
def bKK:V:=i0 1
theorem bN9:aM Tryz.prog 139 [] [k2] bKK []:=run_eq E1 40 (by kernel_rfl)
end Go.Proofs.YtmhapcbjjpadnaaGreat
