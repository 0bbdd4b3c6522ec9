/- Caches. -/
import Derived.Test.YtmhapcbjjpadnaaGreatG7m
set_option linter.unusedSimpArgs false
set_option linter.unusedVariables false
set_option linter.constructorNameAsVariable false
set_option maxRecDepth 40000
namespace Go.Proofs.YtmhapcbjjpadnaaGreat
open Go Go.Sk Go.RowKit
def rs8:V:=.tup [.agg [.lst 15 false [[i0 0,i0 0,i0 0,.lst 0 true [],i0 0,i0 0,i0 3,i0 0,i0 0,i0 0,i0 0,i0 0,i0 0,i0 0,i0 0]],.lst 9 false [z9,z9,z9,z9,z9,z9,z9,z9],.lst 6 false [[i0 1,i0 8,i0 1,i0 2,i0 4,.lst 1 false [[i0 1],[i0 2],[i0 3],[i0 4],[i0 5],[i0 6],[i0 7],[i0 8]]]],.lst 3 false [[i0 8,i0 0,i0 0]],.lst 3 false [[.lst 1 false [],.lst 1 false [],.lst 1 false []]],.lst 1 false [[i0 0]],.lst 5 false []],i0 0]
theorem rn8:aQ Tryz.prog 62 [] [k2,i0 0,i0 0,i0 9] rs8 []:=run_eq E1 40 (by kernel_rfl)
def bH3:V:=.tup [.lst 0 true [],i0 0]
theorem bJP:aQ Tryz.prog 52 [] [k2,i0 0,i0 0,i0 3,.bool false] bH3 []:=run_eq E1 40 (by kernel_rfl)
def bH9:V:=.bool false
theorem bJV:aQ Tryz.prog 37 [] [.agg [.lst 0 true [],.lst 0 true [],.lst 0 true [],.lst 0 true [],.lst 0 true [],.lst 0 true [],.lst 0 true []]] bH9 []:=run_eq E1 40 (by kernel_rfl)
def bHB:V:=.tup [k4,i0 7]
theorem bJX:aQ Tryz.prog 42 [] [k4,i0 1] bHB []:=run_eq E1 40 (by kernel_rfl)
end Go.Proofs.YtmhapcbjjpadnaaGreat
