/- Caches. -/
import Derived.Test.YtmhapcbjjpadnaaGreatG7m
set_option linter.unusedSimpArgs false
set_option linter.unusedVariables false
set_option linter.constructorNameAsVariable false
set_option maxRecDepth 40000
namespace Go.Proofs.YtmhapcbjjpadnaaGreat
open Go Go.Sk Go.RowKit
def rs3:V:=.tup [k3,.str (⟨#[98,99]⟩),i0 0]
theorem rn3:aQ Tryz.prog 55 [] [k2,i0 0,i0 1,i0 9] rs3 []:=run_eq E1 40 (by kernel_rfl)
def rs9:V:=.tup [.agg [.lst 15 false [[i0 0,i0 0,i0 0,.lst 0 true [],i0 1,i0 1,i0 3,i0 0,i0 0,i0 0,i0 0,i0 0,i0 0,i0 0,i0 0]],.lst 9 false [[i0 0,i0 0,.str (⟨#[97,98,99,0,0,0,0,0,0,0,0,0,0,0,0,0]⟩),i0 3,i0 3,i0 0,i0 0,i0 0,i0 0],z9,z9,z9,z9,z9,z9,z9],.lst 6 false [[i0 1,i0 8,i0 1,i0 2,i0 4,.lst 1 false [[i0 2],[i0 3],[i0 4],[i0 5],[i0 6],[i0 7],[i0 8]]]],.lst 3 false [[i0 8,i0 0,i0 1]],.lst 3 false [[.lst 1 false [[i0 1]],.lst 1 false [],.lst 1 false []]],.lst 1 false [[i0 0]],.lst 5 false [[i0 0,i0 0,i0 1,.bool true,.bool true]]],i0 0]
theorem rn9:aQ Tryz.prog 67 [] [k2,i0 0,i0 0,i0 0,i0 0,.bool true] rs9 []:=run_eq E1 40 (by kernel_rfl)
end Go.Proofs.YtmhapcbjjpadnaaGreat
