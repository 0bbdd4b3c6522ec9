/- Caches. -/
import Derived.Test.YtmhapcbjjpadnaaGreatXY4m
import Derived.Test.YtmhapcbjjpadnaaGreatXY5m
import Derived.Test.YtmhapcbjjpadnaaGreatXY6m
import Derived.Test.YtmhapcbjjpadnaaGreatXY7m
import Derived.Test.YtmhapcbjjpadnaaGreatXY8m
import Derived.Test.YtmhapcbjjpadnaaGreatXY9m
set_option linter.unusedSimpArgs false
set_option linter.unusedVariables false
set_option linter.constructorNameAsVariable false
set_option maxRecDepth 40000
namespace Go.Proofs.YtmhapcbjjpadnaaGreat
open Go Go.Sk Go.RowKit
def bHI:Tb:= [(36,[.lst 2 false [[i0 0,i0 0]],.lst 1 false [[i0 8]],.lst 3 false [[i0 8,i0 0,i0 0]]],rs0),(40,[k0,i0 0,i0 0,i0 0,i0 0,.bool false],rs1),(56,[k1,i0 0,i0 0,.str ⟨#[97,98,99]⟩],rs2),(55,[k2,i0 0,i0 1,i0 9],rs3),(64,[k2,i0 0,i0 1],rs4),(58,[k2,i0 0,i0 1,i0 9],rs5),(138,[k2,i0 0,i0 0],rs6),(44,[k2,i0 1,i0 1],rs7),(62,[k2,i0 0,i0 0,i0 9],rs8),(67,[k2,i0 0,i0 0,i0 0,i0 0,.bool true],rs9),(52,[k2,i0 0,i0 0,i0 3,.bool false],bH3),(46,[k2,i0 1,i0 1],bH4),(49,[k2,i0 1,.str ⟨#[]⟩,.bool false],bH5),(60,[k2,i0 0,i0 9],bH6),(65,[i0 15,i0 2],bH7),(139,[k2],bH8),(37,[.agg [.lst 0 true [],.lst 0 true [],.lst 0 true [],.lst 0 true [],.lst 0 true [],.lst 0 true [],.lst 0 true []]],bH9),(37,[k3],bHA),(42,[k4,i0 1],bHB)]
theorem aYC:aVP bHI:=⟨rn0,rn1,rn2,rn3,rn4,rn5,rn6,rn7,rn8,rn9,bJP,bJQ,bJR,bJS,bJT,bJU,bJV,bJW,bJX,trivial⟩
theorem bJ2:aQ Tryz.prog 38 [] [] (.bool true) []:=aUK (E2 bHI aYC) 3 (by kernel_rfl)
end Go.Proofs.YtmhapcbjjpadnaaGreat
