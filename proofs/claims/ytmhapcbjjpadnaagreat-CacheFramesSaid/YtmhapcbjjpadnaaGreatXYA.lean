/- Caches. -/
import Derived.Test.YtmhapcbjjpadnaaGreatXY4
import Derived.Test.YtmhapcbjjpadnaaGreatXY5
import Derived.Test.YtmhapcbjjpadnaaGreatXY6
import Derived.Test.YtmhapcbjjpadnaaGreatXY7
import Derived.Test.YtmhapcbjjpadnaaGreatXY8
import Derived.Test.YtmhapcbjjpadnaaGreatXY9
set_option linter.unusedSimpArgs false
set_option linter.unusedVariables false
set_option maxRecDepth 40000
namespace Go.Proofs.YtmhapcbjjpadnaaGreat
open Go Go.Sk Go.RowKit
def bI2:Tb:= [(36,[.lst 2 false [[i0 0,i0 0]],.lst 1 false [[i0 8]],.lst 3 false [[i0 8,i0 0,i0 0]]],rs0),(40,[k0,i0 0,i0 0,i0 0,i0 0,.bool false],rs1),(56,[k1,i0 0,i0 0,.str ⟨#[97,98,99]⟩],rs2),(55,[k2,i0 0,i0 1,i0 9],rs3),(64,[k2,i0 0,i0 1],rs4),(58,[k2,i0 0,i0 1,i0 9],rs5),(138,[k2,i0 0,i0 0],rs6),(44,[k2,i0 1,i0 1],rs7),(62,[k2,i0 0,i0 0,i0 9],rs8),(67,[k2,i0 0,i0 0,i0 0,i0 0,.bool true],rs9),(52,[k2,i0 0,i0 0,i0 3,.bool false],bHQ),(46,[k2,i0 1,i0 1],bHR),(49,[k2,i0 1,.str ⟨#[]⟩,.bool false],bHS),(60,[k2,i0 0,i0 9],bHT),(65,[i0 15,i0 2],bHU),(139,[k2],bHV),(37,[.agg [.lst 0 true [],.lst 0 true [],.lst 0 true [],.lst 0 true [],.lst 0 true [],.lst 0 true [],.lst 0 true []]],bHW),(37,[k3],bHX),(42,[k4,i0 1],bHY)]
theorem aY1:aVK bI2:=⟨rn0,rn1,rn2,rn3,rn4,rn5,rn6,rn7,rn8,rn9,bK2,bK3,bK4,bK5,bK6,bK7,bK8,bK9,bKA,trivial⟩
theorem bJ7:aN Tryz.prog 38 [] [] (.bool true) []:=aKF (E2 bI2 aY1) 3 (by kernel_rfl)
end Go.Proofs.YtmhapcbjjpadnaaGreat
