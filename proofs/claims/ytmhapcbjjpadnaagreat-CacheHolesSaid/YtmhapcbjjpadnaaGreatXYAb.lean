/- Caches. -/
import Derived.Test.YtmhapcbjjpadnaaGreatXY4b
import Derived.Test.YtmhapcbjjpadnaaGreatXY5b
import Derived.Test.YtmhapcbjjpadnaaGreatXY6b
import Derived.Test.YtmhapcbjjpadnaaGreatXY7b
import Derived.Test.YtmhapcbjjpadnaaGreatXY8b
import Derived.Test.YtmhapcbjjpadnaaGreatXY9b
set_option linter.all false
set_option maxRecDepth 40000
namespace Go.Proofs.YtmhapcbjjpadnaaGreat
open Go Go.Sk Go.RowKit
def bKS:Tb:= [(36,[.lst 2 false [[i0 0,i0 0]],.lst 1 false [[i0 8]],.lst 3 false [[i0 8,i0 0,i0 0]]],rs0),(40,[k0,i0 0,i0 0,i0 0,i0 0,.bool false],rs1),(56,[k1,i0 0,i0 0,.str ⟨#[97,98,99]⟩],rs2),(55,[k2,i0 0,i0 1,i0 9],rs3),(64,[k2,i0 0,i0 1],rs4),(58,[k2,i0 0,i0 1,i0 9],rs5),(138,[k2,i0 0,i0 0],rs6),(44,[k2,i0 1,i0 1],rs7),(62,[k2,i0 0,i0 0,i0 9],rs8),(67,[k2,i0 0,i0 0,i0 0,i0 0,.bool true],rs9),(52,[k2,i0 0,i0 0,i0 3,.bool false],bKF),(46,[k2,i0 1,i0 1],bKG),(49,[k2,i0 1,.str ⟨#[]⟩,.bool false],bKH),(60,[k2,i0 0,i0 9],bKI),(65,[i0 15,i0 2],bKJ),(139,[k2],bKK),(37,[.agg [.lst 0 true [],.lst 0 true [],.lst 0 true [],.lst 0 true [],.lst 0 true [],.lst 0 true [],.lst 0 true []]],bKL),(37,[k3],bKM),(42,[k4,i0 1],bKN)]
theorem bA0:aXB bKS:=⟨rn0,rn1,rn2,rn3,rn4,rn5,rn6,rn7,rn8,rn9,bN4,bN5,bN6,bN7,bN8,bN9,bNA,bNB,bNC,trivial⟩
theorem bM9:aM Tryz.prog 38 [] [] (.bool true) []:=aLF (E2 bKS bA0) 3 (by kernel_rfl)
end Go.Proofs.YtmhapcbjjpadnaaGreat
