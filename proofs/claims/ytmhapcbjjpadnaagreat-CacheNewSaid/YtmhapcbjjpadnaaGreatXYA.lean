/- Caches. -/
import Derived.Test.YtmhapcbjjpadnaaGreatXY4
import Derived.Test.YtmhapcbjjpadnaaGreatXY5
import Derived.Test.YtmhapcbjjpadnaaGreatXY6
import Derived.Test.YtmhapcbjjpadnaaGreatXY7
import Derived.Test.YtmhapcbjjpadnaaGreatXY8
import Derived.Test.YtmhapcbjjpadnaaGreatXY9
set_option linter.unusedSimpArgs false
set_option linter.unusedVariables false
set_option maxRecDepth 40000
namespace Go.Proofs.YtmhapcbjjpadnaaGreat
open Go Go.Sk Go.RowKit

def tabC : Tb := [(36, [.lst 2 false [[i0 0, i0 0]], .lst 1 false [[i0 8]], .lst 3 false [[i0 8, i0 0, i0 0]]], rs0), (40, [k0, i0 0, i0 0, i0 0, i0 0, .bool false], rs1), (56, [k1, i0 0, i0 0, .str ⟨#[97, 98, 99]⟩], rs2), (55, [k2, i0 0, i0 1, i0 9], rs3), (64, [k2, i0 0, i0 1], rs4), (58, [k2, i0 0, i0 1, i0 9], rs5), (138, [k2, i0 0, i0 0], rs6), (44, [k2, i0 1, i0 1], rs7), (62, [k2, i0 0, i0 0, i0 9], rs8), (67, [k2, i0 0, i0 0, i0 0, i0 0, .bool true], rs9), (52, [k2, i0 0, i0 0, i0 3, .bool false], rs10), (46, [k2, i0 1, i0 1], rs11), (49, [k2, i0 1, .str ⟨#[]⟩, .bool false], rs12), (60, [k2, i0 0, i0 9], rs13), (65, [i0 15, i0 2], rs14), (139, [k2], rs15), (37, [.agg [.lst 0 true [], .lst 0 true [], .lst 0 true [], .lst 0 true [], .lst 0 true [], .lst 0 true [], .lst 0 true []]], rs16), (37, [k3], rs17), (42, [k4, i0 1], rs18)]
theorem tabC_ok : TbOK tabC := ⟨rn0, rn1, rn2, rn3, rn4, rn5, rn6, rn7, rn8, rn9, rn10, rn11, rn12, rn13, rn14, rn15, rn16, rn17, rn18, trivial⟩
theorem ok38 : FnC Tryz.prog 38 [] [] (.bool true) [] := run_true (E2 tabC tabC_ok) 3 (by kernel_rfl)
end Go.Proofs.YtmhapcbjjpadnaaGreat

