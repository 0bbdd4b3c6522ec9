/- Caches. -/
import Derived.Test.YtmhapcbjjpadnaaGreatGOb
import Derived.Test.YtmhapcbjjpadnaaGreatXYAb
set_option linter.all false
set_option maxRecDepth 40000
namespace Go.Proofs.YtmhapcbjjpadnaaGreat
open Go Go.Sk Go.RowKit
theorem bMB(a b:Dc)(h:Ok b)(hs:mZ a b)(e:Int):aM Tryz.prog 41 [] [.agg a.c,.agg b.c,.int .i64 e,.int .i64 e] (.bool true) []:=by
 have k18:=bHX a b h hs
 refine aK (ob0:= []) [] Tryz.func41 rfl rfl rfl rfl ?_
 exact jR
noncomputable def R7:Rsv Tryz.prog Tryz.f7 [.c 56] 1:=⟨_,_,rfl,rfl⟩
end Go.Proofs.YtmhapcbjjpadnaaGreat
