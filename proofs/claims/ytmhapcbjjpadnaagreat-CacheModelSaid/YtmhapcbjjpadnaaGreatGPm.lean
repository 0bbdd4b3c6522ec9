/- Caches. -/
import Derived.Test.YtmhapcbjjpadnaaGreatGOm
import Derived.Test.YtmhapcbjjpadnaaGreatXYAm
set_option linter.unusedSimpArgs false
set_option linter.unusedVariables false
set_option linter.constructorNameAsVariable false
set_option maxRecDepth 40000
namespace Go.Proofs.YtmhapcbjjpadnaaGreat
open Go Go.Sk Go.RowKit
end Go.Proofs.YtmhapcbjjpadnaaGreat
