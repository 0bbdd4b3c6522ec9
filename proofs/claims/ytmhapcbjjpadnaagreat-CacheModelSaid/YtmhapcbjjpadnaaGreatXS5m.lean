/- Caches. -/
import Derived.Test.YtmhapcbjjpadnaaGreatGJm
set_option linter.unusedSimpArgs false
set_option linter.unusedVariables false
set_option linter.constructorNameAsVariable false
set_option maxRecDepth 40000
namespace Go.Proofs.YtmhapcbjjpadnaaGreat
open Go Go.Sk Go.RowKit
def sP:Option (Nat×Nat)→Int×Int
 |none=>(-1,0)
 |some (p,s)=>(p,s)
end Go.Proofs.YtmhapcbjjpadnaaGreat
