import Derived.Test.YteelckbeekgfiaaDoorProg
import Derived.Test.YteelckbeekgfiaaDoorSkS
import Derived.KernelRfl
set_option linter.unusedSimpArgs false
set_option linter.unusedVariables false
namespace Go.Proofs.YteelckbeekgfiaaDoor
open Go Go.Sk Go.RowKit
/-- The one package-level variable: the sizes of first windows. -/
instance : Go.Sk.Tab := ⟨fun g => match g with | 0 => some [.int .i64 2, .int .i64 4, .int .i64 8] | _ => none⟩
end Go.Proofs.YteelckbeekgfiaaDoor
