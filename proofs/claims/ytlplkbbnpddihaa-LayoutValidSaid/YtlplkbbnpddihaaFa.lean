/- Facts on the types' tables. -/
import Derived.Test.YtlplkbbnpddihaaProg
import Derived.Test.YtlplkbbnpddihaaWd
set_option linter.unusedVariables false
set_option linter.unusedSimpArgs false
namespace Go.Proofs.Ytlplkbbnpddihaa
open Go Go.Wk

end Go.Proofs.Ytlplkbbnpddihaa
