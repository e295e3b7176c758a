/- Chapter 06: ChainWhere. -/
import Derived.Test.YtlikcejcdnkncaaQ10
set_option linter.unusedSimpArgs false
set_option linter.unusedVariables false
namespace Go.Proofs.Ytlikcejcdnkncaa
open Go.Lw
attribute [local irreducible] LK LOps LW
end Go.Proofs.Ytlikcejcdnkncaa
