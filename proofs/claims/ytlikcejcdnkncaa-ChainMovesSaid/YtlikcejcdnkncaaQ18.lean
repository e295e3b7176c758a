/- Chapter 06: the document's New. -/
import Derived.Test.YtlikcejcdnkncaaQ17
set_option linter.unusedSimpArgs false
set_option linter.unusedVariables false
namespace Go.Proofs.Ytlikcejcdnkncaa
open Go.Lw
attribute [local irreducible] LK LOps LW
end Go.Proofs.Ytlikcejcdnkncaa
