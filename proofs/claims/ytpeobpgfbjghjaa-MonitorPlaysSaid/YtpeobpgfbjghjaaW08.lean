import Derived.Test.YtpeobpgfbjghjaaT08
import Derived.Test.YtpeobpgfbjghjaaGL20
namespace Go.Proofs
open Go.GL
set_option linter.unusedVariables false
set_option linter.unusedSimpArgs false
end Go.Proofs
namespace Go.Proofs
open Go.GL
set_option linter.unusedVariables false
set_option linter.unusedSimpArgs false
end Go.Proofs
namespace Go.Proofs
open Go.GL
set_option linter.unusedVariables false
set_option linter.unusedSimpArgs false
end Go.Proofs
