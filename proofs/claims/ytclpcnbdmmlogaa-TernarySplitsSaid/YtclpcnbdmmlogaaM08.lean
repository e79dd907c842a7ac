import Derived.Test.YtclpcnbdmmlogaaL08
import Derived.Test.YtclpcnbdmmlogaaGL17
namespace Go.Proofs
open Go.GL
set_option linter.unusedVariables false
set_option linter.unusedSimpArgs false
end Go.Proofs
