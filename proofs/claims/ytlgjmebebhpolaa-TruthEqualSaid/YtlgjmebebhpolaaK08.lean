import Derived.Test.YtlgjmebebhpolaaE08
import Derived.Test.YtlgjmebebhpolaaGL16
namespace Go.Proofs
open Go.GL
set_option linter.unusedVariables false
set_option linter.unusedSimpArgs false
end Go.Proofs
