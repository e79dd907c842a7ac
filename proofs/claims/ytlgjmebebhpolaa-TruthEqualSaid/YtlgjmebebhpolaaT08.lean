import Derived.Test.YtlgjmebebhpolaaS08
import Derived.Test.YtlgjmebebhpolaaGL21
namespace Go.Proofs
open Go.GL
set_option linter.unusedVariables false
set_option linter.unusedSimpArgs false
end Go.Proofs
