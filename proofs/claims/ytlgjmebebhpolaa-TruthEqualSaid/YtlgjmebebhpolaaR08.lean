import Derived.Test.YtlgjmebebhpolaaK08
import Derived.Test.YtlgjmebebhpolaaM08
import Derived.Test.YtlgjmebebhpolaaGL20
namespace Go.Proofs
open Go.GL
set_option linter.unusedVariables false
set_option linter.unusedSimpArgs false
end Go.Proofs
