import Derived.Test.YtclpcnbdmmlogaaK08
import Derived.Test.YtclpcnbdmmlogaaM08
import Derived.Test.YtclpcnbdmmlogaaGL20
namespace Go.Proofs
open Go.GL
set_option linter.unusedVariables false
set_option linter.unusedSimpArgs false
end Go.Proofs
