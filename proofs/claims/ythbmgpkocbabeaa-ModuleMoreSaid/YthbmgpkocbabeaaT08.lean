import Derived.Test.YthbmgpkocbabeaaS08
import Derived.Test.YthbmgpkocbabeaaGL21
namespace Go.Proofs
open Go.GL
set_option linter.unusedVariables false
set_option linter.unusedSimpArgs false
end Go.Proofs
