/- Layer 12 (vault): the same on both sides. -/
import Derived.Test.YthhdilafnfcpbaaDoorJn
namespace Go.Proofs.YthhdilafnfcpbaaDoor
open Go
set_option linter.unusedVariables false
set_option linter.unusedSimpArgs false
set_option maxRecDepth 100000

end Go.Proofs.YthhdilafnfcpbaaDoor
