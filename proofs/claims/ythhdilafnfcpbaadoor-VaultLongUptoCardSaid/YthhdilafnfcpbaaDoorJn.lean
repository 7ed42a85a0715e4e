/- Layer 12 (vault): the document's vault. -/
import Derived.Test.YthhdilafnfcpbaaDoorJl
namespace Go.Proofs.YthhdilafnfcpbaaDoor
open Go
set_option linter.unusedVariables false
set_option linter.unusedSimpArgs false
set_option maxRecDepth 100000

end Go.Proofs.YthhdilafnfcpbaaDoor
