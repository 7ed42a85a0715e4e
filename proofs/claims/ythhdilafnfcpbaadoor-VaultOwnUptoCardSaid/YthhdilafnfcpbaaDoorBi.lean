/- Layer 3 (mac). -/
import Derived.Test.YthhdilafnfcpbaaDoorLl
import Derived.Test.YthhdilafnfcpbaaDoorTa
import Derived.Test.YthhdilafnfcpbaaDoorTb
import Derived.Test.YthhdilafnfcpbaaDoorMza
import Derived.Test.YthhdilafnfcpbaaDoorBa
import Derived.Test.YthhdilafnfcpbaaDoorBb
import Derived.Test.YthhdilafnfcpbaaDoorBc
import Derived.Test.YthhdilafnfcpbaaDoorBd
namespace Go.Proofs.YthhdilafnfcpbaaDoor
open Go
set_option linter.unusedVariables false
set_option linter.unusedSimpArgs false
set_option maxRecDepth 100000




end Go.Proofs.YthhdilafnfcpbaaDoor
