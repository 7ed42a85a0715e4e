/- The texts Nb, Nc, Nd, Ne, Nf, Nh, Ni of this proof's library, one behind the other. -/
import Derived.Test.YtnnkgdijaekcfaaDoorNa
import Derived.Test.YtnnkgdijaekcfaaDoorMzb
import Derived.Test.YtnnkgdijaekcfaaDoorMzc
/- More arguments' readings: an array of words. -/
namespace Go.Proofs.YtnnkgdijaekcfaaDoor
open Go Go.ChangeShapes Go.WideShapes Go.ChangeAt Go.RowKit
section
variable {H : Type} {enc : TypeId × Value → H} {P : Program}
end
end Go.Proofs.YtnnkgdijaekcfaaDoor
/- More arguments' readings: an array of bytes. -/
namespace Go.Proofs.YtnnkgdijaekcfaaDoor
open Go Go.ChangeShapes Go.WideShapes Go.ChangeAt Go.RowKit
section
variable {H : Type} {enc : TypeId × Value → H} {P : Program}
end
end Go.Proofs.YtnnkgdijaekcfaaDoor
/- More arguments' readings: digests in a row. -/
namespace Go.Proofs.YtnnkgdijaekcfaaDoor
open Go Go.ChangeShapes Go.WideShapes Go.ChangeAt Go.RowKit
section
variable {H : Type} {enc : TypeId × Value → H} {P : Program}
end
end Go.Proofs.YtnnkgdijaekcfaaDoor
/- More arguments' readings: structs of whole numbers. -/
namespace Go.Proofs.YtnnkgdijaekcfaaDoor
open Go Go.ChangeShapes Go.WideShapes Go.ChangeAt Go.RowKit
section
variable {H : Type} {enc : TypeId × Value → H} {P : Program}
end
end Go.Proofs.YtnnkgdijaekcfaaDoor
/- More arguments' readings: signatures. -/
namespace Go.Proofs.YtnnkgdijaekcfaaDoor
open Go Go.ChangeShapes Go.WideShapes Go.ChangeAt Go.RowKit
section
variable {H : Type} {enc : TypeId × Value → H} {P : Program}
end
end Go.Proofs.YtnnkgdijaekcfaaDoor
/- More arguments' readings: results, what may be signed. -/
namespace Go.Proofs.YtnnkgdijaekcfaaDoor
open Go Go.ChangeShapes Go.WideShapes Go.ChangeAt Go.RowKit
section
variable {H : Type} {enc : TypeId × Value → H} {P : Program}
end
end Go.Proofs.YtnnkgdijaekcfaaDoor
/- More arguments' readings: orders. -/
namespace Go.Proofs.YtnnkgdijaekcfaaDoor
open Go Go.ChangeShapes Go.WideShapes Go.ChangeAt Go.RowKit
section
variable {H : Type} {enc : TypeId × Value → H} {P : Program}
end
end Go.Proofs.YtnnkgdijaekcfaaDoor
