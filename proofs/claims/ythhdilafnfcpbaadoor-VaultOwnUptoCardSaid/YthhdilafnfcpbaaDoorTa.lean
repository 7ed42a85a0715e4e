/- The facts of this seat's tables that the walks ask for: printed by a program. -/
import Derived.Test.YthhdilafnfcpbaaDoorLl
import Derived.Test.YthhdilafnfcpbaaDoorChecked
import Derived.KernelRfl
namespace Go.Proofs.YthhdilafnfcpbaaDoor
open Go
set_option maxRecDepth 100000

theorem ti3 : TI Tryd.prog 3 1 8 (I 0) := ⟨Tryd.t3, by kernel_rfl, by kernel_rfl, by kernel_rfl, by kernel_rfl⟩
theorem ti4 : TI Tryd.prog 4 1 1 (.bool false) := ⟨Tryd.t4, by kernel_rfl, by kernel_rfl, by kernel_rfl, by kernel_rfl⟩
theorem ti5 : TI Tryd.prog 5 1 1 (B8 0#8) := ⟨Tryd.t5, by kernel_rfl, by kernel_rfl, by kernel_rfl, by kernel_rfl⟩
theorem ti25 : TI Tryd.prog 25 1 8 (.pointer none) := ⟨Tryd.t25, by kernel_rfl, by kernel_rfl, by kernel_rfl, by kernel_rfl⟩
theorem ti28 : TI Tryd.prog 28 1 8 (I 0) := ⟨Tryd.t28, by kernel_rfl, by kernel_rfl, by kernel_rfl, by kernel_rfl⟩
theorem ti32 : TI Tryd.prog 32 1 24 (.slice none 0 0) := ⟨Tryd.t32, by kernel_rfl, by kernel_rfl, by kernel_rfl, by kernel_rfl⟩
theorem ti33 : TI Tryd.prog 33 1 24 (.slice none 0 0) := ⟨Tryd.t33, by kernel_rfl, by kernel_rfl, by kernel_rfl, by kernel_rfl⟩
theorem ti37 : TI Tryd.prog 37 1 24 (.slice none 0 0) := ⟨Tryd.t37, by kernel_rfl, by kernel_rfl, by kernel_rfl, by kernel_rfl⟩
theorem ti39 : TI Tryd.prog 39 3 56 (.agg ([(I 0), (.slice none 0 0), (.slice none 0 0)]).toArray) := ⟨Tryd.t39, by kernel_rfl, by kernel_rfl, by kernel_rfl, by kernel_rfl⟩
theorem ti61 : TI Tryd.prog 61 1 24 (.slice none 0 0) := ⟨Tryd.t61, by kernel_rfl, by kernel_rfl, by kernel_rfl, by kernel_rfl⟩
theorem ti63 : TI Tryd.prog 63 3 72 (.agg ([(.slice none 0 0), (.slice none 0 0), (.slice none 0 0)]).toArray) := ⟨Tryd.t63, by kernel_rfl, by kernel_rfl, by kernel_rfl, by kernel_rfl⟩
theorem ti64 : TI Tryd.prog 64 12 288 (.agg ([(.slice none 0 0), (.slice none 0 0), (.slice none 0 0), (.slice none 0 0), (.slice none 0 0), (.slice none 0 0), (.slice none 0 0), (.slice none 0 0), (.slice none 0 0), (.slice none 0 0), (.slice none 0 0), (.slice none 0 0)]).toArray) := ⟨Tryd.t64, by kernel_rfl, by kernel_rfl, by kernel_rfl, by kernel_rfl⟩
theorem ti76 : TI Tryd.prog 76 2 16 (.agg ([(.bool false), (I 0)]).toArray) := ⟨Tryd.t76, by kernel_rfl, by kernel_rfl, by kernel_rfl, by kernel_rfl⟩
theorem ti94 : TI Tryd.prog 94 32 32 (.agg ((List.replicate 32 0#8).map B8).toArray) := ⟨Tryd.t94, by kernel_rfl, by kernel_rfl, by kernel_rfl, by kernel_rfl⟩
theorem ti119 : TI Tryd.prog 119 1 4 (U32 0#32) := ⟨Tryd.t119, by kernel_rfl, by kernel_rfl, by kernel_rfl, by kernel_rfl⟩
theorem ti120 : TI Tryd.prog 120 8 32 (.agg ((List.replicate 8 0#32).map U32).toArray) := ⟨Tryd.t120, by kernel_rfl, by kernel_rfl, by kernel_rfl, by kernel_rfl⟩
theorem ti132 : TI Tryd.prog 132 64 256 (.agg ((List.replicate 64 0#32).map U32).toArray) := ⟨Tryd.t132, by kernel_rfl, by kernel_rfl, by kernel_rfl, by kernel_rfl⟩
theorem fn10 : FnOk Tryd.prog 10 := ⟨Tryd.f10, by kernel_rfl, by kernel_rfl, by kernel_rfl⟩
theorem fn11 : FnOk Tryd.prog 11 := ⟨Tryd.f11, by kernel_rfl, by kernel_rfl, by kernel_rfl⟩
theorem fn12 : FnOk Tryd.prog 12 := ⟨Tryd.f12, by kernel_rfl, by kernel_rfl, by kernel_rfl⟩
theorem fn13 : FnOk Tryd.prog 13 := ⟨Tryd.f13, by kernel_rfl, by kernel_rfl, by kernel_rfl⟩
theorem fn14 : FnOk Tryd.prog 14 := ⟨Tryd.f14, by kernel_rfl, by kernel_rfl, by kernel_rfl⟩
theorem fn15 : FnOk Tryd.prog 15 := ⟨Tryd.f15, by kernel_rfl, by kernel_rfl, by kernel_rfl⟩
theorem fn17 : FnOk Tryd.prog 17 := ⟨Tryd.f17, by kernel_rfl, by kernel_rfl, by kernel_rfl⟩
theorem fn18 : FnOk Tryd.prog 18 := ⟨Tryd.f18, by kernel_rfl, by kernel_rfl, by kernel_rfl⟩
theorem fn20 : FnOk Tryd.prog 20 := ⟨Tryd.f20, by kernel_rfl, by kernel_rfl, by kernel_rfl⟩
theorem fn21 : FnOk Tryd.prog 21 := ⟨Tryd.f21, by kernel_rfl, by kernel_rfl, by kernel_rfl⟩
theorem fn22 : FnOk Tryd.prog 22 := ⟨Tryd.f22, by kernel_rfl, by kernel_rfl, by kernel_rfl⟩
theorem fn23 : FnOk Tryd.prog 23 := ⟨Tryd.f23, by kernel_rfl, by kernel_rfl, by kernel_rfl⟩
theorem fn24 : FnOk Tryd.prog 24 := ⟨Tryd.f24, by kernel_rfl, by kernel_rfl, by kernel_rfl⟩
theorem fn25 : FnOk Tryd.prog 25 := ⟨Tryd.f25, by kernel_rfl, by kernel_rfl, by kernel_rfl⟩
theorem fn26 : FnOk Tryd.prog 26 := ⟨Tryd.f26, by kernel_rfl, by kernel_rfl, by kernel_rfl⟩
theorem fn27 : FnOk Tryd.prog 27 := ⟨Tryd.f27, by kernel_rfl, by kernel_rfl, by kernel_rfl⟩
theorem fn28 : FnOk Tryd.prog 28 := ⟨Tryd.f28, by kernel_rfl, by kernel_rfl, by kernel_rfl⟩
theorem fn31 : FnOk Tryd.prog 31 := ⟨Tryd.f31, by kernel_rfl, by kernel_rfl, by kernel_rfl⟩
theorem fn32 : FnOk Tryd.prog 32 := ⟨Tryd.f32, by kernel_rfl, by kernel_rfl, by kernel_rfl⟩
theorem fn33 : FnOk Tryd.prog 33 := ⟨Tryd.f33, by kernel_rfl, by kernel_rfl, by kernel_rfl⟩
theorem fn34 : FnOk Tryd.prog 34 := ⟨Tryd.f34, by kernel_rfl, by kernel_rfl, by kernel_rfl⟩
theorem fn35 : FnOk Tryd.prog 35 := ⟨Tryd.f35, by kernel_rfl, by kernel_rfl, by kernel_rfl⟩
theorem fn36 : FnOk Tryd.prog 36 := ⟨Tryd.f36, by kernel_rfl, by kernel_rfl, by kernel_rfl⟩
theorem fn37 : FnOk Tryd.prog 37 := ⟨Tryd.f37, by kernel_rfl, by kernel_rfl, by kernel_rfl⟩
theorem fn42 : FnOk Tryd.prog 42 := ⟨Tryd.f42, by kernel_rfl, by kernel_rfl, by kernel_rfl⟩
theorem fn43 : FnOk Tryd.prog 43 := ⟨Tryd.f43, by kernel_rfl, by kernel_rfl, by kernel_rfl⟩
theorem fn44 : FnOk Tryd.prog 44 := ⟨Tryd.f44, by kernel_rfl, by kernel_rfl, by kernel_rfl⟩
theorem fn45 : FnOk Tryd.prog 45 := ⟨Tryd.f45, by kernel_rfl, by kernel_rfl, by kernel_rfl⟩
theorem fn46 : FnOk Tryd.prog 46 := ⟨Tryd.f46, by kernel_rfl, by kernel_rfl, by kernel_rfl⟩
theorem fn47 : FnOk Tryd.prog 47 := ⟨Tryd.f47, by kernel_rfl, by kernel_rfl, by kernel_rfl⟩
theorem fn48 : FnOk Tryd.prog 48 := ⟨Tryd.f48, by kernel_rfl, by kernel_rfl, by kernel_rfl⟩
theorem fn49 : FnOk Tryd.prog 49 := ⟨Tryd.f49, by kernel_rfl, by kernel_rfl, by kernel_rfl⟩
theorem fn50 : FnOk Tryd.prog 50 := ⟨Tryd.f50, by kernel_rfl, by kernel_rfl, by kernel_rfl⟩
theorem fn51 : FnOk Tryd.prog 51 := ⟨Tryd.f51, by kernel_rfl, by kernel_rfl, by kernel_rfl⟩
theorem fn52 : FnOk Tryd.prog 52 := ⟨Tryd.f52, by kernel_rfl, by kernel_rfl, by kernel_rfl⟩
theorem fn53 : FnOk Tryd.prog 53 := ⟨Tryd.f53, by kernel_rfl, by kernel_rfl, by kernel_rfl⟩
theorem fn54 : FnOk Tryd.prog 54 := ⟨Tryd.f54, by kernel_rfl, by kernel_rfl, by kernel_rfl⟩
theorem fn55 : FnOk Tryd.prog 55 := ⟨Tryd.f55, by kernel_rfl, by kernel_rfl, by kernel_rfl⟩
theorem fn56 : FnOk Tryd.prog 56 := ⟨Tryd.f56, by kernel_rfl, by kernel_rfl, by kernel_rfl⟩
theorem fn57 : FnOk Tryd.prog 57 := ⟨Tryd.f57, by kernel_rfl, by kernel_rfl, by kernel_rfl⟩
theorem fn58 : FnOk Tryd.prog 58 := ⟨Tryd.f58, by kernel_rfl, by kernel_rfl, by kernel_rfl⟩
theorem fn59 : FnOk Tryd.prog 59 := ⟨Tryd.f59, by kernel_rfl, by kernel_rfl, by kernel_rfl⟩
theorem fn60 : FnOk Tryd.prog 60 := ⟨Tryd.f60, by kernel_rfl, by kernel_rfl, by kernel_rfl⟩
theorem fn61 : FnOk Tryd.prog 61 := ⟨Tryd.f61, by kernel_rfl, by kernel_rfl, by kernel_rfl⟩
theorem fn67 : FnOk Tryd.prog 67 := ⟨Tryd.f67, by kernel_rfl, by kernel_rfl, by kernel_rfl⟩
theorem fn68 : FnOk Tryd.prog 68 := ⟨Tryd.f68, by kernel_rfl, by kernel_rfl, by kernel_rfl⟩
theorem fn69 : FnOk Tryd.prog 69 := ⟨Tryd.f69, by kernel_rfl, by kernel_rfl, by kernel_rfl⟩
theorem fn70 : FnOk Tryd.prog 70 := ⟨Tryd.f70, by kernel_rfl, by kernel_rfl, by kernel_rfl⟩
theorem fn71 : FnOk Tryd.prog 71 := ⟨Tryd.f71, by kernel_rfl, by kernel_rfl, by kernel_rfl⟩
theorem fn72 : FnOk Tryd.prog 72 := ⟨Tryd.f72, by kernel_rfl, by kernel_rfl, by kernel_rfl⟩
theorem fn73 : FnOk Tryd.prog 73 := ⟨Tryd.f73, by kernel_rfl, by kernel_rfl, by kernel_rfl⟩
theorem fn74 : FnOk Tryd.prog 74 := ⟨Tryd.f74, by kernel_rfl, by kernel_rfl, by kernel_rfl⟩
theorem fn75 : FnOk Tryd.prog 75 := ⟨Tryd.f75, by kernel_rfl, by kernel_rfl, by kernel_rfl⟩
theorem fn76 : FnOk Tryd.prog 76 := ⟨Tryd.f76, by kernel_rfl, by kernel_rfl, by kernel_rfl⟩
theorem fn77 : FnOk Tryd.prog 77 := ⟨Tryd.f77, by kernel_rfl, by kernel_rfl, by kernel_rfl⟩
theorem fn78 : FnOk Tryd.prog 78 := ⟨Tryd.f78, by kernel_rfl, by kernel_rfl, by kernel_rfl⟩
theorem fn82 : FnOk Tryd.prog 82 := ⟨Tryd.f82, by kernel_rfl, by kernel_rfl, by kernel_rfl⟩
theorem fn83 : FnOk Tryd.prog 83 := ⟨Tryd.f83, by kernel_rfl, by kernel_rfl, by kernel_rfl⟩
theorem fn84 : FnOk Tryd.prog 84 := ⟨Tryd.f84, by kernel_rfl, by kernel_rfl, by kernel_rfl⟩
theorem fn85 : FnOk Tryd.prog 85 := ⟨Tryd.f85, by kernel_rfl, by kernel_rfl, by kernel_rfl⟩
theorem fn89 : FnOk Tryd.prog 89 := ⟨Tryd.f89, by kernel_rfl, by kernel_rfl, by kernel_rfl⟩
theorem fn90 : FnOk Tryd.prog 90 := ⟨Tryd.f90, by kernel_rfl, by kernel_rfl, by kernel_rfl⟩
theorem mixed : Tryd.prog.follows .mixedOrders = true := by kernel_rfl
end Go.Proofs.YthhdilafnfcpbaaDoor
