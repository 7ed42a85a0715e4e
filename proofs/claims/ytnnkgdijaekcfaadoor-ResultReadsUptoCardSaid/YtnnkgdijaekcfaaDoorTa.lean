/- The facts of this seat's tables that the walks ask for: printed by a program. -/
import Derived.Test.YtnnkgdijaekcfaaDoorLl
import Derived.Test.YtnnkgdijaekcfaaDoorChecked
import Derived.KernelRfl
namespace Go.Proofs.YtnnkgdijaekcfaaDoor
open Go
set_option maxRecDepth 100000

theorem ti3 : TI Tryd.prog 3 1 8 (I 0) := ⟨Tryd.t3, by kernel_rfl, by kernel_rfl, by kernel_rfl, by kernel_rfl⟩
theorem ti5 : TI Tryd.prog 5 1 1 (B8 0#8) := ⟨Tryd.t5, by kernel_rfl, by kernel_rfl, by kernel_rfl, by kernel_rfl⟩
theorem ti22 : TI Tryd.prog 22 1 24 (.slice none 0 0) := ⟨Tryd.t22, by kernel_rfl, by kernel_rfl, by kernel_rfl, by kernel_rfl⟩
theorem ti24 : TI Tryd.prog 24 32 32 (.agg ((List.replicate 32 0#8).map B8).toArray) := ⟨Tryd.t24, by kernel_rfl, by kernel_rfl, by kernel_rfl, by kernel_rfl⟩
theorem eqa24 : EqA Tryd.prog 24 .u8 32 := ⟨5, Tryd.t5, by kernel_rfl, by kernel_rfl, by kernel_rfl, by kernel_rfl, by kernel_rfl⟩
theorem ti25 : TI Tryd.prog 25 1 24 (.slice none 0 0) := ⟨Tryd.t25, by kernel_rfl, by kernel_rfl, by kernel_rfl, by kernel_rfl⟩
theorem ti27 : TI Tryd.prog 27 3 56 (.agg ([(I 0), (.slice none 0 0), (.slice none 0 0)]).toArray) := ⟨Tryd.t27, by kernel_rfl, by kernel_rfl, by kernel_rfl, by kernel_rfl⟩
theorem ti29 : TI Tryd.prog 29 5 104 (.agg ([(.slice none 0 0), (.slice none 0 0), (I 0), (.slice none 0 0), (.slice none 0 0)]).toArray) := ⟨Tryd.t29, by kernel_rfl, by kernel_rfl, by kernel_rfl, by kernel_rfl⟩
theorem ti41 : TI Tryd.prog 41 1 8 (I 0) := ⟨Tryd.t41, by kernel_rfl, by kernel_rfl, by kernel_rfl, by kernel_rfl⟩
theorem ti120 : TI Tryd.prog 120 1 8 (.pointer none) := ⟨Tryd.t120, by kernel_rfl, by kernel_rfl, by kernel_rfl, by kernel_rfl⟩
theorem ti161 : TI Tryd.prog 161 32 32 (.agg ((List.replicate 32 0#8).map B8).toArray) := ⟨Tryd.t161, by kernel_rfl, by kernel_rfl, by kernel_rfl, by kernel_rfl⟩
theorem ti173 : TI Tryd.prog 173 64 64 (.agg ((List.replicate 64 0#8).map B8).toArray) := ⟨Tryd.t173, by kernel_rfl, by kernel_rfl, by kernel_rfl, by kernel_rfl⟩
theorem ti179 : TI Tryd.prog 179 1 4 (U32 0#32) := ⟨Tryd.t179, by kernel_rfl, by kernel_rfl, by kernel_rfl, by kernel_rfl⟩
theorem ti180 : TI Tryd.prog 180 8 32 (.agg ((List.replicate 8 0#32).map U32).toArray) := ⟨Tryd.t180, by kernel_rfl, by kernel_rfl, by kernel_rfl, by kernel_rfl⟩
theorem ti193 : TI Tryd.prog 193 64 256 (.agg ((List.replicate 64 0#32).map U32).toArray) := ⟨Tryd.t193, by kernel_rfl, by kernel_rfl, by kernel_rfl, by kernel_rfl⟩
theorem ti199 : TI Tryd.prog 199 65 65 (.agg ((List.replicate 65 0#8).map B8).toArray) := ⟨Tryd.t199, by kernel_rfl, by kernel_rfl, by kernel_rfl, by kernel_rfl⟩
theorem fn15 : FnOk Tryd.prog 15 := ⟨Tryd.f15, by kernel_rfl, by kernel_rfl, by kernel_rfl⟩
theorem fn16 : FnOk Tryd.prog 16 := ⟨Tryd.f16, by kernel_rfl, by kernel_rfl, by kernel_rfl⟩
theorem fn17 : FnOk Tryd.prog 17 := ⟨Tryd.f17, by kernel_rfl, by kernel_rfl, by kernel_rfl⟩
theorem fn18 : FnOk Tryd.prog 18 := ⟨Tryd.f18, by kernel_rfl, by kernel_rfl, by kernel_rfl⟩
theorem fn20 : FnOk Tryd.prog 20 := ⟨Tryd.f20, by kernel_rfl, by kernel_rfl, by kernel_rfl⟩
theorem fn23 : FnOk Tryd.prog 23 := ⟨Tryd.f23, by kernel_rfl, by kernel_rfl, by kernel_rfl⟩
theorem fn24 : FnOk Tryd.prog 24 := ⟨Tryd.f24, by kernel_rfl, by kernel_rfl, by kernel_rfl⟩
theorem fn26 : FnOk Tryd.prog 26 := ⟨Tryd.f26, by kernel_rfl, by kernel_rfl, by kernel_rfl⟩
theorem fn27 : FnOk Tryd.prog 27 := ⟨Tryd.f27, by kernel_rfl, by kernel_rfl, by kernel_rfl⟩
theorem fn29 : FnOk Tryd.prog 29 := ⟨Tryd.f29, by kernel_rfl, by kernel_rfl, by kernel_rfl⟩
theorem fn30 : FnOk Tryd.prog 30 := ⟨Tryd.f30, by kernel_rfl, by kernel_rfl, by kernel_rfl⟩
theorem fn31 : FnOk Tryd.prog 31 := ⟨Tryd.f31, by kernel_rfl, by kernel_rfl, by kernel_rfl⟩
theorem fn32 : FnOk Tryd.prog 32 := ⟨Tryd.f32, by kernel_rfl, by kernel_rfl, by kernel_rfl⟩
theorem fn33 : FnOk Tryd.prog 33 := ⟨Tryd.f33, by kernel_rfl, by kernel_rfl, by kernel_rfl⟩
theorem fn51 : FnOk Tryd.prog 51 := ⟨Tryd.f51, by kernel_rfl, by kernel_rfl, by kernel_rfl⟩
theorem fn53 : FnOk Tryd.prog 53 := ⟨Tryd.f53, by kernel_rfl, by kernel_rfl, by kernel_rfl⟩
theorem fn54 : FnOk Tryd.prog 54 := ⟨Tryd.f54, by kernel_rfl, by kernel_rfl, by kernel_rfl⟩
theorem fn58 : FnOk Tryd.prog 58 := ⟨Tryd.f58, by kernel_rfl, by kernel_rfl, by kernel_rfl⟩
theorem fn61 : FnOk Tryd.prog 61 := ⟨Tryd.f61, by kernel_rfl, by kernel_rfl, by kernel_rfl⟩
theorem fn63 : FnOk Tryd.prog 63 := ⟨Tryd.f63, by kernel_rfl, by kernel_rfl, by kernel_rfl⟩
theorem fn64 : FnOk Tryd.prog 64 := ⟨Tryd.f64, by kernel_rfl, by kernel_rfl, by kernel_rfl⟩
theorem fn65 : FnOk Tryd.prog 65 := ⟨Tryd.f65, by kernel_rfl, by kernel_rfl, by kernel_rfl⟩
theorem fn66 : FnOk Tryd.prog 66 := ⟨Tryd.f66, by kernel_rfl, by kernel_rfl, by kernel_rfl⟩
theorem fn67 : FnOk Tryd.prog 67 := ⟨Tryd.f67, by kernel_rfl, by kernel_rfl, by kernel_rfl⟩
theorem fn68 : FnOk Tryd.prog 68 := ⟨Tryd.f68, by kernel_rfl, by kernel_rfl, by kernel_rfl⟩
theorem fn69 : FnOk Tryd.prog 69 := ⟨Tryd.f69, by kernel_rfl, by kernel_rfl, by kernel_rfl⟩
theorem fn70 : FnOk Tryd.prog 70 := ⟨Tryd.f70, by kernel_rfl, by kernel_rfl, by kernel_rfl⟩
theorem fn71 : FnOk Tryd.prog 71 := ⟨Tryd.f71, by kernel_rfl, by kernel_rfl, by kernel_rfl⟩
theorem fn72 : FnOk Tryd.prog 72 := ⟨Tryd.f72, by kernel_rfl, by kernel_rfl, by kernel_rfl⟩
theorem fn73 : FnOk Tryd.prog 73 := ⟨Tryd.f73, by kernel_rfl, by kernel_rfl, by kernel_rfl⟩
theorem fn74 : FnOk Tryd.prog 74 := ⟨Tryd.f74, by kernel_rfl, by kernel_rfl, by kernel_rfl⟩
theorem fn75 : FnOk Tryd.prog 75 := ⟨Tryd.f75, by kernel_rfl, by kernel_rfl, by kernel_rfl⟩
theorem fn76 : FnOk Tryd.prog 76 := ⟨Tryd.f76, by kernel_rfl, by kernel_rfl, by kernel_rfl⟩
theorem fn77 : FnOk Tryd.prog 77 := ⟨Tryd.f77, by kernel_rfl, by kernel_rfl, by kernel_rfl⟩
theorem fn78 : FnOk Tryd.prog 78 := ⟨Tryd.f78, by kernel_rfl, by kernel_rfl, by kernel_rfl⟩
theorem fn79 : FnOk Tryd.prog 79 := ⟨Tryd.f79, by kernel_rfl, by kernel_rfl, by kernel_rfl⟩
theorem fn81 : FnOk Tryd.prog 81 := ⟨Tryd.f81, by kernel_rfl, by kernel_rfl, by kernel_rfl⟩
theorem fn82 : FnOk Tryd.prog 82 := ⟨Tryd.f82, by kernel_rfl, by kernel_rfl, by kernel_rfl⟩
theorem fn85 : FnOk Tryd.prog 85 := ⟨Tryd.f85, by kernel_rfl, by kernel_rfl, by kernel_rfl⟩
theorem fn86 : FnOk Tryd.prog 86 := ⟨Tryd.f86, by kernel_rfl, by kernel_rfl, by kernel_rfl⟩
theorem fn88 : FnOk Tryd.prog 88 := ⟨Tryd.f88, by kernel_rfl, by kernel_rfl, by kernel_rfl⟩
theorem fn89 : FnOk Tryd.prog 89 := ⟨Tryd.f89, by kernel_rfl, by kernel_rfl, by kernel_rfl⟩
theorem fn90 : FnOk Tryd.prog 90 := ⟨Tryd.f90, by kernel_rfl, by kernel_rfl, by kernel_rfl⟩
theorem fn91 : FnOk Tryd.prog 91 := ⟨Tryd.f91, by kernel_rfl, by kernel_rfl, by kernel_rfl⟩
theorem fn92 : FnOk Tryd.prog 92 := ⟨Tryd.f92, by kernel_rfl, by kernel_rfl, by kernel_rfl⟩
theorem fn99 : FnOk Tryd.prog 99 := ⟨Tryd.f99, by kernel_rfl, by kernel_rfl, by kernel_rfl⟩
theorem fn102 : FnOk Tryd.prog 102 := ⟨Tryd.f102, by kernel_rfl, by kernel_rfl, by kernel_rfl⟩
theorem fn103 : FnOk Tryd.prog 103 := ⟨Tryd.f103, by kernel_rfl, by kernel_rfl, by kernel_rfl⟩
theorem fn106 : FnOk Tryd.prog 106 := ⟨Tryd.f106, by kernel_rfl, by kernel_rfl, by kernel_rfl⟩
theorem fn107 : FnOk Tryd.prog 107 := ⟨Tryd.f107, by kernel_rfl, by kernel_rfl, by kernel_rfl⟩
theorem fn108 : FnOk Tryd.prog 108 := ⟨Tryd.f108, by kernel_rfl, by kernel_rfl, by kernel_rfl⟩
theorem fn109 : FnOk Tryd.prog 109 := ⟨Tryd.f109, by kernel_rfl, by kernel_rfl, by kernel_rfl⟩
theorem fn110 : FnOk Tryd.prog 110 := ⟨Tryd.f110, by kernel_rfl, by kernel_rfl, by kernel_rfl⟩
theorem fn111 : FnOk Tryd.prog 111 := ⟨Tryd.f111, by kernel_rfl, by kernel_rfl, by kernel_rfl⟩
theorem fn112 : FnOk Tryd.prog 112 := ⟨Tryd.f112, by kernel_rfl, by kernel_rfl, by kernel_rfl⟩
theorem fn113 : FnOk Tryd.prog 113 := ⟨Tryd.f113, by kernel_rfl, by kernel_rfl, by kernel_rfl⟩
theorem fn114 : FnOk Tryd.prog 114 := ⟨Tryd.f114, by kernel_rfl, by kernel_rfl, by kernel_rfl⟩
theorem fn115 : FnOk Tryd.prog 115 := ⟨Tryd.f115, by kernel_rfl, by kernel_rfl, by kernel_rfl⟩
theorem fn116 : FnOk Tryd.prog 116 := ⟨Tryd.f116, by kernel_rfl, by kernel_rfl, by kernel_rfl⟩
theorem fn117 : FnOk Tryd.prog 117 := ⟨Tryd.f117, by kernel_rfl, by kernel_rfl, by kernel_rfl⟩
theorem fn118 : FnOk Tryd.prog 118 := ⟨Tryd.f118, by kernel_rfl, by kernel_rfl, by kernel_rfl⟩
theorem fn119 : FnOk Tryd.prog 119 := ⟨Tryd.f119, by kernel_rfl, by kernel_rfl, by kernel_rfl⟩
theorem fn120 : FnOk Tryd.prog 120 := ⟨Tryd.f120, by kernel_rfl, by kernel_rfl, by kernel_rfl⟩
theorem fn121 : FnOk Tryd.prog 121 := ⟨Tryd.f121, by kernel_rfl, by kernel_rfl, by kernel_rfl⟩
theorem fn122 : FnOk Tryd.prog 122 := ⟨Tryd.f122, by kernel_rfl, by kernel_rfl, by kernel_rfl⟩
theorem fn123 : FnOk Tryd.prog 123 := ⟨Tryd.f123, by kernel_rfl, by kernel_rfl, by kernel_rfl⟩
theorem fn124 : FnOk Tryd.prog 124 := ⟨Tryd.f124, by kernel_rfl, by kernel_rfl, by kernel_rfl⟩
theorem fn125 : FnOk Tryd.prog 125 := ⟨Tryd.f125, by kernel_rfl, by kernel_rfl, by kernel_rfl⟩
theorem fn129 : FnOk Tryd.prog 129 := ⟨Tryd.f129, by kernel_rfl, by kernel_rfl, by kernel_rfl⟩
theorem fn130 : FnOk Tryd.prog 130 := ⟨Tryd.f130, by kernel_rfl, by kernel_rfl, by kernel_rfl⟩
theorem fn135 : FnOk Tryd.prog 135 := ⟨Tryd.f135, by kernel_rfl, by kernel_rfl, by kernel_rfl⟩
theorem fn136 : FnOk Tryd.prog 136 := ⟨Tryd.f136, by kernel_rfl, by kernel_rfl, by kernel_rfl⟩
theorem fn137 : FnOk Tryd.prog 137 := ⟨Tryd.f137, by kernel_rfl, by kernel_rfl, by kernel_rfl⟩
theorem mixed : Tryd.prog.follows .mixedOrders = true := by kernel_rfl
end Go.Proofs.YtnnkgdijaekcfaaDoor
