/- The facts of this seat's tables that the walks ask for: printed by a program. -/
import Derived.Test.YtnnkgdijaekcfaaDoorLl
import Derived.Test.YtnnkgdijaekcfaaDoorChecked
import Derived.KernelRfl
namespace Go.Proofs.YtnnkgdijaekcfaaDoor
open Go
set_option maxRecDepth 100000

theorem ti3 : TI Tryd.prog 3 1 8 (I 0) := ⟨Tryd.t3, by kernel_rfl, by kernel_rfl, by kernel_rfl, by kernel_rfl⟩
theorem ti5 : TI Tryd.prog 5 1 1 (B8 0#8) := ⟨Tryd.t5, by kernel_rfl, by kernel_rfl, by kernel_rfl, by kernel_rfl⟩
theorem ti22 : TI Tryd.prog 22 1 24 (.slice none 0 0) := ⟨Tryd.t22, by kernel_rfl, by kernel_rfl, by kernel_rfl, by kernel_rfl⟩
theorem ti24 : TI Tryd.prog 24 32 32 (.agg ((List.replicate 32 0#8).map B8).toArray) := ⟨Tryd.t24, by kernel_rfl, by kernel_rfl, by kernel_rfl, by kernel_rfl⟩
theorem eqa24 : EqA Tryd.prog 24 .u8 32 := ⟨5, Tryd.t5, by kernel_rfl, by kernel_rfl, by kernel_rfl, by kernel_rfl, by kernel_rfl⟩
theorem ti25 : TI Tryd.prog 25 1 24 (.slice none 0 0) := ⟨Tryd.t25, by kernel_rfl, by kernel_rfl, by kernel_rfl, by kernel_rfl⟩
theorem ti27 : TI Tryd.prog 27 3 56 (.agg ([(I 0), (.slice none 0 0), (.slice none 0 0)]).toArray) := ⟨Tryd.t27, by kernel_rfl, by kernel_rfl, by kernel_rfl, by kernel_rfl⟩
theorem ti41 : TI Tryd.prog 41 1 8 (I 0) := ⟨Tryd.t41, by kernel_rfl, by kernel_rfl, by kernel_rfl, by kernel_rfl⟩
theorem ti48 : TI Tryd.prog 48 1 8 (.pointer none) := ⟨Tryd.t48, by kernel_rfl, by kernel_rfl, by kernel_rfl, by kernel_rfl⟩
theorem ti64 : TI Tryd.prog 64 37 104 (.agg ([(I 0), (I 0), (I 0), (Value.slice none 0 0), (Value.slice none 0 0)] ++ (List.replicate 32 0#8).map B8).toArray) := ⟨Tryd.t64, by kernel_rfl, by kernel_rfl, by kernel_rfl, by kernel_rfl⟩
theorem ti78 : TI Tryd.prog 78 7 56 (.agg ([(I 0), (I 0), (I 0), (I 0), (I 0), (I 0), (I 0)]).toArray) := ⟨Tryd.t78, by kernel_rfl, by kernel_rfl, by kernel_rfl, by kernel_rfl⟩
theorem ti130 : TI Tryd.prog 130 3 24 (.agg ([(I 0), (I 0), (I 0)]).toArray) := ⟨Tryd.t130, by kernel_rfl, by kernel_rfl, by kernel_rfl, by kernel_rfl⟩
theorem ti133 : TI Tryd.prog 133 1 8 (.pointer none) := ⟨Tryd.t133, by kernel_rfl, by kernel_rfl, by kernel_rfl, by kernel_rfl⟩
theorem ti149 : TI Tryd.prog 149 2 48 (.agg ([(.slice none 0 0), (.slice none 0 0)]).toArray) := ⟨Tryd.t149, by kernel_rfl, by kernel_rfl, by kernel_rfl, by kernel_rfl⟩
theorem ti161 : TI Tryd.prog 161 32 32 (.agg ((List.replicate 32 0#8).map B8).toArray) := ⟨Tryd.t161, by kernel_rfl, by kernel_rfl, by kernel_rfl, by kernel_rfl⟩
theorem ti173 : TI Tryd.prog 173 64 64 (.agg ((List.replicate 64 0#8).map B8).toArray) := ⟨Tryd.t173, by kernel_rfl, by kernel_rfl, by kernel_rfl, by kernel_rfl⟩
theorem ti179 : TI Tryd.prog 179 1 4 (U32 0#32) := ⟨Tryd.t179, by kernel_rfl, by kernel_rfl, by kernel_rfl, by kernel_rfl⟩
theorem ti180 : TI Tryd.prog 180 8 32 (.agg ((List.replicate 8 0#32).map U32).toArray) := ⟨Tryd.t180, by kernel_rfl, by kernel_rfl, by kernel_rfl, by kernel_rfl⟩
theorem ti193 : TI Tryd.prog 193 64 256 (.agg ((List.replicate 64 0#32).map U32).toArray) := ⟨Tryd.t193, by kernel_rfl, by kernel_rfl, by kernel_rfl, by kernel_rfl⟩
theorem ti199 : TI Tryd.prog 199 65 65 (.agg ((List.replicate 65 0#8).map B8).toArray) := ⟨Tryd.t199, by kernel_rfl, by kernel_rfl, by kernel_rfl, by kernel_rfl⟩
theorem fn17 : FnOk Tryd.prog 17 := ⟨Tryd.f17, by kernel_rfl, by kernel_rfl, by kernel_rfl⟩
theorem fn20 : FnOk Tryd.prog 20 := ⟨Tryd.f20, by kernel_rfl, by kernel_rfl, by kernel_rfl⟩
theorem fn27 : FnOk Tryd.prog 27 := ⟨Tryd.f27, by kernel_rfl, by kernel_rfl, by kernel_rfl⟩
theorem fn28 : FnOk Tryd.prog 28 := ⟨Tryd.f28, by kernel_rfl, by kernel_rfl, by kernel_rfl⟩
theorem fn29 : FnOk Tryd.prog 29 := ⟨Tryd.f29, by kernel_rfl, by kernel_rfl, by kernel_rfl⟩
theorem fn35 : FnOk Tryd.prog 35 := ⟨Tryd.f35, by kernel_rfl, by kernel_rfl, by kernel_rfl⟩
theorem fn36 : FnOk Tryd.prog 36 := ⟨Tryd.f36, by kernel_rfl, by kernel_rfl, by kernel_rfl⟩
theorem fn39 : FnOk Tryd.prog 39 := ⟨Tryd.f39, by kernel_rfl, by kernel_rfl, by kernel_rfl⟩
theorem fn42 : FnOk Tryd.prog 42 := ⟨Tryd.f42, by kernel_rfl, by kernel_rfl, by kernel_rfl⟩
theorem fn47 : FnOk Tryd.prog 47 := ⟨Tryd.f47, by kernel_rfl, by kernel_rfl, by kernel_rfl⟩
theorem fn48 : FnOk Tryd.prog 48 := ⟨Tryd.f48, by kernel_rfl, by kernel_rfl, by kernel_rfl⟩
theorem fn50 : FnOk Tryd.prog 50 := ⟨Tryd.f50, by kernel_rfl, by kernel_rfl, by kernel_rfl⟩
theorem fn53 : FnOk Tryd.prog 53 := ⟨Tryd.f53, by kernel_rfl, by kernel_rfl, by kernel_rfl⟩
theorem fn54 : FnOk Tryd.prog 54 := ⟨Tryd.f54, by kernel_rfl, by kernel_rfl, by kernel_rfl⟩
theorem fn58 : FnOk Tryd.prog 58 := ⟨Tryd.f58, by kernel_rfl, by kernel_rfl, by kernel_rfl⟩
theorem fn64 : FnOk Tryd.prog 64 := ⟨Tryd.f64, by kernel_rfl, by kernel_rfl, by kernel_rfl⟩
theorem fn65 : FnOk Tryd.prog 65 := ⟨Tryd.f65, by kernel_rfl, by kernel_rfl, by kernel_rfl⟩
theorem fn66 : FnOk Tryd.prog 66 := ⟨Tryd.f66, by kernel_rfl, by kernel_rfl, by kernel_rfl⟩
theorem fn67 : FnOk Tryd.prog 67 := ⟨Tryd.f67, by kernel_rfl, by kernel_rfl, by kernel_rfl⟩
theorem fn68 : FnOk Tryd.prog 68 := ⟨Tryd.f68, by kernel_rfl, by kernel_rfl, by kernel_rfl⟩
theorem fn69 : FnOk Tryd.prog 69 := ⟨Tryd.f69, by kernel_rfl, by kernel_rfl, by kernel_rfl⟩
theorem fn70 : FnOk Tryd.prog 70 := ⟨Tryd.f70, by kernel_rfl, by kernel_rfl, by kernel_rfl⟩
theorem fn71 : FnOk Tryd.prog 71 := ⟨Tryd.f71, by kernel_rfl, by kernel_rfl, by kernel_rfl⟩
theorem fn72 : FnOk Tryd.prog 72 := ⟨Tryd.f72, by kernel_rfl, by kernel_rfl, by kernel_rfl⟩
theorem fn73 : FnOk Tryd.prog 73 := ⟨Tryd.f73, by kernel_rfl, by kernel_rfl, by kernel_rfl⟩
theorem fn74 : FnOk Tryd.prog 74 := ⟨Tryd.f74, by kernel_rfl, by kernel_rfl, by kernel_rfl⟩
theorem fn75 : FnOk Tryd.prog 75 := ⟨Tryd.f75, by kernel_rfl, by kernel_rfl, by kernel_rfl⟩
theorem fn80 : FnOk Tryd.prog 80 := ⟨Tryd.f80, by kernel_rfl, by kernel_rfl, by kernel_rfl⟩
theorem fn81 : FnOk Tryd.prog 81 := ⟨Tryd.f81, by kernel_rfl, by kernel_rfl, by kernel_rfl⟩
theorem fn82 : FnOk Tryd.prog 82 := ⟨Tryd.f82, by kernel_rfl, by kernel_rfl, by kernel_rfl⟩
theorem fn85 : FnOk Tryd.prog 85 := ⟨Tryd.f85, by kernel_rfl, by kernel_rfl, by kernel_rfl⟩
theorem fn86 : FnOk Tryd.prog 86 := ⟨Tryd.f86, by kernel_rfl, by kernel_rfl, by kernel_rfl⟩
theorem fn87 : FnOk Tryd.prog 87 := ⟨Tryd.f87, by kernel_rfl, by kernel_rfl, by kernel_rfl⟩
theorem fn90 : FnOk Tryd.prog 90 := ⟨Tryd.f90, by kernel_rfl, by kernel_rfl, by kernel_rfl⟩
theorem fn91 : FnOk Tryd.prog 91 := ⟨Tryd.f91, by kernel_rfl, by kernel_rfl, by kernel_rfl⟩
theorem fn92 : FnOk Tryd.prog 92 := ⟨Tryd.f92, by kernel_rfl, by kernel_rfl, by kernel_rfl⟩
theorem fn96 : FnOk Tryd.prog 96 := ⟨Tryd.f96, by kernel_rfl, by kernel_rfl, by kernel_rfl⟩
theorem fn98 : FnOk Tryd.prog 98 := ⟨Tryd.f98, by kernel_rfl, by kernel_rfl, by kernel_rfl⟩
theorem fn106 : FnOk Tryd.prog 106 := ⟨Tryd.f106, by kernel_rfl, by kernel_rfl, by kernel_rfl⟩
theorem fn107 : FnOk Tryd.prog 107 := ⟨Tryd.f107, by kernel_rfl, by kernel_rfl, by kernel_rfl⟩
theorem fn108 : FnOk Tryd.prog 108 := ⟨Tryd.f108, by kernel_rfl, by kernel_rfl, by kernel_rfl⟩
theorem fn109 : FnOk Tryd.prog 109 := ⟨Tryd.f109, by kernel_rfl, by kernel_rfl, by kernel_rfl⟩
theorem fn110 : FnOk Tryd.prog 110 := ⟨Tryd.f110, by kernel_rfl, by kernel_rfl, by kernel_rfl⟩
theorem fn111 : FnOk Tryd.prog 111 := ⟨Tryd.f111, by kernel_rfl, by kernel_rfl, by kernel_rfl⟩
theorem fn112 : FnOk Tryd.prog 112 := ⟨Tryd.f112, by kernel_rfl, by kernel_rfl, by kernel_rfl⟩
theorem fn113 : FnOk Tryd.prog 113 := ⟨Tryd.f113, by kernel_rfl, by kernel_rfl, by kernel_rfl⟩
theorem fn114 : FnOk Tryd.prog 114 := ⟨Tryd.f114, by kernel_rfl, by kernel_rfl, by kernel_rfl⟩
theorem fn115 : FnOk Tryd.prog 115 := ⟨Tryd.f115, by kernel_rfl, by kernel_rfl, by kernel_rfl⟩
theorem fn116 : FnOk Tryd.prog 116 := ⟨Tryd.f116, by kernel_rfl, by kernel_rfl, by kernel_rfl⟩
theorem fn117 : FnOk Tryd.prog 117 := ⟨Tryd.f117, by kernel_rfl, by kernel_rfl, by kernel_rfl⟩
theorem fn118 : FnOk Tryd.prog 118 := ⟨Tryd.f118, by kernel_rfl, by kernel_rfl, by kernel_rfl⟩
theorem fn119 : FnOk Tryd.prog 119 := ⟨Tryd.f119, by kernel_rfl, by kernel_rfl, by kernel_rfl⟩
theorem fn120 : FnOk Tryd.prog 120 := ⟨Tryd.f120, by kernel_rfl, by kernel_rfl, by kernel_rfl⟩
theorem fn121 : FnOk Tryd.prog 121 := ⟨Tryd.f121, by kernel_rfl, by kernel_rfl, by kernel_rfl⟩
theorem fn123 : FnOk Tryd.prog 123 := ⟨Tryd.f123, by kernel_rfl, by kernel_rfl, by kernel_rfl⟩
theorem fn124 : FnOk Tryd.prog 124 := ⟨Tryd.f124, by kernel_rfl, by kernel_rfl, by kernel_rfl⟩
theorem fn125 : FnOk Tryd.prog 125 := ⟨Tryd.f125, by kernel_rfl, by kernel_rfl, by kernel_rfl⟩
theorem fn128 : FnOk Tryd.prog 128 := ⟨Tryd.f128, by kernel_rfl, by kernel_rfl, by kernel_rfl⟩
theorem fn129 : FnOk Tryd.prog 129 := ⟨Tryd.f129, by kernel_rfl, by kernel_rfl, by kernel_rfl⟩
theorem fn130 : FnOk Tryd.prog 130 := ⟨Tryd.f130, by kernel_rfl, by kernel_rfl, by kernel_rfl⟩
theorem fn135 : FnOk Tryd.prog 135 := ⟨Tryd.f135, by kernel_rfl, by kernel_rfl, by kernel_rfl⟩
theorem fn136 : FnOk Tryd.prog 136 := ⟨Tryd.f136, by kernel_rfl, by kernel_rfl, by kernel_rfl⟩
theorem fn137 : FnOk Tryd.prog 137 := ⟨Tryd.f137, by kernel_rfl, by kernel_rfl, by kernel_rfl⟩
theorem mixed : Tryd.prog.follows .mixedOrders = true := by kernel_rfl
end Go.Proofs.YtnnkgdijaekcfaaDoor
