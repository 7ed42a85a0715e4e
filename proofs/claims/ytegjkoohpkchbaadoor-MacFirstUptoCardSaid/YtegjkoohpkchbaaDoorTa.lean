/- The facts of this seat's tables that the walks ask for: printed by a program. -/
import Derived.Test.YtegjkoohpkchbaaDoorLg
import Derived.Test.YtegjkoohpkchbaaDoorChecked
import Derived.KernelRfl
namespace Go.Proofs.YtegjkoohpkchbaaDoor
open Go
set_option maxRecDepth 100000

theorem ti2 : TI Tryd.prog 2 1 8 (I 0) := ⟨Tryd.t2, by kernel_rfl, by kernel_rfl, by kernel_rfl, by kernel_rfl⟩
theorem ti3 : TI Tryd.prog 3 1 8 (I 0) := ⟨Tryd.t3, by kernel_rfl, by kernel_rfl, by kernel_rfl, by kernel_rfl⟩
theorem ti4 : TI Tryd.prog 4 1 1 (.bool false) := ⟨Tryd.t4, by kernel_rfl, by kernel_rfl, by kernel_rfl, by kernel_rfl⟩
theorem ti5 : TI Tryd.prog 5 1 1 (B8 0#8) := ⟨Tryd.t5, by kernel_rfl, by kernel_rfl, by kernel_rfl, by kernel_rfl⟩
theorem ti9 : TI Tryd.prog 9 1 16 (.string .empty) := ⟨Tryd.t9, by kernel_rfl, by kernel_rfl, by kernel_rfl, by kernel_rfl⟩
theorem ti12 : TI Tryd.prog 12 1 8 (U64 0#64) := ⟨Tryd.t12, by kernel_rfl, by kernel_rfl, by kernel_rfl, by kernel_rfl⟩
theorem ti13 : TI Tryd.prog 13 2 24 (.agg ([(.string .empty), (U64 0#64)]).toArray) := ⟨Tryd.t13, by kernel_rfl, by kernel_rfl, by kernel_rfl, by kernel_rfl⟩
theorem ti21 : TI Tryd.prog 21 1 4 (.int .i32 0) := ⟨Tryd.t21, by kernel_rfl, by kernel_rfl, by kernel_rfl, by kernel_rfl⟩
theorem ti22 : TI Tryd.prog 22 1 24 (.slice none 0 0) := ⟨Tryd.t22, by kernel_rfl, by kernel_rfl, by kernel_rfl, by kernel_rfl⟩
theorem ti24 : TI Tryd.prog 24 32 32 (.agg ((List.replicate 32 0#8).map B8).toArray) := ⟨Tryd.t24, by kernel_rfl, by kernel_rfl, by kernel_rfl, by kernel_rfl⟩
theorem eqa24 : EqA Tryd.prog 24 .u8 32 := ⟨5, Tryd.t5, by kernel_rfl, by kernel_rfl, by kernel_rfl, by kernel_rfl, by kernel_rfl⟩
theorem ti25 : TI Tryd.prog 25 32 32 (.agg ((List.replicate 32 0#8).map B8).toArray) := ⟨Tryd.t25, by kernel_rfl, by kernel_rfl, by kernel_rfl, by kernel_rfl⟩
theorem eqa25 : EqA Tryd.prog 25 .u8 32 := ⟨5, Tryd.t5, by kernel_rfl, by kernel_rfl, by kernel_rfl, by kernel_rfl, by kernel_rfl⟩
theorem ti28 : TI Tryd.prog 28 1 4 (U32 0#32) := ⟨Tryd.t28, by kernel_rfl, by kernel_rfl, by kernel_rfl, by kernel_rfl⟩
theorem ti29 : TI Tryd.prog 29 8 32 (.agg ((List.replicate 8 0#32).map U32).toArray) := ⟨Tryd.t29, by kernel_rfl, by kernel_rfl, by kernel_rfl, by kernel_rfl⟩
theorem eqa29 : EqA Tryd.prog 29 .u32 8 := ⟨28, Tryd.t28, by kernel_rfl, by kernel_rfl, by kernel_rfl, by kernel_rfl, by kernel_rfl⟩
theorem ti30 : TI Tryd.prog 30 1 8 (I 0) := ⟨Tryd.t30, by kernel_rfl, by kernel_rfl, by kernel_rfl, by kernel_rfl⟩
theorem ti40 : TI Tryd.prog 40 1 24 (.slice none 0 0) := ⟨Tryd.t40, by kernel_rfl, by kernel_rfl, by kernel_rfl, by kernel_rfl⟩
theorem ti41 : TI Tryd.prog 41 1 8 (.pointer none) := ⟨Tryd.t41, by kernel_rfl, by kernel_rfl, by kernel_rfl, by kernel_rfl⟩
theorem ti61 : TI Tryd.prog 61 1 8 (U64 0#64) := ⟨Tryd.t61, by kernel_rfl, by kernel_rfl, by kernel_rfl, by kernel_rfl⟩
theorem ti62 : TI Tryd.prog 62 64 256 (.agg ((List.replicate 64 0#32).map U32).toArray) := ⟨Tryd.t62, by kernel_rfl, by kernel_rfl, by kernel_rfl, by kernel_rfl⟩
theorem eqa62 : EqA Tryd.prog 62 .u32 64 := ⟨28, Tryd.t28, by kernel_rfl, by kernel_rfl, by kernel_rfl, by kernel_rfl, by kernel_rfl⟩
theorem ti69 : TI Tryd.prog 69 1 8 (U64 0#64) := ⟨Tryd.t69, by kernel_rfl, by kernel_rfl, by kernel_rfl, by kernel_rfl⟩
theorem ti71 : TI Tryd.prog 71 10 64 (.agg ((List.replicate 8 0#32).map U32 ++ [(.slice none 0 0), (I 0)]).toArray) := ⟨Tryd.t71, by kernel_rfl, by kernel_rfl, by kernel_rfl, by kernel_rfl⟩
theorem ti72 : TI Tryd.prog 72 10 64 (.agg ((List.replicate 8 0#32).map U32 ++ [(.slice none 0 0), (I 0)]).toArray) := ⟨Tryd.t72, by kernel_rfl, by kernel_rfl, by kernel_rfl, by kernel_rfl⟩
theorem ti74 : TI Tryd.prog 74 64 64 (.agg ((List.replicate 64 0#8).map B8).toArray) := ⟨Tryd.t74, by kernel_rfl, by kernel_rfl, by kernel_rfl, by kernel_rfl⟩
theorem eqa74 : EqA Tryd.prog 74 .u8 64 := ⟨5, Tryd.t5, by kernel_rfl, by kernel_rfl, by kernel_rfl, by kernel_rfl, by kernel_rfl⟩
theorem ti75 : TI Tryd.prog 75 64 64 (.agg ((List.replicate 64 0#8).map B8).toArray) := ⟨Tryd.t75, by kernel_rfl, by kernel_rfl, by kernel_rfl, by kernel_rfl⟩
theorem eqa75 : EqA Tryd.prog 75 .u8 64 := ⟨5, Tryd.t5, by kernel_rfl, by kernel_rfl, by kernel_rfl, by kernel_rfl, by kernel_rfl⟩
theorem ti88 : TI Tryd.prog 88 1 8 (.pointer none) := ⟨Tryd.t88, by kernel_rfl, by kernel_rfl, by kernel_rfl, by kernel_rfl⟩
theorem ti93 : TI Tryd.prog 93 1 8 (.pointer none) := ⟨Tryd.t93, by kernel_rfl, by kernel_rfl, by kernel_rfl, by kernel_rfl⟩
theorem fn3 : FnOk Tryd.prog 3 := ⟨Tryd.f3, by kernel_rfl, by kernel_rfl, by kernel_rfl⟩
theorem fn4 : FnOk Tryd.prog 4 := ⟨Tryd.f4, by kernel_rfl, by kernel_rfl, by kernel_rfl⟩
theorem fn5 : FnOk Tryd.prog 5 := ⟨Tryd.f5, by kernel_rfl, by kernel_rfl, by kernel_rfl⟩
theorem fn6 : FnOk Tryd.prog 6 := ⟨Tryd.f6, by kernel_rfl, by kernel_rfl, by kernel_rfl⟩
theorem fn7 : FnOk Tryd.prog 7 := ⟨Tryd.f7, by kernel_rfl, by kernel_rfl, by kernel_rfl⟩
theorem fn8 : FnOk Tryd.prog 8 := ⟨Tryd.f8, by kernel_rfl, by kernel_rfl, by kernel_rfl⟩
theorem fn9 : FnOk Tryd.prog 9 := ⟨Tryd.f9, by kernel_rfl, by kernel_rfl, by kernel_rfl⟩
theorem fn10 : FnOk Tryd.prog 10 := ⟨Tryd.f10, by kernel_rfl, by kernel_rfl, by kernel_rfl⟩
theorem fn11 : FnOk Tryd.prog 11 := ⟨Tryd.f11, by kernel_rfl, by kernel_rfl, by kernel_rfl⟩
theorem fn12 : FnOk Tryd.prog 12 := ⟨Tryd.f12, by kernel_rfl, by kernel_rfl, by kernel_rfl⟩
theorem fn13 : FnOk Tryd.prog 13 := ⟨Tryd.f13, by kernel_rfl, by kernel_rfl, by kernel_rfl⟩
theorem fn14 : FnOk Tryd.prog 14 := ⟨Tryd.f14, by kernel_rfl, by kernel_rfl, by kernel_rfl⟩
theorem fn15 : FnOk Tryd.prog 15 := ⟨Tryd.f15, by kernel_rfl, by kernel_rfl, by kernel_rfl⟩
theorem fn16 : FnOk Tryd.prog 16 := ⟨Tryd.f16, by kernel_rfl, by kernel_rfl, by kernel_rfl⟩
theorem fn17 : FnOk Tryd.prog 17 := ⟨Tryd.f17, by kernel_rfl, by kernel_rfl, by kernel_rfl⟩
theorem fn18 : FnOk Tryd.prog 18 := ⟨Tryd.f18, by kernel_rfl, by kernel_rfl, by kernel_rfl⟩
theorem fn19 : FnOk Tryd.prog 19 := ⟨Tryd.f19, by kernel_rfl, by kernel_rfl, by kernel_rfl⟩
theorem fn20 : FnOk Tryd.prog 20 := ⟨Tryd.f20, by kernel_rfl, by kernel_rfl, by kernel_rfl⟩
theorem fn21 : FnOk Tryd.prog 21 := ⟨Tryd.f21, by kernel_rfl, by kernel_rfl, by kernel_rfl⟩
theorem fn22 : FnOk Tryd.prog 22 := ⟨Tryd.f22, by kernel_rfl, by kernel_rfl, by kernel_rfl⟩
theorem fn23 : FnOk Tryd.prog 23 := ⟨Tryd.f23, by kernel_rfl, by kernel_rfl, by kernel_rfl⟩
theorem fn24 : FnOk Tryd.prog 24 := ⟨Tryd.f24, by kernel_rfl, by kernel_rfl, by kernel_rfl⟩
theorem fn25 : FnOk Tryd.prog 25 := ⟨Tryd.f25, by kernel_rfl, by kernel_rfl, by kernel_rfl⟩
theorem fn26 : FnOk Tryd.prog 26 := ⟨Tryd.f26, by kernel_rfl, by kernel_rfl, by kernel_rfl⟩
theorem fn27 : FnOk Tryd.prog 27 := ⟨Tryd.f27, by kernel_rfl, by kernel_rfl, by kernel_rfl⟩
theorem fn28 : FnOk Tryd.prog 28 := ⟨Tryd.f28, by kernel_rfl, by kernel_rfl, by kernel_rfl⟩
theorem fn29 : FnOk Tryd.prog 29 := ⟨Tryd.f29, by kernel_rfl, by kernel_rfl, by kernel_rfl⟩
theorem fn30 : FnOk Tryd.prog 30 := ⟨Tryd.f30, by kernel_rfl, by kernel_rfl, by kernel_rfl⟩
theorem fn31 : FnOk Tryd.prog 31 := ⟨Tryd.f31, by kernel_rfl, by kernel_rfl, by kernel_rfl⟩
theorem fn32 : FnOk Tryd.prog 32 := ⟨Tryd.f32, by kernel_rfl, by kernel_rfl, by kernel_rfl⟩
theorem fn33 : FnOk Tryd.prog 33 := ⟨Tryd.f33, by kernel_rfl, by kernel_rfl, by kernel_rfl⟩
theorem fn34 : FnOk Tryd.prog 34 := ⟨Tryd.f34, by kernel_rfl, by kernel_rfl, by kernel_rfl⟩
theorem fn35 : FnOk Tryd.prog 35 := ⟨Tryd.f35, by kernel_rfl, by kernel_rfl, by kernel_rfl⟩
theorem fn36 : FnOk Tryd.prog 36 := ⟨Tryd.f36, by kernel_rfl, by kernel_rfl, by kernel_rfl⟩
theorem fn37 : FnOk Tryd.prog 37 := ⟨Tryd.f37, by kernel_rfl, by kernel_rfl, by kernel_rfl⟩
theorem fn38 : FnOk Tryd.prog 38 := ⟨Tryd.f38, by kernel_rfl, by kernel_rfl, by kernel_rfl⟩
theorem fn39 : FnOk Tryd.prog 39 := ⟨Tryd.f39, by kernel_rfl, by kernel_rfl, by kernel_rfl⟩
theorem fn40 : FnOk Tryd.prog 40 := ⟨Tryd.f40, by kernel_rfl, by kernel_rfl, by kernel_rfl⟩
theorem fn41 : FnOk Tryd.prog 41 := ⟨Tryd.f41, by kernel_rfl, by kernel_rfl, by kernel_rfl⟩
theorem fn42 : FnOk Tryd.prog 42 := ⟨Tryd.f42, by kernel_rfl, by kernel_rfl, by kernel_rfl⟩
theorem fn43 : FnOk Tryd.prog 43 := ⟨Tryd.f43, by kernel_rfl, by kernel_rfl, by kernel_rfl⟩
theorem fn44 : FnOk Tryd.prog 44 := ⟨Tryd.f44, by kernel_rfl, by kernel_rfl, by kernel_rfl⟩
theorem fn45 : FnOk Tryd.prog 45 := ⟨Tryd.f45, by kernel_rfl, by kernel_rfl, by kernel_rfl⟩
theorem fn46 : FnOk Tryd.prog 46 := ⟨Tryd.f46, by kernel_rfl, by kernel_rfl, by kernel_rfl⟩
theorem fn47 : FnOk Tryd.prog 47 := ⟨Tryd.f47, by kernel_rfl, by kernel_rfl, by kernel_rfl⟩
theorem fn48 : FnOk Tryd.prog 48 := ⟨Tryd.f48, by kernel_rfl, by kernel_rfl, by kernel_rfl⟩
theorem mixed : Tryd.prog.follows .mixedOrders = true := by kernel_rfl
end Go.Proofs.YtegjkoohpkchbaaDoor
