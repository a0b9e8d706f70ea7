/-
 What the loader's facts say of the program on the side: the same types, the same functions but one.
 Conditions: none.
-/
import Derived.Test.YtjgleaakgbnjgaaStar0
import Derived.KernelRfl
set_option linter.unusedSimpArgs false
set_option linter.unusedVariables false
namespace Go.Proofs
@[simp] theorem Star.call9 : ∀ (args : Array Go.Value) (w : Go.World), Go.Sem.run Star.prog (Go.callFunc 9 args) w = Go.Result.ok (Go.Next.enter 9 args) w := by intros; kernel_rfl
@[simp] theorem Star.call10 : ∀ (args : Array Go.Value) (w : Go.World), Go.Sem.run Star.prog (Go.callFunc 10 args) w = Go.Result.ok (Go.Next.enter 10 args) w := by intros; kernel_rfl
@[simp] theorem Star.call11 : ∀ (args : Array Go.Value) (w : Go.World), Go.Sem.run Star.prog (Go.callFunc 11 args) w = Go.Result.ok (Go.Next.enter 11 args) w := by intros; kernel_rfl
@[simp] theorem Star.call24 : ∀ (args : Array Go.Value) (w : Go.World), Go.Sem.run Star.prog (Go.callFunc 24 args) w = Go.Result.ok (Go.Next.enter 24 args) w := by intros; kernel_rfl
@[simp] theorem Star.call26 : ∀ (args : Array Go.Value) (w : Go.World), Go.Sem.run Star.prog (Go.callFunc 26 args) w = Go.Result.ok (Go.Next.enter 26 args) w := by intros; kernel_rfl
@[simp] theorem Star.call58 : ∀ (args : Array Go.Value) (w : Go.World), Go.Sem.run Star.prog (Go.callFunc 58 args) w = Go.Result.ok (Go.Next.enter 58 args) w := by intros; kernel_rfl
@[simp] theorem Star.call79 : ∀ (args : Array Go.Value) (w : Go.World), Go.Sem.run Star.prog (Go.callFunc 79 args) w = Go.Result.ok (Go.Next.enter 79 args) w := by intros; kernel_rfl
@[simp] theorem Star.call80 : ∀ (args : Array Go.Value) (w : Go.World), Go.Sem.run Star.prog (Go.callFunc 80 args) w = Go.Result.ok (Go.Next.enter 80 args) w := by intros; kernel_rfl
@[simp] theorem Star.call82 : ∀ (args : Array Go.Value) (w : Go.World), Go.Sem.run Star.prog (Go.callFunc 82 args) w = Go.Result.ok (Go.Next.enter 82 args) w := by intros; kernel_rfl
@[simp] theorem Star.call126 : ∀ (args : Array Go.Value) (w : Go.World), Go.Sem.run Star.prog (Go.callFunc 126 args) w = Go.Result.ok (Go.Next.enter 126 args) w := by intros; kernel_rfl
@[simp] theorem Star.func4 : Star.prog.funcs[4]? = some Try.f4 := by intros; kernel_rfl
@[simp] theorem Star.func9 : Star.prog.funcs[9]? = some Try.f9 := by intros; kernel_rfl
@[simp] theorem Star.func10 : Star.prog.funcs[10]? = some Star.f10 := by intros; kernel_rfl
@[simp] theorem Star.func11 : Star.prog.funcs[11]? = some Try.f11 := by intros; kernel_rfl
@[simp] theorem Star.func12 : Star.prog.funcs[12]? = some Try.f12 := by intros; kernel_rfl
@[simp] theorem Star.func22 : Star.prog.funcs[22]? = some Try.f22 := by intros; kernel_rfl
@[simp] theorem Star.func23 : Star.prog.funcs[23]? = some Try.f23 := by intros; kernel_rfl
@[simp] theorem Star.func24 : Star.prog.funcs[24]? = some Try.f24 := by intros; kernel_rfl
@[simp] theorem Star.func26 : Star.prog.funcs[26]? = some Try.f26 := by intros; kernel_rfl
@[simp] theorem Star.func27 : Star.prog.funcs[27]? = some Try.f27 := by intros; kernel_rfl
@[simp] theorem Star.func41 : Star.prog.funcs[41]? = some Try.f41 := by intros; kernel_rfl
@[simp] theorem Star.func52 : Star.prog.funcs[52]? = some Try.f52 := by intros; kernel_rfl
@[simp] theorem Star.func57 : Star.prog.funcs[57]? = some Try.f57 := by intros; kernel_rfl
@[simp] theorem Star.func58 : Star.prog.funcs[58]? = some Try.f58 := by intros; kernel_rfl
@[simp] theorem Star.func59 : Star.prog.funcs[59]? = some Try.f59 := by intros; kernel_rfl
@[simp] theorem Star.func60 : Star.prog.funcs[60]? = some Try.f60 := by intros; kernel_rfl
@[simp] theorem Star.func61 : Star.prog.funcs[61]? = some Try.f61 := by intros; kernel_rfl
@[simp] theorem Star.func62 : Star.prog.funcs[62]? = some Try.f62 := by intros; kernel_rfl
@[simp] theorem Star.func63 : Star.prog.funcs[63]? = some Try.f63 := by intros; kernel_rfl
@[simp] theorem Star.func64 : Star.prog.funcs[64]? = some Try.f64 := by intros; kernel_rfl
@[simp] theorem Star.func69 : Star.prog.funcs[69]? = some Try.f69 := by intros; kernel_rfl
@[simp] theorem Star.func71 : Star.prog.funcs[71]? = some Try.f71 := by intros; kernel_rfl
@[simp] theorem Star.func75 : Star.prog.funcs[75]? = some Try.f75 := by intros; kernel_rfl
@[simp] theorem Star.func77 : Star.prog.funcs[77]? = some Try.f77 := by intros; kernel_rfl
@[simp] theorem Star.func78 : Star.prog.funcs[78]? = some Try.f78 := by intros; kernel_rfl
@[simp] theorem Star.func79 : Star.prog.funcs[79]? = some Try.f79 := by intros; kernel_rfl
@[simp] theorem Star.func80 : Star.prog.funcs[80]? = some Try.f80 := by intros; kernel_rfl
@[simp] theorem Star.func81 : Star.prog.funcs[81]? = some Try.f81 := by intros; kernel_rfl
@[simp] theorem Star.func82 : Star.prog.funcs[82]? = some Try.f82 := by intros; kernel_rfl
@[simp] theorem Star.func90 : Star.prog.funcs[90]? = some Try.f90 := by intros; kernel_rfl
@[simp] theorem Star.func91 : Star.prog.funcs[91]? = some Try.f91 := by intros; kernel_rfl
@[simp] theorem Star.func93 : Star.prog.funcs[93]? = some Try.f93 := by intros; kernel_rfl
@[simp] theorem Star.func94 : Star.prog.funcs[94]? = some Try.f94 := by intros; kernel_rfl
@[simp] theorem Star.func96 : Star.prog.funcs[96]? = some Try.f96 := by intros; kernel_rfl
@[simp] theorem Star.func97 : Star.prog.funcs[97]? = some Try.f97 := by intros; kernel_rfl
@[simp] theorem Star.func98 : Star.prog.funcs[98]? = some Try.f98 := by intros; kernel_rfl
@[simp] theorem Star.func101 : Star.prog.funcs[101]? = some Try.f101 := by intros; kernel_rfl
@[simp] theorem Star.func126 : Star.prog.funcs[126]? = some Try.f126 := by intros; kernel_rfl
@[simp] theorem Star.isAgg2 : ∀ (w : Go.World), Go.Sem.run Star.prog (Go.isAgg 2) w = Go.Result.ok false w := by intros; kernel_rfl
@[simp] theorem Star.isAgg4 : ∀ (w : Go.World), Go.Sem.run Star.prog (Go.isAgg 4) w = Go.Result.ok false w := by intros; kernel_rfl
@[simp] theorem Star.isAgg5 : ∀ (w : Go.World), Go.Sem.run Star.prog (Go.isAgg 5) w = Go.Result.ok false w := by intros; kernel_rfl
@[simp] theorem Star.isAgg22 : ∀ (w : Go.World), Go.Sem.run Star.prog (Go.isAgg 22) w = Go.Result.ok false w := by intros; kernel_rfl
@[simp] theorem Star.isAgg24 : ∀ (w : Go.World), Go.Sem.run Star.prog (Go.isAgg 24) w = Go.Result.ok false w := by intros; kernel_rfl
@[simp] theorem Star.isAgg71 : ∀ (w : Go.World), Go.Sem.run Star.prog (Go.isAgg 71) w = Go.Result.ok false w := by intros; kernel_rfl
@[simp] theorem Star.isAgg98 : ∀ (w : Go.World), Go.Sem.run Star.prog (Go.isAgg 98) w = Go.Result.ok false w := by intros; kernel_rfl
@[simp] theorem Star.isAgg127 : ∀ (w : Go.World), Go.Sem.run Star.prog (Go.isAgg 127) w = Go.Result.ok true w := by intros; kernel_rfl
@[simp] theorem Star.isAgg130 : ∀ (w : Go.World), Go.Sem.run Star.prog (Go.isAgg 130) w = Go.Result.ok false w := by intros; kernel_rfl
@[simp] theorem Star.isAgg132 : ∀ (w : Go.World), Go.Sem.run Star.prog (Go.isAgg 132) w = Go.Result.ok true w := by intros; kernel_rfl
@[simp] theorem Star.runUnderlying22 : ∀ (w : Go.World), Go.Sem.run Star.prog (Go.underlying 22) w = Go.Result.ok (Go.TypeDesc.slice 2) w := by intros; kernel_rfl
@[simp] theorem Star.runUnderlying30 : ∀ (w : Go.World), Go.Sem.run Star.prog (Go.underlying 30) w = Go.Result.ok (Go.TypeDesc.struct #[{ name := "Outlay", type := 2, offset := 0, embedded := false, tag := "", pkgPath := "", byteOffset := 0 }, { name := "More", type := 2, offset := 1, embedded := false, tag := "", pkgPath := "", byteOffset := 8 }, { name := "L", type := 22, offset := 2, embedded := false, tag := "", pkgPath := "", byteOffset := 16 }, { name := "At", type := 5, offset := 3, embedded := false, tag := "", pkgPath := "", byteOffset := 40 }]) w := by intros; kernel_rfl
@[simp] theorem Star.runUnderlying127 : ∀ (w : Go.World), Go.Sem.run Star.prog (Go.underlying 127) w = Go.Result.ok (Go.TypeDesc.struct #[{ name := "Hi", type := 2, offset := 0, embedded := false, tag := "", pkgPath := "", byteOffset := 0 }, { name := "Lo", type := 98, offset := 1, embedded := false, tag := "", pkgPath := "", byteOffset := 8 }]) w := by intros; kernel_rfl
@[simp] theorem Star.runUnderlying132 : ∀ (w : Go.World), Go.Sem.run Star.prog (Go.underlying 132) w = Go.Result.ok (Go.TypeDesc.struct #[{ name := "hi", type := 98, offset := 0, embedded := false, tag := "", pkgPath := "lombard/wide", byteOffset := 0 }, { name := "lo", type := 98, offset := 1, embedded := false, tag := "", pkgPath := "lombard/wide", byteOffset := 8 }, { name := "rest", type := 98, offset := 2, embedded := false, tag := "", pkgPath := "lombard/wide", byteOffset := 16 }, { name := "by", type := 98, offset := 3, embedded := false, tag := "", pkgPath := "lombard/wide", byteOffset := 24 }, { name := "less", type := 4, offset := 4, embedded := false, tag := "", pkgPath := "lombard/wide", byteOffset := 32 }]) w := by intros; kernel_rfl
@[simp] theorem Star.runUnderlying133 : ∀ (w : Go.World), Go.Sem.run Star.prog (Go.underlying 133) w = Go.Result.ok (Go.TypeDesc.array 2 130) w := by intros; kernel_rfl
@[simp] theorem Star.sizeOf2 : ∀ (w : Go.World), Go.Sem.run Star.prog (Go.sizeOf 2) w = Go.Result.ok 1 w := by intros; kernel_rfl
@[simp] theorem Star.sizeOf4 : ∀ (w : Go.World), Go.Sem.run Star.prog (Go.sizeOf 4) w = Go.Result.ok 1 w := by intros; kernel_rfl
@[simp] theorem Star.sizeOf5 : ∀ (w : Go.World), Go.Sem.run Star.prog (Go.sizeOf 5) w = Go.Result.ok 1 w := by intros; kernel_rfl
@[simp] theorem Star.sizeOf22 : ∀ (w : Go.World), Go.Sem.run Star.prog (Go.sizeOf 22) w = Go.Result.ok 1 w := by intros; kernel_rfl
@[simp] theorem Star.sizeOf24 : ∀ (w : Go.World), Go.Sem.run Star.prog (Go.sizeOf 24) w = Go.Result.ok 1 w := by intros; kernel_rfl
@[simp] theorem Star.sizeOf71 : ∀ (w : Go.World), Go.Sem.run Star.prog (Go.sizeOf 71) w = Go.Result.ok 1 w := by intros; kernel_rfl
@[simp] theorem Star.sizeOf98 : ∀ (w : Go.World), Go.Sem.run Star.prog (Go.sizeOf 98) w = Go.Result.ok 1 w := by intros; kernel_rfl
@[simp] theorem Star.sizeOf127 : ∀ (w : Go.World), Go.Sem.run Star.prog (Go.sizeOf 127) w = Go.Result.ok 2 w := by intros; kernel_rfl
@[simp] theorem Star.sizeOf130 : ∀ (w : Go.World), Go.Sem.run Star.prog (Go.sizeOf 130) w = Go.Result.ok 1 w := by intros; kernel_rfl
@[simp] theorem Star.sizeOf132 : ∀ (w : Go.World), Go.Sem.run Star.prog (Go.sizeOf 132) w = Go.Result.ok 5 w := by intros; kernel_rfl
@[simp] theorem Star.sizeOf133 : ∀ (w : Go.World), Go.Sem.run Star.prog (Go.sizeOf 133) w = Go.Result.ok 2 w := by intros; kernel_rfl
@[simp] theorem Star.types_size : Star.prog.types.size = 164 := by intros; kernel_rfl
@[simp] theorem Star.underlying2 : Star.prog.underlying 2 = some (Go.TypeDesc.int Go.IntKind.i64) := by intros; kernel_rfl
@[simp] theorem Star.underlying3 : Star.prog.underlying 3 = some (Go.TypeDesc.int Go.IntKind.i64) := by intros; kernel_rfl
@[simp] theorem Star.underlying4 : Star.prog.underlying 4 = some Go.TypeDesc.bool := by intros; kernel_rfl
@[simp] theorem Star.underlying5 : Star.prog.underlying 5 = some (Go.TypeDesc.int Go.IntKind.u8) := by intros; kernel_rfl
@[simp] theorem Star.underlying9 : Star.prog.underlying 9 = some Go.TypeDesc.string := by intros; kernel_rfl
@[simp] theorem Star.underlying22 : Star.prog.underlying 22 = some (Go.TypeDesc.slice 2) := by intros; kernel_rfl
@[simp] theorem Star.underlying30 : Star.prog.underlying 30 = some (Go.TypeDesc.struct #[{ name := "Outlay", type := 2, offset := 0, embedded := false, tag := "", pkgPath := "", byteOffset := 0 }, { name := "More", type := 2, offset := 1, embedded := false, tag := "", pkgPath := "", byteOffset := 8 }, { name := "L", type := 22, offset := 2, embedded := false, tag := "", pkgPath := "", byteOffset := 16 }, { name := "At", type := 5, offset := 3, embedded := false, tag := "", pkgPath := "", byteOffset := 40 }]) := by intros; kernel_rfl
@[simp] theorem Star.underlying98 : Star.prog.underlying 98 = some (Go.TypeDesc.int Go.IntKind.u64) := by intros; kernel_rfl
@[simp] theorem Star.underlying103 : Star.prog.underlying 103 = some (Go.TypeDesc.int Go.IntKind.u64) := by intros; kernel_rfl
@[simp] theorem Star.underlying119 : Star.prog.underlying 119 = some (Go.TypeDesc.int Go.IntKind.i64) := by intros; kernel_rfl
@[simp] theorem Star.underlying127 : Star.prog.underlying 127 = some (Go.TypeDesc.struct #[{ name := "Hi", type := 2, offset := 0, embedded := false, tag := "", pkgPath := "", byteOffset := 0 }, { name := "Lo", type := 98, offset := 1, embedded := false, tag := "", pkgPath := "", byteOffset := 8 }]) := by intros; kernel_rfl
@[simp] theorem Star.underlying132 : Star.prog.underlying 132 = some (Go.TypeDesc.struct #[{ name := "hi", type := 98, offset := 0, embedded := false, tag := "", pkgPath := "lombard/wide", byteOffset := 0 }, { name := "lo", type := 98, offset := 1, embedded := false, tag := "", pkgPath := "lombard/wide", byteOffset := 8 }, { name := "rest", type := 98, offset := 2, embedded := false, tag := "", pkgPath := "lombard/wide", byteOffset := 16 }, { name := "by", type := 98, offset := 3, embedded := false, tag := "", pkgPath := "lombard/wide", byteOffset := 24 }, { name := "less", type := 4, offset := 4, embedded := false, tag := "", pkgPath := "lombard/wide", byteOffset := 32 }]) := by intros; kernel_rfl
@[simp] theorem Star.zeroValue2 : ∀ (w : Go.World), Go.Sem.run Star.prog (Go.zeroValue 2) w = Go.Result.ok (Go.Value.int Go.IntKind.i64 0) w := by intros; kernel_rfl
@[simp] theorem Star.zeroValue22 : ∀ (w : Go.World), Go.Sem.run Star.prog (Go.zeroValue 22) w = Go.Result.ok (Go.Value.slice none 0 0) w := by intros; kernel_rfl
@[simp] theorem Star.zeroValue24 : ∀ (w : Go.World), Go.Sem.run Star.prog (Go.zeroValue 24) w = Go.Result.ok (Go.Value.int Go.IntKind.i64 0) w := by intros; kernel_rfl
@[simp] theorem Star.zeroValue127 : ∀ (w : Go.World), Go.Sem.run Star.prog (Go.zeroValue 127) w = Go.Result.ok (Go.Value.agg #[Go.Value.int Go.IntKind.i64 0, Go.Value.int Go.IntKind.u64 0]) w := by intros; kernel_rfl
@[simp] theorem Star.zeroValue132 : ∀ (w : Go.World), Go.Sem.run Star.prog (Go.zeroValue 132) w = Go.Result.ok (Go.Value.agg #[Go.Value.int Go.IntKind.u64 0, Go.Value.int Go.IntKind.u64 0, Go.Value.int Go.IntKind.u64 0, Go.Value.int Go.IntKind.u64 0, Go.Value.bool false]) w := by intros; kernel_rfl
@[simp] theorem Star.zeroValue133 : ∀ (w : Go.World), Go.Sem.run Star.prog (Go.zeroValue 133) w = Go.Result.ok (Go.Value.agg #[Go.Value.nilFunc, Go.Value.nilFunc]) w := by intros; kernel_rfl
end Go.Proofs
