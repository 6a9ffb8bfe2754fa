/-
  Closed facts on the types and functions of the translation.
-/
import Derived.Test.YtfocbkdoolnijaaProg
import Derived.Test.YtfocbkdoolnijaaMap
import Derived.Test.YtfocbkdoolnijaaInts
import Derived.Test.YtfocbkdoolnijaaRec
import Derived.KernelRfl
import Derived.Test.YtfocbkdoolnijaaEng
namespace Go.Proofs
open Go
theorem Try.cells24 : Go.Eng.intsCells Try.prog 24 3 = true := by kernel_rfl
theorem Try.cells27 : Go.Eng.intsCells Try.prog 27 6 = true := by kernel_rfl
theorem Try.fld24_0 : Go.Eng.fieldOf Try.prog 24 0 = some (0, 1, 3) := by kernel_rfl
theorem Try.fld24_1 : Go.Eng.fieldOf Try.prog 24 1 = some (1, 1, 3) := by kernel_rfl
theorem Try.fld24_2 : Go.Eng.fieldOf Try.prog 24 2 = some (2, 1, 3) := by kernel_rfl
theorem Try.fld27_0 : Go.Eng.fieldOf Try.prog 27 0 = some (0, 1, 3) := by kernel_rfl
theorem Try.fld27_1 : Go.Eng.fieldOf Try.prog 27 1 = some (1, 1, 3) := by kernel_rfl
theorem Try.fld27_2 : Go.Eng.fieldOf Try.prog 27 2 = some (2, 1, 3) := by kernel_rfl
theorem Try.fld27_3 : Go.Eng.fieldOf Try.prog 27 3 = some (3, 1, 3) := by kernel_rfl
theorem Try.fld27_4 : Go.Eng.fieldOf Try.prog 27 4 = some (4, 1, 3) := by kernel_rfl
theorem Try.fld27_5 : Go.Eng.fieldOf Try.prog 27 5 = some (5, 1, 3) := by kernel_rfl
theorem Try.fld31_0 : Go.Eng.fieldOf Try.prog 31 0 = some (0, 1, 3) := by kernel_rfl
theorem Try.fld31_1 : Go.Eng.fieldOf Try.prog 31 1 = some (1, 1, 3) := by kernel_rfl
theorem Try.ints24 : Go.Eng.intsOf Try.prog 24 = some 3 := by kernel_rfl
theorem Try.ints27 : Go.Eng.intsOf Try.prog 27 = some 6 := by kernel_rfl
theorem Try.ints56 : Go.Eng.intsOf Try.prog 56 = some 2 := by kernel_rfl
theorem Try.lay24 : Go.Eng.layOf Try.prog 24 = some ([.int .i64 0, .int .i64 0, .int .i64 0], [0, 1, 2]) := by kernel_rfl
theorem Try.lay27 : Go.Eng.layOf Try.prog 27 = some ([.int .i64 0, .int .i64 0, .int .i64 0, .int .i64 0, .int .i64 0, .int .i64 0], [0, 1, 2, 3, 4, 5]) := by kernel_rfl
theorem Try.lay31 : Go.Eng.layOf Try.prog 31 = some ([.int .i64 0, .int .i64 0], [0, 1]) := by kernel_rfl
theorem Try.lay56 : Go.Eng.layOf Try.prog 56 = some ([.int .i64 0, .int .i64 0], [0, 1]) := by kernel_rfl
theorem Try.nm10 : (Try.f10.name == "runtime.NumGoroutine") = false := by kernel_rfl
theorem Try.nm11 : (Try.f11.name == "runtime.NumGoroutine") = false := by kernel_rfl
theorem Try.nm12 : (Try.f12.name == "runtime.NumGoroutine") = false := by kernel_rfl
theorem Try.nm13 : (Try.f13.name == "runtime.NumGoroutine") = false := by kernel_rfl
theorem Try.nm14 : (Try.f14.name == "runtime.NumGoroutine") = false := by kernel_rfl
theorem Try.nm15 : (Try.f15.name == "runtime.NumGoroutine") = false := by kernel_rfl
theorem Try.nm16 : (Try.f16.name == "runtime.NumGoroutine") = false := by kernel_rfl
theorem Try.nm17 : (Try.f17.name == "runtime.NumGoroutine") = false := by kernel_rfl
theorem Try.nm20 : (Try.f20.name == "runtime.NumGoroutine") = false := by kernel_rfl
theorem Try.nm21 : (Try.f21.name == "runtime.NumGoroutine") = false := by kernel_rfl
theorem Try.nm22 : (Try.f22.name == "runtime.NumGoroutine") = false := by kernel_rfl
theorem Try.nm23 : (Try.f23.name == "runtime.NumGoroutine") = false := by kernel_rfl
theorem Try.nm24 : (Try.f24.name == "runtime.NumGoroutine") = false := by kernel_rfl
theorem Try.nm25 : (Try.f25.name == "runtime.NumGoroutine") = false := by kernel_rfl
theorem Try.nm26 : (Try.f26.name == "runtime.NumGoroutine") = false := by kernel_rfl
theorem Try.nm27 : (Try.f27.name == "runtime.NumGoroutine") = false := by kernel_rfl
theorem Try.nm28 : (Try.f28.name == "runtime.NumGoroutine") = false := by kernel_rfl
theorem Try.nm29 : (Try.f29.name == "runtime.NumGoroutine") = false := by kernel_rfl
theorem Try.nm30 : (Try.f30.name == "runtime.NumGoroutine") = false := by kernel_rfl
theorem Try.nm31 : (Try.f31.name == "runtime.NumGoroutine") = false := by kernel_rfl
theorem Try.sz3 : (Try.prog.info? 3).map (·.size) = some 1 := by kernel_rfl
theorem Try.sz4 : (Try.prog.info? 4).map (·.size) = some 1 := by kernel_rfl
theorem Try.sz5 : (Try.prog.info? 5).map (·.size) = some 1 := by kernel_rfl
theorem Try.sz24 : (Try.prog.info? 24).map (·.size) = some 3 := by kernel_rfl
theorem Try.sz27 : (Try.prog.info? 27).map (·.size) = some 6 := by kernel_rfl
theorem Try.sz31 : (Try.prog.info? 31).map (·.size) = some 2 := by kernel_rfl
theorem Try.sz45 : (Try.prog.info? 45).map (·.size) = some 1 := by kernel_rfl
theorem Try.wd : Try.prog.follows .mixedOrders = true := by kernel_rfl
theorem Try.zero3 : (Try.prog.info? 3).bind (·.zero) = some (.int .i64 0) := by kernel_rfl
theorem Try.zero24 : (Try.prog.info? 24).bind (·.zero) = some (.agg #[.int .i64 0, .int .i64 0, .int .i64 0]) := by kernel_rfl
theorem Try.zero27 : (Try.prog.info? 27).bind (·.zero) = some (.agg #[.int .i64 0, .int .i64 0, .int .i64 0, .int .i64 0, .int .i64 0, .int .i64 0]) := by kernel_rfl
theorem Try.zero31 : (Try.prog.info? 31).bind (·.zero) = some (.agg #[.int .i64 0, .int .i64 0]) := by kernel_rfl
theorem Try.zero45 : (Try.prog.info? 45).bind (·.zero) = some (.slice none 0 0) := by kernel_rfl
theorem Try.zero51 : (Try.prog.info? 51).bind (·.zero) = some (.nilFunc) := by kernel_rfl
end Go.Proofs
