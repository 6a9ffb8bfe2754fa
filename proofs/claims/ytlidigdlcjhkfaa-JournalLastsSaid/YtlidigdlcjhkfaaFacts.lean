/-
  Closed facts on the types and functions of the translation.
-/
import Derived.Test.YtlidigdlcjhkfaaProg
import Derived.Test.YtlidigdlcjhkfaaRec
import Derived.KernelRfl
import Derived.Test.YtlidigdlcjhkfaaEng
namespace Go.Proofs
open Go
theorem Try.by5 : (Try.prog.info? 5).map (·.bytes) = some 1 := by kernel_rfl
theorem Try.by23 : (Try.prog.info? 23).map (·.bytes) = some 24 := by kernel_rfl
theorem Try.by75 : (Try.prog.info? 75).map (·.bytes) = some 72 := by kernel_rfl
theorem Try.by77 : (Try.prog.info? 77).map (·.bytes) = some 16 := by kernel_rfl
theorem Try.fld49_0 : Go.Eng.fieldOf Try.prog 49 0 = some (0, 1, 3) := by kernel_rfl
theorem Try.fld49_2 : Go.Eng.fieldOf Try.prog 49 2 = some (2, 1, 23) := by kernel_rfl
theorem Try.fld55_0 : Go.Eng.fieldOf Try.prog 55 0 = some (0, 1, 53) := by kernel_rfl
theorem Try.fld55_1 : Go.Eng.fieldOf Try.prog 55 1 = some (1, 1, 3) := by kernel_rfl
theorem Try.fld55_2 : Go.Eng.fieldOf Try.prog 55 2 = some (2, 1, 4) := by kernel_rfl
theorem Try.fld55_3 : Go.Eng.fieldOf Try.prog 55 3 = some (3, 1, 3) := by kernel_rfl
theorem Try.fld55_4 : Go.Eng.fieldOf Try.prog 55 4 = some (4, 1, 4) := by kernel_rfl
theorem Try.fld64_0 : Go.Eng.fieldOf Try.prog 64 0 = some (0, 1, 25) := by kernel_rfl
theorem Try.fld64_1 : Go.Eng.fieldOf Try.prog 64 1 = some (1, 1, 42) := by kernel_rfl
theorem Try.fld69_0 : Go.Eng.fieldOf Try.prog 69 0 = some (0, 1, 5) := by kernel_rfl
theorem Try.fld72_0 : Go.Eng.fieldOf Try.prog 72 0 = some (0, 1, 23) := by kernel_rfl
theorem Try.fld75_0 : Go.Eng.fieldOf Try.prog 75 0 = some (0, 1, 72) := by kernel_rfl
theorem Try.fld75_1 : Go.Eng.fieldOf Try.prog 75 1 = some (1, 1, 23) := by kernel_rfl
theorem Try.fld75_2 : Go.Eng.fieldOf Try.prog 75 2 = some (2, 1, 73) := by kernel_rfl
theorem Try.fld87_0 : Go.Eng.fieldOf Try.prog 87 0 = some (0, 1, 3) := by kernel_rfl
theorem Try.lay55 : Go.Eng.layOf Try.prog 55 = some ([.slice none 0 0, .int .i64 0, .bool false, .int .i64 0, .bool false], [0, 1, 2, 3, 4]) := by kernel_rfl
theorem Try.lay64 : Go.Eng.layOf Try.prog 64 = some ([.pointer none, .int .u64 0], [0, 1]) := by kernel_rfl
theorem Try.lay69 : Go.Eng.layOf Try.prog 69 = some ([.int .u8 0], [0]) := by kernel_rfl
theorem Try.lay72 : Go.Eng.layOf Try.prog 72 = some ([.slice none 0 0], [0]) := by kernel_rfl
theorem Try.lay75 : Go.Eng.layOf Try.prog 75 = some ([.slice none 0 0, .slice none 0 0, .slice none 0 0], [0, 1, 2]) := by kernel_rfl
theorem Try.lay87 : Go.Eng.layOf Try.prog 87 = some ([.int .i64 0], [0]) := by kernel_rfl
theorem Try.nm7 : (Try.f7.name == "runtime.NumGoroutine") = false := by kernel_rfl
theorem Try.nm8 : (Try.f8.name == "runtime.NumGoroutine") = false := by kernel_rfl
theorem Try.nm9 : (Try.f9.name == "runtime.NumGoroutine") = false := by kernel_rfl
theorem Try.nm10 : (Try.f10.name == "runtime.NumGoroutine") = false := by kernel_rfl
theorem Try.nm11 : (Try.f11.name == "runtime.NumGoroutine") = false := by kernel_rfl
theorem Try.nm13 : (Try.f13.name == "runtime.NumGoroutine") = false := by kernel_rfl
theorem Try.nm14 : (Try.f14.name == "runtime.NumGoroutine") = false := by kernel_rfl
theorem Try.nm15 : (Try.f15.name == "runtime.NumGoroutine") = false := by kernel_rfl
theorem Try.nm16 : (Try.f16.name == "runtime.NumGoroutine") = false := by kernel_rfl
theorem Try.nm17 : (Try.f17.name == "runtime.NumGoroutine") = false := by kernel_rfl
theorem Try.nm18 : (Try.f18.name == "runtime.NumGoroutine") = false := by kernel_rfl
theorem Try.nm20 : (Try.f20.name == "runtime.NumGoroutine") = false := by kernel_rfl
theorem Try.nm21 : (Try.f21.name == "runtime.NumGoroutine") = false := by kernel_rfl
theorem Try.nm22 : (Try.f22.name == "runtime.NumGoroutine") = false := by kernel_rfl
theorem Try.nm23 : (Try.f23.name == "runtime.NumGoroutine") = false := by kernel_rfl
theorem Try.nm24 : (Try.f24.name == "runtime.NumGoroutine") = false := by kernel_rfl
theorem Try.nm25 : (Try.f25.name == "runtime.NumGoroutine") = false := by kernel_rfl
theorem Try.nm26 : (Try.f26.name == "runtime.NumGoroutine") = false := by kernel_rfl
theorem Try.nm27 : (Try.f27.name == "runtime.NumGoroutine") = false := by kernel_rfl
theorem Try.nm28 : (Try.f28.name == "runtime.NumGoroutine") = false := by kernel_rfl
theorem Try.nm29 : (Try.f29.name == "runtime.NumGoroutine") = false := by kernel_rfl
theorem Try.nm30 : (Try.f30.name == "runtime.NumGoroutine") = false := by kernel_rfl
theorem Try.nm31 : (Try.f31.name == "runtime.NumGoroutine") = false := by kernel_rfl
theorem Try.nm32 : (Try.f32.name == "runtime.NumGoroutine") = false := by kernel_rfl
theorem Try.nm33 : (Try.f33.name == "runtime.NumGoroutine") = false := by kernel_rfl
theorem Try.nm34 : (Try.f34.name == "runtime.NumGoroutine") = false := by kernel_rfl
theorem Try.nm35 : (Try.f35.name == "runtime.NumGoroutine") = false := by kernel_rfl
theorem Try.nm36 : (Try.f36.name == "runtime.NumGoroutine") = false := by kernel_rfl
theorem Try.nm37 : (Try.f37.name == "runtime.NumGoroutine") = false := by kernel_rfl
theorem Try.nm38 : (Try.f38.name == "runtime.NumGoroutine") = false := by kernel_rfl
theorem Try.nm39 : (Try.f39.name == "runtime.NumGoroutine") = false := by kernel_rfl
theorem Try.nm40 : (Try.f40.name == "runtime.NumGoroutine") = false := by kernel_rfl
theorem Try.nm41 : (Try.f41.name == "runtime.NumGoroutine") = false := by kernel_rfl
theorem Try.nm42 : (Try.f42.name == "runtime.NumGoroutine") = false := by kernel_rfl
theorem Try.nm43 : (Try.f43.name == "runtime.NumGoroutine") = false := by kernel_rfl
theorem Try.nm44 : (Try.f44.name == "runtime.NumGoroutine") = false := by kernel_rfl
theorem Try.nm45 : (Try.f45.name == "runtime.NumGoroutine") = false := by kernel_rfl
theorem Try.nm46 : (Try.f46.name == "runtime.NumGoroutine") = false := by kernel_rfl
theorem Try.nm47 : (Try.f47.name == "runtime.NumGoroutine") = false := by kernel_rfl
theorem Try.nm48 : (Try.f48.name == "runtime.NumGoroutine") = false := by kernel_rfl
theorem Try.nm49 : (Try.f49.name == "runtime.NumGoroutine") = false := by kernel_rfl
theorem Try.nm50 : (Try.f50.name == "runtime.NumGoroutine") = false := by kernel_rfl
theorem Try.nm51 : (Try.f51.name == "runtime.NumGoroutine") = false := by kernel_rfl
theorem Try.nm52 : (Try.f52.name == "runtime.NumGoroutine") = false := by kernel_rfl
theorem Try.nm53 : (Try.f53.name == "runtime.NumGoroutine") = false := by kernel_rfl
theorem Try.nm54 : (Try.f54.name == "runtime.NumGoroutine") = false := by kernel_rfl
theorem Try.nm55 : (Try.f55.name == "runtime.NumGoroutine") = false := by kernel_rfl
theorem Try.nm56 : (Try.f56.name == "runtime.NumGoroutine") = false := by kernel_rfl
theorem Try.nm72 : (Try.f72.name == "runtime.NumGoroutine") = false := by kernel_rfl
theorem Try.nm73 : (Try.f73.name == "runtime.NumGoroutine") = false := by kernel_rfl
theorem Try.sz3 : (Try.prog.info? 3).map (·.size) = some 1 := by kernel_rfl
theorem Try.sz4 : (Try.prog.info? 4).map (·.size) = some 1 := by kernel_rfl
theorem Try.sz5 : (Try.prog.info? 5).map (·.size) = some 1 := by kernel_rfl
theorem Try.sz23 : (Try.prog.info? 23).map (·.size) = some 1 := by kernel_rfl
theorem Try.sz38 : (Try.prog.info? 38).map (·.size) = some 1 := by kernel_rfl
theorem Try.sz42 : (Try.prog.info? 42).map (·.size) = some 1 := by kernel_rfl
theorem Try.sz49 : (Try.prog.info? 49).map (·.size) = some 3 := by kernel_rfl
theorem Try.sz53 : (Try.prog.info? 53).map (·.size) = some 1 := by kernel_rfl
theorem Try.sz55 : (Try.prog.info? 55).map (·.size) = some 5 := by kernel_rfl
theorem Try.sz73 : (Try.prog.info? 73).map (·.size) = some 1 := by kernel_rfl
theorem Try.sz75 : (Try.prog.info? 75).map (·.size) = some 3 := by kernel_rfl
theorem Try.sz77 : (Try.prog.info? 77).map (·.size) = some 1 := by kernel_rfl
theorem Try.sz92 : (Try.prog.info? 92).map (·.size) = some 1 := by kernel_rfl
theorem Try.sz98 : (Try.prog.info? 98).map (·.size) = some 256 := by kernel_rfl
theorem Try.wd : Try.prog.follows .mixedOrders = true := by kernel_rfl
theorem Try.zero3 : (Try.prog.info? 3).bind (·.zero) = some (.int .i64 0) := by kernel_rfl
theorem Try.zero5 : (Try.prog.info? 5).bind (·.zero) = some (.int .u8 0) := by kernel_rfl
theorem Try.zero23 : (Try.prog.info? 23).bind (·.zero) = some (.slice none 0 0) := by kernel_rfl
theorem Try.zero38 : (Try.prog.info? 38).bind (·.zero) = some (.nilFunc) := by kernel_rfl
theorem Try.zero55 : (Try.prog.info? 55).bind (·.zero) = some (.agg #[.slice none 0 0, .int .i64 0, .bool false, .int .i64 0, .bool false]) := by kernel_rfl
theorem Try.zero75 : (Try.prog.info? 75).bind (·.zero) = some (.agg #[.slice none 0 0, .slice none 0 0, .slice none 0 0]) := by kernel_rfl
theorem Try.zero77 : (Try.prog.info? 77).bind (·.zero) = some (.nilIface) := by kernel_rfl
theorem Try.zero98 : (Try.prog.info? 98).bind (·.zero) = some (.agg (Array.replicate 256 (.int .u32 0))) := by kernel_rfl
end Go.Proofs
