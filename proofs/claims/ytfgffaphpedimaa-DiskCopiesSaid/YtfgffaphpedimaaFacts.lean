/-
  Closed facts on the types and functions of the translation.
-/
import Derived.Test.YtfgffaphpedimaaProg
import Derived.Test.YtfgffaphpedimaaRec
import Derived.KernelRfl
import Derived.Test.YtfgffaphpedimaaEng
namespace Go.Proofs
open Go
theorem Try.by5 : (Try.prog.info? 5).map (·.bytes) = some 1 := by kernel_rfl
theorem Try.by68 : (Try.prog.info? 68).map (·.bytes) = some 72 := by kernel_rfl
theorem Try.by72 : (Try.prog.info? 72).map (·.bytes) = some 16 := by kernel_rfl
theorem Try.by77 : (Try.prog.info? 77).map (·.bytes) = some 72 := by kernel_rfl
theorem Try.by88 : (Try.prog.info? 88).map (·.bytes) = some 16 := by kernel_rfl
theorem Try.fld40_0 : Go.Eng.fieldOf Try.prog 40 0 = some (0, 1, 38) := by kernel_rfl
theorem Try.fld40_1 : Go.Eng.fieldOf Try.prog 40 1 = some (1, 1, 3) := by kernel_rfl
theorem Try.fld40_2 : Go.Eng.fieldOf Try.prog 40 2 = some (2, 1, 4) := by kernel_rfl
theorem Try.fld40_3 : Go.Eng.fieldOf Try.prog 40 3 = some (3, 1, 3) := by kernel_rfl
theorem Try.fld40_4 : Go.Eng.fieldOf Try.prog 40 4 = some (4, 1, 4) := by kernel_rfl
theorem Try.fld51_0 : Go.Eng.fieldOf Try.prog 51 0 = some (0, 1, 3) := by kernel_rfl
theorem Try.fld51_1 : Go.Eng.fieldOf Try.prog 51 1 = some (1, 1, 3) := by kernel_rfl
theorem Try.fld51_2 : Go.Eng.fieldOf Try.prog 51 2 = some (2, 1, 3) := by kernel_rfl
theorem Try.fld51_3 : Go.Eng.fieldOf Try.prog 51 3 = some (3, 1, 23) := by kernel_rfl
theorem Try.fld59_0 : Go.Eng.fieldOf Try.prog 59 0 = some (0, 1, 57) := by kernel_rfl
theorem Try.fld59_1 : Go.Eng.fieldOf Try.prog 59 1 = some (1, 1, 3) := by kernel_rfl
theorem Try.fld59_2 : Go.Eng.fieldOf Try.prog 59 2 = some (2, 1, 4) := by kernel_rfl
theorem Try.fld59_3 : Go.Eng.fieldOf Try.prog 59 3 = some (3, 1, 3) := by kernel_rfl
theorem Try.fld59_4 : Go.Eng.fieldOf Try.prog 59 4 = some (4, 1, 4) := by kernel_rfl
theorem Try.fld62_0 : Go.Eng.fieldOf Try.prog 62 0 = some (0, 1, 5) := by kernel_rfl
theorem Try.fld65_0 : Go.Eng.fieldOf Try.prog 65 0 = some (0, 1, 23) := by kernel_rfl
theorem Try.fld68_0 : Go.Eng.fieldOf Try.prog 68 0 = some (0, 1, 65) := by kernel_rfl
theorem Try.fld68_1 : Go.Eng.fieldOf Try.prog 68 1 = some (1, 1, 23) := by kernel_rfl
theorem Try.fld68_2 : Go.Eng.fieldOf Try.prog 68 2 = some (2, 1, 66) := by kernel_rfl
theorem Try.fld74_0 : Go.Eng.fieldOf Try.prog 74 0 = some (0, 1, 3) := by kernel_rfl
theorem Try.fld77_0 : Go.Eng.fieldOf Try.prog 77 0 = some (0, 1, 23) := by kernel_rfl
theorem Try.fld77_1 : Go.Eng.fieldOf Try.prog 77 1 = some (1, 1, 23) := by kernel_rfl
theorem Try.fld77_2 : Go.Eng.fieldOf Try.prog 77 2 = some (2, 1, 75) := by kernel_rfl
theorem Try.fld88_0 : Go.Eng.fieldOf Try.prog 88 0 = some (0, 1, 5) := by kernel_rfl
theorem Try.fld88_1 : Go.Eng.fieldOf Try.prog 88 1 = some (1, 1, 3) := by kernel_rfl
theorem Try.lay40 : Go.Eng.layOf Try.prog 40 = some ([.slice none 0 0, .int .i64 0, .bool false, .int .i64 0, .bool false], [0, 1, 2, 3, 4]) := by kernel_rfl
theorem Try.lay59 : Go.Eng.layOf Try.prog 59 = some ([.slice none 0 0, .int .i64 0, .bool false, .int .i64 0, .bool false], [0, 1, 2, 3, 4]) := by kernel_rfl
theorem Try.lay62 : Go.Eng.layOf Try.prog 62 = some ([.int .u8 0], [0]) := by kernel_rfl
theorem Try.lay65 : Go.Eng.layOf Try.prog 65 = some ([.slice none 0 0], [0]) := by kernel_rfl
theorem Try.lay68 : Go.Eng.layOf Try.prog 68 = some ([.slice none 0 0, .slice none 0 0, .slice none 0 0], [0, 1, 2]) := by kernel_rfl
theorem Try.lay74 : Go.Eng.layOf Try.prog 74 = some ([.int .i64 0], [0]) := by kernel_rfl
theorem Try.lay77 : Go.Eng.layOf Try.prog 77 = some ([.slice none 0 0, .slice none 0 0, .slice none 0 0], [0, 1, 2]) := by kernel_rfl
theorem Try.lay88 : Go.Eng.layOf Try.prog 88 = some ([.int .u8 0, .int .i64 0], [0, 1]) := by kernel_rfl
theorem Try.nm10 : (Try.f10.name == "runtime.NumGoroutine") = false := by kernel_rfl
theorem Try.nm11 : (Try.f11.name == "runtime.NumGoroutine") = false := by kernel_rfl
theorem Try.nm12 : (Try.f12.name == "runtime.NumGoroutine") = false := by kernel_rfl
theorem Try.nm13 : (Try.f13.name == "runtime.NumGoroutine") = false := by kernel_rfl
theorem Try.nm14 : (Try.f14.name == "runtime.NumGoroutine") = false := by kernel_rfl
theorem Try.nm15 : (Try.f15.name == "runtime.NumGoroutine") = false := by kernel_rfl
theorem Try.nm16 : (Try.f16.name == "runtime.NumGoroutine") = false := by kernel_rfl
theorem Try.nm17 : (Try.f17.name == "runtime.NumGoroutine") = false := by kernel_rfl
theorem Try.nm18 : (Try.f18.name == "runtime.NumGoroutine") = false := by kernel_rfl
theorem Try.nm19 : (Try.f19.name == "runtime.NumGoroutine") = false := by kernel_rfl
theorem Try.nm20 : (Try.f20.name == "runtime.NumGoroutine") = false := by kernel_rfl
theorem Try.nm21 : (Try.f21.name == "runtime.NumGoroutine") = false := by kernel_rfl
theorem Try.nm22 : (Try.f22.name == "runtime.NumGoroutine") = false := by kernel_rfl
theorem Try.nm23 : (Try.f23.name == "runtime.NumGoroutine") = false := by kernel_rfl
theorem Try.nm24 : (Try.f24.name == "runtime.NumGoroutine") = false := by kernel_rfl
theorem Try.nm25 : (Try.f25.name == "runtime.NumGoroutine") = false := by kernel_rfl
theorem Try.nm26 : (Try.f26.name == "runtime.NumGoroutine") = false := by kernel_rfl
theorem Try.nm27 : (Try.f27.name == "runtime.NumGoroutine") = false := by kernel_rfl
theorem Try.nm28 : (Try.f28.name == "runtime.NumGoroutine") = false := by kernel_rfl
theorem Try.nm29 : (Try.f29.name == "runtime.NumGoroutine") = false := by kernel_rfl
theorem Try.nm30 : (Try.f30.name == "runtime.NumGoroutine") = false := by kernel_rfl
theorem Try.nm31 : (Try.f31.name == "runtime.NumGoroutine") = false := by kernel_rfl
theorem Try.nm32 : (Try.f32.name == "runtime.NumGoroutine") = false := by kernel_rfl
theorem Try.nm33 : (Try.f33.name == "runtime.NumGoroutine") = false := by kernel_rfl
theorem Try.nm34 : (Try.f34.name == "runtime.NumGoroutine") = false := by kernel_rfl
theorem Try.nm35 : (Try.f35.name == "runtime.NumGoroutine") = false := by kernel_rfl
theorem Try.nm36 : (Try.f36.name == "runtime.NumGoroutine") = false := by kernel_rfl
theorem Try.nm37 : (Try.f37.name == "runtime.NumGoroutine") = false := by kernel_rfl
theorem Try.nm38 : (Try.f38.name == "runtime.NumGoroutine") = false := by kernel_rfl
theorem Try.nm39 : (Try.f39.name == "runtime.NumGoroutine") = false := by kernel_rfl
theorem Try.nm40 : (Try.f40.name == "runtime.NumGoroutine") = false := by kernel_rfl
theorem Try.nm41 : (Try.f41.name == "runtime.NumGoroutine") = false := by kernel_rfl
theorem Try.nm42 : (Try.f42.name == "runtime.NumGoroutine") = false := by kernel_rfl
theorem Try.nm43 : (Try.f43.name == "runtime.NumGoroutine") = false := by kernel_rfl
theorem Try.nm44 : (Try.f44.name == "runtime.NumGoroutine") = false := by kernel_rfl
theorem Try.nm45 : (Try.f45.name == "runtime.NumGoroutine") = false := by kernel_rfl
theorem Try.nm46 : (Try.f46.name == "runtime.NumGoroutine") = false := by kernel_rfl
theorem Try.nm47 : (Try.f47.name == "runtime.NumGoroutine") = false := by kernel_rfl
theorem Try.nm63 : (Try.f63.name == "runtime.NumGoroutine") = false := by kernel_rfl
theorem Try.nm64 : (Try.f64.name == "runtime.NumGoroutine") = false := by kernel_rfl
theorem Try.sz3 : (Try.prog.info? 3).map (·.size) = some 1 := by kernel_rfl
theorem Try.sz4 : (Try.prog.info? 4).map (·.size) = some 1 := by kernel_rfl
theorem Try.sz5 : (Try.prog.info? 5).map (·.size) = some 1 := by kernel_rfl
theorem Try.sz23 : (Try.prog.info? 23).map (·.size) = some 1 := by kernel_rfl
theorem Try.sz38 : (Try.prog.info? 38).map (·.size) = some 1 := by kernel_rfl
theorem Try.sz40 : (Try.prog.info? 40).map (·.size) = some 5 := by kernel_rfl
theorem Try.sz51 : (Try.prog.info? 51).map (·.size) = some 4 := by kernel_rfl
theorem Try.sz57 : (Try.prog.info? 57).map (·.size) = some 1 := by kernel_rfl
theorem Try.sz59 : (Try.prog.info? 59).map (·.size) = some 5 := by kernel_rfl
theorem Try.sz66 : (Try.prog.info? 66).map (·.size) = some 1 := by kernel_rfl
theorem Try.sz68 : (Try.prog.info? 68).map (·.size) = some 3 := by kernel_rfl
theorem Try.sz72 : (Try.prog.info? 72).map (·.size) = some 1 := by kernel_rfl
theorem Try.sz77 : (Try.prog.info? 77).map (·.size) = some 3 := by kernel_rfl
theorem Try.sz88 : (Try.prog.info? 88).map (·.size) = some 2 := by kernel_rfl
theorem Try.wd : Try.prog.follows .mixedOrders = true := by kernel_rfl
theorem Try.zero5 : (Try.prog.info? 5).bind (·.zero) = some (.int .u8 0) := by kernel_rfl
theorem Try.zero40 : (Try.prog.info? 40).bind (·.zero) = some (.agg #[.slice none 0 0, .int .i64 0, .bool false, .int .i64 0, .bool false]) := by kernel_rfl
theorem Try.zero59 : (Try.prog.info? 59).bind (·.zero) = some (.agg #[.slice none 0 0, .int .i64 0, .bool false, .int .i64 0, .bool false]) := by kernel_rfl
theorem Try.zero68 : (Try.prog.info? 68).bind (·.zero) = some (.agg #[.slice none 0 0, .slice none 0 0, .slice none 0 0]) := by kernel_rfl
theorem Try.zero72 : (Try.prog.info? 72).bind (·.zero) = some (.nilIface) := by kernel_rfl
theorem Try.zero77 : (Try.prog.info? 77).bind (·.zero) = some (.agg #[.slice none 0 0, .slice none 0 0, .slice none 0 0]) := by kernel_rfl
theorem Try.zero88 : (Try.prog.info? 88).bind (·.zero) = some (.agg #[.int .u8 0, .int .i64 0]) := by kernel_rfl
end Go.Proofs
