/-
  Closed facts on the types and functions of the translation.
-/
import Derived.Test.YtmedmajdoecjfaaDoorProg
import Derived.Test.YtmedmajdoecjfaaDoorGenA
import Derived.Test.YtmedmajdoecjfaaDoorGenB
import Derived.KernelRfl
namespace Go.Proofs
open Go
theorem Tryd.by3 : (Tryd.prog.info? 3).map (·.bytes) = some 8 := by kernel_rfl
theorem Tryd.by5 : (Tryd.prog.info? 5).map (·.bytes) = some 1 := by kernel_rfl
theorem Tryd.by9 : (Tryd.prog.info? 9).map (·.bytes) = some 16 := by kernel_rfl
theorem Tryd.by23 : (Tryd.prog.info? 23).map (·.bytes) = some 24 := by kernel_rfl
theorem Tryd.by35 : (Tryd.prog.info? 35).map (·.bytes) = some 40 := by kernel_rfl
theorem Tryd.by38 : (Tryd.prog.info? 38).map (·.bytes) = some 48 := by kernel_rfl
theorem Tryd.by39 : (Tryd.prog.info? 39).map (·.bytes) = some 24 := by kernel_rfl
theorem Tryd.by41 : (Tryd.prog.info? 41).map (·.bytes) = some 40 := by kernel_rfl
theorem Tryd.by43 : (Tryd.prog.info? 43).map (·.bytes) = some 32 := by kernel_rfl
theorem Tryd.by101 : (Tryd.prog.info? 101).map (·.bytes) = some 48 := by kernel_rfl
theorem Tryd.eqs69 : Go.Eng.eqsOf Tryd.prog 69 = some [.int .i64, .int .i64, .int .i64, .int .i64, .int .i64, .bool] := by kernel_rfl
theorem Tryd.fld35_0 : Go.Eng.fieldOf Tryd.prog 35 0 = some (0, 1, 9) := by kernel_rfl
theorem Tryd.fld35_1 : Go.Eng.fieldOf Tryd.prog 35 1 = some (1, 1, 24) := by kernel_rfl
theorem Tryd.fld38_0 : Go.Eng.fieldOf Tryd.prog 38 0 = some (0, 1, 3) := by kernel_rfl
theorem Tryd.fld38_1 : Go.Eng.fieldOf Tryd.prog 38 1 = some (1, 1, 9) := by kernel_rfl
theorem Tryd.fld38_2 : Go.Eng.fieldOf Tryd.prog 38 2 = some (2, 1, 24) := by kernel_rfl
theorem Tryd.fld41_0 : Go.Eng.fieldOf Tryd.prog 41 0 = some (0, 1, 3) := by kernel_rfl
theorem Tryd.fld41_1 : Go.Eng.fieldOf Tryd.prog 41 1 = some (1, 1, 3) := by kernel_rfl
theorem Tryd.fld41_2 : Go.Eng.fieldOf Tryd.prog 41 2 = some (2, 1, 39) := by kernel_rfl
theorem Tryd.fld43_0 : Go.Eng.fieldOf Tryd.prog 43 0 = some (0, 1, 3) := by kernel_rfl
theorem Tryd.fld43_1 : Go.Eng.fieldOf Tryd.prog 43 1 = some (1, 1, 3) := by kernel_rfl
theorem Tryd.fld69_0 : Go.Eng.fieldOf Tryd.prog 69 0 = some (0, 1, 3) := by kernel_rfl
theorem Tryd.fld69_1 : Go.Eng.fieldOf Tryd.prog 69 1 = some (1, 4, 43) := by kernel_rfl
theorem Tryd.fld69_2 : Go.Eng.fieldOf Tryd.prog 69 2 = some (5, 1, 4) := by kernel_rfl
theorem Tryd.fld72_0 : Go.Eng.fieldOf Tryd.prog 72 0 = some (0, 1, 3) := by kernel_rfl
theorem Tryd.fld72_1 : Go.Eng.fieldOf Tryd.prog 72 1 = some (1, 3, 41) := by kernel_rfl
theorem Tryd.fld79_0 : Go.Eng.fieldOf Tryd.prog 79 0 = some (0, 1, 77) := by kernel_rfl
theorem Tryd.fld79_1 : Go.Eng.fieldOf Tryd.prog 79 1 = some (1, 1, 52) := by kernel_rfl
theorem Tryd.fld85_0 : Go.Eng.fieldOf Tryd.prog 85 0 = some (0, 2, 79) := by kernel_rfl
theorem Tryd.fld85_1 : Go.Eng.fieldOf Tryd.prog 85 1 = some (2, 1, 82) := by kernel_rfl
theorem Tryd.fld85_2 : Go.Eng.fieldOf Tryd.prog 85 2 = some (3, 1, 3) := by kernel_rfl
theorem Tryd.fld85_3 : Go.Eng.fieldOf Tryd.prog 85 3 = some (4, 1, 49) := by kernel_rfl
theorem Tryd.fld85_4 : Go.Eng.fieldOf Tryd.prog 85 4 = some (5, 1, 83) := by kernel_rfl
theorem Tryd.fld101_1 : Go.Eng.fieldOf Tryd.prog 101 1 = some (1, 1, 23) := by kernel_rfl
theorem Tryd.fld105_0 : Go.Eng.fieldOf Tryd.prog 105 0 = some (0, 1, 102) := by kernel_rfl
theorem Tryd.fld105_1 : Go.Eng.fieldOf Tryd.prog 105 1 = some (1, 1, 103) := by kernel_rfl
theorem Tryd.fld108_0 : Go.Eng.fieldOf Tryd.prog 108 0 = some (0, 1, 28) := by kernel_rfl
theorem Tryd.fld111_0 : Go.Eng.fieldOf Tryd.prog 111 0 = some (0, 1, 82) := by kernel_rfl
theorem Tryd.fld113_0 : Go.Eng.fieldOf Tryd.prog 113 0 = some (0, 1, 106) := by kernel_rfl
theorem Tryd.fld113_1 : Go.Eng.fieldOf Tryd.prog 113 1 = some (1, 1, 111) := by kernel_rfl
theorem Tryd.fld113_2 : Go.Eng.fieldOf Tryd.prog 113 2 = some (2, 1, 3) := by kernel_rfl
theorem Tryd.fld113_3 : Go.Eng.fieldOf Tryd.prog 113 3 = some (3, 1, 109) := by kernel_rfl
theorem Tryd.ints43 : Go.Eng.intsOf Tryd.prog 43 = some 4 := by kernel_rfl
theorem Tryd.lay35 : Go.Eng.layOf Tryd.prog 35 = some ([.string ⟨#[]⟩, .slice none 0 0], [0, 1]) := by kernel_rfl
theorem Tryd.lay38 : Go.Eng.layOf Tryd.prog 38 = some ([.int .i64 0, .string ⟨#[]⟩, .slice none 0 0], [0, 1, 2]) := by kernel_rfl
theorem Tryd.lay41 : Go.Eng.layOf Tryd.prog 41 = some ([.int .i64 0, .int .i64 0, .slice none 0 0], [0, 1, 2]) := by kernel_rfl
theorem Tryd.lay43 : Go.Eng.layOf Tryd.prog 43 = some ([.int .i64 0, .int .i64 0, .int .i64 0, .int .i64 0], [0, 1, 2, 3]) := by kernel_rfl
theorem Tryd.lay79 : Go.Eng.layOf Tryd.prog 79 = some ([.slice none 0 0, .slice none 0 0], [0, 1]) := by kernel_rfl
theorem Tryd.lay99 : Go.Eng.layOf Tryd.prog 99 = some ([.slice none 0 0], [0]) := by kernel_rfl
theorem Tryd.lay101 : Go.Eng.layOf Tryd.prog 101 = some ([.slice none 0 0, .slice none 0 0], [0, 1]) := by kernel_rfl
theorem Tryd.lay105 : Go.Eng.layOf Tryd.prog 105 = some ([.slice none 0 0, .map none], [0, 1]) := by kernel_rfl
theorem Tryd.lay108 : Go.Eng.layOf Tryd.prog 108 = some ([.pointer none], [0]) := by kernel_rfl
theorem Tryd.lay113 : Go.Eng.layOf Tryd.prog 113 = some ([.pointer none, .slice none 0 0, .int .i64 0, .map none], [0, 1, 2, 3]) := by kernel_rfl
theorem Tryd.layn69 : Go.Eng.layN Tryd.prog 69 = some ([.int .i64 0, .int .i64 0, .int .i64 0, .int .i64 0, .int .i64 0, .bool false], [(0, 1), (1, 4), (5, 1)]) := by kernel_rfl
theorem Tryd.layn85 : Go.Eng.layN Tryd.prog 85 = some ([.slice none 0 0, .slice none 0 0, .slice none 0 0, .int .i64 0, .slice none 0 0, .slice none 0 0], [(0, 2), (2, 1), (3, 1), (4, 1), (5, 1)]) := by kernel_rfl
theorem Tryd.nm10 : (Tryd.f10.name == "runtime.NumGoroutine") = false := by kernel_rfl
theorem Tryd.nm11 : (Tryd.f11.name == "runtime.NumGoroutine") = false := by kernel_rfl
theorem Tryd.nm12 : (Tryd.f12.name == "runtime.NumGoroutine") = false := by kernel_rfl
theorem Tryd.nm13 : (Tryd.f13.name == "runtime.NumGoroutine") = false := by kernel_rfl
theorem Tryd.nm14 : (Tryd.f14.name == "runtime.NumGoroutine") = false := by kernel_rfl
theorem Tryd.nm15 : (Tryd.f15.name == "runtime.NumGoroutine") = false := by kernel_rfl
theorem Tryd.nm16 : (Tryd.f16.name == "runtime.NumGoroutine") = false := by kernel_rfl
theorem Tryd.nm17 : (Tryd.f17.name == "runtime.NumGoroutine") = false := by kernel_rfl
theorem Tryd.nm18 : (Tryd.f18.name == "runtime.NumGoroutine") = false := by kernel_rfl
theorem Tryd.nm19 : (Tryd.f19.name == "runtime.NumGoroutine") = false := by kernel_rfl
theorem Tryd.nm20 : (Tryd.f20.name == "runtime.NumGoroutine") = false := by kernel_rfl
theorem Tryd.nm21 : (Tryd.f21.name == "runtime.NumGoroutine") = false := by kernel_rfl
theorem Tryd.nm22 : (Tryd.f22.name == "runtime.NumGoroutine") = false := by kernel_rfl
theorem Tryd.nm23 : (Tryd.f23.name == "runtime.NumGoroutine") = false := by kernel_rfl
theorem Tryd.nm24 : (Tryd.f24.name == "runtime.NumGoroutine") = false := by kernel_rfl
theorem Tryd.nm25 : (Tryd.f25.name == "runtime.NumGoroutine") = false := by kernel_rfl
theorem Tryd.nm28 : (Tryd.f28.name == "runtime.NumGoroutine") = false := by kernel_rfl
theorem Tryd.nm29 : (Tryd.f29.name == "runtime.NumGoroutine") = false := by kernel_rfl
theorem Tryd.nm30 : (Tryd.f30.name == "runtime.NumGoroutine") = false := by kernel_rfl
theorem Tryd.nm31 : (Tryd.f31.name == "runtime.NumGoroutine") = false := by kernel_rfl
theorem Tryd.nm32 : (Tryd.f32.name == "runtime.NumGoroutine") = false := by kernel_rfl
theorem Tryd.nm33 : (Tryd.f33.name == "runtime.NumGoroutine") = false := by kernel_rfl
theorem Tryd.nm34 : (Tryd.f34.name == "runtime.NumGoroutine") = false := by kernel_rfl
theorem Tryd.nm35 : (Tryd.f35.name == "runtime.NumGoroutine") = false := by kernel_rfl
theorem Tryd.nm36 : (Tryd.f36.name == "runtime.NumGoroutine") = false := by kernel_rfl
theorem Tryd.nm37 : (Tryd.f37.name == "runtime.NumGoroutine") = false := by kernel_rfl
theorem Tryd.nm38 : (Tryd.f38.name == "runtime.NumGoroutine") = false := by kernel_rfl
theorem Tryd.nm39 : (Tryd.f39.name == "runtime.NumGoroutine") = false := by kernel_rfl
theorem Tryd.nm40 : (Tryd.f40.name == "runtime.NumGoroutine") = false := by kernel_rfl
theorem Tryd.nm41 : (Tryd.f41.name == "runtime.NumGoroutine") = false := by kernel_rfl
theorem Tryd.nm42 : (Tryd.f42.name == "runtime.NumGoroutine") = false := by kernel_rfl
theorem Tryd.nm43 : (Tryd.f43.name == "runtime.NumGoroutine") = false := by kernel_rfl
theorem Tryd.nm44 : (Tryd.f44.name == "runtime.NumGoroutine") = false := by kernel_rfl
theorem Tryd.nm45 : (Tryd.f45.name == "runtime.NumGoroutine") = false := by kernel_rfl
theorem Tryd.nm46 : (Tryd.f46.name == "runtime.NumGoroutine") = false := by kernel_rfl
theorem Tryd.nm47 : (Tryd.f47.name == "runtime.NumGoroutine") = false := by kernel_rfl
theorem Tryd.nm48 : (Tryd.f48.name == "runtime.NumGoroutine") = false := by kernel_rfl
theorem Tryd.nm49 : (Tryd.f49.name == "runtime.NumGoroutine") = false := by kernel_rfl
theorem Tryd.nm50 : (Tryd.f50.name == "runtime.NumGoroutine") = false := by kernel_rfl
theorem Tryd.nm51 : (Tryd.f51.name == "runtime.NumGoroutine") = false := by kernel_rfl
theorem Tryd.nm52 : (Tryd.f52.name == "runtime.NumGoroutine") = false := by kernel_rfl
theorem Tryd.nm53 : (Tryd.f53.name == "runtime.NumGoroutine") = false := by kernel_rfl
theorem Tryd.nm54 : (Tryd.f54.name == "runtime.NumGoroutine") = false := by kernel_rfl
theorem Tryd.nm55 : (Tryd.f55.name == "runtime.NumGoroutine") = false := by kernel_rfl
theorem Tryd.nm56 : (Tryd.f56.name == "runtime.NumGoroutine") = false := by kernel_rfl
theorem Tryd.nm57 : (Tryd.f57.name == "runtime.NumGoroutine") = false := by kernel_rfl
theorem Tryd.nm58 : (Tryd.f58.name == "runtime.NumGoroutine") = false := by kernel_rfl
theorem Tryd.nm59 : (Tryd.f59.name == "runtime.NumGoroutine") = false := by kernel_rfl
theorem Tryd.nm60 : (Tryd.f60.name == "runtime.NumGoroutine") = false := by kernel_rfl
theorem Tryd.nm61 : (Tryd.f61.name == "runtime.NumGoroutine") = false := by kernel_rfl
theorem Tryd.nm62 : (Tryd.f62.name == "runtime.NumGoroutine") = false := by kernel_rfl
theorem Tryd.nm63 : (Tryd.f63.name == "runtime.NumGoroutine") = false := by kernel_rfl
theorem Tryd.nm64 : (Tryd.f64.name == "runtime.NumGoroutine") = false := by kernel_rfl
theorem Tryd.nm65 : (Tryd.f65.name == "runtime.NumGoroutine") = false := by kernel_rfl
theorem Tryd.nm66 : (Tryd.f66.name == "runtime.NumGoroutine") = false := by kernel_rfl
theorem Tryd.nm67 : (Tryd.f67.name == "runtime.NumGoroutine") = false := by kernel_rfl
theorem Tryd.nm68 : (Tryd.f68.name == "runtime.NumGoroutine") = false := by kernel_rfl
theorem Tryd.nm69 : (Tryd.f69.name == "runtime.NumGoroutine") = false := by kernel_rfl
theorem Tryd.nm70 : (Tryd.f70.name == "runtime.NumGoroutine") = false := by kernel_rfl
theorem Tryd.nm71 : (Tryd.f71.name == "runtime.NumGoroutine") = false := by kernel_rfl
theorem Tryd.nm72 : (Tryd.f72.name == "runtime.NumGoroutine") = false := by kernel_rfl
theorem Tryd.nm73 : (Tryd.f73.name == "runtime.NumGoroutine") = false := by kernel_rfl
theorem Tryd.nm74 : (Tryd.f74.name == "runtime.NumGoroutine") = false := by kernel_rfl
theorem Tryd.nm75 : (Tryd.f75.name == "runtime.NumGoroutine") = false := by kernel_rfl
theorem Tryd.nm76 : (Tryd.f76.name == "runtime.NumGoroutine") = false := by kernel_rfl
theorem Tryd.nm77 : (Tryd.f77.name == "runtime.NumGoroutine") = false := by kernel_rfl
theorem Tryd.nm78 : (Tryd.f78.name == "runtime.NumGoroutine") = false := by kernel_rfl
theorem Tryd.nm79 : (Tryd.f79.name == "runtime.NumGoroutine") = false := by kernel_rfl
theorem Tryd.nm80 : (Tryd.f80.name == "runtime.NumGoroutine") = false := by kernel_rfl
theorem Tryd.nm81 : (Tryd.f81.name == "runtime.NumGoroutine") = false := by kernel_rfl
theorem Tryd.nm82 : (Tryd.f82.name == "runtime.NumGoroutine") = false := by kernel_rfl
theorem Tryd.nm83 : (Tryd.f83.name == "runtime.NumGoroutine") = false := by kernel_rfl
theorem Tryd.nm84 : (Tryd.f84.name == "runtime.NumGoroutine") = false := by kernel_rfl
theorem Tryd.nm85 : (Tryd.f85.name == "runtime.NumGoroutine") = false := by kernel_rfl
theorem Tryd.nm86 : (Tryd.f86.name == "runtime.NumGoroutine") = false := by kernel_rfl
theorem Tryd.nm87 : (Tryd.f87.name == "runtime.NumGoroutine") = false := by kernel_rfl
theorem Tryd.nm88 : (Tryd.f88.name == "runtime.NumGoroutine") = false := by kernel_rfl
theorem Tryd.nm90 : (Tryd.f90.name == "runtime.NumGoroutine") = false := by kernel_rfl
theorem Tryd.nm91 : (Tryd.f91.name == "runtime.NumGoroutine") = false := by kernel_rfl
theorem Tryd.nm94 : (Tryd.f94.name == "runtime.NumGoroutine") = false := by kernel_rfl
theorem Tryd.nm96 : (Tryd.f96.name == "runtime.NumGoroutine") = false := by kernel_rfl
theorem Tryd.nm101 : (Tryd.f101.name == "runtime.NumGoroutine") = false := by kernel_rfl
theorem Tryd.sz3 : (Tryd.prog.info? 3).map (·.size) = some 1 := by kernel_rfl
theorem Tryd.sz4 : (Tryd.prog.info? 4).map (·.size) = some 1 := by kernel_rfl
theorem Tryd.sz5 : (Tryd.prog.info? 5).map (·.size) = some 1 := by kernel_rfl
theorem Tryd.sz9 : (Tryd.prog.info? 9).map (·.size) = some 1 := by kernel_rfl
theorem Tryd.sz23 : (Tryd.prog.info? 23).map (·.size) = some 1 := by kernel_rfl
theorem Tryd.sz24 : (Tryd.prog.info? 24).map (·.size) = some 1 := by kernel_rfl
theorem Tryd.sz35 : (Tryd.prog.info? 35).map (·.size) = some 2 := by kernel_rfl
theorem Tryd.sz38 : (Tryd.prog.info? 38).map (·.size) = some 3 := by kernel_rfl
theorem Tryd.sz39 : (Tryd.prog.info? 39).map (·.size) = some 1 := by kernel_rfl
theorem Tryd.sz41 : (Tryd.prog.info? 41).map (·.size) = some 3 := by kernel_rfl
theorem Tryd.sz43 : (Tryd.prog.info? 43).map (·.size) = some 4 := by kernel_rfl
theorem Tryd.sz49 : (Tryd.prog.info? 49).map (·.size) = some 1 := by kernel_rfl
theorem Tryd.sz69 : (Tryd.prog.info? 69).map (·.size) = some 6 := by kernel_rfl
theorem Tryd.sz72 : (Tryd.prog.info? 72).map (·.size) = some 4 := by kernel_rfl
theorem Tryd.sz79 : (Tryd.prog.info? 79).map (·.size) = some 2 := by kernel_rfl
theorem Tryd.sz82 : (Tryd.prog.info? 82).map (·.size) = some 1 := by kernel_rfl
theorem Tryd.sz83 : (Tryd.prog.info? 83).map (·.size) = some 1 := by kernel_rfl
theorem Tryd.sz85 : (Tryd.prog.info? 85).map (·.size) = some 6 := by kernel_rfl
theorem Tryd.sz101 : (Tryd.prog.info? 101).map (·.size) = some 2 := by kernel_rfl
theorem Tryd.sz102 : (Tryd.prog.info? 102).map (·.size) = some 1 := by kernel_rfl
theorem Tryd.sz134 : (Tryd.prog.info? 134).map (·.size) = some 1 := by kernel_rfl
theorem Tryd.wd : Tryd.prog.follows .mixedOrders = true := by kernel_rfl
theorem Tryd.zero3 : (Tryd.prog.info? 3).bind (·.zero) = some (.int .i64 0) := by kernel_rfl
theorem Tryd.zero4 : (Tryd.prog.info? 4).bind (·.zero) = some (.bool false) := by kernel_rfl
theorem Tryd.zero5 : (Tryd.prog.info? 5).bind (·.zero) = some (.int .u8 0) := by kernel_rfl
theorem Tryd.zero9 : (Tryd.prog.info? 9).bind (·.zero) = some (.string ⟨#[]⟩) := by kernel_rfl
theorem Tryd.zero23 : (Tryd.prog.info? 23).bind (·.zero) = some (.slice none 0 0) := by kernel_rfl
theorem Tryd.zero35 : (Tryd.prog.info? 35).bind (·.zero) = some (.agg #[.string ⟨#[]⟩, .slice none 0 0]) := by kernel_rfl
theorem Tryd.zero38 : (Tryd.prog.info? 38).bind (·.zero) = some (.agg #[.int .i64 0, .string ⟨#[]⟩, .slice none 0 0]) := by kernel_rfl
theorem Tryd.zero39 : (Tryd.prog.info? 39).bind (·.zero) = some (.slice none 0 0) := by kernel_rfl
theorem Tryd.zero41 : (Tryd.prog.info? 41).bind (·.zero) = some (.agg #[.int .i64 0, .int .i64 0, .slice none 0 0]) := by kernel_rfl
theorem Tryd.zero43 : (Tryd.prog.info? 43).bind (·.zero) = some (.agg #[.int .i64 0, .int .i64 0, .int .i64 0, .int .i64 0]) := by kernel_rfl
theorem Tryd.zero69 : (Tryd.prog.info? 69).bind (·.zero) = some (.agg #[.int .i64 0, .int .i64 0, .int .i64 0, .int .i64 0, .int .i64 0, .bool false]) := by kernel_rfl
theorem Tryd.zero79 : (Tryd.prog.info? 79).bind (·.zero) = some (.agg #[.slice none 0 0, .slice none 0 0]) := by kernel_rfl
theorem Tryd.zero85 : (Tryd.prog.info? 85).bind (·.zero) = some (.agg #[.slice none 0 0, .slice none 0 0, .slice none 0 0, .int .i64 0, .slice none 0 0, .slice none 0 0]) := by kernel_rfl
theorem Tryd.zero101 : (Tryd.prog.info? 101).bind (·.zero) = some (.agg #[.slice none 0 0, .slice none 0 0]) := by kernel_rfl
theorem Tryd.zero114 : (Tryd.prog.info? 114).bind (·.zero) = some (.pointer none) := by kernel_rfl
theorem Tryd.zero134 : (Tryd.prog.info? 134).bind (·.zero) = some (.map none) := by kernel_rfl
end Go.Proofs
