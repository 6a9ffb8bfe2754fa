/-
  Closed facts on the types and functions of the translation.
-/
import Derived.Test.YtkdcmdcdjnmkaaaDoorProg
import Derived.Test.YtkdcmdcdjnmkaaaDoorRec
import Derived.KernelRfl
import Derived.Test.YtkdcmdcdjnmkaaaDoorEng
namespace Go.Proofs
open Go
theorem Tryd.by5 : (Tryd.prog.info? 5).map (·.bytes) = some 1 := by kernel_rfl
theorem Tryd.by9 : (Tryd.prog.info? 9).map (·.bytes) = some 16 := by kernel_rfl
theorem Tryd.by23 : (Tryd.prog.info? 23).map (·.bytes) = some 24 := by kernel_rfl
theorem Tryd.by33 : (Tryd.prog.info? 33).map (·.bytes) = some 24 := by kernel_rfl
theorem Tryd.by36 : (Tryd.prog.info? 36).map (·.bytes) = some 48 := by kernel_rfl
theorem Tryd.by54 : (Tryd.prog.info? 54).map (·.bytes) = some 40 := by kernel_rfl
theorem Tryd.by77 : (Tryd.prog.info? 77).map (·.bytes) = some 48 := by kernel_rfl
theorem Tryd.fld36_0 : Go.Eng.fieldOf Tryd.prog 36 0 = some (0, 1, 3) := by kernel_rfl
theorem Tryd.fld36_1 : Go.Eng.fieldOf Tryd.prog 36 1 = some (1, 1, 9) := by kernel_rfl
theorem Tryd.fld36_2 : Go.Eng.fieldOf Tryd.prog 36 2 = some (2, 1, 34) := by kernel_rfl
theorem Tryd.fld52_0 : Go.Eng.fieldOf Tryd.prog 52 0 = some (0, 1, 42) := by kernel_rfl
theorem Tryd.fld52_1 : Go.Eng.fieldOf Tryd.prog 52 1 = some (1, 1, 24) := by kernel_rfl
theorem Tryd.fld54_0 : Go.Eng.fieldOf Tryd.prog 54 0 = some (0, 1, 9) := by kernel_rfl
theorem Tryd.fld54_1 : Go.Eng.fieldOf Tryd.prog 54 1 = some (1, 1, 34) := by kernel_rfl
theorem Tryd.fld75_0 : Go.Eng.fieldOf Tryd.prog 75 0 = some (0, 1, 33) := by kernel_rfl
theorem Tryd.fld77_0 : Go.Eng.fieldOf Tryd.prog 77 0 = some (0, 1, 75) := by kernel_rfl
theorem Tryd.fld77_1 : Go.Eng.fieldOf Tryd.prog 77 1 = some (1, 1, 23) := by kernel_rfl
theorem Tryd.fld81_0 : Go.Eng.fieldOf Tryd.prog 81 0 = some (0, 1, 78) := by kernel_rfl
theorem Tryd.fld81_1 : Go.Eng.fieldOf Tryd.prog 81 1 = some (1, 1, 79) := by kernel_rfl
theorem Tryd.lay36 : Go.Eng.layOf Tryd.prog 36 = some ([.int .i64 0, .string ⟨#[]⟩, .slice none 0 0], [0, 1, 2]) := by kernel_rfl
theorem Tryd.lay52 : Go.Eng.layOf Tryd.prog 52 = some ([.slice none 0 0, .slice none 0 0], [0, 1]) := by kernel_rfl
theorem Tryd.lay54 : Go.Eng.layOf Tryd.prog 54 = some ([.string ⟨#[]⟩, .slice none 0 0], [0, 1]) := by kernel_rfl
theorem Tryd.lay75 : Go.Eng.layOf Tryd.prog 75 = some ([.slice none 0 0], [0]) := by kernel_rfl
theorem Tryd.lay77 : Go.Eng.layOf Tryd.prog 77 = some ([.slice none 0 0, .slice none 0 0], [0, 1]) := by kernel_rfl
theorem Tryd.lay81 : Go.Eng.layOf Tryd.prog 81 = some ([.slice none 0 0, .map none], [0, 1]) := by kernel_rfl
theorem Tryd.nm9 : (Tryd.f9.name == "runtime.NumGoroutine") = false := by kernel_rfl
theorem Tryd.nm10 : (Tryd.f10.name == "runtime.NumGoroutine") = false := by kernel_rfl
theorem Tryd.nm11 : (Tryd.f11.name == "runtime.NumGoroutine") = false := by kernel_rfl
theorem Tryd.nm12 : (Tryd.f12.name == "runtime.NumGoroutine") = false := by kernel_rfl
theorem Tryd.nm13 : (Tryd.f13.name == "runtime.NumGoroutine") = false := by kernel_rfl
theorem Tryd.nm14 : (Tryd.f14.name == "runtime.NumGoroutine") = false := by kernel_rfl
theorem Tryd.nm15 : (Tryd.f15.name == "runtime.NumGoroutine") = false := by kernel_rfl
theorem Tryd.nm16 : (Tryd.f16.name == "runtime.NumGoroutine") = false := by kernel_rfl
theorem Tryd.nm17 : (Tryd.f17.name == "runtime.NumGoroutine") = false := by kernel_rfl
theorem Tryd.nm18 : (Tryd.f18.name == "runtime.NumGoroutine") = false := by kernel_rfl
theorem Tryd.nm19 : (Tryd.f19.name == "runtime.NumGoroutine") = false := by kernel_rfl
theorem Tryd.nm20 : (Tryd.f20.name == "runtime.NumGoroutine") = false := by kernel_rfl
theorem Tryd.nm21 : (Tryd.f21.name == "runtime.NumGoroutine") = false := by kernel_rfl
theorem Tryd.nm22 : (Tryd.f22.name == "runtime.NumGoroutine") = false := by kernel_rfl
theorem Tryd.nm23 : (Tryd.f23.name == "runtime.NumGoroutine") = false := by kernel_rfl
theorem Tryd.nm24 : (Tryd.f24.name == "runtime.NumGoroutine") = false := by kernel_rfl
theorem Tryd.nm25 : (Tryd.f25.name == "runtime.NumGoroutine") = false := by kernel_rfl
theorem Tryd.nm26 : (Tryd.f26.name == "runtime.NumGoroutine") = false := by kernel_rfl
theorem Tryd.nm27 : (Tryd.f27.name == "runtime.NumGoroutine") = false := by kernel_rfl
theorem Tryd.nm28 : (Tryd.f28.name == "runtime.NumGoroutine") = false := by kernel_rfl
theorem Tryd.nm29 : (Tryd.f29.name == "runtime.NumGoroutine") = false := by kernel_rfl
theorem Tryd.nm30 : (Tryd.f30.name == "runtime.NumGoroutine") = false := by kernel_rfl
theorem Tryd.nm31 : (Tryd.f31.name == "runtime.NumGoroutine") = false := by kernel_rfl
theorem Tryd.nm32 : (Tryd.f32.name == "runtime.NumGoroutine") = false := by kernel_rfl
theorem Tryd.nm33 : (Tryd.f33.name == "runtime.NumGoroutine") = false := by kernel_rfl
theorem Tryd.nm34 : (Tryd.f34.name == "runtime.NumGoroutine") = false := by kernel_rfl
theorem Tryd.nm35 : (Tryd.f35.name == "runtime.NumGoroutine") = false := by kernel_rfl
theorem Tryd.nm36 : (Tryd.f36.name == "runtime.NumGoroutine") = false := by kernel_rfl
theorem Tryd.nm37 : (Tryd.f37.name == "runtime.NumGoroutine") = false := by kernel_rfl
theorem Tryd.nm38 : (Tryd.f38.name == "runtime.NumGoroutine") = false := by kernel_rfl
theorem Tryd.nm39 : (Tryd.f39.name == "runtime.NumGoroutine") = false := by kernel_rfl
theorem Tryd.nm40 : (Tryd.f40.name == "runtime.NumGoroutine") = false := by kernel_rfl
theorem Tryd.nm41 : (Tryd.f41.name == "runtime.NumGoroutine") = false := by kernel_rfl
theorem Tryd.nm42 : (Tryd.f42.name == "runtime.NumGoroutine") = false := by kernel_rfl
theorem Tryd.nm43 : (Tryd.f43.name == "runtime.NumGoroutine") = false := by kernel_rfl
theorem Tryd.nm44 : (Tryd.f44.name == "runtime.NumGoroutine") = false := by kernel_rfl
theorem Tryd.nm45 : (Tryd.f45.name == "runtime.NumGoroutine") = false := by kernel_rfl
theorem Tryd.nm46 : (Tryd.f46.name == "runtime.NumGoroutine") = false := by kernel_rfl
theorem Tryd.nm47 : (Tryd.f47.name == "runtime.NumGoroutine") = false := by kernel_rfl
theorem Tryd.nm48 : (Tryd.f48.name == "runtime.NumGoroutine") = false := by kernel_rfl
theorem Tryd.nm49 : (Tryd.f49.name == "runtime.NumGoroutine") = false := by kernel_rfl
theorem Tryd.nm50 : (Tryd.f50.name == "runtime.NumGoroutine") = false := by kernel_rfl
theorem Tryd.nm51 : (Tryd.f51.name == "runtime.NumGoroutine") = false := by kernel_rfl
theorem Tryd.nm52 : (Tryd.f52.name == "runtime.NumGoroutine") = false := by kernel_rfl
theorem Tryd.nm53 : (Tryd.f53.name == "runtime.NumGoroutine") = false := by kernel_rfl
theorem Tryd.nm54 : (Tryd.f54.name == "runtime.NumGoroutine") = false := by kernel_rfl
theorem Tryd.nm55 : (Tryd.f55.name == "runtime.NumGoroutine") = false := by kernel_rfl
theorem Tryd.nm56 : (Tryd.f56.name == "runtime.NumGoroutine") = false := by kernel_rfl
theorem Tryd.nm57 : (Tryd.f57.name == "runtime.NumGoroutine") = false := by kernel_rfl
theorem Tryd.nm58 : (Tryd.f58.name == "runtime.NumGoroutine") = false := by kernel_rfl
theorem Tryd.nm59 : (Tryd.f59.name == "runtime.NumGoroutine") = false := by kernel_rfl
theorem Tryd.nm60 : (Tryd.f60.name == "runtime.NumGoroutine") = false := by kernel_rfl
theorem Tryd.nm61 : (Tryd.f61.name == "runtime.NumGoroutine") = false := by kernel_rfl
theorem Tryd.nm62 : (Tryd.f62.name == "runtime.NumGoroutine") = false := by kernel_rfl
theorem Tryd.nm63 : (Tryd.f63.name == "runtime.NumGoroutine") = false := by kernel_rfl
theorem Tryd.nm64 : (Tryd.f64.name == "runtime.NumGoroutine") = false := by kernel_rfl
theorem Tryd.nm65 : (Tryd.f65.name == "runtime.NumGoroutine") = false := by kernel_rfl
theorem Tryd.nm66 : (Tryd.f66.name == "runtime.NumGoroutine") = false := by kernel_rfl
theorem Tryd.nm67 : (Tryd.f67.name == "runtime.NumGoroutine") = false := by kernel_rfl
theorem Tryd.nm68 : (Tryd.f68.name == "runtime.NumGoroutine") = false := by kernel_rfl
theorem Tryd.nm69 : (Tryd.f69.name == "runtime.NumGoroutine") = false := by kernel_rfl
theorem Tryd.nm70 : (Tryd.f70.name == "runtime.NumGoroutine") = false := by kernel_rfl
theorem Tryd.nm72 : (Tryd.f72.name == "runtime.NumGoroutine") = false := by kernel_rfl
theorem Tryd.nm73 : (Tryd.f73.name == "runtime.NumGoroutine") = false := by kernel_rfl
theorem Tryd.nm76 : (Tryd.f76.name == "runtime.NumGoroutine") = false := by kernel_rfl
theorem Tryd.nm78 : (Tryd.f78.name == "runtime.NumGoroutine") = false := by kernel_rfl
theorem Tryd.nm83 : (Tryd.f83.name == "runtime.NumGoroutine") = false := by kernel_rfl
theorem Tryd.sz4 : (Tryd.prog.info? 4).map (·.size) = some 1 := by kernel_rfl
theorem Tryd.sz5 : (Tryd.prog.info? 5).map (·.size) = some 1 := by kernel_rfl
theorem Tryd.sz9 : (Tryd.prog.info? 9).map (·.size) = some 1 := by kernel_rfl
theorem Tryd.sz23 : (Tryd.prog.info? 23).map (·.size) = some 1 := by kernel_rfl
theorem Tryd.sz33 : (Tryd.prog.info? 33).map (·.size) = some 1 := by kernel_rfl
theorem Tryd.sz34 : (Tryd.prog.info? 34).map (·.size) = some 1 := by kernel_rfl
theorem Tryd.sz36 : (Tryd.prog.info? 36).map (·.size) = some 3 := by kernel_rfl
theorem Tryd.sz52 : (Tryd.prog.info? 52).map (·.size) = some 2 := by kernel_rfl
theorem Tryd.sz54 : (Tryd.prog.info? 54).map (·.size) = some 2 := by kernel_rfl
theorem Tryd.sz77 : (Tryd.prog.info? 77).map (·.size) = some 2 := by kernel_rfl
theorem Tryd.sz78 : (Tryd.prog.info? 78).map (·.size) = some 1 := by kernel_rfl
theorem Tryd.sz90 : (Tryd.prog.info? 90).map (·.size) = some 1 := by kernel_rfl
theorem Tryd.wd : Tryd.prog.follows .mixedOrders = true := by kernel_rfl
theorem Tryd.zero3 : (Tryd.prog.info? 3).bind (·.zero) = some (.int .i64 0) := by kernel_rfl
theorem Tryd.zero4 : (Tryd.prog.info? 4).bind (·.zero) = some (.bool false) := by kernel_rfl
theorem Tryd.zero5 : (Tryd.prog.info? 5).bind (·.zero) = some (.int .u8 0) := by kernel_rfl
theorem Tryd.zero9 : (Tryd.prog.info? 9).bind (·.zero) = some (.string ⟨#[]⟩) := by kernel_rfl
theorem Tryd.zero23 : (Tryd.prog.info? 23).bind (·.zero) = some (.slice none 0 0) := by kernel_rfl
theorem Tryd.zero33 : (Tryd.prog.info? 33).bind (·.zero) = some (.slice none 0 0) := by kernel_rfl
theorem Tryd.zero36 : (Tryd.prog.info? 36).bind (·.zero) = some (.agg #[.int .i64 0, .string ⟨#[]⟩, .slice none 0 0]) := by kernel_rfl
theorem Tryd.zero52 : (Tryd.prog.info? 52).bind (·.zero) = some (.agg #[.slice none 0 0, .slice none 0 0]) := by kernel_rfl
theorem Tryd.zero54 : (Tryd.prog.info? 54).bind (·.zero) = some (.agg #[.string ⟨#[]⟩, .slice none 0 0]) := by kernel_rfl
theorem Tryd.zero77 : (Tryd.prog.info? 77).bind (·.zero) = some (.agg #[.slice none 0 0, .slice none 0 0]) := by kernel_rfl
theorem Tryd.zero90 : (Tryd.prog.info? 90).bind (·.zero) = some (.map none) := by kernel_rfl
end Go.Proofs
