/-
  Closed facts on the types and functions of the translation.
-/
import Derived.Test.YtgclnpafkjfmhaaProg
import Derived.KernelRfl
import Derived.Test.YtgclnpafkjfmhaaEng
namespace Go.Proofs
open Go
theorem Try.by5 : (Try.prog.info? 5).map (·.bytes) = some 1 := by kernel_rfl
theorem Try.by22 : (Try.prog.info? 22).map (·.bytes) = some 24 := by kernel_rfl
theorem Try.nm8 : (Try.f8.name == "runtime.NumGoroutine") = false := by kernel_rfl
theorem Try.nm9 : (Try.f9.name == "runtime.NumGoroutine") = false := by kernel_rfl
theorem Try.nm10 : (Try.f10.name == "runtime.NumGoroutine") = false := by kernel_rfl
theorem Try.nm11 : (Try.f11.name == "runtime.NumGoroutine") = false := by kernel_rfl
theorem Try.nm12 : (Try.f12.name == "runtime.NumGoroutine") = false := by kernel_rfl
theorem Try.nm13 : (Try.f13.name == "runtime.NumGoroutine") = false := by kernel_rfl
theorem Try.nm14 : (Try.f14.name == "runtime.NumGoroutine") = false := by kernel_rfl
theorem Try.nm15 : (Try.f15.name == "runtime.NumGoroutine") = false := by kernel_rfl
theorem Try.nm16 : (Try.f16.name == "runtime.NumGoroutine") = false := by kernel_rfl
theorem Try.nm17 : (Try.f17.name == "runtime.NumGoroutine") = false := by kernel_rfl
theorem Try.nm18 : (Try.f18.name == "runtime.NumGoroutine") = false := by kernel_rfl
theorem Try.nm19 : (Try.f19.name == "runtime.NumGoroutine") = false := by kernel_rfl
theorem Try.nm20 : (Try.f20.name == "runtime.NumGoroutine") = false := by kernel_rfl
theorem Try.nm21 : (Try.f21.name == "runtime.NumGoroutine") = false := by kernel_rfl
theorem Try.nm22 : (Try.f22.name == "runtime.NumGoroutine") = false := by kernel_rfl
theorem Try.nm23 : (Try.f23.name == "runtime.NumGoroutine") = false := by kernel_rfl
theorem Try.nm24 : (Try.f24.name == "runtime.NumGoroutine") = false := by kernel_rfl
theorem Try.nm25 : (Try.f25.name == "runtime.NumGoroutine") = false := by kernel_rfl
theorem Try.nm26 : (Try.f26.name == "runtime.NumGoroutine") = false := by kernel_rfl
theorem Try.nm27 : (Try.f27.name == "runtime.NumGoroutine") = false := by kernel_rfl
theorem Try.nm28 : (Try.f28.name == "runtime.NumGoroutine") = false := by kernel_rfl
theorem Try.nm29 : (Try.f29.name == "runtime.NumGoroutine") = false := by kernel_rfl
theorem Try.nm30 : (Try.f30.name == "runtime.NumGoroutine") = false := by kernel_rfl
theorem Try.nm31 : (Try.f31.name == "runtime.NumGoroutine") = false := by kernel_rfl
theorem Try.sz3 : (Try.prog.info? 3).map (·.size) = some 1 := by kernel_rfl
theorem Try.sz5 : (Try.prog.info? 5).map (·.size) = some 1 := by kernel_rfl
theorem Try.sz22 : (Try.prog.info? 22).map (·.size) = some 1 := by kernel_rfl
theorem Try.sz26 : (Try.prog.info? 26).map (·.size) = some 1 := by kernel_rfl
theorem Try.sz45 : (Try.prog.info? 45).map (·.size) = some 1 := by kernel_rfl
theorem Try.sz54 : (Try.prog.info? 54).map (·.size) = some 256 := by kernel_rfl
theorem Try.wd : Try.prog.follows .mixedOrders = true := by kernel_rfl
theorem Try.zero3 : (Try.prog.info? 3).bind (·.zero) = some (.int .i64 0) := by kernel_rfl
theorem Try.zero5 : (Try.prog.info? 5).bind (·.zero) = some (.int .u8 0) := by kernel_rfl
theorem Try.zero22 : (Try.prog.info? 22).bind (·.zero) = some (.slice none 0 0) := by kernel_rfl
theorem Try.zero26 : (Try.prog.info? 26).bind (·.zero) = some (.slice none 0 0) := by kernel_rfl
theorem Try.zero54 : (Try.prog.info? 54).bind (·.zero) = some (.agg (Array.replicate 256 (.int .u32 0))) := by kernel_rfl
end Go.Proofs
