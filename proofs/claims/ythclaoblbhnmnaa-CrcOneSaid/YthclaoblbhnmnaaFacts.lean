/-
  Closed facts on the types and functions of the translation.
-/
import Derived.Test.YthclaoblbhnmnaaProg
import Derived.KernelRfl
import Derived.Test.YthclaoblbhnmnaaEng
namespace Go.Proofs
open Go
theorem Try.by5 : (Try.prog.info? 5).map (·.bytes) = some 1 := by kernel_rfl
theorem Try.nm9 : (Try.f9.name == "runtime.NumGoroutine") = false := by kernel_rfl
theorem Try.nm10 : (Try.f10.name == "runtime.NumGoroutine") = false := by kernel_rfl
theorem Try.nm11 : (Try.f11.name == "runtime.NumGoroutine") = false := by kernel_rfl
theorem Try.nm12 : (Try.f12.name == "runtime.NumGoroutine") = false := by kernel_rfl
theorem Try.nm13 : (Try.f13.name == "runtime.NumGoroutine") = false := by kernel_rfl
theorem Try.nm14 : (Try.f14.name == "runtime.NumGoroutine") = false := by kernel_rfl
theorem Try.nm15 : (Try.f15.name == "runtime.NumGoroutine") = false := by kernel_rfl
theorem Try.nm16 : (Try.f16.name == "runtime.NumGoroutine") = false := by kernel_rfl
theorem Try.sz5 : (Try.prog.info? 5).map (·.size) = some 1 := by kernel_rfl
theorem Try.sz22 : (Try.prog.info? 22).map (·.size) = some 1 := by kernel_rfl
theorem Try.sz24 : (Try.prog.info? 24).map (·.size) = some 1 := by kernel_rfl
theorem Try.sz38 : (Try.prog.info? 38).map (·.size) = some 256 := by kernel_rfl
theorem Try.wd : Try.prog.follows .mixedOrders = true := by kernel_rfl
theorem Try.zero5 : (Try.prog.info? 5).bind (·.zero) = some (.int .u8 0) := by kernel_rfl
theorem Try.zero24 : (Try.prog.info? 24).bind (·.zero) = some (.slice none 0 0) := by kernel_rfl
theorem Try.zero38 : (Try.prog.info? 38).bind (·.zero) = some (.agg (Array.replicate 256 (.int .u32 0))) := by kernel_rfl
end Go.Proofs
