/-
  What is read of Go's library's variables, out of a row's condition.
-/
import Derived.Test.YtafcaigjijajnaaDoorFacts
import Derived.Test.YtafcaigjijajnaaDoorRuleKnown
import Derived.Test.YtafcaigjijajnaaDoorGenB
namespace Go.Proofs.YtafcaigjijajnaaDoor
open Go Go.Eng Go.RowKit Go.Proofs
set_option linter.unusedVariables false
set_option linter.unusedSimpArgs false
set_option maxRecDepth 100000

theorem gS : Tryd.prog.globalNamed "strconv.ErrSyntax" = some 0 := by kernel_rfl
theorem gSType : (Tryd.prog.globals[0]?).map (·.type) = some 60 := by kernel_rfl
theorem starE : "*" ++ "errors.errorString" = "*errors.errorString" := by decide
theorem rowE (u : TypeId) (h : Tryd.prog.typeName? 3 u = some "*errors.errorString") : u = 114 :=
  typeName_ptr_named (nm := "errors.errorString") (by rw [starE]; kernel_rfl) (by kernel_rfl) (by decide) u (by rw [starE]; exact h)
theorem cellsE : Tryd.prog.cellsOf 116 = 1 := by kernel_rfl
theorem cellsS : Tryd.prog.cellsOf 9 = 1 := by kernel_rfl
theorem gl_of {W : World} {x0 x1 x2 x3 x4 : String × DataW Unit} {r : List (String × DataW Unit)} {text : List UInt8} (hsh : W.ShapedOpen Tryd.prog)
    (hL : laidMet Tryd.prog (x0 :: x1 :: x2 :: x3 :: x4 :: ("strconv.ErrSyntax", .iface "*errors.errorString" (.ptr (.agg [.lit (.string text)]))) :: r) W) : Gl W := by
  obtain ⟨a0, s0, hv, -⟩ := laid_sentinel hL.tail.tail.tail.tail.tail gS gSType Tryd.underlying60 rowE Tryd.underlying114 Tryd.underlying116 rfl rfl Tryd.underlying9 cellsE cellsS
  have hc : W.cell? ⟨0, 0, none⟩ = some (.iface 114 (.pointer (some a0))) := by simpa using World.var?_cell gS hv 0
  exact ⟨cell_of_shapedOpen_int (g := gMax) (t := 3) (zero := #[.int .i64 0]) hsh (of_decide_eq_true (by kernel_rfl)) (by kernel_rfl) rfl (by kernel_rfl) (by kernel_rfl) Tryd.underlying3, ⟨_, hc, Or.inr ⟨_, _, rfl⟩⟩⟩
end Go.Proofs.YtafcaigjijajnaaDoor
