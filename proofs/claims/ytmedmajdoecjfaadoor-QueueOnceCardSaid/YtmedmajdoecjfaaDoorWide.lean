/-
  The engine: slices of which the bytes are told. Generic: no program.
-/
import Derived.Test.YtmedmajdoecjfaaDoorLaw
namespace Go.Eng
set_option linter.unusedVariables false
set_option linter.unusedSimpArgs false
open Go.RowKit

/-- A slice that came in: so many bytes for each element. -/
def Ty.sliceW {α : Type} (T : Ty α) (k : Nat) : Ty (List α) where
  sz := 1
  R := fun w F l cs => T.slice.R w F l cs ∧ l.length * k ≤ 140737488355328
  len := fun h => T.slice.len h.1
  one := fun h => T.slice.one h.1
  keep := fun h hs hF => ⟨T.slice.keep h.1 hs hF, h.2⟩
theorem Rd.sliceW {P : Program} {α : Type} {T : Ty α} {t e : TypeId} {k : Nat} (ht : P.underlying t = some (.slice e)) (hc : P.cellsOf e = T.sz) (h1 : Nat.ble 1 T.sz = true) (hb1 : Nat.ble 1 (P.bytesOf e) = true) (hk : P.bytesOf e = k) {μ : α → Nat} (hT : Rd P e T μ) : Rd P t (T.sliceW k) (fun l => (l.map μ).sum + 1) := by
  intro H enc w fuel cs x h hz
  obtain ⟨y, hR, hβ⟩ := Rd.slice ht hc h1 hb1 hT h hz
  refine ⟨y, ⟨hR, ?_⟩, hβ⟩
  obtain ⟨A, cap, hcs, _, _, _⟩ := hR
  rcases Go.Deep.open_slice ht h with ⟨h0, _⟩ | ⟨a, len, cap', m, n, D, Pl, h0, hb, hl, hm, hmm, hx, hel⟩
  · rw [hcs] at h0
    simp only [List.cons.injEq, Value.slice.injEq, and_true] at h0
    rw [h0.2.1]; omega
  · rw [hcs] at h0
    simp only [List.cons.injEq, Value.slice.injEq, and_true] at h0
    rw [h0.2.1]
    have hq := hz ((len + (m - len)) * P.bytesOf e) (by simp only [if_true] at hmm; subst hmm; rw [hx]; simp [DataW.weights, ht])
    rw [hk] at hq
    have h3 : len * k ≤ (len + (m - len)) * k := Nat.mul_le_mul_right _ (by omega)
    have h4 : reachBytes ≤ 140737488355328 := by decide
    omega
open Go.ChangeShapes Go.WideShapes Go.ChangeAt in
theorem arg_sliceW {P : Program} {H : Type} {enc : TypeId × Value → H} {W : World} {base : Nat} {t : TypeId} {v : Value} {d : DataW H} {p : List MemPlace} {α : Type} {T : Ty α} {e : TypeId} {k : Nat} (ht : P.underlying t = some (.slice e)) {μ : List α → Nat} (hR : Rd P t (T.sliceW k) μ) (hv : Value.okWide P W .any base t v) (h : DataW.Trod enc P W 0 (fun _ => true) true t v d p)
    (hz : ∀ n ∈ d.weights P t, n ≤ reachBytes) : ∃ A cap l, v = .slice A l.length cap ∧ l.length ≤ cap ∧ l.length * k ≤ 140737488355328 ∧ T.Row W (old W) A l ∧ ∀ β : DataW H → Nat, Bulk β → μ l ≤ β d := by
  obtain ⟨a, len, cap, rfl⟩ := okWide_slice ht hv
  obtain ⟨fuel, hf⟩ := h
  obtain ⟨l, ⟨⟨A, c, hcs, h1, h2, h3⟩, h4⟩, hbl⟩ := hR hf hz
  simp only [Value.cells, List.cons.injEq, and_true, Value.slice.injEq] at hcs
  obtain ⟨rfl, rfl, rfl⟩ := hcs
  exact ⟨_, _, l, rfl, h1, h4, h3, hbl⟩
theorem Ty.Row.cellW {α : Type} {T : Ty α} {k : Nat} {w : World} {F : Nat → Prop} {A : Option Addr} {l : List (List α)} (h : (T.sliceW k).Row w F A l) {i : Nat} (hi : i < l.length) :
    ∃ g off Ai ci, A = some ⟨g, off, none⟩ ∧ F g ∧ w.cell? ⟨g, off + i, none⟩ = some (.slice Ai l[i].length ci) ∧ l[i].length ≤ ci ∧ l[i].length * k ≤ 140737488355328 ∧ T.Row w F Ai l[i] := by
  obtain ⟨g, off, xs, rfl, hg, ⟨⟨Ai, ci, rfl, h1, h2, h3⟩, h4⟩, hc⟩ := h.cells hi
  have := hc 0 (Nat.lt_add_one 0)
  simp only [Ty.sliceW, Nat.mul_one, Nat.add_zero] at this
  exact ⟨g, off, Ai, ci, rfl, hg, by simpa using this, h1, h4, h3⟩
end Go.Eng
