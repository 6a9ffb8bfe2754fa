/-
  The engine: memory. 'Ext': only new blocks. 'Ty': how cells read as data, by which blocks.
-/
import Derived.Test.YtmedmajdoecjfaaDoorOps
namespace Go.Eng
set_option linter.unusedVariables false
set_option linter.unusedSimpArgs false
open Go.RowKit

/-- Nothing that is there has changed; there may be more. -/
abbrev Ext (w w' : World) : Prop := Below w.heap.size w w'
theorem Ext.refl (w : World) : Ext w w := Below.refl _ _
theorem Ext.trans {a b c : World} (h : Ext a b) (k : Ext b c) : Ext a c := Below.trans h (k.mono h.size)
theorem Ext.alloc (w : World) (o : Obj) : Ext w (w.alloc o) := (Below.refl _ _).alloc (Nat.le_refl _) o
theorem Ext.of_alloc {a w : World} (h : Ext a w) (o : Obj) : Ext a (w.alloc o) := h.trans (Ext.alloc w o)
theorem Ext.drew {a w : World} (h : Ext a w) : Ext a w.drew := Below.drew h
theorem Ext.drawn {a w : World} (h : Ext a w) (n : Nat) : Ext a { w with drawn := n } := ⟨h.os, h.tape, h.output, h.size, h.block⟩

/-- Blocks that 'F' names are as they were. -/
def Same (F : Nat → Prop) (w w' : World) : Prop := ∀ b, F b → w'.heap[b]? = w.heap[b]?
abbrev old (w : World) : Nat → Prop := fun b => b < w.heap.size
theorem Ext.same {w w' : World} (h : Ext w w') : Same (old w) w w' := fun b hb => h.block b hb
theorem Same.of {F G : Nat → Prop} {w w' : World} (h : Same F w w') (hg : ∀ b, G b → F b) : Same G w w' := fun b hb => h b (hg b hb)

/-- How cells read as data. -/
structure Ty (α : Type) where
  sz : Nat
  R : World → (Nat → Prop) → α → List Value → Prop
  len : ∀ {w F x cs}, R w F x cs → cs.length = sz
  one : ∀ {w F x cs}, R w F x cs → ∀ u ∈ cs, u.oneCell' = true
  keep : ∀ {w w' : World} {F F' : Nat → Prop} {x cs}, R w F x cs → Same F w w' → (∀ b, F b → F' b) → R w' F' x cs

theorem Ty.ext {α : Type} (T : Ty α) {w w' : World} {x : α} {cs : List Value} (h : T.R w (old w) x cs) (he : Ext w w') : T.R w' (old w') x cs :=
  T.keep h he.same fun b hb => Nat.lt_of_lt_of_le hb he.size

/-- The bounds of a kind of whole numbers. -/
def lo : IntKind → Int
  | .i8 => -128 | .i16 => -32768 | .i32 => -2147483648 | .i64 => -9223372036854775808 | _ => 0
def hi : IntKind → Int
  | .i8 => 127 | .i16 => 32767 | .i32 => 2147483647 | .i64 => 9223372036854775807
  | .u8 => 255 | .u16 => 65535 | .u32 => 4294967295 | .u64 => 18446744073709551615
def inK (k : IntKind) (n : Int) : Prop := lo k ≤ n ∧ n ≤ hi k

/-- How long a list, or a string, may be that came in: 2^47. -/
abbrev big : Nat := 140737488355328

namespace Ty
def scalar {α : Type} (enc : α → Value) (ok : α → Prop) (h1 : ∀ x, (enc x).oneCell' = true) : Ty α where
  sz := 1
  R := fun _ _ x cs => cs = [enc x] ∧ ok x
  len := by rintro _ _ _ _ ⟨rfl, _⟩; rfl
  one := by rintro _ _ x _ ⟨rfl, _⟩ u hu; simp at hu; subst hu; exact h1 x
  keep := fun h _ _ => h
def int (k : IntKind) : Ty Int := scalar (Value.int k) (inK k) (fun _ => rfl)
def byte : Ty UInt8 := scalar (fun b => Value.int .u8 b.toNat) (fun _ => True) (fun _ => rfl)
def bool : Ty Bool := scalar Value.bool (fun _ => True) (fun _ => rfl)
def string : Ty ByteArray := scalar Value.string (fun s => s.size ≤ big) (fun _ => rfl)

/-- The elements' own row. -/
def Row {α : Type} (T : Ty α) (w : World) (F : Nat → Prop) (A : Option Addr) (l : List α) : Prop :=
  l = [] ∨ ∃ g off c t fr, A = some ⟨g, off, none⟩ ∧ F g ∧ w.heap[g]? = some (.cells c t fr) ∧
    ∀ i (h : i < l.length), ∃ xs, T.R w F l[i] xs ∧ ∀ j, j < T.sz → c[off + i * T.sz + j]? = xs[j]?
theorem Row.nil {α : Type} {T : Ty α} {w : World} {F : Nat → Prop} {A : Option Addr} : T.Row w F A [] := Or.inl rfl
theorem Row.keep {α : Type} {T : Ty α} {w w' : World} {F F' : Nat → Prop} {A : Option Addr} {l : List α} (h : T.Row w F A l) (hs : Same F w w') (hF : ∀ b, F b → F' b) : T.Row w' F' A l := by
  rcases h with h | ⟨g, off, c, t, fr, rfl, hg, hb, hr⟩
  · exact Or.inl h
  · refine Or.inr ⟨g, off, c, t, fr, rfl, hF g hg, by rw [hs g hg]; exact hb, fun i hi => ?_⟩
    obtain ⟨xs, h1, h2⟩ := hr i hi
    exact ⟨xs, T.keep h1 hs hF, h2⟩
theorem Row.ext {α : Type} {T : Ty α} {w w' : World} {A : Option Addr} {l : List α} (h : T.Row w (old w) A l) (he : Ext w w') : T.Row w' (old w') A l :=
  h.keep he.same fun b hb => Nat.lt_of_lt_of_le hb he.size

def slice {α : Type} (T : Ty α) : Ty (List α) where
  sz := 1
  R := fun w F l cs => ∃ A cap, cs = [.slice A l.length cap] ∧ l.length ≤ cap ∧ l.length ≤ big ∧ T.Row w F A l
  len := by rintro _ _ _ _ ⟨A, cap, rfl, _⟩; rfl
  one := by rintro _ _ _ _ ⟨A, cap, rfl, _⟩ u hu; simp at hu; subst hu; rfl
  keep := fun ⟨A, cap, h1, h2, h3, h4⟩ hs hF => ⟨A, cap, h1, h2, h3, h4.keep hs hF⟩
def pair {α β : Type} (S : Ty α) (T : Ty β) : Ty (α × β) where
  sz := S.sz + T.sz
  R := fun w F x cs => ∃ c1 c2, cs = c1 ++ c2 ∧ S.R w F x.1 c1 ∧ T.R w F x.2 c2
  len := by rintro w F x cs ⟨c1, c2, rfl, h1, h2⟩; simp [S.len h1, T.len h2]
  one := by
    rintro w F x cs ⟨c1, c2, rfl, h1, h2⟩ u hu
    rcases List.mem_append.1 hu with h | h
    · exact S.one h1 u h
    · exact T.one h2 u h
  keep := fun ⟨c1, c2, h0, h1, h2⟩ hs hF => ⟨c1, c2, h0, S.keep h1 hs hF, T.keep h2 hs hF⟩
def iso {α β : Type} (T : Ty α) (f : β → α) : Ty β where
  sz := T.sz
  R := fun w F x cs => T.R w F (f x) cs
  len := fun h => T.len h
  one := fun h => T.one h
  keep := fun h hs hF => T.keep h hs hF
end Ty

/-! Addresses and loads. -/
theorem add_at (g off n : Nat) : (⟨g, off, none⟩ : Addr).add n = ⟨g, off + n, none⟩ := by
  unfold Addr.add; split <;> simp_all

/-- A row's elements lie where the index says. -/
theorem Ty.Row.cells {α : Type} {T : Ty α} {w : World} {F : Nat → Prop} {A : Option Addr} {l : List α} (h : T.Row w F A l) {i : Nat} (hi : i < l.length) :
    ∃ g off xs, A = some ⟨g, off, none⟩ ∧ F g ∧ T.R w F l[i] xs ∧ ∀ j, j < T.sz → w.cell? ⟨g, off + i * T.sz + j, none⟩ = xs[j]? := by
  rcases h with h | ⟨g, off, c, t, fr, rfl, hg, hb, hr⟩
  · subst h; simp at hi
  · obtain ⟨xs, h1, h2⟩ := hr i hi
    refine ⟨g, off, xs, rfl, hg, h1, fun j hj => ?_⟩
    rw [cell_of_row w g _ c t fr hb]
    exact h2 j hj
/-- A row of scalars. -/
theorem Ty.Row.cell {α : Type} {enc : α → Value} {ok : α → Prop} {h1 : ∀ x, (enc x).oneCell' = true} {w : World} {F : Nat → Prop} {A : Option Addr} {l : List α} (h : (Ty.scalar enc ok h1).Row w F A l) {i : Nat} (hi : i < l.length) :
    ∃ g off, A = some ⟨g, off, none⟩ ∧ F g ∧ ok l[i] ∧ w.cell? ⟨g, off + i, none⟩ = some (enc l[i]) := by
  obtain ⟨g, off, xs, rfl, hg, hR, hc⟩ := h.cells hi
  obtain ⟨rfl, hok⟩ := hR
  have := hc 0 (Nat.lt_add_one 0)
  simp only [Ty.scalar, Nat.mul_one, Nat.add_zero] at this
  exact ⟨g, off, rfl, hg, hok, by simpa using this⟩

/-- A row of slices. -/
theorem Ty.Row.cellS {α : Type} {T : Ty α} {w : World} {F : Nat → Prop} {A : Option Addr} {l : List (List α)} (h : T.slice.Row w F A l) {i : Nat} (hi : i < l.length) :
    ∃ g off Ai ci, A = some ⟨g, off, none⟩ ∧ F g ∧ w.cell? ⟨g, off + i, none⟩ = some (.slice Ai l[i].length ci) ∧ l[i].length ≤ ci ∧ l[i].length ≤ big ∧ T.Row w F Ai l[i] := by
  obtain ⟨g, off, xs, rfl, hg, ⟨Ai, ci, rfl, h1, h2, h3⟩, hc⟩ := h.cells hi
  have := hc 0 (Nat.lt_add_one 0)
  simp only [Ty.slice, Nat.mul_one, Nat.add_zero] at this
  exact ⟨g, off, Ai, ci, rfl, hg, by simpa using this, h1, h2, h3⟩
/-- A block of one's own, one scalar after the other, read as a row. -/
theorem Blk.row {α : Type} {T : Ty α} {w : World} {F : Nat → Prop} {g : Nat} {c : Array Value} {t : TypeId} {fr : Nat × Nat} {l : List α} (h : w.heap[g]? = some (.cells c t fr)) (hF : F g)
    (hl : ∀ i (hi : i < l.length), ∃ xs, T.R w F l[i] xs ∧ ∀ j, j < T.sz → c[i * T.sz + j]? = xs[j]?) : T.Row w F (some ⟨g, 0, none⟩) l :=
  Or.inr ⟨g, 0, c, t, fr, rfl, hF, h, fun i hi => by simpa using hl i hi⟩

section
variable {P : Program} {ρ : Operand → Value} {w : World} {d : Option Tmp} {t : TypeId} {pos : String} {af : Array Edge} {g : Option (Nat × Bool)}

theorem r_len_slice {x : Operand} {ty e : TypeId} {A : Option Addr} {n c : Nat} (hx : ρ x = .slice A n c) (hu : P.underlying ty = some (.slice e)) :
    (execOp ρ ⟨d, .call { callee := .builtin .len, args := #[x], argTypes := #[ty] }, t, pos, af, g⟩).run P w = .ok (.value (.int .i64 n)) w := by
  simp [execOp, resolve, invoke, builtin, Builtin.len_, hx, run_underlying hu, goInt]
theorem r_len_string {x : Operand} {ty : TypeId} {s : ByteArray} (hx : ρ x = .string s) (hu : P.underlying ty = some .string) :
    (execOp ρ ⟨d, .call { callee := .builtin .len, args := #[x], argTypes := #[ty] }, t, pos, af, g⟩).run P w = .ok (.value (.int .i64 s.size)) w := by
  simp [execOp, resolve, invoke, builtin, Builtin.len_, hx, run_underlying hu, goInt]
theorem r_indexAddr {x y : Operand} {ty e : TypeId} {b off n c sz : Nat} {k : IntKind} {i : Int} (hx : ρ x = .slice (some ⟨b, off, none⟩) n c) (hy : ρ y = .int k i)
    (hu : P.underlying ty = some (.slice e)) (hs : (P.info? e).map (·.size) = some sz) (h0 : 0 ≤ i) (hi : i < n) :
    (execOp ρ ⟨d, .indexAddr ty x y, t, pos, af, g⟩).run P w = .ok (.value (.pointer (some ⟨b, off + i.toNat * sz, none⟩))) w := by
  cases hq : P.info? e with
  | none => simp [hq] at hs
  | some inf =>
    have hsz : inf.size = sz := by simpa [hq] using hs
    simp [execOp, Instr.indexAt, hx, hy, asIntOf, run_underlying hu, h0, hi, sizeOf, typeInfo, hq, hsz, add_at]
theorem r_indexAddr_arr {x y : Operand} {ty e : TypeId} {b off n sz : Nat} {k : IntKind} {i : Int} (hx : ρ x = .pointer (some ⟨b, off, none⟩)) (hy : ρ y = .int k i)
    (hu : P.underlying ty = some (.array n e)) (hs : (P.info? e).map (·.size) = some sz) (h0 : 0 ≤ i) (hi : i < n) :
    (execOp ρ ⟨d, .indexAddr ty x y, t, pos, af, g⟩).run P w = .ok (.value (.pointer (some ⟨b, off + i.toNat * sz, none⟩))) w := by
  cases hq : P.info? e with
  | none => simp [hq] at hs
  | some inf =>
    have hsz : inf.size = sz := by simpa [hq] using hs
    simp [execOp, Instr.indexAt, hx, hy, asIntOf, run_underlying hu, h0, hi, sizeOf, typeInfo, hq, hsz, add_at, Instr.sureAddr]
theorem r_indexAddr1 {x y : Operand} {ty e : TypeId} {A : Option Addr} {b off n c : Nat} {k : IntKind} {i : Int} (hx : ρ x = .slice A n c) (hy : ρ y = .int k i) (hA : A = some ⟨b, off, none⟩)
    (hu : P.underlying ty = some (.slice e)) (hs : (P.info? e).map (·.size) = some 1) (h0 : 0 ≤ i) (hi : i < n) :
    (execOp ρ ⟨d, .indexAddr ty x y, t, pos, af, g⟩).run P w = .ok (.value (.pointer (some ⟨b, off + i.toNat, none⟩))) w := by
  subst hA
  rw [r_indexAddr hx hy hu hs h0 hi, Nat.mul_one]
theorem r_indexAddr0 {x y : Operand} {ty e : TypeId} {b n c : Nat} {k : IntKind} {i : Int} (hx : ρ x = .slice (some ⟨b, 0, none⟩) n c) (hy : ρ y = .int k i)
    (hu : P.underlying ty = some (.slice e)) (hs : (P.info? e).map (·.size) = some 1) (h0 : 0 ≤ i) (hi : i < n) :
    (execOp ρ ⟨d, .indexAddr ty x y, t, pos, af, g⟩).run P w = .ok (.value (.pointer (some ⟨b, i.toNat, none⟩))) w := by
  rw [r_indexAddr hx hy hu hs h0 hi, Nat.mul_one, Nat.zero_add]
theorem r_indexAddrN {x y : Operand} {ty e : TypeId} {A : Option Addr} {b off n c sz : Nat} {k : IntKind} {i : Int} (hx : ρ x = .slice A n c) (hy : ρ y = .int k i) (hA : A = some ⟨b, off, none⟩)
    (hu : P.underlying ty = some (.slice e)) (hs : (P.info? e).map (·.size) = some sz) (h0 : 0 ≤ i) (hi : i < n) :
    (execOp ρ ⟨d, .indexAddr ty x y, t, pos, af, g⟩).run P w = .ok (.value (.pointer (some ⟨b, off + i.toNat * sz, none⟩))) w := by
  subst hA
  rw [r_indexAddr hx hy hu hs h0 hi]
theorem r_indexAddr_arr1 {x y : Operand} {ty e : TypeId} {b off n : Nat} {k : IntKind} {i : Int} (hx : ρ x = .pointer (some ⟨b, off, none⟩)) (hy : ρ y = .int k i)
    (hu : P.underlying ty = some (.array n e)) (hs : (P.info? e).map (·.size) = some 1) (h0 : 0 ≤ i) (hi : i < n) :
    (execOp ρ ⟨d, .indexAddr ty x y, t, pos, af, g⟩).run P w = .ok (.value (.pointer (some ⟨b, off + i.toNat, none⟩))) w := by
  rw [r_indexAddr_arr hx hy hu hs h0 hi, Nat.mul_one]
def oneCellT : TypeDesc → Bool
  | .struct _ | .array _ _ => false
  | _ => true
theorem r_load {x : Operand} {ty : TypeId} {a : Addr} {v : Value} {td : TypeDesc} (hx : ρ x = .pointer (some a)) (hu : P.underlying ty = some td) (h1 : oneCellT td = true) (hc : w.cell? a = some v) :
    (execOp ρ ⟨d, .load ty x, t, pos, af, g⟩).run P w = .ok (.value v) w := by
  have hagg : (isAgg ty).run P w = .ok false w := by
    unfold isAgg
    rw [Sem.run_bind, run_underlying hu w]
    cases td <;> simp_all [oneCellT]
  simp [execOp, Instr.loadAt, Instr.sureAddr, hx, loadVar, hagg, load, Sem.run, hc]
theorem r_load_agg {x : Operand} {ty : TypeId} {b off sz : Nat} {cs : List Value} {td : TypeDesc} (hx : ρ x = .pointer (some ⟨b, off, none⟩)) (hu : P.underlying ty = some td) (h1 : oneCellT td = false)
    (hs : (P.info? ty).map (·.size) = some sz) (hl : cs.length = sz) (hc : ∀ j, j < sz → w.cell? ⟨b, off + j, none⟩ = cs[j]?) :
    (execOp ρ ⟨d, .load ty x, t, pos, af, g⟩).run P w = .ok (.value (.agg cs.toArray)) w := by
  have hagg : (isAgg ty).run P w = .ok true w := by
    unfold isAgg
    rw [Sem.run_bind, run_underlying hu w]
    cases td <;> simp_all [oneCellT]
  have hcells := run_loadCells_list (P := P) w ⟨b, off, none⟩ cs (fun j v hv => by
    rw [add_at]
    have hj : j < sz := by
      rw [← hl]
      rcases Nat.lt_or_ge j cs.length with h | h
      · exact h
      · rw [List.getElem?_eq_none h] at hv; cases hv
    rw [hc j hj]; exact hv)
  cases hq : P.info? ty with
  | none => simp [hq] at hs
  | some inf =>
    have hsz : inf.size = sz := by simpa [hq] using hs
    rw [hl] at hcells
    simp [execOp, Instr.loadAt, Instr.sureAddr, hx, loadVar, hagg, sizeOf, typeInfo, hq, hsz, hcells]
end
/-! Blocks that are one's own. -/
def Blk (w : World) (g : Nat) (c : Array Value) (t : TypeId) : Prop := w.heap[g]? = some (.cells c t (0, 0))
theorem Blk.lt {w : World} {g : Nat} {c : Array Value} {t : TypeId} (h : Blk w g c t) : g < w.heap.size := by
  unfold Blk at h
  rcases Nat.lt_or_ge g w.heap.size with h' | h'
  · exact h'
  · rw [Array.getElem?_eq_none h'] at h; cases h
theorem Blk.ext {w w' : World} {g : Nat} {c : Array Value} {t : TypeId} (h : Blk w g c t) (he : Ext w w') : Blk w' g c t := by
  unfold Blk at *; rw [he.block g (Blk.lt h)]; exact h
theorem Blk.new (w : World) (c : Array Value) (t : TypeId) : Blk (w.alloc (.cells c t)) w.heap.size c t := heap_alloc_new w _
theorem Blk.set {w : World} {g i : Nat} {c : Array Value} {t : TypeId} (h : Blk w g c t) (v : Value) : Blk (w.setCell ⟨g, i, none⟩ v) g (c.setIfInBounds i v) t := heap_setCell_same w g i c t v h
theorem Blk.set_other {w : World} {g : Nat} {a : Addr} {c : Array Value} {t : TypeId} (h : Blk w g c t) (hne : g ≠ a.block) (v : Value) : Blk (w.setCell a v) g c t := by
  unfold Blk; rw [heap_setCell_other w a g v hne]; exact h
theorem Blk.cell {w : World} {g i : Nat} {c : Array Value} {t : TypeId} {v : Value} (h : Blk w g c t) (hv : c[i]? = some v) : w.cell? ⟨g, i, none⟩ = some v := by
  rw [cell_of_row w g i c t (0, 0) h]; exact hv
theorem Blk.free {w : World} {g i : Nat} {c : Array Value} {t : TypeId} (h : Blk w g c t) : w.frozen? ⟨g, i, none⟩ = false := frozen_of_row w g i c t h
theorem Blk.setRow {w : World} {g : Nat} {c c' : Array Value} {t : TypeId} (h : Blk w g c t) : Blk (w.setRow g c') g c' t := setRow_heap w g c c' t (0, 0) h
theorem below_setCell {B : Nat} {a w : World} (h : Below B a w) {p : Addr} (hp : B ≤ p.block) (u : Value) : Below B a (w.setCell p u) := Below.setCell h hp u
theorem below_setRow {B : Nat} {a w : World} (h : Below B a w) {g : Nat} (hg : B ≤ g) (c : Array Value) : Below B a (w.setRow g c) :=
  h.trans ⟨rfl, rfl, rfl, by simp, fun k hk => setRow_other w g k c (by omega)⟩

section
variable {P : Program} {ρ : Operand → Value} {w : World} {d : Option Tmp} {t : TypeId} {pos : String} {af : Array Edge} {g : Option (Nat × Bool)}
theorem r_alloc {ty : TypeId} {z : Value} (hz : (P.info? ty).bind (·.zero) = some z) :
    (execOp ρ ⟨d, .alloc ty, t, pos, af, g⟩).run P w = .ok (.value (.pointer (some ⟨w.heap.size, 0, none⟩))) (w.alloc (.cells z.cells ty)) := by
  cases hq : P.info? ty with
  | none => simp [hq] at hz
  | some inf =>
    have hz' : inf.zero = some z := by simpa [hq] using hz
    have hzv : (zeroValue ty).run P w = .ok z w := by simp [zeroValue, typeInfo, hq, hz']
    simp only [execOp, Instr.alloc, Sem.run_bind, hzv, Result.andThen_ok]
    simp [newVar, newRow, newObj, Sem.run]
theorem r_box {ty : TypeId} {x : Operand} {v : Value} (hx : ρ x = v) :
    (execOp ρ ⟨d, .box ty x, t, pos, af, g⟩).run P w = .ok (.value (.pointer (some ⟨w.heap.size, 0, none⟩))) (w.alloc (.cells v.cells ty)) := by
  simp [execOp, Instr.box, newVar, newRow, newObj, Sem.run, hx]
theorem r_store {x y : Operand} {ty : TypeId} {a : Addr} {v v0 : Value} (hx : ρ x = .pointer (some a)) (hy : ρ y = v) (h1 : v.oneCell' = true) (hs : (P.info? ty).map (·.size) = some 1)
    (hc : w.cell? a = some v0) (hf : w.frozen? a = false) :
    (execOp ρ ⟨d, .store ty x y, t, pos, af, g⟩).run P w = .ok .skip (w.setCell a v) := by
  have hcs : v.cells = #[v] := by cases v <;> simp_all [Value.cells, Value.oneCell']
  have hrun : (store a v).run P w = .ok () (w.setCell a v) := by
    cases v <;> simp_all [store, Sem.run, Value.oneCell']
  cases hq : P.info? ty with
  | none => simp [hq] at hs
  | some inf =>
    have hsz : inf.size = 1 := by simpa [hq] using hs
    simp [execOp, Instr.storeAt, Instr.sureAddr, hx, hy, storeVar, hcs, sizeOf, typeInfo, hq, hsz, storeCells, Addr.add, hrun]
theorem r_store_row {x y : Operand} {ty t' : TypeId} {b : Nat} {c c' : Array Value} (hx : ρ x = .pointer (some ⟨b, 0, none⟩)) (hy : ρ y = .agg c') (hs : (P.info? ty).map (·.size) = some c'.size)
    (hb : Blk w b c t') (ho : c.size = c'.size) (h1 : c'.all (·.oneCell') = true) :
    (execOp ρ ⟨d, .store ty x y, t, pos, af, g⟩).run P w = .ok .skip (w.setRow b c') := by
  have := run_storeVar_row (P := P) w b t' ty c c' hb hs ho h1
  simp [execOp, Instr.storeAt, Instr.sureAddr, hx, hy, this]
theorem r_load_row {x : Operand} {ty t' : TypeId} {b : Nat} {c : Array Value} {fr : Nat × Nat} {td : TypeDesc} (hx : ρ x = .pointer (some ⟨b, 0, none⟩)) (hu : P.underlying ty = some td) (h1 : oneCellT td = false)
    (hs : (P.info? ty).map (·.size) = some c.size) (hb : w.heap[b]? = some (.cells c t' fr)) :
    (execOp ρ ⟨d, .load ty x, t, pos, af, g⟩).run P w = .ok (.value (.agg c)) w := by
  have := run_loadVar_row (P := P) w b t' ty c fr td hb hu (by cases td <;> simp_all [oneCellT]) hs
  simp [execOp, Instr.loadAt, Instr.sureAddr, hx, this]
end
theorem fin_cell {P : Program} {p : Tmp} {ty t : TypeId} {R : Ending → World → Prop} {e : Env} {w : World} {g : Nat} {c : Array Value} {fr : Nat × Nat} {td : TypeDesc}
    (hp : e p = .pointer (some ⟨g, 0, none⟩)) (hb : w.heap[g]? = some (.cells c t fr)) (hu : P.underlying ty = some td) (h1 : oneCellT td = false) (hs : (P.info? ty).map (·.size) = some c.size)
    (h : R (.returned (.agg c)) w) (hm : e slotM = undef := by rfl) (k1 : Nat.beq p slotM = false := by rfl) : fin P #[.cell p ty] R e w := by
  refine fin_plain hm ?_
  intro tmps ht
  refine ⟨.agg c, ?_, h⟩
  have h1' := ht p (by rw [beq_eq] at k1; simpa using k1)
  simp at h1'
  have := run_loadVar_row (P := P) w g t ty c fr td hb hu (by cases td <;> simp_all [oneCellT]) hs
  simp [h1', hp, asAddr, this]
section
variable {P : Program} {n : Nat} {N : Env → World → Prop} {X : Exit → Env → World → Prop} {e : Env} {w : World} {ops : Array Oper} {rest : List Oper} {d : Option Tmp} {t : TypeId} {pos : String} {af : Array Edge}
/-- A new variable, its block under a name. -/
theorem op_alloc {ty : TypeId} {z : Value} (hd : dOk n d = true) (hz : (P.info? ty).bind (·.zero) = some z)
    (h : ∀ w' b, Ext w w' → Blk w' b z.cells ty → w.heap.size = b → WL P n ops N X rest (putO e d (.pointer (some ⟨b, 0, none⟩))) w') : WL P n ops N X (⟨d, .alloc ty, t, pos, af, none⟩ :: rest) e w :=
  op hd (r_alloc hz) (h _ _ (Ext.alloc _ _) (Blk.new _ _ _) rfl)
theorem op_box {ty : TypeId} {x : Operand} {v : Value} (hd : dOk n d = true) (hx : ev e x = v)
    (h : ∀ w' b, Ext w w' → Blk w' b v.cells ty → w.heap.size = b → WL P n ops N X rest (putO e d (.pointer (some ⟨b, 0, none⟩))) w') : WL P n ops N X (⟨d, .box ty x, t, pos, af, none⟩ :: rest) e w :=
  op hd (r_box hx) (h _ _ (Ext.alloc _ _) (Blk.new _ _ _) rfl)
end
/-! slices that are written out -/
def enum : Nat → List Value → List (Nat × Value)
  | _, [] => []
  | k, v :: l => (k, v) :: enum (k + 1) l
theorem fill_enum : ∀ (vs : List Value) (k : Nat) (cells : Array Value), cells.size = k + vs.length → vs.all (·.oneCell') = true →
    Instr.fill (fun i => some (i, 1)) cells (enum k vs) = some (cells.extract 0 k ++ vs.toArray) := by
  intro vs
  induction vs with
  | nil =>
    intro k cells hs _
    simp only [List.length_nil, Nat.add_zero] at hs
    subst hs
    simp [enum, Instr.fill]
  | cons v vs ih =>
    intro k cells hs h1
    simp only [List.all_cons, Bool.and_eq_true] at h1
    have hcs : v.cells = #[v] := by cases v <;> simp_all [Value.cells, Value.oneCell']
    simp only [enum, Instr.fill, hcs]
    have hk : k < cells.size := by rw [hs]; simp
    simp only [List.length_cons] at hs
    simp
    refine ⟨by omega, ?_⟩
    rw [ih (k + 1) _ (by simp; omega) h1.2]
    have hpush : (cells.setIfInBounds k v).extract 0 (k + 1) = (cells.extract 0 k).push v := by
      apply Array.ext
      · simp; omega
      · intro i h1 h2
        simp only [Array.size_push, Array.size_extract] at h2
        rw [Array.getElem_push]
        simp only [Array.getElem_extract, Array.getElem_setIfInBounds, Array.size_extract, Nat.zero_add]
        by_cases h : i = k
        · subst h
          simp
          intro hh; omega
        · have h3 : i < min k cells.size - 0 := by omega
          rw [dif_pos h3]; exact Array.getElem_setIfInBounds_ne (by omega) (fun q => h q.symm)
    rw [hpush]
    congr 1
    apply Array.toList_inj.1
    simp
section
variable {P : Program} {ρ : Operand → Value} {w : World} {d : Option Tmp} {t : TypeId} {pos : String} {af : Array Edge} {g : Option (Nat × Bool)}
theorem r_buildSlice {ty e : TypeId} {z : Value} {parts : List (Nat × Operand)} {vs : List Value} {m : Nat} (hu : P.underlying ty = some (.slice e)) (hs : (P.info? e).map (·.size) = some 1) (hz : (P.info? e).bind (·.zero) = some z)
    (hp : parts.map (fun q => (q.1, ρ q.2)) = enum 0 vs) (hl : (Nat.beq m vs.length && Nat.ble m 1000000) = true) (h1 : vs.all (·.oneCell') = true) :
    (execOp ρ ⟨d, .buildSlice ty m parts.toArray, t, pos, af, g⟩).run P w = .ok (.value (.slice (some ⟨w.heap.size, 0, none⟩) m m)) (w.alloc (.cells vs.toArray e)) := by
  simp only [Bool.and_eq_true, Nat.ble_eq] at hl
  have hl1 : m = vs.length := Nat.eq_of_beq_eq_true hl.1
  subst hl1
  cases hq : P.info? e with
  | none => simp [hq] at hz
  | some inf =>
    have hz' : inf.zero = some z := by simpa [hq] using hz
    have hsz : inf.size = 1 := by simpa [hq] using hs
    have hzv : (zeroValue e).run P w = .ok z w := by simp [zeroValue, typeInfo, hq, hz']
    have hbig : ¬ vs.length * 1 > 2 ^ 24 := by omega
    have hpp : (parts.toArray.map fun q => (q.1, ρ q.2)).toList = enum 0 vs := by simpa using hp
    have hfill : ∀ zc : Array Value, Instr.fill (fun i => some (i, 1)) ((Array.range vs.length).map (zc[· % zc.size]!)) (enum 0 vs) = some vs.toArray := by
      intro zc
      rw [fill_enum vs 0 _ (by simp) h1]
      simp
    simp only [execOp, Instr.buildSlice, Sem.run_bind, run_underlying hu, Result.andThen_ok, sizeOf, typeInfo, program]
    by_cases h0 : vs.length = 0
    · have : vs = [] := List.length_eq_zero_iff.1 h0
      subst this
      simp [Sem.run, hq, hsz, hpp, enum, Instr.fill, newRow, newObj]
      simp at hpp
      simp [hpp, enum, Instr.fill, newRow, newObj, Sem.run]
      congr 2
      apply Array.ext_getElem?
      intro i
      simp
    · simp [Sem.run, hq, hsz, h0, hzv, hbig]
      have hf := hfill z.cells
      simp at hf hpp
      simp [hpp, hf, newRow, newObj, Sem.run]
      omega
variable {n : Nat} {N : Env → World → Prop} {X : Exit → Env → World → Prop} {e : Env} {ops : Array Oper} {rest : List Oper} {x : Op}
theorem op_newS {m : Nat} {c : Array Value} {ty : TypeId} (hd : dOk n d = true) (hr : (execOp (ev e) ⟨d, x, t, pos, af, none⟩).run P w = .ok (.value (.slice (some ⟨w.heap.size, 0, none⟩) m m)) (w.alloc (.cells c ty)))
    (h : ∀ w' b, Ext w w' → Blk w' b c ty → w.heap.size = b → WL P n ops N X rest (putO e d (.slice (some ⟨b, 0, none⟩) m m)) w') : WL P n ops N X (⟨d, x, t, pos, af, none⟩ :: rest) e w :=
  op hd hr (h _ _ (Ext.alloc _ _) (Blk.new _ _ _) rfl)
end
section
variable {P : Program} {n : Nat} {N : Env → World → Prop} {X : Exit → Env → World → Prop} {e : Env} {w : World} {ops : Array Oper} {rest : List Oper} {d : Option Tmp} {t : TypeId} {pos : String} {af : Array Edge} {x : Op}
theorem op_newS2 {m k : Nat} {c : Array Value} {ty : TypeId} (hd : dOk n d = true) (hr : (execOp (ev e) ⟨d, x, t, pos, af, none⟩).run P w = .ok (.value (.slice (some ⟨w.heap.size, 0, none⟩) m k)) (w.alloc (.cells c ty)))
    (h : ∀ w' b, Ext w w' → Blk w' b c ty → w.heap.size = b → WL P n ops N X rest (putO e d (.slice (some ⟨b, 0, none⟩) m k)) w') : WL P n ops N X (⟨d, x, t, pos, af, none⟩ :: rest) e w :=
  op hd hr (h _ _ (Ext.alloc _ _) (Blk.new _ _ _) rfl)
end
/-! One block alone may have changed. -/
structure Chg (b : Nat) (w w' : World) : Prop where
  os : w'.os = w.os
  tape : w'.tape = w.tape
  output : w'.output = w.output
  size : w.heap.size ≤ w'.heap.size
  block : ∀ k, k < w.heap.size → k ≠ b → w'.heap[k]? = w.heap[k]?
theorem heap_lt {w : World} {g : Nat} {o : Obj} (h : w.heap[g]? = some o) : g < w.heap.size := (Array.getElem?_eq_some_iff.1 h).1
theorem ext_heap {w w' : World} {g : Nat} {o : Obj} (h : w.heap[g]? = some o) (he : Ext w w') : w'.heap[g]? = some o := by rw [he.block g (heap_lt h)]; exact h
theorem chg_heap {b : Nat} {w w' : World} {g : Nat} {o : Obj} (h : w.heap[g]? = some o) (hc : Chg b w w') (hne : g ≠ b) : w'.heap[g]? = some o := by rw [hc.block g (heap_lt h) hne]; exact h
theorem Chg.below {B b : Nat} {a w w' : World} (h : Below B a w) (hw : B ≤ b) (hs : B ≤ w.heap.size) (hc : Chg b w w') : Below B a w' :=
  h.trans ⟨hc.os, hc.tape, hc.output, hc.size, fun k hk => hc.block k (by omega) (by omega)⟩
theorem Chg.ext {b : Nat} {a w w' : World} (h : Ext a w) (hw : a.heap.size ≤ b) (hc : Chg b w w') : Ext a w' := Chg.below h hw h.size hc
theorem _root_.Go.RowKit.Below.chg {b : Nat} {a w w' : World} (h : Below a.heap.size a w) (hc : Chg b w w') (hw : a.heap.size ≤ b) : Ext a w' := Chg.below h hw h.size hc
theorem Chg.blk {b g : Nat} {w w' : World} {c : Array Value} {t : TypeId} (hc : Chg b w w') (h : Blk w g c t) (hne : g ≠ b) : Blk w' g c t := by
  unfold Blk at *; rw [hc.block g (Blk.lt h) hne]; exact h
theorem Chg.same {b : Nat} {w w' : World} {F : Nat → Prop} (hc : Chg b w w') (hF : ∀ k, F k → k < w.heap.size ∧ k ≠ b) : Same F w w' := fun k hk => hc.block k (hF k hk).1 (hF k hk).2
theorem Chg.setCell (w : World) (a : Addr) (v : Value) : Chg a.block w (w.setCell a v) :=
  ⟨rfl, rfl, rfl, by simp [World.setCell], fun k _ hne => heap_setCell_other w a k v hne⟩
theorem Chg.freeze (w : World) (a : Addr) (n : Nat) : Chg a.block w (w.freeze a n) := by
  unfold World.freeze
  split
  · exact ⟨rfl, rfl, rfl, Nat.le_refl _, fun _ _ _ => rfl⟩
  · refine ⟨rfl, rfl, rfl, by simp, fun k _ hne => ?_⟩
    simp only [Array.getElem?_modify]
    rw [if_neg (fun q => hne q.symm)]
section
variable {P : Program} {n : Nat} {N : Env → World → Prop} {X : Exit → Env → World → Prop} {e : Env} {w : World} {ops : Array Oper} {rest : List Oper} {d : Option Tmp} {t : TypeId} {pos : String} {af : Array Edge}
/-- A store into a block of one's own, the world under a name. -/
theorem op_store {x y : Operand} {ty tb : TypeId} {b i : Nat} {c : Array Value} {v : Value} (hx : ev e x = .pointer (some ⟨b, i, none⟩)) (hy : ev e y = v) (h1 : v.oneCell' = true) (hs : (P.info? ty).map (·.size) = some 1)
    (hb : Blk w b c tb) (hi : i < c.size) (h : ∀ w', Chg b w w' → Blk w' b (c.setIfInBounds i v) tb → WL P n ops N X rest e w') : WL P n ops N X (⟨none, .store ty x y, t, pos, af, none⟩ :: rest) e w :=
  opU (r_store hx hy h1 hs (hb.cell (v := c[i]) (by simp [hi])) hb.free) (h _ (Chg.setCell w ⟨b, i, none⟩ v) (hb.set v))
/-- '[]byte("..")': the bytes are marked as a string's. -/
theorem op_convB {x : Operand} {ty el tb : TypeId} {b m k : Nat} {c : Array Value} (hd : dOk n d = true) (hx : ev e x = .slice (some ⟨b, 0, none⟩) m k) (hu : P.underlying ty = some (.slice el)) (he : P.underlying el = some (.int .u8))
    (hb : Blk w b c tb) (h : ∀ w', Chg b w w' → w'.heap[b]? = some (.cells c tb (c.size, c.size + 1)) → WL P n ops N X rest (putO e d (.slice (some ⟨b, 0, none⟩) m k)) w') : WL P n ops N X (⟨d, .convert ty ty x, t, pos, af, none⟩ :: rest) e w := by
  refine op (w' := w.freeze ⟨b, c.size, none⟩ 1) hd ?_ (h _ (Chg.freeze w ⟨b, c.size, none⟩ 1) ?_)
  · have hsh : w.shape? b = some (tb, c.size) := by
      unfold Blk at hb
      simp [World.shape?, hb]
    simp [execOp, hx, convert, run_underlying hu, run_underlying he, markStringish, shape, freeze, Sem.run, hsh]
  · unfold Blk at hb
    unfold World.freeze
    simp only [Nat.one_ne_zero, if_false, Array.getElem?_modify, hb]
    simp
end
end Go.Eng
