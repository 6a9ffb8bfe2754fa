/-
  The engine: rows of structs of ints. Generic: no program.
-/
import Derived.Test.YtmedmajdoecjfaaDoorLit
import Derived.Test.YtmedmajdoecjfaaDoorLaw
namespace Go.Eng
set_option linter.unusedVariables false
set_option linter.unusedSimpArgs false
open Go.RowKit Go.ChangeShapes Go.WideShapes Go.ChangeAt

instance (k : IntKind) (n : Int) : Decidable (inK k n) := by unfold inK; exact inferInstance
/-- A struct of n ints: what the cells are. -/
def Ty.ints {α : Type} (n : Nat) (f : α → List Int) : Ty α where
  sz := n
  R := fun _ _ x cs => cs = (f x).map (Value.int .i64) ∧ (f x).length = n ∧ ∀ i ∈ f x, inK .i64 i
  len := by rintro _ _ _ _ ⟨rfl, h, _⟩; simpa using h
  one := by
    rintro _ _ x _ ⟨rfl, _⟩ u hu
    obtain ⟨i, _, rfl⟩ := List.mem_map.1 hu
    rfl
  keep := fun h _ _ => h
theorem flat_ints {α : Type} {n : Nat} {f : α → List Int} : Flat (Ty.ints n f) := fun h => h
def intsCells (P : Program) (t n : Nat) : Bool := P.cellsOf t == n && (match P.underlying t with | some (.struct fs) => fs.toList.all (fun f => P.cellsOf f.type == 1) | _ => false)
theorem trod_ints {H : Type} {enc : TypeId × Value → H} {P : Program} {w : World} {base fuel : Nat} {sp : Nat → Bool} {held : Bool} {t n : Nat} {cs : List Value} {x : DataW H × List MemPlace} (h : intsOf P t = some n) (hc : intsCells P t n = true) (hx : DataW.trod enc P w base sp held fuel t cs = some x) :
    ∃ xs : List Int, xs.length = n ∧ cs = xs.map (Value.int .i64) ∧ (∀ i ∈ xs, inK .i64 i) ∧ ∃ ps, x.1 = .agg ps := by
  obtain ⟨fs, hu, _, _, hk, hl⟩ := intsOf_spec h
  unfold intsCells at hc
  rw [hu] at hc
  simp only [Bool.and_eq_true, beq_iff_eq, List.all_eq_true] at hc
  obtain ⟨xs, m, _, rfl, hlen, hxl, hf⟩ := DataW.trod_struct hu hx
  have hoff : ∀ (l : List Field) (k : Nat), okFields P k l = true → ∀ i f, l[i]? = some f → f.offset = k + i ∧ P.underlying f.type = some (.int .i64) := by
    intro l
    induction l with
    | nil => intro k _ i f hf; simp at hf
    | cons f0 l ih =>
      intro k hok i f hif
      simp only [okFields, Bool.and_eq_true, bne_iff_ne, ne_eq, beq_iff_eq] at hok
      obtain ⟨⟨⟨_, ho⟩, hu'⟩, hr⟩ := hok
      cases i with
      | zero =>
        simp only [List.getElem?_cons_zero, Option.some.injEq] at hif
        subst hif
        refine ⟨by omega, ?_⟩
        split at hu'
        · assumption
        · cases hu'
      | succ i =>
        obtain ⟨h1, h2⟩ := ih (k + 1) hr i f (by simpa using hif)
        exact ⟨by omega, h2⟩
  have hall : ∀ i, i < n → ∃ y : Int, cs[i]? = some (.int .i64 y) ∧ inK .i64 y := by
    intro i hi
    have hil : i < fs.toList.length := by omega
    have hfi : fs[i]? = some fs.toList[i] := by rw [← Array.getElem?_toList]; exact List.getElem?_eq_getElem hil
    obtain ⟨ho, hut⟩ := hoff fs.toList 0 hk i fs.toList[i] (List.getElem?_eq_getElem hil)
    have hc1 := hc.2 fs.toList[i] (List.getElem_mem hil)
    have hh := hf i _ hfi
    rw [hc1, ho, Nat.zero_add] at hh
    have hxi : i < xs.length := by rw [hxl]; simpa using hil
    rw [List.getElem?_eq_getElem hxi] at hh
    obtain ⟨y, h1, _, h3⟩ := DataW.trod_int hut hh
    refine ⟨y, ?_, wf_inK h3⟩
    have := congrArg (fun l => l[0]?) h1
    simp only [List.getElem?_take, List.getElem?_drop] at this
    simpa using this
  obtain ⟨ys, h1, h2⟩ := list_of hall
  refine ⟨ys, h1, ?_, ?_, _, rfl⟩
  · apply List.ext_getElem?
    intro i
    by_cases hi : i < ys.length
    · rw [(h2 i hi).1]; simp [hi]
    · rw [List.getElem?_eq_none (by omega), List.getElem?_eq_none (by simp; omega)]
  · intro y hy
    obtain ⟨i, hi, rfl⟩ := List.mem_iff_getElem.1 hy
    exact (h2 i hi).2
theorem Rd.ints {P : Program} {t n : Nat} {α : Type} (f : α → List Int) (g : List Int → α) (hg : ∀ xs : List Int, xs.length = n → f (g xs) = xs) (h : intsOf P t = some n) (hc : intsCells P t n = true) : Rd P t (Ty.ints n f) (fun _ => 1) := by
  intro H enc w fuel cs x hx hz
  obtain ⟨xs, h1, h2, h3, ps, h4⟩ := trod_ints h hc hx
  refine ⟨g xs, ⟨by rw [hg _ h1]; exact h2, by rw [hg _ h1]; exact h1, by rw [hg _ h1]; exact h3⟩, fun β hβ => ?_⟩
  rw [h4]
  exact Nat.le_trans (Nat.le_add_left 1 _) (hβ.agg ps)
theorem arg_ints {H : Type} {enc : TypeId × Value → H} {P : Program} {W : World} {base : Nat} {t n : Nat} {v : Value} {d : DataW H} {p : List MemPlace} (h : intsOf P t = some n) (hc : intsCells P t n = true) (hv : Value.okWide P W .any base t v) (hx : DataW.Trod enc P W 0 (fun _ => true) true t v d p) :
    ∃ xs : List Int, xs.length = n ∧ v = .agg (vi xs) ∧ ∀ i ∈ xs, inK .i64 i := by
  obtain ⟨fs, hu, _⟩ := intsOf_spec h
  obtain ⟨cs, rfl, _⟩ := okWide_struct hu hv
  obtain ⟨fuel, hf⟩ := hx
  obtain ⟨xs, h1, h2, h3, _⟩ := trod_ints h hc hf
  refine ⟨xs, h1, ?_, h3⟩
  simp only [Value.cells] at h2
  rw [vi, ← h2]

theorem len2 {xs : List Int} (h : xs.length = 2) : ∃ a b, xs = [a, b] := by
  match xs, h with
  | [a, b], _ => exact ⟨a, b, rfl⟩
theorem len3 {xs : List Int} (h : xs.length = 3) : ∃ a b c, xs = [a, b, c] := by
  match xs, h with
  | [a, b, c], _ => exact ⟨a, b, c, rfl⟩
theorem len6 {xs : List Int} (h : xs.length = 6) : ∃ a b c d e f, xs = [a, b, c, d, e, f] := by
  match xs, h with
  | [a, b, c, d, e, f], _ => exact ⟨a, b, c, d, e, f, rfl⟩
/-! Slices that are written out, of structs. -/
theorem fold_get (off : Nat) : ∀ (l : List Value) (j : Nat) (a : Array Value), off + j + l.length ≤ a.size → ((l.zipIdx j).foldl (fun cs p => cs.setIfInBounds (off + p.2) p.1) a).size = a.size ∧
    ∀ i, ((l.zipIdx j).foldl (fun cs p => cs.setIfInBounds (off + p.2) p.1) a)[i]? = if off + j ≤ i ∧ i < off + j + l.length then l[i - (off + j)]? else a[i]?
  | [], j, a, h => by simp; intro i h1 h2; omega
  | v :: l, j, a, h => by
    simp only [List.length_cons] at h
    simp only [List.zipIdx_cons, List.foldl_cons]
    obtain ⟨h1, h2⟩ := fold_get off l (j + 1) (a.setIfInBounds (off + j) v) (by simp; omega)
    refine ⟨by rw [h1]; simp, fun i => ?_⟩
    rw [h2 i]
    by_cases hi : i = off + j
    · subst hi
      have hlt : off + j < a.size := by omega
      rw [if_neg (by omega), if_pos (by simp)]
      simp [hlt]
    · by_cases h3 : off + (j + 1) ≤ i ∧ i < off + (j + 1) + l.length
      · rw [if_pos h3, if_pos (by simp; omega)]
        have : i - (off + j) = (i - (off + (j + 1))) + 1 := by omega
        rw [this, List.getElem?_cons_succ]
      · rw [if_neg h3, if_neg (by simp; omega), Array.getElem?_setIfInBounds_ne (by omega)]
theorem fill_rows {sz : Nat} : ∀ (vs : List (List Value)) (k : Nat) (a : Array Value), a.size = (k + vs.length) * sz → (∀ cs ∈ vs, cs.length = sz) →
    ∃ r, Instr.fill (fun i => some (i * sz, sz)) a (enum k (vs.map fun cs => Value.agg cs.toArray)) = some r ∧ r.size = a.size ∧ ∀ i, r[i]? = if i < k * sz then a[i]? else vs.flatten[i - k * sz]?
  | [], k, a, h, _ => by
    refine ⟨a, by simp [enum, Instr.fill], rfl, fun i => ?_⟩
    by_cases hi : i < k * sz
    · rw [if_pos hi]
    · rw [if_neg hi, Array.getElem?_eq_none (by simp at h; omega)]; simp
  | cs :: vs, k, a, h, hl => by
    have hcs := hl cs (by simp)
    simp only [List.length_cons] at h
    have e1 : (k + (vs.length + 1)) * sz = k * sz + (vs.length * sz + sz) := by rw [Nat.add_mul, Nat.add_mul, Nat.one_mul]
    obtain ⟨h1, h2⟩ := fold_get (k * sz) cs 0 a (by omega)
    obtain ⟨r, h3, h4, h5⟩ := fill_rows (sz := sz) vs (k + 1) ((cs.zipIdx 0).foldl (fun c p => c.setIfInBounds (k * sz + p.2) p.1) a) (by rw [h1, h]; congr 1; omega) (fun c hc => hl c (by simp [hc]))
    refine ⟨r, ?_, by rw [h4, h1], fun i => ?_⟩
    · have hno : ¬ ((Value.agg cs.toArray).cells.size ≠ sz ∨ k * sz + (Value.agg cs.toArray).cells.size > a.size) := by
        simp only [Value.cells, List.size_toArray]
        omega
      have hfo : ((Value.agg cs.toArray).cells.zipIdx.foldl (fun cs (p : Value × Nat) => cs.setIfInBounds (k * sz + p.2) p.1) a) = ((cs.zipIdx 0).foldl (fun c p => c.setIfInBounds (k * sz + p.2) p.1) a) := by
        rw [← Array.foldl_toList]
        simp [Array.toList_zipIdx, Value.cells]
      rw [← h3, ← hfo, List.map_cons]
      simp only [enum, Instr.fill]
      rw [if_neg (by simpa using hno)]
    · rw [h5 i]
      have e2 : (k + 1) * sz = k * sz + sz := by rw [Nat.add_mul, Nat.one_mul]
      by_cases hi : i < k * sz
      · rw [if_pos (by omega), if_pos hi, h2 i, if_neg (by omega)]
      · rw [if_neg hi]
        by_cases hi2 : i < (k + 1) * sz
        · rw [if_pos hi2, h2 i, if_pos (by omega), List.flatten_cons, List.getElem?_append_left (by omega)]
          simp
        · rw [if_neg hi2, List.flatten_cons, List.getElem?_append_right (by omega)]
          congr 1
          omega
section
variable {P : Program} {ρ : Operand → Value} {w : World} {d : Option Tmp} {t : TypeId} {pos : String} {af : Array Edge} {g : Option (Nat × Bool)}
theorem r_buildRows {ty e : TypeId} {z : Value} {parts : List (Nat × Operand)} {vs : List (List Value)} {m sz : Nat} (hu : P.underlying ty = some (.slice e)) (hs : (P.info? e).map (·.size) = some sz) (hz : (P.info? e).bind (·.zero) = some z)
    (hp : parts.map (fun q => (q.1, ρ q.2)) = enum 0 (vs.map fun cs => Value.agg cs.toArray)) (hl : (Nat.beq m vs.length && (Nat.ble (m * sz) 1000000 && vs.all fun cs => Nat.beq cs.length sz)) = true) (h0 : Nat.blt 0 (m * sz) = true) :
    (execOp ρ ⟨d, .buildSlice ty m parts.toArray, t, pos, af, g⟩).run P w = .ok (.value (.slice (some ⟨w.heap.size, 0, none⟩) m m)) (w.alloc (.cells vs.flatten.toArray e)) := by
  simp only [Bool.and_eq_true, Nat.ble_eq, List.all_eq_true] at hl
  obtain ⟨hl1, hl2, hl3⟩ := hl
  have hl1 : m = vs.length := Nat.eq_of_beq_eq_true hl1
  subst hl1
  simp only [Nat.blt_eq] at h0
  cases hq : P.info? e with
  | none => simp [hq] at hz
  | some inf =>
    have hz' : inf.zero = some z := by simpa [hq] using hz
    have hsz : inf.size = sz := by simpa [hq] using hs
    have hzv : (zeroValue e).run P w = .ok z w := by simp [zeroValue, typeInfo, hq, hz']
    have hbig : ¬ vs.length * sz > 2 ^ 24 := by omega
    have hne : ¬ vs.length * sz = 0 := by omega
    obtain ⟨r, hf, hr1, hr2⟩ := fill_rows (sz := sz) vs 0 ((Array.range (vs.length * sz)).map (z.cells[· % z.cells.size]!)) (by simp) (fun cs hcs => Nat.eq_of_beq_eq_true (hl3 cs hcs))
    have hr : r = vs.flatten.toArray := by
      apply Array.ext_getElem?
      intro i
      rw [hr2 i]; simp
    subst hr
    have hpp : (parts.toArray.map fun q => (q.1, ρ q.2)).toList = enum 0 (vs.map fun cs => Value.agg cs.toArray) := by simpa using hp
    simp only [execOp, Instr.buildSlice, Sem.run_bind, run_underlying hu, Result.andThen_ok, sizeOf, typeInfo, program]
    simp [Sem.run, hq, hsz, hne, hzv, hbig]
    simp at hf hpp
    simp [hpp, hf, newRow, newObj, Sem.run]
end
/-- Structs of ints, one behind the other in a block. -/
theorem row_ints {α : Type} {n : Nat} {f : α → List Int} {w : World} {F : Nat → Prop} {b : Nat} {t : TypeId} {l : List α} (h : Blk w b (l.map fun x => (f x).map (Value.int .i64)).flatten.toArray t) (hF : F b) (hl : ∀ x ∈ l, (f x).length = n ∧ ∀ i ∈ f x, inK .i64 i) : (Ty.ints n f).Row w F (some ⟨b, 0, none⟩) l := by
  have hc : Cat (Ty.ints n f) w F l (l.map fun x => (f x).map (Value.int .i64)).flatten := by
    clear h
    induction l with
    | nil => rfl
    | cons x l ih => exact ⟨_, _, rfl, ⟨rfl, hl x (by simp)⟩, ih (fun y hy => hl y (by simp [hy]))⟩
  refine Blk.row h hF (fun i hi => ?_)
  obtain ⟨c, h1, h2⟩ := hc.get i hi
  exact ⟨c, h1, fun j hj => by rw [← h2 j hj]; simp⟩
end Go.Eng
