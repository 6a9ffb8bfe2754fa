/-
  The engine: structs of ints compared, and as keys of maps. Generic: no program.
-/
import Derived.Test.YtmedmajdoecjfaaDoorRec
import Derived.Laws.StructEq
import Derived.MapKept
namespace Go.Eng
set_option linter.unusedVariables false
set_option linter.unusedSimpArgs false
open Go.RowKit

def okFields (P : Program) : Nat → List Field → Bool
  | _, [] => true
  | k, f :: fs => f.name != "_" && f.offset == k && (match P.underlying f.type with | some (.int .i64) => true | _ => false) && okFields P (k + 1) fs
/-- A struct of ints alone: how many. -/
def intsOf (P : Program) (t : TypeId) : Option Nat :=
  match P.underlying t with
  | some (.struct fs) => if !P.stoodInHeld t && !P.eqGuardType P.depth t && okFields P 0 fs.toList then some fs.size else none
  | _ => none
abbrev vi (l : List Int) : Array Value := (l.map (Value.int .i64)).toArray
theorem intsOf_spec {P : Program} {t : TypeId} {n : Nat} (h : intsOf P t = some n) : ∃ fs, P.underlying t = some (.struct fs) ∧ P.stoodInHeld t = false ∧ P.eqGuardType P.depth t = false ∧ okFields P 0 fs.toList = true ∧ fs.toList.length = n := by
  unfold intsOf at h
  cases hu : P.underlying t with
  | none => simp [hu] at h
  | some td =>
    cases td <;> simp only [hu] at h <;> try (cases h; done)
    rename_i fs
    split at h
    · rename_i hc
      simp only [Bool.and_eq_true, Bool.not_eq_true'] at hc
      exact ⟨fs, rfl, hc.1.1, hc.1.2, hc.2, by simpa using h⟩
    · cases h
section
variable {P : Program} {w : World}
theorem run_part_int {ty : TypeId} {xs : List Int} {k : Nat} (hu : P.underlying ty = some (.int .i64)) (hk : k < xs.length) : (part ty (vi xs) k).run P w = .ok (.int .i64 xs[k]) w := by
  have hagg : (isAgg ty).run P w = .ok false w := by
    unfold isAgg
    rw [Sem.run_bind, run_underlying hu w]
    rfl
  unfold part
  rw [Sem.run_bind, hagg]
  simp [Result.andThen, hk]
theorem run_eqFields {d : Nat} {xs ys : List Int} : ∀ (fs : List Field) (k : Nat), okFields P k fs = true → k + fs.length = xs.length → k + fs.length = ys.length → (Op.eqFields (d + 1) (vi xs) (vi ys) fs).run P w = .ok (decide (xs.drop k = ys.drop k)) w
  | [], k, _, h1, h2 => by
    simp only [List.length_nil, Nat.add_zero] at h1 h2
    rw [List.drop_of_length_le (by omega), List.drop_of_length_le (by omega)]
    simp [Op.eqFields]
  | f :: fs, k, h, h1, h2 => by
    simp only [okFields, Bool.and_eq_true, bne_iff_ne, ne_eq, beq_iff_eq] at h
    obtain ⟨⟨⟨hn, ho⟩, hu⟩, hr⟩ := h
    simp only [List.length_cons] at h1 h2
    have hu' : P.underlying f.type = some (.int .i64) := by
      split at hu
      · assumption
      · cases hu
    have ih := run_eqFields (d := d) (xs := xs) (ys := ys) fs (k + 1) hr (by omega) (by omega)
    have hkx : k < xs.length := by omega
    have hky : k < ys.length := by omega
    simp only [Op.eqFields, hn, ne_eq, not_false_eq_true, if_true, ho, Sem.run_bind, run_part_int hu' hkx, run_part_int hu' hky, Result.andThen_ok, run_equalIn_int w d f.type .i64 .i64 xs[k] ys[k] hu']
    have key : (xs.drop k = ys.drop k) ↔ (xs[k] = ys[k] ∧ xs.drop (k + 1) = ys.drop (k + 1)) := by
      rw [List.drop_eq_getElem_cons hkx, List.drop_eq_getElem_cons hky, List.cons.injEq]
    simp only [key]
    by_cases he : xs[k] = ys[k]
    · simp [he, ih]
    · simp [he]
theorem run_equal_ints {t : TypeId} {n : Nat} (h : intsOf P t = some n) {xs ys : List Int} (hx : xs.length = n) (hy : ys.length = n) : (Op.equal t (.agg (vi xs)) (.agg (vi ys))).run P w = .ok (decide (xs = ys)) w := by
  obtain ⟨fs, hu, hp, _, hk, hl⟩ := intsOf_spec h
  have hf : P.fieldsOf t = fs := by simp [Program.fieldsOf, hu]
  have := run_equalIn_struct (P := P) w 9999 t (vi xs) (vi ys) (by rw [hf]; exact hu) hp
  rw [hf, run_eqFields (d := 9998) fs.toList 0 hk (by omega) (by omega)] at this
  exact this
end
section
variable {P : Program} {ρ : Operand → Value} {w : World} {d : Option Tmp} {t : TypeId} {pos : String} {af : Array Edge} {g : Option (Nat × Bool)} {x y : Operand} {xt yt : TypeId} {n : Nat} {xs ys : List Int}
theorem ri_eql (h : intsOf P xt = some n) (hx : ρ x = .agg (vi xs)) (hy : ρ y = .agg (vi ys)) (h1 : xs.length = n) (h2 : ys.length = n) :
    (execOp ρ ⟨d, .binOp .eql xt x y yt, t, pos, af, g⟩).run P w = .ok (.value (.bool (decide (xs = ys)))) w := by
  obtain ⟨_, _, _, hg, _⟩ := intsOf_spec h
  have hq := run_equal_ints (P := P) (w := w) h h1 h2
  simp [execOp, hx, hy, eqGuard, binOp, hq, hg]
theorem ri_neq (h : intsOf P xt = some n) (hx : ρ x = .agg (vi xs)) (hy : ρ y = .agg (vi ys)) (h1 : xs.length = n) (h2 : ys.length = n) :
    (execOp ρ ⟨d, .binOp .neq xt x y yt, t, pos, af, g⟩).run P w = .ok (.value (.bool (decide (xs ≠ ys)))) w := by
  obtain ⟨_, _, _, hg, _⟩ := intsOf_spec h
  have hq := run_equal_ints (P := P) (w := w) h h1 h2
  simp [execOp, hx, hy, eqGuard, binOp, hq, hg]
end
section
variable {P : Program} {w : World}
theorem run_checkFields {em : Bool} {d : Nat} {xs : List Int} : ∀ (fs : List Field) (k : Nat), okFields P k fs = true → k + fs.length = xs.length →
    (forIn fs PUnit.unit (fun f (_ : PUnit) => (do
      if f.name ≠ "_" then
        let a ← part f.type (vi xs) f.offset
        Instr.checkKey em (d + 1) f.type a
        pure (ForInStep.yield PUnit.unit)
      else pure (ForInStep.yield PUnit.unit) : Sem (ForInStep PUnit)))).run P w = .ok PUnit.unit w
  | [], k, _, _ => by simp
  | f :: fs, k, h, h1 => by
    simp only [okFields, Bool.and_eq_true, bne_iff_ne, ne_eq, beq_iff_eq] at h
    obtain ⟨⟨⟨hn, ho⟩, hu⟩, hr⟩ := h
    simp only [List.length_cons] at h1
    have hu' : P.underlying f.type = some (.int .i64) := by
      split at hu
      · assumption
      · cases hu
    have ih := run_checkFields (em := em) (d := d) (xs := xs) fs (k + 1) hr (by omega)
    have hkx : k < xs.length := by omega
    have hc : (Instr.checkKey em (d + 1) f.type (.int .i64 xs[k])).run P w = .ok () w := Go.MapKept.run_checkKey (d := .int .i64) hu' (by simp [Go.MapKept.IsKey]) em d
    simp only [List.forIn_cons, Sem.run_bind, hn, ne_eq, not_false_eq_true, if_true, ho, run_part_int hu' hkx, Result.andThen_ok, hc, Sem.run_pure]
    exact ih
theorem run_checkKey_ints {t : TypeId} {n : Nat} (h : intsOf P t = some n) {xs : List Int} (hx : xs.length = n) (em : Bool) : (Instr.checkKey em 10000 t (.agg (vi xs))).run P w = .ok () w := by
  obtain ⟨fs, hu, _, _, hk, hl⟩ := intsOf_spec h
  suffices hs : ∀ d, (Instr.checkKey em (d + 2) t (.agg (vi xs))).run P w = .ok () w from hs 9998
  intro d
  have := run_checkFields (P := P) (w := w) (em := em) (d := d) (xs := xs) fs.toList 0 hk (by omega)
  rw [Array.forIn_toList] at this
  rw [Instr.checkKey]
  simp only [Sem.run_bind, run_underlying hu, Result.andThen_ok]
  simp at this ⊢
  rw [this]
  rfl
/-- Which entry has a key. -/
theorem run_findAsking_ints {t : TypeId} {n : Nat} (h : intsOf P t = some n) {xs : List Int} (hx : xs.length = n) : ∀ (es : List MapEntry) (i : Nat), (∀ e ∈ es, ∃ l : List Int, l.length = n ∧ e.key = .agg (vi l)) →
    ((Instr.findAsking t (.agg (vi xs)) es i).run P w = .ok none w ∧ ∀ e ∈ es, e.key ≠ .agg (vi xs)) ∨ ∃ j e, (Instr.findAsking t (.agg (vi xs)) es i).run P w = .ok (some (j, e.val)) w ∧ e ∈ es ∧ e.key = .agg (vi xs)
  | [], i, _ => Or.inl ⟨by simp [Instr.findAsking], by simp⟩
  | e :: es, i, hall => by
    obtain ⟨l, hl, hk⟩ := hall e (by simp)
    have hq := run_equal_ints (P := P) (w := w) h hx hl
    by_cases he : xs = l
    · subst he
      refine Or.inr ⟨i, e, ?_, by simp, hk⟩
      simp only [Instr.findAsking, hk, Sem.run_bind, hq, Result.andThen_ok]
      simp
    · have hne : e.key ≠ .agg (vi xs) := by
        rw [hk]
        intro q
        apply he
        simp only [Value.agg.injEq] at q
        have := congrArg Array.toList q
        simp only [vi] at this
        exact (List.map_inj_right (fun a b hab => by simpa using hab)).1 this.symm
      have step : (Instr.findAsking t (.agg (vi xs)) (e :: es) i).run P w = (Instr.findAsking t (.agg (vi xs)) es (i + 1)).run P w := by
        simp only [Instr.findAsking, hk, Sem.run_bind, hq, Result.andThen_ok]
        simp [he]
      rw [step]
      rcases run_findAsking_ints h hx es (i + 1) (fun e' he' => hall e' (by simp [he'])) with ⟨h1, h2⟩ | ⟨j, e', h1, h2, h3⟩
      · exact Or.inl ⟨h1, fun e' he' => by rcases List.mem_cons.1 he' with rfl | h4; exact hne; exact h2 e' h4⟩
      · exact Or.inr ⟨j, e', h1, by simp [h2], h3⟩
theorem run_findKey_ints {t : TypeId} {n : Nat} (h : intsOf P t = some n) {xs : List Int} (hx : xs.length = n) (es : List MapEntry) (hall : ∀ e ∈ es, ∃ l : List Int, l.length = n ∧ e.key = .agg (vi l)) :
    ((Instr.findKey t (.agg (vi xs)) es).run P w = .ok none w ∧ ∀ e ∈ es, e.key ≠ .agg (vi xs)) ∨ ∃ j e, (Instr.findKey t (.agg (vi xs)) es).run P w = .ok (some (j, e.val)) w ∧ e ∈ es ∧ e.key = .agg (vi xs) := by
  obtain ⟨fs, hu, _⟩ := intsOf_spec h
  cases es with
  | nil => exact Or.inl ⟨by simp [Instr.findKey, run_underlying hu, Result.andThen, Instr.findNow], by simp⟩
  | cons e es =>
    have hfn : Instr.findNow (.struct fs) (.agg (vi xs)) (e :: es) 0 = none := by simp [Instr.findNow, Instr.sameNow]
    have hr : (Instr.findKey t (.agg (vi xs)) (e :: es)).run P w = (Instr.findAsking t (.agg (vi xs)) (e :: es) 0).run P w := by
      simp [Instr.findKey, run_underlying hu, Result.andThen, hfn]
    rw [hr]
    exact run_findAsking_ints h hx (e :: es) 0 hall
end
end Go.Eng
