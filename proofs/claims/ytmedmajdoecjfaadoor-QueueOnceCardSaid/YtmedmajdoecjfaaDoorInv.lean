/-
  The engine: a region in whatever order, by an invariant; maps with keys of ints. Generic: no program.
-/
import Derived.Test.YtmedmajdoecjfaaDoorMap
namespace Go.Eng
set_option linter.unusedVariables false
set_option linter.unusedSimpArgs false
open Go.RowKit

section
variable {P : Program} {n : Nat} {N : Env → World → Prop} {X : Exit → Env → World → Prop} {ops : Array Oper}
abbrev anyW : World → Prop := fun _ => True
theorem lt_ready {listed : Array Bool} {i : Nat} (h : i ∈ Region.ready .any ops listed) : i < ops.size := by
  obtain ⟨_, o, ho, _⟩ := mem_ready.1 h
  exact (Array.getElem?_eq_some_iff.1 ho).1
/-- Whatever comes up next keeps the invariant; when all have come up it gives what is asked. -/
theorem A_inv (I : Array Bool → Env → World → Prop)
    (step : ∀ listed e w i, I listed e w → i ∈ Region.ready .any ops listed → ∀ fuel, (∀ e' w', I (listed.setIfInBounds i true) e' w' → WA P n ops N X anyW fuel (listed.setIfInBounds i true) e' w') → WO P n ops N X anyW fuel listed i e w)
    (done : ∀ listed e w, I listed e w → Region.ready .any ops listed = [] → N e w) :
    ∀ fuel listed e w, I listed e w → unl ops.size listed ≤ fuel → WA P n ops N X anyW fuel listed e w := by
  intro fuel
  induction fuel with
  | zero =>
    intro listed e w hI hu
    have hnil : Region.ready .any ops listed = [] := by
      cases hr : Region.ready .any ops listed with
      | nil => rfl
      | cons i r =>
        have hi : i ∈ Region.ready .any ops listed := by rw [hr]; simp
        have := unl_pos (lt_ready hi) (mem_ready.1 hi).1
        omega
    exact A_done hnil (done listed e w hI hnil)
  | succ fuel ih =>
    intro listed e w hI hu ro a ha
    refine ⟨fun hnil => ⟨e, ha, done listed e w hI hnil⟩, fun i hi => step listed e w i hI hi fuel (fun e' w' hI' => ih _ e' w' hI' ?_) ro a ha⟩
    have := unl_set (lt_ready hi) (mem_ready.1 hi).1
    omega
end

section
variable {P : Program} {ρ : Operand → Value} {w : World} {d : Option Tmp} {t : TypeId} {pos : String} {af : Array Edge} {g : Option (Nat × Bool)} {x y z : Operand} {mt kt et : TypeId} {n : Nat} {xs : List Int}
theorem r_makeMap : (execOp ρ ⟨d, .makeMap mt none, t, pos, af, g⟩).run P w = .ok (.value (.map (some w.heap.size))) (w.alloc (.map #[] 0)) := by
  simp [execOp, Instr.makeMap, run_newObj_alloc]
/-- A new key. -/
theorem r_insert {r clock : Nat} {es : Array MapEntry} {v : Value} (hx : ρ x = .map (some r)) (hy : ρ y = .agg (vi xs)) (hz : ρ z = v) (hu : P.underlying mt = some (.map kt et)) (hk : intsOf P kt = some n) (hl : xs.length = n)
    (hr : w.heap[r]? = some (.map es clock)) (hall : ∀ e ∈ es.toList, ∃ l : List Int, l.length = n ∧ e.key = .agg (vi l)) (hnew : ∀ e ∈ es.toList, e.key ≠ .agg (vi xs)) :
    (execOp ρ ⟨d, .insert mt x y z, t, pos, af, g⟩).run P w = .ok .skip (w.putObj r (.map (es.push { key := .agg (vi xs), val := v, born := clock }) (clock + 1))) := by
  have hc := run_checkKey_ints (P := P) (w := w) hk hl false
  have hg : (getObj r).run P w = .ok (.map es clock) w := by simp [getObj, Sem.run, hr]
  have hset : ∀ o : Obj, (setObj r o).run P w = .ok () (w.putObj r o) := fun o => by simp [setObj, Sem.run, hr, World.putObj]
  have hf : (Instr.findKey kt (.agg (vi xs)) es.toList).run P w = .ok none w := by
    rcases run_findKey_ints (P := P) (w := w) hk hl es.toList hall with ⟨h1, _⟩ | ⟨j, e, _, h2, h3⟩
    · exact h1
    · exact absurd h3 (hnew e h2)
  have hm : (Instr.mapUpdate mt (.map (some r)) (.agg (vi xs)) v).run P w = .ok () (w.putObj r (.map (es.push { key := .agg (vi xs), val := v, born := clock }) (clock + 1))) := by
    unfold Instr.mapUpdate
    simp only [Sem.run_bind, run_underlying hu, Result.andThen_ok, hg, hc, hf, hset]
  simp [execOp, hx, hy, hz, hm]
/-- What a key leads to. -/
theorem r_lookup_some {r clock : Nat} {es : Array MapEntry} {e : MapEntry} (hx : ρ x = .map (some r)) (hy : ρ y = .agg (vi xs)) (hu : P.underlying mt = some (.map kt et)) (hk : intsOf P kt = some n) (hl : xs.length = n)
    (hr : w.heap[r]? = some (.map es clock)) (hall : ∀ e ∈ es.toList, ∃ l : List Int, l.length = n ∧ e.key = .agg (vi l)) (he : e ∈ es.toList) (hek : e.key = .agg (vi xs)) (hone : ∀ e' ∈ es.toList, e'.key = .agg (vi xs) → e'.val = e.val) :
    (execOp ρ ⟨d, .lookup mt x y true, t, pos, af, g⟩).run P w = .ok (.value (.tuple #[e.val, .bool true])) w := by
  have hc := run_checkKey_ints (P := P) (w := w) hk hl es.isEmpty
  have hg : (getObj r).run P w = .ok (.map es clock) w := by simp [getObj, Sem.run, hr]
  obtain ⟨j, hf⟩ : ∃ j, (Instr.findKey kt (.agg (vi xs)) es.toList).run P w = .ok (some (j, e.val)) w := by
    rcases run_findKey_ints (P := P) (w := w) hk hl es.toList hall with ⟨_, h1⟩ | ⟨j, e', h1, h2, h3⟩
    · exact absurd hek (h1 e he)
    · exact ⟨j, by rw [h1, hone e' h2 h3]⟩
  have hm : (Instr.lookup mt (.map (some r)) (.agg (vi xs)) true).run P w = .ok (.tuple #[e.val, .bool true]) w := by
    unfold Instr.lookup
    simp only [Sem.run_bind, run_underlying hu, Result.andThen_ok, hg, hc, hf, Sem.run_pure, if_true]
  simp [execOp, hx, hy, hm]
theorem r_lookup_none {r clock : Nat} {es : Array MapEntry} {zv : Value} (hx : ρ x = .map (some r)) (hy : ρ y = .agg (vi xs)) (hu : P.underlying mt = some (.map kt et)) (hk : intsOf P kt = some n) (hl : xs.length = n) (hzv : (P.info? et).bind (·.zero) = some zv)
    (hr : w.heap[r]? = some (.map es clock)) (hall : ∀ e ∈ es.toList, ∃ l : List Int, l.length = n ∧ e.key = .agg (vi l)) (hnew : ∀ e ∈ es.toList, e.key ≠ .agg (vi xs)) :
    (execOp ρ ⟨d, .lookup mt x y true, t, pos, af, g⟩).run P w = .ok (.value (.tuple #[zv, .bool false])) w := by
  have hc := run_checkKey_ints (P := P) (w := w) hk hl es.isEmpty
  have hg : (getObj r).run P w = .ok (.map es clock) w := by simp [getObj, Sem.run, hr]
  have hf : (Instr.findKey kt (.agg (vi xs)) es.toList).run P w = .ok none w := by
    rcases run_findKey_ints (P := P) (w := w) hk hl es.toList hall with ⟨h1, _⟩ | ⟨j, e, _, h2, h3⟩
    · exact h1
    · exact absurd h3 (hnew e h2)
  have hz : (zeroValue et).run P w = .ok zv w := by
    cases hi : P.info? et with
    | none => simp [hi] at hzv
    | some inf =>
      have : inf.zero = some zv := by simpa [hi] using hzv
      simp [zeroValue, typeInfo, hi, this]
  have hm : (Instr.lookup mt (.map (some r)) (.agg (vi xs)) true).run P w = .ok (.tuple #[zv, .bool false]) w := by
    unfold Instr.lookup
    simp only [Sem.run_bind, run_underlying hu, Result.andThen_ok, hg, hc, hf, hz, Sem.run_pure, if_true]
  simp [execOp, hx, hy, hm]
end
end Go.Eng
