/-
  The engine: a loop over a map, in whatever order. Generic: no program.
-/
import Derived.Test.YtkdcmdcdjnmkaaaDoorRaw
import Derived.Test.YtkdcmdcdjnmkaaaDoorKey
namespace Go.Eng
set_option linter.unusedVariables false
set_option linter.unusedSimpArgs false
open Go.RowKit Go.MapKept

/-- What goes over a map: the entries, and those that were seen. -/
def RangeAt (w : World) (it bm : Nat) (es : Array MapEntry) (seen : Array Nat) : Prop :=
  ∃ clock since, w.heap[bm]? = some (.map es clock) ∧ w.heap[it]? = some (.mapIter (some bm) since seen clock) ∧ (∀ x ∈ es.toList, x.born < since) ∧ since ≤ clock ∧ (es.toList.map (·.born)).Nodup
theorem RangeAt.chg {w w' : World} {it bm b : Nat} {es : Array MapEntry} {seen : Array Nat} (h : RangeAt w it bm es seen) (hc : Chg b w w') (h1 : it ≠ b) (h2 : bm ≠ b) : RangeAt w' it bm es seen := by
  obtain ⟨clock, since, q1, q2, q3⟩ := h
  exact ⟨clock, since, by rw [hc.block bm (heap_lt q1) h2]; exact q1, by rw [hc.block it (heap_lt q2) h1]; exact q2, q3⟩
section
variable {P : Program} {w : World}
theorem run_nextG {ty : TypeId} {it bm : Nat} {es : Array MapEntry} {seen : Array Nat} (h : RangeAt w it bm es seen) :
    ((leftOf es seen).size = 0 ∧ (Instr.next (.pointer (some ⟨it, 0, none⟩)) false ty).run P w = .ok (.tuple #[.bool false]) w) ∨
    ∃ e ∈ (leftOf es seen).toList, ∃ w', (Instr.next (.pointer (some ⟨it, 0, none⟩)) false ty).run P w = .ok (.tuple #[.bool true, e.key, e.val]) w' ∧ Chg it w w' ∧ RangeAt w' it bm es (seen.push e.born) := by
  obtain ⟨clock, since, hb, hi, hold, hsk, hnd⟩ := h
  have hne : bm ≠ it := fun q => by rw [q, hi] at hb; cases hb
  have hgi : (getObj it).run P w = .ok (.mapIter (some bm) since seen clock) w := by simp [getObj, Sem.run, hi]
  have hgb : (getObj bm).run P w = .ok (.map es clock) w := by simp [getObj, Sem.run, hb]
  simp only [Instr.next, getObj, Sem.run_bind, Sem.run, hi, hb, Result.andThen, next_test_false seen es since clock hold hsk, Bool.false_eq_true, if_false]
  unfold leftOf
  have hmem : ∀ x ∈ (Array.filter (fun e => !seen.contains e.born) es).toList, x.born < since := fun x hx => hold x (by simp at hx ⊢; exact hx.1)
  generalize Array.filter (fun e => !seen.contains e.born) es = L at hmem ⊢
  have e1 : L.filter (fun x => decide (x.born < since)) = L := Array.filter_eq_self.2 (fun x hx => by simpa using hmem x (by simpa using hx))
  have e2 : L.filter (fun x => decide (x.born ≥ since)) = #[] := by
    rw [Array.filter_eq_empty_iff]
    intro x hx
    have := hmem x (by simpa using hx)
    simp
    omega
  simp only [e1, e2, Array.append_empty]
  by_cases h0 : L.size = 0
  · left
    have : L = #[] := Array.eq_empty_of_size_eq_zero h0
    subst this
    refine ⟨rfl, ?_⟩
    simp [choose, Sem.run, Question.forced]
  · right
    have hne' : L.isEmpty = false := by simp [Array.isEmpty, h0]
    simp only [hne', Bool.false_eq_true, if_false, Array.empty_append, Array.size_map]
    have hch : ∃ (j : Nat) (w1 : World), j < L.size ∧ w1.heap = w.heap ∧ w1.os = w.os ∧ w1.tape = w.tape ∧ w1.output = w.output ∧ (choose (Question.mapNext L.size)).run P w = .ok j w1 := by
      by_cases hf : L.size ≤ 1
      · exact ⟨0, w, by omega, rfl, rfl, rfl, rfl, by simp [choose, Sem.run, Question.forced, hf]⟩
      · exact ⟨_, w.drew, Nat.mod_lt _ (by omega), rfl, rfl, rfl, rfl, by
          simp only [choose, Sem.run, Question.forced, decide_eq_true_eq, hf, if_false, Question.cut]
          rfl⟩
    obtain ⟨j, w1, hj, h1, h2, h3, h4, hrun⟩ := hch
    refine ⟨L[j], by simp, { w1 with heap := w1.heap.setIfInBounds it (.mapIter (some bm) since (seen.push L[j].born) clock) }, ?_, ?_, ?_⟩
    · have hset : (setObj it (.mapIter (some bm) since (seen.push L[j].born) clock)).run P w1 = .ok () { w1 with heap := w1.heap.setIfInBounds it (.mapIter (some bm) since (seen.push L[j].born) clock) } := by
        simp [setObj, Sem.run, h1, hi]
      simp only [hrun, Array.getElem?_map, Array.getElem?_eq_getElem hj, Option.map_some, Sem.run_bind, hset, Result.andThen]
      rfl
    · refine ⟨h2, h3, h4, by simp [h1], fun k hk hne2 => ?_⟩
      show (w1.heap.setIfInBounds it _)[k]? = _
      rw [h1, Array.getElem?_setIfInBounds_ne (fun q => hne2 q.symm)]
    · refine ⟨clock, since, ?_, ?_, hold, hsk, hnd⟩
      · show (w1.heap.setIfInBounds it _)[bm]? = _
        rw [h1, Array.getElem?_setIfInBounds_ne (fun q => hne q.symm)]; exact hb
      · show (w1.heap.setIfInBounds it _)[it]? = _
        rw [h1, Array.getElem?_setIfInBounds_self_of_lt (heap_lt hi)]
theorem run_entryG {it bm : Nat} {es : Array MapEntry} {seen : Array Nat} {e : MapEntry} (h : RangeAt w it bm es (seen.push e.born)) (he : e ∈ es.toList) :
    (Instr.entry (.pointer (some ⟨it, 0, none⟩))).run P w = .ok (.tuple #[e.key, e.val]) w := by
  obtain ⟨clock, since, hb, hi, hold, hsk, hnd⟩ := h
  have hf : es.find? (·.born == e.born) = some e := by rw [← Array.find?_toList]; exact find_born e es.toList hnd he
  simp only [Instr.entry, getObj, Sem.run_bind, Sem.run, hi, hb, Result.andThen, Array.back?_push, bne_self_eq_false, Bool.false_eq_true, if_false, hf]
  rfl
end
/-- What a step tells. -/
def nextV (b : Bool) (k v : Value) : Value := if b then .tuple #[.bool true, k, v] else .tuple #[.bool false]
section
variable {P : Program} {n : Nat} {N : Env → World → Prop} {X : Exit → Env → World → Prop} {e : Env} {ops : Array Oper} {rest : List Oper} {d : Option Tmp} {ty : TypeId} {pos : String} {af : Array Edge} {w : World}
theorem op_range {x : Operand} {t kt et : TypeId} {bm : Nat} {es : Array MapEntry} {clock : Nat} (hd : dOk n d = true) (hx : ev e x = .map (some bm)) (hu : P.underlying t = some (.map kt et)) (hb : w.heap[bm]? = some (.map es clock)) (hs : Stamped es clock)
    (h : ∀ w' it, Ext w w' → RangeAt w' it bm es #[] → w.heap.size = it → WL P n ops N X rest (putO e d (.pointer (some ⟨it, 0, none⟩))) w') : WL P n ops N X (⟨d, .range t x, ty, pos, af, none⟩ :: rest) e w := by
  refine op hd (v := .pointer (some ⟨w.heap.size, 0, none⟩)) (w' := w.alloc (.mapIter (some bm) clock #[] clock)) ?_ (h _ _ (Ext.alloc _ _) ⟨clock, clock, ?_, Go.heap_alloc_new w _, hs.1, Nat.le_refl _, hs.2.1⟩ rfl)
  · simp [execOp, hx, run_range_map w t kt et bm es clock hu hb]
  · rw [Go.heap_alloc_old w _ (heap_lt hb)]; exact hb
theorem op_next {x : Operand} {it bm : Nat} {es : Array MapEntry} {seen : Array Nat} (hd : dOk n d = true) (hx : ev e x = .pointer (some ⟨it, 0, none⟩)) (hr : RangeAt w it bm es seen)
    (h : ∀ w' b k v, Chg it w w' → (b = false → (leftOf es seen).size = 0 ∧ RangeAt w' it bm es seen) → (b = true → ∃ en ∈ (leftOf es seen).toList, k = en.key ∧ v = en.val ∧ RangeAt w' it bm es (seen.push en.born)) → WL P n ops N X rest (putO e d (nextV b k v)) w') :
    WL P n ops N X (⟨d, .next x false, ty, pos, af, none⟩ :: rest) e w := by
  rcases run_nextG (P := P) (ty := ty) hr with ⟨h1, h2⟩ | ⟨en, h1, w', h2, h3, h4⟩
  · exact op hd (v := .tuple #[.bool false]) (by simp [execOp, hx, h2]) (h w false (.bool false) (.bool false) (Chg.of_ext (Ext.refl _)) (fun _ => ⟨h1, hr⟩) (fun q => by cases q))
  · exact op hd (v := .tuple #[.bool true, en.key, en.val]) (by simp [execOp, hx, h2]) (h w' true en.key en.val h3 (fun q => by cases q) (fun _ => ⟨en, h1, rfl, rfl, h4⟩))
theorem r_extNext {ρ : Operand → Value} {x : Operand} {g : Option (Nat × Bool)} {b : Bool} {k v : Value} (hx : ρ x = nextV b k v) : (execOp ρ ⟨d, .extract x 0, ty, pos, af, g⟩).run P w = .ok (.value (.bool b)) w := by
  cases b <;> simp [execOp, Instr.extract, hx, nextV]
theorem r_entryG {ρ : Operand → Value} {x : Operand} {g : Option (Nat × Bool)} {it bm : Nat} {es : Array MapEntry} {seen : Array Nat} {en : MapEntry} (hx : ρ x = .pointer (some ⟨it, 0, none⟩)) (h : RangeAt w it bm es (seen.push en.born)) (he : en ∈ es.toList) :
    (execOp ρ ⟨d, .entry x, ty, pos, af, g⟩).run P w = .ok (.value (.tuple #[en.key, en.val])) w := by
  simp [execOp, hx, run_entryG h he]
end
/-- What has been seen, of a map that takes each. -/
def SeenF (f : Value → Option Value) (es : Array MapEntry) (seen : Array Nat) : Prop := ∀ k v, f k = some v ↔ ∃ en ∈ es.toList, seen.contains en.born = true ∧ en.key = k ∧ en.val = v
theorem SeenF.nil (es : Array MapEntry) : SeenF (fun _ => none) es #[] := fun k v => ⟨(fun q => by cases q), fun ⟨en, _, h, _⟩ => by simp at h⟩
theorem SeenF.put {f : Value → Option Value} {es : Array MapEntry} {seen : Array Nat} (h : SeenF f es seen) (hk : (es.toList.map (·.key)).Nodup) (hb : (es.toList.map (·.born)).Nodup) {en : MapEntry} (he : en ∈ es.toList) : SeenF (fput f en.key en.val) es (seen.push en.born) := by
  intro k v
  by_cases hkk : k = en.key
  · subst hkk
    rw [fput_same]
    constructor
    · intro q; cases q
      exact ⟨en, he, by rw [contains_push]; simp, rfl, rfl⟩
    · rintro ⟨x, hx, _, h2, h3⟩
      have := key_inj hk hx he h2
      subst this; rw [h3]
  · rw [fput_ne hkk, h k v]
    constructor
    · rintro ⟨x, hx, h1, h2⟩
      exact ⟨x, hx, by rw [contains_push, h1]; rfl, h2⟩
    · rintro ⟨x, hx, h1, h2, h3⟩
      refine ⟨x, hx, ?_, h2, h3⟩
      rw [contains_push] at h1
      cases hc : seen.contains x.born with
      | true => rfl
      | false =>
        rw [hc, Bool.false_or, beq_iff_eq] at h1
        have := born_inj hb hx he h1
        subst this
        exact absurd h2.symm hkk
theorem SeenF.all {f : Value → Option Value} {es : Array MapEntry} {seen : Array Nat} (h : SeenF f es seen) (h0 : (leftOf es seen).size = 0) : ∀ k v, f k = some v ↔ ∃ en ∈ es.toList, en.key = k ∧ en.val = v := fun k v => by
  rw [h k v]
  exact ⟨fun ⟨x, h1, _, h2⟩ => ⟨x, h1, h2⟩, fun ⟨x, h1, h2⟩ => ⟨x, h1, all_seen es seen h0 x h1, h2⟩⟩
end Go.Eng
