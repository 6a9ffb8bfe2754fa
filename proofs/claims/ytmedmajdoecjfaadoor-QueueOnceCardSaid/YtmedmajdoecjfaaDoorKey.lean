/-
  The engine: maps whose keys are bools, whole numbers, or strings. Generic: no program.
-/
import Derived.Test.YtmedmajdoecjfaaDoorStruct
import Derived.Test.YtmedmajdoecjfaaDoorInv
import Derived.Laws.IdiomRangeMap
namespace Go.Eng
set_option linter.unusedVariables false
set_option linter.unusedSimpArgs false
open Go.RowKit Go.MapKept Classical

/-- A map at r whose entries are what f tells. -/
def MapAt (d : TypeDesc) (w : World) (r : Nat) (f : Value → Option Value) : Prop :=
  ∃ es clock, w.heap[r]? = some (.map es clock) ∧ Stamped es clock ∧ (∀ x ∈ es.toList, IsKey d x.key) ∧ ∀ k v, f k = some v ↔ ∃ e ∈ es.toList, e.key = k ∧ e.val = v
noncomputable def fput (f : Value → Option Value) (k v : Value) : Value → Option Value := fun x => if x = k then some v else f x
theorem fput_same (f : Value → Option Value) (k v : Value) : fput f k v k = some v := if_pos rfl
theorem fput_ne {f : Value → Option Value} {k v x : Value} (h : x ≠ k) : fput f k v x = f x := if_neg h
theorem MapAt.lt {d : TypeDesc} {w : World} {r : Nat} {f : Value → Option Value} (h : MapAt d w r f) : r < w.heap.size := by
  obtain ⟨es, clock, h1, _⟩ := h; exact heap_lt h1
theorem MapAt.at {d : TypeDesc} {w w' : World} {r : Nat} {f : Value → Option Value} (h : MapAt d w r f) (he : w'.heap[r]? = w.heap[r]?) : MapAt d w' r f := by
  obtain ⟨es, clock, h1, h2⟩ := h; exact ⟨es, clock, by rw [he]; exact h1, h2⟩
theorem MapAt.ext {d : TypeDesc} {w w' : World} {r : Nat} {f : Value → Option Value} (h : MapAt d w r f) (he : Ext w w') : MapAt d w' r f := h.at (he.block r h.lt)
theorem MapAt.chg {d : TypeDesc} {w w' : World} {r b : Nat} {f : Value → Option Value} (h : MapAt d w r f) (hc : Chg b w w') (hne : r ≠ b) : MapAt d w' r f := h.at (hc.block r h.lt hne)
theorem MapAt.new (d : TypeDesc) (w : World) : MapAt d (w.alloc (.map #[] 0)) w.heap.size (fun _ => none) :=
  ⟨#[], 0, Go.heap_alloc_new w _, stamped_empty 0, by simp, by simp⟩
theorem MapAt.not_cells {d : TypeDesc} {w : World} {r : Nat} {f : Value → Option Value} (h : MapAt d w r f) {c : Array Value} {t : TypeId} {fr : Nat × Nat} : w.heap[r]? ≠ some (.cells c t fr) := by
  obtain ⟨es, clock, h1, _⟩ := h; rw [h1]; simp
theorem MapAt.ne_cells {d : TypeDesc} {w : World} {r g : Nat} {f : Value → Option Value} (h : MapAt d w r f) {c : Array Value} {t : TypeId} {fr : Nat × Nat} (hg : w.heap[g]? = some (.cells c t fr)) : r ≠ g := by
  rintro rfl; exact h.not_cells hg
theorem key_inj {l : List MapEntry} (hn : (l.map (·.key)).Nodup) {x e : MapEntry} (hx : x ∈ l) (he : e ∈ l) (h : x.key = e.key) : x = e := by
  induction l with
  | nil => cases hx
  | cons y l ih =>
    have hn' : y.key ∉ l.map (·.key) ∧ (l.map (·.key)).Nodup := List.nodup_cons.1 hn
    rcases List.mem_cons.1 hx with rfl | hx' <;> rcases List.mem_cons.1 he with rfl | he'
    · rfl
    · exact absurd (List.mem_map.2 ⟨e, he', h.symm⟩) hn'.1
    · exact absurd (List.mem_map.2 ⟨x, hx', h⟩) hn'.1
    · exact ih hn'.2 hx' he'
section
variable {P : Program} {ρ : Operand → Value} {w : World} {d : Option Tmp} {t : TypeId} {pos : String} {af : Array Edge} {g : Option (Nat × Bool)} {x y z : Operand} {mt kt et : TypeId} {kd : TypeDesc} {r : Nat} {f : Value → Option Value} {k v zv : Value}
theorem run_zero (hzv : (P.info? et).bind (·.zero) = some zv) : (zeroValue et).run P w = .ok zv w := by
  cases hi : P.info? et with
  | none => simp [hi] at hzv
  | some inf =>
    have : inf.zero = some zv := by simpa [hi] using hzv
    simp [zeroValue, typeInfo, hi, this]
theorem run_lookup (hu : P.underlying mt = some (.map kt et)) (hd : P.underlying kt = some kd) (hk : IsKey kd k) (hzv : (P.info? et).bind (·.zero) = some zv) (hm : MapAt kd w r f) (ok : Bool) :
    (Instr.lookup mt (.map (some r)) k ok).run P w = .ok (if ok then .tuple #[(f k).getD zv, .bool (f k).isSome] else (f k).getD zv) w := by
  obtain ⟨es, clock, h1, h2, h3, h4⟩ := hm
  have hc : (Instr.checkKey es.isEmpty 10000 kt k).run P w = .ok () w := Go.MapKept.run_checkKey hd hk _ 9999
  unfold Instr.lookup
  rcases findNow_spec hk es.toList 0 h3 with ⟨q1, q2⟩ | ⟨j, e, q1, q2, q3⟩
  · have hf : f k = none := by
      cases hfk : f k with
      | none => rfl
      | some v =>
        obtain ⟨e, he, hek, _⟩ := (h4 k v).1 hfk
        exact absurd hek (q2 e he)
    simp only [Sem.run_bind, run_underlying hu, Result.andThen_ok, Go.MapKept.run_getObj_map h1, Sem.run_pure, hc, Go.MapKept.run_findKey hd q1, run_zero hzv, hf]
    cases ok <;> rfl
  · have hf : f k = some e.val := (h4 k e.val).2 ⟨e, List.mem_of_getElem? q2, q3, rfl⟩
    simp only [Sem.run_bind, run_underlying hu, Result.andThen_ok, Go.MapKept.run_getObj_map h1, Sem.run_pure, hc, Go.MapKept.run_findKey hd q1, hf]
    cases ok <;> rfl
/-- What a key leads to, or nothing. -/
theorem rk_lookup (hx : ρ x = .map (some r)) (hy : ρ y = k) (hu : P.underlying mt = some (.map kt et)) (hd : P.underlying kt = some kd) (hk : IsKey kd k) (hzv : (P.info? et).bind (·.zero) = some zv) (hm : MapAt kd w r f) :
    (execOp ρ ⟨d, .lookup mt x y false, t, pos, af, g⟩).run P w = .ok (.value ((f k).getD zv)) w := by
  have := run_lookup hu hd hk hzv hm false
  simp [execOp, hx, hy, this]
theorem rk_lookupV {u : Value} (hx : ρ x = .map (some r)) (hy : ρ y = k) (hu : P.underlying mt = some (.map kt et)) (hd : P.underlying kt = some kd) (hk : IsKey kd k) (hzv : (P.info? et).bind (·.zero) = some zv) (hm : MapAt kd w r f) (hv : (f k).getD zv = u) :
    (execOp ρ ⟨d, .lookup mt x y false, t, pos, af, g⟩).run P w = .ok (.value u) w := by
  rw [← hv]; exact rk_lookup hx hy hu hd hk hzv hm
theorem rk_lookupOk (hx : ρ x = .map (some r)) (hy : ρ y = k) (hu : P.underlying mt = some (.map kt et)) (hd : P.underlying kt = some kd) (hk : IsKey kd k) (hzv : (P.info? et).bind (·.zero) = some zv) (hm : MapAt kd w r f) :
    (execOp ρ ⟨d, .lookup mt x y true, t, pos, af, g⟩).run P w = .ok (.value (.tuple #[(f k).getD zv, .bool (f k).isSome])) w := by
  have := run_lookup hu hd hk hzv hm true
  simp [execOp, hx, hy, this]
theorem Chg.putObj (w : World) (r : Nat) (o : Obj) : Chg r w (w.putObj r o) :=
  ⟨rfl, rfl, rfl, by simp, fun k _ hne => World.putObj_heap_other hne⟩
theorem run_insert (hu : P.underlying mt = some (.map kt et)) (hd : P.underlying kt = some kd) (hk : IsKey kd k) (hm : MapAt kd w r f) :
    ∃ w', (Instr.mapUpdate mt (.map (some r)) k v).run P w = .ok () w' ∧ Chg r w w' ∧ MapAt kd w' r (fput f k v) := by
  obtain ⟨es, clock, h1, h2, h3, h4⟩ := hm
  rcases findNow_spec hk es.toList 0 h3 with ⟨q1, q2⟩ | ⟨j, e, q1, q2, q3⟩
  · refine ⟨w.putObj r (.map (es.push { key := k, val := v, born := clock }) (clock + 1)), ?_, Chg.putObj _ _ _, ?_⟩
    · simp [Instr.mapUpdate, run_underlying hu, Go.MapKept.run_getObj_map h1, Go.MapKept.run_checkKey hd hk, Go.MapKept.run_findKey hd q1, Go.MapKept.run_setObj_map _ h1, Result.andThen, World.putObj]
    · refine ⟨_, _, World.putObj_heap_same (heap_lt h1), stamped_push h2 q2, ?_, fun k' v' => ?_⟩
      · intro x hx
        simp only [Array.toList_push, List.mem_append, List.mem_singleton] at hx
        rcases hx with hx | rfl
        · exact h3 x hx
        · exact hk
      · simp only [Array.toList_push, List.mem_append, List.mem_singleton]
        by_cases hkk : k' = k
        · subst hkk
          rw [fput_same]
          constructor
          · intro q; cases q; exact ⟨_, Or.inr rfl, rfl, rfl⟩
          · rintro ⟨e, he | rfl, q3, q4⟩
            · exact absurd q3 (q2 e he)
            · rw [← q4]
        · rw [fput_ne hkk, h4]
          constructor
          · rintro ⟨e, he, q⟩; exact ⟨e, Or.inl he, q⟩
          · rintro ⟨e, he | rfl, q3, q4⟩
            · exact ⟨e, he, q3, q4⟩
            · exact absurd q3.symm hkk
  · have hj : es[j]? = some e := by simpa using q2
    have hjl : j < es.size := (Array.getElem?_eq_some_iff.1 hj).1
    refine ⟨w.putObj r (.map (es.modify j fun e => { e with key := k, val := v }) clock), ?_, Chg.putObj _ _ _, ?_⟩
    · simp [Instr.mapUpdate, run_underlying hu, Go.MapKept.run_getObj_map h1, Go.MapKept.run_checkKey hd hk, Go.MapKept.run_findKey hd q1, hj, q3, Go.MapKept.run_keyThatStays hk, Go.MapKept.run_setObj_map _ h1, Result.andThen, World.putObj]
    · have hkey : ∀ e', es[j]? = some e' → ({ e' with key := k, val := v } : MapEntry).key = e'.key := fun e' he' => by rw [hj] at he'; cases he'; exact q3.symm
      refine ⟨_, _, World.putObj_heap_same (heap_lt h1), stamped_modify h2 _ _ (fun _ _ => rfl) (fun e' _ he' => hkey e' he'), isKey_modify h3 _ _ hkey, fun k' v' => ?_⟩
      have hmem : ∀ e', e' ∈ (es.modify j fun e => { e with key := k, val := v }).toList ↔ (e' = { e with key := k, val := v } ∨ (e' ∈ es.toList ∧ e'.key ≠ k)) := by
        intro e'
        constructor
        · intro hm
          obtain ⟨i, hi, rfl⟩ := List.mem_iff_getElem.1 hm
          simp only [Array.getElem_toList, Array.getElem_modify]
          have hi' : i < es.size := by simpa using hi
          by_cases hij : j = i
          · subst hij
            left
            have : es[j] = e := by rw [Array.getElem?_eq_getElem hjl] at hj; exact Option.some.inj hj
            simp [this]
          · right
            rw [if_neg hij]
            refine ⟨by simp, fun q => ?_⟩
            have e1 : es[i] = e := key_inj h2.2.2 (by simp) (List.mem_of_getElem? q2) (q.trans q3.symm)
            have hb := List.pairwise_iff_getElem.1 h2.2.1
            have hv : ∀ a b, a < b → ∀ (ha : a < es.size) (hb' : b < es.size), es[a] = es[b] → False := fun a b hab ha hb' hq => hb a b (by simpa using ha) (by simpa using hb') hab (by simp [hq])
            have ej : es[j] = e := by rw [Array.getElem?_eq_getElem hjl] at hj; exact Option.some.inj hj
            rcases Nat.lt_or_gt_of_ne hij with h | h
            · exact hv j i h hjl hi' (ej.trans e1.symm)
            · exact hv i j h hi' hjl (e1.trans ej.symm)
        · rintro (rfl | ⟨hm, hk'⟩)
          · refine List.mem_iff_getElem.2 ⟨j, by simpa using hjl, ?_⟩
            have : es[j] = e := by rw [Array.getElem?_eq_getElem hjl] at hj; exact Option.some.inj hj
            simp [Array.getElem_modify, this]
          · obtain ⟨i, hi, rfl⟩ := List.mem_iff_getElem.1 hm
            have hi' : i < es.size := by simpa using hi
            refine List.mem_iff_getElem.2 ⟨i, by simpa using hi', ?_⟩
            have hij : j ≠ i := by
              rintro rfl
              apply hk'
              have : es[j] = e := by rw [Array.getElem?_eq_getElem hjl] at hj; exact Option.some.inj hj
              simp [this, q3]
            simp [Array.getElem_modify, hij]
      by_cases hkk : k' = k
      · subst hkk
        rw [fput_same]
        constructor
        · intro q; cases q; exact ⟨_, (hmem _).2 (Or.inl rfl), rfl, rfl⟩
        · rintro ⟨e', he', q4, q5⟩
          rcases (hmem e').1 he' with rfl | ⟨_, hne⟩
          · rw [← q5]
          · exact absurd q4 hne
      · rw [fput_ne hkk, h4]
        constructor
        · rintro ⟨e', he', q4, q5⟩; exact ⟨e', (hmem e').2 (Or.inr ⟨he', by rw [q4]; exact hkk⟩), q4, q5⟩
        · rintro ⟨e', he', q4, q5⟩
          rcases (hmem e').1 he' with rfl | ⟨hm, _⟩
          · exact absurd q4.symm hkk
          · exact ⟨e', hm, q4, q5⟩
end
section
variable {P : Program} {n : Nat} {N : Env → World → Prop} {X : Exit → Env → World → Prop} {e : Env} {w : World} {ops : Array Oper} {rest : List Oper} {d : Option Tmp} {t : TypeId} {pos : String} {af : Array Edge} {mt kt et : TypeId} {kd : TypeDesc} {r : Nat} {f : Value → Option Value} {k v zv : Value}
theorem op_insertK {x y z : Operand} (hx : ev e x = .map (some r)) (hy : ev e y = k) (hz : ev e z = v) (hu : P.underlying mt = some (.map kt et)) (hd : P.underlying kt = some kd) (hk : IsKey kd k) (hm : MapAt kd w r f)
    (h : ∀ w', Chg r w w' → MapAt kd w' r (fput f k v) → WL P n ops N X rest e w') : WL P n ops N X (⟨none, .insert mt x y z, t, pos, af, none⟩ :: rest) e w := by
  obtain ⟨w', h1, h2, h3⟩ := run_insert (v := v) hu hd hk hm
  exact opU (by simp [execOp, hx, hy, hz, h1]) (h w' h2 h3)
theorem op_updateK {x y z : Operand} (hx : ev e x = .map (some r)) (hy : ev e y = k) (hz : ev e z = v) (hu : P.underlying mt = some (.map kt et)) (hd : P.underlying kt = some kd) (hk : IsKey kd k) (hm : MapAt kd w r f)
    (h : ∀ w', Chg r w w' → MapAt kd w' r (fput f k v) → WL P n ops N X rest e w') : WL P n ops N X (⟨none, .mapUpdate mt x y z, t, pos, af, none⟩ :: rest) e w := by
  obtain ⟨w', h1, h2, h3⟩ := run_insert (v := v) hu hd hk hm
  exact opU (by simp [execOp, hx, hy, hz, h1]) (h w' h2 h3)
theorem op_makeMapK (kd : TypeDesc) (hd : dOk n d = true) (h : ∀ w' r, Ext w w' → MapAt kd w' r (fun _ => none) → w.heap.size = r → WL P n ops N X rest (putO e d (.map (some r))) w') : WL P n ops N X (⟨d, .makeMap mt none, t, pos, af, none⟩ :: rest) e w :=
  op hd r_makeMap (h _ _ (Ext.alloc _ _) (MapAt.new kd w) rfl)
end
section
variable {P : Program} {n : Nat} {N : Env → World → Prop} {X : Exit → Env → World → Prop} {S : World → Prop} {ops : Array Oper} {fuel : Nat} {listed : Array Bool} {i : Nat} {e : Env} {w : World} {t : TypeId} {pos : String} {af : Array Edge} {x y z : Operand} {mt kt et : TypeId} {kd : TypeDesc} {r : Nat} {f : Value → Option Value} {k v : Value}
theorem O_updateK (hi : ops[i]? = some ⟨none, .mapUpdate mt x y z, t, pos, af, none⟩) (hx : ev e x = .map (some r)) (hy : ev e y = k) (hz : ev e z = v) (hu : P.underlying mt = some (.map kt et)) (hd : P.underlying kt = some kd) (hk : IsKey kd k) (hm : MapAt kd w r f)
    (h : ∀ w', Chg r w w' → MapAt kd w' r (fput f k v) → S w' ∧ WA P n ops N X S fuel (listed.setIfInBounds i true) e w') : WO P n ops N X S fuel listed i e w := by
  obtain ⟨w', h1, h2, h3⟩ := run_insert (v := v) hu hd hk hm
  obtain ⟨q1, q2⟩ := h w' h2 h3
  exact O_unit hi (by simp [execOp, hx, hy, hz, h1]) q1 q2
end
end Go.Eng
