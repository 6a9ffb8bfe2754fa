/-
  The engine: structs of one cell a field. Generic: no program.
-/
import Derived.Test.YtmedmajdoecjfaaDoorStr
namespace Go.Eng
set_option linter.unusedVariables false
set_option linter.unusedSimpArgs false
open Go.RowKit

/-- A field's offset, size and type. -/
def fieldOf (P : Program) (s i : Nat) : Option (Nat × Nat × TypeId) :=
  match P.underlying s with
  | some (.struct fs) => (fs[i]?).bind fun f => (P.info? f.type).map fun inf => (f.offset, inf.size, f.type)
  | _ => none
/-- A struct whose fields are one cell each: its zero, and where they lie. -/
def layOf (P : Program) (s : Nat) : Option (List Value × List Nat) :=
  match P.underlying s, (P.info? s).bind (·.zero) with
  | some (.struct fs), some z => if fs.toList.all (fun f => ((P.info? f.type).map (·.size)) == some 1) then some (z.cells.toList, fs.toList.map (·.offset)) else none
  | _, _ => none
/-- A struct: its zero, where its fields lie, and how wide. -/
def layN (P : Program) (s : Nat) : Option (List Value × List (Nat × Nat)) :=
  match P.underlying s, (P.info? s).bind (·.zero) with
  | some (.struct fs), some z => (fs.toList.mapM (fun f => (P.info? f.type).map fun i => (f.offset, i.size))).map fun pl => (z.cells.toList, pl)
  | _, _ => none
def setL : List Value → List (Nat × Value) → List Value
  | l, [] => l
  | l, (o, v) :: r => setL (l.set o v) r
theorem one_cells {v : Value} (h : v.oneCell' = true) : v.cells = #[v] := by
  cases v <;> first | rfl | (simp [Value.oneCell'] at h)
section
variable {P : Program} {ρ : Operand → Value} {w : World} {d : Option Tmp} {t : TypeId} {pos : String} {af : Array Edge} {g : Option (Nat × Bool)}

theorem r_fieldAddr {x : Operand} {s i b off o sz : Nat} {ty : TypeId} (hx : ρ x = .pointer (some ⟨b, off, none⟩)) (hf : fieldOf P s i = some (o, sz, ty)) (hz : (sz == 0) = false) :
    (execOp ρ ⟨d, .fieldAddr s x i, t, pos, af, g⟩).run P w = .ok (.value (.pointer (some ⟨b, off + o, none⟩))) w := by
  unfold fieldOf at hf
  cases hu : P.underlying s with
  | none => simp [hu] at hf
  | some td =>
    cases td <;> simp only [hu] at hf <;> try (cases hf; done)
    rename_i fs
    cases hfi : fs[i]? with
    | none => simp [hfi] at hf
    | some f =>
      cases hin : P.info? f.type with
      | none => simp [hfi, hin] at hf
      | some inf =>
        simp [hfi, hin] at hf
        obtain ⟨rfl, rfl, rfl⟩ := hf
        have hz' : ¬ inf.size = 0 := by simpa using hz
        simp [execOp, Instr.fieldAt, hx, run_underlying hu, hfi, Instr.sureAddr, fieldPlace, sizeOf, typeInfo, hin, hz', add_at]
theorem r_loadRow {x : Operand} {ty t' : TypeId} {b : Nat} {c : Array Value} {td : TypeDesc} (hx : ρ x = .pointer (some ⟨b, 0, none⟩)) (hb : Blk w b c t') (hu : P.underlying ty = some td) (h1 : oneCellT td = false) (hs : (P.info? ty).map (·.size) = some c.size) :
    (execOp ρ ⟨d, .load ty x, t, pos, af, g⟩).run P w = .ok (.value (.agg c)) w := r_load_row hx hu h1 hs hb
theorem fill_one {places : Array (Nat × Nat)} : ∀ {parts : List (Nat × Value)} {cs : Array Value} {offs : List Nat}, (∀ q ∈ parts, q.2.cells = #[q.2]) → (∀ q ∈ parts, ∃ o, offs[q.1]? = some o ∧ places[q.1]? = some (o, 1) ∧ o < cs.size) →
    Instr.fill (places[·]?) cs parts = some (setL cs.toList (parts.map fun q => ((offs[q.1]?).getD 0, q.2))).toArray
  | [], cs, _, _, _ => by simp [Instr.fill, setL]
  | (i, v) :: r, cs, offs, h1, h2 => by
    obtain ⟨o, ho, hp, hlt⟩ := h2 (i, v) (List.mem_cons_self ..)
    have hv : v.cells = #[v] := h1 (i, v) (List.mem_cons_self ..)
    have h2' : ∀ q ∈ r, ∃ o', offs[q.1]? = some o' ∧ places[q.1]? = some (o', 1) ∧ o' < (cs.setIfInBounds o v).size := fun q hq => by
      have := h2 q (List.mem_cons_of_mem _ hq)
      simpa using this
    have ih := fill_one (places := places) (cs := cs.setIfInBounds o v) (offs := offs) (fun q hq => h1 q (List.mem_cons_of_mem _ hq)) h2'
    simp only [Instr.fill, hp, hv]
    have hsz : ¬ (1 ≠ 1 ∨ o + 1 > cs.size) := by omega
    simp only at ho
    simp [setL, ho, hsz, hlt]
    exact ⟨by omega, by simpa using ih⟩
theorem r_buildN {parts : List (Nat × Operand)} {s : Nat} {zc : List Value} {pl : List (Nat × Nat)} {cs : List Value} (hl : layN P s = some (zc, pl)) (hf : Instr.fill (pl.toArray[·]?) zc.toArray (parts.map fun q => (q.1, ρ q.2)) = some cs.toArray) :
    (execOp ρ ⟨d, .build s parts.toArray, t, pos, af, g⟩).run P w = .ok (.value (.agg cs.toArray)) w := by
  unfold layN at hl
  cases hu : P.underlying s with
  | none => simp [hu] at hl
  | some td =>
    cases td <;> simp only [hu] at hl <;> try (cases hl; done)
    rename_i fs
    cases hzz : (P.info? s).bind (·.zero) with
    | none => simp [hzz] at hl
    | some z =>
      simp only [hzz] at hl
      cases hpl : fs.toList.mapM (fun f => (P.info? f.type).map fun i => (f.offset, i.size)) with
      | none => rw [hpl] at hl; simp at hl
      | some pl' =>
        rw [hpl] at hl
        obtain ⟨rfl, rfl⟩ : z.cells.toList = zc ∧ pl' = pl := by simpa using hl
        cases hin : P.info? s with
        | none => simp [hin] at hzz
        | some inf =>
          have hz' : inf.zero = some z := by simpa [hin] using hzz
          have hb : P.built s (parts.toArray.map fun (q : Nat × Operand) => (q.1, ρ q.2)).toList = some cs.toArray := by
            unfold Program.built
            simp only [hin, hu, hz', hpl]
            simpa using hf
          have := run_build w s (parts.toArray.map fun (q : Nat × Operand) => (q.1, ρ q.2)) cs.toArray hb
          simp [execOp] at this ⊢
          simp [this]
theorem r_build {parts : List (Nat × Operand)} {s : Nat} {zc : List Value} {offs : List Nat} {cs : List Value} (hl : layOf P s = some (zc, offs)) (h1 : ∀ q ∈ parts, (ρ q.2).oneCell' = true) (h2 : (parts.all fun q => ((offs[q.1]?).map fun o => Nat.blt o zc.length).getD false) = true)
    (hc : setL zc (parts.map fun q => ((offs[q.1]?).getD 0, ρ q.2)) = cs) :
    (execOp ρ ⟨d, .build s parts.toArray, t, pos, af, g⟩).run P w = .ok (.value (.agg cs.toArray)) w := by
  unfold layOf at hl
  cases hu : P.underlying s with
  | none => simp [hu] at hl
  | some td =>
    cases td <;> simp only [hu] at hl <;> try (cases hl; done)
    rename_i fs
    cases hzz : (P.info? s).bind (·.zero) with
    | none => simp [hzz] at hl
    | some z =>
      simp only [hzz] at hl
      split at hl
      rotate_left
      · cases hl
      rename_i hall
      obtain ⟨rfl, rfl⟩ : z.cells.toList = zc ∧ fs.toList.map (·.offset) = offs := by simpa using hl
      cases hin : P.info? s with
      | none => simp [hin] at hzz
      | some inf =>
        have hz' : inf.zero = some z := by simpa [hin] using hzz
        have hpl : fs.toList.mapM (fun f => (P.info? f.type).map fun i => (f.offset, i.size)) = some (fs.toList.map fun f => (f.offset, 1)) := by
          clear hl hc h2 hu
          generalize fs.toList = l at hall
          induction l with
          | nil => rfl
          | cons f l ih =>
            simp only [List.all_cons, Bool.and_eq_true, beq_iff_eq] at hall
            cases hfi : P.info? f.type with
            | none => simp [hfi] at hall
            | some i =>
              have hs1 : i.size = 1 := by simpa [hfi] using hall.1
              simp [List.mapM_cons, hfi, hs1, ih hall.2]
        have hb : P.built s (parts.toArray.map fun (q : Nat × Operand) => (q.1, ρ q.2)).toList = some cs.toArray := by
          unfold Program.built
          simp only [hin, hu, hz', hpl]
          have hf := fill_one (places := (fs.toList.map fun f => (f.offset, 1)).toArray) (cs := z.cells) (offs := fs.toList.map (·.offset)) (parts := parts.map fun q => (q.1, ρ q.2)) (by
            intro q hq
            obtain ⟨p, hp, rfl⟩ := List.mem_map.1 hq
            exact one_cells (h1 p hp)) (by
            intro q hq
            obtain ⟨p, hp, rfl⟩ := List.mem_map.1 hq
            have := List.all_eq_true.1 h2 p hp
            cases ho : (fs.toList.map (·.offset))[p.1]? with
            | none => rw [ho] at this; simp at this
            | some o =>
              rw [ho] at this
              refine ⟨o, rfl, ?_, by simpa [Nat.blt_eq] using this⟩
              simp only [List.getElem?_map, Option.map_eq_some_iff] at ho
              obtain ⟨f, hf, rfl⟩ := ho
              simp [hf])
          simp only [List.map_map] at hf
          rw [← hc]
          simpa [Function.comp_def] using hf
        have := run_build w s (parts.toArray.map fun (q : Nat × Operand) => (q.1, ρ q.2)) cs.toArray hb
        simp [execOp] at this ⊢
        simp [this]
end
theorem Chg.setRow (w : World) (b : Nat) (c : Array Value) : Chg b w (w.setRow b c) :=
  ⟨rfl, rfl, rfl, by simp, fun k _ hne => setRow_other w b k c hne⟩
section
variable {P : Program} {n : Nat} {N : Env → World → Prop} {X : Exit → Env → World → Prop} {e : Env} {w : World} {ops : Array Oper} {rest : List Oper} {d : Option Tmp} {t : TypeId} {pos : String} {af : Array Edge}
/-- A whole struct is stored into a block of one's own. -/
theorem op_storeRow {x y : Operand} {ty tb : TypeId} {b : Nat} {c c' : Array Value} (hx : ev e x = .pointer (some ⟨b, 0, none⟩)) (hy : ev e y = .agg c') (hs : (P.info? ty).map (·.size) = some c'.size) (hb : Blk w b c tb) (ho : c.size = c'.size) (h1 : c'.toList.all (·.oneCell') = true)
    (h : ∀ w', Chg b w w' → Blk w' b c' tb → WL P n ops N X rest e w') : WL P n ops N X (⟨none, .store ty x y, t, pos, af, none⟩ :: rest) e w :=
  opU (r_store_row hx hy hs hb ho (by rw [← Array.all_toList]; exact h1)) (h _ (Chg.setRow w b c') hb.setRow)
end
/-- The results lie in a block, and in a slot. -/
theorem fin_cell1 {P : Program} {p u : Tmp} {ty t : TypeId} {R : Ending → World → Prop} {e : Env} {w : World} {g : Nat} {c : Array Value} {fr : Nat × Nat} {td : TypeDesc}
    (hp : e p = .pointer (some ⟨g, 0, none⟩)) (hb : w.heap[g]? = some (.cells c t fr)) (hu : P.underlying ty = some td) (h1 : oneCellT td = false) (hs : (P.info? ty).map (·.size) = some c.size)
    (h : R (.returned (.tuple #[.agg c, e u])) w) (hm : e slotM = undef := by rfl) (k1 : Nat.beq p slotM = false := by rfl) (k2 : Nat.beq u slotM = false := by rfl) : fin P #[.cell p ty, .tmp u] R e w := by
  refine fin_plain hm ?_
  intro tmps ht
  refine ⟨.tuple #[.agg c, e u], ?_, h⟩
  have h1' := ht p (by rw [beq_eq] at k1; simpa using k1)
  have h2' := ht u (by rw [beq_eq] at k2; simpa using k2)
  simp at h1' h2'
  have := run_loadVar_row (P := P) w g t ty c fr td hb hu (by cases td <;> simp_all [oneCellT]) hs
  simp [h1', h2', hp, asAddr, this]
theorem bool_tt {q : Prop} {dq : Decidable q} (h : q) : Value.bool true = .bool (@decide q dq) := by simp [h]
theorem bool_ff {q : Prop} {dq : Decidable q} (h : ¬ q) : Value.bool false = .bool (@decide q dq) := by simp [h]
theorem bool_iff {p q : Prop} {dp : Decidable p} {dq : Decidable q} (h : p ↔ q) : Value.bool (@decide p dp) = .bool (@decide q dq) := by simp only [h]
/-- A region that draws its order: what must hold behind each operation is that what was there at the start is, and that the blocks in F are as they are now. -/
theorem W_drawF {P : Program} {n : Nat} {N : Env → World → Prop} {X : Exit → Env → World → Prop} {e : Env} {w W0 : World} {id : Nat} {l : List Oper} {k : Nat} (F : Nat → Prop) (hm : P.follows .mixedOrders = true) (hk : l.toArray.size = k)
    (h : ∀ w', Ext w w' → WA P n l.toArray N X (fun u => Ext W0 u ∧ Same F w' u) k (Array.replicate k false) e w') : W P n (.region id l.toArray true) N X e w :=
  W_draw (fun u => Ext W0 u ∧ Same F { w with drawn := w.drawn + 1 } u) hm hk (h _ (ext_drawn w))
theorem Blk.at {w u : World} {b : Nat} {c : Array Value} {t : TypeId} (h : Blk w b c t) (hs : u.heap[b]? = w.heap[b]?) : Blk u b c t := by
  unfold Blk at *; rw [hs]; exact h
theorem Blk.eq {w u : World} {b : Nat} {c : Array Value} {t : TypeId} (h : Blk u b c t) (k : Blk w b c t) : u.heap[b]? = w.heap[b]? := by
  unfold Blk at *; rw [h, k]
section
variable {P : Program} {n : Nat} {N : Env → World → Prop} {X : Exit → Env → World → Prop} {S : World → Prop} {e : Env} {w : World} {ops : Array Oper} {fuel : Nat} {listed : Array Bool} {i : Nat} {t : TypeId} {pos : String} {af : Array Edge}
theorem O_store {x y : Operand} {ty tb : TypeId} {b j : Nat} {c : Array Value} {v : Value} (hi : ops[i]? = some ⟨none, .store ty x y, t, pos, af, none⟩) (hx : ev e x = .pointer (some ⟨b, j, none⟩)) (hy : ev e y = v) (h1 : v.oneCell' = true) (hs : (P.info? ty).map (·.size) = some 1)
    (hb : Blk w b c tb) (hj : j < c.size) (h : ∀ w', Chg b w w' → Blk w' b (c.setIfInBounds j v) tb → S w' ∧ WA P n ops N X S fuel (listed.setIfInBounds i true) e w') : WO P n ops N X S fuel listed i e w :=
  have h' := h _ (Chg.setCell w ⟨b, j, none⟩ v) (hb.set v)
  O_unit hi (r_store hx hy h1 hs (hb.cell (v := c[j]) (by simp [hj])) hb.free) h'.1 h'.2
theorem O_storeRow {x y : Operand} {ty tb : TypeId} {b : Nat} {c c' : Array Value} (hi : ops[i]? = some ⟨none, .store ty x y, t, pos, af, none⟩) (hx : ev e x = .pointer (some ⟨b, 0, none⟩)) (hy : ev e y = .agg c') (hs : (P.info? ty).map (·.size) = some c'.size) (hb : Blk w b c tb) (ho : c.size = c'.size) (h1 : c'.toList.all (·.oneCell') = true)
    (h : ∀ w', Chg b w w' → Blk w' b c' tb → S w' ∧ WA P n ops N X S fuel (listed.setIfInBounds i true) e w') : WO P n ops N X S fuel listed i e w :=
  have h' := h _ (Chg.setRow w b c') hb.setRow
  O_unit hi (r_store_row hx hy hs hb ho (by rw [← Array.all_toList]; exact h1)) h'.1 h'.2
end
end Go.Eng
