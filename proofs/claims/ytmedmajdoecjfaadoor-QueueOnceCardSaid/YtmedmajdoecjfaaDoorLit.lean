/-
  The engine: a map that is written out, its keys structs of ints, its entries made in whatever order. Generic: no program.
-/
import Derived.Test.YtmedmajdoecjfaaDoorInv
namespace Go.Eng
set_option linter.unusedVariables false
set_option linter.unusedSimpArgs false
open Go.RowKit

/-- Whatever has cells is as it was. -/
structure CK (a b : World) : Prop where
  size : a.heap.size ≤ b.heap.size
  cells : ∀ (g : Nat) (c : Array Value) (t : TypeId) (fr : Nat × Nat), a.heap[g]? = some (Obj.cells c t fr) → b.heap[g]? = some (Obj.cells c t fr)
theorem CK.refl (a : World) : CK a a := ⟨Nat.le_refl _, fun _ _ _ _ h => h⟩
theorem CK.trans {a b c : World} (h : CK a b) (k : CK b c) : CK a c := ⟨Nat.le_trans h.size k.size, fun g c t fr hh => k.cells g c t fr (h.cells g c t fr hh)⟩
theorem CK.of {a b : World} (h : Ext a b) : CK a b := ⟨h.size, fun _ _ _ _ hh => ext_heap hh h⟩
theorem CK.putMap {w : World} {r clock : Nat} {es : Array MapEntry} (h : w.heap[r]? = some (.map es clock)) (o : Obj) : CK w (w.putObj r o) := by
  refine ⟨by simp [World.putObj], fun g c t fr hg => ?_⟩
  have hne : g ≠ r := by rintro rfl; rw [h] at hg; cases hg
  simp only [World.putObj, Array.getElem?_setIfInBounds]
  rw [if_neg (fun q => hne q.symm)]
  exact hg
theorem Blk.ck {w w' : World} {g : Nat} {c : Array Value} {t : TypeId} (h : Blk w g c t) (hc : CK w w') : Blk w' g c t := hc.cells g c t (0, 0) h

/-- What an operation of the literal is. -/
inductive Kd (α : Type) where
  | mk (d : Tmp)
  | key (d : Tmp) (ks : List Int)
  | fn (d : Tmp) (D : α)
  | ins (ks : List Int) (D : α)
  | mv (d : Tmp)
def Kd.dst {α : Type} : Kd α → Option Tmp
  | .mk d => some d
  | .key d _ => some d
  | .fn d _ => some d
  | .ins _ _ => none
  | .mv d => some d
def Kd.len {α : Type} (m : Nat) : Option (Kd α) → Bool
  | some (.ins ks _) => Nat.beq ks.length m
  | _ => true
def Kd.isMk {α : Type} : Option (Kd α) → Bool
  | some (.mk _) => true
  | _ => false
/-- Slots are apart, keys too. -/
def sameDst {α : Type} : Option (Kd α) → Option (Kd α) → Bool
  | some a, some b => match a, b with
    | .ins k _, .ins k' _ => k == k'
    | a, b => match a.dst, b.dst with
      | some x, some y => Nat.beq x y
      | _, _ => false
  | _, _ => false
def apart {α : Type} (T : List (Kd α)) : Bool := (List.range T.length).all fun i => (T[i]?.bind (·.dst)).all (fun d => !Nat.beq d slotM) && (List.range T.length).all fun j => Nat.beq i j || !sameDst T[i]? T[j]?
theorem apart_spec {α : Type} {T : List (Kd α)} (h : apart T = true) {i j : Nat} {a b : Kd α} (hi : T[i]? = some a) (hj : T[j]? = some b) (hne : i ≠ j) : sameDst (some a) (some b) = false := by
  have hil : i < T.length := (List.getElem?_eq_some_iff.1 hi).1
  have hjl : j < T.length := (List.getElem?_eq_some_iff.1 hj).1
  have h1 := List.all_eq_true.1 h i (List.mem_range.2 hil)
  rw [Bool.and_eq_true] at h1
  have h2 := List.all_eq_true.1 h1.2 j (List.mem_range.2 hjl)
  rw [hi, hj] at h2
  simpa [beq_eq, hne] using h2
theorem apart_mark {α : Type} {T : List (Kd α)} (h : apart T = true) {i : Nat} {a : Kd α} {d : Tmp} (hi : T[i]? = some a) (hd : a.dst = some d) : d ≠ slotM := by
  have hil : i < T.length := (List.getElem?_eq_some_iff.1 hi).1
  have h1 := List.all_eq_true.1 h i (List.mem_range.2 hil)
  rw [Bool.and_eq_true, hi] at h1
  have := h1.1
  simp only [Option.bind_some, hd, Option.all_some, beq_eq, Bool.not_eq_true', decide_eq_false_iff_not] at this
  exact this
theorem apart_dst {α : Type} {T : List (Kd α)} (h : apart T = true) {i j : Nat} {a b : Kd α} {x y : Tmp} (hi : T[i]? = some a) (hj : T[j]? = some b) (hne : i ≠ j) (ha : a.dst = some x) (hb : b.dst = some y) : x ≠ y := by
  have := apart_spec h hi hj hne
  rintro rfl
  cases a <;> cases b <;> simp_all [sameDst, Kd.dst]
theorem apart_key {α : Type} {T : List (Kd α)} (h : apart T = true) {i j : Nat} {k k' : List Int} {D D' : α} (hi : T[i]? = some (.ins k D)) (hj : T[j]? = some (.ins k' D')) (hne : i ≠ j) : k ≠ k' := by
  have := apart_spec h hi hj hne
  rintro rfl
  simp [sameDst] at this
theorem vi_inj {l l' : List Int} (h : Value.agg (vi l) = .agg (vi l')) : l = l' := by
  simp only [Value.agg.injEq] at h
  have := congrArg Array.toList h
  simp only [vi] at this
  exact (List.map_inj_right (fun a b hab => by simpa using hab)).1 this

section
variable {α : Type} (K : α → Value → World → Prop)
def Kd.Holds (L0 : Prop) (r : Nat) (es : Array MapEntry) : Kd α → Env → World → Prop
  | .mk d, e, _ => e d = .map (some r)
  | .key d ks, e, _ => e d = .agg (vi ks)
  | .fn d D, e, w => K D (e d) w
  | .ins ks _, _, _ => L0 ∧ ∃ en ∈ es.toList, en.key = .agg (vi ks)
  | .mv d, e, _ => L0 ∧ e d = .map (some r)
structure LIr (T : List (Kd α)) (W0 : World) (L : Array Bool) (e : Env) (w : World) (r : Nat) (es : Array MapEntry) (clock : Nat) : Prop where
  size : L.size = T.length
  ext : Ext W0 w
  mark : e slotM = undef
  holds : ∀ i kd, T[i]? = some kd → L.getD i false = true → kd.Holds K (L.getD 0 false = true) r es e w
  map : L.getD 0 false = true → W0.heap.size ≤ r ∧ w.heap[r]? = some (.map es clock)
  ents : ∀ en ∈ es.toList, ∃ i ks D, T[i]? = some (.ins ks D) ∧ L.getD i false = true ∧ en.key = .agg (vi ks) ∧ K D en.val w
def LI (T : List (Kd α)) (W0 : World) (L : Array Bool) (e : Env) (w : World) : Prop := ∃ r es clock, LIr K T W0 L e w r es clock
variable {K}
theorem getF_set (L : Array Bool) (i j : Nat) (h : (L.setIfInBounds i true).getD j false = true) : j = i ∨ L.getD j false = true := by
  by_cases hij : j = i
  · exact Or.inl hij
  · exact Or.inr (by rwa [Go.getD_set_ne false (fun q => hij q.symm)] at h)
theorem getF_same (L : Array Bool) (i : Nat) (h : i < L.size) : (L.setIfInBounds i true).getD i false = true := by
  simp [Array.getD_eq_getD_getElem?, h]
theorem Kd.Holds.keep (hK : ∀ D v w w', K D v w → CK w w' → K D v w') {L0 L0' : Prop} {r : Nat} {es es' : Array MapEntry} {kd : Kd α} {e e' : Env} {w w' : World} (h : kd.Holds K L0 r es e w) (hd : ∀ d, kd.dst = some d → e' d = e d) (hc : CK w w') (h0 : L0 → L0') (hes : ∀ en ∈ es.toList, en ∈ es'.toList) : kd.Holds K L0' r es' e' w' := by
  cases kd with
  | mk d => simp only [Kd.Holds] at *; rw [hd d rfl]; exact h
  | key d ks => simp only [Kd.Holds] at *; rw [hd d rfl]; exact h
  | fn d D => simp only [Kd.Holds] at *; rw [hd d rfl]; exact hK _ _ _ _ h hc
  | ins ks D => obtain ⟨h1, en, h2, h3⟩ := h; exact ⟨h0 h1, en, hes en h2, h3⟩
  | mv d => obtain ⟨h1, h2⟩ := h; exact ⟨h0 h1, by rw [hd d rfl]; exact h2⟩
/-- One that yields a value. -/
theorem LIr.step (hK : ∀ D v w w', K D v w → CK w w' → K D v w') {T : List (Kd α)} {W0 : World} {L : Array Bool} {e : Env} {w w' : World} {r clock : Nat} {es : Array MapEntry} (h : LIr K T W0 L e w r es clock) (hT : apart T = true) {i : Nat} {kd : Kd α} {d : Tmp} {v : Value} (hi : T[i]? = some kd) (hd : kd.dst = some d) (h0 : 0 < i)
    (he : Ext w w') (hv : kd.Holds K (L.getD 0 false = true) r es (put e d v) w') : LI K T W0 (L.setIfInBounds i true) (put e d v) w' := by
  have hil : i < T.length := (List.getElem?_eq_some_iff.1 hi).1
  have e0 : (L.setIfInBounds i true).getD 0 false = L.getD 0 false := Go.getD_set_ne false (by omega)
  refine ⟨r, es, clock, by simp [h.size], h.ext.trans he, by rw [put_ne _ _ _ _ (apart_mark hT hi hd).symm]; exact h.mark, ?_, ?_, ?_⟩
  · intro j kd' hj hl
    rw [e0]
    by_cases hji : j = i
    · subst hji
      rw [hi] at hj; cases hj
      exact hv
    · have hl' := (getF_set L i j hl).resolve_left hji
      refine (h.holds j kd' hj hl').keep hK (fun d' hd' => put_ne _ _ _ _ (apart_dst hT hj hi hji hd' hd)) (CK.of he) id (fun _ h => h)
  · rw [e0]
    intro hl
    obtain ⟨h1, h2⟩ := h.map hl
    exact ⟨h1, ext_heap h2 he⟩
  · intro en hen
    obtain ⟨j, ks, D, h1, h2, h3, h4⟩ := h.ents en hen
    exact ⟨j, ks, D, h1, setF _ _ _ h2, h3, hK _ _ _ _ h4 (CK.of he)⟩
/-- The map itself is made. -/
theorem LIr.make (hK : ∀ D v w w', K D v w → CK w w' → K D v w') {T : List (Kd α)} {W0 : World} {L : Array Bool} {e : Env} {w : World} {r clock : Nat} {es : Array MapEntry} (h : LIr K T W0 L e w r es clock) (hT : apart T = true) {d : Tmp} (hi : T[0]? = some (.mk d)) (hone : ∀ j d', T[j]? = some (.mk d') → j = 0) (hl : L.getD 0 false = false) :
    LI K T W0 (L.setIfInBounds 0 true) (put e d (.map (some w.heap.size))) (w.alloc (.map #[] 0)) := by
  have h0l : 0 < T.length := (List.getElem?_eq_some_iff.1 hi).1
  have hE : Ext w (w.alloc (.map #[] 0)) := Ext.alloc _ _
  refine ⟨w.heap.size, #[], 0, by simp [h.size], h.ext.trans hE, by rw [put_ne _ _ _ _ (apart_mark hT hi rfl).symm]; exact h.mark, ?_, ?_, ?_⟩
  · intro j kd hj hlj
    by_cases hj0 : j = 0
    · subst hj0
      rw [hi] at hj; cases hj
      exact put_same _ _ _
    · have hl' := (getF_set L 0 j hlj).resolve_left hj0
      have hh := h.holds j kd hj hl'
      cases kd with
      | mk d' => exact absurd (hone j d' hj) hj0
      | key d' ks =>
        show put e d _ d' = _
        rw [put_ne _ _ _ _ (apart_dst hT hj hi hj0 rfl rfl)]; exact hh
      | fn d' D =>
        show K D (put e d _ d') _
        rw [put_ne _ _ _ _ (apart_dst hT hj hi hj0 rfl rfl)]; exact hK _ _ _ _ hh (CK.of hE)
      | ins ks D => have := hh.1; rw [hl] at this; cases this
      | mv d' => have := hh.1; rw [hl] at this; cases this
  · intro _
    exact ⟨h.ext.size, heap_alloc_new w _⟩
  · intro en hen; cases hen
/-- An entry comes. -/
theorem LIr.insert (hK : ∀ D v w w', K D v w → CK w w' → K D v w') {T : List (Kd α)} {W0 : World} {L : Array Bool} {e : Env} {w : World} {r clock clock' : Nat} {es : Array MapEntry} (h : LIr K T W0 L e w r es clock) (hT : apart T = true) {i : Nat} {ks : List Int} {D : α} (hi : T[i]? = some (.ins ks D)) (h0 : 0 < i) (hl0 : L.getD 0 false = true) {en : MapEntry} (hek : en.key = .agg (vi ks)) (hev : K D en.val w) :
    LI K T W0 (L.setIfInBounds i true) e (w.putObj r (.map (es.push en) clock')) := by
  have hil : i < T.length := (List.getElem?_eq_some_iff.1 hi).1
  have e0 : (L.setIfInBounds i true).getD 0 false = L.getD 0 false := Go.getD_set_ne false (by omega)
  obtain ⟨hr, hm⟩ := h.map hl0
  have hC : CK w (w.putObj r (.map (es.push en) clock')) := CK.putMap hm _
  have hX : Ext W0 (w.putObj r (.map (es.push en) clock')) := by
    refine Below.trans h.ext ⟨rfl, rfl, rfl, by simp [World.putObj], fun g (hg : g < W0.heap.size) => ?_⟩
    simp only [World.putObj, Array.getElem?_setIfInBounds]
    have hgr : ¬ r = g := by intro q; subst q; exact absurd hg (by omega)
    rw [if_neg hgr]
  refine ⟨r, es.push en, clock', by simp [h.size], hX, h.mark, ?_, ?_, ?_⟩
  · intro j kd hj hlj
    rw [e0]
    by_cases hji : j = i
    · subst hji
      rw [hi] at hj; cases hj
      exact ⟨hl0, en, by simp, hek⟩
    · have hl' := (getF_set L i j hlj).resolve_left hji
      exact (h.holds j kd hj hl').keep hK (fun _ _ => rfl) hC id (fun x hx => by simp [Array.toList_push, hx])
  · intro _
    refine ⟨hr, ?_⟩
    have : r < w.heap.size := heap_lt hm
    simp [World.putObj, this]
  · intro x hx
    rw [Array.toList_push, List.mem_append] at hx
    rcases hx with hx | hx
    · obtain ⟨j, ks', D', h1, h2, h3, h4⟩ := h.ents x hx
      exact ⟨j, ks', D', h1, setF _ _ _ h2, h3, hK _ _ _ _ h4 hC⟩
    · simp at hx; subst hx
      exact ⟨i, ks, D, hi, getF_same _ _ (by rw [h.size]; exact hil), hek, hK _ _ _ _ hev hC⟩
end

section
variable {α : Type} {K : α → Value → World → Prop} {P : Program} {n : Nat} {N : Env → World → Prop} {X : Exit → Env → World → Prop} {ops : Array Oper} {T : List (Kd α)} {W0 : World}
/-- Operation i, whenever it comes up. -/
def QK (K : α → Value → World → Prop) (P : Program) (n : Nat) (N : Env → World → Prop) (X : Exit → Env → World → Prop) (ops : Array Oper) (T : List (Kd α)) (W0 : World) (i : Nat) : Prop :=
  ∀ L e w, LI K T W0 L e w → i ∈ Region.ready .any ops L → ∀ fuel, (∀ e' w', LI K T W0 (L.setIfInBounds i true) e' w' → WA P n ops N X anyW fuel (L.setIfInBounds i true) e' w') → WO P n ops N X anyW fuel L i e w
def depOn (ops : Array Oper) (i j : Nat) : Bool := match ops[i]? with
  | some o => o.after.toList.any fun e => Region.binds .any e && Nat.beq e.on j
  | none => false
theorem ready_dep {L : Array Bool} {i j : Nat} (h : i ∈ Region.ready .any ops L) (hj : depOn ops i j = true) : L.getD j false = true := by
  obtain ⟨_, o, ho, hall⟩ := mem_ready.1 h
  unfold depOn at hj
  rw [ho] at hj
  simp only [List.any_eq_true, Bool.and_eq_true] at hj
  obtain ⟨e, he, hb, ho'⟩ := hj
  have := hall e (by simpa using he) hb
  rwa [Nat.eq_of_beq_eq_true ho'] at this
theorem ready_no {L : Array Bool} {i : Nat} (h : i ∈ Region.ready .any ops L) (hs : i < L.size) : L.getD i false = false := by
  have := (mem_ready.1 h).1
  simp only [Array.getD_eq_getD_getElem?, Array.getElem?_eq_getElem hs, Option.getD_some] at this ⊢
  exact this
/-- Edges lead back: when nothing is ready, all have come up. -/
def edgesBack (ops : Array Oper) : Bool := (List.range ops.size).all fun i => match ops[i]? with
  | some o => o.after.toList.all fun e => !Region.binds .any e || Nat.blt e.on i
  | none => false
theorem all_listed {L : Array Bool} (hs : L.size = ops.size) (hb : edgesBack ops = true) (hr : Region.ready .any ops L = []) : ∀ i, i < ops.size → L.getD i false = true := by
  intro i
  induction i using Nat.strongRecOn with
  | ind i ih =>
    intro hi
    have h1 := List.all_eq_true.1 hb i (List.mem_range.2 hi)
    rw [Array.getElem?_eq_getElem hi] at h1
    simp only [List.all_eq_true, Array.mem_toList_iff, Bool.or_eq_true, Bool.not_eq_true', Nat.blt_eq] at h1
    cases hl : L.getD i false with
    | true => rfl
    | false =>
      have : i ∈ Region.ready .any ops L := mem_ready.2 ⟨by
        have hiL : i < L.size := by omega
        simp only [Array.getD_eq_getD_getElem?, Array.getElem?_eq_getElem hiL, Option.getD_some] at hl ⊢
        exact hl, ops[i], Array.getElem?_eq_getElem hi, fun e he hbn => ih e.on (by
          rcases h1 e he with h | h
          · rw [hbn] at h; cases h
          · exact h) (by
          rcases h1 e he with h | h
          · rw [hbn] at h; cases h
          · omega)⟩
      rw [hr] at this; cases this
variable {i : Nat} {x : Op} {t : TypeId} {pos : String} {af : Array Edge} {d : Tmp}
theorem q_key (hK : ∀ D v w w', K D v w → CK w w' → K D v w') (hT : apart T = true) {ks : List Int} (hi : T[i]? = some (.key d ks)) (ho : ops[i]? = some ⟨some d, x, t, pos, af, none⟩) (hd : dOk n (some d) = true) (h0 : Nat.blt 0 i = true)
    (hr : ∀ e w, (execOp (ev e) ⟨some d, x, t, pos, af, none⟩).run P w = .ok (.value (.agg (vi ks))) w) : QK K P n N X ops T W0 i := by
  intro L e w ⟨r, es, clock, h⟩ hi' fuel hn
  exact O_val ho hd (hr e w) trivial (hn _ _ (h.step hK hT hi rfl (by simpa using h0) (Ext.refl _) (put_same _ _ _)))
theorem q_call (hK : ∀ D v w w', K D v w → CK w w' → K D v w') (hT : apart T = true) {D : α} (hi : T[i]? = some (.fn d D)) (ho : ops[i]? = some ⟨some d, x, t, pos, af, none⟩) (hd : dOk n (some d) = true) (h0 : Nat.blt 0 i = true)
    (hr : ∀ L e w, LI K T W0 L e w → i ∈ Region.ready .any ops L → ∃ f args, (execOp (ev e) ⟨some d, x, t, pos, af, none⟩).run P w = .ok (.enter f args) w ∧ Calls P f args w (fun en w' => ∃ v, en = .returned v ∧ K D v w' ∧ Ext w w')) : QK K P n N X ops T W0 i := by
  intro L e w hL hi' fuel hn
  obtain ⟨f, args, h1, h2⟩ := hr L e w hL hi'
  obtain ⟨r, es, clock, h⟩ := hL
  refine O_call ho hd h1 h2 fun v w' ⟨hv, he⟩ => ⟨trivial, hn _ _ (h.step hK hT hi rfl (by simpa using h0) he ?_)⟩
  show K D (put e d v d) w'
  rw [put_same]; exact hv
theorem q_make (hK : ∀ D v w w', K D v w → CK w w' → K D v w') (hT : apart T = true) {mt : TypeId} (hi : T[0]? = some (.mk d)) (hone : ((List.range T.length).all fun j => Nat.beq j 0 || !(Kd.isMk T[j]?)) = true) (ho : ops[0]? = some ⟨some d, .makeMap mt none, t, pos, af, none⟩) (hd : dOk n (some d) = true) : QK K P n N X ops T W0 0 := by
  intro L e w ⟨r, es, clock, h⟩ hi' fuel hn
  have h0l : 0 < L.size := by rw [h.size]; exact (List.getElem?_eq_some_iff.1 hi).1
  refine O_val ho hd r_makeMap trivial (hn _ _ (h.make hK hT hi (fun j d' hj => ?_) (ready_no hi' h0l)))
  have hjl : j < T.length := (List.getElem?_eq_some_iff.1 hj).1
  have := List.all_eq_true.1 hone j (List.mem_range.2 hjl)
  rw [hj] at this
  simpa [beq_eq, Kd.isMk] using this
theorem q_mv (hK : ∀ D v w w', K D v w → CK w w' → K D v w') (hT : apart T = true) {j : Nat} {d' : Tmp} (hi : T[i]? = some (.mv d)) (hj : T[j]? = some (.mk d') ∨ T[j]? = some (.mv d')) (ho : ops[i]? = some ⟨some d, x, t, pos, af, none⟩) (hd : dOk n (some d) = true) (h0 : Nat.blt 0 i = true)
    (hj0 : depOn ops i j = true) (h00 : depOn ops i 0 = true ∨ T[j]? = some (.mv d'))
    (hr : ∀ e w r, e d' = .map (some r) → (execOp (ev e) ⟨some d, x, t, pos, af, none⟩).run P w = .ok (.value (.map (some r))) w) : QK K P n N X ops T W0 i := by
  intro L e w ⟨r, es, clock, h⟩ hi' fuel hn
  have hl := ready_dep hi' hj0
  have hv : L.getD 0 false = true ∧ e d' = .map (some r) := by
    rcases hj with hj | hj
    · have := h.holds j _ hj hl
      rcases h00 with h00 | h00
      · exact ⟨ready_dep hi' h00, this⟩
      · rw [hj] at h00; cases h00
    · exact h.holds j _ hj hl
  refine O_val ho hd (hr e w r hv.2) trivial (hn _ _ (h.step hK hT hi rfl (by simpa using h0) (Ext.refl _) ⟨hv.1, put_same _ _ _⟩))
/-- An entry: its key has come, its value too. -/
theorem q_ins (hK : ∀ D v w w', K D v w → CK w w' → K D v w') (hT : apart T = true) {ks : List Int} {D : α} {m : Nat} {mt kt et : TypeId} {mx ky : Tmp} {vo : Operand} {kj : Nat} (hi : T[i]? = some (.ins ks D)) (ho : ops[i]? = some ⟨none, .insert mt (.tmp mx) (.tmp ky) vo, t, pos, af, none⟩) (h0 : Nat.blt 0 i = true)
    (h00 : T[0]? = some (.mk mx)) (hkk : T[kj]? = some (.key ky ks)) (hd0 : depOn ops i 0 = true) (hdk : depOn ops i kj = true)
    (hu : P.underlying mt = some (.map kt et)) (hk : intsOf P kt = some m) (hlen : ((List.range T.length).all fun j => Kd.len m T[j]?) = true)
    (hv : ∀ L e w, LI K T W0 L e w → i ∈ Region.ready .any ops L → K D (ev e vo) w) : QK K P n N X ops T W0 i := by
  intro L e w hL hi' fuel hn
  have hval := hv L e w hL hi'
  obtain ⟨r, es, clock, h⟩ := hL
  have hl0 := ready_dep hi' hd0
  have hlk := ready_dep hi' hdk
  have hil : i < T.length := (List.getElem?_eq_some_iff.1 hi).1
  have hno := ready_no hi' (by rw [h.size]; exact hil)
  have hlen' : ∀ (j : Nat) (k' : List Int) (D' : α), T[j]? = some (Kd.ins k' D') → k'.length = m := fun j k' D' hj => by
    have hjl : j < T.length := (List.getElem?_eq_some_iff.1 hj).1
    have := List.all_eq_true.1 hlen j (List.mem_range.2 hjl)
    rw [hj] at this
    exact Nat.eq_of_beq_eq_true this
  obtain ⟨_, hm⟩ := h.map hl0
  have hxm : e mx = .map (some r) := h.holds 0 _ h00 hl0
  have hxk : e ky = .agg (vi ks) := h.holds kj _ hkk hlk
  have m1 := apart_mark hT h00 rfl
  have m2 := apart_mark hT hkk rfl
  have ev1 : ev e (.tmp mx) = .map (some r) := by
    show (bif Nat.beq mx slotM then undef else e mx) = _
    rw [beq_eq, decide_eq_false m1]; exact hxm
  have ev2 : ev e (.tmp ky) = .agg (vi ks) := by
    show (bif Nat.beq ky slotM then undef else e ky) = _
    rw [beq_eq, decide_eq_false m2]; exact hxk
  refine O_unit ho (r_insert ev1 ev2 rfl hu hk (hlen' i _ _ hi) hm ?_ ?_) trivial (hn _ _ (h.insert (clock' := clock + 1) hK hT hi (by simpa using h0) hl0 (en := { key := .agg (vi ks), val := ev e vo, born := clock }) rfl hval))
  · intro en hen
    obtain ⟨j, ks', D', h1, h2, h3, h4⟩ := h.ents en hen
    exact ⟨ks', hlen' _ _ _ h1, h3⟩
  · intro en hen hq
    obtain ⟨j, ks', D', h1, h2, h3, h4⟩ := h.ents en hen
    rw [h3] at hq
    have hne : j ≠ i := by rintro rfl; rw [hno] at h2; cases h2
    exact apart_key hT h1 hi hne (vi_inj hq)
/-- What K tells of a function's value that has come. -/
theorem LI.fn {L : Array Bool} {e : Env} {w : World} (h : LI K T W0 L e w) {j : Nat} {D : α} (hT : apart T = true) (hj : T[j]? = some (.fn d D)) (hi : i ∈ Region.ready .any ops L) (hd : depOn ops i j = true) : K D (ev e (.tmp d)) w := by
  obtain ⟨r, es, clock, h⟩ := h
  have := h.holds j _ hj (ready_dep hi hd)
  have m1 := apart_mark hT hj rfl
  show K D (bif Nat.beq d slotM then undef else e d) w
  rw [beq_eq, decide_eq_false m1]; exact this
/-- What comes of the whole. -/
def LitDone (K : α → Value → World → Prop) (T : List (Kd α)) (W0 : World) (v : Value) (w : World) : Prop :=
  ∃ r es clock, v = .map (some r) ∧ w.heap[r]? = some (.map es clock) ∧ (∀ en ∈ es.toList, ∃ (i : Nat) (ks : List Int) (D : α), T[i]? = some (Kd.ins ks D) ∧ en.key = .agg (vi ks) ∧ K D en.val w) ∧ (∀ (i : Nat) (ks : List Int) (D : α), T[i]? = some (Kd.ins ks D) → ∃ en ∈ es.toList, en.key = .agg (vi ks))
def AllAt (Q : Nat → Prop) : Nat → Nat → Prop
  | _, 0 => True
  | k, c + 1 => Q k ∧ AllAt Q (Nat.succ k) c
theorem AllAt.get {Q : Nat → Prop} : ∀ {k c : Nat}, AllAt Q k c → ∀ i, k ≤ i → i < k + c → Q i
  | k, 0, _, i, h1, h2 => by omega
  | k, c + 1, h, i, h1, h2 => by
    by_cases hi : i = k
    · subst hi; exact h.1
    · exact h.2.get i (by simp; omega) (by simp; omega)
theorem W_lit {id : Nat} {l : List Oper} {k : Nat} {e : Env} {w : World} {d : Tmp} {q : Nat} (hm : P.follows .mixedOrders = true) (hk : l.toArray.size = k) (hTl : T.length = k) (hb : edgesBack l.toArray = true) (hq : T[q]? = some (.mv d)) (hmk : e slotM = undef)
    (hQ : AllAt (QK K P n N X l.toArray T w) 0 k)
    (hN : ∀ e' w', e' slotM = undef → Ext w w' → LitDone K T w (e' d) w' → N e' w') : W P n (.region id l.toArray true) N X e w := by
  refine W_draw anyW hm hk (A_inv (LI K T w) (fun L e' w' i hL hi fuel hn => ?_) (fun L e' w' hL hr => ?_) k _ _ _ ⟨0, #[], 0, by simp [hTl], ext_drawn w, hmk, ?_, ?_, ?_⟩ ?_)
  · exact hQ.get i (Nat.zero_le _) (by have := lt_ready hi; omega) L e' w' hL hi fuel hn
  · obtain ⟨r, es, clock, h⟩ := hL
    have hall := all_listed (by rw [h.size, hTl, hk]) hb hr
    have hll : ∀ j kd, T[j]? = some kd → L.getD j false = true := fun j kd hj => hall j (by
      have hjl : j < T.length := (List.getElem?_eq_some_iff.1 hj).1
      omega)
    obtain ⟨hl0, hed⟩ := h.holds q _ hq (hll q _ hq)
    refine hN e' w' h.mark h.ext ⟨r, es, clock, hed, (h.map hl0).2, fun en hen => ?_, fun i ks D hi => ?_⟩
    · obtain ⟨j, ks, D, h1, h2, h3, h4⟩ := h.ents en hen
      exact ⟨j, ks, D, h1, h3, h4⟩
    · exact (h.holds i _ hi (hll i _ hi)).2
  · intro j kd hj hl
    simp [Array.getD_eq_getD_getElem?, Array.getElem?_replicate] at hl
    split at hl <;> simp at hl
  · intro hl
    simp [Array.getD_eq_getD_getElem?, Array.getElem?_replicate] at hl
    split at hl <;> simp at hl
  · intro en hen; cases hen
  · rw [hk]; unfold unl; exact Nat.le_trans List.countP_le_length (by simp)
/-- What a key leads to. -/
def Kd.find (T : List (Kd α)) (xs : List Int) : Option α := match T with
  | [] => none
  | .ins ks D :: T => if ks = xs then some D else Kd.find T xs
  | _ :: T => Kd.find T xs
theorem find_some {xs : List Int} {D : α} : ∀ {T : List (Kd α)}, Kd.find T xs = some D → ∃ i : Nat, T[i]? = some (Kd.ins xs D)
  | [], h => by cases h
  | .ins ks D' :: T, h => by
    unfold Kd.find at h
    split at h
    · rename_i hq; cases h; subst hq; exact ⟨0, rfl⟩
    · obtain ⟨i, hi⟩ := find_some h; exact ⟨i + 1, by simpa using hi⟩
  | .mk _ :: T, h => by obtain ⟨i, hi⟩ := find_some (T := T) h; exact ⟨i + 1, by simpa using hi⟩
  | .key _ _ :: T, h => by obtain ⟨i, hi⟩ := find_some (T := T) h; exact ⟨i + 1, by simpa using hi⟩
  | .fn _ _ :: T, h => by obtain ⟨i, hi⟩ := find_some (T := T) h; exact ⟨i + 1, by simpa using hi⟩
  | .mv _ :: T, h => by obtain ⟨i, hi⟩ := find_some (T := T) h; exact ⟨i + 1, by simpa using hi⟩
theorem find_none {xs : List Int} : ∀ {T : List (Kd α)}, Kd.find T xs = none → ∀ (i : Nat) (D : α), T[i]? ≠ some (Kd.ins xs D)
  | [], _, i, D => by simp
  | .ins ks D' :: T, h, i, D => by
    unfold Kd.find at h
    split at h
    · cases h
    · rename_i hq
      cases i with
      | zero => intro q; simp at q; exact hq q.1
      | succ i => simpa using find_none h i D
  | .mk _ :: T, h, i, D => by cases i with | zero => simp | succ i => simpa using find_none (T := T) h i D
  | .key _ _ :: T, h, i, D => by cases i with | zero => simp | succ i => simpa using find_none (T := T) h i D
  | .fn _ _ :: T, h, i, D => by cases i with | zero => simp | succ i => simpa using find_none (T := T) h i D
  | .mv _ :: T, h, i, D => by cases i with | zero => simp | succ i => simpa using find_none (T := T) h i D
theorem lit_look (hT : apart T = true) {m : Nat} (hlen : ((List.range T.length).all fun j => Kd.len m T[j]?) = true) {v : Value} {w : World} (h : LitDone K T W0 v w) {mt kt et : TypeId} {zv : Value} (hu : P.underlying mt = some (.map kt et)) (hk : intsOf P kt = some m) (hzv : (P.info? et).bind (·.zero) = some zv) (xs : List Int) (hl : xs.length = m) :
    ∃ val, (∀ D, Kd.find T xs = some D → K D val w) ∧ ∀ {ρ : Operand → Value} {d : Option Tmp} {t : TypeId} {pos : String} {af : Array Edge} {g : Option (Nat × Bool)} {x y : Operand}, ρ x = v → ρ y = .agg (vi xs) →
      (execOp ρ ⟨d, .lookup mt x y true, t, pos, af, g⟩).run P w = .ok (.value (.tuple #[val, .bool (Kd.find T xs).isSome])) w := by
  obtain ⟨r, es, clock, rfl, hm, hall, hex⟩ := h
  have hlen' : ∀ (j : Nat) (k' : List Int) (D' : α), T[j]? = some (Kd.ins k' D') → k'.length = m := fun j k' D' hj => by
    have hjl : j < T.length := (List.getElem?_eq_some_iff.1 hj).1
    have := List.all_eq_true.1 hlen j (List.mem_range.2 hjl)
    rw [hj] at this
    exact Nat.eq_of_beq_eq_true this
  have hkeys : ∀ e ∈ es.toList, ∃ l : List Int, l.length = m ∧ e.key = .agg (vi l) := fun e he => by
    obtain ⟨i, ks, D, h1, h2, h3⟩ := hall e he
    exact ⟨ks, hlen' _ _ _ h1, h2⟩
  have hg : (getObj r).run P w = .ok (.map es clock) w := by simp [getObj, Sem.run, hm]
  have hc := run_checkKey_ints (P := P) (w := w) hk hl es.isEmpty
  cases hf : Kd.find T xs with
  | none =>
    have hno : ∀ e ∈ es.toList, e.key ≠ .agg (vi xs) := fun e he hq => by
      obtain ⟨i, ks, D, h1, h2, h3⟩ := hall e he
      rw [h2] at hq
      have := vi_inj hq
      subst this
      exact find_none hf i D h1
    refine ⟨zv, (fun D q => by cases q), ?_⟩
    intro ρ d t pos af g x y hx hy
    exact r_lookup_none hx hy hu hk hl hzv hm hkeys hno
  | some D =>
    obtain ⟨i, hi⟩ := find_some hf
    obtain ⟨en, hen, hek⟩ := hex i xs D hi
    obtain ⟨j, e', hj1, hj2, hj3⟩ : ∃ j e', (Instr.findKey kt (.agg (vi xs)) es.toList).run P w = .ok (some (j, e'.val)) w ∧ e' ∈ es.toList ∧ e'.key = .agg (vi xs) := by
      rcases run_findKey_ints (P := P) (w := w) hk hl es.toList hkeys with ⟨_, h1⟩ | h1
      · exact absurd hek (h1 en hen)
      · exact h1
    refine ⟨e'.val, (fun D' q => ?_), ?_⟩
    · cases q
      obtain ⟨i', ks, D2, h1, h2, h3⟩ := hall e' hj2
      rw [h2] at hj3
      have := vi_inj hj3
      subst this
      by_cases hii : i' = i
      · subst hii; rw [hi] at h1; cases h1; exact h3
      · exact absurd rfl (apart_key hT h1 hi hii)
    · intro ρ d t pos af g x y hx hy
      have hmm : (Instr.lookup mt (.map (some r)) (.agg (vi xs)) true).run P w = .ok (.tuple #[e'.val, .bool true]) w := by
        unfold Instr.lookup
        simp only [Sem.run_bind, run_underlying hu, Result.andThen_ok, hg, hc, hj1, Sem.run_pure, if_true]
      simp [execOp, hx, hy, hmm]
end
end Go.Eng
