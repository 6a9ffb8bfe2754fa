/-
  The engine: weakest preconditions over a frame that is a function from slots to values. Generic: no program.
-/
import Derived.Test.YtmedmajdoecjfaaDoorHeld
namespace Go.Eng
set_option linter.unusedVariables false
set_option linter.unusedSimpArgs false

abbrev Env := Nat → Value

def put (e : Env) (d : Nat) (v : Value) : Env := fun i => bif Nat.beq i d then v else e i
def putO (e : Env) : Option Tmp → Value → Env
  | some d, v => put e d v
  | none, _ => e
def ent : List Value → Env
  | [], _ => undef
  | v :: _, 0 => v
  | _ :: l, i + 1 => ent l i
/-- One slot more than any function has: what the frame is (a round's, by its loop), and which loops over functions it has entered. -/
abbrev slotM : Nat := 1000000007
def marks : Value → List Deferred
  | .tuple vs => vs.toList.map fun v => { target := .collected (match v with | .int _ D => D.toNat | _ => 0), args := #[] }
  | _ => []
def roOf : Value → Option Nat
  | .int _ l => some l.toNat
  | _ => none
def ev (e : Env) : Operand → Value
  | .tmp t => bif Nat.beq t slotM then undef else e t
  | .const v => v
  | .global g => .pointer (some ⟨g, 0, none⟩)
  | .func f => .func (.func f) #[] #[]

structure Rel (ro : Option Nat) (n : Nat) (e : Env) (a : Act) : Prop where
  size : a.tmps.size = n
  lt : n ≤ slotM
  get : ∀ i, i ≠ slotM → a.tmps.getD i undef = e i
  defers : a.defers = marks (e slotM)
  ro : roOf (e slotM) = ro

theorem beq_eq (i d : Nat) : Nat.beq i d = decide (i = d) := by
  by_cases h : i = d
  · subst h; simp
  · have : Nat.beq i d = false := by
      cases hb : Nat.beq i d
      · rfl
      · exact absurd (Nat.eq_of_beq_eq_true hb) h
    simp [h, this]

theorem Rel.eval {ro : Option Nat} {n : Nat} {e : Env} {a : Act} (h : Rel ro n e a) : a.eval = ev e := by
  funext x
  cases x with
  | tmp t =>
    show a.tmps.getD t undef = bif Nat.beq t slotM then undef else e t
    by_cases ht : t = slotM
    · subst ht
      have h1 := h.size
      have h2 := h.lt
      simp [Array.getD_eq_getD_getElem?, Array.getElem?_eq_none (by omega : a.tmps.size ≤ slotM)]
    · have : Nat.beq t slotM = false := by rw [beq_eq]; simp [ht]
      rw [this]
      exact h.get t ht
  | _ => rfl
theorem Rel.at {ro : Option Nat} {n : Nat} {e : Env} {a : Act} (h : Rel ro n e a) {d : Nat} (hd : d < n) : a.tmps.getD d undef = e d := h.get d (by have := h.lt; omega)

theorem put_same (e : Env) (d : Nat) (v : Value) : put e d v d = v := by simp [put]
theorem put_ne (e : Env) (d i : Nat) (v : Value) (h : i ≠ d) : put e d v i = e i := by
  have : Nat.beq i d = false := by simp [beq_eq, h]
  simp only [put, this, cond_false]

/-! Slots in D alone differ. -/
def mem (i : Nat) : List Nat → Bool
  | [] => false
  | d :: l => bif Nat.beq i d then true else mem i l
def mix (D : List Nat) (g e : Env) : Env := fun i => bif mem i D then g i else e i
def Out (D : List Nat) (e' e : Env) : Prop := ∀ i, mem i D = false → e' i = e i
theorem Out.refl (D : List Nat) (e : Env) : Out D e e := fun _ _ => rfl
theorem Out.mix {D : List Nat} {g e : Env} : Out D (Eng.mix D g e) e := fun i hi => by simp only [Eng.mix, hi, cond_false]
theorem Out.put {D : List Nat} {e' e : Env} {d : Nat} {v : Value} (hd : mem d D = true) (h : Out D e' e) : Out D (Eng.put e' d v) e := fun i hi => by
  rw [put_ne _ _ _ _ (by rintro rfl; rw [hd] at hi; cases hi)]
  exact h i hi
def sub (l D : List Nat) : Bool := l.all fun i => mem i D
theorem mem_iff {i : Nat} {l : List Nat} : mem i l = true ↔ i ∈ l := by
  induction l with
  | nil => simp [mem]
  | cons d l ih =>
    simp only [mem, List.mem_cons, beq_eq]
    by_cases h : i = d
    · simp [h]
    · simp [h, ih]
theorem Out.mixin {D D' : List Nat} {g e' e : Env} (hs : sub D' D = true) (h : Out D e' e) : Out D (Eng.mix D' g e') e := fun i hi => by
  have : mem i D' = false := by
    cases hm : mem i D' with
    | false => rfl
    | true =>
      have := (List.all_eq_true.1 hs) i (mem_iff.1 hm)
      rw [this] at hi; cases hi
  simp only [Eng.mix, this, cond_false]
  exact h i hi
theorem Out.mix_eq {D : List Nat} {e' e : Env} (h : Out D e' e) : Eng.mix D e' e = e' := by
  funext i
  cases hm : mem i D with
  | true => simp only [Eng.mix, hm, cond_true]
  | false => simp only [Eng.mix, hm, cond_false]; exact (h i hm).symm

def dOk (n : Nat) : Option Tmp → Bool
  | some d => Nat.blt d n
  | none => true

theorem Rel.put {ro : Option Nat} {n : Nat} {e : Env} {a : Act} (h : Rel ro n e a) {d : Option Tmp} (hd : dOk n d = true) (v : Value) : Rel ro n (putO e d v) (a.put d v) := by
  cases d with
  | none => exact h
  | some d =>
    have hd' : d < n := by simp only [dOk, Nat.blt_eq] at hd; exact hd
    have hlt := h.lt
    have hmk : putO e (some d) v slotM = e slotM := put_ne e d slotM v (fun hh => Nat.lt_irrefl d (Nat.lt_of_lt_of_le hd' (hh ▸ hlt)))
    refine ⟨?_, h.lt, ?_, by rw [hmk]; exact h.defers, by rw [hmk]; exact h.ro⟩
    · simp [Act.put, h.size]
    · intro i hik
      have hg := h.get i hik
      have hs := h.size
      by_cases hi : i = d
      · subst hi
        have hlt : i < a.tmps.size := by rw [hs]; exact hd'
        simp [Act.put, putO, Eng.put, hlt]
      · have hne : ¬ d = i := fun e => hi e.symm
        show (a.tmps.setIfInBounds d v).getD i undef = putO e (some d) v i
        simp only [putO, put_ne e d i v hi]
        rw [← hg]
        simp [hne]

theorem ent_eq (l : List Value) : ∀ i, ent l i = l[i]?.getD undef := by
  induction l with
  | nil => intro i; simp [ent]
  | cons v l ih =>
    intro i
    cases i with
    | zero => simp [ent]
    | succ i => simp [ent, ih]

theorem ent_slotM (l : List Value) (h : l.length ≤ slotM) : ent l slotM = undef := by rw [ent_eq, List.getElem?_eq_none h]; rfl
theorem Rel.entry (l : List Value) (n : Nat) (h : l.length ≤ n) (hk : n ≤ slotM) : Rel none n (ent l) { tmps := l.toArray ++ Array.replicate (n - l.toArray.size) undef, defers := [] } := by
  have hm := ent_slotM l (Nat.le_trans h hk)
  refine ⟨?_, hk, ?_, by rw [hm]; rfl, by rw [hm]; rfl⟩
  · simp; omega
  · intro i _
    rw [ent_eq]
    simp only [Array.getD_eq_getD_getElem?, Array.getElem?_append, Array.getElem?_replicate]
    by_cases hi : i < l.length
    · simp [hi]
    · simp [hi]
      split <;> simp

/-- What is asked at a piece of code's end: normally, or by another way. -/
def lift (ro : Option Nat) (n : Nat) (N : Env → World → Prop) (X : Exit → Env → World → Prop) : Exit → Act → World → Prop
  | .normal, a, w => ∃ e, Rel ro n e a ∧ N e w
  | .panic _, _, _ => False
  | .outgrown, _, _ => False
  | x, a, w => ∃ e, Rel ro n e a ∧ X x e w

def W (P : Program) (n : Nat) (c : Code) (N : Env → World → Prop) (X : Exit → Env → World → Prop) (e : Env) (w : World) : Prop :=
  ∀ ro a, Rel ro n e a → c.wpIn (fen ro) 0 P (lift ro n N X) a w

def WL (P : Program) (n : Nat) (ops : Array Oper) (N : Env → World → Prop) (X : Exit → Env → World → Prop) (l : List Oper) (e : Env) (w : World) : Prop :=
  ∀ ro a, Rel ro n e a → wpListIn (fen ro) 0 P ops (lift ro n N X) l a w

section rules
variable {P : Program} {n : Nat} {N : Env → World → Prop} {X : Exit → Env → World → Prop} {e : Env} {w : World}

theorem W_seq {x y : Code} (h : W P n x (fun e w => W P n y N X e w) X e w) : W P n (.seq x y) N X e w := by
  intro ro a ha
  refine wpIn_seq (wpIn_mono (h ro a ha) ?_)
  intro ex a w hq
  cases ex with
  | normal => obtain ⟨e, he, hn⟩ := hq; exact hn ro a he
  | panic c => exact hq
  | outgrown => exact hq
  | _ => exact hq
theorem W_skip (h : N e w) : W P n .skip N X e w := fun ro a ha => wpIn_skip ⟨e, ha, h⟩
theorem W_label {l : Nat} (h : N e w) : W P n (.label l) N X e w := fun ro a ha => wpIn_label ⟨e, ha, h⟩
theorem W_exit {id : Nat} (h : X (.exit id) e w) : W P n (.exit id) N X e w := fun ro a ha => wpIn_exit ⟨e, ha, h⟩
theorem W_goto {l : Nat} (h : X (.goto l) e w) : W P n (.goto l) N X e w := fun ro a ha => wpIn_goto ⟨e, ha, h⟩
theorem W_ret (h : X .ret e w) : W P n .ret N X e w := fun ro a ha => wpIn_ret ⟨e, ha, h⟩
theorem W_cond {c : Operand} {x y : Code} {t : Bool} (hc : ev e c = .bool t) (h : W P n (if t then x else y) N X e w) : W P n (.cond c x y) N X e w :=
  fun ro a ha => wpIn_cond (by rw [ha.eval]; exact hc) (h ro a ha)
theorem W_then {c : Operand} {x y : Code} (hc : ev e c = .bool true) (h : W P n x N X e w) : W P n (.cond c x y) N X e w := W_cond hc h
theorem W_else {c : Operand} {x y : Code} (hc : ev e c = .bool false) (h : W P n y N X e w) : W P n (.cond c x y) N X e w := W_cond hc h
theorem W_ifp {c : Operand} {x y : Code} {p : Prop} {dp : Decidable p} (hc : ev e c = .bool (@decide p dp)) (h1 : p → W P n x N X e w) (h2 : ¬ p → W P n y N X e w) : W P n (.cond c x y) N X e w := by
  by_cases h : p
  · exact W_cond hc (by simpa [h] using h1 h)
  · exact W_cond hc (by simpa [h] using h2 h)
theorem W_if {c : Operand} {x y : Code} {t : Bool} (hc : ev e c = .bool t) (h1 : t = true → W P n x N X e w) (h2 : t = false → W P n y N X e w) : W P n (.cond c x y) N X e w := by
  cases t
  · exact W_cond hc (h2 rfl)
  · exact W_cond hc (h1 rfl)

def blk (id : Nat) (N : Env → World → Prop) (X : Exit → Env → World → Prop) : Exit → Env → World → Prop
  | .exit id', e, w => bif Nat.beq id' id then N e w else X (.exit id') e w
  | x, e, w => X x e w
theorem W_block {id : Nat} {c : Code} (h : W P n c N (blk id N X) e w) : W P n (.block id c) N X e w := by
  intro ro a ha
  refine wpIn_block (wpIn_mono (h ro a ha) ?_)
  intro ex a w hq
  cases ex with
  | exit id' =>
    obtain ⟨e, he, hb⟩ := hq
    simp only [blk] at hb
    simp only [Exit.inBlock]
    by_cases hi : id' = id
    · subst hi
      simp at hb
      simp
      exact ⟨e, he, hb⟩
    · have : Nat.beq id' id = false := by simp [beq_eq, hi]
      rw [this] at hb
      simp only [cond_false] at hb
      rw [if_neg hi]
      exact ⟨e, he, hb⟩
  | normal => exact hq
  | panic c => exact hq
  | outgrown => exact hq
  | _ => obtain ⟨e, he, hb⟩ := hq; exact ⟨e, he, hb⟩
theorem blk_hit {id : Nat} (h : N e w) : blk id N X (.exit id) e w := by simpa [blk] using h
theorem blk_miss {id id' : Nat} (hn : Nat.beq id' id = false) (h : X (.exit id') e w) : blk id N X (.exit id') e w := by simpa [blk, hn] using h
theorem blk_ret {id : Nat} (h : X .ret e w) : blk id N X .ret e w := h
theorem blk_goto {id l : Nat} (h : X (.goto l) e w) : blk id N X (.goto l) e w := h

theorem W_loop0 {c : Code} (I : Nat → Env → World → Prop) (k : Nat) (h₀ : I k e w)
    (round : ∀ k e w, I k e w → W P n c (fun e' w' => ∃ k', k' < k ∧ I k' e' w') X e w) : W P n (.loop c) N X e w := by
  intro ro a ha
  refine wpIn_loop_ghost (fun k a w => ∃ e, Rel ro n e a ∧ I k e w) k ⟨e, ha, h₀⟩ ?_
  intro k a w hI
  obtain ⟨e, he, hi⟩ := hI
  refine wpIn_mono (round k e w hi ro a he) ?_
  intro ex a w hq
  cases ex with
  | normal => obtain ⟨e, he, k', hk, hi⟩ := hq; exact ⟨k', hk, e, he, hi⟩
  | panic c => exact hq
  | outgrown => exact hq
  | _ => exact hq

theorem W_mono {c : Code} {N' : Env → World → Prop} {X' : Exit → Env → World → Prop} (h : W P n c N X e w) (hN : ∀ e w, N e w → N' e w) (hX : ∀ x e w, X x e w → X' x e w) : W P n c N' X' e w := by
  intro ro a ha
  refine wpIn_mono (h ro a ha) ?_
  intro ex a w hq
  cases ex with
  | normal => obtain ⟨e, he, hn⟩ := hq; exact ⟨e, he, hN _ _ hn⟩
  | panic c => exact hq
  | outgrown => exact hq
  | _ => obtain ⟨e, he, hn⟩ := hq; exact ⟨e, he, hX _ _ _ hn⟩

/-- A loop whose rounds write the slots in D alone: R tells what holds at a round's head, when k rounds at most are still to come. -/
theorem W_loop {c : Code} (D : List Nat) (R : Nat → Env → World → Prop) (k : Nat) (h₀ : R k e w)
    (round : ∀ k g w', R k g w' → W P n c (fun e' w'' => (∃ k', k' < k ∧ R k' e' w'') ∧ Out D e' e) X (mix D g e) w') : W P n (.loop c) N X e w := by
  refine W_loop0 (fun k e' w' => R k e' w' ∧ Out D e' e) k ⟨h₀, Out.refl _ _⟩ ?_
  intro k g w' ⟨hR, hO⟩
  have := round k g w' hR
  rw [hO.mix_eq] at this
  refine W_mono this ?_ (fun _ _ _ h => h)
  rintro e' w'' ⟨⟨k', hk, hR'⟩, hO'⟩
  exact ⟨k', hk, hR', hO'⟩
/-- What holds between two pieces of code. -/
theorem W_cut {x y : Code} (D : List Nat) (J : Env → World → Prop) (h : W P n x (fun e' w' => J e' w' ∧ Out D e' e) X e w)
    (h2 : ∀ g w', J g w' → W P n y N X (mix D g e) w') : W P n (.seq x y) N X e w := by
  refine W_seq (W_mono h ?_ (fun _ _ _ h => h))
  rintro g w' ⟨hJ, hO⟩
  have := h2 g w' hJ
  rwa [hO.mix_eq] at this
/-- The value of a slot, written out. -/
theorem W_set {c : Code} {i : Nat} {v : Value} (hv : e i = v) (h : W P n c N X (put e i v) w) : W P n c N X e w := by
  have : put e i v = e := by
    funext j
    by_cases hj : j = i
    · subst hj; rw [put_same, hv]
    · rw [put_ne _ _ _ _ hj]
  rwa [this] at h

theorem W_region {id : Nat} {l : List Oper} (h : WL P n l.toArray N X l e w) : W P n (.region id l.toArray false) N X e w :=
  fun ro a ha => wpIn_region_lit (h ro a ha)

theorem WL_nil {ops : Array Oper} (h : N e w) : WL P n ops N X [] e w := fun _ _ ha => wpListIn_nil ⟨e, ha, h⟩

theorem wp_of_run {ro : Option Nat} {o : Oper} {a : Act} {K : Act → World → Prop} {Q : Exit → Act → World → Prop} {w w' : World} {v : Value}
    (hr : (execOp a.eval o).run P w = .ok (.value v) w') (h : K (a.put o.dst v) w') : o.wpIn (fen ro) 0 P a w K Q := by
  refine ⟨fun _ _ => trivial, ?_⟩
  rw [semAt_run hr (by simp)]
  exact h
theorem wp_of_skip {ro : Option Nat} {o : Oper} {a : Act} {K : Act → World → Prop} {Q : Exit → Act → World → Prop} {w w' : World}
    (hr : (execOp a.eval o).run P w = .ok .skip w') (h : K (a.put o.dst undef) w') : o.wpIn (fen ro) 0 P a w K Q := by
  refine ⟨fun _ _ => trivial, ?_⟩
  rw [semAt_run hr (by simp)]
  exact h
theorem wp_of_call {ro : Option Nat} {o : Oper} {a : Act} {K : Act → World → Prop} {Q : Exit → Act → World → Prop} {w w₁ : World} {f : FuncId} {args : Array Value} {R : Ending → World → Prop}
    (hr : (execOp a.eval o).run P w = .ok (.enter f args) w₁) (hc : Calls P f args w₁ R) (h : ∀ en w', R en w' → ∃ v, en = .returned v ∧ K (a.put o.dst v) w') : o.wpIn (fen ro) 0 P a w K Q := by
  refine ⟨fun _ _ => trivial, ?_⟩
  rw [semAt_run hr (by simp)]
  refine ⟨fun q => by simp [fen, Fence.wide] at q, callsIn_fen.2 (hc.mono ?_)⟩
  intro en w' hR
  obtain ⟨v, rfl, hw⟩ := h en w' hR
  exact hw

/-- An operation without a guard that yields a value. -/
theorem op {ops : Array Oper} {rest : List Oper} {d : Option Tmp} {x : Op} {t : TypeId} {pos : String} {af : Array Edge} {v : Value} {w' : World}
    (hd : dOk n d = true) (hr : (execOp (ev e) ⟨d, x, t, pos, af, none⟩).run P w = .ok (.value v) w')
    (h : WL P n ops N X rest (putO e d v) w') : WL P n ops N X (⟨d, x, t, pos, af, none⟩ :: rest) e w := by
  intro ro a ha
  refine wpListIn_plain rfl fun K hK => ?_
  refine wp_of_run (v := v) (w' := w') (by rw [ha.eval]; exact hr) ?_
  exact hK _ _ (h _ _ (ha.put hd v))
theorem opU {ops : Array Oper} {rest : List Oper} {x : Op} {t : TypeId} {pos : String} {af : Array Edge} {w' : World}
    (hr : (execOp (ev e) ⟨none, x, t, pos, af, none⟩).run P w = .ok .skip w')
    (h : WL P n ops N X rest e w') : WL P n ops N X (⟨none, x, t, pos, af, none⟩ :: rest) e w := by
  intro ro a ha
  refine wpListIn_plain rfl fun K hK => ?_
  refine wp_of_skip (w' := w') (by rw [ha.eval]; exact hr) ?_
  exact hK _ _ (h _ _ ha)
/-- A call. -/
theorem opC {ops : Array Oper} {rest : List Oper} {d : Option Tmp} {x : Op} {t : TypeId} {pos : String} {af : Array Edge} {f : FuncId} {args : Array Value} {w₁ : World} {R : Ending → World → Prop}
    (hd : dOk n d = true) (hr : (execOp (ev e) ⟨d, x, t, pos, af, none⟩).run P w = .ok (.enter f args) w₁)
    (hc : Calls P f args w₁ R)
    (h : ∀ en w', R en w' → ∃ v, en = .returned v ∧ WL P n ops N X rest (putO e d v) w') : WL P n ops N X (⟨d, x, t, pos, af, none⟩ :: rest) e w := by
  intro ro a ha
  refine wpListIn_plain rfl fun K hK => ?_
  refine wp_of_call (by rw [ha.eval]; exact hr) hc ?_
  intro en w' hR
  obtain ⟨v, rfl, hw⟩ := h en w' hR
  exact ⟨v, rfl, hK _ _ (hw _ _ (ha.put hd v))⟩
/-- The same where the result is written out. -/
theorem opCv {ops : Array Oper} {rest : List Oper} {d : Option Tmp} {x : Op} {t : TypeId} {pos : String} {af : Array Edge} {f : FuncId} {args : Array Value} {w₁ : World} {R : Value → World → Prop}
    (hd : dOk n d = true) (hr : (execOp (ev e) ⟨d, x, t, pos, af, none⟩).run P w = .ok (.enter f args) w₁)
    (hc : Calls P f args w₁ (fun en w' => ∃ v, en = .returned v ∧ R v w'))
    (h : ∀ v w', R v w' → WL P n ops N X rest (putO e d v) w') : WL P n ops N X (⟨d, x, t, pos, af, none⟩ :: rest) e w :=
  opC hd hr hc fun _ w' ⟨v, he, hR⟩ => ⟨v, he, h v w' hR⟩

/-- An operation with a guard: the guard's own value is known. -/
theorem opG {ops : Array Oper} {rest : List Oper} {d : Option Tmp} {x : Op} {t : TypeId} {pos : String} {af : Array Edge} {j : Nat} {want : Bool} {dj : Tmp} {b : Bool} {v : Value} {w' : World}
    (hj : (ops[j]?).bind (·.dst) = some dj) (hjn : Nat.blt dj n = true) (hb : e dj = .bool b)
    (hd : dOk n d = true)
    (hyes : b = want → (execOp (ev e) ⟨d, x, t, pos, af, some (j, want)⟩).run P w = .ok (.value v) w' ∧ WL P n ops N X rest (putO e d v) w')
    (hno : b ≠ want → WL P n ops N X rest (putO e d undef) w) : WL P n ops N X (⟨d, x, t, pos, af, some (j, want)⟩ :: rest) e w := by
  intro ro a ha
  have hlt : dj < a.tmps.size := by rw [ha.size]; simpa [Nat.blt_eq] using hjn
  have hy : yielded ops a.tmps j = some b := by
    unfold yielded
    have hg := ha.at (d := dj) (by simpa [Nat.blt_eq] using hjn)
    simp [hlt, hb] at hg
    simp [hj, hlt, hg]
  refine wpListIn_step fun K hK => ?_
  have hwt : Region.wanted ⟨d, x, t, pos, af, some (j, want)⟩ (yielded ops a.tmps) = (b == want) := by
    simp only [Region.wanted, hy]
    cases b <;> cases want <;> rfl
  rw [hwt]
  by_cases hbw : b = want
  · obtain ⟨h1, h2⟩ := hyes hbw
    simp only [hbw, beq_self_eq_true, if_true]
    refine wp_of_run (v := v) (w' := w') (by rw [ha.eval]; exact h1) ?_
    exact hK _ _ (h2 _ _ (ha.put hd v))
  · have : (b == want) = false := by simpa using hbw
    rw [this]
    simp only [Bool.false_eq_true, if_false]
    exact ⟨fun _ _ => trivial, hK _ _ (hno hbw _ _ (ha.put hd undef))⟩
theorem opG_no {ops : Array Oper} {rest : List Oper} {d : Option Tmp} {x : Op} {t : TypeId} {pos : String} {af : Array Edge} {j : Nat} {want : Bool} {dj : Tmp} {b : Bool}
    (hj : (ops[j]?).bind (·.dst) = some dj) (hjn : Nat.blt dj n = true) (hb : e dj = .bool b)
    (hd : dOk n d = true) (hne : (b == want) = false)
    (h : WL P n ops N X rest (putO e d undef) w) : WL P n ops N X (⟨d, x, t, pos, af, some (j, want)⟩ :: rest) e w := by
  intro ro a ha
  have hlt : dj < a.tmps.size := by rw [ha.size]; simpa [Nat.blt_eq] using hjn
  have hy : yielded ops a.tmps j = some b := by
    unfold yielded
    have hg := ha.at (d := dj) (by simpa [Nat.blt_eq] using hjn)
    simp [hlt, hb] at hg
    simp [hj, hlt, hg]
  refine wpListIn_step fun K hK => ?_
  have hwt : Region.wanted ⟨d, x, t, pos, af, some (j, want)⟩ (yielded ops a.tmps) = (b == want) := by
    simp only [Region.wanted, hy]
    cases b <;> cases want <;> rfl
  rw [hwt, hne]
  simp only [Bool.false_eq_true, if_false]
  exact ⟨fun _ _ => trivial, hK _ _ (h _ _ (ha.put hd undef))⟩
theorem opG_yes {ops : Array Oper} {rest : List Oper} {d : Option Tmp} {x : Op} {t : TypeId} {pos : String} {af : Array Edge} {j : Nat} {want : Bool} {dj : Tmp} {b : Bool} {v : Value} {w' : World}
    (hj : (ops[j]?).bind (·.dst) = some dj) (hjn : Nat.blt dj n = true) (hb : e dj = .bool b)
    (hd : dOk n d = true) (he : (b == want) = true)
    (hr : (execOp (ev e) ⟨d, x, t, pos, af, some (j, want)⟩).run P w = .ok (.value v) w')
    (h : WL P n ops N X rest (putO e d v) w') : WL P n ops N X (⟨d, x, t, pos, af, some (j, want)⟩ :: rest) e w := by
  have hbw : b = want := by simpa using he
  exact opG hj hjn hb hd (fun _ => ⟨hr, h⟩) (fun hn => absurd hbw hn)
theorem opGC_yes {ops : Array Oper} {rest : List Oper} {d : Option Tmp} {x : Op} {t : TypeId} {pos : String} {af : Array Edge} {j : Nat} {want : Bool} {dj : Tmp} {b : Bool} {f : FuncId} {args : Array Value} {w₁ : World} {R : Ending → World → Prop}
    (hj : (ops[j]?).bind (·.dst) = some dj) (hjn : Nat.blt dj n = true) (hb : e dj = .bool b)
    (hd : dOk n d = true) (he : (b == want) = true)
    (hr : (execOp (ev e) ⟨d, x, t, pos, af, some (j, want)⟩).run P w = .ok (.enter f args) w₁)
    (hc : Calls P f args w₁ R)
    (h : ∀ en w', R en w' → ∃ v, en = .returned v ∧ WL P n ops N X rest (putO e d v) w') : WL P n ops N X (⟨d, x, t, pos, af, some (j, want)⟩ :: rest) e w := by
  have hbw : b = want := by simpa using he
  intro ro a ha
  have hlt : dj < a.tmps.size := by rw [ha.size]; simpa [Nat.blt_eq] using hjn
  have hy : yielded ops a.tmps j = some b := by
    unfold yielded
    have hg := ha.at (d := dj) (by simpa [Nat.blt_eq] using hjn)
    simp [hlt, hb] at hg
    simp [hj, hlt, hg]
  refine wpListIn_step fun K hK => ?_
  have hwt : Region.wanted ⟨d, x, t, pos, af, some (j, want)⟩ (yielded ops a.tmps) = true := by
    simp only [Region.wanted, hy, hbw]
    cases want <;> rfl
  rw [hwt]
  simp only [if_true]
  refine wp_of_call (by rw [ha.eval]; exact hr) hc ?_
  intro en w' hR
  obtain ⟨v, rfl, hw⟩ := h en w' hR
  exact ⟨v, rfl, hK _ _ (hw _ _ (ha.put hd v))⟩
end rules

/-! The function as a whole. -/
/-- The loops over functions that were entered are shut. -/
def shut (P : Program) : List Deferred → World → World → Prop
  | [], w, w' => w' = w
  | d :: ds, w, w'' => ∃ r w', d.target = .collected r ∧ (Instr.takeDeferred r).run P w = .ok [] w' ∧ shut P ds w' w''
def fin (P : Program) (rs : Array ResultVar) (R : Ending → World → Prop) (e : Env) (w : World) : Prop :=
  ∃ w', shut P (marks (e slotM)) w w' ∧ ∀ tmps : Array Value, (∀ i, i ≠ slotM → tmps.getD i undef = e i) → ∃ v, (do
    let vs ← rs.mapM fun
      | .tmp t => pure (tmps.getD t undef)
      | .cell a t => do loadVar t (← asAddr (tmps.getD a undef))
    pure (if h : vs.size = 1 then vs[0] else .tuple vs) : Sem Value).run P w' = .ok v w' ∧ R (.returned v) w'
def finX (P : Program) (rs : Array ResultVar) (R : Ending → World → Prop) : Exit → Env → World → Prop
  | .ret, e, w => fin P rs R e w
  | _, _, _ => False

theorem leaves_of_shut {P : Program} {fn : Func} {tmps : Array Value} {R : Ending → World → Prop} {F : Fence} {n : Nat} : ∀ (ds : List Deferred) (w w' : World), shut P ds w w' → (∃ v, (results fn tmps).run P w' = .ok v w' ∧ R (.returned v) w') → LeavesInM F n P fn tmps R ds .returning w
  | [], w, w', h, hv => by cases h; exact hv
  | d :: ds, w, w'', ⟨r, w', h1, h2, h3⟩, hv => ⟨by simp, Or.inl ⟨r, w', h1, h2, leaves_of_shut ds w' w'' h3 hv⟩⟩

theorem calls {P : Program} {f : FuncId} {fn : Func} {c : Code} {args : List Value} {w : World} {R : Ending → World → Prop}
    (hf : P.funcs[f]? = some fn) (hb : fn.body = some c) (hn : Nat.ble args.length fn.ntmps = true) (hk : Nat.ble fn.ntmps slotM = true)
    (h : W P fn.ntmps c (fin P fn.results R) (finX P fn.results R) (ent args) w) : Calls P f args.toArray w R := by
  refine (callsIn_fen (ro := none) (n := 0)).1 (callsIn_of_wp_marks hf hb trivial ?_ rfl)
  refine wpIn_mono (h none _ (Rel.entry args fn.ntmps (by simpa using hn) (by simpa using hk))) ?_
  intro ex a w hq
  cases ex with
  | normal =>
    obtain ⟨e, he, w', hs, hN⟩ := hq
    show LeavesInM _ _ _ _ _ _ _ _ _
    rw [he.defers]
    exact leaves_of_shut _ _ _ hs (hN a.tmps he.get)
  | ret =>
    obtain ⟨e, he, w', hs, hN⟩ := hq
    show LeavesInM _ _ _ _ _ _ _ _ _
    rw [he.defers]
    exact leaves_of_shut _ _ _ hs (hN a.tmps he.get)
  | panic c => exact hq.elim
  | outgrown => exact hq.elim
  | exit _ => obtain ⟨e, he, hN⟩ := hq; exact hN.elim
  | goto _ => obtain ⟨e, he, hN⟩ := hq; exact hN.elim

theorem calls' {P : Program} {f : FuncId} {fn : Func} {c : Code} {l : List Value} {w : World} {n : Nat} {rs : Array ResultVar} {R : Ending → World → Prop}
    (hf : P.funcs[f]? = some fn) (hb : fn.body = some c) (hn : fn.ntmps = n) (hr : fn.results = rs) (hl : Nat.ble l.length n = true) (hk : Nat.ble n slotM = true)
    (h : W P n c (fin P rs R) (finX P rs R) (ent l) w) : Calls P f l.toArray w R := by
  subst hn; subst hr
  exact calls hf hb hl hk h
/-- No loop over a function is to be shut. -/
theorem fin_plain {P : Program} {rs : Array ResultVar} {R : Ending → World → Prop} {e : Env} {w : World} (hm : e slotM = undef)
    (h : ∀ tmps : Array Value, (∀ i, i ≠ slotM → tmps.getD i undef = e i) → ∃ v, (do
    let vs ← rs.mapM fun
      | .tmp t => pure (tmps.getD t undef)
      | .cell a t => do loadVar t (← asAddr (tmps.getD a undef))
    pure (if h : vs.size = 1 then vs[0] else .tuple vs) : Sem Value).run P w = .ok v w ∧ R (.returned v) w) : fin P rs R e w := ⟨w, by rw [hm]; rfl, h⟩
/-- One is: its block for deferred calls is shut. -/
theorem fin_mark {P : Program} {rs : Array ResultVar} {R : Ending → World → Prop} {e : Env} {w : World} {D : Nat} (hm : e slotM = .tuple #[.int .i64 D]) (hD : w.heap[D]? = some (.deferred (some [])))
    (h : ∀ w', w.putObj D (.deferred none) = w' → fin P rs R (put e slotM undef) w') : fin P rs R e w := by
  obtain ⟨w', hs, hv⟩ := h _ rfl
  rw [put_same] at hs
  cases hs
  refine ⟨_, ?_, fun tmps ht => hv tmps fun i hi => by rw [put_ne _ _ _ _ hi]; exact ht i hi⟩
  rw [hm]
  refine ⟨D, _, ?_, run_takeDeferred hD, rfl⟩
  show Target.collected ((D : Int).toNat) = _
  simp
theorem fin0 {P : Program} {R : Ending → World → Prop} {e : Env} {w : World} (h : R (.returned (.tuple #[])) w) (hm : e slotM = undef := by rfl) : fin P #[] R e w := by
  refine fin_plain hm ?_
  intro tmps _
  exact ⟨.tuple #[], by simp, h⟩
theorem fin1 {P : Program} {t : Tmp} {R : Ending → World → Prop} {e : Env} {w : World} (h : R (.returned (e t)) w) (hm : e slotM = undef := by rfl) (k1 : Nat.beq t slotM = false := by rfl) : fin P #[.tmp t] R e w := by
  refine fin_plain hm ?_
  intro tmps ht
  refine ⟨e t, ?_, h⟩
  have := ht t (by rw [beq_eq] at k1; simpa using k1)
  simp at this
  simp [this]
theorem fin2 {P : Program} {t u : Tmp} {R : Ending → World → Prop} {e : Env} {w : World} (h : R (.returned (.tuple #[e t, e u])) w) (hm : e slotM = undef := by rfl) (k1 : Nat.beq t slotM = false := by rfl) (k2 : Nat.beq u slotM = false := by rfl) : fin P #[.tmp t, .tmp u] R e w := by
  refine fin_plain hm ?_
  intro tmps ht
  refine ⟨.tuple #[e t, e u], ?_, h⟩
  have h1 := ht t (by rw [beq_eq] at k1; simpa using k1)
  have h2 := ht u (by rw [beq_eq] at k2; simpa using k2)
  simp at h1 h2
  simp [h1, h2]
theorem fin3 {P : Program} {t u s : Tmp} {R : Ending → World → Prop} {e : Env} {w : World} (h : R (.returned (.tuple #[e t, e u, e s])) w) (hm : e slotM = undef := by rfl) (k1 : Nat.beq t slotM = false := by rfl) (k2 : Nat.beq u slotM = false := by rfl) (k3 : Nat.beq s slotM = false := by rfl) : fin P #[.tmp t, .tmp u, .tmp s] R e w := by
  refine fin_plain hm ?_
  intro tmps ht
  refine ⟨.tuple #[e t, e u, e s], ?_, h⟩
  have h1 := ht t (by rw [beq_eq] at k1; simpa using k1)
  have h2 := ht u (by rw [beq_eq] at k2; simpa using k2)
  have h3 := ht s (by rw [beq_eq] at k3; simpa using k3)
  simp at h1 h2 h3
  simp [h1, h2, h3]
theorem finX_ret {P : Program} {rs : Array ResultVar} {R : Ending → World → Prop} {e : Env} {w : World} (h : fin P rs R e w) : finX P rs R .ret e w := h
end Go.Eng
