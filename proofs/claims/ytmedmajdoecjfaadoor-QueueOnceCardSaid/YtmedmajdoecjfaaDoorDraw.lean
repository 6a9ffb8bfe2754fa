/-
  The engine: regions that draw their order. Generic: no program.
-/
import Derived.Test.YtmedmajdoecjfaaDoorBits
namespace Go.Eng
set_option linter.unusedVariables false
set_option linter.unusedSimpArgs false
open Go.RowKit

theorem ext_cell {w w' : World} (h : Ext w w') {a : Addr} {v : Value} (hc : w.cell? a = some v) : w'.cell? a = some v := by
  rw [Below.cell h (block_lt_of_cell hc)]; exact hc
theorem ext_drawn (w : World) : Ext w { w with drawn := w.drawn + 1 } := Ext.drawn (Ext.refl w) _

section
variable {P : Program} {n : Nat} {N : Env → World → Prop} {X : Exit → Env → World → Prop} {S : World → Prop} {e : Env} {w : World} {ops : Array Oper} {fuel : Nat} {listed : Array Bool}

/-- Whatever order is picked from here on, S holding behind each operation. -/
def WA (P : Program) (n : Nat) (ops : Array Oper) (N : Env → World → Prop) (X : Exit → Env → World → Prop) (S : World → Prop) (fuel : Nat) (listed : Array Bool) (e : Env) (w : World) : Prop :=
  ∀ ro a, Rel ro n e a → wpAnyHI ro P .any ops (lift ro n N X) S fuel listed a w
/-- Operation number i comes up. -/
def WO (P : Program) (n : Nat) (ops : Array Oper) (N : Env → World → Prop) (X : Exit → Env → World → Prop) (S : World → Prop) (fuel : Nat) (listed : Array Bool) (i : Nat) (e : Env) (w : World) : Prop :=
  ∀ ro a, Rel ro n e a → wpOpIn (fen ro) 0 P ops (lift ro n N X) i (fun a' w' => S w' ∧ wpAnyHI ro P .any ops (lift ro n N X) S fuel (listed.setIfInBounds i true) a' w') a w

theorem W_draw {id : Nat} {l : List Oper} {k : Nat} (S : World → Prop) (hm : P.follows .mixedOrders = true) (hk : l.toArray.size = k)
    (h : WA P n l.toArray N X S k (Array.replicate k false) e { w with drawn := w.drawn + 1 }) : W P n (.region id l.toArray true) N X e w := by
  subst hk
  intro ro a ha
  exact wpIn_region_held hm (h ro a ha)
/-- The usual case: what is there stays; the world behind the draw under a name. -/
theorem W_drawE {id : Nat} {l : List Oper} {k : Nat} (hm : P.follows .mixedOrders = true) (hk : l.toArray.size = k)
    (h : ∀ w', Ext w w' → WA P n l.toArray N X (Ext w) k (Array.replicate k false) e w') : W P n (.region id l.toArray true) N X e w :=
  W_draw (Ext w) hm hk (h _ (ext_drawn w))

theorem W_drawS {id : Nat} {l : List Oper} {k : Nat} {w₀ : World} (h0 : Ext w₀ w) (hm : P.follows .mixedOrders = true) (hk : l.toArray.size = k)
    (h : ∀ w', Ext w w' → Ext w₀ w' → WA P n l.toArray N X (Ext w₀) k (Array.replicate k false) e w') : W P n (.region id l.toArray true) N X e w :=
  W_draw (Ext w₀) hm hk (h _ (ext_drawn w) (h0.trans (ext_drawn w)))
theorem A_done (hr : Region.ready .any ops listed = []) (h : N e w) : WA P n ops N X S fuel listed e w :=
  fun ro a ha => wpAnyHI_done hr ⟨e, ha, h⟩ fuel
theorem A_ready1 {i : Nat} (hr : Region.ready .any ops listed = [i]) (h : WO P n ops N X S fuel listed i e w) : WA P n ops N X S (fuel + 1) listed e w :=
  fun ro a ha => wpAnyHI_all hr (by simp) (by intro j hj; simp at hj; subst hj; exact h ro a ha)
theorem A_ready2 {i j : Nat} (hr : Region.ready .any ops listed = [i, j]) (h1 : WO P n ops N X S fuel listed i e w) (h2 : WO P n ops N X S fuel listed j e w) : WA P n ops N X S (fuel + 1) listed e w :=
  fun ro a ha => wpAnyHI_all hr (by simp) (by intro k hk; simp at hk; rcases hk with rfl | rfl; exact h1 ro a ha; exact h2 ro a ha)
theorem A_ready3 {i j k : Nat} (hr : Region.ready .any ops listed = [i, j, k]) (h1 : WO P n ops N X S fuel listed i e w) (h2 : WO P n ops N X S fuel listed j e w) (h3 : WO P n ops N X S fuel listed k e w) : WA P n ops N X S (fuel + 1) listed e w :=
  fun ro a ha => wpAnyHI_all hr (by simp) (by intro q hq; simp at hq; rcases hq with rfl | rfl | rfl; exact h1 ro a ha; exact h2 ro a ha; exact h3 ro a ha)

theorem A_ready4 {i j k q : Nat} (hr : Region.ready .any ops listed = [i, j, k, q]) (h1 : WO P n ops N X S fuel listed i e w) (h2 : WO P n ops N X S fuel listed j e w) (h3 : WO P n ops N X S fuel listed k e w) (h4 : WO P n ops N X S fuel listed q e w) : WA P n ops N X S (fuel + 1) listed e w :=
  fun ro a ha => wpAnyHI_all hr (by simp) (by intro u hu; simp at hu; rcases hu with rfl | rfl | rfl | rfl; exact h1 ro a ha; exact h2 ro a ha; exact h3 ro a ha; exact h4 ro a ha)

theorem wanted_of {ro : Option Nat} {a : Act} (ha : Rel ro n e a) {d : Option Tmp} {x : Op} {t : TypeId} {pos : String} {af : Array Edge} {j : Nat} {want : Bool} {dj : Tmp} {b : Bool}
    (hj : (ops[j]?).bind (·.dst) = some dj) (hjn : Nat.blt dj n = true) (hb : e dj = .bool b) :
    Region.wanted ⟨d, x, t, pos, af, some (j, want)⟩ (yielded ops a.tmps) = (b == want) := by
  have hlt : dj < a.tmps.size := by rw [ha.size]; simpa [Nat.blt_eq] using hjn
  have hy : yielded ops a.tmps j = some b := by
    unfold yielded
    have hg := ha.at (d := dj) (by simpa [Nat.blt_eq] using hjn)
    simp [hlt, hb] at hg
    simp [hj, hlt, hg]
  simp only [Region.wanted, hy]
  cases b <;> cases want <;> rfl

section take
variable {i : Nat} {d : Option Tmp} {x : Op} {t : TypeId} {pos : String} {af : Array Edge} {v : Value}
theorem lift_panic {ro : Option Nat} (c : List PanicEntry) (a : Act) (w : World) (h : lift ro n N X (.panic c) (a.put d v) w) : lift ro n N X (.panic c) a w := h.elim
/-- Operation number i is taken first: whatever the order, it yields v. -/
theorem A_take (hi : ops[i]? = some ⟨d, x, t, pos, af, none⟩) (hs : Region.noSelect ops = true) (hf : Region.free .any ops listed i = true) (hr : (Region.ready .any ops listed).contains i = true)
    (hd : dOk n d = true) (hS : S w) (hy : ∀ w', S w' → (execOp (ev e) ⟨d, x, t, pos, af, none⟩).run P w' = .ok (.value v) w')
    (h : WA P n ops N X S fuel (listed.setIfInBounds i true) (putO e d v) w) : WA P n ops N X S (fuel + 1) listed e w := by
  intro ro a ha
  refine wpAnyHI_take hi hs hf hr lift_panic (Or.inl ⟨rfl, ?_⟩) hS (h _ _ (ha.put hd v))
  intro w' hw'
  rw [ha.eval]
  exact hy w' hw'
variable {j : Nat} {want : Bool} {dj : Tmp} {b : Bool}
theorem A_takeG (hi : ops[i]? = some ⟨d, x, t, pos, af, some (j, want)⟩) (hs : Region.noSelect ops = true) (hf : Region.free .any ops listed i = true) (hr : (Region.ready .any ops listed).contains i = true)
    (hd : dOk n d = true) (hS : S w) (hj : (ops[j]?).bind (·.dst) = some dj) (hjn : Nat.blt dj n = true) (hb : e dj = .bool b) (he : (b == want) = true)
    (hy : ∀ w', S w' → (execOp (ev e) ⟨d, x, t, pos, af, some (j, want)⟩).run P w' = .ok (.value v) w')
    (h : WA P n ops N X S fuel (listed.setIfInBounds i true) (putO e d v) w) : WA P n ops N X S (fuel + 1) listed e w := by
  intro ro a ha
  refine wpAnyHI_take hi hs hf hr lift_panic (Or.inl ⟨(wanted_of ha hj hjn hb).trans he, ?_⟩) hS (h _ _ (ha.put hd v))
  intro w' hw'
  rw [ha.eval]
  exact hy w' hw'
/-- One that is passed over. -/
theorem A_skip (hi : ops[i]? = some ⟨d, x, t, pos, af, some (j, want)⟩) (hs : Region.noSelect ops = true) (hf : Region.free .any ops listed i = true) (hr : (Region.ready .any ops listed).contains i = true)
    (hd : dOk n d = true) (hS : S w) (hj : (ops[j]?).bind (·.dst) = some dj) (hjn : Nat.blt dj n = true) (hb : e dj = .bool b) (he : (b == want) = false)
    (h : WA P n ops N X S fuel (listed.setIfInBounds i true) (putO e d undef) w) : WA P n ops N X S (fuel + 1) listed e w := by
  intro ro a ha
  exact wpAnyHI_take hi hs hf hr lift_panic (Or.inr ⟨(wanted_of ha hj hjn hb).trans he, rfl⟩) hS (h _ _ (ha.put hd undef))
/-- A bool that is taken first, and parts the ways. -/
theorem A_split {p : Prop} {dp : Decidable p} (hi : ops[i]? = some ⟨d, x, t, pos, af, none⟩) (hs : Region.noSelect ops = true) (hf : Region.free .any ops listed i = true) (hr : (Region.ready .any ops listed).contains i = true)
    (hd : dOk n d = true) (hS : S w) (hy : ∀ w', S w' → (execOp (ev e) ⟨d, x, t, pos, af, none⟩).run P w' = .ok (.value (.bool (@decide p dp))) w')
    (h1 : p → WA P n ops N X S fuel (listed.setIfInBounds i true) (putO e d (.bool true)) w) (h2 : ¬ p → WA P n ops N X S fuel (listed.setIfInBounds i true) (putO e d (.bool false)) w) : WA P n ops N X S (fuel + 1) listed e w := by
  by_cases hp : p
  · exact A_take hi hs hf hr hd hS hy (by simpa [hp] using h1 hp)
  · exact A_take hi hs hf hr hd hS hy (by simpa [hp] using h2 hp)
theorem A_true {p : Prop} {dp : Decidable p} (hi : ops[i]? = some ⟨d, x, t, pos, af, none⟩) (hs : Region.noSelect ops = true) (hf : Region.free .any ops listed i = true) (hr : (Region.ready .any ops listed).contains i = true)
    (hd : dOk n d = true) (hS : S w) (hy : ∀ w', S w' → (execOp (ev e) ⟨d, x, t, pos, af, none⟩).run P w' = .ok (.value (.bool (@decide p dp))) w') (hp : p)
    (h1 : WA P n ops N X S fuel (listed.setIfInBounds i true) (putO e d (.bool true)) w) : WA P n ops N X S (fuel + 1) listed e w :=
  A_take hi hs hf hr hd hS hy (by simpa [hp] using h1)
theorem A_false {p : Prop} {dp : Decidable p} (hi : ops[i]? = some ⟨d, x, t, pos, af, none⟩) (hs : Region.noSelect ops = true) (hf : Region.free .any ops listed i = true) (hr : (Region.ready .any ops listed).contains i = true)
    (hd : dOk n d = true) (hS : S w) (hy : ∀ w', S w' → (execOp (ev e) ⟨d, x, t, pos, af, none⟩).run P w' = .ok (.value (.bool (@decide p dp))) w') (hp : ¬ p)
    (h1 : WA P n ops N X S fuel (listed.setIfInBounds i true) (putO e d (.bool false)) w) : WA P n ops N X S (fuel + 1) listed e w :=
  A_take hi hs hf hr hd hS hy (by simpa [hp] using h1)
theorem A_splitB (hi : ops[i]? = some ⟨d, x, t, pos, af, none⟩) (hs : Region.noSelect ops = true) (hf : Region.free .any ops listed i = true) (hr : (Region.ready .any ops listed).contains i = true)
    (hd : dOk n d = true) (hS : S w) (hy : ∀ w', S w' → (execOp (ev e) ⟨d, x, t, pos, af, none⟩).run P w' = .ok (.value (.bool b)) w')
    (h1 : b = true → WA P n ops N X S fuel (listed.setIfInBounds i true) (putO e d (.bool true)) w) (h2 : b = false → WA P n ops N X S fuel (listed.setIfInBounds i true) (putO e d (.bool false)) w) : WA P n ops N X S (fuel + 1) listed e w := by
  cases b
  · exact A_take hi hs hf hr hd hS hy (h2 rfl)
  · exact A_take hi hs hf hr hd hS hy (h1 rfl)

/-- Number i comes up, and yields a value. -/
theorem O_val {w' : World} (hi : ops[i]? = some ⟨d, x, t, pos, af, none⟩) (hd : dOk n d = true) (hr : (execOp (ev e) ⟨d, x, t, pos, af, none⟩).run P w = .ok (.value v) w')
    (hS : S w') (h : WA P n ops N X S fuel (listed.setIfInBounds i true) (putO e d v) w') : WO P n ops N X S fuel listed i e w := by
  intro ro a ha
  unfold wpOpIn
  rw [hi]
  simp only [Region.wanted, if_true]
  exact wp_of_run (by rw [ha.eval]; exact hr) ⟨hS, h _ _ (ha.put hd v)⟩
theorem O_valG {w' : World} (hi : ops[i]? = some ⟨d, x, t, pos, af, some (j, want)⟩) (hd : dOk n d = true) (hj : (ops[j]?).bind (·.dst) = some dj) (hjn : Nat.blt dj n = true) (hb : e dj = .bool b) (he : (b == want) = true)
    (hr : (execOp (ev e) ⟨d, x, t, pos, af, some (j, want)⟩).run P w = .ok (.value v) w')
    (hS : S w') (h : WA P n ops N X S fuel (listed.setIfInBounds i true) (putO e d v) w') : WO P n ops N X S fuel listed i e w := by
  intro ro a ha
  unfold wpOpIn
  rw [hi]
  simp only [wanted_of ha hj hjn hb, he, if_true]
  exact wp_of_run (by rw [ha.eval]; exact hr) ⟨hS, h _ _ (ha.put hd v)⟩
theorem O_unit {w' : World} (hi : ops[i]? = some ⟨none, x, t, pos, af, none⟩) (hr : (execOp (ev e) ⟨none, x, t, pos, af, none⟩).run P w = .ok .skip w')
    (hS : S w') (h : WA P n ops N X S fuel (listed.setIfInBounds i true) e w') : WO P n ops N X S fuel listed i e w := by
  intro ro a ha
  unfold wpOpIn
  rw [hi]
  simp only [Region.wanted, if_true]
  exact wp_of_skip (by rw [ha.eval]; exact hr) ⟨hS, h _ _ ha⟩
theorem O_call {f : FuncId} {args : Array Value} {w₁ : World} {R : Value → World → Prop} (hi : ops[i]? = some ⟨d, x, t, pos, af, none⟩) (hd : dOk n d = true)
    (hr : (execOp (ev e) ⟨d, x, t, pos, af, none⟩).run P w = .ok (.enter f args) w₁) (hc : Calls P f args w₁ (fun en w' => ∃ v, en = .returned v ∧ R v w'))
    (h : ∀ v w', R v w' → S w' ∧ WA P n ops N X S fuel (listed.setIfInBounds i true) (putO e d v) w') : WO P n ops N X S fuel listed i e w := by
  intro ro a ha
  unfold wpOpIn
  rw [hi]
  simp only [Region.wanted, if_true]
  refine wp_of_call (by rw [ha.eval]; exact hr) hc ?_
  rintro en w' ⟨v, rfl, hR⟩
  obtain ⟨h1, h2⟩ := h v w' hR
  exact ⟨v, rfl, h1, h2 _ _ (ha.put hd v)⟩
theorem O_callG {f : FuncId} {args : Array Value} {w₁ : World} {R : Value → World → Prop} (hi : ops[i]? = some ⟨d, x, t, pos, af, some (j, want)⟩) (hd : dOk n d = true)
    (hj : (ops[j]?).bind (·.dst) = some dj) (hjn : Nat.blt dj n = true) (hb : e dj = .bool b) (he : (b == want) = true)
    (hr : (execOp (ev e) ⟨d, x, t, pos, af, some (j, want)⟩).run P w = .ok (.enter f args) w₁) (hc : Calls P f args w₁ (fun en w' => ∃ v, en = .returned v ∧ R v w'))
    (h : ∀ v w', R v w' → S w' ∧ WA P n ops N X S fuel (listed.setIfInBounds i true) (putO e d v) w') : WO P n ops N X S fuel listed i e w := by
  intro ro a ha
  unfold wpOpIn
  rw [hi]
  simp only [wanted_of ha hj hjn hb, he, if_true]
  refine wp_of_call (by rw [ha.eval]; exact hr) hc ?_
  rintro en w' ⟨v, rfl, hR⟩
  obtain ⟨h1, h2⟩ := h v w' hR
  exact ⟨v, rfl, h1, h2 _ _ (ha.put hd v)⟩
/-- Number i makes a block. -/
theorem O_new {c : Array Value} {ty : TypeId} (hi : ops[i]? = some ⟨d, x, t, pos, af, none⟩) (hd : dOk n d = true)
    (hr : (execOp (ev e) ⟨d, x, t, pos, af, none⟩).run P w = .ok (.value (.pointer (some ⟨w.heap.size, 0, none⟩))) (w.alloc (.cells c ty)))
    (h : ∀ w' b, Ext w w' → Blk w' b c ty → w.heap.size = b → S w' ∧ WA P n ops N X S fuel (listed.setIfInBounds i true) (putO e d (.pointer (some ⟨b, 0, none⟩))) w') : WO P n ops N X S fuel listed i e w :=
  have h' := h _ _ (Ext.alloc _ _) (Blk.new _ _ _) rfl
  O_val hi hd hr h'.1 h'.2
theorem O_newG {c : Array Value} {ty : TypeId} (hi : ops[i]? = some ⟨d, x, t, pos, af, some (j, want)⟩) (hd : dOk n d = true) (hj : (ops[j]?).bind (·.dst) = some dj) (hjn : Nat.blt dj n = true) (hb : e dj = .bool b) (he : (b == want) = true)
    (hr : (execOp (ev e) ⟨d, x, t, pos, af, some (j, want)⟩).run P w = .ok (.value (.pointer (some ⟨w.heap.size, 0, none⟩))) (w.alloc (.cells c ty)))
    (h : ∀ w' b, Ext w w' → Blk w' b c ty → w.heap.size = b → S w' ∧ WA P n ops N X S fuel (listed.setIfInBounds i true) (putO e d (.pointer (some ⟨b, 0, none⟩))) w') : WO P n ops N X S fuel listed i e w :=
  have h' := h _ _ (Ext.alloc _ _) (Blk.new _ _ _) rfl
  O_valG hi hd hj hjn hb he hr h'.1 h'.2
theorem O_newS {m : Nat} {c : Array Value} {ty : TypeId} (hi : ops[i]? = some ⟨d, x, t, pos, af, none⟩) (hd : dOk n d = true)
    (hr : (execOp (ev e) ⟨d, x, t, pos, af, none⟩).run P w = .ok (.value (.slice (some ⟨w.heap.size, 0, none⟩) m m)) (w.alloc (.cells c ty)))
    (h : ∀ w' b, Ext w w' → Blk w' b c ty → w.heap.size = b → S w' ∧ WA P n ops N X S fuel (listed.setIfInBounds i true) (putO e d (.slice (some ⟨b, 0, none⟩) m m)) w') : WO P n ops N X S fuel listed i e w :=
  have h' := h _ _ (Ext.alloc _ _) (Blk.new _ _ _) rfl
  O_val hi hd hr h'.1 h'.2
theorem O_newSG {m : Nat} {c : Array Value} {ty : TypeId} (hi : ops[i]? = some ⟨d, x, t, pos, af, some (j, want)⟩) (hd : dOk n d = true) (hj : (ops[j]?).bind (·.dst) = some dj) (hjn : Nat.blt dj n = true) (hb : e dj = .bool b) (he : (b == want) = true)
    (hr : (execOp (ev e) ⟨d, x, t, pos, af, some (j, want)⟩).run P w = .ok (.value (.slice (some ⟨w.heap.size, 0, none⟩) m m)) (w.alloc (.cells c ty)))
    (h : ∀ w' b, Ext w w' → Blk w' b c ty → w.heap.size = b → S w' ∧ WA P n ops N X S fuel (listed.setIfInBounds i true) (putO e d (.slice (some ⟨b, 0, none⟩) m m)) w') : WO P n ops N X S fuel listed i e w :=
  have h' := h _ _ (Ext.alloc _ _) (Blk.new _ _ _) rfl
  O_valG hi hd hj hjn hb he hr h'.1 h'.2
end take
end
end Go.Eng
