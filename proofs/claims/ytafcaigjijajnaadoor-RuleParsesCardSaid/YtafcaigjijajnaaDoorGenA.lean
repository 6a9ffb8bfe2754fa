/-
  The engine, all of it that names no program, part one.
-/
import Derived.WalkKit
import Derived.OrdersHeld
import Derived.OrdersIn
import Derived.Deep.LoopGhost
import Derived.Sort.LoopGhostIn
import Derived.RangeFuncNested
import Derived.RangeFuncLeaves
import Derived.TacticsIn
import Derived.Laws.IdiomStrings
import Derived.Laws.StructEq
import Derived.MapKept
/-
  The engine: the frame may be a round's. What an operation does there, and regions that draw their order there. Generic: no program.
-/
namespace Go.Eng
set_option linter.unusedVariables false
set_option linter.unusedSimpArgs false

/-- Every function is let in; the frame is the activation's own, or a round's. -/
def fen (ro : Option Nat) : Fence := { Fence.wide with round := ro }
theorem callsIn_fen {ro : Option Nat} {n : Nat} {P : Program} {f : FuncId} {args : Array Value} {w : World} {R : Ending → World → Prop} : CallsIn (fen ro) n P f args w R ↔ Calls P f args w R :=
  callsIn_wide (n := n)
theorem fen_none : fen none = Fence.wide := rfl

section
variable {P : Program} {w : World}
/-- Whatever is no 'defer' does in a round what it does anywhere. -/
theorem semAt_run {ro : Option Nat} {ρ : Operand → Value} {o : Oper} {r : Next} {w' : World} (h : (execOp ρ o).run P w = .ok r w') (hr : ∀ d, r ≠ .defer d) : (o.semAt ro ρ).run P w = .ok r w' := by
  rw [Oper.semAt_eq ro ρ o ?_]
  · exact h
  · intro c hc
    unfold execOp at h
    rw [hc] at h
    simp only [Sem.run_bind] at h
    cases hres : (resolve ρ c o.type).run P w with
    | ok d w1 =>
      rw [hres] at h
      simp [Result.andThen, Sem.run] at h
      exact hr d h.1.symm
    | halt x w1 => rw [hres] at h; simp [Result.andThen] at h
theorem semAt_put {ops : Array Oper} {ro : Option Nat} (o : Oper) (hs : ∀ cs b, o.op ≠ .select cs b) (a : Act) (dst : Option Tmp) (v : Value) (h : ∀ d, dst = some d → d ∉ o.looksAt ops) :
    o.semAt ro (a.put dst v).eval = o.semAt ro a.eval := by
  have he := execOp_put o hs a dst v h
  unfold Oper.semAt
  cases ro with
  | none => exact he
  | some l =>
    cases ho : o.op with
    | defer c =>
      have hc : resolve (a.put dst v).eval c o.type = resolve a.eval c o.type := resolve_congr c o.type fun x hx => Act.eval_put fun d hd hxd => h d hd (by
        subst hxd
        exact List.mem_append_left _ (List.mem_filterMap.2 ⟨.tmp d, by rw [ho]; simpa [Op.operands] using hx, rfl⟩))
      simp only [hc]
    | _ => exact he
end

section
variable {ro : Option Nat} {P : Program} {ops : Array Oper} {Q : Exit → Act → World → Prop} {md : Region.Mode} {S : World → Prop}

theorem YieldsIf.wpOpIn {i : Nat} {o : Oper} {v : Value} {a : Act} (hi : ops[i]? = some o) (hy : YieldsIf P ops S o v a)
    {K : Act → World → Prop} {w : World} (hS : S w) (h : K (a.put o.dst v) w) : wpOpIn (fen ro) 0 P ops Q i K a w := by
  unfold Go.wpOpIn
  simp only [hi]
  rcases hy with ⟨hw, hv⟩ | ⟨hw, rfl⟩
  · simp only [hw, if_true]
    refine ⟨fun _ _ => trivial, ?_⟩
    rw [semAt_run (hv w hS) (by simp)]
    exact h
  · simp only [hw, Bool.false_eq_true, if_false]
    exact ⟨fun _ _ => trivial, h⟩

theorem wpOpIn_putIf {j : Nat} {oi oj : Oper} {v : Value} (hj : ops[j]? = some oj) (hap : oi.apart ops oj = true)
    (hsi : ∀ cs b, oi.op ≠ .select cs b) (hsj : ∀ cs b, oj.op ≠ .select cs b)
    (hQ : ∀ c a w, Q (.panic c) (a.put oi.dst v) w → Q (.panic c) a w) {K : Act → World → Prop} {a : Act} {w : World}
    (hy : YieldsIf P ops S oi v a) (h : wpOpIn (fen ro) 0 P ops Q j K (a.put oi.dst v) w) :
    wpOpIn (fen ro) 0 P ops Q j (fun a' w' => YieldsIf P ops S oi v a' ∧ K (a'.put oi.dst v) w') a w := by
  obtain ⟨h1, h2, h3⟩ := Oper.apart_spec hap
  have keep : ∀ (a : Act), YieldsIf P ops S oi v a → ∀ u, YieldsIf P ops S oi v (a.put oj.dst u) := fun a hy u =>
    hy.of_same (execOp_put oi hsi a oj.dst u h3) (wanted_put oi a oj.dst u h3)
  have keepD : ∀ d, YieldsIf P ops S oi v { a with defers := d :: a.defers } := fun d => hy.of_same rfl rfl
  unfold wpOpIn at *
  simp only [hj] at *
  rw [wanted_put oj a oi.dst v h1] at h
  split
  · rename_i hw
    simp only [hw, if_true] at h
    unfold Oper.wpIn at *
    refine ⟨fun _ _ => trivial, ?_⟩
    have h := h.2
    rw [semAt_put oj hsj a oi.dst v h1] at h
    generalize (oj.semAt (fen ro).round a.eval).run P w = r at *
    cases r with
    | ok x w' =>
      cases x <;> simp only [Oper.uponIn] at h ⊢
      case value u => exact ⟨keep a hy u, by rw [← Act.put_comm a v u h2]; exact h⟩
      case skip => exact ⟨keep a hy _, by rw [← Act.put_comm a v undef h2]; exact h⟩
      case defer d =>
        refine ⟨keep _ (keepD d) _, ?_⟩
        rw [← Act.put_comm _ v undef h2, ← Act.put_defers]
        exact h
      case enter f args =>
        refine ⟨h.1, CallsIn.mono h.2 fun e w'' he => ?_⟩
        cases e with
        | returned u => exact ⟨keep a hy u, by rw [← Act.put_comm a v u h2]; exact he⟩
        | panicked c => exact hQ _ _ _ he
        | outgrown => exact he
      case row row args => exact ⟨h.1, RowsIn.mono h.2 fun u w'' he => ⟨keep a hy u, by rw [← Act.put_comm a v u h2]; exact he⟩⟩
      case round l f tmps assign body =>
        refine ⟨h.1, RoundIn.mono h.2 fun e w'' he => ?_⟩
        cases e with
        | returned u => exact ⟨keep a hy u, by rw [← Act.put_comm a v u h2]; exact he⟩
        | panicked c => exact hQ _ _ _ he
        | outgrown => exact he
    | halt x w' =>
      cases x <;> simp only [Oper.uponIn] at h ⊢
      case panic u => exact hQ _ _ _ h
  · rename_i hw
    simp only [hw] at h
    exact ⟨fun _ _ => trivial, keep a hy _, by rw [← Act.put_comm a v undef h2]; exact h.2⟩

/-- Whatever order is picked from here on, S holding behind each operation. -/
def wpAnyHI (ro : Option Nat) (P : Program) (md : Region.Mode) (ops : Array Oper) (Q : Exit → Act → World → Prop) (S : World → Prop) : Nat → Array Bool → Act → World → Prop
  | 0, listed, a, w => Region.ready md ops listed = [] ∧ Q .normal a w
  | fuel + 1, listed, a, w =>
    (Region.ready md ops listed = [] → Q .normal a w) ∧
    ∀ i ∈ Region.ready md ops listed, wpOpIn (fen ro) 0 P ops Q i (fun a' w' => S w' ∧ wpAnyHI ro P md ops Q S fuel (listed.setIfInBounds i true) a' w') a w

theorem wpAnyIn_of_held : ∀ (fuel : Nat) (listed : Array Bool) (a : Act) (w : World), wpAnyHI ro P md ops Q S fuel listed a w → wpAnyIn (fen ro) 0 P md ops Q fuel listed a w
  | 0, _, _, _, h => h
  | fuel + 1, _, _, _, h => ⟨h.1, fun i hi => wpOpIn_mono (fun a' w' h' => wpAnyIn_of_held fuel _ a' w' h'.2) (h.2 i hi)⟩

theorem wpAnyHI_first {i : Nat} {oi : Oper} {v : Value} (hi : ops[i]? = some oi) (hsel : ∀ (j : Nat) (o : Oper) cs b, ops[j]? = some o → o.op ≠ .select cs b)
    (hQ : ∀ c a w, Q (.panic c) (a.put oi.dst v) w → Q (.panic c) a w) :
    ∀ (fuel : Nat) (listed : Array Bool) (a : Act) (w : World),
      (∀ j oj, ops[j]? = some oj → j ≠ i → listed.getD j true = false → (∀ e ∈ oj.after, Region.binds md e = true → e.on ≠ i) → oi.apart ops oj = true) →
      i ∈ Region.ready md ops listed → YieldsIf P ops S oi v a → S w →
      wpAnyHI ro P md ops Q S fuel (listed.setIfInBounds i true) (a.put oi.dst v) w → wpAnyHI ro P md ops Q S (fuel + 1) listed a w := by
  intro fuel
  induction fuel with
  | zero =>
    intro listed a w _ hr hy hS H
    refine ⟨fun h => (by rw [h] at hr; cases hr), fun j hj => ?_⟩
    by_cases hji : j = i
    · subst hji; exact YieldsIf.wpOpIn hi hy hS ⟨hS, H⟩
    · have := ready_mono hj hji
      rw [H.1] at this
      cases this
  | succ fuel ih =>
    intro listed a w hfree hr hy hS H
    refine ⟨fun h => (by rw [h] at hr; cases hr), fun j hj => ?_⟩
    by_cases hji : j = i
    · subst hji; exact YieldsIf.wpOpIn hi hy hS ⟨hS, H⟩
    · have h1 := H.2 j (ready_mono hj hji)
      obtain ⟨hjun, oj, hoj, hall⟩ := mem_ready.1 hj
      have hnot : ∀ e ∈ oj.after, Region.binds md e = true → e.on ≠ i := fun e he hb heq => by
        have h1 := hall e he hb
        have h0 := (mem_ready.1 hr).1
        rw [heq] at h1
        rcases Nat.lt_or_ge i listed.size with h' | h'
        · simp [h'] at h0 h1; rw [h0] at h1; cases h1
        · simp [Array.getElem?_eq_none h'] at h1
      have h2 := wpOpIn_putIf hoj (hfree j oj hoj hji hjun hnot) (fun cs b => hsel i oi cs b hi) (fun cs b => hsel j oj cs b hoj) hQ hy h1
      have hfree' : ∀ k ok, ops[k]? = some ok → k ≠ i → (listed.setIfInBounds j true).getD k true = false →
          (∀ e ∈ ok.after, Region.binds md e = true → e.on ≠ i) → oi.apart ops ok = true := fun k ok hk hki hun hno => by
        refine hfree k ok hk hki ?_ hno
        by_cases hjk : j = k
        · subst hjk; exact hjun
        · rw [getD_set_ne true hjk] at hun; exact hun
      refine wpOpIn_mono (fun a' w' h3 => ⟨h3.2.1, ih (listed.setIfInBounds j true) a' w' hfree' (ready_mono hr (Ne.symm hji)) h3.1 h3.2.1 ?_⟩) h2
      rw [Array.setIfInBounds_comm _ _ hji]
      exact h3.2.2

theorem wpAnyHI_take {i : Nat} {oi : Oper} {v : Value} {fuel : Nat} {listed : Array Bool} {a : Act} {w : World} (hi : ops[i]? = some oi)
    (hs : Region.noSelect ops = true) (hf : Region.free md ops listed i = true) (hr : (Region.ready md ops listed).contains i = true)
    (hQ : ∀ c a w, Q (.panic c) (a.put oi.dst v) w → Q (.panic c) a w) (hy : YieldsIf P ops S oi v a) (hS : S w)
    (h : wpAnyHI ro P md ops Q S fuel (listed.setIfInBounds i true) (a.put oi.dst v) w) : wpAnyHI ro P md ops Q S (fuel + 1) listed a w :=
  wpAnyHI_first hi (Region.noSelect_spec hs) hQ fuel listed a w (Region.free_spec hi hf) (by simpa using hr) hy hS h

theorem wpAnyHI_all {rs : List Nat} {fuel : Nat} {listed : Array Bool} {a : Act} {w : World} (hr : Region.ready md ops listed = rs) (hne : rs ≠ [])
    (h : ∀ i ∈ rs, wpOpIn (fen ro) 0 P ops Q i (fun a' w' => S w' ∧ wpAnyHI ro P md ops Q S fuel (listed.setIfInBounds i true) a' w') a w) : wpAnyHI ro P md ops Q S (fuel + 1) listed a w :=
  ⟨fun h0 => absurd (hr ▸ h0) hne, hr ▸ h⟩

theorem wpAnyHI_done {listed : Array Bool} {a : Act} {w : World} (hr : Region.ready md ops listed = []) (h : Q .normal a w) :
    ∀ fuel, wpAnyHI ro P md ops Q S fuel listed a w
  | 0 => ⟨hr, h⟩
  | _ + 1 => ⟨fun _ => h, by rw [hr]; simp⟩

theorem wpIn_region_held {id : Nat} {a : Act} {w : World} (hm : P.follows .mixedOrders = true)
    (h : wpAnyHI ro P .any ops Q S ops.size (Array.replicate ops.size false) a { w with drawn := w.drawn + 1 }) : (Code.region id ops true).wpIn (fen ro) 0 P Q a w :=
  wpIn_region_any hm (wpAnyIn_of_held _ _ _ _ h)
end
end Go.Eng

/-
  The engine: weakest preconditions over a frame that is a function from slots to values. Generic: no program.
-/
namespace Go.Eng
set_option linter.unusedVariables false
set_option linter.unusedSimpArgs false

abbrev Env := Nat → Value

def put (e : Env) (d : Nat) (v : Value) : Env := fun i => bif Nat.beq i d then v else e i
def putO (e : Env) : Option Tmp → Value → Env
  | some d, v => put e d v
  | none, _ => e
def ent : List Value → Env
  | [], _ => undef
  | v :: _, 0 => v
  | _ :: l, i + 1 => ent l i
/-- One slot more than any function has: what the frame is (a round's, by its loop), and which loops over functions it has entered. -/
abbrev slotM : Nat := 1000000007
def marks : Value → List Deferred
  | .tuple vs => vs.toList.map fun v => { target := .collected (match v with | .int _ D => D.toNat | _ => 0), args := #[] }
  | _ => []
def roOf : Value → Option Nat
  | .int _ l => some l.toNat
  | _ => none
def ev (e : Env) : Operand → Value
  | .tmp t => bif Nat.beq t slotM then undef else e t
  | .const v => v
  | .global g => .pointer (some ⟨g, 0, none⟩)
  | .func f => .func (.func f) #[] #[]

structure Rel (ro : Option Nat) (n : Nat) (e : Env) (a : Act) : Prop where
  size : a.tmps.size = n
  lt : n ≤ slotM
  get : ∀ i, i ≠ slotM → a.tmps.getD i undef = e i
  defers : a.defers = marks (e slotM)
  ro : roOf (e slotM) = ro

theorem beq_eq (i d : Nat) : Nat.beq i d = decide (i = d) := by
  by_cases h : i = d
  · subst h; simp
  · have : Nat.beq i d = false := by
      cases hb : Nat.beq i d
      · rfl
      · exact absurd (Nat.eq_of_beq_eq_true hb) h
    simp [h, this]

theorem Rel.eval {ro : Option Nat} {n : Nat} {e : Env} {a : Act} (h : Rel ro n e a) : a.eval = ev e := by
  funext x
  cases x with
  | tmp t =>
    show a.tmps.getD t undef = bif Nat.beq t slotM then undef else e t
    by_cases ht : t = slotM
    · subst ht
      have h1 := h.size
      have h2 := h.lt
      simp [Array.getD_eq_getD_getElem?, Array.getElem?_eq_none (by omega : a.tmps.size ≤ slotM)]
    · have : Nat.beq t slotM = false := by rw [beq_eq]; simp [ht]
      rw [this]
      exact h.get t ht
  | _ => rfl
theorem Rel.at {ro : Option Nat} {n : Nat} {e : Env} {a : Act} (h : Rel ro n e a) {d : Nat} (hd : d < n) : a.tmps.getD d undef = e d := h.get d (by have := h.lt; omega)

theorem put_same (e : Env) (d : Nat) (v : Value) : put e d v d = v := by simp [put]
theorem put_ne (e : Env) (d i : Nat) (v : Value) (h : i ≠ d) : put e d v i = e i := by
  have : Nat.beq i d = false := by simp [beq_eq, h]
  simp only [put, this, cond_false]

/-! Slots in D alone differ. -/
def mem (i : Nat) : List Nat → Bool
  | [] => false
  | d :: l => bif Nat.beq i d then true else mem i l
def mix (D : List Nat) (g e : Env) : Env := fun i => bif mem i D then g i else e i
def Out (D : List Nat) (e' e : Env) : Prop := ∀ i, mem i D = false → e' i = e i
theorem Out.refl (D : List Nat) (e : Env) : Out D e e := fun _ _ => rfl
theorem Out.mix {D : List Nat} {g e : Env} : Out D (Eng.mix D g e) e := fun i hi => by simp only [Eng.mix, hi, cond_false]
theorem Out.put {D : List Nat} {e' e : Env} {d : Nat} {v : Value} (hd : mem d D = true) (h : Out D e' e) : Out D (Eng.put e' d v) e := fun i hi => by
  rw [put_ne _ _ _ _ (by rintro rfl; rw [hd] at hi; cases hi)]
  exact h i hi
def sub (l D : List Nat) : Bool := l.all fun i => mem i D
theorem mem_iff {i : Nat} {l : List Nat} : mem i l = true ↔ i ∈ l := by
  induction l with
  | nil => simp [mem]
  | cons d l ih =>
    simp only [mem, List.mem_cons, beq_eq]
    by_cases h : i = d
    · simp [h]
    · simp [h, ih]
theorem Out.mixin {D D' : List Nat} {g e' e : Env} (hs : sub D' D = true) (h : Out D e' e) : Out D (Eng.mix D' g e') e := fun i hi => by
  have : mem i D' = false := by
    cases hm : mem i D' with
    | false => rfl
    | true =>
      have := (List.all_eq_true.1 hs) i (mem_iff.1 hm)
      rw [this] at hi; cases hi
  simp only [Eng.mix, this, cond_false]
  exact h i hi
theorem Out.mix_eq {D : List Nat} {e' e : Env} (h : Out D e' e) : Eng.mix D e' e = e' := by
  funext i
  cases hm : mem i D with
  | true => simp only [Eng.mix, hm, cond_true]
  | false => simp only [Eng.mix, hm, cond_false]; exact (h i hm).symm

def dOk (n : Nat) : Option Tmp → Bool
  | some d => Nat.blt d n
  | none => true

theorem Rel.put {ro : Option Nat} {n : Nat} {e : Env} {a : Act} (h : Rel ro n e a) {d : Option Tmp} (hd : dOk n d = true) (v : Value) : Rel ro n (putO e d v) (a.put d v) := by
  cases d with
  | none => exact h
  | some d =>
    have hd' : d < n := by simp only [dOk, Nat.blt_eq] at hd; exact hd
    have hlt := h.lt
    have hmk : putO e (some d) v slotM = e slotM := put_ne e d slotM v (fun hh => Nat.lt_irrefl d (Nat.lt_of_lt_of_le hd' (hh ▸ hlt)))
    refine ⟨?_, h.lt, ?_, by rw [hmk]; exact h.defers, by rw [hmk]; exact h.ro⟩
    · simp [Act.put, h.size]
    · intro i hik
      have hg := h.get i hik
      have hs := h.size
      by_cases hi : i = d
      · subst hi
        have hlt : i < a.tmps.size := by rw [hs]; exact hd'
        simp [Act.put, putO, Eng.put, hlt]
      · have hne : ¬ d = i := fun e => hi e.symm
        show (a.tmps.setIfInBounds d v).getD i undef = putO e (some d) v i
        simp only [putO, put_ne e d i v hi]
        rw [← hg]
        simp [hne]

theorem ent_eq (l : List Value) : ∀ i, ent l i = l[i]?.getD undef := by
  induction l with
  | nil => intro i; simp [ent]
  | cons v l ih =>
    intro i
    cases i with
    | zero => simp [ent]
    | succ i => simp [ent, ih]

theorem ent_slotM (l : List Value) (h : l.length ≤ slotM) : ent l slotM = undef := by rw [ent_eq, List.getElem?_eq_none h]; rfl
theorem Rel.entry (l : List Value) (n : Nat) (h : l.length ≤ n) (hk : n ≤ slotM) : Rel none n (ent l) { tmps := l.toArray ++ Array.replicate (n - l.toArray.size) undef, defers := [] } := by
  have hm := ent_slotM l (Nat.le_trans h hk)
  refine ⟨?_, hk, ?_, by rw [hm]; rfl, by rw [hm]; rfl⟩
  · simp; omega
  · intro i _
    rw [ent_eq]
    simp only [Array.getD_eq_getD_getElem?, Array.getElem?_append, Array.getElem?_replicate]
    by_cases hi : i < l.length
    · simp [hi]
    · simp [hi]
      split <;> simp

/-- What is asked at a piece of code's end: normally, or by another way. -/
def lift (ro : Option Nat) (n : Nat) (N : Env → World → Prop) (X : Exit → Env → World → Prop) : Exit → Act → World → Prop
  | .normal, a, w => ∃ e, Rel ro n e a ∧ N e w
  | .panic _, _, _ => False
  | .outgrown, _, _ => False
  | x, a, w => ∃ e, Rel ro n e a ∧ X x e w

def W (P : Program) (n : Nat) (c : Code) (N : Env → World → Prop) (X : Exit → Env → World → Prop) (e : Env) (w : World) : Prop :=
  ∀ ro a, Rel ro n e a → c.wpIn (fen ro) 0 P (lift ro n N X) a w

def WL (P : Program) (n : Nat) (ops : Array Oper) (N : Env → World → Prop) (X : Exit → Env → World → Prop) (l : List Oper) (e : Env) (w : World) : Prop :=
  ∀ ro a, Rel ro n e a → wpListIn (fen ro) 0 P ops (lift ro n N X) l a w

section rules
variable {P : Program} {n : Nat} {N : Env → World → Prop} {X : Exit → Env → World → Prop} {e : Env} {w : World}

theorem W_seq {x y : Code} (h : W P n x (fun e w => W P n y N X e w) X e w) : W P n (.seq x y) N X e w := by
  intro ro a ha
  refine wpIn_seq (wpIn_mono (h ro a ha) ?_)
  intro ex a w hq
  cases ex with
  | normal => obtain ⟨e, he, hn⟩ := hq; exact hn ro a he
  | panic c => exact hq
  | outgrown => exact hq
  | _ => exact hq
theorem W_skip (h : N e w) : W P n .skip N X e w := fun ro a ha => wpIn_skip ⟨e, ha, h⟩
theorem W_label {l : Nat} (h : N e w) : W P n (.label l) N X e w := fun ro a ha => wpIn_label ⟨e, ha, h⟩
theorem W_exit {id : Nat} (h : X (.exit id) e w) : W P n (.exit id) N X e w := fun ro a ha => wpIn_exit ⟨e, ha, h⟩
theorem W_goto {l : Nat} (h : X (.goto l) e w) : W P n (.goto l) N X e w := fun ro a ha => wpIn_goto ⟨e, ha, h⟩
theorem W_ret (h : X .ret e w) : W P n .ret N X e w := fun ro a ha => wpIn_ret ⟨e, ha, h⟩
theorem W_cond {c : Operand} {x y : Code} {t : Bool} (hc : ev e c = .bool t) (h : W P n (if t then x else y) N X e w) : W P n (.cond c x y) N X e w :=
  fun ro a ha => wpIn_cond (by rw [ha.eval]; exact hc) (h ro a ha)
theorem W_then {c : Operand} {x y : Code} (hc : ev e c = .bool true) (h : W P n x N X e w) : W P n (.cond c x y) N X e w := W_cond hc h
theorem W_else {c : Operand} {x y : Code} (hc : ev e c = .bool false) (h : W P n y N X e w) : W P n (.cond c x y) N X e w := W_cond hc h
theorem W_ifp {c : Operand} {x y : Code} {p : Prop} {dp : Decidable p} (hc : ev e c = .bool (@decide p dp)) (h1 : p → W P n x N X e w) (h2 : ¬ p → W P n y N X e w) : W P n (.cond c x y) N X e w := by
  by_cases h : p
  · exact W_cond hc (by simpa [h] using h1 h)
  · exact W_cond hc (by simpa [h] using h2 h)
theorem W_if {c : Operand} {x y : Code} {t : Bool} (hc : ev e c = .bool t) (h1 : t = true → W P n x N X e w) (h2 : t = false → W P n y N X e w) : W P n (.cond c x y) N X e w := by
  cases t
  · exact W_cond hc (h2 rfl)
  · exact W_cond hc (h1 rfl)

def blk (id : Nat) (N : Env → World → Prop) (X : Exit → Env → World → Prop) : Exit → Env → World → Prop
  | .exit id', e, w => bif Nat.beq id' id then N e w else X (.exit id') e w
  | x, e, w => X x e w
theorem W_block {id : Nat} {c : Code} (h : W P n c N (blk id N X) e w) : W P n (.block id c) N X e w := by
  intro ro a ha
  refine wpIn_block (wpIn_mono (h ro a ha) ?_)
  intro ex a w hq
  cases ex with
  | exit id' =>
    obtain ⟨e, he, hb⟩ := hq
    simp only [blk] at hb
    simp only [Exit.inBlock]
    by_cases hi : id' = id
    · subst hi
      simp at hb
      simp
      exact ⟨e, he, hb⟩
    · have : Nat.beq id' id = false := by simp [beq_eq, hi]
      rw [this] at hb
      simp only [cond_false] at hb
      rw [if_neg hi]
      exact ⟨e, he, hb⟩
  | normal => exact hq
  | panic c => exact hq
  | outgrown => exact hq
  | _ => obtain ⟨e, he, hb⟩ := hq; exact ⟨e, he, hb⟩
theorem blk_hit {id : Nat} (h : N e w) : blk id N X (.exit id) e w := by simpa [blk] using h
theorem blk_miss {id id' : Nat} (hn : Nat.beq id' id = false) (h : X (.exit id') e w) : blk id N X (.exit id') e w := by simpa [blk, hn] using h
theorem blk_ret {id : Nat} (h : X .ret e w) : blk id N X .ret e w := h
theorem blk_goto {id l : Nat} (h : X (.goto l) e w) : blk id N X (.goto l) e w := h

theorem W_loop0 {c : Code} (I : Nat → Env → World → Prop) (k : Nat) (h₀ : I k e w)
    (round : ∀ k e w, I k e w → W P n c (fun e' w' => ∃ k', k' < k ∧ I k' e' w') X e w) : W P n (.loop c) N X e w := by
  intro ro a ha
  refine wpIn_loop_ghost (fun k a w => ∃ e, Rel ro n e a ∧ I k e w) k ⟨e, ha, h₀⟩ ?_
  intro k a w hI
  obtain ⟨e, he, hi⟩ := hI
  refine wpIn_mono (round k e w hi ro a he) ?_
  intro ex a w hq
  cases ex with
  | normal => obtain ⟨e, he, k', hk, hi⟩ := hq; exact ⟨k', hk, e, he, hi⟩
  | panic c => exact hq
  | outgrown => exact hq
  | _ => exact hq

theorem W_mono {c : Code} {N' : Env → World → Prop} {X' : Exit → Env → World → Prop} (h : W P n c N X e w) (hN : ∀ e w, N e w → N' e w) (hX : ∀ x e w, X x e w → X' x e w) : W P n c N' X' e w := by
  intro ro a ha
  refine wpIn_mono (h ro a ha) ?_
  intro ex a w hq
  cases ex with
  | normal => obtain ⟨e, he, hn⟩ := hq; exact ⟨e, he, hN _ _ hn⟩
  | panic c => exact hq
  | outgrown => exact hq
  | _ => obtain ⟨e, he, hn⟩ := hq; exact ⟨e, he, hX _ _ _ hn⟩

/-- A loop whose rounds write the slots in D alone: R tells what holds at a round's head, when k rounds at most are still to come. -/
theorem W_loop {c : Code} (D : List Nat) (R : Nat → Env → World → Prop) (k : Nat) (h₀ : R k e w)
    (round : ∀ k g w', R k g w' → W P n c (fun e' w'' => (∃ k', k' < k ∧ R k' e' w'') ∧ Out D e' e) X (mix D g e) w') : W P n (.loop c) N X e w := by
  refine W_loop0 (fun k e' w' => R k e' w' ∧ Out D e' e) k ⟨h₀, Out.refl _ _⟩ ?_
  intro k g w' ⟨hR, hO⟩
  have := round k g w' hR
  rw [hO.mix_eq] at this
  refine W_mono this ?_ (fun _ _ _ h => h)
  rintro e' w'' ⟨⟨k', hk, hR'⟩, hO'⟩
  exact ⟨k', hk, hR', hO'⟩
/-- What holds between two pieces of code. -/
theorem W_cut {x y : Code} (D : List Nat) (J : Env → World → Prop) (h : W P n x (fun e' w' => J e' w' ∧ Out D e' e) X e w)
    (h2 : ∀ g w', J g w' → W P n y N X (mix D g e) w') : W P n (.seq x y) N X e w := by
  refine W_seq (W_mono h ?_ (fun _ _ _ h => h))
  rintro g w' ⟨hJ, hO⟩
  have := h2 g w' hJ
  rwa [hO.mix_eq] at this
/-- The value of a slot, written out. -/
theorem W_set {c : Code} {i : Nat} {v : Value} (hv : e i = v) (h : W P n c N X (put e i v) w) : W P n c N X e w := by
  have : put e i v = e := by
    funext j
    by_cases hj : j = i
    · subst hj; rw [put_same, hv]
    · rw [put_ne _ _ _ _ hj]
  rwa [this] at h

theorem W_region {id : Nat} {l : List Oper} (h : WL P n l.toArray N X l e w) : W P n (.region id l.toArray false) N X e w :=
  fun ro a ha => wpIn_region_lit (h ro a ha)

theorem WL_nil {ops : Array Oper} (h : N e w) : WL P n ops N X [] e w := fun _ _ ha => wpListIn_nil ⟨e, ha, h⟩

theorem wp_of_run {ro : Option Nat} {o : Oper} {a : Act} {K : Act → World → Prop} {Q : Exit → Act → World → Prop} {w w' : World} {v : Value}
    (hr : (execOp a.eval o).run P w = .ok (.value v) w') (h : K (a.put o.dst v) w') : o.wpIn (fen ro) 0 P a w K Q := by
  refine ⟨fun _ _ => trivial, ?_⟩
  rw [semAt_run hr (by simp)]
  exact h
theorem wp_of_skip {ro : Option Nat} {o : Oper} {a : Act} {K : Act → World → Prop} {Q : Exit → Act → World → Prop} {w w' : World}
    (hr : (execOp a.eval o).run P w = .ok .skip w') (h : K (a.put o.dst undef) w') : o.wpIn (fen ro) 0 P a w K Q := by
  refine ⟨fun _ _ => trivial, ?_⟩
  rw [semAt_run hr (by simp)]
  exact h
theorem wp_of_call {ro : Option Nat} {o : Oper} {a : Act} {K : Act → World → Prop} {Q : Exit → Act → World → Prop} {w w₁ : World} {f : FuncId} {args : Array Value} {R : Ending → World → Prop}
    (hr : (execOp a.eval o).run P w = .ok (.enter f args) w₁) (hc : Calls P f args w₁ R) (h : ∀ en w', R en w' → ∃ v, en = .returned v ∧ K (a.put o.dst v) w') : o.wpIn (fen ro) 0 P a w K Q := by
  refine ⟨fun _ _ => trivial, ?_⟩
  rw [semAt_run hr (by simp)]
  refine ⟨fun q => by simp [fen, Fence.wide] at q, callsIn_fen.2 (hc.mono ?_)⟩
  intro en w' hR
  obtain ⟨v, rfl, hw⟩ := h en w' hR
  exact hw

/-- An operation without a guard that yields a value. -/
theorem op {ops : Array Oper} {rest : List Oper} {d : Option Tmp} {x : Op} {t : TypeId} {pos : String} {af : Array Edge} {v : Value} {w' : World}
    (hd : dOk n d = true) (hr : (execOp (ev e) ⟨d, x, t, pos, af, none⟩).run P w = .ok (.value v) w')
    (h : WL P n ops N X rest (putO e d v) w') : WL P n ops N X (⟨d, x, t, pos, af, none⟩ :: rest) e w := by
  intro ro a ha
  refine wpListIn_plain rfl fun K hK => ?_
  refine wp_of_run (v := v) (w' := w') (by rw [ha.eval]; exact hr) ?_
  exact hK _ _ (h _ _ (ha.put hd v))
theorem opU {ops : Array Oper} {rest : List Oper} {x : Op} {t : TypeId} {pos : String} {af : Array Edge} {w' : World}
    (hr : (execOp (ev e) ⟨none, x, t, pos, af, none⟩).run P w = .ok .skip w')
    (h : WL P n ops N X rest e w') : WL P n ops N X (⟨none, x, t, pos, af, none⟩ :: rest) e w := by
  intro ro a ha
  refine wpListIn_plain rfl fun K hK => ?_
  refine wp_of_skip (w' := w') (by rw [ha.eval]; exact hr) ?_
  exact hK _ _ (h _ _ ha)
/-- A call. -/
theorem opC {ops : Array Oper} {rest : List Oper} {d : Option Tmp} {x : Op} {t : TypeId} {pos : String} {af : Array Edge} {f : FuncId} {args : Array Value} {w₁ : World} {R : Ending → World → Prop}
    (hd : dOk n d = true) (hr : (execOp (ev e) ⟨d, x, t, pos, af, none⟩).run P w = .ok (.enter f args) w₁)
    (hc : Calls P f args w₁ R)
    (h : ∀ en w', R en w' → ∃ v, en = .returned v ∧ WL P n ops N X rest (putO e d v) w') : WL P n ops N X (⟨d, x, t, pos, af, none⟩ :: rest) e w := by
  intro ro a ha
  refine wpListIn_plain rfl fun K hK => ?_
  refine wp_of_call (by rw [ha.eval]; exact hr) hc ?_
  intro en w' hR
  obtain ⟨v, rfl, hw⟩ := h en w' hR
  exact ⟨v, rfl, hK _ _ (hw _ _ (ha.put hd v))⟩
/-- The same where the result is written out. -/
theorem opCv {ops : Array Oper} {rest : List Oper} {d : Option Tmp} {x : Op} {t : TypeId} {pos : String} {af : Array Edge} {f : FuncId} {args : Array Value} {w₁ : World} {R : Value → World → Prop}
    (hd : dOk n d = true) (hr : (execOp (ev e) ⟨d, x, t, pos, af, none⟩).run P w = .ok (.enter f args) w₁)
    (hc : Calls P f args w₁ (fun en w' => ∃ v, en = .returned v ∧ R v w'))
    (h : ∀ v w', R v w' → WL P n ops N X rest (putO e d v) w') : WL P n ops N X (⟨d, x, t, pos, af, none⟩ :: rest) e w :=
  opC hd hr hc fun _ w' ⟨v, he, hR⟩ => ⟨v, he, h v w' hR⟩

/-- An operation with a guard: the guard's own value is known. -/
theorem opG {ops : Array Oper} {rest : List Oper} {d : Option Tmp} {x : Op} {t : TypeId} {pos : String} {af : Array Edge} {j : Nat} {want : Bool} {dj : Tmp} {b : Bool} {v : Value} {w' : World}
    (hj : (ops[j]?).bind (·.dst) = some dj) (hjn : Nat.blt dj n = true) (hb : e dj = .bool b)
    (hd : dOk n d = true)
    (hyes : b = want → (execOp (ev e) ⟨d, x, t, pos, af, some (j, want)⟩).run P w = .ok (.value v) w' ∧ WL P n ops N X rest (putO e d v) w')
    (hno : b ≠ want → WL P n ops N X rest (putO e d undef) w) : WL P n ops N X (⟨d, x, t, pos, af, some (j, want)⟩ :: rest) e w := by
  intro ro a ha
  have hlt : dj < a.tmps.size := by rw [ha.size]; simpa [Nat.blt_eq] using hjn
  have hy : yielded ops a.tmps j = some b := by
    unfold yielded
    have hg := ha.at (d := dj) (by simpa [Nat.blt_eq] using hjn)
    simp [hlt, hb] at hg
    simp [hj, hlt, hg]
  refine wpListIn_step fun K hK => ?_
  have hwt : Region.wanted ⟨d, x, t, pos, af, some (j, want)⟩ (yielded ops a.tmps) = (b == want) := by
    simp only [Region.wanted, hy]
    cases b <;> cases want <;> rfl
  rw [hwt]
  by_cases hbw : b = want
  · obtain ⟨h1, h2⟩ := hyes hbw
    simp only [hbw, beq_self_eq_true, if_true]
    refine wp_of_run (v := v) (w' := w') (by rw [ha.eval]; exact h1) ?_
    exact hK _ _ (h2 _ _ (ha.put hd v))
  · have : (b == want) = false := by simpa using hbw
    rw [this]
    simp only [Bool.false_eq_true, if_false]
    exact ⟨fun _ _ => trivial, hK _ _ (hno hbw _ _ (ha.put hd undef))⟩
theorem opG_no {ops : Array Oper} {rest : List Oper} {d : Option Tmp} {x : Op} {t : TypeId} {pos : String} {af : Array Edge} {j : Nat} {want : Bool} {dj : Tmp} {b : Bool}
    (hj : (ops[j]?).bind (·.dst) = some dj) (hjn : Nat.blt dj n = true) (hb : e dj = .bool b)
    (hd : dOk n d = true) (hne : (b == want) = false)
    (h : WL P n ops N X rest (putO e d undef) w) : WL P n ops N X (⟨d, x, t, pos, af, some (j, want)⟩ :: rest) e w := by
  intro ro a ha
  have hlt : dj < a.tmps.size := by rw [ha.size]; simpa [Nat.blt_eq] using hjn
  have hy : yielded ops a.tmps j = some b := by
    unfold yielded
    have hg := ha.at (d := dj) (by simpa [Nat.blt_eq] using hjn)
    simp [hlt, hb] at hg
    simp [hj, hlt, hg]
  refine wpListIn_step fun K hK => ?_
  have hwt : Region.wanted ⟨d, x, t, pos, af, some (j, want)⟩ (yielded ops a.tmps) = (b == want) := by
    simp only [Region.wanted, hy]
    cases b <;> cases want <;> rfl
  rw [hwt, hne]
  simp only [Bool.false_eq_true, if_false]
  exact ⟨fun _ _ => trivial, hK _ _ (h _ _ (ha.put hd undef))⟩
theorem opG_yes {ops : Array Oper} {rest : List Oper} {d : Option Tmp} {x : Op} {t : TypeId} {pos : String} {af : Array Edge} {j : Nat} {want : Bool} {dj : Tmp} {b : Bool} {v : Value} {w' : World}
    (hj : (ops[j]?).bind (·.dst) = some dj) (hjn : Nat.blt dj n = true) (hb : e dj = .bool b)
    (hd : dOk n d = true) (he : (b == want) = true)
    (hr : (execOp (ev e) ⟨d, x, t, pos, af, some (j, want)⟩).run P w = .ok (.value v) w')
    (h : WL P n ops N X rest (putO e d v) w') : WL P n ops N X (⟨d, x, t, pos, af, some (j, want)⟩ :: rest) e w := by
  have hbw : b = want := by simpa using he
  exact opG hj hjn hb hd (fun _ => ⟨hr, h⟩) (fun hn => absurd hbw hn)
theorem opGC_yes {ops : Array Oper} {rest : List Oper} {d : Option Tmp} {x : Op} {t : TypeId} {pos : String} {af : Array Edge} {j : Nat} {want : Bool} {dj : Tmp} {b : Bool} {f : FuncId} {args : Array Value} {w₁ : World} {R : Ending → World → Prop}
    (hj : (ops[j]?).bind (·.dst) = some dj) (hjn : Nat.blt dj n = true) (hb : e dj = .bool b)
    (hd : dOk n d = true) (he : (b == want) = true)
    (hr : (execOp (ev e) ⟨d, x, t, pos, af, some (j, want)⟩).run P w = .ok (.enter f args) w₁)
    (hc : Calls P f args w₁ R)
    (h : ∀ en w', R en w' → ∃ v, en = .returned v ∧ WL P n ops N X rest (putO e d v) w') : WL P n ops N X (⟨d, x, t, pos, af, some (j, want)⟩ :: rest) e w := by
  have hbw : b = want := by simpa using he
  intro ro a ha
  have hlt : dj < a.tmps.size := by rw [ha.size]; simpa [Nat.blt_eq] using hjn
  have hy : yielded ops a.tmps j = some b := by
    unfold yielded
    have hg := ha.at (d := dj) (by simpa [Nat.blt_eq] using hjn)
    simp [hlt, hb] at hg
    simp [hj, hlt, hg]
  refine wpListIn_step fun K hK => ?_
  have hwt : Region.wanted ⟨d, x, t, pos, af, some (j, want)⟩ (yielded ops a.tmps) = true := by
    simp only [Region.wanted, hy, hbw]
    cases want <;> rfl
  rw [hwt]
  simp only [if_true]
  refine wp_of_call (by rw [ha.eval]; exact hr) hc ?_
  intro en w' hR
  obtain ⟨v, rfl, hw⟩ := h en w' hR
  exact ⟨v, rfl, hK _ _ (hw _ _ (ha.put hd v))⟩
end rules

/-! The function as a whole. -/
/-- The loops over functions that were entered are shut. -/
def shut (P : Program) : List Deferred → World → World → Prop
  | [], w, w' => w' = w
  | d :: ds, w, w'' => ∃ r w', d.target = .collected r ∧ (Instr.takeDeferred r).run P w = .ok [] w' ∧ shut P ds w' w''
def fin (P : Program) (rs : Array ResultVar) (R : Ending → World → Prop) (e : Env) (w : World) : Prop :=
  ∃ w', shut P (marks (e slotM)) w w' ∧ ∀ tmps : Array Value, (∀ i, i ≠ slotM → tmps.getD i undef = e i) → ∃ v, (do
    let vs ← rs.mapM fun
      | .tmp t => pure (tmps.getD t undef)
      | .cell a t => do loadVar t (← asAddr (tmps.getD a undef))
    pure (if h : vs.size = 1 then vs[0] else .tuple vs) : Sem Value).run P w' = .ok v w' ∧ R (.returned v) w'
def finX (P : Program) (rs : Array ResultVar) (R : Ending → World → Prop) : Exit → Env → World → Prop
  | .ret, e, w => fin P rs R e w
  | _, _, _ => False

theorem leaves_of_shut {P : Program} {fn : Func} {tmps : Array Value} {R : Ending → World → Prop} {F : Fence} {n : Nat} : ∀ (ds : List Deferred) (w w' : World), shut P ds w w' → (∃ v, (results fn tmps).run P w' = .ok v w' ∧ R (.returned v) w') → LeavesInM F n P fn tmps R ds .returning w
  | [], w, w', h, hv => by cases h; exact hv
  | d :: ds, w, w'', ⟨r, w', h1, h2, h3⟩, hv => ⟨by simp, Or.inl ⟨r, w', h1, h2, leaves_of_shut ds w' w'' h3 hv⟩⟩

theorem calls {P : Program} {f : FuncId} {fn : Func} {c : Code} {args : List Value} {w : World} {R : Ending → World → Prop}
    (hf : P.funcs[f]? = some fn) (hb : fn.body = some c) (hn : Nat.ble args.length fn.ntmps = true) (hk : Nat.ble fn.ntmps slotM = true)
    (h : W P fn.ntmps c (fin P fn.results R) (finX P fn.results R) (ent args) w) : Calls P f args.toArray w R := by
  refine (callsIn_fen (ro := none) (n := 0)).1 (callsIn_of_wp_marks hf hb trivial ?_ rfl)
  refine wpIn_mono (h none _ (Rel.entry args fn.ntmps (by simpa using hn) (by simpa using hk))) ?_
  intro ex a w hq
  cases ex with
  | normal =>
    obtain ⟨e, he, w', hs, hN⟩ := hq
    show LeavesInM _ _ _ _ _ _ _ _ _
    rw [he.defers]
    exact leaves_of_shut _ _ _ hs (hN a.tmps he.get)
  | ret =>
    obtain ⟨e, he, w', hs, hN⟩ := hq
    show LeavesInM _ _ _ _ _ _ _ _ _
    rw [he.defers]
    exact leaves_of_shut _ _ _ hs (hN a.tmps he.get)
  | panic c => exact hq.elim
  | outgrown => exact hq.elim
  | exit _ => obtain ⟨e, he, hN⟩ := hq; exact hN.elim
  | goto _ => obtain ⟨e, he, hN⟩ := hq; exact hN.elim

theorem calls' {P : Program} {f : FuncId} {fn : Func} {c : Code} {l : List Value} {w : World} {n : Nat} {rs : Array ResultVar} {R : Ending → World → Prop}
    (hf : P.funcs[f]? = some fn) (hb : fn.body = some c) (hn : fn.ntmps = n) (hr : fn.results = rs) (hl : Nat.ble l.length n = true) (hk : Nat.ble n slotM = true)
    (h : W P n c (fin P rs R) (finX P rs R) (ent l) w) : Calls P f l.toArray w R := by
  subst hn; subst hr
  exact calls hf hb hl hk h
/-- No loop over a function is to be shut. -/
theorem fin_plain {P : Program} {rs : Array ResultVar} {R : Ending → World → Prop} {e : Env} {w : World} (hm : e slotM = undef)
    (h : ∀ tmps : Array Value, (∀ i, i ≠ slotM → tmps.getD i undef = e i) → ∃ v, (do
    let vs ← rs.mapM fun
      | .tmp t => pure (tmps.getD t undef)
      | .cell a t => do loadVar t (← asAddr (tmps.getD a undef))
    pure (if h : vs.size = 1 then vs[0] else .tuple vs) : Sem Value).run P w = .ok v w ∧ R (.returned v) w) : fin P rs R e w := ⟨w, by rw [hm]; rfl, h⟩
/-- One is: its block for deferred calls is shut. -/
theorem fin_mark {P : Program} {rs : Array ResultVar} {R : Ending → World → Prop} {e : Env} {w : World} {D : Nat} (hm : e slotM = .tuple #[.int .i64 D]) (hD : w.heap[D]? = some (.deferred (some [])))
    (h : ∀ w', w.putObj D (.deferred none) = w' → fin P rs R (put e slotM undef) w') : fin P rs R e w := by
  obtain ⟨w', hs, hv⟩ := h _ rfl
  rw [put_same] at hs
  cases hs
  refine ⟨_, ?_, fun tmps ht => hv tmps fun i hi => by rw [put_ne _ _ _ _ hi]; exact ht i hi⟩
  rw [hm]
  refine ⟨D, _, ?_, run_takeDeferred hD, rfl⟩
  show Target.collected ((D : Int).toNat) = _
  simp
theorem fin0 {P : Program} {R : Ending → World → Prop} {e : Env} {w : World} (h : R (.returned (.tuple #[])) w) (hm : e slotM = undef := by rfl) : fin P #[] R e w := by
  refine fin_plain hm ?_
  intro tmps _
  exact ⟨.tuple #[], by simp, h⟩
theorem fin1 {P : Program} {t : Tmp} {R : Ending → World → Prop} {e : Env} {w : World} (h : R (.returned (e t)) w) (hm : e slotM = undef := by rfl) (k1 : Nat.beq t slotM = false := by rfl) : fin P #[.tmp t] R e w := by
  refine fin_plain hm ?_
  intro tmps ht
  refine ⟨e t, ?_, h⟩
  have := ht t (by rw [beq_eq] at k1; simpa using k1)
  simp at this
  simp [this]
theorem fin2 {P : Program} {t u : Tmp} {R : Ending → World → Prop} {e : Env} {w : World} (h : R (.returned (.tuple #[e t, e u])) w) (hm : e slotM = undef := by rfl) (k1 : Nat.beq t slotM = false := by rfl) (k2 : Nat.beq u slotM = false := by rfl) : fin P #[.tmp t, .tmp u] R e w := by
  refine fin_plain hm ?_
  intro tmps ht
  refine ⟨.tuple #[e t, e u], ?_, h⟩
  have h1 := ht t (by rw [beq_eq] at k1; simpa using k1)
  have h2 := ht u (by rw [beq_eq] at k2; simpa using k2)
  simp at h1 h2
  simp [h1, h2]
theorem fin3 {P : Program} {t u s : Tmp} {R : Ending → World → Prop} {e : Env} {w : World} (h : R (.returned (.tuple #[e t, e u, e s])) w) (hm : e slotM = undef := by rfl) (k1 : Nat.beq t slotM = false := by rfl) (k2 : Nat.beq u slotM = false := by rfl) (k3 : Nat.beq s slotM = false := by rfl) : fin P #[.tmp t, .tmp u, .tmp s] R e w := by
  refine fin_plain hm ?_
  intro tmps ht
  refine ⟨.tuple #[e t, e u, e s], ?_, h⟩
  have h1 := ht t (by rw [beq_eq] at k1; simpa using k1)
  have h2 := ht u (by rw [beq_eq] at k2; simpa using k2)
  have h3 := ht s (by rw [beq_eq] at k3; simpa using k3)
  simp at h1 h2 h3
  simp [h1, h2, h3]
theorem finX_ret {P : Program} {rs : Array ResultVar} {R : Ending → World → Prop} {e : Env} {w : World} (h : fin P rs R e w) : finX P rs R .ret e w := h
end Go.Eng

/-
  The engine: what single operations come to. Generic: no program.
-/
namespace Go.Eng
set_option linter.unusedVariables false
set_option linter.unusedSimpArgs false
variable {P : Program} {ρ : Operand → Value} {w : World} {d : Option Tmp} {t : TypeId} {pos : String} {af : Array Edge} {g : Option (Nat × Bool)}

theorem r_move {x : Operand} : (execOp ρ ⟨d, .move x, t, pos, af, g⟩).run P w = .ok (.value (ρ x)) w := rfl
theorem r_assign {x : Operand} : (execOp ρ ⟨d, .assign x, t, pos, af, g⟩).run P w = .ok (.value (ρ x)) w := rfl
theorem r_moveV {x : Operand} {v : Value} (hx : ρ x = v) : (execOp ρ ⟨d, .move x, t, pos, af, g⟩).run P w = .ok (.value v) w := hx ▸ rfl
theorem r_assignV {x : Operand} {v : Value} (hx : ρ x = v) : (execOp ρ ⟨d, .assign x, t, pos, af, g⟩).run P w = .ok (.value v) w := hx ▸ rfl
theorem r_pick {c x y : Operand} {b : Bool} (hc : ρ c = .bool b) : (execOp ρ ⟨d, .pick c x y, t, pos, af, g⟩).run P w = .ok (.value (if b then ρ x else ρ y)) w := by
  simp [execOp, hc, asBool]
theorem r_pickT {c x y : Operand} (hc : ρ c = .bool true) : (execOp ρ ⟨d, .pick c x y, t, pos, af, g⟩).run P w = .ok (.value (ρ x)) w := by
  simp [execOp, hc, asBool]
theorem r_pickF {c x y : Operand} (hc : ρ c = .bool false) : (execOp ρ ⟨d, .pick c x y, t, pos, af, g⟩).run P w = .ok (.value (ρ y)) w := by
  simp [execOp, hc, asBool]

theorem r_pickTV {c x y : Operand} {v : Value} (hc : ρ c = .bool true) (hx : ρ x = v) : (execOp ρ ⟨d, .pick c x y, t, pos, af, g⟩).run P w = .ok (.value v) w := by rw [r_pickT hc, hx]
theorem r_pickFV {c x y : Operand} {v : Value} (hc : ρ c = .bool false) (hx : ρ y = v) : (execOp ρ ⟨d, .pick c x y, t, pos, af, g⟩).run P w = .ok (.value v) w := by rw [r_pickF hc, hx]

/-! whole numbers -/
section ints
variable {x y : Operand} {k : IntKind} {m n : Int} {xt yt : TypeId}
theorem r_add (hx : ρ x = .int k m) (hy : ρ y = .int k n) : (execOp ρ ⟨d, .binOp .add xt x y yt, t, pos, af, g⟩).run P w = .ok (.value (.int k (k.wrap (m + n)))) w := by
  simp [execOp, hx, hy, eqGuard, binOp, Op.intArith]
theorem r_sub (hx : ρ x = .int k m) (hy : ρ y = .int k n) : (execOp ρ ⟨d, .binOp .sub xt x y yt, t, pos, af, g⟩).run P w = .ok (.value (.int k (k.wrap (m - n)))) w := by
  simp [execOp, hx, hy, eqGuard, binOp, Op.intArith]
theorem r_mul (hx : ρ x = .int k m) (hy : ρ y = .int k n) : (execOp ρ ⟨d, .binOp .mul xt x y yt, t, pos, af, g⟩).run P w = .ok (.value (.int k (k.wrap (m * n)))) w := by
  simp [execOp, hx, hy, eqGuard, binOp, Op.intArith]
theorem r_add' {r : Int} (hx : ρ x = .int k m) (hy : ρ y = .int k n) (hr : k.wrap (m + n) = r) : (execOp ρ ⟨d, .binOp .add xt x y yt, t, pos, af, g⟩).run P w = .ok (.value (.int k r)) w := hr ▸ r_add hx hy
theorem r_sub' {r : Int} (hx : ρ x = .int k m) (hy : ρ y = .int k n) (hr : k.wrap (m - n) = r) : (execOp ρ ⟨d, .binOp .sub xt x y yt, t, pos, af, g⟩).run P w = .ok (.value (.int k r)) w := hr ▸ r_sub hx hy
theorem r_mul' {r : Int} (hx : ρ x = .int k m) (hy : ρ y = .int k n) (hr : k.wrap (m * n) = r) : (execOp ρ ⟨d, .binOp .mul xt x y yt, t, pos, af, g⟩).run P w = .ok (.value (.int k r)) w := hr ▸ r_mul hx hy
theorem r_quo (hx : ρ x = .int k m) (hy : ρ y = .int k n) (hn : n ≠ 0) : (execOp ρ ⟨d, .binOp .quo xt x y yt, t, pos, af, g⟩).run P w = .ok (.value (.int k (k.wrap (m.tdiv n)))) w := by
  simp [execOp, hx, hy, eqGuard, binOp, Op.intDiv, hn]
theorem r_rem (hx : ρ x = .int k m) (hy : ρ y = .int k n) (hn : n ≠ 0) : (execOp ρ ⟨d, .binOp .rem xt x y yt, t, pos, af, g⟩).run P w = .ok (.value (.int k (m.tmod n))) w := by
  simp [execOp, hx, hy, eqGuard, binOp, Op.intDiv, hn]
theorem r_and (hx : ρ x = .int k m) (hy : ρ y = .int k n) : (execOp ρ ⟨d, .binOp .and xt x y yt, t, pos, af, g⟩).run P w = .ok (.value (.int k (bits .and k m n))) w := by
  simp [execOp, hx, hy, eqGuard, binOp, Op.intBits, bits]
theorem r_or (hx : ρ x = .int k m) (hy : ρ y = .int k n) : (execOp ρ ⟨d, .binOp .or xt x y yt, t, pos, af, g⟩).run P w = .ok (.value (.int k (bits .or k m n))) w := by
  simp [execOp, hx, hy, eqGuard, binOp, Op.intBits, bits]
theorem r_xor (hx : ρ x = .int k m) (hy : ρ y = .int k n) : (execOp ρ ⟨d, .binOp .xor xt x y yt, t, pos, af, g⟩).run P w = .ok (.value (.int k (bits .xor k m n))) w := by
  simp [execOp, hx, hy, eqGuard, binOp, Op.intBits, bits]
theorem r_shl {ky : IntKind} (hx : ρ x = .int k m) (hy : ρ y = .int ky n) (hn : 0 ≤ n) : (execOp ρ ⟨d, .binOp .shl xt x y yt, t, pos, af, g⟩).run P w = .ok (.value (.int k (k.wrap (m * 2 ^ (min n.toNat k.bits))))) w := by
  have : ¬ n < 0 := by omega
  simp [execOp, hx, hy, eqGuard, binOp, Op.shift, this]
theorem r_shr {ky : IntKind} (hx : ρ x = .int k m) (hy : ρ y = .int ky n) (hn : 0 ≤ n) : (execOp ρ ⟨d, .binOp .shr xt x y yt, t, pos, af, g⟩).run P w = .ok (.value (.int k (m.fdiv (2 ^ (min n.toNat k.bits))))) w := by
  have : ¬ n < 0 := by omega
  simp [execOp, hx, hy, eqGuard, binOp, Op.shift, this]
theorem r_eql (hx : ρ x = .int k m) (hy : ρ y = .int k n) : (execOp ρ ⟨d, .binOp .eql xt x y yt, t, pos, af, g⟩).run P w = .ok (.value (.bool (decide (m = n)))) w := by
  have : (m == n) = decide (m = n) := by by_cases h : m = n <;> simp [h]
  simp [execOp, hx, hy, eqGuard, binOp, Op.intCmp, this]
theorem r_neq (hx : ρ x = .int k m) (hy : ρ y = .int k n) : (execOp ρ ⟨d, .binOp .neq xt x y yt, t, pos, af, g⟩).run P w = .ok (.value (.bool (decide (m ≠ n)))) w := by
  have : (m != n) = decide (m ≠ n) := by by_cases h : m = n <;> simp [h]
  simp [execOp, hx, hy, eqGuard, binOp, Op.intCmp, this]
theorem r_lss (hx : ρ x = .int k m) (hy : ρ y = .int k n) : (execOp ρ ⟨d, .binOp .lss xt x y yt, t, pos, af, g⟩).run P w = .ok (.value (.bool (decide (m < n)))) w := by
  simp [execOp, hx, hy, eqGuard, binOp, Op.intCmp]
theorem r_leq (hx : ρ x = .int k m) (hy : ρ y = .int k n) : (execOp ρ ⟨d, .binOp .leq xt x y yt, t, pos, af, g⟩).run P w = .ok (.value (.bool (decide (m ≤ n)))) w := by
  simp [execOp, hx, hy, eqGuard, binOp, Op.intCmp]
theorem r_gtr (hx : ρ x = .int k m) (hy : ρ y = .int k n) : (execOp ρ ⟨d, .binOp .gtr xt x y yt, t, pos, af, g⟩).run P w = .ok (.value (.bool (decide (m > n)))) w := by
  simp [execOp, hx, hy, eqGuard, binOp, Op.intCmp]
theorem r_geq (hx : ρ x = .int k m) (hy : ρ y = .int k n) : (execOp ρ ⟨d, .binOp .geq xt x y yt, t, pos, af, g⟩).run P w = .ok (.value (.bool (decide (m ≥ n)))) w := by
  simp [execOp, hx, hy, eqGuard, binOp, Op.intCmp]
theorem r_conv {st dt : TypeId} {k' : IntKind} {td : TypeDesc} (hx : ρ x = .int k m) (hs : P.underlying st = some td) (hd : P.underlying dt = some (.int k')) : (execOp ρ ⟨d, .convert st dt x, t, pos, af, g⟩).run P w = .ok (.value (.int k' (k'.wrap m))) w := by
  cases td <;> simp [execOp, hx, convert, run_underlying hs, run_underlying hd, Conv.intToInt]
end ints
/-! wraps -/
theorem wrap_i64 {x : Int} (h1 : -9223372036854775808 ≤ x) (h2 : x ≤ 9223372036854775807) : IntKind.wrap .i64 x = x := by
  simp only [IntKind.wrap, IntKind.bits, IntKind.signed]
  simp
  split <;> omega
theorem wrap_u64 {x : Int} (h1 : 0 ≤ x) (h2 : x ≤ 18446744073709551615) : IntKind.wrap .u64 x = x := by
  simp only [IntKind.wrap, IntKind.bits, IntKind.signed]
  simp
  omega
theorem wrap_u32 {x : Int} (h1 : 0 ≤ x) (h2 : x ≤ 4294967295) : IntKind.wrap .u32 x = x := by
  simp only [IntKind.wrap, IntKind.bits, IntKind.signed]
  simp
  omega
theorem wrap_u8 {x : Int} (h1 : 0 ≤ x) (h2 : x ≤ 255) : IntKind.wrap .u8 x = x := by
  simp only [IntKind.wrap, IntKind.bits, IntKind.signed]
  simp
  omega
theorem wrap_u32_mod (x : Int) : IntKind.wrap .u32 x = x % 4294967296 := by simp [IntKind.wrap, IntKind.bits, IntKind.signed]
theorem wrap_u8_mod (x : Int) : IntKind.wrap .u8 x = x % 256 := by simp [IntKind.wrap, IntKind.bits, IntKind.signed]
theorem wrap_u64_mod (x : Int) : IntKind.wrap .u64 x = x % 18446744073709551616 := by simp [IntKind.wrap, IntKind.bits, IntKind.signed]

theorem r_notB {x : Operand} {xt : TypeId} {b : Bool} (hx : ρ x = .bool b) : (execOp ρ ⟨d, .unOp .not xt x, t, pos, af, g⟩).run P w = .ok (.value (.bool (!b))) w := by
  simp [execOp, hx, Op.unary]
theorem r_notP {x : Operand} {xt : TypeId} {p : Prop} [Decidable p] (hx : ρ x = .bool (decide p)) : (execOp ρ ⟨d, .unOp .not xt x, t, pos, af, g⟩).run P w = .ok (.value (.bool (decide (¬ p)))) w := by
  rw [r_notB hx]; by_cases h : p <;> simp [h]
theorem r_neg {x : Operand} {xt : TypeId} {k : IntKind} {m : Int} (hx : ρ x = .int k m) : (execOp ρ ⟨d, .unOp .neg xt x, t, pos, af, g⟩).run P w = .ok (.value (.int k (k.wrap (0 - m)))) w := by
  simp [execOp, hx, Op.unary, Op.intArith]
theorem r_xor1 {x : Operand} {xt : TypeId} {k : IntKind} {m : Int} (hx : ρ x = .int k m) : (execOp ρ ⟨d, .unOp .xor xt x, t, pos, af, g⟩).run P w = .ok (.value (.int k (bits .xor k (if k.signed then -1 else k.max) m))) w := by
  simp [execOp, hx, Op.unary, Op.intBits, bits]


/-! a call of a function by its name -/
theorem r_call {e : Env} {f : FuncId} {fn : Func} {xs : List Operand} {ts : Array TypeId} (hf : P.funcs[f]? = some fn) (hn : (fn.name == "runtime.NumGoroutine") = false) (hb : fn.body.isNone = false) :
    (execOp (ev e) ⟨d, .call { callee := .value (.func f), args := xs.toArray, argTypes := ts }, t, pos, af, g⟩).run P w =
      .ok (.enter f (List.map (ev e) xs).toArray) w := by
  have : execOp (ev e) ⟨d, .call { callee := .value (.func f), args := xs.toArray, argTypes := ts }, t, pos, af, g⟩ = callFunc f (#[] ++ xs.toArray.map (ev e) ++ #[]) := rfl
  rw [this]
  have hn' : ¬ fn.name = "runtime.NumGoroutine" := by simpa using hn
  have hb' : ¬ fn.body = none := by intro h; rw [h] at hb; simp at hb
  simp [callFunc, program, Sem.run, hf, hn', hb']

theorem r_conv' {x : Operand} {k : IntKind} {m r : Int} {st dt : TypeId} {k' : IntKind} {td : TypeDesc} (hx : ρ x = .int k m) (hs : P.underlying st = some td) (hd : P.underlying dt = some (.int k')) (hr : k'.wrap m = r) :
    (execOp ρ ⟨d, .convert st dt x, t, pos, af, g⟩).run P w = .ok (.value (.int k' r)) w := hr ▸ r_conv hx hs hd
theorem r_extract {x : Operand} {i : Nat} {vs : List Value} {v : Value} (hx : ρ x = .tuple vs.toArray) (hv : vs[i]? = some v) : (execOp ρ ⟨d, .extract x i, t, pos, af, g⟩).run P w = .ok (.value v) w := by
  simp [execOp, Instr.extract, hx, hv]
theorem r_makeFunc {fn : Fn} {first cap : List Operand} : (execOp ρ ⟨d, .makeFunc fn first.toArray cap.toArray, t, pos, af, g⟩).run P w = .ok (.value (.func fn (first.map ρ).toArray (cap.map ρ).toArray)) w := by
  simp [execOp, Instr.makeFunc]

section split
variable {n : Nat} {N : Env → World → Prop} {X : Exit → Env → World → Prop} {e : Env} {ops : Array Oper} {rest : List Oper} {x : Op} {w' : World} {p : Prop} {dp : Decidable p}
theorem op_true (hd : dOk n d = true) (hr : (execOp (ev e) ⟨d, x, t, pos, af, none⟩).run P w = .ok (.value (.bool (@decide p dp))) w') (hp : p)
    (h : WL P n ops N X rest (putO e d (.bool true)) w') : WL P n ops N X (⟨d, x, t, pos, af, none⟩ :: rest) e w :=
  op hd hr (by simpa [hp] using h)
theorem op_false (hd : dOk n d = true) (hr : (execOp (ev e) ⟨d, x, t, pos, af, none⟩).run P w = .ok (.value (.bool (@decide p dp))) w') (hp : ¬ p)
    (h : WL P n ops N X rest (putO e d (.bool false)) w') : WL P n ops N X (⟨d, x, t, pos, af, none⟩ :: rest) e w :=
  op hd hr (by simpa [hp] using h)
theorem op_split (hd : dOk n d = true) (hr : (execOp (ev e) ⟨d, x, t, pos, af, none⟩).run P w = .ok (.value (.bool (@decide p dp))) w')
    (h1 : p → WL P n ops N X rest (putO e d (.bool true)) w') (h2 : ¬ p → WL P n ops N X rest (putO e d (.bool false)) w') : WL P n ops N X (⟨d, x, t, pos, af, none⟩ :: rest) e w := by
  by_cases hp : p
  · exact op_true hd hr hp (h1 hp)
  · exact op_false hd hr hp (h2 hp)
theorem op_splitB {b : Bool} (hd : dOk n d = true) (hr : (execOp (ev e) ⟨d, x, t, pos, af, none⟩).run P w = .ok (.value (.bool b)) w')
    (h1 : b = true → WL P n ops N X rest (putO e d (.bool true)) w') (h2 : b = false → WL P n ops N X rest (putO e d (.bool false)) w') : WL P n ops N X (⟨d, x, t, pos, af, none⟩ :: rest) e w := by
  cases b
  · exact op hd hr (h2 rfl)
  · exact op hd hr (h1 rfl)
variable {j : Nat} {want : Bool} {dj : Tmp} {b : Bool}
theorem opG_true (hj : (ops[j]?).bind (·.dst) = some dj) (hjn : Nat.blt dj n = true) (hb : e dj = .bool b) (he : (b == want) = true) (hd : dOk n d = true)
    (hr : (execOp (ev e) ⟨d, x, t, pos, af, some (j, want)⟩).run P w = .ok (.value (.bool (@decide p dp))) w') (hp : p)
    (h : WL P n ops N X rest (putO e d (.bool true)) w') : WL P n ops N X (⟨d, x, t, pos, af, some (j, want)⟩ :: rest) e w :=
  opG_yes hj hjn hb hd he hr (by simpa [hp] using h)
theorem opG_false (hj : (ops[j]?).bind (·.dst) = some dj) (hjn : Nat.blt dj n = true) (hb : e dj = .bool b) (he : (b == want) = true) (hd : dOk n d = true)
    (hr : (execOp (ev e) ⟨d, x, t, pos, af, some (j, want)⟩).run P w = .ok (.value (.bool (@decide p dp))) w') (hp : ¬ p)
    (h : WL P n ops N X rest (putO e d (.bool false)) w') : WL P n ops N X (⟨d, x, t, pos, af, some (j, want)⟩ :: rest) e w :=
  opG_yes hj hjn hb hd he hr (by simpa [hp] using h)
theorem opG_split (hj : (ops[j]?).bind (·.dst) = some dj) (hjn : Nat.blt dj n = true) (hb : e dj = .bool b) (he : (b == want) = true) (hd : dOk n d = true)
    (hr : (execOp (ev e) ⟨d, x, t, pos, af, some (j, want)⟩).run P w = .ok (.value (.bool (@decide p dp))) w')
    (h1 : p → WL P n ops N X rest (putO e d (.bool true)) w') (h2 : ¬ p → WL P n ops N X rest (putO e d (.bool false)) w') : WL P n ops N X (⟨d, x, t, pos, af, some (j, want)⟩ :: rest) e w := by
  by_cases hp : p
  · exact opG_true hj hjn hb he hd hr hp (h1 hp)
  · exact opG_false hj hjn hb he hd hr hp (h2 hp)
theorem opGCv_yes {f : FuncId} {args : Array Value} {w₁ : World} {R : Value → World → Prop}
    (hj : (ops[j]?).bind (·.dst) = some dj) (hjn : Nat.blt dj n = true) (hb : e dj = .bool b) (he : (b == want) = true) (hd : dOk n d = true)
    (hr : (execOp (ev e) ⟨d, x, t, pos, af, some (j, want)⟩).run P w = .ok (.enter f args) w₁)
    (hc : Calls P f args w₁ (fun en w' => ∃ v, en = .returned v ∧ R v w'))
    (h : ∀ v w', R v w' → WL P n ops N X rest (putO e d v) w') : WL P n ops N X (⟨d, x, t, pos, af, some (j, want)⟩ :: rest) e w :=
  opGC_yes hj hjn hb hd he hr hc fun _ w' ⟨v, he, hR⟩ => ⟨v, he, h v w' hR⟩
end split

section more
variable {x y z : Operand} {xt yt : TypeId} {k : IntKind} {m n q r : Int}
theorem r_rem' (hx : ρ x = .int k m) (hy : ρ y = .int k n) (hn : n ≠ 0) (hr : m.tmod n = r) : (execOp ρ ⟨d, .binOp .rem xt x y yt, t, pos, af, g⟩).run P w = .ok (.value (.int k r)) w := hr ▸ r_rem hx hy hn
theorem r_quo' (hx : ρ x = .int k m) (hy : ρ y = .int k n) (hn : n ≠ 0) (hr : k.wrap (m.tdiv n) = r) : (execOp ρ ⟨d, .binOp .quo xt x y yt, t, pos, af, g⟩).run P w = .ok (.value (.int k r)) w := hr ▸ r_quo hx hy hn
theorem run_equal_bool {a b : Bool} (hu : P.underlying xt = some .bool) : (Op.equal xt (.bool a) (.bool b)).run P w = .ok (a == b) w := by
  have h : ∀ n, (Op.equalIn (n + 1) xt (.bool a) (.bool b)).run P w = .ok (a == b) w := fun n => by simp only [Op.equalIn, Sem.run_bind, run_underlying hu, Result.andThen_ok]; rfl
  exact h 9999
theorem rb_eql {a b : Bool} (hx : ρ x = .bool a) (hy : ρ y = .bool b) (hu : P.underlying xt = some .bool) : (execOp ρ ⟨d, .binOp .eql xt x y yt, t, pos, af, g⟩).run P w = .ok (.value (.bool (decide (a = b)))) w := by
  have : (a == b) = decide (a = b) := by cases a <;> cases b <;> rfl
  simp [execOp, hx, hy, eqGuard, binOp, run_equal_bool hu, this]
theorem rb_neq {a b : Bool} (hx : ρ x = .bool a) (hy : ρ y = .bool b) (hu : P.underlying xt = some .bool) : (execOp ρ ⟨d, .binOp .neq xt x y yt, t, pos, af, g⟩).run P w = .ok (.value (.bool (decide (a ≠ b)))) w := by
  have : (!(a == b)) = decide (a ≠ b) := by cases a <;> cases b <;> rfl
  simp [execOp, hx, hy, eqGuard, binOp, run_equal_bool hu]
  cases a <;> cases b <;> rfl
end more

section minmax
variable {x y z : Operand} {ts : Array TypeId} {k : IntKind} {m n q : Int}
theorem ite_min (m n : Int) : (if n < m then n else m) = min m n := by rw [Int.min_def]; split <;> split <;> omega
theorem ite_max (m n : Int) : (if n > m then n else m) = max m n := by rw [Int.max_def]; split <;> split <;> omega
theorem r_min2 (hx : ρ x = .int k m) (hy : ρ y = .int k n) : (execOp ρ ⟨d, .call { callee := .builtin .min, args := #[x, y], argTypes := ts }, t, pos, af, g⟩).run P w = .ok (.value (.int k (min m n))) w := by
  rw [← ite_min]; simp [execOp, resolve, invoke, builtin, Builtin.min_, Builtin.min2, hx, hy]
theorem r_max2 (hx : ρ x = .int k m) (hy : ρ y = .int k n) : (execOp ρ ⟨d, .call { callee := .builtin .max, args := #[x, y], argTypes := ts }, t, pos, af, g⟩).run P w = .ok (.value (.int k (max m n))) w := by
  rw [← ite_max]; simp [execOp, resolve, invoke, builtin, Builtin.max_, Builtin.max2, hx, hy]
theorem r_min3 (hx : ρ x = .int k m) (hy : ρ y = .int k n) (hz : ρ z = .int k q) : (execOp ρ ⟨d, .call { callee := .builtin .min, args := #[x, y, z], argTypes := ts }, t, pos, af, g⟩).run P w = .ok (.value (.int k (min (min m n) q))) w := by
  rw [← ite_min m n, ← ite_min _ q]; simp [execOp, resolve, invoke, builtin, Builtin.min_, Builtin.min2, hx, hy, hz]
theorem r_min3n {a b c : Nat} (hx : ρ x = .int k a) (hy : ρ y = .int k b) (hz : ρ z = .int k c) : (execOp ρ ⟨d, .call { callee := .builtin .min, args := #[x, y, z], argTypes := ts }, t, pos, af, g⟩).run P w = .ok (.value (.int k (min (min a b) c : Nat))) w := by
  rw [r_min3 hx hy hz]; congr 3; omega
end minmax

end Go.Eng

/-
  The engine: memory. 'Ext': only new blocks. 'Ty': how cells read as data, by which blocks.
-/
namespace Go.Eng
set_option linter.unusedVariables false
set_option linter.unusedSimpArgs false
open Go.RowKit

/-- Nothing that is there has changed; there may be more. -/
abbrev Ext (w w' : World) : Prop := Below w.heap.size w w'
theorem Ext.refl (w : World) : Ext w w := Below.refl _ _
theorem Ext.trans {a b c : World} (h : Ext a b) (k : Ext b c) : Ext a c := Below.trans h (k.mono h.size)
theorem Ext.alloc (w : World) (o : Obj) : Ext w (w.alloc o) := (Below.refl _ _).alloc (Nat.le_refl _) o
theorem Ext.of_alloc {a w : World} (h : Ext a w) (o : Obj) : Ext a (w.alloc o) := h.trans (Ext.alloc w o)
theorem Ext.drew {a w : World} (h : Ext a w) : Ext a w.drew := Below.drew h
theorem Ext.drawn {a w : World} (h : Ext a w) (n : Nat) : Ext a { w with drawn := n } := ⟨h.os, h.tape, h.output, h.size, h.block⟩

/-- Blocks that 'F' names are as they were. -/
def Same (F : Nat → Prop) (w w' : World) : Prop := ∀ b, F b → w'.heap[b]? = w.heap[b]?
abbrev old (w : World) : Nat → Prop := fun b => b < w.heap.size
theorem Ext.same {w w' : World} (h : Ext w w') : Same (old w) w w' := fun b hb => h.block b hb
theorem Same.of {F G : Nat → Prop} {w w' : World} (h : Same F w w') (hg : ∀ b, G b → F b) : Same G w w' := fun b hb => h b (hg b hb)

/-- How cells read as data. -/
structure Ty (α : Type) where
  sz : Nat
  R : World → (Nat → Prop) → α → List Value → Prop
  len : ∀ {w F x cs}, R w F x cs → cs.length = sz
  one : ∀ {w F x cs}, R w F x cs → ∀ u ∈ cs, u.oneCell' = true
  keep : ∀ {w w' : World} {F F' : Nat → Prop} {x cs}, R w F x cs → Same F w w' → (∀ b, F b → F' b) → R w' F' x cs

theorem Ty.ext {α : Type} (T : Ty α) {w w' : World} {x : α} {cs : List Value} (h : T.R w (old w) x cs) (he : Ext w w') : T.R w' (old w') x cs :=
  T.keep h he.same fun b hb => Nat.lt_of_lt_of_le hb he.size

/-- The bounds of a kind of whole numbers. -/
def lo : IntKind → Int
  | .i8 => -128 | .i16 => -32768 | .i32 => -2147483648 | .i64 => -9223372036854775808 | _ => 0
def hi : IntKind → Int
  | .i8 => 127 | .i16 => 32767 | .i32 => 2147483647 | .i64 => 9223372036854775807
  | .u8 => 255 | .u16 => 65535 | .u32 => 4294967295 | .u64 => 18446744073709551615
def inK (k : IntKind) (n : Int) : Prop := lo k ≤ n ∧ n ≤ hi k

/-- How long a list, or a string, may be that came in: 2^47. -/
abbrev big : Nat := 140737488355328

namespace Ty
def scalar {α : Type} (enc : α → Value) (ok : α → Prop) (h1 : ∀ x, (enc x).oneCell' = true) : Ty α where
  sz := 1
  R := fun _ _ x cs => cs = [enc x] ∧ ok x
  len := by rintro _ _ _ _ ⟨rfl, _⟩; rfl
  one := by rintro _ _ x _ ⟨rfl, _⟩ u hu; simp at hu; subst hu; exact h1 x
  keep := fun h _ _ => h
def int (k : IntKind) : Ty Int := scalar (Value.int k) (inK k) (fun _ => rfl)
def byte : Ty UInt8 := scalar (fun b => Value.int .u8 b.toNat) (fun _ => True) (fun _ => rfl)
def bool : Ty Bool := scalar Value.bool (fun _ => True) (fun _ => rfl)
def string : Ty ByteArray := scalar Value.string (fun s => s.size ≤ big) (fun _ => rfl)

/-- The elements' own row. -/
def Row {α : Type} (T : Ty α) (w : World) (F : Nat → Prop) (A : Option Addr) (l : List α) : Prop :=
  l = [] ∨ ∃ g off c t fr, A = some ⟨g, off, none⟩ ∧ F g ∧ w.heap[g]? = some (.cells c t fr) ∧
    ∀ i (h : i < l.length), ∃ xs, T.R w F l[i] xs ∧ ∀ j, j < T.sz → c[off + i * T.sz + j]? = xs[j]?
theorem Row.nil {α : Type} {T : Ty α} {w : World} {F : Nat → Prop} {A : Option Addr} : T.Row w F A [] := Or.inl rfl
theorem Row.keep {α : Type} {T : Ty α} {w w' : World} {F F' : Nat → Prop} {A : Option Addr} {l : List α} (h : T.Row w F A l) (hs : Same F w w') (hF : ∀ b, F b → F' b) : T.Row w' F' A l := by
  rcases h with h | ⟨g, off, c, t, fr, rfl, hg, hb, hr⟩
  · exact Or.inl h
  · refine Or.inr ⟨g, off, c, t, fr, rfl, hF g hg, by rw [hs g hg]; exact hb, fun i hi => ?_⟩
    obtain ⟨xs, h1, h2⟩ := hr i hi
    exact ⟨xs, T.keep h1 hs hF, h2⟩
theorem Row.ext {α : Type} {T : Ty α} {w w' : World} {A : Option Addr} {l : List α} (h : T.Row w (old w) A l) (he : Ext w w') : T.Row w' (old w') A l :=
  h.keep he.same fun b hb => Nat.lt_of_lt_of_le hb he.size

def slice {α : Type} (T : Ty α) : Ty (List α) where
  sz := 1
  R := fun w F l cs => ∃ A cap, cs = [.slice A l.length cap] ∧ l.length ≤ cap ∧ l.length ≤ big ∧ T.Row w F A l
  len := by rintro _ _ _ _ ⟨A, cap, rfl, _⟩; rfl
  one := by rintro _ _ _ _ ⟨A, cap, rfl, _⟩ u hu; simp at hu; subst hu; rfl
  keep := fun ⟨A, cap, h1, h2, h3, h4⟩ hs hF => ⟨A, cap, h1, h2, h3, h4.keep hs hF⟩
def pair {α β : Type} (S : Ty α) (T : Ty β) : Ty (α × β) where
  sz := S.sz + T.sz
  R := fun w F x cs => ∃ c1 c2, cs = c1 ++ c2 ∧ S.R w F x.1 c1 ∧ T.R w F x.2 c2
  len := by rintro w F x cs ⟨c1, c2, rfl, h1, h2⟩; simp [S.len h1, T.len h2]
  one := by
    rintro w F x cs ⟨c1, c2, rfl, h1, h2⟩ u hu
    rcases List.mem_append.1 hu with h | h
    · exact S.one h1 u h
    · exact T.one h2 u h
  keep := fun ⟨c1, c2, h0, h1, h2⟩ hs hF => ⟨c1, c2, h0, S.keep h1 hs hF, T.keep h2 hs hF⟩
def iso {α β : Type} (T : Ty α) (f : β → α) : Ty β where
  sz := T.sz
  R := fun w F x cs => T.R w F (f x) cs
  len := fun h => T.len h
  one := fun h => T.one h
  keep := fun h hs hF => T.keep h hs hF
end Ty

/-! Addresses and loads. -/
theorem add_at (g off n : Nat) : (⟨g, off, none⟩ : Addr).add n = ⟨g, off + n, none⟩ := by
  unfold Addr.add; split <;> simp_all

/-- A row's elements lie where the index says. -/
theorem Ty.Row.cells {α : Type} {T : Ty α} {w : World} {F : Nat → Prop} {A : Option Addr} {l : List α} (h : T.Row w F A l) {i : Nat} (hi : i < l.length) :
    ∃ g off xs, A = some ⟨g, off, none⟩ ∧ F g ∧ T.R w F l[i] xs ∧ ∀ j, j < T.sz → w.cell? ⟨g, off + i * T.sz + j, none⟩ = xs[j]? := by
  rcases h with h | ⟨g, off, c, t, fr, rfl, hg, hb, hr⟩
  · subst h; simp at hi
  · obtain ⟨xs, h1, h2⟩ := hr i hi
    refine ⟨g, off, xs, rfl, hg, h1, fun j hj => ?_⟩
    rw [cell_of_row w g _ c t fr hb]
    exact h2 j hj
/-- A row of scalars. -/
theorem Ty.Row.cell {α : Type} {enc : α → Value} {ok : α → Prop} {h1 : ∀ x, (enc x).oneCell' = true} {w : World} {F : Nat → Prop} {A : Option Addr} {l : List α} (h : (Ty.scalar enc ok h1).Row w F A l) {i : Nat} (hi : i < l.length) :
    ∃ g off, A = some ⟨g, off, none⟩ ∧ F g ∧ ok l[i] ∧ w.cell? ⟨g, off + i, none⟩ = some (enc l[i]) := by
  obtain ⟨g, off, xs, rfl, hg, hR, hc⟩ := h.cells hi
  obtain ⟨rfl, hok⟩ := hR
  have := hc 0 (Nat.lt_add_one 0)
  simp only [Ty.scalar, Nat.mul_one, Nat.add_zero] at this
  exact ⟨g, off, rfl, hg, hok, by simpa using this⟩

/-- A row of slices. -/
theorem Ty.Row.cellS {α : Type} {T : Ty α} {w : World} {F : Nat → Prop} {A : Option Addr} {l : List (List α)} (h : T.slice.Row w F A l) {i : Nat} (hi : i < l.length) :
    ∃ g off Ai ci, A = some ⟨g, off, none⟩ ∧ F g ∧ w.cell? ⟨g, off + i, none⟩ = some (.slice Ai l[i].length ci) ∧ l[i].length ≤ ci ∧ l[i].length ≤ big ∧ T.Row w F Ai l[i] := by
  obtain ⟨g, off, xs, rfl, hg, ⟨Ai, ci, rfl, h1, h2, h3⟩, hc⟩ := h.cells hi
  have := hc 0 (Nat.lt_add_one 0)
  simp only [Ty.slice, Nat.mul_one, Nat.add_zero] at this
  exact ⟨g, off, Ai, ci, rfl, hg, by simpa using this, h1, h2, h3⟩
/-- A block of one's own, one scalar after the other, read as a row. -/
theorem Blk.row {α : Type} {T : Ty α} {w : World} {F : Nat → Prop} {g : Nat} {c : Array Value} {t : TypeId} {fr : Nat × Nat} {l : List α} (h : w.heap[g]? = some (.cells c t fr)) (hF : F g)
    (hl : ∀ i (hi : i < l.length), ∃ xs, T.R w F l[i] xs ∧ ∀ j, j < T.sz → c[i * T.sz + j]? = xs[j]?) : T.Row w F (some ⟨g, 0, none⟩) l :=
  Or.inr ⟨g, 0, c, t, fr, rfl, hF, h, fun i hi => by simpa using hl i hi⟩

section
variable {P : Program} {ρ : Operand → Value} {w : World} {d : Option Tmp} {t : TypeId} {pos : String} {af : Array Edge} {g : Option (Nat × Bool)}

theorem r_len_slice {x : Operand} {ty e : TypeId} {A : Option Addr} {n c : Nat} (hx : ρ x = .slice A n c) (hu : P.underlying ty = some (.slice e)) :
    (execOp ρ ⟨d, .call { callee := .builtin .len, args := #[x], argTypes := #[ty] }, t, pos, af, g⟩).run P w = .ok (.value (.int .i64 n)) w := by
  simp [execOp, resolve, invoke, builtin, Builtin.len_, hx, run_underlying hu, goInt]
theorem r_len_string {x : Operand} {ty : TypeId} {s : ByteArray} (hx : ρ x = .string s) (hu : P.underlying ty = some .string) :
    (execOp ρ ⟨d, .call { callee := .builtin .len, args := #[x], argTypes := #[ty] }, t, pos, af, g⟩).run P w = .ok (.value (.int .i64 s.size)) w := by
  simp [execOp, resolve, invoke, builtin, Builtin.len_, hx, run_underlying hu, goInt]
theorem r_indexAddr {x y : Operand} {ty e : TypeId} {b off n c sz : Nat} {k : IntKind} {i : Int} (hx : ρ x = .slice (some ⟨b, off, none⟩) n c) (hy : ρ y = .int k i)
    (hu : P.underlying ty = some (.slice e)) (hs : (P.info? e).map (·.size) = some sz) (h0 : 0 ≤ i) (hi : i < n) :
    (execOp ρ ⟨d, .indexAddr ty x y, t, pos, af, g⟩).run P w = .ok (.value (.pointer (some ⟨b, off + i.toNat * sz, none⟩))) w := by
  cases hq : P.info? e with
  | none => simp [hq] at hs
  | some inf =>
    have hsz : inf.size = sz := by simpa [hq] using hs
    simp [execOp, Instr.indexAt, hx, hy, asIntOf, run_underlying hu, h0, hi, sizeOf, typeInfo, hq, hsz, add_at]
theorem r_indexAddr_arr {x y : Operand} {ty e : TypeId} {b off n sz : Nat} {k : IntKind} {i : Int} (hx : ρ x = .pointer (some ⟨b, off, none⟩)) (hy : ρ y = .int k i)
    (hu : P.underlying ty = some (.array n e)) (hs : (P.info? e).map (·.size) = some sz) (h0 : 0 ≤ i) (hi : i < n) :
    (execOp ρ ⟨d, .indexAddr ty x y, t, pos, af, g⟩).run P w = .ok (.value (.pointer (some ⟨b, off + i.toNat * sz, none⟩))) w := by
  cases hq : P.info? e with
  | none => simp [hq] at hs
  | some inf =>
    have hsz : inf.size = sz := by simpa [hq] using hs
    simp [execOp, Instr.indexAt, hx, hy, asIntOf, run_underlying hu, h0, hi, sizeOf, typeInfo, hq, hsz, add_at, Instr.sureAddr]
theorem r_indexAddr1 {x y : Operand} {ty e : TypeId} {A : Option Addr} {b off n c : Nat} {k : IntKind} {i : Int} (hx : ρ x = .slice A n c) (hy : ρ y = .int k i) (hA : A = some ⟨b, off, none⟩)
    (hu : P.underlying ty = some (.slice e)) (hs : (P.info? e).map (·.size) = some 1) (h0 : 0 ≤ i) (hi : i < n) :
    (execOp ρ ⟨d, .indexAddr ty x y, t, pos, af, g⟩).run P w = .ok (.value (.pointer (some ⟨b, off + i.toNat, none⟩))) w := by
  subst hA
  rw [r_indexAddr hx hy hu hs h0 hi, Nat.mul_one]
theorem r_indexAddr0 {x y : Operand} {ty e : TypeId} {b n c : Nat} {k : IntKind} {i : Int} (hx : ρ x = .slice (some ⟨b, 0, none⟩) n c) (hy : ρ y = .int k i)
    (hu : P.underlying ty = some (.slice e)) (hs : (P.info? e).map (·.size) = some 1) (h0 : 0 ≤ i) (hi : i < n) :
    (execOp ρ ⟨d, .indexAddr ty x y, t, pos, af, g⟩).run P w = .ok (.value (.pointer (some ⟨b, i.toNat, none⟩))) w := by
  rw [r_indexAddr hx hy hu hs h0 hi, Nat.mul_one, Nat.zero_add]
theorem r_indexAddrN {x y : Operand} {ty e : TypeId} {A : Option Addr} {b off n c sz : Nat} {k : IntKind} {i : Int} (hx : ρ x = .slice A n c) (hy : ρ y = .int k i) (hA : A = some ⟨b, off, none⟩)
    (hu : P.underlying ty = some (.slice e)) (hs : (P.info? e).map (·.size) = some sz) (h0 : 0 ≤ i) (hi : i < n) :
    (execOp ρ ⟨d, .indexAddr ty x y, t, pos, af, g⟩).run P w = .ok (.value (.pointer (some ⟨b, off + i.toNat * sz, none⟩))) w := by
  subst hA
  rw [r_indexAddr hx hy hu hs h0 hi]
theorem r_indexAddr_arr1 {x y : Operand} {ty e : TypeId} {b off n : Nat} {k : IntKind} {i : Int} (hx : ρ x = .pointer (some ⟨b, off, none⟩)) (hy : ρ y = .int k i)
    (hu : P.underlying ty = some (.array n e)) (hs : (P.info? e).map (·.size) = some 1) (h0 : 0 ≤ i) (hi : i < n) :
    (execOp ρ ⟨d, .indexAddr ty x y, t, pos, af, g⟩).run P w = .ok (.value (.pointer (some ⟨b, off + i.toNat, none⟩))) w := by
  rw [r_indexAddr_arr hx hy hu hs h0 hi, Nat.mul_one]
def oneCellT : TypeDesc → Bool
  | .struct _ | .array _ _ => false
  | _ => true
theorem r_load {x : Operand} {ty : TypeId} {a : Addr} {v : Value} {td : TypeDesc} (hx : ρ x = .pointer (some a)) (hu : P.underlying ty = some td) (h1 : oneCellT td = true) (hc : w.cell? a = some v) :
    (execOp ρ ⟨d, .load ty x, t, pos, af, g⟩).run P w = .ok (.value v) w := by
  have hagg : (isAgg ty).run P w = .ok false w := by
    unfold isAgg
    rw [Sem.run_bind, run_underlying hu w]
    cases td <;> simp_all [oneCellT]
  simp [execOp, Instr.loadAt, Instr.sureAddr, hx, loadVar, hagg, load, Sem.run, hc]
theorem r_load_agg {x : Operand} {ty : TypeId} {b off sz : Nat} {cs : List Value} {td : TypeDesc} (hx : ρ x = .pointer (some ⟨b, off, none⟩)) (hu : P.underlying ty = some td) (h1 : oneCellT td = false)
    (hs : (P.info? ty).map (·.size) = some sz) (hl : cs.length = sz) (hc : ∀ j, j < sz → w.cell? ⟨b, off + j, none⟩ = cs[j]?) :
    (execOp ρ ⟨d, .load ty x, t, pos, af, g⟩).run P w = .ok (.value (.agg cs.toArray)) w := by
  have hagg : (isAgg ty).run P w = .ok true w := by
    unfold isAgg
    rw [Sem.run_bind, run_underlying hu w]
    cases td <;> simp_all [oneCellT]
  have hcells := run_loadCells_list (P := P) w ⟨b, off, none⟩ cs (fun j v hv => by
    rw [add_at]
    have hj : j < sz := by
      rw [← hl]
      rcases Nat.lt_or_ge j cs.length with h | h
      · exact h
      · rw [List.getElem?_eq_none h] at hv; cases hv
    rw [hc j hj]; exact hv)
  cases hq : P.info? ty with
  | none => simp [hq] at hs
  | some inf =>
    have hsz : inf.size = sz := by simpa [hq] using hs
    rw [hl] at hcells
    simp [execOp, Instr.loadAt, Instr.sureAddr, hx, loadVar, hagg, sizeOf, typeInfo, hq, hsz, hcells]
end
/-! Blocks that are one's own. -/
def Blk (w : World) (g : Nat) (c : Array Value) (t : TypeId) : Prop := w.heap[g]? = some (.cells c t (0, 0))
theorem Blk.lt {w : World} {g : Nat} {c : Array Value} {t : TypeId} (h : Blk w g c t) : g < w.heap.size := by
  unfold Blk at h
  rcases Nat.lt_or_ge g w.heap.size with h' | h'
  · exact h'
  · rw [Array.getElem?_eq_none h'] at h; cases h
theorem Blk.ext {w w' : World} {g : Nat} {c : Array Value} {t : TypeId} (h : Blk w g c t) (he : Ext w w') : Blk w' g c t := by
  unfold Blk at *; rw [he.block g (Blk.lt h)]; exact h
theorem Blk.new (w : World) (c : Array Value) (t : TypeId) : Blk (w.alloc (.cells c t)) w.heap.size c t := heap_alloc_new w _
theorem Blk.set {w : World} {g i : Nat} {c : Array Value} {t : TypeId} (h : Blk w g c t) (v : Value) : Blk (w.setCell ⟨g, i, none⟩ v) g (c.setIfInBounds i v) t := heap_setCell_same w g i c t v h
theorem Blk.set_other {w : World} {g : Nat} {a : Addr} {c : Array Value} {t : TypeId} (h : Blk w g c t) (hne : g ≠ a.block) (v : Value) : Blk (w.setCell a v) g c t := by
  unfold Blk; rw [heap_setCell_other w a g v hne]; exact h
theorem Blk.cell {w : World} {g i : Nat} {c : Array Value} {t : TypeId} {v : Value} (h : Blk w g c t) (hv : c[i]? = some v) : w.cell? ⟨g, i, none⟩ = some v := by
  rw [cell_of_row w g i c t (0, 0) h]; exact hv
theorem Blk.free {w : World} {g i : Nat} {c : Array Value} {t : TypeId} (h : Blk w g c t) : w.frozen? ⟨g, i, none⟩ = false := frozen_of_row w g i c t h
theorem Blk.setRow {w : World} {g : Nat} {c c' : Array Value} {t : TypeId} (h : Blk w g c t) : Blk (w.setRow g c') g c' t := setRow_heap w g c c' t (0, 0) h
theorem below_setCell {B : Nat} {a w : World} (h : Below B a w) {p : Addr} (hp : B ≤ p.block) (u : Value) : Below B a (w.setCell p u) := Below.setCell h hp u
theorem below_setRow {B : Nat} {a w : World} (h : Below B a w) {g : Nat} (hg : B ≤ g) (c : Array Value) : Below B a (w.setRow g c) :=
  h.trans ⟨rfl, rfl, rfl, by simp, fun k hk => setRow_other w g k c (by omega)⟩

section
variable {P : Program} {ρ : Operand → Value} {w : World} {d : Option Tmp} {t : TypeId} {pos : String} {af : Array Edge} {g : Option (Nat × Bool)}
theorem r_alloc {ty : TypeId} {z : Value} (hz : (P.info? ty).bind (·.zero) = some z) :
    (execOp ρ ⟨d, .alloc ty, t, pos, af, g⟩).run P w = .ok (.value (.pointer (some ⟨w.heap.size, 0, none⟩))) (w.alloc (.cells z.cells ty)) := by
  cases hq : P.info? ty with
  | none => simp [hq] at hz
  | some inf =>
    have hz' : inf.zero = some z := by simpa [hq] using hz
    have hzv : (zeroValue ty).run P w = .ok z w := by simp [zeroValue, typeInfo, hq, hz']
    simp only [execOp, Instr.alloc, Sem.run_bind, hzv, Result.andThen_ok]
    simp [newVar, newRow, newObj, Sem.run]
theorem r_box {ty : TypeId} {x : Operand} {v : Value} (hx : ρ x = v) :
    (execOp ρ ⟨d, .box ty x, t, pos, af, g⟩).run P w = .ok (.value (.pointer (some ⟨w.heap.size, 0, none⟩))) (w.alloc (.cells v.cells ty)) := by
  simp [execOp, Instr.box, newVar, newRow, newObj, Sem.run, hx]
theorem r_store {x y : Operand} {ty : TypeId} {a : Addr} {v v0 : Value} (hx : ρ x = .pointer (some a)) (hy : ρ y = v) (h1 : v.oneCell' = true) (hs : (P.info? ty).map (·.size) = some 1)
    (hc : w.cell? a = some v0) (hf : w.frozen? a = false) :
    (execOp ρ ⟨d, .store ty x y, t, pos, af, g⟩).run P w = .ok .skip (w.setCell a v) := by
  have hcs : v.cells = #[v] := by cases v <;> simp_all [Value.cells, Value.oneCell']
  have hrun : (store a v).run P w = .ok () (w.setCell a v) := by
    cases v <;> simp_all [store, Sem.run, Value.oneCell']
  cases hq : P.info? ty with
  | none => simp [hq] at hs
  | some inf =>
    have hsz : inf.size = 1 := by simpa [hq] using hs
    simp [execOp, Instr.storeAt, Instr.sureAddr, hx, hy, storeVar, hcs, sizeOf, typeInfo, hq, hsz, storeCells, Addr.add, hrun]
theorem r_store_row {x y : Operand} {ty t' : TypeId} {b : Nat} {c c' : Array Value} (hx : ρ x = .pointer (some ⟨b, 0, none⟩)) (hy : ρ y = .agg c') (hs : (P.info? ty).map (·.size) = some c'.size)
    (hb : Blk w b c t') (ho : c.size = c'.size) (h1 : c'.all (·.oneCell') = true) :
    (execOp ρ ⟨d, .store ty x y, t, pos, af, g⟩).run P w = .ok .skip (w.setRow b c') := by
  have := run_storeVar_row (P := P) w b t' ty c c' hb hs ho h1
  simp [execOp, Instr.storeAt, Instr.sureAddr, hx, hy, this]
theorem r_load_row {x : Operand} {ty t' : TypeId} {b : Nat} {c : Array Value} {fr : Nat × Nat} {td : TypeDesc} (hx : ρ x = .pointer (some ⟨b, 0, none⟩)) (hu : P.underlying ty = some td) (h1 : oneCellT td = false)
    (hs : (P.info? ty).map (·.size) = some c.size) (hb : w.heap[b]? = some (.cells c t' fr)) :
    (execOp ρ ⟨d, .load ty x, t, pos, af, g⟩).run P w = .ok (.value (.agg c)) w := by
  have := run_loadVar_row (P := P) w b t' ty c fr td hb hu (by cases td <;> simp_all [oneCellT]) hs
  simp [execOp, Instr.loadAt, Instr.sureAddr, hx, this]
end
theorem fin_cell {P : Program} {p : Tmp} {ty t : TypeId} {R : Ending → World → Prop} {e : Env} {w : World} {g : Nat} {c : Array Value} {fr : Nat × Nat} {td : TypeDesc}
    (hp : e p = .pointer (some ⟨g, 0, none⟩)) (hb : w.heap[g]? = some (.cells c t fr)) (hu : P.underlying ty = some td) (h1 : oneCellT td = false) (hs : (P.info? ty).map (·.size) = some c.size)
    (h : R (.returned (.agg c)) w) (hm : e slotM = undef := by rfl) (k1 : Nat.beq p slotM = false := by rfl) : fin P #[.cell p ty] R e w := by
  refine fin_plain hm ?_
  intro tmps ht
  refine ⟨.agg c, ?_, h⟩
  have h1' := ht p (by rw [beq_eq] at k1; simpa using k1)
  simp at h1'
  have := run_loadVar_row (P := P) w g t ty c fr td hb hu (by cases td <;> simp_all [oneCellT]) hs
  simp [h1', hp, asAddr, this]
section
variable {P : Program} {n : Nat} {N : Env → World → Prop} {X : Exit → Env → World → Prop} {e : Env} {w : World} {ops : Array Oper} {rest : List Oper} {d : Option Tmp} {t : TypeId} {pos : String} {af : Array Edge}
/-- A new variable, its block under a name. -/
theorem op_alloc {ty : TypeId} {z : Value} (hd : dOk n d = true) (hz : (P.info? ty).bind (·.zero) = some z)
    (h : ∀ w' b, Ext w w' → Blk w' b z.cells ty → w.heap.size = b → WL P n ops N X rest (putO e d (.pointer (some ⟨b, 0, none⟩))) w') : WL P n ops N X (⟨d, .alloc ty, t, pos, af, none⟩ :: rest) e w :=
  op hd (r_alloc hz) (h _ _ (Ext.alloc _ _) (Blk.new _ _ _) rfl)
theorem op_box {ty : TypeId} {x : Operand} {v : Value} (hd : dOk n d = true) (hx : ev e x = v)
    (h : ∀ w' b, Ext w w' → Blk w' b v.cells ty → w.heap.size = b → WL P n ops N X rest (putO e d (.pointer (some ⟨b, 0, none⟩))) w') : WL P n ops N X (⟨d, .box ty x, t, pos, af, none⟩ :: rest) e w :=
  op hd (r_box hx) (h _ _ (Ext.alloc _ _) (Blk.new _ _ _) rfl)
end
/-! slices that are written out -/
def enum : Nat → List Value → List (Nat × Value)
  | _, [] => []
  | k, v :: l => (k, v) :: enum (k + 1) l
theorem fill_enum : ∀ (vs : List Value) (k : Nat) (cells : Array Value), cells.size = k + vs.length → vs.all (·.oneCell') = true →
    Instr.fill (fun i => some (i, 1)) cells (enum k vs) = some (cells.extract 0 k ++ vs.toArray) := by
  intro vs
  induction vs with
  | nil =>
    intro k cells hs _
    simp only [List.length_nil, Nat.add_zero] at hs
    subst hs
    simp [enum, Instr.fill]
  | cons v vs ih =>
    intro k cells hs h1
    simp only [List.all_cons, Bool.and_eq_true] at h1
    have hcs : v.cells = #[v] := by cases v <;> simp_all [Value.cells, Value.oneCell']
    simp only [enum, Instr.fill, hcs]
    have hk : k < cells.size := by rw [hs]; simp
    simp only [List.length_cons] at hs
    simp
    refine ⟨by omega, ?_⟩
    rw [ih (k + 1) _ (by simp; omega) h1.2]
    have hpush : (cells.setIfInBounds k v).extract 0 (k + 1) = (cells.extract 0 k).push v := by
      apply Array.ext
      · simp; omega
      · intro i h1 h2
        simp only [Array.size_push, Array.size_extract] at h2
        rw [Array.getElem_push]
        simp only [Array.getElem_extract, Array.getElem_setIfInBounds, Array.size_extract, Nat.zero_add]
        by_cases h : i = k
        · subst h
          simp
          intro hh; omega
        · have h3 : i < min k cells.size - 0 := by omega
          rw [dif_pos h3]; exact Array.getElem_setIfInBounds_ne (by omega) (fun q => h q.symm)
    rw [hpush]
    congr 1
    apply Array.toList_inj.1
    simp
section
variable {P : Program} {ρ : Operand → Value} {w : World} {d : Option Tmp} {t : TypeId} {pos : String} {af : Array Edge} {g : Option (Nat × Bool)}
theorem r_buildSlice {ty e : TypeId} {z : Value} {parts : List (Nat × Operand)} {vs : List Value} {m : Nat} (hu : P.underlying ty = some (.slice e)) (hs : (P.info? e).map (·.size) = some 1) (hz : (P.info? e).bind (·.zero) = some z)
    (hp : parts.map (fun q => (q.1, ρ q.2)) = enum 0 vs) (hl : (Nat.beq m vs.length && Nat.ble m 1000000) = true) (h1 : vs.all (·.oneCell') = true) :
    (execOp ρ ⟨d, .buildSlice ty m parts.toArray, t, pos, af, g⟩).run P w = .ok (.value (.slice (some ⟨w.heap.size, 0, none⟩) m m)) (w.alloc (.cells vs.toArray e)) := by
  simp only [Bool.and_eq_true, Nat.ble_eq] at hl
  have hl1 : m = vs.length := Nat.eq_of_beq_eq_true hl.1
  subst hl1
  cases hq : P.info? e with
  | none => simp [hq] at hz
  | some inf =>
    have hz' : inf.zero = some z := by simpa [hq] using hz
    have hsz : inf.size = 1 := by simpa [hq] using hs
    have hzv : (zeroValue e).run P w = .ok z w := by simp [zeroValue, typeInfo, hq, hz']
    have hbig : ¬ vs.length * 1 > 2 ^ 24 := by omega
    have hpp : (parts.toArray.map fun q => (q.1, ρ q.2)).toList = enum 0 vs := by simpa using hp
    have hfill : ∀ zc : Array Value, Instr.fill (fun i => some (i, 1)) ((Array.range vs.length).map (zc[· % zc.size]!)) (enum 0 vs) = some vs.toArray := by
      intro zc
      rw [fill_enum vs 0 _ (by simp) h1]
      simp
    simp only [execOp, Instr.buildSlice, Sem.run_bind, run_underlying hu, Result.andThen_ok, sizeOf, typeInfo, program]
    by_cases h0 : vs.length = 0
    · have : vs = [] := List.length_eq_zero_iff.1 h0
      subst this
      simp [Sem.run, hq, hsz, hpp, enum, Instr.fill, newRow, newObj]
      simp at hpp
      simp [hpp, enum, Instr.fill, newRow, newObj, Sem.run]
      congr 2
      apply Array.ext_getElem?
      intro i
      simp
    · simp [Sem.run, hq, hsz, h0, hzv, hbig]
      have hf := hfill z.cells
      simp at hf hpp
      simp [hpp, hf, newRow, newObj, Sem.run]
      omega
variable {n : Nat} {N : Env → World → Prop} {X : Exit → Env → World → Prop} {e : Env} {ops : Array Oper} {rest : List Oper} {x : Op}
theorem op_newS {m : Nat} {c : Array Value} {ty : TypeId} (hd : dOk n d = true) (hr : (execOp (ev e) ⟨d, x, t, pos, af, none⟩).run P w = .ok (.value (.slice (some ⟨w.heap.size, 0, none⟩) m m)) (w.alloc (.cells c ty)))
    (h : ∀ w' b, Ext w w' → Blk w' b c ty → w.heap.size = b → WL P n ops N X rest (putO e d (.slice (some ⟨b, 0, none⟩) m m)) w') : WL P n ops N X (⟨d, x, t, pos, af, none⟩ :: rest) e w :=
  op hd hr (h _ _ (Ext.alloc _ _) (Blk.new _ _ _) rfl)
end
section
variable {P : Program} {n : Nat} {N : Env → World → Prop} {X : Exit → Env → World → Prop} {e : Env} {w : World} {ops : Array Oper} {rest : List Oper} {d : Option Tmp} {t : TypeId} {pos : String} {af : Array Edge} {x : Op}
theorem op_newS2 {m k : Nat} {c : Array Value} {ty : TypeId} (hd : dOk n d = true) (hr : (execOp (ev e) ⟨d, x, t, pos, af, none⟩).run P w = .ok (.value (.slice (some ⟨w.heap.size, 0, none⟩) m k)) (w.alloc (.cells c ty)))
    (h : ∀ w' b, Ext w w' → Blk w' b c ty → w.heap.size = b → WL P n ops N X rest (putO e d (.slice (some ⟨b, 0, none⟩) m k)) w') : WL P n ops N X (⟨d, x, t, pos, af, none⟩ :: rest) e w :=
  op hd hr (h _ _ (Ext.alloc _ _) (Blk.new _ _ _) rfl)
end
/-! One block alone may have changed. -/
structure Chg (b : Nat) (w w' : World) : Prop where
  os : w'.os = w.os
  tape : w'.tape = w.tape
  output : w'.output = w.output
  size : w.heap.size ≤ w'.heap.size
  block : ∀ k, k < w.heap.size → k ≠ b → w'.heap[k]? = w.heap[k]?
theorem heap_lt {w : World} {g : Nat} {o : Obj} (h : w.heap[g]? = some o) : g < w.heap.size := (Array.getElem?_eq_some_iff.1 h).1
theorem ext_heap {w w' : World} {g : Nat} {o : Obj} (h : w.heap[g]? = some o) (he : Ext w w') : w'.heap[g]? = some o := by rw [he.block g (heap_lt h)]; exact h
theorem chg_heap {b : Nat} {w w' : World} {g : Nat} {o : Obj} (h : w.heap[g]? = some o) (hc : Chg b w w') (hne : g ≠ b) : w'.heap[g]? = some o := by rw [hc.block g (heap_lt h) hne]; exact h
theorem Chg.below {B b : Nat} {a w w' : World} (h : Below B a w) (hw : B ≤ b) (hs : B ≤ w.heap.size) (hc : Chg b w w') : Below B a w' :=
  h.trans ⟨hc.os, hc.tape, hc.output, hc.size, fun k hk => hc.block k (by omega) (by omega)⟩
theorem Chg.ext {b : Nat} {a w w' : World} (h : Ext a w) (hw : a.heap.size ≤ b) (hc : Chg b w w') : Ext a w' := Chg.below h hw h.size hc
theorem _root_.Go.RowKit.Below.chg {b : Nat} {a w w' : World} (h : Below a.heap.size a w) (hc : Chg b w w') (hw : a.heap.size ≤ b) : Ext a w' := Chg.below h hw h.size hc
theorem Chg.blk {b g : Nat} {w w' : World} {c : Array Value} {t : TypeId} (hc : Chg b w w') (h : Blk w g c t) (hne : g ≠ b) : Blk w' g c t := by
  unfold Blk at *; rw [hc.block g (Blk.lt h) hne]; exact h
theorem Chg.same {b : Nat} {w w' : World} {F : Nat → Prop} (hc : Chg b w w') (hF : ∀ k, F k → k < w.heap.size ∧ k ≠ b) : Same F w w' := fun k hk => hc.block k (hF k hk).1 (hF k hk).2
theorem Chg.setCell (w : World) (a : Addr) (v : Value) : Chg a.block w (w.setCell a v) :=
  ⟨rfl, rfl, rfl, by simp [World.setCell], fun k _ hne => heap_setCell_other w a k v hne⟩
theorem Chg.freeze (w : World) (a : Addr) (n : Nat) : Chg a.block w (w.freeze a n) := by
  unfold World.freeze
  split
  · exact ⟨rfl, rfl, rfl, Nat.le_refl _, fun _ _ _ => rfl⟩
  · refine ⟨rfl, rfl, rfl, by simp, fun k _ hne => ?_⟩
    simp only [Array.getElem?_modify]
    rw [if_neg (fun q => hne q.symm)]
section
variable {P : Program} {n : Nat} {N : Env → World → Prop} {X : Exit → Env → World → Prop} {e : Env} {w : World} {ops : Array Oper} {rest : List Oper} {d : Option Tmp} {t : TypeId} {pos : String} {af : Array Edge}
/-- A store into a block of one's own, the world under a name. -/
theorem op_store {x y : Operand} {ty tb : TypeId} {b i : Nat} {c : Array Value} {v : Value} (hx : ev e x = .pointer (some ⟨b, i, none⟩)) (hy : ev e y = v) (h1 : v.oneCell' = true) (hs : (P.info? ty).map (·.size) = some 1)
    (hb : Blk w b c tb) (hi : i < c.size) (h : ∀ w', Chg b w w' → Blk w' b (c.setIfInBounds i v) tb → WL P n ops N X rest e w') : WL P n ops N X (⟨none, .store ty x y, t, pos, af, none⟩ :: rest) e w :=
  opU (r_store hx hy h1 hs (hb.cell (v := c[i]) (by simp [hi])) hb.free) (h _ (Chg.setCell w ⟨b, i, none⟩ v) (hb.set v))
/-- '[]byte("..")': the bytes are marked as a string's. -/
theorem op_convB {x : Operand} {ty el tb : TypeId} {b m k : Nat} {c : Array Value} (hd : dOk n d = true) (hx : ev e x = .slice (some ⟨b, 0, none⟩) m k) (hu : P.underlying ty = some (.slice el)) (he : P.underlying el = some (.int .u8))
    (hb : Blk w b c tb) (h : ∀ w', Chg b w w' → w'.heap[b]? = some (.cells c tb (c.size, c.size + 1)) → WL P n ops N X rest (putO e d (.slice (some ⟨b, 0, none⟩) m k)) w') : WL P n ops N X (⟨d, .convert ty ty x, t, pos, af, none⟩ :: rest) e w := by
  refine op (w' := w.freeze ⟨b, c.size, none⟩ 1) hd ?_ (h _ (Chg.freeze w ⟨b, c.size, none⟩ 1) ?_)
  · have hsh : w.shape? b = some (tb, c.size) := by
      unfold Blk at hb
      simp [World.shape?, hb]
    simp [execOp, hx, convert, run_underlying hu, run_underlying he, markStringish, shape, freeze, Sem.run, hsh]
  · unfold Blk at hb
    unfold World.freeze
    simp only [Nat.one_ne_zero, if_false, Array.getElem?_modify, hb]
    simp
end
end Go.Eng

/-
  The engine: unsigned numbers as bit vectors. Generic: no program.
-/
namespace Go.Eng
set_option linter.unusedVariables false
set_option linter.unusedSimpArgs false

theorem ofInt_nat (n : Nat) (x : BitVec n) : BitVec.ofInt n (x.toNat : Int) = x := by
  apply BitVec.eq_of_toNat_eq
  simp [BitVec.toNat_ofInt]
theorem wrap_u32_nat (x : BitVec 32) : IntKind.wrap .u32 (x.toNat : Int) = (x.toNat : Int) := wrap_u32 (Int.natCast_nonneg _) (by have := x.isLt; omega)
theorem wrap_u8_nat (x : BitVec 8) : IntKind.wrap .u8 (x.toNat : Int) = (x.toNat : Int) := wrap_u8 (Int.natCast_nonneg _) (by have := x.isLt; omega)
theorem wrap_u64_nat (x : BitVec 64) : IntKind.wrap .u64 (x.toNat : Int) = (x.toNat : Int) := wrap_u64 (Int.natCast_nonneg _) (by have := x.isLt; omega)
theorem bits_xor32 (a b : BitVec 32) : bits .xor .u32 (a.toNat : Int) (b.toNat : Int) = ((a ^^^ b).toNat : Int) := by
  show IntKind.wrap .u32 _ = _
  rw [show BitVec.ofInt IntKind.u32.bits (a.toNat : Int) = a from ofInt_nat 32 a, show BitVec.ofInt IntKind.u32.bits (b.toNat : Int) = b from ofInt_nat 32 b]
  exact wrap_u32_nat (a ^^^ b)
theorem bits_and32 (a b : BitVec 32) : bits .and .u32 (a.toNat : Int) (b.toNat : Int) = ((a &&& b).toNat : Int) := by
  show IntKind.wrap .u32 _ = _
  rw [show BitVec.ofInt IntKind.u32.bits (a.toNat : Int) = a from ofInt_nat 32 a, show BitVec.ofInt IntKind.u32.bits (b.toNat : Int) = b from ofInt_nat 32 b]
  exact wrap_u32_nat (a &&& b)
theorem bits_xor8 (a b : BitVec 8) : bits .xor .u8 (a.toNat : Int) (b.toNat : Int) = ((a ^^^ b).toNat : Int) := by
  show IntKind.wrap .u8 _ = _
  rw [show BitVec.ofInt IntKind.u8.bits (a.toNat : Int) = a from ofInt_nat 8 a, show BitVec.ofInt IntKind.u8.bits (b.toNat : Int) = b from ofInt_nat 8 b]
  exact wrap_u8_nat (a ^^^ b)
theorem bits_or64 (a b : BitVec 64) : bits .or .u64 (a.toNat : Int) (b.toNat : Int) = ((a ||| b).toNat : Int) := by
  show IntKind.wrap .u64 _ = _
  rw [show BitVec.ofInt IntKind.u64.bits (a.toNat : Int) = a from ofInt_nat 64 a, show BitVec.ofInt IntKind.u64.bits (b.toNat : Int) = b from ofInt_nat 64 b]
  exact wrap_u64_nat (a ||| b)
theorem xor1_32 (a : BitVec 32) : bits .xor .u32 (if IntKind.u32.signed then -1 else IntKind.u32.max) (a.toNat : Int) = ((~~~ a).toNat : Int) := by
  have h : (if IntKind.u32.signed then (-1 : Int) else IntKind.u32.max) = ((BitVec.allOnes 32).toNat : Int) := by decide
  rw [h, bits_xor32]
  congr 2
theorem fdiv_shr {n : Nat} (a : BitVec n) (k : Nat) : (a.toNat : Int).fdiv (2 ^ k) = ((a >>> k).toNat : Int) := by
  rw [BitVec.toNat_ushiftRight, Nat.shiftRight_eq_div_pow]
  rw [Int.fdiv_eq_ediv_of_nonneg _ (Int.le_of_lt (Int.pow_pos (by decide)))]
  simp

theorem xor_ones (a : BitVec 32) : a ^^^ 0xffffffff#32 = ~~~ a := by
  rw [show (0xffffffff#32 : BitVec 32) = BitVec.allOnes 32 from by decide, BitVec.xor_allOnes]
theorem u32_of {n : Int} (h : inK .u32 n) : ∃ N : BitVec 32, n = N.toNat := by
  simp only [inK, lo, hi] at h
  refine ⟨BitVec.ofNat 32 n.toNat, ?_⟩
  simp
  omega
theorem u8_of {n : Int} (h : inK .u8 n) : ∃ N : UInt8, n = N.toNat := by
  simp only [inK, lo, hi] at h
  refine ⟨UInt8.ofNat n.toNat, ?_⟩
  simp
  omega
theorem tmod2 {k : Nat} (a : BitVec k) : ((a.toNat : Int).tmod 2 = 1) ↔ a.getLsbD 0 = true := by
  rw [Int.tmod_eq_emod_of_nonneg (Int.natCast_nonneg _)]
  simp [BitVec.getLsbD, Nat.testBit_zero]
  omega
theorem u32_ne {a b : BitVec 32} : ((a.toNat : Int) = b.toNat) ↔ a = b := by
  constructor
  · intro h; exact BitVec.eq_of_toNat_eq (by omega)
  · rintro rfl; rfl

section
variable {P : Program} {ρ : Operand → Value} {w : World} {d : Option Tmp} {t : TypeId} {pos : String} {af : Array Edge} {g : Option (Nat × Bool)} {x y : Operand} {xt yt : TypeId}
theorem r_xor32 {a b : BitVec 32} (hx : ρ x = .int .u32 a.toNat) (hy : ρ y = .int .u32 b.toNat) : (execOp ρ ⟨d, .binOp .xor xt x y yt, t, pos, af, g⟩).run P w = .ok (.value (.int .u32 (a ^^^ b).toNat)) w := by
  rw [r_xor hx hy, bits_xor32]
theorem r_and32 {a b : BitVec 32} (hx : ρ x = .int .u32 a.toNat) (hy : ρ y = .int .u32 b.toNat) : (execOp ρ ⟨d, .binOp .and xt x y yt, t, pos, af, g⟩).run P w = .ok (.value (.int .u32 (a &&& b).toNat)) w := by
  rw [r_and hx hy, bits_and32]
theorem r_xor8 {a b : BitVec 8} (hx : ρ x = .int .u8 a.toNat) (hy : ρ y = .int .u8 b.toNat) : (execOp ρ ⟨d, .binOp .xor xt x y yt, t, pos, af, g⟩).run P w = .ok (.value (.int .u8 (a ^^^ b).toNat)) w := by
  rw [r_xor hx hy, bits_xor8]
theorem r_or64 {a b : BitVec 64} (hx : ρ x = .int .u64 a.toNat) (hy : ρ y = .int .u64 b.toNat) : (execOp ρ ⟨d, .binOp .or xt x y yt, t, pos, af, g⟩).run P w = .ok (.value (.int .u64 (a ||| b).toNat)) w := by
  rw [r_or hx hy, bits_or64]
theorem r_mul32 {a b : BitVec 32} (hx : ρ x = .int .u32 a.toNat) (hy : ρ y = .int .u32 b.toNat) : (execOp ρ ⟨d, .binOp .mul xt x y yt, t, pos, af, g⟩).run P w = .ok (.value (.int .u32 (a * b).toNat)) w := by
  rw [r_mul hx hy, wrap_u32_mod, BitVec.toNat_mul]
  simp
theorem r_not32 {a : BitVec 32} (hx : ρ x = .int .u32 a.toNat) : (execOp ρ ⟨d, .unOp .xor xt x, t, pos, af, g⟩).run P w = .ok (.value (.int .u32 (~~~ a).toNat)) w := by
  rw [r_xor1 hx, xor1_32]
theorem r_shr32 {a : BitVec 32} {ky : IntKind} {k : Nat} (hx : ρ x = .int .u32 a.toNat) (hy : ρ y = .int ky k) (hk : Nat.ble k 32 = true) : (execOp ρ ⟨d, .binOp .shr xt x y yt, t, pos, af, g⟩).run P w = .ok (.value (.int .u32 (a >>> k).toNat)) w := by
  rw [r_shr hx hy (Int.natCast_nonneg _)]
  have : min (k : Int).toNat IntKind.u32.bits = k := by
    have : k ≤ 32 := by simpa using hk
    simp [IntKind.bits]; omega
  rw [this, fdiv_shr]
theorem r_conv32_8 {a : BitVec 32} {st dt : TypeId} {td : TypeDesc} (hx : ρ x = .int .u32 a.toNat) (hs : P.underlying st = some td) (hd : P.underlying dt = some (.int .u8)) : (execOp ρ ⟨d, .convert st dt x, t, pos, af, g⟩).run P w = .ok (.value (.int .u8 (a.setWidth 8).toNat)) w := by
  rw [r_conv hx hs hd, wrap_u8_mod, BitVec.toNat_setWidth]
  simp
theorem r_xorFF32 {a : BitVec 32} (hx : ρ x = .int .u32 a.toNat) (hy : ρ y = .int .u32 4294967295) : (execOp ρ ⟨d, .binOp .xor xt x y yt, t, pos, af, g⟩).run P w = .ok (.value (.int .u32 (~~~ a).toNat)) w := by
  rw [r_xor32 (b := 0xffffffff#32) hx hy, xor_ones]
theorem r_half32 {a : BitVec 32} (hx : ρ x = .int .u32 a.toNat) (hy : ρ y = .int .u32 2) : (execOp ρ ⟨d, .binOp .quo xt x y yt, t, pos, af, g⟩).run P w = .ok (.value (.int .u32 (a >>> 1).toNat)) w := by
  rw [r_quo hx hy (by decide)]
  have h1 : (a.toNat : Int).tdiv 2 = ((a >>> 1).toNat : Int) := by
    rw [BitVec.toNat_ushiftRight, Nat.shiftRight_eq_div_pow, Int.tdiv_eq_ediv_of_nonneg (Int.natCast_nonneg _)]
    simp
  rw [h1, wrap_u32_nat]
theorem r_conv8_32 {a : BitVec 8} {st dt : TypeId} {td : TypeDesc} (hx : ρ x = .int .u8 a.toNat) (hs : P.underlying st = some td) (hd : P.underlying dt = some (.int .u32)) : (execOp ρ ⟨d, .convert st dt x, t, pos, af, g⟩).run P w = .ok (.value (.int .u32 (a.setWidth 32).toNat)) w := by
  rw [r_conv hx hs hd, BitVec.toNat_setWidth]
  have := a.isLt
  rw [wrap_u32 (Int.natCast_nonneg _) (by omega), Nat.mod_eq_of_lt (by omega)]
end
end Go.Eng

/-
  The engine: regions that draw their order. Generic: no program.
-/
namespace Go.Eng
set_option linter.unusedVariables false
set_option linter.unusedSimpArgs false
open Go.RowKit

theorem ext_cell {w w' : World} (h : Ext w w') {a : Addr} {v : Value} (hc : w.cell? a = some v) : w'.cell? a = some v := by
  rw [Below.cell h (block_lt_of_cell hc)]; exact hc
theorem ext_drawn (w : World) : Ext w { w with drawn := w.drawn + 1 } := Ext.drawn (Ext.refl w) _

section
variable {P : Program} {n : Nat} {N : Env → World → Prop} {X : Exit → Env → World → Prop} {S : World → Prop} {e : Env} {w : World} {ops : Array Oper} {fuel : Nat} {listed : Array Bool}

/-- Whatever order is picked from here on, S holding behind each operation. -/
def WA (P : Program) (n : Nat) (ops : Array Oper) (N : Env → World → Prop) (X : Exit → Env → World → Prop) (S : World → Prop) (fuel : Nat) (listed : Array Bool) (e : Env) (w : World) : Prop :=
  ∀ ro a, Rel ro n e a → wpAnyHI ro P .any ops (lift ro n N X) S fuel listed a w
/-- Operation number i comes up. -/
def WO (P : Program) (n : Nat) (ops : Array Oper) (N : Env → World → Prop) (X : Exit → Env → World → Prop) (S : World → Prop) (fuel : Nat) (listed : Array Bool) (i : Nat) (e : Env) (w : World) : Prop :=
  ∀ ro a, Rel ro n e a → wpOpIn (fen ro) 0 P ops (lift ro n N X) i (fun a' w' => S w' ∧ wpAnyHI ro P .any ops (lift ro n N X) S fuel (listed.setIfInBounds i true) a' w') a w

theorem W_draw {id : Nat} {l : List Oper} {k : Nat} (S : World → Prop) (hm : P.follows .mixedOrders = true) (hk : l.toArray.size = k)
    (h : WA P n l.toArray N X S k (Array.replicate k false) e { w with drawn := w.drawn + 1 }) : W P n (.region id l.toArray true) N X e w := by
  subst hk
  intro ro a ha
  exact wpIn_region_held hm (h ro a ha)
/-- The usual case: what is there stays; the world behind the draw under a name. -/
theorem W_drawE {id : Nat} {l : List Oper} {k : Nat} (hm : P.follows .mixedOrders = true) (hk : l.toArray.size = k)
    (h : ∀ w', Ext w w' → WA P n l.toArray N X (Ext w) k (Array.replicate k false) e w') : W P n (.region id l.toArray true) N X e w :=
  W_draw (Ext w) hm hk (h _ (ext_drawn w))

theorem W_drawS {id : Nat} {l : List Oper} {k : Nat} {w₀ : World} (h0 : Ext w₀ w) (hm : P.follows .mixedOrders = true) (hk : l.toArray.size = k)
    (h : ∀ w', Ext w w' → Ext w₀ w' → WA P n l.toArray N X (Ext w₀) k (Array.replicate k false) e w') : W P n (.region id l.toArray true) N X e w :=
  W_draw (Ext w₀) hm hk (h _ (ext_drawn w) (h0.trans (ext_drawn w)))
theorem A_done (hr : Region.ready .any ops listed = []) (h : N e w) : WA P n ops N X S fuel listed e w :=
  fun ro a ha => wpAnyHI_done hr ⟨e, ha, h⟩ fuel
theorem A_ready1 {i : Nat} (hr : Region.ready .any ops listed = [i]) (h : WO P n ops N X S fuel listed i e w) : WA P n ops N X S (fuel + 1) listed e w :=
  fun ro a ha => wpAnyHI_all hr (by simp) (by intro j hj; simp at hj; subst hj; exact h ro a ha)
theorem A_ready2 {i j : Nat} (hr : Region.ready .any ops listed = [i, j]) (h1 : WO P n ops N X S fuel listed i e w) (h2 : WO P n ops N X S fuel listed j e w) : WA P n ops N X S (fuel + 1) listed e w :=
  fun ro a ha => wpAnyHI_all hr (by simp) (by intro k hk; simp at hk; rcases hk with rfl | rfl; exact h1 ro a ha; exact h2 ro a ha)
theorem A_ready3 {i j k : Nat} (hr : Region.ready .any ops listed = [i, j, k]) (h1 : WO P n ops N X S fuel listed i e w) (h2 : WO P n ops N X S fuel listed j e w) (h3 : WO P n ops N X S fuel listed k e w) : WA P n ops N X S (fuel + 1) listed e w :=
  fun ro a ha => wpAnyHI_all hr (by simp) (by intro q hq; simp at hq; rcases hq with rfl | rfl | rfl; exact h1 ro a ha; exact h2 ro a ha; exact h3 ro a ha)

theorem A_ready4 {i j k q : Nat} (hr : Region.ready .any ops listed = [i, j, k, q]) (h1 : WO P n ops N X S fuel listed i e w) (h2 : WO P n ops N X S fuel listed j e w) (h3 : WO P n ops N X S fuel listed k e w) (h4 : WO P n ops N X S fuel listed q e w) : WA P n ops N X S (fuel + 1) listed e w :=
  fun ro a ha => wpAnyHI_all hr (by simp) (by intro u hu; simp at hu; rcases hu with rfl | rfl | rfl | rfl; exact h1 ro a ha; exact h2 ro a ha; exact h3 ro a ha; exact h4 ro a ha)

theorem wanted_of {ro : Option Nat} {a : Act} (ha : Rel ro n e a) {d : Option Tmp} {x : Op} {t : TypeId} {pos : String} {af : Array Edge} {j : Nat} {want : Bool} {dj : Tmp} {b : Bool}
    (hj : (ops[j]?).bind (·.dst) = some dj) (hjn : Nat.blt dj n = true) (hb : e dj = .bool b) :
    Region.wanted ⟨d, x, t, pos, af, some (j, want)⟩ (yielded ops a.tmps) = (b == want) := by
  have hlt : dj < a.tmps.size := by rw [ha.size]; simpa [Nat.blt_eq] using hjn
  have hy : yielded ops a.tmps j = some b := by
    unfold yielded
    have hg := ha.at (d := dj) (by simpa [Nat.blt_eq] using hjn)
    simp [hlt, hb] at hg
    simp [hj, hlt, hg]
  simp only [Region.wanted, hy]
  cases b <;> cases want <;> rfl

section take
variable {i : Nat} {d : Option Tmp} {x : Op} {t : TypeId} {pos : String} {af : Array Edge} {v : Value}
theorem lift_panic {ro : Option Nat} (c : List PanicEntry) (a : Act) (w : World) (h : lift ro n N X (.panic c) (a.put d v) w) : lift ro n N X (.panic c) a w := h.elim
/-- Operation number i is taken first: whatever the order, it yields v. -/
theorem A_take (hi : ops[i]? = some ⟨d, x, t, pos, af, none⟩) (hs : Region.noSelect ops = true) (hf : Region.free .any ops listed i = true) (hr : (Region.ready .any ops listed).contains i = true)
    (hd : dOk n d = true) (hS : S w) (hy : ∀ w', S w' → (execOp (ev e) ⟨d, x, t, pos, af, none⟩).run P w' = .ok (.value v) w')
    (h : WA P n ops N X S fuel (listed.setIfInBounds i true) (putO e d v) w) : WA P n ops N X S (fuel + 1) listed e w := by
  intro ro a ha
  refine wpAnyHI_take hi hs hf hr lift_panic (Or.inl ⟨rfl, ?_⟩) hS (h _ _ (ha.put hd v))
  intro w' hw'
  rw [ha.eval]
  exact hy w' hw'
variable {j : Nat} {want : Bool} {dj : Tmp} {b : Bool}
theorem A_takeG (hi : ops[i]? = some ⟨d, x, t, pos, af, some (j, want)⟩) (hs : Region.noSelect ops = true) (hf : Region.free .any ops listed i = true) (hr : (Region.ready .any ops listed).contains i = true)
    (hd : dOk n d = true) (hS : S w) (hj : (ops[j]?).bind (·.dst) = some dj) (hjn : Nat.blt dj n = true) (hb : e dj = .bool b) (he : (b == want) = true)
    (hy : ∀ w', S w' → (execOp (ev e) ⟨d, x, t, pos, af, some (j, want)⟩).run P w' = .ok (.value v) w')
    (h : WA P n ops N X S fuel (listed.setIfInBounds i true) (putO e d v) w) : WA P n ops N X S (fuel + 1) listed e w := by
  intro ro a ha
  refine wpAnyHI_take hi hs hf hr lift_panic (Or.inl ⟨(wanted_of ha hj hjn hb).trans he, ?_⟩) hS (h _ _ (ha.put hd v))
  intro w' hw'
  rw [ha.eval]
  exact hy w' hw'
/-- One that is passed over. -/
theorem A_skip (hi : ops[i]? = some ⟨d, x, t, pos, af, some (j, want)⟩) (hs : Region.noSelect ops = true) (hf : Region.free .any ops listed i = true) (hr : (Region.ready .any ops listed).contains i = true)
    (hd : dOk n d = true) (hS : S w) (hj : (ops[j]?).bind (·.dst) = some dj) (hjn : Nat.blt dj n = true) (hb : e dj = .bool b) (he : (b == want) = false)
    (h : WA P n ops N X S fuel (listed.setIfInBounds i true) (putO e d undef) w) : WA P n ops N X S (fuel + 1) listed e w := by
  intro ro a ha
  exact wpAnyHI_take hi hs hf hr lift_panic (Or.inr ⟨(wanted_of ha hj hjn hb).trans he, rfl⟩) hS (h _ _ (ha.put hd undef))
/-- A bool that is taken first, and parts the ways. -/
theorem A_split {p : Prop} {dp : Decidable p} (hi : ops[i]? = some ⟨d, x, t, pos, af, none⟩) (hs : Region.noSelect ops = true) (hf : Region.free .any ops listed i = true) (hr : (Region.ready .any ops listed).contains i = true)
    (hd : dOk n d = true) (hS : S w) (hy : ∀ w', S w' → (execOp (ev e) ⟨d, x, t, pos, af, none⟩).run P w' = .ok (.value (.bool (@decide p dp))) w')
    (h1 : p → WA P n ops N X S fuel (listed.setIfInBounds i true) (putO e d (.bool true)) w) (h2 : ¬ p → WA P n ops N X S fuel (listed.setIfInBounds i true) (putO e d (.bool false)) w) : WA P n ops N X S (fuel + 1) listed e w := by
  by_cases hp : p
  · exact A_take hi hs hf hr hd hS hy (by simpa [hp] using h1 hp)
  · exact A_take hi hs hf hr hd hS hy (by simpa [hp] using h2 hp)
theorem A_true {p : Prop} {dp : Decidable p} (hi : ops[i]? = some ⟨d, x, t, pos, af, none⟩) (hs : Region.noSelect ops = true) (hf : Region.free .any ops listed i = true) (hr : (Region.ready .any ops listed).contains i = true)
    (hd : dOk n d = true) (hS : S w) (hy : ∀ w', S w' → (execOp (ev e) ⟨d, x, t, pos, af, none⟩).run P w' = .ok (.value (.bool (@decide p dp))) w') (hp : p)
    (h1 : WA P n ops N X S fuel (listed.setIfInBounds i true) (putO e d (.bool true)) w) : WA P n ops N X S (fuel + 1) listed e w :=
  A_take hi hs hf hr hd hS hy (by simpa [hp] using h1)
theorem A_false {p : Prop} {dp : Decidable p} (hi : ops[i]? = some ⟨d, x, t, pos, af, none⟩) (hs : Region.noSelect ops = true) (hf : Region.free .any ops listed i = true) (hr : (Region.ready .any ops listed).contains i = true)
    (hd : dOk n d = true) (hS : S w) (hy : ∀ w', S w' → (execOp (ev e) ⟨d, x, t, pos, af, none⟩).run P w' = .ok (.value (.bool (@decide p dp))) w') (hp : ¬ p)
    (h1 : WA P n ops N X S fuel (listed.setIfInBounds i true) (putO e d (.bool false)) w) : WA P n ops N X S (fuel + 1) listed e w :=
  A_take hi hs hf hr hd hS hy (by simpa [hp] using h1)
theorem A_splitB (hi : ops[i]? = some ⟨d, x, t, pos, af, none⟩) (hs : Region.noSelect ops = true) (hf : Region.free .any ops listed i = true) (hr : (Region.ready .any ops listed).contains i = true)
    (hd : dOk n d = true) (hS : S w) (hy : ∀ w', S w' → (execOp (ev e) ⟨d, x, t, pos, af, none⟩).run P w' = .ok (.value (.bool b)) w')
    (h1 : b = true → WA P n ops N X S fuel (listed.setIfInBounds i true) (putO e d (.bool true)) w) (h2 : b = false → WA P n ops N X S fuel (listed.setIfInBounds i true) (putO e d (.bool false)) w) : WA P n ops N X S (fuel + 1) listed e w := by
  cases b
  · exact A_take hi hs hf hr hd hS hy (h2 rfl)
  · exact A_take hi hs hf hr hd hS hy (h1 rfl)

/-- Number i comes up, and yields a value. -/
theorem O_val {w' : World} (hi : ops[i]? = some ⟨d, x, t, pos, af, none⟩) (hd : dOk n d = true) (hr : (execOp (ev e) ⟨d, x, t, pos, af, none⟩).run P w = .ok (.value v) w')
    (hS : S w') (h : WA P n ops N X S fuel (listed.setIfInBounds i true) (putO e d v) w') : WO P n ops N X S fuel listed i e w := by
  intro ro a ha
  unfold wpOpIn
  rw [hi]
  simp only [Region.wanted, if_true]
  exact wp_of_run (by rw [ha.eval]; exact hr) ⟨hS, h _ _ (ha.put hd v)⟩
theorem O_valG {w' : World} (hi : ops[i]? = some ⟨d, x, t, pos, af, some (j, want)⟩) (hd : dOk n d = true) (hj : (ops[j]?).bind (·.dst) = some dj) (hjn : Nat.blt dj n = true) (hb : e dj = .bool b) (he : (b == want) = true)
    (hr : (execOp (ev e) ⟨d, x, t, pos, af, some (j, want)⟩).run P w = .ok (.value v) w')
    (hS : S w') (h : WA P n ops N X S fuel (listed.setIfInBounds i true) (putO e d v) w') : WO P n ops N X S fuel listed i e w := by
  intro ro a ha
  unfold wpOpIn
  rw [hi]
  simp only [wanted_of ha hj hjn hb, he, if_true]
  exact wp_of_run (by rw [ha.eval]; exact hr) ⟨hS, h _ _ (ha.put hd v)⟩
theorem O_unit {w' : World} (hi : ops[i]? = some ⟨none, x, t, pos, af, none⟩) (hr : (execOp (ev e) ⟨none, x, t, pos, af, none⟩).run P w = .ok .skip w')
    (hS : S w') (h : WA P n ops N X S fuel (listed.setIfInBounds i true) e w') : WO P n ops N X S fuel listed i e w := by
  intro ro a ha
  unfold wpOpIn
  rw [hi]
  simp only [Region.wanted, if_true]
  exact wp_of_skip (by rw [ha.eval]; exact hr) ⟨hS, h _ _ ha⟩
theorem O_call {f : FuncId} {args : Array Value} {w₁ : World} {R : Value → World → Prop} (hi : ops[i]? = some ⟨d, x, t, pos, af, none⟩) (hd : dOk n d = true)
    (hr : (execOp (ev e) ⟨d, x, t, pos, af, none⟩).run P w = .ok (.enter f args) w₁) (hc : Calls P f args w₁ (fun en w' => ∃ v, en = .returned v ∧ R v w'))
    (h : ∀ v w', R v w' → S w' ∧ WA P n ops N X S fuel (listed.setIfInBounds i true) (putO e d v) w') : WO P n ops N X S fuel listed i e w := by
  intro ro a ha
  unfold wpOpIn
  rw [hi]
  simp only [Region.wanted, if_true]
  refine wp_of_call (by rw [ha.eval]; exact hr) hc ?_
  rintro en w' ⟨v, rfl, hR⟩
  obtain ⟨h1, h2⟩ := h v w' hR
  exact ⟨v, rfl, h1, h2 _ _ (ha.put hd v)⟩
theorem O_callG {f : FuncId} {args : Array Value} {w₁ : World} {R : Value → World → Prop} (hi : ops[i]? = some ⟨d, x, t, pos, af, some (j, want)⟩) (hd : dOk n d = true)
    (hj : (ops[j]?).bind (·.dst) = some dj) (hjn : Nat.blt dj n = true) (hb : e dj = .bool b) (he : (b == want) = true)
    (hr : (execOp (ev e) ⟨d, x, t, pos, af, some (j, want)⟩).run P w = .ok (.enter f args) w₁) (hc : Calls P f args w₁ (fun en w' => ∃ v, en = .returned v ∧ R v w'))
    (h : ∀ v w', R v w' → S w' ∧ WA P n ops N X S fuel (listed.setIfInBounds i true) (putO e d v) w') : WO P n ops N X S fuel listed i e w := by
  intro ro a ha
  unfold wpOpIn
  rw [hi]
  simp only [wanted_of ha hj hjn hb, he, if_true]
  refine wp_of_call (by rw [ha.eval]; exact hr) hc ?_
  rintro en w' ⟨v, rfl, hR⟩
  obtain ⟨h1, h2⟩ := h v w' hR
  exact ⟨v, rfl, h1, h2 _ _ (ha.put hd v)⟩
/-- Number i makes a block. -/
theorem O_new {c : Array Value} {ty : TypeId} (hi : ops[i]? = some ⟨d, x, t, pos, af, none⟩) (hd : dOk n d = true)
    (hr : (execOp (ev e) ⟨d, x, t, pos, af, none⟩).run P w = .ok (.value (.pointer (some ⟨w.heap.size, 0, none⟩))) (w.alloc (.cells c ty)))
    (h : ∀ w' b, Ext w w' → Blk w' b c ty → w.heap.size = b → S w' ∧ WA P n ops N X S fuel (listed.setIfInBounds i true) (putO e d (.pointer (some ⟨b, 0, none⟩))) w') : WO P n ops N X S fuel listed i e w :=
  have h' := h _ _ (Ext.alloc _ _) (Blk.new _ _ _) rfl
  O_val hi hd hr h'.1 h'.2
theorem O_newG {c : Array Value} {ty : TypeId} (hi : ops[i]? = some ⟨d, x, t, pos, af, some (j, want)⟩) (hd : dOk n d = true) (hj : (ops[j]?).bind (·.dst) = some dj) (hjn : Nat.blt dj n = true) (hb : e dj = .bool b) (he : (b == want) = true)
    (hr : (execOp (ev e) ⟨d, x, t, pos, af, some (j, want)⟩).run P w = .ok (.value (.pointer (some ⟨w.heap.size, 0, none⟩))) (w.alloc (.cells c ty)))
    (h : ∀ w' b, Ext w w' → Blk w' b c ty → w.heap.size = b → S w' ∧ WA P n ops N X S fuel (listed.setIfInBounds i true) (putO e d (.pointer (some ⟨b, 0, none⟩))) w') : WO P n ops N X S fuel listed i e w :=
  have h' := h _ _ (Ext.alloc _ _) (Blk.new _ _ _) rfl
  O_valG hi hd hj hjn hb he hr h'.1 h'.2
theorem O_newS {m : Nat} {c : Array Value} {ty : TypeId} (hi : ops[i]? = some ⟨d, x, t, pos, af, none⟩) (hd : dOk n d = true)
    (hr : (execOp (ev e) ⟨d, x, t, pos, af, none⟩).run P w = .ok (.value (.slice (some ⟨w.heap.size, 0, none⟩) m m)) (w.alloc (.cells c ty)))
    (h : ∀ w' b, Ext w w' → Blk w' b c ty → w.heap.size = b → S w' ∧ WA P n ops N X S fuel (listed.setIfInBounds i true) (putO e d (.slice (some ⟨b, 0, none⟩) m m)) w') : WO P n ops N X S fuel listed i e w :=
  have h' := h _ _ (Ext.alloc _ _) (Blk.new _ _ _) rfl
  O_val hi hd hr h'.1 h'.2
theorem O_newSG {m : Nat} {c : Array Value} {ty : TypeId} (hi : ops[i]? = some ⟨d, x, t, pos, af, some (j, want)⟩) (hd : dOk n d = true) (hj : (ops[j]?).bind (·.dst) = some dj) (hjn : Nat.blt dj n = true) (hb : e dj = .bool b) (he : (b == want) = true)
    (hr : (execOp (ev e) ⟨d, x, t, pos, af, some (j, want)⟩).run P w = .ok (.value (.slice (some ⟨w.heap.size, 0, none⟩) m m)) (w.alloc (.cells c ty)))
    (h : ∀ w' b, Ext w w' → Blk w' b c ty → w.heap.size = b → S w' ∧ WA P n ops N X S fuel (listed.setIfInBounds i true) (putO e d (.slice (some ⟨b, 0, none⟩) m m)) w') : WO P n ops N X S fuel listed i e w :=
  have h' := h _ _ (Ext.alloc _ _) (Blk.new _ _ _) rfl
  O_valG hi hd hj hjn hb he hr h'.1 h'.2
end take
end
end Go.Eng

/-
  The engine: slices that are made, appended to, cut. Generic: no program.
-/
namespace Go.Eng
set_option linter.unusedVariables false
set_option linter.unusedSimpArgs false
open Go.RowKit

/-- Cells, one element behind the other. -/
def Cat {α : Type} (T : Ty α) (w : World) (F : Nat → Prop) : List α → List Value → Prop
  | [], xs => xs = []
  | x :: l, xs => ∃ c r, xs = c ++ r ∧ T.R w F x c ∧ Cat T w F l r
section
variable {α : Type} {T : Ty α} {w w' : World} {F F' : Nat → Prop}
theorem Cat.len : ∀ {l : List α} {xs : List Value}, Cat T w F l xs → xs.length = l.length * T.sz
  | [], _, h => by cases h; simp
  | x :: l, _, ⟨c, r, rfl, h1, h2⟩ => by rw [List.length_append, T.len h1, h2.len, List.length_cons, Nat.add_mul]; omega
theorem Cat.one : ∀ {l : List α} {xs : List Value}, Cat T w F l xs → ∀ u ∈ xs, u.oneCell' = true
  | [], _, h, u, hu => by cases h; cases hu
  | x :: l, _, ⟨c, r, rfl, h1, h2⟩, u, hu => (List.mem_append.1 hu).elim (T.one h1 u) (h2.one u)
theorem Cat.keep : ∀ {l : List α} {xs : List Value}, Cat T w F l xs → Same F w w' → (∀ b, F b → F' b) → Cat T w' F' l xs
  | [], _, h, _, _ => h
  | x :: l, _, ⟨c, r, rfl, h1, h2⟩, hs, hF => ⟨c, r, rfl, T.keep h1 hs hF, h2.keep hs hF⟩
theorem Cat.app : ∀ {l m : List α} {xs ys : List Value}, Cat T w F l xs → Cat T w F m ys → Cat T w F (l ++ m) (xs ++ ys)
  | [], m, xs, ys, h, k => by cases h; exact k
  | x :: l, m, _, ys, ⟨c, r, rfl, h1, h2⟩, k => ⟨c, r ++ ys, by simp, h1, h2.app k⟩
theorem Cat.get : ∀ {l : List α} {xs : List Value}, Cat T w F l xs → ∀ i (hi : i < l.length), ∃ c, T.R w F l[i] c ∧ ∀ j, j < T.sz → xs[i * T.sz + j]? = c[j]?
  | x :: l, _, ⟨c, r, rfl, h1, h2⟩, i, hi => by
    cases i with
    | zero => exact ⟨c, h1, fun j hj => by rw [List.getElem?_append_left (by rw [T.len h1]; omega)]; simp⟩
    | succ i =>
      obtain ⟨c', h3, h4⟩ := h2.get i (by simpa using hi)
      refine ⟨c', by simpa using h3, fun j hj => ?_⟩
      rw [← h4 j hj, List.getElem?_append_right (by rw [T.len h1, Nat.add_mul]; omega), T.len h1]
      congr 1
      rw [Nat.add_mul]; omega
theorem Cat.of_get : ∀ {l : List α} {xs : List Value}, xs.length = l.length * T.sz → (∀ i (hi : i < l.length), ∃ c, T.R w F l[i] c ∧ ∀ j, j < T.sz → xs[i * T.sz + j]? = c[j]?) → Cat T w F l xs
  | [], xs, hl, _ => by simpa [Cat] using hl
  | x :: l, xs, hl, h => by
    rw [List.length_cons, Nat.add_mul, Nat.one_mul] at hl
    obtain ⟨c, h1, h2⟩ := h 0 (by simp)
    refine ⟨c, xs.drop T.sz, ?_, by simpa using h1, Cat.of_get (by simp; omega) ?_⟩
    · have hc : c = xs.take T.sz := by
        apply List.ext_getElem?
        intro j
        by_cases hj : j < T.sz
        · rw [← h2 j hj]; simp [hj]
        · rw [List.getElem?_eq_none (by rw [T.len h1]; omega), List.getElem?_eq_none (by simp; omega)]
      rw [hc, List.take_append_drop]
    · intro i hi
      obtain ⟨c', h3, h4⟩ := h (i + 1) (by simpa using hi)
      refine ⟨c', by simpa using h3, fun j hj => ?_⟩
      rw [← h4 j hj, List.getElem?_drop]
      congr 1
      rw [Nat.add_mul]; omega
theorem Cat.of_one {x : α} {c : List Value} (h : T.R w F x c) : Cat T w F [x] c := ⟨c, [], by simp, h, rfl⟩
/-- A row's cells. -/
theorem Ty.Row.cat {A : Option Addr} {l : List α} (h : T.Row w F A l) : l = [] ∨ ∃ g off xs, A = some ⟨g, off, none⟩ ∧ F g ∧ Cat T w F l xs ∧ ∀ j u, xs[j]? = some u → w.cell? ⟨g, off + j, none⟩ = some u := by
  rcases h with h | ⟨g, off, c, t, fr, rfl, hg, hb, hr⟩
  · exact Or.inl h
  · refine Or.inr ⟨g, off, ?_⟩
    have hall : ∀ n, n ≤ l.length → ∃ xs, Cat T w F (l.take n) xs ∧ ∀ j u, xs[j]? = some u → c[off + j]? = some u := by
      intro n
      induction n with
      | zero => intro _; exact ⟨[], by simp [Cat], by simp⟩
      | succ n ih =>
        intro hn
        obtain ⟨xs, h1, h2⟩ := ih (by omega)
        obtain ⟨y, h3, h4⟩ := hr n (by omega)
        refine ⟨xs ++ y, ?_, ?_⟩
        · rw [List.take_succ_eq_append_getElem (by omega)]
          exact h1.app (Cat.of_one h3)
        · intro j u hu
          have hxl : xs.length = n * T.sz := by rw [h1.len]; simp [Nat.min_eq_left (by omega : n ≤ l.length)]
          by_cases hj : j < xs.length
          · rw [List.getElem?_append_left hj] at hu; exact h2 j u hu
          · rw [List.getElem?_append_right (by omega)] at hu
            have hjy : j - xs.length < T.sz := by
              rw [← T.len h3]
              rcases Nat.lt_or_ge (j - xs.length) y.length with h | h
              · exact h
              · rw [List.getElem?_eq_none h] at hu; cases hu
            rw [← h4 _ hjy] at hu
            rw [← hu]
            congr 1
            omega
    obtain ⟨xs, h1, h2⟩ := hall l.length (Nat.le_refl _)
    rw [List.take_length] at h1
    exact ⟨xs, rfl, hg, h1, fun j u hu => by rw [cell_of_row w g _ c t fr hb]; exact h2 j u hu⟩

/-- What is appended: its cells, wherever they lie. -/
def Src (T : Ty α) (w : World) (F : Nat → Prop) (A : Option Addr) (l : List α) : Prop :=
  l = [] ∨ ∃ g off xs, A = some ⟨g, off, none⟩ ∧ Cat T w F l xs ∧ ∀ j u, xs[j]? = some u → w.cell? ⟨g, off + j, none⟩ = some u
theorem Ty.Row.src {A : Option Addr} {l : List α} (h : T.Row w F A l) : Src T w F A l := by
  rcases h.cat with h | ⟨g, off, xs, h1, _, h3, h4⟩
  · exact Or.inl h
  · exact Or.inr ⟨g, off, xs, h1, h3, h4⟩
/-- A type whose reading hangs on no memory. -/
def Flat (T : Ty α) : Prop := ∀ {w w' : World} {F F' : Nat → Prop} {x cs}, T.R w F x cs → T.R w' F' x cs
theorem flat_scalar {enc : α → Value} {ok : α → Prop} {h1 : ∀ x, (enc x).oneCell' = true} : Flat (Ty.scalar enc ok h1) := fun h => h
theorem flat_byte : Flat Ty.byte := fun h => h
theorem flat_int {k : IntKind} : Flat (Ty.int k) := fun h => h
theorem flat_bool : Flat Ty.bool := fun h => h
theorem flat_string : Flat Ty.string := fun h => h
theorem Cat.flat (hf : Flat T) : ∀ {l : List α} {xs : List Value}, Cat T w F l xs → Cat T w' F' l xs
  | [], _, h => h
  | x :: l, _, ⟨c, r, rfl, h1, h2⟩ => ⟨c, r, rfl, hf h1, h2.flat hf⟩
theorem Ty.Row.srcF {A : Option Addr} {l : List α} (hf : Flat T) (h : T.Row w F A l) : Src T w F' A l := by
  rcases h.cat with h | ⟨g, off, xs, h1, _, h3, h4⟩
  · exact Or.inl h
  · exact Or.inr ⟨g, off, xs, h1, h3.flat hf, h4⟩
/-- One element, in a block that was just made. -/
theorem Src.blk {x : α} {c : List Value} {g : Nat} {t : TypeId} (h : Blk w g c.toArray t) (hR : T.R w F x c) : Src T w F (some ⟨g, 0, none⟩) [x] :=
  Or.inr ⟨g, 0, c, rfl, Cat.of_one hR, fun j u hu => by rw [cell_of_row w g _ _ t (0, 0) h]; simpa using hu⟩
/-- A slice that is one's own: nil, or the head of a block that nobody else has. -/
def Own (T : Ty α) (w : World) (F : Nat → Prop) (B : Nat) (e : TypeId) (v : Value) (l : List α) : Prop :=
  (v = .slice none 0 0 ∧ l = []) ∨ ∃ g cap c xs, v = .slice (some ⟨g, 0, none⟩) l.length cap ∧ B ≤ g ∧ Blk w g c e ∧ l.length ≤ cap ∧ c.size = cap * T.sz ∧ Cat T w F l xs ∧ c.toList.take (l.length * T.sz) = xs
theorem Own.nil {B : Nat} {e : TypeId} : Own T w F B e (.slice none 0 0) [] := Or.inl ⟨rfl, rfl⟩
theorem Own.keep {B : Nat} {e : TypeId} {v : Value} {l : List α} (h : Own T w F B e v l) (hs : Same F w w') (hF : ∀ b, F b → F' b) (hb : ∀ g, v.ownBlock = some g → w'.heap[g]? = w.heap[g]?) : Own T w' F' B e v l := by
  rcases h with h | ⟨g, cap, c, xs, rfl, h1, h2, h3, h4, h5, h6⟩
  · exact Or.inl h
  · exact Or.inr ⟨g, cap, c, xs, rfl, h1, by unfold Blk at *; rw [hb g rfl]; exact h2, h3, h4, h5.keep hs hF, h6⟩
theorem Own.lt {B : Nat} {e : TypeId} {v : Value} {l : List α} (h : Own T w F B e v l) {g : Nat} (hg : v.ownBlock = some g) : B ≤ g ∧ g < w.heap.size := by
  rcases h with ⟨rfl, _⟩ | ⟨g', cap, c, xs, rfl, h1, h2, _⟩
  · simp [Value.ownBlock] at hg
  · simp [Value.ownBlock] at hg; subst hg; exact ⟨h1, Blk.lt h2⟩
theorem Own.ext {B : Nat} {e : TypeId} {v : Value} {l : List α} (h : Own T w F B e v l) (he : Ext w w') (hF : ∀ b, F b → b < w.heap.size) : Own T w' F B e v l :=
  h.keep (fun b hb => he.block b (hF b hb)) (fun _ hb => hb) (fun g hg => he.block g (h.lt hg).2)
theorem Own.mono {B : Nat} {e : TypeId} {v : Value} {l : List α} (h : Own T w F B e v l) (hF : ∀ b, F b → F' b) : Own T w F' B e v l :=
  h.keep (fun _ _ => rfl) hF (fun _ _ => rfl)
/-- What is one's own, read. -/
theorem Own.read {B : Nat} {e : TypeId} {v : Value} {l : List α} (h : Own T w F B e v l) : ∃ A cap, v = .slice A l.length cap ∧ l.length ≤ cap ∧ T.Row w (fun b => F b ∨ v.ownBlock = some b) A l := by
  rcases h with ⟨rfl, rfl⟩ | ⟨g, cap, c, xs, rfl, h1, h2, h3, h4, h5, h6⟩
  · exact ⟨none, 0, rfl, Nat.le_refl _, Or.inl rfl⟩
  · refine ⟨_, cap, rfl, h3, Or.inr ⟨g, 0, c, e, (0, 0), rfl, Or.inr rfl, h2, fun i hi => ?_⟩⟩
    obtain ⟨y, h7, h8⟩ := h5.get i hi
    refine ⟨y, T.keep h7 (fun _ _ => rfl) (fun _ hb => Or.inl hb), fun j hj => ?_⟩
    rw [← h8 j hj, ← h6, List.getElem?_take, if_pos (by have : (i + 1) * T.sz ≤ l.length * T.sz := Nat.mul_le_mul_right _ hi; rw [Nat.add_mul] at this; omega)]
    simp
theorem Own.old {B : Nat} {e : TypeId} {v : Value} {l : List α} (h : Own T w F B e v l) (hF : ∀ b, F b → b < w.heap.size) : ∃ A cap, v = .slice A l.length cap ∧ l.length ≤ cap ∧ T.Row w (old w) A l := by
  obtain ⟨A, cap, h1, h2, h3⟩ := h.read
  refine ⟨A, cap, h1, h2, h3.keep (fun _ _ => rfl) ?_⟩
  rintro b (hb | hb)
  · exact hF b hb
  · exact (h.lt hb).2
end

/-- One's own, of elements of one cell each, written out. -/
theorem Own.scalar {α : Type} {enc : α → Value} {ok : α → Prop} {h1 : ∀ x, (enc x).oneCell' = true} {w : World} {F : Nat → Prop} {B : Nat} {e : TypeId} {v : Value} {l : List α} (h : Own (Ty.scalar enc ok h1) w F B e v l) (hne : l ≠ []) :
    ∃ g cap c, v = .slice (some ⟨g, 0, none⟩) l.length cap ∧ B ≤ g ∧ Blk w g c e ∧ l.length ≤ cap ∧ c.size = cap ∧ ∀ i (hi : i < l.length), c[i]? = some (enc l[i]) := by
  rcases h with ⟨_, rfl⟩ | ⟨g, cap, c, xs, rfl, h1, h2, h3, h4, h5, h6⟩
  · exact absurd rfl hne
  · refine ⟨g, cap, c, rfl, h1, h2, h3, by simpa [Ty.scalar] using h4, fun i hi => ?_⟩
    obtain ⟨y, h7, h8⟩ := h5.get i hi
    obtain ⟨rfl, _⟩ := h7
    have := h8 0 (Nat.lt_add_one 0)
    simp only [Ty.scalar, Nat.mul_one, Nat.add_zero, List.getElem?_cons_zero] at this
    rw [← h6, List.getElem?_take] at this
    simp only [Ty.scalar, Nat.mul_one, hi, if_true] at this
    simpa using this

/-! append -/
/-- What append leaves: blocks that are not the first slice's are as they were. -/
structure Gro (row : Option Nat) (w w' : World) : Prop where
  os : w'.os = w.os
  tape : w'.tape = w.tape
  output : w'.output = w.output
  size : w.heap.size ≤ w'.heap.size
  block : ∀ k, k < w.heap.size → row ≠ some k → w'.heap[k]? = w.heap[k]?
theorem Gro.ext {w w' : World} (h : Gro none w w') : Ext w w' := ⟨h.os, h.tape, h.output, h.size, fun k hk => h.block k hk (by simp)⟩
theorem _root_.Go.RowKit.Below.gro {B : Nat} {a w w' : World} {row : Option Nat} (h : Below B a w) (hg : Gro row w w') (hB : B ≤ w.heap.size) (hr : ∀ k, row = some k → B ≤ k) : Below B a w' :=
  h.trans ⟨hg.os, hg.tape, hg.output, hg.size, fun k hk => hg.block k (by omega) (fun e => by have := hr k e; omega)⟩
theorem Gro.same {w w' : World} {row : Option Nat} {F : Nat → Prop} (h : Gro row w w') (hF : ∀ b, F b → b < w.heap.size ∧ row ≠ some b) : Same F w w' := fun b hb => h.block b (hF b hb).1 (hF b hb).2

theorem info_of {P : Program} {e : TypeId} {sz by_ : Nat} {z : Value} (hs : (P.info? e).map (·.size) = some sz) (hy : (P.info? e).map (·.bytes) = some by_) (hz : (P.info? e).bind (·.zero) = some z) :
    ∃ i, P.info? e = some i ∧ i.size = sz ∧ i.bytes = by_ ∧ i.zero = some z := by
  cases h : P.info? e with
  | none => simp [h] at hs
  | some i => exact ⟨i, rfl, by simpa [h] using hs, by simpa [h] using hy, by simpa [h] using hz⟩

section
variable {α : Type} {T : Ty α} {P : Program} {w : World} {F : Nat → Prop}
/-- The run of 'append(s, x..)', s one's own. -/
theorem run_append {t ty e : TypeId} {z : Value} {by_ B : Nat} {v : Value} {l m : List α} {A : Option Addr} {c : Nat} (hu : P.underlying t = some (.slice e)) (hs : (P.info? e).map (·.size) = some T.sz) (hy : (P.info? e).map (·.bytes) = some by_)
    (hz : (P.info? e).bind (·.zero) = some z) (hzs : z.cells.size = T.sz) (hown : Own T w F B e v l) (hrow : Src T w F A m)
    (hF : ∀ b, F b → b < w.heap.size ∧ v.ownBlock ≠ some b) (hsz : (l.length + m.length) * by_ ≤ 140737488355328) (h63 : l.length + m.length ≤ 140737488355328) (hB : B ≤ w.heap.size) :
    ∃ v' w', (Builtin.append_ #[t, t] ty #[v, .slice A m.length c]).run P w = .ok v' w' ∧ Own T w' F B e v' (l ++ m) ∧ Gro v.ownBlock w w' ∧ (v'.ownBlock = v.ownBlock ∨ ∃ g, v'.ownBlock = some g ∧ w.heap.size ≤ g) := by
  obtain ⟨i, hi, his, hib, hiz⟩ := info_of hs hy hz
  have same0 : Gro v.ownBlock w w := ⟨rfl, rfl, rfl, Nat.le_refl _, fun _ _ _ => rfl⟩
  -- nothing is appended
  have hnil : m = [] → ∃ v' w', (Builtin.append_ #[t, t] ty #[v, .slice A m.length c]).run P w = .ok v' w' ∧ Own T w' F B e v' (l ++ m) ∧ Gro v.ownBlock w w' ∧ (v'.ownBlock = v.ownBlock ∨ ∃ g, v'.ownBlock = some g ∧ w.heap.size ≤ g) := by
    rintro rfl
    refine ⟨v, w, ?_, by simpa using hown, same0, Or.inl rfl⟩
    have hfc : ∀ A : Option Addr, (Builtin.firstCells T.sz 0 (.slice A 0 c)).run P w = .ok #[] w := by
      intro A
      cases A with
      | none => simp [Builtin.firstCells]
      | some a => simp [Builtin.firstCells, loadCells, loadCellsFrom]
    rcases hown with ⟨rfl, rfl⟩ | ⟨g, cap, cc, xs, rfl, h1, h2, h3, h4, h5, h6⟩
    · simp [Builtin.append_, run_underlying hu, sizeOf, typeInfo, hi, Builtin.lenOf, his, hfc]
    · simp [Builtin.append_, run_underlying hu, sizeOf, typeInfo, hi, Builtin.lenOf, his, hfc, h3, storeCells]
  rcases hrow with h0 | ⟨gx, offx, news, rfl, hcat, hcell⟩
  · exact hnil h0
  · by_cases hm0 : m = []
    · exact hnil hm0
    · have hmpos : 0 < m.length := List.length_pos_iff.2 hm0
      have hnl : news.length = m.length * i.size := by rw [his]; exact hcat.len
      have hnews : ∀ j u, news[j]? = some u → w.cell? ((⟨gx, offx, none⟩ : Addr).add j) = some u := fun j u hu => by rw [add_at]; exact hcell j u hu
      have mk : ∀ (old need : Nat) (xs : List Value), need = l.length + m.length → Cat T w F l xs →
          Own T (w.drew.alloc (.cells (xs.toArray ++ news.toArray ++ Builtin.zeroCells z.cells (grownCap w need old e - need)) e)) F B e (.slice (some ⟨w.heap.size, 0, none⟩) need (grownCap w need old e)) (l ++ m) ∧
          Gro v.ownBlock w (w.drew.alloc (.cells (xs.toArray ++ news.toArray ++ Builtin.zeroCells z.cells (grownCap w need old e - need)) e)) := by
        intro old need xs hneed hxs
        have hE : Ext w (w.drew.alloc (.cells (xs.toArray ++ news.toArray ++ Builtin.zeroCells z.cells (grownCap w need old e - need)) e)) := (Ext.drew (Ext.refl w)).of_alloc _
        have hge := grownCap_ge w need old e
        have hall : Cat T w F (l ++ m) (xs ++ news) := hxs.app hcat
        refine ⟨Or.inr ⟨w.heap.size, grownCap w need old e, _, xs ++ news, by rw [List.length_append, hneed], hB, heap_alloc_new w.drew _, by rw [List.length_append]; omega, ?_, hall.keep (fun b hb => hE.block b (hF b hb).1) (fun _ h => h), ?_⟩, ⟨hE.os, hE.tape, hE.output, hE.size, fun k hk _ => hE.block k hk⟩⟩
        · have h1 := hxs.len
          have h2 := hcat.len
          simp only [Array.size_append, List.size_toArray, size_zeroCells, hzs, h1, h2]
          rw [← Nat.add_mul, ← Nat.add_mul]
          congr 1
          omega
        · simp only [Array.toList_append]
          rw [← hall.len]
          exact List.take_left
      rcases hown with ⟨rfl, rfl⟩ | ⟨g, cap, cc, xs, rfl, h1, h2, h3, h4, h5, h6⟩
      · have hr := run_append_nil (P := P) w t ty e i z hu hi hiz ⟨gx, offx, none⟩ m.length c news hnl hnews hmpos (by omega) (by rw [hib]; simp only [List.length_nil, Nat.zero_add] at hsz; omega)
        have hmk := mk 0 m.length [] (by simp) rfl
        simp only [List.nil_append, Array.empty_append] at hmk hr
        exact ⟨_, _, hr, hmk.1, hmk.2, Or.inr ⟨w.heap.size, rfl, Nat.le_refl _⟩⟩
      · by_cases hroom : l.length + m.length ≤ cap
        · have hfit : l.length * i.size + news.length ≤ cc.size := by rw [hnl, h4, his, ← Nat.add_mul]; exact Nat.mul_le_mul_right _ hroom
          have hr := run_append_room (P := P) w t ty e i hu hi g l.length cap cc h2 ⟨gx, offx, none⟩ m.length c news hnl hnews hcat.one hroom hfit
          have hG : Gro (some g) w (w.setRow g (cc.toList.take (l.length * i.size) ++ news ++ cc.toList.drop (l.length * i.size + news.length)).toArray) :=
            ⟨rfl, rfl, rfl, by simp, fun k _ hk => setRow_other w g k _ (fun q => hk (by rw [q]))⟩
          refine ⟨_, _, hr, Or.inr ⟨g, cap, _, xs ++ news, by rw [List.length_append], h1, setRow_heap w g cc _ e _ h2, by rw [List.length_append]; exact hroom, ?_, (h5.app hcat).keep (hG.same hF) (fun _ h => h), ?_⟩, hG, Or.inl rfl⟩
          · simp only [List.size_toArray, List.length_append, List.length_take, List.length_drop, Array.length_toList]
            omega
          · have hlen : (l ++ m).length * T.sz = (xs ++ news).length := ((h5.app hcat).len).symm
            rw [his, h6, hlen]
            exact List.take_left
        · have holds : ∀ j u, xs[j]? = some u → w.cell? ((⟨g, 0, none⟩ : Addr).add j) = some u := by
            intro j u hu
            rw [add_at, cell_of_row w g _ cc e (0, 0) h2, Nat.zero_add]
            rw [← h6, List.getElem?_take] at hu
            split at hu
            · simpa using hu
            · cases hu
          have hxl : xs.length = l.length * i.size := by rw [his]; exact h5.len
          have hr := run_append_grow (P := P) w t ty e i z hu hi hiz ⟨g, 0, none⟩ l.length cap xs hxl holds ⟨gx, offx, none⟩ m.length c news hnl hnews (by omega) (by omega) (growslice_fits (by omega) (by rw [hib]; exact hsz))
          have hmk := mk cap (l.length + m.length) xs rfl h5
          exact ⟨_, _, hr, hmk.1, hmk.2, Or.inr ⟨w.heap.size, rfl, Nat.le_refl _⟩⟩

variable {n : Nat} {N : Env → World → Prop} {X : Exit → Env → World → Prop} {e : Env} {ops : Array Oper} {rest : List Oper} {d : Option Tmp} {ty : TypeId} {pos : String} {af : Array Edge} {g : Option (Nat × Bool)}
theorem r_append {ρ : Operand → Value} {s x : Operand} {t : TypeId} {v u v' : Value} {w' : World} (hs : ρ s = v) (hx : ρ x = u) (h : (Builtin.append_ #[t, t] ty #[v, u]).run P w = .ok v' w') :
    (execOp ρ ⟨d, .call { callee := .builtin .append, args := #[s, x], argTypes := #[t, t] }, ty, pos, af, g⟩).run P w = .ok (.value v') w' := by
  simp [execOp, resolve, invoke, builtin, hs, hx, h]
theorem op_append {s x : Operand} {t el : TypeId} {z : Value} {by_ B c : Nat} {v : Value} {l m : List α} {A : Option Addr} (hd : dOk n d = true) (hsv : ev e s = v) (hx : ev e x = .slice A m.length c)
    (hu : P.underlying t = some (.slice el)) (hs : (P.info? el).map (·.size) = some T.sz) (hy : (P.info? el).map (·.bytes) = some by_) (hz : (P.info? el).bind (·.zero) = some z) (hzs : z.cells.size = T.sz)
    (hown : Own T w F B el v l) (hrow : Src T w F A m) (hF : ∀ b, F b → b < w.heap.size ∧ v.ownBlock ≠ some b) (hsz : (l.length + m.length) * by_ ≤ 140737488355328) (h63 : l.length + m.length ≤ 140737488355328) (hB : B ≤ w.heap.size)
    (h : ∀ v' w', Own T w' F B el v' (l ++ m) → Gro v.ownBlock w w' → (v'.ownBlock = v.ownBlock ∨ ∃ g, v'.ownBlock = some g ∧ w.heap.size ≤ g) → WL P n ops N X rest (putO e d v') w') :
    WL P n ops N X (⟨d, .call { callee := .builtin .append, args := #[s, x], argTypes := #[t, t] }, ty, pos, af, none⟩ :: rest) e w := by
  obtain ⟨v', w', hr, h1, h2, h3⟩ := run_append (ty := ty) (c := c) hu hs hy hz hzs hown hrow hF hsz h63 hB
  exact op hd (r_append hsv hx hr) (h v' w' h1 h2 h3)
end

/-! cuts -/
def cutA (A : Option Addr) (cap k sz : Nat) : Option Addr := if cap = k then A else A.map (·.add (k * sz))
section
variable {α : Type} {T : Ty α} {P : Program} {w : World} {F : Nat → Prop} {A : Option Addr} {l : List α}
theorem Ty.Row.take (h : T.Row w F A l) (k : Nat) : T.Row w F A (l.take k) := by
  rcases h with rfl | ⟨g, off, c, t, fr, rfl, hg, hb, hr⟩
  · exact Or.inl (by simp)
  · refine Or.inr ⟨g, off, c, t, fr, rfl, hg, hb, fun i hi => ?_⟩
    have hi' : i < l.length := by simp at hi; omega
    obtain ⟨xs, h1, h2⟩ := hr i hi'
    exact ⟨xs, by simpa using h1, h2⟩
theorem Ty.Row.drop (h : T.Row w F A l) {cap k : Nat} (hc : l.length ≤ cap) : T.Row w F (cutA A cap k T.sz) (l.drop k) := by
  unfold cutA
  by_cases hk : l.length ≤ k
  · exact Or.inl (List.drop_eq_nil_of_le hk)
  · rw [if_neg (by omega)]
    rcases h with rfl | ⟨g, off, c, t, fr, rfl, hg, hb, hr⟩
    · exact Or.inl (by simp)
    · refine Or.inr ⟨g, off + k * T.sz, c, t, fr, by simp [add_at], hg, hb, fun i hi => ?_⟩
      have hi' : k + i < l.length := by simp at hi; omega
      obtain ⟨xs, h1, h2⟩ := hr (k + i) hi'
      refine ⟨xs, by simpa using h1, fun j hj => ?_⟩
      rw [← h2 j hj]
      congr 1
      rw [Nat.add_mul]; omega
variable {ρ : Operand → Value} {d : Option Tmp} {t : TypeId} {pos : String} {af : Array Edge} {g : Option (Nat × Bool)} {x y z : Operand} {ty e : TypeId} {ky kz : IntKind} {cap i j n : Nat}
theorem run_sliceBound (k : IntKind) (i y : Nat) (code : BoundsCode) (h : i ≤ y) : (Instr.sliceBound (.int k i) y code).run P w = .ok i w := by
  have h1 : (0 : Int) ≤ (i : Int) ∧ (i : Int) ≤ (y : Int) := ⟨Int.natCast_nonneg _, by omega⟩
  simp [Instr.sliceBound, asIntOf, h]
theorem run_sliceS (hx : ρ x = .slice A n cap) (hu : P.underlying ty = some (.slice e)) (lo hi mx : Option Operand) (l h m : Nat) {sz : Nat} (hs : (P.info? e).map (·.size) = some sz)
    (hb : (Instr.sliceBounds true n cap (lo.map ρ) (hi.map ρ) (mx.map ρ)).run P w = .ok (l, h, m) w) :
    (execOp ρ ⟨d, .slice ty x lo hi mx, t, pos, af, g⟩).run P w = .ok (.value (.slice (if m = l then A else A.map (·.add (l * sz))) (h - l) (m - l))) w := by
  cases hq : P.info? e with
  | none => simp [hq] at hs
  | some inf =>
    have hsz : inf.size = sz := by simpa [hq] using hs
    simp [execOp, Instr.sliceAt, Instr.slice, run_underlying hu, hx, hb, sizeOf, typeInfo, hq, hsz]
/-- 's[:j]'. -/
theorem r_sliceHi (hx : ρ x = .slice A n cap) (hy : ρ y = .int ky j) (hu : P.underlying ty = some (.slice e)) {sz : Nat} (hs : (P.info? e).map (·.size) = some sz) (hj : j ≤ cap) :
    (execOp ρ ⟨d, .slice ty x none (some y) none, t, pos, af, g⟩).run P w = .ok (.value (.slice A j cap)) w := by
  rw [run_sliceS hx hu none (some y) none 0 j cap hs (by simp [Instr.sliceBounds, hy, run_sliceBound _ _ _ _ hj])]
  congr 3
  · split
    · rfl
    · cases A <;> simp [Addr.add]
/-- 's[i:]'. -/
theorem r_sliceLo (hx : ρ x = .slice A n cap) (hy : ρ y = .int ky i) (hu : P.underlying ty = some (.slice e)) {sz : Nat} (hs : (P.info? e).map (·.size) = some sz) (hi : i ≤ n) :
    (execOp ρ ⟨d, .slice ty x (some y) none none, t, pos, af, g⟩).run P w = .ok (.value (.slice (cutA A cap i sz) (n - i) (cap - i))) w := by
  rw [run_sliceS hx hu (some y) none none i n cap hs (by simp [Instr.sliceBounds, hy, run_sliceBound _ _ _ _ hi])]
  rfl
/-- 's[i:j]'. -/
theorem r_sliceLoHi (hx : ρ x = .slice A n cap) (hy : ρ y = .int ky i) (hz : ρ z = .int kz j) (hu : P.underlying ty = some (.slice e)) {sz : Nat} (hs : (P.info? e).map (·.size) = some sz) (hij : i ≤ j) (hj : j ≤ cap) :
    (execOp ρ ⟨d, .slice ty x (some y) (some z) none, t, pos, af, g⟩).run P w = .ok (.value (.slice (cutA A cap i sz) (j - i) (cap - i))) w := by
  rw [run_sliceS hx hu (some y) (some z) none i j cap hs (by simp [Instr.sliceBounds, hy, hz, run_sliceBound _ _ _ _ hj, run_sliceBound _ _ _ _ hij])]
  rfl
/-- 's[i:j:k]'. -/
theorem r_slice3 {u : Operand} {ku : IntKind} {k : Nat} (hx : ρ x = .slice A n cap) (hy : ρ y = .int ky i) (hz : ρ z = .int kz j) (hw : ρ u = .int ku k) (hu : P.underlying ty = some (.slice e)) {sz : Nat} (hs : (P.info? e).map (·.size) = some sz) (hij : i ≤ j) (hj : j ≤ k) (hk : k ≤ cap) :
    (execOp ρ ⟨d, .slice ty x (some y) (some z) (some u), t, pos, af, g⟩).run P w = .ok (.value (.slice (cutA A k i sz) (j - i) (k - i))) w := by
  rw [run_sliceS hx hu (some y) (some z) (some u) i j k hs (by simp [Instr.sliceBounds, hy, hz, hw, run_sliceBound _ _ _ _ hj, run_sliceBound _ _ _ _ hij, run_sliceBound _ _ _ _ hk])]
  rfl
end

/-! make -/
section
variable {α : Type} {T : Ty α} {P : Program} {n : Nat} {N : Env → World → Prop} {X : Exit → Env → World → Prop} {e : Env} {w : World} {ops : Array Oper} {rest : List Oper} {d : Option Tmp} {t : TypeId} {pos : String} {af : Array Edge} {g : Option (Nat × Bool)}
theorem r_makeSlice {ρ : Operand → Value} {x y : Operand} {ty el : TypeId} {by_ m k sz : Nat} {z : Value} (hx : ρ x = .int .i64 m) (hy : ρ y = .int .i64 k) (hu : P.underlying ty = some (.slice el)) (hs : (P.info? el).map (·.size) = some sz)
    (hby : (P.info? el).map (·.bytes) = some by_) (hz : (P.info? el).bind (·.zero) = some z) (hmk : m ≤ k) (hb : k * by_ ≤ 140737488355328) (hk : k ≤ 140737488355328) :
    (execOp ρ ⟨d, .makeSlice ty x y, t, pos, af, g⟩).run P w = .ok (.value (.slice (some ⟨w.heap.size, 0, none⟩) m k)) (w.alloc (.cells (madeCells z.cells (k * sz)) el)) := by
  obtain ⟨inf, hi, his, hib, hiz⟩ := info_of hs hby hz
  have hbb : (inf.bytes : Int) * (k : Int) ≤ 281474976710656 := by
    rw [hib]
    have : ((by_ : Int) * (k : Int)) = ((k * by_ : Nat) : Int) := by rw [Int.natCast_mul, Int.mul_comm]
    rw [this]; omega
  have hr := run_make (P := P) (w := w) ty el inf z hu hi hiz .i64 .i64 m k (by omega) (by omega) hbb (by omega)
  rw [his] at hr
  simp only [Int.toNat_natCast] at hr
  simp [execOp, hx, hy, hr]
theorem madeCells_one (z : Value) (k : Nat) : madeCells #[z] (k * 1) = Array.replicate k z := by
  apply Array.toList_inj.1
  rw [toList_madeCells_one]
  simp
end
end Go.Eng

/-
  The engine: regions that draw their order and make blocks beside calls: a block that is made may have been made earlier. Generic: no program.
-/
namespace Go.Eng
set_option linter.unusedVariables false
set_option linter.unusedSimpArgs false
open Go.RowKit

/-- A block that is to be made: operation i puts mk b into slot d, and lays o at b. -/
structure Pd where
  i : Nat
  d : Tmp
  val : Nat → Value
  o : Obj

/-- How the run may stand: of those that are to be made some may be made already. -/
def Real : List Pd → Env → Array Bool → World → Env → Array Bool → Prop
  | [], e, L, _, eR, LR => eR = e ∧ LR = L
  | p :: ps, e, L, w, eR, LR => Real ps e L w eR LR ∨ ∃ b, w.heap[b]? = some p.o ∧ Real ps (put e p.d (p.val b)) (L.setIfInBounds p.i true) w eR LR

def unl (k : Nat) (L : Array Bool) : Nat := (List.range k).countP fun i => !L.getD i true

theorem getD_set (L : Array Bool) (i j : Nat) : (L.setIfInBounds i true).getD j true = if i = j then true else L.getD j true := by
  simp only [Array.getD_eq_getD_getElem?, Array.getElem?_setIfInBounds]
  by_cases h : i = j
  · subst h
    by_cases hlt : i < L.size <;> simp [hlt]
  · simp [h]
theorem countP_lt_of (l : List Nat) (f g : Nat → Bool) (i : Nat) (hi : i ∈ l) (hn : l.Nodup) (h1 : f i = true) (h2 : g i = false) (h3 : ∀ j, j ≠ i → g j = f j) : l.countP g + 1 = l.countP f := by
  induction l with
  | nil => cases hi
  | cons x l ih =>
    rw [List.countP_cons, List.countP_cons]
    rw [List.nodup_cons] at hn
    rcases List.mem_cons.1 hi with rfl | hi
    · rw [h1, h2]
      have : l.countP g = l.countP f := List.countP_congr (fun y hy => by rw [h3 y (fun e => hn.1 (e ▸ hy))])
      simp [this]
    · rw [h3 x (fun e => hn.1 (e ▸ hi)), ← ih hi hn.2]
      omega
theorem unl_set {k i : Nat} {L : Array Bool} (hi : i < k) (h : L.getD i true = false) : unl k (L.setIfInBounds i true) + 1 = unl k L := by
  unfold unl
  refine countP_lt_of _ _ _ i (by simpa using hi) List.nodup_range (by rw [h]; rfl) (by rw [getD_set, if_pos rfl]; rfl) ?_
  intro j hj
  rw [getD_set, if_neg (fun e => hj e.symm)]
theorem unl_pos {k i : Nat} {L : Array Bool} (hi : i < k) (h : L.getD i true = false) : 0 < unl k L := by have := unl_set hi h; omega

theorem put_comm (e : Env) {c d : Nat} (h : c ≠ d) (u v : Value) : put (put e c u) d v = put (put e d v) c u := by
  funext i
  by_cases h1 : i = d
  · subst h1; rw [put_same, put_ne _ _ _ _ (fun q => h q.symm), put_same]
  · rw [put_ne _ _ _ _ h1]
    by_cases h2 : i = c
    · subst h2; rw [put_same, put_same]
    · rw [put_ne _ _ _ _ h2, put_ne _ _ _ _ h2, put_ne _ _ _ _ h1]
theorem set_comm (L : Array Bool) (i j : Nat) : (L.setIfInBounds i true).setIfInBounds j true = (L.setIfInBounds j true).setIfInBounds i true := by
  by_cases h : i = j
  · subst h; rfl
  · exact Array.setIfInBounds_comm _ _ h

theorem Real.world {w w' : World} (h : Ext w w') : ∀ {ps : List Pd} {e : Env} {L : Array Bool} {eR : Env} {LR : Array Bool}, Real ps e L w eR LR → Real ps e L w' eR LR
  | [], _, _, _, _, hr => hr
  | p :: ps, e, L, eR, LR, hr => hr.imp (fun h1 => Real.world h h1) (fun ⟨b, hb, h1⟩ => ⟨b, ext_heap hb h, Real.world h h1⟩)
theorem Real.env {w : World} : ∀ {ps : List Pd} {e : Env} {L : Array Bool} {eR : Env} {LR : Array Bool}, Real ps e L w eR LR → ∀ t, (∀ p ∈ ps, p.d ≠ t) → eR t = e t
  | [], _, _, _, _, ⟨rfl, rfl⟩, _, _ => rfl
  | p :: ps, e, L, eR, LR, hr, t, ht => by
    rcases hr with h1 | ⟨b, _, h1⟩
    · exact h1.env t (fun q hq => ht q (List.mem_cons_of_mem _ hq))
    · rw [h1.env t (fun q hq => ht q (List.mem_cons_of_mem _ hq)), put_ne _ _ _ _ (fun q => ht p (List.mem_cons_self ..) q.symm)]
theorem Real.lst {w : World} : ∀ {ps : List Pd} {e : Env} {L : Array Bool} {eR : Env} {LR : Array Bool}, Real ps e L w eR LR → ∀ i, (∀ p ∈ ps, p.i ≠ i) → LR.getD i true = L.getD i true
  | [], _, _, _, _, ⟨rfl, rfl⟩, _, _ => rfl
  | p :: ps, e, L, eR, LR, hr, i, hi => by
    rcases hr with h1 | ⟨b, _, h1⟩
    · exact h1.lst i (fun q hq => hi q (List.mem_cons_of_mem _ hq))
    · rw [h1.lst i (fun q hq => hi q (List.mem_cons_of_mem _ hq)), getD_set, if_neg (hi p (List.mem_cons_self ..))]
theorem Real.up {w : World} : ∀ {ps : List Pd} {e : Env} {L : Array Bool} {eR : Env} {LR : Array Bool}, Real ps e L w eR LR → ∀ i, L.getD i true = true → LR.getD i true = true
  | [], _, _, _, _, ⟨rfl, rfl⟩, _, h => h
  | p :: ps, e, L, eR, LR, hr, i, hi => by
    rcases hr with h1 | ⟨b, _, h1⟩
    · exact h1.up i hi
    · refine h1.up i ?_
      rw [getD_set]
      split
      · rfl
      · exact hi
def setAll (L : Array Bool) : List Pd → Array Bool
  | [] => L
  | p :: ps => setAll (L.setIfInBounds p.i true) ps
theorem setAll_up : ∀ (ps : List Pd) (L : Array Bool) (i : Nat), L.getD i true = true → (setAll L ps).getD i true = true
  | [], _, _, h => h
  | p :: ps, L, i, h => setAll_up ps _ i (by
      rw [getD_set]
      split
      · rfl
      · exact h)
theorem setAll_mono : ∀ (ps : List Pd) (L L' : Array Bool), (∀ i, L.getD i true = true → L'.getD i true = true) → ∀ i, (setAll L ps).getD i true = true → (setAll L' ps).getD i true = true
  | [], _, _, h => h
  | p :: ps, L, L', h => setAll_mono ps _ _ (fun i hi => by
      rw [getD_set] at hi ⊢
      split
      · rfl
      · rename_i hne; rw [if_neg hne] at hi; exact h i hi)
theorem setAll_mem : ∀ (ps : List Pd) (L : Array Bool) (p : Pd), p ∈ ps → (setAll L ps).getD p.i true = true
  | q :: ps, L, p, h => by
    rcases List.mem_cons.1 h with rfl | h
    · exact setAll_up ps _ _ (by rw [getD_set, if_pos rfl])
    · exact setAll_mem ps _ p h
theorem setAll_not : ∀ (ps : List Pd) (L : Array Bool) (i : Nat), (∀ p ∈ ps, p.i ≠ i) → (setAll L ps).getD i true = L.getD i true
  | [], _, _, _ => rfl
  | p :: ps, L, i, h => by rw [setAll, setAll_not ps _ i (fun q hq => h q (List.mem_cons_of_mem _ hq)), getD_set, if_neg (h p (List.mem_cons_self ..))]
theorem Real.all {w : World} : ∀ {ps : List Pd} {e : Env} {L : Array Bool} {eR : Env} {LR : Array Bool}, Real ps e L w eR LR → ∀ i, LR.getD i true = true → (setAll L ps).getD i true = true
  | [], _, _, _, _, ⟨rfl, rfl⟩, _, h => h
  | p :: ps, e, L, eR, LR, hr, i, hi => by
    rcases hr with h1 | ⟨b, _, h1⟩
    · exact setAll_mono ps _ _ (fun j hj => by
        rw [getD_set]
        split
        · rfl
        · exact hj) i (h1.all i hi)
    · exact h1.all i hi
/-- One more that is there. -/
theorem Real.put {w : World} {d : Tmp} {v : Value} {i : Nat} : ∀ {ps : List Pd} {e : Env} {L : Array Bool} {eR : Env} {LR : Array Bool}, Real ps e L w eR LR → (∀ p ∈ ps, p.d ≠ d) → Real ps (put e d v) (L.setIfInBounds i true) w (Eng.put eR d v) (LR.setIfInBounds i true)
  | [], _, _, _, _, ⟨rfl, rfl⟩, _ => ⟨rfl, rfl⟩
  | p :: ps, e, L, eR, LR, hr, hd => by
    rcases hr with h1 | ⟨b, hb, h1⟩
    · exact Or.inl (h1.put (fun q hq => hd q (List.mem_cons_of_mem _ hq)))
    · refine Or.inr ⟨b, hb, ?_⟩
      have := h1.put (d := d) (v := v) (i := i) (fun q hq => hd q (List.mem_cons_of_mem _ hq))
      rwa [put_comm _ (hd p (List.mem_cons_self ..)), set_comm] at this
theorem Real.putO {w : World} {d : Option Tmp} {v : Value} {i : Nat} {ps : List Pd} {e : Env} {L : Array Bool} {eR : Env} {LR : Array Bool} (h : Real ps e L w eR LR) (hd : ∀ p ∈ ps, some p.d ≠ d) : Real ps (Eng.putO e d v) (L.setIfInBounds i true) w (Eng.putO eR d v) (LR.setIfInBounds i true) := by
  cases d with
  | some d => exact h.put (fun p hp q => hd p hp (by rw [q]))
  | none =>
    simp only [Eng.putO]
    clear hd
    induction ps generalizing e L with
    | nil => obtain ⟨rfl, rfl⟩ := h; exact ⟨rfl, rfl⟩
    | cons p ps ih =>
      rcases h with h1 | ⟨b, hb, h1⟩
      · exact Or.inl (ih h1)
      · refine Or.inr ⟨b, hb, ?_⟩
        have := ih h1
        rwa [set_comm] at this
/-- One of those that are to be made is made. -/
theorem Real.flip {w : World} {p : Pd} {b : Nat} (hb : w.heap[b]? = some p.o) : ∀ {ps : List Pd} {e : Env} {L : Array Bool} {eR : Env} {LR : Array Bool}, Real ps e L w eR LR → p ∈ ps → (ps.map (·.d)).Nodup → L.getD p.i true = false → LR.getD p.i true = false →
    Real ps e L w (Eng.put eR p.d (p.val b)) (LR.setIfInBounds p.i true)
  | q :: ps, e, L, eR, LR, hr, hp, hn, hL, hf => by
    simp only [List.map_cons, List.nodup_cons] at hn
    rcases List.mem_cons.1 hp with rfl | hp'
    · rcases hr with h1 | ⟨b', _, h1⟩
      · exact Or.inr ⟨b, hb, h1.put (fun q hq hqd => hn.1 (List.mem_map.2 ⟨q, hq, hqd⟩))⟩
      · have := h1.up p.i (by rw [getD_set, if_pos rfl])
        rw [this] at hf; cases hf
    · rcases hr with h1 | ⟨b', hb', h1⟩
      · exact Or.inl (h1.flip hb hp' hn.2 hL hf)
      · by_cases hqi : q.i = p.i
        · have := h1.up p.i (by rw [getD_set, if_pos hqi])
          rw [this] at hf; cases hf
        · exact Or.inr ⟨b', hb', h1.flip hb hp' hn.2 (by rw [getD_set, if_neg hqi]; exact hL) hf⟩

section
variable {P : Program} {n : Nat} {ops : Array Oper} {N : Env → World → Prop} {X : Exit → Env → World → Prop} {w₀ : World}

def Lazy (P : Program) (n : Nat) (ops : Array Oper) (N : Env → World → Prop) (X : Exit → Env → World → Prop) (w₀ : World) (ps : List Pd) (L : Array Bool) (e : Env) (w : World) : Prop :=
  ∀ (k : Nat) (wR : World) (eR : Env) (LR : Array Bool), Ext w wR → Real ps e L wR eR LR → unl ops.size LR ≤ k → WA P n ops N X (Ext w₀) k LR eR wR

theorem W_lazy {id : Nat} {l : List Oper} {k : Nat} {w : World} {e : Env} (hm : P.follows .mixedOrders = true) (hk : l.toArray.size = k) (h0 : Ext w₀ w)
    (h : ∀ w', Ext w w' → Ext w₀ w' → Lazy P n l.toArray N X w₀ [] (Array.replicate k false) e w') : W P n (.region id l.toArray true) N X e w := by
  refine W_draw (Ext w₀) hm hk ?_
  refine h _ (ext_drawn w) (h0.trans (ext_drawn w)) k _ _ _ (Ext.refl _) ⟨rfl, rfl⟩ ?_
  rw [hk]
  unfold unl
  exact Nat.le_trans List.countP_le_length (by simp)

variable {ps : List Pd} {L : Array Bool} {e : Env} {w : World}
theorem L_done (hr : Region.ready .any ops L = []) (h : ∀ w', Ext w w' → N e w') : Lazy P n ops N X w₀ [] L e w := by
  rintro k wR eR LR hE ⟨rfl, rfl⟩ _
  exact A_done hr (h _ hE)
/-- A block is told to be made, some time. -/
theorem L_new (p : Pd) (h : Lazy P n ops N X w₀ (p :: ps) L e w) : Lazy P n ops N X w₀ ps L e w :=
  fun k wR eR LR hE hR hk => h k wR eR LR hE (Or.inl hR) hk
theorem Real.swap {p q : Pd} (hd : p.d ≠ q.d) {eR : Env} {LR : Array Bool} {wR : World} (h : Real (q :: p :: ps) e L wR eR LR) : Real (p :: q :: ps) e L wR eR LR := by
  rcases h with (h1 | ⟨b, hb, h1⟩) | ⟨b, hb, h1 | ⟨b', hb', h1⟩⟩
  · exact Or.inl (Or.inl h1)
  · exact Or.inr ⟨b, hb, Or.inl h1⟩
  · exact Or.inl (Or.inr ⟨b, hb, h1⟩)
  · refine Or.inr ⟨b', hb', Or.inr ⟨b, hb, ?_⟩⟩
    rwa [put_comm _ hd, set_comm]
theorem L_swap {p q : Pd} (hd : Nat.beq p.d q.d = false) (h : Lazy P n ops N X w₀ (p :: q :: ps) L e w) : Lazy P n ops N X w₀ (q :: p :: ps) L e w :=
  fun k wR eR LR hE hR hk => h k wR eR LR hE (hR.swap (by rintro q; rw [q] at hd; simp at hd)) hk

/-- An operation's temporaries are none of those that are to be filled. -/
def avoids (ops : Array Oper) (ps : List Pd) (i : Nat) : Bool :=
  match ops[i]? with
  | some o => ps.all fun p => !(o.looksAt ops).contains p.d && o.dst != some p.d
  | none => false
theorem avoids_spec {i : Nat} {o : Oper} (ho : ops[i]? = some o) (h : avoids ops ps i = true) : ∀ p ∈ ps, p.d ∉ o.looksAt ops ∧ some p.d ≠ o.dst := by
  unfold avoids at h
  rw [ho] at h
  intro p hp
  have := List.all_eq_true.1 h p hp
  simp only [Bool.and_eq_true, Bool.not_eq_true', List.contains_eq_mem, decide_eq_false_iff_not, bne_iff_ne] at this
  exact ⟨this.1, fun q => this.2 q.symm⟩
theorem ev_congr {eR : Env} {o : Oper} (h : ∀ t ∈ o.looksAt ops, eR t = e t) (hs : ∀ cs b, o.op ≠ .select cs b) : execOp (ev eR) o = execOp (ev e) o := by
  refine execOp_congr o hs ?_
  intro x hx
  cases x with
  | tmp t =>
    have := h t (List.mem_append_left _ (List.mem_filterMap.2 ⟨.tmp t, by simpa using hx, rfl⟩))
    simp only [ev, this]
  | _ => rfl
theorem Real.looks {eR : Env} {LR : Array Bool} {wR : World} {i : Nat} {o : Oper} (h : Real ps e L wR eR LR) (ho : ops[i]? = some o) (ha : avoids ops ps i = true) : ∀ t ∈ o.looksAt ops, eR t = e t :=
  fun t ht => h.env t (fun p hp q => (avoids_spec ho ha p hp).1 (q ▸ ht))
theorem setF (L : Array Bool) (i j : Nat) (h : L.getD j false = true) : (L.setIfInBounds i true).getD j false = true := by
  simp only [Array.getD_eq_getD_getElem?, Array.getElem?_setIfInBounds] at h ⊢
  by_cases hij : i = j
  · subst hij
    by_cases hlt : i < L.size
    · simp [hlt]
    · simp [hlt] at h
  · simpa [hij] using h
theorem Real.upF {w : World} : ∀ {ps : List Pd} {e : Env} {L : Array Bool} {eR : Env} {LR : Array Bool}, Real ps e L w eR LR → ∀ i, L.getD i false = true → LR.getD i false = true
  | [], _, _, _, _, ⟨rfl, rfl⟩, _, h => h
  | p :: ps, e, L, eR, LR, hr, i, hi => by
    rcases hr with h1 | ⟨b, _, h1⟩
    · exact h1.upF i hi
    · exact h1.upF i (setF _ _ _ hi)
theorem setAll_monoF : ∀ (ps : List Pd) (L L' : Array Bool), L.size = L'.size → (∀ i, L.getD i false = true → L'.getD i false = true) → ∀ i, (setAll L ps).getD i false = true → (setAll L' ps).getD i false = true
  | [], _, _, _, h => h
  | p :: ps, L, L', hs, h => setAll_monoF ps _ _ (by simp [hs]) (fun i hi => by
      simp only [Array.getD_eq_getD_getElem?, Array.getElem?_setIfInBounds] at hi h ⊢
      by_cases hij : p.i = i
      · subst hij
        by_cases hlt : p.i < L.size
        · simp [← hs, hlt]
        · simp [hlt] at hi
      · simp only [hij, if_false] at hi ⊢; exact h i hi)
theorem Real.size {w : World} : ∀ {ps : List Pd} {e : Env} {L : Array Bool} {eR : Env} {LR : Array Bool}, Real ps e L w eR LR → LR.size = L.size
  | [], _, _, _, _, ⟨_, rfl⟩ => rfl
  | p :: ps, e, L, eR, LR, hr => by
    rcases hr with h1 | ⟨b, _, h1⟩
    · exact h1.size
    · rw [h1.size]; simp
theorem Real.allF {w : World} : ∀ {ps : List Pd} {e : Env} {L : Array Bool} {eR : Env} {LR : Array Bool}, Real ps e L w eR LR → ∀ i, LR.getD i false = true → (setAll L ps).getD i false = true
  | [], _, _, _, _, ⟨_, rfl⟩, _, h => h
  | p :: ps, e, L, eR, LR, hr, i, hi => by
    rcases hr with h1 | ⟨b, _, h1⟩
    · exact setAll_monoF ps _ _ (by simp) (fun j hj => setF _ _ _ hj) i (h1.allF i hi)
    · exact h1.allF i hi
theorem ready_of {L LR : Array Bool} {i : Nat} (hup : ∀ j, L.getD j false = true → LR.getD j false = true) (hi : LR.getD i true = false) (h : (Region.ready .any ops L).contains i = true) : i ∈ Region.ready .any ops LR := by
  have h' : i ∈ Region.ready .any ops L := by simpa using h
  obtain ⟨_, o, ho, hall⟩ := mem_ready.1 h'
  exact mem_ready.2 ⟨hi, o, ho, fun e he hb => hup _ (hall e he hb)⟩
theorem lt_of_ready {L : Array Bool} {i : Nat} (h : i ∈ Region.ready .any ops L) : i < ops.size := by
  obtain ⟨_, o, ho, _⟩ := mem_ready.1 h
  exact (Array.getElem?_eq_some_iff.1 ho).1
theorem free_mono {L LR : Array Bool} {i : Nat} (hup : ∀ j, L.getD j true = true → LR.getD j true = true) (h : Region.free .any ops L i = true) : Region.free .any ops LR i = true := by
  unfold Region.free at *
  cases ho : ops[i]? with
  | none => rw [ho] at h; exact h
  | some o =>
    rw [ho] at h
    simp only at h ⊢
    rw [List.all_eq_true] at h ⊢
    intro j hj
    have := h j hj
    simp only [Bool.or_eq_true] at this ⊢
    rcases this with (h1 | h1) | h1
    · exact Or.inl (Or.inl h1)
    · exact Or.inl (Or.inr (hup j h1))
    · exact Or.inr h1

/-- What is the same in whatever world is taken first. -/
theorem L_take {i : Nat} {d : Option Tmp} {x : Op} {t : TypeId} {pos : String} {af : Array Edge} {v : Value}
    (hi : ops[i]? = some ⟨d, x, t, pos, af, none⟩) (hs : Region.noSelect ops = true) (hf : Region.free .any ops L i = true) (hr : (Region.ready .any ops L).contains i = true) (ha : avoids ops ps i = true) (hni : ps.all (fun p => !Nat.beq p.i i) = true)
    (hd : dOk n d = true) (h0 : Ext w₀ w) (hy : ∀ w', Ext w₀ w' → (execOp (ev e) ⟨d, x, t, pos, af, none⟩).run P w' = .ok (.value v) w')
    (h : Lazy P n ops N X w₀ ps (L.setIfInBounds i true) (putO e d v) w) : Lazy P n ops N X w₀ ps L e w := by
  intro k wR eR LR hE hR hk
  have hLi : LR.getD i true = false := by
    rw [hR.lst i (fun p hp q => by have := List.all_eq_true.1 hni p hp; rw [q] at this; simp at this)]
    exact (mem_ready.1 (by simpa using hr)).1
  have hlt := lt_of_ready (ops := ops) (L := L) (i := i) (by simpa using hr)
  obtain ⟨k, rfl⟩ : ∃ m, k = m + 1 := ⟨k - 1, by have := unl_pos hlt hLi; omega⟩
  have hcong := ev_congr (ops := ops) (hR.looks hi ha) (Region.noSelect_spec hs i _ · · hi)
  refine A_take hi hs (free_mono hR.up hf) (by simpa using ready_of hR.upF hLi hr) hd (h0.trans hE) (v := v) (fun w' hw' => by rw [hcong]; exact hy w' hw') ?_
  refine h k wR _ _ hE (hR.putO (fun p hp => (avoids_spec hi ha p hp).2)) ?_
  have := unl_set hlt hLi
  omega
/-- What a block that is to be made wants. -/
def PdOk (P : Program) (n : Nat) (ops : Array Oper) (w₀ : World) (L : Array Bool) (e : Env) (ps : List Pd) (p : Pd) : Prop :=
  (∃ x t pos af, ops[p.i]? = some ⟨some p.d, x, t, pos, af, none⟩ ∧ ∀ w', Ext w₀ w' → (execOp (ev e) ⟨some p.d, x, t, pos, af, none⟩).run P w' = .ok (.value (p.val w'.heap.size)) (w'.alloc p.o)) ∧ dOk n (some p.d) = true ∧
  ((Region.ready .any ops L).contains p.i = true ∧ ps.all (fun q => match ops[p.i]? with | some o => !(o.looksAt ops).contains q.d | none => false) = true)
theorem PdOk.mk' {p : Pd} {x : Op} {t : TypeId} {pos : String} {af : Array Edge} (ho : ops[p.i]? = some ⟨some p.d, x, t, pos, af, none⟩) (hrun : ∀ w', Ext w₀ w' → (execOp (ev e) ⟨some p.d, x, t, pos, af, none⟩).run P w' = .ok (.value (p.val w'.heap.size)) (w'.alloc p.o))
    (hd : dOk n (some p.d) = true) (hr : (Region.ready .any ops L).contains p.i = true) (ha : ps.all (fun q => match ops[p.i]? with | some o => !(o.looksAt ops).contains q.d | none => false) = true) : PdOk P n ops w₀ L e ps p :=
  ⟨⟨x, t, pos, af, ho, hrun⟩, hd, hr, ha⟩

def nodup : List Nat → Bool
  | [] => true
  | x :: l => !(mem x l) && nodup l
theorem nodup_iff : ∀ {l : List Nat}, nodup l = true → l.Nodup
  | [], _ => List.nodup_nil
  | x :: l, h => by
    simp only [nodup, Bool.and_eq_true, Bool.not_eq_true'] at h
    exact List.nodup_cons.2 ⟨fun hm => by rw [mem_iff.2 hm] at h; exact absurd h.1 (by simp), nodup_iff h.2⟩

/-- Operation j is the only one that may come up beside those that are to be made; 'need': it wants the first of them. -/
theorem L_force {j : Nat} (hs : Region.noSelect ops = true) (hr : Region.ready .any ops (setAll L ps) = [j]) (hok : ∀ p ∈ ps, PdOk P n ops w₀ L e ps p) (hnd : nodup (ps.map (·.d)) = true) (h0 : Ext w₀ w)
    (h : ∀ (k : Nat) (wR : World) (eR : Env) (LR : Array Bool), Ext w wR → Real ps e L wR eR LR → j ∈ Region.ready .any ops LR → unl ops.size LR ≤ k + 1 → WO P n ops N X (Ext w₀) k LR j eR wR) : Lazy P n ops N X w₀ ps L e w := by
  have hj : j ∈ Region.ready .any ops (setAll L ps) := by rw [hr]; simp
  have hjl := (mem_ready.1 hj).1
  have hjlt := lt_of_ready hj
  intro k
  induction k with
  | zero =>
    intro wR eR LR hE hR hk
    have : LR.getD j true = false := by
      cases hc : LR.getD j true with
      | false => rfl
      | true => rw [hR.all j hc] at hjl; cases hjl
    have := unl_pos hjlt this
    omega
  | succ k ih =>
    intro wR eR LR hE hR hk ro a ha
    have hjR : LR.getD j true = false := by
      cases hc : LR.getD j true with
      | false => rfl
      | true => rw [hR.all j hc] at hjl; cases hjl
    refine ⟨fun hnil => ?_, fun i hi => ?_⟩
    · -- something may come up
      exfalso
      by_cases hex : ∃ p ∈ ps, LR.getD p.i true = false
      · obtain ⟨p, hp, hpf⟩ := hex
        have hm := ready_of (ops := ops) hR.upF hpf (hok p hp).2.2.1
        rw [hnil] at hm
        cases hm
      · have hm : j ∈ Region.ready .any ops LR := by
          obtain ⟨_, o, ho, hall⟩ := mem_ready.1 hj
          refine mem_ready.2 ⟨hjR, o, ho, fun e' he hb => ?_⟩
          have h1 := hall e' he hb
          by_cases hpe : ∃ p ∈ ps, p.i = e'.on
          · obtain ⟨p, hp, hpi⟩ := hpe
            have h2 : LR.getD p.i true = true := by
              cases hc : LR.getD p.i true with
              | true => rfl
              | false => exact absurd ⟨p, hp, hc⟩ hex
            have hlt : p.i < LR.size := by
              rw [hR.size]
              have h3 := (mem_ready.1 (by simpa using (hok p hp).2.2.1)).1
              rcases Nat.lt_or_ge p.i L.size with h' | h'
              · exact h'
              · simp [Array.getElem?_eq_none h'] at h3
            rw [← hpi]
            simp only [Array.getD_eq_getD_getElem?, Array.getElem?_eq_getElem hlt] at h2 ⊢
            exact h2
          · have hpe' : ∀ p ∈ ps, p.i ≠ e'.on := fun p hp q => hpe ⟨p, hp, q⟩
            have h2 : ∀ (ps : List Pd) (L : Array Bool), (∀ p ∈ ps, p.i ≠ e'.on) → (setAll L ps).getD e'.on false = true → L.getD e'.on false = true := by
              intro ps
              induction ps with
              | nil => intro L _ h; exact h
              | cons p ps ih2 =>
                intro L hps h
                have := ih2 _ (fun q hq => hps q (List.mem_cons_of_mem _ hq)) h
                simp only [Array.getD_eq_getD_getElem?, Array.getElem?_setIfInBounds, if_neg (hps p (List.mem_cons_self ..))] at this ⊢
                exact this
            exact hR.upF _ (h2 ps L hpe' h1)
        rw [hnil] at hm
        cases hm
    · by_cases hip : ∃ p ∈ ps, p.i = i
      · -- one of those that are to be made
        obtain ⟨p, hp, rfl⟩ := hip
        obtain ⟨⟨x, t, pos, af, ho, hrun⟩, hd, hpr, hpa⟩ := hok p hp
        have hpf : LR.getD p.i true = false := (mem_ready.1 hi).1
        have hcong : execOp (ev eR) ⟨some p.d, x, t, pos, af, none⟩ = execOp (ev e) ⟨some p.d, x, t, pos, af, none⟩ :=
          ev_congr (ops := ops) (fun t' ht => hR.env t' (fun q hq hqd => by
            have := List.all_eq_true.1 hpa q hq
            rw [ho] at this
            simp only [Bool.not_eq_true', List.contains_eq_mem, decide_eq_false_iff_not] at this
            exact this (hqd ▸ ht))) (Region.noSelect_spec hs p.i _ · · ho)
        have hE2 : Ext w (wR.alloc p.o) := hE.of_alloc _
        have := O_val (P := P) (n := n) (N := N) (X := X) (S := Ext w₀) (fuel := k) (listed := LR) (e := eR) (w := wR) ho hd (by rw [hcong]; exact hrun wR (h0.trans hE)) (h0.trans hE2)
          (ih (wR.alloc p.o) _ _ hE2 ((hR.world (Ext.alloc wR p.o)).flip (heap_alloc_new wR p.o) hp (nodup_iff hnd) (mem_ready.1 (by simpa using hpr)).1 hpf) (by have := unl_set (lt_of_ready hi) hpf; omega))
        exact this ro a ha
      · -- the other one
        have hij : i = j := by
          have hm : i ∈ Region.ready .any ops (setAll L ps) := by
            obtain ⟨h1, o, ho, hall⟩ := mem_ready.1 hi
            refine mem_ready.2 ⟨?_, o, ho, fun e' he hb => hR.allF _ (hall e' he hb)⟩
            rw [setAll_not ps L i (fun p hp q => hip ⟨p, hp, q⟩), ← hR.lst i (fun p hp q => hip ⟨p, hp, q⟩)]
            exact h1
          rw [hr] at hm
          simpa using hm
        subst hij
        exact h k wR eR LR hE hR hi hk ro a ha
theorem Ext.out {w wR : World} (h : Ext w wR) : Ext w wR := h

section steps
variable {j : Nat} {d : Option Tmp} {x : Op} {t : TypeId} {pos : String} {af : Array Edge} {f : FuncId} {R : World → Value → World → Prop}
/-- A call that wants none of the blocks that are to be made. -/
theorem L_call {args : Array Value} (hi : ops[j]? = some ⟨d, x, t, pos, af, none⟩) (hs : Region.noSelect ops = true) (hr : Region.ready .any ops (setAll L ps) = [j]) (hok : ∀ p ∈ ps, PdOk P n ops w₀ L e ps p) (hnd : nodup (ps.map (·.d)) = true)
    (ha : avoids ops ps j = true) (h0 : Ext w₀ w) (hd : dOk n d = true)
    (hrun : ∀ w', (execOp (ev e) ⟨d, x, t, pos, af, none⟩).run P w' = .ok (.enter f args) w')
    (hc : ∀ w', Ext w w' → Calls P f args w' (fun en w'' => ∃ v, en = .returned v ∧ R w' v w''))
    (h : ∀ v w' w'', Ext w w' → R w' v w'' → Ext w' w'' ∧ Lazy P n ops N X w₀ ps (L.setIfInBounds j true) (putO e d v) w'') : Lazy P n ops N X w₀ ps L e w := by
  refine L_force hs hr hok hnd h0 ?_
  intro k wR eR LR hE hR hj hk
  have hcong := ev_congr (ops := ops) (hR.looks hi ha) (Region.noSelect_spec hs j _ · · hi)
  refine O_call hi hd (by rw [hcong]; exact hrun wR) (hc wR hE) ?_
  intro v w'' hRv
  obtain ⟨h1, h2⟩ := h v wR w'' hE hRv
  refine ⟨(h0.trans hE).trans h1, ?_⟩
  refine h2 k w'' _ _ (Ext.refl _) ((hR.world h1).putO (fun p hp => (avoids_spec hi ha p hp).2)) ?_
  have := unl_set (lt_of_ready hj) (mem_ready.1 hj).1
  omega
/-- A call that wants the first of them. -/
theorem L_call1 {pi pt : Nat} {pv : Nat → Value} {po : Obj} {args : Nat → Array Value} (hi : ops[j]? = some ⟨d, x, t, pos, af, none⟩) (hs : Region.noSelect ops = true) (hr : Region.ready .any ops (setAll L (⟨pi, pt, pv, po⟩ :: ps)) = [j]) (hok : ∀ q ∈ ⟨pi, pt, pv, po⟩ :: ps, PdOk P n ops w₀ L e (⟨pi, pt, pv, po⟩ :: ps) q) (hnd : nodup ((⟨pi, pt, pv, po⟩ :: ps).map (·.d)) = true)
    (hneed : (af.any fun q => Region.binds .any q && Nat.beq q.on pi) = true) (hLp : L.getD pi true = false) (ha : avoids ops ps j = true) (hpd : d ≠ some pt) (h0 : Ext w₀ w) (hd : dOk n d = true) (hni : ps.all (fun q => !Nat.beq q.i pi) = true)
    (hrun : ∀ b w', (execOp (ev (put e pt (pv b))) ⟨d, x, t, pos, af, none⟩).run P w' = .ok (.enter f (args b)) w')
    (hc : ∀ b w', Ext w w' → w'.heap[b]? = some po → Calls P f (args b) w' (fun en w'' => ∃ v, en = .returned v ∧ R w' v w''))
    (h : ∀ b v w' w'', Ext w w' → w'.heap[b]? = some po → R w' v w'' → Ext w' w'' ∧ Lazy P n ops N X w₀ ps ((L.setIfInBounds pi true).setIfInBounds j true) (putO (put e pt (pv b)) d v) w'') : Lazy P n ops N X w₀ (⟨pi, pt, pv, po⟩ :: ps) L e w := by
  refine L_force hs hr hok hnd h0 ?_
  intro k wR eR LR hE hR hj hk
  rcases hR with h1 | ⟨b, hb, h1⟩
  · exfalso
    obtain ⟨_, o, ho, hall⟩ := mem_ready.1 hj
    rw [hi] at ho
    obtain rfl := Option.some.inj ho
    obtain ⟨q, hq, hqq⟩ := Array.any_eq_true.1 hneed
    simp only [Bool.and_eq_true] at hqq
    have h3 := hall _ (Array.getElem_mem hq) hqq.1
    rw [Nat.eq_of_beq_eq_true hqq.2] at h3
    have h4 : LR.getD pi true = false := by
      rw [h1.lst pi (fun r hr' e => by have := List.all_eq_true.1 hni r hr'; rw [e] at this; simp at this)]
      exact hLp
    simp only [Array.getD_eq_getD_getElem?] at h3 h4
    cases hc : LR[pi]? with
    | none => rw [hc] at h3; cases h3
    | some z => rw [hc] at h3 h4; simp at h3 h4; rw [h3] at h4; cases h4
  · have hcong := ev_congr (ops := ops) (h1.looks hi ha) (Region.noSelect_spec hs j _ · · hi)
    refine O_call hi hd (by rw [hcong]; exact hrun b wR) (hc b wR hE hb) ?_
    intro v w'' hRv
    obtain ⟨h2, h3⟩ := h b v wR w'' hE hb hRv
    refine ⟨(h0.trans hE).trans h2, ?_⟩
    refine h3 k w'' _ _ (Ext.refl _) ((h1.world h2).putO (fun q hq => (avoids_spec hi ha q hq).2)) ?_
    have := unl_set (lt_of_ready hj) (mem_ready.1 hj).1
    omega
end steps
theorem wpAnyHI_more {ro : Option Nat} {Q : Exit → Act → World → Prop} {S : World → Prop} : ∀ (k : Nat) (L : Array Bool) (a : Act) (w : World), wpAnyHI ro P .any ops Q S k L a w → wpAnyHI ro P .any ops Q S (k + 1) L a w
  | 0, L, a, w, h => ⟨fun _ => h.2, by rw [h.1]; simp⟩
  | k + 1, L, a, w, h => ⟨h.1, fun i hi => wpOpIn_mono (fun a' w' h' => ⟨h'.1, wpAnyHI_more k _ a' w' h'.2⟩) (h.2 i hi)⟩
theorem WA_more {S : World → Prop} {k : Nat} {L : Array Bool} {e : Env} {w : World} (h : WA P n ops N X S k L e w) : ∀ m, k ≤ m → WA P n ops N X S m L e w := by
  intro m hm
  induction m with
  | zero => obtain rfl : k = 0 := by omega
            exact h
  | succ m ih =>
    by_cases hk : k = m + 1
    · subst hk; exact h
    · exact fun ro a ha => wpAnyHI_more m L a w (ih (by omega) ro a ha)
/-- Nothing is to be made any more. -/
theorem L_exit {k : Nat} (hk : unl ops.size L = k) (h : ∀ w', Ext w w' → WA P n ops N X (Ext w₀) k L e w') : Lazy P n ops N X w₀ [] L e w := by
  rintro m wR eR LR hE ⟨rfl, rfl⟩ hm
  exact WA_more (h wR hE) m (by omega)
end
section
variable {P : Program} {n : Nat} {N : Env → World → Prop} {X : Exit → Env → World → Prop} {e : Env} {w : World} {ops : Array Oper} {rest : List Oper} {d : Option Tmp} {t : TypeId} {pos : String} {af : Array Edge} {x : Op} {j : Nat} {want : Bool} {dj : Tmp} {b : Bool}
theorem op_newSG {m : Nat} {c : Array Value} {ty : TypeId} (hj : (ops[j]?).bind (·.dst) = some dj) (hjn : Nat.blt dj n = true) (hb : e dj = .bool b) (hd : dOk n d = true) (he : (b == want) = true)
    (hr : (execOp (ev e) ⟨d, x, t, pos, af, some (j, want)⟩).run P w = .ok (.value (.slice (some ⟨w.heap.size, 0, none⟩) m m)) (w.alloc (.cells c ty)))
    (h : ∀ w' b, Ext w w' → Blk w' b c ty → w.heap.size = b → WL P n ops N X rest (putO e d (.slice (some ⟨b, 0, none⟩) m m)) w') : WL P n ops N X (⟨d, x, t, pos, af, some (j, want)⟩ :: rest) e w :=
  opG_yes hj hjn hb hd he hr (h _ _ (Ext.alloc _ _) (Blk.new _ _ _) rfl)
end
end Go.Eng

/-
  The engine: loops over functions: what the one that is ranged over promises, and the loop's rule. Generic: no program.
-/
namespace Go.Eng
set_option linter.unusedVariables false
set_option linter.unusedSimpArgs false
open Go.RowKit

/-- There may be more blocks; of those from B on that are no cells some may be other ones. -/
structure Turn (B : Nat) (w w' : World) : Prop where
  os : w'.os = w.os
  tape : w'.tape = w.tape
  output : w'.output = w.output
  size : w.heap.size ≤ w'.heap.size
  block : ∀ k, k < w.heap.size → (k < B ∨ ∃ c t fr, w.heap[k]? = some (.cells c t fr)) → w'.heap[k]? = w.heap[k]?
theorem Turn.of_ext {B : Nat} {w w' : World} (h : Ext w w') : Turn B w w' := ⟨h.os, h.tape, h.output, h.size, fun k hk _ => h.block k hk⟩
theorem Turn.refl {B : Nat} {w : World} : Turn B w w := .of_ext (Ext.refl w)
theorem Turn.trans {B : Nat} {a b c : World} (h : Turn B a b) (k : Turn B b c) : Turn B a c :=
  ⟨k.os.trans h.os, k.tape.trans h.tape, k.output.trans h.output, Nat.le_trans h.size k.size, fun i hi hc => by
    have h1 := h.block i hi hc
    rw [k.block i (Nat.lt_of_lt_of_le hi h.size) (hc.imp id (fun ⟨c, t, fr, q⟩ => ⟨c, t, fr, h1.trans q⟩)), h1]⟩
theorem Turn.putObj {B l : Nat} {w : World} {o : Obj} (o' : Obj) (hl : B ≤ l) (ho : w.heap[l]? = some o) (hc : o.isCells = false) : Turn B w (w.putObj l o') :=
  ⟨rfl, rfl, rfl, by simp, fun k hk hkc => World.putObj_heap_other (by
    rintro rfl
    rcases hkc with h | ⟨c, t, fr, h⟩
    · omega
    · rw [ho] at h; cases h; cases hc)⟩
theorem Turn.ext {B : Nat} {a w w' : World} (h : Ext a w) (hB : a.heap.size ≤ B) (ht : Turn B w w') : Ext a w' :=
  Below.trans h ⟨ht.os, ht.tape, ht.output, ht.size, fun k hk => ht.block k (Nat.lt_of_lt_of_le hk h.size) (Or.inl (by omega))⟩
theorem Turn.blk {B g : Nat} {w w' : World} {c : Array Value} {t : TypeId} (h : Blk w g c t) (ht : Turn B w w') : Blk w' g c t := by
  unfold Blk at *
  rw [ht.block g (heap_lt h) (Or.inr ⟨_, _, _, h⟩)]
  exact h
theorem Turn.heap {B g : Nat} {w w' : World} {c : Array Value} {t : TypeId} {fr : Nat × Nat} (h : w.heap[g]? = some (.cells c t fr)) (ht : Turn B w w') : w'.heap[g]? = some (.cells c t fr) := by
  rw [ht.block g (heap_lt h) (Or.inr ⟨_, _, _, h⟩)]
  exact h
theorem Turn.same {B : Nat} {w w' : World} {F : Nat → Prop} (ht : Turn B w w') (hF : ∀ b, F b → b < w.heap.size ∧ (b < B ∨ ∃ c t fr, w.heap[b]? = some (.cells c t fr))) : Same F w w' := fun b hb => ht.block b (hF b hb).1 (hF b hb).2
theorem Turn.own {α : Type} {T : Ty α} {B B' : Nat} {w w' : World} {F : Nat → Prop} {e : TypeId} {v : Value} {l : List α} (h : Own T w F B' e v l) (ht : Turn B w w') (hs : Same F w w') : Own T w' F B' e v l := by
  refine h.keep hs (fun _ h => h) fun g hg => ?_
  rcases h with ⟨rfl, _⟩ | ⟨g', cap, c, xs, rfl, h1, h2, _⟩
  · simp [Value.ownBlock] at hg
  · simp [Value.ownBlock] at hg; subst hg
    exact ht.block _ (Blk.lt h2) (Or.inr ⟨_, _, _, h2⟩)

/-- What is no cells, from B on, is as it was. -/
structure Nc (B : Nat) (w w' : World) : Prop where
  size : w.heap.size ≤ w'.heap.size
  same : ∀ (k : Nat) (o : Obj), B ≤ k → w.heap[k]? = some o → o.isCells = false → w'.heap[k]? = some o
theorem Nc.of_ext {B : Nat} {w w' : World} (h : Ext w w') : Nc B w w' := ⟨h.size, fun k o _ ho _ => ext_heap ho h⟩
theorem Nc.trans {B : Nat} {a b c : World} (h : Nc B a b) (k : Nc B b c) : Nc B a c := ⟨Nat.le_trans h.size k.size, fun i o hB hi ho => k.same i o hB (h.same i o hB hi ho) ho⟩
theorem Nc.of_chg {B b : Nat} {w w' : World} {c : Array Value} {t : TypeId} (h : Chg b w w') (hb : Blk w b c t) : Nc B w w' :=
  ⟨h.size, fun k o _ ho hc => chg_heap ho h (by rintro rfl; unfold Blk at hb; rw [hb] at ho; cases ho; cases hc)⟩
theorem Nc.of_gro {B : Nat} {α : Type} {T : Ty α} {F : Nat → Prop} {B' : Nat} {e : TypeId} {v : Value} {l : List α} {w w' : World} (h : Gro v.ownBlock w w') (ho : Own T w F B' e v l) : Nc B w w' :=
  ⟨h.size, fun k o _ hk hc => by
    rw [h.block k (heap_lt hk) ?_]; exact hk
    intro hv
    rcases ho with ⟨rfl, _⟩ | ⟨g', cap, c, xs, rfl, h1, h2, _⟩
    · simp [Value.ownBlock] at hv
    · simp [Value.ownBlock] at hv; subst hv
      unfold Blk at h2; rw [h2] at hk; cases hk; cases hc⟩

/-- WHAT A FUNCTION THAT IS RANGED OVER PROMISES: for each loop, whatever the loop holds to (J) when it goes on, and (Jx) when it has left. Pr tells what is so of what has come. -/
def Iter {α : Type} (P : Program) (g : Nat) (lb : Array Value) (encs : α → Array Value) (Kp : World → World → Prop) (Pr : List α → World → Prop) (S Sp : List α → Prop) (w : World) : Prop :=
  ∀ (l : Nat) (J Jx : List α → World → Prop) (W : World), Ext w W → (∀ s A B, J s A → Ext A B → J s B) → (∀ s A B, Jx s A → Ext A B → Jx s B) →
    (∀ pre x W1, J pre W1 → Pr (pre ++ [x]) W1 → YieldAt (fen none) 0 P l (encs x) W1 fun e W' =>
      (e = .returned (.bool true) ∧ J (pre ++ [x]) W' ∧ Kp W1 W') ∨ (e = .returned (.bool false) ∧ Jx (pre ++ [x]) W')) →
    J [] W → Calls P g (#[.func (.yield l) #[] #[]] ++ lb) W fun e W' => (∃ v, e = .returned v) ∧ ((∃ xs, S xs ∧ Pr xs W' ∧ J xs W') ∨ (∃ pre, Sp pre ∧ Jx pre W'))

def putL : Env → List (Nat × Value) → Env
  | e, [] => e
  | e, (d, v) :: l => putL (put e d v) l
theorem putL_out {i : Nat} : ∀ (l : List (Nat × Value)) (e : Env), (∀ q ∈ l, q.1 ≠ i) → putL e l i = e i
  | [], _, _ => rfl
  | (d, v) :: l, e, h => by
    rw [putL, putL_out l _ (fun q hq => h q (List.mem_cons_of_mem _ hq)), put_ne _ _ _ _ (fun hh => h (d, v) (List.mem_cons_self ..) hh.symm)]
theorem rel_setL {n : Nat} : ∀ (l : List (Nat × Value)) (e : Env) (t : Array Value), t.size = n → (∀ q ∈ l, q.1 < n) → (∀ i, i ≠ slotM → t.getD i undef = e i) →
    (l.foldl (fun t q => t.setIfInBounds q.1 q.2) t).size = n ∧ ∀ i, i ≠ slotM → (l.foldl (fun t q => t.setIfInBounds q.1 q.2) t).getD i undef = putL e l i
  | [], _, _, hs, _, h => ⟨hs, h⟩
  | (d, v) :: l, e, t, hs, hl, h => by
    refine rel_setL l (put e d v) (t.setIfInBounds d v) (by simpa using hs) (fun q hq => hl q (List.mem_cons_of_mem _ hq)) ?_
    intro i hi
    have hd : d < t.size := by rw [hs]; exact hl (d, v) (List.mem_cons_self ..)
    by_cases hid : i = d
    · subst hid
      simp [put_same, Array.getD_eq_getD_getElem?, hd]
    · have hne : ¬ d = i := fun q => hid q.symm
      rw [put_ne _ _ _ _ hid, ← h i hi]
      simp [Array.getD_eq_getD_getElem?, hne]
/-- The frame's own slot may be read anew. -/
theorem Rel.slot {ro ro' : Option Nat} {n : Nat} {e e' : Env} {a : Act} (h : Rel ro n e a) (he : ∀ i, i ≠ slotM → e' i = e i) (hd : marks (e' slotM) = a.defers) (hr : roOf (e' slotM) = ro') : Rel ro' n e' a :=
  ⟨h.size, h.lt, fun i hi => by rw [he i hi]; exact h.get i hi, hd.symm, hr⟩

def jump (B : Nat) (w : World) (Ix : Code → World → Prop) : Exit → Env → World → Prop
  | .ret, _, w' => Nc B w w' ∧ Ix .ret w'
  | .exit id, _, w' => Nc B w w' ∧ Ix (.exit id) w'
  | .goto t, _, w' => Nc B w w' ∧ Ix (.goto t) w'
  | _, _, _ => False

section
variable {P : Program} {n : Nat} {N : Env → World → Prop} {X : Exit → Env → World → Prop} {e : Env} {w : World}
theorem W_rangeFunc {α : Type} {g : Operand} {ps : Array Tmp} {assign body : Code} {gf : Nat} {lb : Array Value} {encs : α → Array Value} {Kp : World → World → Prop} {Pr : List α → World → Prop} {S Sp : List α → Prop} {w0 : World}
    (hm : e slotM = undef) (hg : ev e g = .func (.func gf) #[] lb) (eg : ∀ args w, (callFunc gf args).run P w = .ok (.enter gf args) w)
    (hseq : Iter P gf lb encs Kp Pr S Sp w0) (hb0 : Ext w0 w) (hps : ∀ x, (encs x).size = ps.size) (zs : α → List (Nat × Value)) (hz : ∀ x, (ps.zip (encs x)).toList = zs x) (hzn : ∀ x, (zs x).all (fun q => Nat.blt q.1 n) = true)
    (D : List Nat) (A : α → Env → Prop) (I : List α → World → Prop) (Ix : Code → List α → World → Prop)
    (hKt : ∀ {A B C : World}, Kp A B → Kp B C → Kp A C) (hKb : ∀ W W', w.heap.size ≤ W.heap.size → Turn w.heap.size W W' → Kp W W')
    (hI : ∀ s W W', I s W → Turn w.heap.size W W' → I s W') (hIx : ∀ c s W W', Ix c s W → Turn w.heap.size W W' → Ix c s W') (hPr : ∀ s W W', Pr s W → Turn w.heap.size W W' → Pr s W') (h0 : I [] w)
    (hassign : ∀ l pre x W', I pre W' → Pr (pre ++ [x]) W' → W P n assign (fun e' W'' => (Nc w.heap.size W' W'' ∧ Kp W' W'' ∧ I pre W'' ∧ Pr (pre ++ [x]) W'' ∧ A x e') ∧ Out (slotM :: D) e' e) (fun _ _ _ => False) (put (putL e (zs x)) slotM (.int .i64 (l : Nat))) W')
    (hbody : ∀ l pre x g' W', I pre W' → Pr (pre ++ [x]) W' → A x g' → W P n body (fun _ W'' => Nc w.heap.size W' W'' ∧ Kp W' W'' ∧ I (pre ++ [x]) W'') (jump w.heap.size W' fun c W'' => Ix c (pre ++ [x]) W'') (put (mix D g' e) slotM (.int .i64 (l : Nat))) W')
    (hdone : ∀ Db xs W', w.heap.size ≤ Db → S xs → I xs W' → Pr xs W' → W'.heap[Db]? = some (.deferred (some [])) → N (put e slotM (.tuple #[.int .i64 (Db : Nat)])) W')
    (hstop : ∀ Db c pre W', w.heap.size ≤ Db → Sp pre → Ix c pre W' → W'.heap[Db]? = some (.deferred (some [])) → W P n c N X (put e slotM (.tuple #[.int .i64 (Db : Nat)])) W') :
    W P n (.rangeFunc g ps assign body) N X e w := by
  intro ro a ha
  have hro : ro = none := by have := ha.ro; rw [hm] at this; exact this.symm
  subst hro
  have hdf : a.defers = [] := by rw [ha.defers, hm]; rfl
  have hmark : ∀ Db : Nat, Rel none n (put e slotM (.tuple #[.int .i64 (Db : Nat)])) { a with defers := { target := .collected Db, args := #[] } :: a.defers } := fun Db =>
    ⟨ha.size, ha.lt, fun i hi => by rw [put_ne _ _ _ _ hi]; exact ha.get i hi, by rw [put_same, hdf]; simp [marks], by rw [put_same]; rfl⟩
  refine wpIn_rangeFunc ?_
  intro fn hfn
  obtain ⟨rec, hrec⟩ : ∃ rec : LoopState → Option Code → Loop, rec = fun st pe => { state := st, pending := pe, fn, tmps := a.tmps, params := ps, assign, body, defers := w.heap.size } := ⟨_, rfl⟩
  obtain ⟨W1, hW1⟩ : ∃ W1, (w.alloc (.deferred (some []))).alloc (.loop (rec .ready none)) = W1 := ⟨_, rfl⟩
  have hE1 : Ext w W1 := by rw [← hW1]; exact (Ext.alloc _ _).trans (Ext.alloc _ _)
  have hL1 : W1.heap[w.heap.size + 1]? = some (.loop (rec .ready none)) := by
    rw [← hW1]; have := World.alloc_heap_new (w.alloc (.deferred (some []))) (.loop (rec .ready none)); rwa [World.size_alloc] at this
  have hK1 : W1.heap[w.heap.size]? = some (.deferred (some [])) := by
    rw [← hW1]; exact (Below.heap_alloc _ _ _ (by simp)).trans (World.alloc_heap_new w _)
  refine ⟨w.heap.size + 1, [{ target := .collected w.heap.size, args := #[] }], W1, { target := .fn (.func gf) lb, args := #[.func (.yield (w.heap.size + 1)) #[] #[]] }, W1, gf,
    #[.func (.yield (w.heap.size + 1)) #[] #[]] ++ lb, W1, ?_, ?_, fun _ _ => trivial, ?_, (fun q => by simp [fen, Fence.wide] at q), ?_⟩
  · rw [← hW1, hrec]; exact run_enterLoop_outer _ _ _ _ _
  · rw [ha.eval]
    simp only [resolve, hg]
    simp [go_sem, ev]
  · simp [invoke, go_sem, eg]
  · refine callsIn_fen.2 ((hseq (w.heap.size + 1)
      (fun pre W => I pre W ∧ W.heap[w.heap.size + 1]? = some (.loop (rec .ready none)) ∧ W.heap[w.heap.size]? = some (.deferred (some [])))
      (fun pre W => ∃ c, Ix c pre W ∧ W.heap[w.heap.size + 1]? = some (.loop (rec .done (some c))) ∧ W.heap[w.heap.size]? = some (.deferred (some [])))
      W1 (hb0.trans hE1) (fun s A B h hx => ⟨hI s A B h.1 (.of_ext hx), ext_heap h.2.1 hx, ext_heap h.2.2 hx⟩) (fun s A B h hx => by
        obtain ⟨c, h1, h2, h3⟩ := h
        exact ⟨c, hIx c s A B h1 (.of_ext hx), ext_heap h2 hx, ext_heap h3 hx⟩) ?_ ⟨hI _ _ _ h0 (.of_ext hE1), hL1, hK1⟩).mono ?_)
    · rintro pre x W ⟨hi, hl, hk⟩ hp
      have hy := run_yield (P := P) (args := encs x) hl (by rw [hrec]; exact hps x)
      rw [hrec] at hy
      refine ⟨fn, _, assign, body, hy, roundIn_of_wpIn hfn ?_⟩
      have hzl : ((ps.zip (encs x)).foldl (fun t q => t.setIfInBounds q.1 q.2) a.tmps) = (zs x).foldl (fun t q => t.setIfInBounds q.1 q.2) a.tmps := by rw [← Array.foldl_toList, hz x]
      have hzlt : ∀ q ∈ zs x, q.1 < n := fun q hq => by have := List.all_eq_true.1 (hzn x) q hq; simpa [Nat.blt_eq] using this
      obtain ⟨hs1, hs2⟩ := rel_setL (zs x) e a.tmps ha.size hzlt ha.get
      have hrel : Rel (some (w.heap.size + 1)) n (put (putL e (zs x)) slotM (.int .i64 ((w.heap.size + 1 : Nat) : Int))) { tmps := (ps.zip (encs x)).foldl (fun t q => t.setIfInBounds q.1 q.2) a.tmps, defers := [] } := by
        refine ⟨by rw [hzl]; exact hs1, ha.lt, fun i hi => ?_, by rw [put_same]; rfl, by rw [put_same]; simp [roOf]⟩
        show ((ps.zip (encs x)).foldl _ a.tmps).getD i undef = _
        rw [put_ne _ _ _ _ hi, hzl]
        exact hs2 i hi
      refine wpIn_mono (hassign (w.heap.size + 1) pre x W hi hp _ _ hrel) ?_
      intro ex a1 W2 hq
      cases ex with
      | normal =>
        obtain ⟨e1, he1, ⟨hn1, hk1, hi1, hp1, hA1⟩, hO⟩ := hq
        have hl1 := hn1.same _ _ (Nat.le_succ _) hl rfl
        have hd1 := hn1.same _ _ (Nat.le_refl _) hk rfl
        refine ⟨_, run_beginRound hl1 (by rw [hrec]), ?_⟩
        have hlt : w.heap.size + 1 < W2.heap.size := heap_lt hl1
        have ht2 : Turn w.heap.size W2 (W2.putObj (w.heap.size + 1) (.loop { rec .ready none with state := .busy })) := .putObj _ (Nat.le_succ _) hl1 rfl
        have hl2 : (W2.putObj (w.heap.size + 1) (.loop { rec .ready none with state := .busy })).heap[w.heap.size + 1]? = some (.loop { rec .ready none with state := .busy }) := World.putObj_heap_same hlt
        have hk2 : (W2.putObj (w.heap.size + 1) (.loop { rec .ready none with state := .busy })).heap[w.heap.size]? = some (.deferred (some [])) := (World.putObj_heap_other (by omega)).trans hd1
        have hr1 : Rel (some (w.heap.size + 1)) n (put (mix D e1 e) slotM (.int .i64 ((w.heap.size + 1 : Nat) : Int))) a1 := by
          refine he1.slot (fun i hi => ?_) (by
            rw [put_same]
            have h1 := he1.defers
            have h2 := he1.ro
            rw [h1]
            cases hq : e1 slotM with
            | int k q => rfl
            | _ => rw [hq] at h2; simp [roOf] at h2) (by rw [put_same]; simp [roOf])
          rw [put_ne _ _ _ _ hi]
          cases hD : mem i D with
          | true => simp only [mix, hD, cond_true]
          | false =>
            simp only [mix, hD, cond_false]
            refine (hO i ?_).symm
            have : Nat.beq i slotM = false := by rw [beq_eq]; simp [hi]
            simp only [mem, this, cond_false, hD]
        refine wpIn_mono (hbody (w.heap.size + 1) pre x e1 _ (hI _ _ _ hi1 ht2) (hPr _ _ _ hp1 ht2) hA1 _ _ hr1) ?_
        have fin : ∀ (jump : Option Code) (W3 : World), Nc w.heap.size (W2.putObj (w.heap.size + 1) (.loop { rec .ready none with state := .busy })) W3 →
            (Instr.endRound (w.heap.size + 1) jump).run P W3 = .ok (.bool jump.isNone) (W3.putObj (w.heap.size + 1) (.loop (rec (if jump.isNone then .ready else .done) jump))) ∧
            (w.heap.size ≤ W3.heap.size ∧ Turn w.heap.size W3 (W3.putObj (w.heap.size + 1) (.loop (rec (if jump.isNone then .ready else .done) jump)))) ∧
            (W3.putObj (w.heap.size + 1) (.loop (rec (if jump.isNone then .ready else .done) jump))).heap[w.heap.size + 1]? = some (.loop (rec (if jump.isNone then .ready else .done) jump)) ∧
            (W3.putObj (w.heap.size + 1) (.loop (rec (if jump.isNone then .ready else .done) jump))).heap[w.heap.size]? = some (.deferred (some [])) := fun jump W3 hk3 => by
          have hl3 := hk3.same _ _ (Nat.le_succ _) hl2 rfl
          have := run_endRound (P := P) jump hl3
          rw [hrec] at this ⊢
          exact ⟨this, ⟨by have := heap_lt hl3; omega, .putObj _ (Nat.le_succ _) hl3 rfl⟩, World.putObj_heap_same (heap_lt hl3), (World.putObj_heap_other (by omega)).trans (hk3.same _ _ (Nat.le_refl _) hk2 rfl)⟩
        rintro e3 a3 W3 hp3
        cases e3 with
        | normal =>
          obtain ⟨_, _, hk3, hkp3, hi3⟩ := hp3
          obtain ⟨hr, ⟨hsz3, ht3⟩, hl4, hk4⟩ := fin none W3 hk3
          exact ⟨_, _, hr, .inl ⟨rfl, ⟨hI _ _ _ hi3 ht3, hl4, hk4⟩, hKt hk1 (hKt (hKt (hKb _ _ (by omega) ht2) hkp3) (hKb _ _ hsz3 ht3))⟩⟩
        | ret =>
          obtain ⟨_, _, hk3, hi3⟩ := hp3
          obtain ⟨hr, ⟨hsz3, ht3⟩, hl4, hk4⟩ := fin (some .ret) W3 hk3
          exact ⟨_, _, hr, .inr ⟨rfl, .ret, hIx _ _ _ _ hi3 ht3, hl4, hk4⟩⟩
        | exit id =>
          obtain ⟨_, _, hk3, hi3⟩ := hp3
          obtain ⟨hr, ⟨hsz3, ht3⟩, hl4, hk4⟩ := fin (some (.exit id)) W3 hk3
          exact ⟨_, _, hr, .inr ⟨rfl, .exit id, hIx _ _ _ _ hi3 ht3, hl4, hk4⟩⟩
        | goto t =>
          obtain ⟨_, _, hk3, hi3⟩ := hp3
          obtain ⟨hr, ⟨hsz3, ht3⟩, hl4, hk4⟩ := fin (some (.goto t)) W3 hk3
          exact ⟨_, _, hr, .inr ⟨rfl, .goto t, hIx _ _ _ _ hi3 ht3, hl4, hk4⟩⟩
        | panic ch => exact hp3.elim
        | outgrown => exact hp3.elim
      | panic c => exact hq
      | outgrown => exact hq
      | ret => obtain ⟨_, _, q⟩ := hq; exact q.elim
      | exit _ => obtain ⟨_, _, q⟩ := hq; exact q.elim
      | goto _ => obtain ⟨_, _, q⟩ := hq; exact q.elim
    · rintro en W2 ⟨⟨v, rfl⟩, (⟨xs, hS, hp, hi, hl, hk⟩ | ⟨pre, hSp, c, hi, hl, hk⟩)⟩
      · have ht : Turn w.heap.size W2 (W2.putObj (w.heap.size + 1) (.loop { rec .ready none with state := .exhausted })) := .putObj _ (Nat.le_succ _) hl rfl
        refine ⟨none, _, by have := run_endLoop (P := P) hl (by rw [hrec]; simp); rw [hrec] at this; exact this, ?_⟩
        rw [hrec] at ht
        exact ⟨_, hmark _, hdone _ xs _ (Nat.le_refl _) hS (hI _ _ _ hi ht) (hPr _ _ _ hp ht) ((World.putObj_heap_other (by omega)).trans hk)⟩
      · have ht : Turn w.heap.size W2 (W2.putObj (w.heap.size + 1) (.loop { rec .done (some c) with state := .exhausted })) := .putObj _ (Nat.le_succ _) hl rfl
        refine ⟨some c, _, by have := run_endLoop (P := P) hl (by rw [hrec]; simp); rw [hrec] at this; exact this, ?_⟩
        rw [hrec] at ht
        exact hstop _ c pre _ (Nat.le_refl _) hSp (hIx _ _ _ _ hi ht) ((World.putObj_heap_other (by omega)).trans hk) _ _ (hmark _)
end

/-! A scope without jumps back. -/
section
variable {F : Fence} {n : Nat} {P : Program} {Q : Exit → Act → World → Prop} {a : Act} {w : World}
theorem stepR_scope {b : Frame} {k : List Item} {cs : List Frame} {c : Code} : step P (lone (b.atR a (.code (.scope c) :: k)) cs w) = .next (lone (b.atR a (.code c :: .inScope c :: k)) cs w) :=
  step_lone_go (by simp [stepG, stepG.exec, Frame.atR])
theorem stepR_inScope {b : Frame} {k : List Item} {cs : List Frame} {c : Code} : step P (lone (b.atR a (.inScope c :: k)) cs w) = .next (lone (b.atR a k) cs w) :=
  step_lone_go (by simp [stepG, stepG.exec, Frame.atR])
theorem wpIn_scope {c : Code} (h : c.wpIn F n P (fun x a w => match x with | .goto _ => False | x => Q x a w) a w) : (Code.scope c).wpIn F n P Q a w := by
  intro b k cs hro hb hr
  have h0 : (lone (b.atR a (.code (.scope c) :: k)) cs w).fenced P F := fenced_calm hb hr rfl
  obtain ⟨e, a₁, w₁, hq, harr⟩ := h b (.inScope c :: k) cs hro hb hr
  cases e with
  | normal => exact ⟨.normal, a₁, w₁, hq, .head h0 stepR_scope (StepsIn.trans harr (.one (fenced_calm hb hr rfl) stepR_inScope))⟩
  | exit id =>
    have hx : exitTo id (.inScope c :: k) = exitTo id k := by simp [exitTo]
    exact ⟨.exit id, a₁, w₁, hq, fun k' hk => .head h0 stepR_scope (harr.1 k' (by rw [hx]; exact hk)),
      fun hr' hk => let ⟨k₁, h1, h2⟩ := harr.2 hr' (by rw [hx]; exact hk); ⟨k₁, h1, .head h0 stepR_scope h2⟩⟩
  | goto l => exact hq.elim
  | ret => exact ⟨_, a₁, w₁, hq, .of_steps (.one h0 stepR_scope) harr⟩
  | panic ch => exact ⟨_, a₁, w₁, hq, .of_steps (.one h0 stepR_scope) harr⟩
  | outgrown => exact ⟨_, a₁, w₁, hq, .of_steps (.one h0 stepR_scope) harr⟩
end
def noGoto (X : Exit → Env → World → Prop) : Exit → Env → World → Prop
  | .goto _, _, _ => False
  | x, e, w => X x e w
theorem W_scope {P : Program} {n : Nat} {N : Env → World → Prop} {X : Exit → Env → World → Prop} {e : Env} {w : World} {c : Code} (h : W P n c N (noGoto X) e w) : W P n (.scope c) N X e w := by
  intro ro a ha
  refine wpIn_scope (wpIn_mono (h ro a ha) ?_)
  intro ex a w hq
  cases ex with
  | goto l => obtain ⟨_, _, q⟩ := hq; exact q
  | normal => exact hq
  | exit _ => exact hq
  | ret => exact hq
  | panic c => exact hq
  | outgrown => exact hq
theorem scp_ret {X : Exit → Env → World → Prop} {e : Env} {w : World} (h : X .ret e w) : noGoto X .ret e w := h
theorem scp_exit {X : Exit → Env → World → Prop} {e : Env} {w : World} {id : Nat} (h : X (.exit id) e w) : noGoto X (.exit id) e w := h
/-! Function values: a call of one; a round. -/
section
variable {P : Program} {n : Nat} {N : Env → World → Prop} {X : Exit → Env → World → Prop} {e : Env} {w : World} {ops : Array Oper} {rest : List Oper} {d : Option Tmp} {t : TypeId} {pos : String} {af : Array Edge} {x : Op} {g : Option (Nat × Bool)}
theorem callFunc_run {f : FuncId} {fn : Func} (hf : P.funcs[f]? = some fn) (hn : (fn.name == "runtime.NumGoroutine") = false) (hb : fn.body.isNone = false) (args : Array Value) (w : World) : (callFunc f args).run P w = .ok (.enter f args) w := by
  have hn' : ¬ fn.name = "runtime.NumGoroutine" := by simpa using hn
  have hb' : ¬ fn.body = none := by intro h; rw [h] at hb; simp at hb
  simp [callFunc, program, Sem.run, hf, hn', hb']
/-- The function that is called is a value. -/
theorem r_callV {y : Operand} {f : FuncId} {fn : Func} {xs : List Operand} {ts : Array TypeId} {lb : List Value} (hy : ev e y = .func (.func f) #[] lb.toArray) (hf : P.funcs[f]? = some fn) (hn : (fn.name == "runtime.NumGoroutine") = false) (hb : fn.body.isNone = false) :
    (execOp (ev e) ⟨d, .call { callee := .value y, args := xs.toArray, argTypes := ts }, t, pos, af, g⟩).run P w =
      .ok (.enter f (List.map (ev e) xs ++ lb).toArray) w := by
  simp [execOp, resolve, hy, invoke, go_sem, callFunc_run hf hn hb]
theorem r_yield {y : Operand} {l : Nat} {xs : List Operand} {ts : Array TypeId} (hy : ev e y = .func (.yield l) #[] #[]) :
    (execOp (ev e) ⟨d, .call { callee := .value y, args := xs.toArray, argTypes := ts }, t, pos, af, g⟩).run P w = (Instr.yield l (List.map (ev e) xs).toArray).run P w := by
  simp [execOp, resolve, hy, invoke, go_sem]
theorem op_yield {l : Nat} {vs : Array Value} {R : Ending → World → Prop} (hm : e slotM = undef) (hd : dOk n d = true) (hr : (execOp (ev e) ⟨d, x, t, pos, af, none⟩).run P w = (Instr.yield l vs).run P w)
    (hy : YieldAt (fen none) 0 P l vs w R) (h : ∀ en w', R en w' → ∃ v, en = .returned v ∧ WL P n ops N X rest (putO e d v) w') : WL P n ops N X (⟨d, x, t, pos, af, none⟩ :: rest) e w := by
  intro ro a ha
  have hro : ro = none := by have := ha.ro; rw [hm] at this; exact this.symm
  subst hro
  refine wpListIn_plain rfl fun K hK => ?_
  obtain ⟨fn, tmps, assign, body, h1, h2⟩ := hy
  refine ⟨fun _ _ => trivial, ?_⟩
  rw [ha.eval, semAt_run (hr.trans h1) (by simp)]
  refine ⟨fun q => by simp [fen, Fence.wide] at q, h2.mono ?_⟩
  intro en w' hR
  obtain ⟨v, rfl, hw⟩ := h en w' hR
  exact hK _ _ (hw _ _ (ha.put hd v))
theorem opG_yield {l : Nat} {vs : Array Value} {R : Ending → World → Prop} {j : Nat} {want : Bool} {dj : Tmp} {b : Bool} (hm : e slotM = undef) (hj : (ops[j]?).bind (·.dst) = some dj) (hjn : Nat.blt dj n = true) (hb : e dj = .bool b) (he : (b == want) = true) (hd : dOk n d = true)
    (hr : (execOp (ev e) ⟨d, x, t, pos, af, some (j, want)⟩).run P w = (Instr.yield l vs).run P w)
    (hy : YieldAt (fen none) 0 P l vs w R) (h : ∀ en w', R en w' → ∃ v, en = .returned v ∧ WL P n ops N X rest (putO e d v) w') : WL P n ops N X (⟨d, x, t, pos, af, some (j, want)⟩ :: rest) e w := by
  intro ro a ha
  have hro : ro = none := by have := ha.ro; rw [hm] at this; exact this.symm
  subst hro
  refine wpListIn_step fun K hK => ?_
  rw [wanted_of ha hj hjn hb, he]
  simp only [if_true]
  obtain ⟨fn, tmps, assign, body, h1, h2⟩ := hy
  refine ⟨fun _ _ => trivial, ?_⟩
  rw [ha.eval, semAt_run (hr.trans h1) (by simp)]
  refine ⟨fun q => by simp [fen, Fence.wide] at q, h2.mono ?_⟩
  intro en w' hR
  obtain ⟨v, rfl, hw⟩ := h en w' hR
  exact hK _ _ (hw _ _ (ha.put hd v))
end
end Go.Eng

/-
  The engine: strings, and bytes as one. Generic: no program.
-/
namespace Go.Eng
set_option linter.unusedVariables false
set_option linter.unusedSimpArgs false
open Go.RowKit

def str (l : List UInt8) : ByteArray := ⟨l.toArray⟩
theorem str_list (l : List UInt8) : (str l).toList = l := ByteArray.toList_mk l
theorem str_inj {a b : List UInt8} (h : str a = str b) : a = b := by rw [← str_list a, ← str_list b, h]
theorem str_eq {a b : List UInt8} : str a = str b ↔ a = b := ⟨str_inj, fun h => by rw [h]⟩
theorem bytes_eq {a b : ByteArray} : (a.toList == b.toList) = decide (a = b) := by
  rw [ByteArray.toList_eq, ByteArray.toList_eq]
  by_cases h : a = b
  · subst h; simp
  · have : ¬ a.data = b.data := fun q => h (by cases a; cases b; simp at q; rw [q])
    simp [h, this]
section
variable {P : Program} {ρ : Operand → Value} {w : World} {d : Option Tmp} {t : TypeId} {pos : String} {af : Array Edge} {g : Option (Nat × Bool)} {x y : Operand} {xt yt : TypeId} {a b : ByteArray}
theorem rs_eql (hx : ρ x = .string a) (hy : ρ y = .string b) : (execOp ρ ⟨d, .binOp .eql xt x y yt, t, pos, af, g⟩).run P w = .ok (.value (.bool (decide (a = b)))) w := by
  simp [execOp, hx, hy, eqGuard, binOp, Op.stringOp, bytes_eq]
theorem rs_neq (hx : ρ x = .string a) (hy : ρ y = .string b) : (execOp ρ ⟨d, .binOp .neq xt x y yt, t, pos, af, g⟩).run P w = .ok (.value (.bool (decide (a ≠ b)))) w := by
  have : (a.toList != b.toList) = decide (a ≠ b) := by
    have := bytes_eq (a := a) (b := b)
    simp only [bne, this, decide_not]
  simp [execOp, hx, hy, eqGuard, binOp, Op.stringOp, bytes_eq]
theorem rs_lss (hx : ρ x = .string a) (hy : ρ y = .string b) : (execOp ρ ⟨d, .binOp .lss xt x y yt, t, pos, af, g⟩).run P w = .ok (.value (.bool (decide (Op.bytesLess a.toList b.toList = true)))) w := by
  simp [execOp, hx, hy, eqGuard, binOp, Op.stringOp]
/-- The bytes of a slice, as a string. -/
theorem r_str {st dt el : TypeId} {A : Option Addr} {c : Nat} {F : Nat → Prop} {l : List UInt8} (hx : ρ x = .slice A l.length c) (hs : P.underlying st = some (.slice el)) (he : P.underlying el = some (.int .u8)) (hd : P.underlying dt = some .string) (hR : Ty.byte.Row w F A l) :
    (execOp ρ ⟨d, .convert st dt x, t, pos, af, g⟩).run P w = .ok (.value (.string (str l))) w := by
  have hr : (convert st dt (.slice A l.length c)).run P w = .ok (.string (str l)) w := by
    cases A with
    | none =>
      rcases hR with rfl | ⟨_, _, _, _, _, h, _⟩
      · rw [run_convert_bytes_string w st dt el none _ c hs he hd]
        rfl
      · cases h
    | some ad =>
      by_cases hl : l = []
      · subst hl
        exact run_convert_bytes_back w st dt el ad c [] hs he hd (fun j hj => by simp at hj)
      · refine run_convert_bytes_back w st dt el ad c l hs he hd (fun j hj => ?_)
        obtain ⟨g, off, hA, _, _, hc⟩ := hR.cell hj
        cases hA
        rw [add_at]
        exact hc
  simp [execOp, hx, hr]
end
/-! Numbers. -/
section
variable {P : Program} {ρ : Operand → Value} {w : World} {d : Option Tmp} {t : TypeId} {pos : String} {af : Array Edge} {g : Option (Nat × Bool)} {x y : Operand} {xt yt : TypeId} {k : IntKind} {m n r : Int} {ts : Array TypeId}
theorem r_min' (hx : ρ x = .int k m) (hy : ρ y = .int k n) (hr : min m n = r) : (execOp ρ ⟨d, .call { callee := .builtin .min, args := #[x, y], argTypes := ts }, t, pos, af, g⟩).run P w = .ok (.value (.int k r)) w := hr ▸ r_min2 hx hy
theorem r_max' (hx : ρ x = .int k m) (hy : ρ y = .int k n) (hr : max m n = r) : (execOp ρ ⟨d, .call { callee := .builtin .max, args := #[x, y], argTypes := ts }, t, pos, af, g⟩).run P w = .ok (.value (.int k r)) w := hr ▸ r_max2 hx hy
theorem r_shl' {ky : IntKind} (hx : ρ x = .int k m) (hy : ρ y = .int ky n) (hn : 0 ≤ n) (hr : k.wrap (m * 2 ^ (min n.toNat k.bits)) = r) : (execOp ρ ⟨d, .binOp .shl xt x y yt, t, pos, af, g⟩).run P w = .ok (.value (.int k r)) w := hr ▸ r_shl hx hy hn
theorem wrap8_nat (n : Nat) : IntKind.wrap .u8 (n : Int) = ((UInt8.ofNat n).toNat : Int) := by
  rw [wrap_u8_mod]
  simp
theorem u64_of {n : Int} (h : inK .u64 n) : ∃ N : Nat, n = N ∧ N < 2 ^ 64 := by
  simp only [inK, lo, hi] at h
  exact ⟨n.toNat, by omega, by omega⟩
theorem i64_of {n : Int} (h : inK .i64 n) : -9223372036854775808 ≤ n ∧ n ≤ 9223372036854775807 := by
  simpa only [inK, lo, hi] using h
theorem r_shr64 {n k : Nat} {ky : IntKind} (hx : ρ x = .int .u64 n) (hy : ρ y = .int ky k) (hk : k ≤ 64) : (execOp ρ ⟨d, .binOp .shr xt x y yt, t, pos, af, g⟩).run P w = .ok (.value (.int .u64 (n / 2 ^ k : Nat))) w := by
  rw [r_shr hx hy (Int.natCast_nonneg _)]
  have : min (k : Int).toNat IntKind.u64.bits = k := by
    simp [IntKind.bits]; omega
  rw [this]
  congr 3
  rw [Int.fdiv_eq_ediv_of_nonneg _ (Int.le_of_lt (Int.pow_pos (by decide)))]
  simp
theorem r_shl8 {n : Nat} {ky : IntKind} (hx : ρ x = .int .u64 n) (hy : ρ y = .int ky 8) (hn : n * 256 < 2 ^ 64) : (execOp ρ ⟨d, .binOp .shl xt x y yt, t, pos, af, g⟩).run P w = .ok (.value (.int .u64 (n * 256 : Nat))) w := by
  rw [r_shl hx hy (by decide)]
  have : min (8 : Int).toNat IntKind.u64.bits = 8 := rfl
  rw [this, wrap_u64 (by omega) (by omega)]
  simp
theorem r_or8 {n c : Nat} (hx : ρ x = .int .u64 ((n * 256 : Nat) : Int)) (hy : ρ y = .int .u64 c) (hn : n * 256 < 2 ^ 64) (hc : c < 256) : (execOp ρ ⟨d, .binOp .or xt x y yt, t, pos, af, g⟩).run P w = .ok (.value (.int .u64 (n * 256 + c : Nat))) w := by
  have h1 : (n * 256) = (BitVec.ofNat 64 (n * 256)).toNat := by simp; omega
  have h2 : c = (BitVec.ofNat 64 c).toNat := by simp; omega
  rw [r_or64 (a := BitVec.ofNat 64 (n * 256)) (b := BitVec.ofNat 64 c) (by rw [hx]; congr 2) (by rw [hy]; congr 2)]
  congr 4
  rw [BitVec.toNat_or, ← h1, ← h2]
  have := Nat.shiftLeft_add_eq_or_of_lt (i := 8) (b := c) (by simpa using hc) n
  rw [Nat.shiftLeft_eq] at this
  exact this.symm
end

/-! Bytes of one's own. -/
theorem Own.of_blk {α : Type} {enc : α → Value} {ok : α → Prop} {h1 : ∀ x, (enc x).oneCell' = true} {w : World} {F : Nat → Prop} {B g cap : Nat} {e : TypeId} {c : Array Value} {l : List α}
    (hB : B ≤ g) (hb : Blk w g c e) (hl : l.length ≤ cap) (hc : c.size = cap) (hok : ∀ x ∈ l, ok x) (hv : ∀ i (hi : i < l.length), c[i]? = some (enc l[i])) : Own (Ty.scalar enc ok h1) w F B e (.slice (some ⟨g, 0, none⟩) l.length cap) l := by
  refine Or.inr ⟨g, cap, c, c.toList.take l.length, rfl, hB, hb, hl, by simpa [Ty.scalar] using hc, Cat.of_get ?_ ?_, by simp [Ty.scalar]⟩
  · simp [Ty.scalar]; omega
  · intro i hi
    refine ⟨[enc l[i]], ⟨rfl, hok _ (List.getElem_mem hi)⟩, fun j hj => ?_⟩
    simp only [Ty.scalar] at hj ⊢
    obtain rfl : j = 0 := by omega
    rw [List.getElem?_take, if_pos (by omega)]
    have := hv i hi
    simpa using this
theorem Own.low {α : Type} {T : Ty α} {w : World} {F : Nat → Prop} {B B' : Nat} {e : TypeId} {v : Value} {l : List α} (h : Own T w F B e v l) (hB : B' ≤ B) : Own T w F B' e v l := by
  rcases h with h | ⟨g, cap, c, xs, h0, h1, h2⟩
  · exact Or.inl h
  · exact Or.inr ⟨g, cap, c, xs, h0, Nat.le_trans hB h1, h2⟩
abbrev nobody : Nat → Prop := fun _ => False
/-- Bytes that nobody else has, in a block from B on. -/
abbrev Bs (B : Nat) (e : TypeId) (w : World) (v : Value) (l : List UInt8) : Prop := Own Ty.byte w nobody B e v l
theorem own_fext {α : Type} {T : Ty α} {w w' : World} {B : Nat} {e : TypeId} {v : Value} {l : List α} (h : Own T w nobody B e v l) (he : Ext w w') : Own T w' nobody B e v l := h.ext he (fun _ q => q.elim)
theorem own_frow {α : Type} {T : Ty α} {w : World} {B : Nat} {e : TypeId} {v : Value} {l : List α} (h : Own T w nobody B e v l) : ∃ A cap, v = .slice A l.length cap ∧ l.length ≤ cap ∧ T.Row w (old w) A l := h.old (fun _ q => q.elim)
section
variable {α : Type} {T : Ty α} {P : Program} {w W0 : World} {n : Nat} {N : Env → World → Prop} {X : Exit → Env → World → Prop} {e : Env} {ops : Array Oper} {rest : List Oper} {d : Option Tmp} {ty : TypeId} {pos : String} {af : Array Edge}
/-- Something is appended to what is one's own, of elements that hang on no memory. -/
theorem op_app (hf : Flat T) {s x : Operand} {t el : TypeId} {z : Value} {by_ c : Nat} {v : Value} {l m : List α} {A : Option Addr} (hd : dOk n d = true) (hsv : ev e s = v) (hx : ev e x = .slice A m.length c)
    (hu : P.underlying t = some (.slice el)) (hs : (P.info? el).map (·.size) = some T.sz) (hy : (P.info? el).map (·.bytes) = some by_) (hz : (P.info? el).bind (·.zero) = some z) (hzs : z.cells.size = T.sz)
    (hE : Ext W0 w) (hown : Own T w nobody W0.heap.size el v l) {F : Nat → Prop} (hrow : T.Row w F A m) (hsz : (l.length + m.length) * by_ ≤ 140737488355328) (h63 : l.length + m.length ≤ 140737488355328)
    (h : ∀ v' w', Own T w' nobody W0.heap.size el v' (l ++ m) → Ext W0 w' → Gro v.ownBlock w w' → WL P n ops N X rest (putO e d v') w') :
    WL P n ops N X (⟨d, .call { callee := .builtin .append, args := #[s, x], argTypes := #[t, t] }, ty, pos, af, none⟩ :: rest) e w :=
  op_append hd hsv hx hu hs hy hz hzs hown (hrow.srcF hf) (fun _ q => q.elim) hsz h63 hE.size fun v' w' ho hg _ => h v' w' ho (hE.gro hg hE.size (fun k hk => (hown.lt hk).1)) hg
/-- The same, the block's bound apart. -/
theorem op_app0 (hf : Flat T) {s x : Operand} {t el : TypeId} {z : Value} {by_ c B : Nat} {v : Value} {l m : List α} {A : Option Addr} (hd : dOk n d = true) (hsv : ev e s = v) (hx : ev e x = .slice A m.length c)
    (hu : P.underlying t = some (.slice el)) (hs : (P.info? el).map (·.size) = some T.sz) (hy : (P.info? el).map (·.bytes) = some by_) (hz : (P.info? el).bind (·.zero) = some z) (hzs : z.cells.size = T.sz)
    (hB : B ≤ w.heap.size) (hown : Own T w nobody B el v l) {F : Nat → Prop} (hrow : T.Row w F A m) (hsz : (l.length + m.length) * by_ ≤ 140737488355328) (h63 : l.length + m.length ≤ 140737488355328)
    (h : ∀ v' w', Own T w' nobody B el v' (l ++ m) → Gro v.ownBlock w w' → WL P n ops N X rest (putO e d v') w') :
    WL P n ops N X (⟨d, .call { callee := .builtin .append, args := #[s, x], argTypes := #[t, t] }, ty, pos, af, none⟩ :: rest) e w :=
  op_append hd hsv hx hu hs hy hz hzs hown (hrow.srcF hf) (fun _ q => q.elim) hsz h63 hB fun v' w' ho hg _ => h v' w' ho hg
end
theorem gro_blk {row : Option Nat} {w w' : World} {g : Nat} {c : Array Value} {t : TypeId} (h : Gro row w w') (hb : Blk w g c t) (hne : row ≠ some g) : Blk w' g c t := by
  unfold Blk at *; rw [h.block g (heap_lt hb) hne]; exact hb
theorem own_ne {α : Type} {T : Ty α} {w : World} {F : Nat → Prop} {B : Nat} {e : TypeId} {v : Value} {l : List α} {g : Nat} {c : Array Value} {t : TypeId} {fr : Nat × Nat} (h : Own T w F B e v l) (hb : w.heap[g]? = some (.cells c t fr)) (ht : t ≠ e) : v.ownBlock ≠ some g := by
  rcases h with ⟨rfl, _⟩ | ⟨g', cap, cc, xs, rfl, h1, h2, _⟩
  · simp [Value.ownBlock]
  · intro q
    simp [Value.ownBlock] at q; subst q
    unfold Blk at h2; rw [h2] at hb; cases hb; exact ht rfl
theorem own_cell {α : Type} {T : Ty α} {w : World} {F : Nat → Prop} {B : Nat} {e : TypeId} {v : Value} {l : List α} (h : Own T w F B e v l) : v.oneCell' = true := by
  rcases h with ⟨rfl, _⟩ | ⟨g', cap, cc, xs, rfl, _⟩ <;> rfl
/-- One element of one cell, in a block of its own. -/
theorem row_one {α : Type} {enc : α → Value} {ok : α → Prop} {h1 : ∀ x, (enc x).oneCell' = true} {w : World} {g : Nat} {t : TypeId} {x : α} (hb : Blk w g #[enc x] t) (hok : ok x) : (Ty.scalar enc ok h1).Row w (old w) (some ⟨g, 0, none⟩) [x] :=
  Blk.row hb (Blk.lt hb) fun i hi => by
    obtain rfl : i = 0 := by simp at hi; omega
    exact ⟨[enc x], ⟨rfl, hok⟩, fun j hj => by
      simp only [Ty.scalar] at hj
      obtain rfl : j = 0 := by omega
      rfl⟩
end Go.Eng

/-
  The engine: structs of one cell a field. Generic: no program.
-/
namespace Go.Eng
set_option linter.unusedVariables false
set_option linter.unusedSimpArgs false
open Go.RowKit

/-- A field's offset, size and type. -/
def fieldOf (P : Program) (s i : Nat) : Option (Nat × Nat × TypeId) :=
  match P.underlying s with
  | some (.struct fs) => (fs[i]?).bind fun f => (P.info? f.type).map fun inf => (f.offset, inf.size, f.type)
  | _ => none
/-- A struct whose fields are one cell each: its zero, and where they lie. -/
def layOf (P : Program) (s : Nat) : Option (List Value × List Nat) :=
  match P.underlying s, (P.info? s).bind (·.zero) with
  | some (.struct fs), some z => if fs.toList.all (fun f => ((P.info? f.type).map (·.size)) == some 1) then some (z.cells.toList, fs.toList.map (·.offset)) else none
  | _, _ => none
/-- A struct: its zero, where its fields lie, and how wide. -/
def layN (P : Program) (s : Nat) : Option (List Value × List (Nat × Nat)) :=
  match P.underlying s, (P.info? s).bind (·.zero) with
  | some (.struct fs), some z => (fs.toList.mapM (fun f => (P.info? f.type).map fun i => (f.offset, i.size))).map fun pl => (z.cells.toList, pl)
  | _, _ => none
def setL : List Value → List (Nat × Value) → List Value
  | l, [] => l
  | l, (o, v) :: r => setL (l.set o v) r
theorem one_cells {v : Value} (h : v.oneCell' = true) : v.cells = #[v] := by
  cases v <;> first | rfl | (simp [Value.oneCell'] at h)
section
variable {P : Program} {ρ : Operand → Value} {w : World} {d : Option Tmp} {t : TypeId} {pos : String} {af : Array Edge} {g : Option (Nat × Bool)}

theorem r_fieldAddr {x : Operand} {s i b off o sz : Nat} {ty : TypeId} (hx : ρ x = .pointer (some ⟨b, off, none⟩)) (hf : fieldOf P s i = some (o, sz, ty)) (hz : (sz == 0) = false) :
    (execOp ρ ⟨d, .fieldAddr s x i, t, pos, af, g⟩).run P w = .ok (.value (.pointer (some ⟨b, off + o, none⟩))) w := by
  unfold fieldOf at hf
  cases hu : P.underlying s with
  | none => simp [hu] at hf
  | some td =>
    cases td <;> simp only [hu] at hf <;> try (cases hf; done)
    rename_i fs
    cases hfi : fs[i]? with
    | none => simp [hfi] at hf
    | some f =>
      cases hin : P.info? f.type with
      | none => simp [hfi, hin] at hf
      | some inf =>
        simp [hfi, hin] at hf
        obtain ⟨rfl, rfl, rfl⟩ := hf
        have hz' : ¬ inf.size = 0 := by simpa using hz
        simp [execOp, Instr.fieldAt, hx, run_underlying hu, hfi, Instr.sureAddr, fieldPlace, sizeOf, typeInfo, hin, hz', add_at]
theorem r_loadRow {x : Operand} {ty t' : TypeId} {b : Nat} {c : Array Value} {td : TypeDesc} (hx : ρ x = .pointer (some ⟨b, 0, none⟩)) (hb : Blk w b c t') (hu : P.underlying ty = some td) (h1 : oneCellT td = false) (hs : (P.info? ty).map (·.size) = some c.size) :
    (execOp ρ ⟨d, .load ty x, t, pos, af, g⟩).run P w = .ok (.value (.agg c)) w := r_load_row hx hu h1 hs hb
theorem fill_one {places : Array (Nat × Nat)} : ∀ {parts : List (Nat × Value)} {cs : Array Value} {offs : List Nat}, (∀ q ∈ parts, q.2.cells = #[q.2]) → (∀ q ∈ parts, ∃ o, offs[q.1]? = some o ∧ places[q.1]? = some (o, 1) ∧ o < cs.size) →
    Instr.fill (places[·]?) cs parts = some (setL cs.toList (parts.map fun q => ((offs[q.1]?).getD 0, q.2))).toArray
  | [], cs, _, _, _ => by simp [Instr.fill, setL]
  | (i, v) :: r, cs, offs, h1, h2 => by
    obtain ⟨o, ho, hp, hlt⟩ := h2 (i, v) (List.mem_cons_self ..)
    have hv : v.cells = #[v] := h1 (i, v) (List.mem_cons_self ..)
    have h2' : ∀ q ∈ r, ∃ o', offs[q.1]? = some o' ∧ places[q.1]? = some (o', 1) ∧ o' < (cs.setIfInBounds o v).size := fun q hq => by
      have := h2 q (List.mem_cons_of_mem _ hq)
      simpa using this
    have ih := fill_one (places := places) (cs := cs.setIfInBounds o v) (offs := offs) (fun q hq => h1 q (List.mem_cons_of_mem _ hq)) h2'
    simp only [Instr.fill, hp, hv]
    have hsz : ¬ (1 ≠ 1 ∨ o + 1 > cs.size) := by omega
    simp only at ho
    simp [setL, ho, hsz, hlt]
    exact ⟨by omega, by simpa using ih⟩
theorem r_buildN {parts : List (Nat × Operand)} {s : Nat} {zc : List Value} {pl : List (Nat × Nat)} {cs : List Value} (hl : layN P s = some (zc, pl)) (hf : Instr.fill (pl.toArray[·]?) zc.toArray (parts.map fun q => (q.1, ρ q.2)) = some cs.toArray) :
    (execOp ρ ⟨d, .build s parts.toArray, t, pos, af, g⟩).run P w = .ok (.value (.agg cs.toArray)) w := by
  unfold layN at hl
  cases hu : P.underlying s with
  | none => simp [hu] at hl
  | some td =>
    cases td <;> simp only [hu] at hl <;> try (cases hl; done)
    rename_i fs
    cases hzz : (P.info? s).bind (·.zero) with
    | none => simp [hzz] at hl
    | some z =>
      simp only [hzz] at hl
      cases hpl : fs.toList.mapM (fun f => (P.info? f.type).map fun i => (f.offset, i.size)) with
      | none => rw [hpl] at hl; simp at hl
      | some pl' =>
        rw [hpl] at hl
        obtain ⟨rfl, rfl⟩ : z.cells.toList = zc ∧ pl' = pl := by simpa using hl
        cases hin : P.info? s with
        | none => simp [hin] at hzz
        | some inf =>
          have hz' : inf.zero = some z := by simpa [hin] using hzz
          have hb : P.built s (parts.toArray.map fun (q : Nat × Operand) => (q.1, ρ q.2)).toList = some cs.toArray := by
            unfold Program.built
            simp only [hin, hu, hz', hpl]
            simpa using hf
          have := run_build w s (parts.toArray.map fun (q : Nat × Operand) => (q.1, ρ q.2)) cs.toArray hb
          simp [execOp] at this ⊢
          simp [this]
theorem r_build {parts : List (Nat × Operand)} {s : Nat} {zc : List Value} {offs : List Nat} {cs : List Value} (hl : layOf P s = some (zc, offs)) (h1 : ∀ q ∈ parts, (ρ q.2).oneCell' = true) (h2 : (parts.all fun q => ((offs[q.1]?).map fun o => Nat.blt o zc.length).getD false) = true)
    (hc : setL zc (parts.map fun q => ((offs[q.1]?).getD 0, ρ q.2)) = cs) :
    (execOp ρ ⟨d, .build s parts.toArray, t, pos, af, g⟩).run P w = .ok (.value (.agg cs.toArray)) w := by
  unfold layOf at hl
  cases hu : P.underlying s with
  | none => simp [hu] at hl
  | some td =>
    cases td <;> simp only [hu] at hl <;> try (cases hl; done)
    rename_i fs
    cases hzz : (P.info? s).bind (·.zero) with
    | none => simp [hzz] at hl
    | some z =>
      simp only [hzz] at hl
      split at hl
      rotate_left
      · cases hl
      rename_i hall
      obtain ⟨rfl, rfl⟩ : z.cells.toList = zc ∧ fs.toList.map (·.offset) = offs := by simpa using hl
      cases hin : P.info? s with
      | none => simp [hin] at hzz
      | some inf =>
        have hz' : inf.zero = some z := by simpa [hin] using hzz
        have hpl : fs.toList.mapM (fun f => (P.info? f.type).map fun i => (f.offset, i.size)) = some (fs.toList.map fun f => (f.offset, 1)) := by
          clear hl hc h2 hu
          generalize fs.toList = l at hall
          induction l with
          | nil => rfl
          | cons f l ih =>
            simp only [List.all_cons, Bool.and_eq_true, beq_iff_eq] at hall
            cases hfi : P.info? f.type with
            | none => simp [hfi] at hall
            | some i =>
              have hs1 : i.size = 1 := by simpa [hfi] using hall.1
              simp [List.mapM_cons, hfi, hs1, ih hall.2]
        have hb : P.built s (parts.toArray.map fun (q : Nat × Operand) => (q.1, ρ q.2)).toList = some cs.toArray := by
          unfold Program.built
          simp only [hin, hu, hz', hpl]
          have hf := fill_one (places := (fs.toList.map fun f => (f.offset, 1)).toArray) (cs := z.cells) (offs := fs.toList.map (·.offset)) (parts := parts.map fun q => (q.1, ρ q.2)) (by
            intro q hq
            obtain ⟨p, hp, rfl⟩ := List.mem_map.1 hq
            exact one_cells (h1 p hp)) (by
            intro q hq
            obtain ⟨p, hp, rfl⟩ := List.mem_map.1 hq
            have := List.all_eq_true.1 h2 p hp
            cases ho : (fs.toList.map (·.offset))[p.1]? with
            | none => rw [ho] at this; simp at this
            | some o =>
              rw [ho] at this
              refine ⟨o, rfl, ?_, by simpa [Nat.blt_eq] using this⟩
              simp only [List.getElem?_map, Option.map_eq_some_iff] at ho
              obtain ⟨f, hf, rfl⟩ := ho
              simp [hf])
          simp only [List.map_map] at hf
          rw [← hc]
          simpa [Function.comp_def] using hf
        have := run_build w s (parts.toArray.map fun (q : Nat × Operand) => (q.1, ρ q.2)) cs.toArray hb
        simp [execOp] at this ⊢
        simp [this]
end
theorem Chg.setRow (w : World) (b : Nat) (c : Array Value) : Chg b w (w.setRow b c) :=
  ⟨rfl, rfl, rfl, by simp, fun k _ hne => setRow_other w b k c hne⟩
section
variable {P : Program} {n : Nat} {N : Env → World → Prop} {X : Exit → Env → World → Prop} {e : Env} {w : World} {ops : Array Oper} {rest : List Oper} {d : Option Tmp} {t : TypeId} {pos : String} {af : Array Edge}
/-- A whole struct is stored into a block of one's own. -/
theorem op_storeRow {x y : Operand} {ty tb : TypeId} {b : Nat} {c c' : Array Value} (hx : ev e x = .pointer (some ⟨b, 0, none⟩)) (hy : ev e y = .agg c') (hs : (P.info? ty).map (·.size) = some c'.size) (hb : Blk w b c tb) (ho : c.size = c'.size) (h1 : c'.toList.all (·.oneCell') = true)
    (h : ∀ w', Chg b w w' → Blk w' b c' tb → WL P n ops N X rest e w') : WL P n ops N X (⟨none, .store ty x y, t, pos, af, none⟩ :: rest) e w :=
  opU (r_store_row hx hy hs hb ho (by rw [← Array.all_toList]; exact h1)) (h _ (Chg.setRow w b c') hb.setRow)
end
/-- The results lie in a block, and in a slot. -/
theorem fin_cell1 {P : Program} {p u : Tmp} {ty t : TypeId} {R : Ending → World → Prop} {e : Env} {w : World} {g : Nat} {c : Array Value} {fr : Nat × Nat} {td : TypeDesc}
    (hp : e p = .pointer (some ⟨g, 0, none⟩)) (hb : w.heap[g]? = some (.cells c t fr)) (hu : P.underlying ty = some td) (h1 : oneCellT td = false) (hs : (P.info? ty).map (·.size) = some c.size)
    (h : R (.returned (.tuple #[.agg c, e u])) w) (hm : e slotM = undef := by rfl) (k1 : Nat.beq p slotM = false := by rfl) (k2 : Nat.beq u slotM = false := by rfl) : fin P #[.cell p ty, .tmp u] R e w := by
  refine fin_plain hm ?_
  intro tmps ht
  refine ⟨.tuple #[.agg c, e u], ?_, h⟩
  have h1' := ht p (by rw [beq_eq] at k1; simpa using k1)
  have h2' := ht u (by rw [beq_eq] at k2; simpa using k2)
  simp at h1' h2'
  have := run_loadVar_row (P := P) w g t ty c fr td hb hu (by cases td <;> simp_all [oneCellT]) hs
  simp [h1', h2', hp, asAddr, this]
theorem bool_tt {q : Prop} {dq : Decidable q} (h : q) : Value.bool true = .bool (@decide q dq) := by simp [h]
theorem bool_ff {q : Prop} {dq : Decidable q} (h : ¬ q) : Value.bool false = .bool (@decide q dq) := by simp [h]
theorem bool_iff {p q : Prop} {dp : Decidable p} {dq : Decidable q} (h : p ↔ q) : Value.bool (@decide p dp) = .bool (@decide q dq) := by simp only [h]
/-- A region that draws its order: what must hold behind each operation is that what was there at the start is, and that the blocks in F are as they are now. -/
theorem W_drawF {P : Program} {n : Nat} {N : Env → World → Prop} {X : Exit → Env → World → Prop} {e : Env} {w W0 : World} {id : Nat} {l : List Oper} {k : Nat} (F : Nat → Prop) (hm : P.follows .mixedOrders = true) (hk : l.toArray.size = k)
    (h : ∀ w', Ext w w' → WA P n l.toArray N X (fun u => Ext W0 u ∧ Same F w' u) k (Array.replicate k false) e w') : W P n (.region id l.toArray true) N X e w :=
  W_draw (fun u => Ext W0 u ∧ Same F { w with drawn := w.drawn + 1 } u) hm hk (h _ (ext_drawn w))
theorem Blk.at {w u : World} {b : Nat} {c : Array Value} {t : TypeId} (h : Blk w b c t) (hs : u.heap[b]? = w.heap[b]?) : Blk u b c t := by
  unfold Blk at *; rw [hs]; exact h
theorem Blk.eq {w u : World} {b : Nat} {c : Array Value} {t : TypeId} (h : Blk u b c t) (k : Blk w b c t) : u.heap[b]? = w.heap[b]? := by
  unfold Blk at *; rw [h, k]
section
variable {P : Program} {n : Nat} {N : Env → World → Prop} {X : Exit → Env → World → Prop} {S : World → Prop} {e : Env} {w : World} {ops : Array Oper} {fuel : Nat} {listed : Array Bool} {i : Nat} {t : TypeId} {pos : String} {af : Array Edge}
theorem O_store {x y : Operand} {ty tb : TypeId} {b j : Nat} {c : Array Value} {v : Value} (hi : ops[i]? = some ⟨none, .store ty x y, t, pos, af, none⟩) (hx : ev e x = .pointer (some ⟨b, j, none⟩)) (hy : ev e y = v) (h1 : v.oneCell' = true) (hs : (P.info? ty).map (·.size) = some 1)
    (hb : Blk w b c tb) (hj : j < c.size) (h : ∀ w', Chg b w w' → Blk w' b (c.setIfInBounds j v) tb → S w' ∧ WA P n ops N X S fuel (listed.setIfInBounds i true) e w') : WO P n ops N X S fuel listed i e w :=
  have h' := h _ (Chg.setCell w ⟨b, j, none⟩ v) (hb.set v)
  O_unit hi (r_store hx hy h1 hs (hb.cell (v := c[j]) (by simp [hj])) hb.free) h'.1 h'.2
theorem O_storeRow {x y : Operand} {ty tb : TypeId} {b : Nat} {c c' : Array Value} (hi : ops[i]? = some ⟨none, .store ty x y, t, pos, af, none⟩) (hx : ev e x = .pointer (some ⟨b, 0, none⟩)) (hy : ev e y = .agg c') (hs : (P.info? ty).map (·.size) = some c'.size) (hb : Blk w b c tb) (ho : c.size = c'.size) (h1 : c'.toList.all (·.oneCell') = true)
    (h : ∀ w', Chg b w w' → Blk w' b c' tb → S w' ∧ WA P n ops N X S fuel (listed.setIfInBounds i true) e w') : WO P n ops N X S fuel listed i e w :=
  have h' := h _ (Chg.setRow w b c') hb.setRow
  O_unit hi (r_store_row hx hy hs hb ho (by rw [← Array.all_toList]; exact h1)) h'.1 h'.2
end
end Go.Eng

/-
  The engine: structs of ints compared, and as keys of maps. Generic: no program.
-/
namespace Go.Eng
set_option linter.unusedVariables false
set_option linter.unusedSimpArgs false
open Go.RowKit

def okFields (P : Program) : Nat → List Field → Bool
  | _, [] => true
  | k, f :: fs => f.name != "_" && f.offset == k && (match P.underlying f.type with | some (.int .i64) => true | _ => false) && okFields P (k + 1) fs
/-- A struct of ints alone: how many. -/
def intsOf (P : Program) (t : TypeId) : Option Nat :=
  match P.underlying t with
  | some (.struct fs) => if !P.stoodInHeld t && !P.eqGuardType P.depth t && okFields P 0 fs.toList then some fs.size else none
  | _ => none
abbrev vi (l : List Int) : Array Value := (l.map (Value.int .i64)).toArray
theorem intsOf_spec {P : Program} {t : TypeId} {n : Nat} (h : intsOf P t = some n) : ∃ fs, P.underlying t = some (.struct fs) ∧ P.stoodInHeld t = false ∧ P.eqGuardType P.depth t = false ∧ okFields P 0 fs.toList = true ∧ fs.toList.length = n := by
  unfold intsOf at h
  cases hu : P.underlying t with
  | none => simp [hu] at h
  | some td =>
    cases td <;> simp only [hu] at h <;> try (cases h; done)
    rename_i fs
    split at h
    · rename_i hc
      simp only [Bool.and_eq_true, Bool.not_eq_true'] at hc
      exact ⟨fs, rfl, hc.1.1, hc.1.2, hc.2, by simpa using h⟩
    · cases h
section
variable {P : Program} {w : World}
theorem run_part_int {ty : TypeId} {xs : List Int} {k : Nat} (hu : P.underlying ty = some (.int .i64)) (hk : k < xs.length) : (part ty (vi xs) k).run P w = .ok (.int .i64 xs[k]) w := by
  have hagg : (isAgg ty).run P w = .ok false w := by
    unfold isAgg
    rw [Sem.run_bind, run_underlying hu w]
    rfl
  unfold part
  rw [Sem.run_bind, hagg]
  simp [Result.andThen, hk]
theorem run_eqFields {d : Nat} {xs ys : List Int} : ∀ (fs : List Field) (k : Nat), okFields P k fs = true → k + fs.length = xs.length → k + fs.length = ys.length → (Op.eqFields (d + 1) (vi xs) (vi ys) fs).run P w = .ok (decide (xs.drop k = ys.drop k)) w
  | [], k, _, h1, h2 => by
    simp only [List.length_nil, Nat.add_zero] at h1 h2
    rw [List.drop_of_length_le (by omega), List.drop_of_length_le (by omega)]
    simp [Op.eqFields]
  | f :: fs, k, h, h1, h2 => by
    simp only [okFields, Bool.and_eq_true, bne_iff_ne, ne_eq, beq_iff_eq] at h
    obtain ⟨⟨⟨hn, ho⟩, hu⟩, hr⟩ := h
    simp only [List.length_cons] at h1 h2
    have hu' : P.underlying f.type = some (.int .i64) := by
      split at hu
      · assumption
      · cases hu
    have ih := run_eqFields (d := d) (xs := xs) (ys := ys) fs (k + 1) hr (by omega) (by omega)
    have hkx : k < xs.length := by omega
    have hky : k < ys.length := by omega
    simp only [Op.eqFields, hn, ne_eq, not_false_eq_true, if_true, ho, Sem.run_bind, run_part_int hu' hkx, run_part_int hu' hky, Result.andThen_ok, run_equalIn_int w d f.type .i64 .i64 xs[k] ys[k] hu']
    have key : (xs.drop k = ys.drop k) ↔ (xs[k] = ys[k] ∧ xs.drop (k + 1) = ys.drop (k + 1)) := by
      rw [List.drop_eq_getElem_cons hkx, List.drop_eq_getElem_cons hky, List.cons.injEq]
    simp only [key]
    by_cases he : xs[k] = ys[k]
    · simp [he, ih]
    · simp [he]
theorem run_equal_ints {t : TypeId} {n : Nat} (h : intsOf P t = some n) {xs ys : List Int} (hx : xs.length = n) (hy : ys.length = n) : (Op.equal t (.agg (vi xs)) (.agg (vi ys))).run P w = .ok (decide (xs = ys)) w := by
  obtain ⟨fs, hu, hp, _, hk, hl⟩ := intsOf_spec h
  have hf : P.fieldsOf t = fs := by simp [Program.fieldsOf, hu]
  have := run_equalIn_struct (P := P) w 9999 t (vi xs) (vi ys) (by rw [hf]; exact hu) hp
  rw [hf, run_eqFields (d := 9998) fs.toList 0 hk (by omega) (by omega)] at this
  exact this
end
section
variable {P : Program} {ρ : Operand → Value} {w : World} {d : Option Tmp} {t : TypeId} {pos : String} {af : Array Edge} {g : Option (Nat × Bool)} {x y : Operand} {xt yt : TypeId} {n : Nat} {xs ys : List Int}
theorem ri_eql (h : intsOf P xt = some n) (hx : ρ x = .agg (vi xs)) (hy : ρ y = .agg (vi ys)) (h1 : xs.length = n) (h2 : ys.length = n) :
    (execOp ρ ⟨d, .binOp .eql xt x y yt, t, pos, af, g⟩).run P w = .ok (.value (.bool (decide (xs = ys)))) w := by
  obtain ⟨_, _, _, hg, _⟩ := intsOf_spec h
  have hq := run_equal_ints (P := P) (w := w) h h1 h2
  simp [execOp, hx, hy, eqGuard, binOp, hq, hg]
theorem ri_neq (h : intsOf P xt = some n) (hx : ρ x = .agg (vi xs)) (hy : ρ y = .agg (vi ys)) (h1 : xs.length = n) (h2 : ys.length = n) :
    (execOp ρ ⟨d, .binOp .neq xt x y yt, t, pos, af, g⟩).run P w = .ok (.value (.bool (decide (xs ≠ ys)))) w := by
  obtain ⟨_, _, _, hg, _⟩ := intsOf_spec h
  have hq := run_equal_ints (P := P) (w := w) h h1 h2
  simp [execOp, hx, hy, eqGuard, binOp, hq, hg]
end
section
variable {P : Program} {w : World}
theorem run_checkFields {em : Bool} {d : Nat} {xs : List Int} : ∀ (fs : List Field) (k : Nat), okFields P k fs = true → k + fs.length = xs.length →
    (forIn fs PUnit.unit (fun f (_ : PUnit) => (do
      if f.name ≠ "_" then
        let a ← part f.type (vi xs) f.offset
        Instr.checkKey em (d + 1) f.type a
        pure (ForInStep.yield PUnit.unit)
      else pure (ForInStep.yield PUnit.unit) : Sem (ForInStep PUnit)))).run P w = .ok PUnit.unit w
  | [], k, _, _ => by simp
  | f :: fs, k, h, h1 => by
    simp only [okFields, Bool.and_eq_true, bne_iff_ne, ne_eq, beq_iff_eq] at h
    obtain ⟨⟨⟨hn, ho⟩, hu⟩, hr⟩ := h
    simp only [List.length_cons] at h1
    have hu' : P.underlying f.type = some (.int .i64) := by
      split at hu
      · assumption
      · cases hu
    have ih := run_checkFields (em := em) (d := d) (xs := xs) fs (k + 1) hr (by omega)
    have hkx : k < xs.length := by omega
    have hc : (Instr.checkKey em (d + 1) f.type (.int .i64 xs[k])).run P w = .ok () w := Go.MapKept.run_checkKey (d := .int .i64) hu' (by simp [Go.MapKept.IsKey]) em d
    simp only [List.forIn_cons, Sem.run_bind, hn, ne_eq, not_false_eq_true, if_true, ho, run_part_int hu' hkx, Result.andThen_ok, hc, Sem.run_pure]
    exact ih
theorem run_checkKey_ints {t : TypeId} {n : Nat} (h : intsOf P t = some n) {xs : List Int} (hx : xs.length = n) (em : Bool) : (Instr.checkKey em 10000 t (.agg (vi xs))).run P w = .ok () w := by
  obtain ⟨fs, hu, _, _, hk, hl⟩ := intsOf_spec h
  suffices hs : ∀ d, (Instr.checkKey em (d + 2) t (.agg (vi xs))).run P w = .ok () w from hs 9998
  intro d
  have := run_checkFields (P := P) (w := w) (em := em) (d := d) (xs := xs) fs.toList 0 hk (by omega)
  rw [Array.forIn_toList] at this
  rw [Instr.checkKey]
  simp only [Sem.run_bind, run_underlying hu, Result.andThen_ok]
  simp at this ⊢
  rw [this]
  rfl
/-- Which entry has a key. -/
theorem run_findAsking_ints {t : TypeId} {n : Nat} (h : intsOf P t = some n) {xs : List Int} (hx : xs.length = n) : ∀ (es : List MapEntry) (i : Nat), (∀ e ∈ es, ∃ l : List Int, l.length = n ∧ e.key = .agg (vi l)) →
    ((Instr.findAsking t (.agg (vi xs)) es i).run P w = .ok none w ∧ ∀ e ∈ es, e.key ≠ .agg (vi xs)) ∨ ∃ j e, (Instr.findAsking t (.agg (vi xs)) es i).run P w = .ok (some (j, e.val)) w ∧ e ∈ es ∧ e.key = .agg (vi xs)
  | [], i, _ => Or.inl ⟨by simp [Instr.findAsking], by simp⟩
  | e :: es, i, hall => by
    obtain ⟨l, hl, hk⟩ := hall e (by simp)
    have hq := run_equal_ints (P := P) (w := w) h hx hl
    by_cases he : xs = l
    · subst he
      refine Or.inr ⟨i, e, ?_, by simp, hk⟩
      simp only [Instr.findAsking, hk, Sem.run_bind, hq, Result.andThen_ok]
      simp
    · have hne : e.key ≠ .agg (vi xs) := by
        rw [hk]
        intro q
        apply he
        simp only [Value.agg.injEq] at q
        have := congrArg Array.toList q
        simp only [vi] at this
        exact (List.map_inj_right (fun a b hab => by simpa using hab)).1 this.symm
      have step : (Instr.findAsking t (.agg (vi xs)) (e :: es) i).run P w = (Instr.findAsking t (.agg (vi xs)) es (i + 1)).run P w := by
        simp only [Instr.findAsking, hk, Sem.run_bind, hq, Result.andThen_ok]
        simp [he]
      rw [step]
      rcases run_findAsking_ints h hx es (i + 1) (fun e' he' => hall e' (by simp [he'])) with ⟨h1, h2⟩ | ⟨j, e', h1, h2, h3⟩
      · exact Or.inl ⟨h1, fun e' he' => by rcases List.mem_cons.1 he' with rfl | h4; exact hne; exact h2 e' h4⟩
      · exact Or.inr ⟨j, e', h1, by simp [h2], h3⟩
theorem run_findKey_ints {t : TypeId} {n : Nat} (h : intsOf P t = some n) {xs : List Int} (hx : xs.length = n) (es : List MapEntry) (hall : ∀ e ∈ es, ∃ l : List Int, l.length = n ∧ e.key = .agg (vi l)) :
    ((Instr.findKey t (.agg (vi xs)) es).run P w = .ok none w ∧ ∀ e ∈ es, e.key ≠ .agg (vi xs)) ∨ ∃ j e, (Instr.findKey t (.agg (vi xs)) es).run P w = .ok (some (j, e.val)) w ∧ e ∈ es ∧ e.key = .agg (vi xs) := by
  obtain ⟨fs, hu, _⟩ := intsOf_spec h
  cases es with
  | nil => exact Or.inl ⟨by simp [Instr.findKey, run_underlying hu, Result.andThen, Instr.findNow], by simp⟩
  | cons e es =>
    have hfn : Instr.findNow (.struct fs) (.agg (vi xs)) (e :: es) 0 = none := by simp [Instr.findNow, Instr.sameNow]
    have hr : (Instr.findKey t (.agg (vi xs)) (e :: es)).run P w = (Instr.findAsking t (.agg (vi xs)) (e :: es) 0).run P w := by
      simp [Instr.findKey, run_underlying hu, Result.andThen, hfn]
    rw [hr]
    exact run_findAsking_ints h hx (e :: es) 0 hall
end
end Go.Eng

/-
  The engine: a region in whatever order, by an invariant; maps with keys of ints. Generic: no program.
-/
namespace Go.Eng
set_option linter.unusedVariables false
set_option linter.unusedSimpArgs false
open Go.RowKit

section
variable {P : Program} {n : Nat} {N : Env → World → Prop} {X : Exit → Env → World → Prop} {ops : Array Oper}
abbrev anyW : World → Prop := fun _ => True
theorem lt_ready {listed : Array Bool} {i : Nat} (h : i ∈ Region.ready .any ops listed) : i < ops.size := by
  obtain ⟨_, o, ho, _⟩ := mem_ready.1 h
  exact (Array.getElem?_eq_some_iff.1 ho).1
/-- Whatever comes up next keeps the invariant; when all have come up it gives what is asked. -/
theorem A_inv (I : Array Bool → Env → World → Prop)
    (step : ∀ listed e w i, I listed e w → i ∈ Region.ready .any ops listed → ∀ fuel, (∀ e' w', I (listed.setIfInBounds i true) e' w' → WA P n ops N X anyW fuel (listed.setIfInBounds i true) e' w') → WO P n ops N X anyW fuel listed i e w)
    (done : ∀ listed e w, I listed e w → Region.ready .any ops listed = [] → N e w) :
    ∀ fuel listed e w, I listed e w → unl ops.size listed ≤ fuel → WA P n ops N X anyW fuel listed e w := by
  intro fuel
  induction fuel with
  | zero =>
    intro listed e w hI hu
    have hnil : Region.ready .any ops listed = [] := by
      cases hr : Region.ready .any ops listed with
      | nil => rfl
      | cons i r =>
        have hi : i ∈ Region.ready .any ops listed := by rw [hr]; simp
        have := unl_pos (lt_ready hi) (mem_ready.1 hi).1
        omega
    exact A_done hnil (done listed e w hI hnil)
  | succ fuel ih =>
    intro listed e w hI hu ro a ha
    refine ⟨fun hnil => ⟨e, ha, done listed e w hI hnil⟩, fun i hi => step listed e w i hI hi fuel (fun e' w' hI' => ih _ e' w' hI' ?_) ro a ha⟩
    have := unl_set (lt_ready hi) (mem_ready.1 hi).1
    omega
end

section
variable {P : Program} {ρ : Operand → Value} {w : World} {d : Option Tmp} {t : TypeId} {pos : String} {af : Array Edge} {g : Option (Nat × Bool)} {x y z : Operand} {mt kt et : TypeId} {n : Nat} {xs : List Int}
theorem r_makeMap : (execOp ρ ⟨d, .makeMap mt none, t, pos, af, g⟩).run P w = .ok (.value (.map (some w.heap.size))) (w.alloc (.map #[] 0)) := by
  simp [execOp, Instr.makeMap, run_newObj_alloc]
/-- A new key. -/
theorem r_insert {r clock : Nat} {es : Array MapEntry} {v : Value} (hx : ρ x = .map (some r)) (hy : ρ y = .agg (vi xs)) (hz : ρ z = v) (hu : P.underlying mt = some (.map kt et)) (hk : intsOf P kt = some n) (hl : xs.length = n)
    (hr : w.heap[r]? = some (.map es clock)) (hall : ∀ e ∈ es.toList, ∃ l : List Int, l.length = n ∧ e.key = .agg (vi l)) (hnew : ∀ e ∈ es.toList, e.key ≠ .agg (vi xs)) :
    (execOp ρ ⟨d, .insert mt x y z, t, pos, af, g⟩).run P w = .ok .skip (w.putObj r (.map (es.push { key := .agg (vi xs), val := v, born := clock }) (clock + 1))) := by
  have hc := run_checkKey_ints (P := P) (w := w) hk hl false
  have hg : (getObj r).run P w = .ok (.map es clock) w := by simp [getObj, Sem.run, hr]
  have hset : ∀ o : Obj, (setObj r o).run P w = .ok () (w.putObj r o) := fun o => by simp [setObj, Sem.run, hr, World.putObj]
  have hf : (Instr.findKey kt (.agg (vi xs)) es.toList).run P w = .ok none w := by
    rcases run_findKey_ints (P := P) (w := w) hk hl es.toList hall with ⟨h1, _⟩ | ⟨j, e, _, h2, h3⟩
    · exact h1
    · exact absurd h3 (hnew e h2)
  have hm : (Instr.mapUpdate mt (.map (some r)) (.agg (vi xs)) v).run P w = .ok () (w.putObj r (.map (es.push { key := .agg (vi xs), val := v, born := clock }) (clock + 1))) := by
    unfold Instr.mapUpdate
    simp only [Sem.run_bind, run_underlying hu, Result.andThen_ok, hg, hc, hf, hset]
  simp [execOp, hx, hy, hz, hm]
/-- What a key leads to. -/
theorem r_lookup_some {r clock : Nat} {es : Array MapEntry} {e : MapEntry} (hx : ρ x = .map (some r)) (hy : ρ y = .agg (vi xs)) (hu : P.underlying mt = some (.map kt et)) (hk : intsOf P kt = some n) (hl : xs.length = n)
    (hr : w.heap[r]? = some (.map es clock)) (hall : ∀ e ∈ es.toList, ∃ l : List Int, l.length = n ∧ e.key = .agg (vi l)) (he : e ∈ es.toList) (hek : e.key = .agg (vi xs)) (hone : ∀ e' ∈ es.toList, e'.key = .agg (vi xs) → e'.val = e.val) :
    (execOp ρ ⟨d, .lookup mt x y true, t, pos, af, g⟩).run P w = .ok (.value (.tuple #[e.val, .bool true])) w := by
  have hc := run_checkKey_ints (P := P) (w := w) hk hl es.isEmpty
  have hg : (getObj r).run P w = .ok (.map es clock) w := by simp [getObj, Sem.run, hr]
  obtain ⟨j, hf⟩ : ∃ j, (Instr.findKey kt (.agg (vi xs)) es.toList).run P w = .ok (some (j, e.val)) w := by
    rcases run_findKey_ints (P := P) (w := w) hk hl es.toList hall with ⟨_, h1⟩ | ⟨j, e', h1, h2, h3⟩
    · exact absurd hek (h1 e he)
    · exact ⟨j, by rw [h1, hone e' h2 h3]⟩
  have hm : (Instr.lookup mt (.map (some r)) (.agg (vi xs)) true).run P w = .ok (.tuple #[e.val, .bool true]) w := by
    unfold Instr.lookup
    simp only [Sem.run_bind, run_underlying hu, Result.andThen_ok, hg, hc, hf, Sem.run_pure, if_true]
  simp [execOp, hx, hy, hm]
theorem r_lookup_none {r clock : Nat} {es : Array MapEntry} {zv : Value} (hx : ρ x = .map (some r)) (hy : ρ y = .agg (vi xs)) (hu : P.underlying mt = some (.map kt et)) (hk : intsOf P kt = some n) (hl : xs.length = n) (hzv : (P.info? et).bind (·.zero) = some zv)
    (hr : w.heap[r]? = some (.map es clock)) (hall : ∀ e ∈ es.toList, ∃ l : List Int, l.length = n ∧ e.key = .agg (vi l)) (hnew : ∀ e ∈ es.toList, e.key ≠ .agg (vi xs)) :
    (execOp ρ ⟨d, .lookup mt x y true, t, pos, af, g⟩).run P w = .ok (.value (.tuple #[zv, .bool false])) w := by
  have hc := run_checkKey_ints (P := P) (w := w) hk hl es.isEmpty
  have hg : (getObj r).run P w = .ok (.map es clock) w := by simp [getObj, Sem.run, hr]
  have hf : (Instr.findKey kt (.agg (vi xs)) es.toList).run P w = .ok none w := by
    rcases run_findKey_ints (P := P) (w := w) hk hl es.toList hall with ⟨h1, _⟩ | ⟨j, e, _, h2, h3⟩
    · exact h1
    · exact absurd h3 (hnew e h2)
  have hz : (zeroValue et).run P w = .ok zv w := by
    cases hi : P.info? et with
    | none => simp [hi] at hzv
    | some inf =>
      have : inf.zero = some zv := by simpa [hi] using hzv
      simp [zeroValue, typeInfo, hi, this]
  have hm : (Instr.lookup mt (.map (some r)) (.agg (vi xs)) true).run P w = .ok (.tuple #[zv, .bool false]) w := by
    unfold Instr.lookup
    simp only [Sem.run_bind, run_underlying hu, Result.andThen_ok, hg, hc, hf, hz, Sem.run_pure, if_true]
  simp [execOp, hx, hy, hm]
end
end Go.Eng

/-
  The engine: a map that is written out, its keys structs of ints, its entries made in whatever order. Generic: no program.
-/
namespace Go.Eng
set_option linter.unusedVariables false
set_option linter.unusedSimpArgs false
open Go.RowKit

/-- Whatever has cells is as it was. -/
structure CK (a b : World) : Prop where
  size : a.heap.size ≤ b.heap.size
  cells : ∀ (g : Nat) (c : Array Value) (t : TypeId) (fr : Nat × Nat), a.heap[g]? = some (Obj.cells c t fr) → b.heap[g]? = some (Obj.cells c t fr)
theorem CK.refl (a : World) : CK a a := ⟨Nat.le_refl _, fun _ _ _ _ h => h⟩
theorem CK.trans {a b c : World} (h : CK a b) (k : CK b c) : CK a c := ⟨Nat.le_trans h.size k.size, fun g c t fr hh => k.cells g c t fr (h.cells g c t fr hh)⟩
theorem CK.of {a b : World} (h : Ext a b) : CK a b := ⟨h.size, fun _ _ _ _ hh => ext_heap hh h⟩
theorem CK.putMap {w : World} {r clock : Nat} {es : Array MapEntry} (h : w.heap[r]? = some (.map es clock)) (o : Obj) : CK w (w.putObj r o) := by
  refine ⟨by simp [World.putObj], fun g c t fr hg => ?_⟩
  have hne : g ≠ r := by rintro rfl; rw [h] at hg; cases hg
  simp only [World.putObj, Array.getElem?_setIfInBounds]
  rw [if_neg (fun q => hne q.symm)]
  exact hg
theorem Blk.ck {w w' : World} {g : Nat} {c : Array Value} {t : TypeId} (h : Blk w g c t) (hc : CK w w') : Blk w' g c t := hc.cells g c t (0, 0) h

/-- What an operation of the literal is. -/
inductive Kd (α : Type) where
  | mk (d : Tmp)
  | key (d : Tmp) (ks : List Int)
  | fn (d : Tmp) (D : α)
  | ins (ks : List Int) (D : α)
  | mv (d : Tmp)
def Kd.dst {α : Type} : Kd α → Option Tmp
  | .mk d => some d
  | .key d _ => some d
  | .fn d _ => some d
  | .ins _ _ => none
  | .mv d => some d
def Kd.len {α : Type} (m : Nat) : Option (Kd α) → Bool
  | some (.ins ks _) => Nat.beq ks.length m
  | _ => true
def Kd.isMk {α : Type} : Option (Kd α) → Bool
  | some (.mk _) => true
  | _ => false
/-- Slots are apart, keys too. -/
def sameDst {α : Type} : Option (Kd α) → Option (Kd α) → Bool
  | some a, some b => match a, b with
    | .ins k _, .ins k' _ => k == k'
    | a, b => match a.dst, b.dst with
      | some x, some y => Nat.beq x y
      | _, _ => false
  | _, _ => false
def apart {α : Type} (T : List (Kd α)) : Bool := (List.range T.length).all fun i => (T[i]?.bind (·.dst)).all (fun d => !Nat.beq d slotM) && (List.range T.length).all fun j => Nat.beq i j || !sameDst T[i]? T[j]?
theorem apart_spec {α : Type} {T : List (Kd α)} (h : apart T = true) {i j : Nat} {a b : Kd α} (hi : T[i]? = some a) (hj : T[j]? = some b) (hne : i ≠ j) : sameDst (some a) (some b) = false := by
  have hil : i < T.length := (List.getElem?_eq_some_iff.1 hi).1
  have hjl : j < T.length := (List.getElem?_eq_some_iff.1 hj).1
  have h1 := List.all_eq_true.1 h i (List.mem_range.2 hil)
  rw [Bool.and_eq_true] at h1
  have h2 := List.all_eq_true.1 h1.2 j (List.mem_range.2 hjl)
  rw [hi, hj] at h2
  simpa [beq_eq, hne] using h2
theorem apart_mark {α : Type} {T : List (Kd α)} (h : apart T = true) {i : Nat} {a : Kd α} {d : Tmp} (hi : T[i]? = some a) (hd : a.dst = some d) : d ≠ slotM := by
  have hil : i < T.length := (List.getElem?_eq_some_iff.1 hi).1
  have h1 := List.all_eq_true.1 h i (List.mem_range.2 hil)
  rw [Bool.and_eq_true, hi] at h1
  have := h1.1
  simp only [Option.bind_some, hd, Option.all_some, beq_eq, Bool.not_eq_true', decide_eq_false_iff_not] at this
  exact this
theorem apart_dst {α : Type} {T : List (Kd α)} (h : apart T = true) {i j : Nat} {a b : Kd α} {x y : Tmp} (hi : T[i]? = some a) (hj : T[j]? = some b) (hne : i ≠ j) (ha : a.dst = some x) (hb : b.dst = some y) : x ≠ y := by
  have := apart_spec h hi hj hne
  rintro rfl
  cases a <;> cases b <;> simp_all [sameDst, Kd.dst]
theorem apart_key {α : Type} {T : List (Kd α)} (h : apart T = true) {i j : Nat} {k k' : List Int} {D D' : α} (hi : T[i]? = some (.ins k D)) (hj : T[j]? = some (.ins k' D')) (hne : i ≠ j) : k ≠ k' := by
  have := apart_spec h hi hj hne
  rintro rfl
  simp [sameDst] at this
theorem vi_inj {l l' : List Int} (h : Value.agg (vi l) = .agg (vi l')) : l = l' := by
  simp only [Value.agg.injEq] at h
  have := congrArg Array.toList h
  simp only [vi] at this
  exact (List.map_inj_right (fun a b hab => by simpa using hab)).1 this

section
variable {α : Type} (K : α → Value → World → Prop)
def Kd.Holds (L0 : Prop) (r : Nat) (es : Array MapEntry) : Kd α → Env → World → Prop
  | .mk d, e, _ => e d = .map (some r)
  | .key d ks, e, _ => e d = .agg (vi ks)
  | .fn d D, e, w => K D (e d) w
  | .ins ks _, _, _ => L0 ∧ ∃ en ∈ es.toList, en.key = .agg (vi ks)
  | .mv d, e, _ => L0 ∧ e d = .map (some r)
structure LIr (T : List (Kd α)) (W0 : World) (L : Array Bool) (e : Env) (w : World) (r : Nat) (es : Array MapEntry) (clock : Nat) : Prop where
  size : L.size = T.length
  ext : Ext W0 w
  mark : e slotM = undef
  holds : ∀ i kd, T[i]? = some kd → L.getD i false = true → kd.Holds K (L.getD 0 false = true) r es e w
  map : L.getD 0 false = true → W0.heap.size ≤ r ∧ w.heap[r]? = some (.map es clock)
  ents : ∀ en ∈ es.toList, ∃ i ks D, T[i]? = some (.ins ks D) ∧ L.getD i false = true ∧ en.key = .agg (vi ks) ∧ K D en.val w
def LI (T : List (Kd α)) (W0 : World) (L : Array Bool) (e : Env) (w : World) : Prop := ∃ r es clock, LIr K T W0 L e w r es clock
variable {K}
theorem getF_set (L : Array Bool) (i j : Nat) (h : (L.setIfInBounds i true).getD j false = true) : j = i ∨ L.getD j false = true := by
  by_cases hij : j = i
  · exact Or.inl hij
  · exact Or.inr (by rwa [Go.getD_set_ne false (fun q => hij q.symm)] at h)
theorem getF_same (L : Array Bool) (i : Nat) (h : i < L.size) : (L.setIfInBounds i true).getD i false = true := by
  simp [Array.getD_eq_getD_getElem?, h]
theorem Kd.Holds.keep (hK : ∀ D v w w', K D v w → CK w w' → K D v w') {L0 L0' : Prop} {r : Nat} {es es' : Array MapEntry} {kd : Kd α} {e e' : Env} {w w' : World} (h : kd.Holds K L0 r es e w) (hd : ∀ d, kd.dst = some d → e' d = e d) (hc : CK w w') (h0 : L0 → L0') (hes : ∀ en ∈ es.toList, en ∈ es'.toList) : kd.Holds K L0' r es' e' w' := by
  cases kd with
  | mk d => simp only [Kd.Holds] at *; rw [hd d rfl]; exact h
  | key d ks => simp only [Kd.Holds] at *; rw [hd d rfl]; exact h
  | fn d D => simp only [Kd.Holds] at *; rw [hd d rfl]; exact hK _ _ _ _ h hc
  | ins ks D => obtain ⟨h1, en, h2, h3⟩ := h; exact ⟨h0 h1, en, hes en h2, h3⟩
  | mv d => obtain ⟨h1, h2⟩ := h; exact ⟨h0 h1, by rw [hd d rfl]; exact h2⟩
/-- One that yields a value. -/
theorem LIr.step (hK : ∀ D v w w', K D v w → CK w w' → K D v w') {T : List (Kd α)} {W0 : World} {L : Array Bool} {e : Env} {w w' : World} {r clock : Nat} {es : Array MapEntry} (h : LIr K T W0 L e w r es clock) (hT : apart T = true) {i : Nat} {kd : Kd α} {d : Tmp} {v : Value} (hi : T[i]? = some kd) (hd : kd.dst = some d) (h0 : 0 < i)
    (he : Ext w w') (hv : kd.Holds K (L.getD 0 false = true) r es (put e d v) w') : LI K T W0 (L.setIfInBounds i true) (put e d v) w' := by
  have hil : i < T.length := (List.getElem?_eq_some_iff.1 hi).1
  have e0 : (L.setIfInBounds i true).getD 0 false = L.getD 0 false := Go.getD_set_ne false (by omega)
  refine ⟨r, es, clock, by simp [h.size], h.ext.trans he, by rw [put_ne _ _ _ _ (apart_mark hT hi hd).symm]; exact h.mark, ?_, ?_, ?_⟩
  · intro j kd' hj hl
    rw [e0]
    by_cases hji : j = i
    · subst hji
      rw [hi] at hj; cases hj
      exact hv
    · have hl' := (getF_set L i j hl).resolve_left hji
      refine (h.holds j kd' hj hl').keep hK (fun d' hd' => put_ne _ _ _ _ (apart_dst hT hj hi hji hd' hd)) (CK.of he) id (fun _ h => h)
  · rw [e0]
    intro hl
    obtain ⟨h1, h2⟩ := h.map hl
    exact ⟨h1, ext_heap h2 he⟩
  · intro en hen
    obtain ⟨j, ks, D, h1, h2, h3, h4⟩ := h.ents en hen
    exact ⟨j, ks, D, h1, setF _ _ _ h2, h3, hK _ _ _ _ h4 (CK.of he)⟩
/-- The map itself is made. -/
theorem LIr.make (hK : ∀ D v w w', K D v w → CK w w' → K D v w') {T : List (Kd α)} {W0 : World} {L : Array Bool} {e : Env} {w : World} {r clock : Nat} {es : Array MapEntry} (h : LIr K T W0 L e w r es clock) (hT : apart T = true) {d : Tmp} (hi : T[0]? = some (.mk d)) (hone : ∀ j d', T[j]? = some (.mk d') → j = 0) (hl : L.getD 0 false = false) :
    LI K T W0 (L.setIfInBounds 0 true) (put e d (.map (some w.heap.size))) (w.alloc (.map #[] 0)) := by
  have h0l : 0 < T.length := (List.getElem?_eq_some_iff.1 hi).1
  have hE : Ext w (w.alloc (.map #[] 0)) := Ext.alloc _ _
  refine ⟨w.heap.size, #[], 0, by simp [h.size], h.ext.trans hE, by rw [put_ne _ _ _ _ (apart_mark hT hi rfl).symm]; exact h.mark, ?_, ?_, ?_⟩
  · intro j kd hj hlj
    by_cases hj0 : j = 0
    · subst hj0
      rw [hi] at hj; cases hj
      exact put_same _ _ _
    · have hl' := (getF_set L 0 j hlj).resolve_left hj0
      have hh := h.holds j kd hj hl'
      cases kd with
      | mk d' => exact absurd (hone j d' hj) hj0
      | key d' ks =>
        show put e d _ d' = _
        rw [put_ne _ _ _ _ (apart_dst hT hj hi hj0 rfl rfl)]; exact hh
      | fn d' D =>
        show K D (put e d _ d') _
        rw [put_ne _ _ _ _ (apart_dst hT hj hi hj0 rfl rfl)]; exact hK _ _ _ _ hh (CK.of hE)
      | ins ks D => have := hh.1; rw [hl] at this; cases this
      | mv d' => have := hh.1; rw [hl] at this; cases this
  · intro _
    exact ⟨h.ext.size, heap_alloc_new w _⟩
  · intro en hen; cases hen
/-- An entry comes. -/
theorem LIr.insert (hK : ∀ D v w w', K D v w → CK w w' → K D v w') {T : List (Kd α)} {W0 : World} {L : Array Bool} {e : Env} {w : World} {r clock clock' : Nat} {es : Array MapEntry} (h : LIr K T W0 L e w r es clock) (hT : apart T = true) {i : Nat} {ks : List Int} {D : α} (hi : T[i]? = some (.ins ks D)) (h0 : 0 < i) (hl0 : L.getD 0 false = true) {en : MapEntry} (hek : en.key = .agg (vi ks)) (hev : K D en.val w) :
    LI K T W0 (L.setIfInBounds i true) e (w.putObj r (.map (es.push en) clock')) := by
  have hil : i < T.length := (List.getElem?_eq_some_iff.1 hi).1
  have e0 : (L.setIfInBounds i true).getD 0 false = L.getD 0 false := Go.getD_set_ne false (by omega)
  obtain ⟨hr, hm⟩ := h.map hl0
  have hC : CK w (w.putObj r (.map (es.push en) clock')) := CK.putMap hm _
  have hX : Ext W0 (w.putObj r (.map (es.push en) clock')) := by
    refine Below.trans h.ext ⟨rfl, rfl, rfl, by simp [World.putObj], fun g (hg : g < W0.heap.size) => ?_⟩
    simp only [World.putObj, Array.getElem?_setIfInBounds]
    have hgr : ¬ r = g := by intro q; subst q; exact absurd hg (by omega)
    rw [if_neg hgr]
  refine ⟨r, es.push en, clock', by simp [h.size], hX, h.mark, ?_, ?_, ?_⟩
  · intro j kd hj hlj
    rw [e0]
    by_cases hji : j = i
    · subst hji
      rw [hi] at hj; cases hj
      exact ⟨hl0, en, by simp, hek⟩
    · have hl' := (getF_set L i j hlj).resolve_left hji
      exact (h.holds j kd hj hl').keep hK (fun _ _ => rfl) hC id (fun x hx => by simp [Array.toList_push, hx])
  · intro _
    refine ⟨hr, ?_⟩
    have : r < w.heap.size := heap_lt hm
    simp [World.putObj, this]
  · intro x hx
    rw [Array.toList_push, List.mem_append] at hx
    rcases hx with hx | hx
    · obtain ⟨j, ks', D', h1, h2, h3, h4⟩ := h.ents x hx
      exact ⟨j, ks', D', h1, setF _ _ _ h2, h3, hK _ _ _ _ h4 hC⟩
    · simp at hx; subst hx
      exact ⟨i, ks, D, hi, getF_same _ _ (by rw [h.size]; exact hil), hek, hK _ _ _ _ hev hC⟩
end

section
variable {α : Type} {K : α → Value → World → Prop} {P : Program} {n : Nat} {N : Env → World → Prop} {X : Exit → Env → World → Prop} {ops : Array Oper} {T : List (Kd α)} {W0 : World}
/-- Operation i, whenever it comes up. -/
def QK (K : α → Value → World → Prop) (P : Program) (n : Nat) (N : Env → World → Prop) (X : Exit → Env → World → Prop) (ops : Array Oper) (T : List (Kd α)) (W0 : World) (i : Nat) : Prop :=
  ∀ L e w, LI K T W0 L e w → i ∈ Region.ready .any ops L → ∀ fuel, (∀ e' w', LI K T W0 (L.setIfInBounds i true) e' w' → WA P n ops N X anyW fuel (L.setIfInBounds i true) e' w') → WO P n ops N X anyW fuel L i e w
def depOn (ops : Array Oper) (i j : Nat) : Bool := match ops[i]? with
  | some o => o.after.toList.any fun e => Region.binds .any e && Nat.beq e.on j
  | none => false
theorem ready_dep {L : Array Bool} {i j : Nat} (h : i ∈ Region.ready .any ops L) (hj : depOn ops i j = true) : L.getD j false = true := by
  obtain ⟨_, o, ho, hall⟩ := mem_ready.1 h
  unfold depOn at hj
  rw [ho] at hj
  simp only [List.any_eq_true, Bool.and_eq_true] at hj
  obtain ⟨e, he, hb, ho'⟩ := hj
  have := hall e (by simpa using he) hb
  rwa [Nat.eq_of_beq_eq_true ho'] at this
theorem ready_no {L : Array Bool} {i : Nat} (h : i ∈ Region.ready .any ops L) (hs : i < L.size) : L.getD i false = false := by
  have := (mem_ready.1 h).1
  simp only [Array.getD_eq_getD_getElem?, Array.getElem?_eq_getElem hs, Option.getD_some] at this ⊢
  exact this
/-- Edges lead back: when nothing is ready, all have come up. -/
def edgesBack (ops : Array Oper) : Bool := (List.range ops.size).all fun i => match ops[i]? with
  | some o => o.after.toList.all fun e => !Region.binds .any e || Nat.blt e.on i
  | none => false
theorem all_listed {L : Array Bool} (hs : L.size = ops.size) (hb : edgesBack ops = true) (hr : Region.ready .any ops L = []) : ∀ i, i < ops.size → L.getD i false = true := by
  intro i
  induction i using Nat.strongRecOn with
  | ind i ih =>
    intro hi
    have h1 := List.all_eq_true.1 hb i (List.mem_range.2 hi)
    rw [Array.getElem?_eq_getElem hi] at h1
    simp only [List.all_eq_true, Array.mem_toList_iff, Bool.or_eq_true, Bool.not_eq_true', Nat.blt_eq] at h1
    cases hl : L.getD i false with
    | true => rfl
    | false =>
      have : i ∈ Region.ready .any ops L := mem_ready.2 ⟨by
        have hiL : i < L.size := by omega
        simp only [Array.getD_eq_getD_getElem?, Array.getElem?_eq_getElem hiL, Option.getD_some] at hl ⊢
        exact hl, ops[i], Array.getElem?_eq_getElem hi, fun e he hbn => ih e.on (by
          rcases h1 e he with h | h
          · rw [hbn] at h; cases h
          · exact h) (by
          rcases h1 e he with h | h
          · rw [hbn] at h; cases h
          · omega)⟩
      rw [hr] at this; cases this
variable {i : Nat} {x : Op} {t : TypeId} {pos : String} {af : Array Edge} {d : Tmp}
theorem q_key (hK : ∀ D v w w', K D v w → CK w w' → K D v w') (hT : apart T = true) {ks : List Int} (hi : T[i]? = some (.key d ks)) (ho : ops[i]? = some ⟨some d, x, t, pos, af, none⟩) (hd : dOk n (some d) = true) (h0 : Nat.blt 0 i = true)
    (hr : ∀ e w, (execOp (ev e) ⟨some d, x, t, pos, af, none⟩).run P w = .ok (.value (.agg (vi ks))) w) : QK K P n N X ops T W0 i := by
  intro L e w ⟨r, es, clock, h⟩ hi' fuel hn
  exact O_val ho hd (hr e w) trivial (hn _ _ (h.step hK hT hi rfl (by simpa using h0) (Ext.refl _) (put_same _ _ _)))
theorem q_call (hK : ∀ D v w w', K D v w → CK w w' → K D v w') (hT : apart T = true) {D : α} (hi : T[i]? = some (.fn d D)) (ho : ops[i]? = some ⟨some d, x, t, pos, af, none⟩) (hd : dOk n (some d) = true) (h0 : Nat.blt 0 i = true)
    (hr : ∀ L e w, LI K T W0 L e w → i ∈ Region.ready .any ops L → ∃ f args, (execOp (ev e) ⟨some d, x, t, pos, af, none⟩).run P w = .ok (.enter f args) w ∧ Calls P f args w (fun en w' => ∃ v, en = .returned v ∧ K D v w' ∧ Ext w w')) : QK K P n N X ops T W0 i := by
  intro L e w hL hi' fuel hn
  obtain ⟨f, args, h1, h2⟩ := hr L e w hL hi'
  obtain ⟨r, es, clock, h⟩ := hL
  refine O_call ho hd h1 h2 fun v w' ⟨hv, he⟩ => ⟨trivial, hn _ _ (h.step hK hT hi rfl (by simpa using h0) he ?_)⟩
  show K D (put e d v d) w'
  rw [put_same]; exact hv
theorem q_make (hK : ∀ D v w w', K D v w → CK w w' → K D v w') (hT : apart T = true) {mt : TypeId} (hi : T[0]? = some (.mk d)) (hone : ((List.range T.length).all fun j => Nat.beq j 0 || !(Kd.isMk T[j]?)) = true) (ho : ops[0]? = some ⟨some d, .makeMap mt none, t, pos, af, none⟩) (hd : dOk n (some d) = true) : QK K P n N X ops T W0 0 := by
  intro L e w ⟨r, es, clock, h⟩ hi' fuel hn
  have h0l : 0 < L.size := by rw [h.size]; exact (List.getElem?_eq_some_iff.1 hi).1
  refine O_val ho hd r_makeMap trivial (hn _ _ (h.make hK hT hi (fun j d' hj => ?_) (ready_no hi' h0l)))
  have hjl : j < T.length := (List.getElem?_eq_some_iff.1 hj).1
  have := List.all_eq_true.1 hone j (List.mem_range.2 hjl)
  rw [hj] at this
  simpa [beq_eq, Kd.isMk] using this
theorem q_mv (hK : ∀ D v w w', K D v w → CK w w' → K D v w') (hT : apart T = true) {j : Nat} {d' : Tmp} (hi : T[i]? = some (.mv d)) (hj : T[j]? = some (.mk d') ∨ T[j]? = some (.mv d')) (ho : ops[i]? = some ⟨some d, x, t, pos, af, none⟩) (hd : dOk n (some d) = true) (h0 : Nat.blt 0 i = true)
    (hj0 : depOn ops i j = true) (h00 : depOn ops i 0 = true ∨ T[j]? = some (.mv d'))
    (hr : ∀ e w r, e d' = .map (some r) → (execOp (ev e) ⟨some d, x, t, pos, af, none⟩).run P w = .ok (.value (.map (some r))) w) : QK K P n N X ops T W0 i := by
  intro L e w ⟨r, es, clock, h⟩ hi' fuel hn
  have hl := ready_dep hi' hj0
  have hv : L.getD 0 false = true ∧ e d' = .map (some r) := by
    rcases hj with hj | hj
    · have := h.holds j _ hj hl
      rcases h00 with h00 | h00
      · exact ⟨ready_dep hi' h00, this⟩
      · rw [hj] at h00; cases h00
    · exact h.holds j _ hj hl
  refine O_val ho hd (hr e w r hv.2) trivial (hn _ _ (h.step hK hT hi rfl (by simpa using h0) (Ext.refl _) ⟨hv.1, put_same _ _ _⟩))
/-- An entry: its key has come, its value too. -/
theorem q_ins (hK : ∀ D v w w', K D v w → CK w w' → K D v w') (hT : apart T = true) {ks : List Int} {D : α} {m : Nat} {mt kt et : TypeId} {mx ky : Tmp} {vo : Operand} {kj : Nat} (hi : T[i]? = some (.ins ks D)) (ho : ops[i]? = some ⟨none, .insert mt (.tmp mx) (.tmp ky) vo, t, pos, af, none⟩) (h0 : Nat.blt 0 i = true)
    (h00 : T[0]? = some (.mk mx)) (hkk : T[kj]? = some (.key ky ks)) (hd0 : depOn ops i 0 = true) (hdk : depOn ops i kj = true)
    (hu : P.underlying mt = some (.map kt et)) (hk : intsOf P kt = some m) (hlen : ((List.range T.length).all fun j => Kd.len m T[j]?) = true)
    (hv : ∀ L e w, LI K T W0 L e w → i ∈ Region.ready .any ops L → K D (ev e vo) w) : QK K P n N X ops T W0 i := by
  intro L e w hL hi' fuel hn
  have hval := hv L e w hL hi'
  obtain ⟨r, es, clock, h⟩ := hL
  have hl0 := ready_dep hi' hd0
  have hlk := ready_dep hi' hdk
  have hil : i < T.length := (List.getElem?_eq_some_iff.1 hi).1
  have hno := ready_no hi' (by rw [h.size]; exact hil)
  have hlen' : ∀ (j : Nat) (k' : List Int) (D' : α), T[j]? = some (Kd.ins k' D') → k'.length = m := fun j k' D' hj => by
    have hjl : j < T.length := (List.getElem?_eq_some_iff.1 hj).1
    have := List.all_eq_true.1 hlen j (List.mem_range.2 hjl)
    rw [hj] at this
    exact Nat.eq_of_beq_eq_true this
  obtain ⟨_, hm⟩ := h.map hl0
  have hxm : e mx = .map (some r) := h.holds 0 _ h00 hl0
  have hxk : e ky = .agg (vi ks) := h.holds kj _ hkk hlk
  have m1 := apart_mark hT h00 rfl
  have m2 := apart_mark hT hkk rfl
  have ev1 : ev e (.tmp mx) = .map (some r) := by
    show (bif Nat.beq mx slotM then undef else e mx) = _
    rw [beq_eq, decide_eq_false m1]; exact hxm
  have ev2 : ev e (.tmp ky) = .agg (vi ks) := by
    show (bif Nat.beq ky slotM then undef else e ky) = _
    rw [beq_eq, decide_eq_false m2]; exact hxk
  refine O_unit ho (r_insert ev1 ev2 rfl hu hk (hlen' i _ _ hi) hm ?_ ?_) trivial (hn _ _ (h.insert (clock' := clock + 1) hK hT hi (by simpa using h0) hl0 (en := { key := .agg (vi ks), val := ev e vo, born := clock }) rfl hval))
  · intro en hen
    obtain ⟨j, ks', D', h1, h2, h3, h4⟩ := h.ents en hen
    exact ⟨ks', hlen' _ _ _ h1, h3⟩
  · intro en hen hq
    obtain ⟨j, ks', D', h1, h2, h3, h4⟩ := h.ents en hen
    rw [h3] at hq
    have hne : j ≠ i := by rintro rfl; rw [hno] at h2; cases h2
    exact apart_key hT h1 hi hne (vi_inj hq)
/-- What K tells of a function's value that has come. -/
theorem LI.fn {L : Array Bool} {e : Env} {w : World} (h : LI K T W0 L e w) {j : Nat} {D : α} (hT : apart T = true) (hj : T[j]? = some (.fn d D)) (hi : i ∈ Region.ready .any ops L) (hd : depOn ops i j = true) : K D (ev e (.tmp d)) w := by
  obtain ⟨r, es, clock, h⟩ := h
  have := h.holds j _ hj (ready_dep hi hd)
  have m1 := apart_mark hT hj rfl
  show K D (bif Nat.beq d slotM then undef else e d) w
  rw [beq_eq, decide_eq_false m1]; exact this
/-- What comes of the whole. -/
def LitDone (K : α → Value → World → Prop) (T : List (Kd α)) (W0 : World) (v : Value) (w : World) : Prop :=
  ∃ r es clock, v = .map (some r) ∧ w.heap[r]? = some (.map es clock) ∧ (∀ en ∈ es.toList, ∃ (i : Nat) (ks : List Int) (D : α), T[i]? = some (Kd.ins ks D) ∧ en.key = .agg (vi ks) ∧ K D en.val w) ∧ (∀ (i : Nat) (ks : List Int) (D : α), T[i]? = some (Kd.ins ks D) → ∃ en ∈ es.toList, en.key = .agg (vi ks))
def AllAt (Q : Nat → Prop) : Nat → Nat → Prop
  | _, 0 => True
  | k, c + 1 => Q k ∧ AllAt Q (Nat.succ k) c
theorem AllAt.get {Q : Nat → Prop} : ∀ {k c : Nat}, AllAt Q k c → ∀ i, k ≤ i → i < k + c → Q i
  | k, 0, _, i, h1, h2 => by omega
  | k, c + 1, h, i, h1, h2 => by
    by_cases hi : i = k
    · subst hi; exact h.1
    · exact h.2.get i (by simp; omega) (by simp; omega)
theorem W_lit {id : Nat} {l : List Oper} {k : Nat} {e : Env} {w : World} {d : Tmp} {q : Nat} (hm : P.follows .mixedOrders = true) (hk : l.toArray.size = k) (hTl : T.length = k) (hb : edgesBack l.toArray = true) (hq : T[q]? = some (.mv d)) (hmk : e slotM = undef)
    (hQ : AllAt (QK K P n N X l.toArray T w) 0 k)
    (hN : ∀ e' w', e' slotM = undef → Ext w w' → LitDone K T w (e' d) w' → N e' w') : W P n (.region id l.toArray true) N X e w := by
  refine W_draw anyW hm hk (A_inv (LI K T w) (fun L e' w' i hL hi fuel hn => ?_) (fun L e' w' hL hr => ?_) k _ _ _ ⟨0, #[], 0, by simp [hTl], ext_drawn w, hmk, ?_, ?_, ?_⟩ ?_)
  · exact hQ.get i (Nat.zero_le _) (by have := lt_ready hi; omega) L e' w' hL hi fuel hn
  · obtain ⟨r, es, clock, h⟩ := hL
    have hall := all_listed (by rw [h.size, hTl, hk]) hb hr
    have hll : ∀ j kd, T[j]? = some kd → L.getD j false = true := fun j kd hj => hall j (by
      have hjl : j < T.length := (List.getElem?_eq_some_iff.1 hj).1
      omega)
    obtain ⟨hl0, hed⟩ := h.holds q _ hq (hll q _ hq)
    refine hN e' w' h.mark h.ext ⟨r, es, clock, hed, (h.map hl0).2, fun en hen => ?_, fun i ks D hi => ?_⟩
    · obtain ⟨j, ks, D, h1, h2, h3, h4⟩ := h.ents en hen
      exact ⟨j, ks, D, h1, h3, h4⟩
    · exact (h.holds i _ hi (hll i _ hi)).2
  · intro j kd hj hl
    simp [Array.getD_eq_getD_getElem?, Array.getElem?_replicate] at hl
    split at hl <;> simp at hl
  · intro hl
    simp [Array.getD_eq_getD_getElem?, Array.getElem?_replicate] at hl
    split at hl <;> simp at hl
  · intro en hen; cases hen
  · rw [hk]; unfold unl; exact Nat.le_trans List.countP_le_length (by simp)
/-- What a key leads to. -/
def Kd.find (T : List (Kd α)) (xs : List Int) : Option α := match T with
  | [] => none
  | .ins ks D :: T => if ks = xs then some D else Kd.find T xs
  | _ :: T => Kd.find T xs
theorem find_some {xs : List Int} {D : α} : ∀ {T : List (Kd α)}, Kd.find T xs = some D → ∃ i : Nat, T[i]? = some (Kd.ins xs D)
  | [], h => by cases h
  | .ins ks D' :: T, h => by
    unfold Kd.find at h
    split at h
    · rename_i hq; cases h; subst hq; exact ⟨0, rfl⟩
    · obtain ⟨i, hi⟩ := find_some h; exact ⟨i + 1, by simpa using hi⟩
  | .mk _ :: T, h => by obtain ⟨i, hi⟩ := find_some (T := T) h; exact ⟨i + 1, by simpa using hi⟩
  | .key _ _ :: T, h => by obtain ⟨i, hi⟩ := find_some (T := T) h; exact ⟨i + 1, by simpa using hi⟩
  | .fn _ _ :: T, h => by obtain ⟨i, hi⟩ := find_some (T := T) h; exact ⟨i + 1, by simpa using hi⟩
  | .mv _ :: T, h => by obtain ⟨i, hi⟩ := find_some (T := T) h; exact ⟨i + 1, by simpa using hi⟩
theorem find_none {xs : List Int} : ∀ {T : List (Kd α)}, Kd.find T xs = none → ∀ (i : Nat) (D : α), T[i]? ≠ some (Kd.ins xs D)
  | [], _, i, D => by simp
  | .ins ks D' :: T, h, i, D => by
    unfold Kd.find at h
    split at h
    · cases h
    · rename_i hq
      cases i with
      | zero => intro q; simp at q; exact hq q.1
      | succ i => simpa using find_none h i D
  | .mk _ :: T, h, i, D => by cases i with | zero => simp | succ i => simpa using find_none (T := T) h i D
  | .key _ _ :: T, h, i, D => by cases i with | zero => simp | succ i => simpa using find_none (T := T) h i D
  | .fn _ _ :: T, h, i, D => by cases i with | zero => simp | succ i => simpa using find_none (T := T) h i D
  | .mv _ :: T, h, i, D => by cases i with | zero => simp | succ i => simpa using find_none (T := T) h i D
theorem lit_look (hT : apart T = true) {m : Nat} (hlen : ((List.range T.length).all fun j => Kd.len m T[j]?) = true) {v : Value} {w : World} (h : LitDone K T W0 v w) {mt kt et : TypeId} {zv : Value} (hu : P.underlying mt = some (.map kt et)) (hk : intsOf P kt = some m) (hzv : (P.info? et).bind (·.zero) = some zv) (xs : List Int) (hl : xs.length = m) :
    ∃ val, (∀ D, Kd.find T xs = some D → K D val w) ∧ ∀ {ρ : Operand → Value} {d : Option Tmp} {t : TypeId} {pos : String} {af : Array Edge} {g : Option (Nat × Bool)} {x y : Operand}, ρ x = v → ρ y = .agg (vi xs) →
      (execOp ρ ⟨d, .lookup mt x y true, t, pos, af, g⟩).run P w = .ok (.value (.tuple #[val, .bool (Kd.find T xs).isSome])) w := by
  obtain ⟨r, es, clock, rfl, hm, hall, hex⟩ := h
  have hlen' : ∀ (j : Nat) (k' : List Int) (D' : α), T[j]? = some (Kd.ins k' D') → k'.length = m := fun j k' D' hj => by
    have hjl : j < T.length := (List.getElem?_eq_some_iff.1 hj).1
    have := List.all_eq_true.1 hlen j (List.mem_range.2 hjl)
    rw [hj] at this
    exact Nat.eq_of_beq_eq_true this
  have hkeys : ∀ e ∈ es.toList, ∃ l : List Int, l.length = m ∧ e.key = .agg (vi l) := fun e he => by
    obtain ⟨i, ks, D, h1, h2, h3⟩ := hall e he
    exact ⟨ks, hlen' _ _ _ h1, h2⟩
  have hg : (getObj r).run P w = .ok (.map es clock) w := by simp [getObj, Sem.run, hm]
  have hc := run_checkKey_ints (P := P) (w := w) hk hl es.isEmpty
  cases hf : Kd.find T xs with
  | none =>
    have hno : ∀ e ∈ es.toList, e.key ≠ .agg (vi xs) := fun e he hq => by
      obtain ⟨i, ks, D, h1, h2, h3⟩ := hall e he
      rw [h2] at hq
      have := vi_inj hq
      subst this
      exact find_none hf i D h1
    refine ⟨zv, (fun D q => by cases q), ?_⟩
    intro ρ d t pos af g x y hx hy
    exact r_lookup_none hx hy hu hk hl hzv hm hkeys hno
  | some D =>
    obtain ⟨i, hi⟩ := find_some hf
    obtain ⟨en, hen, hek⟩ := hex i xs D hi
    obtain ⟨j, e', hj1, hj2, hj3⟩ : ∃ j e', (Instr.findKey kt (.agg (vi xs)) es.toList).run P w = .ok (some (j, e'.val)) w ∧ e' ∈ es.toList ∧ e'.key = .agg (vi xs) := by
      rcases run_findKey_ints (P := P) (w := w) hk hl es.toList hkeys with ⟨_, h1⟩ | h1
      · exact absurd hek (h1 en hen)
      · exact h1
    refine ⟨e'.val, (fun D' q => ?_), ?_⟩
    · cases q
      obtain ⟨i', ks, D2, h1, h2, h3⟩ := hall e' hj2
      rw [h2] at hj3
      have := vi_inj hj3
      subst this
      by_cases hii : i' = i
      · subst hii; rw [hi] at h1; cases h1; exact h3
      · exact absurd rfl (apart_key hT h1 hi hii)
    · intro ρ d t pos af g x y hx hy
      have hmm : (Instr.lookup mt (.map (some r)) (.agg (vi xs)) true).run P w = .ok (.tuple #[e'.val, .bool true]) w := by
        unfold Instr.lookup
        simp only [Sem.run_bind, run_underlying hu, Result.andThen_ok, hg, hc, hj1, Sem.run_pure, if_true]
      simp [execOp, hx, hy, hmm]
end
end Go.Eng

