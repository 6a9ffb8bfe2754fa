/-
  The engine: regions that draw their order and make blocks beside calls: a block that is made may have been made earlier. Generic: no program.
-/
import Derived.Test.YtmedmajdoecjfaaDoorSlice
namespace Go.Eng
set_option linter.unusedVariables false
set_option linter.unusedSimpArgs false
open Go.RowKit

/-- A block that is to be made: operation i puts mk b into slot d, and lays o at b. -/
structure Pd where
  i : Nat
  d : Tmp
  val : Nat → Value
  o : Obj

/-- How the run may stand: of those that are to be made some may be made already. -/
def Real : List Pd → Env → Array Bool → World → Env → Array Bool → Prop
  | [], e, L, _, eR, LR => eR = e ∧ LR = L
  | p :: ps, e, L, w, eR, LR => Real ps e L w eR LR ∨ ∃ b, w.heap[b]? = some p.o ∧ Real ps (put e p.d (p.val b)) (L.setIfInBounds p.i true) w eR LR

def unl (k : Nat) (L : Array Bool) : Nat := (List.range k).countP fun i => !L.getD i true

theorem getD_set (L : Array Bool) (i j : Nat) : (L.setIfInBounds i true).getD j true = if i = j then true else L.getD j true := by
  simp only [Array.getD_eq_getD_getElem?, Array.getElem?_setIfInBounds]
  by_cases h : i = j
  · subst h
    by_cases hlt : i < L.size <;> simp [hlt]
  · simp [h]
theorem countP_lt_of (l : List Nat) (f g : Nat → Bool) (i : Nat) (hi : i ∈ l) (hn : l.Nodup) (h1 : f i = true) (h2 : g i = false) (h3 : ∀ j, j ≠ i → g j = f j) : l.countP g + 1 = l.countP f := by
  induction l with
  | nil => cases hi
  | cons x l ih =>
    rw [List.countP_cons, List.countP_cons]
    rw [List.nodup_cons] at hn
    rcases List.mem_cons.1 hi with rfl | hi
    · rw [h1, h2]
      have : l.countP g = l.countP f := List.countP_congr (fun y hy => by rw [h3 y (fun e => hn.1 (e ▸ hy))])
      simp [this]
    · rw [h3 x (fun e => hn.1 (e ▸ hi)), ← ih hi hn.2]
      omega
theorem unl_set {k i : Nat} {L : Array Bool} (hi : i < k) (h : L.getD i true = false) : unl k (L.setIfInBounds i true) + 1 = unl k L := by
  unfold unl
  refine countP_lt_of _ _ _ i (by simpa using hi) List.nodup_range (by rw [h]; rfl) (by rw [getD_set, if_pos rfl]; rfl) ?_
  intro j hj
  rw [getD_set, if_neg (fun e => hj e.symm)]
theorem unl_pos {k i : Nat} {L : Array Bool} (hi : i < k) (h : L.getD i true = false) : 0 < unl k L := by have := unl_set hi h; omega

theorem put_comm (e : Env) {c d : Nat} (h : c ≠ d) (u v : Value) : put (put e c u) d v = put (put e d v) c u := by
  funext i
  by_cases h1 : i = d
  · subst h1; rw [put_same, put_ne _ _ _ _ (fun q => h q.symm), put_same]
  · rw [put_ne _ _ _ _ h1]
    by_cases h2 : i = c
    · subst h2; rw [put_same, put_same]
    · rw [put_ne _ _ _ _ h2, put_ne _ _ _ _ h2, put_ne _ _ _ _ h1]
theorem set_comm (L : Array Bool) (i j : Nat) : (L.setIfInBounds i true).setIfInBounds j true = (L.setIfInBounds j true).setIfInBounds i true := by
  by_cases h : i = j
  · subst h; rfl
  · exact Array.setIfInBounds_comm _ _ h

theorem Real.world {w w' : World} (h : Ext w w') : ∀ {ps : List Pd} {e : Env} {L : Array Bool} {eR : Env} {LR : Array Bool}, Real ps e L w eR LR → Real ps e L w' eR LR
  | [], _, _, _, _, hr => hr
  | p :: ps, e, L, eR, LR, hr => hr.imp (fun h1 => Real.world h h1) (fun ⟨b, hb, h1⟩ => ⟨b, ext_heap hb h, Real.world h h1⟩)
theorem Real.env {w : World} : ∀ {ps : List Pd} {e : Env} {L : Array Bool} {eR : Env} {LR : Array Bool}, Real ps e L w eR LR → ∀ t, (∀ p ∈ ps, p.d ≠ t) → eR t = e t
  | [], _, _, _, _, ⟨rfl, rfl⟩, _, _ => rfl
  | p :: ps, e, L, eR, LR, hr, t, ht => by
    rcases hr with h1 | ⟨b, _, h1⟩
    · exact h1.env t (fun q hq => ht q (List.mem_cons_of_mem _ hq))
    · rw [h1.env t (fun q hq => ht q (List.mem_cons_of_mem _ hq)), put_ne _ _ _ _ (fun q => ht p (List.mem_cons_self ..) q.symm)]
theorem Real.lst {w : World} : ∀ {ps : List Pd} {e : Env} {L : Array Bool} {eR : Env} {LR : Array Bool}, Real ps e L w eR LR → ∀ i, (∀ p ∈ ps, p.i ≠ i) → LR.getD i true = L.getD i true
  | [], _, _, _, _, ⟨rfl, rfl⟩, _, _ => rfl
  | p :: ps, e, L, eR, LR, hr, i, hi => by
    rcases hr with h1 | ⟨b, _, h1⟩
    · exact h1.lst i (fun q hq => hi q (List.mem_cons_of_mem _ hq))
    · rw [h1.lst i (fun q hq => hi q (List.mem_cons_of_mem _ hq)), getD_set, if_neg (hi p (List.mem_cons_self ..))]
theorem Real.up {w : World} : ∀ {ps : List Pd} {e : Env} {L : Array Bool} {eR : Env} {LR : Array Bool}, Real ps e L w eR LR → ∀ i, L.getD i true = true → LR.getD i true = true
  | [], _, _, _, _, ⟨rfl, rfl⟩, _, h => h
  | p :: ps, e, L, eR, LR, hr, i, hi => by
    rcases hr with h1 | ⟨b, _, h1⟩
    · exact h1.up i hi
    · refine h1.up i ?_
      rw [getD_set]
      split
      · rfl
      · exact hi
def setAll (L : Array Bool) : List Pd → Array Bool
  | [] => L
  | p :: ps => setAll (L.setIfInBounds p.i true) ps
theorem setAll_up : ∀ (ps : List Pd) (L : Array Bool) (i : Nat), L.getD i true = true → (setAll L ps).getD i true = true
  | [], _, _, h => h
  | p :: ps, L, i, h => setAll_up ps _ i (by
      rw [getD_set]
      split
      · rfl
      · exact h)
theorem setAll_mono : ∀ (ps : List Pd) (L L' : Array Bool), (∀ i, L.getD i true = true → L'.getD i true = true) → ∀ i, (setAll L ps).getD i true = true → (setAll L' ps).getD i true = true
  | [], _, _, h => h
  | p :: ps, L, L', h => setAll_mono ps _ _ (fun i hi => by
      rw [getD_set] at hi ⊢
      split
      · rfl
      · rename_i hne; rw [if_neg hne] at hi; exact h i hi)
theorem setAll_mem : ∀ (ps : List Pd) (L : Array Bool) (p : Pd), p ∈ ps → (setAll L ps).getD p.i true = true
  | q :: ps, L, p, h => by
    rcases List.mem_cons.1 h with rfl | h
    · exact setAll_up ps _ _ (by rw [getD_set, if_pos rfl])
    · exact setAll_mem ps _ p h
theorem setAll_not : ∀ (ps : List Pd) (L : Array Bool) (i : Nat), (∀ p ∈ ps, p.i ≠ i) → (setAll L ps).getD i true = L.getD i true
  | [], _, _, _ => rfl
  | p :: ps, L, i, h => by rw [setAll, setAll_not ps _ i (fun q hq => h q (List.mem_cons_of_mem _ hq)), getD_set, if_neg (h p (List.mem_cons_self ..))]
theorem Real.all {w : World} : ∀ {ps : List Pd} {e : Env} {L : Array Bool} {eR : Env} {LR : Array Bool}, Real ps e L w eR LR → ∀ i, LR.getD i true = true → (setAll L ps).getD i true = true
  | [], _, _, _, _, ⟨rfl, rfl⟩, _, h => h
  | p :: ps, e, L, eR, LR, hr, i, hi => by
    rcases hr with h1 | ⟨b, _, h1⟩
    · exact setAll_mono ps _ _ (fun j hj => by
        rw [getD_set]
        split
        · rfl
        · exact hj) i (h1.all i hi)
    · exact h1.all i hi
/-- One more that is there. -/
theorem Real.put {w : World} {d : Tmp} {v : Value} {i : Nat} : ∀ {ps : List Pd} {e : Env} {L : Array Bool} {eR : Env} {LR : Array Bool}, Real ps e L w eR LR → (∀ p ∈ ps, p.d ≠ d) → Real ps (put e d v) (L.setIfInBounds i true) w (Eng.put eR d v) (LR.setIfInBounds i true)
  | [], _, _, _, _, ⟨rfl, rfl⟩, _ => ⟨rfl, rfl⟩
  | p :: ps, e, L, eR, LR, hr, hd => by
    rcases hr with h1 | ⟨b, hb, h1⟩
    · exact Or.inl (h1.put (fun q hq => hd q (List.mem_cons_of_mem _ hq)))
    · refine Or.inr ⟨b, hb, ?_⟩
      have := h1.put (d := d) (v := v) (i := i) (fun q hq => hd q (List.mem_cons_of_mem _ hq))
      rwa [put_comm _ (hd p (List.mem_cons_self ..)), set_comm] at this
theorem Real.putO {w : World} {d : Option Tmp} {v : Value} {i : Nat} {ps : List Pd} {e : Env} {L : Array Bool} {eR : Env} {LR : Array Bool} (h : Real ps e L w eR LR) (hd : ∀ p ∈ ps, some p.d ≠ d) : Real ps (Eng.putO e d v) (L.setIfInBounds i true) w (Eng.putO eR d v) (LR.setIfInBounds i true) := by
  cases d with
  | some d => exact h.put (fun p hp q => hd p hp (by rw [q]))
  | none =>
    simp only [Eng.putO]
    clear hd
    induction ps generalizing e L with
    | nil => obtain ⟨rfl, rfl⟩ := h; exact ⟨rfl, rfl⟩
    | cons p ps ih =>
      rcases h with h1 | ⟨b, hb, h1⟩
      · exact Or.inl (ih h1)
      · refine Or.inr ⟨b, hb, ?_⟩
        have := ih h1
        rwa [set_comm] at this
/-- One of those that are to be made is made. -/
theorem Real.flip {w : World} {p : Pd} {b : Nat} (hb : w.heap[b]? = some p.o) : ∀ {ps : List Pd} {e : Env} {L : Array Bool} {eR : Env} {LR : Array Bool}, Real ps e L w eR LR → p ∈ ps → (ps.map (·.d)).Nodup → L.getD p.i true = false → LR.getD p.i true = false →
    Real ps e L w (Eng.put eR p.d (p.val b)) (LR.setIfInBounds p.i true)
  | q :: ps, e, L, eR, LR, hr, hp, hn, hL, hf => by
    simp only [List.map_cons, List.nodup_cons] at hn
    rcases List.mem_cons.1 hp with rfl | hp'
    · rcases hr with h1 | ⟨b', _, h1⟩
      · exact Or.inr ⟨b, hb, h1.put (fun q hq hqd => hn.1 (List.mem_map.2 ⟨q, hq, hqd⟩))⟩
      · have := h1.up p.i (by rw [getD_set, if_pos rfl])
        rw [this] at hf; cases hf
    · rcases hr with h1 | ⟨b', hb', h1⟩
      · exact Or.inl (h1.flip hb hp' hn.2 hL hf)
      · by_cases hqi : q.i = p.i
        · have := h1.up p.i (by rw [getD_set, if_pos hqi])
          rw [this] at hf; cases hf
        · exact Or.inr ⟨b', hb', h1.flip hb hp' hn.2 (by rw [getD_set, if_neg hqi]; exact hL) hf⟩

section
variable {P : Program} {n : Nat} {ops : Array Oper} {N : Env → World → Prop} {X : Exit → Env → World → Prop} {w₀ : World}

def Lazy (P : Program) (n : Nat) (ops : Array Oper) (N : Env → World → Prop) (X : Exit → Env → World → Prop) (w₀ : World) (ps : List Pd) (L : Array Bool) (e : Env) (w : World) : Prop :=
  ∀ (k : Nat) (wR : World) (eR : Env) (LR : Array Bool), Ext w wR → Real ps e L wR eR LR → unl ops.size LR ≤ k → WA P n ops N X (Ext w₀) k LR eR wR

theorem W_lazy {id : Nat} {l : List Oper} {k : Nat} {w : World} {e : Env} (hm : P.follows .mixedOrders = true) (hk : l.toArray.size = k) (h0 : Ext w₀ w)
    (h : ∀ w', Ext w w' → Ext w₀ w' → Lazy P n l.toArray N X w₀ [] (Array.replicate k false) e w') : W P n (.region id l.toArray true) N X e w := by
  refine W_draw (Ext w₀) hm hk ?_
  refine h _ (ext_drawn w) (h0.trans (ext_drawn w)) k _ _ _ (Ext.refl _) ⟨rfl, rfl⟩ ?_
  rw [hk]
  unfold unl
  exact Nat.le_trans List.countP_le_length (by simp)

variable {ps : List Pd} {L : Array Bool} {e : Env} {w : World}
theorem L_done (hr : Region.ready .any ops L = []) (h : ∀ w', Ext w w' → N e w') : Lazy P n ops N X w₀ [] L e w := by
  rintro k wR eR LR hE ⟨rfl, rfl⟩ _
  exact A_done hr (h _ hE)
/-- A block is told to be made, some time. -/
theorem L_new (p : Pd) (h : Lazy P n ops N X w₀ (p :: ps) L e w) : Lazy P n ops N X w₀ ps L e w :=
  fun k wR eR LR hE hR hk => h k wR eR LR hE (Or.inl hR) hk
theorem Real.swap {p q : Pd} (hd : p.d ≠ q.d) {eR : Env} {LR : Array Bool} {wR : World} (h : Real (q :: p :: ps) e L wR eR LR) : Real (p :: q :: ps) e L wR eR LR := by
  rcases h with (h1 | ⟨b, hb, h1⟩) | ⟨b, hb, h1 | ⟨b', hb', h1⟩⟩
  · exact Or.inl (Or.inl h1)
  · exact Or.inr ⟨b, hb, Or.inl h1⟩
  · exact Or.inl (Or.inr ⟨b, hb, h1⟩)
  · refine Or.inr ⟨b', hb', Or.inr ⟨b, hb, ?_⟩⟩
    rwa [put_comm _ hd, set_comm]
theorem L_swap {p q : Pd} (hd : Nat.beq p.d q.d = false) (h : Lazy P n ops N X w₀ (p :: q :: ps) L e w) : Lazy P n ops N X w₀ (q :: p :: ps) L e w :=
  fun k wR eR LR hE hR hk => h k wR eR LR hE (hR.swap (by rintro q; rw [q] at hd; simp at hd)) hk

/-- An operation's temporaries are none of those that are to be filled. -/
def avoids (ops : Array Oper) (ps : List Pd) (i : Nat) : Bool :=
  match ops[i]? with
  | some o => ps.all fun p => !(o.looksAt ops).contains p.d && o.dst != some p.d
  | none => false
theorem avoids_spec {i : Nat} {o : Oper} (ho : ops[i]? = some o) (h : avoids ops ps i = true) : ∀ p ∈ ps, p.d ∉ o.looksAt ops ∧ some p.d ≠ o.dst := by
  unfold avoids at h
  rw [ho] at h
  intro p hp
  have := List.all_eq_true.1 h p hp
  simp only [Bool.and_eq_true, Bool.not_eq_true', List.contains_eq_mem, decide_eq_false_iff_not, bne_iff_ne] at this
  exact ⟨this.1, fun q => this.2 q.symm⟩
theorem ev_congr {eR : Env} {o : Oper} (h : ∀ t ∈ o.looksAt ops, eR t = e t) (hs : ∀ cs b, o.op ≠ .select cs b) : execOp (ev eR) o = execOp (ev e) o := by
  refine execOp_congr o hs ?_
  intro x hx
  cases x with
  | tmp t =>
    have := h t (List.mem_append_left _ (List.mem_filterMap.2 ⟨.tmp t, by simpa using hx, rfl⟩))
    simp only [ev, this]
  | _ => rfl
theorem Real.looks {eR : Env} {LR : Array Bool} {wR : World} {i : Nat} {o : Oper} (h : Real ps e L wR eR LR) (ho : ops[i]? = some o) (ha : avoids ops ps i = true) : ∀ t ∈ o.looksAt ops, eR t = e t :=
  fun t ht => h.env t (fun p hp q => (avoids_spec ho ha p hp).1 (q ▸ ht))
theorem setF (L : Array Bool) (i j : Nat) (h : L.getD j false = true) : (L.setIfInBounds i true).getD j false = true := by
  simp only [Array.getD_eq_getD_getElem?, Array.getElem?_setIfInBounds] at h ⊢
  by_cases hij : i = j
  · subst hij
    by_cases hlt : i < L.size
    · simp [hlt]
    · simp [hlt] at h
  · simpa [hij] using h
theorem Real.upF {w : World} : ∀ {ps : List Pd} {e : Env} {L : Array Bool} {eR : Env} {LR : Array Bool}, Real ps e L w eR LR → ∀ i, L.getD i false = true → LR.getD i false = true
  | [], _, _, _, _, ⟨rfl, rfl⟩, _, h => h
  | p :: ps, e, L, eR, LR, hr, i, hi => by
    rcases hr with h1 | ⟨b, _, h1⟩
    · exact h1.upF i hi
    · exact h1.upF i (setF _ _ _ hi)
theorem setAll_monoF : ∀ (ps : List Pd) (L L' : Array Bool), L.size = L'.size → (∀ i, L.getD i false = true → L'.getD i false = true) → ∀ i, (setAll L ps).getD i false = true → (setAll L' ps).getD i false = true
  | [], _, _, _, h => h
  | p :: ps, L, L', hs, h => setAll_monoF ps _ _ (by simp [hs]) (fun i hi => by
      simp only [Array.getD_eq_getD_getElem?, Array.getElem?_setIfInBounds] at hi h ⊢
      by_cases hij : p.i = i
      · subst hij
        by_cases hlt : p.i < L.size
        · simp [← hs, hlt]
        · simp [hlt] at hi
      · simp only [hij, if_false] at hi ⊢; exact h i hi)
theorem Real.size {w : World} : ∀ {ps : List Pd} {e : Env} {L : Array Bool} {eR : Env} {LR : Array Bool}, Real ps e L w eR LR → LR.size = L.size
  | [], _, _, _, _, ⟨_, rfl⟩ => rfl
  | p :: ps, e, L, eR, LR, hr => by
    rcases hr with h1 | ⟨b, _, h1⟩
    · exact h1.size
    · rw [h1.size]; simp
theorem Real.allF {w : World} : ∀ {ps : List Pd} {e : Env} {L : Array Bool} {eR : Env} {LR : Array Bool}, Real ps e L w eR LR → ∀ i, LR.getD i false = true → (setAll L ps).getD i false = true
  | [], _, _, _, _, ⟨_, rfl⟩, _, h => h
  | p :: ps, e, L, eR, LR, hr, i, hi => by
    rcases hr with h1 | ⟨b, _, h1⟩
    · exact setAll_monoF ps _ _ (by simp) (fun j hj => setF _ _ _ hj) i (h1.allF i hi)
    · exact h1.allF i hi
theorem ready_of {L LR : Array Bool} {i : Nat} (hup : ∀ j, L.getD j false = true → LR.getD j false = true) (hi : LR.getD i true = false) (h : (Region.ready .any ops L).contains i = true) : i ∈ Region.ready .any ops LR := by
  have h' : i ∈ Region.ready .any ops L := by simpa using h
  obtain ⟨_, o, ho, hall⟩ := mem_ready.1 h'
  exact mem_ready.2 ⟨hi, o, ho, fun e he hb => hup _ (hall e he hb)⟩
theorem lt_of_ready {L : Array Bool} {i : Nat} (h : i ∈ Region.ready .any ops L) : i < ops.size := by
  obtain ⟨_, o, ho, _⟩ := mem_ready.1 h
  exact (Array.getElem?_eq_some_iff.1 ho).1
theorem free_mono {L LR : Array Bool} {i : Nat} (hup : ∀ j, L.getD j true = true → LR.getD j true = true) (h : Region.free .any ops L i = true) : Region.free .any ops LR i = true := by
  unfold Region.free at *
  cases ho : ops[i]? with
  | none => rw [ho] at h; exact h
  | some o =>
    rw [ho] at h
    simp only at h ⊢
    rw [List.all_eq_true] at h ⊢
    intro j hj
    have := h j hj
    simp only [Bool.or_eq_true] at this ⊢
    rcases this with (h1 | h1) | h1
    · exact Or.inl (Or.inl h1)
    · exact Or.inl (Or.inr (hup j h1))
    · exact Or.inr h1

/-- What is the same in whatever world is taken first. -/
theorem L_take {i : Nat} {d : Option Tmp} {x : Op} {t : TypeId} {pos : String} {af : Array Edge} {v : Value}
    (hi : ops[i]? = some ⟨d, x, t, pos, af, none⟩) (hs : Region.noSelect ops = true) (hf : Region.free .any ops L i = true) (hr : (Region.ready .any ops L).contains i = true) (ha : avoids ops ps i = true) (hni : ps.all (fun p => !Nat.beq p.i i) = true)
    (hd : dOk n d = true) (h0 : Ext w₀ w) (hy : ∀ w', Ext w₀ w' → (execOp (ev e) ⟨d, x, t, pos, af, none⟩).run P w' = .ok (.value v) w')
    (h : Lazy P n ops N X w₀ ps (L.setIfInBounds i true) (putO e d v) w) : Lazy P n ops N X w₀ ps L e w := by
  intro k wR eR LR hE hR hk
  have hLi : LR.getD i true = false := by
    rw [hR.lst i (fun p hp q => by have := List.all_eq_true.1 hni p hp; rw [q] at this; simp at this)]
    exact (mem_ready.1 (by simpa using hr)).1
  have hlt := lt_of_ready (ops := ops) (L := L) (i := i) (by simpa using hr)
  obtain ⟨k, rfl⟩ : ∃ m, k = m + 1 := ⟨k - 1, by have := unl_pos hlt hLi; omega⟩
  have hcong := ev_congr (ops := ops) (hR.looks hi ha) (Region.noSelect_spec hs i _ · · hi)
  refine A_take hi hs (free_mono hR.up hf) (by simpa using ready_of hR.upF hLi hr) hd (h0.trans hE) (v := v) (fun w' hw' => by rw [hcong]; exact hy w' hw') ?_
  refine h k wR _ _ hE (hR.putO (fun p hp => (avoids_spec hi ha p hp).2)) ?_
  have := unl_set hlt hLi
  omega
/-- What a block that is to be made wants. -/
def PdOk (P : Program) (n : Nat) (ops : Array Oper) (w₀ : World) (L : Array Bool) (e : Env) (ps : List Pd) (p : Pd) : Prop :=
  (∃ x t pos af, ops[p.i]? = some ⟨some p.d, x, t, pos, af, none⟩ ∧ ∀ w', Ext w₀ w' → (execOp (ev e) ⟨some p.d, x, t, pos, af, none⟩).run P w' = .ok (.value (p.val w'.heap.size)) (w'.alloc p.o)) ∧ dOk n (some p.d) = true ∧
  ((Region.ready .any ops L).contains p.i = true ∧ ps.all (fun q => match ops[p.i]? with | some o => !(o.looksAt ops).contains q.d | none => false) = true)
theorem PdOk.mk' {p : Pd} {x : Op} {t : TypeId} {pos : String} {af : Array Edge} (ho : ops[p.i]? = some ⟨some p.d, x, t, pos, af, none⟩) (hrun : ∀ w', Ext w₀ w' → (execOp (ev e) ⟨some p.d, x, t, pos, af, none⟩).run P w' = .ok (.value (p.val w'.heap.size)) (w'.alloc p.o))
    (hd : dOk n (some p.d) = true) (hr : (Region.ready .any ops L).contains p.i = true) (ha : ps.all (fun q => match ops[p.i]? with | some o => !(o.looksAt ops).contains q.d | none => false) = true) : PdOk P n ops w₀ L e ps p :=
  ⟨⟨x, t, pos, af, ho, hrun⟩, hd, hr, ha⟩

def nodup : List Nat → Bool
  | [] => true
  | x :: l => !(mem x l) && nodup l
theorem nodup_iff : ∀ {l : List Nat}, nodup l = true → l.Nodup
  | [], _ => List.nodup_nil
  | x :: l, h => by
    simp only [nodup, Bool.and_eq_true, Bool.not_eq_true'] at h
    exact List.nodup_cons.2 ⟨fun hm => by rw [mem_iff.2 hm] at h; exact absurd h.1 (by simp), nodup_iff h.2⟩

/-- Operation j is the only one that may come up beside those that are to be made; 'need': it wants the first of them. -/
theorem L_force {j : Nat} (hs : Region.noSelect ops = true) (hr : Region.ready .any ops (setAll L ps) = [j]) (hok : ∀ p ∈ ps, PdOk P n ops w₀ L e ps p) (hnd : nodup (ps.map (·.d)) = true) (h0 : Ext w₀ w)
    (h : ∀ (k : Nat) (wR : World) (eR : Env) (LR : Array Bool), Ext w wR → Real ps e L wR eR LR → j ∈ Region.ready .any ops LR → unl ops.size LR ≤ k + 1 → WO P n ops N X (Ext w₀) k LR j eR wR) : Lazy P n ops N X w₀ ps L e w := by
  have hj : j ∈ Region.ready .any ops (setAll L ps) := by rw [hr]; simp
  have hjl := (mem_ready.1 hj).1
  have hjlt := lt_of_ready hj
  intro k
  induction k with
  | zero =>
    intro wR eR LR hE hR hk
    have : LR.getD j true = false := by
      cases hc : LR.getD j true with
      | false => rfl
      | true => rw [hR.all j hc] at hjl; cases hjl
    have := unl_pos hjlt this
    omega
  | succ k ih =>
    intro wR eR LR hE hR hk ro a ha
    have hjR : LR.getD j true = false := by
      cases hc : LR.getD j true with
      | false => rfl
      | true => rw [hR.all j hc] at hjl; cases hjl
    refine ⟨fun hnil => ?_, fun i hi => ?_⟩
    · -- something may come up
      exfalso
      by_cases hex : ∃ p ∈ ps, LR.getD p.i true = false
      · obtain ⟨p, hp, hpf⟩ := hex
        have hm := ready_of (ops := ops) hR.upF hpf (hok p hp).2.2.1
        rw [hnil] at hm
        cases hm
      · have hm : j ∈ Region.ready .any ops LR := by
          obtain ⟨_, o, ho, hall⟩ := mem_ready.1 hj
          refine mem_ready.2 ⟨hjR, o, ho, fun e' he hb => ?_⟩
          have h1 := hall e' he hb
          by_cases hpe : ∃ p ∈ ps, p.i = e'.on
          · obtain ⟨p, hp, hpi⟩ := hpe
            have h2 : LR.getD p.i true = true := by
              cases hc : LR.getD p.i true with
              | true => rfl
              | false => exact absurd ⟨p, hp, hc⟩ hex
            have hlt : p.i < LR.size := by
              rw [hR.size]
              have h3 := (mem_ready.1 (by simpa using (hok p hp).2.2.1)).1
              rcases Nat.lt_or_ge p.i L.size with h' | h'
              · exact h'
              · simp [Array.getElem?_eq_none h'] at h3
            rw [← hpi]
            simp only [Array.getD_eq_getD_getElem?, Array.getElem?_eq_getElem hlt] at h2 ⊢
            exact h2
          · have hpe' : ∀ p ∈ ps, p.i ≠ e'.on := fun p hp q => hpe ⟨p, hp, q⟩
            have h2 : ∀ (ps : List Pd) (L : Array Bool), (∀ p ∈ ps, p.i ≠ e'.on) → (setAll L ps).getD e'.on false = true → L.getD e'.on false = true := by
              intro ps
              induction ps with
              | nil => intro L _ h; exact h
              | cons p ps ih2 =>
                intro L hps h
                have := ih2 _ (fun q hq => hps q (List.mem_cons_of_mem _ hq)) h
                simp only [Array.getD_eq_getD_getElem?, Array.getElem?_setIfInBounds, if_neg (hps p (List.mem_cons_self ..))] at this ⊢
                exact this
            exact hR.upF _ (h2 ps L hpe' h1)
        rw [hnil] at hm
        cases hm
    · by_cases hip : ∃ p ∈ ps, p.i = i
      · -- one of those that are to be made
        obtain ⟨p, hp, rfl⟩ := hip
        obtain ⟨⟨x, t, pos, af, ho, hrun⟩, hd, hpr, hpa⟩ := hok p hp
        have hpf : LR.getD p.i true = false := (mem_ready.1 hi).1
        have hcong : execOp (ev eR) ⟨some p.d, x, t, pos, af, none⟩ = execOp (ev e) ⟨some p.d, x, t, pos, af, none⟩ :=
          ev_congr (ops := ops) (fun t' ht => hR.env t' (fun q hq hqd => by
            have := List.all_eq_true.1 hpa q hq
            rw [ho] at this
            simp only [Bool.not_eq_true', List.contains_eq_mem, decide_eq_false_iff_not] at this
            exact this (hqd ▸ ht))) (Region.noSelect_spec hs p.i _ · · ho)
        have hE2 : Ext w (wR.alloc p.o) := hE.of_alloc _
        have := O_val (P := P) (n := n) (N := N) (X := X) (S := Ext w₀) (fuel := k) (listed := LR) (e := eR) (w := wR) ho hd (by rw [hcong]; exact hrun wR (h0.trans hE)) (h0.trans hE2)
          (ih (wR.alloc p.o) _ _ hE2 ((hR.world (Ext.alloc wR p.o)).flip (heap_alloc_new wR p.o) hp (nodup_iff hnd) (mem_ready.1 (by simpa using hpr)).1 hpf) (by have := unl_set (lt_of_ready hi) hpf; omega))
        exact this ro a ha
      · -- the other one
        have hij : i = j := by
          have hm : i ∈ Region.ready .any ops (setAll L ps) := by
            obtain ⟨h1, o, ho, hall⟩ := mem_ready.1 hi
            refine mem_ready.2 ⟨?_, o, ho, fun e' he hb => hR.allF _ (hall e' he hb)⟩
            rw [setAll_not ps L i (fun p hp q => hip ⟨p, hp, q⟩), ← hR.lst i (fun p hp q => hip ⟨p, hp, q⟩)]
            exact h1
          rw [hr] at hm
          simpa using hm
        subst hij
        exact h k wR eR LR hE hR hi hk ro a ha
theorem Ext.out {w wR : World} (h : Ext w wR) : Ext w wR := h

section steps
variable {j : Nat} {d : Option Tmp} {x : Op} {t : TypeId} {pos : String} {af : Array Edge} {f : FuncId} {R : World → Value → World → Prop}
/-- A call that wants none of the blocks that are to be made. -/
theorem L_call {args : Array Value} (hi : ops[j]? = some ⟨d, x, t, pos, af, none⟩) (hs : Region.noSelect ops = true) (hr : Region.ready .any ops (setAll L ps) = [j]) (hok : ∀ p ∈ ps, PdOk P n ops w₀ L e ps p) (hnd : nodup (ps.map (·.d)) = true)
    (ha : avoids ops ps j = true) (h0 : Ext w₀ w) (hd : dOk n d = true)
    (hrun : ∀ w', (execOp (ev e) ⟨d, x, t, pos, af, none⟩).run P w' = .ok (.enter f args) w')
    (hc : ∀ w', Ext w w' → Calls P f args w' (fun en w'' => ∃ v, en = .returned v ∧ R w' v w''))
    (h : ∀ v w' w'', Ext w w' → R w' v w'' → Ext w' w'' ∧ Lazy P n ops N X w₀ ps (L.setIfInBounds j true) (putO e d v) w'') : Lazy P n ops N X w₀ ps L e w := by
  refine L_force hs hr hok hnd h0 ?_
  intro k wR eR LR hE hR hj hk
  have hcong := ev_congr (ops := ops) (hR.looks hi ha) (Region.noSelect_spec hs j _ · · hi)
  refine O_call hi hd (by rw [hcong]; exact hrun wR) (hc wR hE) ?_
  intro v w'' hRv
  obtain ⟨h1, h2⟩ := h v wR w'' hE hRv
  refine ⟨(h0.trans hE).trans h1, ?_⟩
  refine h2 k w'' _ _ (Ext.refl _) ((hR.world h1).putO (fun p hp => (avoids_spec hi ha p hp).2)) ?_
  have := unl_set (lt_of_ready hj) (mem_ready.1 hj).1
  omega
/-- A call that wants the first of them. -/
theorem L_call1 {pi pt : Nat} {pv : Nat → Value} {po : Obj} {args : Nat → Array Value} (hi : ops[j]? = some ⟨d, x, t, pos, af, none⟩) (hs : Region.noSelect ops = true) (hr : Region.ready .any ops (setAll L (⟨pi, pt, pv, po⟩ :: ps)) = [j]) (hok : ∀ q ∈ ⟨pi, pt, pv, po⟩ :: ps, PdOk P n ops w₀ L e (⟨pi, pt, pv, po⟩ :: ps) q) (hnd : nodup ((⟨pi, pt, pv, po⟩ :: ps).map (·.d)) = true)
    (hneed : (af.any fun q => Region.binds .any q && Nat.beq q.on pi) = true) (hLp : L.getD pi true = false) (ha : avoids ops ps j = true) (hpd : d ≠ some pt) (h0 : Ext w₀ w) (hd : dOk n d = true) (hni : ps.all (fun q => !Nat.beq q.i pi) = true)
    (hrun : ∀ b w', (execOp (ev (put e pt (pv b))) ⟨d, x, t, pos, af, none⟩).run P w' = .ok (.enter f (args b)) w')
    (hc : ∀ b w', Ext w w' → w'.heap[b]? = some po → Calls P f (args b) w' (fun en w'' => ∃ v, en = .returned v ∧ R w' v w''))
    (h : ∀ b v w' w'', Ext w w' → w'.heap[b]? = some po → R w' v w'' → Ext w' w'' ∧ Lazy P n ops N X w₀ ps ((L.setIfInBounds pi true).setIfInBounds j true) (putO (put e pt (pv b)) d v) w'') : Lazy P n ops N X w₀ (⟨pi, pt, pv, po⟩ :: ps) L e w := by
  refine L_force hs hr hok hnd h0 ?_
  intro k wR eR LR hE hR hj hk
  rcases hR with h1 | ⟨b, hb, h1⟩
  · exfalso
    obtain ⟨_, o, ho, hall⟩ := mem_ready.1 hj
    rw [hi] at ho
    obtain rfl := Option.some.inj ho
    obtain ⟨q, hq, hqq⟩ := Array.any_eq_true.1 hneed
    simp only [Bool.and_eq_true] at hqq
    have h3 := hall _ (Array.getElem_mem hq) hqq.1
    rw [Nat.eq_of_beq_eq_true hqq.2] at h3
    have h4 : LR.getD pi true = false := by
      rw [h1.lst pi (fun r hr' e => by have := List.all_eq_true.1 hni r hr'; rw [e] at this; simp at this)]
      exact hLp
    simp only [Array.getD_eq_getD_getElem?] at h3 h4
    cases hc : LR[pi]? with
    | none => rw [hc] at h3; cases h3
    | some z => rw [hc] at h3 h4; simp at h3 h4; rw [h3] at h4; cases h4
  · have hcong := ev_congr (ops := ops) (h1.looks hi ha) (Region.noSelect_spec hs j _ · · hi)
    refine O_call hi hd (by rw [hcong]; exact hrun b wR) (hc b wR hE hb) ?_
    intro v w'' hRv
    obtain ⟨h2, h3⟩ := h b v wR w'' hE hb hRv
    refine ⟨(h0.trans hE).trans h2, ?_⟩
    refine h3 k w'' _ _ (Ext.refl _) ((h1.world h2).putO (fun q hq => (avoids_spec hi ha q hq).2)) ?_
    have := unl_set (lt_of_ready hj) (mem_ready.1 hj).1
    omega
end steps
theorem wpAnyHI_more {ro : Option Nat} {Q : Exit → Act → World → Prop} {S : World → Prop} : ∀ (k : Nat) (L : Array Bool) (a : Act) (w : World), wpAnyHI ro P .any ops Q S k L a w → wpAnyHI ro P .any ops Q S (k + 1) L a w
  | 0, L, a, w, h => ⟨fun _ => h.2, by rw [h.1]; simp⟩
  | k + 1, L, a, w, h => ⟨h.1, fun i hi => wpOpIn_mono (fun a' w' h' => ⟨h'.1, wpAnyHI_more k _ a' w' h'.2⟩) (h.2 i hi)⟩
theorem WA_more {S : World → Prop} {k : Nat} {L : Array Bool} {e : Env} {w : World} (h : WA P n ops N X S k L e w) : ∀ m, k ≤ m → WA P n ops N X S m L e w := by
  intro m hm
  induction m with
  | zero => obtain rfl : k = 0 := by omega
            exact h
  | succ m ih =>
    by_cases hk : k = m + 1
    · subst hk; exact h
    · exact fun ro a ha => wpAnyHI_more m L a w (ih (by omega) ro a ha)
/-- Nothing is to be made any more. -/
theorem L_exit {k : Nat} (hk : unl ops.size L = k) (h : ∀ w', Ext w w' → WA P n ops N X (Ext w₀) k L e w') : Lazy P n ops N X w₀ [] L e w := by
  rintro m wR eR LR hE ⟨rfl, rfl⟩ hm
  exact WA_more (h wR hE) m (by omega)
end
section
variable {P : Program} {n : Nat} {N : Env → World → Prop} {X : Exit → Env → World → Prop} {e : Env} {w : World} {ops : Array Oper} {rest : List Oper} {d : Option Tmp} {t : TypeId} {pos : String} {af : Array Edge} {x : Op} {j : Nat} {want : Bool} {dj : Tmp} {b : Bool}
theorem op_newSG {m : Nat} {c : Array Value} {ty : TypeId} (hj : (ops[j]?).bind (·.dst) = some dj) (hjn : Nat.blt dj n = true) (hb : e dj = .bool b) (hd : dOk n d = true) (he : (b == want) = true)
    (hr : (execOp (ev e) ⟨d, x, t, pos, af, some (j, want)⟩).run P w = .ok (.value (.slice (some ⟨w.heap.size, 0, none⟩) m m)) (w.alloc (.cells c ty)))
    (h : ∀ w' b, Ext w w' → Blk w' b c ty → w.heap.size = b → WL P n ops N X rest (putO e d (.slice (some ⟨b, 0, none⟩) m m)) w') : WL P n ops N X (⟨d, x, t, pos, af, some (j, want)⟩ :: rest) e w :=
  opG_yes hj hjn hb hd he hr (h _ _ (Ext.alloc _ _) (Blk.new _ _ _) rfl)
end
end Go.Eng
