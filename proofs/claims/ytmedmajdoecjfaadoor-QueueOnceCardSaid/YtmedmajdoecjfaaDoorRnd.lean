/-
  The engine: loops over functions: what the one that is ranged over promises, and the loop's rule. Generic: no program.
-/
import Derived.Test.YtmedmajdoecjfaaDoorLazy
namespace Go.Eng
set_option linter.unusedVariables false
set_option linter.unusedSimpArgs false
open Go.RowKit

/-- There may be more blocks; of those from B on that are no cells some may be other ones. -/
structure Turn (B : Nat) (w w' : World) : Prop where
  os : w'.os = w.os
  tape : w'.tape = w.tape
  output : w'.output = w.output
  size : w.heap.size ≤ w'.heap.size
  block : ∀ k, k < w.heap.size → (k < B ∨ ∃ c t fr, w.heap[k]? = some (.cells c t fr)) → w'.heap[k]? = w.heap[k]?
theorem Turn.of_ext {B : Nat} {w w' : World} (h : Ext w w') : Turn B w w' := ⟨h.os, h.tape, h.output, h.size, fun k hk _ => h.block k hk⟩
theorem Turn.refl {B : Nat} {w : World} : Turn B w w := .of_ext (Ext.refl w)
theorem Turn.trans {B : Nat} {a b c : World} (h : Turn B a b) (k : Turn B b c) : Turn B a c :=
  ⟨k.os.trans h.os, k.tape.trans h.tape, k.output.trans h.output, Nat.le_trans h.size k.size, fun i hi hc => by
    have h1 := h.block i hi hc
    rw [k.block i (Nat.lt_of_lt_of_le hi h.size) (hc.imp id (fun ⟨c, t, fr, q⟩ => ⟨c, t, fr, h1.trans q⟩)), h1]⟩
theorem Turn.putObj {B l : Nat} {w : World} {o : Obj} (o' : Obj) (hl : B ≤ l) (ho : w.heap[l]? = some o) (hc : o.isCells = false) : Turn B w (w.putObj l o') :=
  ⟨rfl, rfl, rfl, by simp, fun k hk hkc => World.putObj_heap_other (by
    rintro rfl
    rcases hkc with h | ⟨c, t, fr, h⟩
    · omega
    · rw [ho] at h; cases h; cases hc)⟩
theorem Turn.ext {B : Nat} {a w w' : World} (h : Ext a w) (hB : a.heap.size ≤ B) (ht : Turn B w w') : Ext a w' :=
  Below.trans h ⟨ht.os, ht.tape, ht.output, ht.size, fun k hk => ht.block k (Nat.lt_of_lt_of_le hk h.size) (Or.inl (by omega))⟩
theorem Turn.blk {B g : Nat} {w w' : World} {c : Array Value} {t : TypeId} (h : Blk w g c t) (ht : Turn B w w') : Blk w' g c t := by
  unfold Blk at *
  rw [ht.block g (heap_lt h) (Or.inr ⟨_, _, _, h⟩)]
  exact h
theorem Turn.heap {B g : Nat} {w w' : World} {c : Array Value} {t : TypeId} {fr : Nat × Nat} (h : w.heap[g]? = some (.cells c t fr)) (ht : Turn B w w') : w'.heap[g]? = some (.cells c t fr) := by
  rw [ht.block g (heap_lt h) (Or.inr ⟨_, _, _, h⟩)]
  exact h
theorem Turn.same {B : Nat} {w w' : World} {F : Nat → Prop} (ht : Turn B w w') (hF : ∀ b, F b → b < w.heap.size ∧ (b < B ∨ ∃ c t fr, w.heap[b]? = some (.cells c t fr))) : Same F w w' := fun b hb => ht.block b (hF b hb).1 (hF b hb).2
theorem Turn.own {α : Type} {T : Ty α} {B B' : Nat} {w w' : World} {F : Nat → Prop} {e : TypeId} {v : Value} {l : List α} (h : Own T w F B' e v l) (ht : Turn B w w') (hs : Same F w w') : Own T w' F B' e v l := by
  refine h.keep hs (fun _ h => h) fun g hg => ?_
  rcases h with ⟨rfl, _⟩ | ⟨g', cap, c, xs, rfl, h1, h2, _⟩
  · simp [Value.ownBlock] at hg
  · simp [Value.ownBlock] at hg; subst hg
    exact ht.block _ (Blk.lt h2) (Or.inr ⟨_, _, _, h2⟩)

/-- What is no cells, from B on, is as it was. -/
structure Nc (B : Nat) (w w' : World) : Prop where
  size : w.heap.size ≤ w'.heap.size
  same : ∀ (k : Nat) (o : Obj), B ≤ k → w.heap[k]? = some o → o.isCells = false → w'.heap[k]? = some o
theorem Nc.of_ext {B : Nat} {w w' : World} (h : Ext w w') : Nc B w w' := ⟨h.size, fun k o _ ho _ => ext_heap ho h⟩
theorem Nc.trans {B : Nat} {a b c : World} (h : Nc B a b) (k : Nc B b c) : Nc B a c := ⟨Nat.le_trans h.size k.size, fun i o hB hi ho => k.same i o hB (h.same i o hB hi ho) ho⟩
theorem Nc.of_chg {B b : Nat} {w w' : World} {c : Array Value} {t : TypeId} (h : Chg b w w') (hb : Blk w b c t) : Nc B w w' :=
  ⟨h.size, fun k o _ ho hc => chg_heap ho h (by rintro rfl; unfold Blk at hb; rw [hb] at ho; cases ho; cases hc)⟩
theorem Nc.of_gro {B : Nat} {α : Type} {T : Ty α} {F : Nat → Prop} {B' : Nat} {e : TypeId} {v : Value} {l : List α} {w w' : World} (h : Gro v.ownBlock w w') (ho : Own T w F B' e v l) : Nc B w w' :=
  ⟨h.size, fun k o _ hk hc => by
    rw [h.block k (heap_lt hk) ?_]; exact hk
    intro hv
    rcases ho with ⟨rfl, _⟩ | ⟨g', cap, c, xs, rfl, h1, h2, _⟩
    · simp [Value.ownBlock] at hv
    · simp [Value.ownBlock] at hv; subst hv
      unfold Blk at h2; rw [h2] at hk; cases hk; cases hc⟩

/-- WHAT A FUNCTION THAT IS RANGED OVER PROMISES: for each loop, whatever the loop holds to (J) when it goes on, and (Jx) when it has left. Pr tells what is so of what has come. -/
def Iter {α : Type} (P : Program) (g : Nat) (lb : Array Value) (encs : α → Array Value) (Kp : World → World → Prop) (Pr : List α → World → Prop) (S Sp : List α → Prop) (w : World) : Prop :=
  ∀ (l : Nat) (J Jx : List α → World → Prop) (W : World), Ext w W → (∀ s A B, J s A → Ext A B → J s B) → (∀ s A B, Jx s A → Ext A B → Jx s B) →
    (∀ pre x W1, J pre W1 → Pr (pre ++ [x]) W1 → YieldAt (fen none) 0 P l (encs x) W1 fun e W' =>
      (e = .returned (.bool true) ∧ J (pre ++ [x]) W' ∧ Kp W1 W') ∨ (e = .returned (.bool false) ∧ Jx (pre ++ [x]) W')) →
    J [] W → Calls P g (#[.func (.yield l) #[] #[]] ++ lb) W fun e W' => (∃ v, e = .returned v) ∧ ((∃ xs, S xs ∧ Pr xs W' ∧ J xs W') ∨ (∃ pre, Sp pre ∧ Jx pre W'))

def putL : Env → List (Nat × Value) → Env
  | e, [] => e
  | e, (d, v) :: l => putL (put e d v) l
theorem putL_out {i : Nat} : ∀ (l : List (Nat × Value)) (e : Env), (∀ q ∈ l, q.1 ≠ i) → putL e l i = e i
  | [], _, _ => rfl
  | (d, v) :: l, e, h => by
    rw [putL, putL_out l _ (fun q hq => h q (List.mem_cons_of_mem _ hq)), put_ne _ _ _ _ (fun hh => h (d, v) (List.mem_cons_self ..) hh.symm)]
theorem rel_setL {n : Nat} : ∀ (l : List (Nat × Value)) (e : Env) (t : Array Value), t.size = n → (∀ q ∈ l, q.1 < n) → (∀ i, i ≠ slotM → t.getD i undef = e i) →
    (l.foldl (fun t q => t.setIfInBounds q.1 q.2) t).size = n ∧ ∀ i, i ≠ slotM → (l.foldl (fun t q => t.setIfInBounds q.1 q.2) t).getD i undef = putL e l i
  | [], _, _, hs, _, h => ⟨hs, h⟩
  | (d, v) :: l, e, t, hs, hl, h => by
    refine rel_setL l (put e d v) (t.setIfInBounds d v) (by simpa using hs) (fun q hq => hl q (List.mem_cons_of_mem _ hq)) ?_
    intro i hi
    have hd : d < t.size := by rw [hs]; exact hl (d, v) (List.mem_cons_self ..)
    by_cases hid : i = d
    · subst hid
      simp [put_same, Array.getD_eq_getD_getElem?, hd]
    · have hne : ¬ d = i := fun q => hid q.symm
      rw [put_ne _ _ _ _ hid, ← h i hi]
      simp [Array.getD_eq_getD_getElem?, hne]
/-- The frame's own slot may be read anew. -/
theorem Rel.slot {ro ro' : Option Nat} {n : Nat} {e e' : Env} {a : Act} (h : Rel ro n e a) (he : ∀ i, i ≠ slotM → e' i = e i) (hd : marks (e' slotM) = a.defers) (hr : roOf (e' slotM) = ro') : Rel ro' n e' a :=
  ⟨h.size, h.lt, fun i hi => by rw [he i hi]; exact h.get i hi, hd.symm, hr⟩

def jump (B : Nat) (w : World) (Ix : Code → World → Prop) : Exit → Env → World → Prop
  | .ret, _, w' => Nc B w w' ∧ Ix .ret w'
  | .exit id, _, w' => Nc B w w' ∧ Ix (.exit id) w'
  | .goto t, _, w' => Nc B w w' ∧ Ix (.goto t) w'
  | _, _, _ => False

section
variable {P : Program} {n : Nat} {N : Env → World → Prop} {X : Exit → Env → World → Prop} {e : Env} {w : World}
theorem W_rangeFunc {α : Type} {g : Operand} {ps : Array Tmp} {assign body : Code} {gf : Nat} {lb : Array Value} {encs : α → Array Value} {Kp : World → World → Prop} {Pr : List α → World → Prop} {S Sp : List α → Prop} {w0 : World}
    (hm : e slotM = undef) (hg : ev e g = .func (.func gf) #[] lb) (eg : ∀ args w, (callFunc gf args).run P w = .ok (.enter gf args) w)
    (hseq : Iter P gf lb encs Kp Pr S Sp w0) (hb0 : Ext w0 w) (hps : ∀ x, (encs x).size = ps.size) (zs : α → List (Nat × Value)) (hz : ∀ x, (ps.zip (encs x)).toList = zs x) (hzn : ∀ x, (zs x).all (fun q => Nat.blt q.1 n) = true)
    (D : List Nat) (A : α → Env → Prop) (I : List α → World → Prop) (Ix : Code → List α → World → Prop)
    (hKt : ∀ {A B C : World}, Kp A B → Kp B C → Kp A C) (hKb : ∀ W W', w.heap.size ≤ W.heap.size → Turn w.heap.size W W' → Kp W W')
    (hI : ∀ s W W', I s W → Turn w.heap.size W W' → I s W') (hIx : ∀ c s W W', Ix c s W → Turn w.heap.size W W' → Ix c s W') (hPr : ∀ s W W', Pr s W → Turn w.heap.size W W' → Pr s W') (h0 : I [] w)
    (hassign : ∀ l pre x W', I pre W' → Pr (pre ++ [x]) W' → W P n assign (fun e' W'' => (Nc w.heap.size W' W'' ∧ Kp W' W'' ∧ I pre W'' ∧ Pr (pre ++ [x]) W'' ∧ A x e') ∧ Out (slotM :: D) e' e) (fun _ _ _ => False) (put (putL e (zs x)) slotM (.int .i64 (l : Nat))) W')
    (hbody : ∀ l pre x g' W', I pre W' → Pr (pre ++ [x]) W' → A x g' → W P n body (fun _ W'' => Nc w.heap.size W' W'' ∧ Kp W' W'' ∧ I (pre ++ [x]) W'') (jump w.heap.size W' fun c W'' => Ix c (pre ++ [x]) W'') (put (mix D g' e) slotM (.int .i64 (l : Nat))) W')
    (hdone : ∀ Db xs W', w.heap.size ≤ Db → S xs → I xs W' → Pr xs W' → W'.heap[Db]? = some (.deferred (some [])) → N (put e slotM (.tuple #[.int .i64 (Db : Nat)])) W')
    (hstop : ∀ Db c pre W', w.heap.size ≤ Db → Sp pre → Ix c pre W' → W'.heap[Db]? = some (.deferred (some [])) → W P n c N X (put e slotM (.tuple #[.int .i64 (Db : Nat)])) W') :
    W P n (.rangeFunc g ps assign body) N X e w := by
  intro ro a ha
  have hro : ro = none := by have := ha.ro; rw [hm] at this; exact this.symm
  subst hro
  have hdf : a.defers = [] := by rw [ha.defers, hm]; rfl
  have hmark : ∀ Db : Nat, Rel none n (put e slotM (.tuple #[.int .i64 (Db : Nat)])) { a with defers := { target := .collected Db, args := #[] } :: a.defers } := fun Db =>
    ⟨ha.size, ha.lt, fun i hi => by rw [put_ne _ _ _ _ hi]; exact ha.get i hi, by rw [put_same, hdf]; simp [marks], by rw [put_same]; rfl⟩
  refine wpIn_rangeFunc ?_
  intro fn hfn
  obtain ⟨rec, hrec⟩ : ∃ rec : LoopState → Option Code → Loop, rec = fun st pe => { state := st, pending := pe, fn, tmps := a.tmps, params := ps, assign, body, defers := w.heap.size } := ⟨_, rfl⟩
  obtain ⟨W1, hW1⟩ : ∃ W1, (w.alloc (.deferred (some []))).alloc (.loop (rec .ready none)) = W1 := ⟨_, rfl⟩
  have hE1 : Ext w W1 := by rw [← hW1]; exact (Ext.alloc _ _).trans (Ext.alloc _ _)
  have hL1 : W1.heap[w.heap.size + 1]? = some (.loop (rec .ready none)) := by
    rw [← hW1]; have := World.alloc_heap_new (w.alloc (.deferred (some []))) (.loop (rec .ready none)); rwa [World.size_alloc] at this
  have hK1 : W1.heap[w.heap.size]? = some (.deferred (some [])) := by
    rw [← hW1]; exact (Below.heap_alloc _ _ _ (by simp)).trans (World.alloc_heap_new w _)
  refine ⟨w.heap.size + 1, [{ target := .collected w.heap.size, args := #[] }], W1, { target := .fn (.func gf) lb, args := #[.func (.yield (w.heap.size + 1)) #[] #[]] }, W1, gf,
    #[.func (.yield (w.heap.size + 1)) #[] #[]] ++ lb, W1, ?_, ?_, fun _ _ => trivial, ?_, (fun q => by simp [fen, Fence.wide] at q), ?_⟩
  · rw [← hW1, hrec]; exact run_enterLoop_outer _ _ _ _ _
  · rw [ha.eval]
    simp only [resolve, hg]
    simp [go_sem, ev]
  · simp [invoke, go_sem, eg]
  · refine callsIn_fen.2 ((hseq (w.heap.size + 1)
      (fun pre W => I pre W ∧ W.heap[w.heap.size + 1]? = some (.loop (rec .ready none)) ∧ W.heap[w.heap.size]? = some (.deferred (some [])))
      (fun pre W => ∃ c, Ix c pre W ∧ W.heap[w.heap.size + 1]? = some (.loop (rec .done (some c))) ∧ W.heap[w.heap.size]? = some (.deferred (some [])))
      W1 (hb0.trans hE1) (fun s A B h hx => ⟨hI s A B h.1 (.of_ext hx), ext_heap h.2.1 hx, ext_heap h.2.2 hx⟩) (fun s A B h hx => by
        obtain ⟨c, h1, h2, h3⟩ := h
        exact ⟨c, hIx c s A B h1 (.of_ext hx), ext_heap h2 hx, ext_heap h3 hx⟩) ?_ ⟨hI _ _ _ h0 (.of_ext hE1), hL1, hK1⟩).mono ?_)
    · rintro pre x W ⟨hi, hl, hk⟩ hp
      have hy := run_yield (P := P) (args := encs x) hl (by rw [hrec]; exact hps x)
      rw [hrec] at hy
      refine ⟨fn, _, assign, body, hy, roundIn_of_wpIn hfn ?_⟩
      have hzl : ((ps.zip (encs x)).foldl (fun t q => t.setIfInBounds q.1 q.2) a.tmps) = (zs x).foldl (fun t q => t.setIfInBounds q.1 q.2) a.tmps := by rw [← Array.foldl_toList, hz x]
      have hzlt : ∀ q ∈ zs x, q.1 < n := fun q hq => by have := List.all_eq_true.1 (hzn x) q hq; simpa [Nat.blt_eq] using this
      obtain ⟨hs1, hs2⟩ := rel_setL (zs x) e a.tmps ha.size hzlt ha.get
      have hrel : Rel (some (w.heap.size + 1)) n (put (putL e (zs x)) slotM (.int .i64 ((w.heap.size + 1 : Nat) : Int))) { tmps := (ps.zip (encs x)).foldl (fun t q => t.setIfInBounds q.1 q.2) a.tmps, defers := [] } := by
        refine ⟨by rw [hzl]; exact hs1, ha.lt, fun i hi => ?_, by rw [put_same]; rfl, by rw [put_same]; simp [roOf]⟩
        show ((ps.zip (encs x)).foldl _ a.tmps).getD i undef = _
        rw [put_ne _ _ _ _ hi, hzl]
        exact hs2 i hi
      refine wpIn_mono (hassign (w.heap.size + 1) pre x W hi hp _ _ hrel) ?_
      intro ex a1 W2 hq
      cases ex with
      | normal =>
        obtain ⟨e1, he1, ⟨hn1, hk1, hi1, hp1, hA1⟩, hO⟩ := hq
        have hl1 := hn1.same _ _ (Nat.le_succ _) hl rfl
        have hd1 := hn1.same _ _ (Nat.le_refl _) hk rfl
        refine ⟨_, run_beginRound hl1 (by rw [hrec]), ?_⟩
        have hlt : w.heap.size + 1 < W2.heap.size := heap_lt hl1
        have ht2 : Turn w.heap.size W2 (W2.putObj (w.heap.size + 1) (.loop { rec .ready none with state := .busy })) := .putObj _ (Nat.le_succ _) hl1 rfl
        have hl2 : (W2.putObj (w.heap.size + 1) (.loop { rec .ready none with state := .busy })).heap[w.heap.size + 1]? = some (.loop { rec .ready none with state := .busy }) := World.putObj_heap_same hlt
        have hk2 : (W2.putObj (w.heap.size + 1) (.loop { rec .ready none with state := .busy })).heap[w.heap.size]? = some (.deferred (some [])) := (World.putObj_heap_other (by omega)).trans hd1
        have hr1 : Rel (some (w.heap.size + 1)) n (put (mix D e1 e) slotM (.int .i64 ((w.heap.size + 1 : Nat) : Int))) a1 := by
          refine he1.slot (fun i hi => ?_) (by
            rw [put_same]
            have h1 := he1.defers
            have h2 := he1.ro
            rw [h1]
            cases hq : e1 slotM with
            | int k q => rfl
            | _ => rw [hq] at h2; simp [roOf] at h2) (by rw [put_same]; simp [roOf])
          rw [put_ne _ _ _ _ hi]
          cases hD : mem i D with
          | true => simp only [mix, hD, cond_true]
          | false =>
            simp only [mix, hD, cond_false]
            refine (hO i ?_).symm
            have : Nat.beq i slotM = false := by rw [beq_eq]; simp [hi]
            simp only [mem, this, cond_false, hD]
        refine wpIn_mono (hbody (w.heap.size + 1) pre x e1 _ (hI _ _ _ hi1 ht2) (hPr _ _ _ hp1 ht2) hA1 _ _ hr1) ?_
        have fin : ∀ (jump : Option Code) (W3 : World), Nc w.heap.size (W2.putObj (w.heap.size + 1) (.loop { rec .ready none with state := .busy })) W3 →
            (Instr.endRound (w.heap.size + 1) jump).run P W3 = .ok (.bool jump.isNone) (W3.putObj (w.heap.size + 1) (.loop (rec (if jump.isNone then .ready else .done) jump))) ∧
            (w.heap.size ≤ W3.heap.size ∧ Turn w.heap.size W3 (W3.putObj (w.heap.size + 1) (.loop (rec (if jump.isNone then .ready else .done) jump)))) ∧
            (W3.putObj (w.heap.size + 1) (.loop (rec (if jump.isNone then .ready else .done) jump))).heap[w.heap.size + 1]? = some (.loop (rec (if jump.isNone then .ready else .done) jump)) ∧
            (W3.putObj (w.heap.size + 1) (.loop (rec (if jump.isNone then .ready else .done) jump))).heap[w.heap.size]? = some (.deferred (some [])) := fun jump W3 hk3 => by
          have hl3 := hk3.same _ _ (Nat.le_succ _) hl2 rfl
          have := run_endRound (P := P) jump hl3
          rw [hrec] at this ⊢
          exact ⟨this, ⟨by have := heap_lt hl3; omega, .putObj _ (Nat.le_succ _) hl3 rfl⟩, World.putObj_heap_same (heap_lt hl3), (World.putObj_heap_other (by omega)).trans (hk3.same _ _ (Nat.le_refl _) hk2 rfl)⟩
        rintro e3 a3 W3 hp3
        cases e3 with
        | normal =>
          obtain ⟨_, _, hk3, hkp3, hi3⟩ := hp3
          obtain ⟨hr, ⟨hsz3, ht3⟩, hl4, hk4⟩ := fin none W3 hk3
          exact ⟨_, _, hr, .inl ⟨rfl, ⟨hI _ _ _ hi3 ht3, hl4, hk4⟩, hKt hk1 (hKt (hKt (hKb _ _ (by omega) ht2) hkp3) (hKb _ _ hsz3 ht3))⟩⟩
        | ret =>
          obtain ⟨_, _, hk3, hi3⟩ := hp3
          obtain ⟨hr, ⟨hsz3, ht3⟩, hl4, hk4⟩ := fin (some .ret) W3 hk3
          exact ⟨_, _, hr, .inr ⟨rfl, .ret, hIx _ _ _ _ hi3 ht3, hl4, hk4⟩⟩
        | exit id =>
          obtain ⟨_, _, hk3, hi3⟩ := hp3
          obtain ⟨hr, ⟨hsz3, ht3⟩, hl4, hk4⟩ := fin (some (.exit id)) W3 hk3
          exact ⟨_, _, hr, .inr ⟨rfl, .exit id, hIx _ _ _ _ hi3 ht3, hl4, hk4⟩⟩
        | goto t =>
          obtain ⟨_, _, hk3, hi3⟩ := hp3
          obtain ⟨hr, ⟨hsz3, ht3⟩, hl4, hk4⟩ := fin (some (.goto t)) W3 hk3
          exact ⟨_, _, hr, .inr ⟨rfl, .goto t, hIx _ _ _ _ hi3 ht3, hl4, hk4⟩⟩
        | panic ch => exact hp3.elim
        | outgrown => exact hp3.elim
      | panic c => exact hq
      | outgrown => exact hq
      | ret => obtain ⟨_, _, q⟩ := hq; exact q.elim
      | exit _ => obtain ⟨_, _, q⟩ := hq; exact q.elim
      | goto _ => obtain ⟨_, _, q⟩ := hq; exact q.elim
    · rintro en W2 ⟨⟨v, rfl⟩, (⟨xs, hS, hp, hi, hl, hk⟩ | ⟨pre, hSp, c, hi, hl, hk⟩)⟩
      · have ht : Turn w.heap.size W2 (W2.putObj (w.heap.size + 1) (.loop { rec .ready none with state := .exhausted })) := .putObj _ (Nat.le_succ _) hl rfl
        refine ⟨none, _, by have := run_endLoop (P := P) hl (by rw [hrec]; simp); rw [hrec] at this; exact this, ?_⟩
        rw [hrec] at ht
        exact ⟨_, hmark _, hdone _ xs _ (Nat.le_refl _) hS (hI _ _ _ hi ht) (hPr _ _ _ hp ht) ((World.putObj_heap_other (by omega)).trans hk)⟩
      · have ht : Turn w.heap.size W2 (W2.putObj (w.heap.size + 1) (.loop { rec .done (some c) with state := .exhausted })) := .putObj _ (Nat.le_succ _) hl rfl
        refine ⟨some c, _, by have := run_endLoop (P := P) hl (by rw [hrec]; simp); rw [hrec] at this; exact this, ?_⟩
        rw [hrec] at ht
        exact hstop _ c pre _ (Nat.le_refl _) hSp (hIx _ _ _ _ hi ht) ((World.putObj_heap_other (by omega)).trans hk) _ _ (hmark _)
end

/-! A scope without jumps back. -/
section
variable {F : Fence} {n : Nat} {P : Program} {Q : Exit → Act → World → Prop} {a : Act} {w : World}
theorem stepR_scope {b : Frame} {k : List Item} {cs : List Frame} {c : Code} : step P (lone (b.atR a (.code (.scope c) :: k)) cs w) = .next (lone (b.atR a (.code c :: .inScope c :: k)) cs w) :=
  step_lone_go (by simp [stepG, stepG.exec, Frame.atR])
theorem stepR_inScope {b : Frame} {k : List Item} {cs : List Frame} {c : Code} : step P (lone (b.atR a (.inScope c :: k)) cs w) = .next (lone (b.atR a k) cs w) :=
  step_lone_go (by simp [stepG, stepG.exec, Frame.atR])
theorem wpIn_scope {c : Code} (h : c.wpIn F n P (fun x a w => match x with | .goto _ => False | x => Q x a w) a w) : (Code.scope c).wpIn F n P Q a w := by
  intro b k cs hro hb hr
  have h0 : (lone (b.atR a (.code (.scope c) :: k)) cs w).fenced P F := fenced_calm hb hr rfl
  obtain ⟨e, a₁, w₁, hq, harr⟩ := h b (.inScope c :: k) cs hro hb hr
  cases e with
  | normal => exact ⟨.normal, a₁, w₁, hq, .head h0 stepR_scope (StepsIn.trans harr (.one (fenced_calm hb hr rfl) stepR_inScope))⟩
  | exit id =>
    have hx : exitTo id (.inScope c :: k) = exitTo id k := by simp [exitTo]
    exact ⟨.exit id, a₁, w₁, hq, fun k' hk => .head h0 stepR_scope (harr.1 k' (by rw [hx]; exact hk)),
      fun hr' hk => let ⟨k₁, h1, h2⟩ := harr.2 hr' (by rw [hx]; exact hk); ⟨k₁, h1, .head h0 stepR_scope h2⟩⟩
  | goto l => exact hq.elim
  | ret => exact ⟨_, a₁, w₁, hq, .of_steps (.one h0 stepR_scope) harr⟩
  | panic ch => exact ⟨_, a₁, w₁, hq, .of_steps (.one h0 stepR_scope) harr⟩
  | outgrown => exact ⟨_, a₁, w₁, hq, .of_steps (.one h0 stepR_scope) harr⟩
end
def noGoto (X : Exit → Env → World → Prop) : Exit → Env → World → Prop
  | .goto _, _, _ => False
  | x, e, w => X x e w
theorem W_scope {P : Program} {n : Nat} {N : Env → World → Prop} {X : Exit → Env → World → Prop} {e : Env} {w : World} {c : Code} (h : W P n c N (noGoto X) e w) : W P n (.scope c) N X e w := by
  intro ro a ha
  refine wpIn_scope (wpIn_mono (h ro a ha) ?_)
  intro ex a w hq
  cases ex with
  | goto l => obtain ⟨_, _, q⟩ := hq; exact q
  | normal => exact hq
  | exit _ => exact hq
  | ret => exact hq
  | panic c => exact hq
  | outgrown => exact hq
theorem scp_ret {X : Exit → Env → World → Prop} {e : Env} {w : World} (h : X .ret e w) : noGoto X .ret e w := h
theorem scp_exit {X : Exit → Env → World → Prop} {e : Env} {w : World} {id : Nat} (h : X (.exit id) e w) : noGoto X (.exit id) e w := h
/-! Function values: a call of one; a round. -/
section
variable {P : Program} {n : Nat} {N : Env → World → Prop} {X : Exit → Env → World → Prop} {e : Env} {w : World} {ops : Array Oper} {rest : List Oper} {d : Option Tmp} {t : TypeId} {pos : String} {af : Array Edge} {x : Op} {g : Option (Nat × Bool)}
theorem callFunc_run {f : FuncId} {fn : Func} (hf : P.funcs[f]? = some fn) (hn : (fn.name == "runtime.NumGoroutine") = false) (hb : fn.body.isNone = false) (args : Array Value) (w : World) : (callFunc f args).run P w = .ok (.enter f args) w := by
  have hn' : ¬ fn.name = "runtime.NumGoroutine" := by simpa using hn
  have hb' : ¬ fn.body = none := by intro h; rw [h] at hb; simp at hb
  simp [callFunc, program, Sem.run, hf, hn', hb']
/-- The function that is called is a value. -/
theorem r_callV {y : Operand} {f : FuncId} {fn : Func} {xs : List Operand} {ts : Array TypeId} {lb : List Value} (hy : ev e y = .func (.func f) #[] lb.toArray) (hf : P.funcs[f]? = some fn) (hn : (fn.name == "runtime.NumGoroutine") = false) (hb : fn.body.isNone = false) :
    (execOp (ev e) ⟨d, .call { callee := .value y, args := xs.toArray, argTypes := ts }, t, pos, af, g⟩).run P w =
      .ok (.enter f (List.map (ev e) xs ++ lb).toArray) w := by
  simp [execOp, resolve, hy, invoke, go_sem, callFunc_run hf hn hb]
theorem r_yield {y : Operand} {l : Nat} {xs : List Operand} {ts : Array TypeId} (hy : ev e y = .func (.yield l) #[] #[]) :
    (execOp (ev e) ⟨d, .call { callee := .value y, args := xs.toArray, argTypes := ts }, t, pos, af, g⟩).run P w = (Instr.yield l (List.map (ev e) xs).toArray).run P w := by
  simp [execOp, resolve, hy, invoke, go_sem]
theorem op_yield {l : Nat} {vs : Array Value} {R : Ending → World → Prop} (hm : e slotM = undef) (hd : dOk n d = true) (hr : (execOp (ev e) ⟨d, x, t, pos, af, none⟩).run P w = (Instr.yield l vs).run P w)
    (hy : YieldAt (fen none) 0 P l vs w R) (h : ∀ en w', R en w' → ∃ v, en = .returned v ∧ WL P n ops N X rest (putO e d v) w') : WL P n ops N X (⟨d, x, t, pos, af, none⟩ :: rest) e w := by
  intro ro a ha
  have hro : ro = none := by have := ha.ro; rw [hm] at this; exact this.symm
  subst hro
  refine wpListIn_plain rfl fun K hK => ?_
  obtain ⟨fn, tmps, assign, body, h1, h2⟩ := hy
  refine ⟨fun _ _ => trivial, ?_⟩
  rw [ha.eval, semAt_run (hr.trans h1) (by simp)]
  refine ⟨fun q => by simp [fen, Fence.wide] at q, h2.mono ?_⟩
  intro en w' hR
  obtain ⟨v, rfl, hw⟩ := h en w' hR
  exact hK _ _ (hw _ _ (ha.put hd v))
theorem opG_yield {l : Nat} {vs : Array Value} {R : Ending → World → Prop} {j : Nat} {want : Bool} {dj : Tmp} {b : Bool} (hm : e slotM = undef) (hj : (ops[j]?).bind (·.dst) = some dj) (hjn : Nat.blt dj n = true) (hb : e dj = .bool b) (he : (b == want) = true) (hd : dOk n d = true)
    (hr : (execOp (ev e) ⟨d, x, t, pos, af, some (j, want)⟩).run P w = (Instr.yield l vs).run P w)
    (hy : YieldAt (fen none) 0 P l vs w R) (h : ∀ en w', R en w' → ∃ v, en = .returned v ∧ WL P n ops N X rest (putO e d v) w') : WL P n ops N X (⟨d, x, t, pos, af, some (j, want)⟩ :: rest) e w := by
  intro ro a ha
  have hro : ro = none := by have := ha.ro; rw [hm] at this; exact this.symm
  subst hro
  refine wpListIn_step fun K hK => ?_
  rw [wanted_of ha hj hjn hb, he]
  simp only [if_true]
  obtain ⟨fn, tmps, assign, body, h1, h2⟩ := hy
  refine ⟨fun _ _ => trivial, ?_⟩
  rw [ha.eval, semAt_run (hr.trans h1) (by simp)]
  refine ⟨fun q => by simp [fen, Fence.wide] at q, h2.mono ?_⟩
  intro en w' hR
  obtain ⟨v, rfl, hw⟩ := h en w' hR
  exact hK _ _ (hw _ _ (ha.put hd v))
end
end Go.Eng
