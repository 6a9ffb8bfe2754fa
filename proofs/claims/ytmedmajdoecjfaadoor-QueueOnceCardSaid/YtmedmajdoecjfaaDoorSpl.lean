/-
  The engine: loops over functions that change blocks of their own. Generic: no program.
-/
import Derived.Test.YtmedmajdoecjfaaDoorRnd
namespace Go.Eng
set_option linter.unusedVariables false
set_option linter.unusedSimpArgs false
open Go.RowKit

/-- Blocks that Z names may be other ones; there may be more. -/
structure Mv (Z : Nat → Prop) (w w' : World) : Prop where
  os : w'.os = w.os
  tape : w'.tape = w.tape
  output : w'.output = w.output
  size : w.heap.size ≤ w'.heap.size
  block : ∀ k, k < w.heap.size → ¬ Z k → w'.heap[k]? = w.heap[k]?
theorem Mv.of_ext {Z : Nat → Prop} {w w' : World} (h : Ext w w') : Mv Z w w' := ⟨h.os, h.tape, h.output, h.size, fun k hk _ => h.block k hk⟩
theorem Mv.of_chg {Z : Nat → Prop} {w w' : World} {b : Nat} (h : Chg b w w') (hb : Z b) : Mv Z w w' := ⟨h.os, h.tape, h.output, h.size, fun k hk hn => h.block k hk (fun q => hn (q ▸ hb))⟩
theorem Mv.trans {Z : Nat → Prop} {a b c : World} (h : Mv Z a b) (k : Mv Z b c) : Mv Z a c :=
  ⟨k.os.trans h.os, k.tape.trans h.tape, k.output.trans h.output, Nat.le_trans h.size k.size, fun i hi hn => (k.block i (Nat.lt_of_lt_of_le hi h.size) hn).trans (h.block i hi hn)⟩
theorem Mv.heap {Z : Nat → Prop} {w w' : World} {g : Nat} {o : Obj} (hx : Mv Z w w') (h : w.heap[g]? = some o) (hn : ¬ Z g) : w'.heap[g]? = some o := by rw [hx.block g (heap_lt h) hn]; exact h
theorem Mv.blk {Z : Nat → Prop} {w w' : World} {g : Nat} {c : Array Value} {t : TypeId} (hx : Mv Z w w') (h : Blk w g c t) (hn : ¬ Z g) : Blk w' g c t := Mv.heap hx h hn
theorem Mv.below {Z : Nat → Prop} {B : Nat} {a w w' : World} (h : Below B a w) (hx : Mv Z w w') (hZ : ∀ k, Z k → B ≤ k) (hB : B ≤ w.heap.size) : Below B a w' :=
  h.trans ⟨hx.os, hx.tape, hx.output, hx.size, fun k hk => hx.block k (by omega) (fun q => by have := hZ k q; omega)⟩
theorem Mv.same {Z F : Nat → Prop} {w w' : World} (hx : Mv Z w w') (hF : ∀ b, F b → b < w.heap.size ∧ ¬ Z b) : Same F w w' := fun b hb => hx.block b (hF b hb).1 (hF b hb).2
/-- What a function that is ranged over promises, where it changes blocks of its own (Z). -/
def IterZ {α : Type} (Z : Nat → Prop) (P : Program) (g : Nat) (lb : Array Value) (encs : α → Array Value) (Kp : World → World → Prop) (Pr : List α → World → Prop) (S Sp : List α → Prop) (w : World) : Prop :=
  ∀ (l : Nat) (J Jx : List α → World → Prop) (W : World), Ext w W → (∀ s A B, J s A → Mv Z A B → J s B) → (∀ s A B, Jx s A → Mv Z A B → Jx s B) →
    (∀ pre x W1, J pre W1 → Pr (pre ++ [x]) W1 → YieldAt (fen none) 0 P l (encs x) W1 fun e W' =>
      (e = .returned (.bool true) ∧ J (pre ++ [x]) W' ∧ Kp W1 W') ∨ (e = .returned (.bool false) ∧ Jx (pre ++ [x]) W')) →
    J [] W → Calls P g (#[.func (.yield l) #[] #[]] ++ lb) W fun e W' => (∃ v, e = .returned v) ∧ ((∃ xs, S xs ∧ Pr xs W' ∧ J xs W') ∨ (∃ pre, Sp pre ∧ Jx pre W'))
section
variable {P : Program} {n : Nat} {N : Env → World → Prop} {X : Exit → Env → World → Prop} {e : Env} {w : World}
theorem W_rangeFuncZ {Z : Nat → Prop} {α : Type} {g : Operand} {ps : Array Tmp} {assign body : Code} {gf : Nat} {lb : Array Value} {encs : α → Array Value} {Kp : World → World → Prop} {Pr : List α → World → Prop} {S Sp : List α → Prop} {w0 : World}
    (hm : e slotM = undef) (hg : ev e g = .func (.func gf) #[] lb) (eg : ∀ args w, (callFunc gf args).run P w = .ok (.enter gf args) w)
    (hseq : IterZ Z P gf lb encs Kp Pr S Sp w0) (hZ : ∀ k, Z k → k < w0.heap.size) (hb0 : Ext w0 w) (hps : ∀ x, (encs x).size = ps.size) (zs : α → List (Nat × Value)) (hz : ∀ x, (ps.zip (encs x)).toList = zs x) (hzn : ∀ x, (zs x).all (fun q => Nat.blt q.1 n) = true)
    (D : List Nat) (A : α → Env → Prop) (I : List α → World → Prop) (Ix : Code → List α → World → Prop)
    (hKt : ∀ {A B C : World}, Kp A B → Kp B C → Kp A C) (hKb : ∀ W W', w.heap.size ≤ W.heap.size → Turn w.heap.size W W' → Kp W W')
    (hI : ∀ s W W', I s W → Turn w.heap.size W W' → I s W') (hIx : ∀ c s W W', Ix c s W → Turn w.heap.size W W' → Ix c s W') (hPr : ∀ s W W', Pr s W → Turn w.heap.size W W' → Pr s W') (hIZ : ∀ s W W', I s W → Mv Z W W' → I s W') (hIxZ : ∀ c s W W', Ix c s W → Mv Z W W' → Ix c s W') (h0 : I [] w)
    (hassign : ∀ l pre x W', I pre W' → Pr (pre ++ [x]) W' → W P n assign (fun e' W'' => (Nc w.heap.size W' W'' ∧ Kp W' W'' ∧ I pre W'' ∧ Pr (pre ++ [x]) W'' ∧ A x e') ∧ Out (slotM :: D) e' e) (fun _ _ _ => False) (put (putL e (zs x)) slotM (.int .i64 (l : Nat))) W')
    (hbody : ∀ l pre x g' W', I pre W' → Pr (pre ++ [x]) W' → A x g' → W P n body (fun _ W'' => Nc w.heap.size W' W'' ∧ Kp W' W'' ∧ I (pre ++ [x]) W'') (jump w.heap.size W' fun c W'' => Ix c (pre ++ [x]) W'') (put (mix D g' e) slotM (.int .i64 (l : Nat))) W')
    (hdone : ∀ Db xs W', w.heap.size ≤ Db → S xs → I xs W' → Pr xs W' → W'.heap[Db]? = some (.deferred (some [])) → N (put e slotM (.tuple #[.int .i64 (Db : Nat)])) W')
    (hstop : ∀ Db c pre W', w.heap.size ≤ Db → Sp pre → Ix c pre W' → W'.heap[Db]? = some (.deferred (some [])) → W P n c N X (put e slotM (.tuple #[.int .i64 (Db : Nat)])) W') :
    W P n (.rangeFunc g ps assign body) N X e w := by
  intro ro a ha
  have hro : ro = none := by have := ha.ro; rw [hm] at this; exact this.symm
  subst hro
  have hdf : a.defers = [] := by rw [ha.defers, hm]; rfl
  have hmark : ∀ Db : Nat, Rel none n (put e slotM (.tuple #[.int .i64 (Db : Nat)])) { a with defers := { target := .collected Db, args := #[] } :: a.defers } := fun Db =>
    ⟨ha.size, ha.lt, fun i hi => by rw [put_ne _ _ _ _ hi]; exact ha.get i hi, by rw [put_same, hdf]; simp [marks], by rw [put_same]; rfl⟩
  refine wpIn_rangeFunc ?_
  intro fn hfn
  obtain ⟨rec, hrec⟩ : ∃ rec : LoopState → Option Code → Loop, rec = fun st pe => { state := st, pending := pe, fn, tmps := a.tmps, params := ps, assign, body, defers := w.heap.size } := ⟨_, rfl⟩
  obtain ⟨W1, hW1⟩ : ∃ W1, (w.alloc (.deferred (some []))).alloc (.loop (rec .ready none)) = W1 := ⟨_, rfl⟩
  have hE1 : Ext w W1 := by rw [← hW1]; exact (Ext.alloc _ _).trans (Ext.alloc _ _)
  have hL1 : W1.heap[w.heap.size + 1]? = some (.loop (rec .ready none)) := by
    rw [← hW1]; have := World.alloc_heap_new (w.alloc (.deferred (some []))) (.loop (rec .ready none)); rwa [World.size_alloc] at this
  have hK1 : W1.heap[w.heap.size]? = some (.deferred (some [])) := by
    rw [← hW1]; exact (Below.heap_alloc _ _ _ (by simp)).trans (World.alloc_heap_new w _)
  have hzl : ¬ Z (w.heap.size + 1) := fun q => by have := hZ _ q; have := hb0.size; omega
  have hzd : ¬ Z w.heap.size := fun q => by have := hZ _ q; have := hb0.size; omega
  refine ⟨w.heap.size + 1, [{ target := .collected w.heap.size, args := #[] }], W1, { target := .fn (.func gf) lb, args := #[.func (.yield (w.heap.size + 1)) #[] #[]] }, W1, gf,
    #[.func (.yield (w.heap.size + 1)) #[] #[]] ++ lb, W1, ?_, ?_, fun _ _ => trivial, ?_, (fun q => by simp [fen, Fence.wide] at q), ?_⟩
  · rw [← hW1, hrec]; exact run_enterLoop_outer _ _ _ _ _
  · rw [ha.eval]
    simp only [resolve, hg]
    simp [go_sem, ev]
  · simp [invoke, go_sem, eg]
  · refine callsIn_fen.2 ((hseq (w.heap.size + 1)
      (fun pre W => I pre W ∧ W.heap[w.heap.size + 1]? = some (.loop (rec .ready none)) ∧ W.heap[w.heap.size]? = some (.deferred (some [])))
      (fun pre W => ∃ c, Ix c pre W ∧ W.heap[w.heap.size + 1]? = some (.loop (rec .done (some c))) ∧ W.heap[w.heap.size]? = some (.deferred (some [])))
      W1 (hb0.trans hE1) (fun s A B h hx => ⟨hIZ s A B h.1 hx, hx.heap h.2.1 hzl, hx.heap h.2.2 hzd⟩) (fun s A B h hx => by
        obtain ⟨c, h1, h2, h3⟩ := h
        exact ⟨c, hIxZ c s A B h1 hx, hx.heap h2 hzl, hx.heap h3 hzd⟩) ?_ ⟨hI _ _ _ h0 (.of_ext hE1), hL1, hK1⟩).mono ?_)
    · rintro pre x W ⟨hi, hl, hk⟩ hp
      have hy := run_yield (P := P) (args := encs x) hl (by rw [hrec]; exact hps x)
      rw [hrec] at hy
      refine ⟨fn, _, assign, body, hy, roundIn_of_wpIn hfn ?_⟩
      have hzl : ((ps.zip (encs x)).foldl (fun t q => t.setIfInBounds q.1 q.2) a.tmps) = (zs x).foldl (fun t q => t.setIfInBounds q.1 q.2) a.tmps := by rw [← Array.foldl_toList, hz x]
      have hzlt : ∀ q ∈ zs x, q.1 < n := fun q hq => by have := List.all_eq_true.1 (hzn x) q hq; simpa [Nat.blt_eq] using this
      obtain ⟨hs1, hs2⟩ := rel_setL (zs x) e a.tmps ha.size hzlt ha.get
      have hrel : Rel (some (w.heap.size + 1)) n (put (putL e (zs x)) slotM (.int .i64 ((w.heap.size + 1 : Nat) : Int))) { tmps := (ps.zip (encs x)).foldl (fun t q => t.setIfInBounds q.1 q.2) a.tmps, defers := [] } := by
        refine ⟨by rw [hzl]; exact hs1, ha.lt, fun i hi => ?_, by rw [put_same]; rfl, by rw [put_same]; simp [roOf]⟩
        show ((ps.zip (encs x)).foldl _ a.tmps).getD i undef = _
        rw [put_ne _ _ _ _ hi, hzl]
        exact hs2 i hi
      refine wpIn_mono (hassign (w.heap.size + 1) pre x W hi hp _ _ hrel) ?_
      intro ex a1 W2 hq
      cases ex with
      | normal =>
        obtain ⟨e1, he1, ⟨hn1, hk1, hi1, hp1, hA1⟩, hO⟩ := hq
        have hl1 := hn1.same _ _ (Nat.le_succ _) hl rfl
        have hd1 := hn1.same _ _ (Nat.le_refl _) hk rfl
        refine ⟨_, run_beginRound hl1 (by rw [hrec]), ?_⟩
        have hlt : w.heap.size + 1 < W2.heap.size := heap_lt hl1
        have ht2 : Turn w.heap.size W2 (W2.putObj (w.heap.size + 1) (.loop { rec .ready none with state := .busy })) := .putObj _ (Nat.le_succ _) hl1 rfl
        have hl2 : (W2.putObj (w.heap.size + 1) (.loop { rec .ready none with state := .busy })).heap[w.heap.size + 1]? = some (.loop { rec .ready none with state := .busy }) := World.putObj_heap_same hlt
        have hk2 : (W2.putObj (w.heap.size + 1) (.loop { rec .ready none with state := .busy })).heap[w.heap.size]? = some (.deferred (some [])) := (World.putObj_heap_other (by omega)).trans hd1
        have hr1 : Rel (some (w.heap.size + 1)) n (put (mix D e1 e) slotM (.int .i64 ((w.heap.size + 1 : Nat) : Int))) a1 := by
          refine he1.slot (fun i hi => ?_) (by
            rw [put_same]
            have h1 := he1.defers
            have h2 := he1.ro
            rw [h1]
            cases hq : e1 slotM with
            | int k q => rfl
            | _ => rw [hq] at h2; simp [roOf] at h2) (by rw [put_same]; simp [roOf])
          rw [put_ne _ _ _ _ hi]
          cases hD : mem i D with
          | true => simp only [mix, hD, cond_true]
          | false =>
            simp only [mix, hD, cond_false]
            refine (hO i ?_).symm
            have : Nat.beq i slotM = false := by rw [beq_eq]; simp [hi]
            simp only [mem, this, cond_false, hD]
        refine wpIn_mono (hbody (w.heap.size + 1) pre x e1 _ (hI _ _ _ hi1 ht2) (hPr _ _ _ hp1 ht2) hA1 _ _ hr1) ?_
        have fin : ∀ (jump : Option Code) (W3 : World), Nc w.heap.size (W2.putObj (w.heap.size + 1) (.loop { rec .ready none with state := .busy })) W3 →
            (Instr.endRound (w.heap.size + 1) jump).run P W3 = .ok (.bool jump.isNone) (W3.putObj (w.heap.size + 1) (.loop (rec (if jump.isNone then .ready else .done) jump))) ∧
            (w.heap.size ≤ W3.heap.size ∧ Turn w.heap.size W3 (W3.putObj (w.heap.size + 1) (.loop (rec (if jump.isNone then .ready else .done) jump)))) ∧
            (W3.putObj (w.heap.size + 1) (.loop (rec (if jump.isNone then .ready else .done) jump))).heap[w.heap.size + 1]? = some (.loop (rec (if jump.isNone then .ready else .done) jump)) ∧
            (W3.putObj (w.heap.size + 1) (.loop (rec (if jump.isNone then .ready else .done) jump))).heap[w.heap.size]? = some (.deferred (some [])) := fun jump W3 hk3 => by
          have hl3 := hk3.same _ _ (Nat.le_succ _) hl2 rfl
          have := run_endRound (P := P) jump hl3
          rw [hrec] at this ⊢
          exact ⟨this, ⟨by have := heap_lt hl3; omega, .putObj _ (Nat.le_succ _) hl3 rfl⟩, World.putObj_heap_same (heap_lt hl3), (World.putObj_heap_other (by omega)).trans (hk3.same _ _ (Nat.le_refl _) hk2 rfl)⟩
        rintro e3 a3 W3 hp3
        cases e3 with
        | normal =>
          obtain ⟨_, _, hk3, hkp3, hi3⟩ := hp3
          obtain ⟨hr, ⟨hsz3, ht3⟩, hl4, hk4⟩ := fin none W3 hk3
          exact ⟨_, _, hr, .inl ⟨rfl, ⟨hI _ _ _ hi3 ht3, hl4, hk4⟩, hKt hk1 (hKt (hKt (hKb _ _ (by omega) ht2) hkp3) (hKb _ _ hsz3 ht3))⟩⟩
        | ret =>
          obtain ⟨_, _, hk3, hi3⟩ := hp3
          obtain ⟨hr, ⟨hsz3, ht3⟩, hl4, hk4⟩ := fin (some .ret) W3 hk3
          exact ⟨_, _, hr, .inr ⟨rfl, .ret, hIx _ _ _ _ hi3 ht3, hl4, hk4⟩⟩
        | exit id =>
          obtain ⟨_, _, hk3, hi3⟩ := hp3
          obtain ⟨hr, ⟨hsz3, ht3⟩, hl4, hk4⟩ := fin (some (.exit id)) W3 hk3
          exact ⟨_, _, hr, .inr ⟨rfl, .exit id, hIx _ _ _ _ hi3 ht3, hl4, hk4⟩⟩
        | goto t =>
          obtain ⟨_, _, hk3, hi3⟩ := hp3
          obtain ⟨hr, ⟨hsz3, ht3⟩, hl4, hk4⟩ := fin (some (.goto t)) W3 hk3
          exact ⟨_, _, hr, .inr ⟨rfl, .goto t, hIx _ _ _ _ hi3 ht3, hl4, hk4⟩⟩
        | panic ch => exact hp3.elim
        | outgrown => exact hp3.elim
      | panic c => exact hq
      | outgrown => exact hq
      | ret => obtain ⟨_, _, q⟩ := hq; exact q.elim
      | exit _ => obtain ⟨_, _, q⟩ := hq; exact q.elim
      | goto _ => obtain ⟨_, _, q⟩ := hq; exact q.elim
    · rintro en W2 ⟨⟨v, rfl⟩, (⟨xs, hS, hp, hi, hl, hk⟩ | ⟨pre, hSp, c, hi, hl, hk⟩)⟩
      · have ht : Turn w.heap.size W2 (W2.putObj (w.heap.size + 1) (.loop { rec .ready none with state := .exhausted })) := .putObj _ (Nat.le_succ _) hl rfl
        refine ⟨none, _, by have := run_endLoop (P := P) hl (by rw [hrec]; simp); rw [hrec] at this; exact this, ?_⟩
        rw [hrec] at ht
        exact ⟨_, hmark _, hdone _ xs _ (Nat.le_refl _) hS (hI _ _ _ hi ht) (hPr _ _ _ hp ht) ((World.putObj_heap_other (by omega)).trans hk)⟩
      · have ht : Turn w.heap.size W2 (W2.putObj (w.heap.size + 1) (.loop { rec .done (some c) with state := .exhausted })) := .putObj _ (Nat.le_succ _) hl rfl
        refine ⟨some c, _, by have := run_endLoop (P := P) hl (by rw [hrec]; simp); rw [hrec] at this; exact this, ?_⟩
        rw [hrec] at ht
        exact hstop _ c pre _ (Nat.le_refl _) hSp (hIx _ _ _ _ hi ht) ((World.putObj_heap_other (by omega)).trans hk) _ _ (hmark _)
end
/-- A result of one cell. -/
theorem fin_cellV {P : Program} {p : Tmp} {ty : TypeId} {R : Ending → World → Prop} {e : Env} {w : World} {a : Addr} {v : Value} {td : TypeDesc}
    (hp : e p = .pointer (some a)) (hc : w.cell? a = some v) (hu : P.underlying ty = some td) (h1 : oneCellT td = true)
    (h : R (.returned v) w) (hm : e slotM = undef := by rfl) (k1 : Nat.beq p slotM = false := by rfl) : fin P #[.cell p ty] R e w := by
  refine fin_plain hm ?_
  intro tmps ht
  refine ⟨v, ?_, h⟩
  have h1' := ht p (by rw [beq_eq] at k1; simpa using k1)
  simp at h1'
  have hagg : (isAgg ty).run P w = .ok false w := by
    unfold isAgg
    rw [Sem.run_bind, run_underlying hu w]
    cases td <;> simp_all [oneCellT]
  simp [h1', hp, asAddr, loadVar, hagg, load, Sem.run, hc]
end Go.Eng
