/-
  The walk of rules of a text.
-/
import Derived.Test.YtafcaigjijajnaaDoorFacts
import Derived.Test.YtafcaigjijajnaaDoorRulePw
namespace Go.Proofs.YtafcaigjijajnaaDoor
open Go Go.Eng Go.RowKit Go.Proofs
set_option linter.unusedVariables false
set_option linter.unusedSimpArgs false
set_option maxHeartbeats 1000000
set_option maxRecDepth 20000

/-- Two results of one cell each. -/
theorem fin_cellVV {P : Program} {p q : Tmp} {ty tz : TypeId} {R : Ending → World → Prop} {e : Env} {w : World} {a a' : Addr} {v v' : Value} {td td' : TypeDesc}
    (hp : e p = .pointer (some a)) (hc : w.cell? a = some v) (hu : P.underlying ty = some td) (h1 : oneCellT td = true) (hp' : e q = .pointer (some a')) (hc' : w.cell? a' = some v') (hu' : P.underlying tz = some td') (h1' : oneCellT td' = true)
    (h : R (.returned (.tuple #[v, v'])) w) (hm : e slotM = undef := by rfl) (k1 : Nat.beq p slotM = false := by rfl) (k2 : Nat.beq q slotM = false := by rfl) : fin P #[.cell p ty, .cell q tz] R e w := by
  refine fin_plain hm ?_
  intro tmps ht
  refine ⟨.tuple #[v, v'], ?_, h⟩
  have q1 := ht p (by rw [beq_eq] at k1; simpa using k1)
  have q2 := ht q (by rw [beq_eq] at k2; simpa using k2)
  simp at q1 q2
  have hagg : (isAgg ty).run P w = .ok false w := by
    unfold isAgg
    rw [Sem.run_bind, run_underlying hu w]
    cases td <;> simp_all [oneCellT]
  have hagg' : (isAgg tz).run P w = .ok false w := by
    unfold isAgg
    rw [Sem.run_bind, run_underlying hu' w]
    cases td' <;> simp_all [oneCellT]
  simp [q1, q2, hp, hp', asAddr, loadVar, hagg, hagg', load, Sem.run, hc, hc']
theorem ru_mk {r : Ru} {w : World} {F : Nat → Prop} (hk : inK .i64 r.k) (hg : r.g.length ≤ 140737488355328) (ho : r.o.length ≤ 140737488355328) (hn : r.n.length ≤ 140737488355328) : ruT.R w F r r.vals :=
  ⟨[.int .i64 r.k], [.string (str r.g), .string (str r.o), .string (str r.n)], rfl, ⟨rfl, hk⟩, [.string (str r.g)], [.string (str r.o), .string (str r.n)], rfl, ⟨rfl, hg⟩, [.string (str r.o)], [.string (str r.n)], rfl, ⟨rfl, ho⟩, ⟨rfl, hn⟩⟩
theorem ru_right {r : Ru} (h : ruR r) {w : World} {F : Nat → Prop} : ruT.R w F r r.vals := by
  have hk := kind_range h.2.2.2
  refine ru_mk ?_ (by have := h.1.2; omega) (by have := h.2.1; omega) (by have := h.2.2.1; omega)
  simp only [inK, lo, hi]; omega
theorem parts_cnt (c : UInt8) (s : List UInt8) : (parts c s).length ≤ s.length + 1 := by
  have h := parts_sum (c := c) s
  have : ∀ l : List (List UInt8), l.length ≤ (l.map fun p => p.length + 1).sum := fun l => by
    induction l with
    | nil => simp
    | cons x l ih => simp only [List.length_cons, List.map_cons, List.sum_cons]; omega
  have := this (parts c s)
  omega
theorem lines_bad {p : List UInt8} (hp : p ≠ []) (ho : oneR (parts 32 p) = none) : ∀ {ls : List (List UInt8)}, p ∈ ls → linesR ls = none
  | x :: ls, h => by
    unfold linesR
    by_cases hx : x = p
    · subst hx; rw [if_neg hp, ho]
    · have ih := lines_bad hp ho ((List.mem_cons.1 h).resolve_left (fun q => hx q.symm))
      rw [ih]
      split
      · rfl
      · split <;> rfl
theorem lines_snoc {xs : List (List UInt8)} {out : List Ru} {x : List UInt8} {r : Ru} (h : linesR xs = some out) (hx : x ≠ []) (hr : oneR (parts 32 x) = some r) : linesR (xs ++ [x]) = some (out ++ [r]) := by
  rw [lines_app, h]
  simp [linesR, hx, hr]
theorem lines_snil {xs : List (List UInt8)} {out : List Ru} (h : linesR xs = some out) : linesR (xs ++ [[]]) = some out := by
  rw [lines_app, h]
  simp [linesR]
/-- What a buffer's turn leaves: rules that one has. -/
abbrev OwnRu (w : World) (B : Nat) (v : Value) (l : List Ru) : Prop := Eng.Own ruT w nobody B 35 v l
theorem parse_spec (s : List UInt8) (w : World) (hG : Gl w) (hs : s.length ≤ 1099511627776) :
    Calls Tryd.prog 12 #[.string (str s)] w (fun en w' => ∃ v, en = .returned v ∧ ∃ r, v = .tuple #[r, .int .i64 (parseR s).2] ∧ OwnRu w' w.heap.size r (parseR s).1 ∧ Ext w w') := by
  have hpl : ∀ q r, q ++ r = parts 10 s → ∀ p ∈ q, p.length ≤ s.length := fun q r h p hp => parts_len 10 s p (by rw [← h]; exact List.mem_append_left _ hp)
  refine calls' (n := 32) (rs := #[.cell 2 23, .cell 3 24]) (l := [.string (str s)]) Tryd.func12 rfl rfl rfl rfl rfl ?_
  have hX := Ext.refl w
  refine W_seq ?_
  refine W_region ?_
  refine op_alloc rfl Tryd.zero23 ?_
  intro w0_0 b0_0 E0_0 B0_0 L0_0
  have hG0_0 : w.heap.size ≤ b0_0 := by have := hX.size; omega
  replace hX := hX.trans E0_0
  refine op_alloc rfl Tryd.zero24 ?_
  intro w0_1 b0_1 E0_1 B0_1 L0_1
  have hG0_1 : w.heap.size ≤ b0_1 := by have := hX.size; omega
  have hNb0_0_0_1 : b0_0 ≠ b0_1 := by have := Blk.lt B0_0; omega
  replace B0_0 := Blk.ext B0_0 E0_1
  replace hX := hX.trans E0_1
  refine WL_nil ?_
  refine W_scope ?_
  refine W_seq ?_
  refine W_seq ?_
  refine W_region ?_
  refine op rfl (r_moveV (v := .string _) rfl) ?_
  refine op rfl (rt_len rfl Tryd.underlying9) ?_
  refine op rfl (r_gtr rfl rfl) ?_
  refine WL_nil ?_
  refine W_ifp rfl (fun ht10 => ?_) (fun ht10 => ?_)
  · refine W_seq ?_
    refine W_region ?_
    refine op_store (v := .slice _ _ _) rfl rfl rfl Tryd.sz23 B0_0 (Nat.le_of_ble_eq_true rfl) ?_
    intro w2_0 C2_0 BB2_0
    replace B0_1 := Chg.blk C2_0 B0_1 (fun q => hNb0_0_0_1 q.symm)
    replace hX := hX.chg C2_0 hG0_0
    replace B0_0 := BB2_0
    refine op_store (v := .int _ _) rfl rfl rfl Tryd.sz24 B0_1 (Nat.le_of_ble_eq_true rfl) ?_
    intro w2_1 C2_1 BB2_1
    replace B0_0 := Chg.blk C2_1 B0_0 hNb0_0_0_1
    replace hX := hX.chg C2_1 hG0_1
    replace B0_1 := BB2_1
    refine WL_nil ?_
    refine W_ret (scp_ret (finX_ret ?_))
    first
      | (refine fin_cellVV (v := .slice none 0 0) (v' := .int .i64 3) rfl (Blk.cell B0_0 rfl) Tryd.underlying23 rfl rfl (Blk.cell B0_1 rfl) Tryd.underlying24 rfl ?_
         have hp : parseR s = ([], 3) := by unfold parseR; rw [if_pos (by omega)]
         exact ⟨_, rfl, .slice none 0 0, by rw [hp], by rw [hp]; exact .nil, hX⟩)
      | (have hD12 := chg_heap (chg_heap hDm C12_0 (by omega)) C12_1 (by omega)
         refine fin_mark rfl hD12 ?_
         intro wM hM
         have hTu : Turn w2.heap.size w12_1 wM := by rw [← hM]; exact .putObj _ hDb hD12 rfl
         refine fin_cellVV (v := .slice none 0 0) (v' := .int .i64 3) rfl (Blk.cell (Turn.blk B0_0 hTu) rfl) Tryd.underlying23 rfl rfl (Blk.cell (Turn.blk B0_1 hTu) rfl) Tryd.underlying24 rfl ?_
         have hp : parseR s = ([], 3) := by unfold parseR; rw [if_neg (by omega), q1]; simp only; rw [if_pos (by omega)]
         exact ⟨_, rfl, .slice none 0 0, by rw [hp], by rw [hp]; exact .nil, Turn.ext hX hX2.size hTu⟩)
      | (have hD13 := chg_heap (chg_heap hDm C13_1 (by omega)) C13_2 (by omega)
         refine fin_mark rfl hD13 ?_
         intro wM hM
         have hTu : Turn w2.heap.size w13_2 wM := by rw [← hM]; exact .putObj _ hDb hD13 rfl
         refine fin_cellVV (v := .slice Ao out.length co) (v' := .int .i64 0) rfl (Blk.cell (Turn.blk B0_0 hTu) rfl) Tryd.underlying23 rfl rfl (Blk.cell (Turn.blk B0_1 hTu) rfl) Tryd.underlying24 rfl ?_
         have hp : parseR s = (out, 0) := by unfold parseR; rw [if_neg (by omega), q1]; simp only; rw [if_neg (by omega)]
         have hO1 := q3.keep (w' := w13_1) (fun _ q => q.elim) (fun _ q => q) (fun g hg => C13_1.block g (q3.lt hg).2 (by have := (q3.lt hg).1; omega))
         have hO2 := hO1.keep (w' := w13_2) (fun _ q => q.elim) (fun _ q => q) (fun g hg => C13_2.block g (hO1.lt hg).2 (by have := (hO1.lt hg).1; omega))
         exact ⟨_, rfl, .slice Ao out.length co, by rw [hp], by rw [hp]; exact Own.low (Turn.own hO2 hTu (fun _ q => q.elim)) hX2.size, Turn.ext hX hX2.size hTu⟩)
  · have hs16 : s.length ≤ 16384 := by omega
    refine W_skip ?_
    refine W_seq ?_
    refine W_region ?_
    refine op_alloc rfl Tryd.zero23 ?_
    intro w3_0 b3_0 E3_0 B3_0 L3_0
    have hG3_0 : w.heap.size ≤ b3_0 := by have := hX.size; omega
    have hNb0_0_3_0 : b0_0 ≠ b3_0 := by have := Blk.lt B0_0; omega
    replace B0_0 := Blk.ext B0_0 E3_0
    have hNb0_1_3_0 : b0_1 ≠ b3_0 := by have := Blk.lt B0_1; omega
    replace B0_1 := Blk.ext B0_1 E3_0
    replace hX := hX.trans E3_0
    refine WL_nil ?_
    refine W_seq ?_
    refine W_label ?_
    refine W_seq ?_
    refine W_seq ?_
    refine W_region ?_
    refine op rfl (r_moveV (v := .string _) rfl) ?_
    have hX1 := hX
    have z0 := Blk.lt B0_0
    have z1 := Blk.lt B0_1
    have z3 := Blk.lt B3_0
    refine opCv rfl (r_call Tryd.func27 Tryd.nm27 rfl) (splitSeq_spec s 10 _) ?_
    rintro v w2 ⟨b1, b2, b3, rfl, hE, B1, B2, B3, h12, h23, g1, g2, g3⟩
    replace B0_0 := Blk.ext B0_0 hE
    replace B0_1 := Blk.ext B0_1 hE
    replace B3_0 := Blk.ext B3_0 hE
    replace hX := hX.trans hE
    have l1 := Blk.lt B1
    have l2 := Blk.lt B2
    have l3 := Blk.lt B3
    have hX2 := hX
    have hs0 := hX1.size
    have hs1 := hE.size
    have y1 : b0_0 < w2.heap.size ∧ b0_0 < b1 ∧ b0_0 < b2 ∧ b0_0 < b3 := by omega
    have y2 : b0_1 < w2.heap.size ∧ b0_1 < b1 ∧ b0_1 < b2 ∧ b0_1 < b3 := by omega
    have y3 : b3_0 < w2.heap.size ∧ b3_0 < b1 ∧ b3_0 < b2 ∧ b3_0 < b3 := by omega
    refine WL_nil ?_
    refine W_block ?_
    refine W_rangeFuncZ (Z := (fun b => b = b2)) (encs := fun x => #[.string (str x)]) (Kp := Ks b1 b2 b3) (Pr := (fun xs _ => ∃ r, xs ++ r = parts 10 s)) rfl rfl (callFunc_run Tryd.func63 Tryd.nm63 rfl) (split_iter b1 b2 b3 10 s w2 B1 B2 B3 h12 h23 (by omega)) ((fun k hk => by subst hk; exact l2)) (Ext.refl _) (fun _ => rfl) (fun x => [(13, .string (str x))]) (fun _ => by simp) (fun _ => rfl) [5, 6, 7, 13, 14, 15, 16, 17, 18, 19, 20, 21, 22, 23, 24, 25, 26, 27] (fun x g => g 5 = .string (str x)) (fun xs W => ∃ (out : List Ru) (v : Value), linesR xs = some out ∧ Blk W b3_0 #[v] 23 ∧ OwnRu W w2.heap.size v out ∧ Blk W b0_0 #[.slice none 0 0] 23 ∧ Blk W b0_1 #[.int .i64 0] 24 ∧ Ext w W ∧ w2.heap.size ≤ W.heap.size) (fun c xs W => c = .ret ∧ (∃ p ∈ xs, p ≠ [] ∧ oneR (parts 32 p) = none) ∧ Blk W b0_0 #[.slice none 0 0] 23 ∧ Blk W b0_1 #[.int .i64 11] 24 ∧ Ext w W ∧ w2.heap.size ≤ W.heap.size) (fun h k => Ks.trans h k) (fun W W' hs h => Ks.turn h l1 l2 l3 hs) (fun s W W' ⟨out, v, q1, q2, q3, q4, q5, q6, q7⟩ h => ⟨out, v, q1, Turn.blk q2 h, Turn.own q3 h (fun _ q => q.elim), Turn.blk q4 h, Turn.blk q5 h, Turn.ext q6 hX2.size h, Nat.le_trans q7 h.size⟩) (fun c s W W' ⟨q0, q1, q4, q5, q6, q7⟩ h => ⟨q0, q1, Turn.blk q4 h, Turn.blk q5 h, Turn.ext q6 hX2.size h, Nat.le_trans q7 h.size⟩) (fun _ _ _ h _ => h) (fun s W W' ⟨out, v, q1, q2, q3, q4, q5, q6, q7⟩ h => ⟨out, v, q1, h.blk q2 (by omega), q3.keep (fun _ q => q.elim) (fun _ q => q) (fun g hg => h.block g (q3.lt hg).2 (by have := (q3.lt hg).1; omega)), h.blk q4 (by omega), h.blk q5 (by omega), h.below q6 (fun k hk => by subst hk; omega) q6.size, Nat.le_trans q7 h.size⟩) (fun c s W W' ⟨q0, q1, q4, q5, q6, q7⟩ h => ⟨q0, q1, h.blk q4 (by omega), h.blk q5 (by omega), h.below q6 (fun k hk => by subst hk; omega) q6.size, Nat.le_trans q7 h.size⟩) (⟨[], _, rfl, B3_0, .nil, B0_0, B0_1, hX, Nat.le_refl _⟩) ?_ ?_ ?_ ?_
    · intro l pre x w' hI hP
      dsimp only [putL]
      refine W_region ?_
      refine op rfl (r_assignV (v := .string _) rfl) ?_
      refine WL_nil ?_
      refine ⟨?_, by repeat (first | with_reducible exact Out.refl _ _ | with_reducible exact Out.mix | refine Out.put rfl ?_ | refine Out.mixin rfl ?_ | exact Out.refl _ _ | exact Out.mix)⟩
      exact ⟨Nc.of_ext (Ext.refl _), ⟨Nat.le_refl _, rfl, rfl, rfl⟩, hI, hP, rfl⟩
    · intro l pre x g w' hI hP hA
      have h5 := hA
      obtain ⟨out, vo, q1, q2, q3, q4, q5, q6, q7⟩ := hI
      clear hX B3_0 B0_0 B0_1
      have hX := Ext.refl w'
      obtain ⟨w0i, hw0i⟩ : ∃ y, y = w' := ⟨_, rfl⟩
      subst hw0i
      have B3_0 := q2
      have B0_0 := q4
      have B0_1 := q5
      obtain ⟨pr, hpr⟩ := hP
      have hxl := hpl _ _ hpr x (by simp)
      have hlr := lines_right q1
      have hGi := hG.ext q6
      refine W_set (i := 5) h5 ?_
      refine W_block ?_
      refine W_seq ?_
      refine W_seq ?_
      refine W_region ?_
      refine op rfl (r_moveV (v := .string _) rfl) ?_
      refine op rfl (rt_eql rfl rfl) ?_
      refine WL_nil ?_
      refine W_ifp rfl (fun ht15 => ?_) (fun ht15 => ?_)
      · refine W_exit (blk_hit ?_)
        first
          | exact ⟨Nc.of_ext hX, Ks.ext hX (by omega) (by omega) (by omega), ⟨out, vo, by rw [ht15]; exact lines_snil q1, B3_0, q3.ext hX (fun _ q => q.elim), B0_0, B0_1, q6.trans hX, Nat.le_trans q7 hX.size⟩⟩
          | exact ⟨((Nc.of_ext hX10).trans (Nc.of_gro hG13 hO10)).trans (Nc.of_chg C14 hb13), (Ks.ext hX10 (by omega) (by omega) (by omega)).trans (Ks.trans ⟨hG13.size, hG13.block b1 (by have := hX10.size; omega) (fun q => by have := (hO10.lt q).1; omega), hG13.block b2 (by have := hX10.size; omega) (fun q => by have := (hO10.lt q).1; omega), hG13.block b3 (by have := hX10.size; omega) (fun q => by have := (hO10.lt q).1; omega)⟩ ⟨C14.size, C14.block b1 (by have := hX10.size; have := hG13.size; omega) (by omega), C14.block b2 (by have := hX10.size; have := hG13.size; omega) (by omega), C14.block b3 (by have := hX10.size; have := hG13.size; omega) (by omega)⟩), ⟨out ++ [r1], v13, lines_snoc q1 ht15 hone, BB14, hO13.keep (fun _ q => q.elim) (fun _ q => q) (fun g hg => C14.block g (hO13.lt hg).2 (by have := (hO13.lt hg).1; omega)), Chg.blk C14 hb0 (by omega), Chg.blk C14 hb1 (by omega), hX14, by have := hX10.size; have := hG13.size; have := C14.size; omega⟩⟩
      · refine W_skip ?_
        refine W_seq ?_
        refine W_region ?_
        refine op rfl (r_moveV (v := .string _) rfl) ?_
        refine opCv rfl (r_call Tryd.func29 Tryd.nm29 rfl) (split_spec x 32 _ (hGi.ext hX) (by omega)) ?_
        rintro v7 w7 ⟨b7, rfl, hr7, hE⟩
        replace B0_0 := Blk.ext B0_0 hE
        replace B0_1 := Blk.ext B0_1 hE
        replace B3_0 := Blk.ext B3_0 hE
        replace hX := hX.trans hE
        have hsp := one_spec (c := (parts 32 x).length) (hGi.ext hX) hr7 (List.length_pos_iff.2 (parts_ne 32 x)) (by have := parts_cnt 32 x; omega) (fun p hp => by have := parts_len 32 x p hp; omega)
        refine opCv rfl (r_call Tryd.func28 Tryd.nm28 rfl) (hsp) ?_
        rintro v7b w7b ⟨⟨r1, rfl, hr1⟩, hE⟩
        replace B0_0 := Blk.ext B0_0 hE
        replace B0_1 := Blk.ext B0_1 hE
        replace B3_0 := Blk.ext B3_0 hE
        replace hX := hX.trans hE
        refine op rfl (r_moveV (v := .tuple #[.agg r1.vals.toArray, .bool (decide ((oneR (parts 32 x)).isSome = true))]) rfl) ?_
        refine op rfl (r_extract (vs := [.agg r1.vals.toArray, .bool (decide ((oneR (parts 32 x)).isSome = true))]) rfl rfl) ?_
        refine op rfl (r_extract (vs := [.agg r1.vals.toArray, .bool (decide ((oneR (parts 32 x)).isSome = true))]) rfl rfl) ?_
        refine op_alloc rfl Tryd.zero35 ?_
        intro w7_6 b7_6 E7_6 B7_6 L7_6
        have hG7_6 : w0i.heap.size ≤ b7_6 := by have := hX.size; omega
        have hNb0_0_7_6 : b0_0 ≠ b7_6 := by have := Blk.lt B0_0; omega
        replace B0_0 := Blk.ext B0_0 E7_6
        have hNb0_1_7_6 : b0_1 ≠ b7_6 := by have := Blk.lt B0_1; omega
        replace B0_1 := Blk.ext B0_1 E7_6
        have hNb3_0_7_6 : b3_0 ≠ b7_6 := by have := Blk.lt B3_0; omega
        replace B3_0 := Blk.ext B3_0 E7_6
        replace hX := hX.trans E7_6
        refine op_storeRow rfl rfl Tryd.sz35 B7_6 rfl rfl ?_
        intro w7_7 C7_7 BB7_7
        replace B0_0 := Chg.blk C7_7 B0_0 hNb0_0_7_6
        replace B0_1 := Chg.blk C7_7 B0_1 hNb0_1_7_6
        replace B3_0 := Chg.blk C7_7 B3_0 hNb3_0_7_6
        replace hX := hX.chg C7_7 hG7_6
        replace B7_6 := BB7_7
        refine op rfl (r_assignV (v := .bool (decide ((oneR (parts 32 x)).isSome = true))) rfl) ?_
        refine WL_nil ?_
        refine W_seq ?_
        refine W_seq ?_
        refine W_region ?_
        refine op rfl (r_moveV (v := .bool (decide ((oneR (parts 32 x)).isSome = true))) rfl) ?_
        refine op rfl (r_notP rfl) ?_
        refine WL_nil ?_
        refine W_ifp rfl (fun ht23 => ?_) (fun ht23 => ?_)
        · have hone : oneR (parts 32 x) = none := by
            cases h : oneR (parts 32 x) with
            | none => rfl
            | some y => rw [h] at ht23; exact absurd rfl ht23
          have hX9 := hX
          have hs9 := hX9.size
          clear hX
          have hX := q6.trans hX9
          have B90 := B0_0
          refine W_seq ?_
          refine W_region ?_
          refine op_store (v := .slice _ _ _) rfl rfl rfl Tryd.sz23 B0_0 (Nat.le_of_ble_eq_true rfl) ?_
          intro w9_0 C9_0 BB9_0
          replace B0_1 := Chg.blk C9_0 B0_1 (fun q => hNb0_0_0_1 q.symm)
          replace B3_0 := Chg.blk C9_0 B3_0 (fun q => hNb0_0_3_0 q.symm)
          replace B7_6 := Chg.blk C9_0 B7_6 (fun q => hNb0_0_7_6 q.symm)
          replace hX := hX.chg C9_0 hG0_0
          replace B0_0 := BB9_0
          have B91 := B0_1
          refine op_store (v := .int _ _) rfl rfl rfl Tryd.sz24 B0_1 (Nat.le_of_ble_eq_true rfl) ?_
          intro w9_1 C9_1 BB9_1
          replace B0_0 := Chg.blk C9_1 B0_0 hNb0_0_0_1
          replace B3_0 := Chg.blk C9_1 B3_0 (fun q => hNb0_1_3_0 q.symm)
          replace B7_6 := Chg.blk C9_1 B7_6 (fun q => hNb0_1_7_6 q.symm)
          replace hX := hX.chg C9_1 hG0_1
          replace B0_1 := BB9_1
          refine WL_nil ?_
          refine W_ret (blk_ret (?_))
          exact ⟨((Nc.of_ext hX9).trans (Nc.of_chg C9_0 B90)).trans (Nc.of_chg C9_1 B91), rfl, ⟨x, by simp, ht15, hone⟩, B0_0, B0_1, hX, by have := hX9.size; have := C9_0.size; have := C9_1.size; omega⟩
        · obtain ⟨y, hy⟩ : ∃ y, oneR (parts 32 x) = some y := Option.isSome_iff_exists.1 (Classical.not_not.1 ht23)
          obtain rfl := hr1 y hy
          have hone : oneR (parts 32 x) = some r1 := hy
          have hri := (one_line hone).1
          obtain ⟨Ao, co, hvo, hco, hro⟩ := own_frow q3
          subst hvo
          refine W_skip ?_
          refine W_region ?_
          refine op rfl (r_load (v := .slice Ao out.length co) rfl Tryd.underlying23 rfl (Blk.cell B3_0 rfl)) ?_
          refine op rfl (r_loadRow rfl B7_6 Tryd.underlying35 rfl Tryd.sz35) ?_
          refine op_newS rfl (r_buildRows (vs := [r1.vals]) Tryd.underlying23 Tryd.sz35 Tryd.zero35 rfl rfl rfl) ?_
          intro w10_2 b10_2 E10_2 B10_2 L10_2
          have B10 : Blk w10_2 b10_2 r1.vals.toArray 35 := B10_2
          replace hX := hX.trans E10_2
          replace B3_0 := Blk.ext B3_0 E10_2
          replace B0_0 := Blk.ext B0_0 E10_2
          replace B0_1 := Blk.ext B0_1 E10_2
          have hX10 := hX
          have hO10 := q3.ext hX (fun _ q => q.elim)
          have hcnt := parts_cnt 10 s
          have hxc : (pre ++ [x]).length ≤ (parts 10 s).length := by rw [← hpr]; simp
          have hxl2 : out.length ≤ pre.length := hlr.2.2
          refine op_append (T := ruT) (F := nobody) (l := out) (m := [r1]) rfl rfl rfl Tryd.underlying23 Tryd.sz35 Tryd.by35 Tryd.zero35 rfl hO10 (Src.blk B10 (ru_right hri)) (fun _ q => q.elim) (by simp at hxc ⊢; omega) (by simp at hxc ⊢; omega) (by have := hX10.size; omega) ?_
          intro v13 w13 hO13 hG13 hv13
          have hne : ∀ b, b < w2.heap.size → (Value.slice Ao out.length co).ownBlock ≠ some b := fun b hb q => by have := (hO10.lt q).1; omega
          have hb13 := gro_blk hG13 B3_0 (hne _ y3.1)
          have hb0 := gro_blk hG13 B0_0 (hne _ y1.1)
          have hb1 := gro_blk hG13 B0_1 (hne _ y2.1)
          have hX13 : Ext w w13 := (q6.trans hX).gro hG13 (q6.trans hX).size (fun k hk => by have := (hO10.lt hk).1; have := hX2.size; omega)
          refine op_store (v := v13) rfl rfl (own_cell hO13) Tryd.sz23 hb13 (Nat.le_of_ble_eq_true rfl) ?_
          intro w14 C14 BB14
          have hX14 : Ext w w14 := Chg.ext hX13 hG3_0 C14
          refine WL_nil ?_
          first
            | exact ⟨Nc.of_ext hX, Ks.ext hX (by omega) (by omega) (by omega), ⟨out, vo, by rw [ht15]; exact lines_snil q1, B3_0, q3.ext hX (fun _ q => q.elim), B0_0, B0_1, q6.trans hX, Nat.le_trans q7 hX.size⟩⟩
            | exact ⟨((Nc.of_ext hX10).trans (Nc.of_gro hG13 hO10)).trans (Nc.of_chg C14 hb13), (Ks.ext hX10 (by omega) (by omega) (by omega)).trans (Ks.trans ⟨hG13.size, hG13.block b1 (by have := hX10.size; omega) (fun q => by have := (hO10.lt q).1; omega), hG13.block b2 (by have := hX10.size; omega) (fun q => by have := (hO10.lt q).1; omega), hG13.block b3 (by have := hX10.size; omega) (fun q => by have := (hO10.lt q).1; omega)⟩ ⟨C14.size, C14.block b1 (by have := hX10.size; have := hG13.size; omega) (by omega), C14.block b2 (by have := hX10.size; have := hG13.size; omega) (by omega), C14.block b3 (by have := hX10.size; have := hG13.size; omega) (by omega)⟩), ⟨out ++ [r1], v13, lines_snoc q1 ht15 hone, BB14, hO13.keep (fun _ q => q.elim) (fun _ q => q) (fun g hg => C14.block g (hO13.lt hg).2 (by have := (hO13.lt hg).1; omega)), Chg.blk C14 hb0 (by omega), Chg.blk C14 hb1 (by omega), hX14, by have := hX10.size; have := hG13.size; have := C14.size; omega⟩⟩
    · intro Db xs w' hDb hS hI hP hD
      obtain ⟨out, vo, q1, q2, q3, q4, q5, q6, q7⟩ := hI
      clear hX B3_0 B0_0 B0_1
      have hX := q6
      have B3_0 := q2
      have B0_0 := q4
      have B0_1 := q5
      have hDm := hD
      have hS7 : xs = parts 10 s := hS
      rw [hS7] at q1
      obtain ⟨Ao, co, rfl, hco, hro⟩ := own_frow q3
      have hlr := lines_right q1
      clear hD hS
      refine W_seq ?_
      refine W_seq ?_
      refine W_region ?_
      refine op rfl (r_load (v := .slice Ao out.length co) rfl Tryd.underlying23 rfl (Blk.cell B3_0 rfl)) ?_
      refine op rfl (r_len_slice rfl Tryd.underlying23) ?_
      refine op rfl (r_gtr rfl rfl) ?_
      refine WL_nil ?_
      refine W_ifp rfl (fun ht30 => ?_) (fun ht30 => ?_)
      · refine W_seq ?_
        refine W_region ?_
        refine op_store (v := .slice _ _ _) rfl rfl rfl Tryd.sz23 B0_0 (Nat.le_of_ble_eq_true rfl) ?_
        intro w12_0 C12_0 BB12_0
        replace B0_1 := Chg.blk C12_0 B0_1 (fun q => hNb0_0_0_1 q.symm)
        replace B3_0 := Chg.blk C12_0 B3_0 (fun q => hNb0_0_3_0 q.symm)
        replace hX := hX.chg C12_0 hG0_0
        replace B0_0 := BB12_0
        refine op_store (v := .int _ _) rfl rfl rfl Tryd.sz24 B0_1 (Nat.le_of_ble_eq_true rfl) ?_
        intro w12_1 C12_1 BB12_1
        replace B0_0 := Chg.blk C12_1 B0_0 hNb0_0_0_1
        replace B3_0 := Chg.blk C12_1 B3_0 (fun q => hNb0_1_3_0 q.symm)
        replace hX := hX.chg C12_1 hG0_1
        replace B0_1 := BB12_1
        refine WL_nil ?_
        refine W_ret (scp_ret (finX_ret ?_))
        first
          | (refine fin_cellVV (v := .slice none 0 0) (v' := .int .i64 3) rfl (Blk.cell B0_0 rfl) Tryd.underlying23 rfl rfl (Blk.cell B0_1 rfl) Tryd.underlying24 rfl ?_
             have hp : parseR s = ([], 3) := by unfold parseR; rw [if_pos (by omega)]
             exact ⟨_, rfl, .slice none 0 0, by rw [hp], by rw [hp]; exact .nil, hX⟩)
          | (have hD12 := chg_heap (chg_heap hDm C12_0 (by omega)) C12_1 (by omega)
             refine fin_mark rfl hD12 ?_
             intro wM hM
             have hTu : Turn w2.heap.size w12_1 wM := by rw [← hM]; exact .putObj _ hDb hD12 rfl
             refine fin_cellVV (v := .slice none 0 0) (v' := .int .i64 3) rfl (Blk.cell (Turn.blk B0_0 hTu) rfl) Tryd.underlying23 rfl rfl (Blk.cell (Turn.blk B0_1 hTu) rfl) Tryd.underlying24 rfl ?_
             have hp : parseR s = ([], 3) := by unfold parseR; rw [if_neg (by omega), q1]; simp only; rw [if_pos (by omega)]
             exact ⟨_, rfl, .slice none 0 0, by rw [hp], by rw [hp]; exact .nil, Turn.ext hX hX2.size hTu⟩)
          | (have hD13 := chg_heap (chg_heap hDm C13_1 (by omega)) C13_2 (by omega)
             refine fin_mark rfl hD13 ?_
             intro wM hM
             have hTu : Turn w2.heap.size w13_2 wM := by rw [← hM]; exact .putObj _ hDb hD13 rfl
             refine fin_cellVV (v := .slice Ao out.length co) (v' := .int .i64 0) rfl (Blk.cell (Turn.blk B0_0 hTu) rfl) Tryd.underlying23 rfl rfl (Blk.cell (Turn.blk B0_1 hTu) rfl) Tryd.underlying24 rfl ?_
             have hp : parseR s = (out, 0) := by unfold parseR; rw [if_neg (by omega), q1]; simp only; rw [if_neg (by omega)]
             have hO1 := q3.keep (w' := w13_1) (fun _ q => q.elim) (fun _ q => q) (fun g hg => C13_1.block g (q3.lt hg).2 (by have := (q3.lt hg).1; omega))
             have hO2 := hO1.keep (w' := w13_2) (fun _ q => q.elim) (fun _ q => q) (fun g hg => C13_2.block g (hO1.lt hg).2 (by have := (hO1.lt hg).1; omega))
             exact ⟨_, rfl, .slice Ao out.length co, by rw [hp], by rw [hp]; exact Own.low (Turn.own hO2 hTu (fun _ q => q.elim)) hX2.size, Turn.ext hX hX2.size hTu⟩)
      · refine W_skip ?_
        refine W_seq ?_
        refine W_region ?_
        refine op rfl (r_load (v := .slice Ao out.length co) rfl Tryd.underlying23 rfl (Blk.cell B3_0 rfl)) ?_
        refine op_store (v := .slice _ _ _) rfl rfl rfl Tryd.sz23 B0_0 (Nat.le_of_ble_eq_true rfl) ?_
        intro w13_1 C13_1 BB13_1
        replace B0_1 := Chg.blk C13_1 B0_1 (fun q => hNb0_0_0_1 q.symm)
        replace B3_0 := Chg.blk C13_1 B3_0 (fun q => hNb0_0_3_0 q.symm)
        replace hX := hX.chg C13_1 hG0_0
        replace B0_0 := BB13_1
        refine op_store (v := .int _ _) rfl rfl rfl Tryd.sz24 B0_1 (Nat.le_of_ble_eq_true rfl) ?_
        intro w13_2 C13_2 BB13_2
        replace B0_0 := Chg.blk C13_2 B0_0 hNb0_0_0_1
        replace B3_0 := Chg.blk C13_2 B3_0 (fun q => hNb0_1_3_0 q.symm)
        replace hX := hX.chg C13_2 hG0_1
        replace B0_1 := BB13_2
        refine WL_nil ?_
        refine W_ret (scp_ret (finX_ret ?_))
        first
          | (refine fin_cellVV (v := .slice none 0 0) (v' := .int .i64 3) rfl (Blk.cell B0_0 rfl) Tryd.underlying23 rfl rfl (Blk.cell B0_1 rfl) Tryd.underlying24 rfl ?_
             have hp : parseR s = ([], 3) := by unfold parseR; rw [if_pos (by omega)]
             exact ⟨_, rfl, .slice none 0 0, by rw [hp], by rw [hp]; exact .nil, hX⟩)
          | (have hD12 := chg_heap (chg_heap hDm C12_0 (by omega)) C12_1 (by omega)
             refine fin_mark rfl hD12 ?_
             intro wM hM
             have hTu : Turn w2.heap.size w12_1 wM := by rw [← hM]; exact .putObj _ hDb hD12 rfl
             refine fin_cellVV (v := .slice none 0 0) (v' := .int .i64 3) rfl (Blk.cell (Turn.blk B0_0 hTu) rfl) Tryd.underlying23 rfl rfl (Blk.cell (Turn.blk B0_1 hTu) rfl) Tryd.underlying24 rfl ?_
             have hp : parseR s = ([], 3) := by unfold parseR; rw [if_neg (by omega), q1]; simp only; rw [if_pos (by omega)]
             exact ⟨_, rfl, .slice none 0 0, by rw [hp], by rw [hp]; exact .nil, Turn.ext hX hX2.size hTu⟩)
          | (have hD13 := chg_heap (chg_heap hDm C13_1 (by omega)) C13_2 (by omega)
             refine fin_mark rfl hD13 ?_
             intro wM hM
             have hTu : Turn w2.heap.size w13_2 wM := by rw [← hM]; exact .putObj _ hDb hD13 rfl
             refine fin_cellVV (v := .slice Ao out.length co) (v' := .int .i64 0) rfl (Blk.cell (Turn.blk B0_0 hTu) rfl) Tryd.underlying23 rfl rfl (Blk.cell (Turn.blk B0_1 hTu) rfl) Tryd.underlying24 rfl ?_
             have hp : parseR s = (out, 0) := by unfold parseR; rw [if_neg (by omega), q1]; simp only; rw [if_neg (by omega)]
             have hO1 := q3.keep (w' := w13_1) (fun _ q => q.elim) (fun _ q => q) (fun g hg => C13_1.block g (q3.lt hg).2 (by have := (q3.lt hg).1; omega))
             have hO2 := hO1.keep (w' := w13_2) (fun _ q => q.elim) (fun _ q => q) (fun g hg => C13_2.block g (hO1.lt hg).2 (by have := (hO1.lt hg).1; omega))
             exact ⟨_, rfl, .slice Ao out.length co, by rw [hp], by rw [hp]; exact Own.low (Turn.own hO2 hTu (fun _ q => q.elim)) hX2.size, Turn.ext hX hX2.size hTu⟩)
    · intro Db c pre w' hDb hS hI hD
      obtain ⟨rfl, ⟨p, hp, hpn, hn⟩, q4, q5, q6, q7⟩ := hI
      obtain ⟨r, hr⟩ := hS
      refine W_ret (blk_ret (scp_ret (finX_ret ?_)))
      refine fin_mark rfl hD ?_
      intro wM hM
      have hTu : Turn w2.heap.size w' wM := by rw [← hM]; exact .putObj _ hDb hD rfl
      refine fin_cellVV (v := .slice none 0 0) (v' := .int .i64 11) rfl (Blk.cell (Turn.blk q4 hTu) rfl) Tryd.underlying23 rfl rfl (Blk.cell (Turn.blk q5 hTu) rfl) Tryd.underlying24 rfl ?_
      have hpb : parseR s = ([], 11) := by
        unfold parseR
        rw [if_neg (by omega), lines_bad hpn hn (by rw [← hr]; exact List.mem_append_left _ hp)]
      exact ⟨_, rfl, .slice none 0 0, by rw [hpb], by rw [hpb]; exact .nil, Turn.ext q6 hX2.size hTu⟩
end Go.Proofs.YtafcaigjijajnaaDoor
