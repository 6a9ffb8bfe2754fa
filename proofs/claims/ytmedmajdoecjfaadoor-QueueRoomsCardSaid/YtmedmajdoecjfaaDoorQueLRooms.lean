/-
  As many wait as there is room for: the walk.
-/
import Derived.Test.YtmedmajdoecjfaaDoorFacts
import Derived.Test.YtmedmajdoecjfaaDoorQueK
namespace Go.Proofs.YtmedmajdoecjfaaDoor
open Go Go.Eng Go.RowKit Go.Proofs
set_option linter.unusedVariables false
set_option linter.unusedSimpArgs false
set_option maxHeartbeats 1000000
set_option maxRecDepth 20000

/-- One change: b is in a. -/
abbrev oneB : List Dl := [⟨2, [97], [98]⟩]
/-- Some wait, of numbers below one. -/
structure Wt (q : Qs) (t : Tree) (n : Int) (i : Int) : Prop where
  h : q.H = [⟨[], t⟩]
  ro : q.room = n
  wl : (q.ws.length : Int) = i - 1
  no : ∀ k, i ≤ k → q.tk k = none
  yes : ∀ k, 1 ≤ k → k < i → (q.tk k).isSome = true
  ids : ∀ r ∈ q.ws, 1 ≤ r.id ∧ r.id < i ∧ 0 ≤ r.base
theorem Wt.sub {q : Qs} {t : Tree} {n i : Int} (h : Wt q t n i) (h1 : 1 ≤ i) (h2 : i ≤ n) : submitR q ⟨i, 0, oneB⟩ = ({ q with ws := q.ws ++ [⟨i, 0, oneB⟩], tk := setK q.tk i none }, 0) ∧ Wt { q with ws := q.ws ++ [⟨i, 0, oneB⟩], tk := setK q.tk i none } t n (i + 1) := by
  have hl := h.wl
  have hr := h.ro
  refine ⟨sub0 (fun k => k.elim (fun k => by have : i < 1 := k; omega) (fun k => by cases k)) (fun k => k.elim (fun k => by have : (0 : Int) < 0 := k; omega) (fun k => by rw [h.h] at k; have : (0 : Int) > 1 - 1 := k; omega)) (by show ¬ (q.tk i).isSome = true; rw [h.no i (Int.le_refl i)]; simp) (by omega), ⟨h.h, h.ro, ?_, fun k hk => ?_, fun k hk1 hk2 => ?_, fun r hr' => ?_⟩⟩
  · simp; omega
  · show setK q.tk i none k = none
    unfold setK
    rw [if_neg (by omega)]
    exact h.no k (by omega)
  · show (setK q.tk i none k).isSome = true
    unfold setK
    by_cases hki : k = i
    · rw [if_pos hki]; rfl
    · rw [if_neg hki]; exact h.yes k hk1 (by omega)
  · rcases List.mem_append.1 hr' with k | k
    · obtain ⟨a, b, c⟩ := h.ids r k
      exact ⟨a, by omega, c⟩
    · rw [List.mem_singleton.1 k]
      exact ⟨h1, by show i < i + 1; omega, Int.le_refl 0⟩
theorem Wt.full {q : Qs} {t : Tree} {n : Int} (h : Wt q t n (n + 1)) (h1 : 1 ≤ n) : submitR q ⟨n + 1, 0, oneB⟩ = (q, 8) :=
  sub8 (fun k => k.elim (fun k => by have : n + 1 < 1 := k; omega) (fun k => by cases k)) (fun k => k.elim (fun k => by have : (0 : Int) < 0 := k; omega) (fun k => by rw [h.h] at k; have : (0 : Int) > 1 - 1 := k; omega)) (by show ¬ (q.tk (n + 1)).isSome = true; rw [h.no _ (Int.le_refl _)]; simp) (by have := h.wl; have := h.ro; omega)
/-- The first one is answered. -/
theorem Wt.step {q : Qs} {t : Tree} {n : Int} (h : Wt q t n (n + 1)) (h1 : 1 ≤ n) : ∃ a q', stepQ q false = (q', a, true) ∧ a.kind = 3 ∧ q'.H = [⟨[], t⟩] ∧ q'.room = n ∧ (q'.ws.length : Int) = n - 1 ∧ q'.tk (n + 1) = none ∧ (q'.tk 1).isSome = true ∧ ∀ r ∈ q'.ws, 1 ≤ r.id := by
  have hl := h.wl
  cases hws : q.ws with
  | nil => rw [hws] at hl; simp at hl; omega
  | cons r ws =>
    have hr := h.ids r (by rw [hws]; exact List.mem_cons_self)
    have ha : answerR q.H r false = (q.H, ⟨r.id, 3, 0, 0⟩) := by
      rw [h.h]; exact ans3 (notlate_fresh hr.2.2) rfl
    refine ⟨⟨r.id, 3, 0, 0⟩, { q with ws := ws, tk := setK q.tk r.id (some ⟨r.id, 3, 0, 0⟩) }, ?_, rfl, h.h, h.ro, ?_, ?_, ?_, fun x hx => (h.ids x (by rw [hws]; exact List.mem_cons_of_mem _ hx)).1⟩
    · unfold stepQ; rw [hws]; simp only; rw [ha]
    · rw [hws] at hl; simp at hl ⊢; omega
    · show setK q.tk r.id _ (n + 1) = none
      unfold setK; rw [if_neg (by omega)]; exact h.no _ (Int.le_refl _)
    · show (setK q.tk r.id _ 1).isSome = true
      unfold setK
      by_cases hk : (1 : Int) = r.id
      · rw [if_pos hk]; rfl
      · rw [if_neg hk]; exact h.yes 1 (Int.le_refl 1) (by omega)
theorem one_row {w : World} {b4 b5 : Nat} {fr : Nat × Nat} (B4 : w.heap[b4]? = some (.cells #[.int .u8 98] 5 fr)) (B5 : Blk w b5 #[.int .i64 2, .string (str [97]), .slice (some ⟨b4, 0, none⟩) 1 1] 38) : dlT.Row w (fun k => k = b4 ∨ k = b5) (some ⟨b5, 0, none⟩) oneB := Blk.row B5 (Or.inr rfl) (fun i hi => by
  obtain rfl : i = 0 := by simp at hi; omega
  refine ⟨_, dl_mk (x := ⟨2, [97], [98]⟩) (A := some ⟨b4, 0, none⟩) (c := 1) (by decide) (by simp) (by simp) (by simp) (Or.inr ⟨b4, 0, _, _, fr, rfl, Or.inl rfl, B4, fun j hj => ?_⟩), fun j hj => by simp⟩
  obtain rfl : j = 0 := by simp at hj; omega
  exact ⟨[.int .u8 98], ⟨rfl, trivial⟩, fun k hk => by
    have e : Ty.byte.sz = 1 := rfl
    rw [e] at hk
    obtain rfl : k = 0 := by omega
    rfl⟩)
theorem queueRooms_walk {a : Int} (ha : 0 ≤ a ∧ a ≤ 255) (w : World) :
    Calls Tryd.prog 4 #[.int .u8 a] w (fun en w' => ∃ v, en = .returned v ∧ v = .bool true ∧ Ext w w') := by
  obtain ⟨n, hn⟩ : ∃ n : Int, n = 1 + a % 30 := ⟨_, rfl⟩
  have hn1 : 1 ≤ n ∧ n ≤ 30 := by omega
  refine calls' (n := 95) (rs := #[.tmp 2]) (l := [.int .u8 a]) Tryd.func4 rfl rfl rfl rfl rfl ?_
  have hX := Ext.refl w
  refine W_seq ?_
  refine W_region ?_
  refine op rfl (r_assignV (v := .bool _) rfl) ?_
  refine WL_nil ?_
  refine W_seq ?_
  refine W_region ?_
  refine op rfl (r_moveV (v := .int .u8 a) rfl) ?_
  refine op rfl (r_conv' (r := a) rfl Tryd.underlying5 Tryd.underlying3 (wrap_i64 (by omega) (by omega))) ?_
  refine op rfl (r_rem' (r := a % 30) rfl rfl (by decide) (Int.tmod_eq_emod_of_nonneg ha.1)) ?_
  refine op rfl (r_add' (r := n) rfl rfl (by rw [wrap_i64 (by omega) (by omega)]; omega)) ?_
  refine op rfl (r_assignV (v := .int _ _) rfl) ?_
  refine WL_nil ?_
  refine W_seq ?_
  refine W_region ?_
  refine op rfl (r_build (cs := [.string (str [97]), .slice none 0 0]) Tryd.lay35 (List.forall_mem_cons.2 ⟨rfl, fun _ h => absurd h List.not_mem_nil⟩) rfl rfl) ?_
  refine op_newS rfl (r_buildRows (vs := [[.string (str [97]), .slice none 0 0]]) Tryd.underlying23 Tryd.sz35 Tryd.zero35 rfl rfl rfl) ?_
  intro w2 b2 E2 B2 L2
  replace hX := hX.trans E2
  have hrow2 : fiT.Row w2 (fun k => k = b2) (some ⟨b2, 0, none⟩) [⟨[97], []⟩] := Blk.row B2 rfl (fun i hi => by
    obtain rfl : i = 0 := by simp at hi; omega
    exact ⟨_, fi_mk (x := ⟨[97], []⟩) (A := none) (c := 0) (by simp) (by simp) (by simp) (Or.inl rfl), fun j hj => by simp⟩)
  refine opCv rfl (r_call Tryd.func13 Tryd.nm13 rfl) (que_new2 (t := [⟨[97], []⟩]) (cap := 1) (G := fun k ↦ k = b2) (fun k hk ↦ by subst hk; exact Blk.lt B2) hrow2 right_a) ?_
  rintro v3 w3 ⟨ph, rfl, hH, hE⟩
  replace hX := hX.trans hE
  have hX3 := hX
  have hs2 := E2.size
  refine op rfl (r_moveV (v := .tuple #[hp ph, .int .i64 0]) rfl) ?_
  refine op rfl (r_extract (vs := [hp ph, .int .i64 0]) rfl rfl) ?_
  refine op rfl (r_extract (vs := [hp ph, .int .i64 0]) rfl rfl) ?_
  refine op rfl (r_assignV (v := hp ph) rfl) ?_
  refine op rfl (r_assignV (v := .int .i64 0) rfl) ?_
  refine WL_nil ?_
  refine W_seq ?_
  refine W_region ?_
  refine op rfl (r_moveV (v := hp ph) rfl) ?_
  refine op rfl (r_moveV (v := .int _ _) rfl) ?_
  refine opCv rfl (r_call Tryd.func14 Tryd.nm14 rfl) (que_new_spec hH n (by constructor <;> simp only [lo, hi] <;> omega)) ?_
  rintro v4 w4 ⟨pq, rfl, hQ, hE⟩
  replace hX := hX.trans hE
  have hX4 := hX
  have hro : max 1 (min n 100) = n := by omega
  rw [hro] at hQ
  refine op rfl (r_assignV (v := .pointer _) rfl) ?_
  refine WL_nil ?_
  refine W_seq ?_
  refine W_region ?_
  refine op_newS rfl (r_buildSlice (vs := [.int .u8 98]) Tryd.underlying24 Tryd.sz5 Tryd.zero5 rfl rfl rfl) ?_
  intro w5 b4 E5 B5 L5
  replace hX := hX.trans E5
  refine op_convB rfl rfl Tryd.underlying24 Tryd.underlying5 B5 ?_
  intro w4_1 C4_1 B4_1
  have hX41 : Ext w w4_1 := Chg.ext hX (by have := hX4.size; omega) C4_1
  clear hX
  have hX := hX41
  refine op rfl (r_build (cs := [.int .i64 2, .string (str [97]), .slice (some ⟨b4, 0, none⟩) 1 1]) Tryd.lay38 (List.forall_mem_cons.2 ⟨rfl, List.forall_mem_cons.2 ⟨rfl, List.forall_mem_cons.2 ⟨rfl, fun _ h => absurd h List.not_mem_nil⟩⟩⟩) rfl rfl) ?_
  refine op_newS rfl (r_buildRows (vs := [[.int .i64 2, .string (str [97]), .slice (some ⟨b4, 0, none⟩) 1 1]]) Tryd.underlying39 Tryd.sz38 Tryd.zero38 rfl rfl rfl) ?_
  intro w6 b5 E6 B6 L6
  replace hX := hX.trans E6
  have hs3 := hX3.size
  have hs4 := hX4.size
  have hs5 := E5.size
  have hs41 := C4_1.size
  have hs6 := E6.size
  have lb4 := Blk.lt B5
  have lb5 := Blk.lt B6
  have hone : dlT.Row w6 (fun k => k = b4 ∨ k = b5) (some ⟨b5, 0, none⟩) oneB := one_row (fr := (1, 2)) (by rw [E6.block b4 (by omega)]; exact B4_1) B6
  have hQ6 : Que pq ph (fun b => w.heap.size ≤ b ∧ b ≠ b4 ∧ b ≠ b5 ∧ b < w6.heap.size) w6 ⟨[⟨[], [⟨[97], []⟩]⟩], [], n, fun _ => none⟩ := (hQ.lt.keep (w' := w6) (by omega) (fun b hb => by
    have := hb.2
    rw [E6.block b (by omega), C4_1.block b (by omega) (by omega), E5.block b hb.2])).widen (fun b hb => by
    have := hb.2
    rcases hb.1 with k | k
    · have := k.1; have := k.2; exact ⟨by omega, by omega, by omega, by omega⟩
    · have := k.1; exact ⟨by omega, by omega, by omega, by omega⟩)
  refine op rfl (r_assignV (v := .slice _ _ _) rfl) ?_
  refine WL_nil ?_
  refine W_seq ?_
  refine W_seq ?_
  refine W_region ?_
  refine op rfl (r_assignV (v := .int _ _) rfl) ?_
  refine WL_nil ?_
  refine W_block ?_
  refine W_loop [2, 8, 31, 32, 33, 34, 35, 36, 37, 38, 39, 40, 41] (fun qq e' w' => ∃ (i : Nat) (q : Qs) (Z : Nat → Prop), qq = n.toNat + 1 - i ∧ 1 ≤ i ∧ (i : Int) ≤ n + 1 ∧ e' 8 = .int .i64 i ∧ Wt q [⟨[97], []⟩] n i ∧ Que pq ph Z w' q ∧ (∀ b, Z b → w.heap.size ≤ b ∧ b ≠ b4 ∧ b ≠ b5 ∧ b < w'.heap.size) ∧ dlT.Row w' (fun k => k = b4 ∨ k = b5) (some ⟨b5, 0, none⟩) oneB ∧ w6.heap.size ≤ w'.heap.size ∧ Ext w w') (n.toNat) ?_ ?_
  · exact ⟨1, _, _, by omega, Nat.le_refl _, by omega, rfl, ⟨rfl, rfl, rfl, fun _ _ => rfl, fun k h1 h2 => by omega, (fun r hr => by cases hr)⟩, hQ6, fun b hb => hb, hone, Nat.le_refl _, hX⟩
  intro k g w' hI
  obtain ⟨i, q, Z, hqq, hi1, hin, h8, hW, hQ', hZ, hrow', hs6', hX'⟩ := hI
  clear hX
  have hX := hX'
  have hGlt : ∀ k, (k = b4 ∨ k = b5) → k < w'.heap.size := fun k hk => by rcases hk with j | j <;> omega
  obtain ⟨w0i, hw0i⟩ : ∃ x, x = w' := ⟨_, rfl⟩
  subst hw0i
  refine W_set (i := 8) h8 ?_
  refine W_seq ?_
  refine W_seq ?_
  refine W_region ?_
  refine op rfl (r_moveV (v := .int _ _) rfl) ?_
  refine op rfl (r_moveV (v := .int _ _) rfl) ?_
  refine op rfl (r_leq rfl rfl) ?_
  refine WL_nil ?_
  refine W_ifp rfl (fun ht33 => ?_) (fun ht33 => ?_)
  · have hsub := hW.sub (by omega) (by omega)
    refine W_skip ?_
    refine W_seq ?_
    refine W_block ?_
    refine W_seq ?_
    refine W_region ?_
    refine op rfl (r_moveV (v := hp pq) rfl) ?_
    refine op rfl (r_moveV (v := .int _ _) rfl) ?_
    refine op rfl (r_moveV (v := .slice _ _ _) rfl) ?_
    refine op rfl (r_build (cs := [.int .i64 (i : Int), .int .i64 0, .slice (some ⟨b5, 0, none⟩) 1 1]) Tryd.lay41 (List.forall_mem_cons.2 ⟨rfl, List.forall_mem_cons.2 ⟨rfl, fun _ h => absurd h List.not_mem_nil⟩⟩) rfl rfl) ?_
    refine opCv rfl (r_call Tryd.func15 Tryd.nm15 rfl) (submit_spec hQ' ⟨(i : Int), 0, oneB⟩ (c := 1) hGlt hrow' (by constructor <;> simp only [lo, hi] <;> omega) (show inK .i64 (0 : Int) by decide) (show 1 * 48 ≤ 140737488355328 by decide)) ?_
    rintro v9 w9 ⟨hv9, hQ9, hM9⟩
    rw [hsub.1] at hv9 hQ9
    subst hv9
    have hs9 := hM9.size
    have hrow9 := hrow'.keep (w' := w9) (fun b hb => hM9.block b (hGlt b hb) (fun q => by have := (hZ b q).2.1; have := (hZ b q).2.2.1; rcases hb with j | j <;> contradiction)) (fun _ h => h)
    have hZ9 : ∀ b, ((Z b ∨ since w0i w9 b) ∧ b < w9.heap.size) → w.heap.size ≤ b ∧ b ≠ b4 ∧ b ≠ b5 ∧ b < w9.heap.size := fun b hb => by
      rcases hb.1 with k | k
      · obtain ⟨z1, z2, z3, z4⟩ := hZ b k; exact ⟨z1, z2, z3, hb.2⟩
      · have := k.1; have := hX'.size; exact ⟨by omega, by omega, by omega, hb.2⟩
    have hX9 : Ext w w9 := ext_mv hX' hM9 (fun b hb => (hZ b hb).1)
    clear hX
    have hX := hX9
    refine op rfl (r_neq rfl rfl) ?_
    refine WL_nil ?_
    refine W_ifp rfl (fun ht41 => ?_) (fun ht41 => ?_)
    · exact absurd rfl ht41
    · refine W_skip ?_
      refine W_region ?_
      refine op rfl (r_moveV (v := .int _ _) rfl) ?_
      refine op rfl (r_add' (r := ((i + 1 : Nat) : Int)) rfl rfl (by rw [wrap_i64 (by omega) (by omega)]; omega)) ?_
      refine op rfl (r_assignV (v := .int _ _) rfl) ?_
      refine WL_nil ?_
      refine ⟨?_, by repeat (first | with_reducible exact Out.refl _ _ | with_reducible exact Out.mix | refine Out.put rfl ?_ | refine Out.mixin rfl ?_ | exact Out.refl _ _ | exact Out.mix)⟩
      exact ⟨n.toNat + 1 - (i + 1), by omega, i + 1, _, _, by omega, by omega, by omega, rfl, (by have := hsub.2; exact_mod_cast this), hQ9.lt, hZ9, hrow9, by omega, hX⟩
  · have hie : (i : Int) = n + 1 := by omega
    rw [hie] at hW
    have hfull := hW.full hn1.1
    refine W_exit (blk_hit ?_)
    refine W_seq ?_
    refine W_region ?_
    refine op rfl (r_moveV (v := hp pq) rfl) ?_
    refine op rfl (r_moveV (v := .int _ _) rfl) ?_
    refine op rfl (r_add' (r := n + 1) rfl rfl (by rw [wrap_i64 (by omega) (by omega)])) ?_
    refine op rfl (r_moveV (v := .slice _ _ _) rfl) ?_
    refine op rfl (r_build (cs := [.int .i64 (n + 1), .int .i64 0, .slice (some ⟨b5, 0, none⟩) 1 1]) Tryd.lay41 (List.forall_mem_cons.2 ⟨rfl, List.forall_mem_cons.2 ⟨rfl, fun _ h => absurd h List.not_mem_nil⟩⟩) rfl rfl) ?_
    refine opCv rfl (r_call Tryd.func15 Tryd.nm15 rfl) (submit_spec hQ' ⟨n + 1, 0, oneB⟩ (c := 1) hGlt hrow' (by constructor <;> simp only [lo, hi] <;> omega) (show inK .i64 (0 : Int) by decide) (show 1 * 48 ≤ 140737488355328 by decide)) ?_
    rintro v10 w10 ⟨hv10, hQ10, hM10⟩
    rw [hfull] at hv10 hQ10
    subst hv10
    have hs10 := hM10.size
    have hrow10 := hrow'.keep (w' := w10) (fun b hb => hM10.block b (hGlt b hb) (fun q => by have := (hZ b q).2.1; have := (hZ b q).2.2.1; rcases hb with j | j <;> contradiction)) (fun _ h => h)
    have hGlt10 : ∀ k, (k = b4 ∨ k = b5) → k < w10.heap.size := fun k hk => by have := hGlt k hk; omega
    have hX10 : Ext w w10 := ext_mv hX' hM10 (fun b hb => (hZ b hb).1)
    have hZ10 : ∀ b, ((Z b ∨ since w0i w10 b) ∧ b < w10.heap.size) → w.heap.size ≤ b ∧ b ≠ b4 ∧ b ≠ b5 ∧ b < w10.heap.size := fun b hb => by
      rcases hb.1 with k | k
      · obtain ⟨z1, z2, z3, z4⟩ := hZ b k; exact ⟨z1, z2, z3, hb.2⟩
      · have h1 := k.1
        have h2 := hGlt b4 (Or.inl rfl)
        have h3 := hGlt b5 (Or.inr rfl)
        have h4 := (hX').size
        exact ⟨by omega, by omega, by omega, hb.2⟩
    clear hX
    have hX := hX10
    have hQ10' := hQ10.lt
    obtain ⟨a11, q11, hst, ha11, hH11, hro11, hwl11, hno11, hyes11, hids11⟩ := hW.step hn1.1
    refine op rfl (r_assignV (v := .int _ _) rfl) ?_
    refine WL_nil ?_
    refine W_seq ?_
    refine W_region ?_
    refine op rfl (r_moveV (v := hp pq) rfl) ?_
    refine opCv rfl (r_call Tryd.func16 Tryd.nm16 rfl) (stepQ_spec hQ10' false) ?_
    rintro v11 w11 ⟨hv11, hQ11, hM11⟩
    rw [hst] at hv11 hQ11
    subst hv11
    have hs11 := hM11.size
    have hrow11 := hrow10.keep (w' := w11) (fun b hb => hM11.block b (hGlt10 b hb) (fun q => by have := (hZ10 b q).2.1; have := (hZ10 b q).2.2.1; rcases hb with j | j <;> contradiction)) (fun _ h => h)
    have hGlt11 : ∀ k, (k = b4 ∨ k = b5) → k < w11.heap.size := fun k hk => by have := hGlt10 k hk; omega
    have hX11 : Ext w w11 := ext_mv hX10 hM11 (fun b hb => (hZ10 b hb).1)
    have hZ11 : ∀ b, ((((Z b ∨ since w0i w10 b) ∧ b < w10.heap.size) ∨ since w10 w11 b) ∧ b < w11.heap.size) → w.heap.size ≤ b ∧ b ≠ b4 ∧ b ≠ b5 ∧ b < w11.heap.size := fun b hb => by
      rcases hb.1 with k | k
      · obtain ⟨z1, z2, z3, z4⟩ := hZ10 b k; exact ⟨z1, z2, z3, hb.2⟩
      · have h1 := k.1
        have h2 := hGlt10 b4 (Or.inl rfl)
        have h3 := hGlt10 b5 (Or.inr rfl)
        have h4 := (hX10).size
        exact ⟨by omega, by omega, by omega, hb.2⟩
    clear hX
    have hX := hX11
    have hQ11' := hQ11.lt
    have hsub12 : submitR q11 ⟨n + 1, 0, oneB⟩ = ({ q11 with ws := q11.ws ++ [⟨n + 1, 0, oneB⟩], tk := setK q11.tk (n + 1) none }, 0) :=
      sub0 (fun k => k.elim (fun k => by have : n + 1 < 1 := k; omega) (fun k => by cases k)) (fun k => k.elim (fun k => by have : (0 : Int) < 0 := k; omega) (fun k => by rw [hH11] at k; have : (0 : Int) > 1 - 1 := k; omega)) (by show ¬ (q11.tk (n + 1)).isSome = true; rw [hno11]; simp) (by omega)
    refine op rfl (r_moveV (v := .tuple #[.agg a11.vals.toArray, .bool true]) rfl) ?_
    refine op rfl (r_extract (vs := [.agg a11.vals.toArray, .bool true]) rfl rfl) ?_
    refine op rfl (r_extract (vs := [.agg a11.vals.toArray, .bool true]) rfl rfl) ?_
    refine op_alloc rfl Tryd.zero43 ?_
    intro w11_5 b11_5 E11_5 B11_5 L11_5
    have hG11_5 : w.heap.size ≤ b11_5 := by have := hX.size; omega
    replace hX := hX.trans E11_5
    refine op_storeRow rfl rfl Tryd.sz43 B11_5 rfl rfl ?_
    intro w11_6 C11_6 BB11_6
    replace hX := hX.chg C11_6 hG11_5
    replace B11_5 := BB11_6
    refine op rfl (r_assignV (v := .bool true) rfl) ?_
    refine WL_nil ?_
    refine W_seq ?_
    refine W_region ?_
    refine op rfl (r_moveV (v := hp pq) rfl) ?_
    refine op rfl (r_moveV (v := .int _ _) rfl) ?_
    refine op rfl (r_add' (r := n + 1) rfl rfl (by rw [wrap_i64 (by omega) (by omega)])) ?_
    refine op rfl (r_moveV (v := .slice _ _ _) rfl) ?_
    refine op rfl (r_build (cs := [.int .i64 (n + 1), .int .i64 0, .slice (some ⟨b5, 0, none⟩) 1 1]) Tryd.lay41 (List.forall_mem_cons.2 ⟨rfl, List.forall_mem_cons.2 ⟨rfl, fun _ h => absurd h List.not_mem_nil⟩⟩) rfl rfl) ?_
    have hE6 : ∀ b, b < w11.heap.size → w11_6.heap[b]? = w11.heap[b]? := fun b hb => (C11_6.block b (by have := E11_5.size; omega) (by omega)).trans (E11_5.block b hb)
    have hs116 : w11.heap.size ≤ w11_6.heap.size := by have := E11_5.size; have := C11_6.size; omega
    have hQ12 := hQ11'.keep hs116 (fun b hb => hE6 b hb.2)
    have hrow12 := hrow11.keep (w' := w11_6) (fun b hb => hE6 b (hGlt11 b hb)) (fun _ h => h)
    have lb115 := Blk.lt B11_5
    have hb115 : w11.heap.size ≤ b11_5 := by omega
    have hGlt12 : ∀ k, (k = b4 ∨ k = b5) → k < w11_6.heap.size := fun k hk => by have := hGlt11 k hk; omega
    have hX12 := hX
    refine opCv rfl (r_call Tryd.func15 Tryd.nm15 rfl) (submit_spec hQ12 ⟨n + 1, 0, oneB⟩ (c := 1) hGlt12 hrow12 (by constructor <;> simp only [lo, hi] <;> omega) (show inK .i64 (0 : Int) by decide) (show 1 * 48 ≤ 140737488355328 by decide)) ?_
    rintro v13 w13 ⟨hv13, hQ13, hM13⟩
    rw [hsub12] at hv13 hQ13
    subst hv13
    have hs13 := hM13.size
    have hrow13 := hrow12.keep (w' := w13) (fun b hb => hM13.block b (hGlt12 b hb) (fun q => by have := (hZ11 b q).2.1; have := (hZ11 b q).2.2.1; rcases hb with j | j <;> contradiction)) (fun _ h => h)
    have hGlt13 : ∀ k, (k = b4 ∨ k = b5) → k < w13.heap.size := fun k hk => by have := hGlt12 k hk; omega
    have hX13 : Ext w w13 := ext_mv hX12 hM13 (fun b hb => (hZ11 b hb).1)
    have hZ13 : ∀ b, ((((((Z b ∨ since w0i w10 b) ∧ b < w10.heap.size) ∨ since w10 w11 b) ∧ b < w11.heap.size) ∨ since w11_6 w13 b) ∧ b < w13.heap.size) → w.heap.size ≤ b ∧ b ≠ b4 ∧ b ≠ b5 ∧ b < w13.heap.size := fun b hb => by
      rcases hb.1 with k | k
      · obtain ⟨z1, z2, z3, z4⟩ := hZ11 b k; exact ⟨z1, z2, z3, hb.2⟩
      · have h1 := k.1
        have h2 := hGlt12 b4 (Or.inl rfl)
        have h3 := hGlt12 b5 (Or.inr rfl)
        have h4 := (hX12).size
        exact ⟨by omega, by omega, by omega, hb.2⟩
    have D115 := hM13.blk B11_5 (fun q => by have := q.2; omega)
    clear hX B11_5
    have hX := hX13
    have B11_5 := D115
    have hQ13' := hQ13.lt
    have hb4l := hGlt11 b4 (Or.inl rfl)
    have hb5l := hGlt11 b5 (Or.inr rfl)
    have hsub14 : submitR { q11 with ws := q11.ws ++ [⟨n + 1, 0, oneB⟩], tk := setK q11.tk (n + 1) none } ⟨1, 0, oneB⟩ = ({ q11 with ws := q11.ws ++ [⟨n + 1, 0, oneB⟩], tk := setK q11.tk (n + 1) none }, 12) :=
      sub12 (fun k => k.elim (fun k => by have : (1 : Int) < 1 := k; omega) (fun k => by cases k)) (fun k => k.elim (fun k => by have : (0 : Int) < 0 := k; omega) (fun k => by
        have k' : (0 : Int) > (q11.H.length : Int) - 1 := k
        rw [hH11] at k'; have : (0 : Int) > 1 - 1 := k'; omega)) (by
        show (setK q11.tk (n + 1) none 1).isSome = true
        unfold setK; rw [if_neg (by omega)]; exact hyes11)
    refine op rfl (r_assignV (v := .int _ _) rfl) ?_
    refine WL_nil ?_
    refine W_seq ?_
    refine W_region ?_
    refine op rfl (r_moveV (v := hp pq) rfl) ?_
    refine op rfl (r_moveV (v := .slice _ _ _) rfl) ?_
    refine op rfl (r_build (cs := [.int .i64 1, .int .i64 0, .slice (some ⟨b5, 0, none⟩) 1 1]) Tryd.lay41 (List.forall_mem_cons.2 ⟨rfl, List.forall_mem_cons.2 ⟨rfl, fun _ h => absurd h List.not_mem_nil⟩⟩) rfl rfl) ?_
    refine opCv rfl (r_call Tryd.func15 Tryd.nm15 rfl) (submit_spec hQ13' ⟨1, 0, oneB⟩ (c := 1) hGlt13 hrow13 (by decide) (by decide) (by decide)) ?_
    rintro v15 w15 ⟨hv15, hQ15, hM15⟩
    rw [hsub14] at hv15 hQ15
    subst hv15
    have E115 := hM15.blk B11_5 (fun q => by
      rcases q.1 with k | k
      · have := k.2; omega
      · have := k.1; omega)
    have hX15 : Ext w w15 := ext_mv hX13 hM15 (fun b hb => (hZ13 b hb).1)
    clear hX B11_5
    have hX := hX15
    have B11_5 := E115
    have hids : (((q11.ws ++ [(⟨n + 1, 0, oneB⟩ : Rq)]).map Rq.id).filter (fun k => !decide (k < 1))).length = n.toNat := by
      rw [List.filter_eq_self.2 (fun k hk => by
        obtain ⟨r, hr, rfl⟩ := List.mem_map.1 hk
        rcases List.mem_append.1 hr with j | j
        · have := hids11 r j; simp; omega
        · rw [List.mem_singleton.1 j]; simp; omega)]
      simp; omega
    refine op rfl (r_assignV (v := .int _ _) rfl) ?_
    refine WL_nil ?_
    refine W_seq ?_
    refine W_region ?_
    refine op rfl (r_moveV (v := .int .i64 0) rfl) ?_
    refine op rfl (r_eql rfl rfl) ?_
    refine op_true rfl (r_moveV (v := .bool (decide _)) rfl) (rfl) ?_
    refine opG_yes rfl rfl rfl rfl rfl (r_moveV (v := .int _ _) rfl) ?_
    refine opG_yes rfl rfl rfl rfl rfl (r_eql rfl rfl) ?_
    refine op rfl (r_pickTV (v := .bool _) rfl rfl) ?_
    refine op_true rfl (r_moveV (v := .bool (decide _)) rfl) (rfl) ?_
    refine opG_yes rfl rfl rfl rfl rfl (r_moveV (v := .bool true) rfl) ?_
    refine op rfl (r_pickTV (v := .bool _) rfl rfl) ?_
    refine op_splitB rfl (r_moveV (v := .bool _) rfl) (fun hg72 => ?_) (fun hg72 => ?_)
    · refine opG_yes rfl rfl rfl rfl rfl (r_fieldAddr rfl Tryd.fld43_1 rfl) ?_
      refine opG_yes rfl rfl rfl rfl rfl (r_load (v := .int .i64 a11.kind) rfl Tryd.underlying3 rfl (Blk.cell B11_5 rfl)) ?_
      refine opG_yes rfl rfl rfl rfl rfl (r_eql rfl rfl) ?_
      refine op rfl (r_pickTV (v := .bool _) rfl rfl) ?_
      refine op_true rfl (r_moveV (v := .bool (decide _)) rfl) (ha11) ?_
      refine opG_yes rfl rfl rfl rfl rfl (r_moveV (v := .int _ _) rfl) ?_
      refine opG_yes rfl rfl rfl rfl rfl (r_eql rfl rfl) ?_
      refine op rfl (r_pickTV (v := .bool _) rfl rfl) ?_
      refine op_true rfl (r_moveV (v := .bool (decide _)) rfl) (rfl) ?_
      refine opG_yes rfl rfl rfl rfl rfl (r_moveV (v := .int _ _) rfl) ?_
      refine opG_yes rfl rfl rfl rfl rfl (r_eql rfl rfl) ?_
      refine op rfl (r_pickTV (v := .bool _) rfl rfl) ?_
      refine op_true rfl (r_moveV (v := .bool (decide _)) rfl) (rfl) ?_
      refine opG_yes rfl rfl rfl rfl rfl (r_moveV (v := hp pq) rfl) ?_
      refine opGCv_yes rfl rfl rfl rfl rfl (r_call Tryd.func19 Tryd.nm19 rfl) (que_waits_spec hQ15) ?_
      rintro v16 w16 ⟨hO16, hE⟩
      replace B11_5 := Blk.ext B11_5 hE
      replace hX := hX.trans hE
      obtain ⟨A16, c16, rfl, hc16, -⟩ := own_frow hO16
      refine opG_yes rfl rfl rfl rfl rfl (r_len_slice rfl Tryd.underlying49) ?_
      refine opG_yes rfl rfl rfl rfl rfl (r_moveV (v := .int _ _) rfl) ?_
      refine opG_yes rfl rfl rfl rfl rfl (r_eql rfl rfl) ?_
      refine op rfl (r_pickTV (v := .bool _) rfl rfl) ?_
      refine op_true rfl (r_moveV (v := .bool (decide _)) rfl) (by rw [hids]; omega) ?_
      refine opGCv_yes rfl rfl rfl rfl rfl (r_call Tryd.func12 Tryd.nm12 rfl) (known13_spec _) ?_
      rintro v17 w17 ⟨rfl, hE⟩
      replace B11_5 := Blk.ext B11_5 hE
      replace hX := hX.trans hE
      refine op rfl (r_pickTV (v := .bool _) rfl rfl) ?_
      refine op rfl (r_assignV (v := .bool _) rfl) ?_
      refine WL_nil ?_
      refine W_ret (finX_ret ?_)
      refine fin1 ?_
      exact ⟨_, rfl, by first | rfl | exact (bool_tt trivial).symm, hX⟩
    · cases hg72
theorem queueRooms_row (W : World) (a : Int) (ha : inK .u8 a) :
    Calls Tryd.prog 4 #[.int .u8 a] W (fun e W' => ∃ v, e = .returned v ∧ v = .bool true ∧ Ext W W') :=
  queueRooms_walk (by simp only [inK, lo, hi] at ha; exact ha) W
end Go.Proofs.YtmedmajdoecjfaaDoor
