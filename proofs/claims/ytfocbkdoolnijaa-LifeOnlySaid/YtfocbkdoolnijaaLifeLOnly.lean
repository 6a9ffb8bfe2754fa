/-
  Each State takes a few Events alone, all others change nothing: the walk.
-/
import Derived.Test.YtfocbkdoolnijaaFacts
import Derived.Test.YtfocbkdoolnijaaLifeQ
namespace Go.Proofs.Ytfocbkdoolnijaa
open Go Go.Eng Go.RowKit Go.Proofs
set_option linter.unusedVariables false
set_option maxRecDepth 20000
set_option maxHeartbeats 1000000

def tkL : List (List Int) := [[1, 2], [3, 4, 5], [6, 7, 8], [9], [5, 10, 11, 12], [8], [], []]
theorem is_tk {x : Lf} {k : Int} {s : Nat} (hs : x.state = s) (h : s < tkL.length) : x.is k = true ↔ k ∈ tkL[s] := by
  rw [is_iff, hs]
  have h8 : s < 8 := h
  obtain rfl | rfl | rfl | rfl | rfl | rfl | rfl | rfl : s = 0 ∨ s = 1 ∨ s = 2 ∨ s = 3 ∨ s = 4 ∨ s = 5 ∨ s = 6 ∨ s = 7 := by omega
  all_goals
    simp only [tkL, Takes, List.getElem_cons_zero, List.getElem_cons_succ, List.mem_cons, List.not_mem_nil, or_false]
    constructor
    · rintro ⟨D, hD⟩
      omega
    · intro hk
      first
        | exact hk.elim
        | (rcases hk with rfl | rfl | rfl | rfl <;> (apply Exists.intro; simp; rfl))
        | (rcases hk with rfl | rfl | rfl <;> (apply Exists.intro; simp; rfl))
        | (rcases hk with rfl | rfl <;> (apply Exists.intro; simp; rfl))
        | (subst hk; apply Exists.intro; simp; rfl)
theorem row_i64 {w : World} {b : Nat} {t : TypeId} {l : List Int} (h : Blk w b (l.map (Value.int .i64)).toArray t) (hl : ∀ i ∈ l, inK .i64 i) : (Ty.int .i64).Row w (old w) (some ⟨b, 0, none⟩) l := by
  refine Blk.row h (Blk.lt h) (fun i hi => ⟨[.int .i64 l[i]], ⟨rfl, hl _ (List.getElem_mem hi)⟩, fun j hj => ?_⟩)
  have : j = 0 := by simp only [Ty.int, Ty.scalar] at hj; omega
  subst this
  simp [Ty.int, Ty.scalar, hi]
/-- Slices, one behind the other in a block. -/
theorem row_slices {w : World} {b : Nat} {t : TypeId} {l : List (List Int)} {As : List (Option Addr)} (h : Blk w b ((List.zipWith (fun A (m : List Int) => Value.slice A m.length m.length) As l)).toArray t) (hlen : As.length = l.length)
    (hl : ∀ i (h1 : i < As.length) (h2 : i < l.length), l[i].length ≤ big ∧ (Ty.int .i64).Row w (old w) As[i] l[i]) : (Ty.int .i64).slice.Row w (old w) (some ⟨b, 0, none⟩) l := by
  refine Blk.row h (Blk.lt h) (fun i hi => ?_)
  have hi' : i < As.length := by omega
  obtain ⟨h1, h2⟩ := hl i hi' hi
  refine ⟨[.slice As[i] l[i].length l[i].length], ⟨As[i], l[i].length, rfl, Nat.le_refl _, h1, h2⟩, fun j hj => ?_⟩
  have : j = 0 := by simp only [Ty.slice] at hj; omega
  subst this
  simp [Ty.slice, List.getElem?_zipWith, hi, hi']
theorem out_no {x : Lf} {k : Int} (h : x.state < 0 ∨ x.state > 7) : ¬ x.is k = true := by
  rw [is_iff]
  rintro ⟨D, hD⟩
  unfold Takes at hD
  omega
theorem take_mem {l : List Int} {i : Nat} {k : Int} (h : i < l.length) : k ∈ l.take (i + 1) ↔ (k ∈ l.take i ∨ l[i] = k) := by
  rw [List.take_succ_eq_append_getElem h]
  simp only [List.mem_append, List.mem_singleton]
  exact or_congr_right eq_comm
theorem lifeOnly_walk (W : World) (m : Lim) (hm : ∀ i ∈ [m.retries, m.review, m.backoff], inK .i64 i) (x : Lf) (hx : ∀ i ∈ [x.state, x.why, x.tries, x.wait, x.request, x.rev], inK .i64 i) (n : Int) (hn : inK .i64 n) :
    Calls Try.prog 7 #[m.val, x.val, .int .i64 n] W (fun e W' => ∃ v, e = .returned v ∧ v = .bool true ∧ Ext W W') := by
  clear hm hx hn
  have SS : ∀ k n w, Calls Try.prog 13 #[m.val, x.val, .agg #[.int .i64 k, .int .i64 n]] w (fun en w' => ∃ v, en = .returned v ∧ v = .tuple #[(x.step m k n).val, .bool (decide (x.is k = true))] ∧ Ext w w') := fun k n w => by
    have := step_spec m x k n w
    simp only [Bool.decide_eq_true]
    exact this
  refine calls' (n := 92) (rs := #[.tmp 6]) (l := [m.val, x.val, .int .i64 n]) Try.func7 rfl rfl rfl rfl rfl ?_
  have hX := Ext.refl W
  refine W_seq ?_
  refine W_region ?_
  refine op_box (v := .agg _) rfl rfl ?_
  intro w0_0 b0_0 E0_0 B0_0 L0_0
  have hG0_0 : W.heap.size ≤ b0_0 := by have := hX.size; omega
  replace hX := hX.trans E0_0
  refine op_box (v := .agg _) rfl rfl ?_
  intro w0_1 b0_1 E0_1 B0_1 L0_1
  have hG0_1 : W.heap.size ≤ b0_1 := by have := hX.size; omega
  have hNb0_0_0_1 : b0_0 ≠ b0_1 := by have := Blk.lt B0_0; omega
  replace B0_0 := Blk.ext B0_0 E0_1
  replace hX := hX.trans E0_1
  refine op rfl (r_assignV (v := .bool _) rfl) ?_
  refine WL_nil ?_
  refine W_seq ?_
  refine W_region ?_
  refine op_newS rfl (r_buildSlice (vs := [.int .i64 1, .int .i64 2]) Try.underlying45 Try.sz3 Try.zero3 rfl rfl rfl) ?_
  intro w1_0 b1_0 E1_0 B1_0 L1_0
  have hG1_0 : W.heap.size ≤ b1_0 := by have := hX.size; omega
  have hNb0_0_1_0 : b0_0 ≠ b1_0 := by have := Blk.lt B0_0; omega
  replace B0_0 := Blk.ext B0_0 E1_0
  have hNb0_1_1_0 : b0_1 ≠ b1_0 := by have := Blk.lt B0_1; omega
  replace B0_1 := Blk.ext B0_1 E1_0
  replace hX := hX.trans E1_0
  refine op_newS rfl (r_buildSlice (vs := [.int .i64 3, .int .i64 4, .int .i64 5]) Try.underlying45 Try.sz3 Try.zero3 rfl rfl rfl) ?_
  intro w1_1 b1_1 E1_1 B1_1 L1_1
  have hG1_1 : W.heap.size ≤ b1_1 := by have := hX.size; omega
  have hNb0_0_1_1 : b0_0 ≠ b1_1 := by have := Blk.lt B0_0; omega
  replace B0_0 := Blk.ext B0_0 E1_1
  have hNb0_1_1_1 : b0_1 ≠ b1_1 := by have := Blk.lt B0_1; omega
  replace B0_1 := Blk.ext B0_1 E1_1
  have hNb1_0_1_1 : b1_0 ≠ b1_1 := by have := Blk.lt B1_0; omega
  replace B1_0 := Blk.ext B1_0 E1_1
  replace hX := hX.trans E1_1
  refine op_newS rfl (r_buildSlice (vs := [.int .i64 6, .int .i64 7, .int .i64 8]) Try.underlying45 Try.sz3 Try.zero3 rfl rfl rfl) ?_
  intro w1_2 b1_2 E1_2 B1_2 L1_2
  have hG1_2 : W.heap.size ≤ b1_2 := by have := hX.size; omega
  have hNb0_0_1_2 : b0_0 ≠ b1_2 := by have := Blk.lt B0_0; omega
  replace B0_0 := Blk.ext B0_0 E1_2
  have hNb0_1_1_2 : b0_1 ≠ b1_2 := by have := Blk.lt B0_1; omega
  replace B0_1 := Blk.ext B0_1 E1_2
  have hNb1_0_1_2 : b1_0 ≠ b1_2 := by have := Blk.lt B1_0; omega
  replace B1_0 := Blk.ext B1_0 E1_2
  have hNb1_1_1_2 : b1_1 ≠ b1_2 := by have := Blk.lt B1_1; omega
  replace B1_1 := Blk.ext B1_1 E1_2
  replace hX := hX.trans E1_2
  refine op_newS rfl (r_buildSlice (vs := [.int .i64 9]) Try.underlying45 Try.sz3 Try.zero3 rfl rfl rfl) ?_
  intro w1_3 b1_3 E1_3 B1_3 L1_3
  have hG1_3 : W.heap.size ≤ b1_3 := by have := hX.size; omega
  have hNb0_0_1_3 : b0_0 ≠ b1_3 := by have := Blk.lt B0_0; omega
  replace B0_0 := Blk.ext B0_0 E1_3
  have hNb0_1_1_3 : b0_1 ≠ b1_3 := by have := Blk.lt B0_1; omega
  replace B0_1 := Blk.ext B0_1 E1_3
  have hNb1_0_1_3 : b1_0 ≠ b1_3 := by have := Blk.lt B1_0; omega
  replace B1_0 := Blk.ext B1_0 E1_3
  have hNb1_1_1_3 : b1_1 ≠ b1_3 := by have := Blk.lt B1_1; omega
  replace B1_1 := Blk.ext B1_1 E1_3
  have hNb1_2_1_3 : b1_2 ≠ b1_3 := by have := Blk.lt B1_2; omega
  replace B1_2 := Blk.ext B1_2 E1_3
  replace hX := hX.trans E1_3
  refine op_newS rfl (r_buildSlice (vs := [.int .i64 5, .int .i64 10, .int .i64 11, .int .i64 12]) Try.underlying45 Try.sz3 Try.zero3 rfl rfl rfl) ?_
  intro w1_4 b1_4 E1_4 B1_4 L1_4
  have hG1_4 : W.heap.size ≤ b1_4 := by have := hX.size; omega
  have hNb0_0_1_4 : b0_0 ≠ b1_4 := by have := Blk.lt B0_0; omega
  replace B0_0 := Blk.ext B0_0 E1_4
  have hNb0_1_1_4 : b0_1 ≠ b1_4 := by have := Blk.lt B0_1; omega
  replace B0_1 := Blk.ext B0_1 E1_4
  have hNb1_0_1_4 : b1_0 ≠ b1_4 := by have := Blk.lt B1_0; omega
  replace B1_0 := Blk.ext B1_0 E1_4
  have hNb1_1_1_4 : b1_1 ≠ b1_4 := by have := Blk.lt B1_1; omega
  replace B1_1 := Blk.ext B1_1 E1_4
  have hNb1_2_1_4 : b1_2 ≠ b1_4 := by have := Blk.lt B1_2; omega
  replace B1_2 := Blk.ext B1_2 E1_4
  have hNb1_3_1_4 : b1_3 ≠ b1_4 := by have := Blk.lt B1_3; omega
  replace B1_3 := Blk.ext B1_3 E1_4
  replace hX := hX.trans E1_4
  refine op_newS rfl (r_buildSlice (vs := [.int .i64 8]) Try.underlying45 Try.sz3 Try.zero3 rfl rfl rfl) ?_
  intro w1_5 b1_5 E1_5 B1_5 L1_5
  have hG1_5 : W.heap.size ≤ b1_5 := by have := hX.size; omega
  have hNb0_0_1_5 : b0_0 ≠ b1_5 := by have := Blk.lt B0_0; omega
  replace B0_0 := Blk.ext B0_0 E1_5
  have hNb0_1_1_5 : b0_1 ≠ b1_5 := by have := Blk.lt B0_1; omega
  replace B0_1 := Blk.ext B0_1 E1_5
  have hNb1_0_1_5 : b1_0 ≠ b1_5 := by have := Blk.lt B1_0; omega
  replace B1_0 := Blk.ext B1_0 E1_5
  have hNb1_1_1_5 : b1_1 ≠ b1_5 := by have := Blk.lt B1_1; omega
  replace B1_1 := Blk.ext B1_1 E1_5
  have hNb1_2_1_5 : b1_2 ≠ b1_5 := by have := Blk.lt B1_2; omega
  replace B1_2 := Blk.ext B1_2 E1_5
  have hNb1_3_1_5 : b1_3 ≠ b1_5 := by have := Blk.lt B1_3; omega
  replace B1_3 := Blk.ext B1_3 E1_5
  have hNb1_4_1_5 : b1_4 ≠ b1_5 := by have := Blk.lt B1_4; omega
  replace B1_4 := Blk.ext B1_4 E1_5
  replace hX := hX.trans E1_5
  refine op_newS rfl (r_buildSlice (vs := [.slice _ _ _, .slice _ _ _, .slice _ _ _, .slice _ _ _, .slice _ _ _, .slice _ _ _, .slice _ _ _, .slice _ _ _]) Try.underlying46 Try.sz45 Try.zero45 rfl rfl rfl) ?_
  intro w1_6 b1_6 E1_6 B1_6 L1_6
  have hG1_6 : W.heap.size ≤ b1_6 := by have := hX.size; omega
  have hNb0_0_1_6 : b0_0 ≠ b1_6 := by have := Blk.lt B0_0; omega
  replace B0_0 := Blk.ext B0_0 E1_6
  have hNb0_1_1_6 : b0_1 ≠ b1_6 := by have := Blk.lt B0_1; omega
  replace B0_1 := Blk.ext B0_1 E1_6
  have hNb1_0_1_6 : b1_0 ≠ b1_6 := by have := Blk.lt B1_0; omega
  replace B1_0 := Blk.ext B1_0 E1_6
  have hNb1_1_1_6 : b1_1 ≠ b1_6 := by have := Blk.lt B1_1; omega
  replace B1_1 := Blk.ext B1_1 E1_6
  have hNb1_2_1_6 : b1_2 ≠ b1_6 := by have := Blk.lt B1_2; omega
  replace B1_2 := Blk.ext B1_2 E1_6
  have hNb1_3_1_6 : b1_3 ≠ b1_6 := by have := Blk.lt B1_3; omega
  replace B1_3 := Blk.ext B1_3 E1_6
  have hNb1_4_1_6 : b1_4 ≠ b1_6 := by have := Blk.lt B1_4; omega
  replace B1_4 := Blk.ext B1_4 E1_6
  have hNb1_5_1_6 : b1_5 ≠ b1_6 := by have := Blk.lt B1_5; omega
  replace B1_5 := Blk.ext B1_5 E1_6
  replace hX := hX.trans E1_6
  refine op rfl (r_assignV (v := .slice (some ⟨b1_6, 0, none⟩) 8 8) rfl) ?_
  have hrow : (Ty.int .i64).slice.Row w1_6 (old w1_6) (some ⟨b1_6, 0, none⟩) tkL := by
    refine row_slices (As := [some ⟨b1_0, 0, none⟩, some ⟨b1_1, 0, none⟩, some ⟨b1_2, 0, none⟩, some ⟨b1_3, 0, none⟩, some ⟨b1_4, 0, none⟩, some ⟨b1_5, 0, none⟩, none, none]) B1_6 rfl ?_
    intro i h1 h2
    have h8 : i < 8 := h2
    obtain rfl | rfl | rfl | rfl | rfl | rfl | rfl | rfl : i = 0 ∨ i = 1 ∨ i = 2 ∨ i = 3 ∨ i = 4 ∨ i = 5 ∨ i = 6 ∨ i = 7 := by omega
    · exact ⟨Nat.le_of_ble_eq_true rfl, row_i64 (l := [1, 2]) B1_0 (by decide)⟩
    · exact ⟨Nat.le_of_ble_eq_true rfl, row_i64 (l := [3, 4, 5]) B1_1 (by decide)⟩
    · exact ⟨Nat.le_of_ble_eq_true rfl, row_i64 (l := [6, 7, 8]) B1_2 (by decide)⟩
    · exact ⟨Nat.le_of_ble_eq_true rfl, row_i64 (l := [9]) B1_3 (by decide)⟩
    · exact ⟨Nat.le_of_ble_eq_true rfl, row_i64 (l := [5, 10, 11, 12]) B1_4 (by decide)⟩
    · exact ⟨Nat.le_of_ble_eq_true rfl, row_i64 (l := [8]) B1_5 (by decide)⟩
    · exact ⟨Nat.le_of_ble_eq_true rfl, Ty.Row.nil⟩
    · exact ⟨Nat.le_of_ble_eq_true rfl, Ty.Row.nil⟩
  have hW6 := Ext.refl w1_6
  refine WL_nil ?_
  refine W_seq ?_
  refine W_seq ?_
  refine W_region ?_
  refine op rfl (r_fieldAddr rfl Try.fld27_0 rfl) ?_
  refine op rfl (r_load (v := .int _ _) rfl Try.underlying3 rfl (Blk.cell B0_1 rfl)) ?_
  refine op rfl (r_lss rfl rfl) ?_
  refine op_split rfl (r_moveV (v := .bool (decide _)) rfl) (fun hg25 => ?_) (fun hg25 => ?_)
  · refine opG_no rfl rfl rfl rfl rfl ?_
    refine opG_no rfl rfl rfl rfl rfl ?_
    refine opG_no rfl rfl rfl rfl rfl ?_
    refine op rfl (r_pickTV (v := .bool _) rfl rfl) ?_
    refine WL_nil ?_
    refine W_then rfl ?_
    refine W_seq ?_
    refine W_region ?_
    refine op rfl (r_loadRow rfl B0_0 Try.underlying24 rfl Try.sz24) ?_
    refine op rfl (r_loadRow rfl B0_1 Try.underlying27 rfl Try.sz27) ?_
    refine op rfl (r_moveV (v := .int _ _) rfl) ?_
    refine op rfl (r_build (cs := [.int _ _, .int _ _]) Try.lay31 (List.forall_mem_cons.2 ⟨rfl, fun _ h => by cases h⟩) rfl rfl) ?_
    refine opCv rfl (r_call Try.func13 Try.nm13 rfl) (SS n 0 _) ?_
    rintro v w2 ⟨rfl, hE⟩
    replace B0_0 := Blk.ext B0_0 hE
    replace B0_1 := Blk.ext B0_1 hE
    replace B1_0 := Blk.ext B1_0 hE
    replace B1_1 := Blk.ext B1_1 hE
    replace B1_2 := Blk.ext B1_2 hE
    replace B1_3 := Blk.ext B1_3 hE
    replace B1_4 := Blk.ext B1_4 hE
    replace B1_5 := Blk.ext B1_5 hE
    replace B1_6 := Blk.ext B1_6 hE
    replace hX := hX.trans hE
    refine op rfl (r_moveV (v := .tuple #[(x.step m n 0).val, .bool (decide (x.is n = true))]) rfl) ?_
    refine op rfl (r_extract (vs := [(x.step m n 0).val, .bool (decide (x.is n = true))]) rfl rfl) ?_
    refine op rfl (r_extract (vs := [(x.step m n 0).val, .bool (decide (x.is n = true))]) rfl rfl) ?_
    refine op_alloc rfl Try.zero27 ?_
    intro w3_8 b3_8 E3_8 B3_8 L3_8
    have hG3_8 : W.heap.size ≤ b3_8 := by have := hX.size; omega
    have hNb0_0_3_8 : b0_0 ≠ b3_8 := by have := Blk.lt B0_0; omega
    replace B0_0 := Blk.ext B0_0 E3_8
    have hNb0_1_3_8 : b0_1 ≠ b3_8 := by have := Blk.lt B0_1; omega
    replace B0_1 := Blk.ext B0_1 E3_8
    have hNb1_0_3_8 : b1_0 ≠ b3_8 := by have := Blk.lt B1_0; omega
    replace B1_0 := Blk.ext B1_0 E3_8
    have hNb1_1_3_8 : b1_1 ≠ b3_8 := by have := Blk.lt B1_1; omega
    replace B1_1 := Blk.ext B1_1 E3_8
    have hNb1_2_3_8 : b1_2 ≠ b3_8 := by have := Blk.lt B1_2; omega
    replace B1_2 := Blk.ext B1_2 E3_8
    have hNb1_3_3_8 : b1_3 ≠ b3_8 := by have := Blk.lt B1_3; omega
    replace B1_3 := Blk.ext B1_3 E3_8
    have hNb1_4_3_8 : b1_4 ≠ b3_8 := by have := Blk.lt B1_4; omega
    replace B1_4 := Blk.ext B1_4 E3_8
    have hNb1_5_3_8 : b1_5 ≠ b3_8 := by have := Blk.lt B1_5; omega
    replace B1_5 := Blk.ext B1_5 E3_8
    have hNb1_6_3_8 : b1_6 ≠ b3_8 := by have := Blk.lt B1_6; omega
    replace B1_6 := Blk.ext B1_6 E3_8
    replace hX := hX.trans E3_8
    refine op_storeRow rfl rfl Try.sz27 B3_8 rfl rfl ?_
    intro w3_9 C3_9 BB3_9
    replace B0_0 := Chg.blk C3_9 B0_0 hNb0_0_3_8
    replace B0_1 := Chg.blk C3_9 B0_1 hNb0_1_3_8
    replace B1_0 := Chg.blk C3_9 B1_0 hNb1_0_3_8
    replace B1_1 := Chg.blk C3_9 B1_1 hNb1_1_3_8
    replace B1_2 := Chg.blk C3_9 B1_2 hNb1_2_3_8
    replace B1_3 := Chg.blk C3_9 B1_3 hNb1_3_3_8
    replace B1_4 := Chg.blk C3_9 B1_4 hNb1_4_3_8
    replace B1_5 := Chg.blk C3_9 B1_5 hNb1_5_3_8
    replace B1_6 := Chg.blk C3_9 B1_6 hNb1_6_3_8
    replace hX := hX.chg C3_9 hG3_8
    replace B3_8 := BB3_9
    refine op rfl (r_assignV (v := .bool (decide (x.is n = true))) rfl) ?_
    refine WL_nil ?_
    refine W_seq ?_
    refine W_region ?_
    refine op rfl (r_moveV (v := .bool (decide (x.is n = true))) rfl) ?_
    refine op rfl (r_notP rfl) ?_
    refine op_true rfl (r_moveV (v := .bool (decide _)) rfl) (out_no (by first | exact Or.inl hg25 | exact Or.inr ht29)) ?_
    refine opGCv_yes rfl rfl rfl rfl rfl (r_call Try.func10 Try.nm10 rfl) (known_spec _) ?_
    rintro v w3 ⟨rfl, hE⟩
    replace B0_0 := Blk.ext B0_0 hE
    replace B0_1 := Blk.ext B0_1 hE
    replace B1_0 := Blk.ext B1_0 hE
    replace B1_1 := Blk.ext B1_1 hE
    replace B1_2 := Blk.ext B1_2 hE
    replace B1_3 := Blk.ext B1_3 hE
    replace B1_4 := Blk.ext B1_4 hE
    replace B1_5 := Blk.ext B1_5 hE
    replace B1_6 := Blk.ext B1_6 hE
    replace B3_8 := Blk.ext B3_8 hE
    replace hX := hX.trans hE
    refine op rfl (r_pickTV (v := .bool _) rfl rfl) ?_
    refine op rfl (r_assignV (v := .bool _) rfl) ?_
    refine WL_nil ?_
    refine W_ret (finX_ret ?_)
    refine fin1 ?_
    exact ⟨_, rfl, rfl, hX⟩
  · refine opG_yes rfl rfl rfl rfl rfl (r_fieldAddr rfl Try.fld27_0 rfl) ?_
    refine opG_yes rfl rfl rfl rfl rfl (r_load (v := .int _ _) rfl Try.underlying3 rfl (Blk.cell B0_1 rfl)) ?_
    refine opG_yes rfl rfl rfl rfl rfl (r_gtr rfl rfl) ?_
    refine op rfl (r_pickFV (v := .bool _) rfl rfl) ?_
    refine WL_nil ?_
    refine W_ifp rfl (fun ht29 => ?_) (fun ht29 => ?_)
    · refine W_seq ?_
      refine W_region ?_
      refine op rfl (r_loadRow rfl B0_0 Try.underlying24 rfl Try.sz24) ?_
      refine op rfl (r_loadRow rfl B0_1 Try.underlying27 rfl Try.sz27) ?_
      refine op rfl (r_moveV (v := .int _ _) rfl) ?_
      refine op rfl (r_build (cs := [.int _ _, .int _ _]) Try.lay31 (List.forall_mem_cons.2 ⟨rfl, fun _ h => by cases h⟩) rfl rfl) ?_
      refine opCv rfl (r_call Try.func13 Try.nm13 rfl) (SS n 0 _) ?_
      rintro v w2 ⟨rfl, hE⟩
      replace B0_0 := Blk.ext B0_0 hE
      replace B0_1 := Blk.ext B0_1 hE
      replace B1_0 := Blk.ext B1_0 hE
      replace B1_1 := Blk.ext B1_1 hE
      replace B1_2 := Blk.ext B1_2 hE
      replace B1_3 := Blk.ext B1_3 hE
      replace B1_4 := Blk.ext B1_4 hE
      replace B1_5 := Blk.ext B1_5 hE
      replace B1_6 := Blk.ext B1_6 hE
      replace hX := hX.trans hE
      refine op rfl (r_moveV (v := .tuple #[(x.step m n 0).val, .bool (decide (x.is n = true))]) rfl) ?_
      refine op rfl (r_extract (vs := [(x.step m n 0).val, .bool (decide (x.is n = true))]) rfl rfl) ?_
      refine op rfl (r_extract (vs := [(x.step m n 0).val, .bool (decide (x.is n = true))]) rfl rfl) ?_
      refine op_alloc rfl Try.zero27 ?_
      intro w3_8 b3_8 E3_8 B3_8 L3_8
      have hG3_8 : W.heap.size ≤ b3_8 := by have := hX.size; omega
      have hNb0_0_3_8 : b0_0 ≠ b3_8 := by have := Blk.lt B0_0; omega
      replace B0_0 := Blk.ext B0_0 E3_8
      have hNb0_1_3_8 : b0_1 ≠ b3_8 := by have := Blk.lt B0_1; omega
      replace B0_1 := Blk.ext B0_1 E3_8
      have hNb1_0_3_8 : b1_0 ≠ b3_8 := by have := Blk.lt B1_0; omega
      replace B1_0 := Blk.ext B1_0 E3_8
      have hNb1_1_3_8 : b1_1 ≠ b3_8 := by have := Blk.lt B1_1; omega
      replace B1_1 := Blk.ext B1_1 E3_8
      have hNb1_2_3_8 : b1_2 ≠ b3_8 := by have := Blk.lt B1_2; omega
      replace B1_2 := Blk.ext B1_2 E3_8
      have hNb1_3_3_8 : b1_3 ≠ b3_8 := by have := Blk.lt B1_3; omega
      replace B1_3 := Blk.ext B1_3 E3_8
      have hNb1_4_3_8 : b1_4 ≠ b3_8 := by have := Blk.lt B1_4; omega
      replace B1_4 := Blk.ext B1_4 E3_8
      have hNb1_5_3_8 : b1_5 ≠ b3_8 := by have := Blk.lt B1_5; omega
      replace B1_5 := Blk.ext B1_5 E3_8
      have hNb1_6_3_8 : b1_6 ≠ b3_8 := by have := Blk.lt B1_6; omega
      replace B1_6 := Blk.ext B1_6 E3_8
      replace hX := hX.trans E3_8
      refine op_storeRow rfl rfl Try.sz27 B3_8 rfl rfl ?_
      intro w3_9 C3_9 BB3_9
      replace B0_0 := Chg.blk C3_9 B0_0 hNb0_0_3_8
      replace B0_1 := Chg.blk C3_9 B0_1 hNb0_1_3_8
      replace B1_0 := Chg.blk C3_9 B1_0 hNb1_0_3_8
      replace B1_1 := Chg.blk C3_9 B1_1 hNb1_1_3_8
      replace B1_2 := Chg.blk C3_9 B1_2 hNb1_2_3_8
      replace B1_3 := Chg.blk C3_9 B1_3 hNb1_3_3_8
      replace B1_4 := Chg.blk C3_9 B1_4 hNb1_4_3_8
      replace B1_5 := Chg.blk C3_9 B1_5 hNb1_5_3_8
      replace B1_6 := Chg.blk C3_9 B1_6 hNb1_6_3_8
      replace hX := hX.chg C3_9 hG3_8
      replace B3_8 := BB3_9
      refine op rfl (r_assignV (v := .bool (decide (x.is n = true))) rfl) ?_
      refine WL_nil ?_
      refine W_seq ?_
      refine W_region ?_
      refine op rfl (r_moveV (v := .bool (decide (x.is n = true))) rfl) ?_
      refine op rfl (r_notP rfl) ?_
      refine op_true rfl (r_moveV (v := .bool (decide _)) rfl) (out_no (by first | exact Or.inl hg25 | exact Or.inr ht29)) ?_
      refine opGCv_yes rfl rfl rfl rfl rfl (r_call Try.func10 Try.nm10 rfl) (known_spec _) ?_
      rintro v w3 ⟨rfl, hE⟩
      replace B0_0 := Blk.ext B0_0 hE
      replace B0_1 := Blk.ext B0_1 hE
      replace B1_0 := Blk.ext B1_0 hE
      replace B1_1 := Blk.ext B1_1 hE
      replace B1_2 := Blk.ext B1_2 hE
      replace B1_3 := Blk.ext B1_3 hE
      replace B1_4 := Blk.ext B1_4 hE
      replace B1_5 := Blk.ext B1_5 hE
      replace B1_6 := Blk.ext B1_6 hE
      replace B3_8 := Blk.ext B3_8 hE
      replace hX := hX.trans hE
      refine op rfl (r_pickTV (v := .bool _) rfl rfl) ?_
      refine op rfl (r_assignV (v := .bool _) rfl) ?_
      refine WL_nil ?_
      refine W_ret (finX_ret ?_)
      refine fin1 ?_
      exact ⟨_, rfl, rfl, hX⟩
    · obtain ⟨s, hs, h8⟩ : ∃ s : Nat, x.state = s ∧ s < tkL.length := ⟨x.state.toNat, by omega, by show x.state.toNat < 8; omega⟩
      have h8' : s < 8 := h8
      obtain ⟨L, hL⟩ : ∃ L, tkL[s]'h8 = L := ⟨_, rfl⟩
      have hTK : ∀ k, x.is k = true ↔ k ∈ L := fun k => by rw [← hL]; exact is_tk hs h8
      have hLlen : L.length ≤ 4 := by
        rw [← hL]
        obtain rfl | rfl | rfl | rfl | rfl | rfl | rfl | rfl : s = 0 ∨ s = 1 ∨ s = 2 ∨ s = 3 ∨ s = 4 ∨ s = 5 ∨ s = 6 ∨ s = 7 := by omega
        all_goals exact Nat.le_of_ble_eq_true rfl
      refine W_skip ?_
      refine W_seq ?_
      refine W_seq ?_
      refine W_region ?_
      refine op rfl (r_assignV (v := .int _ _) rfl) ?_
      refine WL_nil ?_
      refine W_block ?_
      refine W_loop [6, 10, 11, 12, 13, 14, 43, 44, 45, 46, 47, 48, 49, 50, 51, 52, 53, 54, 55, 56, 57, 58, 59, 60, 61, 62, 63, 64, 65, 66, 67, 68, 69, 70, 71, 72, 73, 74, 75, 76, 77, 78, 79, 80, 81, 82, 83, 84, 85, 86, 87, 88, 89, 90] (fun q e' w' => ∃ kk : Int, q = (15 - kk).toNat ∧ -1 ≤ kk ∧ kk ≤ 15 ∧ e' 10 = .int .i64 kk ∧ Ext w1_6 w' ∧ Ext W w' ∧ Blk w' b0_0 m.val.cells 24 ∧ Blk w' b0_1 x.val.cells 27) (16) ?_ ?_
      · exact ⟨-1, by omega, by omega, by omega, rfl, hW6, hX, B0_0, B0_1⟩
      intro k g w' hI
      obtain ⟨kk, hk, hk1, hk2, h10, hW6', hX', Bx0, Bx1⟩ := hI
      clear hX B0_0 B0_1
      have hX := hX'
      have B0_0 := Bx0
      have B0_1 := Bx1
      clear hX' Bx0 Bx1
      have hrow0 := hrow.ext hW6'
      refine W_set (i := 10) h10 ?_
      refine W_seq ?_
      refine W_seq ?_
      refine W_region ?_
      refine op rfl (r_moveV (v := .int _ _) rfl) ?_
      refine op rfl (r_lss rfl rfl) ?_
      refine WL_nil ?_
      refine W_ifp rfl (fun ht44 => ?_) (fun ht44 => ?_)
      · refine W_skip ?_
        refine W_seq ?_
        refine W_block ?_
        refine W_seq ?_
        refine W_region ?_
        refine op rfl (r_assignV (v := .bool _) rfl) ?_
        refine WL_nil ?_
        refine W_seq ?_
        refine W_seq ?_
        refine W_region ?_
        refine op rfl (r_assignV (v := .int _ _) rfl) ?_
        refine WL_nil ?_
        refine W_block ?_
        refine W_loop [11, 12, 47, 48, 49, 50, 51, 52, 53, 54, 55, 56, 57, 58, 59, 60, 61, 62, 63, 64, 65, 66, 67, 68, 69] (fun q e' w' => ∃ i : Nat, q = L.length - i ∧ i ≤ L.length ∧ e' 12 = .int .i64 i ∧ e' 11 = .bool (decide (kk ∈ L.take i)) ∧ Ext w1_6 w' ∧ Ext W w' ∧ Blk w' b0_0 m.val.cells 24 ∧ Blk w' b0_1 x.val.cells 27) (L.length) ?_ ?_
        · exact ⟨0, by omega, by omega, rfl, bool_ff (by simp), hW6', hX, B0_0, B0_1⟩
        intro k g w' hI
        obtain ⟨i, hki, hile, h12, h11, hW8, hX', Bx0, Bx1⟩ := hI
        clear hX B0_0 B0_1
        have hX := hX'
        have B0_0 := Bx0
        have B0_1 := Bx1
        clear hX' Bx0 Bx1
        obtain ⟨g1, o1, Ai, ci, hAq, hg1, hcell, hci, hbig, hrowi⟩ := Ty.Row.cellS (hrow.ext hW8) h8
        cases hAq
        rw [hL] at hcell hbig hrowi
        have hcellx : w'.cell? ⟨b1_6, 0 + x.state.toNat, none⟩ = some (.slice Ai L.length ci) := by rw [hs]; simpa using hcell
        refine W_set (i := 12) h12 ?_
        refine W_set (i := 11) h11 ?_
        refine W_seq ?_
        refine W_seq ?_
        refine W_region ?_
        refine op rfl (r_moveV (v := .int _ _) rfl) ?_
        refine op rfl (r_moveV (v := .slice (some ⟨b1_6, 0, none⟩) 8 8) rfl) ?_
        refine op rfl (r_fieldAddr rfl Try.fld27_0 rfl) ?_
        refine op rfl (r_load (v := .int _ _) rfl Try.underlying3 rfl (Blk.cell B0_1 rfl)) ?_
        refine op rfl (r_indexAddr1 rfl rfl rfl Try.underlying46 Try.sz45 (by omega) (by omega)) ?_
        refine op rfl (r_load (v := .slice Ai L.length ci) rfl Try.underlying45 rfl hcellx) ?_
        refine op rfl (r_len_slice rfl Try.underlying45) ?_
        refine op rfl (r_lss rfl rfl) ?_
        refine WL_nil ?_
        refine W_ifp rfl (fun ht54 => ?_) (fun ht54 => ?_)
        · have hlt : i < L.length := by omega
          obtain ⟨g2, o2, hA2, hg2, _, hcell2⟩ := Ty.Row.cell hrowi hlt
          refine W_skip ?_
          refine W_seq ?_
          refine W_block ?_
          refine W_region ?_
          refine op rfl (r_moveV (v := .bool _) rfl) ?_
          refine op_split rfl (r_moveV (v := .bool (decide _)) rfl) (fun hg58 => ?_) (fun hg58 => ?_)
          · refine opG_no rfl rfl rfl rfl rfl ?_
            refine opG_no rfl rfl rfl rfl rfl ?_
            refine opG_no rfl rfl rfl rfl rfl ?_
            refine opG_no rfl rfl rfl rfl rfl ?_
            refine opG_no rfl rfl rfl rfl rfl ?_
            refine opG_no rfl rfl rfl rfl rfl ?_
            refine opG_no rfl rfl rfl rfl rfl ?_
            refine opG_no rfl rfl rfl rfl rfl ?_
            refine opG_no rfl rfl rfl rfl rfl ?_
            refine opG_no rfl rfl rfl rfl rfl ?_
            refine op rfl (r_pickTV (v := .bool _) rfl rfl) ?_
            refine op rfl (r_assignV (v := .bool _) rfl) ?_
            refine WL_nil ?_
            refine W_region ?_
            refine op rfl (r_moveV (v := .int _ _) rfl) ?_
            refine op rfl (r_add' rfl rfl (wrap_i64 (by omega) (by omega))) ?_
            refine op rfl (r_assignV (v := .int _ _) rfl) ?_
            refine WL_nil ?_
            refine ⟨?_, by repeat (first | with_reducible exact Out.refl _ _ | with_reducible exact Out.mix | refine Out.put rfl ?_ | refine Out.mixin rfl ?_ | exact Out.refl _ _ | exact Out.mix)⟩
            refine ⟨L.length - (i + 1), by omega, i + 1, rfl, by omega, rfl, ?_, hW8, hX, B0_0, B0_1⟩
            first
              | exact bool_tt ((take_mem hlt).2 (Or.inl hg58))
              | exact bool_iff ((or_iff_right hg58).symm.trans (take_mem hlt).symm)
          · refine opG_yes rfl rfl rfl rfl rfl (r_moveV (v := .slice (some ⟨b1_6, 0, none⟩) 8 8) rfl) ?_
            refine opG_yes rfl rfl rfl rfl rfl (r_fieldAddr rfl Try.fld27_0 rfl) ?_
            refine opG_yes rfl rfl rfl rfl rfl (r_load (v := .int _ _) rfl Try.underlying3 rfl (Blk.cell B0_1 rfl)) ?_
            refine opG_yes rfl rfl rfl rfl rfl (r_indexAddr1 rfl rfl rfl Try.underlying46 Try.sz45 (by omega) (by omega)) ?_
            refine opG_yes rfl rfl rfl rfl rfl (r_load (v := .slice Ai L.length ci) rfl Try.underlying45 rfl hcellx) ?_
            refine opG_yes rfl rfl rfl rfl rfl (r_moveV (v := .int _ _) rfl) ?_
            refine opG_yes rfl rfl rfl rfl rfl (r_indexAddr1 rfl rfl hA2 Try.underlying45 Try.sz3 (by omega) (by omega)) ?_
            refine opG_yes rfl rfl rfl rfl rfl (r_load rfl Try.underlying3 rfl hcell2) ?_
            refine opG_yes rfl rfl rfl rfl rfl (r_moveV (v := .int _ _) rfl) ?_
            refine opG_yes rfl rfl rfl rfl rfl (r_eql rfl rfl) ?_
            refine op rfl (r_pickFV (v := .bool _) rfl rfl) ?_
            refine op rfl (r_assignV (v := .bool _) rfl) ?_
            refine WL_nil ?_
            refine W_region ?_
            refine op rfl (r_moveV (v := .int _ _) rfl) ?_
            refine op rfl (r_add' rfl rfl (wrap_i64 (by omega) (by omega))) ?_
            refine op rfl (r_assignV (v := .int _ _) rfl) ?_
            refine WL_nil ?_
            refine ⟨?_, by repeat (first | with_reducible exact Out.refl _ _ | with_reducible exact Out.mix | refine Out.put rfl ?_ | refine Out.mixin rfl ?_ | exact Out.refl _ _ | exact Out.mix)⟩
            refine ⟨L.length - (i + 1), by omega, i + 1, rfl, by omega, rfl, ?_, hW8, hX, B0_0, B0_1⟩
            first
              | exact bool_tt ((take_mem hlt).2 (Or.inl hg58))
              | exact bool_iff ((or_iff_right hg58).symm.trans (take_mem hlt).symm)
        · refine W_exit (blk_hit ?_)
          refine W_seq ?_
          refine W_region ?_
          refine op rfl (r_loadRow rfl B0_0 Try.underlying24 rfl Try.sz24) ?_
          refine op rfl (r_loadRow rfl B0_1 Try.underlying27 rfl Try.sz27) ?_
          refine op rfl (r_moveV (v := .int _ _) rfl) ?_
          refine op rfl (r_moveV (v := .int _ _) rfl) ?_
          refine op rfl (r_build (cs := [.int _ _, .int _ _]) Try.lay31 (List.forall_mem_cons.2 ⟨rfl, List.forall_mem_cons.2 ⟨rfl, fun _ h => by cases h⟩⟩) rfl rfl) ?_
          refine opCv rfl (r_call Try.func13 Try.nm13 rfl) (SS kk n _) ?_
          rintro v w4 ⟨rfl, hE⟩
          replace B0_0 := Blk.ext B0_0 hE
          replace B0_1 := Blk.ext B0_1 hE
          replace hX := hX.trans hE
          have hW9a := hW8.trans hE
          refine op rfl (r_moveV (v := .tuple #[(x.step m kk n).val, .bool (decide (x.is kk = true))]) rfl) ?_
          refine op rfl (r_extract (vs := [(x.step m kk n).val, .bool (decide (x.is kk = true))]) rfl rfl) ?_
          refine op rfl (r_extract (vs := [(x.step m kk n).val, .bool (decide (x.is kk = true))]) rfl rfl) ?_
          refine op_alloc rfl Try.zero27 ?_
          intro w13_9 b13_9 E13_9 B13_9 L13_9
          have hG13_9 : W.heap.size ≤ b13_9 := by have := hX.size; omega
          have hNb0_0_13_9 : b0_0 ≠ b13_9 := by have := Blk.lt B0_0; omega
          replace B0_0 := Blk.ext B0_0 E13_9
          have hNb0_1_13_9 : b0_1 ≠ b13_9 := by have := Blk.lt B0_1; omega
          replace B0_1 := Blk.ext B0_1 E13_9
          replace hX := hX.trans E13_9
          have hW9b := hW9a.trans E13_9
          refine op_storeRow rfl rfl Try.sz27 B13_9 rfl rfl ?_
          intro w13_10 C13_10 BB13_10
          replace B0_0 := Chg.blk C13_10 B0_0 hNb0_0_13_9
          replace B0_1 := Chg.blk C13_10 B0_1 hNb0_1_13_9
          replace hX := hX.chg C13_10 hG13_9
          replace B13_9 := BB13_10
          have hW9 := hW9b.chg C13_10 (by have := hW9a.size; have := L13_9; omega)
          refine op rfl (r_assignV (v := .bool (decide (x.is kk = true))) rfl) ?_
          refine WL_nil ?_
          refine W_seq ?_
          refine W_region ?_
          refine op rfl (r_moveV (v := .bool (decide (x.is kk = true))) rfl) ?_
          refine op rfl (r_moveV (v := .bool _) rfl) ?_
          refine op rfl (r_neqP rfl rfl Try.underlying4) ?_
          refine op_false rfl (r_moveV (v := .bool (decide _)) rfl) (fun h => h (by rw [hTK, List.take_of_length_le (by omega)])) ?_
          refine opG_yes rfl rfl rfl rfl rfl (r_moveV (v := .bool (decide (x.is kk = true))) rfl) ?_
          refine opG_yes rfl rfl rfl rfl rfl (r_notP rfl) ?_
          refine opG_split rfl rfl rfl rfl rfl (r_moveV (v := .bool (decide _)) rfl) (fun hg85 => ?_) (fun hg85 => ?_)
          · refine opG_yes rfl rfl rfl rfl rfl (r_loadRow rfl B13_9 Try.underlying27 rfl Try.sz27) ?_
            refine opG_yes rfl rfl rfl rfl rfl (r_loadRow rfl B0_1 Try.underlying27 rfl Try.sz27) ?_
            refine opG_yes rfl rfl rfl rfl rfl (ri_neq (xs := (x.step m kk n).l) (ys := x.l) Try.ints27 rfl rfl rfl rfl) ?_
            refine opG_yes rfl rfl rfl rfl rfl (r_pickTV (v := .bool _) rfl rfl) ?_
            refine op rfl (r_pickFV (v := .bool _) rfl rfl) ?_
            refine WL_nil ?_
            refine W_ifp rfl (fun ht90 => ?_) (fun ht90 => ?_)
            · exact absurd (by rw [step_no hg85]) ht90
            · refine W_skip ?_
              refine W_region ?_
              refine op rfl (r_moveV (v := .int _ _) rfl) ?_
              refine op rfl (r_add' rfl rfl (wrap_i64 (by omega) (by omega))) ?_
              refine op rfl (r_assignV (v := .int _ _) rfl) ?_
              refine WL_nil ?_
              refine ⟨?_, by repeat (first | with_reducible exact Out.refl _ _ | with_reducible exact Out.mix | refine Out.put rfl ?_ | refine Out.mixin rfl ?_ | exact Out.refl _ _ | exact Out.mix)⟩
              exact ⟨(15 - (kk + 1)).toNat, by omega, kk + 1, rfl, by omega, by omega, rfl, hW9, hX, B0_0, B0_1⟩
          · refine opG_no rfl rfl rfl rfl rfl ?_
            refine opG_no rfl rfl rfl rfl rfl ?_
            refine opG_no rfl rfl rfl rfl rfl ?_
            refine opG_yes rfl rfl rfl rfl rfl (r_pickFV (v := .bool _) rfl rfl) ?_
            refine op rfl (r_pickFV (v := .bool _) rfl rfl) ?_
            refine WL_nil ?_
            refine W_else rfl ?_
            refine W_skip ?_
            refine W_region ?_
            refine op rfl (r_moveV (v := .int _ _) rfl) ?_
            refine op rfl (r_add' rfl rfl (wrap_i64 (by omega) (by omega))) ?_
            refine op rfl (r_assignV (v := .int _ _) rfl) ?_
            refine WL_nil ?_
            refine ⟨?_, by repeat (first | with_reducible exact Out.refl _ _ | with_reducible exact Out.mix | refine Out.put rfl ?_ | refine Out.mixin rfl ?_ | exact Out.refl _ _ | exact Out.mix)⟩
            exact ⟨(15 - (kk + 1)).toNat, by omega, kk + 1, rfl, by omega, by omega, rfl, hW9, hX, B0_0, B0_1⟩
      · refine W_exit (blk_hit ?_)
        refine W_seq ?_
        refine W_region ?_
        refine opCv rfl (r_call Try.func10 Try.nm10 rfl) (known_spec _) ?_
        rintro v w5 ⟨rfl, hE⟩
        replace B0_0 := Blk.ext B0_0 hE
        replace B0_1 := Blk.ext B0_1 hE
        replace hX := hX.trans hE
        refine op rfl (r_assignV (v := .bool _) rfl) ?_
        refine WL_nil ?_
        refine W_ret (finX_ret ?_)
        refine fin1 ?_
        exact ⟨_, rfl, rfl, hX⟩
end Go.Proofs.Ytfocbkdoolnijaa
