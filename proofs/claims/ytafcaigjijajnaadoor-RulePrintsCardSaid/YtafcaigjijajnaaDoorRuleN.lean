/-
  The walks: words of kinds, short texts.
-/
import Derived.Test.YtafcaigjijajnaaDoorFacts
import Derived.Test.YtafcaigjijajnaaDoorRuleL
namespace Go.Proofs.YtafcaigjijajnaaDoor
open Go Go.Eng Go.RowKit Go.Proofs
set_option linter.unusedVariables false
set_option linter.unusedSimpArgs false
set_option maxHeartbeats 1000000
set_option maxRecDepth 20000

theorem refTexts_spec (k : Int) (w : World) (hk : 0 ≤ k ∧ k ≤ 5) :
    Calls Tryd.prog 41 #[.int .i64 k] w (fun en w' => ∃ v, en = .returned v ∧ v = .int .i64 (textsK k : Nat) ∧ Ext w w') := by
  refine calls' (n := 7) (rs := #[.tmp 2]) (l := [.int .i64 k]) Tryd.func41 rfl rfl rfl rfl rfl ?_
  have hX := Ext.refl w
  refine W_seq ?_
  refine W_region ?_
  refine op rfl (r_assignV (v := .int _ _) rfl) ?_
  refine WL_nil ?_
  refine W_seq ?_
  refine W_region ?_
  refine op_newS rfl (r_buildSlice (vs := [.int .i64 0, .int .i64 2, .int .i64 2, .int .i64 1, .int .i64 2, .int .i64 0]) Tryd.underlying90 Tryd.sz3 Tryd.zero3 rfl rfl rfl) ?_
  intro w1 b1 E1 B1 L1
  replace hX := hX.trans E1
  refine op rfl (r_moveV (v := .int _ _) rfl) ?_
  refine op rfl (r_indexAddr1 rfl rfl rfl Tryd.underlying90 Tryd.sz3 hk.1 (by omega)) ?_
  refine op rfl (r_load (v := .int .i64 (textsK k : Nat)) rfl Tryd.underlying3 rfl (by
      have : k = 0 ∨ k = 1 ∨ k = 2 ∨ k = 3 ∨ k = 4 ∨ k = 5 := by omega
      rcases this with rfl | rfl | rfl | rfl | rfl | rfl <;> exact Blk.cell B1 rfl)) ?_
  refine op rfl (r_assignV (v := .int _ _) rfl) ?_
  refine WL_nil ?_
  refine W_ret (finX_ret ?_)
  refine fin1 ?_
  exact ⟨_, rfl, rfl, hX⟩
theorem short_spec {A : Option Addr} {c : Nat} {l : List (List UInt8)} {w : World} {G : Nat → Prop} (hrow : strT'.Row w G A l) (hl : l.length ≤ 140737488355328) :
    Calls Tryd.prog 44 #[.slice A l.length c] w (fun en w' => ∃ v, en = .returned v ∧ v = .bool (decide (∀ s ∈ l, s.length ≤ 100)) ∧ Ext w w') := by
  refine calls' (n := 15) (rs := #[.tmp 2]) (l := [.slice A l.length c]) Tryd.func44 rfl rfl rfl rfl rfl ?_
  have hX := Ext.refl w
  refine W_seq ?_
  refine W_region ?_
  refine op rfl (r_assignV (v := .bool _) rfl) ?_
  refine WL_nil ?_
  refine W_seq ?_
  refine W_seq ?_
  refine W_region ?_
  refine op rfl (r_moveV (v := .slice _ _ _) rfl) ?_
  refine op rfl (r_len_slice rfl Tryd.underlying49) ?_
  refine op rfl (r_moveV (v := .int _ _) rfl) ?_
  refine WL_nil ?_
  refine W_block ?_
  refine W_loop [2, 4, 7, 8, 9, 10, 11, 12, 13, 14] (fun q e' w' => ∃ i : Nat, q = l.length - i ∧ i ≤ l.length ∧ e' 7 = .int .i64 i ∧ (∀ k (h : k < l.length), k < i → l[k].length ≤ 100) ∧ Ext w w') (l.length) ?_ ?_
  · exact ⟨0, by omega, by omega, rfl, fun k _ h => absurd h (Nat.not_lt_zero k), hX⟩
  intro k g w' hI
  obtain ⟨i, hq, hi, h7, hall, hX'⟩ := hI
  clear hX
  have hX := hX'
  refine W_set (i := 7) h7 ?_
  refine W_seq ?_
  refine W_region ?_
  refine op rfl (r_lss rfl rfl) ?_
  refine WL_nil ?_
  refine W_seq ?_
  refine W_ifp rfl (fun ht8 => ?_) (fun ht8 => ?_)
  · have hlt : i < l.length := by omega
    obtain ⟨g, off, hA, _, hsl, hcell⟩ := hrow.cell hlt
    refine W_skip ?_
    refine W_seq ?_
    refine W_block ?_
    refine W_seq ?_
    refine W_region ?_
    refine op rfl (r_indexAddr1 rfl rfl hA Tryd.underlying49 Tryd.sz9 (by omega) (by omega)) ?_
    refine op rfl (r_load (v := .string (str l[i])) rfl Tryd.underlying9 rfl (ext_cell hX hcell)) ?_
    refine op rfl (r_assignV (v := .string _) rfl) ?_
    refine WL_nil ?_
    refine W_seq ?_
    refine W_region ?_
    refine op rfl (r_moveV (v := .string _) rfl) ?_
    refine op rfl (rt_len rfl Tryd.underlying9) ?_
    refine op rfl (r_gtr rfl rfl) ?_
    refine WL_nil ?_
    refine W_ifp rfl (fun ht13 => ?_) (fun ht13 => ?_)
    · refine W_seq ?_
      refine W_region ?_
      refine op rfl (r_assignV (v := .bool _) rfl) ?_
      refine WL_nil ?_
      refine W_ret (blk_ret (blk_ret (finX_ret ?_)))
      refine fin1 ?_
      first
        | exact ⟨_, rfl, bool_ff (fun h => by have := h _ (List.getElem_mem hlt); omega), hX⟩
        | exact ⟨_, rfl, bool_tt (fun s hs => by obtain ⟨k, hk, rfl⟩ := List.mem_iff_getElem.1 hs; exact hall k hk (by omega)), hX⟩
    · refine W_skip ?_
      refine W_region ?_
      refine op rfl (r_add' (r := ((i + 1 : Nat) : Int)) rfl rfl (by rw [wrap_i64 (by omega) (by omega)]; omega)) ?_
      refine op rfl (r_moveV (v := .int _ _) rfl) ?_
      refine WL_nil ?_
      refine ⟨?_, by repeat (first | with_reducible exact Out.refl _ _ | with_reducible exact Out.mix | refine Out.put rfl ?_ | refine Out.mixin rfl ?_ | exact Out.refl _ _ | exact Out.mix)⟩
      refine ⟨l.length - (i + 1), by omega, i + 1, rfl, by omega, rfl, fun k h hk => ?_, hX⟩
      by_cases hki : k = i
      · subst hki; omega
      · exact hall k h (by omega)
  · refine W_exit (blk_hit ?_)
    refine W_seq ?_
    refine W_region ?_
    refine op rfl (r_assignV (v := .bool _) rfl) ?_
    refine WL_nil ?_
    refine W_ret (finX_ret ?_)
    refine fin1 ?_
    first
      | exact ⟨_, rfl, bool_ff (fun h => by have := h _ (List.getElem_mem hlt); omega), hX⟩
      | exact ⟨_, rfl, bool_tt (fun s hs => by obtain ⟨k, hk, rfl⟩ := List.mem_iff_getElem.1 hs; exact hall k hk (by omega)), hX⟩
/-- The kinds' words, from none on. -/
abbrev wordsL : List (List UInt8) := [wordK 0, wordK 1, wordK 2, wordK 3, wordK 4, wordK 5]
theorem refWords_spec (w : World) :
    Calls Tryd.prog 42 #[] w (fun en w' => ∃ v, en = .returned v ∧ ∃ b, v = .slice (some ⟨b, 0, none⟩) 6 6 ∧ Blk w' b (wordsL.map fun s => Value.string (str s)).toArray 9 ∧ w.heap.size ≤ b ∧ Ext w w') := by
  refine calls' (n := 2) (rs := #[.tmp 0]) (l := []) Tryd.func42 rfl rfl rfl rfl rfl ?_
  have hX := Ext.refl w
  refine W_seq ?_
  refine W_region ?_
  refine op rfl (r_assignV (v := .slice _ _ _) rfl) ?_
  refine WL_nil ?_
  refine W_seq ?_
  refine W_region ?_
  refine op_newS rfl (r_buildSlice (vs := wordsL.map fun s => Value.string (str s)) Tryd.underlying49 Tryd.sz9 Tryd.zero9 rfl rfl rfl) ?_
  intro w1 b1 E1 B1 L1
  replace hX := hX.trans E1
  refine op rfl (r_assignV (v := .slice _ _ _) rfl) ?_
  refine WL_nil ?_
  refine W_ret (finX_ret ?_)
  refine fin1 ?_
  exact ⟨_, rfl, b1, rfl, B1, by omega, hX⟩
end Go.Proofs.YtafcaigjijajnaaDoor
