/-
  The walks of the chapter's own answer, and of what its laws know.
-/
import Derived.Test.YtgclnpafkjfmhaaFacts
import Derived.Test.YtgclnpafkjfmhaaFrameJ
import Derived.Test.YtgclnpafkjfmhaaCrcR
namespace Go.Proofs.Ytgclnpafkjfmhaa
open Go Go.Eng Go.RowKit Go.Proofs
set_option linter.unusedVariables false

theorem num_take_succ (n w i : Nat) (h : i < w) : (Frame.num n w).take (i + 1) = (Frame.num n w).take i ++ [UInt8.ofNat (n / 256 ^ (w - 1 - i))] := by
  rw [List.take_succ_eq_append_getElem (by rw [Frame.num_length]; exact h), Frame.num_get]
theorem refNum_spec (n : Nat) (hn : n < 2 ^ 64) (wide : Int) (w : World) : Calls Try.prog 25 #[.int .u64 n, .int .i64 wide] w (fun en w' => ∃ v, en = .returned v ∧ Ext w w' ∧ Bs w.heap.size 5 w' v (Frame.num n (Frame.wid wide))) := by
  have hk8 := Frame.wid_le wide
  have hk := Frame.wid_eq wide
  generalize Frame.wid wide = K at hk hk8
  have hnl := Frame.num_length n K
  refine calls' (n := 32) (rs := #[.tmp 4]) (l := [.int .u64 n, .int .i64 wide]) Try.func25 rfl rfl rfl rfl rfl ?_
  refine W_seq ?_
  refine W_region ?_
  refine op rfl (r_assignV (v := .slice _ _ _) rfl) ?_
  refine WL_nil ?_
  refine W_seq ?_
  refine W_region ?_
  refine op rfl (r_assignV (v := .slice _ _ _) rfl) ?_
  refine WL_nil ?_
  refine W_seq ?_
  refine W_seq ?_
  refine W_region ?_
  refine op rfl (r_moveV (v := .int _ _) rfl) ?_
  refine op rfl (r_min' rfl rfl rfl) ?_
  refine op rfl (r_max' rfl rfl hk) ?_
  refine op rfl (r_sub' rfl rfl (wrap_i64 (by omega) (by omega))) ?_
  refine op rfl (r_assignV (v := .int _ _) rfl) ?_
  refine WL_nil ?_
  refine W_block ?_
  refine W_loop [5, 6, 7, 8, 13, 14, 15, 16, 17, 18, 19, 20, 21, 22, 23, 24, 25, 26, 27, 28, 29, 30] (fun j g w' => ∃ (v : Value), g 6 = .int .i64 ((j : Int) - 1) ∧ j ≤ K ∧ g 5 = v ∧ Ext w w' ∧ Bs w.heap.size 5 w' v ((Frame.num n K).take (K - j))) (K) ?_ ?_
  · exact ⟨.slice none 0 0, rfl, Nat.le_refl _, rfl, Ext.refl _, by rw [Nat.sub_self]; exact Own.nil⟩
  intro k g w' hI
  obtain ⟨v, h6, hj, h5, HE, hO⟩ := hI
  obtain ⟨j, rfl⟩ : ∃ j, j = k := ⟨k, rfl⟩
  refine W_set (i := 6) h6 ?_
  refine W_set (i := 5) h5 ?_
  refine W_seq ?_
  refine W_seq ?_
  refine W_region ?_
  refine op rfl (r_moveV (v := .int _ _) rfl) ?_
  refine op rfl (r_geq rfl rfl) ?_
  refine WL_nil ?_
  refine W_ifp rfl (fun ht14 => ?_) (fun ht14 => ?_)
  · have hj1 : 1 ≤ j := by omega
    refine W_skip ?_
    refine W_seq ?_
    refine W_block ?_
    refine W_seq ?_
    refine W_region ?_
    refine op rfl (r_moveV (v := .int _ _) rfl) ?_
    refine op rfl (r_assignV (v := .int _ _) rfl) ?_
    refine WL_nil ?_
    refine W_seq ?_
    refine W_seq ?_
    refine W_region ?_
    refine op rfl (r_assignV (v := .int _ _) rfl) ?_
    refine WL_nil ?_
    refine W_block ?_
    refine W_loop [7, 8, 18, 19, 20, 21, 22, 23, 24] (fun m g w'' => ∃ q : Nat, g 8 = .int .i64 q ∧ q ≤ j - 1 ∧ m = j - 1 - q ∧ g 7 = .int .u64 (n / 256 ^ q : Nat) ∧ w' = w'') (j - 1) ?_ ?_
    · exact ⟨0, rfl, by omega, by omega, by simp; rfl, rfl⟩
    intro k g w' hI
    obtain ⟨q, h8, hq, rfl, h7, rfl⟩ := hI
    refine W_set (i := 8) h8 ?_
    refine W_set (i := 7) h7 ?_
    refine W_seq ?_
    refine W_seq ?_
    refine W_region ?_
    refine op rfl (r_moveV (v := .int _ _) rfl) ?_
    refine op rfl (r_moveV (v := .int _ _) rfl) ?_
    refine op rfl (r_lss rfl rfl) ?_
    refine WL_nil ?_
    refine W_ifp rfl (fun ht20 => ?_) (fun ht20 => ?_)
    · refine W_skip ?_
      refine W_seq ?_
      refine W_block ?_
      refine W_region ?_
      refine op rfl (r_moveV (v := .int _ _) rfl) ?_
      refine op rfl (r_quo' (r := ((n / 256 ^ q / 256 : Nat) : Int)) rfl rfl (by decide) (by have hy : n / 256 ^ q ≤ n := Nat.div_le_self n (256 ^ q); generalize n / 256 ^ q = y at hy ⊢; rw [Int.tdiv_eq_ediv_of_nonneg (Int.natCast_nonneg _), wrap_u64 (by omega) (by omega)]; omega)) ?_
      refine op rfl (r_assignV (v := .int _ _) rfl) ?_
      refine WL_nil ?_
      refine W_region ?_
      refine op rfl (r_moveV (v := .int _ _) rfl) ?_
      refine op rfl (r_add' rfl rfl (wrap_i64 (by omega) (by omega))) ?_
      refine op rfl (r_assignV (v := .int _ _) rfl) ?_
      refine WL_nil ?_
      refine ⟨?_, by repeat (first | exact Out.refl _ _ | exact Out.mix | refine Out.put rfl ?_ | refine Out.mixin rfl ?_)⟩
      exact ⟨j - 1 - (q + 1), by omega, q + 1, rfl, by omega, rfl, by rw [Nat.pow_succ, ← Nat.div_div_eq_div_mul]; rfl, rfl⟩
    · obtain rfl : q = j - 1 := by omega
      refine W_exit (blk_hit ?_)
      refine W_region ?_
      refine op rfl (r_moveV (v := v) rfl) ?_
      refine op rfl (r_moveV (v := .int _ _) rfl) ?_
      refine op rfl (r_rem' (r := ((n / 256 ^ (j - 1) % 256 : Nat) : Int)) rfl rfl (by decide) (by rw [Int.tmod_eq_emod_of_nonneg (Int.natCast_nonneg _)]; omega)) ?_
      refine op rfl (r_conv' (r := ((UInt8.ofNat (n / 256 ^ (j - 1))).toNat : Int)) rfl Try.underlying40 Try.underlying5 (by rw [wrap_u8_mod]; simp)) ?_
      refine op_newS rfl (r_buildSlice (vs := [.int _ _]) Try.underlying22 Try.sz5 Try.zero5 rfl rfl rfl) ?_
      intro w10_4 b10_4 E10_4 B10_4 L10_4
      have hlt : ((Frame.num n K).take (K - j)).length ≤ K := by simp; omega
      refine op_app (v := v) flat_byte rfl rfl rfl Try.underlying22 Try.sz5 Try.by5 Try.zero5 rfl (HE.trans E10_4) (own_fext hO E10_4) ((row_one B10_4 trivial : Ty.byte.Row w10_4 (old w10_4) (some ⟨b10_4, 0, none⟩) [UInt8.ofNat (n / 256 ^ (j - 1))])) (by simp only [List.length_cons, List.length_nil]; omega) (by simp only [List.length_cons, List.length_nil]; omega) ?_
      intro v10_5 w10_5 O10_5 X10_5 G10_5
      refine op rfl (r_assignV (v := v10_5) rfl) ?_
      refine WL_nil ?_
      refine W_region ?_
      refine op rfl (r_moveV (v := .int _ _) rfl) ?_
      refine op rfl (r_sub' rfl rfl (wrap_i64 (by omega) (by omega))) ?_
      refine op rfl (r_assignV (v := .int _ _) rfl) ?_
      refine WL_nil ?_
      refine ⟨?_, by repeat (first | exact Out.refl _ _ | exact Out.mix | refine Out.put rfl ?_ | refine Out.mixin rfl ?_)⟩
      exact ⟨j - 1, by omega, _, by rw [show ((j - 1 : Nat) : Int) - 1 = (j : Int) - 1 - 1 from by omega]; rfl, by omega, rfl, X10_5, by rw [show K - (j - 1) = K - j + 1 from by omega, num_take_succ _ _ _ (by omega), show K - 1 - (K - j) = j - 1 from by omega]; exact O10_5⟩
  · obtain rfl : j = 0 := by omega
    rw [Nat.sub_zero, List.take_of_length_le (Nat.le_of_eq hnl)] at hO
    refine W_exit (blk_hit ?_)
    refine W_seq ?_
    refine W_region ?_
    refine op rfl (r_moveV (v := v) rfl) ?_
    refine op rfl (r_assignV (v := v) rfl) ?_
    refine WL_nil ?_
    refine W_ret (finX_ret ?_)
    refine fin1 ?_
    exact ⟨v, rfl, HE, hO⟩

theorem get_step (v c : Nat) (hc : c < 256) : IntKind.wrap .u64 (IntKind.wrap .u64 (256 * ((v % 2 ^ 64 : Nat) : Int)) + (c : Int)) = (((v * 256 + c) % 2 ^ 64 : Nat) : Int) := by
  rw [wrap_u64_mod, wrap_u64_mod]
  omega
theorem refGet_spec (A : Option Addr) (c : Nat) (l : List UInt8) (w : World) (hl : l.length ≤ big) (hA : Bytes w A l) :
    Calls Try.prog 21 #[.slice A l.length c] w (fun en w' => ∃ v, en = .returned v ∧ v = .int .u64 (Frame.get l) ∧ w' = w) := by
  unfold big at hl
  refine calls' (n := 20) (rs := #[.tmp 2]) (l := [.slice A l.length c]) Try.func21 rfl rfl rfl rfl rfl ?_
  refine W_seq ?_
  refine W_region ?_
  refine op rfl (r_assignV (v := .int _ _) rfl) ?_
  refine WL_nil ?_
  refine W_seq ?_
  refine W_region ?_
  refine op rfl (r_assignV (v := .int _ _) rfl) ?_
  refine WL_nil ?_
  refine W_seq ?_
  refine W_seq ?_
  refine W_region ?_
  refine op rfl (r_assignV (v := .int _ _) rfl) ?_
  refine WL_nil ?_
  refine W_block ?_
  refine W_loop [3, 4, 5, 6, 7, 8, 9, 10, 11, 12, 13, 14, 15, 16, 17, 18] (fun j g w' => ∃ i : Nat, g 4 = .int .i64 i ∧ i ≤ l.length ∧ j = l.length - i ∧ g 3 = .int .u64 (Frame.val (l.take i) % 2 ^ 64 : Nat) ∧ w = w') (l.length) ?_ ?_
  · exact ⟨0, rfl, by omega, by omega, rfl, rfl⟩
  intro k g w' hI
  obtain ⟨i, h4, hi, rfl, h3, rfl⟩ := hI
  refine W_set (i := 4) h4 ?_
  refine W_set (i := 3) h3 ?_
  refine W_seq ?_
  refine W_seq ?_
  refine W_region ?_
  refine op rfl (r_moveV (v := .int _ _) rfl) ?_
  refine op rfl (r_moveV (v := .slice _ _ _) rfl) ?_
  refine op rfl (r_len_slice rfl Try.underlying22) ?_
  refine op rfl (r_lss rfl rfl) ?_
  refine WL_nil ?_
  refine W_ifp rfl (fun ht8 => ?_) (fun ht8 => ?_)
  · replace ht8 : i < l.length := by omega
    obtain ⟨b1, o1, hAe, _, _, hc⟩ := hA.cell ht8
    have hcl := l[i].toNat_lt
    refine W_skip ?_
    refine W_seq ?_
    refine W_block ?_
    refine W_region ?_
    refine op rfl (r_moveV (v := .int _ _) rfl) ?_
    refine op rfl (r_mul rfl rfl) ?_
    refine op rfl (r_moveV (v := .slice _ _ _) rfl) ?_
    refine op rfl (r_moveV (v := .int _ _) rfl) ?_
    refine op rfl (r_indexAddr1 rfl rfl hAe Try.underlying22 Try.sz5 (by omega) (by omega)) ?_
    refine op rfl (r_load rfl Try.underlying5 rfl hc) ?_
    refine op rfl (r_conv' rfl Try.underlying5 Try.underlying40 (wrap_u64 (by omega) (by omega))) ?_
    refine op rfl (r_add' rfl rfl (get_step _ _ hcl)) ?_
    refine op rfl (r_assignV (v := .int _ _) rfl) ?_
    refine WL_nil ?_
    refine W_region ?_
    refine op rfl (r_moveV (v := .int _ _) rfl) ?_
    refine op rfl (r_add' rfl rfl (wrap_i64 (by omega) (by omega))) ?_
    refine op rfl (r_assignV (v := .int _ _) rfl) ?_
    refine WL_nil ?_
    refine ⟨?_, by repeat (first | exact Out.refl _ _ | exact Out.mix | refine Out.put rfl ?_ | refine Out.mixin rfl ?_)⟩
    exact ⟨l.length - (i + 1), by omega, i + 1, rfl, by omega, rfl, by rw [List.take_succ_eq_append_getElem ht8, Frame.val_snoc]; rfl, rfl⟩
  · obtain rfl : i = l.length := by omega
    refine W_exit (blk_hit ?_)
    refine W_seq ?_
    refine W_region ?_
    refine op rfl (r_moveV (v := .int _ _) rfl) ?_
    refine op rfl (r_assignV (v := .int _ _) rfl) ?_
    refine WL_nil ?_
    refine W_ret (finX_ret ?_)
    refine fin1 ?_
    exact ⟨_, rfl, by rw [List.take_length]; rfl, rfl⟩

end Go.Proofs.Ytgclnpafkjfmhaa
