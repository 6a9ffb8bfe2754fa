/-
  The walks of the chapter's own answer, and of what the laws know.
-/
import Derived.Test.YtgclnpafkjfmhaaFacts
import Derived.Test.YtgclnpafkjfmhaaSlice
import Derived.Test.YtgclnpafkjfmhaaCrcW
namespace Go.Proofs.Ytgclnpafkjfmhaa
open Go Go.Eng Go.RowKit Go.Proofs

theorem refStep_spec (n : Crc.B) (w : World) : Calls Try.prog 31 #[.int .u32 n.toNat] w (fun en w' => ∃ v, en = .returned v ∧ v = .int .u32 (Crc.step n).toNat ∧ w' = w) := by
  refine calls' (n := 11) (rs := #[.tmp 2]) (l := [.int .u32 n.toNat]) Try.func31 rfl rfl rfl rfl rfl ?_
  refine W_seq ?_
  refine W_region ?_
  refine op rfl (r_assignV (v := .int _ _) rfl) ?_
  refine WL_nil ?_
  refine W_seq ?_
  refine W_seq ?_
  refine W_region ?_
  refine op rfl (r_moveV (v := .int _ _) rfl) ?_
  refine op rfl (r_rem rfl rfl (by decide)) ?_
  refine op rfl (r_eql rfl rfl) ?_
  refine WL_nil ?_
  refine W_ifp rfl (fun ht5 => ?_) (fun ht5 => ?_)
  · refine W_seq ?_
    refine W_region ?_
    refine op rfl (r_moveV (v := .int _ _) rfl) ?_
    refine op rfl (r_half32 rfl rfl) ?_
    refine op rfl (r_xor32 (b := Crc.poly) rfl rfl) ?_
    refine op rfl (r_assignV (v := .int _ _) rfl) ?_
    refine WL_nil ?_
    refine W_ret (finX_ret ?_)
    refine fin1 ?_
    exact ⟨_, rfl, by unfold Crc.step; rw [(tmod2 n).1 ht5]; rfl, rfl⟩
  · refine W_skip ?_
    refine W_seq ?_
    refine W_region ?_
    refine op rfl (r_moveV (v := .int _ _) rfl) ?_
    refine op rfl (r_half32 rfl rfl) ?_
    refine op rfl (r_assignV (v := .int _ _) rfl) ?_
    refine WL_nil ?_
    refine W_ret (finX_ret ?_)
    refine fin1 ?_
    have h0 : n.getLsbD 0 = false := by
      cases h : n.getLsbD 0
      · rfl
      · exact absurd ((tmod2 n).2 h) ht5
    exact ⟨_, rfl, by unfold Crc.step; rw [h0]; simp only [cond_false, BitVec.xor_zero]; rfl, rfl⟩

theorem refMore_spec (n : Crc.B) (A : Option Addr) (c : Nat) (l : List UInt8) (w : World) (hl : l.length ≤ big) (hA : Bytes w A l) :
    Calls Try.prog 29 #[.int .u32 n.toNat, .slice A l.length c] w (fun en w' => ∃ v, en = .returned v ∧ v = .int .u32 (Crc.more n l).toNat ∧ w' = w) := by
  unfold big at hl
  refine calls' (n := 30) (rs := #[.tmp 4]) (l := [.int .u32 n.toNat, .slice A l.length c]) Try.func29 rfl rfl rfl rfl rfl ?_
  refine W_seq ?_
  refine W_region ?_
  refine op rfl (r_assignV (v := .int _ _) rfl) ?_
  refine WL_nil ?_
  refine W_seq ?_
  refine W_region ?_
  refine op rfl (r_moveV (v := .int _ _) rfl) ?_
  refine op rfl (r_xorFF32 rfl rfl) ?_
  refine op rfl (r_assignV (v := .int _ _) rfl) ?_
  refine WL_nil ?_
  refine W_seq ?_
  refine W_seq ?_
  refine W_region ?_
  refine op rfl (r_assignV (v := .int _ _) rfl) ?_
  refine WL_nil ?_
  refine W_block ?_
  refine W_loop [0, 5, 6, 9, 10, 11, 12, 13, 14, 15, 16, 17, 18, 19, 20, 21, 22, 23, 24, 25, 26, 27] (fun k g w' => ∃ i : Nat, g 5 = .int .i64 i ∧ i ≤ l.length ∧ k = l.length - i ∧ g 0 = .int .u32 (Crc.upd (~~~ n) (l.take i)).toNat ∧ w' = w) (l.length) ?_ ?_
  · exact ⟨0, rfl, by omega, by omega, rfl, rfl⟩
  intro k g w' hI
  obtain ⟨i, h5, hi, rfl, h0, rfl⟩ := hI
  refine W_set (i := 5) h5 ?_
  refine W_set (i := 0) h0 ?_
  refine W_seq ?_
  refine W_seq ?_
  refine W_region ?_
  refine op rfl (r_moveV (v := .int _ _) rfl) ?_
  refine op rfl (r_moveV (v := .slice _ _ _) rfl) ?_
  refine op rfl (r_len_slice rfl Try.underlying22) ?_
  refine op rfl (r_lss rfl rfl) ?_
  refine WL_nil ?_
  refine W_ifp rfl (fun ht12 => ?_) (fun ht12 => ?_)
  · replace ht12 : i < l.length := by omega
    obtain ⟨b1, o1, hAe, _, _, hc⟩ := hA.cell ht12
    refine W_skip ?_
    refine W_seq ?_
    refine W_block ?_
    refine W_seq ?_
    refine W_region ?_
    refine op rfl (r_moveV (v := .int _ _) rfl) ?_
    refine op rfl (r_moveV (v := .slice _ _ _) rfl) ?_
    refine op rfl (r_moveV (v := .int _ _) rfl) ?_
    refine op rfl (r_indexAddr1 rfl rfl (by assumption) Try.underlying22 Try.sz5 (by omega) (by omega)) ?_
    refine op rfl (r_load rfl Try.underlying5 rfl (by assumption)) ?_
    refine op rfl (r_conv8_32 (a := l[i].toBitVec) rfl Try.underlying5 Try.underlying45) ?_
    refine op rfl (r_xor32 rfl rfl) ?_
    refine op rfl (r_assignV (v := .int _ _) rfl) ?_
    refine WL_nil ?_
    refine W_seq ?_
    refine W_region ?_
    refine op rfl (r_assignV (v := .int _ _) rfl) ?_
    refine WL_nil ?_
    refine W_block ?_
    refine W_loop [0, 6, 22, 23, 24, 25, 26, 27] (fun k g w'' => ∃ j : Nat, g 6 = .int .i64 j ∧ j ≤ 8 ∧ k = 8 - j ∧ g 0 = .int .u32 (Crc.steps j (Crc.upd (~~~ n) (l.take i) ^^^ l[i].toBitVec.setWidth 32)).toNat ∧ w'' = w') (8) ?_ ?_
    · exact ⟨0, rfl, by omega, by omega, rfl, rfl⟩
    intro k g w' hI
    obtain ⟨j, h6, hj, rfl, h0', rfl⟩ := hI
    refine W_set (i := 6) h6 ?_
    refine W_set (i := 0) h0' ?_
    refine W_seq ?_
    refine W_seq ?_
    refine W_region ?_
    refine op rfl (r_moveV (v := .int _ _) rfl) ?_
    refine op rfl (r_lss rfl rfl) ?_
    refine WL_nil ?_
    refine W_ifp rfl (fun ht23 => ?_) (fun ht23 => ?_)
    · refine W_skip ?_
      refine W_seq ?_
      refine W_block ?_
      refine W_region ?_
      refine op rfl (r_moveV (v := .int _ _) rfl) ?_
      refine opCv rfl (r_call Try.func31 Try.nm31 rfl) (refStep_spec _ _) ?_
      rintro v w2 ⟨rfl, rfl⟩
      refine op rfl (r_assignV (v := .int _ _) rfl) ?_
      refine WL_nil ?_
      refine W_region ?_
      refine op rfl (r_moveV (v := .int _ _) rfl) ?_
      refine op rfl (r_add' rfl rfl (wrap_i64 (by omega) (by omega))) ?_
      refine op rfl (r_assignV (v := .int _ _) rfl) ?_
      refine WL_nil ?_
      refine ⟨?_, by repeat (first | exact Out.refl _ _ | exact Out.mix | refine Out.put rfl ?_ | refine Out.mixin rfl ?_)⟩
      exact ⟨8 - (j + 1), by omega, j + 1, rfl, by omega, rfl, by rw [Crc.steps_succ]; rfl, rfl⟩
    · obtain rfl : j = 8 := by omega
      refine W_exit (blk_hit ?_)
      refine W_region ?_
      refine op rfl (r_moveV (v := .int _ _) rfl) ?_
      refine op rfl (r_add' rfl rfl (wrap_i64 (by omega) (by omega))) ?_
      refine op rfl (r_assignV (v := .int _ _) rfl) ?_
      refine WL_nil ?_
      refine ⟨?_, by repeat (first | exact Out.refl _ _ | exact Out.mix | refine Out.put rfl ?_ | refine Out.mixin rfl ?_)⟩
      exact ⟨l.length - (i + 1), by omega, i + 1, rfl, by omega, rfl, by rw [List.take_succ_eq_append_getElem ht12, Crc.upd_append]; rfl, rfl⟩
  · have hil : i = l.length := by omega
    refine W_exit (blk_hit ?_)
    refine W_seq ?_
    refine W_region ?_
    refine op rfl (r_moveV (v := .int _ _) rfl) ?_
    refine op rfl (r_xorFF32 rfl rfl) ?_
    refine op rfl (r_assignV (v := .int _ _) rfl) ?_
    refine WL_nil ?_
    refine W_ret (finX_ret ?_)
    refine fin1 ?_
    exact ⟨_, rfl, by rw [hil, List.take_length]; rfl, rfl⟩

theorem refSum_spec (A : Option Addr) (c : Nat) (l : List (List UInt8)) (w : World) (hl : l.length ≤ big) (hA : BytesL w A l) :
    Calls Try.prog 26 #[.slice A l.length c] w (fun en w' => ∃ v, en = .returned v ∧ v = .int .u32 (Crc.sum l).toNat ∧ w' = w) := by
  unfold big at hl
  refine calls' (n := 18) (rs := #[.tmp 2]) (l := [.slice A l.length c]) Try.func26 rfl rfl rfl rfl rfl ?_
  refine W_seq ?_
  refine W_region ?_
  refine op rfl (r_assignV (v := .int _ _) rfl) ?_
  refine WL_nil ?_
  refine W_seq ?_
  refine W_region ?_
  refine op rfl (r_assignV (v := .int _ _) rfl) ?_
  refine WL_nil ?_
  refine W_seq ?_
  refine W_seq ?_
  refine W_region ?_
  refine op rfl (r_assignV (v := .int _ _) rfl) ?_
  refine WL_nil ?_
  refine W_block ?_
  refine W_loop [3, 4, 5, 6, 7, 8, 9, 10, 11, 12, 13, 14, 15, 16] (fun k g w' => ∃ i : Nat, g 4 = .int .i64 i ∧ i ≤ l.length ∧ k = l.length - i ∧ g 3 = .int .u32 (Crc.sum (l.take i)).toNat ∧ w' = w) (l.length) ?_ ?_
  · exact ⟨0, rfl, by omega, by omega, rfl, rfl⟩
  intro k g w' hI
  obtain ⟨i, h8, hi, rfl, h3, rfl⟩ := hI
  refine W_set (i := 4) h8 ?_
  refine W_set (i := 3) h3 ?_
  refine W_seq ?_
  refine W_seq ?_
  refine W_region ?_
  refine op rfl (r_moveV (v := .int _ _) rfl) ?_
  refine op rfl (r_moveV (v := .slice _ _ _) rfl) ?_
  refine op rfl (r_len_slice rfl Try.underlying26) ?_
  refine op rfl (r_lss rfl rfl) ?_
  refine WL_nil ?_
  refine W_ifp rfl (fun ht8 => ?_) (fun ht8 => ?_)
  · replace ht8 : i < l.length := by omega
    obtain ⟨b1, o1, Ai, ci, hAe, _, hc, hci, hcm, hr⟩ := hA.cellS ht8
    refine W_skip ?_
    refine W_seq ?_
    refine W_block ?_
    refine W_region ?_
    refine op rfl (r_moveV (v := .int _ _) rfl) ?_
    refine op rfl (r_moveV (v := .slice _ _ _) rfl) ?_
    refine op rfl (r_moveV (v := .int _ _) rfl) ?_
    refine op rfl (r_indexAddr1 rfl rfl (by assumption) Try.underlying26 Try.sz22 (by omega) (by omega)) ?_
    refine op rfl (r_load rfl Try.underlying22 rfl (by assumption)) ?_
    refine opCv rfl (r_call Try.func29 Try.nm29 rfl) (refMore_spec _ _ _ _ _ hcm hr) ?_
    rintro v w2 ⟨rfl, rfl⟩
    refine op rfl (r_assignV (v := .int _ _) rfl) ?_
    refine WL_nil ?_
    refine W_region ?_
    refine op rfl (r_moveV (v := .int _ _) rfl) ?_
    refine op rfl (r_add' rfl rfl (wrap_i64 (by omega) (by omega))) ?_
    refine op rfl (r_assignV (v := .int _ _) rfl) ?_
    refine WL_nil ?_
    refine ⟨?_, by repeat (first | exact Out.refl _ _ | exact Out.mix | refine Out.put rfl ?_ | refine Out.mixin rfl ?_)⟩
    exact ⟨l.length - (i + 1), by omega, i + 1, rfl, by omega, rfl, by rw [List.take_succ_eq_append_getElem ht8, Crc.sum_snoc]; rfl, rfl⟩
  · have hil : i = l.length := by omega
    refine W_exit (blk_hit ?_)
    refine W_seq ?_
    refine W_region ?_
    refine op rfl (r_moveV (v := .int _ _) rfl) ?_
    refine op rfl (r_assignV (v := .int _ _) rfl) ?_
    refine WL_nil ?_
    refine W_ret (finX_ret ?_)
    refine fin1 ?_
    exact ⟨_, rfl, by rw [hil, List.take_length]; rfl, rfl⟩
end Go.Proofs.Ytgclnpafkjfmhaa
