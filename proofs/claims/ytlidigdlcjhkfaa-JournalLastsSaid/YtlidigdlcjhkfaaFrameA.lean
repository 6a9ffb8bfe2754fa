/-
  The walks of package frame: the first frame, and the loop over all of them.
-/
import Derived.Test.YtlidigdlcjhkfaaFacts
import Derived.Test.YtlidigdlcjhkfaaFrameW
namespace Go.Proofs.Ytlidigdlcjhkfaa
open Go Go.Eng Go.RowKit Go.Proofs
set_option linter.unusedVariables false

theorem next_spec (A : Option Addr) (c : Nat) (b : List UInt8) (w : World) (hbc : b.length ≤ c) (hb : b.length ≤ big) (hA : Bytes w A b) :
    Calls Try.prog 46 #[.slice A b.length c] w (fun en w' => ∃ v, en = .returned v ∧ ∃ u, v = .tuple #[u, .int .i64 (Frame.next b).2] ∧ Ext w w' ∧ Bs w.heap.size 5 w' u (Frame.next b).1) := by
  have hbb := hb
  unfold big at hb
  obtain ⟨n, hn⟩ : ∃ n, Frame.get (b.take 4) = n := ⟨_, rfl⟩
  have hn4 : n < 4294967296 := by
    have h1 := Frame.val_lt (b.take 4)
    have h2 : (b.take 4).length ≤ 4 := by simp; omega
    have h3 : (256 : Nat) ^ (b.take 4).length ≤ 256 ^ 4 := Nat.pow_le_pow_right (by decide) h2
    have h4 : (256 : Nat) ^ 4 = 4294967296 := by decide
    rw [← hn, Frame.get_short (by omega)]
    omega
  refine calls' (n := 43) (rs := #[.tmp 2, .tmp 3]) (l := [.slice A b.length c]) Try.func46 rfl rfl rfl rfl rfl ?_
  refine W_seq ?_
  refine W_region ?_
  refine op rfl (r_assignV (v := .slice _ _ _) rfl) ?_
  refine op rfl (r_assignV (v := .int _ _) rfl) ?_
  refine WL_nil ?_
  refine W_seq ?_
  refine W_seq ?_
  refine W_region ?_
  refine op rfl (r_moveV (v := .slice _ _ _) rfl) ?_
  refine op rfl (r_len_slice rfl Try.underlying23) ?_
  refine op rfl (r_lss rfl rfl) ?_
  refine WL_nil ?_
  refine W_ifp rfl (fun ht9 => ?_) (fun ht9 => ?_)
  · refine W_seq ?_
    refine W_region ?_
    refine op rfl (r_assignV (v := .slice _ _ _) rfl) ?_
    refine op rfl (r_assignV (v := .int _ _) rfl) ?_
    refine WL_nil ?_
    refine W_ret (finX_ret ?_)
    refine fin2 ?_
    exact ⟨_, rfl, _, by rw [Frame.next_short (by omega)]; rfl, Ext.refl _, by rw [Frame.next_short (by omega)]; exact Own.nil⟩
  · refine W_skip ?_
    refine W_seq ?_
    refine W_region ?_
    have h4 : (b.take 4).length = 4 := by simp; omega
    refine op rfl (r_moveV (v := .slice _ _ _) rfl) ?_
    refine op rfl (r_sliceHi (j := 4) rfl rfl Try.underlying23 Try.sz5 (by omega)) ?_
    have hg4 := get_spec A c (b.take 4) w (by omega) (bigs _ (by omega)) (hA.take 4)
    rw [h4, hn] at hg4
    refine opCv rfl (r_call Try.func51 Try.nm51 rfl) (hg4) ?_
    rintro v w3 ⟨rfl, rfl⟩
    refine op rfl (r_assignV (v := .int _ _) rfl) ?_
    refine WL_nil ?_
    refine W_seq ?_
    refine W_seq ?_
    refine W_region ?_
    refine op rfl (r_moveV (v := .int _ _) rfl) ?_
    refine op rfl (r_gtr rfl rfl) ?_
    refine op_split rfl (r_moveV (v := .bool (decide _)) rfl) (fun hg15 => ?_) (fun hg15 => ?_)
    · refine opG_no rfl rfl rfl rfl rfl ?_
      refine opG_no rfl rfl rfl rfl rfl ?_
      refine opG_no rfl rfl rfl rfl rfl ?_
      refine opG_no rfl rfl rfl rfl rfl ?_
      refine opG_no rfl rfl rfl rfl rfl ?_
      refine opG_no rfl rfl rfl rfl rfl ?_
      refine op rfl (r_pickTV (v := .bool _) rfl rfl) ?_
      refine WL_nil ?_
      refine W_then rfl ?_
      refine W_seq ?_
      refine W_region ?_
      refine op rfl (r_assignV (v := .slice _ _ _) rfl) ?_
      refine op rfl (r_assignV (v := .int _ _) rfl) ?_
      refine WL_nil ?_
      refine W_ret (finX_ret ?_)
      refine fin2 ?_
      have hz : Frame.next b = ([], 0) := by unfold Frame.next; rw [if_neg (by omega), hn, if_pos (Or.inl (by omega))]
      exact ⟨_, rfl, _, by rw [hz]; rfl, Ext.refl _, by rw [hz]; exact Own.nil⟩
    · refine opG_yes rfl rfl rfl rfl rfl (r_moveV (v := .int _ _) rfl) ?_
      refine opG_yes rfl rfl rfl rfl rfl (r_conv' rfl Try.underlying42 Try.underlying3 (wrap_i64 (by omega) (by omega))) ?_
      refine opG_yes rfl rfl rfl rfl rfl (r_moveV (v := .slice _ _ _) rfl) ?_
      refine opG_yes rfl rfl rfl rfl rfl (r_len_slice rfl Try.underlying23) ?_
      refine opG_yes rfl rfl rfl rfl rfl (r_sub' rfl rfl (wrap_i64 (by omega) (by omega))) ?_
      refine opG_yes rfl rfl rfl rfl rfl (r_gtr rfl rfl) ?_
      refine op rfl (r_pickFV (v := .bool _) rfl rfl) ?_
      refine WL_nil ?_
      refine W_ifp rfl (fun ht22 => ?_) (fun ht22 => ?_)
      · refine W_seq ?_
        refine W_region ?_
        refine op rfl (r_assignV (v := .slice _ _ _) rfl) ?_
        refine op rfl (r_assignV (v := .int _ _) rfl) ?_
        refine WL_nil ?_
        refine W_ret (finX_ret ?_)
        refine fin2 ?_
        have hz : Frame.next b = ([], 0) := by unfold Frame.next; rw [if_neg (by omega), hn, if_pos (Or.inr (by omega))]
        exact ⟨_, rfl, _, by rw [hz]; rfl, Ext.refl _, by rw [hz]; exact Own.nil⟩
      · refine W_skip ?_
        refine W_seq ?_
        refine W_region ?_
        refine op rfl (r_moveV (v := .int _ _) rfl) ?_
        refine op rfl (r_conv' rfl Try.underlying42 Try.underlying3 (wrap_i64 (by omega) (by omega))) ?_
        refine op rfl (r_add' (r := ((8 + n : Nat) : Int)) rfl rfl (by rw [wrap_i64 (by omega) (by omega)]; omega)) ?_
        refine op rfl (r_assignV (v := .int _ _) rfl) ?_
        refine WL_nil ?_
        refine W_seq ?_
        refine W_region ?_
        have hto : (b.take (8 + n)).length = 8 + n := by simp; omega
        have hbl : ((b.drop 8).take n).length = 8 + n - 8 := by simp; omega
        have hbody : (b.take (8 + n)).drop 8 = (b.drop 8).take n := by rw [List.drop_take, Nat.add_sub_cancel_left]
        have hR := (hA.take (8 + n)).drop (cap := 8 + n) (k := 8) (Nat.le_of_eq hto)
        rw [hbody] at hR
        have hR4 := (hA.take 8).drop (cap := c) (k := 4) (by simp; omega)
        have hd4 : (b.take 8).drop 4 = (b.drop 4).take 4 := by rw [List.drop_take]
        rw [hd4] at hR4
        have hl4 : ((b.drop 4).take 4).length = 8 - 4 := by simp; omega
        refine op rfl (r_moveV (v := .slice _ _ _) rfl) ?_
        refine op rfl (r_moveV (v := .int _ _) rfl) ?_
        refine op rfl (r_moveV (v := .int _ _) rfl) ?_
        refine op rfl (r_slice3 (i := 8) (j := 8 + n) (k := 8 + n) rfl rfl rfl rfl Try.underlying23 Try.sz5 (by omega) (by omega) (by omega)) ?_
        refine op rfl (r_assignV (v := .slice _ _ _) rfl) ?_
        refine WL_nil ?_
        refine W_seq ?_
        refine W_seq ?_
        refine W_drawS (Ext.refl _) Try.wd rfl ?_
        intro wd8 hD hS
        refine A_take (i := 0) rfl (by kernel_rfl) (by kernel_rfl) (by kernel_rfl) rfl hS (fun _ hw => r_moveV (v := .slice _ _ _) rfl) ?_
        refine A_take (i := 1) rfl (by kernel_rfl) (by kernel_rfl) (by kernel_rfl) rfl hS (fun _ hw => r_sliceHi (j := 4) rfl rfl Try.underlying23 Try.sz5 (by omega)) ?_
        refine A_take (i := 2) rfl (by kernel_rfl) (by kernel_rfl) (by kernel_rfl) rfl hS (fun _ hw => r_moveV (v := .slice _ _ _) rfl) ?_
        refine A_take (i := 6) rfl (by kernel_rfl) (by kernel_rfl) (by kernel_rfl) rfl hS (fun _ hw => r_moveV (v := .slice _ _ _) rfl) ?_
        refine A_take (i := 7) rfl (by kernel_rfl) (by kernel_rfl) (by kernel_rfl) rfl hS (fun _ hw => r_sliceLoHi (i := 4) (j := 8) rfl rfl rfl Try.underlying23 Try.sz5 (by omega) (by omega)) ?_
        refine A_ready1 (i := 3) (by kernel_rfl) ?_
        refine O_newS rfl rfl (r_buildSlice (vs := [.slice _ _ _, .slice _ _ _]) Try.underlying22 Try.sz23 Try.zero23 rfl rfl rfl) ?_
        intro w8_3 b8_3 E8_3 B8_3 L8_3
        replace hS := hS.trans E8_3
        refine ⟨hS, ?_⟩
        refine A_ready1 (i := 4) (by kernel_rfl) ?_
        refine O_call rfl rfl (r_call Try.func52 Try.nm52 rfl) (sum_spec _ 2 [b.take 4, (b.drop 8).take n] _ (bigs 2 (by omega)) (bytesL_two (c := c) (c' := 8 + n - 8) (by rw [h4, hbl]; exact B8_3) (by omega) (bigs _ (by omega)) ((hA.take 4).ext hS) (by omega) (bigs _ (by omega)) (hR.ext hS))) ?_
        rintro v w2 ⟨rfl, hE⟩
        replace hS := hS.trans hE
        refine ⟨hS, ?_⟩
        replace B8_3 := Blk.ext B8_3 hE
        refine A_take (i := 5) rfl (by kernel_rfl) (by kernel_rfl) (by kernel_rfl) rfl hS (fun _ hw => r_conv' rfl Try.underlying92 Try.underlying42 (wrap_u64 (Int.natCast_nonneg _) (by have := Frame.csum_lt [b.take 4, (b.drop 8).take n]; unfold Frame.csum at this; omega))) ?_
        refine A_ready1 (i := 8) (by kernel_rfl) ?_
        have hg8 := get_spec _ (c - 4) ((b.drop 4).take 4) _ (by omega) (bigs _ (by omega)) (hR4.ext hS)
        rw [hl4] at hg8
        refine O_call rfl rfl (r_call Try.func51 Try.nm51 rfl) (hg8) ?_
        rintro v w4 ⟨rfl, rfl⟩
        replace hS := hS
        refine ⟨hS, ?_⟩
        refine A_take (i := 9) rfl (by kernel_rfl) (by kernel_rfl) (by kernel_rfl) rfl hS (fun _ hw => r_neq rfl rfl) ?_
        refine A_done (by kernel_rfl) ?_
        refine W_ifp rfl (fun ht39 => ?_) (fun ht39 => ?_)
        · refine W_seq ?_
          refine W_region ?_
          refine op rfl (r_assignV (v := .slice _ _ _) rfl) ?_
          refine op rfl (r_assignV (v := .int _ _) rfl) ?_
          refine WL_nil ?_
          refine W_ret (finX_ret ?_)
          refine fin2 ?_
          have hz : Frame.next b = ([], 0) := by unfold Frame.next; rw [if_neg (by omega), hn, if_neg (by omega), if_neg (fun q => ht39 (by unfold Frame.csum at q; rw [q]))]
          exact ⟨_, rfl, _, by rw [hz]; rfl, hS, by rw [hz]; exact Own.nil⟩
        · refine W_skip ?_
          refine W_seq ?_
          refine W_region ?_
          refine op rfl (r_moveV (v := .slice _ _ _) rfl) ?_
          have hz : Frame.next b = ((b.drop 8).take n, 8 + n) := by
            unfold Frame.next
            rw [if_neg (by omega), hn, if_neg (by omega), if_pos (by unfold Frame.csum; omega)]
          have hRS := hR.ext hS
          rw [← hbl]
          refine op_app (v := .slice none 0 0) flat_byte rfl rfl rfl Try.underlying23 Try.sz5 Try.by5 Try.zero5 rfl (hS) (Own.nil) (hRS) (by simp; omega) (by simp; omega) ?_
          intro v10_1 w10_1 O10_1 X10_1 G10_1
          refine op rfl (r_moveV (v := .int _ _) rfl) ?_
          refine op rfl (r_assignV (v := v10_1) rfl) ?_
          refine op rfl (r_assignV (v := .int _ _) rfl) ?_
          refine WL_nil ?_
          refine W_ret (finX_ret ?_)
          refine fin2 ?_
          exact ⟨_, rfl, _, by rw [hz]; rfl, X10_1, by rw [hz]; exact O10_1⟩
end Go.Proofs.Ytlidigdlcjhkfaa
