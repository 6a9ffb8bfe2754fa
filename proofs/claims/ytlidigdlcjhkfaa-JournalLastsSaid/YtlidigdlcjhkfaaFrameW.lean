/-
  The walks of package frame, but for its loop over a function.
-/
import Derived.Test.YtlidigdlcjhkfaaFacts
import Derived.Test.YtlidigdlcjhkfaaStr
import Derived.Test.YtlidigdlcjhkfaaFrameM
import Derived.Test.YtlidigdlcjhkfaaCrcW
import Derived.Test.YtlidigdlcjhkfaaCrcH
namespace Go.Proofs.Ytlidigdlcjhkfaa
open Go Go.Eng Go.RowKit Go.Proofs
set_option linter.unusedVariables false

theorem num_spec (n : Nat) (hn : n < 2 ^ 64) (wide : Int) (w : World) : Calls Try.prog 50 #[.int .u64 n, .int .i64 wide] w (fun en w' => ∃ v, en = .returned v ∧ Ext w w' ∧ Bs w.heap.size 5 w' v (Frame.num n (Frame.wid wide))) := by
  have hk8 := Frame.wid_le wide
  have hk := Frame.wid_eq wide
  generalize Frame.wid wide = k at hk hk8
  refine calls' (n := 30) (rs := #[.tmp 4]) (l := [.int .u64 n, .int .i64 wide]) Try.func50 rfl rfl rfl rfl rfl ?_
  refine W_seq ?_
  refine W_region ?_
  refine op rfl (r_assignV (v := .slice _ _ _) rfl) ?_
  refine WL_nil ?_
  refine W_seq ?_
  refine W_region ?_
  refine op rfl (r_moveV (v := .int _ _) rfl) ?_
  refine op rfl (r_min' rfl rfl rfl) ?_
  refine op rfl (r_max' rfl rfl hk) ?_
  refine op_newS2 rfl (r_makeSlice rfl rfl Try.underlying23 Try.sz5 Try.by5 Try.zero5 (by omega) (by omega) (by omega)) ?_
  intro w1_3 b1_3 E1_3 B1_3 L1_3
  have hB0 : Blk w1_3 b1_3 (Array.replicate k (.int .u8 0)) 5 := by have h := B1_3; rw [show (Value.int IntKind.u8 0).cells = #[Value.int .u8 0] from rfl, madeCells_one] at h; exact h
  refine op rfl (r_assignV (v := .slice _ _ _) rfl) ?_
  refine WL_nil ?_
  refine W_seq ?_
  refine W_seq ?_
  refine W_region ?_
  refine op rfl (r_moveV (v := .slice _ _ _) rfl) ?_
  refine op rfl (r_len_slice rfl Try.underlying23) ?_
  refine op rfl (r_moveV (v := .int _ _) rfl) ?_
  refine WL_nil ?_
  refine W_block ?_
  refine W_loop [6, 13, 14, 15, 16, 17, 18, 19, 20, 21, 22, 23, 24, 25, 26, 27, 28] (fun j g w' => ∃ (i : Nat) (cc : Array Value), g 13 = .int .i64 i ∧ i ≤ k ∧ j = k - i ∧ Ext w w' ∧ Blk w' b1_3 cc 5 ∧ cc.size = k ∧ (∀ q, q < k → cc[q]? = some (.int .u8 (if k - 1 - q < i then ((UInt8.ofNat (n / 256 ^ (k - 1 - q))).toNat : Int) else 0)))) (k) ?_ ?_
  · exact ⟨0, _, rfl, by omega, by omega, E1_3, hB0, by simp, fun q hq => by simp [hq]⟩
  intro k g w' hI
  obtain ⟨i, cc, h13, hi, rfl, HE, HB, hcs, hcc⟩ := hI
  refine W_set (i := 13) h13 ?_
  refine W_seq ?_
  refine W_region ?_
  refine op rfl (r_lss rfl rfl) ?_
  refine WL_nil ?_
  refine W_seq ?_
  refine W_ifp rfl (fun ht14 => ?_) (fun ht14 => ?_)
  · replace ht14 : i < k := by omega
    refine W_skip ?_
    refine W_seq ?_
    refine W_block ?_
    refine W_seq ?_
    refine W_region ?_
    refine op rfl (r_moveV (v := .int _ _) rfl) ?_
    refine op rfl (r_assignV (v := .int _ _) rfl) ?_
    refine WL_nil ?_
    refine W_region ?_
    refine op rfl (r_moveV (v := .slice _ _ _) rfl) ?_
    refine op rfl (r_moveV (v := .slice _ _ _) rfl) ?_
    refine op rfl (r_len_slice rfl Try.underlying23) ?_
    refine op rfl (r_sub' rfl rfl (wrap_i64 (by omega) (by omega))) ?_
    refine op rfl (r_moveV (v := .int _ _) rfl) ?_
    refine op rfl (r_sub' rfl rfl (wrap_i64 (by omega) (by omega))) ?_
    refine op rfl (r_moveV (v := .int _ _) rfl) ?_
    refine op rfl (r_moveV (v := .int _ _) rfl) ?_
    refine op rfl (r_mul' rfl rfl (wrap_i64 (by omega) (by omega))) ?_
    refine op rfl (r_shr64 (k := 8 * i) rfl rfl (by omega)) ?_
    refine op rfl (r_conv' rfl Try.underlying42 Try.underlying5 (wrap8_nat _)) ?_
    refine op rfl (r_indexAddr0 rfl rfl Try.underlying23 Try.sz5 (by omega) (by omega)) ?_
    refine op_store (v := .int _ _) rfl rfl rfl Try.sz5 HB (by rw [hcs]; omega) ?_
    intro w5_12 C5_12 B5_12
    refine WL_nil ?_
    refine W_region ?_
    refine op rfl (r_add' rfl rfl (wrap_i64 (by omega) (by omega))) ?_
    refine op rfl (r_moveV (v := .int _ _) rfl) ?_
    refine WL_nil ?_
    refine ⟨?_, by repeat (first | with_reducible exact Out.refl _ _ | with_reducible exact Out.mix | refine Out.put rfl ?_ | refine Out.mixin rfl ?_ | exact Out.refl _ _ | exact Out.mix)⟩
    refine ⟨k - (i + 1), by omega, i + 1, _, rfl, by omega, rfl, HE.chg C5_12 (by omega), B5_12, by simpa using hcs, ?_⟩
    intro q hq
    rw [Array.getElem?_setIfInBounds]
    by_cases hqk : ((k : Int) - 1 - (i : Int)).toNat = q
    · rw [if_pos hqk, if_pos (by omega)]
      have h1 : k - 1 - q = i := by omega
      have h2 : k - 1 - q < i + 1 := by omega
      rw [if_pos h2, h1, show (256 : Nat) ^ i = 2 ^ (8 * i) from by rw [Nat.pow_mul]]
    · rw [if_neg hqk, hcc q hq]
      have h3 : (k - 1 - q < i) ↔ (k - 1 - q < i + 1) := by omega
      simp only [h3]
  · obtain rfl : i = k := by omega
    refine W_exit (blk_hit ?_)
    refine W_seq ?_
    refine W_region ?_
    refine op rfl (r_moveV (v := .slice _ _ _) rfl) ?_
    refine op rfl (r_assignV (v := .slice _ _ _) rfl) ?_
    refine WL_nil ?_
    refine W_ret (finX_ret ?_)
    refine fin1 ?_
    refine ⟨_, rfl, HE, ?_⟩
    have hl := Frame.num_length n i
    have h := Own.of_blk (l := Frame.num n i) (F := nobody) (enc := fun b : UInt8 => Value.int .u8 b.toNat) (ok := fun _ => True) (h1 := fun _ => rfl) (B := w.heap.size) (Nat.le_of_eq L1_3) HB (Nat.le_of_eq hl) hcs (fun _ _ => trivial) (fun q hq => by
      rw [hl] at hq
      rw [hcc q hq, if_pos (by omega), Frame.num_get])
    rw [hl] at h
    exact h

theorem get_spec (A : Option Addr) (c : Nat) (l : List UInt8) (w : World) (hlc : l.length ≤ c) (hl : l.length ≤ big) (hA : Bytes w A l) :
    Calls Try.prog 51 #[.slice A l.length c] w (fun en w' => ∃ v, en = .returned v ∧ v = .int .u64 (Frame.get l) ∧ w' = w) := by
  unfold big at hl
  obtain ⟨k, hk⟩ : ∃ k, l.length - 8 = k := ⟨_, rfl⟩
  have hD := hA.drop hlc (k := k)
  have hdl : (l.drop k).length = l.length - k := by simp
  refine calls' (n := 24) (rs := #[.tmp 2]) (l := [.slice A l.length c]) Try.func51 rfl rfl rfl rfl rfl ?_
  refine W_seq ?_
  refine W_region ?_
  refine op rfl (r_assignV (v := .int _ _) rfl) ?_
  refine WL_nil ?_
  refine W_seq ?_
  refine W_region ?_
  refine op rfl (r_assignV (v := .int _ _) rfl) ?_
  refine WL_nil ?_
  refine W_seq ?_
  refine W_seq ?_
  refine W_region ?_
  refine op rfl (r_moveV (v := .slice _ _ _) rfl) ?_
  refine op rfl (r_moveV (v := .slice _ _ _) rfl) ?_
  refine op rfl (r_len_slice rfl Try.underlying23) ?_
  refine op rfl (r_sub' rfl rfl (wrap_i64 (by omega) (by omega))) ?_
  refine op rfl (r_max' rfl rfl (show max (0 : Int) ((l.length : Int) - 8) = (k : Int) from by omega)) ?_
  refine op rfl (r_sliceLo rfl rfl Try.underlying23 Try.sz5 (by omega)) ?_
  refine op rfl (r_len_slice rfl Try.underlying23) ?_
  refine op rfl (r_moveV (v := .int _ _) rfl) ?_
  refine WL_nil ?_
  refine W_block ?_
  refine W_loop [3, 5, 13, 14, 15, 16, 17, 18, 19, 20, 21, 22] (fun j g w' => ∃ i : Nat, g 13 = .int .i64 i ∧ i ≤ l.length - k ∧ j = l.length - k - i ∧ g 3 = .int .u64 (Frame.val ((l.drop k).take i) : Nat) ∧ w = w') (l.length - k) ?_ ?_
  · exact ⟨0, rfl, by omega, by omega, rfl, rfl⟩
  intro k g w' hI
  obtain ⟨i, h13, hi, rfl, h3, rfl⟩ := hI
  refine W_set (i := 13) h13 ?_
  refine W_set (i := 3) h3 ?_
  refine W_seq ?_
  refine W_region ?_
  refine op rfl (r_lss rfl rfl) ?_
  refine WL_nil ?_
  refine W_seq ?_
  refine W_ifp rfl (fun ht14 => ?_) (fun ht14 => ?_)
  · replace ht14 : i < l.length - k := by omega
    have hid : i < (l.drop k).length := by omega
    obtain ⟨b1, o1, hAe, _, _, hc⟩ := hD.cell hid
    have hv : Frame.val ((l.drop k).take i) * 256 < 2 ^ 64 := by
      have h1 := Frame.val_lt ((l.drop k).take i)
      have h2 : ((l.drop k).take i).length ≤ 7 := by simp; omega
      have h3 : (256 : Nat) ^ ((l.drop k).take i).length ≤ 256 ^ 7 := Nat.pow_le_pow_right (by decide) h2
      have h4 : (256 : Nat) ^ 7 = 72057594037927936 := by decide
      omega
    have hcl := (l.drop k)[i].toNat_lt
    refine W_skip ?_
    refine W_seq ?_
    refine W_block ?_
    refine W_seq ?_
    refine W_region ?_
    refine op rfl (r_indexAddr1 rfl rfl hAe Try.underlying23 Try.sz5 (by omega) (by omega)) ?_
    refine op rfl (r_load rfl Try.underlying5 rfl hc) ?_
    refine op rfl (r_assignV (v := .int _ _) rfl) ?_
    refine WL_nil ?_
    refine W_region ?_
    refine op rfl (r_moveV (v := .int _ _) rfl) ?_
    refine op rfl (r_shl8 rfl rfl hv) ?_
    refine op rfl (r_moveV (v := .int _ _) rfl) ?_
    refine op rfl (r_conv' rfl Try.underlying5 Try.underlying42 (wrap_u64 (by omega) (by omega))) ?_
    refine op rfl (r_or8 rfl rfl hv hcl) ?_
    refine op rfl (r_assignV (v := .int _ _) rfl) ?_
    refine WL_nil ?_
    refine W_region ?_
    refine op rfl (r_add' rfl rfl (wrap_i64 (by omega) (by omega))) ?_
    refine op rfl (r_moveV (v := .int _ _) rfl) ?_
    refine WL_nil ?_
    refine ⟨?_, by repeat (first | with_reducible exact Out.refl _ _ | with_reducible exact Out.mix | refine Out.put rfl ?_ | refine Out.mixin rfl ?_ | exact Out.refl _ _ | exact Out.mix)⟩
    exact ⟨l.length - k - (i + 1), by omega, i + 1, rfl, by omega, rfl, by rw [List.take_succ_eq_append_getElem hid, Frame.val_snoc]; rfl, rfl⟩
  · have hil : i = l.length - k := by omega
    refine W_exit (blk_hit ?_)
    refine W_seq ?_
    refine W_region ?_
    refine op rfl (r_moveV (v := .int _ _) rfl) ?_
    refine op rfl (r_assignV (v := .int _ _) rfl) ?_
    refine WL_nil ?_
    refine W_ret (finX_ret ?_)
    refine fin1 ?_
    exact ⟨_, rfl, by rw [Frame.get_last, hk, hil, List.take_of_length_le (by omega)]; rfl, rfl⟩

theorem bigs (k : Nat) (h : k ≤ 140737488355328) : k ≤ big := h
theorem encode_spec (A : Option Addr) (c : Nat) (b : List UInt8) (w : World) (hbc : b.length ≤ c) (hb : b.length ≤ big) (hA : Bytes w A b) :
    Calls Try.prog 48 #[.slice A b.length c] w (fun en w' => ∃ v, en = .returned v ∧ ∃ u, v = .tuple #[u, .int .i64 (Frame.errOf b)] ∧ Ext w w' ∧ Bs w.heap.size 5 w' u (Frame.encode b)) := by
  have hbb := hb
  unfold big at hb
  have hn4 := Frame.num_length b.length 4
  refine calls' (n := 24) (rs := #[.tmp 2, .tmp 3]) (l := [.slice A b.length c]) Try.func48 rfl rfl rfl rfl rfl ?_
  refine W_seq ?_
  refine W_region ?_
  refine op rfl (r_assignV (v := .slice _ _ _) rfl) ?_
  refine op rfl (r_assignV (v := .int _ _) rfl) ?_
  refine WL_nil ?_
  refine W_seq ?_
  refine W_seq ?_
  refine W_region ?_
  refine op rfl (r_moveV (v := .slice _ _ _) rfl) ?_
  refine op rfl (r_len_slice rfl Try.underlying23) ?_
  refine op rfl (r_gtr rfl rfl) ?_
  refine WL_nil ?_
  refine W_ifp rfl (fun ht8 => ?_) (fun ht8 => ?_)
  · refine W_seq ?_
    refine W_region ?_
    refine op rfl (r_assignV (v := .slice _ _ _) rfl) ?_
    refine op rfl (r_assignV (v := .int _ _) rfl) ?_
    refine WL_nil ?_
    refine W_ret (finX_ret ?_)
    refine fin2 ?_
    exact ⟨_, rfl, _, by unfold Frame.errOf; rw [if_neg (by omega)]; rfl, Ext.refl _, by unfold Frame.encode; rw [if_neg (by omega)]; exact Own.nil⟩
  · refine W_skip ?_
    refine W_seq ?_
    refine W_region ?_
    refine op rfl (r_moveV (v := .slice _ _ _) rfl) ?_
    refine op rfl (r_len_slice rfl Try.underlying23) ?_
    refine op rfl (r_conv' rfl Try.underlying3 Try.underlying42 (wrap_u64 (by omega) (by omega))) ?_
    refine opCv rfl (r_call Try.func50 Try.nm50 rfl) (num_spec b.length (by omega) 4 _) ?_
    rintro v w3 ⟨E3, O3⟩
    replace O3 : Bs w.heap.size 5 w3 v (Frame.num b.length 4) := O3
    obtain ⟨A3, c3, rfl, hc3, hR3⟩ := own_frow O3
    refine op rfl (r_assignV (v := .slice _ _ _) rfl) ?_
    refine WL_nil ?_
    refine W_seq ?_
    refine W_region ?_
    refine op rfl (r_moveV (v := .slice _ _ _) rfl) ?_
    refine op rfl (r_moveV (v := .slice _ _ _) rfl) ?_
    refine op rfl (r_moveV (v := .slice _ _ _) rfl) ?_
    refine op_newS rfl (r_buildSlice (vs := [.slice _ _ _, .slice _ _ _]) Try.underlying22 Try.sz23 Try.zero23 rfl rfl rfl) ?_
    intro w4_3 b4_3 E4_3 B4_3 L4_3
    have X4 := E3.trans E4_3
    refine opCv rfl (r_call Try.func52 Try.nm52 rfl) (sum_spec _ 2 [Frame.num b.length 4, b] _ (bigs 2 (by omega)) (bytesL_two (c := c3) (c' := c) B4_3 hc3 (by rw [hn4]; exact bigs 4 (by omega)) (hR3.ext E4_3) hbc hbb (hA.ext X4))) ?_
    rintro v5 w5 ⟨rfl, E5⟩
    refine op rfl (r_conv' rfl Try.underlying92 Try.underlying42 (wrap_u64 (Int.natCast_nonneg _) (by have := Frame.csum_lt [Frame.num b.length 4, b]; unfold Frame.csum at this; omega))) ?_
    refine opCv rfl (r_call Try.func50 Try.nm50 rfl) (num_spec (Frame.csum [Frame.num b.length 4, b]) (by have := Frame.csum_lt [Frame.num b.length 4, b]; omega) 4 _) ?_
    rintro v6 w6 ⟨E6, O6⟩
    replace O6 : Bs w5.heap.size 5 w6 v6 (Frame.num (Frame.csum [Frame.num b.length 4, b]) 4) := O6
    have hn6 := Frame.num_length (Frame.csum [Frame.num b.length 4, b]) 4
    obtain ⟨A6, c6, rfl, hc6, hR6⟩ := own_frow O6
    have X6 := (X4.trans E5).trans E6
    have O3' := own_fext O3 ((E4_3.trans E5).trans E6)
    refine op_app flat_byte rfl rfl rfl Try.underlying23 Try.sz5 Try.by5 Try.zero5 rfl (X6) (O3') (hR6) (by omega) (by omega) ?_
    intro v4_7 w4_7 O4_7 X4_7 G4_7
    refine op rfl (r_assignV (v := v4_7) rfl) ?_
    refine WL_nil ?_
    refine W_seq ?_
    refine W_region ?_
    refine op rfl (r_moveV (v := v4_7) rfl) ?_
    refine op rfl (r_moveV (v := .slice _ _ _) rfl) ?_
    refine op_app (v := v4_7) flat_byte rfl rfl rfl Try.underlying23 Try.sz5 Try.by5 Try.zero5 rfl (X4_7) (O4_7) (hA.ext X4_7) (by simp only [List.length_append]; omega) (by simp only [List.length_append]; omega) ?_
    intro v5_2 w5_2 O5_2 X5_2 G5_2
    refine op rfl (r_assignV (v := v5_2) rfl) ?_
    refine op rfl (r_assignV (v := .int _ _) rfl) ?_
    refine WL_nil ?_
    refine W_ret (finX_ret ?_)
    refine fin2 ?_
    exact ⟨_, rfl, _, by unfold Frame.errOf; rw [if_pos (by omega)]; rfl, X5_2, by unfold Frame.encode; rw [if_pos (by omega)]; exact O5_2⟩
end Go.Proofs.Ytlidigdlcjhkfaa
