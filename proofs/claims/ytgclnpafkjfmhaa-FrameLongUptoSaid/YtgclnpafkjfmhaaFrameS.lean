/-
  The walks of the chapter's own answer: a frame, the first one, all of them; what the laws know.
-/
import Derived.Test.YtgclnpafkjfmhaaFacts
import Derived.Test.YtgclnpafkjfmhaaFrameR
namespace Go.Proofs.Ytgclnpafkjfmhaa
open Go Go.Eng Go.RowKit Go.Proofs
set_option linter.unusedVariables false

theorem refEncode_spec (A : Option Addr) (c : Nat) (b : List UInt8) (w : World) (hbc : b.length ≤ c) (hb : b.length ≤ big) (hA : Bytes w A b) :
    Calls Try.prog 22 #[.slice A b.length c] w (fun en w' => ∃ v, en = .returned v ∧ ∃ u, v = .tuple #[u, .int .i64 (Frame.errOf b)] ∧ Ext w w' ∧ Bs w.heap.size 5 w' u (Frame.encode b)) := by
  have hbb := hb
  unfold big at hb
  have hn4 := Frame.num_length b.length 4
  refine calls' (n := 27) (rs := #[.tmp 2, .tmp 3]) (l := [.slice A b.length c]) Try.func22 rfl rfl rfl rfl rfl ?_
  refine W_seq ?_
  refine W_region ?_
  refine op rfl (r_assignV (v := .slice _ _ _) rfl) ?_
  refine op rfl (r_assignV (v := .int _ _) rfl) ?_
  refine WL_nil ?_
  refine W_seq ?_
  refine W_seq ?_
  refine W_region ?_
  refine op rfl (r_moveV (v := .slice _ _ _) rfl) ?_
  refine op rfl (r_len_slice rfl Try.underlying22) ?_
  refine op rfl (r_gtr rfl rfl) ?_
  refine WL_nil ?_
  refine W_ifp rfl (fun ht7 => ?_) (fun ht7 => ?_)
  · refine W_seq ?_
    refine W_region ?_
    refine op rfl (r_assignV (v := .slice _ _ _) rfl) ?_
    refine op rfl (r_assignV (v := .int _ _) rfl) ?_
    refine WL_nil ?_
    refine W_ret (finX_ret ?_)
    refine fin2 ?_
    exact ⟨_, rfl, _, by unfold Frame.errOf; rw [if_neg (by omega)]; rfl, Ext.refl _, by unfold Frame.encode; rw [if_neg (by omega)]; exact Own.nil⟩
  · refine W_skip ?_
    refine W_seq ?_
    refine W_region ?_
    refine op rfl (r_moveV (v := .slice _ _ _) rfl) ?_
    refine op rfl (r_len_slice rfl Try.underlying22) ?_
    refine op rfl (r_conv' rfl Try.underlying3 Try.underlying40 (wrap_u64 (by omega) (by omega))) ?_
    refine opCv rfl (r_call Try.func25 Try.nm25 rfl) (refNum_spec b.length (by omega) 4 _) ?_
    rintro v w3 ⟨E3, O3⟩
    replace O3 : Bs w.heap.size 5 w3 v (Frame.num b.length 4) := O3
    obtain ⟨A3, c3, rfl, hc3, hR3⟩ := own_frow O3
    refine op rfl (r_assignV (v := .slice _ _ _) rfl) ?_
    refine WL_nil ?_
    refine W_seq ?_
    refine W_region ?_
    refine op rfl (r_moveV (v := .slice _ _ _) rfl) ?_
    refine op rfl (r_moveV (v := .slice _ _ _) rfl) ?_
    refine op rfl (r_len_slice rfl Try.underlying22) ?_
    refine op rfl (r_conv' rfl Try.underlying3 Try.underlying40 (wrap_u64 (by omega) (by omega))) ?_
    refine opCv rfl (r_call Try.func25 Try.nm25 rfl) (refNum_spec b.length (by omega) 4 _) ?_
    rintro v w4 ⟨E4, O4⟩
    replace O4 : Bs w3.heap.size 5 w4 v (Frame.num b.length 4) := O4
    obtain ⟨A4, c4, rfl, hc4, hR4⟩ := own_frow O4
    refine op rfl (r_moveV (v := .slice _ _ _) rfl) ?_
    refine op_newS rfl (r_buildSlice (vs := [.slice _ _ _, .slice _ _ _]) Try.underlying26 Try.sz22 Try.zero22 rfl rfl rfl) ?_
    intro w4_6 b4_6 E4_6 B4_6 L4_6
    have X4 := (E3.trans E4).trans E4_6
    refine opCv rfl (r_call Try.func26 Try.nm26 rfl) (refSum_spec _ 2 [Frame.num b.length 4, b] _ (bigs 2 (by omega)) (bytesL_two (c := c4) (c' := c) B4_6 hc4 (by rw [hn4]; exact bigs 4 (by omega)) (hR4.ext E4_6) hbc hbb (hA.ext X4))) ?_
    rintro v w5 ⟨rfl, rfl⟩
    refine op rfl (r_conv' rfl Try.underlying45 Try.underlying40 (wrap_u64 (Int.natCast_nonneg _) (by have := Frame.csum_lt [Frame.num b.length 4, b]; unfold Frame.csum at this; omega))) ?_
    refine opCv rfl (r_call Try.func25 Try.nm25 rfl) (refNum_spec (Frame.csum [Frame.num b.length 4, b]) (by have := Frame.csum_lt [Frame.num b.length 4, b]; omega) 4 _) ?_
    rintro v6 w6 ⟨E6, O6⟩
    replace O6 : Bs w5.heap.size 5 w6 v6 (Frame.num (Frame.csum [Frame.num b.length 4, b]) 4) := O6
    have hn6 := Frame.num_length (Frame.csum [Frame.num b.length 4, b]) 4
    obtain ⟨A6, c6, rfl, hc6, hR6⟩ := own_frow O6
    have X6 := X4.trans E6
    have O3' := own_fext O3 ((E4.trans E4_6).trans E6)
    refine op_app flat_byte rfl rfl rfl Try.underlying22 Try.sz5 Try.by5 Try.zero5 rfl (X6) (O3') (hR6) (by omega) (by omega) ?_
    intro v4_10 w4_10 O4_10 X4_10 G4_10
    refine op rfl (r_assignV (v := v4_10) rfl) ?_
    refine WL_nil ?_
    refine W_seq ?_
    refine W_region ?_
    refine op rfl (r_moveV (v := v4_10) rfl) ?_
    refine op rfl (r_moveV (v := .slice _ _ _) rfl) ?_
    refine op_app (v := v4_10) flat_byte rfl rfl rfl Try.underlying22 Try.sz5 Try.by5 Try.zero5 rfl (X4_10) (O4_10) (hA.ext X4_10) (by simp only [List.length_append]; omega) (by simp only [List.length_append]; omega) ?_
    intro v5_2 w5_2 O5_2 X5_2 G5_2
    refine op rfl (r_assignV (v := v5_2) rfl) ?_
    refine WL_nil ?_
    refine W_seq ?_
    refine W_region ?_
    refine op rfl (r_moveV (v := v5_2) rfl) ?_
    refine op rfl (r_assignV (v := v5_2) rfl) ?_
    refine op rfl (r_assignV (v := .int _ _) rfl) ?_
    refine WL_nil ?_
    refine W_ret (finX_ret ?_)
    refine fin2 ?_
    exact ⟨_, rfl, _, by unfold Frame.errOf; rw [if_pos (by omega)]; rfl, X5_2, by unfold Frame.encode; rw [if_pos (by omega)]; exact O5_2⟩

theorem refNext_spec (A : Option Addr) (c : Nat) (b : List UInt8) (w : World) (hbc : b.length ≤ c) (hb : b.length ≤ big) (hA : Bytes w A b) :
    Calls Try.prog 10 #[.slice A b.length c] w (fun en w' => ∃ v, en = .returned v ∧ ∃ A' c', v = .tuple #[.slice A' (Frame.next b).1.length c', .int .i64 (Frame.next b).2] ∧ (Frame.next b).1.length ≤ c' ∧ Ext w w' ∧ ∀ (w0 : World) (F : Nat → Prop), Ty.byte.Row w0 F A b → Ty.byte.Row w0 F A' (Frame.next b).1) := by
  have hbb := hb
  unfold big at hb
  obtain ⟨n, hn⟩ : ∃ n, Frame.get (b.take 4) = n := ⟨_, rfl⟩
  have hn4 : n < 4294967296 := by
    have h1 := Frame.val_lt (b.take 4)
    have h2 : (b.take 4).length ≤ 4 := by simp; omega
    have h3 : (256 : Nat) ^ (b.take 4).length ≤ 256 ^ 4 := Nat.pow_le_pow_right (by decide) h2
    have h4 : (256 : Nat) ^ 4 = 4294967296 := by decide
    rw [← hn, Frame.get_short (by omega)]
    omega
  refine calls' (n := 47) (rs := #[.tmp 2, .tmp 3]) (l := [.slice A b.length c]) Try.func10 rfl rfl rfl rfl rfl ?_
  refine W_seq ?_
  refine W_region ?_
  refine op rfl (r_assignV (v := .slice _ _ _) rfl) ?_
  refine op rfl (r_assignV (v := .int _ _) rfl) ?_
  refine WL_nil ?_
  refine W_seq ?_
  refine W_seq ?_
  refine W_region ?_
  refine op rfl (r_moveV (v := .slice _ _ _) rfl) ?_
  refine op rfl (r_len_slice rfl Try.underlying22) ?_
  refine op rfl (r_lss rfl rfl) ?_
  refine WL_nil ?_
  refine W_ifp rfl (fun ht10 => ?_) (fun ht10 => ?_)
  · refine W_seq ?_
    refine W_region ?_
    refine op rfl (r_assignV (v := .slice _ _ _) rfl) ?_
    refine op rfl (r_assignV (v := .int _ _) rfl) ?_
    refine WL_nil ?_
    refine W_ret (finX_ret ?_)
    refine fin2 ?_
    rw [Frame.next_short (by omega)]
    exact ⟨_, rfl, none, 0, rfl, Nat.le_refl _, Ext.refl _, fun _ _ _ => Ty.Row.nil⟩
  · refine W_skip ?_
    refine W_seq ?_
    refine W_region ?_
    have h4 : (b.take 4).length = 4 := by simp; omega
    refine op rfl (r_moveV (v := .slice _ _ _) rfl) ?_
    refine op rfl (r_sliceHi (j := 4) rfl rfl Try.underlying22 Try.sz5 (by omega)) ?_
    have hg4 := refGet_spec A c (b.take 4) w (bigs _ (by omega)) (hA.take 4)
    rw [h4, hn] at hg4
    refine opCv rfl (r_call Try.func21 Try.nm21 rfl) (hg4) ?_
    rintro v w3 ⟨rfl, rfl⟩
    refine op rfl (r_assignV (v := .int _ _) rfl) ?_
    refine WL_nil ?_
    refine W_seq ?_
    refine W_seq ?_
    refine W_region ?_
    refine op rfl (r_moveV (v := .int _ _) rfl) ?_
    refine op rfl (r_gtr rfl rfl) ?_
    refine op_split rfl (r_moveV (v := .bool (decide _)) rfl) (fun hg16 => ?_) (fun hg16 => ?_)
    · refine opG_no rfl rfl rfl rfl rfl ?_
      refine opG_no rfl rfl rfl rfl rfl ?_
      refine opG_no rfl rfl rfl rfl rfl ?_
      refine opG_no rfl rfl rfl rfl rfl ?_
      refine opG_no rfl rfl rfl rfl rfl ?_
      refine opG_no rfl rfl rfl rfl rfl ?_
      refine op rfl (r_pickTV (v := .bool _) rfl rfl) ?_
      refine WL_nil ?_
      refine W_then rfl ?_
      refine W_seq ?_
      refine W_region ?_
      refine op rfl (r_assignV (v := .slice _ _ _) rfl) ?_
      refine op rfl (r_assignV (v := .int _ _) rfl) ?_
      refine WL_nil ?_
      refine W_ret (finX_ret ?_)
      refine fin2 ?_
      have hz : Frame.next b = ([], 0) := by unfold Frame.next; rw [if_neg (by omega), hn, if_pos (Or.inl (by omega))]
      rw [hz]
      exact ⟨_, rfl, none, 0, rfl, Nat.le_refl _, Ext.refl _, fun _ _ _ => Ty.Row.nil⟩
    · refine opG_yes rfl rfl rfl rfl rfl (r_moveV (v := .int _ _) rfl) ?_
      refine opG_yes rfl rfl rfl rfl rfl (r_conv' rfl Try.underlying40 Try.underlying3 (wrap_i64 (by omega) (by omega))) ?_
      refine opG_yes rfl rfl rfl rfl rfl (r_moveV (v := .slice _ _ _) rfl) ?_
      refine opG_yes rfl rfl rfl rfl rfl (r_len_slice rfl Try.underlying22) ?_
      refine opG_yes rfl rfl rfl rfl rfl (r_sub' rfl rfl (wrap_i64 (by omega) (by omega))) ?_
      refine opG_yes rfl rfl rfl rfl rfl (r_gtr rfl rfl) ?_
      refine op rfl (r_pickFV (v := .bool _) rfl rfl) ?_
      refine WL_nil ?_
      refine W_ifp rfl (fun ht23 => ?_) (fun ht23 => ?_)
      · refine W_seq ?_
        refine W_region ?_
        refine op rfl (r_assignV (v := .slice _ _ _) rfl) ?_
        refine op rfl (r_assignV (v := .int _ _) rfl) ?_
        refine WL_nil ?_
        refine W_ret (finX_ret ?_)
        refine fin2 ?_
        have hz : Frame.next b = ([], 0) := by unfold Frame.next; rw [if_neg (by omega), hn, if_pos (Or.inr (by omega))]
        rw [hz]
        exact ⟨_, rfl, none, 0, rfl, Nat.le_refl _, Ext.refl _, fun _ _ _ => Ty.Row.nil⟩
      · refine W_skip ?_
        refine W_seq ?_
        refine W_region ?_
        have hto : (b.take (8 + n)).length = 8 + n := by simp; omega
        have hbl : ((b.drop 8).take n).length = 8 + n - 8 := by simp; omega
        have hbody : (b.take (8 + n)).drop 8 = (b.drop 8).take n := by rw [List.drop_take, Nat.add_sub_cancel_left]
        have hR := (hA.take (8 + n)).drop (cap := c) (k := 8) (by omega)
        rw [hbody] at hR
        have hRB := hA.take (8 + n)
        refine op rfl (r_moveV (v := .slice _ _ _) rfl) ?_
        refine op rfl (r_moveV (v := .int _ _) rfl) ?_
        refine op rfl (r_conv' rfl Try.underlying40 Try.underlying3 (wrap_i64 (by omega) (by omega))) ?_
        refine op rfl (r_add' (r := ((8 + n : Nat) : Int)) rfl rfl (by rw [wrap_i64 (by omega) (by omega)]; omega)) ?_
        refine op rfl (r_sliceLoHi (i := 8) (j := 8 + n) rfl rfl rfl Try.underlying22 Try.sz5 (by omega) (by omega)) ?_
        refine op rfl (r_assignV (v := .slice _ _ _) rfl) ?_
        refine WL_nil ?_
        refine W_seq ?_
        refine W_region ?_
        refine op rfl (r_moveV (v := .slice _ _ _) rfl) ?_
        have he := refEncode_spec _ (c - 8) ((b.drop 8).take n) w3 (by omega) (bigs _ (by omega)) hR
        rw [hbl] at he
        refine opCv rfl (r_call Try.func22 Try.nm22 rfl) (he) ?_
        rintro v w7 ⟨u, rfl, E7, O7⟩
        obtain ⟨A7, c7, rfl, hc7, hR7⟩ := own_frow O7
        refine op rfl (r_moveV (v := .tuple #[.slice A7 (Frame.encode ((b.drop 8).take n)).length c7, .int .i64 (Frame.errOf ((b.drop 8).take n))]) rfl) ?_
        refine op rfl (r_extract (vs := [.slice A7 (Frame.encode ((b.drop 8).take n)).length c7, .int .i64 (Frame.errOf ((b.drop 8).take n))]) rfl rfl) ?_
        refine op rfl (r_extract (vs := [.slice A7 (Frame.encode ((b.drop 8).take n)).length c7, .int .i64 (Frame.errOf ((b.drop 8).take n))]) rfl rfl) ?_
        refine op rfl (r_assignV (v := .slice A7 (Frame.encode ((b.drop 8).take n)).length c7) rfl) ?_
        refine op rfl (r_assignV (v := .int .i64 (Frame.errOf ((b.drop 8).take n))) rfl) ?_
        refine WL_nil ?_
        refine W_seq ?_
        refine W_seq ?_
        refine W_drawS (Ext.refl _) Try.wd rfl ?_
        intro wd8 hD hS
        refine A_take (i := 0) rfl (by kernel_rfl) (by kernel_rfl) (by kernel_rfl) rfl hS (fun _ hw => r_moveV (v := .slice A7 (Frame.encode ((b.drop 8).take n)).length c7) rfl) ?_
        refine A_take (i := 1) rfl (by kernel_rfl) (by kernel_rfl) (by kernel_rfl) rfl hS (fun _ hw => r_str rfl Try.underlying22 Try.underlying5 Try.underlying9 (hR7.ext hw)) ?_
        refine A_take (i := 2) rfl (by kernel_rfl) (by kernel_rfl) (by kernel_rfl) rfl hS (fun _ hw => r_moveV (v := .slice _ _ _) rfl) ?_
        refine A_take (i := 3) rfl (by kernel_rfl) (by kernel_rfl) (by kernel_rfl) rfl hS (fun _ hw => r_moveV (v := .int _ _) rfl) ?_
        refine A_take (i := 4) rfl (by kernel_rfl) (by kernel_rfl) (by kernel_rfl) rfl hS (fun _ hw => r_conv' rfl Try.underlying40 Try.underlying3 (wrap_i64 (by omega) (by omega))) ?_
        refine A_take (i := 5) rfl (by kernel_rfl) (by kernel_rfl) (by kernel_rfl) rfl hS (fun _ hw => r_add' (r := ((8 + n : Nat) : Int)) rfl rfl (by rw [wrap_i64 (by omega) (by omega)]; omega)) ?_
        refine A_take (i := 6) rfl (by kernel_rfl) (by kernel_rfl) (by kernel_rfl) rfl hS (fun _ hw => r_sliceHi (j := (b.take (8 + n)).length) rfl (by rw [hto]; rfl) Try.underlying22 Try.sz5 (by omega)) ?_
        refine A_take (i := 7) rfl (by kernel_rfl) (by kernel_rfl) (by kernel_rfl) rfl hS (fun _ hw => r_str rfl Try.underlying22 Try.underlying5 Try.underlying9 (hRB.ext (E7.trans hw))) ?_
        refine A_take (i := 8) rfl (by kernel_rfl) (by kernel_rfl) (by kernel_rfl) rfl hS (fun _ hw => rs_neq rfl rfl) ?_
        refine A_done (by kernel_rfl) ?_
        have hen : Frame.encode ((b.drop 8).take n) = Frame.frame ((b.drop 8).take n) := by unfold Frame.encode; rw [if_pos (by omega)]
        have hdf := Frame.next_def b (by omega) (by rw [hn]; omega)
        rw [hn] at hdf
        refine W_ifp rfl (fun ht42 => ?_) (fun ht42 => ?_)
        · refine W_seq ?_
          refine W_region ?_
          refine op rfl (r_assignV (v := .slice _ _ _) rfl) ?_
          refine op rfl (r_assignV (v := .int _ _) rfl) ?_
          refine WL_nil ?_
          refine W_ret (finX_ret ?_)
          refine fin2 ?_
          have hz : Frame.next b = ([], 0) := by unfold Frame.next; rw [if_neg (by omega), hn, if_neg (by omega), if_neg (fun q => ht42 (by rw [hen, hdf.2 q]))]
          rw [hz]
          exact ⟨_, rfl, none, 0, rfl, Nat.le_refl _, E7.trans hS, fun _ _ _ => Ty.Row.nil⟩
        · refine W_skip ?_
          refine W_seq ?_
          refine W_region ?_
          refine op rfl (r_moveV (v := .slice _ _ _) rfl) ?_
          refine op rfl (r_moveV (v := .int _ _) rfl) ?_
          refine op rfl (r_conv' rfl Try.underlying40 Try.underlying3 (wrap_i64 (by omega) (by omega))) ?_
          refine op rfl (r_add' (r := ((8 + n : Nat) : Int)) rfl rfl (by rw [wrap_i64 (by omega) (by omega)]; omega)) ?_
          refine op rfl (r_assignV (v := .slice _ _ _) rfl) ?_
          refine op rfl (r_assignV (v := .int _ _) rfl) ?_
          refine WL_nil ?_
          refine W_ret (finX_ret ?_)
          refine fin2 ?_
          have hq := hdf.1 (by
            have := str_inj (Classical.byContradiction fun q => ht42 q)
            rw [hen] at this
            exact this)
          have hz : Frame.next b = ((b.drop 8).take n, 8 + n) := by
            unfold Frame.next
            rw [if_neg (by omega), hn, if_neg (by omega), if_pos hq]
          rw [hz]
          exact ⟨_, rfl, _, c - 8, by rw [hbl]; rfl, by simp only []; omega, E7.trans hS, fun w0 F h => by have h := (h.take (8 + n)).drop (cap := c) (k := 8) (by omega); rw [hbody] at h; exact h⟩
end Go.Proofs.Ytgclnpafkjfmhaa
