/-
  The walks: all frames by the chapter's own answer; what the laws know.
-/
import Derived.Test.YtgclnpafkjfmhaaFacts
import Derived.Test.YtgclnpafkjfmhaaFrameS
namespace Go.Proofs.Ytgclnpafkjfmhaa
open Go Go.Eng Go.RowKit Go.Proofs
set_option linter.unusedVariables false

theorem refAll_spec (A : Option Addr) (c : Nat) (b : List UInt8) (w : World) (hbc : b.length ≤ c) (hb : b.length ≤ 1000000) (hA : Bytes w A b) :
    Calls Try.prog 12 #[.slice A b.length c] w (fun en w' => ∃ v, en = .returned v ∧ ∃ u, v = .tuple #[u, .int .i64 (Frame.Alls b).2] ∧ Ext w w' ∧ ∃ F, (∀ g, F g → g < w'.heap.size) ∧ Eng.Own Ty.byte.slice w' F w.heap.size 22 u (Frame.Alls b).1) := by
  refine calls' (n := 26) (rs := #[.tmp 2, .tmp 3]) (l := [.slice A b.length c]) Try.func12 rfl rfl rfl rfl rfl ?_
  refine W_seq ?_
  refine W_region ?_
  refine op rfl (r_assignV (v := .slice _ _ _) rfl) ?_
  refine op rfl (r_assignV (v := .int _ _) rfl) ?_
  refine WL_nil ?_
  refine W_seq ?_
  refine W_region ?_
  refine op rfl (r_assignV (v := .slice _ _ _) rfl) ?_
  refine WL_nil ?_
  refine W_seq ?_
  refine W_region ?_
  refine op rfl (r_assignV (v := .int _ _) rfl) ?_
  refine WL_nil ?_
  refine W_block ?_
  refine W_loop [2, 3, 4, 5, 6, 7, 8, 9, 10, 11, 12, 13, 14, 15, 16, 17, 18, 19, 20, 21, 22, 23, 24, 25] (fun k g w' => ∃ (at_ : Nat) (qs : List (Option Addr × Nat × Nat)) (ls : List (List UInt8)) (v : Value), g 5 = .int .i64 at_ ∧ k = b.length - at_ ∧ g 4 = v ∧ Frame.To b ls at_ ∧ ls.length = qs.length ∧ (∀ i (h : i < qs.length) (h' : i < ls.length), Ty.byte.slice.R w (old w) ls[i] [sv qs[i]]) ∧ Ext w w' ∧ Eng.Own raw w' nobody w.heap.size 22 v qs) (b.length) ?_ ?_
  · exact ⟨0, [], [], .slice none 0 0, rfl, rfl, rfl, .nil, rfl, fun i h => by simp at h, Ext.refl _, Own.nil⟩
  intro k g w' hI
  obtain ⟨at_, qs, ls, v, h5, rfl, h4, hT, hl, hr, HE, hO⟩ := hI
  have hle := hT.le
  have hlen := hT.len
  have hRd := (hA.ext HE).drop hbc (k := at_)
  have hdl : (b.drop at_).length = b.length - at_ := by simp
  have hnx := refNext_spec (cutA A c at_ 1) (c - at_) (b.drop at_) w' (by omega) (bigs _ (by omega)) hRd
  rw [hdl] at hnx
  have hnle := Frame.next_le (b.drop at_)
  rw [hdl] at hnle
  refine W_set (i := 5) h5 ?_
  refine W_set (i := 4) h4 ?_
  refine W_block ?_
  refine W_seq ?_
  refine W_region ?_
  refine op rfl (r_moveV (v := .slice _ _ _) rfl) ?_
  refine op rfl (r_moveV (v := .int _ _) rfl) ?_
  refine op rfl (r_sliceLo rfl rfl Try.underlying22 Try.sz5 hle) ?_
  refine opCv rfl (r_call Try.func10 Try.nm10 rfl) (hnx) ?_
  rintro v0 w3 ⟨A3, c3, rfl, hc3, E3, hR3⟩
  refine op rfl (r_moveV (v := .tuple #[.slice A3 (Frame.next (b.drop at_)).1.length c3, .int .i64 (Frame.next (b.drop at_)).2]) rfl) ?_
  refine op rfl (r_extract (vs := [.slice A3 (Frame.next (b.drop at_)).1.length c3, .int .i64 (Frame.next (b.drop at_)).2]) rfl rfl) ?_
  refine op rfl (r_extract (vs := [.slice A3 (Frame.next (b.drop at_)).1.length c3, .int .i64 (Frame.next (b.drop at_)).2]) rfl rfl) ?_
  refine op rfl (r_assignV (v := .slice A3 (Frame.next (b.drop at_)).1.length c3) rfl) ?_
  refine op rfl (r_assignV (v := .int .i64 (Frame.next (b.drop at_)).2) rfl) ?_
  refine WL_nil ?_
  refine W_seq ?_
  refine W_seq ?_
  refine W_region ?_
  refine op rfl (r_moveV (v := .int .i64 (Frame.next (b.drop at_)).2) rfl) ?_
  refine op rfl (r_eql rfl rfl) ?_
  refine WL_nil ?_
  refine W_ifp rfl (fun ht16 => ?_) (fun ht16 => ?_)
  · refine W_seq ?_
    refine W_region ?_
    refine op rfl (r_moveV (v := v) rfl) ?_
    refine op rfl (r_moveV (v := .int .i64 (at_ : Nat)) rfl) ?_
    refine op rfl (r_assignV (v := v) rfl) ?_
    refine op rfl (r_assignV (v := .int .i64 (at_ : Nat)) rfl) ?_
    refine WL_nil ?_
    refine W_ret (blk_ret (blk_ret (finX_ret ?_)))
    refine fin2 ?_
    have hz : (Frame.next (b.drop at_)).2 = 0 := by omega
    refine ⟨_, rfl, v, by rw [hT.done hz]; rfl, HE.trans E3, old w, fun g hg => Nat.lt_of_lt_of_le hg (HE.trans E3).size, ?_⟩
    rw [hT.done hz]
    exact own_rows (own_fext hO E3) hl (fun i hi hi' => Ty.byte.slice.keep (hr i hi hi') (HE.trans E3).same (fun _ q => q))
  · refine W_skip ?_
    refine W_seq ?_
    refine W_region ?_
    refine op rfl (r_moveV (v := v) rfl) ?_
    refine op rfl (r_moveV (v := .slice A3 (Frame.next (b.drop at_)).1.length c3) rfl) ?_
    refine op_newS rfl (r_buildSlice (vs := [.slice _ _ _]) Try.underlying26 Try.sz22 Try.zero22 rfl rfl rfl) ?_
    intro w6_2 b6_2 E6_2 B6_2 L6_2
    refine op_app (v := v) flat_raw rfl rfl rfl Try.underlying26 Try.sz22 Try.by22 Try.zero22 rfl ((HE.trans E3).trans E6_2) (own_fext hO (E3.trans E6_2)) ((row_one B6_2 trivial : raw.Row w6_2 (old w6_2) (some ⟨b6_2, 0, none⟩) [(A3, (Frame.next (b.drop at_)).1.length, c3)])) (by simp only [List.length_cons, List.length_nil]; omega) (by simp only [List.length_cons, List.length_nil]; omega) ?_
    intro v6_3 w6_3 O6_3 X6_3 G6_3
    refine op rfl (r_assignV (v := v6_3) rfl) ?_
    refine WL_nil ?_
    refine W_region ?_
    refine op rfl (r_moveV (v := .int _ _) rfl) ?_
    refine op rfl (r_moveV (v := .int .i64 (Frame.next (b.drop at_)).2) rfl) ?_
    refine op rfl (r_add' (r := ((at_ + (Frame.next (b.drop at_)).2 : Nat) : Int)) rfl rfl (by rw [wrap_i64 (by omega) (by omega)]; omega)) ?_
    refine op rfl (r_assignV (v := .int _ _) rfl) ?_
    refine WL_nil ?_
    refine ⟨?_, by repeat (first | exact Out.refl _ _ | exact Out.mix | refine Out.put rfl ?_ | refine Out.mixin rfl ?_)⟩
    have h8 := (Frame.next_body _ (show (Frame.next (b.drop at_)).2 ≠ 0 from by omega)).2.1
    refine ⟨b.length - (at_ + (Frame.next (b.drop at_)).2), by omega, at_ + (Frame.next (b.drop at_)).2, qs ++ [(A3, (Frame.next (b.drop at_)).1.length, c3)], ls ++ [(Frame.next (b.drop at_)).1], _, rfl, rfl, rfl, hT.snoc (by omega), by simp [hl], ?_, X6_3, O6_3⟩
    intro i hi hi'
    by_cases hil : i < qs.length
    · rw [List.getElem_append_left (by omega), List.getElem_append_left hil]
      exact hr i hil (by omega)
    · obtain rfl : i = qs.length := by simp at hi; omega
      rw [List.getElem_append_right (by omega), List.getElem_append_right (by omega)]
      simp only [hl, Nat.sub_self, List.getElem_cons_zero]
      have hnb := (Frame.next_body _ (show (Frame.next (b.drop at_)).2 ≠ 0 from by omega)).2.2
      exact ⟨A3, c3, rfl, hc3, bigs _ (by omega), hR3 w (old w) (hA.drop hbc (k := at_))⟩

theorem known_alls : Frame.Alls ((Frame.joined [[97, 98], [99, 100]]).take 15) = ([[97, 98]], 10) := by
  have h1 : (Frame.joined [[97, 98], [99, 100]]).take 15 = Frame.joined [[97, 98]] ++ (Frame.frame [99, 100]).take 5 := by
    rw [show Frame.joined [[97, 98], [99, 100]] = Frame.joined [[97, 98]] ++ Frame.frame [99, 100] from by simp [Frame.joined]]
    have hl : (Frame.joined [[97, 98]]).length = 10 := by simp [Frame.joined, Frame.frame_length]
    rw [List.take_append, List.take_of_length_le (by omega), hl]
  rw [h1, Frame.alls_joined [[97, 98]] _ (by simp)]
  have h2 : Frame.next ((Frame.frame [99, 100]).take 5) = ([], 0) := Frame.next_short (by simp; omega)
  rw [Frame.Alls_none (by rw [h2])]
  simp [Frame.joined, Frame.frame_length]
theorem known_spec (w : World) : Calls Try.prog 8 #[] w (fun en w' => ∃ v, en = .returned v ∧ v = .bool true ∧ Ext w w') := by
  have hJl : (Frame.joined [[97, 98], [99, 100]]).length = 20 := by simp [Frame.joined, Frame.frame_length]
  refine calls' (n := 41) (rs := #[.tmp 0]) (l := []) Try.func8 rfl rfl rfl rfl rfl ?_
  refine W_seq ?_
  refine W_region ?_
  refine op rfl (r_assignV (v := .bool _) rfl) ?_
  refine WL_nil ?_
  refine W_seq ?_
  refine W_region ?_
  refine op_newS rfl (r_buildSlice (vs := [.int .u8 97, .int .u8 98]) Try.underlying22 Try.sz5 Try.zero5 rfl rfl rfl) ?_
  intro w1_0 b1_0 E1_0 B1_0 L1_0
  refine op_convB rfl rfl Try.underlying22 Try.underlying5 (by assumption) ?_
  intro w1_1 C1_1 B1_1
  have X1 : Ext w w1_1 := (E1_0).chg C1_1 (by omega)
  refine op_newS rfl (r_buildSlice (vs := [.int .u8 99, .int .u8 100]) Try.underlying22 Try.sz5 Try.zero5 rfl rfl rfl) ?_
  intro w1_2 b1_2 E1_2 B1_2 L1_2
  refine op_convB rfl rfl Try.underlying22 Try.underlying5 (by assumption) ?_
  intro w1_3 C1_3 B1_3
  have X3 : Ext w w1_3 := (X1.trans E1_2).chg C1_3 (by have := X1.size; omega)
  have h1 := heap_lt B1_1
  have H1 := chg_heap (ext_heap B1_1 E1_2) C1_3 (by omega)
  have h3 := heap_lt B1_3
  refine op_newS rfl (r_buildSlice (vs := [.slice _ _ _, .slice _ _ _]) Try.underlying26 Try.sz22 Try.zero22 rfl rfl rfl) ?_
  intro w1_4 b1_4 E1_4 B1_4 L1_4
  have X4 : Ext w w1_4 := X3.trans E1_4
  have R4 : BytesL w1_4 (some ⟨b1_4, 0, none⟩) [[97, 98], [99, 100]] := by
    refine Blk.row B1_4 (Blk.lt B1_4) ?_
    intro i hi
    match i, hi with
    | 0, _ => exact ⟨_, ⟨_, _, rfl, Nat.le_refl _, (by show 2 ≤ 140737488355328; omega), bytes_blk (l := [97, 98]) (ext_heap H1 E1_4) (heap_lt (ext_heap H1 E1_4))⟩, fun j hj => by simp [Ty.slice] at hj; subst hj; rfl⟩
    | 1, _ => exact ⟨_, ⟨_, _, rfl, Nat.le_refl _, (by show 2 ≤ 140737488355328; omega), bytes_blk (l := [99, 100]) (ext_heap B1_3 E1_4) (heap_lt (ext_heap B1_3 E1_4))⟩, fun j hj => by simp [Ty.slice] at hj; subst hj; rfl⟩
  refine opCv rfl (r_call Try.func16 Try.nm16 rfl) (join_spec _ 2 [[97, 98], [99, 100]] _ (bigs 2 (by omega)) R4 (by simp) (by rw [hJl]; omega)) ?_
  rintro v w2 ⟨u, rfl, E2, O2⟩
  obtain ⟨A2, c2, rfl, hc2, hR2⟩ := own_frow O2
  rw [hJl] at hc2 ⊢
  have hlt := hR2.take 15
  have hl15 : ((Frame.joined [[97, 98], [99, 100]]).take 15).length = 15 := by simp; omega
  have hall := all_spec A2 c2 ((Frame.joined [[97, 98], [99, 100]]).take 15) w2 (by omega) (by omega) hlt
  rw [hl15, known_alls] at hall
  refine op rfl (r_moveV (v := .tuple #[.slice A2 20 c2, .int .i64 0]) rfl) ?_
  refine op rfl (r_extract (vs := [.slice A2 20 c2, .int .i64 0]) rfl rfl) ?_
  refine op rfl (r_extract (vs := [.slice A2 20 c2, .int .i64 0]) rfl rfl) ?_
  refine op rfl (r_assignV (v := .slice A2 20 c2) rfl) ?_
  refine op rfl (r_assignV (v := .int .i64 0) rfl) ?_
  refine WL_nil ?_
  refine W_seq ?_
  refine W_seq ?_
  refine W_region ?_
  refine op rfl (r_moveV (v := .int .i64 0) rfl) ?_
  refine op rfl (r_neq rfl rfl) ?_
  refine op_false rfl (r_moveV (v := .bool (decide _)) rfl) (by decide) ?_
  refine opG_yes rfl rfl rfl rfl rfl (r_moveV (v := .slice A2 20 c2) rfl) ?_
  refine opG_yes rfl rfl rfl rfl rfl (r_len_slice rfl Try.underlying22) ?_
  refine opG_yes rfl rfl rfl rfl rfl (r_neq rfl rfl) ?_
  refine op rfl (r_pickFV (v := .bool _) rfl rfl) ?_
  refine WL_nil ?_
  refine W_else (rfl) ?_
  refine W_skip ?_
  refine W_seq ?_
  refine W_region ?_
  refine op rfl (r_moveV (v := .slice A2 20 c2) rfl) ?_
  refine op rfl (r_sliceHi (j := 15) rfl rfl Try.underlying22 Try.sz5 (by omega)) ?_
  refine opCv rfl (r_call Try.func11 Try.nm11 rfl) (hall) ?_
  rintro v w4 ⟨u, rfl, E4, F4, hF4, O4⟩
  obtain ⟨A4, c4, rfl, hc4, hR4⟩ := O4.old hF4
  obtain ⟨b5, o5, A5, c5, hA5, _, hc5, hci5, hcm5, hr5⟩ := hR4.cellS (i := 0) (by simp)
  refine op rfl (r_moveV (v := .tuple #[.slice A4 1 c4, .int .i64 10]) rfl) ?_
  refine op rfl (r_extract (vs := [.slice A4 1 c4, .int .i64 10]) rfl rfl) ?_
  refine op rfl (r_extract (vs := [.slice A4 1 c4, .int .i64 10]) rfl rfl) ?_
  refine op rfl (r_assignV (v := .slice A4 1 c4) rfl) ?_
  refine op rfl (r_assignV (v := .int .i64 10) rfl) ?_
  refine WL_nil ?_
  refine W_seq ?_
  refine W_region ?_
  refine op rfl (r_moveV (v := .slice A4 1 c4) rfl) ?_
  refine op rfl (r_len_slice rfl Try.underlying26) ?_
  refine op rfl (r_eql rfl rfl) ?_
  refine op_true rfl (r_moveV (v := .bool (decide _)) rfl) (rfl) ?_
  refine opG_yes rfl rfl rfl rfl rfl (r_moveV (v := .slice A4 1 c4) rfl) ?_
  refine opG_yes rfl rfl rfl rfl rfl (r_indexAddr1 (i := 0) rfl rfl hA5 Try.underlying26 Try.sz22 (by omega) (by simp)) ?_
  refine opG_yes rfl rfl rfl rfl rfl (r_load rfl Try.underlying22 rfl hc5) ?_
  refine opG_yes rfl rfl rfl rfl rfl (r_str rfl Try.underlying22 Try.underlying5 Try.underlying9 hr5) ?_
  refine opG_yes rfl rfl rfl rfl rfl (rs_eql rfl rfl) ?_
  refine op rfl (r_pickTV (v := .bool _) rfl rfl) ?_
  refine op_true rfl (r_moveV (v := .bool (decide _)) rfl) (rfl) ?_
  refine opG_yes rfl rfl rfl rfl rfl (r_moveV (v := .int .i64 10) rfl) ?_
  refine opG_yes rfl rfl rfl rfl rfl (r_eql rfl rfl) ?_
  refine op rfl (r_pickTV (v := .bool _) rfl rfl) ?_
  refine op rfl (r_assignV (v := .bool _) rfl) ?_
  refine WL_nil ?_
  refine W_ret (finX_ret ?_)
  refine fin1 ?_
  exact ⟨_, rfl, rfl, (X4.trans E2).trans E4⟩
end Go.Proofs.Ytgclnpafkjfmhaa
