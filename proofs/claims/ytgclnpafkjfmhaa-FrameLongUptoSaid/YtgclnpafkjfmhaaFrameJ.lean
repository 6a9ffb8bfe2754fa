/-
  The walks of frame.Join, and of what the laws ask of lists of bytes.
-/
import Derived.Test.YtgclnpafkjfmhaaFacts
import Derived.Test.YtgclnpafkjfmhaaFrameAll
namespace Go.Proofs.Ytgclnpafkjfmhaa
open Go Go.Eng Go.RowKit Go.Proofs
set_option linter.unusedVariables false

theorem frame_len_le {l : List (List UInt8)} {i : Nat} (h : i < l.length) : (Frame.joined (l.take i)).length + (Frame.frame l[i]).length ≤ (Frame.joined l).length := by
  have h1 : l = l.take i ++ l[i] :: l.drop (i + 1) := by rw [← List.drop_eq_getElem_cons h, List.take_append_drop]
  have h2 : ∀ (p q : List (List UInt8)) (x : List UInt8), (Frame.joined (p ++ x :: q)).length = (Frame.joined p).length + (Frame.frame x).length + (Frame.joined q).length := fun p q x => by
    simp only [Frame.joined, List.map_append, List.map_cons, List.flatten_append, List.flatten_cons, List.length_append]
    omega
  have h3 := h2 (l.take i) (l.drop (i + 1)) l[i]
  rw [← h1] at h3
  omega
theorem join_spec (A : Option Addr) (c : Nat) (l : List (List UInt8)) (w : World) (hl : l.length ≤ big) (hA : BytesL w A l) (hs : ∀ b ∈ l, b.length ≤ 65536) (hj : (Frame.joined l).length ≤ 1000000) :
    Calls Try.prog 16 #[.slice A l.length c] w (fun en w' => ∃ v, en = .returned v ∧ ∃ u, v = .tuple #[u, .int .i64 0] ∧ Ext w w' ∧ Bs w.heap.size 5 w' u (Frame.joined l)) := by
  unfold big at hl
  refine calls' (n := 28) (rs := #[.tmp 2, .tmp 3]) (l := [.slice A l.length c]) Try.func16 rfl rfl rfl rfl rfl ?_
  refine W_seq ?_
  refine W_region ?_
  refine op rfl (r_assignV (v := .slice _ _ _) rfl) ?_
  refine op rfl (r_assignV (v := .int _ _) rfl) ?_
  refine WL_nil ?_
  refine W_scope ?_
  refine W_seq ?_
  refine W_region ?_
  refine op rfl (r_assignV (v := .slice _ _ _) rfl) ?_
  refine WL_nil ?_
  refine W_seq ?_
  refine W_label ?_
  refine W_seq ?_
  refine W_seq ?_
  refine W_region ?_
  refine op rfl (r_moveV (v := .slice _ _ _) rfl) ?_
  refine op rfl (r_len_slice rfl Try.underlying26) ?_
  refine op rfl (r_moveV (v := .int _ _) rfl) ?_
  refine WL_nil ?_
  refine W_block ?_
  refine W_loop [2, 3, 4, 6, 7, 8, 11, 12, 13, 14, 15, 16, 17, 18, 19, 20, 21, 22, 23, 24, 25, 26] (fun k g w' => ∃ (i : Nat) (v : Value), g 11 = .int .i64 i ∧ i ≤ l.length ∧ k = l.length - i ∧ g 4 = v ∧ Ext w w' ∧ Bs w.heap.size 5 w' v (Frame.joined (l.take i))) (l.length) ?_ ?_
  · exact ⟨0, .slice none 0 0, rfl, by omega, by omega, rfl, Ext.refl _, Own.nil⟩
  intro k g w' hI
  obtain ⟨i, v, h11, hi, rfl, h4, HE, hO⟩ := hI
  refine W_set (i := 11) h11 ?_
  refine W_set (i := 4) h4 ?_
  refine W_seq ?_
  refine W_region ?_
  refine op rfl (r_lss rfl rfl) ?_
  refine WL_nil ?_
  refine W_seq ?_
  refine W_ifp rfl (fun ht12 => ?_) (fun ht12 => ?_)
  · replace ht12 : i < l.length := by omega
    obtain ⟨b1, o1, Ai, ci, hAe, _, hc, hci, hcm, hr⟩ := (hA.ext HE).cellS ht12
    have hs65 := hs _ (List.getElem_mem ht12)
    have hfl := frame_len_le ht12
    have hfe : Frame.encode l[i] = Frame.frame l[i] := by unfold Frame.encode; rw [if_pos hs65]
    have her : Frame.errOf l[i] = 0 := by unfold Frame.errOf; rw [if_pos hs65]
    refine W_skip ?_
    refine W_seq ?_
    refine W_block ?_
    refine W_seq ?_
    refine W_region ?_
    refine op rfl (r_indexAddr1 rfl rfl (by assumption) Try.underlying26 Try.sz22 (by omega) (by omega)) ?_
    refine op rfl (r_load rfl Try.underlying22 rfl (by assumption)) ?_
    refine op rfl (r_assignV (v := .slice _ _ _) rfl) ?_
    refine WL_nil ?_
    refine W_seq ?_
    refine W_region ?_
    refine op rfl (r_moveV (v := .slice _ _ _) rfl) ?_
    refine opCv rfl (r_call Try.func17 Try.nm17 rfl) (encode_spec Ai ci l[i] w' hci hcm hr) ?_
    rintro v5 w5 ⟨u, rfl, hE5, hO5⟩
    rw [hfe] at hO5
    rw [her]
    obtain ⟨A5, c5, rfl, hc5, hR5⟩ := own_frow hO5
    refine op rfl (r_moveV (v := .tuple #[.slice A5 (Frame.frame l[i]).length c5, .int .i64 0]) rfl) ?_
    refine op rfl (r_extract (vs := [.slice A5 (Frame.frame l[i]).length c5, .int .i64 0]) rfl rfl) ?_
    refine op rfl (r_extract (vs := [.slice A5 (Frame.frame l[i]).length c5, .int .i64 0]) rfl rfl) ?_
    refine op rfl (r_assignV (v := .slice A5 (Frame.frame l[i]).length c5) rfl) ?_
    refine op rfl (r_assignV (v := .int .i64 0) rfl) ?_
    refine WL_nil ?_
    refine W_seq ?_
    refine W_seq ?_
    refine W_region ?_
    refine op rfl (r_moveV (v := .int .i64 0) rfl) ?_
    refine op rfl (r_eql rfl rfl) ?_
    refine WL_nil ?_
    refine W_then (rfl) ?_
    refine W_seq ?_
    refine W_region ?_
    refine op rfl (r_moveV (v := v) rfl) ?_
    refine op rfl (r_moveV (v := .slice A5 (Frame.frame l[i]).length c5) rfl) ?_
    refine op_app (v := v) flat_byte rfl rfl rfl Try.underlying22 Try.sz5 Try.by5 Try.zero5 rfl (HE.trans hE5) (own_fext hO hE5) (hR5) (by omega) (by omega) ?_
    intro v7_2 w7_2 O7_2 X7_2 G7_2
    refine op rfl (r_assignV (v := v7_2) rfl) ?_
    refine WL_nil ?_
    refine W_exit (blk_hit ?_)
    refine W_region ?_
    refine op rfl (r_add' rfl rfl (wrap_i64 (by omega) (by omega))) ?_
    refine op rfl (r_moveV (v := .int _ _) rfl) ?_
    refine WL_nil ?_
    refine ⟨?_, by repeat (first | exact Out.refl _ _ | exact Out.mix | refine Out.put rfl ?_ | refine Out.mixin rfl ?_)⟩
    exact ⟨l.length - (i + 1), by omega, i + 1, _, rfl, by omega, rfl, rfl, X7_2, by rw [List.take_succ_eq_append_getElem ht12, Frame.joined_snoc]; exact O7_2⟩
  · obtain rfl : i = l.length := by omega
    rw [List.take_length] at hO
    refine W_exit (blk_hit ?_)
    refine W_seq ?_
    refine W_region ?_
    refine op rfl (r_moveV (v := v) rfl) ?_
    refine op rfl (r_assignV (v := v) rfl) ?_
    refine op rfl (r_assignV (v := .int _ _) rfl) ?_
    refine WL_nil ?_
    refine W_ret (scp_ret (finX_ret ?_))
    refine fin2 ?_
    exact ⟨_, rfl, v, rfl, HE, hO⟩

theorem same_spec (A1 : Option Addr) (c1 : Nat) (a : List UInt8) (A2 : Option Addr) (c2 : Nat) (b : List UInt8) (w : World) {F1 F2 : Nat → Prop} (hA : Ty.byte.Row w F1 A1 a) (hB : Ty.byte.Row w F2 A2 b) :
    Calls Try.prog 13 #[.slice A1 a.length c1, .slice A2 b.length c2] w (fun en w' => ∃ v, en = .returned v ∧ v = .bool (decide (a = b)) ∧ w' = w) := by
  refine calls' (n := 10) (rs := #[.tmp 4]) (l := [.slice A1 a.length c1, .slice A2 b.length c2]) Try.func13 rfl rfl rfl rfl rfl ?_
  refine W_seq ?_
  refine W_region ?_
  refine op rfl (r_assignV (v := .bool _) rfl) ?_
  refine WL_nil ?_
  refine W_seq ?_
  refine W_region ?_
  refine op rfl (r_moveV (v := .slice _ _ _) rfl) ?_
  refine op rfl (r_str rfl Try.underlying22 Try.underlying5 Try.underlying9 hA) ?_
  refine op rfl (r_moveV (v := .slice _ _ _) rfl) ?_
  refine op rfl (r_str rfl Try.underlying22 Try.underlying5 Try.underlying9 hB) ?_
  refine op rfl (rs_eql rfl rfl) ?_
  refine op rfl (r_assignV (v := .bool _) rfl) ?_
  refine WL_nil ?_
  refine W_ret (finX_ret ?_)
  refine fin1 ?_
  exact ⟨_, rfl, by simp only [str_eq]; rfl, rfl⟩

theorem sameLists_spec (A1 : Option Addr) (c1 : Nat) (a : List (List UInt8)) (A2 : Option Addr) (c2 : Nat) (b : List (List UInt8)) (w : World) (ha : a.length ≤ big) (hA : BytesL w A1 a) (hB : BytesL w A2 b) :
    Calls Try.prog 14 #[.slice A1 a.length c1, .slice A2 b.length c2] w (fun en w' => ∃ v, en = .returned v ∧ v = .bool (decide (a = b)) ∧ Ext w w') := by
  unfold big at ha
  refine calls' (n := 28) (rs := #[.tmp 4]) (l := [.slice A1 a.length c1, .slice A2 b.length c2]) Try.func14 rfl rfl rfl rfl rfl ?_
  refine W_seq ?_
  refine W_region ?_
  refine op rfl (r_assignV (v := .bool _) rfl) ?_
  refine WL_nil ?_
  refine W_seq ?_
  refine W_seq ?_
  refine W_region ?_
  refine op rfl (r_moveV (v := .slice _ _ _) rfl) ?_
  refine op rfl (r_len_slice rfl Try.underlying26) ?_
  refine op rfl (r_moveV (v := .slice _ _ _) rfl) ?_
  refine op rfl (r_len_slice rfl Try.underlying26) ?_
  refine op rfl (r_neq rfl rfl) ?_
  refine WL_nil ?_
  refine W_ifp rfl (fun ht10 => ?_) (fun ht10 => ?_)
  · refine W_seq ?_
    refine W_region ?_
    refine op rfl (r_assignV (v := .bool _) rfl) ?_
    refine WL_nil ?_
    refine W_ret (finX_ret ?_)
    refine fin1 ?_
    exact ⟨_, rfl, by rw [decide_eq_false (show ¬ a = b from fun q => ht10 (by rw [q]))]; rfl, Ext.refl _⟩
  · have hab : a.length = b.length := by omega
    refine W_skip ?_
    refine W_seq ?_
    refine W_seq ?_
    refine W_region ?_
    refine op rfl (r_assignV (v := .int _ _) rfl) ?_
    refine WL_nil ?_
    refine W_block ?_
    refine W_loop [4, 5, 11, 12, 13, 14, 15, 16, 17, 18, 19, 20, 21, 22, 23, 24, 25, 26, 27] (fun k g w' => ∃ i : Nat, g 5 = .int .i64 i ∧ i ≤ a.length ∧ k = a.length - i ∧ a.take i = b.take i ∧ Ext w w') (a.length) ?_ ?_
    · exact ⟨0, rfl, by omega, by omega, by simp, Ext.refl _⟩
    intro k g w' hI
    obtain ⟨i, h5, hi, rfl, htk, HE⟩ := hI
    refine W_set (i := 5) h5 ?_
    refine W_seq ?_
    refine W_seq ?_
    refine W_region ?_
    refine op rfl (r_moveV (v := .int _ _) rfl) ?_
    refine op rfl (r_moveV (v := .slice _ _ _) rfl) ?_
    refine op rfl (r_len_slice rfl Try.underlying26) ?_
    refine op rfl (r_lss rfl rfl) ?_
    refine WL_nil ?_
    refine W_ifp rfl (fun ht14 => ?_) (fun ht14 => ?_)
    · replace ht14 : i < a.length := by omega
      have hib : i < b.length := by omega
      obtain ⟨b1, o1, Ai, ci, hAe, _, hc, hci, hcm, hr⟩ := hA.cellS ht14
      obtain ⟨b2, o2, Bi, di, hBe, _, hd, hdi, hdm, hq⟩ := hB.cellS hib
      refine W_skip ?_
      refine W_seq ?_
      refine W_block ?_
      refine W_seq ?_
      refine W_drawS (HE) Try.wd rfl ?_
      intro wd6 hD hS
      refine A_take (i := 0) rfl (by kernel_rfl) (by kernel_rfl) (by kernel_rfl) rfl hS (fun _ hw => r_moveV (v := .slice _ _ _) rfl) ?_
      refine A_take (i := 1) rfl (by kernel_rfl) (by kernel_rfl) (by kernel_rfl) rfl hS (fun _ hw => r_moveV (v := .int _ _) rfl) ?_
      refine A_take (i := 2) rfl (by kernel_rfl) (by kernel_rfl) (by kernel_rfl) rfl hS (fun _ hw => r_indexAddr1 rfl rfl hAe Try.underlying26 Try.sz22 (by omega) (by omega)) ?_
      refine A_take (i := 3) rfl (by kernel_rfl) (by kernel_rfl) (by kernel_rfl) rfl hS (fun _ hw => r_load rfl Try.underlying22 rfl (ext_cell hw hc)) ?_
      refine A_take (i := 4) rfl (by kernel_rfl) (by kernel_rfl) (by kernel_rfl) rfl hS (fun _ hw => r_str rfl Try.underlying22 Try.underlying5 Try.underlying9 (hr.ext hw)) ?_
      refine A_take (i := 5) rfl (by kernel_rfl) (by kernel_rfl) (by kernel_rfl) rfl hS (fun _ hw => r_moveV (v := .slice _ _ _) rfl) ?_
      refine A_take (i := 6) rfl (by kernel_rfl) (by kernel_rfl) (by kernel_rfl) rfl hS (fun _ hw => r_moveV (v := .int _ _) rfl) ?_
      refine A_take (i := 7) rfl (by kernel_rfl) (by kernel_rfl) (by kernel_rfl) rfl hS (fun _ hw => r_indexAddr1 rfl rfl hBe Try.underlying26 Try.sz22 (by omega) (by omega)) ?_
      refine A_take (i := 8) rfl (by kernel_rfl) (by kernel_rfl) (by kernel_rfl) rfl hS (fun _ hw => r_load rfl Try.underlying22 rfl (ext_cell hw hd)) ?_
      refine A_take (i := 9) rfl (by kernel_rfl) (by kernel_rfl) (by kernel_rfl) rfl hS (fun _ hw => r_str rfl Try.underlying22 Try.underlying5 Try.underlying9 (hq.ext hw)) ?_
      refine A_take (i := 10) rfl (by kernel_rfl) (by kernel_rfl) (by kernel_rfl) rfl hS (fun _ hw => rs_neq rfl rfl) ?_
      refine A_done (by kernel_rfl) ?_
      refine W_ifp rfl (fun ht27 => ?_) (fun ht27 => ?_)
      · refine W_seq ?_
        refine W_region ?_
        refine op rfl (r_assignV (v := .bool _) rfl) ?_
        refine WL_nil ?_
        refine W_ret (blk_ret (blk_ret (finX_ret ?_)))
        refine fin1 ?_
        exact ⟨_, rfl, by rw [decide_eq_false (show ¬ a = b from fun q => ht27 (by subst q; rfl))]; rfl, hS⟩
      · have hgi : a[i] = b[i] := str_inj (Classical.byContradiction fun q => ht27 q)
        refine W_skip ?_
        refine W_region ?_
        refine op rfl (r_moveV (v := .int _ _) rfl) ?_
        refine op rfl (r_add' rfl rfl (wrap_i64 (by omega) (by omega))) ?_
        refine op rfl (r_assignV (v := .int _ _) rfl) ?_
        refine WL_nil ?_
        refine ⟨?_, by repeat (first | exact Out.refl _ _ | exact Out.mix | refine Out.put rfl ?_ | refine Out.mixin rfl ?_)⟩
        exact ⟨a.length - (i + 1), by omega, i + 1, rfl, by omega, rfl, by rw [List.take_succ_eq_append_getElem ht14, List.take_succ_eq_append_getElem hib, htk, hgi], hS⟩
    · obtain rfl : i = a.length := by omega
      rw [List.take_length, hab, List.take_length] at htk
      refine W_exit (blk_hit ?_)
      refine W_seq ?_
      refine W_region ?_
      refine op rfl (r_assignV (v := .bool _) rfl) ?_
      refine WL_nil ?_
      refine W_ret (finX_ret ?_)
      refine fin1 ?_
      exact ⟨_, rfl, by rw [decide_eq_true htk]; rfl, HE⟩
end Go.Proofs.Ytgclnpafkjfmhaa
