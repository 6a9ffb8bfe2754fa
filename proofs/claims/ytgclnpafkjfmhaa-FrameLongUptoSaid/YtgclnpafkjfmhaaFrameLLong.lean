/-
  The walk of a law of chapter 05, but for its row.
-/
import Derived.Test.YtgclnpafkjfmhaaFacts
import Derived.Test.YtgclnpafkjfmhaaFrameG
import Derived.Test.YtgclnpafkjfmhaaFrameB
namespace Go.Proofs.Ytgclnpafkjfmhaa
open Go Go.Eng Go.RowKit Go.Proofs
set_option linter.unusedVariables false
set_option maxRecDepth 20000

theorem sum_ones (l : List UInt8) : (l.map (fun _ => 1)).sum = l.length := by
  induction l with
  | nil => rfl
  | cons x l ih => simp only [List.map_cons, List.sum_cons, List.length_cons, ih]; omega
theorem sum_lens (l : List (List UInt8)) : (l.map (fun x => (x.map (fun _ => 1)).sum + 1)).sum = l.length + l.flatten.length := by
  induction l with
  | nil => rfl
  | cons x l ih =>
    rw [List.map_cons, List.sum_cons, ih, sum_ones]
    simp only [List.length_cons, List.flatten_cons, List.length_append]
    omega
theorem frameLong_walk (W : World) (A1 : Option Addr) (c1 : Nat) (a : List UInt8) (hac : a.length ≤ c1) (ha : a.length ≤ big) (hA : Ty.byte.Row W (old W) A1 a) (hab : (a.map (fun _ => 1)).sum + 1 ≤ 1048576)
    (A2 : Option Addr) (c2 : Nat) (b : List UInt8) (hbc : b.length ≤ c2) (hb : b.length ≤ big) (hB : Ty.byte.Row W (old W) A2 b) (hbb : (b.map (fun _ => 1)).sum + 1 ≤ 1048576)
    (A3 : Option Addr) (c3 : Nat) (l : List (List UInt8)) (hlc : l.length ≤ c3) (hl : l.length ≤ big) (hL : Ty.byte.slice.Row W (old W) A3 l) (hlb : (l.map (fun x => (x.map (fun _ => 1)).sum + 1)).sum + 1 ≤ 1048576) :
    Calls Try.prog 7 #[.slice A1 a.length c1, .slice A2 b.length c2, .slice A3 l.length c3] W (fun en w' => ∃ v, en = .returned v ∧ v = .bool true ∧ Ext W w') := by
  rw [sum_ones] at hab hbb
  rw [sum_lens] at hlb
  have hjl := joined_len l
  have hfa := Frame.frame_length a
  have hfb := Frame.frame_length b
  have h1 := ha
  have h2 := hb
  have h3 := hl
  unfold big at ha hb hl
  refine calls' (n := 110) (rs := #[.tmp 6]) (l := [.slice A1 a.length c1, .slice A2 b.length c2, .slice A3 l.length c3]) Try.func7 rfl rfl rfl rfl rfl ?_
  refine W_seq ?_
  refine W_region ?_
  refine op rfl (r_assignV (v := .bool _) rfl) ?_
  refine WL_nil ?_
  refine W_seq ?_
  refine W_seq ?_
  refine W_region ?_
  refine op rfl (r_moveV (v := .slice _ _ _) rfl) ?_
  refine op rfl (r_len_slice rfl Try.underlying22) ?_
  refine op rfl (r_moveV (v := .slice _ _ _) rfl) ?_
  refine op rfl (r_len_slice rfl Try.underlying22) ?_
  refine op rfl (r_add' (r := ((a.length + b.length : Nat) : Int)) rfl rfl (by rw [wrap_i64 (by omega) (by omega)]; omega)) ?_
  refine op rfl (r_moveV (v := .slice _ _ _) rfl) ?_
  refine opCv rfl (r_call Try.func15 Try.nm15 rfl) (long_spec A3 c3 l W (by omega) hL) ?_
  rintro v w1 ⟨rfl, rfl⟩
  refine op rfl (r_add' (r := ((a.length + b.length + (l.length + l.flatten.length) : Nat) : Int)) rfl rfl (by rw [wrap_i64 (by omega) (by omega)]; omega)) ?_
  refine op rfl (r_gtr rfl rfl) ?_
  refine WL_nil ?_
  refine W_ifp rfl (fun ht26 => ?_) (fun ht26 => ?_)
  · refine W_seq ?_
    refine W_region ?_
    refine opCv rfl (r_call Try.func8 Try.nm8 rfl) (known_spec _) ?_
    rintro v w2 ⟨rfl, hE⟩
    refine op rfl (r_assignV (v := .bool _) rfl) ?_
    refine WL_nil ?_
    refine W_ret (finX_ret ?_)
    refine fin1 ?_
    exact ⟨_, rfl, rfl, hE⟩
  · refine W_skip ?_
    refine W_seq ?_
    refine W_region ?_
    have hal : ∀ x ∈ l, x.length ≤ 65536 := fun x hx => by have := flat_mem hx; omega
    have ea : Frame.encode a = Frame.frame a := by unfold Frame.encode; rw [if_pos (by omega)]
    have eb : Frame.encode b = Frame.frame b := by unfold Frame.encode; rw [if_pos (by omega)]
    have ra : Frame.errOf a = 0 := by unfold Frame.errOf; rw [if_pos (by omega)]
    have rb : Frame.errOf b = 0 := by unfold Frame.errOf; rw [if_pos (by omega)]
    refine op rfl (r_moveV (v := .slice _ _ _) rfl) ?_
    refine opCv rfl (r_call Try.func17 Try.nm17 rfl) (encode_spec A1 c1 a w1 hac h1 hA) ?_
    rintro v w3 ⟨u, rfl, E3, O3⟩
    rw [ea] at O3
    rw [ra]
    obtain ⟨A4, c4, rfl, hc4, hR4⟩ := own_frow O3
    refine op rfl (r_moveV (v := .tuple #[.slice A4 (Frame.frame a).length c4, .int .i64 0]) rfl) ?_
    refine op rfl (r_extract (vs := [.slice A4 (Frame.frame a).length c4, .int .i64 0]) rfl rfl) ?_
    refine op rfl (r_extract (vs := [.slice A4 (Frame.frame a).length c4, .int .i64 0]) rfl rfl) ?_
    refine op rfl (r_assignV (v := .slice A4 (Frame.frame a).length c4) rfl) ?_
    refine op rfl (r_assignV (v := .int .i64 0) rfl) ?_
    refine WL_nil ?_
    refine W_seq ?_
    refine W_region ?_
    refine op rfl (r_moveV (v := .slice _ _ _) rfl) ?_
    refine opCv rfl (r_call Try.func17 Try.nm17 rfl) (encode_spec A2 c2 b w3 hbc h2 (hB.ext E3)) ?_
    rintro v w4 ⟨u, rfl, E4, O4⟩
    rw [eb] at O4
    rw [rb]
    obtain ⟨A5, c5, rfl, hc5, hR5⟩ := own_frow O4
    have X4 := E3.trans E4
    refine op rfl (r_moveV (v := .tuple #[.slice A5 (Frame.frame b).length c5, .int .i64 0]) rfl) ?_
    refine op rfl (r_extract (vs := [.slice A5 (Frame.frame b).length c5, .int .i64 0]) rfl rfl) ?_
    refine op rfl (r_extract (vs := [.slice A5 (Frame.frame b).length c5, .int .i64 0]) rfl rfl) ?_
    refine op rfl (r_assignV (v := .slice A5 (Frame.frame b).length c5) rfl) ?_
    refine op rfl (r_assignV (v := .int .i64 0) rfl) ?_
    refine WL_nil ?_
    refine W_seq ?_
    refine W_seq ?_
    refine W_region ?_
    refine op rfl (r_moveV (v := .int .i64 0) rfl) ?_
    refine op rfl (r_neq rfl rfl) ?_
    refine op_false rfl (r_moveV (v := .bool (decide _)) rfl) (by decide) ?_
    refine opG_yes rfl rfl rfl rfl rfl (r_moveV (v := .int .i64 0) rfl) ?_
    refine opG_yes rfl rfl rfl rfl rfl (r_neq rfl rfl) ?_
    refine op rfl (r_pickFV (v := .bool _) rfl rfl) ?_
    refine op_false rfl (r_moveV (v := .bool (decide _)) rfl) (by decide) ?_
    refine opG_yes rfl rfl rfl rfl rfl (r_moveV (v := .slice A4 (Frame.frame a).length c4) rfl) ?_
    refine opG_yes rfl rfl rfl rfl rfl (r_len_slice rfl Try.underlying22) ?_
    refine opG_yes rfl rfl rfl rfl rfl (r_moveV (v := .slice _ _ _) rfl) ?_
    refine opG_yes rfl rfl rfl rfl rfl (r_len_slice rfl Try.underlying22) ?_
    refine opG_yes rfl rfl rfl rfl rfl (r_add' (r := ((8 + a.length : Nat) : Int)) rfl rfl (by rw [wrap_i64 (by omega) (by omega)]; omega)) ?_
    refine opG_yes rfl rfl rfl rfl rfl (r_neq rfl rfl) ?_
    refine op rfl (r_pickFV (v := .bool _) rfl rfl) ?_
    refine op_false rfl (r_moveV (v := .bool (decide _)) rfl) (by omega) ?_
    refine opG_yes rfl rfl rfl rfl rfl (r_moveV (v := .slice A4 (Frame.frame a).length c4) rfl) ?_
    refine opG_yes rfl rfl rfl rfl rfl (r_moveV (v := .slice A5 (Frame.frame b).length c5) rfl) ?_
    refine opGCv_yes rfl rfl rfl rfl rfl (r_call Try.func13 Try.nm13 rfl) (same_spec A4 c4 (Frame.frame a) A5 c5 (Frame.frame b) w4 (hR4.ext E4) hR5) ?_
    rintro v w5 ⟨rfl, rfl⟩
    refine opG_yes rfl rfl rfl rfl rfl (r_moveV (v := .slice _ _ _) rfl) ?_
    refine opG_yes rfl rfl rfl rfl rfl (r_moveV (v := .slice _ _ _) rfl) ?_
    refine opGCv_yes rfl rfl rfl rfl rfl (r_call Try.func13 Try.nm13 rfl) (same_spec A1 c1 a A2 c2 b w5 (hA.ext X4) (hB.ext X4)) ?_
    rintro v w6 ⟨rfl, rfl⟩
    refine opG_yes rfl rfl rfl rfl rfl (rb_neq rfl rfl Try.underlying4) ?_
    refine op rfl (r_pickFV (v := .bool _) rfl rfl) ?_
    refine WL_nil ?_
    refine W_ifp rfl (fun ht60 => ?_) (fun ht60 => ?_)
    · refine absurd ?_ ht60
      rw [decide_eq_decide]
      exact ⟨fun q => by have := congrArg (List.drop 8) q; rwa [Frame.frame_body, Frame.frame_body] at this, fun q => by rw [q]⟩
    · refine W_skip ?_
      refine W_seq ?_
      refine W_region ?_
      refine op rfl (r_moveV (v := .slice _ _ _) rfl) ?_
      refine opCv rfl (r_call Try.func16 Try.nm16 rfl) (join_spec A3 c3 l w6 h3 (hL.ext X4) hal (by omega)) ?_
      rintro v w7 ⟨u, rfl, E7, O7⟩
      obtain ⟨A7, c7, rfl, hc7, hR7⟩ := own_frow O7
      have X7 := X4.trans E7
      refine op rfl (r_moveV (v := .tuple #[.slice A7 (Frame.joined l).length c7, .int .i64 0]) rfl) ?_
      refine op rfl (r_extract (vs := [.slice A7 (Frame.joined l).length c7, .int .i64 0]) rfl rfl) ?_
      refine op rfl (r_extract (vs := [.slice A7 (Frame.joined l).length c7, .int .i64 0]) rfl rfl) ?_
      refine op rfl (r_assignV (v := .slice A7 (Frame.joined l).length c7) rfl) ?_
      refine op rfl (r_assignV (v := .int .i64 0) rfl) ?_
      refine WL_nil ?_
      refine W_seq ?_
      refine W_region ?_
      refine op rfl (r_assignV (v := .slice _ _ _) rfl) ?_
      refine WL_nil ?_
      refine W_seq ?_
      refine W_region ?_
      refine op rfl (r_moveV (v := .slice _ _ _) rfl) ?_
      refine op rfl (r_moveV (v := .slice A4 (Frame.frame a).length c4) rfl) ?_
      refine op_app flat_byte rfl rfl rfl Try.underlying22 Try.sz5 Try.by5 Try.zero5 rfl (Ext.refl _) (Own.nil) (hR4.ext (E4.trans E7)) (by simp only [List.length_nil]; omega) (by simp only [List.length_nil]; omega) ?_
      intro v9_2 w9_2 O9_2 X9_2 G9_2
      refine op rfl (r_assignV (v := v9_2) rfl) ?_
      refine WL_nil ?_
      refine W_seq ?_
      refine W_region ?_
      refine op rfl (r_moveV (v := v9_2) rfl) ?_
      refine op rfl (r_moveV (v := .slice A7 (Frame.joined l).length c7) rfl) ?_
      refine op_app (v := v9_2) flat_byte rfl rfl rfl Try.underlying22 Try.sz5 Try.by5 Try.zero5 rfl (X9_2) (O9_2) (hR7.ext X9_2) (by simp only [List.nil_append]; omega) (by simp only [List.nil_append]; omega) ?_
      intro v10_2 w10_2 O10_2 X10_2 G10_2
      rw [List.nil_append] at O10_2
      have hlen : (Frame.frame a ++ Frame.joined l).length = 8 + a.length + (Frame.joined l).length := by rw [List.length_append, hfa]
      obtain ⟨A10, c10, rfl, hc10, hR10⟩ := own_frow O10_2
      refine op rfl (r_assignV (v := .slice A10 (Frame.frame a ++ Frame.joined l).length c10) rfl) ?_
      refine WL_nil ?_
      refine W_seq ?_
      refine W_region ?_
      refine op rfl (r_moveV (v := .slice A10 (Frame.frame a ++ Frame.joined l).length c10) rfl) ?_
      have hnx := next_spec A10 c10 (Frame.frame a ++ Frame.joined l) w10_2 hc10 (bigs _ (by omega)) hR10
      rw [Frame.next_frame a (Frame.joined l) (by omega)] at hnx
      refine opCv rfl (r_call Try.func9 Try.nm9 rfl) (hnx) ?_
      rintro v w11 ⟨u, rfl, E11, O11⟩
      obtain ⟨A11, c11, rfl, hc11, hR11⟩ := own_frow O11
      have X11 := (X7.trans X10_2).trans E11
      refine op rfl (r_moveV (v := .tuple #[.slice A11 a.length c11, .int .i64 (8 + a.length : Nat)]) rfl) ?_
      refine op rfl (r_extract (vs := [.slice A11 a.length c11, .int .i64 (8 + a.length : Nat)]) rfl rfl) ?_
      refine op rfl (r_extract (vs := [.slice A11 a.length c11, .int .i64 (8 + a.length : Nat)]) rfl rfl) ?_
      refine op rfl (r_assignV (v := .slice A11 a.length c11) rfl) ?_
      refine op rfl (r_assignV (v := .int .i64 (8 + a.length : Nat)) rfl) ?_
      refine WL_nil ?_
      refine W_seq ?_
      refine W_seq ?_
      refine W_region ?_
      refine op rfl (r_moveV (v := .int .i64 0) rfl) ?_
      refine op rfl (r_neq rfl rfl) ?_
      refine op_false rfl (r_moveV (v := .bool (decide _)) rfl) (by decide) ?_
      refine opG_yes rfl rfl rfl rfl rfl (r_moveV (v := .int .i64 (8 + a.length : Nat)) rfl) ?_
      refine opG_yes rfl rfl rfl rfl rfl (r_moveV (v := .slice A4 (Frame.frame a).length c4) rfl) ?_
      refine opG_yes rfl rfl rfl rfl rfl (r_len_slice rfl Try.underlying22) ?_
      refine opG_yes rfl rfl rfl rfl rfl (r_neq rfl rfl) ?_
      refine op rfl (r_pickFV (v := .bool _) rfl rfl) ?_
      refine op_false rfl (r_moveV (v := .bool (decide _)) rfl) (by omega) ?_
      refine opG_yes rfl rfl rfl rfl rfl (r_moveV (v := .slice A11 a.length c11) rfl) ?_
      refine opG_yes rfl rfl rfl rfl rfl (r_moveV (v := .slice _ _ _) rfl) ?_
      refine opGCv_yes rfl rfl rfl rfl rfl (r_call Try.func13 Try.nm13 rfl) (same_spec A11 c11 a A1 c1 a w11 hR11 (hA.ext X11)) ?_
      rintro v w12 ⟨rfl, rfl⟩
      refine opG_yes rfl rfl rfl rfl rfl (r_notP rfl) ?_
      refine op rfl (r_pickFV (v := .bool _) rfl rfl) ?_
      refine WL_nil ?_
      refine W_ifp rfl (fun ht90 => ?_) (fun ht90 => ?_)
      · exact absurd rfl ht90
      · refine W_skip ?_
        refine W_seq ?_
        refine W_region ?_
        refine op rfl (r_moveV (v := .slice A10 (Frame.frame a ++ Frame.joined l).length c10) rfl) ?_
        refine op rfl (r_moveV (v := .int .i64 (8 + a.length : Nat)) rfl) ?_
        have hD := (hR10.ext E11).drop hc10 (k := 8 + a.length)
        have hdr : (Frame.frame a ++ Frame.joined l).drop (8 + a.length) = Frame.joined l := by
          rw [← hfa, List.drop_append_of_le_length (Nat.le_refl _), List.drop_length, List.nil_append]
        rw [hdr] at hD
        have hdl : (Frame.frame a ++ Frame.joined l).length - (8 + a.length) = (Frame.joined l).length := by omega
        have hall := all_spec _ (c10 - (8 + a.length)) (Frame.joined l) w12 (by omega) (by omega) hD
        rw [alls_exact hal, ← hdl] at hall
        refine op rfl (r_sliceLo (i := 8 + a.length) rfl rfl Try.underlying22 Try.sz5 (by omega)) ?_
        refine opCv rfl (r_call Try.func11 Try.nm11 rfl) (hall) ?_
        rintro v w14 ⟨u, rfl, E14, F14, hF14, O14⟩
        obtain ⟨A14, c14, rfl, hc14, hR14⟩ := O14.old hF14
        have X14 := X11.trans E14
        refine op rfl (r_moveV (v := .tuple #[.slice A14 l.length c14, .int .i64 ((Frame.frame a ++ Frame.joined l).length - (8 + a.length) : Nat)]) rfl) ?_
        refine op rfl (r_extract (vs := [.slice A14 l.length c14, .int .i64 ((Frame.frame a ++ Frame.joined l).length - (8 + a.length) : Nat)]) rfl rfl) ?_
        refine op rfl (r_extract (vs := [.slice A14 l.length c14, .int .i64 ((Frame.frame a ++ Frame.joined l).length - (8 + a.length) : Nat)]) rfl rfl) ?_
        refine op rfl (r_assignV (v := .slice A14 l.length c14) rfl) ?_
        refine op rfl (r_assignV (v := .int .i64 ((Frame.frame a ++ Frame.joined l).length - (8 + a.length) : Nat)) rfl) ?_
        refine WL_nil ?_
        refine W_seq ?_
        refine W_region ?_
        refine op rfl (r_moveV (v := .int .i64 ((Frame.frame a ++ Frame.joined l).length - (8 + a.length) : Nat)) rfl) ?_
        refine op rfl (r_moveV (v := .slice A7 (Frame.joined l).length c7) rfl) ?_
        refine op rfl (r_len_slice rfl Try.underlying22) ?_
        refine op rfl (r_eql rfl rfl) ?_
        refine op_true rfl (r_moveV (v := .bool (decide _)) rfl) (by omega) ?_
        refine opG_yes rfl rfl rfl rfl rfl (r_moveV (v := .slice A14 l.length c14) rfl) ?_
        refine opG_yes rfl rfl rfl rfl rfl (r_moveV (v := .slice _ _ _) rfl) ?_
        refine opGCv_yes rfl rfl rfl rfl rfl (r_call Try.func14 Try.nm14 rfl) (sameLists_spec A14 c14 l A3 c3 l w14 h3 hR14 (hL.ext X14)) ?_
        rintro v w15 ⟨rfl, E15⟩
        refine op rfl (r_pickTV (v := .bool _) rfl rfl) ?_
        refine op_true rfl (r_moveV (v := .bool (decide _)) rfl) (rfl) ?_
        refine opGCv_yes rfl rfl rfl rfl rfl (r_call Try.func8 Try.nm8 rfl) (known_spec _) ?_
        rintro v w16 ⟨rfl, E16⟩
        refine op rfl (r_pickTV (v := .bool _) rfl rfl) ?_
        refine op rfl (r_assignV (v := .bool _) rfl) ?_
        refine WL_nil ?_
        refine W_ret (finX_ret ?_)
        refine fin1 ?_
        exact ⟨_, rfl, rfl, (X14.trans E15).trans E16⟩
end Go.Proofs.Ytgclnpafkjfmhaa
