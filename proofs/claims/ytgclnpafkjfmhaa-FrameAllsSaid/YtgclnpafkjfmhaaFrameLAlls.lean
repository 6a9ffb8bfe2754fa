/-
  The walk of a law of chapter 05, but for its row.
-/
import Derived.Test.YtgclnpafkjfmhaaFacts
import Derived.Test.YtgclnpafkjfmhaaFrameK
namespace Go.Proofs.Ytgclnpafkjfmhaa
open Go Go.Eng Go.RowKit Go.Proofs
set_option linter.unusedVariables false

theorem frameAlls_walk (W : World) (A : Option Addr) (c : Nat) (b : List UInt8) (hbc : b.length ≤ c) (hb : b.length ≤ big) (hA : Ty.byte.Row W (old W) A b) :
    Calls Try.prog 3 #[.slice A b.length c] W (fun en w' => ∃ v, en = .returned v ∧ v = .bool true ∧ Ext W w') := by
  have hbb := hb
  unfold big at hb
  have hle := Frame.next_le b
  refine calls' (n := 56) (rs := #[.tmp 2]) (l := [.slice A b.length c]) Try.func3 rfl rfl rfl rfl rfl ?_
  refine W_seq ?_
  refine W_region ?_
  refine op rfl (r_assignV (v := .bool _) rfl) ?_
  refine WL_nil ?_
  refine W_seq ?_
  refine W_seq ?_
  refine W_region ?_
  refine op rfl (r_moveV (v := .slice _ _ _) rfl) ?_
  refine op rfl (r_len_slice rfl Try.underlying22) ?_
  refine op rfl (r_gtr rfl rfl) ?_
  refine WL_nil ?_
  refine W_ifp rfl (fun ht13 => ?_) (fun ht13 => ?_)
  · refine W_seq ?_
    refine W_region ?_
    refine opCv rfl (r_call Try.func8 Try.nm8 rfl) (known_spec _) ?_
    rintro v w2 ⟨rfl, hE⟩
    refine op rfl (r_assignV (v := .bool _) rfl) ?_
    refine WL_nil ?_
    refine W_ret (finX_ret ?_)
    refine fin1 ?_
    exact ⟨_, rfl, rfl, hE⟩
  · refine W_skip ?_
    refine W_seq ?_
    refine W_region ?_
    refine op rfl (r_moveV (v := .slice _ _ _) rfl) ?_
    refine opCv rfl (r_call Try.func9 Try.nm9 rfl) (next_spec A c b W hbc hbb hA) ?_
    rintro v w3 ⟨u, rfl, E3, O3⟩
    obtain ⟨A3, c3, rfl, hc3, hR3⟩ := own_frow O3
    refine op rfl (r_moveV (v := .tuple #[.slice A3 (Frame.next b).1.length c3, .int .i64 (Frame.next b).2]) rfl) ?_
    refine op rfl (r_extract (vs := [.slice A3 (Frame.next b).1.length c3, .int .i64 (Frame.next b).2]) rfl rfl) ?_
    refine op rfl (r_extract (vs := [.slice A3 (Frame.next b).1.length c3, .int .i64 (Frame.next b).2]) rfl rfl) ?_
    refine op rfl (r_assignV (v := .slice A3 (Frame.next b).1.length c3) rfl) ?_
    refine op rfl (r_assignV (v := .int .i64 (Frame.next b).2) rfl) ?_
    refine WL_nil ?_
    refine W_seq ?_
    refine W_region ?_
    refine op rfl (r_moveV (v := .slice _ _ _) rfl) ?_
    refine opCv rfl (r_call Try.func10 Try.nm10 rfl) (refNext_spec A c b w3 hbc hbb (hA.ext E3)) ?_
    rintro v w4 ⟨A4, c4, rfl, hc4, E4, hR4⟩
    have X4 := E3.trans E4
    refine op rfl (r_moveV (v := .tuple #[.slice A4 (Frame.next b).1.length c4, .int .i64 (Frame.next b).2]) rfl) ?_
    refine op rfl (r_extract (vs := [.slice A4 (Frame.next b).1.length c4, .int .i64 (Frame.next b).2]) rfl rfl) ?_
    refine op rfl (r_extract (vs := [.slice A4 (Frame.next b).1.length c4, .int .i64 (Frame.next b).2]) rfl rfl) ?_
    refine op rfl (r_assignV (v := .slice A4 (Frame.next b).1.length c4) rfl) ?_
    refine op rfl (r_assignV (v := .int .i64 (Frame.next b).2) rfl) ?_
    refine WL_nil ?_
    refine W_seq ?_
    refine W_region ?_
    refine op rfl (r_moveV (v := .slice _ _ _) rfl) ?_
    refine opCv rfl (r_call Try.func11 Try.nm11 rfl) (all_spec A c b w4 hbc (by omega) (hA.ext X4)) ?_
    rintro v w5 ⟨u, rfl, E5, F5, hF5, O5⟩
    obtain ⟨A5, c5, rfl, hc5, hR5⟩ := O5.old hF5
    have X5 := X4.trans E5
    refine op rfl (r_moveV (v := .tuple #[.slice A5 (Frame.Alls b).1.length c5, .int .i64 (Frame.Alls b).2]) rfl) ?_
    refine op rfl (r_extract (vs := [.slice A5 (Frame.Alls b).1.length c5, .int .i64 (Frame.Alls b).2]) rfl rfl) ?_
    refine op rfl (r_extract (vs := [.slice A5 (Frame.Alls b).1.length c5, .int .i64 (Frame.Alls b).2]) rfl rfl) ?_
    refine op rfl (r_assignV (v := .slice A5 (Frame.Alls b).1.length c5) rfl) ?_
    refine op rfl (r_assignV (v := .int .i64 (Frame.Alls b).2) rfl) ?_
    refine WL_nil ?_
    refine W_seq ?_
    refine W_region ?_
    refine op rfl (r_moveV (v := .slice _ _ _) rfl) ?_
    refine opCv rfl (r_call Try.func12 Try.nm12 rfl) (refAll_spec A c b w5 hbc (by omega) (hA.ext X5)) ?_
    rintro v w6 ⟨u, rfl, E6, F6, hF6, O6⟩
    obtain ⟨A6, c6, rfl, hc6, hR6⟩ := O6.old hF6
    have X6 := X5.trans E6
    refine op rfl (r_moveV (v := .tuple #[.slice A6 (Frame.Alls b).1.length c6, .int .i64 (Frame.Alls b).2]) rfl) ?_
    refine op rfl (r_extract (vs := [.slice A6 (Frame.Alls b).1.length c6, .int .i64 (Frame.Alls b).2]) rfl rfl) ?_
    refine op rfl (r_extract (vs := [.slice A6 (Frame.Alls b).1.length c6, .int .i64 (Frame.Alls b).2]) rfl rfl) ?_
    refine op rfl (r_assignV (v := .slice A6 (Frame.Alls b).1.length c6) rfl) ?_
    refine op rfl (r_assignV (v := .int .i64 (Frame.Alls b).2) rfl) ?_
    refine WL_nil ?_
    refine W_seq ?_
    refine W_region ?_
    refine op rfl (r_moveV (v := .slice A3 (Frame.next b).1.length c3) rfl) ?_
    refine op rfl (r_moveV (v := .slice A4 (Frame.next b).1.length c4) rfl) ?_
    refine opCv rfl (r_call Try.func13 Try.nm13 rfl) (same_spec A3 c3 (Frame.next b).1 A4 c4 (Frame.next b).1 w6 (hR3.ext ((E4.trans E5).trans E6)) ((hR4 _ _ (hA.ext X6)))) ?_
    rintro v w7 ⟨rfl, rfl⟩
    refine op_true rfl (r_moveV (v := .bool (decide _)) rfl) (rfl) ?_
    refine opG_yes rfl rfl rfl rfl rfl (r_moveV (v := .int .i64 (Frame.next b).2) rfl) ?_
    refine opG_yes rfl rfl rfl rfl rfl (r_moveV (v := .int .i64 (Frame.next b).2) rfl) ?_
    refine opG_yes rfl rfl rfl rfl rfl (r_eql rfl rfl) ?_
    refine op rfl (r_pickTV (v := .bool _) rfl rfl) ?_
    refine op_true rfl (r_moveV (v := .bool (decide _)) rfl) (rfl) ?_
    refine opG_yes rfl rfl rfl rfl rfl (r_moveV (v := .slice A5 (Frame.Alls b).1.length c5) rfl) ?_
    refine opG_yes rfl rfl rfl rfl rfl (r_moveV (v := .slice A6 (Frame.Alls b).1.length c6) rfl) ?_
    have hal : (Frame.Alls b).1.length ≤ big := by
      have h := Frame.alls_len b
      exact bigs _ (by omega)
    refine opGCv_yes rfl rfl rfl rfl rfl (r_call Try.func14 Try.nm14 rfl) (sameLists_spec A5 c5 (Frame.Alls b).1 A6 c6 (Frame.Alls b).1 w7 hal (hR5.ext E6) hR6) ?_
    rintro v w8 ⟨rfl, E8⟩
    refine op rfl (r_pickTV (v := .bool _) rfl rfl) ?_
    refine op_true rfl (r_moveV (v := .bool (decide _)) rfl) (rfl) ?_
    refine opG_yes rfl rfl rfl rfl rfl (r_moveV (v := .int .i64 (Frame.Alls b).2) rfl) ?_
    refine opG_yes rfl rfl rfl rfl rfl (r_moveV (v := .int .i64 (Frame.Alls b).2) rfl) ?_
    refine opG_yes rfl rfl rfl rfl rfl (r_eql rfl rfl) ?_
    refine op rfl (r_pickTV (v := .bool _) rfl rfl) ?_
    refine op_true rfl (r_moveV (v := .bool (decide _)) rfl) (rfl) ?_
    refine opGCv_yes rfl rfl rfl rfl rfl (r_call Try.func8 Try.nm8 rfl) (known_spec _) ?_
    rintro v w9 ⟨rfl, E9⟩
    refine op rfl (r_pickTV (v := .bool _) rfl rfl) ?_
    refine op rfl (r_assignV (v := .bool _) rfl) ?_
    refine WL_nil ?_
    refine W_ret (finX_ret ?_)
    refine fin1 ?_
    exact ⟨_, rfl, rfl, (X6.trans E8).trans E9⟩
end Go.Proofs.Ytgclnpafkjfmhaa
