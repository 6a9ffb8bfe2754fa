/-
  The walk of a law of chapter 04, but for its row.
-/
import Derived.Test.YthclaoblbhnmnaaFacts
import Derived.Test.YthclaoblbhnmnaaSlice
import Derived.Test.YthclaoblbhnmnaaCrcL
namespace Go.Proofs.Ythclaoblbhnmnaa
open Go Go.Eng Go.RowKit Go.Proofs
set_option linter.unusedVariables false

theorem crcSums_walk (W : World) (n : Int) (hn : inK .u32 n) (A : Option Addr) (c : Nat) (l : List (List UInt8)) (hlc : l.length ≤ c) (hl : l.length ≤ big) (hA : Ty.byte.slice.Row W (old W) A l) :
    Calls Try.prog 3 #[.int .u32 n, .slice A l.length c] W (fun en w' => ∃ v, en = .returned v ∧ v = .bool true ∧ Ext W w') := by
  obtain ⟨n, rfl⟩ := u32_of hn
  have hlb := hl
  unfold big at hl
  refine calls' (n := 59) (rs := #[.tmp 4]) (l := [.int .u32 n.toNat, .slice A l.length c]) Try.func3 rfl rfl rfl rfl ?_
  refine W_seq ?_
  refine W_region ?_
  refine op rfl (r_assignV (v := .bool _) rfl) ?_
  refine WL_nil ?_
  refine W_seq ?_
  refine W_region ?_
  refine op rfl (r_assignV (v := .int _ _) rfl) ?_
  refine WL_nil ?_
  refine W_seq ?_
  refine W_seq ?_
  refine W_region ?_
  refine op rfl (r_assignV (v := .int _ _) rfl) ?_
  refine WL_nil ?_
  refine W_block ?_
  refine W_loop [5, 6, 8, 9, 10, 11, 12, 13, 14, 15, 16, 17, 18, 19, 20, 21] (fun k g w' => ∃ (i : Nat) (q : Int), g 6 = .int .i64 i ∧ i ≤ l.length ∧ k = l.length - i ∧ g 5 = .int .i64 q ∧ w' = W) (l.length) ?_ ?_
  · exact ⟨0, 0, rfl, by omega, by omega, rfl, rfl⟩
  intro k g w' hI
  obtain ⟨i, q, h6, hi, rfl, h5, rfl⟩ := hI
  refine W_set (i := 6) h6 ?_
  refine W_set (i := 5) h5 ?_
  refine W_seq ?_
  refine W_seq ?_
  refine W_region ?_
  refine op rfl (r_moveV (v := .int _ _) rfl) ?_
  refine op rfl (r_moveV (v := .slice _ _ _) rfl) ?_
  refine op rfl (r_len_slice rfl Try.underlying23) ?_
  refine op rfl (r_lss rfl rfl) ?_
  refine WL_nil ?_
  refine W_ifp rfl (fun ht11 => ?_) (fun ht11 => ?_)
  · replace ht11 : i < l.length := by omega
    obtain ⟨b1, o1, Ai, ci, hAe, _, hc, hci, hcm, hr⟩ := hA.cellS ht11
    refine W_skip ?_
    refine W_seq ?_
    refine W_block ?_
    refine W_region ?_
    refine op rfl (r_moveV (v := .int _ _) rfl) ?_
    refine op rfl (r_add rfl rfl) ?_
    refine op rfl (r_moveV (v := .slice _ _ _) rfl) ?_
    refine op rfl (r_moveV (v := .int _ _) rfl) ?_
    refine op rfl (r_indexAddr1 rfl rfl (by assumption) Try.underlying23 Try.sz24 (by omega) (by omega)) ?_
    refine op rfl (r_load rfl Try.underlying24 rfl (by assumption)) ?_
    refine op rfl (r_len_slice rfl Try.underlying24) ?_
    refine op rfl (r_add rfl rfl) ?_
    refine op rfl (r_assignV (v := .int _ _) rfl) ?_
    refine WL_nil ?_
    refine W_region ?_
    refine op rfl (r_moveV (v := .int _ _) rfl) ?_
    refine op rfl (r_add' rfl rfl (wrap_i64 (by omega) (by omega))) ?_
    refine op rfl (r_assignV (v := .int _ _) rfl) ?_
    refine WL_nil ?_
    refine ⟨?_, by repeat (first | exact Out.refl _ _ | exact Out.mix | refine Out.put rfl ?_ | refine Out.mixin rfl ?_)⟩
    exact ⟨l.length - (i + 1), by omega, i + 1, _, rfl, by omega, rfl, rfl, rfl⟩
  · refine W_exit (blk_hit ?_)
    refine W_seq ?_
    refine W_seq ?_
    refine W_region ?_
    refine op rfl (r_moveV (v := .int _ _) rfl) ?_
    refine op rfl (r_gtr rfl rfl) ?_
    refine WL_nil ?_
    refine W_ifp rfl (fun ht23 => ?_) (fun ht23 => ?_)
    · refine W_seq ?_
      refine W_region ?_
      refine opCv rfl (r_call Try.func9 Try.nm9 rfl) (known_spec _) ?_
      rintro v w2 ⟨rfl, hE⟩
      refine op rfl (r_assignV (v := .bool _) rfl) ?_
      refine WL_nil ?_
      refine W_ret (finX_ret ?_)
      refine fin1 ?_
      exact ⟨_, rfl, rfl, hE⟩
    · refine W_skip ?_
      refine W_seq ?_
      refine W_seq ?_
      refine W_region ?_
      refine op rfl (r_assignV (v := .int _ _) rfl) ?_
      refine WL_nil ?_
      refine W_block ?_
      refine W_loop [4, 7, 25, 26, 27, 28, 29, 30, 31, 32, 33, 34, 35, 36, 37, 38, 39, 40, 41, 42, 43] (fun k g w'' => ∃ i : Nat, g 7 = .int .i64 i ∧ i ≤ l.length ∧ k = l.length - i ∧ Ext w' w'') (l.length) ?_ ?_
      · exact ⟨0, rfl, by omega, by omega, Ext.refl _⟩
      intro k g w' hI
      obtain ⟨i2, h7, hi2, rfl, HE⟩ := hI
      refine W_set (i := 7) h7 ?_
      refine W_seq ?_
      refine W_seq ?_
      refine W_region ?_
      refine op rfl (r_moveV (v := .int _ _) rfl) ?_
      refine op rfl (r_moveV (v := .slice _ _ _) rfl) ?_
      refine op rfl (r_len_slice rfl Try.underlying23) ?_
      refine op rfl (r_lss rfl rfl) ?_
      refine WL_nil ?_
      refine W_ifp rfl (fun ht28 => ?_) (fun ht28 => ?_)
      · replace ht28 : i2 < l.length := by omega
        obtain ⟨b1, o1, Ai, ci, hAe, _, hc, hci, hcm, hr⟩ := (hA.ext HE).cellS ht28
        refine W_skip ?_
        refine W_seq ?_
        refine W_block ?_
        refine W_seq ?_
        refine W_drawE Try.wd rfl ?_
        intro wd11 hS
        refine A_take (i := 0) rfl (by kernel_rfl) (by kernel_rfl) (by kernel_rfl) rfl hS (fun _ hw => r_moveV (v := .int _ _) rfl) ?_
        refine A_take (i := 1) rfl (by kernel_rfl) (by kernel_rfl) (by kernel_rfl) rfl hS (fun _ hw => r_moveV (v := .slice _ _ _) rfl) ?_
        refine A_take (i := 2) rfl (by kernel_rfl) (by kernel_rfl) (by kernel_rfl) rfl hS (fun _ hw => r_moveV (v := .int _ _) rfl) ?_
        refine A_take (i := 3) rfl (by kernel_rfl) (by kernel_rfl) (by kernel_rfl) rfl hS (fun _ hw => r_indexAddr1 rfl rfl (by assumption) Try.underlying23 Try.sz24 (by omega) (by omega)) ?_
        refine A_take (i := 4) rfl (by kernel_rfl) (by kernel_rfl) (by kernel_rfl) rfl hS (fun _ hw => r_load rfl Try.underlying24 rfl (ext_cell hw (by assumption))) ?_
        refine A_take (i := 6) rfl (by kernel_rfl) (by kernel_rfl) (by kernel_rfl) rfl hS (fun _ hw => r_moveV (v := .int _ _) rfl) ?_
        refine A_take (i := 7) rfl (by kernel_rfl) (by kernel_rfl) (by kernel_rfl) rfl hS (fun _ hw => r_moveV (v := .slice _ _ _) rfl) ?_
        refine A_take (i := 8) rfl (by kernel_rfl) (by kernel_rfl) (by kernel_rfl) rfl hS (fun _ hw => r_moveV (v := .int _ _) rfl) ?_
        refine A_take (i := 9) rfl (by kernel_rfl) (by kernel_rfl) (by kernel_rfl) rfl hS (fun _ hw => r_indexAddr1 rfl rfl (by assumption) Try.underlying23 Try.sz24 (by omega) (by omega)) ?_
        refine A_take (i := 10) rfl (by kernel_rfl) (by kernel_rfl) (by kernel_rfl) rfl hS (fun _ hw => r_load rfl Try.underlying24 rfl (ext_cell hw (by assumption))) ?_
        refine A_ready1 (i := 5) (by kernel_rfl) ?_
        refine O_call rfl rfl (r_call Try.func10 Try.nm10 rfl) (more_spec n Ai ci l[i2] _ hcm (hr.ext hS)) ?_
        rintro v w2 ⟨rfl, hE⟩
        replace hS := hS.trans hE
        refine ⟨hS, ?_⟩
        refine A_ready1 (i := 11) (by kernel_rfl) ?_
        refine O_call rfl rfl (r_call Try.func11 Try.nm11 rfl) (refMore_spec n Ai ci l[i2] _ hcm (hr.ext hS)) ?_
        rintro v w3 ⟨rfl, rfl⟩
        replace hS := hS
        refine ⟨hS, ?_⟩
        refine A_take (i := 12) rfl (by kernel_rfl) (by kernel_rfl) (by kernel_rfl) rfl hS (fun _ hw => r_neq rfl rfl) ?_
        refine A_done (by kernel_rfl) ?_
        refine W_ifp rfl (fun ht43 => ?_) (fun ht43 => ?_)
        · exact absurd rfl ht43
        · refine W_skip ?_
          refine W_region ?_
          refine op rfl (r_moveV (v := .int _ _) rfl) ?_
          refine op rfl (r_add' rfl rfl (wrap_i64 (by omega) (by omega))) ?_
          refine op rfl (r_assignV (v := .int _ _) rfl) ?_
          refine WL_nil ?_
          refine ⟨?_, by repeat (first | exact Out.refl _ _ | exact Out.mix | refine Out.put rfl ?_ | refine Out.mixin rfl ?_)⟩
          exact ⟨l.length - (i2 + 1), by omega, i2 + 1, rfl, by omega, rfl, HE.trans hS⟩
      · refine W_exit (blk_hit ?_)
        refine W_seq ?_
        refine W_region ?_
        refine op rfl (r_moveV (v := .slice _ _ _) rfl) ?_
        refine opCv rfl (r_call Try.func12 Try.nm12 rfl) (sum_spec A c l _ hlb (hA.ext HE)) ?_
        rintro v w2 ⟨rfl, hE⟩
        refine op rfl (r_moveV (v := .slice _ _ _) rfl) ?_
        refine opCv rfl (r_call Try.func13 Try.nm13 rfl) (refSum_spec A c l _ hlb (hA.ext (HE.trans hE))) ?_
        rintro v w3 ⟨rfl, rfl⟩
        refine op rfl (r_eql rfl rfl) ?_
        refine op_true rfl (r_moveV (v := .bool (decide _)) rfl) (rfl) ?_
        refine opG_yes rfl rfl rfl rfl rfl (r_moveV (v := .int _ _) rfl) ?_
        refine opGCv_yes rfl rfl rfl rfl rfl (r_call Try.func14 Try.nm14 rfl) (step_spec n _) ?_
        rintro v w4 ⟨rfl, rfl⟩
        refine opG_yes rfl rfl rfl rfl rfl (r_moveV (v := .int _ _) rfl) ?_
        refine opGCv_yes rfl rfl rfl rfl rfl (r_call Try.func15 Try.nm15 rfl) (refStep_spec n _) ?_
        rintro v w5 ⟨rfl, rfl⟩
        refine opG_yes rfl rfl rfl rfl rfl (r_eql rfl rfl) ?_
        refine op rfl (r_pickTV (v := .bool _) rfl rfl) ?_
        refine op_true rfl (r_moveV (v := .bool (decide _)) rfl) (rfl) ?_
        refine opGCv_yes rfl rfl rfl rfl rfl (r_call Try.func9 Try.nm9 rfl) (known_spec _) ?_
        rintro v w6 ⟨rfl, hE6⟩
        refine op rfl (r_pickTV (v := .bool _) rfl rfl) ?_
        refine op rfl (r_assignV (v := .bool _) rfl) ?_
        refine WL_nil ?_
        refine W_ret (finX_ret ?_)
        refine fin1 ?_
        exact ⟨_, rfl, rfl, (HE.trans hE).trans hE6⟩
end Go.Proofs.Ythclaoblbhnmnaa
