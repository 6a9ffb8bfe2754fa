/-
  The walk of a law of chapter 05, but for its row.
-/
import Derived.Test.YtgclnpafkjfmhaaFacts
import Derived.Test.YtgclnpafkjfmhaaFrameG
namespace Go.Proofs.Ytgclnpafkjfmhaa
open Go Go.Eng Go.RowKit Go.Proofs
set_option linter.unusedVariables false
set_option maxRecDepth 20000

theorem frameBack_walk (W : World) (A : Option Addr) (c : Nat) (l : List (List UInt8)) (hlc : l.length ≤ c) (hl : l.length ≤ big) (hA : Ty.byte.slice.Row W (old W) A l) (at_ : Int) (hat : inK .u16 at_)
    (A2 : Option Addr) (c2 : Nat) (t : List UInt8) (htc : t.length ≤ c2) (ht : t.length ≤ big) (hT : Ty.byte.Row W (old W) A2 t) :
    Calls Try.prog 4 #[.slice A l.length c, .int .u16 at_, .slice A2 t.length c2] W (fun en w' => ∃ v, en = .returned v ∧ v = .bool true ∧ Ext W w') := by
  obtain ⟨at_, rfl, ha⟩ := u16_of hat
  have hlb := hl
  have htb := ht
  unfold big at hl ht
  have hrl := rows_le hA
  have hfl := flat_le hrl
  unfold big at hfl
  have hjl := joined_len l
  obtain ⟨k, hk, hkm⟩ : ∃ k : Nat, k ≤ (Frame.joined l).length ∧ ((at_ : Nat) : Int).tmod (((Frame.joined l).length + 1 : Nat) : Int) = (k : Int) := by
    refine ⟨at_ % ((Frame.joined l).length + 1), Nat.le_of_lt_succ (Nat.mod_lt _ (by omega)), ?_⟩
    rw [Int.tmod_eq_emod_of_nonneg (Int.natCast_nonneg _)]; simp
  refine calls' (n := 134) (rs := #[.tmp 6]) (l := [.slice A l.length c, .int .u16 at_, .slice A2 t.length c2]) Try.func4 rfl rfl rfl rfl rfl ?_
  refine W_seq ?_
  refine W_region ?_
  refine op rfl (r_assignV (v := .bool _) rfl) ?_
  refine WL_nil ?_
  refine W_seq ?_
  refine W_seq ?_
  refine W_region ?_
  refine op rfl (r_moveV (v := .slice _ _ _) rfl) ?_
  refine op rfl (r_len_slice rfl Try.underlying26) ?_
  refine op rfl (r_gtr rfl rfl) ?_
  refine op_split rfl (r_moveV (v := .bool (decide _)) rfl) (fun hg23 => ?_) (fun hg23 => ?_)
  · refine opG_no rfl rfl rfl rfl rfl ?_
    refine opG_no rfl rfl rfl rfl rfl ?_
    refine opG_no rfl rfl rfl rfl rfl ?_
    refine op rfl (r_pickTV (v := .bool _) rfl rfl) ?_
    refine op rfl (r_moveV (v := .bool _) rfl) ?_
    refine opG_no rfl rfl rfl rfl rfl ?_
    refine opG_no rfl rfl rfl rfl rfl ?_
    refine opG_no rfl rfl rfl rfl rfl ?_
    refine op rfl (r_pickTV (v := .bool _) rfl rfl) ?_
    refine WL_nil ?_
    refine W_then rfl ?_
    refine W_seq ?_
    refine W_region ?_
    refine opCv rfl (r_call Try.func8 Try.nm8 rfl) (known_spec _) ?_
    rintro v w2 ⟨rfl, hE⟩
    refine op rfl (r_assignV (v := .bool _) rfl) ?_
    refine WL_nil ?_
    refine W_ret (finX_ret ?_)
    refine fin1 ?_
    exact ⟨_, rfl, rfl, hE⟩
  · refine opG_yes rfl rfl rfl rfl rfl (r_moveV (v := .slice _ _ _) rfl) ?_
    have hsm : l.length + l.flatten.length < 4611686018427387904 := by
      have : l.length * 140737488355328 ≤ 20 * 140737488355328 := Nat.mul_le_mul_right _ (by omega)
      omega
    refine opGCv_yes rfl rfl rfl rfl rfl (r_call Try.func15 Try.nm15 rfl) (long_spec A c l W hsm hA) ?_
    rintro v w1 ⟨rfl, rfl⟩
    refine opG_yes rfl rfl rfl rfl rfl (r_gtr rfl rfl) ?_
    refine op rfl (r_pickFV (v := .bool _) rfl rfl) ?_
    refine op_split rfl (r_moveV (v := .bool (decide _)) rfl) (fun hg28 => ?_) (fun hg28 => ?_)
    · refine opG_no rfl rfl rfl rfl rfl ?_
      refine opG_no rfl rfl rfl rfl rfl ?_
      refine opG_no rfl rfl rfl rfl rfl ?_
      refine op rfl (r_pickTV (v := .bool _) rfl rfl) ?_
      refine WL_nil ?_
      refine W_then rfl ?_
      refine W_seq ?_
      refine W_region ?_
      refine opCv rfl (r_call Try.func8 Try.nm8 rfl) (known_spec _) ?_
      rintro v w2 ⟨rfl, hE⟩
      refine op rfl (r_assignV (v := .bool _) rfl) ?_
      refine WL_nil ?_
      refine W_ret (finX_ret ?_)
      refine fin1 ?_
      exact ⟨_, rfl, rfl, hE⟩
    · refine opG_yes rfl rfl rfl rfl rfl (r_moveV (v := .slice _ _ _) rfl) ?_
      refine opG_yes rfl rfl rfl rfl rfl (r_len_slice rfl Try.underlying22) ?_
      refine opG_yes rfl rfl rfl rfl rfl (r_gtr rfl rfl) ?_
      refine op rfl (r_pickFV (v := .bool _) rfl rfl) ?_
      refine WL_nil ?_
      refine W_ifp rfl (fun ht32 => ?_) (fun ht32 => ?_)
      · refine W_seq ?_
        refine W_region ?_
        refine opCv rfl (r_call Try.func8 Try.nm8 rfl) (known_spec _) ?_
        rintro v w2 ⟨rfl, hE⟩
        refine op rfl (r_assignV (v := .bool _) rfl) ?_
        refine WL_nil ?_
        refine W_ret (finX_ret ?_)
        refine fin1 ?_
        exact ⟨_, rfl, rfl, hE⟩
      · refine W_skip ?_
        refine W_seq ?_
        refine W_region ?_
        have hal : ∀ x ∈ l, x.length ≤ 65536 := fun x hx => by have := flat_mem hx; omega
        refine op rfl (r_moveV (v := .slice _ _ _) rfl) ?_
        refine opCv rfl (r_call Try.func16 Try.nm16 rfl) (join_spec A c l w1 hlb hA hal (by omega)) ?_
        rintro v w3 ⟨u, rfl, E3, O3⟩
        obtain ⟨A3, c3, rfl, hc3, hR3⟩ := own_frow O3
        refine op rfl (r_moveV (v := .tuple #[.slice A3 (Frame.joined l).length c3, .int .i64 0]) rfl) ?_
        refine op rfl (r_extract (vs := [.slice A3 (Frame.joined l).length c3, .int .i64 0]) rfl rfl) ?_
        refine op rfl (r_extract (vs := [.slice A3 (Frame.joined l).length c3, .int .i64 0]) rfl rfl) ?_
        refine op rfl (r_assignV (v := .slice A3 (Frame.joined l).length c3) rfl) ?_
        refine op rfl (r_assignV (v := .int .i64 0) rfl) ?_
        refine WL_nil ?_
        refine W_seq ?_
        refine W_region ?_
        refine op rfl (r_moveV (v := .slice A3 (Frame.joined l).length c3) rfl) ?_
        have hall := all_spec A3 c3 (Frame.joined l) w3 hc3 (by omega) hR3
        rw [alls_exact hal] at hall
        refine opCv rfl (r_call Try.func11 Try.nm11 rfl) (hall) ?_
        rintro v w4 ⟨u, rfl, E4, F4, hF4, O4⟩
        obtain ⟨A4, c4, rfl, hc4, hR4⟩ := O4.old hF4
        have X4 := E3.trans E4
        refine op rfl (r_moveV (v := .tuple #[.slice A4 l.length c4, .int .i64 (Frame.joined l).length]) rfl) ?_
        refine op rfl (r_extract (vs := [.slice A4 l.length c4, .int .i64 (Frame.joined l).length]) rfl rfl) ?_
        refine op rfl (r_extract (vs := [.slice A4 l.length c4, .int .i64 (Frame.joined l).length]) rfl rfl) ?_
        refine op rfl (r_assignV (v := .slice A4 l.length c4) rfl) ?_
        refine op rfl (r_assignV (v := .int .i64 (Frame.joined l).length) rfl) ?_
        refine WL_nil ?_
        refine W_seq ?_
        refine W_seq ?_
        refine W_region ?_
        refine op rfl (r_moveV (v := .int .i64 0) rfl) ?_
        refine op rfl (r_neq rfl rfl) ?_
        refine op_false rfl (r_moveV (v := .bool (decide _)) rfl) (by decide) ?_
        refine opG_yes rfl rfl rfl rfl rfl (r_moveV (v := .int .i64 (Frame.joined l).length) rfl) ?_
        refine opG_yes rfl rfl rfl rfl rfl (r_moveV (v := .slice A3 (Frame.joined l).length c3) rfl) ?_
        refine opG_yes rfl rfl rfl rfl rfl (r_len_slice rfl Try.underlying22) ?_
        refine opG_yes rfl rfl rfl rfl rfl (r_neq rfl rfl) ?_
        refine op rfl (r_pickFV (v := .bool _) rfl rfl) ?_
        refine op_false rfl (r_moveV (v := .bool (decide _)) rfl) (by simp) ?_
        refine opG_yes rfl rfl rfl rfl rfl (r_moveV (v := .slice _ _ _) rfl) ?_
        refine opG_yes rfl rfl rfl rfl rfl (r_moveV (v := .slice A4 l.length c4) rfl) ?_
        refine opGCv_yes rfl rfl rfl rfl rfl (r_call Try.func14 Try.nm14 rfl) (sameLists_spec A c l A4 c4 l w4 hlb (hA.ext X4) hR4) ?_
        rintro v w5 ⟨rfl, E5⟩
        refine opG_yes rfl rfl rfl rfl rfl (r_notP rfl) ?_
        refine op rfl (r_pickFV (v := .bool _) rfl rfl) ?_
        refine WL_nil ?_
        refine W_ifp rfl (fun ht57 => ?_) (fun ht57 => ?_)
        · exact absurd rfl ht57
        · refine W_skip ?_
          refine W_seq ?_
          refine W_region ?_
          refine op rfl (r_moveV (v := .int _ _) rfl) ?_
          refine op rfl (r_conv' rfl Try.underlying32 Try.underlying3 (wrap_i64 (by omega) (by omega))) ?_
          refine op rfl (r_moveV (v := .slice A3 (Frame.joined l).length c3) rfl) ?_
          refine op rfl (r_len_slice rfl Try.underlying22) ?_
          refine op rfl (r_add' (r := (((Frame.joined l).length + 1 : Nat) : Int)) rfl rfl (by rw [wrap_i64 (by omega) (by omega)]; omega)) ?_
          refine op rfl (r_rem' rfl rfl (by omega) hkm) ?_
          refine op rfl (r_assignV (v := .int _ _) rfl) ?_
          refine WL_nil ?_
          refine W_seq ?_
          refine W_region ?_
          refine op rfl (r_assignV (v := .int _ _) rfl) ?_
          refine WL_nil ?_
          refine W_seq ?_
          refine W_region ?_
          refine op rfl (r_assignV (v := .int _ _) rfl) ?_
          refine WL_nil ?_
          refine W_cut [12, 13, 14, 64, 65, 66, 67, 68, 69, 70, 71, 72, 73, 74, 75, 76, 77, 78, 79, 80, 81, 82, 83, 84, 85, 86, 87, 88, 89, 90, 91] (fun g w' => ∃ i : Nat, g 12 = .int .i64 i ∧ g 13 = .int .i64 (Frame.joined (l.take i)).length ∧ i ≤ l.length ∧ (Frame.joined (l.take i)).length ≤ k ∧ (∀ hil : i < l.length, k < (Frame.joined (l.take i)).length + 8 + l[i].length) ∧ w5 = w') ?_ ?_
          · refine W_seq ?_
            refine W_region ?_
            refine op rfl (r_assignV (v := .int _ _) rfl) ?_
            refine WL_nil ?_
            refine W_block ?_
            refine W_loop [12, 13, 14, 64, 65, 66, 67, 68, 69, 70, 71, 72, 73, 74, 75, 76, 77, 78, 79, 80, 81, 82, 83, 84, 85, 86, 87, 88, 89, 90, 91] (fun j g w' => ∃ i : Nat, g 14 = .int .i64 i ∧ g 12 = .int .i64 i ∧ g 13 = .int .i64 (Frame.joined (l.take i)).length ∧ i ≤ l.length ∧ j = l.length - i ∧ (Frame.joined (l.take i)).length ≤ k ∧ w5 = w') (l.length) ?_ ?_
            · exact ⟨0, rfl, rfl, rfl, by omega, rfl, by simp [Frame.joined], rfl⟩
            intro k g w' hI
            obtain ⟨i, h14, h12, h13, hi, rfl, hek, rfl⟩ := hI
            refine W_set (i := 14) h14 ?_
            refine W_set (i := 12) h12 ?_
            refine W_set (i := 13) h13 ?_
            refine W_seq ?_
            refine W_seq ?_
            refine W_region ?_
            refine op rfl (r_moveV (v := .int _ _) rfl) ?_
            refine op rfl (r_moveV (v := .slice _ _ _) rfl) ?_
            refine op rfl (r_len_slice rfl Try.underlying26) ?_
            refine op rfl (r_lss rfl rfl) ?_
            refine op_split rfl (r_moveV (v := .bool (decide _)) rfl) (fun hg68 => ?_) (fun hg68 => ?_)
            · have hil : i < l.length := by omega
              obtain ⟨b1, o1, Ai, ci, hAe, _, hc, hci, hcm, hr⟩ := (hA.ext (X4.trans E5)).cellS hil
              have hlx := hal _ (List.getElem_mem hil)
              refine opG_yes rfl rfl rfl rfl rfl (r_moveV (v := .int _ _) rfl) ?_
              refine opG_yes rfl rfl rfl rfl rfl (r_add' (r := (((Frame.joined (l.take i)).length + 8 : Nat) : Int)) rfl rfl (by rw [wrap_i64 (by omega) (by omega)]; omega)) ?_
              refine opG_yes rfl rfl rfl rfl rfl (r_moveV (v := .slice _ _ _) rfl) ?_
              refine opG_yes rfl rfl rfl rfl rfl (r_moveV (v := .int _ _) rfl) ?_
              refine opG_yes rfl rfl rfl rfl rfl (r_indexAddr1 rfl rfl (by assumption) Try.underlying26 Try.sz22 (by omega) (by omega)) ?_
              refine opG_yes rfl rfl rfl rfl rfl (r_load rfl Try.underlying22 rfl (by assumption)) ?_
              refine opG_yes rfl rfl rfl rfl rfl (r_len_slice rfl Try.underlying22) ?_
              refine opG_yes rfl rfl rfl rfl rfl (r_add' (r := (((Frame.joined (l.take i)).length + 8 + l[i].length : Nat) : Int)) rfl rfl (by rw [wrap_i64 (by omega) (by omega)]; omega)) ?_
              refine opG_yes rfl rfl rfl rfl rfl (r_moveV (v := .int _ _) rfl) ?_
              refine opG_yes rfl rfl rfl rfl rfl (r_leq rfl rfl) ?_
              refine op rfl (r_pickTV (v := .bool _) rfl rfl) ?_
              refine WL_nil ?_
              refine W_ifp rfl (fun ht79 => ?_) (fun ht79 => ?_)
              · refine W_skip ?_
                refine W_seq ?_
                refine W_block ?_
                refine W_seq ?_
                refine W_region ?_
                refine op rfl (r_moveV (v := .int _ _) rfl) ?_
                refine op rfl (r_add' (r := (((Frame.joined (l.take i)).length + 8 : Nat) : Int)) rfl rfl (by rw [wrap_i64 (by omega) (by omega)]; omega)) ?_
                refine op rfl (r_moveV (v := .slice _ _ _) rfl) ?_
                refine op rfl (r_moveV (v := .int _ _) rfl) ?_
                refine op rfl (r_indexAddr1 rfl rfl (by assumption) Try.underlying26 Try.sz22 (by omega) (by omega)) ?_
                refine op rfl (r_load rfl Try.underlying22 rfl (by assumption)) ?_
                refine op rfl (r_len_slice rfl Try.underlying22) ?_
                refine op rfl (r_add' (r := (((Frame.joined (l.take i)).length + (8 + l[i].length) : Nat) : Int)) rfl rfl (by rw [wrap_i64 (by omega) (by omega)]; omega)) ?_
                refine op rfl (r_assignV (v := .int _ _) rfl) ?_
                refine WL_nil ?_
                refine W_region ?_
                refine op rfl (r_moveV (v := .int _ _) rfl) ?_
                refine op rfl (r_add' rfl rfl (wrap_i64 (by omega) (by omega))) ?_
                refine op rfl (r_assignV (v := .int _ _) rfl) ?_
                refine WL_nil ?_
                refine W_region ?_
                refine op rfl (r_moveV (v := .int _ _) rfl) ?_
                refine op rfl (r_add' rfl rfl (wrap_i64 (by omega) (by omega))) ?_
                refine op rfl (r_assignV (v := .int _ _) rfl) ?_
                refine WL_nil ?_
                refine ⟨?_, by repeat (first | exact Out.refl _ _ | exact Out.mix | refine Out.put rfl ?_ | refine Out.mixin rfl ?_)⟩
                exact ⟨l.length - (i + 1), by omega, i + 1, rfl, rfl, by rw [List.take_succ_eq_append_getElem hil, Frame.joined_snoc, List.length_append, Frame.frame_length]; rfl, by omega, rfl, by rw [List.take_succ_eq_append_getElem hil, Frame.joined_snoc, List.length_append, Frame.frame_length]; omega, rfl⟩
              · refine W_exit (blk_hit ?_)
                refine ⟨?_, by repeat (first | exact Out.refl _ _ | exact Out.mix | refine Out.put rfl ?_ | refine Out.mixin rfl ?_)⟩
                first | exact ⟨i, rfl, rfl, hi, hek, fun hil => by omega, rfl⟩ | exact ⟨i, rfl, rfl, hi, hek, fun hil => absurd (by exact_mod_cast hil) hg68, rfl⟩
            · refine opG_no rfl rfl rfl rfl rfl ?_
              refine opG_no rfl rfl rfl rfl rfl ?_
              refine opG_no rfl rfl rfl rfl rfl ?_
              refine opG_no rfl rfl rfl rfl rfl ?_
              refine opG_no rfl rfl rfl rfl rfl ?_
              refine opG_no rfl rfl rfl rfl rfl ?_
              refine opG_no rfl rfl rfl rfl rfl ?_
              refine opG_no rfl rfl rfl rfl rfl ?_
              refine opG_no rfl rfl rfl rfl rfl ?_
              refine opG_no rfl rfl rfl rfl rfl ?_
              refine op rfl (r_pickFV (v := .bool _) rfl rfl) ?_
              refine WL_nil ?_
              refine W_else rfl ?_
              refine W_exit (blk_hit ?_)
              refine ⟨?_, by repeat (first | exact Out.refl _ _ | exact Out.mix | refine Out.put rfl ?_ | refine Out.mixin rfl ?_)⟩
              first | exact ⟨i, rfl, rfl, hi, hek, fun hil => by omega, rfl⟩ | exact ⟨i, rfl, rfl, hi, hek, fun hil => absurd (by exact_mod_cast hil) hg68, rfl⟩
          rintro gblock0 w' hJ
          obtain ⟨i, h12, h13, hi, hek, hnx, rfl⟩ := hJ
          have hac := alls_cut hal hi hek hnx
          have htl : (l.take i).length = i := by simp; omega
          have hJk : ((Frame.joined l).take k).length = k := by simp; omega
          have hall2 := all_spec A3 c3 ((Frame.joined l).take k) w5 (by omega) (by omega) ((hR3.ext (E4.trans E5)).take k)
          rw [hJk, hac] at hall2
          have X5 := X4.trans E5
          refine W_set (i := 12) h12 ?_
          refine W_set (i := 13) h13 ?_
          refine W_seq ?_
          refine W_region ?_
          refine op rfl (r_moveV (v := .slice A3 (Frame.joined l).length c3) rfl) ?_
          refine op rfl (r_moveV (v := .int _ _) rfl) ?_
          refine op rfl (r_sliceHi (j := k) rfl rfl Try.underlying22 Try.sz5 (by omega)) ?_
          refine opCv rfl (r_call Try.func11 Try.nm11 rfl) (hall2) ?_
          rintro v w15 ⟨u, rfl, E15, F15, hF15, O15⟩
          obtain ⟨A15, c15, rfl, hc15, hR15⟩ := O15.old hF15
          have X15 := X5.trans E15
          have hR3' := hR3.ext ((E4.trans E5).trans E15)
          refine op rfl (r_moveV (v := .tuple #[.slice A15 (l.take i).length c15, .int .i64 (Frame.joined (l.take i)).length]) rfl) ?_
          refine op rfl (r_extract (vs := [.slice A15 (l.take i).length c15, .int .i64 (Frame.joined (l.take i)).length]) rfl rfl) ?_
          refine op rfl (r_extract (vs := [.slice A15 (l.take i).length c15, .int .i64 (Frame.joined (l.take i)).length]) rfl rfl) ?_
          refine op rfl (r_assignV (v := .slice A15 (l.take i).length c15) rfl) ?_
          refine op rfl (r_assignV (v := .int .i64 (Frame.joined (l.take i)).length) rfl) ?_
          refine WL_nil ?_
          refine W_seq ?_
          refine W_region ?_
          refine op rfl (r_assignV (v := .slice _ _ _) rfl) ?_
          refine WL_nil ?_
          refine W_seq ?_
          refine W_region ?_
          refine op rfl (r_moveV (v := .slice _ _ _) rfl) ?_
          refine op rfl (r_moveV (v := .slice A3 (Frame.joined l).length c3) rfl) ?_
          refine op_app flat_byte rfl rfl rfl Try.underlying22 Try.sz5 Try.by5 Try.zero5 rfl (Ext.refl _) (Own.nil) (hR3') (by simp; omega) (by simp; omega) ?_
          intro v17_2 w17_2 O17_2 X17_2 G17_2
          refine op rfl (r_assignV (v := v17_2) rfl) ?_
          refine WL_nil ?_
          refine W_seq ?_
          refine W_region ?_
          refine op rfl (r_moveV (v := v17_2) rfl) ?_
          refine op rfl (r_moveV (v := .slice _ _ _) rfl) ?_
          refine op_app (v := v17_2) flat_byte rfl rfl rfl Try.underlying22 Try.sz5 Try.by5 Try.zero5 rfl (X17_2) (O17_2) (hT.ext (X15.trans X17_2)) (by simp; omega) (by simp; omega) ?_
          intro v18_2 w18_2 O18_2 X18_2 G18_2
          have hmore : [] ++ Frame.joined l ++ t = Frame.joined l ++ t := by simp
          rw [hmore] at O18_2
          obtain ⟨A18, c18, rfl, hc18, hR18⟩ := own_frow O18_2
          refine op rfl (r_assignV (v := .slice A18 (Frame.joined l ++ t).length c18) rfl) ?_
          refine WL_nil ?_
          refine W_seq ?_
          refine W_region ?_
          refine op rfl (r_moveV (v := .slice A18 (Frame.joined l ++ t).length c18) rfl) ?_
          have hall3 := all_spec A18 c18 (Frame.joined l ++ t) w18_2 hc18 (by rw [List.length_append]; omega) hR18
          rw [alls_tail hal (by omega)] at hall3
          refine opCv rfl (r_call Try.func11 Try.nm11 rfl) (hall3) ?_
          rintro v w19 ⟨u, rfl, E19, F19, hF19, O19⟩
          obtain ⟨A19, c19, rfl, hc19, hR19⟩ := O19.old hF19
          have X19 := (X15.trans X18_2).trans E19
          have hR15' : Ty.byte.slice.Row w19 (old w19) A15 (l.take i) := hR15.ext (X18_2.trans E19)
          refine op rfl (r_moveV (v := .tuple #[.slice A19 l.length c19, .int .i64 (Frame.joined l).length]) rfl) ?_
          refine op rfl (r_extract (vs := [.slice A19 l.length c19, .int .i64 (Frame.joined l).length]) rfl rfl) ?_
          refine op rfl (r_extract (vs := [.slice A19 l.length c19, .int .i64 (Frame.joined l).length]) rfl rfl) ?_
          refine op rfl (r_assignV (v := .slice A19 l.length c19) rfl) ?_
          refine op rfl (r_assignV (v := .int .i64 (Frame.joined l).length) rfl) ?_
          refine WL_nil ?_
          refine W_seq ?_
          refine W_region ?_
          refine op rfl (r_moveV (v := .int .i64 (Frame.joined (l.take i)).length) rfl) ?_
          refine op rfl (r_moveV (v := .int _ _) rfl) ?_
          refine op rfl (r_eql rfl rfl) ?_
          refine op_true rfl (r_moveV (v := .bool (decide _)) rfl) (rfl) ?_
          refine opG_yes rfl rfl rfl rfl rfl (r_moveV (v := .slice A15 (l.take i).length c15) rfl) ?_
          refine opG_yes rfl rfl rfl rfl rfl (r_moveV (v := .slice _ _ _) rfl) ?_
          refine opG_yes rfl rfl rfl rfl rfl (r_moveV (v := .int _ _) rfl) ?_
          refine opG_yes rfl rfl rfl rfl rfl (r_sliceHi (j := (l.take i).length) rfl (by rw [htl]; rfl) Try.underlying26 Try.sz22 (by omega)) ?_
          have hsl := sameLists_spec A15 c15 (l.take i) A c (l.take i) w19 (bigs _ (by omega)) hR15' ((hA.ext X19).take i)
          refine opGCv_yes rfl rfl rfl rfl rfl (r_call Try.func14 Try.nm14 rfl) (hsl) ?_
          rintro v w20 ⟨rfl, E20⟩
          refine op rfl (r_pickTV (v := .bool _) rfl rfl) ?_
          refine op_true rfl (r_moveV (v := .bool (decide _)) rfl) (rfl) ?_
          refine opG_yes rfl rfl rfl rfl rfl (r_moveV (v := .int .i64 (Frame.joined l).length) rfl) ?_
          refine opG_yes rfl rfl rfl rfl rfl (r_moveV (v := .slice A3 (Frame.joined l).length c3) rfl) ?_
          refine opG_yes rfl rfl rfl rfl rfl (r_len_slice rfl Try.underlying22) ?_
          refine opG_yes rfl rfl rfl rfl rfl (r_eql rfl rfl) ?_
          refine op rfl (r_pickTV (v := .bool _) rfl rfl) ?_
          refine op_true rfl (r_moveV (v := .bool (decide _)) rfl) (rfl) ?_
          refine opG_yes rfl rfl rfl rfl rfl (r_moveV (v := .slice A19 l.length c19) rfl) ?_
          refine opG_yes rfl rfl rfl rfl rfl (r_moveV (v := .slice _ _ _) rfl) ?_
          refine opGCv_yes rfl rfl rfl rfl rfl (r_call Try.func14 Try.nm14 rfl) (sameLists_spec A19 c19 l A c l w20 hlb (hR19.ext E20) (hA.ext (X19.trans E20))) ?_
          rintro v w21 ⟨rfl, E21⟩
          refine op rfl (r_pickTV (v := .bool _) rfl rfl) ?_
          refine op_true rfl (r_moveV (v := .bool (decide _)) rfl) (rfl) ?_
          refine opGCv_yes rfl rfl rfl rfl rfl (r_call Try.func8 Try.nm8 rfl) (known_spec _) ?_
          rintro v w22 ⟨rfl, E22⟩
          refine op rfl (r_pickTV (v := .bool _) rfl rfl) ?_
          refine op rfl (r_assignV (v := .bool _) rfl) ?_
          refine WL_nil ?_
          refine W_ret (finX_ret ?_)
          refine fin1 ?_
          exact ⟨_, rfl, rfl, ((X19.trans E20).trans E21).trans E22⟩
end Go.Proofs.Ytgclnpafkjfmhaa
