/-
  The walks of the reference: a text as a word.
-/
import Derived.Test.YtafcaigjijajnaaDoorFacts
import Derived.Test.YtafcaigjijajnaaDoorRuleF
namespace Go.Proofs.YtafcaigjijajnaaDoor
open Go Go.Eng Go.RowKit Go.Proofs
set_option linter.unusedVariables false
set_option linter.unusedSimpArgs false
set_option maxHeartbeats 1000000
set_option maxRecDepth 20000

theorem quo1_yes {c : UInt8} (h : quoC c) : quo1 c = [c] := by unfold quo1; rw [if_pos h]
theorem quo1_no {c : UInt8} (h : ¬ quoC c) : quo1 c = [37, hexD (c.toNat / 16), hexD (c.toNat % 16)] := by unfold quo1; rw [if_neg h]
theorem one_at {s : List UInt8} {i : Nat} (h : i < s.length) : (s.drop i).take (i + 1 - i) = [s[i]] := by
  rw [List.drop_eq_getElem_cons h, show i + 1 - i = 1 by omega]; rfl
theorem hex_at' (n : Nat) (h : n < 16) : (hexS.drop n).take (n + 1 - n) = [hexD n] := by rw [show n + 1 - n = 1 by omega]; exact hex_at n h
theorem refQuote_spec (s : List UInt8) (w : World) (hs : s.length ≤ 1099511627776) :
    Calls Tryd.prog 18 #[.string (str s)] w (fun en w' => ∃ v, en = .returned v ∧ v = .string (str (quoteB s)) ∧ Ext w w') := by
  refine calls' (n := 51) (rs := #[.tmp 2]) (l := [.string (str s)]) Tryd.func18 rfl rfl rfl rfl rfl ?_
  have hX := Ext.refl w
  refine W_seq ?_
  refine W_region ?_
  refine op rfl (r_assignV (v := .string _) rfl) ?_
  refine WL_nil ?_
  refine W_seq ?_
  refine W_seq ?_
  refine W_region ?_
  refine op rfl (r_moveV (v := .string _) rfl) ?_
  refine op rfl (rt_eql rfl rfl) ?_
  refine WL_nil ?_
  refine W_ifp rfl (fun ht7 => ?_) (fun ht7 => ?_)
  · refine W_seq ?_
    refine W_region ?_
    refine op rfl (r_assignV (v := .string _) rfl) ?_
    refine WL_nil ?_
    refine W_ret (finX_ret ?_)
    refine fin1 ?_
    first
      | exact ⟨_, rfl, by unfold quoteB; rw [if_pos (by assumption)]; rfl, hX⟩
      | (have hi' : i = s.length := by omega
         exact ⟨_, rfl, by unfold quoteB; rw [if_neg (by assumption), hi', List.take_length]; rfl, hX⟩)
  · refine W_skip ?_
    refine W_seq ?_
    refine W_region ?_
    refine op rfl (r_assignV (v := .string _) rfl) ?_
    refine WL_nil ?_
    refine W_seq ?_
    refine W_seq ?_
    refine W_region ?_
    refine op rfl (r_assignV (v := .int _ _) rfl) ?_
    refine WL_nil ?_
    refine W_block ?_
    refine W_loop [3, 4, 5, 8, 9, 10, 11, 12, 13, 14, 15, 16, 17, 18, 19, 20, 21, 22, 23, 24, 25, 26, 27, 28, 29, 30, 31, 32, 33, 34, 35, 36, 37, 38, 39, 40, 41, 42, 43, 44, 45, 46, 47, 48, 49] (fun q e' w' => ∃ i : Nat, q = s.length - i ∧ i ≤ s.length ∧ e' 4 = .int .i64 i ∧ e' 3 = .string (str ((s.take i).flatMap quo1)) ∧ Ext w w') (s.length) ?_ ?_
    · exact ⟨0, by omega, by omega, rfl, rfl, hX⟩
    intro k g w' hI
    obtain ⟨i, hq, hi, h4, h3, hX'⟩ := hI
    clear hX
    have hX := hX'
    have hfl := flat_len (s.take i)
    have htl : (s.take i).length ≤ s.length := by rw [List.length_take]; omega
    refine W_set (i := 4) h4 ?_
    refine W_set (i := 3) h3 ?_
    refine W_seq ?_
    refine W_seq ?_
    refine W_region ?_
    refine op rfl (r_moveV (v := .int _ _) rfl) ?_
    refine op rfl (r_moveV (v := .string _) rfl) ?_
    refine op rfl (rt_len rfl Tryd.underlying9) ?_
    refine op rfl (r_lss rfl rfl) ?_
    refine WL_nil ?_
    refine W_ifp rfl (fun ht11 => ?_) (fun ht11 => ?_)
    · have hlt : i < s.length := by omega
      have hb256 : s[i].toNat < 256 := s[i].toNat_lt
      refine W_skip ?_
      refine W_seq ?_
      refine W_block ?_
      refine W_seq ?_
      refine W_region ?_
      refine op rfl (r_moveV (v := .string _) rfl) ?_
      refine op rfl (r_moveV (v := .int _ _) rfl) ?_
      refine op rfl (rt_index (i := i) rfl rfl Tryd.underlying9 hlt) ?_
      refine op rfl (r_assignV (v := .int _ _) rfl) ?_
      refine WL_nil ?_
      refine W_seq ?_
      refine W_region ?_
      refine op rfl (r_moveV (v := .int _ _) rfl) ?_
      refine op rfl (r_geq rfl rfl) ?_
      refine op_split rfl (r_moveV (v := .bool (decide _)) rfl) (fun hg19 => ?_) (fun hg19 => ?_)
      · refine opG_yes rfl rfl rfl rfl rfl (r_moveV (v := .int _ _) rfl) ?_
        refine opG_yes rfl rfl rfl rfl rfl (r_leq rfl rfl) ?_
        refine op rfl (r_pickTV (v := .bool _) rfl rfl) ?_
        refine op_split rfl (r_moveV (v := .bool (decide _)) rfl) (fun hg23 => ?_) (fun hg23 => ?_)
        · refine opG_yes rfl rfl rfl rfl rfl (r_moveV (v := .int _ _) rfl) ?_
          refine opG_yes rfl rfl rfl rfl rfl (r_neq rfl rfl) ?_
          refine op rfl (r_pickTV (v := .bool _) rfl rfl) ?_
          refine WL_nil ?_
          refine W_ifp rfl (fun ht26 => ?_) (fun ht26 => ?_)
          · refine W_region ?_
            refine op rfl (r_moveV (v := .string _) rfl) ?_
            refine op rfl (r_moveV (v := .string _) rfl) ?_
            refine op rfl (r_moveV (v := .int _ _) rfl) ?_
            refine op rfl (r_moveV (v := .int _ _) rfl) ?_
            refine op rfl (r_add' (r := ((i + 1 : Nat) : Int)) rfl rfl (by rw [wrap_i64 (by omega) (by omega)]; omega)) ?_
            refine op rfl (rt_sliceLoHi (i := i) (j := i + 1) rfl rfl rfl Tryd.underlying9 (by omega) (by omega)) ?_
            refine op rfl (rt_add rfl rfl (by simp only [List.length_take, List.length_drop]; omega)) ?_
            refine op rfl (r_assignV (v := .string _) rfl) ?_
            refine WL_nil ?_
            refine W_region ?_
            refine op rfl (r_moveV (v := .int _ _) rfl) ?_
            refine op rfl (r_add' (r := ((i + 1 : Nat) : Int)) rfl rfl (by rw [wrap_i64 (by omega) (by omega)]; omega)) ?_
            refine op rfl (r_assignV (v := .int _ _) rfl) ?_
            refine WL_nil ?_
            refine ⟨?_, by repeat (first | with_reducible exact Out.refl _ _ | with_reducible exact Out.mix | refine Out.put rfl ?_ | refine Out.mixin rfl ?_ | exact Out.refl _ _ | exact Out.mix)⟩
            have hb : s[i].toNat < 256 := s[i].toNat_lt
            first
              | (have hqc : quoC s[i] := by unfold quoC; omega
                 exact ⟨s.length - (i + 1), by omega, i + 1, rfl, by omega, rfl, by rw [flat_take hlt, quo1_yes hqc, ← one_at hlt]; rfl, hX⟩)
              | (have hqc : ¬ quoC s[i] := by unfold quoC; omega
                 have hd := hex_at' (s[i].toNat / 16) (by omega)
                 have hm := hex_at' (s[i].toNat % 16) (by omega)
                 exact ⟨s.length - (i + 1), by omega, i + 1, rfl, by omega, rfl, by
                   rw [flat_take hlt, quo1_no hqc]
                   show Value.string (str ((((s.take i).flatMap quo1 ++ [37]) ++ (hexS.drop (s[i].toNat / 16)).take (s[i].toNat / 16 + 1 - s[i].toNat / 16)) ++ (hexS.drop (s[i].toNat % 16)).take (s[i].toNat % 16 + 1 - s[i].toNat % 16))) = _
                   rw [hd, hm]; simp, hX⟩)
          · refine W_drawF (W0 := w) (fun b : Nat => False) Tryd.wd rfl ?_
            intro wd10 hD
            replace hX := hX.trans hD
            have hS : Ext w wd10 ∧ Same (fun b : Nat => False) wd10 wd10 := ⟨hX, fun _ _ => rfl⟩
            refine A_take (i := 0) rfl (by kernel_rfl) (by kernel_rfl) (by kernel_rfl) rfl hS (fun _ hw => r_moveV (v := .string _) rfl) ?_
            refine A_take (i := 1) rfl (by kernel_rfl) (by kernel_rfl) (by kernel_rfl) rfl hS (fun _ hw => rt_add rfl rfl (by simp only [List.length_cons, List.length_nil]; omega)) ?_
            refine A_take (i := 2) rfl (by kernel_rfl) (by kernel_rfl) (by kernel_rfl) rfl hS (fun _ hw => r_moveV (v := .int _ _) rfl) ?_
            refine A_take (i := 3) rfl (by kernel_rfl) (by kernel_rfl) (by kernel_rfl) rfl hS (fun _ hw => r_quo' (m := (s[i].toNat : Int)) (n := 16) (r := ((s[i].toNat / 16 : Nat) : Int)) rfl rfl (by omega) (by rw [Int.tdiv_eq_ediv_of_nonneg (by omega), wrap_u8 (by omega) (by omega)]; omega)) ?_
            refine A_take (i := 4) rfl (by kernel_rfl) (by kernel_rfl) (by kernel_rfl) rfl hS (fun _ hw => r_moveV (v := .int _ _) rfl) ?_
            refine A_take (i := 5) rfl (by kernel_rfl) (by kernel_rfl) (by kernel_rfl) rfl hS (fun _ hw => r_quo' (m := (s[i].toNat : Int)) (n := 16) (r := ((s[i].toNat / 16 : Nat) : Int)) rfl rfl (by omega) (by rw [Int.tdiv_eq_ediv_of_nonneg (by omega), wrap_u8 (by omega) (by omega)]; omega)) ?_
            refine A_take (i := 6) rfl (by kernel_rfl) (by kernel_rfl) (by kernel_rfl) rfl hS (fun _ hw => r_add' (m := ((s[i].toNat / 16 : Nat) : Int)) (n := 1) (r := ((s[i].toNat / 16 + 1 : Nat) : Int)) rfl rfl (by rw [wrap_u8 (by omega) (by omega)]; omega)) ?_
            refine A_take (i := 7) rfl (by kernel_rfl) (by kernel_rfl) (by kernel_rfl) rfl hS (fun _ hw => rt_sliceLoHi (l := hexS) (i := s[i].toNat / 16) (j := s[i].toNat / 16 + 1) rfl rfl rfl Tryd.underlying9 (by omega) (by simp; omega)) ?_
            refine A_take (i := 8) rfl (by kernel_rfl) (by kernel_rfl) (by kernel_rfl) rfl hS (fun _ hw => rt_add rfl rfl (by simp only [List.length_append, List.length_take, List.length_drop, List.length_cons, List.length_nil]; omega)) ?_
            refine A_take (i := 9) rfl (by kernel_rfl) (by kernel_rfl) (by kernel_rfl) rfl hS (fun _ hw => r_moveV (v := .int _ _) rfl) ?_
            refine A_take (i := 10) rfl (by kernel_rfl) (by kernel_rfl) (by kernel_rfl) rfl hS (fun _ hw => r_rem' (m := (s[i].toNat : Int)) (n := 16) (r := ((s[i].toNat % 16 : Nat) : Int)) rfl rfl (by omega) (by rw [Int.tmod_eq_emod_of_nonneg (by omega)]; omega)) ?_
            refine A_take (i := 11) rfl (by kernel_rfl) (by kernel_rfl) (by kernel_rfl) rfl hS (fun _ hw => r_moveV (v := .int _ _) rfl) ?_
            refine A_take (i := 12) rfl (by kernel_rfl) (by kernel_rfl) (by kernel_rfl) rfl hS (fun _ hw => r_rem' (m := (s[i].toNat : Int)) (n := 16) (r := ((s[i].toNat % 16 : Nat) : Int)) rfl rfl (by omega) (by rw [Int.tmod_eq_emod_of_nonneg (by omega)]; omega)) ?_
            refine A_take (i := 13) rfl (by kernel_rfl) (by kernel_rfl) (by kernel_rfl) rfl hS (fun _ hw => r_add' (m := ((s[i].toNat % 16 : Nat) : Int)) (n := 1) (r := ((s[i].toNat % 16 + 1 : Nat) : Int)) rfl rfl (by rw [wrap_u8 (by omega) (by omega)]; omega)) ?_
            refine A_take (i := 14) rfl (by kernel_rfl) (by kernel_rfl) (by kernel_rfl) rfl hS (fun _ hw => rt_sliceLoHi (l := hexS) (i := s[i].toNat % 16) (j := s[i].toNat % 16 + 1) rfl rfl rfl Tryd.underlying9 (by omega) (by simp; omega)) ?_
            refine A_take (i := 15) rfl (by kernel_rfl) (by kernel_rfl) (by kernel_rfl) rfl hS (fun _ hw => rt_add rfl rfl (by simp only [List.length_append, List.length_take, List.length_drop, List.length_cons, List.length_nil]; omega)) ?_
            refine A_take (i := 16) rfl (by kernel_rfl) (by kernel_rfl) (by kernel_rfl) rfl hS (fun _ hw => r_assignV (v := .string _) rfl) ?_
            refine A_done (by kernel_rfl) ?_
            refine W_region ?_
            refine op rfl (r_moveV (v := .int _ _) rfl) ?_
            refine op rfl (r_add' (r := ((i + 1 : Nat) : Int)) rfl rfl (by rw [wrap_i64 (by omega) (by omega)]; omega)) ?_
            refine op rfl (r_assignV (v := .int _ _) rfl) ?_
            refine WL_nil ?_
            refine ⟨?_, by repeat (first | with_reducible exact Out.refl _ _ | with_reducible exact Out.mix | refine Out.put rfl ?_ | refine Out.mixin rfl ?_ | exact Out.refl _ _ | exact Out.mix)⟩
            have hb : s[i].toNat < 256 := s[i].toNat_lt
            first
              | (have hqc : quoC s[i] := by unfold quoC; omega
                 exact ⟨s.length - (i + 1), by omega, i + 1, rfl, by omega, rfl, by rw [flat_take hlt, quo1_yes hqc, ← one_at hlt]; rfl, hX⟩)
              | (have hqc : ¬ quoC s[i] := by unfold quoC; omega
                 have hd := hex_at' (s[i].toNat / 16) (by omega)
                 have hm := hex_at' (s[i].toNat % 16) (by omega)
                 exact ⟨s.length - (i + 1), by omega, i + 1, rfl, by omega, rfl, by
                   rw [flat_take hlt, quo1_no hqc]
                   show Value.string (str ((((s.take i).flatMap quo1 ++ [37]) ++ (hexS.drop (s[i].toNat / 16)).take (s[i].toNat / 16 + 1 - s[i].toNat / 16)) ++ (hexS.drop (s[i].toNat % 16)).take (s[i].toNat % 16 + 1 - s[i].toNat % 16))) = _
                   rw [hd, hm]; simp, hX⟩)
        · refine opG_no rfl rfl rfl rfl rfl ?_
          refine opG_no rfl rfl rfl rfl rfl ?_
          refine op rfl (r_pickFV (v := .bool _) rfl rfl) ?_
          refine WL_nil ?_
          refine W_else rfl ?_
          refine W_drawF (W0 := w) (fun b : Nat => False) Tryd.wd rfl ?_
          intro wd10 hD
          replace hX := hX.trans hD
          have hS : Ext w wd10 ∧ Same (fun b : Nat => False) wd10 wd10 := ⟨hX, fun _ _ => rfl⟩
          refine A_take (i := 0) rfl (by kernel_rfl) (by kernel_rfl) (by kernel_rfl) rfl hS (fun _ hw => r_moveV (v := .string _) rfl) ?_
          refine A_take (i := 1) rfl (by kernel_rfl) (by kernel_rfl) (by kernel_rfl) rfl hS (fun _ hw => rt_add rfl rfl (by simp only [List.length_cons, List.length_nil]; omega)) ?_
          refine A_take (i := 2) rfl (by kernel_rfl) (by kernel_rfl) (by kernel_rfl) rfl hS (fun _ hw => r_moveV (v := .int _ _) rfl) ?_
          refine A_take (i := 3) rfl (by kernel_rfl) (by kernel_rfl) (by kernel_rfl) rfl hS (fun _ hw => r_quo' (m := (s[i].toNat : Int)) (n := 16) (r := ((s[i].toNat / 16 : Nat) : Int)) rfl rfl (by omega) (by rw [Int.tdiv_eq_ediv_of_nonneg (by omega), wrap_u8 (by omega) (by omega)]; omega)) ?_
          refine A_take (i := 4) rfl (by kernel_rfl) (by kernel_rfl) (by kernel_rfl) rfl hS (fun _ hw => r_moveV (v := .int _ _) rfl) ?_
          refine A_take (i := 5) rfl (by kernel_rfl) (by kernel_rfl) (by kernel_rfl) rfl hS (fun _ hw => r_quo' (m := (s[i].toNat : Int)) (n := 16) (r := ((s[i].toNat / 16 : Nat) : Int)) rfl rfl (by omega) (by rw [Int.tdiv_eq_ediv_of_nonneg (by omega), wrap_u8 (by omega) (by omega)]; omega)) ?_
          refine A_take (i := 6) rfl (by kernel_rfl) (by kernel_rfl) (by kernel_rfl) rfl hS (fun _ hw => r_add' (m := ((s[i].toNat / 16 : Nat) : Int)) (n := 1) (r := ((s[i].toNat / 16 + 1 : Nat) : Int)) rfl rfl (by rw [wrap_u8 (by omega) (by omega)]; omega)) ?_
          refine A_take (i := 7) rfl (by kernel_rfl) (by kernel_rfl) (by kernel_rfl) rfl hS (fun _ hw => rt_sliceLoHi (l := hexS) (i := s[i].toNat / 16) (j := s[i].toNat / 16 + 1) rfl rfl rfl Tryd.underlying9 (by omega) (by simp; omega)) ?_
          refine A_take (i := 8) rfl (by kernel_rfl) (by kernel_rfl) (by kernel_rfl) rfl hS (fun _ hw => rt_add rfl rfl (by simp only [List.length_append, List.length_take, List.length_drop, List.length_cons, List.length_nil]; omega)) ?_
          refine A_take (i := 9) rfl (by kernel_rfl) (by kernel_rfl) (by kernel_rfl) rfl hS (fun _ hw => r_moveV (v := .int _ _) rfl) ?_
          refine A_take (i := 10) rfl (by kernel_rfl) (by kernel_rfl) (by kernel_rfl) rfl hS (fun _ hw => r_rem' (m := (s[i].toNat : Int)) (n := 16) (r := ((s[i].toNat % 16 : Nat) : Int)) rfl rfl (by omega) (by rw [Int.tmod_eq_emod_of_nonneg (by omega)]; omega)) ?_
          refine A_take (i := 11) rfl (by kernel_rfl) (by kernel_rfl) (by kernel_rfl) rfl hS (fun _ hw => r_moveV (v := .int _ _) rfl) ?_
          refine A_take (i := 12) rfl (by kernel_rfl) (by kernel_rfl) (by kernel_rfl) rfl hS (fun _ hw => r_rem' (m := (s[i].toNat : Int)) (n := 16) (r := ((s[i].toNat % 16 : Nat) : Int)) rfl rfl (by omega) (by rw [Int.tmod_eq_emod_of_nonneg (by omega)]; omega)) ?_
          refine A_take (i := 13) rfl (by kernel_rfl) (by kernel_rfl) (by kernel_rfl) rfl hS (fun _ hw => r_add' (m := ((s[i].toNat % 16 : Nat) : Int)) (n := 1) (r := ((s[i].toNat % 16 + 1 : Nat) : Int)) rfl rfl (by rw [wrap_u8 (by omega) (by omega)]; omega)) ?_
          refine A_take (i := 14) rfl (by kernel_rfl) (by kernel_rfl) (by kernel_rfl) rfl hS (fun _ hw => rt_sliceLoHi (l := hexS) (i := s[i].toNat % 16) (j := s[i].toNat % 16 + 1) rfl rfl rfl Tryd.underlying9 (by omega) (by simp; omega)) ?_
          refine A_take (i := 15) rfl (by kernel_rfl) (by kernel_rfl) (by kernel_rfl) rfl hS (fun _ hw => rt_add rfl rfl (by simp only [List.length_append, List.length_take, List.length_drop, List.length_cons, List.length_nil]; omega)) ?_
          refine A_take (i := 16) rfl (by kernel_rfl) (by kernel_rfl) (by kernel_rfl) rfl hS (fun _ hw => r_assignV (v := .string _) rfl) ?_
          refine A_done (by kernel_rfl) ?_
          refine W_region ?_
          refine op rfl (r_moveV (v := .int _ _) rfl) ?_
          refine op rfl (r_add' (r := ((i + 1 : Nat) : Int)) rfl rfl (by rw [wrap_i64 (by omega) (by omega)]; omega)) ?_
          refine op rfl (r_assignV (v := .int _ _) rfl) ?_
          refine WL_nil ?_
          refine ⟨?_, by repeat (first | with_reducible exact Out.refl _ _ | with_reducible exact Out.mix | refine Out.put rfl ?_ | refine Out.mixin rfl ?_ | exact Out.refl _ _ | exact Out.mix)⟩
          have hb : s[i].toNat < 256 := s[i].toNat_lt
          first
            | (have hqc : quoC s[i] := by unfold quoC; omega
               exact ⟨s.length - (i + 1), by omega, i + 1, rfl, by omega, rfl, by rw [flat_take hlt, quo1_yes hqc, ← one_at hlt]; rfl, hX⟩)
            | (have hqc : ¬ quoC s[i] := by unfold quoC; omega
               have hd := hex_at' (s[i].toNat / 16) (by omega)
               have hm := hex_at' (s[i].toNat % 16) (by omega)
               exact ⟨s.length - (i + 1), by omega, i + 1, rfl, by omega, rfl, by
                 rw [flat_take hlt, quo1_no hqc]
                 show Value.string (str ((((s.take i).flatMap quo1 ++ [37]) ++ (hexS.drop (s[i].toNat / 16)).take (s[i].toNat / 16 + 1 - s[i].toNat / 16)) ++ (hexS.drop (s[i].toNat % 16)).take (s[i].toNat % 16 + 1 - s[i].toNat % 16))) = _
                 rw [hd, hm]; simp, hX⟩)
      · refine opG_no rfl rfl rfl rfl rfl ?_
        refine opG_no rfl rfl rfl rfl rfl ?_
        refine op rfl (r_pickFV (v := .bool _) rfl rfl) ?_
        refine op rfl (r_moveV (v := .bool _) rfl) ?_
        refine opG_no rfl rfl rfl rfl rfl ?_
        refine opG_no rfl rfl rfl rfl rfl ?_
        refine op rfl (r_pickFV (v := .bool _) rfl rfl) ?_
        refine WL_nil ?_
        refine W_else rfl ?_
        refine W_drawF (W0 := w) (fun b : Nat => False) Tryd.wd rfl ?_
        intro wd10 hD
        replace hX := hX.trans hD
        have hS : Ext w wd10 ∧ Same (fun b : Nat => False) wd10 wd10 := ⟨hX, fun _ _ => rfl⟩
        refine A_take (i := 0) rfl (by kernel_rfl) (by kernel_rfl) (by kernel_rfl) rfl hS (fun _ hw => r_moveV (v := .string _) rfl) ?_
        refine A_take (i := 1) rfl (by kernel_rfl) (by kernel_rfl) (by kernel_rfl) rfl hS (fun _ hw => rt_add rfl rfl (by simp only [List.length_cons, List.length_nil]; omega)) ?_
        refine A_take (i := 2) rfl (by kernel_rfl) (by kernel_rfl) (by kernel_rfl) rfl hS (fun _ hw => r_moveV (v := .int _ _) rfl) ?_
        refine A_take (i := 3) rfl (by kernel_rfl) (by kernel_rfl) (by kernel_rfl) rfl hS (fun _ hw => r_quo' (m := (s[i].toNat : Int)) (n := 16) (r := ((s[i].toNat / 16 : Nat) : Int)) rfl rfl (by omega) (by rw [Int.tdiv_eq_ediv_of_nonneg (by omega), wrap_u8 (by omega) (by omega)]; omega)) ?_
        refine A_take (i := 4) rfl (by kernel_rfl) (by kernel_rfl) (by kernel_rfl) rfl hS (fun _ hw => r_moveV (v := .int _ _) rfl) ?_
        refine A_take (i := 5) rfl (by kernel_rfl) (by kernel_rfl) (by kernel_rfl) rfl hS (fun _ hw => r_quo' (m := (s[i].toNat : Int)) (n := 16) (r := ((s[i].toNat / 16 : Nat) : Int)) rfl rfl (by omega) (by rw [Int.tdiv_eq_ediv_of_nonneg (by omega), wrap_u8 (by omega) (by omega)]; omega)) ?_
        refine A_take (i := 6) rfl (by kernel_rfl) (by kernel_rfl) (by kernel_rfl) rfl hS (fun _ hw => r_add' (m := ((s[i].toNat / 16 : Nat) : Int)) (n := 1) (r := ((s[i].toNat / 16 + 1 : Nat) : Int)) rfl rfl (by rw [wrap_u8 (by omega) (by omega)]; omega)) ?_
        refine A_take (i := 7) rfl (by kernel_rfl) (by kernel_rfl) (by kernel_rfl) rfl hS (fun _ hw => rt_sliceLoHi (l := hexS) (i := s[i].toNat / 16) (j := s[i].toNat / 16 + 1) rfl rfl rfl Tryd.underlying9 (by omega) (by simp; omega)) ?_
        refine A_take (i := 8) rfl (by kernel_rfl) (by kernel_rfl) (by kernel_rfl) rfl hS (fun _ hw => rt_add rfl rfl (by simp only [List.length_append, List.length_take, List.length_drop, List.length_cons, List.length_nil]; omega)) ?_
        refine A_take (i := 9) rfl (by kernel_rfl) (by kernel_rfl) (by kernel_rfl) rfl hS (fun _ hw => r_moveV (v := .int _ _) rfl) ?_
        refine A_take (i := 10) rfl (by kernel_rfl) (by kernel_rfl) (by kernel_rfl) rfl hS (fun _ hw => r_rem' (m := (s[i].toNat : Int)) (n := 16) (r := ((s[i].toNat % 16 : Nat) : Int)) rfl rfl (by omega) (by rw [Int.tmod_eq_emod_of_nonneg (by omega)]; omega)) ?_
        refine A_take (i := 11) rfl (by kernel_rfl) (by kernel_rfl) (by kernel_rfl) rfl hS (fun _ hw => r_moveV (v := .int _ _) rfl) ?_
        refine A_take (i := 12) rfl (by kernel_rfl) (by kernel_rfl) (by kernel_rfl) rfl hS (fun _ hw => r_rem' (m := (s[i].toNat : Int)) (n := 16) (r := ((s[i].toNat % 16 : Nat) : Int)) rfl rfl (by omega) (by rw [Int.tmod_eq_emod_of_nonneg (by omega)]; omega)) ?_
        refine A_take (i := 13) rfl (by kernel_rfl) (by kernel_rfl) (by kernel_rfl) rfl hS (fun _ hw => r_add' (m := ((s[i].toNat % 16 : Nat) : Int)) (n := 1) (r := ((s[i].toNat % 16 + 1 : Nat) : Int)) rfl rfl (by rw [wrap_u8 (by omega) (by omega)]; omega)) ?_
        refine A_take (i := 14) rfl (by kernel_rfl) (by kernel_rfl) (by kernel_rfl) rfl hS (fun _ hw => rt_sliceLoHi (l := hexS) (i := s[i].toNat % 16) (j := s[i].toNat % 16 + 1) rfl rfl rfl Tryd.underlying9 (by omega) (by simp; omega)) ?_
        refine A_take (i := 15) rfl (by kernel_rfl) (by kernel_rfl) (by kernel_rfl) rfl hS (fun _ hw => rt_add rfl rfl (by simp only [List.length_append, List.length_take, List.length_drop, List.length_cons, List.length_nil]; omega)) ?_
        refine A_take (i := 16) rfl (by kernel_rfl) (by kernel_rfl) (by kernel_rfl) rfl hS (fun _ hw => r_assignV (v := .string _) rfl) ?_
        refine A_done (by kernel_rfl) ?_
        refine W_region ?_
        refine op rfl (r_moveV (v := .int _ _) rfl) ?_
        refine op rfl (r_add' (r := ((i + 1 : Nat) : Int)) rfl rfl (by rw [wrap_i64 (by omega) (by omega)]; omega)) ?_
        refine op rfl (r_assignV (v := .int _ _) rfl) ?_
        refine WL_nil ?_
        refine ⟨?_, by repeat (first | with_reducible exact Out.refl _ _ | with_reducible exact Out.mix | refine Out.put rfl ?_ | refine Out.mixin rfl ?_ | exact Out.refl _ _ | exact Out.mix)⟩
        have hb : s[i].toNat < 256 := s[i].toNat_lt
        first
          | (have hqc : quoC s[i] := by unfold quoC; omega
             exact ⟨s.length - (i + 1), by omega, i + 1, rfl, by omega, rfl, by rw [flat_take hlt, quo1_yes hqc, ← one_at hlt]; rfl, hX⟩)
          | (have hqc : ¬ quoC s[i] := by unfold quoC; omega
             have hd := hex_at' (s[i].toNat / 16) (by omega)
             have hm := hex_at' (s[i].toNat % 16) (by omega)
             exact ⟨s.length - (i + 1), by omega, i + 1, rfl, by omega, rfl, by
               rw [flat_take hlt, quo1_no hqc]
               show Value.string (str ((((s.take i).flatMap quo1 ++ [37]) ++ (hexS.drop (s[i].toNat / 16)).take (s[i].toNat / 16 + 1 - s[i].toNat / 16)) ++ (hexS.drop (s[i].toNat % 16)).take (s[i].toNat % 16 + 1 - s[i].toNat % 16))) = _
               rw [hd, hm]; simp, hX⟩)
    · refine W_exit (blk_hit ?_)
      refine W_seq ?_
      refine W_region ?_
      refine op rfl (r_moveV (v := .string _) rfl) ?_
      refine op rfl (r_assignV (v := .string _) rfl) ?_
      refine WL_nil ?_
      refine W_ret (finX_ret ?_)
      refine fin1 ?_
      first
        | exact ⟨_, rfl, by unfold quoteB; rw [if_pos (by assumption)]; rfl, hX⟩
        | (have hi' : i = s.length := by omega
           exact ⟨_, rfl, by unfold quoteB; rw [if_neg (by assumption), hi', List.take_length]; rfl, hX⟩)
end Go.Proofs.YtafcaigjijajnaaDoor
