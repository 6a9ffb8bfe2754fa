/-
  The walks of the reference: a word as a text.
-/
import Derived.Test.YtafcaigjijajnaaDoorFacts
import Derived.Test.YtafcaigjijajnaaDoorRuleG
namespace Go.Proofs.YtafcaigjijajnaaDoor
open Go Go.Eng Go.RowKit Go.Proofs
set_option linter.unusedVariables false
set_option linter.unusedSimpArgs false
set_option maxHeartbeats 1000000
set_option maxRecDepth 20000

theorem dig_yes {c : UInt8} (h : digV c ≥ 0) : ∃ n : Nat, hexV c = some n ∧ digV c = n ∧ n < 16 := by
  unfold digV at h ⊢
  cases hv : hexV c with
  | none => rw [hv] at h; exact absurd h (by decide)
  | some n => exact ⟨n, rfl, rfl, (V_hexS c n hv).1⟩
theorem dig_no {c : UInt8} (h : ¬ digV c ≥ 0) : hexV c = none := by
  unfold digV at h
  cases hv : hexV c with
  | none => rfl
  | some n => rw [hv] at h; exact absurd (Int.natCast_nonneg n) h
theorem decF_hex {s : List UInt8} {i x y : Nat} (h : i + 2 < s.length) (hc : s[i].toNat = 37) (hx : hexV s[i + 1] = some x) (hy : hexV s[i + 2] = some y) : decF (s.drop i) = UInt8.ofNat (16 * x + y) :: decF (s.drop (i + 2 + 1)) := by
  rw [List.drop_eq_getElem_cons (by omega : i < s.length), List.drop_eq_getElem_cons (by omega : i + 1 < s.length), List.drop_eq_getElem_cons (by omega : i + 1 + 1 < s.length)]
  simp only [decF, hc, if_true, hx, hy]
theorem decF_one {s : List UInt8} {i : Nat} (h : i < s.length) (hn : ∀ h2 : i + 2 < s.length, s[i].toNat = 37 → hexV s[i + 1] = none ∨ hexV s[i + 2] = none) : decF (s.drop i) = s[i] :: decF (s.drop (i + 1)) := by
  rw [List.drop_eq_getElem_cons h]
  by_cases h1 : i + 1 < s.length
  · rw [List.drop_eq_getElem_cons h1]
    by_cases h2 : i + 1 + 1 < s.length
    · rw [List.drop_eq_getElem_cons h2]
      by_cases hc : s[i].toNat = 37
      · rcases hn h2 hc with k | k
        · simp only [decF, hc, if_true, k]
        · have k' : hexV s[i + 1 + 1] = none := k
          cases hx : hexV s[i + 1] with
          | none => simp only [decF, hc, if_true, hx]
          | some x => simp only [decF, hc, if_true, hx, k']
      · simp only [decF, hc, if_false]
    · rw [List.drop_of_length_le (by omega : s.length ≤ i + 1 + 1)]
      simp only [decF]
  · rw [List.drop_of_length_le (by omega : s.length ≤ i + 1)]
    simp only [decF]
theorem refUnquote_spec (s : List UInt8) (w : World) (hs : s.length ≤ 1099511627776) :
    Calls Tryd.prog 15 #[.string (str s)] w (fun en w' => ∃ v, en = .returned v ∧ v = .tuple #[.string (str ((unqF s).getD [])), .bool (decide ((unqF s).isSome = true))] ∧ Ext w w') := by
  refine calls' (n := 69) (rs := #[.tmp 2, .tmp 3]) (l := [.string (str s)]) Tryd.func15 rfl rfl rfl rfl rfl ?_
  have hX := Ext.refl w
  refine W_seq ?_
  refine W_region ?_
  refine op rfl (r_assignV (v := .string _) rfl) ?_
  refine op rfl (r_assignV (v := .bool _) rfl) ?_
  refine WL_nil ?_
  refine W_seq ?_
  refine W_seq ?_
  refine W_region ?_
  refine op rfl (r_moveV (v := .string _) rfl) ?_
  refine op rfl (rt_eql rfl rfl) ?_
  refine WL_nil ?_
  refine W_ifp rfl (fun ht8 => ?_) (fun ht8 => ?_)
  · refine W_seq ?_
    refine W_region ?_
    refine op rfl (r_assignV (v := .string _) rfl) ?_
    refine op rfl (r_assignV (v := .bool _) rfl) ?_
    refine WL_nil ?_
    refine W_ret (finX_ret ?_)
    refine fin2 ?_
    first
      | (have hu : unqF s = some [] := by unfold unqF; rw [if_pos (by assumption)]
         exact ⟨_, rfl, by rw [hu]; rfl, hX⟩)
      | (have hu : unqF s = none := by unfold unqF; rw [if_neg (by assumption), hdec', if_neg (by assumption)]
         exact ⟨_, rfl, by rw [hu]; rfl, hX'.trans hX⟩)
      | (have hu : unqF s = some out := by unfold unqF; rw [if_neg (by assumption), hdec', if_pos (Classical.not_not.1 (by assumption))]
         exact ⟨_, rfl, by rw [hu]; rfl, hX'.trans hX⟩)
  · refine W_skip ?_
    refine W_seq ?_
    refine W_region ?_
    refine op rfl (r_assignV (v := .slice _ _ _) rfl) ?_
    refine WL_nil ?_
    refine W_seq ?_
    refine W_seq ?_
    refine W_region ?_
    refine op rfl (r_assignV (v := .int _ _) rfl) ?_
    refine WL_nil ?_
    refine W_block ?_
    refine W_loop [4, 5, 6, 9, 10, 11, 12, 13, 14, 15, 16, 17, 18, 19, 20, 21, 22, 23, 24, 25, 26, 27, 28, 29, 30, 31, 32, 33, 34, 35, 36, 37, 38, 39, 40, 41, 42, 43, 44, 45, 46, 47, 48, 49, 50, 51, 52, 53, 54, 55, 56, 57, 58, 59, 60, 61] (fun q e' w' => ∃ (i : Nat) (v : Value) (out : List UInt8), q = s.length - i ∧ i ≤ s.length ∧ e' 5 = .int .i64 i ∧ e' 4 = v ∧ Eng.Own Ty.byte w' nobody w.heap.size 5 v out ∧ decF s = out ++ decF (s.drop i) ∧ out.length ≤ i ∧ Ext w w') (s.length) ?_ ?_
    · exact ⟨0, _, [], by omega, by omega, rfl, rfl, .nil, rfl, Nat.le_refl _, hX⟩
    intro k g w' hI
    obtain ⟨i, v, out, hq, hi, h5, h4, hO, hdec, hol, hX'⟩ := hI
    clear hX
    have hX := Ext.refl w'
    obtain ⟨w0i, hw0i⟩ : ∃ y, y = w' := ⟨_, rfl⟩
    subst hw0i
    refine W_set (i := 5) h5 ?_
    refine W_set (i := 4) h4 ?_
    refine W_seq ?_
    refine W_seq ?_
    refine W_region ?_
    refine op rfl (r_moveV (v := .int _ _) rfl) ?_
    refine op rfl (r_moveV (v := .string _) rfl) ?_
    refine op rfl (rt_len rfl Tryd.underlying9) ?_
    refine op rfl (r_lss rfl rfl) ?_
    refine WL_nil ?_
    refine W_ifp rfl (fun ht12 => ?_) (fun ht12 => ?_)
    · have hlt : i < s.length := by omega
      refine W_skip ?_
      refine W_seq ?_
      refine W_block ?_
      refine W_seq ?_
      refine W_region ?_
      refine op rfl (r_moveV (v := .string _) rfl) ?_
      refine op rfl (r_moveV (v := .int _ _) rfl) ?_
      refine op rfl (rt_index (i := i) rfl rfl Tryd.underlying9 hlt) ?_
      refine op rfl (r_assignV (v := .int _ _) rfl) ?_
      refine WL_nil ?_
      refine W_cut [5, 6, 18, 19, 20, 21, 22, 23, 24, 25, 26, 27, 28, 29, 30, 31, 32, 33, 34, 35, 36, 37, 38, 39, 40, 41, 42, 43, 44, 45, 46, 47, 48, 49, 50, 51, 52, 53, 54, 55, 56, 57] (fun e' w' => ∃ (c' : UInt8) (j : Nat), e' 6 = .int .u8 (c'.toNat : Int) ∧ e' 5 = .int .i64 j ∧ j < s.length ∧ i ≤ j ∧ decF (s.drop i) = c' :: decF (s.drop (j + 1)) ∧ Ext w0i w') ?_ ?_
      · refine W_seq ?_
        refine W_region ?_
        refine op rfl (r_moveV (v := .int _ _) rfl) ?_
        refine op rfl (r_eql rfl rfl) ?_
        refine op_split rfl (r_moveV (v := .bool (decide _)) rfl) (fun hg20 => ?_) (fun hg20 => ?_)
        · refine opG_yes rfl rfl rfl rfl rfl (r_moveV (v := .int _ _) rfl) ?_
          refine opG_yes rfl rfl rfl rfl rfl (r_add' (r := ((i + 2 : Nat) : Int)) rfl rfl (by rw [wrap_i64 (by omega) (by omega)]; omega)) ?_
          refine opG_yes rfl rfl rfl rfl rfl (r_moveV (v := .string _) rfl) ?_
          refine opG_yes rfl rfl rfl rfl rfl (rt_len rfl Tryd.underlying9) ?_
          refine opG_yes rfl rfl rfl rfl rfl (r_lss rfl rfl) ?_
          refine op rfl (r_pickTV (v := .bool _) rfl rfl) ?_
          refine op_split rfl (r_moveV (v := .bool (decide _)) rfl) (fun hg27 => ?_) (fun hg27 => ?_)
          · refine opG_yes rfl rfl rfl rfl rfl (r_moveV (v := .string _) rfl) ?_
            refine opG_yes rfl rfl rfl rfl rfl (r_moveV (v := .int _ _) rfl) ?_
            refine opG_yes rfl rfl rfl rfl rfl (r_add' (r := ((i + 1 : Nat) : Int)) rfl rfl (by rw [wrap_i64 (by omega) (by omega)]; omega)) ?_
            refine opG_yes rfl rfl rfl rfl rfl (rt_index (i := i + 1) rfl rfl Tryd.underlying9 (by omega)) ?_
            refine opGCv_yes rfl rfl rfl rfl rfl (r_call Tryd.func33 Tryd.nm33 rfl) (digit_spec _ _) ?_
            rintro v8 w8 ⟨rfl, hE⟩
            replace hX := hX.trans hE
            refine opG_yes rfl rfl rfl rfl rfl (r_geq rfl rfl) ?_
            refine op rfl (r_pickTV (v := .bool _) rfl rfl) ?_
            refine op_split rfl (r_moveV (v := .bool (decide _)) rfl) (fun hg35 => ?_) (fun hg35 => ?_)
            · refine opG_yes rfl rfl rfl rfl rfl (r_moveV (v := .string _) rfl) ?_
              refine opG_yes rfl rfl rfl rfl rfl (r_moveV (v := .int _ _) rfl) ?_
              refine opG_yes rfl rfl rfl rfl rfl (r_add' (r := ((i + 2 : Nat) : Int)) rfl rfl (by rw [wrap_i64 (by omega) (by omega)]; omega)) ?_
              refine opG_yes rfl rfl rfl rfl rfl (rt_index (i := i + 2) rfl rfl Tryd.underlying9 (by omega)) ?_
              refine opGCv_yes rfl rfl rfl rfl rfl (r_call Tryd.func33 Tryd.nm33 rfl) (digit_spec _ _) ?_
              rintro v8b w8b ⟨rfl, hE⟩
              replace hX := hX.trans hE
              refine opG_yes rfl rfl rfl rfl rfl (r_geq rfl rfl) ?_
              refine op rfl (r_pickTV (v := .bool _) rfl rfl) ?_
              refine WL_nil ?_
              refine W_ifp rfl (fun ht42 => ?_) (fun ht42 => ?_)
              · have h2 : i + 2 < s.length := by omega
                obtain ⟨x, hx, hdx, hx16⟩ := dig_yes hg35
                obtain ⟨y, hy, hdy, hy16⟩ := dig_yes ht42
                refine W_seq ?_
                refine W_drawF (W0 := w0i) (fun b : Nat => False) Tryd.wd rfl ?_
                intro wd9 hD
                replace hX := hX.trans hD
                have hS : Ext w0i wd9 ∧ Same (fun b : Nat => False) wd9 wd9 := ⟨hX, fun _ _ => rfl⟩
                refine A_take (i := 0) rfl (by kernel_rfl) (by kernel_rfl) (by kernel_rfl) rfl hS (fun _ hw => r_moveV (v := .string _) rfl) ?_
                refine A_take (i := 1) rfl (by kernel_rfl) (by kernel_rfl) (by kernel_rfl) rfl hS (fun _ hw => r_moveV (v := .int _ _) rfl) ?_
                refine A_take (i := 2) rfl (by kernel_rfl) (by kernel_rfl) (by kernel_rfl) rfl hS (fun _ hw => r_add' (m := (i : Int)) (n := 1) (r := ((i + 1 : Nat) : Int)) rfl rfl (by rw [wrap_i64 (by omega) (by omega)]; omega)) ?_
                refine A_take (i := 3) rfl (by kernel_rfl) (by kernel_rfl) (by kernel_rfl) rfl hS (fun _ hw => rt_index (l := s) (i := i + 1) rfl rfl Tryd.underlying9 (by omega)) ?_
                refine A_take (i := 6) rfl (by kernel_rfl) (by kernel_rfl) (by kernel_rfl) rfl hS (fun _ hw => r_moveV (v := .string _) rfl) ?_
                refine A_take (i := 7) rfl (by kernel_rfl) (by kernel_rfl) (by kernel_rfl) rfl hS (fun _ hw => r_moveV (v := .int _ _) rfl) ?_
                refine A_take (i := 8) rfl (by kernel_rfl) (by kernel_rfl) (by kernel_rfl) rfl hS (fun _ hw => r_add' (m := (i : Int)) (n := 2) (r := ((i + 2 : Nat) : Int)) rfl rfl (by rw [wrap_i64 (by omega) (by omega)]; omega)) ?_
                refine A_take (i := 9) rfl (by kernel_rfl) (by kernel_rfl) (by kernel_rfl) rfl hS (fun _ hw => rt_index (l := s) (i := i + 2) rfl rfl Tryd.underlying9 (by omega)) ?_
                refine A_ready1 (i := 4) (by kernel_rfl) ?_
                refine O_call rfl rfl (r_call Tryd.func33 Tryd.nm33 rfl) (digit_spec _ _) ?_
                rintro v9 w9 ⟨rfl, hE⟩
                replace hX := hX.trans hE
                replace hS : Ext w0i w9 ∧ Same (fun b : Nat => False) wd9 w9 := ⟨hX, fun b hb => hb.elim⟩
                refine ⟨hS, ?_⟩
                refine A_take (i := 5) rfl (by kernel_rfl) (by kernel_rfl) (by kernel_rfl) rfl hS (fun _ hw => r_mul' (m := 16) (n := digV s[i + 1]) (r := ((16 * x : Nat) : Int)) rfl rfl (by rw [hdx, wrap_i64 (by omega) (by omega)]; omega)) ?_
                refine A_ready1 (i := 10) (by kernel_rfl) ?_
                refine O_call rfl rfl (r_call Tryd.func33 Tryd.nm33 rfl) (digit_spec _ _) ?_
                rintro v9b w9b ⟨rfl, hE⟩
                replace hX := hX.trans hE
                replace hS : Ext w0i w9b ∧ Same (fun b : Nat => False) wd9 w9b := ⟨hX, fun b hb => hb.elim⟩
                refine ⟨hS, ?_⟩
                refine A_take (i := 11) rfl (by kernel_rfl) (by kernel_rfl) (by kernel_rfl) rfl hS (fun _ hw => r_add' (m := ((16 * x : Nat) : Int)) (n := digV s[i + 2]) (r := ((16 * x + y : Nat) : Int)) rfl rfl (by rw [hdy, wrap_i64 (by omega) (by omega)]; omega)) ?_
                refine A_take (i := 12) rfl (by kernel_rfl) (by kernel_rfl) (by kernel_rfl) rfl hS (fun _ hw => r_conv' (r := ((16 * x + y : Nat) : Int)) rfl Tryd.underlying3 Tryd.underlying5 (wrap_u8 (by omega) (by omega))) ?_
                refine A_take (i := 13) rfl (by kernel_rfl) (by kernel_rfl) (by kernel_rfl) rfl hS (fun _ hw => r_assignV (v := .int _ _) rfl) ?_
                refine A_done (by kernel_rfl) ?_
                refine W_region ?_
                refine op rfl (r_moveV (v := .int _ _) rfl) ?_
                refine op rfl (r_add' (r := ((i + 2 : Nat) : Int)) rfl rfl (by rw [wrap_i64 (by omega) (by omega)]; omega)) ?_
                refine op rfl (r_assignV (v := .int _ _) rfl) ?_
                refine WL_nil ?_
                refine ⟨?_, by repeat (first | with_reducible exact Out.refl _ _ | with_reducible exact Out.mix | refine Out.put rfl ?_ | refine Out.mixin rfl ?_ | exact Out.refl _ _ | exact Out.mix)⟩
                first
                  | exact ⟨UInt8.ofNat (16 * x + y), i + 2, by rw [UInt8.toNat_ofNat', Nat.mod_eq_of_lt (by omega)]; rfl, rfl, h2, by omega, decF_hex h2 (by omega) hx hy, hX⟩
                  | exact ⟨s[i], i, rfl, rfl, hlt, Nat.le_refl _, decF_one hlt (fun k2 k37 => by first | exact Or.inl (dig_no (by assumption)) | exact Or.inr (dig_no (by assumption)) | omega), hX⟩
              · refine W_skip ?_
                refine ⟨?_, by repeat (first | with_reducible exact Out.refl _ _ | with_reducible exact Out.mix | refine Out.put rfl ?_ | refine Out.mixin rfl ?_ | exact Out.refl _ _ | exact Out.mix)⟩
                first
                  | exact ⟨UInt8.ofNat (16 * x + y), i + 2, by rw [UInt8.toNat_ofNat', Nat.mod_eq_of_lt (by omega)]; rfl, rfl, h2, by omega, decF_hex h2 (by omega) hx hy, hX⟩
                  | exact ⟨s[i], i, rfl, rfl, hlt, Nat.le_refl _, decF_one hlt (fun k2 k37 => by first | exact Or.inl (dig_no (by assumption)) | exact Or.inr (dig_no (by assumption)) | omega), hX⟩
            · refine opG_no rfl rfl rfl rfl rfl ?_
              refine opG_no rfl rfl rfl rfl rfl ?_
              refine opG_no rfl rfl rfl rfl rfl ?_
              refine opG_no rfl rfl rfl rfl rfl ?_
              refine opG_no rfl rfl rfl rfl rfl ?_
              refine opG_no rfl rfl rfl rfl rfl ?_
              refine op rfl (r_pickFV (v := .bool _) rfl rfl) ?_
              refine WL_nil ?_
              refine W_else rfl ?_
              refine W_skip ?_
              refine ⟨?_, by repeat (first | with_reducible exact Out.refl _ _ | with_reducible exact Out.mix | refine Out.put rfl ?_ | refine Out.mixin rfl ?_ | exact Out.refl _ _ | exact Out.mix)⟩
              first
                | exact ⟨UInt8.ofNat (16 * x + y), i + 2, by rw [UInt8.toNat_ofNat', Nat.mod_eq_of_lt (by omega)]; rfl, rfl, h2, by omega, decF_hex h2 (by omega) hx hy, hX⟩
                | exact ⟨s[i], i, rfl, rfl, hlt, Nat.le_refl _, decF_one hlt (fun k2 k37 => by first | exact Or.inl (dig_no (by assumption)) | exact Or.inr (dig_no (by assumption)) | omega), hX⟩
          · refine opG_no rfl rfl rfl rfl rfl ?_
            refine opG_no rfl rfl rfl rfl rfl ?_
            refine opG_no rfl rfl rfl rfl rfl ?_
            refine opG_no rfl rfl rfl rfl rfl ?_
            refine opG_no rfl rfl rfl rfl rfl ?_
            refine opG_no rfl rfl rfl rfl rfl ?_
            refine op rfl (r_pickFV (v := .bool _) rfl rfl) ?_
            refine op rfl (r_moveV (v := .bool _) rfl) ?_
            refine opG_no rfl rfl rfl rfl rfl ?_
            refine opG_no rfl rfl rfl rfl rfl ?_
            refine opG_no rfl rfl rfl rfl rfl ?_
            refine opG_no rfl rfl rfl rfl rfl ?_
            refine opG_no rfl rfl rfl rfl rfl ?_
            refine opG_no rfl rfl rfl rfl rfl ?_
            refine op rfl (r_pickFV (v := .bool _) rfl rfl) ?_
            refine WL_nil ?_
            refine W_else rfl ?_
            refine W_skip ?_
            refine ⟨?_, by repeat (first | with_reducible exact Out.refl _ _ | with_reducible exact Out.mix | refine Out.put rfl ?_ | refine Out.mixin rfl ?_ | exact Out.refl _ _ | exact Out.mix)⟩
            first
              | exact ⟨UInt8.ofNat (16 * x + y), i + 2, by rw [UInt8.toNat_ofNat', Nat.mod_eq_of_lt (by omega)]; rfl, rfl, h2, by omega, decF_hex h2 (by omega) hx hy, hX⟩
              | exact ⟨s[i], i, rfl, rfl, hlt, Nat.le_refl _, decF_one hlt (fun k2 k37 => by first | exact Or.inl (dig_no (by assumption)) | exact Or.inr (dig_no (by assumption)) | omega), hX⟩
        · refine opG_no rfl rfl rfl rfl rfl ?_
          refine opG_no rfl rfl rfl rfl rfl ?_
          refine opG_no rfl rfl rfl rfl rfl ?_
          refine opG_no rfl rfl rfl rfl rfl ?_
          refine opG_no rfl rfl rfl rfl rfl ?_
          refine op rfl (r_pickFV (v := .bool _) rfl rfl) ?_
          refine op rfl (r_moveV (v := .bool _) rfl) ?_
          refine opG_no rfl rfl rfl rfl rfl ?_
          refine opG_no rfl rfl rfl rfl rfl ?_
          refine opG_no rfl rfl rfl rfl rfl ?_
          refine opG_no rfl rfl rfl rfl rfl ?_
          refine opG_no rfl rfl rfl rfl rfl ?_
          refine opG_no rfl rfl rfl rfl rfl ?_
          refine op rfl (r_pickFV (v := .bool _) rfl rfl) ?_
          refine op rfl (r_moveV (v := .bool _) rfl) ?_
          refine opG_no rfl rfl rfl rfl rfl ?_
          refine opG_no rfl rfl rfl rfl rfl ?_
          refine opG_no rfl rfl rfl rfl rfl ?_
          refine opG_no rfl rfl rfl rfl rfl ?_
          refine opG_no rfl rfl rfl rfl rfl ?_
          refine opG_no rfl rfl rfl rfl rfl ?_
          refine op rfl (r_pickFV (v := .bool _) rfl rfl) ?_
          refine WL_nil ?_
          refine W_else rfl ?_
          refine W_skip ?_
          refine ⟨?_, by repeat (first | with_reducible exact Out.refl _ _ | with_reducible exact Out.mix | refine Out.put rfl ?_ | refine Out.mixin rfl ?_ | exact Out.refl _ _ | exact Out.mix)⟩
          first
            | exact ⟨UInt8.ofNat (16 * x + y), i + 2, by rw [UInt8.toNat_ofNat', Nat.mod_eq_of_lt (by omega)]; rfl, rfl, h2, by omega, decF_hex h2 (by omega) hx hy, hX⟩
            | exact ⟨s[i], i, rfl, rfl, hlt, Nat.le_refl _, decF_one hlt (fun k2 k37 => by first | exact Or.inl (dig_no (by assumption)) | exact Or.inr (dig_no (by assumption)) | omega), hX⟩
      rintro gift42 w' hJ
      obtain ⟨c', j, h6, h5', hjl, hij, hcj, hX1⟩ := hJ
      clear hX
      obtain ⟨w11, hw11⟩ : ∃ y, y = w' := ⟨_, rfl⟩
      subst hw11
      have hX := hX1
      refine W_set (i := 6) h6 ?_
      refine W_set (i := 5) h5' ?_
      refine W_region ?_
      refine op rfl (r_moveV (v := v) rfl) ?_
      refine op rfl (r_moveV (v := .int _ _) rfl) ?_
      refine op_newS rfl (r_buildSlice (vs := [.int .u8 (c'.toNat : Int)]) Tryd.underlying45 Tryd.sz5 Tryd.zero5 rfl rfl rfl) ?_
      intro w12 b12 E12 B12 L12
      replace hX := hX.trans E12
      have hO12 := own_fext hO hX
      have hXw := hX'.trans hX
      refine op_append (T := Ty.byte) (F := nobody) (m := [c']) rfl rfl rfl Tryd.underlying45 Tryd.sz5 Tryd.by5 Tryd.zero5 rfl hO12 ((row_one B12 trivial : Ty.byte.Row w12 (old w12) (some ⟨b12, 0, none⟩) [c']).srcF flat_byte) (fun _ q => q.elim) (by simp only [List.length_singleton]; omega) (by simp only [List.length_singleton]; omega) hXw.size ?_
      intro v13 w13 hO11 hG13 hv13
      have hX13 : Ext w w13 := hXw.gro hG13 hXw.size (fun k hk => (hO12.lt hk).1)
      clear hX
      have hX := hX13
      refine op rfl (r_assignV (v := v13) rfl) ?_
      refine WL_nil ?_
      refine W_region ?_
      refine op rfl (r_moveV (v := .int _ _) rfl) ?_
      refine op rfl (r_add' (r := ((j + 1 : Nat) : Int)) rfl rfl (by rw [wrap_i64 (by omega) (by omega)]; omega)) ?_
      refine op rfl (r_assignV (v := .int _ _) rfl) ?_
      refine WL_nil ?_
      refine ⟨?_, by repeat (first | with_reducible exact Out.refl _ _ | with_reducible exact Out.mix | refine Out.put rfl ?_ | refine Out.mixin rfl ?_ | exact Out.refl _ _ | exact Out.mix)⟩
      exact ⟨s.length - (j + 1), by omega, j + 1, _, out ++ [c'], rfl, by omega, rfl, rfl, hO11, by rw [hdec, hcj, List.append_assoc]; rfl, by rw [List.length_append, List.length_singleton]; omega, hX13⟩
    · have hie : i = s.length := by omega
      rw [hie, List.drop_length] at hdec
      have hdec' : decF s = out := by rw [hdec]; simp [decF]
      have hO' := hO
      obtain ⟨A12, c12, rfl, hc12, hr12⟩ := own_frow hO
      refine W_exit (blk_hit ?_)
      refine W_seq ?_
      refine W_seq ?_
      refine W_region ?_
      refine op rfl (r_moveV (v := .slice _ _ _) rfl) ?_
      refine op rfl (rt_str (l := out) rfl Tryd.underlying45 Tryd.underlying5 Tryd.underlying9 hr12) ?_
      refine opCv rfl (r_call Tryd.func18 Tryd.nm18 rfl) (refQuote_spec out _ (by omega)) ?_
      rintro v14 w14 ⟨rfl, hE⟩
      replace hX := hX.trans hE
      refine op rfl (r_moveV (v := .string _) rfl) ?_
      refine op rfl (rt_neq rfl rfl) ?_
      refine WL_nil ?_
      refine W_ifp rfl (fun ht66 => ?_) (fun ht66 => ?_)
      · refine W_seq ?_
        refine W_region ?_
        refine op rfl (r_assignV (v := .string _) rfl) ?_
        refine op rfl (r_assignV (v := .bool _) rfl) ?_
        refine WL_nil ?_
        refine W_ret (finX_ret ?_)
        refine fin2 ?_
        first
          | (have hu : unqF s = some [] := by unfold unqF; rw [if_pos (by assumption)]
             exact ⟨_, rfl, by rw [hu]; rfl, hX⟩)
          | (have hu : unqF s = none := by unfold unqF; rw [if_neg (by assumption), hdec', if_neg (by assumption)]
             exact ⟨_, rfl, by rw [hu]; rfl, hX'.trans hX⟩)
          | (have hu : unqF s = some out := by unfold unqF; rw [if_neg (by assumption), hdec', if_pos (Classical.not_not.1 (by assumption))]
             exact ⟨_, rfl, by rw [hu]; rfl, hX'.trans hX⟩)
      · refine W_skip ?_
        refine W_seq ?_
        refine W_region ?_
        refine op rfl (r_moveV (v := .slice _ _ _) rfl) ?_
        refine op rfl (rt_str (l := out) rfl Tryd.underlying45 Tryd.underlying5 Tryd.underlying9 (hr12.ext hX)) ?_
        refine op rfl (r_assignV (v := .string _) rfl) ?_
        refine op rfl (r_assignV (v := .bool _) rfl) ?_
        refine WL_nil ?_
        refine W_ret (finX_ret ?_)
        refine fin2 ?_
        first
          | (have hu : unqF s = some [] := by unfold unqF; rw [if_pos (by assumption)]
             exact ⟨_, rfl, by rw [hu]; rfl, hX⟩)
          | (have hu : unqF s = none := by unfold unqF; rw [if_neg (by assumption), hdec', if_neg (by assumption)]
             exact ⟨_, rfl, by rw [hu]; rfl, hX'.trans hX⟩)
          | (have hu : unqF s = some out := by unfold unqF; rw [if_neg (by assumption), hdec', if_pos (Classical.not_not.1 (by assumption))]
             exact ⟨_, rfl, by rw [hu]; rfl, hX'.trans hX⟩)
end Go.Proofs.YtafcaigjijajnaaDoor
