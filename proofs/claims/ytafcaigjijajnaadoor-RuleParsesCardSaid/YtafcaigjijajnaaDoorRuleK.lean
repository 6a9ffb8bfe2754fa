/-
  The walks of the reference: globs.
-/
import Derived.Test.YtafcaigjijajnaaDoorFacts
import Derived.Test.YtafcaigjijajnaaDoorRuleJ
namespace Go.Proofs.YtafcaigjijajnaaDoor
open Go Go.Eng Go.RowKit Go.Proofs
set_option linter.unusedVariables false
set_option linter.unusedSimpArgs false
set_option maxHeartbeats 1000000
set_option maxRecDepth 20000

theorem twoS_iff : ∀ l : List UInt8, twoS l ↔ ∃ k : Nat, ∃ h : k + 1 < l.length, l[k].toNat = 42 ∧ l[k + 1].toNat = 42
  | [] => ⟨fun h => h.elim, fun ⟨k, h, _⟩ => by simp at h⟩
  | [_] => ⟨fun h => h.elim, fun ⟨k, h, _⟩ => by simp at h⟩
  | a :: b :: r => by
    have ih := twoS_iff (b :: r)
    show (a.toNat = 42 ∧ b.toNat = 42) ∨ twoS (b :: r) ↔ _
    rw [ih]
    constructor
    · rintro (h | ⟨k, h, h1, h2⟩)
      · exact ⟨0, by simp, h⟩
      · exact ⟨k + 1, by simp only [List.length_cons] at h ⊢; omega, h1, h2⟩
    · rintro ⟨k, h, h1, h2⟩
      cases k with
      | zero => exact Or.inl ⟨h1, h2⟩
      | succ k => exact Or.inr ⟨k, by simp only [List.length_cons] at h ⊢; omega, h1, h2⟩
theorem refPattern_spec (p : List UInt8) (w : World) (hp : p.length ≤ 140737488355328) :
    Calls Tryd.prog 61 #[.string (str p)] w (fun en w' => ∃ v, en = .returned v ∧ v = .bool (decide (patR p)) ∧ Ext w w') := by
  refine calls' (n := 62) (rs := #[.tmp 2]) (l := [.string (str p)]) Tryd.func61 rfl rfl rfl rfl rfl ?_
  have hX := Ext.refl w
  refine W_seq ?_
  refine W_region ?_
  refine op rfl (r_assignV (v := .bool _) rfl) ?_
  refine WL_nil ?_
  refine W_seq ?_
  refine W_seq ?_
  refine W_region ?_
  refine op rfl (r_moveV (v := .string _) rfl) ?_
  refine op rfl (rt_eql rfl rfl) ?_
  refine WL_nil ?_
  refine W_ifp rfl (fun ht5 => ?_) (fun ht5 => ?_)
  · refine W_seq ?_
    refine W_region ?_
    refine op rfl (r_assignV (v := .bool _) rfl) ?_
    refine WL_nil ?_
    refine W_ret (finX_ret ?_)
    refine fin1 ?_
    first
      | exact ⟨_, rfl, bool_tt (Or.inl ht5), hX⟩
      | exact ⟨_, rfl, bool_ff (fun h => h.elim ht5 (fun h => by
          have := h.1.1 _ (List.getElem_mem hlt)
          unfold wildC at this
          exact this.elim (fun k => hg17 k) (fun k => by omega))), hX⟩
      | (have e : i - 1 + 1 = i := by omega
         exact ⟨_, rfl, bool_ff (fun h => h.elim ht5 (fun h => h.2 ((twoS_iff p).2 ⟨i - 1, by omega, by omega, by simp only [e]; omega⟩))), hX⟩)
      | exact ⟨_, rfl, bool_iff ⟨fun h => Or.inr ⟨⟨hall', hpn.1 (by omega), by omega, hg58, h⟩, htw⟩, fun h => h.elim (fun q => absurd q ht5) (fun h => h.1.2.2.2.2)⟩, hX⟩
      | exact ⟨_, rfl, bool_ff (fun h => h.elim ht5 (fun h => hg58 h.1.2.2.2.1)), hX⟩
      | exact ⟨_, rfl, bool_ff (fun h => h.elim ht5 (fun h => by have := h.1.2.2.1; omega)), hX⟩
      | exact ⟨_, rfl, bool_ff (fun h => h.elim ht5 (fun h => by have := hpn.2 h.1.2.1; omega)), hX⟩
  · refine W_skip ?_
    refine W_seq ?_
    refine W_seq ?_
    refine W_region ?_
    refine op rfl (r_assignV (v := .int _ _) rfl) ?_
    refine WL_nil ?_
    refine W_block ?_
    refine W_loop [2, 3, 6, 7, 8, 9, 10, 11, 12, 13, 14, 15, 16, 17, 18, 19, 20, 21, 22, 23, 24, 25, 26, 27, 28, 29, 30, 31, 32, 33, 34, 35, 36, 37, 38, 39, 40, 41, 42, 43, 44, 45] (fun q e' w' => ∃ i : Nat, q = p.length - i ∧ i ≤ p.length ∧ e' 3 = .int .i64 i ∧ (∀ k (h : k < p.length), k < i → wildC p[k]) ∧ (∀ k (h : k + 1 < p.length), k + 1 < i → ¬ (p[k].toNat = 42 ∧ p[k + 1].toNat = 42)) ∧ Ext w w') (p.length) ?_ ?_
    · exact ⟨0, by omega, by omega, rfl, fun k _ h => absurd h (Nat.not_lt_zero k), fun k _ h => by omega, hX⟩
    intro k g w' hI
    obtain ⟨i, hq, hi, h3, hall, htwo, hX'⟩ := hI
    clear hX
    have hX := hX'
    refine W_set (i := 3) h3 ?_
    refine W_seq ?_
    refine W_seq ?_
    refine W_region ?_
    refine op rfl (r_moveV (v := .int _ _) rfl) ?_
    refine op rfl (r_moveV (v := .string _) rfl) ?_
    refine op rfl (rt_len rfl Tryd.underlying9) ?_
    refine op rfl (r_lss rfl rfl) ?_
    refine WL_nil ?_
    refine W_ifp rfl (fun ht9 => ?_) (fun ht9 => ?_)
    · have hlt : i < p.length := by omega
      refine W_skip ?_
      refine W_seq ?_
      refine W_block ?_
      refine W_seq ?_
      refine W_region ?_
      refine op rfl (r_moveV (v := .string _) rfl) ?_
      refine op rfl (r_moveV (v := .int _ _) rfl) ?_
      refine op rfl (rt_index (i := i) rfl rfl Tryd.underlying9 hlt) ?_
      refine opCv rfl (r_call Tryd.func77 Tryd.nm77 rfl) (refPlain_spec p[i] _) ?_
      rintro v w4 ⟨rfl, hE⟩
      replace hX := hX.trans hE
      refine op rfl (r_notP rfl) ?_
      refine op_split rfl (r_moveV (v := .bool (decide _)) rfl) (fun hg17 => ?_) (fun hg17 => ?_)
      · refine opG_yes rfl rfl rfl rfl rfl (r_moveV (v := .string _) rfl) ?_
        refine opG_yes rfl rfl rfl rfl rfl (r_moveV (v := .int _ _) rfl) ?_
        refine opG_yes rfl rfl rfl rfl rfl (rt_index (i := i) rfl rfl Tryd.underlying9 hlt) ?_
        refine opG_yes rfl rfl rfl rfl rfl (r_neq rfl rfl) ?_
        refine op rfl (r_pickTV (v := .bool _) rfl rfl) ?_
        refine op_split rfl (r_moveV (v := .bool (decide _)) rfl) (fun hg23 => ?_) (fun hg23 => ?_)
        · refine opG_yes rfl rfl rfl rfl rfl (r_moveV (v := .string _) rfl) ?_
          refine opG_yes rfl rfl rfl rfl rfl (r_moveV (v := .int _ _) rfl) ?_
          refine opG_yes rfl rfl rfl rfl rfl (rt_index (i := i) rfl rfl Tryd.underlying9 hlt) ?_
          refine opG_yes rfl rfl rfl rfl rfl (r_neq rfl rfl) ?_
          refine op rfl (r_pickTV (v := .bool _) rfl rfl) ?_
          refine op_split rfl (r_moveV (v := .bool (decide _)) rfl) (fun hg29 => ?_) (fun hg29 => ?_)
          · refine opG_no rfl rfl rfl rfl rfl ?_
            refine opG_no rfl rfl rfl rfl rfl ?_
            refine opG_no rfl rfl rfl rfl rfl ?_
            refine opG_none rfl rfl rfl rfl ?_
            refine opG_none rfl rfl rfl rfl ?_
            refine opG_none rfl rfl rfl rfl ?_
            refine opG_none rfl rfl rfl rfl ?_
            refine opG_no rfl rfl rfl rfl rfl ?_
            refine opG_no rfl rfl rfl rfl rfl ?_
            refine opG_none rfl rfl rfl rfl ?_
            refine opG_none rfl rfl rfl rfl ?_
            refine opG_none rfl rfl rfl rfl ?_
            refine opG_none rfl rfl rfl rfl ?_
            refine opG_none rfl rfl rfl rfl ?_
            refine opG_no rfl rfl rfl rfl rfl ?_
            refine op rfl (r_pickTV (v := .bool _) rfl rfl) ?_
            refine WL_nil ?_
            refine W_then rfl ?_
            refine W_seq ?_
            refine W_region ?_
            refine op rfl (r_assignV (v := .bool _) rfl) ?_
            refine WL_nil ?_
            refine W_ret (blk_ret (blk_ret (finX_ret ?_)))
            refine fin1 ?_
            first
              | exact ⟨_, rfl, bool_tt (Or.inl ht5), hX⟩
              | exact ⟨_, rfl, bool_ff (fun h => h.elim ht5 (fun h => by
                  have := h.1.1 _ (List.getElem_mem hlt)
                  unfold wildC at this
                  exact this.elim (fun k => hg17 k) (fun k => by omega))), hX⟩
              | (have e : i - 1 + 1 = i := by omega
                 exact ⟨_, rfl, bool_ff (fun h => h.elim ht5 (fun h => h.2 ((twoS_iff p).2 ⟨i - 1, by omega, by omega, by simp only [e]; omega⟩))), hX⟩)
              | exact ⟨_, rfl, bool_iff ⟨fun h => Or.inr ⟨⟨hall', hpn.1 (by omega), by omega, hg58, h⟩, htw⟩, fun h => h.elim (fun q => absurd q ht5) (fun h => h.1.2.2.2.2)⟩, hX⟩
              | exact ⟨_, rfl, bool_ff (fun h => h.elim ht5 (fun h => hg58 h.1.2.2.2.1)), hX⟩
              | exact ⟨_, rfl, bool_ff (fun h => h.elim ht5 (fun h => by have := h.1.2.2.1; omega)), hX⟩
              | exact ⟨_, rfl, bool_ff (fun h => h.elim ht5 (fun h => by have := hpn.2 h.1.2.1; omega)), hX⟩
          · refine opG_yes rfl rfl rfl rfl rfl (r_moveV (v := .int _ _) rfl) ?_
            refine opG_yes rfl rfl rfl rfl rfl (r_gtr rfl rfl) ?_
            refine opG_split rfl rfl rfl rfl rfl (r_moveV (v := .bool (decide _)) rfl) (fun hg32 => ?_) (fun hg32 => ?_)
            · refine opG_yes rfl rfl rfl rfl rfl (r_moveV (v := .string _) rfl) ?_
              refine opG_yes rfl rfl rfl rfl rfl (r_moveV (v := .int _ _) rfl) ?_
              refine opG_yes rfl rfl rfl rfl rfl (rt_index (i := i) rfl rfl Tryd.underlying9 hlt) ?_
              refine opG_yes rfl rfl rfl rfl rfl (r_eql rfl rfl) ?_
              refine opG_yes rfl rfl rfl rfl rfl (r_pickTV (v := .bool _) rfl rfl) ?_
              refine opG_split rfl rfl rfl rfl rfl (r_moveV (v := .bool (decide _)) rfl) (fun hg38 => ?_) (fun hg38 => ?_)
              · refine opG_yes rfl rfl rfl rfl rfl (r_moveV (v := .string _) rfl) ?_
                refine opG_yes rfl rfl rfl rfl rfl (r_moveV (v := .int _ _) rfl) ?_
                refine opG_yes rfl rfl rfl rfl rfl (r_sub' (m := (i : Int)) (n := 1) (r := ((i - 1 : Nat) : Int)) rfl rfl (by rw [wrap_i64 (by omega) (by omega)]; omega)) ?_
                refine opG_yes rfl rfl rfl rfl rfl (rt_index (i := i - 1) rfl rfl Tryd.underlying9 (by omega)) ?_
                refine opG_yes rfl rfl rfl rfl rfl (r_eql rfl rfl) ?_
                refine opG_yes rfl rfl rfl rfl rfl (r_pickTV (v := .bool _) rfl rfl) ?_
                refine op rfl (r_pickFV (v := .bool _) rfl rfl) ?_
                refine WL_nil ?_
                refine W_ifp rfl (fun ht45 => ?_) (fun ht45 => ?_)
                · refine W_seq ?_
                  refine W_region ?_
                  refine op rfl (r_assignV (v := .bool _) rfl) ?_
                  refine WL_nil ?_
                  refine W_ret (blk_ret (blk_ret (finX_ret ?_)))
                  refine fin1 ?_
                  first
                    | exact ⟨_, rfl, bool_tt (Or.inl ht5), hX⟩
                    | exact ⟨_, rfl, bool_ff (fun h => h.elim ht5 (fun h => by
                        have := h.1.1 _ (List.getElem_mem hlt)
                        unfold wildC at this
                        exact this.elim (fun k => hg17 k) (fun k => by omega))), hX⟩
                    | (have e : i - 1 + 1 = i := by omega
                       exact ⟨_, rfl, bool_ff (fun h => h.elim ht5 (fun h => h.2 ((twoS_iff p).2 ⟨i - 1, by omega, by omega, by simp only [e]; omega⟩))), hX⟩)
                    | exact ⟨_, rfl, bool_iff ⟨fun h => Or.inr ⟨⟨hall', hpn.1 (by omega), by omega, hg58, h⟩, htw⟩, fun h => h.elim (fun q => absurd q ht5) (fun h => h.1.2.2.2.2)⟩, hX⟩
                    | exact ⟨_, rfl, bool_ff (fun h => h.elim ht5 (fun h => hg58 h.1.2.2.2.1)), hX⟩
                    | exact ⟨_, rfl, bool_ff (fun h => h.elim ht5 (fun h => by have := h.1.2.2.1; omega)), hX⟩
                    | exact ⟨_, rfl, bool_ff (fun h => h.elim ht5 (fun h => by have := hpn.2 h.1.2.1; omega)), hX⟩
                · refine W_skip ?_
                  refine W_region ?_
                  refine op rfl (r_moveV (v := .int _ _) rfl) ?_
                  refine op rfl (r_add' (r := ((i + 1 : Nat) : Int)) rfl rfl (by rw [wrap_i64 (by omega) (by omega)]; omega)) ?_
                  refine op rfl (r_assignV (v := .int _ _) rfl) ?_
                  refine WL_nil ?_
                  refine ⟨?_, by repeat (first | with_reducible exact Out.refl _ _ | with_reducible exact Out.mix | refine Out.put rfl ?_ | refine Out.mixin rfl ?_ | exact Out.refl _ _ | exact Out.mix)⟩
                  refine ⟨p.length - (i + 1), by omega, i + 1, rfl, by omega, rfl, fun k h hk => ?_, fun k h hk => ?_, hX⟩
                  · by_cases hki : k = i
                    · subst hki
                      unfold wildC
                      first
                        | exact Or.inl (Classical.not_not.1 hg17)
                        | omega
                    · exact hall k h (by omega)
                  · by_cases hki : k + 1 = i
                    · subst hki
                      have e : k + 1 - 1 = k := by omega
                      simp only [e] at *
                      omega
                    · exact htwo k h (by omega)
              · refine opG_no rfl rfl rfl rfl rfl ?_
                refine opG_no rfl rfl rfl rfl rfl ?_
                refine opG_no rfl rfl rfl rfl rfl ?_
                refine opG_no rfl rfl rfl rfl rfl ?_
                refine opG_no rfl rfl rfl rfl rfl ?_
                refine opG_yes rfl rfl rfl rfl rfl (r_pickFV (v := .bool _) rfl rfl) ?_
                refine op rfl (r_pickFV (v := .bool _) rfl rfl) ?_
                refine WL_nil ?_
                refine W_else rfl ?_
                refine W_skip ?_
                refine W_region ?_
                refine op rfl (r_moveV (v := .int _ _) rfl) ?_
                refine op rfl (r_add' (r := ((i + 1 : Nat) : Int)) rfl rfl (by rw [wrap_i64 (by omega) (by omega)]; omega)) ?_
                refine op rfl (r_assignV (v := .int _ _) rfl) ?_
                refine WL_nil ?_
                refine ⟨?_, by repeat (first | with_reducible exact Out.refl _ _ | with_reducible exact Out.mix | refine Out.put rfl ?_ | refine Out.mixin rfl ?_ | exact Out.refl _ _ | exact Out.mix)⟩
                refine ⟨p.length - (i + 1), by omega, i + 1, rfl, by omega, rfl, fun k h hk => ?_, fun k h hk => ?_, hX⟩
                · by_cases hki : k = i
                  · subst hki
                    unfold wildC
                    first
                      | exact Or.inl (Classical.not_not.1 hg17)
                      | omega
                  · exact hall k h (by omega)
                · by_cases hki : k + 1 = i
                  · subst hki
                    have e : k + 1 - 1 = k := by omega
                    simp only [e] at *
                    omega
                  · exact htwo k h (by omega)
            · refine opG_no rfl rfl rfl rfl rfl ?_
              refine opG_no rfl rfl rfl rfl rfl ?_
              refine opG_no rfl rfl rfl rfl rfl ?_
              refine opG_no rfl rfl rfl rfl rfl ?_
              refine opG_yes rfl rfl rfl rfl rfl (r_pickFV (v := .bool _) rfl rfl) ?_
              refine opG_yes rfl rfl rfl rfl rfl (r_moveV (v := .bool _) rfl) ?_
              refine opG_no rfl rfl rfl rfl rfl ?_
              refine opG_no rfl rfl rfl rfl rfl ?_
              refine opG_no rfl rfl rfl rfl rfl ?_
              refine opG_no rfl rfl rfl rfl rfl ?_
              refine opG_no rfl rfl rfl rfl rfl ?_
              refine opG_yes rfl rfl rfl rfl rfl (r_pickFV (v := .bool _) rfl rfl) ?_
              refine op rfl (r_pickFV (v := .bool _) rfl rfl) ?_
              refine WL_nil ?_
              refine W_else rfl ?_
              refine W_skip ?_
              refine W_region ?_
              refine op rfl (r_moveV (v := .int _ _) rfl) ?_
              refine op rfl (r_add' (r := ((i + 1 : Nat) : Int)) rfl rfl (by rw [wrap_i64 (by omega) (by omega)]; omega)) ?_
              refine op rfl (r_assignV (v := .int _ _) rfl) ?_
              refine WL_nil ?_
              refine ⟨?_, by repeat (first | with_reducible exact Out.refl _ _ | with_reducible exact Out.mix | refine Out.put rfl ?_ | refine Out.mixin rfl ?_ | exact Out.refl _ _ | exact Out.mix)⟩
              refine ⟨p.length - (i + 1), by omega, i + 1, rfl, by omega, rfl, fun k h hk => ?_, fun k h hk => ?_, hX⟩
              · by_cases hki : k = i
                · subst hki
                  unfold wildC
                  first
                    | exact Or.inl (Classical.not_not.1 hg17)
                    | omega
                · exact hall k h (by omega)
              · by_cases hki : k + 1 = i
                · subst hki
                  have e : k + 1 - 1 = k := by omega
                  simp only [e] at *
                  omega
                · exact htwo k h (by omega)
        · refine opG_no rfl rfl rfl rfl rfl ?_
          refine opG_no rfl rfl rfl rfl rfl ?_
          refine opG_no rfl rfl rfl rfl rfl ?_
          refine opG_no rfl rfl rfl rfl rfl ?_
          refine op rfl (r_pickFV (v := .bool _) rfl rfl) ?_
          refine op rfl (r_moveV (v := .bool _) rfl) ?_
          refine opG_yes rfl rfl rfl rfl rfl (r_moveV (v := .int _ _) rfl) ?_
          refine opG_yes rfl rfl rfl rfl rfl (r_gtr rfl rfl) ?_
          refine opG_split rfl rfl rfl rfl rfl (r_moveV (v := .bool (decide _)) rfl) (fun hg32 => ?_) (fun hg32 => ?_)
          · refine opG_yes rfl rfl rfl rfl rfl (r_moveV (v := .string _) rfl) ?_
            refine opG_yes rfl rfl rfl rfl rfl (r_moveV (v := .int _ _) rfl) ?_
            refine opG_yes rfl rfl rfl rfl rfl (rt_index (i := i) rfl rfl Tryd.underlying9 hlt) ?_
            refine opG_yes rfl rfl rfl rfl rfl (r_eql rfl rfl) ?_
            refine opG_yes rfl rfl rfl rfl rfl (r_pickTV (v := .bool _) rfl rfl) ?_
            refine opG_split rfl rfl rfl rfl rfl (r_moveV (v := .bool (decide _)) rfl) (fun hg38 => ?_) (fun hg38 => ?_)
            · refine opG_yes rfl rfl rfl rfl rfl (r_moveV (v := .string _) rfl) ?_
              refine opG_yes rfl rfl rfl rfl rfl (r_moveV (v := .int _ _) rfl) ?_
              refine opG_yes rfl rfl rfl rfl rfl (r_sub' (m := (i : Int)) (n := 1) (r := ((i - 1 : Nat) : Int)) rfl rfl (by rw [wrap_i64 (by omega) (by omega)]; omega)) ?_
              refine opG_yes rfl rfl rfl rfl rfl (rt_index (i := i - 1) rfl rfl Tryd.underlying9 (by omega)) ?_
              refine opG_yes rfl rfl rfl rfl rfl (r_eql rfl rfl) ?_
              refine opG_yes rfl rfl rfl rfl rfl (r_pickTV (v := .bool _) rfl rfl) ?_
              refine op rfl (r_pickFV (v := .bool _) rfl rfl) ?_
              refine WL_nil ?_
              refine W_ifp rfl (fun ht45 => ?_) (fun ht45 => ?_)
              · refine W_seq ?_
                refine W_region ?_
                refine op rfl (r_assignV (v := .bool _) rfl) ?_
                refine WL_nil ?_
                refine W_ret (blk_ret (blk_ret (finX_ret ?_)))
                refine fin1 ?_
                first
                  | exact ⟨_, rfl, bool_tt (Or.inl ht5), hX⟩
                  | exact ⟨_, rfl, bool_ff (fun h => h.elim ht5 (fun h => by
                      have := h.1.1 _ (List.getElem_mem hlt)
                      unfold wildC at this
                      exact this.elim (fun k => hg17 k) (fun k => by omega))), hX⟩
                  | (have e : i - 1 + 1 = i := by omega
                     exact ⟨_, rfl, bool_ff (fun h => h.elim ht5 (fun h => h.2 ((twoS_iff p).2 ⟨i - 1, by omega, by omega, by simp only [e]; omega⟩))), hX⟩)
                  | exact ⟨_, rfl, bool_iff ⟨fun h => Or.inr ⟨⟨hall', hpn.1 (by omega), by omega, hg58, h⟩, htw⟩, fun h => h.elim (fun q => absurd q ht5) (fun h => h.1.2.2.2.2)⟩, hX⟩
                  | exact ⟨_, rfl, bool_ff (fun h => h.elim ht5 (fun h => hg58 h.1.2.2.2.1)), hX⟩
                  | exact ⟨_, rfl, bool_ff (fun h => h.elim ht5 (fun h => by have := h.1.2.2.1; omega)), hX⟩
                  | exact ⟨_, rfl, bool_ff (fun h => h.elim ht5 (fun h => by have := hpn.2 h.1.2.1; omega)), hX⟩
              · refine W_skip ?_
                refine W_region ?_
                refine op rfl (r_moveV (v := .int _ _) rfl) ?_
                refine op rfl (r_add' (r := ((i + 1 : Nat) : Int)) rfl rfl (by rw [wrap_i64 (by omega) (by omega)]; omega)) ?_
                refine op rfl (r_assignV (v := .int _ _) rfl) ?_
                refine WL_nil ?_
                refine ⟨?_, by repeat (first | with_reducible exact Out.refl _ _ | with_reducible exact Out.mix | refine Out.put rfl ?_ | refine Out.mixin rfl ?_ | exact Out.refl _ _ | exact Out.mix)⟩
                refine ⟨p.length - (i + 1), by omega, i + 1, rfl, by omega, rfl, fun k h hk => ?_, fun k h hk => ?_, hX⟩
                · by_cases hki : k = i
                  · subst hki
                    unfold wildC
                    first
                      | exact Or.inl (Classical.not_not.1 hg17)
                      | omega
                  · exact hall k h (by omega)
                · by_cases hki : k + 1 = i
                  · subst hki
                    have e : k + 1 - 1 = k := by omega
                    simp only [e] at *
                    omega
                  · exact htwo k h (by omega)
            · refine opG_no rfl rfl rfl rfl rfl ?_
              refine opG_no rfl rfl rfl rfl rfl ?_
              refine opG_no rfl rfl rfl rfl rfl ?_
              refine opG_no rfl rfl rfl rfl rfl ?_
              refine opG_no rfl rfl rfl rfl rfl ?_
              refine opG_yes rfl rfl rfl rfl rfl (r_pickFV (v := .bool _) rfl rfl) ?_
              refine op rfl (r_pickFV (v := .bool _) rfl rfl) ?_
              refine WL_nil ?_
              refine W_else rfl ?_
              refine W_skip ?_
              refine W_region ?_
              refine op rfl (r_moveV (v := .int _ _) rfl) ?_
              refine op rfl (r_add' (r := ((i + 1 : Nat) : Int)) rfl rfl (by rw [wrap_i64 (by omega) (by omega)]; omega)) ?_
              refine op rfl (r_assignV (v := .int _ _) rfl) ?_
              refine WL_nil ?_
              refine ⟨?_, by repeat (first | with_reducible exact Out.refl _ _ | with_reducible exact Out.mix | refine Out.put rfl ?_ | refine Out.mixin rfl ?_ | exact Out.refl _ _ | exact Out.mix)⟩
              refine ⟨p.length - (i + 1), by omega, i + 1, rfl, by omega, rfl, fun k h hk => ?_, fun k h hk => ?_, hX⟩
              · by_cases hki : k = i
                · subst hki
                  unfold wildC
                  first
                    | exact Or.inl (Classical.not_not.1 hg17)
                    | omega
                · exact hall k h (by omega)
              · by_cases hki : k + 1 = i
                · subst hki
                  have e : k + 1 - 1 = k := by omega
                  simp only [e] at *
                  omega
                · exact htwo k h (by omega)
          · refine opG_no rfl rfl rfl rfl rfl ?_
            refine opG_no rfl rfl rfl rfl rfl ?_
            refine opG_no rfl rfl rfl rfl rfl ?_
            refine opG_no rfl rfl rfl rfl rfl ?_
            refine opG_yes rfl rfl rfl rfl rfl (r_pickFV (v := .bool _) rfl rfl) ?_
            refine opG_yes rfl rfl rfl rfl rfl (r_moveV (v := .bool _) rfl) ?_
            refine opG_no rfl rfl rfl rfl rfl ?_
            refine opG_no rfl rfl rfl rfl rfl ?_
            refine opG_no rfl rfl rfl rfl rfl ?_
            refine opG_no rfl rfl rfl rfl rfl ?_
            refine opG_no rfl rfl rfl rfl rfl ?_
            refine opG_yes rfl rfl rfl rfl rfl (r_pickFV (v := .bool _) rfl rfl) ?_
            refine op rfl (r_pickFV (v := .bool _) rfl rfl) ?_
            refine WL_nil ?_
            refine W_else rfl ?_
            refine W_skip ?_
            refine W_region ?_
            refine op rfl (r_moveV (v := .int _ _) rfl) ?_
            refine op rfl (r_add' (r := ((i + 1 : Nat) : Int)) rfl rfl (by rw [wrap_i64 (by omega) (by omega)]; omega)) ?_
            refine op rfl (r_assignV (v := .int _ _) rfl) ?_
            refine WL_nil ?_
            refine ⟨?_, by repeat (first | with_reducible exact Out.refl _ _ | with_reducible exact Out.mix | refine Out.put rfl ?_ | refine Out.mixin rfl ?_ | exact Out.refl _ _ | exact Out.mix)⟩
            refine ⟨p.length - (i + 1), by omega, i + 1, rfl, by omega, rfl, fun k h hk => ?_, fun k h hk => ?_, hX⟩
            · by_cases hki : k = i
              · subst hki
                unfold wildC
                first
                  | exact Or.inl (Classical.not_not.1 hg17)
                  | omega
              · exact hall k h (by omega)
            · by_cases hki : k + 1 = i
              · subst hki
                have e : k + 1 - 1 = k := by omega
                simp only [e] at *
                omega
              · exact htwo k h (by omega)
      · refine opG_no rfl rfl rfl rfl rfl ?_
        refine opG_no rfl rfl rfl rfl rfl ?_
        refine opG_no rfl rfl rfl rfl rfl ?_
        refine opG_no rfl rfl rfl rfl rfl ?_
        refine op rfl (r_pickFV (v := .bool _) rfl rfl) ?_
        refine op rfl (r_moveV (v := .bool _) rfl) ?_
        refine opG_no rfl rfl rfl rfl rfl ?_
        refine opG_no rfl rfl rfl rfl rfl ?_
        refine opG_no rfl rfl rfl rfl rfl ?_
        refine opG_no rfl rfl rfl rfl rfl ?_
        refine op rfl (r_pickFV (v := .bool _) rfl rfl) ?_
        refine op rfl (r_moveV (v := .bool _) rfl) ?_
        refine opG_yes rfl rfl rfl rfl rfl (r_moveV (v := .int _ _) rfl) ?_
        refine opG_yes rfl rfl rfl rfl rfl (r_gtr rfl rfl) ?_
        refine opG_split rfl rfl rfl rfl rfl (r_moveV (v := .bool (decide _)) rfl) (fun hg32 => ?_) (fun hg32 => ?_)
        · refine opG_yes rfl rfl rfl rfl rfl (r_moveV (v := .string _) rfl) ?_
          refine opG_yes rfl rfl rfl rfl rfl (r_moveV (v := .int _ _) rfl) ?_
          refine opG_yes rfl rfl rfl rfl rfl (rt_index (i := i) rfl rfl Tryd.underlying9 hlt) ?_
          refine opG_yes rfl rfl rfl rfl rfl (r_eql rfl rfl) ?_
          refine opG_yes rfl rfl rfl rfl rfl (r_pickTV (v := .bool _) rfl rfl) ?_
          refine opG_split rfl rfl rfl rfl rfl (r_moveV (v := .bool (decide _)) rfl) (fun hg38 => ?_) (fun hg38 => ?_)
          · refine opG_yes rfl rfl rfl rfl rfl (r_moveV (v := .string _) rfl) ?_
            refine opG_yes rfl rfl rfl rfl rfl (r_moveV (v := .int _ _) rfl) ?_
            refine opG_yes rfl rfl rfl rfl rfl (r_sub' (m := (i : Int)) (n := 1) (r := ((i - 1 : Nat) : Int)) rfl rfl (by rw [wrap_i64 (by omega) (by omega)]; omega)) ?_
            refine opG_yes rfl rfl rfl rfl rfl (rt_index (i := i - 1) rfl rfl Tryd.underlying9 (by omega)) ?_
            refine opG_yes rfl rfl rfl rfl rfl (r_eql rfl rfl) ?_
            refine opG_yes rfl rfl rfl rfl rfl (r_pickTV (v := .bool _) rfl rfl) ?_
            refine op rfl (r_pickFV (v := .bool _) rfl rfl) ?_
            refine WL_nil ?_
            refine W_ifp rfl (fun ht45 => ?_) (fun ht45 => ?_)
            · refine W_seq ?_
              refine W_region ?_
              refine op rfl (r_assignV (v := .bool _) rfl) ?_
              refine WL_nil ?_
              refine W_ret (blk_ret (blk_ret (finX_ret ?_)))
              refine fin1 ?_
              first
                | exact ⟨_, rfl, bool_tt (Or.inl ht5), hX⟩
                | exact ⟨_, rfl, bool_ff (fun h => h.elim ht5 (fun h => by
                    have := h.1.1 _ (List.getElem_mem hlt)
                    unfold wildC at this
                    exact this.elim (fun k => hg17 k) (fun k => by omega))), hX⟩
                | (have e : i - 1 + 1 = i := by omega
                   exact ⟨_, rfl, bool_ff (fun h => h.elim ht5 (fun h => h.2 ((twoS_iff p).2 ⟨i - 1, by omega, by omega, by simp only [e]; omega⟩))), hX⟩)
                | exact ⟨_, rfl, bool_iff ⟨fun h => Or.inr ⟨⟨hall', hpn.1 (by omega), by omega, hg58, h⟩, htw⟩, fun h => h.elim (fun q => absurd q ht5) (fun h => h.1.2.2.2.2)⟩, hX⟩
                | exact ⟨_, rfl, bool_ff (fun h => h.elim ht5 (fun h => hg58 h.1.2.2.2.1)), hX⟩
                | exact ⟨_, rfl, bool_ff (fun h => h.elim ht5 (fun h => by have := h.1.2.2.1; omega)), hX⟩
                | exact ⟨_, rfl, bool_ff (fun h => h.elim ht5 (fun h => by have := hpn.2 h.1.2.1; omega)), hX⟩
            · refine W_skip ?_
              refine W_region ?_
              refine op rfl (r_moveV (v := .int _ _) rfl) ?_
              refine op rfl (r_add' (r := ((i + 1 : Nat) : Int)) rfl rfl (by rw [wrap_i64 (by omega) (by omega)]; omega)) ?_
              refine op rfl (r_assignV (v := .int _ _) rfl) ?_
              refine WL_nil ?_
              refine ⟨?_, by repeat (first | with_reducible exact Out.refl _ _ | with_reducible exact Out.mix | refine Out.put rfl ?_ | refine Out.mixin rfl ?_ | exact Out.refl _ _ | exact Out.mix)⟩
              refine ⟨p.length - (i + 1), by omega, i + 1, rfl, by omega, rfl, fun k h hk => ?_, fun k h hk => ?_, hX⟩
              · by_cases hki : k = i
                · subst hki
                  unfold wildC
                  first
                    | exact Or.inl (Classical.not_not.1 hg17)
                    | omega
                · exact hall k h (by omega)
              · by_cases hki : k + 1 = i
                · subst hki
                  have e : k + 1 - 1 = k := by omega
                  simp only [e] at *
                  omega
                · exact htwo k h (by omega)
          · refine opG_no rfl rfl rfl rfl rfl ?_
            refine opG_no rfl rfl rfl rfl rfl ?_
            refine opG_no rfl rfl rfl rfl rfl ?_
            refine opG_no rfl rfl rfl rfl rfl ?_
            refine opG_no rfl rfl rfl rfl rfl ?_
            refine opG_yes rfl rfl rfl rfl rfl (r_pickFV (v := .bool _) rfl rfl) ?_
            refine op rfl (r_pickFV (v := .bool _) rfl rfl) ?_
            refine WL_nil ?_
            refine W_else rfl ?_
            refine W_skip ?_
            refine W_region ?_
            refine op rfl (r_moveV (v := .int _ _) rfl) ?_
            refine op rfl (r_add' (r := ((i + 1 : Nat) : Int)) rfl rfl (by rw [wrap_i64 (by omega) (by omega)]; omega)) ?_
            refine op rfl (r_assignV (v := .int _ _) rfl) ?_
            refine WL_nil ?_
            refine ⟨?_, by repeat (first | with_reducible exact Out.refl _ _ | with_reducible exact Out.mix | refine Out.put rfl ?_ | refine Out.mixin rfl ?_ | exact Out.refl _ _ | exact Out.mix)⟩
            refine ⟨p.length - (i + 1), by omega, i + 1, rfl, by omega, rfl, fun k h hk => ?_, fun k h hk => ?_, hX⟩
            · by_cases hki : k = i
              · subst hki
                unfold wildC
                first
                  | exact Or.inl (Classical.not_not.1 hg17)
                  | omega
              · exact hall k h (by omega)
            · by_cases hki : k + 1 = i
              · subst hki
                have e : k + 1 - 1 = k := by omega
                simp only [e] at *
                omega
              · exact htwo k h (by omega)
        · refine opG_no rfl rfl rfl rfl rfl ?_
          refine opG_no rfl rfl rfl rfl rfl ?_
          refine opG_no rfl rfl rfl rfl rfl ?_
          refine opG_no rfl rfl rfl rfl rfl ?_
          refine opG_yes rfl rfl rfl rfl rfl (r_pickFV (v := .bool _) rfl rfl) ?_
          refine opG_yes rfl rfl rfl rfl rfl (r_moveV (v := .bool _) rfl) ?_
          refine opG_no rfl rfl rfl rfl rfl ?_
          refine opG_no rfl rfl rfl rfl rfl ?_
          refine opG_no rfl rfl rfl rfl rfl ?_
          refine opG_no rfl rfl rfl rfl rfl ?_
          refine opG_no rfl rfl rfl rfl rfl ?_
          refine opG_yes rfl rfl rfl rfl rfl (r_pickFV (v := .bool _) rfl rfl) ?_
          refine op rfl (r_pickFV (v := .bool _) rfl rfl) ?_
          refine WL_nil ?_
          refine W_else rfl ?_
          refine W_skip ?_
          refine W_region ?_
          refine op rfl (r_moveV (v := .int _ _) rfl) ?_
          refine op rfl (r_add' (r := ((i + 1 : Nat) : Int)) rfl rfl (by rw [wrap_i64 (by omega) (by omega)]; omega)) ?_
          refine op rfl (r_assignV (v := .int _ _) rfl) ?_
          refine WL_nil ?_
          refine ⟨?_, by repeat (first | with_reducible exact Out.refl _ _ | with_reducible exact Out.mix | refine Out.put rfl ?_ | refine Out.mixin rfl ?_ | exact Out.refl _ _ | exact Out.mix)⟩
          refine ⟨p.length - (i + 1), by omega, i + 1, rfl, by omega, rfl, fun k h hk => ?_, fun k h hk => ?_, hX⟩
          · by_cases hki : k = i
            · subst hki
              unfold wildC
              first
                | exact Or.inl (Classical.not_not.1 hg17)
                | omega
            · exact hall k h (by omega)
          · by_cases hki : k + 1 = i
            · subst hki
              have e : k + 1 - 1 = k := by omega
              simp only [e] at *
              omega
            · exact htwo k h (by omega)
    · obtain rfl : i = p.length := by omega
      have hall' : ∀ c ∈ p, wildC c := fun c hc => by
        obtain ⟨k, hk, rfl⟩ := List.mem_iff_getElem.1 hc
        exact hall k hk hk
      have htw : ¬ twoS p := fun q => by
        obtain ⟨k, hk, q1, q2⟩ := (twoS_iff p).1 q
        exact htwo k hk hk ⟨q1, q2⟩
      have hpn : 0 < p.length ↔ p ≠ [] := List.length_pos_iff
      refine W_exit (blk_hit ?_)
      refine W_seq ?_
      refine W_region ?_
      refine op rfl (r_moveV (v := .string _) rfl) ?_
      refine op rfl (rt_len rfl Tryd.underlying9) ?_
      refine op rfl (r_gtr rfl rfl) ?_
      refine op_split rfl (r_moveV (v := .bool (decide _)) rfl) (fun hg49 => ?_) (fun hg49 => ?_)
      · refine opG_yes rfl rfl rfl rfl rfl (r_moveV (v := .string _) rfl) ?_
        refine opG_yes rfl rfl rfl rfl rfl (rt_len rfl Tryd.underlying9) ?_
        refine opG_yes rfl rfl rfl rfl rfl (r_leq rfl rfl) ?_
        refine op rfl (r_pickTV (v := .bool _) rfl rfl) ?_
        refine op_split rfl (r_moveV (v := .bool (decide _)) rfl) (fun hg54 => ?_) (fun hg54 => ?_)
        · refine opG_yes rfl rfl rfl rfl rfl (r_moveV (v := .string _) rfl) ?_
          refine opG_yes rfl rfl rfl rfl rfl (rt_neq rfl rfl) ?_
          refine op rfl (r_pickTV (v := .bool _) rfl rfl) ?_
          refine op_split rfl (r_moveV (v := .bool (decide _)) rfl) (fun hg58 => ?_) (fun hg58 => ?_)
          · refine opG_yes rfl rfl rfl rfl rfl (r_moveV (v := .string _) rfl) ?_
            refine opG_yes rfl rfl rfl rfl rfl (rt_neq rfl rfl) ?_
            refine op rfl (r_pickTV (v := .bool _) rfl rfl) ?_
            refine op rfl (r_assignV (v := .bool _) rfl) ?_
            refine WL_nil ?_
            refine W_ret (finX_ret ?_)
            refine fin1 ?_
            first
              | exact ⟨_, rfl, bool_tt (Or.inl ht5), hX⟩
              | exact ⟨_, rfl, bool_ff (fun h => h.elim ht5 (fun h => by
                  have := h.1.1 _ (List.getElem_mem hlt)
                  unfold wildC at this
                  exact this.elim (fun k => hg17 k) (fun k => by omega))), hX⟩
              | (have e : i - 1 + 1 = i := by omega
                 exact ⟨_, rfl, bool_ff (fun h => h.elim ht5 (fun h => h.2 ((twoS_iff p).2 ⟨i - 1, by omega, by omega, by simp only [e]; omega⟩))), hX⟩)
              | exact ⟨_, rfl, bool_iff ⟨fun h => Or.inr ⟨⟨hall', hpn.1 (by omega), by omega, hg58, h⟩, htw⟩, fun h => h.elim (fun q => absurd q ht5) (fun h => h.1.2.2.2.2)⟩, hX⟩
              | exact ⟨_, rfl, bool_ff (fun h => h.elim ht5 (fun h => hg58 h.1.2.2.2.1)), hX⟩
              | exact ⟨_, rfl, bool_ff (fun h => h.elim ht5 (fun h => by have := h.1.2.2.1; omega)), hX⟩
              | exact ⟨_, rfl, bool_ff (fun h => h.elim ht5 (fun h => by have := hpn.2 h.1.2.1; omega)), hX⟩
          · refine opG_no rfl rfl rfl rfl rfl ?_
            refine opG_no rfl rfl rfl rfl rfl ?_
            refine op rfl (r_pickFV (v := .bool _) rfl rfl) ?_
            refine op rfl (r_assignV (v := .bool _) rfl) ?_
            refine WL_nil ?_
            refine W_ret (finX_ret ?_)
            refine fin1 ?_
            first
              | exact ⟨_, rfl, bool_tt (Or.inl ht5), hX⟩
              | exact ⟨_, rfl, bool_ff (fun h => h.elim ht5 (fun h => by
                  have := h.1.1 _ (List.getElem_mem hlt)
                  unfold wildC at this
                  exact this.elim (fun k => hg17 k) (fun k => by omega))), hX⟩
              | (have e : i - 1 + 1 = i := by omega
                 exact ⟨_, rfl, bool_ff (fun h => h.elim ht5 (fun h => h.2 ((twoS_iff p).2 ⟨i - 1, by omega, by omega, by simp only [e]; omega⟩))), hX⟩)
              | exact ⟨_, rfl, bool_iff ⟨fun h => Or.inr ⟨⟨hall', hpn.1 (by omega), by omega, hg58, h⟩, htw⟩, fun h => h.elim (fun q => absurd q ht5) (fun h => h.1.2.2.2.2)⟩, hX⟩
              | exact ⟨_, rfl, bool_ff (fun h => h.elim ht5 (fun h => hg58 h.1.2.2.2.1)), hX⟩
              | exact ⟨_, rfl, bool_ff (fun h => h.elim ht5 (fun h => by have := h.1.2.2.1; omega)), hX⟩
              | exact ⟨_, rfl, bool_ff (fun h => h.elim ht5 (fun h => by have := hpn.2 h.1.2.1; omega)), hX⟩
        · refine opG_no rfl rfl rfl rfl rfl ?_
          refine opG_no rfl rfl rfl rfl rfl ?_
          refine op rfl (r_pickFV (v := .bool _) rfl rfl) ?_
          refine op rfl (r_moveV (v := .bool _) rfl) ?_
          refine opG_no rfl rfl rfl rfl rfl ?_
          refine opG_no rfl rfl rfl rfl rfl ?_
          refine op rfl (r_pickFV (v := .bool _) rfl rfl) ?_
          refine op rfl (r_assignV (v := .bool _) rfl) ?_
          refine WL_nil ?_
          refine W_ret (finX_ret ?_)
          refine fin1 ?_
          first
            | exact ⟨_, rfl, bool_tt (Or.inl ht5), hX⟩
            | exact ⟨_, rfl, bool_ff (fun h => h.elim ht5 (fun h => by
                have := h.1.1 _ (List.getElem_mem hlt)
                unfold wildC at this
                exact this.elim (fun k => hg17 k) (fun k => by omega))), hX⟩
            | (have e : i - 1 + 1 = i := by omega
               exact ⟨_, rfl, bool_ff (fun h => h.elim ht5 (fun h => h.2 ((twoS_iff p).2 ⟨i - 1, by omega, by omega, by simp only [e]; omega⟩))), hX⟩)
            | exact ⟨_, rfl, bool_iff ⟨fun h => Or.inr ⟨⟨hall', hpn.1 (by omega), by omega, hg58, h⟩, htw⟩, fun h => h.elim (fun q => absurd q ht5) (fun h => h.1.2.2.2.2)⟩, hX⟩
            | exact ⟨_, rfl, bool_ff (fun h => h.elim ht5 (fun h => hg58 h.1.2.2.2.1)), hX⟩
            | exact ⟨_, rfl, bool_ff (fun h => h.elim ht5 (fun h => by have := h.1.2.2.1; omega)), hX⟩
            | exact ⟨_, rfl, bool_ff (fun h => h.elim ht5 (fun h => by have := hpn.2 h.1.2.1; omega)), hX⟩
      · refine opG_no rfl rfl rfl rfl rfl ?_
        refine opG_no rfl rfl rfl rfl rfl ?_
        refine opG_no rfl rfl rfl rfl rfl ?_
        refine op rfl (r_pickFV (v := .bool _) rfl rfl) ?_
        refine op rfl (r_moveV (v := .bool _) rfl) ?_
        refine opG_no rfl rfl rfl rfl rfl ?_
        refine opG_no rfl rfl rfl rfl rfl ?_
        refine op rfl (r_pickFV (v := .bool _) rfl rfl) ?_
        refine op rfl (r_moveV (v := .bool _) rfl) ?_
        refine opG_no rfl rfl rfl rfl rfl ?_
        refine opG_no rfl rfl rfl rfl rfl ?_
        refine op rfl (r_pickFV (v := .bool _) rfl rfl) ?_
        refine op rfl (r_assignV (v := .bool _) rfl) ?_
        refine WL_nil ?_
        refine W_ret (finX_ret ?_)
        refine fin1 ?_
        first
          | exact ⟨_, rfl, bool_tt (Or.inl ht5), hX⟩
          | exact ⟨_, rfl, bool_ff (fun h => h.elim ht5 (fun h => by
              have := h.1.1 _ (List.getElem_mem hlt)
              unfold wildC at this
              exact this.elim (fun k => hg17 k) (fun k => by omega))), hX⟩
          | (have e : i - 1 + 1 = i := by omega
             exact ⟨_, rfl, bool_ff (fun h => h.elim ht5 (fun h => h.2 ((twoS_iff p).2 ⟨i - 1, by omega, by omega, by simp only [e]; omega⟩))), hX⟩)
          | exact ⟨_, rfl, bool_iff ⟨fun h => Or.inr ⟨⟨hall', hpn.1 (by omega), by omega, hg58, h⟩, htw⟩, fun h => h.elim (fun q => absurd q ht5) (fun h => h.1.2.2.2.2)⟩, hX⟩
          | exact ⟨_, rfl, bool_ff (fun h => h.elim ht5 (fun h => hg58 h.1.2.2.2.1)), hX⟩
          | exact ⟨_, rfl, bool_ff (fun h => h.elim ht5 (fun h => by have := h.1.2.2.1; omega)), hX⟩
          | exact ⟨_, rfl, bool_ff (fun h => h.elim ht5 (fun h => by have := hpn.2 h.1.2.1; omega)), hX⟩
theorem refGlob_spec (s : List UInt8) (w : World) (hs : s.length ≤ 1099511627776) :
    Calls Tryd.prog 47 #[.string (str s)] w (fun en w' => ∃ v, en = .returned v ∧ v = .bool (decide (globR s)) ∧ Ext w w') := by
  refine calls' (n := 22) (rs := #[.tmp 2]) (l := [.string (str s)]) Tryd.func47 rfl rfl rfl rfl rfl ?_
  have hX := Ext.refl w
  refine W_seq ?_
  refine W_region ?_
  refine op rfl (r_assignV (v := .bool _) rfl) ?_
  refine WL_nil ?_
  refine W_seq ?_
  refine W_region ?_
  refine op rfl (r_moveV (v := .string _) rfl) ?_
  refine opCv rfl (r_call Tryd.func30 Tryd.nm30 rfl) (refSplit_spec s 47 _ hs) ?_
  rintro v1 w1 ⟨hO, hln, hE⟩
  replace hX := hX.trans hE
  obtain ⟨A1, c1, rfl, hc1, hr1⟩ := hO.old (fun _ q => q.elim)
  refine op rfl (r_assignV (v := .slice _ _ _) rfl) ?_
  refine WL_nil ?_
  refine W_seq ?_
  refine W_seq ?_
  refine W_region ?_
  refine op rfl (r_assignV (v := .int _ _) rfl) ?_
  refine WL_nil ?_
  refine W_block ?_
  refine W_loop [2, 4, 7, 8, 9, 10, 11, 12, 13, 14, 15, 16, 17, 18] (fun q e' w' => ∃ (i : Nat), q = (parts 47 s).length - i ∧ i ≤ (parts 47 s).length ∧ e' 4 = .int .i64 i ∧ (∀ k (h : k < (parts 47 s).length), k < i → patR (parts 47 s)[k]) ∧ Ext w1 w' ∧ Ext w w') ((parts 47 s).length) ?_ ?_
  · exact ⟨0, by omega, by omega, rfl, fun k _ h => absurd h (Nat.not_lt_zero k), Ext.refl _, hX⟩
  intro k g w' hI
  obtain ⟨i, hq, hi, h4, hall, hE1, hX'⟩ := hI
  clear hX
  have hX := hX'
  refine W_set (i := 4) h4 ?_
  refine W_seq ?_
  refine W_seq ?_
  refine W_region ?_
  refine op rfl (r_moveV (v := .int _ _) rfl) ?_
  refine op rfl (r_moveV (v := .slice _ _ _) rfl) ?_
  refine op rfl (r_len_slice rfl Tryd.underlying49) ?_
  refine op rfl (r_lss rfl rfl) ?_
  refine WL_nil ?_
  refine W_ifp rfl (fun ht10 => ?_) (fun ht10 => ?_)
  · have hlt : i < (parts 47 s).length := by omega
    obtain ⟨g, off, hA, _, hsl, hcell⟩ := (hr1.ext hE1).cell hlt
    have hpl := parts_len 47 s _ (List.getElem_mem hlt)
    refine W_skip ?_
    refine W_seq ?_
    refine W_block ?_
    refine W_seq ?_
    refine W_region ?_
    refine op rfl (r_moveV (v := .slice _ _ _) rfl) ?_
    refine op rfl (r_moveV (v := .int _ _) rfl) ?_
    refine op rfl (r_indexAddr1 rfl rfl hA Tryd.underlying49 Tryd.sz9 (by omega) (by omega)) ?_
    refine op rfl (r_load (v := .string (str (parts 47 s)[i])) rfl Tryd.underlying9 rfl hcell) ?_
    refine opCv rfl (r_call Tryd.func61 Tryd.nm61 rfl) (refPattern_spec (parts 47 s)[i] _ (by omega)) ?_
    rintro v5 w5 ⟨rfl, hE⟩
    replace hX := hX.trans hE
    refine op rfl (r_notP rfl) ?_
    refine WL_nil ?_
    refine W_ifp rfl (fun ht18 => ?_) (fun ht18 => ?_)
    · refine W_seq ?_
      refine W_region ?_
      refine op rfl (r_assignV (v := .bool _) rfl) ?_
      refine WL_nil ?_
      refine W_ret (blk_ret (blk_ret (finX_ret ?_)))
      refine fin1 ?_
      first
        | exact ⟨_, rfl, bool_iff ⟨fun h => ⟨hall', by omega⟩, fun h => by have := h.2; omega⟩, hX⟩
        | exact ⟨_, rfl, bool_ff (fun h => ht18 (h.1 _ (List.getElem_mem hlt))), hX⟩
    · refine W_skip ?_
      refine W_region ?_
      refine op rfl (r_moveV (v := .int _ _) rfl) ?_
      refine op rfl (r_add' (r := ((i + 1 : Nat) : Int)) rfl rfl (by rw [wrap_i64 (by omega) (by omega)]; omega)) ?_
      refine op rfl (r_assignV (v := .int _ _) rfl) ?_
      refine WL_nil ?_
      refine ⟨?_, by repeat (first | with_reducible exact Out.refl _ _ | with_reducible exact Out.mix | refine Out.put rfl ?_ | refine Out.mixin rfl ?_ | exact Out.refl _ _ | exact Out.mix)⟩
      refine ⟨(parts 47 s).length - (i + 1), by omega, i + 1, rfl, by omega, rfl, fun k h hk => ?_, hE1.trans hE, hX⟩
      by_cases hki : k = i
      · subst hki; exact Classical.byContradiction ht18
      · exact hall k h (by omega)
  · obtain rfl : i = (parts 47 s).length := by omega
    have hall' : ∀ c ∈ parts 47 s, patR c := fun c hc => by
      obtain ⟨k, hk, rfl⟩ := List.mem_iff_getElem.1 hc
      exact hall k hk hk
    refine W_exit (blk_hit ?_)
    refine W_seq ?_
    refine W_region ?_
    refine op rfl (r_moveV (v := .string _) rfl) ?_
    refine op rfl (rt_len rfl Tryd.underlying9) ?_
    refine op rfl (r_leq rfl rfl) ?_
    refine op rfl (r_assignV (v := .bool _) rfl) ?_
    refine WL_nil ?_
    refine W_ret (finX_ret ?_)
    refine fin1 ?_
    first
      | exact ⟨_, rfl, bool_iff ⟨fun h => ⟨hall', by omega⟩, fun h => by have := h.2; omega⟩, hX⟩
      | exact ⟨_, rfl, bool_ff (fun h => ht18 (h.1 _ (List.getElem_mem hlt))), hX⟩
end Go.Proofs.YtafcaigjijajnaaDoor
