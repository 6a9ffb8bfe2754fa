/-
  The walks of package path: globs; which rules may be.
-/
import Derived.Test.YtafcaigjijajnaaDoorFacts
import Derived.Test.YtafcaigjijajnaaDoorRuleR
import Derived.Test.YtafcaigjijajnaaDoorShelf
namespace Go.Proofs.YtafcaigjijajnaaDoor
open Go Go.Eng Go.RowKit Go.Proofs
set_option linter.unusedVariables false
set_option linter.unusedSimpArgs false
set_option maxHeartbeats 2000000
set_option maxRecDepth 20000

/-- internal/bytealg.MaxLen. -/
abbrev gMax : Nat := 2
theorem index_two : ∀ s : List UInt8, 0 ≤ Lib.index s [42, 42] ↔ twoS s
  | [] => by simp [Lib.index, twoS]
  | [a] => by simp [Lib.index, twoS, List.isPrefixOf]
  | a :: b :: r => by
    have ih := index_two (b :: r)
    have hge := Lib.index_ge (b :: r) [42, 42]
    have e42 : (42 : UInt8).toNat = 42 := rfl
    have h8 : ∀ x : UInt8, x.toNat = 42 ↔ (42 : UInt8) = x := fun x => ⟨fun h => UInt8.toNat_inj.1 (by rw [h]; rfl), fun h => by rw [← h]; rfl⟩
    show _ ↔ (a.toNat = 42 ∧ b.toNat = 42) ∨ twoS (b :: r)
    rw [← ih, h8, h8, Lib.index]
    by_cases h : (42 : UInt8) = a ∧ (42 : UInt8) = b
    · obtain ⟨rfl, rfl⟩ := h
      simp [List.isPrefixOf]
    · have hp : ([42, 42] : List UInt8).isPrefixOf (a :: b :: r) = false := by
        simp only [List.isPrefixOf, Bool.and_true, Bool.and_eq_false_iff, beq_eq_false_iff_ne]
        by_cases h1 : (42 : UInt8) = a
        · exact Or.inr fun q => h ⟨h1, q⟩
        · exact Or.inl h1
      rw [hp]
      simp only [Bool.false_eq_true, if_false, h, false_or]
      by_cases hm : Lib.index (b :: r) [42, 42] = -1
      · rw [hm]; simp
      · have hb : (Lib.index (b :: r) [42, 42] == -1) = false := by simpa using hm
        rw [hb]
        simp only [Bool.false_eq_true, if_false]
        omega
theorem patternW_spec (c : UInt8) (w : World) :
    Calls Tryd.prog 75 #[.int .u8 (c.toNat : Nat)] w (fun en w' => ∃ v, en = .returned v ∧ v = .bool (decide (wildC c)) ∧ Ext w w') := by
  refine calls' (n := 13) (rs := #[.tmp 2]) (l := [.int .u8 (c.toNat : Nat)]) Tryd.func75 rfl rfl rfl rfl rfl ?_
  have hX := Ext.refl w
  refine W_seq ?_
  refine W_region ?_
  refine op rfl (r_assignV (v := .bool _) rfl) ?_
  refine WL_nil ?_
  refine W_seq ?_
  refine W_region ?_
  refine op rfl (r_moveV (v := .int _ _) rfl) ?_
  refine opCv rfl (r_call Tryd.func60 Tryd.nm60 rfl) (plain_spec c _) ?_
  rintro v1 w1 ⟨rfl, hE⟩
  replace hX := hX.trans hE
  refine op_split rfl (r_moveV (v := .bool (decide _)) rfl) (fun hg5 => ?_) (fun hg5 => ?_)
  · refine opG_no rfl rfl rfl rfl rfl ?_
    refine opG_no rfl rfl rfl rfl rfl ?_
    refine op rfl (r_pickTV (v := .bool _) rfl rfl) ?_
    refine op rfl (r_moveV (v := .bool _) rfl) ?_
    refine opG_no rfl rfl rfl rfl rfl ?_
    refine opG_no rfl rfl rfl rfl rfl ?_
    refine op rfl (r_pickTV (v := .bool _) rfl rfl) ?_
    refine op rfl (r_assignV (v := .bool _) rfl) ?_
    refine WL_nil ?_
    refine W_ret (finX_ret ?_)
    refine fin1 ?_
    first
      | exact ⟨_, rfl, bool_tt (Or.inl (by assumption)), hX⟩
      | exact ⟨_, rfl, bool_tt (by unfold wildC; omega), hX⟩
      | exact ⟨_, rfl, bool_iff (by unfold wildC; rw [or_iff_right (by assumption : ¬ plainC c)]; omega), hX⟩
  · refine opG_yes rfl rfl rfl rfl rfl (r_moveV (v := .int _ _) rfl) ?_
    refine opG_yes rfl rfl rfl rfl rfl (r_eql rfl rfl) ?_
    refine op rfl (r_pickFV (v := .bool _) rfl rfl) ?_
    refine op_split rfl (r_moveV (v := .bool (decide _)) rfl) (fun hg9 => ?_) (fun hg9 => ?_)
    · refine opG_no rfl rfl rfl rfl rfl ?_
      refine opG_no rfl rfl rfl rfl rfl ?_
      refine op rfl (r_pickTV (v := .bool _) rfl rfl) ?_
      refine op rfl (r_assignV (v := .bool _) rfl) ?_
      refine WL_nil ?_
      refine W_ret (finX_ret ?_)
      refine fin1 ?_
      first
        | exact ⟨_, rfl, bool_tt (Or.inl (by assumption)), hX⟩
        | exact ⟨_, rfl, bool_tt (by unfold wildC; omega), hX⟩
        | exact ⟨_, rfl, bool_iff (by unfold wildC; rw [or_iff_right (by assumption : ¬ plainC c)]; omega), hX⟩
    · refine opG_yes rfl rfl rfl rfl rfl (r_moveV (v := .int _ _) rfl) ?_
      refine opG_yes rfl rfl rfl rfl rfl (r_eql rfl rfl) ?_
      refine op rfl (r_pickFV (v := .bool _) rfl rfl) ?_
      refine op rfl (r_assignV (v := .bool _) rfl) ?_
      refine WL_nil ?_
      refine W_ret (finX_ret ?_)
      refine fin1 ?_
      first
        | exact ⟨_, rfl, bool_tt (Or.inl (by assumption)), hX⟩
        | exact ⟨_, rfl, bool_tt (by unfold wildC; omega), hX⟩
        | exact ⟨_, rfl, bool_iff (by unfold wildC; rw [or_iff_right (by assumption : ¬ plainC c)]; omega), hX⟩
theorem nameW_spec (p : List UInt8) (w : World) (hp : p.length ≤ 9223372036854775800) :
    Calls Tryd.prog 59 #[.string (str p), .func (.func 75) #[] #[]] w (fun en w' => ∃ v, en = .returned v ∧ v = .bool (decide (nameW p)) ∧ Ext w w') := by
  refine calls' (n := 34) (rs := #[.tmp 4]) (l := [.string (str p), .func (.func 75) #[] #[]]) Tryd.func59 rfl rfl rfl rfl rfl ?_
  have hX := Ext.refl w
  refine W_seq ?_
  refine W_region ?_
  refine op rfl (r_assignV (v := .bool _) rfl) ?_
  refine WL_nil ?_
  refine W_seq ?_
  refine W_seq ?_
  refine W_region ?_
  refine op rfl (r_moveV (v := .string _) rfl) ?_
  refine op_bytes rfl rfl Tryd.underlying9 Tryd.underlying45 Tryd.underlying5 ?_
  intro w2 b2 c2 E2 L2 hb2 hc2 hrow
  replace hX := hX.trans E2
  have hX2 := hX
  refine op rfl (r_len_slice rfl Tryd.underlying45) ?_
  refine op rfl (r_moveV (v := .int _ _) rfl) ?_
  refine WL_nil ?_
  refine W_block ?_
  refine W_loop [4, 6, 10, 11, 12, 13, 14, 15, 16, 17, 18] (fun q e' w' => ∃ i : Nat, q = p.length - i ∧ i ≤ p.length ∧ e' 10 = .int .i64 i ∧ (∀ k (h : k < p.length), k < i → wildC p[k]) ∧ Ext w2 w') (p.length) ?_ ?_
  · exact ⟨0, by omega, by omega, rfl, fun k _ h => absurd h (Nat.not_lt_zero k), Ext.refl _⟩
  intro k g w' hI
  obtain ⟨i, hq, hi, h10, hall, hE2⟩ := hI
  clear hX
  have hX := hX2.trans hE2
  refine W_set (i := 10) h10 ?_
  refine W_seq ?_
  refine W_region ?_
  refine op rfl (r_lss rfl rfl) ?_
  refine WL_nil ?_
  refine W_seq ?_
  refine W_ifp rfl (fun ht11 => ?_) (fun ht11 => ?_)
  · have hlt : i < p.length := by omega
    obtain ⟨g, off, hA, _, _, hcell⟩ := (hrow.keep (fun b hb => by rw [hb]; exact hE2.block b2 hb2) (fun _ h => h) : Ty.byte.Row w' (fun g => g = b2) (some ⟨b2, 0, none⟩) p).cell hlt
    cases hA
    refine W_skip ?_
    refine W_seq ?_
    refine W_block ?_
    refine W_seq ?_
    refine W_region ?_
    refine op rfl (r_indexAddr1 rfl rfl rfl Tryd.underlying45 Tryd.sz5 (by omega) (by omega)) ?_
    refine op rfl (r_load (v := .int .u8 (p[i].toNat : Nat)) rfl Tryd.underlying5 rfl hcell) ?_
    refine op rfl (r_assignV (v := .int _ _) rfl) ?_
    refine WL_nil ?_
    refine W_seq ?_
    refine W_region ?_
    refine op rfl (r_moveV (v := .func (.func 75) #[] #[]) rfl) ?_
    refine op rfl (r_moveV (v := .int _ _) rfl) ?_
    refine opCv rfl (r_callV (lb := []) rfl Tryd.func75 Tryd.nm75 rfl) (patternW_spec p[i] _) ?_
    rintro v w4 ⟨rfl, hE⟩
    replace hX := hX.trans hE
    have hE4 := hE
    refine op rfl (r_notP rfl) ?_
    refine WL_nil ?_
    refine W_ifp rfl (fun ht17 => ?_) (fun ht17 => ?_)
    · refine W_seq ?_
      refine W_region ?_
      refine op rfl (r_assignV (v := .bool _) rfl) ?_
      refine WL_nil ?_
      refine W_ret (blk_ret (blk_ret (finX_ret ?_)))
      refine fin1 ?_
      first
        | exact ⟨_, rfl, bool_iff ⟨fun h => ⟨hall', hg21, by omega, hg30, h⟩, fun h => h.2.2.2.2⟩, hX⟩
        | exact ⟨_, rfl, bool_ff (fun h => hg30 h.2.2.2.1), hX⟩
        | exact ⟨_, rfl, bool_ff (fun h => by have := h.2.2.1; omega), hX⟩
        | exact ⟨_, rfl, bool_ff (fun h => hg21 h.2.1), hX⟩
        | exact ⟨_, rfl, bool_ff (fun h => ht17 (h.1 _ (List.getElem_mem hlt))), hX⟩
    · refine W_skip ?_
      refine W_region ?_
      refine op rfl (r_add' rfl rfl (wrap_i64 (by omega) (by omega))) ?_
      refine op rfl (r_moveV (v := .int _ _) rfl) ?_
      refine WL_nil ?_
      refine ⟨?_, by repeat (first | with_reducible exact Out.refl _ _ | with_reducible exact Out.mix | refine Out.put rfl ?_ | refine Out.mixin rfl ?_ | exact Out.refl _ _ | exact Out.mix)⟩
      refine ⟨p.length - (i + 1), by omega, i + 1, rfl, by omega, rfl, fun k h hk => ?_, hE2.trans hE4⟩
      by_cases hki : k = i
      · subst hki; exact Classical.byContradiction ht17
      · exact hall k h (by omega)
  · obtain rfl : i = p.length := by omega
    have hall' : ∀ c ∈ p, wildC c := fun c hc => by
      obtain ⟨k, hk, rfl⟩ := List.mem_iff_getElem.1 hc
      exact hall k hk hk
    refine W_exit (blk_hit ?_)
    refine W_seq ?_
    refine W_region ?_
    refine op rfl (r_moveV (v := .string _) rfl) ?_
    refine op rfl (rt_neq rfl rfl) ?_
    refine op_split rfl (r_moveV (v := .bool (decide _)) rfl) (fun hg21 => ?_) (fun hg21 => ?_)
    · refine opG_yes rfl rfl rfl rfl rfl (r_moveV (v := .string _) rfl) ?_
      refine opG_yes rfl rfl rfl rfl rfl (rt_len rfl Tryd.underlying9) ?_
      refine opG_yes rfl rfl rfl rfl rfl (r_leq rfl rfl) ?_
      refine op rfl (r_pickTV (v := .bool _) rfl rfl) ?_
      refine op_split rfl (r_moveV (v := .bool (decide _)) rfl) (fun hg26 => ?_) (fun hg26 => ?_)
      · refine opG_yes rfl rfl rfl rfl rfl (r_moveV (v := .string _) rfl) ?_
        refine opG_yes rfl rfl rfl rfl rfl (rt_neq rfl rfl) ?_
        refine op rfl (r_pickTV (v := .bool _) rfl rfl) ?_
        refine op_split rfl (r_moveV (v := .bool (decide _)) rfl) (fun hg30 => ?_) (fun hg30 => ?_)
        · refine opG_yes rfl rfl rfl rfl rfl (r_moveV (v := .string _) rfl) ?_
          refine opG_yes rfl rfl rfl rfl rfl (rt_neq rfl rfl) ?_
          refine op rfl (r_pickTV (v := .bool _) rfl rfl) ?_
          refine op rfl (r_assignV (v := .bool _) rfl) ?_
          refine WL_nil ?_
          refine W_ret (finX_ret ?_)
          refine fin1 ?_
          first
            | exact ⟨_, rfl, bool_iff ⟨fun h => ⟨hall', hg21, by omega, hg30, h⟩, fun h => h.2.2.2.2⟩, hX⟩
            | exact ⟨_, rfl, bool_ff (fun h => hg30 h.2.2.2.1), hX⟩
            | exact ⟨_, rfl, bool_ff (fun h => by have := h.2.2.1; omega), hX⟩
            | exact ⟨_, rfl, bool_ff (fun h => hg21 h.2.1), hX⟩
            | exact ⟨_, rfl, bool_ff (fun h => ht17 (h.1 _ (List.getElem_mem hlt))), hX⟩
        · refine opG_no rfl rfl rfl rfl rfl ?_
          refine opG_no rfl rfl rfl rfl rfl ?_
          refine op rfl (r_pickFV (v := .bool _) rfl rfl) ?_
          refine op rfl (r_assignV (v := .bool _) rfl) ?_
          refine WL_nil ?_
          refine W_ret (finX_ret ?_)
          refine fin1 ?_
          first
            | exact ⟨_, rfl, bool_iff ⟨fun h => ⟨hall', hg21, by omega, hg30, h⟩, fun h => h.2.2.2.2⟩, hX⟩
            | exact ⟨_, rfl, bool_ff (fun h => hg30 h.2.2.2.1), hX⟩
            | exact ⟨_, rfl, bool_ff (fun h => by have := h.2.2.1; omega), hX⟩
            | exact ⟨_, rfl, bool_ff (fun h => hg21 h.2.1), hX⟩
            | exact ⟨_, rfl, bool_ff (fun h => ht17 (h.1 _ (List.getElem_mem hlt))), hX⟩
      · refine opG_no rfl rfl rfl rfl rfl ?_
        refine opG_no rfl rfl rfl rfl rfl ?_
        refine op rfl (r_pickFV (v := .bool _) rfl rfl) ?_
        refine op rfl (r_moveV (v := .bool _) rfl) ?_
        refine opG_no rfl rfl rfl rfl rfl ?_
        refine opG_no rfl rfl rfl rfl rfl ?_
        refine op rfl (r_pickFV (v := .bool _) rfl rfl) ?_
        refine op rfl (r_assignV (v := .bool _) rfl) ?_
        refine WL_nil ?_
        refine W_ret (finX_ret ?_)
        refine fin1 ?_
        first
          | exact ⟨_, rfl, bool_iff ⟨fun h => ⟨hall', hg21, by omega, hg30, h⟩, fun h => h.2.2.2.2⟩, hX⟩
          | exact ⟨_, rfl, bool_ff (fun h => hg30 h.2.2.2.1), hX⟩
          | exact ⟨_, rfl, bool_ff (fun h => by have := h.2.2.1; omega), hX⟩
          | exact ⟨_, rfl, bool_ff (fun h => hg21 h.2.1), hX⟩
          | exact ⟨_, rfl, bool_ff (fun h => ht17 (h.1 _ (List.getElem_mem hlt))), hX⟩
    · refine opG_no rfl rfl rfl rfl rfl ?_
      refine opG_no rfl rfl rfl rfl rfl ?_
      refine opG_no rfl rfl rfl rfl rfl ?_
      refine op rfl (r_pickFV (v := .bool _) rfl rfl) ?_
      refine op rfl (r_moveV (v := .bool _) rfl) ?_
      refine opG_no rfl rfl rfl rfl rfl ?_
      refine opG_no rfl rfl rfl rfl rfl ?_
      refine op rfl (r_pickFV (v := .bool _) rfl rfl) ?_
      refine op rfl (r_moveV (v := .bool _) rfl) ?_
      refine opG_no rfl rfl rfl rfl rfl ?_
      refine opG_no rfl rfl rfl rfl rfl ?_
      refine op rfl (r_pickFV (v := .bool _) rfl rfl) ?_
      refine op rfl (r_assignV (v := .bool _) rfl) ?_
      refine WL_nil ?_
      refine W_ret (finX_ret ?_)
      refine fin1 ?_
      first
        | exact ⟨_, rfl, bool_iff ⟨fun h => ⟨hall', hg21, by omega, hg30, h⟩, fun h => h.2.2.2.2⟩, hX⟩
        | exact ⟨_, rfl, bool_ff (fun h => hg30 h.2.2.2.1), hX⟩
        | exact ⟨_, rfl, bool_ff (fun h => by have := h.2.2.1; omega), hX⟩
        | exact ⟨_, rfl, bool_ff (fun h => hg21 h.2.1), hX⟩
        | exact ⟨_, rfl, bool_ff (fun h => ht17 (h.1 _ (List.getElem_mem hlt))), hX⟩
theorem contains2_spec (p : List UInt8) (w : World) {m : Int} (hm : w.cell? ⟨gMax, 0, none⟩ = some (.int .i64 m)) (hp : p.length ≤ 100) :
    Calls Tryd.prog 45 #[.string (str p), .string (str [42, 42])] w (fun en w' => ∃ v, en = .returned v ∧ v = .bool (decide (twoS p)) ∧ Ext w w') := by
  refine (Tryd.strings_Contains (str p) (str [42, 42]) m w (by rw [str_size]; omega) hm).mono ?_
  rintro en w' ⟨rfl, rfl⟩
  exact ⟨_, rfl, bool_iff (index_two p), Ext.refl _⟩
theorem contains1_spec (l : List UInt8) (c : UInt8) (w : World) :
    Calls Tryd.prog 45 #[.string (str l), .string (str [c])] w (fun en w' => ∃ v, en = .returned v ∧ v = .bool (decide (c ∈ l)) ∧ Ext w w') := by
  refine calls' (n := 9) (rs := #[.tmp 4]) (l := [.string (str l), .string (str [c])]) Tryd.func45 rfl rfl rfl rfl rfl ?_
  have hX := Ext.refl w
  refine W_seq ?_
  refine W_region ?_
  refine op rfl (r_assignV (v := .bool _) rfl) ?_
  refine WL_nil ?_
  refine W_seq ?_
  refine W_region ?_
  refine op rfl (r_moveV (v := .string _) rfl) ?_
  refine op rfl (r_moveV (v := .string _) rfl) ?_
  refine opCv rfl (r_call Tryd.func58 Tryd.nm58 rfl) (index_spec l c _) ?_
  rintro v2 w2 ⟨rfl, hE⟩
  replace hX := hX.trans hE
  refine op rfl (r_geq rfl rfl) ?_
  refine op rfl (r_assignV (v := .bool _) rfl) ?_
  refine WL_nil ?_
  refine W_ret (finX_ret ?_)
  refine fin1 ?_
  refine ⟨_, rfl, bool_iff ?_, hX⟩
  rcases parts_index c l with ⟨h, _, h2⟩ | ⟨i, h, h1, _, _, h2⟩
  · rw [h]; exact ⟨fun q => absurd q (by decide), fun q => absurd q h2⟩
  · rw [h]; exact ⟨fun _ => List.mem_of_getElem? h2, fun _ => by omega⟩
theorem pattern_spec (p : List UInt8) (w : World) {m : Int} (hm : w.cell? ⟨gMax, 0, none⟩ = some (.int .i64 m)) (hp : p.length ≤ 1099511627776) :
    Calls Tryd.prog 57 #[.string (str p)] w (fun en w' => ∃ v, en = .returned v ∧ v = .bool (decide (patR p)) ∧ Ext w w') := by
  refine calls' (n := 16) (rs := #[.tmp 2]) (l := [.string (str p)]) Tryd.func57 rfl rfl rfl rfl rfl ?_
  have hX := Ext.refl w
  refine W_seq ?_
  refine W_region ?_
  refine op rfl (r_assignV (v := .bool _) rfl) ?_
  refine WL_nil ?_
  refine W_seq ?_
  refine W_region ?_
  refine op rfl (r_assignV (v := .func (.func 75) #[] #[]) rfl) ?_
  refine WL_nil ?_
  refine W_seq ?_
  refine W_region ?_
  refine op rfl (r_moveV (v := .string _) rfl) ?_
  refine op rfl (rt_eql rfl rfl) ?_
  refine op_split rfl (r_moveV (v := .bool (decide _)) rfl) (fun hg6 => ?_) (fun hg6 => ?_)
  · refine opG_no rfl rfl rfl rfl rfl ?_
    refine opG_no rfl rfl rfl rfl rfl ?_
    refine opG_no rfl rfl rfl rfl rfl ?_
    refine opG_no rfl rfl rfl rfl rfl ?_
    refine opG_none rfl rfl rfl rfl ?_
    refine opG_none rfl rfl rfl rfl ?_
    refine opG_none rfl rfl rfl rfl ?_
    refine opG_no rfl rfl rfl rfl rfl ?_
    refine op rfl (r_pickTV (v := .bool _) rfl rfl) ?_
    refine op rfl (r_assignV (v := .bool _) rfl) ?_
    refine WL_nil ?_
    refine W_ret (finX_ret ?_)
    refine fin1 ?_
    first
      | exact ⟨_, rfl, bool_tt (Or.inl (by assumption)), hX⟩
      | (have h1 : ¬ p = [42, 42] := by assumption
         first
           | (have h2 : ¬ nameW p := by assumption
              exact ⟨_, rfl, bool_ff (fun h => h.elim h1 (fun h => h2 h.1)), hX⟩)
           | (have h2 : nameW p := by assumption
              exact ⟨_, rfl, bool_iff ⟨fun h => Or.inr ⟨h2, h⟩, fun h => h.elim (fun q => absurd q h1) (fun h => h.2)⟩, hX⟩))
  · refine opG_yes rfl rfl rfl rfl rfl (r_moveV (v := .string _) rfl) ?_
    refine opG_yes rfl rfl rfl rfl rfl (r_moveV (v := .func (.func 75) #[] #[]) rfl) ?_
    refine opGCv_yes rfl rfl rfl rfl rfl (r_call Tryd.func59 Tryd.nm59 rfl) (nameW_spec p _ (by omega)) ?_
    rintro v5 w5 ⟨rfl, hE⟩
    replace hX := hX.trans hE
    refine opG_split rfl rfl rfl rfl rfl (r_moveV (v := .bool (decide _)) rfl) (fun hg10 => ?_) (fun hg10 => ?_)
    · refine opG_yes rfl rfl rfl rfl rfl (r_moveV (v := .string _) rfl) ?_
      refine opGCv_yes rfl rfl rfl rfl rfl (r_call Tryd.func45 Tryd.nm45 rfl) (contains2_spec p _ (ext_cell hX hm) (by have := hg10.2.2.1; omega)) ?_
      rintro v8 w8 ⟨rfl, hE⟩
      replace hX := hX.trans hE
      refine opG_yes rfl rfl rfl rfl rfl (r_notP rfl) ?_
      refine opG_yes rfl rfl rfl rfl rfl (r_pickTV (v := .bool _) rfl rfl) ?_
      refine op rfl (r_pickFV (v := .bool _) rfl rfl) ?_
      refine op rfl (r_assignV (v := .bool _) rfl) ?_
      refine WL_nil ?_
      refine W_ret (finX_ret ?_)
      refine fin1 ?_
      first
        | exact ⟨_, rfl, bool_tt (Or.inl (by assumption)), hX⟩
        | (have h1 : ¬ p = [42, 42] := by assumption
           first
             | (have h2 : ¬ nameW p := by assumption
                exact ⟨_, rfl, bool_ff (fun h => h.elim h1 (fun h => h2 h.1)), hX⟩)
             | (have h2 : nameW p := by assumption
                exact ⟨_, rfl, bool_iff ⟨fun h => Or.inr ⟨h2, h⟩, fun h => h.elim (fun q => absurd q h1) (fun h => h.2)⟩, hX⟩))
    · refine opG_no rfl rfl rfl rfl rfl ?_
      refine opG_no rfl rfl rfl rfl rfl ?_
      refine opG_no rfl rfl rfl rfl rfl ?_
      refine opG_yes rfl rfl rfl rfl rfl (r_pickFV (v := .bool _) rfl rfl) ?_
      refine op rfl (r_pickFV (v := .bool _) rfl rfl) ?_
      refine op rfl (r_assignV (v := .bool _) rfl) ?_
      refine WL_nil ?_
      refine W_ret (finX_ret ?_)
      refine fin1 ?_
      first
        | exact ⟨_, rfl, bool_tt (Or.inl (by assumption)), hX⟩
        | (have h1 : ¬ p = [42, 42] := by assumption
           first
             | (have h2 : ¬ nameW p := by assumption
                exact ⟨_, rfl, bool_ff (fun h => h.elim h1 (fun h => h2 h.1)), hX⟩)
             | (have h2 : nameW p := by assumption
                exact ⟨_, rfl, bool_iff ⟨fun h => Or.inr ⟨h2, h⟩, fun h => h.elim (fun q => absurd q h1) (fun h => h.2)⟩, hX⟩))
end Go.Proofs.YtafcaigjijajnaaDoor
