/-
  The walk of a law of chapter 05, but for its row.
-/
import Derived.Test.YtgclnpafkjfmhaaFacts
import Derived.Test.YtgclnpafkjfmhaaFrameK
namespace Go.Proofs.Ytgclnpafkjfmhaa
open Go Go.Eng Go.RowKit Go.Proofs
set_option linter.unusedVariables false

theorem val_cons (c : UInt8) (l : List UInt8) : Frame.val (c :: l) = c.toNat * 256 ^ l.length + Frame.val l := by
  have := Frame.val_append [c] l
  simpa [Frame.val] using this
theorem less_val : ∀ (x y : List UInt8), x.length = y.length → (Op.bytesLess x y = true ↔ Frame.val x < Frame.val y)
  | [], [], _ => by simp [Op.bytesLess]
  | [], _ :: _, h => by simp at h
  | _ :: _, [], h => by simp at h
  | a :: x, b :: y, h => by
    have hl : x.length = y.length := by simpa using h
    have ih := less_val x y hl
    have hx := Frame.val_lt x
    have hy := Frame.val_lt y
    rw [val_cons, val_cons, hl]
    rw [hl] at hx
    simp only [Op.bytesLess, Bool.or_eq_true, Bool.and_eq_true, decide_eq_true_eq, beq_iff_eq, ih]
    generalize Frame.val x = p at *
    generalize Frame.val y = q at *
    generalize 256 ^ y.length = m at *
    constructor
    · rintro (h | ⟨rfl, h⟩)
      · have h' : a.toNat + 1 ≤ b.toNat := UInt8.lt_iff_toNat_lt.1 h
        have : (a.toNat + 1) * m ≤ b.toNat * m := Nat.mul_le_mul_right m h'
        rw [Nat.add_mul] at this
        omega
      · omega
    · intro h
      by_cases hab : a = b
      · subst hab; right; exact ⟨rfl, by omega⟩
      · left
        refine UInt8.lt_iff_toNat_lt.2 ?_
        refine Nat.lt_of_not_le fun hle => ?_
        have hne : b.toNat ≠ a.toNat := fun e => hab (UInt8.toNat_inj.1 e.symm)
        have h' : b.toNat + 1 ≤ a.toNat := by omega
        have : (b.toNat + 1) * m ≤ a.toNat * m := Nat.mul_le_mul_right m h'
        rw [Nat.add_mul] at this
        omega
theorem shl1 {k : Nat} (hk : k ≤ 63) : IntKind.wrap .u64 (1 * 2 ^ (min (k : Int).toNat (IntKind.bits .u64))) = ((2 ^ k : Nat) : Int) := by
  have h1 : min (k : Int).toNat (IntKind.bits .u64) = k := by simp [IntKind.bits]; omega
  have h2 : (2 : Nat) ^ k ≤ 2 ^ 63 := Nat.pow_le_pow_right (by decide) hk
  have h3 : (2 : Nat) ^ 63 = 9223372036854775808 := by decide
  rw [h1, Int.one_mul, wrap_u64 (Int.le_of_lt (Int.pow_pos (by decide))) (by
    have : ((2 : Int) ^ k) = ((2 ^ k : Nat) : Int) := by simp
    omega)]
  simp

theorem frameNums_walk (W : World) (a : Int) (ha' : inK .u64 a) (b : Int) (hb' : inK .u64 b) (wide : Int) (hw : inK .u8 wide) :
    Calls Try.prog 6 #[.int .u64 a, .int .u64 b, .int .u8 wide] W (fun en w' => ∃ v, en = .returned v ∧ v = .bool true ∧ Ext W w') := by
  obtain ⟨a, rfl, ha⟩ := u64_of ha'
  obtain ⟨b, rfl, hb⟩ := u64_of hb'
  obtain ⟨wd, rfl⟩ := u8_of hw
  have hwd := wd.toNat_lt
  obtain ⟨q, hq, hqt⟩ : ∃ q : Nat, 1 + q ≤ 8 ∧ ((wd.toNat : Nat) : Int).tmod 8 = (q : Int) := by
    refine ⟨wd.toNat % 8, by omega, ?_⟩
    rw [Int.tmod_eq_emod_of_nonneg (Int.natCast_nonneg _)]; simp
  have h8 : (256 : Nat) ^ 8 = 2 ^ 64 := by decide
  have hla := Frame.num_length a 8
  have hlb := Frame.num_length b 8
  have hga : Frame.get (Frame.num a 8) = a := by rw [Frame.get_num (by omega), h8, Nat.mod_eq_of_lt ha]
  have hva : Frame.val (Frame.num a 8) = a := by rw [Frame.val_num, h8, Nat.mod_eq_of_lt ha]
  have hvb : Frame.val (Frame.num b 8) = b := by rw [Frame.val_num, h8, Nat.mod_eq_of_lt hb]
  have hwid : Frame.wid ((1 + q : Nat) : Int) = 1 + q := by unfold Frame.wid; omega
  have hlq := Frame.num_length a (1 + q)
  have hgq : Frame.get (Frame.num a (1 + q)) = a % 256 ^ (1 + q) := Frame.get_num hq
  refine calls' (n := 69) (rs := #[.tmp 6]) (l := [.int .u64 a, .int .u64 b, .int .u8 wd.toNat]) Try.func6 rfl rfl rfl rfl rfl ?_
  refine W_seq ?_
  refine W_region ?_
  refine op rfl (r_assignV (v := .bool _) rfl) ?_
  refine WL_nil ?_
  refine W_seq ?_
  refine W_region ?_
  refine op rfl (r_moveV (v := .int _ _) rfl) ?_
  refine opCv rfl (r_call Try.func18 Try.nm18 rfl) (num_spec a ha 8 _) ?_
  rintro v1 w1 ⟨E1, O1⟩
  replace O1 : Bs W.heap.size 5 w1 v1 (Frame.num a 8) := O1
  obtain ⟨A1, c1, rfl, hc1, hR1⟩ := own_frow O1
  refine op rfl (r_assignV (v := .slice _ _ _) rfl) ?_
  refine WL_nil ?_
  refine W_seq ?_
  refine W_region ?_
  refine op rfl (r_moveV (v := .int _ _) rfl) ?_
  refine opCv rfl (r_call Try.func18 Try.nm18 rfl) (num_spec b hb 8 _) ?_
  rintro v2 w2 ⟨E2, O2⟩
  replace O2 : Bs w1.heap.size 5 w2 v2 (Frame.num b 8) := O2
  obtain ⟨A2, c2, rfl, hc2, hR2⟩ := own_frow O2
  refine op rfl (r_assignV (v := .slice _ _ _) rfl) ?_
  refine WL_nil ?_
  refine W_seq ?_
  refine W_seq ?_
  refine W_region ?_
  refine op rfl (r_moveV (v := .slice _ _ _) rfl) ?_
  refine op rfl (r_len_slice rfl Try.underlying22) ?_
  refine op rfl (r_neq rfl rfl) ?_
  refine op_false rfl (r_moveV (v := .bool (decide _)) rfl) (by rw [hla]; decide) ?_
  refine opG_yes rfl rfl rfl rfl rfl (r_moveV (v := .slice _ _ _) rfl) ?_
  refine opG_yes rfl rfl rfl rfl rfl (r_len_slice rfl Try.underlying22) ?_
  refine opG_yes rfl rfl rfl rfl rfl (r_neq rfl rfl) ?_
  refine op rfl (r_pickFV (v := .bool _) rfl rfl) ?_
  refine op_false rfl (r_moveV (v := .bool (decide _)) rfl) (by rw [hlb]; decide) ?_
  refine opG_yes rfl rfl rfl rfl rfl (r_moveV (v := .slice _ _ _) rfl) ?_
  refine opGCv_yes rfl rfl rfl rfl rfl (r_call Try.func19 Try.nm19 rfl) (get_spec A1 c1 (Frame.num a 8) _ hc1 (bigs _ (by omega)) (hR1.ext E2)) ?_
  rintro v w3 ⟨rfl, rfl⟩
  refine opG_yes rfl rfl rfl rfl rfl (r_moveV (v := .int _ _) rfl) ?_
  refine opG_yes rfl rfl rfl rfl rfl (r_neq rfl rfl) ?_
  refine op rfl (r_pickFV (v := .bool _) rfl rfl) ?_
  refine op_false rfl (r_moveV (v := .bool (decide _)) rfl) (by rw [hga]; simp) ?_
  refine opG_yes rfl rfl rfl rfl rfl (r_moveV (v := .slice _ _ _) rfl) ?_
  refine opG_yes rfl rfl rfl rfl rfl (r_str rfl Try.underlying22 Try.underlying5 Try.underlying9 (hR1.ext E2)) ?_
  refine opG_yes rfl rfl rfl rfl rfl (r_moveV (v := .slice _ _ _) rfl) ?_
  refine opG_yes rfl rfl rfl rfl rfl (r_str rfl Try.underlying22 Try.underlying5 Try.underlying9 hR2) ?_
  refine opG_yes rfl rfl rfl rfl rfl (rs_lss rfl rfl) ?_
  refine opG_yes rfl rfl rfl rfl rfl (r_moveV (v := .int _ _) rfl) ?_
  refine opG_yes rfl rfl rfl rfl rfl (r_moveV (v := .int _ _) rfl) ?_
  refine opG_yes rfl rfl rfl rfl rfl (r_lss rfl rfl) ?_
  refine opG_yes rfl rfl rfl rfl rfl (rb_neq rfl rfl Try.underlying4) ?_
  refine op rfl (r_pickFV (v := .bool _) rfl rfl) ?_
  refine WL_nil ?_
  refine W_ifp rfl (fun ht39 => ?_) (fun ht39 => ?_)
  · refine absurd ?_ ht39
    rw [decide_eq_decide, str_list, str_list, less_val _ _ (by rw [hla, hlb]), hva, hvb]
    omega
  · refine W_skip ?_
    refine W_seq ?_
    refine W_region ?_
    refine op rfl (r_moveV (v := .int _ _) rfl) ?_
    refine op rfl (r_conv' rfl Try.underlying5 Try.underlying3 (wrap_i64 (by omega) (by omega))) ?_
    refine op rfl (r_rem' rfl rfl (by decide) hqt) ?_
    refine op rfl (r_add' (r := ((1 + q : Nat) : Int)) rfl rfl (by rw [wrap_i64 (by omega) (by omega)]; omega)) ?_
    refine op rfl (r_assignV (v := .int _ _) rfl) ?_
    refine WL_nil ?_
    refine W_seq ?_
    refine W_region ?_
    refine op rfl (r_moveV (v := .int _ _) rfl) ?_
    refine op rfl (r_assignV (v := .int .u64 (a : Nat)) rfl) ?_
    refine WL_nil ?_
    refine W_cut [10, 45, 46, 47, 48, 49, 50, 51] (fun g w' => g 10 = .int .u64 (a % 256 ^ (1 + q) : Nat) ∧ Ext W w') ?_ ?_
    · refine W_seq ?_
      refine W_region ?_
      refine op rfl (r_moveV (v := .int _ _) rfl) ?_
      refine op rfl (r_lss rfl rfl) ?_
      refine WL_nil ?_
      refine W_ifp rfl (fun ht46 => ?_) (fun ht46 => ?_)
      · refine W_region ?_
        refine op rfl (r_moveV (v := .int _ _) rfl) ?_
        refine op rfl (r_moveV (v := .int _ _) rfl) ?_
        refine op rfl (r_mul' (r := ((8 * (1 + q) : Nat) : Int)) rfl rfl (by rw [wrap_i64 (by omega) (by omega)]; omega)) ?_
        refine op (v := .int .u64 ((2 ^ (8 * (1 + q)) : Nat) : Int)) rfl ((r_shl rfl rfl (by omega)).trans (by rw [shl1 (by omega)])) ?_
        refine op rfl (r_rem' (r := ((a % 2 ^ (8 * (1 + q)) : Nat) : Int)) rfl rfl (by have := Nat.pow_pos (n := 8 * (1 + q)) (show 0 < 2 from by decide); omega) (by rw [Int.tmod_eq_emod_of_nonneg (Int.natCast_nonneg _)]; simp)) ?_
        refine op rfl (r_assignV (v := .int _ _) rfl) ?_
        refine WL_nil ?_
        refine ⟨?_, by repeat (first | exact Out.refl _ _ | exact Out.mix | refine Out.put rfl ?_ | refine Out.mixin rfl ?_)⟩
        first | exact ⟨by rw [show (256 : Nat) ^ (1 + q) = 2 ^ (8 * (1 + q)) from by rw [Nat.pow_mul]]; rfl, E1.trans E2⟩ | exact ⟨by rw [show 1 + q = 8 from by omega, h8, Nat.mod_eq_of_lt ha]; rfl, E1.trans E2⟩
      · refine W_skip ?_
        refine ⟨?_, by repeat (first | exact Out.refl _ _ | exact Out.mix | refine Out.put rfl ?_ | refine Out.mixin rfl ?_)⟩
        first | exact ⟨by rw [show (256 : Nat) ^ (1 + q) = 2 ^ (8 * (1 + q)) from by rw [Nat.pow_mul]]; rfl, E1.trans E2⟩ | exact ⟨by rw [show 1 + q = 8 from by omega, h8, Nat.mod_eq_of_lt ha]; rfl, E1.trans E2⟩
    rintro gift46 w' hJ
    obtain ⟨g10, X9⟩ := hJ
    refine W_set (i := 10) g10 ?_
    refine W_seq ?_
    refine W_region ?_
    refine op rfl (r_moveV (v := .int _ _) rfl) ?_
    refine op rfl (r_moveV (v := .int _ _) rfl) ?_
    refine opCv rfl (r_call Try.func18 Try.nm18 rfl) (num_spec a ha ((1 + q : Nat) : Int) _) ?_
    rintro v9 w9 ⟨E9, O9⟩
    rw [hwid] at O9
    obtain ⟨A9, c9, rfl, hc9, hR9⟩ := own_frow O9
    refine opCv rfl (r_call Try.func19 Try.nm19 rfl) (get_spec A9 c9 (Frame.num a (1 + q)) _ hc9 (bigs _ (by omega)) hR9) ?_
    rintro v w10 ⟨rfl, rfl⟩
    refine op rfl (r_moveV (v := .int _ _) rfl) ?_
    refine op rfl (r_eql rfl rfl) ?_
    refine op_true rfl (r_moveV (v := .bool (decide _)) rfl) (by rw [hgq]) ?_
    refine opG_yes rfl rfl rfl rfl rfl (r_moveV (v := .int _ _) rfl) ?_
    refine opG_yes rfl rfl rfl rfl rfl (r_moveV (v := .int _ _) rfl) ?_
    refine opGCv_yes rfl rfl rfl rfl rfl (r_call Try.func18 Try.nm18 rfl) (num_spec a ha ((1 + q : Nat) : Int) _) ?_
    rintro v11 w11 ⟨E11, O11⟩
    rw [hwid] at O11
    obtain ⟨A11, c11, rfl, hc11, hR11⟩ := own_frow O11
    refine opG_yes rfl rfl rfl rfl rfl (r_len_slice rfl Try.underlying22) ?_
    refine opG_yes rfl rfl rfl rfl rfl (r_moveV (v := .int _ _) rfl) ?_
    refine opG_yes rfl rfl rfl rfl rfl (r_eql rfl rfl) ?_
    refine op rfl (r_pickTV (v := .bool _) rfl rfl) ?_
    refine op_true rfl (r_moveV (v := .bool (decide _)) rfl) (by rw [hlq]) ?_
    refine opGCv_yes rfl rfl rfl rfl rfl (r_call Try.func8 Try.nm8 rfl) (known_spec _) ?_
    rintro v w12 ⟨rfl, E12⟩
    refine op rfl (r_pickTV (v := .bool _) rfl rfl) ?_
    refine op rfl (r_assignV (v := .bool _) rfl) ?_
    refine WL_nil ?_
    refine W_ret (finX_ret ?_)
    refine fin1 ?_
    exact ⟨_, rfl, rfl, ((X9.trans E9).trans E11).trans E12⟩
end Go.Proofs.Ytgclnpafkjfmhaa
