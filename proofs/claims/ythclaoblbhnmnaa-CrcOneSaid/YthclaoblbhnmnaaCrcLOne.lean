/-
  The walk of a law of chapter 04, but for its row.
-/
import Derived.Test.YthclaoblbhnmnaaFacts
import Derived.Test.YthclaoblbhnmnaaLazy
import Derived.Test.YthclaoblbhnmnaaCrcL
namespace Go.Proofs.Ythclaoblbhnmnaa
open Go Go.Eng Go.RowKit Go.Proofs
set_option linter.unusedVariables false

theorem upd_zeros (z : Nat) : ∀ n, Crc.upd n (List.replicate z 0) = Crc.steps (8 * z) n := by
  induction z with
  | zero => intro n; rfl
  | succ z ih =>
    intro n
    rw [show 8 * (z + 1) = 8 + 8 * z from by omega, Crc.steps_add, ← ih]
    simp [Crc.upd, List.replicate_succ, Crc.byte]
theorem zeros_blk {w : World} {g z : Nat} {t : TypeId} (h : Blk w g (Array.replicate z (.int .u8 0)) t) : Bytes w (some ⟨g, 0, none⟩) (List.replicate z 0) :=
  Blk.row h (Blk.lt h) fun i hi => ⟨[.int .u8 0], ⟨by simp [Ty.byte, Ty.scalar], trivial⟩, fun j hj => by
    simp only [Ty.byte, Ty.scalar] at hj ⊢
    obtain rfl : j = 0 := by omega
    simp at hi
    simp [hi]⟩

theorem crcOne_walk (W : World) (n : Int) (hn : inK .u32 n) (c : Int) (hc : inK .u8 c) (k : Int) (hk : inK .u8 k) :
    Calls Try.prog 8 #[.int .u32 n, .int .u8 c, .int .u8 k] W (fun en w' => ∃ v, en = .returned v ∧ v = .bool true ∧ Ext W w') := by
  obtain ⟨n, rfl⟩ := u32_of hn
  obtain ⟨c, rfl⟩ := u8_of hc
  obtain ⟨k, rfl⟩ := u8_of hk
  obtain ⟨z, hz, hzk⟩ : ∃ z : Nat, z ≤ 20 ∧ ((k.toNat : Nat) : Int).tmod 20 = (z : Int) := by
    refine ⟨k.toNat % 20, by omega, ?_⟩
    rw [Int.tmod_eq_emod_of_nonneg (Int.natCast_nonneg _)]; simp
  have hkb := k.toNat_lt
  have hlr : (List.replicate z (0 : UInt8)).length = z := by simp
  refine calls' (n := 53) (rs := #[.tmp 6]) (l := [.int .u32 n.toNat, .int .u8 c.toNat, .int .u8 k.toNat]) Try.func8 rfl rfl rfl rfl ?_
  refine W_seq ?_
  refine W_region ?_
  refine op rfl (r_assignV (v := .bool _) rfl) ?_
  refine WL_nil ?_
  refine W_seq ?_
  refine W_region ?_
  refine op rfl (r_moveV (v := .int _ _) rfl) ?_
  refine op rfl (r_xorFF32 rfl rfl) ?_
  refine op rfl (r_moveV (v := .int _ _) rfl) ?_
  refine op rfl (r_conv8_32 (a := c.toBitVec) rfl Try.underlying5 Try.underlying22) ?_
  refine op rfl (r_xor32 rfl rfl) ?_
  refine op rfl (r_assignV (v := .int _ _) rfl) ?_
  refine WL_nil ?_
  refine W_seq ?_
  refine W_seq ?_
  refine W_region ?_
  refine op rfl (r_assignV (v := .int _ _) rfl) ?_
  refine WL_nil ?_
  refine W_block ?_
  refine W_loop [7, 8, 17, 18, 19, 20, 21, 22] (fun j g w' => ∃ i : Nat, g 8 = .int .i64 i ∧ i ≤ 8 ∧ j = 8 - i ∧ g 7 = .int .u32 (Crc.steps i (~~~ n ^^^ c.toBitVec.setWidth 32)).toNat ∧ W = w') (8) ?_ ?_
  · exact ⟨0, rfl, by omega, by omega, rfl, rfl⟩
  intro k g w' hI
  obtain ⟨i, h8, hi, rfl, h7, rfl⟩ := hI
  refine W_set (i := 8) h8 ?_
  refine W_set (i := 7) h7 ?_
  refine W_seq ?_
  refine W_seq ?_
  refine W_region ?_
  refine op rfl (r_moveV (v := .int _ _) rfl) ?_
  refine op rfl (r_lss rfl rfl) ?_
  refine WL_nil ?_
  refine W_ifp rfl (fun ht18 => ?_) (fun ht18 => ?_)
  · refine W_skip ?_
    refine W_seq ?_
    refine W_block ?_
    refine W_region ?_
    refine op rfl (r_moveV (v := .int _ _) rfl) ?_
    refine opCv rfl (r_call Try.func14 Try.nm14 rfl) (step_spec _ _) ?_
    rintro v w2 ⟨rfl, rfl⟩
    refine op rfl (r_assignV (v := .int _ _) rfl) ?_
    refine WL_nil ?_
    refine W_region ?_
    refine op rfl (r_moveV (v := .int _ _) rfl) ?_
    refine op rfl (r_add' rfl rfl (wrap_i64 (by omega) (by omega))) ?_
    refine op rfl (r_assignV (v := .int _ _) rfl) ?_
    refine WL_nil ?_
    refine ⟨?_, by repeat (first | exact Out.refl _ _ | exact Out.mix | refine Out.put rfl ?_ | refine Out.mixin rfl ?_)⟩
    exact ⟨8 - (i + 1), by omega, i + 1, rfl, by omega, rfl, by rw [Crc.steps_succ]; rfl, rfl⟩
  · obtain rfl : i = 8 := by omega
    refine W_exit (blk_hit ?_)
    refine W_seq ?_
    refine W_seq ?_
    refine W_region ?_
    refine op rfl (r_moveV (v := .int _ _) rfl) ?_
    refine op rfl (r_moveV (v := .int _ _) rfl) ?_
    refine op_newS rfl (r_buildSlice (vs := [.int _ _]) Try.underlying24 Try.sz5 Try.zero5 rfl rfl rfl) ?_
    intro w6_2 b6_2 E6_2 B6_2 L6_2
    refine opCv rfl (r_call Try.func10 Try.nm10 rfl) (more_spec n (some ⟨b6_2, 0, none⟩) 1 [c] _ (by show 1 ≤ 140737488355328; omega) (bytes_blk (l := [c]) B6_2 (Blk.lt B6_2))) ?_
    rintro v w3 ⟨rfl, hE6⟩
    refine op rfl (r_moveV (v := .int _ _) rfl) ?_
    refine op rfl (r_xorFF32 rfl rfl) ?_
    refine op rfl (r_neq rfl rfl) ?_
    refine WL_nil ?_
    refine W_ifp rfl (fun ht29 => ?_) (fun ht29 => ?_)
    · exact absurd rfl ht29
    · refine W_skip ?_
      refine W_seq ?_
      refine W_region ?_
      refine op rfl (r_moveV (v := .int _ _) rfl) ?_
      refine op rfl (r_conv' rfl Try.underlying5 Try.underlying3 (wrap_i64 (by omega) (by omega))) ?_
      refine op rfl (r_rem' rfl rfl (by omega) hzk) ?_
      refine op rfl (r_assignV (v := .int _ _) rfl) ?_
      refine WL_nil ?_
      refine W_seq ?_
      refine W_region ?_
      refine op rfl (r_moveV (v := .int _ _) rfl) ?_
      refine op rfl (r_xorFF32 rfl rfl) ?_
      refine op rfl (r_assignV (v := .int _ _) rfl) ?_
      refine WL_nil ?_
      refine W_seq ?_
      refine W_seq ?_
      refine W_region ?_
      refine op rfl (r_assignV (v := .int _ _) rfl) ?_
      refine WL_nil ?_
      refine W_block ?_
      refine W_loop [10, 11, 35, 36, 37, 38, 39, 40, 41, 42] (fun j g w' => ∃ i : Nat, g 11 = .int .i64 i ∧ i ≤ 8 * z ∧ j = 8 * z - i ∧ g 10 = .int .u32 (Crc.steps i (~~~ n)).toNat ∧ Ext W w') (8 * z) ?_ ?_
      · exact ⟨0, rfl, by omega, by omega, rfl, E6_2.trans hE6⟩
      intro k g w' hI
      obtain ⟨i2, h11, hi2, rfl, h10, HE⟩ := hI
      refine W_set (i := 11) h11 ?_
      refine W_set (i := 10) h10 ?_
      refine W_seq ?_
      refine W_seq ?_
      refine W_region ?_
      refine op rfl (r_moveV (v := .int _ _) rfl) ?_
      refine op rfl (r_moveV (v := .int _ _) rfl) ?_
      refine op rfl (r_mul' rfl rfl (wrap_i64 (by omega) (by omega))) ?_
      refine op rfl (r_lss rfl rfl) ?_
      refine WL_nil ?_
      refine W_ifp rfl (fun ht38 => ?_) (fun ht38 => ?_)
      · refine W_skip ?_
        refine W_seq ?_
        refine W_block ?_
        refine W_region ?_
        refine op rfl (r_moveV (v := .int _ _) rfl) ?_
        refine opCv rfl (r_call Try.func15 Try.nm15 rfl) (refStep_spec _ _) ?_
        rintro v w4 ⟨rfl, rfl⟩
        refine op rfl (r_assignV (v := .int _ _) rfl) ?_
        refine WL_nil ?_
        refine W_region ?_
        refine op rfl (r_moveV (v := .int _ _) rfl) ?_
        refine op rfl (r_add' rfl rfl (wrap_i64 (by omega) (by omega))) ?_
        refine op rfl (r_assignV (v := .int _ _) rfl) ?_
        refine WL_nil ?_
        refine ⟨?_, by repeat (first | exact Out.refl _ _ | exact Out.mix | refine Out.put rfl ?_ | refine Out.mixin rfl ?_)⟩
        exact ⟨8 * z - (i2 + 1), by omega, i2 + 1, rfl, by omega, rfl, by rw [Crc.steps_succ i2]; rfl, HE⟩
      · obtain rfl : i2 = 8 * z := by omega
        refine W_exit (blk_hit ?_)
        refine W_seq ?_
        refine W_region ?_
        refine op rfl (r_moveV (v := .int _ _) rfl) ?_
        refine op rfl (r_moveV (v := .int _ _) rfl) ?_
        refine op_newS2 rfl (r_makeSlice rfl rfl Try.underlying24 Try.sz5 Try.by5 Try.zero5 (by omega) (by omega) (by omega)) ?_
        intro w14_2 b14_2 E14_2 B14_2 L14_2
        refine opCv rfl (r_call Try.func10 Try.nm10 rfl) (hlr ▸ more_spec n (some ⟨b14_2, 0, none⟩) z (List.replicate z 0) _ (by simp; show z ≤ 140737488355328; omega) (zeros_blk (z := z) (by have h := B14_2; rw [show (Value.int IntKind.u8 0).cells = #[Value.int .u8 0] from rfl, madeCells_one] at h; exact h))) ?_
        rintro v w5 ⟨rfl, hE⟩
        refine op rfl (r_moveV (v := .int _ _) rfl) ?_
        refine op rfl (r_xorFF32 rfl rfl) ?_
        refine op rfl (r_eql rfl rfl) ?_
        refine op_true rfl (r_moveV (v := .bool (decide _)) rfl) (by rw [Crc.more, upd_zeros]) ?_
        refine opGCv_yes rfl rfl rfl rfl rfl (r_call Try.func9 Try.nm9 rfl) (known_spec _) ?_
        rintro v w6 ⟨rfl, hE8⟩
        refine op rfl (r_pickTV (v := .bool _) rfl rfl) ?_
        refine op rfl (r_assignV (v := .bool _) rfl) ?_
        refine WL_nil ?_
        refine W_ret (finX_ret ?_)
        refine fin1 ?_
        exact ⟨_, rfl, rfl, ((HE.trans E14_2).trans hE).trans hE8⟩
end Go.Proofs.Ythclaoblbhnmnaa
