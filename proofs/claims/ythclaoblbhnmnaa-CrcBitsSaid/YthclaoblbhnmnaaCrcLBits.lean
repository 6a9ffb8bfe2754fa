/-
  The walk of a law of chapter 04, but for its row.
-/
import Derived.Test.YthclaoblbhnmnaaFacts
import Derived.Test.YthclaoblbhnmnaaSlice
import Derived.Test.YthclaoblbhnmnaaCrcL
namespace Go.Proofs.Ythclaoblbhnmnaa
open Go Go.Eng Go.RowKit Go.Proofs
set_option linter.unusedVariables false

theorem crcBits_walk (W : World) (A : Option Addr) (c : Nat) (l : List UInt8) (hlc : l.length ≤ c) (hl : l.length ≤ big) (hA : Ty.byte.Row W (old W) A l) (at_ : Int) (hat : inK .u16 at_) (x : Int) (hx : inK .u32 x) :
    Calls Try.prog 5 #[.slice A l.length c, .int .u16 at_, .int .u32 x] W (fun en w' => ∃ v, en = .returned v ∧ v = .bool true ∧ Ext W w') := by
  obtain ⟨x, rfl⟩ := u32_of hx
  obtain ⟨at_, rfl, ha⟩ := u16_of hat
  have hlb := hl
  unfold big at hl
  refine calls' (n := 64) (rs := #[.tmp 6]) (l := [.slice A l.length c, .int .u16 at_, .int .u32 x.toNat]) Try.func5 rfl rfl rfl rfl ?_
  refine W_seq ?_
  refine W_region ?_
  refine op rfl (r_assignV (v := .bool _) rfl) ?_
  refine WL_nil ?_
  refine W_seq ?_
  refine W_seq ?_
  refine W_region ?_
  refine op rfl (r_moveV (v := .slice _ _ _) rfl) ?_
  refine op rfl (r_len_slice rfl Try.underlying24) ?_
  refine op rfl (r_gtr rfl rfl) ?_
  refine op_split rfl (r_moveV (v := .bool (decide _)) rfl) (fun hg13 => ?_) (fun hg13 => ?_)
  · refine opG_no rfl rfl rfl rfl rfl ?_
    refine opG_no rfl rfl rfl rfl rfl ?_
    refine opG_no rfl rfl rfl rfl rfl ?_
    refine op rfl (r_pickTV (v := .bool _) rfl rfl) ?_
    refine op rfl (r_moveV (v := .bool _) rfl) ?_
    refine opG_no rfl rfl rfl rfl rfl ?_
    refine opG_no rfl rfl rfl rfl rfl ?_
    refine op rfl (r_pickTV (v := .bool _) rfl rfl) ?_
    refine WL_nil ?_
    refine W_then rfl ?_
    refine W_seq ?_
    refine W_region ?_
    refine opCv rfl (r_call Try.func9 Try.nm9 rfl) (known_spec _) ?_
    rintro v w2 ⟨rfl, hE⟩
    refine op rfl (r_assignV (v := .bool _) rfl) ?_
    refine WL_nil ?_
    refine W_ret (finX_ret ?_)
    refine fin1 ?_
    exact ⟨_, rfl, rfl, hE⟩
  · refine opG_yes rfl rfl rfl rfl rfl (r_moveV (v := .slice _ _ _) rfl) ?_
    refine opG_yes rfl rfl rfl rfl rfl (r_len_slice rfl Try.underlying24) ?_
    refine opG_yes rfl rfl rfl rfl rfl (r_lss rfl rfl) ?_
    refine op rfl (r_pickFV (v := .bool _) rfl rfl) ?_
    refine op_split rfl (r_moveV (v := .bool (decide _)) rfl) (fun hg18 => ?_) (fun hg18 => ?_)
    · refine opG_no rfl rfl rfl rfl rfl ?_
      refine opG_no rfl rfl rfl rfl rfl ?_
      refine op rfl (r_pickTV (v := .bool _) rfl rfl) ?_
      refine WL_nil ?_
      refine W_then rfl ?_
      refine W_seq ?_
      refine W_region ?_
      refine opCv rfl (r_call Try.func9 Try.nm9 rfl) (known_spec _) ?_
      rintro v w2 ⟨rfl, hE⟩
      refine op rfl (r_assignV (v := .bool _) rfl) ?_
      refine WL_nil ?_
      refine W_ret (finX_ret ?_)
      refine fin1 ?_
      exact ⟨_, rfl, rfl, hE⟩
    · refine opG_yes rfl rfl rfl rfl rfl (r_moveV (v := .int _ _) rfl) ?_
      refine opG_yes rfl rfl rfl rfl rfl (r_eql rfl rfl) ?_
      refine op rfl (r_pickFV (v := .bool _) rfl rfl) ?_
      refine WL_nil ?_
      refine W_ifp rfl (fun ht21 => ?_) (fun ht21 => ?_)
      · refine W_seq ?_
        refine W_region ?_
        refine opCv rfl (r_call Try.func9 Try.nm9 rfl) (known_spec _) ?_
        rintro v w2 ⟨rfl, hE⟩
        refine op rfl (r_assignV (v := .bool _) rfl) ?_
        refine WL_nil ?_
        refine W_ret (finX_ret ?_)
        refine fin1 ?_
        exact ⟨_, rfl, rfl, hE⟩
      · refine W_skip ?_
        refine W_seq ?_
        refine W_region ?_
        replace ht21 : x ≠ 0#32 := by rintro rfl; exact ht21 rfl
        have hk0 : at_ % (l.length - 3) + 4 ≤ l.length := by have := Nat.mod_lt at_ (show 0 < l.length - 3 by omega); omega
        have hkm : ((at_ : Nat) : Int).tmod ((l.length : Int) - 3) = ((at_ % (l.length - 3) : Nat) : Int) := by
          rw [Int.tmod_eq_emod_of_nonneg (Int.natCast_nonneg _), show (l.length : Int) - 3 = ((l.length - 3 : Nat) : Int) from by omega]; simp
        generalize at_ % (l.length - 3) = k at hk0 hkm
        have hne : l ≠ [] := by rintro rfl; simp at hk0
        refine op rfl (r_moveV (v := .int _ _) rfl) ?_
        refine op rfl (r_conv' rfl Try.underlying31 Try.underlying3 (wrap_i64 (by omega) (by omega))) ?_
        refine op rfl (r_moveV (v := .slice _ _ _) rfl) ?_
        refine op rfl (r_len_slice rfl Try.underlying24) ?_
        refine op rfl (r_sub' rfl rfl (wrap_i64 (by omega) (by omega))) ?_
        refine op rfl (r_rem' rfl rfl (by omega) hkm) ?_
        refine op rfl (r_assignV (v := .int _ _) rfl) ?_
        refine WL_nil ?_
        refine W_seq ?_
        refine W_region ?_
        refine op rfl (r_assignV (v := .slice _ _ _) rfl) ?_
        refine WL_nil ?_
        refine W_seq ?_
        refine W_region ?_
        refine op rfl (r_moveV (v := .slice _ _ _) rfl) ?_
        refine op rfl (r_moveV (v := .slice _ _ _) rfl) ?_
        refine op_append (T := Ty.byte) (B := W.heap.size) (v := .slice none 0 0) rfl rfl rfl Try.underlying24 Try.sz5 Try.by5 Try.zero5 rfl Own.nil hA.src (fun b hb => ⟨hb, by simp [Value.ownBlock]⟩) (by simp; omega) (by simp; omega) (Nat.le_refl _) ?_
        intro v1 w1 hO hG _
        obtain ⟨gg, cap, cc, rfl, hBg, hB, hcap, hcs, hcc⟩ := hO.scalar (by simpa using hne)
        simp only [List.nil_append] at hcap hcc
        have E1 : Ext W w1 := hG.ext
        refine op rfl (r_assignV (v := .slice _ _ _) rfl) ?_
        refine WL_nil ?_
        refine W_seq ?_
        refine W_seq ?_
        refine W_region ?_
        refine op rfl (r_assignV (v := .int _ _) rfl) ?_
        refine WL_nil ?_
        refine W_block ?_
        refine W_loop [9, 32, 33, 34, 35, 36, 37, 38, 39, 40, 41, 42, 43, 44, 45, 46, 47, 48, 49, 50, 51, 52, 53] (fun j g w' => ∃ (i : Nat) (cc : Array Value), g 9 = .int .i64 i ∧ i ≤ 4 ∧ j = 4 - i ∧ Ext W w' ∧ Blk w' gg cc 5 ∧ cc.size = cap ∧ (∀ q (hq : q < (Crc.flipTo l k x i).length), cc[q]? = some (.int .u8 ((Crc.flipTo l k x i)[q]).toNat))) (4) ?_ ?_
        · exact ⟨0, cc, rfl, by omega, by omega, E1, hB, hcs, by simpa [Crc.flipTo_zero] using hcc⟩
        intro k g w' hI
        clear hB hcs hcc
        obtain ⟨i, cc, h9, hi, rfl, HE, HB, hcs, hcc⟩ := hI
        refine W_set (i := 9) h9 ?_
        refine W_seq ?_
        refine W_seq ?_
        refine W_region ?_
        refine op rfl (r_moveV (v := .int _ _) rfl) ?_
        refine op rfl (r_lss rfl rfl) ?_
        refine WL_nil ?_
        refine W_ifp rfl (fun ht33 => ?_) (fun ht33 => ?_)
        · have hki : ((k : Int) + (i : Int)).toNat = k + i := by omega
          have hkl : k + i < l.length := by omega
          have hl1 := Crc.flipTo_get l k x i hkl
          have hcell : w'.cell? ⟨gg, ((k : Int) + (i : Int)).toNat, none⟩ = some (.int .u8 l[k + i].toNat) := by
            rw [hki]
            exact HB.cell (by rw [hcc (k + i) (by rw [Crc.flipTo_length]; omega), hl1])
          refine W_skip ?_
          refine W_seq ?_
          refine W_block ?_
          refine W_region ?_
          refine op rfl (r_moveV (v := .slice _ _ _) rfl) ?_
          refine op rfl (r_moveV (v := .int _ _) rfl) ?_
          refine op rfl (r_moveV (v := .int _ _) rfl) ?_
          refine op rfl (r_add' rfl rfl (wrap_i64 (by omega) (by omega))) ?_
          refine op rfl (r_moveV (v := .slice _ _ _) rfl) ?_
          refine op rfl (r_moveV (v := .int _ _) rfl) ?_
          refine op rfl (r_moveV (v := .int _ _) rfl) ?_
          refine op rfl (r_add' rfl rfl (wrap_i64 (by omega) (by omega))) ?_
          refine op rfl (r_indexAddr0 rfl rfl Try.underlying24 Try.sz5 (by omega) (by simp; omega)) ?_
          refine op rfl (r_load rfl Try.underlying5 rfl hcell) ?_
          refine op rfl (r_moveV (v := .int _ _) rfl) ?_
          refine op rfl (r_moveV (v := .int _ _) rfl) ?_
          refine op rfl (r_mul' rfl rfl (wrap_i64 (by omega) (by omega))) ?_
          refine op rfl (r_conv' rfl Try.underlying3 Try.underlying33 (wrap_u64 (by omega) (by omega))) ?_
          refine op rfl (r_shr32 (k := 8 * i) rfl rfl (by simp; omega)) ?_
          refine op rfl (r_conv32_8 rfl Try.underlying22 Try.underlying5) ?_
          refine op rfl (r_xor8 (a := l[k + i].toBitVec) rfl rfl) ?_
          refine op rfl (r_indexAddr0 rfl rfl Try.underlying24 Try.sz5 (by omega) (by simp; omega)) ?_
          refine op_store (v := .int _ _) rfl rfl rfl Try.sz5 HB (by rw [hki, hcs]; omega) ?_
          intro w9_18 C9_18 B9_18
          refine WL_nil ?_
          refine W_region ?_
          refine op rfl (r_moveV (v := .int _ _) rfl) ?_
          refine op rfl (r_add' rfl rfl (wrap_i64 (by omega) (by omega))) ?_
          refine op rfl (r_assignV (v := .int _ _) rfl) ?_
          refine WL_nil ?_
          refine ⟨?_, by repeat (first | exact Out.refl _ _ | exact Out.mix | refine Out.put rfl ?_ | refine Out.mixin rfl ?_)⟩
          refine ⟨4 - (i + 1), by omega, i + 1, _, rfl, by omega, rfl, HE.chg C9_18 hBg, B9_18, by simpa using hcs, ?_⟩
          rw [← Crc.flipTo_set l k x i (by omega)]
          intro q hq
          simp only [List.length_set] at hq
          by_cases hqk : k + i = q
          · subst hqk
            rw [List.getElem_set_self, Array.getElem?_setIfInBounds, if_pos hki, if_pos (by rw [hcs]; omega)]
            rfl
          · rw [List.getElem_set_ne hqk, Array.getElem?_setIfInBounds, if_neg (by omega)]
            exact hcc q hq
        · obtain rfl : i = 4 := by omega
          refine W_exit (blk_hit ?_)
          refine W_seq ?_
          refine W_region ?_
          refine op rfl (r_moveV (v := .slice _ _ _) rfl) ?_
          refine op_newS rfl (r_buildSlice (vs := [.slice _ _ _]) Try.underlying23 Try.sz24 Try.zero24 rfl rfl rfl) ?_
          intro w10_1 b10_1 E10_1 B10_1 L10_1
          have E10 := HE.trans E10_1
          refine opCv rfl (r_call Try.func12 Try.nm12 rfl) (sum_spec _ 1 [l] _ (by show 1 ≤ 140737488355328; omega) (bytesL_one B10_1 hlc hlb (hA.ext E10))) ?_
          rintro v w2 ⟨rfl, hE2⟩
          refine op rfl (r_moveV (v := .slice _ _ _) rfl) ?_
          refine op_newS rfl (r_buildSlice (vs := [.slice _ _ _]) Try.underlying23 Try.sz24 Try.zero24 rfl rfl rfl) ?_
          intro w10_4 b10_4 E10_4 B10_4 L10_4
          have E11 := (E10.trans hE2).trans E10_4
          have HB' := ((HB.ext E10_1).ext hE2).ext E10_4
          have hfl := Crc.flipTo_length l k x 4
          have hR : Bytes w10_4 (some ⟨gg, 0, none⟩) (Crc.flipTo l k x 4) := Blk.row HB' (Blk.lt HB') fun q hq => ⟨_, ⟨rfl, trivial⟩, fun j hj => by
            simp only [Ty.byte, Ty.scalar] at hj ⊢
            obtain rfl : j = 0 := by omega
            simpa using hcc q hq⟩
          refine opCv rfl (r_call Try.func12 Try.nm12 rfl) (sum_spec _ 1 [Crc.flipTo l k x 4] _ (by show 1 ≤ 140737488355328; omega) (bytesL_one (c := cap) (by rw [hfl]; simpa using B10_4) (by rw [hfl]; exact hcap) (by rw [hfl]; exact hlb) hR)) ?_
          rintro v w3 ⟨rfl, hE3⟩
          refine op rfl (r_neq rfl rfl) ?_
          refine op_true rfl (r_moveV (v := .bool (decide _)) rfl) (fun h => Crc.flip_ne l k x hk0 ht21 (u32_ne.1 h)) ?_
          refine opGCv_yes rfl rfl rfl rfl rfl (r_call Try.func9 Try.nm9 rfl) (known_spec _) ?_
          rintro v w4 ⟨rfl, hE4⟩
          refine op rfl (r_pickTV (v := .bool _) rfl rfl) ?_
          refine op rfl (r_assignV (v := .bool _) rfl) ?_
          refine WL_nil ?_
          refine W_ret (finX_ret ?_)
          refine fin1 ?_
          exact ⟨_, rfl, rfl, (E11.trans hE3).trans hE4⟩
end Go.Proofs.Ythclaoblbhnmnaa
