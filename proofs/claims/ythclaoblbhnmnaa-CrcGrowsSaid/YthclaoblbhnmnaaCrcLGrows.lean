/-
  The walk of a law of chapter 04, but for its row.
-/
import Derived.Test.YthclaoblbhnmnaaFacts
import Derived.Test.YthclaoblbhnmnaaLazy
import Derived.Test.YthclaoblbhnmnaaCrcL
namespace Go.Proofs.Ythclaoblbhnmnaa
open Go Go.Eng Go.RowKit Go.Proofs
set_option linter.unusedVariables false

theorem crcGrows_walk (W : World) (A1 : Option Addr) (c1 : Nat) (a : List UInt8) (ha : a.length ≤ c1) (ha' : a.length ≤ big) (hA : Ty.byte.Row W (old W) A1 a) (A2 : Option Addr) (c2 : Nat) (b : List UInt8) (hb : b.length ≤ c2) (hb' : b.length ≤ big) (hB : Ty.byte.Row W (old W) A2 b)
    (A3 : Option Addr) (c3 : Nat) (c : List UInt8) (hc : c.length ≤ c3) (hc' : c.length ≤ big) (hC : Ty.byte.Row W (old W) A3 c) (m : Int) (hm : inK .u32 m) (n : Int) (hn : inK .u32 n) :
    Calls Try.prog 7 #[.slice A1 a.length c1, .slice A2 b.length c2, .slice A3 c.length c3, .int .u32 m, .int .u32 n] W (fun en w' => ∃ v, en = .returned v ∧ v = .bool true ∧ Ext W w') := by
  obtain ⟨m, rfl⟩ := u32_of hm
  obtain ⟨n, rfl⟩ := u32_of hn
  have hba := ha'
  have hbb := hb'
  have hbc := hc'
  unfold big at ha' hb' hc'
  have h2 : (2 : Nat) ≤ big := by show 2 ≤ 140737488355328; omega
  have h1 : (1 : Nat) ≤ big := by show 1 ≤ 140737488355328; omega
  have hsx : Crc.sum [a, c] = Crc.more (Crc.sum [a]) c := rfl
  have hsy : Crc.sum [b, c] = Crc.more (Crc.sum [b]) c := rfl
  refine calls' (n := 83) (rs := #[.tmp 10]) (l := [.slice A1 a.length c1, .slice A2 b.length c2, .slice A3 c.length c3, .int .u32 m.toNat, .int .u32 n.toNat]) Try.func7 rfl rfl rfl rfl ?_
  refine W_seq ?_
  refine W_region ?_
  refine op rfl (r_assignV (v := .bool _) rfl) ?_
  refine WL_nil ?_
  refine W_seq ?_
  refine W_seq ?_
  refine W_region ?_
  refine op rfl (r_moveV (v := .slice _ _ _) rfl) ?_
  refine op rfl (r_len_slice rfl Try.underlying24) ?_
  refine op rfl (r_moveV (v := .slice _ _ _) rfl) ?_
  refine op rfl (r_len_slice rfl Try.underlying24) ?_
  refine op rfl (r_add' rfl rfl (wrap_i64 (by omega) (by omega))) ?_
  refine op rfl (r_moveV (v := .slice _ _ _) rfl) ?_
  refine op rfl (r_len_slice rfl Try.underlying24) ?_
  refine op rfl (r_add' rfl rfl (wrap_i64 (by omega) (by omega))) ?_
  refine op rfl (r_gtr rfl rfl) ?_
  refine WL_nil ?_
  refine W_ifp rfl (fun ht21 => ?_) (fun ht21 => ?_)
  · refine W_seq ?_
    refine W_region ?_
    refine opCv rfl (r_call Try.func9 Try.nm9 rfl) (known_spec _) ?_
    rintro v w2 ⟨rfl, hE⟩
    refine op rfl (r_assignV (v := .bool _) rfl) ?_
    refine WL_nil ?_
    refine W_ret (finX_ret ?_)
    refine fin1 ?_
    exact ⟨_, rfl, rfl, hE⟩
  · refine W_skip ?_
    refine W_seq ?_
    refine W_region ?_
    refine op rfl (r_moveV (v := .slice _ _ _) rfl) ?_
    refine op rfl (r_moveV (v := .slice _ _ _) rfl) ?_
    refine op_newS rfl (r_buildSlice (vs := [.slice _ _ _, .slice _ _ _]) Try.underlying23 Try.sz24 Try.zero24 rfl rfl rfl) ?_
    intro w3_2 b3_2 E3_2 B3_2 L3_2
    refine opCv rfl (r_call Try.func12 Try.nm12 rfl) (sum_spec _ 2 [a, c] _ h2 (bytesL_two (c := c1) (c' := c3) B3_2 ha hba (hA.ext E3_2) hc hbc (hC.ext E3_2))) ?_
    rintro v w2 ⟨rfl, hE⟩
    have X3 := E3_2.trans hE
    clear hE
    refine op rfl (r_assignV (v := .int _ _) rfl) ?_
    refine WL_nil ?_
    refine W_seq ?_
    refine W_region ?_
    refine op rfl (r_moveV (v := .slice _ _ _) rfl) ?_
    refine op rfl (r_moveV (v := .slice _ _ _) rfl) ?_
    refine op_newS rfl (r_buildSlice (vs := [.slice _ _ _, .slice _ _ _]) Try.underlying23 Try.sz24 Try.zero24 rfl rfl rfl) ?_
    intro w4_2 b4_2 E4_2 B4_2 L4_2
    have X4' := X3.trans E4_2
    refine opCv rfl (r_call Try.func12 Try.nm12 rfl) (sum_spec _ 2 [b, c] _ h2 (bytesL_two (c := c2) (c' := c3) B4_2 hb hbb (hB.ext X4') hc hbc (hC.ext X4'))) ?_
    rintro v w3 ⟨rfl, hE⟩
    have X4 := X4'.trans hE
    clear hE
    refine op rfl (r_assignV (v := .int _ _) rfl) ?_
    refine WL_nil ?_
    refine W_cut [10, 31, 32, 33, 34, 35, 36, 37, 38, 39, 40, 41, 42] (fun g w' => Ext W w') ?_ ?_
    · refine W_seq ?_
      refine W_region ?_
      refine op rfl (r_moveV (v := .slice _ _ _) rfl) ?_
      refine op_newS rfl (r_buildSlice (vs := [.slice _ _ _]) Try.underlying23 Try.sz24 Try.zero24 rfl rfl rfl) ?_
      intro w5_1 b5_1 E5_1 B5_1 L5_1
      have X5a := X4.trans E5_1
      refine opCv rfl (r_call Try.func12 Try.nm12 rfl) (sum_spec _ 1 [a] _ h1 (bytesL_one (c := c1) B5_1 ha hba (hA.ext X5a))) ?_
      rintro v w4 ⟨rfl, hE⟩
      refine op rfl (r_moveV (v := .slice _ _ _) rfl) ?_
      refine op_newS rfl (r_buildSlice (vs := [.slice _ _ _]) Try.underlying23 Try.sz24 Try.zero24 rfl rfl rfl) ?_
      intro w5_4 b5_4 E5_4 B5_4 L5_4
      have X5b := (X5a.trans hE).trans E5_4
      clear hE
      refine opCv rfl (r_call Try.func12 Try.nm12 rfl) (sum_spec _ 1 [b] _ h1 (bytesL_one (c := c2) B5_4 hb hbb (hB.ext X5b))) ?_
      rintro v w5 ⟨rfl, hE⟩
      have X5 := X5b.trans hE
      clear hE
      refine op rfl (r_eql rfl rfl) ?_
      refine op_split rfl (r_moveV (v := .bool (decide _)) rfl) (fun hg38 => ?_) (fun hg38 => ?_)
      · refine opG_yes rfl rfl rfl rfl rfl (r_moveV (v := .int _ _) rfl) ?_
        refine opG_yes rfl rfl rfl rfl rfl (r_moveV (v := .int _ _) rfl) ?_
        refine opG_yes rfl rfl rfl rfl rfl (r_neq rfl rfl) ?_
        refine op rfl (r_pickTV (v := .bool _) rfl rfl) ?_
        refine WL_nil ?_
        refine W_ifp rfl (fun ht42 => ?_) (fun ht42 => ?_)
        · exact absurd (by rw [hsx, hsy, u32_ne.1 hg38]) ht42
        · refine W_skip ?_
          refine ⟨?_, by repeat (first | exact Out.refl _ _ | exact Out.mix | refine Out.put rfl ?_ | refine Out.mixin rfl ?_)⟩
          exact X5
      · refine opG_no rfl rfl rfl rfl rfl ?_
        refine opG_no rfl rfl rfl rfl rfl ?_
        refine opG_no rfl rfl rfl rfl rfl ?_
        refine op rfl (r_pickFV (v := .bool _) rfl rfl) ?_
        refine WL_nil ?_
        refine W_else rfl ?_
        refine W_skip ?_
        refine ⟨?_, by repeat (first | exact Out.refl _ _ | exact Out.mix | refine Out.put rfl ?_ | refine Out.mixin rfl ?_)⟩
        exact X5
    rintro gift42 w' hJ
    have X5 := hJ
    refine W_cut [10, 43, 44, 45, 46, 47, 48, 49, 50, 51, 52, 53, 54, 55, 56, 57, 58, 59, 60] (fun g w' => Ext W w') ?_ ?_
    · refine W_seq ?_
      refine W_region ?_
      refine op rfl (r_moveV (v := .slice _ _ _) rfl) ?_
      refine op rfl (r_len_slice rfl Try.underlying24) ?_
      refine op rfl (r_moveV (v := .slice _ _ _) rfl) ?_
      refine op rfl (r_len_slice rfl Try.underlying24) ?_
      refine op rfl (r_eql rfl rfl) ?_
      refine op_split rfl (r_moveV (v := .bool (decide _)) rfl) (fun hg48 => ?_) (fun hg48 => ?_)
      · refine opG_yes rfl rfl rfl rfl rfl (r_moveV (v := .int _ _) rfl) ?_
        refine opG_yes rfl rfl rfl rfl rfl (r_moveV (v := .int _ _) rfl) ?_
        refine opG_yes rfl rfl rfl rfl rfl (r_eql rfl rfl) ?_
        refine opG_yes rfl rfl rfl rfl rfl (r_moveV (v := .slice _ _ _) rfl) ?_
        refine op_newSG rfl rfl rfl rfl rfl (r_buildSlice (vs := [.slice _ _ _]) Try.underlying23 Try.sz24 Try.zero24 rfl rfl rfl) ?_
        intro w7_10 b7_10 E7_10 B7_10 L7_10
        have X7a := X5.trans E7_10
        refine opGCv_yes rfl rfl rfl rfl rfl (r_call Try.func12 Try.nm12 rfl) (sum_spec _ 1 [a] _ h1 (bytesL_one (c := c1) B7_10 ha hba (hA.ext X7a))) ?_
        rintro v w6 ⟨rfl, hE⟩
        refine opG_yes rfl rfl rfl rfl rfl (r_moveV (v := .slice _ _ _) rfl) ?_
        refine op_newSG rfl rfl rfl rfl rfl (r_buildSlice (vs := [.slice _ _ _]) Try.underlying23 Try.sz24 Try.zero24 rfl rfl rfl) ?_
        intro w7_13 b7_13 E7_13 B7_13 L7_13
        have X7b := (X7a.trans hE).trans E7_13
        clear hE
        refine opGCv_yes rfl rfl rfl rfl rfl (r_call Try.func12 Try.nm12 rfl) (sum_spec _ 1 [b] _ h1 (bytesL_one (c := c2) B7_13 hb hbb (hB.ext X7b))) ?_
        rintro v w7 ⟨rfl, hE⟩
        have X7 := X7b.trans hE
        clear hE
        refine opG_yes rfl rfl rfl rfl rfl (r_eql rfl rfl) ?_
        refine opG_yes rfl rfl rfl rfl rfl (rb_neq rfl rfl Try.underlying4) ?_
        refine op rfl (r_pickTV (v := .bool _) rfl rfl) ?_
        refine WL_nil ?_
        refine W_ifp rfl (fun ht60 => ?_) (fun ht60 => ?_)
        · refine absurd ?_ ht60
          rw [decide_eq_decide, u32_ne, u32_ne, hsx, hsy]
          exact ⟨Crc.more_inj, fun h => by rw [h]⟩
        · refine W_skip ?_
          refine ⟨?_, by repeat (first | exact Out.refl _ _ | exact Out.mix | refine Out.put rfl ?_ | refine Out.mixin rfl ?_)⟩
          first | exact X7 | exact X5
      · refine opG_no rfl rfl rfl rfl rfl ?_
        refine opG_no rfl rfl rfl rfl rfl ?_
        refine opG_no rfl rfl rfl rfl rfl ?_
        refine opG_no rfl rfl rfl rfl rfl ?_
        refine opG_no rfl rfl rfl rfl rfl ?_
        refine opG_no rfl rfl rfl rfl rfl ?_
        refine opG_no rfl rfl rfl rfl rfl ?_
        refine opG_no rfl rfl rfl rfl rfl ?_
        refine opG_no rfl rfl rfl rfl rfl ?_
        refine opG_no rfl rfl rfl rfl rfl ?_
        refine opG_no rfl rfl rfl rfl rfl ?_
        refine op rfl (r_pickFV (v := .bool _) rfl rfl) ?_
        refine WL_nil ?_
        refine W_else rfl ?_
        refine W_skip ?_
        refine ⟨?_, by repeat (first | exact Out.refl _ _ | exact Out.mix | refine Out.put rfl ?_ | refine Out.mixin rfl ?_)⟩
        first | exact X7 | exact X5
    rintro gift60 w' hJ
    have X7 := hJ
    refine W_seq ?_
    refine W_region ?_
    refine op rfl (r_moveV (v := .int _ _) rfl) ?_
    refine op rfl (r_moveV (v := .int _ _) rfl) ?_
    refine op rfl (r_xor32 rfl rfl) ?_
    refine opCv rfl (r_call Try.func14 Try.nm14 rfl) (step_spec (m ^^^ n) _) ?_
    rintro v w8 ⟨rfl, rfl⟩
    refine op rfl (r_moveV (v := .int _ _) rfl) ?_
    refine opCv rfl (r_call Try.func14 Try.nm14 rfl) (step_spec m _) ?_
    rintro v w9 ⟨rfl, rfl⟩
    refine op rfl (r_moveV (v := .int _ _) rfl) ?_
    refine opCv rfl (r_call Try.func14 Try.nm14 rfl) (step_spec n _) ?_
    rintro v w10 ⟨rfl, rfl⟩
    refine op rfl (r_xor32 rfl rfl) ?_
    refine op rfl (r_eql rfl rfl) ?_
    refine op_true rfl (r_moveV (v := .bool (decide _)) rfl) (by rw [Crc.step_xor]) ?_
    refine opG_yes rfl rfl rfl rfl rfl (r_moveV (v := .int _ _) rfl) ?_
    refine opG_yes rfl rfl rfl rfl rfl (r_moveV (v := .slice _ _ _) rfl) ?_
    refine op_newSG rfl rfl rfl rfl rfl (r_buildSlice (vs := [.slice _ _ _]) Try.underlying23 Try.sz24 Try.zero24 rfl rfl rfl) ?_
    intro w9_13 b9_13 E9_13 B9_13 L9_13
    have X9 := X7.trans E9_13
    refine opGCv_yes rfl rfl rfl rfl rfl (r_call Try.func12 Try.nm12 rfl) (sum_spec _ 1 [a] _ h1 (bytesL_one (c := c1) B9_13 ha hba (hA.ext X9))) ?_
    rintro v w11 ⟨rfl, hE⟩
    refine opG_yes rfl rfl rfl rfl rfl (r_moveV (v := .slice _ _ _) rfl) ?_
    refine opGCv_yes rfl rfl rfl rfl rfl (r_call Try.func10 Try.nm10 rfl) (more_spec (Crc.sum [a]) A3 c3 c _ hbc (hC.ext (X9.trans hE))) ?_
    rintro v w12 ⟨rfl, hE2⟩
    refine opG_yes rfl rfl rfl rfl rfl (r_eql rfl rfl) ?_
    refine op rfl (r_pickTV (v := .bool _) rfl rfl) ?_
    refine op_true rfl (r_moveV (v := .bool (decide _)) rfl) (rfl) ?_
    refine opGCv_yes rfl rfl rfl rfl rfl (r_call Try.func9 Try.nm9 rfl) (known_spec _) ?_
    rintro v w13 ⟨rfl, hE3⟩
    refine op rfl (r_pickTV (v := .bool _) rfl rfl) ?_
    refine op rfl (r_assignV (v := .bool _) rfl) ?_
    refine WL_nil ?_
    refine W_ret (finX_ret ?_)
    refine fin1 ?_
    exact ⟨_, rfl, rfl, ((X9.trans hE).trans hE2).trans hE3⟩
end Go.Proofs.Ythclaoblbhnmnaa
