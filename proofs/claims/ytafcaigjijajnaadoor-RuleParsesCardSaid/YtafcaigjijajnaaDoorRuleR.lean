/-
  The walk of a text as a word.
-/
import Derived.Test.YtafcaigjijajnaaDoorFacts
import Derived.Test.YtafcaigjijajnaaDoorRuleQ
namespace Go.Proofs.YtafcaigjijajnaaDoor
open Go Go.Eng Go.RowKit Go.Proofs
set_option linter.unusedVariables false
set_option linter.unusedSimpArgs false
set_option maxHeartbeats 1000000
set_option maxRecDepth 20000

theorem hex_len : hexS.length = 16 := rfl
theorem hex_get (n : Nat) (h : n < 16) : hexS[n]'(by rw [hex_len]; exact h) = hexD n := by
  have : ∀ n : Fin 16, hexS[n.1]'(by rw [hex_len]; exact n.2) = hexD n.1 := by decide
  exact this ⟨n, h⟩
theorem shr4 (n : Nat) (h : n < 256) : IntKind.wrap .u8 ((n : Int) / 2 ^ 4) = ((n / 16 : Nat) : Int) := by
  rw [wrap_u8 (by omega) (by omega)]; omega
theorem quote_spec (s : List UInt8) (w : World) (hs : s.length ≤ 1099511627776) :
    Calls Tryd.prog 17 #[.string (str s)] w (fun en w' => ∃ v, en = .returned v ∧ v = .string (str (quoteB s)) ∧ Ext w w') := by
  refine calls' (n := 29) (rs := #[.tmp 2]) (l := [.string (str s)]) Tryd.func17 rfl rfl rfl rfl rfl ?_
  have hX := Ext.refl w
  refine W_seq ?_
  refine W_region ?_
  refine op rfl (r_assignV (v := .string _) rfl) ?_
  refine WL_nil ?_
  refine W_seq ?_
  refine W_seq ?_
  refine W_region ?_
  refine op rfl (r_moveV (v := .string _) rfl) ?_
  refine op rfl (rt_eql rfl rfl) ?_
  refine WL_nil ?_
  refine W_ifp rfl (fun ht7 => ?_) (fun ht7 => ?_)
  · refine W_seq ?_
    refine W_region ?_
    refine op rfl (r_assignV (v := .string _) rfl) ?_
    refine WL_nil ?_
    refine W_ret (finX_ret ?_)
    refine fin1 ?_
    first
      | exact ⟨_, rfl, by unfold quoteB; rw [if_pos (by assumption)]; rfl, hX⟩
      | (have hne : ¬ s = [] := by assumption
         have hEw : Ext w w0i := Mv.buf_ext (hX2) hM hg3 hX2.size
         exact ⟨_, rfl, by unfold quoteB; rw [if_neg hne]; rfl, Mv.buf_ext (hEw.trans hX) hM11 hg3 hX2.size⟩)
  · refine W_skip ?_
    refine W_seq ?_
    refine W_region ?_
    refine op_alloc rfl Tryd.zero66 ?_
    intro w3_0 b3_0 E3_0 B3_0 L3_0
    have hG3_0 : w.heap.size ≤ b3_0 := by have := hX.size; omega
    replace hX := hX.trans E3_0
    refine WL_nil ?_
    refine W_seq ?_
    refine W_seq ?_
    refine W_region ?_
    refine op rfl (r_moveV (v := .string _) rfl) ?_
    have hX3 := hX
    have hg3 := hG3_0
    refine op_bytes rfl rfl Tryd.underlying9 Tryd.underlying45 Tryd.underlying5 ?_
    intro w2 b2 c2 E2 L2 hb2 hc2 hrow
    have hB3 : BufA w2.heap.size b3_0 w2 [] := BufAt.new _ (Blk.ext B3_0 E2)
    have hX2 := hX.trans E2
    have hb32 : b3_0 ≠ b2 := by have := Blk.lt B3_0; omega
    clear hX
    have hX := hX2
    refine op rfl (r_len_slice rfl Tryd.underlying45) ?_
    refine op rfl (r_moveV (v := .int _ _) rfl) ?_
    refine WL_nil ?_
    refine W_block ?_
    refine W_loop [5, 11, 12, 13, 14, 15, 16, 17, 18, 19, 20, 21, 22, 23, 24, 25, 26, 27] (fun q e' w' => ∃ i : Nat, q = s.length - i ∧ i ≤ s.length ∧ e' 11 = .int .i64 i ∧ BufA w2.heap.size b3_0 w' ((s.take i).flatMap quo1) ∧ Mv (bufZ w2.heap.size b3_0) w2 w') (s.length) ?_ ?_
    · exact ⟨0, by omega, by omega, rfl, hB3, Mv.of_ext (Ext.refl _)⟩
    intro k g w' hI
    obtain ⟨i, hq, hi, h11, hB, hM⟩ := hI
    clear hX
    have hX := Ext.refl w'
    obtain ⟨w0i, hw0i⟩ : ∃ y, y = w' := ⟨_, rfl⟩
    subst hw0i
    have hfl := flat_len (s.take i)
    have htl : (s.take i).length ≤ s.length := by rw [List.length_take]; omega
    have hws := hM.size
    refine W_set (i := 11) h11 ?_
    refine W_seq ?_
    refine W_region ?_
    refine op rfl (r_lss rfl rfl) ?_
    refine WL_nil ?_
    refine W_seq ?_
    refine W_ifp rfl (fun ht12 => ?_) (fun ht12 => ?_)
    · have hlt : i < s.length := by omega
      have hb256 : s[i].toNat < 256 := s[i].toNat_lt
      obtain ⟨g, off, hA, _, _, hcell⟩ := (hrow.keep (fun b hb => by
        rw [hb]
        exact hM.block b2 hb2 (fun q => by rcases q with q | q <;> omega)) (fun _ h => h) : Ty.byte.Row w0i (fun g => g = b2) (some ⟨b2, 0, none⟩) s).cell hlt
      cases hA
      refine W_skip ?_
      refine W_seq ?_
      refine W_block ?_
      refine W_seq ?_
      refine W_region ?_
      refine op rfl (r_indexAddr1 rfl rfl rfl Tryd.underlying45 Tryd.sz5 (by omega) (by omega)) ?_
      refine op rfl (r_load (v := .int .u8 (s[i].toNat : Nat)) rfl Tryd.underlying5 rfl hcell) ?_
      refine op rfl (r_assignV (v := .int _ _) rfl) ?_
      refine WL_nil ?_
      refine W_seq ?_
      refine W_seq ?_
      refine W_region ?_
      refine op rfl (r_moveV (v := .int _ _) rfl) ?_
      refine opCv rfl (r_call Tryd.func34 Tryd.nm34 rfl) (quoC_spec s[i] _) ?_
      rintro v7 w7 ⟨rfl, hE⟩
      replace hX := hX.trans hE
      refine WL_nil ?_
      refine W_ifp rfl (fun ht16 => ?_) (fun ht16 => ?_)
      · refine W_seq ?_
        refine W_region ?_
        refine op rfl (r_moveV (v := .int _ _) rfl) ?_
        refine opCv rfl (r_call Tryd.func35 Tryd.nm35 rfl) (writeByte_spec s[i] (hB.ext hX) (by omega) (by have := hX.size; omega)) ?_
        rintro v8 w8 ⟨rfl, hB8, hM8'⟩
        have hM8 := (hM.trans (Mv.of_ext hX)).trans hM8'
        refine WL_nil ?_
        refine W_exit (blk_hit ?_)
        refine W_region ?_
        refine op rfl (r_add' (r := ((i + 1 : Nat) : Int)) rfl rfl (by rw [wrap_i64 (by omega) (by omega)]; omega)) ?_
        refine op rfl (r_moveV (v := .int _ _) rfl) ?_
        refine WL_nil ?_
        refine ⟨?_, by repeat (first | with_reducible exact Out.refl _ _ | with_reducible exact Out.mix | refine Out.put rfl ?_ | refine Out.mixin rfl ?_ | exact Out.refl _ _ | exact Out.mix)⟩
        first
          | exact ⟨s.length - (i + 1), by omega, i + 1, rfl, by omega, rfl, by rw [flat_take hlt, quo1_yes ht16]; exact hB8, hM8⟩
          | exact ⟨s.length - (i + 1), by omega, i + 1, rfl, by omega, rfl, by rw [flat_take hlt, quo1_no ht16]; exact hB8, hM8⟩
      · refine W_skip ?_
        refine W_drawA Tryd.wd rfl ?_
        intro wd9 hD
        have hS : anyW wd9 := trivial
        replace hX := hX.trans hD
        refine A_take (i := 0) rfl (by kernel_rfl) (by kernel_rfl) (by kernel_rfl) rfl hS (fun _ hw => r_moveV (v := .int _ _) rfl) ?_
        refine A_take (i := 1) rfl (by kernel_rfl) (by kernel_rfl) (by kernel_rfl) rfl hS (fun _ hw => r_shrU8 (n := s[i].toNat) (k := 4) rfl rfl (by decide)) ?_
        refine A_take (i := 2) rfl (by kernel_rfl) (by kernel_rfl) (by kernel_rfl) rfl hS (fun _ hw => rt_index (l := hexS) (i := s[i].toNat / 2 ^ 4) rfl rfl Tryd.underlying9 (by rw [hex_len]; omega)) ?_
        refine A_take (i := 3) rfl (by kernel_rfl) (by kernel_rfl) (by kernel_rfl) rfl hS (fun _ hw => r_moveV (v := .int _ _) rfl) ?_
        refine A_take (i := 4) rfl (by kernel_rfl) (by kernel_rfl) (by kernel_rfl) rfl hS (fun _ hw => r_and15 (n := s[i].toNat) rfl rfl hb256) ?_
        refine A_take (i := 5) rfl (by kernel_rfl) (by kernel_rfl) (by kernel_rfl) rfl hS (fun _ hw => rt_index (l := hexS) (i := s[i].toNat % 16) rfl rfl Tryd.underlying9 (by rw [hex_len]; omega)) ?_
        refine A_ready1 (i := 6) (by kernel_rfl) ?_
        refine O_newS rfl rfl (r_buildSlice (vs := [.int .u8 37, .int .u8 ((hexS[s[i].toNat / 2 ^ 4]'(by rw [hex_len]; omega)).toNat : Nat), .int .u8 ((hexS[s[i].toNat % 16]'(by rw [hex_len]; omega)).toNat : Nat)]) Tryd.underlying45 Tryd.sz5 Tryd.zero5 rfl rfl rfl) ?_
        intro w9 b9 E9 B9 L9
        refine ⟨trivial, ?_⟩
        have h9b : b9 ≠ b3_0 := by have := hB.lt; have := hX.size; omega
        replace hX := hX.trans E9
        have hcell9 : ∀ (j : Nat) u, (Lib.byteCells [37, hexS[s[i].toNat / 2 ^ 4]'(by rw [hex_len]; omega), hexS[s[i].toNat % 16]'(by rw [hex_len]; omega)])[j]? = some u → w9.cell? ((⟨b9, 0, none⟩ : Addr).add j) = some u := by
          intro j u hu
          rcases j with _ | _ | _ | j
          · cases hu; exact Blk.cell B9 rfl
          · cases hu; exact Blk.cell B9 rfl
          · cases hu; exact Blk.cell B9 rfl
          · simp [Lib.byteCells] at hu
        refine A_ready1 (i := 7) (by kernel_rfl) ?_
        refine O_call rfl rfl (r_call Tryd.func36 Tryd.nm36 rfl) (write_spec (m := [37, hexS[s[i].toNat / 2 ^ 4]'(by rw [hex_len]; omega), hexS[s[i].toNat % 16]'(by rw [hex_len]; omega)]) (hB.ext hX) hcell9 h9b (by simp only [List.length_cons, List.length_nil]; omega) (by have := hX.size; omega)) ?_
        rintro v8 w8 ⟨rfl, hB8, hM8'⟩
        replace hS := trivial
        refine ⟨hS, ?_⟩
        have hM8 := (hM.trans (Mv.of_ext hX)).trans hM8'
        rw [hex_get _ (by omega), hex_get _ (by omega)] at hB8
        refine A_done (by kernel_rfl) ?_
        refine W_region ?_
        refine op rfl (r_add' (r := ((i + 1 : Nat) : Int)) rfl rfl (by rw [wrap_i64 (by omega) (by omega)]; omega)) ?_
        refine op rfl (r_moveV (v := .int _ _) rfl) ?_
        refine WL_nil ?_
        refine ⟨?_, by repeat (first | with_reducible exact Out.refl _ _ | with_reducible exact Out.mix | refine Out.put rfl ?_ | refine Out.mixin rfl ?_ | exact Out.refl _ _ | exact Out.mix)⟩
        first
          | exact ⟨s.length - (i + 1), by omega, i + 1, rfl, by omega, rfl, by rw [flat_take hlt, quo1_yes ht16]; exact hB8, hM8⟩
          | exact ⟨s.length - (i + 1), by omega, i + 1, rfl, by omega, rfl, by rw [flat_take hlt, quo1_no ht16]; exact hB8, hM8⟩
    · obtain rfl : i = s.length := by omega
      rw [List.take_length] at hB hfl
      refine W_exit (blk_hit ?_)
      refine W_seq ?_
      refine W_region ?_
      refine opCv rfl (r_call Tryd.func37 Tryd.nm37 rfl) (bstring_spec (hB.ext hX) (by omega)) ?_
      rintro v11 w11 ⟨rfl, hM11⟩
      refine op rfl (r_assignV (v := .string _) rfl) ?_
      refine WL_nil ?_
      refine W_ret (finX_ret ?_)
      refine fin1 ?_
      first
        | exact ⟨_, rfl, by unfold quoteB; rw [if_pos (by assumption)]; rfl, hX⟩
        | (have hne : ¬ s = [] := by assumption
           have hEw : Ext w w0i := Mv.buf_ext (hX2) hM hg3 hX2.size
           exact ⟨_, rfl, by unfold quoteB; rw [if_neg hne]; rfl, Mv.buf_ext (hEw.trans hX) hM11 hg3 hX2.size⟩)
end Go.Proofs.YtafcaigjijajnaaDoor
