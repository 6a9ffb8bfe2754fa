/-
  The walk of a number out of two digits (package strconv).
-/
import Derived.Test.YtafcaigjijajnaaDoorFacts
import Derived.Test.YtafcaigjijajnaaDoorRuleU
namespace Go.Proofs.YtafcaigjijajnaaDoor
open Go Go.Eng Go.RowKit Go.Proofs
set_option linter.unusedVariables false
set_option linter.unusedSimpArgs false
set_option maxHeartbeats 1000000
set_option maxRecDepth 20000

/-- A sign, with the bit of small letters. -/
def lowN (n : Nat) : Nat := n ||| 32
theorem or32 : ∀ n : Fin 256, bits .or .u8 (n.1 : Int) 32 = ((lowN n.1 : Nat) : Int) := by decide +kernel
/-- What a sign counts, in the machine's way: none: it is no sign of a number. -/
def digN (n : Nat) : Option Nat := if 48 ≤ n ∧ n ≤ 57 then some (n - 48) else if 97 ≤ lowN n ∧ lowN n ≤ 122 then some (lowN n - 97 + 10) else none
theorem low_lt : ∀ n : Fin 256, lowN n.1 < 256 := by decide +kernel
theorem dig_hex : ∀ n : Fin 256, hexU (UInt8.ofNat n.1) = (digN n.1).bind (fun d => if d < 16 then some d else none) := by decide +kernel
theorem hexU_dig (c : UInt8) : hexU c = (digN c.toNat).bind (fun d => if d < 16 then some d else none) := by
  have := dig_hex ⟨c.toNat, c.toNat_lt⟩
  simpa using this
def hexL (l : List UInt8) : Option Nat := l.foldl (fun acc c => acc.bind fun n => (hexU c).map fun d => 16 * n + d) (some 0)
theorem hexL_snoc (l : List UInt8) (c : UInt8) : hexL (l ++ [c]) = (hexL l).bind fun n => (hexU c).map fun d => 16 * n + d := by simp [hexL]
theorem hexL_none {l r : List UInt8} (h : hexL l = none) : hexL (l ++ r) = none := by
  unfold hexL at h ⊢
  rw [List.foldl_append, h]
  induction r with
  | nil => rfl
  | cons c r ih => simpa using ih
theorem lower_spec (c : UInt8) (w : World) :
    Calls Tryd.prog 67 #[.int .u8 (c.toNat : Nat)] w (fun en w' => ∃ v, en = .returned v ∧ v = .int .u8 (lowN c.toNat : Nat) ∧ Ext w w') := by
  refine calls' (n := 5) (rs := #[.tmp 2]) (l := [.int .u8 (c.toNat : Nat)]) Tryd.func67 rfl rfl rfl rfl rfl ?_
  have hX := Ext.refl w
  refine W_seq ?_
  refine W_region ?_
  refine op rfl (r_assignV (v := .int _ _) rfl) ?_
  refine WL_nil ?_
  refine W_seq ?_
  refine W_region ?_
  refine op rfl (r_moveV (v := .int _ _) rfl) ?_
  refine op rfl (r_or (m := (c.toNat : Int)) (n := 32) rfl rfl) ?_
  refine op rfl (r_assignV (v := .int _ _) rfl) ?_
  refine WL_nil ?_
  refine W_ret (finX_ret ?_)
  refine fin1 ?_
  have h := or32 ⟨c.toNat, c.toNat_lt⟩
  simp only at h
  exact ⟨_, rfl, by rw [← h]; rfl, hX⟩
theorem parse16_spec (l : List UInt8) (w : World) (hl : l.length = 2) :
    Calls Tryd.prog 53 #[.string (str l), .int .i64 16, .int .i64 8] w (fun en w' => ∃ v, en = .returned v ∧ v = (match hexL l with | some n => .tuple #[.int .u64 (n : Nat), .nilIface] | none => .tuple #[.int .u64 0, .iface 96 (.int .i64 2)]) ∧ Ext w w') := by
  have hne : ¬ l = [] := fun q => by rw [q] at hl; simp at hl
  refine calls' (n := 172) (rs := #[.tmp 6, .tmp 7]) (l := [.string (str l), .int .i64 16, .int .i64 8]) Tryd.func53 rfl rfl rfl rfl rfl ?_
  have hX := Ext.refl w
  refine W_seq ?_
  refine W_region ?_
  refine op rfl (r_assignV (v := .int _ _) rfl) ?_
  refine op rfl (r_assignV (v := _) rfl) ?_
  refine WL_nil ?_
  refine W_seq ?_
  refine W_seq ?_
  refine W_region ?_
  refine op rfl (r_moveV (v := .string _) rfl) ?_
  refine op rfl (rt_eql rfl rfl) ?_
  refine WL_nil ?_
  refine W_ifp rfl (fun ht19 => ?_) (fun ht19 => ?_)
  · exact absurd ht19 hne
  · refine W_skip ?_
    refine W_seq ?_
    refine W_region ?_
    refine op rfl (r_moveV (v := .int _ _) rfl) ?_
    refine op rfl (r_eql rfl rfl) ?_
    refine op rfl (r_assignV (v := .bool _) rfl) ?_
    refine WL_nil ?_
    refine W_seq ?_
    refine W_region ?_
    refine op rfl (r_moveV (v := .string _) rfl) ?_
    refine op rfl (r_assignV (v := .string _) rfl) ?_
    refine WL_nil ?_
    refine W_seq ?_
    refine W_block ?_
    refine W_seq ?_
    refine W_region ?_
    refine op rfl (r_moveV (v := .int _ _) rfl) ?_
    refine op rfl (r_leq rfl rfl) ?_
    refine op_true rfl (r_moveV (v := .bool (decide _)) rfl) (by decide) ?_
    refine opG_yes rfl rfl rfl rfl rfl (r_moveV (v := .int _ _) rfl) ?_
    refine opG_yes rfl rfl rfl rfl rfl (r_leq rfl rfl) ?_
    refine op rfl (r_pickTV (v := .bool _) rfl rfl) ?_
    refine op rfl (r_assignV (v := .bool _) rfl) ?_
    refine WL_nil ?_
    refine W_ifp rfl (fun ht25 => ?_) (fun ht25 => ?_)
    · refine W_skip ?_
      refine W_seq ?_
      refine W_seq ?_
      refine W_region ?_
      refine op rfl (r_moveV (v := .int _ _) rfl) ?_
      refine op rfl (r_eql rfl rfl) ?_
      refine WL_nil ?_
      refine W_ifp rfl (fun ht77 => ?_) (fun ht77 => ?_)
      · exact absurd ht77 (by decide)
      · refine W_seq ?_
        refine W_region ?_
        refine op rfl (r_moveV (v := .int _ _) rfl) ?_
        refine op rfl (r_lss rfl rfl) ?_
        refine op_false rfl (r_moveV (v := .bool (decide _)) rfl) (by decide) ?_
        refine opG_yes rfl rfl rfl rfl rfl (r_moveV (v := .int _ _) rfl) ?_
        refine opG_yes rfl rfl rfl rfl rfl (r_gtr rfl rfl) ?_
        refine op rfl (r_pickFV (v := .bool _) rfl rfl) ?_
        refine WL_nil ?_
        refine W_ifp rfl (fun ht83 => ?_) (fun ht83 => ?_)
        · exact absurd ht83 (by decide)
        · refine W_skip ?_
          refine W_seq ?_
          refine W_region ?_
          refine op rfl (r_assignV (v := .int _ _) rfl) ?_
          refine WL_nil ?_
          refine W_seq ?_
          refine W_seq ?_
          refine W_region ?_
          refine op rfl (r_moveV (v := .int _ _) rfl) ?_
          refine WL_nil ?_
          refine W_block ?_
          refine W_seq ?_
          refine W_region ?_
          refine op rfl (r_eql rfl rfl) ?_
          refine op rfl (r_assignV (v := .bool _) rfl) ?_
          refine WL_nil ?_
          refine W_ifp rfl (fun ht90 => ?_) (fun ht90 => ?_)
          · exact absurd ht90 (by decide)
          · refine W_seq ?_
            refine W_region ?_
            refine op rfl (r_eql rfl rfl) ?_
            refine op rfl (r_assignV (v := .bool _) rfl) ?_
            refine WL_nil ?_
            refine W_ifp rfl (fun ht92 => ?_) (fun ht92 => ?_)
            · refine W_region ?_
              refine op rfl (r_assignV (v := .int _ _) rfl) ?_
              refine WL_nil ?_
              refine W_seq ?_
              refine W_region ?_
              refine op rfl (r_moveV (v := .int _ _) rfl) ?_
              refine op rfl (r_conv' (r := 8) rfl Tryd.underlying3 Tryd.underlying70 rfl) ?_
              refine op rfl (r_shl' (r := 256) rfl rfl (by decide) (by decide)) ?_
              refine op rfl (r_sub' (r := 255) rfl rfl (by decide)) ?_
              refine op rfl (r_assignV (v := .int _ _) rfl) ?_
              refine WL_nil ?_
              refine W_seq ?_
              refine W_region ?_
              refine op rfl (r_assignV (v := .bool _) rfl) ?_
              refine WL_nil ?_
              refine W_seq ?_
              refine W_region ?_
              refine op rfl (r_assignV (v := .int _ _) rfl) ?_
              refine WL_nil ?_
              refine W_seq ?_
              refine W_seq ?_
              refine W_region ?_
              refine op rfl (r_moveV (v := .string _) rfl) ?_
              refine op_bytes rfl rfl Tryd.underlying9 Tryd.underlying45 Tryd.underlying5 ?_
              intro w2 b2 c2 E2 L2 hb2 hc2 hrow
              replace hX := hX.trans E2
              have hX2 := hX
              refine op rfl (r_len_slice rfl Tryd.underlying45) ?_
              refine op rfl (r_moveV (v := .int _ _) rfl) ?_
              refine WL_nil ?_
              refine W_block ?_
              refine W_loop (6 :: 7 :: 12 :: 13 :: 15 :: 16 :: 17 :: 101 :: 102 :: 103 :: 104 :: 105 :: 106 :: 107 :: 108 :: 109 :: 110 :: 111 :: 112 :: 113 :: 114 :: 115 :: 116 :: 117 :: 118 :: 119 :: 120 :: 121 :: 122 :: 123 :: 124 :: 125 :: 126 :: 127 :: 128 :: 129 :: 130 :: 131 :: 132 :: 133 :: 134 :: 135 :: 136 :: 137 :: 138 :: 139 :: 140 :: 141 :: 142 :: 143 :: 144 :: 145 :: 146 :: 147 :: 148 :: 149 :: 150 :: 151 :: 152 :: 153 :: 154 :: 155 :: 156 :: 157 :: 158 :: 159 :: 160 :: 161 :: 162 :: 163 :: []) (fun q e' w' => ∃ i n : Nat, q = l.length - i ∧ i ≤ l.length ∧ e' 101 = .int .i64 i ∧ e' 13 = .int .u64 n ∧ hexL (l.take i) = some n ∧ (i = 0 → n = 0) ∧ (i = 1 → n < 16) ∧ n < 256 ∧ e' 12 = .bool (decide False) ∧ Ext w2 w') (l.length) ?_ ?_
              · exact ⟨0, 0, by omega, by omega, rfl, rfl, rfl, fun _ => rfl, fun q => by omega, by omega, rfl, Ext.refl _⟩
              intro k g w' hI
              obtain ⟨i, n, hq, hi, h101, h13, hhx, hn0, hn1, hn2, h12, hE2⟩ := hI
              clear hX
              have hX := hX2.trans hE2
              refine W_set (i := 101) h101 ?_
              refine W_set (i := 13) h13 ?_
              refine W_set (i := 12) h12 ?_
              refine W_seq ?_
              refine W_region ?_
              refine op rfl (r_lss rfl rfl) ?_
              refine WL_nil ?_
              refine W_seq ?_
              refine W_ifp rfl (fun ht102 => ?_) (fun ht102 => ?_)
              · have hlt : i < l.length := by omega
                have hn16 : n < 16 := by
                  have : i = 0 ∨ i = 1 := by omega
                  rcases this with q | q
                  · have := hn0 q; omega
                  · exact hn1 q
                obtain ⟨g, off, hA, _, _, hcell⟩ := (hrow.keep (fun b hb => by rw [hb]; exact hE2.block b2 hb2) (fun _ h => h) : Ty.byte.Row w' (fun g => g = b2) (some ⟨b2, 0, none⟩) l).cell hlt
                cases hA
                have hc256 : l[i].toNat < 256 := l[i].toNat_lt
                have hlo := low_lt ⟨l[i].toNat, hc256⟩
                simp only at hlo
                have hXi := Ext.refl w'
                obtain ⟨w0i, hw0i⟩ : ∃ y, y = w' := ⟨_, rfl⟩
                subst hw0i
                have htk : l = l.take i ++ l[i] :: l.drop (i + 1) := by rw [← List.drop_eq_getElem_cons hlt, List.take_append_drop]
                refine W_skip ?_
                refine W_seq ?_
                refine W_block ?_
                refine W_seq ?_
                refine W_region ?_
                refine op rfl (r_indexAddr1 rfl rfl rfl Tryd.underlying45 Tryd.sz5 (by omega) (by omega)) ?_
                refine op rfl (r_load (v := .int .u8 (l[i].toNat : Nat)) rfl Tryd.underlying5 rfl hcell) ?_
                refine op rfl (r_assignV (v := .int _ _) rfl) ?_
                refine WL_nil ?_
                refine W_seq ?_
                refine W_region ?_
                refine op rfl (r_assignV (v := .int _ _) rfl) ?_
                refine WL_nil ?_
                refine W_cut [6, 7, 12, 16, 105, 106, 107, 108, 109, 110, 111, 112, 113, 114, 115, 116, 117, 118, 119, 120, 121, 122, 123, 124, 125, 126, 127, 128, 129, 130, 131, 132, 133] (fun e' w' => ∃ d : Nat, e' 16 = .int .u8 (d : Nat) ∧ e' 12 = .bool (decide False) ∧ digN l[i].toNat = some d ∧ d < 256 ∧ Ext w0i w') ?_ ?_
                · refine W_block ?_
                  refine W_seq ?_
                  refine W_region ?_
                  refine op rfl (r_moveV (v := .int _ _) rfl) ?_
                  refine op rfl (r_eql rfl rfl) ?_
                  refine op_split rfl (r_moveV (v := .bool (decide _)) rfl) (fun hg109 => ?_) (fun hg109 => ?_)
                  · refine opG_yes rfl rfl rfl rfl rfl (r_moveV (v := .bool _) rfl) ?_
                    refine op rfl (r_pickTV (v := .bool _) rfl rfl) ?_
                    refine op rfl (r_assignV (v := .bool _) rfl) ?_
                    refine WL_nil ?_
                    refine W_ifp rfl (fun ht106 => ?_) (fun ht106 => ?_)
                    · exact absurd ht106 (by decide)
                    · refine W_seq ?_
                      refine W_region ?_
                      refine op rfl (r_moveV (v := .int _ _) rfl) ?_
                      refine op rfl (r_leq rfl rfl) ?_
                      refine op_split rfl (r_moveV (v := .bool (decide _)) rfl) (fun hg115 => ?_) (fun hg115 => ?_)
                      · refine opG_yes rfl rfl rfl rfl rfl (r_moveV (v := .int _ _) rfl) ?_
                        refine opG_yes rfl rfl rfl rfl rfl (r_leq rfl rfl) ?_
                        refine op rfl (r_pickTV (v := .bool _) rfl rfl) ?_
                        refine op rfl (r_assignV (v := .bool _) rfl) ?_
                        refine WL_nil ?_
                        refine W_ifp rfl (fun ht112 => ?_) (fun ht112 => ?_)
                        · refine W_region ?_
                          refine op rfl (r_moveV (v := .int _ _) rfl) ?_
                          refine op rfl (r_sub' (m := (l[i].toNat : Int)) (n := 48) (r := ((l[i].toNat - 48 : Nat) : Int)) rfl rfl (by rw [wrap_u8 (by omega) (by omega)]; omega)) ?_
                          refine op rfl (r_assignV (v := .int _ _) rfl) ?_
                          refine WL_nil ?_
                          refine ⟨?_, by repeat (first | with_reducible exact Out.refl _ _ | with_reducible exact Out.mix | refine Out.put rfl ?_ | refine Out.mixin rfl ?_ | exact Out.refl _ _ | exact Out.mix)⟩
                          first
                            | exact ⟨l[i].toNat - 48, rfl, rfl, by unfold digN; rw [if_pos (by omega)], by omega, hXi⟩
                            | exact ⟨lowN l[i].toNat - 97 + 10, rfl, rfl, by unfold digN; rw [if_neg (by omega), if_pos (by omega)], by omega, hXi⟩
                        · refine W_seq ?_
                          refine W_region ?_
                          refine op rfl (r_moveV (v := .int _ _) rfl) ?_
                          refine opCv rfl (r_call Tryd.func67 Tryd.nm67 rfl) (lower_spec l[i] _) ?_
                          rintro v44 w44 ⟨rfl, hE⟩
                          replace hX := hX.trans hE
                          replace hXi := hXi.trans hE
                          refine op rfl (r_leq rfl rfl) ?_
                          refine op_split rfl (r_moveV (v := .bool (decide _)) rfl) (fun hg125 => ?_) (fun hg125 => ?_)
                          · refine opG_yes rfl rfl rfl rfl rfl (r_moveV (v := .int _ _) rfl) ?_
                            refine opGCv_yes rfl rfl rfl rfl rfl (r_call Tryd.func67 Tryd.nm67 rfl) (lower_spec l[i] _) ?_
                            rintro v44b w44b ⟨rfl, hE⟩
                            replace hX := hX.trans hE
                            replace hXi := hXi.trans hE
                            refine opG_yes rfl rfl rfl rfl rfl (r_leq rfl rfl) ?_
                            refine op rfl (r_pickTV (v := .bool _) rfl rfl) ?_
                            refine op rfl (r_assignV (v := .bool _) rfl) ?_
                            refine WL_nil ?_
                            refine W_ifp rfl (fun ht121 => ?_) (fun ht121 => ?_)
                            · refine W_region ?_
                              refine op rfl (r_moveV (v := .int _ _) rfl) ?_
                              refine opCv rfl (r_call Tryd.func67 Tryd.nm67 rfl) (lower_spec l[i] _) ?_
                              rintro v45 w45 ⟨rfl, hE⟩
                              replace hX := hX.trans hE
                              replace hXi := hXi.trans hE
                              refine op rfl (r_sub' (m := (lowN l[i].toNat : Int)) (n := 97) (r := ((lowN l[i].toNat - 97 : Nat) : Int)) rfl rfl (by rw [wrap_u8 (by omega) (by omega)]; omega)) ?_
                              refine op rfl (r_add' (m := ((lowN l[i].toNat - 97 : Nat) : Int)) (n := 10) (r := ((lowN l[i].toNat - 97 + 10 : Nat) : Int)) rfl rfl (by rw [wrap_u8 (by omega) (by omega)]; omega)) ?_
                              refine op rfl (r_assignV (v := .int _ _) rfl) ?_
                              refine WL_nil ?_
                              refine ⟨?_, by repeat (first | with_reducible exact Out.refl _ _ | with_reducible exact Out.mix | refine Out.put rfl ?_ | refine Out.mixin rfl ?_ | exact Out.refl _ _ | exact Out.mix)⟩
                              first
                                | exact ⟨l[i].toNat - 48, rfl, rfl, by unfold digN; rw [if_pos (by omega)], by omega, hXi⟩
                                | exact ⟨lowN l[i].toNat - 97 + 10, rfl, rfl, by unfold digN; rw [if_neg (by omega), if_pos (by omega)], by omega, hXi⟩
                            · refine W_seq ?_
                              refine W_region ?_
                              refine op rfl (r_makeIface (v := .int _ _) rfl Tryd.underlying96 rfl) ?_
                              refine op rfl (r_assignV (v := .int _ _) rfl) ?_
                              refine op rfl (r_assignV (v := _) rfl) ?_
                              refine WL_nil ?_
                              refine W_ret (blk_ret (blk_ret (blk_ret (finX_ret ?_))))
                              refine fin2 ?_
                              first
                                | (have hs : hexL l = none := by
                                     rw [htk, ← List.singleton_append, ← List.append_assoc]
                                     refine hexL_none ?_
                                     rw [hexL_snoc, hhx, hexU_dig]
                                     first
                                       | (rw [hdg]; simp; omega)
                                       | (have : digN l[i].toNat = none := by unfold digN; rw [if_neg (by omega), if_neg (by omega)]
                                          rw [this]; rfl)
                                   exact ⟨_, rfl, by rw [hs]; rfl, hX⟩)
                                | exact ⟨_, rfl, by rw [hhx]; rfl, hX⟩
                          · refine opG_no rfl rfl rfl rfl rfl ?_
                            refine opG_no rfl rfl rfl rfl rfl ?_
                            refine opG_no rfl rfl rfl rfl rfl ?_
                            refine op rfl (r_pickFV (v := .bool _) rfl rfl) ?_
                            refine op rfl (r_assignV (v := .bool _) rfl) ?_
                            refine WL_nil ?_
                            refine W_else rfl ?_
                            refine W_seq ?_
                            refine W_region ?_
                            refine op rfl (r_makeIface (v := .int _ _) rfl Tryd.underlying96 rfl) ?_
                            refine op rfl (r_assignV (v := .int _ _) rfl) ?_
                            refine op rfl (r_assignV (v := _) rfl) ?_
                            refine WL_nil ?_
                            refine W_ret (blk_ret (blk_ret (blk_ret (finX_ret ?_))))
                            refine fin2 ?_
                            first
                              | (have hs : hexL l = none := by
                                   rw [htk, ← List.singleton_append, ← List.append_assoc]
                                   refine hexL_none ?_
                                   rw [hexL_snoc, hhx, hexU_dig]
                                   first
                                     | (rw [hdg]; simp; omega)
                                     | (have : digN l[i].toNat = none := by unfold digN; rw [if_neg (by omega), if_neg (by omega)]
                                        rw [this]; rfl)
                                 exact ⟨_, rfl, by rw [hs]; rfl, hX⟩)
                              | exact ⟨_, rfl, by rw [hhx]; rfl, hX⟩
                      · refine opG_no rfl rfl rfl rfl rfl ?_
                        refine opG_no rfl rfl rfl rfl rfl ?_
                        refine op rfl (r_pickFV (v := .bool _) rfl rfl) ?_
                        refine op rfl (r_assignV (v := .bool _) rfl) ?_
                        refine WL_nil ?_
                        refine W_else rfl ?_
                        refine W_seq ?_
                        refine W_region ?_
                        refine op rfl (r_moveV (v := .int _ _) rfl) ?_
                        refine opCv rfl (r_call Tryd.func67 Tryd.nm67 rfl) (lower_spec l[i] _) ?_
                        rintro v44 w44 ⟨rfl, hE⟩
                        replace hX := hX.trans hE
                        replace hXi := hXi.trans hE
                        refine op rfl (r_leq rfl rfl) ?_
                        refine op_split rfl (r_moveV (v := .bool (decide _)) rfl) (fun hg125 => ?_) (fun hg125 => ?_)
                        · refine opG_yes rfl rfl rfl rfl rfl (r_moveV (v := .int _ _) rfl) ?_
                          refine opGCv_yes rfl rfl rfl rfl rfl (r_call Tryd.func67 Tryd.nm67 rfl) (lower_spec l[i] _) ?_
                          rintro v44b w44b ⟨rfl, hE⟩
                          replace hX := hX.trans hE
                          replace hXi := hXi.trans hE
                          refine opG_yes rfl rfl rfl rfl rfl (r_leq rfl rfl) ?_
                          refine op rfl (r_pickTV (v := .bool _) rfl rfl) ?_
                          refine op rfl (r_assignV (v := .bool _) rfl) ?_
                          refine WL_nil ?_
                          refine W_ifp rfl (fun ht121 => ?_) (fun ht121 => ?_)
                          · refine W_region ?_
                            refine op rfl (r_moveV (v := .int _ _) rfl) ?_
                            refine opCv rfl (r_call Tryd.func67 Tryd.nm67 rfl) (lower_spec l[i] _) ?_
                            rintro v45 w45 ⟨rfl, hE⟩
                            replace hX := hX.trans hE
                            replace hXi := hXi.trans hE
                            refine op rfl (r_sub' (m := (lowN l[i].toNat : Int)) (n := 97) (r := ((lowN l[i].toNat - 97 : Nat) : Int)) rfl rfl (by rw [wrap_u8 (by omega) (by omega)]; omega)) ?_
                            refine op rfl (r_add' (m := ((lowN l[i].toNat - 97 : Nat) : Int)) (n := 10) (r := ((lowN l[i].toNat - 97 + 10 : Nat) : Int)) rfl rfl (by rw [wrap_u8 (by omega) (by omega)]; omega)) ?_
                            refine op rfl (r_assignV (v := .int _ _) rfl) ?_
                            refine WL_nil ?_
                            refine ⟨?_, by repeat (first | with_reducible exact Out.refl _ _ | with_reducible exact Out.mix | refine Out.put rfl ?_ | refine Out.mixin rfl ?_ | exact Out.refl _ _ | exact Out.mix)⟩
                            first
                              | exact ⟨l[i].toNat - 48, rfl, rfl, by unfold digN; rw [if_pos (by omega)], by omega, hXi⟩
                              | exact ⟨lowN l[i].toNat - 97 + 10, rfl, rfl, by unfold digN; rw [if_neg (by omega), if_pos (by omega)], by omega, hXi⟩
                          · refine W_seq ?_
                            refine W_region ?_
                            refine op rfl (r_makeIface (v := .int _ _) rfl Tryd.underlying96 rfl) ?_
                            refine op rfl (r_assignV (v := .int _ _) rfl) ?_
                            refine op rfl (r_assignV (v := _) rfl) ?_
                            refine WL_nil ?_
                            refine W_ret (blk_ret (blk_ret (blk_ret (finX_ret ?_))))
                            refine fin2 ?_
                            first
                              | (have hs : hexL l = none := by
                                   rw [htk, ← List.singleton_append, ← List.append_assoc]
                                   refine hexL_none ?_
                                   rw [hexL_snoc, hhx, hexU_dig]
                                   first
                                     | (rw [hdg]; simp; omega)
                                     | (have : digN l[i].toNat = none := by unfold digN; rw [if_neg (by omega), if_neg (by omega)]
                                        rw [this]; rfl)
                                 exact ⟨_, rfl, by rw [hs]; rfl, hX⟩)
                              | exact ⟨_, rfl, by rw [hhx]; rfl, hX⟩
                        · refine opG_no rfl rfl rfl rfl rfl ?_
                          refine opG_no rfl rfl rfl rfl rfl ?_
                          refine opG_no rfl rfl rfl rfl rfl ?_
                          refine op rfl (r_pickFV (v := .bool _) rfl rfl) ?_
                          refine op rfl (r_assignV (v := .bool _) rfl) ?_
                          refine WL_nil ?_
                          refine W_else rfl ?_
                          refine W_seq ?_
                          refine W_region ?_
                          refine op rfl (r_makeIface (v := .int _ _) rfl Tryd.underlying96 rfl) ?_
                          refine op rfl (r_assignV (v := .int _ _) rfl) ?_
                          refine op rfl (r_assignV (v := _) rfl) ?_
                          refine WL_nil ?_
                          refine W_ret (blk_ret (blk_ret (blk_ret (finX_ret ?_))))
                          refine fin2 ?_
                          first
                            | (have hs : hexL l = none := by
                                 rw [htk, ← List.singleton_append, ← List.append_assoc]
                                 refine hexL_none ?_
                                 rw [hexL_snoc, hhx, hexU_dig]
                                 first
                                   | (rw [hdg]; simp; omega)
                                   | (have : digN l[i].toNat = none := by unfold digN; rw [if_neg (by omega), if_neg (by omega)]
                                      rw [this]; rfl)
                               exact ⟨_, rfl, by rw [hs]; rfl, hX⟩)
                            | exact ⟨_, rfl, by rw [hhx]; rfl, hX⟩
                  · refine opG_no rfl rfl rfl rfl rfl ?_
                    refine op rfl (r_pickFV (v := .bool _) rfl rfl) ?_
                    refine op rfl (r_assignV (v := .bool _) rfl) ?_
                    refine WL_nil ?_
                    refine W_else rfl ?_
                    refine W_seq ?_
                    refine W_region ?_
                    refine op rfl (r_moveV (v := .int _ _) rfl) ?_
                    refine op rfl (r_leq rfl rfl) ?_
                    refine op_split rfl (r_moveV (v := .bool (decide _)) rfl) (fun hg115 => ?_) (fun hg115 => ?_)
                    · refine opG_yes rfl rfl rfl rfl rfl (r_moveV (v := .int _ _) rfl) ?_
                      refine opG_yes rfl rfl rfl rfl rfl (r_leq rfl rfl) ?_
                      refine op rfl (r_pickTV (v := .bool _) rfl rfl) ?_
                      refine op rfl (r_assignV (v := .bool _) rfl) ?_
                      refine WL_nil ?_
                      refine W_ifp rfl (fun ht112 => ?_) (fun ht112 => ?_)
                      · refine W_region ?_
                        refine op rfl (r_moveV (v := .int _ _) rfl) ?_
                        refine op rfl (r_sub' (m := (l[i].toNat : Int)) (n := 48) (r := ((l[i].toNat - 48 : Nat) : Int)) rfl rfl (by rw [wrap_u8 (by omega) (by omega)]; omega)) ?_
                        refine op rfl (r_assignV (v := .int _ _) rfl) ?_
                        refine WL_nil ?_
                        refine ⟨?_, by repeat (first | with_reducible exact Out.refl _ _ | with_reducible exact Out.mix | refine Out.put rfl ?_ | refine Out.mixin rfl ?_ | exact Out.refl _ _ | exact Out.mix)⟩
                        first
                          | exact ⟨l[i].toNat - 48, rfl, rfl, by unfold digN; rw [if_pos (by omega)], by omega, hXi⟩
                          | exact ⟨lowN l[i].toNat - 97 + 10, rfl, rfl, by unfold digN; rw [if_neg (by omega), if_pos (by omega)], by omega, hXi⟩
                      · refine W_seq ?_
                        refine W_region ?_
                        refine op rfl (r_moveV (v := .int _ _) rfl) ?_
                        refine opCv rfl (r_call Tryd.func67 Tryd.nm67 rfl) (lower_spec l[i] _) ?_
                        rintro v44 w44 ⟨rfl, hE⟩
                        replace hX := hX.trans hE
                        replace hXi := hXi.trans hE
                        refine op rfl (r_leq rfl rfl) ?_
                        refine op_split rfl (r_moveV (v := .bool (decide _)) rfl) (fun hg125 => ?_) (fun hg125 => ?_)
                        · refine opG_yes rfl rfl rfl rfl rfl (r_moveV (v := .int _ _) rfl) ?_
                          refine opGCv_yes rfl rfl rfl rfl rfl (r_call Tryd.func67 Tryd.nm67 rfl) (lower_spec l[i] _) ?_
                          rintro v44b w44b ⟨rfl, hE⟩
                          replace hX := hX.trans hE
                          replace hXi := hXi.trans hE
                          refine opG_yes rfl rfl rfl rfl rfl (r_leq rfl rfl) ?_
                          refine op rfl (r_pickTV (v := .bool _) rfl rfl) ?_
                          refine op rfl (r_assignV (v := .bool _) rfl) ?_
                          refine WL_nil ?_
                          refine W_ifp rfl (fun ht121 => ?_) (fun ht121 => ?_)
                          · refine W_region ?_
                            refine op rfl (r_moveV (v := .int _ _) rfl) ?_
                            refine opCv rfl (r_call Tryd.func67 Tryd.nm67 rfl) (lower_spec l[i] _) ?_
                            rintro v45 w45 ⟨rfl, hE⟩
                            replace hX := hX.trans hE
                            replace hXi := hXi.trans hE
                            refine op rfl (r_sub' (m := (lowN l[i].toNat : Int)) (n := 97) (r := ((lowN l[i].toNat - 97 : Nat) : Int)) rfl rfl (by rw [wrap_u8 (by omega) (by omega)]; omega)) ?_
                            refine op rfl (r_add' (m := ((lowN l[i].toNat - 97 : Nat) : Int)) (n := 10) (r := ((lowN l[i].toNat - 97 + 10 : Nat) : Int)) rfl rfl (by rw [wrap_u8 (by omega) (by omega)]; omega)) ?_
                            refine op rfl (r_assignV (v := .int _ _) rfl) ?_
                            refine WL_nil ?_
                            refine ⟨?_, by repeat (first | with_reducible exact Out.refl _ _ | with_reducible exact Out.mix | refine Out.put rfl ?_ | refine Out.mixin rfl ?_ | exact Out.refl _ _ | exact Out.mix)⟩
                            first
                              | exact ⟨l[i].toNat - 48, rfl, rfl, by unfold digN; rw [if_pos (by omega)], by omega, hXi⟩
                              | exact ⟨lowN l[i].toNat - 97 + 10, rfl, rfl, by unfold digN; rw [if_neg (by omega), if_pos (by omega)], by omega, hXi⟩
                          · refine W_seq ?_
                            refine W_region ?_
                            refine op rfl (r_makeIface (v := .int _ _) rfl Tryd.underlying96 rfl) ?_
                            refine op rfl (r_assignV (v := .int _ _) rfl) ?_
                            refine op rfl (r_assignV (v := _) rfl) ?_
                            refine WL_nil ?_
                            refine W_ret (blk_ret (blk_ret (blk_ret (finX_ret ?_))))
                            refine fin2 ?_
                            first
                              | (have hs : hexL l = none := by
                                   rw [htk, ← List.singleton_append, ← List.append_assoc]
                                   refine hexL_none ?_
                                   rw [hexL_snoc, hhx, hexU_dig]
                                   first
                                     | (rw [hdg]; simp; omega)
                                     | (have : digN l[i].toNat = none := by unfold digN; rw [if_neg (by omega), if_neg (by omega)]
                                        rw [this]; rfl)
                                 exact ⟨_, rfl, by rw [hs]; rfl, hX⟩)
                              | exact ⟨_, rfl, by rw [hhx]; rfl, hX⟩
                        · refine opG_no rfl rfl rfl rfl rfl ?_
                          refine opG_no rfl rfl rfl rfl rfl ?_
                          refine opG_no rfl rfl rfl rfl rfl ?_
                          refine op rfl (r_pickFV (v := .bool _) rfl rfl) ?_
                          refine op rfl (r_assignV (v := .bool _) rfl) ?_
                          refine WL_nil ?_
                          refine W_else rfl ?_
                          refine W_seq ?_
                          refine W_region ?_
                          refine op rfl (r_makeIface (v := .int _ _) rfl Tryd.underlying96 rfl) ?_
                          refine op rfl (r_assignV (v := .int _ _) rfl) ?_
                          refine op rfl (r_assignV (v := _) rfl) ?_
                          refine WL_nil ?_
                          refine W_ret (blk_ret (blk_ret (blk_ret (finX_ret ?_))))
                          refine fin2 ?_
                          first
                            | (have hs : hexL l = none := by
                                 rw [htk, ← List.singleton_append, ← List.append_assoc]
                                 refine hexL_none ?_
                                 rw [hexL_snoc, hhx, hexU_dig]
                                 first
                                   | (rw [hdg]; simp; omega)
                                   | (have : digN l[i].toNat = none := by unfold digN; rw [if_neg (by omega), if_neg (by omega)]
                                      rw [this]; rfl)
                               exact ⟨_, rfl, by rw [hs]; rfl, hX⟩)
                            | exact ⟨_, rfl, by rw [hhx]; rfl, hX⟩
                    · refine opG_no rfl rfl rfl rfl rfl ?_
                      refine opG_no rfl rfl rfl rfl rfl ?_
                      refine op rfl (r_pickFV (v := .bool _) rfl rfl) ?_
                      refine op rfl (r_assignV (v := .bool _) rfl) ?_
                      refine WL_nil ?_
                      refine W_else rfl ?_
                      refine W_seq ?_
                      refine W_region ?_
                      refine op rfl (r_moveV (v := .int _ _) rfl) ?_
                      refine opCv rfl (r_call Tryd.func67 Tryd.nm67 rfl) (lower_spec l[i] _) ?_
                      rintro v44 w44 ⟨rfl, hE⟩
                      replace hX := hX.trans hE
                      replace hXi := hXi.trans hE
                      refine op rfl (r_leq rfl rfl) ?_
                      refine op_split rfl (r_moveV (v := .bool (decide _)) rfl) (fun hg125 => ?_) (fun hg125 => ?_)
                      · refine opG_yes rfl rfl rfl rfl rfl (r_moveV (v := .int _ _) rfl) ?_
                        refine opGCv_yes rfl rfl rfl rfl rfl (r_call Tryd.func67 Tryd.nm67 rfl) (lower_spec l[i] _) ?_
                        rintro v44b w44b ⟨rfl, hE⟩
                        replace hX := hX.trans hE
                        replace hXi := hXi.trans hE
                        refine opG_yes rfl rfl rfl rfl rfl (r_leq rfl rfl) ?_
                        refine op rfl (r_pickTV (v := .bool _) rfl rfl) ?_
                        refine op rfl (r_assignV (v := .bool _) rfl) ?_
                        refine WL_nil ?_
                        refine W_ifp rfl (fun ht121 => ?_) (fun ht121 => ?_)
                        · refine W_region ?_
                          refine op rfl (r_moveV (v := .int _ _) rfl) ?_
                          refine opCv rfl (r_call Tryd.func67 Tryd.nm67 rfl) (lower_spec l[i] _) ?_
                          rintro v45 w45 ⟨rfl, hE⟩
                          replace hX := hX.trans hE
                          replace hXi := hXi.trans hE
                          refine op rfl (r_sub' (m := (lowN l[i].toNat : Int)) (n := 97) (r := ((lowN l[i].toNat - 97 : Nat) : Int)) rfl rfl (by rw [wrap_u8 (by omega) (by omega)]; omega)) ?_
                          refine op rfl (r_add' (m := ((lowN l[i].toNat - 97 : Nat) : Int)) (n := 10) (r := ((lowN l[i].toNat - 97 + 10 : Nat) : Int)) rfl rfl (by rw [wrap_u8 (by omega) (by omega)]; omega)) ?_
                          refine op rfl (r_assignV (v := .int _ _) rfl) ?_
                          refine WL_nil ?_
                          refine ⟨?_, by repeat (first | with_reducible exact Out.refl _ _ | with_reducible exact Out.mix | refine Out.put rfl ?_ | refine Out.mixin rfl ?_ | exact Out.refl _ _ | exact Out.mix)⟩
                          first
                            | exact ⟨l[i].toNat - 48, rfl, rfl, by unfold digN; rw [if_pos (by omega)], by omega, hXi⟩
                            | exact ⟨lowN l[i].toNat - 97 + 10, rfl, rfl, by unfold digN; rw [if_neg (by omega), if_pos (by omega)], by omega, hXi⟩
                        · refine W_seq ?_
                          refine W_region ?_
                          refine op rfl (r_makeIface (v := .int _ _) rfl Tryd.underlying96 rfl) ?_
                          refine op rfl (r_assignV (v := .int _ _) rfl) ?_
                          refine op rfl (r_assignV (v := _) rfl) ?_
                          refine WL_nil ?_
                          refine W_ret (blk_ret (blk_ret (blk_ret (finX_ret ?_))))
                          refine fin2 ?_
                          first
                            | (have hs : hexL l = none := by
                                 rw [htk, ← List.singleton_append, ← List.append_assoc]
                                 refine hexL_none ?_
                                 rw [hexL_snoc, hhx, hexU_dig]
                                 first
                                   | (rw [hdg]; simp; omega)
                                   | (have : digN l[i].toNat = none := by unfold digN; rw [if_neg (by omega), if_neg (by omega)]
                                      rw [this]; rfl)
                               exact ⟨_, rfl, by rw [hs]; rfl, hX⟩)
                            | exact ⟨_, rfl, by rw [hhx]; rfl, hX⟩
                      · refine opG_no rfl rfl rfl rfl rfl ?_
                        refine opG_no rfl rfl rfl rfl rfl ?_
                        refine opG_no rfl rfl rfl rfl rfl ?_
                        refine op rfl (r_pickFV (v := .bool _) rfl rfl) ?_
                        refine op rfl (r_assignV (v := .bool _) rfl) ?_
                        refine WL_nil ?_
                        refine W_else rfl ?_
                        refine W_seq ?_
                        refine W_region ?_
                        refine op rfl (r_makeIface (v := .int _ _) rfl Tryd.underlying96 rfl) ?_
                        refine op rfl (r_assignV (v := .int _ _) rfl) ?_
                        refine op rfl (r_assignV (v := _) rfl) ?_
                        refine WL_nil ?_
                        refine W_ret (blk_ret (blk_ret (blk_ret (finX_ret ?_))))
                        refine fin2 ?_
                        first
                          | (have hs : hexL l = none := by
                               rw [htk, ← List.singleton_append, ← List.append_assoc]
                               refine hexL_none ?_
                               rw [hexL_snoc, hhx, hexU_dig]
                               first
                                 | (rw [hdg]; simp; omega)
                                 | (have : digN l[i].toNat = none := by unfold digN; rw [if_neg (by omega), if_neg (by omega)]
                                    rw [this]; rfl)
                             exact ⟨_, rfl, by rw [hs]; rfl, hX⟩)
                          | exact ⟨_, rfl, by rw [hhx]; rfl, hX⟩
                rintro gblock5 w' hJ
                obtain ⟨d, h16, h12', hdg, hd256, hXj⟩ := hJ
                clear hX hXi
                have hXi := hXj
                have hX := (hX2.trans hE2).trans hXj
                refine W_set (i := 16) h16 ?_
                refine W_set (i := 12) h12' ?_
                refine W_seq ?_
                refine W_seq ?_
                refine W_region ?_
                refine op rfl (r_moveV (v := .int _ _) rfl) ?_
                refine op rfl (r_moveV (v := .int _ _) rfl) ?_
                refine op rfl (r_conv' (r := 16) rfl Tryd.underlying3 Tryd.underlying5 rfl) ?_
                refine op rfl (r_geq rfl rfl) ?_
                refine WL_nil ?_
                refine W_ifp rfl (fun ht137 => ?_) (fun ht137 => ?_)
                · refine W_seq ?_
                  refine W_region ?_
                  refine op rfl (r_makeIface (v := .int _ _) rfl Tryd.underlying96 rfl) ?_
                  refine op rfl (r_assignV (v := .int _ _) rfl) ?_
                  refine op rfl (r_assignV (v := _) rfl) ?_
                  refine WL_nil ?_
                  refine W_ret (blk_ret (blk_ret (finX_ret ?_)))
                  refine fin2 ?_
                  first
                    | (have hs : hexL l = none := by
                         rw [htk, ← List.singleton_append, ← List.append_assoc]
                         refine hexL_none ?_
                         rw [hexL_snoc, hhx, hexU_dig]
                         first
                           | (rw [hdg]; simp; omega)
                           | (have : digN l[i].toNat = none := by unfold digN; rw [if_neg (by omega), if_neg (by omega)]
                              rw [this]; rfl)
                       exact ⟨_, rfl, by rw [hs]; rfl, hX⟩)
                    | exact ⟨_, rfl, by rw [hhx]; rfl, hX⟩
                · have hd16 : d < 16 := by omega
                  refine W_skip ?_
                  refine W_seq ?_
                  refine W_seq ?_
                  refine W_region ?_
                  refine op rfl (r_moveV (v := .int _ _) rfl) ?_
                  refine op rfl (r_moveV (v := .int _ _) rfl) ?_
                  refine op rfl (r_geq rfl rfl) ?_
                  refine WL_nil ?_
                  refine W_ifp rfl (fun ht141 => ?_) (fun ht141 => ?_)
                  · exact absurd ht141 (by omega)
                  · refine W_skip ?_
                    refine W_seq ?_
                    refine W_region ?_
                    refine op rfl (r_moveV (v := .int _ _) rfl) ?_
                    refine op rfl (r_moveV (v := .int _ _) rfl) ?_
                    refine op rfl (r_conv' (r := 16) rfl Tryd.underlying3 Tryd.underlying58 rfl) ?_
                    refine op rfl (r_mul' (m := (n : Int)) (n := 16) (r := ((16 * n : Nat) : Int)) rfl rfl (by rw [wrap_u64 (by omega) (by omega)]; omega)) ?_
                    refine op rfl (r_assignV (v := .int _ _) rfl) ?_
                    refine WL_nil ?_
                    refine W_seq ?_
                    refine W_region ?_
                    refine op rfl (r_moveV (v := .int _ _) rfl) ?_
                    refine op rfl (r_moveV (v := .int _ _) rfl) ?_
                    refine op rfl (r_conv' (m := (d : Int)) (r := (d : Int)) rfl Tryd.underlying5 Tryd.underlying58 (wrap_u64 (by omega) (by omega))) ?_
                    refine op rfl (r_add' (m := ((16 * n : Nat) : Int)) (n := (d : Int)) (r := ((16 * n + d : Nat) : Int)) rfl rfl (by rw [wrap_u64 (by omega) (by omega)]; omega)) ?_
                    refine op rfl (r_assignV (v := .int _ _) rfl) ?_
                    refine WL_nil ?_
                    refine W_seq ?_
                    refine W_seq ?_
                    refine W_region ?_
                    refine op rfl (r_moveV (v := .int _ _) rfl) ?_
                    refine op rfl (r_moveV (v := .int _ _) rfl) ?_
                    refine op rfl (r_lss rfl rfl) ?_
                    refine op_false rfl (r_moveV (v := .bool (decide _)) rfl) (by omega) ?_
                    refine opG_yes rfl rfl rfl rfl rfl (r_moveV (v := .int _ _) rfl) ?_
                    refine opG_yes rfl rfl rfl rfl rfl (r_moveV (v := .int _ _) rfl) ?_
                    refine opG_yes rfl rfl rfl rfl rfl (r_gtr rfl rfl) ?_
                    refine op rfl (r_pickFV (v := .bool _) rfl rfl) ?_
                    refine WL_nil ?_
                    refine W_ifp rfl (fun ht159 => ?_) (fun ht159 => ?_)
                    · exact absurd ht159 (by omega)
                    · refine W_skip ?_
                      refine W_region ?_
                      refine op rfl (r_moveV (v := .int _ _) rfl) ?_
                      refine op rfl (r_assignV (v := .int _ _) rfl) ?_
                      refine WL_nil ?_
                      refine W_region ?_
                      refine op rfl (r_add' (r := ((i + 1 : Nat) : Int)) rfl rfl (by rw [wrap_i64 (by omega) (by omega)]; omega)) ?_
                      refine op rfl (r_moveV (v := .int _ _) rfl) ?_
                      refine WL_nil ?_
                      refine ⟨?_, by repeat (first | with_reducible exact Out.refl _ _ | with_reducible exact Out.mix | refine Out.put rfl ?_ | refine Out.mixin rfl ?_ | exact Out.refl _ _ | exact Out.mix)⟩
                      have hs : hexL (l.take (i + 1)) = some (16 * n + d) := by rw [List.take_succ_eq_append_getElem hlt, hexL_snoc, hhx, hexU_dig, hdg]; simp [hd16]
                      exact ⟨l.length - (i + 1), by omega, i + 1, 16 * n + d, rfl, by omega, rfl, rfl, hs, fun q => by omega, fun q => by have := hn0 (by omega); omega, by omega, rfl, hE2.trans hXi⟩
              · obtain rfl : i = l.length := by omega
                rw [List.take_length] at hhx
                refine W_exit (blk_hit ?_)
                refine W_seq ?_
                refine W_seq ?_
                refine W_region ?_
                refine op rfl (r_moveV (v := .bool _) rfl) ?_
                refine op_false rfl (r_moveV (v := .bool (decide _)) rfl) (id) ?_
                refine opG_no rfl rfl rfl rfl rfl ?_
                refine opG_no rfl rfl rfl rfl rfl ?_
                refine opG_no rfl rfl rfl rfl rfl ?_
                refine op rfl (r_pickFV (v := .bool _) rfl rfl) ?_
                refine WL_nil ?_
                refine W_else rfl ?_
                refine W_skip ?_
                refine W_seq ?_
                refine W_region ?_
                refine op rfl (r_moveV (v := .int _ _) rfl) ?_
                refine op rfl (r_assignV (v := .int _ _) rfl) ?_
                refine op rfl (r_assignV (v := _) rfl) ?_
                refine WL_nil ?_
                refine W_ret (finX_ret ?_)
                refine fin2 ?_
                first
                  | (have hs : hexL l = none := by
                       rw [htk, ← List.singleton_append, ← List.append_assoc]
                       refine hexL_none ?_
                       rw [hexL_snoc, hhx, hexU_dig]
                       first
                         | (rw [hdg]; simp; omega)
                         | (have : digN l[i].toNat = none := by unfold digN; rw [if_neg (by omega), if_neg (by omega)]
                            rw [this]; rfl)
                     exact ⟨_, rfl, by rw [hs]; rfl, hX⟩)
                  | exact ⟨_, rfl, by rw [hhx]; rfl, hX⟩
            · exact absurd (by decide) ht92
    · exact absurd (by decide) ht25
end Go.Proofs.YtafcaigjijajnaaDoor
