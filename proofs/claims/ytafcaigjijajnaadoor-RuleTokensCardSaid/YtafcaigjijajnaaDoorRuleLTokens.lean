/-
  Two tokens, side by side, are one; a token with any other sign in it is none: the walk.
-/
import Derived.Test.YtafcaigjijajnaaDoorFacts
import Derived.Test.YtafcaigjijajnaaDoorRuleGl
namespace Go.Proofs.YtafcaigjijajnaaDoor
open Go Go.Eng Go.RowKit Go.Proofs
set_option linter.unusedVariables false
set_option linter.unusedSimpArgs false
set_option maxHeartbeats 1000000
set_option maxRecDepth 20000

theorem tok_app {a b : List UInt8} (ha : tokR a) (hb : tokR b) : tokR (a ++ b) :=
  ⟨fun c h => (List.mem_append.1 h).elim (ha.1 c) (hb.1 c), fun q => ha.2 (List.append_eq_nil_iff.1 q).1⟩
theorem tok_sign (c : UInt8) : tokR [c] ↔ tokC c := ⟨fun h => h.1 c (by simp), fun h => ⟨fun x hx => by rw [List.mem_singleton.1 hx]; exact h, by simp⟩⟩
theorem tok_mid {a b : List UInt8} (ha : tokR a) (hb : tokR b) (c : UInt8) : tokR ((a ++ [c]) ++ b) ↔ tokC c :=
  ⟨fun h => h.1 c (by simp), fun h => tok_app (tok_app ha ((tok_sign c).2 h)) hb⟩
theorem tok_nil : ¬ tokR [] := fun h => h.2 rfl
theorem ruleTokens_walk (a b : List UInt8) (c : UInt8) (W : World) (hG : Gl W) (ha : a.length ≤ 140737488355328) (hb : b.length ≤ 140737488355328) :
    Calls Tryd.prog 8 #[.string (str a), .string (str b), .int .u8 (c.toNat : Nat)] W (fun en w' => ∃ v, en = .returned v ∧ v = .bool true ∧ Ext W w') := by
  refine calls' (n := 63) (rs := #[.tmp 6]) (l := [.string (str a), .string (str b), .int .u8 (c.toNat : Nat)]) Tryd.func8 rfl rfl rfl rfl rfl ?_
  have hX := Ext.refl W
  refine W_seq ?_
  refine W_region ?_
  refine op rfl (r_assignV (v := .bool _) rfl) ?_
  refine WL_nil ?_
  refine W_seq ?_
  refine W_seq ?_
  refine W_region ?_
  refine op rfl (r_moveV (v := .string _) rfl) ?_
  refine op rfl (rt_len rfl Tryd.underlying9) ?_
  refine op rfl (r_moveV (v := .string _) rfl) ?_
  refine op rfl (rt_len rfl Tryd.underlying9) ?_
  refine op rfl (r_add' rfl rfl (wrap_i64 (by omega) (by omega))) ?_
  refine op rfl (r_gtr rfl rfl) ?_
  refine op_split rfl (r_moveV (v := .bool (decide _)) rfl) (fun hg14 => ?_) (fun hg14 => ?_)
  · refine opG_no rfl rfl rfl rfl rfl ?_
    refine opG_no rfl rfl rfl rfl rfl ?_
    refine opG_no rfl rfl rfl rfl rfl ?_
    refine op rfl (r_pickTV (v := .bool _) rfl rfl) ?_
    refine op rfl (r_moveV (v := .bool _) rfl) ?_
    refine opG_no rfl rfl rfl rfl rfl ?_
    refine opG_no rfl rfl rfl rfl rfl ?_
    refine opG_no rfl rfl rfl rfl rfl ?_
    refine op rfl (r_pickTV (v := .bool _) rfl rfl) ?_
    refine WL_nil ?_
    refine W_then rfl ?_
    refine W_seq ?_
    refine W_region ?_
    refine opCv rfl (r_call Tryd.func19 Tryd.nm19 rfl) (token_spec [] _ (by simp)) ?_
    rintro v2 w2 ⟨rfl, hE⟩
    replace hX := hX.trans hE
    refine opCv rfl (r_call Tryd.func19 Tryd.nm19 rfl) (token_spec [45] _ (by simp)) ?_
    rintro v2b w2b ⟨rfl, hE⟩
    replace hX := hX.trans hE
    refine op rfl (rb_eql rfl rfl Tryd.underlying4) ?_
    refine op_true rfl (r_moveV (v := .bool (decide _)) rfl) (by decide) ?_
    refine opGCv_yes rfl rfl rfl rfl rfl (r_call Tryd.func11 Tryd.nm11 rfl) (known11_spec _ (hG.ext hX)) ?_
    rintro v2c w2c ⟨rfl, hE⟩
    replace hX := hX.trans hE
    refine op rfl (r_pickTV (v := .bool _) rfl rfl) ?_
    refine op rfl (r_assignV (v := .bool _) rfl) ?_
    refine WL_nil ?_
    refine W_ret (finX_ret ?_)
    refine fin1 ?_
    exact ⟨_, rfl, rfl, hX⟩
  · refine opG_yes rfl rfl rfl rfl rfl (r_moveV (v := .string _) rfl) ?_
    refine opGCv_yes rfl rfl rfl rfl rfl (r_call Tryd.func19 Tryd.nm19 rfl) (token_spec a _ (by omega)) ?_
    rintro v1 w1 ⟨rfl, hE⟩
    replace hX := hX.trans hE
    refine opG_yes rfl rfl rfl rfl rfl (r_notP rfl) ?_
    refine op rfl (r_pickFV (v := .bool _) rfl rfl) ?_
    refine op_split rfl (r_moveV (v := .bool (decide _)) rfl) (fun hg19 => ?_) (fun hg19 => ?_)
    · refine opG_no rfl rfl rfl rfl rfl ?_
      refine opG_no rfl rfl rfl rfl rfl ?_
      refine opG_no rfl rfl rfl rfl rfl ?_
      refine op rfl (r_pickTV (v := .bool _) rfl rfl) ?_
      refine WL_nil ?_
      refine W_then rfl ?_
      refine W_seq ?_
      refine W_region ?_
      refine opCv rfl (r_call Tryd.func19 Tryd.nm19 rfl) (token_spec [] _ (by simp)) ?_
      rintro v2 w2 ⟨rfl, hE⟩
      replace hX := hX.trans hE
      refine opCv rfl (r_call Tryd.func19 Tryd.nm19 rfl) (token_spec [45] _ (by simp)) ?_
      rintro v2b w2b ⟨rfl, hE⟩
      replace hX := hX.trans hE
      refine op rfl (rb_eql rfl rfl Tryd.underlying4) ?_
      refine op_true rfl (r_moveV (v := .bool (decide _)) rfl) (by decide) ?_
      refine opGCv_yes rfl rfl rfl rfl rfl (r_call Tryd.func11 Tryd.nm11 rfl) (known11_spec _ (hG.ext hX)) ?_
      rintro v2c w2c ⟨rfl, hE⟩
      replace hX := hX.trans hE
      refine op rfl (r_pickTV (v := .bool _) rfl rfl) ?_
      refine op rfl (r_assignV (v := .bool _) rfl) ?_
      refine WL_nil ?_
      refine W_ret (finX_ret ?_)
      refine fin1 ?_
      exact ⟨_, rfl, rfl, hX⟩
    · refine opG_yes rfl rfl rfl rfl rfl (r_moveV (v := .string _) rfl) ?_
      refine opGCv_yes rfl rfl rfl rfl rfl (r_call Tryd.func19 Tryd.nm19 rfl) (token_spec b _ (by omega)) ?_
      rintro v1b w1b ⟨rfl, hE⟩
      replace hX := hX.trans hE
      refine opG_yes rfl rfl rfl rfl rfl (r_notP rfl) ?_
      refine op rfl (r_pickFV (v := .bool _) rfl rfl) ?_
      refine WL_nil ?_
      refine W_ifp rfl (fun ht23 => ?_) (fun ht23 => ?_)
      · refine W_seq ?_
        refine W_region ?_
        refine opCv rfl (r_call Tryd.func19 Tryd.nm19 rfl) (token_spec [] _ (by simp)) ?_
        rintro v2 w2 ⟨rfl, hE⟩
        replace hX := hX.trans hE
        refine opCv rfl (r_call Tryd.func19 Tryd.nm19 rfl) (token_spec [45] _ (by simp)) ?_
        rintro v2b w2b ⟨rfl, hE⟩
        replace hX := hX.trans hE
        refine op rfl (rb_eql rfl rfl Tryd.underlying4) ?_
        refine op_true rfl (r_moveV (v := .bool (decide _)) rfl) (by decide) ?_
        refine opGCv_yes rfl rfl rfl rfl rfl (r_call Tryd.func11 Tryd.nm11 rfl) (known11_spec _ (hG.ext hX)) ?_
        rintro v2c w2c ⟨rfl, hE⟩
        replace hX := hX.trans hE
        refine op rfl (r_pickTV (v := .bool _) rfl rfl) ?_
        refine op rfl (r_assignV (v := .bool _) rfl) ?_
        refine WL_nil ?_
        refine W_ret (finX_ret ?_)
        refine fin1 ?_
        exact ⟨_, rfl, rfl, hX⟩
      · have hta : tokR a := Classical.not_not.1 hg19
        have htb : tokR b := Classical.not_not.1 ht23
        have hlen : a.length + b.length ≤ 300 := by omega
        refine W_skip ?_
        refine W_seq ?_
        refine W_region ?_
        refine op rfl (r_moveV (v := .int _ _) rfl) ?_
        refine op_newS rfl (r_buildSlice (vs := [.int _ _]) Tryd.underlying45 Tryd.sz5 Tryd.zero5 rfl rfl rfl) ?_
        intro w3_1 b3_1 E3_1 B3_1 L3_1
        have hG3_1 : W.heap.size ≤ b3_1 := by have := hX.size; omega
        replace hX := hX.trans E3_1
        refine op rfl (rt_str (l := [c]) rfl Tryd.underlying45 Tryd.underlying5 Tryd.underlying9 (row_one B3_1 trivial)) ?_
        refine opCv rfl (r_call Tryd.func19 Tryd.nm19 rfl) (token_spec [c] _ (by simp)) ?_
        rintro v3 w3 ⟨rfl, hE⟩
        replace B3_1 := Blk.ext B3_1 hE
        replace hX := hX.trans hE
        refine op rfl (r_assignV (v := .bool _) rfl) ?_
        refine WL_nil ?_
        refine W_seq ?_
        refine W_region ?_
        refine op rfl (r_moveV (v := .string _) rfl) ?_
        refine op rfl (r_moveV (v := .string _) rfl) ?_
        refine op rfl (rt_add rfl rfl (by omega)) ?_
        refine opCv rfl (r_call Tryd.func19 Tryd.nm19 rfl) (token_spec (a ++ b) _ (by simp; omega)) ?_
        rintro v4 w4 ⟨rfl, hE⟩
        replace B3_1 := Blk.ext B3_1 hE
        replace hX := hX.trans hE
        refine op_true rfl (r_moveV (v := .bool (decide _)) rfl) (tok_app hta htb) ?_
        refine opG_yes rfl rfl rfl rfl rfl (r_moveV (v := .string _) rfl) ?_
        refine opG_yes rfl rfl rfl rfl rfl (r_moveV (v := .int _ _) rfl) ?_
        refine op_newSG rfl rfl rfl rfl rfl (r_buildSlice (vs := [.int _ _]) Tryd.underlying45 Tryd.sz5 Tryd.zero5 rfl rfl rfl) ?_
        intro w4_7 b4_7 E4_7 B4_7 L4_7
        have hG4_7 : W.heap.size ≤ b4_7 := by have := hX.size; omega
        have hNb3_1_4_7 : b3_1 ≠ b4_7 := by have := Blk.lt B3_1; omega
        replace B3_1 := Blk.ext B3_1 E4_7
        replace hX := hX.trans E4_7
        refine opG_yes rfl rfl rfl rfl rfl (rt_str (l := [c]) rfl Tryd.underlying45 Tryd.underlying5 Tryd.underlying9 (row_one B4_7 trivial)) ?_
        refine opG_yes rfl rfl rfl rfl rfl (rt_add rfl rfl (by simp; omega)) ?_
        refine opG_yes rfl rfl rfl rfl rfl (r_moveV (v := .string _) rfl) ?_
        refine opG_yes rfl rfl rfl rfl rfl (rt_add rfl rfl (by simp; omega)) ?_
        refine opGCv_yes rfl rfl rfl rfl rfl (r_call Tryd.func19 Tryd.nm19 rfl) (token_spec ((a ++ [c]) ++ b) _ (by simp; omega)) ?_
        rintro v4b w4b ⟨rfl, hE⟩
        replace B3_1 := Blk.ext B3_1 hE
        replace B4_7 := Blk.ext B4_7 hE
        replace hX := hX.trans hE
        refine opG_yes rfl rfl rfl rfl rfl (r_moveV (v := .bool _) rfl) ?_
        refine opG_yes rfl rfl rfl rfl rfl (rb_eql rfl rfl Tryd.underlying4) ?_
        refine op rfl (r_pickTV (v := .bool _) rfl rfl) ?_
        refine op_true rfl (r_moveV (v := .bool (decide _)) rfl) (by simp only [tok_mid hta htb, tok_sign]) ?_
        refine opG_yes rfl rfl rfl rfl rfl (r_moveV (v := .bool _) rfl) ?_
        refine opG_yes rfl rfl rfl rfl rfl (r_moveV (v := .int _ _) rfl) ?_
        refine opGCv_yes rfl rfl rfl rfl rfl (r_call Tryd.func26 Tryd.nm26 rfl) (sign_spec c _) ?_
        rintro v4c w4c ⟨rfl, hE⟩
        replace B3_1 := Blk.ext B3_1 hE
        replace B4_7 := Blk.ext B4_7 hE
        replace hX := hX.trans hE
        refine opG_yes rfl rfl rfl rfl rfl (rb_eql rfl rfl Tryd.underlying4) ?_
        refine op rfl (r_pickTV (v := .bool _) rfl rfl) ?_
        refine op_true rfl (r_moveV (v := .bool (decide _)) rfl) (by simp only [tok_sign]) ?_
        refine opGCv_yes rfl rfl rfl rfl rfl (r_call Tryd.func19 Tryd.nm19 rfl) (token_spec [] _ (by simp)) ?_
        rintro v4d w4d ⟨rfl, hE⟩
        replace B3_1 := Blk.ext B3_1 hE
        replace B4_7 := Blk.ext B4_7 hE
        replace hX := hX.trans hE
        refine opG_yes rfl rfl rfl rfl rfl (r_notP rfl) ?_
        refine op rfl (r_pickTV (v := .bool _) rfl rfl) ?_
        refine op_true rfl (r_moveV (v := .bool (decide _)) rfl) (tok_nil) ?_
        refine opGCv_yes rfl rfl rfl rfl rfl (r_call Tryd.func11 Tryd.nm11 rfl) (known11_spec _ (hG.ext hX)) ?_
        rintro v4e w4e ⟨rfl, hE⟩
        replace B3_1 := Blk.ext B3_1 hE
        replace B4_7 := Blk.ext B4_7 hE
        replace hX := hX.trans hE
        refine op rfl (r_pickTV (v := .bool _) rfl rfl) ?_
        refine op rfl (r_assignV (v := .bool _) rfl) ?_
        refine WL_nil ?_
        refine W_ret (finX_ret ?_)
        refine fin1 ?_
        exact ⟨_, rfl, rfl, hX⟩
theorem ruleTokens_row (W : World) (hG : Gl W) (a : ByteArray) (ha : a.size ≤ big) (b : ByteArray) (hb : b.size ≤ big) (c : Int) (hc : inK .u8 c) :
    Calls Tryd.prog 8 #[.string a, .string b, .int .u8 c] W (fun e W' => ∃ v, e = .returned v ∧ v = .bool true ∧ Ext W W') := by
  obtain ⟨p, rfl⟩ : ∃ l, a = str l := ⟨a.data.toList, (str_of a).symm⟩
  obtain ⟨q, rfl⟩ : ∃ l, b = str l := ⟨b.data.toList, (str_of b).symm⟩
  simp only [inK, lo, hi] at hc
  have e : c = ((UInt8.ofNat c.toNat).toNat : Nat) := by
    rw [UInt8.toNat_ofNat', Nat.mod_eq_of_lt (by omega)]; omega
  rw [e]
  exact ruleTokens_walk p q (UInt8.ofNat c.toNat) W hG ha hb
end Go.Proofs.YtafcaigjijajnaaDoor
