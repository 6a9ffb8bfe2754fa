/-
  The walks of package rule: bytes, tokens.
-/
import Derived.Test.YtafcaigjijajnaaDoorFacts
import Derived.Test.YtafcaigjijajnaaDoorPathW
import Derived.Test.YtafcaigjijajnaaDoorRuleP
import Derived.Test.YtafcaigjijajnaaDoorGenB
namespace Go.Proofs.YtafcaigjijajnaaDoor
open Go Go.Eng Go.RowKit Go.Proofs
set_option linter.unusedVariables false
set_option linter.unusedSimpArgs false
set_option maxHeartbeats 1000000
set_option maxRecDepth 20000

theorem quoC_spec (c : UInt8) (w : World) :
    Calls Tryd.prog 34 #[.int .u8 (c.toNat : Nat)] w (fun en w' => ∃ v, en = .returned v ∧ v = .bool (decide (quoC c)) ∧ Ext w w') := by
  refine calls' (n := 13) (rs := #[.tmp 2]) (l := [.int .u8 (c.toNat : Nat)]) Tryd.func34 rfl rfl rfl rfl rfl ?_
  have hX := Ext.refl w
  refine W_seq ?_
  refine W_region ?_
  refine op rfl (r_assignV (v := .bool _) rfl) ?_
  refine WL_nil ?_
  refine W_seq ?_
  refine W_region ?_
  refine op rfl (r_moveV (v := .int _ _) rfl) ?_
  refine op rfl (r_gtr rfl rfl) ?_
  refine op_split rfl (r_moveV (v := .bool (decide _)) rfl) (fun hg5 => ?_) (fun hg5 => ?_)
  · refine opG_yes rfl rfl rfl rfl rfl (r_moveV (v := .int _ _) rfl) ?_
    refine opG_yes rfl rfl rfl rfl rfl (r_leq rfl rfl) ?_
    refine op rfl (r_pickTV (v := .bool _) rfl rfl) ?_
    refine op_split rfl (r_moveV (v := .bool (decide _)) rfl) (fun hg9 => ?_) (fun hg9 => ?_)
    · refine opG_yes rfl rfl rfl rfl rfl (r_moveV (v := .int _ _) rfl) ?_
      refine opG_yes rfl rfl rfl rfl rfl (r_neq rfl rfl) ?_
      refine op rfl (r_pickTV (v := .bool _) rfl rfl) ?_
      refine op rfl (r_assignV (v := .bool _) rfl) ?_
      refine WL_nil ?_
      refine W_ret (finX_ret ?_)
      refine fin1 ?_
      first
        | exact ⟨_, rfl, by first | exact bool_tt (by unfold quoC; omega) | exact bool_ff (by unfold quoC; omega) | exact bool_iff (by unfold quoC; omega), hX⟩
    · refine opG_no rfl rfl rfl rfl rfl ?_
      refine opG_no rfl rfl rfl rfl rfl ?_
      refine op rfl (r_pickFV (v := .bool _) rfl rfl) ?_
      refine op rfl (r_assignV (v := .bool _) rfl) ?_
      refine WL_nil ?_
      refine W_ret (finX_ret ?_)
      refine fin1 ?_
      first
        | exact ⟨_, rfl, by first | exact bool_tt (by unfold quoC; omega) | exact bool_ff (by unfold quoC; omega) | exact bool_iff (by unfold quoC; omega), hX⟩
  · refine opG_no rfl rfl rfl rfl rfl ?_
    refine opG_no rfl rfl rfl rfl rfl ?_
    refine op rfl (r_pickFV (v := .bool _) rfl rfl) ?_
    refine op rfl (r_moveV (v := .bool _) rfl) ?_
    refine opG_no rfl rfl rfl rfl rfl ?_
    refine opG_no rfl rfl rfl rfl rfl ?_
    refine op rfl (r_pickFV (v := .bool _) rfl rfl) ?_
    refine op rfl (r_assignV (v := .bool _) rfl) ?_
    refine WL_nil ?_
    refine W_ret (finX_ret ?_)
    refine fin1 ?_
    first
      | exact ⟨_, rfl, by first | exact bool_tt (by unfold quoC; omega) | exact bool_ff (by unfold quoC; omega) | exact bool_iff (by unfold quoC; omega), hX⟩
theorem sign_spec (c : UInt8) (w : World) :
    Calls Tryd.prog 26 #[.int .u8 (c.toNat : Nat)] w (fun en w' => ∃ v, en = .returned v ∧ v = .bool (decide (tokC c)) ∧ Ext w w') := by
  refine calls' (n := 29) (rs := #[.tmp 2]) (l := [.int .u8 (c.toNat : Nat)]) Tryd.func26 rfl rfl rfl rfl rfl ?_
  have hX := Ext.refl w
  refine W_seq ?_
  refine W_region ?_
  refine op rfl (r_assignV (v := .bool _) rfl) ?_
  refine WL_nil ?_
  refine W_seq ?_
  refine W_region ?_
  refine op rfl (r_moveV (v := .int _ _) rfl) ?_
  refine op rfl (r_geq rfl rfl) ?_
  refine op_split rfl (r_moveV (v := .bool (decide _)) rfl) (fun hg5 => ?_) (fun hg5 => ?_)
  · refine opG_yes rfl rfl rfl rfl rfl (r_moveV (v := .int _ _) rfl) ?_
    refine opG_yes rfl rfl rfl rfl rfl (r_leq rfl rfl) ?_
    refine op rfl (r_pickTV (v := .bool _) rfl rfl) ?_
    refine op_split rfl (r_moveV (v := .bool (decide _)) rfl) (fun hg9 => ?_) (fun hg9 => ?_)
    · refine opG_no rfl rfl rfl rfl rfl ?_
      refine opG_no rfl rfl rfl rfl rfl ?_
      refine opG_no rfl rfl rfl rfl rfl ?_
      refine opG_none rfl rfl rfl rfl ?_
      refine opG_none rfl rfl rfl rfl ?_
      refine opG_no rfl rfl rfl rfl rfl ?_
      refine op rfl (r_pickTV (v := .bool _) rfl rfl) ?_
      refine op rfl (r_moveV (v := .bool _) rfl) ?_
      refine opG_no rfl rfl rfl rfl rfl ?_
      refine opG_no rfl rfl rfl rfl rfl ?_
      refine opG_no rfl rfl rfl rfl rfl ?_
      refine opG_none rfl rfl rfl rfl ?_
      refine opG_none rfl rfl rfl rfl ?_
      refine opG_no rfl rfl rfl rfl rfl ?_
      refine op rfl (r_pickTV (v := .bool _) rfl rfl) ?_
      refine op rfl (r_moveV (v := .bool _) rfl) ?_
      refine opG_no rfl rfl rfl rfl rfl ?_
      refine opG_no rfl rfl rfl rfl rfl ?_
      refine op rfl (r_pickTV (v := .bool _) rfl rfl) ?_
      refine op rfl (r_assignV (v := .bool _) rfl) ?_
      refine WL_nil ?_
      refine W_ret (finX_ret ?_)
      refine fin1 ?_
      first
        | exact ⟨_, rfl, by first | exact bool_tt (by unfold tokC; omega) | exact bool_ff (by unfold tokC; omega) | exact bool_iff (by unfold tokC; omega), hX⟩
    · refine opG_yes rfl rfl rfl rfl rfl (r_moveV (v := .int _ _) rfl) ?_
      refine opG_yes rfl rfl rfl rfl rfl (r_geq rfl rfl) ?_
      refine opG_split rfl rfl rfl rfl rfl (r_moveV (v := .bool (decide _)) rfl) (fun hg12 => ?_) (fun hg12 => ?_)
      · refine opG_yes rfl rfl rfl rfl rfl (r_moveV (v := .int _ _) rfl) ?_
        refine opG_yes rfl rfl rfl rfl rfl (r_leq rfl rfl) ?_
        refine opG_yes rfl rfl rfl rfl rfl (r_pickTV (v := .bool _) rfl rfl) ?_
        refine op rfl (r_pickFV (v := .bool _) rfl rfl) ?_
        refine op_split rfl (r_moveV (v := .bool (decide _)) rfl) (fun hg17 => ?_) (fun hg17 => ?_)
        · refine opG_no rfl rfl rfl rfl rfl ?_
          refine opG_no rfl rfl rfl rfl rfl ?_
          refine opG_no rfl rfl rfl rfl rfl ?_
          refine opG_none rfl rfl rfl rfl ?_
          refine opG_none rfl rfl rfl rfl ?_
          refine opG_no rfl rfl rfl rfl rfl ?_
          refine op rfl (r_pickTV (v := .bool _) rfl rfl) ?_
          refine op rfl (r_moveV (v := .bool _) rfl) ?_
          refine opG_no rfl rfl rfl rfl rfl ?_
          refine opG_no rfl rfl rfl rfl rfl ?_
          refine op rfl (r_pickTV (v := .bool _) rfl rfl) ?_
          refine op rfl (r_assignV (v := .bool _) rfl) ?_
          refine WL_nil ?_
          refine W_ret (finX_ret ?_)
          refine fin1 ?_
          first
            | exact ⟨_, rfl, by first | exact bool_tt (by unfold tokC; omega) | exact bool_ff (by unfold tokC; omega) | exact bool_iff (by unfold tokC; omega), hX⟩
        · refine opG_yes rfl rfl rfl rfl rfl (r_moveV (v := .int _ _) rfl) ?_
          refine opG_yes rfl rfl rfl rfl rfl (r_geq rfl rfl) ?_
          refine opG_split rfl rfl rfl rfl rfl (r_moveV (v := .bool (decide _)) rfl) (fun hg20 => ?_) (fun hg20 => ?_)
          · refine opG_yes rfl rfl rfl rfl rfl (r_moveV (v := .int _ _) rfl) ?_
            refine opG_yes rfl rfl rfl rfl rfl (r_leq rfl rfl) ?_
            refine opG_yes rfl rfl rfl rfl rfl (r_pickTV (v := .bool _) rfl rfl) ?_
            refine op rfl (r_pickFV (v := .bool _) rfl rfl) ?_
            refine op_split rfl (r_moveV (v := .bool (decide _)) rfl) (fun hg25 => ?_) (fun hg25 => ?_)
            · refine opG_no rfl rfl rfl rfl rfl ?_
              refine opG_no rfl rfl rfl rfl rfl ?_
              refine op rfl (r_pickTV (v := .bool _) rfl rfl) ?_
              refine op rfl (r_assignV (v := .bool _) rfl) ?_
              refine WL_nil ?_
              refine W_ret (finX_ret ?_)
              refine fin1 ?_
              first
                | exact ⟨_, rfl, by first | exact bool_tt (by unfold tokC; omega) | exact bool_ff (by unfold tokC; omega) | exact bool_iff (by unfold tokC; omega), hX⟩
            · refine opG_yes rfl rfl rfl rfl rfl (r_moveV (v := .int _ _) rfl) ?_
              refine opG_yes rfl rfl rfl rfl rfl (r_eql rfl rfl) ?_
              refine op rfl (r_pickFV (v := .bool _) rfl rfl) ?_
              refine op rfl (r_assignV (v := .bool _) rfl) ?_
              refine WL_nil ?_
              refine W_ret (finX_ret ?_)
              refine fin1 ?_
              first
                | exact ⟨_, rfl, by first | exact bool_tt (by unfold tokC; omega) | exact bool_ff (by unfold tokC; omega) | exact bool_iff (by unfold tokC; omega), hX⟩
          · refine opG_no rfl rfl rfl rfl rfl ?_
            refine opG_no rfl rfl rfl rfl rfl ?_
            refine opG_yes rfl rfl rfl rfl rfl (r_pickFV (v := .bool _) rfl rfl) ?_
            refine op rfl (r_pickFV (v := .bool _) rfl rfl) ?_
            refine op rfl (r_moveV (v := .bool _) rfl) ?_
            refine opG_yes rfl rfl rfl rfl rfl (r_moveV (v := .int _ _) rfl) ?_
            refine opG_yes rfl rfl rfl rfl rfl (r_eql rfl rfl) ?_
            refine op rfl (r_pickFV (v := .bool _) rfl rfl) ?_
            refine op rfl (r_assignV (v := .bool _) rfl) ?_
            refine WL_nil ?_
            refine W_ret (finX_ret ?_)
            refine fin1 ?_
            first
              | exact ⟨_, rfl, by first | exact bool_tt (by unfold tokC; omega) | exact bool_ff (by unfold tokC; omega) | exact bool_iff (by unfold tokC; omega), hX⟩
      · refine opG_no rfl rfl rfl rfl rfl ?_
        refine opG_no rfl rfl rfl rfl rfl ?_
        refine opG_yes rfl rfl rfl rfl rfl (r_pickFV (v := .bool _) rfl rfl) ?_
        refine op rfl (r_pickFV (v := .bool _) rfl rfl) ?_
        refine op rfl (r_moveV (v := .bool _) rfl) ?_
        refine opG_yes rfl rfl rfl rfl rfl (r_moveV (v := .int _ _) rfl) ?_
        refine opG_yes rfl rfl rfl rfl rfl (r_geq rfl rfl) ?_
        refine opG_split rfl rfl rfl rfl rfl (r_moveV (v := .bool (decide _)) rfl) (fun hg20 => ?_) (fun hg20 => ?_)
        · refine opG_yes rfl rfl rfl rfl rfl (r_moveV (v := .int _ _) rfl) ?_
          refine opG_yes rfl rfl rfl rfl rfl (r_leq rfl rfl) ?_
          refine opG_yes rfl rfl rfl rfl rfl (r_pickTV (v := .bool _) rfl rfl) ?_
          refine op rfl (r_pickFV (v := .bool _) rfl rfl) ?_
          refine op_split rfl (r_moveV (v := .bool (decide _)) rfl) (fun hg25 => ?_) (fun hg25 => ?_)
          · refine opG_no rfl rfl rfl rfl rfl ?_
            refine opG_no rfl rfl rfl rfl rfl ?_
            refine op rfl (r_pickTV (v := .bool _) rfl rfl) ?_
            refine op rfl (r_assignV (v := .bool _) rfl) ?_
            refine WL_nil ?_
            refine W_ret (finX_ret ?_)
            refine fin1 ?_
            first
              | exact ⟨_, rfl, by first | exact bool_tt (by unfold tokC; omega) | exact bool_ff (by unfold tokC; omega) | exact bool_iff (by unfold tokC; omega), hX⟩
          · refine opG_yes rfl rfl rfl rfl rfl (r_moveV (v := .int _ _) rfl) ?_
            refine opG_yes rfl rfl rfl rfl rfl (r_eql rfl rfl) ?_
            refine op rfl (r_pickFV (v := .bool _) rfl rfl) ?_
            refine op rfl (r_assignV (v := .bool _) rfl) ?_
            refine WL_nil ?_
            refine W_ret (finX_ret ?_)
            refine fin1 ?_
            first
              | exact ⟨_, rfl, by first | exact bool_tt (by unfold tokC; omega) | exact bool_ff (by unfold tokC; omega) | exact bool_iff (by unfold tokC; omega), hX⟩
        · refine opG_no rfl rfl rfl rfl rfl ?_
          refine opG_no rfl rfl rfl rfl rfl ?_
          refine opG_yes rfl rfl rfl rfl rfl (r_pickFV (v := .bool _) rfl rfl) ?_
          refine op rfl (r_pickFV (v := .bool _) rfl rfl) ?_
          refine op rfl (r_moveV (v := .bool _) rfl) ?_
          refine opG_yes rfl rfl rfl rfl rfl (r_moveV (v := .int _ _) rfl) ?_
          refine opG_yes rfl rfl rfl rfl rfl (r_eql rfl rfl) ?_
          refine op rfl (r_pickFV (v := .bool _) rfl rfl) ?_
          refine op rfl (r_assignV (v := .bool _) rfl) ?_
          refine WL_nil ?_
          refine W_ret (finX_ret ?_)
          refine fin1 ?_
          first
            | exact ⟨_, rfl, by first | exact bool_tt (by unfold tokC; omega) | exact bool_ff (by unfold tokC; omega) | exact bool_iff (by unfold tokC; omega), hX⟩
  · refine opG_no rfl rfl rfl rfl rfl ?_
    refine opG_no rfl rfl rfl rfl rfl ?_
    refine op rfl (r_pickFV (v := .bool _) rfl rfl) ?_
    refine op rfl (r_moveV (v := .bool _) rfl) ?_
    refine opG_yes rfl rfl rfl rfl rfl (r_moveV (v := .int _ _) rfl) ?_
    refine opG_yes rfl rfl rfl rfl rfl (r_geq rfl rfl) ?_
    refine opG_split rfl rfl rfl rfl rfl (r_moveV (v := .bool (decide _)) rfl) (fun hg12 => ?_) (fun hg12 => ?_)
    · refine opG_yes rfl rfl rfl rfl rfl (r_moveV (v := .int _ _) rfl) ?_
      refine opG_yes rfl rfl rfl rfl rfl (r_leq rfl rfl) ?_
      refine opG_yes rfl rfl rfl rfl rfl (r_pickTV (v := .bool _) rfl rfl) ?_
      refine op rfl (r_pickFV (v := .bool _) rfl rfl) ?_
      refine op_split rfl (r_moveV (v := .bool (decide _)) rfl) (fun hg17 => ?_) (fun hg17 => ?_)
      · refine opG_no rfl rfl rfl rfl rfl ?_
        refine opG_no rfl rfl rfl rfl rfl ?_
        refine opG_no rfl rfl rfl rfl rfl ?_
        refine opG_none rfl rfl rfl rfl ?_
        refine opG_none rfl rfl rfl rfl ?_
        refine opG_no rfl rfl rfl rfl rfl ?_
        refine op rfl (r_pickTV (v := .bool _) rfl rfl) ?_
        refine op rfl (r_moveV (v := .bool _) rfl) ?_
        refine opG_no rfl rfl rfl rfl rfl ?_
        refine opG_no rfl rfl rfl rfl rfl ?_
        refine op rfl (r_pickTV (v := .bool _) rfl rfl) ?_
        refine op rfl (r_assignV (v := .bool _) rfl) ?_
        refine WL_nil ?_
        refine W_ret (finX_ret ?_)
        refine fin1 ?_
        first
          | exact ⟨_, rfl, by first | exact bool_tt (by unfold tokC; omega) | exact bool_ff (by unfold tokC; omega) | exact bool_iff (by unfold tokC; omega), hX⟩
      · refine opG_yes rfl rfl rfl rfl rfl (r_moveV (v := .int _ _) rfl) ?_
        refine opG_yes rfl rfl rfl rfl rfl (r_geq rfl rfl) ?_
        refine opG_split rfl rfl rfl rfl rfl (r_moveV (v := .bool (decide _)) rfl) (fun hg20 => ?_) (fun hg20 => ?_)
        · refine opG_yes rfl rfl rfl rfl rfl (r_moveV (v := .int _ _) rfl) ?_
          refine opG_yes rfl rfl rfl rfl rfl (r_leq rfl rfl) ?_
          refine opG_yes rfl rfl rfl rfl rfl (r_pickTV (v := .bool _) rfl rfl) ?_
          refine op rfl (r_pickFV (v := .bool _) rfl rfl) ?_
          refine op_split rfl (r_moveV (v := .bool (decide _)) rfl) (fun hg25 => ?_) (fun hg25 => ?_)
          · refine opG_no rfl rfl rfl rfl rfl ?_
            refine opG_no rfl rfl rfl rfl rfl ?_
            refine op rfl (r_pickTV (v := .bool _) rfl rfl) ?_
            refine op rfl (r_assignV (v := .bool _) rfl) ?_
            refine WL_nil ?_
            refine W_ret (finX_ret ?_)
            refine fin1 ?_
            first
              | exact ⟨_, rfl, by first | exact bool_tt (by unfold tokC; omega) | exact bool_ff (by unfold tokC; omega) | exact bool_iff (by unfold tokC; omega), hX⟩
          · refine opG_yes rfl rfl rfl rfl rfl (r_moveV (v := .int _ _) rfl) ?_
            refine opG_yes rfl rfl rfl rfl rfl (r_eql rfl rfl) ?_
            refine op rfl (r_pickFV (v := .bool _) rfl rfl) ?_
            refine op rfl (r_assignV (v := .bool _) rfl) ?_
            refine WL_nil ?_
            refine W_ret (finX_ret ?_)
            refine fin1 ?_
            first
              | exact ⟨_, rfl, by first | exact bool_tt (by unfold tokC; omega) | exact bool_ff (by unfold tokC; omega) | exact bool_iff (by unfold tokC; omega), hX⟩
        · refine opG_no rfl rfl rfl rfl rfl ?_
          refine opG_no rfl rfl rfl rfl rfl ?_
          refine opG_yes rfl rfl rfl rfl rfl (r_pickFV (v := .bool _) rfl rfl) ?_
          refine op rfl (r_pickFV (v := .bool _) rfl rfl) ?_
          refine op rfl (r_moveV (v := .bool _) rfl) ?_
          refine opG_yes rfl rfl rfl rfl rfl (r_moveV (v := .int _ _) rfl) ?_
          refine opG_yes rfl rfl rfl rfl rfl (r_eql rfl rfl) ?_
          refine op rfl (r_pickFV (v := .bool _) rfl rfl) ?_
          refine op rfl (r_assignV (v := .bool _) rfl) ?_
          refine WL_nil ?_
          refine W_ret (finX_ret ?_)
          refine fin1 ?_
          first
            | exact ⟨_, rfl, by first | exact bool_tt (by unfold tokC; omega) | exact bool_ff (by unfold tokC; omega) | exact bool_iff (by unfold tokC; omega), hX⟩
    · refine opG_no rfl rfl rfl rfl rfl ?_
      refine opG_no rfl rfl rfl rfl rfl ?_
      refine opG_yes rfl rfl rfl rfl rfl (r_pickFV (v := .bool _) rfl rfl) ?_
      refine op rfl (r_pickFV (v := .bool _) rfl rfl) ?_
      refine op rfl (r_moveV (v := .bool _) rfl) ?_
      refine opG_yes rfl rfl rfl rfl rfl (r_moveV (v := .int _ _) rfl) ?_
      refine opG_yes rfl rfl rfl rfl rfl (r_geq rfl rfl) ?_
      refine opG_split rfl rfl rfl rfl rfl (r_moveV (v := .bool (decide _)) rfl) (fun hg20 => ?_) (fun hg20 => ?_)
      · refine opG_yes rfl rfl rfl rfl rfl (r_moveV (v := .int _ _) rfl) ?_
        refine opG_yes rfl rfl rfl rfl rfl (r_leq rfl rfl) ?_
        refine opG_yes rfl rfl rfl rfl rfl (r_pickTV (v := .bool _) rfl rfl) ?_
        refine op rfl (r_pickFV (v := .bool _) rfl rfl) ?_
        refine op_split rfl (r_moveV (v := .bool (decide _)) rfl) (fun hg25 => ?_) (fun hg25 => ?_)
        · refine opG_no rfl rfl rfl rfl rfl ?_
          refine opG_no rfl rfl rfl rfl rfl ?_
          refine op rfl (r_pickTV (v := .bool _) rfl rfl) ?_
          refine op rfl (r_assignV (v := .bool _) rfl) ?_
          refine WL_nil ?_
          refine W_ret (finX_ret ?_)
          refine fin1 ?_
          first
            | exact ⟨_, rfl, by first | exact bool_tt (by unfold tokC; omega) | exact bool_ff (by unfold tokC; omega) | exact bool_iff (by unfold tokC; omega), hX⟩
        · refine opG_yes rfl rfl rfl rfl rfl (r_moveV (v := .int _ _) rfl) ?_
          refine opG_yes rfl rfl rfl rfl rfl (r_eql rfl rfl) ?_
          refine op rfl (r_pickFV (v := .bool _) rfl rfl) ?_
          refine op rfl (r_assignV (v := .bool _) rfl) ?_
          refine WL_nil ?_
          refine W_ret (finX_ret ?_)
          refine fin1 ?_
          first
            | exact ⟨_, rfl, by first | exact bool_tt (by unfold tokC; omega) | exact bool_ff (by unfold tokC; omega) | exact bool_iff (by unfold tokC; omega), hX⟩
      · refine opG_no rfl rfl rfl rfl rfl ?_
        refine opG_no rfl rfl rfl rfl rfl ?_
        refine opG_yes rfl rfl rfl rfl rfl (r_pickFV (v := .bool _) rfl rfl) ?_
        refine op rfl (r_pickFV (v := .bool _) rfl rfl) ?_
        refine op rfl (r_moveV (v := .bool _) rfl) ?_
        refine opG_yes rfl rfl rfl rfl rfl (r_moveV (v := .int _ _) rfl) ?_
        refine opG_yes rfl rfl rfl rfl rfl (r_eql rfl rfl) ?_
        refine op rfl (r_pickFV (v := .bool _) rfl rfl) ?_
        refine op rfl (r_assignV (v := .bool _) rfl) ?_
        refine WL_nil ?_
        refine W_ret (finX_ret ?_)
        refine fin1 ?_
        first
          | exact ⟨_, rfl, by first | exact bool_tt (by unfold tokC; omega) | exact bool_ff (by unfold tokC; omega) | exact bool_iff (by unfold tokC; omega), hX⟩
theorem refToken_spec (s : List UInt8) (w : World) (hs : s.length ≤ 140737488355328) :
    Calls Tryd.prog 20 #[.string (str s)] w (fun en w' => ∃ v, en = .returned v ∧ v = .bool (decide (tokR s)) ∧ Ext w w') := by
  refine calls' (n := 18) (rs := #[.tmp 2]) (l := [.string (str s)]) Tryd.func20 rfl rfl rfl rfl rfl ?_
  have hX := Ext.refl w
  refine W_seq ?_
  refine W_region ?_
  refine op rfl (r_assignV (v := .bool _) rfl) ?_
  refine WL_nil ?_
  refine W_seq ?_
  refine W_seq ?_
  refine W_region ?_
  refine op rfl (r_assignV (v := .int _ _) rfl) ?_
  refine WL_nil ?_
  refine W_block ?_
  refine W_loop [2, 3, 4, 5, 6, 7, 8, 9, 10, 11, 12, 13, 14] (fun q e' w' => ∃ i : Nat, q = s.length - i ∧ i ≤ s.length ∧ e' 3 = .int .i64 i ∧ (∀ k (h : k < s.length), k < i → tokC s[k]) ∧ Ext w w') (s.length) ?_ ?_
  · exact ⟨0, by omega, by omega, rfl, fun k _ h => absurd h (Nat.not_lt_zero k), hX⟩
  intro k g w' hI
  obtain ⟨i, hq, hi, h3, hall, hX'⟩ := hI
  clear hX
  have hX := hX'
  refine W_set (i := 3) h3 ?_
  refine W_seq ?_
  refine W_seq ?_
  refine W_region ?_
  refine op rfl (r_moveV (v := .int _ _) rfl) ?_
  refine op rfl (r_moveV (v := .string _) rfl) ?_
  refine op rfl (rt_len rfl Tryd.underlying9) ?_
  refine op rfl (r_lss rfl rfl) ?_
  refine WL_nil ?_
  refine W_ifp rfl (fun ht7 => ?_) (fun ht7 => ?_)
  · have hlt : i < s.length := by omega
    refine W_skip ?_
    refine W_seq ?_
    refine W_block ?_
    refine W_seq ?_
    refine W_region ?_
    refine op rfl (r_moveV (v := .string _) rfl) ?_
    refine op rfl (r_moveV (v := .int _ _) rfl) ?_
    refine op rfl (rt_index (i := i) rfl rfl Tryd.underlying9 hlt) ?_
    refine opCv rfl (r_call Tryd.func26 Tryd.nm26 rfl) (sign_spec s[i] _) ?_
    rintro v w4 ⟨rfl, hE⟩
    replace hX := hX.trans hE
    refine op rfl (r_notP rfl) ?_
    refine WL_nil ?_
    refine W_ifp rfl (fun ht14 => ?_) (fun ht14 => ?_)
    · refine W_seq ?_
      refine W_region ?_
      refine op rfl (r_assignV (v := .bool _) rfl) ?_
      refine WL_nil ?_
      refine W_ret (blk_ret (blk_ret (finX_ret ?_)))
      refine fin1 ?_
      first
        | exact ⟨_, rfl, bool_ff (fun h => ht14 (h.1 _ (List.getElem_mem hlt))), hX⟩
        | exact ⟨_, rfl, bool_iff ⟨fun h => ⟨hall', fun q => by rw [q] at h; simp at h⟩, fun h => by have := List.length_pos_iff.2 h.2; omega⟩, hX⟩
    · refine W_skip ?_
      refine W_region ?_
      refine op rfl (r_moveV (v := .int _ _) rfl) ?_
      refine op rfl (r_add' (r := ((i + 1 : Nat) : Int)) rfl rfl (by rw [wrap_i64 (by omega) (by omega)]; omega)) ?_
      refine op rfl (r_assignV (v := .int _ _) rfl) ?_
      refine WL_nil ?_
      refine ⟨?_, by repeat (first | with_reducible exact Out.refl _ _ | with_reducible exact Out.mix | refine Out.put rfl ?_ | refine Out.mixin rfl ?_ | exact Out.refl _ _ | exact Out.mix)⟩
      refine ⟨s.length - (i + 1), by omega, i + 1, rfl, by omega, rfl, fun k h hk => ?_, hX⟩
      by_cases hki : k = i
      · subst hki; exact Classical.byContradiction ht14
      · exact hall k h (by omega)
  · have hall' : ∀ c ∈ s, tokC c := fun c hc => by
      obtain ⟨k, hk, rfl⟩ := List.mem_iff_getElem.1 hc
      exact hall k hk (by omega)
    refine W_exit (blk_hit ?_)
    refine W_seq ?_
    refine W_region ?_
    refine op rfl (r_moveV (v := .string _) rfl) ?_
    refine op rfl (rt_len rfl Tryd.underlying9) ?_
    refine op rfl (r_gtr rfl rfl) ?_
    refine op rfl (r_assignV (v := .bool _) rfl) ?_
    refine WL_nil ?_
    refine W_ret (finX_ret ?_)
    refine fin1 ?_
    first
      | exact ⟨_, rfl, bool_ff (fun h => ht14 (h.1 _ (List.getElem_mem hlt))), hX⟩
      | exact ⟨_, rfl, bool_iff ⟨fun h => ⟨hall', fun q => by rw [q] at h; simp at h⟩, fun h => by have := List.length_pos_iff.2 h.2; omega⟩, hX⟩
theorem token_spec (s : List UInt8) (w : World) (hs : s.length ≤ 140737488355328) :
    Calls Tryd.prog 19 #[.string (str s)] w (fun en w' => ∃ v, en = .returned v ∧ v = .bool (decide (tokR s)) ∧ Ext w w') := by
  refine calls' (n := 38) (rs := #[.tmp 2]) (l := [.string (str s)]) Tryd.func19 rfl rfl rfl rfl rfl ?_
  have hX := Ext.refl w
  refine W_seq ?_
  refine W_region ?_
  refine op rfl (r_assignV (v := .bool _) rfl) ?_
  refine WL_nil ?_
  refine W_seq ?_
  refine W_seq ?_
  refine W_region ?_
  refine op rfl (r_moveV (v := .string _) rfl) ?_
  refine op_rangeS rfl rfl Tryd.underlying9 ?_
  intro w1 it E1 hS1 L1
  replace hX := hX.trans E1
  refine WL_nil ?_
  refine W_block ?_
  refine W_loop [2, 4, 7, 8, 9, 10, 11, 12, 13, 14, 15, 16, 17, 18, 19, 20, 21, 22, 23, 24, 25, 26, 27, 28, 29, 30, 31, 32, 33, 34, 35] (fun q e' w' => ∃ p : Nat, q = s.length - p ∧ StrAt w' it s p ∧ (∀ k (h : k < s.length), k < p → tokC s[k]) ∧ Ext w w') (s.length) ?_ ?_
  · exact ⟨0, by omega, hS1, fun k _ h => absurd h (Nat.not_lt_zero k), hX⟩
  intro k g w' hI
  obtain ⟨p, hq, hS, hall, hX'⟩ := hI
  clear hX
  have hX := hX'
  refine W_seq ?_
  refine W_region ?_
  refine op_nextS rfl rfl hS ?_
  intro w2 b iv rv hC hF hT
  replace hX := hX.chg hC (by omega)
  refine op rfl (r_extNext (b := b) (k := iv) (v := rv) rfl) ?_
  refine WL_nil ?_
  refine W_seq ?_
  refine W_if rfl (fun ht8 => ?_) (fun ht8 => ?_)
  · obtain ⟨rfl, c, m, rfl, hsg, hS2⟩ := hT ht8
    subst ht8
    refine W_skip ?_
    refine W_block ?_
    refine W_seq ?_
    refine W_region ?_
    refine op rfl (r_extract (vs := [.bool true, .int .i64 p, .int .i32 c]) (v := .int .i32 c) rfl rfl) ?_
    refine op rfl (r_assignV (v := .int .i32 c) rfl) ?_
    refine WL_nil ?_
    refine W_seq ?_
    refine W_region ?_
    refine op rfl (r_moveV (v := .int .i32 c) rfl) ?_
    refine op rfl (r_neq rfl rfl) ?_
    refine op_split rfl (r_moveV (v := .bool (decide _)) rfl) (fun hg12 => ?_) (fun hg12 => ?_)
    · refine opG_yes rfl rfl rfl rfl rfl (r_moveV (v := .int .i32 c) rfl) ?_
      refine opG_yes rfl rfl rfl rfl rfl (r_lss rfl rfl) ?_
      refine opG_split rfl rfl rfl rfl rfl (r_moveV (v := .bool (decide _)) rfl) (fun hg15 => ?_) (fun hg15 => ?_)
      · refine opG_no rfl rfl rfl rfl rfl ?_
        refine opG_no rfl rfl rfl rfl rfl ?_
        refine opG_yes rfl rfl rfl rfl rfl (r_pickTV (v := .bool _) rfl rfl) ?_
        refine op rfl (r_pickTV (v := .bool _) rfl rfl) ?_
        refine op rfl (r_moveV (v := .bool _) rfl) ?_
        refine opG_yes rfl rfl rfl rfl rfl (r_moveV (v := .int .i32 c) rfl) ?_
        refine opG_yes rfl rfl rfl rfl rfl (r_lss rfl rfl) ?_
        refine opG_split rfl rfl rfl rfl rfl (r_moveV (v := .bool (decide _)) rfl) (fun hg23 => ?_) (fun hg23 => ?_)
        · refine opG_no rfl rfl rfl rfl rfl ?_
          refine opG_no rfl rfl rfl rfl rfl ?_
          refine opG_yes rfl rfl rfl rfl rfl (r_pickTV (v := .bool _) rfl rfl) ?_
          refine op rfl (r_pickTV (v := .bool _) rfl rfl) ?_
          refine op rfl (r_moveV (v := .bool _) rfl) ?_
          refine opG_yes rfl rfl rfl rfl rfl (r_moveV (v := .int .i32 c) rfl) ?_
          refine opG_yes rfl rfl rfl rfl rfl (r_lss rfl rfl) ?_
          refine opG_split rfl rfl rfl rfl rfl (r_moveV (v := .bool (decide _)) rfl) (fun hg31 => ?_) (fun hg31 => ?_)
          · refine opG_no rfl rfl rfl rfl rfl ?_
            refine opG_no rfl rfl rfl rfl rfl ?_
            refine opG_yes rfl rfl rfl rfl rfl (r_pickTV (v := .bool _) rfl rfl) ?_
            refine op rfl (r_pickTV (v := .bool _) rfl rfl) ?_
            refine WL_nil ?_
            refine W_then rfl ?_
            refine W_seq ?_
            refine W_region ?_
            refine op rfl (r_assignV (v := .bool _) rfl) ?_
            refine WL_nil ?_
            refine W_ret (blk_ret (blk_ret (finX_ret ?_)))
            refine fin1 ?_
            first
              | exact ⟨_, rfl, bool_iff ⟨fun h => ⟨hall', h⟩, fun h => h.2⟩, hX⟩
              | exact ⟨_, rfl, bool_ff (fun h => by
                  obtain ⟨hpl, hm1, hlo, hhi⟩ := hsg
                  have htk := h.1 _ (List.getElem_mem hpl)
                  unfold tokC at htk
                  by_cases h128 : s[p].toNat < 128
                  · have := (hlo h128).1; omega
                  · omega), hX⟩
          · refine opG_yes rfl rfl rfl rfl rfl (r_moveV (v := .int .i32 c) rfl) ?_
            refine opG_yes rfl rfl rfl rfl rfl (r_gtr rfl rfl) ?_
            refine opG_yes rfl rfl rfl rfl rfl (r_pickFV (v := .bool _) rfl rfl) ?_
            refine op rfl (r_pickTV (v := .bool _) rfl rfl) ?_
            refine WL_nil ?_
            refine W_ifp rfl (fun ht35 => ?_) (fun ht35 => ?_)
            · refine W_seq ?_
              refine W_region ?_
              refine op rfl (r_assignV (v := .bool _) rfl) ?_
              refine WL_nil ?_
              refine W_ret (blk_ret (blk_ret (finX_ret ?_)))
              refine fin1 ?_
              first
                | exact ⟨_, rfl, bool_iff ⟨fun h => ⟨hall', h⟩, fun h => h.2⟩, hX⟩
                | exact ⟨_, rfl, bool_ff (fun h => by
                    obtain ⟨hpl, hm1, hlo, hhi⟩ := hsg
                    have htk := h.1 _ (List.getElem_mem hpl)
                    unfold tokC at htk
                    by_cases h128 : s[p].toNat < 128
                    · have := (hlo h128).1; omega
                    · omega), hX⟩
            · refine W_skip ?_
              refine ⟨?_, by repeat (first | with_reducible exact Out.refl _ _ | with_reducible exact Out.mix | refine Out.put rfl ?_ | refine Out.mixin rfl ?_ | exact Out.refl _ _ | exact Out.mix)⟩
              obtain ⟨hpl, hm1, hlo, hhi⟩ := hsg
              have htc : tokC s[p] := by
                by_cases h128 : s[p].toNat < 128
                · obtain ⟨hc, -⟩ := hlo h128
                  unfold tokC; omega
                · have := hhi (by omega); omega
              have hm : m = 1 := by
                by_cases h128 : s[p].toNat < 128
                · exact (hlo h128).2
                · unfold tokC at htc; omega
              refine ⟨s.length - (p + m), by omega, p + m, rfl, hS2, fun k h hk => ?_, hX⟩
              by_cases hkp : k = p
              · subst hkp; exact htc
              · exact hall k h (by omega)
        · refine opG_yes rfl rfl rfl rfl rfl (r_moveV (v := .int .i32 c) rfl) ?_
          refine opG_yes rfl rfl rfl rfl rfl (r_gtr rfl rfl) ?_
          refine opG_yes rfl rfl rfl rfl rfl (r_pickFV (v := .bool _) rfl rfl) ?_
          refine op rfl (r_pickTV (v := .bool _) rfl rfl) ?_
          refine op_split rfl (r_moveV (v := .bool (decide _)) rfl) (fun hg28 => ?_) (fun hg28 => ?_)
          · refine opG_yes rfl rfl rfl rfl rfl (r_moveV (v := .int .i32 c) rfl) ?_
            refine opG_yes rfl rfl rfl rfl rfl (r_lss rfl rfl) ?_
            refine opG_split rfl rfl rfl rfl rfl (r_moveV (v := .bool (decide _)) rfl) (fun hg31 => ?_) (fun hg31 => ?_)
            · refine opG_no rfl rfl rfl rfl rfl ?_
              refine opG_no rfl rfl rfl rfl rfl ?_
              refine opG_yes rfl rfl rfl rfl rfl (r_pickTV (v := .bool _) rfl rfl) ?_
              refine op rfl (r_pickTV (v := .bool _) rfl rfl) ?_
              refine WL_nil ?_
              refine W_then rfl ?_
              refine W_seq ?_
              refine W_region ?_
              refine op rfl (r_assignV (v := .bool _) rfl) ?_
              refine WL_nil ?_
              refine W_ret (blk_ret (blk_ret (finX_ret ?_)))
              refine fin1 ?_
              first
                | exact ⟨_, rfl, bool_iff ⟨fun h => ⟨hall', h⟩, fun h => h.2⟩, hX⟩
                | exact ⟨_, rfl, bool_ff (fun h => by
                    obtain ⟨hpl, hm1, hlo, hhi⟩ := hsg
                    have htk := h.1 _ (List.getElem_mem hpl)
                    unfold tokC at htk
                    by_cases h128 : s[p].toNat < 128
                    · have := (hlo h128).1; omega
                    · omega), hX⟩
            · refine opG_yes rfl rfl rfl rfl rfl (r_moveV (v := .int .i32 c) rfl) ?_
              refine opG_yes rfl rfl rfl rfl rfl (r_gtr rfl rfl) ?_
              refine opG_yes rfl rfl rfl rfl rfl (r_pickFV (v := .bool _) rfl rfl) ?_
              refine op rfl (r_pickTV (v := .bool _) rfl rfl) ?_
              refine WL_nil ?_
              refine W_ifp rfl (fun ht35 => ?_) (fun ht35 => ?_)
              · refine W_seq ?_
                refine W_region ?_
                refine op rfl (r_assignV (v := .bool _) rfl) ?_
                refine WL_nil ?_
                refine W_ret (blk_ret (blk_ret (finX_ret ?_)))
                refine fin1 ?_
                first
                  | exact ⟨_, rfl, bool_iff ⟨fun h => ⟨hall', h⟩, fun h => h.2⟩, hX⟩
                  | exact ⟨_, rfl, bool_ff (fun h => by
                      obtain ⟨hpl, hm1, hlo, hhi⟩ := hsg
                      have htk := h.1 _ (List.getElem_mem hpl)
                      unfold tokC at htk
                      by_cases h128 : s[p].toNat < 128
                      · have := (hlo h128).1; omega
                      · omega), hX⟩
              · refine W_skip ?_
                refine ⟨?_, by repeat (first | with_reducible exact Out.refl _ _ | with_reducible exact Out.mix | refine Out.put rfl ?_ | refine Out.mixin rfl ?_ | exact Out.refl _ _ | exact Out.mix)⟩
                obtain ⟨hpl, hm1, hlo, hhi⟩ := hsg
                have htc : tokC s[p] := by
                  by_cases h128 : s[p].toNat < 128
                  · obtain ⟨hc, -⟩ := hlo h128
                    unfold tokC; omega
                  · have := hhi (by omega); omega
                have hm : m = 1 := by
                  by_cases h128 : s[p].toNat < 128
                  · exact (hlo h128).2
                  · unfold tokC at htc; omega
                refine ⟨s.length - (p + m), by omega, p + m, rfl, hS2, fun k h hk => ?_, hX⟩
                by_cases hkp : k = p
                · subst hkp; exact htc
                · exact hall k h (by omega)
          · refine opG_no rfl rfl rfl rfl rfl ?_
            refine opG_no rfl rfl rfl rfl rfl ?_
            refine opG_no rfl rfl rfl rfl rfl ?_
            refine opG_none rfl rfl rfl rfl ?_
            refine opG_none rfl rfl rfl rfl ?_
            refine opG_no rfl rfl rfl rfl rfl ?_
            refine op rfl (r_pickFV (v := .bool _) rfl rfl) ?_
            refine WL_nil ?_
            refine W_else rfl ?_
            refine W_skip ?_
            refine ⟨?_, by repeat (first | with_reducible exact Out.refl _ _ | with_reducible exact Out.mix | refine Out.put rfl ?_ | refine Out.mixin rfl ?_ | exact Out.refl _ _ | exact Out.mix)⟩
            obtain ⟨hpl, hm1, hlo, hhi⟩ := hsg
            have htc : tokC s[p] := by
              by_cases h128 : s[p].toNat < 128
              · obtain ⟨hc, -⟩ := hlo h128
                unfold tokC; omega
              · have := hhi (by omega); omega
            have hm : m = 1 := by
              by_cases h128 : s[p].toNat < 128
              · exact (hlo h128).2
              · unfold tokC at htc; omega
            refine ⟨s.length - (p + m), by omega, p + m, rfl, hS2, fun k h hk => ?_, hX⟩
            by_cases hkp : k = p
            · subst hkp; exact htc
            · exact hall k h (by omega)
      · refine opG_yes rfl rfl rfl rfl rfl (r_moveV (v := .int .i32 c) rfl) ?_
        refine opG_yes rfl rfl rfl rfl rfl (r_gtr rfl rfl) ?_
        refine opG_yes rfl rfl rfl rfl rfl (r_pickFV (v := .bool _) rfl rfl) ?_
        refine op rfl (r_pickTV (v := .bool _) rfl rfl) ?_
        refine op_split rfl (r_moveV (v := .bool (decide _)) rfl) (fun hg20 => ?_) (fun hg20 => ?_)
        · refine opG_yes rfl rfl rfl rfl rfl (r_moveV (v := .int .i32 c) rfl) ?_
          refine opG_yes rfl rfl rfl rfl rfl (r_lss rfl rfl) ?_
          refine opG_split rfl rfl rfl rfl rfl (r_moveV (v := .bool (decide _)) rfl) (fun hg23 => ?_) (fun hg23 => ?_)
          · refine opG_no rfl rfl rfl rfl rfl ?_
            refine opG_no rfl rfl rfl rfl rfl ?_
            refine opG_yes rfl rfl rfl rfl rfl (r_pickTV (v := .bool _) rfl rfl) ?_
            refine op rfl (r_pickTV (v := .bool _) rfl rfl) ?_
            refine op rfl (r_moveV (v := .bool _) rfl) ?_
            refine opG_yes rfl rfl rfl rfl rfl (r_moveV (v := .int .i32 c) rfl) ?_
            refine opG_yes rfl rfl rfl rfl rfl (r_lss rfl rfl) ?_
            refine opG_split rfl rfl rfl rfl rfl (r_moveV (v := .bool (decide _)) rfl) (fun hg31 => ?_) (fun hg31 => ?_)
            · refine opG_no rfl rfl rfl rfl rfl ?_
              refine opG_no rfl rfl rfl rfl rfl ?_
              refine opG_yes rfl rfl rfl rfl rfl (r_pickTV (v := .bool _) rfl rfl) ?_
              refine op rfl (r_pickTV (v := .bool _) rfl rfl) ?_
              refine WL_nil ?_
              refine W_then rfl ?_
              refine W_seq ?_
              refine W_region ?_
              refine op rfl (r_assignV (v := .bool _) rfl) ?_
              refine WL_nil ?_
              refine W_ret (blk_ret (blk_ret (finX_ret ?_)))
              refine fin1 ?_
              first
                | exact ⟨_, rfl, bool_iff ⟨fun h => ⟨hall', h⟩, fun h => h.2⟩, hX⟩
                | exact ⟨_, rfl, bool_ff (fun h => by
                    obtain ⟨hpl, hm1, hlo, hhi⟩ := hsg
                    have htk := h.1 _ (List.getElem_mem hpl)
                    unfold tokC at htk
                    by_cases h128 : s[p].toNat < 128
                    · have := (hlo h128).1; omega
                    · omega), hX⟩
            · refine opG_yes rfl rfl rfl rfl rfl (r_moveV (v := .int .i32 c) rfl) ?_
              refine opG_yes rfl rfl rfl rfl rfl (r_gtr rfl rfl) ?_
              refine opG_yes rfl rfl rfl rfl rfl (r_pickFV (v := .bool _) rfl rfl) ?_
              refine op rfl (r_pickTV (v := .bool _) rfl rfl) ?_
              refine WL_nil ?_
              refine W_ifp rfl (fun ht35 => ?_) (fun ht35 => ?_)
              · refine W_seq ?_
                refine W_region ?_
                refine op rfl (r_assignV (v := .bool _) rfl) ?_
                refine WL_nil ?_
                refine W_ret (blk_ret (blk_ret (finX_ret ?_)))
                refine fin1 ?_
                first
                  | exact ⟨_, rfl, bool_iff ⟨fun h => ⟨hall', h⟩, fun h => h.2⟩, hX⟩
                  | exact ⟨_, rfl, bool_ff (fun h => by
                      obtain ⟨hpl, hm1, hlo, hhi⟩ := hsg
                      have htk := h.1 _ (List.getElem_mem hpl)
                      unfold tokC at htk
                      by_cases h128 : s[p].toNat < 128
                      · have := (hlo h128).1; omega
                      · omega), hX⟩
              · refine W_skip ?_
                refine ⟨?_, by repeat (first | with_reducible exact Out.refl _ _ | with_reducible exact Out.mix | refine Out.put rfl ?_ | refine Out.mixin rfl ?_ | exact Out.refl _ _ | exact Out.mix)⟩
                obtain ⟨hpl, hm1, hlo, hhi⟩ := hsg
                have htc : tokC s[p] := by
                  by_cases h128 : s[p].toNat < 128
                  · obtain ⟨hc, -⟩ := hlo h128
                    unfold tokC; omega
                  · have := hhi (by omega); omega
                have hm : m = 1 := by
                  by_cases h128 : s[p].toNat < 128
                  · exact (hlo h128).2
                  · unfold tokC at htc; omega
                refine ⟨s.length - (p + m), by omega, p + m, rfl, hS2, fun k h hk => ?_, hX⟩
                by_cases hkp : k = p
                · subst hkp; exact htc
                · exact hall k h (by omega)
          · refine opG_yes rfl rfl rfl rfl rfl (r_moveV (v := .int .i32 c) rfl) ?_
            refine opG_yes rfl rfl rfl rfl rfl (r_gtr rfl rfl) ?_
            refine opG_yes rfl rfl rfl rfl rfl (r_pickFV (v := .bool _) rfl rfl) ?_
            refine op rfl (r_pickTV (v := .bool _) rfl rfl) ?_
            refine op_split rfl (r_moveV (v := .bool (decide _)) rfl) (fun hg28 => ?_) (fun hg28 => ?_)
            · refine opG_yes rfl rfl rfl rfl rfl (r_moveV (v := .int .i32 c) rfl) ?_
              refine opG_yes rfl rfl rfl rfl rfl (r_lss rfl rfl) ?_
              refine opG_split rfl rfl rfl rfl rfl (r_moveV (v := .bool (decide _)) rfl) (fun hg31 => ?_) (fun hg31 => ?_)
              · refine opG_no rfl rfl rfl rfl rfl ?_
                refine opG_no rfl rfl rfl rfl rfl ?_
                refine opG_yes rfl rfl rfl rfl rfl (r_pickTV (v := .bool _) rfl rfl) ?_
                refine op rfl (r_pickTV (v := .bool _) rfl rfl) ?_
                refine WL_nil ?_
                refine W_then rfl ?_
                refine W_seq ?_
                refine W_region ?_
                refine op rfl (r_assignV (v := .bool _) rfl) ?_
                refine WL_nil ?_
                refine W_ret (blk_ret (blk_ret (finX_ret ?_)))
                refine fin1 ?_
                first
                  | exact ⟨_, rfl, bool_iff ⟨fun h => ⟨hall', h⟩, fun h => h.2⟩, hX⟩
                  | exact ⟨_, rfl, bool_ff (fun h => by
                      obtain ⟨hpl, hm1, hlo, hhi⟩ := hsg
                      have htk := h.1 _ (List.getElem_mem hpl)
                      unfold tokC at htk
                      by_cases h128 : s[p].toNat < 128
                      · have := (hlo h128).1; omega
                      · omega), hX⟩
              · refine opG_yes rfl rfl rfl rfl rfl (r_moveV (v := .int .i32 c) rfl) ?_
                refine opG_yes rfl rfl rfl rfl rfl (r_gtr rfl rfl) ?_
                refine opG_yes rfl rfl rfl rfl rfl (r_pickFV (v := .bool _) rfl rfl) ?_
                refine op rfl (r_pickTV (v := .bool _) rfl rfl) ?_
                refine WL_nil ?_
                refine W_ifp rfl (fun ht35 => ?_) (fun ht35 => ?_)
                · refine W_seq ?_
                  refine W_region ?_
                  refine op rfl (r_assignV (v := .bool _) rfl) ?_
                  refine WL_nil ?_
                  refine W_ret (blk_ret (blk_ret (finX_ret ?_)))
                  refine fin1 ?_
                  first
                    | exact ⟨_, rfl, bool_iff ⟨fun h => ⟨hall', h⟩, fun h => h.2⟩, hX⟩
                    | exact ⟨_, rfl, bool_ff (fun h => by
                        obtain ⟨hpl, hm1, hlo, hhi⟩ := hsg
                        have htk := h.1 _ (List.getElem_mem hpl)
                        unfold tokC at htk
                        by_cases h128 : s[p].toNat < 128
                        · have := (hlo h128).1; omega
                        · omega), hX⟩
                · refine W_skip ?_
                  refine ⟨?_, by repeat (first | with_reducible exact Out.refl _ _ | with_reducible exact Out.mix | refine Out.put rfl ?_ | refine Out.mixin rfl ?_ | exact Out.refl _ _ | exact Out.mix)⟩
                  obtain ⟨hpl, hm1, hlo, hhi⟩ := hsg
                  have htc : tokC s[p] := by
                    by_cases h128 : s[p].toNat < 128
                    · obtain ⟨hc, -⟩ := hlo h128
                      unfold tokC; omega
                    · have := hhi (by omega); omega
                  have hm : m = 1 := by
                    by_cases h128 : s[p].toNat < 128
                    · exact (hlo h128).2
                    · unfold tokC at htc; omega
                  refine ⟨s.length - (p + m), by omega, p + m, rfl, hS2, fun k h hk => ?_, hX⟩
                  by_cases hkp : k = p
                  · subst hkp; exact htc
                  · exact hall k h (by omega)
            · refine opG_no rfl rfl rfl rfl rfl ?_
              refine opG_no rfl rfl rfl rfl rfl ?_
              refine opG_no rfl rfl rfl rfl rfl ?_
              refine opG_none rfl rfl rfl rfl ?_
              refine opG_none rfl rfl rfl rfl ?_
              refine opG_no rfl rfl rfl rfl rfl ?_
              refine op rfl (r_pickFV (v := .bool _) rfl rfl) ?_
              refine WL_nil ?_
              refine W_else rfl ?_
              refine W_skip ?_
              refine ⟨?_, by repeat (first | with_reducible exact Out.refl _ _ | with_reducible exact Out.mix | refine Out.put rfl ?_ | refine Out.mixin rfl ?_ | exact Out.refl _ _ | exact Out.mix)⟩
              obtain ⟨hpl, hm1, hlo, hhi⟩ := hsg
              have htc : tokC s[p] := by
                by_cases h128 : s[p].toNat < 128
                · obtain ⟨hc, -⟩ := hlo h128
                  unfold tokC; omega
                · have := hhi (by omega); omega
              have hm : m = 1 := by
                by_cases h128 : s[p].toNat < 128
                · exact (hlo h128).2
                · unfold tokC at htc; omega
              refine ⟨s.length - (p + m), by omega, p + m, rfl, hS2, fun k h hk => ?_, hX⟩
              by_cases hkp : k = p
              · subst hkp; exact htc
              · exact hall k h (by omega)
        · refine opG_no rfl rfl rfl rfl rfl ?_
          refine opG_no rfl rfl rfl rfl rfl ?_
          refine opG_no rfl rfl rfl rfl rfl ?_
          refine opG_none rfl rfl rfl rfl ?_
          refine opG_none rfl rfl rfl rfl ?_
          refine opG_no rfl rfl rfl rfl rfl ?_
          refine op rfl (r_pickFV (v := .bool _) rfl rfl) ?_
          refine op rfl (r_moveV (v := .bool _) rfl) ?_
          refine opG_no rfl rfl rfl rfl rfl ?_
          refine opG_no rfl rfl rfl rfl rfl ?_
          refine opG_no rfl rfl rfl rfl rfl ?_
          refine opG_none rfl rfl rfl rfl ?_
          refine opG_none rfl rfl rfl rfl ?_
          refine opG_no rfl rfl rfl rfl rfl ?_
          refine op rfl (r_pickFV (v := .bool _) rfl rfl) ?_
          refine WL_nil ?_
          refine W_else rfl ?_
          refine W_skip ?_
          refine ⟨?_, by repeat (first | with_reducible exact Out.refl _ _ | with_reducible exact Out.mix | refine Out.put rfl ?_ | refine Out.mixin rfl ?_ | exact Out.refl _ _ | exact Out.mix)⟩
          obtain ⟨hpl, hm1, hlo, hhi⟩ := hsg
          have htc : tokC s[p] := by
            by_cases h128 : s[p].toNat < 128
            · obtain ⟨hc, -⟩ := hlo h128
              unfold tokC; omega
            · have := hhi (by omega); omega
          have hm : m = 1 := by
            by_cases h128 : s[p].toNat < 128
            · exact (hlo h128).2
            · unfold tokC at htc; omega
          refine ⟨s.length - (p + m), by omega, p + m, rfl, hS2, fun k h hk => ?_, hX⟩
          by_cases hkp : k = p
          · subst hkp; exact htc
          · exact hall k h (by omega)
    · refine opG_no rfl rfl rfl rfl rfl ?_
      refine opG_no rfl rfl rfl rfl rfl ?_
      refine opG_no rfl rfl rfl rfl rfl ?_
      refine opG_none rfl rfl rfl rfl ?_
      refine opG_none rfl rfl rfl rfl ?_
      refine opG_no rfl rfl rfl rfl rfl ?_
      refine op rfl (r_pickFV (v := .bool _) rfl rfl) ?_
      refine op rfl (r_moveV (v := .bool _) rfl) ?_
      refine opG_no rfl rfl rfl rfl rfl ?_
      refine opG_no rfl rfl rfl rfl rfl ?_
      refine opG_no rfl rfl rfl rfl rfl ?_
      refine opG_none rfl rfl rfl rfl ?_
      refine opG_none rfl rfl rfl rfl ?_
      refine opG_no rfl rfl rfl rfl rfl ?_
      refine op rfl (r_pickFV (v := .bool _) rfl rfl) ?_
      refine op rfl (r_moveV (v := .bool _) rfl) ?_
      refine opG_no rfl rfl rfl rfl rfl ?_
      refine opG_no rfl rfl rfl rfl rfl ?_
      refine opG_no rfl rfl rfl rfl rfl ?_
      refine opG_none rfl rfl rfl rfl ?_
      refine opG_none rfl rfl rfl rfl ?_
      refine opG_no rfl rfl rfl rfl rfl ?_
      refine op rfl (r_pickFV (v := .bool _) rfl rfl) ?_
      refine WL_nil ?_
      refine W_else rfl ?_
      refine W_skip ?_
      refine ⟨?_, by repeat (first | with_reducible exact Out.refl _ _ | with_reducible exact Out.mix | refine Out.put rfl ?_ | refine Out.mixin rfl ?_ | exact Out.refl _ _ | exact Out.mix)⟩
      obtain ⟨hpl, hm1, hlo, hhi⟩ := hsg
      have htc : tokC s[p] := by
        by_cases h128 : s[p].toNat < 128
        · obtain ⟨hc, -⟩ := hlo h128
          unfold tokC; omega
        · have := hhi (by omega); omega
      have hm : m = 1 := by
        by_cases h128 : s[p].toNat < 128
        · exact (hlo h128).2
        · unfold tokC at htc; omega
      refine ⟨s.length - (p + m), by omega, p + m, rfl, hS2, fun k h hk => ?_, hX⟩
      by_cases hkp : k = p
      · subst hkp; exact htc
      · exact hall k h (by omega)
  · obtain ⟨hle, -⟩ := hF ht8
    have hall' : ∀ c ∈ s, tokC c := fun c hc => by
      obtain ⟨k, hk, rfl⟩ := List.mem_iff_getElem.1 hc
      exact hall k hk (by omega)
    refine W_exit (blk_hit ?_)
    refine W_seq ?_
    refine W_region ?_
    refine op rfl (r_moveV (v := .string _) rfl) ?_
    refine op rfl (rt_neq rfl rfl) ?_
    refine op rfl (r_assignV (v := .bool _) rfl) ?_
    refine WL_nil ?_
    refine W_ret (finX_ret ?_)
    refine fin1 ?_
    first
      | exact ⟨_, rfl, bool_iff ⟨fun h => ⟨hall', h⟩, fun h => h.2⟩, hX⟩
      | exact ⟨_, rfl, bool_ff (fun h => by
          obtain ⟨hpl, hm1, hlo, hhi⟩ := hsg
          have htk := h.1 _ (List.getElem_mem hpl)
          unfold tokC at htk
          by_cases h128 : s[p].toNat < 128
          · have := (hlo h128).1; omega
          · omega), hX⟩
end Go.Proofs.YtafcaigjijajnaaDoor
