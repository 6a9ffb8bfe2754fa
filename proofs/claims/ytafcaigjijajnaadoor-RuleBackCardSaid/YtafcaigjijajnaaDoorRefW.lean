/-
  The walks of the references: paths.
-/
import Derived.Test.YtafcaigjijajnaaDoorFacts
import Derived.Test.YtafcaigjijajnaaDoorPathW
import Derived.Test.YtafcaigjijajnaaDoorTreeP
namespace Go.Proofs.YtafcaigjijajnaaDoor
open Go Go.Eng Go.RowKit Go.Proofs
set_option linter.unusedVariables false
set_option linter.unusedSimpArgs false
set_option maxHeartbeats 1000000

abbrev strT' : Ty (List UInt8) := Ty.scalar (fun l => Value.string (str l)) (fun l => l.length ≤ 140737488355328) (fun _ => rfl)
theorem refPlain_spec (c : UInt8) (w : World) :
    Calls Tryd.prog 77 #[.int .u8 (c.toNat : Nat)] w (fun en w' => ∃ v, en = .returned v ∧ v = .bool (decide (plainC c)) ∧ Ext w w') := by
  refine calls' (n := 37) (rs := #[.tmp 2]) (l := [.int .u8 (c.toNat : Nat)]) Tryd.func77 rfl rfl rfl rfl rfl ?_
  have hX := Ext.refl w
  refine W_seq ?_
  refine W_region ?_
  refine op rfl (r_assignV (v := .bool _) rfl) ?_
  refine WL_nil ?_
  refine W_seq ?_
  refine W_region ?_
  refine op rfl (r_moveV (v := .int _ _) rfl) ?_
  refine op rfl (r_geq rfl rfl) ?_
  refine op_split rfl (r_moveV (v := .bool (decide _)) rfl) (fun hg5 => ?_) (fun hg5 => ?_)
  · refine opG_yes rfl rfl rfl rfl rfl (r_moveV (v := .int _ _) rfl) ?_
    refine opG_yes rfl rfl rfl rfl rfl (r_leq rfl rfl) ?_
    refine op rfl (r_pickTV (v := .bool _) rfl rfl) ?_
    refine op_split rfl (r_moveV (v := .bool (decide _)) rfl) (fun hg9 => ?_) (fun hg9 => ?_)
    · refine opG_no rfl rfl rfl rfl rfl ?_
      refine opG_no rfl rfl rfl rfl rfl ?_
      refine opG_no rfl rfl rfl rfl rfl ?_
      refine opG_none rfl rfl rfl rfl ?_
      refine opG_none rfl rfl rfl rfl ?_
      refine opG_no rfl rfl rfl rfl rfl ?_
      refine op rfl (r_pickTV (v := .bool _) rfl rfl) ?_
      refine op rfl (r_moveV (v := .bool _) rfl) ?_
      refine opG_no rfl rfl rfl rfl rfl ?_
      refine opG_no rfl rfl rfl rfl rfl ?_
      refine opG_no rfl rfl rfl rfl rfl ?_
      refine opG_none rfl rfl rfl rfl ?_
      refine opG_none rfl rfl rfl rfl ?_
      refine opG_no rfl rfl rfl rfl rfl ?_
      refine op rfl (r_pickTV (v := .bool _) rfl rfl) ?_
      refine op rfl (r_moveV (v := .bool _) rfl) ?_
      refine opG_no rfl rfl rfl rfl rfl ?_
      refine opG_no rfl rfl rfl rfl rfl ?_
      refine op rfl (r_pickTV (v := .bool _) rfl rfl) ?_
      refine op rfl (r_moveV (v := .bool _) rfl) ?_
      refine opG_no rfl rfl rfl rfl rfl ?_
      refine opG_no rfl rfl rfl rfl rfl ?_
      refine op rfl (r_pickTV (v := .bool _) rfl rfl) ?_
      refine op rfl (r_moveV (v := .bool _) rfl) ?_
      refine opG_no rfl rfl rfl rfl rfl ?_
      refine opG_no rfl rfl rfl rfl rfl ?_
      refine op rfl (r_pickTV (v := .bool _) rfl rfl) ?_
      refine op rfl (r_assignV (v := .bool _) rfl) ?_
      refine WL_nil ?_
      refine W_ret (finX_ret ?_)
      refine fin1 ?_
      first
        | exact ⟨_, rfl, by first | exact bool_tt (by unfold plainC; omega) | exact bool_ff (by unfold plainC; omega) | exact bool_iff (by unfold plainC; omega), hX⟩
    · refine opG_yes rfl rfl rfl rfl rfl (r_moveV (v := .int _ _) rfl) ?_
      refine opG_yes rfl rfl rfl rfl rfl (r_geq rfl rfl) ?_
      refine opG_split rfl rfl rfl rfl rfl (r_moveV (v := .bool (decide _)) rfl) (fun hg12 => ?_) (fun hg12 => ?_)
      · refine opG_yes rfl rfl rfl rfl rfl (r_moveV (v := .int _ _) rfl) ?_
        refine opG_yes rfl rfl rfl rfl rfl (r_leq rfl rfl) ?_
        refine opG_yes rfl rfl rfl rfl rfl (r_pickTV (v := .bool _) rfl rfl) ?_
        refine op rfl (r_pickFV (v := .bool _) rfl rfl) ?_
        refine op_split rfl (r_moveV (v := .bool (decide _)) rfl) (fun hg17 => ?_) (fun hg17 => ?_)
        · refine opG_no rfl rfl rfl rfl rfl ?_
          refine opG_no rfl rfl rfl rfl rfl ?_
          refine opG_no rfl rfl rfl rfl rfl ?_
          refine opG_none rfl rfl rfl rfl ?_
          refine opG_none rfl rfl rfl rfl ?_
          refine opG_no rfl rfl rfl rfl rfl ?_
          refine op rfl (r_pickTV (v := .bool _) rfl rfl) ?_
          refine op rfl (r_moveV (v := .bool _) rfl) ?_
          refine opG_no rfl rfl rfl rfl rfl ?_
          refine opG_no rfl rfl rfl rfl rfl ?_
          refine op rfl (r_pickTV (v := .bool _) rfl rfl) ?_
          refine op rfl (r_moveV (v := .bool _) rfl) ?_
          refine opG_no rfl rfl rfl rfl rfl ?_
          refine opG_no rfl rfl rfl rfl rfl ?_
          refine op rfl (r_pickTV (v := .bool _) rfl rfl) ?_
          refine op rfl (r_moveV (v := .bool _) rfl) ?_
          refine opG_no rfl rfl rfl rfl rfl ?_
          refine opG_no rfl rfl rfl rfl rfl ?_
          refine op rfl (r_pickTV (v := .bool _) rfl rfl) ?_
          refine op rfl (r_assignV (v := .bool _) rfl) ?_
          refine WL_nil ?_
          refine W_ret (finX_ret ?_)
          refine fin1 ?_
          first
            | exact ⟨_, rfl, by first | exact bool_tt (by unfold plainC; omega) | exact bool_ff (by unfold plainC; omega) | exact bool_iff (by unfold plainC; omega), hX⟩
        · refine opG_yes rfl rfl rfl rfl rfl (r_moveV (v := .int _ _) rfl) ?_
          refine opG_yes rfl rfl rfl rfl rfl (r_geq rfl rfl) ?_
          refine opG_split rfl rfl rfl rfl rfl (r_moveV (v := .bool (decide _)) rfl) (fun hg20 => ?_) (fun hg20 => ?_)
          · refine opG_yes rfl rfl rfl rfl rfl (r_moveV (v := .int _ _) rfl) ?_
            refine opG_yes rfl rfl rfl rfl rfl (r_leq rfl rfl) ?_
            refine opG_yes rfl rfl rfl rfl rfl (r_pickTV (v := .bool _) rfl rfl) ?_
            refine op rfl (r_pickFV (v := .bool _) rfl rfl) ?_
            refine op_split rfl (r_moveV (v := .bool (decide _)) rfl) (fun hg25 => ?_) (fun hg25 => ?_)
            · refine opG_no rfl rfl rfl rfl rfl ?_
              refine opG_no rfl rfl rfl rfl rfl ?_
              refine op rfl (r_pickTV (v := .bool _) rfl rfl) ?_
              refine op rfl (r_moveV (v := .bool _) rfl) ?_
              refine opG_no rfl rfl rfl rfl rfl ?_
              refine opG_no rfl rfl rfl rfl rfl ?_
              refine op rfl (r_pickTV (v := .bool _) rfl rfl) ?_
              refine op rfl (r_moveV (v := .bool _) rfl) ?_
              refine opG_no rfl rfl rfl rfl rfl ?_
              refine opG_no rfl rfl rfl rfl rfl ?_
              refine op rfl (r_pickTV (v := .bool _) rfl rfl) ?_
              refine op rfl (r_assignV (v := .bool _) rfl) ?_
              refine WL_nil ?_
              refine W_ret (finX_ret ?_)
              refine fin1 ?_
              first
                | exact ⟨_, rfl, by first | exact bool_tt (by unfold plainC; omega) | exact bool_ff (by unfold plainC; omega) | exact bool_iff (by unfold plainC; omega), hX⟩
            · refine opG_yes rfl rfl rfl rfl rfl (r_moveV (v := .int _ _) rfl) ?_
              refine opG_yes rfl rfl rfl rfl rfl (r_eql rfl rfl) ?_
              refine op rfl (r_pickFV (v := .bool _) rfl rfl) ?_
              refine op_split rfl (r_moveV (v := .bool (decide _)) rfl) (fun hg29 => ?_) (fun hg29 => ?_)
              · refine opG_no rfl rfl rfl rfl rfl ?_
                refine opG_no rfl rfl rfl rfl rfl ?_
                refine op rfl (r_pickTV (v := .bool _) rfl rfl) ?_
                refine op rfl (r_moveV (v := .bool _) rfl) ?_
                refine opG_no rfl rfl rfl rfl rfl ?_
                refine opG_no rfl rfl rfl rfl rfl ?_
                refine op rfl (r_pickTV (v := .bool _) rfl rfl) ?_
                refine op rfl (r_assignV (v := .bool _) rfl) ?_
                refine WL_nil ?_
                refine W_ret (finX_ret ?_)
                refine fin1 ?_
                first
                  | exact ⟨_, rfl, by first | exact bool_tt (by unfold plainC; omega) | exact bool_ff (by unfold plainC; omega) | exact bool_iff (by unfold plainC; omega), hX⟩
              · refine opG_yes rfl rfl rfl rfl rfl (r_moveV (v := .int _ _) rfl) ?_
                refine opG_yes rfl rfl rfl rfl rfl (r_eql rfl rfl) ?_
                refine op rfl (r_pickFV (v := .bool _) rfl rfl) ?_
                refine op_split rfl (r_moveV (v := .bool (decide _)) rfl) (fun hg33 => ?_) (fun hg33 => ?_)
                · refine opG_no rfl rfl rfl rfl rfl ?_
                  refine opG_no rfl rfl rfl rfl rfl ?_
                  refine op rfl (r_pickTV (v := .bool _) rfl rfl) ?_
                  refine op rfl (r_assignV (v := .bool _) rfl) ?_
                  refine WL_nil ?_
                  refine W_ret (finX_ret ?_)
                  refine fin1 ?_
                  first
                    | exact ⟨_, rfl, by first | exact bool_tt (by unfold plainC; omega) | exact bool_ff (by unfold plainC; omega) | exact bool_iff (by unfold plainC; omega), hX⟩
                · refine opG_yes rfl rfl rfl rfl rfl (r_moveV (v := .int _ _) rfl) ?_
                  refine opG_yes rfl rfl rfl rfl rfl (r_eql rfl rfl) ?_
                  refine op rfl (r_pickFV (v := .bool _) rfl rfl) ?_
                  refine op rfl (r_assignV (v := .bool _) rfl) ?_
                  refine WL_nil ?_
                  refine W_ret (finX_ret ?_)
                  refine fin1 ?_
                  first
                    | exact ⟨_, rfl, by first | exact bool_tt (by unfold plainC; omega) | exact bool_ff (by unfold plainC; omega) | exact bool_iff (by unfold plainC; omega), hX⟩
          · refine opG_no rfl rfl rfl rfl rfl ?_
            refine opG_no rfl rfl rfl rfl rfl ?_
            refine opG_yes rfl rfl rfl rfl rfl (r_pickFV (v := .bool _) rfl rfl) ?_
            refine op rfl (r_pickFV (v := .bool _) rfl rfl) ?_
            refine op rfl (r_moveV (v := .bool _) rfl) ?_
            refine opG_yes rfl rfl rfl rfl rfl (r_moveV (v := .int _ _) rfl) ?_
            refine opG_yes rfl rfl rfl rfl rfl (r_eql rfl rfl) ?_
            refine op rfl (r_pickFV (v := .bool _) rfl rfl) ?_
            refine op_split rfl (r_moveV (v := .bool (decide _)) rfl) (fun hg29 => ?_) (fun hg29 => ?_)
            · refine opG_no rfl rfl rfl rfl rfl ?_
              refine opG_no rfl rfl rfl rfl rfl ?_
              refine op rfl (r_pickTV (v := .bool _) rfl rfl) ?_
              refine op rfl (r_moveV (v := .bool _) rfl) ?_
              refine opG_no rfl rfl rfl rfl rfl ?_
              refine opG_no rfl rfl rfl rfl rfl ?_
              refine op rfl (r_pickTV (v := .bool _) rfl rfl) ?_
              refine op rfl (r_assignV (v := .bool _) rfl) ?_
              refine WL_nil ?_
              refine W_ret (finX_ret ?_)
              refine fin1 ?_
              first
                | exact ⟨_, rfl, by first | exact bool_tt (by unfold plainC; omega) | exact bool_ff (by unfold plainC; omega) | exact bool_iff (by unfold plainC; omega), hX⟩
            · refine opG_yes rfl rfl rfl rfl rfl (r_moveV (v := .int _ _) rfl) ?_
              refine opG_yes rfl rfl rfl rfl rfl (r_eql rfl rfl) ?_
              refine op rfl (r_pickFV (v := .bool _) rfl rfl) ?_
              refine op_split rfl (r_moveV (v := .bool (decide _)) rfl) (fun hg33 => ?_) (fun hg33 => ?_)
              · refine opG_no rfl rfl rfl rfl rfl ?_
                refine opG_no rfl rfl rfl rfl rfl ?_
                refine op rfl (r_pickTV (v := .bool _) rfl rfl) ?_
                refine op rfl (r_assignV (v := .bool _) rfl) ?_
                refine WL_nil ?_
                refine W_ret (finX_ret ?_)
                refine fin1 ?_
                first
                  | exact ⟨_, rfl, by first | exact bool_tt (by unfold plainC; omega) | exact bool_ff (by unfold plainC; omega) | exact bool_iff (by unfold plainC; omega), hX⟩
              · refine opG_yes rfl rfl rfl rfl rfl (r_moveV (v := .int _ _) rfl) ?_
                refine opG_yes rfl rfl rfl rfl rfl (r_eql rfl rfl) ?_
                refine op rfl (r_pickFV (v := .bool _) rfl rfl) ?_
                refine op rfl (r_assignV (v := .bool _) rfl) ?_
                refine WL_nil ?_
                refine W_ret (finX_ret ?_)
                refine fin1 ?_
                first
                  | exact ⟨_, rfl, by first | exact bool_tt (by unfold plainC; omega) | exact bool_ff (by unfold plainC; omega) | exact bool_iff (by unfold plainC; omega), hX⟩
      · refine opG_no rfl rfl rfl rfl rfl ?_
        refine opG_no rfl rfl rfl rfl rfl ?_
        refine opG_yes rfl rfl rfl rfl rfl (r_pickFV (v := .bool _) rfl rfl) ?_
        refine op rfl (r_pickFV (v := .bool _) rfl rfl) ?_
        refine op rfl (r_moveV (v := .bool _) rfl) ?_
        refine opG_yes rfl rfl rfl rfl rfl (r_moveV (v := .int _ _) rfl) ?_
        refine opG_yes rfl rfl rfl rfl rfl (r_geq rfl rfl) ?_
        refine opG_split rfl rfl rfl rfl rfl (r_moveV (v := .bool (decide _)) rfl) (fun hg20 => ?_) (fun hg20 => ?_)
        · refine opG_yes rfl rfl rfl rfl rfl (r_moveV (v := .int _ _) rfl) ?_
          refine opG_yes rfl rfl rfl rfl rfl (r_leq rfl rfl) ?_
          refine opG_yes rfl rfl rfl rfl rfl (r_pickTV (v := .bool _) rfl rfl) ?_
          refine op rfl (r_pickFV (v := .bool _) rfl rfl) ?_
          refine op_split rfl (r_moveV (v := .bool (decide _)) rfl) (fun hg25 => ?_) (fun hg25 => ?_)
          · refine opG_no rfl rfl rfl rfl rfl ?_
            refine opG_no rfl rfl rfl rfl rfl ?_
            refine op rfl (r_pickTV (v := .bool _) rfl rfl) ?_
            refine op rfl (r_moveV (v := .bool _) rfl) ?_
            refine opG_no rfl rfl rfl rfl rfl ?_
            refine opG_no rfl rfl rfl rfl rfl ?_
            refine op rfl (r_pickTV (v := .bool _) rfl rfl) ?_
            refine op rfl (r_moveV (v := .bool _) rfl) ?_
            refine opG_no rfl rfl rfl rfl rfl ?_
            refine opG_no rfl rfl rfl rfl rfl ?_
            refine op rfl (r_pickTV (v := .bool _) rfl rfl) ?_
            refine op rfl (r_assignV (v := .bool _) rfl) ?_
            refine WL_nil ?_
            refine W_ret (finX_ret ?_)
            refine fin1 ?_
            first
              | exact ⟨_, rfl, by first | exact bool_tt (by unfold plainC; omega) | exact bool_ff (by unfold plainC; omega) | exact bool_iff (by unfold plainC; omega), hX⟩
          · refine opG_yes rfl rfl rfl rfl rfl (r_moveV (v := .int _ _) rfl) ?_
            refine opG_yes rfl rfl rfl rfl rfl (r_eql rfl rfl) ?_
            refine op rfl (r_pickFV (v := .bool _) rfl rfl) ?_
            refine op_split rfl (r_moveV (v := .bool (decide _)) rfl) (fun hg29 => ?_) (fun hg29 => ?_)
            · refine opG_no rfl rfl rfl rfl rfl ?_
              refine opG_no rfl rfl rfl rfl rfl ?_
              refine op rfl (r_pickTV (v := .bool _) rfl rfl) ?_
              refine op rfl (r_moveV (v := .bool _) rfl) ?_
              refine opG_no rfl rfl rfl rfl rfl ?_
              refine opG_no rfl rfl rfl rfl rfl ?_
              refine op rfl (r_pickTV (v := .bool _) rfl rfl) ?_
              refine op rfl (r_assignV (v := .bool _) rfl) ?_
              refine WL_nil ?_
              refine W_ret (finX_ret ?_)
              refine fin1 ?_
              first
                | exact ⟨_, rfl, by first | exact bool_tt (by unfold plainC; omega) | exact bool_ff (by unfold plainC; omega) | exact bool_iff (by unfold plainC; omega), hX⟩
            · refine opG_yes rfl rfl rfl rfl rfl (r_moveV (v := .int _ _) rfl) ?_
              refine opG_yes rfl rfl rfl rfl rfl (r_eql rfl rfl) ?_
              refine op rfl (r_pickFV (v := .bool _) rfl rfl) ?_
              refine op_split rfl (r_moveV (v := .bool (decide _)) rfl) (fun hg33 => ?_) (fun hg33 => ?_)
              · refine opG_no rfl rfl rfl rfl rfl ?_
                refine opG_no rfl rfl rfl rfl rfl ?_
                refine op rfl (r_pickTV (v := .bool _) rfl rfl) ?_
                refine op rfl (r_assignV (v := .bool _) rfl) ?_
                refine WL_nil ?_
                refine W_ret (finX_ret ?_)
                refine fin1 ?_
                first
                  | exact ⟨_, rfl, by first | exact bool_tt (by unfold plainC; omega) | exact bool_ff (by unfold plainC; omega) | exact bool_iff (by unfold plainC; omega), hX⟩
              · refine opG_yes rfl rfl rfl rfl rfl (r_moveV (v := .int _ _) rfl) ?_
                refine opG_yes rfl rfl rfl rfl rfl (r_eql rfl rfl) ?_
                refine op rfl (r_pickFV (v := .bool _) rfl rfl) ?_
                refine op rfl (r_assignV (v := .bool _) rfl) ?_
                refine WL_nil ?_
                refine W_ret (finX_ret ?_)
                refine fin1 ?_
                first
                  | exact ⟨_, rfl, by first | exact bool_tt (by unfold plainC; omega) | exact bool_ff (by unfold plainC; omega) | exact bool_iff (by unfold plainC; omega), hX⟩
        · refine opG_no rfl rfl rfl rfl rfl ?_
          refine opG_no rfl rfl rfl rfl rfl ?_
          refine opG_yes rfl rfl rfl rfl rfl (r_pickFV (v := .bool _) rfl rfl) ?_
          refine op rfl (r_pickFV (v := .bool _) rfl rfl) ?_
          refine op rfl (r_moveV (v := .bool _) rfl) ?_
          refine opG_yes rfl rfl rfl rfl rfl (r_moveV (v := .int _ _) rfl) ?_
          refine opG_yes rfl rfl rfl rfl rfl (r_eql rfl rfl) ?_
          refine op rfl (r_pickFV (v := .bool _) rfl rfl) ?_
          refine op_split rfl (r_moveV (v := .bool (decide _)) rfl) (fun hg29 => ?_) (fun hg29 => ?_)
          · refine opG_no rfl rfl rfl rfl rfl ?_
            refine opG_no rfl rfl rfl rfl rfl ?_
            refine op rfl (r_pickTV (v := .bool _) rfl rfl) ?_
            refine op rfl (r_moveV (v := .bool _) rfl) ?_
            refine opG_no rfl rfl rfl rfl rfl ?_
            refine opG_no rfl rfl rfl rfl rfl ?_
            refine op rfl (r_pickTV (v := .bool _) rfl rfl) ?_
            refine op rfl (r_assignV (v := .bool _) rfl) ?_
            refine WL_nil ?_
            refine W_ret (finX_ret ?_)
            refine fin1 ?_
            first
              | exact ⟨_, rfl, by first | exact bool_tt (by unfold plainC; omega) | exact bool_ff (by unfold plainC; omega) | exact bool_iff (by unfold plainC; omega), hX⟩
          · refine opG_yes rfl rfl rfl rfl rfl (r_moveV (v := .int _ _) rfl) ?_
            refine opG_yes rfl rfl rfl rfl rfl (r_eql rfl rfl) ?_
            refine op rfl (r_pickFV (v := .bool _) rfl rfl) ?_
            refine op_split rfl (r_moveV (v := .bool (decide _)) rfl) (fun hg33 => ?_) (fun hg33 => ?_)
            · refine opG_no rfl rfl rfl rfl rfl ?_
              refine opG_no rfl rfl rfl rfl rfl ?_
              refine op rfl (r_pickTV (v := .bool _) rfl rfl) ?_
              refine op rfl (r_assignV (v := .bool _) rfl) ?_
              refine WL_nil ?_
              refine W_ret (finX_ret ?_)
              refine fin1 ?_
              first
                | exact ⟨_, rfl, by first | exact bool_tt (by unfold plainC; omega) | exact bool_ff (by unfold plainC; omega) | exact bool_iff (by unfold plainC; omega), hX⟩
            · refine opG_yes rfl rfl rfl rfl rfl (r_moveV (v := .int _ _) rfl) ?_
              refine opG_yes rfl rfl rfl rfl rfl (r_eql rfl rfl) ?_
              refine op rfl (r_pickFV (v := .bool _) rfl rfl) ?_
              refine op rfl (r_assignV (v := .bool _) rfl) ?_
              refine WL_nil ?_
              refine W_ret (finX_ret ?_)
              refine fin1 ?_
              first
                | exact ⟨_, rfl, by first | exact bool_tt (by unfold plainC; omega) | exact bool_ff (by unfold plainC; omega) | exact bool_iff (by unfold plainC; omega), hX⟩
  · refine opG_no rfl rfl rfl rfl rfl ?_
    refine opG_no rfl rfl rfl rfl rfl ?_
    refine op rfl (r_pickFV (v := .bool _) rfl rfl) ?_
    refine op rfl (r_moveV (v := .bool _) rfl) ?_
    refine opG_yes rfl rfl rfl rfl rfl (r_moveV (v := .int _ _) rfl) ?_
    refine opG_yes rfl rfl rfl rfl rfl (r_geq rfl rfl) ?_
    refine opG_split rfl rfl rfl rfl rfl (r_moveV (v := .bool (decide _)) rfl) (fun hg12 => ?_) (fun hg12 => ?_)
    · refine opG_yes rfl rfl rfl rfl rfl (r_moveV (v := .int _ _) rfl) ?_
      refine opG_yes rfl rfl rfl rfl rfl (r_leq rfl rfl) ?_
      refine opG_yes rfl rfl rfl rfl rfl (r_pickTV (v := .bool _) rfl rfl) ?_
      refine op rfl (r_pickFV (v := .bool _) rfl rfl) ?_
      refine op_split rfl (r_moveV (v := .bool (decide _)) rfl) (fun hg17 => ?_) (fun hg17 => ?_)
      · refine opG_no rfl rfl rfl rfl rfl ?_
        refine opG_no rfl rfl rfl rfl rfl ?_
        refine opG_no rfl rfl rfl rfl rfl ?_
        refine opG_none rfl rfl rfl rfl ?_
        refine opG_none rfl rfl rfl rfl ?_
        refine opG_no rfl rfl rfl rfl rfl ?_
        refine op rfl (r_pickTV (v := .bool _) rfl rfl) ?_
        refine op rfl (r_moveV (v := .bool _) rfl) ?_
        refine opG_no rfl rfl rfl rfl rfl ?_
        refine opG_no rfl rfl rfl rfl rfl ?_
        refine op rfl (r_pickTV (v := .bool _) rfl rfl) ?_
        refine op rfl (r_moveV (v := .bool _) rfl) ?_
        refine opG_no rfl rfl rfl rfl rfl ?_
        refine opG_no rfl rfl rfl rfl rfl ?_
        refine op rfl (r_pickTV (v := .bool _) rfl rfl) ?_
        refine op rfl (r_moveV (v := .bool _) rfl) ?_
        refine opG_no rfl rfl rfl rfl rfl ?_
        refine opG_no rfl rfl rfl rfl rfl ?_
        refine op rfl (r_pickTV (v := .bool _) rfl rfl) ?_
        refine op rfl (r_assignV (v := .bool _) rfl) ?_
        refine WL_nil ?_
        refine W_ret (finX_ret ?_)
        refine fin1 ?_
        first
          | exact ⟨_, rfl, by first | exact bool_tt (by unfold plainC; omega) | exact bool_ff (by unfold plainC; omega) | exact bool_iff (by unfold plainC; omega), hX⟩
      · refine opG_yes rfl rfl rfl rfl rfl (r_moveV (v := .int _ _) rfl) ?_
        refine opG_yes rfl rfl rfl rfl rfl (r_geq rfl rfl) ?_
        refine opG_split rfl rfl rfl rfl rfl (r_moveV (v := .bool (decide _)) rfl) (fun hg20 => ?_) (fun hg20 => ?_)
        · refine opG_yes rfl rfl rfl rfl rfl (r_moveV (v := .int _ _) rfl) ?_
          refine opG_yes rfl rfl rfl rfl rfl (r_leq rfl rfl) ?_
          refine opG_yes rfl rfl rfl rfl rfl (r_pickTV (v := .bool _) rfl rfl) ?_
          refine op rfl (r_pickFV (v := .bool _) rfl rfl) ?_
          refine op_split rfl (r_moveV (v := .bool (decide _)) rfl) (fun hg25 => ?_) (fun hg25 => ?_)
          · refine opG_no rfl rfl rfl rfl rfl ?_
            refine opG_no rfl rfl rfl rfl rfl ?_
            refine op rfl (r_pickTV (v := .bool _) rfl rfl) ?_
            refine op rfl (r_moveV (v := .bool _) rfl) ?_
            refine opG_no rfl rfl rfl rfl rfl ?_
            refine opG_no rfl rfl rfl rfl rfl ?_
            refine op rfl (r_pickTV (v := .bool _) rfl rfl) ?_
            refine op rfl (r_moveV (v := .bool _) rfl) ?_
            refine opG_no rfl rfl rfl rfl rfl ?_
            refine opG_no rfl rfl rfl rfl rfl ?_
            refine op rfl (r_pickTV (v := .bool _) rfl rfl) ?_
            refine op rfl (r_assignV (v := .bool _) rfl) ?_
            refine WL_nil ?_
            refine W_ret (finX_ret ?_)
            refine fin1 ?_
            first
              | exact ⟨_, rfl, by first | exact bool_tt (by unfold plainC; omega) | exact bool_ff (by unfold plainC; omega) | exact bool_iff (by unfold plainC; omega), hX⟩
          · refine opG_yes rfl rfl rfl rfl rfl (r_moveV (v := .int _ _) rfl) ?_
            refine opG_yes rfl rfl rfl rfl rfl (r_eql rfl rfl) ?_
            refine op rfl (r_pickFV (v := .bool _) rfl rfl) ?_
            refine op_split rfl (r_moveV (v := .bool (decide _)) rfl) (fun hg29 => ?_) (fun hg29 => ?_)
            · refine opG_no rfl rfl rfl rfl rfl ?_
              refine opG_no rfl rfl rfl rfl rfl ?_
              refine op rfl (r_pickTV (v := .bool _) rfl rfl) ?_
              refine op rfl (r_moveV (v := .bool _) rfl) ?_
              refine opG_no rfl rfl rfl rfl rfl ?_
              refine opG_no rfl rfl rfl rfl rfl ?_
              refine op rfl (r_pickTV (v := .bool _) rfl rfl) ?_
              refine op rfl (r_assignV (v := .bool _) rfl) ?_
              refine WL_nil ?_
              refine W_ret (finX_ret ?_)
              refine fin1 ?_
              first
                | exact ⟨_, rfl, by first | exact bool_tt (by unfold plainC; omega) | exact bool_ff (by unfold plainC; omega) | exact bool_iff (by unfold plainC; omega), hX⟩
            · refine opG_yes rfl rfl rfl rfl rfl (r_moveV (v := .int _ _) rfl) ?_
              refine opG_yes rfl rfl rfl rfl rfl (r_eql rfl rfl) ?_
              refine op rfl (r_pickFV (v := .bool _) rfl rfl) ?_
              refine op_split rfl (r_moveV (v := .bool (decide _)) rfl) (fun hg33 => ?_) (fun hg33 => ?_)
              · refine opG_no rfl rfl rfl rfl rfl ?_
                refine opG_no rfl rfl rfl rfl rfl ?_
                refine op rfl (r_pickTV (v := .bool _) rfl rfl) ?_
                refine op rfl (r_assignV (v := .bool _) rfl) ?_
                refine WL_nil ?_
                refine W_ret (finX_ret ?_)
                refine fin1 ?_
                first
                  | exact ⟨_, rfl, by first | exact bool_tt (by unfold plainC; omega) | exact bool_ff (by unfold plainC; omega) | exact bool_iff (by unfold plainC; omega), hX⟩
              · refine opG_yes rfl rfl rfl rfl rfl (r_moveV (v := .int _ _) rfl) ?_
                refine opG_yes rfl rfl rfl rfl rfl (r_eql rfl rfl) ?_
                refine op rfl (r_pickFV (v := .bool _) rfl rfl) ?_
                refine op rfl (r_assignV (v := .bool _) rfl) ?_
                refine WL_nil ?_
                refine W_ret (finX_ret ?_)
                refine fin1 ?_
                first
                  | exact ⟨_, rfl, by first | exact bool_tt (by unfold plainC; omega) | exact bool_ff (by unfold plainC; omega) | exact bool_iff (by unfold plainC; omega), hX⟩
        · refine opG_no rfl rfl rfl rfl rfl ?_
          refine opG_no rfl rfl rfl rfl rfl ?_
          refine opG_yes rfl rfl rfl rfl rfl (r_pickFV (v := .bool _) rfl rfl) ?_
          refine op rfl (r_pickFV (v := .bool _) rfl rfl) ?_
          refine op rfl (r_moveV (v := .bool _) rfl) ?_
          refine opG_yes rfl rfl rfl rfl rfl (r_moveV (v := .int _ _) rfl) ?_
          refine opG_yes rfl rfl rfl rfl rfl (r_eql rfl rfl) ?_
          refine op rfl (r_pickFV (v := .bool _) rfl rfl) ?_
          refine op_split rfl (r_moveV (v := .bool (decide _)) rfl) (fun hg29 => ?_) (fun hg29 => ?_)
          · refine opG_no rfl rfl rfl rfl rfl ?_
            refine opG_no rfl rfl rfl rfl rfl ?_
            refine op rfl (r_pickTV (v := .bool _) rfl rfl) ?_
            refine op rfl (r_moveV (v := .bool _) rfl) ?_
            refine opG_no rfl rfl rfl rfl rfl ?_
            refine opG_no rfl rfl rfl rfl rfl ?_
            refine op rfl (r_pickTV (v := .bool _) rfl rfl) ?_
            refine op rfl (r_assignV (v := .bool _) rfl) ?_
            refine WL_nil ?_
            refine W_ret (finX_ret ?_)
            refine fin1 ?_
            first
              | exact ⟨_, rfl, by first | exact bool_tt (by unfold plainC; omega) | exact bool_ff (by unfold plainC; omega) | exact bool_iff (by unfold plainC; omega), hX⟩
          · refine opG_yes rfl rfl rfl rfl rfl (r_moveV (v := .int _ _) rfl) ?_
            refine opG_yes rfl rfl rfl rfl rfl (r_eql rfl rfl) ?_
            refine op rfl (r_pickFV (v := .bool _) rfl rfl) ?_
            refine op_split rfl (r_moveV (v := .bool (decide _)) rfl) (fun hg33 => ?_) (fun hg33 => ?_)
            · refine opG_no rfl rfl rfl rfl rfl ?_
              refine opG_no rfl rfl rfl rfl rfl ?_
              refine op rfl (r_pickTV (v := .bool _) rfl rfl) ?_
              refine op rfl (r_assignV (v := .bool _) rfl) ?_
              refine WL_nil ?_
              refine W_ret (finX_ret ?_)
              refine fin1 ?_
              first
                | exact ⟨_, rfl, by first | exact bool_tt (by unfold plainC; omega) | exact bool_ff (by unfold plainC; omega) | exact bool_iff (by unfold plainC; omega), hX⟩
            · refine opG_yes rfl rfl rfl rfl rfl (r_moveV (v := .int _ _) rfl) ?_
              refine opG_yes rfl rfl rfl rfl rfl (r_eql rfl rfl) ?_
              refine op rfl (r_pickFV (v := .bool _) rfl rfl) ?_
              refine op rfl (r_assignV (v := .bool _) rfl) ?_
              refine WL_nil ?_
              refine W_ret (finX_ret ?_)
              refine fin1 ?_
              first
                | exact ⟨_, rfl, by first | exact bool_tt (by unfold plainC; omega) | exact bool_ff (by unfold plainC; omega) | exact bool_iff (by unfold plainC; omega), hX⟩
    · refine opG_no rfl rfl rfl rfl rfl ?_
      refine opG_no rfl rfl rfl rfl rfl ?_
      refine opG_yes rfl rfl rfl rfl rfl (r_pickFV (v := .bool _) rfl rfl) ?_
      refine op rfl (r_pickFV (v := .bool _) rfl rfl) ?_
      refine op rfl (r_moveV (v := .bool _) rfl) ?_
      refine opG_yes rfl rfl rfl rfl rfl (r_moveV (v := .int _ _) rfl) ?_
      refine opG_yes rfl rfl rfl rfl rfl (r_geq rfl rfl) ?_
      refine opG_split rfl rfl rfl rfl rfl (r_moveV (v := .bool (decide _)) rfl) (fun hg20 => ?_) (fun hg20 => ?_)
      · refine opG_yes rfl rfl rfl rfl rfl (r_moveV (v := .int _ _) rfl) ?_
        refine opG_yes rfl rfl rfl rfl rfl (r_leq rfl rfl) ?_
        refine opG_yes rfl rfl rfl rfl rfl (r_pickTV (v := .bool _) rfl rfl) ?_
        refine op rfl (r_pickFV (v := .bool _) rfl rfl) ?_
        refine op_split rfl (r_moveV (v := .bool (decide _)) rfl) (fun hg25 => ?_) (fun hg25 => ?_)
        · refine opG_no rfl rfl rfl rfl rfl ?_
          refine opG_no rfl rfl rfl rfl rfl ?_
          refine op rfl (r_pickTV (v := .bool _) rfl rfl) ?_
          refine op rfl (r_moveV (v := .bool _) rfl) ?_
          refine opG_no rfl rfl rfl rfl rfl ?_
          refine opG_no rfl rfl rfl rfl rfl ?_
          refine op rfl (r_pickTV (v := .bool _) rfl rfl) ?_
          refine op rfl (r_moveV (v := .bool _) rfl) ?_
          refine opG_no rfl rfl rfl rfl rfl ?_
          refine opG_no rfl rfl rfl rfl rfl ?_
          refine op rfl (r_pickTV (v := .bool _) rfl rfl) ?_
          refine op rfl (r_assignV (v := .bool _) rfl) ?_
          refine WL_nil ?_
          refine W_ret (finX_ret ?_)
          refine fin1 ?_
          first
            | exact ⟨_, rfl, by first | exact bool_tt (by unfold plainC; omega) | exact bool_ff (by unfold plainC; omega) | exact bool_iff (by unfold plainC; omega), hX⟩
        · refine opG_yes rfl rfl rfl rfl rfl (r_moveV (v := .int _ _) rfl) ?_
          refine opG_yes rfl rfl rfl rfl rfl (r_eql rfl rfl) ?_
          refine op rfl (r_pickFV (v := .bool _) rfl rfl) ?_
          refine op_split rfl (r_moveV (v := .bool (decide _)) rfl) (fun hg29 => ?_) (fun hg29 => ?_)
          · refine opG_no rfl rfl rfl rfl rfl ?_
            refine opG_no rfl rfl rfl rfl rfl ?_
            refine op rfl (r_pickTV (v := .bool _) rfl rfl) ?_
            refine op rfl (r_moveV (v := .bool _) rfl) ?_
            refine opG_no rfl rfl rfl rfl rfl ?_
            refine opG_no rfl rfl rfl rfl rfl ?_
            refine op rfl (r_pickTV (v := .bool _) rfl rfl) ?_
            refine op rfl (r_assignV (v := .bool _) rfl) ?_
            refine WL_nil ?_
            refine W_ret (finX_ret ?_)
            refine fin1 ?_
            first
              | exact ⟨_, rfl, by first | exact bool_tt (by unfold plainC; omega) | exact bool_ff (by unfold plainC; omega) | exact bool_iff (by unfold plainC; omega), hX⟩
          · refine opG_yes rfl rfl rfl rfl rfl (r_moveV (v := .int _ _) rfl) ?_
            refine opG_yes rfl rfl rfl rfl rfl (r_eql rfl rfl) ?_
            refine op rfl (r_pickFV (v := .bool _) rfl rfl) ?_
            refine op_split rfl (r_moveV (v := .bool (decide _)) rfl) (fun hg33 => ?_) (fun hg33 => ?_)
            · refine opG_no rfl rfl rfl rfl rfl ?_
              refine opG_no rfl rfl rfl rfl rfl ?_
              refine op rfl (r_pickTV (v := .bool _) rfl rfl) ?_
              refine op rfl (r_assignV (v := .bool _) rfl) ?_
              refine WL_nil ?_
              refine W_ret (finX_ret ?_)
              refine fin1 ?_
              first
                | exact ⟨_, rfl, by first | exact bool_tt (by unfold plainC; omega) | exact bool_ff (by unfold plainC; omega) | exact bool_iff (by unfold plainC; omega), hX⟩
            · refine opG_yes rfl rfl rfl rfl rfl (r_moveV (v := .int _ _) rfl) ?_
              refine opG_yes rfl rfl rfl rfl rfl (r_eql rfl rfl) ?_
              refine op rfl (r_pickFV (v := .bool _) rfl rfl) ?_
              refine op rfl (r_assignV (v := .bool _) rfl) ?_
              refine WL_nil ?_
              refine W_ret (finX_ret ?_)
              refine fin1 ?_
              first
                | exact ⟨_, rfl, by first | exact bool_tt (by unfold plainC; omega) | exact bool_ff (by unfold plainC; omega) | exact bool_iff (by unfold plainC; omega), hX⟩
      · refine opG_no rfl rfl rfl rfl rfl ?_
        refine opG_no rfl rfl rfl rfl rfl ?_
        refine opG_yes rfl rfl rfl rfl rfl (r_pickFV (v := .bool _) rfl rfl) ?_
        refine op rfl (r_pickFV (v := .bool _) rfl rfl) ?_
        refine op rfl (r_moveV (v := .bool _) rfl) ?_
        refine opG_yes rfl rfl rfl rfl rfl (r_moveV (v := .int _ _) rfl) ?_
        refine opG_yes rfl rfl rfl rfl rfl (r_eql rfl rfl) ?_
        refine op rfl (r_pickFV (v := .bool _) rfl rfl) ?_
        refine op_split rfl (r_moveV (v := .bool (decide _)) rfl) (fun hg29 => ?_) (fun hg29 => ?_)
        · refine opG_no rfl rfl rfl rfl rfl ?_
          refine opG_no rfl rfl rfl rfl rfl ?_
          refine op rfl (r_pickTV (v := .bool _) rfl rfl) ?_
          refine op rfl (r_moveV (v := .bool _) rfl) ?_
          refine opG_no rfl rfl rfl rfl rfl ?_
          refine opG_no rfl rfl rfl rfl rfl ?_
          refine op rfl (r_pickTV (v := .bool _) rfl rfl) ?_
          refine op rfl (r_assignV (v := .bool _) rfl) ?_
          refine WL_nil ?_
          refine W_ret (finX_ret ?_)
          refine fin1 ?_
          first
            | exact ⟨_, rfl, by first | exact bool_tt (by unfold plainC; omega) | exact bool_ff (by unfold plainC; omega) | exact bool_iff (by unfold plainC; omega), hX⟩
        · refine opG_yes rfl rfl rfl rfl rfl (r_moveV (v := .int _ _) rfl) ?_
          refine opG_yes rfl rfl rfl rfl rfl (r_eql rfl rfl) ?_
          refine op rfl (r_pickFV (v := .bool _) rfl rfl) ?_
          refine op_split rfl (r_moveV (v := .bool (decide _)) rfl) (fun hg33 => ?_) (fun hg33 => ?_)
          · refine opG_no rfl rfl rfl rfl rfl ?_
            refine opG_no rfl rfl rfl rfl rfl ?_
            refine op rfl (r_pickTV (v := .bool _) rfl rfl) ?_
            refine op rfl (r_assignV (v := .bool _) rfl) ?_
            refine WL_nil ?_
            refine W_ret (finX_ret ?_)
            refine fin1 ?_
            first
              | exact ⟨_, rfl, by first | exact bool_tt (by unfold plainC; omega) | exact bool_ff (by unfold plainC; omega) | exact bool_iff (by unfold plainC; omega), hX⟩
          · refine opG_yes rfl rfl rfl rfl rfl (r_moveV (v := .int _ _) rfl) ?_
            refine opG_yes rfl rfl rfl rfl rfl (r_eql rfl rfl) ?_
            refine op rfl (r_pickFV (v := .bool _) rfl rfl) ?_
            refine op rfl (r_assignV (v := .bool _) rfl) ?_
            refine WL_nil ?_
            refine W_ret (finX_ret ?_)
            refine fin1 ?_
            first
              | exact ⟨_, rfl, by first | exact bool_tt (by unfold plainC; omega) | exact bool_ff (by unfold plainC; omega) | exact bool_iff (by unfold plainC; omega), hX⟩
theorem refName_spec (p : List UInt8) (w : World) (hp : p.length ≤ 9223372036854775800) :
    Calls Tryd.prog 62 #[.string (str p)] w (fun en w' => ∃ v, en = .returned v ∧ v = .bool (decide (nameR p)) ∧ Ext w w') := by
  refine calls' (n := 31) (rs := #[.tmp 2]) (l := [.string (str p)]) Tryd.func62 rfl rfl rfl rfl rfl ?_
  have hX := Ext.refl w
  refine W_seq ?_
  refine W_region ?_
  refine op rfl (r_assignV (v := .bool _) rfl) ?_
  refine WL_nil ?_
  refine W_seq ?_
  refine W_seq ?_
  refine W_region ?_
  refine op rfl (r_assignV (v := .int _ _) rfl) ?_
  refine WL_nil ?_
  refine W_block ?_
  refine W_loop [2, 3, 4, 5, 6, 7, 8, 9, 10, 11, 12, 13, 14] (fun q e' w' => ∃ i : Nat, q = p.length - i ∧ i ≤ p.length ∧ e' 3 = .int .i64 i ∧ (∀ k (h : k < p.length), k < i → plainC p[k]) ∧ Ext w w') (p.length) ?_ ?_
  · exact ⟨0, by omega, by omega, rfl, fun k _ h => absurd h (Nat.not_lt_zero k), hX⟩
  intro k g w' hI
  obtain ⟨i, hq, hi, h3, hall, hE2⟩ := hI
  clear hX
  have hX := hE2
  refine W_set (i := 3) h3 ?_
  refine W_seq ?_
  refine W_seq ?_
  refine W_region ?_
  refine op rfl (r_moveV (v := .int _ _) rfl) ?_
  refine op rfl (r_moveV (v := .string _) rfl) ?_
  refine op rfl (rt_len rfl Tryd.underlying9) ?_
  refine op rfl (r_lss rfl rfl) ?_
  refine WL_nil ?_
  refine W_ifp rfl (fun ht7 => ?_) (fun ht7 => ?_)
  · have hlt : i < p.length := by omega
    refine W_skip ?_
    refine W_seq ?_
    refine W_block ?_
    refine W_seq ?_
    refine W_region ?_
    refine op rfl (r_moveV (v := .string _) rfl) ?_
    refine op rfl (r_moveV (v := .int _ _) rfl) ?_
    refine op rfl (rt_index (i := i) rfl rfl Tryd.underlying9 hlt) ?_
    refine opCv rfl (r_call Tryd.func77 Tryd.nm77 rfl) (refPlain_spec p[i] _) ?_
    rintro v w4 ⟨rfl, hE⟩
    replace hX := hX.trans hE
    refine op rfl (r_notP rfl) ?_
    refine WL_nil ?_
    refine W_ifp rfl (fun ht14 => ?_) (fun ht14 => ?_)
    · refine W_seq ?_
      refine W_region ?_
      refine op rfl (r_assignV (v := .bool _) rfl) ?_
      refine WL_nil ?_
      refine W_ret (blk_ret (blk_ret (finX_ret ?_)))
      refine fin1 ?_
      first
        | exact ⟨_, rfl, bool_ff (fun h => ht14 (h.1 _ (List.getElem_mem hlt))), hX⟩
        | exact ⟨_, rfl, bool_iff ⟨fun h => ⟨hall', hpn.1 (by omega), by omega, hg27, h⟩, fun h => h.2.2.2.2⟩, hX⟩
        | exact ⟨_, rfl, bool_ff (fun h => hg27 h.2.2.2.1), hX⟩
        | exact ⟨_, rfl, bool_ff (fun h => by have := h.2.2.1; omega), hX⟩
        | exact ⟨_, rfl, bool_ff (fun h => by have := hpn.2 h.2.1; omega), hX⟩
    · refine W_skip ?_
      refine W_region ?_
      refine op rfl (r_moveV (v := .int _ _) rfl) ?_
      refine op rfl (r_add' (r := ((i + 1 : Nat) : Int)) rfl rfl (by rw [wrap_i64 (by omega) (by omega)]; omega)) ?_
      refine op rfl (r_assignV (v := .int _ _) rfl) ?_
      refine WL_nil ?_
      refine ⟨?_, by repeat (first | with_reducible exact Out.refl _ _ | with_reducible exact Out.mix | refine Out.put rfl ?_ | refine Out.mixin rfl ?_ | exact Out.refl _ _ | exact Out.mix)⟩
      refine ⟨p.length - (i + 1), by omega, i + 1, rfl, by omega, rfl, fun k h hk => ?_, hX⟩
      by_cases hki : k = i
      · subst hki; exact Classical.byContradiction ht14
      · exact hall k h (by omega)
  · obtain rfl : i = p.length := by omega
    have hall' : ∀ c ∈ p, plainC c := fun c hc => by
      obtain ⟨k, hk, rfl⟩ := List.mem_iff_getElem.1 hc
      exact hall k hk hk
    have hpn : 0 < p.length ↔ p ≠ [] := List.length_pos_iff
    refine W_exit (blk_hit ?_)
    refine W_seq ?_
    refine W_region ?_
    refine op rfl (r_moveV (v := .string _) rfl) ?_
    refine op rfl (rt_len rfl Tryd.underlying9) ?_
    refine op rfl (r_gtr rfl rfl) ?_
    refine op_split rfl (r_moveV (v := .bool (decide _)) rfl) (fun hg18 => ?_) (fun hg18 => ?_)
    · refine opG_yes rfl rfl rfl rfl rfl (r_moveV (v := .string _) rfl) ?_
      refine opG_yes rfl rfl rfl rfl rfl (rt_len rfl Tryd.underlying9) ?_
      refine opG_yes rfl rfl rfl rfl rfl (r_leq rfl rfl) ?_
      refine op rfl (r_pickTV (v := .bool _) rfl rfl) ?_
      refine op_split rfl (r_moveV (v := .bool (decide _)) rfl) (fun hg23 => ?_) (fun hg23 => ?_)
      · refine opG_yes rfl rfl rfl rfl rfl (r_moveV (v := .string _) rfl) ?_
        refine opG_yes rfl rfl rfl rfl rfl (rt_neq rfl rfl) ?_
        refine op rfl (r_pickTV (v := .bool _) rfl rfl) ?_
        refine op_split rfl (r_moveV (v := .bool (decide _)) rfl) (fun hg27 => ?_) (fun hg27 => ?_)
        · refine opG_yes rfl rfl rfl rfl rfl (r_moveV (v := .string _) rfl) ?_
          refine opG_yes rfl rfl rfl rfl rfl (rt_neq rfl rfl) ?_
          refine op rfl (r_pickTV (v := .bool _) rfl rfl) ?_
          refine op rfl (r_assignV (v := .bool _) rfl) ?_
          refine WL_nil ?_
          refine W_ret (finX_ret ?_)
          refine fin1 ?_
          first
            | exact ⟨_, rfl, bool_ff (fun h => ht14 (h.1 _ (List.getElem_mem hlt))), hX⟩
            | exact ⟨_, rfl, bool_iff ⟨fun h => ⟨hall', hpn.1 (by omega), by omega, hg27, h⟩, fun h => h.2.2.2.2⟩, hX⟩
            | exact ⟨_, rfl, bool_ff (fun h => hg27 h.2.2.2.1), hX⟩
            | exact ⟨_, rfl, bool_ff (fun h => by have := h.2.2.1; omega), hX⟩
            | exact ⟨_, rfl, bool_ff (fun h => by have := hpn.2 h.2.1; omega), hX⟩
        · refine opG_no rfl rfl rfl rfl rfl ?_
          refine opG_no rfl rfl rfl rfl rfl ?_
          refine op rfl (r_pickFV (v := .bool _) rfl rfl) ?_
          refine op rfl (r_assignV (v := .bool _) rfl) ?_
          refine WL_nil ?_
          refine W_ret (finX_ret ?_)
          refine fin1 ?_
          first
            | exact ⟨_, rfl, bool_ff (fun h => ht14 (h.1 _ (List.getElem_mem hlt))), hX⟩
            | exact ⟨_, rfl, bool_iff ⟨fun h => ⟨hall', hpn.1 (by omega), by omega, hg27, h⟩, fun h => h.2.2.2.2⟩, hX⟩
            | exact ⟨_, rfl, bool_ff (fun h => hg27 h.2.2.2.1), hX⟩
            | exact ⟨_, rfl, bool_ff (fun h => by have := h.2.2.1; omega), hX⟩
            | exact ⟨_, rfl, bool_ff (fun h => by have := hpn.2 h.2.1; omega), hX⟩
      · refine opG_no rfl rfl rfl rfl rfl ?_
        refine opG_no rfl rfl rfl rfl rfl ?_
        refine op rfl (r_pickFV (v := .bool _) rfl rfl) ?_
        refine op rfl (r_moveV (v := .bool _) rfl) ?_
        refine opG_no rfl rfl rfl rfl rfl ?_
        refine opG_no rfl rfl rfl rfl rfl ?_
        refine op rfl (r_pickFV (v := .bool _) rfl rfl) ?_
        refine op rfl (r_assignV (v := .bool _) rfl) ?_
        refine WL_nil ?_
        refine W_ret (finX_ret ?_)
        refine fin1 ?_
        first
          | exact ⟨_, rfl, bool_ff (fun h => ht14 (h.1 _ (List.getElem_mem hlt))), hX⟩
          | exact ⟨_, rfl, bool_iff ⟨fun h => ⟨hall', hpn.1 (by omega), by omega, hg27, h⟩, fun h => h.2.2.2.2⟩, hX⟩
          | exact ⟨_, rfl, bool_ff (fun h => hg27 h.2.2.2.1), hX⟩
          | exact ⟨_, rfl, bool_ff (fun h => by have := h.2.2.1; omega), hX⟩
          | exact ⟨_, rfl, bool_ff (fun h => by have := hpn.2 h.2.1; omega), hX⟩
    · refine opG_no rfl rfl rfl rfl rfl ?_
      refine opG_no rfl rfl rfl rfl rfl ?_
      refine opG_no rfl rfl rfl rfl rfl ?_
      refine op rfl (r_pickFV (v := .bool _) rfl rfl) ?_
      refine op rfl (r_moveV (v := .bool _) rfl) ?_
      refine opG_no rfl rfl rfl rfl rfl ?_
      refine opG_no rfl rfl rfl rfl rfl ?_
      refine op rfl (r_pickFV (v := .bool _) rfl rfl) ?_
      refine op rfl (r_moveV (v := .bool _) rfl) ?_
      refine opG_no rfl rfl rfl rfl rfl ?_
      refine opG_no rfl rfl rfl rfl rfl ?_
      refine op rfl (r_pickFV (v := .bool _) rfl rfl) ?_
      refine op rfl (r_assignV (v := .bool _) rfl) ?_
      refine WL_nil ?_
      refine W_ret (finX_ret ?_)
      refine fin1 ?_
      first
        | exact ⟨_, rfl, bool_ff (fun h => ht14 (h.1 _ (List.getElem_mem hlt))), hX⟩
        | exact ⟨_, rfl, bool_iff ⟨fun h => ⟨hall', hpn.1 (by omega), by omega, hg27, h⟩, fun h => h.2.2.2.2⟩, hX⟩
        | exact ⟨_, rfl, bool_ff (fun h => hg27 h.2.2.2.1), hX⟩
        | exact ⟨_, rfl, bool_ff (fun h => by have := h.2.2.1; omega), hX⟩
        | exact ⟨_, rfl, bool_ff (fun h => by have := hpn.2 h.2.1; omega), hX⟩
theorem refSplit_spec (s : List UInt8) (c : UInt8) (w : World) (hs : s.length ≤ 1099511627776) :
    Calls Tryd.prog 30 #[.string (str s), .int .u8 (c.toNat : Nat)] w (fun en w' => ∃ v, en = .returned v ∧ Eng.Own strT' w' nobody w.heap.size 9 v (parts c s) ∧ (parts c s).length ≤ s.length + 1 ∧ Ext w w') := by
  refine calls' (n := 35) (rs := #[.tmp 4]) (l := [.string (str s), .int .u8 (c.toNat : Nat)]) Tryd.func30 rfl rfl rfl rfl rfl ?_
  have hX := Ext.refl w
  refine W_seq ?_
  refine W_region ?_
  refine op rfl (r_assignV (v := .slice _ _ _) rfl) ?_
  refine WL_nil ?_
  refine W_seq ?_
  refine W_region ?_
  refine op rfl (r_assignV (v := .slice _ _ _) rfl) ?_
  refine WL_nil ?_
  refine W_seq ?_
  refine W_region ?_
  refine op rfl (r_assignV (v := .int _ _) rfl) ?_
  refine WL_nil ?_
  refine W_seq ?_
  refine W_seq ?_
  refine W_region ?_
  refine op rfl (r_assignV (v := .int _ _) rfl) ?_
  refine WL_nil ?_
  refine W_block ?_
  refine W_loop [5, 6, 7, 8, 9, 10, 11, 12, 13, 14, 15, 16, 17, 18, 19, 20, 21, 22, 23, 24, 25, 26, 27, 28, 29, 30, 31, 32, 33] (fun q e' w' => ∃ (i f : Nat) (v : Value) (out : List (List UInt8)), q = s.length + 1 - i ∧ i ≤ s.length + 1 ∧ e' 7 = .int .i64 i ∧ e' 6 = .int .i64 f ∧ e' 5 = v ∧ Eng.Own strT' w' nobody w.heap.size 9 v out ∧ out.length ≤ i ∧ (i ≤ s.length → f ≤ i ∧ out ++ parts c (s.drop f) = parts c s ∧ c ∉ (s.drop f).take (i - f)) ∧ (i = s.length + 1 → out = parts c s) ∧ Ext w w') (s.length + 1) ?_ ?_
  · exact ⟨0, 0, _, [], by omega, by omega, rfl, rfl, rfl, .nil, Nat.le_refl _, fun _ => ⟨Nat.le_refl _, rfl, by simp⟩, fun h => by omega, hX⟩
  intro k g w' hI
  obtain ⟨i, f, v, out, hq, hi, h7, h6, h5, hO, hol, hinv, hend, hX'⟩ := hI
  clear hX
  have hX := hX'
  refine W_set (i := 7) h7 ?_
  refine W_set (i := 6) h6 ?_
  refine W_set (i := 5) h5 ?_
  refine W_seq ?_
  refine W_seq ?_
  refine W_region ?_
  refine op rfl (r_moveV (v := .int _ _) rfl) ?_
  refine op rfl (r_moveV (v := .string _) rfl) ?_
  refine op rfl (rt_len rfl Tryd.underlying9) ?_
  refine op rfl (r_leq rfl rfl) ?_
  refine WL_nil ?_
  refine W_ifp rfl (fun ht11 => ?_) (fun ht11 => ?_)
  · have hlt : i ≤ s.length := by omega
    obtain ⟨hfi, hpp, hnc⟩ := hinv hlt
    refine W_skip ?_
    refine W_seq ?_
    refine W_block ?_
    refine W_seq ?_
    refine W_region ?_
    refine op rfl (r_moveV (v := .int _ _) rfl) ?_
    refine op rfl (r_moveV (v := .string _) rfl) ?_
    refine op rfl (rt_len rfl Tryd.underlying9) ?_
    refine op rfl (r_eql rfl rfl) ?_
    refine op_split rfl (r_moveV (v := .bool (decide _)) rfl) (fun hg18 => ?_) (fun hg18 => ?_)
    · refine opG_no rfl rfl rfl rfl rfl ?_
      refine opG_no rfl rfl rfl rfl rfl ?_
      refine opG_no rfl rfl rfl rfl rfl ?_
      refine opG_no rfl rfl rfl rfl rfl ?_
      refine opG_no rfl rfl rfl rfl rfl ?_
      refine op rfl (r_pickTV (v := .bool _) rfl rfl) ?_
      refine WL_nil ?_
      refine W_then rfl ?_
      refine W_seq ?_
      refine W_region ?_
      refine op rfl (r_moveV (v := v) rfl) ?_
      refine op rfl (r_moveV (v := .string _) rfl) ?_
      refine op rfl (r_moveV (v := .int _ _) rfl) ?_
      refine op rfl (r_moveV (v := .int _ _) rfl) ?_
      refine op rfl (rt_sliceLoHi (i := f) (j := i) rfl rfl rfl Tryd.underlying9 hfi hlt) ?_
      refine op_newS rfl (r_buildSlice (vs := [.string (str ((s.drop f).take (i - f)))]) Tryd.underlying49 Tryd.sz9 Tryd.zero9 rfl rfl rfl) ?_
      intro w7 b7 E7 B7 L7
      replace hX := hX.trans E7
      refine op_app (v := v) flat_scalar rfl rfl rfl Tryd.underlying49 Tryd.sz9 Tryd.by9 Tryd.zero9 rfl (hX) (own_fext hO E7) ((row_one B7 (by simp; omega) : strT'.Row w7 (old w7) (some ⟨b7, 0, none⟩) [(s.drop f).take (i - f)])) (by simp only [List.length_singleton]; omega) (by simp only [List.length_singleton]; omega) ?_
      intro v7_6 w7_6 O7_6 X7_6 G7_6
      replace hX := X7_6
      refine op rfl (r_assignV (v := v7_6) rfl) ?_
      refine WL_nil ?_
      refine W_region ?_
      refine op rfl (r_moveV (v := .int _ _) rfl) ?_
      refine op rfl (r_add' rfl rfl (wrap_i64 (by omega) (by omega))) ?_
      refine op rfl (r_assignV (v := .int _ _) rfl) ?_
      refine WL_nil ?_
      refine W_region ?_
      refine op rfl (r_moveV (v := .int _ _) rfl) ?_
      refine op rfl (r_add' rfl rfl (wrap_i64 (by omega) (by omega))) ?_
      refine op rfl (r_assignV (v := .int _ _) rfl) ?_
      refine WL_nil ?_
      refine ⟨?_, by repeat (first | with_reducible exact Out.refl _ _ | with_reducible exact Out.mix | refine Out.put rfl ?_ | refine Out.mixin rfl ?_ | exact Out.refl _ _ | exact Out.mix)⟩
      first
        | (refine ⟨s.length + 1 - (i + 1), by omega, i + 1, f, v, out, rfl, by omega, rfl, rfl, rfl, own_fext hO (Ext.refl _), by omega, fun h => ⟨by omega, hpp, ?_⟩, fun h => by omega, hX⟩
           have e2 : f + (i - f) = i := by omega
           rw [show i + 1 - f = (i - f) + 1 by omega, List.take_succ_eq_append_getElem (by simp; omega)]
           intro q
           rcases List.mem_append.1 q with q | q
           · exact hnc q
           · have q2 := List.mem_singleton.1 q
             rw [List.getElem_drop] at q2
             simp only [e2] at q2
             exact ht24 (by rw [q2]))
        | (refine ⟨s.length + 1 - (i + 1), by omega, i + 1, i + 1, _, _, rfl, by omega, rfl, rfl, rfl, O7_6, by simp; omega, fun h => ⟨Nat.le_refl _, ?_, by simp⟩, fun h => ?_, hX⟩
           · have hif : i < s.length := by omega
             by_cases hx18 : i = s.length
             · omega
             have hc : s[i] = c := UInt8.toNat_inj.1 (by first | exact_mod_cast ht24 | omega)
             have hg : (s.drop f)[i - f]? = some c := by
               rw [List.getElem?_drop, show f + (i - f) = i by omega, List.getElem?_eq_getElem hif, hc]
             rw [← hpp, parts_at hnc hg, List.drop_drop, show f + (i - f + 1) = i + 1 by omega]
             simp
           · have hall : (s.drop f).take (i - f) = s.drop f := List.take_of_length_le (by simp; omega)
             rw [hall] at hnc ⊢
             rw [← hpp, parts_none hnc])
    · refine opG_yes rfl rfl rfl rfl rfl (r_moveV (v := .string _) rfl) ?_
      refine opG_yes rfl rfl rfl rfl rfl (r_moveV (v := .int _ _) rfl) ?_
      refine opG_yes rfl rfl rfl rfl rfl (rt_index (i := i) rfl rfl Tryd.underlying9 (by omega)) ?_
      refine opG_yes rfl rfl rfl rfl rfl (r_moveV (v := .int _ _) rfl) ?_
      refine opG_yes rfl rfl rfl rfl rfl (r_eql rfl rfl) ?_
      refine op rfl (r_pickFV (v := .bool _) rfl rfl) ?_
      refine WL_nil ?_
      refine W_ifp rfl (fun ht24 => ?_) (fun ht24 => ?_)
      · refine W_seq ?_
        refine W_region ?_
        refine op rfl (r_moveV (v := v) rfl) ?_
        refine op rfl (r_moveV (v := .string _) rfl) ?_
        refine op rfl (r_moveV (v := .int _ _) rfl) ?_
        refine op rfl (r_moveV (v := .int _ _) rfl) ?_
        refine op rfl (rt_sliceLoHi (i := f) (j := i) rfl rfl rfl Tryd.underlying9 hfi hlt) ?_
        refine op_newS rfl (r_buildSlice (vs := [.string (str ((s.drop f).take (i - f)))]) Tryd.underlying49 Tryd.sz9 Tryd.zero9 rfl rfl rfl) ?_
        intro w7 b7 E7 B7 L7
        replace hX := hX.trans E7
        refine op_app (v := v) flat_scalar rfl rfl rfl Tryd.underlying49 Tryd.sz9 Tryd.by9 Tryd.zero9 rfl (hX) (own_fext hO E7) ((row_one B7 (by simp; omega) : strT'.Row w7 (old w7) (some ⟨b7, 0, none⟩) [(s.drop f).take (i - f)])) (by simp only [List.length_singleton]; omega) (by simp only [List.length_singleton]; omega) ?_
        intro v7_6 w7_6 O7_6 X7_6 G7_6
        replace hX := X7_6
        refine op rfl (r_assignV (v := v7_6) rfl) ?_
        refine WL_nil ?_
        refine W_region ?_
        refine op rfl (r_moveV (v := .int _ _) rfl) ?_
        refine op rfl (r_add' rfl rfl (wrap_i64 (by omega) (by omega))) ?_
        refine op rfl (r_assignV (v := .int _ _) rfl) ?_
        refine WL_nil ?_
        refine W_region ?_
        refine op rfl (r_moveV (v := .int _ _) rfl) ?_
        refine op rfl (r_add' rfl rfl (wrap_i64 (by omega) (by omega))) ?_
        refine op rfl (r_assignV (v := .int _ _) rfl) ?_
        refine WL_nil ?_
        refine ⟨?_, by repeat (first | with_reducible exact Out.refl _ _ | with_reducible exact Out.mix | refine Out.put rfl ?_ | refine Out.mixin rfl ?_ | exact Out.refl _ _ | exact Out.mix)⟩
        first
          | (refine ⟨s.length + 1 - (i + 1), by omega, i + 1, f, v, out, rfl, by omega, rfl, rfl, rfl, own_fext hO (Ext.refl _), by omega, fun h => ⟨by omega, hpp, ?_⟩, fun h => by omega, hX⟩
             have e2 : f + (i - f) = i := by omega
             rw [show i + 1 - f = (i - f) + 1 by omega, List.take_succ_eq_append_getElem (by simp; omega)]
             intro q
             rcases List.mem_append.1 q with q | q
             · exact hnc q
             · have q2 := List.mem_singleton.1 q
               rw [List.getElem_drop] at q2
               simp only [e2] at q2
               exact ht24 (by rw [q2]))
          | (refine ⟨s.length + 1 - (i + 1), by omega, i + 1, i + 1, _, _, rfl, by omega, rfl, rfl, rfl, O7_6, by simp; omega, fun h => ⟨Nat.le_refl _, ?_, by simp⟩, fun h => ?_, hX⟩
             · have hif : i < s.length := by omega
               by_cases hx18 : i = s.length
               · omega
               have hc : s[i] = c := UInt8.toNat_inj.1 (by first | exact_mod_cast ht24 | omega)
               have hg : (s.drop f)[i - f]? = some c := by
                 rw [List.getElem?_drop, show f + (i - f) = i by omega, List.getElem?_eq_getElem hif, hc]
               rw [← hpp, parts_at hnc hg, List.drop_drop, show f + (i - f + 1) = i + 1 by omega]
               simp
             · have hall : (s.drop f).take (i - f) = s.drop f := List.take_of_length_le (by simp; omega)
               rw [hall] at hnc ⊢
               rw [← hpp, parts_none hnc])
      · refine W_skip ?_
        refine W_region ?_
        refine op rfl (r_moveV (v := .int _ _) rfl) ?_
        refine op rfl (r_add' rfl rfl (wrap_i64 (by omega) (by omega))) ?_
        refine op rfl (r_assignV (v := .int _ _) rfl) ?_
        refine WL_nil ?_
        refine ⟨?_, by repeat (first | with_reducible exact Out.refl _ _ | with_reducible exact Out.mix | refine Out.put rfl ?_ | refine Out.mixin rfl ?_ | exact Out.refl _ _ | exact Out.mix)⟩
        first
          | (refine ⟨s.length + 1 - (i + 1), by omega, i + 1, f, v, out, rfl, by omega, rfl, rfl, rfl, own_fext hO (Ext.refl _), by omega, fun h => ⟨by omega, hpp, ?_⟩, fun h => by omega, hX⟩
             have e2 : f + (i - f) = i := by omega
             rw [show i + 1 - f = (i - f) + 1 by omega, List.take_succ_eq_append_getElem (by simp; omega)]
             intro q
             rcases List.mem_append.1 q with q | q
             · exact hnc q
             · have q2 := List.mem_singleton.1 q
               rw [List.getElem_drop] at q2
               simp only [e2] at q2
               exact ht24 (by rw [q2]))
          | (refine ⟨s.length + 1 - (i + 1), by omega, i + 1, i + 1, _, _, rfl, by omega, rfl, rfl, rfl, O7_6, by simp; omega, fun h => ⟨Nat.le_refl _, ?_, by simp⟩, fun h => ?_, hX⟩
             · have hif : i < s.length := by omega
               by_cases hx18 : i = s.length
               · omega
               have hc : s[i] = c := UInt8.toNat_inj.1 (by first | exact_mod_cast ht24 | omega)
               have hg : (s.drop f)[i - f]? = some c := by
                 rw [List.getElem?_drop, show f + (i - f) = i by omega, List.getElem?_eq_getElem hif, hc]
               rw [← hpp, parts_at hnc hg, List.drop_drop, show f + (i - f + 1) = i + 1 by omega]
               simp
             · have hall : (s.drop f).take (i - f) = s.drop f := List.take_of_length_le (by simp; omega)
               rw [hall] at hnc ⊢
               rw [← hpp, parts_none hnc])
  · have hout := hend (by omega)
    refine W_exit (blk_hit ?_)
    refine W_seq ?_
    refine W_region ?_
    refine op rfl (r_moveV (v := v) rfl) ?_
    refine op rfl (r_assignV (v := v) rfl) ?_
    refine WL_nil ?_
    refine W_ret (finX_ret ?_)
    refine fin1 ?_
    refine ⟨_, rfl, by rw [← hout]; exact hO, by rw [← hout]; omega, hX⟩
theorem refPathRight_spec (s : List UInt8) (w : World) (hs : s.length ≤ 1099511627776) :
    Calls Tryd.prog 49 #[.string (str s)] w (fun en w' => ∃ v, en = .returned v ∧ v = .bool (decide (rightP s)) ∧ Ext w w') := by
  refine calls' (n := 22) (rs := #[.tmp 2]) (l := [.string (str s)]) Tryd.func49 rfl rfl rfl rfl rfl ?_
  have hX := Ext.refl w
  refine W_seq ?_
  refine W_region ?_
  refine op rfl (r_assignV (v := .bool _) rfl) ?_
  refine WL_nil ?_
  refine W_seq ?_
  refine W_region ?_
  refine op rfl (r_moveV (v := .string _) rfl) ?_
  refine opCv rfl (r_call Tryd.func30 Tryd.nm30 rfl) (refSplit_spec s 47 _ hs) ?_
  rintro v1 w1 ⟨hO, hln, hE⟩
  replace hX := hX.trans hE
  obtain ⟨A1, c1, rfl, hc1, hr1⟩ := hO.old (fun _ q => q.elim)
  refine op rfl (r_assignV (v := .slice _ _ _) rfl) ?_
  refine WL_nil ?_
  refine W_seq ?_
  refine W_seq ?_
  refine W_region ?_
  refine op rfl (r_assignV (v := .int _ _) rfl) ?_
  refine WL_nil ?_
  refine W_block ?_
  refine W_loop [2, 4, 7, 8, 9, 10, 11, 12, 13, 14, 15, 16, 17, 18] (fun q e' w' => ∃ (i : Nat), q = (parts 47 s).length - i ∧ i ≤ (parts 47 s).length ∧ e' 4 = .int .i64 i ∧ (∀ k (h : k < (parts 47 s).length), k < i → nameR (parts 47 s)[k]) ∧ Ext w1 w' ∧ Ext w w') ((parts 47 s).length) ?_ ?_
  · exact ⟨0, by omega, by omega, rfl, fun k _ h => absurd h (Nat.not_lt_zero k), Ext.refl _, hX⟩
  intro k g w' hI
  obtain ⟨i, hq, hi, h4, hall, hE1, hX'⟩ := hI
  clear hX
  have hX := hX'
  refine W_set (i := 4) h4 ?_
  refine W_seq ?_
  refine W_seq ?_
  refine W_region ?_
  refine op rfl (r_moveV (v := .int _ _) rfl) ?_
  refine op rfl (r_moveV (v := .slice _ _ _) rfl) ?_
  refine op rfl (r_len_slice rfl Tryd.underlying49) ?_
  refine op rfl (r_lss rfl rfl) ?_
  refine WL_nil ?_
  refine W_ifp rfl (fun ht10 => ?_) (fun ht10 => ?_)
  · have hlt : i < (parts 47 s).length := by omega
    obtain ⟨g, off, hA, _, hsl, hcell⟩ := (hr1.ext hE1).cell hlt
    have hpl := parts_len 47 s _ (List.getElem_mem hlt)
    refine W_skip ?_
    refine W_seq ?_
    refine W_block ?_
    refine W_seq ?_
    refine W_region ?_
    refine op rfl (r_moveV (v := .slice _ _ _) rfl) ?_
    refine op rfl (r_moveV (v := .int _ _) rfl) ?_
    refine op rfl (r_indexAddr1 rfl rfl hA Tryd.underlying49 Tryd.sz9 (by omega) (by omega)) ?_
    refine op rfl (r_load (v := .string (str (parts 47 s)[i])) rfl Tryd.underlying9 rfl hcell) ?_
    refine opCv rfl (r_call Tryd.func62 Tryd.nm62 rfl) (refName_spec (parts 47 s)[i] _ (by omega)) ?_
    rintro v5 w5 ⟨rfl, hE⟩
    replace hX := hX.trans hE
    refine op rfl (r_notP rfl) ?_
    refine WL_nil ?_
    refine W_ifp rfl (fun ht18 => ?_) (fun ht18 => ?_)
    · refine W_seq ?_
      refine W_region ?_
      refine op rfl (r_assignV (v := .bool _) rfl) ?_
      refine WL_nil ?_
      refine W_ret (blk_ret (blk_ret (finX_ret ?_)))
      refine fin1 ?_
      first
        | exact ⟨_, rfl, bool_iff ⟨fun h => ⟨hall', by omega⟩, fun h => by have := h.2; omega⟩, hX⟩
        | exact ⟨_, rfl, bool_ff (fun h => ht18 (h.1 _ (List.getElem_mem hlt))), hX⟩
        | exact ⟨_, rfl, bool_ff (fun h => ht18 (h.1 _ (List.getElem_mem hlt))), hX⟩
        | exact ⟨_, rfl, bool_ff (fun h => ht18 (h.1 _ (List.getElem_mem hlt))), hX⟩
    · refine W_skip ?_
      refine W_region ?_
      refine op rfl (r_moveV (v := .int _ _) rfl) ?_
      refine op rfl (r_add' (r := ((i + 1 : Nat) : Int)) rfl rfl (by rw [wrap_i64 (by omega) (by omega)]; omega)) ?_
      refine op rfl (r_assignV (v := .int _ _) rfl) ?_
      refine WL_nil ?_
      refine ⟨?_, by repeat (first | with_reducible exact Out.refl _ _ | with_reducible exact Out.mix | refine Out.put rfl ?_ | refine Out.mixin rfl ?_ | exact Out.refl _ _ | exact Out.mix)⟩
      refine ⟨(parts 47 s).length - (i + 1), by omega, i + 1, rfl, by omega, rfl, fun k h hk => ?_, hE1.trans hE, hX⟩
      by_cases hki : k = i
      · subst hki; first | exact Classical.byContradiction ht18 | exact Classical.byContradiction ht18 | exact Classical.byContradiction ht18
      · exact hall k h (by omega)
  · obtain rfl : i = (parts 47 s).length := by omega
    have hall' : ∀ c ∈ parts 47 s, nameR c := fun c hc => by
      obtain ⟨k, hk, rfl⟩ := List.mem_iff_getElem.1 hc
      exact hall k hk hk
    refine W_exit (blk_hit ?_)
    refine W_seq ?_
    refine W_region ?_
    refine op rfl (r_moveV (v := .string _) rfl) ?_
    refine op rfl (rt_len rfl Tryd.underlying9) ?_
    refine op rfl (r_leq rfl rfl) ?_
    refine op rfl (r_assignV (v := .bool _) rfl) ?_
    refine WL_nil ?_
    refine W_ret (finX_ret ?_)
    refine fin1 ?_
    first
      | exact ⟨_, rfl, bool_iff ⟨fun h => ⟨hall', by omega⟩, fun h => by have := h.2; omega⟩, hX⟩
      | exact ⟨_, rfl, bool_ff (fun h => ht18 (h.1 _ (List.getElem_mem hlt))), hX⟩
      | exact ⟨_, rfl, bool_ff (fun h => ht18 (h.1 _ (List.getElem_mem hlt))), hX⟩
      | exact ⟨_, rfl, bool_ff (fun h => ht18 (h.1 _ (List.getElem_mem hlt))), hX⟩
end Go.Proofs.YtafcaigjijajnaaDoor
