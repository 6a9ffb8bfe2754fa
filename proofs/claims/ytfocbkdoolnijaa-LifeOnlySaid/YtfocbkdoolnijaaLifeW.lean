/-
  The walks of package life.
-/
import Derived.Test.YtfocbkdoolnijaaFacts
import Derived.Test.YtfocbkdoolnijaaRec
namespace Go.Proofs.Ytfocbkdoolnijaa
open Go Go.Eng Go.RowKit Go.Proofs
set_option linter.unusedVariables false

structure Lim where
  retries : Int
  review : Int
  backoff : Int
structure Lf where
  state : Int
  why : Int
  tries : Int
  wait : Int
  request : Int
  rev : Int
  deriving DecidableEq
abbrev Lim.val (m : Lim) : Value := .agg #[.int .i64 m.retries, .int .i64 m.review, .int .i64 m.backoff]
abbrev Lf.val (x : Lf) : Value := .agg #[.int .i64 x.state, .int .i64 x.why, .int .i64 x.tries, .int .i64 x.wait, .int .i64 x.request, .int .i64 x.rev]
def Lim.May (m : Lim) : Prop := 0 ≤ m.retries ∧ m.retries ≤ 100 ∧ 1 ≤ m.review ∧ m.review ≤ 1073741824 ∧ 0 ≤ m.backoff ∧ m.backoff ≤ 1073741824
instance (m : Lim) : Decidable m.May := by unfold Lim.May; exact inferInstance

theorem ended_spec (x : Lf) (w : World) : Calls Try.prog 12 #[x.val] w (fun en w' => ∃ v, en = .returned v ∧ v = .bool (decide (x.state = 6 ∨ x.state = 7)) ∧ Ext w w') := by
  refine calls' (n := 11) (rs := #[.tmp 2]) (l := [x.val]) Try.func12 rfl rfl rfl rfl rfl ?_
  have hX := Ext.refl w
  refine W_seq ?_
  refine W_region ?_
  refine op_box (v := .agg _) rfl rfl ?_
  intro w0_0 b0_0 E0_0 B0_0 L0_0
  have hG0_0 : w.heap.size ≤ b0_0 := by have := hX.size; omega
  replace hX := hX.trans E0_0
  refine op rfl (r_assignV (v := .bool _) rfl) ?_
  refine WL_nil ?_
  refine W_seq ?_
  refine W_region ?_
  refine op rfl (r_fieldAddr rfl Try.fld27_0 rfl) ?_
  refine op rfl (r_load (v := .int _ _) rfl Try.underlying3 rfl (Blk.cell B0_0 rfl)) ?_
  refine op rfl (r_eql rfl rfl) ?_
  refine op_split rfl (r_moveV (v := .bool (decide _)) rfl) (fun hg6 => ?_) (fun hg6 => ?_)
  · refine opG_no rfl rfl rfl rfl rfl ?_
    refine opG_no rfl rfl rfl rfl rfl ?_
    refine opG_no rfl rfl rfl rfl rfl ?_
    refine op rfl (r_pickTV (v := .bool _) rfl rfl) ?_
    refine op rfl (r_assignV (v := .bool _) rfl) ?_
    refine WL_nil ?_
    refine W_ret (finX_ret ?_)
    refine fin1 ?_
    exact ⟨_, rfl, by first | exact bool_tt (by omega) | exact bool_ff (by omega) | exact bool_iff (by omega), hX⟩
  · refine opG_yes rfl rfl rfl rfl rfl (r_fieldAddr rfl Try.fld27_0 rfl) ?_
    refine opG_yes rfl rfl rfl rfl rfl (r_load (v := .int _ _) rfl Try.underlying3 rfl (Blk.cell B0_0 rfl)) ?_
    refine opG_yes rfl rfl rfl rfl rfl (r_eql rfl rfl) ?_
    refine op rfl (r_pickFV (v := .bool _) rfl rfl) ?_
    refine op rfl (r_assignV (v := .bool _) rfl) ?_
    refine WL_nil ?_
    refine W_ret (finX_ret ?_)
    refine fin1 ?_
    exact ⟨_, rfl, by first | exact bool_tt (by omega) | exact bool_ff (by omega) | exact bool_iff (by omega), hX⟩
theorem may_spec (m : Lim) (w : World) : Calls Try.prog 15 #[m.val] w (fun en w' => ∃ v, en = .returned v ∧ v = .bool (decide m.May) ∧ Ext w w') := by
  refine calls' (n := 31) (rs := #[.tmp 2]) (l := [m.val]) Try.func15 rfl rfl rfl rfl rfl ?_
  have hX := Ext.refl w
  refine W_seq ?_
  refine W_region ?_
  refine op_box (v := .agg _) rfl rfl ?_
  intro w0_0 b0_0 E0_0 B0_0 L0_0
  have hG0_0 : w.heap.size ≤ b0_0 := by have := hX.size; omega
  replace hX := hX.trans E0_0
  refine op rfl (r_assignV (v := .bool _) rfl) ?_
  refine WL_nil ?_
  refine W_seq ?_
  refine W_region ?_
  refine op rfl (r_fieldAddr rfl Try.fld24_0 rfl) ?_
  refine op rfl (r_load (v := .int _ _) rfl Try.underlying3 rfl (Blk.cell B0_0 rfl)) ?_
  refine op rfl (r_geq rfl rfl) ?_
  refine op_split rfl (r_moveV (v := .bool (decide _)) rfl) (fun hg6 => ?_) (fun hg6 => ?_)
  · refine opG_yes rfl rfl rfl rfl rfl (r_fieldAddr rfl Try.fld24_0 rfl) ?_
    refine opG_yes rfl rfl rfl rfl rfl (r_load (v := .int _ _) rfl Try.underlying3 rfl (Blk.cell B0_0 rfl)) ?_
    refine opG_yes rfl rfl rfl rfl rfl (r_leq rfl rfl) ?_
    refine op rfl (r_pickTV (v := .bool _) rfl rfl) ?_
    refine op_split rfl (r_moveV (v := .bool (decide _)) rfl) (fun hg11 => ?_) (fun hg11 => ?_)
    · refine opG_yes rfl rfl rfl rfl rfl (r_fieldAddr rfl Try.fld24_1 rfl) ?_
      refine opG_yes rfl rfl rfl rfl rfl (r_load (v := .int _ _) rfl Try.underlying3 rfl (Blk.cell B0_0 rfl)) ?_
      refine opG_yes rfl rfl rfl rfl rfl (r_geq rfl rfl) ?_
      refine op rfl (r_pickTV (v := .bool _) rfl rfl) ?_
      refine op_split rfl (r_moveV (v := .bool (decide _)) rfl) (fun hg16 => ?_) (fun hg16 => ?_)
      · refine opG_yes rfl rfl rfl rfl rfl (r_fieldAddr rfl Try.fld24_1 rfl) ?_
        refine opG_yes rfl rfl rfl rfl rfl (r_load (v := .int _ _) rfl Try.underlying3 rfl (Blk.cell B0_0 rfl)) ?_
        refine opG_yes rfl rfl rfl rfl rfl (r_leq rfl rfl) ?_
        refine op rfl (r_pickTV (v := .bool _) rfl rfl) ?_
        refine op_split rfl (r_moveV (v := .bool (decide _)) rfl) (fun hg21 => ?_) (fun hg21 => ?_)
        · refine opG_yes rfl rfl rfl rfl rfl (r_fieldAddr rfl Try.fld24_2 rfl) ?_
          refine opG_yes rfl rfl rfl rfl rfl (r_load (v := .int _ _) rfl Try.underlying3 rfl (Blk.cell B0_0 rfl)) ?_
          refine opG_yes rfl rfl rfl rfl rfl (r_geq rfl rfl) ?_
          refine op rfl (r_pickTV (v := .bool _) rfl rfl) ?_
          refine op_split rfl (r_moveV (v := .bool (decide _)) rfl) (fun hg26 => ?_) (fun hg26 => ?_)
          · refine opG_yes rfl rfl rfl rfl rfl (r_fieldAddr rfl Try.fld24_2 rfl) ?_
            refine opG_yes rfl rfl rfl rfl rfl (r_load (v := .int _ _) rfl Try.underlying3 rfl (Blk.cell B0_0 rfl)) ?_
            refine opG_yes rfl rfl rfl rfl rfl (r_leq rfl rfl) ?_
            refine op rfl (r_pickTV (v := .bool _) rfl rfl) ?_
            refine op rfl (r_assignV (v := .bool _) rfl) ?_
            refine WL_nil ?_
            refine W_ret (finX_ret ?_)
            refine fin1 ?_
            exact ⟨_, rfl, by first | exact bool_tt (by unfold Lim.May; omega) | exact bool_ff (by unfold Lim.May; omega) | exact bool_iff (by unfold Lim.May; omega), hX⟩
          · refine opG_no rfl rfl rfl rfl rfl ?_
            refine opG_no rfl rfl rfl rfl rfl ?_
            refine opG_no rfl rfl rfl rfl rfl ?_
            refine op rfl (r_pickFV (v := .bool _) rfl rfl) ?_
            refine op rfl (r_assignV (v := .bool _) rfl) ?_
            refine WL_nil ?_
            refine W_ret (finX_ret ?_)
            refine fin1 ?_
            exact ⟨_, rfl, by first | exact bool_tt (by unfold Lim.May; omega) | exact bool_ff (by unfold Lim.May; omega) | exact bool_iff (by unfold Lim.May; omega), hX⟩
        · refine opG_no rfl rfl rfl rfl rfl ?_
          refine opG_no rfl rfl rfl rfl rfl ?_
          refine opG_no rfl rfl rfl rfl rfl ?_
          refine op rfl (r_pickFV (v := .bool _) rfl rfl) ?_
          refine op rfl (r_moveV (v := .bool _) rfl) ?_
          refine opG_no rfl rfl rfl rfl rfl ?_
          refine opG_no rfl rfl rfl rfl rfl ?_
          refine opG_no rfl rfl rfl rfl rfl ?_
          refine op rfl (r_pickFV (v := .bool _) rfl rfl) ?_
          refine op rfl (r_assignV (v := .bool _) rfl) ?_
          refine WL_nil ?_
          refine W_ret (finX_ret ?_)
          refine fin1 ?_
          exact ⟨_, rfl, by first | exact bool_tt (by unfold Lim.May; omega) | exact bool_ff (by unfold Lim.May; omega) | exact bool_iff (by unfold Lim.May; omega), hX⟩
      · refine opG_no rfl rfl rfl rfl rfl ?_
        refine opG_no rfl rfl rfl rfl rfl ?_
        refine opG_no rfl rfl rfl rfl rfl ?_
        refine op rfl (r_pickFV (v := .bool _) rfl rfl) ?_
        refine op rfl (r_moveV (v := .bool _) rfl) ?_
        refine opG_no rfl rfl rfl rfl rfl ?_
        refine opG_no rfl rfl rfl rfl rfl ?_
        refine opG_no rfl rfl rfl rfl rfl ?_
        refine op rfl (r_pickFV (v := .bool _) rfl rfl) ?_
        refine op rfl (r_moveV (v := .bool _) rfl) ?_
        refine opG_no rfl rfl rfl rfl rfl ?_
        refine opG_no rfl rfl rfl rfl rfl ?_
        refine opG_no rfl rfl rfl rfl rfl ?_
        refine op rfl (r_pickFV (v := .bool _) rfl rfl) ?_
        refine op rfl (r_assignV (v := .bool _) rfl) ?_
        refine WL_nil ?_
        refine W_ret (finX_ret ?_)
        refine fin1 ?_
        exact ⟨_, rfl, by first | exact bool_tt (by unfold Lim.May; omega) | exact bool_ff (by unfold Lim.May; omega) | exact bool_iff (by unfold Lim.May; omega), hX⟩
    · refine opG_no rfl rfl rfl rfl rfl ?_
      refine opG_no rfl rfl rfl rfl rfl ?_
      refine opG_no rfl rfl rfl rfl rfl ?_
      refine op rfl (r_pickFV (v := .bool _) rfl rfl) ?_
      refine op rfl (r_moveV (v := .bool _) rfl) ?_
      refine opG_no rfl rfl rfl rfl rfl ?_
      refine opG_no rfl rfl rfl rfl rfl ?_
      refine opG_no rfl rfl rfl rfl rfl ?_
      refine op rfl (r_pickFV (v := .bool _) rfl rfl) ?_
      refine op rfl (r_moveV (v := .bool _) rfl) ?_
      refine opG_no rfl rfl rfl rfl rfl ?_
      refine opG_no rfl rfl rfl rfl rfl ?_
      refine opG_no rfl rfl rfl rfl rfl ?_
      refine op rfl (r_pickFV (v := .bool _) rfl rfl) ?_
      refine op rfl (r_moveV (v := .bool _) rfl) ?_
      refine opG_no rfl rfl rfl rfl rfl ?_
      refine opG_no rfl rfl rfl rfl rfl ?_
      refine opG_no rfl rfl rfl rfl rfl ?_
      refine op rfl (r_pickFV (v := .bool _) rfl rfl) ?_
      refine op rfl (r_assignV (v := .bool _) rfl) ?_
      refine WL_nil ?_
      refine W_ret (finX_ret ?_)
      refine fin1 ?_
      exact ⟨_, rfl, by first | exact bool_tt (by unfold Lim.May; omega) | exact bool_ff (by unfold Lim.May; omega) | exact bool_iff (by unfold Lim.May; omega), hX⟩
  · refine opG_no rfl rfl rfl rfl rfl ?_
    refine opG_no rfl rfl rfl rfl rfl ?_
    refine opG_no rfl rfl rfl rfl rfl ?_
    refine op rfl (r_pickFV (v := .bool _) rfl rfl) ?_
    refine op rfl (r_moveV (v := .bool _) rfl) ?_
    refine opG_no rfl rfl rfl rfl rfl ?_
    refine opG_no rfl rfl rfl rfl rfl ?_
    refine opG_no rfl rfl rfl rfl rfl ?_
    refine op rfl (r_pickFV (v := .bool _) rfl rfl) ?_
    refine op rfl (r_moveV (v := .bool _) rfl) ?_
    refine opG_no rfl rfl rfl rfl rfl ?_
    refine opG_no rfl rfl rfl rfl rfl ?_
    refine opG_no rfl rfl rfl rfl rfl ?_
    refine op rfl (r_pickFV (v := .bool _) rfl rfl) ?_
    refine op rfl (r_moveV (v := .bool _) rfl) ?_
    refine opG_no rfl rfl rfl rfl rfl ?_
    refine opG_no rfl rfl rfl rfl rfl ?_
    refine opG_no rfl rfl rfl rfl rfl ?_
    refine op rfl (r_pickFV (v := .bool _) rfl rfl) ?_
    refine op rfl (r_moveV (v := .bool _) rfl) ?_
    refine opG_no rfl rfl rfl rfl rfl ?_
    refine opG_no rfl rfl rfl rfl rfl ?_
    refine opG_no rfl rfl rfl rfl rfl ?_
    refine op rfl (r_pickFV (v := .bool _) rfl rfl) ?_
    refine op rfl (r_assignV (v := .bool _) rfl) ?_
    refine WL_nil ?_
    refine W_ret (finX_ret ?_)
    refine fin1 ?_
    exact ⟨_, rfl, by first | exact bool_tt (by unfold Lim.May; omega) | exact bool_ff (by unfold Lim.May; omega) | exact bool_iff (by unfold Lim.May; omega), hX⟩
theorem refMay_spec (m : Lim) (w : World) : Calls Try.prog 18 #[m.val] w (fun en w' => ∃ v, en = .returned v ∧ v = .bool (decide m.May) ∧ Ext w w') := by
  refine calls' (n := 31) (rs := #[.tmp 2]) (l := [m.val]) Try.func18 rfl rfl rfl rfl rfl ?_
  have hX := Ext.refl w
  refine W_seq ?_
  refine W_region ?_
  refine op_box (v := .agg _) rfl rfl ?_
  intro w0_0 b0_0 E0_0 B0_0 L0_0
  have hG0_0 : w.heap.size ≤ b0_0 := by have := hX.size; omega
  replace hX := hX.trans E0_0
  refine op rfl (r_assignV (v := .bool _) rfl) ?_
  refine WL_nil ?_
  refine W_seq ?_
  refine W_region ?_
  refine op rfl (r_fieldAddr rfl Try.fld24_0 rfl) ?_
  refine op rfl (r_load (v := .int _ _) rfl Try.underlying3 rfl (Blk.cell B0_0 rfl)) ?_
  refine op rfl (r_geq rfl rfl) ?_
  refine op_split rfl (r_moveV (v := .bool (decide _)) rfl) (fun hg6 => ?_) (fun hg6 => ?_)
  · refine opG_yes rfl rfl rfl rfl rfl (r_fieldAddr rfl Try.fld24_0 rfl) ?_
    refine opG_yes rfl rfl rfl rfl rfl (r_load (v := .int _ _) rfl Try.underlying3 rfl (Blk.cell B0_0 rfl)) ?_
    refine opG_yes rfl rfl rfl rfl rfl (r_leq rfl rfl) ?_
    refine op rfl (r_pickTV (v := .bool _) rfl rfl) ?_
    refine op_split rfl (r_moveV (v := .bool (decide _)) rfl) (fun hg11 => ?_) (fun hg11 => ?_)
    · refine opG_yes rfl rfl rfl rfl rfl (r_fieldAddr rfl Try.fld24_1 rfl) ?_
      refine opG_yes rfl rfl rfl rfl rfl (r_load (v := .int _ _) rfl Try.underlying3 rfl (Blk.cell B0_0 rfl)) ?_
      refine opG_yes rfl rfl rfl rfl rfl (r_geq rfl rfl) ?_
      refine op rfl (r_pickTV (v := .bool _) rfl rfl) ?_
      refine op_split rfl (r_moveV (v := .bool (decide _)) rfl) (fun hg16 => ?_) (fun hg16 => ?_)
      · refine opG_yes rfl rfl rfl rfl rfl (r_fieldAddr rfl Try.fld24_1 rfl) ?_
        refine opG_yes rfl rfl rfl rfl rfl (r_load (v := .int _ _) rfl Try.underlying3 rfl (Blk.cell B0_0 rfl)) ?_
        refine opG_yes rfl rfl rfl rfl rfl (r_leq rfl rfl) ?_
        refine op rfl (r_pickTV (v := .bool _) rfl rfl) ?_
        refine op_split rfl (r_moveV (v := .bool (decide _)) rfl) (fun hg21 => ?_) (fun hg21 => ?_)
        · refine opG_yes rfl rfl rfl rfl rfl (r_fieldAddr rfl Try.fld24_2 rfl) ?_
          refine opG_yes rfl rfl rfl rfl rfl (r_load (v := .int _ _) rfl Try.underlying3 rfl (Blk.cell B0_0 rfl)) ?_
          refine opG_yes rfl rfl rfl rfl rfl (r_geq rfl rfl) ?_
          refine op rfl (r_pickTV (v := .bool _) rfl rfl) ?_
          refine op_split rfl (r_moveV (v := .bool (decide _)) rfl) (fun hg26 => ?_) (fun hg26 => ?_)
          · refine opG_yes rfl rfl rfl rfl rfl (r_fieldAddr rfl Try.fld24_2 rfl) ?_
            refine opG_yes rfl rfl rfl rfl rfl (r_load (v := .int _ _) rfl Try.underlying3 rfl (Blk.cell B0_0 rfl)) ?_
            refine opG_yes rfl rfl rfl rfl rfl (r_leq rfl rfl) ?_
            refine op rfl (r_pickTV (v := .bool _) rfl rfl) ?_
            refine op rfl (r_assignV (v := .bool _) rfl) ?_
            refine WL_nil ?_
            refine W_ret (finX_ret ?_)
            refine fin1 ?_
            exact ⟨_, rfl, by first | exact bool_tt (by unfold Lim.May; omega) | exact bool_ff (by unfold Lim.May; omega) | exact bool_iff (by unfold Lim.May; omega), hX⟩
          · refine opG_no rfl rfl rfl rfl rfl ?_
            refine opG_no rfl rfl rfl rfl rfl ?_
            refine opG_no rfl rfl rfl rfl rfl ?_
            refine op rfl (r_pickFV (v := .bool _) rfl rfl) ?_
            refine op rfl (r_assignV (v := .bool _) rfl) ?_
            refine WL_nil ?_
            refine W_ret (finX_ret ?_)
            refine fin1 ?_
            exact ⟨_, rfl, by first | exact bool_tt (by unfold Lim.May; omega) | exact bool_ff (by unfold Lim.May; omega) | exact bool_iff (by unfold Lim.May; omega), hX⟩
        · refine opG_no rfl rfl rfl rfl rfl ?_
          refine opG_no rfl rfl rfl rfl rfl ?_
          refine opG_no rfl rfl rfl rfl rfl ?_
          refine op rfl (r_pickFV (v := .bool _) rfl rfl) ?_
          refine op rfl (r_moveV (v := .bool _) rfl) ?_
          refine opG_no rfl rfl rfl rfl rfl ?_
          refine opG_no rfl rfl rfl rfl rfl ?_
          refine opG_no rfl rfl rfl rfl rfl ?_
          refine op rfl (r_pickFV (v := .bool _) rfl rfl) ?_
          refine op rfl (r_assignV (v := .bool _) rfl) ?_
          refine WL_nil ?_
          refine W_ret (finX_ret ?_)
          refine fin1 ?_
          exact ⟨_, rfl, by first | exact bool_tt (by unfold Lim.May; omega) | exact bool_ff (by unfold Lim.May; omega) | exact bool_iff (by unfold Lim.May; omega), hX⟩
      · refine opG_no rfl rfl rfl rfl rfl ?_
        refine opG_no rfl rfl rfl rfl rfl ?_
        refine opG_no rfl rfl rfl rfl rfl ?_
        refine op rfl (r_pickFV (v := .bool _) rfl rfl) ?_
        refine op rfl (r_moveV (v := .bool _) rfl) ?_
        refine opG_no rfl rfl rfl rfl rfl ?_
        refine opG_no rfl rfl rfl rfl rfl ?_
        refine opG_no rfl rfl rfl rfl rfl ?_
        refine op rfl (r_pickFV (v := .bool _) rfl rfl) ?_
        refine op rfl (r_moveV (v := .bool _) rfl) ?_
        refine opG_no rfl rfl rfl rfl rfl ?_
        refine opG_no rfl rfl rfl rfl rfl ?_
        refine opG_no rfl rfl rfl rfl rfl ?_
        refine op rfl (r_pickFV (v := .bool _) rfl rfl) ?_
        refine op rfl (r_assignV (v := .bool _) rfl) ?_
        refine WL_nil ?_
        refine W_ret (finX_ret ?_)
        refine fin1 ?_
        exact ⟨_, rfl, by first | exact bool_tt (by unfold Lim.May; omega) | exact bool_ff (by unfold Lim.May; omega) | exact bool_iff (by unfold Lim.May; omega), hX⟩
    · refine opG_no rfl rfl rfl rfl rfl ?_
      refine opG_no rfl rfl rfl rfl rfl ?_
      refine opG_no rfl rfl rfl rfl rfl ?_
      refine op rfl (r_pickFV (v := .bool _) rfl rfl) ?_
      refine op rfl (r_moveV (v := .bool _) rfl) ?_
      refine opG_no rfl rfl rfl rfl rfl ?_
      refine opG_no rfl rfl rfl rfl rfl ?_
      refine opG_no rfl rfl rfl rfl rfl ?_
      refine op rfl (r_pickFV (v := .bool _) rfl rfl) ?_
      refine op rfl (r_moveV (v := .bool _) rfl) ?_
      refine opG_no rfl rfl rfl rfl rfl ?_
      refine opG_no rfl rfl rfl rfl rfl ?_
      refine opG_no rfl rfl rfl rfl rfl ?_
      refine op rfl (r_pickFV (v := .bool _) rfl rfl) ?_
      refine op rfl (r_moveV (v := .bool _) rfl) ?_
      refine opG_no rfl rfl rfl rfl rfl ?_
      refine opG_no rfl rfl rfl rfl rfl ?_
      refine opG_no rfl rfl rfl rfl rfl ?_
      refine op rfl (r_pickFV (v := .bool _) rfl rfl) ?_
      refine op rfl (r_assignV (v := .bool _) rfl) ?_
      refine WL_nil ?_
      refine W_ret (finX_ret ?_)
      refine fin1 ?_
      exact ⟨_, rfl, by first | exact bool_tt (by unfold Lim.May; omega) | exact bool_ff (by unfold Lim.May; omega) | exact bool_iff (by unfold Lim.May; omega), hX⟩
  · refine opG_no rfl rfl rfl rfl rfl ?_
    refine opG_no rfl rfl rfl rfl rfl ?_
    refine opG_no rfl rfl rfl rfl rfl ?_
    refine op rfl (r_pickFV (v := .bool _) rfl rfl) ?_
    refine op rfl (r_moveV (v := .bool _) rfl) ?_
    refine opG_no rfl rfl rfl rfl rfl ?_
    refine opG_no rfl rfl rfl rfl rfl ?_
    refine opG_no rfl rfl rfl rfl rfl ?_
    refine op rfl (r_pickFV (v := .bool _) rfl rfl) ?_
    refine op rfl (r_moveV (v := .bool _) rfl) ?_
    refine opG_no rfl rfl rfl rfl rfl ?_
    refine opG_no rfl rfl rfl rfl rfl ?_
    refine opG_no rfl rfl rfl rfl rfl ?_
    refine op rfl (r_pickFV (v := .bool _) rfl rfl) ?_
    refine op rfl (r_moveV (v := .bool _) rfl) ?_
    refine opG_no rfl rfl rfl rfl rfl ?_
    refine opG_no rfl rfl rfl rfl rfl ?_
    refine opG_no rfl rfl rfl rfl rfl ?_
    refine op rfl (r_pickFV (v := .bool _) rfl rfl) ?_
    refine op rfl (r_moveV (v := .bool _) rfl) ?_
    refine opG_no rfl rfl rfl rfl rfl ?_
    refine opG_no rfl rfl rfl rfl rfl ?_
    refine opG_no rfl rfl rfl rfl rfl ?_
    refine op rfl (r_pickFV (v := .bool _) rfl rfl) ?_
    refine op rfl (r_assignV (v := .bool _) rfl) ?_
    refine WL_nil ?_
    refine W_ret (finX_ret ?_)
    refine fin1 ?_
    exact ⟨_, rfl, by first | exact bool_tt (by unfold Lim.May; omega) | exact bool_ff (by unfold Lim.May; omega) | exact bool_iff (by unfold Lim.May; omega), hX⟩
def Lim.bound (m : Lim) : Int := if m.May then (m.retries + 1) * (m.review + m.backoff) else 0
theorem bound_spec (m : Lim) (w : World) : Calls Try.prog 14 #[m.val] w (fun en w' => ∃ v, en = .returned v ∧ v = .int .i64 m.bound ∧ Ext w w') := by
  refine calls' (n := 15) (rs := #[.tmp 2]) (l := [m.val]) Try.func14 rfl rfl rfl rfl rfl ?_
  have hX := Ext.refl w
  refine W_seq ?_
  refine W_region ?_
  refine op_box (v := .agg _) rfl rfl ?_
  intro w0_0 b0_0 E0_0 B0_0 L0_0
  have hG0_0 : w.heap.size ≤ b0_0 := by have := hX.size; omega
  replace hX := hX.trans E0_0
  refine op rfl (r_assignV (v := .int _ _) rfl) ?_
  refine WL_nil ?_
  refine W_seq ?_
  refine W_seq ?_
  refine W_region ?_
  refine op rfl (r_loadRow rfl B0_0 Try.underlying24 rfl Try.sz24) ?_
  refine opCv rfl (r_call Try.func15 Try.nm15 rfl) (may_spec m _) ?_
  rintro v w2 ⟨rfl, hE⟩
  replace B0_0 := Blk.ext B0_0 hE
  replace hX := hX.trans hE
  refine op rfl (r_notP rfl) ?_
  refine WL_nil ?_
  refine W_ifp rfl (fun ht5 => ?_) (fun ht5 => ?_)
  · refine W_seq ?_
    refine W_region ?_
    refine op rfl (r_assignV (v := .int _ _) rfl) ?_
    refine WL_nil ?_
    refine W_ret (finX_ret ?_)
    refine fin1 ?_
    exact ⟨_, rfl, by unfold Lim.bound; rw [if_neg ht5]; rfl, hX⟩
  · have hm : m.May := Classical.byContradiction ht5
    have hm' := hm
    unfold Lim.May at hm'
    have hmul : (m.retries + 1) * (m.review + m.backoff) ≤ 101 * 2147483648 := Int.mul_le_mul (by omega) (by omega) (by omega) (by omega)
    have hmul0 : 0 ≤ (m.retries + 1) * (m.review + m.backoff) := Int.mul_nonneg (by omega) (by omega)
    refine W_skip ?_
    refine W_seq ?_
    refine W_region ?_
    refine op rfl (r_fieldAddr rfl Try.fld24_0 rfl) ?_
    refine op rfl (r_load (v := .int _ _) rfl Try.underlying3 rfl (Blk.cell B0_0 rfl)) ?_
    refine op rfl (r_add' rfl rfl (wrap_i64 (by omega) (by omega))) ?_
    refine op rfl (r_fieldAddr rfl Try.fld24_1 rfl) ?_
    refine op rfl (r_load (v := .int _ _) rfl Try.underlying3 rfl (Blk.cell B0_0 rfl)) ?_
    refine op rfl (r_fieldAddr rfl Try.fld24_2 rfl) ?_
    refine op rfl (r_load (v := .int _ _) rfl Try.underlying3 rfl (Blk.cell B0_0 rfl)) ?_
    refine op rfl (r_add' rfl rfl (wrap_i64 (by omega) (by omega))) ?_
    refine op rfl (r_mul' rfl rfl (wrap_i64 (by omega) (by omega))) ?_
    refine op rfl (r_assignV (v := .int _ _) rfl) ?_
    refine WL_nil ?_
    refine W_ret (finX_ret ?_)
    refine fin1 ?_
    exact ⟨_, rfl, by unfold Lim.bound; rw [if_pos hm]; rfl, hX⟩
/-- How many powers of two. -/
def pw (t : Int) : Nat := (max 1 (min t 31) - 1).toNat
theorem pw_le (t : Int) : pw t ≤ 30 := by unfold pw; omega
theorem pw_eq (t : Int) : max 1 (min t 31) - 1 = (pw t : Int) := by unfold pw; omega
def Lim.pause (m : Lim) (t : Int) : Int := min m.backoff ((2 ^ pw t : Nat) : Int)
theorem pw_pos (k : Nat) (h : k ≤ 30) : (1 : Nat) ≤ 2 ^ k ∧ 2 ^ k ≤ 1073741824 := ⟨Nat.one_le_two_pow, Nat.pow_le_pow_right (by decide) h⟩
theorem pause_spec (m : Lim) (t : Int) (w : World) : Calls Try.prog 17 #[m.val, .int .i64 t] w (fun en w' => ∃ v, en = .returned v ∧ v = .int .i64 (m.pause t) ∧ Ext w w') := by
  have hk := pw_le t
  have he := pw_eq t
  obtain ⟨h1, h2⟩ := pw_pos (pw t) hk
  refine calls' (n := 13) (rs := #[.tmp 4]) (l := [m.val, .int .i64 t]) Try.func17 rfl rfl rfl rfl rfl ?_
  have hX := Ext.refl w
  refine W_seq ?_
  refine W_region ?_
  refine op_box (v := .agg _) rfl rfl ?_
  intro w0_0 b0_0 E0_0 B0_0 L0_0
  have hG0_0 : w.heap.size ≤ b0_0 := by have := hX.size; omega
  replace hX := hX.trans E0_0
  refine op rfl (r_assignV (v := .int _ _) rfl) ?_
  refine WL_nil ?_
  refine W_seq ?_
  refine W_drawF (W0 := w) (fun b : Nat => b = b0_0 ∨ False) Try.wd rfl ?_
  intro wd1 hD
  replace B0_0 := Blk.ext B0_0 hD
  replace hX := hX.trans hD
  have DB0_0 := B0_0
  have hS : Ext w wd1 ∧ Same (fun b : Nat => b = b0_0 ∨ False) wd1 wd1 := ⟨hX, fun _ _ => rfl⟩
  refine A_take (i := 0) rfl (by kernel_rfl) (by kernel_rfl) (by kernel_rfl) rfl hS (fun _ hw => r_fieldAddr rfl Try.fld24_2 rfl) ?_
  refine A_take (i := 1) rfl (by kernel_rfl) (by kernel_rfl) (by kernel_rfl) rfl hS (fun _ hw => r_load (v := .int _ _) rfl Try.underlying3 rfl (Blk.cell (Blk.at DB0_0 (hw.2 _ (Or.inl rfl))) rfl)) ?_
  refine A_take (i := 2) rfl (by kernel_rfl) (by kernel_rfl) (by kernel_rfl) rfl hS (fun _ hw => r_moveV (v := .int _ _) rfl) ?_
  refine A_take (i := 3) rfl (by kernel_rfl) (by kernel_rfl) (by kernel_rfl) rfl hS (fun _ hw => r_min' rfl rfl rfl) ?_
  refine A_take (i := 4) rfl (by kernel_rfl) (by kernel_rfl) (by kernel_rfl) rfl hS (fun _ hw => r_max' rfl rfl rfl) ?_
  refine A_take (i := 5) rfl (by kernel_rfl) (by kernel_rfl) (by kernel_rfl) rfl hS (fun _ hw => r_sub' rfl rfl ((wrap_i64 (by omega) (by omega)).trans he)) ?_
  refine A_take (i := 6) rfl (by kernel_rfl) (by kernel_rfl) (by kernel_rfl) rfl hS (fun _ hw => r_shl' (r := ((2 ^ pw t : Nat) : Int)) rfl rfl (Int.natCast_nonneg _) (by
        have hm : min (pw t : Int).toNat (IntKind.bits .i64) = pw t := by simp [IntKind.bits]; omega
        rw [hm, Int.one_mul, wrap_i64 (Int.le_trans (by decide) (Int.le_of_lt (Int.pow_pos (by decide)))) (by
          have : ((2 : Int) ^ pw t) = ((2 ^ pw t : Nat) : Int) := by simp
          omega)]
        simp)) ?_
  refine A_take (i := 7) rfl (by kernel_rfl) (by kernel_rfl) (by kernel_rfl) rfl hS (fun _ hw => r_min' rfl rfl rfl) ?_
  refine A_take (i := 8) rfl (by kernel_rfl) (by kernel_rfl) (by kernel_rfl) rfl hS (fun _ hw => r_assignV (v := .int _ _) rfl) ?_
  refine A_done (by kernel_rfl) ?_
  refine W_ret (finX_ret ?_)
  refine fin1 ?_
  exact ⟨_, rfl, rfl, hX⟩
def inc (t : Int) : Int := IntKind.wrap .i64 (t + 1)
def dec (t : Int) : Int := IntKind.wrap .i64 (t - 1)
def Lf.to (x : Lf) (s : Int) : Lf := { x with state := s, wait := 0, request := 0 }
def Lf.given (x : Lf) (why : Int) : Lf := { x.to 7 with why := why }
def Lf.done (x : Lf) (n : Int) : Lf := { x.to 6 with rev := n }
def Lf.made (x : Lf) (m : Lim) : Lf := { x.to 2 with wait := m.review }
def Lf.sent (x : Lf) (n : Int) : Lf := { x.to 4 with request := n }
def Lf.again (x : Lf) (m : Lim) : Lf :=
  if inc x.tries > m.retries then { x with tries := inc x.tries }.given 3
  else if m.pause (inc x.tries) = 0 then { x with tries := inc x.tries }.to 1
  else { { x with tries := inc x.tries }.to 5 with wait := m.pause (inc x.tries) }
def Lf.tick (x : Lf) (f : Lf → Lf) : Lf := if dec x.wait > 0 then { x with wait := dec x.wait, request := 0 } else f { x with wait := dec x.wait }

theorem to_spec (s : Int) (w : World) : Calls Try.prog 22 #[.int .i64 s] w (fun en w' => ∃ v, en = .returned v ∧ ∃ bs, v = .func (.func 29) #[] #[.pointer (some ⟨bs, 0, none⟩)] ∧ Ext w w' ∧ Blk w' bs #[.int .i64 s] 3 ∧ w.heap.size ≤ bs) := by
  refine calls' (n := 4) (rs := #[.tmp 2]) (l := [.int .i64 s]) Try.func22 rfl rfl rfl rfl rfl ?_
  have hX := Ext.refl w
  refine W_seq ?_
  refine W_region ?_
  refine op_box (v := .int _ _) rfl rfl ?_
  intro w0_0 b0_0 E0_0 B0_0 L0_0
  have hG0_0 : w.heap.size ≤ b0_0 := by have := hX.size; omega
  replace hX := hX.trans E0_0
  refine op rfl (r_assignV (v := .nilFunc) rfl) ?_
  refine WL_nil ?_
  refine W_seq ?_
  refine W_region ?_
  refine op rfl (r_makeFunc) ?_
  refine op rfl (r_assignV (v := .func (.func 29) #[] #[.pointer (some ⟨b0_0, 0, none⟩)]) rfl) ?_
  refine WL_nil ?_
  refine W_ret (finX_ret ?_)
  refine fin1 ?_
  exact ⟨_, rfl, b0_0, rfl, hX, B0_0, hG0_0⟩
theorem given_spec (s : Int) (w : World) : Calls Try.prog 23 #[.int .i64 s] w (fun en w' => ∃ v, en = .returned v ∧ ∃ bs, v = .func (.func 30) #[] #[.pointer (some ⟨bs, 0, none⟩)] ∧ Ext w w' ∧ Blk w' bs #[.int .i64 s] 3 ∧ w.heap.size ≤ bs) := by
  refine calls' (n := 4) (rs := #[.tmp 2]) (l := [.int .i64 s]) Try.func23 rfl rfl rfl rfl rfl ?_
  have hX := Ext.refl w
  refine W_seq ?_
  refine W_region ?_
  refine op_box (v := .int _ _) rfl rfl ?_
  intro w0_0 b0_0 E0_0 B0_0 L0_0
  have hG0_0 : w.heap.size ≤ b0_0 := by have := hX.size; omega
  replace hX := hX.trans E0_0
  refine op rfl (r_assignV (v := .nilFunc) rfl) ?_
  refine WL_nil ?_
  refine W_seq ?_
  refine W_region ?_
  refine op rfl (r_makeFunc) ?_
  refine op rfl (r_assignV (v := .func (.func 30) #[] #[.pointer (some ⟨b0_0, 0, none⟩)]) rfl) ?_
  refine WL_nil ?_
  refine W_ret (finX_ret ?_)
  refine fin1 ?_
  exact ⟨_, rfl, b0_0, rfl, hX, B0_0, hG0_0⟩
theorem to1_spec (bs : Nat) (s : Int) (m : Lim) (x : Lf) (n : Int) (w : World) (Bs : Blk w bs #[.int .i64 s] 3) : Calls Try.prog 29 #[m.val, x.val, .int .i64 n, .pointer (some ⟨bs, 0, none⟩)] w (fun en w' => ∃ v, en = .returned v ∧ v = (x.to s).val ∧ Ext w w') := by
  refine calls' (n := 13) (rs := #[.cell 7 27]) (l := [m.val, x.val, .int .i64 n, .pointer (some ⟨bs, 0, none⟩)]) Try.func29 rfl rfl rfl rfl rfl ?_
  have hX := Ext.refl w
  refine W_seq ?_
  refine W_region ?_
  refine op_box (v := .agg _) rfl rfl ?_
  intro w0_0 b0_0 E0_0 B0_0 L0_0
  have hG0_0 : w.heap.size ≤ b0_0 := by have := hX.size; omega
  have hNbs_0_0 : bs ≠ b0_0 := by have := Blk.lt Bs; omega
  replace Bs := Blk.ext Bs E0_0
  replace hX := hX.trans E0_0
  refine op_box (v := .agg _) rfl rfl ?_
  intro w0_1 b0_1 E0_1 B0_1 L0_1
  have hG0_1 : w.heap.size ≤ b0_1 := by have := hX.size; omega
  have hNbs_0_1 : bs ≠ b0_1 := by have := Blk.lt Bs; omega
  replace Bs := Blk.ext Bs E0_1
  have hNb0_0_0_1 : b0_0 ≠ b0_1 := by have := Blk.lt B0_0; omega
  replace B0_0 := Blk.ext B0_0 E0_1
  replace hX := hX.trans E0_1
  refine op_alloc rfl Try.zero27 ?_
  intro w0_2 b0_2 E0_2 B0_2 L0_2
  have hG0_2 : w.heap.size ≤ b0_2 := by have := hX.size; omega
  have hNbs_0_2 : bs ≠ b0_2 := by have := Blk.lt Bs; omega
  replace Bs := Blk.ext Bs E0_2
  have hNb0_0_0_2 : b0_0 ≠ b0_2 := by have := Blk.lt B0_0; omega
  replace B0_0 := Blk.ext B0_0 E0_2
  have hNb0_1_0_2 : b0_1 ≠ b0_2 := by have := Blk.lt B0_1; omega
  replace B0_1 := Blk.ext B0_1 E0_2
  replace hX := hX.trans E0_2
  refine WL_nil ?_
  refine W_seq ?_
  refine W_region ?_
  refine op rfl (r_load (v := .int _ _) rfl Try.underlying3 rfl (Blk.cell Bs rfl)) ?_
  refine op rfl (r_fieldAddr rfl Try.fld27_0 rfl) ?_
  refine op_store (v := .int _ _) rfl rfl rfl Try.sz3 B0_1 (Nat.le_of_ble_eq_true rfl) ?_
  intro w1_2 C1_2 BB1_2
  replace Bs := Chg.blk C1_2 Bs hNbs_0_1
  replace B0_0 := Chg.blk C1_2 B0_0 hNb0_0_0_1
  replace B0_2 := Chg.blk C1_2 B0_2 (fun q => hNb0_1_0_2 q.symm)
  replace hX := hX.chg C1_2 hG0_1
  replace B0_1 := BB1_2
  refine op rfl (r_fieldAddr rfl Try.fld27_3 rfl) ?_
  refine op_store (v := .int _ _) rfl rfl rfl Try.sz3 B0_1 (Nat.le_of_ble_eq_true rfl) ?_
  intro w1_4 C1_4 BB1_4
  replace Bs := Chg.blk C1_4 Bs hNbs_0_1
  replace B0_0 := Chg.blk C1_4 B0_0 hNb0_0_0_1
  replace B0_2 := Chg.blk C1_4 B0_2 (fun q => hNb0_1_0_2 q.symm)
  replace hX := hX.chg C1_4 hG0_1
  replace B0_1 := BB1_4
  refine op rfl (r_fieldAddr rfl Try.fld27_4 rfl) ?_
  refine op_store (v := .int _ _) rfl rfl rfl Try.sz3 B0_1 (Nat.le_of_ble_eq_true rfl) ?_
  intro w1_6 C1_6 BB1_6
  replace Bs := Chg.blk C1_6 Bs hNbs_0_1
  replace B0_0 := Chg.blk C1_6 B0_0 hNb0_0_0_1
  replace B0_2 := Chg.blk C1_6 B0_2 (fun q => hNb0_1_0_2 q.symm)
  replace hX := hX.chg C1_6 hG0_1
  replace B0_1 := BB1_6
  refine WL_nil ?_
  refine W_seq ?_
  refine W_region ?_
  refine op rfl (r_loadRow rfl B0_1 Try.underlying27 rfl Try.sz27) ?_
  refine op_storeRow rfl rfl Try.sz27 B0_2 rfl rfl ?_
  intro w2_1 C2_1 BB2_1
  replace Bs := Chg.blk C2_1 Bs hNbs_0_2
  replace B0_0 := Chg.blk C2_1 B0_0 hNb0_0_0_2
  replace B0_1 := Chg.blk C2_1 B0_1 hNb0_1_0_2
  replace hX := hX.chg C2_1 hG0_2
  replace B0_2 := BB2_1
  refine WL_nil ?_
  refine W_ret (finX_ret ?_)
  refine fin_cell rfl B0_2 Try.underlying27 rfl Try.sz27 ?_
  exact ⟨_, rfl, rfl, hX⟩
theorem given1_spec (bs : Nat) (s : Int) (m : Lim) (x : Lf) (n : Int) (w : World) (Bs : Blk w bs #[.int .i64 s] 3) : Calls Try.prog 30 #[m.val, x.val, .int .i64 n, .pointer (some ⟨bs, 0, none⟩)] w (fun en w' => ∃ v, en = .returned v ∧ v = (x.given s).val ∧ Ext w w') := by
  refine calls' (n := 16) (rs := #[.cell 7 27]) (l := [m.val, x.val, .int .i64 n, .pointer (some ⟨bs, 0, none⟩)]) Try.func30 rfl rfl rfl rfl rfl ?_
  have hX := Ext.refl w
  refine W_seq ?_
  refine W_region ?_
  refine op_box (v := .agg _) rfl rfl ?_
  intro w0_0 b0_0 E0_0 B0_0 L0_0
  have hG0_0 : w.heap.size ≤ b0_0 := by have := hX.size; omega
  have hNbs_0_0 : bs ≠ b0_0 := by have := Blk.lt Bs; omega
  replace Bs := Blk.ext Bs E0_0
  replace hX := hX.trans E0_0
  refine op_box (v := .agg _) rfl rfl ?_
  intro w0_1 b0_1 E0_1 B0_1 L0_1
  have hG0_1 : w.heap.size ≤ b0_1 := by have := hX.size; omega
  have hNbs_0_1 : bs ≠ b0_1 := by have := Blk.lt Bs; omega
  replace Bs := Blk.ext Bs E0_1
  have hNb0_0_0_1 : b0_0 ≠ b0_1 := by have := Blk.lt B0_0; omega
  replace B0_0 := Blk.ext B0_0 E0_1
  replace hX := hX.trans E0_1
  refine op_alloc rfl Try.zero27 ?_
  intro w0_2 b0_2 E0_2 B0_2 L0_2
  have hG0_2 : w.heap.size ≤ b0_2 := by have := hX.size; omega
  have hNbs_0_2 : bs ≠ b0_2 := by have := Blk.lt Bs; omega
  replace Bs := Blk.ext Bs E0_2
  have hNb0_0_0_2 : b0_0 ≠ b0_2 := by have := Blk.lt B0_0; omega
  replace B0_0 := Blk.ext B0_0 E0_2
  have hNb0_1_0_2 : b0_1 ≠ b0_2 := by have := Blk.lt B0_1; omega
  replace B0_1 := Blk.ext B0_1 E0_2
  replace hX := hX.trans E0_2
  refine WL_nil ?_
  refine W_seq ?_
  refine W_drawF (W0 := w) (fun b : Nat => b = bs ∨ b = b0_0 ∨ b = b0_2 ∨ False) Try.wd rfl ?_
  intro wd1 hD
  replace Bs := Blk.ext Bs hD
  replace B0_0 := Blk.ext B0_0 hD
  replace B0_1 := Blk.ext B0_1 hD
  replace B0_2 := Blk.ext B0_2 hD
  replace hX := hX.trans hD
  have DBs := Bs
  have DB0_0 := B0_0
  have DB0_2 := B0_2
  have hS : Ext w wd1 ∧ Same (fun b : Nat => b = bs ∨ b = b0_0 ∨ b = b0_2 ∨ False) wd1 wd1 := ⟨hX, fun _ _ => rfl⟩
  refine A_take (i := 1) rfl (by kernel_rfl) (by kernel_rfl) (by kernel_rfl) rfl hS (fun _ hw => r_loadRow rfl (Blk.at DB0_0 (hw.2 _ (Or.inr (Or.inl rfl)))) Try.underlying24 rfl Try.sz24) ?_
  refine A_take (i := 3) rfl (by kernel_rfl) (by kernel_rfl) (by kernel_rfl) rfl hS (fun _ hw => r_moveV (v := .int _ _) rfl) ?_
  refine A_ready2 (i := 0) (j := 2) (by kernel_rfl) ?_ ?_
  · refine O_call rfl rfl (r_call Try.func22 Try.nm22 rfl) (to_spec 7 _) ?_
    rintro v w2 ⟨bt, rfl, hE, hB, _⟩
    replace Bs := Blk.ext Bs hE
    replace B0_0 := Blk.ext B0_0 hE
    replace B0_1 := Blk.ext B0_1 hE
    replace B0_2 := Blk.ext B0_2 hE
    replace hX := hX.trans hE
    replace hS : Ext w w2 ∧ Same (fun b : Nat => b = bs ∨ b = b0_0 ∨ b = b0_2 ∨ False) wd1 w2 := ⟨hX, fun b hb => Or.elim hb (fun q => by subst q; exact Blk.eq Bs DBs) (fun hb => Or.elim hb (fun q => by subst q; exact Blk.eq B0_0 DB0_0) (fun hb => Or.elim hb (fun q => by subst q; exact Blk.eq B0_2 DB0_2) (fun hb => hb.elim)))⟩
    refine ⟨hS, ?_⟩
    refine A_ready1 (i := 2) (by kernel_rfl) ?_
    refine O_val rfl rfl (r_loadRow rfl B0_1 Try.underlying27 rfl Try.sz27) (hS) ?_
    refine A_ready1 (i := 4) (by kernel_rfl) ?_
    refine O_call rfl rfl (r_callV (lb := [.pointer (some ⟨bt, 0, none⟩)]) rfl Try.func29 Try.nm29 rfl) (to1_spec bt 7 m x n _ hB) ?_
    rintro v w3 ⟨rfl, hE⟩
    replace Bs := Blk.ext Bs hE
    replace B0_0 := Blk.ext B0_0 hE
    replace B0_1 := Blk.ext B0_1 hE
    replace B0_2 := Blk.ext B0_2 hE
    replace hX := hX.trans hE
    replace hS : Ext w w3 ∧ Same (fun b : Nat => b = bs ∨ b = b0_0 ∨ b = b0_2 ∨ False) wd1 w3 := ⟨hX, fun b hb => Or.elim hb (fun q => by subst q; exact Blk.eq Bs DBs) (fun hb => Or.elim hb (fun q => by subst q; exact Blk.eq B0_0 DB0_0) (fun hb => Or.elim hb (fun q => by subst q; exact Blk.eq B0_2 DB0_2) (fun hb => hb.elim)))⟩
    refine ⟨hS, ?_⟩
    refine A_ready1 (i := 5) (by kernel_rfl) ?_
    refine O_storeRow rfl rfl rfl Try.sz27 B0_1 rfl rfl ?_
    intro w1_5 C1_5 BB1_5
    replace Bs := Chg.blk C1_5 Bs hNbs_0_1
    replace B0_0 := Chg.blk C1_5 B0_0 hNb0_0_0_1
    replace B0_2 := Chg.blk C1_5 B0_2 (fun q => hNb0_1_0_2 q.symm)
    replace hX := hX.chg C1_5 hG0_1
    replace B0_1 := BB1_5
    replace hS : Ext w w1_5 ∧ Same (fun b : Nat => b = bs ∨ b = b0_0 ∨ b = b0_2 ∨ False) wd1 w1_5 := ⟨hX, fun b hb => Or.elim hb (fun q => by subst q; exact Blk.eq Bs DBs) (fun hb => Or.elim hb (fun q => by subst q; exact Blk.eq B0_0 DB0_0) (fun hb => Or.elim hb (fun q => by subst q; exact Blk.eq B0_2 DB0_2) (fun hb => hb.elim)))⟩
    refine ⟨hS, ?_⟩
    refine A_done (by kernel_rfl) ?_
    refine W_seq ?_
    refine W_region ?_
    refine op rfl (r_load (v := .int _ _) rfl Try.underlying3 rfl (Blk.cell Bs rfl)) ?_
    refine op rfl (r_fieldAddr rfl Try.fld27_1 rfl) ?_
    refine op_store (v := .int _ _) rfl rfl rfl Try.sz3 B0_1 (Nat.le_of_ble_eq_true rfl) ?_
    intro w2_2 C2_2 BB2_2
    replace Bs := Chg.blk C2_2 Bs hNbs_0_1
    replace B0_0 := Chg.blk C2_2 B0_0 hNb0_0_0_1
    replace B0_2 := Chg.blk C2_2 B0_2 (fun q => hNb0_1_0_2 q.symm)
    replace hX := hX.chg C2_2 hG0_1
    replace B0_1 := BB2_2
    refine WL_nil ?_
    refine W_seq ?_
    refine W_region ?_
    refine op rfl (r_loadRow rfl B0_1 Try.underlying27 rfl Try.sz27) ?_
    refine op_storeRow rfl rfl Try.sz27 B0_2 rfl rfl ?_
    intro w3_1 C3_1 BB3_1
    replace Bs := Chg.blk C3_1 Bs hNbs_0_2
    replace B0_0 := Chg.blk C3_1 B0_0 hNb0_0_0_2
    replace B0_1 := Chg.blk C3_1 B0_1 hNb0_1_0_2
    replace hX := hX.chg C3_1 hG0_2
    replace B0_2 := BB3_1
    refine WL_nil ?_
    refine W_ret (finX_ret ?_)
    refine fin_cell rfl B0_2 Try.underlying27 rfl Try.sz27 ?_
    exact ⟨_, rfl, rfl, hX⟩
  · refine O_val rfl rfl (r_loadRow rfl B0_1 Try.underlying27 rfl Try.sz27) (hS) ?_
    refine A_ready1 (i := 0) (by kernel_rfl) ?_
    refine O_call rfl rfl (r_call Try.func22 Try.nm22 rfl) (to_spec 7 _) ?_
    rintro v w2 ⟨bt, rfl, hE, hB, _⟩
    replace Bs := Blk.ext Bs hE
    replace B0_0 := Blk.ext B0_0 hE
    replace B0_1 := Blk.ext B0_1 hE
    replace B0_2 := Blk.ext B0_2 hE
    replace hX := hX.trans hE
    replace hS : Ext w w2 ∧ Same (fun b : Nat => b = bs ∨ b = b0_0 ∨ b = b0_2 ∨ False) wd1 w2 := ⟨hX, fun b hb => Or.elim hb (fun q => by subst q; exact Blk.eq Bs DBs) (fun hb => Or.elim hb (fun q => by subst q; exact Blk.eq B0_0 DB0_0) (fun hb => Or.elim hb (fun q => by subst q; exact Blk.eq B0_2 DB0_2) (fun hb => hb.elim)))⟩
    refine ⟨hS, ?_⟩
    refine A_ready1 (i := 4) (by kernel_rfl) ?_
    refine O_call rfl rfl (r_callV (lb := [.pointer (some ⟨bt, 0, none⟩)]) rfl Try.func29 Try.nm29 rfl) (to1_spec bt 7 m x n _ hB) ?_
    rintro v w3 ⟨rfl, hE⟩
    replace Bs := Blk.ext Bs hE
    replace B0_0 := Blk.ext B0_0 hE
    replace B0_1 := Blk.ext B0_1 hE
    replace B0_2 := Blk.ext B0_2 hE
    replace hX := hX.trans hE
    replace hS : Ext w w3 ∧ Same (fun b : Nat => b = bs ∨ b = b0_0 ∨ b = b0_2 ∨ False) wd1 w3 := ⟨hX, fun b hb => Or.elim hb (fun q => by subst q; exact Blk.eq Bs DBs) (fun hb => Or.elim hb (fun q => by subst q; exact Blk.eq B0_0 DB0_0) (fun hb => Or.elim hb (fun q => by subst q; exact Blk.eq B0_2 DB0_2) (fun hb => hb.elim)))⟩
    refine ⟨hS, ?_⟩
    refine A_ready1 (i := 5) (by kernel_rfl) ?_
    refine O_storeRow rfl rfl rfl Try.sz27 B0_1 rfl rfl ?_
    intro w1_5 C1_5 BB1_5
    replace Bs := Chg.blk C1_5 Bs hNbs_0_1
    replace B0_0 := Chg.blk C1_5 B0_0 hNb0_0_0_1
    replace B0_2 := Chg.blk C1_5 B0_2 (fun q => hNb0_1_0_2 q.symm)
    replace hX := hX.chg C1_5 hG0_1
    replace B0_1 := BB1_5
    replace hS : Ext w w1_5 ∧ Same (fun b : Nat => b = bs ∨ b = b0_0 ∨ b = b0_2 ∨ False) wd1 w1_5 := ⟨hX, fun b hb => Or.elim hb (fun q => by subst q; exact Blk.eq Bs DBs) (fun hb => Or.elim hb (fun q => by subst q; exact Blk.eq B0_0 DB0_0) (fun hb => Or.elim hb (fun q => by subst q; exact Blk.eq B0_2 DB0_2) (fun hb => hb.elim)))⟩
    refine ⟨hS, ?_⟩
    refine A_done (by kernel_rfl) ?_
    refine W_seq ?_
    refine W_region ?_
    refine op rfl (r_load (v := .int _ _) rfl Try.underlying3 rfl (Blk.cell Bs rfl)) ?_
    refine op rfl (r_fieldAddr rfl Try.fld27_1 rfl) ?_
    refine op_store (v := .int _ _) rfl rfl rfl Try.sz3 B0_1 (Nat.le_of_ble_eq_true rfl) ?_
    intro w2_2 C2_2 BB2_2
    replace Bs := Chg.blk C2_2 Bs hNbs_0_1
    replace B0_0 := Chg.blk C2_2 B0_0 hNb0_0_0_1
    replace B0_2 := Chg.blk C2_2 B0_2 (fun q => hNb0_1_0_2 q.symm)
    replace hX := hX.chg C2_2 hG0_1
    replace B0_1 := BB2_2
    refine WL_nil ?_
    refine W_seq ?_
    refine W_region ?_
    refine op rfl (r_loadRow rfl B0_1 Try.underlying27 rfl Try.sz27) ?_
    refine op_storeRow rfl rfl Try.sz27 B0_2 rfl rfl ?_
    intro w3_1 C3_1 BB3_1
    replace Bs := Chg.blk C3_1 Bs hNbs_0_2
    replace B0_0 := Chg.blk C3_1 B0_0 hNb0_0_0_2
    replace B0_1 := Chg.blk C3_1 B0_1 hNb0_1_0_2
    replace hX := hX.chg C3_1 hG0_2
    replace B0_2 := BB3_1
    refine WL_nil ?_
    refine W_ret (finX_ret ?_)
    refine fin_cell rfl B0_2 Try.underlying27 rfl Try.sz27 ?_
    exact ⟨_, rfl, rfl, hX⟩
end Go.Proofs.Ytfocbkdoolnijaa
