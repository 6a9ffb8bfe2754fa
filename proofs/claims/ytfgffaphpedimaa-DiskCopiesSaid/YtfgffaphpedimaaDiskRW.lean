/-
  The walks of the chapter's own disk: what is small.
-/
import Derived.Test.YtfgffaphpedimaaFacts
import Derived.Test.YtfgffaphpedimaaDiskRM
namespace Go.Proofs.Ytfgffaphpedimaa
open Go Go.Eng Go.RowKit Go.Proofs
set_option linter.unusedVariables false
set_option linter.unusedSimpArgs false
set_option maxHeartbeats 1000000

theorem rmay_spec (D : Dk) (A : Option Addr) (c : Nat) (a : Int) (w : World) : Calls Try.prog 43 #[D.rv A c, .int .i64 a] w (fun en w' => ∃ v, en = .returned v ∧ v = .int .i64 (D.may a) ∧ Ext w w') := by
  refine calls' (n := 16) (rs := #[.tmp 4]) (l := [D.rv A c, .int .i64 a]) Try.func43 rfl rfl rfl rfl rfl ?_
  have hX := Ext.refl w
  refine W_seq ?_
  refine W_region ?_
  refine op_box (v := .agg _) rfl rfl ?_
  intro w0_0 b0_0 E0_0 B0_0 L0_0
  have hG0_0 : w.heap.size ≤ b0_0 := by have := hX.size; omega
  replace hX := hX.trans E0_0
  refine op rfl (r_assignV (v := .int _ _) rfl) ?_
  refine WL_nil ?_
  refine W_seq ?_
  refine W_seq ?_
  refine W_region ?_
  refine op rfl (r_moveV (v := .int _ _) rfl) ?_
  refine op rfl (r_lss rfl rfl) ?_
  refine op_split rfl (r_moveV (v := .bool (decide _)) rfl) (fun hg7 => ?_) (fun hg7 => ?_)
  · refine opG_no rfl rfl rfl rfl rfl ?_
    refine opG_no rfl rfl rfl rfl rfl ?_
    refine opG_no rfl rfl rfl rfl rfl ?_
    refine opG_no rfl rfl rfl rfl rfl ?_
    refine opG_no rfl rfl rfl rfl rfl ?_
    refine op rfl (r_pickTV (v := .bool _) rfl rfl) ?_
    refine WL_nil ?_
    refine W_then rfl ?_
    refine W_seq ?_
    refine W_region ?_
    refine op rfl (r_assignV (v := .int _ _) rfl) ?_
    refine WL_nil ?_
    refine W_ret (finX_ret ?_)
    refine fin1 ?_
    refine ⟨_, rfl, ?_, hX⟩
    first
      | exact congrArg (Value.int .i64) (show (2 : Int) = D.may a from by unfold Dk.may; rw [if_neg (by unfold Dk.there; omega)])
      | exact congrArg (Value.int .i64) (show (10 : Int) = D.may a from by unfold Dk.may; rw [if_pos (by unfold Dk.there; omega), if_pos ht15])
      | exact congrArg (Value.int .i64) (show (0 : Int) = D.may a from by unfold Dk.may; rw [if_pos (by unfold Dk.there; omega), if_neg (by rw [ht15]; exact Bool.false_ne_true)])
  · refine opG_yes rfl rfl rfl rfl rfl (r_moveV (v := .int _ _) rfl) ?_
    refine opG_yes rfl rfl rfl rfl rfl (r_fieldAddr rfl Try.fld40_0 rfl) ?_
    refine opG_yes rfl rfl rfl rfl rfl (r_load (v := .slice _ _ _) rfl Try.underlying38 rfl (Blk.cell B0_0 rfl)) ?_
    refine opG_yes rfl rfl rfl rfl rfl (r_len_slice rfl Try.underlying38) ?_
    refine opG_yes rfl rfl rfl rfl rfl (r_geq rfl rfl) ?_
    refine op rfl (r_pickFV (v := .bool _) rfl rfl) ?_
    refine WL_nil ?_
    refine W_ifp rfl (fun ht13 => ?_) (fun ht13 => ?_)
    · refine W_seq ?_
      refine W_region ?_
      refine op rfl (r_assignV (v := .int _ _) rfl) ?_
      refine WL_nil ?_
      refine W_ret (finX_ret ?_)
      refine fin1 ?_
      refine ⟨_, rfl, ?_, hX⟩
      first
        | exact congrArg (Value.int .i64) (show (2 : Int) = D.may a from by unfold Dk.may; rw [if_neg (by unfold Dk.there; omega)])
        | exact congrArg (Value.int .i64) (show (10 : Int) = D.may a from by unfold Dk.may; rw [if_pos (by unfold Dk.there; omega), if_pos ht15])
        | exact congrArg (Value.int .i64) (show (0 : Int) = D.may a from by unfold Dk.may; rw [if_pos (by unfold Dk.there; omega), if_neg (by rw [ht15]; exact Bool.false_ne_true)])
    · refine W_skip ?_
      refine W_seq ?_
      refine W_seq ?_
      refine W_region ?_
      refine op rfl (r_fieldAddr rfl Try.fld40_4 rfl) ?_
      refine op rfl (r_load (v := .bool _) rfl Try.underlying4 rfl (Blk.cell B0_0 rfl)) ?_
      refine WL_nil ?_
      refine W_if rfl (fun ht15 => ?_) (fun ht15 => ?_)
      · refine W_seq ?_
        refine W_region ?_
        refine op rfl (r_assignV (v := .int _ _) rfl) ?_
        refine WL_nil ?_
        refine W_ret (finX_ret ?_)
        refine fin1 ?_
        refine ⟨_, rfl, ?_, hX⟩
        first
          | exact congrArg (Value.int .i64) (show (2 : Int) = D.may a from by unfold Dk.may; rw [if_neg (by unfold Dk.there; omega)])
          | exact congrArg (Value.int .i64) (show (10 : Int) = D.may a from by unfold Dk.may; rw [if_pos (by unfold Dk.there; omega), if_pos ht15])
          | exact congrArg (Value.int .i64) (show (0 : Int) = D.may a from by unfold Dk.may; rw [if_pos (by unfold Dk.there; omega), if_neg (by rw [ht15]; exact Bool.false_ne_true)])
      · refine W_skip ?_
        refine W_seq ?_
        refine W_region ?_
        refine op rfl (r_assignV (v := .int _ _) rfl) ?_
        refine WL_nil ?_
        refine W_ret (finX_ret ?_)
        refine fin1 ?_
        refine ⟨_, rfl, ?_, hX⟩
        first
          | exact congrArg (Value.int .i64) (show (2 : Int) = D.may a from by unfold Dk.may; rw [if_neg (by unfold Dk.there; omega)])
          | exact congrArg (Value.int .i64) (show (10 : Int) = D.may a from by unfold Dk.may; rw [if_pos (by unfold Dk.there; omega), if_pos ht15])
          | exact congrArg (Value.int .i64) (show (0 : Int) = D.may a from by unfold Dk.may; rw [if_pos (by unfold Dk.there; omega), if_neg (by rw [ht15]; exact Bool.false_ne_true)])
theorem rread_spec (D : Dk) (A : Option Addr) (c : Nat) (a : Int) (w : World) {F : Nat → Prop} (hF : ∀ b, F b → b < w.heap.size) (h : RA w F A c D) : Calls Try.prog 28 #[D.rv A c, .int .i64 a] w (fun en w' => ∃ v, en = .returned v ∧ ∃ A' c', v = .slice A' (D.read a).length c' ∧ Ext w w' ∧ Ty.byte.Row w' F A' (D.read a)) := by
  refine calls' (n := 20) (rs := #[.tmp 4]) (l := [D.rv A c, .int .i64 a]) Try.func28 rfl rfl rfl rfl rfl ?_
  have hX := Ext.refl w
  refine W_seq ?_
  refine W_region ?_
  refine op_box (v := .agg _) rfl rfl ?_
  intro w0_0 b0_0 E0_0 B0_0 L0_0
  have hG0_0 : w.heap.size ≤ b0_0 := by have := hX.size; omega
  replace hX := hX.trans E0_0
  refine op rfl (r_assignV (v := .slice _ _ _) rfl) ?_
  refine WL_nil ?_
  refine W_seq ?_
  refine W_seq ?_
  refine W_region ?_
  refine op rfl (r_moveV (v := .int _ _) rfl) ?_
  refine op rfl (r_lss rfl rfl) ?_
  refine op_split rfl (r_moveV (v := .bool (decide _)) rfl) (fun hg7 => ?_) (fun hg7 => ?_)
  · refine opG_no rfl rfl rfl rfl rfl ?_
    refine opG_no rfl rfl rfl rfl rfl ?_
    refine opG_no rfl rfl rfl rfl rfl ?_
    refine opG_no rfl rfl rfl rfl rfl ?_
    refine opG_no rfl rfl rfl rfl rfl ?_
    refine op rfl (r_pickTV (v := .bool _) rfl rfl) ?_
    refine WL_nil ?_
    refine W_then rfl ?_
    refine W_seq ?_
    refine W_region ?_
    refine op rfl (r_assignV (v := .slice _ _ _) rfl) ?_
    refine WL_nil ?_
    refine W_ret (finX_ret ?_)
    refine fin1 ?_
    first
      | exact ⟨_, rfl, A1, c1, by unfold Dk.read; rw [if_pos hth]; rfl, hX, by unfold Dk.read; rw [if_pos hth]; exact hr1'⟩
      | (have hno : D.read a = [] := by unfold Dk.read; rw [if_neg (by unfold Dk.there; omega)]
         rw [hno]
         exact ⟨_, rfl, none, 0, rfl, hX, Ty.Row.nil⟩)
  · refine opG_yes rfl rfl rfl rfl rfl (r_moveV (v := .int _ _) rfl) ?_
    refine opG_yes rfl rfl rfl rfl rfl (r_fieldAddr rfl Try.fld40_0 rfl) ?_
    refine opG_yes rfl rfl rfl rfl rfl (r_load (v := .slice _ _ _) rfl Try.underlying38 rfl (Blk.cell B0_0 rfl)) ?_
    refine opG_yes rfl rfl rfl rfl rfl (r_len_slice rfl Try.underlying38) ?_
    refine opG_yes rfl rfl rfl rfl rfl (r_geq rfl rfl) ?_
    refine op rfl (r_pickFV (v := .bool _) rfl rfl) ?_
    refine WL_nil ?_
    refine W_ifp rfl (fun ht13 => ?_) (fun ht13 => ?_)
    · refine W_seq ?_
      refine W_region ?_
      refine op rfl (r_assignV (v := .slice _ _ _) rfl) ?_
      refine WL_nil ?_
      refine W_ret (finX_ret ?_)
      refine fin1 ?_
      first
        | exact ⟨_, rfl, A1, c1, by unfold Dk.read; rw [if_pos hth]; rfl, hX, by unfold Dk.read; rw [if_pos hth]; exact hr1'⟩
        | (have hno : D.read a = [] := by unfold Dk.read; rw [if_neg (by unfold Dk.there; omega)]
           rw [hno]
           exact ⟨_, rfl, none, 0, rfl, hX, Ty.Row.nil⟩)
    · have hth : D.there a := by unfold Dk.there; omega
      obtain ⟨ha1, ha2⟩ := there_nat hth
      obtain ⟨g, off, A1, c1, A2, c2, A3, c3, hA, hg, hc1, hr1, hc2, hr2, hc3, hr3, hcell⟩ := h.cells hF ha2
      obtain ⟨x1, x2, x3⟩ := hcell _ hX
      subst hA
      have hr1' := Row.fext hr1 hF hX
      refine W_skip ?_
      refine W_seq ?_
      refine W_region ?_
      refine op rfl (r_fieldAddr rfl Try.fld40_0 rfl) ?_
      refine op rfl (r_load (v := .slice _ _ _) rfl Try.underlying38 rfl (Blk.cell B0_0 rfl)) ?_
      refine op rfl (r_moveV (v := .int _ _) rfl) ?_
      refine op rfl (r_indexAddrN rfl rfl rfl Try.underlying38 Try.sz77 (by omega) (by omega)) ?_
      refine op rfl (r_fieldAddr rfl Try.fld77_0 rfl) ?_
      refine op rfl (r_load (v := .slice A1 (D.ar a.toNat).now.length c1) rfl Try.underlying23 rfl x1) ?_
      refine op rfl (r_assignV (v := .slice _ _ _) rfl) ?_
      refine WL_nil ?_
      refine W_ret (finX_ret ?_)
      refine fin1 ?_
      first
        | exact ⟨_, rfl, A1, c1, by unfold Dk.read; rw [if_pos hth]; rfl, hX, by unfold Dk.read; rw [if_pos hth]; exact hr1'⟩
        | (have hno : D.read a = [] := by unfold Dk.read; rw [if_neg (by unfold Dk.there; omega)]
           rw [hno]
           exact ⟨_, rfl, none, 0, rfl, hX, Ty.Row.nil⟩)
theorem rlasting_spec (D : Dk) (A : Option Addr) (c : Nat) (a : Int) (w : World) {F : Nat → Prop} (hF : ∀ b, F b → b < w.heap.size) (h : RA w F A c D) : Calls Try.prog 29 #[D.rv A c, .int .i64 a] w (fun en w' => ∃ v, en = .returned v ∧ ∃ A' c', v = .slice A' (D.lasting a).length c' ∧ Ext w w' ∧ Ty.byte.Row w' F A' (D.lasting a)) := by
  refine calls' (n := 20) (rs := #[.tmp 4]) (l := [D.rv A c, .int .i64 a]) Try.func29 rfl rfl rfl rfl rfl ?_
  have hX := Ext.refl w
  refine W_seq ?_
  refine W_region ?_
  refine op_box (v := .agg _) rfl rfl ?_
  intro w0_0 b0_0 E0_0 B0_0 L0_0
  have hG0_0 : w.heap.size ≤ b0_0 := by have := hX.size; omega
  replace hX := hX.trans E0_0
  refine op rfl (r_assignV (v := .slice _ _ _) rfl) ?_
  refine WL_nil ?_
  refine W_seq ?_
  refine W_seq ?_
  refine W_region ?_
  refine op rfl (r_moveV (v := .int _ _) rfl) ?_
  refine op rfl (r_lss rfl rfl) ?_
  refine op_split rfl (r_moveV (v := .bool (decide _)) rfl) (fun hg7 => ?_) (fun hg7 => ?_)
  · refine opG_no rfl rfl rfl rfl rfl ?_
    refine opG_no rfl rfl rfl rfl rfl ?_
    refine opG_no rfl rfl rfl rfl rfl ?_
    refine opG_no rfl rfl rfl rfl rfl ?_
    refine opG_no rfl rfl rfl rfl rfl ?_
    refine op rfl (r_pickTV (v := .bool _) rfl rfl) ?_
    refine WL_nil ?_
    refine W_then rfl ?_
    refine W_seq ?_
    refine W_region ?_
    refine op rfl (r_assignV (v := .slice _ _ _) rfl) ?_
    refine WL_nil ?_
    refine W_ret (finX_ret ?_)
    refine fin1 ?_
    first
      | exact ⟨_, rfl, A2, c2, by unfold Dk.lasting; rw [if_pos hth]; rfl, hX, by unfold Dk.lasting; rw [if_pos hth]; exact hr2'⟩
      | (have hno : D.lasting a = [] := by unfold Dk.lasting; rw [if_neg (by unfold Dk.there; omega)]
         rw [hno]
         exact ⟨_, rfl, none, 0, rfl, hX, Ty.Row.nil⟩)
  · refine opG_yes rfl rfl rfl rfl rfl (r_moveV (v := .int _ _) rfl) ?_
    refine opG_yes rfl rfl rfl rfl rfl (r_fieldAddr rfl Try.fld40_0 rfl) ?_
    refine opG_yes rfl rfl rfl rfl rfl (r_load (v := .slice _ _ _) rfl Try.underlying38 rfl (Blk.cell B0_0 rfl)) ?_
    refine opG_yes rfl rfl rfl rfl rfl (r_len_slice rfl Try.underlying38) ?_
    refine opG_yes rfl rfl rfl rfl rfl (r_geq rfl rfl) ?_
    refine op rfl (r_pickFV (v := .bool _) rfl rfl) ?_
    refine WL_nil ?_
    refine W_ifp rfl (fun ht13 => ?_) (fun ht13 => ?_)
    · refine W_seq ?_
      refine W_region ?_
      refine op rfl (r_assignV (v := .slice _ _ _) rfl) ?_
      refine WL_nil ?_
      refine W_ret (finX_ret ?_)
      refine fin1 ?_
      first
        | exact ⟨_, rfl, A2, c2, by unfold Dk.lasting; rw [if_pos hth]; rfl, hX, by unfold Dk.lasting; rw [if_pos hth]; exact hr2'⟩
        | (have hno : D.lasting a = [] := by unfold Dk.lasting; rw [if_neg (by unfold Dk.there; omega)]
           rw [hno]
           exact ⟨_, rfl, none, 0, rfl, hX, Ty.Row.nil⟩)
    · have hth : D.there a := by unfold Dk.there; omega
      obtain ⟨ha1, ha2⟩ := there_nat hth
      obtain ⟨g, off, A1, c1, A2, c2, A3, c3, hA, hg, hc1, hr1, hc2, hr2, hc3, hr3, hcell⟩ := h.cells hF ha2
      obtain ⟨x1, x2, x3⟩ := hcell _ hX
      subst hA
      have hr2' := Row.fext hr2 hF hX
      refine W_skip ?_
      refine W_seq ?_
      refine W_region ?_
      refine op rfl (r_fieldAddr rfl Try.fld40_0 rfl) ?_
      refine op rfl (r_load (v := .slice _ _ _) rfl Try.underlying38 rfl (Blk.cell B0_0 rfl)) ?_
      refine op rfl (r_moveV (v := .int _ _) rfl) ?_
      refine op rfl (r_indexAddrN rfl rfl rfl Try.underlying38 Try.sz77 (by omega) (by omega)) ?_
      refine op rfl (r_fieldAddr rfl Try.fld77_1 rfl) ?_
      refine op rfl (r_load (v := .slice A2 (D.ar a.toNat).lasts.length c2) rfl Try.underlying23 rfl x2) ?_
      refine op rfl (r_assignV (v := .slice _ _ _) rfl) ?_
      refine WL_nil ?_
      refine W_ret (finX_ret ?_)
      refine fin1 ?_
      first
        | exact ⟨_, rfl, A2, c2, by unfold Dk.lasting; rw [if_pos hth]; rfl, hX, by unfold Dk.lasting; rw [if_pos hth]; exact hr2'⟩
        | (have hno : D.lasting a = [] := by unfold Dk.lasting; rw [if_neg (by unfold Dk.there; omega)]
           rw [hno]
           exact ⟨_, rfl, none, 0, rfl, hX, Ty.Row.nil⟩)
theorem rused_spec (D : Dk) (A : Option Addr) (c : Nat) (w : World) {F : Nat → Prop} (hF : ∀ b, F b → b < w.heap.size) (h : RA w F A c D) {k : Nat} (hw : WF D k) (hk : k ≤ 1073741824) : Calls Try.prog 20 #[D.rv A c] w (fun en w' => ∃ v, en = .returned v ∧ v = .int .i64 D.used ∧ Ext w w') := by
  have hu := hw.used
  have hmono : ∀ i, i ≤ D.n → sumTo i (fun i => (D.ar i).now.length) ≤ D.used := fun i hi => sumTo_mono _ hi
  have hn8 := hw.n8
  refine calls' (n := 22) (rs := #[.tmp 2]) (l := [D.rv A c]) Try.func20 rfl rfl rfl rfl rfl ?_
  have hX := Ext.refl w
  refine W_seq ?_
  refine W_region ?_
  refine op_box (v := .agg _) rfl rfl ?_
  intro w0_0 b0_0 E0_0 B0_0 L0_0
  have hG0_0 : w.heap.size ≤ b0_0 := by have := hX.size; omega
  replace hX := hX.trans E0_0
  refine op rfl (r_assignV (v := .int _ _) rfl) ?_
  refine WL_nil ?_
  refine W_seq ?_
  refine W_region ?_
  refine op rfl (r_assignV (v := .int _ _) rfl) ?_
  refine WL_nil ?_
  refine W_seq ?_
  refine W_seq ?_
  refine W_region ?_
  refine op rfl (r_assignV (v := .int _ _) rfl) ?_
  refine WL_nil ?_
  refine W_block ?_
  refine W_loop [3, 4, 5, 6, 7, 8, 9, 10, 11, 12, 13, 14, 15, 16, 17, 18, 19, 20] (fun k e' w' => ∃ i : Nat, k = D.n - i ∧ i ≤ D.n ∧ e' 4 = .int .i64 i ∧ e' 3 = .int .i64 (sumTo i (fun i => (D.ar i).now.length) : Nat) ∧ Ext w w' ∧ Blk w' b0_0 (D.rc A c) 40) (D.n) ?_ ?_
  · exact ⟨0, by omega, by omega, rfl, rfl, hX, B0_0⟩
  intro k g w' hI
  obtain ⟨i, hkk, hile, h4, h3, hX', B0_0'⟩ := hI
  clear hX B0_0
  have hX := hX'
  have B0_0 := B0_0'
  clear hX' B0_0'
  refine W_set (i := 4) h4 ?_
  refine W_set (i := 3) h3 ?_
  refine W_seq ?_
  refine W_seq ?_
  refine W_region ?_
  refine op rfl (r_moveV (v := .int _ _) rfl) ?_
  refine op rfl (r_fieldAddr rfl Try.fld40_0 rfl) ?_
  refine op rfl (r_load (v := .slice _ _ _) rfl Try.underlying38 rfl (Blk.cell B0_0 rfl)) ?_
  refine op rfl (r_len_slice rfl Try.underlying38) ?_
  refine op rfl (r_lss rfl rfl) ?_
  refine WL_nil ?_
  refine W_ifp rfl (fun ht9 => ?_) (fun ht9 => ?_)
  · have hlt : i < D.n := by omega
    obtain ⟨g, off, A1, c1, A2, c2, A3, c3, hA, hg, hc1, hr1, hc2, hr2, hc3, hr3, hcell⟩ := h.cells hF hlt
    obtain ⟨x1, x2, x3⟩ := hcell _ hX
    have hm1 := hmono (i + 1) (by omega)
    simp only [sumTo] at hm1
    refine W_skip ?_
    refine W_seq ?_
    refine W_block ?_
    refine W_region ?_
    refine op rfl (r_moveV (v := .int _ _) rfl) ?_
    refine op rfl (r_fieldAddr rfl Try.fld40_0 rfl) ?_
    refine op rfl (r_load (v := .slice _ _ _) rfl Try.underlying38 rfl (Blk.cell B0_0 rfl)) ?_
    refine op rfl (r_moveV (v := .int _ _) rfl) ?_
    refine op rfl (r_indexAddrN rfl rfl hA Try.underlying38 Try.sz77 (by omega) (by omega)) ?_
    refine op rfl (r_fieldAddr rfl Try.fld77_0 rfl) ?_
    refine op rfl (r_load (v := .slice A1 (D.ar i).now.length c1) rfl Try.underlying23 rfl x1) ?_
    refine op rfl (r_len_slice rfl Try.underlying23) ?_
    refine op rfl (r_add' (r := ((sumTo (i + 1) (fun i => (D.ar i).now.length) : Nat) : Int)) rfl rfl (by simp only [sumTo]; rw [wrap_i64 (by omega) (by omega)]; omega)) ?_
    refine op rfl (r_assignV (v := .int _ _) rfl) ?_
    refine WL_nil ?_
    refine W_region ?_
    refine op rfl (r_moveV (v := .int _ _) rfl) ?_
    refine op rfl (r_add' rfl rfl (wrap_i64 (by omega) (by omega))) ?_
    refine op rfl (r_assignV (v := .int _ _) rfl) ?_
    refine WL_nil ?_
    refine ⟨?_, by repeat (first | with_reducible exact Out.refl _ _ | with_reducible exact Out.mix | refine Out.put rfl ?_ | refine Out.mixin rfl ?_ | exact Out.refl _ _ | exact Out.mix)⟩
    exact ⟨D.n - (i + 1), by omega, i + 1, rfl, by omega, rfl, rfl, hX, B0_0⟩
  · obtain rfl : i = D.n := by omega
    refine W_exit (blk_hit ?_)
    refine W_seq ?_
    refine W_region ?_
    refine op rfl (r_moveV (v := .int _ _) rfl) ?_
    refine op rfl (r_assignV (v := .int _ _) rfl) ?_
    refine WL_nil ?_
    refine W_ret (finX_ret ?_)
    refine fin1 ?_
    exact ⟨_, rfl, rfl, hX⟩
theorem runit_spec (D : Dk) (A : Option Addr) (c : Nat) (w : World) (h1 : -1152921504606846976 ≤ D.power) (h2 : D.power ≤ 1152921504606846976) : Calls Try.prog 45 #[D.rv A c] w (fun en w' => ∃ v, en = .returned v ∧ v = .tuple #[D.runit.1.rv A c, .bool D.runit.2] ∧ Ext w w') := by
  refine calls' (n := 18) (rs := #[.cell 2 40, .tmp 3]) (l := [D.rv A c]) Try.func45 rfl rfl rfl rfl rfl ?_
  have hX := Ext.refl w
  refine W_seq ?_
  refine W_region ?_
  refine op_box (v := .agg _) rfl rfl ?_
  intro w0_0 b0_0 E0_0 B0_0 L0_0
  have hG0_0 : w.heap.size ≤ b0_0 := by have := hX.size; omega
  replace hX := hX.trans E0_0
  refine op_alloc rfl Try.zero40 ?_
  intro w0_1 b0_1 E0_1 B0_1 L0_1
  have hG0_1 : w.heap.size ≤ b0_1 := by have := hX.size; omega
  have hNb0_0_0_1 : b0_0 ≠ b0_1 := by have := Blk.lt B0_0; omega
  replace B0_0 := Blk.ext B0_0 E0_1
  replace hX := hX.trans E0_1
  refine op rfl (r_assignV (v := .bool _) rfl) ?_
  refine WL_nil ?_
  refine W_seq ?_
  refine W_seq ?_
  refine W_region ?_
  refine op rfl (r_fieldAddr rfl Try.fld40_2 rfl) ?_
  refine op rfl (r_load (v := .bool _) rfl Try.underlying4 rfl (Blk.cell B0_0 rfl)) ?_
  refine op rfl (r_notB (b := D.armed) rfl) ?_
  refine WL_nil ?_
  refine W_if rfl (fun ht6 => ?_) (fun ht6 => ?_)
  · refine W_seq ?_
    refine W_region ?_
    refine op rfl (r_loadRow rfl B0_0 Try.underlying40 rfl Try.sz40) ?_
    refine op_storeRow rfl rfl Try.sz40 B0_1 rfl rfl ?_
    intro w2_1 C2_1 BB2_1
    replace B0_0 := Chg.blk C2_1 B0_0 hNb0_0_0_1
    replace hX := hX.chg C2_1 hG0_1
    replace B0_1 := BB2_1
    refine op rfl (r_assignV (v := .bool _) rfl) ?_
    refine WL_nil ?_
    refine W_ret (finX_ret ?_)
    refine fin_cell1 rfl B0_1 Try.underlying40 rfl Try.sz40 ?_
    first
      | (have hd : D.armed = false := by simpa using ht6
         have e : D.runit = (D, true) := by unfold Dk.runit; rw [if_neg (by rw [hd]; exact Bool.false_ne_true)]
         rw [e]; exact ⟨_, rfl, rfl, hX⟩)
      | (have hd : D.armed = true := by simpa using ht6
         have e : D.runit = ({ D with dead := true }, false) := by unfold Dk.runit; rw [if_pos hd, if_pos ht10]
         rw [e]; exact ⟨_, rfl, rfl, hX⟩)
      | (have hd : D.armed = true := by simpa using ht6
         have e : D.runit = ({ D with power := D.power - 1 }, true) := by unfold Dk.runit; rw [if_pos hd, if_neg ht10]
         rw [e]; exact ⟨_, rfl, rfl, hX⟩)
  · refine W_skip ?_
    refine W_seq ?_
    refine W_seq ?_
    refine W_region ?_
    refine op rfl (r_fieldAddr rfl Try.fld40_3 rfl) ?_
    refine op rfl (r_load (v := .int _ _) rfl Try.underlying3 rfl (Blk.cell B0_0 rfl)) ?_
    refine op rfl (r_eql rfl rfl) ?_
    refine WL_nil ?_
    refine W_ifp rfl (fun ht10 => ?_) (fun ht10 => ?_)
    · refine W_seq ?_
      refine W_region ?_
      refine op rfl (r_fieldAddr rfl Try.fld40_4 rfl) ?_
      refine op_store (v := .bool _) rfl rfl rfl Try.sz4 B0_0 (Nat.le_of_ble_eq_true rfl) ?_
      intro w4_1 C4_1 BB4_1
      replace B0_1 := Chg.blk C4_1 B0_1 (fun q => hNb0_0_0_1 q.symm)
      replace hX := hX.chg C4_1 hG0_0
      replace B0_0 := BB4_1
      refine WL_nil ?_
      refine W_seq ?_
      refine W_region ?_
      refine op rfl (r_loadRow rfl B0_0 Try.underlying40 rfl Try.sz40) ?_
      refine op_storeRow rfl rfl Try.sz40 B0_1 rfl rfl ?_
      intro w5_1 C5_1 BB5_1
      replace B0_0 := Chg.blk C5_1 B0_0 hNb0_0_0_1
      replace hX := hX.chg C5_1 hG0_1
      replace B0_1 := BB5_1
      refine op rfl (r_assignV (v := .bool _) rfl) ?_
      refine WL_nil ?_
      refine W_ret (finX_ret ?_)
      refine fin_cell1 rfl B0_1 Try.underlying40 rfl Try.sz40 ?_
      first
        | (have hd : D.armed = false := by simpa using ht6
           have e : D.runit = (D, true) := by unfold Dk.runit; rw [if_neg (by rw [hd]; exact Bool.false_ne_true)]
           rw [e]; exact ⟨_, rfl, rfl, hX⟩)
        | (have hd : D.armed = true := by simpa using ht6
           have e : D.runit = ({ D with dead := true }, false) := by unfold Dk.runit; rw [if_pos hd, if_pos ht10]
           rw [e]; exact ⟨_, rfl, rfl, hX⟩)
        | (have hd : D.armed = true := by simpa using ht6
           have e : D.runit = ({ D with power := D.power - 1 }, true) := by unfold Dk.runit; rw [if_pos hd, if_neg ht10]
           rw [e]; exact ⟨_, rfl, rfl, hX⟩)
    · refine W_skip ?_
      refine W_seq ?_
      refine W_region ?_
      refine op rfl (r_fieldAddr rfl Try.fld40_3 rfl) ?_
      refine op rfl (r_load (v := .int _ _) rfl Try.underlying3 rfl (Blk.cell B0_0 rfl)) ?_
      refine op rfl (r_sub' rfl rfl (wrap_i64 (by omega) (by omega))) ?_
      refine op rfl (r_fieldAddr rfl Try.fld40_3 rfl) ?_
      refine op_store (v := .int _ _) rfl rfl rfl Try.sz3 B0_0 (Nat.le_of_ble_eq_true rfl) ?_
      intro w6_4 C6_4 BB6_4
      replace B0_1 := Chg.blk C6_4 B0_1 (fun q => hNb0_0_0_1 q.symm)
      replace hX := hX.chg C6_4 hG0_0
      replace B0_0 := BB6_4
      refine WL_nil ?_
      refine W_seq ?_
      refine W_region ?_
      refine op rfl (r_loadRow rfl B0_0 Try.underlying40 rfl Try.sz40) ?_
      refine op_storeRow rfl rfl Try.sz40 B0_1 rfl rfl ?_
      intro w7_1 C7_1 BB7_1
      replace B0_0 := Chg.blk C7_1 B0_0 hNb0_0_0_1
      replace hX := hX.chg C7_1 hG0_1
      replace B0_1 := BB7_1
      refine op rfl (r_assignV (v := .bool _) rfl) ?_
      refine WL_nil ?_
      refine W_ret (finX_ret ?_)
      refine fin_cell1 rfl B0_1 Try.underlying40 rfl Try.sz40 ?_
      first
        | (have hd : D.armed = false := by simpa using ht6
           have e : D.runit = (D, true) := by unfold Dk.runit; rw [if_neg (by rw [hd]; exact Bool.false_ne_true)]
           rw [e]; exact ⟨_, rfl, rfl, hX⟩)
        | (have hd : D.armed = true := by simpa using ht6
           have e : D.runit = ({ D with dead := true }, false) := by unfold Dk.runit; rw [if_pos hd, if_pos ht10]
           rw [e]; exact ⟨_, rfl, rfl, hX⟩)
        | (have hd : D.armed = true := by simpa using ht6
           have e : D.runit = ({ D with power := D.power - 1 }, true) := by unfold Dk.runit; rw [if_pos hd, if_neg ht10]
           rw [e]; exact ⟨_, rfl, rfl, hX⟩)
end Go.Proofs.Ytfgffaphpedimaa
