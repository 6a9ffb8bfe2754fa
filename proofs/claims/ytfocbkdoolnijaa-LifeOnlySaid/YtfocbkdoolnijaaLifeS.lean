/-
  The walks of package life: Step.
-/
import Derived.Test.YtfocbkdoolnijaaFacts
import Derived.Test.YtfocbkdoolnijaaLifeD
namespace Go.Proofs.Ytfocbkdoolnijaa
open Go Go.Eng Go.RowKit Go.Proofs
set_option linter.unusedVariables false

def Lf.find (x : Lf) (k : Int) : Option Do := Kd.find dT [x.state, k]
def Lf.step (x : Lf) (m : Lim) (k n : Int) : Lf := match x.find k with
  | some D => D.run m x n
  | none => x
def Lf.is (x : Lf) (k : Int) : Bool := (x.find k).isSome
theorem step_spec (m : Lim) (x : Lf) (k n : Int) (w : World) : Calls Try.prog 13 #[m.val, x.val, .agg #[.int .i64 k, .int .i64 n]] w (fun en w' => ∃ v, en = .returned v ∧ v = .tuple #[(x.step m k n).val, .bool (x.is k)] ∧ Ext w w') := by
  refine calls' (n := 29) (rs := #[.cell 6 27, .tmp 7]) (l := [m.val, x.val, .agg #[.int .i64 k, .int .i64 n]]) Try.func13 rfl rfl rfl rfl rfl ?_
  have hX := Ext.refl w
  refine W_seq ?_
  refine W_region ?_
  refine op_box (v := .agg _) rfl rfl ?_
  intro w0_0 b0_0 E0_0 B0_0 L0_0
  have hG0_0 : w.heap.size ≤ b0_0 := by have := hX.size; omega
  replace hX := hX.trans E0_0
  refine op_box (v := .agg _) rfl rfl ?_
  intro w0_1 b0_1 E0_1 B0_1 L0_1
  have hG0_1 : w.heap.size ≤ b0_1 := by have := hX.size; omega
  have hNb0_0_0_1 : b0_0 ≠ b0_1 := by have := Blk.lt B0_0; omega
  replace B0_0 := Blk.ext B0_0 E0_1
  replace hX := hX.trans E0_1
  refine op_box (v := .agg _) rfl rfl ?_
  intro w0_2 b0_2 E0_2 B0_2 L0_2
  have hG0_2 : w.heap.size ≤ b0_2 := by have := hX.size; omega
  have hNb0_0_0_2 : b0_0 ≠ b0_2 := by have := Blk.lt B0_0; omega
  replace B0_0 := Blk.ext B0_0 E0_2
  have hNb0_1_0_2 : b0_1 ≠ b0_2 := by have := Blk.lt B0_1; omega
  replace B0_1 := Blk.ext B0_1 E0_2
  replace hX := hX.trans E0_2
  refine op_alloc rfl Try.zero27 ?_
  intro w0_3 b0_3 E0_3 B0_3 L0_3
  have hG0_3 : w.heap.size ≤ b0_3 := by have := hX.size; omega
  have hNb0_0_0_3 : b0_0 ≠ b0_3 := by have := Blk.lt B0_0; omega
  replace B0_0 := Blk.ext B0_0 E0_3
  have hNb0_1_0_3 : b0_1 ≠ b0_3 := by have := Blk.lt B0_1; omega
  replace B0_1 := Blk.ext B0_1 E0_3
  have hNb0_2_0_3 : b0_2 ≠ b0_3 := by have := Blk.lt B0_2; omega
  replace B0_2 := Blk.ext B0_2 E0_3
  replace hX := hX.trans E0_3
  refine op rfl (r_assignV (v := .bool _) rfl) ?_
  refine WL_nil ?_
  refine W_seq ?_
  refine W_drawF (W0 := w) (fun b : Nat => b = b0_0 ∨ b = b0_1 ∨ b = b0_2 ∨ b = b0_3 ∨ False) Try.wd rfl ?_
  intro wd1 hD
  replace B0_0 := Blk.ext B0_0 hD
  replace B0_1 := Blk.ext B0_1 hD
  replace B0_2 := Blk.ext B0_2 hD
  replace B0_3 := Blk.ext B0_3 hD
  replace hX := hX.trans hD
  have DB0_0 := B0_0
  have DB0_1 := B0_1
  have DB0_2 := B0_2
  have DB0_3 := B0_3
  have hS : Ext w wd1 ∧ Same (fun b : Nat => b = b0_0 ∨ b = b0_1 ∨ b = b0_2 ∨ b = b0_3 ∨ False) wd1 wd1 := ⟨hX, fun _ _ => rfl⟩
  refine A_take (i := 1) rfl (by kernel_rfl) (by kernel_rfl) (by kernel_rfl) rfl hS (fun _ hw => r_fieldAddr rfl Try.fld27_0 rfl) ?_
  refine A_take (i := 2) rfl (by kernel_rfl) (by kernel_rfl) (by kernel_rfl) rfl hS (fun _ hw => r_load (v := .int _ _) rfl Try.underlying3 rfl (Blk.cell (Blk.at DB0_1 (hw.2 _ (Or.inr (Or.inl rfl)))) rfl)) ?_
  refine A_take (i := 3) rfl (by kernel_rfl) (by kernel_rfl) (by kernel_rfl) rfl hS (fun _ hw => r_fieldAddr rfl Try.fld31_0 rfl) ?_
  refine A_take (i := 4) rfl (by kernel_rfl) (by kernel_rfl) (by kernel_rfl) rfl hS (fun _ hw => r_load (v := .int _ _) rfl Try.underlying3 rfl (Blk.cell (Blk.at DB0_2 (hw.2 _ (Or.inr (Or.inr (Or.inl rfl))))) rfl)) ?_
  refine A_take (i := 5) rfl (by kernel_rfl) (by kernel_rfl) (by kernel_rfl) rfl hS (fun _ hw => r_build (cs := [.int _ _, .int _ _]) Try.lay56 (List.forall_mem_cons.2 ⟨rfl, List.forall_mem_cons.2 ⟨rfl, fun _ h => by cases h⟩⟩) rfl rfl) ?_
  refine A_ready1 (i := 0) (by kernel_rfl) ?_
  refine O_call rfl rfl (r_call Try.func20 Try.nm20 rfl) (does_spec _) ?_
  rintro vd w2 ⟨hD, hE⟩
  replace B0_0 := Blk.ext B0_0 hE
  replace B0_1 := Blk.ext B0_1 hE
  replace B0_2 := Blk.ext B0_2 hE
  replace B0_3 := Blk.ext B0_3 hE
  replace hX := hX.trans hE
  replace hS : Ext w w2 ∧ Same (fun b : Nat => b = b0_0 ∨ b = b0_1 ∨ b = b0_2 ∨ b = b0_3 ∨ False) wd1 w2 := ⟨hX, fun b hb => Or.elim hb (fun q => by subst q; exact Blk.eq B0_0 DB0_0) (fun hb => Or.elim hb (fun q => by subst q; exact Blk.eq B0_1 DB0_1) (fun hb => Or.elim hb (fun q => by subst q; exact Blk.eq B0_2 DB0_2) (fun hb => Or.elim hb (fun q => by subst q; exact Blk.eq B0_3 DB0_3) (fun hb => hb.elim))))⟩
  refine ⟨hS, ?_⟩
  refine A_ready1 (i := 6) (by kernel_rfl) ?_
  obtain ⟨val, hval, hrun⟩ := lit_look dT_apart (m := 2) (by decide +kernel) hD Try.underlying53 Try.ints56 Try.zero51 [x.state, k] rfl
  refine O_val rfl rfl (hrun rfl rfl) (hS) ?_
  refine A_take (i := 7) rfl (by kernel_rfl) (by kernel_rfl) (by kernel_rfl) rfl hS (fun _ hw => r_moveV (v := .tuple #[val, .bool (x.is k)]) rfl) ?_
  refine A_take (i := 8) rfl (by kernel_rfl) (by kernel_rfl) (by kernel_rfl) rfl hS (fun _ hw => r_extract (vs := [val, .bool (x.is k)]) rfl rfl) ?_
  refine A_take (i := 9) rfl (by kernel_rfl) (by kernel_rfl) (by kernel_rfl) rfl hS (fun _ hw => r_extract (vs := [val, .bool (x.is k)]) rfl rfl) ?_
  refine A_take (i := 10) rfl (by kernel_rfl) (by kernel_rfl) (by kernel_rfl) rfl hS (fun _ hw => r_assignV (v := val) rfl) ?_
  refine A_take (i := 11) rfl (by kernel_rfl) (by kernel_rfl) (by kernel_rfl) rfl hS (fun _ hw => r_assignV (v := .bool (x.is k)) rfl) ?_
  refine A_done (by kernel_rfl) ?_
  refine W_seq ?_
  refine W_seq ?_
  refine W_region ?_
  refine op rfl (r_moveV (v := .bool (x.is k)) rfl) ?_
  refine op rfl (r_notB (b := x.is k) rfl) ?_
  refine WL_nil ?_
  refine W_if rfl (fun ht21 => ?_) (fun ht21 => ?_)
  · have hf : x.find k = none := by
      unfold Lf.is at ht21
      cases h : x.find k with
      | none => rfl
      | some D => rw [h] at ht21; cases ht21
    refine W_seq ?_
    refine W_region ?_
    refine op rfl (r_loadRow rfl B0_1 Try.underlying27 rfl Try.sz27) ?_
    refine op_storeRow rfl rfl Try.sz27 B0_3 rfl rfl ?_
    intro w3_1 C3_1 BB3_1
    replace B0_0 := Chg.blk C3_1 B0_0 hNb0_0_0_3
    replace B0_1 := Chg.blk C3_1 B0_1 hNb0_1_0_3
    replace B0_2 := Chg.blk C3_1 B0_2 hNb0_2_0_3
    replace hX := hX.chg C3_1 hG0_3
    replace B0_3 := BB3_1
    refine op rfl (r_assignV (v := .bool _) rfl) ?_
    refine WL_nil ?_
    refine W_ret (finX_ret ?_)
    refine fin_cell1 rfl B0_3 Try.underlying27 rfl Try.sz27 ?_
    exact ⟨_, rfl, by unfold Lf.step Lf.is; rw [hf]; rfl, hX⟩
  · obtain ⟨D, hf⟩ : ∃ D, x.find k = some D := by
      unfold Lf.is at ht21
      cases h : x.find k with
      | none => rw [h] at ht21; cases ht21
      | some D => exact ⟨D, rfl⟩
    obtain ⟨fd, fn, lb, rfl, hd1, hd2, hd3, hd4⟩ := hval D hf
    refine W_skip ?_
    refine W_seq ?_
    refine W_region ?_
    refine op rfl (r_moveV (v := .func (.func fd) #[] lb.toArray) rfl) ?_
    refine op rfl (r_loadRow rfl B0_0 Try.underlying24 rfl Try.sz24) ?_
    refine op rfl (r_loadRow rfl B0_1 Try.underlying27 rfl Try.sz27) ?_
    refine op rfl (r_fieldAddr rfl Try.fld31_1 rfl) ?_
    refine op rfl (r_load (v := .int _ _) rfl Try.underlying3 rfl (Blk.cell B0_2 rfl)) ?_
    refine opCv rfl (r_callV (lb := lb) rfl hd1 hd2 hd3) (hd4 m x n _ (CK.refl _)) ?_
    rintro v w3 ⟨rfl, hE⟩
    replace B0_0 := Blk.ext B0_0 hE
    replace B0_1 := Blk.ext B0_1 hE
    replace B0_2 := Blk.ext B0_2 hE
    replace B0_3 := Blk.ext B0_3 hE
    replace hX := hX.trans hE
    refine op_storeRow rfl rfl Try.sz27 B0_3 rfl rfl ?_
    intro w4_6 C4_6 BB4_6
    replace B0_0 := Chg.blk C4_6 B0_0 hNb0_0_0_3
    replace B0_1 := Chg.blk C4_6 B0_1 hNb0_1_0_3
    replace B0_2 := Chg.blk C4_6 B0_2 hNb0_2_0_3
    replace hX := hX.chg C4_6 hG0_3
    replace B0_3 := BB4_6
    refine op rfl (r_assignV (v := .bool _) rfl) ?_
    refine WL_nil ?_
    refine W_ret (finX_ret ?_)
    refine fin_cell1 rfl B0_3 Try.underlying27 rfl Try.sz27 ?_
    exact ⟨_, rfl, by unfold Lf.step Lf.is; rw [hf]; rfl, hX⟩
end Go.Proofs.Ytfocbkdoolnijaa
