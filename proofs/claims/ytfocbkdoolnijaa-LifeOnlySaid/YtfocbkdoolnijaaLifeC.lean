/-
  The walks of package life: what each Event does.
-/
import Derived.Test.YtfocbkdoolnijaaFacts
import Derived.Test.YtfocbkdoolnijaaLifeW
namespace Go.Proofs.Ytfocbkdoolnijaa
open Go Go.Eng Go.RowKit Go.Proofs
set_option linter.unusedVariables false

theorem done_spec (m : Lim) (x : Lf) (n : Int) (w : World) : Calls Try.prog 25 #[m.val, x.val, .int .i64 n] w (fun en w' => ∃ v, en = .returned v ∧ v = (x.done n).val ∧ Ext w w') := by
  refine calls' (n := 15) (rs := #[.cell 6 27]) (l := [m.val, x.val, .int .i64 n]) Try.func25 rfl rfl rfl rfl rfl ?_
  have hX := Ext.refl w
  refine W_seq ?_
  refine W_region ?_
  refine op_box (v := .agg _) rfl rfl ?_
  intro w0_0 b0_0 E0_0 B0_0 L0_0
  have hG0_0 : w.heap.size ≤ b0_0 := by have := hX.size; omega
  replace hX := hX.trans E0_0
  refine op_box (v := .agg _) rfl rfl ?_
  intro w0_1 b0_1 E0_1 B0_1 L0_1
  have hG0_1 : w.heap.size ≤ b0_1 := by have := hX.size; omega
  have hNb0_0_0_1 : b0_0 ≠ b0_1 := by have := Blk.lt B0_0; omega
  replace B0_0 := Blk.ext B0_0 E0_1
  replace hX := hX.trans E0_1
  refine op_alloc rfl Try.zero27 ?_
  intro w0_2 b0_2 E0_2 B0_2 L0_2
  have hG0_2 : w.heap.size ≤ b0_2 := by have := hX.size; omega
  have hNb0_0_0_2 : b0_0 ≠ b0_2 := by have := Blk.lt B0_0; omega
  replace B0_0 := Blk.ext B0_0 E0_2
  have hNb0_1_0_2 : b0_1 ≠ b0_2 := by have := Blk.lt B0_1; omega
  replace B0_1 := Blk.ext B0_1 E0_2
  replace hX := hX.trans E0_2
  refine WL_nil ?_
  refine W_seq ?_
  refine W_drawF (W0 := w) (fun b : Nat => b = b0_0 ∨ b = b0_2 ∨ False) Try.wd rfl ?_
  intro wd1 hD
  replace B0_0 := Blk.ext B0_0 hD
  replace B0_1 := Blk.ext B0_1 hD
  replace B0_2 := Blk.ext B0_2 hD
  replace hX := hX.trans hD
  have DB0_0 := B0_0
  have DB0_2 := B0_2
  have hS : Ext w wd1 ∧ Same (fun b : Nat => b = b0_0 ∨ b = b0_2 ∨ False) wd1 wd1 := ⟨hX, fun _ _ => rfl⟩
  refine A_take (i := 1) rfl (by kernel_rfl) (by kernel_rfl) (by kernel_rfl) rfl hS (fun _ hw => r_loadRow rfl (Blk.at DB0_0 (hw.2 _ (Or.inl rfl))) Try.underlying24 rfl Try.sz24) ?_
  refine A_take (i := 3) rfl (by kernel_rfl) (by kernel_rfl) (by kernel_rfl) rfl hS (fun _ hw => r_moveV (v := .int _ _) rfl) ?_
  refine A_ready2 (i := 0) (j := 2) (by kernel_rfl) ?_ ?_
  · refine O_call rfl rfl (r_call Try.func22 Try.nm22 rfl) (to_spec 6 _) ?_
    rintro v w2 ⟨bt, rfl, hE, hB, _⟩
    replace B0_0 := Blk.ext B0_0 hE
    replace B0_1 := Blk.ext B0_1 hE
    replace B0_2 := Blk.ext B0_2 hE
    replace hX := hX.trans hE
    replace hS : Ext w w2 ∧ Same (fun b : Nat => b = b0_0 ∨ b = b0_2 ∨ False) wd1 w2 := ⟨hX, fun b hb => Or.elim hb (fun q => by subst q; exact Blk.eq B0_0 DB0_0) (fun hb => Or.elim hb (fun q => by subst q; exact Blk.eq B0_2 DB0_2) (fun hb => hb.elim))⟩
    refine ⟨hS, ?_⟩
    refine A_ready1 (i := 2) (by kernel_rfl) ?_
    refine O_val rfl rfl (r_loadRow rfl B0_1 Try.underlying27 rfl Try.sz27) (hS) ?_
    refine A_ready1 (i := 4) (by kernel_rfl) ?_
    refine O_call rfl rfl (r_callV (lb := [.pointer (some ⟨bt, 0, none⟩)]) rfl Try.func29 Try.nm29 rfl) (to1_spec bt 6 m x n _ hB) ?_
    rintro v w3 ⟨rfl, hE⟩
    replace B0_0 := Blk.ext B0_0 hE
    replace B0_1 := Blk.ext B0_1 hE
    replace B0_2 := Blk.ext B0_2 hE
    replace hX := hX.trans hE
    replace hS : Ext w w3 ∧ Same (fun b : Nat => b = b0_0 ∨ b = b0_2 ∨ False) wd1 w3 := ⟨hX, fun b hb => Or.elim hb (fun q => by subst q; exact Blk.eq B0_0 DB0_0) (fun hb => Or.elim hb (fun q => by subst q; exact Blk.eq B0_2 DB0_2) (fun hb => hb.elim))⟩
    refine ⟨hS, ?_⟩
    refine A_ready1 (i := 5) (by kernel_rfl) ?_
    refine O_storeRow rfl rfl rfl Try.sz27 B0_1 rfl rfl ?_
    intro w1_5 C1_5 BB1_5
    replace B0_0 := Chg.blk C1_5 B0_0 hNb0_0_0_1
    replace B0_2 := Chg.blk C1_5 B0_2 (fun q => hNb0_1_0_2 q.symm)
    replace hX := hX.chg C1_5 hG0_1
    replace B0_1 := BB1_5
    replace hS : Ext w w1_5 ∧ Same (fun b : Nat => b = b0_0 ∨ b = b0_2 ∨ False) wd1 w1_5 := ⟨hX, fun b hb => Or.elim hb (fun q => by subst q; exact Blk.eq B0_0 DB0_0) (fun hb => Or.elim hb (fun q => by subst q; exact Blk.eq B0_2 DB0_2) (fun hb => hb.elim))⟩
    refine ⟨hS, ?_⟩
    refine A_done (by kernel_rfl) ?_
    refine W_seq ?_
    refine W_region ?_
    refine op rfl (r_moveV (v := .int _ _) rfl) ?_
    refine op rfl (r_fieldAddr rfl Try.fld27_5 rfl) ?_
    refine op_store (v := .int _ _) rfl rfl rfl Try.sz3 B0_1 (Nat.le_of_ble_eq_true rfl) ?_
    intro w2_2 C2_2 BB2_2
    replace B0_0 := Chg.blk C2_2 B0_0 hNb0_0_0_1
    replace B0_2 := Chg.blk C2_2 B0_2 (fun q => hNb0_1_0_2 q.symm)
    replace hX := hX.chg C2_2 hG0_1
    replace B0_1 := BB2_2
    refine WL_nil ?_
    refine W_seq ?_
    refine W_region ?_
    refine op rfl (r_loadRow rfl B0_1 Try.underlying27 rfl Try.sz27) ?_
    refine op_storeRow rfl rfl Try.sz27 B0_2 rfl rfl ?_
    intro w3_1 C3_1 BB3_1
    replace B0_0 := Chg.blk C3_1 B0_0 hNb0_0_0_2
    replace B0_1 := Chg.blk C3_1 B0_1 hNb0_1_0_2
    replace hX := hX.chg C3_1 hG0_2
    replace B0_2 := BB3_1
    refine WL_nil ?_
    refine W_ret (finX_ret ?_)
    refine fin_cell rfl B0_2 Try.underlying27 rfl Try.sz27 ?_
    exact ⟨_, rfl, rfl, hX⟩
  · refine O_val rfl rfl (r_loadRow rfl B0_1 Try.underlying27 rfl Try.sz27) (hS) ?_
    refine A_ready1 (i := 0) (by kernel_rfl) ?_
    refine O_call rfl rfl (r_call Try.func22 Try.nm22 rfl) (to_spec 6 _) ?_
    rintro v w2 ⟨bt, rfl, hE, hB, _⟩
    replace B0_0 := Blk.ext B0_0 hE
    replace B0_1 := Blk.ext B0_1 hE
    replace B0_2 := Blk.ext B0_2 hE
    replace hX := hX.trans hE
    replace hS : Ext w w2 ∧ Same (fun b : Nat => b = b0_0 ∨ b = b0_2 ∨ False) wd1 w2 := ⟨hX, fun b hb => Or.elim hb (fun q => by subst q; exact Blk.eq B0_0 DB0_0) (fun hb => Or.elim hb (fun q => by subst q; exact Blk.eq B0_2 DB0_2) (fun hb => hb.elim))⟩
    refine ⟨hS, ?_⟩
    refine A_ready1 (i := 4) (by kernel_rfl) ?_
    refine O_call rfl rfl (r_callV (lb := [.pointer (some ⟨bt, 0, none⟩)]) rfl Try.func29 Try.nm29 rfl) (to1_spec bt 6 m x n _ hB) ?_
    rintro v w3 ⟨rfl, hE⟩
    replace B0_0 := Blk.ext B0_0 hE
    replace B0_1 := Blk.ext B0_1 hE
    replace B0_2 := Blk.ext B0_2 hE
    replace hX := hX.trans hE
    replace hS : Ext w w3 ∧ Same (fun b : Nat => b = b0_0 ∨ b = b0_2 ∨ False) wd1 w3 := ⟨hX, fun b hb => Or.elim hb (fun q => by subst q; exact Blk.eq B0_0 DB0_0) (fun hb => Or.elim hb (fun q => by subst q; exact Blk.eq B0_2 DB0_2) (fun hb => hb.elim))⟩
    refine ⟨hS, ?_⟩
    refine A_ready1 (i := 5) (by kernel_rfl) ?_
    refine O_storeRow rfl rfl rfl Try.sz27 B0_1 rfl rfl ?_
    intro w1_5 C1_5 BB1_5
    replace B0_0 := Chg.blk C1_5 B0_0 hNb0_0_0_1
    replace B0_2 := Chg.blk C1_5 B0_2 (fun q => hNb0_1_0_2 q.symm)
    replace hX := hX.chg C1_5 hG0_1
    replace B0_1 := BB1_5
    replace hS : Ext w w1_5 ∧ Same (fun b : Nat => b = b0_0 ∨ b = b0_2 ∨ False) wd1 w1_5 := ⟨hX, fun b hb => Or.elim hb (fun q => by subst q; exact Blk.eq B0_0 DB0_0) (fun hb => Or.elim hb (fun q => by subst q; exact Blk.eq B0_2 DB0_2) (fun hb => hb.elim))⟩
    refine ⟨hS, ?_⟩
    refine A_done (by kernel_rfl) ?_
    refine W_seq ?_
    refine W_region ?_
    refine op rfl (r_moveV (v := .int _ _) rfl) ?_
    refine op rfl (r_fieldAddr rfl Try.fld27_5 rfl) ?_
    refine op_store (v := .int _ _) rfl rfl rfl Try.sz3 B0_1 (Nat.le_of_ble_eq_true rfl) ?_
    intro w2_2 C2_2 BB2_2
    replace B0_0 := Chg.blk C2_2 B0_0 hNb0_0_0_1
    replace B0_2 := Chg.blk C2_2 B0_2 (fun q => hNb0_1_0_2 q.symm)
    replace hX := hX.chg C2_2 hG0_1
    replace B0_1 := BB2_2
    refine WL_nil ?_
    refine W_seq ?_
    refine W_region ?_
    refine op rfl (r_loadRow rfl B0_1 Try.underlying27 rfl Try.sz27) ?_
    refine op_storeRow rfl rfl Try.sz27 B0_2 rfl rfl ?_
    intro w3_1 C3_1 BB3_1
    replace B0_0 := Chg.blk C3_1 B0_0 hNb0_0_0_2
    replace B0_1 := Chg.blk C3_1 B0_1 hNb0_1_0_2
    replace hX := hX.chg C3_1 hG0_2
    replace B0_2 := BB3_1
    refine WL_nil ?_
    refine W_ret (finX_ret ?_)
    refine fin_cell rfl B0_2 Try.underlying27 rfl Try.sz27 ?_
    exact ⟨_, rfl, rfl, hX⟩
theorem made_spec (m : Lim) (x : Lf) (n : Int) (w : World) : Calls Try.prog 24 #[m.val, x.val, .int .i64 n] w (fun en w' => ∃ v, en = .returned v ∧ v = (x.made m).val ∧ Ext w w') := by
  refine calls' (n := 16) (rs := #[.cell 6 27]) (l := [m.val, x.val, .int .i64 n]) Try.func24 rfl rfl rfl rfl rfl ?_
  have hX := Ext.refl w
  refine W_seq ?_
  refine W_region ?_
  refine op_box (v := .agg _) rfl rfl ?_
  intro w0_0 b0_0 E0_0 B0_0 L0_0
  have hG0_0 : w.heap.size ≤ b0_0 := by have := hX.size; omega
  replace hX := hX.trans E0_0
  refine op_box (v := .agg _) rfl rfl ?_
  intro w0_1 b0_1 E0_1 B0_1 L0_1
  have hG0_1 : w.heap.size ≤ b0_1 := by have := hX.size; omega
  have hNb0_0_0_1 : b0_0 ≠ b0_1 := by have := Blk.lt B0_0; omega
  replace B0_0 := Blk.ext B0_0 E0_1
  replace hX := hX.trans E0_1
  refine op_alloc rfl Try.zero27 ?_
  intro w0_2 b0_2 E0_2 B0_2 L0_2
  have hG0_2 : w.heap.size ≤ b0_2 := by have := hX.size; omega
  have hNb0_0_0_2 : b0_0 ≠ b0_2 := by have := Blk.lt B0_0; omega
  replace B0_0 := Blk.ext B0_0 E0_2
  have hNb0_1_0_2 : b0_1 ≠ b0_2 := by have := Blk.lt B0_1; omega
  replace B0_1 := Blk.ext B0_1 E0_2
  replace hX := hX.trans E0_2
  refine WL_nil ?_
  refine W_seq ?_
  refine W_drawF (W0 := w) (fun b : Nat => b = b0_0 ∨ b = b0_2 ∨ False) Try.wd rfl ?_
  intro wd1 hD
  replace B0_0 := Blk.ext B0_0 hD
  replace B0_1 := Blk.ext B0_1 hD
  replace B0_2 := Blk.ext B0_2 hD
  replace hX := hX.trans hD
  have DB0_0 := B0_0
  have DB0_2 := B0_2
  have hS : Ext w wd1 ∧ Same (fun b : Nat => b = b0_0 ∨ b = b0_2 ∨ False) wd1 wd1 := ⟨hX, fun _ _ => rfl⟩
  refine A_take (i := 1) rfl (by kernel_rfl) (by kernel_rfl) (by kernel_rfl) rfl hS (fun _ hw => r_loadRow rfl (Blk.at DB0_0 (hw.2 _ (Or.inl rfl))) Try.underlying24 rfl Try.sz24) ?_
  refine A_take (i := 3) rfl (by kernel_rfl) (by kernel_rfl) (by kernel_rfl) rfl hS (fun _ hw => r_moveV (v := .int _ _) rfl) ?_
  refine A_ready2 (i := 0) (j := 2) (by kernel_rfl) ?_ ?_
  · refine O_call rfl rfl (r_call Try.func22 Try.nm22 rfl) (to_spec 2 _) ?_
    rintro v w2 ⟨bt, rfl, hE, hB, _⟩
    replace B0_0 := Blk.ext B0_0 hE
    replace B0_1 := Blk.ext B0_1 hE
    replace B0_2 := Blk.ext B0_2 hE
    replace hX := hX.trans hE
    replace hS : Ext w w2 ∧ Same (fun b : Nat => b = b0_0 ∨ b = b0_2 ∨ False) wd1 w2 := ⟨hX, fun b hb => Or.elim hb (fun q => by subst q; exact Blk.eq B0_0 DB0_0) (fun hb => Or.elim hb (fun q => by subst q; exact Blk.eq B0_2 DB0_2) (fun hb => hb.elim))⟩
    refine ⟨hS, ?_⟩
    refine A_ready1 (i := 2) (by kernel_rfl) ?_
    refine O_val rfl rfl (r_loadRow rfl B0_1 Try.underlying27 rfl Try.sz27) (hS) ?_
    refine A_ready1 (i := 4) (by kernel_rfl) ?_
    refine O_call rfl rfl (r_callV (lb := [.pointer (some ⟨bt, 0, none⟩)]) rfl Try.func29 Try.nm29 rfl) (to1_spec bt 2 m x n _ hB) ?_
    rintro v w3 ⟨rfl, hE⟩
    replace B0_0 := Blk.ext B0_0 hE
    replace B0_1 := Blk.ext B0_1 hE
    replace B0_2 := Blk.ext B0_2 hE
    replace hX := hX.trans hE
    replace hS : Ext w w3 ∧ Same (fun b : Nat => b = b0_0 ∨ b = b0_2 ∨ False) wd1 w3 := ⟨hX, fun b hb => Or.elim hb (fun q => by subst q; exact Blk.eq B0_0 DB0_0) (fun hb => Or.elim hb (fun q => by subst q; exact Blk.eq B0_2 DB0_2) (fun hb => hb.elim))⟩
    refine ⟨hS, ?_⟩
    refine A_ready1 (i := 5) (by kernel_rfl) ?_
    refine O_storeRow rfl rfl rfl Try.sz27 B0_1 rfl rfl ?_
    intro w1_5 C1_5 BB1_5
    replace B0_0 := Chg.blk C1_5 B0_0 hNb0_0_0_1
    replace B0_2 := Chg.blk C1_5 B0_2 (fun q => hNb0_1_0_2 q.symm)
    replace hX := hX.chg C1_5 hG0_1
    replace B0_1 := BB1_5
    replace hS : Ext w w1_5 ∧ Same (fun b : Nat => b = b0_0 ∨ b = b0_2 ∨ False) wd1 w1_5 := ⟨hX, fun b hb => Or.elim hb (fun q => by subst q; exact Blk.eq B0_0 DB0_0) (fun hb => Or.elim hb (fun q => by subst q; exact Blk.eq B0_2 DB0_2) (fun hb => hb.elim))⟩
    refine ⟨hS, ?_⟩
    refine A_done (by kernel_rfl) ?_
    refine W_seq ?_
    refine W_region ?_
    refine op rfl (r_fieldAddr rfl Try.fld24_1 rfl) ?_
    refine op rfl (r_load (v := .int _ _) rfl Try.underlying3 rfl (Blk.cell B0_0 rfl)) ?_
    refine op rfl (r_fieldAddr rfl Try.fld27_3 rfl) ?_
    refine op_store (v := .int _ _) rfl rfl rfl Try.sz3 B0_1 (Nat.le_of_ble_eq_true rfl) ?_
    intro w2_3 C2_3 BB2_3
    replace B0_0 := Chg.blk C2_3 B0_0 hNb0_0_0_1
    replace B0_2 := Chg.blk C2_3 B0_2 (fun q => hNb0_1_0_2 q.symm)
    replace hX := hX.chg C2_3 hG0_1
    replace B0_1 := BB2_3
    refine WL_nil ?_
    refine W_seq ?_
    refine W_region ?_
    refine op rfl (r_loadRow rfl B0_1 Try.underlying27 rfl Try.sz27) ?_
    refine op_storeRow rfl rfl Try.sz27 B0_2 rfl rfl ?_
    intro w3_1 C3_1 BB3_1
    replace B0_0 := Chg.blk C3_1 B0_0 hNb0_0_0_2
    replace B0_1 := Chg.blk C3_1 B0_1 hNb0_1_0_2
    replace hX := hX.chg C3_1 hG0_2
    replace B0_2 := BB3_1
    refine WL_nil ?_
    refine W_ret (finX_ret ?_)
    refine fin_cell rfl B0_2 Try.underlying27 rfl Try.sz27 ?_
    exact ⟨_, rfl, rfl, hX⟩
  · refine O_val rfl rfl (r_loadRow rfl B0_1 Try.underlying27 rfl Try.sz27) (hS) ?_
    refine A_ready1 (i := 0) (by kernel_rfl) ?_
    refine O_call rfl rfl (r_call Try.func22 Try.nm22 rfl) (to_spec 2 _) ?_
    rintro v w2 ⟨bt, rfl, hE, hB, _⟩
    replace B0_0 := Blk.ext B0_0 hE
    replace B0_1 := Blk.ext B0_1 hE
    replace B0_2 := Blk.ext B0_2 hE
    replace hX := hX.trans hE
    replace hS : Ext w w2 ∧ Same (fun b : Nat => b = b0_0 ∨ b = b0_2 ∨ False) wd1 w2 := ⟨hX, fun b hb => Or.elim hb (fun q => by subst q; exact Blk.eq B0_0 DB0_0) (fun hb => Or.elim hb (fun q => by subst q; exact Blk.eq B0_2 DB0_2) (fun hb => hb.elim))⟩
    refine ⟨hS, ?_⟩
    refine A_ready1 (i := 4) (by kernel_rfl) ?_
    refine O_call rfl rfl (r_callV (lb := [.pointer (some ⟨bt, 0, none⟩)]) rfl Try.func29 Try.nm29 rfl) (to1_spec bt 2 m x n _ hB) ?_
    rintro v w3 ⟨rfl, hE⟩
    replace B0_0 := Blk.ext B0_0 hE
    replace B0_1 := Blk.ext B0_1 hE
    replace B0_2 := Blk.ext B0_2 hE
    replace hX := hX.trans hE
    replace hS : Ext w w3 ∧ Same (fun b : Nat => b = b0_0 ∨ b = b0_2 ∨ False) wd1 w3 := ⟨hX, fun b hb => Or.elim hb (fun q => by subst q; exact Blk.eq B0_0 DB0_0) (fun hb => Or.elim hb (fun q => by subst q; exact Blk.eq B0_2 DB0_2) (fun hb => hb.elim))⟩
    refine ⟨hS, ?_⟩
    refine A_ready1 (i := 5) (by kernel_rfl) ?_
    refine O_storeRow rfl rfl rfl Try.sz27 B0_1 rfl rfl ?_
    intro w1_5 C1_5 BB1_5
    replace B0_0 := Chg.blk C1_5 B0_0 hNb0_0_0_1
    replace B0_2 := Chg.blk C1_5 B0_2 (fun q => hNb0_1_0_2 q.symm)
    replace hX := hX.chg C1_5 hG0_1
    replace B0_1 := BB1_5
    replace hS : Ext w w1_5 ∧ Same (fun b : Nat => b = b0_0 ∨ b = b0_2 ∨ False) wd1 w1_5 := ⟨hX, fun b hb => Or.elim hb (fun q => by subst q; exact Blk.eq B0_0 DB0_0) (fun hb => Or.elim hb (fun q => by subst q; exact Blk.eq B0_2 DB0_2) (fun hb => hb.elim))⟩
    refine ⟨hS, ?_⟩
    refine A_done (by kernel_rfl) ?_
    refine W_seq ?_
    refine W_region ?_
    refine op rfl (r_fieldAddr rfl Try.fld24_1 rfl) ?_
    refine op rfl (r_load (v := .int _ _) rfl Try.underlying3 rfl (Blk.cell B0_0 rfl)) ?_
    refine op rfl (r_fieldAddr rfl Try.fld27_3 rfl) ?_
    refine op_store (v := .int _ _) rfl rfl rfl Try.sz3 B0_1 (Nat.le_of_ble_eq_true rfl) ?_
    intro w2_3 C2_3 BB2_3
    replace B0_0 := Chg.blk C2_3 B0_0 hNb0_0_0_1
    replace B0_2 := Chg.blk C2_3 B0_2 (fun q => hNb0_1_0_2 q.symm)
    replace hX := hX.chg C2_3 hG0_1
    replace B0_1 := BB2_3
    refine WL_nil ?_
    refine W_seq ?_
    refine W_region ?_
    refine op rfl (r_loadRow rfl B0_1 Try.underlying27 rfl Try.sz27) ?_
    refine op_storeRow rfl rfl Try.sz27 B0_2 rfl rfl ?_
    intro w3_1 C3_1 BB3_1
    replace B0_0 := Chg.blk C3_1 B0_0 hNb0_0_0_2
    replace B0_1 := Chg.blk C3_1 B0_1 hNb0_1_0_2
    replace hX := hX.chg C3_1 hG0_2
    replace B0_2 := BB3_1
    refine WL_nil ?_
    refine W_ret (finX_ret ?_)
    refine fin_cell rfl B0_2 Try.underlying27 rfl Try.sz27 ?_
    exact ⟨_, rfl, rfl, hX⟩
theorem sent_spec (m : Lim) (x : Lf) (n : Int) (w : World) : Calls Try.prog 27 #[m.val, x.val, .int .i64 n] w (fun en w' => ∃ v, en = .returned v ∧ v = (x.sent n).val ∧ Ext w w') := by
  refine calls' (n := 15) (rs := #[.cell 6 27]) (l := [m.val, x.val, .int .i64 n]) Try.func27 rfl rfl rfl rfl rfl ?_
  have hX := Ext.refl w
  refine W_seq ?_
  refine W_region ?_
  refine op_box (v := .agg _) rfl rfl ?_
  intro w0_0 b0_0 E0_0 B0_0 L0_0
  have hG0_0 : w.heap.size ≤ b0_0 := by have := hX.size; omega
  replace hX := hX.trans E0_0
  refine op_box (v := .agg _) rfl rfl ?_
  intro w0_1 b0_1 E0_1 B0_1 L0_1
  have hG0_1 : w.heap.size ≤ b0_1 := by have := hX.size; omega
  have hNb0_0_0_1 : b0_0 ≠ b0_1 := by have := Blk.lt B0_0; omega
  replace B0_0 := Blk.ext B0_0 E0_1
  replace hX := hX.trans E0_1
  refine op_alloc rfl Try.zero27 ?_
  intro w0_2 b0_2 E0_2 B0_2 L0_2
  have hG0_2 : w.heap.size ≤ b0_2 := by have := hX.size; omega
  have hNb0_0_0_2 : b0_0 ≠ b0_2 := by have := Blk.lt B0_0; omega
  replace B0_0 := Blk.ext B0_0 E0_2
  have hNb0_1_0_2 : b0_1 ≠ b0_2 := by have := Blk.lt B0_1; omega
  replace B0_1 := Blk.ext B0_1 E0_2
  replace hX := hX.trans E0_2
  refine WL_nil ?_
  refine W_seq ?_
  refine W_drawF (W0 := w) (fun b : Nat => b = b0_0 ∨ b = b0_2 ∨ False) Try.wd rfl ?_
  intro wd1 hD
  replace B0_0 := Blk.ext B0_0 hD
  replace B0_1 := Blk.ext B0_1 hD
  replace B0_2 := Blk.ext B0_2 hD
  replace hX := hX.trans hD
  have DB0_0 := B0_0
  have DB0_2 := B0_2
  have hS : Ext w wd1 ∧ Same (fun b : Nat => b = b0_0 ∨ b = b0_2 ∨ False) wd1 wd1 := ⟨hX, fun _ _ => rfl⟩
  refine A_take (i := 1) rfl (by kernel_rfl) (by kernel_rfl) (by kernel_rfl) rfl hS (fun _ hw => r_loadRow rfl (Blk.at DB0_0 (hw.2 _ (Or.inl rfl))) Try.underlying24 rfl Try.sz24) ?_
  refine A_take (i := 3) rfl (by kernel_rfl) (by kernel_rfl) (by kernel_rfl) rfl hS (fun _ hw => r_moveV (v := .int _ _) rfl) ?_
  refine A_ready2 (i := 0) (j := 2) (by kernel_rfl) ?_ ?_
  · refine O_call rfl rfl (r_call Try.func22 Try.nm22 rfl) (to_spec 4 _) ?_
    rintro v w2 ⟨bt, rfl, hE, hB, _⟩
    replace B0_0 := Blk.ext B0_0 hE
    replace B0_1 := Blk.ext B0_1 hE
    replace B0_2 := Blk.ext B0_2 hE
    replace hX := hX.trans hE
    replace hS : Ext w w2 ∧ Same (fun b : Nat => b = b0_0 ∨ b = b0_2 ∨ False) wd1 w2 := ⟨hX, fun b hb => Or.elim hb (fun q => by subst q; exact Blk.eq B0_0 DB0_0) (fun hb => Or.elim hb (fun q => by subst q; exact Blk.eq B0_2 DB0_2) (fun hb => hb.elim))⟩
    refine ⟨hS, ?_⟩
    refine A_ready1 (i := 2) (by kernel_rfl) ?_
    refine O_val rfl rfl (r_loadRow rfl B0_1 Try.underlying27 rfl Try.sz27) (hS) ?_
    refine A_ready1 (i := 4) (by kernel_rfl) ?_
    refine O_call rfl rfl (r_callV (lb := [.pointer (some ⟨bt, 0, none⟩)]) rfl Try.func29 Try.nm29 rfl) (to1_spec bt 4 m x n _ hB) ?_
    rintro v w3 ⟨rfl, hE⟩
    replace B0_0 := Blk.ext B0_0 hE
    replace B0_1 := Blk.ext B0_1 hE
    replace B0_2 := Blk.ext B0_2 hE
    replace hX := hX.trans hE
    replace hS : Ext w w3 ∧ Same (fun b : Nat => b = b0_0 ∨ b = b0_2 ∨ False) wd1 w3 := ⟨hX, fun b hb => Or.elim hb (fun q => by subst q; exact Blk.eq B0_0 DB0_0) (fun hb => Or.elim hb (fun q => by subst q; exact Blk.eq B0_2 DB0_2) (fun hb => hb.elim))⟩
    refine ⟨hS, ?_⟩
    refine A_ready1 (i := 5) (by kernel_rfl) ?_
    refine O_storeRow rfl rfl rfl Try.sz27 B0_1 rfl rfl ?_
    intro w1_5 C1_5 BB1_5
    replace B0_0 := Chg.blk C1_5 B0_0 hNb0_0_0_1
    replace B0_2 := Chg.blk C1_5 B0_2 (fun q => hNb0_1_0_2 q.symm)
    replace hX := hX.chg C1_5 hG0_1
    replace B0_1 := BB1_5
    replace hS : Ext w w1_5 ∧ Same (fun b : Nat => b = b0_0 ∨ b = b0_2 ∨ False) wd1 w1_5 := ⟨hX, fun b hb => Or.elim hb (fun q => by subst q; exact Blk.eq B0_0 DB0_0) (fun hb => Or.elim hb (fun q => by subst q; exact Blk.eq B0_2 DB0_2) (fun hb => hb.elim))⟩
    refine ⟨hS, ?_⟩
    refine A_done (by kernel_rfl) ?_
    refine W_seq ?_
    refine W_region ?_
    refine op rfl (r_moveV (v := .int _ _) rfl) ?_
    refine op rfl (r_fieldAddr rfl Try.fld27_4 rfl) ?_
    refine op_store (v := .int _ _) rfl rfl rfl Try.sz3 B0_1 (Nat.le_of_ble_eq_true rfl) ?_
    intro w2_2 C2_2 BB2_2
    replace B0_0 := Chg.blk C2_2 B0_0 hNb0_0_0_1
    replace B0_2 := Chg.blk C2_2 B0_2 (fun q => hNb0_1_0_2 q.symm)
    replace hX := hX.chg C2_2 hG0_1
    replace B0_1 := BB2_2
    refine WL_nil ?_
    refine W_seq ?_
    refine W_region ?_
    refine op rfl (r_loadRow rfl B0_1 Try.underlying27 rfl Try.sz27) ?_
    refine op_storeRow rfl rfl Try.sz27 B0_2 rfl rfl ?_
    intro w3_1 C3_1 BB3_1
    replace B0_0 := Chg.blk C3_1 B0_0 hNb0_0_0_2
    replace B0_1 := Chg.blk C3_1 B0_1 hNb0_1_0_2
    replace hX := hX.chg C3_1 hG0_2
    replace B0_2 := BB3_1
    refine WL_nil ?_
    refine W_ret (finX_ret ?_)
    refine fin_cell rfl B0_2 Try.underlying27 rfl Try.sz27 ?_
    exact ⟨_, rfl, rfl, hX⟩
  · refine O_val rfl rfl (r_loadRow rfl B0_1 Try.underlying27 rfl Try.sz27) (hS) ?_
    refine A_ready1 (i := 0) (by kernel_rfl) ?_
    refine O_call rfl rfl (r_call Try.func22 Try.nm22 rfl) (to_spec 4 _) ?_
    rintro v w2 ⟨bt, rfl, hE, hB, _⟩
    replace B0_0 := Blk.ext B0_0 hE
    replace B0_1 := Blk.ext B0_1 hE
    replace B0_2 := Blk.ext B0_2 hE
    replace hX := hX.trans hE
    replace hS : Ext w w2 ∧ Same (fun b : Nat => b = b0_0 ∨ b = b0_2 ∨ False) wd1 w2 := ⟨hX, fun b hb => Or.elim hb (fun q => by subst q; exact Blk.eq B0_0 DB0_0) (fun hb => Or.elim hb (fun q => by subst q; exact Blk.eq B0_2 DB0_2) (fun hb => hb.elim))⟩
    refine ⟨hS, ?_⟩
    refine A_ready1 (i := 4) (by kernel_rfl) ?_
    refine O_call rfl rfl (r_callV (lb := [.pointer (some ⟨bt, 0, none⟩)]) rfl Try.func29 Try.nm29 rfl) (to1_spec bt 4 m x n _ hB) ?_
    rintro v w3 ⟨rfl, hE⟩
    replace B0_0 := Blk.ext B0_0 hE
    replace B0_1 := Blk.ext B0_1 hE
    replace B0_2 := Blk.ext B0_2 hE
    replace hX := hX.trans hE
    replace hS : Ext w w3 ∧ Same (fun b : Nat => b = b0_0 ∨ b = b0_2 ∨ False) wd1 w3 := ⟨hX, fun b hb => Or.elim hb (fun q => by subst q; exact Blk.eq B0_0 DB0_0) (fun hb => Or.elim hb (fun q => by subst q; exact Blk.eq B0_2 DB0_2) (fun hb => hb.elim))⟩
    refine ⟨hS, ?_⟩
    refine A_ready1 (i := 5) (by kernel_rfl) ?_
    refine O_storeRow rfl rfl rfl Try.sz27 B0_1 rfl rfl ?_
    intro w1_5 C1_5 BB1_5
    replace B0_0 := Chg.blk C1_5 B0_0 hNb0_0_0_1
    replace B0_2 := Chg.blk C1_5 B0_2 (fun q => hNb0_1_0_2 q.symm)
    replace hX := hX.chg C1_5 hG0_1
    replace B0_1 := BB1_5
    replace hS : Ext w w1_5 ∧ Same (fun b : Nat => b = b0_0 ∨ b = b0_2 ∨ False) wd1 w1_5 := ⟨hX, fun b hb => Or.elim hb (fun q => by subst q; exact Blk.eq B0_0 DB0_0) (fun hb => Or.elim hb (fun q => by subst q; exact Blk.eq B0_2 DB0_2) (fun hb => hb.elim))⟩
    refine ⟨hS, ?_⟩
    refine A_done (by kernel_rfl) ?_
    refine W_seq ?_
    refine W_region ?_
    refine op rfl (r_moveV (v := .int _ _) rfl) ?_
    refine op rfl (r_fieldAddr rfl Try.fld27_4 rfl) ?_
    refine op_store (v := .int _ _) rfl rfl rfl Try.sz3 B0_1 (Nat.le_of_ble_eq_true rfl) ?_
    intro w2_2 C2_2 BB2_2
    replace B0_0 := Chg.blk C2_2 B0_0 hNb0_0_0_1
    replace B0_2 := Chg.blk C2_2 B0_2 (fun q => hNb0_1_0_2 q.symm)
    replace hX := hX.chg C2_2 hG0_1
    replace B0_1 := BB2_2
    refine WL_nil ?_
    refine W_seq ?_
    refine W_region ?_
    refine op rfl (r_loadRow rfl B0_1 Try.underlying27 rfl Try.sz27) ?_
    refine op_storeRow rfl rfl Try.sz27 B0_2 rfl rfl ?_
    intro w3_1 C3_1 BB3_1
    replace B0_0 := Chg.blk C3_1 B0_0 hNb0_0_0_2
    replace B0_1 := Chg.blk C3_1 B0_1 hNb0_1_0_2
    replace hX := hX.chg C3_1 hG0_2
    replace B0_2 := BB3_1
    refine WL_nil ?_
    refine W_ret (finX_ret ?_)
    refine fin_cell rfl B0_2 Try.underlying27 rfl Try.sz27 ?_
    exact ⟨_, rfl, rfl, hX⟩
theorem again_spec (m : Lim) (x : Lf) (n : Int) (w : World) : Calls Try.prog 28 #[m.val, x.val, .int .i64 n] w (fun en w' => ∃ v, en = .returned v ∧ v = (x.again m).val ∧ Ext w w') := by
  refine calls' (n := 43) (rs := #[.cell 6 27]) (l := [m.val, x.val, .int .i64 n]) Try.func28 rfl rfl rfl rfl rfl ?_
  have hX := Ext.refl w
  refine W_seq ?_
  refine W_region ?_
  refine op_box (v := .agg _) rfl rfl ?_
  intro w0_0 b0_0 E0_0 B0_0 L0_0
  have hG0_0 : w.heap.size ≤ b0_0 := by have := hX.size; omega
  replace hX := hX.trans E0_0
  refine op_box (v := .agg _) rfl rfl ?_
  intro w0_1 b0_1 E0_1 B0_1 L0_1
  have hG0_1 : w.heap.size ≤ b0_1 := by have := hX.size; omega
  have hNb0_0_0_1 : b0_0 ≠ b0_1 := by have := Blk.lt B0_0; omega
  replace B0_0 := Blk.ext B0_0 E0_1
  replace hX := hX.trans E0_1
  refine op_alloc rfl Try.zero27 ?_
  intro w0_2 b0_2 E0_2 B0_2 L0_2
  have hG0_2 : w.heap.size ≤ b0_2 := by have := hX.size; omega
  have hNb0_0_0_2 : b0_0 ≠ b0_2 := by have := Blk.lt B0_0; omega
  replace B0_0 := Blk.ext B0_0 E0_2
  have hNb0_1_0_2 : b0_1 ≠ b0_2 := by have := Blk.lt B0_1; omega
  replace B0_1 := Blk.ext B0_1 E0_2
  replace hX := hX.trans E0_2
  refine WL_nil ?_
  refine W_seq ?_
  refine W_region ?_
  refine op rfl (r_fieldAddr rfl Try.fld27_2 rfl) ?_
  refine op rfl (r_load (v := .int _ _) rfl Try.underlying3 rfl (Blk.cell B0_1 rfl)) ?_
  refine op rfl (r_add' (r := inc x.tries) rfl rfl rfl) ?_
  refine op rfl (r_fieldAddr rfl Try.fld27_2 rfl) ?_
  refine op_store (v := .int _ _) rfl rfl rfl Try.sz3 B0_1 (Nat.le_of_ble_eq_true rfl) ?_
  intro w1_4 C1_4 BB1_4
  replace B0_0 := Chg.blk C1_4 B0_0 hNb0_0_0_1
  replace B0_2 := Chg.blk C1_4 B0_2 (fun q => hNb0_1_0_2 q.symm)
  replace hX := hX.chg C1_4 hG0_1
  replace B0_1 := BB1_4
  refine WL_nil ?_
  refine W_seq ?_
  refine W_region ?_
  refine op rfl (r_loadRow rfl B0_0 Try.underlying24 rfl Try.sz24) ?_
  refine op rfl (r_fieldAddr rfl Try.fld27_2 rfl) ?_
  refine op rfl (r_load (v := .int _ _) rfl Try.underlying3 rfl (Blk.cell B0_1 rfl)) ?_
  refine opCv rfl (r_call Try.func17 Try.nm17 rfl) (pause_spec m (inc x.tries) _) ?_
  rintro v w2 ⟨rfl, hE⟩
  replace B0_0 := Blk.ext B0_0 hE
  replace B0_1 := Blk.ext B0_1 hE
  replace B0_2 := Blk.ext B0_2 hE
  replace hX := hX.trans hE
  refine op rfl (r_assignV (v := .int _ _) rfl) ?_
  refine WL_nil ?_
  refine W_seq ?_
  refine W_block ?_
  refine W_seq ?_
  refine W_region ?_
  refine op rfl (r_fieldAddr rfl Try.fld27_2 rfl) ?_
  refine op rfl (r_load (v := .int _ _) rfl Try.underlying3 rfl (Blk.cell B0_1 rfl)) ?_
  refine op rfl (r_fieldAddr rfl Try.fld24_0 rfl) ?_
  refine op rfl (r_load (v := .int _ _) rfl Try.underlying3 rfl (Blk.cell B0_0 rfl)) ?_
  refine op rfl (r_gtr rfl rfl) ?_
  refine op rfl (r_assignV (v := .bool _) rfl) ?_
  refine WL_nil ?_
  refine W_ifp rfl (fun ht16 => ?_) (fun ht16 => ?_)
  · refine W_seq ?_
    refine W_drawF (W0 := w) (fun b : Nat => b = b0_0 ∨ b = b0_1 ∨ False) Try.wd rfl ?_
    intro wd4 hD
    replace B0_0 := Blk.ext B0_0 hD
    replace B0_1 := Blk.ext B0_1 hD
    replace B0_2 := Blk.ext B0_2 hD
    replace hX := hX.trans hD
    have DB0_0 := B0_0
    have DB0_1 := B0_1
    have hS : Ext w wd4 ∧ Same (fun b : Nat => b = b0_0 ∨ b = b0_1 ∨ False) wd4 wd4 := ⟨hX, fun _ _ => rfl⟩
    refine A_take (i := 1) rfl (by kernel_rfl) (by kernel_rfl) (by kernel_rfl) rfl hS (fun _ hw => r_loadRow rfl (Blk.at DB0_0 (hw.2 _ (Or.inl rfl))) Try.underlying24 rfl Try.sz24) ?_
    refine A_take (i := 2) rfl (by kernel_rfl) (by kernel_rfl) (by kernel_rfl) rfl hS (fun _ hw => r_loadRow rfl (Blk.at DB0_1 (hw.2 _ (Or.inr (Or.inl rfl)))) Try.underlying27 rfl Try.sz27) ?_
    refine A_take (i := 3) rfl (by kernel_rfl) (by kernel_rfl) (by kernel_rfl) rfl hS (fun _ hw => r_moveV (v := .int _ _) rfl) ?_
    refine A_ready1 (i := 0) (by kernel_rfl) ?_
    refine O_call rfl rfl (r_call Try.func23 Try.nm23 rfl) (given_spec 3 _) ?_
    rintro v w2 ⟨bt, rfl, hE, hB, _⟩
    replace B0_0 := Blk.ext B0_0 hE
    replace B0_1 := Blk.ext B0_1 hE
    replace B0_2 := Blk.ext B0_2 hE
    replace hX := hX.trans hE
    replace hS : Ext w w2 ∧ Same (fun b : Nat => b = b0_0 ∨ b = b0_1 ∨ False) wd4 w2 := ⟨hX, fun b hb => Or.elim hb (fun q => by subst q; exact Blk.eq B0_0 DB0_0) (fun hb => Or.elim hb (fun q => by subst q; exact Blk.eq B0_1 DB0_1) (fun hb => hb.elim))⟩
    refine ⟨hS, ?_⟩
    refine A_ready1 (i := 4) (by kernel_rfl) ?_
    refine O_call rfl rfl (r_callV (lb := [.pointer (some ⟨bt, 0, none⟩)]) rfl Try.func30 Try.nm30 rfl) (given1_spec bt 3 m { x with tries := inc x.tries } n _ hB) ?_
    rintro v w3 ⟨rfl, hE⟩
    replace B0_0 := Blk.ext B0_0 hE
    replace B0_1 := Blk.ext B0_1 hE
    replace B0_2 := Blk.ext B0_2 hE
    replace hX := hX.trans hE
    replace hS : Ext w w3 ∧ Same (fun b : Nat => b = b0_0 ∨ b = b0_1 ∨ False) wd4 w3 := ⟨hX, fun b hb => Or.elim hb (fun q => by subst q; exact Blk.eq B0_0 DB0_0) (fun hb => Or.elim hb (fun q => by subst q; exact Blk.eq B0_1 DB0_1) (fun hb => hb.elim))⟩
    refine ⟨hS, ?_⟩
    refine A_ready1 (i := 5) (by kernel_rfl) ?_
    refine O_storeRow rfl rfl rfl Try.sz27 B0_2 rfl rfl ?_
    intro w4_5 C4_5 BB4_5
    replace B0_0 := Chg.blk C4_5 B0_0 hNb0_0_0_2
    replace B0_1 := Chg.blk C4_5 B0_1 hNb0_1_0_2
    replace hX := hX.chg C4_5 hG0_2
    replace B0_2 := BB4_5
    replace hS : Ext w w4_5 ∧ Same (fun b : Nat => b = b0_0 ∨ b = b0_1 ∨ False) wd4 w4_5 := ⟨hX, fun b hb => Or.elim hb (fun q => by subst q; exact Blk.eq B0_0 DB0_0) (fun hb => Or.elim hb (fun q => by subst q; exact Blk.eq B0_1 DB0_1) (fun hb => hb.elim))⟩
    refine ⟨hS, ?_⟩
    refine A_done (by kernel_rfl) ?_
    refine W_ret (blk_ret (finX_ret ?_))
    refine fin_cell rfl B0_2 Try.underlying27 rfl Try.sz27 ?_
    exact ⟨_, rfl, by unfold Lf.again; rw [if_pos ht16], hX⟩
  · refine W_seq ?_
    refine W_region ?_
    refine op rfl (r_moveV (v := .int _ _) rfl) ?_
    refine op rfl (r_eql rfl rfl) ?_
    refine op rfl (r_assignV (v := .bool _) rfl) ?_
    refine WL_nil ?_
    refine W_ifp rfl (fun ht27 => ?_) (fun ht27 => ?_)
    · refine W_seq ?_
      refine W_drawF (W0 := w) (fun b : Nat => b = b0_0 ∨ b = b0_1 ∨ False) Try.wd rfl ?_
      intro wd6 hD
      replace B0_0 := Blk.ext B0_0 hD
      replace B0_1 := Blk.ext B0_1 hD
      replace B0_2 := Blk.ext B0_2 hD
      replace hX := hX.trans hD
      have DB0_0 := B0_0
      have DB0_1 := B0_1
      have hS : Ext w wd6 ∧ Same (fun b : Nat => b = b0_0 ∨ b = b0_1 ∨ False) wd6 wd6 := ⟨hX, fun _ _ => rfl⟩
      refine A_take (i := 1) rfl (by kernel_rfl) (by kernel_rfl) (by kernel_rfl) rfl hS (fun _ hw => r_loadRow rfl (Blk.at DB0_0 (hw.2 _ (Or.inl rfl))) Try.underlying24 rfl Try.sz24) ?_
      refine A_take (i := 2) rfl (by kernel_rfl) (by kernel_rfl) (by kernel_rfl) rfl hS (fun _ hw => r_loadRow rfl (Blk.at DB0_1 (hw.2 _ (Or.inr (Or.inl rfl)))) Try.underlying27 rfl Try.sz27) ?_
      refine A_take (i := 3) rfl (by kernel_rfl) (by kernel_rfl) (by kernel_rfl) rfl hS (fun _ hw => r_moveV (v := .int _ _) rfl) ?_
      refine A_ready1 (i := 0) (by kernel_rfl) ?_
      refine O_call rfl rfl (r_call Try.func22 Try.nm22 rfl) (to_spec 1 _) ?_
      rintro v w2 ⟨bt, rfl, hE, hB, _⟩
      replace B0_0 := Blk.ext B0_0 hE
      replace B0_1 := Blk.ext B0_1 hE
      replace B0_2 := Blk.ext B0_2 hE
      replace hX := hX.trans hE
      replace hS : Ext w w2 ∧ Same (fun b : Nat => b = b0_0 ∨ b = b0_1 ∨ False) wd6 w2 := ⟨hX, fun b hb => Or.elim hb (fun q => by subst q; exact Blk.eq B0_0 DB0_0) (fun hb => Or.elim hb (fun q => by subst q; exact Blk.eq B0_1 DB0_1) (fun hb => hb.elim))⟩
      refine ⟨hS, ?_⟩
      refine A_ready1 (i := 4) (by kernel_rfl) ?_
      refine O_call rfl rfl (r_callV (lb := [.pointer (some ⟨bt, 0, none⟩)]) rfl Try.func29 Try.nm29 rfl) (to1_spec bt 1 m { x with tries := inc x.tries } n _ hB) ?_
      rintro v w3 ⟨rfl, hE⟩
      replace B0_0 := Blk.ext B0_0 hE
      replace B0_1 := Blk.ext B0_1 hE
      replace B0_2 := Blk.ext B0_2 hE
      replace hX := hX.trans hE
      replace hS : Ext w w3 ∧ Same (fun b : Nat => b = b0_0 ∨ b = b0_1 ∨ False) wd6 w3 := ⟨hX, fun b hb => Or.elim hb (fun q => by subst q; exact Blk.eq B0_0 DB0_0) (fun hb => Or.elim hb (fun q => by subst q; exact Blk.eq B0_1 DB0_1) (fun hb => hb.elim))⟩
      refine ⟨hS, ?_⟩
      refine A_ready1 (i := 5) (by kernel_rfl) ?_
      refine O_storeRow rfl rfl rfl Try.sz27 B0_2 rfl rfl ?_
      intro w6_5 C6_5 BB6_5
      replace B0_0 := Chg.blk C6_5 B0_0 hNb0_0_0_2
      replace B0_1 := Chg.blk C6_5 B0_1 hNb0_1_0_2
      replace hX := hX.chg C6_5 hG0_2
      replace B0_2 := BB6_5
      replace hS : Ext w w6_5 ∧ Same (fun b : Nat => b = b0_0 ∨ b = b0_1 ∨ False) wd6 w6_5 := ⟨hX, fun b hb => Or.elim hb (fun q => by subst q; exact Blk.eq B0_0 DB0_0) (fun hb => Or.elim hb (fun q => by subst q; exact Blk.eq B0_1 DB0_1) (fun hb => hb.elim))⟩
      refine ⟨hS, ?_⟩
      refine A_done (by kernel_rfl) ?_
      refine W_ret (blk_ret (finX_ret ?_))
      refine fin_cell rfl B0_2 Try.underlying27 rfl Try.sz27 ?_
      exact ⟨_, rfl, by unfold Lf.again; rw [if_neg ht16, if_pos ht27], hX⟩
    · refine W_skip ?_
      refine W_seq ?_
      refine W_drawF (W0 := w) (fun b : Nat => b = b0_0 ∨ b = b0_2 ∨ False) Try.wd rfl ?_
      intro wd7 hD
      replace B0_0 := Blk.ext B0_0 hD
      replace B0_1 := Blk.ext B0_1 hD
      replace B0_2 := Blk.ext B0_2 hD
      replace hX := hX.trans hD
      have DB0_0 := B0_0
      have DB0_2 := B0_2
      have hS : Ext w wd7 ∧ Same (fun b : Nat => b = b0_0 ∨ b = b0_2 ∨ False) wd7 wd7 := ⟨hX, fun _ _ => rfl⟩
      refine A_take (i := 1) rfl (by kernel_rfl) (by kernel_rfl) (by kernel_rfl) rfl hS (fun _ hw => r_loadRow rfl (Blk.at DB0_0 (hw.2 _ (Or.inl rfl))) Try.underlying24 rfl Try.sz24) ?_
      refine A_take (i := 3) rfl (by kernel_rfl) (by kernel_rfl) (by kernel_rfl) rfl hS (fun _ hw => r_moveV (v := .int _ _) rfl) ?_
      refine A_ready2 (i := 0) (j := 2) (by kernel_rfl) ?_ ?_
      · refine O_call rfl rfl (r_call Try.func22 Try.nm22 rfl) (to_spec 5 _) ?_
        rintro v w2 ⟨bt, rfl, hE, hB, _⟩
        replace B0_0 := Blk.ext B0_0 hE
        replace B0_1 := Blk.ext B0_1 hE
        replace B0_2 := Blk.ext B0_2 hE
        replace hX := hX.trans hE
        replace hS : Ext w w2 ∧ Same (fun b : Nat => b = b0_0 ∨ b = b0_2 ∨ False) wd7 w2 := ⟨hX, fun b hb => Or.elim hb (fun q => by subst q; exact Blk.eq B0_0 DB0_0) (fun hb => Or.elim hb (fun q => by subst q; exact Blk.eq B0_2 DB0_2) (fun hb => hb.elim))⟩
        refine ⟨hS, ?_⟩
        refine A_ready1 (i := 2) (by kernel_rfl) ?_
        refine O_val rfl rfl (r_loadRow rfl B0_1 Try.underlying27 rfl Try.sz27) (hS) ?_
        refine A_ready1 (i := 4) (by kernel_rfl) ?_
        refine O_call rfl rfl (r_callV (lb := [.pointer (some ⟨bt, 0, none⟩)]) rfl Try.func29 Try.nm29 rfl) (to1_spec bt 5 m { x with tries := inc x.tries } n _ hB) ?_
        rintro v w3 ⟨rfl, hE⟩
        replace B0_0 := Blk.ext B0_0 hE
        replace B0_1 := Blk.ext B0_1 hE
        replace B0_2 := Blk.ext B0_2 hE
        replace hX := hX.trans hE
        replace hS : Ext w w3 ∧ Same (fun b : Nat => b = b0_0 ∨ b = b0_2 ∨ False) wd7 w3 := ⟨hX, fun b hb => Or.elim hb (fun q => by subst q; exact Blk.eq B0_0 DB0_0) (fun hb => Or.elim hb (fun q => by subst q; exact Blk.eq B0_2 DB0_2) (fun hb => hb.elim))⟩
        refine ⟨hS, ?_⟩
        refine A_ready1 (i := 5) (by kernel_rfl) ?_
        refine O_storeRow rfl rfl rfl Try.sz27 B0_1 rfl rfl ?_
        intro w7_5 C7_5 BB7_5
        replace B0_0 := Chg.blk C7_5 B0_0 hNb0_0_0_1
        replace B0_2 := Chg.blk C7_5 B0_2 (fun q => hNb0_1_0_2 q.symm)
        replace hX := hX.chg C7_5 hG0_1
        replace B0_1 := BB7_5
        replace hS : Ext w w7_5 ∧ Same (fun b : Nat => b = b0_0 ∨ b = b0_2 ∨ False) wd7 w7_5 := ⟨hX, fun b hb => Or.elim hb (fun q => by subst q; exact Blk.eq B0_0 DB0_0) (fun hb => Or.elim hb (fun q => by subst q; exact Blk.eq B0_2 DB0_2) (fun hb => hb.elim))⟩
        refine ⟨hS, ?_⟩
        refine A_done (by kernel_rfl) ?_
        refine W_seq ?_
        refine W_region ?_
        refine op rfl (r_moveV (v := .int _ _) rfl) ?_
        refine op rfl (r_fieldAddr rfl Try.fld27_3 rfl) ?_
        refine op_store (v := .int _ _) rfl rfl rfl Try.sz3 B0_1 (Nat.le_of_ble_eq_true rfl) ?_
        intro w8_2 C8_2 BB8_2
        replace B0_0 := Chg.blk C8_2 B0_0 hNb0_0_0_1
        replace B0_2 := Chg.blk C8_2 B0_2 (fun q => hNb0_1_0_2 q.symm)
        replace hX := hX.chg C8_2 hG0_1
        replace B0_1 := BB8_2
        refine WL_nil ?_
        refine W_seq ?_
        refine W_region ?_
        refine op rfl (r_loadRow rfl B0_1 Try.underlying27 rfl Try.sz27) ?_
        refine op_storeRow rfl rfl Try.sz27 B0_2 rfl rfl ?_
        intro w9_1 C9_1 BB9_1
        replace B0_0 := Chg.blk C9_1 B0_0 hNb0_0_0_2
        replace B0_1 := Chg.blk C9_1 B0_1 hNb0_1_0_2
        replace hX := hX.chg C9_1 hG0_2
        replace B0_2 := BB9_1
        refine WL_nil ?_
        refine W_ret (finX_ret ?_)
        refine fin_cell rfl B0_2 Try.underlying27 rfl Try.sz27 ?_
        exact ⟨_, rfl, by unfold Lf.again; rw [if_neg ht16, if_neg ht27]; rfl, hX⟩
      · refine O_val rfl rfl (r_loadRow rfl B0_1 Try.underlying27 rfl Try.sz27) (hS) ?_
        refine A_ready1 (i := 0) (by kernel_rfl) ?_
        refine O_call rfl rfl (r_call Try.func22 Try.nm22 rfl) (to_spec 5 _) ?_
        rintro v w2 ⟨bt, rfl, hE, hB, _⟩
        replace B0_0 := Blk.ext B0_0 hE
        replace B0_1 := Blk.ext B0_1 hE
        replace B0_2 := Blk.ext B0_2 hE
        replace hX := hX.trans hE
        replace hS : Ext w w2 ∧ Same (fun b : Nat => b = b0_0 ∨ b = b0_2 ∨ False) wd7 w2 := ⟨hX, fun b hb => Or.elim hb (fun q => by subst q; exact Blk.eq B0_0 DB0_0) (fun hb => Or.elim hb (fun q => by subst q; exact Blk.eq B0_2 DB0_2) (fun hb => hb.elim))⟩
        refine ⟨hS, ?_⟩
        refine A_ready1 (i := 4) (by kernel_rfl) ?_
        refine O_call rfl rfl (r_callV (lb := [.pointer (some ⟨bt, 0, none⟩)]) rfl Try.func29 Try.nm29 rfl) (to1_spec bt 5 m { x with tries := inc x.tries } n _ hB) ?_
        rintro v w3 ⟨rfl, hE⟩
        replace B0_0 := Blk.ext B0_0 hE
        replace B0_1 := Blk.ext B0_1 hE
        replace B0_2 := Blk.ext B0_2 hE
        replace hX := hX.trans hE
        replace hS : Ext w w3 ∧ Same (fun b : Nat => b = b0_0 ∨ b = b0_2 ∨ False) wd7 w3 := ⟨hX, fun b hb => Or.elim hb (fun q => by subst q; exact Blk.eq B0_0 DB0_0) (fun hb => Or.elim hb (fun q => by subst q; exact Blk.eq B0_2 DB0_2) (fun hb => hb.elim))⟩
        refine ⟨hS, ?_⟩
        refine A_ready1 (i := 5) (by kernel_rfl) ?_
        refine O_storeRow rfl rfl rfl Try.sz27 B0_1 rfl rfl ?_
        intro w7_5 C7_5 BB7_5
        replace B0_0 := Chg.blk C7_5 B0_0 hNb0_0_0_1
        replace B0_2 := Chg.blk C7_5 B0_2 (fun q => hNb0_1_0_2 q.symm)
        replace hX := hX.chg C7_5 hG0_1
        replace B0_1 := BB7_5
        replace hS : Ext w w7_5 ∧ Same (fun b : Nat => b = b0_0 ∨ b = b0_2 ∨ False) wd7 w7_5 := ⟨hX, fun b hb => Or.elim hb (fun q => by subst q; exact Blk.eq B0_0 DB0_0) (fun hb => Or.elim hb (fun q => by subst q; exact Blk.eq B0_2 DB0_2) (fun hb => hb.elim))⟩
        refine ⟨hS, ?_⟩
        refine A_done (by kernel_rfl) ?_
        refine W_seq ?_
        refine W_region ?_
        refine op rfl (r_moveV (v := .int _ _) rfl) ?_
        refine op rfl (r_fieldAddr rfl Try.fld27_3 rfl) ?_
        refine op_store (v := .int _ _) rfl rfl rfl Try.sz3 B0_1 (Nat.le_of_ble_eq_true rfl) ?_
        intro w8_2 C8_2 BB8_2
        replace B0_0 := Chg.blk C8_2 B0_0 hNb0_0_0_1
        replace B0_2 := Chg.blk C8_2 B0_2 (fun q => hNb0_1_0_2 q.symm)
        replace hX := hX.chg C8_2 hG0_1
        replace B0_1 := BB8_2
        refine WL_nil ?_
        refine W_seq ?_
        refine W_region ?_
        refine op rfl (r_loadRow rfl B0_1 Try.underlying27 rfl Try.sz27) ?_
        refine op_storeRow rfl rfl Try.sz27 B0_2 rfl rfl ?_
        intro w9_1 C9_1 BB9_1
        replace B0_0 := Chg.blk C9_1 B0_0 hNb0_0_0_2
        replace B0_1 := Chg.blk C9_1 B0_1 hNb0_1_0_2
        replace hX := hX.chg C9_1 hG0_2
        replace B0_2 := BB9_1
        refine WL_nil ?_
        refine W_ret (finX_ret ?_)
        refine fin_cell rfl B0_2 Try.underlying27 rfl Try.sz27 ?_
        exact ⟨_, rfl, by unfold Lf.again; rw [if_neg ht16, if_neg ht27]; rfl, hX⟩
theorem tick_spec (f : FuncId) (lb : Array Value) (w : World) : Calls Try.prog 26 #[.func (.func f) #[] lb] w (fun en w' => ∃ v, en = .returned v ∧ ∃ bs, v = .func (.func 31) #[] #[.pointer (some ⟨bs, 0, none⟩)] ∧ Ext w w' ∧ Blk w' bs #[.func (.func f) #[] lb] 51 ∧ w.heap.size ≤ bs) := by
  refine calls' (n := 4) (rs := #[.tmp 2]) (l := [.func (.func f) #[] lb]) Try.func26 rfl rfl rfl rfl rfl ?_
  have hX := Ext.refl w
  refine W_seq ?_
  refine W_region ?_
  refine op_box (v := _) rfl rfl ?_
  intro w0_0 b0_0 E0_0 B0_0 L0_0
  have hG0_0 : w.heap.size ≤ b0_0 := by have := hX.size; omega
  replace hX := hX.trans E0_0
  refine op rfl (r_assignV (v := .nilFunc) rfl) ?_
  refine WL_nil ?_
  refine W_seq ?_
  refine W_region ?_
  refine op rfl (r_makeFunc) ?_
  refine op rfl (r_assignV (v := .func (.func 31) #[] #[.pointer (some ⟨b0_0, 0, none⟩)]) rfl) ?_
  refine WL_nil ?_
  refine W_ret (finX_ret ?_)
  refine fin1 ?_
  exact ⟨_, rfl, b0_0, rfl, hX, B0_0, hG0_0⟩
theorem tick1_spec (bs : Nat) (f : FuncId) (fn : Func) (lb : List Value) (T : Lf → Lf) (m : Lim) (x : Lf) (n : Int) (w : World) (Bs : Blk w bs #[.func (.func f) #[] lb.toArray] 51)
    (hf : Try.prog.funcs[f]? = some fn) (hn : (fn.name == "runtime.NumGoroutine") = false) (hb : fn.body.isNone = false)
    (H : ∀ x w', Ext w w' → Calls Try.prog f ([m.val, x.val, .int .i64 n] ++ lb).toArray w' (fun en w'' => ∃ v, en = .returned v ∧ v = (T x).val ∧ Ext w' w'')) :
    Calls Try.prog 31 #[m.val, x.val, .int .i64 n, .pointer (some ⟨bs, 0, none⟩)] w (fun en w' => ∃ v, en = .returned v ∧ v = (x.tick T).val ∧ Ext w w') := by
  refine calls' (n := 22) (rs := #[.cell 7 27]) (l := [m.val, x.val, .int .i64 n, .pointer (some ⟨bs, 0, none⟩)]) Try.func31 rfl rfl rfl rfl rfl ?_
  have hX := Ext.refl w
  refine W_seq ?_
  refine W_region ?_
  refine op_box (v := .agg _) rfl rfl ?_
  intro w0_0 b0_0 E0_0 B0_0 L0_0
  have hG0_0 : w.heap.size ≤ b0_0 := by have := hX.size; omega
  have hNbs_0_0 : bs ≠ b0_0 := by have := Blk.lt Bs; omega
  replace Bs := Blk.ext Bs E0_0
  replace hX := hX.trans E0_0
  refine op_box (v := .agg _) rfl rfl ?_
  intro w0_1 b0_1 E0_1 B0_1 L0_1
  have hG0_1 : w.heap.size ≤ b0_1 := by have := hX.size; omega
  have hNbs_0_1 : bs ≠ b0_1 := by have := Blk.lt Bs; omega
  replace Bs := Blk.ext Bs E0_1
  have hNb0_0_0_1 : b0_0 ≠ b0_1 := by have := Blk.lt B0_0; omega
  replace B0_0 := Blk.ext B0_0 E0_1
  replace hX := hX.trans E0_1
  refine op_alloc rfl Try.zero27 ?_
  intro w0_2 b0_2 E0_2 B0_2 L0_2
  have hG0_2 : w.heap.size ≤ b0_2 := by have := hX.size; omega
  have hNbs_0_2 : bs ≠ b0_2 := by have := Blk.lt Bs; omega
  replace Bs := Blk.ext Bs E0_2
  have hNb0_0_0_2 : b0_0 ≠ b0_2 := by have := Blk.lt B0_0; omega
  replace B0_0 := Blk.ext B0_0 E0_2
  have hNb0_1_0_2 : b0_1 ≠ b0_2 := by have := Blk.lt B0_1; omega
  replace B0_1 := Blk.ext B0_1 E0_2
  replace hX := hX.trans E0_2
  refine WL_nil ?_
  refine W_seq ?_
  refine W_seq ?_
  refine W_region ?_
  refine op rfl (r_fieldAddr rfl Try.fld27_3 rfl) ?_
  refine op rfl (r_load (v := .int _ _) rfl Try.underlying3 rfl (Blk.cell B0_1 rfl)) ?_
  refine op rfl (r_sub' (r := dec x.wait) rfl rfl rfl) ?_
  refine op rfl (r_fieldAddr rfl Try.fld27_3 rfl) ?_
  refine op_store (v := .int _ _) rfl rfl rfl Try.sz3 B0_1 (Nat.le_of_ble_eq_true rfl) ?_
  intro w1_4 C1_4 BB1_4
  replace Bs := Chg.blk C1_4 Bs hNbs_0_1
  replace B0_0 := Chg.blk C1_4 B0_0 hNb0_0_0_1
  replace B0_2 := Chg.blk C1_4 B0_2 (fun q => hNb0_1_0_2 q.symm)
  replace hX := hX.chg C1_4 hG0_1
  replace B0_1 := BB1_4
  refine WL_nil ?_
  refine W_seq ?_
  refine W_region ?_
  refine op rfl (r_fieldAddr rfl Try.fld27_3 rfl) ?_
  refine op rfl (r_load (v := .int _ _) rfl Try.underlying3 rfl (Blk.cell B0_1 rfl)) ?_
  refine op rfl (r_gtr rfl rfl) ?_
  refine WL_nil ?_
  refine W_ifp rfl (fun ht14 => ?_) (fun ht14 => ?_)
  · refine W_seq ?_
    refine W_region ?_
    refine op rfl (r_fieldAddr rfl Try.fld27_4 rfl) ?_
    refine op_store (v := .int _ _) rfl rfl rfl Try.sz3 B0_1 (Nat.le_of_ble_eq_true rfl) ?_
    intro w3_1 C3_1 BB3_1
    replace Bs := Chg.blk C3_1 Bs hNbs_0_1
    replace B0_0 := Chg.blk C3_1 B0_0 hNb0_0_0_1
    replace B0_2 := Chg.blk C3_1 B0_2 (fun q => hNb0_1_0_2 q.symm)
    replace hX := hX.chg C3_1 hG0_1
    replace B0_1 := BB3_1
    refine WL_nil ?_
    refine W_seq ?_
    refine W_region ?_
    refine op rfl (r_loadRow rfl B0_1 Try.underlying27 rfl Try.sz27) ?_
    refine op_storeRow rfl rfl Try.sz27 B0_2 rfl rfl ?_
    intro w4_1 C4_1 BB4_1
    replace Bs := Chg.blk C4_1 Bs hNbs_0_2
    replace B0_0 := Chg.blk C4_1 B0_0 hNb0_0_0_2
    replace B0_1 := Chg.blk C4_1 B0_1 hNb0_1_0_2
    replace hX := hX.chg C4_1 hG0_2
    replace B0_2 := BB4_1
    refine WL_nil ?_
    refine W_ret (finX_ret ?_)
    refine fin_cell rfl B0_2 Try.underlying27 rfl Try.sz27 ?_
    exact ⟨_, rfl, by unfold Lf.tick; rw [if_pos ht14]; rfl, hX⟩
  · refine W_skip ?_
    refine W_seq ?_
    refine W_region ?_
    refine op rfl (r_load (v := .func (.func f) #[] lb.toArray) rfl Try.underlying51 rfl (Blk.cell Bs rfl)) ?_
    refine op rfl (r_loadRow rfl B0_0 Try.underlying24 rfl Try.sz24) ?_
    refine op rfl (r_loadRow rfl B0_1 Try.underlying27 rfl Try.sz27) ?_
    refine op rfl (r_moveV (v := .int _ _) rfl) ?_
    refine opCv rfl (r_callV (lb := lb) rfl hf hn hb) (H { x with wait := dec x.wait } _ hX) ?_
    rintro v w3 ⟨rfl, hE⟩
    replace Bs := Blk.ext Bs hE
    replace B0_0 := Blk.ext B0_0 hE
    replace B0_1 := Blk.ext B0_1 hE
    replace B0_2 := Blk.ext B0_2 hE
    replace hX := hX.trans hE
    refine op_storeRow rfl rfl Try.sz27 B0_2 rfl rfl ?_
    intro w5_5 C5_5 BB5_5
    replace Bs := Chg.blk C5_5 Bs hNbs_0_2
    replace B0_0 := Chg.blk C5_5 B0_0 hNb0_0_0_2
    replace B0_1 := Chg.blk C5_5 B0_1 hNb0_1_0_2
    replace hX := hX.chg C5_5 hG0_2
    replace B0_2 := BB5_5
    refine WL_nil ?_
    refine W_ret (finX_ret ?_)
    refine fin_cell rfl B0_2 Try.underlying27 rfl Try.sz27 ?_
    exact ⟨_, rfl, by unfold Lf.tick; rw [if_neg ht14], hX⟩
end Go.Proofs.Ytfocbkdoolnijaa
