/-
  The walks of package life: what the chapter's example fixes.
-/
import Derived.Test.YtfocbkdoolnijaaFacts
import Derived.Test.YtfocbkdoolnijaaLifeR
namespace Go.Proofs.Ytfocbkdoolnijaa
open Go Go.Eng Go.RowKit Go.Proofs
set_option linter.unusedVariables false
set_option maxRecDepth 20000

def kE : List (Int × Int) := [(3, 0), (6, 0), (9, 5), (10, 7)]
theorem kE_run : Lf.run ⟨1, 5, 3⟩ ⟨1, 0, 0, 0, 0, 0⟩ 0 kE = (⟨6, 0, 0, 0, 0, 7⟩, 4) := by decide +kernel
theorem kRun_spec {A : Option Addr} {w : World} (hA : evT.Row w (old w) A kE) : Calls Try.prog 16 #[Lim.val ⟨1, 5, 3⟩, Lf.val ⟨1, 0, 0, 0, 0, 0⟩, .slice A 4 4] w (fun en w' => ∃ v, en = .returned v ∧ v = .tuple #[Lf.val ⟨6, 0, 0, 0, 0, 7⟩, .int .i64 4] ∧ Ext w w') := by
  have := run_spec ⟨1, 5, 3⟩ ⟨1, 0, 0, 0, 0, 0⟩ A 4 kE w (by decide) hA
  rw [kE_run] at this
  exact this
theorem known_spec (w : World) : Calls Try.prog 10 #[] w (fun en w' => ∃ v, en = .returned v ∧ v = .bool true ∧ Ext w w') := by
  refine calls' (n := 32) (rs := #[.tmp 0]) (l := []) Try.func10 rfl rfl rfl rfl rfl ?_
  have hX := Ext.refl w
  refine W_seq ?_
  refine W_region ?_
  refine op rfl (r_assignV (v := .bool _) rfl) ?_
  refine WL_nil ?_
  refine W_seq ?_
  refine W_region ?_
  refine op rfl (r_build (cs := [.int _ _, .int _ _, .int _ _]) Try.lay24 (List.forall_mem_cons.2 ⟨rfl, List.forall_mem_cons.2 ⟨rfl, List.forall_mem_cons.2 ⟨rfl, fun _ h => by cases h⟩⟩⟩) rfl rfl) ?_
  refine op_alloc rfl Try.zero24 ?_
  intro w1_1 b1_1 E1_1 B1_1 L1_1
  have hG1_1 : w.heap.size ≤ b1_1 := by have := hX.size; omega
  replace hX := hX.trans E1_1
  refine op_storeRow rfl rfl Try.sz24 B1_1 rfl rfl ?_
  intro w1_2 C1_2 BB1_2
  replace hX := hX.chg C1_2 hG1_1
  replace B1_1 := BB1_2
  refine WL_nil ?_
  refine W_seq ?_
  refine W_drawF (W0 := w) (fun b : Nat => b = b1_1 ∨ False) Try.wd rfl ?_
  intro wd2 hD
  replace B1_1 := Blk.ext B1_1 hD
  replace hX := hX.trans hD
  have DB1_1 := B1_1
  have hS : Ext w wd2 ∧ Same (fun b : Nat => b = b1_1 ∨ False) wd2 wd2 := ⟨hX, fun _ _ => rfl⟩
  refine A_take (i := 0) rfl (by kernel_rfl) (by kernel_rfl) (by kernel_rfl) rfl hS (fun _ hw => r_loadRow rfl (Blk.at DB1_1 (hw.2 _ (Or.inl rfl))) Try.underlying24 rfl Try.sz24) ?_
  refine A_take (i := 2) rfl (by kernel_rfl) (by kernel_rfl) (by kernel_rfl) rfl hS (fun _ hw => r_build (cs := [.int _ _, .int _ _]) Try.lay31 (List.forall_mem_cons.2 ⟨rfl, fun _ h => by cases h⟩) rfl rfl) ?_
  refine A_take (i := 3) rfl (by kernel_rfl) (by kernel_rfl) (by kernel_rfl) rfl hS (fun _ hw => r_build (cs := [.int _ _, .int _ _]) Try.lay31 (List.forall_mem_cons.2 ⟨rfl, fun _ h => by cases h⟩) rfl rfl) ?_
  refine A_take (i := 4) rfl (by kernel_rfl) (by kernel_rfl) (by kernel_rfl) rfl hS (fun _ hw => r_build (cs := [.int _ _, .int _ _]) Try.lay31 (List.forall_mem_cons.2 ⟨rfl, List.forall_mem_cons.2 ⟨rfl, fun _ h => by cases h⟩⟩) rfl rfl) ?_
  refine A_take (i := 5) rfl (by kernel_rfl) (by kernel_rfl) (by kernel_rfl) rfl hS (fun _ hw => r_build (cs := [.int _ _, .int _ _]) Try.lay31 (List.forall_mem_cons.2 ⟨rfl, List.forall_mem_cons.2 ⟨rfl, fun _ h => by cases h⟩⟩) rfl rfl) ?_
  refine A_ready3 (i := 1) (j := 6) (k := 11) (by kernel_rfl) ?_ ?_ ?_
  · refine O_call rfl rfl (r_call Try.func11 Try.nm11 rfl) (new_spec false _) ?_
    rintro v w2 ⟨rfl, hE⟩
    replace B1_1 := Blk.ext B1_1 hE
    replace hX := hX.trans hE
    replace hS : Ext w w2 ∧ Same (fun b : Nat => b = b1_1 ∨ False) wd2 w2 := ⟨hX, fun b hb => Or.elim hb (fun q => by subst q; exact Blk.eq B1_1 DB1_1) (fun hb => hb.elim)⟩
    refine ⟨hS, ?_⟩
    refine A_ready2 (i := 6) (j := 11) (by kernel_rfl) ?_ ?_
    · refine O_newS rfl rfl (r_buildRows (vs := [[.int _ _, .int _ _], [.int _ _, .int _ _], [.int _ _, .int _ _], [.int _ _, .int _ _]]) Try.underlying41 Try.sz31 Try.zero31 rfl rfl rfl) ?_
      intro w2_6 b2_6 E2_6 B2_6 L2_6
      have hG2_6 : w.heap.size ≤ b2_6 := by have := hX.size; omega
      have hNb1_1_2_6 : b1_1 ≠ b2_6 := by have := Blk.lt B1_1; omega
      replace B1_1 := Blk.ext B1_1 E2_6
      replace hX := hX.trans E2_6
      replace hS : Ext w w2_6 ∧ Same (fun b : Nat => b = b1_1 ∨ False) wd2 w2_6 := ⟨hX, fun b hb => Or.elim hb (fun q => by subst q; exact Blk.eq B1_1 DB1_1) (fun hb => hb.elim)⟩
      refine ⟨hS, ?_⟩
      refine A_ready2 (i := 7) (j := 11) (by kernel_rfl) ?_ ?_
      · refine O_call rfl rfl (r_call Try.func16 Try.nm16 rfl) (kRun_spec (row_ints B2_6 (Blk.lt B2_6) (by decide))) ?_
        rintro v w3 ⟨rfl, hE⟩
        replace B1_1 := Blk.ext B1_1 hE
        replace B2_6 := Blk.ext B2_6 hE
        replace hX := hX.trans hE
        replace hS : Ext w w3 ∧ Same (fun b : Nat => b = b1_1 ∨ False) wd2 w3 := ⟨hX, fun b hb => Or.elim hb (fun q => by subst q; exact Blk.eq B1_1 DB1_1) (fun hb => hb.elim)⟩
        refine ⟨hS, ?_⟩
        refine A_take (i := 8) rfl (by kernel_rfl) (by kernel_rfl) (by kernel_rfl) rfl hS (fun _ hw => r_moveV (v := .tuple #[(Lf.mk 6 0 0 0 0 7).val, .int .i64 4]) rfl) ?_
        refine A_take (i := 9) rfl (by kernel_rfl) (by kernel_rfl) (by kernel_rfl) rfl hS (fun _ hw => r_extract (vs := [(Lf.mk 6 0 0 0 0 7).val, .int .i64 4]) rfl rfl) ?_
        refine A_take (i := 10) rfl (by kernel_rfl) (by kernel_rfl) (by kernel_rfl) rfl hS (fun _ hw => r_extract (vs := [(Lf.mk 6 0 0 0 0 7).val, .int .i64 4]) rfl rfl) ?_
        refine A_ready1 (i := 11) (by kernel_rfl) ?_
        refine O_new rfl rfl (r_alloc Try.zero27) ?_
        intro w2_11 b2_11 E2_11 B2_11 L2_11
        have hG2_11 : w.heap.size ≤ b2_11 := by have := hX.size; omega
        have hNb1_1_2_11 : b1_1 ≠ b2_11 := by have := Blk.lt B1_1; omega
        replace B1_1 := Blk.ext B1_1 E2_11
        have hNb2_6_2_11 : b2_6 ≠ b2_11 := by have := Blk.lt B2_6; omega
        replace B2_6 := Blk.ext B2_6 E2_11
        replace hX := hX.trans E2_11
        replace hS : Ext w w2_11 ∧ Same (fun b : Nat => b = b1_1 ∨ False) wd2 w2_11 := ⟨hX, fun b hb => Or.elim hb (fun q => by subst q; exact Blk.eq B1_1 DB1_1) (fun hb => hb.elim)⟩
        refine ⟨hS, ?_⟩
        refine A_ready1 (i := 12) (by kernel_rfl) ?_
        refine O_storeRow rfl rfl rfl Try.sz27 B2_11 rfl rfl ?_
        intro w2_12 C2_12 BB2_12
        replace B1_1 := Chg.blk C2_12 B1_1 hNb1_1_2_11
        replace B2_6 := Chg.blk C2_12 B2_6 hNb2_6_2_11
        replace hX := hX.chg C2_12 hG2_11
        replace B2_11 := BB2_12
        replace hS : Ext w w2_12 ∧ Same (fun b : Nat => b = b1_1 ∨ False) wd2 w2_12 := ⟨hX, fun b hb => Or.elim hb (fun q => by subst q; exact Blk.eq B1_1 DB1_1) (fun hb => hb.elim)⟩
        refine ⟨hS, ?_⟩
        refine A_take (i := 13) rfl (by kernel_rfl) (by kernel_rfl) (by kernel_rfl) rfl hS (fun _ hw => r_assignV (v := .int .i64 4) rfl) ?_
        refine A_done (by kernel_rfl) ?_
        refine W_seq ?_
        refine W_region ?_
        refine op rfl (r_moveV (v := .int .i64 4) rfl) ?_
        refine op rfl (r_eql rfl rfl) ?_
        refine op_true rfl (r_moveV (v := .bool (decide _)) rfl) (rfl) ?_
        refine opG_yes rfl rfl rfl rfl rfl (r_loadRow rfl B2_11 Try.underlying27 rfl Try.sz27) ?_
        refine opG_yes rfl rfl rfl rfl rfl (r_build (cs := [.int _ _, .int _ _, .int _ _, .int _ _, .int _ _, .int _ _]) Try.lay27 (List.forall_mem_cons.2 ⟨rfl, List.forall_mem_cons.2 ⟨rfl, fun _ h => by cases h⟩⟩) rfl rfl) ?_
        refine opG_yes rfl rfl rfl rfl rfl (ri_eql (xs := [6, 0, 0, 0, 0, 7]) (ys := [6, 0, 0, 0, 0, 7]) Try.ints27 rfl rfl rfl rfl) ?_
        refine op rfl (r_pickTV (v := .bool _) rfl rfl) ?_
        refine op_true rfl (r_moveV (v := .bool (decide _)) rfl) (rfl) ?_
        refine opG_yes rfl rfl rfl rfl rfl (r_loadRow rfl B2_11 Try.underlying27 rfl Try.sz27) ?_
        refine opGCv_yes rfl rfl rfl rfl rfl (r_call Try.func12 Try.nm12 rfl) (ended_spec ⟨6, 0, 0, 0, 0, 7⟩ _) ?_
        rintro v w4 ⟨rfl, hE⟩
        replace B1_1 := Blk.ext B1_1 hE
        replace B2_6 := Blk.ext B2_6 hE
        replace B2_11 := Blk.ext B2_11 hE
        replace hX := hX.trans hE
        refine op rfl (r_pickTV (v := .bool _) rfl rfl) ?_
        refine op_true rfl (r_moveV (v := .bool (decide _)) rfl) (by decide) ?_
        refine opG_yes rfl rfl rfl rfl rfl (r_loadRow rfl B1_1 Try.underlying24 rfl Try.sz24) ?_
        refine opGCv_yes rfl rfl rfl rfl rfl (r_call Try.func14 Try.nm14 rfl) (bound_spec ⟨1, 5, 3⟩ _) ?_
        rintro v w5 ⟨rfl, hE⟩
        replace B1_1 := Blk.ext B1_1 hE
        replace B2_6 := Blk.ext B2_6 hE
        replace B2_11 := Blk.ext B2_11 hE
        replace hX := hX.trans hE
        refine opG_yes rfl rfl rfl rfl rfl (r_eql (m := 16) (n := 16) rfl rfl) ?_
        refine op rfl (r_pickTV (v := .bool _) rfl rfl) ?_
        refine op rfl (r_assignV (v := .bool _) rfl) ?_
        refine WL_nil ?_
        refine W_ret (finX_ret ?_)
        refine fin1 ?_
        exact ⟨_, rfl, rfl, hX⟩
      · refine O_new rfl rfl (r_alloc Try.zero27) ?_
        intro w2_11 b2_11 E2_11 B2_11 L2_11
        have hG2_11 : w.heap.size ≤ b2_11 := by have := hX.size; omega
        have hNb1_1_2_11 : b1_1 ≠ b2_11 := by have := Blk.lt B1_1; omega
        replace B1_1 := Blk.ext B1_1 E2_11
        have hNb2_6_2_11 : b2_6 ≠ b2_11 := by have := Blk.lt B2_6; omega
        replace B2_6 := Blk.ext B2_6 E2_11
        replace hX := hX.trans E2_11
        replace hS : Ext w w2_11 ∧ Same (fun b : Nat => b = b1_1 ∨ False) wd2 w2_11 := ⟨hX, fun b hb => Or.elim hb (fun q => by subst q; exact Blk.eq B1_1 DB1_1) (fun hb => hb.elim)⟩
        refine ⟨hS, ?_⟩
        refine A_ready1 (i := 7) (by kernel_rfl) ?_
        refine O_call rfl rfl (r_call Try.func16 Try.nm16 rfl) (kRun_spec (row_ints B2_6 (Blk.lt B2_6) (by decide))) ?_
        rintro v w3 ⟨rfl, hE⟩
        replace B1_1 := Blk.ext B1_1 hE
        replace B2_6 := Blk.ext B2_6 hE
        replace B2_11 := Blk.ext B2_11 hE
        replace hX := hX.trans hE
        replace hS : Ext w w3 ∧ Same (fun b : Nat => b = b1_1 ∨ False) wd2 w3 := ⟨hX, fun b hb => Or.elim hb (fun q => by subst q; exact Blk.eq B1_1 DB1_1) (fun hb => hb.elim)⟩
        refine ⟨hS, ?_⟩
        refine A_take (i := 8) rfl (by kernel_rfl) (by kernel_rfl) (by kernel_rfl) rfl hS (fun _ hw => r_moveV (v := .tuple #[(Lf.mk 6 0 0 0 0 7).val, .int .i64 4]) rfl) ?_
        refine A_take (i := 9) rfl (by kernel_rfl) (by kernel_rfl) (by kernel_rfl) rfl hS (fun _ hw => r_extract (vs := [(Lf.mk 6 0 0 0 0 7).val, .int .i64 4]) rfl rfl) ?_
        refine A_take (i := 10) rfl (by kernel_rfl) (by kernel_rfl) (by kernel_rfl) rfl hS (fun _ hw => r_extract (vs := [(Lf.mk 6 0 0 0 0 7).val, .int .i64 4]) rfl rfl) ?_
        refine A_ready1 (i := 12) (by kernel_rfl) ?_
        refine O_storeRow rfl rfl rfl Try.sz27 B2_11 rfl rfl ?_
        intro w2_12 C2_12 BB2_12
        replace B1_1 := Chg.blk C2_12 B1_1 hNb1_1_2_11
        replace B2_6 := Chg.blk C2_12 B2_6 hNb2_6_2_11
        replace hX := hX.chg C2_12 hG2_11
        replace B2_11 := BB2_12
        replace hS : Ext w w2_12 ∧ Same (fun b : Nat => b = b1_1 ∨ False) wd2 w2_12 := ⟨hX, fun b hb => Or.elim hb (fun q => by subst q; exact Blk.eq B1_1 DB1_1) (fun hb => hb.elim)⟩
        refine ⟨hS, ?_⟩
        refine A_take (i := 13) rfl (by kernel_rfl) (by kernel_rfl) (by kernel_rfl) rfl hS (fun _ hw => r_assignV (v := .int .i64 4) rfl) ?_
        refine A_done (by kernel_rfl) ?_
        refine W_seq ?_
        refine W_region ?_
        refine op rfl (r_moveV (v := .int .i64 4) rfl) ?_
        refine op rfl (r_eql rfl rfl) ?_
        refine op_true rfl (r_moveV (v := .bool (decide _)) rfl) (rfl) ?_
        refine opG_yes rfl rfl rfl rfl rfl (r_loadRow rfl B2_11 Try.underlying27 rfl Try.sz27) ?_
        refine opG_yes rfl rfl rfl rfl rfl (r_build (cs := [.int _ _, .int _ _, .int _ _, .int _ _, .int _ _, .int _ _]) Try.lay27 (List.forall_mem_cons.2 ⟨rfl, List.forall_mem_cons.2 ⟨rfl, fun _ h => by cases h⟩⟩) rfl rfl) ?_
        refine opG_yes rfl rfl rfl rfl rfl (ri_eql (xs := [6, 0, 0, 0, 0, 7]) (ys := [6, 0, 0, 0, 0, 7]) Try.ints27 rfl rfl rfl rfl) ?_
        refine op rfl (r_pickTV (v := .bool _) rfl rfl) ?_
        refine op_true rfl (r_moveV (v := .bool (decide _)) rfl) (rfl) ?_
        refine opG_yes rfl rfl rfl rfl rfl (r_loadRow rfl B2_11 Try.underlying27 rfl Try.sz27) ?_
        refine opGCv_yes rfl rfl rfl rfl rfl (r_call Try.func12 Try.nm12 rfl) (ended_spec ⟨6, 0, 0, 0, 0, 7⟩ _) ?_
        rintro v w4 ⟨rfl, hE⟩
        replace B1_1 := Blk.ext B1_1 hE
        replace B2_6 := Blk.ext B2_6 hE
        replace B2_11 := Blk.ext B2_11 hE
        replace hX := hX.trans hE
        refine op rfl (r_pickTV (v := .bool _) rfl rfl) ?_
        refine op_true rfl (r_moveV (v := .bool (decide _)) rfl) (by decide) ?_
        refine opG_yes rfl rfl rfl rfl rfl (r_loadRow rfl B1_1 Try.underlying24 rfl Try.sz24) ?_
        refine opGCv_yes rfl rfl rfl rfl rfl (r_call Try.func14 Try.nm14 rfl) (bound_spec ⟨1, 5, 3⟩ _) ?_
        rintro v w5 ⟨rfl, hE⟩
        replace B1_1 := Blk.ext B1_1 hE
        replace B2_6 := Blk.ext B2_6 hE
        replace B2_11 := Blk.ext B2_11 hE
        replace hX := hX.trans hE
        refine opG_yes rfl rfl rfl rfl rfl (r_eql (m := 16) (n := 16) rfl rfl) ?_
        refine op rfl (r_pickTV (v := .bool _) rfl rfl) ?_
        refine op rfl (r_assignV (v := .bool _) rfl) ?_
        refine WL_nil ?_
        refine W_ret (finX_ret ?_)
        refine fin1 ?_
        exact ⟨_, rfl, rfl, hX⟩
    · refine O_new rfl rfl (r_alloc Try.zero27) ?_
      intro w2_11 b2_11 E2_11 B2_11 L2_11
      have hG2_11 : w.heap.size ≤ b2_11 := by have := hX.size; omega
      have hNb1_1_2_11 : b1_1 ≠ b2_11 := by have := Blk.lt B1_1; omega
      replace B1_1 := Blk.ext B1_1 E2_11
      replace hX := hX.trans E2_11
      replace hS : Ext w w2_11 ∧ Same (fun b : Nat => b = b1_1 ∨ False) wd2 w2_11 := ⟨hX, fun b hb => Or.elim hb (fun q => by subst q; exact Blk.eq B1_1 DB1_1) (fun hb => hb.elim)⟩
      refine ⟨hS, ?_⟩
      refine A_ready1 (i := 6) (by kernel_rfl) ?_
      refine O_newS rfl rfl (r_buildRows (vs := [[.int _ _, .int _ _], [.int _ _, .int _ _], [.int _ _, .int _ _], [.int _ _, .int _ _]]) Try.underlying41 Try.sz31 Try.zero31 rfl rfl rfl) ?_
      intro w2_6 b2_6 E2_6 B2_6 L2_6
      have hG2_6 : w.heap.size ≤ b2_6 := by have := hX.size; omega
      have hNb1_1_2_6 : b1_1 ≠ b2_6 := by have := Blk.lt B1_1; omega
      replace B1_1 := Blk.ext B1_1 E2_6
      have hNb2_11_2_6 : b2_11 ≠ b2_6 := by have := Blk.lt B2_11; omega
      replace B2_11 := Blk.ext B2_11 E2_6
      replace hX := hX.trans E2_6
      replace hS : Ext w w2_6 ∧ Same (fun b : Nat => b = b1_1 ∨ False) wd2 w2_6 := ⟨hX, fun b hb => Or.elim hb (fun q => by subst q; exact Blk.eq B1_1 DB1_1) (fun hb => hb.elim)⟩
      refine ⟨hS, ?_⟩
      refine A_ready1 (i := 7) (by kernel_rfl) ?_
      refine O_call rfl rfl (r_call Try.func16 Try.nm16 rfl) (kRun_spec (row_ints B2_6 (Blk.lt B2_6) (by decide))) ?_
      rintro v w3 ⟨rfl, hE⟩
      replace B1_1 := Blk.ext B1_1 hE
      replace B2_11 := Blk.ext B2_11 hE
      replace B2_6 := Blk.ext B2_6 hE
      replace hX := hX.trans hE
      replace hS : Ext w w3 ∧ Same (fun b : Nat => b = b1_1 ∨ False) wd2 w3 := ⟨hX, fun b hb => Or.elim hb (fun q => by subst q; exact Blk.eq B1_1 DB1_1) (fun hb => hb.elim)⟩
      refine ⟨hS, ?_⟩
      refine A_take (i := 8) rfl (by kernel_rfl) (by kernel_rfl) (by kernel_rfl) rfl hS (fun _ hw => r_moveV (v := .tuple #[(Lf.mk 6 0 0 0 0 7).val, .int .i64 4]) rfl) ?_
      refine A_take (i := 9) rfl (by kernel_rfl) (by kernel_rfl) (by kernel_rfl) rfl hS (fun _ hw => r_extract (vs := [(Lf.mk 6 0 0 0 0 7).val, .int .i64 4]) rfl rfl) ?_
      refine A_take (i := 10) rfl (by kernel_rfl) (by kernel_rfl) (by kernel_rfl) rfl hS (fun _ hw => r_extract (vs := [(Lf.mk 6 0 0 0 0 7).val, .int .i64 4]) rfl rfl) ?_
      refine A_ready1 (i := 12) (by kernel_rfl) ?_
      refine O_storeRow rfl rfl rfl Try.sz27 B2_11 rfl rfl ?_
      intro w2_12 C2_12 BB2_12
      replace B1_1 := Chg.blk C2_12 B1_1 hNb1_1_2_11
      replace B2_6 := Chg.blk C2_12 B2_6 (fun q => hNb2_11_2_6 q.symm)
      replace hX := hX.chg C2_12 hG2_11
      replace B2_11 := BB2_12
      replace hS : Ext w w2_12 ∧ Same (fun b : Nat => b = b1_1 ∨ False) wd2 w2_12 := ⟨hX, fun b hb => Or.elim hb (fun q => by subst q; exact Blk.eq B1_1 DB1_1) (fun hb => hb.elim)⟩
      refine ⟨hS, ?_⟩
      refine A_take (i := 13) rfl (by kernel_rfl) (by kernel_rfl) (by kernel_rfl) rfl hS (fun _ hw => r_assignV (v := .int .i64 4) rfl) ?_
      refine A_done (by kernel_rfl) ?_
      refine W_seq ?_
      refine W_region ?_
      refine op rfl (r_moveV (v := .int .i64 4) rfl) ?_
      refine op rfl (r_eql rfl rfl) ?_
      refine op_true rfl (r_moveV (v := .bool (decide _)) rfl) (rfl) ?_
      refine opG_yes rfl rfl rfl rfl rfl (r_loadRow rfl B2_11 Try.underlying27 rfl Try.sz27) ?_
      refine opG_yes rfl rfl rfl rfl rfl (r_build (cs := [.int _ _, .int _ _, .int _ _, .int _ _, .int _ _, .int _ _]) Try.lay27 (List.forall_mem_cons.2 ⟨rfl, List.forall_mem_cons.2 ⟨rfl, fun _ h => by cases h⟩⟩) rfl rfl) ?_
      refine opG_yes rfl rfl rfl rfl rfl (ri_eql (xs := [6, 0, 0, 0, 0, 7]) (ys := [6, 0, 0, 0, 0, 7]) Try.ints27 rfl rfl rfl rfl) ?_
      refine op rfl (r_pickTV (v := .bool _) rfl rfl) ?_
      refine op_true rfl (r_moveV (v := .bool (decide _)) rfl) (rfl) ?_
      refine opG_yes rfl rfl rfl rfl rfl (r_loadRow rfl B2_11 Try.underlying27 rfl Try.sz27) ?_
      refine opGCv_yes rfl rfl rfl rfl rfl (r_call Try.func12 Try.nm12 rfl) (ended_spec ⟨6, 0, 0, 0, 0, 7⟩ _) ?_
      rintro v w4 ⟨rfl, hE⟩
      replace B1_1 := Blk.ext B1_1 hE
      replace B2_11 := Blk.ext B2_11 hE
      replace B2_6 := Blk.ext B2_6 hE
      replace hX := hX.trans hE
      refine op rfl (r_pickTV (v := .bool _) rfl rfl) ?_
      refine op_true rfl (r_moveV (v := .bool (decide _)) rfl) (by decide) ?_
      refine opG_yes rfl rfl rfl rfl rfl (r_loadRow rfl B1_1 Try.underlying24 rfl Try.sz24) ?_
      refine opGCv_yes rfl rfl rfl rfl rfl (r_call Try.func14 Try.nm14 rfl) (bound_spec ⟨1, 5, 3⟩ _) ?_
      rintro v w5 ⟨rfl, hE⟩
      replace B1_1 := Blk.ext B1_1 hE
      replace B2_11 := Blk.ext B2_11 hE
      replace B2_6 := Blk.ext B2_6 hE
      replace hX := hX.trans hE
      refine opG_yes rfl rfl rfl rfl rfl (r_eql (m := 16) (n := 16) rfl rfl) ?_
      refine op rfl (r_pickTV (v := .bool _) rfl rfl) ?_
      refine op rfl (r_assignV (v := .bool _) rfl) ?_
      refine WL_nil ?_
      refine W_ret (finX_ret ?_)
      refine fin1 ?_
      exact ⟨_, rfl, rfl, hX⟩
  · refine O_newS rfl rfl (r_buildRows (vs := [[.int _ _, .int _ _], [.int _ _, .int _ _], [.int _ _, .int _ _], [.int _ _, .int _ _]]) Try.underlying41 Try.sz31 Try.zero31 rfl rfl rfl) ?_
    intro w2_6 b2_6 E2_6 B2_6 L2_6
    have hG2_6 : w.heap.size ≤ b2_6 := by have := hX.size; omega
    have hNb1_1_2_6 : b1_1 ≠ b2_6 := by have := Blk.lt B1_1; omega
    replace B1_1 := Blk.ext B1_1 E2_6
    replace hX := hX.trans E2_6
    replace hS : Ext w w2_6 ∧ Same (fun b : Nat => b = b1_1 ∨ False) wd2 w2_6 := ⟨hX, fun b hb => Or.elim hb (fun q => by subst q; exact Blk.eq B1_1 DB1_1) (fun hb => hb.elim)⟩
    refine ⟨hS, ?_⟩
    refine A_ready2 (i := 1) (j := 11) (by kernel_rfl) ?_ ?_
    · refine O_call rfl rfl (r_call Try.func11 Try.nm11 rfl) (new_spec false _) ?_
      rintro v w2 ⟨rfl, hE⟩
      replace B1_1 := Blk.ext B1_1 hE
      replace B2_6 := Blk.ext B2_6 hE
      replace hX := hX.trans hE
      replace hS : Ext w w2 ∧ Same (fun b : Nat => b = b1_1 ∨ False) wd2 w2 := ⟨hX, fun b hb => Or.elim hb (fun q => by subst q; exact Blk.eq B1_1 DB1_1) (fun hb => hb.elim)⟩
      refine ⟨hS, ?_⟩
      refine A_ready2 (i := 7) (j := 11) (by kernel_rfl) ?_ ?_
      · refine O_call rfl rfl (r_call Try.func16 Try.nm16 rfl) (kRun_spec (row_ints B2_6 (Blk.lt B2_6) (by decide))) ?_
        rintro v w3 ⟨rfl, hE⟩
        replace B1_1 := Blk.ext B1_1 hE
        replace B2_6 := Blk.ext B2_6 hE
        replace hX := hX.trans hE
        replace hS : Ext w w3 ∧ Same (fun b : Nat => b = b1_1 ∨ False) wd2 w3 := ⟨hX, fun b hb => Or.elim hb (fun q => by subst q; exact Blk.eq B1_1 DB1_1) (fun hb => hb.elim)⟩
        refine ⟨hS, ?_⟩
        refine A_take (i := 8) rfl (by kernel_rfl) (by kernel_rfl) (by kernel_rfl) rfl hS (fun _ hw => r_moveV (v := .tuple #[(Lf.mk 6 0 0 0 0 7).val, .int .i64 4]) rfl) ?_
        refine A_take (i := 9) rfl (by kernel_rfl) (by kernel_rfl) (by kernel_rfl) rfl hS (fun _ hw => r_extract (vs := [(Lf.mk 6 0 0 0 0 7).val, .int .i64 4]) rfl rfl) ?_
        refine A_take (i := 10) rfl (by kernel_rfl) (by kernel_rfl) (by kernel_rfl) rfl hS (fun _ hw => r_extract (vs := [(Lf.mk 6 0 0 0 0 7).val, .int .i64 4]) rfl rfl) ?_
        refine A_ready1 (i := 11) (by kernel_rfl) ?_
        refine O_new rfl rfl (r_alloc Try.zero27) ?_
        intro w2_11 b2_11 E2_11 B2_11 L2_11
        have hG2_11 : w.heap.size ≤ b2_11 := by have := hX.size; omega
        have hNb1_1_2_11 : b1_1 ≠ b2_11 := by have := Blk.lt B1_1; omega
        replace B1_1 := Blk.ext B1_1 E2_11
        have hNb2_6_2_11 : b2_6 ≠ b2_11 := by have := Blk.lt B2_6; omega
        replace B2_6 := Blk.ext B2_6 E2_11
        replace hX := hX.trans E2_11
        replace hS : Ext w w2_11 ∧ Same (fun b : Nat => b = b1_1 ∨ False) wd2 w2_11 := ⟨hX, fun b hb => Or.elim hb (fun q => by subst q; exact Blk.eq B1_1 DB1_1) (fun hb => hb.elim)⟩
        refine ⟨hS, ?_⟩
        refine A_ready1 (i := 12) (by kernel_rfl) ?_
        refine O_storeRow rfl rfl rfl Try.sz27 B2_11 rfl rfl ?_
        intro w2_12 C2_12 BB2_12
        replace B1_1 := Chg.blk C2_12 B1_1 hNb1_1_2_11
        replace B2_6 := Chg.blk C2_12 B2_6 hNb2_6_2_11
        replace hX := hX.chg C2_12 hG2_11
        replace B2_11 := BB2_12
        replace hS : Ext w w2_12 ∧ Same (fun b : Nat => b = b1_1 ∨ False) wd2 w2_12 := ⟨hX, fun b hb => Or.elim hb (fun q => by subst q; exact Blk.eq B1_1 DB1_1) (fun hb => hb.elim)⟩
        refine ⟨hS, ?_⟩
        refine A_take (i := 13) rfl (by kernel_rfl) (by kernel_rfl) (by kernel_rfl) rfl hS (fun _ hw => r_assignV (v := .int .i64 4) rfl) ?_
        refine A_done (by kernel_rfl) ?_
        refine W_seq ?_
        refine W_region ?_
        refine op rfl (r_moveV (v := .int .i64 4) rfl) ?_
        refine op rfl (r_eql rfl rfl) ?_
        refine op_true rfl (r_moveV (v := .bool (decide _)) rfl) (rfl) ?_
        refine opG_yes rfl rfl rfl rfl rfl (r_loadRow rfl B2_11 Try.underlying27 rfl Try.sz27) ?_
        refine opG_yes rfl rfl rfl rfl rfl (r_build (cs := [.int _ _, .int _ _, .int _ _, .int _ _, .int _ _, .int _ _]) Try.lay27 (List.forall_mem_cons.2 ⟨rfl, List.forall_mem_cons.2 ⟨rfl, fun _ h => by cases h⟩⟩) rfl rfl) ?_
        refine opG_yes rfl rfl rfl rfl rfl (ri_eql (xs := [6, 0, 0, 0, 0, 7]) (ys := [6, 0, 0, 0, 0, 7]) Try.ints27 rfl rfl rfl rfl) ?_
        refine op rfl (r_pickTV (v := .bool _) rfl rfl) ?_
        refine op_true rfl (r_moveV (v := .bool (decide _)) rfl) (rfl) ?_
        refine opG_yes rfl rfl rfl rfl rfl (r_loadRow rfl B2_11 Try.underlying27 rfl Try.sz27) ?_
        refine opGCv_yes rfl rfl rfl rfl rfl (r_call Try.func12 Try.nm12 rfl) (ended_spec ⟨6, 0, 0, 0, 0, 7⟩ _) ?_
        rintro v w4 ⟨rfl, hE⟩
        replace B1_1 := Blk.ext B1_1 hE
        replace B2_6 := Blk.ext B2_6 hE
        replace B2_11 := Blk.ext B2_11 hE
        replace hX := hX.trans hE
        refine op rfl (r_pickTV (v := .bool _) rfl rfl) ?_
        refine op_true rfl (r_moveV (v := .bool (decide _)) rfl) (by decide) ?_
        refine opG_yes rfl rfl rfl rfl rfl (r_loadRow rfl B1_1 Try.underlying24 rfl Try.sz24) ?_
        refine opGCv_yes rfl rfl rfl rfl rfl (r_call Try.func14 Try.nm14 rfl) (bound_spec ⟨1, 5, 3⟩ _) ?_
        rintro v w5 ⟨rfl, hE⟩
        replace B1_1 := Blk.ext B1_1 hE
        replace B2_6 := Blk.ext B2_6 hE
        replace B2_11 := Blk.ext B2_11 hE
        replace hX := hX.trans hE
        refine opG_yes rfl rfl rfl rfl rfl (r_eql (m := 16) (n := 16) rfl rfl) ?_
        refine op rfl (r_pickTV (v := .bool _) rfl rfl) ?_
        refine op rfl (r_assignV (v := .bool _) rfl) ?_
        refine WL_nil ?_
        refine W_ret (finX_ret ?_)
        refine fin1 ?_
        exact ⟨_, rfl, rfl, hX⟩
      · refine O_new rfl rfl (r_alloc Try.zero27) ?_
        intro w2_11 b2_11 E2_11 B2_11 L2_11
        have hG2_11 : w.heap.size ≤ b2_11 := by have := hX.size; omega
        have hNb1_1_2_11 : b1_1 ≠ b2_11 := by have := Blk.lt B1_1; omega
        replace B1_1 := Blk.ext B1_1 E2_11
        have hNb2_6_2_11 : b2_6 ≠ b2_11 := by have := Blk.lt B2_6; omega
        replace B2_6 := Blk.ext B2_6 E2_11
        replace hX := hX.trans E2_11
        replace hS : Ext w w2_11 ∧ Same (fun b : Nat => b = b1_1 ∨ False) wd2 w2_11 := ⟨hX, fun b hb => Or.elim hb (fun q => by subst q; exact Blk.eq B1_1 DB1_1) (fun hb => hb.elim)⟩
        refine ⟨hS, ?_⟩
        refine A_ready1 (i := 7) (by kernel_rfl) ?_
        refine O_call rfl rfl (r_call Try.func16 Try.nm16 rfl) (kRun_spec (row_ints B2_6 (Blk.lt B2_6) (by decide))) ?_
        rintro v w3 ⟨rfl, hE⟩
        replace B1_1 := Blk.ext B1_1 hE
        replace B2_6 := Blk.ext B2_6 hE
        replace B2_11 := Blk.ext B2_11 hE
        replace hX := hX.trans hE
        replace hS : Ext w w3 ∧ Same (fun b : Nat => b = b1_1 ∨ False) wd2 w3 := ⟨hX, fun b hb => Or.elim hb (fun q => by subst q; exact Blk.eq B1_1 DB1_1) (fun hb => hb.elim)⟩
        refine ⟨hS, ?_⟩
        refine A_take (i := 8) rfl (by kernel_rfl) (by kernel_rfl) (by kernel_rfl) rfl hS (fun _ hw => r_moveV (v := .tuple #[(Lf.mk 6 0 0 0 0 7).val, .int .i64 4]) rfl) ?_
        refine A_take (i := 9) rfl (by kernel_rfl) (by kernel_rfl) (by kernel_rfl) rfl hS (fun _ hw => r_extract (vs := [(Lf.mk 6 0 0 0 0 7).val, .int .i64 4]) rfl rfl) ?_
        refine A_take (i := 10) rfl (by kernel_rfl) (by kernel_rfl) (by kernel_rfl) rfl hS (fun _ hw => r_extract (vs := [(Lf.mk 6 0 0 0 0 7).val, .int .i64 4]) rfl rfl) ?_
        refine A_ready1 (i := 12) (by kernel_rfl) ?_
        refine O_storeRow rfl rfl rfl Try.sz27 B2_11 rfl rfl ?_
        intro w2_12 C2_12 BB2_12
        replace B1_1 := Chg.blk C2_12 B1_1 hNb1_1_2_11
        replace B2_6 := Chg.blk C2_12 B2_6 hNb2_6_2_11
        replace hX := hX.chg C2_12 hG2_11
        replace B2_11 := BB2_12
        replace hS : Ext w w2_12 ∧ Same (fun b : Nat => b = b1_1 ∨ False) wd2 w2_12 := ⟨hX, fun b hb => Or.elim hb (fun q => by subst q; exact Blk.eq B1_1 DB1_1) (fun hb => hb.elim)⟩
        refine ⟨hS, ?_⟩
        refine A_take (i := 13) rfl (by kernel_rfl) (by kernel_rfl) (by kernel_rfl) rfl hS (fun _ hw => r_assignV (v := .int .i64 4) rfl) ?_
        refine A_done (by kernel_rfl) ?_
        refine W_seq ?_
        refine W_region ?_
        refine op rfl (r_moveV (v := .int .i64 4) rfl) ?_
        refine op rfl (r_eql rfl rfl) ?_
        refine op_true rfl (r_moveV (v := .bool (decide _)) rfl) (rfl) ?_
        refine opG_yes rfl rfl rfl rfl rfl (r_loadRow rfl B2_11 Try.underlying27 rfl Try.sz27) ?_
        refine opG_yes rfl rfl rfl rfl rfl (r_build (cs := [.int _ _, .int _ _, .int _ _, .int _ _, .int _ _, .int _ _]) Try.lay27 (List.forall_mem_cons.2 ⟨rfl, List.forall_mem_cons.2 ⟨rfl, fun _ h => by cases h⟩⟩) rfl rfl) ?_
        refine opG_yes rfl rfl rfl rfl rfl (ri_eql (xs := [6, 0, 0, 0, 0, 7]) (ys := [6, 0, 0, 0, 0, 7]) Try.ints27 rfl rfl rfl rfl) ?_
        refine op rfl (r_pickTV (v := .bool _) rfl rfl) ?_
        refine op_true rfl (r_moveV (v := .bool (decide _)) rfl) (rfl) ?_
        refine opG_yes rfl rfl rfl rfl rfl (r_loadRow rfl B2_11 Try.underlying27 rfl Try.sz27) ?_
        refine opGCv_yes rfl rfl rfl rfl rfl (r_call Try.func12 Try.nm12 rfl) (ended_spec ⟨6, 0, 0, 0, 0, 7⟩ _) ?_
        rintro v w4 ⟨rfl, hE⟩
        replace B1_1 := Blk.ext B1_1 hE
        replace B2_6 := Blk.ext B2_6 hE
        replace B2_11 := Blk.ext B2_11 hE
        replace hX := hX.trans hE
        refine op rfl (r_pickTV (v := .bool _) rfl rfl) ?_
        refine op_true rfl (r_moveV (v := .bool (decide _)) rfl) (by decide) ?_
        refine opG_yes rfl rfl rfl rfl rfl (r_loadRow rfl B1_1 Try.underlying24 rfl Try.sz24) ?_
        refine opGCv_yes rfl rfl rfl rfl rfl (r_call Try.func14 Try.nm14 rfl) (bound_spec ⟨1, 5, 3⟩ _) ?_
        rintro v w5 ⟨rfl, hE⟩
        replace B1_1 := Blk.ext B1_1 hE
        replace B2_6 := Blk.ext B2_6 hE
        replace B2_11 := Blk.ext B2_11 hE
        replace hX := hX.trans hE
        refine opG_yes rfl rfl rfl rfl rfl (r_eql (m := 16) (n := 16) rfl rfl) ?_
        refine op rfl (r_pickTV (v := .bool _) rfl rfl) ?_
        refine op rfl (r_assignV (v := .bool _) rfl) ?_
        refine WL_nil ?_
        refine W_ret (finX_ret ?_)
        refine fin1 ?_
        exact ⟨_, rfl, rfl, hX⟩
    · refine O_new rfl rfl (r_alloc Try.zero27) ?_
      intro w2_11 b2_11 E2_11 B2_11 L2_11
      have hG2_11 : w.heap.size ≤ b2_11 := by have := hX.size; omega
      have hNb1_1_2_11 : b1_1 ≠ b2_11 := by have := Blk.lt B1_1; omega
      replace B1_1 := Blk.ext B1_1 E2_11
      have hNb2_6_2_11 : b2_6 ≠ b2_11 := by have := Blk.lt B2_6; omega
      replace B2_6 := Blk.ext B2_6 E2_11
      replace hX := hX.trans E2_11
      replace hS : Ext w w2_11 ∧ Same (fun b : Nat => b = b1_1 ∨ False) wd2 w2_11 := ⟨hX, fun b hb => Or.elim hb (fun q => by subst q; exact Blk.eq B1_1 DB1_1) (fun hb => hb.elim)⟩
      refine ⟨hS, ?_⟩
      refine A_ready1 (i := 1) (by kernel_rfl) ?_
      refine O_call rfl rfl (r_call Try.func11 Try.nm11 rfl) (new_spec false _) ?_
      rintro v w2 ⟨rfl, hE⟩
      replace B1_1 := Blk.ext B1_1 hE
      replace B2_6 := Blk.ext B2_6 hE
      replace B2_11 := Blk.ext B2_11 hE
      replace hX := hX.trans hE
      replace hS : Ext w w2 ∧ Same (fun b : Nat => b = b1_1 ∨ False) wd2 w2 := ⟨hX, fun b hb => Or.elim hb (fun q => by subst q; exact Blk.eq B1_1 DB1_1) (fun hb => hb.elim)⟩
      refine ⟨hS, ?_⟩
      refine A_ready1 (i := 7) (by kernel_rfl) ?_
      refine O_call rfl rfl (r_call Try.func16 Try.nm16 rfl) (kRun_spec (row_ints B2_6 (Blk.lt B2_6) (by decide))) ?_
      rintro v w3 ⟨rfl, hE⟩
      replace B1_1 := Blk.ext B1_1 hE
      replace B2_6 := Blk.ext B2_6 hE
      replace B2_11 := Blk.ext B2_11 hE
      replace hX := hX.trans hE
      replace hS : Ext w w3 ∧ Same (fun b : Nat => b = b1_1 ∨ False) wd2 w3 := ⟨hX, fun b hb => Or.elim hb (fun q => by subst q; exact Blk.eq B1_1 DB1_1) (fun hb => hb.elim)⟩
      refine ⟨hS, ?_⟩
      refine A_take (i := 8) rfl (by kernel_rfl) (by kernel_rfl) (by kernel_rfl) rfl hS (fun _ hw => r_moveV (v := .tuple #[(Lf.mk 6 0 0 0 0 7).val, .int .i64 4]) rfl) ?_
      refine A_take (i := 9) rfl (by kernel_rfl) (by kernel_rfl) (by kernel_rfl) rfl hS (fun _ hw => r_extract (vs := [(Lf.mk 6 0 0 0 0 7).val, .int .i64 4]) rfl rfl) ?_
      refine A_take (i := 10) rfl (by kernel_rfl) (by kernel_rfl) (by kernel_rfl) rfl hS (fun _ hw => r_extract (vs := [(Lf.mk 6 0 0 0 0 7).val, .int .i64 4]) rfl rfl) ?_
      refine A_ready1 (i := 12) (by kernel_rfl) ?_
      refine O_storeRow rfl rfl rfl Try.sz27 B2_11 rfl rfl ?_
      intro w2_12 C2_12 BB2_12
      replace B1_1 := Chg.blk C2_12 B1_1 hNb1_1_2_11
      replace B2_6 := Chg.blk C2_12 B2_6 hNb2_6_2_11
      replace hX := hX.chg C2_12 hG2_11
      replace B2_11 := BB2_12
      replace hS : Ext w w2_12 ∧ Same (fun b : Nat => b = b1_1 ∨ False) wd2 w2_12 := ⟨hX, fun b hb => Or.elim hb (fun q => by subst q; exact Blk.eq B1_1 DB1_1) (fun hb => hb.elim)⟩
      refine ⟨hS, ?_⟩
      refine A_take (i := 13) rfl (by kernel_rfl) (by kernel_rfl) (by kernel_rfl) rfl hS (fun _ hw => r_assignV (v := .int .i64 4) rfl) ?_
      refine A_done (by kernel_rfl) ?_
      refine W_seq ?_
      refine W_region ?_
      refine op rfl (r_moveV (v := .int .i64 4) rfl) ?_
      refine op rfl (r_eql rfl rfl) ?_
      refine op_true rfl (r_moveV (v := .bool (decide _)) rfl) (rfl) ?_
      refine opG_yes rfl rfl rfl rfl rfl (r_loadRow rfl B2_11 Try.underlying27 rfl Try.sz27) ?_
      refine opG_yes rfl rfl rfl rfl rfl (r_build (cs := [.int _ _, .int _ _, .int _ _, .int _ _, .int _ _, .int _ _]) Try.lay27 (List.forall_mem_cons.2 ⟨rfl, List.forall_mem_cons.2 ⟨rfl, fun _ h => by cases h⟩⟩) rfl rfl) ?_
      refine opG_yes rfl rfl rfl rfl rfl (ri_eql (xs := [6, 0, 0, 0, 0, 7]) (ys := [6, 0, 0, 0, 0, 7]) Try.ints27 rfl rfl rfl rfl) ?_
      refine op rfl (r_pickTV (v := .bool _) rfl rfl) ?_
      refine op_true rfl (r_moveV (v := .bool (decide _)) rfl) (rfl) ?_
      refine opG_yes rfl rfl rfl rfl rfl (r_loadRow rfl B2_11 Try.underlying27 rfl Try.sz27) ?_
      refine opGCv_yes rfl rfl rfl rfl rfl (r_call Try.func12 Try.nm12 rfl) (ended_spec ⟨6, 0, 0, 0, 0, 7⟩ _) ?_
      rintro v w4 ⟨rfl, hE⟩
      replace B1_1 := Blk.ext B1_1 hE
      replace B2_6 := Blk.ext B2_6 hE
      replace B2_11 := Blk.ext B2_11 hE
      replace hX := hX.trans hE
      refine op rfl (r_pickTV (v := .bool _) rfl rfl) ?_
      refine op_true rfl (r_moveV (v := .bool (decide _)) rfl) (by decide) ?_
      refine opG_yes rfl rfl rfl rfl rfl (r_loadRow rfl B1_1 Try.underlying24 rfl Try.sz24) ?_
      refine opGCv_yes rfl rfl rfl rfl rfl (r_call Try.func14 Try.nm14 rfl) (bound_spec ⟨1, 5, 3⟩ _) ?_
      rintro v w5 ⟨rfl, hE⟩
      replace B1_1 := Blk.ext B1_1 hE
      replace B2_6 := Blk.ext B2_6 hE
      replace B2_11 := Blk.ext B2_11 hE
      replace hX := hX.trans hE
      refine opG_yes rfl rfl rfl rfl rfl (r_eql (m := 16) (n := 16) rfl rfl) ?_
      refine op rfl (r_pickTV (v := .bool _) rfl rfl) ?_
      refine op rfl (r_assignV (v := .bool _) rfl) ?_
      refine WL_nil ?_
      refine W_ret (finX_ret ?_)
      refine fin1 ?_
      exact ⟨_, rfl, rfl, hX⟩
  · refine O_new rfl rfl (r_alloc Try.zero27) ?_
    intro w2_11 b2_11 E2_11 B2_11 L2_11
    have hG2_11 : w.heap.size ≤ b2_11 := by have := hX.size; omega
    have hNb1_1_2_11 : b1_1 ≠ b2_11 := by have := Blk.lt B1_1; omega
    replace B1_1 := Blk.ext B1_1 E2_11
    replace hX := hX.trans E2_11
    replace hS : Ext w w2_11 ∧ Same (fun b : Nat => b = b1_1 ∨ False) wd2 w2_11 := ⟨hX, fun b hb => Or.elim hb (fun q => by subst q; exact Blk.eq B1_1 DB1_1) (fun hb => hb.elim)⟩
    refine ⟨hS, ?_⟩
    refine A_ready2 (i := 1) (j := 6) (by kernel_rfl) ?_ ?_
    · refine O_call rfl rfl (r_call Try.func11 Try.nm11 rfl) (new_spec false _) ?_
      rintro v w2 ⟨rfl, hE⟩
      replace B1_1 := Blk.ext B1_1 hE
      replace B2_11 := Blk.ext B2_11 hE
      replace hX := hX.trans hE
      replace hS : Ext w w2 ∧ Same (fun b : Nat => b = b1_1 ∨ False) wd2 w2 := ⟨hX, fun b hb => Or.elim hb (fun q => by subst q; exact Blk.eq B1_1 DB1_1) (fun hb => hb.elim)⟩
      refine ⟨hS, ?_⟩
      refine A_ready1 (i := 6) (by kernel_rfl) ?_
      refine O_newS rfl rfl (r_buildRows (vs := [[.int _ _, .int _ _], [.int _ _, .int _ _], [.int _ _, .int _ _], [.int _ _, .int _ _]]) Try.underlying41 Try.sz31 Try.zero31 rfl rfl rfl) ?_
      intro w2_6 b2_6 E2_6 B2_6 L2_6
      have hG2_6 : w.heap.size ≤ b2_6 := by have := hX.size; omega
      have hNb1_1_2_6 : b1_1 ≠ b2_6 := by have := Blk.lt B1_1; omega
      replace B1_1 := Blk.ext B1_1 E2_6
      have hNb2_11_2_6 : b2_11 ≠ b2_6 := by have := Blk.lt B2_11; omega
      replace B2_11 := Blk.ext B2_11 E2_6
      replace hX := hX.trans E2_6
      replace hS : Ext w w2_6 ∧ Same (fun b : Nat => b = b1_1 ∨ False) wd2 w2_6 := ⟨hX, fun b hb => Or.elim hb (fun q => by subst q; exact Blk.eq B1_1 DB1_1) (fun hb => hb.elim)⟩
      refine ⟨hS, ?_⟩
      refine A_ready1 (i := 7) (by kernel_rfl) ?_
      refine O_call rfl rfl (r_call Try.func16 Try.nm16 rfl) (kRun_spec (row_ints B2_6 (Blk.lt B2_6) (by decide))) ?_
      rintro v w3 ⟨rfl, hE⟩
      replace B1_1 := Blk.ext B1_1 hE
      replace B2_11 := Blk.ext B2_11 hE
      replace B2_6 := Blk.ext B2_6 hE
      replace hX := hX.trans hE
      replace hS : Ext w w3 ∧ Same (fun b : Nat => b = b1_1 ∨ False) wd2 w3 := ⟨hX, fun b hb => Or.elim hb (fun q => by subst q; exact Blk.eq B1_1 DB1_1) (fun hb => hb.elim)⟩
      refine ⟨hS, ?_⟩
      refine A_take (i := 8) rfl (by kernel_rfl) (by kernel_rfl) (by kernel_rfl) rfl hS (fun _ hw => r_moveV (v := .tuple #[(Lf.mk 6 0 0 0 0 7).val, .int .i64 4]) rfl) ?_
      refine A_take (i := 9) rfl (by kernel_rfl) (by kernel_rfl) (by kernel_rfl) rfl hS (fun _ hw => r_extract (vs := [(Lf.mk 6 0 0 0 0 7).val, .int .i64 4]) rfl rfl) ?_
      refine A_take (i := 10) rfl (by kernel_rfl) (by kernel_rfl) (by kernel_rfl) rfl hS (fun _ hw => r_extract (vs := [(Lf.mk 6 0 0 0 0 7).val, .int .i64 4]) rfl rfl) ?_
      refine A_ready1 (i := 12) (by kernel_rfl) ?_
      refine O_storeRow rfl rfl rfl Try.sz27 B2_11 rfl rfl ?_
      intro w2_12 C2_12 BB2_12
      replace B1_1 := Chg.blk C2_12 B1_1 hNb1_1_2_11
      replace B2_6 := Chg.blk C2_12 B2_6 (fun q => hNb2_11_2_6 q.symm)
      replace hX := hX.chg C2_12 hG2_11
      replace B2_11 := BB2_12
      replace hS : Ext w w2_12 ∧ Same (fun b : Nat => b = b1_1 ∨ False) wd2 w2_12 := ⟨hX, fun b hb => Or.elim hb (fun q => by subst q; exact Blk.eq B1_1 DB1_1) (fun hb => hb.elim)⟩
      refine ⟨hS, ?_⟩
      refine A_take (i := 13) rfl (by kernel_rfl) (by kernel_rfl) (by kernel_rfl) rfl hS (fun _ hw => r_assignV (v := .int .i64 4) rfl) ?_
      refine A_done (by kernel_rfl) ?_
      refine W_seq ?_
      refine W_region ?_
      refine op rfl (r_moveV (v := .int .i64 4) rfl) ?_
      refine op rfl (r_eql rfl rfl) ?_
      refine op_true rfl (r_moveV (v := .bool (decide _)) rfl) (rfl) ?_
      refine opG_yes rfl rfl rfl rfl rfl (r_loadRow rfl B2_11 Try.underlying27 rfl Try.sz27) ?_
      refine opG_yes rfl rfl rfl rfl rfl (r_build (cs := [.int _ _, .int _ _, .int _ _, .int _ _, .int _ _, .int _ _]) Try.lay27 (List.forall_mem_cons.2 ⟨rfl, List.forall_mem_cons.2 ⟨rfl, fun _ h => by cases h⟩⟩) rfl rfl) ?_
      refine opG_yes rfl rfl rfl rfl rfl (ri_eql (xs := [6, 0, 0, 0, 0, 7]) (ys := [6, 0, 0, 0, 0, 7]) Try.ints27 rfl rfl rfl rfl) ?_
      refine op rfl (r_pickTV (v := .bool _) rfl rfl) ?_
      refine op_true rfl (r_moveV (v := .bool (decide _)) rfl) (rfl) ?_
      refine opG_yes rfl rfl rfl rfl rfl (r_loadRow rfl B2_11 Try.underlying27 rfl Try.sz27) ?_
      refine opGCv_yes rfl rfl rfl rfl rfl (r_call Try.func12 Try.nm12 rfl) (ended_spec ⟨6, 0, 0, 0, 0, 7⟩ _) ?_
      rintro v w4 ⟨rfl, hE⟩
      replace B1_1 := Blk.ext B1_1 hE
      replace B2_11 := Blk.ext B2_11 hE
      replace B2_6 := Blk.ext B2_6 hE
      replace hX := hX.trans hE
      refine op rfl (r_pickTV (v := .bool _) rfl rfl) ?_
      refine op_true rfl (r_moveV (v := .bool (decide _)) rfl) (by decide) ?_
      refine opG_yes rfl rfl rfl rfl rfl (r_loadRow rfl B1_1 Try.underlying24 rfl Try.sz24) ?_
      refine opGCv_yes rfl rfl rfl rfl rfl (r_call Try.func14 Try.nm14 rfl) (bound_spec ⟨1, 5, 3⟩ _) ?_
      rintro v w5 ⟨rfl, hE⟩
      replace B1_1 := Blk.ext B1_1 hE
      replace B2_11 := Blk.ext B2_11 hE
      replace B2_6 := Blk.ext B2_6 hE
      replace hX := hX.trans hE
      refine opG_yes rfl rfl rfl rfl rfl (r_eql (m := 16) (n := 16) rfl rfl) ?_
      refine op rfl (r_pickTV (v := .bool _) rfl rfl) ?_
      refine op rfl (r_assignV (v := .bool _) rfl) ?_
      refine WL_nil ?_
      refine W_ret (finX_ret ?_)
      refine fin1 ?_
      exact ⟨_, rfl, rfl, hX⟩
    · refine O_newS rfl rfl (r_buildRows (vs := [[.int _ _, .int _ _], [.int _ _, .int _ _], [.int _ _, .int _ _], [.int _ _, .int _ _]]) Try.underlying41 Try.sz31 Try.zero31 rfl rfl rfl) ?_
      intro w2_6 b2_6 E2_6 B2_6 L2_6
      have hG2_6 : w.heap.size ≤ b2_6 := by have := hX.size; omega
      have hNb1_1_2_6 : b1_1 ≠ b2_6 := by have := Blk.lt B1_1; omega
      replace B1_1 := Blk.ext B1_1 E2_6
      have hNb2_11_2_6 : b2_11 ≠ b2_6 := by have := Blk.lt B2_11; omega
      replace B2_11 := Blk.ext B2_11 E2_6
      replace hX := hX.trans E2_6
      replace hS : Ext w w2_6 ∧ Same (fun b : Nat => b = b1_1 ∨ False) wd2 w2_6 := ⟨hX, fun b hb => Or.elim hb (fun q => by subst q; exact Blk.eq B1_1 DB1_1) (fun hb => hb.elim)⟩
      refine ⟨hS, ?_⟩
      refine A_ready1 (i := 1) (by kernel_rfl) ?_
      refine O_call rfl rfl (r_call Try.func11 Try.nm11 rfl) (new_spec false _) ?_
      rintro v w2 ⟨rfl, hE⟩
      replace B1_1 := Blk.ext B1_1 hE
      replace B2_11 := Blk.ext B2_11 hE
      replace B2_6 := Blk.ext B2_6 hE
      replace hX := hX.trans hE
      replace hS : Ext w w2 ∧ Same (fun b : Nat => b = b1_1 ∨ False) wd2 w2 := ⟨hX, fun b hb => Or.elim hb (fun q => by subst q; exact Blk.eq B1_1 DB1_1) (fun hb => hb.elim)⟩
      refine ⟨hS, ?_⟩
      refine A_ready1 (i := 7) (by kernel_rfl) ?_
      refine O_call rfl rfl (r_call Try.func16 Try.nm16 rfl) (kRun_spec (row_ints B2_6 (Blk.lt B2_6) (by decide))) ?_
      rintro v w3 ⟨rfl, hE⟩
      replace B1_1 := Blk.ext B1_1 hE
      replace B2_11 := Blk.ext B2_11 hE
      replace B2_6 := Blk.ext B2_6 hE
      replace hX := hX.trans hE
      replace hS : Ext w w3 ∧ Same (fun b : Nat => b = b1_1 ∨ False) wd2 w3 := ⟨hX, fun b hb => Or.elim hb (fun q => by subst q; exact Blk.eq B1_1 DB1_1) (fun hb => hb.elim)⟩
      refine ⟨hS, ?_⟩
      refine A_take (i := 8) rfl (by kernel_rfl) (by kernel_rfl) (by kernel_rfl) rfl hS (fun _ hw => r_moveV (v := .tuple #[(Lf.mk 6 0 0 0 0 7).val, .int .i64 4]) rfl) ?_
      refine A_take (i := 9) rfl (by kernel_rfl) (by kernel_rfl) (by kernel_rfl) rfl hS (fun _ hw => r_extract (vs := [(Lf.mk 6 0 0 0 0 7).val, .int .i64 4]) rfl rfl) ?_
      refine A_take (i := 10) rfl (by kernel_rfl) (by kernel_rfl) (by kernel_rfl) rfl hS (fun _ hw => r_extract (vs := [(Lf.mk 6 0 0 0 0 7).val, .int .i64 4]) rfl rfl) ?_
      refine A_ready1 (i := 12) (by kernel_rfl) ?_
      refine O_storeRow rfl rfl rfl Try.sz27 B2_11 rfl rfl ?_
      intro w2_12 C2_12 BB2_12
      replace B1_1 := Chg.blk C2_12 B1_1 hNb1_1_2_11
      replace B2_6 := Chg.blk C2_12 B2_6 (fun q => hNb2_11_2_6 q.symm)
      replace hX := hX.chg C2_12 hG2_11
      replace B2_11 := BB2_12
      replace hS : Ext w w2_12 ∧ Same (fun b : Nat => b = b1_1 ∨ False) wd2 w2_12 := ⟨hX, fun b hb => Or.elim hb (fun q => by subst q; exact Blk.eq B1_1 DB1_1) (fun hb => hb.elim)⟩
      refine ⟨hS, ?_⟩
      refine A_take (i := 13) rfl (by kernel_rfl) (by kernel_rfl) (by kernel_rfl) rfl hS (fun _ hw => r_assignV (v := .int .i64 4) rfl) ?_
      refine A_done (by kernel_rfl) ?_
      refine W_seq ?_
      refine W_region ?_
      refine op rfl (r_moveV (v := .int .i64 4) rfl) ?_
      refine op rfl (r_eql rfl rfl) ?_
      refine op_true rfl (r_moveV (v := .bool (decide _)) rfl) (rfl) ?_
      refine opG_yes rfl rfl rfl rfl rfl (r_loadRow rfl B2_11 Try.underlying27 rfl Try.sz27) ?_
      refine opG_yes rfl rfl rfl rfl rfl (r_build (cs := [.int _ _, .int _ _, .int _ _, .int _ _, .int _ _, .int _ _]) Try.lay27 (List.forall_mem_cons.2 ⟨rfl, List.forall_mem_cons.2 ⟨rfl, fun _ h => by cases h⟩⟩) rfl rfl) ?_
      refine opG_yes rfl rfl rfl rfl rfl (ri_eql (xs := [6, 0, 0, 0, 0, 7]) (ys := [6, 0, 0, 0, 0, 7]) Try.ints27 rfl rfl rfl rfl) ?_
      refine op rfl (r_pickTV (v := .bool _) rfl rfl) ?_
      refine op_true rfl (r_moveV (v := .bool (decide _)) rfl) (rfl) ?_
      refine opG_yes rfl rfl rfl rfl rfl (r_loadRow rfl B2_11 Try.underlying27 rfl Try.sz27) ?_
      refine opGCv_yes rfl rfl rfl rfl rfl (r_call Try.func12 Try.nm12 rfl) (ended_spec ⟨6, 0, 0, 0, 0, 7⟩ _) ?_
      rintro v w4 ⟨rfl, hE⟩
      replace B1_1 := Blk.ext B1_1 hE
      replace B2_11 := Blk.ext B2_11 hE
      replace B2_6 := Blk.ext B2_6 hE
      replace hX := hX.trans hE
      refine op rfl (r_pickTV (v := .bool _) rfl rfl) ?_
      refine op_true rfl (r_moveV (v := .bool (decide _)) rfl) (by decide) ?_
      refine opG_yes rfl rfl rfl rfl rfl (r_loadRow rfl B1_1 Try.underlying24 rfl Try.sz24) ?_
      refine opGCv_yes rfl rfl rfl rfl rfl (r_call Try.func14 Try.nm14 rfl) (bound_spec ⟨1, 5, 3⟩ _) ?_
      rintro v w5 ⟨rfl, hE⟩
      replace B1_1 := Blk.ext B1_1 hE
      replace B2_11 := Blk.ext B2_11 hE
      replace B2_6 := Blk.ext B2_6 hE
      replace hX := hX.trans hE
      refine opG_yes rfl rfl rfl rfl rfl (r_eql (m := 16) (n := 16) rfl rfl) ?_
      refine op rfl (r_pickTV (v := .bool _) rfl rfl) ?_
      refine op rfl (r_assignV (v := .bool _) rfl) ?_
      refine WL_nil ?_
      refine W_ret (finX_ret ?_)
      refine fin1 ?_
      exact ⟨_, rfl, rfl, hX⟩
end Go.Proofs.Ytfocbkdoolnijaa
