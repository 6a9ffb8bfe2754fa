/-
  Events in two rows, the one behind the other, are as all of them: the walk.
-/
import Derived.Test.YtfocbkdoolnijaaFacts
import Derived.Test.YtfocbkdoolnijaaLifeK
import Derived.Test.YtfocbkdoolnijaaLifeP
namespace Go.Proofs.Ytfocbkdoolnijaa
open Go Go.Eng Go.RowKit Go.Proofs
set_option linter.unusedVariables false
set_option maxRecDepth 20000

theorem lifeRuns_walk (W : World) (m : Lim) (hm : ∀ i ∈ [m.retries, m.review, m.backoff], inK .i64 i) (x : Lf) (hx : ∀ i ∈ [x.state, x.why, x.tries, x.wait, x.request, x.rev], inK .i64 i)
    (A : Option Addr) (ca : Nat) (a : List (Int × Int)) (hca : a.length ≤ ca) (hba : a.length ≤ big) (hA : evT.Row W (old W) A a) (B : Option Addr) (cb : Nat) (b : List (Int × Int)) (hcb : b.length ≤ cb) (hbb : b.length ≤ big) (hB : evT.Row W (old W) B b) :
    Calls Try.prog 5 #[m.val, x.val, .slice A a.length ca, .slice B b.length cb] W (fun e W' => ∃ v, e = .returned v ∧ v = .bool true ∧ Ext W W') := by
  clear hm hx
  have hba' : a.length ≤ 140737488355328 := hba
  have hbb' : b.length ≤ 140737488355328 := hbb
  clear hba hbb
  obtain ⟨y, hy⟩ : ∃ y, Lf.run m x 0 a = y := ⟨_, rfl⟩
  obtain ⟨z, hz⟩ : ∃ z, Lf.run m y.1 0 b = z := ⟨_, rfl⟩
  have hall : Lf.run m x 0 (a ++ [(99, 0)] ++ b) = (z.1, y.2 + z.2) := by rw [run_all, hy, hz]
  have hy0 := run_count m a x 0
  have hz0 := run_count m b y.1 0
  rw [hy] at hy0
  rw [hz] at hz0
  have R1 : ∀ w, Ext W w → Calls Try.prog 16 #[m.val, x.val, .slice A a.length ca] w (fun en w' => ∃ v, en = .returned v ∧ v = .tuple #[y.1.val, .int .i64 y.2] ∧ Ext w w') := fun w hw => by
    have := run_spec m x A ca a w (by omega) (hA.ext hw)
    rwa [hy] at this
  have R2 : ∀ w, Ext W w → Calls Try.prog 16 #[m.val, y.1.val, .slice B b.length cb] w (fun en w' => ∃ v, en = .returned v ∧ v = .tuple #[z.1.val, .int .i64 z.2] ∧ Ext w w') := fun w hw => by
    have := run_spec m y.1 B cb b w (by omega) (hB.ext hw)
    rwa [hz] at this
  have R4 : ∀ w, Calls Try.prog 16 #[m.val, x.val, .slice none 0 0] w (fun en w' => ∃ v, en = .returned v ∧ v = .tuple #[x.val, .int .i64 0] ∧ Ext w w') := fun w => run_spec m x none 0 [] w (by simp) Ty.Row.nil
  refine calls' (n := 84) (rs := #[.tmp 8]) (l := [m.val, x.val, .slice A a.length ca, .slice B b.length cb]) Try.func5 rfl rfl rfl rfl rfl ?_
  have hX := Ext.refl W
  refine W_seq ?_
  refine W_region ?_
  refine op_box (v := .agg _) rfl rfl ?_
  intro w0_0 b0_0 E0_0 B0_0 L0_0
  have hG0_0 : W.heap.size ≤ b0_0 := by have := hX.size; omega
  replace hX := hX.trans E0_0
  refine op_box (v := .agg _) rfl rfl ?_
  intro w0_1 b0_1 E0_1 B0_1 L0_1
  have hG0_1 : W.heap.size ≤ b0_1 := by have := hX.size; omega
  have hNb0_0_0_1 : b0_0 ≠ b0_1 := by have := Blk.lt B0_0; omega
  replace B0_0 := Blk.ext B0_0 E0_1
  replace hX := hX.trans E0_1
  refine op rfl (r_assignV (v := .bool _) rfl) ?_
  refine WL_nil ?_
  refine W_seq ?_
  refine W_seq ?_
  refine W_region ?_
  refine op rfl (r_moveV (v := .slice _ _ _) rfl) ?_
  refine op rfl (r_len_slice rfl Try.underlying41) ?_
  refine op rfl (r_moveV (v := .slice _ _ _) rfl) ?_
  refine op rfl (r_len_slice rfl Try.underlying41) ?_
  refine op rfl (r_add' rfl rfl (wrap_i64 (by omega) (by omega))) ?_
  refine op rfl (r_gtr rfl rfl) ?_
  refine WL_nil ?_
  refine W_ifp rfl (fun ht23 => ?_) (fun ht23 => ?_)
  · refine W_seq ?_
    refine W_region ?_
    refine opCv rfl (r_call Try.func10 Try.nm10 rfl) (known_spec _) ?_
    rintro v w2 ⟨rfl, hE⟩
    replace B0_0 := Blk.ext B0_0 hE
    replace B0_1 := Blk.ext B0_1 hE
    replace hX := hX.trans hE
    refine op rfl (r_assignV (v := .bool _) rfl) ?_
    refine WL_nil ?_
    refine W_ret (finX_ret ?_)
    refine fin1 ?_
    exact ⟨_, rfl, rfl, hX⟩
  · have hsum : a.length + b.length ≤ 200 := by omega
    have R3 : ∀ (w : World) (A8 : Option Addr) (c8 : Nat), evT.Row w (old w) A8 (a ++ [(99, 0)] ++ b) → Calls Try.prog 16 #[m.val, x.val, .slice A8 (a ++ [(99, 0)] ++ b).length c8] w (fun en w' => ∃ v, en = .returned v ∧ v = .tuple #[z.1.val, .int .i64 (y.2 + z.2)] ∧ Ext w w') := fun w A8 c8 hr => by
      have := run_spec m x A8 c8 (a ++ [(99, 0)] ++ b) w (by simp; omega) hr
      rwa [hall] at this
    refine W_skip ?_
    refine W_seq ?_
    refine W_region ?_
    refine op rfl (r_loadRow rfl B0_0 Try.underlying24 rfl Try.sz24) ?_
    refine op rfl (r_loadRow rfl B0_1 Try.underlying27 rfl Try.sz27) ?_
    refine op rfl (r_moveV (v := .slice _ _ _) rfl) ?_
    refine opCv rfl (r_call Try.func16 Try.nm16 rfl) (R1 _ hX) ?_
    rintro v w3 ⟨rfl, hE⟩
    replace B0_0 := Blk.ext B0_0 hE
    replace B0_1 := Blk.ext B0_1 hE
    replace hX := hX.trans hE
    refine op rfl (r_moveV (v := .tuple #[y.1.val, .int .i64 y.2]) rfl) ?_
    refine op rfl (r_extract (vs := [y.1.val, .int .i64 y.2]) rfl rfl) ?_
    refine op rfl (r_extract (vs := [y.1.val, .int .i64 y.2]) rfl rfl) ?_
    refine op_alloc rfl Try.zero27 ?_
    intro w3_7 b3_7 E3_7 B3_7 L3_7
    have hG3_7 : W.heap.size ≤ b3_7 := by have := hX.size; omega
    have hNb0_0_3_7 : b0_0 ≠ b3_7 := by have := Blk.lt B0_0; omega
    replace B0_0 := Blk.ext B0_0 E3_7
    have hNb0_1_3_7 : b0_1 ≠ b3_7 := by have := Blk.lt B0_1; omega
    replace B0_1 := Blk.ext B0_1 E3_7
    replace hX := hX.trans E3_7
    refine op_storeRow rfl rfl Try.sz27 B3_7 rfl rfl ?_
    intro w3_8 C3_8 BB3_8
    replace B0_0 := Chg.blk C3_8 B0_0 hNb0_0_3_7
    replace B0_1 := Chg.blk C3_8 B0_1 hNb0_1_3_7
    replace hX := hX.chg C3_8 hG3_7
    replace B3_7 := BB3_8
    refine op rfl (r_assignV (v := .int .i64 y.2) rfl) ?_
    refine WL_nil ?_
    refine W_seq ?_
    refine W_region ?_
    refine op rfl (r_loadRow rfl B0_0 Try.underlying24 rfl Try.sz24) ?_
    refine op rfl (r_loadRow rfl B3_7 Try.underlying27 rfl Try.sz27) ?_
    refine op rfl (r_moveV (v := .slice _ _ _) rfl) ?_
    refine opCv rfl (r_call Try.func16 Try.nm16 rfl) (R2 _ hX) ?_
    rintro v w4 ⟨rfl, hE⟩
    replace B0_0 := Blk.ext B0_0 hE
    replace B0_1 := Blk.ext B0_1 hE
    replace B3_7 := Blk.ext B3_7 hE
    replace hX := hX.trans hE
    refine op rfl (r_moveV (v := .tuple #[z.1.val, .int .i64 z.2]) rfl) ?_
    refine op rfl (r_extract (vs := [z.1.val, .int .i64 z.2]) rfl rfl) ?_
    refine op rfl (r_extract (vs := [z.1.val, .int .i64 z.2]) rfl rfl) ?_
    refine op_alloc rfl Try.zero27 ?_
    intro w4_7 b4_7 E4_7 B4_7 L4_7
    have hG4_7 : W.heap.size ≤ b4_7 := by have := hX.size; omega
    have hNb0_0_4_7 : b0_0 ≠ b4_7 := by have := Blk.lt B0_0; omega
    replace B0_0 := Blk.ext B0_0 E4_7
    have hNb0_1_4_7 : b0_1 ≠ b4_7 := by have := Blk.lt B0_1; omega
    replace B0_1 := Blk.ext B0_1 E4_7
    have hNb3_7_4_7 : b3_7 ≠ b4_7 := by have := Blk.lt B3_7; omega
    replace B3_7 := Blk.ext B3_7 E4_7
    replace hX := hX.trans E4_7
    refine op_storeRow rfl rfl Try.sz27 B4_7 rfl rfl ?_
    intro w4_8 C4_8 BB4_8
    replace B0_0 := Chg.blk C4_8 B0_0 hNb0_0_4_7
    replace B0_1 := Chg.blk C4_8 B0_1 hNb0_1_4_7
    replace B3_7 := Chg.blk C4_8 B3_7 hNb3_7_4_7
    replace hX := hX.chg C4_8 hG4_7
    replace B4_7 := BB4_8
    refine op rfl (r_assignV (v := .int .i64 z.2) rfl) ?_
    refine WL_nil ?_
    refine W_seq ?_
    refine W_region ?_
    refine op rfl (r_assignV (v := .slice _ _ _) rfl) ?_
    refine WL_nil ?_
    refine W_seq ?_
    refine W_region ?_
    refine op rfl (r_moveV (v := .slice _ _ _) rfl) ?_
    refine op rfl (r_moveV (v := .slice _ _ _) rfl) ?_
    refine op_app flat_ints rfl rfl rfl Try.underlying41 Try.sz31 Try.by31 Try.zero31 rfl (Ext.refl _) (Own.nil) (hA.ext hX) (by simp only [List.length_nil]; omega) (by simp only [List.length_nil]; omega) ?_
    intro v6_2 w6_2 O6_2 X6_2 G6_2
    have hXb := hX
    have Q0 := B0_0
    have Q1 := B0_1
    have Q2 := B3_7
    have Q3 := B4_7
    replace hX := hXb.trans X6_2
    replace B0_0 := Blk.ext Q0 X6_2
    replace B0_1 := Blk.ext Q1 X6_2
    replace B3_7 := Blk.ext Q2 X6_2
    replace B4_7 := Blk.ext Q3 X6_2
    refine op rfl (r_assignV (v := v6_2) rfl) ?_
    refine WL_nil ?_
    refine W_seq ?_
    refine W_region ?_
    refine op rfl (r_moveV (v := v6_2) rfl) ?_
    refine op rfl (r_build (cs := [.int _ _, .int _ _]) Try.lay31 (List.forall_mem_cons.2 ⟨rfl, fun _ h => by cases h⟩) rfl rfl) ?_
    refine op_newS rfl (r_buildRows (vs := [[.int _ _, .int _ _]]) Try.underlying41 Try.sz31 Try.zero31 rfl rfl rfl) ?_
    intro w7_2 b7_2 E7_2 B7_2 L7_2
    have hG7_2 : W.heap.size ≤ b7_2 := by have := hX.size; omega
    have hNb0_0_7_2 : b0_0 ≠ b7_2 := by have := Blk.lt B0_0; omega
    replace B0_0 := Blk.ext B0_0 E7_2
    have hNb0_1_7_2 : b0_1 ≠ b7_2 := by have := Blk.lt B0_1; omega
    replace B0_1 := Blk.ext B0_1 E7_2
    have hNb3_7_7_2 : b3_7 ≠ b7_2 := by have := Blk.lt B3_7; omega
    replace B3_7 := Blk.ext B3_7 E7_2
    have hNb4_7_7_2 : b4_7 ≠ b7_2 := by have := Blk.lt B4_7; omega
    replace B4_7 := Blk.ext B4_7 E7_2
    replace hX := hX.trans E7_2
    refine op_app (v := v6_2) flat_ints rfl rfl rfl Try.underlying41 Try.sz31 Try.by31 Try.zero31 rfl (X6_2.trans E7_2) (own_fext O6_2 E7_2) ((row_ints B7_2 (Blk.lt B7_2) (by decide) : evT.Row w7_2 (old w7_2) (some ⟨b7_2, 0, none⟩) [(99, 0)])) (by simp only [List.length_append, List.length_cons, List.length_nil]; omega) (by simp only [List.length_append, List.length_cons, List.length_nil]; omega) ?_
    intro v7_3 w7_3 O7_3 X7_3 G7_3
    replace hX := hXb.trans X7_3
    replace B0_0 := Blk.ext Q0 X7_3
    replace B0_1 := Blk.ext Q1 X7_3
    replace B3_7 := Blk.ext Q2 X7_3
    replace B4_7 := Blk.ext Q3 X7_3
    refine op rfl (r_assignV (v := v7_3) rfl) ?_
    refine WL_nil ?_
    refine W_seq ?_
    refine W_region ?_
    refine op rfl (r_moveV (v := v7_3) rfl) ?_
    refine op rfl (r_moveV (v := .slice _ _ _) rfl) ?_
    refine op_app (v := v7_3) flat_ints rfl rfl rfl Try.underlying41 Try.sz31 Try.by31 Try.zero31 rfl (X7_3) (O7_3) (hB.ext hX) (by simp only [List.length_append, List.length_cons, List.length_nil]; omega) (by simp only [List.length_append, List.length_cons, List.length_nil]; omega) ?_
    intro v8_2 w8_2 O8_2 X8_2 G8_2
    replace hX := hXb.trans X8_2
    replace B0_0 := Blk.ext Q0 X8_2
    replace B0_1 := Blk.ext Q1 X8_2
    replace B3_7 := Blk.ext Q2 X8_2
    replace B4_7 := Blk.ext Q3 X8_2
    rw [List.nil_append] at O8_2
    obtain ⟨A8, c8, rfl, hc8, hR8⟩ := own_frow O8_2
    refine op rfl (r_assignV (v := .slice A8 (a ++ [(99, 0)] ++ b).length c8) rfl) ?_
    refine WL_nil ?_
    refine W_seq ?_
    refine W_region ?_
    refine op rfl (r_loadRow rfl B0_0 Try.underlying24 rfl Try.sz24) ?_
    refine op rfl (r_loadRow rfl B0_1 Try.underlying27 rfl Try.sz27) ?_
    refine op rfl (r_moveV (v := .slice A8 (a ++ [(99, 0)] ++ b).length c8) rfl) ?_
    refine opCv rfl (r_call Try.func16 Try.nm16 rfl) (R3 _ A8 c8 hR8) ?_
    rintro v w5 ⟨rfl, hE⟩
    replace B0_0 := Blk.ext B0_0 hE
    replace B0_1 := Blk.ext B0_1 hE
    replace B3_7 := Blk.ext B3_7 hE
    replace B4_7 := Blk.ext B4_7 hE
    replace hX := hX.trans hE
    refine op rfl (r_moveV (v := .tuple #[z.1.val, .int .i64 (y.2 + z.2)]) rfl) ?_
    refine op rfl (r_extract (vs := [z.1.val, .int .i64 (y.2 + z.2)]) rfl rfl) ?_
    refine op rfl (r_extract (vs := [z.1.val, .int .i64 (y.2 + z.2)]) rfl rfl) ?_
    refine op_alloc rfl Try.zero27 ?_
    intro w9_7 b9_7 E9_7 B9_7 L9_7
    have hG9_7 : W.heap.size ≤ b9_7 := by have := hX.size; omega
    have hNb0_0_9_7 : b0_0 ≠ b9_7 := by have := Blk.lt B0_0; omega
    replace B0_0 := Blk.ext B0_0 E9_7
    have hNb0_1_9_7 : b0_1 ≠ b9_7 := by have := Blk.lt B0_1; omega
    replace B0_1 := Blk.ext B0_1 E9_7
    have hNb3_7_9_7 : b3_7 ≠ b9_7 := by have := Blk.lt B3_7; omega
    replace B3_7 := Blk.ext B3_7 E9_7
    have hNb4_7_9_7 : b4_7 ≠ b9_7 := by have := Blk.lt B4_7; omega
    replace B4_7 := Blk.ext B4_7 E9_7
    replace hX := hX.trans E9_7
    refine op_storeRow rfl rfl Try.sz27 B9_7 rfl rfl ?_
    intro w9_8 C9_8 BB9_8
    replace B0_0 := Chg.blk C9_8 B0_0 hNb0_0_9_7
    replace B0_1 := Chg.blk C9_8 B0_1 hNb0_1_9_7
    replace B3_7 := Chg.blk C9_8 B3_7 hNb3_7_9_7
    replace B4_7 := Chg.blk C9_8 B4_7 hNb4_7_9_7
    replace hX := hX.chg C9_8 hG9_7
    replace B9_7 := BB9_8
    refine op rfl (r_assignV (v := .int .i64 (y.2 + z.2)) rfl) ?_
    refine WL_nil ?_
    refine W_seq ?_
    refine W_region ?_
    refine op rfl (r_loadRow rfl B0_0 Try.underlying24 rfl Try.sz24) ?_
    refine op rfl (r_loadRow rfl B0_1 Try.underlying27 rfl Try.sz27) ?_
    refine opCv rfl (r_call Try.func16 Try.nm16 rfl) (R4 _) ?_
    rintro v w6 ⟨rfl, hE⟩
    replace B0_0 := Blk.ext B0_0 hE
    replace B0_1 := Blk.ext B0_1 hE
    replace B3_7 := Blk.ext B3_7 hE
    replace B4_7 := Blk.ext B4_7 hE
    replace B9_7 := Blk.ext B9_7 hE
    replace hX := hX.trans hE
    refine op rfl (r_moveV (v := .tuple #[x.val, .int .i64 0]) rfl) ?_
    refine op rfl (r_extract (vs := [x.val, .int .i64 0]) rfl rfl) ?_
    refine op rfl (r_extract (vs := [x.val, .int .i64 0]) rfl rfl) ?_
    refine op_alloc rfl Try.zero27 ?_
    intro w10_6 b10_6 E10_6 B10_6 L10_6
    have hG10_6 : W.heap.size ≤ b10_6 := by have := hX.size; omega
    have hNb0_0_10_6 : b0_0 ≠ b10_6 := by have := Blk.lt B0_0; omega
    replace B0_0 := Blk.ext B0_0 E10_6
    have hNb0_1_10_6 : b0_1 ≠ b10_6 := by have := Blk.lt B0_1; omega
    replace B0_1 := Blk.ext B0_1 E10_6
    have hNb3_7_10_6 : b3_7 ≠ b10_6 := by have := Blk.lt B3_7; omega
    replace B3_7 := Blk.ext B3_7 E10_6
    have hNb4_7_10_6 : b4_7 ≠ b10_6 := by have := Blk.lt B4_7; omega
    replace B4_7 := Blk.ext B4_7 E10_6
    have hNb9_7_10_6 : b9_7 ≠ b10_6 := by have := Blk.lt B9_7; omega
    replace B9_7 := Blk.ext B9_7 E10_6
    replace hX := hX.trans E10_6
    refine op_storeRow rfl rfl Try.sz27 B10_6 rfl rfl ?_
    intro w10_7 C10_7 BB10_7
    replace B0_0 := Chg.blk C10_7 B0_0 hNb0_0_10_6
    replace B0_1 := Chg.blk C10_7 B0_1 hNb0_1_10_6
    replace B3_7 := Chg.blk C10_7 B3_7 hNb3_7_10_6
    replace B4_7 := Chg.blk C10_7 B4_7 hNb4_7_10_6
    replace B9_7 := Chg.blk C10_7 B9_7 hNb9_7_10_6
    replace hX := hX.chg C10_7 hG10_6
    replace B10_6 := BB10_7
    refine op rfl (r_assignV (v := .int .i64 0) rfl) ?_
    refine WL_nil ?_
    refine W_seq ?_
    refine W_region ?_
    refine op rfl (r_loadRow rfl B9_7 Try.underlying27 rfl Try.sz27) ?_
    refine op rfl (r_loadRow rfl B4_7 Try.underlying27 rfl Try.sz27) ?_
    refine op rfl (ri_eql (xs := z.1.l) (ys := z.1.l) Try.ints27 rfl rfl rfl rfl) ?_
    refine op_true rfl (r_moveV (v := .bool (decide _)) rfl) (rfl) ?_
    refine opG_yes rfl rfl rfl rfl rfl (r_moveV (v := .int .i64 (y.2 + z.2)) rfl) ?_
    refine opG_yes rfl rfl rfl rfl rfl (r_moveV (v := .int .i64 y.2) rfl) ?_
    refine opG_yes rfl rfl rfl rfl rfl (r_moveV (v := .int .i64 z.2) rfl) ?_
    refine opG_yes rfl rfl rfl rfl rfl (r_add' rfl rfl (wrap_i64 (by omega) (by omega))) ?_
    refine opG_yes rfl rfl rfl rfl rfl (r_eql (m := y.2 + z.2) (n := y.2 + z.2) rfl rfl) ?_
    refine op rfl (r_pickTV (v := .bool _) rfl rfl) ?_
    refine op_true rfl (r_moveV (v := .bool (decide _)) rfl) (rfl) ?_
    refine opG_yes rfl rfl rfl rfl rfl (r_loadRow rfl B10_6 Try.underlying27 rfl Try.sz27) ?_
    refine opG_yes rfl rfl rfl rfl rfl (r_loadRow rfl B0_1 Try.underlying27 rfl Try.sz27) ?_
    refine opG_yes rfl rfl rfl rfl rfl (ri_eql (xs := x.l) (ys := x.l) Try.ints27 rfl rfl rfl rfl) ?_
    refine op rfl (r_pickTV (v := .bool _) rfl rfl) ?_
    refine op_true rfl (r_moveV (v := .bool (decide _)) rfl) (rfl) ?_
    refine opG_yes rfl rfl rfl rfl rfl (r_moveV (v := .int .i64 0) rfl) ?_
    refine opG_yes rfl rfl rfl rfl rfl (r_eql (m := 0) (n := 0) rfl rfl) ?_
    refine op rfl (r_pickTV (v := .bool _) rfl rfl) ?_
    refine op_true rfl (r_moveV (v := .bool (decide _)) rfl) (rfl) ?_
    refine opGCv_yes rfl rfl rfl rfl rfl (r_call Try.func10 Try.nm10 rfl) (known_spec _) ?_
    rintro v w7 ⟨rfl, hE⟩
    replace B0_0 := Blk.ext B0_0 hE
    replace B0_1 := Blk.ext B0_1 hE
    replace B3_7 := Blk.ext B3_7 hE
    replace B4_7 := Blk.ext B4_7 hE
    replace B9_7 := Blk.ext B9_7 hE
    replace B10_6 := Blk.ext B10_6 hE
    replace hX := hX.trans hE
    refine op rfl (r_pickTV (v := .bool _) rfl rfl) ?_
    refine op rfl (r_assignV (v := .bool _) rfl) ?_
    refine WL_nil ?_
    refine W_ret (finX_ret ?_)
    refine fin1 ?_
    exact ⟨_, rfl, rfl, hX⟩
end Go.Proofs.Ytfocbkdoolnijaa
