/-
  The walks of package life: Run, New.
-/
import Derived.Test.YtfocbkdoolnijaaFacts
import Derived.Test.YtfocbkdoolnijaaLifeS
import Derived.Test.YtfocbkdoolnijaaInts
namespace Go.Proofs.Ytfocbkdoolnijaa
open Go Go.Eng Go.RowKit Go.Proofs
set_option linter.unusedVariables false

def evs (x : Int × Int) : List Int := [x.1, x.2]
theorem evs_back (xs : List Int) (h : xs.length = 2) : evs (xs[0]!, xs[1]!) = xs := by
  obtain ⟨a, b, rfl⟩ := len2 h
  rfl
abbrev evT : Ty (Int × Int) := Ty.ints 2 evs
def Lf.Ended (x : Lf) : Prop := x.state = 6 ∨ x.state = 7
instance (x : Lf) : Decidable x.Ended := by unfold Lf.Ended; exact inferInstance
def Lf.run (m : Lim) : Lf → Int → List (Int × Int) → Lf × Int
  | x, c, [] => (x, c)
  | x, c, e :: l => if x.Ended then (x, c) else Lf.run m (x.step m e.1 e.2) (if x.is e.1 = true then c + 1 else c) l
theorem run_ended {m : Lim} {x : Lf} {c : Int} {l : List (Int × Int)} (h : x.Ended) : Lf.run m x c l = (x, c) := by
  cases l with
  | nil => rfl
  | cons e l => simp [Lf.run, h]
theorem run_go {m : Lim} {x : Lf} {c : Int} {l : List (Int × Int)} {j : Nat} (hj : j < l.length) (h : ¬ x.Ended) : Lf.run m x c (l.drop j) = Lf.run m (x.step m l[j].1 l[j].2) (if x.is l[j].1 = true then c + 1 else c) (l.drop (j + 1)) := by
  rw [List.drop_eq_getElem_cons hj]; simp [Lf.run, h]
theorem new_spec (b : Bool) (w : World) : Calls Try.prog 11 #[.bool b] w (fun en w' => ∃ v, en = .returned v ∧ v = (Lf.mk (if b = true then 0 else 1) 0 0 0 0 0).val ∧ Ext w w') := by
  refine calls' (n := 6) (rs := #[.cell 2 27]) (l := [.bool b]) Try.func11 rfl rfl rfl rfl rfl ?_
  have hX := Ext.refl w
  refine W_seq ?_
  refine W_region ?_
  refine op_alloc rfl Try.zero27 ?_
  intro w0_0 b0_0 E0_0 B0_0 L0_0
  have hG0_0 : w.heap.size ≤ b0_0 := by have := hX.size; omega
  replace hX := hX.trans E0_0
  refine WL_nil ?_
  refine W_seq ?_
  refine W_seq ?_
  refine W_region ?_
  refine op rfl (r_moveV (v := .bool _) rfl) ?_
  refine WL_nil ?_
  refine W_if rfl (fun ht3 => ?_) (fun ht3 => ?_)
  · refine W_seq ?_
    refine W_region ?_
    refine op rfl (r_build (cs := [.int _ _, .int _ _, .int _ _, .int _ _, .int _ _, .int _ _]) Try.lay27 (List.forall_mem_cons.2 ⟨rfl, fun _ h => by cases h⟩) rfl rfl) ?_
    refine op_storeRow rfl rfl Try.sz27 B0_0 rfl rfl ?_
    intro w2_1 C2_1 BB2_1
    replace hX := hX.chg C2_1 hG0_0
    replace B0_0 := BB2_1
    refine WL_nil ?_
    refine W_ret (finX_ret ?_)
    refine fin_cell rfl B0_0 Try.underlying27 rfl Try.sz27 ?_
    exact ⟨_, rfl, by rw [if_pos ht3], hX⟩
  · refine W_skip ?_
    refine W_seq ?_
    refine W_region ?_
    refine op rfl (r_build (cs := [.int _ _, .int _ _, .int _ _, .int _ _, .int _ _, .int _ _]) Try.lay27 (List.forall_mem_cons.2 ⟨rfl, fun _ h => by cases h⟩) rfl rfl) ?_
    refine op_storeRow rfl rfl Try.sz27 B0_0 rfl rfl ?_
    intro w3_1 C3_1 BB3_1
    replace hX := hX.chg C3_1 hG0_0
    replace B0_0 := BB3_1
    refine WL_nil ?_
    refine W_ret (finX_ret ?_)
    refine fin_cell rfl B0_0 Try.underlying27 rfl Try.sz27 ?_
    exact ⟨_, rfl, by rw [if_neg (by rw [ht3]; exact Bool.false_ne_true)], hX⟩
theorem run_spec (m : Lim) (x : Lf) (A : Option Addr) (cap : Nat) (l : List (Int × Int)) (w : World) (hl : l.length ≤ 140737488355329) (hA : evT.Row w (old w) A l) : Calls Try.prog 16 #[m.val, x.val, .slice A l.length cap] w (fun en w' => ∃ v, en = .returned v ∧ v = .tuple #[(Lf.run m x 0 l).1.val, .int .i64 (Lf.run m x 0 l).2] ∧ Ext w w') := by
  refine calls' (n := 35) (rs := #[.cell 6 27, .tmp 7]) (l := [m.val, x.val, .slice A l.length cap]) Try.func16 rfl rfl rfl rfl rfl ?_
  have hX := Ext.refl w
  refine W_seq ?_
  refine W_region ?_
  refine op_box (v := .agg _) rfl rfl ?_
  intro w0_0 b0_0 E0_0 B0_0 L0_0
  have hG0_0 : w.heap.size ≤ b0_0 := by have := hX.size; omega
  replace hX := hX.trans E0_0
  refine op_box (v := .agg _) rfl rfl ?_
  intro w0_1 b0_1 E0_1 B0_1 L0_1
  have hG0_1 : w.heap.size ≤ b0_1 := by have := hX.size; omega
  have hNb0_0_0_1 : b0_0 ≠ b0_1 := by have := Blk.lt B0_0; omega
  replace B0_0 := Blk.ext B0_0 E0_1
  replace hX := hX.trans E0_1
  refine op_alloc rfl Try.zero27 ?_
  intro w0_2 b0_2 E0_2 B0_2 L0_2
  have hG0_2 : w.heap.size ≤ b0_2 := by have := hX.size; omega
  have hNb0_0_0_2 : b0_0 ≠ b0_2 := by have := Blk.lt B0_0; omega
  replace B0_0 := Blk.ext B0_0 E0_2
  have hNb0_1_0_2 : b0_1 ≠ b0_2 := by have := Blk.lt B0_1; omega
  replace B0_1 := Blk.ext B0_1 E0_2
  replace hX := hX.trans E0_2
  refine op rfl (r_assignV (v := .int _ _) rfl) ?_
  refine WL_nil ?_
  refine W_scope ?_
  refine W_seq ?_
  refine W_region ?_
  refine op rfl (r_assignV (v := .int _ _) rfl) ?_
  refine WL_nil ?_
  refine W_seq ?_
  refine W_label ?_
  refine W_seq ?_
  refine W_seq ?_
  refine W_region ?_
  refine op rfl (r_moveV (v := .slice _ _ _) rfl) ?_
  refine op rfl (r_len_slice rfl Try.underlying41) ?_
  refine op rfl (r_moveV (v := .int _ _) rfl) ?_
  refine WL_nil ?_
  refine W_block ?_
  refine W_loop [8, 10, 11, 12, 15, 16, 17, 18, 19, 20, 21, 22, 23, 24, 25, 26, 27, 28, 29, 30, 31, 32] (fun k e' w' => ∃ (j : Nat) (y : Lf) (c : Int), k = l.length - j ∧ j ≤ l.length ∧ 0 ≤ c ∧ c ≤ j ∧ e' 15 = .int .i64 j ∧ e' 8 = .int .i64 c ∧ Lf.run m x 0 l = Lf.run m y c (l.drop j) ∧ Ext w w' ∧ Blk w' b0_0 m.val.cells 24 ∧ Blk w' b0_1 y.val.cells 27 ∧ Blk w' b0_2 (Lf.mk 0 0 0 0 0 0).val.cells 27) (l.length) ?_ ?_
  · exact ⟨0, x, 0, by omega, by omega, by omega, by omega, rfl, rfl, rfl, hX, B0_0, B0_1, B0_2⟩
  intro k g w' hI
  obtain ⟨j, y, c, hk, hj, hc0, hcj, h15, h8, hrun, hX', Bx0, Bx1, Bx2⟩ := hI
  clear hX B0_0 B0_1 B0_2
  have hX := hX'
  have B0_0 := Bx0
  have B0_1 := Bx1
  have B0_2 := Bx2
  clear hX' Bx0 Bx1 Bx2
  refine W_set (i := 15) h15 ?_
  refine W_set (i := 8) h8 ?_
  refine W_seq ?_
  refine W_region ?_
  refine op rfl (r_lss rfl rfl) ?_
  refine WL_nil ?_
  refine W_seq ?_
  refine W_ifp rfl (fun ht16 => ?_) (fun ht16 => ?_)
  · have hlt : j < l.length := by omega
    obtain ⟨ga, oa, xs, hAe, hga, ⟨hxs, _, _⟩, hcell⟩ := hA.cells hlt
    have hcell' : ∀ q, q < 2 → w'.cell? ⟨ga, oa + (j : Int).toNat * 2 + q, none⟩ = xs[q]? := fun q hq => by
      rw [Below.cell hX (by exact hga)]
      exact hcell q hq
    simp only [evs, List.map_cons, List.map_nil] at hxs
    subst hxs
    refine W_skip ?_
    refine W_seq ?_
    refine W_block ?_
    refine W_seq ?_
    refine W_region ?_
    refine op rfl (r_indexAddrN rfl rfl hAe Try.underlying41 Try.sz31 (by omega) (by omega)) ?_
    refine op rfl (r_load_agg rfl Try.underlying31 rfl Try.sz31 rfl hcell') ?_
    refine op_alloc rfl Try.zero31 ?_
    intro w4_2 b4_2 E4_2 B4_2 L4_2
    have hG4_2 : w.heap.size ≤ b4_2 := by have := hX.size; omega
    have hNb0_0_4_2 : b0_0 ≠ b4_2 := by have := Blk.lt B0_0; omega
    replace B0_0 := Blk.ext B0_0 E4_2
    have hNb0_1_4_2 : b0_1 ≠ b4_2 := by have := Blk.lt B0_1; omega
    replace B0_1 := Blk.ext B0_1 E4_2
    have hNb0_2_4_2 : b0_2 ≠ b4_2 := by have := Blk.lt B0_2; omega
    replace B0_2 := Blk.ext B0_2 E4_2
    replace hX := hX.trans E4_2
    refine op_storeRow rfl rfl Try.sz31 B4_2 rfl rfl ?_
    intro w4_3 C4_3 BB4_3
    replace B0_0 := Chg.blk C4_3 B0_0 hNb0_0_4_2
    replace B0_1 := Chg.blk C4_3 B0_1 hNb0_1_4_2
    replace B0_2 := Chg.blk C4_3 B0_2 hNb0_2_4_2
    replace hX := hX.chg C4_3 hG4_2
    replace B4_2 := BB4_3
    refine WL_nil ?_
    refine W_seq ?_
    refine W_seq ?_
    refine W_region ?_
    refine op rfl (r_loadRow rfl B0_1 Try.underlying27 rfl Try.sz27) ?_
    refine opCv rfl (r_call Try.func12 Try.nm12 rfl) (ended_spec y _) ?_
    rintro v w2 ⟨rfl, hE⟩
    replace B0_0 := Blk.ext B0_0 hE
    replace B0_1 := Blk.ext B0_1 hE
    replace B0_2 := Blk.ext B0_2 hE
    replace B4_2 := Blk.ext B4_2 hE
    replace hX := hX.trans hE
    refine WL_nil ?_
    refine W_ifp rfl (fun ht20 => ?_) (fun ht20 => ?_)
    · refine W_exit (blk_miss rfl (blk_hit ?_))
      refine W_seq ?_
      refine W_region ?_
      refine op rfl (r_loadRow rfl B0_1 Try.underlying27 rfl Try.sz27) ?_
      refine op rfl (r_moveV (v := .int _ _) rfl) ?_
      refine op_storeRow rfl rfl Try.sz27 B0_2 rfl rfl ?_
      intro w11_2 C11_2 BB11_2
      replace B0_0 := Chg.blk C11_2 B0_0 hNb0_0_0_2
      replace B0_1 := Chg.blk C11_2 B0_1 hNb0_1_0_2
      replace B4_2 := Chg.blk C11_2 B4_2 (fun q => hNb0_2_4_2 q.symm)
      replace hX := hX.chg C11_2 hG0_2
      replace B0_2 := BB11_2
      refine op rfl (r_assignV (v := .int _ _) rfl) ?_
      refine WL_nil ?_
      refine W_ret (scp_ret (finX_ret ?_))
      refine fin_cell1 rfl B0_2 Try.underlying27 rfl Try.sz27 ?_
      exact ⟨_, rfl, by rw [hrun, run_ended ht20] <;> rfl, hX⟩
    · refine W_skip ?_
      refine W_seq ?_
      refine W_region ?_
      refine op rfl (r_loadRow rfl B0_0 Try.underlying24 rfl Try.sz24) ?_
      refine op rfl (r_loadRow rfl B0_1 Try.underlying27 rfl Try.sz27) ?_
      refine op rfl (r_loadRow rfl B4_2 Try.underlying31 rfl Try.sz31) ?_
      refine opCv rfl (r_call Try.func13 Try.nm13 rfl) (step_spec m y l[j].1 l[j].2 _) ?_
      rintro v w3 ⟨rfl, hE⟩
      replace B0_0 := Blk.ext B0_0 hE
      replace B0_1 := Blk.ext B0_1 hE
      replace B0_2 := Blk.ext B0_2 hE
      replace B4_2 := Blk.ext B4_2 hE
      replace hX := hX.trans hE
      refine op rfl (r_moveV (v := .tuple #[(y.step m l[j].1 l[j].2).val, .bool (y.is l[j].1)]) rfl) ?_
      refine op rfl (r_extract (vs := [(y.step m l[j].1 l[j].2).val, .bool (y.is l[j].1)]) rfl rfl) ?_
      refine op rfl (r_extract (vs := [(y.step m l[j].1 l[j].2).val, .bool (y.is l[j].1)]) rfl rfl) ?_
      refine op_alloc rfl Try.zero27 ?_
      intro w6_7 b6_7 E6_7 B6_7 L6_7
      have hG6_7 : w.heap.size ≤ b6_7 := by have := hX.size; omega
      have hNb0_0_6_7 : b0_0 ≠ b6_7 := by have := Blk.lt B0_0; omega
      replace B0_0 := Blk.ext B0_0 E6_7
      have hNb0_1_6_7 : b0_1 ≠ b6_7 := by have := Blk.lt B0_1; omega
      replace B0_1 := Blk.ext B0_1 E6_7
      have hNb0_2_6_7 : b0_2 ≠ b6_7 := by have := Blk.lt B0_2; omega
      replace B0_2 := Blk.ext B0_2 E6_7
      have hNb4_2_6_7 : b4_2 ≠ b6_7 := by have := Blk.lt B4_2; omega
      replace B4_2 := Blk.ext B4_2 E6_7
      replace hX := hX.trans E6_7
      refine op_storeRow rfl rfl Try.sz27 B6_7 rfl rfl ?_
      intro w6_8 C6_8 BB6_8
      replace B0_0 := Chg.blk C6_8 B0_0 hNb0_0_6_7
      replace B0_1 := Chg.blk C6_8 B0_1 hNb0_1_6_7
      replace B0_2 := Chg.blk C6_8 B0_2 hNb0_2_6_7
      replace B4_2 := Chg.blk C6_8 B4_2 hNb4_2_6_7
      replace hX := hX.chg C6_8 hG6_7
      replace B6_7 := BB6_8
      refine op rfl (r_assignV (v := .bool (y.is l[j].1)) rfl) ?_
      refine WL_nil ?_
      refine W_seq ?_
      refine W_region ?_
      refine op rfl (r_loadRow rfl B6_7 Try.underlying27 rfl Try.sz27) ?_
      refine op_storeRow rfl rfl Try.sz27 B0_1 rfl rfl ?_
      intro w7_1 C7_1 BB7_1
      replace B0_0 := Chg.blk C7_1 B0_0 hNb0_0_0_1
      replace B0_2 := Chg.blk C7_1 B0_2 (fun q => hNb0_1_0_2 q.symm)
      replace B4_2 := Chg.blk C7_1 B4_2 (fun q => hNb0_1_4_2 q.symm)
      replace B6_7 := Chg.blk C7_1 B6_7 (fun q => hNb0_1_6_7 q.symm)
      replace hX := hX.chg C7_1 hG0_1
      replace B0_1 := BB7_1
      refine WL_nil ?_
      refine W_seq ?_
      refine W_region ?_
      refine op rfl (r_moveV (v := .bool (y.is l[j].1)) rfl) ?_
      refine WL_nil ?_
      refine W_if rfl (fun ht29 => ?_) (fun ht29 => ?_)
      · refine W_region ?_
        refine op rfl (r_moveV (v := .int _ _) rfl) ?_
        refine op rfl (r_add' rfl rfl (wrap_i64 (by omega) (by omega))) ?_
        refine op rfl (r_assignV (v := .int _ _) rfl) ?_
        refine WL_nil ?_
        refine W_region ?_
        refine op rfl (r_add' rfl rfl (wrap_i64 (by omega) (by omega))) ?_
        refine op rfl (r_moveV (v := .int _ _) rfl) ?_
        refine WL_nil ?_
        refine ⟨?_, by repeat (first | with_reducible exact Out.refl _ _ | with_reducible exact Out.mix | refine Out.put rfl ?_ | refine Out.mixin rfl ?_ | exact Out.refl _ _ | exact Out.mix)⟩
        refine ⟨l.length - (j + 1), by omega, j + 1, y.step m l[j].1 l[j].2, (if y.is l[j].1 = true then c + 1 else c), by omega, by omega, ?_, ?_, ?_, ?_, ?_, hX, B0_0, B0_1, B0_2⟩
        · split <;> omega
        · split <;> omega
        · rfl
        · first | rw [if_pos ht29] | rw [if_neg (by rw [ht29]; exact Bool.false_ne_true)]
          rfl
        · rw [hrun, run_go (by omega) ht20]
      · refine W_skip ?_
        refine W_region ?_
        refine op rfl (r_add' rfl rfl (wrap_i64 (by omega) (by omega))) ?_
        refine op rfl (r_moveV (v := .int _ _) rfl) ?_
        refine WL_nil ?_
        refine ⟨?_, by repeat (first | with_reducible exact Out.refl _ _ | with_reducible exact Out.mix | refine Out.put rfl ?_ | refine Out.mixin rfl ?_ | exact Out.refl _ _ | exact Out.mix)⟩
        refine ⟨l.length - (j + 1), by omega, j + 1, y.step m l[j].1 l[j].2, (if y.is l[j].1 = true then c + 1 else c), by omega, by omega, ?_, ?_, ?_, ?_, ?_, hX, B0_0, B0_1, B0_2⟩
        · split <;> omega
        · split <;> omega
        · rfl
        · first | rw [if_pos ht29] | rw [if_neg (by rw [ht29]; exact Bool.false_ne_true)]
          rfl
        · rw [hrun, run_go (by omega) ht20]
  · refine W_exit (blk_hit ?_)
    refine W_seq ?_
    refine W_region ?_
    refine op rfl (r_loadRow rfl B0_1 Try.underlying27 rfl Try.sz27) ?_
    refine op rfl (r_moveV (v := .int _ _) rfl) ?_
    refine op_storeRow rfl rfl Try.sz27 B0_2 rfl rfl ?_
    intro w11_2 C11_2 BB11_2
    replace B0_0 := Chg.blk C11_2 B0_0 hNb0_0_0_2
    replace B0_1 := Chg.blk C11_2 B0_1 hNb0_1_0_2
    replace hX := hX.chg C11_2 hG0_2
    replace B0_2 := BB11_2
    refine op rfl (r_assignV (v := .int _ _) rfl) ?_
    refine WL_nil ?_
    refine W_ret (scp_ret (finX_ret ?_))
    refine fin_cell1 rfl B0_2 Try.underlying27 rfl Try.sz27 ?_
    exact ⟨_, rfl, by rw [hrun, List.drop_of_length_le (by omega)] <;> rfl, hX⟩
end Go.Proofs.Ytfocbkdoolnijaa
