/-
  What has ended never changes; what may be may be behind whatever happens: the walk.
-/
import Derived.Test.YtfocbkdoolnijaaFacts
import Derived.Test.YtfocbkdoolnijaaLifeQ
namespace Go.Proofs.Ytfocbkdoolnijaa
open Go Go.Eng Go.RowKit Go.Proofs
set_option linter.unusedVariables false
set_option maxRecDepth 20000

theorem lifeStays_walk (W : World) (m : Lim) (hm : ∀ i ∈ [m.retries, m.review, m.backoff], inK .i64 i) (x : Lf) (hx : ∀ i ∈ [x.state, x.why, x.tries, x.wait, x.request, x.rev], inK .i64 i)
    (A : Option Addr) (ca : Nat) (a : List (Int × Int)) (hca : a.length ≤ ca) (hba : a.length ≤ big) (hA : evT.Row W (old W) A a) :
    Calls Try.prog 9 #[m.val, x.val, .slice A a.length ca] W (fun e W' => ∃ v, e = .returned v ∧ v = .bool true ∧ Ext W W') := by
  clear hm hx
  have hba' : a.length ≤ 140737488355328 := hba
  clear hba
  have SS : ∀ (y : Lf) k n w, Calls Try.prog 13 #[m.val, y.val, .agg #[.int .i64 k, .int .i64 n]] w (fun en w' => ∃ v, en = .returned v ∧ v = .tuple #[(y.step m k n).val, .bool (decide (y.is k = true))] ∧ Ext w w') := fun y k n w => by
    have := step_spec m y k n w
    simp only [Bool.decide_eq_true]
    exact this
  refine calls' (n := 79) (rs := #[.tmp 6]) (l := [m.val, x.val, .slice A a.length ca]) Try.func9 rfl rfl rfl rfl rfl ?_
  have hX := Ext.refl W
  refine W_seq ?_
  refine W_region ?_
  refine op_box (v := .agg _) rfl rfl ?_
  intro w0_0 b0_0 E0_0 B0_0 L0_0
  have hG0_0 : W.heap.size ≤ b0_0 := by have := hX.size; omega
  replace hX := hX.trans E0_0
  refine op_box (v := .agg _) rfl rfl ?_
  intro w0_1 b0_1 E0_1 B0_1 L0_1
  have hG0_1 : W.heap.size ≤ b0_1 := by have := hX.size; omega
  have hNb0_0_0_1 : b0_0 ≠ b0_1 := by have := Blk.lt B0_0; omega
  replace B0_0 := Blk.ext B0_0 E0_1
  replace hX := hX.trans E0_1
  refine op rfl (r_assignV (v := .bool _) rfl) ?_
  refine WL_nil ?_
  refine W_seq ?_
  refine W_seq ?_
  refine W_region ?_
  refine op rfl (r_moveV (v := .slice _ _ _) rfl) ?_
  refine op rfl (r_len_slice rfl Try.underlying41) ?_
  refine op rfl (r_gtr rfl rfl) ?_
  refine op_split rfl (r_moveV (v := .bool (decide _)) rfl) (fun hg14 => ?_) (fun hg14 => ?_)
  · refine opG_no rfl rfl rfl rfl rfl ?_
    refine opG_no rfl rfl rfl rfl rfl ?_
    refine opG_no rfl rfl rfl rfl rfl ?_
    refine opG_no rfl rfl rfl rfl rfl ?_
    refine op rfl (r_pickTV (v := .bool _) rfl rfl) ?_
    refine WL_nil ?_
    refine W_then rfl ?_
    refine W_seq ?_
    refine W_region ?_
    refine opCv rfl (r_call Try.func10 Try.nm10 rfl) (known_spec _) ?_
    rintro v w3 ⟨rfl, hE⟩
    replace B0_0 := Blk.ext B0_0 hE
    replace B0_1 := Blk.ext B0_1 hE
    replace hX := hX.trans hE
    refine op rfl (r_assignV (v := .bool _) rfl) ?_
    refine WL_nil ?_
    refine W_ret (finX_ret ?_)
    refine fin1 ?_
    exact ⟨_, rfl, rfl, hX⟩
  · refine opG_yes rfl rfl rfl rfl rfl (r_loadRow rfl B0_0 Try.underlying24 rfl Try.sz24) ?_
    refine opG_yes rfl rfl rfl rfl rfl (r_loadRow rfl B0_1 Try.underlying27 rfl Try.sz27) ?_
    refine opGCv_yes rfl rfl rfl rfl rfl (r_call Try.func19 Try.nm19 rfl) (right_spec m x _) ?_
    rintro v w2 ⟨rfl, hE⟩
    replace B0_0 := Blk.ext B0_0 hE
    replace B0_1 := Blk.ext B0_1 hE
    replace hX := hX.trans hE
    refine opG_yes rfl rfl rfl rfl rfl (r_notP rfl) ?_
    refine op rfl (r_pickFV (v := .bool _) rfl rfl) ?_
    refine WL_nil ?_
    refine W_ifp rfl (fun ht19 => ?_) (fun ht19 => ?_)
    · refine W_seq ?_
      refine W_region ?_
      refine opCv rfl (r_call Try.func10 Try.nm10 rfl) (known_spec _) ?_
      rintro v w3 ⟨rfl, hE⟩
      replace B0_0 := Blk.ext B0_0 hE
      replace B0_1 := Blk.ext B0_1 hE
      replace hX := hX.trans hE
      refine op rfl (r_assignV (v := .bool _) rfl) ?_
      refine WL_nil ?_
      refine W_ret (finX_ret ?_)
      refine fin1 ?_
      exact ⟨_, rfl, rfl, hX⟩
    · refine W_skip ?_
      refine W_seq ?_
      refine W_seq ?_
      refine W_region ?_
      refine op rfl (r_assignV (v := .int _ _) rfl) ?_
      refine WL_nil ?_
      refine W_block ?_
      refine W_loop (6 :: 7 :: 8 :: 9 :: 10 :: 21 :: 22 :: 23 :: 24 :: 25 :: 26 :: 27 :: 28 :: 29 :: 30 :: 31 :: 32 :: 33 :: 34 :: 35 :: 36 :: 37 :: 38 :: 39 :: 40 :: 41 :: 42 :: 43 :: 44 :: 45 :: 46 :: 47 :: 48 :: 49 :: 50 :: 51 :: 52 :: 53 :: 54 :: 55 :: 56 :: 57 :: 58 :: 59 :: 60 :: 61 :: 62 :: 63 :: 64 :: 65 :: 66 :: 67 :: 68 :: 69 :: 70 :: 71 :: 72 :: 73 :: 74 :: 75 :: 76 :: 77 :: []) (fun k e' w' => ∃ (i : Nat) (y : Lf), k = a.length - i ∧ i ≤ a.length ∧ e' 7 = .int .i64 i ∧ y.Right m ∧ Ext W w' ∧ Blk w' b0_0 m.val.cells 24 ∧ Blk w' b0_1 y.val.cells 27) (a.length) ?_ ?_
      · exact ⟨0, x, by omega, by omega, rfl, Classical.byContradiction ht19, hX, B0_0, B0_1⟩
      intro k g w' hI
      obtain ⟨i, y, hk, hile, h7, hR, hX', Bx0, Bx1⟩ := hI
      clear hX B0_0 B0_1
      have hX := hX'
      have B0_0 := Bx0
      have B0_1 := Bx1
      clear hX' Bx0 Bx1
      refine W_set (i := 7) h7 ?_
      refine W_seq ?_
      refine W_seq ?_
      refine W_region ?_
      refine op rfl (r_moveV (v := .int _ _) rfl) ?_
      refine op rfl (r_moveV (v := .slice _ _ _) rfl) ?_
      refine op rfl (r_len_slice rfl Try.underlying41) ?_
      refine op rfl (r_lss rfl rfl) ?_
      refine WL_nil ?_
      refine W_ifp rfl (fun ht24 => ?_) (fun ht24 => ?_)
      · have hlt : i < a.length := by omega
        obtain ⟨ga, oa, xs, hAe, hga, ⟨hxs, _, _⟩, hcell⟩ := hA.cells hlt
        have hcell' : ∀ q, q < 2 → w'.cell? ⟨ga, oa + (i : Int).toNat * 2 + q, none⟩ = xs[q]? := fun q hq => by
          rw [Below.cell hX (by exact hga)]
          exact hcell q hq
        simp only [evs, List.map_cons, List.map_nil] at hxs
        subst hxs
        refine W_skip ?_
        refine W_seq ?_
        refine W_block ?_
        refine W_seq ?_
        refine W_region ?_
        refine op rfl (r_moveV (v := .slice _ _ _) rfl) ?_
        refine op rfl (r_moveV (v := .int _ _) rfl) ?_
        refine op rfl (r_indexAddrN rfl rfl hAe Try.underlying41 Try.sz31 (by omega) (by omega)) ?_
        refine op rfl (r_load_agg rfl Try.underlying31 rfl Try.sz31 rfl hcell') ?_
        refine op_alloc rfl Try.zero31 ?_
        intro w6_4 b6_4 E6_4 B6_4 L6_4
        have hG6_4 : W.heap.size ≤ b6_4 := by have := hX.size; omega
        have hNb0_0_6_4 : b0_0 ≠ b6_4 := by have := Blk.lt B0_0; omega
        replace B0_0 := Blk.ext B0_0 E6_4
        have hNb0_1_6_4 : b0_1 ≠ b6_4 := by have := Blk.lt B0_1; omega
        replace B0_1 := Blk.ext B0_1 E6_4
        replace hX := hX.trans E6_4
        refine op_storeRow rfl rfl Try.sz31 B6_4 rfl rfl ?_
        intro w6_5 C6_5 BB6_5
        replace B0_0 := Chg.blk C6_5 B0_0 hNb0_0_6_4
        replace B0_1 := Chg.blk C6_5 B0_1 hNb0_1_6_4
        replace hX := hX.chg C6_5 hG6_4
        replace B6_4 := BB6_5
        refine WL_nil ?_
        refine W_cut [31, 32, 33, 34] (fun e' w' => ∃ n, 1 ≤ n ∧ Ext W w' ∧ Blk w' b0_0 m.val.cells 24 ∧ Blk w' b0_1 y.val.cells 27 ∧ Blk w' b6_4 #[.int .i64 a[i].1, .int .i64 n] 31) ?_ ?_
        · refine W_seq ?_
          refine W_region ?_
          refine op rfl (r_fieldAddr rfl Try.fld31_1 rfl) ?_
          refine op rfl (r_load (v := .int _ _) rfl Try.underlying3 rfl (Blk.cell B6_4 rfl)) ?_
          refine op rfl (r_lss rfl rfl) ?_
          refine WL_nil ?_
          refine W_ifp rfl (fun ht33 => ?_) (fun ht33 => ?_)
          · refine W_region ?_
            refine op rfl (r_fieldAddr rfl Try.fld31_1 rfl) ?_
            refine op_store (v := .int _ _) rfl rfl rfl Try.sz3 B6_4 (Nat.le_of_ble_eq_true rfl) ?_
            intro w8_1 C8_1 BB8_1
            replace B0_0 := Chg.blk C8_1 B0_0 hNb0_0_6_4
            replace B0_1 := Chg.blk C8_1 B0_1 hNb0_1_6_4
            replace hX := hX.chg C8_1 hG6_4
            replace B6_4 := BB8_1
            refine WL_nil ?_
            refine ⟨?_, by repeat (first | with_reducible exact Out.refl _ _ | with_reducible exact Out.mix | refine Out.put rfl ?_ | refine Out.mixin rfl ?_ | exact Out.refl _ _ | exact Out.mix)⟩
            first | exact ⟨1, by omega, hX, B0_0, B0_1, B6_4⟩ | exact ⟨a[i].2, by omega, hX, B0_0, B0_1, B6_4⟩
          · refine W_skip ?_
            refine ⟨?_, by repeat (first | with_reducible exact Out.refl _ _ | with_reducible exact Out.mix | refine Out.put rfl ?_ | refine Out.mixin rfl ?_ | exact Out.refl _ _ | exact Out.mix)⟩
            first | exact ⟨1, by omega, hX, B0_0, B0_1, B6_4⟩ | exact ⟨a[i].2, by omega, hX, B0_0, B0_1, B6_4⟩
        rintro gift33 w' hJ
        obtain ⟨n, hn, hX', Bx0, Bx1, Bx2⟩ := hJ
        clear hX B0_0 B0_1 B6_4
        have hX := hX'
        have B0_0 := Bx0
        have B0_1 := Bx1
        have B6_4 := Bx2
        clear hX' Bx0 Bx1 Bx2
        refine W_seq ?_
        refine W_region ?_
        refine op rfl (r_loadRow rfl B0_0 Try.underlying24 rfl Try.sz24) ?_
        refine op rfl (r_loadRow rfl B0_1 Try.underlying27 rfl Try.sz27) ?_
        refine op rfl (r_loadRow rfl B6_4 Try.underlying31 rfl Try.sz31) ?_
        obtain ⟨hRz, htr⟩ := right_step (k := a[i].1) hR hn
        have hno : ¬ y.is a[i].1 = true → y.step m a[i].1 n = y := step_no
        have SSz := SS y a[i].1 n w'
        generalize y.step m a[i].1 n = z at hRz htr hno SSz
        refine opCv rfl (r_call Try.func13 Try.nm13 rfl) (SSz) ?_
        rintro v w4 ⟨rfl, hE⟩
        replace B0_0 := Blk.ext B0_0 hE
        replace B0_1 := Blk.ext B0_1 hE
        replace B6_4 := Blk.ext B6_4 hE
        replace hX := hX.trans hE
        refine op rfl (r_moveV (v := .tuple #[z.val, .bool (decide (y.is a[i].1 = true))]) rfl) ?_
        refine op rfl (r_extract (vs := [z.val, .bool (decide (y.is a[i].1 = true))]) rfl rfl) ?_
        refine op rfl (r_extract (vs := [z.val, .bool (decide (y.is a[i].1 = true))]) rfl rfl) ?_
        refine op_alloc rfl Try.zero27 ?_
        intro w9_7 b9_7 E9_7 B9_7 L9_7
        have hG9_7 : W.heap.size ≤ b9_7 := by have := hX.size; omega
        have hNb0_0_9_7 : b0_0 ≠ b9_7 := by have := Blk.lt B0_0; omega
        replace B0_0 := Blk.ext B0_0 E9_7
        have hNb0_1_9_7 : b0_1 ≠ b9_7 := by have := Blk.lt B0_1; omega
        replace B0_1 := Blk.ext B0_1 E9_7
        have hNb6_4_9_7 : b6_4 ≠ b9_7 := by have := Blk.lt B6_4; omega
        replace B6_4 := Blk.ext B6_4 E9_7
        replace hX := hX.trans E9_7
        refine op_storeRow rfl rfl Try.sz27 B9_7 rfl rfl ?_
        intro w9_8 C9_8 BB9_8
        replace B0_0 := Chg.blk C9_8 B0_0 hNb0_0_9_7
        replace B0_1 := Chg.blk C9_8 B0_1 hNb0_1_9_7
        replace B6_4 := Chg.blk C9_8 B6_4 hNb6_4_9_7
        replace hX := hX.chg C9_8 hG9_7
        replace B9_7 := BB9_8
        refine op rfl (r_assignV (v := .bool (decide (y.is a[i].1 = true))) rfl) ?_
        refine WL_nil ?_
        refine W_seq ?_
        refine W_seq ?_
        refine W_region ?_
        refine op rfl (r_loadRow rfl B0_0 Try.underlying24 rfl Try.sz24) ?_
        refine op rfl (r_loadRow rfl B9_7 Try.underlying27 rfl Try.sz27) ?_
        refine opCv rfl (r_call Try.func19 Try.nm19 rfl) (right_spec m z _) ?_
        rintro v w5 ⟨rfl, hE⟩
        replace B0_0 := Blk.ext B0_0 hE
        replace B0_1 := Blk.ext B0_1 hE
        replace B6_4 := Blk.ext B6_4 hE
        replace B9_7 := Blk.ext B9_7 hE
        replace hX := hX.trans hE
        refine op rfl (r_notP rfl) ?_
        refine op_false rfl (r_moveV (v := .bool (decide _)) rfl) (fun h => h hRz) ?_
        refine opG_yes rfl rfl rfl rfl rfl (r_moveV (v := .bool (decide (y.is a[i].1 = true))) rfl) ?_
        refine opG_yes rfl rfl rfl rfl rfl (r_notP rfl) ?_
        refine opG_split rfl rfl rfl rfl rfl (r_moveV (v := .bool (decide _)) rfl) (fun hg49 => ?_) (fun hg49 => ?_)
        · refine opG_yes rfl rfl rfl rfl rfl (r_loadRow rfl B9_7 Try.underlying27 rfl Try.sz27) ?_
          refine opG_yes rfl rfl rfl rfl rfl (r_loadRow rfl B0_1 Try.underlying27 rfl Try.sz27) ?_
          refine opG_yes rfl rfl rfl rfl rfl (ri_neq (xs := z.l) (ys := y.l) Try.ints27 rfl rfl rfl rfl) ?_
          refine opG_yes rfl rfl rfl rfl rfl (r_pickTV (v := .bool _) rfl rfl) ?_
          refine op rfl (r_pickFV (v := .bool _) rfl rfl) ?_
          refine op_false rfl (r_moveV (v := .bool (decide _)) rfl) (fun h => h (by rw [hno hg49])) ?_
          refine opG_yes rfl rfl rfl rfl rfl (r_loadRow rfl B0_1 Try.underlying27 rfl Try.sz27) ?_
          refine opGCv_yes rfl rfl rfl rfl rfl (r_call Try.func12 Try.nm12 rfl) (ended_spec y _) ?_
          rintro v w6 ⟨rfl, hE⟩
          replace B0_0 := Blk.ext B0_0 hE
          replace B0_1 := Blk.ext B0_1 hE
          replace B6_4 := Blk.ext B6_4 hE
          replace B9_7 := Blk.ext B9_7 hE
          replace hX := hX.trans hE
          refine opG_split rfl rfl rfl rfl rfl (r_moveV (v := .bool (decide _)) rfl) (fun hg58 => ?_) (fun hg58 => ?_)
          · refine opG_yes rfl rfl rfl rfl rfl (r_moveV (v := .bool (decide (y.is a[i].1 = true))) rfl) ?_
            refine opG_yes rfl rfl rfl rfl rfl (r_pickTV (v := .bool _) rfl rfl) ?_
            refine op rfl (r_pickFV (v := .bool _) rfl rfl) ?_
            refine op_false rfl (r_moveV (v := .bool (decide _)) rfl) (ended_no hg58) ?_
            refine opG_yes rfl rfl rfl rfl rfl (r_fieldAddr rfl Try.fld27_2 rfl) ?_
            refine opG_yes rfl rfl rfl rfl rfl (r_load (v := .int _ _) rfl Try.underlying3 rfl (Blk.cell B9_7 rfl)) ?_
            refine opG_yes rfl rfl rfl rfl rfl (r_fieldAddr rfl Try.fld27_2 rfl) ?_
            refine opG_yes rfl rfl rfl rfl rfl (r_load (v := .int _ _) rfl Try.underlying3 rfl (Blk.cell B0_1 rfl)) ?_
            refine opG_yes rfl rfl rfl rfl rfl (r_lss rfl rfl) ?_
            refine op rfl (r_pickFV (v := .bool _) rfl rfl) ?_
            refine op_false rfl (r_moveV (v := .bool (decide _)) rfl) (by omega) ?_
            refine opG_yes rfl rfl rfl rfl rfl (r_fieldAddr rfl Try.fld27_2 rfl) ?_
            refine opG_yes rfl rfl rfl rfl rfl (r_load (v := .int _ _) rfl Try.underlying3 rfl (Blk.cell B9_7 rfl)) ?_
            refine opG_yes rfl rfl rfl rfl rfl (r_fieldAddr rfl Try.fld24_0 rfl) ?_
            have hbd := hRz.1.2.1
            have hbd0 := hRz.1.1
            refine opG_yes rfl rfl rfl rfl rfl (r_load (v := .int _ _) rfl Try.underlying3 rfl (Blk.cell B0_0 rfl)) ?_
            refine opG_yes rfl rfl rfl rfl rfl (r_add' rfl rfl (wrap_i64 (by omega) (by omega))) ?_
            refine opG_yes rfl rfl rfl rfl rfl (r_gtr rfl rfl) ?_
            refine op rfl (r_pickFV (v := .bool _) rfl rfl) ?_
            refine WL_nil ?_
            refine W_ifp rfl (fun ht76 => ?_) (fun ht76 => ?_)
            · exact absurd hRz.2.2.2.2.2.2.2.2.2.2.2.1 (by omega)
            · refine W_skip ?_
              refine W_region ?_
              refine op rfl (r_loadRow rfl B9_7 Try.underlying27 rfl Try.sz27) ?_
              refine op_storeRow rfl rfl Try.sz27 B0_1 rfl rfl ?_
              intro w12_1 C12_1 BB12_1
              replace B0_0 := Chg.blk C12_1 B0_0 hNb0_0_0_1
              replace B6_4 := Chg.blk C12_1 B6_4 (fun q => hNb0_1_6_4 q.symm)
              replace B9_7 := Chg.blk C12_1 B9_7 (fun q => hNb0_1_9_7 q.symm)
              replace hX := hX.chg C12_1 hG0_1
              replace B0_1 := BB12_1
              refine WL_nil ?_
              refine W_region ?_
              refine op rfl (r_moveV (v := .int _ _) rfl) ?_
              refine op rfl (r_add' rfl rfl (wrap_i64 (by omega) (by omega))) ?_
              refine op rfl (r_assignV (v := .int _ _) rfl) ?_
              refine WL_nil ?_
              refine ⟨?_, by repeat (first | with_reducible exact Out.refl _ _ | with_reducible exact Out.mix | refine Out.put rfl ?_ | refine Out.mixin rfl ?_ | exact Out.refl _ _ | exact Out.mix)⟩
              exact ⟨a.length - (i + 1), by omega, i + 1, z, rfl, by omega, rfl, hRz, hX, B0_0, B0_1⟩
          · refine opG_no rfl rfl rfl rfl rfl ?_
            refine opG_yes rfl rfl rfl rfl rfl (r_pickFV (v := .bool _) rfl rfl) ?_
            refine op rfl (r_pickFV (v := .bool _) rfl rfl) ?_
            refine op rfl (r_moveV (v := .bool _) rfl) ?_
            refine opG_yes rfl rfl rfl rfl rfl (r_fieldAddr rfl Try.fld27_2 rfl) ?_
            refine opG_yes rfl rfl rfl rfl rfl (r_load (v := .int _ _) rfl Try.underlying3 rfl (Blk.cell B9_7 rfl)) ?_
            refine opG_yes rfl rfl rfl rfl rfl (r_fieldAddr rfl Try.fld27_2 rfl) ?_
            refine opG_yes rfl rfl rfl rfl rfl (r_load (v := .int _ _) rfl Try.underlying3 rfl (Blk.cell B0_1 rfl)) ?_
            refine opG_yes rfl rfl rfl rfl rfl (r_lss rfl rfl) ?_
            refine op rfl (r_pickFV (v := .bool _) rfl rfl) ?_
            refine op_false rfl (r_moveV (v := .bool (decide _)) rfl) (by omega) ?_
            refine opG_yes rfl rfl rfl rfl rfl (r_fieldAddr rfl Try.fld27_2 rfl) ?_
            refine opG_yes rfl rfl rfl rfl rfl (r_load (v := .int _ _) rfl Try.underlying3 rfl (Blk.cell B9_7 rfl)) ?_
            refine opG_yes rfl rfl rfl rfl rfl (r_fieldAddr rfl Try.fld24_0 rfl) ?_
            have hbd := hRz.1.2.1
            have hbd0 := hRz.1.1
            refine opG_yes rfl rfl rfl rfl rfl (r_load (v := .int _ _) rfl Try.underlying3 rfl (Blk.cell B0_0 rfl)) ?_
            refine opG_yes rfl rfl rfl rfl rfl (r_add' rfl rfl (wrap_i64 (by omega) (by omega))) ?_
            refine opG_yes rfl rfl rfl rfl rfl (r_gtr rfl rfl) ?_
            refine op rfl (r_pickFV (v := .bool _) rfl rfl) ?_
            refine WL_nil ?_
            refine W_ifp rfl (fun ht76 => ?_) (fun ht76 => ?_)
            · exact absurd hRz.2.2.2.2.2.2.2.2.2.2.2.1 (by omega)
            · refine W_skip ?_
              refine W_region ?_
              refine op rfl (r_loadRow rfl B9_7 Try.underlying27 rfl Try.sz27) ?_
              refine op_storeRow rfl rfl Try.sz27 B0_1 rfl rfl ?_
              intro w12_1 C12_1 BB12_1
              replace B0_0 := Chg.blk C12_1 B0_0 hNb0_0_0_1
              replace B6_4 := Chg.blk C12_1 B6_4 (fun q => hNb0_1_6_4 q.symm)
              replace B9_7 := Chg.blk C12_1 B9_7 (fun q => hNb0_1_9_7 q.symm)
              replace hX := hX.chg C12_1 hG0_1
              replace B0_1 := BB12_1
              refine WL_nil ?_
              refine W_region ?_
              refine op rfl (r_moveV (v := .int _ _) rfl) ?_
              refine op rfl (r_add' rfl rfl (wrap_i64 (by omega) (by omega))) ?_
              refine op rfl (r_assignV (v := .int _ _) rfl) ?_
              refine WL_nil ?_
              refine ⟨?_, by repeat (first | with_reducible exact Out.refl _ _ | with_reducible exact Out.mix | refine Out.put rfl ?_ | refine Out.mixin rfl ?_ | exact Out.refl _ _ | exact Out.mix)⟩
              exact ⟨a.length - (i + 1), by omega, i + 1, z, rfl, by omega, rfl, hRz, hX, B0_0, B0_1⟩
        · refine opG_no rfl rfl rfl rfl rfl ?_
          refine opG_no rfl rfl rfl rfl rfl ?_
          refine opG_no rfl rfl rfl rfl rfl ?_
          refine opG_yes rfl rfl rfl rfl rfl (r_pickFV (v := .bool _) rfl rfl) ?_
          refine op rfl (r_pickFV (v := .bool _) rfl rfl) ?_
          refine op rfl (r_moveV (v := .bool _) rfl) ?_
          refine opG_yes rfl rfl rfl rfl rfl (r_loadRow rfl B0_1 Try.underlying27 rfl Try.sz27) ?_
          refine opGCv_yes rfl rfl rfl rfl rfl (r_call Try.func12 Try.nm12 rfl) (ended_spec y _) ?_
          rintro v w6 ⟨rfl, hE⟩
          replace B0_0 := Blk.ext B0_0 hE
          replace B0_1 := Blk.ext B0_1 hE
          replace B6_4 := Blk.ext B6_4 hE
          replace B9_7 := Blk.ext B9_7 hE
          replace hX := hX.trans hE
          refine opG_split rfl rfl rfl rfl rfl (r_moveV (v := .bool (decide _)) rfl) (fun hg58 => ?_) (fun hg58 => ?_)
          · refine opG_yes rfl rfl rfl rfl rfl (r_moveV (v := .bool (decide (y.is a[i].1 = true))) rfl) ?_
            refine opG_yes rfl rfl rfl rfl rfl (r_pickTV (v := .bool _) rfl rfl) ?_
            refine op rfl (r_pickFV (v := .bool _) rfl rfl) ?_
            refine op_false rfl (r_moveV (v := .bool (decide _)) rfl) (ended_no hg58) ?_
            refine opG_yes rfl rfl rfl rfl rfl (r_fieldAddr rfl Try.fld27_2 rfl) ?_
            refine opG_yes rfl rfl rfl rfl rfl (r_load (v := .int _ _) rfl Try.underlying3 rfl (Blk.cell B9_7 rfl)) ?_
            refine opG_yes rfl rfl rfl rfl rfl (r_fieldAddr rfl Try.fld27_2 rfl) ?_
            refine opG_yes rfl rfl rfl rfl rfl (r_load (v := .int _ _) rfl Try.underlying3 rfl (Blk.cell B0_1 rfl)) ?_
            refine opG_yes rfl rfl rfl rfl rfl (r_lss rfl rfl) ?_
            refine op rfl (r_pickFV (v := .bool _) rfl rfl) ?_
            refine op_false rfl (r_moveV (v := .bool (decide _)) rfl) (by omega) ?_
            refine opG_yes rfl rfl rfl rfl rfl (r_fieldAddr rfl Try.fld27_2 rfl) ?_
            refine opG_yes rfl rfl rfl rfl rfl (r_load (v := .int _ _) rfl Try.underlying3 rfl (Blk.cell B9_7 rfl)) ?_
            refine opG_yes rfl rfl rfl rfl rfl (r_fieldAddr rfl Try.fld24_0 rfl) ?_
            have hbd := hRz.1.2.1
            have hbd0 := hRz.1.1
            refine opG_yes rfl rfl rfl rfl rfl (r_load (v := .int _ _) rfl Try.underlying3 rfl (Blk.cell B0_0 rfl)) ?_
            refine opG_yes rfl rfl rfl rfl rfl (r_add' rfl rfl (wrap_i64 (by omega) (by omega))) ?_
            refine opG_yes rfl rfl rfl rfl rfl (r_gtr rfl rfl) ?_
            refine op rfl (r_pickFV (v := .bool _) rfl rfl) ?_
            refine WL_nil ?_
            refine W_ifp rfl (fun ht76 => ?_) (fun ht76 => ?_)
            · exact absurd hRz.2.2.2.2.2.2.2.2.2.2.2.1 (by omega)
            · refine W_skip ?_
              refine W_region ?_
              refine op rfl (r_loadRow rfl B9_7 Try.underlying27 rfl Try.sz27) ?_
              refine op_storeRow rfl rfl Try.sz27 B0_1 rfl rfl ?_
              intro w12_1 C12_1 BB12_1
              replace B0_0 := Chg.blk C12_1 B0_0 hNb0_0_0_1
              replace B6_4 := Chg.blk C12_1 B6_4 (fun q => hNb0_1_6_4 q.symm)
              replace B9_7 := Chg.blk C12_1 B9_7 (fun q => hNb0_1_9_7 q.symm)
              replace hX := hX.chg C12_1 hG0_1
              replace B0_1 := BB12_1
              refine WL_nil ?_
              refine W_region ?_
              refine op rfl (r_moveV (v := .int _ _) rfl) ?_
              refine op rfl (r_add' rfl rfl (wrap_i64 (by omega) (by omega))) ?_
              refine op rfl (r_assignV (v := .int _ _) rfl) ?_
              refine WL_nil ?_
              refine ⟨?_, by repeat (first | with_reducible exact Out.refl _ _ | with_reducible exact Out.mix | refine Out.put rfl ?_ | refine Out.mixin rfl ?_ | exact Out.refl _ _ | exact Out.mix)⟩
              exact ⟨a.length - (i + 1), by omega, i + 1, z, rfl, by omega, rfl, hRz, hX, B0_0, B0_1⟩
          · refine opG_no rfl rfl rfl rfl rfl ?_
            refine opG_yes rfl rfl rfl rfl rfl (r_pickFV (v := .bool _) rfl rfl) ?_
            refine op rfl (r_pickFV (v := .bool _) rfl rfl) ?_
            refine op rfl (r_moveV (v := .bool _) rfl) ?_
            refine opG_yes rfl rfl rfl rfl rfl (r_fieldAddr rfl Try.fld27_2 rfl) ?_
            refine opG_yes rfl rfl rfl rfl rfl (r_load (v := .int _ _) rfl Try.underlying3 rfl (Blk.cell B9_7 rfl)) ?_
            refine opG_yes rfl rfl rfl rfl rfl (r_fieldAddr rfl Try.fld27_2 rfl) ?_
            refine opG_yes rfl rfl rfl rfl rfl (r_load (v := .int _ _) rfl Try.underlying3 rfl (Blk.cell B0_1 rfl)) ?_
            refine opG_yes rfl rfl rfl rfl rfl (r_lss rfl rfl) ?_
            refine op rfl (r_pickFV (v := .bool _) rfl rfl) ?_
            refine op_false rfl (r_moveV (v := .bool (decide _)) rfl) (by omega) ?_
            refine opG_yes rfl rfl rfl rfl rfl (r_fieldAddr rfl Try.fld27_2 rfl) ?_
            refine opG_yes rfl rfl rfl rfl rfl (r_load (v := .int _ _) rfl Try.underlying3 rfl (Blk.cell B9_7 rfl)) ?_
            refine opG_yes rfl rfl rfl rfl rfl (r_fieldAddr rfl Try.fld24_0 rfl) ?_
            have hbd := hRz.1.2.1
            have hbd0 := hRz.1.1
            refine opG_yes rfl rfl rfl rfl rfl (r_load (v := .int _ _) rfl Try.underlying3 rfl (Blk.cell B0_0 rfl)) ?_
            refine opG_yes rfl rfl rfl rfl rfl (r_add' rfl rfl (wrap_i64 (by omega) (by omega))) ?_
            refine opG_yes rfl rfl rfl rfl rfl (r_gtr rfl rfl) ?_
            refine op rfl (r_pickFV (v := .bool _) rfl rfl) ?_
            refine WL_nil ?_
            refine W_ifp rfl (fun ht76 => ?_) (fun ht76 => ?_)
            · exact absurd hRz.2.2.2.2.2.2.2.2.2.2.2.1 (by omega)
            · refine W_skip ?_
              refine W_region ?_
              refine op rfl (r_loadRow rfl B9_7 Try.underlying27 rfl Try.sz27) ?_
              refine op_storeRow rfl rfl Try.sz27 B0_1 rfl rfl ?_
              intro w12_1 C12_1 BB12_1
              replace B0_0 := Chg.blk C12_1 B0_0 hNb0_0_0_1
              replace B6_4 := Chg.blk C12_1 B6_4 (fun q => hNb0_1_6_4 q.symm)
              replace B9_7 := Chg.blk C12_1 B9_7 (fun q => hNb0_1_9_7 q.symm)
              replace hX := hX.chg C12_1 hG0_1
              replace B0_1 := BB12_1
              refine WL_nil ?_
              refine W_region ?_
              refine op rfl (r_moveV (v := .int _ _) rfl) ?_
              refine op rfl (r_add' rfl rfl (wrap_i64 (by omega) (by omega))) ?_
              refine op rfl (r_assignV (v := .int _ _) rfl) ?_
              refine WL_nil ?_
              refine ⟨?_, by repeat (first | with_reducible exact Out.refl _ _ | with_reducible exact Out.mix | refine Out.put rfl ?_ | refine Out.mixin rfl ?_ | exact Out.refl _ _ | exact Out.mix)⟩
              exact ⟨a.length - (i + 1), by omega, i + 1, z, rfl, by omega, rfl, hRz, hX, B0_0, B0_1⟩
      · refine W_exit (blk_hit ?_)
        refine W_seq ?_
        refine W_region ?_
        refine opCv rfl (r_call Try.func10 Try.nm10 rfl) (known_spec _) ?_
        rintro v w7 ⟨rfl, hE⟩
        replace B0_0 := Blk.ext B0_0 hE
        replace B0_1 := Blk.ext B0_1 hE
        replace hX := hX.trans hE
        refine op rfl (r_assignV (v := .bool _) rfl) ?_
        refine WL_nil ?_
        refine W_ret (finX_ret ?_)
        refine fin1 ?_
        exact ⟨_, rfl, rfl, hX⟩
end Go.Proofs.Ytfocbkdoolnijaa
