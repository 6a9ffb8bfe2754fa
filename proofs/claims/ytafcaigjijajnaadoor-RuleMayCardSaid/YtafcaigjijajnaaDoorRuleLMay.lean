/-
  A rule that may be may be with any glob that may; with a text that is too long, of another kind, or without a glob, it may not: the walk.
-/
import Derived.Test.YtafcaigjijajnaaDoorFacts
import Derived.Test.YtafcaigjijajnaaDoorRulePl
namespace Go.Proofs.YtafcaigjijajnaaDoor
open Go Go.Eng Go.RowKit Go.Proofs
set_option linter.unusedVariables false
set_option linter.unusedSimpArgs false
set_option maxHeartbeats 1000000
set_option maxRecDepth 20000

theorem print_one (x : Ru) : (printR [x]).2 = 0 ↔ ruR x := by
  unfold printR
  by_cases h : ruR x
  · rw [if_pos (fun r hr => by rw [List.mem_singleton.1 hr]; exact h), if_neg (by simp)]; simp [h]
  · rw [if_neg (fun q => h (q x (by simp)))]; simp [h]
theorem ruleMay_walk (r : Ru) (u : List UInt8) (W : World) (hG : Gl W) (hk : inK .i64 r.k) (hg : r.g.length ≤ 140737488355328) (ho : r.o.length ≤ 140737488355328) (hn : r.n.length ≤ 140737488355328) (hgl : u.length ≤ 140737488355328) :
    Calls Tryd.prog 9 #[.agg r.vals.toArray, .string (str u)] W (fun en w' => ∃ v, en = .returned v ∧ v = .bool true ∧ Ext W w') := by
  have hs1 : ([r].map lenRu).sum = 1 + r.g.length + r.o.length + r.n.length := by simp [lenRu]
  have hL : ∀ w b, Blk w b r.vals.toArray 35 → Calls Tryd.prog 21 #[.slice (some ⟨b, 0, none⟩) 1 1] w (fun en w' => ∃ v, en = .returned v ∧ v = .int .i64 ((1 + r.g.length + r.o.length + r.n.length : Nat) : Int) ∧ Ext w w') := fun w b hB => by
    have := longRu_spec (c := 1) (l := [r]) (row_ru hB (fun _ _ => ru_mk hk hg ho hn)) (by simp)
    rw [hs1] at this
    exact this
  refine calls' (n := 71) (rs := #[.tmp 4]) (l := [.agg r.vals.toArray, .string (str u)]) Tryd.func9 rfl rfl rfl rfl rfl ?_
  have hX := Ext.refl W
  refine W_seq ?_
  refine W_region ?_
  refine op_box (v := .agg _) rfl rfl ?_
  intro w0_0 b0_0 E0_0 B0_0 L0_0
  have hG0_0 : W.heap.size ≤ b0_0 := by have := hX.size; omega
  replace hX := hX.trans E0_0
  refine op rfl (r_assignV (v := .bool _) rfl) ?_
  refine WL_nil ?_
  refine W_seq ?_
  refine W_seq ?_
  refine W_region ?_
  refine op rfl (r_loadRow rfl B0_0 Tryd.underlying35 rfl Tryd.sz35) ?_
  refine op_newS rfl (r_buildRows (vs := [[.int _ _, .string _, .string _, .string _]]) Tryd.underlying23 Tryd.sz35 Tryd.zero35 rfl rfl rfl) ?_
  intro w1_1 b1_1 E1_1 B1_1 L1_1
  have hG1_1 : W.heap.size ≤ b1_1 := by have := hX.size; omega
  have hNb0_0_1_1 : b0_0 ≠ b1_1 := by have := Blk.lt B0_0; omega
  replace B0_0 := Blk.ext B0_0 E1_1
  replace hX := hX.trans E1_1
  refine opCv rfl (r_call Tryd.func21 Tryd.nm21 rfl) (hL _ _ B1_1) ?_
  rintro v1 w1 ⟨rfl, hE⟩
  replace B0_0 := Blk.ext B0_0 hE
  replace B1_1 := Blk.ext B1_1 hE
  replace hX := hX.trans hE
  refine op rfl (r_gtr rfl rfl) ?_
  refine op_split rfl (r_moveV (v := .bool (decide _)) rfl) (fun hg15 => ?_) (fun hg15 => ?_)
  · refine opG_no rfl rfl rfl rfl rfl ?_
    refine opG_no rfl rfl rfl rfl rfl ?_
    refine opG_no rfl rfl rfl rfl rfl ?_
    refine op rfl (r_pickTV (v := .bool _) rfl rfl) ?_
    refine op rfl (r_moveV (v := .bool _) rfl) ?_
    refine opG_no rfl rfl rfl rfl rfl ?_
    refine opG_no rfl rfl rfl rfl rfl ?_
    refine opG_no rfl rfl rfl rfl rfl ?_
    refine op rfl (r_pickTV (v := .bool _) rfl rfl) ?_
    refine WL_nil ?_
    refine W_then rfl ?_
    refine W_seq ?_
    refine W_region ?_
    refine opCv rfl (r_call Tryd.func11 Tryd.nm11 rfl) (known11_spec _ (hG.ext hX)) ?_
    rintro v2 w2 ⟨rfl, hE⟩
    replace B0_0 := Blk.ext B0_0 hE
    replace B1_1 := Blk.ext B1_1 hE
    replace hX := hX.trans hE
    refine op rfl (r_assignV (v := .bool _) rfl) ?_
    refine WL_nil ?_
    refine W_ret (finX_ret ?_)
    refine fin1 ?_
    exact ⟨_, rfl, rfl, hX⟩
  · refine opG_yes rfl rfl rfl rfl rfl (r_moveV (v := .string _) rfl) ?_
    refine opG_yes rfl rfl rfl rfl rfl (rt_len rfl Tryd.underlying9) ?_
    refine opG_yes rfl rfl rfl rfl rfl (r_gtr rfl rfl) ?_
    refine op rfl (r_pickFV (v := .bool _) rfl rfl) ?_
    refine op_split rfl (r_moveV (v := .bool (decide _)) rfl) (fun hg20 => ?_) (fun hg20 => ?_)
    · refine opG_no rfl rfl rfl rfl rfl ?_
      refine opG_no rfl rfl rfl rfl rfl ?_
      refine opG_no rfl rfl rfl rfl rfl ?_
      refine op rfl (r_pickTV (v := .bool _) rfl rfl) ?_
      refine WL_nil ?_
      refine W_then rfl ?_
      refine W_seq ?_
      refine W_region ?_
      refine opCv rfl (r_call Tryd.func11 Tryd.nm11 rfl) (known11_spec _ (hG.ext hX)) ?_
      rintro v2 w2 ⟨rfl, hE⟩
      replace B0_0 := Blk.ext B0_0 hE
      replace B1_1 := Blk.ext B1_1 hE
      replace hX := hX.trans hE
      refine op rfl (r_assignV (v := .bool _) rfl) ?_
      refine WL_nil ?_
      refine W_ret (finX_ret ?_)
      refine fin1 ?_
      exact ⟨_, rfl, rfl, hX⟩
    · refine opG_yes rfl rfl rfl rfl rfl (r_loadRow rfl B0_0 Tryd.underlying35 rfl Tryd.sz35) ?_
      refine opGCv_yes rfl rfl rfl rfl rfl (r_call Tryd.func24 Tryd.nm24 rfl) (rright_spec r _ (ext_cell hX hG.max.choose_spec) (by omega) (by omega) (by omega)) ?_
      rintro v1b w1b ⟨rfl, hE⟩
      replace B0_0 := Blk.ext B0_0 hE
      replace B1_1 := Blk.ext B1_1 hE
      replace hX := hX.trans hE
      refine opG_yes rfl rfl rfl rfl rfl (r_notP rfl) ?_
      refine op rfl (r_pickFV (v := .bool _) rfl rfl) ?_
      refine WL_nil ?_
      refine W_ifp rfl (fun ht24 => ?_) (fun ht24 => ?_)
      · refine W_seq ?_
        refine W_region ?_
        refine opCv rfl (r_call Tryd.func11 Tryd.nm11 rfl) (known11_spec _ (hG.ext hX)) ?_
        rintro v2 w2 ⟨rfl, hE⟩
        replace B0_0 := Blk.ext B0_0 hE
        replace B1_1 := Blk.ext B1_1 hE
        replace hX := hX.trans hE
        refine op rfl (r_assignV (v := .bool _) rfl) ?_
        refine WL_nil ?_
        refine W_ret (finX_ret ?_)
        refine fin1 ?_
        exact ⟨_, rfl, rfl, hX⟩
      · have hr : ruR r := Classical.not_not.1 ht24
        have hg1 : u.length ≤ 100 := by omega
        have hrk := kind_range hr.2.2.2
        have hrg := hr.1.2
        have hro := hr.2.1
        have hrn := hr.2.2.1
        have hy : ¬ ruR ⟨r.k, [], r.o, r.n⟩ := fun q => glob_ne q.1 rfl
        have hz : ¬ ruR ⟨6, r.g, r.o, r.n⟩ := fun q => by
          have h6 : (6 : Int) ≤ 5 := (kind_range q.2.2.2).2
          omega
        refine W_skip ?_
        refine W_seq ?_
        refine W_region ?_
        refine op rfl (r_loadRow rfl B0_0 Tryd.underlying35 rfl Tryd.sz35) ?_
        refine op_alloc rfl Tryd.zero35 ?_
        intro w3_1 b3_1 E3_1 B3_1 L3_1
        have hG3_1 : W.heap.size ≤ b3_1 := by have := hX.size; omega
        have hNb0_0_3_1 : b0_0 ≠ b3_1 := by have := Blk.lt B0_0; omega
        replace B0_0 := Blk.ext B0_0 E3_1
        replace hX := hX.trans E3_1
        refine op_storeRow rfl rfl Tryd.sz35 B3_1 rfl rfl ?_
        intro w3_2 C3_2 BB3_2
        replace B0_0 := Chg.blk C3_2 B0_0 hNb0_0_3_1
        replace hX := hX.chg C3_2 hG3_1
        replace B3_1 := BB3_2
        refine WL_nil ?_
        refine W_seq ?_
        refine W_region ?_
        refine op rfl (r_moveV (v := .string _) rfl) ?_
        refine op rfl (r_fieldAddr rfl Tryd.fld35_1 rfl) ?_
        refine op_store (v := .string _) rfl rfl rfl Tryd.sz9 B3_1 (Nat.le_of_ble_eq_true rfl) ?_
        intro w4_2 C4_2 BB4_2
        replace B0_0 := Chg.blk C4_2 B0_0 hNb0_0_3_1
        replace hX := hX.chg C4_2 hG3_1
        replace B3_1 := BB4_2
        replace B3_1 : Blk _ b3_1 (Ru.vals ⟨r.k, u, r.o, r.n⟩).toArray 35 := B3_1
        refine WL_nil ?_
        refine W_seq ?_
        refine W_region ?_
        refine op rfl (r_loadRow rfl B0_0 Tryd.underlying35 rfl Tryd.sz35) ?_
        refine op_alloc rfl Tryd.zero35 ?_
        intro w5_1 b5_1 E5_1 B5_1 L5_1
        have hG5_1 : W.heap.size ≤ b5_1 := by have := hX.size; omega
        have hNb0_0_5_1 : b0_0 ≠ b5_1 := by have := Blk.lt B0_0; omega
        replace B0_0 := Blk.ext B0_0 E5_1
        have hNb3_1_5_1 : b3_1 ≠ b5_1 := by have := Blk.lt B3_1; omega
        replace B3_1 := Blk.ext B3_1 E5_1
        replace hX := hX.trans E5_1
        refine op_storeRow rfl rfl Tryd.sz35 B5_1 rfl rfl ?_
        intro w5_2 C5_2 BB5_2
        replace B0_0 := Chg.blk C5_2 B0_0 hNb0_0_5_1
        replace B3_1 := Chg.blk C5_2 B3_1 hNb3_1_5_1
        replace hX := hX.chg C5_2 hG5_1
        replace B5_1 := BB5_2
        refine WL_nil ?_
        refine W_seq ?_
        refine W_region ?_
        refine op rfl (r_fieldAddr rfl Tryd.fld35_1 rfl) ?_
        refine op_store (v := .string _) rfl rfl rfl Tryd.sz9 B5_1 (Nat.le_of_ble_eq_true rfl) ?_
        intro w6_1 C6_1 BB6_1
        replace B0_0 := Chg.blk C6_1 B0_0 hNb0_0_5_1
        replace B3_1 := Chg.blk C6_1 B3_1 hNb3_1_5_1
        replace hX := hX.chg C6_1 hG5_1
        replace B5_1 := BB6_1
        replace B5_1 : Blk _ b5_1 (Ru.vals ⟨r.k, [], r.o, r.n⟩).toArray 35 := B5_1
        refine WL_nil ?_
        refine W_seq ?_
        refine W_region ?_
        refine op rfl (r_loadRow rfl B0_0 Tryd.underlying35 rfl Tryd.sz35) ?_
        refine op_alloc rfl Tryd.zero35 ?_
        intro w7_1 b7_1 E7_1 B7_1 L7_1
        have hG7_1 : W.heap.size ≤ b7_1 := by have := hX.size; omega
        have hNb0_0_7_1 : b0_0 ≠ b7_1 := by have := Blk.lt B0_0; omega
        replace B0_0 := Blk.ext B0_0 E7_1
        have hNb3_1_7_1 : b3_1 ≠ b7_1 := by have := Blk.lt B3_1; omega
        replace B3_1 := Blk.ext B3_1 E7_1
        have hNb5_1_7_1 : b5_1 ≠ b7_1 := by have := Blk.lt B5_1; omega
        replace B5_1 := Blk.ext B5_1 E7_1
        replace hX := hX.trans E7_1
        refine op_storeRow rfl rfl Tryd.sz35 B7_1 rfl rfl ?_
        intro w7_2 C7_2 BB7_2
        replace B0_0 := Chg.blk C7_2 B0_0 hNb0_0_7_1
        replace B3_1 := Chg.blk C7_2 B3_1 hNb3_1_7_1
        replace B5_1 := Chg.blk C7_2 B5_1 hNb5_1_7_1
        replace hX := hX.chg C7_2 hG7_1
        replace B7_1 := BB7_2
        refine WL_nil ?_
        refine W_seq ?_
        refine W_region ?_
        refine op rfl (r_fieldAddr rfl Tryd.fld35_0 rfl) ?_
        refine op_store (v := .int _ _) rfl rfl rfl Tryd.sz3 B7_1 (Nat.le_of_ble_eq_true rfl) ?_
        intro w8_1 C8_1 BB8_1
        replace B0_0 := Chg.blk C8_1 B0_0 hNb0_0_7_1
        replace B3_1 := Chg.blk C8_1 B3_1 hNb3_1_7_1
        replace B5_1 := Chg.blk C8_1 B5_1 hNb5_1_7_1
        replace hX := hX.chg C8_1 hG7_1
        replace B7_1 := BB8_1
        replace B7_1 : Blk _ b7_1 (Ru.vals ⟨6, r.g, r.o, r.n⟩).toArray 35 := B7_1
        refine WL_nil ?_
        refine W_seq ?_
        refine W_region ?_
        refine op rfl (r_loadRow rfl B0_0 Tryd.underlying35 rfl Tryd.sz35) ?_
        refine op_alloc rfl Tryd.zero35 ?_
        intro w9_1 b9_1 E9_1 B9_1 L9_1
        have hG9_1 : W.heap.size ≤ b9_1 := by have := hX.size; omega
        have hNb0_0_9_1 : b0_0 ≠ b9_1 := by have := Blk.lt B0_0; omega
        replace B0_0 := Blk.ext B0_0 E9_1
        have hNb3_1_9_1 : b3_1 ≠ b9_1 := by have := Blk.lt B3_1; omega
        replace B3_1 := Blk.ext B3_1 E9_1
        have hNb5_1_9_1 : b5_1 ≠ b9_1 := by have := Blk.lt B5_1; omega
        replace B5_1 := Blk.ext B5_1 E9_1
        have hNb7_1_9_1 : b7_1 ≠ b9_1 := by have := Blk.lt B7_1; omega
        replace B7_1 := Blk.ext B7_1 E9_1
        replace hX := hX.trans E9_1
        refine op_storeRow rfl rfl Tryd.sz35 B9_1 rfl rfl ?_
        intro w9_2 C9_2 BB9_2
        replace B0_0 := Chg.blk C9_2 B0_0 hNb0_0_9_1
        replace B3_1 := Chg.blk C9_2 B3_1 hNb3_1_9_1
        replace B5_1 := Chg.blk C9_2 B5_1 hNb5_1_9_1
        replace B7_1 := Chg.blk C9_2 B7_1 hNb7_1_9_1
        replace hX := hX.chg C9_2 hG9_1
        replace B9_1 := BB9_2
        refine WL_nil ?_
        refine W_seq ?_
        refine W_block ?_
        refine W_loop [34, 35, 36, 37, 38, 39, 40, 41] (fun q e' w' => ∃ o : List UInt8, q = 101 - o.length ∧ o.length ≤ 101 ∧ Blk w' b3_1 (Ru.vals ⟨r.k, u, r.o, r.n⟩).toArray 35 ∧ Blk w' b5_1 (Ru.vals ⟨r.k, [], r.o, r.n⟩).toArray 35 ∧ Blk w' b7_1 (Ru.vals ⟨6, r.g, r.o, r.n⟩).toArray 35 ∧ Blk w' b9_1 (Ru.vals ⟨r.k, r.g, o, r.n⟩).toArray 35 ∧ Ext W w') (101 - r.o.length) ?_ ?_
        · exact ⟨r.o, rfl, by omega, B3_1, B5_1, B7_1, B9_1, hX⟩
        intro k g w' hI
        obtain ⟨o, hq, hol, q1, q2, q3, q4, hX'⟩ := hI
        clear hX B3_1 B5_1 B7_1 B9_1
        have hX := hX'
        have B3_1 := q1
        have B5_1 := q2
        have B7_1 := q3
        have B9_1 := q4
        refine W_seq ?_
        refine W_seq ?_
        refine W_region ?_
        refine op rfl (r_fieldAddr rfl Tryd.fld35_2 rfl) ?_
        refine op rfl (r_load (v := sv o) rfl Tryd.underlying9 rfl (Blk.cell B9_1 rfl)) ?_
        refine op rfl (rt_len rfl Tryd.underlying9) ?_
        refine op rfl (r_leq rfl rfl) ?_
        refine WL_nil ?_
        refine W_ifp rfl (fun ht37 => ?_) (fun ht37 => ?_)
        · refine W_skip ?_
          refine W_block ?_
          refine W_region ?_
          refine op rfl (r_fieldAddr rfl Tryd.fld35_2 rfl) ?_
          refine op rfl (r_load (v := sv o) rfl Tryd.underlying9 rfl (Blk.cell B9_1 rfl)) ?_
          refine op rfl (rt_add (a := o) (b := [97]) rfl rfl (by simp; omega)) ?_
          refine op rfl (r_fieldAddr rfl Tryd.fld35_2 rfl) ?_
          refine op_store (v := .string _) rfl rfl rfl Tryd.sz9 B9_1 (Nat.le_of_ble_eq_true rfl) ?_
          intro w11_4 C11_4 BB11_4
          replace B3_1 := Chg.blk C11_4 B3_1 hNb3_1_9_1
          replace B5_1 := Chg.blk C11_4 B5_1 hNb5_1_9_1
          replace B7_1 := Chg.blk C11_4 B7_1 hNb7_1_9_1
          replace hX := hX.chg C11_4 hG9_1
          replace B9_1 := BB11_4
          replace B9_1 : Blk _ b9_1 (Ru.vals ⟨r.k, r.g, o ++ [97], r.n⟩).toArray 35 := B9_1
          refine WL_nil ?_
          refine ⟨?_, by repeat (first | with_reducible exact Out.refl _ _ | with_reducible exact Out.mix | refine Out.put rfl ?_ | refine Out.mixin rfl ?_ | exact Out.refl _ _ | exact Out.mix)⟩
          exact ⟨101 - (o ++ [97]).length, by simp only [List.length_append, List.length_singleton]; omega, o ++ [97], rfl, by simp only [List.length_append, List.length_singleton]; omega, B3_1, B5_1, B7_1, B9_1, hX⟩
        · have hol2 : o.length = 101 := by omega
          have hlo : ¬ ruR ⟨r.k, r.g, o, r.n⟩ := fun q => by have : o.length ≤ 100 := q.2.1; omega
          have hP : ∀ w b, Gl w → Blk w b (Ru.vals ⟨r.k, u, r.o, r.n⟩).toArray 35 → Calls Tryd.prog 22 #[.slice (some ⟨b, 0, none⟩) 1 1] w (fun en w' => ∃ v, en = .returned v ∧ v = .tuple #[sv (printR [⟨r.k, u, r.o, r.n⟩]).1, .int .i64 (printR [⟨r.k, u, r.o, r.n⟩]).2] ∧ Ext w w') := fun w b hw hB =>
            print_spec (c := 1) (l := [⟨r.k, u, r.o, r.n⟩]) hw (row_ru hB (fun _ _ => ru_mk hk (by show u.length ≤ _; omega) ho hn)) (by simp) (fun x hx => by rw [List.mem_singleton.1 hx]; exact ⟨by show u.length ≤ _; omega, by show r.o.length ≤ _; omega, by show r.n.length ≤ _; omega⟩)
          refine W_exit (blk_hit ?_)
          refine W_seq ?_
          refine W_region ?_
          refine op rfl (r_loadRow rfl B3_1 Tryd.underlying35 rfl Tryd.sz35) ?_
          refine op_newS rfl (r_buildRows (vs := [[.int _ _, .string _, .string _, .string _]]) Tryd.underlying23 Tryd.sz35 Tryd.zero35 rfl rfl rfl) ?_
          intro w12_1 b12_1 E12_1 B12_1 L12_1
          have hG12_1 : W.heap.size ≤ b12_1 := by have := hX.size; omega
          have hNb3_1_12_1 : b3_1 ≠ b12_1 := by have := Blk.lt B3_1; omega
          replace B3_1 := Blk.ext B3_1 E12_1
          have hNb5_1_12_1 : b5_1 ≠ b12_1 := by have := Blk.lt B5_1; omega
          replace B5_1 := Blk.ext B5_1 E12_1
          have hNb7_1_12_1 : b7_1 ≠ b12_1 := by have := Blk.lt B7_1; omega
          replace B7_1 := Blk.ext B7_1 E12_1
          have hNb9_1_12_1 : b9_1 ≠ b12_1 := by have := Blk.lt B9_1; omega
          replace B9_1 := Blk.ext B9_1 E12_1
          replace hX := hX.trans E12_1
          refine opCv rfl (r_call Tryd.func22 Tryd.nm22 rfl) (hP _ _ (hG.ext hX) B12_1) ?_
          rintro v12 w12 ⟨rfl, hE⟩
          replace B3_1 := Blk.ext B3_1 hE
          replace B5_1 := Blk.ext B5_1 hE
          replace B7_1 := Blk.ext B7_1 hE
          replace B9_1 := Blk.ext B9_1 hE
          replace B12_1 := Blk.ext B12_1 hE
          replace hX := hX.trans hE
          refine op rfl (r_moveV (v := .tuple #[sv (printR [⟨r.k, u, r.o, r.n⟩]).1, .int .i64 (printR [⟨r.k, u, r.o, r.n⟩]).2]) rfl) ?_
          refine op rfl (r_extract (vs := [sv (printR [⟨r.k, u, r.o, r.n⟩]).1, .int .i64 (printR [⟨r.k, u, r.o, r.n⟩]).2]) rfl rfl) ?_
          refine op rfl (r_extract (vs := [sv (printR [⟨r.k, u, r.o, r.n⟩]).1, .int .i64 (printR [⟨r.k, u, r.o, r.n⟩]).2]) rfl rfl) ?_
          refine op rfl (r_assignV (v := sv (printR [⟨r.k, u, r.o, r.n⟩]).1) rfl) ?_
          refine op rfl (r_assignV (v := .int .i64 (printR [⟨r.k, u, r.o, r.n⟩]).2) rfl) ?_
          refine WL_nil ?_
          refine W_seq ?_
          refine W_region ?_
          refine op rfl (r_loadRow rfl B3_1 Tryd.underlying35 rfl Tryd.sz35) ?_
          refine opCv rfl (r_call Tryd.func24 Tryd.nm24 rfl) (rright_spec ⟨r.k, u, r.o, r.n⟩ _ (ext_cell hX hG.max.choose_spec) (by show u.length ≤ _; omega) (by show r.o.length ≤ _; omega) (by show r.n.length ≤ _; omega)) ?_
          rintro v13 w13 ⟨rfl, hE⟩
          replace B3_1 := Blk.ext B3_1 hE
          replace B5_1 := Blk.ext B5_1 hE
          replace B7_1 := Blk.ext B7_1 hE
          replace B9_1 := Blk.ext B9_1 hE
          replace B12_1 := Blk.ext B12_1 hE
          replace hX := hX.trans hE
          refine op rfl (r_moveV (v := .int .i64 (printR [⟨r.k, u, r.o, r.n⟩]).2) rfl) ?_
          refine op rfl (r_eql rfl rfl) ?_
          refine op rfl (rb_eql rfl rfl Tryd.underlying4) ?_
          refine op_true rfl (r_moveV (v := .bool (decide _)) rfl) (by simp only [print_one]) ?_
          refine opG_yes rfl rfl rfl rfl rfl (r_loadRow rfl B5_1 Tryd.underlying35 rfl Tryd.sz35) ?_
          refine opGCv_yes rfl rfl rfl rfl rfl (r_call Tryd.func24 Tryd.nm24 rfl) (rright_spec ⟨r.k, [], r.o, r.n⟩ _ (ext_cell hX hG.max.choose_spec) (by simp) (by show r.o.length ≤ _; omega) (by show r.n.length ≤ _; omega)) ?_
          rintro v13b w13b ⟨rfl, hE⟩
          replace B3_1 := Blk.ext B3_1 hE
          replace B5_1 := Blk.ext B5_1 hE
          replace B7_1 := Blk.ext B7_1 hE
          replace B9_1 := Blk.ext B9_1 hE
          replace B12_1 := Blk.ext B12_1 hE
          replace hX := hX.trans hE
          refine opG_yes rfl rfl rfl rfl rfl (r_notP rfl) ?_
          refine op rfl (r_pickTV (v := .bool _) rfl rfl) ?_
          refine op_true rfl (r_moveV (v := .bool (decide _)) rfl) (hy) ?_
          refine opG_yes rfl rfl rfl rfl rfl (r_loadRow rfl B7_1 Tryd.underlying35 rfl Tryd.sz35) ?_
          refine opGCv_yes rfl rfl rfl rfl rfl (r_call Tryd.func24 Tryd.nm24 rfl) (rright_spec ⟨6, r.g, r.o, r.n⟩ _ (ext_cell hX hG.max.choose_spec) (by show r.g.length ≤ _; omega) (by show r.o.length ≤ _; omega) (by show r.n.length ≤ _; omega)) ?_
          rintro v13c w13c ⟨rfl, hE⟩
          replace B3_1 := Blk.ext B3_1 hE
          replace B5_1 := Blk.ext B5_1 hE
          replace B7_1 := Blk.ext B7_1 hE
          replace B9_1 := Blk.ext B9_1 hE
          replace B12_1 := Blk.ext B12_1 hE
          replace hX := hX.trans hE
          refine opG_yes rfl rfl rfl rfl rfl (r_notP rfl) ?_
          refine op rfl (r_pickTV (v := .bool _) rfl rfl) ?_
          refine op_true rfl (r_moveV (v := .bool (decide _)) rfl) (hz) ?_
          refine opG_yes rfl rfl rfl rfl rfl (r_loadRow rfl B9_1 Tryd.underlying35 rfl Tryd.sz35) ?_
          refine opGCv_yes rfl rfl rfl rfl rfl (r_call Tryd.func24 Tryd.nm24 rfl) (rright_spec ⟨r.k, r.g, o, r.n⟩ _ (ext_cell hX hG.max.choose_spec) (by show r.g.length ≤ _; omega) (by show o.length ≤ _; omega) (by show r.n.length ≤ _; omega)) ?_
          rintro v13d w13d ⟨rfl, hE⟩
          replace B3_1 := Blk.ext B3_1 hE
          replace B5_1 := Blk.ext B5_1 hE
          replace B7_1 := Blk.ext B7_1 hE
          replace B9_1 := Blk.ext B9_1 hE
          replace B12_1 := Blk.ext B12_1 hE
          replace hX := hX.trans hE
          refine opG_yes rfl rfl rfl rfl rfl (r_notP rfl) ?_
          refine op rfl (r_pickTV (v := .bool _) rfl rfl) ?_
          refine op_true rfl (r_moveV (v := .bool (decide _)) rfl) (hlo) ?_
          refine opGCv_yes rfl rfl rfl rfl rfl (r_call Tryd.func11 Tryd.nm11 rfl) (known11_spec _ (hG.ext hX)) ?_
          rintro v13e w13e ⟨rfl, hE⟩
          replace B3_1 := Blk.ext B3_1 hE
          replace B5_1 := Blk.ext B5_1 hE
          replace B7_1 := Blk.ext B7_1 hE
          replace B9_1 := Blk.ext B9_1 hE
          replace B12_1 := Blk.ext B12_1 hE
          replace hX := hX.trans hE
          refine op rfl (r_pickTV (v := .bool _) rfl rfl) ?_
          refine op rfl (r_assignV (v := .bool _) rfl) ?_
          refine WL_nil ?_
          refine W_ret (finX_ret ?_)
          refine fin1 ?_
          exact ⟨_, rfl, rfl, hX⟩
theorem ruleMay_row (W : World) (hG : Gl W) (r : Ru) (cs : List Value) (hr : ruT.R W (old W) r cs) (g : ByteArray) (hg : g.size ≤ big) :
    Calls Tryd.prog 9 #[.agg cs.toArray, .string g] W (fun e W' => ∃ v, e = .returned v ∧ v = .bool true ∧ Ext W W') := by
  obtain ⟨p, rfl⟩ : ∃ l, g = str l := ⟨g.data.toList, (str_of g).symm⟩
  obtain ⟨rfl, h1, h2, h3, h4⟩ := ru_cells hr
  exact ruleMay_walk r p W hG h1 h2 h3 h4 hg
end Go.Proofs.YtafcaigjijajnaaDoor
