/-
  Of a Life that is ready as many ticks happen as the bound tells, at most: the walk.
-/
import Derived.Test.YtfocbkdoolnijaaFacts
import Derived.Test.YtfocbkdoolnijaaLifeQ
import Derived.Test.YtfocbkdoolnijaaLifeLRefused
namespace Go.Proofs.Ytfocbkdoolnijaa
open Go Go.Eng Go.RowKit Go.Proofs
set_option linter.unusedVariables false
set_option maxRecDepth 20000
set_option maxHeartbeats 4000000

/-- How it stands behind so many ticks. -/
def EI (m : Lim) (c : Int) (x : Lf) (tk : Int) : Prop := 0 ≤ x.tries ∧ 0 ≤ tk ∧
  ((x.state = 1 ∧ x.tries ≤ m.retries ∧ tk ≤ x.tries * c) ∨ (x.state = 2 ∧ x.tries ≤ m.retries ∧ 1 ≤ x.wait ∧ x.wait ≤ m.review ∧ tk + x.wait ≤ x.tries * c + m.review) ∨
   ((x.state = 3 ∨ x.state = 4) ∧ x.tries ≤ m.retries ∧ tk ≤ x.tries * c + m.review) ∨ (x.state = 5 ∧ x.tries ≤ m.retries ∧ 1 ≤ x.wait ∧ x.wait ≤ m.backoff ∧ tk + x.wait ≤ x.tries * c) ∨
   ((x.state = 6 ∨ x.state = 7) ∧ tk ≤ (m.retries + 1) * c))
def Allow (s k : Int) : Prop := (s = 1 ∧ k = 3) ∨ (s = 2 ∧ (k = 8 ∨ k = 6 ∨ k = 7)) ∨ (s = 3 ∧ k = 9) ∨ (s = 4 ∧ (k = 10 ∨ k = 11 ∨ k = 12)) ∨ (s = 5 ∧ k = 8)
theorem mul_top {t r c : Int} (ht : t ≤ r) (hc : 0 ≤ c) : t * c + c ≤ (r + 1) * c := by
  rw [Int.add_mul, Int.one_mul]
  have := Int.mul_le_mul_of_nonneg_right ht hc
  omega
theorem ei_bound {m : Lim} {c : Int} {x : Lf} {tk : Int} (hc : c = m.review + m.backoff) (hv : 1 ≤ m.review) (hb : 0 ≤ m.backoff) (h : EI m c x tk) : tk ≤ (m.retries + 1) * c ∧ ¬ (tk = (m.retries + 1) * c ∧ x.state = 5) := by
  obtain ⟨h1, h2, h3⟩ := h
  rcases h3 with ⟨hs, ht, h⟩ | ⟨hs, ht, h⟩ | ⟨hs, ht, h⟩ | ⟨hs, ht, h⟩ | ⟨hs, h⟩
  · have := mul_top ht (c := c) (by omega); omega
  · have := mul_top ht (c := c) (by omega); omega
  · have := mul_top ht (c := c) (by omega); omega
  · have := mul_top ht (c := c) (by omega); omega
  · omega
theorem ei_step {m : Lim} {c : Int} {x : Lf} {tk k n : Int} (hc : c = m.review + m.backoff) (hm : m.May) (h : EI m c x tk) (ha : Allow x.state k) : x.is k = true ∧ EI m c (x.step m k n) (tk + if k = 8 then 1 else 0) := by
  have hm' := hm
  unfold Lim.May at hm'
  obtain ⟨h1, h2, h3⟩ := h
  have key : ∀ D, Takes x.state k D → EI m c (D.run m x n) (tk + if k = 8 then 1 else 0) → x.is k = true ∧ EI m c (x.step m k n) (tk + if k = 8 then 1 else 0) := fun D hD hE => by
    refine ⟨is_iff.2 ⟨D, hD⟩, ?_⟩
    unfold Lf.step
    rw [takes_find hD]
    exact hE
  have htop : x.tries ≤ m.retries → x.tries * c + c ≤ (m.retries + 1) * c := fun h => mul_top h (by omega)
  have hnext : (x.tries + 1) * c = x.tries * c + c := by rw [Int.add_mul, Int.one_mul]
  generalize hT : x.tries * c = T at *
  generalize hB : (m.retries + 1) * c = B at *
  have hinc : x.tries ≤ m.retries → inc x.tries = x.tries + 1 := fun h => wrap_i64 (by omega) (by omega)
  have hdec : 1 ≤ x.wait → x.wait ≤ 1073741824 → dec x.wait = x.wait - 1 := fun h h' => wrap_i64 (by omega) (by omega)
  rcases ha with ⟨hs, rfl⟩ | ⟨hs, rfl | rfl | rfl⟩ | ⟨hs, rfl⟩ | ⟨hs, rfl | rfl | rfl⟩ | ⟨hs, rfl⟩
  · refine key .made (by simp [Takes, hs]) ?_
    simp [EI, Do.run, Lf.made, Lf.to, hT]; omega
  · refine key (.tickGiven 2) (by simp [Takes, hs]) ?_
    simp only [Do.run, Lf.tick, hdec (by omega) (by omega)]
    split
    · simp [EI, hT, hs]; omega
    · simp [EI, Lf.given, Lf.to, hT, hB]; omega
  · refine key (.to 3) (by simp [Takes, hs]) ?_
    simp [EI, Do.run, Lf.to, hT]; omega
  · refine key (.given 1) (by simp [Takes, hs]) ?_
    simp [EI, Do.run, Lf.given, Lf.to, hT, hB]; omega
  · refine key .sent (by simp [Takes, hs]) ?_
    simp [EI, Do.run, Lf.sent, Lf.to, hT]; omega
  · refine key .done (by simp [Takes, hs]) ?_
    simp [EI, Do.run, Lf.done, Lf.to, hT, hB]; omega
  · refine key .again (by simp [Takes, hs]) ?_
    have hp := pause_bd m (x.tries + 1) hm
    simp only [Do.run, Lf.again, hinc (by omega)]
    split
    · simp [EI, Lf.given, Lf.to, hB]; omega
    · split
      · simp [EI, Lf.to, hnext]; omega
      · simp [EI, Lf.to, hnext]; omega
  · refine key .again (by simp [Takes, hs]) ?_
    have hp := pause_bd m (x.tries + 1) hm
    simp only [Do.run, Lf.again, hinc (by omega)]
    split
    · simp [EI, Lf.given, Lf.to, hB]; omega
    · split
      · simp [EI, Lf.to, hnext]; omega
      · simp [EI, Lf.to, hnext]; omega
  · refine key (.tickTo 1) (by simp [Takes, hs]) ?_
    simp only [Do.run, Lf.tick, hdec (by omega) (by omega)]
    split
    · simp [EI, hT, hs]; omega
    · simp [EI, Lf.to, hT]; omega
theorem lifeEnds_walk (W : World) (t : Int) (ht : inK .u8 t) (u : Int) (hu : inK .u8 u) (v0 : Int) (hv : inK .u8 v0) (A : Option Addr) (ca : Nat) (l : List UInt8) (hca : l.length ≤ ca) (hba : l.length ≤ big) (hA : Ty.byte.Row W (old W) A l) :
    Calls Try.prog 3 #[.int .u8 t, .int .u8 u, .int .u8 v0, .slice A l.length ca] W (fun e W' => ∃ v, e = .returned v ∧ v = .bool true ∧ Ext W W') := by
  have ht0 : 0 ≤ t ∧ t ≤ 255 := by simp only [inK, lo, hi] at ht; exact ht
  have hu0 : 0 ≤ u ∧ u ≤ 255 := by simp only [inK, lo, hi] at hu; exact hu
  have hv0 : 0 ≤ v0 ∧ v0 ≤ 255 := by simp only [inK, lo, hi] at hv; exact hv
  have hba' : l.length ≤ 140737488355328 := hba
  clear ht hu hv hba
  obtain ⟨rn, hrn, hr12⟩ := tmod_nat (q := 12) ht0.1 (by decide)
  obtain ⟨vn, hvn, hv15⟩ := tmod_nat (q := 15) hu0.1 (by decide)
  obtain ⟨bn, hbn, hb20⟩ := tmod_nat (q := 20) hv0.1 (by decide)
  obtain ⟨c, hc⟩ : ∃ c : Int, c = (1 + vn) + bn := ⟨_, rfl⟩
  have hmay : Lim.May ⟨rn, 1 + vn, bn⟩ := by unfold Lim.May; simp only; omega
  obtain ⟨B, hB⟩ : ∃ B : Int, ((rn : Int) + 1) * c = B := ⟨_, rfl⟩
  have hbound : Lim.bound ⟨rn, 1 + vn, bn⟩ = B := by unfold Lim.bound; rw [if_pos hmay, ← hB, hc]
  have BS : ∀ w, Calls Try.prog 14 #[(Lim.mk rn (1 + vn) bn).val] w (fun en w' => ∃ v, en = .returned v ∧ v = .int .i64 B ∧ Ext w w') := fun w => by
    have := bound_spec ⟨rn, 1 + vn, bn⟩ w
    rwa [hbound] at this
  have EB : ∀ y tk, EI ⟨rn, 1 + vn, bn⟩ c y tk → tk ≤ B ∧ ¬ (tk = B ∧ y.state = 5) := fun y tk h => by
    have := ei_bound (m := ⟨rn, 1 + vn, bn⟩) hc (by simp only; omega) (by simp only; omega) h
    simp only [hB] at this
    exact this
  have ES : ∀ {y : Lf} {tk k n : Int}, EI ⟨rn, 1 + vn, bn⟩ c y tk → Allow y.state k → y.is k = true ∧ EI ⟨rn, 1 + vn, bn⟩ c (y.step ⟨rn, 1 + vn, bn⟩ k n) (tk + if k = 8 then 1 else 0) := fun h ha => ei_step hc hmay h ha
  have SS : ∀ (y : Lf) k n w, y.is k = true → Calls Try.prog 13 #[(Lim.mk rn (1 + vn) bn).val, y.val, .agg #[.int .i64 k, .int .i64 n]] w (fun en w' => ∃ v, en = .returned v ∧ v = .tuple #[(y.step ⟨rn, 1 + vn, bn⟩ k n).val, .bool true] ∧ Ext w w') := fun y k n w h => by
    have := step_spec ⟨rn, 1 + vn, bn⟩ y k n w
    rw [h] at this
    exact this
  have hEI0 : EI ⟨rn, 1 + vn, bn⟩ c ⟨1, 0, 0, 0, 0, 0⟩ 0 := ⟨Int.le_refl _, Int.le_refl _, Or.inl ⟨rfl, by simp, by simp⟩⟩
  clear hbound hmay
  refine calls' (n := 119) (rs := #[.tmp 8]) (l := [.int .u8 t, .int .u8 u, .int .u8 v0, .slice A l.length ca]) Try.func3 rfl rfl rfl rfl rfl ?_
  have hX := Ext.refl W
  refine W_seq ?_
  refine W_region ?_
  refine op rfl (r_assignV (v := .bool _) rfl) ?_
  refine WL_nil ?_
  refine W_seq ?_
  refine W_region ?_
  refine op rfl (r_moveV (v := .int _ _) rfl) ?_
  refine op rfl (r_conv' rfl Try.underlying5 Try.underlying3 (wrap_i64 (by omega) (by omega))) ?_
  refine op rfl (r_rem' rfl rfl (by decide) hrn) ?_
  refine op rfl (r_moveV (v := .int _ _) rfl) ?_
  refine op rfl (r_conv' rfl Try.underlying5 Try.underlying3 (wrap_i64 (by omega) (by omega))) ?_
  refine op rfl (r_rem' rfl rfl (by decide) hvn) ?_
  refine op rfl (r_add' rfl rfl (wrap_i64 (by omega) (by omega))) ?_
  refine op rfl (r_moveV (v := .int _ _) rfl) ?_
  refine op rfl (r_conv' rfl Try.underlying5 Try.underlying3 (wrap_i64 (by omega) (by omega))) ?_
  refine op rfl (r_rem' rfl rfl (by decide) hbn) ?_
  refine op rfl (r_build (cs := [.int _ _, .int _ _, .int _ _]) Try.lay24 (List.forall_mem_cons.2 ⟨rfl, List.forall_mem_cons.2 ⟨rfl, List.forall_mem_cons.2 ⟨rfl, fun _ h => by cases h⟩⟩⟩) rfl rfl) ?_
  refine op_alloc rfl Try.zero24 ?_
  intro w1_11 b1_11 E1_11 B1_11 L1_11
  have hG1_11 : W.heap.size ≤ b1_11 := by have := hX.size; omega
  replace hX := hX.trans E1_11
  refine op_storeRow rfl rfl Try.sz24 B1_11 rfl rfl ?_
  intro w1_12 C1_12 BB1_12
  replace hX := hX.chg C1_12 hG1_11
  replace B1_11 := BB1_12
  refine WL_nil ?_
  refine W_seq ?_
  refine W_seq ?_
  refine W_region ?_
  refine op rfl (r_moveV (v := .slice _ _ _) rfl) ?_
  refine op rfl (r_len_slice rfl Try.underlying22) ?_
  refine op rfl (r_gtr rfl rfl) ?_
  refine WL_nil ?_
  refine W_ifp rfl (fun ht29 => ?_) (fun ht29 => ?_)
  · refine W_seq ?_
    refine W_region ?_
    refine opCv rfl (r_call Try.func10 Try.nm10 rfl) (known_spec _) ?_
    rintro v w2 ⟨rfl, hE⟩
    replace B1_11 := Blk.ext B1_11 hE
    replace hX := hX.trans hE
    refine op rfl (r_assignV (v := .bool _) rfl) ?_
    refine WL_nil ?_
    refine W_ret (finX_ret ?_)
    refine fin1 ?_
    exact ⟨_, rfl, rfl, hX⟩
  · refine W_skip ?_
    refine W_seq ?_
    refine W_region ?_
    refine opCv rfl (r_call Try.func11 Try.nm11 rfl) (new_spec false _) ?_
    rintro v w2 ⟨rfl, hE⟩
    replace B1_11 := Blk.ext B1_11 hE
    replace hX := hX.trans hE
    refine op_alloc rfl Try.zero27 ?_
    intro w4_1 b4_1 E4_1 B4_1 L4_1
    have hG4_1 : W.heap.size ≤ b4_1 := by have := hX.size; omega
    have hNb1_11_4_1 : b1_11 ≠ b4_1 := by have := Blk.lt B1_11; omega
    replace B1_11 := Blk.ext B1_11 E4_1
    replace hX := hX.trans E4_1
    refine op_storeRow rfl rfl Try.sz27 B4_1 rfl rfl ?_
    intro w4_2 C4_2 BB4_2
    replace B1_11 := Chg.blk C4_2 B1_11 hNb1_11_4_1
    replace hX := hX.chg C4_2 hG4_1
    replace B4_1 := BB4_2
    refine WL_nil ?_
    refine W_seq ?_
    refine W_region ?_
    refine op rfl (r_assignV (v := .int _ _) rfl) ?_
    refine WL_nil ?_
    refine W_seq ?_
    refine W_seq ?_
    refine W_region ?_
    refine op rfl (r_assignV (v := .int _ _) rfl) ?_
    refine WL_nil ?_
    refine W_block ?_
    refine W_loop (8 :: 11 :: 12 :: 13 :: 14 :: 15 :: 32 :: 33 :: 34 :: 35 :: 36 :: 37 :: 38 :: 39 :: 40 :: 41 :: 42 :: 43 :: 44 :: 45 :: 46 :: 47 :: 48 :: 49 :: 50 :: 51 :: 52 :: 53 :: 54 :: 55 :: 56 :: 57 :: 58 :: 59 :: 60 :: 61 :: 62 :: 63 :: 64 :: 65 :: 66 :: 67 :: 68 :: 69 :: 70 :: 71 :: 72 :: 73 :: 74 :: 75 :: 76 :: 77 :: 78 :: 79 :: 80 :: 81 :: 82 :: 83 :: 84 :: 85 :: 86 :: 87 :: 88 :: 89 :: 90 :: 91 :: 92 :: 93 :: 94 :: 95 :: 96 :: 97 :: 98 :: 99 :: 100 :: 101 :: 102 :: 103 :: 104 :: 105 :: 106 :: 107 :: 108 :: 109 :: 110 :: 111 :: 112 :: 113 :: 114 :: 115 :: 116 :: 117 :: []) (fun q e' w' => ∃ (i : Nat) (y : Lf) (tk : Int), q = l.length - i ∧ i ≤ l.length ∧ e' 12 = .int .i64 i ∧ e' 11 = .int .i64 tk ∧ EI ⟨rn, 1 + vn, bn⟩ c y tk ∧ tk ≤ i ∧ Ext W w' ∧ Blk w' b1_11 (Lim.mk rn (1 + vn) bn).val.cells 24 ∧ Blk w' b4_1 y.val.cells 27) (l.length) ?_ ?_
    · exact ⟨0, ⟨1, 0, 0, 0, 0, 0⟩, 0, by omega, by omega, rfl, rfl, hEI0, by omega, hX, B1_11, B4_1⟩
    intro k g w' hI
    obtain ⟨i, y, tk, hk, hile, h12, h11, hEI, htk, hX', Bx0, Bx1⟩ := hI
    clear hX B1_11 B4_1
    have hX := hX'
    have B1_11 := Bx0
    have B4_1 := Bx1
    clear hX' Bx0 Bx1
    refine W_set (i := 12) h12 ?_
    refine W_set (i := 11) h11 ?_
    refine W_seq ?_
    refine W_seq ?_
    refine W_region ?_
    refine op rfl (r_moveV (v := .int _ _) rfl) ?_
    refine op rfl (r_moveV (v := .slice _ _ _) rfl) ?_
    refine op rfl (r_len_slice rfl Try.underlying22) ?_
    refine op rfl (r_lss rfl rfl) ?_
    refine op_split rfl (r_moveV (v := .bool (decide _)) rfl) (fun hg36 => ?_) (fun hg36 => ?_)
    · refine opG_yes rfl rfl rfl rfl rfl (r_loadRow rfl B4_1 Try.underlying27 rfl Try.sz27) ?_
      refine opGCv_yes rfl rfl rfl rfl rfl (r_call Try.func12 Try.nm12 rfl) (ended_spec y _) ?_
      rintro v w3 ⟨rfl, hE⟩
      replace B1_11 := Blk.ext B1_11 hE
      replace B4_1 := Blk.ext B4_1 hE
      replace hX := hX.trans hE
      refine opG_yes rfl rfl rfl rfl rfl (r_notP rfl) ?_
      refine op rfl (r_pickTV (v := .bool _) rfl rfl) ?_
      refine WL_nil ?_
      refine W_ifp rfl (fun ht40 => ?_) (fun ht40 => ?_)
      · have hlt : i < l.length := by omega
        obtain ⟨ga, oa, hAe, hga, _, hcell⟩ := Ty.Row.cell hA hlt
        refine W_skip ?_
        refine W_seq ?_
        refine W_block ?_
        refine W_seq ?_
        refine W_region ?_
        refine op rfl (r_build (cs := [.int _ _, .int _ _]) Try.lay31 (List.forall_mem_cons.2 ⟨rfl, fun _ h => by cases h⟩) rfl rfl) ?_
        refine op_alloc rfl Try.zero31 ?_
        intro w9_1 b9_1 E9_1 B9_1 L9_1
        have hG9_1 : W.heap.size ≤ b9_1 := by have := hX.size; omega
        have hNb1_11_9_1 : b1_11 ≠ b9_1 := by have := Blk.lt B1_11; omega
        replace B1_11 := Blk.ext B1_11 E9_1
        have hNb4_1_9_1 : b4_1 ≠ b9_1 := by have := Blk.lt B4_1; omega
        replace B4_1 := Blk.ext B4_1 E9_1
        replace hX := hX.trans E9_1
        refine op_storeRow rfl rfl Try.sz31 B9_1 rfl rfl ?_
        intro w9_2 C9_2 BB9_2
        replace B1_11 := Chg.blk C9_2 B1_11 hNb1_11_9_1
        replace B4_1 := Chg.blk C9_2 B4_1 hNb4_1_9_1
        replace hX := hX.chg C9_2 hG9_1
        replace B9_1 := BB9_2
        refine WL_nil ?_
        refine W_cut [44, 45, 46, 47, 48, 49, 50, 51, 52, 53, 54, 55, 56, 57, 58, 59, 60, 61, 62, 63, 64, 65, 66, 67, 68, 69, 70, 71, 72, 73, 74, 75, 76, 77, 78, 79, 80, 81, 82, 83, 84, 85, 86, 87] (fun e' w' => ∃ k n, Allow y.state k ∧ Ext W w' ∧ Blk w' b1_11 (Lim.mk rn (1 + vn) bn).val.cells 24 ∧ Blk w' b4_1 y.val.cells 27 ∧ Blk w' b9_1 #[.int .i64 k, .int .i64 n] 31) ?_ ?_
        · refine W_seq ?_
          refine W_region ?_
          refine op rfl (r_fieldAddr rfl Try.fld27_0 rfl) ?_
          refine op rfl (r_load (v := .int _ _) rfl Try.underlying3 rfl (Blk.cell B4_1 rfl)) ?_
          refine WL_nil ?_
          refine W_block ?_
          refine W_seq ?_
          refine W_region ?_
          refine op rfl (r_eql rfl rfl) ?_
          refine op rfl (r_assignV (v := .bool _) rfl) ?_
          refine WL_nil ?_
          refine W_ifp rfl (fun ht46 => ?_) (fun ht46 => ?_)
          · refine W_region ?_
            refine op rfl (r_fieldAddr rfl Try.fld31_0 rfl) ?_
            refine op_store (v := .int _ _) rfl rfl rfl Try.sz3 B9_1 (Nat.le_of_ble_eq_true rfl) ?_
            intro w12_1 C12_1 BB12_1
            replace B1_11 := Chg.blk C12_1 B1_11 hNb1_11_9_1
            replace B4_1 := Chg.blk C12_1 B4_1 hNb4_1_9_1
            replace hX := hX.chg C12_1 hG9_1
            replace B9_1 := BB12_1
            refine WL_nil ?_
            refine ⟨?_, by repeat (first | with_reducible exact Out.refl _ _ | with_reducible exact Out.mix | refine Out.put rfl ?_ | refine Out.mixin rfl ?_ | exact Out.refl _ _ | exact Out.mix)⟩
            exact ⟨_, _, by unfold Allow; first | omega | (have hq := hEI.2.2; omega), hX, B1_11, B4_1, B9_1⟩
          · refine W_seq ?_
            refine W_region ?_
            refine op rfl (r_eql rfl rfl) ?_
            refine op rfl (r_assignV (v := .bool _) rfl) ?_
            refine WL_nil ?_
            refine W_ifp rfl (fun ht49 => ?_) (fun ht49 => ?_)
            · refine W_seq ?_
              refine W_seq ?_
              refine W_region ?_
              refine op rfl (r_moveV (v := .slice _ _ _) rfl) ?_
              refine op rfl (r_moveV (v := .int _ _) rfl) ?_
              have hcell2 := ext_cell hX hcell
              refine op rfl (r_indexAddr1 rfl rfl hAe Try.underlying22 Try.sz5 (by omega) (by omega)) ?_
              refine op rfl (r_load rfl Try.underlying5 rfl hcell2) ?_
              refine op rfl (r_rem rfl rfl (by decide)) ?_
              refine op rfl (r_eql rfl rfl) ?_
              refine WL_nil ?_
              refine W_ifp rfl (fun ht56 => ?_) (fun ht56 => ?_)
              · refine W_region ?_
                refine op rfl (r_fieldAddr rfl Try.fld31_0 rfl) ?_
                refine op_store (v := .int _ _) rfl rfl rfl Try.sz3 B9_1 (Nat.le_of_ble_eq_true rfl) ?_
                intro w15_1 C15_1 BB15_1
                replace B1_11 := Chg.blk C15_1 B1_11 hNb1_11_9_1
                replace B4_1 := Chg.blk C15_1 B4_1 hNb4_1_9_1
                replace hX := hX.chg C15_1 hG9_1
                replace B9_1 := BB15_1
                refine WL_nil ?_
                refine W_seq ?_
                refine W_region ?_
                refine op rfl (r_moveV (v := .slice _ _ _) rfl) ?_
                refine op rfl (r_moveV (v := .int _ _) rfl) ?_
                have hcell3 := ext_cell hX hcell
                refine op rfl (r_indexAddr1 rfl rfl hAe Try.underlying22 Try.sz5 (by omega) (by omega)) ?_
                refine op rfl (r_load rfl Try.underlying5 rfl hcell3) ?_
                refine op rfl (r_rem rfl rfl (by decide)) ?_
                refine op rfl (r_eql rfl rfl) ?_
                refine WL_nil ?_
                refine W_ifp rfl (fun ht63 => ?_) (fun ht63 => ?_)
                · refine W_region ?_
                  refine op rfl (r_fieldAddr rfl Try.fld31_0 rfl) ?_
                  refine op_store (v := .int _ _) rfl rfl rfl Try.sz3 B9_1 (Nat.le_of_ble_eq_true rfl) ?_
                  intro w17_1 C17_1 BB17_1
                  replace B1_11 := Chg.blk C17_1 B1_11 hNb1_11_9_1
                  replace B4_1 := Chg.blk C17_1 B4_1 hNb4_1_9_1
                  replace hX := hX.chg C17_1 hG9_1
                  replace B9_1 := BB17_1
                  refine WL_nil ?_
                  refine ⟨?_, by repeat (first | with_reducible exact Out.refl _ _ | with_reducible exact Out.mix | refine Out.put rfl ?_ | refine Out.mixin rfl ?_ | exact Out.refl _ _ | exact Out.mix)⟩
                  exact ⟨_, _, by unfold Allow; first | omega | (have hq := hEI.2.2; omega), hX, B1_11, B4_1, B9_1⟩
                · refine W_skip ?_
                  refine ⟨?_, by repeat (first | with_reducible exact Out.refl _ _ | with_reducible exact Out.mix | refine Out.put rfl ?_ | refine Out.mixin rfl ?_ | exact Out.refl _ _ | exact Out.mix)⟩
                  exact ⟨_, _, by unfold Allow; first | omega | (have hq := hEI.2.2; omega), hX, B1_11, B4_1, B9_1⟩
              · refine W_skip ?_
                refine W_seq ?_
                refine W_region ?_
                refine op rfl (r_moveV (v := .slice _ _ _) rfl) ?_
                refine op rfl (r_moveV (v := .int _ _) rfl) ?_
                have hcell3 := ext_cell hX hcell
                refine op rfl (r_indexAddr1 rfl rfl hAe Try.underlying22 Try.sz5 (by omega) (by omega)) ?_
                refine op rfl (r_load rfl Try.underlying5 rfl hcell3) ?_
                refine op rfl (r_rem rfl rfl (by decide)) ?_
                refine op rfl (r_eql rfl rfl) ?_
                refine WL_nil ?_
                refine W_ifp rfl (fun ht63 => ?_) (fun ht63 => ?_)
                · refine W_region ?_
                  refine op rfl (r_fieldAddr rfl Try.fld31_0 rfl) ?_
                  refine op_store (v := .int _ _) rfl rfl rfl Try.sz3 B9_1 (Nat.le_of_ble_eq_true rfl) ?_
                  intro w17_1 C17_1 BB17_1
                  replace B1_11 := Chg.blk C17_1 B1_11 hNb1_11_9_1
                  replace B4_1 := Chg.blk C17_1 B4_1 hNb4_1_9_1
                  replace hX := hX.chg C17_1 hG9_1
                  replace B9_1 := BB17_1
                  refine WL_nil ?_
                  refine ⟨?_, by repeat (first | with_reducible exact Out.refl _ _ | with_reducible exact Out.mix | refine Out.put rfl ?_ | refine Out.mixin rfl ?_ | exact Out.refl _ _ | exact Out.mix)⟩
                  exact ⟨_, _, by unfold Allow; first | omega | (have hq := hEI.2.2; omega), hX, B1_11, B4_1, B9_1⟩
                · refine W_skip ?_
                  refine ⟨?_, by repeat (first | with_reducible exact Out.refl _ _ | with_reducible exact Out.mix | refine Out.put rfl ?_ | refine Out.mixin rfl ?_ | exact Out.refl _ _ | exact Out.mix)⟩
                  exact ⟨_, _, by unfold Allow; first | omega | (have hq := hEI.2.2; omega), hX, B1_11, B4_1, B9_1⟩
            · refine W_seq ?_
              refine W_region ?_
              refine op rfl (r_eql rfl rfl) ?_
              refine op rfl (r_assignV (v := .bool _) rfl) ?_
              refine WL_nil ?_
              refine W_ifp rfl (fun ht65 => ?_) (fun ht65 => ?_)
              · refine W_region ?_
                refine op rfl (r_moveV (v := .int _ _) rfl) ?_
                refine op rfl (r_add' rfl rfl (wrap_i64 (by omega) (by omega))) ?_
                refine op rfl (r_build (cs := [.int _ _, .int _ _]) Try.lay31 (List.forall_mem_cons.2 ⟨rfl, List.forall_mem_cons.2 ⟨rfl, fun _ h => by cases h⟩⟩) rfl rfl) ?_
                refine op_storeRow rfl rfl Try.sz31 B9_1 rfl rfl ?_
                intro w19_3 C19_3 BB19_3
                replace B1_11 := Chg.blk C19_3 B1_11 hNb1_11_9_1
                replace B4_1 := Chg.blk C19_3 B4_1 hNb4_1_9_1
                replace hX := hX.chg C19_3 hG9_1
                replace B9_1 := BB19_3
                refine WL_nil ?_
                refine ⟨?_, by repeat (first | with_reducible exact Out.refl _ _ | with_reducible exact Out.mix | refine Out.put rfl ?_ | refine Out.mixin rfl ?_ | exact Out.refl _ _ | exact Out.mix)⟩
                exact ⟨_, _, by unfold Allow; first | omega | (have hq := hEI.2.2; omega), hX, B1_11, B4_1, B9_1⟩
              · refine W_seq ?_
                refine W_region ?_
                refine op rfl (r_eql rfl rfl) ?_
                refine op rfl (r_assignV (v := .bool _) rfl) ?_
                refine WL_nil ?_
                refine W_ifp rfl (fun ht70 => ?_) (fun ht70 => ?_)
                · refine W_seq ?_
                  refine W_region ?_
                  refine op rfl (r_moveV (v := .slice _ _ _) rfl) ?_
                  refine op rfl (r_moveV (v := .int _ _) rfl) ?_
                  have hcell4 := ext_cell hX hcell
                  refine op rfl (r_indexAddr1 rfl rfl hAe Try.underlying22 Try.sz5 (by omega) (by omega)) ?_
                  refine op rfl (r_load rfl Try.underlying5 rfl hcell4) ?_
                  refine op rfl (r_conv' (r := (l[i].toNat : Int)) rfl Try.underlying5 Try.underlying3 (wrap_i64 (by omega) (by have := l[i].toNat_lt; omega))) ?_
                  refine op rfl (r_rem' (r := ((l[i].toNat % 2 : Nat) : Int)) rfl rfl (by decide) (by rw [Int.tmod_eq_emod_of_nonneg (by omega)]; omega)) ?_
                  refine op rfl (r_add' rfl rfl (wrap_i64 (by omega) (by omega))) ?_
                  refine op rfl (r_moveV (v := .int _ _) rfl) ?_
                  refine op rfl (r_build (cs := [.int _ _, .int _ _]) Try.lay31 (List.forall_mem_cons.2 ⟨rfl, List.forall_mem_cons.2 ⟨rfl, fun _ h => by cases h⟩⟩) rfl rfl) ?_
                  refine op_storeRow rfl rfl Try.sz31 B9_1 rfl rfl ?_
                  intro w21_9 C21_9 BB21_9
                  replace B1_11 := Chg.blk C21_9 B1_11 hNb1_11_9_1
                  replace B4_1 := Chg.blk C21_9 B4_1 hNb4_1_9_1
                  replace hX := hX.chg C21_9 hG9_1
                  replace B9_1 := BB21_9
                  refine WL_nil ?_
                  refine W_seq ?_
                  refine W_region ?_
                  refine op rfl (r_moveV (v := .slice _ _ _) rfl) ?_
                  refine op rfl (r_moveV (v := .int _ _) rfl) ?_
                  have hcell5 := ext_cell hX hcell
                  refine op rfl (r_indexAddr1 rfl rfl hAe Try.underlying22 Try.sz5 (by omega) (by omega)) ?_
                  refine op rfl (r_load rfl Try.underlying5 rfl hcell5) ?_
                  refine op rfl (r_rem rfl rfl (by decide)) ?_
                  refine op rfl (r_eql rfl rfl) ?_
                  refine WL_nil ?_
                  refine W_ifp rfl (fun ht86 => ?_) (fun ht86 => ?_)
                  · refine W_region ?_
                    refine op rfl (r_fieldAddr rfl Try.fld31_0 rfl) ?_
                    refine op_store (v := .int _ _) rfl rfl rfl Try.sz3 B9_1 (Nat.le_of_ble_eq_true rfl) ?_
                    intro w23_1 C23_1 BB23_1
                    replace B1_11 := Chg.blk C23_1 B1_11 hNb1_11_9_1
                    replace B4_1 := Chg.blk C23_1 B4_1 hNb4_1_9_1
                    replace hX := hX.chg C23_1 hG9_1
                    replace B9_1 := BB23_1
                    refine WL_nil ?_
                    refine ⟨?_, by repeat (first | with_reducible exact Out.refl _ _ | with_reducible exact Out.mix | refine Out.put rfl ?_ | refine Out.mixin rfl ?_ | exact Out.refl _ _ | exact Out.mix)⟩
                    exact ⟨_, _, by unfold Allow; first | omega | (have hq := hEI.2.2; omega), hX, B1_11, B4_1, B9_1⟩
                  · refine W_skip ?_
                    refine ⟨?_, by repeat (first | with_reducible exact Out.refl _ _ | with_reducible exact Out.mix | refine Out.put rfl ?_ | refine Out.mixin rfl ?_ | exact Out.refl _ _ | exact Out.mix)⟩
                    exact ⟨_, _, by unfold Allow; first | omega | (have hq := hEI.2.2; omega), hX, B1_11, B4_1, B9_1⟩
                · refine W_skip ?_
                  refine ⟨?_, by repeat (first | with_reducible exact Out.refl _ _ | with_reducible exact Out.mix | refine Out.put rfl ?_ | refine Out.mixin rfl ?_ | exact Out.refl _ _ | exact Out.mix)⟩
                  exact ⟨_, _, by unfold Allow; first | omega | (have hq := hEI.2.2; omega), hX, B1_11, B4_1, B9_1⟩
        rintro gblock2 w' hJ
        obtain ⟨k, n, hal, hX', Bx0, Bx1, Bx2⟩ := hJ
        clear hX B1_11 B4_1 B9_1
        have hX := hX'
        have B1_11 := Bx0
        have B4_1 := Bx1
        have B9_1 := Bx2
        clear hX' Bx0 Bx1 Bx2
        refine W_seq ?_
        refine W_region ?_
        refine op rfl (r_loadRow rfl B1_11 Try.underlying24 rfl Try.sz24) ?_
        refine op rfl (r_loadRow rfl B4_1 Try.underlying27 rfl Try.sz27) ?_
        refine op rfl (r_loadRow rfl B9_1 Try.underlying31 rfl Try.sz31) ?_
        obtain ⟨his, hEz0⟩ := ES (n := n) hEI hal
        have SSz := SS y k n w' his
        generalize y.step ⟨rn, 1 + vn, bn⟩ k n = z at hEz0 SSz
        refine opCv rfl (r_call Try.func13 Try.nm13 rfl) (SSz) ?_
        rintro v w4 ⟨rfl, hE⟩
        replace B1_11 := Blk.ext B1_11 hE
        replace B4_1 := Blk.ext B4_1 hE
        replace B9_1 := Blk.ext B9_1 hE
        replace hX := hX.trans hE
        refine op rfl (r_moveV (v := .tuple #[z.val, .bool true]) rfl) ?_
        refine op rfl (r_extract (vs := [z.val, .bool true]) rfl rfl) ?_
        refine op rfl (r_extract (vs := [z.val, .bool true]) rfl rfl) ?_
        refine op_alloc rfl Try.zero27 ?_
        intro w24_7 b24_7 E24_7 B24_7 L24_7
        have hG24_7 : W.heap.size ≤ b24_7 := by have := hX.size; omega
        have hNb1_11_24_7 : b1_11 ≠ b24_7 := by have := Blk.lt B1_11; omega
        replace B1_11 := Blk.ext B1_11 E24_7
        have hNb4_1_24_7 : b4_1 ≠ b24_7 := by have := Blk.lt B4_1; omega
        replace B4_1 := Blk.ext B4_1 E24_7
        have hNb9_1_24_7 : b9_1 ≠ b24_7 := by have := Blk.lt B9_1; omega
        replace B9_1 := Blk.ext B9_1 E24_7
        replace hX := hX.trans E24_7
        refine op_storeRow rfl rfl Try.sz27 B24_7 rfl rfl ?_
        intro w24_8 C24_8 BB24_8
        replace B1_11 := Chg.blk C24_8 B1_11 hNb1_11_24_7
        replace B4_1 := Chg.blk C24_8 B4_1 hNb4_1_24_7
        replace B9_1 := Chg.blk C24_8 B9_1 hNb9_1_24_7
        replace hX := hX.chg C24_8 hG24_7
        replace B24_7 := BB24_8
        refine op rfl (r_assignV (v := .bool true) rfl) ?_
        refine WL_nil ?_
        refine W_seq ?_
        refine W_seq ?_
        refine W_region ?_
        refine op rfl (r_moveV (v := .bool true) rfl) ?_
        refine op rfl (r_notP (p := True) rfl) ?_
        refine WL_nil ?_
        refine W_ifp rfl (fun ht96 => ?_) (fun ht96 => ?_)
        · exact absurd trivial ht96
        · refine W_skip ?_
          refine W_cut [11, 97, 98, 99, 100, 101] (fun e' w' => ∃ tk', e' 11 = .int .i64 tk' ∧ tk' ≤ i + 1 ∧ EI ⟨rn, 1 + vn, bn⟩ c z tk' ∧ Ext W w' ∧ Blk w' b1_11 (Lim.mk rn (1 + vn) bn).val.cells 24 ∧ Blk w' b4_1 y.val.cells 27 ∧ Blk w' b24_7 z.val.cells 27) ?_ ?_
          · refine W_seq ?_
            refine W_region ?_
            refine op rfl (r_fieldAddr rfl Try.fld31_0 rfl) ?_
            refine op rfl (r_load (v := .int _ _) rfl Try.underlying3 rfl (Blk.cell B9_1 rfl)) ?_
            refine op rfl (r_eql rfl rfl) ?_
            refine WL_nil ?_
            refine W_ifp rfl (fun ht99 => ?_) (fun ht99 => ?_)
            · refine W_region ?_
              refine op rfl (r_moveV (v := .int _ _) rfl) ?_
              refine op rfl (r_add' (r := tk + 1) rfl rfl (wrap_i64 (by have := hEI.2.1; omega) (by omega))) ?_
              refine op rfl (r_assignV (v := .int _ _) rfl) ?_
              refine WL_nil ?_
              refine ⟨?_, by repeat (first | with_reducible exact Out.refl _ _ | with_reducible exact Out.mix | refine Out.put rfl ?_ | refine Out.mixin rfl ?_ | exact Out.refl _ _ | exact Out.mix)⟩
              first | exact ⟨tk + 1, rfl, by omega, by rw [if_pos ht99] at hEz0; exact hEz0, hX, B1_11, B4_1, B24_7⟩ | exact ⟨tk, rfl, by omega, by rw [if_neg ht99, Int.add_zero] at hEz0; exact hEz0, hX, B1_11, B4_1, B24_7⟩
            · refine W_skip ?_
              refine ⟨?_, by repeat (first | with_reducible exact Out.refl _ _ | with_reducible exact Out.mix | refine Out.put rfl ?_ | refine Out.mixin rfl ?_ | exact Out.refl _ _ | exact Out.mix)⟩
              first | exact ⟨tk + 1, rfl, by omega, by rw [if_pos ht99] at hEz0; exact hEz0, hX, B1_11, B4_1, B24_7⟩ | exact ⟨tk, rfl, by omega, by rw [if_neg ht99, Int.add_zero] at hEz0; exact hEz0, hX, B1_11, B4_1, B24_7⟩
          rintro gift99 w' hJ
          obtain ⟨tk', h11', htk', hEz, hX', Bx0, Bx1, Bx2⟩ := hJ
          clear hX B1_11 B4_1 B24_7
          have hX := hX'
          have B1_11 := Bx0
          have B4_1 := Bx1
          have B24_7 := Bx2
          clear hX' Bx0 Bx1 Bx2
          have hEB := EB z tk' hEz
          refine W_set (i := 11) h11' ?_
          refine W_seq ?_
          refine W_region ?_
          refine op rfl (r_loadRow rfl B24_7 Try.underlying27 rfl Try.sz27) ?_
          refine op_storeRow rfl rfl Try.sz27 B4_1 rfl rfl ?_
          intro w29_1 C29_1 BB29_1
          replace B1_11 := Chg.blk C29_1 B1_11 hNb1_11_4_1
          replace B24_7 := Chg.blk C29_1 B24_7 (fun q => hNb4_1_24_7 q.symm)
          replace hX := hX.chg C29_1 hG4_1
          replace B4_1 := BB29_1
          refine WL_nil ?_
          refine W_seq ?_
          refine W_region ?_
          refine op rfl (r_moveV (v := .int _ _) rfl) ?_
          refine op rfl (r_loadRow rfl B1_11 Try.underlying24 rfl Try.sz24) ?_
          refine opCv rfl (r_call Try.func14 Try.nm14 rfl) (BS _) ?_
          rintro v w5 ⟨rfl, hE⟩
          replace B1_11 := Blk.ext B1_11 hE
          replace B4_1 := Blk.ext B4_1 hE
          replace B24_7 := Blk.ext B24_7 hE
          replace hX := hX.trans hE
          refine op rfl (r_gtr rfl rfl) ?_
          refine op_false rfl (r_moveV (v := .bool (decide _)) rfl) (by omega) ?_
          refine opG_yes rfl rfl rfl rfl rfl (r_moveV (v := .int _ _) rfl) ?_
          refine opG_yes rfl rfl rfl rfl rfl (r_loadRow rfl B1_11 Try.underlying24 rfl Try.sz24) ?_
          refine opGCv_yes rfl rfl rfl rfl rfl (r_call Try.func14 Try.nm14 rfl) (BS _) ?_
          rintro v w6 ⟨rfl, hE⟩
          replace B1_11 := Blk.ext B1_11 hE
          replace B4_1 := Blk.ext B4_1 hE
          replace B24_7 := Blk.ext B24_7 hE
          replace hX := hX.trans hE
          refine opG_yes rfl rfl rfl rfl rfl (r_eql rfl rfl) ?_
          refine opG_split rfl rfl rfl rfl rfl (r_moveV (v := .bool (decide _)) rfl) (fun hg112 => ?_) (fun hg112 => ?_)
          · refine opG_yes rfl rfl rfl rfl rfl (r_fieldAddr rfl Try.fld27_0 rfl) ?_
            refine opG_yes rfl rfl rfl rfl rfl (r_load (v := .int _ _) rfl Try.underlying3 rfl (Blk.cell B4_1 rfl)) ?_
            refine opG_yes rfl rfl rfl rfl rfl (r_eql rfl rfl) ?_
            refine opG_yes rfl rfl rfl rfl rfl (r_pickTV (v := .bool _) rfl rfl) ?_
            refine op rfl (r_pickFV (v := .bool _) rfl rfl) ?_
            refine WL_nil ?_
            refine W_ifp rfl (fun ht117 => ?_) (fun ht117 => ?_)
            · exact absurd ⟨hg112, ht117⟩ hEB.2
            · refine W_skip ?_
              refine W_region ?_
              refine op rfl (r_moveV (v := .int _ _) rfl) ?_
              refine op rfl (r_add' rfl rfl (wrap_i64 (by omega) (by omega))) ?_
              refine op rfl (r_assignV (v := .int _ _) rfl) ?_
              refine WL_nil ?_
              refine ⟨?_, by repeat (first | with_reducible exact Out.refl _ _ | with_reducible exact Out.mix | refine Out.put rfl ?_ | refine Out.mixin rfl ?_ | exact Out.refl _ _ | exact Out.mix)⟩
              exact ⟨l.length - (i + 1), by omega, i + 1, z, tk', rfl, by omega, rfl, rfl, hEz, by omega, hX, B1_11, B4_1⟩
          · refine opG_no rfl rfl rfl rfl rfl ?_
            refine opG_no rfl rfl rfl rfl rfl ?_
            refine opG_no rfl rfl rfl rfl rfl ?_
            refine opG_yes rfl rfl rfl rfl rfl (r_pickFV (v := .bool _) rfl rfl) ?_
            refine op rfl (r_pickFV (v := .bool _) rfl rfl) ?_
            refine WL_nil ?_
            refine W_else rfl ?_
            refine W_skip ?_
            refine W_region ?_
            refine op rfl (r_moveV (v := .int _ _) rfl) ?_
            refine op rfl (r_add' rfl rfl (wrap_i64 (by omega) (by omega))) ?_
            refine op rfl (r_assignV (v := .int _ _) rfl) ?_
            refine WL_nil ?_
            refine ⟨?_, by repeat (first | with_reducible exact Out.refl _ _ | with_reducible exact Out.mix | refine Out.put rfl ?_ | refine Out.mixin rfl ?_ | exact Out.refl _ _ | exact Out.mix)⟩
            exact ⟨l.length - (i + 1), by omega, i + 1, z, tk', rfl, by omega, rfl, rfl, hEz, by omega, hX, B1_11, B4_1⟩
      · refine W_exit (blk_hit ?_)
        refine W_seq ?_
        refine W_region ?_
        refine opCv rfl (r_call Try.func10 Try.nm10 rfl) (known_spec _) ?_
        rintro v w7 ⟨rfl, hE⟩
        replace B1_11 := Blk.ext B1_11 hE
        replace B4_1 := Blk.ext B4_1 hE
        replace hX := hX.trans hE
        refine op rfl (r_assignV (v := .bool _) rfl) ?_
        refine WL_nil ?_
        refine W_ret (finX_ret ?_)
        refine fin1 ?_
        exact ⟨_, rfl, rfl, hX⟩
    · refine opG_no rfl rfl rfl rfl rfl ?_
      refine opG_no rfl rfl rfl rfl rfl ?_
      refine opG_no rfl rfl rfl rfl rfl ?_
      refine op rfl (r_pickFV (v := .bool _) rfl rfl) ?_
      refine WL_nil ?_
      refine W_else rfl ?_
      refine W_exit (blk_hit ?_)
      refine W_seq ?_
      refine W_region ?_
      refine opCv rfl (r_call Try.func10 Try.nm10 rfl) (known_spec _) ?_
      rintro v w7 ⟨rfl, hE⟩
      replace B1_11 := Blk.ext B1_11 hE
      replace B4_1 := Blk.ext B4_1 hE
      replace hX := hX.trans hE
      refine op rfl (r_assignV (v := .bool _) rfl) ?_
      refine WL_nil ?_
      refine W_ret (finX_ret ?_)
      refine fin1 ?_
      exact ⟨_, rfl, rfl, hX⟩
end Go.Proofs.Ytfocbkdoolnijaa
