/-
  Refused as often as there are retries it is made again; once more, and it is given up: the walk.
-/
import Derived.Test.YtfocbkdoolnijaaFacts
import Derived.Test.YtfocbkdoolnijaaLifeK
import Derived.Test.YtfocbkdoolnijaaLifeP
import Derived.Test.YtfocbkdoolnijaaLifeLWaits
namespace Go.Proofs.Ytfocbkdoolnijaa
open Go Go.Eng Go.RowKit Go.Proofs
set_option linter.unusedVariables false
set_option maxRecDepth 20000
set_option maxHeartbeats 4000000

def refE (i : Nat) (c : Int) : List (Int × Int) := [(3, 0), (6, 0), (9, 1 + i), (c, 0)]
def refY (m : Lim) (i : Nat) : Lf := (Lf.mk 4 0 i 0 (1 + i) 0).again m
theorem ref_run (m : Lim) (i : Nat) (c : Int) (hc : c = 11 ∨ c = 12) : Lf.run m ⟨1, 0, i, 0, 0, 0⟩ 0 (refE i c) = (refY m i, 4) := by
  rcases hc with rfl | rfl <;> rfl
def tickQ (t wt : Int) : Lf := if wt > 1 then ⟨5, 0, t, wt - 1, 0, 0⟩ else ⟨1, 0, t, 0, 0, 0⟩
theorem step_Q (m : Lim) {t wt : Int} (h1 : 1 ≤ wt) (h2 : wt ≤ 500) : (Lf.mk 5 0 t wt 0 0).step m 8 0 = tickQ t wt := by
  show (Lf.mk 5 0 t wt 0 0).tick (fun y => y.to 1) = tickQ t wt
  unfold Lf.tick tickQ
  rw [dec_eq h1 h2]
  by_cases h : wt > 1
  · rw [if_pos (by omega), if_pos h]
  · rw [if_neg (by omega), if_neg h]; rfl
/-- How it stands when j ticks have gone. -/
def Zs (rn i j : Nat) (z : Lf) : Prop := (i = rn ∧ z = ⟨7, 3, i + 1, 0, 0, 0⟩) ∨ (i < rn ∧ (z = ⟨1, 0, i + 1, 0, 0, 0⟩ ∨ ∃ wt : Int, 1 ≤ wt ∧ wt + j ≤ 9 ∧ z = ⟨5, 0, i + 1, wt, 0, 0⟩))
theorem ref_zs {rn bn i : Nat} (hb : bn < 10) (hr : rn < 20) (hi : i ≤ rn) : Zs rn i 0 (refY ⟨rn, 3, bn⟩ i) := by
  have hinc : inc (i : Int) = i + 1 := wrap_i64 (by omega) (by omega)
  unfold Zs refY Lf.again
  simp only [hinc]
  by_cases h : i = rn
  · left
    refine ⟨h, ?_⟩
    rw [if_pos (by omega)]
    rfl
  · right
    refine ⟨by omega, ?_⟩
    rw [if_neg (by omega)]
    have hp := pause_pos ⟨rn, 3, bn⟩ (i + 1) (by simp)
    by_cases h0 : Lim.pause ⟨rn, 3, bn⟩ (i + 1) = 0
    · left; rw [if_pos h0]; rfl
    · right
      rw [if_neg h0]
      refine ⟨_, ?_, ?_, rfl⟩
      · omega
      · simp only at hp; omega
theorem zs_tries {rn i j : Nat} {z : Lf} (h : Zs rn i j z) : z.tries = i + 1 := by
  rcases h with ⟨_, rfl⟩ | ⟨_, rfl | ⟨wt, _, _, rfl⟩⟩ <;> rfl
theorem zs_seven {rn i j : Nat} {z : Lf} (h : Zs rn i j z) : z.state = 7 ↔ (i : Int) = rn := by
  rcases h with ⟨h1, rfl⟩ | ⟨h1, rfl | ⟨wt, _, _, rfl⟩⟩ <;> simp <;> omega
theorem zs_why {rn i j : Nat} {z : Lf} (h : Zs rn i j z) (h7 : z.state = 7) : z.why = 3 := by
  rcases h with ⟨h1, rfl⟩ | ⟨h1, rfl | ⟨wt, _, _, rfl⟩⟩
  · rfl
  · cases h7
  · cases h7
theorem zs_five {rn i j : Nat} {z : Lf} (h : Zs rn i j z) (h5 : z.state = 5) : ∃ wt : Int, 1 ≤ wt ∧ wt + j ≤ 9 ∧ i < rn ∧ z = ⟨5, 0, i + 1, wt, 0, 0⟩ := by
  rcases h with ⟨h1, rfl⟩ | ⟨h1, rfl | ⟨wt, h2, h3, rfl⟩⟩
  · cases h5
  · cases h5
  · exact ⟨wt, h2, h3, h1, rfl⟩
theorem zs_next {rn i j : Nat} {wt : Int} (h1 : 1 ≤ wt) (h2 : wt + j ≤ 9) (h3 : i < rn) : Zs rn i (j + 1) (tickQ (i + 1) wt) := by
  right
  refine ⟨h3, ?_⟩
  unfold tickQ
  by_cases h : wt > 1
  · right; rw [if_pos h]; exact ⟨wt - 1, by omega, by omega, rfl⟩
  · left; rw [if_neg h]
theorem zs_fin {rn i j : Nat} {z : Lf} (h : Zs rn i j z) (hn : ¬ z.state = 5 ∨ 10 ≤ j) : (i < rn → z = ⟨1, 0, i + 1, 0, 0, 0⟩) ∧ (i = rn → z = ⟨7, 3, i + 1, 0, 0, 0⟩) := by
  rcases h with ⟨h1, rfl⟩ | ⟨h1, rfl | ⟨wt, h2, h3, rfl⟩⟩
  · exact ⟨fun h => by omega, fun _ => rfl⟩
  · exact ⟨fun _ => rfl, fun h => by omega⟩
  · rcases hn with hn | hn
    · exact absurd rfl hn
    · omega
theorem ref_lt {rn i k : Nat} (hk : k = rn + 1 - i) (h : (i : Int) ≤ rn) : rn + 1 - (i + 1) < k := by omega
theorem ref_le {rn i : Nat} (h : (i : Int) ≤ rn) : i + 1 ≤ rn + 1 := by omega
theorem ref_le1 {rn i : Nat} (h : i + 1 ≤ rn) : i < rn := by omega
theorem ref_eq {rn i : Nat} (h : i + 1 = rn + 1) : i = rn := by omega
theorem tmod_nat {t : Int} {q : Nat} (h0 : 0 ≤ t) (hq : 0 < q) : ∃ n : Nat, t.tmod q = n ∧ n < q := by
  rw [Int.tmod_eq_emod_of_nonneg h0]
  exact ⟨(t % q).toNat, by have := Int.emod_nonneg t (b := (q : Int)) (by omega); omega, by have := Int.emod_lt_of_pos t (b := (q : Int)) (by omega); have := Int.emod_nonneg t (b := (q : Int)) (by omega); omega⟩
theorem lifeRefused_walk (W : World) (t : Int) (ht : inK .u8 t) (u : Int) (hu : inK .u8 u) (A : Option Addr) (ca : Nat) (how : List Bool) (hca : how.length ≤ ca) (hba : how.length ≤ big) (hA : Ty.bool.Row W (old W) A how) :
    Calls Try.prog 6 #[.int .u8 t, .int .u8 u, .slice A how.length ca] W (fun e W' => ∃ v, e = .returned v ∧ v = .bool true ∧ Ext W W') := by
  have ht0 : 0 ≤ t ∧ t ≤ 255 := by simp only [inK, lo, hi] at ht; exact ht
  have hu0 : 0 ≤ u ∧ u ≤ 255 := by simp only [inK, lo, hi] at hu; exact hu
  have hba' : how.length ≤ 140737488355328 := hba
  clear ht hu hba
  obtain ⟨rn, hrn, hr20⟩ := tmod_nat (q := 20) ht0.1 (by decide)
  obtain ⟨bn, hbn, hb10⟩ := tmod_nat (q := 10) hu0.1 (by decide)
  obtain ⟨m, hm⟩ : ∃ m : Lim, m = ⟨rn, 3, bn⟩ := ⟨_, rfl⟩
  have RF : ∀ w A' (i : Nat) c, (c = 11 ∨ c = 12) → evT.Row w (old w) A' (refE i c) → Calls Try.prog 16 #[(Lim.mk rn 3 bn).val, (Lf.mk 1 0 i 0 0 0).val, .slice A' 4 4] w (fun en w' => ∃ v, en = .returned v ∧ v = .tuple #[(refY ⟨rn, 3, bn⟩ i).val, .int .i64 4] ∧ Ext w w') := fun w A' i c hc hr => by
    have := run_spec ⟨rn, 3, bn⟩ ⟨1, 0, i, 0, 0, 0⟩ A' 4 (refE i c) w (by simp [refE]) hr
    rw [ref_run _ _ _ hc] at this
    exact this
  have SQ : ∀ t wt w, 1 ≤ wt → wt ≤ 500 → Calls Try.prog 13 #[(Lim.mk rn 3 bn).val, (Lf.mk 5 0 t wt 0 0).val, .agg #[.int .i64 8, .int .i64 0]] w (fun en w' => ∃ v, en = .returned v ∧ v = .tuple #[(tickQ t wt).val, .bool true] ∧ Ext w w') := fun t wt w h1 h2 => by
    have := step_spec ⟨rn, 3, bn⟩ ⟨5, 0, t, wt, 0, 0⟩ 8 0 w
    rw [step_Q _ h1 h2] at this
    exact this
  clear hm
  refine calls' (n := 114) (rs := #[.tmp 6]) (l := [.int .u8 t, .int .u8 u, .slice A how.length ca]) Try.func6 rfl rfl rfl rfl rfl ?_
  have hX := Ext.refl W
  refine W_seq ?_
  refine W_region ?_
  refine op rfl (r_assignV (v := .bool _) rfl) ?_
  refine WL_nil ?_
  refine W_seq ?_
  refine W_region ?_
  refine op rfl (r_moveV (v := .int _ _) rfl) ?_
  refine op rfl (r_conv' rfl Try.underlying5 Try.underlying3 (wrap_i64 (by omega) (by omega))) ?_
  refine op rfl (r_rem' rfl rfl (by decide) hrn) ?_
  refine op rfl (r_moveV (v := .int _ _) rfl) ?_
  refine op rfl (r_conv' rfl Try.underlying5 Try.underlying3 (wrap_i64 (by omega) (by omega))) ?_
  refine op rfl (r_rem' rfl rfl (by decide) hbn) ?_
  refine op rfl (r_build (cs := [.int _ _, .int _ _, .int _ _]) Try.lay24 (List.forall_mem_cons.2 ⟨rfl, List.forall_mem_cons.2 ⟨rfl, List.forall_mem_cons.2 ⟨rfl, fun _ h => by cases h⟩⟩⟩) rfl rfl) ?_
  refine op_alloc rfl Try.zero24 ?_
  intro w1_7 b1_7 E1_7 B1_7 L1_7
  have hG1_7 : W.heap.size ≤ b1_7 := by have := hX.size; omega
  replace hX := hX.trans E1_7
  refine op_storeRow rfl rfl Try.sz24 B1_7 rfl rfl ?_
  intro w1_8 C1_8 BB1_8
  replace hX := hX.chg C1_8 hG1_7
  replace B1_7 := BB1_8
  refine WL_nil ?_
  refine W_seq ?_
  refine W_seq ?_
  refine W_region ?_
  refine op rfl (r_moveV (v := .slice _ _ _) rfl) ?_
  refine op rfl (r_len_slice rfl Try.underlying43) ?_
  refine op rfl (r_lss rfl rfl) ?_
  refine WL_nil ?_
  refine W_ifp rfl (fun ht25 => ?_) (fun ht25 => ?_)
  · refine W_seq ?_
    refine W_region ?_
    refine opCv rfl (r_call Try.func10 Try.nm10 rfl) (known_spec _) ?_
    rintro v w2 ⟨rfl, hE⟩
    replace B1_7 := Blk.ext B1_7 hE
    replace hX := hX.trans hE
    refine op rfl (r_assignV (v := .bool _) rfl) ?_
    refine WL_nil ?_
    refine W_ret (finX_ret ?_)
    refine fin1 ?_
    exact ⟨_, rfl, rfl, hX⟩
  · refine W_skip ?_
    refine W_seq ?_
    refine W_region ?_
    refine opCv rfl (r_call Try.func11 Try.nm11 rfl) (new_spec false _) ?_
    rintro v w2 ⟨rfl, hE⟩
    replace B1_7 := Blk.ext B1_7 hE
    replace hX := hX.trans hE
    refine op_alloc rfl Try.zero27 ?_
    intro w4_1 b4_1 E4_1 B4_1 L4_1
    have hG4_1 : W.heap.size ≤ b4_1 := by have := hX.size; omega
    have hNb1_7_4_1 : b1_7 ≠ b4_1 := by have := Blk.lt B1_7; omega
    replace B1_7 := Blk.ext B1_7 E4_1
    replace hX := hX.trans E4_1
    refine op_storeRow rfl rfl Try.sz27 B4_1 rfl rfl ?_
    intro w4_2 C4_2 BB4_2
    replace B1_7 := Chg.blk C4_2 B1_7 hNb1_7_4_1
    replace hX := hX.chg C4_2 hG4_1
    replace B4_1 := BB4_2
    refine WL_nil ?_
    refine W_seq ?_
    refine W_seq ?_
    refine W_region ?_
    refine op rfl (r_assignV (v := .int _ _) rfl) ?_
    refine WL_nil ?_
    refine W_block ?_
    refine W_loop (6 :: 9 :: 10 :: 11 :: 12 :: 13 :: 14 :: 15 :: 28 :: 29 :: 30 :: 31 :: 32 :: 33 :: 34 :: 35 :: 36 :: 37 :: 38 :: 39 :: 40 :: 41 :: 42 :: 43 :: 44 :: 45 :: 46 :: 47 :: 48 :: 49 :: 50 :: 51 :: 52 :: 53 :: 54 :: 55 :: 56 :: 57 :: 58 :: 59 :: 60 :: 61 :: 62 :: 63 :: 64 :: 65 :: 66 :: 67 :: 68 :: 69 :: 70 :: 71 :: 72 :: 73 :: 74 :: 75 :: 76 :: 77 :: 78 :: 79 :: 80 :: 81 :: 82 :: 83 :: 84 :: 85 :: 86 :: 87 :: 88 :: 89 :: 90 :: 91 :: 92 :: 93 :: 94 :: 95 :: 96 :: 97 :: 98 :: 99 :: 100 :: 101 :: 102 :: 103 :: 104 :: 105 :: 106 :: 107 :: 108 :: []) (fun k e' w' => ∃ (i : Nat) (x : Lf), k = rn + 1 - i ∧ i ≤ rn + 1 ∧ e' 9 = .int .i64 i ∧ (i ≤ rn → x = ⟨1, 0, i, 0, 0, 0⟩) ∧ (i = rn + 1 → x.state = 7) ∧ Ext W w' ∧ Blk w' b1_7 (Lim.mk rn 3 bn).val.cells 24 ∧ Blk w' b4_1 x.val.cells 27) (rn + 1) ?_ ?_
    · exact ⟨0, ⟨1, 0, 0, 0, 0, 0⟩, by omega, by omega, rfl, fun _ => rfl, fun h => by omega, hX, B1_7, B4_1⟩
    intro k g w' hI
    obtain ⟨i, x, hk, hile, h9, hx, hx7, hX', Bx0, Bx1⟩ := hI
    clear hX B1_7 B4_1
    have hX := hX'
    have B1_7 := Bx0
    have B4_1 := Bx1
    clear hX' Bx0 Bx1
    refine W_set (i := 9) h9 ?_
    refine W_seq ?_
    refine W_seq ?_
    refine W_region ?_
    refine op rfl (r_moveV (v := .int _ _) rfl) ?_
    refine op rfl (r_fieldAddr rfl Try.fld24_0 rfl) ?_
    refine op rfl (r_load (v := .int _ _) rfl Try.underlying3 rfl (Blk.cell B1_7 rfl)) ?_
    refine op rfl (r_leq rfl rfl) ?_
    refine WL_nil ?_
    refine W_ifp rfl (fun ht31 => ?_) (fun ht31 => ?_)
    · have hir0 : (i : Int) ≤ rn := ht31
      obtain rfl := hx (by omega)
      have hlt : i < how.length := by omega
      obtain ⟨ga, oa, hAe, hga, _, hcell⟩ := Ty.Row.cell hA hlt
      refine W_skip ?_
      refine W_seq ?_
      refine W_block ?_
      refine W_seq ?_
      refine W_region ?_
      refine op rfl (r_build (cs := [.int _ _, .int _ _]) Try.lay31 (List.forall_mem_cons.2 ⟨rfl, fun _ h => by cases h⟩) rfl rfl) ?_
      refine op_alloc rfl Try.zero31 ?_
      intro w8_1 b8_1 E8_1 B8_1 L8_1
      have hG8_1 : W.heap.size ≤ b8_1 := by have := hX.size; omega
      have hNb1_7_8_1 : b1_7 ≠ b8_1 := by have := Blk.lt B1_7; omega
      replace B1_7 := Blk.ext B1_7 E8_1
      have hNb4_1_8_1 : b4_1 ≠ b8_1 := by have := Blk.lt B4_1; omega
      replace B4_1 := Blk.ext B4_1 E8_1
      replace hX := hX.trans E8_1
      refine op_storeRow rfl rfl Try.sz31 B8_1 rfl rfl ?_
      intro w8_2 C8_2 BB8_2
      replace B1_7 := Chg.blk C8_2 B1_7 hNb1_7_8_1
      replace B4_1 := Chg.blk C8_2 B4_1 hNb4_1_8_1
      replace hX := hX.chg C8_2 hG8_1
      replace B8_1 := BB8_2
      refine WL_nil ?_
      refine W_cut [35, 36, 37, 38, 39] (fun e' w' => ∃ c, (c = 11 ∨ c = 12) ∧ Ext W w' ∧ Blk w' b1_7 (Lim.mk rn 3 bn).val.cells 24 ∧ Blk w' b4_1 (Lf.mk 1 0 i 0 0 0).val.cells 27 ∧ Blk w' b8_1 #[.int .i64 c, .int .i64 0] 31) ?_ ?_
      · refine W_seq ?_
        refine W_region ?_
        refine op rfl (r_moveV (v := .slice _ _ _) rfl) ?_
        refine op rfl (r_moveV (v := .int _ _) rfl) ?_
        refine op rfl (r_indexAddr1 rfl rfl hAe Try.underlying43 Try.sz4 (by omega) (by omega)) ?_
        have hcell2 := ext_cell (hX) hcell
        refine op rfl (r_load rfl Try.underlying4 rfl hcell2) ?_
        refine WL_nil ?_
        refine W_if rfl (fun ht38 => ?_) (fun ht38 => ?_)
        · refine W_region ?_
          refine op rfl (r_fieldAddr rfl Try.fld31_0 rfl) ?_
          refine op_store (v := .int _ _) rfl rfl rfl Try.sz3 B8_1 (Nat.le_of_ble_eq_true rfl) ?_
          intro w10_1 C10_1 BB10_1
          replace B1_7 := Chg.blk C10_1 B1_7 hNb1_7_8_1
          replace B4_1 := Chg.blk C10_1 B4_1 hNb4_1_8_1
          replace hX := hX.chg C10_1 hG8_1
          replace B8_1 := BB10_1
          refine WL_nil ?_
          refine ⟨?_, by repeat (first | with_reducible exact Out.refl _ _ | with_reducible exact Out.mix | refine Out.put rfl ?_ | refine Out.mixin rfl ?_ | exact Out.refl _ _ | exact Out.mix)⟩
          first | exact ⟨11, Or.inl rfl, hX, B1_7, B4_1, B8_1⟩ | exact ⟨12, Or.inr rfl, hX, B1_7, B4_1, B8_1⟩
        · refine W_skip ?_
          refine ⟨?_, by repeat (first | with_reducible exact Out.refl _ _ | with_reducible exact Out.mix | refine Out.put rfl ?_ | refine Out.mixin rfl ?_ | exact Out.refl _ _ | exact Out.mix)⟩
          first | exact ⟨11, Or.inl rfl, hX, B1_7, B4_1, B8_1⟩ | exact ⟨12, Or.inr rfl, hX, B1_7, B4_1, B8_1⟩
      rintro gift38 w' hJ
      obtain ⟨c, hc, hX', Bx0, Bx1, Bx2⟩ := hJ
      clear hX B1_7 B4_1 B8_1
      have hX := hX'
      have B1_7 := Bx0
      have B4_1 := Bx1
      have B8_1 := Bx2
      clear hX' Bx0 Bx1 Bx2
      refine W_seq ?_
      refine W_region ?_
      refine op rfl (r_loadRow rfl B1_7 Try.underlying24 rfl Try.sz24) ?_
      refine op rfl (r_loadRow rfl B4_1 Try.underlying27 rfl Try.sz27) ?_
      refine op rfl (r_build (cs := [.int _ _, .int _ _]) Try.lay31 (List.forall_mem_cons.2 ⟨rfl, fun _ h => by cases h⟩) rfl rfl) ?_
      refine op rfl (r_build (cs := [.int _ _, .int _ _]) Try.lay31 (List.forall_mem_cons.2 ⟨rfl, fun _ h => by cases h⟩) rfl rfl) ?_
      refine op rfl (r_moveV (v := .int _ _) rfl) ?_
      refine op rfl (r_add' rfl rfl (wrap_i64 (by omega) (by omega))) ?_
      refine op rfl (r_build (cs := [.int _ _, .int _ _]) Try.lay31 (List.forall_mem_cons.2 ⟨rfl, List.forall_mem_cons.2 ⟨rfl, fun _ h => by cases h⟩⟩) rfl rfl) ?_
      refine op rfl (r_loadRow rfl B8_1 Try.underlying31 rfl Try.sz31) ?_
      refine op_newS rfl (r_buildRows (vs := [[.int _ _, .int _ _], [.int _ _, .int _ _], [.int _ _, .int _ _], [.int _ _, .int _ _]]) Try.underlying41 Try.sz31 Try.zero31 rfl rfl rfl) ?_
      intro w11_8 b11_8 E11_8 B11_8 L11_8
      have hG11_8 : W.heap.size ≤ b11_8 := by have := hX.size; omega
      have hNb1_7_11_8 : b1_7 ≠ b11_8 := by have := Blk.lt B1_7; omega
      replace B1_7 := Blk.ext B1_7 E11_8
      have hNb4_1_11_8 : b4_1 ≠ b11_8 := by have := Blk.lt B4_1; omega
      replace B4_1 := Blk.ext B4_1 E11_8
      have hNb8_1_11_8 : b8_1 ≠ b11_8 := by have := Blk.lt B8_1; omega
      replace B8_1 := Blk.ext B8_1 E11_8
      replace hX := hX.trans E11_8
      have hzs := ref_zs (rn := rn) (bn := bn) (i := i) hb10 hr20 (by omega)
      have RFy := fun A' hr => RF w11_8 A' i c hc hr
      generalize refY ⟨rn, 3, bn⟩ i = y at hzs RFy
      refine opCv rfl (r_call Try.func16 Try.nm16 rfl) (RFy _ (row_ints B11_8 (Blk.lt B11_8) (by intro q hq; simp only [refE, List.mem_cons, List.not_mem_nil, or_false] at hq; rcases hq with rfl | rfl | rfl | rfl <;> refine ⟨rfl, ?_⟩ <;> intro j hj <;> simp only [evs, List.mem_cons, List.not_mem_nil, or_false] at hj <;> rcases hj with rfl | rfl <;> simp only [inK, lo, hi] <;> omega))) ?_
      rintro v w3 ⟨rfl, hE⟩
      replace B1_7 := Blk.ext B1_7 hE
      replace B4_1 := Blk.ext B4_1 hE
      replace B8_1 := Blk.ext B8_1 hE
      replace B11_8 := Blk.ext B11_8 hE
      replace hX := hX.trans hE
      refine op rfl (r_moveV (v := .tuple #[y.val, .int .i64 4]) rfl) ?_
      refine op rfl (r_extract (vs := [y.val, .int .i64 4]) rfl rfl) ?_
      refine op rfl (r_extract (vs := [y.val, .int .i64 4]) rfl rfl) ?_
      refine op_alloc rfl Try.zero27 ?_
      intro w11_13 b11_13 E11_13 B11_13 L11_13
      have hG11_13 : W.heap.size ≤ b11_13 := by have := hX.size; omega
      have hNb1_7_11_13 : b1_7 ≠ b11_13 := by have := Blk.lt B1_7; omega
      replace B1_7 := Blk.ext B1_7 E11_13
      have hNb4_1_11_13 : b4_1 ≠ b11_13 := by have := Blk.lt B4_1; omega
      replace B4_1 := Blk.ext B4_1 E11_13
      have hNb8_1_11_13 : b8_1 ≠ b11_13 := by have := Blk.lt B8_1; omega
      replace B8_1 := Blk.ext B8_1 E11_13
      have hNb11_8_11_13 : b11_8 ≠ b11_13 := by have := Blk.lt B11_8; omega
      replace B11_8 := Blk.ext B11_8 E11_13
      replace hX := hX.trans E11_13
      refine op_storeRow rfl rfl Try.sz27 B11_13 rfl rfl ?_
      intro w11_14 C11_14 BB11_14
      replace B1_7 := Chg.blk C11_14 B1_7 hNb1_7_11_13
      replace B4_1 := Chg.blk C11_14 B4_1 hNb4_1_11_13
      replace B8_1 := Chg.blk C11_14 B8_1 hNb8_1_11_13
      replace B11_8 := Chg.blk C11_14 B11_8 hNb11_8_11_13
      replace hX := hX.chg C11_14 hG11_13
      replace B11_13 := BB11_14
      refine op rfl (r_assignV (v := .int .i64 4) rfl) ?_
      refine WL_nil ?_
      refine W_seq ?_
      refine W_seq ?_
      refine W_region ?_
      refine op rfl (r_moveV (v := .int .i64 4) rfl) ?_
      refine op rfl (r_neq (m := 4) (n := 4) rfl rfl) ?_
      refine op_false rfl (r_moveV (v := .bool (decide _)) rfl) (fun h => h rfl) ?_
      refine opG_yes rfl rfl rfl rfl rfl (r_fieldAddr rfl Try.fld27_2 rfl) ?_
      refine opG_yes rfl rfl rfl rfl rfl (r_load (v := .int _ _) rfl Try.underlying3 rfl (Blk.cell B11_13 rfl)) ?_
      refine opG_yes rfl rfl rfl rfl rfl (r_moveV (v := .int _ _) rfl) ?_
      refine opG_yes rfl rfl rfl rfl rfl (r_add' rfl rfl (wrap_i64 (by omega) (by omega))) ?_
      refine opG_yes rfl rfl rfl rfl rfl (r_neq rfl rfl) ?_
      refine op rfl (r_pickFV (v := .bool _) rfl rfl) ?_
      refine op_false rfl (r_moveV (v := .bool (decide _)) rfl) (fun h => h (zs_tries hzs)) ?_
      refine opG_yes rfl rfl rfl rfl rfl (r_fieldAddr rfl Try.fld27_0 rfl) ?_
      refine opG_yes rfl rfl rfl rfl rfl (r_load (v := .int _ _) rfl Try.underlying3 rfl (Blk.cell B11_13 rfl)) ?_
      refine opG_yes rfl rfl rfl rfl rfl (r_eql rfl rfl) ?_
      refine opG_yes rfl rfl rfl rfl rfl (r_moveV (v := .int _ _) rfl) ?_
      refine opG_yes rfl rfl rfl rfl rfl (r_fieldAddr rfl Try.fld24_0 rfl) ?_
      refine opG_yes rfl rfl rfl rfl rfl (r_load (v := .int _ _) rfl Try.underlying3 rfl (Blk.cell B1_7 rfl)) ?_
      refine opG_yes rfl rfl rfl rfl rfl (r_eql rfl rfl) ?_
      refine opG_yes rfl rfl rfl rfl rfl (rb_neq rfl rfl Try.underlying4) ?_
      refine op rfl (r_pickFV (v := .bool _) rfl rfl) ?_
      refine op_false rfl (r_moveV (v := .bool (decide _)) rfl) (dec_ne (zs_seven hzs)) ?_
      refine opG_yes rfl rfl rfl rfl rfl (r_fieldAddr rfl Try.fld27_0 rfl) ?_
      refine opG_yes rfl rfl rfl rfl rfl (r_load (v := .int _ _) rfl Try.underlying3 rfl (Blk.cell B11_13 rfl)) ?_
      refine opG_yes rfl rfl rfl rfl rfl (r_eql rfl rfl) ?_
      refine opG_split rfl rfl rfl rfl rfl (r_moveV (v := .bool (decide _)) rfl) (fun hg76 => ?_) (fun hg76 => ?_)
      · refine opG_yes rfl rfl rfl rfl rfl (r_fieldAddr rfl Try.fld27_1 rfl) ?_
        refine opG_yes rfl rfl rfl rfl rfl (r_load (v := .int _ _) rfl Try.underlying3 rfl (Blk.cell B11_13 rfl)) ?_
        refine opG_yes rfl rfl rfl rfl rfl (r_neq rfl rfl) ?_
        refine opG_yes rfl rfl rfl rfl rfl (r_pickTV (v := .bool _) rfl rfl) ?_
        refine op rfl (r_pickFV (v := .bool _) rfl rfl) ?_
        refine WL_nil ?_
        refine W_ifp rfl (fun ht81 => ?_) (fun ht81 => ?_)
        · exact absurd (zs_why hzs hg76) ht81
        · refine W_skip ?_
          refine W_seq ?_
          refine W_region ?_
          refine op rfl (r_loadRow rfl B11_13 Try.underlying27 rfl Try.sz27) ?_
          refine op_storeRow rfl rfl Try.sz27 B4_1 rfl rfl ?_
          intro w14_1 C14_1 BB14_1
          replace B1_7 := Chg.blk C14_1 B1_7 hNb1_7_4_1
          replace B8_1 := Chg.blk C14_1 B8_1 (fun q => hNb4_1_8_1 q.symm)
          replace B11_8 := Chg.blk C14_1 B11_8 (fun q => hNb4_1_11_8 q.symm)
          replace B11_13 := Chg.blk C14_1 B11_13 (fun q => hNb4_1_11_13 q.symm)
          replace hX := hX.chg C14_1 hG4_1
          replace B4_1 := BB14_1
          refine WL_nil ?_
          refine W_seq ?_
          refine W_seq ?_
          refine W_region ?_
          refine op rfl (r_assignV (v := .int _ _) rfl) ?_
          refine WL_nil ?_
          refine W_block ?_
          refine W_loop [13, 14, 15, 83, 84, 85, 86, 87, 88, 89, 90, 91, 92, 93, 94, 95, 96, 97, 98, 99] (fun k e' w' => ∃ (j : Nat) (z : Lf), k = 10 - j ∧ j ≤ 10 ∧ e' 13 = .int .i64 j ∧ Zs rn i j z ∧ Ext W w' ∧ Blk w' b1_7 (Lim.mk rn 3 bn).val.cells 24 ∧ Blk w' b4_1 z.val.cells 27) (10) ?_ ?_
          · exact ⟨0, y, by omega, by omega, rfl, hzs, hX, B1_7, B4_1⟩
          intro k g w' hI
          obtain ⟨j, z, hk2, hj, h13, hzs, hX', Bx0, Bx1⟩ := hI
          clear hX B1_7 B4_1
          have hX := hX'
          have B1_7 := Bx0
          have B4_1 := Bx1
          clear hX' Bx0 Bx1
          refine W_set (i := 13) h13 ?_
          refine W_seq ?_
          refine W_seq ?_
          refine W_region ?_
          refine op rfl (r_moveV (v := .int _ _) rfl) ?_
          refine op rfl (r_lss rfl rfl) ?_
          refine op_split rfl (r_moveV (v := .bool (decide _)) rfl) (fun hg85 => ?_) (fun hg85 => ?_)
          · refine opG_yes rfl rfl rfl rfl rfl (r_fieldAddr rfl Try.fld27_0 rfl) ?_
            refine opG_yes rfl rfl rfl rfl rfl (r_load (v := .int _ _) rfl Try.underlying3 rfl (Blk.cell B4_1 rfl)) ?_
            refine opG_yes rfl rfl rfl rfl rfl (r_eql rfl rfl) ?_
            refine op rfl (r_pickTV (v := .bool _) rfl rfl) ?_
            refine WL_nil ?_
            refine W_ifp rfl (fun ht89 => ?_) (fun ht89 => ?_)
            · obtain ⟨wt, hw1, hw2, hir, rfl⟩ := zs_five hzs ht89
              refine W_skip ?_
              refine W_seq ?_
              refine W_block ?_
              refine W_seq ?_
              refine W_region ?_
              refine op rfl (r_loadRow rfl B1_7 Try.underlying24 rfl Try.sz24) ?_
              refine op rfl (r_loadRow rfl B4_1 Try.underlying27 rfl Try.sz27) ?_
              refine op rfl (r_build (cs := [.int _ _, .int _ _]) Try.lay31 (List.forall_mem_cons.2 ⟨rfl, fun _ h => by cases h⟩) rfl rfl) ?_
              refine opCv rfl (r_call Try.func13 Try.nm13 rfl) (SQ (i + 1) wt _ hw1 (by omega)) ?_
              rintro v w4 ⟨rfl, hE⟩
              replace B1_7 := Blk.ext B1_7 hE
              replace B4_1 := Blk.ext B4_1 hE
              replace hX := hX.trans hE
              refine op rfl (r_moveV (v := .tuple #[(tickQ (i + 1) wt).val, .bool true]) rfl) ?_
              refine op rfl (r_extract (vs := [(tickQ (i + 1) wt).val, .bool true]) rfl rfl) ?_
              refine op rfl (r_extract (vs := [(tickQ (i + 1) wt).val, .bool true]) rfl rfl) ?_
              refine op_alloc rfl Try.zero27 ?_
              intro w18_7 b18_7 E18_7 B18_7 L18_7
              have hG18_7 : W.heap.size ≤ b18_7 := by have := hX.size; omega
              have hNb1_7_18_7 : b1_7 ≠ b18_7 := by have := Blk.lt B1_7; omega
              replace B1_7 := Blk.ext B1_7 E18_7
              have hNb4_1_18_7 : b4_1 ≠ b18_7 := by have := Blk.lt B4_1; omega
              replace B4_1 := Blk.ext B4_1 E18_7
              replace hX := hX.trans E18_7
              refine op_storeRow rfl rfl Try.sz27 B18_7 rfl rfl ?_
              intro w18_8 C18_8 BB18_8
              replace B1_7 := Chg.blk C18_8 B1_7 hNb1_7_18_7
              replace B4_1 := Chg.blk C18_8 B4_1 hNb4_1_18_7
              replace hX := hX.chg C18_8 hG18_7
              replace B18_7 := BB18_8
              refine op rfl (r_assignV (v := .bool true) rfl) ?_
              refine WL_nil ?_
              refine W_region ?_
              refine op rfl (r_loadRow rfl B18_7 Try.underlying27 rfl Try.sz27) ?_
              refine op_storeRow rfl rfl Try.sz27 B4_1 rfl rfl ?_
              intro w19_1 C19_1 BB19_1
              replace B1_7 := Chg.blk C19_1 B1_7 hNb1_7_4_1
              replace B18_7 := Chg.blk C19_1 B18_7 (fun q => hNb4_1_18_7 q.symm)
              replace hX := hX.chg C19_1 hG4_1
              replace B4_1 := BB19_1
              refine WL_nil ?_
              refine W_region ?_
              refine op rfl (r_moveV (v := .int _ _) rfl) ?_
              refine op rfl (r_add' rfl rfl (wrap_i64 (by omega) (by omega))) ?_
              refine op rfl (r_assignV (v := .int _ _) rfl) ?_
              refine WL_nil ?_
              refine ⟨?_, by repeat (first | with_reducible exact Out.refl _ _ | with_reducible exact Out.mix | refine Out.put rfl ?_ | refine Out.mixin rfl ?_ | exact Out.refl _ _ | exact Out.mix)⟩
              exact ⟨10 - (j + 1), by omega, j + 1, tickQ (i + 1) wt, rfl, by omega, rfl, zs_next hw1 hw2 hir, hX, B1_7, B4_1⟩
            · refine W_exit (blk_hit ?_)
              refine W_seq ?_
              refine W_region ?_
              refine op rfl (r_moveV (v := .int _ _) rfl) ?_
              refine op rfl (r_fieldAddr rfl Try.fld24_0 rfl) ?_
              refine op rfl (r_load (v := .int _ _) rfl Try.underlying3 rfl (Blk.cell B1_7 rfl)) ?_
              refine op rfl (r_lss rfl rfl) ?_
              refine op_split rfl (r_moveV (v := .bool (decide _)) rfl) (fun hg104 => ?_) (fun hg104 => ?_)
              · refine opG_yes rfl rfl rfl rfl rfl (r_fieldAddr rfl Try.fld27_0 rfl) ?_
                refine opG_yes rfl rfl rfl rfl rfl (r_load (v := .int _ _) rfl Try.underlying3 rfl (Blk.cell B4_1 rfl)) ?_
                refine opG_yes rfl rfl rfl rfl rfl (r_neq rfl rfl) ?_
                refine op rfl (r_pickTV (v := .bool _) rfl rfl) ?_
                refine WL_nil ?_
                refine W_ifp rfl (fun ht108 => ?_) (fun ht108 => ?_)
                · have hfin := zs_fin hzs (by first | exact Or.inl ht89 | exact Or.inr (by omega))
                  have hir1 : (i : Int) < rn := hg104
                  rw [hfin.1 (by omega)] at ht108
                  exact absurd rfl ht108
                · refine W_skip ?_
                  refine W_region ?_
                  refine op rfl (r_moveV (v := .int _ _) rfl) ?_
                  refine op rfl (r_add' rfl rfl (wrap_i64 (by omega) (by omega))) ?_
                  refine op rfl (r_assignV (v := .int _ _) rfl) ?_
                  refine WL_nil ?_
                  refine ⟨?_, by repeat (first | with_reducible exact Out.refl _ _ | with_reducible exact Out.mix | refine Out.put rfl ?_ | refine Out.mixin rfl ?_ | exact Out.refl _ _ | exact Out.mix)⟩
                  have hfin := zs_fin hzs (by first | exact Or.inl ht89 | exact Or.inr (by omega))
                  refine ⟨rn + 1 - (i + 1), ref_lt hk hir0, i + 1, z, rfl, ref_le hir0, rfl, fun h => ?_, fun h => ?_, hX, B1_7, B4_1⟩
                  · rw [hfin.1 (ref_le1 h)]; simp
                  · rw [hfin.2 (ref_eq h)]
              · refine opG_no rfl rfl rfl rfl rfl ?_
                refine opG_no rfl rfl rfl rfl rfl ?_
                refine opG_no rfl rfl rfl rfl rfl ?_
                refine op rfl (r_pickFV (v := .bool _) rfl rfl) ?_
                refine WL_nil ?_
                refine W_else rfl ?_
                refine W_skip ?_
                refine W_region ?_
                refine op rfl (r_moveV (v := .int _ _) rfl) ?_
                refine op rfl (r_add' rfl rfl (wrap_i64 (by omega) (by omega))) ?_
                refine op rfl (r_assignV (v := .int _ _) rfl) ?_
                refine WL_nil ?_
                refine ⟨?_, by repeat (first | with_reducible exact Out.refl _ _ | with_reducible exact Out.mix | refine Out.put rfl ?_ | refine Out.mixin rfl ?_ | exact Out.refl _ _ | exact Out.mix)⟩
                have hfin := zs_fin hzs (by first | exact Or.inl ht89 | exact Or.inr (by omega))
                refine ⟨rn + 1 - (i + 1), ref_lt hk hir0, i + 1, z, rfl, ref_le hir0, rfl, fun h => ?_, fun h => ?_, hX, B1_7, B4_1⟩
                · rw [hfin.1 (ref_le1 h)]; simp
                · rw [hfin.2 (ref_eq h)]
          · refine opG_no rfl rfl rfl rfl rfl ?_
            refine opG_no rfl rfl rfl rfl rfl ?_
            refine opG_no rfl rfl rfl rfl rfl ?_
            refine op rfl (r_pickFV (v := .bool _) rfl rfl) ?_
            refine WL_nil ?_
            refine W_else rfl ?_
            refine W_exit (blk_hit ?_)
            refine W_seq ?_
            refine W_region ?_
            refine op rfl (r_moveV (v := .int _ _) rfl) ?_
            refine op rfl (r_fieldAddr rfl Try.fld24_0 rfl) ?_
            refine op rfl (r_load (v := .int _ _) rfl Try.underlying3 rfl (Blk.cell B1_7 rfl)) ?_
            refine op rfl (r_lss rfl rfl) ?_
            refine op_split rfl (r_moveV (v := .bool (decide _)) rfl) (fun hg104 => ?_) (fun hg104 => ?_)
            · refine opG_yes rfl rfl rfl rfl rfl (r_fieldAddr rfl Try.fld27_0 rfl) ?_
              refine opG_yes rfl rfl rfl rfl rfl (r_load (v := .int _ _) rfl Try.underlying3 rfl (Blk.cell B4_1 rfl)) ?_
              refine opG_yes rfl rfl rfl rfl rfl (r_neq rfl rfl) ?_
              refine op rfl (r_pickTV (v := .bool _) rfl rfl) ?_
              refine WL_nil ?_
              refine W_ifp rfl (fun ht108 => ?_) (fun ht108 => ?_)
              · have hfin := zs_fin hzs (by first | exact Or.inl ht89 | exact Or.inr (by omega))
                have hir1 : (i : Int) < rn := hg104
                rw [hfin.1 (by omega)] at ht108
                exact absurd rfl ht108
              · refine W_skip ?_
                refine W_region ?_
                refine op rfl (r_moveV (v := .int _ _) rfl) ?_
                refine op rfl (r_add' rfl rfl (wrap_i64 (by omega) (by omega))) ?_
                refine op rfl (r_assignV (v := .int _ _) rfl) ?_
                refine WL_nil ?_
                refine ⟨?_, by repeat (first | with_reducible exact Out.refl _ _ | with_reducible exact Out.mix | refine Out.put rfl ?_ | refine Out.mixin rfl ?_ | exact Out.refl _ _ | exact Out.mix)⟩
                have hfin := zs_fin hzs (by first | exact Or.inl ht89 | exact Or.inr (by omega))
                refine ⟨rn + 1 - (i + 1), ref_lt hk hir0, i + 1, z, rfl, ref_le hir0, rfl, fun h => ?_, fun h => ?_, hX, B1_7, B4_1⟩
                · rw [hfin.1 (ref_le1 h)]; simp
                · rw [hfin.2 (ref_eq h)]
            · refine opG_no rfl rfl rfl rfl rfl ?_
              refine opG_no rfl rfl rfl rfl rfl ?_
              refine opG_no rfl rfl rfl rfl rfl ?_
              refine op rfl (r_pickFV (v := .bool _) rfl rfl) ?_
              refine WL_nil ?_
              refine W_else rfl ?_
              refine W_skip ?_
              refine W_region ?_
              refine op rfl (r_moveV (v := .int _ _) rfl) ?_
              refine op rfl (r_add' rfl rfl (wrap_i64 (by omega) (by omega))) ?_
              refine op rfl (r_assignV (v := .int _ _) rfl) ?_
              refine WL_nil ?_
              refine ⟨?_, by repeat (first | with_reducible exact Out.refl _ _ | with_reducible exact Out.mix | refine Out.put rfl ?_ | refine Out.mixin rfl ?_ | exact Out.refl _ _ | exact Out.mix)⟩
              have hfin := zs_fin hzs (by first | exact Or.inl ht89 | exact Or.inr (by omega))
              refine ⟨rn + 1 - (i + 1), ref_lt hk hir0, i + 1, z, rfl, ref_le hir0, rfl, fun h => ?_, fun h => ?_, hX, B1_7, B4_1⟩
              · rw [hfin.1 (ref_le1 h)]; simp
              · rw [hfin.2 (ref_eq h)]
      · refine opG_no rfl rfl rfl rfl rfl ?_
        refine opG_no rfl rfl rfl rfl rfl ?_
        refine opG_no rfl rfl rfl rfl rfl ?_
        refine opG_yes rfl rfl rfl rfl rfl (r_pickFV (v := .bool _) rfl rfl) ?_
        refine op rfl (r_pickFV (v := .bool _) rfl rfl) ?_
        refine WL_nil ?_
        refine W_else rfl ?_
        refine W_skip ?_
        refine W_seq ?_
        refine W_region ?_
        refine op rfl (r_loadRow rfl B11_13 Try.underlying27 rfl Try.sz27) ?_
        refine op_storeRow rfl rfl Try.sz27 B4_1 rfl rfl ?_
        intro w14_1 C14_1 BB14_1
        replace B1_7 := Chg.blk C14_1 B1_7 hNb1_7_4_1
        replace B8_1 := Chg.blk C14_1 B8_1 (fun q => hNb4_1_8_1 q.symm)
        replace B11_8 := Chg.blk C14_1 B11_8 (fun q => hNb4_1_11_8 q.symm)
        replace B11_13 := Chg.blk C14_1 B11_13 (fun q => hNb4_1_11_13 q.symm)
        replace hX := hX.chg C14_1 hG4_1
        replace B4_1 := BB14_1
        refine WL_nil ?_
        refine W_seq ?_
        refine W_seq ?_
        refine W_region ?_
        refine op rfl (r_assignV (v := .int _ _) rfl) ?_
        refine WL_nil ?_
        refine W_block ?_
        refine W_loop [13, 14, 15, 83, 84, 85, 86, 87, 88, 89, 90, 91, 92, 93, 94, 95, 96, 97, 98, 99] (fun k e' w' => ∃ (j : Nat) (z : Lf), k = 10 - j ∧ j ≤ 10 ∧ e' 13 = .int .i64 j ∧ Zs rn i j z ∧ Ext W w' ∧ Blk w' b1_7 (Lim.mk rn 3 bn).val.cells 24 ∧ Blk w' b4_1 z.val.cells 27) (10) ?_ ?_
        · exact ⟨0, y, by omega, by omega, rfl, hzs, hX, B1_7, B4_1⟩
        intro k g w' hI
        obtain ⟨j, z, hk2, hj, h13, hzs, hX', Bx0, Bx1⟩ := hI
        clear hX B1_7 B4_1
        have hX := hX'
        have B1_7 := Bx0
        have B4_1 := Bx1
        clear hX' Bx0 Bx1
        refine W_set (i := 13) h13 ?_
        refine W_seq ?_
        refine W_seq ?_
        refine W_region ?_
        refine op rfl (r_moveV (v := .int _ _) rfl) ?_
        refine op rfl (r_lss rfl rfl) ?_
        refine op_split rfl (r_moveV (v := .bool (decide _)) rfl) (fun hg85 => ?_) (fun hg85 => ?_)
        · refine opG_yes rfl rfl rfl rfl rfl (r_fieldAddr rfl Try.fld27_0 rfl) ?_
          refine opG_yes rfl rfl rfl rfl rfl (r_load (v := .int _ _) rfl Try.underlying3 rfl (Blk.cell B4_1 rfl)) ?_
          refine opG_yes rfl rfl rfl rfl rfl (r_eql rfl rfl) ?_
          refine op rfl (r_pickTV (v := .bool _) rfl rfl) ?_
          refine WL_nil ?_
          refine W_ifp rfl (fun ht89 => ?_) (fun ht89 => ?_)
          · obtain ⟨wt, hw1, hw2, hir, rfl⟩ := zs_five hzs ht89
            refine W_skip ?_
            refine W_seq ?_
            refine W_block ?_
            refine W_seq ?_
            refine W_region ?_
            refine op rfl (r_loadRow rfl B1_7 Try.underlying24 rfl Try.sz24) ?_
            refine op rfl (r_loadRow rfl B4_1 Try.underlying27 rfl Try.sz27) ?_
            refine op rfl (r_build (cs := [.int _ _, .int _ _]) Try.lay31 (List.forall_mem_cons.2 ⟨rfl, fun _ h => by cases h⟩) rfl rfl) ?_
            refine opCv rfl (r_call Try.func13 Try.nm13 rfl) (SQ (i + 1) wt _ hw1 (by omega)) ?_
            rintro v w4 ⟨rfl, hE⟩
            replace B1_7 := Blk.ext B1_7 hE
            replace B4_1 := Blk.ext B4_1 hE
            replace hX := hX.trans hE
            refine op rfl (r_moveV (v := .tuple #[(tickQ (i + 1) wt).val, .bool true]) rfl) ?_
            refine op rfl (r_extract (vs := [(tickQ (i + 1) wt).val, .bool true]) rfl rfl) ?_
            refine op rfl (r_extract (vs := [(tickQ (i + 1) wt).val, .bool true]) rfl rfl) ?_
            refine op_alloc rfl Try.zero27 ?_
            intro w18_7 b18_7 E18_7 B18_7 L18_7
            have hG18_7 : W.heap.size ≤ b18_7 := by have := hX.size; omega
            have hNb1_7_18_7 : b1_7 ≠ b18_7 := by have := Blk.lt B1_7; omega
            replace B1_7 := Blk.ext B1_7 E18_7
            have hNb4_1_18_7 : b4_1 ≠ b18_7 := by have := Blk.lt B4_1; omega
            replace B4_1 := Blk.ext B4_1 E18_7
            replace hX := hX.trans E18_7
            refine op_storeRow rfl rfl Try.sz27 B18_7 rfl rfl ?_
            intro w18_8 C18_8 BB18_8
            replace B1_7 := Chg.blk C18_8 B1_7 hNb1_7_18_7
            replace B4_1 := Chg.blk C18_8 B4_1 hNb4_1_18_7
            replace hX := hX.chg C18_8 hG18_7
            replace B18_7 := BB18_8
            refine op rfl (r_assignV (v := .bool true) rfl) ?_
            refine WL_nil ?_
            refine W_region ?_
            refine op rfl (r_loadRow rfl B18_7 Try.underlying27 rfl Try.sz27) ?_
            refine op_storeRow rfl rfl Try.sz27 B4_1 rfl rfl ?_
            intro w19_1 C19_1 BB19_1
            replace B1_7 := Chg.blk C19_1 B1_7 hNb1_7_4_1
            replace B18_7 := Chg.blk C19_1 B18_7 (fun q => hNb4_1_18_7 q.symm)
            replace hX := hX.chg C19_1 hG4_1
            replace B4_1 := BB19_1
            refine WL_nil ?_
            refine W_region ?_
            refine op rfl (r_moveV (v := .int _ _) rfl) ?_
            refine op rfl (r_add' rfl rfl (wrap_i64 (by omega) (by omega))) ?_
            refine op rfl (r_assignV (v := .int _ _) rfl) ?_
            refine WL_nil ?_
            refine ⟨?_, by repeat (first | with_reducible exact Out.refl _ _ | with_reducible exact Out.mix | refine Out.put rfl ?_ | refine Out.mixin rfl ?_ | exact Out.refl _ _ | exact Out.mix)⟩
            exact ⟨10 - (j + 1), by omega, j + 1, tickQ (i + 1) wt, rfl, by omega, rfl, zs_next hw1 hw2 hir, hX, B1_7, B4_1⟩
          · refine W_exit (blk_hit ?_)
            refine W_seq ?_
            refine W_region ?_
            refine op rfl (r_moveV (v := .int _ _) rfl) ?_
            refine op rfl (r_fieldAddr rfl Try.fld24_0 rfl) ?_
            refine op rfl (r_load (v := .int _ _) rfl Try.underlying3 rfl (Blk.cell B1_7 rfl)) ?_
            refine op rfl (r_lss rfl rfl) ?_
            refine op_split rfl (r_moveV (v := .bool (decide _)) rfl) (fun hg104 => ?_) (fun hg104 => ?_)
            · refine opG_yes rfl rfl rfl rfl rfl (r_fieldAddr rfl Try.fld27_0 rfl) ?_
              refine opG_yes rfl rfl rfl rfl rfl (r_load (v := .int _ _) rfl Try.underlying3 rfl (Blk.cell B4_1 rfl)) ?_
              refine opG_yes rfl rfl rfl rfl rfl (r_neq rfl rfl) ?_
              refine op rfl (r_pickTV (v := .bool _) rfl rfl) ?_
              refine WL_nil ?_
              refine W_ifp rfl (fun ht108 => ?_) (fun ht108 => ?_)
              · have hfin := zs_fin hzs (by first | exact Or.inl ht89 | exact Or.inr (by omega))
                have hir1 : (i : Int) < rn := hg104
                rw [hfin.1 (by omega)] at ht108
                exact absurd rfl ht108
              · refine W_skip ?_
                refine W_region ?_
                refine op rfl (r_moveV (v := .int _ _) rfl) ?_
                refine op rfl (r_add' rfl rfl (wrap_i64 (by omega) (by omega))) ?_
                refine op rfl (r_assignV (v := .int _ _) rfl) ?_
                refine WL_nil ?_
                refine ⟨?_, by repeat (first | with_reducible exact Out.refl _ _ | with_reducible exact Out.mix | refine Out.put rfl ?_ | refine Out.mixin rfl ?_ | exact Out.refl _ _ | exact Out.mix)⟩
                have hfin := zs_fin hzs (by first | exact Or.inl ht89 | exact Or.inr (by omega))
                refine ⟨rn + 1 - (i + 1), ref_lt hk hir0, i + 1, z, rfl, ref_le hir0, rfl, fun h => ?_, fun h => ?_, hX, B1_7, B4_1⟩
                · rw [hfin.1 (ref_le1 h)]; simp
                · rw [hfin.2 (ref_eq h)]
            · refine opG_no rfl rfl rfl rfl rfl ?_
              refine opG_no rfl rfl rfl rfl rfl ?_
              refine opG_no rfl rfl rfl rfl rfl ?_
              refine op rfl (r_pickFV (v := .bool _) rfl rfl) ?_
              refine WL_nil ?_
              refine W_else rfl ?_
              refine W_skip ?_
              refine W_region ?_
              refine op rfl (r_moveV (v := .int _ _) rfl) ?_
              refine op rfl (r_add' rfl rfl (wrap_i64 (by omega) (by omega))) ?_
              refine op rfl (r_assignV (v := .int _ _) rfl) ?_
              refine WL_nil ?_
              refine ⟨?_, by repeat (first | with_reducible exact Out.refl _ _ | with_reducible exact Out.mix | refine Out.put rfl ?_ | refine Out.mixin rfl ?_ | exact Out.refl _ _ | exact Out.mix)⟩
              have hfin := zs_fin hzs (by first | exact Or.inl ht89 | exact Or.inr (by omega))
              refine ⟨rn + 1 - (i + 1), ref_lt hk hir0, i + 1, z, rfl, ref_le hir0, rfl, fun h => ?_, fun h => ?_, hX, B1_7, B4_1⟩
              · rw [hfin.1 (ref_le1 h)]; simp
              · rw [hfin.2 (ref_eq h)]
        · refine opG_no rfl rfl rfl rfl rfl ?_
          refine opG_no rfl rfl rfl rfl rfl ?_
          refine opG_no rfl rfl rfl rfl rfl ?_
          refine op rfl (r_pickFV (v := .bool _) rfl rfl) ?_
          refine WL_nil ?_
          refine W_else rfl ?_
          refine W_exit (blk_hit ?_)
          refine W_seq ?_
          refine W_region ?_
          refine op rfl (r_moveV (v := .int _ _) rfl) ?_
          refine op rfl (r_fieldAddr rfl Try.fld24_0 rfl) ?_
          refine op rfl (r_load (v := .int _ _) rfl Try.underlying3 rfl (Blk.cell B1_7 rfl)) ?_
          refine op rfl (r_lss rfl rfl) ?_
          refine op_split rfl (r_moveV (v := .bool (decide _)) rfl) (fun hg104 => ?_) (fun hg104 => ?_)
          · refine opG_yes rfl rfl rfl rfl rfl (r_fieldAddr rfl Try.fld27_0 rfl) ?_
            refine opG_yes rfl rfl rfl rfl rfl (r_load (v := .int _ _) rfl Try.underlying3 rfl (Blk.cell B4_1 rfl)) ?_
            refine opG_yes rfl rfl rfl rfl rfl (r_neq rfl rfl) ?_
            refine op rfl (r_pickTV (v := .bool _) rfl rfl) ?_
            refine WL_nil ?_
            refine W_ifp rfl (fun ht108 => ?_) (fun ht108 => ?_)
            · have hfin := zs_fin hzs (by first | exact Or.inl ht89 | exact Or.inr (by omega))
              have hir1 : (i : Int) < rn := hg104
              rw [hfin.1 (by omega)] at ht108
              exact absurd rfl ht108
            · refine W_skip ?_
              refine W_region ?_
              refine op rfl (r_moveV (v := .int _ _) rfl) ?_
              refine op rfl (r_add' rfl rfl (wrap_i64 (by omega) (by omega))) ?_
              refine op rfl (r_assignV (v := .int _ _) rfl) ?_
              refine WL_nil ?_
              refine ⟨?_, by repeat (first | with_reducible exact Out.refl _ _ | with_reducible exact Out.mix | refine Out.put rfl ?_ | refine Out.mixin rfl ?_ | exact Out.refl _ _ | exact Out.mix)⟩
              have hfin := zs_fin hzs (by first | exact Or.inl ht89 | exact Or.inr (by omega))
              refine ⟨rn + 1 - (i + 1), ref_lt hk hir0, i + 1, z, rfl, ref_le hir0, rfl, fun h => ?_, fun h => ?_, hX, B1_7, B4_1⟩
              · rw [hfin.1 (ref_le1 h)]; simp
              · rw [hfin.2 (ref_eq h)]
          · refine opG_no rfl rfl rfl rfl rfl ?_
            refine opG_no rfl rfl rfl rfl rfl ?_
            refine opG_no rfl rfl rfl rfl rfl ?_
            refine op rfl (r_pickFV (v := .bool _) rfl rfl) ?_
            refine WL_nil ?_
            refine W_else rfl ?_
            refine W_skip ?_
            refine W_region ?_
            refine op rfl (r_moveV (v := .int _ _) rfl) ?_
            refine op rfl (r_add' rfl rfl (wrap_i64 (by omega) (by omega))) ?_
            refine op rfl (r_assignV (v := .int _ _) rfl) ?_
            refine WL_nil ?_
            refine ⟨?_, by repeat (first | with_reducible exact Out.refl _ _ | with_reducible exact Out.mix | refine Out.put rfl ?_ | refine Out.mixin rfl ?_ | exact Out.refl _ _ | exact Out.mix)⟩
            have hfin := zs_fin hzs (by first | exact Or.inl ht89 | exact Or.inr (by omega))
            refine ⟨rn + 1 - (i + 1), ref_lt hk hir0, i + 1, z, rfl, ref_le hir0, rfl, fun h => ?_, fun h => ?_, hX, B1_7, B4_1⟩
            · rw [hfin.1 (ref_le1 h)]; simp
            · rw [hfin.2 (ref_eq h)]
    · have hir0 : ¬ (i : Int) ≤ rn := ht31
      refine W_exit (blk_hit ?_)
      refine W_seq ?_
      refine W_region ?_
      refine op rfl (r_loadRow rfl B4_1 Try.underlying27 rfl Try.sz27) ?_
      refine opCv rfl (r_call Try.func12 Try.nm12 rfl) (ended_spec x _) ?_
      rintro v w5 ⟨rfl, hE⟩
      replace B1_7 := Blk.ext B1_7 hE
      replace B4_1 := Blk.ext B4_1 hE
      replace hX := hX.trans hE
      refine op_true rfl (r_moveV (v := .bool (decide _)) rfl) (Or.inr (hx7 (by omega))) ?_
      refine opGCv_yes rfl rfl rfl rfl rfl (r_call Try.func10 Try.nm10 rfl) (known_spec _) ?_
      rintro v w6 ⟨rfl, hE⟩
      replace B1_7 := Blk.ext B1_7 hE
      replace B4_1 := Blk.ext B4_1 hE
      replace hX := hX.trans hE
      refine op rfl (r_pickTV (v := .bool _) rfl rfl) ?_
      refine op rfl (r_assignV (v := .bool _) rfl) ?_
      refine WL_nil ?_
      refine W_ret (finX_ret ?_)
      refine fin1 ?_
      exact ⟨_, rfl, rfl, hX⟩
end Go.Proofs.Ytfocbkdoolnijaa
