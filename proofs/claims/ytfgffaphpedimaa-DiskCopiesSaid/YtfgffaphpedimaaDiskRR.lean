/-
  The walks of the chapter's own disk: Arm, Restart, New, Step1.
-/
import Derived.Test.YtfgffaphpedimaaFacts
import Derived.Test.YtfgffaphpedimaaDiskRA
namespace Go.Proofs.Ytfgffaphpedimaa
open Go Go.Eng Go.RowKit Go.Proofs
set_option linter.unusedVariables false
set_option linter.unusedSimpArgs false
set_option maxHeartbeats 2000000

theorem rarm_spec (D : Dk) (A : Option Addr) (c : Nat) (n : Int) (w : World) {F : Nat → Prop} (hF : ∀ x, F x → x < w.heap.size) (h : RA w F A c D) :
    Calls Try.prog 41 #[D.rv A c, .int .i64 n] w (fun en w' => ∃ v, en = .returned v ∧ ∃ A' c', v = (D.arm n).rv A' c' ∧ RA w' (Nw F w w') A' c' (D.arm n) ∧ Ext w w') := by
  refine calls' (n := 14) (rs := #[.cell 4 40]) (l := [D.rv A c, .int .i64 n]) Try.func41 rfl rfl rfl rfl rfl ?_
  have hX := Ext.refl w
  refine W_seq ?_
  refine W_region ?_
  refine op_box (v := .agg _) rfl rfl ?_
  intro w0_0 b0_0 E0_0 B0_0 L0_0
  have hG0_0 : w.heap.size ≤ b0_0 := by have := hX.size; omega
  replace hX := hX.trans E0_0
  refine op_alloc rfl Try.zero40 ?_
  intro w0_1 b0_1 E0_1 B0_1 L0_1
  have hG0_1 : w.heap.size ≤ b0_1 := by have := hX.size; omega
  have hNb0_0_0_1 : b0_0 ≠ b0_1 := by have := Blk.lt B0_0; omega
  replace B0_0 := Blk.ext B0_0 E0_1
  replace hX := hX.trans E0_1
  refine WL_nil ?_
  refine W_seq ?_
  refine W_seq ?_
  refine W_region ?_
  refine op rfl (r_fieldAddr rfl Try.fld40_4 rfl) ?_
  refine op rfl (r_load (v := .bool _) rfl Try.underlying4 rfl (Blk.cell B0_0 rfl)) ?_
  refine op rfl (r_notB (b := D.dead) rfl) ?_
  refine WL_nil ?_
  refine W_if rfl (fun ht7 => ?_) (fun ht7 => ?_)
  · refine W_seq ?_
    refine W_region ?_
    refine op rfl (r_fieldAddr rfl Try.fld40_2 rfl) ?_
    refine op_store (v := .bool _) rfl rfl rfl Try.sz4 B0_0 (Nat.le_of_ble_eq_true rfl) ?_
    intro w2_1 C2_1 BB2_1
    replace B0_1 := Chg.blk C2_1 B0_1 (fun q => hNb0_0_0_1 q.symm)
    replace hX := hX.chg C2_1 hG0_0
    replace B0_0 := BB2_1
    refine WL_nil ?_
    refine W_region ?_
    refine op rfl (r_moveV (v := .int _ _) rfl) ?_
    refine op rfl (r_min2 rfl rfl) ?_
    refine op rfl (r_max2 rfl rfl) ?_
    refine op rfl (r_fieldAddr rfl Try.fld40_3 rfl) ?_
    refine op_store (v := .int _ _) rfl rfl rfl Try.sz3 B0_0 (Nat.le_of_ble_eq_true rfl) ?_
    intro w3_4 C3_4 BB3_4
    replace B0_1 := Chg.blk C3_4 B0_1 (fun q => hNb0_0_0_1 q.symm)
    replace hX := hX.chg C3_4 hG0_0
    replace B0_0 := BB3_4
    refine WL_nil ?_
    refine W_seq ?_
    refine W_region ?_
    refine op rfl (r_loadRow rfl B0_0 Try.underlying40 rfl Try.sz40) ?_
    refine op_storeRow rfl rfl Try.sz40 B0_1 rfl rfl ?_
    intro w4_1 C4_1 BB4_1
    replace B0_0 := Chg.blk C4_1 B0_0 hNb0_0_0_1
    replace hX := hX.chg C4_1 hG0_1
    replace B0_1 := BB4_1
    refine WL_nil ?_
    refine W_ret (finX_ret ?_)
    refine fin_cell rfl B0_1 Try.underlying40 rfl Try.sz40 ?_
    first
      | (have hd : D.dead = false := by simpa using ht7
         have e : D.arm n = { D with armed := true, power := max 0 (min n 1000000000) } := by unfold Dk.arm; rw [if_neg (by rw [hd]; exact Bool.false_ne_true)]
         rw [e]
         exact ⟨_, rfl, A, c, rfl, ((h.ext hF hX).keep (fun _ _ => rfl) (fun b hb => Or.inl hb)).eq rfl rfl, hX⟩)
      | (have hd : D.dead = true := by simpa using ht7
         have e : D.arm n = D := by unfold Dk.arm; rw [if_pos hd]
         rw [e]
         exact ⟨_, rfl, A, c, rfl, (h.ext hF hX).keep (fun _ _ => rfl) (fun b hb => Or.inl hb), hX⟩)
  · refine W_skip ?_
    refine W_seq ?_
    refine W_region ?_
    refine op rfl (r_loadRow rfl B0_0 Try.underlying40 rfl Try.sz40) ?_
    refine op_storeRow rfl rfl Try.sz40 B0_1 rfl rfl ?_
    intro w4_1 C4_1 BB4_1
    replace B0_0 := Chg.blk C4_1 B0_0 hNb0_0_0_1
    replace hX := hX.chg C4_1 hG0_1
    replace B0_1 := BB4_1
    refine WL_nil ?_
    refine W_ret (finX_ret ?_)
    refine fin_cell rfl B0_1 Try.underlying40 rfl Try.sz40 ?_
    first
      | (have hd : D.dead = false := by simpa using ht7
         have e : D.arm n = { D with armed := true, power := max 0 (min n 1000000000) } := by unfold Dk.arm; rw [if_neg (by rw [hd]; exact Bool.false_ne_true)]
         rw [e]
         exact ⟨_, rfl, A, c, rfl, ((h.ext hF hX).keep (fun _ _ => rfl) (fun b hb => Or.inl hb)).eq rfl rfl, hX⟩)
      | (have hd : D.dead = true := by simpa using ht7
         have e : D.arm n = D := by unfold Dk.arm; rw [if_pos hd]
         rw [e]
         exact ⟨_, rfl, A, c, rfl, (h.ext hF hX).keep (fun _ _ => rfl) (fun b hb => Or.inl hb), hX⟩)
theorem rnew_spec (areas room : Int) (w : World) :
    Calls Try.prog 25 #[.int .i64 areas, .int .i64 room] w (fun en w' => ∃ v, en = .returned v ∧ ∃ A' c', v = (Dk.new areas room).rv A' c' ∧ RA w' (Nw nobody w w') A' c' (Dk.new areas room) ∧ Ext w w') := by
  obtain ⟨n, hn⟩ : ∃ n : Nat, max 0 (min areas 8) = (n : Int) := ⟨(max 0 (min areas 8)).toNat, by omega⟩
  obtain ⟨r, hr⟩ : ∃ r : Nat, max 0 (min room 4194304) = (r : Int) := ⟨(max 0 (min room 4194304)).toNat, by omega⟩
  have hD : Dk.new areas room = ⟨n, fun _ => ⟨[], [], []⟩, r, false, 0, false⟩ := by unfold Dk.new; rw [hn, hr]; rfl
  rw [hD]
  have hn8 : n ≤ 8 := by omega
  refine calls' (n := 13) (rs := #[.cell 4 40]) (l := [.int .i64 areas, .int .i64 room]) Try.func25 rfl rfl rfl rfl rfl ?_
  have hX := Ext.refl w
  refine W_seq ?_
  refine W_region ?_
  refine op_alloc rfl Try.zero40 ?_
  intro w0_0 b0_0 E0_0 B0_0 L0_0
  have hG0_0 : w.heap.size ≤ b0_0 := by have := hX.size; omega
  replace hX := hX.trans E0_0
  refine WL_nil ?_
  refine W_seq ?_
  refine W_region ?_
  refine op rfl (r_moveV (v := .int _ _) rfl) ?_
  refine op rfl (r_min2 rfl rfl) ?_
  refine op rfl ((show _ = Result.ok (Next.value (.int .i64 (n : Int))) _ from by rw [← hn]; exact r_max2 rfl rfl)) ?_
  refine op_newS2 rfl (r_makeSlice rfl rfl Try.underlying38 Try.sz77 Try.by77 Try.zero77 (by omega) (by omega) (by omega)) ?_
  intro w1_3 b1_3 E1_3 B1_3 L1_3
  have hl0 := Blk.lt B0_0
  have hs0 := hX.size
  replace B0_0 := Blk.ext B0_0 E1_3
  replace hX := hX.trans E1_3
  refine op rfl (r_moveV (v := .int _ _) rfl) ?_
  refine op rfl (r_min2 rfl rfl) ?_
  refine op rfl ((show _ = Result.ok (Next.value (.int .i64 (r : Int))) _ from by rw [← hr]; exact r_max2 rfl rfl)) ?_
  refine op rfl (r_build (cs := [.slice _ _ _, .int _ _, .bool _, .int _ _, .bool _]) Try.lay40 (List.forall_mem_cons.2 ⟨rfl, List.forall_mem_cons.2 ⟨rfl, fun _ h => by cases h⟩⟩) rfl rfl) ?_
  refine op_storeRow rfl rfl Try.sz40 B0_0 rfl rfl ?_
  intro w1_8 C1_8 BB1_8
  replace hX := hX.chg C1_8 hG0_0
  replace B0_0 := BB1_8
  refine WL_nil ?_
  refine W_ret (finX_ret ?_)
  refine fin_cell rfl B0_0 Try.underlying40 rfl Try.sz40 ?_
  have hB2 : Blk w1_8 b1_3 (madeCells #[.slice none 0 0, .slice none 0 0, .slice none 0 0] (n * 3)) 77 := Chg.blk C1_8 B1_3 (by omega)
  have hE2 := C1_8.size
  refine ⟨_, rfl, some ⟨b1_3, 0, none⟩, n, rfl, ⟨Nat.le_refl _, Blk.row hB2 (Or.inr ⟨by omega, Blk.lt hB2⟩) (fun i hi => ?_)⟩, hX⟩
  have hi' : i < n := by rw [l_len] at hi; exact hi
  rw [l_at]
  refine ⟨[.slice none 0 0, .slice none 0 0, .slice none 0 0], ⟨_, _, _, rfl, ⟨none, 0, rfl, Nat.le_refl _, Ty.Row.nil⟩, ⟨none, 0, rfl, Nat.le_refl _, Ty.Row.nil⟩, ⟨none, 0, rfl, Nat.le_refl _, Ty.Row.nil⟩⟩, fun j hj => ?_⟩
  have hj3 : j < 3 := hj
  rw [show arR.sz = 3 from rfl, made3 hi' hj3]
  have : j = 0 ∨ j = 1 ∨ j = 2 := by omega
  rcases this with rfl | rfl | rfl <;> rfl
theorem backTo_upd (D : Dk) (keep : Int) (i : Nat) : (D.backTo keep i).upd i ⟨runs ((D.ar i).pend.take keep.toNat) (D.ar i).lasts, runs ((D.ar i).pend.take keep.toNat) (D.ar i).lasts, []⟩ = D.backTo keep (i + 1) := by
  unfold Dk.upd Dk.backTo
  simp only [Dk.mk.injEq, true_and, and_true]
  funext x
  by_cases hx : x = i
  · subst hx; simp [Ar.back]
  · have : (x < i + 1) ↔ (x < i) := by omega
    simp [hx, this]
theorem backTo_n (D : Dk) (keep : Int) : { (D.backTo keep D.n) with armed := false, dead := false } = D.restart keep := by
  unfold Dk.restart Dk.backTo
  rfl
theorem runs_next {l : List St} {b : List UInt8} {j : Nat} (hj : j < l.length) : l[j].run (runs (l.take j) b) = runs (l.take (j + 1)) b := by
  rw [← runs_snoc, List.take_append_getElem hj]
theorem rrestart_spec (D : Dk) (A : Option Addr) (c : Nat) (keep : Int) (w : World) {F : Nat → Prop} (hF : ∀ x, F x → x < w.heap.size) (h : RA w F A c D) {k : Nat} (hw : WF D k) (hk : k ≤ 1073741824) :
    Calls Try.prog 42 #[D.rv A c, .int .i64 keep] w (fun en w' => ∃ v, en = .returned v ∧ ∃ A' c', v = (D.restart keep).rv A' c' ∧ RA w' (Nw F w w') A' c' (D.restart keep) ∧ Ext w w') := by
  have hn8 := hw.n8
  refine calls' (n := 51) (rs := #[.cell 4 40]) (l := [D.rv A c, .int .i64 keep]) Try.func42 rfl rfl rfl rfl rfl ?_
  have hX := Ext.refl w
  refine W_seq ?_
  refine W_region ?_
  refine op_box (v := .agg _) rfl rfl ?_
  intro w0_0 b0_0 E0_0 B0_0 L0_0
  have hG0_0 : w.heap.size ≤ b0_0 := by have := hX.size; omega
  replace hX := hX.trans E0_0
  refine op_alloc rfl Try.zero40 ?_
  intro w0_1 b0_1 E0_1 B0_1 L0_1
  have hG0_1 : w.heap.size ≤ b0_1 := by have := hX.size; omega
  have hNb0_0_0_1 : b0_0 ≠ b0_1 := by have := Blk.lt B0_0; omega
  replace B0_0 := Blk.ext B0_0 E0_1
  replace hX := hX.trans E0_1
  refine WL_nil ?_
  refine W_seq ?_
  refine W_seq ?_
  refine W_region ?_
  refine op rfl (r_assignV (v := .int _ _) rfl) ?_
  refine WL_nil ?_
  refine W_block ?_
  refine W_loop [5, 6, 7, 8, 9, 10, 11, 12, 13, 14, 15, 16, 17, 18, 19, 20, 21, 22, 23, 24, 25, 26, 27, 28, 29, 30, 31, 32, 33, 34, 35, 36, 37, 38, 39, 40, 41, 42, 43, 44, 45, 46, 47] (fun q e' w' => ∃ (i : Nat) (Ai : Option Addr) (ci : Nat), q = D.n - i ∧ i ≤ D.n ∧ e' 5 = .int .i64 i ∧ Ext w w' ∧ Blk w' b0_0 ((D.backTo keep i).rc Ai ci) 40 ∧ Blk w' b0_1 rz 40 ∧ RA w' (Av (fun x => x = b0_0 ∨ x = b0_1) F w w') Ai ci (D.backTo keep i)) (D.n) ?_ ?_
  · exact ⟨0, A, c, by omega, by omega, rfl, hX, by rw [backTo_zero]; exact B0_0, B0_1, by rw [backTo_zero]; exact h.init hF hX (fun x q => by rcases q with q | q <;> omega)⟩
  intro k g w' hI
  obtain ⟨i, Ai, ci, hq, hi, h5, hX', B0_0', B0_1', hRA⟩ := hI
  clear hX B0_0 B0_1
  have hX := hX'
  have B0_0 := B0_0'
  have B0_1 := B0_1'
  clear hX' B0_0' B0_1'
  obtain ⟨w1, hw1⟩ : ∃ w1, w1 = w' := ⟨_, rfl⟩
  subst hw1
  have hX0 := hX
  have hl0 := Blk.lt B0_0
  have hl1 := Blk.lt B0_1
  have hni : (D.backTo keep i).n = D.n := rfl
  refine W_set (i := 5) h5 ?_
  refine W_seq ?_
  refine W_seq ?_
  refine W_region ?_
  refine op rfl (r_moveV (v := .int _ _) rfl) ?_
  refine op rfl (r_fieldAddr rfl Try.fld40_0 rfl) ?_
  refine op rfl (r_load (v := .slice _ _ _) rfl Try.underlying38 rfl (Blk.cell B0_0 rfl)) ?_
  refine op rfl (r_len_slice rfl Try.underlying38) ?_
  refine op rfl (r_lss rfl rfl) ?_
  refine WL_nil ?_
  refine W_ifp rfl (fun ht13 => ?_) (fun ht13 => ?_)
  · have hlt : i < D.n := by omega
    have hln := hw.len i hlt
    obtain ⟨g, off, A1, c1, A2, c2, A3, c3, hA, hg, hc1, hr1, hc2, hr2, hc3, hr3, hcell⟩ := hRA.cells (Av.lt hF hX0) (i := i) hlt
    rw [backTo_at] at hc1 hr1 hc2 hr2 hc3 hr3 hcell
    obtain ⟨x1, x2, x3⟩ := hcell _ (Ext.refl _)
    refine W_skip ?_
    refine W_seq ?_
    refine W_block ?_
    refine W_seq ?_
    refine W_region ?_
    refine op rfl (r_fieldAddr rfl Try.fld40_0 rfl) ?_
    refine op rfl (r_load (v := .slice _ _ _) rfl Try.underlying38 rfl (Blk.cell B0_0 rfl)) ?_
    refine op rfl (r_moveV (v := .int _ _) rfl) ?_
    refine op rfl (r_indexAddrN rfl rfl hA Try.underlying38 Try.sz77 (by omega) (by omega)) ?_
    refine op rfl (r_load_agg (cs := [.slice A1 (D.ar i).now.length c1, .slice A2 (D.ar i).lasts.length c2, .slice A3 (D.ar i).pend.length c3]) rfl Try.underlying77 rfl Try.sz77 rfl (fun q hq => match q, hq with | 0, _ => x1 | 1, _ => x2 | 2, _ => x3)) ?_
    refine op_alloc rfl Try.zero77 ?_
    intro w4_5 b4_5 E4_5 B4_5 L4_5
    have hG4_5 : w.heap.size ≤ b4_5 := by have := hX.size; omega
    have hNb0_0_4_5 : b0_0 ≠ b4_5 := by have := Blk.lt B0_0; omega
    replace B0_0 := Blk.ext B0_0 E4_5
    have hNb0_1_4_5 : b0_1 ≠ b4_5 := by have := Blk.lt B0_1; omega
    replace B0_1 := Blk.ext B0_1 E4_5
    replace hX := hX.trans E4_5
    refine op_storeRow rfl rfl Try.sz77 B4_5 rfl rfl ?_
    intro w4_6 C4_6 BB4_6
    replace B0_0 := Chg.blk C4_6 B0_0 hNb0_0_4_5
    replace B0_1 := Chg.blk C4_6 B0_1 hNb0_1_4_5
    replace hX := hX.chg C4_6 hG4_5
    replace B4_5 := BB4_6
    have hXX : Ext w1 w4_6 := Chg.ext E4_5 (Nat.le_of_eq L4_5) C4_6
    refine WL_nil ?_
    refine W_seq ?_
    refine W_region ?_
    refine op rfl (r_fieldAddr rfl Try.fld77_1 rfl) ?_
    refine op rfl (r_load (v := .slice _ _ _) rfl Try.underlying23 rfl (Blk.cell B4_5 rfl)) ?_
    refine op rfl (r_assignV (v := .slice _ _ _) rfl) ?_
    refine WL_nil ?_
    refine W_seq ?_
    refine W_seq ?_
    refine W_region ?_
    refine op rfl (r_assignV (v := .int _ _) rfl) ?_
    refine WL_nil ?_
    refine W_block ?_
    refine W_loop [7, 8, 23, 24, 25, 26, 27, 28, 29, 30, 31, 32, 33, 34, 35, 36, 37, 38, 39, 40, 41] (fun q e'' w'' => ∃ (j : Nat) (Aj : Option Addr) (cj : Nat), q = (D.ar i).pend.length - j ∧ j ≤ (D.ar i).pend.length ∧ j ≤ keep.toNat ∧ e'' 8 = .int .i64 j ∧ e'' 7 = .slice Aj (runs ((D.ar i).pend.take j) (D.ar i).lasts).length cj ∧ (runs ((D.ar i).pend.take j) (D.ar i).lasts).length ≤ cj ∧ Ty.byte.Row w'' (Av (fun x => x = b0_0 ∨ x = b0_1) F w w'') Aj (runs ((D.ar i).pend.take j) (D.ar i).lasts) ∧ Ext w w'' ∧ Ext w1 w'' ∧ Blk w'' b0_0 ((D.backTo keep i).rc Ai ci) 40 ∧ Blk w'' b0_1 rz 40 ∧ Blk w'' b4_5 #[.slice A1 (D.ar i).now.length c1, .slice A2 (D.ar i).lasts.length c2, .slice A3 (D.ar i).pend.length c3] 77) ((D.ar i).pend.length) ?_ ?_
    · exact ⟨0, A2, c2, by omega, by omega, by omega, rfl, rfl, hc2, hr2.keep (fun b hb => hXX.block b (Av.lt hF hX0 b hb)) (fun b hb => ⟨hb.1, Nw.mono hXX b hb.2⟩), hX, hXX, B0_0, B0_1, B4_5⟩
    intro k g w' hI
    obtain ⟨j, Aj, cj, hq2, hj, hjk, h8, h7, hcj, hrj, hX', hXX', B0_0', B0_1', B4_5'⟩ := hI
    clear hX B0_0 B0_1 B4_5 hXX
    have hX := hX'
    have hXX := hXX'
    have B0_0 := B0_0'
    have B0_1 := B0_1'
    have B4_5 := B4_5'
    clear hX' B0_0' B0_1' B4_5' hXX'
    have hXj := hX
    have hrl := runs_len ((D.ar i).pend.take j) (D.ar i).lasts
    have htl : ((D.ar i).pend.take j).length ≤ j := by simp; omega
    refine W_set (i := 8) h8 ?_
    refine W_set (i := 7) h7 ?_
    refine W_seq ?_
    refine W_seq ?_
    refine W_region ?_
    refine op rfl (r_moveV (v := .int _ _) rfl) ?_
    refine op rfl (r_fieldAddr rfl Try.fld77_2 rfl) ?_
    refine op rfl (r_load (v := .slice _ _ _) rfl Try.underlying75 rfl (Blk.cell B4_5 rfl)) ?_
    refine op rfl (r_len_slice rfl Try.underlying75) ?_
    refine op rfl (r_lss rfl rfl) ?_
    refine op_split rfl (r_moveV (v := .bool (decide _)) rfl) (fun hg28 => ?_) (fun hg28 => ?_)
    · refine opG_yes rfl rfl rfl rfl rfl (r_moveV (v := .int _ _) rfl) ?_
      refine opG_yes rfl rfl rfl rfl rfl (r_moveV (v := .int _ _) rfl) ?_
      refine opG_yes rfl rfl rfl rfl rfl (r_lss rfl rfl) ?_
      refine op rfl (r_pickTV (v := .bool _) rfl rfl) ?_
      refine WL_nil ?_
      refine W_ifp rfl (fun ht32 => ?_) (fun ht32 => ?_)
      · have hjl : j < (D.ar i).pend.length := by omega
        obtain ⟨gp, fp, xs, hAp, hgp, hxs, hcp⟩ := hr3.cells (i := j) hjl
        have hxs' : xs = ((D.ar i).pend[j]).c2 := hxs
        subst hxs'
        have hcp' : ∀ q, q < 2 → w'.cell? ⟨gp, fp + (j : Int).toNat * 2 + q, none⟩ = (((D.ar i).pend[j]).c2)[q]? := fun q hq => by
          rw [Below.cell hXX (Av.lt hF hX0 _ hgp)]
          exact hcp q hq
        refine W_skip ?_
        refine W_seq ?_
        refine W_block ?_
        refine W_region ?_
        refine op rfl (r_moveV (v := .slice Aj (runs ((D.ar i).pend.take j) (D.ar i).lasts).length cj) rfl) ?_
        refine op rfl (r_fieldAddr rfl Try.fld77_2 rfl) ?_
        refine op rfl (r_load (v := .slice _ _ _) rfl Try.underlying75 rfl (Blk.cell B4_5 rfl)) ?_
        refine op rfl (r_moveV (v := .int _ _) rfl) ?_
        refine op rfl (r_indexAddrN rfl rfl hAp Try.underlying75 Try.sz88 (by omega) (by omega)) ?_
        refine op rfl (r_load_agg (cs := [.int .u8 (D.ar i).pend[j].c, .int .i64 (D.ar i).pend[j].n]) rfl Try.underlying88 rfl Try.sz88 rfl hcp') ?_
        refine opCv rfl (r_call Try.func47 Try.nm47 rfl) (rdone_spec (D.ar i).pend[j] Aj cj _ _ (valid_ok (hw.val i hlt) hjl) hcj (by omega) (Av.lt hF hX) hrj) ?_
        rintro v w3 ⟨A4, c4, rfl, h4, r4, hE⟩
        replace B0_0 := Blk.ext B0_0 hE
        replace B0_1 := Blk.ext B0_1 hE
        replace B4_5 := Blk.ext B4_5 hE
        replace hX := hX.trans hE
        have hE3 := hE
        refine op rfl (r_assignV (v := .slice A4 (((D.ar i).pend[j]).run (runs ((D.ar i).pend.take j) (D.ar i).lasts)).length c4) rfl) ?_
        refine WL_nil ?_
        refine W_region ?_
        refine op rfl (r_moveV (v := .int _ _) rfl) ?_
        refine op rfl (r_add' rfl rfl (wrap_i64 (by omega) (by omega))) ?_
        refine op rfl (r_assignV (v := .int _ _) rfl) ?_
        refine WL_nil ?_
        refine ⟨?_, by repeat (first | with_reducible exact Out.refl _ _ | with_reducible exact Out.mix | refine Out.put rfl ?_ | refine Out.mixin rfl ?_ | exact Out.refl _ _ | exact Out.mix)⟩
        refine ⟨(D.ar i).pend.length - (j + 1), by omega, j + 1, A4, c4, rfl, by omega, by omega, rfl, ?_, ?_, ?_, hX, hXX.trans hE3, B0_0, B0_1, B4_5⟩
        · rw [← runs_next hjl]; rfl
        · rw [← runs_next hjl]; exact h4
        · rw [← runs_next hjl]
          refine r4.keep (fun _ _ => rfl) (fun b hb => ?_)
          have hsz1 := hXX.size
          rcases hb with hb | hb
          · exact ⟨hb.1, Nw.mono hE3 b hb.2⟩
          · exact ⟨fun q => by rcases q with q | q <;> omega, Or.inr ⟨by have := hXj.size; omega, hb.2⟩⟩
      · refine W_exit (blk_hit ?_)
        refine W_region ?_
        refine op rfl (r_loadRow rfl B0_0 Try.underlying40 rfl Try.sz40) ?_
        refine op rfl (r_moveV (v := .int _ _) rfl) ?_
        refine op rfl (r_moveV (v := .slice Aj (runs ((D.ar i).pend.take j) (D.ar i).lasts).length cj) rfl) ?_
        refine op rfl (r_moveV (v := .slice Aj (runs ((D.ar i).pend.take j) (D.ar i).lasts).length cj) rfl) ?_
        refine op rfl (r_build (cs := [.slice _ _ _, .slice _ _ _, .slice _ _ _]) Try.lay77 (List.forall_mem_cons.2 ⟨rfl, List.forall_mem_cons.2 ⟨rfl, fun _ h => by cases h⟩⟩) rfl rfl) ?_
        have htk : (D.ar i).pend.take j = (D.ar i).pend.take keep.toNat := by
          first
            | (have : j = keep.toNat := by omega
               rw [this])
            | (rw [List.take_of_length_le (by omega), List.take_of_length_le (by omega)])
        rw [htk] at hcj hrj
        have hRA10 := hRA.more (w' := w') hF hX0 hXX
        have hszX := hXX.size
        have sl1 : SL Ty.byte w' (Av (fun x => x = b0_0 ∨ x = b0_1) F w w') (.slice Aj (runs ((D.ar i).pend.take keep.toNat) (D.ar i).lasts).length cj) (runs ((D.ar i).pend.take keep.toNat) (D.ar i).lasts) := ⟨Aj, cj, rfl, hcj, hrj⟩
        have PS := rset_spec (D.backTo keep i) Ai ci i ⟨runs ((D.ar i).pend.take keep.toNat) (D.ar i).lasts, runs ((D.ar i).pend.take keep.toNat) (D.ar i).lasts, []⟩ _ _ (.slice none 0 0) w' (Av.lt hF hX) hRA10 hn8 ⟨by omega, hlt⟩ sl1 sl1 ⟨none, 0, rfl, Nat.le_refl _, Ty.Row.nil⟩
        rw [← htk] at PS
        refine opCv rfl (r_call Try.func46 Try.nm46 rfl) (PS) ?_
        rintro v w9 ⟨A', c', rfl, hRA', hE⟩
        replace B0_0 := Blk.ext B0_0 hE
        replace B0_1 := Blk.ext B0_1 hE
        replace B4_5 := Blk.ext B4_5 hE
        replace hX := hX.trans hE
        have hE9 := hE
        rw [htk] at hRA' ⊢
        refine op_storeRow rfl rfl Try.sz40 B0_0 rfl rfl ?_
        intro w10_6 C10_6 BB10_6
        replace B0_1 := Chg.blk C10_6 B0_1 (fun q => hNb0_0_0_1 q.symm)
        replace B4_5 := Chg.blk C10_6 B4_5 (fun q => hNb0_0_4_5 q.symm)
        replace hX := hX.chg C10_6 hG0_0
        replace B0_0 := BB10_6
        have hRA2 := hRA'.store (w' := w10_6) hF (fun x q => by rcases q with q | q <;> omega) hXj hE9 C10_6 (Or.inl rfl)
        refine WL_nil ?_
        refine W_region ?_
        refine op rfl (r_moveV (v := .int _ _) rfl) ?_
        refine op rfl (r_add' rfl rfl (wrap_i64 (by omega) (by omega))) ?_
        refine op rfl (r_assignV (v := .int _ _) rfl) ?_
        refine WL_nil ?_
        refine ⟨?_, by repeat (first | with_reducible exact Out.refl _ _ | with_reducible exact Out.mix | refine Out.put rfl ?_ | refine Out.mixin rfl ?_ | exact Out.refl _ _ | exact Out.mix)⟩
        exact ⟨D.n - (i + 1), by omega, i + 1, A', c', rfl, by omega, rfl, hX, by rw [← backTo_upd]; exact B0_0, B0_1, by rw [← backTo_upd]; exact hRA2⟩
    · refine opG_no rfl rfl rfl rfl rfl ?_
      refine opG_no rfl rfl rfl rfl rfl ?_
      refine opG_no rfl rfl rfl rfl rfl ?_
      refine op rfl (r_pickFV (v := .bool _) rfl rfl) ?_
      refine WL_nil ?_
      refine W_else rfl ?_
      refine W_exit (blk_hit ?_)
      refine W_region ?_
      refine op rfl (r_loadRow rfl B0_0 Try.underlying40 rfl Try.sz40) ?_
      refine op rfl (r_moveV (v := .int _ _) rfl) ?_
      refine op rfl (r_moveV (v := .slice Aj (runs ((D.ar i).pend.take j) (D.ar i).lasts).length cj) rfl) ?_
      refine op rfl (r_moveV (v := .slice Aj (runs ((D.ar i).pend.take j) (D.ar i).lasts).length cj) rfl) ?_
      refine op rfl (r_build (cs := [.slice _ _ _, .slice _ _ _, .slice _ _ _]) Try.lay77 (List.forall_mem_cons.2 ⟨rfl, List.forall_mem_cons.2 ⟨rfl, fun _ h => by cases h⟩⟩) rfl rfl) ?_
      have htk : (D.ar i).pend.take j = (D.ar i).pend.take keep.toNat := by
        first
          | (have : j = keep.toNat := by omega
             rw [this])
          | (rw [List.take_of_length_le (by omega), List.take_of_length_le (by omega)])
      rw [htk] at hcj hrj
      have hRA10 := hRA.more (w' := w') hF hX0 hXX
      have hszX := hXX.size
      have sl1 : SL Ty.byte w' (Av (fun x => x = b0_0 ∨ x = b0_1) F w w') (.slice Aj (runs ((D.ar i).pend.take keep.toNat) (D.ar i).lasts).length cj) (runs ((D.ar i).pend.take keep.toNat) (D.ar i).lasts) := ⟨Aj, cj, rfl, hcj, hrj⟩
      have PS := rset_spec (D.backTo keep i) Ai ci i ⟨runs ((D.ar i).pend.take keep.toNat) (D.ar i).lasts, runs ((D.ar i).pend.take keep.toNat) (D.ar i).lasts, []⟩ _ _ (.slice none 0 0) w' (Av.lt hF hX) hRA10 hn8 ⟨by omega, hlt⟩ sl1 sl1 ⟨none, 0, rfl, Nat.le_refl _, Ty.Row.nil⟩
      rw [← htk] at PS
      refine opCv rfl (r_call Try.func46 Try.nm46 rfl) (PS) ?_
      rintro v w9 ⟨A', c', rfl, hRA', hE⟩
      replace B0_0 := Blk.ext B0_0 hE
      replace B0_1 := Blk.ext B0_1 hE
      replace B4_5 := Blk.ext B4_5 hE
      replace hX := hX.trans hE
      have hE9 := hE
      rw [htk] at hRA' ⊢
      refine op_storeRow rfl rfl Try.sz40 B0_0 rfl rfl ?_
      intro w10_6 C10_6 BB10_6
      replace B0_1 := Chg.blk C10_6 B0_1 (fun q => hNb0_0_0_1 q.symm)
      replace B4_5 := Chg.blk C10_6 B4_5 (fun q => hNb0_0_4_5 q.symm)
      replace hX := hX.chg C10_6 hG0_0
      replace B0_0 := BB10_6
      have hRA2 := hRA'.store (w' := w10_6) hF (fun x q => by rcases q with q | q <;> omega) hXj hE9 C10_6 (Or.inl rfl)
      refine WL_nil ?_
      refine W_region ?_
      refine op rfl (r_moveV (v := .int _ _) rfl) ?_
      refine op rfl (r_add' rfl rfl (wrap_i64 (by omega) (by omega))) ?_
      refine op rfl (r_assignV (v := .int _ _) rfl) ?_
      refine WL_nil ?_
      refine ⟨?_, by repeat (first | with_reducible exact Out.refl _ _ | with_reducible exact Out.mix | refine Out.put rfl ?_ | refine Out.mixin rfl ?_ | exact Out.refl _ _ | exact Out.mix)⟩
      exact ⟨D.n - (i + 1), by omega, i + 1, A', c', rfl, by omega, rfl, hX, by rw [← backTo_upd]; exact B0_0, B0_1, by rw [← backTo_upd]; exact hRA2⟩
  · obtain rfl : i = D.n := by omega
    refine W_exit (blk_hit ?_)
    refine W_seq ?_
    refine W_region ?_
    refine op rfl (r_fieldAddr rfl Try.fld40_2 rfl) ?_
    refine op_store (v := .bool _) rfl rfl rfl Try.sz4 B0_0 (Nat.le_of_ble_eq_true rfl) ?_
    intro w11_1 C11_1 BB11_1
    replace B0_1 := Chg.blk C11_1 B0_1 (fun q => hNb0_0_0_1 q.symm)
    replace hX := hX.chg C11_1 hG0_0
    replace B0_0 := BB11_1
    refine WL_nil ?_
    refine W_seq ?_
    refine W_region ?_
    refine op rfl (r_fieldAddr rfl Try.fld40_4 rfl) ?_
    refine op_store (v := .bool _) rfl rfl rfl Try.sz4 B0_0 (Nat.le_of_ble_eq_true rfl) ?_
    intro w12_1 C12_1 BB12_1
    replace B0_1 := Chg.blk C12_1 B0_1 (fun q => hNb0_0_0_1 q.symm)
    replace hX := hX.chg C12_1 hG0_0
    replace B0_0 := BB12_1
    refine WL_nil ?_
    refine W_seq ?_
    refine W_region ?_
    refine op rfl (r_loadRow rfl B0_0 Try.underlying40 rfl Try.sz40) ?_
    refine op_storeRow rfl rfl Try.sz40 B0_1 rfl rfl ?_
    intro w13_1 C13_1 BB13_1
    replace B0_0 := Chg.blk C13_1 B0_0 hNb0_0_0_1
    replace hX := hX.chg C13_1 hG0_1
    replace B0_1 := BB13_1
    refine WL_nil ?_
    refine W_ret (finX_ret ?_)
    refine fin_cell rfl B0_1 Try.underlying40 rfl Try.sz40 ?_
    have e1 := hRA.put hF hX0 C11_1 (Or.inl rfl)
    have x1 := hX0.chg C11_1 hG0_0
    have e2 := e1.put hF x1 C12_1 (Or.inl rfl)
    have x2 := Chg.ext x1 hG0_0 C12_1
    have e3 := e2.put hF x2 C13_1 (Or.inr rfl)
    rw [← backTo_n]
    exact ⟨_, rfl, Ai, ci, rfl, e3.av.eq rfl rfl, hX⟩
/-- What may be done. -/
structure Do where
  k : Int
  a : Int
  n : Int
  b : List UInt8
def Dk.does (D : Dk) (o : Do) : Dk × Int :=
  if o.k = 1 then D.append o.a o.b else if o.k = 2 then D.cut o.a o.n else if o.k = 3 then D.sync o.a else if o.k = 4 then (D.arm o.n, 0) else if o.k = 5 then (D.restart o.n, 0) else (D, 0)
def Dk.rdoes (D : Dk) (o : Do) : Dk × Int :=
  if o.k = 1 then D.rappend o.a o.b else if o.k = 2 then D.rcut o.a o.n else if o.k = 3 then D.rsync o.a else if o.k = 4 then (D.arm o.n, 0) else if o.k = 5 then (D.restart o.n, 0) else (D, 0)
theorem rstep_spec (D : Dk) (A : Option Addr) (c : Nat) (o : Do) (Ab : Option Addr) (cb : Nat) (w : World) {F : Nat → Prop} (hF : ∀ x, F x → x < w.heap.size) (h : RA w F A c D) {k : Nat} (hw : WF D k) (hk : k ≤ 536870912) (hbl : o.b.length ≤ 140737488355328)
    {G : Nat → Prop} (hG : ∀ x, G x → x < w.heap.size) (hb : Ty.byte.Row w G Ab o.b) :
    Calls Try.prog 27 #[D.rv A c, .agg #[.int .i64 o.k, .int .i64 o.a, .int .i64 o.n, .slice Ab o.b.length cb]] w (fun en w' => ∃ v, en = .returned v ∧ ∃ A' c', v = .tuple #[(D.rdoes o).1.rv A' c', .int .i64 (D.rdoes o).2] ∧ RA w' (Nw F w w') A' c' (D.rdoes o).1 ∧ Ext w w') := by
  refine calls' (n := 49) (rs := #[.cell 4 40, .tmp 5]) (l := [D.rv A c, .agg #[.int .i64 o.k, .int .i64 o.a, .int .i64 o.n, .slice Ab o.b.length cb]]) Try.func27 rfl rfl rfl rfl rfl ?_
  have hX := Ext.refl w
  refine W_seq ?_
  refine W_region ?_
  refine op_box (v := .agg _) rfl rfl ?_
  intro w0_0 b0_0 E0_0 B0_0 L0_0
  have hG0_0 : w.heap.size ≤ b0_0 := by have := hX.size; omega
  replace hX := hX.trans E0_0
  refine op_box (v := .agg _) rfl rfl ?_
  intro w0_1 b0_1 E0_1 B0_1 L0_1
  have hG0_1 : w.heap.size ≤ b0_1 := by have := hX.size; omega
  have hNb0_0_0_1 : b0_0 ≠ b0_1 := by have := Blk.lt B0_0; omega
  replace B0_0 := Blk.ext B0_0 E0_1
  replace hX := hX.trans E0_1
  refine op_alloc rfl Try.zero40 ?_
  intro w0_2 b0_2 E0_2 B0_2 L0_2
  have hG0_2 : w.heap.size ≤ b0_2 := by have := hX.size; omega
  have hNb0_0_0_2 : b0_0 ≠ b0_2 := by have := Blk.lt B0_0; omega
  replace B0_0 := Blk.ext B0_0 E0_2
  have hNb0_1_0_2 : b0_1 ≠ b0_2 := by have := Blk.lt B0_1; omega
  replace B0_1 := Blk.ext B0_1 E0_2
  replace hX := hX.trans E0_2
  refine op rfl (r_assignV (v := .int _ _) rfl) ?_
  refine WL_nil ?_
  refine W_seq ?_
  refine W_seq ?_
  refine W_region ?_
  refine op rfl (r_fieldAddr rfl Try.fld51_0 rfl) ?_
  refine op rfl (r_load (v := .int _ _) rfl Try.underlying3 rfl (Blk.cell B0_1 rfl)) ?_
  refine WL_nil ?_
  refine W_block ?_
  refine W_seq ?_
  refine W_region ?_
  refine op rfl (r_eql rfl rfl) ?_
  refine op rfl (r_assignV (v := .bool _) rfl) ?_
  refine WL_nil ?_
  refine W_ifp rfl (fun ht8 => ?_) (fun ht8 => ?_)
  · refine W_seq ?_
    refine W_region ?_
    refine op rfl (r_loadRow rfl B0_0 Try.underlying40 rfl Try.sz40) ?_
    refine op rfl (r_fieldAddr rfl Try.fld51_1 rfl) ?_
    refine op rfl (r_load (v := .int _ _) rfl Try.underlying3 rfl (Blk.cell B0_1 rfl)) ?_
    refine op rfl (r_fieldAddr rfl Try.fld51_3 rfl) ?_
    refine op rfl (r_load (v := .slice _ _ _) rfl Try.underlying23 rfl (Blk.cell B0_1 rfl)) ?_
    have hX5 := hX
    have hRA5 := h.init (X := fun x => x = b0_2) hF hX (fun x q => by subst q; exact hG0_2)
    have hl2 := Blk.lt B0_2
    refine opCv rfl (r_call Try.func38 Try.nm38 rfl) (rappend_spec D A c o.a Ab cb o.b _ (Av.lt hF hX) hRA5 hw hk hbl (fun x hx ↦ Nat.lt_of_lt_of_le (hG x hx) hX.size) (Row.fext hb hG hX)) ?_
    rintro v w5 ⟨A', c', rfl, hRA', hE⟩
    replace B0_0 := Blk.ext B0_0 hE
    replace B0_1 := Blk.ext B0_1 hE
    replace B0_2 := Blk.ext B0_2 hE
    replace hX := hX.trans hE
    have hE5 := hE
    refine op rfl (r_extract (vs := [(D.rappend o.a o.b).1.rv A' c', .int .i64 (D.rappend o.a o.b).2]) rfl rfl) ?_
    refine op rfl (r_extract (vs := [(D.rappend o.a o.b).1.rv A' c', .int .i64 (D.rappend o.a o.b).2]) rfl rfl) ?_
    refine op_storeRow rfl rfl Try.sz40 B0_2 rfl rfl ?_
    intro w3_8 C3_8 BB3_8
    replace B0_0 := Chg.blk C3_8 B0_0 hNb0_0_0_2
    replace B0_1 := Chg.blk C3_8 B0_1 hNb0_1_0_2
    replace hX := hX.chg C3_8 hG0_2
    replace B0_2 := BB3_8
    have hRA2 := hRA'.store (w' := w3_8) hF (fun x q => by subst q; exact hl2) hX5 hE5 C3_8 rfl
    have hdo : D.rdoes o = D.rappend o.a o.b := by unfold Dk.rdoes; rw [if_pos ht8]
    refine op rfl (r_assignV (v := .int .i64 (D.rappend o.a o.b).2) rfl) ?_
    refine WL_nil ?_
    refine W_ret (blk_ret (finX_ret ?_))
    refine fin_cell1 rfl B0_2 Try.underlying40 rfl Try.sz40 ?_
    first
      | (rw [hdo]
         exact ⟨_, rfl, A', c', rfl, hRA2.av, hX⟩)
      | (have hdo : D.rdoes o = (D, 0) := by unfold Dk.rdoes; rw [if_neg ht8, if_neg ht18, if_neg ht28, if_neg ht36, if_neg ht42]
         rw [hdo]
         exact ⟨_, rfl, A, c, rfl, (h.ext hF hX).keep (fun _ _ => rfl) (fun b hb => Or.inl hb), hX⟩)
  · refine W_seq ?_
    refine W_region ?_
    refine op rfl (r_eql rfl rfl) ?_
    refine op rfl (r_assignV (v := .bool _) rfl) ?_
    refine WL_nil ?_
    refine W_ifp rfl (fun ht18 => ?_) (fun ht18 => ?_)
    · refine W_seq ?_
      refine W_region ?_
      refine op rfl (r_loadRow rfl B0_0 Try.underlying40 rfl Try.sz40) ?_
      refine op rfl (r_fieldAddr rfl Try.fld51_1 rfl) ?_
      refine op rfl (r_load (v := .int _ _) rfl Try.underlying3 rfl (Blk.cell B0_1 rfl)) ?_
      refine op rfl (r_fieldAddr rfl Try.fld51_2 rfl) ?_
      refine op rfl (r_load (v := .int _ _) rfl Try.underlying3 rfl (Blk.cell B0_1 rfl)) ?_
      have hX5 := hX
      have hRA5 := h.init (X := fun x => x = b0_2) hF hX (fun x q => by subst q; exact hG0_2)
      have hl2 := Blk.lt B0_2
      refine opCv rfl (r_call Try.func39 Try.nm39 rfl) (rcut_spec D A c o.a o.n _ (Av.lt hF hX) hRA5 hw hk) ?_
      rintro v w5 ⟨A', c', rfl, hRA', hE⟩
      replace B0_0 := Blk.ext B0_0 hE
      replace B0_1 := Blk.ext B0_1 hE
      replace B0_2 := Blk.ext B0_2 hE
      replace hX := hX.trans hE
      have hE5 := hE
      refine op rfl (r_extract (vs := [(D.rcut o.a o.n).1.rv A' c', .int .i64 (D.rcut o.a o.n).2]) rfl rfl) ?_
      refine op rfl (r_extract (vs := [(D.rcut o.a o.n).1.rv A' c', .int .i64 (D.rcut o.a o.n).2]) rfl rfl) ?_
      refine op_storeRow rfl rfl Try.sz40 B0_2 rfl rfl ?_
      intro w5_8 C5_8 BB5_8
      replace B0_0 := Chg.blk C5_8 B0_0 hNb0_0_0_2
      replace B0_1 := Chg.blk C5_8 B0_1 hNb0_1_0_2
      replace hX := hX.chg C5_8 hG0_2
      replace B0_2 := BB5_8
      have hRA2 := hRA'.store (w' := w5_8) hF (fun x q => by subst q; exact hl2) hX5 hE5 C5_8 rfl
      have hdo : D.rdoes o = D.rcut o.a o.n := by unfold Dk.rdoes; rw [if_neg ht8, if_pos ht18]
      refine op rfl (r_assignV (v := .int .i64 (D.rcut o.a o.n).2) rfl) ?_
      refine WL_nil ?_
      refine W_ret (blk_ret (finX_ret ?_))
      refine fin_cell1 rfl B0_2 Try.underlying40 rfl Try.sz40 ?_
      first
        | (rw [hdo]
           exact ⟨_, rfl, A', c', rfl, hRA2.av, hX⟩)
        | (have hdo : D.rdoes o = (D, 0) := by unfold Dk.rdoes; rw [if_neg ht8, if_neg ht18, if_neg ht28, if_neg ht36, if_neg ht42]
           rw [hdo]
           exact ⟨_, rfl, A, c, rfl, (h.ext hF hX).keep (fun _ _ => rfl) (fun b hb => Or.inl hb), hX⟩)
    · refine W_seq ?_
      refine W_region ?_
      refine op rfl (r_eql rfl rfl) ?_
      refine op rfl (r_assignV (v := .bool _) rfl) ?_
      refine WL_nil ?_
      refine W_ifp rfl (fun ht28 => ?_) (fun ht28 => ?_)
      · refine W_seq ?_
        refine W_region ?_
        refine op rfl (r_loadRow rfl B0_0 Try.underlying40 rfl Try.sz40) ?_
        refine op rfl (r_fieldAddr rfl Try.fld51_1 rfl) ?_
        refine op rfl (r_load (v := .int _ _) rfl Try.underlying3 rfl (Blk.cell B0_1 rfl)) ?_
        have hX5 := hX
        have hRA5 := h.init (X := fun x => x = b0_2) hF hX (fun x q => by subst q; exact hG0_2)
        have hl2 := Blk.lt B0_2
        refine opCv rfl (r_call Try.func40 Try.nm40 rfl) (rsync_spec D A c o.a _ (Av.lt hF hX) hRA5 hw hk) ?_
        rintro v w5 ⟨A', c', rfl, hRA', hE⟩
        replace B0_0 := Blk.ext B0_0 hE
        replace B0_1 := Blk.ext B0_1 hE
        replace B0_2 := Blk.ext B0_2 hE
        replace hX := hX.trans hE
        have hE5 := hE
        refine op rfl (r_extract (vs := [(D.rsync o.a).1.rv A' c', .int .i64 (D.rsync o.a).2]) rfl rfl) ?_
        refine op rfl (r_extract (vs := [(D.rsync o.a).1.rv A' c', .int .i64 (D.rsync o.a).2]) rfl rfl) ?_
        refine op_storeRow rfl rfl Try.sz40 B0_2 rfl rfl ?_
        intro w7_6 C7_6 BB7_6
        replace B0_0 := Chg.blk C7_6 B0_0 hNb0_0_0_2
        replace B0_1 := Chg.blk C7_6 B0_1 hNb0_1_0_2
        replace hX := hX.chg C7_6 hG0_2
        replace B0_2 := BB7_6
        have hRA2 := hRA'.store (w' := w7_6) hF (fun x q => by subst q; exact hl2) hX5 hE5 C7_6 rfl
        have hdo : D.rdoes o = D.rsync o.a := by unfold Dk.rdoes; rw [if_neg ht8, if_neg ht18, if_pos ht28]
        refine op rfl (r_assignV (v := .int .i64 (D.rsync o.a).2) rfl) ?_
        refine WL_nil ?_
        refine W_ret (blk_ret (finX_ret ?_))
        refine fin_cell1 rfl B0_2 Try.underlying40 rfl Try.sz40 ?_
        first
          | (rw [hdo]
             exact ⟨_, rfl, A', c', rfl, hRA2.av, hX⟩)
          | (have hdo : D.rdoes o = (D, 0) := by unfold Dk.rdoes; rw [if_neg ht8, if_neg ht18, if_neg ht28, if_neg ht36, if_neg ht42]
             rw [hdo]
             exact ⟨_, rfl, A, c, rfl, (h.ext hF hX).keep (fun _ _ => rfl) (fun b hb => Or.inl hb), hX⟩)
      · refine W_seq ?_
        refine W_region ?_
        refine op rfl (r_eql rfl rfl) ?_
        refine op rfl (r_assignV (v := .bool _) rfl) ?_
        refine WL_nil ?_
        refine W_ifp rfl (fun ht36 => ?_) (fun ht36 => ?_)
        · refine W_seq ?_
          refine W_region ?_
          refine op rfl (r_loadRow rfl B0_0 Try.underlying40 rfl Try.sz40) ?_
          refine op rfl (r_fieldAddr rfl Try.fld51_2 rfl) ?_
          refine op rfl (r_load (v := .int _ _) rfl Try.underlying3 rfl (Blk.cell B0_1 rfl)) ?_
          have hX5 := hX
          have hRA5 := h.init (X := fun x => x = b0_2) hF hX (fun x q => by subst q; exact hG0_2)
          have hl2 := Blk.lt B0_2
          refine opCv rfl (r_call Try.func41 Try.nm41 rfl) (rarm_spec D A c o.n _ (Av.lt hF hX) hRA5) ?_
          rintro v w5 ⟨A', c', rfl, hRA', hE⟩
          replace B0_0 := Blk.ext B0_0 hE
          replace B0_1 := Blk.ext B0_1 hE
          replace B0_2 := Blk.ext B0_2 hE
          replace hX := hX.trans hE
          have hE5 := hE
          refine op_storeRow rfl rfl Try.sz40 B0_2 rfl rfl ?_
          intro w9_4 C9_4 BB9_4
          replace B0_0 := Chg.blk C9_4 B0_0 hNb0_0_0_2
          replace B0_1 := Chg.blk C9_4 B0_1 hNb0_1_0_2
          replace hX := hX.chg C9_4 hG0_2
          replace B0_2 := BB9_4
          have hRA2 := hRA'.store (w' := w9_4) hF (fun x q => by subst q; exact hl2) hX5 hE5 C9_4 rfl
          have hdo : D.rdoes o = (D.arm o.n, 0) := by unfold Dk.rdoes; rw [if_neg ht8, if_neg ht18, if_neg ht28, if_pos ht36]
          refine op rfl (r_assignV (v := .int _ _) rfl) ?_
          refine WL_nil ?_
          refine W_ret (blk_ret (finX_ret ?_))
          refine fin_cell1 rfl B0_2 Try.underlying40 rfl Try.sz40 ?_
          first
            | (rw [hdo]
               exact ⟨_, rfl, A', c', rfl, hRA2.av, hX⟩)
            | (have hdo : D.rdoes o = (D, 0) := by unfold Dk.rdoes; rw [if_neg ht8, if_neg ht18, if_neg ht28, if_neg ht36, if_neg ht42]
               rw [hdo]
               exact ⟨_, rfl, A, c, rfl, (h.ext hF hX).keep (fun _ _ => rfl) (fun b hb => Or.inl hb), hX⟩)
        · refine W_seq ?_
          refine W_region ?_
          refine op rfl (r_eql rfl rfl) ?_
          refine op rfl (r_assignV (v := .bool _) rfl) ?_
          refine WL_nil ?_
          refine W_ifp rfl (fun ht42 => ?_) (fun ht42 => ?_)
          · refine W_seq ?_
            refine W_region ?_
            refine op rfl (r_loadRow rfl B0_0 Try.underlying40 rfl Try.sz40) ?_
            refine op rfl (r_fieldAddr rfl Try.fld51_2 rfl) ?_
            refine op rfl (r_load (v := .int _ _) rfl Try.underlying3 rfl (Blk.cell B0_1 rfl)) ?_
            have hX5 := hX
            have hRA5 := h.init (X := fun x => x = b0_2) hF hX (fun x q => by subst q; exact hG0_2)
            have hl2 := Blk.lt B0_2
            refine opCv rfl (r_call Try.func42 Try.nm42 rfl) (rrestart_spec D A c o.n _ (Av.lt hF hX) hRA5 hw (by omega)) ?_
            rintro v w5 ⟨A', c', rfl, hRA', hE⟩
            replace B0_0 := Blk.ext B0_0 hE
            replace B0_1 := Blk.ext B0_1 hE
            replace B0_2 := Blk.ext B0_2 hE
            replace hX := hX.trans hE
            have hE5 := hE
            refine op_storeRow rfl rfl Try.sz40 B0_2 rfl rfl ?_
            intro w11_4 C11_4 BB11_4
            replace B0_0 := Chg.blk C11_4 B0_0 hNb0_0_0_2
            replace B0_1 := Chg.blk C11_4 B0_1 hNb0_1_0_2
            replace hX := hX.chg C11_4 hG0_2
            replace B0_2 := BB11_4
            have hRA2 := hRA'.store (w' := w11_4) hF (fun x q => by subst q; exact hl2) hX5 hE5 C11_4 rfl
            have hdo : D.rdoes o = (D.restart o.n, 0) := by unfold Dk.rdoes; rw [if_neg ht8, if_neg ht18, if_neg ht28, if_neg ht36, if_pos ht42]
            refine op rfl (r_assignV (v := .int _ _) rfl) ?_
            refine WL_nil ?_
            refine W_ret (blk_ret (finX_ret ?_))
            refine fin_cell1 rfl B0_2 Try.underlying40 rfl Try.sz40 ?_
            first
              | (rw [hdo]
                 exact ⟨_, rfl, A', c', rfl, hRA2.av, hX⟩)
              | (have hdo : D.rdoes o = (D, 0) := by unfold Dk.rdoes; rw [if_neg ht8, if_neg ht18, if_neg ht28, if_neg ht36, if_neg ht42]
                 rw [hdo]
                 exact ⟨_, rfl, A, c, rfl, (h.ext hF hX).keep (fun _ _ => rfl) (fun b hb => Or.inl hb), hX⟩)
          · refine W_skip ?_
            refine W_seq ?_
            refine W_region ?_
            refine op rfl (r_loadRow rfl B0_0 Try.underlying40 rfl Try.sz40) ?_
            refine op_storeRow rfl rfl Try.sz40 B0_2 rfl rfl ?_
            intro w12_1 C12_1 BB12_1
            replace B0_0 := Chg.blk C12_1 B0_0 hNb0_0_0_2
            replace B0_1 := Chg.blk C12_1 B0_1 hNb0_1_0_2
            replace hX := hX.chg C12_1 hG0_2
            replace B0_2 := BB12_1
            refine op rfl (r_assignV (v := .int _ _) rfl) ?_
            refine WL_nil ?_
            refine W_ret (finX_ret ?_)
            refine fin_cell1 rfl B0_2 Try.underlying40 rfl Try.sz40 ?_
            first
              | (rw [hdo]
                 exact ⟨_, rfl, A', c', rfl, hRA2.av, hX⟩)
              | (have hdo : D.rdoes o = (D, 0) := by unfold Dk.rdoes; rw [if_neg ht8, if_neg ht18, if_neg ht28, if_neg ht36, if_neg ht42]
                 rw [hdo]
                 exact ⟨_, rfl, A, c, rfl, (h.ext hF hX).keep (fun _ _ => rfl) (fun b hb => Or.inl hb), hX⟩)
end Go.Proofs.Ytfgffaphpedimaa
