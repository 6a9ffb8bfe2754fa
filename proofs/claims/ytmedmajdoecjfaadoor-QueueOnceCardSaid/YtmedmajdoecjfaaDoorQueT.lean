/-
  The walks of package queue: Step.
-/
import Derived.Test.YtmedmajdoecjfaaDoorFacts
import Derived.Test.YtmedmajdoecjfaaDoorQueS
namespace Go.Proofs.YtmedmajdoecjfaaDoor
open Go Go.Eng Go.RowKit Go.Proofs
set_option linter.unusedVariables false
set_option linter.unusedSimpArgs false
set_option maxHeartbeats 1000000
set_option maxRecDepth 20000

/-- A world as it was made of the first blocks of one. -/
theorem exists_cut (w : World) {n : Nat} (h : n ≤ w.heap.size) : ∃ wB : World, Ext wB w ∧ wB.heap.size = n := by
  refine ⟨{ w with heap := w.heap.extract 0 n }, ⟨rfl, rfl, rfl, ?_, fun k hk => ?_⟩, ?_⟩
  · show (w.heap.extract 0 n).size ≤ _; simp; omega
  · have hk' : k < n := by have : k < (w.heap.extract 0 n).size := hk; simp at this; omega
    show _ = (w.heap.extract 0 n)[k]?
    rw [Array.getElem?_extract]
    simp [hk']
    omega
  · show (w.heap.extract 0 n).size = n; simp; omega
theorem Mv.cut {Z : Nat → Prop} {w a b wB : World} (hM : Mv Z w a) (h1 : Ext wB a) (h2 : Ext wB b) (hs : wB.heap.size = w.heap.size) : Mv Z w b :=
  ⟨(h2.os.trans h1.os.symm).trans hM.os, (h2.tape.trans h1.tape.symm).trans hM.tape, (h2.output.trans h1.output.symm).trans hM.output, by have := h2.size; omega, fun k hk hn => ((h2.block k (by omega)).trans (h1.block k (by omega)).symm).trans (hM.block k hk hn)⟩
theorem take_nil_spec {pq cw : Nat} {Aw : Option Addr} {x0 x2 x3 : Value} {w : World} (hbq : Blk w pq #[x0, .slice Aw 0 cw, x2, x3] 113) :
    Calls Tryd.prog 49 #[.pointer (some ⟨pq, 1, none⟩)] w (fun en w' => ∃ u, en = .returned u ∧ u = .tuple #[.agg #[.int .i64 0, .int .i64 0, .slice none 0 0], .bool false] ∧ Ext w w') := by
  refine calls' (n := 27) (rs := #[.cell 2 41, .tmp 3]) (l := [.pointer (some ⟨pq, 1, none⟩)]) Tryd.func49 rfl rfl rfl rfl rfl ?_
  have hX := Ext.refl w
  refine W_seq ?_
  refine W_region ?_
  refine op_alloc rfl Tryd.zero41 ?_
  intro w0_0 b0_0 E0_0 B0_0 L0_0
  have hG0_0 : w.heap.size ≤ b0_0 := by have := hX.size; omega
  replace hX := hX.trans E0_0
  refine op rfl (r_assignV (v := .bool _) rfl) ?_
  refine WL_nil ?_
  refine W_seq ?_
  refine W_seq ?_
  refine W_region ?_
  refine op rfl (r_moveV (v := .pointer _) rfl) ?_
  refine op rfl (r_nilCheck rfl) ?_
  refine op rfl (r_fieldAddr rfl Tryd.fld111_0 rfl) ?_
  refine op rfl (r_load (v := .slice Aw 0 cw) rfl Tryd.underlying82 rfl (Blk.cell (Blk.ext hbq hX) rfl)) ?_
  refine op rfl (r_len_slice rfl Tryd.underlying82) ?_
  refine op rfl (r_eql rfl rfl) ?_
  refine WL_nil ?_
  refine W_ifp rfl (fun ht9 => ?_) (fun ht9 => ?_)
  · refine W_seq ?_
    refine W_region ?_
    refine op rfl (r_loadRow rfl B0_0 Tryd.underlying41 rfl Tryd.sz41) ?_
    refine op_storeRow rfl rfl Tryd.sz41 B0_0 rfl rfl ?_
    intro w2_1 C2_1 BB2_1
    replace hX := hX.chg C2_1 hG0_0
    replace B0_0 := BB2_1
    refine op rfl (r_assignV (v := .bool _) rfl) ?_
    refine WL_nil ?_
    refine W_ret (finX_ret ?_)
    refine fin_cell1 rfl B0_0 Tryd.underlying41 rfl Tryd.sz41 ?_
    exact ⟨_, rfl, rfl, hX⟩
  · exact absurd rfl ht9
theorem take_cons_spec {pq cw : Nat} {Aw : Option Addr} {x0 x2 x3 : Value} {F : Nat → Prop} {w : World} {r : Rq} {ws : List Rq} (hbq : Blk w pq #[x0, .slice Aw (ws.length + 1) cw, x2, x3] 113) (hO : Eng.Own rqT w F 0 41 (.slice Aw (ws.length + 1) cw) (r :: ws)) (hF : ∀ b, F b → b < w.heap.size ∧ b ≠ pq) (hvq : (Value.slice Aw (ws.length + 1) cw).ownBlock ≠ some pq) (hl : ws.length ≤ 100) :
    Calls Tryd.prog 49 #[.pointer (some ⟨pq, 1, none⟩)] w (fun en w' => ∃ u, en = .returned u ∧ ∃ A c v', u = .tuple #[.agg #[.int .i64 r.id, .int .i64 r.base, .slice A r.l.length c], .bool true] ∧ rqT.R w' F r [.int .i64 r.id, .int .i64 r.base, .slice A r.l.length c] ∧ Blk w' pq #[x0, v', x2, x3] 113 ∧ Eng.Own rqT w' F w.heap.size 41 v' ws ∧ Mv (fun b => b = pq) w w') := by
  obtain ⟨rs0, hal0, hOr⟩ := hO.raw
  obtain ⟨r0, rs, rfl⟩ : ∃ a b, rs0 = a :: b := by
    cases rs0 with
    | nil => exact hal0.elim
    | cons a b => exact ⟨a, b, rfl⟩
  obtain ⟨hR0, hal⟩ := hal0
  have hlen := hal.len
  obtain ⟨Ax, cx, hex, hcx, hrow⟩ := hOr.read
  simp only [Value.slice.injEq] at hex
  obtain ⟨rfl, hlx, rfl⟩ := hex
  obtain ⟨A, c, rfl, hid, hba, hc1, hc2, hdr⟩ := rq_cells hR0
  obtain ⟨g, off, xs, hA, hg, hxs, hcell⟩ := hrow.cells (i := 0) (by simp)
  obtain ⟨rfl, -⟩ := hxs
  have hpql := Blk.lt hbq
  have hrF : ∀ b, ((fun _ => False) b ∨ (Value.slice Aw (ws.length + 1) cw).ownBlock = some b) → b < w.heap.size := fun b hb => hb.elim (fun q => q.elim) (fun q => (hO.lt q).2)
  have hcell' : ∀ j, j < 3 → w.cell? ⟨g, off + 0 * 3 + j, none⟩ = [Value.int .i64 r.id, .int .i64 r.base, .slice A r.l.length c][j]? := hcell
  have hdrop : (rawT 3).Row w _ (cutA Aw cw 1 3) rs := Ty.Row.drop (k := 1) hrow hcx
  have hcl : ∀ W, Ext w W → Calls Tryd.prog 68 #[.slice (cutA Aw cw 1 3) (ws.length + 1 - 1) (cw - 1)] W (fun en w'' => ∃ v, en = .returned v ∧ Ext W w'' ∧ Eng.Own (rawT 3) w'' nobody W.heap.size 41 v rs) := fun W he => by
    have := cloneR_spec (cutA Aw cw 1 3) (cw - 1) rs W (by omega) (fun b hb => Nat.lt_of_lt_of_le (hrF b hb) he.size) (hdrop.keep (fun b hb => he.block b (hrF b hb)) (fun _ h => h))
    rw [show ws.length + 1 - 1 = rs.length by omega]; exact this
  refine calls' (n := 27) (rs := #[.cell 2 41, .tmp 3]) (l := [.pointer (some ⟨pq, 1, none⟩)]) Tryd.func49 rfl rfl rfl rfl rfl ?_
  have hX := Ext.refl w
  refine W_seq ?_
  refine W_region ?_
  refine op_alloc rfl Tryd.zero41 ?_
  intro w0_0 b0_0 E0_0 B0_0 L0_0
  have hG0_0 : w.heap.size ≤ b0_0 := by have := hX.size; omega
  replace hX := hX.trans E0_0
  refine op rfl (r_assignV (v := .bool _) rfl) ?_
  refine WL_nil ?_
  refine W_seq ?_
  refine W_seq ?_
  refine W_region ?_
  refine op rfl (r_moveV (v := .pointer _) rfl) ?_
  refine op rfl (r_nilCheck rfl) ?_
  refine op rfl (r_fieldAddr rfl Tryd.fld111_0 rfl) ?_
  refine op rfl (r_load (v := .slice Aw (ws.length + 1) cw) rfl Tryd.underlying82 rfl (Blk.cell (Blk.ext hbq hX) rfl)) ?_
  refine op rfl (r_len_slice rfl Tryd.underlying82) ?_
  refine op rfl (r_eql rfl rfl) ?_
  refine WL_nil ?_
  refine W_ifp rfl (fun ht9 => ?_) (fun ht9 => ?_)
  · omega
  · refine W_skip ?_
    refine W_seq ?_
    refine W_drawA Tryd.wd rfl ?_
    intro wd3 hD
    have hS : anyW wd3 := trivial
    replace B0_0 := Blk.ext B0_0 hD
    replace hX := hX.trans hD
    refine A_take (i := 0) rfl (by kernel_rfl) (by kernel_rfl) (by kernel_rfl) rfl hS (fun _ hw => r_moveV (v := .pointer _) rfl) ?_
    refine A_take (i := 1) rfl (by kernel_rfl) (by kernel_rfl) (by kernel_rfl) rfl hS (fun _ hw => r_moveV (v := .pointer _) rfl) ?_
    refine A_take (i := 2) rfl (by kernel_rfl) (by kernel_rfl) (by kernel_rfl) rfl hS (fun _ hw => r_nilCheck rfl) ?_
    refine A_take (i := 3) rfl (by kernel_rfl) (by kernel_rfl) (by kernel_rfl) rfl hS (fun _ hw => r_fieldAddr rfl Tryd.fld111_0 rfl) ?_
    refine A_take (i := 7) rfl (by kernel_rfl) (by kernel_rfl) (by kernel_rfl) rfl hS (fun _ hw => r_moveV (v := .pointer _) rfl) ?_
    refine A_take (i := 8) rfl (by kernel_rfl) (by kernel_rfl) (by kernel_rfl) rfl hS (fun _ hw => r_nilCheck rfl) ?_
    refine A_take (i := 9) rfl (by kernel_rfl) (by kernel_rfl) (by kernel_rfl) rfl hS (fun _ hw => r_fieldAddr rfl Tryd.fld111_0 rfl) ?_
    refine A_ready2 (i := 4) (j := 10) (by kernel_rfl) ?_ ?_
    · refine O_val rfl rfl (r_load (v := .slice Aw (ws.length + 1) cw) rfl Tryd.underlying82 rfl (Blk.cell (Blk.ext hbq hX) rfl)) (hS) ?_
      refine A_take (i := 5) rfl (by kernel_rfl) (by kernel_rfl) (by kernel_rfl) rfl hS (fun _ hw => r_indexAddrK (i := 0) (by rw [← hA]; rfl) rfl Tryd.underlying82 Tryd.sz41 (by omega)) ?_
      refine A_ready2 (i := 6) (j := 10) (by kernel_rfl) ?_ ?_
      · refine O_val rfl rfl (r_load_agg (cs := [.int .i64 r.id, .int .i64 r.base, .slice A r.l.length c]) rfl Tryd.underlying41 rfl Tryd.sz41 rfl (ext_row hX rfl hcell')) (hS) ?_
        refine A_ready1 (i := 10) (by kernel_rfl) ?_
        refine O_val rfl rfl (r_load (v := .slice Aw (ws.length + 1) cw) rfl Tryd.underlying82 rfl (Blk.cell (Blk.ext hbq hX) rfl)) (hS) ?_
        refine A_take (i := 11) rfl (by kernel_rfl) (by kernel_rfl) (by kernel_rfl) rfl hS (fun _ hw => r_sliceLo (i := 1) rfl rfl Tryd.underlying82 Tryd.sz41 (by omega)) ?_
        refine A_ready1 (i := 12) (by kernel_rfl) ?_
        have hs12 := hX.size
        have hb12 := Blk.lt B0_0
        refine O_call rfl rfl (r_call Tryd.func68 Tryd.nm68 rfl) (hcl _ hX) ?_
        rintro v12 w12 ⟨hE, hO12⟩
        replace hS := trivial
        refine ⟨hS, ?_⟩
        replace B0_0 := Blk.ext B0_0 hE
        replace hX := hX.trans hE
        refine A_ready1 (i := 13) (by kernel_rfl) ?_
        obtain ⟨A12, c12, rfl, hc12, -⟩ := hO12.read
        have hbl0 := Blk.lt B0_0
        refine O_storeRow rfl rfl rfl Tryd.sz41 B0_0 rfl rfl ?_
        intro w13 C13 BB13
        refine ⟨trivial, ?_⟩
        refine A_take (i := 14) rfl (by kernel_rfl) (by kernel_rfl) (by kernel_rfl) rfl hS (fun _ hw => r_nilCheck rfl) ?_
        refine A_take (i := 15) rfl (by kernel_rfl) (by kernel_rfl) (by kernel_rfl) rfl hS (fun _ hw => r_fieldAddr rfl Tryd.fld111_0 rfl) ?_
        refine A_ready1 (i := 16) (by kernel_rfl) ?_
        have hb0 : w.heap.size ≤ b0_0 := by assumption
        have hbq13 : Blk w13 pq #[x0, .slice Aw (ws.length + 1) cw, x2, x3] 113 := Chg.blk C13 (Blk.ext hbq hX) (by omega)
        refine O_store (v := .slice A12 rs.length c12) rfl rfl rfl rfl Tryd.sz82 hbq13 (Nat.le_of_ble_eq_true rfl) ?_
        intro w16 C16 B16
        refine ⟨trivial, ?_⟩
        have hX13 : Ext w w13 := Chg.ext hX hb0 C13
        have hMv16 : Mv (fun b => b = pq) w w16 := (Mv.of_ext hX13).trans (Mv.of_chg C16 rfl)
        have B0n : Blk w16 b0_0 _ _ := Chg.blk C16 BB13 (by omega)
        have hs13 := C13.size
        have hs12' := hX.size
        have hO16 : Eng.Own (rawT 3) w16 nobody w.heap.size 41 (.slice A12 rs.length c12) rs := Own.low (hO12.keep (fun _ q => q.elim) (fun _ q => q.elim) (fun g hg => (C16.block g (by have := (hO12.lt hg).2; omega) (fun q => by have := (hO12.lt hg).1; omega)).trans (C13.block g (hO12.lt hg).2 (fun q => by have := (hO12.lt hg).1; omega)))) hs12
        have hs16 := C16.size
        obtain ⟨wB, hXB, hsB⟩ := exists_cut w16 (n := w.heap.size) (by omega)
        clear hX B0_0
        have hX := hXB
        have B0_0 := B0n
        have hG0_0 : wB.heap.size ≤ b0_0 := by omega
        refine A_done (by kernel_rfl) ?_
        refine W_seq ?_
        refine W_region ?_
        refine op rfl (r_loadRow (c := #[.int .i64 r.id, .int .i64 r.base, .slice A r.l.length c]) (by rfl) B0_0 Tryd.underlying41 rfl Tryd.sz41) ?_
        refine op_storeRow rfl rfl Tryd.sz41 B0_0 rfl rfl ?_
        intro w4_1 C4_1 BB4_1
        replace hX := hX.chg C4_1 hG0_0
        replace B0_0 := BB4_1
        refine op rfl (r_assignV (v := .bool _) rfl) ?_
        refine WL_nil ?_
        refine W_ret (finX_ret ?_)
        refine fin_cell1 rfl B0_0 Tryd.underlying41 rfl Tryd.sz41 ?_
        have hMe := Mv.cut hMv16 hXB hX hsB
        have hSF : Same F w w4_1 := fun b hb => hMe.block b (hF b hb).1 (hF b hb).2
        have hO4 : Eng.Own (rawT 3) w4_1 nobody w.heap.size 41 (.slice A12 rs.length c12) rs := hO16.keep (fun _ q => q.elim) (fun _ q => q.elim) (fun g hg => C4_1.block g (hO16.lt hg).2 (fun q => by have := (hO12.lt hg).1; omega))
        exact ⟨_, rfl, A, c, _, rfl, rqT.keep hR0 hSF (fun _ h => h), Chg.blk C4_1 B16 (by omega), Own.of_raw hO4 (hal.imp (fun x y h => rqT.keep h hSF (fun _ h => h))), hMe⟩
      · refine O_val rfl rfl (r_load (v := .slice Aw (ws.length + 1) cw) rfl Tryd.underlying82 rfl (Blk.cell (Blk.ext hbq hX) rfl)) (hS) ?_
        refine A_take (i := 11) rfl (by kernel_rfl) (by kernel_rfl) (by kernel_rfl) rfl hS (fun _ hw => r_sliceLo (i := 1) rfl rfl Tryd.underlying82 Tryd.sz41 (by omega)) ?_
        refine A_ready2 (i := 6) (j := 12) (by kernel_rfl) ?_ ?_
        · refine O_val rfl rfl (r_load_agg (cs := [.int .i64 r.id, .int .i64 r.base, .slice A r.l.length c]) rfl Tryd.underlying41 rfl Tryd.sz41 rfl (ext_row hX rfl hcell')) (hS) ?_
          refine A_ready1 (i := 12) (by kernel_rfl) ?_
          have hs12 := hX.size
          have hb12 := Blk.lt B0_0
          refine O_call rfl rfl (r_call Tryd.func68 Tryd.nm68 rfl) (hcl _ hX) ?_
          rintro v12 w12 ⟨hE, hO12⟩
          replace hS := trivial
          refine ⟨hS, ?_⟩
          replace B0_0 := Blk.ext B0_0 hE
          replace hX := hX.trans hE
          refine A_ready1 (i := 13) (by kernel_rfl) ?_
          obtain ⟨A12, c12, rfl, hc12, -⟩ := hO12.read
          have hbl0 := Blk.lt B0_0
          refine O_storeRow rfl rfl rfl Tryd.sz41 B0_0 rfl rfl ?_
          intro w13 C13 BB13
          refine ⟨trivial, ?_⟩
          refine A_take (i := 14) rfl (by kernel_rfl) (by kernel_rfl) (by kernel_rfl) rfl hS (fun _ hw => r_nilCheck rfl) ?_
          refine A_take (i := 15) rfl (by kernel_rfl) (by kernel_rfl) (by kernel_rfl) rfl hS (fun _ hw => r_fieldAddr rfl Tryd.fld111_0 rfl) ?_
          refine A_ready1 (i := 16) (by kernel_rfl) ?_
          have hb0 : w.heap.size ≤ b0_0 := by assumption
          have hbq13 : Blk w13 pq #[x0, .slice Aw (ws.length + 1) cw, x2, x3] 113 := Chg.blk C13 (Blk.ext hbq hX) (by omega)
          refine O_store (v := .slice A12 rs.length c12) rfl rfl rfl rfl Tryd.sz82 hbq13 (Nat.le_of_ble_eq_true rfl) ?_
          intro w16 C16 B16
          refine ⟨trivial, ?_⟩
          have hX13 : Ext w w13 := Chg.ext hX hb0 C13
          have hMv16 : Mv (fun b => b = pq) w w16 := (Mv.of_ext hX13).trans (Mv.of_chg C16 rfl)
          have B0n : Blk w16 b0_0 _ _ := Chg.blk C16 BB13 (by omega)
          have hs13 := C13.size
          have hs12' := hX.size
          have hO16 : Eng.Own (rawT 3) w16 nobody w.heap.size 41 (.slice A12 rs.length c12) rs := Own.low (hO12.keep (fun _ q => q.elim) (fun _ q => q.elim) (fun g hg => (C16.block g (by have := (hO12.lt hg).2; omega) (fun q => by have := (hO12.lt hg).1; omega)).trans (C13.block g (hO12.lt hg).2 (fun q => by have := (hO12.lt hg).1; omega)))) hs12
          have hs16 := C16.size
          obtain ⟨wB, hXB, hsB⟩ := exists_cut w16 (n := w.heap.size) (by omega)
          clear hX B0_0
          have hX := hXB
          have B0_0 := B0n
          have hG0_0 : wB.heap.size ≤ b0_0 := by omega
          refine A_done (by kernel_rfl) ?_
          refine W_seq ?_
          refine W_region ?_
          refine op rfl (r_loadRow (c := #[.int .i64 r.id, .int .i64 r.base, .slice A r.l.length c]) (by rfl) B0_0 Tryd.underlying41 rfl Tryd.sz41) ?_
          refine op_storeRow rfl rfl Tryd.sz41 B0_0 rfl rfl ?_
          intro w4_1 C4_1 BB4_1
          replace hX := hX.chg C4_1 hG0_0
          replace B0_0 := BB4_1
          refine op rfl (r_assignV (v := .bool _) rfl) ?_
          refine WL_nil ?_
          refine W_ret (finX_ret ?_)
          refine fin_cell1 rfl B0_0 Tryd.underlying41 rfl Tryd.sz41 ?_
          have hMe := Mv.cut hMv16 hXB hX hsB
          have hSF : Same F w w4_1 := fun b hb => hMe.block b (hF b hb).1 (hF b hb).2
          have hO4 : Eng.Own (rawT 3) w4_1 nobody w.heap.size 41 (.slice A12 rs.length c12) rs := hO16.keep (fun _ q => q.elim) (fun _ q => q.elim) (fun g hg => C4_1.block g (hO16.lt hg).2 (fun q => by have := (hO12.lt hg).1; omega))
          exact ⟨_, rfl, A, c, _, rfl, rqT.keep hR0 hSF (fun _ h => h), Chg.blk C4_1 B16 (by omega), Own.of_raw hO4 (hal.imp (fun x y h => rqT.keep h hSF (fun _ h => h))), hMe⟩
        · have hs12 := hX.size
          have hb12 := Blk.lt B0_0
          refine O_call rfl rfl (r_call Tryd.func68 Tryd.nm68 rfl) (hcl _ hX) ?_
          rintro v12 w12 ⟨hE, hO12⟩
          replace hS := trivial
          refine ⟨hS, ?_⟩
          replace B0_0 := Blk.ext B0_0 hE
          replace hX := hX.trans hE
          refine A_ready1 (i := 6) (by kernel_rfl) ?_
          refine O_val rfl rfl (r_load_agg (cs := [.int .i64 r.id, .int .i64 r.base, .slice A r.l.length c]) rfl Tryd.underlying41 rfl Tryd.sz41 rfl (ext_row hX rfl hcell')) (hS) ?_
          refine A_ready1 (i := 13) (by kernel_rfl) ?_
          obtain ⟨A12, c12, rfl, hc12, -⟩ := hO12.read
          have hbl0 := Blk.lt B0_0
          refine O_storeRow rfl rfl rfl Tryd.sz41 B0_0 rfl rfl ?_
          intro w13 C13 BB13
          refine ⟨trivial, ?_⟩
          refine A_take (i := 14) rfl (by kernel_rfl) (by kernel_rfl) (by kernel_rfl) rfl hS (fun _ hw => r_nilCheck rfl) ?_
          refine A_take (i := 15) rfl (by kernel_rfl) (by kernel_rfl) (by kernel_rfl) rfl hS (fun _ hw => r_fieldAddr rfl Tryd.fld111_0 rfl) ?_
          refine A_ready1 (i := 16) (by kernel_rfl) ?_
          have hb0 : w.heap.size ≤ b0_0 := by assumption
          have hbq13 : Blk w13 pq #[x0, .slice Aw (ws.length + 1) cw, x2, x3] 113 := Chg.blk C13 (Blk.ext hbq hX) (by omega)
          refine O_store (v := .slice A12 rs.length c12) rfl rfl rfl rfl Tryd.sz82 hbq13 (Nat.le_of_ble_eq_true rfl) ?_
          intro w16 C16 B16
          refine ⟨trivial, ?_⟩
          have hX13 : Ext w w13 := Chg.ext hX hb0 C13
          have hMv16 : Mv (fun b => b = pq) w w16 := (Mv.of_ext hX13).trans (Mv.of_chg C16 rfl)
          have B0n : Blk w16 b0_0 _ _ := Chg.blk C16 BB13 (by omega)
          have hs13 := C13.size
          have hs12' := hX.size
          have hO16 : Eng.Own (rawT 3) w16 nobody w.heap.size 41 (.slice A12 rs.length c12) rs := Own.low (hO12.keep (fun _ q => q.elim) (fun _ q => q.elim) (fun g hg => (C16.block g (by have := (hO12.lt hg).2; omega) (fun q => by have := (hO12.lt hg).1; omega)).trans (C13.block g (hO12.lt hg).2 (fun q => by have := (hO12.lt hg).1; omega)))) hs12
          have hs16 := C16.size
          obtain ⟨wB, hXB, hsB⟩ := exists_cut w16 (n := w.heap.size) (by omega)
          clear hX B0_0
          have hX := hXB
          have B0_0 := B0n
          have hG0_0 : wB.heap.size ≤ b0_0 := by omega
          refine A_done (by kernel_rfl) ?_
          refine W_seq ?_
          refine W_region ?_
          refine op rfl (r_loadRow (c := #[.int .i64 r.id, .int .i64 r.base, .slice A r.l.length c]) (by rfl) B0_0 Tryd.underlying41 rfl Tryd.sz41) ?_
          refine op_storeRow rfl rfl Tryd.sz41 B0_0 rfl rfl ?_
          intro w4_1 C4_1 BB4_1
          replace hX := hX.chg C4_1 hG0_0
          replace B0_0 := BB4_1
          refine op rfl (r_assignV (v := .bool _) rfl) ?_
          refine WL_nil ?_
          refine W_ret (finX_ret ?_)
          refine fin_cell1 rfl B0_0 Tryd.underlying41 rfl Tryd.sz41 ?_
          have hMe := Mv.cut hMv16 hXB hX hsB
          have hSF : Same F w w4_1 := fun b hb => hMe.block b (hF b hb).1 (hF b hb).2
          have hO4 : Eng.Own (rawT 3) w4_1 nobody w.heap.size 41 (.slice A12 rs.length c12) rs := hO16.keep (fun _ q => q.elim) (fun _ q => q.elim) (fun g hg => C4_1.block g (hO16.lt hg).2 (fun q => by have := (hO12.lt hg).1; omega))
          exact ⟨_, rfl, A, c, _, rfl, rqT.keep hR0 hSF (fun _ h => h), Chg.blk C4_1 B16 (by omega), Own.of_raw hO4 (hal.imp (fun x y h => rqT.keep h hSF (fun _ h => h))), hMe⟩
    · refine O_val rfl rfl (r_load (v := .slice Aw (ws.length + 1) cw) rfl Tryd.underlying82 rfl (Blk.cell (Blk.ext hbq hX) rfl)) (hS) ?_
      refine A_take (i := 11) rfl (by kernel_rfl) (by kernel_rfl) (by kernel_rfl) rfl hS (fun _ hw => r_sliceLo (i := 1) rfl rfl Tryd.underlying82 Tryd.sz41 (by omega)) ?_
      refine A_ready2 (i := 4) (j := 12) (by kernel_rfl) ?_ ?_
      · refine O_val rfl rfl (r_load (v := .slice Aw (ws.length + 1) cw) rfl Tryd.underlying82 rfl (Blk.cell (Blk.ext hbq hX) rfl)) (hS) ?_
        refine A_take (i := 5) rfl (by kernel_rfl) (by kernel_rfl) (by kernel_rfl) rfl hS (fun _ hw => r_indexAddrK (i := 0) (by rw [← hA]; rfl) rfl Tryd.underlying82 Tryd.sz41 (by omega)) ?_
        refine A_ready2 (i := 6) (j := 12) (by kernel_rfl) ?_ ?_
        · refine O_val rfl rfl (r_load_agg (cs := [.int .i64 r.id, .int .i64 r.base, .slice A r.l.length c]) rfl Tryd.underlying41 rfl Tryd.sz41 rfl (ext_row hX rfl hcell')) (hS) ?_
          refine A_ready1 (i := 12) (by kernel_rfl) ?_
          have hs12 := hX.size
          have hb12 := Blk.lt B0_0
          refine O_call rfl rfl (r_call Tryd.func68 Tryd.nm68 rfl) (hcl _ hX) ?_
          rintro v12 w12 ⟨hE, hO12⟩
          replace hS := trivial
          refine ⟨hS, ?_⟩
          replace B0_0 := Blk.ext B0_0 hE
          replace hX := hX.trans hE
          refine A_ready1 (i := 13) (by kernel_rfl) ?_
          obtain ⟨A12, c12, rfl, hc12, -⟩ := hO12.read
          have hbl0 := Blk.lt B0_0
          refine O_storeRow rfl rfl rfl Tryd.sz41 B0_0 rfl rfl ?_
          intro w13 C13 BB13
          refine ⟨trivial, ?_⟩
          refine A_take (i := 14) rfl (by kernel_rfl) (by kernel_rfl) (by kernel_rfl) rfl hS (fun _ hw => r_nilCheck rfl) ?_
          refine A_take (i := 15) rfl (by kernel_rfl) (by kernel_rfl) (by kernel_rfl) rfl hS (fun _ hw => r_fieldAddr rfl Tryd.fld111_0 rfl) ?_
          refine A_ready1 (i := 16) (by kernel_rfl) ?_
          have hb0 : w.heap.size ≤ b0_0 := by assumption
          have hbq13 : Blk w13 pq #[x0, .slice Aw (ws.length + 1) cw, x2, x3] 113 := Chg.blk C13 (Blk.ext hbq hX) (by omega)
          refine O_store (v := .slice A12 rs.length c12) rfl rfl rfl rfl Tryd.sz82 hbq13 (Nat.le_of_ble_eq_true rfl) ?_
          intro w16 C16 B16
          refine ⟨trivial, ?_⟩
          have hX13 : Ext w w13 := Chg.ext hX hb0 C13
          have hMv16 : Mv (fun b => b = pq) w w16 := (Mv.of_ext hX13).trans (Mv.of_chg C16 rfl)
          have B0n : Blk w16 b0_0 _ _ := Chg.blk C16 BB13 (by omega)
          have hs13 := C13.size
          have hs12' := hX.size
          have hO16 : Eng.Own (rawT 3) w16 nobody w.heap.size 41 (.slice A12 rs.length c12) rs := Own.low (hO12.keep (fun _ q => q.elim) (fun _ q => q.elim) (fun g hg => (C16.block g (by have := (hO12.lt hg).2; omega) (fun q => by have := (hO12.lt hg).1; omega)).trans (C13.block g (hO12.lt hg).2 (fun q => by have := (hO12.lt hg).1; omega)))) hs12
          have hs16 := C16.size
          obtain ⟨wB, hXB, hsB⟩ := exists_cut w16 (n := w.heap.size) (by omega)
          clear hX B0_0
          have hX := hXB
          have B0_0 := B0n
          have hG0_0 : wB.heap.size ≤ b0_0 := by omega
          refine A_done (by kernel_rfl) ?_
          refine W_seq ?_
          refine W_region ?_
          refine op rfl (r_loadRow (c := #[.int .i64 r.id, .int .i64 r.base, .slice A r.l.length c]) (by rfl) B0_0 Tryd.underlying41 rfl Tryd.sz41) ?_
          refine op_storeRow rfl rfl Tryd.sz41 B0_0 rfl rfl ?_
          intro w4_1 C4_1 BB4_1
          replace hX := hX.chg C4_1 hG0_0
          replace B0_0 := BB4_1
          refine op rfl (r_assignV (v := .bool _) rfl) ?_
          refine WL_nil ?_
          refine W_ret (finX_ret ?_)
          refine fin_cell1 rfl B0_0 Tryd.underlying41 rfl Tryd.sz41 ?_
          have hMe := Mv.cut hMv16 hXB hX hsB
          have hSF : Same F w w4_1 := fun b hb => hMe.block b (hF b hb).1 (hF b hb).2
          have hO4 : Eng.Own (rawT 3) w4_1 nobody w.heap.size 41 (.slice A12 rs.length c12) rs := hO16.keep (fun _ q => q.elim) (fun _ q => q.elim) (fun g hg => C4_1.block g (hO16.lt hg).2 (fun q => by have := (hO12.lt hg).1; omega))
          exact ⟨_, rfl, A, c, _, rfl, rqT.keep hR0 hSF (fun _ h => h), Chg.blk C4_1 B16 (by omega), Own.of_raw hO4 (hal.imp (fun x y h => rqT.keep h hSF (fun _ h => h))), hMe⟩
        · have hs12 := hX.size
          have hb12 := Blk.lt B0_0
          refine O_call rfl rfl (r_call Tryd.func68 Tryd.nm68 rfl) (hcl _ hX) ?_
          rintro v12 w12 ⟨hE, hO12⟩
          replace hS := trivial
          refine ⟨hS, ?_⟩
          replace B0_0 := Blk.ext B0_0 hE
          replace hX := hX.trans hE
          refine A_ready1 (i := 6) (by kernel_rfl) ?_
          refine O_val rfl rfl (r_load_agg (cs := [.int .i64 r.id, .int .i64 r.base, .slice A r.l.length c]) rfl Tryd.underlying41 rfl Tryd.sz41 rfl (ext_row hX rfl hcell')) (hS) ?_
          refine A_ready1 (i := 13) (by kernel_rfl) ?_
          obtain ⟨A12, c12, rfl, hc12, -⟩ := hO12.read
          have hbl0 := Blk.lt B0_0
          refine O_storeRow rfl rfl rfl Tryd.sz41 B0_0 rfl rfl ?_
          intro w13 C13 BB13
          refine ⟨trivial, ?_⟩
          refine A_take (i := 14) rfl (by kernel_rfl) (by kernel_rfl) (by kernel_rfl) rfl hS (fun _ hw => r_nilCheck rfl) ?_
          refine A_take (i := 15) rfl (by kernel_rfl) (by kernel_rfl) (by kernel_rfl) rfl hS (fun _ hw => r_fieldAddr rfl Tryd.fld111_0 rfl) ?_
          refine A_ready1 (i := 16) (by kernel_rfl) ?_
          have hb0 : w.heap.size ≤ b0_0 := by assumption
          have hbq13 : Blk w13 pq #[x0, .slice Aw (ws.length + 1) cw, x2, x3] 113 := Chg.blk C13 (Blk.ext hbq hX) (by omega)
          refine O_store (v := .slice A12 rs.length c12) rfl rfl rfl rfl Tryd.sz82 hbq13 (Nat.le_of_ble_eq_true rfl) ?_
          intro w16 C16 B16
          refine ⟨trivial, ?_⟩
          have hX13 : Ext w w13 := Chg.ext hX hb0 C13
          have hMv16 : Mv (fun b => b = pq) w w16 := (Mv.of_ext hX13).trans (Mv.of_chg C16 rfl)
          have B0n : Blk w16 b0_0 _ _ := Chg.blk C16 BB13 (by omega)
          have hs13 := C13.size
          have hs12' := hX.size
          have hO16 : Eng.Own (rawT 3) w16 nobody w.heap.size 41 (.slice A12 rs.length c12) rs := Own.low (hO12.keep (fun _ q => q.elim) (fun _ q => q.elim) (fun g hg => (C16.block g (by have := (hO12.lt hg).2; omega) (fun q => by have := (hO12.lt hg).1; omega)).trans (C13.block g (hO12.lt hg).2 (fun q => by have := (hO12.lt hg).1; omega)))) hs12
          have hs16 := C16.size
          obtain ⟨wB, hXB, hsB⟩ := exists_cut w16 (n := w.heap.size) (by omega)
          clear hX B0_0
          have hX := hXB
          have B0_0 := B0n
          have hG0_0 : wB.heap.size ≤ b0_0 := by omega
          refine A_done (by kernel_rfl) ?_
          refine W_seq ?_
          refine W_region ?_
          refine op rfl (r_loadRow (c := #[.int .i64 r.id, .int .i64 r.base, .slice A r.l.length c]) (by rfl) B0_0 Tryd.underlying41 rfl Tryd.sz41) ?_
          refine op_storeRow rfl rfl Tryd.sz41 B0_0 rfl rfl ?_
          intro w4_1 C4_1 BB4_1
          replace hX := hX.chg C4_1 hG0_0
          replace B0_0 := BB4_1
          refine op rfl (r_assignV (v := .bool _) rfl) ?_
          refine WL_nil ?_
          refine W_ret (finX_ret ?_)
          refine fin_cell1 rfl B0_0 Tryd.underlying41 rfl Tryd.sz41 ?_
          have hMe := Mv.cut hMv16 hXB hX hsB
          have hSF : Same F w w4_1 := fun b hb => hMe.block b (hF b hb).1 (hF b hb).2
          have hO4 : Eng.Own (rawT 3) w4_1 nobody w.heap.size 41 (.slice A12 rs.length c12) rs := hO16.keep (fun _ q => q.elim) (fun _ q => q.elim) (fun g hg => C4_1.block g (hO16.lt hg).2 (fun q => by have := (hO12.lt hg).1; omega))
          exact ⟨_, rfl, A, c, _, rfl, rqT.keep hR0 hSF (fun _ h => h), Chg.blk C4_1 B16 (by omega), Own.of_raw hO4 (hal.imp (fun x y h => rqT.keep h hSF (fun _ h => h))), hMe⟩
      · have hs12 := hX.size
        have hb12 := Blk.lt B0_0
        refine O_call rfl rfl (r_call Tryd.func68 Tryd.nm68 rfl) (hcl _ hX) ?_
        rintro v12 w12 ⟨hE, hO12⟩
        replace hS := trivial
        refine ⟨hS, ?_⟩
        replace B0_0 := Blk.ext B0_0 hE
        replace hX := hX.trans hE
        refine A_ready1 (i := 4) (by kernel_rfl) ?_
        refine O_val rfl rfl (r_load (v := .slice Aw (ws.length + 1) cw) rfl Tryd.underlying82 rfl (Blk.cell (Blk.ext hbq hX) rfl)) (hS) ?_
        refine A_take (i := 5) rfl (by kernel_rfl) (by kernel_rfl) (by kernel_rfl) rfl hS (fun _ hw => r_indexAddrK (i := 0) (by rw [← hA]; rfl) rfl Tryd.underlying82 Tryd.sz41 (by omega)) ?_
        refine A_ready1 (i := 6) (by kernel_rfl) ?_
        refine O_val rfl rfl (r_load_agg (cs := [.int .i64 r.id, .int .i64 r.base, .slice A r.l.length c]) rfl Tryd.underlying41 rfl Tryd.sz41 rfl (ext_row hX rfl hcell')) (hS) ?_
        refine A_ready1 (i := 13) (by kernel_rfl) ?_
        obtain ⟨A12, c12, rfl, hc12, -⟩ := hO12.read
        have hbl0 := Blk.lt B0_0
        refine O_storeRow rfl rfl rfl Tryd.sz41 B0_0 rfl rfl ?_
        intro w13 C13 BB13
        refine ⟨trivial, ?_⟩
        refine A_take (i := 14) rfl (by kernel_rfl) (by kernel_rfl) (by kernel_rfl) rfl hS (fun _ hw => r_nilCheck rfl) ?_
        refine A_take (i := 15) rfl (by kernel_rfl) (by kernel_rfl) (by kernel_rfl) rfl hS (fun _ hw => r_fieldAddr rfl Tryd.fld111_0 rfl) ?_
        refine A_ready1 (i := 16) (by kernel_rfl) ?_
        have hb0 : w.heap.size ≤ b0_0 := by assumption
        have hbq13 : Blk w13 pq #[x0, .slice Aw (ws.length + 1) cw, x2, x3] 113 := Chg.blk C13 (Blk.ext hbq hX) (by omega)
        refine O_store (v := .slice A12 rs.length c12) rfl rfl rfl rfl Tryd.sz82 hbq13 (Nat.le_of_ble_eq_true rfl) ?_
        intro w16 C16 B16
        refine ⟨trivial, ?_⟩
        have hX13 : Ext w w13 := Chg.ext hX hb0 C13
        have hMv16 : Mv (fun b => b = pq) w w16 := (Mv.of_ext hX13).trans (Mv.of_chg C16 rfl)
        have B0n : Blk w16 b0_0 _ _ := Chg.blk C16 BB13 (by omega)
        have hs13 := C13.size
        have hs12' := hX.size
        have hO16 : Eng.Own (rawT 3) w16 nobody w.heap.size 41 (.slice A12 rs.length c12) rs := Own.low (hO12.keep (fun _ q => q.elim) (fun _ q => q.elim) (fun g hg => (C16.block g (by have := (hO12.lt hg).2; omega) (fun q => by have := (hO12.lt hg).1; omega)).trans (C13.block g (hO12.lt hg).2 (fun q => by have := (hO12.lt hg).1; omega)))) hs12
        have hs16 := C16.size
        obtain ⟨wB, hXB, hsB⟩ := exists_cut w16 (n := w.heap.size) (by omega)
        clear hX B0_0
        have hX := hXB
        have B0_0 := B0n
        have hG0_0 : wB.heap.size ≤ b0_0 := by omega
        refine A_done (by kernel_rfl) ?_
        refine W_seq ?_
        refine W_region ?_
        refine op rfl (r_loadRow (c := #[.int .i64 r.id, .int .i64 r.base, .slice A r.l.length c]) (by rfl) B0_0 Tryd.underlying41 rfl Tryd.sz41) ?_
        refine op_storeRow rfl rfl Tryd.sz41 B0_0 rfl rfl ?_
        intro w4_1 C4_1 BB4_1
        replace hX := hX.chg C4_1 hG0_0
        replace B0_0 := BB4_1
        refine op rfl (r_assignV (v := .bool _) rfl) ?_
        refine WL_nil ?_
        refine W_ret (finX_ret ?_)
        refine fin_cell1 rfl B0_0 Tryd.underlying41 rfl Tryd.sz41 ?_
        have hMe := Mv.cut hMv16 hXB hX hsB
        have hSF : Same F w w4_1 := fun b hb => hMe.block b (hF b hb).1 (hF b hb).2
        have hO4 : Eng.Own (rawT 3) w4_1 nobody w.heap.size 41 (.slice A12 rs.length c12) rs := hO16.keep (fun _ q => q.elim) (fun _ q => q.elim) (fun g hg => C4_1.block g (hO16.lt hg).2 (fun q => by have := (hO12.lt hg).1; omega))
        exact ⟨_, rfl, A, c, _, rfl, rqT.keep hR0 hSF (fun _ h => h), Chg.blk C4_1 B16 (by omega), Own.of_raw hO4 (hal.imp (fun x y h => rqT.keep h hSF (fun _ h => h))), hMe⟩
end Go.Proofs.YtmedmajdoecjfaaDoor
