/-
  The walk of a history's Copy.
-/
import Derived.Test.YtkdcmdcdjnmkaaaDoorFacts
import Derived.Test.YtkdcmdcdjnmkaaaDoorHistK
import Derived.Test.YtkdcmdcdjnmkaaaDoorRange
namespace Go.Proofs.YtkdcmdcdjnmkaaaDoor
open Go Go.Eng Go.RowKit Go.Proofs
set_option linter.unusedVariables false
set_option linter.unusedSimpArgs false
set_option maxHeartbeats 2000000
set_option maxRecDepth 20000

theorem copy_spec {p : Nat} {Z : Nat → Prop} {w : World} {H : List Rv} (hH : Hist p Z w H) :
    Calls Tryd.prog 22 #[hp p] w (fun en w' => ∃ v, en = .returned v ∧ ∃ p', v = hp p' ∧ Hist p' (since w w') w' H ∧ Ext w w') := by
  obtain ⟨m, v, F, h, hZ⟩ := hH
  have hlt := h.lt
  obtain ⟨A, cap, rfl, hc, hrow⟩ := h.own.read
  have hbp := h.bp
  have hrow' : revT.Row w (old w) A H := hrow.keep (fun _ _ => rfl) (fun b hb => hb.elim (fun q => hlt b (Or.inr (Or.inr (Or.inr q)))) (fun q => hlt b (Or.inr (Or.inr (Or.inl q)))))
  obtain ⟨f, hmf, hlf⟩ := h.map
  obtain ⟨es, clock, hes, hst, hkeys, hiff⟩ := hmf
  have hml : m < w.heap.size := heap_lt hes
  have hsm := h.sm
  have hap : ∀ (r : Rv) (At : Option Addr) (ct : Nat), r ∈ H → fiT.Row w (old w) At r.t → ∀ W, Ext w W → Calls Tryd.prog 33 #[.slice At r.t.length ct, .slice none 0 0] W (fun en w' => ∃ v, en = .returned v ∧ ∃ v1, v = .tuple #[v1, .int .i64 0] ∧ OwnT W w' v1 r.t ∧ Ext W w') := fun r At ct hr hrr W he => by
    have hok := h.ok r hr
    have := apply_spec (cap := ct) (Ad := none) (cd := 0) (ds := []) (w := W) (G := old w) (fun b hb => Nat.lt_of_lt_of_le hb he.size) (hrr.keep (fun b hb => he.block b hb) (fun _ h => h)) (Or.inl rfl) (by have := hok.1.1; simp; omega)
    rw [apply_nil hok.1] at this
    exact this
  refine calls' (n := 64) (rs := #[.tmp 2]) (l := [hp p]) Tryd.func22 rfl rfl rfl rfl rfl ?_
  have hX := Ext.refl w
  refine W_seq ?_
  refine W_region ?_
  refine op rfl (r_assignV (v := .pointer _) rfl) ?_
  refine WL_nil ?_
  refine W_seq ?_
  refine W_seq ?_
  refine W_region ?_
  refine op rfl (r_moveV (v := .pointer _) rfl) ?_
  refine op rfl (rp_eql rfl rfl Tryd.underlying27) ?_
  refine WL_nil ?_
  refine W_ifp rfl (fun ht11 => ?_) (fun ht11 => ?_)
  · exact ht11.elim
  · refine W_skip ?_
    refine W_seq ?_
    refine W_region ?_
    refine op_makeMapK .string rfl ?_
    intro w1 m2 E1 M1 L1
    refine op rfl (r_build (cs := [.slice none 0 0, .map (some m2)]) Tryd.lay81 (by intro q hq; rw [List.mem_singleton.1 hq]; rfl) rfl rfl) ?_
    refine op_box rfl rfl ?_
    intro w2 p2 E2 B2 L2
    have hs0 := hX.size
    have hs1 := E1.size
    have hs2 := E2.size
    have M2 := M1.ext E2
    replace hX := (hX.trans E1).trans E2
    replace hbp := Blk.ext (Blk.ext hbp E1) E2
    have hp2 : w.heap.size ≤ p2 := by omega
    have hm2 : w.heap.size ≤ m2 := by omega
    have hmp2 : m2 ≠ p2 := by have := M1.lt; omega
    refine op rfl (r_assignV (v := hp p2) rfl) ?_
    refine WL_nil ?_
    refine W_seq ?_
    refine W_seq ?_
    refine W_region ?_
    refine op rfl (r_moveV (v := .pointer _) rfl) ?_
    refine op rfl (r_nilCheck rfl) ?_
    refine op rfl (r_fieldAddr rfl Tryd.fld81_0 rfl) ?_
    refine op rfl (r_load (v := .slice A H.length cap) rfl Tryd.underlying78 rfl (Blk.cell hbp rfl)) ?_
    refine op rfl (r_len_slice rfl Tryd.underlying78) ?_
    refine op rfl (r_moveV (v := .int _ _) rfl) ?_
    refine WL_nil ?_
    refine W_block ?_
    refine W_loop [5, 6, 7, 20, 21, 22, 23, 24, 25, 26, 27, 28, 29, 30, 31, 32, 33, 34, 35, 36, 37, 38, 39, 40, 41, 42, 43, 44, 45, 46] (fun q e' w' => ∃ (i : Nat) (v2 : Value) (F2 : Nat → Prop), q = H.length - i ∧ i ≤ H.length ∧ e' 20 = .int .i64 i ∧ Blk w' p2 #[v2, .map (some m2)] 81 ∧ Eng.Own revT w' F2 w.heap.size 77 v2 (H.take i) ∧ (∀ b, F2 b → w.heap.size ≤ b ∧ b < w'.heap.size ∧ b ≠ p2 ∧ b ≠ m2 ∧ v2.ownBlock ≠ some b) ∧ (∀ b, v2.ownBlock = some b → b ≠ p2 ∧ b ≠ m2) ∧ MapAt .string w' m2 (fun _ => none) ∧ Ext w w') (H.length) ?_ ?_
    · exact ⟨0, _, nobody, by omega, by omega, rfl, B2, .nil, fun _ q => q.elim, (fun b q => by cases q), M2, hX⟩
    intro k g w' hI
    obtain ⟨i, v2, F2, hq, hi, h20, B2', hO, hF2, hv2, M2', hX'⟩ := hI
    clear hX hbp
    have hX := Ext.refl w'
    have hbp := Blk.ext h.bp hX'
    have hti : (H.take i).length = i := by rw [List.length_take]; omega
    obtain ⟨A2, cap2, rfl, hc2, -⟩ := hO.read
    rw [hti] at *
    obtain ⟨w0i, hw0i⟩ : ∃ x, x = w' := ⟨_, rfl⟩
    subst hw0i
    refine W_set (i := 20) h20 ?_
    refine W_seq ?_
    refine W_region ?_
    refine op rfl (r_lss rfl rfl) ?_
    refine WL_nil ?_
    refine W_seq ?_
    refine W_ifp rfl (fun ht21 => ?_) (fun ht21 => ?_)
    · have hlt' : i < H.length := by omega
      obtain ⟨ga, off, xs, hA, _, hx, hcell⟩ := hrow'.cells hlt'
      obtain ⟨Ad, cd, At, ct, rfl, hcd, hct, hdr, htr⟩ := rev_cells hx
      have hcell' : ∀ j, j < 2 → w.cell? ⟨ga, off + i * 2 + j, none⟩ = [Value.slice Ad H[i].d.length cd, .slice At H[i].t.length ct][j]? := hcell
      have hok := h.ok _ (List.getElem_mem hlt')
      have hde : ∀ W, Ext w W → Calls Tryd.prog 34 #[.slice Ad H[i].d.length cd] W (fun en w' => ∃ v, en = .returned v ∧ OwnD W w' v H[i].d ∧ Ext W w') := fun W he => deltas_spec (cap := cd) (w := W) (G := old W) (fun b hb => hb) (hdr.ext he) hok.2
      refine W_skip ?_
      refine W_seq ?_
      refine W_block ?_
      refine W_seq ?_
      refine W_region ?_
      refine op rfl (r_indexAddrK (by rw [← hA]; rfl) rfl Tryd.underlying78 Tryd.sz77 hlt') ?_
      refine op rfl (r_load_agg (cs := [.slice Ad H[i].d.length cd, .slice At H[i].t.length ct]) rfl Tryd.underlying77 rfl Tryd.sz77 rfl (ext_row (hX'.trans hX) rfl hcell')) ?_
      refine op_alloc rfl Tryd.zero77 ?_
      intro w6_2 b6_2 E6_2 B6_2 L6_2
      have hG6_2 : w0i.heap.size ≤ b6_2 := by have := hX.size; omega
      have hNp_6_2 : p ≠ b6_2 := by have := Blk.lt hbp; omega
      replace hbp := Blk.ext hbp E6_2
      replace hX := hX.trans E6_2
      refine op_storeRow rfl rfl Tryd.sz77 B6_2 rfl rfl ?_
      intro w6_3 C6_3 BB6_3
      replace hbp := Chg.blk C6_3 hbp hNp_6_2
      replace hX := hX.chg C6_3 hG6_2
      replace B6_2 := BB6_3
      refine WL_nil ?_
      refine W_seq ?_
      refine W_region ?_
      refine op rfl (r_fieldAddr rfl Tryd.fld77_1 rfl) ?_
      refine op rfl (r_load (v := .slice At H[i].t.length ct) rfl Tryd.underlying23 rfl (Blk.cell B6_2 rfl)) ?_
      have hXl := hX
      have hBl := Blk.lt B6_2
      refine opCv rfl (r_call Tryd.func33 Tryd.nm33 rfl) (hap _ At ct (List.getElem_mem hlt') htr _ (hX'.trans hX)) ?_
      rintro v4 w4 ⟨v5, rfl, hO4, hE⟩
      replace hbp := Blk.ext hbp hE
      replace B6_2 := Blk.ext B6_2 hE
      replace hX := hX.trans hE
      obtain ⟨A5, c5, rfl, hc5, hr5⟩ := hO4.rd
      have hX5 := hX
      refine op rfl (r_moveV (v := .tuple #[.slice A5 H[i].t.length c5, .int .i64 0]) rfl) ?_
      refine op rfl (r_extract (vs := [.slice A5 H[i].t.length c5, .int .i64 0]) rfl rfl) ?_
      refine op rfl (r_extract (vs := [.slice A5 H[i].t.length c5, .int .i64 0]) rfl rfl) ?_
      refine op rfl (r_assignV (v := .slice A5 H[i].t.length c5) rfl) ?_
      refine op rfl (r_assignV (v := .int .i64 0) rfl) ?_
      refine WL_nil ?_
      refine W_drawA Tryd.wd rfl ?_
      intro wd8 hD
      have hS : anyW wd8 := trivial
      replace hbp := Blk.ext hbp hD
      replace B6_2 := Blk.ext B6_2 hD
      replace hX := hX.trans hD
      refine A_take (i := 0) rfl (by kernel_rfl) (by kernel_rfl) (by kernel_rfl) rfl hS (fun _ hw => r_moveV (v := hp p2) rfl) ?_
      refine A_take (i := 1) rfl (by kernel_rfl) (by kernel_rfl) (by kernel_rfl) rfl hS (fun _ hw => r_moveV (v := hp p2) rfl) ?_
      refine A_take (i := 2) rfl (by kernel_rfl) (by kernel_rfl) (by kernel_rfl) rfl hS (fun _ hw => r_nilCheck rfl) ?_
      refine A_take (i := 3) rfl (by kernel_rfl) (by kernel_rfl) (by kernel_rfl) rfl hS (fun _ hw => r_fieldAddr rfl Tryd.fld81_0 rfl) ?_
      refine A_take (i := 5) rfl (by kernel_rfl) (by kernel_rfl) (by kernel_rfl) rfl hS (fun _ hw => r_fieldAddr rfl Tryd.fld77_0 rfl) ?_
      refine A_take (i := 6) rfl (by kernel_rfl) (by kernel_rfl) (by kernel_rfl) rfl hS (fun _ hw => r_fieldAddr rfl Tryd.fld75_0 rfl) ?_
      refine A_take (i := 10) rfl (by kernel_rfl) (by kernel_rfl) (by kernel_rfl) rfl hS (fun _ hw => r_moveV (v := .slice A5 H[i].t.length c5) rfl) ?_
      refine A_ready2 (i := 4) (j := 7) (by kernel_rfl) ?_ ?_
      · refine O_val rfl rfl (r_load (v := .slice A2 i cap2) rfl Tryd.underlying78 rfl (Blk.cell (by first | exact Blk.ext B2' hX | exact Blk.ext B2' (hX.trans E10)) rfl)) (hS) ?_
        refine A_ready1 (i := 7) (by kernel_rfl) ?_
        refine O_val rfl rfl (r_load (v := .slice Ad H[i].d.length cd) rfl Tryd.underlying33 rfl (Blk.cell B6_2 rfl)) (hS) ?_
        refine A_ready1 (i := 8) (by kernel_rfl) ?_
        have hXl6 := hX.size
        refine O_call rfl rfl (r_call Tryd.func34 Tryd.nm34 rfl) (hde _ (hX'.trans hX)) ?_
        rintro v6 w6 ⟨hO6, hE⟩
        replace hS := trivial
        refine ⟨hS, ?_⟩
        replace hbp := Blk.ext hbp hE
        replace B6_2 := Blk.ext B6_2 hE
        replace hX := hX.trans hE
        obtain ⟨A6, c6, rfl, hc6, hr6⟩ := hO6.rd
        have hE6 := hE
        refine A_take (i := 9) rfl (by kernel_rfl) (by kernel_rfl) (by kernel_rfl) rfl hS (fun _ hw => r_build (cs := [.slice A6 H[i].d.length c6]) Tryd.lay75 (List.forall_mem_cons.2 ⟨rfl, fun _ h => absurd h List.not_mem_nil⟩) rfl rfl) ?_
        refine A_take (i := 11) rfl (by kernel_rfl) (by kernel_rfl) (by kernel_rfl) rfl hS (fun _ hw => r_build1 cellOf (cs := [.slice A6 H[i].d.length c6, .slice A5 H[i].t.length c5]) Tryd.lay77 (List.forall_mem_cons.2 ⟨rfl, List.forall_mem_cons.2 ⟨rfl, fun _ h => absurd h List.not_mem_nil⟩⟩) rfl rfl) ?_
        refine A_ready1 (i := 12) (by kernel_rfl) ?_
        refine O_newS rfl rfl (r_buildRows (vs := [[.slice A6 H[i].d.length c6, .slice A5 H[i].t.length c5]]) Tryd.underlying78 Tryd.sz77 Tryd.zero77 rfl rfl rfl) ?_
        intro w10 b10 E10 B10 L10
        refine ⟨trivial, ?_⟩
        refine A_ready1 (i := 13) (by kernel_rfl) ?_
        have hti2 : (H.take i).length = i := by rw [List.length_take]; omega
        have hX10 := hX.trans E10
        have hE46 := (hD.trans hE6).trans E10
        have hs6 := hX.size
        have hs10 := E10.size
        have hsl := hXl.size
        have hs5 := hX5.size
        have hs46 := (hD.trans hE6).size
        have hnew : revT.R w10 (fun b => F2 b ∨ since w0i w10 b) H[i] [.slice A6 H[i].d.length c6, .slice A5 H[i].t.length c5] :=
          rev_mk (r := H[i]) hc6 (by have := hok.2; omega) (hr6.keep (fun b hb => E10.block b hb.2) (fun b hb => Or.inr ⟨by have := hb.1; omega, by have := hb.2; omega⟩)) hc5 (by have := hok.1.1; omega) (hr5.keep (fun b hb => hE46.block b hb.2) (fun b hb => Or.inr ⟨by have := hb.1; omega, by have := hb.2; omega⟩))
        have hown : Eng.Own revT w10 (fun b => F2 b ∨ since w0i w10 b) w.heap.size 77 (.slice A2 i cap2) (H.take i) := (hO.ext hX10 (fun b hb => (hF2 b hb).2.1)).mono (fun b hb => Or.inl hb)
        have hF10 : ∀ b, (F2 b ∨ since w0i w10 b) → b < w10.heap.size ∧ (Value.slice A2 i cap2).ownBlock ≠ some b := fun b hb => hb.elim (fun q => ⟨by have := (hF2 b q).2.1; omega, (hF2 b q).2.2.2.2⟩) (fun q => ⟨q.2, fun k => by have := (hO.lt k).2; have := q.1; omega⟩)
        refine O_append (T := revT) (F := fun b => F2 b ∨ since w0i w10 b) (l := H.take i) (m := [H[i]]) rfl rfl rfl rfl Tryd.underlying78 Tryd.sz77 Tryd.by77 Tryd.zero77 rfl hown (Src.blk B10 hnew) hF10 (by simp only [List.length_singleton]; omega) (by simp only [List.length_singleton]; omega) (by have := hX'.size; omega) ?_
        intro v11 w11 hO11 hG11 hv11
        refine ⟨trivial, ?_⟩
        obtain ⟨A3, cap3, rfl, hc3, -⟩ := hO11.read
        refine A_take (i := 14) rfl (by kernel_rfl) (by kernel_rfl) (by kernel_rfl) rfl hS (fun _ hw => r_nilCheck rfl) ?_
        refine A_take (i := 15) rfl (by kernel_rfl) (by kernel_rfl) (by kernel_rfl) rfl hS (fun _ hw => r_fieldAddr rfl Tryd.fld81_0 rfl) ?_
        refine A_ready1 (i := 16) (by kernel_rfl) ?_
        have hX'' := hX'.trans hX10
        have hs11 := hG11.size
        have hp2l : p2 < w0i.heap.size := Blk.lt B2'
        have hm2l : m2 < w0i.heap.size := M2'.lt
        have hb10 : Blk w10 p2 #[.slice A2 i cap2, .map (some m2)] 81 := Blk.ext B2' hX10
        have hbp11 : Blk w11 p2 #[.slice A2 i cap2, .map (some m2)] 81 := hb10.at (hG11.block p2 (Blk.lt hb10) (fun q => (hv2 p2 q).1 rfl))
        refine O_store (v := .slice A3 (H.take i ++ [H[i]]).length cap3) rfl rfl rfl rfl Tryd.sz78 hbp11 (Nat.le_of_ble_eq_true rfl) ?_
        intro w12 C12 hbpE
        refine ⟨trivial, ?_⟩
        have hs12 := C12.size
        have M14 : MapAt .string w12 m2 (fun _ => none) := ((M2'.ext hX10).at (hG11.block m2 (by omega) (fun q => (hv2 m2 q).2 rfl))).chg C12 hmp2
        have hX11 : Ext w w11 := hX''.gro hG11 hX''.size (fun k hk => (hown.lt hk).1)
        have hX14 : Ext w w12 := Chg.ext hX11 hp2 C12
        have hoc : ∀ k, (Value.slice A3 (H.take i ++ [H[i]]).length cap3).ownBlock = some k → (Value.slice A2 i cap2).ownBlock = some k ∨ w10.heap.size ≤ k := fun k hk => by
          rcases hv11 with q | ⟨g9, q, hg9⟩
          · exact Or.inl (q.symm.trans hk)
          · rw [q] at hk; simp only [Option.some.injEq] at hk; exact Or.inr (by omega)
        have hvE : ∀ b, (Value.slice A3 (H.take i ++ [H[i]]).length cap3).ownBlock = some b → b ≠ p2 ∧ b ≠ m2 := fun b hb => by
          rcases hoc b hb with q | q
          · exact hv2 b q
          · exact ⟨by omega, by omega⟩
        have hFE : ∀ b, (F2 b ∨ since w0i w10 b) → w.heap.size ≤ b ∧ b < w12.heap.size ∧ b ≠ p2 ∧ b ≠ m2 ∧ (Value.slice A3 (H.take i ++ [H[i]]).length cap3).ownBlock ≠ some b := fun b hb => by
          have h1 := (hF10 b hb).1
          have h2 : (Value.slice A3 (H.take i ++ [H[i]]).length cap3).ownBlock ≠ some b := fun q => by
            rcases hoc b q with k | k
            · exact (hF10 b hb).2 k
            · omega
          rcases hb with q | q
          · obtain ⟨q1, q2, q3, q4, q5⟩ := hF2 b q
            exact ⟨q1, by omega, q3, q4, h2⟩
          · have := q.1; have := hX'.size; exact ⟨by omega, by omega, by omega, by omega, h2⟩
        have hOE := hO11.keep (w' := w12) (F' := fun b => F2 b ∨ since w0i w10 b) (fun b hb => C12.block b (by have := (hF10 b hb).1; omega) (hFE b hb).2.2.1) (fun _ h => h) (fun g9 hg9 => C12.block g9 (hO11.lt hg9).2 (hvE g9 hg9).1)
        refine A_done (by kernel_rfl) ?_
        refine W_region ?_
        refine op rfl (r_add' (r := ((i + 1 : Nat) : Int)) rfl rfl (by rw [wrap_i64 (by omega) (by omega)]; omega)) ?_
        refine op rfl (r_moveV (v := .int _ _) rfl) ?_
        refine WL_nil ?_
        refine ⟨?_, by repeat (first | with_reducible exact Out.refl _ _ | with_reducible exact Out.mix | refine Out.put rfl ?_ | refine Out.mixin rfl ?_ | exact Out.refl _ _ | exact Out.mix)⟩
        exact ⟨H.length - (i + 1), by omega, i + 1, _, _, rfl, by omega, rfl, hbpE, by rw [List.take_succ_eq_append_getElem hlt']; exact hOE, hFE, hvE, M14, hX14⟩
      · refine O_val rfl rfl (r_load (v := .slice Ad H[i].d.length cd) rfl Tryd.underlying33 rfl (Blk.cell B6_2 rfl)) (hS) ?_
        refine A_ready2 (i := 4) (j := 8) (by kernel_rfl) ?_ ?_
        · refine O_val rfl rfl (r_load (v := .slice A2 i cap2) rfl Tryd.underlying78 rfl (Blk.cell (by first | exact Blk.ext B2' hX | exact Blk.ext B2' (hX.trans E10)) rfl)) (hS) ?_
          refine A_ready1 (i := 8) (by kernel_rfl) ?_
          have hXl6 := hX.size
          refine O_call rfl rfl (r_call Tryd.func34 Tryd.nm34 rfl) (hde _ (hX'.trans hX)) ?_
          rintro v6 w6 ⟨hO6, hE⟩
          replace hS := trivial
          refine ⟨hS, ?_⟩
          replace hbp := Blk.ext hbp hE
          replace B6_2 := Blk.ext B6_2 hE
          replace hX := hX.trans hE
          obtain ⟨A6, c6, rfl, hc6, hr6⟩ := hO6.rd
          have hE6 := hE
          refine A_take (i := 9) rfl (by kernel_rfl) (by kernel_rfl) (by kernel_rfl) rfl hS (fun _ hw => r_build (cs := [.slice A6 H[i].d.length c6]) Tryd.lay75 (List.forall_mem_cons.2 ⟨rfl, fun _ h => absurd h List.not_mem_nil⟩) rfl rfl) ?_
          refine A_take (i := 11) rfl (by kernel_rfl) (by kernel_rfl) (by kernel_rfl) rfl hS (fun _ hw => r_build1 cellOf (cs := [.slice A6 H[i].d.length c6, .slice A5 H[i].t.length c5]) Tryd.lay77 (List.forall_mem_cons.2 ⟨rfl, List.forall_mem_cons.2 ⟨rfl, fun _ h => absurd h List.not_mem_nil⟩⟩) rfl rfl) ?_
          refine A_ready1 (i := 12) (by kernel_rfl) ?_
          refine O_newS rfl rfl (r_buildRows (vs := [[.slice A6 H[i].d.length c6, .slice A5 H[i].t.length c5]]) Tryd.underlying78 Tryd.sz77 Tryd.zero77 rfl rfl rfl) ?_
          intro w10 b10 E10 B10 L10
          refine ⟨trivial, ?_⟩
          refine A_ready1 (i := 13) (by kernel_rfl) ?_
          have hti2 : (H.take i).length = i := by rw [List.length_take]; omega
          have hX10 := hX.trans E10
          have hE46 := (hD.trans hE6).trans E10
          have hs6 := hX.size
          have hs10 := E10.size
          have hsl := hXl.size
          have hs5 := hX5.size
          have hs46 := (hD.trans hE6).size
          have hnew : revT.R w10 (fun b => F2 b ∨ since w0i w10 b) H[i] [.slice A6 H[i].d.length c6, .slice A5 H[i].t.length c5] :=
            rev_mk (r := H[i]) hc6 (by have := hok.2; omega) (hr6.keep (fun b hb => E10.block b hb.2) (fun b hb => Or.inr ⟨by have := hb.1; omega, by have := hb.2; omega⟩)) hc5 (by have := hok.1.1; omega) (hr5.keep (fun b hb => hE46.block b hb.2) (fun b hb => Or.inr ⟨by have := hb.1; omega, by have := hb.2; omega⟩))
          have hown : Eng.Own revT w10 (fun b => F2 b ∨ since w0i w10 b) w.heap.size 77 (.slice A2 i cap2) (H.take i) := (hO.ext hX10 (fun b hb => (hF2 b hb).2.1)).mono (fun b hb => Or.inl hb)
          have hF10 : ∀ b, (F2 b ∨ since w0i w10 b) → b < w10.heap.size ∧ (Value.slice A2 i cap2).ownBlock ≠ some b := fun b hb => hb.elim (fun q => ⟨by have := (hF2 b q).2.1; omega, (hF2 b q).2.2.2.2⟩) (fun q => ⟨q.2, fun k => by have := (hO.lt k).2; have := q.1; omega⟩)
          refine O_append (T := revT) (F := fun b => F2 b ∨ since w0i w10 b) (l := H.take i) (m := [H[i]]) rfl rfl rfl rfl Tryd.underlying78 Tryd.sz77 Tryd.by77 Tryd.zero77 rfl hown (Src.blk B10 hnew) hF10 (by simp only [List.length_singleton]; omega) (by simp only [List.length_singleton]; omega) (by have := hX'.size; omega) ?_
          intro v11 w11 hO11 hG11 hv11
          refine ⟨trivial, ?_⟩
          obtain ⟨A3, cap3, rfl, hc3, -⟩ := hO11.read
          refine A_take (i := 14) rfl (by kernel_rfl) (by kernel_rfl) (by kernel_rfl) rfl hS (fun _ hw => r_nilCheck rfl) ?_
          refine A_take (i := 15) rfl (by kernel_rfl) (by kernel_rfl) (by kernel_rfl) rfl hS (fun _ hw => r_fieldAddr rfl Tryd.fld81_0 rfl) ?_
          refine A_ready1 (i := 16) (by kernel_rfl) ?_
          have hX'' := hX'.trans hX10
          have hs11 := hG11.size
          have hp2l : p2 < w0i.heap.size := Blk.lt B2'
          have hm2l : m2 < w0i.heap.size := M2'.lt
          have hb10 : Blk w10 p2 #[.slice A2 i cap2, .map (some m2)] 81 := Blk.ext B2' hX10
          have hbp11 : Blk w11 p2 #[.slice A2 i cap2, .map (some m2)] 81 := hb10.at (hG11.block p2 (Blk.lt hb10) (fun q => (hv2 p2 q).1 rfl))
          refine O_store (v := .slice A3 (H.take i ++ [H[i]]).length cap3) rfl rfl rfl rfl Tryd.sz78 hbp11 (Nat.le_of_ble_eq_true rfl) ?_
          intro w12 C12 hbpE
          refine ⟨trivial, ?_⟩
          have hs12 := C12.size
          have M14 : MapAt .string w12 m2 (fun _ => none) := ((M2'.ext hX10).at (hG11.block m2 (by omega) (fun q => (hv2 m2 q).2 rfl))).chg C12 hmp2
          have hX11 : Ext w w11 := hX''.gro hG11 hX''.size (fun k hk => (hown.lt hk).1)
          have hX14 : Ext w w12 := Chg.ext hX11 hp2 C12
          have hoc : ∀ k, (Value.slice A3 (H.take i ++ [H[i]]).length cap3).ownBlock = some k → (Value.slice A2 i cap2).ownBlock = some k ∨ w10.heap.size ≤ k := fun k hk => by
            rcases hv11 with q | ⟨g9, q, hg9⟩
            · exact Or.inl (q.symm.trans hk)
            · rw [q] at hk; simp only [Option.some.injEq] at hk; exact Or.inr (by omega)
          have hvE : ∀ b, (Value.slice A3 (H.take i ++ [H[i]]).length cap3).ownBlock = some b → b ≠ p2 ∧ b ≠ m2 := fun b hb => by
            rcases hoc b hb with q | q
            · exact hv2 b q
            · exact ⟨by omega, by omega⟩
          have hFE : ∀ b, (F2 b ∨ since w0i w10 b) → w.heap.size ≤ b ∧ b < w12.heap.size ∧ b ≠ p2 ∧ b ≠ m2 ∧ (Value.slice A3 (H.take i ++ [H[i]]).length cap3).ownBlock ≠ some b := fun b hb => by
            have h1 := (hF10 b hb).1
            have h2 : (Value.slice A3 (H.take i ++ [H[i]]).length cap3).ownBlock ≠ some b := fun q => by
              rcases hoc b q with k | k
              · exact (hF10 b hb).2 k
              · omega
            rcases hb with q | q
            · obtain ⟨q1, q2, q3, q4, q5⟩ := hF2 b q
              exact ⟨q1, by omega, q3, q4, h2⟩
            · have := q.1; have := hX'.size; exact ⟨by omega, by omega, by omega, by omega, h2⟩
          have hOE := hO11.keep (w' := w12) (F' := fun b => F2 b ∨ since w0i w10 b) (fun b hb => C12.block b (by have := (hF10 b hb).1; omega) (hFE b hb).2.2.1) (fun _ h => h) (fun g9 hg9 => C12.block g9 (hO11.lt hg9).2 (hvE g9 hg9).1)
          refine A_done (by kernel_rfl) ?_
          refine W_region ?_
          refine op rfl (r_add' (r := ((i + 1 : Nat) : Int)) rfl rfl (by rw [wrap_i64 (by omega) (by omega)]; omega)) ?_
          refine op rfl (r_moveV (v := .int _ _) rfl) ?_
          refine WL_nil ?_
          refine ⟨?_, by repeat (first | with_reducible exact Out.refl _ _ | with_reducible exact Out.mix | refine Out.put rfl ?_ | refine Out.mixin rfl ?_ | exact Out.refl _ _ | exact Out.mix)⟩
          exact ⟨H.length - (i + 1), by omega, i + 1, _, _, rfl, by omega, rfl, hbpE, by rw [List.take_succ_eq_append_getElem hlt']; exact hOE, hFE, hvE, M14, hX14⟩
        · have hXl6 := hX.size
          refine O_call rfl rfl (r_call Tryd.func34 Tryd.nm34 rfl) (hde _ (hX'.trans hX)) ?_
          rintro v6 w6 ⟨hO6, hE⟩
          replace hS := trivial
          refine ⟨hS, ?_⟩
          replace hbp := Blk.ext hbp hE
          replace B6_2 := Blk.ext B6_2 hE
          replace hX := hX.trans hE
          obtain ⟨A6, c6, rfl, hc6, hr6⟩ := hO6.rd
          have hE6 := hE
          refine A_take (i := 9) rfl (by kernel_rfl) (by kernel_rfl) (by kernel_rfl) rfl hS (fun _ hw => r_build (cs := [.slice A6 H[i].d.length c6]) Tryd.lay75 (List.forall_mem_cons.2 ⟨rfl, fun _ h => absurd h List.not_mem_nil⟩) rfl rfl) ?_
          refine A_take (i := 11) rfl (by kernel_rfl) (by kernel_rfl) (by kernel_rfl) rfl hS (fun _ hw => r_build1 cellOf (cs := [.slice A6 H[i].d.length c6, .slice A5 H[i].t.length c5]) Tryd.lay77 (List.forall_mem_cons.2 ⟨rfl, List.forall_mem_cons.2 ⟨rfl, fun _ h => absurd h List.not_mem_nil⟩⟩) rfl rfl) ?_
          refine A_ready2 (i := 4) (j := 12) (by kernel_rfl) ?_ ?_
          · refine O_val rfl rfl (r_load (v := .slice A2 i cap2) rfl Tryd.underlying78 rfl (Blk.cell (by first | exact Blk.ext B2' hX | exact Blk.ext B2' (hX.trans E10)) rfl)) (hS) ?_
            refine A_ready1 (i := 12) (by kernel_rfl) ?_
            refine O_newS rfl rfl (r_buildRows (vs := [[.slice A6 H[i].d.length c6, .slice A5 H[i].t.length c5]]) Tryd.underlying78 Tryd.sz77 Tryd.zero77 rfl rfl rfl) ?_
            intro w10 b10 E10 B10 L10
            refine ⟨trivial, ?_⟩
            refine A_ready1 (i := 13) (by kernel_rfl) ?_
            have hti2 : (H.take i).length = i := by rw [List.length_take]; omega
            have hX10 := hX.trans E10
            have hE46 := (hD.trans hE6).trans E10
            have hs6 := hX.size
            have hs10 := E10.size
            have hsl := hXl.size
            have hs5 := hX5.size
            have hs46 := (hD.trans hE6).size
            have hnew : revT.R w10 (fun b => F2 b ∨ since w0i w10 b) H[i] [.slice A6 H[i].d.length c6, .slice A5 H[i].t.length c5] :=
              rev_mk (r := H[i]) hc6 (by have := hok.2; omega) (hr6.keep (fun b hb => E10.block b hb.2) (fun b hb => Or.inr ⟨by have := hb.1; omega, by have := hb.2; omega⟩)) hc5 (by have := hok.1.1; omega) (hr5.keep (fun b hb => hE46.block b hb.2) (fun b hb => Or.inr ⟨by have := hb.1; omega, by have := hb.2; omega⟩))
            have hown : Eng.Own revT w10 (fun b => F2 b ∨ since w0i w10 b) w.heap.size 77 (.slice A2 i cap2) (H.take i) := (hO.ext hX10 (fun b hb => (hF2 b hb).2.1)).mono (fun b hb => Or.inl hb)
            have hF10 : ∀ b, (F2 b ∨ since w0i w10 b) → b < w10.heap.size ∧ (Value.slice A2 i cap2).ownBlock ≠ some b := fun b hb => hb.elim (fun q => ⟨by have := (hF2 b q).2.1; omega, (hF2 b q).2.2.2.2⟩) (fun q => ⟨q.2, fun k => by have := (hO.lt k).2; have := q.1; omega⟩)
            refine O_append (T := revT) (F := fun b => F2 b ∨ since w0i w10 b) (l := H.take i) (m := [H[i]]) rfl rfl rfl rfl Tryd.underlying78 Tryd.sz77 Tryd.by77 Tryd.zero77 rfl hown (Src.blk B10 hnew) hF10 (by simp only [List.length_singleton]; omega) (by simp only [List.length_singleton]; omega) (by have := hX'.size; omega) ?_
            intro v11 w11 hO11 hG11 hv11
            refine ⟨trivial, ?_⟩
            obtain ⟨A3, cap3, rfl, hc3, -⟩ := hO11.read
            refine A_take (i := 14) rfl (by kernel_rfl) (by kernel_rfl) (by kernel_rfl) rfl hS (fun _ hw => r_nilCheck rfl) ?_
            refine A_take (i := 15) rfl (by kernel_rfl) (by kernel_rfl) (by kernel_rfl) rfl hS (fun _ hw => r_fieldAddr rfl Tryd.fld81_0 rfl) ?_
            refine A_ready1 (i := 16) (by kernel_rfl) ?_
            have hX'' := hX'.trans hX10
            have hs11 := hG11.size
            have hp2l : p2 < w0i.heap.size := Blk.lt B2'
            have hm2l : m2 < w0i.heap.size := M2'.lt
            have hb10 : Blk w10 p2 #[.slice A2 i cap2, .map (some m2)] 81 := Blk.ext B2' hX10
            have hbp11 : Blk w11 p2 #[.slice A2 i cap2, .map (some m2)] 81 := hb10.at (hG11.block p2 (Blk.lt hb10) (fun q => (hv2 p2 q).1 rfl))
            refine O_store (v := .slice A3 (H.take i ++ [H[i]]).length cap3) rfl rfl rfl rfl Tryd.sz78 hbp11 (Nat.le_of_ble_eq_true rfl) ?_
            intro w12 C12 hbpE
            refine ⟨trivial, ?_⟩
            have hs12 := C12.size
            have M14 : MapAt .string w12 m2 (fun _ => none) := ((M2'.ext hX10).at (hG11.block m2 (by omega) (fun q => (hv2 m2 q).2 rfl))).chg C12 hmp2
            have hX11 : Ext w w11 := hX''.gro hG11 hX''.size (fun k hk => (hown.lt hk).1)
            have hX14 : Ext w w12 := Chg.ext hX11 hp2 C12
            have hoc : ∀ k, (Value.slice A3 (H.take i ++ [H[i]]).length cap3).ownBlock = some k → (Value.slice A2 i cap2).ownBlock = some k ∨ w10.heap.size ≤ k := fun k hk => by
              rcases hv11 with q | ⟨g9, q, hg9⟩
              · exact Or.inl (q.symm.trans hk)
              · rw [q] at hk; simp only [Option.some.injEq] at hk; exact Or.inr (by omega)
            have hvE : ∀ b, (Value.slice A3 (H.take i ++ [H[i]]).length cap3).ownBlock = some b → b ≠ p2 ∧ b ≠ m2 := fun b hb => by
              rcases hoc b hb with q | q
              · exact hv2 b q
              · exact ⟨by omega, by omega⟩
            have hFE : ∀ b, (F2 b ∨ since w0i w10 b) → w.heap.size ≤ b ∧ b < w12.heap.size ∧ b ≠ p2 ∧ b ≠ m2 ∧ (Value.slice A3 (H.take i ++ [H[i]]).length cap3).ownBlock ≠ some b := fun b hb => by
              have h1 := (hF10 b hb).1
              have h2 : (Value.slice A3 (H.take i ++ [H[i]]).length cap3).ownBlock ≠ some b := fun q => by
                rcases hoc b q with k | k
                · exact (hF10 b hb).2 k
                · omega
              rcases hb with q | q
              · obtain ⟨q1, q2, q3, q4, q5⟩ := hF2 b q
                exact ⟨q1, by omega, q3, q4, h2⟩
              · have := q.1; have := hX'.size; exact ⟨by omega, by omega, by omega, by omega, h2⟩
            have hOE := hO11.keep (w' := w12) (F' := fun b => F2 b ∨ since w0i w10 b) (fun b hb => C12.block b (by have := (hF10 b hb).1; omega) (hFE b hb).2.2.1) (fun _ h => h) (fun g9 hg9 => C12.block g9 (hO11.lt hg9).2 (hvE g9 hg9).1)
            refine A_done (by kernel_rfl) ?_
            refine W_region ?_
            refine op rfl (r_add' (r := ((i + 1 : Nat) : Int)) rfl rfl (by rw [wrap_i64 (by omega) (by omega)]; omega)) ?_
            refine op rfl (r_moveV (v := .int _ _) rfl) ?_
            refine WL_nil ?_
            refine ⟨?_, by repeat (first | with_reducible exact Out.refl _ _ | with_reducible exact Out.mix | refine Out.put rfl ?_ | refine Out.mixin rfl ?_ | exact Out.refl _ _ | exact Out.mix)⟩
            exact ⟨H.length - (i + 1), by omega, i + 1, _, _, rfl, by omega, rfl, hbpE, by rw [List.take_succ_eq_append_getElem hlt']; exact hOE, hFE, hvE, M14, hX14⟩
          · refine O_newS rfl rfl (r_buildRows (vs := [[.slice A6 H[i].d.length c6, .slice A5 H[i].t.length c5]]) Tryd.underlying78 Tryd.sz77 Tryd.zero77 rfl rfl rfl) ?_
            intro w10 b10 E10 B10 L10
            refine ⟨trivial, ?_⟩
            refine A_ready1 (i := 4) (by kernel_rfl) ?_
            refine O_val rfl rfl (r_load (v := .slice A2 i cap2) rfl Tryd.underlying78 rfl (Blk.cell (by first | exact Blk.ext B2' hX | exact Blk.ext B2' (hX.trans E10)) rfl)) (hS) ?_
            refine A_ready1 (i := 13) (by kernel_rfl) ?_
            have hti2 : (H.take i).length = i := by rw [List.length_take]; omega
            have hX10 := hX.trans E10
            have hE46 := (hD.trans hE6).trans E10
            have hs6 := hX.size
            have hs10 := E10.size
            have hsl := hXl.size
            have hs5 := hX5.size
            have hs46 := (hD.trans hE6).size
            have hnew : revT.R w10 (fun b => F2 b ∨ since w0i w10 b) H[i] [.slice A6 H[i].d.length c6, .slice A5 H[i].t.length c5] :=
              rev_mk (r := H[i]) hc6 (by have := hok.2; omega) (hr6.keep (fun b hb => E10.block b hb.2) (fun b hb => Or.inr ⟨by have := hb.1; omega, by have := hb.2; omega⟩)) hc5 (by have := hok.1.1; omega) (hr5.keep (fun b hb => hE46.block b hb.2) (fun b hb => Or.inr ⟨by have := hb.1; omega, by have := hb.2; omega⟩))
            have hown : Eng.Own revT w10 (fun b => F2 b ∨ since w0i w10 b) w.heap.size 77 (.slice A2 i cap2) (H.take i) := (hO.ext hX10 (fun b hb => (hF2 b hb).2.1)).mono (fun b hb => Or.inl hb)
            have hF10 : ∀ b, (F2 b ∨ since w0i w10 b) → b < w10.heap.size ∧ (Value.slice A2 i cap2).ownBlock ≠ some b := fun b hb => hb.elim (fun q => ⟨by have := (hF2 b q).2.1; omega, (hF2 b q).2.2.2.2⟩) (fun q => ⟨q.2, fun k => by have := (hO.lt k).2; have := q.1; omega⟩)
            refine O_append (T := revT) (F := fun b => F2 b ∨ since w0i w10 b) (l := H.take i) (m := [H[i]]) rfl rfl rfl rfl Tryd.underlying78 Tryd.sz77 Tryd.by77 Tryd.zero77 rfl hown (Src.blk B10 hnew) hF10 (by simp only [List.length_singleton]; omega) (by simp only [List.length_singleton]; omega) (by have := hX'.size; omega) ?_
            intro v11 w11 hO11 hG11 hv11
            refine ⟨trivial, ?_⟩
            obtain ⟨A3, cap3, rfl, hc3, -⟩ := hO11.read
            refine A_take (i := 14) rfl (by kernel_rfl) (by kernel_rfl) (by kernel_rfl) rfl hS (fun _ hw => r_nilCheck rfl) ?_
            refine A_take (i := 15) rfl (by kernel_rfl) (by kernel_rfl) (by kernel_rfl) rfl hS (fun _ hw => r_fieldAddr rfl Tryd.fld81_0 rfl) ?_
            refine A_ready1 (i := 16) (by kernel_rfl) ?_
            have hX'' := hX'.trans hX10
            have hs11 := hG11.size
            have hp2l : p2 < w0i.heap.size := Blk.lt B2'
            have hm2l : m2 < w0i.heap.size := M2'.lt
            have hb10 : Blk w10 p2 #[.slice A2 i cap2, .map (some m2)] 81 := Blk.ext B2' hX10
            have hbp11 : Blk w11 p2 #[.slice A2 i cap2, .map (some m2)] 81 := hb10.at (hG11.block p2 (Blk.lt hb10) (fun q => (hv2 p2 q).1 rfl))
            refine O_store (v := .slice A3 (H.take i ++ [H[i]]).length cap3) rfl rfl rfl rfl Tryd.sz78 hbp11 (Nat.le_of_ble_eq_true rfl) ?_
            intro w12 C12 hbpE
            refine ⟨trivial, ?_⟩
            have hs12 := C12.size
            have M14 : MapAt .string w12 m2 (fun _ => none) := ((M2'.ext hX10).at (hG11.block m2 (by omega) (fun q => (hv2 m2 q).2 rfl))).chg C12 hmp2
            have hX11 : Ext w w11 := hX''.gro hG11 hX''.size (fun k hk => (hown.lt hk).1)
            have hX14 : Ext w w12 := Chg.ext hX11 hp2 C12
            have hoc : ∀ k, (Value.slice A3 (H.take i ++ [H[i]]).length cap3).ownBlock = some k → (Value.slice A2 i cap2).ownBlock = some k ∨ w10.heap.size ≤ k := fun k hk => by
              rcases hv11 with q | ⟨g9, q, hg9⟩
              · exact Or.inl (q.symm.trans hk)
              · rw [q] at hk; simp only [Option.some.injEq] at hk; exact Or.inr (by omega)
            have hvE : ∀ b, (Value.slice A3 (H.take i ++ [H[i]]).length cap3).ownBlock = some b → b ≠ p2 ∧ b ≠ m2 := fun b hb => by
              rcases hoc b hb with q | q
              · exact hv2 b q
              · exact ⟨by omega, by omega⟩
            have hFE : ∀ b, (F2 b ∨ since w0i w10 b) → w.heap.size ≤ b ∧ b < w12.heap.size ∧ b ≠ p2 ∧ b ≠ m2 ∧ (Value.slice A3 (H.take i ++ [H[i]]).length cap3).ownBlock ≠ some b := fun b hb => by
              have h1 := (hF10 b hb).1
              have h2 : (Value.slice A3 (H.take i ++ [H[i]]).length cap3).ownBlock ≠ some b := fun q => by
                rcases hoc b q with k | k
                · exact (hF10 b hb).2 k
                · omega
              rcases hb with q | q
              · obtain ⟨q1, q2, q3, q4, q5⟩ := hF2 b q
                exact ⟨q1, by omega, q3, q4, h2⟩
              · have := q.1; have := hX'.size; exact ⟨by omega, by omega, by omega, by omega, h2⟩
            have hOE := hO11.keep (w' := w12) (F' := fun b => F2 b ∨ since w0i w10 b) (fun b hb => C12.block b (by have := (hF10 b hb).1; omega) (hFE b hb).2.2.1) (fun _ h => h) (fun g9 hg9 => C12.block g9 (hO11.lt hg9).2 (hvE g9 hg9).1)
            refine A_done (by kernel_rfl) ?_
            refine W_region ?_
            refine op rfl (r_add' (r := ((i + 1 : Nat) : Int)) rfl rfl (by rw [wrap_i64 (by omega) (by omega)]; omega)) ?_
            refine op rfl (r_moveV (v := .int _ _) rfl) ?_
            refine WL_nil ?_
            refine ⟨?_, by repeat (first | with_reducible exact Out.refl _ _ | with_reducible exact Out.mix | refine Out.put rfl ?_ | refine Out.mixin rfl ?_ | exact Out.refl _ _ | exact Out.mix)⟩
            exact ⟨H.length - (i + 1), by omega, i + 1, _, _, rfl, by omega, rfl, hbpE, by rw [List.take_succ_eq_append_getElem hlt']; exact hOE, hFE, hvE, M14, hX14⟩
    · obtain rfl : i = H.length := by omega
      rw [List.take_length] at hO
      have hbpw := Blk.ext h.bp hX'
      have hesw : w0i.heap[m]? = some (.map es clock) := by rw [hX'.block m hml]; exact hes
      have hp2l : p2 < w0i.heap.size := Blk.lt B2'
      have hm2l : m2 < w0i.heap.size := M2'.lt
      refine W_exit (blk_hit ?_)
      refine W_seq ?_
      refine W_seq ?_
      refine W_region ?_
      refine op rfl (r_moveV (v := .pointer _) rfl) ?_
      refine op rfl (r_nilCheck rfl) ?_
      refine op rfl (r_fieldAddr rfl Tryd.fld81_1 rfl) ?_
      refine op rfl (r_load (v := .map (some m)) rfl Tryd.underlying79 rfl (Blk.cell hbpw rfl)) ?_
      refine op_range rfl rfl Tryd.underlying79 hesw hst ?_
      intro w20 it E20 R20 L20
      have hX20 := hX'.trans E20
      have M20 := M2'.ext E20
      clear hX
      have hX := hX20
      refine WL_nil ?_
      refine W_block ?_
      refine W_loop [8, 9, 52, 53, 54, 55, 56, 57, 58, 59, 60, 61, 62] (fun q e' w' => ∃ (seen : Array Nat) (f2 : Value → Option Value), q = (leftOf es seen).size ∧ RangeAt w' it m es seen ∧ MapAt .string w' m2 f2 ∧ SeenF f2 es seen ∧ Mv (fun b => b = it ∨ b = m2) w20 w') ((leftOf es #[]).size) ?_ ?_
      · exact ⟨#[], _, rfl, R20, M20, SeenF.nil es, Mv.of_ext (Ext.refl _)⟩
      intro k g w' hI
      obtain ⟨seen, f2, hq2, hR, hM2, hSe, hMv⟩ := hI
      clear hX
      have hX : Ext w w' := ext_mv hX20 hMv (fun b hb => by have := hX'.size; rcases hb with q | q <;> omega)
      obtain ⟨w1i, hw1i⟩ : ∃ x, x = w' := ⟨_, rfl⟩
      subst hw1i
      refine W_seq ?_
      refine W_region ?_
      refine op_next rfl rfl hR ?_
      intro w21 nb nk nv C21 hnf hnt
      clear hX
      have hMv21 : Mv (fun b => b = it ∨ b = m2) w20 w21 := hMv.trans (Mv.of_chg C21 (Or.inl rfl))
      have hX : Ext w w21 := ext_mv hX20 hMv21 (fun b hb => by have := hX'.size; rcases hb with q | q <;> omega)
      refine op rfl (r_extNext rfl) ?_
      refine WL_nil ?_
      refine W_seq ?_
      refine W_if rfl (fun ht53 => ?_) (fun ht53 => ?_)
      · obtain ⟨en, hen, rfl, rfl, hR12⟩ := hnt ht53
        have hs20 := E20.size
        have hpit : p2 ≠ it := by omega
        have hmit : m2 ≠ it := by omega
        have B2e := (hMv21.blk (Blk.ext B2' E20) (fun q => q.elim hpit (fun k => hmp2 k.symm)))
        have M2e := hM2.chg C21 hmit
        refine W_skip ?_
        refine W_block ?_
        refine W_seq ?_
        refine W_region ?_
        refine op rfl (r_entryG rfl hR12 (mem_left hen).1) ?_
        refine op rfl (r_extract (vs := [en.key, en.val]) (v := en.key) rfl rfl) ?_
        refine op rfl (r_extract (vs := [en.key, en.val]) (v := en.val) rfl rfl) ?_
        refine op rfl (r_assignV (v := en.key) rfl) ?_
        refine op rfl (r_assignV (v := en.val) rfl) ?_
        refine WL_nil ?_
        refine W_region ?_
        refine op rfl (r_moveV (v := hp p2) rfl) ?_
        refine op rfl (r_nilCheck rfl) ?_
        refine op rfl (r_fieldAddr rfl Tryd.fld81_1 rfl) ?_
        skip
        refine op rfl (r_load (v := .map (some m2)) rfl Tryd.underlying79 rfl (Blk.cell B2e rfl)) ?_
        refine op rfl (r_moveV (v := en.key) rfl) ?_
        refine op rfl (r_moveV (v := en.val) rfl) ?_
        refine op_updateK (v := en.val) (k := en.key) (by rfl) (by rfl) (by rfl) Tryd.underlying79 Tryd.underlying9 (hkeys en (mem_left hen).1) (M2e) ?_
        intro w13 C13 M13
        have hMv13 := hMv21.trans (Mv.of_chg C13 (Or.inr rfl))
        have hR13 := hR12.chg C13 (fun q => hmit q.symm) (fun q => by omega)
        clear hX
        have hX : Ext w w13 := ext_mv hX20 hMv13 (fun b hb => by have := hX'.size; rcases hb with q | q <;> omega)
        refine WL_nil ?_
        refine ⟨?_, by repeat (first | with_reducible exact Out.refl _ _ | with_reducible exact Out.mix | refine Out.put rfl ?_ | refine Out.mixin rfl ?_ | exact Out.refl _ _ | exact Out.mix)⟩
        exact ⟨(leftOf es (seen.push en.born)).size, by rw [hq2]; exact left_shrinks es seen en hen, _, _, rfl, hR13, M13, hSe.put hst.2.2 hst.2.1 (mem_left hen).1, hMv13⟩
      · refine W_exit (blk_hit ?_)
        refine W_seq ?_
        refine W_region ?_
        refine op rfl (r_moveV (v := hp p2) rfl) ?_
        refine op rfl (r_assignV (v := hp p2) rfl) ?_
        refine WL_nil ?_
        refine W_ret (finX_ret ?_)
        refine fin1 ?_
        obtain ⟨hno, -⟩ := hnf ht53
        have hs20 := E20.size
        have hpit : p2 ≠ it := by omega
        have hmit : m2 ≠ it := by omega
        have hall := hSe.all hno
        have hff : ∀ k, f2 k = f k := fun k => by
          cases h2 : f2 k with
          | some v => exact ((hiff k v).2 ((hall k v).1 h2)).symm
          | none =>
            cases h1 : f k with
            | none => rfl
            | some v => rw [(hall k v).2 ((hiff k v).1 h1)] at h2; cases h2
        have hw0 := hX'.size
        have hkeep : ∀ b, b < w0i.heap.size → b ≠ m2 → w21.heap[b]? = w0i.heap[b]? := fun b h1 h2 => by
          rw [hMv21.block b (by omega) (fun q => q.elim (fun k => by omega) h2)]
          exact E20.block b h1
        have hHA : HistAt p2 m2 (.slice A2 H.length cap2) F2 w21 H := by
          refine ⟨(Blk.at B2' (hkeep p2 hp2l (fun q => hmp2 q.symm))), Own.low (hO.keep (fun b hb => hkeep b (hF2 b hb).2.1 (hF2 b hb).2.2.2.1) (fun _ h => h) (fun g hg => hkeep g (hO.lt hg).2 (hv2 g hg).2)) (Nat.zero_le _), ⟨f2, hM2.chg C21 hmit, fun s => by rw [hff]; exact hlf s⟩, fun q => (hv2 p2 q).1 rfl, fun b hb => ⟨by have := (hF2 b hb).2.1; have := hMv21.size; omega, (hF2 b hb).2.2.1, (hF2 b hb).2.2.2.1, (hF2 b hb).2.2.2.2⟩, h.ok, h.ne, h.sm⟩
        refine ⟨_, rfl, p2, rfl, ⟨m2, _, F2, hHA, fun b hb => ⟨?_, hHA.lt b hb⟩⟩, hX⟩
        rcases hb with q | q | q | q
        · omega
        · omega
        · exact (hO.lt q).1
        · exact (hF2 b q).1
end Go.Proofs.YtkdcmdcdjnmkaaaDoor
