/-
  The walks of package queue: answer, Step.
-/
import Derived.Test.YtmedmajdoecjfaaDoorFacts
import Derived.Test.YtmedmajdoecjfaaDoorQueT
namespace Go.Proofs.YtmedmajdoecjfaaDoor
open Go Go.Eng Go.RowKit Go.Proofs
set_option linter.unusedVariables false
set_option linter.unusedSimpArgs false
set_option maxHeartbeats 1000000
set_option maxRecDepth 20000

theorem late_iff {H : List Rv} {r : Rq} : lateR H r ↔ 0 < (sinceR H r.base (r.l.map Dl.p)).length := by
  unfold lateR sinceR
  rw [List.length_pos_iff_exists_mem]
  constructor
  · rintro ⟨d, hd, h⟩; exact ⟨d.p, List.mem_filter.2 ⟨List.mem_map.2 ⟨d, hd, rfl⟩, decide_eq_true h⟩⟩
  · rintro ⟨s, hs⟩; obtain ⟨h1, h2⟩ := List.mem_filter.1 hs; obtain ⟨d, hd, rfl⟩ := List.mem_map.1 h1; exact ⟨d, hd, of_decide_eq_true h2⟩
theorem ans2 {H : List Rv} {r : Rq} {p : Bool} (h : lateR H r) : answerR H r p = (H, ⟨r.id, 2, 0, 0⟩) := by unfold answerR; rw [if_pos h]
theorem ans3 {H : List Rv} {r : Rq} {p : Bool} (h : ¬ lateR H r) (h1 : p = false) : answerR H r p = (H, ⟨r.id, 3, 0, 0⟩) := by unfold answerR; rw [if_neg h, if_pos h1]
theorem ans4 {H : List Rv} {r : Rq} {p : Bool} (h : ¬ lateR H r) (h1 : ¬ p = false) (h2 : (commitR H r.l).2.2 ≠ 0) : answerR H r p = ((commitR H r.l).1, ⟨r.id, 4, 0, (commitR H r.l).2.2⟩) := by unfold answerR; rw [if_neg h, if_neg h1, if_pos h2]
theorem ans1 {H : List Rv} {r : Rq} {p : Bool} (h : ¬ lateR H r) (h1 : ¬ p = false) (h2 : ¬ (commitR H r.l).2.2 ≠ 0) : answerR H r p = ((commitR H r.l).1, ⟨r.id, 1, (commitR H r.l).2.1, 0⟩) := by unfold answerR; rw [if_neg h, if_neg h1, if_neg h2]
theorem Hist.widen {p : Nat} {Z Z' : Nat → Prop} {w : World} {H : List Rv} (h : Hist p Z w H) (hz : ∀ b, Z b → Z' b) : Hist p Z' w H := by
  obtain ⟨m, v, F, h1, h2⟩ := h; exact ⟨m, v, F, h1, fun b hb => hz b (h2 b hb)⟩
theorem answer_spec {pq pm ph : Nat} {v x2 x3 : Value} {Zh Gr : Nat → Prop} {w : World} {H : List Rv} {r : Rq} {A : Option Addr} {c : Nat} (hbq : Blk w pq #[.pointer (some ⟨pm, 0, none⟩), v, x2, x3] 113) (hbm : Blk w pm #[hp ph] 108) (hH : Hist ph Zh w H) (hZ : ∀ b, Zh b → b < w.heap.size)
    (hG : ∀ b, Gr b → b < w.heap.size ∧ ¬ Zh b) (hR : rqT.R w Gr r [.int .i64 r.id, .int .i64 r.base, .slice A r.l.length c]) (hdl : r.l.length * 48 ≤ 140737488355328) (pass : Bool) :
    Calls Tryd.prog 50 #[hp pq, .agg #[.int .i64 r.id, .int .i64 r.base, .slice A r.l.length c], .bool pass] w (fun en w' => ∃ u, en = .returned u ∧ u = .agg (answerR H r pass).2.vals.toArray ∧ Hist ph (fun b => Zh b ∨ since w w' b) w' (answerR H r pass).1 ∧ Mv Zh w w') := by
  obtain ⟨A', c', hcs, hid, hba, hc1, hc2, hdr⟩ := rq_cells hR
  simp only [List.cons.injEq, Value.slice.injEq, and_true, true_and] at hcs
  obtain ⟨rfl, rfl⟩ := hcs; have hdat := dl_at hdr; have hpl := dl_pl hdr
  have hun : ∀ W, Ext w W → Hist ph (fun b => Zh b ∨ since w W b) W H ∧ Mv Zh w W := fun W he => ⟨by
    obtain ⟨m', v', F', h1, h2⟩ := hH.ext he
    exact ⟨m', v', F', h1, fun b hb => Or.inl (h2 b hb)⟩, Mv.of_ext he⟩
  refine calls' (n := 71) (rs := #[.cell 6 43]) (l := [hp pq, .agg #[.int .i64 r.id, .int .i64 r.base, .slice A r.l.length c], .bool pass]) Tryd.func50 rfl rfl rfl rfl rfl ?_; have hX := Ext.refl w; refine W_seq ?_; refine W_region ?_; refine op_box (v := .agg _) rfl rfl ?_; intro w0_0 b0_0 E0_0 B0_0 L0_0
  have hG0_0 : w.heap.size ≤ b0_0 := by have := hX.size; omega
  replace hX := hX.trans E0_0; refine op_alloc rfl Tryd.zero43 ?_; intro w0_1 b0_1 E0_1 B0_1 L0_1
  have hG0_1 : w.heap.size ≤ b0_1 := by have := hX.size; omega
  have hNb0_0_0_1 : b0_0 ≠ b0_1 := by have := Blk.lt B0_0; omega
  replace B0_0 := Blk.ext B0_0 E0_1; replace hX := hX.trans E0_1; refine WL_nil ?_; refine W_seq ?_; refine W_region ?_; have hX01 := hX; have lb0 := Blk.lt B0_0; have lb1 := Blk.lt B0_1; refine op rfl (r_assignV (v := .slice none 0 0) rfl) ?_; refine WL_nil ?_; refine W_seq ?_; refine W_seq ?_; refine W_region ?_; refine op rfl (r_fieldAddr rfl Tryd.fld41_2 rfl) ?_; refine op rfl (r_load (v := .slice A r.l.length c) rfl Tryd.underlying39 rfl (Blk.cell B0_0 rfl)) ?_; refine op rfl (r_len_slice rfl Tryd.underlying39) ?_; refine op rfl (r_moveV (v := .int _ _) rfl) ?_; refine WL_nil ?_; refine W_block ?_; refine W_loop [7, 9, 15, 16, 17, 18, 19, 20, 21, 22, 23, 24] (fun qq e' w' => ∃ (i : Nat) (v : Value), qq = r.l.length - i ∧ i ≤ r.l.length ∧ e' 15 = .int .i64 i ∧ e' 7 = v ∧ Eng.Own strT w' nobody w0_1.heap.size 9 v ((r.l.take i).map Dl.p) ∧ Blk w' b0_0 #[.int .i64 r.id, .int .i64 r.base, .slice A r.l.length c] 41 ∧ Blk w' b0_1 #[.int .i64 0, .int .i64 0, .int .i64 0, .int .i64 0] 43 ∧ Ext w0_1 w') (r.l.length) ?_ ?_
  · exact ⟨0, _, by omega, by omega, rfl, rfl, .nil, B0_0, B0_1, Ext.refl _⟩
  intro k g w' hI; obtain ⟨i, v7, hq, hi, h15, h7, hO, B0', B1', hX'⟩ := hI; clear hX B0_0 B0_1; have hX := hX'; have B0_0 := B0'; have B0_1 := B1'; refine W_set (i := 15) h15 ?_; refine W_set (i := 7) h7 ?_; refine W_seq ?_; refine W_region ?_; refine op rfl (r_lss rfl rfl) ?_; refine WL_nil ?_; refine W_seq ?_; refine W_ifp rfl (fun ht16 => ?_) (fun ht16 => ?_)
  · have hlt : i < r.l.length := by omega
    obtain ⟨g1, o1, Ai, ci, hA1, hc1⟩ := hdat i hlt; refine W_skip ?_; refine W_seq ?_; refine W_block ?_; refine W_seq ?_; refine W_region ?_; refine op rfl (r_indexAddrK (by rw [← hA1]; rfl) rfl Tryd.underlying39 Tryd.sz38 hlt) ?_; refine op rfl (r_load_agg (cs := [.int .i64 r.l[i].k, .string (str r.l[i].p), .slice Ai r.l[i].b.length ci]) rfl Tryd.underlying38 rfl Tryd.sz38 rfl (ext_row (hX01.trans hX) rfl hc1)) ?_; refine op_alloc rfl Tryd.zero38 ?_; intro w4_2 b4_2 E4_2 B4_2 L4_2
    have hG4_2 : w0_1.heap.size ≤ b4_2 := by have := hX.size; omega
    have hNb0_0_4_2 : b0_0 ≠ b4_2 := by have := Blk.lt B0_0; omega
    replace B0_0 := Blk.ext B0_0 E4_2
    have hNb0_1_4_2 : b0_1 ≠ b4_2 := by have := Blk.lt B0_1; omega
    replace B0_1 := Blk.ext B0_1 E4_2; replace hX := hX.trans E4_2; refine op_storeRow rfl rfl Tryd.sz38 B4_2 rfl rfl ?_; intro w4_3 C4_3 BB4_3; replace B0_0 := Chg.blk C4_3 B0_0 hNb0_0_4_2; replace B0_1 := Chg.blk C4_3 B0_1 hNb0_1_4_2; replace hX := hX.chg C4_3 hG4_2; replace B4_2 := BB4_3; refine WL_nil ?_; refine W_region ?_; refine op rfl (r_moveV (v := v7) rfl) ?_; refine op rfl (r_fieldAddr rfl Tryd.fld38_1 rfl) ?_; refine op rfl (r_load (v := .string (str r.l[i].p)) rfl Tryd.underlying9 rfl (Blk.cell B4_2 rfl)) ?_; refine op_newS rfl (r_buildSlice (vs := [.string (str r.l[i].p)]) Tryd.underlying132 Tryd.sz9 Tryd.zero9 rfl rfl rfl) ?_; intro w5 b5 E5 B5 L5; replace hX := hX.trans E5; replace B0_0 := Blk.ext B0_0 E5; replace B0_1 := Blk.ext B0_1 E5; have hO5 := own_fext hO ((Chg.ext E4_2 (Nat.le_of_eq L4_2) C4_3).trans E5); refine op_app (v := v7) flat_scalar rfl rfl rfl Tryd.underlying132 Tryd.sz9 Tryd.by9 Tryd.zero9 rfl (hX) (hO5) ((row_one B5 (hpl i hlt) : strT.Row w5 (old w5) (some ⟨b5, 0, none⟩) [r.l[i].p])) (by simp only [List.length_singleton, List.length_map, List.length_take]; omega) (by simp only [List.length_singleton, List.length_map, List.length_take]; omega) ?_; intro v5_4 w5_4 O5_4 X5_4 G5_4; replace hX := X5_4
    have hbw : ∀ g, v7.ownBlock = some g → w0_1.heap.size ≤ g := fun g hg => (hO.lt hg).1
    replace B0_0 : Blk w5_4 b0_0 _ _ := Blk.at B0_0 (G5_4.block b0_0 (Blk.lt B0_0) (fun q => by have := hbw _ q; omega))
    replace B0_1 : Blk w5_4 b0_1 _ _ := Blk.at B0_1 (G5_4.block b0_1 (Blk.lt B0_1) (fun q => by have := hbw _ q; omega))
    refine op rfl (r_assignV (v := v5_4) rfl) ?_; refine WL_nil ?_; refine W_region ?_; refine op rfl (r_add' (r := ((i + 1 : Nat) : Int)) rfl rfl (by rw [wrap_i64 (by omega) (by omega)]; omega)) ?_; refine op rfl (r_moveV (v := .int _ _) rfl) ?_; refine WL_nil ?_; refine ⟨?_, by repeat (first | with_reducible exact Out.refl _ _ | with_reducible exact Out.mix | refine Out.put rfl ?_ | refine Out.mixin rfl ?_ | exact Out.refl _ _ | exact Out.mix)⟩; exact ⟨r.l.length - (i + 1), by omega, i + 1, _, by omega, by omega, rfl, rfl, by rw [List.take_succ_eq_append_getElem hlt, List.map_append]; exact O5_4, B0_0, B0_1, hX⟩
  · obtain rfl : i = r.l.length := by omega
    rw [List.take_length] at hO
    obtain ⟨Ap, cp, rfl, hcp, hrp⟩ := own_frow hO; refine W_exit (blk_hit ?_); refine W_seq ?_; refine W_block ?_; refine W_seq ?_; refine W_drawF (W0 := w0_1) (fun b : Nat => b = b0_0 ∨ b = b0_1 ∨ False) Tryd.wd rfl ?_; intro wd7 hD; replace B0_0 := Blk.ext B0_0 hD; replace B0_1 := Blk.ext B0_1 hD; replace hX := hX.trans hD; have DB0_0 := B0_0; have DB0_1 := B0_1; have hS : Ext w0_1 wd7 ∧ Same (fun b : Nat => b = b0_0 ∨ b = b0_1 ∨ False) wd7 wd7 := ⟨hX, fun _ _ => rfl⟩; refine A_take (i := 0) rfl (by kernel_rfl) (by kernel_rfl) (by kernel_rfl) rfl hS (fun _ hw => r_moveV (v := .pointer _) rfl) ?_; refine A_take (i := 1) rfl (by kernel_rfl) (by kernel_rfl) (by kernel_rfl) rfl hS (fun _ hw => r_nilCheck rfl) ?_; refine A_take (i := 2) rfl (by kernel_rfl) (by kernel_rfl) (by kernel_rfl) rfl hS (fun _ hw => r_fieldAddr rfl Tryd.fld113_0 rfl) ?_; refine A_take (i := 3) rfl (by kernel_rfl) (by kernel_rfl) (by kernel_rfl) rfl hS (fun _ hw => r_load (v := hp pm) rfl Tryd.underlying106 rfl (Blk.cell (Blk.ext hbq (hX01.trans hw.1)) rfl)) ?_; refine A_take (i := 4) rfl (by kernel_rfl) (by kernel_rfl) (by kernel_rfl) rfl hS (fun _ hw => r_nilCheck rfl) ?_; refine A_take (i := 5) rfl (by kernel_rfl) (by kernel_rfl) (by kernel_rfl) rfl hS (fun _ hw => r_fieldAddr rfl Tryd.fld108_0 rfl) ?_; refine A_take (i := 6) rfl (by kernel_rfl) (by kernel_rfl) (by kernel_rfl) rfl hS (fun _ hw => r_load (v := hp ph) rfl Tryd.underlying28 rfl (Blk.cell (Blk.ext hbm (hX01.trans hw.1)) rfl)) ?_; refine A_take (i := 7) rfl (by kernel_rfl) (by kernel_rfl) (by kernel_rfl) rfl hS (fun _ hw => r_fieldAddr rfl Tryd.fld41_1 rfl) ?_; refine A_take (i := 8) rfl (by kernel_rfl) (by kernel_rfl) (by kernel_rfl) rfl hS (fun _ hw => r_load (v := .int .i64 r.base) rfl Tryd.underlying3 rfl (Blk.cell (Blk.at DB0_0 (hw.2 _ (Or.inl rfl))) rfl)) ?_; refine A_take (i := 9) rfl (by kernel_rfl) (by kernel_rfl) (by kernel_rfl) rfl hS (fun _ hw => r_moveV (v := .slice Ap (r.l.map Dl.p).length cp) rfl) ?_; refine A_ready1 (i := 10) (by kernel_rfl) ?_; refine O_call rfl rfl (r_call Tryd.func69 Tryd.nm69 rfl) (since_spec (hH.ext (hX01.trans hX)) r.base (hrp.ext hD) (by rw [List.length_map]; omega)) ?_; rintro v8 w8 ⟨hO8, hE⟩; replace B0_0 := Blk.ext B0_0 hE; replace B0_1 := Blk.ext B0_1 hE; replace hX := hX.trans hE; replace hS : Ext w0_1 w8 ∧ Same (fun b : Nat => b = b0_0 ∨ b = b0_1 ∨ False) wd7 w8 := ⟨hX, fun b hb => Or.elim hb (fun q => by subst q; exact Blk.eq B0_0 DB0_0) (fun hb => Or.elim hb (fun q => by subst q; exact Blk.eq B0_1 DB0_1) (fun hb => hb.elim))⟩; refine ⟨hS, ?_⟩; obtain ⟨A8, c8, rfl, hc8, -⟩ := own_frow hO8; have hX8 := hX; refine A_take (i := 11) rfl (by kernel_rfl) (by kernel_rfl) (by kernel_rfl) rfl hS (fun _ hw => r_len_slice rfl Tryd.underlying132) ?_; refine A_take (i := 12) rfl (by kernel_rfl) (by kernel_rfl) (by kernel_rfl) rfl hS (fun _ hw => r_gtr rfl rfl) ?_; refine A_take (i := 13) rfl (by kernel_rfl) (by kernel_rfl) (by kernel_rfl) rfl hS (fun _ hw => r_assignV (v := .bool _) rfl) ?_; refine A_done (by kernel_rfl) ?_; refine W_ifp rfl (fun ht25 => ?_) (fun ht25 => ?_)
    · have hXq := hX01.trans hX; clear hX; have hX := hXq; refine W_seq ?_; refine W_region ?_; refine op rfl (r_fieldAddr rfl Tryd.fld41_0 rfl) ?_; refine op rfl (r_load (v := .int .i64 r.id) rfl Tryd.underlying3 rfl (Blk.cell B0_0 rfl)) ?_; refine op rfl (r_build (cs := [.int _ _, .int _ _, .int _ _, .int _ _]) Tryd.lay43 (List.forall_mem_cons.2 ⟨rfl, List.forall_mem_cons.2 ⟨rfl, fun _ h => by cases h⟩⟩) rfl rfl) ?_; refine op_storeRow rfl rfl Tryd.sz43 B0_1 rfl rfl ?_; intro w8_3 C8_3 BB8_3; replace B0_0 := Chg.blk C8_3 B0_0 hNb0_0_0_1; replace hX := hX.chg C8_3 hG0_1; replace B0_1 := BB8_3; refine WL_nil ?_; refine W_ret (blk_ret (finX_ret ?_)); refine fin_cell rfl B0_1 Tryd.underlying43 rfl Tryd.sz43 ?_
      first
        | (rw [ans2 (late_iff.2 (by omega))]; exact ⟨_, rfl, rfl, hun _ hX⟩)
        | (have hnl : ¬ lateR H r := fun q => by have := late_iff.1 q; omega
           first
             | (rw [ans3 hnl (by simpa using ht42)]; exact ⟨_, rfl, rfl, hun _ hX⟩)
             | (have hpt : ¬ pass = false := by simpa using ht42
                have hMe := Mv.cut hMw hXB hX hsB
                have hHe : ∀ W' : World, Chg b0_1 w11 W' → Hist ph (fun b => Zh b ∨ since w W' b) W' H1 := fun W' C => (hH11.lt.keep (w' := W') (fun b hb => C.block b hb.2 (fun q => by
                  subst q
                  rcases hb.1 with k | k
                  · exact hb1z k
                  · have := k.1; omega))).widen (fun b hb => by
                  rcases hb.1 with k | k
                  · exact Or.inl k
                  · exact Or.inr ⟨by have := k.1; omega, by have := hb.2; have := C.size; omega⟩)
                first
                  | (rw [ans4 hnl hpt (by rw [← hec]; exact ht62), ← hH1, ← hec]; exact ⟨_, rfl, rfl, hHe _ C13_4, hMe⟩)
                  | (rw [ans1 hnl hpt (by rw [← hec]; exact ht62), ← hH1, ← hrn]; exact ⟨_, rfl, rfl, hHe _ C14_4, hMe⟩)))
    · have hXq := hX01.trans hX; clear hX; have hX := hXq; refine W_seq ?_; refine W_region ?_; refine op rfl (r_moveV (v := .bool pass) rfl) ?_; refine op rfl (r_notB rfl) ?_; refine op rfl (r_assignV (v := .bool (!pass)) rfl) ?_; refine WL_nil ?_; refine W_if rfl (fun ht42 => ?_) (fun ht42 => ?_)
      · refine W_seq ?_; refine W_region ?_; refine op rfl (r_fieldAddr rfl Tryd.fld41_0 rfl) ?_; refine op rfl (r_load (v := .int .i64 r.id) rfl Tryd.underlying3 rfl (Blk.cell B0_0 rfl)) ?_; refine op rfl (r_build (cs := [.int _ _, .int _ _, .int _ _, .int _ _]) Tryd.lay43 (List.forall_mem_cons.2 ⟨rfl, List.forall_mem_cons.2 ⟨rfl, fun _ h => by cases h⟩⟩) rfl rfl) ?_; refine op_storeRow rfl rfl Tryd.sz43 B0_1 rfl rfl ?_; intro w10_3 C10_3 BB10_3; replace B0_0 := Chg.blk C10_3 B0_0 hNb0_0_0_1; replace hX := hX.chg C10_3 hG0_1; replace B0_1 := BB10_3; refine WL_nil ?_; refine W_ret (blk_ret (finX_ret ?_)); refine fin_cell rfl B0_1 Tryd.underlying43 rfl Tryd.sz43 ?_
        first
          | (rw [ans2 (late_iff.2 (by omega))]; exact ⟨_, rfl, rfl, hun _ hX⟩)
          | (have hnl : ¬ lateR H r := fun q => by have := late_iff.1 q; omega
             first
               | (rw [ans3 hnl (by simpa using ht42)]; exact ⟨_, rfl, rfl, hun _ hX⟩)
               | (have hpt : ¬ pass = false := by simpa using ht42
                  have hMe := Mv.cut hMw hXB hX hsB
                  have hHe : ∀ W' : World, Chg b0_1 w11 W' → Hist ph (fun b => Zh b ∨ since w W' b) W' H1 := fun W' C => (hH11.lt.keep (w' := W') (fun b hb => C.block b hb.2 (fun q => by
                    subst q
                    rcases hb.1 with k | k
                    · exact hb1z k
                    · have := k.1; omega))).widen (fun b hb => by
                    rcases hb.1 with k | k
                    · exact Or.inl k
                    · exact Or.inr ⟨by have := k.1; omega, by have := hb.2; have := C.size; omega⟩)
                  first
                    | (rw [ans4 hnl hpt (by rw [← hec]; exact ht62), ← hH1, ← hec]; exact ⟨_, rfl, rfl, hHe _ C13_4, hMe⟩)
                    | (rw [ans1 hnl hpt (by rw [← hec]; exact ht62), ← hH1, ← hrn]; exact ⟨_, rfl, rfl, hHe _ C14_4, hMe⟩)))
      · refine W_skip ?_; refine W_seq ?_; refine W_drawA Tryd.wd rfl ?_; intro wd11 hD; have hS : anyW wd11 := trivial; replace B0_0 := Blk.ext B0_0 hD; replace B0_1 := Blk.ext B0_1 hD; replace hX := hX.trans hD; refine A_take (i := 0) rfl (by kernel_rfl) (by kernel_rfl) (by kernel_rfl) rfl hS (fun _ hw => r_moveV (v := .pointer _) rfl) ?_; refine A_take (i := 1) rfl (by kernel_rfl) (by kernel_rfl) (by kernel_rfl) rfl hS (fun _ hw => r_nilCheck rfl) ?_; refine A_take (i := 2) rfl (by kernel_rfl) (by kernel_rfl) (by kernel_rfl) rfl hS (fun _ hw => r_fieldAddr rfl Tryd.fld113_0 rfl) ?_; refine A_take (i := 7) rfl (by kernel_rfl) (by kernel_rfl) (by kernel_rfl) rfl hS (fun _ hw => r_fieldAddr rfl Tryd.fld41_2 rfl) ?_; refine A_ready2 (i := 3) (j := 8) (by kernel_rfl) ?_ ?_
        · refine O_val rfl rfl (r_load (v := hp pm) rfl Tryd.underlying106 rfl (Blk.cell (Blk.ext hbq (hX)) rfl)) (hS) ?_; refine A_take (i := 4) rfl (by kernel_rfl) (by kernel_rfl) (by kernel_rfl) rfl hS (fun _ hw => r_nilCheck rfl) ?_; refine A_take (i := 5) rfl (by kernel_rfl) (by kernel_rfl) (by kernel_rfl) rfl hS (fun _ hw => r_fieldAddr rfl Tryd.fld108_0 rfl) ?_; refine A_ready2 (i := 6) (j := 8) (by kernel_rfl) ?_ ?_
          · refine O_val rfl rfl (r_load (v := hp ph) rfl Tryd.underlying28 rfl (Blk.cell (Blk.ext hbm (hX)) rfl)) (hS) ?_; refine A_ready1 (i := 8) (by kernel_rfl) ?_; refine O_val rfl rfl (r_load (v := .slice A r.l.length c) rfl Tryd.underlying39 rfl (Blk.cell B0_0 rfl)) (hS) ?_; refine A_ready1 (i := 9) (by kernel_rfl) ?_; have lbW := Blk.lt B0_1; have hsW := hX.size; refine O_call rfl rfl (r_call Tryd.func22 Tryd.nm22 rfl) (commit_spec (cd := c) (hH.ext (hX)) (fun b hb ↦ ⟨Nat.lt_of_lt_of_le (hG b hb).1 (hX).size, (hG b hb).2⟩) (hdr.keep (fun b hb ↦ (hX).block b (hG b hb).1) (fun _ h ↦ h)) hdl) ?_; rintro v11 w11 ⟨hv11, hH11, hM11⟩; replace hS := trivial; refine ⟨hS, ?_⟩; obtain ⟨H1, hH1⟩ : ∃ x, x = (commitR H r.l).1 := ⟨_, rfl⟩; obtain ⟨rn, hrn⟩ : ∃ x, x = (commitR H r.l).2.1 := ⟨_, rfl⟩; obtain ⟨ec, hec⟩ : ∃ x, x = (commitR H r.l).2.2 := ⟨_, rfl⟩
            rw [← hrn, ← hec] at hv11
            subst hv11
            rw [← hH1] at hH11
            have hXw := hX; have hMw : Mv Zh w w11 := (Mv.of_ext hXw).trans hM11; have hs11 := hMw.size
            have hb0z : ¬ Zh b0_0 := fun q => by have := hZ _ q; omega
            have hb1z : ¬ Zh b0_1 := fun q => by have := hZ _ q; omega
            have C0 := hM11.blk B0_0 hb0z; have C1 := hM11.blk B0_1 hb1z; obtain ⟨wB, hXB, hsB⟩ := exists_cut w11 (n := w.heap.size) (by omega); clear hX B0_0 B0_1; have hX := hXB; have B0_0 := C0; have B0_1 := C1
            have hG0_0 : wB.heap.size ≤ b0_0 := by omega
            have hG0_1 : wB.heap.size ≤ b0_1 := by omega
            refine A_take (i := 10) rfl (by kernel_rfl) (by kernel_rfl) (by kernel_rfl) rfl hS (fun _ hw => r_moveV (v := .tuple #[.int .i64 rn, .int .i64 ec]) rfl) ?_; refine A_take (i := 11) rfl (by kernel_rfl) (by kernel_rfl) (by kernel_rfl) rfl hS (fun _ hw => r_extract (vs := [.int .i64 rn, .int .i64 ec]) rfl rfl) ?_; refine A_take (i := 12) rfl (by kernel_rfl) (by kernel_rfl) (by kernel_rfl) rfl hS (fun _ hw => r_extract (vs := [.int .i64 rn, .int .i64 ec]) rfl rfl) ?_; refine A_take (i := 13) rfl (by kernel_rfl) (by kernel_rfl) (by kernel_rfl) rfl hS (fun _ hw => r_assignV (v := .int .i64 rn) rfl) ?_; refine A_take (i := 14) rfl (by kernel_rfl) (by kernel_rfl) (by kernel_rfl) rfl hS (fun _ hw => r_assignV (v := .int .i64 ec) rfl) ?_; refine A_done (by kernel_rfl) ?_; refine W_seq ?_; refine W_seq ?_; refine W_region ?_; refine op rfl (r_moveV (v := .int .i64 ec) rfl) ?_; refine op rfl (r_neq rfl rfl) ?_; refine WL_nil ?_; refine W_ifp rfl (fun ht62 => ?_) (fun ht62 => ?_)
            · refine W_seq ?_; refine W_region ?_; refine op rfl (r_fieldAddr rfl Tryd.fld41_0 rfl) ?_; refine op rfl (r_load (v := .int .i64 r.id) rfl Tryd.underlying3 rfl (Blk.cell B0_0 rfl)) ?_; refine op rfl (r_moveV (v := .int .i64 ec) rfl) ?_; refine op rfl (r_build (cs := [.int _ _, .int _ _, .int _ _, .int _ _]) Tryd.lay43 (List.forall_mem_cons.2 ⟨rfl, List.forall_mem_cons.2 ⟨rfl, List.forall_mem_cons.2 ⟨rfl, fun _ h => by cases h⟩⟩⟩) rfl rfl) ?_; refine op_storeRow rfl rfl Tryd.sz43 B0_1 rfl rfl ?_; intro w13_4 C13_4 BB13_4; replace B0_0 := Chg.blk C13_4 B0_0 hNb0_0_0_1; replace hX := hX.chg C13_4 hG0_1; replace B0_1 := BB13_4; refine WL_nil ?_; refine W_ret (finX_ret ?_); refine fin_cell rfl B0_1 Tryd.underlying43 rfl Tryd.sz43 ?_
              first
                | (rw [ans2 (late_iff.2 (by omega))]; exact ⟨_, rfl, rfl, hun _ hX⟩)
                | (have hnl : ¬ lateR H r := fun q => by have := late_iff.1 q; omega
                   first
                     | (rw [ans3 hnl (by simpa using ht42)]; exact ⟨_, rfl, rfl, hun _ hX⟩)
                     | (have hpt : ¬ pass = false := by simpa using ht42
                        have hMe := Mv.cut hMw hXB hX hsB
                        have hHe : ∀ W' : World, Chg b0_1 w11 W' → Hist ph (fun b => Zh b ∨ since w W' b) W' H1 := fun W' C => (hH11.lt.keep (w' := W') (fun b hb => C.block b hb.2 (fun q => by
                          subst q
                          rcases hb.1 with k | k
                          · exact hb1z k
                          · have := k.1; omega))).widen (fun b hb => by
                          rcases hb.1 with k | k
                          · exact Or.inl k
                          · exact Or.inr ⟨by have := k.1; omega, by have := hb.2; have := C.size; omega⟩)
                        first
                          | (rw [ans4 hnl hpt (by rw [← hec]; exact ht62), ← hH1, ← hec]; exact ⟨_, rfl, rfl, hHe _ C13_4, hMe⟩)
                          | (rw [ans1 hnl hpt (by rw [← hec]; exact ht62), ← hH1, ← hrn]; exact ⟨_, rfl, rfl, hHe _ C14_4, hMe⟩)))
            · refine W_skip ?_; refine W_seq ?_; refine W_region ?_; refine op rfl (r_fieldAddr rfl Tryd.fld41_0 rfl) ?_; refine op rfl (r_load (v := .int .i64 r.id) rfl Tryd.underlying3 rfl (Blk.cell B0_0 rfl)) ?_; refine op rfl (r_moveV (v := .int .i64 rn) rfl) ?_; refine op rfl (r_build (cs := [.int _ _, .int _ _, .int _ _, .int _ _]) Tryd.lay43 (List.forall_mem_cons.2 ⟨rfl, List.forall_mem_cons.2 ⟨rfl, List.forall_mem_cons.2 ⟨rfl, fun _ h => by cases h⟩⟩⟩) rfl rfl) ?_; refine op_storeRow rfl rfl Tryd.sz43 B0_1 rfl rfl ?_; intro w14_4 C14_4 BB14_4; replace B0_0 := Chg.blk C14_4 B0_0 hNb0_0_0_1; replace hX := hX.chg C14_4 hG0_1; replace B0_1 := BB14_4; refine WL_nil ?_; refine W_ret (finX_ret ?_); refine fin_cell rfl B0_1 Tryd.underlying43 rfl Tryd.sz43 ?_
              first
                | (rw [ans2 (late_iff.2 (by omega))]; exact ⟨_, rfl, rfl, hun _ hX⟩)
                | (have hnl : ¬ lateR H r := fun q => by have := late_iff.1 q; omega
                   first
                     | (rw [ans3 hnl (by simpa using ht42)]; exact ⟨_, rfl, rfl, hun _ hX⟩)
                     | (have hpt : ¬ pass = false := by simpa using ht42
                        have hMe := Mv.cut hMw hXB hX hsB
                        have hHe : ∀ W' : World, Chg b0_1 w11 W' → Hist ph (fun b => Zh b ∨ since w W' b) W' H1 := fun W' C => (hH11.lt.keep (w' := W') (fun b hb => C.block b hb.2 (fun q => by
                          subst q
                          rcases hb.1 with k | k
                          · exact hb1z k
                          · have := k.1; omega))).widen (fun b hb => by
                          rcases hb.1 with k | k
                          · exact Or.inl k
                          · exact Or.inr ⟨by have := k.1; omega, by have := hb.2; have := C.size; omega⟩)
                        first
                          | (rw [ans4 hnl hpt (by rw [← hec]; exact ht62), ← hH1, ← hec]; exact ⟨_, rfl, rfl, hHe _ C13_4, hMe⟩)
                          | (rw [ans1 hnl hpt (by rw [← hec]; exact ht62), ← hH1, ← hrn]; exact ⟨_, rfl, rfl, hHe _ C14_4, hMe⟩)))
          · refine O_val rfl rfl (r_load (v := .slice A r.l.length c) rfl Tryd.underlying39 rfl (Blk.cell B0_0 rfl)) (hS) ?_; refine A_ready1 (i := 6) (by kernel_rfl) ?_; refine O_val rfl rfl (r_load (v := hp ph) rfl Tryd.underlying28 rfl (Blk.cell (Blk.ext hbm (hX)) rfl)) (hS) ?_; refine A_ready1 (i := 9) (by kernel_rfl) ?_; have lbW := Blk.lt B0_1; have hsW := hX.size; refine O_call rfl rfl (r_call Tryd.func22 Tryd.nm22 rfl) (commit_spec (cd := c) (hH.ext (hX)) (fun b hb ↦ ⟨Nat.lt_of_lt_of_le (hG b hb).1 (hX).size, (hG b hb).2⟩) (hdr.keep (fun b hb ↦ (hX).block b (hG b hb).1) (fun _ h ↦ h)) hdl) ?_; rintro v11 w11 ⟨hv11, hH11, hM11⟩; replace hS := trivial; refine ⟨hS, ?_⟩; obtain ⟨H1, hH1⟩ : ∃ x, x = (commitR H r.l).1 := ⟨_, rfl⟩; obtain ⟨rn, hrn⟩ : ∃ x, x = (commitR H r.l).2.1 := ⟨_, rfl⟩; obtain ⟨ec, hec⟩ : ∃ x, x = (commitR H r.l).2.2 := ⟨_, rfl⟩
            rw [← hrn, ← hec] at hv11
            subst hv11
            rw [← hH1] at hH11
            have hXw := hX; have hMw : Mv Zh w w11 := (Mv.of_ext hXw).trans hM11; have hs11 := hMw.size
            have hb0z : ¬ Zh b0_0 := fun q => by have := hZ _ q; omega
            have hb1z : ¬ Zh b0_1 := fun q => by have := hZ _ q; omega
            have C0 := hM11.blk B0_0 hb0z; have C1 := hM11.blk B0_1 hb1z; obtain ⟨wB, hXB, hsB⟩ := exists_cut w11 (n := w.heap.size) (by omega); clear hX B0_0 B0_1; have hX := hXB; have B0_0 := C0; have B0_1 := C1
            have hG0_0 : wB.heap.size ≤ b0_0 := by omega
            have hG0_1 : wB.heap.size ≤ b0_1 := by omega
            refine A_take (i := 10) rfl (by kernel_rfl) (by kernel_rfl) (by kernel_rfl) rfl hS (fun _ hw => r_moveV (v := .tuple #[.int .i64 rn, .int .i64 ec]) rfl) ?_; refine A_take (i := 11) rfl (by kernel_rfl) (by kernel_rfl) (by kernel_rfl) rfl hS (fun _ hw => r_extract (vs := [.int .i64 rn, .int .i64 ec]) rfl rfl) ?_; refine A_take (i := 12) rfl (by kernel_rfl) (by kernel_rfl) (by kernel_rfl) rfl hS (fun _ hw => r_extract (vs := [.int .i64 rn, .int .i64 ec]) rfl rfl) ?_; refine A_take (i := 13) rfl (by kernel_rfl) (by kernel_rfl) (by kernel_rfl) rfl hS (fun _ hw => r_assignV (v := .int .i64 rn) rfl) ?_; refine A_take (i := 14) rfl (by kernel_rfl) (by kernel_rfl) (by kernel_rfl) rfl hS (fun _ hw => r_assignV (v := .int .i64 ec) rfl) ?_; refine A_done (by kernel_rfl) ?_; refine W_seq ?_; refine W_seq ?_; refine W_region ?_; refine op rfl (r_moveV (v := .int .i64 ec) rfl) ?_; refine op rfl (r_neq rfl rfl) ?_; refine WL_nil ?_; refine W_ifp rfl (fun ht62 => ?_) (fun ht62 => ?_)
            · refine W_seq ?_; refine W_region ?_; refine op rfl (r_fieldAddr rfl Tryd.fld41_0 rfl) ?_; refine op rfl (r_load (v := .int .i64 r.id) rfl Tryd.underlying3 rfl (Blk.cell B0_0 rfl)) ?_; refine op rfl (r_moveV (v := .int .i64 ec) rfl) ?_; refine op rfl (r_build (cs := [.int _ _, .int _ _, .int _ _, .int _ _]) Tryd.lay43 (List.forall_mem_cons.2 ⟨rfl, List.forall_mem_cons.2 ⟨rfl, List.forall_mem_cons.2 ⟨rfl, fun _ h => by cases h⟩⟩⟩) rfl rfl) ?_; refine op_storeRow rfl rfl Tryd.sz43 B0_1 rfl rfl ?_; intro w13_4 C13_4 BB13_4; replace B0_0 := Chg.blk C13_4 B0_0 hNb0_0_0_1; replace hX := hX.chg C13_4 hG0_1; replace B0_1 := BB13_4; refine WL_nil ?_; refine W_ret (finX_ret ?_); refine fin_cell rfl B0_1 Tryd.underlying43 rfl Tryd.sz43 ?_
              first
                | (rw [ans2 (late_iff.2 (by omega))]; exact ⟨_, rfl, rfl, hun _ hX⟩)
                | (have hnl : ¬ lateR H r := fun q => by have := late_iff.1 q; omega
                   first
                     | (rw [ans3 hnl (by simpa using ht42)]; exact ⟨_, rfl, rfl, hun _ hX⟩)
                     | (have hpt : ¬ pass = false := by simpa using ht42
                        have hMe := Mv.cut hMw hXB hX hsB
                        have hHe : ∀ W' : World, Chg b0_1 w11 W' → Hist ph (fun b => Zh b ∨ since w W' b) W' H1 := fun W' C => (hH11.lt.keep (w' := W') (fun b hb => C.block b hb.2 (fun q => by
                          subst q
                          rcases hb.1 with k | k
                          · exact hb1z k
                          · have := k.1; omega))).widen (fun b hb => by
                          rcases hb.1 with k | k
                          · exact Or.inl k
                          · exact Or.inr ⟨by have := k.1; omega, by have := hb.2; have := C.size; omega⟩)
                        first
                          | (rw [ans4 hnl hpt (by rw [← hec]; exact ht62), ← hH1, ← hec]; exact ⟨_, rfl, rfl, hHe _ C13_4, hMe⟩)
                          | (rw [ans1 hnl hpt (by rw [← hec]; exact ht62), ← hH1, ← hrn]; exact ⟨_, rfl, rfl, hHe _ C14_4, hMe⟩)))
            · refine W_skip ?_; refine W_seq ?_; refine W_region ?_; refine op rfl (r_fieldAddr rfl Tryd.fld41_0 rfl) ?_; refine op rfl (r_load (v := .int .i64 r.id) rfl Tryd.underlying3 rfl (Blk.cell B0_0 rfl)) ?_; refine op rfl (r_moveV (v := .int .i64 rn) rfl) ?_; refine op rfl (r_build (cs := [.int _ _, .int _ _, .int _ _, .int _ _]) Tryd.lay43 (List.forall_mem_cons.2 ⟨rfl, List.forall_mem_cons.2 ⟨rfl, List.forall_mem_cons.2 ⟨rfl, fun _ h => by cases h⟩⟩⟩) rfl rfl) ?_; refine op_storeRow rfl rfl Tryd.sz43 B0_1 rfl rfl ?_; intro w14_4 C14_4 BB14_4; replace B0_0 := Chg.blk C14_4 B0_0 hNb0_0_0_1; replace hX := hX.chg C14_4 hG0_1; replace B0_1 := BB14_4; refine WL_nil ?_; refine W_ret (finX_ret ?_); refine fin_cell rfl B0_1 Tryd.underlying43 rfl Tryd.sz43 ?_
              first
                | (rw [ans2 (late_iff.2 (by omega))]; exact ⟨_, rfl, rfl, hun _ hX⟩)
                | (have hnl : ¬ lateR H r := fun q => by have := late_iff.1 q; omega
                   first
                     | (rw [ans3 hnl (by simpa using ht42)]; exact ⟨_, rfl, rfl, hun _ hX⟩)
                     | (have hpt : ¬ pass = false := by simpa using ht42
                        have hMe := Mv.cut hMw hXB hX hsB
                        have hHe : ∀ W' : World, Chg b0_1 w11 W' → Hist ph (fun b => Zh b ∨ since w W' b) W' H1 := fun W' C => (hH11.lt.keep (w' := W') (fun b hb => C.block b hb.2 (fun q => by
                          subst q
                          rcases hb.1 with k | k
                          · exact hb1z k
                          · have := k.1; omega))).widen (fun b hb => by
                          rcases hb.1 with k | k
                          · exact Or.inl k
                          · exact Or.inr ⟨by have := k.1; omega, by have := hb.2; have := C.size; omega⟩)
                        first
                          | (rw [ans4 hnl hpt (by rw [← hec]; exact ht62), ← hH1, ← hec]; exact ⟨_, rfl, rfl, hHe _ C13_4, hMe⟩)
                          | (rw [ans1 hnl hpt (by rw [← hec]; exact ht62), ← hH1, ← hrn]; exact ⟨_, rfl, rfl, hHe _ C14_4, hMe⟩)))
        · refine O_val rfl rfl (r_load (v := .slice A r.l.length c) rfl Tryd.underlying39 rfl (Blk.cell B0_0 rfl)) (hS) ?_; refine A_ready1 (i := 3) (by kernel_rfl) ?_; refine O_val rfl rfl (r_load (v := hp pm) rfl Tryd.underlying106 rfl (Blk.cell (Blk.ext hbq (hX)) rfl)) (hS) ?_; refine A_take (i := 4) rfl (by kernel_rfl) (by kernel_rfl) (by kernel_rfl) rfl hS (fun _ hw => r_nilCheck rfl) ?_; refine A_take (i := 5) rfl (by kernel_rfl) (by kernel_rfl) (by kernel_rfl) rfl hS (fun _ hw => r_fieldAddr rfl Tryd.fld108_0 rfl) ?_; refine A_ready1 (i := 6) (by kernel_rfl) ?_; refine O_val rfl rfl (r_load (v := hp ph) rfl Tryd.underlying28 rfl (Blk.cell (Blk.ext hbm (hX)) rfl)) (hS) ?_; refine A_ready1 (i := 9) (by kernel_rfl) ?_; have lbW := Blk.lt B0_1; have hsW := hX.size; refine O_call rfl rfl (r_call Tryd.func22 Tryd.nm22 rfl) (commit_spec (cd := c) (hH.ext (hX)) (fun b hb ↦ ⟨Nat.lt_of_lt_of_le (hG b hb).1 (hX).size, (hG b hb).2⟩) (hdr.keep (fun b hb ↦ (hX).block b (hG b hb).1) (fun _ h ↦ h)) hdl) ?_; rintro v11 w11 ⟨hv11, hH11, hM11⟩; replace hS := trivial; refine ⟨hS, ?_⟩; obtain ⟨H1, hH1⟩ : ∃ x, x = (commitR H r.l).1 := ⟨_, rfl⟩; obtain ⟨rn, hrn⟩ : ∃ x, x = (commitR H r.l).2.1 := ⟨_, rfl⟩; obtain ⟨ec, hec⟩ : ∃ x, x = (commitR H r.l).2.2 := ⟨_, rfl⟩
          rw [← hrn, ← hec] at hv11
          subst hv11
          rw [← hH1] at hH11
          have hXw := hX; have hMw : Mv Zh w w11 := (Mv.of_ext hXw).trans hM11; have hs11 := hMw.size
          have hb0z : ¬ Zh b0_0 := fun q => by have := hZ _ q; omega
          have hb1z : ¬ Zh b0_1 := fun q => by have := hZ _ q; omega
          have C0 := hM11.blk B0_0 hb0z; have C1 := hM11.blk B0_1 hb1z; obtain ⟨wB, hXB, hsB⟩ := exists_cut w11 (n := w.heap.size) (by omega); clear hX B0_0 B0_1; have hX := hXB; have B0_0 := C0; have B0_1 := C1
          have hG0_0 : wB.heap.size ≤ b0_0 := by omega
          have hG0_1 : wB.heap.size ≤ b0_1 := by omega
          refine A_take (i := 10) rfl (by kernel_rfl) (by kernel_rfl) (by kernel_rfl) rfl hS (fun _ hw => r_moveV (v := .tuple #[.int .i64 rn, .int .i64 ec]) rfl) ?_; refine A_take (i := 11) rfl (by kernel_rfl) (by kernel_rfl) (by kernel_rfl) rfl hS (fun _ hw => r_extract (vs := [.int .i64 rn, .int .i64 ec]) rfl rfl) ?_; refine A_take (i := 12) rfl (by kernel_rfl) (by kernel_rfl) (by kernel_rfl) rfl hS (fun _ hw => r_extract (vs := [.int .i64 rn, .int .i64 ec]) rfl rfl) ?_; refine A_take (i := 13) rfl (by kernel_rfl) (by kernel_rfl) (by kernel_rfl) rfl hS (fun _ hw => r_assignV (v := .int .i64 rn) rfl) ?_; refine A_take (i := 14) rfl (by kernel_rfl) (by kernel_rfl) (by kernel_rfl) rfl hS (fun _ hw => r_assignV (v := .int .i64 ec) rfl) ?_; refine A_done (by kernel_rfl) ?_; refine W_seq ?_; refine W_seq ?_; refine W_region ?_; refine op rfl (r_moveV (v := .int .i64 ec) rfl) ?_; refine op rfl (r_neq rfl rfl) ?_; refine WL_nil ?_; refine W_ifp rfl (fun ht62 => ?_) (fun ht62 => ?_)
          · refine W_seq ?_; refine W_region ?_; refine op rfl (r_fieldAddr rfl Tryd.fld41_0 rfl) ?_; refine op rfl (r_load (v := .int .i64 r.id) rfl Tryd.underlying3 rfl (Blk.cell B0_0 rfl)) ?_; refine op rfl (r_moveV (v := .int .i64 ec) rfl) ?_; refine op rfl (r_build (cs := [.int _ _, .int _ _, .int _ _, .int _ _]) Tryd.lay43 (List.forall_mem_cons.2 ⟨rfl, List.forall_mem_cons.2 ⟨rfl, List.forall_mem_cons.2 ⟨rfl, fun _ h => by cases h⟩⟩⟩) rfl rfl) ?_; refine op_storeRow rfl rfl Tryd.sz43 B0_1 rfl rfl ?_; intro w13_4 C13_4 BB13_4; replace B0_0 := Chg.blk C13_4 B0_0 hNb0_0_0_1; replace hX := hX.chg C13_4 hG0_1; replace B0_1 := BB13_4; refine WL_nil ?_; refine W_ret (finX_ret ?_); refine fin_cell rfl B0_1 Tryd.underlying43 rfl Tryd.sz43 ?_
            first
              | (rw [ans2 (late_iff.2 (by omega))]; exact ⟨_, rfl, rfl, hun _ hX⟩)
              | (have hnl : ¬ lateR H r := fun q => by have := late_iff.1 q; omega
                 first
                   | (rw [ans3 hnl (by simpa using ht42)]; exact ⟨_, rfl, rfl, hun _ hX⟩)
                   | (have hpt : ¬ pass = false := by simpa using ht42
                      have hMe := Mv.cut hMw hXB hX hsB
                      have hHe : ∀ W' : World, Chg b0_1 w11 W' → Hist ph (fun b => Zh b ∨ since w W' b) W' H1 := fun W' C => (hH11.lt.keep (w' := W') (fun b hb => C.block b hb.2 (fun q => by
                        subst q
                        rcases hb.1 with k | k
                        · exact hb1z k
                        · have := k.1; omega))).widen (fun b hb => by
                        rcases hb.1 with k | k
                        · exact Or.inl k
                        · exact Or.inr ⟨by have := k.1; omega, by have := hb.2; have := C.size; omega⟩)
                      first
                        | (rw [ans4 hnl hpt (by rw [← hec]; exact ht62), ← hH1, ← hec]; exact ⟨_, rfl, rfl, hHe _ C13_4, hMe⟩)
                        | (rw [ans1 hnl hpt (by rw [← hec]; exact ht62), ← hH1, ← hrn]; exact ⟨_, rfl, rfl, hHe _ C14_4, hMe⟩)))
          · refine W_skip ?_; refine W_seq ?_; refine W_region ?_; refine op rfl (r_fieldAddr rfl Tryd.fld41_0 rfl) ?_; refine op rfl (r_load (v := .int .i64 r.id) rfl Tryd.underlying3 rfl (Blk.cell B0_0 rfl)) ?_; refine op rfl (r_moveV (v := .int .i64 rn) rfl) ?_; refine op rfl (r_build (cs := [.int _ _, .int _ _, .int _ _, .int _ _]) Tryd.lay43 (List.forall_mem_cons.2 ⟨rfl, List.forall_mem_cons.2 ⟨rfl, List.forall_mem_cons.2 ⟨rfl, fun _ h => by cases h⟩⟩⟩) rfl rfl) ?_; refine op_storeRow rfl rfl Tryd.sz43 B0_1 rfl rfl ?_; intro w14_4 C14_4 BB14_4; replace B0_0 := Chg.blk C14_4 B0_0 hNb0_0_0_1; replace hX := hX.chg C14_4 hG0_1; replace B0_1 := BB14_4; refine WL_nil ?_; refine W_ret (finX_ret ?_); refine fin_cell rfl B0_1 Tryd.underlying43 rfl Tryd.sz43 ?_
            first
              | (rw [ans2 (late_iff.2 (by omega))]; exact ⟨_, rfl, rfl, hun _ hX⟩)
              | (have hnl : ¬ lateR H r := fun q => by have := late_iff.1 q; omega
                 first
                   | (rw [ans3 hnl (by simpa using ht42)]; exact ⟨_, rfl, rfl, hun _ hX⟩)
                   | (have hpt : ¬ pass = false := by simpa using ht42
                      have hMe := Mv.cut hMw hXB hX hsB
                      have hHe : ∀ W' : World, Chg b0_1 w11 W' → Hist ph (fun b => Zh b ∨ since w W' b) W' H1 := fun W' C => (hH11.lt.keep (w' := W') (fun b hb => C.block b hb.2 (fun q => by
                        subst q
                        rcases hb.1 with k | k
                        · exact hb1z k
                        · have := k.1; omega))).widen (fun b hb => by
                        rcases hb.1 with k | k
                        · exact Or.inl k
                        · exact Or.inr ⟨by have := k.1; omega, by have := hb.2; have := C.size; omega⟩)
                      first
                        | (rw [ans4 hnl hpt (by rw [← hec]; exact ht62), ← hH1, ← hec]; exact ⟨_, rfl, rfl, hHe _ C13_4, hMe⟩)
                        | (rw [ans1 hnl hpt (by rw [← hec]; exact ht62), ← hH1, ← hrn]; exact ⟨_, rfl, rfl, hHe _ C14_4, hMe⟩)))
theorem stepQ_spec {pq ph : Nat} {Z : Nat → Prop} {w : World} {q : Qs} (hQ : Que pq ph Z w q) (pass : Bool) :
    Calls Tryd.prog 16 #[hp pq, .bool pass] w (fun en w' => ∃ u, en = .returned u ∧ u = .tuple #[.agg (stepQ q pass).2.1.vals.toArray, .bool (stepQ q pass).2.2] ∧ Que pq ph (fun b => Z b ∨ since w w' b) w' (stepQ q pass).1 ∧ Mv Z w w') := by
  have hQ0 := hQ
  have hun : ∀ W, Ext w W → Que pq ph (fun b => Z b ∨ since w W b) W q ∧ Mv Z w W := fun W he => ⟨by
    obtain ⟨pm', mt', v', F', Zh', h1, h2⟩ := hQ0.ext he
    exact ⟨pm', mt', v', F', Zh', h1, fun b hb => Or.inl (h2 b hb)⟩, Mv.of_ext he⟩
  obtain ⟨pm, mt, v, F, Zh, h, hZ⟩ := hQ; have hlt := h.lt; obtain ⟨Aw, cw, rfl, hcw, -⟩ := h.own.read; have hbq := h.bq
  cases hws : q.ws with
  | nil =>
    rw [hws] at hbq
    have hst : stepQ q pass = (q, ⟨0, 0, 0, 0⟩, false) := by unfold stepQ; rw [hws]
    rw [hst]; refine calls' (n := 33) (rs := #[.cell 4 43, .tmp 5]) (l := [hp pq, .bool pass]) Tryd.func16 rfl rfl rfl rfl rfl ?_; have hX := Ext.refl w; refine W_seq ?_; refine W_region ?_; refine op_alloc rfl Tryd.zero43 ?_; intro w0_0 b0_0 E0_0 B0_0 L0_0
    have hG0_0 : w.heap.size ≤ b0_0 := by have := hX.size; omega
    replace hX := hX.trans E0_0; refine op rfl (r_assignV (v := .bool _) rfl) ?_; refine WL_nil ?_; refine W_seq ?_; refine W_seq ?_; refine W_region ?_; refine op rfl (r_moveV (v := .pointer _) rfl) ?_; refine opCv rfl (r_call Tryd.func45 Tryd.nm45 rfl) (mainNone_spec (h.keep hX.size (fun b hb ↦ hX.block b (hlt b hb)))) ?_; rintro v1 w1 ⟨rfl, hE⟩; replace B0_0 := Blk.ext B0_0 hE; replace hX := hX.trans hE; refine WL_nil ?_; refine W_ifp rfl (fun ht10 => ?_) (fun ht10 => ?_)
    · exact ht10.elim
    · refine W_skip ?_; refine W_seq ?_; refine W_region ?_; refine op rfl (r_moveV (v := .pointer _) rfl) ?_; refine op rfl (r_nilCheck rfl) ?_; refine op rfl (r_fieldAddr rfl Tryd.fld113_1 rfl) ?_; refine opCv rfl (r_call Tryd.func49 Tryd.nm49 rfl) (take_nil_spec (Blk.ext hbq hX)) ?_; rintro v3 w3 ⟨rfl, hE⟩; replace B0_0 := Blk.ext B0_0 hE; replace hX := hX.trans hE; refine op rfl (r_moveV (v := .tuple #[.agg #[.int .i64 0, .int .i64 0, .slice none 0 0], .bool false]) rfl) ?_; refine op rfl (r_extract (vs := [.agg #[.int .i64 0, .int .i64 0, .slice none 0 0], .bool false]) rfl rfl) ?_; refine op rfl (r_extract (vs := [.agg #[.int .i64 0, .int .i64 0, .slice none 0 0], .bool false]) rfl rfl) ?_; refine op_alloc rfl Tryd.zero41 ?_; intro w3_7 b3_7 E3_7 B3_7 L3_7
      have hG3_7 : w.heap.size ≤ b3_7 := by have := hX.size; omega
      have hNb0_0_3_7 : b0_0 ≠ b3_7 := by have := Blk.lt B0_0; omega
      replace B0_0 := Blk.ext B0_0 E3_7; replace hX := hX.trans E3_7; refine op_storeRow rfl rfl Tryd.sz41 B3_7 rfl rfl ?_; intro w3_8 C3_8 BB3_8; replace B0_0 := Chg.blk C3_8 B0_0 hNb0_0_3_7; replace hX := hX.chg C3_8 hG3_7; replace B3_7 := BB3_8; refine op rfl (r_assignV (v := .bool false) rfl) ?_; refine WL_nil ?_; refine W_seq ?_; refine W_seq ?_; refine W_region ?_; refine op rfl (r_moveV (v := .bool false) rfl) ?_; refine op rfl (r_notB rfl) ?_; refine WL_nil ?_; refine W_if rfl (fun ht20 => ?_) (fun ht20 => ?_)
      · refine W_seq ?_; refine W_region ?_; refine op rfl (r_build (cs := [.int _ _, .int _ _, .int _ _, .int _ _]) Tryd.lay43 (fun _ h => by cases h) rfl rfl) ?_; refine op_storeRow rfl rfl Tryd.sz43 B0_0 rfl rfl ?_; intro w5_1 C5_1 BB5_1; replace B3_7 := Chg.blk C5_1 B3_7 (fun q => hNb0_0_3_7 q.symm); replace hX := hX.chg C5_1 hG0_0; replace B0_0 := BB5_1; refine op rfl (r_assignV (v := .bool _) rfl) ?_; refine WL_nil ?_; refine W_ret (finX_ret ?_); refine fin_cell1 rfl B0_0 Tryd.underlying43 rfl Tryd.sz43 ?_
        first
          | exact ht10.elim
          | exact ⟨_, rfl, rfl, hun _ hX⟩
      · cases ht20
  | cons r ws =>
    have hbm := h.bm; obtain ⟨f, hm, hf⟩ := h.map; have hro := h.ro; have hwl := h.wl; have hO := h.own; have hokr := h.ok r (by rw [hws]; exact List.mem_cons_self)
    have hwl1 : q.ws.length = ws.length + 1 := by rw [hws]; rfl
    rw [hwl1] at hbq hO
    rw [hws] at hO
    have hl100 : ws.length ≤ 100 := by omega
    have hF1 : ∀ b, F b → b < w.heap.size ∧ b ≠ pq ∧ b ≠ pm ∧ b ≠ mt ∧ ¬ Zh b := fun b hb => ⟨(h.F1 b hb).1, (h.F1 b hb).2.1, (h.F1 b hb).2.2.1, (h.F1 b hb).2.2.2.1, (h.F1 b hb).2.2.2.2.2⟩
    have hZ1 : ∀ b, Zh b → b < w.heap.size ∧ b ≠ pq ∧ b ≠ pm ∧ b ≠ mt := fun b hb => ⟨(h.Z1 b hb).1, (h.Z1 b hb).2.1, (h.Z1 b hb).2.2.1, (h.Z1 b hb).2.2.2.1⟩
    have hvq : (Value.slice Aw (ws.length + 1) cw).ownBlock ≠ some pq := fun k => (h.O1 pq (by rw [hwl1]; exact k)).1 rfl
    have hst : stepQ q pass = ({ q with H := (answerR q.H r pass).1, ws := ws, tk := setK q.tk r.id (some (answerR q.H r pass).2) }, (answerR q.H r pass).2, true) := by unfold stepQ; rw [hws]
    rw [hst]; have hpql := Blk.lt hbq; have hpml := Blk.lt hbm; have hmtl := hm.lt; have hmpq : mt ≠ pq := hm.ne_cells hbq; have hmpm : mt ≠ pm := hm.ne_cells hbm; have hHis := h.his; have hne := h.ne; refine calls' (n := 33) (rs := #[.cell 4 43, .tmp 5]) (l := [hp pq, .bool pass]) Tryd.func16 rfl rfl rfl rfl rfl ?_; have hX := Ext.refl w; refine W_seq ?_; refine W_region ?_; refine op_alloc rfl Tryd.zero43 ?_; intro w0_0 b0_0 E0_0 B0_0 L0_0
    have hG0_0 : w.heap.size ≤ b0_0 := by have := hX.size; omega
    replace hX := hX.trans E0_0; refine op rfl (r_assignV (v := .bool _) rfl) ?_; refine WL_nil ?_; refine W_seq ?_; refine W_seq ?_; refine W_region ?_; refine op rfl (r_moveV (v := .pointer _) rfl) ?_; refine opCv rfl (r_call Tryd.func45 Tryd.nm45 rfl) (mainNone_spec (h.keep hX.size (fun b hb ↦ hX.block b (hlt b hb)))) ?_; rintro v1 w1 ⟨rfl, hE⟩; replace B0_0 := Blk.ext B0_0 hE; replace hX := hX.trans hE; refine WL_nil ?_; refine W_ifp rfl (fun ht10 => ?_) (fun ht10 => ?_)
    · exact ht10.elim
    · refine W_skip ?_; refine W_seq ?_; refine W_region ?_; refine op rfl (r_moveV (v := .pointer _) rfl) ?_; refine op rfl (r_nilCheck rfl) ?_; refine op rfl (r_fieldAddr rfl Tryd.fld113_1 rfl) ?_; have hX3 := hX; have lb0 := Blk.lt B0_0; refine opCv rfl (r_call Tryd.func49 Tryd.nm49 rfl) (take_cons_spec (Blk.ext hbq hX) (hO.ext hX (fun b hb ↦ (hF1 b hb).1)) (fun b hb ↦ ⟨Nat.lt_of_lt_of_le (hF1 b hb).1 hX.size, (hF1 b hb).2.1⟩) hvq hl100) ?_; rintro v3 w3 ⟨A3, c3, v3', rfl, hR3, B3, hO3, hM3⟩
      have hb0w : w.heap.size ≤ b0_0 := by assumption
      have hsM3 := hM3.size; have hs3 := hX3.size; have D0 := hM3.blk B0_0 (fun q => by omega); clear hX B0_0; have hX := Ext.refl w3; have B0_0 := D0; refine op rfl (r_moveV (v := .tuple #[.agg #[.int .i64 r.id, .int .i64 r.base, .slice A3 r.l.length c3], .bool true]) rfl) ?_; refine op rfl (r_extract (vs := [.agg #[.int .i64 r.id, .int .i64 r.base, .slice A3 r.l.length c3], .bool true]) rfl rfl) ?_; refine op rfl (r_extract (vs := [.agg #[.int .i64 r.id, .int .i64 r.base, .slice A3 r.l.length c3], .bool true]) rfl rfl) ?_; refine op_alloc rfl Tryd.zero41 ?_; intro w3_7 b3_7 E3_7 B3_7 L3_7
      have hG3_7 : w3.heap.size ≤ b3_7 := by have := hX.size; omega
      have hNb0_0_3_7 : b0_0 ≠ b3_7 := by have := Blk.lt B0_0; omega
      replace B0_0 := Blk.ext B0_0 E3_7; replace hX := hX.trans E3_7; refine op_storeRow rfl rfl Tryd.sz41 B3_7 rfl rfl ?_; intro w3_8 C3_8 BB3_8; replace B0_0 := Chg.blk C3_8 B0_0 hNb0_0_3_7; replace hX := hX.chg C3_8 hG3_7; replace B3_7 := BB3_8; refine op rfl (r_assignV (v := .bool true) rfl) ?_; refine WL_nil ?_; refine W_seq ?_; refine W_seq ?_; refine W_region ?_; refine op rfl (r_moveV (v := .bool true) rfl) ?_; refine op rfl (r_notB rfl) ?_; refine WL_nil ?_; refine W_if rfl (fun ht20 => ?_) (fun ht20 => ?_)
      · cases ht20
      · refine W_skip ?_; refine W_seq ?_; refine W_region ?_; refine op rfl (r_moveV (v := .pointer _) rfl) ?_; refine op rfl (r_loadRow rfl B3_7 Tryd.underlying41 rfl Tryd.sz41) ?_; refine op rfl (r_moveV (v := .bool _) rfl) ?_; have hX6 := hX
        have hk3 : ∀ b, b < w.heap.size → b ≠ pq → w3.heap[b]? = w.heap[b]? := fun b h1 h2 => (hM3.block b (by omega) h2).trans (hX3.block b h1)
        have hs36 := hX6.size
        have hk6 : ∀ b, b < w.heap.size → b ≠ pq → w3_8.heap[b]? = w.heap[b]? := fun b h1 h2 => (hX6.block b (by omega)).trans (hk3 b h1 h2)
        have hbm6 : Blk w3_8 pm #[hp ph] 108 := hbm.at (hk6 pm hpml hne.symm)
        have hH6 : Hist ph Zh w3_8 q.H := hHis.keep (fun b hb => hk6 b (hZ1 b hb).1 (hZ1 b hb).2.1); have hR6 := rqT.keep (w' := w3_8) (F' := F) hR3 (fun b hb => hX6.block b (by have := (hF1 b hb).1; omega)) (fun _ h => h); have lb37 := Blk.lt B3_7
        have hb37 : w3.heap.size ≤ b3_7 := by assumption
        refine opCv rfl (r_call Tryd.func50 Tryd.nm50 rfl) (answer_spec (B3.ext hX) hbm6 hH6 (fun b hb ↦ by have := (hZ1 b hb).1; omega) (fun b hb ↦ ⟨by have := (hF1 b hb).1; omega, (hF1 b hb).2.2.2.2⟩) hR6 hokr pass) ?_; rintro v6 w6 ⟨rfl, hH7, hM6⟩; obtain ⟨an, han⟩ : ∃ x, x = (answerR q.H r pass).2 := ⟨_, rfl⟩; rw [← han]; have hsM6 := hM6.size; have D0 := hM6.blk B0_0 (fun q => by have := (hZ1 _ q).1; omega); have D3 := hM6.blk B3_7 (fun q => by have := (hZ1 _ q).1; omega); clear hX B0_0 B3_7; have hX := Ext.refl w6; have B0_0 := D0; have B3_7 := D3
        have hk66 : ∀ b, b < w3_8.heap.size → ¬ Zh b → w6.heap[b]? = w3_8.heap[b]? := fun b h1 h2 => hM6.block b h1 h2
        have hbq7 : Blk w6 pq #[.pointer (some ⟨pm, 0, none⟩), v3', .int .i64 q.room, .map (some mt)] 113 := hM6.blk (B3.ext hX6) (fun q => (hZ1 _ q).2.1 rfl); refine op_alloc rfl Tryd.zero43 ?_; intro w6_4 b6_4 E6_4 B6_4 L6_4
        have hG6_4 : w6.heap.size ≤ b6_4 := by have := hX.size; omega
        have hNb0_0_6_4 : b0_0 ≠ b6_4 := by have := Blk.lt B0_0; omega
        replace B0_0 := Blk.ext B0_0 E6_4
        have hNb3_7_6_4 : b3_7 ≠ b6_4 := by have := Blk.lt B3_7; omega
        replace B3_7 := Blk.ext B3_7 E6_4; replace hX := hX.trans E6_4; refine op_storeRow rfl rfl Tryd.sz43 B6_4 rfl rfl ?_; intro w6_5 C6_5 BB6_5; replace B0_0 := Chg.blk C6_5 B0_0 hNb0_0_6_4; replace B3_7 := Chg.blk C6_5 B3_7 hNb3_7_6_4; replace hX := hX.chg C6_5 hG6_4; replace B6_4 := BB6_5; refine WL_nil ?_; refine W_seq ?_; refine W_drawA Tryd.wd rfl ?_; intro wd7 hD; have hS : anyW wd7 := trivial; replace B0_0 := Blk.ext B0_0 hD; replace B3_7 := Blk.ext B3_7 hD; replace B6_4 := Blk.ext B6_4 hD; replace hX := hX.trans hD; refine A_take (i := 0) rfl (by kernel_rfl) (by kernel_rfl) (by kernel_rfl) rfl hS (fun _ hw => r_moveV (v := .pointer _) rfl) ?_; refine A_take (i := 1) rfl (by kernel_rfl) (by kernel_rfl) (by kernel_rfl) rfl hS (fun _ hw => r_nilCheck rfl) ?_; refine A_take (i := 2) rfl (by kernel_rfl) (by kernel_rfl) (by kernel_rfl) rfl hS (fun _ hw => r_fieldAddr rfl Tryd.fld113_3 rfl) ?_; refine A_take (i := 4) rfl (by kernel_rfl) (by kernel_rfl) (by kernel_rfl) rfl hS (fun _ hw => r_fieldAddr rfl Tryd.fld41_0 rfl) ?_; refine A_ready2 (i := 3) (j := 5) (by kernel_rfl) ?_ ?_
        · refine O_val rfl rfl (r_load (v := .map (some mt)) rfl Tryd.underlying109 rfl (Blk.cell (Blk.ext hbq7 hX) rfl)) (hS) ?_; refine A_ready1 (i := 5) (by kernel_rfl) ?_; refine O_val rfl rfl (r_load (v := .int .i64 r.id) rfl Tryd.underlying3 rfl (Blk.cell B3_7 rfl)) (hS) ?_; refine A_ready1 (i := 6) (by kernel_rfl) ?_; have hX7 := hX
          have hm7 : MapAt (.int .i64) wd7 mt f := hm.at (by rw [hX.block mt (by omega), hk66 mt (by omega) (fun q => (hZ1 _ q).2.2.2 rfl), hk6 mt hmtl hmpq])
          refine O_updateK (k := .int .i64 r.id) (v := .pointer (some ⟨b6_4, 0, none⟩)) rfl (by rfl) (by rfl) (by rfl) Tryd.underlying109 Tryd.underlying3 (by trivial) hm7 ?_; intro w7 C7 M7; refine ⟨trivial, ?_⟩
          have hb64 : w6.heap.size ≤ b6_4 := by assumption
          have lb64 := Blk.lt B6_4; have D0 := Chg.blk C7 B0_0 (by omega); have D6 := Chg.blk C7 B6_4 (by omega); have hs67 := hX7.size; have hs77 := C7.size; obtain ⟨wB, hXB, hsB⟩ := exists_cut w7 (n := w.heap.size) (by omega); have D3 := Chg.blk C7 B3_7 (by omega); clear hX B0_0 B6_4 B3_7; have hX := hXB; have B3_7 := D3; have B0_0 := D0; have B6_4 := D6
          have hG0_0 : wB.heap.size ≤ b0_0 := by omega
          refine A_done (by kernel_rfl) ?_; refine W_seq ?_; refine W_region ?_; refine op rfl (r_loadRow (c := an.vals.toArray) (by rfl) B6_4 Tryd.underlying43 rfl Tryd.sz43) ?_; refine op_storeRow rfl rfl Tryd.sz43 B0_0 rfl rfl ?_; intro w8_1 C8_1 BB8_1; replace B3_7 := Chg.blk C8_1 B3_7 (fun q => hNb0_0_3_7 q.symm); replace B6_4 := Chg.blk C8_1 B6_4 (fun q => hNb0_0_6_4 q.symm); replace hX := hX.chg C8_1 hG0_0; replace B0_0 := BB8_1; refine op rfl (r_assignV (v := .bool _) rfl) ?_; refine WL_nil ?_; refine W_ret (finX_ret ?_); refine fin_cell1 rfl B0_0 Tryd.underlying43 rfl Tryd.sz43 ?_; have hs8 := C8_1.size
          have hMq : ∀ {a b : World}, Mv (fun b => b = pq) a b → Mv Z a b := fun hM => ⟨hM.os, hM.tape, hM.output, hM.size, fun k hk hn => hM.block k hk (fun q => hn (hZ k (Or.inl q)))⟩
          have hMh : ∀ {a b : World}, Mv Zh a b → Mv Z a b := fun hM => ⟨hM.os, hM.tape, hM.output, hM.size, fun k hk hn => hM.block k hk (fun q => hn (hZ k (Or.inr (Or.inr (Or.inr (Or.inr (Or.inr q)))))))⟩
          have hM7 : Mv Z w w7 := (((((Mv.of_ext hX3).trans (hMq hM3)).trans (Mv.of_ext hX6)).trans (hMh hM6)).trans (Mv.of_ext hX7)).trans (Mv.of_chg C7 (hZ mt (Or.inr (Or.inr (Or.inl rfl))))); have hME := Mv.cut hM7 hXB hX hsB
          have hk6E : ∀ b, b < w6.heap.size → b ≠ b0_0 → b ≠ mt → w8_1.heap[b]? = w6.heap[b]? := fun b h1 h2 h3 => by
            rw [C8_1.block b (by omega) h2, C7.block b (by omega) h3, hX7.block b h1]
          have hkE : ∀ b, b < w.heap.size → b ≠ pq → ¬ Zh b → b ≠ mt → w8_1.heap[b]? = w.heap[b]? := fun b h1 h2 h3 h4 => by
            rw [hk6E b (by omega) (by omega) h4, hk66 b (by omega) h3, hk6 b h1 h2]
          have hkN : ∀ b, w.heap.size ≤ b → b < w3_8.heap.size → b ≠ b0_0 → w8_1.heap[b]? = w3_8.heap[b]? := fun b h1 h2 h3 => by
            rw [hk6E b (by omega) h3 (by omega), hk66 b h2 (fun q => by have := (hZ1 b q).1; omega)]
          have hSF : Same F w w8_1 := fun b hb => hkE b (hF1 b hb).1 (hF1 b hb).2.1 (hF1 b hb).2.2.2.2 (hF1 b hb).2.2.2.1
          have hown : ∀ g, v3'.ownBlock = some g → w.heap.size ≤ g ∧ g < w3.heap.size ∧ g ≠ b0_0 := fun g hg => by
            have := hO3.lt hg; exact ⟨by omega, this.2, by omega⟩
          have hQn : QueAt pq pm ph mt v3' (fun b => F b ∨ b = b6_4) (fun b => (Zh b ∨ since w3_8 w6 b) ∧ b < w6.heap.size) w8_1 { q with H := (answerR q.H r pass).1, ws := ws, tk := setK q.tk r.id (some an) } := by
            refine ⟨hbq7.at (hk6E pq (by omega) (by omega) hmpq.symm), hbm.at (hkE pm hpml hne.symm (fun q => (hZ1 _ q).2.2.1 rfl) hmpm.symm), ?_, Own.low (hO3.keep (fun b hb => (hSF b hb).trans ((hk3 b (hF1 b hb).1 (hF1 b hb).2.1).symm)) (fun b hb => Or.inl hb) (fun g hg => ?_)) (Nat.zero_le _), ⟨_, M7.chg C8_1 (by omega), ?_⟩, hne, fun b hb => ?_, fun b hb => ?_, fun b hb => ?_, hro, by show (ws.length : Int) ≤ q.room; omega, fun x hx => h.ok x (by rw [hws]; exact List.mem_cons_of_mem _ hx)⟩
            · exact hH7.lt.keep (fun b hb => hk6E b hb.2 (fun q => by
                rcases hb.1 with k | k
                · have := (hZ1 b k).1; omega
                · have := k.1; omega) (fun q => by
                rcases hb.1 with k | k
                · exact (hZ1 b k).2.2.2 q
                · have := k.1; omega))
            · obtain ⟨g1, g2, g3⟩ := hown g hg; rw [hkN g g1 (by omega) g3, hX6.block g g2]
            · exact (hf.keep (w' := w8_1) (F' := fun b => F b ∨ b = b6_4) hSF (fun b hb => Or.inl hb)).put1 r.id an (Or.inr rfl) B6_4
            · have hno : v3'.ownBlock ≠ some b := fun k => by
                have := hown b k
                rcases hb with j | j
                · have := (hF1 b j).1; omega
                · omega
              rcases hb with j | j
              · obtain ⟨q1, q2, q3, q4, q5⟩ := hF1 b j; exact ⟨by omega, q2, q3, q4, hno, fun k => k.1.elim q5 (fun k => by have := k.1; omega)⟩
              · exact ⟨by omega, by omega, by omega, by omega, hno, fun k => by have := k.2; omega⟩
            · have hno : v3'.ownBlock ≠ some b := fun k => by
                have := hown b k
                rcases hb.1 with j | j
                · have := (hZ1 b j).1; omega
                · have := j.1; omega
              rcases hb.1 with j | j
              · obtain ⟨q1, q2, q3, q4⟩ := hZ1 b j; exact ⟨by omega, q2, q3, q4, hno⟩
              · have := j.1; have := j.2
                exact ⟨by omega, by omega, by omega, by omega, hno⟩
            · have := hown b hb; exact ⟨by omega, by omega, by omega⟩
          refine ⟨_, rfl, rfl, ⟨pm, mt, v3', _, _, hQn, ?_⟩, hME⟩; rintro b (k | k | k | k | k | k)
          · exact Or.inl (hZ b (Or.inl k))
          · exact Or.inl (hZ b (Or.inr (Or.inl k)))
          · exact Or.inl (hZ b (Or.inr (Or.inr (Or.inl k))))
          · have := hown b k; exact Or.inr ⟨this.1, by omega⟩
          · rcases k with k | k
            · exact Or.inl (hZ b (Or.inr (Or.inr (Or.inr (Or.inr (Or.inl k))))))
            · exact Or.inr ⟨by omega, by omega⟩
          · rcases k.1 with j | j
            · exact Or.inl (hZ b (Or.inr (Or.inr (Or.inr (Or.inr (Or.inr j))))))
            · have := j.1; have := j.2; exact Or.inr ⟨by omega, by omega⟩
        · refine O_val rfl rfl (r_load (v := .int .i64 r.id) rfl Tryd.underlying3 rfl (Blk.cell B3_7 rfl)) (hS) ?_; refine A_ready1 (i := 3) (by kernel_rfl) ?_; refine O_val rfl rfl (r_load (v := .map (some mt)) rfl Tryd.underlying109 rfl (Blk.cell (Blk.ext hbq7 hX) rfl)) (hS) ?_; refine A_ready1 (i := 6) (by kernel_rfl) ?_; have hX7 := hX
          have hm7 : MapAt (.int .i64) wd7 mt f := hm.at (by rw [hX.block mt (by omega), hk66 mt (by omega) (fun q => (hZ1 _ q).2.2.2 rfl), hk6 mt hmtl hmpq])
          refine O_updateK (k := .int .i64 r.id) (v := .pointer (some ⟨b6_4, 0, none⟩)) rfl (by rfl) (by rfl) (by rfl) Tryd.underlying109 Tryd.underlying3 (by trivial) hm7 ?_; intro w7 C7 M7; refine ⟨trivial, ?_⟩
          have hb64 : w6.heap.size ≤ b6_4 := by assumption
          have lb64 := Blk.lt B6_4; have D0 := Chg.blk C7 B0_0 (by omega); have D6 := Chg.blk C7 B6_4 (by omega); have hs67 := hX7.size; have hs77 := C7.size; obtain ⟨wB, hXB, hsB⟩ := exists_cut w7 (n := w.heap.size) (by omega); have D3 := Chg.blk C7 B3_7 (by omega); clear hX B0_0 B6_4 B3_7; have hX := hXB; have B3_7 := D3; have B0_0 := D0; have B6_4 := D6
          have hG0_0 : wB.heap.size ≤ b0_0 := by omega
          refine A_done (by kernel_rfl) ?_; refine W_seq ?_; refine W_region ?_; refine op rfl (r_loadRow (c := an.vals.toArray) (by rfl) B6_4 Tryd.underlying43 rfl Tryd.sz43) ?_; refine op_storeRow rfl rfl Tryd.sz43 B0_0 rfl rfl ?_; intro w8_1 C8_1 BB8_1; replace B3_7 := Chg.blk C8_1 B3_7 (fun q => hNb0_0_3_7 q.symm); replace B6_4 := Chg.blk C8_1 B6_4 (fun q => hNb0_0_6_4 q.symm); replace hX := hX.chg C8_1 hG0_0; replace B0_0 := BB8_1; refine op rfl (r_assignV (v := .bool _) rfl) ?_; refine WL_nil ?_; refine W_ret (finX_ret ?_); refine fin_cell1 rfl B0_0 Tryd.underlying43 rfl Tryd.sz43 ?_; have hs8 := C8_1.size
          have hMq : ∀ {a b : World}, Mv (fun b => b = pq) a b → Mv Z a b := fun hM => ⟨hM.os, hM.tape, hM.output, hM.size, fun k hk hn => hM.block k hk (fun q => hn (hZ k (Or.inl q)))⟩
          have hMh : ∀ {a b : World}, Mv Zh a b → Mv Z a b := fun hM => ⟨hM.os, hM.tape, hM.output, hM.size, fun k hk hn => hM.block k hk (fun q => hn (hZ k (Or.inr (Or.inr (Or.inr (Or.inr (Or.inr q)))))))⟩
          have hM7 : Mv Z w w7 := (((((Mv.of_ext hX3).trans (hMq hM3)).trans (Mv.of_ext hX6)).trans (hMh hM6)).trans (Mv.of_ext hX7)).trans (Mv.of_chg C7 (hZ mt (Or.inr (Or.inr (Or.inl rfl))))); have hME := Mv.cut hM7 hXB hX hsB
          have hk6E : ∀ b, b < w6.heap.size → b ≠ b0_0 → b ≠ mt → w8_1.heap[b]? = w6.heap[b]? := fun b h1 h2 h3 => by
            rw [C8_1.block b (by omega) h2, C7.block b (by omega) h3, hX7.block b h1]
          have hkE : ∀ b, b < w.heap.size → b ≠ pq → ¬ Zh b → b ≠ mt → w8_1.heap[b]? = w.heap[b]? := fun b h1 h2 h3 h4 => by
            rw [hk6E b (by omega) (by omega) h4, hk66 b (by omega) h3, hk6 b h1 h2]
          have hkN : ∀ b, w.heap.size ≤ b → b < w3_8.heap.size → b ≠ b0_0 → w8_1.heap[b]? = w3_8.heap[b]? := fun b h1 h2 h3 => by
            rw [hk6E b (by omega) h3 (by omega), hk66 b h2 (fun q => by have := (hZ1 b q).1; omega)]
          have hSF : Same F w w8_1 := fun b hb => hkE b (hF1 b hb).1 (hF1 b hb).2.1 (hF1 b hb).2.2.2.2 (hF1 b hb).2.2.2.1
          have hown : ∀ g, v3'.ownBlock = some g → w.heap.size ≤ g ∧ g < w3.heap.size ∧ g ≠ b0_0 := fun g hg => by
            have := hO3.lt hg; exact ⟨by omega, this.2, by omega⟩
          have hQn : QueAt pq pm ph mt v3' (fun b => F b ∨ b = b6_4) (fun b => (Zh b ∨ since w3_8 w6 b) ∧ b < w6.heap.size) w8_1 { q with H := (answerR q.H r pass).1, ws := ws, tk := setK q.tk r.id (some an) } := by
            refine ⟨hbq7.at (hk6E pq (by omega) (by omega) hmpq.symm), hbm.at (hkE pm hpml hne.symm (fun q => (hZ1 _ q).2.2.1 rfl) hmpm.symm), ?_, Own.low (hO3.keep (fun b hb => (hSF b hb).trans ((hk3 b (hF1 b hb).1 (hF1 b hb).2.1).symm)) (fun b hb => Or.inl hb) (fun g hg => ?_)) (Nat.zero_le _), ⟨_, M7.chg C8_1 (by omega), ?_⟩, hne, fun b hb => ?_, fun b hb => ?_, fun b hb => ?_, hro, by show (ws.length : Int) ≤ q.room; omega, fun x hx => h.ok x (by rw [hws]; exact List.mem_cons_of_mem _ hx)⟩
            · exact hH7.lt.keep (fun b hb => hk6E b hb.2 (fun q => by
                rcases hb.1 with k | k
                · have := (hZ1 b k).1; omega
                · have := k.1; omega) (fun q => by
                rcases hb.1 with k | k
                · exact (hZ1 b k).2.2.2 q
                · have := k.1; omega))
            · obtain ⟨g1, g2, g3⟩ := hown g hg; rw [hkN g g1 (by omega) g3, hX6.block g g2]
            · exact (hf.keep (w' := w8_1) (F' := fun b => F b ∨ b = b6_4) hSF (fun b hb => Or.inl hb)).put1 r.id an (Or.inr rfl) B6_4
            · have hno : v3'.ownBlock ≠ some b := fun k => by
                have := hown b k
                rcases hb with j | j
                · have := (hF1 b j).1; omega
                · omega
              rcases hb with j | j
              · obtain ⟨q1, q2, q3, q4, q5⟩ := hF1 b j; exact ⟨by omega, q2, q3, q4, hno, fun k => k.1.elim q5 (fun k => by have := k.1; omega)⟩
              · exact ⟨by omega, by omega, by omega, by omega, hno, fun k => by have := k.2; omega⟩
            · have hno : v3'.ownBlock ≠ some b := fun k => by
                have := hown b k
                rcases hb.1 with j | j
                · have := (hZ1 b j).1; omega
                · have := j.1; omega
              rcases hb.1 with j | j
              · obtain ⟨q1, q2, q3, q4⟩ := hZ1 b j; exact ⟨by omega, q2, q3, q4, hno⟩
              · have := j.1; have := j.2
                exact ⟨by omega, by omega, by omega, by omega, hno⟩
            · have := hown b hb; exact ⟨by omega, by omega, by omega⟩
          refine ⟨_, rfl, rfl, ⟨pm, mt, v3', _, _, hQn, ?_⟩, hME⟩; rintro b (k | k | k | k | k | k)
          · exact Or.inl (hZ b (Or.inl k))
          · exact Or.inl (hZ b (Or.inr (Or.inl k)))
          · exact Or.inl (hZ b (Or.inr (Or.inr (Or.inl k))))
          · have := hown b k; exact Or.inr ⟨this.1, by omega⟩
          · rcases k with k | k
            · exact Or.inl (hZ b (Or.inr (Or.inr (Or.inr (Or.inr (Or.inl k))))))
            · exact Or.inr ⟨by omega, by omega⟩
          · rcases k.1 with j | j
            · exact Or.inl (hZ b (Or.inr (Or.inr (Or.inr (Or.inr (Or.inr j))))))
            · have := j.1; have := j.2; exact Or.inr ⟨by omega, by omega⟩
end Go.Proofs.YtmedmajdoecjfaaDoor
