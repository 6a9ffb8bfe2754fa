/-
  The walks of the references: which revision was the last one.
-/
import Derived.Test.YtmedmajdoecjfaaDoorFacts
import Derived.Test.YtmedmajdoecjfaaDoorRef3
namespace Go.Proofs.YtmedmajdoecjfaaDoor
open Go Go.Eng Go.RowKit Go.Proofs
set_option linter.unusedVariables false
set_option linter.unusedSimpArgs false
set_option maxHeartbeats 1000000
set_option maxRecDepth 20000

theorem lastR_one (x : Rv) (s : List UInt8) : lastR [x] s = 0 := by unfold lastR lastGo lastGo; split <;> rfl
theorem refLast_spec {G : Nat → Prop} {w : World} {v : Value} {H : List Rv} (hR : RefH G w v H) (h1 : 1 ≤ H.length) (hl : H.length ≤ 100001) (hG : ∀ b, G b → b < w.heap.size) (s : List UInt8) :
    Calls Tryd.prog 71 #[v, .string (str s)] w (fun en w' => ∃ v', en = .returned v' ∧ v' = .int .i64 (lastR H s : Nat) ∧ Ext w w') := by
  obtain ⟨AT, cT, AM, cM, rfl, hcT, hcM, hT, hM⟩ := hR
  have hat : ∀ r (hr : r < H.length), ∃ g off Ai ci, AM = some ⟨g, off, none⟩ ∧ w.cell? ⟨g, off + r, none⟩ = some (.slice Ai H[r].d.length ci) ∧ H[r].d.length ≤ 140737488355328 ∧ dlT.Row w G Ai H[r].d := fun r hr => by
    have him : r < (H.map Rv.d).length := by rw [List.length_map]; exact hr
    obtain ⟨g, off, Ai, ci, hA, hcell, hc1, hc2, hrr⟩ := row_slice hM him
    simp only [List.getElem_map] at hcell hc1 hc2 hrr
    exact ⟨g, off, Ai, ci, hA, hcell, hc2, hrr⟩
  refine calls' (n := 37) (rs := #[.tmp 4]) (l := [.agg #[.slice AT H.length cT, .slice AM H.length cM], .string (str s)]) Tryd.func71 rfl rfl rfl rfl rfl ?_; have hX := Ext.refl w; refine W_seq ?_; refine W_region ?_; refine op_box (v := .agg _) rfl rfl ?_; intro w0_0 b0_0 E0_0 B0_0 L0_0
  have hG0_0 : w.heap.size ≤ b0_0 := by have := hX.size; omega
  replace hX := hX.trans E0_0; refine op rfl (r_assignV (v := .int _ _) rfl) ?_; refine WL_nil ?_; refine W_seq ?_; refine W_region ?_; refine op rfl (r_assignV (v := .int _ _) rfl) ?_; refine WL_nil ?_; refine W_seq ?_; refine W_seq ?_; refine W_region ?_; refine op rfl (r_assignV (v := .int _ _) rfl) ?_; refine WL_nil ?_; refine W_block ?_; refine W_loop [5, 6, 7, 8, 9, 10, 11, 12, 13, 14, 15, 16, 17, 18, 19, 20, 21, 22, 23, 24, 25, 26, 27, 28, 29, 30, 31, 32, 33, 34, 35] (fun q e' w' => ∃ (r : Nat), q = H.length - r ∧ 1 ≤ r ∧ r ≤ H.length ∧ e' 6 = .int .i64 r ∧ e' 5 = .int .i64 (lastR (H.take r) s : Nat) ∧ Blk w' b0_0 #[.slice AT H.length cT, .slice AM H.length cM] 79 ∧ Ext w w') (H.length - 1) ?_ ?_
  · refine ⟨1, by omega, Nat.le_refl _, h1, rfl, ?_, B0_0, hX⟩
    have : H.take 1 = [H[0]] := by
      cases H with
      | nil => simp at h1
      | cons a b => rfl
    rw [this, lastR_one]; rfl
  intro k g w' hI; obtain ⟨r, hqr, hr1, hrl, h6, h5, B0', hX'⟩ := hI; clear hX B0_0; have hX := hX'; have B0_0 := B0'; refine W_set (i := 6) h6 ?_; refine W_set (i := 5) h5 ?_; refine W_seq ?_; refine W_seq ?_; refine W_region ?_; refine op rfl (r_moveV (v := .int _ _) rfl) ?_; refine op rfl (r_loadRow rfl B0_0 Tryd.underlying79 rfl Tryd.sz79) ?_; refine opCv rfl (r_call Tryd.func37 Tryd.nm37 rfl) (refHead_spec _ (by omega) _ rfl) ?_; rintro v3 w3 ⟨rfl, hE⟩; replace B0_0 := Blk.ext B0_0 hE; replace hX := hX.trans hE; refine op rfl (r_leq rfl rfl) ?_; refine WL_nil ?_; refine W_ifp rfl (fun ht11 => ?_) (fun ht11 => ?_)
  · have hlt : r < H.length := by omega
    obtain ⟨g1, o1, Ai, ci, hA1, hcell1, hdl, hrr⟩ := hat r hlt; have hdat := dl_at hrr; refine W_skip ?_; refine W_seq ?_; refine W_block ?_; refine W_seq ?_; refine W_region ?_; refine op rfl (r_assignV (v := .int _ _) rfl) ?_; refine WL_nil ?_; refine W_block ?_; refine W_loop [5, 7, 14, 15, 16, 17, 18, 19, 20, 21, 22, 23, 24, 25, 26, 27, 28, 29, 30, 31, 32, 33, 34, 35] (fun q e' w' => ∃ (i : Nat), q = H[r].d.length - i ∧ i ≤ H[r].d.length ∧ e' 7 = .int .i64 i ∧ e' 5 = .int .i64 ((if (H[r].d.take i).any (fun d => decide (d.p = s)) then r else lastR (H.take r) s : Nat) : Int) ∧ Blk w' b0_0 #[.slice AT H.length cT, .slice AM H.length cM] 79 ∧ Ext w w') (H[r].d.length) ?_ ?_
    · exact ⟨0, by omega, by omega, rfl, by rw [List.take_zero]; rfl, B0_0, hX⟩
    intro k g w' hI; obtain ⟨i2, hqi, hil, h7, h5', B0'', hX''⟩ := hI; clear hX B0_0; have hX := hX''; have B0_0 := B0''; refine W_set (i := 7) h7 ?_; refine W_set (i := 5) h5' ?_; refine W_seq ?_; refine W_seq ?_; refine W_region ?_; refine op rfl (r_moveV (v := .int _ _) rfl) ?_; refine op rfl (r_fieldAddr rfl Tryd.fld79_1 rfl) ?_; refine op rfl (r_load (v := .slice AM H.length cM) rfl Tryd.underlying52 rfl (Blk.cell B0_0 rfl)) ?_; refine op rfl (r_moveV (v := .int _ _) rfl) ?_; refine op rfl (r_indexAddr1 rfl rfl hA1 Tryd.underlying52 Tryd.sz39 (by omega) (by omega)) ?_; refine op rfl (r_load (v := .slice Ai H[r].d.length ci) rfl Tryd.underlying39 rfl (ext_cell hX hcell1)) ?_; refine op rfl (r_len_slice rfl Tryd.underlying39) ?_; refine op rfl (r_lss rfl rfl) ?_; refine WL_nil ?_; refine W_ifp rfl (fun ht21 => ?_) (fun ht21 => ?_)
    · have hlt2 : i2 < H[r].d.length := by omega
      obtain ⟨g2, o2, Bi, di, hA2, hc2⟩ := hdat i2 hlt2; refine W_skip ?_; refine W_seq ?_; refine W_block ?_; refine W_seq ?_; refine W_region ?_; refine op rfl (r_fieldAddr rfl Tryd.fld79_1 rfl) ?_; refine op rfl (r_load (v := .slice AM H.length cM) rfl Tryd.underlying52 rfl (Blk.cell B0_0 rfl)) ?_; refine op rfl (r_moveV (v := .int _ _) rfl) ?_; refine op rfl (r_indexAddr1 rfl rfl hA1 Tryd.underlying52 Tryd.sz39 (by omega) (by omega)) ?_; refine op rfl (r_load (v := .slice Ai H[r].d.length ci) rfl Tryd.underlying39 rfl (ext_cell hX hcell1)) ?_; refine op rfl (r_moveV (v := .int _ _) rfl) ?_; refine op rfl (r_indexAddrK (by rw [← hA2]; rfl) rfl Tryd.underlying39 Tryd.sz38 hlt2) ?_; refine op rfl (r_fieldAddr rfl Tryd.fld38_1 rfl) ?_; refine op rfl (r_load (v := .string (str H[r].d[i2].p)) rfl Tryd.underlying9 rfl (ext_cell hX (hc2 1 (by omega)))) ?_; refine op rfl (r_moveV (v := .string _) rfl) ?_; refine op rfl (rt_eql rfl rfl) ?_; refine WL_nil ?_; refine W_ifp rfl (fun ht34 => ?_) (fun ht34 => ?_)
      · refine W_region ?_; refine op rfl (r_moveV (v := .int _ _) rfl) ?_; refine op rfl (r_assignV (v := .int _ _) rfl) ?_; refine WL_nil ?_; refine W_region ?_; refine op rfl (r_moveV (v := .int _ _) rfl) ?_; refine op rfl (r_add' (r := ((i2 + 1 : Nat) : Int)) rfl rfl (by rw [wrap_i64 (by omega) (by omega)]; omega)) ?_; refine op rfl (r_assignV (v := .int _ _) rfl) ?_; refine WL_nil ?_; refine ⟨?_, by repeat (first | with_reducible exact Out.refl _ _ | with_reducible exact Out.mix | refine Out.put rfl ?_ | refine Out.mixin rfl ?_ | exact Out.refl _ _ | exact Out.mix)⟩; refine ⟨H[r].d.length - (i2 + 1), by omega, i2 + 1, rfl, by omega, rfl, ?_, B0_0, hX⟩; rw [List.take_succ_eq_append_getElem hlt2, List.any_append]
        first
          | (simp only [List.any_cons, List.any_nil, Bool.or_false, decide_eq_true ht34, Bool.or_true, if_true]; rfl)
          | (simp only [List.any_cons, List.any_nil, Bool.or_false, decide_eq_false ht34]; rfl)
      · refine W_skip ?_; refine W_region ?_; refine op rfl (r_moveV (v := .int _ _) rfl) ?_; refine op rfl (r_add' (r := ((i2 + 1 : Nat) : Int)) rfl rfl (by rw [wrap_i64 (by omega) (by omega)]; omega)) ?_; refine op rfl (r_assignV (v := .int _ _) rfl) ?_; refine WL_nil ?_; refine ⟨?_, by repeat (first | with_reducible exact Out.refl _ _ | with_reducible exact Out.mix | refine Out.put rfl ?_ | refine Out.mixin rfl ?_ | exact Out.refl _ _ | exact Out.mix)⟩; refine ⟨H[r].d.length - (i2 + 1), by omega, i2 + 1, rfl, by omega, rfl, ?_, B0_0, hX⟩; rw [List.take_succ_eq_append_getElem hlt2, List.any_append]
        first
          | (simp only [List.any_cons, List.any_nil, Bool.or_false, decide_eq_true ht34, Bool.or_true, if_true]; rfl)
          | (simp only [List.any_cons, List.any_nil, Bool.or_false, decide_eq_false ht34]; rfl)
    · refine W_exit (blk_hit ?_); refine W_region ?_; refine op rfl (r_moveV (v := .int _ _) rfl) ?_; refine op rfl (r_add' (r := ((r + 1 : Nat) : Int)) rfl rfl (by rw [wrap_i64 (by omega) (by omega)]; omega)) ?_; refine op rfl (r_assignV (v := .int _ _) rfl) ?_; refine WL_nil ?_; refine ⟨?_, by repeat (first | with_reducible exact Out.refl _ _ | with_reducible exact Out.mix | refine Out.put rfl ?_ | refine Out.mixin rfl ?_ | exact Out.refl _ _ | exact Out.mix)⟩; refine ⟨H.length - (r + 1), by omega, r + 1, rfl, by omega, by omega, rfl, ?_, B0_0, hX⟩
      have hil : i2 = H[r].d.length := by omega
      rw [List.take_succ_eq_append_getElem hlt, lastR_snoc]; subst hil; rw [show (H.take r).length = r from by rw [List.length_take]; omega]
      show Value.int .i64 ((if (H[r].d.take H[r].d.length).any (fun d => decide (d.p = s)) = true then r else lastR (H.take r) s : Nat) : Int) = _
      rw [List.take_length]
      rfl
  · refine W_exit (blk_hit ?_); refine W_seq ?_; refine W_region ?_; refine op rfl (r_moveV (v := .int _ _) rfl) ?_; refine op rfl (r_assignV (v := .int _ _) rfl) ?_; refine WL_nil ?_; refine W_ret (finX_ret ?_); refine fin1 ?_
    obtain rfl : r = H.length := by omega
    rw [List.take_length]; exact ⟨_, rfl, rfl, hX⟩
end Go.Proofs.YtmedmajdoecjfaaDoor
