/-
  The walks of the references: which revision was the last one.
-/
import Derived.Test.YtkdcmdcdjnmkaaaDoorFacts
import Derived.Test.YtkdcmdcdjnmkaaaDoorRef3
namespace Go.Proofs.YtkdcmdcdjnmkaaaDoor
open Go Go.Eng Go.RowKit Go.Proofs
set_option linter.unusedVariables false
set_option linter.unusedSimpArgs false
set_option maxHeartbeats 1000000
set_option maxRecDepth 20000

theorem lastR_one (x : Rv) (s : List UInt8) : lastR [x] s = 0 := by unfold lastR lastGo lastGo; split <;> rfl
theorem refLast_spec {G : Nat → Prop} {w : World} {v : Value} {H : List Rv} (hR : RefH G w v H) (h1 : 1 ≤ H.length) (hl : H.length ≤ 100001) (hG : ∀ b, G b → b < w.heap.size) (s : List UInt8) :
    Calls Tryd.prog 29 #[v, .string (str s)] w (fun en w' => ∃ v', en = .returned v' ∧ v' = .int .i64 (lastR H s : Nat) ∧ Ext w w') := by
  obtain ⟨AT, cT, AM, cM, rfl, hcT, hcM, hT, hM⟩ := hR
  have hat : ∀ r (hr : r < H.length), ∃ g off Ai ci, AM = some ⟨g, off, none⟩ ∧ w.cell? ⟨g, off + r, none⟩ = some (.slice Ai H[r].d.length ci) ∧ H[r].d.length ≤ 140737488355328 ∧ dlT.Row w G Ai H[r].d := fun r hr => by
    have him : r < (H.map Rv.d).length := by rw [List.length_map]; exact hr
    obtain ⟨g, off, Ai, ci, hA, hcell, hc1, hc2, hrr⟩ := row_slice hM him
    simp only [List.getElem_map] at hcell hc1 hc2 hrr
    exact ⟨g, off, Ai, ci, hA, hcell, hc2, hrr⟩
  refine calls' (n := 37) (rs := #[.tmp 4]) (l := [.agg #[.slice AT H.length cT, .slice AM H.length cM], .string (str s)]) Tryd.func29 rfl rfl rfl rfl rfl ?_
  have hX := Ext.refl w
  refine W_seq ?_
  refine W_region ?_
  refine op_box (v := .agg _) rfl rfl ?_
  intro w0_0 b0_0 E0_0 B0_0 L0_0
  have hG0_0 : w.heap.size ≤ b0_0 := by have := hX.size; omega
  replace hX := hX.trans E0_0
  refine op rfl (r_assignV (v := .int _ _) rfl) ?_
  refine WL_nil ?_
  refine W_seq ?_
  refine W_region ?_
  refine op rfl (r_assignV (v := .int _ _) rfl) ?_
  refine WL_nil ?_
  refine W_seq ?_
  refine W_seq ?_
  refine W_region ?_
  refine op rfl (r_assignV (v := .int _ _) rfl) ?_
  refine WL_nil ?_
  refine W_block ?_
  refine W_loop [5, 6, 7, 8, 9, 10, 11, 12, 13, 14, 15, 16, 17, 18, 19, 20, 21, 22, 23, 24, 25, 26, 27, 28, 29, 30, 31, 32, 33, 34, 35] (fun q e' w' => ∃ (r : Nat), q = H.length - r ∧ 1 ≤ r ∧ r ≤ H.length ∧ e' 6 = .int .i64 r ∧ e' 5 = .int .i64 (lastR (H.take r) s : Nat) ∧ Blk w' b0_0 #[.slice AT H.length cT, .slice AM H.length cM] 52 ∧ Ext w w') (H.length - 1) ?_ ?_
  · refine ⟨1, by omega, Nat.le_refl _, h1, rfl, ?_, B0_0, hX⟩
    have : H.take 1 = [H[0]] := by
      cases H with
      | nil => simp at h1
      | cons a b => rfl
    rw [this, lastR_one]; rfl
  intro k g w' hI
  obtain ⟨r, hqr, hr1, hrl, h6, h5, B0', hX'⟩ := hI
  clear hX B0_0
  have hX := hX'
  have B0_0 := B0'
  refine W_set (i := 6) h6 ?_
  refine W_set (i := 5) h5 ?_
  refine W_seq ?_
  refine W_seq ?_
  refine W_region ?_
  refine op rfl (r_moveV (v := .int _ _) rfl) ?_
  refine op rfl (r_loadRow rfl B0_0 Tryd.underlying52 rfl Tryd.sz52) ?_
  refine opCv rfl (r_call Tryd.func20 Tryd.nm20 rfl) (refHead_spec _ (by omega) _ rfl) ?_
  rintro v3 w3 ⟨rfl, hE⟩
  replace B0_0 := Blk.ext B0_0 hE
  replace hX := hX.trans hE
  refine op rfl (r_leq rfl rfl) ?_
  refine WL_nil ?_
  refine W_ifp rfl (fun ht11 => ?_) (fun ht11 => ?_)
  · have hlt : r < H.length := by omega
    obtain ⟨g1, o1, Ai, ci, hA1, hcell1, hdl, hrr⟩ := hat r hlt
    have hdat := dl_at hrr
    refine W_skip ?_
    refine W_seq ?_
    refine W_block ?_
    refine W_seq ?_
    refine W_region ?_
    refine op rfl (r_assignV (v := .int _ _) rfl) ?_
    refine WL_nil ?_
    refine W_block ?_
    refine W_loop [5, 7, 14, 15, 16, 17, 18, 19, 20, 21, 22, 23, 24, 25, 26, 27, 28, 29, 30, 31, 32, 33, 34, 35] (fun q e' w' => ∃ (i : Nat), q = H[r].d.length - i ∧ i ≤ H[r].d.length ∧ e' 7 = .int .i64 i ∧ e' 5 = .int .i64 ((if (H[r].d.take i).any (fun d => decide (d.p = s)) then r else lastR (H.take r) s : Nat) : Int) ∧ Blk w' b0_0 #[.slice AT H.length cT, .slice AM H.length cM] 52 ∧ Ext w w') (H[r].d.length) ?_ ?_
    · exact ⟨0, by omega, by omega, rfl, by rw [List.take_zero]; rfl, B0_0, hX⟩
    intro k g w' hI
    obtain ⟨i2, hqi, hil, h7, h5', B0'', hX''⟩ := hI
    clear hX B0_0
    have hX := hX''
    have B0_0 := B0''
    refine W_set (i := 7) h7 ?_
    refine W_set (i := 5) h5' ?_
    refine W_seq ?_
    refine W_seq ?_
    refine W_region ?_
    refine op rfl (r_moveV (v := .int _ _) rfl) ?_
    refine op rfl (r_fieldAddr rfl Tryd.fld52_1 rfl) ?_
    refine op rfl (r_load (v := .slice AM H.length cM) rfl Tryd.underlying24 rfl (Blk.cell B0_0 rfl)) ?_
    refine op rfl (r_moveV (v := .int _ _) rfl) ?_
    refine op rfl (r_indexAddr1 rfl rfl hA1 Tryd.underlying24 Tryd.sz33 (by omega) (by omega)) ?_
    refine op rfl (r_load (v := .slice Ai H[r].d.length ci) rfl Tryd.underlying33 rfl (ext_cell hX hcell1)) ?_
    refine op rfl (r_len_slice rfl Tryd.underlying33) ?_
    refine op rfl (r_lss rfl rfl) ?_
    refine WL_nil ?_
    refine W_ifp rfl (fun ht21 => ?_) (fun ht21 => ?_)
    · have hlt2 : i2 < H[r].d.length := by omega
      obtain ⟨g2, o2, Bi, di, hA2, hc2⟩ := hdat i2 hlt2
      refine W_skip ?_
      refine W_seq ?_
      refine W_block ?_
      refine W_seq ?_
      refine W_region ?_
      refine op rfl (r_fieldAddr rfl Tryd.fld52_1 rfl) ?_
      refine op rfl (r_load (v := .slice AM H.length cM) rfl Tryd.underlying24 rfl (Blk.cell B0_0 rfl)) ?_
      refine op rfl (r_moveV (v := .int _ _) rfl) ?_
      refine op rfl (r_indexAddr1 rfl rfl hA1 Tryd.underlying24 Tryd.sz33 (by omega) (by omega)) ?_
      refine op rfl (r_load (v := .slice Ai H[r].d.length ci) rfl Tryd.underlying33 rfl (ext_cell hX hcell1)) ?_
      refine op rfl (r_moveV (v := .int _ _) rfl) ?_
      refine op rfl (r_indexAddrK (by rw [← hA2]; rfl) rfl Tryd.underlying33 Tryd.sz36 hlt2) ?_
      refine op rfl (r_fieldAddr rfl Tryd.fld36_1 rfl) ?_
      refine op rfl (r_load (v := .string (str H[r].d[i2].p)) rfl Tryd.underlying9 rfl (ext_cell hX (hc2 1 (by omega)))) ?_
      refine op rfl (r_moveV (v := .string _) rfl) ?_
      refine op rfl (rt_eql rfl rfl) ?_
      refine WL_nil ?_
      refine W_ifp rfl (fun ht34 => ?_) (fun ht34 => ?_)
      · refine W_region ?_
        refine op rfl (r_moveV (v := .int _ _) rfl) ?_
        refine op rfl (r_assignV (v := .int _ _) rfl) ?_
        refine WL_nil ?_
        refine W_region ?_
        refine op rfl (r_moveV (v := .int _ _) rfl) ?_
        refine op rfl (r_add' (r := ((i2 + 1 : Nat) : Int)) rfl rfl (by rw [wrap_i64 (by omega) (by omega)]; omega)) ?_
        refine op rfl (r_assignV (v := .int _ _) rfl) ?_
        refine WL_nil ?_
        refine ⟨?_, by repeat (first | with_reducible exact Out.refl _ _ | with_reducible exact Out.mix | refine Out.put rfl ?_ | refine Out.mixin rfl ?_ | exact Out.refl _ _ | exact Out.mix)⟩
        refine ⟨H[r].d.length - (i2 + 1), by omega, i2 + 1, rfl, by omega, rfl, ?_, B0_0, hX⟩
        rw [List.take_succ_eq_append_getElem hlt2, List.any_append]
        first
          | (simp only [List.any_cons, List.any_nil, Bool.or_false, decide_eq_true ht34, Bool.or_true, if_true]; rfl)
          | (simp only [List.any_cons, List.any_nil, Bool.or_false, decide_eq_false ht34]; rfl)
      · refine W_skip ?_
        refine W_region ?_
        refine op rfl (r_moveV (v := .int _ _) rfl) ?_
        refine op rfl (r_add' (r := ((i2 + 1 : Nat) : Int)) rfl rfl (by rw [wrap_i64 (by omega) (by omega)]; omega)) ?_
        refine op rfl (r_assignV (v := .int _ _) rfl) ?_
        refine WL_nil ?_
        refine ⟨?_, by repeat (first | with_reducible exact Out.refl _ _ | with_reducible exact Out.mix | refine Out.put rfl ?_ | refine Out.mixin rfl ?_ | exact Out.refl _ _ | exact Out.mix)⟩
        refine ⟨H[r].d.length - (i2 + 1), by omega, i2 + 1, rfl, by omega, rfl, ?_, B0_0, hX⟩
        rw [List.take_succ_eq_append_getElem hlt2, List.any_append]
        first
          | (simp only [List.any_cons, List.any_nil, Bool.or_false, decide_eq_true ht34, Bool.or_true, if_true]; rfl)
          | (simp only [List.any_cons, List.any_nil, Bool.or_false, decide_eq_false ht34]; rfl)
    · refine W_exit (blk_hit ?_)
      refine W_region ?_
      refine op rfl (r_moveV (v := .int _ _) rfl) ?_
      refine op rfl (r_add' (r := ((r + 1 : Nat) : Int)) rfl rfl (by rw [wrap_i64 (by omega) (by omega)]; omega)) ?_
      refine op rfl (r_assignV (v := .int _ _) rfl) ?_
      refine WL_nil ?_
      refine ⟨?_, by repeat (first | with_reducible exact Out.refl _ _ | with_reducible exact Out.mix | refine Out.put rfl ?_ | refine Out.mixin rfl ?_ | exact Out.refl _ _ | exact Out.mix)⟩
      refine ⟨H.length - (r + 1), by omega, r + 1, rfl, by omega, by omega, rfl, ?_, B0_0, hX⟩
      have hil : i2 = H[r].d.length := by omega
      rw [List.take_succ_eq_append_getElem hlt, lastR_snoc]
      subst hil
      rw [show (H.take r).length = r from by rw [List.length_take]; omega]
      show Value.int .i64 ((if (H[r].d.take H[r].d.length).any (fun d => decide (d.p = s)) = true then r else lastR (H.take r) s : Nat) : Int) = _
      rw [List.take_length]
      rfl
  · refine W_exit (blk_hit ?_)
    refine W_seq ?_
    refine W_region ?_
    refine op rfl (r_moveV (v := .int _ _) rfl) ?_
    refine op rfl (r_assignV (v := .int _ _) rfl) ?_
    refine WL_nil ?_
    refine W_ret (finX_ret ?_)
    refine fin1 ?_
    obtain rfl : r = H.length := by omega
    rw [List.take_length]
    exact ⟨_, rfl, rfl, hX⟩
theorem refSince_spec {G : Nat → Prop} {w : World} {v0 : Value} {H : List Rv} (hR : RefH G w v0 H) (h1 : 1 ≤ H.length) (hlH : H.length ≤ 100001) (hG : ∀ b, G b → b < w.heap.size) (r : Int) {As : Option Addr} {cs : Nat} {ss : List (List UInt8)} (hrow : strT.Row w (old w) As ss) (hl : ss.length * 16 ≤ 140737488355328) :
    Calls Tryd.prog 26 #[v0, .int .i64 r, .slice As ss.length cs] w (fun en w' => ∃ v, en = .returned v ∧ Eng.Own strT w' nobody w.heap.size 9 v (sinceR H r ss) ∧ Ext w w') := by
  have hR0 := hR
  obtain ⟨AT, cT, AM, cM, rfl, hcT, hcM, hT, hM⟩ := hR
  have hla : ∀ W, Ext w W → ∀ s : List UInt8, Calls Tryd.prog 29 #[.agg #[.slice AT H.length cT, .slice AM H.length cM], .string (str s)] W (fun en w' => ∃ v', en = .returned v' ∧ v' = .int .i64 (lastR H s : Nat) ∧ Ext W w') := fun W he s =>
    refLast_spec (G := G) (hR0.keep (fun b hb => he.block b (hG b hb)) (fun _ h => h)) h1 hlH (fun b hb => Nat.lt_of_lt_of_le (hG b hb) he.size) s
  refine calls' (n := 31) (rs := #[.tmp 6]) (l := [.agg #[.slice AT H.length cT, .slice AM H.length cM], .int .i64 r, .slice As ss.length cs]) Tryd.func26 rfl rfl rfl rfl rfl ?_
  have hX := Ext.refl w
  refine W_seq ?_
  refine W_region ?_
  refine op_box (v := .agg _) rfl rfl ?_
  intro w0_0 b0_0 E0_0 B0_0 L0_0
  have hG0_0 : w.heap.size ≤ b0_0 := by have := hX.size; omega
  replace hX := hX.trans E0_0
  refine op rfl (r_assignV (v := .slice _ _ _) rfl) ?_
  refine WL_nil ?_
  refine W_seq ?_
  refine W_region ?_
  have hb0s := Blk.lt B0_0
  refine op rfl (r_assignV (v := .slice none 0 0) rfl) ?_
  refine WL_nil ?_
  refine W_seq ?_
  refine W_seq ?_
  refine W_region ?_
  refine op rfl (r_assignV (v := .int _ _) rfl) ?_
  refine WL_nil ?_
  refine W_block ?_
  refine W_loop [7, 8, 9, 10, 11, 12, 13, 14, 15, 16, 17, 18, 19, 20, 21, 22, 23, 24, 25, 26, 27, 28, 29] (fun q e' w' => ∃ (i : Nat) (v : Value), q = ss.length - i ∧ i ≤ ss.length ∧ e' 8 = .int .i64 i ∧ e' 7 = v ∧ Eng.Own strT w' nobody w0_0.heap.size 9 v (sinceR H r (ss.take i)) ∧ Blk w' b0_0 #[.slice AT H.length cT, .slice AM H.length cM] 52 ∧ Ext w0_0 w') (ss.length) ?_ ?_
  · exact ⟨0, _, by omega, by omega, rfl, rfl, .nil, B0_0, Ext.refl _⟩
  intro k g w' hI
  obtain ⟨i, v, hq, hi, h8, h7, hO, B0', hX'⟩ := hI
  clear hX B0_0
  have hX := hX'
  have B0_0 := B0'
  refine W_set (i := 8) h8 ?_
  refine W_set (i := 7) h7 ?_
  refine W_seq ?_
  refine W_seq ?_
  refine W_region ?_
  refine op rfl (r_moveV (v := .int _ _) rfl) ?_
  refine op rfl (r_moveV (v := .slice _ _ _) rfl) ?_
  refine op rfl (r_len_slice rfl Tryd.underlying38) ?_
  refine op rfl (r_lss rfl rfl) ?_
  refine WL_nil ?_
  refine W_ifp rfl (fun ht12 => ?_) (fun ht12 => ?_)
  · have hb0w : b0_0 < w0_0.heap.size := hb0s
    have hlt : i < ss.length := by omega
    obtain ⟨g, off, hA, _, hsl, hcell⟩ := hrow.cell hlt
    refine W_skip ?_
    refine W_seq ?_
    refine W_block ?_
    refine W_seq ?_
    refine W_drawF (W0 := w0_0) (fun b : Nat => b = b0_0 ∨ False) Tryd.wd rfl ?_
    intro wd5 hD
    replace B0_0 := Blk.ext B0_0 hD
    replace hX := hX.trans hD
    have DB0_0 := B0_0
    have hS : Ext w0_0 wd5 ∧ Same (fun b : Nat => b = b0_0 ∨ False) wd5 wd5 := ⟨hX, fun _ _ => rfl⟩
    refine A_take (i := 0) rfl (by kernel_rfl) (by kernel_rfl) (by kernel_rfl) rfl hS (fun _ hw => r_loadRow rfl (Blk.at DB0_0 (hw.2 _ (Or.inl rfl))) Tryd.underlying52 rfl Tryd.sz52) ?_
    refine A_take (i := 1) rfl (by kernel_rfl) (by kernel_rfl) (by kernel_rfl) rfl hS (fun _ hw => r_moveV (v := .slice _ _ _) rfl) ?_
    refine A_take (i := 2) rfl (by kernel_rfl) (by kernel_rfl) (by kernel_rfl) rfl hS (fun _ hw => r_moveV (v := .int _ _) rfl) ?_
    refine A_take (i := 3) rfl (by kernel_rfl) (by kernel_rfl) (by kernel_rfl) rfl hS (fun _ hw => r_indexAddr1 rfl rfl hA Tryd.underlying38 Tryd.sz9 (by omega) (by omega)) ?_
    refine A_take (i := 4) rfl (by kernel_rfl) (by kernel_rfl) (by kernel_rfl) rfl hS (fun _ hw => r_load (v := .string (str ss[i])) rfl Tryd.underlying9 rfl (ext_cell (E0_0.trans hw.1) hcell)) ?_
    refine A_take (i := 6) rfl (by kernel_rfl) (by kernel_rfl) (by kernel_rfl) rfl hS (fun _ hw => r_moveV (v := .int _ _) rfl) ?_
    refine A_ready1 (i := 5) (by kernel_rfl) ?_
    refine O_call rfl rfl (r_call Tryd.func29 Tryd.nm29 rfl) (hla _ (E0_0.trans hX) ss[i]) ?_
    rintro v5 w5 ⟨rfl, hE⟩
    replace B0_0 := Blk.ext B0_0 hE
    replace hX := hX.trans hE
    replace hS : Ext w0_0 w5 ∧ Same (fun b : Nat => b = b0_0 ∨ False) wd5 w5 := ⟨hX, fun b hb => Or.elim hb (fun q => by subst q; exact Blk.eq B0_0 DB0_0) (fun hb => hb.elim)⟩
    refine ⟨hS, ?_⟩
    refine A_take (i := 7) rfl (by kernel_rfl) (by kernel_rfl) (by kernel_rfl) rfl hS (fun _ hw => r_gtr rfl rfl) ?_
    refine A_done (by kernel_rfl) ?_
    refine W_ifp rfl (fun ht22 => ?_) (fun ht22 => ?_)
    · have hnl : sinceR H r (ss.take (i + 1)) = sinceR H r (ss.take i) ++ [ss[i]] := by
        unfold sinceR
        rw [List.take_succ_eq_append_getElem hlt, List.filter_append]
        have : decide (r < (lastR H ss[i] : Nat)) = true := by simpa using ht22
        simp [this]
      refine W_region ?_
      refine op rfl (r_moveV (v := v) rfl) ?_
      refine op rfl (r_moveV (v := .slice _ _ _) rfl) ?_
      refine op rfl (r_moveV (v := .int _ _) rfl) ?_
      refine op rfl (r_indexAddr1 rfl rfl hA Tryd.underlying38 Tryd.sz9 (by omega) (by omega)) ?_
      refine op rfl (r_load (v := .string (str ss[i])) rfl Tryd.underlying9 rfl (ext_cell (E0_0.trans hX) hcell)) ?_
      refine op_newS rfl (r_buildSlice (vs := [.string (str ss[i])]) Tryd.underlying38 Tryd.sz9 Tryd.zero9 rfl rfl rfl) ?_
      intro w8_2 b8_2 E8_2 B8_2 L8_2
      replace hX := hX.trans E8_2
      replace B0_0 := Blk.ext B0_0 E8_2
      have hsz := hl
      have hft := List.length_filter_le (fun s => decide (r < lastR H s)) (ss.take i)
      have hft2 : (sinceR H r (ss.take i)).length ≤ i := by unfold sinceR; rw [List.length_take] at hft; omega
      have lb0 := Blk.lt B0_0
      have hbw : ∀ g, v.ownBlock = some g → g ≠ b0_0 := fun g hg q => by
        have := (hO.lt hg).1
        omega
      refine op_app (v := v) flat_scalar rfl rfl rfl Tryd.underlying38 Tryd.sz9 Tryd.by9 Tryd.zero9 rfl (hX) (own_fext hO ((hD.trans hE).trans E8_2)) ((row_one B8_2 (by omega) : strT.Row w8_2 (old w8_2) (some ⟨b8_2, 0, none⟩) [ss[i]])) (by simp only [List.length_singleton]; omega) (by simp only [List.length_singleton]; omega) ?_
      intro v6_6 w6_6 O6_6 X6_6 G6_6
      replace hX := X6_6
      replace B0_0 : Blk w6_6 b0_0 _ _ := Blk.at B0_0 (G6_6.block b0_0 lb0 (fun q => hbw _ q rfl))
      refine op rfl (r_assignV (v := v6_6) rfl) ?_
      refine WL_nil ?_
      refine W_region ?_
      refine op rfl (r_moveV (v := .int _ _) rfl) ?_
      refine op rfl (r_add' (r := ((i + 1 : Nat) : Int)) rfl rfl (by rw [wrap_i64 (by omega) (by omega)]; omega)) ?_
      refine op rfl (r_assignV (v := .int _ _) rfl) ?_
      refine WL_nil ?_
      refine ⟨?_, by repeat (first | with_reducible exact Out.refl _ _ | with_reducible exact Out.mix | refine Out.put rfl ?_ | refine Out.mixin rfl ?_ | exact Out.refl _ _ | exact Out.mix)⟩
      first
        | exact ⟨ss.length - (i + 1), by omega, i + 1, _, rfl, by omega, rfl, rfl, by rw [hnl]; exact O6_6, B0_0, hX⟩
        | exact ⟨ss.length - (i + 1), by omega, i + 1, _, rfl, by omega, rfl, rfl, by rw [hnl]; exact own_fext hO (hD.trans hE), B0_0, hX⟩
    · have hnl : sinceR H r (ss.take (i + 1)) = sinceR H r (ss.take i) := by
        unfold sinceR
        rw [List.take_succ_eq_append_getElem hlt, List.filter_append]
        have : decide (r < (lastR H ss[i] : Nat)) = false := by simpa using ht22
        simp [this]
      refine W_skip ?_
      refine W_region ?_
      refine op rfl (r_moveV (v := .int _ _) rfl) ?_
      refine op rfl (r_add' (r := ((i + 1 : Nat) : Int)) rfl rfl (by rw [wrap_i64 (by omega) (by omega)]; omega)) ?_
      refine op rfl (r_assignV (v := .int _ _) rfl) ?_
      refine WL_nil ?_
      refine ⟨?_, by repeat (first | with_reducible exact Out.refl _ _ | with_reducible exact Out.mix | refine Out.put rfl ?_ | refine Out.mixin rfl ?_ | exact Out.refl _ _ | exact Out.mix)⟩
      first
        | exact ⟨ss.length - (i + 1), by omega, i + 1, _, rfl, by omega, rfl, rfl, by rw [hnl]; exact O6_6, B0_0, hX⟩
        | exact ⟨ss.length - (i + 1), by omega, i + 1, _, rfl, by omega, rfl, rfl, by rw [hnl]; exact own_fext hO (hD.trans hE), B0_0, hX⟩
  · refine W_exit (blk_hit ?_)
    refine W_seq ?_
    refine W_region ?_
    refine op rfl (r_moveV (v := v) rfl) ?_
    refine op rfl (r_assignV (v := v) rfl) ?_
    refine WL_nil ?_
    refine W_ret (finX_ret ?_)
    refine fin1 ?_
    obtain rfl : i = ss.length := by omega
    rw [List.take_length] at hO
    exact ⟨_, rfl, Own.low hO E0_0.size, E0_0.trans hX⟩
end Go.Proofs.YtkdcmdcdjnmkaaaDoor
