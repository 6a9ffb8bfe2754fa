/-
  The changes of a history make it again: the walk.
-/
import Derived.Test.YtkdcmdcdjnmkaaaDoorFacts
import Derived.Test.YtkdcmdcdjnmkaaaDoorHistSame
namespace Go.Proofs.YtkdcmdcdjnmkaaaDoor
open Go Go.Eng Go.RowKit Go.Proofs
set_option linter.unusedVariables false
set_option linter.unusedSimpArgs false
set_option maxHeartbeats 1000000

theorem refHeadNil_spec (w : World) :
    Calls Tryd.prog 20 #[.agg #[.slice none 0 0, .slice none 0 0]] w (fun en w' => ∃ v, en = .returned v ∧ v = .int .i64 (-1) ∧ Ext w w') := by
  refine calls' (n := 7) (rs := #[.tmp 2]) (l := [.agg #[.slice none 0 0, .slice none 0 0]]) Tryd.func20 rfl rfl rfl rfl rfl ?_
  have hX := Ext.refl w
  refine W_seq ?_
  refine W_region ?_
  refine op_box (v := .agg _) rfl rfl ?_
  intro w0_0 b0_0 E0_0 B0_0 L0_0
  have hG0_0 : w.heap.size ≤ b0_0 := by have := hX.size; omega
  replace hX := hX.trans E0_0
  refine op rfl (r_assignV (v := .int _ _) rfl) ?_
  refine WL_nil ?_
  refine W_seq ?_
  refine W_region ?_
  refine op rfl (r_fieldAddr rfl Tryd.fld52_0 rfl) ?_
  refine op rfl (r_load (v := .slice none 0 0) rfl Tryd.underlying42 rfl (Blk.cell B0_0 rfl)) ?_
  refine op rfl (r_len_slice rfl Tryd.underlying42) ?_
  refine op rfl (r_sub' rfl rfl (wrap_i64 (by omega) (by omega))) ?_
  refine op rfl (r_assignV (v := .int _ _) rfl) ?_
  refine WL_nil ?_
  refine W_ret (finX_ret ?_)
  refine fin1 ?_
  exact ⟨_, rfl, rfl, hX⟩
theorem getR_at {H : List Rv} {r : Nat} (h : r < H.length) : getR H (r : Int) = H[r] ∧ errR H (r : Int) = 0 := by
  have hin : inR H (r : Int) := by unfold inR; omega
  unfold getR errR
  rw [dif_pos hin, if_pos hin]
  exact ⟨rfl, rfl⟩
theorem hist_ok {p : Nat} {Z : Nat → Prop} {w : World} {H : List Rv} (h : Hist p Z w H) : ∀ r ∈ H, RvOk r := by
  obtain ⟨m, v, F, h1, _⟩ := h
  exact h1.ok
theorem historyAgain_walk {A : Option Addr} {cap : Nat} {t : Tree} {Al : Option Addr} {cl : Nat} {l : List (List Dl)} {w : World} (hrow : fiT.Row w (old w) A t) (hl : t.length ≤ 140737488355328) (hrowl : dlsT.Row w (old w) Al l) (hll : l.length ≤ 140737488355328) :
    Calls Tryd.prog 5 #[.slice A t.length cap, .slice Al l.length cl] w (fun en w' => ∃ v, en = .returned v ∧ v = .bool true ∧ Ext w w') := by
  have hlat : ∀ W, Ext w W → ∀ i (hi : i < l.length), ∃ g off Ai ci, Al = some ⟨g, off, none⟩ ∧ W.cell? ⟨g, off + i, none⟩ = some (.slice Ai l[i].length ci) ∧ l[i].length * 48 ≤ 140737488355328 ∧ dlT.Row W (old w) Ai l[i] := fun W he i hi => by
    obtain ⟨g, off, Ai, ci, hA, _, hc, _, h2, h3⟩ := hrowl.cellW hi
    exact ⟨g, off, Ai, ci, hA, ext_cell he hc, h2, h3.keep (fun b hb => he.block b hb) (fun _ h => h)⟩
  refine calls' (n := 123) (rs := #[.tmp 4]) (l := [.slice A t.length cap, .slice Al l.length cl]) Tryd.func5 rfl rfl rfl rfl rfl ?_
  have hX := Ext.refl w
  refine W_seq ?_
  refine W_region ?_
  refine op rfl (r_assignV (v := .bool _) rfl) ?_
  refine WL_nil ?_
  refine W_seq ?_
  refine W_seq ?_
  refine W_region ?_
  refine op rfl (r_moveV (v := .slice _ _ _) rfl) ?_
  refine op rfl (r_moveV (v := .slice _ _ _) rfl) ?_
  refine opCv rfl (r_call Tryd.func9 Tryd.nm9 rfl) (small_spec (hrow.ext hX) hl (hrowl.ext hX) hll) ?_
  rintro v2 w2 ⟨q, dq, rfl, hq, hE⟩
  replace hX := hX.trans hE
  refine op rfl (r_notP rfl) ?_
  refine WL_nil ?_
  refine W_ifp rfl (fun ht24 => ?_) (fun ht24 => ?_)
  · refine W_seq ?_
    refine W_region ?_
    refine opCv rfl (r_call Tryd.func10 Tryd.nm10 rfl) (known_spec _) ?_
    rintro v9 w9 ⟨rfl, hE⟩
    replace hX := hX.trans hE
    refine op rfl (r_assignV (v := .bool _) rfl) ?_
    refine WL_nil ?_
    refine W_ret (finX_ret ?_)
    refine fin1 ?_
    exact ⟨_, rfl, by first | rfl | exact (bool_tt trivial).symm, hX⟩
  · have hq' := hq (Classical.not_not.1 ht24)
    refine W_skip ?_
    refine W_seq ?_
    refine W_region ?_
    refine op rfl (r_moveV (v := .slice _ _ _) rfl) ?_
    have hX1 := hX
    refine opCv rfl (r_call Tryd.func11 Tryd.nm11 rfl) (new_spec2 (G := old w) (fun b hb ↦ Nat.lt_of_lt_of_le hb hX.size) (hrow.keep (fun b hb ↦ hX.block b hb) (fun _ h ↦ h)) (by omega)) ?_
    rintro v3 w3 ⟨pv, rfl, hH, hE⟩
    replace hX := hX.trans hE
    refine op rfl (r_moveV (v := .tuple #[pv, .int .i64 (if rightT t then 0 else 2)]) rfl) ?_
    refine op rfl (r_extract (vs := [pv, .int .i64 (if rightT t then 0 else 2)]) rfl rfl) ?_
    refine op rfl (r_extract (vs := [pv, .int .i64 (if rightT t then 0 else 2)]) rfl rfl) ?_
    refine op rfl (r_assignV (v := pv) rfl) ?_
    refine op rfl (r_assignV (v := .int .i64 (if rightT t then 0 else 2)) rfl) ?_
    refine WL_nil ?_
    refine W_seq ?_
    refine W_seq ?_
    refine W_region ?_
    refine op rfl (r_moveV (v := .int .i64 (if rightT t then 0 else 2)) rfl) ?_
    refine op rfl (r_neq rfl rfl) ?_
    refine WL_nil ?_
    refine W_ifp rfl (fun ht32 => ?_) (fun ht32 => ?_)
    · refine W_seq ?_
      refine W_region ?_
      refine opCv rfl (r_call Tryd.func10 Tryd.nm10 rfl) (known_spec _) ?_
      rintro v9 w9 ⟨rfl, hE⟩
      replace hX := hX.trans hE
      refine op rfl (r_assignV (v := .bool _) rfl) ?_
      refine WL_nil ?_
      refine W_ret (finX_ret ?_)
      refine fin1 ?_
      exact ⟨_, rfl, by first | rfl | exact (bool_tt trivial).symm, hX⟩
    · have hr : rightT t := Classical.byContradiction (fun q => ht32 (by rw [if_neg q]; decide))
      obtain ⟨p, hpv, hH0⟩ := hH hr
      refine W_skip ?_
      refine W_seq ?_
      refine W_seq ?_
      refine W_region ?_
      refine op rfl (r_assignV (v := .int _ _) rfl) ?_
      refine WL_nil ?_
      refine W_block ?_
      refine W_loop [7, 34, 35, 36, 37, 38, 39, 40, 41, 42, 43, 44, 45] (fun q e' w' => ∃ (i : Nat) (H : List Rv) (Z : Nat → Prop), q = l.length - i ∧ i ≤ l.length ∧ e' 7 = .int .i64 i ∧ Chain t H ∧ Hist p Z w' H ∧ (∀ b, Z b → w.heap.size ≤ b) ∧ Ext w w') (l.length) ?_ ?_
      · exact ⟨0, [⟨[], t⟩], _, by omega, by omega, rfl, chain_one t, hH0, fun b hb => by have := hb.1; have := hX1.size; omega, hX⟩
      intro k g w' hI
      obtain ⟨i, H, Z, hq0, hi, h7, hch, hH', hZ, hX'⟩ := hI
      clear hX
      have hX := hX'
      have hHl := hist_len hH'
      obtain ⟨w0i, hw0i⟩ : ∃ x, x = w' := ⟨_, rfl⟩
      subst hw0i
      refine W_set (i := 7) h7 ?_
      refine W_seq ?_
      refine W_seq ?_
      refine W_region ?_
      refine op rfl (r_moveV (v := .int _ _) rfl) ?_
      refine op rfl (r_moveV (v := .slice _ _ _) rfl) ?_
      refine op rfl (r_len_slice rfl Tryd.underlying24) ?_
      refine op rfl (r_lss rfl rfl) ?_
      refine WL_nil ?_
      refine W_ifp rfl (fun ht37 => ?_) (fun ht37 => ?_)
      · have hlt : i < l.length := by omega
        obtain ⟨g1, off1, Ai, ci, hA, hcell, hbl, hrr⟩ := hlat _ hX i hlt
        refine W_skip ?_
        refine W_seq ?_
        refine W_block ?_
        refine W_region ?_
        refine op rfl (r_moveV (v := hp p) (by rw [← hpv]; rfl)) ?_
        refine op rfl (r_moveV (v := .slice _ _ _) rfl) ?_
        refine op rfl (r_moveV (v := .int _ _) rfl) ?_
        refine op rfl (r_indexAddr1 rfl rfl hA Tryd.underlying24 Tryd.sz33 (by omega) (by omega)) ?_
        refine op rfl (r_load (v := .slice Ai l[i].length ci) rfl Tryd.underlying33 rfl hcell) ?_
        refine opCv rfl (r_call Tryd.func12 Tryd.nm12 rfl) (commit_spec (cd := ci) hH' (fun b hb ↦ ⟨Nat.lt_of_lt_of_le hb hX.size, fun q ↦ by have := hZ b q; omega⟩) hrr hbl) ?_
        rintro v4 w4 ⟨rfl, hH4, hM⟩
        have hX4 : Ext w w4 := ext_mv hX hM hZ
        clear hX
        have hX := hX4
        have hZ4 : ∀ b, (Z b ∨ since w0i w4 b) → w.heap.size ≤ b := fun b hb => hb.elim (hZ b) (fun q => by have := q.1; have := hX'.size; omega)
        refine WL_nil ?_
        refine W_region ?_
        refine op rfl (r_moveV (v := .int _ _) rfl) ?_
        refine op rfl (r_add' rfl rfl (wrap_i64 (by omega) (by omega))) ?_
        refine op rfl (r_assignV (v := .int _ _) rfl) ?_
        refine WL_nil ?_
        refine ⟨?_, by repeat (first | with_reducible exact Out.refl _ _ | with_reducible exact Out.mix | refine Out.put rfl ?_ | refine Out.mixin rfl ?_ | exact Out.refl _ _ | exact Out.mix)⟩
        exact ⟨l.length - (i + 1), by omega, i + 1, _, _, rfl, by omega, rfl, chain_commit hch hHl.1 _, hH4, hZ4, hX⟩
      · have h0l : 0 < H.length := hHl.1
        have hg0 := getR_at h0l
        have hf0 := hch.1 h0l
        refine W_exit (blk_hit ?_)
        refine W_seq ?_
        refine W_region ?_
        refine op rfl (r_moveV (v := hp p) (by rw [← hpv]; rfl)) ?_
        refine opCv rfl (r_call Tryd.func16 Tryd.nm16 rfl) (histAt_spec hH' ((0 : Nat) : Int)) ?_
        rintro v5 w5 ⟨v6, rfl, hO, hE⟩
        replace hX := hX.trans hE
        rw [hg0.1, hf0] at hO
        obtain ⟨A6, c6, rfl, -, hr6⟩ := hO.rd
        have hH5 := (hH'.ext hE).lt
        have hX5 := hX
        have hr7 : fiT.Row w5 (old w5) A6 t := hr6.keep (fun _ _ => rfl) (fun b hb => hb.2)
        refine op rfl (r_moveV (v := .tuple #[.slice A6 t.length c6, .int .i64 (errR H ((0 : Nat) : Int))]) rfl) ?_
        refine op rfl (r_extract (vs := [.slice A6 t.length c6, .int .i64 (errR H ((0 : Nat) : Int))]) rfl rfl) ?_
        refine op rfl (r_extract (vs := [.slice A6 t.length c6, .int .i64 (errR H ((0 : Nat) : Int))]) rfl rfl) ?_
        refine op rfl (r_assignV (v := .slice A6 t.length c6) rfl) ?_
        refine op rfl (r_assignV (v := .int .i64 (errR H ((0 : Nat) : Int))) rfl) ?_
        refine WL_nil ?_
        refine W_seq ?_
        refine W_region ?_
        refine op rfl (r_moveV (v := .slice A6 t.length c6) rfl) ?_
        have hX5 := hX
        refine opCv rfl (r_call Tryd.func11 Tryd.nm11 rfl) (new_spec2 (G := old w5) (fun b hb ↦ hb) hr7 (by omega)) ?_
        rintro v8 w8 ⟨pw, rfl, hK, hE⟩
        replace hX := hX.trans hE
        obtain ⟨p2, hpw, hK0⟩ := hK hr
        have hH8 := hH5.ext hE
        have hw5 : w5.heap.size ≤ w8.heap.size := hE.size
        have htk1 : H.take 1 = [⟨[], t⟩] := by
          cases H with
          | nil => simp at h0l
          | cons a b => rw [← hf0]; rfl
        refine op rfl (r_moveV (v := .tuple #[pw, .int .i64 (if rightT t then 0 else 2)]) rfl) ?_
        refine op rfl (r_extract (vs := [pw, .int .i64 (if rightT t then 0 else 2)]) rfl rfl) ?_
        refine op rfl (r_extract (vs := [pw, .int .i64 (if rightT t then 0 else 2)]) rfl rfl) ?_
        refine op rfl (r_assignV (v := pw) rfl) ?_
        refine op rfl (r_assignV (v := .int .i64 (if rightT t then 0 else 2)) rfl) ?_
        refine WL_nil ?_
        refine W_seq ?_
        refine W_seq ?_
        refine W_region ?_
        refine op rfl (r_moveV (v := .int .i64 (if rightT t then 0 else 2)) rfl) ?_
        refine op rfl (r_neq rfl rfl) ?_
        refine WL_nil ?_
        refine W_ifp rfl (fun ht57 => ?_) (fun ht57 => ?_)
        · exact absurd (if_pos hr) ht57
        · refine W_skip ?_
          refine W_seq ?_
          refine W_seq ?_
          refine W_region ?_
          refine op rfl (r_assignV (v := .int _ _) rfl) ?_
          refine WL_nil ?_
          refine W_block ?_
          refine W_loop (4 :: 12 :: 13 :: 14 :: 15 :: 16 :: 17 :: 18 :: 19 :: 20 :: 58 :: 59 :: 60 :: 61 :: 62 :: 63 :: 64 :: 65 :: 66 :: 67 :: 68 :: 69 :: 70 :: 71 :: 72 :: 73 :: 74 :: 75 :: 76 :: 77 :: 78 :: 79 :: 80 :: 81 :: 82 :: 83 :: 84 :: 85 :: 86 :: 87 :: 88 :: 89 :: 90 :: 91 :: 92 :: 93 :: 94 :: 95 :: 96 :: 97 :: 98 :: 99 :: 100 :: 101 :: 102 :: 103 :: 104 :: 105 :: 106 :: 107 :: 108 :: 109 :: []) (fun q e' w' => ∃ (r : Nat) (Y : Nat → Prop), q = H.length - r ∧ 1 ≤ r ∧ r ≤ H.length ∧ e' 12 = .int .i64 r ∧ Hist p2 Y w' (H.take r) ∧ Hist p (fun b => Z b ∧ b < w5.heap.size) w' H ∧ (∀ b, Y b → w5.heap.size ≤ b) ∧ Ext w w' ∧ w5.heap.size ≤ w'.heap.size) (H.length - 1) ?_ ?_
          · exact ⟨1, since w5 w8, by omega, by omega, by omega, rfl, by rw [htk1]; exact hK0, hH8, fun b hb => hb.1, hX, hw5⟩
          intro k g w' hI
          obtain ⟨r, Y, hqr, hr1, hrl, h12, hK', hH9, hY, hX'', hw5i⟩ := hI
          clear hX
          have hX := hX''
          have hKl := hK'.lt
          obtain ⟨w1i, hw1i⟩ : ∃ x, x = w' := ⟨_, rfl⟩
          subst hw1i
          refine W_set (i := 12) h12 ?_
          refine W_seq ?_
          refine W_seq ?_
          refine W_region ?_
          refine op rfl (r_moveV (v := .int _ _) rfl) ?_
          refine op rfl (r_moveV (v := hp p) (by rw [← hpv]; rfl)) ?_
          refine opCv rfl (r_call Tryd.func15 Tryd.nm15 rfl) (head_spec hH9) ?_
          rintro v9 w9 ⟨rfl, hE⟩
          replace hX := hX.trans hE
          have hE15 := hE
          refine op rfl (r_leq rfl rfl) ?_
          refine WL_nil ?_
          refine W_ifp rfl (fun ht61 => ?_) (fun ht61 => ?_)
          · have hrl' : r < H.length := by omega
            have hgr := getR_at hrl'
            have hca := chain_again hch hr1 hrl' hHl.2
            have htl : (H.take (r + 1)).length = r + 1 := by rw [List.length_take]; omega
            have hgk := getR_at (H := H.take (r + 1)) (r := r) (by omega)
            have hgk1 : (H.take (r + 1))[r]'(by omega) = H[r] := List.getElem_take
            have hdne : H[r].d ≠ [] := by
              obtain ⟨q', rfl⟩ : ∃ q', r = q' + 1 := ⟨r - 1, by omega⟩
              exact (hch.2 q' hrl').1
            have hH15 := hH9.ext hE15
            have hrt := hist_ok hH15 _ (List.getElem_mem hrl')
            refine W_skip ?_
            refine W_seq ?_
            refine W_block ?_
            refine W_seq ?_
            refine W_region ?_
            refine op rfl (r_moveV (v := hp p) (by rw [← hpv]; rfl)) ?_
            refine op rfl (r_moveV (v := .int _ _) rfl) ?_
            refine opCv rfl (r_call Tryd.func19 Tryd.nm19 rfl) (histDeltas_spec hH15 (r : Int)) ?_
            rintro v10 w10 ⟨v11, rfl, hO, hE⟩
            replace hX := hX.trans hE
            rw [hgr.1] at hO
            obtain ⟨A7, c7, rfl, -, hd7⟩ := hO.rd
            have hK17 := (hKl.ext hE15).ext hE
            have hH17 := hH15.ext hE
            have hs15 := hE15.size
            have hX17 := hX
            refine op rfl (r_moveV (v := .tuple #[.slice A7 H[r].d.length c7, .int .i64 (errR H (r : Int))]) rfl) ?_
            refine op rfl (r_extract (vs := [.slice A7 H[r].d.length c7, .int .i64 (errR H (r : Int))]) rfl rfl) ?_
            refine op rfl (r_extract (vs := [.slice A7 H[r].d.length c7, .int .i64 (errR H (r : Int))]) rfl rfl) ?_
            refine op rfl (r_assignV (v := .slice A7 H[r].d.length c7) rfl) ?_
            refine op rfl (r_assignV (v := .int .i64 (errR H (r : Int))) rfl) ?_
            refine WL_nil ?_
            refine W_seq ?_
            refine W_region ?_
            refine op rfl (r_moveV (v := hp p2) (by rw [← hpw]; rfl)) ?_
            refine op rfl (r_moveV (v := .slice A7 H[r].d.length c7) rfl) ?_
            refine opCv rfl (r_call Tryd.func12 Tryd.nm12 rfl) (commit_spec (cd := c7) hK17 (fun b hb ↦ ⟨hb.2, fun q ↦ by have := hb.1; have := q.2; omega⟩) hd7 hrt.2) ?_
            rintro v12 w12 ⟨hv, hK18, hM⟩
            rw [hca] at hv hK18
            subst hv
            have hX18 : Ext w w12 := ext_mv hX17 hM (fun b hb => by have := hY b hb.1; have := hX5.size; omega)
            clear hX
            have hX := hX18
            have hH18 := hH17.mv hM (fun b hb q => by have := hY b q.1; have := hb.2; omega)
            have hw10 : w1i.heap.size ≤ w10.heap.size := Nat.le_trans hE15.size (by have := hE.size; omega)
            refine op rfl (r_moveV (v := .tuple #[.int .i64 (r : Int), .int .i64 0]) rfl) ?_
            refine op rfl (r_extract (vs := [.int .i64 (r : Int), .int .i64 0]) rfl rfl) ?_
            refine op rfl (r_extract (vs := [.int .i64 (r : Int), .int .i64 0]) rfl rfl) ?_
            refine op rfl (r_assignV (v := .int .i64 (r : Int)) rfl) ?_
            refine op rfl (r_assignV (v := .int .i64 0) rfl) ?_
            refine WL_nil ?_
            refine W_seq ?_
            refine W_region ?_
            refine op rfl (r_moveV (v := hp p) (by rw [← hpv]; rfl)) ?_
            refine op rfl (r_moveV (v := .int _ _) rfl) ?_
            refine opCv rfl (r_call Tryd.func16 Tryd.nm16 rfl) (histAt_spec hH18 (r : Int)) ?_
            rintro v13 w13 ⟨v14, rfl, hOa, hE⟩
            replace hX := hX.trans hE
            rw [hgr.1] at hOa
            obtain ⟨A8, c8, rfl, -, hr8⟩ := hOa.rd
            have hK19 := hK18.ext hE
            have hH19 := hH18.ext hE
            have hw13 := hE.size
            refine op rfl (r_moveV (v := .tuple #[.slice A8 H[r].t.length c8, .int .i64 (errR H (r : Int))]) rfl) ?_
            refine op rfl (r_extract (vs := [.slice A8 H[r].t.length c8, .int .i64 (errR H (r : Int))]) rfl rfl) ?_
            refine op rfl (r_extract (vs := [.slice A8 H[r].t.length c8, .int .i64 (errR H (r : Int))]) rfl rfl) ?_
            refine op rfl (r_assignV (v := .slice A8 H[r].t.length c8) rfl) ?_
            refine op rfl (r_assignV (v := .int .i64 (errR H (r : Int))) rfl) ?_
            refine WL_nil ?_
            refine W_seq ?_
            refine W_region ?_
            refine op rfl (r_moveV (v := hp p2) (by rw [← hpw]; rfl)) ?_
            refine op rfl (r_moveV (v := .int _ _) rfl) ?_
            refine opCv rfl (r_call Tryd.func16 Tryd.nm16 rfl) (histAt_spec hK19 (r : Int)) ?_
            rintro v15 w15 ⟨v16, rfl, hOb, hE⟩
            replace hX := hX.trans hE
            rw [hgk.1, hgk1] at hOb
            obtain ⟨A9, c9, rfl, -, hr9⟩ := hOb.rd
            have hra : fiT.Row w15 (old w15) A8 H[r].t := hr8.keep (fun b hb => hE.block b hb.2) (fun b hb => Nat.lt_of_lt_of_le hb.2 hE.size)
            have hrb : fiT.Row w15 (old w15) A9 H[r].t := hr9.keep (fun _ _ => rfl) (fun b hb => hb.2)
            have hK20 := hK19.ext hE
            have hH20 := hH19.ext hE
            have hw20 : w10.heap.size ≤ w15.heap.size := by have := hM.size; have := hE.size; have := hw13; omega
            have hY20 : ∀ b, ((Y b ∧ b < w1i.heap.size) ∨ since w10 w12 b) → w5.heap.size ≤ b := fun b hb => hb.elim (fun q => hY b q.1) (fun q => by have := q.1; omega)
            refine op rfl (r_moveV (v := .tuple #[.slice A9 H[r].t.length c9, .int .i64 (errR (H.take (r + 1)) (r : Int))]) rfl) ?_
            refine op rfl (r_extract (vs := [.slice A9 H[r].t.length c9, .int .i64 (errR (H.take (r + 1)) (r : Int))]) rfl rfl) ?_
            refine op rfl (r_extract (vs := [.slice A9 H[r].t.length c9, .int .i64 (errR (H.take (r + 1)) (r : Int))]) rfl rfl) ?_
            refine op rfl (r_assignV (v := .slice A9 H[r].t.length c9) rfl) ?_
            refine op rfl (r_assignV (v := .int .i64 (errR (H.take (r + 1)) (r : Int))) rfl) ?_
            refine WL_nil ?_
            refine W_seq ?_
            refine W_region ?_
            refine op rfl (r_moveV (v := .int .i64 (errR H (r : Int))) rfl) ?_
            refine op rfl (r_neq rfl rfl) ?_
            refine op_false rfl (r_moveV (v := .bool (decide _)) rfl) (fun h => h hgr.2) ?_
            refine opG_yes rfl rfl rfl rfl rfl (r_moveV (v := .int .i64 0) rfl) ?_
            refine opG_yes rfl rfl rfl rfl rfl (r_neq rfl rfl) ?_
            refine op rfl (r_pickFV (v := .bool _) rfl rfl) ?_
            refine op_false rfl (r_moveV (v := .bool (decide _)) rfl) (fun h => h rfl) ?_
            refine opG_yes rfl rfl rfl rfl rfl (r_moveV (v := .int .i64 (r : Int)) rfl) ?_
            refine opG_yes rfl rfl rfl rfl rfl (r_moveV (v := .int _ _) rfl) ?_
            refine opG_yes rfl rfl rfl rfl rfl (r_neq rfl rfl) ?_
            refine op rfl (r_pickFV (v := .bool _) rfl rfl) ?_
            refine op_false rfl (r_moveV (v := .bool (decide _)) rfl) (fun h => h rfl) ?_
            refine opG_yes rfl rfl rfl rfl rfl (r_moveV (v := .slice A7 H[r].d.length c7) rfl) ?_
            refine opG_yes rfl rfl rfl rfl rfl (r_len_slice rfl Tryd.underlying33) ?_
            refine opG_yes rfl rfl rfl rfl rfl (r_eql rfl rfl) ?_
            refine op rfl (r_pickFV (v := .bool _) rfl rfl) ?_
            refine op_false rfl (r_moveV (v := .bool (decide _)) rfl) (fun h => hdne (List.length_eq_zero_iff.1 (by omega))) ?_
            refine opG_yes rfl rfl rfl rfl rfl (r_moveV (v := .slice A8 H[r].t.length c8) rfl) ?_
            refine opG_yes rfl rfl rfl rfl rfl (r_moveV (v := .slice A9 H[r].t.length c9) rfl) ?_
            have hXs := Ext.refl w15
            refine opGCv_yes rfl rfl rfl rfl rfl (r_call Tryd.func18 Tryd.nm18 rfl) (same_spec (hra.ext hXs) (hrb.ext hXs) (by have := hrt.1.1; omega)) ?_
            rintro v17 w17 ⟨rfl, hE⟩
            replace hX := hX.trans hE
            refine opG_yes rfl rfl rfl rfl rfl (r_notP rfl) ?_
            refine op rfl (r_pickFV (v := .bool _) rfl rfl) ?_
            refine WL_nil ?_
            refine W_ifp rfl (fun ht109 => ?_) (fun ht109 => ?_)
            · exact absurd rfl ht109
            · refine W_skip ?_
              refine W_region ?_
              refine op rfl (r_moveV (v := .int _ _) rfl) ?_
              refine op rfl (r_add' rfl rfl (wrap_i64 (by omega) (by omega))) ?_
              refine op rfl (r_assignV (v := .int _ _) rfl) ?_
              refine WL_nil ?_
              refine ⟨?_, by repeat (first | with_reducible exact Out.refl _ _ | with_reducible exact Out.mix | refine Out.put rfl ?_ | refine Out.mixin rfl ?_ | exact Out.refl _ _ | exact Out.mix)⟩
              exact ⟨H.length - (r + 1), by omega, r + 1, _, by omega, by omega, by omega, rfl, hK20.ext hE, hH20.ext hE, hY20, hX, by have := hw10; have := hw20; have := hE.size; omega⟩
          · obtain rfl : r = H.length := by omega
            rw [List.take_length] at hK'
            refine W_exit (blk_hit ?_)
            refine W_seq ?_
            refine W_region ?_
            refine op rfl (r_moveV (v := hp p2) (by rw [← hpw]; rfl)) ?_
            refine opCv rfl (r_call Tryd.func15 Tryd.nm15 rfl) (head_spec (hK'.ext hE15)) ?_
            rintro v20 w20 ⟨rfl, hE⟩
            replace hX := hX.trans hE
            have hE23 := hE
            refine op rfl (r_moveV (v := hp p) (by rw [← hpv]; rfl)) ?_
            refine opCv rfl (r_call Tryd.func15 Tryd.nm15 rfl) (head_spec ((hH9.ext hE15).ext hE23)) ?_
            rintro v21 w21 ⟨rfl, hE⟩
            replace hX := hX.trans hE
            refine op rfl (r_eql rfl rfl) ?_
            refine op_true rfl (r_moveV (v := .bool (decide _)) rfl) (rfl) ?_
            refine opG_yes rfl rfl rfl rfl rfl (r_build (cs := [.slice none 0 0, .slice none 0 0]) Tryd.lay52 (by intro q hq; cases hq) rfl rfl) ?_
            refine opGCv_yes rfl rfl rfl rfl rfl (r_call Tryd.func20 Tryd.nm20 rfl) (refHeadNil_spec _) ?_
            rintro v22 w22 ⟨rfl, hE⟩
            replace hX := hX.trans hE
            refine opG_yes rfl rfl rfl rfl rfl (r_eql rfl rfl) ?_
            refine op rfl (r_pickTV (v := .bool _) rfl rfl) ?_
            refine op_true rfl (r_moveV (v := .bool (decide _)) rfl) (rfl) ?_
            refine opGCv_yes rfl rfl rfl rfl rfl (r_call Tryd.func10 Tryd.nm10 rfl) (known_spec _) ?_
            rintro v23 w23 ⟨rfl, hE⟩
            replace hX := hX.trans hE
            refine op rfl (r_pickTV (v := .bool _) rfl rfl) ?_
            refine op rfl (r_assignV (v := .bool _) rfl) ?_
            refine WL_nil ?_
            refine W_ret (finX_ret ?_)
            refine fin1 ?_
            exact ⟨_, rfl, by first | rfl | exact (bool_tt trivial).symm, hX⟩
theorem historyAgain_row (W : World) (At : Option Addr) (ct : Nat) (t : List Fi) (hct : t.length ≤ ct) (ht : t.length ≤ big) (hT : fiT.Row W (old W) At t)
  (Al : Option Addr) (cl : Nat) (l : List (List Dl)) (hcl : l.length ≤ cl) (hl : l.length ≤ big) (hL : dlsT.Row W (old W) Al l) :
    Calls Tryd.prog 5 #[.slice At t.length ct, .slice Al l.length cl] W (fun e W' => ∃ v, e = .returned v ∧ v = .bool true ∧ Ext W W') :=
  historyAgain_walk hT ht hL hl
end Go.Proofs.YtkdcmdcdjnmkaaaDoor
