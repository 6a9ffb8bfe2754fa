/-
  What a revision changed was changed last there, or later: the walk.
-/
import Derived.Test.YtkdcmdcdjnmkaaaDoorFacts
import Derived.Test.YtkdcmdcdjnmkaaaDoorHistK
namespace Go.Proofs.YtkdcmdcdjnmkaaaDoor
open Go Go.Eng Go.RowKit Go.Proofs
set_option linter.unusedVariables false
set_option linter.unusedSimpArgs false
set_option maxHeartbeats 600000

theorem lastGo_lt (s : List UInt8) : ∀ (H : List Rv) (i a : Nat), lastGo s i a H = a ∨ (i ≤ lastGo s i a H ∧ lastGo s i a H < i + H.length)
  | [], i, a => Or.inl rfl
  | r :: H, i, a => by
    unfold lastGo
    rcases lastGo_lt s H (i + 1) (if touch r s then i else a) with h | h
    · rw [h]
      split
      · exact Or.inr ⟨Nat.le_refl _, by simp⟩
      · exact Or.inl rfl
    · exact Or.inr ⟨by omega, by simp only [List.length_cons]; omega⟩
theorem lastR_lt {H : List Rv} (s : List UInt8) (h : 1 ≤ H.length) : lastR H s < H.length := by
  unfold lastR
  rcases lastGo_lt s H 0 0 with q | q <;> omega
theorem commit_cases (H : List Rv) (ds : List Dl) : ((commitR H ds).1 = H ∧ (commitR H ds).2.2 ≠ 0) ∨ ∃ u, (commitR H ds).1 = H ++ [⟨ds, u⟩] ∧ (commitR H ds).2.1 = H.length ∧ (commitR H ds).2.2 = 0 := by
  unfold commitR
  split
  · exact Or.inl ⟨rfl, by simp⟩
  · split
    · exact Or.inl ⟨rfl, by simp⟩
    · split
      · exact Or.inl ⟨rfl, by assumption⟩
      · exact Or.inr ⟨_, rfl, rfl, rfl⟩
theorem hist_len {p : Nat} {Z : Nat → Prop} {w : World} {H : List Rv} (h : Hist p Z w H) : 1 ≤ H.length ∧ H.length ≤ 100001 := by
  obtain ⟨m, v, F, h1, _⟩ := h
  exact ⟨List.length_pos_iff.2 h1.ne, h1.sm⟩
theorem dl_pl {A : Option Addr} {t : List Dl} {w : World} {G : Nat → Prop} (hrow : dlT.Row w G A t) : ∀ i (h : i < t.length), t[i].p.length ≤ 140737488355328 := fun i h => by
  obtain ⟨g, off, xs, hA, _, hx, hc⟩ := hrow.cells h
  obtain ⟨Ai, ci, rfl, _, _, _, h1, _⟩ := dl_cells hx
  exact h1
theorem since1_spec {p : Nat} {Z : Nat → Prop} {w : World} {H : List Rv} (hH : Hist p Z w H) (r : Int) {b : Nat} {s : List UInt8} (hb : Blk w b #[.string (str s)] 9) (hs : s.length ≤ 140737488355328) :
    Calls Tryd.prog 14 #[hp p, .int .i64 r, .slice (some ⟨b, 0, none⟩) 1 1] w (fun en w' => ∃ v, en = .returned v ∧ ∃ A c, v = .slice A (sinceR H r [s]).length c ∧ Ext w w') := by
  refine (since_spec (cs := 1) (ss := [s]) hH r (row_one hb hs) (Nat.le_of_ble_eq_true rfl)).mono ?_
  rintro en w' ⟨v, rfl, hO, hE⟩
  obtain ⟨A, c, rfl, -, -⟩ := hO.read
  exact ⟨_, rfl, A, c, rfl, hE⟩
theorem lastR_more {H : List Rv} {ds : List Dl} {u : Tree} {s : List UInt8} (h : 1 ≤ H.length) : (0 < lastR H s ∨ (ds.any fun d => decide (d.p = s)) = true) ↔ 0 < lastR (H ++ [⟨ds, u⟩]) s := by
  rw [lastR_snoc]
  unfold touch
  split
  · rename_i q; exact ⟨fun _ => by omega, fun _ => Or.inr q⟩
  · rename_i q; exact ⟨fun k => k.resolve_right q, Or.inl⟩
theorem historyLast_walk {A : Option Addr} {cap : Nat} {t : Tree} {Al : Option Addr} {cl : Nat} {l : List (List Dl)} {s : List UInt8} {w : World} (hrow : fiT.Row w (old w) A t) (hl : t.length ≤ 140737488355328) (hrowl : dlsT.Row w (old w) Al l) (hll : l.length ≤ 140737488355328) (hsl : s.length ≤ 140737488355328) :
    Calls Tryd.prog 3 #[.slice A t.length cap, .slice Al l.length cl, .string (str s)] w (fun en w' => ∃ v, en = .returned v ∧ v = .bool true ∧ Ext w w') := by
  have hlat : ∀ W, Ext w W → ∀ i (hi : i < l.length), ∃ g off Ai ci, Al = some ⟨g, off, none⟩ ∧ W.cell? ⟨g, off + i, none⟩ = some (.slice Ai l[i].length ci) ∧ l[i].length * 48 ≤ 140737488355328 ∧ dlT.Row W (old w) Ai l[i] := fun W he i hi => by
    obtain ⟨g, off, Ai, ci, hA, _, hc, _, h2, h3⟩ := hrowl.cellW hi
    exact ⟨g, off, Ai, ci, hA, ext_cell he hc, h2, h3.keep (fun b hb => he.block b hb) (fun _ h => h)⟩
  refine calls' (n := 129) (rs := #[.tmp 6]) (l := [.slice A t.length cap, .slice Al l.length cl, .string (str s)]) Tryd.func3 rfl rfl rfl rfl rfl ?_
  have hX := Ext.refl w
  refine W_seq ?_
  refine W_region ?_
  refine op rfl (r_assignV (v := .bool _) rfl) ?_
  refine WL_nil ?_
  refine W_seq ?_
  refine W_seq ?_
  refine W_region ?_
  refine op rfl (r_moveV (v := .slice _ _ _) rfl) ?_
  refine op rfl (r_moveV (v := .slice _ _ _) rfl) ?_
  refine opCv rfl (r_call Tryd.func9 Tryd.nm9 rfl) (small_spec (hrow.ext hX) hl (hrowl.ext hX) hll) ?_
  rintro v2 w2 ⟨q, dq, rfl, hq, hE⟩
  replace hX := hX.trans hE
  refine op rfl (r_notP rfl) ?_
  refine op_split rfl (r_moveV (v := .bool (decide _)) rfl) (fun hg18 => ?_) (fun hg18 => ?_)
  · refine opG_no rfl rfl rfl rfl rfl ?_
    refine opG_no rfl rfl rfl rfl rfl ?_
    refine opG_no rfl rfl rfl rfl rfl ?_
    refine op rfl (r_pickTV (v := .bool _) rfl rfl) ?_
    refine WL_nil ?_
    refine W_then rfl ?_
    refine W_seq ?_
    refine W_region ?_
    refine opCv rfl (r_call Tryd.func10 Tryd.nm10 rfl) (known_spec _) ?_
    rintro v9 w9 ⟨rfl, hE⟩
    replace hX := hX.trans hE
    refine op rfl (r_assignV (v := .bool _) rfl) ?_
    refine WL_nil ?_
    refine W_ret (finX_ret ?_)
    refine fin1 ?_
    exact ⟨_, rfl, by first | rfl | exact (bool_tt trivial).symm, hX⟩
  · refine opG_yes rfl rfl rfl rfl rfl (r_moveV (v := .string _) rfl) ?_
    refine opG_yes rfl rfl rfl rfl rfl (rt_len rfl Tryd.underlying9) ?_
    refine opG_yes rfl rfl rfl rfl rfl (r_gtr rfl rfl) ?_
    refine op rfl (r_pickFV (v := .bool _) rfl rfl) ?_
    refine WL_nil ?_
    refine W_ifp rfl (fun ht22 => ?_) (fun ht22 => ?_)
    · refine W_seq ?_
      refine W_region ?_
      refine opCv rfl (r_call Tryd.func10 Tryd.nm10 rfl) (known_spec _) ?_
      rintro v9 w9 ⟨rfl, hE⟩
      replace hX := hX.trans hE
      refine op rfl (r_assignV (v := .bool _) rfl) ?_
      refine WL_nil ?_
      refine W_ret (finX_ret ?_)
      refine fin1 ?_
      exact ⟨_, rfl, by first | rfl | exact (bool_tt trivial).symm, hX⟩
    · have hq' := hq (Classical.not_not.1 hg18)
      refine W_skip ?_
      refine W_seq ?_
      refine W_region ?_
      refine op rfl (r_moveV (v := .slice _ _ _) rfl) ?_
      have hX1 := hX
      refine opCv rfl (r_call Tryd.func11 Tryd.nm11 rfl) (new_spec2 (G := old w) (fun b hb ↦ Nat.lt_of_lt_of_le hb hX.size) (hrow.keep (fun b hb ↦ hX.block b hb) (fun _ h ↦ h)) (by omega)) ?_
      rintro v3 w3 ⟨pv, rfl, hH, hE⟩
      replace hX := hX.trans hE
      refine op rfl (r_moveV (v := .tuple #[pv, .int .i64 (if rightT t then 0 else 2)]) rfl) ?_
      refine op rfl (r_extract (vs := [pv, .int .i64 (if rightT t then 0 else 2)]) rfl rfl) ?_
      refine op rfl (r_extract (vs := [pv, .int .i64 (if rightT t then 0 else 2)]) rfl rfl) ?_
      refine op rfl (r_assignV (v := pv) rfl) ?_
      refine op rfl (r_assignV (v := .int .i64 (if rightT t then 0 else 2)) rfl) ?_
      refine WL_nil ?_
      refine W_seq ?_
      refine W_seq ?_
      refine W_region ?_
      refine op rfl (r_moveV (v := .int .i64 (if rightT t then 0 else 2)) rfl) ?_
      refine op rfl (r_neq rfl rfl) ?_
      refine WL_nil ?_
      refine W_ifp rfl (fun ht30 => ?_) (fun ht30 => ?_)
      · refine W_seq ?_
        refine W_region ?_
        refine opCv rfl (r_call Tryd.func10 Tryd.nm10 rfl) (known_spec _) ?_
        rintro v9 w9 ⟨rfl, hE⟩
        replace hX := hX.trans hE
        refine op rfl (r_assignV (v := .bool _) rfl) ?_
        refine WL_nil ?_
        refine W_ret (finX_ret ?_)
        refine fin1 ?_
        exact ⟨_, rfl, by first | rfl | exact (bool_tt trivial).symm, hX⟩
      · have hr : rightT t := Classical.byContradiction (fun q => ht30 (by rw [if_neg q]; decide))
        obtain ⟨p, hpv, hH0⟩ := hH hr
        refine W_skip ?_
        refine W_seq ?_
        refine W_region ?_
        refine op rfl (r_assignV (v := .bool _) rfl) ?_
        refine WL_nil ?_
        refine W_seq ?_
        refine W_seq ?_
        refine W_region ?_
        refine op rfl (r_assignV (v := .int _ _) rfl) ?_
        refine WL_nil ?_
        refine W_block ?_
        refine W_loop (6 :: 9 :: 10 :: 11 :: 12 :: 13 :: 32 :: 33 :: 34 :: 35 :: 36 :: 37 :: 38 :: 39 :: 40 :: 41 :: 42 :: 43 :: 44 :: 45 :: 46 :: 47 :: 48 :: 49 :: 50 :: 51 :: 52 :: 53 :: 54 :: 55 :: 56 :: 57 :: 58 :: 59 :: 60 :: 61 :: 62 :: 63 :: 64 :: 65 :: 66 :: 67 :: 68 :: 69 :: 70 :: 71 :: 72 :: 73 :: 74 :: 75 :: 76 :: 77 :: 78 :: 79 :: 80 :: 81 :: 82 :: 83 :: 84 :: 85 :: 86 :: 87 :: 88 :: 89 :: 90 :: 91 :: 92 :: 93 :: 94 :: 95 :: 96 :: 97 :: 98 :: 99 :: 100 :: 101 :: []) (fun q e' w' => ∃ (i : Nat) (H : List Rv) (Z : Nat → Prop), q = l.length - i ∧ i ≤ l.length ∧ e' 10 = .int .i64 i ∧ e' 9 = .bool (decide (0 < lastR H s)) ∧ Hist p Z w' H ∧ (∀ b, Z b → w.heap.size ≤ b) ∧ Ext w w') (l.length) ?_ ?_
        · exact ⟨0, [⟨[], t⟩], _, by omega, by omega, rfl, rfl, hH0, fun b hb => by have := hb.1; have := hX1.size; omega, hX⟩
        intro k g w' hI
        obtain ⟨i, H, Z, hq0, hi, h10, h9, hH', hZ, hX'⟩ := hI
        clear hX
        have hX := hX'
        have hHl := hist_len hH'
        obtain ⟨w0i, hw0i⟩ : ∃ x, x = w' := ⟨_, rfl⟩
        subst hw0i
        refine W_set (i := 10) h10 ?_
        refine W_set (i := 9) h9 ?_
        refine W_seq ?_
        refine W_seq ?_
        refine W_region ?_
        refine op rfl (r_moveV (v := .int _ _) rfl) ?_
        refine op rfl (r_moveV (v := .slice _ _ _) rfl) ?_
        refine op rfl (r_len_slice rfl Tryd.underlying24) ?_
        refine op rfl (r_lss rfl rfl) ?_
        refine WL_nil ?_
        refine W_ifp rfl (fun ht35 => ?_) (fun ht35 => ?_)
        · have hlt : i < l.length := by omega
          obtain ⟨g1, off1, Ai, ci, hA, hcell, hbl, hrr⟩ := hlat _ hX i hlt
          refine W_skip ?_
          refine W_seq ?_
          refine W_block ?_
          refine W_seq ?_
          refine W_region ?_
          refine op rfl (r_moveV (v := hp p) (by rw [← hpv]; rfl)) ?_
          refine op rfl (r_moveV (v := .slice _ _ _) rfl) ?_
          refine op rfl (r_moveV (v := .int _ _) rfl) ?_
          refine op rfl (r_indexAddr1 rfl rfl hA Tryd.underlying24 Tryd.sz33 (by omega) (by omega)) ?_
          refine op rfl (r_load (v := .slice Ai l[i].length ci) rfl Tryd.underlying33 rfl hcell) ?_
          refine opCv rfl (r_call Tryd.func12 Tryd.nm12 rfl) (commit_spec (cd := ci) hH' (fun b hb ↦ ⟨Nat.lt_of_lt_of_le hb hX.size, fun q ↦ by have := hZ b q; omega⟩) hrr hbl) ?_
          rintro v4 w4 ⟨rfl, hH4, hM⟩
          have hX4 : Ext w w4 := ext_mv hX hM hZ
          have hcc := commit_cases H l[i]
          clear hX
          have hX := hX4
          have hZ4 : ∀ b, (Z b ∨ since w0i w4 b) → w.heap.size ≤ b := fun b hb => hb.elim (hZ b) (fun q => by have := q.1; have := hX'.size; omega)
          obtain ⟨g1', off1', Ai', ci', hA', hcell', hbl', hrr'⟩ := hlat _ hX4 i hlt
          refine op rfl (r_moveV (v := .tuple #[.int .i64 (commitR H l[i]).2.1, .int .i64 (commitR H l[i]).2.2]) rfl) ?_
          refine op rfl (r_extract (vs := [.int .i64 (commitR H l[i]).2.1, .int .i64 (commitR H l[i]).2.2]) rfl rfl) ?_
          refine op rfl (r_extract (vs := [.int .i64 (commitR H l[i]).2.1, .int .i64 (commitR H l[i]).2.2]) rfl rfl) ?_
          refine op rfl (r_assignV (v := .int .i64 (commitR H l[i]).2.1) rfl) ?_
          refine op rfl (r_assignV (v := .int .i64 (commitR H l[i]).2.2) rfl) ?_
          refine WL_nil ?_
          refine W_seq ?_
          refine W_region ?_
          refine op rfl (r_assignV (v := .int _ _) rfl) ?_
          refine WL_nil ?_
          refine W_block ?_
          refine W_loop [6, 9, 13, 47, 48, 49, 50, 51, 52, 53, 54, 55, 56, 57, 58, 59, 60, 61, 62, 63, 64, 65, 66, 67, 68, 69, 70, 71, 72, 73, 74, 75, 76, 77, 78, 79, 80, 81, 82, 83, 84, 85, 86, 87, 88, 89, 90, 91, 92, 93, 94, 95, 96, 97, 98, 99, 100, 101] (fun q e' w' => ∃ (k : Nat), q = l[i].length - k ∧ k ≤ l[i].length ∧ e' 13 = .int .i64 k ∧ e' 9 = .bool (decide (0 < lastR H s ∨ (l[i].take k).any (fun d => decide (d.p = s)) = true)) ∧ (0 < k → (commitR H l[i]).2.2 = 0) ∧ Ext w4 w' ∧ Ext w w') (l[i].length) ?_ ?_
          · exact ⟨0, by omega, by omega, rfl, bool_iff (by simp), fun q => absurd q (Nat.lt_irrefl _), Ext.refl _, hX⟩
          intro k g w' hI
          obtain ⟨k, hqk, hk, h13, h9', hk0, hE4, hX''⟩ := hI
          clear hX
          have hX := hX''
          obtain ⟨g2, off2, A2, c2, hA2, hcell2, hbl2, hrr2⟩ := hlat _ hX i hlt
          refine W_set (i := 13) h13 ?_
          refine W_set (i := 9) h9' ?_
          refine W_seq ?_
          refine W_seq ?_
          refine W_region ?_
          refine op rfl (r_moveV (v := .int _ _) rfl) ?_
          refine op rfl (r_moveV (v := .slice _ _ _) rfl) ?_
          refine op rfl (r_moveV (v := .int _ _) rfl) ?_
          refine op rfl (r_indexAddr1 rfl rfl hA2 Tryd.underlying24 Tryd.sz33 (by omega) (by omega)) ?_
          refine op rfl (r_load (v := .slice A2 l[i].length c2) rfl Tryd.underlying33 rfl hcell2) ?_
          refine op rfl (r_len_slice rfl Tryd.underlying33) ?_
          refine op rfl (r_lss rfl rfl) ?_
          refine op_split rfl (r_moveV (v := .bool (decide _)) rfl) (fun hg54 => ?_) (fun hg54 => ?_)
          · refine opG_yes rfl rfl rfl rfl rfl (r_moveV (v := .int .i64 (commitR H l[i]).2.2) rfl) ?_
            refine opG_yes rfl rfl rfl rfl rfl (r_eql rfl rfl) ?_
            refine op rfl (r_pickTV (v := .bool _) rfl rfl) ?_
            refine WL_nil ?_
            refine W_ifp rfl (fun ht57 => ?_) (fun ht57 => ?_)
            · have hkl : k < l[i].length := by omega
              obtain ⟨u, hC1, hC2, hC3⟩ := hcc.resolve_left (fun q => q.2 ht57)
              obtain ⟨g3, off3, A3, c3, hA3, hcell3⟩ := dl_at hrr2 k hkl
              have hH5 : Hist p (fun b => Z b ∨ since w0i w4 b) w' (H ++ [⟨l[i], u⟩]) := by rw [← hC1]; exact hH4.ext hE4
              have htouch : touch ⟨l[i], u⟩ l[i][k].p = true := List.any_eq_true.2 ⟨l[i][k], List.getElem_mem hkl, by simp⟩
              have hlr : lastR (H ++ [⟨l[i], u⟩]) l[i][k].p = H.length := by rw [lastR_snoc, if_pos htouch]
              have hmore : (0 < lastR H s ∨ ((l[i].take (k + 1)).any fun d => decide (d.p = s)) = true) ↔ ((0 < lastR H s ∨ ((l[i].take k).any fun d => decide (d.p = s)) = true) ∨ l[i][k].p = s) := by
                rw [List.take_succ_eq_append_getElem hkl, List.any_append]
                simp [or_assoc]
              refine W_skip ?_
              refine W_seq ?_
              refine W_block ?_
              refine W_seq ?_
              refine W_region ?_
              refine op rfl (r_moveV (v := .bool _) rfl) ?_
              refine op_split rfl (r_moveV (v := .bool (decide _)) rfl) (fun hg61 => ?_) (fun hg61 => ?_)
              · refine opG_no rfl rfl rfl rfl rfl ?_
                refine opG_no rfl rfl rfl rfl rfl ?_
                refine opG_no rfl rfl rfl rfl rfl ?_
                refine opG_no rfl rfl rfl rfl rfl ?_
                refine opG_no rfl rfl rfl rfl rfl ?_
                refine opG_no rfl rfl rfl rfl rfl ?_
                refine opG_no rfl rfl rfl rfl rfl ?_
                refine opG_no rfl rfl rfl rfl rfl ?_
                refine opG_no rfl rfl rfl rfl rfl ?_
                refine opG_no rfl rfl rfl rfl rfl ?_
                refine op rfl (r_pickTV (v := .bool _) rfl rfl) ?_
                refine op rfl (r_assignV (v := .bool _) rfl) ?_
                refine WL_nil ?_
                refine W_seq ?_
                refine W_region ?_
                refine op rfl (r_moveV (v := hp p) (by rw [← hpv]; rfl)) ?_
                refine op rfl (r_moveV (v := .slice _ _ _) rfl) ?_
                refine op rfl (r_moveV (v := .int _ _) rfl) ?_
                refine op rfl (r_indexAddr1 rfl rfl hA2 Tryd.underlying24 Tryd.sz33 (by omega) (by omega)) ?_
                refine op rfl (r_load (v := .slice A2 l[i].length c2) rfl Tryd.underlying33 rfl hcell2) ?_
                refine op rfl (r_moveV (v := .int _ _) rfl) ?_
                refine op rfl (r_indexAddrK (by rw [← hA3]; rfl) rfl Tryd.underlying33 Tryd.sz36 hkl) ?_
                refine op rfl (r_fieldAddr rfl Tryd.fld36_1 rfl) ?_
                refine op rfl (r_load (v := .string (str l[i][k].p)) rfl Tryd.underlying9 rfl (hcell3 1 (by omega))) ?_
                refine opCv rfl (r_call Tryd.func13 Tryd.nm13 rfl) (last_spec hH5 l[i][k].p) ?_
                rintro v5 w5 ⟨rfl, hE⟩
                replace hX := hX.trans hE
                have hE9 := hE
                have hH6 := hH5.ext hE
                refine op rfl (r_moveV (v := .int .i64 (H.length : Nat)) (by rw [← hC2]; rfl)) ?_
                refine op rfl (r_neq rfl rfl) ?_
                refine op_false rfl (r_moveV (v := .bool (decide _)) rfl) (fun h => h (by rw [hlr])) ?_
                refine opG_yes rfl rfl rfl rfl rfl (r_moveV (v := hp p) (by rw [← hpv]; rfl)) ?_
                refine opG_yes rfl rfl rfl rfl rfl (r_moveV (v := .int .i64 (H.length : Nat)) (by rw [← hC2]; rfl)) ?_
                refine opG_yes rfl rfl rfl rfl rfl (r_sub' (r := (H.length : Int) - 1) rfl rfl (by rw [wrap_i64 (by omega) (by omega)])) ?_
                refine opG_yes rfl rfl rfl rfl rfl (r_moveV (v := .slice _ _ _) rfl) ?_
                refine opG_yes rfl rfl rfl rfl rfl (r_moveV (v := .int _ _) rfl) ?_
                refine opG_yes rfl rfl rfl rfl rfl (r_indexAddr1 rfl rfl hA2 Tryd.underlying24 Tryd.sz33 (by omega) (by omega)) ?_
                refine opG_yes rfl rfl rfl rfl rfl (r_load (v := .slice A2 l[i].length c2) rfl Tryd.underlying33 rfl (ext_cell hE9 hcell2)) ?_
                refine opG_yes rfl rfl rfl rfl rfl (r_moveV (v := .int _ _) rfl) ?_
                refine opG_yes rfl rfl rfl rfl rfl (r_indexAddrK (by rw [← hA3]; rfl) rfl Tryd.underlying33 Tryd.sz36 hkl) ?_
                refine opG_yes rfl rfl rfl rfl rfl (r_fieldAddr rfl Tryd.fld36_1 rfl) ?_
                refine opG_yes rfl rfl rfl rfl rfl (r_load (v := .string (str l[i][k].p)) rfl Tryd.underlying9 rfl (ext_cell hE9 (hcell3 1 (by omega)))) ?_
                refine op_newSG rfl rfl rfl rfl rfl (r_buildSlice (vs := [.string _]) Tryd.underlying38 Tryd.sz9 Tryd.zero9 rfl rfl rfl) ?_
                intro w15_24 b15_24 E15_24 B15_24 L15_24
                have hG15_24 : w.heap.size ≤ b15_24 := by have := hX.size; omega
                replace hX := hX.trans E15_24
                have hH7 := hH6.ext E15_24
                have hpl := dl_pl hrr2 k hkl
                refine opGCv_yes rfl rfl rfl rfl rfl (r_call Tryd.func14 Tryd.nm14 rfl) (since1_spec hH7 ((H.length : Int) - 1) B15_24 hpl) ?_
                rintro v6 w6 ⟨A6, c6, rfl, hE⟩
                replace B15_24 := Blk.ext B15_24 hE
                replace hX := hX.trans hE
                have h1 : (sinceR (H ++ [⟨l[i], u⟩]) ((H.length : Int) - 1) [l[i][k].p]).length = 1 := by
                  unfold sinceR
                  rw [List.filter_cons_of_pos (by rw [hlr, decide_eq_true_iff]; omega)]
                  rfl
                refine opG_yes rfl rfl rfl rfl rfl (r_len_slice rfl Tryd.underlying38) ?_
                refine opG_yes rfl rfl rfl rfl rfl (r_neq rfl rfl) ?_
                refine op rfl (r_pickFV (v := .bool _) rfl rfl) ?_
                refine WL_nil ?_
                refine W_ifp rfl (fun ht101 => ?_) (fun ht101 => ?_)
                · exact absurd (by rw [h1]; rfl) ht101
                · refine W_skip ?_
                  refine W_region ?_
                  refine op rfl (r_moveV (v := .int _ _) rfl) ?_
                  refine op rfl (r_add' rfl rfl (wrap_i64 (by omega) (by omega))) ?_
                  refine op rfl (r_assignV (v := .int _ _) rfl) ?_
                  refine WL_nil ?_
                  refine ⟨?_, by repeat (first | with_reducible exact Out.refl _ _ | with_reducible exact Out.mix | refine Out.put rfl ?_ | refine Out.mixin rfl ?_ | exact Out.refl _ _ | exact Out.mix)⟩
                  exact ⟨l[i].length - (k + 1), by omega, k + 1, rfl, by omega, rfl, by first | exact bool_tt (hmore.2 (Or.inl hg61)) | exact bool_iff ⟨fun q => hmore.2 (Or.inr q), fun q => (hmore.1 q).resolve_left hg61⟩, fun _ => ht57, ((hE4.trans hE9).trans E15_24).trans hE, hX⟩
              · refine opG_yes rfl rfl rfl rfl rfl (r_moveV (v := .slice _ _ _) rfl) ?_
                refine opG_yes rfl rfl rfl rfl rfl (r_moveV (v := .int _ _) rfl) ?_
                refine opG_yes rfl rfl rfl rfl rfl (r_indexAddr1 rfl rfl hA2 Tryd.underlying24 Tryd.sz33 (by omega) (by omega)) ?_
                refine opG_yes rfl rfl rfl rfl rfl (r_load (v := .slice A2 l[i].length c2) rfl Tryd.underlying33 rfl hcell2) ?_
                refine opG_yes rfl rfl rfl rfl rfl (r_moveV (v := .int _ _) rfl) ?_
                refine opG_yes rfl rfl rfl rfl rfl (r_indexAddrK (by rw [← hA3]; rfl) rfl Tryd.underlying33 Tryd.sz36 hkl) ?_
                refine opG_yes rfl rfl rfl rfl rfl (r_fieldAddr rfl Tryd.fld36_1 rfl) ?_
                refine opG_yes rfl rfl rfl rfl rfl (r_load (v := .string (str l[i][k].p)) rfl Tryd.underlying9 rfl (hcell3 1 (by omega))) ?_
                refine opG_yes rfl rfl rfl rfl rfl (r_moveV (v := .string _) rfl) ?_
                refine opG_yes rfl rfl rfl rfl rfl (rt_eql rfl rfl) ?_
                refine op rfl (r_pickFV (v := .bool _) rfl rfl) ?_
                refine op rfl (r_assignV (v := .bool _) rfl) ?_
                refine WL_nil ?_
                refine W_seq ?_
                refine W_region ?_
                refine op rfl (r_moveV (v := hp p) (by rw [← hpv]; rfl)) ?_
                refine op rfl (r_moveV (v := .slice _ _ _) rfl) ?_
                refine op rfl (r_moveV (v := .int _ _) rfl) ?_
                refine op rfl (r_indexAddr1 rfl rfl hA2 Tryd.underlying24 Tryd.sz33 (by omega) (by omega)) ?_
                refine op rfl (r_load (v := .slice A2 l[i].length c2) rfl Tryd.underlying33 rfl hcell2) ?_
                refine op rfl (r_moveV (v := .int _ _) rfl) ?_
                refine op rfl (r_indexAddrK (by rw [← hA3]; rfl) rfl Tryd.underlying33 Tryd.sz36 hkl) ?_
                refine op rfl (r_fieldAddr rfl Tryd.fld36_1 rfl) ?_
                refine op rfl (r_load (v := .string (str l[i][k].p)) rfl Tryd.underlying9 rfl (hcell3 1 (by omega))) ?_
                refine opCv rfl (r_call Tryd.func13 Tryd.nm13 rfl) (last_spec hH5 l[i][k].p) ?_
                rintro v5 w5 ⟨rfl, hE⟩
                replace hX := hX.trans hE
                have hE9 := hE
                have hH6 := hH5.ext hE
                refine op rfl (r_moveV (v := .int .i64 (H.length : Nat)) (by rw [← hC2]; rfl)) ?_
                refine op rfl (r_neq rfl rfl) ?_
                refine op_false rfl (r_moveV (v := .bool (decide _)) rfl) (fun h => h (by rw [hlr])) ?_
                refine opG_yes rfl rfl rfl rfl rfl (r_moveV (v := hp p) (by rw [← hpv]; rfl)) ?_
                refine opG_yes rfl rfl rfl rfl rfl (r_moveV (v := .int .i64 (H.length : Nat)) (by rw [← hC2]; rfl)) ?_
                refine opG_yes rfl rfl rfl rfl rfl (r_sub' (r := (H.length : Int) - 1) rfl rfl (by rw [wrap_i64 (by omega) (by omega)])) ?_
                refine opG_yes rfl rfl rfl rfl rfl (r_moveV (v := .slice _ _ _) rfl) ?_
                refine opG_yes rfl rfl rfl rfl rfl (r_moveV (v := .int _ _) rfl) ?_
                refine opG_yes rfl rfl rfl rfl rfl (r_indexAddr1 rfl rfl hA2 Tryd.underlying24 Tryd.sz33 (by omega) (by omega)) ?_
                refine opG_yes rfl rfl rfl rfl rfl (r_load (v := .slice A2 l[i].length c2) rfl Tryd.underlying33 rfl (ext_cell hE9 hcell2)) ?_
                refine opG_yes rfl rfl rfl rfl rfl (r_moveV (v := .int _ _) rfl) ?_
                refine opG_yes rfl rfl rfl rfl rfl (r_indexAddrK (by rw [← hA3]; rfl) rfl Tryd.underlying33 Tryd.sz36 hkl) ?_
                refine opG_yes rfl rfl rfl rfl rfl (r_fieldAddr rfl Tryd.fld36_1 rfl) ?_
                refine opG_yes rfl rfl rfl rfl rfl (r_load (v := .string (str l[i][k].p)) rfl Tryd.underlying9 rfl (ext_cell hE9 (hcell3 1 (by omega)))) ?_
                refine op_newSG rfl rfl rfl rfl rfl (r_buildSlice (vs := [.string _]) Tryd.underlying38 Tryd.sz9 Tryd.zero9 rfl rfl rfl) ?_
                intro w15_24 b15_24 E15_24 B15_24 L15_24
                have hG15_24 : w.heap.size ≤ b15_24 := by have := hX.size; omega
                replace hX := hX.trans E15_24
                have hH7 := hH6.ext E15_24
                have hpl := dl_pl hrr2 k hkl
                refine opGCv_yes rfl rfl rfl rfl rfl (r_call Tryd.func14 Tryd.nm14 rfl) (since1_spec hH7 ((H.length : Int) - 1) B15_24 hpl) ?_
                rintro v6 w6 ⟨A6, c6, rfl, hE⟩
                replace B15_24 := Blk.ext B15_24 hE
                replace hX := hX.trans hE
                have h1 : (sinceR (H ++ [⟨l[i], u⟩]) ((H.length : Int) - 1) [l[i][k].p]).length = 1 := by
                  unfold sinceR
                  rw [List.filter_cons_of_pos (by rw [hlr, decide_eq_true_iff]; omega)]
                  rfl
                refine opG_yes rfl rfl rfl rfl rfl (r_len_slice rfl Tryd.underlying38) ?_
                refine opG_yes rfl rfl rfl rfl rfl (r_neq rfl rfl) ?_
                refine op rfl (r_pickFV (v := .bool _) rfl rfl) ?_
                refine WL_nil ?_
                refine W_ifp rfl (fun ht101 => ?_) (fun ht101 => ?_)
                · exact absurd (by rw [h1]; rfl) ht101
                · refine W_skip ?_
                  refine W_region ?_
                  refine op rfl (r_moveV (v := .int _ _) rfl) ?_
                  refine op rfl (r_add' rfl rfl (wrap_i64 (by omega) (by omega))) ?_
                  refine op rfl (r_assignV (v := .int _ _) rfl) ?_
                  refine WL_nil ?_
                  refine ⟨?_, by repeat (first | with_reducible exact Out.refl _ _ | with_reducible exact Out.mix | refine Out.put rfl ?_ | refine Out.mixin rfl ?_ | exact Out.refl _ _ | exact Out.mix)⟩
                  exact ⟨l[i].length - (k + 1), by omega, k + 1, rfl, by omega, rfl, by first | exact bool_tt (hmore.2 (Or.inl hg61)) | exact bool_iff ⟨fun q => hmore.2 (Or.inr q), fun q => (hmore.1 q).resolve_left hg61⟩, fun _ => ht57, ((hE4.trans hE9).trans E15_24).trans hE, hX⟩
            · refine W_exit (blk_hit ?_)
              refine W_region ?_
              refine op rfl (r_moveV (v := .int _ _) rfl) ?_
              refine op rfl (r_add' rfl rfl (wrap_i64 (by omega) (by omega))) ?_
              refine op rfl (r_assignV (v := .int _ _) rfl) ?_
              refine WL_nil ?_
              refine ⟨?_, by repeat (first | with_reducible exact Out.refl _ _ | with_reducible exact Out.mix | refine Out.put rfl ?_ | refine Out.mixin rfl ?_ | exact Out.refl _ _ | exact Out.mix)⟩
              have hsi : (0 < lastR H s ∨ ((l[i].take k).any fun d => decide (d.p = s)) = true) ↔ 0 < lastR (commitR H l[i]).1 s := by
                rcases hcc with ⟨hC1, hC2⟩ | ⟨u, hC1, hC2, hC3⟩
                · have hk00 : k = 0 := Classical.byContradiction fun q => hC2 (hk0 (by omega))
                  subst hk00
                  rw [hC1]; simp
                · have hkk : k = l[i].length := by first | omega | exact absurd hC3 ht57
                  rw [hC1, ← lastR_more hHl.1, hkk, List.take_length]
              first
                | exact ⟨l.length - (i + 1), by omega, i + 1, _, _, rfl, by omega, rfl, bool_iff hsi, hH4.ext hE4, hZ4, hX⟩
          · refine opG_no rfl rfl rfl rfl rfl ?_
            refine opG_no rfl rfl rfl rfl rfl ?_
            refine op rfl (r_pickFV (v := .bool _) rfl rfl) ?_
            refine WL_nil ?_
            refine W_else rfl ?_
            refine W_exit (blk_hit ?_)
            refine W_region ?_
            refine op rfl (r_moveV (v := .int _ _) rfl) ?_
            refine op rfl (r_add' rfl rfl (wrap_i64 (by omega) (by omega))) ?_
            refine op rfl (r_assignV (v := .int _ _) rfl) ?_
            refine WL_nil ?_
            refine ⟨?_, by repeat (first | with_reducible exact Out.refl _ _ | with_reducible exact Out.mix | refine Out.put rfl ?_ | refine Out.mixin rfl ?_ | exact Out.refl _ _ | exact Out.mix)⟩
            have hsi : (0 < lastR H s ∨ ((l[i].take k).any fun d => decide (d.p = s)) = true) ↔ 0 < lastR (commitR H l[i]).1 s := by
              rcases hcc with ⟨hC1, hC2⟩ | ⟨u, hC1, hC2, hC3⟩
              · have hk00 : k = 0 := Classical.byContradiction fun q => hC2 (hk0 (by omega))
                subst hk00
                rw [hC1]; simp
              · have hkk : k = l[i].length := by first | omega | exact absurd hC3 ht57
                rw [hC1, ← lastR_more hHl.1, hkk, List.take_length]
            first
              | exact ⟨l.length - (i + 1), by omega, i + 1, _, _, rfl, by omega, rfl, bool_iff hsi, hH4.ext hE4, hZ4, hX⟩
        · obtain rfl : i = l.length := by omega
          refine W_exit (blk_hit ?_)
          refine W_seq ?_
          refine W_region ?_
          refine op rfl (r_moveV (v := hp p) (by rw [← hpv]; rfl)) ?_
          refine op rfl (r_moveV (v := .string _) rfl) ?_
          refine opCv rfl (r_call Tryd.func13 Tryd.nm13 rfl) (last_spec hH' s) ?_
          rintro v6 w6 ⟨rfl, hE⟩
          replace hX := hX.trans hE
          have hH7 := hH'.ext hE
          have hlt7 := lastR_lt s hHl.1
          refine op rfl (r_gtr rfl rfl) ?_
          refine op rfl (r_moveV (v := .bool _) rfl) ?_
          refine op rfl (rb_eql rfl rfl Tryd.underlying4) ?_
          refine op_true rfl (r_moveV (v := .bool (decide _)) rfl) (by rw [decide_eq_decide]; omega) ?_
          refine opG_yes rfl rfl rfl rfl rfl (r_moveV (v := hp p) (by rw [← hpv]; rfl)) ?_
          refine opG_yes rfl rfl rfl rfl rfl (r_moveV (v := hp p) (by rw [← hpv]; rfl)) ?_
          refine opGCv_yes rfl rfl rfl rfl rfl (r_call Tryd.func15 Tryd.nm15 rfl) (head_spec hH7) ?_
          rintro v8 w8 ⟨rfl, hE⟩
          replace hX := hX.trans hE
          have hH8 := hH7.ext hE
          refine opG_yes rfl rfl rfl rfl rfl (r_moveV (v := .string _) rfl) ?_
          refine op_newSG rfl rfl rfl rfl rfl (r_buildSlice (vs := [.string _]) Tryd.underlying38 Tryd.sz9 Tryd.zero9 rfl rfl rfl) ?_
          intro w17_11 b17_11 E17_11 B17_11 L17_11
          have hG17_11 : w.heap.size ≤ b17_11 := by have := hX.size; omega
          replace hX := hX.trans E17_11
          have hH9 := hH8.ext E17_11
          refine opGCv_yes rfl rfl rfl rfl rfl (r_call Tryd.func14 Tryd.nm14 rfl) (since1_spec hH9 ((H.length : Int) - 1) B17_11 hsl) ?_
          rintro v10 w10 ⟨A10, c10, rfl, hE⟩
          replace B17_11 := Blk.ext B17_11 hE
          replace hX := hX.trans hE
          have h0 : (sinceR H ((H.length : Int) - 1) [s]).length = 0 := by
            unfold sinceR
            rw [List.filter_cons_of_neg (by simp; omega)]
            rfl
          have hH10 := hH9.ext hE
          refine opG_yes rfl rfl rfl rfl rfl (r_len_slice rfl Tryd.underlying38) ?_
          refine opG_yes rfl rfl rfl rfl rfl (r_eql rfl rfl) ?_
          refine op rfl (r_pickTV (v := .bool _) rfl rfl) ?_
          refine op_true rfl (r_moveV (v := .bool (decide _)) rfl) (by rw [h0]; rfl) ?_
          refine opG_yes rfl rfl rfl rfl rfl (r_moveV (v := hp p) (by rw [← hpv]; rfl)) ?_
          refine opG_yes rfl rfl rfl rfl rfl (r_moveV (v := .string _) rfl) ?_
          refine opGCv_yes rfl rfl rfl rfl rfl (r_call Tryd.func13 Tryd.nm13 rfl) (last_spec hH10 s) ?_
          rintro v11 w11 ⟨rfl, hE⟩
          replace B17_11 := Blk.ext B17_11 hE
          replace hX := hX.trans hE
          have hH11 := hH10.ext hE
          refine opG_yes rfl rfl rfl rfl rfl (r_moveV (v := hp p) (by rw [← hpv]; rfl)) ?_
          refine opGCv_yes rfl rfl rfl rfl rfl (r_call Tryd.func15 Tryd.nm15 rfl) (head_spec hH11) ?_
          rintro v12 w12 ⟨rfl, hE⟩
          replace B17_11 := Blk.ext B17_11 hE
          replace hX := hX.trans hE
          refine opG_yes rfl rfl rfl rfl rfl (r_leq rfl rfl) ?_
          refine op rfl (r_pickTV (v := .bool _) rfl rfl) ?_
          refine op_true rfl (r_moveV (v := .bool (decide _)) rfl) (by omega) ?_
          refine opGCv_yes rfl rfl rfl rfl rfl (r_call Tryd.func10 Tryd.nm10 rfl) (known_spec _) ?_
          rintro v13 w13 ⟨rfl, hE⟩
          replace B17_11 := Blk.ext B17_11 hE
          replace hX := hX.trans hE
          refine op rfl (r_pickTV (v := .bool _) rfl rfl) ?_
          refine op rfl (r_assignV (v := .bool _) rfl) ?_
          refine WL_nil ?_
          refine W_ret (finX_ret ?_)
          refine fin1 ?_
          exact ⟨_, rfl, by first | rfl | exact (bool_tt trivial).symm, hX⟩
theorem historyLast_row (W : World) (At : Option Addr) (ct : Nat) (t : List Fi) (hct : t.length ≤ ct) (ht : t.length ≤ big) (hT : fiT.Row W (old W) At t)
  (Al : Option Addr) (cl : Nat) (l : List (List Dl)) (hcl : l.length ≤ cl) (hl : l.length ≤ big) (hL : dlsT.Row W (old W) Al l) (s : ByteArray) (hs : s.size ≤ big) :
    Calls Tryd.prog 3 #[.slice At t.length ct, .slice Al l.length cl, .string s] W (fun e W' => ∃ v, e = .returned v ∧ v = .bool true ∧ Ext W W') := by
  obtain ⟨q, rfl⟩ : ∃ l, s = str l := ⟨s.data.toList, (str_of s).symm⟩
  exact historyLast_walk hT ht hL hl hs
end Go.Proofs.YtkdcmdcdjnmkaaaDoor
