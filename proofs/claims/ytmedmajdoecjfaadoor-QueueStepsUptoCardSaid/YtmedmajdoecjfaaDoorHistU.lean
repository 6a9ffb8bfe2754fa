/-
  The walks of package history: New, Commit, Copy.
-/
import Derived.Test.YtmedmajdoecjfaaDoorFacts
import Derived.Test.YtmedmajdoecjfaaDoorHistV
namespace Go.Proofs.YtmedmajdoecjfaaDoor
open Go Go.Eng Go.RowKit Go.Proofs
set_option linter.unusedVariables false
set_option linter.unusedSimpArgs false
set_option maxHeartbeats 2000000

abbrev since (w w' : World) : Nat → Prop := fun b => w.heap.size ≤ b ∧ b < w'.heap.size
theorem rev_mk {w : World} {F : Nat → Prop} {r : Rv} {Ad At : Option Addr} {cd ct : Nat} (h1 : r.d.length ≤ cd) (h2 : r.d.length ≤ 140737488355328) (h3 : dlT.Row w F Ad r.d) (h4 : r.t.length ≤ ct) (h5 : r.t.length ≤ 140737488355328) (h6 : fiT.Row w F At r.t) : revT.R w F r [.slice Ad r.d.length cd, .slice At r.t.length ct] :=
  ⟨_, _, rfl, ⟨Ad, cd, rfl, h1, h2, h3⟩, At, ct, rfl, h4, h5, h6⟩
theorem new_spec {A : Option Addr} {cap : Nat} {t : Tree} {w : World} {G : Nat → Prop} (hG : ∀ b, G b → b < w.heap.size) (hrow : fiT.Row w G A t) (hl : t.length * 40 ≤ 140737488355328) :
    Calls Tryd.prog 13 #[.slice A t.length cap] w (fun en w' => ∃ v, en = .returned v ∧ Ext w w' ∧ ((rightT t ∧ ∃ p, v = .tuple #[hp p, .int .i64 0] ∧ Hist p (since w w') w' [⟨[], t⟩]) ∨ (¬ rightT t ∧ v = .tuple #[.pointer none, .int .i64 2]))) := by
  have hr1 : ∀ W, Ext w W → Calls Tryd.prog 43 #[.slice A t.length cap] W (fun en w' => ∃ v, en = .returned v ∧ v = .bool (decide (rightT t)) ∧ Ext W w') := fun W he => treeRight_spec (G := G) (fun b hb => Nat.lt_of_lt_of_le (hG b hb) he.size) (hrow.keep (fun b hb => he.block b (hG b hb)) (fun _ h => h)) hl
  have hap : rightT t → ∀ W, Ext w W → Calls Tryd.prog 44 #[.slice A t.length cap, .slice none 0 0] W (fun en w' => ∃ v, en = .returned v ∧ ∃ v1, v = .tuple #[v1, .int .i64 0] ∧ OwnT W w' v1 t ∧ Ext W w') := fun hr W he => by
    have hlt := hr.1; have := apply_spec (cap := cap) (Ad := none) (cd := 0) (ds := []) (w := W) (G := G) (fun b hb => Nat.lt_of_lt_of_le (hG b hb) he.size) (hrow.keep (fun b hb => he.block b (hG b hb)) (fun _ h => h)) (Or.inl rfl) (by simp; omega)
    rw [apply_nil hr] at this
    exact this
  refine calls' (n := 20) (rs := #[.tmp 2, .tmp 3]) (l := [.slice A t.length cap]) Tryd.func13 rfl rfl rfl rfl rfl ?_; have hX := Ext.refl w; refine W_seq ?_; refine W_region ?_; refine op rfl (r_assignV (v := .pointer _) rfl) ?_; refine op rfl (r_assignV (v := .int _ _) rfl) ?_; refine WL_nil ?_; refine W_seq ?_; refine W_seq ?_; refine W_region ?_; refine op rfl (r_moveV (v := .slice _ _ _) rfl) ?_; refine opCv rfl (r_call Tryd.func43 Tryd.nm43 rfl) (hr1 _ hX) ?_; rintro v w2 ⟨rfl, hE⟩; replace hX := hX.trans hE; refine op rfl (r_notP rfl) ?_; refine WL_nil ?_; refine W_ifp rfl (fun ht8 => ?_) (fun ht8 => ?_)
  · refine W_seq ?_; refine W_region ?_; refine op rfl (r_assignV (v := .pointer _) rfl) ?_; refine op rfl (r_assignV (v := .int _ _) rfl) ?_; refine WL_nil ?_; refine W_ret (finX_ret ?_); refine fin2 ?_; exact ⟨_, rfl, hX, Or.inr ⟨ht8, rfl⟩⟩
  · refine W_skip ?_; refine W_seq ?_; refine W_region ?_; refine op rfl (r_moveV (v := .slice _ _ _) rfl) ?_; have hXl := hX.size; refine opCv rfl (r_call Tryd.func44 Tryd.nm44 rfl) (hap (Classical.not_not.1 ht8) _ hX) ?_; rintro v5 w5 ⟨v6, rfl, hO, hE⟩; replace hX := hX.trans hE; replace hO := OwnT.low hO hXl; obtain ⟨A1, cap1, rfl, hc1, hr5⟩ := hO.rd; refine op rfl (r_moveV (v := .tuple #[.slice A1 t.length cap1, .int .i64 0]) rfl) ?_; refine op rfl (r_extract (vs := [.slice A1 t.length cap1, .int .i64 0]) rfl rfl) ?_; refine op rfl (r_extract (vs := [.slice A1 t.length cap1, .int .i64 0]) rfl rfl) ?_; refine op rfl (r_assignV (v := .slice A1 t.length cap1) rfl) ?_; refine op rfl (r_assignV (v := .int .i64 0) rfl) ?_; refine WL_nil ?_; refine W_seq ?_; refine W_region ?_; refine op rfl (r_moveV (v := .slice A1 t.length cap1) rfl) ?_; refine op rfl (r_build (cs := [.slice none 0 0, .slice A1 t.length cap1]) Tryd.lay101 (by intro q hq; rw [List.mem_singleton.1 hq]; rfl) rfl rfl) ?_; refine op_newS rfl (r_buildRows (vs := [[.slice none 0 0, .slice A1 t.length cap1]]) Tryd.underlying102 Tryd.sz101 Tryd.zero101 rfl rfl rfl) ?_; intro w6 b6 E6 B6 L6; refine op_makeMapK .string rfl ?_; intro w7 m E7 M7 L7; have B7 := Blk.ext B6 E7; refine op rfl (r_build (cs := [.slice (some ⟨b6, 0, none⟩) 1 1, .map (some m)]) Tryd.lay105 (fun q hq => by rcases List.mem_cons.1 hq with rfl | hq <;> first | rfl | (rw [List.mem_singleton.1 hq]; rfl)) rfl rfl) ?_; refine op_box rfl rfl ?_; intro w8 p E8 B8 L8; refine op rfl (r_assignV (v := .pointer _) rfl) ?_; refine op rfl (r_assignV (v := .int _ _) rfl) ?_; refine WL_nil ?_; refine W_ret (finX_ret ?_); refine fin2 ?_; have hr := Classical.not_not.1 ht8; have hE68 := (E6.trans E7).trans E8; have hlt5 := hX.size; have hlt6 := E6.size; have hlt7 := E7.size; have hb6 := Blk.lt B6; have hm7 := M7.lt; have hp8 := Blk.lt B8; have hX8 : Ext w w8 := hX.trans hE68; have hrev : revT.R w8 (since w w5) ⟨[], t⟩ [.slice none 0 0, .slice A1 t.length cap1] := rev_mk (r := ⟨[], t⟩) (Nat.le_refl _) (Nat.zero_le _) (Or.inl rfl) hc1 (by have := hr.1; show t.length ≤ _; omega) (hr5.keep (fun b hb => hE68.block b hb.2) (fun _ h => h))
    have hH : HistAt p m (.slice (some ⟨b6, 0, none⟩) 1 1) (since w w5) w8 [⟨[], t⟩] := by
      refine ⟨B8, Own.of_raw (rs := [[.slice none 0 0, .slice A1 t.length cap1]]) (F' := nobody) (Own.mkCells (Nat.zero_le _) (Blk.ext B7 E8) rfl (Nat.le_refl _) rfl ?_ rfl) ⟨hrev, trivial⟩, ⟨_, M7.ext E8, fun s => rfl⟩, ?_, ?_, ?_, by simp, by simp⟩
      · intro r hr; rw [List.mem_singleton.1 hr]; exact ⟨rfl, fun u hu => by rcases List.mem_cons.1 hu with rfl | hu <;> first | rfl | (rw [List.mem_singleton.1 hu]; rfl)⟩
      · intro q; simp only [Value.ownBlock, Option.some.injEq] at q; omega
      · intro b hb; refine ⟨by have := hb.2; omega, by have := hb.2; omega, by have := hb.2; omega, fun q => ?_⟩
        simp only [Value.ownBlock, Option.some.injEq] at q
        have := hb.2; omega
      · intro r hr'; rw [List.mem_singleton.1 hr']; exact ⟨hr, by simp⟩
    refine ⟨_, rfl, hX8, Or.inl ⟨hr, p, rfl, m, _, _, hH, fun b hb => ⟨?_, hH.lt b hb⟩⟩⟩
    rcases hb with rfl | rfl | q | q
    · omega
    · omega
    · simp only [Value.ownBlock, Option.some.injEq] at q; omega
    · exact q.1
theorem headRaw_spec {p m n cap : Nat} {A : Option Addr} {w : World} (hbp : Blk w p #[.slice A n cap, .map (some m)] 105) (h1 : 1 ≤ n) (h2 : n ≤ 100002) :
    Calls Tryd.prog 17 #[hp p] w (fun en w' => ∃ v, en = .returned v ∧ v = .int .i64 ((n - 1 : Nat) : Int) ∧ Ext w w') := by
  refine calls' (n := 11) (rs := #[.tmp 2]) (l := [hp p]) Tryd.func17 rfl rfl rfl rfl rfl ?_; have hX := Ext.refl w; refine W_seq ?_; refine W_region ?_; refine op rfl (r_assignV (v := .int _ _) rfl) ?_; refine WL_nil ?_; refine W_seq ?_; refine W_seq ?_; refine W_region ?_; refine op rfl (r_moveV (v := .pointer _) rfl) ?_; refine op rfl (rp_eql rfl rfl Tryd.underlying28) ?_; refine WL_nil ?_; refine W_ifp rfl (fun ht4 => ?_) (fun ht4 => ?_)
  · exact ht4.elim
  · refine W_skip ?_; refine W_seq ?_; refine W_region ?_; refine op rfl (r_moveV (v := .pointer _) rfl) ?_; refine op rfl (r_nilCheck rfl) ?_; refine op rfl (r_fieldAddr rfl Tryd.fld105_0 rfl) ?_; refine op rfl (r_load (v := .slice A n cap) rfl Tryd.underlying102 rfl (Blk.cell hbp rfl)) ?_; refine op rfl (r_len_slice rfl Tryd.underlying102) ?_; refine op rfl (r_sub' (r := ((n - 1 : Nat) : Int)) rfl rfl (by rw [wrap_i64 (by omega) (by omega)]; omega)) ?_; refine op rfl (r_assignV (v := .int _ _) rfl) ?_; refine WL_nil ?_; refine W_ret (finX_ret ?_); refine fin1 ?_; exact ⟨_, rfl, rfl, hX⟩
def headT (H : List Rv) : Tree := (getR H ((H.length : Int) - 1)).t
noncomputable def commitR (H : List Rv) (ds : List Dl) : List Rv × Int × Int :=
  if ds = [] then (H, 0, 2) else if 100001 ≤ H.length then (H, 0, 3) else if (applyT (headT H) ds).1 ≠ 0 then (H, 0, (applyT (headT H) ds).1) else (H ++ [⟨ds, (applyT (headT H) ds).2⟩], H.length, 0)
theorem c_nil {H : List Rv} {ds : List Dl} (h : ds.length = 0) : commitR H ds = (H, 0, 2) := by unfold commitR; rw [if_pos (List.length_eq_zero_iff.1 h)]
theorem c_full {H : List Rv} {ds : List Dl} (h : ¬ ds.length = 0) (h2 : 100001 ≤ H.length) : commitR H ds = (H, 0, 3) := by unfold commitR; rw [if_neg (fun q => h (by rw [q]; rfl)), if_pos h2]
theorem c_err {H : List Rv} {ds : List Dl} (h : ¬ ds.length = 0) (h2 : ¬ 100001 ≤ H.length) (h3 : (applyT (headT H) ds).1 ≠ 0) : commitR H ds = (H, 0, (applyT (headT H) ds).1) := by unfold commitR; rw [if_neg (fun q => h (by rw [q]; rfl)), if_neg h2, if_pos h3]
theorem c_ok {H : List Rv} {ds : List Dl} (h : ¬ ds.length = 0) (h2 : ¬ 100001 ≤ H.length) (h3 : (applyT (headT H) ds).1 = 0) : commitR H ds = (H ++ [⟨ds, (applyT (headT H) ds).2⟩], (H.length : Int), 0) := by unfold commitR; rw [if_neg (fun q => h (by rw [q]; rfl)), if_neg h2, if_neg (fun q => q h3)]
theorem apply_right {t u : Tree} {ds : List Dl} (h : applyT t ds = (0, u)) : rightT u := by
  unfold applyT at h
  split at h
  · rename_i q; simp only [Prod.mk.injEq] at h; exact absurd h.1 q
  · split at h
    · simp at h
    · split at h
      · simp at h
      · rename_i q
        simp only [Prod.mk.injEq, true_and] at h
        rw [← h]; exact Classical.not_not.1 q
theorem commit_spec {p : Nat} {Z : Nat → Prop} {w : World} {H : List Rv} (hH : Hist p Z w H) {Ad : Option Addr} {cd : Nat} {ds : List Dl} {G : Nat → Prop} (hG : ∀ b, G b → b < w.heap.size ∧ ¬ Z b) (hdrow0 : dlT.Row w G Ad ds) (hdl : ds.length * 48 ≤ 140737488355328) :
    Calls Tryd.prog 22 #[hp p, .slice Ad ds.length cd] w (fun en w' => ∃ v, en = .returned v ∧ v = .tuple #[.int .i64 (commitR H ds).2.1, .int .i64 (commitR H ds).2.2] ∧ Hist p (fun b => Z b ∨ since w w' b) w' (commitR H ds).1 ∧ Mv Z w w') := by
  have hdrow : dlT.Row w (old w) Ad ds := hdrow0.keep (fun _ _ => rfl) (fun b hb => (hG b hb).1)
  have hdat : ∀ W, Mv Z w W → ∀ i (hi : i < ds.length), ∃ g off Ai ci, Ad = some ⟨g, off, none⟩ ∧ ∀ j, j < 3 → W.cell? ⟨g, off + i * 3 + j, none⟩ = [Value.int .i64 ds[i].k, .string (str ds[i].p), .slice Ai ds[i].b.length ci][j]? := fun W hM i hi => by
    obtain ⟨g, off, xs, hA, _, hx, hcell⟩ := (hdrow0.keep (fun b hb => hM.block b (hG b hb).1 (hG b hb).2) (fun _ h => h) : dlT.Row W G Ad ds).cells hi; obtain ⟨Ai, ci, rfl, -⟩ := dl_cells hx; exact ⟨g, off, Ai, ci, hA, hcell⟩
  have hH0 := hH; obtain ⟨m, v, F, h, hZ⟩ := hH; have hlt := h.lt; obtain ⟨A, cap, rfl, hc, hrow⟩ := h.own.read; have hrow' : revT.Row w (old w) A H := hrow.keep (fun _ _ => rfl) (fun b hb => hb.elim (fun q => hlt b (Or.inr (Or.inr (Or.inr q)))) (fun q => hlt b (Or.inr (Or.inr (Or.inl q))))); have hbp := h.bp; obtain ⟨f, hmf, hlf⟩ := h.map; have hne : 1 ≤ H.length := List.length_pos_iff.2 h.ne; have hsm := h.sm
  have hun : ∀ W, Ext w W → Hist p (fun b => Z b ∨ since w W b) W H ∧ Mv Z w W := fun W he => ⟨by
    obtain ⟨m', v', F', h1, h2⟩ := hH0.ext he
    exact ⟨m', v', F', h1, fun b hb => Or.inl (h2 b hb)⟩, Mv.of_ext he⟩
  have hil : H.length - 1 < H.length := by omega
  have hin : inR H ((H.length : Int) - 1) := by unfold inR; omega
  have hti : ((H.length : Int) - 1).toNat = H.length - 1 := by omega
  have hgt : headT H = H[H.length - 1].t := by
    unfold headT getR
    rw [dif_pos hin]; simp only [hti]
  obtain ⟨ga, off, xs, hA, _, hx, hcell⟩ := hrow'.cells hil; obtain ⟨A0, c0, At, ct, rfl, -, hct, -, htr⟩ := rev_cells hx; have hcell' : ∀ j, j < 2 → w.cell? ⟨ga, off + (H.length - 1) * 2 + j, none⟩ = [Value.slice A0 H[H.length - 1].d.length c0, .slice At H[H.length - 1].t.length ct][j]? := hcell; have hok := h.ok _ (List.getElem_mem hil)
  have hap : ∀ W, Ext w W → Calls Tryd.prog 44 #[.slice At H[H.length - 1].t.length ct, .slice Ad ds.length cd] W (fun en w' => ∃ v, en = .returned v ∧ ∃ v1, v = .tuple #[v1, .int .i64 (applyT (headT H) ds).1] ∧ OwnT W w' v1 (applyT (headT H) ds).2 ∧ Ext W w') := fun W he => by
    have := apply_spec (cap := ct) (cd := cd) (w := W) (G := old W) (fun b hb => hb) (htr.ext he) (hdrow.ext he) (by have := hok.1.1; omega)
    rw [← hgt] at this
    rw [← hgt]; exact this
  have hde : ∀ W, Ext w W → Calls Tryd.prog 51 #[.slice Ad ds.length cd] W (fun en w' => ∃ v, en = .returned v ∧ OwnD W w' v ds ∧ Ext W w') := fun W he =>
    deltas_spec (cap := cd) (w := W) (G := old W) (fun b hb => hb) (hdrow.ext he) hdl
  refine calls' (n := 69) (rs := #[.tmp 4, .tmp 5]) (l := [hp p, .slice Ad ds.length cd]) Tryd.func22 rfl rfl rfl rfl rfl ?_; have hX := Ext.refl w; refine W_seq ?_; refine W_region ?_; refine op rfl (r_assignV (v := .int _ _) rfl) ?_; refine op rfl (r_assignV (v := .int _ _) rfl) ?_; refine WL_nil ?_; refine W_seq ?_; refine W_block ?_; refine W_seq ?_; refine W_region ?_; refine op rfl (r_moveV (v := .pointer _) rfl) ?_; refine op rfl (rp_eql rfl rfl Tryd.underlying28) ?_; refine op rfl (r_assignV (v := .bool _) rfl) ?_; refine WL_nil ?_; refine W_ifp rfl (fun ht10 => ?_) (fun ht10 => ?_)
  · exact ht10.elim
  · refine W_seq ?_; refine W_region ?_; refine op rfl (r_moveV (v := .slice _ _ _) rfl) ?_; refine op rfl (r_len_slice rfl Tryd.underlying39) ?_; refine op rfl (r_eql rfl rfl) ?_; refine op rfl (r_assignV (v := .bool _) rfl) ?_; refine WL_nil ?_; refine W_ifp rfl (fun ht13 => ?_) (fun ht13 => ?_)
    · refine W_seq ?_; refine W_region ?_; refine op rfl (r_assignV (v := .int _ _) rfl) ?_; refine op rfl (r_assignV (v := .int _ _) rfl) ?_; refine WL_nil ?_; refine W_ret (blk_ret (finX_ret ?_)); refine fin2 ?_
      first
        | (rw [c_nil (by omega)]; exact ⟨_, rfl, rfl, hun _ hX⟩)
        | (rw [c_full (by omega) (by omega)]; exact ⟨_, rfl, rfl, hun _ hX⟩)
        | (rw [c_err (by omega) (by omega) ht36]; exact ⟨_, rfl, rfl, hun _ hX⟩)
        | (have hM9 : Mv Z w w9 := hMw.trans (Mv.of_ext hE)
           rw [c_ok (by omega) (by omega) hz0]; refine ⟨_, rfl, rfl, ⟨m, .slice A2 (H.length + 1) cap2, (fun b => F b ∨ since w w6 b), ?_, ?_⟩, hM9⟩
           · have hw9 : HistAt p m (.slice A2 (H.length + 1) cap2) (fun b => F b ∨ since w w6 b) w' (H ++ [⟨ds, (applyT (headT H) ds).2⟩]) := by
               refine ⟨hbp', hO12.keep (fun b hb => hC'.block b (hop b hb).1 (hop b hb).2.2.1) (fun _ h => h) (fun g9 hg9 => hC'.block g9 (hO12.lt hg9).2 (fun q => ?_)), ⟨f', M', fun s => ?_⟩, fun q => ?_, fun b hb => ⟨Nat.lt_of_lt_of_le (hop b hb).1 hC'.size, (hop b hb).2⟩, fun r hr => ?_, by simp, by simp; omega⟩
               · rcases hoc g9 (by rw [hel]; exact hg9) with k | k
                 · exact hmo (q ▸ k)
                 · omega
               · rw [hf' s, lastR_snoc]; rfl
               · rcases hoc p (by rw [hel]; exact q) with k | k
                 · exact h.opv k
                 · omega
               · rcases List.mem_append.1 hr with q | q
                 · exact h.ok r q
                 · rw [List.mem_singleton.1 q]; exact ⟨hru, hdl⟩
             exact hw9.keep (fun b hb => hE.block b (hw9.lt b hb))
           · rintro b (q | q | q | q)
             · exact Or.inl (hZ b (Or.inl q))
             · exact Or.inl (hZ b (Or.inr (Or.inl q)))
             · rcases hoc b (by rw [hel]; exact q) with k | k
               · exact Or.inl (hZ b (Or.inr (Or.inr (Or.inl k))))
               · refine Or.inr ⟨by omega, ?_⟩; have := (hO12.lt q).2; have := hC'.size; have := hE.size
                 omega
             · rcases q with q | q
               · exact Or.inl (hZ b (Or.inr (Or.inr (Or.inr q))))
               · have q2 := q.2; have := hC'.size; have := hE.size
                 exact Or.inr ⟨q.1, by omega⟩)
    · refine W_seq ?_; refine W_region ?_; refine op rfl (r_moveV (v := .pointer _) rfl) ?_; refine opCv rfl (r_call Tryd.func17 Tryd.nm17 rfl) (headRaw_spec hbp hne (by omega)) ?_; rintro v2 w2 ⟨rfl, hE⟩; replace hbp := Blk.ext hbp hE; replace hX := hX.trans hE; refine op rfl (r_geq rfl rfl) ?_; refine op rfl (r_assignV (v := .bool _) rfl) ?_; refine WL_nil ?_; refine W_ifp rfl (fun ht17 => ?_) (fun ht17 => ?_)
      · refine W_seq ?_; refine W_region ?_; refine op rfl (r_assignV (v := .int _ _) rfl) ?_; refine op rfl (r_assignV (v := .int _ _) rfl) ?_; refine WL_nil ?_; refine W_ret (blk_ret (finX_ret ?_)); refine fin2 ?_
        first
          | (rw [c_nil (by omega)]; exact ⟨_, rfl, rfl, hun _ hX⟩)
          | (rw [c_full (by omega) (by omega)]; exact ⟨_, rfl, rfl, hun _ hX⟩)
          | (rw [c_err (by omega) (by omega) ht36]; exact ⟨_, rfl, rfl, hun _ hX⟩)
          | (have hM9 : Mv Z w w9 := hMw.trans (Mv.of_ext hE)
             rw [c_ok (by omega) (by omega) hz0]; refine ⟨_, rfl, rfl, ⟨m, .slice A2 (H.length + 1) cap2, (fun b => F b ∨ since w w6 b), ?_, ?_⟩, hM9⟩
             · have hw9 : HistAt p m (.slice A2 (H.length + 1) cap2) (fun b => F b ∨ since w w6 b) w' (H ++ [⟨ds, (applyT (headT H) ds).2⟩]) := by
                 refine ⟨hbp', hO12.keep (fun b hb => hC'.block b (hop b hb).1 (hop b hb).2.2.1) (fun _ h => h) (fun g9 hg9 => hC'.block g9 (hO12.lt hg9).2 (fun q => ?_)), ⟨f', M', fun s => ?_⟩, fun q => ?_, fun b hb => ⟨Nat.lt_of_lt_of_le (hop b hb).1 hC'.size, (hop b hb).2⟩, fun r hr => ?_, by simp, by simp; omega⟩
                 · rcases hoc g9 (by rw [hel]; exact hg9) with k | k
                   · exact hmo (q ▸ k)
                   · omega
                 · rw [hf' s, lastR_snoc]; rfl
                 · rcases hoc p (by rw [hel]; exact q) with k | k
                   · exact h.opv k
                   · omega
                 · rcases List.mem_append.1 hr with q | q
                   · exact h.ok r q
                   · rw [List.mem_singleton.1 q]; exact ⟨hru, hdl⟩
               exact hw9.keep (fun b hb => hE.block b (hw9.lt b hb))
             · rintro b (q | q | q | q)
               · exact Or.inl (hZ b (Or.inl q))
               · exact Or.inl (hZ b (Or.inr (Or.inl q)))
               · rcases hoc b (by rw [hel]; exact q) with k | k
                 · exact Or.inl (hZ b (Or.inr (Or.inr (Or.inl k))))
                 · refine Or.inr ⟨by omega, ?_⟩; have := (hO12.lt q).2; have := hC'.size; have := hE.size
                   omega
               · rcases q with q | q
                 · exact Or.inl (hZ b (Or.inr (Or.inr (Or.inr q))))
                 · have q2 := q.2; have := hC'.size; have := hE.size
                   exact Or.inr ⟨q.1, by omega⟩)
      · refine W_skip ?_; refine W_seq ?_; refine W_drawF (W0 := w) (fun b : Nat => b = p ∨ False) Tryd.wd rfl ?_; intro wd7 hD; replace hbp := Blk.ext hbp hD; replace hX := hX.trans hD; have Dhbp := hbp; have hS : Ext w wd7 ∧ Same (fun b : Nat => b = p ∨ False) wd7 wd7 := ⟨hX, fun _ _ => rfl⟩; refine A_take (i := 0) rfl (by kernel_rfl) (by kernel_rfl) (by kernel_rfl) rfl hS (fun _ hw => r_moveV (v := .pointer _) rfl) ?_; refine A_take (i := 1) rfl (by kernel_rfl) (by kernel_rfl) (by kernel_rfl) rfl hS (fun _ hw => r_nilCheck rfl) ?_; refine A_take (i := 2) rfl (by kernel_rfl) (by kernel_rfl) (by kernel_rfl) rfl hS (fun _ hw => r_fieldAddr rfl Tryd.fld105_0 rfl) ?_; refine A_take (i := 3) rfl (by kernel_rfl) (by kernel_rfl) (by kernel_rfl) rfl hS (fun _ hw => r_load (v := .slice A H.length cap) rfl Tryd.underlying102 rfl (Blk.cell (Blk.at Dhbp (hw.2 _ (Or.inl rfl))) rfl)) ?_; refine A_take (i := 4) rfl (by kernel_rfl) (by kernel_rfl) (by kernel_rfl) rfl hS (fun _ hw => r_moveV (v := .pointer _) rfl) ?_; refine A_take (i := 9) rfl (by kernel_rfl) (by kernel_rfl) (by kernel_rfl) rfl hS (fun _ hw => r_moveV (v := .slice _ _ _) rfl) ?_; refine A_ready1 (i := 5) (by kernel_rfl) ?_; refine O_call rfl rfl (r_call Tryd.func17 Tryd.nm17 rfl) (headRaw_spec hbp hne (by omega)) ?_; rintro v3 w3 ⟨rfl, hE⟩; replace hbp := Blk.ext hbp hE; replace hX := hX.trans hE; replace hS : Ext w w3 ∧ Same (fun b : Nat => b = p ∨ False) wd7 w3 := ⟨hX, fun b hb => Or.elim hb (fun q => by subst q; exact Blk.eq hbp Dhbp) (fun hb => hb.elim)⟩; refine ⟨hS, ?_⟩; refine A_take (i := 6) rfl (by kernel_rfl) (by kernel_rfl) (by kernel_rfl) rfl hS (fun _ hw => r_indexAddrK (i := H.length - 1) (by rw [← hA]; rfl) rfl Tryd.underlying102 Tryd.sz101 hil) ?_; refine A_take (i := 7) rfl (by kernel_rfl) (by kernel_rfl) (by kernel_rfl) rfl hS (fun _ hw => r_fieldAddr rfl Tryd.fld101_1 rfl) ?_; refine A_take (i := 8) rfl (by kernel_rfl) (by kernel_rfl) (by kernel_rfl) rfl hS (fun _ hw => r_load (v := .slice At H[H.length - 1].t.length ct) rfl Tryd.underlying23 rfl (ext_cell hw.1 (hcell' 1 (by omega)))) ?_; refine A_ready1 (i := 10) (by kernel_rfl) ?_; have hXl := hX.size; refine O_call rfl rfl (r_call Tryd.func44 Tryd.nm44 rfl) (hap _ hX) ?_; rintro v4 w4 ⟨v5, rfl, hO, hE⟩; replace hbp := Blk.ext hbp hE; replace hX := hX.trans hE; replace hS : Ext w w4 ∧ Same (fun b : Nat => b = p ∨ False) wd7 w4 := ⟨hX, fun b hb => Or.elim hb (fun q => by subst q; exact Blk.eq hbp Dhbp) (fun hb => hb.elim)⟩; refine ⟨hS, ?_⟩; replace hO := OwnT.low hO hXl; obtain ⟨A5, c5, rfl, hc5, hr5⟩ := hO.rd; have hX5 := hX; refine A_take (i := 11) rfl (by kernel_rfl) (by kernel_rfl) (by kernel_rfl) rfl hS (fun _ hw => r_moveV (v := .tuple #[.slice A5 (applyT (headT H) ds).2.length c5, .int .i64 (applyT (headT H) ds).1]) rfl) ?_; refine A_take (i := 12) rfl (by kernel_rfl) (by kernel_rfl) (by kernel_rfl) rfl hS (fun _ hw => r_extract (vs := [.slice A5 (applyT (headT H) ds).2.length c5, .int .i64 (applyT (headT H) ds).1]) rfl rfl) ?_; refine A_take (i := 13) rfl (by kernel_rfl) (by kernel_rfl) (by kernel_rfl) rfl hS (fun _ hw => r_extract (vs := [.slice A5 (applyT (headT H) ds).2.length c5, .int .i64 (applyT (headT H) ds).1]) rfl rfl) ?_; refine A_take (i := 14) rfl (by kernel_rfl) (by kernel_rfl) (by kernel_rfl) rfl hS (fun _ hw => r_assignV (v := .slice A5 (applyT (headT H) ds).2.length c5) rfl) ?_; refine A_take (i := 15) rfl (by kernel_rfl) (by kernel_rfl) (by kernel_rfl) rfl hS (fun _ hw => r_assignV (v := .int .i64 (applyT (headT H) ds).1) rfl) ?_; refine A_done (by kernel_rfl) ?_; refine W_seq ?_; refine W_seq ?_; refine W_region ?_; refine op rfl (r_moveV (v := .int .i64 (applyT (headT H) ds).1) rfl) ?_; refine op rfl (r_neq rfl rfl) ?_; refine WL_nil ?_; refine W_ifp rfl (fun ht36 => ?_) (fun ht36 => ?_)
        · refine W_seq ?_; refine W_region ?_; refine op rfl (r_moveV (v := .int .i64 (applyT (headT H) ds).1) rfl) ?_; refine op rfl (r_assignV (v := .int _ _) rfl) ?_; refine op rfl (r_assignV (v := .int .i64 (applyT (headT H) ds).1) rfl) ?_; refine WL_nil ?_; refine W_ret (finX_ret ?_); refine fin2 ?_
          first
            | (rw [c_nil (by omega)]; exact ⟨_, rfl, rfl, hun _ hX⟩)
            | (rw [c_full (by omega) (by omega)]; exact ⟨_, rfl, rfl, hun _ hX⟩)
            | (rw [c_err (by omega) (by omega) ht36]; exact ⟨_, rfl, rfl, hun _ hX⟩)
            | (have hM9 : Mv Z w w9 := hMw.trans (Mv.of_ext hE)
               rw [c_ok (by omega) (by omega) hz0]; refine ⟨_, rfl, rfl, ⟨m, .slice A2 (H.length + 1) cap2, (fun b => F b ∨ since w w6 b), ?_, ?_⟩, hM9⟩
               · have hw9 : HistAt p m (.slice A2 (H.length + 1) cap2) (fun b => F b ∨ since w w6 b) w' (H ++ [⟨ds, (applyT (headT H) ds).2⟩]) := by
                   refine ⟨hbp', hO12.keep (fun b hb => hC'.block b (hop b hb).1 (hop b hb).2.2.1) (fun _ h => h) (fun g9 hg9 => hC'.block g9 (hO12.lt hg9).2 (fun q => ?_)), ⟨f', M', fun s => ?_⟩, fun q => ?_, fun b hb => ⟨Nat.lt_of_lt_of_le (hop b hb).1 hC'.size, (hop b hb).2⟩, fun r hr => ?_, by simp, by simp; omega⟩
                   · rcases hoc g9 (by rw [hel]; exact hg9) with k | k
                     · exact hmo (q ▸ k)
                     · omega
                   · rw [hf' s, lastR_snoc]; rfl
                   · rcases hoc p (by rw [hel]; exact q) with k | k
                     · exact h.opv k
                     · omega
                   · rcases List.mem_append.1 hr with q | q
                     · exact h.ok r q
                     · rw [List.mem_singleton.1 q]; exact ⟨hru, hdl⟩
                 exact hw9.keep (fun b hb => hE.block b (hw9.lt b hb))
               · rintro b (q | q | q | q)
                 · exact Or.inl (hZ b (Or.inl q))
                 · exact Or.inl (hZ b (Or.inr (Or.inl q)))
                 · rcases hoc b (by rw [hel]; exact q) with k | k
                   · exact Or.inl (hZ b (Or.inr (Or.inr (Or.inl k))))
                   · refine Or.inr ⟨by omega, ?_⟩; have := (hO12.lt q).2; have := hC'.size; have := hE.size
                     omega
                 · rcases q with q | q
                   · exact Or.inl (hZ b (Or.inr (Or.inr (Or.inr q))))
                   · have q2 := q.2; have := hC'.size; have := hE.size
                     exact Or.inr ⟨q.1, by omega⟩)
        · refine W_skip ?_; refine W_seq ?_; refine W_drawA Tryd.wd rfl ?_; intro wd10 hD; have hS : anyW wd10 := trivial; replace hbp := Blk.ext hbp hD; replace hX := hX.trans hD; refine A_take (i := 0) rfl (by kernel_rfl) (by kernel_rfl) (by kernel_rfl) rfl hS (fun _ hw => r_moveV (v := .pointer _) rfl) ?_; refine A_take (i := 1) rfl (by kernel_rfl) (by kernel_rfl) (by kernel_rfl) rfl hS (fun _ hw => r_moveV (v := .pointer _) rfl) ?_; refine A_take (i := 2) rfl (by kernel_rfl) (by kernel_rfl) (by kernel_rfl) rfl hS (fun _ hw => r_nilCheck rfl) ?_; refine A_take (i := 3) rfl (by kernel_rfl) (by kernel_rfl) (by kernel_rfl) rfl hS (fun _ hw => r_fieldAddr rfl Tryd.fld105_0 rfl) ?_; refine A_take (i := 5) rfl (by kernel_rfl) (by kernel_rfl) (by kernel_rfl) rfl hS (fun _ hw => r_moveV (v := .slice _ _ _) rfl) ?_; refine A_take (i := 8) rfl (by kernel_rfl) (by kernel_rfl) (by kernel_rfl) rfl hS (fun _ hw => r_moveV (v := .slice A5 (applyT (headT H) ds).2.length c5) rfl) ?_; refine A_ready2 (i := 4) (j := 6) (by kernel_rfl) ?_ ?_
          · refine O_val rfl rfl (r_load (v := .slice A H.length cap) rfl Tryd.underlying102 rfl (Blk.cell (by first | exact hbp | exact Blk.ext hbp E10) rfl)) (hS) ?_; refine A_ready1 (i := 6) (by kernel_rfl) ?_; have hXl6 := hX.size; refine O_call rfl rfl (r_call Tryd.func51 Tryd.nm51 rfl) (hde _ hX) ?_; rintro v6 w6 ⟨hO6, hE⟩; replace hS := trivial; refine ⟨hS, ?_⟩; replace hbp := Blk.ext hbp hE; replace hX := hX.trans hE; obtain ⟨A6, c6, rfl, hc6, hr6⟩ := hO6.rd; have hE6 := hE; refine A_take (i := 7) rfl (by kernel_rfl) (by kernel_rfl) (by kernel_rfl) rfl hS (fun _ hw => r_build (cs := [.slice A6 ds.length c6]) Tryd.lay99 (by intro q hq; rw [List.mem_singleton.1 hq]; rfl) rfl rfl) ?_; refine A_take (i := 9) rfl (by kernel_rfl) (by kernel_rfl) (by kernel_rfl) rfl hS (fun _ hw => r_build1 cellOf (cs := [.slice A6 ds.length c6, .slice A5 (applyT (headT H) ds).2.length c5]) Tryd.lay101 (fun q hq => by rcases List.mem_cons.1 hq with rfl | hq <;> first | rfl | (rw [List.mem_singleton.1 hq]; rfl)) rfl rfl) ?_; refine A_ready1 (i := 10) (by kernel_rfl) ?_; refine O_newS rfl rfl (r_buildRows (vs := [[.slice A6 ds.length c6, .slice A5 (applyT (headT H) ds).2.length c5]]) Tryd.underlying102 Tryd.sz101 Tryd.zero101 rfl rfl rfl) ?_; intro w10 b10 E10 B10 L10; refine ⟨trivial, ?_⟩; refine A_ready1 (i := 11) (by kernel_rfl) ?_; have hX10 := hX.trans E10; have hs6 := hX.size; have hs10 := E10.size; have hs5 := hX5.size; have hs46 := (hD.trans hE6).size; have hE46 := (hD.trans hE6).trans E10; have hz0 : (applyT (headT H) ds).1 = 0 := Classical.not_not.1 ht36; have hru : rightT (applyT (headT H) ds).2 := apply_right (ds := ds) (t := headT H) (Prod.ext hz0 rfl)
            have hnew : revT.R w10 (fun b => F b ∨ since w w6 b) ⟨ds, (applyT (headT H) ds).2⟩ [.slice A6 ds.length c6, .slice A5 (applyT (headT H) ds).2.length c5] := by
              refine rev_mk (r := ⟨ds, (applyT (headT H) ds).2⟩) hc6 (by show ds.length ≤ _; omega) (hr6.keep (fun b hb => E10.block b hb.2) (fun b hb => Or.inr ⟨by have := hb.1; omega, hb.2⟩)) hc5 (by have := hru.1; show (applyT (headT H) ds).2.length ≤ _; omega) (hr5.keep (fun b hb => hE46.block b hb.2) (fun b hb => Or.inr ⟨hb.1, by have := hb.2; omega⟩))
            have hown : Eng.Own revT w10 (fun b => F b ∨ since w w6 b) 0 101 (.slice A H.length cap) H := h.own.keep (fun b hb => hX10.block b (h.F1 b hb).1) (fun b hb => Or.inl hb) (fun g hg => hX10.block g (h.own.lt hg).2)
            have hF2 : ∀ b, (F b ∨ since w w6 b) → b < w10.heap.size ∧ (Value.slice A H.length cap).ownBlock ≠ some b := fun b hb => hb.elim (fun q => ⟨by have := (h.F1 b q).1; omega, (h.F1 b q).2.2.2⟩) (fun q => ⟨by have := q.2; omega, fun k => by have := (h.own.lt k).2; have := q.1; omega⟩)
            refine O_append (T := revT) (F := fun b => F b ∨ since w w6 b) (l := H) (m := [⟨ds, (applyT (headT H) ds).2⟩]) rfl rfl rfl rfl Tryd.underlying102 Tryd.sz101 Tryd.by101 Tryd.zero101 rfl hown (Src.blk B10 hnew) hF2 (by simp only [List.length_singleton]; omega) (by simp only [List.length_singleton]; omega) (Nat.zero_le _) ?_; intro v11 w11 hO11 hG11 hv11; refine ⟨trivial, ?_⟩; obtain ⟨A2, cap2, rfl, hc2, -⟩ := hO11.read; refine A_take (i := 12) rfl (by kernel_rfl) (by kernel_rfl) (by kernel_rfl) rfl hS (fun _ hw => r_nilCheck rfl) ?_; refine A_take (i := 13) rfl (by kernel_rfl) (by kernel_rfl) (by kernel_rfl) rfl hS (fun _ hw => r_fieldAddr rfl Tryd.fld105_0 rfl) ?_; refine A_ready1 (i := 14) (by kernel_rfl) ?_
            have hel : (H ++ [(⟨ds, (applyT (headT H) ds).2⟩ : Rv)]).length = H.length + 1 := by simp
            have hbp10 := Blk.ext hbp E10; have hp0 : p < w.heap.size := Blk.lt h.bp; have hm0 : m < w.heap.size := hmf.lt
            have hmo : (Value.slice A H.length cap).ownBlock ≠ some m := fun q => by
              rcases h.own with ⟨hv, _⟩ | ⟨g9, _, _, _, hv, _, hb9, _⟩
              · rw [hv] at q; cases q
              · rw [hv] at q
                simp only [Value.ownBlock, Option.some.injEq] at q
                exact hmf.ne_cells hb9 q.symm
            have hmp : m ≠ p := hmf.ne_cells h.bp
            have hbp11 : Blk w11 p #[.slice A H.length cap, .map (some m)] 105 := hbp10.at (hG11.block p (Blk.lt hbp10) (fun q => h.opv q))
            refine O_store (v := .slice A2 (H ++ [(⟨ds, (applyT (headT H) ds).2⟩ : Rv)]).length cap2) rfl rfl rfl rfl Tryd.sz102 hbp11 (Nat.le_of_ble_eq_true rfl) ?_; intro w12 C12 hbp12; refine ⟨trivial, ?_⟩; have M12 : MapAt .string w12 m f := ((hmf.ext hX10).at (hG11.block m (by omega) (fun q => hmo q))).chg C12 hmp; have hMv : Mv Z w w12 := ((Mv.of_ext hX10).trans ⟨hG11.os, hG11.tape, hG11.output, hG11.size, fun k hk hn => hG11.block k hk (fun q => hn (hZ k (Or.inr (Or.inr (Or.inl q)))))⟩).trans (Mv.of_chg C12 (hZ p (Or.inl rfl))); have hs11 := hG11.size; have hs12 := C12.size
            have hoc : ∀ k, (Value.slice A2 (H ++ [(⟨ds, (applyT (headT H) ds).2⟩ : Rv)]).length cap2).ownBlock = some k → (Value.slice A H.length cap).ownBlock = some k ∨ w10.heap.size ≤ k := fun k hk => by
              rcases hv11 with q | ⟨g9, q, hg9⟩
              · exact Or.inl (q.symm.trans hk)
              · rw [q] at hk; simp only [Option.some.injEq] at hk; exact Or.inr (by omega)
            have hop : ∀ b, (F b ∨ since w w6 b) → b < w12.heap.size ∧ b ≠ p ∧ b ≠ m ∧ (Value.slice A2 (H ++ [(⟨ds, (applyT (headT H) ds).2⟩ : Rv)]).length cap2).ownBlock ≠ some b := fun b hb => by
              rcases hb with q | q
              · obtain ⟨q1, q2, q3, q4⟩ := h.F1 b q; exact ⟨by omega, q2, q3, fun k => (hoc b k).elim (fun k => q4 k) (fun k => by omega)⟩
              · have q1 := q.1; have q2 := q.2; exact ⟨by omega, by omega, by omega, fun k => (hoc b k).elim (fun k => by have := (h.own.lt k).2; omega) (fun k => by omega)⟩
            have hF11 : ∀ b, (F b ∨ since w w6 b) → b < w11.heap.size := fun b hb => by
              have := (hF2 b hb).1; omega
            have hO12 := hO11.keep (w' := w12) (F' := fun b => F b ∨ since w w6 b) (fun b hb => C12.block b (hF11 b hb) (hop b hb).2.1) (fun _ h => h) (fun g9 hg9 => C12.block g9 (hO11.lt hg9).2 (fun q => by
              rcases hoc g9 hg9 with k | k
              · rw [q] at k; exact h.opv k
              · omega))
            clear hbp hX
            have hbp : Blk w12 p #[.slice A2 (H.length + 1) cap2, .map (some m)] 105 := by rw [← hel]; exact hbp12
            have hX := Ext.refl w12; refine A_done (by kernel_rfl) ?_; refine W_seq ?_; refine W_seq ?_; refine W_region ?_; refine op rfl (r_moveV (v := .slice _ _ _) rfl) ?_; refine op rfl (r_len_slice rfl Tryd.underlying39) ?_; refine op rfl (r_moveV (v := .int _ _) rfl) ?_; refine WL_nil ?_; refine W_block ?_; refine W_loop [9, 54, 55, 56, 57, 58, 59, 60, 61, 62, 63, 64, 65, 66] (fun q e' w' => ∃ (i : Nat) (f' : Value → Option Value), q = ds.length - i ∧ i ≤ ds.length ∧ e' 54 = .int .i64 i ∧ Blk w' p #[.slice A2 (H.length + 1) cap2, .map (some m)] 105 ∧ MapAt .string w' m f' ∧ (∀ s, (f' (.string (str s))).getD (.int .i64 0) = .int .i64 ((if (ds.take i).any (fun d => decide (d.p = s)) then H.length else lastR H s : Nat) : Int)) ∧ Chg m w12 w') (ds.length) ?_ ?_
            · exact ⟨0, f, by omega, by omega, rfl, hbp, M12, fun s => by simpa using hlf s, Chg.of_ext (Ext.refl _)⟩
            intro k g w' hI; obtain ⟨i, f', hq, hi, h54, hbp', M', hf', hC'⟩ := hI; clear hX hbp M12; have hbp := hbp'; have hX := Ext.refl w'; have hMw : Mv Z w w' := hMv.trans (Mv.of_chg hC' (hZ m (Or.inr (Or.inl rfl)))); refine W_set (i := 54) h54 ?_; refine W_seq ?_; refine W_region ?_; refine op rfl (r_lss rfl rfl) ?_; refine WL_nil ?_; refine W_seq ?_; refine W_ifp rfl (fun ht55 => ?_) (fun ht55 => ?_)
            · have hlt' : i < ds.length := by omega
              obtain ⟨g1, off1, Ai, ci, hA1, hcell1⟩ := hdat w' hMw i hlt'; refine W_skip ?_; refine W_seq ?_; refine W_block ?_; refine W_seq ?_; refine W_region ?_; refine op rfl (r_indexAddrK (by rw [← hA1]; rfl) rfl Tryd.underlying39 Tryd.sz38 hlt') ?_; refine op rfl (r_load_agg (cs := [.int .i64 ds[i].k, .string (str ds[i].p), .slice Ai ds[i].b.length ci]) rfl Tryd.underlying38 rfl Tryd.sz38 rfl hcell1) ?_; refine op_alloc rfl Tryd.zero38 ?_; intro w13_2 b13_2 E13_2 B13_2 L13_2
              have hG13_2 : w'.heap.size ≤ b13_2 := by have := hX.size; omega
              have hNp_13_2 : p ≠ b13_2 := by have := Blk.lt hbp; omega
              replace hbp := Blk.ext hbp E13_2; replace hX := hX.trans E13_2; refine op_storeRow rfl rfl Tryd.sz38 B13_2 rfl rfl ?_; intro w13_3 C13_3 BB13_3; replace hbp := Chg.blk C13_3 hbp hNp_13_2; replace hX := hX.chg C13_3 hG13_2; replace B13_2 := BB13_3; refine WL_nil ?_; refine W_drawA Tryd.wd rfl ?_; intro wd14 hD; have hS : anyW wd14 := trivial; replace hbp := Blk.ext hbp hD; replace B13_2 := Blk.ext B13_2 hD; replace hX := hX.trans hD; refine A_take (i := 0) rfl (by kernel_rfl) (by kernel_rfl) (by kernel_rfl) rfl hS (fun _ hw => r_moveV (v := .pointer _) rfl) ?_; refine A_take (i := 1) rfl (by kernel_rfl) (by kernel_rfl) (by kernel_rfl) rfl hS (fun _ hw => r_nilCheck rfl) ?_; refine A_take (i := 2) rfl (by kernel_rfl) (by kernel_rfl) (by kernel_rfl) rfl hS (fun _ hw => r_fieldAddr rfl Tryd.fld105_1 rfl) ?_; refine A_take (i := 4) rfl (by kernel_rfl) (by kernel_rfl) (by kernel_rfl) rfl hS (fun _ hw => r_fieldAddr rfl Tryd.fld38_1 rfl) ?_; refine A_take (i := 6) rfl (by kernel_rfl) (by kernel_rfl) (by kernel_rfl) rfl hS (fun _ hw => r_moveV (v := .pointer _) rfl) ?_; refine A_ready3 (i := 3) (j := 5) (k := 7) (by kernel_rfl) ?_ ?_ ?_
              · refine O_val rfl rfl (r_load (v := .map (some m)) rfl Tryd.underlying103 rfl (Blk.cell hbp rfl)) (hS) ?_; refine A_ready2 (i := 5) (j := 7) (by kernel_rfl) ?_ ?_
                · refine O_val rfl rfl (r_load (v := .string (str ds[i].p)) rfl Tryd.underlying9 rfl (Blk.cell B13_2 rfl)) (hS) ?_; refine A_ready1 (i := 7) (by kernel_rfl) ?_; refine O_call rfl rfl (r_call Tryd.func17 Tryd.nm17 rfl) (headRaw_spec hbp (by omega) (by omega)) ?_; rintro v8 w8 ⟨rfl, hE⟩; replace hS := trivial; refine ⟨hS, ?_⟩; replace hbp := Blk.ext hbp hE; replace B13_2 := Blk.ext B13_2 hE; replace hX := hX.trans hE; refine A_ready1 (i := 8) (by kernel_rfl) ?_; have hC14 : Chg m w' _ := Chg.of_ext hX; have M14 := M'.ext hX; refine O_updateK (k := .string (str ds[i].p)) (v := .int .i64 (H.length : Nat)) rfl (by rfl) (by rfl) (by rfl) Tryd.underlying103 Tryd.underlying9 (by trivial) M14 ?_; intro w15 C15 M15; refine ⟨trivial, ?_⟩; have hbp15 := Chg.blk C15 hbp (fun q => hmp q.symm)
                  have hf15 : ∀ s, (fput f' (.string (str ds[i].p)) (.int .i64 (H.length : Nat)) (.string (str s))).getD (.int .i64 0) = .int .i64 ((if (ds.take (i + 1)).any (fun d => decide (d.p = s)) then H.length else lastR H s : Nat) : Int) := fun s => by
                    rw [List.take_succ_eq_append_getElem hlt', List.any_append]
                    by_cases hs : ds[i].p = s
                    · subst hs; rw [fput_same]
                      simp
                    · rw [fput_ne (fun q => hs (str_inj q).symm), hf' s]
                      simp [hs]
                  refine A_done (by kernel_rfl) ?_; refine W_region ?_; refine op rfl (r_add' rfl rfl (wrap_i64 (by omega) (by omega))) ?_; refine op rfl (r_moveV (v := .int _ _) rfl) ?_; refine WL_nil ?_; refine ⟨?_, by repeat (first | with_reducible exact Out.refl _ _ | with_reducible exact Out.mix | refine Out.put rfl ?_ | refine Out.mixin rfl ?_ | exact Out.refl _ _ | exact Out.mix)⟩; exact ⟨ds.length - (i + 1), by omega, i + 1, _, rfl, by omega, rfl, hbp15, M15, hf15, hC'.trans (hC14.trans C15)⟩
                · refine O_call rfl rfl (r_call Tryd.func17 Tryd.nm17 rfl) (headRaw_spec hbp (by omega) (by omega)) ?_; rintro v8 w8 ⟨rfl, hE⟩; replace hS := trivial; refine ⟨hS, ?_⟩; replace hbp := Blk.ext hbp hE; replace B13_2 := Blk.ext B13_2 hE; replace hX := hX.trans hE; refine A_ready1 (i := 5) (by kernel_rfl) ?_; refine O_val rfl rfl (r_load (v := .string (str ds[i].p)) rfl Tryd.underlying9 rfl (Blk.cell B13_2 rfl)) (hS) ?_; refine A_ready1 (i := 8) (by kernel_rfl) ?_; have hC14 : Chg m w' _ := Chg.of_ext hX; have M14 := M'.ext hX; refine O_updateK (k := .string (str ds[i].p)) (v := .int .i64 (H.length : Nat)) rfl (by rfl) (by rfl) (by rfl) Tryd.underlying103 Tryd.underlying9 (by trivial) M14 ?_; intro w15 C15 M15; refine ⟨trivial, ?_⟩; have hbp15 := Chg.blk C15 hbp (fun q => hmp q.symm)
                  have hf15 : ∀ s, (fput f' (.string (str ds[i].p)) (.int .i64 (H.length : Nat)) (.string (str s))).getD (.int .i64 0) = .int .i64 ((if (ds.take (i + 1)).any (fun d => decide (d.p = s)) then H.length else lastR H s : Nat) : Int) := fun s => by
                    rw [List.take_succ_eq_append_getElem hlt', List.any_append]
                    by_cases hs : ds[i].p = s
                    · subst hs; rw [fput_same]
                      simp
                    · rw [fput_ne (fun q => hs (str_inj q).symm), hf' s]
                      simp [hs]
                  refine A_done (by kernel_rfl) ?_; refine W_region ?_; refine op rfl (r_add' rfl rfl (wrap_i64 (by omega) (by omega))) ?_; refine op rfl (r_moveV (v := .int _ _) rfl) ?_; refine WL_nil ?_; refine ⟨?_, by repeat (first | with_reducible exact Out.refl _ _ | with_reducible exact Out.mix | refine Out.put rfl ?_ | refine Out.mixin rfl ?_ | exact Out.refl _ _ | exact Out.mix)⟩; exact ⟨ds.length - (i + 1), by omega, i + 1, _, rfl, by omega, rfl, hbp15, M15, hf15, hC'.trans (hC14.trans C15)⟩
              · refine O_val rfl rfl (r_load (v := .string (str ds[i].p)) rfl Tryd.underlying9 rfl (Blk.cell B13_2 rfl)) (hS) ?_; refine A_ready2 (i := 3) (j := 7) (by kernel_rfl) ?_ ?_
                · refine O_val rfl rfl (r_load (v := .map (some m)) rfl Tryd.underlying103 rfl (Blk.cell hbp rfl)) (hS) ?_; refine A_ready1 (i := 7) (by kernel_rfl) ?_; refine O_call rfl rfl (r_call Tryd.func17 Tryd.nm17 rfl) (headRaw_spec hbp (by omega) (by omega)) ?_; rintro v8 w8 ⟨rfl, hE⟩; replace hS := trivial; refine ⟨hS, ?_⟩; replace hbp := Blk.ext hbp hE; replace B13_2 := Blk.ext B13_2 hE; replace hX := hX.trans hE; refine A_ready1 (i := 8) (by kernel_rfl) ?_; have hC14 : Chg m w' _ := Chg.of_ext hX; have M14 := M'.ext hX; refine O_updateK (k := .string (str ds[i].p)) (v := .int .i64 (H.length : Nat)) rfl (by rfl) (by rfl) (by rfl) Tryd.underlying103 Tryd.underlying9 (by trivial) M14 ?_; intro w15 C15 M15; refine ⟨trivial, ?_⟩; have hbp15 := Chg.blk C15 hbp (fun q => hmp q.symm)
                  have hf15 : ∀ s, (fput f' (.string (str ds[i].p)) (.int .i64 (H.length : Nat)) (.string (str s))).getD (.int .i64 0) = .int .i64 ((if (ds.take (i + 1)).any (fun d => decide (d.p = s)) then H.length else lastR H s : Nat) : Int) := fun s => by
                    rw [List.take_succ_eq_append_getElem hlt', List.any_append]
                    by_cases hs : ds[i].p = s
                    · subst hs; rw [fput_same]
                      simp
                    · rw [fput_ne (fun q => hs (str_inj q).symm), hf' s]
                      simp [hs]
                  refine A_done (by kernel_rfl) ?_; refine W_region ?_; refine op rfl (r_add' rfl rfl (wrap_i64 (by omega) (by omega))) ?_; refine op rfl (r_moveV (v := .int _ _) rfl) ?_; refine WL_nil ?_; refine ⟨?_, by repeat (first | with_reducible exact Out.refl _ _ | with_reducible exact Out.mix | refine Out.put rfl ?_ | refine Out.mixin rfl ?_ | exact Out.refl _ _ | exact Out.mix)⟩; exact ⟨ds.length - (i + 1), by omega, i + 1, _, rfl, by omega, rfl, hbp15, M15, hf15, hC'.trans (hC14.trans C15)⟩
                · refine O_call rfl rfl (r_call Tryd.func17 Tryd.nm17 rfl) (headRaw_spec hbp (by omega) (by omega)) ?_; rintro v8 w8 ⟨rfl, hE⟩; replace hS := trivial; refine ⟨hS, ?_⟩; replace hbp := Blk.ext hbp hE; replace B13_2 := Blk.ext B13_2 hE; replace hX := hX.trans hE; refine A_ready1 (i := 3) (by kernel_rfl) ?_; refine O_val rfl rfl (r_load (v := .map (some m)) rfl Tryd.underlying103 rfl (Blk.cell hbp rfl)) (hS) ?_; refine A_ready1 (i := 8) (by kernel_rfl) ?_; have hC14 : Chg m w' _ := Chg.of_ext hX; have M14 := M'.ext hX; refine O_updateK (k := .string (str ds[i].p)) (v := .int .i64 (H.length : Nat)) rfl (by rfl) (by rfl) (by rfl) Tryd.underlying103 Tryd.underlying9 (by trivial) M14 ?_; intro w15 C15 M15; refine ⟨trivial, ?_⟩; have hbp15 := Chg.blk C15 hbp (fun q => hmp q.symm)
                  have hf15 : ∀ s, (fput f' (.string (str ds[i].p)) (.int .i64 (H.length : Nat)) (.string (str s))).getD (.int .i64 0) = .int .i64 ((if (ds.take (i + 1)).any (fun d => decide (d.p = s)) then H.length else lastR H s : Nat) : Int) := fun s => by
                    rw [List.take_succ_eq_append_getElem hlt', List.any_append]
                    by_cases hs : ds[i].p = s
                    · subst hs; rw [fput_same]
                      simp
                    · rw [fput_ne (fun q => hs (str_inj q).symm), hf' s]
                      simp [hs]
                  refine A_done (by kernel_rfl) ?_; refine W_region ?_; refine op rfl (r_add' rfl rfl (wrap_i64 (by omega) (by omega))) ?_; refine op rfl (r_moveV (v := .int _ _) rfl) ?_; refine WL_nil ?_; refine ⟨?_, by repeat (first | with_reducible exact Out.refl _ _ | with_reducible exact Out.mix | refine Out.put rfl ?_ | refine Out.mixin rfl ?_ | exact Out.refl _ _ | exact Out.mix)⟩; exact ⟨ds.length - (i + 1), by omega, i + 1, _, rfl, by omega, rfl, hbp15, M15, hf15, hC'.trans (hC14.trans C15)⟩
              · refine O_call rfl rfl (r_call Tryd.func17 Tryd.nm17 rfl) (headRaw_spec hbp (by omega) (by omega)) ?_; rintro v8 w8 ⟨rfl, hE⟩; replace hS := trivial; refine ⟨hS, ?_⟩; replace hbp := Blk.ext hbp hE; replace B13_2 := Blk.ext B13_2 hE; replace hX := hX.trans hE; refine A_ready2 (i := 3) (j := 5) (by kernel_rfl) ?_ ?_
                · refine O_val rfl rfl (r_load (v := .map (some m)) rfl Tryd.underlying103 rfl (Blk.cell hbp rfl)) (hS) ?_; refine A_ready1 (i := 5) (by kernel_rfl) ?_; refine O_val rfl rfl (r_load (v := .string (str ds[i].p)) rfl Tryd.underlying9 rfl (Blk.cell B13_2 rfl)) (hS) ?_; refine A_ready1 (i := 8) (by kernel_rfl) ?_; have hC14 : Chg m w' _ := Chg.of_ext hX; have M14 := M'.ext hX; refine O_updateK (k := .string (str ds[i].p)) (v := .int .i64 (H.length : Nat)) rfl (by rfl) (by rfl) (by rfl) Tryd.underlying103 Tryd.underlying9 (by trivial) M14 ?_; intro w15 C15 M15; refine ⟨trivial, ?_⟩; have hbp15 := Chg.blk C15 hbp (fun q => hmp q.symm)
                  have hf15 : ∀ s, (fput f' (.string (str ds[i].p)) (.int .i64 (H.length : Nat)) (.string (str s))).getD (.int .i64 0) = .int .i64 ((if (ds.take (i + 1)).any (fun d => decide (d.p = s)) then H.length else lastR H s : Nat) : Int) := fun s => by
                    rw [List.take_succ_eq_append_getElem hlt', List.any_append]
                    by_cases hs : ds[i].p = s
                    · subst hs; rw [fput_same]
                      simp
                    · rw [fput_ne (fun q => hs (str_inj q).symm), hf' s]
                      simp [hs]
                  refine A_done (by kernel_rfl) ?_; refine W_region ?_; refine op rfl (r_add' rfl rfl (wrap_i64 (by omega) (by omega))) ?_; refine op rfl (r_moveV (v := .int _ _) rfl) ?_; refine WL_nil ?_; refine ⟨?_, by repeat (first | with_reducible exact Out.refl _ _ | with_reducible exact Out.mix | refine Out.put rfl ?_ | refine Out.mixin rfl ?_ | exact Out.refl _ _ | exact Out.mix)⟩; exact ⟨ds.length - (i + 1), by omega, i + 1, _, rfl, by omega, rfl, hbp15, M15, hf15, hC'.trans (hC14.trans C15)⟩
                · refine O_val rfl rfl (r_load (v := .string (str ds[i].p)) rfl Tryd.underlying9 rfl (Blk.cell B13_2 rfl)) (hS) ?_; refine A_ready1 (i := 3) (by kernel_rfl) ?_; refine O_val rfl rfl (r_load (v := .map (some m)) rfl Tryd.underlying103 rfl (Blk.cell hbp rfl)) (hS) ?_; refine A_ready1 (i := 8) (by kernel_rfl) ?_; have hC14 : Chg m w' _ := Chg.of_ext hX; have M14 := M'.ext hX; refine O_updateK (k := .string (str ds[i].p)) (v := .int .i64 (H.length : Nat)) rfl (by rfl) (by rfl) (by rfl) Tryd.underlying103 Tryd.underlying9 (by trivial) M14 ?_; intro w15 C15 M15; refine ⟨trivial, ?_⟩; have hbp15 := Chg.blk C15 hbp (fun q => hmp q.symm)
                  have hf15 : ∀ s, (fput f' (.string (str ds[i].p)) (.int .i64 (H.length : Nat)) (.string (str s))).getD (.int .i64 0) = .int .i64 ((if (ds.take (i + 1)).any (fun d => decide (d.p = s)) then H.length else lastR H s : Nat) : Int) := fun s => by
                    rw [List.take_succ_eq_append_getElem hlt', List.any_append]
                    by_cases hs : ds[i].p = s
                    · subst hs; rw [fput_same]
                      simp
                    · rw [fput_ne (fun q => hs (str_inj q).symm), hf' s]
                      simp [hs]
                  refine A_done (by kernel_rfl) ?_; refine W_region ?_; refine op rfl (r_add' rfl rfl (wrap_i64 (by omega) (by omega))) ?_; refine op rfl (r_moveV (v := .int _ _) rfl) ?_; refine WL_nil ?_; refine ⟨?_, by repeat (first | with_reducible exact Out.refl _ _ | with_reducible exact Out.mix | refine Out.put rfl ?_ | refine Out.mixin rfl ?_ | exact Out.refl _ _ | exact Out.mix)⟩; exact ⟨ds.length - (i + 1), by omega, i + 1, _, rfl, by omega, rfl, hbp15, M15, hf15, hC'.trans (hC14.trans C15)⟩
            · obtain rfl : i = ds.length := by omega
              rw [List.take_length] at hf'
              rw [hel] at hO12 hop
              refine W_exit (blk_hit ?_); refine W_seq ?_; refine W_region ?_; refine op rfl (r_moveV (v := .pointer _) rfl) ?_; refine opCv rfl (r_call Tryd.func17 Tryd.nm17 rfl) (headRaw_spec hbp (by omega) (by omega)) ?_; rintro v9 w9 ⟨rfl, hE⟩; replace hbp := Blk.ext hbp hE; replace hX := hX.trans hE; refine op rfl (r_assignV (v := .int _ _) rfl) ?_; refine op rfl (r_assignV (v := .int _ _) rfl) ?_; refine WL_nil ?_; refine W_ret (finX_ret ?_); refine fin2 ?_
              first
                | (rw [c_nil (by omega)]; exact ⟨_, rfl, rfl, hun _ hX⟩)
                | (rw [c_full (by omega) (by omega)]; exact ⟨_, rfl, rfl, hun _ hX⟩)
                | (rw [c_err (by omega) (by omega) ht36]; exact ⟨_, rfl, rfl, hun _ hX⟩)
                | (have hM9 : Mv Z w w9 := hMw.trans (Mv.of_ext hE)
                   rw [c_ok (by omega) (by omega) hz0]; refine ⟨_, rfl, rfl, ⟨m, .slice A2 (H.length + 1) cap2, (fun b => F b ∨ since w w6 b), ?_, ?_⟩, hM9⟩
                   · have hw9 : HistAt p m (.slice A2 (H.length + 1) cap2) (fun b => F b ∨ since w w6 b) w' (H ++ [⟨ds, (applyT (headT H) ds).2⟩]) := by
                       refine ⟨hbp', hO12.keep (fun b hb => hC'.block b (hop b hb).1 (hop b hb).2.2.1) (fun _ h => h) (fun g9 hg9 => hC'.block g9 (hO12.lt hg9).2 (fun q => ?_)), ⟨f', M', fun s => ?_⟩, fun q => ?_, fun b hb => ⟨Nat.lt_of_lt_of_le (hop b hb).1 hC'.size, (hop b hb).2⟩, fun r hr => ?_, by simp, by simp; omega⟩
                       · rcases hoc g9 (by rw [hel]; exact hg9) with k | k
                         · exact hmo (q ▸ k)
                         · omega
                       · rw [hf' s, lastR_snoc]; rfl
                       · rcases hoc p (by rw [hel]; exact q) with k | k
                         · exact h.opv k
                         · omega
                       · rcases List.mem_append.1 hr with q | q
                         · exact h.ok r q
                         · rw [List.mem_singleton.1 q]; exact ⟨hru, hdl⟩
                     exact hw9.keep (fun b hb => hE.block b (hw9.lt b hb))
                   · rintro b (q | q | q | q)
                     · exact Or.inl (hZ b (Or.inl q))
                     · exact Or.inl (hZ b (Or.inr (Or.inl q)))
                     · rcases hoc b (by rw [hel]; exact q) with k | k
                       · exact Or.inl (hZ b (Or.inr (Or.inr (Or.inl k))))
                       · refine Or.inr ⟨by omega, ?_⟩; have := (hO12.lt q).2; have := hC'.size; have := hE.size
                         omega
                     · rcases q with q | q
                       · exact Or.inl (hZ b (Or.inr (Or.inr (Or.inr q))))
                       · have q2 := q.2; have := hC'.size; have := hE.size
                         exact Or.inr ⟨q.1, by omega⟩)
          · have hXl6 := hX.size; refine O_call rfl rfl (r_call Tryd.func51 Tryd.nm51 rfl) (hde _ hX) ?_; rintro v6 w6 ⟨hO6, hE⟩; replace hS := trivial; refine ⟨hS, ?_⟩; replace hbp := Blk.ext hbp hE; replace hX := hX.trans hE; obtain ⟨A6, c6, rfl, hc6, hr6⟩ := hO6.rd; have hE6 := hE; refine A_take (i := 7) rfl (by kernel_rfl) (by kernel_rfl) (by kernel_rfl) rfl hS (fun _ hw => r_build (cs := [.slice A6 ds.length c6]) Tryd.lay99 (by intro q hq; rw [List.mem_singleton.1 hq]; rfl) rfl rfl) ?_; refine A_take (i := 9) rfl (by kernel_rfl) (by kernel_rfl) (by kernel_rfl) rfl hS (fun _ hw => r_build1 cellOf (cs := [.slice A6 ds.length c6, .slice A5 (applyT (headT H) ds).2.length c5]) Tryd.lay101 (fun q hq => by rcases List.mem_cons.1 hq with rfl | hq <;> first | rfl | (rw [List.mem_singleton.1 hq]; rfl)) rfl rfl) ?_; refine A_ready2 (i := 4) (j := 10) (by kernel_rfl) ?_ ?_
            · refine O_val rfl rfl (r_load (v := .slice A H.length cap) rfl Tryd.underlying102 rfl (Blk.cell (by first | exact hbp | exact Blk.ext hbp E10) rfl)) (hS) ?_; refine A_ready1 (i := 10) (by kernel_rfl) ?_; refine O_newS rfl rfl (r_buildRows (vs := [[.slice A6 ds.length c6, .slice A5 (applyT (headT H) ds).2.length c5]]) Tryd.underlying102 Tryd.sz101 Tryd.zero101 rfl rfl rfl) ?_; intro w10 b10 E10 B10 L10; refine ⟨trivial, ?_⟩; refine A_ready1 (i := 11) (by kernel_rfl) ?_; have hX10 := hX.trans E10; have hs6 := hX.size; have hs10 := E10.size; have hs5 := hX5.size; have hs46 := (hD.trans hE6).size; have hE46 := (hD.trans hE6).trans E10; have hz0 : (applyT (headT H) ds).1 = 0 := Classical.not_not.1 ht36; have hru : rightT (applyT (headT H) ds).2 := apply_right (ds := ds) (t := headT H) (Prod.ext hz0 rfl)
              have hnew : revT.R w10 (fun b => F b ∨ since w w6 b) ⟨ds, (applyT (headT H) ds).2⟩ [.slice A6 ds.length c6, .slice A5 (applyT (headT H) ds).2.length c5] := by
                refine rev_mk (r := ⟨ds, (applyT (headT H) ds).2⟩) hc6 (by show ds.length ≤ _; omega) (hr6.keep (fun b hb => E10.block b hb.2) (fun b hb => Or.inr ⟨by have := hb.1; omega, hb.2⟩)) hc5 (by have := hru.1; show (applyT (headT H) ds).2.length ≤ _; omega) (hr5.keep (fun b hb => hE46.block b hb.2) (fun b hb => Or.inr ⟨hb.1, by have := hb.2; omega⟩))
              have hown : Eng.Own revT w10 (fun b => F b ∨ since w w6 b) 0 101 (.slice A H.length cap) H := h.own.keep (fun b hb => hX10.block b (h.F1 b hb).1) (fun b hb => Or.inl hb) (fun g hg => hX10.block g (h.own.lt hg).2)
              have hF2 : ∀ b, (F b ∨ since w w6 b) → b < w10.heap.size ∧ (Value.slice A H.length cap).ownBlock ≠ some b := fun b hb => hb.elim (fun q => ⟨by have := (h.F1 b q).1; omega, (h.F1 b q).2.2.2⟩) (fun q => ⟨by have := q.2; omega, fun k => by have := (h.own.lt k).2; have := q.1; omega⟩)
              refine O_append (T := revT) (F := fun b => F b ∨ since w w6 b) (l := H) (m := [⟨ds, (applyT (headT H) ds).2⟩]) rfl rfl rfl rfl Tryd.underlying102 Tryd.sz101 Tryd.by101 Tryd.zero101 rfl hown (Src.blk B10 hnew) hF2 (by simp only [List.length_singleton]; omega) (by simp only [List.length_singleton]; omega) (Nat.zero_le _) ?_; intro v11 w11 hO11 hG11 hv11; refine ⟨trivial, ?_⟩; obtain ⟨A2, cap2, rfl, hc2, -⟩ := hO11.read; refine A_take (i := 12) rfl (by kernel_rfl) (by kernel_rfl) (by kernel_rfl) rfl hS (fun _ hw => r_nilCheck rfl) ?_; refine A_take (i := 13) rfl (by kernel_rfl) (by kernel_rfl) (by kernel_rfl) rfl hS (fun _ hw => r_fieldAddr rfl Tryd.fld105_0 rfl) ?_; refine A_ready1 (i := 14) (by kernel_rfl) ?_
              have hel : (H ++ [(⟨ds, (applyT (headT H) ds).2⟩ : Rv)]).length = H.length + 1 := by simp
              have hbp10 := Blk.ext hbp E10; have hp0 : p < w.heap.size := Blk.lt h.bp; have hm0 : m < w.heap.size := hmf.lt
              have hmo : (Value.slice A H.length cap).ownBlock ≠ some m := fun q => by
                rcases h.own with ⟨hv, _⟩ | ⟨g9, _, _, _, hv, _, hb9, _⟩
                · rw [hv] at q; cases q
                · rw [hv] at q
                  simp only [Value.ownBlock, Option.some.injEq] at q
                  exact hmf.ne_cells hb9 q.symm
              have hmp : m ≠ p := hmf.ne_cells h.bp
              have hbp11 : Blk w11 p #[.slice A H.length cap, .map (some m)] 105 := hbp10.at (hG11.block p (Blk.lt hbp10) (fun q => h.opv q))
              refine O_store (v := .slice A2 (H ++ [(⟨ds, (applyT (headT H) ds).2⟩ : Rv)]).length cap2) rfl rfl rfl rfl Tryd.sz102 hbp11 (Nat.le_of_ble_eq_true rfl) ?_; intro w12 C12 hbp12; refine ⟨trivial, ?_⟩; have M12 : MapAt .string w12 m f := ((hmf.ext hX10).at (hG11.block m (by omega) (fun q => hmo q))).chg C12 hmp; have hMv : Mv Z w w12 := ((Mv.of_ext hX10).trans ⟨hG11.os, hG11.tape, hG11.output, hG11.size, fun k hk hn => hG11.block k hk (fun q => hn (hZ k (Or.inr (Or.inr (Or.inl q)))))⟩).trans (Mv.of_chg C12 (hZ p (Or.inl rfl))); have hs11 := hG11.size; have hs12 := C12.size
              have hoc : ∀ k, (Value.slice A2 (H ++ [(⟨ds, (applyT (headT H) ds).2⟩ : Rv)]).length cap2).ownBlock = some k → (Value.slice A H.length cap).ownBlock = some k ∨ w10.heap.size ≤ k := fun k hk => by
                rcases hv11 with q | ⟨g9, q, hg9⟩
                · exact Or.inl (q.symm.trans hk)
                · rw [q] at hk; simp only [Option.some.injEq] at hk; exact Or.inr (by omega)
              have hop : ∀ b, (F b ∨ since w w6 b) → b < w12.heap.size ∧ b ≠ p ∧ b ≠ m ∧ (Value.slice A2 (H ++ [(⟨ds, (applyT (headT H) ds).2⟩ : Rv)]).length cap2).ownBlock ≠ some b := fun b hb => by
                rcases hb with q | q
                · obtain ⟨q1, q2, q3, q4⟩ := h.F1 b q; exact ⟨by omega, q2, q3, fun k => (hoc b k).elim (fun k => q4 k) (fun k => by omega)⟩
                · have q1 := q.1; have q2 := q.2; exact ⟨by omega, by omega, by omega, fun k => (hoc b k).elim (fun k => by have := (h.own.lt k).2; omega) (fun k => by omega)⟩
              have hF11 : ∀ b, (F b ∨ since w w6 b) → b < w11.heap.size := fun b hb => by
                have := (hF2 b hb).1; omega
              have hO12 := hO11.keep (w' := w12) (F' := fun b => F b ∨ since w w6 b) (fun b hb => C12.block b (hF11 b hb) (hop b hb).2.1) (fun _ h => h) (fun g9 hg9 => C12.block g9 (hO11.lt hg9).2 (fun q => by
                rcases hoc g9 hg9 with k | k
                · rw [q] at k; exact h.opv k
                · omega))
              clear hbp hX
              have hbp : Blk w12 p #[.slice A2 (H.length + 1) cap2, .map (some m)] 105 := by rw [← hel]; exact hbp12
              have hX := Ext.refl w12; refine A_done (by kernel_rfl) ?_; refine W_seq ?_; refine W_seq ?_; refine W_region ?_; refine op rfl (r_moveV (v := .slice _ _ _) rfl) ?_; refine op rfl (r_len_slice rfl Tryd.underlying39) ?_; refine op rfl (r_moveV (v := .int _ _) rfl) ?_; refine WL_nil ?_; refine W_block ?_; refine W_loop [9, 54, 55, 56, 57, 58, 59, 60, 61, 62, 63, 64, 65, 66] (fun q e' w' => ∃ (i : Nat) (f' : Value → Option Value), q = ds.length - i ∧ i ≤ ds.length ∧ e' 54 = .int .i64 i ∧ Blk w' p #[.slice A2 (H.length + 1) cap2, .map (some m)] 105 ∧ MapAt .string w' m f' ∧ (∀ s, (f' (.string (str s))).getD (.int .i64 0) = .int .i64 ((if (ds.take i).any (fun d => decide (d.p = s)) then H.length else lastR H s : Nat) : Int)) ∧ Chg m w12 w') (ds.length) ?_ ?_
              · exact ⟨0, f, by omega, by omega, rfl, hbp, M12, fun s => by simpa using hlf s, Chg.of_ext (Ext.refl _)⟩
              intro k g w' hI; obtain ⟨i, f', hq, hi, h54, hbp', M', hf', hC'⟩ := hI; clear hX hbp M12; have hbp := hbp'; have hX := Ext.refl w'; have hMw : Mv Z w w' := hMv.trans (Mv.of_chg hC' (hZ m (Or.inr (Or.inl rfl)))); refine W_set (i := 54) h54 ?_; refine W_seq ?_; refine W_region ?_; refine op rfl (r_lss rfl rfl) ?_; refine WL_nil ?_; refine W_seq ?_; refine W_ifp rfl (fun ht55 => ?_) (fun ht55 => ?_)
              · have hlt' : i < ds.length := by omega
                obtain ⟨g1, off1, Ai, ci, hA1, hcell1⟩ := hdat w' hMw i hlt'; refine W_skip ?_; refine W_seq ?_; refine W_block ?_; refine W_seq ?_; refine W_region ?_; refine op rfl (r_indexAddrK (by rw [← hA1]; rfl) rfl Tryd.underlying39 Tryd.sz38 hlt') ?_; refine op rfl (r_load_agg (cs := [.int .i64 ds[i].k, .string (str ds[i].p), .slice Ai ds[i].b.length ci]) rfl Tryd.underlying38 rfl Tryd.sz38 rfl hcell1) ?_; refine op_alloc rfl Tryd.zero38 ?_; intro w13_2 b13_2 E13_2 B13_2 L13_2
                have hG13_2 : w'.heap.size ≤ b13_2 := by have := hX.size; omega
                have hNp_13_2 : p ≠ b13_2 := by have := Blk.lt hbp; omega
                replace hbp := Blk.ext hbp E13_2; replace hX := hX.trans E13_2; refine op_storeRow rfl rfl Tryd.sz38 B13_2 rfl rfl ?_; intro w13_3 C13_3 BB13_3; replace hbp := Chg.blk C13_3 hbp hNp_13_2; replace hX := hX.chg C13_3 hG13_2; replace B13_2 := BB13_3; refine WL_nil ?_; refine W_drawA Tryd.wd rfl ?_; intro wd14 hD; have hS : anyW wd14 := trivial; replace hbp := Blk.ext hbp hD; replace B13_2 := Blk.ext B13_2 hD; replace hX := hX.trans hD; refine A_take (i := 0) rfl (by kernel_rfl) (by kernel_rfl) (by kernel_rfl) rfl hS (fun _ hw => r_moveV (v := .pointer _) rfl) ?_; refine A_take (i := 1) rfl (by kernel_rfl) (by kernel_rfl) (by kernel_rfl) rfl hS (fun _ hw => r_nilCheck rfl) ?_; refine A_take (i := 2) rfl (by kernel_rfl) (by kernel_rfl) (by kernel_rfl) rfl hS (fun _ hw => r_fieldAddr rfl Tryd.fld105_1 rfl) ?_; refine A_take (i := 4) rfl (by kernel_rfl) (by kernel_rfl) (by kernel_rfl) rfl hS (fun _ hw => r_fieldAddr rfl Tryd.fld38_1 rfl) ?_; refine A_take (i := 6) rfl (by kernel_rfl) (by kernel_rfl) (by kernel_rfl) rfl hS (fun _ hw => r_moveV (v := .pointer _) rfl) ?_; refine A_ready3 (i := 3) (j := 5) (k := 7) (by kernel_rfl) ?_ ?_ ?_
                · refine O_val rfl rfl (r_load (v := .map (some m)) rfl Tryd.underlying103 rfl (Blk.cell hbp rfl)) (hS) ?_; refine A_ready2 (i := 5) (j := 7) (by kernel_rfl) ?_ ?_
                  · refine O_val rfl rfl (r_load (v := .string (str ds[i].p)) rfl Tryd.underlying9 rfl (Blk.cell B13_2 rfl)) (hS) ?_; refine A_ready1 (i := 7) (by kernel_rfl) ?_; refine O_call rfl rfl (r_call Tryd.func17 Tryd.nm17 rfl) (headRaw_spec hbp (by omega) (by omega)) ?_; rintro v8 w8 ⟨rfl, hE⟩; replace hS := trivial; refine ⟨hS, ?_⟩; replace hbp := Blk.ext hbp hE; replace B13_2 := Blk.ext B13_2 hE; replace hX := hX.trans hE; refine A_ready1 (i := 8) (by kernel_rfl) ?_; have hC14 : Chg m w' _ := Chg.of_ext hX; have M14 := M'.ext hX; refine O_updateK (k := .string (str ds[i].p)) (v := .int .i64 (H.length : Nat)) rfl (by rfl) (by rfl) (by rfl) Tryd.underlying103 Tryd.underlying9 (by trivial) M14 ?_; intro w15 C15 M15; refine ⟨trivial, ?_⟩; have hbp15 := Chg.blk C15 hbp (fun q => hmp q.symm)
                    have hf15 : ∀ s, (fput f' (.string (str ds[i].p)) (.int .i64 (H.length : Nat)) (.string (str s))).getD (.int .i64 0) = .int .i64 ((if (ds.take (i + 1)).any (fun d => decide (d.p = s)) then H.length else lastR H s : Nat) : Int) := fun s => by
                      rw [List.take_succ_eq_append_getElem hlt', List.any_append]
                      by_cases hs : ds[i].p = s
                      · subst hs; rw [fput_same]
                        simp
                      · rw [fput_ne (fun q => hs (str_inj q).symm), hf' s]
                        simp [hs]
                    refine A_done (by kernel_rfl) ?_; refine W_region ?_; refine op rfl (r_add' rfl rfl (wrap_i64 (by omega) (by omega))) ?_; refine op rfl (r_moveV (v := .int _ _) rfl) ?_; refine WL_nil ?_; refine ⟨?_, by repeat (first | with_reducible exact Out.refl _ _ | with_reducible exact Out.mix | refine Out.put rfl ?_ | refine Out.mixin rfl ?_ | exact Out.refl _ _ | exact Out.mix)⟩; exact ⟨ds.length - (i + 1), by omega, i + 1, _, rfl, by omega, rfl, hbp15, M15, hf15, hC'.trans (hC14.trans C15)⟩
                  · refine O_call rfl rfl (r_call Tryd.func17 Tryd.nm17 rfl) (headRaw_spec hbp (by omega) (by omega)) ?_; rintro v8 w8 ⟨rfl, hE⟩; replace hS := trivial; refine ⟨hS, ?_⟩; replace hbp := Blk.ext hbp hE; replace B13_2 := Blk.ext B13_2 hE; replace hX := hX.trans hE; refine A_ready1 (i := 5) (by kernel_rfl) ?_; refine O_val rfl rfl (r_load (v := .string (str ds[i].p)) rfl Tryd.underlying9 rfl (Blk.cell B13_2 rfl)) (hS) ?_; refine A_ready1 (i := 8) (by kernel_rfl) ?_; have hC14 : Chg m w' _ := Chg.of_ext hX; have M14 := M'.ext hX; refine O_updateK (k := .string (str ds[i].p)) (v := .int .i64 (H.length : Nat)) rfl (by rfl) (by rfl) (by rfl) Tryd.underlying103 Tryd.underlying9 (by trivial) M14 ?_; intro w15 C15 M15; refine ⟨trivial, ?_⟩; have hbp15 := Chg.blk C15 hbp (fun q => hmp q.symm)
                    have hf15 : ∀ s, (fput f' (.string (str ds[i].p)) (.int .i64 (H.length : Nat)) (.string (str s))).getD (.int .i64 0) = .int .i64 ((if (ds.take (i + 1)).any (fun d => decide (d.p = s)) then H.length else lastR H s : Nat) : Int) := fun s => by
                      rw [List.take_succ_eq_append_getElem hlt', List.any_append]
                      by_cases hs : ds[i].p = s
                      · subst hs; rw [fput_same]
                        simp
                      · rw [fput_ne (fun q => hs (str_inj q).symm), hf' s]
                        simp [hs]
                    refine A_done (by kernel_rfl) ?_; refine W_region ?_; refine op rfl (r_add' rfl rfl (wrap_i64 (by omega) (by omega))) ?_; refine op rfl (r_moveV (v := .int _ _) rfl) ?_; refine WL_nil ?_; refine ⟨?_, by repeat (first | with_reducible exact Out.refl _ _ | with_reducible exact Out.mix | refine Out.put rfl ?_ | refine Out.mixin rfl ?_ | exact Out.refl _ _ | exact Out.mix)⟩; exact ⟨ds.length - (i + 1), by omega, i + 1, _, rfl, by omega, rfl, hbp15, M15, hf15, hC'.trans (hC14.trans C15)⟩
                · refine O_val rfl rfl (r_load (v := .string (str ds[i].p)) rfl Tryd.underlying9 rfl (Blk.cell B13_2 rfl)) (hS) ?_; refine A_ready2 (i := 3) (j := 7) (by kernel_rfl) ?_ ?_
                  · refine O_val rfl rfl (r_load (v := .map (some m)) rfl Tryd.underlying103 rfl (Blk.cell hbp rfl)) (hS) ?_; refine A_ready1 (i := 7) (by kernel_rfl) ?_; refine O_call rfl rfl (r_call Tryd.func17 Tryd.nm17 rfl) (headRaw_spec hbp (by omega) (by omega)) ?_; rintro v8 w8 ⟨rfl, hE⟩; replace hS := trivial; refine ⟨hS, ?_⟩; replace hbp := Blk.ext hbp hE; replace B13_2 := Blk.ext B13_2 hE; replace hX := hX.trans hE; refine A_ready1 (i := 8) (by kernel_rfl) ?_; have hC14 : Chg m w' _ := Chg.of_ext hX; have M14 := M'.ext hX; refine O_updateK (k := .string (str ds[i].p)) (v := .int .i64 (H.length : Nat)) rfl (by rfl) (by rfl) (by rfl) Tryd.underlying103 Tryd.underlying9 (by trivial) M14 ?_; intro w15 C15 M15; refine ⟨trivial, ?_⟩; have hbp15 := Chg.blk C15 hbp (fun q => hmp q.symm)
                    have hf15 : ∀ s, (fput f' (.string (str ds[i].p)) (.int .i64 (H.length : Nat)) (.string (str s))).getD (.int .i64 0) = .int .i64 ((if (ds.take (i + 1)).any (fun d => decide (d.p = s)) then H.length else lastR H s : Nat) : Int) := fun s => by
                      rw [List.take_succ_eq_append_getElem hlt', List.any_append]
                      by_cases hs : ds[i].p = s
                      · subst hs; rw [fput_same]
                        simp
                      · rw [fput_ne (fun q => hs (str_inj q).symm), hf' s]
                        simp [hs]
                    refine A_done (by kernel_rfl) ?_; refine W_region ?_; refine op rfl (r_add' rfl rfl (wrap_i64 (by omega) (by omega))) ?_; refine op rfl (r_moveV (v := .int _ _) rfl) ?_; refine WL_nil ?_; refine ⟨?_, by repeat (first | with_reducible exact Out.refl _ _ | with_reducible exact Out.mix | refine Out.put rfl ?_ | refine Out.mixin rfl ?_ | exact Out.refl _ _ | exact Out.mix)⟩; exact ⟨ds.length - (i + 1), by omega, i + 1, _, rfl, by omega, rfl, hbp15, M15, hf15, hC'.trans (hC14.trans C15)⟩
                  · refine O_call rfl rfl (r_call Tryd.func17 Tryd.nm17 rfl) (headRaw_spec hbp (by omega) (by omega)) ?_; rintro v8 w8 ⟨rfl, hE⟩; replace hS := trivial; refine ⟨hS, ?_⟩; replace hbp := Blk.ext hbp hE; replace B13_2 := Blk.ext B13_2 hE; replace hX := hX.trans hE; refine A_ready1 (i := 3) (by kernel_rfl) ?_; refine O_val rfl rfl (r_load (v := .map (some m)) rfl Tryd.underlying103 rfl (Blk.cell hbp rfl)) (hS) ?_; refine A_ready1 (i := 8) (by kernel_rfl) ?_; have hC14 : Chg m w' _ := Chg.of_ext hX; have M14 := M'.ext hX; refine O_updateK (k := .string (str ds[i].p)) (v := .int .i64 (H.length : Nat)) rfl (by rfl) (by rfl) (by rfl) Tryd.underlying103 Tryd.underlying9 (by trivial) M14 ?_; intro w15 C15 M15; refine ⟨trivial, ?_⟩; have hbp15 := Chg.blk C15 hbp (fun q => hmp q.symm)
                    have hf15 : ∀ s, (fput f' (.string (str ds[i].p)) (.int .i64 (H.length : Nat)) (.string (str s))).getD (.int .i64 0) = .int .i64 ((if (ds.take (i + 1)).any (fun d => decide (d.p = s)) then H.length else lastR H s : Nat) : Int) := fun s => by
                      rw [List.take_succ_eq_append_getElem hlt', List.any_append]
                      by_cases hs : ds[i].p = s
                      · subst hs; rw [fput_same]
                        simp
                      · rw [fput_ne (fun q => hs (str_inj q).symm), hf' s]
                        simp [hs]
                    refine A_done (by kernel_rfl) ?_; refine W_region ?_; refine op rfl (r_add' rfl rfl (wrap_i64 (by omega) (by omega))) ?_; refine op rfl (r_moveV (v := .int _ _) rfl) ?_; refine WL_nil ?_; refine ⟨?_, by repeat (first | with_reducible exact Out.refl _ _ | with_reducible exact Out.mix | refine Out.put rfl ?_ | refine Out.mixin rfl ?_ | exact Out.refl _ _ | exact Out.mix)⟩; exact ⟨ds.length - (i + 1), by omega, i + 1, _, rfl, by omega, rfl, hbp15, M15, hf15, hC'.trans (hC14.trans C15)⟩
                · refine O_call rfl rfl (r_call Tryd.func17 Tryd.nm17 rfl) (headRaw_spec hbp (by omega) (by omega)) ?_; rintro v8 w8 ⟨rfl, hE⟩; replace hS := trivial; refine ⟨hS, ?_⟩; replace hbp := Blk.ext hbp hE; replace B13_2 := Blk.ext B13_2 hE; replace hX := hX.trans hE; refine A_ready2 (i := 3) (j := 5) (by kernel_rfl) ?_ ?_
                  · refine O_val rfl rfl (r_load (v := .map (some m)) rfl Tryd.underlying103 rfl (Blk.cell hbp rfl)) (hS) ?_; refine A_ready1 (i := 5) (by kernel_rfl) ?_; refine O_val rfl rfl (r_load (v := .string (str ds[i].p)) rfl Tryd.underlying9 rfl (Blk.cell B13_2 rfl)) (hS) ?_; refine A_ready1 (i := 8) (by kernel_rfl) ?_; have hC14 : Chg m w' _ := Chg.of_ext hX; have M14 := M'.ext hX; refine O_updateK (k := .string (str ds[i].p)) (v := .int .i64 (H.length : Nat)) rfl (by rfl) (by rfl) (by rfl) Tryd.underlying103 Tryd.underlying9 (by trivial) M14 ?_; intro w15 C15 M15; refine ⟨trivial, ?_⟩; have hbp15 := Chg.blk C15 hbp (fun q => hmp q.symm)
                    have hf15 : ∀ s, (fput f' (.string (str ds[i].p)) (.int .i64 (H.length : Nat)) (.string (str s))).getD (.int .i64 0) = .int .i64 ((if (ds.take (i + 1)).any (fun d => decide (d.p = s)) then H.length else lastR H s : Nat) : Int) := fun s => by
                      rw [List.take_succ_eq_append_getElem hlt', List.any_append]
                      by_cases hs : ds[i].p = s
                      · subst hs; rw [fput_same]
                        simp
                      · rw [fput_ne (fun q => hs (str_inj q).symm), hf' s]
                        simp [hs]
                    refine A_done (by kernel_rfl) ?_; refine W_region ?_; refine op rfl (r_add' rfl rfl (wrap_i64 (by omega) (by omega))) ?_; refine op rfl (r_moveV (v := .int _ _) rfl) ?_; refine WL_nil ?_; refine ⟨?_, by repeat (first | with_reducible exact Out.refl _ _ | with_reducible exact Out.mix | refine Out.put rfl ?_ | refine Out.mixin rfl ?_ | exact Out.refl _ _ | exact Out.mix)⟩; exact ⟨ds.length - (i + 1), by omega, i + 1, _, rfl, by omega, rfl, hbp15, M15, hf15, hC'.trans (hC14.trans C15)⟩
                  · refine O_val rfl rfl (r_load (v := .string (str ds[i].p)) rfl Tryd.underlying9 rfl (Blk.cell B13_2 rfl)) (hS) ?_; refine A_ready1 (i := 3) (by kernel_rfl) ?_; refine O_val rfl rfl (r_load (v := .map (some m)) rfl Tryd.underlying103 rfl (Blk.cell hbp rfl)) (hS) ?_; refine A_ready1 (i := 8) (by kernel_rfl) ?_; have hC14 : Chg m w' _ := Chg.of_ext hX; have M14 := M'.ext hX; refine O_updateK (k := .string (str ds[i].p)) (v := .int .i64 (H.length : Nat)) rfl (by rfl) (by rfl) (by rfl) Tryd.underlying103 Tryd.underlying9 (by trivial) M14 ?_; intro w15 C15 M15; refine ⟨trivial, ?_⟩; have hbp15 := Chg.blk C15 hbp (fun q => hmp q.symm)
                    have hf15 : ∀ s, (fput f' (.string (str ds[i].p)) (.int .i64 (H.length : Nat)) (.string (str s))).getD (.int .i64 0) = .int .i64 ((if (ds.take (i + 1)).any (fun d => decide (d.p = s)) then H.length else lastR H s : Nat) : Int) := fun s => by
                      rw [List.take_succ_eq_append_getElem hlt', List.any_append]
                      by_cases hs : ds[i].p = s
                      · subst hs; rw [fput_same]
                        simp
                      · rw [fput_ne (fun q => hs (str_inj q).symm), hf' s]
                        simp [hs]
                    refine A_done (by kernel_rfl) ?_; refine W_region ?_; refine op rfl (r_add' rfl rfl (wrap_i64 (by omega) (by omega))) ?_; refine op rfl (r_moveV (v := .int _ _) rfl) ?_; refine WL_nil ?_; refine ⟨?_, by repeat (first | with_reducible exact Out.refl _ _ | with_reducible exact Out.mix | refine Out.put rfl ?_ | refine Out.mixin rfl ?_ | exact Out.refl _ _ | exact Out.mix)⟩; exact ⟨ds.length - (i + 1), by omega, i + 1, _, rfl, by omega, rfl, hbp15, M15, hf15, hC'.trans (hC14.trans C15)⟩
              · obtain rfl : i = ds.length := by omega
                rw [List.take_length] at hf'
                rw [hel] at hO12 hop
                refine W_exit (blk_hit ?_); refine W_seq ?_; refine W_region ?_; refine op rfl (r_moveV (v := .pointer _) rfl) ?_; refine opCv rfl (r_call Tryd.func17 Tryd.nm17 rfl) (headRaw_spec hbp (by omega) (by omega)) ?_; rintro v9 w9 ⟨rfl, hE⟩; replace hbp := Blk.ext hbp hE; replace hX := hX.trans hE; refine op rfl (r_assignV (v := .int _ _) rfl) ?_; refine op rfl (r_assignV (v := .int _ _) rfl) ?_; refine WL_nil ?_; refine W_ret (finX_ret ?_); refine fin2 ?_
                first
                  | (rw [c_nil (by omega)]; exact ⟨_, rfl, rfl, hun _ hX⟩)
                  | (rw [c_full (by omega) (by omega)]; exact ⟨_, rfl, rfl, hun _ hX⟩)
                  | (rw [c_err (by omega) (by omega) ht36]; exact ⟨_, rfl, rfl, hun _ hX⟩)
                  | (have hM9 : Mv Z w w9 := hMw.trans (Mv.of_ext hE)
                     rw [c_ok (by omega) (by omega) hz0]; refine ⟨_, rfl, rfl, ⟨m, .slice A2 (H.length + 1) cap2, (fun b => F b ∨ since w w6 b), ?_, ?_⟩, hM9⟩
                     · have hw9 : HistAt p m (.slice A2 (H.length + 1) cap2) (fun b => F b ∨ since w w6 b) w' (H ++ [⟨ds, (applyT (headT H) ds).2⟩]) := by
                         refine ⟨hbp', hO12.keep (fun b hb => hC'.block b (hop b hb).1 (hop b hb).2.2.1) (fun _ h => h) (fun g9 hg9 => hC'.block g9 (hO12.lt hg9).2 (fun q => ?_)), ⟨f', M', fun s => ?_⟩, fun q => ?_, fun b hb => ⟨Nat.lt_of_lt_of_le (hop b hb).1 hC'.size, (hop b hb).2⟩, fun r hr => ?_, by simp, by simp; omega⟩
                         · rcases hoc g9 (by rw [hel]; exact hg9) with k | k
                           · exact hmo (q ▸ k)
                           · omega
                         · rw [hf' s, lastR_snoc]; rfl
                         · rcases hoc p (by rw [hel]; exact q) with k | k
                           · exact h.opv k
                           · omega
                         · rcases List.mem_append.1 hr with q | q
                           · exact h.ok r q
                           · rw [List.mem_singleton.1 q]; exact ⟨hru, hdl⟩
                       exact hw9.keep (fun b hb => hE.block b (hw9.lt b hb))
                     · rintro b (q | q | q | q)
                       · exact Or.inl (hZ b (Or.inl q))
                       · exact Or.inl (hZ b (Or.inr (Or.inl q)))
                       · rcases hoc b (by rw [hel]; exact q) with k | k
                         · exact Or.inl (hZ b (Or.inr (Or.inr (Or.inl k))))
                         · refine Or.inr ⟨by omega, ?_⟩; have := (hO12.lt q).2; have := hC'.size; have := hE.size
                           omega
                       · rcases q with q | q
                         · exact Or.inl (hZ b (Or.inr (Or.inr (Or.inr q))))
                         · have q2 := q.2; have := hC'.size; have := hE.size
                           exact Or.inr ⟨q.1, by omega⟩)
            · refine O_newS rfl rfl (r_buildRows (vs := [[.slice A6 ds.length c6, .slice A5 (applyT (headT H) ds).2.length c5]]) Tryd.underlying102 Tryd.sz101 Tryd.zero101 rfl rfl rfl) ?_; intro w10 b10 E10 B10 L10; refine ⟨trivial, ?_⟩; refine A_ready1 (i := 4) (by kernel_rfl) ?_; refine O_val rfl rfl (r_load (v := .slice A H.length cap) rfl Tryd.underlying102 rfl (Blk.cell (by first | exact hbp | exact Blk.ext hbp E10) rfl)) (hS) ?_; refine A_ready1 (i := 11) (by kernel_rfl) ?_; have hX10 := hX.trans E10; have hs6 := hX.size; have hs10 := E10.size; have hs5 := hX5.size; have hs46 := (hD.trans hE6).size; have hE46 := (hD.trans hE6).trans E10; have hz0 : (applyT (headT H) ds).1 = 0 := Classical.not_not.1 ht36; have hru : rightT (applyT (headT H) ds).2 := apply_right (ds := ds) (t := headT H) (Prod.ext hz0 rfl)
              have hnew : revT.R w10 (fun b => F b ∨ since w w6 b) ⟨ds, (applyT (headT H) ds).2⟩ [.slice A6 ds.length c6, .slice A5 (applyT (headT H) ds).2.length c5] := by
                refine rev_mk (r := ⟨ds, (applyT (headT H) ds).2⟩) hc6 (by show ds.length ≤ _; omega) (hr6.keep (fun b hb => E10.block b hb.2) (fun b hb => Or.inr ⟨by have := hb.1; omega, hb.2⟩)) hc5 (by have := hru.1; show (applyT (headT H) ds).2.length ≤ _; omega) (hr5.keep (fun b hb => hE46.block b hb.2) (fun b hb => Or.inr ⟨hb.1, by have := hb.2; omega⟩))
              have hown : Eng.Own revT w10 (fun b => F b ∨ since w w6 b) 0 101 (.slice A H.length cap) H := h.own.keep (fun b hb => hX10.block b (h.F1 b hb).1) (fun b hb => Or.inl hb) (fun g hg => hX10.block g (h.own.lt hg).2)
              have hF2 : ∀ b, (F b ∨ since w w6 b) → b < w10.heap.size ∧ (Value.slice A H.length cap).ownBlock ≠ some b := fun b hb => hb.elim (fun q => ⟨by have := (h.F1 b q).1; omega, (h.F1 b q).2.2.2⟩) (fun q => ⟨by have := q.2; omega, fun k => by have := (h.own.lt k).2; have := q.1; omega⟩)
              refine O_append (T := revT) (F := fun b => F b ∨ since w w6 b) (l := H) (m := [⟨ds, (applyT (headT H) ds).2⟩]) rfl rfl rfl rfl Tryd.underlying102 Tryd.sz101 Tryd.by101 Tryd.zero101 rfl hown (Src.blk B10 hnew) hF2 (by simp only [List.length_singleton]; omega) (by simp only [List.length_singleton]; omega) (Nat.zero_le _) ?_; intro v11 w11 hO11 hG11 hv11; refine ⟨trivial, ?_⟩; obtain ⟨A2, cap2, rfl, hc2, -⟩ := hO11.read; refine A_take (i := 12) rfl (by kernel_rfl) (by kernel_rfl) (by kernel_rfl) rfl hS (fun _ hw => r_nilCheck rfl) ?_; refine A_take (i := 13) rfl (by kernel_rfl) (by kernel_rfl) (by kernel_rfl) rfl hS (fun _ hw => r_fieldAddr rfl Tryd.fld105_0 rfl) ?_; refine A_ready1 (i := 14) (by kernel_rfl) ?_
              have hel : (H ++ [(⟨ds, (applyT (headT H) ds).2⟩ : Rv)]).length = H.length + 1 := by simp
              have hbp10 := Blk.ext hbp E10; have hp0 : p < w.heap.size := Blk.lt h.bp; have hm0 : m < w.heap.size := hmf.lt
              have hmo : (Value.slice A H.length cap).ownBlock ≠ some m := fun q => by
                rcases h.own with ⟨hv, _⟩ | ⟨g9, _, _, _, hv, _, hb9, _⟩
                · rw [hv] at q; cases q
                · rw [hv] at q
                  simp only [Value.ownBlock, Option.some.injEq] at q
                  exact hmf.ne_cells hb9 q.symm
              have hmp : m ≠ p := hmf.ne_cells h.bp
              have hbp11 : Blk w11 p #[.slice A H.length cap, .map (some m)] 105 := hbp10.at (hG11.block p (Blk.lt hbp10) (fun q => h.opv q))
              refine O_store (v := .slice A2 (H ++ [(⟨ds, (applyT (headT H) ds).2⟩ : Rv)]).length cap2) rfl rfl rfl rfl Tryd.sz102 hbp11 (Nat.le_of_ble_eq_true rfl) ?_; intro w12 C12 hbp12; refine ⟨trivial, ?_⟩; have M12 : MapAt .string w12 m f := ((hmf.ext hX10).at (hG11.block m (by omega) (fun q => hmo q))).chg C12 hmp; have hMv : Mv Z w w12 := ((Mv.of_ext hX10).trans ⟨hG11.os, hG11.tape, hG11.output, hG11.size, fun k hk hn => hG11.block k hk (fun q => hn (hZ k (Or.inr (Or.inr (Or.inl q)))))⟩).trans (Mv.of_chg C12 (hZ p (Or.inl rfl))); have hs11 := hG11.size; have hs12 := C12.size
              have hoc : ∀ k, (Value.slice A2 (H ++ [(⟨ds, (applyT (headT H) ds).2⟩ : Rv)]).length cap2).ownBlock = some k → (Value.slice A H.length cap).ownBlock = some k ∨ w10.heap.size ≤ k := fun k hk => by
                rcases hv11 with q | ⟨g9, q, hg9⟩
                · exact Or.inl (q.symm.trans hk)
                · rw [q] at hk; simp only [Option.some.injEq] at hk; exact Or.inr (by omega)
              have hop : ∀ b, (F b ∨ since w w6 b) → b < w12.heap.size ∧ b ≠ p ∧ b ≠ m ∧ (Value.slice A2 (H ++ [(⟨ds, (applyT (headT H) ds).2⟩ : Rv)]).length cap2).ownBlock ≠ some b := fun b hb => by
                rcases hb with q | q
                · obtain ⟨q1, q2, q3, q4⟩ := h.F1 b q; exact ⟨by omega, q2, q3, fun k => (hoc b k).elim (fun k => q4 k) (fun k => by omega)⟩
                · have q1 := q.1; have q2 := q.2; exact ⟨by omega, by omega, by omega, fun k => (hoc b k).elim (fun k => by have := (h.own.lt k).2; omega) (fun k => by omega)⟩
              have hF11 : ∀ b, (F b ∨ since w w6 b) → b < w11.heap.size := fun b hb => by
                have := (hF2 b hb).1; omega
              have hO12 := hO11.keep (w' := w12) (F' := fun b => F b ∨ since w w6 b) (fun b hb => C12.block b (hF11 b hb) (hop b hb).2.1) (fun _ h => h) (fun g9 hg9 => C12.block g9 (hO11.lt hg9).2 (fun q => by
                rcases hoc g9 hg9 with k | k
                · rw [q] at k; exact h.opv k
                · omega))
              clear hbp hX
              have hbp : Blk w12 p #[.slice A2 (H.length + 1) cap2, .map (some m)] 105 := by rw [← hel]; exact hbp12
              have hX := Ext.refl w12; refine A_done (by kernel_rfl) ?_; refine W_seq ?_; refine W_seq ?_; refine W_region ?_; refine op rfl (r_moveV (v := .slice _ _ _) rfl) ?_; refine op rfl (r_len_slice rfl Tryd.underlying39) ?_; refine op rfl (r_moveV (v := .int _ _) rfl) ?_; refine WL_nil ?_; refine W_block ?_; refine W_loop [9, 54, 55, 56, 57, 58, 59, 60, 61, 62, 63, 64, 65, 66] (fun q e' w' => ∃ (i : Nat) (f' : Value → Option Value), q = ds.length - i ∧ i ≤ ds.length ∧ e' 54 = .int .i64 i ∧ Blk w' p #[.slice A2 (H.length + 1) cap2, .map (some m)] 105 ∧ MapAt .string w' m f' ∧ (∀ s, (f' (.string (str s))).getD (.int .i64 0) = .int .i64 ((if (ds.take i).any (fun d => decide (d.p = s)) then H.length else lastR H s : Nat) : Int)) ∧ Chg m w12 w') (ds.length) ?_ ?_
              · exact ⟨0, f, by omega, by omega, rfl, hbp, M12, fun s => by simpa using hlf s, Chg.of_ext (Ext.refl _)⟩
              intro k g w' hI; obtain ⟨i, f', hq, hi, h54, hbp', M', hf', hC'⟩ := hI; clear hX hbp M12; have hbp := hbp'; have hX := Ext.refl w'; have hMw : Mv Z w w' := hMv.trans (Mv.of_chg hC' (hZ m (Or.inr (Or.inl rfl)))); refine W_set (i := 54) h54 ?_; refine W_seq ?_; refine W_region ?_; refine op rfl (r_lss rfl rfl) ?_; refine WL_nil ?_; refine W_seq ?_; refine W_ifp rfl (fun ht55 => ?_) (fun ht55 => ?_)
              · have hlt' : i < ds.length := by omega
                obtain ⟨g1, off1, Ai, ci, hA1, hcell1⟩ := hdat w' hMw i hlt'; refine W_skip ?_; refine W_seq ?_; refine W_block ?_; refine W_seq ?_; refine W_region ?_; refine op rfl (r_indexAddrK (by rw [← hA1]; rfl) rfl Tryd.underlying39 Tryd.sz38 hlt') ?_; refine op rfl (r_load_agg (cs := [.int .i64 ds[i].k, .string (str ds[i].p), .slice Ai ds[i].b.length ci]) rfl Tryd.underlying38 rfl Tryd.sz38 rfl hcell1) ?_; refine op_alloc rfl Tryd.zero38 ?_; intro w13_2 b13_2 E13_2 B13_2 L13_2
                have hG13_2 : w'.heap.size ≤ b13_2 := by have := hX.size; omega
                have hNp_13_2 : p ≠ b13_2 := by have := Blk.lt hbp; omega
                replace hbp := Blk.ext hbp E13_2; replace hX := hX.trans E13_2; refine op_storeRow rfl rfl Tryd.sz38 B13_2 rfl rfl ?_; intro w13_3 C13_3 BB13_3; replace hbp := Chg.blk C13_3 hbp hNp_13_2; replace hX := hX.chg C13_3 hG13_2; replace B13_2 := BB13_3; refine WL_nil ?_; refine W_drawA Tryd.wd rfl ?_; intro wd14 hD; have hS : anyW wd14 := trivial; replace hbp := Blk.ext hbp hD; replace B13_2 := Blk.ext B13_2 hD; replace hX := hX.trans hD; refine A_take (i := 0) rfl (by kernel_rfl) (by kernel_rfl) (by kernel_rfl) rfl hS (fun _ hw => r_moveV (v := .pointer _) rfl) ?_; refine A_take (i := 1) rfl (by kernel_rfl) (by kernel_rfl) (by kernel_rfl) rfl hS (fun _ hw => r_nilCheck rfl) ?_; refine A_take (i := 2) rfl (by kernel_rfl) (by kernel_rfl) (by kernel_rfl) rfl hS (fun _ hw => r_fieldAddr rfl Tryd.fld105_1 rfl) ?_; refine A_take (i := 4) rfl (by kernel_rfl) (by kernel_rfl) (by kernel_rfl) rfl hS (fun _ hw => r_fieldAddr rfl Tryd.fld38_1 rfl) ?_; refine A_take (i := 6) rfl (by kernel_rfl) (by kernel_rfl) (by kernel_rfl) rfl hS (fun _ hw => r_moveV (v := .pointer _) rfl) ?_; refine A_ready3 (i := 3) (j := 5) (k := 7) (by kernel_rfl) ?_ ?_ ?_
                · refine O_val rfl rfl (r_load (v := .map (some m)) rfl Tryd.underlying103 rfl (Blk.cell hbp rfl)) (hS) ?_; refine A_ready2 (i := 5) (j := 7) (by kernel_rfl) ?_ ?_
                  · refine O_val rfl rfl (r_load (v := .string (str ds[i].p)) rfl Tryd.underlying9 rfl (Blk.cell B13_2 rfl)) (hS) ?_; refine A_ready1 (i := 7) (by kernel_rfl) ?_; refine O_call rfl rfl (r_call Tryd.func17 Tryd.nm17 rfl) (headRaw_spec hbp (by omega) (by omega)) ?_; rintro v8 w8 ⟨rfl, hE⟩; replace hS := trivial; refine ⟨hS, ?_⟩; replace hbp := Blk.ext hbp hE; replace B13_2 := Blk.ext B13_2 hE; replace hX := hX.trans hE; refine A_ready1 (i := 8) (by kernel_rfl) ?_; have hC14 : Chg m w' _ := Chg.of_ext hX; have M14 := M'.ext hX; refine O_updateK (k := .string (str ds[i].p)) (v := .int .i64 (H.length : Nat)) rfl (by rfl) (by rfl) (by rfl) Tryd.underlying103 Tryd.underlying9 (by trivial) M14 ?_; intro w15 C15 M15; refine ⟨trivial, ?_⟩; have hbp15 := Chg.blk C15 hbp (fun q => hmp q.symm)
                    have hf15 : ∀ s, (fput f' (.string (str ds[i].p)) (.int .i64 (H.length : Nat)) (.string (str s))).getD (.int .i64 0) = .int .i64 ((if (ds.take (i + 1)).any (fun d => decide (d.p = s)) then H.length else lastR H s : Nat) : Int) := fun s => by
                      rw [List.take_succ_eq_append_getElem hlt', List.any_append]
                      by_cases hs : ds[i].p = s
                      · subst hs; rw [fput_same]
                        simp
                      · rw [fput_ne (fun q => hs (str_inj q).symm), hf' s]
                        simp [hs]
                    refine A_done (by kernel_rfl) ?_; refine W_region ?_; refine op rfl (r_add' rfl rfl (wrap_i64 (by omega) (by omega))) ?_; refine op rfl (r_moveV (v := .int _ _) rfl) ?_; refine WL_nil ?_; refine ⟨?_, by repeat (first | with_reducible exact Out.refl _ _ | with_reducible exact Out.mix | refine Out.put rfl ?_ | refine Out.mixin rfl ?_ | exact Out.refl _ _ | exact Out.mix)⟩; exact ⟨ds.length - (i + 1), by omega, i + 1, _, rfl, by omega, rfl, hbp15, M15, hf15, hC'.trans (hC14.trans C15)⟩
                  · refine O_call rfl rfl (r_call Tryd.func17 Tryd.nm17 rfl) (headRaw_spec hbp (by omega) (by omega)) ?_; rintro v8 w8 ⟨rfl, hE⟩; replace hS := trivial; refine ⟨hS, ?_⟩; replace hbp := Blk.ext hbp hE; replace B13_2 := Blk.ext B13_2 hE; replace hX := hX.trans hE; refine A_ready1 (i := 5) (by kernel_rfl) ?_; refine O_val rfl rfl (r_load (v := .string (str ds[i].p)) rfl Tryd.underlying9 rfl (Blk.cell B13_2 rfl)) (hS) ?_; refine A_ready1 (i := 8) (by kernel_rfl) ?_; have hC14 : Chg m w' _ := Chg.of_ext hX; have M14 := M'.ext hX; refine O_updateK (k := .string (str ds[i].p)) (v := .int .i64 (H.length : Nat)) rfl (by rfl) (by rfl) (by rfl) Tryd.underlying103 Tryd.underlying9 (by trivial) M14 ?_; intro w15 C15 M15; refine ⟨trivial, ?_⟩; have hbp15 := Chg.blk C15 hbp (fun q => hmp q.symm)
                    have hf15 : ∀ s, (fput f' (.string (str ds[i].p)) (.int .i64 (H.length : Nat)) (.string (str s))).getD (.int .i64 0) = .int .i64 ((if (ds.take (i + 1)).any (fun d => decide (d.p = s)) then H.length else lastR H s : Nat) : Int) := fun s => by
                      rw [List.take_succ_eq_append_getElem hlt', List.any_append]
                      by_cases hs : ds[i].p = s
                      · subst hs; rw [fput_same]
                        simp
                      · rw [fput_ne (fun q => hs (str_inj q).symm), hf' s]
                        simp [hs]
                    refine A_done (by kernel_rfl) ?_; refine W_region ?_; refine op rfl (r_add' rfl rfl (wrap_i64 (by omega) (by omega))) ?_; refine op rfl (r_moveV (v := .int _ _) rfl) ?_; refine WL_nil ?_; refine ⟨?_, by repeat (first | with_reducible exact Out.refl _ _ | with_reducible exact Out.mix | refine Out.put rfl ?_ | refine Out.mixin rfl ?_ | exact Out.refl _ _ | exact Out.mix)⟩; exact ⟨ds.length - (i + 1), by omega, i + 1, _, rfl, by omega, rfl, hbp15, M15, hf15, hC'.trans (hC14.trans C15)⟩
                · refine O_val rfl rfl (r_load (v := .string (str ds[i].p)) rfl Tryd.underlying9 rfl (Blk.cell B13_2 rfl)) (hS) ?_; refine A_ready2 (i := 3) (j := 7) (by kernel_rfl) ?_ ?_
                  · refine O_val rfl rfl (r_load (v := .map (some m)) rfl Tryd.underlying103 rfl (Blk.cell hbp rfl)) (hS) ?_; refine A_ready1 (i := 7) (by kernel_rfl) ?_; refine O_call rfl rfl (r_call Tryd.func17 Tryd.nm17 rfl) (headRaw_spec hbp (by omega) (by omega)) ?_; rintro v8 w8 ⟨rfl, hE⟩; replace hS := trivial; refine ⟨hS, ?_⟩; replace hbp := Blk.ext hbp hE; replace B13_2 := Blk.ext B13_2 hE; replace hX := hX.trans hE; refine A_ready1 (i := 8) (by kernel_rfl) ?_; have hC14 : Chg m w' _ := Chg.of_ext hX; have M14 := M'.ext hX; refine O_updateK (k := .string (str ds[i].p)) (v := .int .i64 (H.length : Nat)) rfl (by rfl) (by rfl) (by rfl) Tryd.underlying103 Tryd.underlying9 (by trivial) M14 ?_; intro w15 C15 M15; refine ⟨trivial, ?_⟩; have hbp15 := Chg.blk C15 hbp (fun q => hmp q.symm)
                    have hf15 : ∀ s, (fput f' (.string (str ds[i].p)) (.int .i64 (H.length : Nat)) (.string (str s))).getD (.int .i64 0) = .int .i64 ((if (ds.take (i + 1)).any (fun d => decide (d.p = s)) then H.length else lastR H s : Nat) : Int) := fun s => by
                      rw [List.take_succ_eq_append_getElem hlt', List.any_append]
                      by_cases hs : ds[i].p = s
                      · subst hs; rw [fput_same]
                        simp
                      · rw [fput_ne (fun q => hs (str_inj q).symm), hf' s]
                        simp [hs]
                    refine A_done (by kernel_rfl) ?_; refine W_region ?_; refine op rfl (r_add' rfl rfl (wrap_i64 (by omega) (by omega))) ?_; refine op rfl (r_moveV (v := .int _ _) rfl) ?_; refine WL_nil ?_; refine ⟨?_, by repeat (first | with_reducible exact Out.refl _ _ | with_reducible exact Out.mix | refine Out.put rfl ?_ | refine Out.mixin rfl ?_ | exact Out.refl _ _ | exact Out.mix)⟩; exact ⟨ds.length - (i + 1), by omega, i + 1, _, rfl, by omega, rfl, hbp15, M15, hf15, hC'.trans (hC14.trans C15)⟩
                  · refine O_call rfl rfl (r_call Tryd.func17 Tryd.nm17 rfl) (headRaw_spec hbp (by omega) (by omega)) ?_; rintro v8 w8 ⟨rfl, hE⟩; replace hS := trivial; refine ⟨hS, ?_⟩; replace hbp := Blk.ext hbp hE; replace B13_2 := Blk.ext B13_2 hE; replace hX := hX.trans hE; refine A_ready1 (i := 3) (by kernel_rfl) ?_; refine O_val rfl rfl (r_load (v := .map (some m)) rfl Tryd.underlying103 rfl (Blk.cell hbp rfl)) (hS) ?_; refine A_ready1 (i := 8) (by kernel_rfl) ?_; have hC14 : Chg m w' _ := Chg.of_ext hX; have M14 := M'.ext hX; refine O_updateK (k := .string (str ds[i].p)) (v := .int .i64 (H.length : Nat)) rfl (by rfl) (by rfl) (by rfl) Tryd.underlying103 Tryd.underlying9 (by trivial) M14 ?_; intro w15 C15 M15; refine ⟨trivial, ?_⟩; have hbp15 := Chg.blk C15 hbp (fun q => hmp q.symm)
                    have hf15 : ∀ s, (fput f' (.string (str ds[i].p)) (.int .i64 (H.length : Nat)) (.string (str s))).getD (.int .i64 0) = .int .i64 ((if (ds.take (i + 1)).any (fun d => decide (d.p = s)) then H.length else lastR H s : Nat) : Int) := fun s => by
                      rw [List.take_succ_eq_append_getElem hlt', List.any_append]
                      by_cases hs : ds[i].p = s
                      · subst hs; rw [fput_same]
                        simp
                      · rw [fput_ne (fun q => hs (str_inj q).symm), hf' s]
                        simp [hs]
                    refine A_done (by kernel_rfl) ?_; refine W_region ?_; refine op rfl (r_add' rfl rfl (wrap_i64 (by omega) (by omega))) ?_; refine op rfl (r_moveV (v := .int _ _) rfl) ?_; refine WL_nil ?_; refine ⟨?_, by repeat (first | with_reducible exact Out.refl _ _ | with_reducible exact Out.mix | refine Out.put rfl ?_ | refine Out.mixin rfl ?_ | exact Out.refl _ _ | exact Out.mix)⟩; exact ⟨ds.length - (i + 1), by omega, i + 1, _, rfl, by omega, rfl, hbp15, M15, hf15, hC'.trans (hC14.trans C15)⟩
                · refine O_call rfl rfl (r_call Tryd.func17 Tryd.nm17 rfl) (headRaw_spec hbp (by omega) (by omega)) ?_; rintro v8 w8 ⟨rfl, hE⟩; replace hS := trivial; refine ⟨hS, ?_⟩; replace hbp := Blk.ext hbp hE; replace B13_2 := Blk.ext B13_2 hE; replace hX := hX.trans hE; refine A_ready2 (i := 3) (j := 5) (by kernel_rfl) ?_ ?_
                  · refine O_val rfl rfl (r_load (v := .map (some m)) rfl Tryd.underlying103 rfl (Blk.cell hbp rfl)) (hS) ?_; refine A_ready1 (i := 5) (by kernel_rfl) ?_; refine O_val rfl rfl (r_load (v := .string (str ds[i].p)) rfl Tryd.underlying9 rfl (Blk.cell B13_2 rfl)) (hS) ?_; refine A_ready1 (i := 8) (by kernel_rfl) ?_; have hC14 : Chg m w' _ := Chg.of_ext hX; have M14 := M'.ext hX; refine O_updateK (k := .string (str ds[i].p)) (v := .int .i64 (H.length : Nat)) rfl (by rfl) (by rfl) (by rfl) Tryd.underlying103 Tryd.underlying9 (by trivial) M14 ?_; intro w15 C15 M15; refine ⟨trivial, ?_⟩; have hbp15 := Chg.blk C15 hbp (fun q => hmp q.symm)
                    have hf15 : ∀ s, (fput f' (.string (str ds[i].p)) (.int .i64 (H.length : Nat)) (.string (str s))).getD (.int .i64 0) = .int .i64 ((if (ds.take (i + 1)).any (fun d => decide (d.p = s)) then H.length else lastR H s : Nat) : Int) := fun s => by
                      rw [List.take_succ_eq_append_getElem hlt', List.any_append]
                      by_cases hs : ds[i].p = s
                      · subst hs; rw [fput_same]
                        simp
                      · rw [fput_ne (fun q => hs (str_inj q).symm), hf' s]
                        simp [hs]
                    refine A_done (by kernel_rfl) ?_; refine W_region ?_; refine op rfl (r_add' rfl rfl (wrap_i64 (by omega) (by omega))) ?_; refine op rfl (r_moveV (v := .int _ _) rfl) ?_; refine WL_nil ?_; refine ⟨?_, by repeat (first | with_reducible exact Out.refl _ _ | with_reducible exact Out.mix | refine Out.put rfl ?_ | refine Out.mixin rfl ?_ | exact Out.refl _ _ | exact Out.mix)⟩; exact ⟨ds.length - (i + 1), by omega, i + 1, _, rfl, by omega, rfl, hbp15, M15, hf15, hC'.trans (hC14.trans C15)⟩
                  · refine O_val rfl rfl (r_load (v := .string (str ds[i].p)) rfl Tryd.underlying9 rfl (Blk.cell B13_2 rfl)) (hS) ?_; refine A_ready1 (i := 3) (by kernel_rfl) ?_; refine O_val rfl rfl (r_load (v := .map (some m)) rfl Tryd.underlying103 rfl (Blk.cell hbp rfl)) (hS) ?_; refine A_ready1 (i := 8) (by kernel_rfl) ?_; have hC14 : Chg m w' _ := Chg.of_ext hX; have M14 := M'.ext hX; refine O_updateK (k := .string (str ds[i].p)) (v := .int .i64 (H.length : Nat)) rfl (by rfl) (by rfl) (by rfl) Tryd.underlying103 Tryd.underlying9 (by trivial) M14 ?_; intro w15 C15 M15; refine ⟨trivial, ?_⟩; have hbp15 := Chg.blk C15 hbp (fun q => hmp q.symm)
                    have hf15 : ∀ s, (fput f' (.string (str ds[i].p)) (.int .i64 (H.length : Nat)) (.string (str s))).getD (.int .i64 0) = .int .i64 ((if (ds.take (i + 1)).any (fun d => decide (d.p = s)) then H.length else lastR H s : Nat) : Int) := fun s => by
                      rw [List.take_succ_eq_append_getElem hlt', List.any_append]
                      by_cases hs : ds[i].p = s
                      · subst hs; rw [fput_same]
                        simp
                      · rw [fput_ne (fun q => hs (str_inj q).symm), hf' s]
                        simp [hs]
                    refine A_done (by kernel_rfl) ?_; refine W_region ?_; refine op rfl (r_add' rfl rfl (wrap_i64 (by omega) (by omega))) ?_; refine op rfl (r_moveV (v := .int _ _) rfl) ?_; refine WL_nil ?_; refine ⟨?_, by repeat (first | with_reducible exact Out.refl _ _ | with_reducible exact Out.mix | refine Out.put rfl ?_ | refine Out.mixin rfl ?_ | exact Out.refl _ _ | exact Out.mix)⟩; exact ⟨ds.length - (i + 1), by omega, i + 1, _, rfl, by omega, rfl, hbp15, M15, hf15, hC'.trans (hC14.trans C15)⟩
              · obtain rfl : i = ds.length := by omega
                rw [List.take_length] at hf'
                rw [hel] at hO12 hop
                refine W_exit (blk_hit ?_); refine W_seq ?_; refine W_region ?_; refine op rfl (r_moveV (v := .pointer _) rfl) ?_; refine opCv rfl (r_call Tryd.func17 Tryd.nm17 rfl) (headRaw_spec hbp (by omega) (by omega)) ?_; rintro v9 w9 ⟨rfl, hE⟩; replace hbp := Blk.ext hbp hE; replace hX := hX.trans hE; refine op rfl (r_assignV (v := .int _ _) rfl) ?_; refine op rfl (r_assignV (v := .int _ _) rfl) ?_; refine WL_nil ?_; refine W_ret (finX_ret ?_); refine fin2 ?_
                first
                  | (rw [c_nil (by omega)]; exact ⟨_, rfl, rfl, hun _ hX⟩)
                  | (rw [c_full (by omega) (by omega)]; exact ⟨_, rfl, rfl, hun _ hX⟩)
                  | (rw [c_err (by omega) (by omega) ht36]; exact ⟨_, rfl, rfl, hun _ hX⟩)
                  | (have hM9 : Mv Z w w9 := hMw.trans (Mv.of_ext hE)
                     rw [c_ok (by omega) (by omega) hz0]; refine ⟨_, rfl, rfl, ⟨m, .slice A2 (H.length + 1) cap2, (fun b => F b ∨ since w w6 b), ?_, ?_⟩, hM9⟩
                     · have hw9 : HistAt p m (.slice A2 (H.length + 1) cap2) (fun b => F b ∨ since w w6 b) w' (H ++ [⟨ds, (applyT (headT H) ds).2⟩]) := by
                         refine ⟨hbp', hO12.keep (fun b hb => hC'.block b (hop b hb).1 (hop b hb).2.2.1) (fun _ h => h) (fun g9 hg9 => hC'.block g9 (hO12.lt hg9).2 (fun q => ?_)), ⟨f', M', fun s => ?_⟩, fun q => ?_, fun b hb => ⟨Nat.lt_of_lt_of_le (hop b hb).1 hC'.size, (hop b hb).2⟩, fun r hr => ?_, by simp, by simp; omega⟩
                         · rcases hoc g9 (by rw [hel]; exact hg9) with k | k
                           · exact hmo (q ▸ k)
                           · omega
                         · rw [hf' s, lastR_snoc]; rfl
                         · rcases hoc p (by rw [hel]; exact q) with k | k
                           · exact h.opv k
                           · omega
                         · rcases List.mem_append.1 hr with q | q
                           · exact h.ok r q
                           · rw [List.mem_singleton.1 q]; exact ⟨hru, hdl⟩
                       exact hw9.keep (fun b hb => hE.block b (hw9.lt b hb))
                     · rintro b (q | q | q | q)
                       · exact Or.inl (hZ b (Or.inl q))
                       · exact Or.inl (hZ b (Or.inr (Or.inl q)))
                       · rcases hoc b (by rw [hel]; exact q) with k | k
                         · exact Or.inl (hZ b (Or.inr (Or.inr (Or.inl k))))
                         · refine Or.inr ⟨by omega, ?_⟩; have := (hO12.lt q).2; have := hC'.size; have := hE.size
                           omega
                       · rcases q with q | q
                         · exact Or.inl (hZ b (Or.inr (Or.inr (Or.inr q))))
                         · have q2 := q.2; have := hC'.size; have := hE.size
                           exact Or.inr ⟨q.1, by omega⟩)
end Go.Proofs.YtmedmajdoecjfaaDoor
