/-
  The walk of tree.Apply.
-/
import Derived.Test.YtmedmajdoecjfaaDoorFacts
import Derived.Test.YtmedmajdoecjfaaDoorTreeV
namespace Go.Proofs.YtmedmajdoecjfaaDoor
open Go Go.Eng Go.RowKit Go.Proofs
set_option linter.unusedVariables false
set_option linter.unusedSimpArgs false
set_option maxHeartbeats 400000

theorem bd_run {a b c i : Nat} (hl : (a + b + 1) * 40 ≤ 140737488355328) (h : c ≤ a + i) (hi : i < b) : (c + 1) * 40 ≤ 140737488355328 := Nat.le_trans (Nat.mul_le_mul_right 40 (by omega)) hl
theorem bd_end {a b c : Nat} (hl : (a + b + 1) * 40 ≤ 140737488355328) (h : c ≤ a + b) : c * 40 ≤ 140737488355328 ∧ c ≤ 140737488355328 :=
  have h1 : c * 40 ≤ 140737488355328 := Nat.le_trans (Nat.mul_le_mul_right 40 (by omega)) hl
  ⟨h1, by omega⟩
theorem apply_spec {A : Option Addr} {cap : Nat} {l : Tree} {Ad : Option Addr} {cd : Nat} {ds : List Dl} {w : World} {G : Nat → Prop} (hG : ∀ b, G b → b < w.heap.size) (hrow : fiT.Row w G A l) (hdrow : dlT.Row w G Ad ds) (hl : (l.length + ds.length + 1) * 40 ≤ 140737488355328) :
    Calls Tryd.prog 44 #[.slice A l.length cap, .slice Ad ds.length cd] w (fun en w' => ∃ v, en = .returned v ∧ ∃ v1, v = .tuple #[v1, .int .i64 (applyT l ds).1] ∧ OwnT w w' v1 (applyT l ds).2 ∧ Ext w w') := by
  have hdat : ∀ i (h : i < ds.length), ∃ g off Ai ci, Ad = some ⟨g, off, none⟩ ∧ ds[i].b.length ≤ ci ∧ ds[i].b.length ≤ 140737488355328 ∧ ds[i].p.length ≤ 140737488355328 ∧ Ty.byte.Row w G Ai ds[i].b ∧ ∀ j, j < 3 → w.cell? ⟨g, off + i * 3 + j, none⟩ = [Value.int .i64 ds[i].k, .string (str ds[i].p), .slice Ai ds[i].b.length ci][j]? := fun i h => by
    obtain ⟨g, off, xs, hA, _, hx, hc⟩ := hdrow.cells h; obtain ⟨Ai, ci, rfl, _, h1, h2, h3, h4⟩ := dl_cells hx; exact ⟨g, off, Ai, ci, hA, h1, h2, h3, h4, hc⟩
  refine calls' (n := 41) (rs := #[.tmp 4, .tmp 5]) (l := [.slice A l.length cap, .slice Ad ds.length cd]) Tryd.func44 rfl rfl rfl rfl rfl ?_; have hX := Ext.refl w; refine W_seq ?_; refine W_region ?_; refine op rfl (r_assignV (v := .slice _ _ _) rfl) ?_; refine op rfl (r_assignV (v := .int _ _) rfl) ?_; refine WL_nil ?_; refine W_seq ?_; refine W_region ?_; refine op rfl (r_moveV (v := .slice _ _ _) rfl) ?_; refine opCv rfl (r_call Tryd.func65 Tryd.nm65 rfl) (copied_spec (fun b hb ↦ Nat.lt_of_lt_of_le (hG b hb) hX.size) (hrow.keep (fun b hb ↦ hX.block b (hG b hb)) (fun _ h ↦ h)) (by omega)) ?_; rintro v w2 ⟨hO, hE⟩; replace hX := hX.trans hE; obtain ⟨A0, cap0, rfl, hc0, -⟩ := hO.rd; refine op rfl (r_assignV (v := .slice _ _ _) rfl) ?_; refine WL_nil ?_; refine W_seq ?_; refine W_seq ?_; refine W_region ?_; refine op rfl (r_moveV (v := .slice _ _ _) rfl) ?_; refine op rfl (r_len_slice rfl Tryd.underlying39) ?_; refine op rfl (r_moveV (v := .int _ _) rfl) ?_; refine WL_nil ?_; refine W_block ?_; refine W_loop [4, 5, 6, 8, 9, 15, 16, 17, 18, 19, 20, 21, 22, 23, 24, 25, 26, 27, 28] (fun q e' w' => ∃ (i : Nat) (t : Tree) (A1 : Option Addr) (cap1 : Nat), q = ds.length - i ∧ i ≤ ds.length ∧ e' 15 = .int .i64 i ∧ e' 6 = .slice A1 t.length cap1 ∧ OwnT w w' (.slice A1 t.length cap1) t ∧ runT l ds = runT t (ds.drop i) ∧ t.length ≤ l.length + i ∧ Ext w w') (ds.length) ?_ ?_
  · exact ⟨0, l, A0, cap0, by omega, by omega, rfl, rfl, hO, rfl, by omega, hX⟩
  intro k g w' hI; obtain ⟨i, t, A1, cap1, hq, hi, h15, h6, hO', hrun, htl, hX'⟩ := hI; clear hX hO; have hX := Ext.refl w'; refine W_set (i := 15) h15 ?_; refine W_set (i := 6) h6 ?_; refine W_seq ?_; refine W_region ?_; refine op rfl (r_lss rfl rfl) ?_; refine WL_nil ?_; refine W_seq ?_; refine W_ifp rfl (fun ht16 => ?_) (fun ht16 => ?_)
  · have hlt : i < ds.length := by omega
    obtain ⟨ga, off, Ai, ci, hA, hbc, hbl, hpl, hbr, hcell⟩ := hdat i hlt; have hbd : (t.length + 1) * 40 ≤ 140737488355328 := bd_run hl htl hlt; have hdr : ds.drop i = ds[i] :: ds.drop (i + 1) := List.drop_eq_getElem_cons hlt
    have hst : ∀ W, Ext w' W → Calls Tryd.prog 66 #[.slice A1 t.length cap1, .agg #[.int .i64 ds[i].k, .string (str ds[i].p), .slice Ai ds[i].b.length ci]] W (fun en w'' => ∃ v, en = .returned v ∧ ∃ v1, v = .tuple #[v1, .int .i64 (stepT t ds[i]).1] ∧ OwnT W w'' v1 (stepT t ds[i]).2 ∧ Ext W w'') := fun W he => by
      obtain ⟨A4, cap4, hv4, -, hr4⟩ := (hO'.ext he).rd
      simp only [Value.slice.injEq, true_and] at hv4
      obtain ⟨rfl, rfl⟩ := hv4; have hXw := hX'.trans he; exact step_spec (cap := cap1) (d := ds[i]) (w := W) (G := old W) (fun b hb => hb) (hr4.keep (fun _ _ => rfl) (fun b hb => hb.2)) hbd hbc hbl hpl (hbr.keep (fun b hb => hXw.block b (hG b hb)) (fun b hb => Nat.lt_of_lt_of_le (hG b hb) hXw.size))
    refine W_skip ?_; refine W_seq ?_; refine W_block ?_; refine W_seq ?_; refine W_region ?_; refine op rfl (r_indexAddrK (by rw [← hA]; rfl) rfl Tryd.underlying39 Tryd.sz38 hlt) ?_; refine op rfl (r_load_agg (cs := [.int .i64 ds[i].k, .string (str ds[i].p), .slice Ai ds[i].b.length ci]) rfl Tryd.underlying38 rfl Tryd.sz38 rfl (ext_row (hX'.trans hX) rfl hcell)) ?_; refine op_alloc rfl Tryd.zero38 ?_; intro w4_2 b4_2 E4_2 B4_2 L4_2
    have hG4_2 : w'.heap.size ≤ b4_2 := by have := hX.size; omega
    replace hX := hX.trans E4_2; refine op_storeRow rfl rfl Tryd.sz38 B4_2 rfl rfl ?_; intro w4_3 C4_3 BB4_3; replace hX := hX.chg C4_3 hG4_2; replace B4_2 := BB4_3; refine WL_nil ?_; refine W_seq ?_; refine W_region ?_; refine op rfl (r_assignV (v := .int _ _) rfl) ?_; refine WL_nil ?_; refine W_seq ?_; refine W_region ?_; refine op rfl (r_moveV (v := .slice _ _ _) rfl) ?_; refine op rfl (r_loadRow rfl B4_2 Tryd.underlying38 rfl Tryd.sz38) ?_; have hXl := (hX'.trans hX).size; refine opCv rfl (r_call Tryd.func66 Tryd.nm66 rfl) (hst _ hX) ?_; rintro v6 w6 ⟨v7, rfl, hO6, hE⟩; replace B4_2 := Blk.ext B4_2 hE; replace hX := hX.trans hE; replace hO6 := OwnT.low hO6 hXl; refine op rfl (r_moveV (v := .tuple #[v7, .int .i64 (stepT t ds[i]).1]) rfl) ?_; refine op rfl (r_extract (vs := [v7, .int .i64 (stepT t ds[i]).1]) rfl rfl) ?_; refine op rfl (r_extract (vs := [v7, .int .i64 (stepT t ds[i]).1]) rfl rfl) ?_; refine op rfl (r_assignV (v := v7) rfl) ?_; refine op rfl (r_assignV (v := .int .i64 (stepT t ds[i]).1) rfl) ?_; refine WL_nil ?_; refine W_seq ?_; refine W_region ?_; refine op rfl (r_moveV (v := .int .i64 (stepT t ds[i]).1) rfl) ?_; refine op rfl (r_neq rfl rfl) ?_; refine WL_nil ?_; refine W_ifp rfl (fun ht26 => ?_) (fun ht26 => ?_)
    · refine W_seq ?_; refine W_region ?_; refine op rfl (r_moveV (v := .int .i64 (stepT t ds[i]).1) rfl) ?_; refine op rfl (r_assignV (v := .slice _ _ _) rfl) ?_; refine op rfl (r_assignV (v := .int .i64 (stepT t ds[i]).1) rfl) ?_; refine WL_nil ?_; refine W_ret (blk_ret (blk_ret (finX_ret ?_))); refine fin2 ?_
      first
        | (have hE9 : applyT l ds = ((stepT t ds[i]).1, []) := apE (by rw [hrun, hdr, run_consE ht26]) ht26
           rw [hE9]; exact ⟨_, rfl, _, rfl, .nil, hX'.trans hX⟩)
        | (have h3 : 1000 < t.length ∨ (∃ x ∈ t, 65536 < x.b.length) := by first | exact Or.inr ht29 | exact Or.inl (by omega)
           rw [ap3 hrun' h3]; exact ⟨_, rfl, _, rfl, .nil, hX'.trans hX⟩)
        | (have h3 : ¬ (1000 < t.length ∨ (∃ x ∈ t, 65536 < x.b.length)) := fun q => q.elim (fun q => by omega) ht29
           first
             | (rw [ap4 hrun' h3 ht36]; exact ⟨_, rfl, _, rfl, .nil, hX'.trans hX⟩)
             | (rw [ap0 hrun' h3 (Classical.not_not.1 ht36)]; exact ⟨_, rfl, _, rfl, hO'.ext hX, hX'.trans hX⟩))
    · refine W_skip ?_; refine W_region ?_; refine op rfl (r_add' rfl rfl (wrap_i64 (by omega) (by omega))) ?_; refine op rfl (r_moveV (v := .int _ _) rfl) ?_; refine WL_nil ?_; refine ⟨?_, by repeat (first | with_reducible exact Out.refl _ _ | with_reducible exact Out.mix | refine Out.put rfl ?_ | refine Out.mixin rfl ?_ | exact Out.refl _ _ | exact Out.mix)⟩; have hs0 : (stepT t ds[i]).1 = 0 := Classical.not_not.1 ht26; obtain ⟨A2, cap2, rfl, -, -⟩ := hO6.rd; exact ⟨ds.length - (i + 1), by omega, i + 1, (stepT t ds[i]).2, A2, cap2, rfl, by omega, rfl, rfl, hO6, by rw [hrun, hdr, run_cons0 hs0], by have := step_len t ds[i]; omega, hX'.trans hX⟩
  · obtain rfl : i = ds.length := by omega
    have hrun' : runT l ds = (0, t) := by rw [hrun, List.drop_length]; rfl
    obtain ⟨A4, cap4, hv4, -, hr4⟩ := hO'.rd
    simp only [Value.slice.injEq, true_and] at hv4
    obtain ⟨rfl, rfl⟩ := hv4
    have hr5 : ∀ W, Ext w' W → fiT.Row W (old W) A1 t := fun W he => hr4.keep (fun b hb => he.block b hb.2) (fun b hb => Nat.lt_of_lt_of_le hb.2 he.size)
    have hcl : ∀ W, Ext w' W → Calls Tryd.prog 63 #[.slice A1 t.length cap1, .func (.func 67) #[] #[]] W (fun en w' => ∃ v, en = .returned v ∧ v = .bool (decide (∃ x ∈ t, 65536 < x.b.length)) ∧ Ext W w') := fun W he => containsLong (hr5 W he) (bd_end hl htl).2
    have hri : ∀ W, Ext w' W → Calls Tryd.prog 43 #[.slice A1 t.length cap1] W (fun en w' => ∃ v, en = .returned v ∧ v = .bool (decide (rightT t)) ∧ Ext W w') := fun W he => treeRight_spec (G := old W) (fun b hb => hb) (hr5 W he) (bd_end hl htl).1
    refine W_exit (blk_hit ?_); refine W_seq ?_; refine W_region ?_; refine op rfl (r_assignV (v := .func (.func 67) #[] #[]) rfl) ?_; refine WL_nil ?_; refine W_seq ?_; refine W_block ?_; refine W_seq ?_; refine W_seq ?_; refine W_region ?_; refine op rfl (r_moveV (v := .slice _ _ _) rfl) ?_; refine op rfl (r_len_slice rfl Tryd.underlying23) ?_; refine op rfl (r_gtr rfl rfl) ?_; refine op rfl (r_assignV (v := .bool _) rfl) ?_; refine WL_nil ?_; refine W_ifp rfl (fun ht29 => ?_) (fun ht29 => ?_)
    · refine W_skip ?_; refine W_then (congrArg Value.bool (decide_eq_true ht29)) ?_; refine W_seq ?_; refine W_region ?_; refine op rfl (r_assignV (v := .slice _ _ _) rfl) ?_; refine op rfl (r_assignV (v := .int _ _) rfl) ?_; refine WL_nil ?_; refine W_ret (blk_ret (finX_ret ?_)); refine fin2 ?_
      first
        | (have hE9 : applyT l ds = ((stepT t ds[i]).1, []) := apE (by rw [hrun, hdr, run_consE ht26]) ht26
           rw [hE9]; exact ⟨_, rfl, _, rfl, .nil, hX'.trans hX⟩)
        | (have h3 : 1000 < t.length ∨ (∃ x ∈ t, 65536 < x.b.length) := by first | exact Or.inr ht29 | exact Or.inl (by omega)
           rw [ap3 hrun' h3]; exact ⟨_, rfl, _, rfl, .nil, hX'.trans hX⟩)
        | (have h3 : ¬ (1000 < t.length ∨ (∃ x ∈ t, 65536 < x.b.length)) := fun q => q.elim (fun q => by omega) ht29
           first
             | (rw [ap4 hrun' h3 ht36]; exact ⟨_, rfl, _, rfl, .nil, hX'.trans hX⟩)
             | (rw [ap0 hrun' h3 (Classical.not_not.1 ht36)]; exact ⟨_, rfl, _, rfl, hO'.ext hX, hX'.trans hX⟩))
    · refine W_region ?_; refine op rfl (r_moveV (v := .slice _ _ _) rfl) ?_; refine op rfl (r_moveV (v := .func (.func 67) #[] #[]) rfl) ?_; refine opCv rfl (r_call Tryd.func63 Tryd.nm63 rfl) (hcl _ hX) ?_; rintro v7 w7 ⟨rfl, hE⟩; replace hX := hX.trans hE; refine op rfl (r_assignV (v := .bool _) rfl) ?_; refine WL_nil ?_; refine W_ifp rfl (fun ht29 => ?_) (fun ht29 => ?_)
      · refine W_seq ?_; refine W_region ?_; refine op rfl (r_assignV (v := .slice _ _ _) rfl) ?_; refine op rfl (r_assignV (v := .int _ _) rfl) ?_; refine WL_nil ?_; refine W_ret (blk_ret (finX_ret ?_)); refine fin2 ?_
        first
          | (have hE9 : applyT l ds = ((stepT t ds[i]).1, []) := apE (by rw [hrun, hdr, run_consE ht26]) ht26
             rw [hE9]; exact ⟨_, rfl, _, rfl, .nil, hX'.trans hX⟩)
          | (have h3 : 1000 < t.length ∨ (∃ x ∈ t, 65536 < x.b.length) := by first | exact Or.inr ht29 | exact Or.inl (by omega)
             rw [ap3 hrun' h3]; exact ⟨_, rfl, _, rfl, .nil, hX'.trans hX⟩)
          | (have h3 : ¬ (1000 < t.length ∨ (∃ x ∈ t, 65536 < x.b.length)) := fun q => q.elim (fun q => by omega) ht29
             first
               | (rw [ap4 hrun' h3 ht36]; exact ⟨_, rfl, _, rfl, .nil, hX'.trans hX⟩)
               | (rw [ap0 hrun' h3 (Classical.not_not.1 ht36)]; exact ⟨_, rfl, _, rfl, hO'.ext hX, hX'.trans hX⟩))
      · refine W_seq ?_; refine W_region ?_; refine op rfl (r_moveV (v := .slice _ _ _) rfl) ?_; refine opCv rfl (r_call Tryd.func43 Tryd.nm43 rfl) (hri _ hX) ?_; rintro v8 w8 ⟨rfl, hE⟩; replace hX := hX.trans hE; refine op rfl (r_notP rfl) ?_; refine op rfl (r_assignV (v := .bool _) rfl) ?_; refine WL_nil ?_; refine W_ifp rfl (fun ht36 => ?_) (fun ht36 => ?_)
        · refine W_seq ?_; refine W_region ?_; refine op rfl (r_assignV (v := .slice _ _ _) rfl) ?_; refine op rfl (r_assignV (v := .int _ _) rfl) ?_; refine WL_nil ?_; refine W_ret (blk_ret (finX_ret ?_)); refine fin2 ?_
          first
            | (have hE9 : applyT l ds = ((stepT t ds[i]).1, []) := apE (by rw [hrun, hdr, run_consE ht26]) ht26
               rw [hE9]; exact ⟨_, rfl, _, rfl, .nil, hX'.trans hX⟩)
            | (have h3 : 1000 < t.length ∨ (∃ x ∈ t, 65536 < x.b.length) := by first | exact Or.inr ht29 | exact Or.inl (by omega)
               rw [ap3 hrun' h3]; exact ⟨_, rfl, _, rfl, .nil, hX'.trans hX⟩)
            | (have h3 : ¬ (1000 < t.length ∨ (∃ x ∈ t, 65536 < x.b.length)) := fun q => q.elim (fun q => by omega) ht29
               first
                 | (rw [ap4 hrun' h3 ht36]; exact ⟨_, rfl, _, rfl, .nil, hX'.trans hX⟩)
                 | (rw [ap0 hrun' h3 (Classical.not_not.1 ht36)]; exact ⟨_, rfl, _, rfl, hO'.ext hX, hX'.trans hX⟩))
        · refine W_skip ?_; refine W_seq ?_; refine W_region ?_; refine op rfl (r_moveV (v := .slice _ _ _) rfl) ?_; refine op rfl (r_assignV (v := .slice _ _ _) rfl) ?_; refine op rfl (r_assignV (v := .int _ _) rfl) ?_; refine WL_nil ?_; refine W_ret (finX_ret ?_); refine fin2 ?_
          first
            | (have hE9 : applyT l ds = ((stepT t ds[i]).1, []) := apE (by rw [hrun, hdr, run_consE ht26]) ht26
               rw [hE9]; exact ⟨_, rfl, _, rfl, .nil, hX'.trans hX⟩)
            | (have h3 : 1000 < t.length ∨ (∃ x ∈ t, 65536 < x.b.length) := by first | exact Or.inr ht29 | exact Or.inl (by omega)
               rw [ap3 hrun' h3]; exact ⟨_, rfl, _, rfl, .nil, hX'.trans hX⟩)
            | (have h3 : ¬ (1000 < t.length ∨ (∃ x ∈ t, 65536 < x.b.length)) := fun q => q.elim (fun q => by omega) ht29
               first
                 | (rw [ap4 hrun' h3 ht36]; exact ⟨_, rfl, _, rfl, .nil, hX'.trans hX⟩)
                 | (rw [ap0 hrun' h3 (Classical.not_not.1 ht36)]; exact ⟨_, rfl, _, rfl, hO'.ext hX, hX'.trans hX⟩))
end Go.Proofs.YtmedmajdoecjfaaDoor
