/-
  What the laws on histories share: sizes, what is known.
-/
import Derived.Test.YtmedmajdoecjfaaDoorFacts
import Derived.Test.YtmedmajdoecjfaaDoorHistU
import Derived.Test.YtmedmajdoecjfaaDoorWide
namespace Go.Proofs.YtmedmajdoecjfaaDoor
open Go Go.Eng Go.RowKit Go.Proofs
set_option linter.unusedVariables false
set_option linter.unusedSimpArgs false
set_option maxHeartbeats 2000000

abbrev dlsT : Ty (List Dl) := dlT.sliceW 48
theorem fi_at {A : Option Addr} {t : Tree} {w : World} {G : Nat → Prop} (hrow : fiT.Row w G A t) : ∀ i (h : i < t.length), ∃ g off Ai ci, A = some ⟨g, off, none⟩ ∧ ∀ j, j < 2 → w.cell? ⟨g, off + i * 2 + j, none⟩ = [Value.string (str t[i].p), .slice Ai t[i].b.length ci][j]? := fun i h => by
  obtain ⟨g, off, xs, hA, _, hx, hc⟩ := hrow.cells h
  obtain ⟨Ai, ci, rfl, -⟩ := fi_cells hx
  exact ⟨g, off, Ai, ci, hA, hc⟩
theorem dl_at {A : Option Addr} {t : List Dl} {w : World} {G : Nat → Prop} (hrow : dlT.Row w G A t) : ∀ i (h : i < t.length), ∃ g off Ai ci, A = some ⟨g, off, none⟩ ∧ ∀ j, j < 3 → w.cell? ⟨g, off + i * 3 + j, none⟩ = [Value.int .i64 t[i].k, .string (str t[i].p), .slice Ai t[i].b.length ci][j]? := fun i h => by
  obtain ⟨g, off, xs, hA, _, hx, hc⟩ := hrow.cells h
  obtain ⟨Ai, ci, rfl, -⟩ := dl_cells hx
  exact ⟨g, off, Ai, ci, hA, hc⟩
theorem long_spec {A : Option Addr} {cap : Nat} {t : Tree} {w : World} {G : Nat → Prop} (hrow : fiT.Row w G A t) (hl : t.length ≤ 140737488355328) :
    Calls Tryd.prog 10 #[.slice A t.length cap] w (fun en w' => ∃ v, en = .returned v ∧ ∃ n, v = .int .i64 n ∧ Ext w w') := by
  have hat := fi_at hrow
  refine calls' (n := 28) (rs := #[.tmp 2]) (l := [.slice A t.length cap]) Tryd.func10 rfl rfl rfl rfl rfl ?_
  have hX := Ext.refl w
  refine W_seq ?_
  refine W_region ?_
  refine op rfl (r_assignV (v := .int _ _) rfl) ?_
  refine WL_nil ?_
  refine W_seq ?_
  refine W_region ?_
  refine op rfl (r_assignV (v := .int _ _) rfl) ?_
  refine WL_nil ?_
  refine W_seq ?_
  refine W_seq ?_
  refine W_region ?_
  refine op rfl (r_assignV (v := .int _ _) rfl) ?_
  refine WL_nil ?_
  refine W_block ?_
  refine W_loop [3, 4, 5, 6, 7, 8, 9, 10, 11, 12, 13, 14, 15, 16, 17, 18, 19, 20, 21, 22, 23, 24, 25, 26] (fun q e' w' => ∃ (i : Nat) (n : Int), q = t.length - i ∧ i ≤ t.length ∧ e' 4 = .int .i64 i ∧ e' 3 = .int .i64 n ∧ Ext w w') (t.length) ?_ ?_
  · exact ⟨0, _, by omega, by omega, rfl, rfl, hX⟩
  intro k g w' hI
  obtain ⟨i, n, hq, hi, h4, h3, hX'⟩ := hI
  clear hX
  have hX := hX'
  refine W_set (i := 4) h4 ?_
  refine W_set (i := 3) h3 ?_
  refine W_seq ?_
  refine W_seq ?_
  refine W_region ?_
  refine op rfl (r_moveV (v := .int _ _) rfl) ?_
  refine op rfl (r_moveV (v := .slice _ _ _) rfl) ?_
  refine op rfl (r_len_slice rfl Tryd.underlying23) ?_
  refine op rfl (r_lss rfl rfl) ?_
  refine WL_nil ?_
  refine W_ifp rfl (fun ht8 => ?_) (fun ht8 => ?_)
  · have hlt : i < t.length := by omega
    obtain ⟨g1, off1, Ai, ci, hA, hcell⟩ := hat i hlt
    refine W_skip ?_
    refine W_seq ?_
    refine W_block ?_
    refine W_drawF (W0 := w) (fun b : Nat => False) Tryd.wd rfl ?_
    intro wd5 hD
    replace hX := hX.trans hD
    have hS : Ext w wd5 ∧ Same (fun b : Nat => False) wd5 wd5 := ⟨hX, fun _ _ => rfl⟩
    refine A_take (i := 0) rfl (by kernel_rfl) (by kernel_rfl) (by kernel_rfl) rfl hS (fun _ hw => r_moveV (v := .int _ _) rfl) ?_
    refine A_take (i := 1) rfl (by kernel_rfl) (by kernel_rfl) (by kernel_rfl) rfl hS (fun _ hw => r_add rfl rfl) ?_
    refine A_take (i := 2) rfl (by kernel_rfl) (by kernel_rfl) (by kernel_rfl) rfl hS (fun _ hw => r_moveV (v := .slice _ _ _) rfl) ?_
    refine A_take (i := 3) rfl (by kernel_rfl) (by kernel_rfl) (by kernel_rfl) rfl hS (fun _ hw => r_moveV (v := .int _ _) rfl) ?_
    refine A_take (i := 4) rfl (by kernel_rfl) (by kernel_rfl) (by kernel_rfl) rfl hS (fun _ hw => r_indexAddrK (by rw [← hA]; rfl) rfl Tryd.underlying23 Tryd.sz35 hlt) ?_
    refine A_take (i := 5) rfl (by kernel_rfl) (by kernel_rfl) (by kernel_rfl) rfl hS (fun _ hw => r_fieldAddr rfl Tryd.fld35_0 rfl) ?_
    refine A_take (i := 6) rfl (by kernel_rfl) (by kernel_rfl) (by kernel_rfl) rfl hS (fun _ hw => r_load (v := .string (str t[i].p)) rfl Tryd.underlying9 rfl (ext_cell hw.1 (hcell 0 (by omega)))) ?_
    refine A_take (i := 7) rfl (by kernel_rfl) (by kernel_rfl) (by kernel_rfl) rfl hS (fun _ hw => rt_len rfl Tryd.underlying9) ?_
    refine A_take (i := 8) rfl (by kernel_rfl) (by kernel_rfl) (by kernel_rfl) rfl hS (fun _ hw => r_add rfl rfl) ?_
    refine A_take (i := 9) rfl (by kernel_rfl) (by kernel_rfl) (by kernel_rfl) rfl hS (fun _ hw => r_moveV (v := .slice _ _ _) rfl) ?_
    refine A_take (i := 10) rfl (by kernel_rfl) (by kernel_rfl) (by kernel_rfl) rfl hS (fun _ hw => r_moveV (v := .int _ _) rfl) ?_
    refine A_take (i := 11) rfl (by kernel_rfl) (by kernel_rfl) (by kernel_rfl) rfl hS (fun _ hw => r_indexAddrK (by rw [← hA]; rfl) rfl Tryd.underlying23 Tryd.sz35 hlt) ?_
    refine A_take (i := 12) rfl (by kernel_rfl) (by kernel_rfl) (by kernel_rfl) rfl hS (fun _ hw => r_fieldAddr rfl Tryd.fld35_1 rfl) ?_
    refine A_take (i := 13) rfl (by kernel_rfl) (by kernel_rfl) (by kernel_rfl) rfl hS (fun _ hw => r_load (v := .slice Ai t[i].b.length ci) rfl Tryd.underlying24 rfl (ext_cell hw.1 (hcell 1 (by omega)))) ?_
    refine A_take (i := 14) rfl (by kernel_rfl) (by kernel_rfl) (by kernel_rfl) rfl hS (fun _ hw => r_len_slice rfl Tryd.underlying24) ?_
    refine A_take (i := 15) rfl (by kernel_rfl) (by kernel_rfl) (by kernel_rfl) rfl hS (fun _ hw => r_add rfl rfl) ?_
    refine A_take (i := 16) rfl (by kernel_rfl) (by kernel_rfl) (by kernel_rfl) rfl hS (fun _ hw => r_assignV (v := .int _ _) rfl) ?_
    refine A_done (by kernel_rfl) ?_
    refine W_region ?_
    refine op rfl (r_moveV (v := .int _ _) rfl) ?_
    refine op rfl (r_add' (r := ((i + 1 : Nat) : Int)) rfl rfl (by rw [wrap_i64 (by omega) (by omega)]; omega)) ?_
    refine op rfl (r_assignV (v := .int _ _) rfl) ?_
    refine WL_nil ?_
    refine ⟨?_, by repeat (first | with_reducible exact Out.refl _ _ | with_reducible exact Out.mix | refine Out.put rfl ?_ | refine Out.mixin rfl ?_ | exact Out.refl _ _ | exact Out.mix)⟩
    exact ⟨t.length - (i + 1), by omega, i + 1, _, rfl, by omega, rfl, rfl, hX⟩
  · refine W_exit (blk_hit ?_)
    refine W_seq ?_
    refine W_region ?_
    refine op rfl (r_moveV (v := .int _ _) rfl) ?_
    refine op rfl (r_assignV (v := .int _ _) rfl) ?_
    refine WL_nil ?_
    refine W_ret (finX_ret ?_)
    refine fin1 ?_
    exact ⟨_, rfl, _, rfl, hX⟩
theorem longD_spec {A : Option Addr} {cap : Nat} {t : List Dl} {w : World} {G : Nat → Prop} (hrow : dlT.Row w G A t) (hl : t.length ≤ 140737488355328) :
    Calls Tryd.prog 21 #[.slice A t.length cap] w (fun en w' => ∃ v, en = .returned v ∧ ∃ n, v = .int .i64 n ∧ Ext w w') := by
  have hat := dl_at hrow
  refine calls' (n := 28) (rs := #[.tmp 2]) (l := [.slice A t.length cap]) Tryd.func21 rfl rfl rfl rfl rfl ?_
  have hX := Ext.refl w
  refine W_seq ?_
  refine W_region ?_
  refine op rfl (r_assignV (v := .int _ _) rfl) ?_
  refine WL_nil ?_
  refine W_seq ?_
  refine W_region ?_
  refine op rfl (r_assignV (v := .int _ _) rfl) ?_
  refine WL_nil ?_
  refine W_seq ?_
  refine W_seq ?_
  refine W_region ?_
  refine op rfl (r_assignV (v := .int _ _) rfl) ?_
  refine WL_nil ?_
  refine W_block ?_
  refine W_loop [3, 4, 5, 6, 7, 8, 9, 10, 11, 12, 13, 14, 15, 16, 17, 18, 19, 20, 21, 22, 23, 24, 25, 26] (fun q e' w' => ∃ (i : Nat) (n : Int), q = t.length - i ∧ i ≤ t.length ∧ e' 4 = .int .i64 i ∧ e' 3 = .int .i64 n ∧ Ext w w') (t.length) ?_ ?_
  · exact ⟨0, _, by omega, by omega, rfl, rfl, hX⟩
  intro k g w' hI
  obtain ⟨i, n, hq, hi, h4, h3, hX'⟩ := hI
  clear hX
  have hX := hX'
  refine W_set (i := 4) h4 ?_
  refine W_set (i := 3) h3 ?_
  refine W_seq ?_
  refine W_seq ?_
  refine W_region ?_
  refine op rfl (r_moveV (v := .int _ _) rfl) ?_
  refine op rfl (r_moveV (v := .slice _ _ _) rfl) ?_
  refine op rfl (r_len_slice rfl Tryd.underlying39) ?_
  refine op rfl (r_lss rfl rfl) ?_
  refine WL_nil ?_
  refine W_ifp rfl (fun ht8 => ?_) (fun ht8 => ?_)
  · have hlt : i < t.length := by omega
    obtain ⟨g1, off1, Ai, ci, hA, hcell⟩ := hat i hlt
    refine W_skip ?_
    refine W_seq ?_
    refine W_block ?_
    refine W_drawF (W0 := w) (fun b : Nat => False) Tryd.wd rfl ?_
    intro wd5 hD
    replace hX := hX.trans hD
    have hS : Ext w wd5 ∧ Same (fun b : Nat => False) wd5 wd5 := ⟨hX, fun _ _ => rfl⟩
    refine A_take (i := 0) rfl (by kernel_rfl) (by kernel_rfl) (by kernel_rfl) rfl hS (fun _ hw => r_moveV (v := .int _ _) rfl) ?_
    refine A_take (i := 1) rfl (by kernel_rfl) (by kernel_rfl) (by kernel_rfl) rfl hS (fun _ hw => r_add rfl rfl) ?_
    refine A_take (i := 2) rfl (by kernel_rfl) (by kernel_rfl) (by kernel_rfl) rfl hS (fun _ hw => r_moveV (v := .slice _ _ _) rfl) ?_
    refine A_take (i := 3) rfl (by kernel_rfl) (by kernel_rfl) (by kernel_rfl) rfl hS (fun _ hw => r_moveV (v := .int _ _) rfl) ?_
    refine A_take (i := 4) rfl (by kernel_rfl) (by kernel_rfl) (by kernel_rfl) rfl hS (fun _ hw => r_indexAddrK (by rw [← hA]; rfl) rfl Tryd.underlying39 Tryd.sz38 hlt) ?_
    refine A_take (i := 5) rfl (by kernel_rfl) (by kernel_rfl) (by kernel_rfl) rfl hS (fun _ hw => r_fieldAddr rfl Tryd.fld38_1 rfl) ?_
    refine A_take (i := 6) rfl (by kernel_rfl) (by kernel_rfl) (by kernel_rfl) rfl hS (fun _ hw => r_load (v := .string (str t[i].p)) rfl Tryd.underlying9 rfl (ext_cell hw.1 (hcell 1 (by omega)))) ?_
    refine A_take (i := 7) rfl (by kernel_rfl) (by kernel_rfl) (by kernel_rfl) rfl hS (fun _ hw => rt_len rfl Tryd.underlying9) ?_
    refine A_take (i := 8) rfl (by kernel_rfl) (by kernel_rfl) (by kernel_rfl) rfl hS (fun _ hw => r_add rfl rfl) ?_
    refine A_take (i := 9) rfl (by kernel_rfl) (by kernel_rfl) (by kernel_rfl) rfl hS (fun _ hw => r_moveV (v := .slice _ _ _) rfl) ?_
    refine A_take (i := 10) rfl (by kernel_rfl) (by kernel_rfl) (by kernel_rfl) rfl hS (fun _ hw => r_moveV (v := .int _ _) rfl) ?_
    refine A_take (i := 11) rfl (by kernel_rfl) (by kernel_rfl) (by kernel_rfl) rfl hS (fun _ hw => r_indexAddrK (by rw [← hA]; rfl) rfl Tryd.underlying39 Tryd.sz38 hlt) ?_
    refine A_take (i := 12) rfl (by kernel_rfl) (by kernel_rfl) (by kernel_rfl) rfl hS (fun _ hw => r_fieldAddr rfl Tryd.fld38_2 rfl) ?_
    refine A_take (i := 13) rfl (by kernel_rfl) (by kernel_rfl) (by kernel_rfl) rfl hS (fun _ hw => r_load (v := .slice Ai t[i].b.length ci) rfl Tryd.underlying24 rfl (ext_cell hw.1 (hcell 2 (by omega)))) ?_
    refine A_take (i := 14) rfl (by kernel_rfl) (by kernel_rfl) (by kernel_rfl) rfl hS (fun _ hw => r_len_slice rfl Tryd.underlying24) ?_
    refine A_take (i := 15) rfl (by kernel_rfl) (by kernel_rfl) (by kernel_rfl) rfl hS (fun _ hw => r_add rfl rfl) ?_
    refine A_take (i := 16) rfl (by kernel_rfl) (by kernel_rfl) (by kernel_rfl) rfl hS (fun _ hw => r_assignV (v := .int _ _) rfl) ?_
    refine A_done (by kernel_rfl) ?_
    refine W_region ?_
    refine op rfl (r_moveV (v := .int _ _) rfl) ?_
    refine op rfl (r_add' (r := ((i + 1 : Nat) : Int)) rfl rfl (by rw [wrap_i64 (by omega) (by omega)]; omega)) ?_
    refine op rfl (r_assignV (v := .int _ _) rfl) ?_
    refine WL_nil ?_
    refine ⟨?_, by repeat (first | with_reducible exact Out.refl _ _ | with_reducible exact Out.mix | refine Out.put rfl ?_ | refine Out.mixin rfl ?_ | exact Out.refl _ _ | exact Out.mix)⟩
    exact ⟨t.length - (i + 1), by omega, i + 1, _, rfl, by omega, rfl, rfl, hX⟩
  · refine W_exit (blk_hit ?_)
    refine W_seq ?_
    refine W_region ?_
    refine op rfl (r_moveV (v := .int _ _) rfl) ?_
    refine op rfl (r_assignV (v := .int _ _) rfl) ?_
    refine WL_nil ?_
    refine W_ret (finX_ret ?_)
    refine fin1 ?_
    exact ⟨_, rfl, _, rfl, hX⟩
theorem longL_spec {A : Option Addr} {cap : Nat} {l : List (List Dl)} {w : World} (hrow : dlsT.Row w (old w) A l) (hl : l.length ≤ 140737488355328) :
    Calls Tryd.prog 20 #[.slice A l.length cap] w (fun en w' => ∃ v, en = .returned v ∧ ∃ n, v = .int .i64 n ∧ Ext w w') := by
  refine calls' (n := 20) (rs := #[.tmp 2]) (l := [.slice A l.length cap]) Tryd.func20 rfl rfl rfl rfl rfl ?_
  have hX := Ext.refl w
  refine W_seq ?_
  refine W_region ?_
  refine op rfl (r_assignV (v := .int _ _) rfl) ?_
  refine WL_nil ?_
  refine W_seq ?_
  refine W_region ?_
  refine op rfl (r_assignV (v := .int _ _) rfl) ?_
  refine WL_nil ?_
  refine W_seq ?_
  refine W_seq ?_
  refine W_region ?_
  refine op rfl (r_assignV (v := .int _ _) rfl) ?_
  refine WL_nil ?_
  refine W_block ?_
  refine W_loop [3, 4, 5, 6, 7, 8, 9, 10, 11, 12, 13, 14, 15, 16, 17, 18] (fun q e' w' => ∃ (i : Nat) (n : Int), q = l.length - i ∧ i ≤ l.length ∧ e' 4 = .int .i64 i ∧ e' 3 = .int .i64 n ∧ Ext w w') (l.length) ?_ ?_
  · exact ⟨0, _, by omega, by omega, rfl, rfl, hX⟩
  intro k g w' hI
  obtain ⟨i, n, hq, hi, h4, h3, hX'⟩ := hI
  clear hX
  have hX := hX'
  refine W_set (i := 4) h4 ?_
  refine W_set (i := 3) h3 ?_
  refine W_seq ?_
  refine W_seq ?_
  refine W_region ?_
  refine op rfl (r_moveV (v := .int _ _) rfl) ?_
  refine op rfl (r_moveV (v := .slice _ _ _) rfl) ?_
  refine op rfl (r_len_slice rfl Tryd.underlying52) ?_
  refine op rfl (r_lss rfl rfl) ?_
  refine WL_nil ?_
  refine W_ifp rfl (fun ht8 => ?_) (fun ht8 => ?_)
  · have hlt : i < l.length := by omega
    obtain ⟨g1, off1, Ai, ci, hA, -, hcell, hci, hbl, hrr⟩ := (hrow.ext hX).cellW hlt
    refine W_skip ?_
    refine W_seq ?_
    refine W_block ?_
    refine W_region ?_
    refine op rfl (r_moveV (v := .int _ _) rfl) ?_
    refine op rfl (r_add rfl rfl) ?_
    refine op rfl (r_moveV (v := .slice _ _ _) rfl) ?_
    refine op rfl (r_moveV (v := .int _ _) rfl) ?_
    refine op rfl (r_indexAddr1 rfl rfl hA Tryd.underlying52 Tryd.sz39 (by omega) (by omega)) ?_
    refine op rfl (r_load (v := .slice Ai l[i].length ci) rfl Tryd.underlying39 rfl hcell) ?_
    refine opCv rfl (r_call Tryd.func21 Tryd.nm21 rfl) (longD_spec hrr (by omega)) ?_
    rintro v5 w5 ⟨n5, rfl, hE⟩
    replace hX := hX.trans hE
    refine op rfl (r_add rfl rfl) ?_
    refine op rfl (r_assignV (v := .int _ _) rfl) ?_
    refine WL_nil ?_
    refine W_region ?_
    refine op rfl (r_moveV (v := .int _ _) rfl) ?_
    refine op rfl (r_add' (r := ((i + 1 : Nat) : Int)) rfl rfl (by rw [wrap_i64 (by omega) (by omega)]; omega)) ?_
    refine op rfl (r_assignV (v := .int _ _) rfl) ?_
    refine WL_nil ?_
    refine ⟨?_, by repeat (first | with_reducible exact Out.refl _ _ | with_reducible exact Out.mix | refine Out.put rfl ?_ | refine Out.mixin rfl ?_ | exact Out.refl _ _ | exact Out.mix)⟩
    exact ⟨l.length - (i + 1), by omega, i + 1, _, rfl, by omega, rfl, rfl, hX⟩
  · refine W_exit (blk_hit ?_)
    refine W_seq ?_
    refine W_region ?_
    refine op rfl (r_moveV (v := .int _ _) rfl) ?_
    refine op rfl (r_assignV (v := .int _ _) rfl) ?_
    refine WL_nil ?_
    refine W_ret (finX_ret ?_)
    refine fin1 ?_
    exact ⟨_, rfl, _, rfl, hX⟩
end Go.Proofs.YtmedmajdoecjfaaDoor
