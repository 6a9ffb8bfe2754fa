/-
  What comes out, spoilt, and what was handed in, spoilt behind that, changes nothing: the walk.
-/
import Derived.Test.YtkdcmdcdjnmkaaaDoorFacts
import Derived.Test.YtkdcmdcdjnmkaaaDoorHistLStays
namespace Go.Proofs.YtkdcmdcdjnmkaaaDoor
open Go Go.Eng Go.RowKit Go.Proofs
set_option linter.unusedVariables false
set_option linter.unusedSimpArgs false
set_option maxHeartbeats 1000000
set_option maxRecDepth 20000

deriving instance DecidableEq for Dl
theorem dl_at2 {A : Option Addr} {t : List Dl} {w : World} {G : Nat → Prop} (hrow : dlT.Row w G A t) : ∀ i (h : i < t.length), ∃ g off Ai ci, A = some ⟨g, off, none⟩ ∧ Ty.byte.Row w G Ai t[i].b ∧ ∀ j, j < 3 → w.cell? ⟨g, off + i * 3 + j, none⟩ = [Value.int .i64 t[i].k, .string (str t[i].p), .slice Ai t[i].b.length ci][j]? := fun i h => by
  obtain ⟨g, off, xs, hA, _, hx, hc⟩ := hrow.cells h
  obtain ⟨Ai, ci, rfl, _, _, _, _, hb⟩ := dl_cells hx
  exact ⟨g, off, Ai, ci, hA, hb, hc⟩
theorem sameD_spec {A1 : Option Addr} {c1 : Nat} {a : List Dl} {A2 : Option Addr} {c2 : Nat} {b : List Dl} {w : World} (h1 : dlT.Row w (old w) A1 a) (h2 : dlT.Row w (old w) A2 b) (hl : a.length ≤ 140737488355328) :
    Calls Tryd.prog 21 #[.slice A1 a.length c1, .slice A2 b.length c2] w (fun en w' => ∃ v, en = .returned v ∧ v = .bool (decide (a = b)) ∧ Ext w w') := by
  have ha := dl_at2 h1
  have hb := dl_at2 h2
  refine calls' (n := 56) (rs := #[.tmp 4]) (l := [.slice A1 a.length c1, .slice A2 b.length c2]) Tryd.func21 rfl rfl rfl rfl rfl ?_
  have hX := Ext.refl w
  refine W_seq ?_
  refine W_region ?_
  refine op rfl (r_assignV (v := .bool _) rfl) ?_
  refine WL_nil ?_
  refine W_seq ?_
  refine W_seq ?_
  refine W_region ?_
  refine op rfl (r_moveV (v := .slice _ _ _) rfl) ?_
  refine op rfl (r_len_slice rfl Tryd.underlying33) ?_
  refine op rfl (r_moveV (v := .slice _ _ _) rfl) ?_
  refine op rfl (r_len_slice rfl Tryd.underlying33) ?_
  refine op rfl (r_neq rfl rfl) ?_
  refine WL_nil ?_
  refine W_ifp rfl (fun ht10 => ?_) (fun ht10 => ?_)
  · refine W_seq ?_
    refine W_region ?_
    refine op rfl (r_assignV (v := .bool _) rfl) ?_
    refine WL_nil ?_
    refine W_ret (finX_ret ?_)
    refine fin1 ?_
    first
      | exact ⟨_, rfl, bool_ff (fun h => by subst h; omega), hX⟩
      | exact ⟨_, rfl, bool_tt (List.ext_getElem hab (fun j h h' => hall j h h' (by omega))), hX⟩
      | exact ⟨_, rfl, bool_ff (fun h => by subst h; first | exact hg28 rfl | exact hg41 rfl | exact ht55 rfl), hX⟩
  · have hab : a.length = b.length := by omega
    refine W_skip ?_
    refine W_seq ?_
    refine W_seq ?_
    refine W_region ?_
    refine op rfl (r_assignV (v := .int _ _) rfl) ?_
    refine WL_nil ?_
    refine W_block ?_
    refine W_loop [4, 5, 11, 12, 13, 14, 15, 16, 17, 18, 19, 20, 21, 22, 23, 24, 25, 26, 27, 28, 29, 30, 31, 32, 33, 34, 35, 36, 37, 38, 39, 40, 41, 42, 43, 44, 45, 46, 47, 48, 49, 50, 51, 52, 53, 54, 55] (fun q e' w' => ∃ (i : Nat), q = a.length - i ∧ i ≤ a.length ∧ e' 5 = .int .i64 i ∧ (∀ j (h : j < a.length) (h' : j < b.length), j < i → a[j] = b[j]) ∧ Ext w w') (a.length) ?_ ?_
    · exact ⟨0, by omega, by omega, rfl, fun j _ _ h => absurd h (Nat.not_lt_zero j), hX⟩
    intro k g w' hI
    obtain ⟨i, hq, hi, h5, hall, hX'⟩ := hI
    clear hX
    have hX := hX'
    refine W_set (i := 5) h5 ?_
    refine W_seq ?_
    refine W_seq ?_
    refine W_region ?_
    refine op rfl (r_moveV (v := .int _ _) rfl) ?_
    refine op rfl (r_moveV (v := .slice _ _ _) rfl) ?_
    refine op rfl (r_len_slice rfl Tryd.underlying33) ?_
    refine op rfl (r_lss rfl rfl) ?_
    refine WL_nil ?_
    refine W_ifp rfl (fun ht14 => ?_) (fun ht14 => ?_)
    · have hlt : i < a.length := by omega
      have hlt2 : i < b.length := by omega
      obtain ⟨g1, o1, Ai, ci, hA1, hr1, hc1⟩ := ha i hlt
      obtain ⟨g2, o2, Bi, di, hA2, hr2, hc2⟩ := hb i hlt2
      refine W_skip ?_
      refine W_seq ?_
      refine W_block ?_
      refine W_seq ?_
      refine W_drawF (W0 := w) (fun b : Nat => False) Tryd.wd rfl ?_
      intro wd6 hD
      replace hX := hX.trans hD
      have hS : Ext w wd6 ∧ Same (fun b : Nat => False) wd6 wd6 := ⟨hX, fun _ _ => rfl⟩
      refine A_take (i := 0) rfl (by kernel_rfl) (by kernel_rfl) (by kernel_rfl) rfl hS (fun _ hw => r_moveV (v := .slice _ _ _) rfl) ?_
      refine A_take (i := 1) rfl (by kernel_rfl) (by kernel_rfl) (by kernel_rfl) rfl hS (fun _ hw => r_moveV (v := .int _ _) rfl) ?_
      refine A_take (i := 2) rfl (by kernel_rfl) (by kernel_rfl) (by kernel_rfl) rfl hS (fun _ hw => r_indexAddrK (by rw [← hA1]; rfl) rfl Tryd.underlying33 Tryd.sz36 hlt) ?_
      refine A_take (i := 3) rfl (by kernel_rfl) (by kernel_rfl) (by kernel_rfl) rfl hS (fun _ hw => r_fieldAddr rfl Tryd.fld36_0 rfl) ?_
      refine A_take (i := 4) rfl (by kernel_rfl) (by kernel_rfl) (by kernel_rfl) rfl hS (fun _ hw => r_load (v := .int .i64 a[i].k) rfl Tryd.underlying3 rfl (ext_cell hw.1 (hc1 0 (by omega)))) ?_
      refine A_take (i := 5) rfl (by kernel_rfl) (by kernel_rfl) (by kernel_rfl) rfl hS (fun _ hw => r_moveV (v := .slice _ _ _) rfl) ?_
      refine A_take (i := 6) rfl (by kernel_rfl) (by kernel_rfl) (by kernel_rfl) rfl hS (fun _ hw => r_moveV (v := .int _ _) rfl) ?_
      refine A_take (i := 7) rfl (by kernel_rfl) (by kernel_rfl) (by kernel_rfl) rfl hS (fun _ hw => r_indexAddrK (by rw [← hA2]; rfl) rfl Tryd.underlying33 Tryd.sz36 hlt2) ?_
      refine A_take (i := 8) rfl (by kernel_rfl) (by kernel_rfl) (by kernel_rfl) rfl hS (fun _ hw => r_fieldAddr rfl Tryd.fld36_0 rfl) ?_
      refine A_take (i := 9) rfl (by kernel_rfl) (by kernel_rfl) (by kernel_rfl) rfl hS (fun _ hw => r_load (v := .int .i64 b[i].k) rfl Tryd.underlying3 rfl (ext_cell hw.1 (hc2 0 (by omega)))) ?_
      refine A_take (i := 10) rfl (by kernel_rfl) (by kernel_rfl) (by kernel_rfl) rfl hS (fun _ hw => r_neq rfl rfl) ?_
      refine A_split (i := 11) rfl (by kernel_rfl) (by kernel_rfl) (by kernel_rfl) rfl hS (fun _ _ => r_moveV (v := .bool (decide _)) rfl) (fun hg28 => ?_) (fun hg28 => ?_)
      · refine A_skip (i := 12) rfl (by kernel_rfl) (by kernel_rfl) (by kernel_rfl) rfl hS rfl rfl rfl rfl ?_
        refine A_skip (i := 13) rfl (by kernel_rfl) (by kernel_rfl) (by kernel_rfl) rfl hS rfl rfl rfl rfl ?_
        refine A_skip (i := 14) rfl (by kernel_rfl) (by kernel_rfl) (by kernel_rfl) rfl hS rfl rfl rfl rfl ?_
        refine A_skip (i := 15) rfl (by kernel_rfl) (by kernel_rfl) (by kernel_rfl) rfl hS rfl rfl rfl rfl ?_
        refine A_skip (i := 16) rfl (by kernel_rfl) (by kernel_rfl) (by kernel_rfl) rfl hS rfl rfl rfl rfl ?_
        refine A_skip (i := 17) rfl (by kernel_rfl) (by kernel_rfl) (by kernel_rfl) rfl hS rfl rfl rfl rfl ?_
        refine A_skip (i := 18) rfl (by kernel_rfl) (by kernel_rfl) (by kernel_rfl) rfl hS rfl rfl rfl rfl ?_
        refine A_skip (i := 19) rfl (by kernel_rfl) (by kernel_rfl) (by kernel_rfl) rfl hS rfl rfl rfl rfl ?_
        refine A_skip (i := 20) rfl (by kernel_rfl) (by kernel_rfl) (by kernel_rfl) rfl hS rfl rfl rfl rfl ?_
        refine A_skip (i := 21) rfl (by kernel_rfl) (by kernel_rfl) (by kernel_rfl) rfl hS rfl rfl rfl rfl ?_
        refine A_skip (i := 22) rfl (by kernel_rfl) (by kernel_rfl) (by kernel_rfl) rfl hS rfl rfl rfl rfl ?_
        refine A_take (i := 23) rfl (by kernel_rfl) (by kernel_rfl) (by kernel_rfl) rfl hS (fun _ hw => r_pickTV (v := .bool _) rfl rfl) ?_
        refine A_take (i := 24) rfl (by kernel_rfl) (by kernel_rfl) (by kernel_rfl) rfl hS (fun _ hw => r_moveV (v := .bool _) rfl) ?_
        refine A_skip (i := 25) rfl (by kernel_rfl) (by kernel_rfl) (by kernel_rfl) rfl hS rfl rfl rfl rfl ?_
        refine A_skip (i := 26) rfl (by kernel_rfl) (by kernel_rfl) (by kernel_rfl) rfl hS rfl rfl rfl rfl ?_
        refine A_skip (i := 27) rfl (by kernel_rfl) (by kernel_rfl) (by kernel_rfl) rfl hS rfl rfl rfl rfl ?_
        refine A_skip (i := 28) rfl (by kernel_rfl) (by kernel_rfl) (by kernel_rfl) rfl hS rfl rfl rfl rfl ?_
        refine A_skip (i := 29) rfl (by kernel_rfl) (by kernel_rfl) (by kernel_rfl) rfl hS rfl rfl rfl rfl ?_
        refine A_skip (i := 30) rfl (by kernel_rfl) (by kernel_rfl) (by kernel_rfl) rfl hS rfl rfl rfl rfl ?_
        refine A_skip (i := 31) rfl (by kernel_rfl) (by kernel_rfl) (by kernel_rfl) rfl hS rfl rfl rfl rfl ?_
        refine A_skip (i := 32) rfl (by kernel_rfl) (by kernel_rfl) (by kernel_rfl) rfl hS rfl rfl rfl rfl ?_
        refine A_skip (i := 33) rfl (by kernel_rfl) (by kernel_rfl) (by kernel_rfl) rfl hS rfl rfl rfl rfl ?_
        refine A_skip (i := 34) rfl (by kernel_rfl) (by kernel_rfl) (by kernel_rfl) rfl hS rfl rfl rfl rfl ?_
        refine A_skip (i := 35) rfl (by kernel_rfl) (by kernel_rfl) (by kernel_rfl) rfl hS rfl rfl rfl rfl ?_
        refine A_skip (i := 36) rfl (by kernel_rfl) (by kernel_rfl) (by kernel_rfl) rfl hS rfl rfl rfl rfl ?_
        refine A_skip (i := 37) rfl (by kernel_rfl) (by kernel_rfl) (by kernel_rfl) rfl hS rfl rfl rfl rfl ?_
        refine A_take (i := 38) rfl (by kernel_rfl) (by kernel_rfl) (by kernel_rfl) rfl hS (fun _ hw => r_pickTV (v := .bool _) rfl rfl) ?_
        refine A_done (by kernel_rfl) ?_
        refine W_then rfl ?_
        refine W_seq ?_
        refine W_region ?_
        refine op rfl (r_assignV (v := .bool _) rfl) ?_
        refine WL_nil ?_
        refine W_ret (blk_ret (blk_ret (finX_ret ?_)))
        refine fin1 ?_
        first
          | exact ⟨_, rfl, bool_ff (fun h => by subst h; omega), hX⟩
          | exact ⟨_, rfl, bool_tt (List.ext_getElem hab (fun j h h' => hall j h h' (by omega))), hX⟩
          | exact ⟨_, rfl, bool_ff (fun h => by subst h; first | exact hg28 rfl | exact hg41 rfl | exact ht55 rfl), hX⟩
      · refine A_takeG (i := 12) rfl (by kernel_rfl) (by kernel_rfl) (by kernel_rfl) rfl hS rfl rfl rfl rfl (fun _ hw => r_moveV (v := .slice _ _ _) rfl) ?_
        refine A_takeG (i := 13) rfl (by kernel_rfl) (by kernel_rfl) (by kernel_rfl) rfl hS rfl rfl rfl rfl (fun _ hw => r_moveV (v := .int _ _) rfl) ?_
        refine A_takeG (i := 14) rfl (by kernel_rfl) (by kernel_rfl) (by kernel_rfl) rfl hS rfl rfl rfl rfl (fun _ hw => r_indexAddrK (by rw [← hA1]; rfl) rfl Tryd.underlying33 Tryd.sz36 hlt) ?_
        refine A_takeG (i := 15) rfl (by kernel_rfl) (by kernel_rfl) (by kernel_rfl) rfl hS rfl rfl rfl rfl (fun _ hw => r_fieldAddr rfl Tryd.fld36_1 rfl) ?_
        refine A_takeG (i := 16) rfl (by kernel_rfl) (by kernel_rfl) (by kernel_rfl) rfl hS rfl rfl rfl rfl (fun _ hw => r_load (v := .string (str a[i].p)) rfl Tryd.underlying9 rfl (ext_cell hw.1 (hc1 1 (by omega)))) ?_
        refine A_takeG (i := 17) rfl (by kernel_rfl) (by kernel_rfl) (by kernel_rfl) rfl hS rfl rfl rfl rfl (fun _ hw => r_moveV (v := .slice _ _ _) rfl) ?_
        refine A_takeG (i := 18) rfl (by kernel_rfl) (by kernel_rfl) (by kernel_rfl) rfl hS rfl rfl rfl rfl (fun _ hw => r_moveV (v := .int _ _) rfl) ?_
        refine A_takeG (i := 19) rfl (by kernel_rfl) (by kernel_rfl) (by kernel_rfl) rfl hS rfl rfl rfl rfl (fun _ hw => r_indexAddrK (by rw [← hA2]; rfl) rfl Tryd.underlying33 Tryd.sz36 hlt2) ?_
        refine A_takeG (i := 20) rfl (by kernel_rfl) (by kernel_rfl) (by kernel_rfl) rfl hS rfl rfl rfl rfl (fun _ hw => r_fieldAddr rfl Tryd.fld36_1 rfl) ?_
        refine A_takeG (i := 21) rfl (by kernel_rfl) (by kernel_rfl) (by kernel_rfl) rfl hS rfl rfl rfl rfl (fun _ hw => r_load (v := .string (str b[i].p)) rfl Tryd.underlying9 rfl (ext_cell hw.1 (hc2 1 (by omega)))) ?_
        refine A_takeG (i := 22) rfl (by kernel_rfl) (by kernel_rfl) (by kernel_rfl) rfl hS rfl rfl rfl rfl (fun _ hw => rt_neq rfl rfl) ?_
        refine A_take (i := 23) rfl (by kernel_rfl) (by kernel_rfl) (by kernel_rfl) rfl hS (fun _ hw => r_pickFV (v := .bool _) rfl rfl) ?_
        refine A_split (i := 24) rfl (by kernel_rfl) (by kernel_rfl) (by kernel_rfl) rfl hS (fun _ _ => r_moveV (v := .bool (decide _)) rfl) (fun hg41 => ?_) (fun hg41 => ?_)
        · refine A_skip (i := 25) rfl (by kernel_rfl) (by kernel_rfl) (by kernel_rfl) rfl hS rfl rfl rfl rfl ?_
          refine A_skip (i := 26) rfl (by kernel_rfl) (by kernel_rfl) (by kernel_rfl) rfl hS rfl rfl rfl rfl ?_
          refine A_skip (i := 27) rfl (by kernel_rfl) (by kernel_rfl) (by kernel_rfl) rfl hS rfl rfl rfl rfl ?_
          refine A_skip (i := 28) rfl (by kernel_rfl) (by kernel_rfl) (by kernel_rfl) rfl hS rfl rfl rfl rfl ?_
          refine A_skip (i := 29) rfl (by kernel_rfl) (by kernel_rfl) (by kernel_rfl) rfl hS rfl rfl rfl rfl ?_
          refine A_skip (i := 30) rfl (by kernel_rfl) (by kernel_rfl) (by kernel_rfl) rfl hS rfl rfl rfl rfl ?_
          refine A_skip (i := 31) rfl (by kernel_rfl) (by kernel_rfl) (by kernel_rfl) rfl hS rfl rfl rfl rfl ?_
          refine A_skip (i := 32) rfl (by kernel_rfl) (by kernel_rfl) (by kernel_rfl) rfl hS rfl rfl rfl rfl ?_
          refine A_skip (i := 33) rfl (by kernel_rfl) (by kernel_rfl) (by kernel_rfl) rfl hS rfl rfl rfl rfl ?_
          refine A_skip (i := 34) rfl (by kernel_rfl) (by kernel_rfl) (by kernel_rfl) rfl hS rfl rfl rfl rfl ?_
          refine A_skip (i := 35) rfl (by kernel_rfl) (by kernel_rfl) (by kernel_rfl) rfl hS rfl rfl rfl rfl ?_
          refine A_skip (i := 36) rfl (by kernel_rfl) (by kernel_rfl) (by kernel_rfl) rfl hS rfl rfl rfl rfl ?_
          refine A_skip (i := 37) rfl (by kernel_rfl) (by kernel_rfl) (by kernel_rfl) rfl hS rfl rfl rfl rfl ?_
          refine A_take (i := 38) rfl (by kernel_rfl) (by kernel_rfl) (by kernel_rfl) rfl hS (fun _ hw => r_pickTV (v := .bool _) rfl rfl) ?_
          refine A_done (by kernel_rfl) ?_
          refine W_then rfl ?_
          refine W_seq ?_
          refine W_region ?_
          refine op rfl (r_assignV (v := .bool _) rfl) ?_
          refine WL_nil ?_
          refine W_ret (blk_ret (blk_ret (finX_ret ?_)))
          refine fin1 ?_
          first
            | exact ⟨_, rfl, bool_ff (fun h => by subst h; omega), hX⟩
            | exact ⟨_, rfl, bool_tt (List.ext_getElem hab (fun j h h' => hall j h h' (by omega))), hX⟩
            | exact ⟨_, rfl, bool_ff (fun h => by subst h; first | exact hg28 rfl | exact hg41 rfl | exact ht55 rfl), hX⟩
        · refine A_takeG (i := 25) rfl (by kernel_rfl) (by kernel_rfl) (by kernel_rfl) rfl hS rfl rfl rfl rfl (fun _ hw => r_moveV (v := .slice _ _ _) rfl) ?_
          refine A_takeG (i := 26) rfl (by kernel_rfl) (by kernel_rfl) (by kernel_rfl) rfl hS rfl rfl rfl rfl (fun _ hw => r_moveV (v := .int _ _) rfl) ?_
          refine A_takeG (i := 27) rfl (by kernel_rfl) (by kernel_rfl) (by kernel_rfl) rfl hS rfl rfl rfl rfl (fun _ hw => r_indexAddrK (by rw [← hA1]; rfl) rfl Tryd.underlying33 Tryd.sz36 hlt) ?_
          refine A_takeG (i := 28) rfl (by kernel_rfl) (by kernel_rfl) (by kernel_rfl) rfl hS rfl rfl rfl rfl (fun _ hw => r_fieldAddr rfl Tryd.fld36_2 rfl) ?_
          refine A_takeG (i := 29) rfl (by kernel_rfl) (by kernel_rfl) (by kernel_rfl) rfl hS rfl rfl rfl rfl (fun _ hw => r_load (v := .slice Ai a[i].b.length ci) rfl Tryd.underlying34 rfl (ext_cell hw.1 (hc1 2 (by omega)))) ?_
          refine A_takeG (i := 30) rfl (by kernel_rfl) (by kernel_rfl) (by kernel_rfl) rfl hS rfl rfl rfl rfl (fun _ hw => rt_str rfl Tryd.underlying34 Tryd.underlying5 Tryd.underlying9 (hr1.ext hw.1)) ?_
          refine A_takeG (i := 31) rfl (by kernel_rfl) (by kernel_rfl) (by kernel_rfl) rfl hS rfl rfl rfl rfl (fun _ hw => r_moveV (v := .slice _ _ _) rfl) ?_
          refine A_takeG (i := 32) rfl (by kernel_rfl) (by kernel_rfl) (by kernel_rfl) rfl hS rfl rfl rfl rfl (fun _ hw => r_moveV (v := .int _ _) rfl) ?_
          refine A_takeG (i := 33) rfl (by kernel_rfl) (by kernel_rfl) (by kernel_rfl) rfl hS rfl rfl rfl rfl (fun _ hw => r_indexAddrK (by rw [← hA2]; rfl) rfl Tryd.underlying33 Tryd.sz36 hlt2) ?_
          refine A_takeG (i := 34) rfl (by kernel_rfl) (by kernel_rfl) (by kernel_rfl) rfl hS rfl rfl rfl rfl (fun _ hw => r_fieldAddr rfl Tryd.fld36_2 rfl) ?_
          refine A_takeG (i := 35) rfl (by kernel_rfl) (by kernel_rfl) (by kernel_rfl) rfl hS rfl rfl rfl rfl (fun _ hw => r_load (v := .slice Bi b[i].b.length di) rfl Tryd.underlying34 rfl (ext_cell hw.1 (hc2 2 (by omega)))) ?_
          refine A_takeG (i := 36) rfl (by kernel_rfl) (by kernel_rfl) (by kernel_rfl) rfl hS rfl rfl rfl rfl (fun _ hw => rt_str rfl Tryd.underlying34 Tryd.underlying5 Tryd.underlying9 (hr2.ext hw.1)) ?_
          refine A_takeG (i := 37) rfl (by kernel_rfl) (by kernel_rfl) (by kernel_rfl) rfl hS rfl rfl rfl rfl (fun _ hw => rt_neq rfl rfl) ?_
          refine A_take (i := 38) rfl (by kernel_rfl) (by kernel_rfl) (by kernel_rfl) rfl hS (fun _ hw => r_pickFV (v := .bool _) rfl rfl) ?_
          refine A_done (by kernel_rfl) ?_
          refine W_ifp rfl (fun ht55 => ?_) (fun ht55 => ?_)
          · refine W_seq ?_
            refine W_region ?_
            refine op rfl (r_assignV (v := .bool _) rfl) ?_
            refine WL_nil ?_
            refine W_ret (blk_ret (blk_ret (finX_ret ?_)))
            refine fin1 ?_
            first
              | exact ⟨_, rfl, bool_ff (fun h => by subst h; omega), hX⟩
              | exact ⟨_, rfl, bool_tt (List.ext_getElem hab (fun j h h' => hall j h h' (by omega))), hX⟩
              | exact ⟨_, rfl, bool_ff (fun h => by subst h; first | exact hg28 rfl | exact hg41 rfl | exact ht55 rfl), hX⟩
          · refine W_skip ?_
            refine W_region ?_
            refine op rfl (r_moveV (v := .int _ _) rfl) ?_
            refine op rfl (r_add' (r := ((i + 1 : Nat) : Int)) rfl rfl (by rw [wrap_i64 (by omega) (by omega)]; omega)) ?_
            refine op rfl (r_assignV (v := .int _ _) rfl) ?_
            refine WL_nil ?_
            refine ⟨?_, by repeat (first | with_reducible exact Out.refl _ _ | with_reducible exact Out.mix | refine Out.put rfl ?_ | refine Out.mixin rfl ?_ | exact Out.refl _ _ | exact Out.mix)⟩
            refine ⟨a.length - (i + 1), by omega, i + 1, rfl, by omega, rfl, fun j h h' hj => ?_, hX⟩
            by_cases hji : j = i
            · subst hji
              have e0 := Classical.not_not.1 hg28
              have e1 := Classical.not_not.1 hg41
              have e2 := Classical.not_not.1 ht55
              cases ha0 : a[j] with
              | mk k0 p0 b0 => cases hb0 : b[j] with
                | mk k1 p1 b1 => rw [ha0, hb0] at e0 e1 e2; simp only at e0 e1 e2; rw [e0, e1, e2]
            · exact hall j h h' (by omega)
    · refine W_exit (blk_hit ?_)
      refine W_seq ?_
      refine W_region ?_
      refine op rfl (r_assignV (v := .bool _) rfl) ?_
      refine WL_nil ?_
      refine W_ret (finX_ret ?_)
      refine fin1 ?_
      first
        | exact ⟨_, rfl, bool_ff (fun h => by subst h; omega), hX⟩
        | exact ⟨_, rfl, bool_tt (List.ext_getElem hab (fun j h h' => hall j h h' (by omega))), hX⟩
        | exact ⟨_, rfl, bool_ff (fun h => by subst h; first | exact hg28 rfl | exact hg41 rfl | exact ht55 rfl), hX⟩
/-- There is room for so many bytes, in a block of R. -/
def RoomB (R : Nat → Prop) (w : World) (A : Option Addr) (n : Nat) : Prop := n = 0 ∨ ∃ g off c t, A = some ⟨g, off, none⟩ ∧ R g ∧ Blk w g c t ∧ off + n ≤ c.size
theorem RoomB.keep {R : Nat → Prop} {w w' : World} {A : Option Addr} {n : Nat} (h : RoomB R w A n) (hs : Same R w w') : RoomB R w' A n := by
  rcases h with h | ⟨g, off, c, t, h1, h2, h3, h4⟩
  · exact Or.inl h
  · exact Or.inr ⟨g, off, c, t, h1, h2, h3.at (hs g h2), h4⟩
theorem RoomB.chg {R : Nat → Prop} {w w' : World} {A : Option Addr} {n : Nat} (h : RoomB R w A n) {b i : Nat} {c0 : Array Value} {t0 : TypeId} {u : Value} (hC : Chg b w w') (hb0 : Blk w b c0 t0) (hb : Blk w' b (c0.setIfInBounds i u) t0) : RoomB R w' A n := by
  rcases h with h | ⟨g, off, c, t, h1, h2, h3, h4⟩
  · exact Or.inl h
  · by_cases hg : g = b
    · subst hg
      have e : c = c0 := by unfold Blk at h3 hb0; rw [h3] at hb0; simp only [Option.some.injEq, Obj.cells.injEq] at hb0; exact hb0.1
      exact Or.inr ⟨g, off, _, _, h1, h2, hb, by rw [Array.size_setIfInBounds, ← e]; exact h4⟩
    · exact Or.inr ⟨g, off, c, t, h1, h2, Chg.blk hC h3 hg, h4⟩
theorem byte_roomB {w : World} {B : Nat} {e : TypeId} {A : Option Addr} {n c : Nat} {l : List UInt8} (h : Eng.Own Ty.byte w nobody B e (.slice A n c) l) {R : Nat → Prop} (hR : ∀ b, B ≤ b → b < w.heap.size → R b) : RoomB R w A l.length := by
  rcases h with ⟨hv, rfl⟩ | ⟨g, cap, cc, xs, hv, h1, h2, h3, h4, h5, h6⟩
  · exact Or.inl rfl
  · simp only [Value.slice.injEq] at hv
    obtain ⟨rfl, -, -⟩ := hv
    have e1 : Ty.byte.sz = 1 := rfl
    rw [e1] at h4
    exact Or.inr ⟨g, 0, cc, e, rfl, hR g h1 (Blk.lt h2), h2, by omega⟩
theorem own_roomB {w : World} {B k : Nat} {e : TypeId} {A : Option Addr} {n c : Nat} {rs : List (List Value)} (h : Eng.Own (rawT k) w nobody B e (.slice A n c) rs) {R : Nat → Prop} (hR : ∀ b, B ≤ b → b < w.heap.size → R b) : RoomB R w A (rs.length * k) := by
  rcases h with ⟨hv, rfl⟩ | ⟨g, cap, cc, xs, hv, h1, h2, h3, h4, h5, h6⟩
  · exact Or.inl (by simp)
  · simp only [Value.slice.injEq] at hv
    obtain ⟨rfl, -, -⟩ := hv
    have e1 : (rawT k).sz = k := rfl
    rw [e1] at h4
    exact Or.inr ⟨g, 0, cc, e, rfl, hR g h1 (Blk.lt h2), h2, by rw [Nat.zero_add, h4]; exact Nat.mul_le_mul_right _ h3⟩
/-- Rows of changes of which the bytes have room. -/
def RoomS (F : Nat → Prop) (w : World) (rs : List (List Value)) : Prop := ∀ r ∈ rs, ∃ k p Ai n ci, r = [Value.int .i64 k, .string p, .slice Ai n ci] ∧ RoomB F w Ai n ∧ n ≤ 140737488355328
theorem RoomS.keep {F G : Nat → Prop} {w w' : World} {rs : List (List Value)} (h : RoomS F w rs) (hs : Same F w w') (hG : ∀ b, F b → G b) : RoomS G w' rs := fun r hr => by
  obtain ⟨k, p, Ai, n, ci, h1, h2, h3⟩ := h r hr
  refine ⟨k, p, Ai, n, ci, h1, ?_, h3⟩
  rcases h2.keep hs with q | ⟨g, off, c, t, q1, q2, q3⟩
  · exact Or.inl q
  · exact Or.inr ⟨g, off, c, t, q1, hG g q2, q3⟩
theorem spoil_head (H : List Rv) (t u : Tree) (ds : List Dl) : getR ([⟨[], t⟩] ++ [⟨ds, u⟩]) ((1 : Nat) : Int) = ⟨ds, u⟩ := by
  have h := (getR_at (H := [(⟨[], t⟩ : Rv)] ++ [⟨ds, u⟩]) (r := 1) (by simp)).1
  rw [h]; rfl
theorem historyKeeps_walk {A : Option Addr} {cap : Nat} {t : Tree} {Ar : Option Addr} {cl : Nat} {l : List Dl} {w : World} (hrow : fiT.Row w (old w) A t) (hct : t.length ≤ cap) (hl : t.length ≤ 140737488355328) (hrowl : dlT.Row w (old w) Ar l) (hcl : l.length ≤ cl) (hll : l.length * 48 ≤ 140737488355328) :
    Calls Tryd.prog 6 #[.slice A t.length cap, .slice Ar l.length cl] w (fun en w' => ∃ v, en = .returned v ∧ v = .bool true ∧ Ext w w') := by
  have hlat : ∀ i (h : i < l.length), ∃ g off Ai ci, Ar = some ⟨g, off, none⟩ ∧ dlT.R w (old w) l[i] [.int .i64 l[i].k, .string (str l[i].p), .slice Ai l[i].b.length ci] ∧ ∀ j, j < 3 → w.cell? ⟨g, off + i * 3 + j, none⟩ = [Value.int .i64 l[i].k, .string (str l[i].p), .slice Ai l[i].b.length ci][j]? := fun i h => by
    obtain ⟨g, off, xs, hA, _, hx, hc⟩ := hrowl.cells h
    have hx0 := hx
    obtain ⟨Ai, ci, rfl, -⟩ := dl_cells hx
    exact ⟨g, off, Ai, ci, hA, hx0, hc⟩
  refine calls' (n := 162) (rs := #[.tmp 4]) (l := [.slice A t.length cap, .slice Ar l.length cl]) Tryd.func6 rfl rfl rfl rfl rfl ?_
  have hX := Ext.refl w
  refine W_seq ?_
  refine W_region ?_
  refine op rfl (r_assignV (v := .bool _) rfl) ?_
  refine WL_nil ?_
  refine W_seq ?_
  refine W_seq ?_
  refine W_region ?_
  refine op rfl (r_moveV (v := .slice _ _ _) rfl) ?_
  refine op rfl (r_moveV (v := .slice _ _ _) rfl) ?_
  refine op_newS rfl (r_buildSlice (vs := [.slice Ar l.length cl]) Tryd.underlying24 Tryd.sz33 Tryd.zero33 rfl rfl rfl) ?_
  intro w1 b1 E1 B1 L1
  replace hX := hX.trans E1
  have hrl1 : dlsT.Row w1 (old w1) (some ⟨b1, 0, none⟩) [l] := Blk.row B1 (Blk.lt B1) (fun i hi => by
    obtain rfl : i = 0 := by simp at hi; omega
    exact ⟨_, ⟨⟨Ar, cl, rfl, hcl, by show l.length ≤ 140737488355328; omega, hrowl.ext hX⟩, hll⟩, fun j hj => by
      have : dlsT.sz = 1 := rfl
      simp only [this] at hj ⊢
      obtain rfl : j = 0 := by omega
      rfl⟩)
  refine opCv rfl (r_call Tryd.func9 Tryd.nm9 rfl) (small_spec (l := [l]) (hrow.ext hX) hl hrl1 (by simp)) ?_
  rintro v2 w2 ⟨q, dq, rfl, hq, hE⟩
  replace hX := hX.trans hE
  refine op rfl (r_notP rfl) ?_
  refine WL_nil ?_
  refine W_ifp rfl (fun ht30 => ?_) (fun ht30 => ?_)
  · refine W_seq ?_
    refine W_region ?_
    refine opCv rfl (r_call Tryd.func10 Tryd.nm10 rfl) (known_spec _) ?_
    rintro v9 w9 ⟨rfl, hE⟩
    replace hX := hX.trans hE
    refine op rfl (r_assignV (v := .bool _) rfl) ?_
    refine WL_nil ?_
    refine W_ret (finX_ret ?_)
    refine fin1 ?_
    exact ⟨_, rfl, by first | rfl | exact (bool_tt trivial).symm, hX⟩
  · have hq' := hq (Classical.not_not.1 ht30)
    refine W_skip ?_
    refine W_seq ?_
    refine W_region ?_
    refine op rfl (r_moveV (v := .slice _ _ _) rfl) ?_
    have hX1 := hX
    refine opCv rfl (r_call Tryd.func11 Tryd.nm11 rfl) (new_spec2 (G := old w) (fun b hb ↦ Nat.lt_of_lt_of_le hb hX.size) (hrow.keep (fun b hb ↦ hX.block b hb) (fun _ h ↦ h)) (by omega)) ?_
    rintro v3 w3 ⟨pv, rfl, hH, hE⟩
    replace hX := hX.trans hE
    refine op rfl (r_moveV (v := .tuple #[pv, .int .i64 (if rightT t then 0 else 2)]) rfl) ?_
    refine op rfl (r_extract (vs := [pv, .int .i64 (if rightT t then 0 else 2)]) rfl rfl) ?_
    refine op rfl (r_extract (vs := [pv, .int .i64 (if rightT t then 0 else 2)]) rfl rfl) ?_
    refine op rfl (r_assignV (v := pv) rfl) ?_
    refine op rfl (r_assignV (v := .int .i64 (if rightT t then 0 else 2)) rfl) ?_
    refine WL_nil ?_
    refine W_seq ?_
    refine W_seq ?_
    refine W_region ?_
    refine op rfl (r_moveV (v := .int .i64 (if rightT t then 0 else 2)) rfl) ?_
    refine op rfl (r_neq rfl rfl) ?_
    refine WL_nil ?_
    refine W_ifp rfl (fun ht38 => ?_) (fun ht38 => ?_)
    · refine W_seq ?_
      refine W_region ?_
      refine opCv rfl (r_call Tryd.func10 Tryd.nm10 rfl) (known_spec _) ?_
      rintro v9 w9 ⟨rfl, hE⟩
      replace hX := hX.trans hE
      refine op rfl (r_assignV (v := .bool _) rfl) ?_
      refine WL_nil ?_
      refine W_ret (finX_ret ?_)
      refine fin1 ?_
      exact ⟨_, rfl, by first | rfl | exact (bool_tt trivial).symm, hX⟩
    · have hr : rightT t := Classical.byContradiction (fun q => ht38 (by rw [if_neg q]; decide))
      obtain ⟨p, hpv, hH0⟩ := hH hr
      have hH0' := hH0.lt
      have hXw3 := hX
      have hw3 := hX.size
      refine W_skip ?_
      refine W_seq ?_
      refine W_region ?_
      refine op rfl (r_assignV (v := .slice _ _ _) rfl) ?_
      refine WL_nil ?_
      refine W_seq ?_
      refine W_seq ?_
      refine W_region ?_
      refine op rfl (r_assignV (v := .int _ _) rfl) ?_
      refine WL_nil ?_
      refine W_block ?_
      refine W_loop [7, 8, 9, 40, 41, 42, 43, 44, 45, 46, 47, 48, 49, 50, 51, 52, 53, 54, 55, 56, 57, 58, 59, 60, 61, 62, 63, 64, 65, 66, 67] (fun q e' w' => ∃ (i : Nat) (v : Value) (F : Nat → Prop) (rs : List (List Value)), q = l.length - i ∧ i ≤ l.length ∧ e' 8 = .int .i64 i ∧ e' 7 = v ∧ Eng.Own (rawT 3) w' nobody w3.heap.size 36 v rs ∧ Al (dlT.R w' F) (l.take i) rs ∧ RoomS F w' rs ∧ (∀ b, F b → w3.heap.size ≤ b ∧ b < w'.heap.size ∧ v.ownBlock ≠ some b) ∧ Ext w3 w') (l.length) ?_ ?_
      · exact ⟨0, _, nobody, [], by omega, by omega, rfl, rfl, .nil, by simp [Al], (fun r hr => by cases hr), fun _ q => q.elim, Ext.refl _⟩
      intro k g w' hI
      obtain ⟨i, v, F, rs, hq0, hi, h8, h7, hO, hal, hrm, hF, hX'⟩ := hI
      clear hX
      have hX := hX'
      obtain ⟨w0i, hw0i⟩ : ∃ x, x = w' := ⟨_, rfl⟩
      subst hw0i
      refine W_set (i := 8) h8 ?_
      refine W_set (i := 7) h7 ?_
      refine W_seq ?_
      refine W_seq ?_
      refine W_region ?_
      refine op rfl (r_moveV (v := .int _ _) rfl) ?_
      refine op rfl (r_moveV (v := .slice _ _ _) rfl) ?_
      refine op rfl (r_len_slice rfl Tryd.underlying33) ?_
      refine op rfl (r_lss rfl rfl) ?_
      refine WL_nil ?_
      refine W_ifp rfl (fun ht43 => ?_) (fun ht43 => ?_)
      · have hlt : i < l.length := by omega
        obtain ⟨g1, o1, Ai, ci, hA1, hR1, hc1⟩ := hlat i hlt
        obtain ⟨Ai', ci', hcs, hik, hbc, hbl, hpl, hbrow⟩ := dl_cells hR1
        simp only [List.cons.injEq, Value.slice.injEq, and_true, true_and] at hcs
        obtain ⟨rfl, rfl⟩ := hcs
        refine W_skip ?_
        refine W_seq ?_
        refine W_block ?_
        refine W_seq ?_
        refine W_region ?_
        refine op rfl (r_assignV (v := .slice _ _ _) rfl) ?_
        refine WL_nil ?_
        refine W_seq ?_
        refine W_region ?_
        refine op rfl (r_moveV (v := .slice _ _ _) rfl) ?_
        refine op rfl (r_moveV (v := .slice _ _ _) rfl) ?_
        refine op rfl (r_moveV (v := .int _ _) rfl) ?_
        refine op rfl (r_indexAddrK (by rw [← hA1]; rfl) rfl Tryd.underlying33 Tryd.sz36 hlt) ?_
        refine op rfl (r_fieldAddr rfl Tryd.fld36_2 rfl) ?_
        refine op rfl (r_load (v := .slice Ai l[i].b.length ci) rfl Tryd.underlying34 rfl (ext_cell (hXw3.trans hX) (hc1 2 (by omega)))) ?_
        refine op_app0 flat_byte rfl rfl rfl Tryd.underlying34 Tryd.sz5 Tryd.by5 Tryd.zero5 rfl (Nat.le_refl w0i.heap.size) (.nil) ((hbrow.keep (fun b hb ↦ (hXw3.trans hX).block b hb) (fun _ h ↦ h) : Ty.byte.Row w0i (old w) Ai l[i].b)) (by simp only [List.length_nil]; omega) (by simp only [List.length_nil]; omega) ?_
        intro v11_6 w11_6 O11_6 G11_6
        have hE11 : Ext w0i w11_6 := G11_6.ext
        replace hX := hX.trans hE11
        obtain ⟨Ab, cb, rfl, hcb, hrb⟩ := O11_6.read
        refine op rfl (r_assignV (v := .slice Ab ([] ++ l[i].b).length cb) rfl) ?_
        refine WL_nil ?_
        refine W_drawF (W0 := w3) (fun b : Nat => False) Tryd.wd rfl ?_
        intro wd12 hD
        replace hX := hX.trans hD
        have hS : Ext w3 wd12 ∧ Same (fun b : Nat => False) wd12 wd12 := ⟨hX, fun _ _ => rfl⟩
        refine A_take (i := 0) rfl (by kernel_rfl) (by kernel_rfl) (by kernel_rfl) rfl hS (fun _ hw => r_moveV (v := v) rfl) ?_
        refine A_take (i := 1) rfl (by kernel_rfl) (by kernel_rfl) (by kernel_rfl) rfl hS (fun _ hw => r_moveV (v := .slice _ _ _) rfl) ?_
        refine A_take (i := 2) rfl (by kernel_rfl) (by kernel_rfl) (by kernel_rfl) rfl hS (fun _ hw => r_moveV (v := .int _ _) rfl) ?_
        refine A_take (i := 3) rfl (by kernel_rfl) (by kernel_rfl) (by kernel_rfl) rfl hS (fun _ hw => r_indexAddrK (by rw [← hA1]; rfl) rfl Tryd.underlying33 Tryd.sz36 hlt) ?_
        refine A_take (i := 4) rfl (by kernel_rfl) (by kernel_rfl) (by kernel_rfl) rfl hS (fun _ hw => r_fieldAddr rfl Tryd.fld36_0 rfl) ?_
        refine A_take (i := 5) rfl (by kernel_rfl) (by kernel_rfl) (by kernel_rfl) rfl hS (fun _ hw => r_load (v := .int .i64 l[i].k) rfl Tryd.underlying3 rfl (ext_cell (hXw3.trans hw.1) (hc1 0 (by omega)))) ?_
        refine A_take (i := 6) rfl (by kernel_rfl) (by kernel_rfl) (by kernel_rfl) rfl hS (fun _ hw => r_moveV (v := .slice _ _ _) rfl) ?_
        refine A_take (i := 7) rfl (by kernel_rfl) (by kernel_rfl) (by kernel_rfl) rfl hS (fun _ hw => r_moveV (v := .int _ _) rfl) ?_
        refine A_take (i := 8) rfl (by kernel_rfl) (by kernel_rfl) (by kernel_rfl) rfl hS (fun _ hw => r_indexAddrK (by rw [← hA1]; rfl) rfl Tryd.underlying33 Tryd.sz36 hlt) ?_
        refine A_take (i := 9) rfl (by kernel_rfl) (by kernel_rfl) (by kernel_rfl) rfl hS (fun _ hw => r_fieldAddr rfl Tryd.fld36_1 rfl) ?_
        refine A_take (i := 10) rfl (by kernel_rfl) (by kernel_rfl) (by kernel_rfl) rfl hS (fun _ hw => r_load (v := .string (str l[i].p)) rfl Tryd.underlying9 rfl (ext_cell (hXw3.trans hw.1) (hc1 1 (by omega)))) ?_
        refine A_take (i := 11) rfl (by kernel_rfl) (by kernel_rfl) (by kernel_rfl) rfl hS (fun _ hw => r_moveV (v := .slice Ab ([] ++ l[i].b).length cb) rfl) ?_
        refine A_take (i := 12) rfl (by kernel_rfl) (by kernel_rfl) (by kernel_rfl) rfl hS (fun _ hw => r_build (cs := [.int .i64 l[i].k, .string (str l[i].p), .slice Ab ([] ++ l[i].b).length cb]) Tryd.lay36 (List.forall_mem_cons.2 ⟨rfl, List.forall_mem_cons.2 ⟨rfl, List.forall_mem_cons.2 ⟨rfl, fun _ h => absurd h List.not_mem_nil⟩⟩⟩) rfl rfl) ?_
        refine A_ready1 (i := 13) (by kernel_rfl) ?_
        refine O_newS rfl rfl (r_buildRows (vs := [[.int .i64 l[i].k, .string (str l[i].p), .slice Ab ([] ++ l[i].b).length cb]]) Tryd.underlying33 Tryd.sz36 Tryd.zero36 rfl rfl rfl) ?_
        intro w13 b13 E13 B13 L13
        replace hX := hX.trans E13
        replace hS : Ext w3 w13 ∧ Same (fun b => False) wd12 w13 := ⟨hX, fun _ hb => hb.elim⟩
        refine ⟨hS, ?_⟩
        refine A_ready1 (i := 14) (by kernel_rfl) ?_
        have hE013 := (hE11.trans hD).trans E13
        have hs1 := hE11.size
        have hs2 := hD.size
        have hs3 := E13.size
        have hsl := List.length_take_of_le (Nat.le_of_lt hlt)
        have hR13 : dlT.R w13 (fun b => F b ∨ since w0i w13 b) l[i] [.int .i64 l[i].k, .string (str l[i].p), .slice Ab ([] ++ l[i].b).length cb] := by
          have hrb' : Ty.byte.Row w13 (fun b => F b ∨ since w0i w13 b) Ab l[i].b := hrb.keep (fun b hb => by
            rcases hb with q | q
            · exact q.elim
            · have := O11_6.lt q; exact (E13.block b (by omega)).trans (hD.block b this.2)) (fun b hb => by
            rcases hb with q | q
            · exact q.elim
            · have := O11_6.lt q; exact Or.inr ⟨this.1, by omega⟩)
          exact dl_mk (x := l[i]) hik hcb hbl hpl hrb'
        have hrl := hal.len
        have hown := own_fext hO hE013
        have hF13 : ∀ b, (F b ∨ since w0i w13 b) → b < w13.heap.size ∧ v.ownBlock ≠ some b := fun b hb => hb.elim (fun q => ⟨by have := (hF b q).2.1; omega, (hF b q).2.2⟩) (fun q => ⟨q.2, fun k => by have := (hO.lt k).2; have := q.1; omega⟩)
        have hraw13 : Raw 3 [Value.int .i64 l[i].k, .string (str l[i].p), .slice Ab ([] ++ l[i].b).length cb] := ⟨rfl, fun u hu => by rcases List.mem_cons.1 hu with rfl | hu <;> first | rfl | (rcases List.mem_cons.1 hu with rfl | hu <;> first | rfl | (rw [List.mem_singleton.1 hu]; rfl))⟩
        refine O_append (T := rawT 3) (F := nobody) (l := rs) (m := [[Value.int .i64 l[i].k, .string (str l[i].p), .slice Ab ([] ++ l[i].b).length cb]]) rfl rfl rfl rfl Tryd.underlying33 Tryd.sz36 Tryd.by36 Tryd.zero36 rfl hown (Src.blk B13 ⟨rfl, hraw13⟩) (fun _ q => q.elim) (by simp only [List.length_singleton]; omega) (by simp only [List.length_singleton]; omega) hX.size ?_
        intro v14 w14 hO14 hG14 hv14
        have hs4 := hG14.size
        have hX14 : Ext w3 w14 := hX.gro hG14 hX.size (fun k hk => (hown.lt hk).1)
        have hS1314 : Same (fun b => F b ∨ since w0i w13 b) w13 w14 := fun b hb => hG14.block b (hF13 b hb).1 (hF13 b hb).2
        have hSF : Same F w0i w13 := fun b hb => hE013.block b (hF b hb).2.1
        have hF14 : ∀ b, (F b ∨ since w0i w13 b) → w3.heap.size ≤ b ∧ b < w14.heap.size ∧ v14.ownBlock ≠ some b := fun b hb => ⟨hb.elim (fun q => (hF b q).1) (fun q => by have := q.1; have := hX'.size; omega), by have := (hF13 b hb).1; omega, fun q => by
          rcases hv14 with k | ⟨g, k, hg⟩
          · exact (hF13 b hb).2 (k ▸ q)
          · rw [k] at q; simp only [Option.some.injEq] at q; have := (hF13 b hb).1; omega⟩
        have hal14 : Al (dlT.R w14 (fun b => F b ∨ since w0i w13 b)) (l.take i ++ [l[i]]) (rs ++ [[Value.int .i64 l[i].k, .string (str l[i].p), .slice Ab ([] ++ l[i].b).length cb]]) :=
          (hal.imp (fun x r h => dlT.keep h (fun b hb => (hS1314 b (Or.inl hb)).trans (hSF b hb)) (fun b hb => Or.inl hb))).app ⟨dlT.keep hR13 hS1314 (fun _ h => h), trivial⟩
        have hrm14 : RoomS (fun b => F b ∨ since w0i w13 b) w14 (rs ++ [[Value.int .i64 l[i].k, .string (str l[i].p), .slice Ab ([] ++ l[i].b).length cb]]) := fun r hr => by
          rcases List.mem_append.1 hr with q | q
          · exact hrm.keep (fun b hb => (hS1314 b (Or.inl hb)).trans (hSF b hb)) (fun b hb => Or.inl hb) r q
          · rw [List.mem_singleton.1 q]
            have hroom : RoomB (fun b => F b ∨ since w0i w13 b) w14 Ab ([] ++ l[i].b).length := by
              have h0 : RoomB (since w0i w11_6) w11_6 Ab ([] ++ l[i].b).length := byte_roomB O11_6 (fun b h1 h2 => ⟨h1, h2⟩)
              rcases h0 with q | ⟨g, off, c, tt, q1, q2, q3, q4⟩
              · exact Or.inl q
              · have q5 : Blk w13 g c tt := (q3.ext hD).ext E13
                exact Or.inr ⟨g, off, c, tt, q1, Or.inr ⟨q2.1, Blk.lt q5⟩, q5.at (hS1314 g (Or.inr ⟨q2.1, Blk.lt q5⟩)), q4⟩
            exact ⟨_, _, _, _, _, rfl, hroom, hbl⟩
        clear hX
        have hX := hX14
        replace hS : Ext w3 w14 ∧ Same (fun b => False) wd12 w14 := ⟨hX, fun _ hb => hb.elim⟩
        refine ⟨hS, ?_⟩
        refine A_take (i := 15) rfl (by kernel_rfl) (by kernel_rfl) (by kernel_rfl) rfl hS (fun _ hw => r_assignV (v := v14) rfl) ?_
        refine A_done (by kernel_rfl) ?_
        refine W_region ?_
        refine op rfl (r_moveV (v := .int _ _) rfl) ?_
        refine op rfl (r_add' (r := ((i + 1 : Nat) : Int)) rfl rfl (by rw [wrap_i64 (by omega) (by omega)]; omega)) ?_
        refine op rfl (r_assignV (v := .int _ _) rfl) ?_
        refine WL_nil ?_
        refine ⟨?_, by repeat (first | with_reducible exact Out.refl _ _ | with_reducible exact Out.mix | refine Out.put rfl ?_ | refine Out.mixin rfl ?_ | exact Out.refl _ _ | exact Out.mix)⟩
        exact ⟨l.length - (i + 1), by omega, i + 1, _, _, _, rfl, by omega, rfl, rfl, hO14, by rw [List.take_succ_eq_append_getElem hlt]; exact hal14, hrm14, hF14, hX⟩
      · obtain rfl : i = l.length := by omega
        rw [List.take_length] at hal
        obtain ⟨we, hwe⟩ : ∃ x, x = w0i := ⟨_, rfl⟩
        subst hwe
        have hrl := hal.len
        have hOd := Own.of_raw (T := dlT) hO hal
        obtain ⟨Av, cv, rfl, hcv, hrv⟩ := hOd.read
        have hHe := hH0'.ext hX'
        refine W_exit (blk_hit ?_)
        refine W_seq ?_
        refine W_region ?_
        refine op rfl (r_moveV (v := hp p) (by rw [← hpv]; rfl)) ?_
        refine op rfl (r_moveV (v := .slice Av l.length cv) rfl) ?_
        refine opCv rfl (r_call Tryd.func12 Tryd.nm12 rfl) (commit_spec (cd := cv) hHe (fun b hb ↦ hb.elim (fun q ↦ ⟨(hF b q).2.1, fun k ↦ by have := (hF b q).1; have := k.2; omega⟩) (fun q ↦ ⟨(hO.lt q).2, fun k ↦ by have := (hO.lt q).1; have := k.2; omega⟩)) hrv hll) ?_
        rintro v4 w4 ⟨hv4, hH4, hM⟩
        obtain ⟨H1, hH1⟩ : ∃ x, x = (commitR [⟨[], t⟩] l).1 := ⟨_, rfl⟩
        obtain ⟨rn, hrn⟩ : ∃ x, x = (commitR [⟨[], t⟩] l).2.1 := ⟨_, rfl⟩
        obtain ⟨ec, hec⟩ : ∃ x, x = (commitR [⟨[], t⟩] l).2.2 := ⟨_, rfl⟩
        rw [← hrn, ← hec] at hv4
        subst hv4
        rw [← hH1] at hH4
        have hgood : ec = 0 → ∃ u, H1 = [⟨[], t⟩] ++ [⟨l, u⟩] ∧ applyT t l = (0, u) := fun h => by
          obtain ⟨u, h1, _, h2⟩ := commit_good (hec ▸ h : (commitR [⟨[], t⟩] l).2.2 = 0)
          exact ⟨u, hH1.trans h1, h2⟩
        have hbad : ec ≠ 0 → H1 = [⟨[], t⟩] := fun h => by rw [hH1]; exact commit_bad (hec ▸ h)
        have hs2 := hX1.size
        have hX4 : Ext w w4 := ext_mv (hXw3.trans hX') hM (fun b hb => by have := hb.1.1; omega)
        clear hX
        have hX := hX4
        have hse := hX'.size
        have hs4 := hM.size
        have hO4 : Eng.Own (rawT 3) w4 nobody w3.heap.size 36 (.slice Av l.length cv) rs := hO.keep (fun _ q => q.elim) (fun _ q => q.elim) (fun g hg => hM.block g (hO.lt hg).2 (fun k => by have := (hO.lt hg).1; have := k.2; omega))
        have hrm4 : RoomS F w4 rs := hrm.keep (fun b hb => hM.block b (hF b hb).2.1 (fun k => by have := (hF b hb).1; have := k.2; omega)) (fun _ h => h)
        refine op rfl (r_moveV (v := .tuple #[.int .i64 rn, .int .i64 ec]) rfl) ?_
        refine op rfl (r_extract (vs := [.int .i64 rn, .int .i64 ec]) rfl rfl) ?_
        refine op rfl (r_extract (vs := [.int .i64 rn, .int .i64 ec]) rfl rfl) ?_
        refine op rfl (r_assignV (v := .int .i64 rn) rfl) ?_
        refine op rfl (r_assignV (v := .int .i64 ec) rfl) ?_
        refine WL_nil ?_
        refine W_seq ?_
        refine W_seq ?_
        refine W_region ?_
        refine op rfl (r_moveV (v := .int .i64 ec) rfl) ?_
        refine op rfl (r_neq rfl rfl) ?_
        refine WL_nil ?_
        refine W_ifp rfl (fun ht75 => ?_) (fun ht75 => ?_)
        · refine W_seq ?_
          refine W_region ?_
          refine op rfl (r_moveV (v := hp p) (by rw [← hpv]; rfl)) ?_
          refine opCv rfl (r_call Tryd.func15 Tryd.nm15 rfl) (head_spec hH4) ?_
          rintro v9 w9 ⟨rfl, hE⟩
          replace hX := hX.trans hE
          refine op rfl (r_eql rfl rfl) ?_
          refine op_true rfl (r_moveV (v := .bool (decide _)) rfl) (by rw [hbad ht75]; rfl) ?_
          refine opGCv_yes rfl rfl rfl rfl rfl (r_call Tryd.func10 Tryd.nm10 rfl) (known_spec _) ?_
          rintro v9 w9 ⟨rfl, hE⟩
          replace hX := hX.trans hE
          refine op rfl (r_pickTV (v := .bool _) rfl rfl) ?_
          refine op rfl (r_assignV (v := .bool _) rfl) ?_
          refine WL_nil ?_
          refine W_ret (finX_ret ?_)
          refine fin1 ?_
          exact ⟨_, rfl, by first | rfl | exact (bool_tt trivial).symm, hX⟩
        · obtain ⟨u, hu1, hap⟩ := hgood (Classical.not_not.1 ht75)
          have hru := apply_right hap
          have hgu : getR H1 ((1 : Nat) : Int) = ⟨l, u⟩ := by rw [hu1]; exact spoil_head [] t u l
          have hAt : ∀ W, Ext w W → Calls Tryd.prog 17 #[.slice A t.length cap, .slice Ar l.length cl] W (fun en w' => ∃ v, en = .returned v ∧ ∃ v1, v = .tuple #[v1, .int .i64 0] ∧ RowS (old w) W w' v1 u ∧ Ext W w') := fun W he => by
            have := refApply_spec (cap := cap) (cd := cl) (w := W) (G := old w) (fun b hb => Nat.lt_of_lt_of_le hb he.size) (hrow.keep (fun b hb => he.block b hb) (fun _ h => h)) (hrowl.keep (fun b hb => he.block b hb) (fun _ h => h)) (by omega) hct (tree_paths hr) (fun d hd => right_path_len (run_paths (apply_run hap) d hd))
            rw [hap] at this
            exact this
          refine W_skip ?_
          refine W_seq ?_
          refine W_region ?_
          refine op rfl (r_moveV (v := .slice _ _ _) rfl) ?_
          refine op rfl (r_moveV (v := .slice _ _ _) rfl) ?_
          refine opCv rfl (r_call Tryd.func17 Tryd.nm17 rfl) (hAt _ hX) ?_
          rintro v5 w5 ⟨v6, rfl, hR5, hE⟩
          replace hX := hX.trans hE
          obtain ⟨A10, c10, rfl, hc10, hr10⟩ := hR5
          have hs5 := hE.size
          have hE45 := hE
          refine op rfl (r_moveV (v := .tuple #[.slice A10 u.length c10, .int .i64 0]) rfl) ?_
          refine op rfl (r_extract (vs := [.slice A10 u.length c10, .int .i64 0]) rfl rfl) ?_
          refine op rfl (r_extract (vs := [.slice A10 u.length c10, .int .i64 0]) rfl rfl) ?_
          refine op rfl (r_assignV (v := .slice A10 u.length c10) rfl) ?_
          refine op rfl (r_assignV (v := .int .i64 0) rfl) ?_
          refine WL_nil ?_
          refine W_seq ?_
          refine W_region ?_
          refine op rfl (r_moveV (v := hp p) (by rw [← hpv]; rfl)) ?_
          refine opCv rfl (r_call Tryd.func19 Tryd.nm19 rfl) (histDeltas_spec (hH4.ext hE45) ((1 : Nat) : Int)) ?_
          rintro v7 w6 ⟨v8, rfl, hOd6, hE⟩
          replace hX := hX.trans hE
          rw [hgu] at hOd6
          have hOd6 : OwnD w5 w6 v8 l := hOd6
          obtain ⟨Ad, cd, rfl, hcd, -⟩ := hOd6.rd
          have hs6 := hE.size
          have hE56 := hE
          refine op rfl (r_moveV (v := .tuple #[.slice Ad l.length cd, .int .i64 (errR H1 ((1 : Nat) : Int))]) rfl) ?_
          refine op rfl (r_extract (vs := [.slice Ad l.length cd, .int .i64 (errR H1 ((1 : Nat) : Int))]) rfl rfl) ?_
          refine op rfl (r_extract (vs := [.slice Ad l.length cd, .int .i64 (errR H1 ((1 : Nat) : Int))]) rfl rfl) ?_
          refine op rfl (r_assignV (v := .slice Ad l.length cd) rfl) ?_
          refine op rfl (r_assignV (v := .int .i64 (errR H1 ((1 : Nat) : Int))) rfl) ?_
          refine WL_nil ?_
          refine W_seq ?_
          refine W_region ?_
          refine op rfl (r_moveV (v := hp p) (by rw [← hpv]; rfl)) ?_
          refine opCv rfl (r_call Tryd.func16 Tryd.nm16 rfl) (histAt_spec ((hH4.ext hE45).ext hE56) ((1 : Nat) : Int)) ?_
          rintro v9 w7 ⟨v10, rfl, hOu7, hE⟩
          replace hX := hX.trans hE
          rw [hgu] at hOu7
          have hOu7 : OwnT w6 w7 v10 u := hOu7
          obtain ⟨Au, cu, rfl, hcu, -⟩ := hOu7.rd
          have hs7 := hE.size
          have hE67 := hE
          have hE47 := (hE45.trans hE56).trans hE67
          have hH7 := (hH4.ext hE47)
          have hO7 := own_fext hO4 hE47
          have hrm7 : RoomS F w7 rs := hrm4.keep (fun b hb => hE47.block b (by have := (hF b hb).2.1; omega)) (fun _ h => h)
          have hrd7 : RoomB (fun b => w5.heap.size ≤ b) w7 Ad (l.length * 3) := by
            obtain ⟨rd, hald, hOr⟩ := hOd6.raw
            rw [hald.len]
            exact (own_roomB (R := since w5 w6) hOr (fun b h1 h2 => ⟨h1, h2⟩)).keep (fun b hb => hE67.block b hb.2) |>.imp_right (fun ⟨g, off, c, tt, h1, h2, h3⟩ => ⟨g, off, c, tt, h1, h2.1, h3⟩)
          have hru7 : RoomB (fun b => w5.heap.size ≤ b) w7 Au (u.length * 2) := by
            obtain ⟨rd, hald, hOr⟩ := hOu7.raw
            rw [hald.len]
            exact own_roomB hOr (fun b h1 h2 => by omega)
          have hr7 : fiT.Row w7 (fun b => old w b ∨ since w4 w5 b) A10 u := hr10.keep (fun b hb => (hE56.trans hE67).block b (by rcases hb with q | q; (have := hX4.size; have : b < w.heap.size := q; omega); exact q.2)) (fun _ h => h)
          obtain ⟨Y, hY⟩ : ∃ Y : Nat → Prop, Y = fun b => F b ∨ w5.heap.size ≤ b := ⟨_, rfl⟩
          have hYw : ∀ b, Y b → w.heap.size ≤ b := fun b hb => by rw [hY] at hb; rcases hb with q | q; have := (hF b q).1; omega; have := hX4.size; omega
          have hXw7 := hX
          refine op rfl (r_moveV (v := .tuple #[.slice Au u.length cu, .int .i64 (errR H1 ((1 : Nat) : Int))]) rfl) ?_
          refine op rfl (r_extract (vs := [.slice Au u.length cu, .int .i64 (errR H1 ((1 : Nat) : Int))]) rfl rfl) ?_
          refine op rfl (r_extract (vs := [.slice Au u.length cu, .int .i64 (errR H1 ((1 : Nat) : Int))]) rfl rfl) ?_
          refine op rfl (r_assignV (v := .slice Au u.length cu) rfl) ?_
          refine op rfl (r_assignV (v := .int .i64 (errR H1 ((1 : Nat) : Int))) rfl) ?_
          refine WL_nil ?_
          refine W_seq ?_
          refine W_seq ?_
          refine W_region ?_
          refine op rfl (r_assignV (v := .int _ _) rfl) ?_
          refine WL_nil ?_
          refine W_block ?_
          refine W_loop [18, 19, 98, 99, 100, 101, 102, 103, 104, 105, 106, 107, 108, 109, 110, 111, 112, 113, 114, 115, 116, 117, 118, 119, 120] (fun q e' w' => ∃ (i : Nat), q = l.length - i ∧ i ≤ l.length ∧ e' 18 = .int .i64 i ∧ Mv F w7 w' ∧ RoomS F w' rs) (l.length) ?_ ?_
          · exact ⟨0, by omega, by omega, rfl, Mv.of_ext (Ext.refl _), hrm7⟩
          intro k g w' hI
          obtain ⟨i, hqi, hil, h18, hMF, hrm'⟩ := hI
          clear hX
          have hX : Ext w w' := ext_mv hXw7 hMF (fun b hb => by have := (hF b hb).1; omega)
          refine W_set (i := 18) h18 ?_
          refine W_seq ?_
          refine W_seq ?_
          refine W_region ?_
          refine op rfl (r_moveV (v := .int _ _) rfl) ?_
          refine op rfl (r_moveV (v := .slice _ _ _) rfl) ?_
          refine op rfl (r_len_slice rfl Tryd.underlying33) ?_
          refine op rfl (r_lss rfl rfl) ?_
          refine WL_nil ?_
          refine W_ifp rfl (fun ht101 => ?_) (fun ht101 => ?_)
          · have hlt : i < l.length := by omega
            have hltr : i < rs.length := by omega
            have hcellv : ∀ W, Mv F w7 W → ∃ gv, Av = some ⟨gv, 0, none⟩ ∧ ∀ j, j < 3 → W.cell? ⟨gv, i * 3 + j, none⟩ = rs[i][j]? := fun W hM' => by
              have := hO7.keep (w' := W) (F' := nobody) (fun _ q => q.elim) (fun _ q => q.elim) (fun g hg => hM'.block g (hO7.lt hg).2 (fun q => (hF g q).2.2 hg))
              obtain ⟨gv, cp, hv2, _, _, hcell⟩ := this.rawAt hltr
              simp only [Value.slice.injEq] at hv2
              exact ⟨gv, hv2.1, hcell⟩
            obtain ⟨gv, hAv, -⟩ := hcellv w7 (Mv.of_ext (Ext.refl _))
            obtain ⟨k1, p1, Ai, n1, ci, hri, -, hn1⟩ := hrm7 rs[i] (List.getElem_mem hltr)
            have hload : ∀ W, Mv F w7 W → W.cell? ⟨gv, i * 3 + 2, none⟩ = some (.slice Ai n1 ci) := fun W hM' => by
              obtain ⟨gv', h1, h2⟩ := hcellv W hM'
              rw [hAv] at h1
              simp only [Option.some.injEq, Addr.mk.injEq, and_true] at h1
              subst h1
              rw [h2 2 (by omega), hri]; rfl
            refine W_skip ?_
            refine W_seq ?_
            refine W_block ?_
            refine W_seq ?_
            refine W_region ?_
            refine op rfl (r_assignV (v := .int _ _) rfl) ?_
            refine WL_nil ?_
            refine W_block ?_
            refine W_loop [19, 104, 105, 106, 107, 108, 109, 110, 111, 112, 113, 114, 115, 116, 117, 118, 119, 120] (fun q e' w' => ∃ (j : Nat), q = n1 - j ∧ j ≤ n1 ∧ e' 19 = .int .i64 j ∧ Mv F w7 w' ∧ RoomS F w' rs) (n1) ?_ ?_
            · exact ⟨0, by omega, by omega, rfl, hMF, hrm'⟩
            intro k g w' hI
            obtain ⟨j, hqj, hjl, h19, hMF', hrm''⟩ := hI
            clear hX
            have hX : Ext w w' := ext_mv hXw7 hMF' (fun b hb => by have := (hF b hb).1; omega)
            have hload' := hload w' hMF'
            refine W_set (i := 19) h19 ?_
            refine W_seq ?_
            refine W_seq ?_
            refine W_region ?_
            refine op rfl (r_moveV (v := .int _ _) rfl) ?_
            refine op rfl (r_moveV (v := .slice _ _ _) rfl) ?_
            refine op rfl (r_moveV (v := .int _ _) rfl) ?_
            refine op rfl (r_indexAddrK (by rw [← hAv]; rfl) rfl Tryd.underlying33 Tryd.sz36 hlt) ?_
            refine op rfl (r_fieldAddr rfl Tryd.fld36_2 rfl) ?_
            refine op rfl (r_load (v := .slice Ai n1 ci) rfl Tryd.underlying34 rfl (by simpa using hload')) ?_
            refine op rfl (r_len_slice rfl Tryd.underlying34) ?_
            refine op rfl (r_lss rfl rfl) ?_
            refine WL_nil ?_
            refine W_ifp rfl (fun ht111 => ?_) (fun ht111 => ?_)
            · have hltj : j < n1 := by omega
              obtain ⟨gB, oB, cB, tB, hAi, hFg, hBg, hfit⟩ : ∃ g off c t, Ai = some ⟨g, off, none⟩ ∧ F g ∧ Blk w' g c t ∧ off + n1 ≤ c.size := by
                obtain ⟨k2, p2, Aj, n2, cj, h1, h2, -⟩ := hrm'' rs[i] (List.getElem_mem hltr)
                rw [hri] at h1
                simp only [List.cons.injEq, Value.slice.injEq, and_true] at h1
                obtain ⟨-, -, rfl, rfl, rfl⟩ := h1
                exact h2.resolve_left (by omega)
              refine W_skip ?_
              refine W_seq ?_
              refine W_block ?_
              refine W_region ?_
              refine op rfl (r_moveV (v := .slice _ _ _) rfl) ?_
              refine op rfl (r_moveV (v := .int _ _) rfl) ?_
              refine op rfl (r_indexAddrK (by rw [← hAv]; rfl) rfl Tryd.underlying33 Tryd.sz36 hlt) ?_
              refine op rfl (r_fieldAddr rfl Tryd.fld36_2 rfl) ?_
              refine op rfl (r_load (v := .slice Ai n1 ci) rfl Tryd.underlying34 rfl (by simpa using hload')) ?_
              refine op rfl (r_moveV (v := .int _ _) rfl) ?_
              refine op rfl (r_indexAddr1 rfl rfl hAi Tryd.underlying34 Tryd.sz5 (by omega) (by omega)) ?_
              refine op_store (v := .int .u8 9) rfl rfl rfl Tryd.sz5 hBg (by omega) ?_
              intro w8 C8 B8
              have hMF2 : Mv F w7 w8 := hMF'.trans (Mv.of_chg C8 hFg)
              have hrm2 : RoomS F w8 rs := fun r hr => by
                obtain ⟨k2, p2, Aj, n2, cj, h1, h2, h3⟩ := hrm'' r hr
                exact ⟨k2, p2, Aj, n2, cj, h1, h2.chg C8 hBg B8, h3⟩
              clear hX
              have hX : Ext w w8 := ext_mv hXw7 hMF2 (fun b hb => by have := (hF b hb).1; omega)
              refine WL_nil ?_
              refine W_region ?_
              refine op rfl (r_moveV (v := .int _ _) rfl) ?_
              refine op rfl (r_add' (r := ((j + 1 : Nat) : Int)) rfl rfl (by rw [wrap_i64 (by omega) (by omega)]; omega)) ?_
              refine op rfl (r_assignV (v := .int _ _) rfl) ?_
              refine WL_nil ?_
              refine ⟨?_, by repeat (first | with_reducible exact Out.refl _ _ | with_reducible exact Out.mix | refine Out.put rfl ?_ | refine Out.mixin rfl ?_ | exact Out.refl _ _ | exact Out.mix)⟩
              exact ⟨n1 - (j + 1), by omega, j + 1, rfl, by omega, rfl, hMF2, hrm2⟩
            · refine W_exit (blk_hit ?_)
              refine W_region ?_
              refine op rfl (r_moveV (v := .int _ _) rfl) ?_
              refine op rfl (r_add' (r := ((i + 1 : Nat) : Int)) rfl rfl (by rw [wrap_i64 (by omega) (by omega)]; omega)) ?_
              refine op rfl (r_assignV (v := .int _ _) rfl) ?_
              refine WL_nil ?_
              refine ⟨?_, by repeat (first | with_reducible exact Out.refl _ _ | with_reducible exact Out.mix | refine Out.put rfl ?_ | refine Out.mixin rfl ?_ | exact Out.refl _ _ | exact Out.mix)⟩
              exact ⟨l.length - (i + 1), by omega, i + 1, rfl, by omega, rfl, hMF', hrm''⟩
          · have hMFe := hMF
            obtain ⟨w8, hw8⟩ : ∃ x, x = w' := ⟨_, rfl⟩
            subst hw8
            have hs78 := hMFe.size
            have hMY : Mv Y w7 w8 := ⟨hMFe.os, hMFe.tape, hMFe.output, hMFe.size, fun b hb hn => hMFe.block b hb (fun q => hn (by rw [hY]; exact Or.inl q))⟩
            have hrd8 : RoomB (fun b => w5.heap.size ≤ b) w8 Ad (l.length * 3) := by
              rcases hrd7 with q | ⟨g, off, c, tt, h1, h2, h3, h4⟩
              · exact Or.inl q
              · exact Or.inr ⟨g, off, c, tt, h1, h2, hMFe.blk h3 (fun q => by have := (hF g q).2.1; omega), h4⟩
            have hru8 : RoomB (fun b => w5.heap.size ≤ b) w8 Au (u.length * 2) := by
              rcases hru7 with q | ⟨g, off, c, tt, h1, h2, h3, h4⟩
              · exact Or.inl q
              · exact Or.inr ⟨g, off, c, tt, h1, h2, hMFe.blk h3 (fun q => by have := (hF g q).2.1; omega), h4⟩
            refine W_exit (blk_hit ?_)
            refine W_seq ?_
            refine W_seq ?_
            refine W_region ?_
            refine op rfl (r_assignV (v := .int _ _) rfl) ?_
            refine WL_nil ?_
            refine W_block ?_
            refine W_loop [20, 121, 122, 123, 124, 125, 126, 127, 128, 129, 130] (fun q e' w' => ∃ (i : Nat), q = l.length - i ∧ i ≤ l.length ∧ e' 20 = .int .i64 i ∧ Mv Y w7 w' ∧ RoomB (fun b => w5.heap.size ≤ b) w' Ad (l.length * 3) ∧ RoomB (fun b => w5.heap.size ≤ b) w' Au (u.length * 2)) (l.length) ?_ ?_
            · exact ⟨0, by omega, by omega, rfl, hMY, hrd8, hru8⟩
            intro k g w' hI
            obtain ⟨m, hqm, hml, h20, hMY', hrd', hru'⟩ := hI
            clear hX
            have hX : Ext w w' := ext_mv hXw7 hMY' hYw
            refine W_set (i := 20) h20 ?_
            refine W_seq ?_
            refine W_seq ?_
            refine W_region ?_
            refine op rfl (r_moveV (v := .int _ _) rfl) ?_
            refine op rfl (r_moveV (v := .slice Ad l.length cd) rfl) ?_
            refine op rfl (r_len_slice rfl Tryd.underlying33) ?_
            refine op rfl (r_lss rfl rfl) ?_
            refine WL_nil ?_
            refine W_ifp rfl (fun ht124 => ?_) (fun ht124 => ?_)
            · have hltm : m < l.length := by omega
              obtain ⟨gB, oB, cB, tB, hAd, hFg, hBg, hfit⟩ := hrd'.resolve_left (by omega)
              refine W_skip ?_
              refine W_seq ?_
              refine W_block ?_
              refine W_region ?_
              refine op rfl (r_moveV (v := .slice Ad l.length cd) rfl) ?_
              refine op rfl (r_moveV (v := .int _ _) rfl) ?_
              refine op rfl (r_indexAddrK (by rw [← hAd]; rfl) rfl Tryd.underlying33 Tryd.sz36 hltm) ?_
              refine op rfl (r_fieldAddr rfl Tryd.fld36_1 rfl) ?_
              refine op_store (v := .string (str [115, 112, 111, 105, 108, 116])) rfl rfl rfl Tryd.sz9 hBg (by omega) ?_
              intro w9 C9 B9
              have hMY2 : Mv Y w7 w9 := hMY'.trans (Mv.of_chg C9 (by rw [hY]; exact Or.inr hFg))
              have hrd2 := hrd'.chg C9 hBg B9
              have hru2 := hru'.chg C9 hBg B9
              clear hX
              have hX : Ext w w9 := ext_mv hXw7 hMY2 hYw
              refine WL_nil ?_
              refine W_region ?_
              refine op rfl (r_moveV (v := .int _ _) rfl) ?_
              refine op rfl (r_add' (r := ((m + 1 : Nat) : Int)) rfl rfl (by rw [wrap_i64 (by omega) (by omega)]; omega)) ?_
              refine op rfl (r_assignV (v := .int _ _) rfl) ?_
              refine WL_nil ?_
              refine ⟨?_, by repeat (first | with_reducible exact Out.refl _ _ | with_reducible exact Out.mix | refine Out.put rfl ?_ | refine Out.mixin rfl ?_ | exact Out.refl _ _ | exact Out.mix)⟩
              exact ⟨l.length - (m + 1), by omega, m + 1, rfl, by omega, rfl, hMY2, hrd2, hru2⟩
            · refine W_exit (blk_hit ?_)
              refine W_seq ?_
              refine W_seq ?_
              refine W_region ?_
              refine op rfl (r_assignV (v := .int _ _) rfl) ?_
              refine WL_nil ?_
              refine W_block ?_
              refine W_loop [21, 131, 132, 133, 134, 135, 136, 137, 138, 139, 140] (fun q e' w' => ∃ (i : Nat), q = u.length - i ∧ i ≤ u.length ∧ e' 21 = .int .i64 i ∧ Mv Y w7 w' ∧ RoomB (fun b => w5.heap.size ≤ b) w' Au (u.length * 2)) (u.length) ?_ ?_
              · exact ⟨0, by omega, by omega, rfl, hMY', hru'⟩
              intro k g w' hI
              obtain ⟨z, hqz, hzl, h21, hMZ', hrz'⟩ := hI
              clear hX
              have hX : Ext w w' := ext_mv hXw7 hMZ' hYw
              refine W_set (i := 21) h21 ?_
              refine W_seq ?_
              refine W_seq ?_
              refine W_region ?_
              refine op rfl (r_moveV (v := .int _ _) rfl) ?_
              refine op rfl (r_moveV (v := .slice Au u.length cu) rfl) ?_
              refine op rfl (r_len_slice rfl Tryd.underlying23) ?_
              refine op rfl (r_lss rfl rfl) ?_
              refine WL_nil ?_
              refine W_ifp rfl (fun ht134 => ?_) (fun ht134 => ?_)
              · have hltz : z < u.length := by omega
                have hul := hru.1
                obtain ⟨gB, oB, cB, tB, hAu, hFg, hBg, hfit⟩ := hrz'.resolve_left (by omega)
                refine W_skip ?_
                refine W_seq ?_
                refine W_block ?_
                refine W_region ?_
                refine op rfl (r_moveV (v := .slice Au u.length cu) rfl) ?_
                refine op rfl (r_moveV (v := .int _ _) rfl) ?_
                refine op rfl (r_indexAddrK (by rw [← hAu]; rfl) rfl Tryd.underlying23 Tryd.sz54 hltz) ?_
                refine op rfl (r_fieldAddr rfl Tryd.fld54_0 rfl) ?_
                refine op_store (v := .string (str [115, 112, 111, 105, 108, 116])) rfl rfl rfl Tryd.sz9 hBg (by omega) ?_
                intro w9 C9 B9
                have hMZ2 : Mv Y w7 w9 := hMZ'.trans (Mv.of_chg C9 (by rw [hY]; exact Or.inr hFg))
                have hrz2 := hrz'.chg C9 hBg B9
                clear hX
                have hX : Ext w w9 := ext_mv hXw7 hMZ2 hYw
                refine WL_nil ?_
                refine W_region ?_
                refine op rfl (r_moveV (v := .int _ _) rfl) ?_
                refine op rfl (r_add' (r := ((z + 1 : Nat) : Int)) rfl rfl (by rw [wrap_i64 (by omega) (by omega)]; omega)) ?_
                refine op rfl (r_assignV (v := .int _ _) rfl) ?_
                refine WL_nil ?_
                refine ⟨?_, by repeat (first | with_reducible exact Out.refl _ _ | with_reducible exact Out.mix | refine Out.put rfl ?_ | refine Out.mixin rfl ?_ | exact Out.refl _ _ | exact Out.mix)⟩
                exact ⟨u.length - (z + 1), by omega, z + 1, rfl, by omega, rfl, hMZ2, hrz2⟩
              · obtain ⟨w10, hw10⟩ : ∃ x, x = w' := ⟨_, rfl⟩
                subst hw10
                have hs710 := hMZ'.size
                have hH10 := hH7.lt.mv hMZ' (fun b hb q => by
                  rw [hY] at q
                  obtain ⟨hb1, hb2⟩ := hb
                  rcases hb1 with k | k
                  · rcases q with q | q
                    · have := (hF b q).1; have := k.2; omega
                    · have := k.2; omega
                  · rcases q with q | q
                    · have := (hF b q).2.1; have := k.1; omega
                    · have := k.2; omega)
                have hr10' : fiT.Row w10 (old w10) A10 u := hr7.keep (fun b hb => hMZ'.block b (by rcases hb with q | q; have := hX4.size; have : b < w.heap.size := q; omega; have := q.2; omega) (fun q => by
                  rw [hY] at q
                  rcases hb with k | k
                  · have : b < w.heap.size := k
                    rcases q with q | q
                    · have := (hF b q).1; omega
                    · have := hX4.size; omega
                  · have := k.1; have := k.2
                    rcases q with q | q
                    · have := (hF b q).2.1; omega
                    · omega)) (fun b hb => by rcases hb with q | q; have := hX4.size; have : b < w.heap.size := q; show b < w10.heap.size; omega; have := q.2; show b < w10.heap.size; omega)
                have hX10 := hX
                refine W_exit (blk_hit ?_)
                refine W_seq ?_
                refine W_region ?_
                refine op rfl (r_moveV (v := hp p) (by rw [← hpv]; rfl)) ?_
                refine opCv rfl (r_call Tryd.func16 Tryd.nm16 rfl) (histAt_spec hH10 ((1 : Nat) : Int)) ?_
                rintro v11 w11 ⟨v12, rfl, hO11, hE⟩
                replace hX := hX.trans hE
                rw [hgu] at hO11
                have hO11 : OwnT w10 w11 v12 u := hO11
                obtain ⟨A11, c11, rfl, hc11, hr11⟩ := hO11.rd
                have hE1011 := hE
                refine op rfl (r_moveV (v := .tuple #[.slice A11 u.length c11, .int .i64 (errR H1 ((1 : Nat) : Int))]) rfl) ?_
                refine op rfl (r_extract (vs := [.slice A11 u.length c11, .int .i64 (errR H1 ((1 : Nat) : Int))]) rfl rfl) ?_
                refine op rfl (r_extract (vs := [.slice A11 u.length c11, .int .i64 (errR H1 ((1 : Nat) : Int))]) rfl rfl) ?_
                refine op rfl (r_assignV (v := .slice A11 u.length c11) rfl) ?_
                refine op rfl (r_assignV (v := .int .i64 (errR H1 ((1 : Nat) : Int))) rfl) ?_
                refine WL_nil ?_
                refine W_seq ?_
                refine W_region ?_
                refine op rfl (r_moveV (v := hp p) (by rw [← hpv]; rfl)) ?_
                refine opCv rfl (r_call Tryd.func19 Tryd.nm19 rfl) (histDeltas_spec (hH10.ext hE1011) ((1 : Nat) : Int)) ?_
                rintro v13 w13 ⟨v14, rfl, hO13, hE⟩
                replace hX := hX.trans hE
                rw [hgu] at hO13
                have hO13 : OwnD w11 w13 v14 l := hO13
                obtain ⟨A13, c13, rfl, hc13, hr13⟩ := hO13.rd
                have hE1113 := hE
                refine op rfl (r_moveV (v := .tuple #[.slice A13 l.length c13, .int .i64 (errR H1 ((1 : Nat) : Int))]) rfl) ?_
                refine op rfl (r_extract (vs := [.slice A13 l.length c13, .int .i64 (errR H1 ((1 : Nat) : Int))]) rfl rfl) ?_
                refine op rfl (r_extract (vs := [.slice A13 l.length c13, .int .i64 (errR H1 ((1 : Nat) : Int))]) rfl rfl) ?_
                refine op rfl (r_assignV (v := .slice A13 l.length c13) rfl) ?_
                refine op rfl (r_assignV (v := .int .i64 (errR H1 ((1 : Nat) : Int))) rfl) ?_
                refine WL_nil ?_
                refine W_seq ?_
                refine W_region ?_
                refine op rfl (r_moveV (v := .slice A11 u.length c11) rfl) ?_
                refine op rfl (r_moveV (v := .slice A10 u.length c10) rfl) ?_
                refine opCv rfl (r_call Tryd.func18 Tryd.nm18 rfl) (same_spec (hr11.keep (fun b hb ↦ hE1113.block b hb.2) (fun b hb ↦ Nat.lt_of_lt_of_le hb.2 hE1113.size)) (hr10'.ext (hE1011.trans hE1113)) (by have := hru.1; omega)) ?_
                rintro v15 w15 ⟨rfl, hE⟩
                replace hX := hX.trans hE
                refine op_true rfl (r_moveV (v := .bool (decide _)) rfl) (rfl) ?_
                refine opG_yes rfl rfl rfl rfl rfl (r_moveV (v := .slice A13 l.length c13) rfl) ?_
                refine opG_yes rfl rfl rfl rfl rfl (r_moveV (v := .slice _ _ _) rfl) ?_
                have hE15 := hE
                refine opGCv_yes rfl rfl rfl rfl rfl (r_call Tryd.func21 Tryd.nm21 rfl) (sameD_spec (hr13.keep (fun b hb ↦ hE15.block b hb.2) (fun b hb ↦ Nat.lt_of_lt_of_le hb.2 hE15.size)) (hrowl.ext hX) (by omega)) ?_
                rintro v16 w16 ⟨rfl, hE⟩
                replace hX := hX.trans hE
                refine op rfl (r_pickTV (v := .bool _) rfl rfl) ?_
                refine op_true rfl (r_moveV (v := .bool (decide _)) rfl) (rfl) ?_
                refine opGCv_yes rfl rfl rfl rfl rfl (r_call Tryd.func10 Tryd.nm10 rfl) (known_spec _) ?_
                rintro v17 w17 ⟨rfl, hE⟩
                replace hX := hX.trans hE
                refine op rfl (r_pickTV (v := .bool _) rfl rfl) ?_
                refine op rfl (r_assignV (v := .bool _) rfl) ?_
                refine WL_nil ?_
                refine W_ret (finX_ret ?_)
                refine fin1 ?_
                exact ⟨_, rfl, by first | rfl | exact (bool_tt trivial).symm, hX⟩
theorem historyKeeps_row (W : World) (At : Option Addr) (ct : Nat) (t : List Fi) (hct : t.length ≤ ct) (ht : t.length ≤ big) (hT : fiT.Row W (old W) At t)
  (Al : Option Addr) (cl : Nat) (l : List Dl) (hcl : l.length ≤ cl) (hl : l.length * 48 ≤ 140737488355328) (hL : dlT.Row W (old W) Al l) :
    Calls Tryd.prog 6 #[.slice At t.length ct, .slice Al l.length cl] W (fun e W' => ∃ v, e = .returned v ∧ v = .bool true ∧ Ext W W') :=
  historyKeeps_walk hT hct ht hL hcl hl
end Go.Proofs.YtkdcmdcdjnmkaaaDoor
