/-
  Whether trees are the same: the reference's.
-/
import Derived.Test.YtmedmajdoecjfaaDoorFacts
import Derived.Test.YtmedmajdoecjfaaDoorHistK
namespace Go.Proofs.YtmedmajdoecjfaaDoor
open Go Go.Eng Go.RowKit Go.Proofs
set_option linter.unusedVariables false
set_option linter.unusedSimpArgs false
set_option maxHeartbeats 1000000

deriving instance DecidableEq for Fi
theorem fi_at2 {A : Option Addr} {t : Tree} {w : World} {G : Nat → Prop} (hrow : fiT.Row w G A t) : ∀ i (h : i < t.length), ∃ g off Ai ci, A = some ⟨g, off, none⟩ ∧ Ty.byte.Row w G Ai t[i].b ∧ ∀ j, j < 2 → w.cell? ⟨g, off + i * 2 + j, none⟩ = [Value.string (str t[i].p), .slice Ai t[i].b.length ci][j]? := fun i h => by
  obtain ⟨g, off, xs, hA, _, hx, hc⟩ := hrow.cells h
  obtain ⟨Ai, ci, rfl, _, _, _, hb⟩ := fi_cells hx
  exact ⟨g, off, Ai, ci, hA, hb, hc⟩
theorem same_spec {A1 : Option Addr} {c1 : Nat} {a : Tree} {A2 : Option Addr} {c2 : Nat} {b : Tree} {w : World} (h1 : fiT.Row w (old w) A1 a) (h2 : fiT.Row w (old w) A2 b) (hl : a.length ≤ 140737488355328) :
    Calls Tryd.prog 25 #[.slice A1 a.length c1, .slice A2 b.length c2] w (fun en w' => ∃ v, en = .returned v ∧ v = .bool (decide (a = b)) ∧ Ext w w') := by
  have ha := fi_at2 h1
  have hb := fi_at2 h2
  refine calls' (n := 43) (rs := #[.tmp 4]) (l := [.slice A1 a.length c1, .slice A2 b.length c2]) Tryd.func25 rfl rfl rfl rfl rfl ?_
  have hX := Ext.refl w
  refine W_seq ?_
  refine W_region ?_
  refine op rfl (r_assignV (v := .bool _) rfl) ?_
  refine WL_nil ?_
  refine W_seq ?_
  refine W_seq ?_
  refine W_region ?_
  refine op rfl (r_moveV (v := .slice _ _ _) rfl) ?_
  refine op rfl (r_len_slice rfl Tryd.underlying23) ?_
  refine op rfl (r_moveV (v := .slice _ _ _) rfl) ?_
  refine op rfl (r_len_slice rfl Tryd.underlying23) ?_
  refine op rfl (r_neq rfl rfl) ?_
  refine WL_nil ?_
  refine W_ifp rfl (fun ht10 => ?_) (fun ht10 => ?_)
  · refine W_seq ?_
    refine W_region ?_
    refine op rfl (r_assignV (v := .bool _) rfl) ?_
    refine WL_nil ?_
    refine W_ret (finX_ret ?_)
    refine fin1 ?_
    first
      | exact ⟨_, rfl, bool_ff (fun h => by subst h; omega), hX⟩
      | exact ⟨_, rfl, bool_tt (List.ext_getElem hab (fun j h h' => hall j h h' (by omega))), hX⟩
      | exact ⟨_, rfl, bool_ff (fun h => by subst h; first | exact hg28 rfl | exact ht42 rfl), hX⟩
  · have hab : a.length = b.length := by omega
    refine W_skip ?_
    refine W_seq ?_
    refine W_seq ?_
    refine W_region ?_
    refine op rfl (r_assignV (v := .int _ _) rfl) ?_
    refine WL_nil ?_
    refine W_block ?_
    refine W_loop [4, 5, 11, 12, 13, 14, 15, 16, 17, 18, 19, 20, 21, 22, 23, 24, 25, 26, 27, 28, 29, 30, 31, 32, 33, 34, 35, 36, 37, 38, 39, 40, 41, 42] (fun q e' w' => ∃ (i : Nat), q = a.length - i ∧ i ≤ a.length ∧ e' 5 = .int .i64 i ∧ (∀ j (h : j < a.length) (h' : j < b.length), j < i → a[j] = b[j]) ∧ Ext w w') (a.length) ?_ ?_
    · exact ⟨0, by omega, by omega, rfl, fun j _ _ h => absurd h (Nat.not_lt_zero j), hX⟩
    intro k g w' hI
    obtain ⟨i, hq, hi, h5, hall, hX'⟩ := hI
    clear hX
    have hX := hX'
    refine W_set (i := 5) h5 ?_
    refine W_seq ?_
    refine W_seq ?_
    refine W_region ?_
    refine op rfl (r_moveV (v := .int _ _) rfl) ?_
    refine op rfl (r_moveV (v := .slice _ _ _) rfl) ?_
    refine op rfl (r_len_slice rfl Tryd.underlying23) ?_
    refine op rfl (r_lss rfl rfl) ?_
    refine WL_nil ?_
    refine W_ifp rfl (fun ht14 => ?_) (fun ht14 => ?_)
    · have hlt : i < a.length := by omega
      have hlt2 : i < b.length := by omega
      obtain ⟨g1, o1, Ai, ci, hA1, hr1, hc1⟩ := ha i hlt
      obtain ⟨g2, o2, Bi, di, hA2, hr2, hc2⟩ := hb i hlt2
      refine W_skip ?_
      refine W_seq ?_
      refine W_block ?_
      refine W_seq ?_
      refine W_drawF (W0 := w) (fun b : Nat => False) Tryd.wd rfl ?_
      intro wd6 hD
      replace hX := hX.trans hD
      have hS : Ext w wd6 ∧ Same (fun b : Nat => False) wd6 wd6 := ⟨hX, fun _ _ => rfl⟩
      refine A_take (i := 0) rfl (by kernel_rfl) (by kernel_rfl) (by kernel_rfl) rfl hS (fun _ hw => r_moveV (v := .slice _ _ _) rfl) ?_
      refine A_take (i := 1) rfl (by kernel_rfl) (by kernel_rfl) (by kernel_rfl) rfl hS (fun _ hw => r_moveV (v := .int _ _) rfl) ?_
      refine A_take (i := 2) rfl (by kernel_rfl) (by kernel_rfl) (by kernel_rfl) rfl hS (fun _ hw => r_indexAddrK (by rw [← hA1]; rfl) rfl Tryd.underlying23 Tryd.sz35 hlt) ?_
      refine A_take (i := 3) rfl (by kernel_rfl) (by kernel_rfl) (by kernel_rfl) rfl hS (fun _ hw => r_fieldAddr rfl Tryd.fld35_0 rfl) ?_
      refine A_take (i := 4) rfl (by kernel_rfl) (by kernel_rfl) (by kernel_rfl) rfl hS (fun _ hw => r_load (v := .string (str a[i].p)) rfl Tryd.underlying9 rfl (ext_cell hw.1 (hc1 0 (by omega)))) ?_
      refine A_take (i := 5) rfl (by kernel_rfl) (by kernel_rfl) (by kernel_rfl) rfl hS (fun _ hw => r_moveV (v := .slice _ _ _) rfl) ?_
      refine A_take (i := 6) rfl (by kernel_rfl) (by kernel_rfl) (by kernel_rfl) rfl hS (fun _ hw => r_moveV (v := .int _ _) rfl) ?_
      refine A_take (i := 7) rfl (by kernel_rfl) (by kernel_rfl) (by kernel_rfl) rfl hS (fun _ hw => r_indexAddrK (by rw [← hA2]; rfl) rfl Tryd.underlying23 Tryd.sz35 hlt2) ?_
      refine A_take (i := 8) rfl (by kernel_rfl) (by kernel_rfl) (by kernel_rfl) rfl hS (fun _ hw => r_fieldAddr rfl Tryd.fld35_0 rfl) ?_
      refine A_take (i := 9) rfl (by kernel_rfl) (by kernel_rfl) (by kernel_rfl) rfl hS (fun _ hw => r_load (v := .string (str b[i].p)) rfl Tryd.underlying9 rfl (ext_cell hw.1 (hc2 0 (by omega)))) ?_
      refine A_take (i := 10) rfl (by kernel_rfl) (by kernel_rfl) (by kernel_rfl) rfl hS (fun _ hw => rt_neq rfl rfl) ?_
      refine A_split (i := 11) rfl (by kernel_rfl) (by kernel_rfl) (by kernel_rfl) rfl hS (fun _ _ => r_moveV (v := .bool (decide _)) rfl) (fun hg28 => ?_) (fun hg28 => ?_)
      · refine A_skip (i := 12) rfl (by kernel_rfl) (by kernel_rfl) (by kernel_rfl) rfl hS rfl rfl rfl rfl ?_
        refine A_skip (i := 13) rfl (by kernel_rfl) (by kernel_rfl) (by kernel_rfl) rfl hS rfl rfl rfl rfl ?_
        refine A_skip (i := 14) rfl (by kernel_rfl) (by kernel_rfl) (by kernel_rfl) rfl hS rfl rfl rfl rfl ?_
        refine A_skip (i := 15) rfl (by kernel_rfl) (by kernel_rfl) (by kernel_rfl) rfl hS rfl rfl rfl rfl ?_
        refine A_skip (i := 16) rfl (by kernel_rfl) (by kernel_rfl) (by kernel_rfl) rfl hS rfl rfl rfl rfl ?_
        refine A_skip (i := 17) rfl (by kernel_rfl) (by kernel_rfl) (by kernel_rfl) rfl hS rfl rfl rfl rfl ?_
        refine A_skip (i := 18) rfl (by kernel_rfl) (by kernel_rfl) (by kernel_rfl) rfl hS rfl rfl rfl rfl ?_
        refine A_skip (i := 19) rfl (by kernel_rfl) (by kernel_rfl) (by kernel_rfl) rfl hS rfl rfl rfl rfl ?_
        refine A_skip (i := 20) rfl (by kernel_rfl) (by kernel_rfl) (by kernel_rfl) rfl hS rfl rfl rfl rfl ?_
        refine A_skip (i := 21) rfl (by kernel_rfl) (by kernel_rfl) (by kernel_rfl) rfl hS rfl rfl rfl rfl ?_
        refine A_skip (i := 22) rfl (by kernel_rfl) (by kernel_rfl) (by kernel_rfl) rfl hS rfl rfl rfl rfl ?_
        refine A_skip (i := 23) rfl (by kernel_rfl) (by kernel_rfl) (by kernel_rfl) rfl hS rfl rfl rfl rfl ?_
        refine A_skip (i := 24) rfl (by kernel_rfl) (by kernel_rfl) (by kernel_rfl) rfl hS rfl rfl rfl rfl ?_
        refine A_take (i := 25) rfl (by kernel_rfl) (by kernel_rfl) (by kernel_rfl) rfl hS (fun _ hw => r_pickTV (v := .bool _) rfl rfl) ?_
        refine A_done (by kernel_rfl) ?_
        refine W_then rfl ?_
        refine W_seq ?_
        refine W_region ?_
        refine op rfl (r_assignV (v := .bool _) rfl) ?_
        refine WL_nil ?_
        refine W_ret (blk_ret (blk_ret (finX_ret ?_)))
        refine fin1 ?_
        first
          | exact ⟨_, rfl, bool_ff (fun h => by subst h; omega), hX⟩
          | exact ⟨_, rfl, bool_tt (List.ext_getElem hab (fun j h h' => hall j h h' (by omega))), hX⟩
          | exact ⟨_, rfl, bool_ff (fun h => by subst h; first | exact hg28 rfl | exact ht42 rfl), hX⟩
      · refine A_takeG (i := 12) rfl (by kernel_rfl) (by kernel_rfl) (by kernel_rfl) rfl hS rfl rfl rfl rfl (fun _ hw => r_moveV (v := .slice _ _ _) rfl) ?_
        refine A_takeG (i := 13) rfl (by kernel_rfl) (by kernel_rfl) (by kernel_rfl) rfl hS rfl rfl rfl rfl (fun _ hw => r_moveV (v := .int _ _) rfl) ?_
        refine A_takeG (i := 14) rfl (by kernel_rfl) (by kernel_rfl) (by kernel_rfl) rfl hS rfl rfl rfl rfl (fun _ hw => r_indexAddrK (by rw [← hA1]; rfl) rfl Tryd.underlying23 Tryd.sz35 hlt) ?_
        refine A_takeG (i := 15) rfl (by kernel_rfl) (by kernel_rfl) (by kernel_rfl) rfl hS rfl rfl rfl rfl (fun _ hw => r_fieldAddr rfl Tryd.fld35_1 rfl) ?_
        refine A_takeG (i := 16) rfl (by kernel_rfl) (by kernel_rfl) (by kernel_rfl) rfl hS rfl rfl rfl rfl (fun _ hw => r_load (v := .slice Ai a[i].b.length ci) rfl Tryd.underlying24 rfl (ext_cell hw.1 (hc1 1 (by omega)))) ?_
        refine A_takeG (i := 17) rfl (by kernel_rfl) (by kernel_rfl) (by kernel_rfl) rfl hS rfl rfl rfl rfl (fun _ hw => rt_str rfl Tryd.underlying24 Tryd.underlying5 Tryd.underlying9 (hr1.ext hw.1)) ?_
        refine A_takeG (i := 18) rfl (by kernel_rfl) (by kernel_rfl) (by kernel_rfl) rfl hS rfl rfl rfl rfl (fun _ hw => r_moveV (v := .slice _ _ _) rfl) ?_
        refine A_takeG (i := 19) rfl (by kernel_rfl) (by kernel_rfl) (by kernel_rfl) rfl hS rfl rfl rfl rfl (fun _ hw => r_moveV (v := .int _ _) rfl) ?_
        refine A_takeG (i := 20) rfl (by kernel_rfl) (by kernel_rfl) (by kernel_rfl) rfl hS rfl rfl rfl rfl (fun _ hw => r_indexAddrK (by rw [← hA2]; rfl) rfl Tryd.underlying23 Tryd.sz35 hlt2) ?_
        refine A_takeG (i := 21) rfl (by kernel_rfl) (by kernel_rfl) (by kernel_rfl) rfl hS rfl rfl rfl rfl (fun _ hw => r_fieldAddr rfl Tryd.fld35_1 rfl) ?_
        refine A_takeG (i := 22) rfl (by kernel_rfl) (by kernel_rfl) (by kernel_rfl) rfl hS rfl rfl rfl rfl (fun _ hw => r_load (v := .slice Bi b[i].b.length di) rfl Tryd.underlying24 rfl (ext_cell hw.1 (hc2 1 (by omega)))) ?_
        refine A_takeG (i := 23) rfl (by kernel_rfl) (by kernel_rfl) (by kernel_rfl) rfl hS rfl rfl rfl rfl (fun _ hw => rt_str rfl Tryd.underlying24 Tryd.underlying5 Tryd.underlying9 (hr2.ext hw.1)) ?_
        refine A_takeG (i := 24) rfl (by kernel_rfl) (by kernel_rfl) (by kernel_rfl) rfl hS rfl rfl rfl rfl (fun _ hw => rt_neq rfl rfl) ?_
        refine A_take (i := 25) rfl (by kernel_rfl) (by kernel_rfl) (by kernel_rfl) rfl hS (fun _ hw => r_pickFV (v := .bool _) rfl rfl) ?_
        refine A_done (by kernel_rfl) ?_
        refine W_ifp rfl (fun ht42 => ?_) (fun ht42 => ?_)
        · refine W_seq ?_
          refine W_region ?_
          refine op rfl (r_assignV (v := .bool _) rfl) ?_
          refine WL_nil ?_
          refine W_ret (blk_ret (blk_ret (finX_ret ?_)))
          refine fin1 ?_
          first
            | exact ⟨_, rfl, bool_ff (fun h => by subst h; omega), hX⟩
            | exact ⟨_, rfl, bool_tt (List.ext_getElem hab (fun j h h' => hall j h h' (by omega))), hX⟩
            | exact ⟨_, rfl, bool_ff (fun h => by subst h; first | exact hg28 rfl | exact ht42 rfl), hX⟩
        · refine W_skip ?_
          refine W_region ?_
          refine op rfl (r_moveV (v := .int _ _) rfl) ?_
          refine op rfl (r_add' (r := ((i + 1 : Nat) : Int)) rfl rfl (by rw [wrap_i64 (by omega) (by omega)]; omega)) ?_
          refine op rfl (r_assignV (v := .int _ _) rfl) ?_
          refine WL_nil ?_
          refine ⟨?_, by repeat (first | with_reducible exact Out.refl _ _ | with_reducible exact Out.mix | refine Out.put rfl ?_ | refine Out.mixin rfl ?_ | exact Out.refl _ _ | exact Out.mix)⟩
          refine ⟨a.length - (i + 1), by omega, i + 1, rfl, by omega, rfl, fun j h h' hj => ?_, hX⟩
          by_cases hji : j = i
          · subst hji
            have e1 := Classical.not_not.1 hg28
            have e2 := Classical.not_not.1 ht42
            cases ha0 : a[j] with
            | mk p0 b0 => cases hb0 : b[j] with
              | mk p1 b1 => rw [ha0, hb0] at e1 e2; simp only at e1 e2; rw [e1, e2]
          · exact hall j h h' (by omega)
    · refine W_exit (blk_hit ?_)
      refine W_seq ?_
      refine W_region ?_
      refine op rfl (r_assignV (v := .bool _) rfl) ?_
      refine WL_nil ?_
      refine W_ret (finX_ret ?_)
      refine fin1 ?_
      first
        | exact ⟨_, rfl, bool_ff (fun h => by subst h; omega), hX⟩
        | exact ⟨_, rfl, bool_tt (List.ext_getElem hab (fun j h h' => hall j h h' (by omega))), hX⟩
        | exact ⟨_, rfl, bool_ff (fun h => by subst h; first | exact hg28 rfl | exact ht42 rfl), hX⟩
/-- Each revision is the one ahead, behind its changes. -/
def Chain (t : Tree) (H : List Rv) : Prop := (∀ h : 0 < H.length, H[0] = ⟨[], t⟩) ∧ ∀ r (h : r + 1 < H.length), H[r + 1].d ≠ [] ∧ applyT H[r].t H[r + 1].d = (0, H[r + 1].t)
theorem chain_one (t : Tree) : Chain t [⟨[], t⟩] := ⟨fun _ => rfl, fun r h => absurd h (by simp)⟩
theorem headT_eq {H : List Rv} (h : 0 < H.length) : headT H = (H[H.length - 1]'(by omega)).t := by
  have hin : inR H ((H.length : Int) - 1) := by unfold inR; omega
  have hti : ((H.length : Int) - 1).toNat = H.length - 1 := by omega
  unfold headT getR
  rw [dif_pos hin]
  simp only [hti]
theorem chain_snoc {t : Tree} {H : List Rv} (h : Chain t H) (h1 : 0 < H.length) {ds : List Dl} {u : Tree} (hd : ds ≠ []) (h0 : applyT (headT H) ds = (0, u)) : Chain t (H ++ [⟨ds, u⟩]) := by
  refine ⟨fun _ => by rw [List.getElem_append_left h1]; exact h.1 h1, fun r hr => ?_⟩
  by_cases hrl : r + 1 < H.length
  · have e1 : (H ++ [(⟨ds, u⟩ : Rv)])[r + 1] = H[r + 1] := List.getElem_append_left hrl
    have e2 : (H ++ [(⟨ds, u⟩ : Rv)])[r]'(by omega) = H[r] := List.getElem_append_left (by omega)
    rw [e1, e2]
    exact h.2 r hrl
  · have hre : r + 1 = H.length := by simp at hr; omega
    have e1 : (H ++ [(⟨ds, u⟩ : Rv)])[r + 1] = ⟨ds, u⟩ := by
      rw [List.getElem_append_right (by omega)]; simp
    have e2 : (H ++ [(⟨ds, u⟩ : Rv)])[r]'(by omega) = H[H.length - 1]'(by omega) := by
      rw [List.getElem_append_left (by omega)]; congr 1; omega
    rw [e1, e2, ← headT_eq h1]
    exact ⟨hd, h0⟩
theorem chain_commit {t : Tree} {H : List Rv} (h : Chain t H) (h1 : 0 < H.length) (ds : List Dl) : Chain t (commitR H ds).1 := by
  unfold commitR
  split
  · exact h
  · rename_i hd
    split
    · exact h
    · split
      · exact h
      · rename_i h0
        exact chain_snoc h h1 hd (Prod.ext (Classical.not_not.1 h0) rfl)
/-- The changes again. -/
theorem chain_again {t : Tree} {H : List Rv} (h : Chain t H) {r : Nat} (h1 : 1 ≤ r) (hr : r < H.length) (hs : H.length ≤ 100001) : commitR (H.take r) H[r].d = (H.take (r + 1), (r : Int), 0) := by
  obtain ⟨q, rfl⟩ : ∃ q, r = q + 1 := ⟨r - 1, by omega⟩
  obtain ⟨h2, h3⟩ := h.2 q hr
  have hl : (H.take (q + 1)).length = q + 1 := by rw [List.length_take]; omega
  have hh : headT (H.take (q + 1)) = H[q].t := by
    rw [headT_eq (by omega), List.getElem_take]
    congr 2
    omega
  rw [c_ok (fun k => h2 (List.length_eq_zero_iff.1 k)) (by omega) (by rw [hh, h3]), hh, h3, hl, List.take_succ_eq_append_getElem hr]
theorem Hist.lt {p : Nat} {Z : Nat → Prop} {w : World} {H : List Rv} (h : Hist p Z w H) : Hist p (fun b => Z b ∧ b < w.heap.size) w H := by
  obtain ⟨m, v, F, h1, h2⟩ := h
  exact ⟨m, v, F, h1, fun b hb => ⟨h2 b hb, h1.lt b hb⟩⟩
theorem Hist.mv {p : Nat} {Z Y : Nat → Prop} {w w' : World} {H : List Rv} (h : Hist p Z w H) (hM : Mv Y w w') (hd : ∀ b, Z b → ¬ Y b) : Hist p Z w' H := by
  obtain ⟨m, v, F, h1, h2⟩ := h
  exact ⟨m, v, F, h1.keep (fun b hb => hM.block b (h1.lt b hb) (hd b (h2 b hb))), h2⟩
end Go.Proofs.YtmedmajdoecjfaaDoor
