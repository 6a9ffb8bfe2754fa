/-
  The walks of the references: which trees may be; what is behind changes.
-/
import Derived.Test.YtmedmajdoecjfaaDoorFacts
import Derived.Test.YtmedmajdoecjfaaDoorRefX
namespace Go.Proofs.YtmedmajdoecjfaaDoor
open Go Go.Eng Go.RowKit Go.Proofs
set_option linter.unusedVariables false
set_option linter.unusedSimpArgs false
set_option maxHeartbeats 1000000

theorem fi_at4 {A : Option Addr} {t : Tree} {w : World} {G : Nat → Prop} (hrow : fiT.Row w G A t) : ∀ i (h : i < t.length), ∃ g off Ai ci, A = some ⟨g, off, none⟩ ∧ t[i].p.length ≤ 140737488355328 ∧ t[i].b.length ≤ 140737488355328 ∧ ∀ j, j < 2 → w.cell? ⟨g, off + i * 2 + j, none⟩ = [Value.string (str t[i].p), .slice Ai t[i].b.length ci][j]? := fun i h => by
  obtain ⟨g, off, xs, hA, _, hx, hc⟩ := hrow.cells h; obtain ⟨Ai, ci, rfl, _, h2, h3, -⟩ := fi_cells hx; exact ⟨g, off, Ai, ci, hA, h3, h2, hc⟩
def pairAt (t : Tree) (i : Nat) (h : i < t.length) : Prop := rightP t[i].p ∧ t[i].b.length ≤ 65536 ∧ ∀ k (hk : k < i), bLt (t[k]'(by omega)).p t[i].p ∧ ¬ ((t[k]'(by omega)).p = [] ∨ underP t[i].p (t[k]'(by omega)).p)
theorem refTreeRight_spec {A : Option Addr} {cap : Nat} {t : Tree} {w : World} {G : Nat → Prop} (hrow : fiT.Row w G A t) (hl : t.length * 40 ≤ 140737488355328) (hps : ∀ x ∈ t, x.p.length ≤ 1099511627776) :
    Calls Tryd.prog 11 #[.slice A t.length cap] w (fun en w' => ∃ v, en = .returned v ∧ v = .bool (decide (rightT t)) ∧ Ext w w') := by
  have hat := fi_at4 hrow; refine calls' (n := 59) (rs := #[.tmp 2]) (l := [.slice A t.length cap]) Tryd.func11 rfl rfl rfl rfl rfl ?_; have hX := Ext.refl w; refine W_seq ?_; refine W_region ?_; refine op rfl (r_assignV (v := .bool _) rfl) ?_; refine WL_nil ?_; refine W_seq ?_; refine W_seq ?_; refine W_region ?_; refine op rfl (r_assignV (v := .int _ _) rfl) ?_; refine WL_nil ?_; refine W_block ?_; refine W_loop [2, 3, 4, 5, 6, 7, 8, 9, 10, 11, 12, 13, 14, 15, 16, 17, 18, 19, 20, 21, 22, 23, 24, 25, 26, 27, 28, 29, 30, 31, 32, 33, 34, 35, 36, 37, 38, 39, 40, 41, 42, 43, 44, 45, 46, 47, 48, 49, 50, 51, 52, 53, 54, 55] (fun q e' w' => ∃ (i : Nat), q = t.length - i ∧ i ≤ t.length ∧ e' 3 = .int .i64 i ∧ (∀ j (h : j < t.length), j < i → pairAt t j h) ∧ Ext w w') (t.length) ?_ ?_
  · exact ⟨0, by omega, by omega, rfl, fun j _ h => absurd h (Nat.not_lt_zero j), hX⟩
  intro k g w' hI; obtain ⟨i, hq, hi, h3, hall, hX'⟩ := hI; clear hX; have hX := hX'; refine W_set (i := 3) h3 ?_; refine W_seq ?_; refine W_seq ?_; refine W_region ?_; refine op rfl (r_moveV (v := .int _ _) rfl) ?_; refine op rfl (r_moveV (v := .slice _ _ _) rfl) ?_; refine op rfl (r_len_slice rfl Tryd.underlying23) ?_; refine op rfl (r_lss rfl rfl) ?_; refine WL_nil ?_; refine W_ifp rfl (fun ht8 => ?_) (fun ht8 => ?_)
  · have hlt : i < t.length := by omega
    obtain ⟨g1, o1, Ai, ci, hA1, hpl, hbl, hc1⟩ := hat i hlt; refine W_skip ?_; refine W_seq ?_; refine W_block ?_; refine W_seq ?_; refine W_seq ?_; refine W_region ?_; refine op rfl (r_moveV (v := .slice _ _ _) rfl) ?_; refine op rfl (r_moveV (v := .int _ _) rfl) ?_; refine op rfl (r_indexAddrK (by rw [← hA1]; rfl) rfl Tryd.underlying23 Tryd.sz35 hlt) ?_; refine op rfl (r_fieldAddr rfl Tryd.fld35_0 rfl) ?_; refine op rfl (r_load (v := .string (str t[i].p)) rfl Tryd.underlying9 rfl (ext_cell hX (hc1 0 (by omega)))) ?_; refine opCv rfl (r_call Tryd.func41 Tryd.nm41 rfl) (refPathRight_spec t[i].p _ (hps _ (List.getElem_mem hlt))) ?_; rintro v5 w5 ⟨rfl, hE⟩; replace hX := hX.trans hE; refine op rfl (r_notP rfl) ?_; refine op_split rfl (r_moveV (v := .bool (decide _)) rfl) (fun hg18 => ?_) (fun hg18 => ?_)
    · refine opG_no rfl rfl rfl rfl rfl ?_; refine opG_no rfl rfl rfl rfl rfl ?_; refine opG_no rfl rfl rfl rfl rfl ?_; refine opG_no rfl rfl rfl rfl rfl ?_; refine opG_no rfl rfl rfl rfl rfl ?_; refine opG_no rfl rfl rfl rfl rfl ?_; refine opG_no rfl rfl rfl rfl rfl ?_; refine op rfl (r_pickTV (v := .bool _) rfl rfl) ?_; refine WL_nil ?_; refine W_then rfl ?_; refine W_seq ?_; refine W_region ?_; refine op rfl (r_assignV (v := .bool _) rfl) ?_; refine WL_nil ?_; refine W_ret (blk_ret (blk_ret (finX_ret ?_))); refine fin1 ?_
      have hpair : ∀ (h : rightT t) (j : Nat) (hj : j < t.length), pairAt t j hj := fun h j hj => (right_pairs.1 h).1 j hj
      first
        | (have hit : i = t.length := by omega
           exact ⟨_, rfl, bool_iff ⟨fun h => right_pairs.2 ⟨fun j hj => hall j hj (by omega), by omega⟩, fun h => by have := h.1; omega⟩, hX⟩)
        | exact ⟨_, rfl, bool_ff (fun h => hg18 (hpair h i hlt).1), hX⟩
        | exact ⟨_, rfl, bool_ff (fun h => by have := (hpair h i hlt).2.1; omega), hX⟩
        | exact ⟨_, rfl, bool_ff (fun h => hg43 ((hpair h i hlt).2.2 k hlk).1), hX⟩
        | exact ⟨_, rfl, bool_ff (fun h => ((hpair h i hlt).2.2 k hlk).2 (hq7.1 ht55)), hX⟩
    · refine opG_yes rfl rfl rfl rfl rfl (r_moveV (v := .slice _ _ _) rfl) ?_; refine opG_yes rfl rfl rfl rfl rfl (r_moveV (v := .int _ _) rfl) ?_; refine opG_yes rfl rfl rfl rfl rfl (r_indexAddrK (by rw [← hA1]; rfl) rfl Tryd.underlying23 Tryd.sz35 hlt) ?_; refine opG_yes rfl rfl rfl rfl rfl (r_fieldAddr rfl Tryd.fld35_1 rfl) ?_; refine opG_yes rfl rfl rfl rfl rfl (r_load (v := .slice Ai t[i].b.length ci) rfl Tryd.underlying24 rfl (ext_cell hX (hc1 1 (by omega)))) ?_; refine opG_yes rfl rfl rfl rfl rfl (r_len_slice rfl Tryd.underlying24) ?_; refine opG_yes rfl rfl rfl rfl rfl (r_gtr rfl rfl) ?_; refine op rfl (r_pickFV (v := .bool _) rfl rfl) ?_; refine WL_nil ?_; refine W_ifp rfl (fun ht26 => ?_) (fun ht26 => ?_)
      · refine W_seq ?_; refine W_region ?_; refine op rfl (r_assignV (v := .bool _) rfl) ?_; refine WL_nil ?_; refine W_ret (blk_ret (blk_ret (finX_ret ?_))); refine fin1 ?_
        have hpair : ∀ (h : rightT t) (j : Nat) (hj : j < t.length), pairAt t j hj := fun h j hj => (right_pairs.1 h).1 j hj
        first
          | (have hit : i = t.length := by omega
             exact ⟨_, rfl, bool_iff ⟨fun h => right_pairs.2 ⟨fun j hj => hall j hj (by omega), by omega⟩, fun h => by have := h.1; omega⟩, hX⟩)
          | exact ⟨_, rfl, bool_ff (fun h => hg18 (hpair h i hlt).1), hX⟩
          | exact ⟨_, rfl, bool_ff (fun h => by have := (hpair h i hlt).2.1; omega), hX⟩
          | exact ⟨_, rfl, bool_ff (fun h => hg43 ((hpair h i hlt).2.2 k hlk).1), hX⟩
          | exact ⟨_, rfl, bool_ff (fun h => ((hpair h i hlt).2.2 k hlk).2 (hq7.1 ht55)), hX⟩
      · refine W_skip ?_; refine W_seq ?_; refine W_region ?_; refine op rfl (r_assignV (v := .int _ _) rfl) ?_; refine WL_nil ?_; refine W_block ?_; refine W_loop [2, 4, 27, 28, 29, 30, 31, 32, 33, 34, 35, 36, 37, 38, 39, 40, 41, 42, 43, 44, 45, 46, 47, 48, 49, 50, 51, 52, 53, 54, 55] (fun q e' w' => ∃ (k : Nat), q = i - k ∧ k ≤ i ∧ e' 4 = .int .i64 k ∧ (∀ m (hm : m < i), m < k → bLt (t[m]'(by omega)).p t[i].p ∧ ¬ ((t[m]'(by omega)).p = [] ∨ underP t[i].p (t[m]'(by omega)).p)) ∧ Ext w w') (i) ?_ ?_
        · exact ⟨0, by omega, by omega, rfl, fun m _ h => absurd h (Nat.not_lt_zero m), hX⟩
        intro k g w' hI; obtain ⟨k, hqk, hki, h4, hin, hX''⟩ := hI; clear hX; have hX := hX''; refine W_set (i := 4) h4 ?_; refine W_seq ?_; refine W_seq ?_; refine W_region ?_; refine op rfl (r_moveV (v := .int _ _) rfl) ?_; refine op rfl (r_moveV (v := .int _ _) rfl) ?_; refine op rfl (r_lss rfl rfl) ?_; refine WL_nil ?_; refine W_ifp rfl (fun ht29 => ?_) (fun ht29 => ?_)
        · have hlk : k < i := by omega
          have hlk2 : k < t.length := by omega
          obtain ⟨g2, o2, Bi, di, hA2, hpl2, hbl2, hc2⟩ := hat k hlk2; refine W_skip ?_; refine W_seq ?_; refine W_block ?_; refine W_seq ?_; refine W_drawF (W0 := w) (fun b : Nat => False) Tryd.wd rfl ?_; intro wd9 hD; replace hX := hX.trans hD; have hS : Ext w wd9 ∧ Same (fun b : Nat => False) wd9 wd9 := ⟨hX, fun _ _ => rfl⟩; refine A_take (i := 0) rfl (by kernel_rfl) (by kernel_rfl) (by kernel_rfl) rfl hS (fun _ hw => r_moveV (v := .slice _ _ _) rfl) ?_; refine A_take (i := 1) rfl (by kernel_rfl) (by kernel_rfl) (by kernel_rfl) rfl hS (fun _ hw => r_moveV (v := .int _ _) rfl) ?_; refine A_take (i := 2) rfl (by kernel_rfl) (by kernel_rfl) (by kernel_rfl) rfl hS (fun _ hw => r_indexAddrK (by rw [← hA2]; rfl) rfl Tryd.underlying23 Tryd.sz35 hlk2) ?_; refine A_take (i := 3) rfl (by kernel_rfl) (by kernel_rfl) (by kernel_rfl) rfl hS (fun _ hw => r_fieldAddr rfl Tryd.fld35_0 rfl) ?_; refine A_take (i := 4) rfl (by kernel_rfl) (by kernel_rfl) (by kernel_rfl) rfl hS (fun _ hw => r_load (v := .string (str t[k].p)) rfl Tryd.underlying9 rfl (ext_cell hw.1 (hc2 0 (by omega)))) ?_; refine A_take (i := 5) rfl (by kernel_rfl) (by kernel_rfl) (by kernel_rfl) rfl hS (fun _ hw => r_moveV (v := .slice _ _ _) rfl) ?_; refine A_take (i := 6) rfl (by kernel_rfl) (by kernel_rfl) (by kernel_rfl) rfl hS (fun _ hw => r_moveV (v := .int _ _) rfl) ?_; refine A_take (i := 7) rfl (by kernel_rfl) (by kernel_rfl) (by kernel_rfl) rfl hS (fun _ hw => r_indexAddrK (by rw [← hA1]; rfl) rfl Tryd.underlying23 Tryd.sz35 hlt) ?_; refine A_take (i := 8) rfl (by kernel_rfl) (by kernel_rfl) (by kernel_rfl) rfl hS (fun _ hw => r_fieldAddr rfl Tryd.fld35_0 rfl) ?_; refine A_take (i := 9) rfl (by kernel_rfl) (by kernel_rfl) (by kernel_rfl) rfl hS (fun _ hw => r_load (v := .string (str t[i].p)) rfl Tryd.underlying9 rfl (ext_cell hw.1 (hc1 0 (by omega)))) ?_; refine A_take (i := 10) rfl (by kernel_rfl) (by kernel_rfl) (by kernel_rfl) rfl hS (fun _ hw => rt_geq rfl rfl) ?_; refine A_split (i := 11) rfl (by kernel_rfl) (by kernel_rfl) (by kernel_rfl) rfl hS (fun _ _ => r_moveV (v := .bool (decide _)) rfl) (fun hg43 => ?_) (fun hg43 => ?_)
          · refine A_skip (i := 12) rfl (by kernel_rfl) (by kernel_rfl) (by kernel_rfl) rfl hS rfl rfl rfl rfl ?_; refine A_skip (i := 13) rfl (by kernel_rfl) (by kernel_rfl) (by kernel_rfl) rfl hS rfl rfl rfl rfl ?_; refine A_skip (i := 14) rfl (by kernel_rfl) (by kernel_rfl) (by kernel_rfl) rfl hS rfl rfl rfl rfl ?_; refine A_skip (i := 15) rfl (by kernel_rfl) (by kernel_rfl) (by kernel_rfl) rfl hS rfl rfl rfl rfl ?_; refine A_skip (i := 16) rfl (by kernel_rfl) (by kernel_rfl) (by kernel_rfl) rfl hS rfl rfl rfl rfl ?_; refine A_skip (i := 17) rfl (by kernel_rfl) (by kernel_rfl) (by kernel_rfl) rfl hS rfl rfl rfl rfl ?_; refine A_skip (i := 18) rfl (by kernel_rfl) (by kernel_rfl) (by kernel_rfl) rfl hS rfl rfl rfl rfl ?_; refine A_skip (i := 19) rfl (by kernel_rfl) (by kernel_rfl) (by kernel_rfl) rfl hS rfl rfl rfl rfl ?_; refine A_skip (i := 20) rfl (by kernel_rfl) (by kernel_rfl) (by kernel_rfl) rfl hS rfl rfl rfl rfl ?_; refine A_skip (i := 21) rfl (by kernel_rfl) (by kernel_rfl) (by kernel_rfl) rfl hS rfl rfl rfl rfl ?_; refine A_skip (i := 22) rfl (by kernel_rfl) (by kernel_rfl) (by kernel_rfl) rfl hS rfl rfl rfl rfl ?_; refine A_take (i := 23) rfl (by kernel_rfl) (by kernel_rfl) (by kernel_rfl) rfl hS (fun _ hw => r_pickTV (v := .bool _) rfl rfl) ?_; refine A_done (by kernel_rfl) ?_; refine W_then rfl ?_; refine W_seq ?_; refine W_region ?_; refine op rfl (r_assignV (v := .bool _) rfl) ?_; refine WL_nil ?_; refine W_ret (blk_ret (blk_ret (blk_ret (blk_ret (finX_ret ?_))))); refine fin1 ?_
            have hpair : ∀ (h : rightT t) (j : Nat) (hj : j < t.length), pairAt t j hj := fun h j hj => (right_pairs.1 h).1 j hj
            first
              | (have hit : i = t.length := by omega
                 exact ⟨_, rfl, bool_iff ⟨fun h => right_pairs.2 ⟨fun j hj => hall j hj (by omega), by omega⟩, fun h => by have := h.1; omega⟩, hX⟩)
              | exact ⟨_, rfl, bool_ff (fun h => hg18 (hpair h i hlt).1), hX⟩
              | exact ⟨_, rfl, bool_ff (fun h => by have := (hpair h i hlt).2.1; omega), hX⟩
              | exact ⟨_, rfl, bool_ff (fun h => hg43 ((hpair h i hlt).2.2 k hlk).1), hX⟩
              | exact ⟨_, rfl, bool_ff (fun h => ((hpair h i hlt).2.2 k hlk).2 (hq7.1 ht55)), hX⟩
          · refine A_takeG (i := 12) rfl (by kernel_rfl) (by kernel_rfl) (by kernel_rfl) rfl hS rfl rfl rfl rfl (fun _ hw => r_moveV (v := .slice _ _ _) rfl) ?_; refine A_takeG (i := 13) rfl (by kernel_rfl) (by kernel_rfl) (by kernel_rfl) rfl hS rfl rfl rfl rfl (fun _ hw => r_moveV (v := .int _ _) rfl) ?_; refine A_takeG (i := 14) rfl (by kernel_rfl) (by kernel_rfl) (by kernel_rfl) rfl hS rfl rfl rfl rfl (fun _ hw => r_indexAddrK (by rw [← hA1]; rfl) rfl Tryd.underlying23 Tryd.sz35 hlt) ?_; refine A_takeG (i := 15) rfl (by kernel_rfl) (by kernel_rfl) (by kernel_rfl) rfl hS rfl rfl rfl rfl (fun _ hw => r_fieldAddr rfl Tryd.fld35_0 rfl) ?_; refine A_takeG (i := 16) rfl (by kernel_rfl) (by kernel_rfl) (by kernel_rfl) rfl hS rfl rfl rfl rfl (fun _ hw => r_load (v := .string (str t[i].p)) rfl Tryd.underlying9 rfl (ext_cell hw.1 (hc1 0 (by omega)))) ?_; refine A_takeG (i := 17) rfl (by kernel_rfl) (by kernel_rfl) (by kernel_rfl) rfl hS rfl rfl rfl rfl (fun _ hw => r_moveV (v := .slice _ _ _) rfl) ?_; refine A_takeG (i := 18) rfl (by kernel_rfl) (by kernel_rfl) (by kernel_rfl) rfl hS rfl rfl rfl rfl (fun _ hw => r_moveV (v := .int _ _) rfl) ?_; refine A_takeG (i := 19) rfl (by kernel_rfl) (by kernel_rfl) (by kernel_rfl) rfl hS rfl rfl rfl rfl (fun _ hw => r_indexAddrK (by rw [← hA2]; rfl) rfl Tryd.underlying23 Tryd.sz35 hlk2) ?_; refine A_takeG (i := 20) rfl (by kernel_rfl) (by kernel_rfl) (by kernel_rfl) rfl hS rfl rfl rfl rfl (fun _ hw => r_fieldAddr rfl Tryd.fld35_0 rfl) ?_; refine A_takeG (i := 21) rfl (by kernel_rfl) (by kernel_rfl) (by kernel_rfl) rfl hS rfl rfl rfl rfl (fun _ hw => r_load (v := .string (str t[k].p)) rfl Tryd.underlying9 rfl (ext_cell hw.1 (hc2 0 (by omega)))) ?_; refine A_ready1 (i := 22) (by kernel_rfl) ?_; refine O_callG rfl rfl rfl rfl rfl rfl (r_call Tryd.func42 Tryd.nm42 rfl) (refUnder_spec t[i].p t[k].p _ (by omega)) ?_; rintro v7 w7 ⟨q7, dq7, rfl, hq7, hE⟩; replace hX := hX.trans hE; replace hS : Ext w w7 ∧ Same (fun b : Nat => False) wd9 w7 := ⟨hX, fun b hb => hb.elim⟩; refine ⟨hS, ?_⟩; refine A_take (i := 23) rfl (by kernel_rfl) (by kernel_rfl) (by kernel_rfl) rfl hS (fun _ hw => r_pickFV (v := .bool _) rfl rfl) ?_; refine A_done (by kernel_rfl) ?_; refine W_ifp rfl (fun ht55 => ?_) (fun ht55 => ?_)
            · refine W_seq ?_; refine W_region ?_; refine op rfl (r_assignV (v := .bool _) rfl) ?_; refine WL_nil ?_; refine W_ret (blk_ret (blk_ret (blk_ret (blk_ret (finX_ret ?_))))); refine fin1 ?_
              have hpair : ∀ (h : rightT t) (j : Nat) (hj : j < t.length), pairAt t j hj := fun h j hj => (right_pairs.1 h).1 j hj
              first
                | (have hit : i = t.length := by omega
                   exact ⟨_, rfl, bool_iff ⟨fun h => right_pairs.2 ⟨fun j hj => hall j hj (by omega), by omega⟩, fun h => by have := h.1; omega⟩, hX⟩)
                | exact ⟨_, rfl, bool_ff (fun h => hg18 (hpair h i hlt).1), hX⟩
                | exact ⟨_, rfl, bool_ff (fun h => by have := (hpair h i hlt).2.1; omega), hX⟩
                | exact ⟨_, rfl, bool_ff (fun h => hg43 ((hpair h i hlt).2.2 k hlk).1), hX⟩
                | exact ⟨_, rfl, bool_ff (fun h => ((hpair h i hlt).2.2 k hlk).2 (hq7.1 ht55)), hX⟩
            · refine W_skip ?_; refine W_region ?_; refine op rfl (r_moveV (v := .int _ _) rfl) ?_; refine op rfl (r_add' (r := ((k + 1 : Nat) : Int)) rfl rfl (by rw [wrap_i64 (by omega) (by omega)]; omega)) ?_; refine op rfl (r_assignV (v := .int _ _) rfl) ?_; refine WL_nil ?_; refine ⟨?_, by repeat (first | with_reducible exact Out.refl _ _ | with_reducible exact Out.mix | refine Out.put rfl ?_ | refine Out.mixin rfl ?_ | exact Out.refl _ _ | exact Out.mix)⟩; refine ⟨i - (k + 1), by omega, k + 1, rfl, by omega, rfl, fun m hm hmk => ?_, hX⟩
              by_cases hme : m = k
              · subst hme; exact ⟨Classical.not_not.1 hg43, fun q => ht55 (hq7.2 q)⟩
              · exact hin m hm (by omega)
        · refine W_exit (blk_hit ?_); refine W_region ?_; refine op rfl (r_moveV (v := .int _ _) rfl) ?_; refine op rfl (r_add' (r := ((i + 1 : Nat) : Int)) rfl rfl (by rw [wrap_i64 (by omega) (by omega)]; omega)) ?_; refine op rfl (r_assignV (v := .int _ _) rfl) ?_; refine WL_nil ?_; refine ⟨?_, by repeat (first | with_reducible exact Out.refl _ _ | with_reducible exact Out.mix | refine Out.put rfl ?_ | refine Out.mixin rfl ?_ | exact Out.refl _ _ | exact Out.mix)⟩; refine ⟨t.length - (i + 1), by omega, i + 1, rfl, by omega, rfl, fun j h hj => ?_, hX⟩
          by_cases hji : j = i
          · subst hji; exact ⟨Classical.not_not.1 hg18, by omega, fun m hm => hin m hm (by omega)⟩
          · exact hall j h (by omega)
  · refine W_exit (blk_hit ?_); refine W_seq ?_; refine W_region ?_; refine op rfl (r_moveV (v := .slice _ _ _) rfl) ?_; refine op rfl (r_len_slice rfl Tryd.underlying23) ?_; refine op rfl (r_leq rfl rfl) ?_; refine op rfl (r_assignV (v := .bool _) rfl) ?_; refine WL_nil ?_; refine W_ret (finX_ret ?_); refine fin1 ?_
    have hpair : ∀ (h : rightT t) (j : Nat) (hj : j < t.length), pairAt t j hj := fun h j hj => (right_pairs.1 h).1 j hj
    first
      | (have hit : i = t.length := by omega
         exact ⟨_, rfl, bool_iff ⟨fun h => right_pairs.2 ⟨fun j hj => hall j hj (by omega), by omega⟩, fun h => by have := h.1; omega⟩, hX⟩)
      | exact ⟨_, rfl, bool_ff (fun h => hg18 (hpair h i hlt).1), hX⟩
      | exact ⟨_, rfl, bool_ff (fun h => by have := (hpair h i hlt).2.1; omega), hX⟩
      | exact ⟨_, rfl, bool_ff (fun h => hg43 ((hpair h i hlt).2.2 k hlk).1), hX⟩
      | exact ⟨_, rfl, bool_ff (fun h => ((hpair h i hlt).2.2 k hlk).2 (hq7.1 ht55)), hX⟩
abbrev RowS (G : Nat → Prop) (w w' : World) (v : Value) (t : Tree) : Prop := ∃ A cap, v = .slice A t.length cap ∧ t.length ≤ cap ∧ fiT.Row w' (fun b => G b ∨ since w w' b) A t
theorem step_path {t : Tree} {d : Dl} {P : List UInt8 → Prop} (h : ∀ x ∈ t, P x.p) (hd : P d.p) : ∀ x ∈ (stepT t d).2, P x.p := by
  have h1 : ∀ x ∈ dropT t d.p, P x.p := fun x hx => h x (List.mem_filter.1 hx).1
  unfold stepT
  repeat' split
  all_goals try (intro x hx; cases hx; done)
  · exact h1
  · intro x hx
    unfold putT at hx
    rcases List.mem_append.1 hx with q | q
    · exact h1 x (List.mem_of_mem_take q)
    · rcases List.mem_cons.1 q with rfl | q
      · exact hd
      · exact h1 x (List.mem_of_mem_drop q)
theorem refApply_spec {A : Option Addr} {cap : Nat} {l : Tree} {Ad : Option Addr} {cd : Nat} {ds : List Dl} {w : World} {G : Nat → Prop} (hG : ∀ b, G b → b < w.heap.size) (hrow : fiT.Row w G A l) (hdrow : dlT.Row w G Ad ds) (hl : (l.length + ds.length + 1) * 40 ≤ 140737488355328) (hcap : l.length ≤ cap)
    (hp1 : ∀ x ∈ l, x.p.length ≤ 1099511627776) (hp2 : ∀ d ∈ ds, d.p.length ≤ 1099511627776) :
    Calls Tryd.prog 24 #[.slice A l.length cap, .slice Ad ds.length cd] w (fun en w' => ∃ v, en = .returned v ∧ ∃ v1, v = .tuple #[v1, .int .i64 (applyT l ds).1] ∧ RowS G w w' v1 (applyT l ds).2 ∧ Ext w w') := by
  have hdat : ∀ i (h : i < ds.length), ∃ g off Ai ci, Ad = some ⟨g, off, none⟩ ∧ fiT.R w G ⟨ds[i].p, ds[i].b⟩ [.string (str ds[i].p), .slice Ai ds[i].b.length ci] ∧ ∀ j, j < 3 → w.cell? ⟨g, off + i * 3 + j, none⟩ = [Value.int .i64 ds[i].k, .string (str ds[i].p), .slice Ai ds[i].b.length ci][j]? := fun i h => by
    obtain ⟨g, off, xs, hA, _, hx, hc⟩ := hdrow.cells h; obtain ⟨Ai, ci, rfl, _, h1, h2, h3, h4⟩ := dl_cells hx; exact ⟨g, off, Ai, ci, hA, fi_mk (x := ⟨ds[i].p, ds[i].b⟩) h1 h2 h3 h4, hc⟩
  have hnil : ∀ W, RowS G w W (.slice none 0 0) [] := fun W => ⟨none, 0, rfl, Nat.le_refl _, Or.inl rfl⟩
  have hGs : ∀ W, Ext w W → ∀ b, (G b ∨ since w W b) → b < W.heap.size := fun W he b hb => hb.elim (fun q => Nat.lt_of_lt_of_le (hG b q) he.size) (fun q => q.2)
  have hRk : ∀ W W' (A1 : Option Addr) (t : Tree), Ext w W → Ext W W' → fiT.Row W (fun b => G b ∨ since w W b) A1 t → fiT.Row W' (fun b => G b ∨ since w W' b) A1 t := fun W W' A1 t h1 h2 h3 => h3.keep (fun b hb => h2.block b (hGs W h1 b hb)) (fun b hb => hb.imp_right (fun q => ⟨q.1, Nat.lt_of_lt_of_le q.2 h2.size⟩))
  refine calls' (n := 90) (rs := #[.tmp 4, .tmp 5]) (l := [.slice A l.length cap, .slice Ad ds.length cd]) Tryd.func24 rfl rfl rfl rfl rfl ?_; have hX := Ext.refl w; refine W_seq ?_; refine W_region ?_; refine op rfl (r_assignV (v := .slice _ _ _) rfl) ?_; refine op rfl (r_assignV (v := .int _ _) rfl) ?_; refine WL_nil ?_; refine W_seq ?_; refine W_region ?_; refine op rfl (r_moveV (v := .slice _ _ _) rfl) ?_; refine op rfl (r_assignV (v := .slice _ _ _) rfl) ?_; refine WL_nil ?_; refine W_seq ?_; refine W_seq ?_; refine W_region ?_; refine op rfl (r_assignV (v := .int _ _) rfl) ?_; refine WL_nil ?_; refine W_block ?_; refine W_loop (4 :: 5 :: 6 :: 7 :: 8 :: 9 :: 12 :: 13 :: 14 :: 15 :: 16 :: 17 :: 18 :: 19 :: 20 :: 21 :: 22 :: 23 :: 24 :: 25 :: 26 :: 27 :: 28 :: 29 :: 30 :: 31 :: 32 :: 33 :: 34 :: 35 :: 36 :: 37 :: 38 :: 39 :: 40 :: 41 :: 42 :: 43 :: 44 :: 45 :: 46 :: 47 :: 48 :: 49 :: 50 :: 51 :: 52 :: 53 :: 54 :: 55 :: 56 :: 57 :: 58 :: 59 :: 60 :: 61 :: 62 :: 63 :: 64 :: 65 :: 66 :: 67 :: []) (fun q e' w' => ∃ (i : Nat) (t : Tree) (A1 : Option Addr) (cap1 : Nat), q = ds.length - i ∧ i ≤ ds.length ∧ e' 7 = .int .i64 i ∧ e' 6 = .slice A1 t.length cap1 ∧ t.length ≤ cap1 ∧ fiT.Row w' (fun b => G b ∨ since w w' b) A1 t ∧ runT l ds = runT t (ds.drop i) ∧ t.length ≤ l.length + i ∧ (∀ x ∈ t, x.p.length ≤ 1099511627776) ∧ Ext w w') (ds.length) ?_ ?_
  · exact ⟨0, l, A, cap, by omega, by omega, rfl, rfl, hcap, hrow.keep (fun b hb => hX.block b (hG b hb)) (fun b hb => Or.inl hb), rfl, by omega, hp1, hX⟩
  intro k g w' hI; obtain ⟨i, t, A1, cap1, hq, hi, h7, h6, hcp, hR, hrun, htl, hpt, hX'⟩ := hI; clear hX; have hX := Ext.refl w'; obtain ⟨w0i, hw0i⟩ : ∃ x, x = w' := ⟨_, rfl⟩; subst hw0i; refine W_set (i := 7) h7 ?_; refine W_set (i := 6) h6 ?_; refine W_seq ?_; refine W_seq ?_; refine W_region ?_; refine op rfl (r_moveV (v := .int _ _) rfl) ?_; refine op rfl (r_moveV (v := .slice _ _ _) rfl) ?_; refine op rfl (r_len_slice rfl Tryd.underlying39) ?_; refine op rfl (r_lss rfl rfl) ?_; refine WL_nil ?_; refine W_ifp rfl (fun ht15 => ?_) (fun ht15 => ?_)
  · have hlt : i < ds.length := by omega
    obtain ⟨ga, off, Ai, ci, hA, hRi, hcell⟩ := hdat i hlt; have hbd : (t.length + 1) * 40 ≤ 140737488355328 := bd_run hl htl hlt; have hdr : ds.drop i = ds[i] :: ds.drop (i + 1) := List.drop_eq_getElem_cons hlt; refine W_skip ?_; refine W_seq ?_; refine W_block ?_; refine W_seq ?_; refine W_region ?_; refine op rfl (r_moveV (v := .slice _ _ _) rfl) ?_; refine op rfl (r_moveV (v := .int _ _) rfl) ?_; refine op rfl (r_indexAddrK (by rw [← hA]; rfl) rfl Tryd.underlying39 Tryd.sz38 hlt) ?_; refine op rfl (r_load_agg (cs := [.int .i64 ds[i].k, .string (str ds[i].p), .slice Ai ds[i].b.length ci]) rfl Tryd.underlying38 rfl Tryd.sz38 rfl (ext_row (hX'.trans hX) rfl hcell)) ?_; refine op_alloc rfl Tryd.zero38 ?_; intro w5_4 b5_4 E5_4 B5_4 L5_4
    have hG5_4 : w0i.heap.size ≤ b5_4 := by have := hX.size; omega
    replace hX := hX.trans E5_4; refine op_storeRow rfl rfl Tryd.sz38 B5_4 rfl rfl ?_; intro w5_5 C5_5 BB5_5; replace hX := hX.chg C5_5 hG5_4; replace B5_4 := BB5_5; refine WL_nil ?_; refine W_seq ?_; refine W_seq ?_; refine W_region ?_; refine op rfl (r_fieldAddr rfl Tryd.fld38_0 rfl) ?_; refine op rfl (r_load (v := .int .i64 ds[i].k) rfl Tryd.underlying3 rfl (Blk.cell B5_4 rfl)) ?_; refine op rfl (r_lss rfl rfl) ?_; refine op_split rfl (r_moveV (v := .bool (decide _)) rfl) (fun hg25 => ?_) (fun hg25 => ?_)
    · refine opG_no rfl rfl rfl rfl rfl ?_; refine opG_no rfl rfl rfl rfl rfl ?_; refine opG_no rfl rfl rfl rfl rfl ?_; refine op rfl (r_pickTV (v := .bool _) rfl rfl) ?_; refine op rfl (r_moveV (v := .bool _) rfl) ?_; refine opG_no rfl rfl rfl rfl rfl ?_; refine opG_no rfl rfl rfl rfl rfl ?_; refine opG_no rfl rfl rfl rfl rfl ?_; refine opG_no rfl rfl rfl rfl rfl ?_; refine op rfl (r_pickTV (v := .bool _) rfl rfl) ?_; refine WL_nil ?_; refine W_then rfl ?_; refine W_seq ?_; refine W_region ?_; refine op rfl (r_assignV (v := .slice _ _ _) rfl) ?_; refine op rfl (r_assignV (v := .int _ _) rfl) ?_; refine WL_nil ?_; refine W_ret (blk_ret (blk_ret (finX_ret ?_))); refine fin2 ?_
      first
        | (have h1 : ds[i].k < 1 ∨ 3 < ds[i].k ∨ ¬ rightP ds[i].p := by first | exact Or.inl hg25 | exact Or.inr (Or.inl hg30) | exact Or.inr (Or.inr ht35)
           have hst : stepT t ds[i] = (2, []) := st2 h1; have hE9 : applyT l ds = (2, []) := apE (by rw [hrun, hdr, run_consE (by rw [hst]; decide), hst]) (by decide)
           rw [hE9]; exact ⟨_, rfl, _, rfl, hnil _, hX'.trans hX⟩)
        | exact absurd hg43 hg50
        | (have h0 : ¬ (ds[i].k < 1 ∨ 3 < ds[i].k ∨ ¬ rightP ds[i].p) := fun q => q.elim hg25 (fun q => q.elim hg30 ht35)
           first
             | (have hst : stepT t ds[i] = (5, []) := st5 h0 hg43 (hk8.1 (by omega))
                have hE9 : applyT l ds = (5, []) := apE (by rw [hrun, hdr, run_consE (by rw [hst]; decide), hst]) (by decide)
                rw [hE9]; exact ⟨_, rfl, _, rfl, hnil _, hX'.trans hX⟩)
             | (have hst : stepT t ds[i] = (6, []) := st6 h0 hg50 (fun q => by have := hk8.2 q; omega)
                have hE9 : applyT l ds = (6, []) := apE (by rw [hrun, hdr, run_consE (by rw [hst]; decide), hst]) (by decide)
                rw [hE9]; exact ⟨_, rfl, _, rfl, hnil _, hX'.trans hX⟩))
        | (have h3 : 1000 < t.length ∨ (∃ x ∈ t, 65536 < x.b.length) := by first | exact Or.inl (by omega) | exact Or.inr ⟨t[j], List.getElem_mem hltj, by omega⟩
           rw [ap3 hrun' h3]; exact ⟨_, rfl, _, rfl, hnil _, hX'.trans hX⟩)
        | (have hjt : j = t.length := by omega
           have h3 : ¬ (1000 < t.length ∨ (∃ x ∈ t, 65536 < x.b.length)) := by
             rintro (q | ⟨x, hx, q⟩)
             · have := (hall 0 (by omega) (by omega)).2; omega
             · obtain ⟨m, hm, rfl⟩ := List.mem_iff_getElem.1 hx
               have := (hall m hm (by omega)).1; omega
           first
             | (rw [ap4 hrun' h3 ht88]; exact ⟨_, rfl, _, rfl, hnil _, hX'.trans hX⟩)
             | (rw [ap0 hrun' h3 (Classical.not_not.1 ht88)]; exact ⟨_, rfl, _, rfl, ⟨A1, cap1, rfl, hcp, hRk _ _ _ _ hX' hX hR⟩, hX'.trans hX⟩))
    · refine opG_yes rfl rfl rfl rfl rfl (r_fieldAddr rfl Tryd.fld38_0 rfl) ?_; refine opG_yes rfl rfl rfl rfl rfl (r_load (v := .int .i64 ds[i].k) rfl Tryd.underlying3 rfl (Blk.cell B5_4 rfl)) ?_; refine opG_yes rfl rfl rfl rfl rfl (r_gtr rfl rfl) ?_; refine op rfl (r_pickFV (v := .bool _) rfl rfl) ?_; refine op_split rfl (r_moveV (v := .bool (decide _)) rfl) (fun hg30 => ?_) (fun hg30 => ?_)
      · refine opG_no rfl rfl rfl rfl rfl ?_; refine opG_no rfl rfl rfl rfl rfl ?_; refine opG_no rfl rfl rfl rfl rfl ?_; refine opG_no rfl rfl rfl rfl rfl ?_; refine op rfl (r_pickTV (v := .bool _) rfl rfl) ?_; refine WL_nil ?_; refine W_then rfl ?_; refine W_seq ?_; refine W_region ?_; refine op rfl (r_assignV (v := .slice _ _ _) rfl) ?_; refine op rfl (r_assignV (v := .int _ _) rfl) ?_; refine WL_nil ?_; refine W_ret (blk_ret (blk_ret (finX_ret ?_))); refine fin2 ?_
        first
          | (have h1 : ds[i].k < 1 ∨ 3 < ds[i].k ∨ ¬ rightP ds[i].p := by first | exact Or.inl hg25 | exact Or.inr (Or.inl hg30) | exact Or.inr (Or.inr ht35)
             have hst : stepT t ds[i] = (2, []) := st2 h1; have hE9 : applyT l ds = (2, []) := apE (by rw [hrun, hdr, run_consE (by rw [hst]; decide), hst]) (by decide)
             rw [hE9]; exact ⟨_, rfl, _, rfl, hnil _, hX'.trans hX⟩)
          | exact absurd hg43 hg50
          | (have h0 : ¬ (ds[i].k < 1 ∨ 3 < ds[i].k ∨ ¬ rightP ds[i].p) := fun q => q.elim hg25 (fun q => q.elim hg30 ht35)
             first
               | (have hst : stepT t ds[i] = (5, []) := st5 h0 hg43 (hk8.1 (by omega))
                  have hE9 : applyT l ds = (5, []) := apE (by rw [hrun, hdr, run_consE (by rw [hst]; decide), hst]) (by decide)
                  rw [hE9]; exact ⟨_, rfl, _, rfl, hnil _, hX'.trans hX⟩)
               | (have hst : stepT t ds[i] = (6, []) := st6 h0 hg50 (fun q => by have := hk8.2 q; omega)
                  have hE9 : applyT l ds = (6, []) := apE (by rw [hrun, hdr, run_consE (by rw [hst]; decide), hst]) (by decide)
                  rw [hE9]; exact ⟨_, rfl, _, rfl, hnil _, hX'.trans hX⟩))
          | (have h3 : 1000 < t.length ∨ (∃ x ∈ t, 65536 < x.b.length) := by first | exact Or.inl (by omega) | exact Or.inr ⟨t[j], List.getElem_mem hltj, by omega⟩
             rw [ap3 hrun' h3]; exact ⟨_, rfl, _, rfl, hnil _, hX'.trans hX⟩)
          | (have hjt : j = t.length := by omega
             have h3 : ¬ (1000 < t.length ∨ (∃ x ∈ t, 65536 < x.b.length)) := by
               rintro (q | ⟨x, hx, q⟩)
               · have := (hall 0 (by omega) (by omega)).2; omega
               · obtain ⟨m, hm, rfl⟩ := List.mem_iff_getElem.1 hx
                 have := (hall m hm (by omega)).1; omega
             first
               | (rw [ap4 hrun' h3 ht88]; exact ⟨_, rfl, _, rfl, hnil _, hX'.trans hX⟩)
               | (rw [ap0 hrun' h3 (Classical.not_not.1 ht88)]; exact ⟨_, rfl, _, rfl, ⟨A1, cap1, rfl, hcp, hRk _ _ _ _ hX' hX hR⟩, hX'.trans hX⟩))
      · refine opG_yes rfl rfl rfl rfl rfl (r_fieldAddr rfl Tryd.fld38_1 rfl) ?_; refine opG_yes rfl rfl rfl rfl rfl (r_load (v := .string (str ds[i].p)) rfl Tryd.underlying9 rfl (Blk.cell B5_4 rfl)) ?_; refine opGCv_yes rfl rfl rfl rfl rfl (r_call Tryd.func41 Tryd.nm41 rfl) (refPathRight_spec ds[i].p _ (hp2 _ (List.getElem_mem hlt))) ?_; rintro v6 w6 ⟨rfl, hE⟩; replace B5_4 := Blk.ext B5_4 hE; replace hX := hX.trans hE; refine opG_yes rfl rfl rfl rfl rfl (r_notP rfl) ?_; refine op rfl (r_pickFV (v := .bool _) rfl rfl) ?_; refine WL_nil ?_; refine W_ifp rfl (fun ht35 => ?_) (fun ht35 => ?_)
        · refine W_seq ?_; refine W_region ?_; refine op rfl (r_assignV (v := .slice _ _ _) rfl) ?_; refine op rfl (r_assignV (v := .int _ _) rfl) ?_; refine WL_nil ?_; refine W_ret (blk_ret (blk_ret (finX_ret ?_))); refine fin2 ?_
          first
            | (have h1 : ds[i].k < 1 ∨ 3 < ds[i].k ∨ ¬ rightP ds[i].p := by first | exact Or.inl hg25 | exact Or.inr (Or.inl hg30) | exact Or.inr (Or.inr ht35)
               have hst : stepT t ds[i] = (2, []) := st2 h1; have hE9 : applyT l ds = (2, []) := apE (by rw [hrun, hdr, run_consE (by rw [hst]; decide), hst]) (by decide)
               rw [hE9]; exact ⟨_, rfl, _, rfl, hnil _, hX'.trans hX⟩)
            | exact absurd hg43 hg50
            | (have h0 : ¬ (ds[i].k < 1 ∨ 3 < ds[i].k ∨ ¬ rightP ds[i].p) := fun q => q.elim hg25 (fun q => q.elim hg30 ht35)
               first
                 | (have hst : stepT t ds[i] = (5, []) := st5 h0 hg43 (hk8.1 (by omega))
                    have hE9 : applyT l ds = (5, []) := apE (by rw [hrun, hdr, run_consE (by rw [hst]; decide), hst]) (by decide)
                    rw [hE9]; exact ⟨_, rfl, _, rfl, hnil _, hX'.trans hX⟩)
                 | (have hst : stepT t ds[i] = (6, []) := st6 h0 hg50 (fun q => by have := hk8.2 q; omega)
                    have hE9 : applyT l ds = (6, []) := apE (by rw [hrun, hdr, run_consE (by rw [hst]; decide), hst]) (by decide)
                    rw [hE9]; exact ⟨_, rfl, _, rfl, hnil _, hX'.trans hX⟩))
            | (have h3 : 1000 < t.length ∨ (∃ x ∈ t, 65536 < x.b.length) := by first | exact Or.inl (by omega) | exact Or.inr ⟨t[j], List.getElem_mem hltj, by omega⟩
               rw [ap3 hrun' h3]; exact ⟨_, rfl, _, rfl, hnil _, hX'.trans hX⟩)
            | (have hjt : j = t.length := by omega
               have h3 : ¬ (1000 < t.length ∨ (∃ x ∈ t, 65536 < x.b.length)) := by
                 rintro (q | ⟨x, hx, q⟩)
                 · have := (hall 0 (by omega) (by omega)).2; omega
                 · obtain ⟨m, hm, rfl⟩ := List.mem_iff_getElem.1 hx
                   have := (hall m hm (by omega)).1; omega
               first
                 | (rw [ap4 hrun' h3 ht88]; exact ⟨_, rfl, _, rfl, hnil _, hX'.trans hX⟩)
                 | (rw [ap0 hrun' h3 (Classical.not_not.1 ht88)]; exact ⟨_, rfl, _, rfl, ⟨A1, cap1, rfl, hcp, hRk _ _ _ _ hX' hX hR⟩, hX'.trans hX⟩))
        · refine W_skip ?_; refine W_seq ?_; refine W_region ?_; refine op rfl (r_moveV (v := .slice _ _ _) rfl) ?_; refine op rfl (r_fieldAddr rfl Tryd.fld38_1 rfl) ?_; refine op rfl (r_load (v := .string (str ds[i].p)) rfl Tryd.underlying9 rfl (Blk.cell B5_4 rfl)) ?_; refine opCv rfl (r_call Tryd.func53 Tryd.nm53 rfl) (refFind_spec ds[i].p (hRk _ _ _ _ hX' hX hR) (by omega)) ?_; rintro v8 w8 ⟨k8, rfl, hk8, hE⟩; replace B5_4 := Blk.ext B5_4 hE; replace hX := hX.trans hE; refine op rfl (r_assignV (v := .int _ _) rfl) ?_; refine WL_nil ?_; refine W_seq ?_; refine W_seq ?_; refine W_region ?_; refine op rfl (r_fieldAddr rfl Tryd.fld38_0 rfl) ?_; refine op rfl (r_load (v := .int .i64 ds[i].k) rfl Tryd.underlying3 rfl (Blk.cell B5_4 rfl)) ?_; refine op rfl (r_eql rfl rfl) ?_; refine op_split rfl (r_moveV (v := .bool (decide _)) rfl) (fun hg43 => ?_) (fun hg43 => ?_)
          · refine opG_yes rfl rfl rfl rfl rfl (r_moveV (v := .int _ _) rfl) ?_; refine opG_yes rfl rfl rfl rfl rfl (r_geq rfl rfl) ?_; refine op rfl (r_pickTV (v := .bool _) rfl rfl) ?_; refine WL_nil ?_; refine W_ifp rfl (fun ht46 => ?_) (fun ht46 => ?_)
            · refine W_seq ?_; refine W_region ?_; refine op rfl (r_assignV (v := .slice _ _ _) rfl) ?_; refine op rfl (r_assignV (v := .int _ _) rfl) ?_; refine WL_nil ?_; refine W_ret (blk_ret (blk_ret (finX_ret ?_))); refine fin2 ?_
              first
                | (have h1 : ds[i].k < 1 ∨ 3 < ds[i].k ∨ ¬ rightP ds[i].p := by first | exact Or.inl hg25 | exact Or.inr (Or.inl hg30) | exact Or.inr (Or.inr ht35)
                   have hst : stepT t ds[i] = (2, []) := st2 h1; have hE9 : applyT l ds = (2, []) := apE (by rw [hrun, hdr, run_consE (by rw [hst]; decide), hst]) (by decide)
                   rw [hE9]; exact ⟨_, rfl, _, rfl, hnil _, hX'.trans hX⟩)
                | exact absurd hg43 hg50
                | (have h0 : ¬ (ds[i].k < 1 ∨ 3 < ds[i].k ∨ ¬ rightP ds[i].p) := fun q => q.elim hg25 (fun q => q.elim hg30 ht35)
                   first
                     | (have hst : stepT t ds[i] = (5, []) := st5 h0 hg43 (hk8.1 (by omega))
                        have hE9 : applyT l ds = (5, []) := apE (by rw [hrun, hdr, run_consE (by rw [hst]; decide), hst]) (by decide)
                        rw [hE9]; exact ⟨_, rfl, _, rfl, hnil _, hX'.trans hX⟩)
                     | (have hst : stepT t ds[i] = (6, []) := st6 h0 hg50 (fun q => by have := hk8.2 q; omega)
                        have hE9 : applyT l ds = (6, []) := apE (by rw [hrun, hdr, run_consE (by rw [hst]; decide), hst]) (by decide)
                        rw [hE9]; exact ⟨_, rfl, _, rfl, hnil _, hX'.trans hX⟩))
                | (have h3 : 1000 < t.length ∨ (∃ x ∈ t, 65536 < x.b.length) := by first | exact Or.inl (by omega) | exact Or.inr ⟨t[j], List.getElem_mem hltj, by omega⟩
                   rw [ap3 hrun' h3]; exact ⟨_, rfl, _, rfl, hnil _, hX'.trans hX⟩)
                | (have hjt : j = t.length := by omega
                   have h3 : ¬ (1000 < t.length ∨ (∃ x ∈ t, 65536 < x.b.length)) := by
                     rintro (q | ⟨x, hx, q⟩)
                     · have := (hall 0 (by omega) (by omega)).2; omega
                     · obtain ⟨m, hm, rfl⟩ := List.mem_iff_getElem.1 hx
                       have := (hall m hm (by omega)).1; omega
                   first
                     | (rw [ap4 hrun' h3 ht88]; exact ⟨_, rfl, _, rfl, hnil _, hX'.trans hX⟩)
                     | (rw [ap0 hrun' h3 (Classical.not_not.1 ht88)]; exact ⟨_, rfl, _, rfl, ⟨A1, cap1, rfl, hcp, hRk _ _ _ _ hX' hX hR⟩, hX'.trans hX⟩))
            · refine W_skip ?_; refine W_seq ?_; refine W_seq ?_; refine W_region ?_; refine op rfl (r_fieldAddr rfl Tryd.fld38_0 rfl) ?_; refine op rfl (r_load (v := .int .i64 ds[i].k) rfl Tryd.underlying3 rfl (Blk.cell B5_4 rfl)) ?_; refine op rfl (r_neq rfl rfl) ?_; refine op_split rfl (r_moveV (v := .bool (decide _)) rfl) (fun hg50 => ?_) (fun hg50 => ?_)
              · refine opG_yes rfl rfl rfl rfl rfl (r_moveV (v := .int _ _) rfl) ?_; refine opG_yes rfl rfl rfl rfl rfl (r_lss rfl rfl) ?_; refine op rfl (r_pickTV (v := .bool _) rfl rfl) ?_; refine WL_nil ?_; refine W_ifp rfl (fun ht53 => ?_) (fun ht53 => ?_)
                · refine W_seq ?_; refine W_region ?_; refine op rfl (r_assignV (v := .slice _ _ _) rfl) ?_; refine op rfl (r_assignV (v := .int _ _) rfl) ?_; refine WL_nil ?_; refine W_ret (blk_ret (blk_ret (finX_ret ?_))); refine fin2 ?_
                  first
                    | (have h1 : ds[i].k < 1 ∨ 3 < ds[i].k ∨ ¬ rightP ds[i].p := by first | exact Or.inl hg25 | exact Or.inr (Or.inl hg30) | exact Or.inr (Or.inr ht35)
                       have hst : stepT t ds[i] = (2, []) := st2 h1; have hE9 : applyT l ds = (2, []) := apE (by rw [hrun, hdr, run_consE (by rw [hst]; decide), hst]) (by decide)
                       rw [hE9]; exact ⟨_, rfl, _, rfl, hnil _, hX'.trans hX⟩)
                    | exact absurd hg43 hg50
                    | (have h0 : ¬ (ds[i].k < 1 ∨ 3 < ds[i].k ∨ ¬ rightP ds[i].p) := fun q => q.elim hg25 (fun q => q.elim hg30 ht35)
                       first
                         | (have hst : stepT t ds[i] = (5, []) := st5 h0 hg43 (hk8.1 (by omega))
                            have hE9 : applyT l ds = (5, []) := apE (by rw [hrun, hdr, run_consE (by rw [hst]; decide), hst]) (by decide)
                            rw [hE9]; exact ⟨_, rfl, _, rfl, hnil _, hX'.trans hX⟩)
                         | (have hst : stepT t ds[i] = (6, []) := st6 h0 hg50 (fun q => by have := hk8.2 q; omega)
                            have hE9 : applyT l ds = (6, []) := apE (by rw [hrun, hdr, run_consE (by rw [hst]; decide), hst]) (by decide)
                            rw [hE9]; exact ⟨_, rfl, _, rfl, hnil _, hX'.trans hX⟩))
                    | (have h3 : 1000 < t.length ∨ (∃ x ∈ t, 65536 < x.b.length) := by first | exact Or.inl (by omega) | exact Or.inr ⟨t[j], List.getElem_mem hltj, by omega⟩
                       rw [ap3 hrun' h3]; exact ⟨_, rfl, _, rfl, hnil _, hX'.trans hX⟩)
                    | (have hjt : j = t.length := by omega
                       have h3 : ¬ (1000 < t.length ∨ (∃ x ∈ t, 65536 < x.b.length)) := by
                         rintro (q | ⟨x, hx, q⟩)
                         · have := (hall 0 (by omega) (by omega)).2; omega
                         · obtain ⟨m, hm, rfl⟩ := List.mem_iff_getElem.1 hx
                           have := (hall m hm (by omega)).1; omega
                       first
                         | (rw [ap4 hrun' h3 ht88]; exact ⟨_, rfl, _, rfl, hnil _, hX'.trans hX⟩)
                         | (rw [ap0 hrun' h3 (Classical.not_not.1 ht88)]; exact ⟨_, rfl, _, rfl, ⟨A1, cap1, rfl, hcp, hRk _ _ _ _ hX' hX hR⟩, hX'.trans hX⟩))
                · refine W_skip ?_; refine W_seq ?_; refine W_region ?_; refine op rfl (r_fieldAddr rfl Tryd.fld38_0 rfl) ?_; refine op rfl (r_load (v := .int .i64 ds[i].k) rfl Tryd.underlying3 rfl (Blk.cell B5_4 rfl)) ?_; refine op rfl (r_eql rfl rfl) ?_; refine WL_nil ?_; refine W_ifp rfl (fun ht56 => ?_) (fun ht56 => ?_)
                  · refine W_region ?_; refine op rfl (r_moveV (v := .slice _ _ _) rfl) ?_; refine op rfl (r_fieldAddr rfl Tryd.fld38_1 rfl) ?_; refine op rfl (r_load (v := .string (str ds[i].p)) rfl Tryd.underlying9 rfl (Blk.cell B5_4 rfl)) ?_; have hX14 := hX'.trans hX; refine opCv rfl (r_call Tryd.func54 Tryd.nm54 rfl) (refDrop_spec ds[i].p (hGs _ hX14) (hRk _ _ _ _ hX' hX hR) (by omega)) ?_; rintro v9 w9 ⟨hO9, hE⟩; replace B5_4 := Blk.ext B5_4 hE; replace hX := hX.trans hE
                    have h0 : ¬ (ds[i].k < 1 ∨ 3 < ds[i].k ∨ ¬ rightP ds[i].p) := fun q => q.elim hg25 (fun q => q.elim hg30 ht35)
                    have hst : stepT t ds[i] = (0, dropT t ds[i].p) := by
                      first
                        | omega
                        | exact absurd hg43 hg50
                        | exact st3 h0 ht56 (hk8.1 (by omega))
                    obtain ⟨A9, cap9, rfl, hc9, hr9⟩ := hO9.read
                    have hR9 : fiT.Row w9 (fun b => G b ∨ since w w9 b) A9 (dropT t ds[i].p) := hr9.keep (fun _ _ => rfl) (fun b hb => by
                      have := hX14.size; have := hE.size
                      rcases hb with (q | q) | q
                      · exact Or.inl q
                      · have := q.1; have := q.2; exact Or.inr ⟨by omega, by omega⟩
                      · have := hO9.lt q; exact Or.inr ⟨by omega, by omega⟩)
                    refine op rfl (r_assignV (v := .slice A9 (dropT t ds[i].p).length cap9) rfl) ?_; refine WL_nil ?_; refine W_region ?_; refine op rfl (r_moveV (v := .int _ _) rfl) ?_; refine op rfl (r_add' (r := ((i + 1 : Nat) : Int)) rfl rfl (by rw [wrap_i64 (by omega) (by omega)]; omega)) ?_; refine op rfl (r_assignV (v := .int _ _) rfl) ?_; refine WL_nil ?_; refine ⟨?_, by repeat (first | with_reducible exact Out.refl _ _ | with_reducible exact Out.mix | refine Out.put rfl ?_ | refine Out.mixin rfl ?_ | exact Out.refl _ _ | exact Out.mix)⟩
                    have hs0 : (stepT t ds[i]).1 = 0 := by rw [hst]
                    exact ⟨ds.length - (i + 1), by omega, i + 1, (stepT t ds[i]).2, A9, cap9, rfl, by omega, rfl, by rw [hst]; rfl, by rw [hst]; exact hc9, by rw [hst]; exact hR9, by rw [hrun, hdr, run_cons0 hs0], by have := step_len t ds[i]; omega, step_path (P := fun p => p.length ≤ 1099511627776) hpt (hp2 _ (List.getElem_mem hlt)), hX'.trans hX⟩
                  · refine W_region ?_; refine op rfl (r_moveV (v := .slice _ _ _) rfl) ?_; refine op rfl (r_fieldAddr rfl Tryd.fld38_1 rfl) ?_; refine op rfl (r_load (v := .string (str ds[i].p)) rfl Tryd.underlying9 rfl (Blk.cell B5_4 rfl)) ?_; refine op rfl (r_fieldAddr rfl Tryd.fld38_2 rfl) ?_; refine op rfl (r_load (v := .slice Ai ds[i].b.length ci) rfl Tryd.underlying24 rfl (Blk.cell B5_4 rfl)) ?_; refine op rfl (r_build (cs := [.string _, .slice _ _ _]) Tryd.lay35 (List.forall_mem_cons.2 ⟨rfl, List.forall_mem_cons.2 ⟨rfl, fun _ h => by cases h⟩⟩) rfl rfl) ?_; have hX15 := hX'.trans hX; refine opCv rfl (r_call Tryd.func55 Tryd.nm55 rfl) (refPut_spec (f := ⟨ds[i].p, ds[i].b⟩) (hGs _ hX15) (hRk _ _ _ _ hX' hX hR) (by omega) (fiT.keep hRi (fun b hb ↦ hX15.block b (hG b hb)) (fun b hb ↦ Or.inl hb))) ?_; rintro v9 w9 ⟨⟨A9, cap9, rfl, hc9, hR9'⟩, hE⟩; replace B5_4 := Blk.ext B5_4 hE; replace hX := hX.trans hE
                    have h0 : ¬ (ds[i].k < 1 ∨ 3 < ds[i].k ∨ ¬ rightP ds[i].p) := fun q => q.elim hg25 (fun q => q.elim hg30 ht35)
                    have hst : stepT t ds[i] = (0, putT t ⟨ds[i].p, ds[i].b⟩) := by
                      first
                        | exact absurd hg43 hg50
                        | (refine st0 h0 ht56 ⟨fun _ => fun q => ?_, fun q => ?_⟩
                           · first | exact absurd (hk8.2 q) (by omega) | omega
                           · first | exact hg43 | exact absurd (hk8.1 (by omega)) q)
                    have hR9 : fiT.Row w9 (fun b => G b ∨ since w w9 b) A9 (putT t ⟨ds[i].p, ds[i].b⟩) := hR9'.keep (fun _ _ => rfl) (fun b hb => by
                      have := hX15.size; have := hE.size
                      rcases hb with (q | q) | q
                      · exact Or.inl q
                      · have := q.1; have := q.2; exact Or.inr ⟨by omega, by omega⟩
                      · have := q.1; have := q.2; exact Or.inr ⟨by omega, by omega⟩)
                    refine op rfl (r_assignV (v := .slice A9 (putT t ⟨ds[i].p, ds[i].b⟩).length cap9) rfl) ?_; refine WL_nil ?_; refine W_region ?_; refine op rfl (r_moveV (v := .int _ _) rfl) ?_; refine op rfl (r_add' (r := ((i + 1 : Nat) : Int)) rfl rfl (by rw [wrap_i64 (by omega) (by omega)]; omega)) ?_; refine op rfl (r_assignV (v := .int _ _) rfl) ?_; refine WL_nil ?_; refine ⟨?_, by repeat (first | with_reducible exact Out.refl _ _ | with_reducible exact Out.mix | refine Out.put rfl ?_ | refine Out.mixin rfl ?_ | exact Out.refl _ _ | exact Out.mix)⟩
                    have hs0 : (stepT t ds[i]).1 = 0 := by rw [hst]
                    exact ⟨ds.length - (i + 1), by omega, i + 1, (stepT t ds[i]).2, A9, cap9, rfl, by omega, rfl, by rw [hst]; rfl, by rw [hst]; exact hc9, by rw [hst]; exact hR9, by rw [hrun, hdr, run_cons0 hs0], by have := step_len t ds[i]; omega, step_path (P := fun p => p.length ≤ 1099511627776) hpt (hp2 _ (List.getElem_mem hlt)), hX'.trans hX⟩
              · refine opG_no rfl rfl rfl rfl rfl ?_; refine opG_no rfl rfl rfl rfl rfl ?_; refine op rfl (r_pickFV (v := .bool _) rfl rfl) ?_; refine WL_nil ?_; refine W_else rfl ?_; refine W_skip ?_; refine W_seq ?_; refine W_region ?_; refine op rfl (r_fieldAddr rfl Tryd.fld38_0 rfl) ?_; refine op rfl (r_load (v := .int .i64 ds[i].k) rfl Tryd.underlying3 rfl (Blk.cell B5_4 rfl)) ?_; refine op rfl (r_eql rfl rfl) ?_; refine WL_nil ?_; refine W_ifp rfl (fun ht56 => ?_) (fun ht56 => ?_)
                · refine W_region ?_; refine op rfl (r_moveV (v := .slice _ _ _) rfl) ?_; refine op rfl (r_fieldAddr rfl Tryd.fld38_1 rfl) ?_; refine op rfl (r_load (v := .string (str ds[i].p)) rfl Tryd.underlying9 rfl (Blk.cell B5_4 rfl)) ?_; have hX14 := hX'.trans hX; refine opCv rfl (r_call Tryd.func54 Tryd.nm54 rfl) (refDrop_spec ds[i].p (hGs _ hX14) (hRk _ _ _ _ hX' hX hR) (by omega)) ?_; rintro v9 w9 ⟨hO9, hE⟩; replace B5_4 := Blk.ext B5_4 hE; replace hX := hX.trans hE
                  have h0 : ¬ (ds[i].k < 1 ∨ 3 < ds[i].k ∨ ¬ rightP ds[i].p) := fun q => q.elim hg25 (fun q => q.elim hg30 ht35)
                  have hst : stepT t ds[i] = (0, dropT t ds[i].p) := by
                    first
                      | omega
                      | exact absurd hg43 hg50
                      | exact st3 h0 ht56 (hk8.1 (by omega))
                  obtain ⟨A9, cap9, rfl, hc9, hr9⟩ := hO9.read
                  have hR9 : fiT.Row w9 (fun b => G b ∨ since w w9 b) A9 (dropT t ds[i].p) := hr9.keep (fun _ _ => rfl) (fun b hb => by
                    have := hX14.size; have := hE.size
                    rcases hb with (q | q) | q
                    · exact Or.inl q
                    · have := q.1; have := q.2; exact Or.inr ⟨by omega, by omega⟩
                    · have := hO9.lt q; exact Or.inr ⟨by omega, by omega⟩)
                  refine op rfl (r_assignV (v := .slice A9 (dropT t ds[i].p).length cap9) rfl) ?_; refine WL_nil ?_; refine W_region ?_; refine op rfl (r_moveV (v := .int _ _) rfl) ?_; refine op rfl (r_add' (r := ((i + 1 : Nat) : Int)) rfl rfl (by rw [wrap_i64 (by omega) (by omega)]; omega)) ?_; refine op rfl (r_assignV (v := .int _ _) rfl) ?_; refine WL_nil ?_; refine ⟨?_, by repeat (first | with_reducible exact Out.refl _ _ | with_reducible exact Out.mix | refine Out.put rfl ?_ | refine Out.mixin rfl ?_ | exact Out.refl _ _ | exact Out.mix)⟩
                  have hs0 : (stepT t ds[i]).1 = 0 := by rw [hst]
                  exact ⟨ds.length - (i + 1), by omega, i + 1, (stepT t ds[i]).2, A9, cap9, rfl, by omega, rfl, by rw [hst]; rfl, by rw [hst]; exact hc9, by rw [hst]; exact hR9, by rw [hrun, hdr, run_cons0 hs0], by have := step_len t ds[i]; omega, step_path (P := fun p => p.length ≤ 1099511627776) hpt (hp2 _ (List.getElem_mem hlt)), hX'.trans hX⟩
                · refine W_region ?_; refine op rfl (r_moveV (v := .slice _ _ _) rfl) ?_; refine op rfl (r_fieldAddr rfl Tryd.fld38_1 rfl) ?_; refine op rfl (r_load (v := .string (str ds[i].p)) rfl Tryd.underlying9 rfl (Blk.cell B5_4 rfl)) ?_; refine op rfl (r_fieldAddr rfl Tryd.fld38_2 rfl) ?_; refine op rfl (r_load (v := .slice Ai ds[i].b.length ci) rfl Tryd.underlying24 rfl (Blk.cell B5_4 rfl)) ?_; refine op rfl (r_build (cs := [.string _, .slice _ _ _]) Tryd.lay35 (List.forall_mem_cons.2 ⟨rfl, List.forall_mem_cons.2 ⟨rfl, fun _ h => by cases h⟩⟩) rfl rfl) ?_; have hX15 := hX'.trans hX; refine opCv rfl (r_call Tryd.func55 Tryd.nm55 rfl) (refPut_spec (f := ⟨ds[i].p, ds[i].b⟩) (hGs _ hX15) (hRk _ _ _ _ hX' hX hR) (by omega) (fiT.keep hRi (fun b hb ↦ hX15.block b (hG b hb)) (fun b hb ↦ Or.inl hb))) ?_; rintro v9 w9 ⟨⟨A9, cap9, rfl, hc9, hR9'⟩, hE⟩; replace B5_4 := Blk.ext B5_4 hE; replace hX := hX.trans hE
                  have h0 : ¬ (ds[i].k < 1 ∨ 3 < ds[i].k ∨ ¬ rightP ds[i].p) := fun q => q.elim hg25 (fun q => q.elim hg30 ht35)
                  have hst : stepT t ds[i] = (0, putT t ⟨ds[i].p, ds[i].b⟩) := by
                    first
                      | exact absurd hg43 hg50
                      | (refine st0 h0 ht56 ⟨fun _ => fun q => ?_, fun q => ?_⟩
                         · first | exact absurd (hk8.2 q) (by omega) | omega
                         · first | exact hg43 | exact absurd (hk8.1 (by omega)) q)
                  have hR9 : fiT.Row w9 (fun b => G b ∨ since w w9 b) A9 (putT t ⟨ds[i].p, ds[i].b⟩) := hR9'.keep (fun _ _ => rfl) (fun b hb => by
                    have := hX15.size; have := hE.size
                    rcases hb with (q | q) | q
                    · exact Or.inl q
                    · have := q.1; have := q.2; exact Or.inr ⟨by omega, by omega⟩
                    · have := q.1; have := q.2; exact Or.inr ⟨by omega, by omega⟩)
                  refine op rfl (r_assignV (v := .slice A9 (putT t ⟨ds[i].p, ds[i].b⟩).length cap9) rfl) ?_; refine WL_nil ?_; refine W_region ?_; refine op rfl (r_moveV (v := .int _ _) rfl) ?_; refine op rfl (r_add' (r := ((i + 1 : Nat) : Int)) rfl rfl (by rw [wrap_i64 (by omega) (by omega)]; omega)) ?_; refine op rfl (r_assignV (v := .int _ _) rfl) ?_; refine WL_nil ?_; refine ⟨?_, by repeat (first | with_reducible exact Out.refl _ _ | with_reducible exact Out.mix | refine Out.put rfl ?_ | refine Out.mixin rfl ?_ | exact Out.refl _ _ | exact Out.mix)⟩
                  have hs0 : (stepT t ds[i]).1 = 0 := by rw [hst]
                  exact ⟨ds.length - (i + 1), by omega, i + 1, (stepT t ds[i]).2, A9, cap9, rfl, by omega, rfl, by rw [hst]; rfl, by rw [hst]; exact hc9, by rw [hst]; exact hR9, by rw [hrun, hdr, run_cons0 hs0], by have := step_len t ds[i]; omega, step_path (P := fun p => p.length ≤ 1099511627776) hpt (hp2 _ (List.getElem_mem hlt)), hX'.trans hX⟩
          · refine opG_no rfl rfl rfl rfl rfl ?_; refine opG_no rfl rfl rfl rfl rfl ?_; refine op rfl (r_pickFV (v := .bool _) rfl rfl) ?_; refine WL_nil ?_; refine W_else rfl ?_; refine W_skip ?_; refine W_seq ?_; refine W_seq ?_; refine W_region ?_; refine op rfl (r_fieldAddr rfl Tryd.fld38_0 rfl) ?_; refine op rfl (r_load (v := .int .i64 ds[i].k) rfl Tryd.underlying3 rfl (Blk.cell B5_4 rfl)) ?_; refine op rfl (r_neq rfl rfl) ?_; refine op_split rfl (r_moveV (v := .bool (decide _)) rfl) (fun hg50 => ?_) (fun hg50 => ?_)
            · refine opG_yes rfl rfl rfl rfl rfl (r_moveV (v := .int _ _) rfl) ?_; refine opG_yes rfl rfl rfl rfl rfl (r_lss rfl rfl) ?_; refine op rfl (r_pickTV (v := .bool _) rfl rfl) ?_; refine WL_nil ?_; refine W_ifp rfl (fun ht53 => ?_) (fun ht53 => ?_)
              · refine W_seq ?_; refine W_region ?_; refine op rfl (r_assignV (v := .slice _ _ _) rfl) ?_; refine op rfl (r_assignV (v := .int _ _) rfl) ?_; refine WL_nil ?_; refine W_ret (blk_ret (blk_ret (finX_ret ?_))); refine fin2 ?_
                first
                  | (have h1 : ds[i].k < 1 ∨ 3 < ds[i].k ∨ ¬ rightP ds[i].p := by first | exact Or.inl hg25 | exact Or.inr (Or.inl hg30) | exact Or.inr (Or.inr ht35)
                     have hst : stepT t ds[i] = (2, []) := st2 h1; have hE9 : applyT l ds = (2, []) := apE (by rw [hrun, hdr, run_consE (by rw [hst]; decide), hst]) (by decide)
                     rw [hE9]; exact ⟨_, rfl, _, rfl, hnil _, hX'.trans hX⟩)
                  | exact absurd hg43 hg50
                  | (have h0 : ¬ (ds[i].k < 1 ∨ 3 < ds[i].k ∨ ¬ rightP ds[i].p) := fun q => q.elim hg25 (fun q => q.elim hg30 ht35)
                     first
                       | (have hst : stepT t ds[i] = (5, []) := st5 h0 hg43 (hk8.1 (by omega))
                          have hE9 : applyT l ds = (5, []) := apE (by rw [hrun, hdr, run_consE (by rw [hst]; decide), hst]) (by decide)
                          rw [hE9]; exact ⟨_, rfl, _, rfl, hnil _, hX'.trans hX⟩)
                       | (have hst : stepT t ds[i] = (6, []) := st6 h0 hg50 (fun q => by have := hk8.2 q; omega)
                          have hE9 : applyT l ds = (6, []) := apE (by rw [hrun, hdr, run_consE (by rw [hst]; decide), hst]) (by decide)
                          rw [hE9]; exact ⟨_, rfl, _, rfl, hnil _, hX'.trans hX⟩))
                  | (have h3 : 1000 < t.length ∨ (∃ x ∈ t, 65536 < x.b.length) := by first | exact Or.inl (by omega) | exact Or.inr ⟨t[j], List.getElem_mem hltj, by omega⟩
                     rw [ap3 hrun' h3]; exact ⟨_, rfl, _, rfl, hnil _, hX'.trans hX⟩)
                  | (have hjt : j = t.length := by omega
                     have h3 : ¬ (1000 < t.length ∨ (∃ x ∈ t, 65536 < x.b.length)) := by
                       rintro (q | ⟨x, hx, q⟩)
                       · have := (hall 0 (by omega) (by omega)).2; omega
                       · obtain ⟨m, hm, rfl⟩ := List.mem_iff_getElem.1 hx
                         have := (hall m hm (by omega)).1; omega
                     first
                       | (rw [ap4 hrun' h3 ht88]; exact ⟨_, rfl, _, rfl, hnil _, hX'.trans hX⟩)
                       | (rw [ap0 hrun' h3 (Classical.not_not.1 ht88)]; exact ⟨_, rfl, _, rfl, ⟨A1, cap1, rfl, hcp, hRk _ _ _ _ hX' hX hR⟩, hX'.trans hX⟩))
              · refine W_skip ?_; refine W_seq ?_; refine W_region ?_; refine op rfl (r_fieldAddr rfl Tryd.fld38_0 rfl) ?_; refine op rfl (r_load (v := .int .i64 ds[i].k) rfl Tryd.underlying3 rfl (Blk.cell B5_4 rfl)) ?_; refine op rfl (r_eql rfl rfl) ?_; refine WL_nil ?_; refine W_ifp rfl (fun ht56 => ?_) (fun ht56 => ?_)
                · refine W_region ?_; refine op rfl (r_moveV (v := .slice _ _ _) rfl) ?_; refine op rfl (r_fieldAddr rfl Tryd.fld38_1 rfl) ?_; refine op rfl (r_load (v := .string (str ds[i].p)) rfl Tryd.underlying9 rfl (Blk.cell B5_4 rfl)) ?_; have hX14 := hX'.trans hX; refine opCv rfl (r_call Tryd.func54 Tryd.nm54 rfl) (refDrop_spec ds[i].p (hGs _ hX14) (hRk _ _ _ _ hX' hX hR) (by omega)) ?_; rintro v9 w9 ⟨hO9, hE⟩; replace B5_4 := Blk.ext B5_4 hE; replace hX := hX.trans hE
                  have h0 : ¬ (ds[i].k < 1 ∨ 3 < ds[i].k ∨ ¬ rightP ds[i].p) := fun q => q.elim hg25 (fun q => q.elim hg30 ht35)
                  have hst : stepT t ds[i] = (0, dropT t ds[i].p) := by
                    first
                      | omega
                      | exact absurd hg43 hg50
                      | exact st3 h0 ht56 (hk8.1 (by omega))
                  obtain ⟨A9, cap9, rfl, hc9, hr9⟩ := hO9.read
                  have hR9 : fiT.Row w9 (fun b => G b ∨ since w w9 b) A9 (dropT t ds[i].p) := hr9.keep (fun _ _ => rfl) (fun b hb => by
                    have := hX14.size; have := hE.size
                    rcases hb with (q | q) | q
                    · exact Or.inl q
                    · have := q.1; have := q.2; exact Or.inr ⟨by omega, by omega⟩
                    · have := hO9.lt q; exact Or.inr ⟨by omega, by omega⟩)
                  refine op rfl (r_assignV (v := .slice A9 (dropT t ds[i].p).length cap9) rfl) ?_; refine WL_nil ?_; refine W_region ?_; refine op rfl (r_moveV (v := .int _ _) rfl) ?_; refine op rfl (r_add' (r := ((i + 1 : Nat) : Int)) rfl rfl (by rw [wrap_i64 (by omega) (by omega)]; omega)) ?_; refine op rfl (r_assignV (v := .int _ _) rfl) ?_; refine WL_nil ?_; refine ⟨?_, by repeat (first | with_reducible exact Out.refl _ _ | with_reducible exact Out.mix | refine Out.put rfl ?_ | refine Out.mixin rfl ?_ | exact Out.refl _ _ | exact Out.mix)⟩
                  have hs0 : (stepT t ds[i]).1 = 0 := by rw [hst]
                  exact ⟨ds.length - (i + 1), by omega, i + 1, (stepT t ds[i]).2, A9, cap9, rfl, by omega, rfl, by rw [hst]; rfl, by rw [hst]; exact hc9, by rw [hst]; exact hR9, by rw [hrun, hdr, run_cons0 hs0], by have := step_len t ds[i]; omega, step_path (P := fun p => p.length ≤ 1099511627776) hpt (hp2 _ (List.getElem_mem hlt)), hX'.trans hX⟩
                · refine W_region ?_; refine op rfl (r_moveV (v := .slice _ _ _) rfl) ?_; refine op rfl (r_fieldAddr rfl Tryd.fld38_1 rfl) ?_; refine op rfl (r_load (v := .string (str ds[i].p)) rfl Tryd.underlying9 rfl (Blk.cell B5_4 rfl)) ?_; refine op rfl (r_fieldAddr rfl Tryd.fld38_2 rfl) ?_; refine op rfl (r_load (v := .slice Ai ds[i].b.length ci) rfl Tryd.underlying24 rfl (Blk.cell B5_4 rfl)) ?_; refine op rfl (r_build (cs := [.string _, .slice _ _ _]) Tryd.lay35 (List.forall_mem_cons.2 ⟨rfl, List.forall_mem_cons.2 ⟨rfl, fun _ h => by cases h⟩⟩) rfl rfl) ?_; have hX15 := hX'.trans hX; refine opCv rfl (r_call Tryd.func55 Tryd.nm55 rfl) (refPut_spec (f := ⟨ds[i].p, ds[i].b⟩) (hGs _ hX15) (hRk _ _ _ _ hX' hX hR) (by omega) (fiT.keep hRi (fun b hb ↦ hX15.block b (hG b hb)) (fun b hb ↦ Or.inl hb))) ?_; rintro v9 w9 ⟨⟨A9, cap9, rfl, hc9, hR9'⟩, hE⟩; replace B5_4 := Blk.ext B5_4 hE; replace hX := hX.trans hE
                  have h0 : ¬ (ds[i].k < 1 ∨ 3 < ds[i].k ∨ ¬ rightP ds[i].p) := fun q => q.elim hg25 (fun q => q.elim hg30 ht35)
                  have hst : stepT t ds[i] = (0, putT t ⟨ds[i].p, ds[i].b⟩) := by
                    first
                      | exact absurd hg43 hg50
                      | (refine st0 h0 ht56 ⟨fun _ => fun q => ?_, fun q => ?_⟩
                         · first | exact absurd (hk8.2 q) (by omega) | omega
                         · first | exact hg43 | exact absurd (hk8.1 (by omega)) q)
                  have hR9 : fiT.Row w9 (fun b => G b ∨ since w w9 b) A9 (putT t ⟨ds[i].p, ds[i].b⟩) := hR9'.keep (fun _ _ => rfl) (fun b hb => by
                    have := hX15.size; have := hE.size
                    rcases hb with (q | q) | q
                    · exact Or.inl q
                    · have := q.1; have := q.2; exact Or.inr ⟨by omega, by omega⟩
                    · have := q.1; have := q.2; exact Or.inr ⟨by omega, by omega⟩)
                  refine op rfl (r_assignV (v := .slice A9 (putT t ⟨ds[i].p, ds[i].b⟩).length cap9) rfl) ?_; refine WL_nil ?_; refine W_region ?_; refine op rfl (r_moveV (v := .int _ _) rfl) ?_; refine op rfl (r_add' (r := ((i + 1 : Nat) : Int)) rfl rfl (by rw [wrap_i64 (by omega) (by omega)]; omega)) ?_; refine op rfl (r_assignV (v := .int _ _) rfl) ?_; refine WL_nil ?_; refine ⟨?_, by repeat (first | with_reducible exact Out.refl _ _ | with_reducible exact Out.mix | refine Out.put rfl ?_ | refine Out.mixin rfl ?_ | exact Out.refl _ _ | exact Out.mix)⟩
                  have hs0 : (stepT t ds[i]).1 = 0 := by rw [hst]
                  exact ⟨ds.length - (i + 1), by omega, i + 1, (stepT t ds[i]).2, A9, cap9, rfl, by omega, rfl, by rw [hst]; rfl, by rw [hst]; exact hc9, by rw [hst]; exact hR9, by rw [hrun, hdr, run_cons0 hs0], by have := step_len t ds[i]; omega, step_path (P := fun p => p.length ≤ 1099511627776) hpt (hp2 _ (List.getElem_mem hlt)), hX'.trans hX⟩
            · refine opG_no rfl rfl rfl rfl rfl ?_; refine opG_no rfl rfl rfl rfl rfl ?_; refine op rfl (r_pickFV (v := .bool _) rfl rfl) ?_; refine WL_nil ?_; refine W_else rfl ?_; refine W_skip ?_; refine W_seq ?_; refine W_region ?_; refine op rfl (r_fieldAddr rfl Tryd.fld38_0 rfl) ?_; refine op rfl (r_load (v := .int .i64 ds[i].k) rfl Tryd.underlying3 rfl (Blk.cell B5_4 rfl)) ?_; refine op rfl (r_eql rfl rfl) ?_; refine WL_nil ?_; refine W_ifp rfl (fun ht56 => ?_) (fun ht56 => ?_)
              · refine W_region ?_; refine op rfl (r_moveV (v := .slice _ _ _) rfl) ?_; refine op rfl (r_fieldAddr rfl Tryd.fld38_1 rfl) ?_; refine op rfl (r_load (v := .string (str ds[i].p)) rfl Tryd.underlying9 rfl (Blk.cell B5_4 rfl)) ?_; have hX14 := hX'.trans hX; refine opCv rfl (r_call Tryd.func54 Tryd.nm54 rfl) (refDrop_spec ds[i].p (hGs _ hX14) (hRk _ _ _ _ hX' hX hR) (by omega)) ?_; rintro v9 w9 ⟨hO9, hE⟩; replace B5_4 := Blk.ext B5_4 hE; replace hX := hX.trans hE
                have h0 : ¬ (ds[i].k < 1 ∨ 3 < ds[i].k ∨ ¬ rightP ds[i].p) := fun q => q.elim hg25 (fun q => q.elim hg30 ht35)
                have hst : stepT t ds[i] = (0, dropT t ds[i].p) := by
                  first
                    | omega
                    | exact absurd hg43 hg50
                    | exact st3 h0 ht56 (hk8.1 (by omega))
                obtain ⟨A9, cap9, rfl, hc9, hr9⟩ := hO9.read
                have hR9 : fiT.Row w9 (fun b => G b ∨ since w w9 b) A9 (dropT t ds[i].p) := hr9.keep (fun _ _ => rfl) (fun b hb => by
                  have := hX14.size; have := hE.size
                  rcases hb with (q | q) | q
                  · exact Or.inl q
                  · have := q.1; have := q.2; exact Or.inr ⟨by omega, by omega⟩
                  · have := hO9.lt q; exact Or.inr ⟨by omega, by omega⟩)
                refine op rfl (r_assignV (v := .slice A9 (dropT t ds[i].p).length cap9) rfl) ?_; refine WL_nil ?_; refine W_region ?_; refine op rfl (r_moveV (v := .int _ _) rfl) ?_; refine op rfl (r_add' (r := ((i + 1 : Nat) : Int)) rfl rfl (by rw [wrap_i64 (by omega) (by omega)]; omega)) ?_; refine op rfl (r_assignV (v := .int _ _) rfl) ?_; refine WL_nil ?_; refine ⟨?_, by repeat (first | with_reducible exact Out.refl _ _ | with_reducible exact Out.mix | refine Out.put rfl ?_ | refine Out.mixin rfl ?_ | exact Out.refl _ _ | exact Out.mix)⟩
                have hs0 : (stepT t ds[i]).1 = 0 := by rw [hst]
                exact ⟨ds.length - (i + 1), by omega, i + 1, (stepT t ds[i]).2, A9, cap9, rfl, by omega, rfl, by rw [hst]; rfl, by rw [hst]; exact hc9, by rw [hst]; exact hR9, by rw [hrun, hdr, run_cons0 hs0], by have := step_len t ds[i]; omega, step_path (P := fun p => p.length ≤ 1099511627776) hpt (hp2 _ (List.getElem_mem hlt)), hX'.trans hX⟩
              · refine W_region ?_; refine op rfl (r_moveV (v := .slice _ _ _) rfl) ?_; refine op rfl (r_fieldAddr rfl Tryd.fld38_1 rfl) ?_; refine op rfl (r_load (v := .string (str ds[i].p)) rfl Tryd.underlying9 rfl (Blk.cell B5_4 rfl)) ?_; refine op rfl (r_fieldAddr rfl Tryd.fld38_2 rfl) ?_; refine op rfl (r_load (v := .slice Ai ds[i].b.length ci) rfl Tryd.underlying24 rfl (Blk.cell B5_4 rfl)) ?_; refine op rfl (r_build (cs := [.string _, .slice _ _ _]) Tryd.lay35 (List.forall_mem_cons.2 ⟨rfl, List.forall_mem_cons.2 ⟨rfl, fun _ h => by cases h⟩⟩) rfl rfl) ?_; have hX15 := hX'.trans hX; refine opCv rfl (r_call Tryd.func55 Tryd.nm55 rfl) (refPut_spec (f := ⟨ds[i].p, ds[i].b⟩) (hGs _ hX15) (hRk _ _ _ _ hX' hX hR) (by omega) (fiT.keep hRi (fun b hb ↦ hX15.block b (hG b hb)) (fun b hb ↦ Or.inl hb))) ?_; rintro v9 w9 ⟨⟨A9, cap9, rfl, hc9, hR9'⟩, hE⟩; replace B5_4 := Blk.ext B5_4 hE; replace hX := hX.trans hE
                have h0 : ¬ (ds[i].k < 1 ∨ 3 < ds[i].k ∨ ¬ rightP ds[i].p) := fun q => q.elim hg25 (fun q => q.elim hg30 ht35)
                have hst : stepT t ds[i] = (0, putT t ⟨ds[i].p, ds[i].b⟩) := by
                  first
                    | exact absurd hg43 hg50
                    | (refine st0 h0 ht56 ⟨fun _ => fun q => ?_, fun q => ?_⟩
                       · first | exact absurd (hk8.2 q) (by omega) | omega
                       · first | exact hg43 | exact absurd (hk8.1 (by omega)) q)
                have hR9 : fiT.Row w9 (fun b => G b ∨ since w w9 b) A9 (putT t ⟨ds[i].p, ds[i].b⟩) := hR9'.keep (fun _ _ => rfl) (fun b hb => by
                  have := hX15.size; have := hE.size
                  rcases hb with (q | q) | q
                  · exact Or.inl q
                  · have := q.1; have := q.2; exact Or.inr ⟨by omega, by omega⟩
                  · have := q.1; have := q.2; exact Or.inr ⟨by omega, by omega⟩)
                refine op rfl (r_assignV (v := .slice A9 (putT t ⟨ds[i].p, ds[i].b⟩).length cap9) rfl) ?_; refine WL_nil ?_; refine W_region ?_; refine op rfl (r_moveV (v := .int _ _) rfl) ?_; refine op rfl (r_add' (r := ((i + 1 : Nat) : Int)) rfl rfl (by rw [wrap_i64 (by omega) (by omega)]; omega)) ?_; refine op rfl (r_assignV (v := .int _ _) rfl) ?_; refine WL_nil ?_; refine ⟨?_, by repeat (first | with_reducible exact Out.refl _ _ | with_reducible exact Out.mix | refine Out.put rfl ?_ | refine Out.mixin rfl ?_ | exact Out.refl _ _ | exact Out.mix)⟩
                have hs0 : (stepT t ds[i]).1 = 0 := by rw [hst]
                exact ⟨ds.length - (i + 1), by omega, i + 1, (stepT t ds[i]).2, A9, cap9, rfl, by omega, rfl, by rw [hst]; rfl, by rw [hst]; exact hc9, by rw [hst]; exact hR9, by rw [hrun, hdr, run_cons0 hs0], by have := step_len t ds[i]; omega, step_path (P := fun p => p.length ≤ 1099511627776) hpt (hp2 _ (List.getElem_mem hlt)), hX'.trans hX⟩
  · obtain rfl : i = ds.length := by omega
    have hrun' : runT l ds = (0, t) := by rw [hrun, List.drop_length]; rfl
    have hbe := bd_end hl htl; have hat := fi_at hR; refine W_exit (blk_hit ?_); refine W_seq ?_; refine W_seq ?_; refine W_region ?_; refine op rfl (r_assignV (v := .int _ _) rfl) ?_; refine WL_nil ?_; refine W_block ?_; refine W_loop [4, 5, 10, 68, 69, 70, 71, 72, 73, 74, 75, 76, 77, 78, 79, 80, 81, 82, 83, 84, 85] (fun q e' w' => ∃ (j : Nat), q = t.length - j ∧ j ≤ t.length ∧ e' 10 = .int .i64 j ∧ (∀ m (h : m < t.length), m < j → t[m].b.length ≤ 65536 ∧ t.length ≤ 1000) ∧ Ext w0i w') (t.length) ?_ ?_
    · exact ⟨0, by omega, by omega, rfl, fun m _ h => absurd h (Nat.not_lt_zero m), hX⟩
    intro k g w' hI; obtain ⟨j, hqj, hj, h10, hall, hX''⟩ := hI; clear hX; have hX := hX''; refine W_set (i := 10) h10 ?_; refine W_seq ?_; refine W_seq ?_; refine W_region ?_; refine op rfl (r_moveV (v := .int _ _) rfl) ?_; refine op rfl (r_moveV (v := .slice _ _ _) rfl) ?_; refine op rfl (r_len_slice rfl Tryd.underlying23) ?_; refine op rfl (r_lss rfl rfl) ?_; refine WL_nil ?_; refine W_ifp rfl (fun ht71 => ?_) (fun ht71 => ?_)
    · have hltj : j < t.length := by omega
      obtain ⟨g1, o1, Bi, di, hA1, hc1⟩ := hat j hltj; refine W_skip ?_; refine W_seq ?_; refine W_block ?_; refine W_seq ?_; refine W_region ?_; refine op rfl (r_moveV (v := .slice _ _ _) rfl) ?_; refine op rfl (r_moveV (v := .int _ _) rfl) ?_; refine op rfl (r_indexAddrK (by rw [← hA1]; rfl) rfl Tryd.underlying23 Tryd.sz35 hltj) ?_; refine op rfl (r_fieldAddr rfl Tryd.fld35_1 rfl) ?_; refine op rfl (r_load (v := .slice Bi t[j].b.length di) rfl Tryd.underlying24 rfl (ext_cell hX (hc1 1 (by omega)))) ?_; refine op rfl (r_len_slice rfl Tryd.underlying24) ?_; refine op rfl (r_gtr rfl rfl) ?_; refine op_split rfl (r_moveV (v := .bool (decide _)) rfl) (fun hg81 => ?_) (fun hg81 => ?_)
      · refine opG_no rfl rfl rfl rfl rfl ?_; refine opG_no rfl rfl rfl rfl rfl ?_; refine opG_no rfl rfl rfl rfl rfl ?_; refine op rfl (r_pickTV (v := .bool _) rfl rfl) ?_; refine WL_nil ?_; refine W_then rfl ?_; refine W_seq ?_; refine W_region ?_; refine op rfl (r_assignV (v := .slice _ _ _) rfl) ?_; refine op rfl (r_assignV (v := .int _ _) rfl) ?_; refine WL_nil ?_; refine W_ret (blk_ret (blk_ret (finX_ret ?_))); refine fin2 ?_
        first
          | (have h1 : ds[i].k < 1 ∨ 3 < ds[i].k ∨ ¬ rightP ds[i].p := by first | exact Or.inl hg25 | exact Or.inr (Or.inl hg30) | exact Or.inr (Or.inr ht35)
             have hst : stepT t ds[i] = (2, []) := st2 h1; have hE9 : applyT l ds = (2, []) := apE (by rw [hrun, hdr, run_consE (by rw [hst]; decide), hst]) (by decide)
             rw [hE9]; exact ⟨_, rfl, _, rfl, hnil _, hX'.trans hX⟩)
          | exact absurd hg43 hg50
          | (have h0 : ¬ (ds[i].k < 1 ∨ 3 < ds[i].k ∨ ¬ rightP ds[i].p) := fun q => q.elim hg25 (fun q => q.elim hg30 ht35)
             first
               | (have hst : stepT t ds[i] = (5, []) := st5 h0 hg43 (hk8.1 (by omega))
                  have hE9 : applyT l ds = (5, []) := apE (by rw [hrun, hdr, run_consE (by rw [hst]; decide), hst]) (by decide)
                  rw [hE9]; exact ⟨_, rfl, _, rfl, hnil _, hX'.trans hX⟩)
               | (have hst : stepT t ds[i] = (6, []) := st6 h0 hg50 (fun q => by have := hk8.2 q; omega)
                  have hE9 : applyT l ds = (6, []) := apE (by rw [hrun, hdr, run_consE (by rw [hst]; decide), hst]) (by decide)
                  rw [hE9]; exact ⟨_, rfl, _, rfl, hnil _, hX'.trans hX⟩))
          | (have h3 : 1000 < t.length ∨ (∃ x ∈ t, 65536 < x.b.length) := by first | exact Or.inl (by omega) | exact Or.inr ⟨t[j], List.getElem_mem hltj, by omega⟩
             rw [ap3 hrun' h3]; exact ⟨_, rfl, _, rfl, hnil _, hX'.trans hX⟩)
          | (have hjt : j = t.length := by omega
             have h3 : ¬ (1000 < t.length ∨ (∃ x ∈ t, 65536 < x.b.length)) := by
               rintro (q | ⟨x, hx, q⟩)
               · have := (hall 0 (by omega) (by omega)).2; omega
               · obtain ⟨m, hm, rfl⟩ := List.mem_iff_getElem.1 hx
                 have := (hall m hm (by omega)).1; omega
             first
               | (rw [ap4 hrun' h3 ht88]; exact ⟨_, rfl, _, rfl, hnil _, hX'.trans hX⟩)
               | (rw [ap0 hrun' h3 (Classical.not_not.1 ht88)]; exact ⟨_, rfl, _, rfl, ⟨A1, cap1, rfl, hcp, hRk _ _ _ _ hX' hX hR⟩, hX'.trans hX⟩))
      · refine opG_yes rfl rfl rfl rfl rfl (r_moveV (v := .slice _ _ _) rfl) ?_; refine opG_yes rfl rfl rfl rfl rfl (r_len_slice rfl Tryd.underlying23) ?_; refine opG_yes rfl rfl rfl rfl rfl (r_gtr rfl rfl) ?_; refine op rfl (r_pickFV (v := .bool _) rfl rfl) ?_; refine WL_nil ?_; refine W_ifp rfl (fun ht85 => ?_) (fun ht85 => ?_)
        · refine W_seq ?_; refine W_region ?_; refine op rfl (r_assignV (v := .slice _ _ _) rfl) ?_; refine op rfl (r_assignV (v := .int _ _) rfl) ?_; refine WL_nil ?_; refine W_ret (blk_ret (blk_ret (finX_ret ?_))); refine fin2 ?_
          first
            | (have h1 : ds[i].k < 1 ∨ 3 < ds[i].k ∨ ¬ rightP ds[i].p := by first | exact Or.inl hg25 | exact Or.inr (Or.inl hg30) | exact Or.inr (Or.inr ht35)
               have hst : stepT t ds[i] = (2, []) := st2 h1; have hE9 : applyT l ds = (2, []) := apE (by rw [hrun, hdr, run_consE (by rw [hst]; decide), hst]) (by decide)
               rw [hE9]; exact ⟨_, rfl, _, rfl, hnil _, hX'.trans hX⟩)
            | exact absurd hg43 hg50
            | (have h0 : ¬ (ds[i].k < 1 ∨ 3 < ds[i].k ∨ ¬ rightP ds[i].p) := fun q => q.elim hg25 (fun q => q.elim hg30 ht35)
               first
                 | (have hst : stepT t ds[i] = (5, []) := st5 h0 hg43 (hk8.1 (by omega))
                    have hE9 : applyT l ds = (5, []) := apE (by rw [hrun, hdr, run_consE (by rw [hst]; decide), hst]) (by decide)
                    rw [hE9]; exact ⟨_, rfl, _, rfl, hnil _, hX'.trans hX⟩)
                 | (have hst : stepT t ds[i] = (6, []) := st6 h0 hg50 (fun q => by have := hk8.2 q; omega)
                    have hE9 : applyT l ds = (6, []) := apE (by rw [hrun, hdr, run_consE (by rw [hst]; decide), hst]) (by decide)
                    rw [hE9]; exact ⟨_, rfl, _, rfl, hnil _, hX'.trans hX⟩))
            | (have h3 : 1000 < t.length ∨ (∃ x ∈ t, 65536 < x.b.length) := by first | exact Or.inl (by omega) | exact Or.inr ⟨t[j], List.getElem_mem hltj, by omega⟩
               rw [ap3 hrun' h3]; exact ⟨_, rfl, _, rfl, hnil _, hX'.trans hX⟩)
            | (have hjt : j = t.length := by omega
               have h3 : ¬ (1000 < t.length ∨ (∃ x ∈ t, 65536 < x.b.length)) := by
                 rintro (q | ⟨x, hx, q⟩)
                 · have := (hall 0 (by omega) (by omega)).2; omega
                 · obtain ⟨m, hm, rfl⟩ := List.mem_iff_getElem.1 hx
                   have := (hall m hm (by omega)).1; omega
               first
                 | (rw [ap4 hrun' h3 ht88]; exact ⟨_, rfl, _, rfl, hnil _, hX'.trans hX⟩)
                 | (rw [ap0 hrun' h3 (Classical.not_not.1 ht88)]; exact ⟨_, rfl, _, rfl, ⟨A1, cap1, rfl, hcp, hRk _ _ _ _ hX' hX hR⟩, hX'.trans hX⟩))
        · refine W_skip ?_; refine W_region ?_; refine op rfl (r_moveV (v := .int _ _) rfl) ?_; refine op rfl (r_add' (r := ((j + 1 : Nat) : Int)) rfl rfl (by rw [wrap_i64 (by omega) (by omega)]; omega)) ?_; refine op rfl (r_assignV (v := .int _ _) rfl) ?_; refine WL_nil ?_; refine ⟨?_, by repeat (first | with_reducible exact Out.refl _ _ | with_reducible exact Out.mix | refine Out.put rfl ?_ | refine Out.mixin rfl ?_ | exact Out.refl _ _ | exact Out.mix)⟩; refine ⟨t.length - (j + 1), by omega, j + 1, rfl, by omega, rfl, fun m h hm => ?_, hX⟩
          by_cases hmj : m = j
          · subst hmj; exact ⟨by omega, by omega⟩
          · exact hall m h (by omega)
    · refine W_exit (blk_hit ?_); refine W_seq ?_; refine W_seq ?_; refine W_region ?_; refine op rfl (r_moveV (v := .slice _ _ _) rfl) ?_; refine opCv rfl (r_call Tryd.func11 Tryd.nm11 rfl) (refTreeRight_spec (hRk _ _ _ _ hX' hX hR) hbe.1 hpt) ?_; rintro v21 w21 ⟨rfl, hE⟩; replace hX := hX.trans hE; refine op rfl (r_notP rfl) ?_; refine WL_nil ?_; refine W_ifp rfl (fun ht88 => ?_) (fun ht88 => ?_)
      · refine W_seq ?_; refine W_region ?_; refine op rfl (r_assignV (v := .slice _ _ _) rfl) ?_; refine op rfl (r_assignV (v := .int _ _) rfl) ?_; refine WL_nil ?_; refine W_ret (finX_ret ?_); refine fin2 ?_
        first
          | (have h1 : ds[i].k < 1 ∨ 3 < ds[i].k ∨ ¬ rightP ds[i].p := by first | exact Or.inl hg25 | exact Or.inr (Or.inl hg30) | exact Or.inr (Or.inr ht35)
             have hst : stepT t ds[i] = (2, []) := st2 h1; have hE9 : applyT l ds = (2, []) := apE (by rw [hrun, hdr, run_consE (by rw [hst]; decide), hst]) (by decide)
             rw [hE9]; exact ⟨_, rfl, _, rfl, hnil _, hX'.trans hX⟩)
          | exact absurd hg43 hg50
          | (have h0 : ¬ (ds[i].k < 1 ∨ 3 < ds[i].k ∨ ¬ rightP ds[i].p) := fun q => q.elim hg25 (fun q => q.elim hg30 ht35)
             first
               | (have hst : stepT t ds[i] = (5, []) := st5 h0 hg43 (hk8.1 (by omega))
                  have hE9 : applyT l ds = (5, []) := apE (by rw [hrun, hdr, run_consE (by rw [hst]; decide), hst]) (by decide)
                  rw [hE9]; exact ⟨_, rfl, _, rfl, hnil _, hX'.trans hX⟩)
               | (have hst : stepT t ds[i] = (6, []) := st6 h0 hg50 (fun q => by have := hk8.2 q; omega)
                  have hE9 : applyT l ds = (6, []) := apE (by rw [hrun, hdr, run_consE (by rw [hst]; decide), hst]) (by decide)
                  rw [hE9]; exact ⟨_, rfl, _, rfl, hnil _, hX'.trans hX⟩))
          | (have h3 : 1000 < t.length ∨ (∃ x ∈ t, 65536 < x.b.length) := by first | exact Or.inl (by omega) | exact Or.inr ⟨t[j], List.getElem_mem hltj, by omega⟩
             rw [ap3 hrun' h3]; exact ⟨_, rfl, _, rfl, hnil _, hX'.trans hX⟩)
          | (have hjt : j = t.length := by omega
             have h3 : ¬ (1000 < t.length ∨ (∃ x ∈ t, 65536 < x.b.length)) := by
               rintro (q | ⟨x, hx, q⟩)
               · have := (hall 0 (by omega) (by omega)).2; omega
               · obtain ⟨m, hm, rfl⟩ := List.mem_iff_getElem.1 hx
                 have := (hall m hm (by omega)).1; omega
             first
               | (rw [ap4 hrun' h3 ht88]; exact ⟨_, rfl, _, rfl, hnil _, hX'.trans hX⟩)
               | (rw [ap0 hrun' h3 (Classical.not_not.1 ht88)]; exact ⟨_, rfl, _, rfl, ⟨A1, cap1, rfl, hcp, hRk _ _ _ _ hX' hX hR⟩, hX'.trans hX⟩))
      · refine W_skip ?_; refine W_seq ?_; refine W_region ?_; refine op rfl (r_moveV (v := .slice _ _ _) rfl) ?_; refine op rfl (r_assignV (v := .slice _ _ _) rfl) ?_; refine op rfl (r_assignV (v := .int _ _) rfl) ?_; refine WL_nil ?_; refine W_ret (finX_ret ?_); refine fin2 ?_
        first
          | (have h1 : ds[i].k < 1 ∨ 3 < ds[i].k ∨ ¬ rightP ds[i].p := by first | exact Or.inl hg25 | exact Or.inr (Or.inl hg30) | exact Or.inr (Or.inr ht35)
             have hst : stepT t ds[i] = (2, []) := st2 h1; have hE9 : applyT l ds = (2, []) := apE (by rw [hrun, hdr, run_consE (by rw [hst]; decide), hst]) (by decide)
             rw [hE9]; exact ⟨_, rfl, _, rfl, hnil _, hX'.trans hX⟩)
          | exact absurd hg43 hg50
          | (have h0 : ¬ (ds[i].k < 1 ∨ 3 < ds[i].k ∨ ¬ rightP ds[i].p) := fun q => q.elim hg25 (fun q => q.elim hg30 ht35)
             first
               | (have hst : stepT t ds[i] = (5, []) := st5 h0 hg43 (hk8.1 (by omega))
                  have hE9 : applyT l ds = (5, []) := apE (by rw [hrun, hdr, run_consE (by rw [hst]; decide), hst]) (by decide)
                  rw [hE9]; exact ⟨_, rfl, _, rfl, hnil _, hX'.trans hX⟩)
               | (have hst : stepT t ds[i] = (6, []) := st6 h0 hg50 (fun q => by have := hk8.2 q; omega)
                  have hE9 : applyT l ds = (6, []) := apE (by rw [hrun, hdr, run_consE (by rw [hst]; decide), hst]) (by decide)
                  rw [hE9]; exact ⟨_, rfl, _, rfl, hnil _, hX'.trans hX⟩))
          | (have h3 : 1000 < t.length ∨ (∃ x ∈ t, 65536 < x.b.length) := by first | exact Or.inl (by omega) | exact Or.inr ⟨t[j], List.getElem_mem hltj, by omega⟩
             rw [ap3 hrun' h3]; exact ⟨_, rfl, _, rfl, hnil _, hX'.trans hX⟩)
          | (have hjt : j = t.length := by omega
             have h3 : ¬ (1000 < t.length ∨ (∃ x ∈ t, 65536 < x.b.length)) := by
               rintro (q | ⟨x, hx, q⟩)
               · have := (hall 0 (by omega) (by omega)).2; omega
               · obtain ⟨m, hm, rfl⟩ := List.mem_iff_getElem.1 hx
                 have := (hall m hm (by omega)).1; omega
             first
               | (rw [ap4 hrun' h3 ht88]; exact ⟨_, rfl, _, rfl, hnil _, hX'.trans hX⟩)
               | (rw [ap0 hrun' h3 (Classical.not_not.1 ht88)]; exact ⟨_, rfl, _, rfl, ⟨A1, cap1, rfl, hcp, hRk _ _ _ _ hX' hX hR⟩, hX'.trans hX⟩))
end Go.Proofs.YtmedmajdoecjfaaDoor
