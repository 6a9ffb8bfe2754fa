/-
  What laws of queues ask of bytes and numbers.
-/
import Derived.Test.YtmedmajdoecjfaaDoorFacts
import Derived.Test.YtmedmajdoecjfaaDoorQueG
namespace Go.Proofs.YtmedmajdoecjfaaDoor
open Go Go.Eng Go.RowKit Go.Proofs
set_option linter.unusedVariables false
set_option linter.unusedSimpArgs false
set_option maxHeartbeats 1000000
set_option maxRecDepth 20000

theorem sameI_spec {A1 : Option Addr} {c1 : Nat} {a : List Int} {A2 : Option Addr} {c2 : Nat} {b : List Int} {w : World} (hA : (Ty.int .i64).Row w (old w) A1 a) (hB : (Ty.int .i64).Row w (old w) A2 b) (hl : a.length ≤ 140737488355328) :
    Calls Tryd.prog 31 #[.slice A1 a.length c1, .slice A2 b.length c2] w (fun en w' => ∃ v, en = .returned v ∧ v = .bool (decide (a = b)) ∧ Ext w w') := by
  refine calls' (n := 26) (rs := #[.tmp 4]) (l := [.slice A1 a.length c1, .slice A2 b.length c2]) Tryd.func31 rfl rfl rfl rfl rfl ?_; have hX := Ext.refl w; refine W_seq ?_; refine W_region ?_; refine op rfl (r_assignV (v := .bool _) rfl) ?_; refine WL_nil ?_; refine W_seq ?_; refine W_seq ?_; refine W_region ?_; refine op rfl (r_moveV (v := .slice _ _ _) rfl) ?_; refine op rfl (r_len_slice rfl Tryd.underlying49) ?_; refine op rfl (r_moveV (v := .slice _ _ _) rfl) ?_; refine op rfl (r_len_slice rfl Tryd.underlying49) ?_; refine op rfl (r_neq rfl rfl) ?_; refine WL_nil ?_; refine W_ifp rfl (fun ht10 => ?_) (fun ht10 => ?_)
  · refine W_seq ?_; refine W_region ?_; refine op rfl (r_assignV (v := .bool _) rfl) ?_; refine WL_nil ?_; refine W_ret (finX_ret ?_); refine fin1 ?_
    first
      | exact ⟨_, rfl, bool_ff (fun h => by subst h; omega), hX⟩
      | exact ⟨_, rfl, bool_tt (List.ext_getElem hab (fun j h h' => hall j h h' (by omega))), hX⟩
      | exact ⟨_, rfl, bool_ff (fun h => by subst h; exact ht25 rfl), hX⟩
  · have hab : a.length = b.length := by omega
    refine W_skip ?_; refine W_seq ?_; refine W_seq ?_; refine W_region ?_; refine op rfl (r_assignV (v := .int _ _) rfl) ?_; refine WL_nil ?_; refine W_block ?_; refine W_loop [4, 5, 11, 12, 13, 14, 15, 16, 17, 18, 19, 20, 21, 22, 23, 24, 25] (fun q e' w' => ∃ (i : Nat), q = a.length - i ∧ i ≤ a.length ∧ e' 5 = .int .i64 i ∧ (∀ j (h : j < a.length) (h' : j < b.length), j < i → a[j] = b[j]) ∧ Ext w w') (a.length) ?_ ?_
    · exact ⟨0, by omega, by omega, rfl, fun j _ _ h => absurd h (Nat.not_lt_zero j), hX⟩
    intro k g w' hI; obtain ⟨i, hq, hi, h5, hall, hX'⟩ := hI; clear hX; have hX := hX'; refine W_set (i := 5) h5 ?_; refine W_seq ?_; refine W_seq ?_; refine W_region ?_; refine op rfl (r_moveV (v := .int _ _) rfl) ?_; refine op rfl (r_moveV (v := .slice _ _ _) rfl) ?_; refine op rfl (r_len_slice rfl Tryd.underlying49) ?_; refine op rfl (r_lss rfl rfl) ?_; refine WL_nil ?_; refine W_ifp rfl (fun ht14 => ?_) (fun ht14 => ?_)
    · have hlt : i < a.length := by omega
      have hlt2 : i < b.length := by omega
      obtain ⟨g1, o1, hA1, _, _, hc1⟩ := Ty.Row.cell hA hlt; obtain ⟨g2, o2, hA2, _, _, hc2⟩ := Ty.Row.cell hB hlt2; refine W_skip ?_; refine W_seq ?_; refine W_block ?_; refine W_seq ?_; refine W_drawA Tryd.wd rfl ?_; intro wd6 hD; have hS : anyW wd6 := trivial; replace hX := hX.trans hD; refine A_take (i := 0) rfl (by kernel_rfl) (by kernel_rfl) (by kernel_rfl) rfl hS (fun _ hw => r_moveV (v := .slice _ _ _) rfl) ?_; refine A_take (i := 1) rfl (by kernel_rfl) (by kernel_rfl) (by kernel_rfl) rfl hS (fun _ hw => r_moveV (v := .int _ _) rfl) ?_; refine A_take (i := 2) rfl (by kernel_rfl) (by kernel_rfl) (by kernel_rfl) rfl hS (fun _ hw => r_indexAddr1 rfl rfl hA1 Tryd.underlying49 Tryd.sz3 (by omega) (by omega)) ?_; refine A_take (i := 4) rfl (by kernel_rfl) (by kernel_rfl) (by kernel_rfl) rfl hS (fun _ hw => r_moveV (v := .slice _ _ _) rfl) ?_; refine A_take (i := 5) rfl (by kernel_rfl) (by kernel_rfl) (by kernel_rfl) rfl hS (fun _ hw => r_moveV (v := .int _ _) rfl) ?_; refine A_take (i := 6) rfl (by kernel_rfl) (by kernel_rfl) (by kernel_rfl) rfl hS (fun _ hw => r_indexAddr1 rfl rfl hA2 Tryd.underlying49 Tryd.sz3 (by omega) (by omega)) ?_; refine A_ready2 (i := 3) (j := 7) (by kernel_rfl) ?_ ?_
      · refine O_val rfl rfl (r_load (v := .int .i64 a[i]) rfl Tryd.underlying3 rfl (ext_cell hX hc1)) (hS) ?_; refine A_ready1 (i := 7) (by kernel_rfl) ?_; refine O_val rfl rfl (r_load (v := .int .i64 b[i]) rfl Tryd.underlying3 rfl (ext_cell hX hc2)) (hS) ?_; refine A_take (i := 8) rfl (by kernel_rfl) (by kernel_rfl) (by kernel_rfl) rfl hS (fun _ hw => r_neq rfl rfl) ?_; refine A_done (by kernel_rfl) ?_; refine W_ifp rfl (fun ht25 => ?_) (fun ht25 => ?_)
        · refine W_seq ?_; refine W_region ?_; refine op rfl (r_assignV (v := .bool _) rfl) ?_; refine WL_nil ?_; refine W_ret (blk_ret (blk_ret (finX_ret ?_))); refine fin1 ?_
          first
            | exact ⟨_, rfl, bool_ff (fun h => by subst h; omega), hX⟩
            | exact ⟨_, rfl, bool_tt (List.ext_getElem hab (fun j h h' => hall j h h' (by omega))), hX⟩
            | exact ⟨_, rfl, bool_ff (fun h => by subst h; exact ht25 rfl), hX⟩
        · refine W_skip ?_; refine W_region ?_; refine op rfl (r_moveV (v := .int _ _) rfl) ?_; refine op rfl (r_add' (r := ((i + 1 : Nat) : Int)) rfl rfl (by rw [wrap_i64 (by omega) (by omega)]; omega)) ?_; refine op rfl (r_assignV (v := .int _ _) rfl) ?_; refine WL_nil ?_; refine ⟨?_, by repeat (first | with_reducible exact Out.refl _ _ | with_reducible exact Out.mix | refine Out.put rfl ?_ | refine Out.mixin rfl ?_ | exact Out.refl _ _ | exact Out.mix)⟩; refine ⟨a.length - (i + 1), by omega, i + 1, rfl, by omega, rfl, fun j h h' hj => ?_, hX⟩
          by_cases hji : j = i
          · subst hji; exact Classical.not_not.1 ht25
          · exact hall j h h' (by omega)
      · refine O_val rfl rfl (r_load (v := .int .i64 b[i]) rfl Tryd.underlying3 rfl (ext_cell hX hc2)) (hS) ?_; refine A_ready1 (i := 3) (by kernel_rfl) ?_; refine O_val rfl rfl (r_load (v := .int .i64 a[i]) rfl Tryd.underlying3 rfl (ext_cell hX hc1)) (hS) ?_; refine A_take (i := 8) rfl (by kernel_rfl) (by kernel_rfl) (by kernel_rfl) rfl hS (fun _ hw => r_neq rfl rfl) ?_; refine A_done (by kernel_rfl) ?_; refine W_ifp rfl (fun ht25 => ?_) (fun ht25 => ?_)
        · refine W_seq ?_; refine W_region ?_; refine op rfl (r_assignV (v := .bool _) rfl) ?_; refine WL_nil ?_; refine W_ret (blk_ret (blk_ret (finX_ret ?_))); refine fin1 ?_
          first
            | exact ⟨_, rfl, bool_ff (fun h => by subst h; omega), hX⟩
            | exact ⟨_, rfl, bool_tt (List.ext_getElem hab (fun j h h' => hall j h h' (by omega))), hX⟩
            | exact ⟨_, rfl, bool_ff (fun h => by subst h; exact ht25 rfl), hX⟩
        · refine W_skip ?_; refine W_region ?_; refine op rfl (r_moveV (v := .int _ _) rfl) ?_; refine op rfl (r_add' (r := ((i + 1 : Nat) : Int)) rfl rfl (by rw [wrap_i64 (by omega) (by omega)]; omega)) ?_; refine op rfl (r_assignV (v := .int _ _) rfl) ?_; refine WL_nil ?_; refine ⟨?_, by repeat (first | with_reducible exact Out.refl _ _ | with_reducible exact Out.mix | refine Out.put rfl ?_ | refine Out.mixin rfl ?_ | exact Out.refl _ _ | exact Out.mix)⟩; refine ⟨a.length - (i + 1), by omega, i + 1, rfl, by omega, rfl, fun j h h' hj => ?_, hX⟩
          by_cases hji : j = i
          · subst hji; exact Classical.not_not.1 ht25
          · exact hall j h h' (by omega)
    · refine W_exit (blk_hit ?_); refine W_seq ?_; refine W_region ?_; refine op rfl (r_assignV (v := .bool _) rfl) ?_; refine WL_nil ?_; refine W_ret (finX_ret ?_); refine fin1 ?_
      first
        | exact ⟨_, rfl, bool_ff (fun h => by subst h; omega), hX⟩
        | exact ⟨_, rfl, bool_tt (List.ext_getElem hab (fun j h h' => hall j h h' (by omega))), hX⟩
        | exact ⟨_, rfl, bool_ff (fun h => by subst h; exact ht25 rfl), hX⟩
end Go.Proofs.YtmedmajdoecjfaaDoor
