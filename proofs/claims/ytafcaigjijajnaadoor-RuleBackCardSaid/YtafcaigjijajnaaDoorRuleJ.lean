/-
  The walks of the reference: the same rules, how long they are.
-/
import Derived.Test.YtafcaigjijajnaaDoorFacts
import Derived.Test.YtafcaigjijajnaaDoorRuleI
namespace Go.Proofs.YtafcaigjijajnaaDoor
open Go Go.Eng Go.RowKit Go.Proofs
set_option linter.unusedVariables false
set_option linter.unusedSimpArgs false
set_option maxHeartbeats 1000000
set_option maxRecDepth 20000

theorem vals_inj {a b : Ru} : a = b ↔ a.vals = b.vals := by
  constructor
  · intro h; rw [h]
  · intro h
    obtain ⟨ak, ag, ao, an⟩ := a
    obtain ⟨bk, bg, bo, bn⟩ := b
    simp only [Ru.vals, List.cons.injEq, Value.int.injEq, Value.string.injEq, and_true, true_and] at h
    obtain ⟨h1, h2, h3, h4⟩ := h
    rw [h1, str_inj h2, str_inj h3, str_inj h4]
theorem ru_fit (r : Ru) : Fit [.int .i64, .str, .str, .str] r.vals := ⟨⟨_, rfl⟩, ⟨_, rfl⟩, ⟨_, rfl⟩, ⟨_, rfl⟩, trivial⟩
theorem sameRu_spec {A1 : Option Addr} {c1 : Nat} {a : List Ru} {A2 : Option Addr} {c2 : Nat} {b : List Ru} {w : World} (h1 : ruT.Row w (old w) A1 a) (h2 : ruT.Row w (old w) A2 b) (hl : a.length ≤ 140737488355328) :
    Calls Tryd.prog 16 #[.slice A1 a.length c1, .slice A2 b.length c2] w (fun en w' => ∃ v, en = .returned v ∧ v = .bool (decide (a = b)) ∧ Ext w w') := by
  have ha := ru_at h1
  have hb := ru_at h2
  refine calls' (n := 26) (rs := #[.tmp 4]) (l := [.slice A1 a.length c1, .slice A2 b.length c2]) Tryd.func16 rfl rfl rfl rfl rfl ?_
  have hX := Ext.refl w
  refine W_seq ?_
  refine W_region ?_
  refine op rfl (r_assignV (v := .bool _) rfl) ?_
  refine WL_nil ?_
  refine W_seq ?_
  refine W_seq ?_
  refine W_region ?_
  refine op rfl (r_moveV (v := .slice _ _ _) rfl) ?_
  refine op rfl (r_len_slice rfl Tryd.underlying23) ?_
  refine op rfl (r_moveV (v := .slice _ _ _) rfl) ?_
  refine op rfl (r_len_slice rfl Tryd.underlying23) ?_
  refine op rfl (r_neq rfl rfl) ?_
  refine WL_nil ?_
  refine W_ifp rfl (fun ht10 => ?_) (fun ht10 => ?_)
  · refine W_seq ?_
    refine W_region ?_
    refine op rfl (r_assignV (v := .bool _) rfl) ?_
    refine WL_nil ?_
    refine W_ret (finX_ret ?_)
    refine fin1 ?_
    first
      | exact ⟨_, rfl, bool_ff (fun h => by subst h; omega), hX⟩
      | exact ⟨_, rfl, bool_tt (List.ext_getElem hab (fun j h h' => hall j h h' (by omega))), hX⟩
      | exact ⟨_, rfl, bool_ff (fun h => by subst h; exact ht25 rfl), hX⟩
  · have hab : a.length = b.length := by omega
    refine W_skip ?_
    refine W_seq ?_
    refine W_seq ?_
    refine W_region ?_
    refine op rfl (r_assignV (v := .int _ _) rfl) ?_
    refine WL_nil ?_
    refine W_block ?_
    refine W_loop [4, 5, 11, 12, 13, 14, 15, 16, 17, 18, 19, 20, 21, 22, 23, 24, 25] (fun q e' w' => ∃ (i : Nat), q = a.length - i ∧ i ≤ a.length ∧ e' 5 = .int .i64 i ∧ (∀ j (h : j < a.length) (h' : j < b.length), j < i → a[j] = b[j]) ∧ Ext w w') (a.length) ?_ ?_
    · exact ⟨0, by omega, by omega, rfl, fun j _ _ h => absurd h (Nat.not_lt_zero j), hX⟩
    intro k g w' hI
    obtain ⟨i, hq, hi, h5, hall, hX'⟩ := hI
    clear hX
    have hX := hX'
    refine W_set (i := 5) h5 ?_
    refine W_seq ?_
    refine W_seq ?_
    refine W_region ?_
    refine op rfl (r_moveV (v := .int _ _) rfl) ?_
    refine op rfl (r_moveV (v := .slice _ _ _) rfl) ?_
    refine op rfl (r_len_slice rfl Tryd.underlying23) ?_
    refine op rfl (r_lss rfl rfl) ?_
    refine WL_nil ?_
    refine W_ifp rfl (fun ht14 => ?_) (fun ht14 => ?_)
    · have hlt : i < a.length := by omega
      have hlt2 : i < b.length := by omega
      obtain ⟨g1, o1, hA1, _, _, _, _, _, hc1⟩ := ha i hlt
      obtain ⟨g2, o2, hA2, _, _, _, _, _, hc2⟩ := hb i hlt2
      refine W_skip ?_
      refine W_seq ?_
      refine W_block ?_
      refine W_seq ?_
      refine W_drawF (W0 := w) (fun b : Nat => False) Tryd.wd rfl ?_
      intro wd6 hD
      replace hX := hX.trans hD
      have hS : Ext w wd6 ∧ Same (fun b : Nat => False) wd6 wd6 := ⟨hX, fun _ _ => rfl⟩
      refine A_take (i := 0) rfl (by kernel_rfl) (by kernel_rfl) (by kernel_rfl) rfl hS (fun _ hw => r_moveV (v := .slice _ _ _) rfl) ?_
      refine A_take (i := 1) rfl (by kernel_rfl) (by kernel_rfl) (by kernel_rfl) rfl hS (fun _ hw => r_moveV (v := .int _ _) rfl) ?_
      refine A_take (i := 2) rfl (by kernel_rfl) (by kernel_rfl) (by kernel_rfl) rfl hS (fun _ hw => r_indexAddrK (by rw [← hA1]; rfl) rfl Tryd.underlying23 Tryd.sz35 hlt) ?_
      refine A_take (i := 3) rfl (by kernel_rfl) (by kernel_rfl) (by kernel_rfl) rfl hS (fun _ hw => r_load_agg (cs := a[i].vals) rfl Tryd.underlying35 rfl Tryd.sz35 rfl (ext_row hw.1 rfl hc1)) ?_
      refine A_take (i := 4) rfl (by kernel_rfl) (by kernel_rfl) (by kernel_rfl) rfl hS (fun _ hw => r_moveV (v := .slice _ _ _) rfl) ?_
      refine A_take (i := 5) rfl (by kernel_rfl) (by kernel_rfl) (by kernel_rfl) rfl hS (fun _ hw => r_moveV (v := .int _ _) rfl) ?_
      refine A_take (i := 6) rfl (by kernel_rfl) (by kernel_rfl) (by kernel_rfl) rfl hS (fun _ hw => r_indexAddrK (by rw [← hA2]; rfl) rfl Tryd.underlying23 Tryd.sz35 hlt2) ?_
      refine A_take (i := 7) rfl (by kernel_rfl) (by kernel_rfl) (by kernel_rfl) rfl hS (fun _ hw => r_load_agg (cs := b[i].vals) rfl Tryd.underlying35 rfl Tryd.sz35 rfl (ext_row hw.1 rfl hc2)) ?_
      refine A_take (i := 8) rfl (by kernel_rfl) (by kernel_rfl) (by kernel_rfl) rfl hS (fun _ hw => rq_neq (p := a[i] = b[i]) (dp := inferInstance) Tryd.eqs35 rfl rfl (xs := a[i].vals) (ys := b[i].vals) (ru_fit _) (ru_fit _) vals_inj) ?_
      refine A_done (by kernel_rfl) ?_
      refine W_ifp rfl (fun ht25 => ?_) (fun ht25 => ?_)
      · refine W_seq ?_
        refine W_region ?_
        refine op rfl (r_assignV (v := .bool _) rfl) ?_
        refine WL_nil ?_
        refine W_ret (blk_ret (blk_ret (finX_ret ?_)))
        refine fin1 ?_
        first
          | exact ⟨_, rfl, bool_ff (fun h => by subst h; omega), hX⟩
          | exact ⟨_, rfl, bool_tt (List.ext_getElem hab (fun j h h' => hall j h h' (by omega))), hX⟩
          | exact ⟨_, rfl, bool_ff (fun h => by subst h; exact ht25 rfl), hX⟩
      · refine W_skip ?_
        refine W_region ?_
        refine op rfl (r_moveV (v := .int _ _) rfl) ?_
        refine op rfl (r_add' (r := ((i + 1 : Nat) : Int)) rfl rfl (by rw [wrap_i64 (by omega) (by omega)]; omega)) ?_
        refine op rfl (r_assignV (v := .int _ _) rfl) ?_
        refine WL_nil ?_
        refine ⟨?_, by repeat (first | with_reducible exact Out.refl _ _ | with_reducible exact Out.mix | refine Out.put rfl ?_ | refine Out.mixin rfl ?_ | exact Out.refl _ _ | exact Out.mix)⟩
        refine ⟨a.length - (i + 1), by omega, i + 1, rfl, by omega, rfl, fun j h h' hj => ?_, hX⟩
        by_cases hji : j = i
        · subst hji; exact Classical.not_not.1 ht25
        · exact hall j h h' (by omega)
    · refine W_exit (blk_hit ?_)
      refine W_seq ?_
      refine W_region ?_
      refine op rfl (r_assignV (v := .bool _) rfl) ?_
      refine WL_nil ?_
      refine W_ret (finX_ret ?_)
      refine fin1 ?_
      first
        | exact ⟨_, rfl, bool_ff (fun h => by subst h; omega), hX⟩
        | exact ⟨_, rfl, bool_tt (List.ext_getElem hab (fun j h h' => hall j h h' (by omega))), hX⟩
        | exact ⟨_, rfl, bool_ff (fun h => by subst h; exact ht25 rfl), hX⟩
/-- How long rules are. -/
def lenRu (r : Ru) : Nat := 1 + r.g.length + r.o.length + r.n.length
theorem longRu_spec {A : Option Addr} {c : Nat} {l : List Ru} {w : World} {G : Nat → Prop} (hrow : ruT.Row w G A l) (hl : l.length ≤ 1000) :
    Calls Tryd.prog 21 #[.slice A l.length c] w (fun en w' => ∃ v, en = .returned v ∧ v = .int .i64 ((l.map lenRu).sum : Nat) ∧ Ext w w') := by
  have hat := ru_at hrow
  refine calls' (n := 35) (rs := #[.tmp 2]) (l := [.slice A l.length c]) Tryd.func21 rfl rfl rfl rfl rfl ?_
  have hX := Ext.refl w
  refine W_seq ?_
  refine W_region ?_
  refine op rfl (r_assignV (v := .int _ _) rfl) ?_
  refine WL_nil ?_
  refine W_seq ?_
  refine W_region ?_
  refine op rfl (r_assignV (v := .int _ _) rfl) ?_
  refine WL_nil ?_
  refine W_seq ?_
  refine W_seq ?_
  refine W_region ?_
  refine op rfl (r_assignV (v := .int _ _) rfl) ?_
  refine WL_nil ?_
  refine W_block ?_
  refine W_loop [3, 4, 5, 6, 7, 8, 9, 10, 11, 12, 13, 14, 15, 16, 17, 18, 19, 20, 21, 22, 23, 24, 25, 26, 27, 28, 29, 30, 31, 32, 33] (fun q e' w' => ∃ (i : Nat) (m : Nat), q = l.length - i ∧ i ≤ l.length ∧ e' 4 = .int .i64 i ∧ e' 3 = .int .i64 (m : Nat) ∧ m = ((l.take i).map lenRu).sum ∧ m ≤ i * 500000000000000 ∧ Ext w w') (l.length) ?_ ?_
  · exact ⟨0, 0, by omega, by omega, rfl, rfl, rfl, by omega, hX⟩
  intro k g w' hI
  obtain ⟨i, m, hq, hi, h4, h3, hm, hmb, hX'⟩ := hI
  clear hX
  have hX := hX'
  refine W_set (i := 4) h4 ?_
  refine W_set (i := 3) h3 ?_
  refine W_seq ?_
  refine W_seq ?_
  refine W_region ?_
  refine op rfl (r_moveV (v := .int _ _) rfl) ?_
  refine op rfl (r_moveV (v := .slice _ _ _) rfl) ?_
  refine op rfl (r_len_slice rfl Tryd.underlying23) ?_
  refine op rfl (r_lss rfl rfl) ?_
  refine WL_nil ?_
  refine W_ifp rfl (fun ht8 => ?_) (fun ht8 => ?_)
  · have hlt : i < l.length := by omega
    obtain ⟨g1, o1, hA, _, _, hg, ho, hn, hc⟩ := hat i hlt
    refine W_skip ?_
    refine W_seq ?_
    refine W_block ?_
    refine W_drawF (W0 := w) (fun b : Nat => False) Tryd.wd rfl ?_
    intro wd5 hD
    replace hX := hX.trans hD
    have hS : Ext w wd5 ∧ Same (fun b : Nat => False) wd5 wd5 := ⟨hX, fun _ _ => rfl⟩
    refine A_take (i := 0) rfl (by kernel_rfl) (by kernel_rfl) (by kernel_rfl) rfl hS (fun _ hw => r_moveV (v := .int _ _) rfl) ?_
    refine A_take (i := 1) rfl (by kernel_rfl) (by kernel_rfl) (by kernel_rfl) rfl hS (fun _ hw => r_add' (m := (m : Int)) (n := 1) (r := ((m + 1 : Nat) : Int)) rfl rfl (by rw [wrap_i64 (by omega) (by omega)]; omega)) ?_
    refine A_take (i := 2) rfl (by kernel_rfl) (by kernel_rfl) (by kernel_rfl) rfl hS (fun _ hw => r_moveV (v := .slice _ _ _) rfl) ?_
    refine A_take (i := 3) rfl (by kernel_rfl) (by kernel_rfl) (by kernel_rfl) rfl hS (fun _ hw => r_moveV (v := .int _ _) rfl) ?_
    refine A_take (i := 4) rfl (by kernel_rfl) (by kernel_rfl) (by kernel_rfl) rfl hS (fun _ hw => r_indexAddrK (by rw [← hA]; rfl) rfl Tryd.underlying23 Tryd.sz35 hlt) ?_
    refine A_take (i := 5) rfl (by kernel_rfl) (by kernel_rfl) (by kernel_rfl) rfl hS (fun _ hw => r_fieldAddr rfl Tryd.fld35_1 rfl) ?_
    refine A_take (i := 6) rfl (by kernel_rfl) (by kernel_rfl) (by kernel_rfl) rfl hS (fun _ hw => r_load (v := .string (str l[i].g)) rfl Tryd.underlying9 rfl (ext_cell hw.1 (hc 1 (by decide)))) ?_
    refine A_take (i := 7) rfl (by kernel_rfl) (by kernel_rfl) (by kernel_rfl) rfl hS (fun _ hw => rt_len rfl Tryd.underlying9) ?_
    refine A_take (i := 8) rfl (by kernel_rfl) (by kernel_rfl) (by kernel_rfl) rfl hS (fun _ hw => r_add' (m := ((m + 1 : Nat) : Int)) (n := (l[i].g.length : Int)) (r := ((m + (1 + l[i].g.length) : Nat) : Int)) rfl rfl (by rw [wrap_i64 (by omega) (by omega)]; omega)) ?_
    refine A_take (i := 9) rfl (by kernel_rfl) (by kernel_rfl) (by kernel_rfl) rfl hS (fun _ hw => r_moveV (v := .slice _ _ _) rfl) ?_
    refine A_take (i := 10) rfl (by kernel_rfl) (by kernel_rfl) (by kernel_rfl) rfl hS (fun _ hw => r_moveV (v := .int _ _) rfl) ?_
    refine A_take (i := 11) rfl (by kernel_rfl) (by kernel_rfl) (by kernel_rfl) rfl hS (fun _ hw => r_indexAddrK (by rw [← hA]; rfl) rfl Tryd.underlying23 Tryd.sz35 hlt) ?_
    refine A_take (i := 12) rfl (by kernel_rfl) (by kernel_rfl) (by kernel_rfl) rfl hS (fun _ hw => r_fieldAddr rfl Tryd.fld35_2 rfl) ?_
    refine A_take (i := 13) rfl (by kernel_rfl) (by kernel_rfl) (by kernel_rfl) rfl hS (fun _ hw => r_load (v := .string (str l[i].o)) rfl Tryd.underlying9 rfl (ext_cell hw.1 (hc 2 (by decide)))) ?_
    refine A_take (i := 14) rfl (by kernel_rfl) (by kernel_rfl) (by kernel_rfl) rfl hS (fun _ hw => rt_len rfl Tryd.underlying9) ?_
    refine A_take (i := 15) rfl (by kernel_rfl) (by kernel_rfl) (by kernel_rfl) rfl hS (fun _ hw => r_add' (m := ((m + (1 + l[i].g.length) : Nat) : Int)) (n := (l[i].o.length : Int)) (r := ((m + (1 + l[i].g.length + l[i].o.length) : Nat) : Int)) rfl rfl (by rw [wrap_i64 (by omega) (by omega)]; omega)) ?_
    refine A_take (i := 16) rfl (by kernel_rfl) (by kernel_rfl) (by kernel_rfl) rfl hS (fun _ hw => r_moveV (v := .slice _ _ _) rfl) ?_
    refine A_take (i := 17) rfl (by kernel_rfl) (by kernel_rfl) (by kernel_rfl) rfl hS (fun _ hw => r_moveV (v := .int _ _) rfl) ?_
    refine A_take (i := 18) rfl (by kernel_rfl) (by kernel_rfl) (by kernel_rfl) rfl hS (fun _ hw => r_indexAddrK (by rw [← hA]; rfl) rfl Tryd.underlying23 Tryd.sz35 hlt) ?_
    refine A_take (i := 19) rfl (by kernel_rfl) (by kernel_rfl) (by kernel_rfl) rfl hS (fun _ hw => r_fieldAddr rfl Tryd.fld35_3 rfl) ?_
    refine A_take (i := 20) rfl (by kernel_rfl) (by kernel_rfl) (by kernel_rfl) rfl hS (fun _ hw => r_load (v := .string (str l[i].n)) rfl Tryd.underlying9 rfl (ext_cell hw.1 (hc 3 (by decide)))) ?_
    refine A_take (i := 21) rfl (by kernel_rfl) (by kernel_rfl) (by kernel_rfl) rfl hS (fun _ hw => rt_len rfl Tryd.underlying9) ?_
    refine A_take (i := 22) rfl (by kernel_rfl) (by kernel_rfl) (by kernel_rfl) rfl hS (fun _ hw => r_add' (m := ((m + (1 + l[i].g.length + l[i].o.length) : Nat) : Int)) (n := (l[i].n.length : Int)) (r := ((m + (1 + l[i].g.length + l[i].o.length + l[i].n.length) : Nat) : Int)) rfl rfl (by rw [wrap_i64 (by omega) (by omega)]; omega)) ?_
    refine A_take (i := 23) rfl (by kernel_rfl) (by kernel_rfl) (by kernel_rfl) rfl hS (fun _ hw => r_assignV (v := .int _ _) rfl) ?_
    refine A_done (by kernel_rfl) ?_
    refine W_region ?_
    refine op rfl (r_moveV (v := .int _ _) rfl) ?_
    refine op rfl (r_add' (r := ((i + 1 : Nat) : Int)) rfl rfl (by rw [wrap_i64 (by omega) (by omega)]; omega)) ?_
    refine op rfl (r_assignV (v := .int _ _) rfl) ?_
    refine WL_nil ?_
    refine ⟨?_, by repeat (first | with_reducible exact Out.refl _ _ | with_reducible exact Out.mix | refine Out.put rfl ?_ | refine Out.mixin rfl ?_ | exact Out.refl _ _ | exact Out.mix)⟩
    exact ⟨l.length - (i + 1), by omega, i + 1, m + lenRu l[i], rfl, by omega, rfl, by unfold lenRu; rfl, by rw [List.take_succ_eq_append_getElem hlt, List.map_append, List.sum_append, ← hm]; simp, by unfold lenRu; omega, hX⟩
  · refine W_exit (blk_hit ?_)
    refine W_seq ?_
    refine W_region ?_
    refine op rfl (r_moveV (v := .int _ _) rfl) ?_
    refine op rfl (r_assignV (v := .int _ _) rfl) ?_
    refine WL_nil ?_
    refine W_ret (finX_ret ?_)
    refine fin1 ?_
    exact ⟨_, rfl, by rw [hm, show i = l.length by omega, List.take_length]; rfl, hX⟩
end Go.Proofs.YtafcaigjijajnaaDoor
