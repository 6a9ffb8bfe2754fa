/-
  The walks of package disk: what may be done.
-/
import Derived.Test.YtlidigdlcjhkfaaFacts
import Derived.Test.YtlidigdlcjhkfaaDiskP
import Derived.Test.YtlidigdlcjhkfaaDiskQ
namespace Go.Proofs.Ytlidigdlcjhkfaa
open Go Go.Eng Go.RowKit Go.Proofs
set_option linter.unusedVariables false
set_option linter.unusedSimpArgs false
set_option maxHeartbeats 1000000

theorem size_spec {g off n c : Nat} {A : Option Addr} {w : World} (hc : w.cell? ⟨g, off + 0, none⟩ = some (.slice A n c)) : Calls Try.prog 47 #[.pointer (some ⟨g, off, none⟩)] w (fun en w' => ∃ v, en = .returned v ∧ v = .int .i64 n ∧ Ext w w') := by
  refine calls' (n := 8) (rs := #[.tmp 2]) (l := [.pointer (some ⟨g, off, none⟩)]) Try.func47 rfl rfl rfl rfl rfl ?_
  refine W_seq ?_
  refine W_region ?_
  refine op rfl (r_assignV (v := .int _ _) rfl) ?_
  refine WL_nil ?_
  refine W_seq ?_
  refine W_region ?_
  refine op rfl (r_moveV (v := .pointer _) rfl) ?_
  refine op rfl (r_nilCheck rfl) ?_
  refine op rfl (r_fieldAddr rfl Try.fld72_0 rfl) ?_
  refine op rfl (r_load (v := .slice A n c) rfl Try.underlying23 rfl hc) ?_
  refine op rfl (r_len_slice rfl Try.underlying23) ?_
  refine op rfl (r_assignV (v := .int _ _) rfl) ?_
  refine WL_nil ?_
  refine W_ret (finX_ret ?_)
  refine fin1 ?_
  exact ⟨_, rfl, rfl, Ext.refl _⟩
theorem DR.nowCell {B : Nat} {H : Hd} {D : Dk} {w : World} (h : DR B w H D) {i : Nat} (hi : i < D.n) : ∃ A c, H.nv i = .slice A (D.ar i).now.length c ∧ (D.ar i).now.length ≤ c ∧ Ty.byte.Row w (old w) A (D.ar i).now ∧ w.cell? ⟨H.g, i * 3, none⟩ = some (.slice A (D.ar i).now.length c) := by
  obtain ⟨A, c, h1, h2, h3⟩ := own_frow (h.nv i hi)
  obtain ⟨cs, hb, hs, hh⟩ := h.bg
  exact ⟨A, c, h1, h2, h3, by rw [← h1]; exact Blk.cell hb (hh i hi).1⟩
theorem DR.lastsCell {B : Nat} {H : Hd} {D : Dk} {w : World} (h : DR B w H D) {i : Nat} (hi : i < D.n) : ∃ A c, H.lv i = .slice A (D.ar i).lasts.length c ∧ (D.ar i).lasts.length ≤ c ∧ Ty.byte.Row w (old w) A (D.ar i).lasts ∧ w.cell? ⟨H.g, i * 3 + 1, none⟩ = some (.slice A (D.ar i).lasts.length c) := by
  obtain ⟨A, c, h1, h2, h3⟩ := own_frow (h.lv i hi)
  obtain ⟨cs, hb, hs, hh⟩ := h.bg
  exact ⟨A, c, h1, h2, h3, by rw [← h1]; exact Blk.cell hb (hh i hi).2.1⟩
theorem used_spec {B : Nat} {H : Hd} {D : Dk} {w : World} (h : DR B w H D) {k : Nat} (hw : WF D k) (hk : k ≤ 1073741824) : Calls Try.prog 35 #[dp H] w (fun en w' => ∃ v, en = .returned v ∧ v = .int .i64 D.used ∧ Ext w w') := by
  have hbp := h.bp
  have hu := hw.used
  have hmono : ∀ i, i ≤ D.n → sumTo i (fun i => (D.ar i).now.length) ≤ D.used := fun i hi => sumTo_mono _ hi
  have hn8 := hw.n8
  refine calls' (n := 27) (rs := #[.tmp 2]) (l := [dp H]) Try.func35 rfl rfl rfl rfl rfl ?_
  have hX := Ext.refl w
  refine W_seq ?_
  refine W_region ?_
  refine op rfl (r_assignV (v := .int _ _) rfl) ?_
  refine WL_nil ?_
  refine W_seq ?_
  refine W_region ?_
  refine op rfl (r_assignV (v := .int _ _) rfl) ?_
  refine WL_nil ?_
  refine W_seq ?_
  refine W_seq ?_
  refine W_region ?_
  refine op rfl (r_moveV (v := .pointer _) rfl) ?_
  refine op rfl (rp_neq rfl rfl Try.underlying25) ?_
  refine WL_nil ?_
  refine W_ifp rfl (fun ht6 => ?_) (fun ht6 => ?_)
  · refine W_seq ?_
    refine W_region ?_
    refine op rfl (r_moveV (v := .pointer _) rfl) ?_
    refine op rfl (r_nilCheck rfl) ?_
    refine op rfl (r_fieldAddr rfl Try.fld55_0 rfl) ?_
    refine op rfl (r_load (v := .slice (some ⟨H.g, 0, none⟩) D.n H.cap) rfl Try.underlying53 rfl (Blk.cell hbp rfl)) ?_
    refine op rfl (r_len_slice rfl Try.underlying53) ?_
    refine op rfl (r_moveV (v := .int _ _) rfl) ?_
    refine WL_nil ?_
    refine W_block ?_
    refine W_loop [3, 4, 12, 13, 14, 15, 16, 17, 18, 19, 20, 21, 22, 23, 24, 25] (fun k e' w' => ∃ i : Nat, k = D.n - i ∧ i ≤ D.n ∧ e' 12 = .int .i64 i ∧ e' 3 = .int .i64 (sumTo i (fun i => (D.ar i).now.length) : Nat) ∧ Ext w w') (D.n) ?_ ?_
    · exact ⟨0, by omega, by omega, rfl, rfl, hX⟩
    intro k g w' hI
    obtain ⟨i, hkk, hile, h12, h3, hX'⟩ := hI
    clear hX hbp
    have hX := hX'
    have hbp := (h.ext hX).bp
    clear hX'
    refine W_set (i := 12) h12 ?_
    refine W_set (i := 3) h3 ?_
    refine W_seq ?_
    refine W_region ?_
    refine op rfl (r_lss rfl rfl) ?_
    refine WL_nil ?_
    refine W_seq ?_
    refine W_ifp rfl (fun ht13 => ?_) (fun ht13 => ?_)
    · have hlt : i < D.n := by omega
      obtain ⟨A, c, _, _, _, hcell⟩ := (h.ext hX).nowCell hlt
      have hcell' : w'.cell? ⟨H.g, 0 + (i : Int).toNat * 3 + 0 + 0, none⟩ = some (.slice A (D.ar i).now.length c) := by simpa using hcell
      have hm1 := hmono (i + 1) (by omega)
      simp only [sumTo] at hm1
      refine W_skip ?_
      refine W_seq ?_
      refine W_block ?_
      refine W_seq ?_
      refine W_region ?_
      refine op rfl (r_moveV (v := .int _ _) rfl) ?_
      refine op rfl (r_assignV (v := .int _ _) rfl) ?_
      refine WL_nil ?_
      refine W_region ?_
      refine op rfl (r_moveV (v := .int _ _) rfl) ?_
      refine op rfl (r_moveV (v := .pointer _) rfl) ?_
      refine op rfl (r_nilCheck rfl) ?_
      refine op rfl (r_fieldAddr rfl Try.fld55_0 rfl) ?_
      refine op rfl (r_load (v := .slice (some ⟨H.g, 0, none⟩) D.n H.cap) rfl Try.underlying53 rfl (Blk.cell hbp rfl)) ?_
      refine op rfl (r_moveV (v := .int _ _) rfl) ?_
      refine op rfl (r_indexAddrN rfl rfl rfl Try.underlying53 Try.sz75 (by omega) (by omega)) ?_
      refine op rfl (r_fieldAddr rfl Try.fld75_0 rfl) ?_
      refine opCv rfl (r_call Try.func47 Try.nm47 rfl) (size_spec hcell') ?_
      rintro v w2 ⟨rfl, hE⟩
      replace hbp := Blk.ext hbp hE
      replace hX := hX.trans hE
      refine op rfl (r_add' (r := ((sumTo (i + 1) (fun i => (D.ar i).now.length) : Nat) : Int)) rfl rfl (by simp only [sumTo]; rw [wrap_i64 (by omega) (by omega)]; omega)) ?_
      refine op rfl (r_assignV (v := .int _ _) rfl) ?_
      refine WL_nil ?_
      refine W_region ?_
      refine op rfl (r_add' rfl rfl (wrap_i64 (by omega) (by omega))) ?_
      refine op rfl (r_moveV (v := .int _ _) rfl) ?_
      refine WL_nil ?_
      refine ⟨?_, by repeat (first | with_reducible exact Out.refl _ _ | with_reducible exact Out.mix | refine Out.put rfl ?_ | refine Out.mixin rfl ?_ | exact Out.refl _ _ | exact Out.mix)⟩
      exact ⟨D.n - (i + 1), by omega, i + 1, rfl, by omega, rfl, rfl, hX⟩
    · obtain rfl : i = D.n := by omega
      refine W_exit (blk_hit ?_)
      refine W_seq ?_
      refine W_region ?_
      refine op rfl (r_moveV (v := .int _ _) rfl) ?_
      refine op rfl (r_assignV (v := .int _ _) rfl) ?_
      refine WL_nil ?_
      refine W_ret (finX_ret ?_)
      refine fin1 ?_
      exact ⟨_, rfl, rfl, hX⟩
  · exact absurd trivial ht6
theorem read_spec {B : Nat} {H : Hd} {D : Dk} {w : World} (h : DR B w H D) {k : Nat} (hw : WF D k) (hk : k ≤ 1073741824) (a : Int) : Calls Try.prog 20 #[dp H, .int .i64 a] w (fun en w' => ∃ v, en = .returned v ∧ Ext w w' ∧ Bs w.heap.size 5 w' v (D.read a)) := by
  have hbp := h.bp
  refine calls' (n := 19) (rs := #[.tmp 4]) (l := [dp H, .int .i64 a]) Try.func20 rfl rfl rfl rfl rfl ?_
  have hX := Ext.refl w
  refine W_seq ?_
  refine W_region ?_
  refine op rfl (r_assignV (v := .slice _ _ _) rfl) ?_
  refine WL_nil ?_
  refine W_seq ?_
  refine W_seq ?_
  refine W_region ?_
  refine op rfl (r_moveV (v := .pointer _) rfl) ?_
  refine op rfl (r_moveV (v := .int _ _) rfl) ?_
  refine opCv rfl (r_call Try.func43 Try.nm43 rfl) (there_spec h a) ?_
  rintro v w2 ⟨rfl, hE⟩
  replace hbp := Blk.ext hbp hE
  replace hX := hX.trans hE
  refine op rfl (r_notP rfl) ?_
  refine WL_nil ?_
  refine W_ifp rfl (fun ht8 => ?_) (fun ht8 => ?_)
  · refine W_seq ?_
    refine W_region ?_
    refine op rfl (r_assignV (v := .slice _ _ _) rfl) ?_
    refine WL_nil ?_
    refine W_ret (finX_ret ?_)
    refine fin1 ?_
    exact ⟨_, rfl, hX, by unfold Dk.read; rw [if_neg ht8]; exact Own.nil⟩
  · have hth : D.there a := Classical.byContradiction ht8
    obtain ⟨ha1, ha2⟩ := there_nat hth
    obtain ⟨A, c, _, _, hrow, hcell⟩ := (h.ext hX).nowCell ha2
    have hcell' : w2.cell? ⟨H.g, 0 + a.toNat * 3 + 0 + 0, none⟩ = some (.slice A (D.ar a.toNat).now.length c) := by simpa using hcell
    have hln := hw.len _ ha2
    refine W_skip ?_
    refine W_seq ?_
    refine W_region ?_
    refine op rfl (r_moveV (v := .pointer _) rfl) ?_
    refine op rfl (r_nilCheck rfl) ?_
    refine op rfl (r_fieldAddr rfl Try.fld55_0 rfl) ?_
    refine op rfl (r_load (v := .slice (some ⟨H.g, 0, none⟩) D.n H.cap) rfl Try.underlying53 rfl (Blk.cell hbp rfl)) ?_
    refine op rfl (r_moveV (v := .int _ _) rfl) ?_
    refine op rfl (r_indexAddrN rfl rfl rfl Try.underlying53 Try.sz75 (by omega) (by omega)) ?_
    refine op rfl (r_fieldAddr rfl Try.fld75_0 rfl) ?_
    refine op rfl (r_fieldAddr rfl Try.fld72_0 rfl) ?_
    refine op rfl (r_load (v := .slice A (D.ar a.toNat).now.length c) rfl Try.underlying23 rfl hcell') ?_
    refine opCv rfl (r_call Try.func42 Try.nm42 rfl) (clone_spec (B := w.heap.size) A c _ _ hX.size (by omega) (fun b hb ↦ hb) hrow) ?_
    rintro v w3 ⟨hE, hO⟩
    replace hbp := Blk.ext hbp hE
    replace hX := hX.trans hE
    refine op rfl (r_assignV (v := v) rfl) ?_
    refine WL_nil ?_
    refine W_ret (finX_ret ?_)
    refine fin1 ?_
    exact ⟨_, rfl, hX, by unfold Dk.read; rw [if_pos hth]; exact hO⟩
theorem Post.ext {B : Nat} {H : Hd} {D D' : Dk} {w w1 w2 : World} (k : Post B H D D' w w1) (he : Ext w1 w2) : Post B H D D' w w2 := by
  obtain ⟨H', h1, h2, h3, h4, h5⟩ := k
  exact ⟨H', h1, h2.ext he, h3, h4.trans (G := fun _ => True) (Upd.of_ext he) (fun _ _ _ => trivial), h5⟩
theorem arm_spec {B : Nat} {H : Hd} {D : Dk} {w : World} (h : DR B w H D) (n : Int) : Calls Try.prog 22 #[dp H, .int .i64 n] w (fun en w' => ∃ v, en = .returned v ∧ Post B H D (D.arm n) w w') := by
  have hbp := h.bp
  refine calls' (n := 22) (rs := #[]) (l := [dp H, .int .i64 n]) Try.func22 rfl rfl rfl rfl rfl ?_
  refine W_seq ?_
  refine W_region ?_
  refine op rfl (r_moveV (v := .pointer _) rfl) ?_
  refine op rfl (rp_neq rfl rfl Try.underlying25) ?_
  refine op_true rfl (r_moveV (v := .bool (decide _)) rfl) (trivial) ?_
  refine opG_yes rfl rfl rfl rfl rfl (r_moveV (v := .pointer _) rfl) ?_
  refine opG_yes rfl rfl rfl rfl rfl (r_nilCheck rfl) ?_
  refine opG_yes rfl rfl rfl rfl rfl (r_fieldAddr rfl Try.fld55_4 rfl) ?_
  refine opG_yes rfl rfl rfl rfl rfl (r_load (v := .bool D.dead) rfl Try.underlying4 rfl (Blk.cell hbp rfl)) ?_
  refine opG_yes rfl rfl rfl rfl rfl (r_notB (b := D.dead) rfl) ?_
  refine op rfl (r_pickTV (v := .bool _) rfl rfl) ?_
  refine WL_nil ?_
  refine W_if rfl (fun ht12 => ?_) (fun ht12 => ?_)
  · refine W_region ?_
    refine op rfl (r_moveV (v := .pointer _) rfl) ?_
    refine op rfl (r_moveV (v := .pointer _) rfl) ?_
    refine op rfl (r_moveV (v := .int _ _) rfl) ?_
    refine op rfl (r_min2 rfl rfl) ?_
    refine op rfl (r_max2 rfl rfl) ?_
    refine op rfl (r_nilCheck rfl) ?_
    refine op rfl (r_fieldAddr rfl Try.fld55_2 rfl) ?_
    refine op_store (v := .bool true) rfl rfl rfl Try.sz4 hbp (Nat.le_of_ble_eq_true rfl) ?_
    intro w2 C2 B2
    refine op rfl (r_nilCheck rfl) ?_
    refine op rfl (r_fieldAddr rfl Try.fld55_3 rfl) ?_
    refine op_store (v := .int .i64 (max 0 (min n 1000000000))) rfl rfl rfl Try.sz3 B2 (Nat.le_of_ble_eq_true rfl) ?_
    intro w3 C3 B3
    have hd : D.dead = false := by simpa using ht12
    have e : D.arm n = { D with armed := true, power := max 0 (min n 1000000000) } := by unfold Dk.arm; rw [if_neg (by rw [hd]; exact Bool.false_ne_true)]
    refine WL_nil ?_
    refine fin0 ?_
    first
      | (refine ⟨_, rfl, ?_⟩
         rw [e]
         exact h.setP rfl rfl (C2.trans' C3) B3)
      | (have hd : D.dead = true := by simpa using ht12
         have e : D.arm n = D := by unfold Dk.arm; rw [if_pos hd]
         rw [e]
         exact ⟨_, rfl, Post.refl h⟩)
  · refine W_skip ?_
    refine fin0 ?_
    first
      | (refine ⟨_, rfl, ?_⟩
         rw [e]
         exact h.setP rfl rfl (C2.trans' C3) B3)
      | (have hd : D.dead = true := by simpa using ht12
         have e : D.arm n = D := by unfold Dk.arm; rw [if_pos hd]
         rw [e]
         exact ⟨_, rfl, Post.refl h⟩)
end Go.Proofs.Ytlidigdlcjhkfaa
