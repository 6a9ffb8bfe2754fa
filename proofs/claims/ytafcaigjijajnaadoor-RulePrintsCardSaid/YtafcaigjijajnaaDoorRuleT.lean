/-
  The walks of package path: globs.
-/
import Derived.Test.YtafcaigjijajnaaDoorFacts
import Derived.Test.YtafcaigjijajnaaDoorRuleS
namespace Go.Proofs.YtafcaigjijajnaaDoor
open Go Go.Eng Go.RowKit Go.Proofs
set_option linter.unusedVariables false
set_option linter.unusedSimpArgs false
set_option maxHeartbeats 2000000
set_option maxRecDepth 20000

theorem glob_spec (s : List UInt8) (w : World) {m : Int} (hm : w.cell? ⟨gMax, 0, none⟩ = some (.int .i64 m)) (hs : s.length ≤ 1099511627776) :
    Calls Tryd.prog 43 #[.string (str s)] w (fun en w' => ∃ v, en = .returned v ∧ v = .bool (decide (globR s)) ∧ Ext w w') := by
  have hpl : ∀ q r, q ++ r = parts 47 s → ∀ p ∈ q, p.length ≤ s.length := fun q r h p hp => parts_len 47 s p (by rw [← h]; exact List.mem_append_left _ hp)
  refine calls' (n := 13) (rs := #[.cell 2 4]) (l := [.string (str s)]) Tryd.func43 rfl rfl rfl rfl rfl ?_
  have hX := Ext.refl w
  refine W_seq ?_
  refine W_region ?_
  refine op_alloc rfl Tryd.zero4 ?_
  intro w0_0 b0_0 E0_0 B0_0 L0_0
  have hG0_0 : w.heap.size ≤ b0_0 := by have := hX.size; omega
  replace hX := hX.trans E0_0
  refine WL_nil ?_
  refine W_seq ?_
  refine W_seq ?_
  refine W_region ?_
  refine op rfl (r_moveV (v := .string _) rfl) ?_
  have hX1 := hX
  have lB0 := Blk.lt B0_0
  refine opCv rfl (r_call Tryd.func27 Tryd.nm27 rfl) (splitSeq_spec s 47 _) ?_
  rintro v w2 ⟨b1, b2, b3, rfl, hE, B1, B2, B3, h12, h23, g1, g2, g3⟩
  replace B0_0 := Blk.ext B0_0 hE
  replace hX := hX.trans hE
  have hnb : b0_0 ≠ b2 := by have := Blk.lt B0_0; have := hX1.size; have := hE.size; intro q; subst q; omega
  have l1 := Blk.lt B1
  have l2 := Blk.lt B2
  have l3 := Blk.lt B3
  have hX2 := hX
  have hs0 := hX1.size
  refine WL_nil ?_
  refine W_block ?_
  refine W_rangeFuncZ (Z := (fun b => b = b2)) (encs := fun x => #[.string (str x)]) (Kp := Ks b1 b2 b3) (Pr := (fun xs _ => ∃ r, xs ++ r = parts 47 s)) rfl rfl (callFunc_run Tryd.func63 Tryd.nm63 rfl) (split_iter b1 b2 b3 47 s w2 B1 B2 B3 h12 h23 (by omega)) ((fun k hk => by subst hk; exact l2)) (Ext.refl _) (fun _ => rfl) (fun x => [(6, .string (str x))]) (fun _ => by simp) (fun _ => rfl) [3, 6, 7, 8, 9] (fun x g => g 3 = .string (str x)) (fun xs W => (∀ p ∈ xs, patR p) ∧ Blk W b0_0 #[.bool false] 4 ∧ Ext w W ∧ w2.heap.size ≤ W.heap.size) (fun c xs W => c = .ret ∧ (∃ p ∈ xs, ¬ patR p) ∧ Blk W b0_0 #[.bool false] 4 ∧ Ext w W ∧ w2.heap.size ≤ W.heap.size) (fun h k => Ks.trans h k) (fun W W' hs h => Ks.turn h l1 l2 l3 hs) (fun s W W' ⟨q1, q2, q3, q4⟩ h => ⟨q1, Turn.blk q2 h, Turn.ext q3 hX2.size h, Nat.le_trans q4 h.size⟩) (fun c s W W' ⟨q0, q1, q2, q3, q4⟩ h => ⟨q0, q1, Turn.blk q2 h, Turn.ext q3 hX2.size h, Nat.le_trans q4 h.size⟩) (fun _ _ _ h _ => h) (fun s W W' ⟨q1, q2, q3, q4⟩ h => ⟨q1, h.blk q2 hnb, h.below q3 (fun k hk => by subst hk; omega) q3.size, Nat.le_trans q4 h.size⟩) (fun c s W W' ⟨q0, q1, q2, q3, q4⟩ h => ⟨q0, q1, h.blk q2 hnb, h.below q3 (fun k hk => by subst hk; omega) q3.size, Nat.le_trans q4 h.size⟩) (⟨by simp, B0_0, hX, Nat.le_refl _⟩) ?_ ?_ ?_ ?_
  · intro l pre x w' hI hP
    dsimp only [putL]
    refine W_region ?_
    refine op rfl (r_assignV (v := .string _) rfl) ?_
    refine WL_nil ?_
    refine ⟨?_, by repeat (first | with_reducible exact Out.refl _ _ | with_reducible exact Out.mix | refine Out.put rfl ?_ | refine Out.mixin rfl ?_ | exact Out.refl _ _ | exact Out.mix)⟩
    exact ⟨Nc.of_ext (Ext.refl _), ⟨Nat.le_refl _, rfl, rfl, rfl⟩, hI, hP, rfl⟩
  · intro l pre x g w' hI hP hA
    have h3 := hA
    obtain ⟨q1, q2, q3, q4⟩ := hI
    clear hX B0_0
    have hX := q3
    have B0_0 := q2
    obtain ⟨pr, hpr⟩ := hP
    have hxl := hpl _ _ hpr x (by simp)
    refine W_set (i := 3) h3 ?_
    refine W_block ?_
    refine W_seq ?_
    refine W_region ?_
    refine op rfl (r_moveV (v := .string _) rfl) ?_
    refine opCv rfl (r_call Tryd.func57 Tryd.nm57 rfl) (pattern_spec x _ (ext_cell hX hm) (by omega)) ?_
    rintro v w3 ⟨rfl, hE⟩
    replace B0_0 := Blk.ext B0_0 hE
    replace hX := hX.trans hE
    have hE3 := hE
    refine op rfl (r_notP rfl) ?_
    refine WL_nil ?_
    refine W_ifp rfl (fun ht9 => ?_) (fun ht9 => ?_)
    · refine W_seq ?_
      refine W_region ?_
      have B40 := B0_0
      refine op_store (v := .bool _) rfl rfl rfl Tryd.sz4 B0_0 (Nat.le_of_ble_eq_true rfl) ?_
      intro w4_0 C4_0 BB4_0
      replace hX := hX.chg C4_0 hG0_0
      replace B0_0 := BB4_0
      refine WL_nil ?_
      refine W_ret (blk_ret (?_))
      exact ⟨(Nc.of_ext hE3).trans (Nc.of_chg C4_0 B40), rfl, ⟨x, by simp, ht9⟩, B0_0, hX, by have := hE3.size; have := C4_0.size; omega⟩
    · refine W_skip ?_
      exact ⟨Nc.of_ext hE3, Ks.ext hE3 (by omega) (by omega) (by omega), (fun p hp => (List.mem_append.1 hp).elim (q1 p) (fun h => by rw [List.mem_singleton.1 h]; exact Classical.byContradiction ht9)), B0_0, hX, by have := hE3.size; omega⟩
  · intro Db xs w' hDb hS hI hP hD
    obtain ⟨q1, q2, q3, q4⟩ := hI
    clear hX B0_0
    have hX := q3
    have B0_0 := q2
    have hDm := hD
    have hS7 : xs = parts 47 s := hS
    clear hD hS
    refine W_seq ?_
    refine W_region ?_
    refine op rfl (r_moveV (v := .string _) rfl) ?_
    refine op rfl (rt_len rfl Tryd.underlying9) ?_
    refine op rfl (r_leq rfl rfl) ?_
    refine op_store (v := .bool _) rfl rfl rfl Tryd.sz4 B0_0 (Nat.le_of_ble_eq_true rfl) ?_
    intro w5_3 C5_3 BB5_3
    replace hX := hX.chg C5_3 hG0_0
    replace B0_0 := BB5_3
    refine WL_nil ?_
    refine W_ret (finX_ret ?_)
    have hD5 := chg_heap hDm C5_3 (by have := Blk.lt B0_0; have := hX1.size; omega)
    refine fin_mark rfl hD5 ?_
    intro wM hM
    have hTu : Turn w2.heap.size w5_3 wM := by rw [← hM]; exact .putObj _ hDb hD5 rfl
    refine fin_cellV rfl (Blk.cell (Turn.blk B0_0 hTu) rfl) Tryd.underlying4 rfl ?_
    exact ⟨_, rfl, bool_iff ⟨fun h => ⟨fun p hp => q1 p (by rw [hS7]; exact hp), by omega⟩, fun h => by have := h.2; omega⟩, Turn.ext hX hX2.size hTu⟩
  · intro Db c pre w' hDb hS hI hD
    obtain ⟨rfl, ⟨p, hp, hn⟩, q2, q3, q4⟩ := hI
    obtain ⟨r, hr⟩ := hS
    refine W_ret (blk_ret (finX_ret ?_))
    refine fin_mark rfl hD ?_
    intro wM hM
    have hTu : Turn w2.heap.size w' wM := by rw [← hM]; exact .putObj _ hDb hD rfl
    refine fin_cellV rfl (Blk.cell (Turn.blk q2 hTu) rfl) Tryd.underlying4 rfl ?_
    exact ⟨_, rfl, bool_ff (fun h => hn (h.1 p (by rw [← hr]; exact List.mem_append_left _ hp))), Turn.ext q3 hX2.size hTu⟩
end Go.Proofs.YtafcaigjijajnaaDoor
