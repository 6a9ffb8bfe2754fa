/-
  The walk of frame.All: a loop over a function.
-/
import Derived.Test.YtgclnpafkjfmhaaFacts
import Derived.Test.YtgclnpafkjfmhaaFrameE
namespace Go.Proofs.Ytgclnpafkjfmhaa
open Go Go.Eng Go.RowKit Go.Proofs
set_option linter.unusedVariables false

theorem Kp.gro {α : Type} {T : Ty α} {F : Nat → Prop} {B bx s e : Nat} {v : Value} {l : List α} {w w' : World} (h : Gro v.ownBlock w w') (ho : Eng.Own T w F s e v l) (hB : B ≤ s) (hx : bx < s) (hxw : bx < w.heap.size) (hBw : B ≤ w.heap.size) (he : 5 ≠ e) : Kp B bx w w' :=
  ⟨⟨h.os, h.tape, h.output, h.size, fun k hk => h.block k (by omega) (fun q => by have := (ho.lt q).1; omega)⟩, h.block bx hxw (fun q => by have := (ho.lt q).1; omega), fun g ⟨c, fr, hg⟩ => h.block g (heap_lt hg) (own_ne ho hg he)⟩
theorem Kp.chg {B bx b t : Nat} {c : Array Value} {w w' : World} (h : Chg b w w') (hb : Blk w b c t) (hB : B ≤ b) (hx : bx ≠ b) (hxw : bx < w.heap.size) (ht : t ≠ 5) : Kp B bx w w' :=
  ⟨⟨h.os, h.tape, h.output, h.size, fun k hk => h.block k (by have := Blk.lt hb; omega) (by omega)⟩, h.block bx hxw hx, fun g ⟨cc, fr, hg⟩ => h.block g (heap_lt hg) (by rintro rfl; unfold Blk at hb; rw [hb] at hg; cases hg; exact ht rfl)⟩

/-- Slices, as they are. -/
def raw : Ty (Option Addr × Nat × Nat) := Ty.scalar sv (fun _ => True) (fun _ => rfl)
theorem flat_raw : Flat raw := fun h => h
theorem cat_rows {w : World} {F : Nat → Prop} : ∀ {qs : List (Option Addr × Nat × Nat)} {ls : List (List UInt8)} {xs : List Value}, Cat raw w nobody qs xs → ls.length = qs.length → (∀ i (h : i < qs.length) (h' : i < ls.length), Ty.byte.slice.R w F ls[i] [sv qs[i]]) → Cat Ty.byte.slice w F ls xs
  | [], [], _, h, _, _ => h
  | [], _ :: _, _, _, hl, _ => by simp at hl
  | _ :: _, [], _, _, hl, _ => by simp at hl
  | q :: qs, l :: ls, _, ⟨c, r, rfl, ⟨hc, _⟩, h2⟩, hl, hr => by
    refine ⟨c, r, rfl, ?_, cat_rows h2 (by simpa using hl) fun i h h' => ?_⟩
    · rw [hc]; exact hr 0 (by simp) (by simp)
    · exact hr (i + 1) (by simpa using h) (by simpa using h')
theorem own_rows {w : World} {F : Nat → Prop} {B e : Nat} {v : Value} {qs : List (Option Addr × Nat × Nat)} {ls : List (List UInt8)} (h : Eng.Own raw w nobody B e v qs) (hl : ls.length = qs.length) (hr : ∀ i (h : i < qs.length) (h' : i < ls.length), Ty.byte.slice.R w F ls[i] [sv qs[i]]) : Eng.Own Ty.byte.slice w F B e v ls := by
  rcases h with ⟨rfl, rfl⟩ | ⟨g, cap, c, xs, rfl, h1, h2, h3, h4, h5, h6⟩
  · obtain rfl : ls = [] := List.length_eq_zero_iff.1 (by simpa using hl)
    exact Own.nil
  · rw [← hl]
    exact Or.inr ⟨g, cap, c, xs, rfl, h1, h2, by rw [hl]; exact h3, h4, cat_rows h5 hl hr, by rw [hl]; exact h6⟩

theorem all_spec (A : Option Addr) (c : Nat) (b : List UInt8) (w : World) (hbc : b.length ≤ c) (hb : b.length ≤ 1000000) (hA : Bytes w A b) :
    Calls Try.prog 11 #[.slice A b.length c] w (fun en w' => ∃ v, en = .returned v ∧ ∃ u, v = .tuple #[u, .int .i64 (Frame.Alls b).2] ∧ Ext w w' ∧ ∃ F, (∀ g, F g → g < w'.heap.size) ∧ Eng.Own Ty.byte.slice w' F w.heap.size 22 u (Frame.Alls b).1) := by
  refine calls' (n := 19) (rs := #[.tmp 2, .tmp 3]) (l := [.slice A b.length c]) Try.func11 rfl rfl rfl rfl rfl ?_
  refine W_seq ?_
  refine W_region ?_
  refine op rfl (r_assignV (v := .slice _ _ _) rfl) ?_
  refine op rfl (r_assignV (v := .int _ _) rfl) ?_
  refine WL_nil ?_
  refine W_seq ?_
  refine W_region ?_
  refine op_alloc rfl Try.zero26 ?_
  intro w1_0 b1_0 E1_0 B1_0 L1_0
  refine WL_nil ?_
  refine W_seq ?_
  refine W_region ?_
  refine op_alloc rfl Try.zero3 ?_
  intro w2_0 b2_0 E2_0 B2_0 L2_0
  refine op_store (v := .int .i64 0) rfl rfl rfl Try.sz3 B2_0 (by show 0 < (Value.cells (.int .i64 0)).size; decide) ?_
  intro w2_1 C2_1 B2_1
  have hb12 : b1_0 ≠ b2_0 := by have := Blk.lt B1_0; omega
  have hB1 : Blk w2_1 b1_0 #[.slice none 0 0] 26 := C2_1.blk (Blk.ext B1_0 E2_0) hb12
  have hB2 : Blk w2_1 b2_0 #[.int .i64 (endOf [] : Nat)] 3 := B2_1
  have X2 : Ext w w2_1 := (E1_0.trans E2_0).chg C2_1 (by have := E1_0.size; omega)
  refine WL_nil ?_
  refine W_seq ?_
  refine W_seq ?_
  refine W_region ?_
  refine op rfl (r_moveV (v := .slice _ _ _) rfl) ?_
  refine opCv rfl (r_call Try.func23 Try.nm23 rfl) (each_spec A c b.length _) ?_
  rintro v w3 ⟨bx, rfl, E3, hBx, hbx⟩
  have X3 := X2.trans E3
  replace hB1 := Blk.ext hB1 E3
  replace hB2 := Blk.ext hB2 E3
  have hbs := Blk.lt hBx
  have hl1 := Blk.lt B1_0
  have hl2 := Blk.lt hB2
  have hsz := X2.size
  have hsz1 := E1_0.size
  have hsz3 := C2_1.size
  have hbl2 := Blk.lt B2_0
  have hX3 := X3.size
  have hA3 : Ty.byte.Row w3 (fun g => g < w.heap.size) A b := hA.keep X3.same (fun _ h => h)
  refine WL_nil ?_
  refine W_block ?_
  refine W_rangeFunc (encs := fun x => #[sv x.1, .int .i64 (x.2 : Nat)]) (Kp := Kp w.heap.size bx) (Pr := Pr b) rfl rfl (callFunc_run Try.func27 Try.nm27 rfl) (each_iter w.heap.size bx A c b w3 hbc (bigs _ (by omega)) X3.size hA3 hBx) (Ext.refl _) (fun _ => rfl) (fun x => [(10, sv x.1), (11, .int .i64 (x.2 : Nat))]) (fun _ => by simp) (fun _ => rfl) [6, 7, 10, 11, 12, 13, 14, 15, 16] (fun x g => g 6 = sv x.1 ∧ g 7 = .int .i64 (x.2 : Nat)) (fun xs W => ∃ v, Ext w W ∧ Blk W b1_0 #[v] 26 ∧ Blk W b2_0 #[.int .i64 (endOf xs : Nat)] 3 ∧ Eng.Own raw W nobody w3.heap.size 22 v (xs.map (·.1)) ∧ w3.heap.size ≤ W.heap.size) (fun _ _ _ => False) (fun h k => Kp.trans h k) (fun W W' hs h => Kp.turn h (by omega) (by omega) (by omega) (by omega)) (fun s W W' ⟨v, q1, q2, q3, q4, q5⟩ h => ⟨v, Turn.ext q1 X3.size h, Turn.blk q2 h, Turn.blk q3 h, Turn.own q4 h (fun _ q => q.elim), Nat.le_trans q5 h.size⟩) (fun _ _ _ _ q _ => q.elim) (fun s W W' (q : Pr b s W) h => q.same (fun g ⟨c, fr, hg⟩ => h.block g (heap_lt hg) (Or.inr ⟨c, _, fr, hg⟩))) (⟨_, X3, hB1, hB2, Own.nil, Nat.le_refl _⟩) ?_ ?_ ?_ ?_
  · intro l pre x w' hI hP
    dsimp only [putL]
    refine W_seq ?_
    refine W_region ?_
    refine op rfl (r_assignV (v := .slice _ _ _) rfl) ?_
    refine WL_nil ?_
    refine W_region ?_
    refine op rfl (r_assignV (v := .int _ _) rfl) ?_
    refine WL_nil ?_
    refine ⟨?_, by repeat (first | exact Out.refl _ _ | exact Out.mix | refine Out.put rfl ?_ | refine Out.mixin rfl ?_)⟩
    exact ⟨Nc.of_ext (Ext.refl _), ⟨Below.refl _ _, rfl, fun _ _ => rfl⟩, hI, hP, rfl, rfl⟩
  · intro l pre x g w' hI hP hA
    obtain ⟨h6, h7⟩ := hA
    obtain ⟨v, q1, q2, q3, q4, q5⟩ := hI
    have hpl : (pre.length + 1) * 8 ≤ b.length := by
      obtain ⟨ls, ht, hl, _⟩ := hP
      have h1 := ht.len
      have h2 := ht.le
      have h3 : (pre ++ [x]).length = pre.length + 1 := by simp
      omega
    have hml : (pre.map (·.1)).length = pre.length := by simp
    refine W_set (i := 6) h6 ?_
    refine W_set (i := 7) h7 ?_
    refine W_block ?_
    refine W_region ?_
    refine op rfl (r_load (v := v) rfl Try.underlying26 rfl (q2.cell rfl)) ?_
    refine op rfl (r_moveV (v := .slice _ _ _) rfl) ?_
    refine op_newS rfl (r_buildSlice (vs := [.slice _ _ _]) Try.underlying26 Try.sz22 Try.zero22 rfl rfl rfl) ?_
    intro w6_2 b6_2 E6_2 B6_2 L6_2
    refine op_app0 (v := v) flat_raw rfl rfl rfl Try.underlying26 Try.sz22 Try.by22 Try.zero22 rfl (Nat.le_trans q5 E6_2.size) (own_fext q4 E6_2) ((row_one B6_2 trivial : raw.Row w6_2 (old w6_2) (some ⟨b6_2, 0, none⟩) [x.1])) (by simp only [List.length_map, List.length_cons, List.length_nil]; omega) (by simp only [List.length_map, List.length_cons, List.length_nil]; omega) ?_
    intro v6_3 w6_3 O6_3 G6_3
    refine op rfl (r_moveV (v := .int _ _) rfl) ?_
    refine op_store (v := v6_3) rfl rfl (own_cell O6_3) Try.sz26 (gro_blk G6_3 (Blk.ext q2 E6_2) (own_ne (own_fext q4 E6_2) (Blk.ext q2 E6_2) (by decide))) (by simp) ?_
    intro w6_5 C6_5 B6_5
    replace B6_5 : Blk w6_5 b1_0 #[v6_3] 26 := B6_5
    have r3 : Blk w6_3 b2_0 #[.int .i64 (endOf pre : Nat)] 3 := gro_blk G6_3 (Blk.ext q3 E6_2) (own_ne (own_fext q4 E6_2) (Blk.ext q3 E6_2) (by decide))
    have r2 := C6_5.blk r3 (fun q => hb12 q.symm)
    refine op_store (v := .int .i64 (x.2 : Nat)) rfl rfl rfl Try.sz3 r2 (by simp) ?_
    intro w6_6 C6_6 B6_6
    replace B6_6 : Blk w6_6 b2_0 #[.int .i64 (x.2 : Nat)] 3 := B6_6
    refine WL_nil ?_
    have r1 : Blk w6_3 b1_0 #[v] 26 := gro_blk G6_3 (Blk.ext q2 E6_2) (own_ne (own_fext q4 E6_2) (Blk.ext q2 E6_2) (by decide))
    refine ⟨(Nc.of_ext E6_2).trans ((Nc.of_gro G6_3 (own_fext q4 E6_2)).trans ((Nc.of_chg C6_5 r1).trans (Nc.of_chg C6_6 r2))), ?_, v6_3, ?_, ?_, ?_, ?_, ?_⟩
    · have k1 : Kp w.heap.size bx w' w6_2 := Kp.ext E6_2 (by omega) (by omega)
      have k2 : Kp w.heap.size bx w6_2 w6_3 := Kp.gro G6_3 (own_fext q4 E6_2) (by omega) (by omega) (by have := E6_2.size; omega) (by have := E6_2.size; omega) (by decide)
      have k3 : Kp w.heap.size bx w6_3 w6_5 := Kp.chg C6_5 r1 (by omega) (by omega) (by have := E6_2.size; have := G6_3.size; omega) (by decide)
      have k4 : Kp w.heap.size bx w6_5 w6_6 := Kp.chg C6_6 r2 (by omega) (by omega) (by have := E6_2.size; have := G6_3.size; have := C6_5.size; omega) (by decide)
      exact ((k1.trans k2).trans k3).trans k4
    · exact (((q1.trans E6_2).gro G6_3 (by have := E6_2.size; omega) (fun k hk => by have := (q4.lt hk).1; omega)).chg C6_5 (by omega)).chg C6_6 (by omega)
    · exact C6_6.blk B6_5 hb12
    · rw [endOf_snoc]; exact B6_6
    · rw [List.map_append]
      exact (O6_3.keep (fun _ q => q.elim) (fun _ q => q) (fun g hg => C6_5.block g (O6_3.lt hg).2 (fun q => own_ne O6_3 r1 (by decide) (by rw [hg, q])))).keep (fun _ q => q.elim) (fun _ q => q) (fun g hg => C6_6.block g (by have := (O6_3.lt hg).2; have := C6_5.size; omega) (fun q => own_ne O6_3 r3 (by decide) (by rw [hg, q])))
    · have := E6_2.size
      have := G6_3.size
      have := C6_5.size
      have := C6_6.size
      omega
  · intro Db xs w' hDb hS hI hP hD
    obtain ⟨v, q1, q2, q3, q4, q5⟩ := hI
    have hDm := hD
    have hS7 := hS
    clear hD hS
    refine W_seq ?_
    refine W_drawS (Ext.refl _) Try.wd rfl ?_
    intro wd7 hD hS
    refine A_take (i := 0) rfl (by kernel_rfl) (by kernel_rfl) (by kernel_rfl) rfl hS (fun _ hw => r_load (v := v) rfl Try.underlying26 rfl (ext_cell hw (q2.cell rfl))) ?_
    refine A_take (i := 1) rfl (by kernel_rfl) (by kernel_rfl) (by kernel_rfl) rfl hS (fun _ hw => r_load (v := .int .i64 (endOf xs : Nat)) rfl Try.underlying3 rfl (ext_cell hw (q3.cell rfl))) ?_
    refine A_take (i := 2) rfl (by kernel_rfl) (by kernel_rfl) (by kernel_rfl) rfl hS (fun _ hw => r_assignV (v := v) rfl) ?_
    refine A_take (i := 3) rfl (by kernel_rfl) (by kernel_rfl) (by kernel_rfl) rfl hS (fun _ hw => r_assignV (v := .int .i64 (endOf xs : Nat)) rfl) ?_
    refine A_done (by kernel_rfl) ?_
    refine W_ret (finX_ret ?_)
    refine fin_mark rfl (ext_heap hDm hD) ?_
    intro wM hM
    refine fin2 ?_
    obtain ⟨ls, ht, hl, hr⟩ := hP
    have hTu : Turn w3.heap.size wd7 wM := by rw [← hM]; exact .putObj _ hDb (ext_heap hDm hD) rfl
    have hdone := ht.done hS7
    have hbbk : Same (bb w') w' wM := fun g hg => by
      obtain ⟨cc, fr, hg⟩ := hg
      rw [Turn.heap (ext_heap hg hD) hTu, hg]
    refine ⟨_, rfl, v, by rw [hdone]; rfl, Turn.ext (q1.trans hD) X3.size hTu, bb wM, fun g ⟨cc, fr, hg⟩ => heap_lt hg, ?_⟩
    rw [hdone]
    refine (own_rows (Turn.own (own_fext q4 hD) hTu (fun _ q => q.elim)) (by simpa using hl) (fun i hi hi' => ?_)).low (by omega)
    have hix : i < xs.length := by simpa using hi
    have := Ty.byte.slice.keep (hr i hix hi') hbbk (bb_ext hbbk)
    simpa using this
  · intro Db c pre w' hDb hS hI hD
    exact hI.elim
end Go.Proofs.Ytgclnpafkjfmhaa
