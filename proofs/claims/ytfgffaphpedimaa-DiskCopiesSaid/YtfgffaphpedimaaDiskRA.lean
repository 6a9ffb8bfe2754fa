/-
  The walks of the chapter's own disk: Append, Cut, Sync.
-/
import Derived.Test.YtfgffaphpedimaaFacts
import Derived.Test.YtfgffaphpedimaaDiskRP
namespace Go.Proofs.Ytfgffaphpedimaa
open Go Go.Eng Go.RowKit Go.Proofs
set_option linter.unusedVariables false
set_option linter.unusedSimpArgs false
set_option maxHeartbeats 2000000

theorem WF.runit {D : Dk} {k : Nat} (h : WF D k) : WF D.runit.1 (k + 1) := by
  refine ⟨by rw [runit_n]; exact h.n8, ?_, ?_, ?_, fun i hi => ?_, fun i hi => ?_, fun i hi => ?_⟩
  · have := h.room; unfold Dk.runit; (repeat' split) <;> simp <;> omega
  · have := h.p1; unfold Dk.runit; (repeat' split) <;> simp <;> omega
  · have := h.p2; unfold Dk.runit; (repeat' split) <;> simp <;> omega
  · rw [runit_n] at hi; rw [runit_ar]; have := h.len i hi; omega
  · rw [runit_n] at hi; rw [runit_ar]; exact h.val i hi
  · rw [runit_n] at hi; rw [runit_ar]; exact h.now i hi
theorem WF.rput {D : Dk} {k a : Nat} {s : St} (h : WF D k) (ha : a < D.n) (hs : s.ok (D.ar a).now) : WF (D.rput a s) (k + 2) := by
  unfold Dk.rput
  split
  · exact h.runit.put (by rw [runit_n]; exact ha) (by rw [runit_ar]; exact hs)
  · exact h.runit.mono (by omega)
theorem rput_n (D : Dk) (a : Nat) (s : St) : (D.rput a s).n = D.n := by
  unfold Dk.rput
  split
  · exact runit_n D
  · exact runit_n D
abbrev rz : Array Value := #[.slice none 0 0, .int .i64 0, .bool false, .int .i64 0, .bool false]
theorem rappend_spec (D : Dk) (A : Option Addr) (c : Nat) (a : Int) (Ab : Option Addr) (cb : Nat) (b : List UInt8) (w : World) {F : Nat → Prop} (hF : ∀ x, F x → x < w.heap.size) (h : RA w F A c D) {k : Nat} (hw : WF D k) (hk : k ≤ 536870912) (hbl : b.length ≤ 140737488355328)
    {G : Nat → Prop} (hG : ∀ x, G x → x < w.heap.size) (hb : Ty.byte.Row w G Ab b) :
    Calls Try.prog 38 #[D.rv A c, .int .i64 a, .slice Ab b.length cb] w (fun en w' => ∃ v, en = .returned v ∧ ∃ A' c', v = .tuple #[(D.rappend a b).1.rv A' c', .int .i64 (D.rappend a b).2] ∧ RA w' (Nw F w w') A' c' (D.rappend a b).1 ∧ Ext w w') := by
  have hn8 := hw.n8
  have hroom := hw.room
  have huse := hw.used
  refine calls' (n := 52) (rs := #[.cell 6 40, .tmp 7]) (l := [D.rv A c, .int .i64 a, .slice Ab b.length cb]) Try.func38 rfl rfl rfl rfl rfl ?_
  have hX := Ext.refl w
  refine W_seq ?_
  refine W_region ?_
  refine op_box (v := .agg _) rfl rfl ?_
  intro w0_0 b0_0 E0_0 B0_0 L0_0
  have hG0_0 : w.heap.size ≤ b0_0 := by have := hX.size; omega
  replace hX := hX.trans E0_0
  refine op_alloc rfl Try.zero40 ?_
  intro w0_1 b0_1 E0_1 B0_1 L0_1
  have hG0_1 : w.heap.size ≤ b0_1 := by have := hX.size; omega
  have hNb0_0_0_1 : b0_0 ≠ b0_1 := by have := Blk.lt B0_0; omega
  replace B0_0 := Blk.ext B0_0 E0_1
  replace hX := hX.trans E0_1
  refine op rfl (r_assignV (v := .int _ _) rfl) ?_
  refine WL_nil ?_
  refine W_seq ?_
  refine W_region ?_
  refine op rfl (r_loadRow rfl B0_0 Try.underlying40 rfl Try.sz40) ?_
  refine op rfl (r_moveV (v := .int _ _) rfl) ?_
  refine opCv rfl (r_call Try.func43 Try.nm43 rfl) (rmay_spec D A c a _) ?_
  rintro v w1 ⟨rfl, hE⟩
  replace B0_0 := Blk.ext B0_0 hE
  replace B0_1 := Blk.ext B0_1 hE
  replace hX := hX.trans hE
  refine op rfl (r_assignV (v := .int _ _) rfl) ?_
  refine WL_nil ?_
  refine W_cut [8, 13, 14, 15, 16, 17, 18, 19, 20, 21, 22, 23, 24] (fun e' w' => ∃ er : Int, e' 8 = .int .i64 er ∧ er = (if D.may a ≠ 0 then D.may a else if D.used + b.length > D.room then 8 else 0) ∧ Ext w w' ∧ Blk w' b0_0 (D.rc A c) 40 ∧ Blk w' b0_1 rz 40) ?_ ?_
  · refine W_seq ?_
    refine W_drawF (W0 := w) (fun b : Nat => b = b0_0 ∨ b = b0_1 ∨ False) Try.wd rfl ?_
    intro wd2 hD
    replace B0_0 := Blk.ext B0_0 hD
    replace B0_1 := Blk.ext B0_1 hD
    replace hX := hX.trans hD
    have DB0_0 := B0_0
    have DB0_1 := B0_1
    have hS : Ext w wd2 ∧ Same (fun b : Nat => b = b0_0 ∨ b = b0_1 ∨ False) wd2 wd2 := ⟨hX, fun _ _ => rfl⟩
    refine A_take (i := 0) rfl (by kernel_rfl) (by kernel_rfl) (by kernel_rfl) rfl hS (fun _ hw => r_moveV (v := .int _ _) rfl) ?_
    refine A_take (i := 1) rfl (by kernel_rfl) (by kernel_rfl) (by kernel_rfl) rfl hS (fun _ hw => r_eql rfl rfl) ?_
    refine A_split (i := 2) rfl (by kernel_rfl) (by kernel_rfl) (by kernel_rfl) rfl hS (fun _ _ => r_moveV (v := .bool (decide _)) rfl) (fun hg15 => ?_) (fun hg15 => ?_)
    · refine A_takeG (i := 3) rfl (by kernel_rfl) (by kernel_rfl) (by kernel_rfl) rfl hS rfl rfl rfl rfl (fun _ hw => r_loadRow rfl (Blk.at DB0_0 (hw.2 _ (Or.inl rfl))) Try.underlying40 rfl Try.sz40) ?_
      refine A_takeG (i := 5) rfl (by kernel_rfl) (by kernel_rfl) (by kernel_rfl) rfl hS rfl rfl rfl rfl (fun _ hw => r_moveV (v := .slice _ _ _) rfl) ?_
      refine A_takeG (i := 6) rfl (by kernel_rfl) (by kernel_rfl) (by kernel_rfl) rfl hS rfl rfl rfl rfl (fun _ hw => r_len_slice rfl Try.underlying23) ?_
      refine A_takeG (i := 8) rfl (by kernel_rfl) (by kernel_rfl) (by kernel_rfl) rfl hS rfl rfl rfl rfl (fun _ hw => r_fieldAddr rfl Try.fld40_1 rfl) ?_
      refine A_takeG (i := 9) rfl (by kernel_rfl) (by kernel_rfl) (by kernel_rfl) rfl hS rfl rfl rfl rfl (fun _ hw => r_load (v := .int _ _) rfl Try.underlying3 rfl (Blk.cell (Blk.at DB0_0 (hw.2 _ (Or.inl rfl))) rfl)) ?_
      refine A_ready1 (i := 4) (by kernel_rfl) ?_
      refine O_callG rfl rfl rfl rfl rfl rfl (r_call Try.func20 Try.nm20 rfl) (rused_spec D A c _ (fun x hx ↦ Nat.lt_of_lt_of_le (hF x hx) hX.size) (h.ext hF hX) hw (by omega)) ?_
      rintro v w2 ⟨rfl, hE⟩
      replace B0_0 := Blk.ext B0_0 hE
      replace B0_1 := Blk.ext B0_1 hE
      replace hX := hX.trans hE
      replace hS : Ext w w2 ∧ Same (fun b : Nat => b = b0_0 ∨ b = b0_1 ∨ False) wd2 w2 := ⟨hX, fun b hb => Or.elim hb (fun q => by subst q; exact Blk.eq B0_0 DB0_0) (fun hb => Or.elim hb (fun q => by subst q; exact Blk.eq B0_1 DB0_1) (fun hb => hb.elim))⟩
      refine ⟨hS, ?_⟩
      refine A_takeG (i := 7) rfl (by kernel_rfl) (by kernel_rfl) (by kernel_rfl) rfl hS rfl rfl rfl rfl (fun _ hw => r_add' rfl rfl (wrap_i64 (by omega) (by omega))) ?_
      refine A_takeG (i := 10) rfl (by kernel_rfl) (by kernel_rfl) (by kernel_rfl) rfl hS rfl rfl rfl rfl (fun _ hw => r_gtr rfl rfl) ?_
      refine A_take (i := 11) rfl (by kernel_rfl) (by kernel_rfl) (by kernel_rfl) rfl hS (fun _ hw => r_pickTV (v := .bool _) rfl rfl) ?_
      refine A_done (by kernel_rfl) ?_
      refine W_ifp rfl (fun ht24 => ?_) (fun ht24 => ?_)
      · refine W_region ?_
        refine op rfl (r_assignV (v := .int _ _) rfl) ?_
        refine WL_nil ?_
        refine ⟨?_, by repeat (first | with_reducible exact Out.refl _ _ | with_reducible exact Out.mix | refine Out.put rfl ?_ | refine Out.mixin rfl ?_ | exact Out.refl _ _ | exact Out.mix)⟩
        first
          | exact ⟨_, rfl, by rw [if_pos (by omega)], hX, B0_0, B0_1⟩
          | exact ⟨_, rfl, by rw [if_neg (by omega), if_pos (by omega)], hX, B0_0, B0_1⟩
          | exact ⟨_, rfl, by rw [if_neg (by omega), if_neg (by omega)]; omega, hX, B0_0, B0_1⟩
      · refine W_skip ?_
        refine ⟨?_, by repeat (first | with_reducible exact Out.refl _ _ | with_reducible exact Out.mix | refine Out.put rfl ?_ | refine Out.mixin rfl ?_ | exact Out.refl _ _ | exact Out.mix)⟩
        first
          | exact ⟨_, rfl, by rw [if_pos (by omega)], hX, B0_0, B0_1⟩
          | exact ⟨_, rfl, by rw [if_neg (by omega), if_pos (by omega)], hX, B0_0, B0_1⟩
          | exact ⟨_, rfl, by rw [if_neg (by omega), if_neg (by omega)]; omega, hX, B0_0, B0_1⟩
    · refine A_skip (i := 3) rfl (by kernel_rfl) (by kernel_rfl) (by kernel_rfl) rfl hS rfl rfl rfl rfl ?_
      refine A_skip (i := 4) rfl (by kernel_rfl) (by kernel_rfl) (by kernel_rfl) rfl hS rfl rfl rfl rfl ?_
      refine A_skip (i := 5) rfl (by kernel_rfl) (by kernel_rfl) (by kernel_rfl) rfl hS rfl rfl rfl rfl ?_
      refine A_skip (i := 6) rfl (by kernel_rfl) (by kernel_rfl) (by kernel_rfl) rfl hS rfl rfl rfl rfl ?_
      refine A_skip (i := 7) rfl (by kernel_rfl) (by kernel_rfl) (by kernel_rfl) rfl hS rfl rfl rfl rfl ?_
      refine A_skip (i := 8) rfl (by kernel_rfl) (by kernel_rfl) (by kernel_rfl) rfl hS rfl rfl rfl rfl ?_
      refine A_skip (i := 9) rfl (by kernel_rfl) (by kernel_rfl) (by kernel_rfl) rfl hS rfl rfl rfl rfl ?_
      refine A_skip (i := 10) rfl (by kernel_rfl) (by kernel_rfl) (by kernel_rfl) rfl hS rfl rfl rfl rfl ?_
      refine A_take (i := 11) rfl (by kernel_rfl) (by kernel_rfl) (by kernel_rfl) rfl hS (fun _ hw => r_pickFV (v := .bool _) rfl rfl) ?_
      refine A_done (by kernel_rfl) ?_
      refine W_else rfl ?_
      refine W_skip ?_
      refine ⟨?_, by repeat (first | with_reducible exact Out.refl _ _ | with_reducible exact Out.mix | refine Out.put rfl ?_ | refine Out.mixin rfl ?_ | exact Out.refl _ _ | exact Out.mix)⟩
      first
        | exact ⟨_, rfl, by rw [if_pos (by omega)], hX, B0_0, B0_1⟩
        | exact ⟨_, rfl, by rw [if_neg (by omega), if_pos (by omega)], hX, B0_0, B0_1⟩
        | exact ⟨_, rfl, by rw [if_neg (by omega), if_neg (by omega)]; omega, hX, B0_0, B0_1⟩
  rintro gift24 w' hJ
  obtain ⟨er, h8, her, hX', B0_0', B0_1'⟩ := hJ
  clear hX B0_0 B0_1
  have hX := hX'
  have B0_0 := B0_0'
  have B0_1 := B0_1'
  clear hX' B0_0' B0_1'
  refine W_set (i := 8) h8 ?_
  refine W_seq ?_
  refine W_seq ?_
  refine W_region ?_
  refine op rfl (r_moveV (v := .int _ _) rfl) ?_
  refine op rfl (r_neq rfl rfl) ?_
  refine WL_nil ?_
  refine W_ifp rfl (fun ht26 => ?_) (fun ht26 => ?_)
  · have hret : D.rappend a b = (D, er) := by
      unfold Dk.rappend
      by_cases h1 : D.may a ≠ 0
      · rw [if_pos h1] at her ⊢; rw [her]
      · rw [if_neg h1] at her ⊢
        by_cases h2 : D.used + b.length > D.room
        · rw [if_pos h2] at her ⊢; rw [her]
        · rw [if_neg h2] at her; exact absurd her ht26
    refine W_seq ?_
    refine W_region ?_
    refine op rfl (r_loadRow rfl B0_0 Try.underlying40 rfl Try.sz40) ?_
    refine op rfl (r_moveV (v := .int _ _) rfl) ?_
    refine op_storeRow rfl rfl Try.sz40 B0_1 rfl rfl ?_
    intro w5_2 C5_2 BB5_2
    replace B0_0 := Chg.blk C5_2 B0_0 hNb0_0_0_1
    replace hX := hX.chg C5_2 hG0_1
    replace B0_1 := BB5_2
    refine op rfl (r_assignV (v := .int _ _) rfl) ?_
    refine WL_nil ?_
    refine W_ret (finX_ret ?_)
    refine fin_cell1 rfl B0_1 Try.underlying40 rfl Try.sz40 ?_
    rw [hret]
    exact ⟨_, rfl, A, c, rfl, (h.ext hF hX).keep (fun _ _ => rfl) (fun b hb => Or.inl hb), hX⟩
  · have hmay : D.may a = 0 := Classical.byContradiction fun q => by rw [if_pos q] at her; omega
    have hfit : ¬ D.used + b.length > D.room := fun q => by rw [if_neg (fun z => z hmay), if_pos q] at her; omega
    have hth := may_there hmay
    obtain ⟨ha1, ha2⟩ := there_nat hth
    have ha0 : 0 ≤ a := by omega
    have hgo : D.rappend a b = (D.rgrow a.toNat b, (D.rgrow a.toNat b).may a) := by unfold Dk.rappend; rw [if_neg (fun z => z hmay), if_neg hfit]
    have hb4 : b.length ≤ 4194304 := by omega
    refine W_skip ?_
    refine W_seq ?_
    refine W_seq ?_
    refine W_region ?_
    refine op rfl (r_assignV (v := .int _ _) rfl) ?_
    refine WL_nil ?_
    refine W_block ?_
    refine W_loop [9, 29, 30, 31, 32, 33, 34, 35, 36, 37, 38, 39, 40, 41, 42, 43, 44, 45, 46, 47] (fun q e' w' => ∃ (j : Nat) (Dj : Dk) (Aj : Option Addr) (cj : Nat), q = b.length - j ∧ j ≤ b.length ∧ e' 9 = .int .i64 j ∧ D.rgrow a.toNat b = Dj.rgrow a.toNat (b.drop j) ∧ WF Dj (k + 2 * j) ∧ Dj.n = D.n ∧ Ext w w' ∧ Blk w' b0_0 (Dj.rc Aj cj) 40 ∧ Blk w' b0_1 rz 40 ∧ RA w' (Av (fun x => x = b0_0 ∨ x = b0_1) F w w') Aj cj Dj) (b.length) ?_ ?_
    · exact ⟨0, D, A, c, by omega, by omega, rfl, by rw [List.drop_zero], hw.mono (by omega), rfl, hX, B0_0, B0_1, h.init hF hX (fun x q => by rcases q with q | q <;> omega)⟩
    intro k g w' hI
    obtain ⟨j, Dj, Aj, cj, hq, hj, h9, hgr, hwj, hnj, hX', B0_0', B0_1', hRA⟩ := hI
    clear hX B0_0 B0_1
    have hX := hX'
    have B0_0 := B0_0'
    have B0_1 := B0_1'
    clear hX' B0_0' B0_1'
    have hX0 := hX
    have hl0 := Blk.lt B0_0
    have hl1 := Blk.lt B0_1
    refine W_set (i := 9) h9 ?_
    refine W_seq ?_
    refine W_seq ?_
    refine W_region ?_
    refine op rfl (r_moveV (v := .int _ _) rfl) ?_
    refine op rfl (r_moveV (v := .slice _ _ _) rfl) ?_
    refine op rfl (r_len_slice rfl Try.underlying23) ?_
    refine op rfl (r_lss rfl rfl) ?_
    refine op_split rfl (r_moveV (v := .bool (decide _)) rfl) (fun hg33 => ?_) (fun hg33 => ?_)
    · refine opG_yes rfl rfl rfl rfl rfl (r_fieldAddr rfl Try.fld40_4 rfl) ?_
      refine opG_yes rfl rfl rfl rfl rfl (r_load (v := .bool _) rfl Try.underlying4 rfl (Blk.cell B0_0 rfl)) ?_
      refine opG_yes rfl rfl rfl rfl rfl (r_notB (b := Dj.dead) rfl) ?_
      refine op rfl (r_pickTV (v := .bool _) rfl rfl) ?_
      refine WL_nil ?_
      refine W_if rfl (fun ht37 => ?_) (fun ht37 => ?_)
      · have hg33 : j < b.length := by omega
        obtain ⟨ga, oa, hAe, hga, _, hcell⟩ := Ty.Row.cell hb hg33
        have hcellA : ∀ u, Ext w u → u.cell? ⟨ga, oa + j, none⟩ = some (.int .u8 b[j].toNat) := fun u he => by rw [Below.cell he (hG ga hga)]; exact hcell
        refine W_skip ?_
        refine W_seq ?_
        refine W_block ?_
        refine W_drawF (W0 := w) (fun b : Nat => b = b0_1 ∨ False) Try.wd rfl ?_
        intro wd9 hD
        replace B0_0 := Blk.ext B0_0 hD
        replace B0_1 := Blk.ext B0_1 hD
        replace hX := hX.trans hD
        have DB0_1 := B0_1
        have hS : Ext w wd9 ∧ Same (fun b : Nat => b = b0_1 ∨ False) wd9 wd9 := ⟨hX, fun _ _ => rfl⟩
        refine A_take (i := 1) rfl (by kernel_rfl) (by kernel_rfl) (by kernel_rfl) rfl hS (fun _ hw => r_moveV (v := .int _ _) rfl) ?_
        refine A_take (i := 2) rfl (by kernel_rfl) (by kernel_rfl) (by kernel_rfl) rfl hS (fun _ hw => r_moveV (v := .slice _ _ _) rfl) ?_
        refine A_take (i := 3) rfl (by kernel_rfl) (by kernel_rfl) (by kernel_rfl) rfl hS (fun _ hw => r_moveV (v := .int _ _) rfl) ?_
        refine A_take (i := 4) rfl (by kernel_rfl) (by kernel_rfl) (by kernel_rfl) rfl hS (fun _ hw => r_indexAddr1 rfl rfl hAe Try.underlying23 Try.sz5 (by omega) (by omega)) ?_
        refine A_take (i := 5) rfl (by kernel_rfl) (by kernel_rfl) (by kernel_rfl) rfl hS (fun _ hw => r_load rfl Try.underlying5 rfl (hcellA _ hw.1)) ?_
        refine A_take (i := 6) rfl (by kernel_rfl) (by kernel_rfl) (by kernel_rfl) rfl hS (fun _ hw => r_build (cs := [.int _ _, .int _ _]) Try.lay88 (List.forall_mem_cons.2 ⟨rfl, List.forall_mem_cons.2 ⟨rfl, fun _ h => by cases h⟩⟩) rfl rfl) ?_
        refine A_ready1 (i := 0) (by kernel_rfl) ?_
        refine O_val rfl rfl (r_loadRow rfl B0_0 Try.underlying40 rfl Try.sz40) (hS) ?_
        refine A_ready1 (i := 7) (by kernel_rfl) ?_
        have hRA9 := hRA.more (w' := wd9) hF hX0 hD
        have hX9 := hX
        refine O_call rfl rfl (r_call Try.func44 Try.nm44 rfl) (rput_spec Dj Aj cj a (.grow b[j]) wd9 (Av.lt hF hX9) hRA9 hwj (by omega) ⟨ha0, by rw [hnj]; exact ha2⟩ trivial) ?_
        rintro v w9 ⟨A', c', rfl, hRA', hE⟩
        replace B0_0 := Blk.ext B0_0 hE
        replace B0_1 := Blk.ext B0_1 hE
        replace hX := hX.trans hE
        replace hS : Ext w w9 ∧ Same (fun b : Nat => b = b0_1 ∨ False) wd9 w9 := ⟨hX, fun b hb => Or.elim hb (fun q => by subst q; exact Blk.eq B0_1 DB0_1) (fun hb => hb.elim)⟩
        refine ⟨hS, ?_⟩
        have hE9 := hE
        refine A_ready1 (i := 8) (by kernel_rfl) ?_
        refine O_storeRow rfl rfl rfl Try.sz40 B0_0 rfl rfl ?_
        intro w9_8 C9_8 BB9_8
        replace B0_1 := Chg.blk C9_8 B0_1 (fun q => hNb0_0_0_1 q.symm)
        replace hX := hX.chg C9_8 hG0_0
        replace B0_0 := BB9_8
        replace hS : Ext w w9_8 ∧ Same (fun b : Nat => b = b0_1 ∨ False) wd9 w9_8 := ⟨hX, fun b hb => Or.elim hb (fun q => by subst q; exact Blk.eq B0_1 DB0_1) (fun hb => hb.elim)⟩
        refine ⟨hS, ?_⟩
        have hRA2 := hRA'.store (w' := w9_8) hF (fun x q => by have := hD.size; rcases q with q | q <;> omega) hX9 hE9 C9_8 (Or.inl rfl)
        refine A_done (by kernel_rfl) ?_
        refine W_region ?_
        refine op rfl (r_moveV (v := .int _ _) rfl) ?_
        refine op rfl (r_add' rfl rfl (wrap_i64 (by omega) (by omega))) ?_
        refine op rfl (r_assignV (v := .int _ _) rfl) ?_
        refine WL_nil ?_
        refine ⟨?_, by repeat (first | with_reducible exact Out.refl _ _ | with_reducible exact Out.mix | refine Out.put rfl ?_ | refine Out.mixin rfl ?_ | exact Out.refl _ _ | exact Out.mix)⟩
        refine ⟨b.length - (j + 1), by omega, j + 1, Dj.rput a.toNat (.grow b[j]), A', c', rfl, by omega, rfl, ?_, (hwj.rput (s := .grow b[j]) (by rw [hnj]; exact ha2) trivial).mono (by omega), by rw [rput_n]; exact hnj, hX, B0_0, B0_1, hRA2⟩
        have hnd : Dj.dead = false := by simpa using ht37
        rw [hgr, List.drop_eq_getElem_cons hg33]
        show (if Dj.dead = true then _ else _) = _
        rw [if_neg (by rw [hnd]; exact Bool.false_ne_true)]
      · refine W_exit (blk_hit ?_)
        refine W_seq ?_
        refine W_drawF (W0 := w) (fun b : Nat => b = b0_0 ∨ False) Try.wd rfl ?_
        intro wd10 hD
        replace B0_0 := Blk.ext B0_0 hD
        replace B0_1 := Blk.ext B0_1 hD
        replace hX := hX.trans hD
        have DB0_0 := B0_0
        have hS : Ext w wd10 ∧ Same (fun b : Nat => b = b0_0 ∨ False) wd10 wd10 := ⟨hX, fun _ _ => rfl⟩
        refine A_take (i := 0) rfl (by kernel_rfl) (by kernel_rfl) (by kernel_rfl) rfl hS (fun _ hw => r_loadRow rfl (Blk.at DB0_0 (hw.2 _ (Or.inl rfl))) Try.underlying40 rfl Try.sz40) ?_
        refine A_take (i := 1) rfl (by kernel_rfl) (by kernel_rfl) (by kernel_rfl) rfl hS (fun _ hw => r_loadRow rfl (Blk.at DB0_0 (hw.2 _ (Or.inl rfl))) Try.underlying40 rfl Try.sz40) ?_
        refine A_take (i := 2) rfl (by kernel_rfl) (by kernel_rfl) (by kernel_rfl) rfl hS (fun _ hw => r_moveV (v := .int _ _) rfl) ?_
        refine A_ready1 (i := 3) (by kernel_rfl) ?_
        have hRA10 := hRA.more (w' := wd10) hF hX0 hD
        have hX10 := hX
        refine O_call rfl rfl (r_call Try.func43 Try.nm43 rfl) (rmay_spec Dj Aj cj a _) ?_
        rintro v w6 ⟨rfl, hE⟩
        replace B0_0 := Blk.ext B0_0 hE
        replace B0_1 := Blk.ext B0_1 hE
        replace hX := hX.trans hE
        replace hS : Ext w w6 ∧ Same (fun b : Nat => b = b0_0 ∨ False) wd10 w6 := ⟨hX, fun b hb => Or.elim hb (fun q => by subst q; exact Blk.eq B0_0 DB0_0) (fun hb => hb.elim)⟩
        refine ⟨hS, ?_⟩
        have hRA11 := hRA10.more hF hX10 hE
        have hX11 := hX
        refine A_ready1 (i := 4) (by kernel_rfl) ?_
        refine O_storeRow rfl rfl rfl Try.sz40 B0_1 rfl rfl ?_
        intro w10_4 C10_4 BB10_4
        replace B0_0 := Chg.blk C10_4 B0_0 hNb0_0_0_1
        replace hX := hX.chg C10_4 hG0_1
        replace B0_1 := BB10_4
        replace hS : Ext w w10_4 ∧ Same (fun b : Nat => b = b0_0 ∨ False) wd10 w10_4 := ⟨hX, fun b hb => Or.elim hb (fun q => by subst q; exact Blk.eq B0_0 DB0_0) (fun hb => hb.elim)⟩
        refine ⟨hS, ?_⟩
        refine A_take (i := 5) rfl (by kernel_rfl) (by kernel_rfl) (by kernel_rfl) rfl hS (fun _ hw => r_assignV (v := .int _ _) rfl) ?_
        refine A_done (by kernel_rfl) ?_
        refine W_ret (finX_ret ?_)
        refine fin_cell1 rfl B0_1 Try.underlying40 rfl Try.sz40 ?_
        have hgf : D.rgrow a.toNat b = Dj := by
          rw [hgr]
          first
            | (have hjl : j = b.length := by omega
               rw [List.drop_of_length_le (by omega)]; rfl)
            | (have hnd : Dj.dead = true := by simpa using ht37
               rw [List.drop_eq_getElem_cons (show j < b.length by omega)]
               show (if Dj.dead = true then _ else _) = _
               rw [if_pos hnd])
        rw [hgo, hgf]
        exact ⟨_, rfl, Aj, cj, rfl, (hRA11.put hF hX11 C10_4 (Or.inr rfl)).av, hX⟩
    · refine opG_no rfl rfl rfl rfl rfl ?_
      refine opG_no rfl rfl rfl rfl rfl ?_
      refine opG_no rfl rfl rfl rfl rfl ?_
      refine op rfl (r_pickFV (v := .bool _) rfl rfl) ?_
      refine WL_nil ?_
      refine W_else rfl ?_
      refine W_exit (blk_hit ?_)
      refine W_seq ?_
      refine W_drawF (W0 := w) (fun b : Nat => b = b0_0 ∨ False) Try.wd rfl ?_
      intro wd10 hD
      replace B0_0 := Blk.ext B0_0 hD
      replace B0_1 := Blk.ext B0_1 hD
      replace hX := hX.trans hD
      have DB0_0 := B0_0
      have hS : Ext w wd10 ∧ Same (fun b : Nat => b = b0_0 ∨ False) wd10 wd10 := ⟨hX, fun _ _ => rfl⟩
      refine A_take (i := 0) rfl (by kernel_rfl) (by kernel_rfl) (by kernel_rfl) rfl hS (fun _ hw => r_loadRow rfl (Blk.at DB0_0 (hw.2 _ (Or.inl rfl))) Try.underlying40 rfl Try.sz40) ?_
      refine A_take (i := 1) rfl (by kernel_rfl) (by kernel_rfl) (by kernel_rfl) rfl hS (fun _ hw => r_loadRow rfl (Blk.at DB0_0 (hw.2 _ (Or.inl rfl))) Try.underlying40 rfl Try.sz40) ?_
      refine A_take (i := 2) rfl (by kernel_rfl) (by kernel_rfl) (by kernel_rfl) rfl hS (fun _ hw => r_moveV (v := .int _ _) rfl) ?_
      refine A_ready1 (i := 3) (by kernel_rfl) ?_
      have hRA10 := hRA.more (w' := wd10) hF hX0 hD
      have hX10 := hX
      refine O_call rfl rfl (r_call Try.func43 Try.nm43 rfl) (rmay_spec Dj Aj cj a _) ?_
      rintro v w6 ⟨rfl, hE⟩
      replace B0_0 := Blk.ext B0_0 hE
      replace B0_1 := Blk.ext B0_1 hE
      replace hX := hX.trans hE
      replace hS : Ext w w6 ∧ Same (fun b : Nat => b = b0_0 ∨ False) wd10 w6 := ⟨hX, fun b hb => Or.elim hb (fun q => by subst q; exact Blk.eq B0_0 DB0_0) (fun hb => hb.elim)⟩
      refine ⟨hS, ?_⟩
      have hRA11 := hRA10.more hF hX10 hE
      have hX11 := hX
      refine A_ready1 (i := 4) (by kernel_rfl) ?_
      refine O_storeRow rfl rfl rfl Try.sz40 B0_1 rfl rfl ?_
      intro w10_4 C10_4 BB10_4
      replace B0_0 := Chg.blk C10_4 B0_0 hNb0_0_0_1
      replace hX := hX.chg C10_4 hG0_1
      replace B0_1 := BB10_4
      replace hS : Ext w w10_4 ∧ Same (fun b : Nat => b = b0_0 ∨ False) wd10 w10_4 := ⟨hX, fun b hb => Or.elim hb (fun q => by subst q; exact Blk.eq B0_0 DB0_0) (fun hb => hb.elim)⟩
      refine ⟨hS, ?_⟩
      refine A_take (i := 5) rfl (by kernel_rfl) (by kernel_rfl) (by kernel_rfl) rfl hS (fun _ hw => r_assignV (v := .int _ _) rfl) ?_
      refine A_done (by kernel_rfl) ?_
      refine W_ret (finX_ret ?_)
      refine fin_cell1 rfl B0_1 Try.underlying40 rfl Try.sz40 ?_
      have hgf : D.rgrow a.toNat b = Dj := by
        rw [hgr]
        first
          | (have hjl : j = b.length := by omega
             rw [List.drop_of_length_le (by omega)]; rfl)
          | (have hnd : Dj.dead = true := by simpa using ht37
             rw [List.drop_eq_getElem_cons (show j < b.length by omega)]
             show (if Dj.dead = true then _ else _) = _
             rw [if_pos hnd])
      rw [hgo, hgf]
      exact ⟨_, rfl, Aj, cj, rfl, (hRA11.put hF hX11 C10_4 (Or.inr rfl)).av, hX⟩
theorem rcut_spec (D : Dk) (A : Option Addr) (c : Nat) (a n : Int) (w : World) {F : Nat → Prop} (hF : ∀ x, F x → x < w.heap.size) (h : RA w F A c D) {k : Nat} (hw : WF D k) (hk : k ≤ 536870912) :
    Calls Try.prog 39 #[D.rv A c, .int .i64 a, .int .i64 n] w (fun en w' => ∃ v, en = .returned v ∧ ∃ A' c', v = .tuple #[(D.rcut a n).1.rv A' c', .int .i64 (D.rcut a n).2] ∧ RA w' (Nw F w w') A' c' (D.rcut a n).1 ∧ Ext w w') := by
  refine calls' (n := 42) (rs := #[.cell 6 40, .tmp 7]) (l := [D.rv A c, .int .i64 a, .int .i64 n]) Try.func39 rfl rfl rfl rfl rfl ?_
  have hX := Ext.refl w
  refine W_seq ?_
  refine W_region ?_
  refine op_box (v := .agg _) rfl rfl ?_
  intro w0_0 b0_0 E0_0 B0_0 L0_0
  have hG0_0 : w.heap.size ≤ b0_0 := by have := hX.size; omega
  replace hX := hX.trans E0_0
  refine op_alloc rfl Try.zero40 ?_
  intro w0_1 b0_1 E0_1 B0_1 L0_1
  have hG0_1 : w.heap.size ≤ b0_1 := by have := hX.size; omega
  have hNb0_0_0_1 : b0_0 ≠ b0_1 := by have := Blk.lt B0_0; omega
  replace B0_0 := Blk.ext B0_0 E0_1
  replace hX := hX.trans E0_1
  refine op rfl (r_assignV (v := .int _ _) rfl) ?_
  refine WL_nil ?_
  refine W_seq ?_
  refine W_region ?_
  refine op rfl (r_loadRow rfl B0_0 Try.underlying40 rfl Try.sz40) ?_
  refine op rfl (r_moveV (v := .int _ _) rfl) ?_
  refine opCv rfl (r_call Try.func43 Try.nm43 rfl) (rmay_spec D A c a _) ?_
  rintro v w1 ⟨rfl, hE⟩
  replace B0_0 := Blk.ext B0_0 hE
  replace B0_1 := Blk.ext B0_1 hE
  replace hX := hX.trans hE
  refine op rfl (r_assignV (v := .int _ _) rfl) ?_
  refine WL_nil ?_
  refine W_cut [8, 12, 13, 14, 15, 16, 17, 18, 19, 20, 21, 22, 23, 24, 25, 26, 27, 28] (fun e' w' => ∃ er : Int, e' 8 = .int .i64 er ∧ er = (if D.may a ≠ 0 then D.may a else if n < 0 ∨ n > (D.ar a.toNat).now.length then 2 else 0) ∧ Ext w w' ∧ Blk w' b0_0 (D.rc A c) 40 ∧ Blk w' b0_1 rz 40) ?_ ?_
  · refine W_seq ?_
    refine W_region ?_
    refine op rfl (r_moveV (v := .int _ _) rfl) ?_
    refine op rfl (r_eql rfl rfl) ?_
    refine op_split rfl (r_moveV (v := .bool (decide _)) rfl) (fun hg14 => ?_) (fun hg14 => ?_)
    · refine opG_yes rfl rfl rfl rfl rfl (r_moveV (v := .int _ _) rfl) ?_
      refine opG_yes rfl rfl rfl rfl rfl (r_lss rfl rfl) ?_
      refine opG_split rfl rfl rfl rfl rfl (r_moveV (v := .bool (decide _)) rfl) (fun hg17 => ?_) (fun hg17 => ?_)
      · refine opG_no rfl rfl rfl rfl rfl ?_
        refine opG_no rfl rfl rfl rfl rfl ?_
        refine opG_no rfl rfl rfl rfl rfl ?_
        refine opG_no rfl rfl rfl rfl rfl ?_
        refine opG_no rfl rfl rfl rfl rfl ?_
        refine opG_no rfl rfl rfl rfl rfl ?_
        refine opG_no rfl rfl rfl rfl rfl ?_
        refine opG_no rfl rfl rfl rfl rfl ?_
        refine opG_no rfl rfl rfl rfl rfl ?_
        refine opG_yes rfl rfl rfl rfl rfl (r_pickTV (v := .bool _) rfl rfl) ?_
        refine op rfl (r_pickTV (v := .bool _) rfl rfl) ?_
        refine WL_nil ?_
        refine W_then rfl ?_
        refine W_region ?_
        refine op rfl (r_assignV (v := .int _ _) rfl) ?_
        refine WL_nil ?_
        refine ⟨?_, by repeat (first | with_reducible exact Out.refl _ _ | with_reducible exact Out.mix | refine Out.put rfl ?_ | refine Out.mixin rfl ?_ | exact Out.refl _ _ | exact Out.mix)⟩
        first
          | exact ⟨_, rfl, by rw [if_pos (by omega)], hX, B0_0, B0_1⟩
          | exact ⟨_, rfl, by rw [if_neg (by omega), if_pos (by omega)], hX, B0_0, B0_1⟩
          | exact ⟨_, rfl, by rw [if_neg (by omega), if_neg (by omega)]; omega, hX, B0_0, B0_1⟩
      · refine opG_yes rfl rfl rfl rfl rfl (r_moveV (v := .int _ _) rfl) ?_
        refine opG_yes rfl rfl rfl rfl rfl (r_fieldAddr rfl Try.fld40_0 rfl) ?_
        refine opG_yes rfl rfl rfl rfl rfl (r_load (v := .slice _ _ _) rfl Try.underlying38 rfl (Blk.cell B0_0 rfl)) ?_
        refine opG_yes rfl rfl rfl rfl rfl (r_moveV (v := .int _ _) rfl) ?_
        obtain ⟨ha1, ha2⟩ := there_nat (may_there hg14)
        obtain ⟨g, off, A1, c1, A2, c2, A3, c3, hA, hg, hc1, hr1, hc2, hr2, hc3, hr3, hcell⟩ := h.cells hF ha2
        obtain ⟨x1, x2, x3⟩ := hcell _ hX
        refine opG_yes rfl rfl rfl rfl rfl (r_indexAddrN rfl rfl hA Try.underlying38 Try.sz77 (by omega) (by omega)) ?_
        refine opG_yes rfl rfl rfl rfl rfl (r_fieldAddr rfl Try.fld77_0 rfl) ?_
        refine opG_yes rfl rfl rfl rfl rfl (r_load (v := .slice A1 (D.ar a.toNat).now.length c1) rfl Try.underlying23 rfl x1) ?_
        refine opG_yes rfl rfl rfl rfl rfl (r_len_slice rfl Try.underlying23) ?_
        refine opG_yes rfl rfl rfl rfl rfl (r_gtr rfl rfl) ?_
        refine opG_yes rfl rfl rfl rfl rfl (r_pickFV (v := .bool _) rfl rfl) ?_
        refine op rfl (r_pickTV (v := .bool _) rfl rfl) ?_
        refine WL_nil ?_
        refine W_ifp rfl (fun ht28 => ?_) (fun ht28 => ?_)
        · refine W_region ?_
          refine op rfl (r_assignV (v := .int _ _) rfl) ?_
          refine WL_nil ?_
          refine ⟨?_, by repeat (first | with_reducible exact Out.refl _ _ | with_reducible exact Out.mix | refine Out.put rfl ?_ | refine Out.mixin rfl ?_ | exact Out.refl _ _ | exact Out.mix)⟩
          first
            | exact ⟨_, rfl, by rw [if_pos (by omega)], hX, B0_0, B0_1⟩
            | exact ⟨_, rfl, by rw [if_neg (by omega), if_pos (by omega)], hX, B0_0, B0_1⟩
            | exact ⟨_, rfl, by rw [if_neg (by omega), if_neg (by omega)]; omega, hX, B0_0, B0_1⟩
        · refine W_skip ?_
          refine ⟨?_, by repeat (first | with_reducible exact Out.refl _ _ | with_reducible exact Out.mix | refine Out.put rfl ?_ | refine Out.mixin rfl ?_ | exact Out.refl _ _ | exact Out.mix)⟩
          first
            | exact ⟨_, rfl, by rw [if_pos (by omega)], hX, B0_0, B0_1⟩
            | exact ⟨_, rfl, by rw [if_neg (by omega), if_pos (by omega)], hX, B0_0, B0_1⟩
            | exact ⟨_, rfl, by rw [if_neg (by omega), if_neg (by omega)]; omega, hX, B0_0, B0_1⟩
    · refine opG_no rfl rfl rfl rfl rfl ?_
      refine opG_no rfl rfl rfl rfl rfl ?_
      refine opG_no rfl rfl rfl rfl rfl ?_
      refine opG_none rfl rfl rfl rfl ?_
      refine opG_none rfl rfl rfl rfl ?_
      refine opG_none rfl rfl rfl rfl ?_
      refine opG_none rfl rfl rfl rfl ?_
      refine opG_none rfl rfl rfl rfl ?_
      refine opG_none rfl rfl rfl rfl ?_
      refine opG_none rfl rfl rfl rfl ?_
      refine opG_none rfl rfl rfl rfl ?_
      refine opG_none rfl rfl rfl rfl ?_
      refine opG_no rfl rfl rfl rfl rfl ?_
      refine op rfl (r_pickFV (v := .bool _) rfl rfl) ?_
      refine WL_nil ?_
      refine W_else rfl ?_
      refine W_skip ?_
      refine ⟨?_, by repeat (first | with_reducible exact Out.refl _ _ | with_reducible exact Out.mix | refine Out.put rfl ?_ | refine Out.mixin rfl ?_ | exact Out.refl _ _ | exact Out.mix)⟩
      first
        | exact ⟨_, rfl, by rw [if_pos (by omega)], hX, B0_0, B0_1⟩
        | exact ⟨_, rfl, by rw [if_neg (by omega), if_pos (by omega)], hX, B0_0, B0_1⟩
        | exact ⟨_, rfl, by rw [if_neg (by omega), if_neg (by omega)]; omega, hX, B0_0, B0_1⟩
  rintro gift28 w' hJ
  obtain ⟨er, h8, her, hX', B0_0', B0_1'⟩ := hJ
  clear hX B0_0 B0_1
  have hX := hX'
  have B0_0 := B0_0'
  have B0_1 := B0_1'
  clear hX' B0_0' B0_1'
  refine W_set (i := 8) h8 ?_
  refine W_seq ?_
  refine W_seq ?_
  refine W_region ?_
  refine op rfl (r_moveV (v := .int _ _) rfl) ?_
  refine op rfl (r_neq rfl rfl) ?_
  refine WL_nil ?_
  refine W_ifp rfl (fun ht30 => ?_) (fun ht30 => ?_)
  · have hret : D.rcut a n = (D, er) := by
      unfold Dk.rcut
      by_cases h1 : D.may a ≠ 0
      · rw [if_pos h1] at her ⊢; rw [her]
      · rw [if_neg h1] at her ⊢
        by_cases h2 : n < 0 ∨ n > (D.ar a.toNat).now.length
        · rw [if_pos h2] at her ⊢; rw [her]
        · rw [if_neg h2] at her; exact absurd her ht30
    refine W_seq ?_
    refine W_region ?_
    refine op rfl (r_loadRow rfl B0_0 Try.underlying40 rfl Try.sz40) ?_
    refine op rfl (r_moveV (v := .int _ _) rfl) ?_
    refine op_storeRow rfl rfl Try.sz40 B0_1 rfl rfl ?_
    intro w5_2 C5_2 BB5_2
    replace B0_0 := Chg.blk C5_2 B0_0 hNb0_0_0_1
    replace hX := hX.chg C5_2 hG0_1
    replace B0_1 := BB5_2
    refine op rfl (r_assignV (v := .int _ _) rfl) ?_
    refine WL_nil ?_
    refine W_ret (finX_ret ?_)
    refine fin_cell1 rfl B0_1 Try.underlying40 rfl Try.sz40 ?_
    rw [hret]
    exact ⟨_, rfl, A, c, rfl, (h.ext hF hX).keep (fun _ _ => rfl) (fun b hb => Or.inl hb), hX⟩
  · have hmay : D.may a = 0 := Classical.byContradiction fun q => by rw [if_pos q] at her; omega
    have hfit : ¬ (n < 0 ∨ n > (D.ar a.toNat).now.length) := fun q => by rw [if_neg (fun z => z hmay), if_pos q] at her; omega
    have hth := may_there hmay
    obtain ⟨ha1, ha2⟩ := there_nat hth
    have ha0 : 0 ≤ a := by omega
    have hgo : D.rcut a n = (D.rput a.toNat (.cut n.toNat), (D.rput a.toNat (.cut n.toNat)).may a) := by unfold Dk.rcut; rw [if_neg (fun z => z hmay), if_neg hfit]
    have hl0 := Blk.lt B0_0
    have hl1 := Blk.lt B0_1
    have hX6 := hX
    have hRA6 : RA w' (Av (fun x => x = b0_0 ∨ x = b0_1) F w w') A c D := h.init hF hX (fun x q => by rcases q with q | q <;> omega)
    have hnn : ((n.toNat : Nat) : Int) = n := by omega
    have PC := rput_spec D A c a (.cut n.toNat) w' (Av.lt hF hX) hRA6 hw (by omega) ⟨ha0, ha2⟩ (show n.toNat ≤ _ by omega)
    have e : (St.cut n.toNat).rv = .agg #[.int .u8 0, .int .i64 n] := by show Value.agg #[.int .u8 0, .int .i64 ((n.toNat : Nat) : Int)] = _; rw [hnn]
    rw [e] at PC
    refine W_skip ?_
    refine W_seq ?_
    refine W_region ?_
    refine op rfl (r_loadRow rfl B0_0 Try.underlying40 rfl Try.sz40) ?_
    refine op rfl (r_moveV (v := .int _ _) rfl) ?_
    refine op rfl (r_moveV (v := .int _ _) rfl) ?_
    refine op rfl (r_build (cs := [.int _ _, .int _ _]) Try.lay88 (List.forall_mem_cons.2 ⟨rfl, fun _ h => by cases h⟩) rfl rfl) ?_
    refine opCv rfl (r_call Try.func44 Try.nm44 rfl) (PC) ?_
    rintro v w9 ⟨A', c', rfl, hRA', hE⟩
    replace B0_0 := Blk.ext B0_0 hE
    replace B0_1 := Blk.ext B0_1 hE
    replace hX := hX.trans hE
    have hE9 := hE
    refine op_storeRow rfl rfl Try.sz40 B0_0 rfl rfl ?_
    intro w6_5 C6_5 BB6_5
    replace B0_1 := Chg.blk C6_5 B0_1 (fun q => hNb0_0_0_1 q.symm)
    replace hX := hX.chg C6_5 hG0_0
    replace B0_0 := BB6_5
    have hRA2 := hRA'.store (w' := w6_5) hF (fun x q => by rcases q with q | q <;> omega) hX6 hE9 C6_5 (Or.inl rfl)
    have hX7 := hX
    refine WL_nil ?_
    refine W_seq ?_
    refine W_drawF (W0 := w) (fun b : Nat => b = b0_0 ∨ False) Try.wd rfl ?_
    intro wd7 hD
    replace B0_0 := Blk.ext B0_0 hD
    replace B0_1 := Blk.ext B0_1 hD
    replace hX := hX.trans hD
    have DB0_0 := B0_0
    have hS : Ext w wd7 ∧ Same (fun b : Nat => b = b0_0 ∨ False) wd7 wd7 := ⟨hX, fun _ _ => rfl⟩
    refine A_take (i := 0) rfl (by kernel_rfl) (by kernel_rfl) (by kernel_rfl) rfl hS (fun _ hw => r_loadRow rfl (Blk.at DB0_0 (hw.2 _ (Or.inl rfl))) Try.underlying40 rfl Try.sz40) ?_
    refine A_take (i := 1) rfl (by kernel_rfl) (by kernel_rfl) (by kernel_rfl) rfl hS (fun _ hw => r_loadRow rfl (Blk.at DB0_0 (hw.2 _ (Or.inl rfl))) Try.underlying40 rfl Try.sz40) ?_
    refine A_take (i := 2) rfl (by kernel_rfl) (by kernel_rfl) (by kernel_rfl) rfl hS (fun _ hw => r_moveV (v := .int _ _) rfl) ?_
    refine A_ready1 (i := 3) (by kernel_rfl) ?_
    have hRA10 := hRA2.more (w' := wd7) hF hX7 hD
    have hX10 := hX
    refine O_call rfl rfl (r_call Try.func43 Try.nm43 rfl) (rmay_spec (D.rput a.toNat (.cut n.toNat)) A' c' a _) ?_
    rintro v w6 ⟨rfl, hE⟩
    replace B0_0 := Blk.ext B0_0 hE
    replace B0_1 := Blk.ext B0_1 hE
    replace hX := hX.trans hE
    replace hS : Ext w w6 ∧ Same (fun b : Nat => b = b0_0 ∨ False) wd7 w6 := ⟨hX, fun b hb => Or.elim hb (fun q => by subst q; exact Blk.eq B0_0 DB0_0) (fun hb => hb.elim)⟩
    refine ⟨hS, ?_⟩
    have hRA11 := hRA10.more hF hX10 hE
    have hX11 := hX
    refine A_ready1 (i := 4) (by kernel_rfl) ?_
    refine O_storeRow rfl rfl rfl Try.sz40 B0_1 rfl rfl ?_
    intro w7_4 C7_4 BB7_4
    replace B0_0 := Chg.blk C7_4 B0_0 hNb0_0_0_1
    replace hX := hX.chg C7_4 hG0_1
    replace B0_1 := BB7_4
    replace hS : Ext w w7_4 ∧ Same (fun b : Nat => b = b0_0 ∨ False) wd7 w7_4 := ⟨hX, fun b hb => Or.elim hb (fun q => by subst q; exact Blk.eq B0_0 DB0_0) (fun hb => hb.elim)⟩
    refine ⟨hS, ?_⟩
    refine A_take (i := 5) rfl (by kernel_rfl) (by kernel_rfl) (by kernel_rfl) rfl hS (fun _ hw => r_assignV (v := .int _ _) rfl) ?_
    refine A_done (by kernel_rfl) ?_
    refine W_ret (finX_ret ?_)
    refine fin_cell1 rfl B0_1 Try.underlying40 rfl Try.sz40 ?_
    rw [hgo]
    exact ⟨_, rfl, A', c', rfl, (hRA11.put hF hX11 C7_4 (Or.inr rfl)).av, hX⟩
theorem rsync_spec (D : Dk) (A : Option Addr) (c : Nat) (a : Int) (w : World) {F : Nat → Prop} (hF : ∀ x, F x → x < w.heap.size) (h : RA w F A c D) {k : Nat} (hw : WF D k) (hk : k ≤ 536870912) :
    Calls Try.prog 40 #[D.rv A c, .int .i64 a] w (fun en w' => ∃ v, en = .returned v ∧ ∃ A' c', v = .tuple #[(D.rsync a).1.rv A' c', .int .i64 (D.rsync a).2] ∧ RA w' (Nw F w w') A' c' (D.rsync a).1 ∧ Ext w w') := by
  have hp1 := hw.p1
  have hp2 := hw.p2
  have hn8 := hw.n8
  have hn1 : D.runit.1.n ≤ 8 := by rw [runit_n]; exact hn8
  refine calls' (n := 42) (rs := #[.cell 4 40, .tmp 5]) (l := [D.rv A c, .int .i64 a]) Try.func40 rfl rfl rfl rfl rfl ?_
  have hX := Ext.refl w
  refine W_seq ?_
  refine W_region ?_
  refine op_box (v := .agg _) rfl rfl ?_
  intro w0_0 b0_0 E0_0 B0_0 L0_0
  have hG0_0 : w.heap.size ≤ b0_0 := by have := hX.size; omega
  replace hX := hX.trans E0_0
  refine op_alloc rfl Try.zero40 ?_
  intro w0_1 b0_1 E0_1 B0_1 L0_1
  have hG0_1 : w.heap.size ≤ b0_1 := by have := hX.size; omega
  have hNb0_0_0_1 : b0_0 ≠ b0_1 := by have := Blk.lt B0_0; omega
  replace B0_0 := Blk.ext B0_0 E0_1
  replace hX := hX.trans E0_1
  refine op rfl (r_assignV (v := .int _ _) rfl) ?_
  refine WL_nil ?_
  refine W_seq ?_
  refine W_region ?_
  refine op rfl (r_loadRow rfl B0_0 Try.underlying40 rfl Try.sz40) ?_
  refine op rfl (r_moveV (v := .int _ _) rfl) ?_
  refine opCv rfl (r_call Try.func43 Try.nm43 rfl) (rmay_spec D A c a _) ?_
  rintro v w1 ⟨rfl, hE⟩
  replace B0_0 := Blk.ext B0_0 hE
  replace B0_1 := Blk.ext B0_1 hE
  replace hX := hX.trans hE
  refine op rfl (r_assignV (v := .int _ _) rfl) ?_
  refine WL_nil ?_
  refine W_seq ?_
  refine W_seq ?_
  refine W_region ?_
  refine op rfl (r_moveV (v := .int _ _) rfl) ?_
  refine op rfl (r_neq rfl rfl) ?_
  refine WL_nil ?_
  refine W_ifp rfl (fun ht13 => ?_) (fun ht13 => ?_)
  · have hret : D.rsync a = (D, D.may a) := by unfold Dk.rsync; rw [if_pos ht13]
    refine W_seq ?_
    refine W_region ?_
    refine op rfl (r_loadRow rfl B0_0 Try.underlying40 rfl Try.sz40) ?_
    refine op rfl (r_moveV (v := .int _ _) rfl) ?_
    refine op_storeRow rfl rfl Try.sz40 B0_1 rfl rfl ?_
    intro w3_2 C3_2 BB3_2
    replace B0_0 := Chg.blk C3_2 B0_0 hNb0_0_0_1
    replace hX := hX.chg C3_2 hG0_1
    replace B0_1 := BB3_2
    refine op rfl (r_assignV (v := .int _ _) rfl) ?_
    refine WL_nil ?_
    refine W_ret (finX_ret ?_)
    refine fin_cell1 rfl B0_1 Try.underlying40 rfl Try.sz40 ?_
    rw [hret]
    exact ⟨_, rfl, A, c, rfl, (h.ext hF hX).keep (fun _ _ => rfl) (fun b hb => Or.inl hb), hX⟩
  · have hmay : D.may a = 0 := Classical.byContradiction ht13
    have hth := may_there hmay
    obtain ⟨ha1, ha2⟩ := there_nat hth
    have ha0 : 0 ≤ a := by omega
    have ha' : 0 ≤ a ∧ a.toNat < D.runit.1.n := by rw [runit_n]; exact ⟨ha0, ha2⟩
    have h1 : RA w F A c D.runit.1 := h.eq (runit_n D) (runit_ar D)
    refine W_skip ?_
    refine W_seq ?_
    refine W_region ?_
    refine op rfl (r_loadRow rfl B0_0 Try.underlying40 rfl Try.sz40) ?_
    refine opCv rfl (r_call Try.func45 Try.nm45 rfl) (runit_spec D A c _ (by omega) (by omega)) ?_
    rintro v w2 ⟨rfl, hE⟩
    replace B0_0 := Blk.ext B0_0 hE
    replace B0_1 := Blk.ext B0_1 hE
    replace hX := hX.trans hE
    refine op rfl (r_moveV (v := .tuple #[D.runit.1.rv A c, .bool D.runit.2]) rfl) ?_
    refine op rfl (r_extract (vs := [D.runit.1.rv A c, .bool D.runit.2]) rfl rfl) ?_
    refine op rfl (r_extract (vs := [D.runit.1.rv A c, .bool D.runit.2]) rfl rfl) ?_
    refine op_alloc rfl Try.zero40 ?_
    intro w4_5 b4_5 E4_5 B4_5 L4_5
    have hG4_5 : w.heap.size ≤ b4_5 := by have := hX.size; omega
    have hNb0_0_4_5 : b0_0 ≠ b4_5 := by have := Blk.lt B0_0; omega
    replace B0_0 := Blk.ext B0_0 E4_5
    have hNb0_1_4_5 : b0_1 ≠ b4_5 := by have := Blk.lt B0_1; omega
    replace B0_1 := Blk.ext B0_1 E4_5
    replace hX := hX.trans E4_5
    refine op_storeRow rfl rfl Try.sz40 B4_5 rfl rfl ?_
    intro w4_6 C4_6 BB4_6
    replace B0_0 := Chg.blk C4_6 B0_0 hNb0_0_4_5
    replace B0_1 := Chg.blk C4_6 B0_1 hNb0_1_4_5
    replace hX := hX.chg C4_6 hG4_5
    replace B4_5 := BB4_6
    refine op rfl (r_assignV (v := .bool D.runit.2) rfl) ?_
    have hRA4 : RA w4_6 (Av (fun x => x = b4_5 ∨ x = b0_1) F w w4_6) A c D.runit.1 := h1.init hF hX (fun x q => by rcases q with q | q <;> omega)
    have hX4 := hX
    have hl4 := Blk.lt B4_5
    have hl1 := Blk.lt B0_1
    refine WL_nil ?_
    refine W_seq ?_
    refine W_seq ?_
    refine W_region ?_
    refine op rfl (r_moveV (v := .bool D.runit.2) rfl) ?_
    refine WL_nil ?_
    refine W_if rfl (fun ht21 => ?_) (fun ht21 => ?_)
    · have hgo : D.rsync a = (D.runit.1.synced a.toNat, (D.runit.1.synced a.toNat).may a) := by unfold Dk.rsync; rw [if_neg ht13, if_pos ht21]
      obtain ⟨g, off, A1, c1, A2, c2, A3, c3, hA, hg, hc1, hr1, hc2, hr2, hc3, hr3, hcell⟩ := h1.cells hF ha'.2
      refine W_drawF (W0 := w) (fun b : Nat => b = b0_0 ∨ b = b0_1 ∨ False) Try.wd rfl ?_
      intro wd6 hD
      replace B0_0 := Blk.ext B0_0 hD
      replace B0_1 := Blk.ext B0_1 hD
      replace B4_5 := Blk.ext B4_5 hD
      replace hX := hX.trans hD
      have DB0_0 := B0_0
      have DB0_1 := B0_1
      have hS : Ext w wd6 ∧ Same (fun b : Nat => b = b0_0 ∨ b = b0_1 ∨ False) wd6 wd6 := ⟨hX, fun _ _ => rfl⟩
      refine A_take (i := 1) rfl (by kernel_rfl) (by kernel_rfl) (by kernel_rfl) rfl hS (fun _ hw => r_moveV (v := .int _ _) rfl) ?_
      refine A_take (i := 2) rfl (by kernel_rfl) (by kernel_rfl) (by kernel_rfl) rfl hS (fun _ hw => r_fieldAddr rfl Try.fld40_0 rfl) ?_
      refine A_take (i := 4) rfl (by kernel_rfl) (by kernel_rfl) (by kernel_rfl) rfl hS (fun _ hw => r_moveV (v := .int _ _) rfl) ?_
      refine A_take (i := 8) rfl (by kernel_rfl) (by kernel_rfl) (by kernel_rfl) rfl hS (fun _ hw => r_fieldAddr rfl Try.fld40_0 rfl) ?_
      refine A_take (i := 10) rfl (by kernel_rfl) (by kernel_rfl) (by kernel_rfl) rfl hS (fun _ hw => r_moveV (v := .int _ _) rfl) ?_
      refine A_ready3 (i := 0) (j := 3) (k := 9) (by kernel_rfl) ?_ ?_ ?_
      · refine O_val rfl rfl (r_loadRow rfl B4_5 Try.underlying40 rfl Try.sz40) (hS) ?_
        refine A_ready2 (i := 3) (j := 9) (by kernel_rfl) ?_ ?_
        · refine O_val rfl rfl (r_load (v := .slice _ _ _) rfl Try.underlying38 rfl (Blk.cell B4_5 rfl)) (hS) ?_
          refine A_take (i := 5) rfl (by kernel_rfl) (by kernel_rfl) (by kernel_rfl) rfl hS (fun _ hw => r_indexAddrN rfl rfl hA Try.underlying38 Try.sz77 (by omega) (by omega)) ?_
          refine A_take (i := 6) rfl (by kernel_rfl) (by kernel_rfl) (by kernel_rfl) rfl hS (fun _ hw => r_fieldAddr rfl Try.fld77_0 rfl) ?_
          refine A_take (i := 7) rfl (by kernel_rfl) (by kernel_rfl) (by kernel_rfl) rfl hS (fun _ hw => r_load (v := .slice A1 (D.runit.1.ar a.toNat).now.length c1) rfl Try.underlying23 rfl (hcell _ hw.1).1) ?_
          refine A_ready1 (i := 9) (by kernel_rfl) ?_
          refine O_val rfl rfl (r_load (v := .slice _ _ _) rfl Try.underlying38 rfl (Blk.cell B4_5 rfl)) (hS) ?_
          refine A_take (i := 11) rfl (by kernel_rfl) (by kernel_rfl) (by kernel_rfl) rfl hS (fun _ hw => r_indexAddrN rfl rfl hA Try.underlying38 Try.sz77 (by omega) (by omega)) ?_
          refine A_take (i := 12) rfl (by kernel_rfl) (by kernel_rfl) (by kernel_rfl) rfl hS (fun _ hw => r_fieldAddr rfl Try.fld77_0 rfl) ?_
          refine A_take (i := 13) rfl (by kernel_rfl) (by kernel_rfl) (by kernel_rfl) rfl hS (fun _ hw => r_load (v := .slice A1 (D.runit.1.ar a.toNat).now.length c1) rfl Try.underlying23 rfl (hcell _ hw.1).1) ?_
          refine A_take (i := 14) rfl (by kernel_rfl) (by kernel_rfl) (by kernel_rfl) rfl hS (fun _ hw => r_build (cs := [.slice _ _ _, .slice _ _ _, .slice _ _ _]) Try.lay77 (List.forall_mem_cons.2 ⟨rfl, List.forall_mem_cons.2 ⟨rfl, fun _ h => by cases h⟩⟩) rfl rfl) ?_
          refine A_ready1 (i := 15) (by kernel_rfl) ?_
          have hX6 := hX
          have hRA6 := hRA4.more (w' := wd6) hF hX4 hD
          have sl1 : SL Ty.byte wd6 (Av (fun x => x = b4_5 ∨ x = b0_1) F w wd6) (.slice A1 (D.runit.1.ar a.toNat).now.length c1) (D.runit.1.ar a.toNat).now := ⟨A1, c1, rfl, hc1, hr1.keep (fun b hb => hX.block b (hF b hb)) (fun b hb => ⟨fun q => by have := hF b hb; rcases q with q | q <;> omega, Or.inl hb⟩)⟩
          have hszd := hD.size
          refine O_call rfl rfl (r_call Try.func46 Try.nm46 rfl) (rset_spec D.runit.1 A c a ⟨(D.runit.1.ar a.toNat).now, (D.runit.1.ar a.toNat).now, []⟩ _ _ _ wd6 (Av.lt hF hX6) hRA6 hn1 ha' sl1 sl1 ⟨none, 0, rfl, Nat.le_refl _, Ty.Row.nil⟩) ?_
          rintro v w9 ⟨A', c', rfl, hRA', hE⟩
          replace B0_0 := Blk.ext B0_0 hE
          replace B0_1 := Blk.ext B0_1 hE
          replace B4_5 := Blk.ext B4_5 hE
          replace hX := hX.trans hE
          replace hS : Ext w w9 ∧ Same (fun b : Nat => b = b0_0 ∨ b = b0_1 ∨ False) wd6 w9 := ⟨hX, fun b hb => Or.elim hb (fun q => by subst q; exact Blk.eq B0_0 DB0_0) (fun hb => Or.elim hb (fun q => by subst q; exact Blk.eq B0_1 DB0_1) (fun hb => hb.elim))⟩
          refine ⟨hS, ?_⟩
          have hE9 := hE
          refine A_ready1 (i := 16) (by kernel_rfl) ?_
          refine O_storeRow rfl rfl rfl Try.sz40 B4_5 rfl rfl ?_
          intro w6_16 C6_16 BB6_16
          replace B0_0 := Chg.blk C6_16 B0_0 hNb0_0_4_5
          replace B0_1 := Chg.blk C6_16 B0_1 hNb0_1_4_5
          replace hX := hX.chg C6_16 hG4_5
          replace B4_5 := BB6_16
          replace hS : Ext w w6_16 ∧ Same (fun b : Nat => b = b0_0 ∨ b = b0_1 ∨ False) wd6 w6_16 := ⟨hX, fun b hb => Or.elim hb (fun q => by subst q; exact Blk.eq B0_0 DB0_0) (fun hb => Or.elim hb (fun q => by subst q; exact Blk.eq B0_1 DB0_1) (fun hb => hb.elim))⟩
          refine ⟨hS, ?_⟩
          have hRA2 := hRA'.store (w' := w6_16) hF (fun x q => by rcases q with q | q <;> omega) hX6 hE9 C6_16 (Or.inl rfl)
          have hX7 := hX
          refine A_done (by kernel_rfl) ?_
          refine W_seq ?_
          refine W_drawF (W0 := w) (fun b : Nat => b = b0_0 ∨ b = b4_5 ∨ False) Try.wd rfl ?_
          intro wd7 hD
          replace B0_0 := Blk.ext B0_0 hD
          replace B0_1 := Blk.ext B0_1 hD
          replace B4_5 := Blk.ext B4_5 hD
          replace hX := hX.trans hD
          have DB0_0 := B0_0
          have DB4_5 := B4_5
          have hS : Ext w wd7 ∧ Same (fun b : Nat => b = b0_0 ∨ b = b4_5 ∨ False) wd7 wd7 := ⟨hX, fun _ _ => rfl⟩
          refine A_take (i := 0) rfl (by kernel_rfl) (by kernel_rfl) (by kernel_rfl) rfl hS (fun _ hw => r_loadRow rfl (Blk.at DB4_5 (hw.2 _ (Or.inr (Or.inl rfl)))) Try.underlying40 rfl Try.sz40) ?_
          refine A_take (i := 1) rfl (by kernel_rfl) (by kernel_rfl) (by kernel_rfl) rfl hS (fun _ hw => r_loadRow rfl (Blk.at DB4_5 (hw.2 _ (Or.inr (Or.inl rfl)))) Try.underlying40 rfl Try.sz40) ?_
          refine A_take (i := 2) rfl (by kernel_rfl) (by kernel_rfl) (by kernel_rfl) rfl hS (fun _ hw => r_moveV (v := .int _ _) rfl) ?_
          refine A_ready1 (i := 3) (by kernel_rfl) ?_
          have hRA10 := hRA2.more (w' := wd7) hF hX7 hD
          have hX10 := hX
          refine O_call rfl rfl (r_call Try.func43 Try.nm43 rfl) (rmay_spec _ _ _ a _) ?_
          rintro v w6 ⟨rfl, hE⟩
          replace B0_0 := Blk.ext B0_0 hE
          replace B0_1 := Blk.ext B0_1 hE
          replace B4_5 := Blk.ext B4_5 hE
          replace hX := hX.trans hE
          replace hS : Ext w w6 ∧ Same (fun b : Nat => b = b0_0 ∨ b = b4_5 ∨ False) wd7 w6 := ⟨hX, fun b hb => Or.elim hb (fun q => by subst q; exact Blk.eq B0_0 DB0_0) (fun hb => Or.elim hb (fun q => by subst q; exact Blk.eq B4_5 DB4_5) (fun hb => hb.elim))⟩
          refine ⟨hS, ?_⟩
          have hRA11 := hRA10.more hF hX10 hE
          have hX11 := hX
          refine A_ready1 (i := 4) (by kernel_rfl) ?_
          refine O_storeRow rfl rfl rfl Try.sz40 B0_1 rfl rfl ?_
          intro w7_4 C7_4 BB7_4
          replace B0_0 := Chg.blk C7_4 B0_0 hNb0_0_0_1
          replace B4_5 := Chg.blk C7_4 B4_5 (fun q => hNb0_1_4_5 q.symm)
          replace hX := hX.chg C7_4 hG0_1
          replace B0_1 := BB7_4
          replace hS : Ext w w7_4 ∧ Same (fun b : Nat => b = b0_0 ∨ b = b4_5 ∨ False) wd7 w7_4 := ⟨hX, fun b hb => Or.elim hb (fun q => by subst q; exact Blk.eq B0_0 DB0_0) (fun hb => Or.elim hb (fun q => by subst q; exact Blk.eq B4_5 DB4_5) (fun hb => hb.elim))⟩
          refine ⟨hS, ?_⟩
          refine A_take (i := 5) rfl (by kernel_rfl) (by kernel_rfl) (by kernel_rfl) rfl hS (fun _ hw => r_assignV (v := .int _ _) rfl) ?_
          refine A_done (by kernel_rfl) ?_
          refine W_ret (finX_ret ?_)
          refine fin_cell1 rfl B0_1 Try.underlying40 rfl Try.sz40 ?_
          rw [hgo]
          exact ⟨_, rfl, _, _, rfl, (hRA11.put hF hX11 C7_4 (Or.inr rfl)).av, hX⟩
        · refine O_val rfl rfl (r_load (v := .slice _ _ _) rfl Try.underlying38 rfl (Blk.cell B4_5 rfl)) (hS) ?_
          refine A_take (i := 11) rfl (by kernel_rfl) (by kernel_rfl) (by kernel_rfl) rfl hS (fun _ hw => r_indexAddrN rfl rfl hA Try.underlying38 Try.sz77 (by omega) (by omega)) ?_
          refine A_take (i := 12) rfl (by kernel_rfl) (by kernel_rfl) (by kernel_rfl) rfl hS (fun _ hw => r_fieldAddr rfl Try.fld77_0 rfl) ?_
          refine A_take (i := 13) rfl (by kernel_rfl) (by kernel_rfl) (by kernel_rfl) rfl hS (fun _ hw => r_load (v := .slice A1 (D.runit.1.ar a.toNat).now.length c1) rfl Try.underlying23 rfl (hcell _ hw.1).1) ?_
          refine A_ready1 (i := 3) (by kernel_rfl) ?_
          refine O_val rfl rfl (r_load (v := .slice _ _ _) rfl Try.underlying38 rfl (Blk.cell B4_5 rfl)) (hS) ?_
          refine A_take (i := 5) rfl (by kernel_rfl) (by kernel_rfl) (by kernel_rfl) rfl hS (fun _ hw => r_indexAddrN rfl rfl hA Try.underlying38 Try.sz77 (by omega) (by omega)) ?_
          refine A_take (i := 6) rfl (by kernel_rfl) (by kernel_rfl) (by kernel_rfl) rfl hS (fun _ hw => r_fieldAddr rfl Try.fld77_0 rfl) ?_
          refine A_take (i := 7) rfl (by kernel_rfl) (by kernel_rfl) (by kernel_rfl) rfl hS (fun _ hw => r_load (v := .slice A1 (D.runit.1.ar a.toNat).now.length c1) rfl Try.underlying23 rfl (hcell _ hw.1).1) ?_
          refine A_take (i := 14) rfl (by kernel_rfl) (by kernel_rfl) (by kernel_rfl) rfl hS (fun _ hw => r_build (cs := [.slice _ _ _, .slice _ _ _, .slice _ _ _]) Try.lay77 (List.forall_mem_cons.2 ⟨rfl, List.forall_mem_cons.2 ⟨rfl, fun _ h => by cases h⟩⟩) rfl rfl) ?_
          refine A_ready1 (i := 15) (by kernel_rfl) ?_
          have hX6 := hX
          have hRA6 := hRA4.more (w' := wd6) hF hX4 hD
          have sl1 : SL Ty.byte wd6 (Av (fun x => x = b4_5 ∨ x = b0_1) F w wd6) (.slice A1 (D.runit.1.ar a.toNat).now.length c1) (D.runit.1.ar a.toNat).now := ⟨A1, c1, rfl, hc1, hr1.keep (fun b hb => hX.block b (hF b hb)) (fun b hb => ⟨fun q => by have := hF b hb; rcases q with q | q <;> omega, Or.inl hb⟩)⟩
          have hszd := hD.size
          refine O_call rfl rfl (r_call Try.func46 Try.nm46 rfl) (rset_spec D.runit.1 A c a ⟨(D.runit.1.ar a.toNat).now, (D.runit.1.ar a.toNat).now, []⟩ _ _ _ wd6 (Av.lt hF hX6) hRA6 hn1 ha' sl1 sl1 ⟨none, 0, rfl, Nat.le_refl _, Ty.Row.nil⟩) ?_
          rintro v w9 ⟨A', c', rfl, hRA', hE⟩
          replace B0_0 := Blk.ext B0_0 hE
          replace B0_1 := Blk.ext B0_1 hE
          replace B4_5 := Blk.ext B4_5 hE
          replace hX := hX.trans hE
          replace hS : Ext w w9 ∧ Same (fun b : Nat => b = b0_0 ∨ b = b0_1 ∨ False) wd6 w9 := ⟨hX, fun b hb => Or.elim hb (fun q => by subst q; exact Blk.eq B0_0 DB0_0) (fun hb => Or.elim hb (fun q => by subst q; exact Blk.eq B0_1 DB0_1) (fun hb => hb.elim))⟩
          refine ⟨hS, ?_⟩
          have hE9 := hE
          refine A_ready1 (i := 16) (by kernel_rfl) ?_
          refine O_storeRow rfl rfl rfl Try.sz40 B4_5 rfl rfl ?_
          intro w6_16 C6_16 BB6_16
          replace B0_0 := Chg.blk C6_16 B0_0 hNb0_0_4_5
          replace B0_1 := Chg.blk C6_16 B0_1 hNb0_1_4_5
          replace hX := hX.chg C6_16 hG4_5
          replace B4_5 := BB6_16
          replace hS : Ext w w6_16 ∧ Same (fun b : Nat => b = b0_0 ∨ b = b0_1 ∨ False) wd6 w6_16 := ⟨hX, fun b hb => Or.elim hb (fun q => by subst q; exact Blk.eq B0_0 DB0_0) (fun hb => Or.elim hb (fun q => by subst q; exact Blk.eq B0_1 DB0_1) (fun hb => hb.elim))⟩
          refine ⟨hS, ?_⟩
          have hRA2 := hRA'.store (w' := w6_16) hF (fun x q => by rcases q with q | q <;> omega) hX6 hE9 C6_16 (Or.inl rfl)
          have hX7 := hX
          refine A_done (by kernel_rfl) ?_
          refine W_seq ?_
          refine W_drawF (W0 := w) (fun b : Nat => b = b0_0 ∨ b = b4_5 ∨ False) Try.wd rfl ?_
          intro wd7 hD
          replace B0_0 := Blk.ext B0_0 hD
          replace B0_1 := Blk.ext B0_1 hD
          replace B4_5 := Blk.ext B4_5 hD
          replace hX := hX.trans hD
          have DB0_0 := B0_0
          have DB4_5 := B4_5
          have hS : Ext w wd7 ∧ Same (fun b : Nat => b = b0_0 ∨ b = b4_5 ∨ False) wd7 wd7 := ⟨hX, fun _ _ => rfl⟩
          refine A_take (i := 0) rfl (by kernel_rfl) (by kernel_rfl) (by kernel_rfl) rfl hS (fun _ hw => r_loadRow rfl (Blk.at DB4_5 (hw.2 _ (Or.inr (Or.inl rfl)))) Try.underlying40 rfl Try.sz40) ?_
          refine A_take (i := 1) rfl (by kernel_rfl) (by kernel_rfl) (by kernel_rfl) rfl hS (fun _ hw => r_loadRow rfl (Blk.at DB4_5 (hw.2 _ (Or.inr (Or.inl rfl)))) Try.underlying40 rfl Try.sz40) ?_
          refine A_take (i := 2) rfl (by kernel_rfl) (by kernel_rfl) (by kernel_rfl) rfl hS (fun _ hw => r_moveV (v := .int _ _) rfl) ?_
          refine A_ready1 (i := 3) (by kernel_rfl) ?_
          have hRA10 := hRA2.more (w' := wd7) hF hX7 hD
          have hX10 := hX
          refine O_call rfl rfl (r_call Try.func43 Try.nm43 rfl) (rmay_spec _ _ _ a _) ?_
          rintro v w6 ⟨rfl, hE⟩
          replace B0_0 := Blk.ext B0_0 hE
          replace B0_1 := Blk.ext B0_1 hE
          replace B4_5 := Blk.ext B4_5 hE
          replace hX := hX.trans hE
          replace hS : Ext w w6 ∧ Same (fun b : Nat => b = b0_0 ∨ b = b4_5 ∨ False) wd7 w6 := ⟨hX, fun b hb => Or.elim hb (fun q => by subst q; exact Blk.eq B0_0 DB0_0) (fun hb => Or.elim hb (fun q => by subst q; exact Blk.eq B4_5 DB4_5) (fun hb => hb.elim))⟩
          refine ⟨hS, ?_⟩
          have hRA11 := hRA10.more hF hX10 hE
          have hX11 := hX
          refine A_ready1 (i := 4) (by kernel_rfl) ?_
          refine O_storeRow rfl rfl rfl Try.sz40 B0_1 rfl rfl ?_
          intro w7_4 C7_4 BB7_4
          replace B0_0 := Chg.blk C7_4 B0_0 hNb0_0_0_1
          replace B4_5 := Chg.blk C7_4 B4_5 (fun q => hNb0_1_4_5 q.symm)
          replace hX := hX.chg C7_4 hG0_1
          replace B0_1 := BB7_4
          replace hS : Ext w w7_4 ∧ Same (fun b : Nat => b = b0_0 ∨ b = b4_5 ∨ False) wd7 w7_4 := ⟨hX, fun b hb => Or.elim hb (fun q => by subst q; exact Blk.eq B0_0 DB0_0) (fun hb => Or.elim hb (fun q => by subst q; exact Blk.eq B4_5 DB4_5) (fun hb => hb.elim))⟩
          refine ⟨hS, ?_⟩
          refine A_take (i := 5) rfl (by kernel_rfl) (by kernel_rfl) (by kernel_rfl) rfl hS (fun _ hw => r_assignV (v := .int _ _) rfl) ?_
          refine A_done (by kernel_rfl) ?_
          refine W_ret (finX_ret ?_)
          refine fin_cell1 rfl B0_1 Try.underlying40 rfl Try.sz40 ?_
          rw [hgo]
          exact ⟨_, rfl, _, _, rfl, (hRA11.put hF hX11 C7_4 (Or.inr rfl)).av, hX⟩
      · refine O_val rfl rfl (r_load (v := .slice _ _ _) rfl Try.underlying38 rfl (Blk.cell B4_5 rfl)) (hS) ?_
        refine A_take (i := 5) rfl (by kernel_rfl) (by kernel_rfl) (by kernel_rfl) rfl hS (fun _ hw => r_indexAddrN rfl rfl hA Try.underlying38 Try.sz77 (by omega) (by omega)) ?_
        refine A_take (i := 6) rfl (by kernel_rfl) (by kernel_rfl) (by kernel_rfl) rfl hS (fun _ hw => r_fieldAddr rfl Try.fld77_0 rfl) ?_
        refine A_take (i := 7) rfl (by kernel_rfl) (by kernel_rfl) (by kernel_rfl) rfl hS (fun _ hw => r_load (v := .slice A1 (D.runit.1.ar a.toNat).now.length c1) rfl Try.underlying23 rfl (hcell _ hw.1).1) ?_
        refine A_ready2 (i := 0) (j := 9) (by kernel_rfl) ?_ ?_
        · refine O_val rfl rfl (r_loadRow rfl B4_5 Try.underlying40 rfl Try.sz40) (hS) ?_
          refine A_ready1 (i := 9) (by kernel_rfl) ?_
          refine O_val rfl rfl (r_load (v := .slice _ _ _) rfl Try.underlying38 rfl (Blk.cell B4_5 rfl)) (hS) ?_
          refine A_take (i := 11) rfl (by kernel_rfl) (by kernel_rfl) (by kernel_rfl) rfl hS (fun _ hw => r_indexAddrN rfl rfl hA Try.underlying38 Try.sz77 (by omega) (by omega)) ?_
          refine A_take (i := 12) rfl (by kernel_rfl) (by kernel_rfl) (by kernel_rfl) rfl hS (fun _ hw => r_fieldAddr rfl Try.fld77_0 rfl) ?_
          refine A_take (i := 13) rfl (by kernel_rfl) (by kernel_rfl) (by kernel_rfl) rfl hS (fun _ hw => r_load (v := .slice A1 (D.runit.1.ar a.toNat).now.length c1) rfl Try.underlying23 rfl (hcell _ hw.1).1) ?_
          refine A_take (i := 14) rfl (by kernel_rfl) (by kernel_rfl) (by kernel_rfl) rfl hS (fun _ hw => r_build (cs := [.slice _ _ _, .slice _ _ _, .slice _ _ _]) Try.lay77 (List.forall_mem_cons.2 ⟨rfl, List.forall_mem_cons.2 ⟨rfl, fun _ h => by cases h⟩⟩) rfl rfl) ?_
          refine A_ready1 (i := 15) (by kernel_rfl) ?_
          have hX6 := hX
          have hRA6 := hRA4.more (w' := wd6) hF hX4 hD
          have sl1 : SL Ty.byte wd6 (Av (fun x => x = b4_5 ∨ x = b0_1) F w wd6) (.slice A1 (D.runit.1.ar a.toNat).now.length c1) (D.runit.1.ar a.toNat).now := ⟨A1, c1, rfl, hc1, hr1.keep (fun b hb => hX.block b (hF b hb)) (fun b hb => ⟨fun q => by have := hF b hb; rcases q with q | q <;> omega, Or.inl hb⟩)⟩
          have hszd := hD.size
          refine O_call rfl rfl (r_call Try.func46 Try.nm46 rfl) (rset_spec D.runit.1 A c a ⟨(D.runit.1.ar a.toNat).now, (D.runit.1.ar a.toNat).now, []⟩ _ _ _ wd6 (Av.lt hF hX6) hRA6 hn1 ha' sl1 sl1 ⟨none, 0, rfl, Nat.le_refl _, Ty.Row.nil⟩) ?_
          rintro v w9 ⟨A', c', rfl, hRA', hE⟩
          replace B0_0 := Blk.ext B0_0 hE
          replace B0_1 := Blk.ext B0_1 hE
          replace B4_5 := Blk.ext B4_5 hE
          replace hX := hX.trans hE
          replace hS : Ext w w9 ∧ Same (fun b : Nat => b = b0_0 ∨ b = b0_1 ∨ False) wd6 w9 := ⟨hX, fun b hb => Or.elim hb (fun q => by subst q; exact Blk.eq B0_0 DB0_0) (fun hb => Or.elim hb (fun q => by subst q; exact Blk.eq B0_1 DB0_1) (fun hb => hb.elim))⟩
          refine ⟨hS, ?_⟩
          have hE9 := hE
          refine A_ready1 (i := 16) (by kernel_rfl) ?_
          refine O_storeRow rfl rfl rfl Try.sz40 B4_5 rfl rfl ?_
          intro w6_16 C6_16 BB6_16
          replace B0_0 := Chg.blk C6_16 B0_0 hNb0_0_4_5
          replace B0_1 := Chg.blk C6_16 B0_1 hNb0_1_4_5
          replace hX := hX.chg C6_16 hG4_5
          replace B4_5 := BB6_16
          replace hS : Ext w w6_16 ∧ Same (fun b : Nat => b = b0_0 ∨ b = b0_1 ∨ False) wd6 w6_16 := ⟨hX, fun b hb => Or.elim hb (fun q => by subst q; exact Blk.eq B0_0 DB0_0) (fun hb => Or.elim hb (fun q => by subst q; exact Blk.eq B0_1 DB0_1) (fun hb => hb.elim))⟩
          refine ⟨hS, ?_⟩
          have hRA2 := hRA'.store (w' := w6_16) hF (fun x q => by rcases q with q | q <;> omega) hX6 hE9 C6_16 (Or.inl rfl)
          have hX7 := hX
          refine A_done (by kernel_rfl) ?_
          refine W_seq ?_
          refine W_drawF (W0 := w) (fun b : Nat => b = b0_0 ∨ b = b4_5 ∨ False) Try.wd rfl ?_
          intro wd7 hD
          replace B0_0 := Blk.ext B0_0 hD
          replace B0_1 := Blk.ext B0_1 hD
          replace B4_5 := Blk.ext B4_5 hD
          replace hX := hX.trans hD
          have DB0_0 := B0_0
          have DB4_5 := B4_5
          have hS : Ext w wd7 ∧ Same (fun b : Nat => b = b0_0 ∨ b = b4_5 ∨ False) wd7 wd7 := ⟨hX, fun _ _ => rfl⟩
          refine A_take (i := 0) rfl (by kernel_rfl) (by kernel_rfl) (by kernel_rfl) rfl hS (fun _ hw => r_loadRow rfl (Blk.at DB4_5 (hw.2 _ (Or.inr (Or.inl rfl)))) Try.underlying40 rfl Try.sz40) ?_
          refine A_take (i := 1) rfl (by kernel_rfl) (by kernel_rfl) (by kernel_rfl) rfl hS (fun _ hw => r_loadRow rfl (Blk.at DB4_5 (hw.2 _ (Or.inr (Or.inl rfl)))) Try.underlying40 rfl Try.sz40) ?_
          refine A_take (i := 2) rfl (by kernel_rfl) (by kernel_rfl) (by kernel_rfl) rfl hS (fun _ hw => r_moveV (v := .int _ _) rfl) ?_
          refine A_ready1 (i := 3) (by kernel_rfl) ?_
          have hRA10 := hRA2.more (w' := wd7) hF hX7 hD
          have hX10 := hX
          refine O_call rfl rfl (r_call Try.func43 Try.nm43 rfl) (rmay_spec _ _ _ a _) ?_
          rintro v w6 ⟨rfl, hE⟩
          replace B0_0 := Blk.ext B0_0 hE
          replace B0_1 := Blk.ext B0_1 hE
          replace B4_5 := Blk.ext B4_5 hE
          replace hX := hX.trans hE
          replace hS : Ext w w6 ∧ Same (fun b : Nat => b = b0_0 ∨ b = b4_5 ∨ False) wd7 w6 := ⟨hX, fun b hb => Or.elim hb (fun q => by subst q; exact Blk.eq B0_0 DB0_0) (fun hb => Or.elim hb (fun q => by subst q; exact Blk.eq B4_5 DB4_5) (fun hb => hb.elim))⟩
          refine ⟨hS, ?_⟩
          have hRA11 := hRA10.more hF hX10 hE
          have hX11 := hX
          refine A_ready1 (i := 4) (by kernel_rfl) ?_
          refine O_storeRow rfl rfl rfl Try.sz40 B0_1 rfl rfl ?_
          intro w7_4 C7_4 BB7_4
          replace B0_0 := Chg.blk C7_4 B0_0 hNb0_0_0_1
          replace B4_5 := Chg.blk C7_4 B4_5 (fun q => hNb0_1_4_5 q.symm)
          replace hX := hX.chg C7_4 hG0_1
          replace B0_1 := BB7_4
          replace hS : Ext w w7_4 ∧ Same (fun b : Nat => b = b0_0 ∨ b = b4_5 ∨ False) wd7 w7_4 := ⟨hX, fun b hb => Or.elim hb (fun q => by subst q; exact Blk.eq B0_0 DB0_0) (fun hb => Or.elim hb (fun q => by subst q; exact Blk.eq B4_5 DB4_5) (fun hb => hb.elim))⟩
          refine ⟨hS, ?_⟩
          refine A_take (i := 5) rfl (by kernel_rfl) (by kernel_rfl) (by kernel_rfl) rfl hS (fun _ hw => r_assignV (v := .int _ _) rfl) ?_
          refine A_done (by kernel_rfl) ?_
          refine W_ret (finX_ret ?_)
          refine fin_cell1 rfl B0_1 Try.underlying40 rfl Try.sz40 ?_
          rw [hgo]
          exact ⟨_, rfl, _, _, rfl, (hRA11.put hF hX11 C7_4 (Or.inr rfl)).av, hX⟩
        · refine O_val rfl rfl (r_load (v := .slice _ _ _) rfl Try.underlying38 rfl (Blk.cell B4_5 rfl)) (hS) ?_
          refine A_take (i := 11) rfl (by kernel_rfl) (by kernel_rfl) (by kernel_rfl) rfl hS (fun _ hw => r_indexAddrN rfl rfl hA Try.underlying38 Try.sz77 (by omega) (by omega)) ?_
          refine A_take (i := 12) rfl (by kernel_rfl) (by kernel_rfl) (by kernel_rfl) rfl hS (fun _ hw => r_fieldAddr rfl Try.fld77_0 rfl) ?_
          refine A_take (i := 13) rfl (by kernel_rfl) (by kernel_rfl) (by kernel_rfl) rfl hS (fun _ hw => r_load (v := .slice A1 (D.runit.1.ar a.toNat).now.length c1) rfl Try.underlying23 rfl (hcell _ hw.1).1) ?_
          refine A_take (i := 14) rfl (by kernel_rfl) (by kernel_rfl) (by kernel_rfl) rfl hS (fun _ hw => r_build (cs := [.slice _ _ _, .slice _ _ _, .slice _ _ _]) Try.lay77 (List.forall_mem_cons.2 ⟨rfl, List.forall_mem_cons.2 ⟨rfl, fun _ h => by cases h⟩⟩) rfl rfl) ?_
          refine A_ready1 (i := 0) (by kernel_rfl) ?_
          refine O_val rfl rfl (r_loadRow rfl B4_5 Try.underlying40 rfl Try.sz40) (hS) ?_
          refine A_ready1 (i := 15) (by kernel_rfl) ?_
          have hX6 := hX
          have hRA6 := hRA4.more (w' := wd6) hF hX4 hD
          have sl1 : SL Ty.byte wd6 (Av (fun x => x = b4_5 ∨ x = b0_1) F w wd6) (.slice A1 (D.runit.1.ar a.toNat).now.length c1) (D.runit.1.ar a.toNat).now := ⟨A1, c1, rfl, hc1, hr1.keep (fun b hb => hX.block b (hF b hb)) (fun b hb => ⟨fun q => by have := hF b hb; rcases q with q | q <;> omega, Or.inl hb⟩)⟩
          have hszd := hD.size
          refine O_call rfl rfl (r_call Try.func46 Try.nm46 rfl) (rset_spec D.runit.1 A c a ⟨(D.runit.1.ar a.toNat).now, (D.runit.1.ar a.toNat).now, []⟩ _ _ _ wd6 (Av.lt hF hX6) hRA6 hn1 ha' sl1 sl1 ⟨none, 0, rfl, Nat.le_refl _, Ty.Row.nil⟩) ?_
          rintro v w9 ⟨A', c', rfl, hRA', hE⟩
          replace B0_0 := Blk.ext B0_0 hE
          replace B0_1 := Blk.ext B0_1 hE
          replace B4_5 := Blk.ext B4_5 hE
          replace hX := hX.trans hE
          replace hS : Ext w w9 ∧ Same (fun b : Nat => b = b0_0 ∨ b = b0_1 ∨ False) wd6 w9 := ⟨hX, fun b hb => Or.elim hb (fun q => by subst q; exact Blk.eq B0_0 DB0_0) (fun hb => Or.elim hb (fun q => by subst q; exact Blk.eq B0_1 DB0_1) (fun hb => hb.elim))⟩
          refine ⟨hS, ?_⟩
          have hE9 := hE
          refine A_ready1 (i := 16) (by kernel_rfl) ?_
          refine O_storeRow rfl rfl rfl Try.sz40 B4_5 rfl rfl ?_
          intro w6_16 C6_16 BB6_16
          replace B0_0 := Chg.blk C6_16 B0_0 hNb0_0_4_5
          replace B0_1 := Chg.blk C6_16 B0_1 hNb0_1_4_5
          replace hX := hX.chg C6_16 hG4_5
          replace B4_5 := BB6_16
          replace hS : Ext w w6_16 ∧ Same (fun b : Nat => b = b0_0 ∨ b = b0_1 ∨ False) wd6 w6_16 := ⟨hX, fun b hb => Or.elim hb (fun q => by subst q; exact Blk.eq B0_0 DB0_0) (fun hb => Or.elim hb (fun q => by subst q; exact Blk.eq B0_1 DB0_1) (fun hb => hb.elim))⟩
          refine ⟨hS, ?_⟩
          have hRA2 := hRA'.store (w' := w6_16) hF (fun x q => by rcases q with q | q <;> omega) hX6 hE9 C6_16 (Or.inl rfl)
          have hX7 := hX
          refine A_done (by kernel_rfl) ?_
          refine W_seq ?_
          refine W_drawF (W0 := w) (fun b : Nat => b = b0_0 ∨ b = b4_5 ∨ False) Try.wd rfl ?_
          intro wd7 hD
          replace B0_0 := Blk.ext B0_0 hD
          replace B0_1 := Blk.ext B0_1 hD
          replace B4_5 := Blk.ext B4_5 hD
          replace hX := hX.trans hD
          have DB0_0 := B0_0
          have DB4_5 := B4_5
          have hS : Ext w wd7 ∧ Same (fun b : Nat => b = b0_0 ∨ b = b4_5 ∨ False) wd7 wd7 := ⟨hX, fun _ _ => rfl⟩
          refine A_take (i := 0) rfl (by kernel_rfl) (by kernel_rfl) (by kernel_rfl) rfl hS (fun _ hw => r_loadRow rfl (Blk.at DB4_5 (hw.2 _ (Or.inr (Or.inl rfl)))) Try.underlying40 rfl Try.sz40) ?_
          refine A_take (i := 1) rfl (by kernel_rfl) (by kernel_rfl) (by kernel_rfl) rfl hS (fun _ hw => r_loadRow rfl (Blk.at DB4_5 (hw.2 _ (Or.inr (Or.inl rfl)))) Try.underlying40 rfl Try.sz40) ?_
          refine A_take (i := 2) rfl (by kernel_rfl) (by kernel_rfl) (by kernel_rfl) rfl hS (fun _ hw => r_moveV (v := .int _ _) rfl) ?_
          refine A_ready1 (i := 3) (by kernel_rfl) ?_
          have hRA10 := hRA2.more (w' := wd7) hF hX7 hD
          have hX10 := hX
          refine O_call rfl rfl (r_call Try.func43 Try.nm43 rfl) (rmay_spec _ _ _ a _) ?_
          rintro v w6 ⟨rfl, hE⟩
          replace B0_0 := Blk.ext B0_0 hE
          replace B0_1 := Blk.ext B0_1 hE
          replace B4_5 := Blk.ext B4_5 hE
          replace hX := hX.trans hE
          replace hS : Ext w w6 ∧ Same (fun b : Nat => b = b0_0 ∨ b = b4_5 ∨ False) wd7 w6 := ⟨hX, fun b hb => Or.elim hb (fun q => by subst q; exact Blk.eq B0_0 DB0_0) (fun hb => Or.elim hb (fun q => by subst q; exact Blk.eq B4_5 DB4_5) (fun hb => hb.elim))⟩
          refine ⟨hS, ?_⟩
          have hRA11 := hRA10.more hF hX10 hE
          have hX11 := hX
          refine A_ready1 (i := 4) (by kernel_rfl) ?_
          refine O_storeRow rfl rfl rfl Try.sz40 B0_1 rfl rfl ?_
          intro w7_4 C7_4 BB7_4
          replace B0_0 := Chg.blk C7_4 B0_0 hNb0_0_0_1
          replace B4_5 := Chg.blk C7_4 B4_5 (fun q => hNb0_1_4_5 q.symm)
          replace hX := hX.chg C7_4 hG0_1
          replace B0_1 := BB7_4
          replace hS : Ext w w7_4 ∧ Same (fun b : Nat => b = b0_0 ∨ b = b4_5 ∨ False) wd7 w7_4 := ⟨hX, fun b hb => Or.elim hb (fun q => by subst q; exact Blk.eq B0_0 DB0_0) (fun hb => Or.elim hb (fun q => by subst q; exact Blk.eq B4_5 DB4_5) (fun hb => hb.elim))⟩
          refine ⟨hS, ?_⟩
          refine A_take (i := 5) rfl (by kernel_rfl) (by kernel_rfl) (by kernel_rfl) rfl hS (fun _ hw => r_assignV (v := .int _ _) rfl) ?_
          refine A_done (by kernel_rfl) ?_
          refine W_ret (finX_ret ?_)
          refine fin_cell1 rfl B0_1 Try.underlying40 rfl Try.sz40 ?_
          rw [hgo]
          exact ⟨_, rfl, _, _, rfl, (hRA11.put hF hX11 C7_4 (Or.inr rfl)).av, hX⟩
      · refine O_val rfl rfl (r_load (v := .slice _ _ _) rfl Try.underlying38 rfl (Blk.cell B4_5 rfl)) (hS) ?_
        refine A_take (i := 11) rfl (by kernel_rfl) (by kernel_rfl) (by kernel_rfl) rfl hS (fun _ hw => r_indexAddrN rfl rfl hA Try.underlying38 Try.sz77 (by omega) (by omega)) ?_
        refine A_take (i := 12) rfl (by kernel_rfl) (by kernel_rfl) (by kernel_rfl) rfl hS (fun _ hw => r_fieldAddr rfl Try.fld77_0 rfl) ?_
        refine A_take (i := 13) rfl (by kernel_rfl) (by kernel_rfl) (by kernel_rfl) rfl hS (fun _ hw => r_load (v := .slice A1 (D.runit.1.ar a.toNat).now.length c1) rfl Try.underlying23 rfl (hcell _ hw.1).1) ?_
        refine A_ready2 (i := 0) (j := 3) (by kernel_rfl) ?_ ?_
        · refine O_val rfl rfl (r_loadRow rfl B4_5 Try.underlying40 rfl Try.sz40) (hS) ?_
          refine A_ready1 (i := 3) (by kernel_rfl) ?_
          refine O_val rfl rfl (r_load (v := .slice _ _ _) rfl Try.underlying38 rfl (Blk.cell B4_5 rfl)) (hS) ?_
          refine A_take (i := 5) rfl (by kernel_rfl) (by kernel_rfl) (by kernel_rfl) rfl hS (fun _ hw => r_indexAddrN rfl rfl hA Try.underlying38 Try.sz77 (by omega) (by omega)) ?_
          refine A_take (i := 6) rfl (by kernel_rfl) (by kernel_rfl) (by kernel_rfl) rfl hS (fun _ hw => r_fieldAddr rfl Try.fld77_0 rfl) ?_
          refine A_take (i := 7) rfl (by kernel_rfl) (by kernel_rfl) (by kernel_rfl) rfl hS (fun _ hw => r_load (v := .slice A1 (D.runit.1.ar a.toNat).now.length c1) rfl Try.underlying23 rfl (hcell _ hw.1).1) ?_
          refine A_take (i := 14) rfl (by kernel_rfl) (by kernel_rfl) (by kernel_rfl) rfl hS (fun _ hw => r_build (cs := [.slice _ _ _, .slice _ _ _, .slice _ _ _]) Try.lay77 (List.forall_mem_cons.2 ⟨rfl, List.forall_mem_cons.2 ⟨rfl, fun _ h => by cases h⟩⟩) rfl rfl) ?_
          refine A_ready1 (i := 15) (by kernel_rfl) ?_
          have hX6 := hX
          have hRA6 := hRA4.more (w' := wd6) hF hX4 hD
          have sl1 : SL Ty.byte wd6 (Av (fun x => x = b4_5 ∨ x = b0_1) F w wd6) (.slice A1 (D.runit.1.ar a.toNat).now.length c1) (D.runit.1.ar a.toNat).now := ⟨A1, c1, rfl, hc1, hr1.keep (fun b hb => hX.block b (hF b hb)) (fun b hb => ⟨fun q => by have := hF b hb; rcases q with q | q <;> omega, Or.inl hb⟩)⟩
          have hszd := hD.size
          refine O_call rfl rfl (r_call Try.func46 Try.nm46 rfl) (rset_spec D.runit.1 A c a ⟨(D.runit.1.ar a.toNat).now, (D.runit.1.ar a.toNat).now, []⟩ _ _ _ wd6 (Av.lt hF hX6) hRA6 hn1 ha' sl1 sl1 ⟨none, 0, rfl, Nat.le_refl _, Ty.Row.nil⟩) ?_
          rintro v w9 ⟨A', c', rfl, hRA', hE⟩
          replace B0_0 := Blk.ext B0_0 hE
          replace B0_1 := Blk.ext B0_1 hE
          replace B4_5 := Blk.ext B4_5 hE
          replace hX := hX.trans hE
          replace hS : Ext w w9 ∧ Same (fun b : Nat => b = b0_0 ∨ b = b0_1 ∨ False) wd6 w9 := ⟨hX, fun b hb => Or.elim hb (fun q => by subst q; exact Blk.eq B0_0 DB0_0) (fun hb => Or.elim hb (fun q => by subst q; exact Blk.eq B0_1 DB0_1) (fun hb => hb.elim))⟩
          refine ⟨hS, ?_⟩
          have hE9 := hE
          refine A_ready1 (i := 16) (by kernel_rfl) ?_
          refine O_storeRow rfl rfl rfl Try.sz40 B4_5 rfl rfl ?_
          intro w6_16 C6_16 BB6_16
          replace B0_0 := Chg.blk C6_16 B0_0 hNb0_0_4_5
          replace B0_1 := Chg.blk C6_16 B0_1 hNb0_1_4_5
          replace hX := hX.chg C6_16 hG4_5
          replace B4_5 := BB6_16
          replace hS : Ext w w6_16 ∧ Same (fun b : Nat => b = b0_0 ∨ b = b0_1 ∨ False) wd6 w6_16 := ⟨hX, fun b hb => Or.elim hb (fun q => by subst q; exact Blk.eq B0_0 DB0_0) (fun hb => Or.elim hb (fun q => by subst q; exact Blk.eq B0_1 DB0_1) (fun hb => hb.elim))⟩
          refine ⟨hS, ?_⟩
          have hRA2 := hRA'.store (w' := w6_16) hF (fun x q => by rcases q with q | q <;> omega) hX6 hE9 C6_16 (Or.inl rfl)
          have hX7 := hX
          refine A_done (by kernel_rfl) ?_
          refine W_seq ?_
          refine W_drawF (W0 := w) (fun b : Nat => b = b0_0 ∨ b = b4_5 ∨ False) Try.wd rfl ?_
          intro wd7 hD
          replace B0_0 := Blk.ext B0_0 hD
          replace B0_1 := Blk.ext B0_1 hD
          replace B4_5 := Blk.ext B4_5 hD
          replace hX := hX.trans hD
          have DB0_0 := B0_0
          have DB4_5 := B4_5
          have hS : Ext w wd7 ∧ Same (fun b : Nat => b = b0_0 ∨ b = b4_5 ∨ False) wd7 wd7 := ⟨hX, fun _ _ => rfl⟩
          refine A_take (i := 0) rfl (by kernel_rfl) (by kernel_rfl) (by kernel_rfl) rfl hS (fun _ hw => r_loadRow rfl (Blk.at DB4_5 (hw.2 _ (Or.inr (Or.inl rfl)))) Try.underlying40 rfl Try.sz40) ?_
          refine A_take (i := 1) rfl (by kernel_rfl) (by kernel_rfl) (by kernel_rfl) rfl hS (fun _ hw => r_loadRow rfl (Blk.at DB4_5 (hw.2 _ (Or.inr (Or.inl rfl)))) Try.underlying40 rfl Try.sz40) ?_
          refine A_take (i := 2) rfl (by kernel_rfl) (by kernel_rfl) (by kernel_rfl) rfl hS (fun _ hw => r_moveV (v := .int _ _) rfl) ?_
          refine A_ready1 (i := 3) (by kernel_rfl) ?_
          have hRA10 := hRA2.more (w' := wd7) hF hX7 hD
          have hX10 := hX
          refine O_call rfl rfl (r_call Try.func43 Try.nm43 rfl) (rmay_spec _ _ _ a _) ?_
          rintro v w6 ⟨rfl, hE⟩
          replace B0_0 := Blk.ext B0_0 hE
          replace B0_1 := Blk.ext B0_1 hE
          replace B4_5 := Blk.ext B4_5 hE
          replace hX := hX.trans hE
          replace hS : Ext w w6 ∧ Same (fun b : Nat => b = b0_0 ∨ b = b4_5 ∨ False) wd7 w6 := ⟨hX, fun b hb => Or.elim hb (fun q => by subst q; exact Blk.eq B0_0 DB0_0) (fun hb => Or.elim hb (fun q => by subst q; exact Blk.eq B4_5 DB4_5) (fun hb => hb.elim))⟩
          refine ⟨hS, ?_⟩
          have hRA11 := hRA10.more hF hX10 hE
          have hX11 := hX
          refine A_ready1 (i := 4) (by kernel_rfl) ?_
          refine O_storeRow rfl rfl rfl Try.sz40 B0_1 rfl rfl ?_
          intro w7_4 C7_4 BB7_4
          replace B0_0 := Chg.blk C7_4 B0_0 hNb0_0_0_1
          replace B4_5 := Chg.blk C7_4 B4_5 (fun q => hNb0_1_4_5 q.symm)
          replace hX := hX.chg C7_4 hG0_1
          replace B0_1 := BB7_4
          replace hS : Ext w w7_4 ∧ Same (fun b : Nat => b = b0_0 ∨ b = b4_5 ∨ False) wd7 w7_4 := ⟨hX, fun b hb => Or.elim hb (fun q => by subst q; exact Blk.eq B0_0 DB0_0) (fun hb => Or.elim hb (fun q => by subst q; exact Blk.eq B4_5 DB4_5) (fun hb => hb.elim))⟩
          refine ⟨hS, ?_⟩
          refine A_take (i := 5) rfl (by kernel_rfl) (by kernel_rfl) (by kernel_rfl) rfl hS (fun _ hw => r_assignV (v := .int _ _) rfl) ?_
          refine A_done (by kernel_rfl) ?_
          refine W_ret (finX_ret ?_)
          refine fin_cell1 rfl B0_1 Try.underlying40 rfl Try.sz40 ?_
          rw [hgo]
          exact ⟨_, rfl, _, _, rfl, (hRA11.put hF hX11 C7_4 (Or.inr rfl)).av, hX⟩
        · refine O_val rfl rfl (r_load (v := .slice _ _ _) rfl Try.underlying38 rfl (Blk.cell B4_5 rfl)) (hS) ?_
          refine A_take (i := 5) rfl (by kernel_rfl) (by kernel_rfl) (by kernel_rfl) rfl hS (fun _ hw => r_indexAddrN rfl rfl hA Try.underlying38 Try.sz77 (by omega) (by omega)) ?_
          refine A_take (i := 6) rfl (by kernel_rfl) (by kernel_rfl) (by kernel_rfl) rfl hS (fun _ hw => r_fieldAddr rfl Try.fld77_0 rfl) ?_
          refine A_take (i := 7) rfl (by kernel_rfl) (by kernel_rfl) (by kernel_rfl) rfl hS (fun _ hw => r_load (v := .slice A1 (D.runit.1.ar a.toNat).now.length c1) rfl Try.underlying23 rfl (hcell _ hw.1).1) ?_
          refine A_take (i := 14) rfl (by kernel_rfl) (by kernel_rfl) (by kernel_rfl) rfl hS (fun _ hw => r_build (cs := [.slice _ _ _, .slice _ _ _, .slice _ _ _]) Try.lay77 (List.forall_mem_cons.2 ⟨rfl, List.forall_mem_cons.2 ⟨rfl, fun _ h => by cases h⟩⟩) rfl rfl) ?_
          refine A_ready1 (i := 0) (by kernel_rfl) ?_
          refine O_val rfl rfl (r_loadRow rfl B4_5 Try.underlying40 rfl Try.sz40) (hS) ?_
          refine A_ready1 (i := 15) (by kernel_rfl) ?_
          have hX6 := hX
          have hRA6 := hRA4.more (w' := wd6) hF hX4 hD
          have sl1 : SL Ty.byte wd6 (Av (fun x => x = b4_5 ∨ x = b0_1) F w wd6) (.slice A1 (D.runit.1.ar a.toNat).now.length c1) (D.runit.1.ar a.toNat).now := ⟨A1, c1, rfl, hc1, hr1.keep (fun b hb => hX.block b (hF b hb)) (fun b hb => ⟨fun q => by have := hF b hb; rcases q with q | q <;> omega, Or.inl hb⟩)⟩
          have hszd := hD.size
          refine O_call rfl rfl (r_call Try.func46 Try.nm46 rfl) (rset_spec D.runit.1 A c a ⟨(D.runit.1.ar a.toNat).now, (D.runit.1.ar a.toNat).now, []⟩ _ _ _ wd6 (Av.lt hF hX6) hRA6 hn1 ha' sl1 sl1 ⟨none, 0, rfl, Nat.le_refl _, Ty.Row.nil⟩) ?_
          rintro v w9 ⟨A', c', rfl, hRA', hE⟩
          replace B0_0 := Blk.ext B0_0 hE
          replace B0_1 := Blk.ext B0_1 hE
          replace B4_5 := Blk.ext B4_5 hE
          replace hX := hX.trans hE
          replace hS : Ext w w9 ∧ Same (fun b : Nat => b = b0_0 ∨ b = b0_1 ∨ False) wd6 w9 := ⟨hX, fun b hb => Or.elim hb (fun q => by subst q; exact Blk.eq B0_0 DB0_0) (fun hb => Or.elim hb (fun q => by subst q; exact Blk.eq B0_1 DB0_1) (fun hb => hb.elim))⟩
          refine ⟨hS, ?_⟩
          have hE9 := hE
          refine A_ready1 (i := 16) (by kernel_rfl) ?_
          refine O_storeRow rfl rfl rfl Try.sz40 B4_5 rfl rfl ?_
          intro w6_16 C6_16 BB6_16
          replace B0_0 := Chg.blk C6_16 B0_0 hNb0_0_4_5
          replace B0_1 := Chg.blk C6_16 B0_1 hNb0_1_4_5
          replace hX := hX.chg C6_16 hG4_5
          replace B4_5 := BB6_16
          replace hS : Ext w w6_16 ∧ Same (fun b : Nat => b = b0_0 ∨ b = b0_1 ∨ False) wd6 w6_16 := ⟨hX, fun b hb => Or.elim hb (fun q => by subst q; exact Blk.eq B0_0 DB0_0) (fun hb => Or.elim hb (fun q => by subst q; exact Blk.eq B0_1 DB0_1) (fun hb => hb.elim))⟩
          refine ⟨hS, ?_⟩
          have hRA2 := hRA'.store (w' := w6_16) hF (fun x q => by rcases q with q | q <;> omega) hX6 hE9 C6_16 (Or.inl rfl)
          have hX7 := hX
          refine A_done (by kernel_rfl) ?_
          refine W_seq ?_
          refine W_drawF (W0 := w) (fun b : Nat => b = b0_0 ∨ b = b4_5 ∨ False) Try.wd rfl ?_
          intro wd7 hD
          replace B0_0 := Blk.ext B0_0 hD
          replace B0_1 := Blk.ext B0_1 hD
          replace B4_5 := Blk.ext B4_5 hD
          replace hX := hX.trans hD
          have DB0_0 := B0_0
          have DB4_5 := B4_5
          have hS : Ext w wd7 ∧ Same (fun b : Nat => b = b0_0 ∨ b = b4_5 ∨ False) wd7 wd7 := ⟨hX, fun _ _ => rfl⟩
          refine A_take (i := 0) rfl (by kernel_rfl) (by kernel_rfl) (by kernel_rfl) rfl hS (fun _ hw => r_loadRow rfl (Blk.at DB4_5 (hw.2 _ (Or.inr (Or.inl rfl)))) Try.underlying40 rfl Try.sz40) ?_
          refine A_take (i := 1) rfl (by kernel_rfl) (by kernel_rfl) (by kernel_rfl) rfl hS (fun _ hw => r_loadRow rfl (Blk.at DB4_5 (hw.2 _ (Or.inr (Or.inl rfl)))) Try.underlying40 rfl Try.sz40) ?_
          refine A_take (i := 2) rfl (by kernel_rfl) (by kernel_rfl) (by kernel_rfl) rfl hS (fun _ hw => r_moveV (v := .int _ _) rfl) ?_
          refine A_ready1 (i := 3) (by kernel_rfl) ?_
          have hRA10 := hRA2.more (w' := wd7) hF hX7 hD
          have hX10 := hX
          refine O_call rfl rfl (r_call Try.func43 Try.nm43 rfl) (rmay_spec _ _ _ a _) ?_
          rintro v w6 ⟨rfl, hE⟩
          replace B0_0 := Blk.ext B0_0 hE
          replace B0_1 := Blk.ext B0_1 hE
          replace B4_5 := Blk.ext B4_5 hE
          replace hX := hX.trans hE
          replace hS : Ext w w6 ∧ Same (fun b : Nat => b = b0_0 ∨ b = b4_5 ∨ False) wd7 w6 := ⟨hX, fun b hb => Or.elim hb (fun q => by subst q; exact Blk.eq B0_0 DB0_0) (fun hb => Or.elim hb (fun q => by subst q; exact Blk.eq B4_5 DB4_5) (fun hb => hb.elim))⟩
          refine ⟨hS, ?_⟩
          have hRA11 := hRA10.more hF hX10 hE
          have hX11 := hX
          refine A_ready1 (i := 4) (by kernel_rfl) ?_
          refine O_storeRow rfl rfl rfl Try.sz40 B0_1 rfl rfl ?_
          intro w7_4 C7_4 BB7_4
          replace B0_0 := Chg.blk C7_4 B0_0 hNb0_0_0_1
          replace B4_5 := Chg.blk C7_4 B4_5 (fun q => hNb0_1_4_5 q.symm)
          replace hX := hX.chg C7_4 hG0_1
          replace B0_1 := BB7_4
          replace hS : Ext w w7_4 ∧ Same (fun b : Nat => b = b0_0 ∨ b = b4_5 ∨ False) wd7 w7_4 := ⟨hX, fun b hb => Or.elim hb (fun q => by subst q; exact Blk.eq B0_0 DB0_0) (fun hb => Or.elim hb (fun q => by subst q; exact Blk.eq B4_5 DB4_5) (fun hb => hb.elim))⟩
          refine ⟨hS, ?_⟩
          refine A_take (i := 5) rfl (by kernel_rfl) (by kernel_rfl) (by kernel_rfl) rfl hS (fun _ hw => r_assignV (v := .int _ _) rfl) ?_
          refine A_done (by kernel_rfl) ?_
          refine W_ret (finX_ret ?_)
          refine fin_cell1 rfl B0_1 Try.underlying40 rfl Try.sz40 ?_
          rw [hgo]
          exact ⟨_, rfl, _, _, rfl, (hRA11.put hF hX11 C7_4 (Or.inr rfl)).av, hX⟩
    · have hno : ¬ D.runit.2 = true := by rw [ht21]; exact Bool.false_ne_true
      have hgo : D.rsync a = (D.runit.1, D.runit.1.may a) := by unfold Dk.rsync; rw [if_neg ht13, if_neg hno]
      have hRA2 := hRA4
      have hX7 := hX
      refine W_skip ?_
      refine W_seq ?_
      refine W_drawF (W0 := w) (fun b : Nat => b = b0_0 ∨ b = b4_5 ∨ False) Try.wd rfl ?_
      intro wd7 hD
      replace B0_0 := Blk.ext B0_0 hD
      replace B0_1 := Blk.ext B0_1 hD
      replace B4_5 := Blk.ext B4_5 hD
      replace hX := hX.trans hD
      have DB0_0 := B0_0
      have DB4_5 := B4_5
      have hS : Ext w wd7 ∧ Same (fun b : Nat => b = b0_0 ∨ b = b4_5 ∨ False) wd7 wd7 := ⟨hX, fun _ _ => rfl⟩
      refine A_take (i := 0) rfl (by kernel_rfl) (by kernel_rfl) (by kernel_rfl) rfl hS (fun _ hw => r_loadRow rfl (Blk.at DB4_5 (hw.2 _ (Or.inr (Or.inl rfl)))) Try.underlying40 rfl Try.sz40) ?_
      refine A_take (i := 1) rfl (by kernel_rfl) (by kernel_rfl) (by kernel_rfl) rfl hS (fun _ hw => r_loadRow rfl (Blk.at DB4_5 (hw.2 _ (Or.inr (Or.inl rfl)))) Try.underlying40 rfl Try.sz40) ?_
      refine A_take (i := 2) rfl (by kernel_rfl) (by kernel_rfl) (by kernel_rfl) rfl hS (fun _ hw => r_moveV (v := .int _ _) rfl) ?_
      refine A_ready1 (i := 3) (by kernel_rfl) ?_
      have hRA10 := hRA2.more (w' := wd7) hF hX7 hD
      have hX10 := hX
      refine O_call rfl rfl (r_call Try.func43 Try.nm43 rfl) (rmay_spec _ _ _ a _) ?_
      rintro v w6 ⟨rfl, hE⟩
      replace B0_0 := Blk.ext B0_0 hE
      replace B0_1 := Blk.ext B0_1 hE
      replace B4_5 := Blk.ext B4_5 hE
      replace hX := hX.trans hE
      replace hS : Ext w w6 ∧ Same (fun b : Nat => b = b0_0 ∨ b = b4_5 ∨ False) wd7 w6 := ⟨hX, fun b hb => Or.elim hb (fun q => by subst q; exact Blk.eq B0_0 DB0_0) (fun hb => Or.elim hb (fun q => by subst q; exact Blk.eq B4_5 DB4_5) (fun hb => hb.elim))⟩
      refine ⟨hS, ?_⟩
      have hRA11 := hRA10.more hF hX10 hE
      have hX11 := hX
      refine A_ready1 (i := 4) (by kernel_rfl) ?_
      refine O_storeRow rfl rfl rfl Try.sz40 B0_1 rfl rfl ?_
      intro w7_4 C7_4 BB7_4
      replace B0_0 := Chg.blk C7_4 B0_0 hNb0_0_0_1
      replace B4_5 := Chg.blk C7_4 B4_5 (fun q => hNb0_1_4_5 q.symm)
      replace hX := hX.chg C7_4 hG0_1
      replace B0_1 := BB7_4
      replace hS : Ext w w7_4 ∧ Same (fun b : Nat => b = b0_0 ∨ b = b4_5 ∨ False) wd7 w7_4 := ⟨hX, fun b hb => Or.elim hb (fun q => by subst q; exact Blk.eq B0_0 DB0_0) (fun hb => Or.elim hb (fun q => by subst q; exact Blk.eq B4_5 DB4_5) (fun hb => hb.elim))⟩
      refine ⟨hS, ?_⟩
      refine A_take (i := 5) rfl (by kernel_rfl) (by kernel_rfl) (by kernel_rfl) rfl hS (fun _ hw => r_assignV (v := .int _ _) rfl) ?_
      refine A_done (by kernel_rfl) ?_
      refine W_ret (finX_ret ?_)
      refine fin_cell1 rfl B0_1 Try.underlying40 rfl Try.sz40 ?_
      rw [hgo]
      exact ⟨_, rfl, _, _, rfl, (hRA11.put hF hX11 C7_4 (Or.inr rfl)).av, hX⟩
end Go.Proofs.Ytfgffaphpedimaa
