/-
  A copy is the same, and knows nothing of what it was made of: the walk.
-/
import Derived.Test.YtfgffaphpedimaaFacts
import Derived.Test.YtfgffaphpedimaaDiskLSteps
import Derived.Test.YtfgffaphpedimaaDiskLCuts
namespace Go.Proofs.Ytfgffaphpedimaa
open Go Go.Eng Go.RowKit Go.Proofs
set_option linter.unusedVariables false
set_option linter.unusedSimpArgs false
set_option maxHeartbeats 8000000
set_option maxRecDepth 20000

theorem DA.faB {p B : Nat} {w : World} {D : Dk} (h : DA p B w D) : FA p B (fun b => b < B) w D := by
  have hle := h.le
  obtain ⟨H, h1, h2⟩ := h
  refine ⟨H, h1, h2, fun b hb => ⟨Nat.lt_of_lt_of_le hb hle, h2.off_B hb, fun i hi => ⟨fun q => ?_, fun q => ?_⟩⟩⟩
  · have := ((h2.nv i hi).lt q).1; omega
  · have := ((h2.lv i hi).lt q).1; omega
theorem does_n (D : Dk) (o : Do) : (D.does o).1.n = D.n := by
  unfold Dk.does
  split
  · exact append_n _ _ _
  · split
    · unfold Dk.cut
      (repeat' split) <;> first | rfl | exact unit_n D
    · split
      · unfold Dk.sync
        (repeat' split) <;> first | rfl | exact unit_n D
      · split
        · unfold Dk.arm; split <;> rfl
        · split <;> rfl
theorem diskCopies_walk (W : World) (Ao : Option Addr) (co : Nat) (l : List Do) (hco : l.length ≤ co) (hl : l.length ≤ big) (hA : doT.Row W (old W) Ao l) (Am : Option Addr) (cm : Nat) (m : List Do) (hcm : m.length ≤ cm) (hm : m.length ≤ big) (hM : doT.Row W (old W) Am m) :
    Calls Try.prog 9 #[.slice Ao l.length co, .slice Am m.length cm] W (fun e W' => ∃ v, e = .returned v ∧ v = .bool true ∧ Ext W W') := by
  have hl' : l.length ≤ 140737488355328 := hl
  have hm' : m.length ≤ 140737488355328 := hm
  clear hl hm
  refine calls' (n := 118) (rs := #[.tmp 4]) (l := [.slice Ao l.length co, .slice Am m.length cm]) Try.func9 rfl rfl rfl rfl rfl ?_
  have hX := Ext.refl W
  refine W_seq ?_
  refine W_region ?_
  refine op rfl (r_assignV (v := .bool _) rfl) ?_
  refine WL_nil ?_
  refine W_seq ?_
  refine W_seq ?_
  refine W_region ?_
  refine op rfl (r_moveV (v := .slice _ _ _) rfl) ?_
  refine opCv rfl (r_call Try.func24 Try.nm24 rfl) (small_spec Ao co l _ hA hl') ?_
  rintro v w1 ⟨rfl, hE⟩
  replace hX := hX.trans hE
  refine op rfl (r_notP rfl) ?_
  refine op_split rfl (r_moveV (v := .bool (decide _)) rfl) (fun hg20 => ?_) (fun hg20 => ?_)
  · refine opG_no rfl rfl rfl rfl rfl ?_
    refine opG_no rfl rfl rfl rfl rfl ?_
    refine opG_no rfl rfl rfl rfl rfl ?_
    refine op rfl (r_pickTV (v := .bool _) rfl rfl) ?_
    refine WL_nil ?_
    refine W_then rfl ?_
    refine W_seq ?_
    refine W_region ?_
    refine opCv rfl (r_call Try.func10 Try.nm10 rfl) (known_spec _) ?_
    rintro v w2 ⟨rfl, hE⟩
    replace hX := hX.trans hE
    refine op rfl (r_assignV (v := .bool _) rfl) ?_
    refine WL_nil ?_
    refine W_ret (finX_ret ?_)
    refine fin1 ?_
    exact ⟨_, rfl, rfl, hX⟩
  · refine opG_yes rfl rfl rfl rfl rfl (r_moveV (v := .slice _ _ _) rfl) ?_
    refine opGCv_yes rfl rfl rfl rfl rfl (r_call Try.func24 Try.nm24 rfl) (small_spec Am cm m _ (hM.ext hX) hm') ?_
    rintro v w1b ⟨rfl, hE⟩
    replace hX := hX.trans hE
    refine opG_yes rfl rfl rfl rfl rfl (r_notP rfl) ?_
    refine op rfl (r_pickFV (v := .bool _) rfl rfl) ?_
    refine WL_nil ?_
    refine W_ifp rfl (fun ht24 => ?_) (fun ht24 => ?_)
    · refine W_seq ?_
      refine W_region ?_
      refine opCv rfl (r_call Try.func10 Try.nm10 rfl) (known_spec _) ?_
      rintro v w2 ⟨rfl, hE⟩
      replace hX := hX.trans hE
      refine op rfl (r_assignV (v := .bool _) rfl) ?_
      refine WL_nil ?_
      refine W_ret (finX_ret ?_)
      refine fin1 ?_
      exact ⟨_, rfl, rfl, hX⟩
    · have hsm := Classical.byContradiction hg20
      have hsm2 := Classical.byContradiction ht24
      refine W_skip ?_
      refine W_seq ?_
      refine W_region ?_
      have hX3 := hX
      refine opCv rfl (r_call Try.func11 Try.nm11 rfl) (new_da 3 300 _) ?_
      rintro v w3 ⟨p, rfl, hE, hDA⟩
      replace hX := hX.trans hE
      refine op rfl (r_assignV (v := .pointer _) rfl) ?_
      refine WL_nil ?_
      refine W_seq ?_
      refine W_region ?_
      refine opCv rfl (r_call Try.func25 Try.nm25 rfl) (rnew_spec 3 300 _) ?_
      rintro v w4 ⟨A4, c4, rfl, hRA4, hE⟩
      replace hX := hX.trans hE
      have hE4 := hE
      refine op_alloc rfl Try.zero40 ?_
      intro w4_1 b4_1 E4_1 B4_1 L4_1
      have hG4_1 : W.heap.size ≤ b4_1 := by have := hX.size; omega
      replace hX := hX.trans E4_1
      refine op_storeRow rfl rfl Try.sz40 B4_1 rfl rfl ?_
      intro w4_2 C4_2 BB4_2
      replace hX := hX.chg C4_2 hG4_1
      replace B4_1 := BB4_2
      have hE4b : Ext w3 w4_2 := Chg.ext (hE4.trans E4_1) (by have := hE4.size; omega) C4_2
      have hs43 := Blk.lt B4_1
      have hDD0 : DD p w1b.heap.size b4_1 (Nw (fun _ => False) w3 w4_2) w4_2 (Dk.new 3 300) (Dk.new 3 300) A4 c4 (2 * long (l.take 0)) := ⟨hDA.fa.nw hE4b, Or.inr ⟨by have := hE4.size; omega, hs43⟩, hRA4.keep (fun b hb => by
        have hb4 : b < w4.heap.size := by rcases hb with hb | hb; exact hb.elim; exact hb.2
        rw [C4_2.block b (Nat.lt_of_lt_of_le hb4 E4_1.size) (by omega), E4_1.block b hb4]) (fun b hb => by
        rcases hb with hb | hb
        · exact hb.elim
        · exact ⟨Or.inr ⟨hb.1, by omega⟩, by omega⟩), sim_refl _, (WF.new 3 300).mono (by omega), (WF.new 3 300).mono (by omega)⟩
      refine WL_nil ?_
      refine W_seq ?_
      refine W_seq ?_
      refine W_region ?_
      refine op rfl (r_assignV (v := .int _ _) rfl) ?_
      refine WL_nil ?_
      refine W_block ?_
      refine W_loop [7, 8, 9, 28, 29, 30, 31, 32, 33, 34, 35, 36, 37, 38, 39, 40, 41, 42, 43, 44, 45, 46, 47, 48, 49] (fun q e' w' => ∃ (i : Nat) (D R : Dk) (F : Nat → Prop) (A : Option Addr) (c : Nat), q = l.length - i ∧ i ≤ l.length ∧ e' 7 = .int .i64 i ∧ Ext W w' ∧ Blk w' b4_1 (R.rc A c) 40 ∧ DD p w1b.heap.size b4_1 F w' D R A c (2 * long (l.take i)) ∧ D.n = 3) (l.length) ?_ ?_
      · exact ⟨0, _, _, _, _, _, by omega, by omega, rfl, hX, B4_1, hDD0, rfl⟩
      intro k g w' hI
      obtain ⟨i, D, R, F, A, c, hq, hi, h7, hX', B4_1', hDD, hDn⟩ := hI
      clear hX B4_1
      have hX := hX'
      have B4_1 := B4_1'
      clear hX' B4_1'
      have hlo := long_le l i
      refine W_set (i := 7) h7 ?_
      refine W_seq ?_
      refine W_seq ?_
      refine W_region ?_
      refine op rfl (r_moveV (v := .int _ _) rfl) ?_
      refine op rfl (r_moveV (v := .slice _ _ _) rfl) ?_
      refine op rfl (r_len_slice rfl Try.underlying46) ?_
      refine op rfl (r_lss rfl rfl) ?_
      refine WL_nil ?_
      refine W_ifp rfl (fun ht31 => ?_) (fun ht31 => ?_)
      · have hlt : i < l.length := by omega
        obtain ⟨g, off, Ab, cb, hAe, hlb, hrb, hcell⟩ := do_cells hA hlt
        have htk := long_take hlt
        have hlo1 := long_le l (i + 1)
        refine W_skip ?_
        refine W_seq ?_
        refine W_block ?_
        refine W_seq ?_
        refine W_region ?_
        refine op rfl (r_moveV (v := .pointer _) rfl) ?_
        refine op rfl (r_moveV (v := .slice _ _ _) rfl) ?_
        refine op rfl (r_moveV (v := .int _ _) rfl) ?_
        refine op rfl (r_indexAddrN rfl rfl hAe Try.underlying46 Try.sz51 (by omega) (by omega)) ?_
        refine op rfl (r_load_agg (cs := [.int .i64 l[i].k, .int .i64 l[i].a, .int .i64 l[i].n, .slice Ab l[i].b.length cb]) rfl Try.underlying51 rfl Try.sz51 rfl (hcell _ hX)) ?_
        refine opCv rfl (r_call Try.func26 Try.nm26 rfl) (did_fa hDD.fa hDD.wd (by omega) l[i] Ab cb hlb (G := old W) (fun x hx ↦ Nat.lt_of_lt_of_le hx hX3.size) (Row.fext hrb (fun _ h ↦ h) hX)) ?_
        rintro v w2 ⟨rfl, hFA, hFo⟩
        have hX8 : Ext W w2 := Below.trans hX (hFo.below.mono hX3.size)
        replace hX := hX8
        replace B4_1 := B4_1.at (hFo.same _ hDD.f8)
        have hRA8 : RA w2 (fun b => F b ∧ b ≠ b4_1) A c R := hDD.ra.keep (fun b hb => hFo.same b hb.1) (fun _ h => h)
        have hFlt : ∀ b, (F b ∧ b ≠ b4_1) → b < w2.heap.size := fun b hb => hFA.lt b hb.1
        refine WL_nil ?_
        refine W_seq ?_
        refine W_drawF (W0 := W) (fun b : Nat => b = b4_1 ∨ False) Try.wd rfl ?_
        intro wd9 hD
        replace B4_1 := Blk.ext B4_1 hD
        replace hX := hX.trans hD
        have DB4_1 := B4_1
        have hS : Ext W wd9 ∧ Same (fun b : Nat => b = b4_1 ∨ False) wd9 wd9 := ⟨hX, fun _ _ => rfl⟩
        refine A_take (i := 0) rfl (by kernel_rfl) (by kernel_rfl) (by kernel_rfl) rfl hS (fun _ hw => r_loadRow rfl (Blk.at DB4_1 (hw.2 _ (Or.inl rfl))) Try.underlying40 rfl Try.sz40) ?_
        refine A_take (i := 1) rfl (by kernel_rfl) (by kernel_rfl) (by kernel_rfl) rfl hS (fun _ hw => r_moveV (v := .slice _ _ _) rfl) ?_
        refine A_take (i := 2) rfl (by kernel_rfl) (by kernel_rfl) (by kernel_rfl) rfl hS (fun _ hw => r_moveV (v := .int _ _) rfl) ?_
        refine A_take (i := 3) rfl (by kernel_rfl) (by kernel_rfl) (by kernel_rfl) rfl hS (fun _ hw => r_indexAddrN rfl rfl hAe Try.underlying46 Try.sz51 (by omega) (by omega)) ?_
        refine A_take (i := 4) rfl (by kernel_rfl) (by kernel_rfl) (by kernel_rfl) rfl hS (fun _ hw => r_load_agg (cs := [.int .i64 l[i].k, .int .i64 l[i].a, .int .i64 l[i].n, .slice Ab l[i].b.length cb]) rfl Try.underlying51 rfl Try.sz51 rfl (hcell _ hw.1)) ?_
        refine A_ready2 (i := 5) (j := 9) (by kernel_rfl) ?_ ?_
        · refine O_call rfl rfl (r_call Try.func27 Try.nm27 rfl) (rstep_spec R A c l[i] Ab cb _ (fun b hb ↦ Nat.lt_of_lt_of_le (hFlt b hb) (by first | exact hD.size | exact (hD.trans E9_9).size)) (hRA8.ext hFlt (by first | exact hD | exact hD.trans E9_9)) hDD.wr (by omega) hlb (fun x hx ↦ Nat.lt_of_lt_of_le hx hX.size) (Row.fext hrb (fun _ h ↦ h) hX)) ?_
          rintro v wy ⟨A', c', rfl, hRA', hE⟩
          replace B4_1 := Blk.ext B4_1 hE
          replace hX := hX.trans hE
          replace hS : Ext W wy ∧ Same (fun b : Nat => b = b4_1 ∨ False) wd9 wy := ⟨hX, fun b hb => Or.elim hb (fun q => by subst q; exact Blk.eq B4_1 DB4_1) (fun hb => hb.elim)⟩
          refine ⟨hS, ?_⟩
          have hE5 := hE
          refine A_take (i := 6) rfl (by kernel_rfl) (by kernel_rfl) (by kernel_rfl) rfl hS (fun _ hw => r_moveV (v := .tuple #[(R.rdoes l[i]).1.rv A' c', .int .i64 (R.rdoes l[i]).2]) rfl) ?_
          refine A_take (i := 7) rfl (by kernel_rfl) (by kernel_rfl) (by kernel_rfl) rfl hS (fun _ hw => r_extract (vs := [(R.rdoes l[i]).1.rv A' c', .int .i64 (R.rdoes l[i]).2]) rfl rfl) ?_
          refine A_take (i := 8) rfl (by kernel_rfl) (by kernel_rfl) (by kernel_rfl) rfl hS (fun _ hw => r_extract (vs := [(R.rdoes l[i]).1.rv A' c', .int .i64 (R.rdoes l[i]).2]) rfl rfl) ?_
          refine A_ready1 (i := 9) (by kernel_rfl) ?_
          refine O_new rfl rfl (r_alloc Try.zero40) ?_
          intro w9_9 b9_9 E9_9 B9_9 L9_9
          have hG9_9 : W.heap.size ≤ b9_9 := by have := hX.size; omega
          have hNb4_1_9_9 : b4_1 ≠ b9_9 := by have := Blk.lt B4_1; omega
          replace B4_1 := Blk.ext B4_1 E9_9
          replace hX := hX.trans E9_9
          replace hS : Ext W w9_9 ∧ Same (fun b : Nat => b = b4_1 ∨ False) wd9 w9_9 := ⟨hX, fun b hb => Or.elim hb (fun q => by subst q; exact Blk.eq B4_1 DB4_1) (fun hb => hb.elim)⟩
          refine ⟨hS, ?_⟩
          have hb99 := Blk.lt B9_9
          refine A_ready1 (i := 10) (by kernel_rfl) ?_
          refine O_storeRow rfl rfl rfl Try.sz40 B9_9 rfl rfl ?_
          intro w9_10 C9_10 BB9_10
          replace B4_1 := Chg.blk C9_10 B4_1 hNb4_1_9_9
          replace hX := hX.chg C9_10 hG9_9
          replace B9_9 := BB9_10
          replace hS : Ext W w9_10 ∧ Same (fun b : Nat => b = b4_1 ∨ False) wd9 w9_10 := ⟨hX, fun b hb => Or.elim hb (fun q => by subst q; exact Blk.eq B4_1 DB4_1) (fun hb => hb.elim)⟩
          refine ⟨hS, ?_⟩
          refine A_take (i := 11) rfl (by kernel_rfl) (by kernel_rfl) (by kernel_rfl) rfl hS (fun _ hw => r_assignV (v := .int .i64 (R.rdoes l[i]).2) rfl) ?_
          refine A_done (by kernel_rfl) ?_
          have hk9 : ∃ wx, Ext w2 wx ∧ Ext wx wy ∧ RA wy (Nw (fun b => F b ∧ b ≠ b4_1) wx wy) A' c' (R.rdoes l[i]).1 ∧ (b9_9 < wx.heap.size ∨ wy.heap.size ≤ b9_9) := by
            first
              | exact ⟨wd9, hD, hE5, hRA', Or.inr (by omega)⟩
              | exact ⟨w9_9, hD.trans E9_9, hE5, hRA', Or.inl hb99⟩
          have hE39 : Ext w2 w9_10 := by
            have z1 := hD.size
            have z2 := hE5.size
            first
              | exact Chg.ext ((hD.trans hE5).trans E9_9) (by omega) C9_10
              | exact Chg.ext ((hD.trans E9_9).trans hE5) (by omega) C9_10
          have hsm9 : ∀ b, b < wy.heap.size → b ≠ b9_9 → w9_10.heap[b]? = wy.heap[b]? := by
            intro b hb hne
            first
              | exact C9_10.block b hb hne
              | exact (C9_10.block b (Nat.lt_of_lt_of_le hb E9_9.size) hne).trans (E9_9.block b hb)
          have hsz9 : wy.heap.size ≤ w9_10.heap.size := by
            have := C9_10.size
            have := E9_9.size
            omega
          have h99 : w2.heap.size ≤ b9_9 ∧ b9_9 < w9_10.heap.size := by
            have z1 := hD.size
            have z2 := hE5.size
            have z3 := Blk.lt B9_9
            exact ⟨by omega, z3⟩
          refine W_region ?_
          refine op rfl (r_loadRow rfl B9_9 Try.underlying40 rfl Try.sz40) ?_
          refine op_storeRow rfl rfl Try.sz40 B4_1 rfl rfl ?_
          intro w10_1 C10_1 BB10_1
          replace B9_9 := Chg.blk C10_1 B9_9 (fun q => hNb4_1_9_9 q.symm)
          replace hX := hX.chg C10_1 hG4_1
          replace B4_1 := BB10_1
          obtain ⟨wx, kx1, kx2, kx3, kx4⟩ := hk9
          have hDD2 := DD.step hDD hFA hFo kx1 kx2 kx3 hE39 hsm9 hsz9 h99 kx4 C10_1
          have hkk : 2 * long (l.take i) + 2 * (1 + l[i].b.length) = 2 * long (l.take (i + 1)) := by omega
          rw [hkk] at hDD2
          refine WL_nil ?_
          refine W_region ?_
          refine op rfl (r_moveV (v := .int _ _) rfl) ?_
          refine op rfl (r_add' rfl rfl (wrap_i64 (by omega) (by omega))) ?_
          refine op rfl (r_assignV (v := .int _ _) rfl) ?_
          refine WL_nil ?_
          refine ⟨?_, by repeat (first | with_reducible exact Out.refl _ _ | with_reducible exact Out.mix | refine Out.put rfl ?_ | refine Out.mixin rfl ?_ | exact Out.refl _ _ | exact Out.mix)⟩
          exact ⟨l.length - (i + 1), by omega, i + 1, _, _, _, _, _, rfl, by omega, rfl, hX, B4_1, hDD2, by rw [does_n]; exact hDn⟩
        · refine O_new rfl rfl (r_alloc Try.zero40) ?_
          intro w9_9 b9_9 E9_9 B9_9 L9_9
          have hG9_9 : W.heap.size ≤ b9_9 := by have := hX.size; omega
          have hNb4_1_9_9 : b4_1 ≠ b9_9 := by have := Blk.lt B4_1; omega
          replace B4_1 := Blk.ext B4_1 E9_9
          replace hX := hX.trans E9_9
          replace hS : Ext W w9_9 ∧ Same (fun b : Nat => b = b4_1 ∨ False) wd9 w9_9 := ⟨hX, fun b hb => Or.elim hb (fun q => by subst q; exact Blk.eq B4_1 DB4_1) (fun hb => hb.elim)⟩
          refine ⟨hS, ?_⟩
          have hb99 := Blk.lt B9_9
          refine A_ready1 (i := 5) (by kernel_rfl) ?_
          refine O_call rfl rfl (r_call Try.func27 Try.nm27 rfl) (rstep_spec R A c l[i] Ab cb _ (fun b hb ↦ Nat.lt_of_lt_of_le (hFlt b hb) (by first | exact hD.size | exact (hD.trans E9_9).size)) (hRA8.ext hFlt (by first | exact hD | exact hD.trans E9_9)) hDD.wr (by omega) hlb (fun x hx ↦ Nat.lt_of_lt_of_le hx hX.size) (Row.fext hrb (fun _ h ↦ h) hX)) ?_
          rintro v wy ⟨A', c', rfl, hRA', hE⟩
          replace B4_1 := Blk.ext B4_1 hE
          replace B9_9 := Blk.ext B9_9 hE
          replace hX := hX.trans hE
          replace hS : Ext W wy ∧ Same (fun b : Nat => b = b4_1 ∨ False) wd9 wy := ⟨hX, fun b hb => Or.elim hb (fun q => by subst q; exact Blk.eq B4_1 DB4_1) (fun hb => hb.elim)⟩
          refine ⟨hS, ?_⟩
          have hE5 := hE
          refine A_take (i := 6) rfl (by kernel_rfl) (by kernel_rfl) (by kernel_rfl) rfl hS (fun _ hw => r_moveV (v := .tuple #[(R.rdoes l[i]).1.rv A' c', .int .i64 (R.rdoes l[i]).2]) rfl) ?_
          refine A_take (i := 7) rfl (by kernel_rfl) (by kernel_rfl) (by kernel_rfl) rfl hS (fun _ hw => r_extract (vs := [(R.rdoes l[i]).1.rv A' c', .int .i64 (R.rdoes l[i]).2]) rfl rfl) ?_
          refine A_take (i := 8) rfl (by kernel_rfl) (by kernel_rfl) (by kernel_rfl) rfl hS (fun _ hw => r_extract (vs := [(R.rdoes l[i]).1.rv A' c', .int .i64 (R.rdoes l[i]).2]) rfl rfl) ?_
          refine A_ready1 (i := 10) (by kernel_rfl) ?_
          refine O_storeRow rfl rfl rfl Try.sz40 B9_9 rfl rfl ?_
          intro w9_10 C9_10 BB9_10
          replace B4_1 := Chg.blk C9_10 B4_1 hNb4_1_9_9
          replace hX := hX.chg C9_10 hG9_9
          replace B9_9 := BB9_10
          replace hS : Ext W w9_10 ∧ Same (fun b : Nat => b = b4_1 ∨ False) wd9 w9_10 := ⟨hX, fun b hb => Or.elim hb (fun q => by subst q; exact Blk.eq B4_1 DB4_1) (fun hb => hb.elim)⟩
          refine ⟨hS, ?_⟩
          refine A_take (i := 11) rfl (by kernel_rfl) (by kernel_rfl) (by kernel_rfl) rfl hS (fun _ hw => r_assignV (v := .int .i64 (R.rdoes l[i]).2) rfl) ?_
          refine A_done (by kernel_rfl) ?_
          have hk9 : ∃ wx, Ext w2 wx ∧ Ext wx wy ∧ RA wy (Nw (fun b => F b ∧ b ≠ b4_1) wx wy) A' c' (R.rdoes l[i]).1 ∧ (b9_9 < wx.heap.size ∨ wy.heap.size ≤ b9_9) := by
            first
              | exact ⟨wd9, hD, hE5, hRA', Or.inr (by omega)⟩
              | exact ⟨w9_9, hD.trans E9_9, hE5, hRA', Or.inl hb99⟩
          have hE39 : Ext w2 w9_10 := by
            have z1 := hD.size
            have z2 := hE5.size
            first
              | exact Chg.ext ((hD.trans hE5).trans E9_9) (by omega) C9_10
              | exact Chg.ext ((hD.trans E9_9).trans hE5) (by omega) C9_10
          have hsm9 : ∀ b, b < wy.heap.size → b ≠ b9_9 → w9_10.heap[b]? = wy.heap[b]? := by
            intro b hb hne
            first
              | exact C9_10.block b hb hne
              | exact (C9_10.block b (Nat.lt_of_lt_of_le hb E9_9.size) hne).trans (E9_9.block b hb)
          have hsz9 : wy.heap.size ≤ w9_10.heap.size := by
            have := C9_10.size
            have := E9_9.size
            omega
          have h99 : w2.heap.size ≤ b9_9 ∧ b9_9 < w9_10.heap.size := by
            have z1 := hD.size
            have z2 := hE5.size
            have z3 := Blk.lt B9_9
            exact ⟨by omega, z3⟩
          refine W_region ?_
          refine op rfl (r_loadRow rfl B9_9 Try.underlying40 rfl Try.sz40) ?_
          refine op_storeRow rfl rfl Try.sz40 B4_1 rfl rfl ?_
          intro w10_1 C10_1 BB10_1
          replace B9_9 := Chg.blk C10_1 B9_9 (fun q => hNb4_1_9_9 q.symm)
          replace hX := hX.chg C10_1 hG4_1
          replace B4_1 := BB10_1
          obtain ⟨wx, kx1, kx2, kx3, kx4⟩ := hk9
          have hDD2 := DD.step hDD hFA hFo kx1 kx2 kx3 hE39 hsm9 hsz9 h99 kx4 C10_1
          have hkk : 2 * long (l.take i) + 2 * (1 + l[i].b.length) = 2 * long (l.take (i + 1)) := by omega
          rw [hkk] at hDD2
          refine WL_nil ?_
          refine W_region ?_
          refine op rfl (r_moveV (v := .int _ _) rfl) ?_
          refine op rfl (r_add' rfl rfl (wrap_i64 (by omega) (by omega))) ?_
          refine op rfl (r_assignV (v := .int _ _) rfl) ?_
          refine WL_nil ?_
          refine ⟨?_, by repeat (first | with_reducible exact Out.refl _ _ | with_reducible exact Out.mix | refine Out.put rfl ?_ | refine Out.mixin rfl ?_ | exact Out.refl _ _ | exact Out.mix)⟩
          exact ⟨l.length - (i + 1), by omega, i + 1, _, _, _, _, _, rfl, by omega, rfl, hX, B4_1, hDD2, by rw [does_n]; exact hDn⟩
      · obtain rfl : i = l.length := by omega
        rw [List.take_length] at hDD
        obtain ⟨wC, hwC⟩ : ∃ wC, wC = w' := ⟨_, rfl⟩
        subst hwC
        have hXC := hX
        have hBC := B4_1
        have hlC := Blk.lt B4_1
        refine W_exit (blk_hit ?_)
        refine W_seq ?_
        refine W_region ?_
        refine op rfl (r_moveV (v := .pointer _) rfl) ?_
        refine opCv rfl (r_call Try.func23 Try.nm23 rfl) (copy_da hDD.fa.da hDD.wd (by omega) (by rw [hDn]; omega)) ?_
        rintro v wc ⟨q, rfl, hE, hDAq⟩
        replace B4_1 := Blk.ext B4_1 hE
        replace hX := hX.trans hE
        have hEq := hE
        refine op rfl (r_assignV (v := .pointer _) rfl) ?_
        refine WL_nil ?_
        refine W_seq ?_
        refine W_region ?_
        refine op rfl (r_loadRow rfl B4_1 Try.underlying40 rfl Try.sz40) ?_
        refine op_alloc rfl Try.zero40 ?_
        intro w12_1 b12_1 E12_1 B12_1 L12_1
        have hG12_1 : W.heap.size ≤ b12_1 := by have := hX.size; omega
        have hNb4_1_12_1 : b4_1 ≠ b12_1 := by have := Blk.lt B4_1; omega
        replace B4_1 := Blk.ext B4_1 E12_1
        replace hX := hX.trans E12_1
        refine op_storeRow rfl rfl Try.sz40 B12_1 rfl rfl ?_
        intro w12_2 C12_2 BB12_2
        replace B4_1 := Chg.blk C12_2 B4_1 hNb4_1_12_1
        replace hX := hX.chg C12_2 hG12_1
        replace B12_1 := BB12_2
        have hEC : Ext wc w12_2 := Chg.ext E12_1 (by omega) C12_2
        have hECC : Ext wC w12_2 := hEq.trans hEC
        have hs12 := Blk.lt B12_1
        have hszq := hEq.size
        have hDDq : DD q wC.heap.size b12_1 (Nw (fun b => b < wC.heap.size) wc w12_2) w12_2 D R A c (2 * long l + 2 * long (m.take 0)) := ⟨hDAq.faB.nw hEC, Or.inr ⟨by omega, hs12⟩, hDD.ra.keep (fun b hb => hECC.block b (hDD.lt b hb)) (fun b hb => by
          have := hDD.lt b hb
          exact ⟨Or.inl this, by omega⟩), hDD.sim, hDD.wd.mono (by omega), hDD.wr.mono (by omega)⟩
        refine WL_nil ?_
        refine W_seq ?_
        refine W_seq ?_
        refine W_region ?_
        refine op rfl (r_assignV (v := .int _ _) rfl) ?_
        refine WL_nil ?_
        refine W_block ?_
        refine W_loop [4, 12, 13, 14, 15, 53, 54, 55, 56, 57, 58, 59, 60, 61, 62, 63, 64, 65, 66, 67, 68, 69, 70, 71, 72, 73, 74, 75, 76, 77] (fun q' e' w' => ∃ (j : Nat) (D2 R2 : Dk) (F2 : Nat → Prop) (A2 : Option Addr) (c2 : Nat), q' = m.length - j ∧ j ≤ m.length ∧ e' 12 = .int .i64 j ∧ Ext W w' ∧ Ext wC w' ∧ Blk w' b12_1 (R2.rc A2 c2) 40 ∧ DD q wC.heap.size b12_1 F2 w' D2 R2 A2 c2 (2 * long l + 2 * long (m.take j)) ∧ Blk w' b4_1 (R.rc A c) 40) (m.length) ?_ ?_
        · exact ⟨0, _, _, _, _, _, by omega, by omega, rfl, hX, hECC, B12_1, hDDq, B4_1⟩
        intro k g w' hI
        obtain ⟨j, D2, R2, F2, A2, c2, hq2, hj, h12, hX', hCX, B12_1', hDE, B4_1'⟩ := hI
        clear hX B4_1 B12_1
        have hX := hX'
        have B4_1 := B4_1'
        have B12_1 := B12_1'
        clear hX' B4_1' B12_1'
        have hlo2 := long_le m j
        refine W_set (i := 12) h12 ?_
        refine W_seq ?_
        refine W_seq ?_
        refine W_region ?_
        refine op rfl (r_moveV (v := .int _ _) rfl) ?_
        refine op rfl (r_moveV (v := .slice _ _ _) rfl) ?_
        refine op rfl (r_len_slice rfl Try.underlying46) ?_
        refine op rfl (r_lss rfl rfl) ?_
        refine WL_nil ?_
        refine W_ifp rfl (fun ht56 => ?_) (fun ht56 => ?_)
        · have hlt2 : j < m.length := by omega
          obtain ⟨g2, off2, Ab2, cb2, hAe2, hlb2, hrb2, hcell2⟩ := do_cells hM hlt2
          have htk2 := long_take hlt2
          have hlo3 := long_le m (j + 1)
          refine W_skip ?_
          refine W_seq ?_
          refine W_block ?_
          refine W_seq ?_
          refine W_region ?_
          refine op rfl (r_moveV (v := .pointer _) rfl) ?_
          refine op rfl (r_moveV (v := .slice _ _ _) rfl) ?_
          refine op rfl (r_moveV (v := .int _ _) rfl) ?_
          refine op rfl (r_indexAddrN rfl rfl hAe2 Try.underlying46 Try.sz51 (by omega) (by omega)) ?_
          refine op rfl (r_load_agg (cs := [.int .i64 m[j].k, .int .i64 m[j].a, .int .i64 m[j].n, .slice Ab2 m[j].b.length cb2]) rfl Try.underlying51 rfl Try.sz51 rfl (hcell2 _ hX)) ?_
          refine opCv rfl (r_call Try.func26 Try.nm26 rfl) (did_fa hDE.fa hDE.wd (by omega) m[j] Ab2 cb2 hlb2 (G := old W) (fun x hx ↦ Nat.lt_of_lt_of_le hx hXC.size) (Row.fext hrb2 (fun _ h ↦ h) hX)) ?_
          rintro v w22 ⟨rfl, hFA2, hFo2⟩
          have hX16 : Ext W w22 := Below.trans hX (hFo2.below.mono hXC.size)
          have hCX8 : Ext wC w22 := Below.trans hCX hFo2.below
          replace hX := hX16
          replace B12_1 := B12_1.at (hFo2.same _ hDE.f8)
          replace B4_1 := B4_1.at (hFo2.below.block _ hlC)
          have hRA16 : RA w22 (fun b => F2 b ∧ b ≠ b12_1) A2 c2 R2 := hDE.ra.keep (fun b hb => hFo2.same b hb.1) (fun _ h => h)
          have hFlt2 : ∀ b, (F2 b ∧ b ≠ b12_1) → b < w22.heap.size := fun b hb => hFA2.lt b hb.1
          have hres : (D2.does m[j]).2 = (R2.rdoes m[j]).2 := ((hDE.sim.does _).2).symm
          refine op rfl (r_assignV (v := .int _ _) rfl) ?_
          refine WL_nil ?_
          refine W_seq ?_
          refine W_drawF (W0 := W) (fun b : Nat => b = b4_1 ∨ b = b12_1 ∨ False) Try.wd rfl ?_
          intro wd17 hD
          replace B4_1 := Blk.ext B4_1 hD
          replace B12_1 := Blk.ext B12_1 hD
          replace hX := hX.trans hD
          have DB4_1 := B4_1
          have DB12_1 := B12_1
          have hS : Ext W wd17 ∧ Same (fun b : Nat => b = b4_1 ∨ b = b12_1 ∨ False) wd17 wd17 := ⟨hX, fun _ _ => rfl⟩
          refine A_take (i := 0) rfl (by kernel_rfl) (by kernel_rfl) (by kernel_rfl) rfl hS (fun _ hw => r_loadRow rfl (Blk.at DB12_1 (hw.2 _ (Or.inr (Or.inl rfl)))) Try.underlying40 rfl Try.sz40) ?_
          refine A_take (i := 1) rfl (by kernel_rfl) (by kernel_rfl) (by kernel_rfl) rfl hS (fun _ hw => r_moveV (v := .slice _ _ _) rfl) ?_
          refine A_take (i := 2) rfl (by kernel_rfl) (by kernel_rfl) (by kernel_rfl) rfl hS (fun _ hw => r_moveV (v := .int _ _) rfl) ?_
          refine A_take (i := 3) rfl (by kernel_rfl) (by kernel_rfl) (by kernel_rfl) rfl hS (fun _ hw => r_indexAddrN rfl rfl hAe2 Try.underlying46 Try.sz51 (by omega) (by omega)) ?_
          refine A_take (i := 4) rfl (by kernel_rfl) (by kernel_rfl) (by kernel_rfl) rfl hS (fun _ hw => r_load_agg (cs := [.int .i64 m[j].k, .int .i64 m[j].a, .int .i64 m[j].n, .slice Ab2 m[j].b.length cb2]) rfl Try.underlying51 rfl Try.sz51 rfl (hcell2 _ hw.1)) ?_
          refine A_ready2 (i := 5) (j := 9) (by kernel_rfl) ?_ ?_
          · refine O_call rfl rfl (r_call Try.func27 Try.nm27 rfl) (rstep_spec R2 A2 c2 m[j] Ab2 cb2 _ (fun b hb ↦ Nat.lt_of_lt_of_le (hFlt2 b hb) (by first | exact hD.size | exact (hD.trans E17_9).size)) (hRA16.ext hFlt2 (by first | exact hD | exact hD.trans E17_9)) hDE.wr (by omega) hlb2 (fun x hx ↦ Nat.lt_of_lt_of_le hx hX.size) (Row.fext hrb2 (fun _ h ↦ h) hX)) ?_
            rintro v wy ⟨A', c', rfl, hRA', hE⟩
            replace B4_1 := Blk.ext B4_1 hE
            replace B12_1 := Blk.ext B12_1 hE
            replace hX := hX.trans hE
            replace hS : Ext W wy ∧ Same (fun b : Nat => b = b4_1 ∨ b = b12_1 ∨ False) wd17 wy := ⟨hX, fun b hb => Or.elim hb (fun q => by subst q; exact Blk.eq B4_1 DB4_1) (fun hb => Or.elim hb (fun q => by subst q; exact Blk.eq B12_1 DB12_1) (fun hb => hb.elim))⟩
            refine ⟨hS, ?_⟩
            have hE5 := hE
            refine A_take (i := 6) rfl (by kernel_rfl) (by kernel_rfl) (by kernel_rfl) rfl hS (fun _ hw => r_moveV (v := .tuple #[(R2.rdoes m[j]).1.rv A' c', .int .i64 (R2.rdoes m[j]).2]) rfl) ?_
            refine A_take (i := 7) rfl (by kernel_rfl) (by kernel_rfl) (by kernel_rfl) rfl hS (fun _ hw => r_extract (vs := [(R2.rdoes m[j]).1.rv A' c', .int .i64 (R2.rdoes m[j]).2]) rfl rfl) ?_
            refine A_take (i := 8) rfl (by kernel_rfl) (by kernel_rfl) (by kernel_rfl) rfl hS (fun _ hw => r_extract (vs := [(R2.rdoes m[j]).1.rv A' c', .int .i64 (R2.rdoes m[j]).2]) rfl rfl) ?_
            refine A_ready1 (i := 9) (by kernel_rfl) ?_
            refine O_new rfl rfl (r_alloc Try.zero40) ?_
            intro w17_9 b17_9 E17_9 B17_9 L17_9
            have hG17_9 : W.heap.size ≤ b17_9 := by have := hX.size; omega
            have hNb4_1_17_9 : b4_1 ≠ b17_9 := by have := Blk.lt B4_1; omega
            replace B4_1 := Blk.ext B4_1 E17_9
            have hNb12_1_17_9 : b12_1 ≠ b17_9 := by have := Blk.lt B12_1; omega
            replace B12_1 := Blk.ext B12_1 E17_9
            replace hX := hX.trans E17_9
            replace hS : Ext W w17_9 ∧ Same (fun b : Nat => b = b4_1 ∨ b = b12_1 ∨ False) wd17 w17_9 := ⟨hX, fun b hb => Or.elim hb (fun q => by subst q; exact Blk.eq B4_1 DB4_1) (fun hb => Or.elim hb (fun q => by subst q; exact Blk.eq B12_1 DB12_1) (fun hb => hb.elim))⟩
            refine ⟨hS, ?_⟩
            have hb99 := Blk.lt B17_9
            refine A_ready1 (i := 10) (by kernel_rfl) ?_
            refine O_storeRow rfl rfl rfl Try.sz40 B17_9 rfl rfl ?_
            intro w17_10 C17_10 BB17_10
            replace B4_1 := Chg.blk C17_10 B4_1 hNb4_1_17_9
            replace B12_1 := Chg.blk C17_10 B12_1 hNb12_1_17_9
            replace hX := hX.chg C17_10 hG17_9
            replace B17_9 := BB17_10
            replace hS : Ext W w17_10 ∧ Same (fun b : Nat => b = b4_1 ∨ b = b12_1 ∨ False) wd17 w17_10 := ⟨hX, fun b hb => Or.elim hb (fun q => by subst q; exact Blk.eq B4_1 DB4_1) (fun hb => Or.elim hb (fun q => by subst q; exact Blk.eq B12_1 DB12_1) (fun hb => hb.elim))⟩
            refine ⟨hS, ?_⟩
            refine A_take (i := 11) rfl (by kernel_rfl) (by kernel_rfl) (by kernel_rfl) rfl hS (fun _ hw => r_assignV (v := .int .i64 (R2.rdoes m[j]).2) rfl) ?_
            refine A_done (by kernel_rfl) ?_
            have hk9 : ∃ wx, Ext w22 wx ∧ Ext wx wy ∧ RA wy (Nw (fun b => F2 b ∧ b ≠ b12_1) wx wy) A' c' (R2.rdoes m[j]).1 ∧ (b17_9 < wx.heap.size ∨ wy.heap.size ≤ b17_9) := by
              first
                | exact ⟨wd17, hD, hE5, hRA', Or.inr (by omega)⟩
                | exact ⟨w17_9, hD.trans E17_9, hE5, hRA', Or.inl hb99⟩
            have hE39 : Ext w22 w17_10 := by
              have z1 := hD.size
              have z2 := hE5.size
              first
                | exact Chg.ext ((hD.trans hE5).trans E17_9) (by omega) C17_10
                | exact Chg.ext ((hD.trans E17_9).trans hE5) (by omega) C17_10
            have hsm9 : ∀ b, b < wy.heap.size → b ≠ b17_9 → w17_10.heap[b]? = wy.heap[b]? := by
              intro b hb hne
              first
                | exact C17_10.block b hb hne
                | exact (C17_10.block b (Nat.lt_of_lt_of_le hb E17_9.size) hne).trans (E17_9.block b hb)
            have hsz9 : wy.heap.size ≤ w17_10.heap.size := by
              have := C17_10.size
              have := E17_9.size
              omega
            have h99 : w22.heap.size ≤ b17_9 ∧ b17_9 < w17_10.heap.size := by
              have z1 := hD.size
              have z2 := hE5.size
              have z3 := Blk.lt B17_9
              exact ⟨by omega, z3⟩
            refine W_seq ?_
            refine W_region ?_
            refine op rfl (r_loadRow rfl B17_9 Try.underlying40 rfl Try.sz40) ?_
            refine op_storeRow rfl rfl Try.sz40 B12_1 rfl rfl ?_
            intro w18_1 C18_1 BB18_1
            replace B4_1 := Chg.blk C18_1 B4_1 hNb4_1_12_1
            replace B17_9 := Chg.blk C18_1 B17_9 (fun q => hNb12_1_17_9 q.symm)
            replace hX := hX.chg C18_1 hG12_1
            replace B12_1 := BB18_1
            obtain ⟨wx, kx1, kx2, kx3, kx4⟩ := hk9
            have hDE2 := DD.step hDE hFA2 hFo2 kx1 kx2 kx3 hE39 hsm9 hsz9 h99 kx4 C18_1
            have hkk : 2 * long l + 2 * long (m.take j) + 2 * (1 + m[j].b.length) = 2 * long l + 2 * long (m.take (j + 1)) := by omega
            rw [hkk] at hDE2
            have hCXe : Ext wC w18_1 := Chg.ext (hCX8.trans hE39) (by omega) C18_1
            refine WL_nil ?_
            refine W_seq ?_
            refine W_region ?_
            refine op rfl (r_moveV (v := .int _ _) rfl) ?_
            refine op rfl (r_moveV (v := .int .i64 (R2.rdoes m[j]).2) rfl) ?_
            refine op rfl (r_neq rfl rfl) ?_
            refine WL_nil ?_
            refine W_ifp rfl (fun ht77 => ?_) (fun ht77 => ?_)
            · exact absurd hres ht77
            · refine W_skip ?_
              refine W_region ?_
              refine op rfl (r_moveV (v := .int _ _) rfl) ?_
              refine op rfl (r_add' rfl rfl (wrap_i64 (by omega) (by omega))) ?_
              refine op rfl (r_assignV (v := .int _ _) rfl) ?_
              refine WL_nil ?_
              refine ⟨?_, by repeat (first | with_reducible exact Out.refl _ _ | with_reducible exact Out.mix | refine Out.put rfl ?_ | refine Out.mixin rfl ?_ | exact Out.refl _ _ | exact Out.mix)⟩
              exact ⟨m.length - (j + 1), by omega, j + 1, _, _, _, _, _, rfl, by omega, rfl, hX, hCXe, B12_1, hDE2, B4_1⟩
          · refine O_new rfl rfl (r_alloc Try.zero40) ?_
            intro w17_9 b17_9 E17_9 B17_9 L17_9
            have hG17_9 : W.heap.size ≤ b17_9 := by have := hX.size; omega
            have hNb4_1_17_9 : b4_1 ≠ b17_9 := by have := Blk.lt B4_1; omega
            replace B4_1 := Blk.ext B4_1 E17_9
            have hNb12_1_17_9 : b12_1 ≠ b17_9 := by have := Blk.lt B12_1; omega
            replace B12_1 := Blk.ext B12_1 E17_9
            replace hX := hX.trans E17_9
            replace hS : Ext W w17_9 ∧ Same (fun b : Nat => b = b4_1 ∨ b = b12_1 ∨ False) wd17 w17_9 := ⟨hX, fun b hb => Or.elim hb (fun q => by subst q; exact Blk.eq B4_1 DB4_1) (fun hb => Or.elim hb (fun q => by subst q; exact Blk.eq B12_1 DB12_1) (fun hb => hb.elim))⟩
            refine ⟨hS, ?_⟩
            have hb99 := Blk.lt B17_9
            refine A_ready1 (i := 5) (by kernel_rfl) ?_
            refine O_call rfl rfl (r_call Try.func27 Try.nm27 rfl) (rstep_spec R2 A2 c2 m[j] Ab2 cb2 _ (fun b hb ↦ Nat.lt_of_lt_of_le (hFlt2 b hb) (by first | exact hD.size | exact (hD.trans E17_9).size)) (hRA16.ext hFlt2 (by first | exact hD | exact hD.trans E17_9)) hDE.wr (by omega) hlb2 (fun x hx ↦ Nat.lt_of_lt_of_le hx hX.size) (Row.fext hrb2 (fun _ h ↦ h) hX)) ?_
            rintro v wy ⟨A', c', rfl, hRA', hE⟩
            replace B4_1 := Blk.ext B4_1 hE
            replace B12_1 := Blk.ext B12_1 hE
            replace B17_9 := Blk.ext B17_9 hE
            replace hX := hX.trans hE
            replace hS : Ext W wy ∧ Same (fun b : Nat => b = b4_1 ∨ b = b12_1 ∨ False) wd17 wy := ⟨hX, fun b hb => Or.elim hb (fun q => by subst q; exact Blk.eq B4_1 DB4_1) (fun hb => Or.elim hb (fun q => by subst q; exact Blk.eq B12_1 DB12_1) (fun hb => hb.elim))⟩
            refine ⟨hS, ?_⟩
            have hE5 := hE
            refine A_take (i := 6) rfl (by kernel_rfl) (by kernel_rfl) (by kernel_rfl) rfl hS (fun _ hw => r_moveV (v := .tuple #[(R2.rdoes m[j]).1.rv A' c', .int .i64 (R2.rdoes m[j]).2]) rfl) ?_
            refine A_take (i := 7) rfl (by kernel_rfl) (by kernel_rfl) (by kernel_rfl) rfl hS (fun _ hw => r_extract (vs := [(R2.rdoes m[j]).1.rv A' c', .int .i64 (R2.rdoes m[j]).2]) rfl rfl) ?_
            refine A_take (i := 8) rfl (by kernel_rfl) (by kernel_rfl) (by kernel_rfl) rfl hS (fun _ hw => r_extract (vs := [(R2.rdoes m[j]).1.rv A' c', .int .i64 (R2.rdoes m[j]).2]) rfl rfl) ?_
            refine A_ready1 (i := 10) (by kernel_rfl) ?_
            refine O_storeRow rfl rfl rfl Try.sz40 B17_9 rfl rfl ?_
            intro w17_10 C17_10 BB17_10
            replace B4_1 := Chg.blk C17_10 B4_1 hNb4_1_17_9
            replace B12_1 := Chg.blk C17_10 B12_1 hNb12_1_17_9
            replace hX := hX.chg C17_10 hG17_9
            replace B17_9 := BB17_10
            replace hS : Ext W w17_10 ∧ Same (fun b : Nat => b = b4_1 ∨ b = b12_1 ∨ False) wd17 w17_10 := ⟨hX, fun b hb => Or.elim hb (fun q => by subst q; exact Blk.eq B4_1 DB4_1) (fun hb => Or.elim hb (fun q => by subst q; exact Blk.eq B12_1 DB12_1) (fun hb => hb.elim))⟩
            refine ⟨hS, ?_⟩
            refine A_take (i := 11) rfl (by kernel_rfl) (by kernel_rfl) (by kernel_rfl) rfl hS (fun _ hw => r_assignV (v := .int .i64 (R2.rdoes m[j]).2) rfl) ?_
            refine A_done (by kernel_rfl) ?_
            have hk9 : ∃ wx, Ext w22 wx ∧ Ext wx wy ∧ RA wy (Nw (fun b => F2 b ∧ b ≠ b12_1) wx wy) A' c' (R2.rdoes m[j]).1 ∧ (b17_9 < wx.heap.size ∨ wy.heap.size ≤ b17_9) := by
              first
                | exact ⟨wd17, hD, hE5, hRA', Or.inr (by omega)⟩
                | exact ⟨w17_9, hD.trans E17_9, hE5, hRA', Or.inl hb99⟩
            have hE39 : Ext w22 w17_10 := by
              have z1 := hD.size
              have z2 := hE5.size
              first
                | exact Chg.ext ((hD.trans hE5).trans E17_9) (by omega) C17_10
                | exact Chg.ext ((hD.trans E17_9).trans hE5) (by omega) C17_10
            have hsm9 : ∀ b, b < wy.heap.size → b ≠ b17_9 → w17_10.heap[b]? = wy.heap[b]? := by
              intro b hb hne
              first
                | exact C17_10.block b hb hne
                | exact (C17_10.block b (Nat.lt_of_lt_of_le hb E17_9.size) hne).trans (E17_9.block b hb)
            have hsz9 : wy.heap.size ≤ w17_10.heap.size := by
              have := C17_10.size
              have := E17_9.size
              omega
            have h99 : w22.heap.size ≤ b17_9 ∧ b17_9 < w17_10.heap.size := by
              have z1 := hD.size
              have z2 := hE5.size
              have z3 := Blk.lt B17_9
              exact ⟨by omega, z3⟩
            refine W_seq ?_
            refine W_region ?_
            refine op rfl (r_loadRow rfl B17_9 Try.underlying40 rfl Try.sz40) ?_
            refine op_storeRow rfl rfl Try.sz40 B12_1 rfl rfl ?_
            intro w18_1 C18_1 BB18_1
            replace B4_1 := Chg.blk C18_1 B4_1 hNb4_1_12_1
            replace B17_9 := Chg.blk C18_1 B17_9 (fun q => hNb12_1_17_9 q.symm)
            replace hX := hX.chg C18_1 hG12_1
            replace B12_1 := BB18_1
            obtain ⟨wx, kx1, kx2, kx3, kx4⟩ := hk9
            have hDE2 := DD.step hDE hFA2 hFo2 kx1 kx2 kx3 hE39 hsm9 hsz9 h99 kx4 C18_1
            have hkk : 2 * long l + 2 * long (m.take j) + 2 * (1 + m[j].b.length) = 2 * long l + 2 * long (m.take (j + 1)) := by omega
            rw [hkk] at hDE2
            have hCXe : Ext wC w18_1 := Chg.ext (hCX8.trans hE39) (by omega) C18_1
            refine WL_nil ?_
            refine W_seq ?_
            refine W_region ?_
            refine op rfl (r_moveV (v := .int _ _) rfl) ?_
            refine op rfl (r_moveV (v := .int .i64 (R2.rdoes m[j]).2) rfl) ?_
            refine op rfl (r_neq rfl rfl) ?_
            refine WL_nil ?_
            refine W_ifp rfl (fun ht77 => ?_) (fun ht77 => ?_)
            · exact absurd hres ht77
            · refine W_skip ?_
              refine W_region ?_
              refine op rfl (r_moveV (v := .int _ _) rfl) ?_
              refine op rfl (r_add' rfl rfl (wrap_i64 (by omega) (by omega))) ?_
              refine op rfl (r_assignV (v := .int _ _) rfl) ?_
              refine WL_nil ?_
              refine ⟨?_, by repeat (first | with_reducible exact Out.refl _ _ | with_reducible exact Out.mix | refine Out.put rfl ?_ | refine Out.mixin rfl ?_ | exact Out.refl _ _ | exact Out.mix)⟩
              exact ⟨m.length - (j + 1), by omega, j + 1, _, _, _, _, _, rfl, by omega, rfl, hX, hCXe, B12_1, hDE2, B4_1⟩
        · obtain ⟨w5, hw5⟩ : ∃ w5, w5 = w' := ⟨_, rfl⟩
          subst hw5
          have hDF : DA p w1b.heap.size w5 D := hDD.fa.da.ext hCX
          have hRF := hDD.ext hCX
          refine W_exit (blk_hit ?_)
          refine W_seq ?_
          refine W_seq ?_
          refine W_region ?_
          refine op rfl (r_assignV (v := .int _ _) rfl) ?_
          refine WL_nil ?_
          refine W_block ?_
          refine W_loop [4, 16, 78, 79, 80, 81, 82, 83, 84, 85, 86, 87, 88, 89, 90, 91, 92, 93, 94, 95, 96, 97, 98, 99, 100, 101, 102, 103, 104, 105, 106, 107, 108, 109] (fun q e'' w'' => ∃ a : Int, q = (3 - a).toNat ∧ 0 ≤ a ∧ a ≤ 3 ∧ e'' 16 = .int .i64 a ∧ Ext W w'' ∧ Ext w5 w'' ∧ Blk w'' b4_1 (R.rc A c) 40 ∧ Blk w'' b12_1 (R2.rc A2 c2) 40) (3) ?_ ?_
          · exact ⟨0, by omega, by omega, by omega, rfl, hX, Ext.refl _, B4_1, B12_1⟩
          intro k g w' hI
          obtain ⟨a, hq3, ha1, ha2, h16, hX', hXX', B4_1', B12_1'⟩ := hI
          clear hX B4_1 B12_1
          have hX := hX'
          have hXX := hXX'
          have B4_1 := B4_1'
          have B12_1 := B12_1'
          clear hX' B4_1' B12_1' hXX'
          refine W_set (i := 16) h16 ?_
          refine W_seq ?_
          refine W_seq ?_
          refine W_region ?_
          refine op rfl (r_moveV (v := .int _ _) rfl) ?_
          refine op rfl (r_lss rfl rfl) ?_
          refine WL_nil ?_
          refine W_ifp rfl (fun ht79 => ?_) (fun ht79 => ?_)
          · refine W_skip ?_
            refine W_seq ?_
            refine W_block ?_
            refine W_seq ?_
            refine W_drawF (W0 := W) (fun b : Nat => b = b4_1 ∨ b = b12_1 ∨ False) Try.wd rfl ?_
            intro wd24 hD
            replace B4_1 := Blk.ext B4_1 hD
            replace B12_1 := Blk.ext B12_1 hD
            replace hX := hX.trans hD
            have DB4_1 := B4_1
            have DB12_1 := B12_1
            have hS : Ext W wd24 ∧ Same (fun b : Nat => b = b4_1 ∨ b = b12_1 ∨ False) wd24 wd24 := ⟨hX, fun _ _ => rfl⟩
            refine A_take (i := 0) rfl (by kernel_rfl) (by kernel_rfl) (by kernel_rfl) rfl hS (fun _ hw => r_moveV (v := .pointer _) rfl) ?_
            refine A_take (i := 1) rfl (by kernel_rfl) (by kernel_rfl) (by kernel_rfl) rfl hS (fun _ hw => r_moveV (v := .int _ _) rfl) ?_
            refine A_take (i := 3) rfl (by kernel_rfl) (by kernel_rfl) (by kernel_rfl) rfl hS (fun _ hw => r_loadRow rfl (Blk.at DB4_1 (hw.2 _ (Or.inl rfl))) Try.underlying40 rfl Try.sz40) ?_
            refine A_take (i := 4) rfl (by kernel_rfl) (by kernel_rfl) (by kernel_rfl) rfl hS (fun _ hw => r_moveV (v := .int _ _) rfl) ?_
            refine A_ready1 (i := 2) (by kernel_rfl) ?_
            have hx1 := hXX.trans hD
            refine O_call rfl rfl (r_call Try.func14 Try.nm14 rfl) (read_da (hDF.ext hx1) hDD.wd (by omega) a) ?_
            rintro v w71 ⟨Ar, cr, rfl, hE, hr1⟩
            replace B4_1 := Blk.ext B4_1 hE
            replace B12_1 := Blk.ext B12_1 hE
            replace hX := hX.trans hE
            replace hS : Ext W w71 ∧ Same (fun b : Nat => b = b4_1 ∨ b = b12_1 ∨ False) wd24 w71 := ⟨hX, fun b hb => Or.elim hb (fun q => by subst q; exact Blk.eq B4_1 DB4_1) (fun hb => Or.elim hb (fun q => by subst q; exact Blk.eq B12_1 DB12_1) (fun hb => hb.elim))⟩
            refine ⟨hS, ?_⟩
            have hx2 := hx1.trans hE
            refine A_ready1 (i := 5) (by kernel_rfl) ?_
            refine O_call rfl rfl (r_call Try.func28 Try.nm28 rfl) (rread_spec R A c a _ (hRF.ext hx2).lt (hRF.ext hx2).ra) ?_
            rintro v w72 ⟨As, cs, rfl, hE, hr2⟩
            replace B4_1 := Blk.ext B4_1 hE
            replace B12_1 := Blk.ext B12_1 hE
            replace hX := hX.trans hE
            replace hS : Ext W w72 ∧ Same (fun b : Nat => b = b4_1 ∨ b = b12_1 ∨ False) wd24 w72 := ⟨hX, fun b hb => Or.elim hb (fun q => by subst q; exact Blk.eq B4_1 DB4_1) (fun hb => Or.elim hb (fun q => by subst q; exact Blk.eq B12_1 DB12_1) (fun hb => hb.elim))⟩
            refine ⟨hS, ?_⟩
            have hx3 := hx2.trans hE
            replace hr1 := hr1.ext hE
            refine A_ready1 (i := 6) (by kernel_rfl) ?_
            refine O_call rfl rfl (r_call Try.func16 Try.nm16 rfl) (same_spec Ar cr _ As cs _ _ hr1 hr2) ?_
            rintro v w73 ⟨rfl, hE⟩
            replace B4_1 := Blk.ext B4_1 hE
            replace B12_1 := Blk.ext B12_1 hE
            replace hX := hX.trans hE
            replace hS : Ext W w73 ∧ Same (fun b : Nat => b = b4_1 ∨ b = b12_1 ∨ False) wd24 w73 := ⟨hX, fun b hb => Or.elim hb (fun q => by subst q; exact Blk.eq B4_1 DB4_1) (fun hb => Or.elim hb (fun q => by subst q; exact Blk.eq B12_1 DB12_1) (fun hb => hb.elim))⟩
            refine ⟨hS, ?_⟩
            have hx4 := hx3.trans hE
            refine A_take (i := 7) rfl (by kernel_rfl) (by kernel_rfl) (by kernel_rfl) rfl hS (fun _ hw => r_notP rfl) ?_
            refine A_false (i := 8) rfl (by kernel_rfl) (by kernel_rfl) (by kernel_rfl) rfl hS (fun _ _ => r_moveV (v := .bool (decide _)) rfl) (fun h => h (hDD.sim.read a).symm) ?_
            refine A_takeG (i := 9) rfl (by kernel_rfl) (by kernel_rfl) (by kernel_rfl) rfl hS rfl rfl rfl rfl (fun _ hw => r_moveV (v := .pointer _) rfl) ?_
            refine A_takeG (i := 10) rfl (by kernel_rfl) (by kernel_rfl) (by kernel_rfl) rfl hS rfl rfl rfl rfl (fun _ hw => r_moveV (v := .int _ _) rfl) ?_
            refine A_takeG (i := 12) rfl (by kernel_rfl) (by kernel_rfl) (by kernel_rfl) rfl hS rfl rfl rfl rfl (fun _ hw => r_loadRow rfl (Blk.at DB12_1 (hw.2 _ (Or.inr (Or.inl rfl)))) Try.underlying40 rfl Try.sz40) ?_
            refine A_takeG (i := 13) rfl (by kernel_rfl) (by kernel_rfl) (by kernel_rfl) rfl hS rfl rfl rfl rfl (fun _ hw => r_moveV (v := .int _ _) rfl) ?_
            refine A_ready1 (i := 11) (by kernel_rfl) ?_
            refine O_callG rfl rfl rfl rfl rfl rfl (r_call Try.func14 Try.nm14 rfl) (read_da (hDE.fa.da.ext hx4) hDE.wd (by omega) a) ?_
            rintro v w74 ⟨At, ct, rfl, hE, hr3⟩
            replace B4_1 := Blk.ext B4_1 hE
            replace B12_1 := Blk.ext B12_1 hE
            replace hX := hX.trans hE
            replace hS : Ext W w74 ∧ Same (fun b : Nat => b = b4_1 ∨ b = b12_1 ∨ False) wd24 w74 := ⟨hX, fun b hb => Or.elim hb (fun q => by subst q; exact Blk.eq B4_1 DB4_1) (fun hb => Or.elim hb (fun q => by subst q; exact Blk.eq B12_1 DB12_1) (fun hb => hb.elim))⟩
            refine ⟨hS, ?_⟩
            have hx5 := hx4.trans hE
            refine A_ready1 (i := 14) (by kernel_rfl) ?_
            refine O_callG rfl rfl rfl rfl rfl rfl (r_call Try.func28 Try.nm28 rfl) (rread_spec R2 A2 c2 a _ (hDE.ext hx5).lt (hDE.ext hx5).ra) ?_
            rintro v w75 ⟨Au, cu, rfl, hE, hr4⟩
            replace B4_1 := Blk.ext B4_1 hE
            replace B12_1 := Blk.ext B12_1 hE
            replace hX := hX.trans hE
            replace hS : Ext W w75 ∧ Same (fun b : Nat => b = b4_1 ∨ b = b12_1 ∨ False) wd24 w75 := ⟨hX, fun b hb => Or.elim hb (fun q => by subst q; exact Blk.eq B4_1 DB4_1) (fun hb => Or.elim hb (fun q => by subst q; exact Blk.eq B12_1 DB12_1) (fun hb => hb.elim))⟩
            refine ⟨hS, ?_⟩
            have hx6 := hx5.trans hE
            replace hr3 := hr3.ext hE
            refine A_ready1 (i := 15) (by kernel_rfl) ?_
            refine O_callG rfl rfl rfl rfl rfl rfl (r_call Try.func16 Try.nm16 rfl) (same_spec At ct _ Au cu _ _ hr3 hr4) ?_
            rintro v w76 ⟨rfl, hE⟩
            replace B4_1 := Blk.ext B4_1 hE
            replace B12_1 := Blk.ext B12_1 hE
            replace hX := hX.trans hE
            replace hS : Ext W w76 ∧ Same (fun b : Nat => b = b4_1 ∨ b = b12_1 ∨ False) wd24 w76 := ⟨hX, fun b hb => Or.elim hb (fun q => by subst q; exact Blk.eq B4_1 DB4_1) (fun hb => Or.elim hb (fun q => by subst q; exact Blk.eq B12_1 DB12_1) (fun hb => hb.elim))⟩
            refine ⟨hS, ?_⟩
            have hx7 := hx6.trans hE
            refine A_takeG (i := 16) rfl (by kernel_rfl) (by kernel_rfl) (by kernel_rfl) rfl hS rfl rfl rfl rfl (fun _ hw => r_notP rfl) ?_
            refine A_take (i := 17) rfl (by kernel_rfl) (by kernel_rfl) (by kernel_rfl) rfl hS (fun _ hw => r_pickFV (v := .bool _) rfl rfl) ?_
            refine A_false (i := 18) rfl (by kernel_rfl) (by kernel_rfl) (by kernel_rfl) rfl hS (fun _ _ => r_moveV (v := .bool (decide _)) rfl) (fun h => h (hDE.sim.read a).symm) ?_
            refine A_takeG (i := 19) rfl (by kernel_rfl) (by kernel_rfl) (by kernel_rfl) rfl hS rfl rfl rfl rfl (fun _ hw => r_moveV (v := .pointer _) rfl) ?_
            refine A_takeG (i := 20) rfl (by kernel_rfl) (by kernel_rfl) (by kernel_rfl) rfl hS rfl rfl rfl rfl (fun _ hw => r_moveV (v := .int _ _) rfl) ?_
            refine A_takeG (i := 22) rfl (by kernel_rfl) (by kernel_rfl) (by kernel_rfl) rfl hS rfl rfl rfl rfl (fun _ hw => r_loadRow rfl (Blk.at DB12_1 (hw.2 _ (Or.inr (Or.inl rfl)))) Try.underlying40 rfl Try.sz40) ?_
            refine A_takeG (i := 23) rfl (by kernel_rfl) (by kernel_rfl) (by kernel_rfl) rfl hS rfl rfl rfl rfl (fun _ hw => r_moveV (v := .int _ _) rfl) ?_
            refine A_ready1 (i := 21) (by kernel_rfl) ?_
            refine O_callG rfl rfl rfl rfl rfl rfl (r_call Try.func17 Try.nm17 rfl) (lasting_da (hDE.fa.da.ext hx7) hDE.wd (by omega) a) ?_
            rintro v w77 ⟨Ay, cy, rfl, hE, hr5⟩
            replace B4_1 := Blk.ext B4_1 hE
            replace B12_1 := Blk.ext B12_1 hE
            replace hX := hX.trans hE
            replace hS : Ext W w77 ∧ Same (fun b : Nat => b = b4_1 ∨ b = b12_1 ∨ False) wd24 w77 := ⟨hX, fun b hb => Or.elim hb (fun q => by subst q; exact Blk.eq B4_1 DB4_1) (fun hb => Or.elim hb (fun q => by subst q; exact Blk.eq B12_1 DB12_1) (fun hb => hb.elim))⟩
            refine ⟨hS, ?_⟩
            have hx8 := hx7.trans hE
            refine A_ready1 (i := 24) (by kernel_rfl) ?_
            refine O_callG rfl rfl rfl rfl rfl rfl (r_call Try.func29 Try.nm29 rfl) (rlasting_spec R2 A2 c2 a _ (hDE.ext hx8).lt (hDE.ext hx8).ra) ?_
            rintro v w78 ⟨Aw, cw, rfl, hE, hr6⟩
            replace B4_1 := Blk.ext B4_1 hE
            replace B12_1 := Blk.ext B12_1 hE
            replace hX := hX.trans hE
            replace hS : Ext W w78 ∧ Same (fun b : Nat => b = b4_1 ∨ b = b12_1 ∨ False) wd24 w78 := ⟨hX, fun b hb => Or.elim hb (fun q => by subst q; exact Blk.eq B4_1 DB4_1) (fun hb => Or.elim hb (fun q => by subst q; exact Blk.eq B12_1 DB12_1) (fun hb => hb.elim))⟩
            refine ⟨hS, ?_⟩
            have hx9 := hx8.trans hE
            replace hr5 := hr5.ext hE
            refine A_ready1 (i := 25) (by kernel_rfl) ?_
            refine O_callG rfl rfl rfl rfl rfl rfl (r_call Try.func16 Try.nm16 rfl) (same_spec Ay cy _ Aw cw _ _ hr5 hr6) ?_
            rintro v w79 ⟨rfl, hE⟩
            replace B4_1 := Blk.ext B4_1 hE
            replace B12_1 := Blk.ext B12_1 hE
            replace hX := hX.trans hE
            replace hS : Ext W w79 ∧ Same (fun b : Nat => b = b4_1 ∨ b = b12_1 ∨ False) wd24 w79 := ⟨hX, fun b hb => Or.elim hb (fun q => by subst q; exact Blk.eq B4_1 DB4_1) (fun hb => Or.elim hb (fun q => by subst q; exact Blk.eq B12_1 DB12_1) (fun hb => hb.elim))⟩
            refine ⟨hS, ?_⟩
            have hXe := hx9.trans hE
            refine A_takeG (i := 26) rfl (by kernel_rfl) (by kernel_rfl) (by kernel_rfl) rfl hS rfl rfl rfl rfl (fun _ hw => r_notP rfl) ?_
            refine A_take (i := 27) rfl (by kernel_rfl) (by kernel_rfl) (by kernel_rfl) rfl hS (fun _ hw => r_pickFV (v := .bool _) rfl rfl) ?_
            refine A_done (by kernel_rfl) ?_
            refine W_ifp rfl (fun ht109 => ?_) (fun ht109 => ?_)
            · exact absurd (hDE.sim.lasting a).symm ht109
            · refine W_skip ?_
              refine W_region ?_
              refine op rfl (r_moveV (v := .int _ _) rfl) ?_
              refine op rfl (r_add' rfl rfl (wrap_i64 (by omega) (by omega))) ?_
              refine op rfl (r_assignV (v := .int _ _) rfl) ?_
              refine WL_nil ?_
              refine ⟨?_, by repeat (first | with_reducible exact Out.refl _ _ | with_reducible exact Out.mix | refine Out.put rfl ?_ | refine Out.mixin rfl ?_ | exact Out.refl _ _ | exact Out.mix)⟩
              exact ⟨(3 - (a + 1)).toNat, by omega, a + 1, rfl, by omega, by omega, rfl, hX, hXe, B4_1, B12_1⟩
          · refine W_exit (blk_hit ?_)
            refine W_seq ?_
            refine W_drawF (W0 := W) (fun b : Nat => b = b4_1 ∨ b = b12_1 ∨ False) Try.wd rfl ?_
            intro wd26 hD
            replace B4_1 := Blk.ext B4_1 hD
            replace B12_1 := Blk.ext B12_1 hD
            replace hX := hX.trans hD
            have DB4_1 := B4_1
            have DB12_1 := B12_1
            have hS : Ext W wd26 ∧ Same (fun b : Nat => b = b4_1 ∨ b = b12_1 ∨ False) wd26 wd26 := ⟨hX, fun _ _ => rfl⟩
            refine A_take (i := 0) rfl (by kernel_rfl) (by kernel_rfl) (by kernel_rfl) rfl hS (fun _ hw => r_moveV (v := .pointer _) rfl) ?_
            refine A_take (i := 2) rfl (by kernel_rfl) (by kernel_rfl) (by kernel_rfl) rfl hS (fun _ hw => r_fieldAddr rfl Try.fld40_4 rfl) ?_
            refine A_take (i := 3) rfl (by kernel_rfl) (by kernel_rfl) (by kernel_rfl) rfl hS (fun _ hw => r_load (v := .bool _) rfl Try.underlying4 rfl (Blk.cell (Blk.at DB4_1 (hw.2 _ (Or.inl rfl))) rfl)) ?_
            refine A_ready1 (i := 1) (by kernel_rfl) ?_
            refine O_call rfl rfl (r_call Try.func22 Try.nm22 rfl) (dead_da ((hDF.ext hXX).ext hD)) ?_
            rintro v w81 ⟨rfl, hE⟩
            replace B4_1 := Blk.ext B4_1 hE
            replace B12_1 := Blk.ext B12_1 hE
            replace hX := hX.trans hE
            replace hS : Ext W w81 ∧ Same (fun b : Nat => b = b4_1 ∨ b = b12_1 ∨ False) wd26 w81 := ⟨hX, fun b hb => Or.elim hb (fun q => by subst q; exact Blk.eq B4_1 DB4_1) (fun hb => Or.elim hb (fun q => by subst q; exact Blk.eq B12_1 DB12_1) (fun hb => hb.elim))⟩
            refine ⟨hS, ?_⟩
            refine A_take (i := 4) rfl (by kernel_rfl) (by kernel_rfl) (by kernel_rfl) rfl hS (fun _ hw => rb_eql rfl rfl Try.underlying4) ?_
            refine A_true (i := 5) rfl (by kernel_rfl) (by kernel_rfl) (by kernel_rfl) rfl hS (fun _ _ => r_moveV (v := .bool (decide _)) rfl) (hDD.sim.dead.symm) ?_
            refine A_ready1 (i := 6) (by kernel_rfl) ?_
            refine O_callG rfl rfl rfl rfl rfl rfl (r_call Try.func10 Try.nm10 rfl) (known_spec _) ?_
            rintro v w82 ⟨rfl, hE⟩
            replace B4_1 := Blk.ext B4_1 hE
            replace B12_1 := Blk.ext B12_1 hE
            replace hX := hX.trans hE
            replace hS : Ext W w82 ∧ Same (fun b : Nat => b = b4_1 ∨ b = b12_1 ∨ False) wd26 w82 := ⟨hX, fun b hb => Or.elim hb (fun q => by subst q; exact Blk.eq B4_1 DB4_1) (fun hb => Or.elim hb (fun q => by subst q; exact Blk.eq B12_1 DB12_1) (fun hb => hb.elim))⟩
            refine ⟨hS, ?_⟩
            refine A_take (i := 7) rfl (by kernel_rfl) (by kernel_rfl) (by kernel_rfl) rfl hS (fun _ hw => r_pickTV (v := .bool _) rfl rfl) ?_
            refine A_take (i := 8) rfl (by kernel_rfl) (by kernel_rfl) (by kernel_rfl) rfl hS (fun _ hw => r_assignV (v := .bool _) rfl) ?_
            refine A_done (by kernel_rfl) ?_
            refine W_ret (finX_ret ?_)
            refine fin1 ?_
            exact ⟨_, rfl, rfl, hX⟩
end Go.Proofs.Ytfgffaphpedimaa
