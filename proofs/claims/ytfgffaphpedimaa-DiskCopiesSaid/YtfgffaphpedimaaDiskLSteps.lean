/-
  Whatever is done, it is what the chapter says: the walk.
-/
import Derived.Test.YtfgffaphpedimaaFacts
import Derived.Test.YtfgffaphpedimaaDiskK
import Derived.Test.YtfgffaphpedimaaDiskRL
namespace Go.Proofs.Ytfgffaphpedimaa
open Go Go.Eng Go.RowKit Go.Proofs
set_option linter.unusedVariables false
set_option linter.unusedSimpArgs false
set_option maxHeartbeats 8000000
set_option maxRecDepth 20000

theorem FA.nw {p B : Nat} {F : Nat → Prop} {w w' : World} {D : Dk} (h : FA p B F w D) (he : Ext w w') : FA p B (Nw F w w') w' D := by
  obtain ⟨H, h1, h2, h3⟩ := h
  refine ⟨H, h1, h2.ext he, fun b hb => ?_⟩
  rcases hb with hb | hb
  · exact ⟨Nat.lt_of_lt_of_le (h3 b hb).1 he.size, (h3 b hb).2⟩
  · exact ⟨hb.2, h2.off_lt hb.1, h2.off2_lt hb.1⟩
theorem FA.chg {p B b : Nat} {F : Nat → Prop} {w w' : World} {D : Dk} (h : FA p B F w D) (hb : F b) (hC : Chg b w w') : FA p B F w' D := by
  obtain ⟨H, h1, h2, h3⟩ := h
  obtain ⟨hl, ho, ho2⟩ := h3 b hb
  have ne : ∀ x, x < w.heap.size → x ≠ b → w'.heap[x]? = w.heap[x]? := fun x hx hn => hC.block x hx hn
  refine ⟨H, h1, h2.keep (ne _ (Blk.lt h2.bp) (fun e => ho.1 e.symm)) (ne _ (by obtain ⟨cs, hc, _⟩ := h2.bg; exact Blk.lt hc) (fun e => ho.2.1 e.symm)) (fun i hi x q => ?_), fun x hx => ⟨Nat.lt_of_lt_of_le (h3 x hx).1 hC.size, (h3 x hx).2⟩⟩
  rcases q with q | q | q
  · exact ne x ((h2.nv i hi).lt q).2 (fun e => (ho2 i hi).1 (e ▸ q))
  · exact ne x ((h2.lv i hi).lt q).2 (fun e => (ho2 i hi).2 (e ▸ q))
  · exact ne x ((h2.pv i hi).lt q).2 (fun e => ho.2.2 i hi (e ▸ q))
/-- A disk, and the chapter's own in the block b8. -/
structure DD (p B b8 : Nat) (F : Nat → Prop) (w : World) (D R : Dk) (A : Option Addr) (c k : Nat) : Prop where
  fa : FA p B F w D
  f8 : F b8
  ra : RA w (fun b => F b ∧ b ≠ b8) A c R
  sim : Sim D R
  wd : WF D k
  wr : WF R k
theorem DD.lt {p B b8 : Nat} {F : Nat → Prop} {w : World} {D R : Dk} {A : Option Addr} {c k : Nat} (h : DD p B b8 F w D R A c k) : ∀ b, (F b ∧ b ≠ b8) → b < w.heap.size := fun b hb => h.fa.lt b hb.1
theorem DD.ext {p B b8 : Nat} {F : Nat → Prop} {w w' : World} {D R : Dk} {A : Option Addr} {c k : Nat} (h : DD p B b8 F w D R A c k) (he : Ext w w') : DD p B b8 F w' D R A c k :=
  ⟨h.fa.ext he, h.f8, h.ra.ext h.lt he, h.sim, h.wd, h.wr⟩
/-- Both have taken a step; what came out is stored. -/
theorem DD.step {p B b8 b9 : Nat} {F : Nat → Prop} {w w2 wx wy w4 w5 : World} {D R : Dk} {A A' : Option Addr} {c c' k : Nat} {o : Do} (h : DD p B b8 F w D R A c k) (hf : FA p B F w2 (D.does o).1) (hfo : Fo B F w w2)
    (E1 : Ext w2 wx) (E2 : Ext wx wy) (hr : RA wy (Nw (fun b => F b ∧ b ≠ b8) wx wy) A' c' (R.rdoes o).1) (E3 : Ext w2 w4) (hsm : ∀ b, b < wy.heap.size → b ≠ b9 → w4.heap[b]? = wy.heap[b]?) (hsz : wy.heap.size ≤ w4.heap.size) (h9 : w2.heap.size ≤ b9 ∧ b9 < w4.heap.size) (h9' : b9 < wx.heap.size ∨ wy.heap.size ≤ b9) (hC : Chg b8 w4 w5) :
    DD p B b8 (Nw F w2 w4) w5 (D.does o).1 (R.rdoes o).1 A' c' (k + 2 * (1 + o.b.length)) := by
  have h8 : b8 < w2.heap.size := hf.lt b8 h.f8
  refine ⟨(hf.nw E3).chg (Or.inl h.f8) hC, Or.inl h.f8, ?_, (h.sim.does o).1, h.wd.does o, h.wr.rdoes o⟩
  have key : ∀ b, Nw (fun b => F b ∧ b ≠ b8) wx wy b → b < wy.heap.size ∧ b ≠ b9 ∧ b ≠ b8 ∧ Nw F w2 w4 b := by
    rintro b (⟨hb, hne⟩ | hb)
    · have h1 := hf.lt b hb
      have := E1.size
      have := E2.size
      exact ⟨by omega, by omega, hne, Or.inl hb⟩
    · have := E1.size
      exact ⟨hb.2, by omega, by omega, Or.inr ⟨by omega, by omega⟩⟩
  refine hr.keep (fun b hb => ?_) (fun b hb => ⟨(key b hb).2.2.2, (key b hb).2.2.1⟩)
  obtain ⟨h1, h2, h3, h4⟩ := key b hb
  rw [hC.block b (by omega) h3, hsm b h1 h2]
theorem diskSteps_walk (W : World) (areas : Int) (_ : inK .i64 areas) (room : Int) (_ : inK .i64 room) (Ao : Option Addr) (co : Nat) (l : List Do) (hco : l.length ≤ co) (hl : l.length ≤ big) (hA : doT.Row W (old W) Ao l) :
    Calls Try.prog 8 #[.int .i64 areas, .int .i64 room, .slice Ao l.length co] W (fun e W' => ∃ v, e = .returned v ∧ v = .bool true ∧ Ext W W') := by
  have hl' : l.length ≤ 140737488355328 := hl
  clear hl
  refine calls' (n := 86) (rs := #[.tmp 6]) (l := [.int .i64 areas, .int .i64 room, .slice Ao l.length co]) Try.func8 rfl rfl rfl rfl rfl ?_
  have hX := Ext.refl W
  refine W_seq ?_
  refine W_region ?_
  refine op rfl (r_assignV (v := .bool _) rfl) ?_
  refine WL_nil ?_
  refine W_seq ?_
  refine W_seq ?_
  refine W_region ?_
  refine op rfl (r_moveV (v := .slice _ _ _) rfl) ?_
  refine opCv rfl (r_call Try.func24 Try.nm24 rfl) (small_spec Ao co l _ hA hl') ?_
  rintro v w1 ⟨rfl, hE⟩
  replace hX := hX.trans hE
  refine op rfl (r_notP rfl) ?_
  refine WL_nil ?_
  refine W_ifp rfl (fun ht16 => ?_) (fun ht16 => ?_)
  · refine W_seq ?_
    refine W_region ?_
    refine opCv rfl (r_call Try.func10 Try.nm10 rfl) (known_spec _) ?_
    rintro v w2 ⟨rfl, hE⟩
    replace hX := hX.trans hE
    refine op rfl (r_assignV (v := .bool _) rfl) ?_
    refine WL_nil ?_
    refine W_ret (finX_ret ?_)
    refine fin1 ?_
    exact ⟨_, rfl, rfl, hX⟩
  · have hsm := Classical.byContradiction ht16
    refine W_skip ?_
    refine W_seq ?_
    refine W_region ?_
    refine op rfl (r_moveV (v := .int _ _) rfl) ?_
    refine op rfl (r_moveV (v := .int _ _) rfl) ?_
    have hX3 := hX
    refine opCv rfl (r_call Try.func11 Try.nm11 rfl) (new_da areas room _) ?_
    rintro v w3 ⟨p, rfl, hE, hDA⟩
    replace hX := hX.trans hE
    refine op rfl (r_assignV (v := .pointer _) rfl) ?_
    refine WL_nil ?_
    refine W_seq ?_
    refine W_region ?_
    refine op rfl (r_moveV (v := .int _ _) rfl) ?_
    refine op rfl (r_moveV (v := .int _ _) rfl) ?_
    refine opCv rfl (r_call Try.func25 Try.nm25 rfl) (rnew_spec areas room _) ?_
    rintro v w4 ⟨A4, c4, rfl, hRA4, hE⟩
    replace hX := hX.trans hE
    have hE4 := hE
    refine op_alloc rfl Try.zero40 ?_
    intro w4_3 b4_3 E4_3 B4_3 L4_3
    have hG4_3 : W.heap.size ≤ b4_3 := by have := hX.size; omega
    replace hX := hX.trans E4_3
    refine op_storeRow rfl rfl Try.sz40 B4_3 rfl rfl ?_
    intro w4_4 C4_4 BB4_4
    replace hX := hX.chg C4_4 hG4_3
    replace B4_3 := BB4_4
    have hE4b : Ext w3 w4_4 := Chg.ext (hE4.trans E4_3) (by have := hE4.size; omega) C4_4
    have hs43 := Blk.lt B4_3
    have hDD0 : DD p w1.heap.size b4_3 (Nw (fun _ => False) w3 w4_4) w4_4 (Dk.new areas room) (Dk.new areas room) A4 c4 (2 * long (l.take 0)) := ⟨hDA.fa.nw hE4b, Or.inr ⟨by have := hE4.size; omega, hs43⟩, hRA4.keep (fun b hb => by
      have hb4 : b < w4.heap.size := by rcases hb with hb | hb; exact hb.elim; exact hb.2
      rw [C4_4.block b (Nat.lt_of_lt_of_le hb4 E4_3.size) (by omega), E4_3.block b hb4]) (fun b hb => by
      rcases hb with hb | hb
      · exact hb.elim
      · exact ⟨Or.inr ⟨hb.1, by omega⟩, by omega⟩), sim_refl _, (WF.new areas room).mono (by omega), (WF.new areas room).mono (by omega)⟩
    refine WL_nil ?_
    refine W_seq ?_
    refine W_seq ?_
    refine W_region ?_
    refine op rfl (r_assignV (v := .int _ _) rfl) ?_
    refine WL_nil ?_
    refine W_block ?_
    refine W_loop (6 :: 9 :: 10 :: 11 :: 12 :: 13 :: 24 :: 25 :: 26 :: 27 :: 28 :: 29 :: 30 :: 31 :: 32 :: 33 :: 34 :: 35 :: 36 :: 37 :: 38 :: 39 :: 40 :: 41 :: 42 :: 43 :: 44 :: 45 :: 46 :: 47 :: 48 :: 49 :: 50 :: 51 :: 52 :: 53 :: 54 :: 55 :: 56 :: 57 :: 58 :: 59 :: 60 :: 61 :: 62 :: 63 :: 64 :: 65 :: 66 :: 67 :: 68 :: 69 :: 70 :: 71 :: 72 :: 73 :: 74 :: 75 :: 76 :: 77 :: 78 :: 79 :: 80 :: 81 :: 82 :: 83 :: 84 :: []) (fun q e' w' => ∃ (i : Nat) (D R : Dk) (F : Nat → Prop) (A : Option Addr) (c : Nat), q = l.length - i ∧ i ≤ l.length ∧ e' 9 = .int .i64 i ∧ Ext W w' ∧ Blk w' b4_3 (R.rc A c) 40 ∧ DD p w1.heap.size b4_3 F w' D R A c (2 * long (l.take i))) (l.length) ?_ ?_
    · exact ⟨0, _, _, _, _, _, by omega, by omega, rfl, hX, B4_3, hDD0⟩
    intro k g w' hI
    obtain ⟨i, D, R, F, A, c, hq, hi, h9, hX', B4_3', hDD⟩ := hI
    clear hX B4_3
    have hX := hX'
    have B4_3 := B4_3'
    clear hX' B4_3'
    have hlo := long_le l i
    refine W_set (i := 9) h9 ?_
    refine W_seq ?_
    refine W_seq ?_
    refine W_region ?_
    refine op rfl (r_moveV (v := .int _ _) rfl) ?_
    refine op rfl (r_moveV (v := .slice _ _ _) rfl) ?_
    refine op rfl (r_len_slice rfl Try.underlying46) ?_
    refine op rfl (r_lss rfl rfl) ?_
    refine WL_nil ?_
    refine W_ifp rfl (fun ht27 => ?_) (fun ht27 => ?_)
    · have hlt : i < l.length := by omega
      obtain ⟨g, off, Ab, cb, hAe, hlb, hrb, hcell⟩ := do_cells hA hlt
      have htk := long_take hlt
      have hlo1 := long_le l (i + 1)
      refine W_skip ?_
      refine W_seq ?_
      refine W_block ?_
      refine W_seq ?_
      refine W_region ?_
      refine op rfl (r_moveV (v := .pointer _) rfl) ?_
      refine op rfl (r_moveV (v := .slice _ _ _) rfl) ?_
      refine op rfl (r_moveV (v := .int _ _) rfl) ?_
      refine op rfl (r_indexAddrN rfl rfl hAe Try.underlying46 Try.sz51 (by omega) (by omega)) ?_
      refine op rfl (r_load_agg (cs := [.int .i64 l[i].k, .int .i64 l[i].a, .int .i64 l[i].n, .slice Ab l[i].b.length cb]) rfl Try.underlying51 rfl Try.sz51 rfl (hcell _ hX)) ?_
      refine opCv rfl (r_call Try.func26 Try.nm26 rfl) (did_fa hDD.fa hDD.wd (by omega) l[i] Ab cb hlb (G := old W) (fun x hx ↦ Nat.lt_of_lt_of_le hx hX3.size) (Row.fext hrb (fun _ h ↦ h) hX)) ?_
      rintro v w2 ⟨rfl, hFA, hFo⟩
      have hX8 : Ext W w2 := Below.trans hX (hFo.below.mono hX3.size)
      replace hX := hX8
      replace B4_3 := B4_3.at (hFo.same _ hDD.f8)
      have hRA8 : RA w2 (fun b => F b ∧ b ≠ b4_3) A c R := hDD.ra.keep (fun b hb => hFo.same b hb.1) (fun _ h => h)
      have hFlt : ∀ b, (F b ∧ b ≠ b4_3) → b < w2.heap.size := fun b hb => hFA.lt b hb.1
      have hres : (D.does l[i]).2 = (R.rdoes l[i]).2 := ((hDD.sim.does _).2).symm
      refine op rfl (r_assignV (v := .int _ _) rfl) ?_
      refine WL_nil ?_
      refine W_seq ?_
      refine W_drawF (W0 := W) (fun b : Nat => b = b4_3 ∨ False) Try.wd rfl ?_
      intro wd9 hD
      replace B4_3 := Blk.ext B4_3 hD
      replace hX := hX.trans hD
      have DB4_3 := B4_3
      have hS : Ext W wd9 ∧ Same (fun b : Nat => b = b4_3 ∨ False) wd9 wd9 := ⟨hX, fun _ _ => rfl⟩
      refine A_take (i := 0) rfl (by kernel_rfl) (by kernel_rfl) (by kernel_rfl) rfl hS (fun _ hw => r_loadRow rfl (Blk.at DB4_3 (hw.2 _ (Or.inl rfl))) Try.underlying40 rfl Try.sz40) ?_
      refine A_take (i := 1) rfl (by kernel_rfl) (by kernel_rfl) (by kernel_rfl) rfl hS (fun _ hw => r_moveV (v := .slice _ _ _) rfl) ?_
      refine A_take (i := 2) rfl (by kernel_rfl) (by kernel_rfl) (by kernel_rfl) rfl hS (fun _ hw => r_moveV (v := .int _ _) rfl) ?_
      refine A_take (i := 3) rfl (by kernel_rfl) (by kernel_rfl) (by kernel_rfl) rfl hS (fun _ hw => r_indexAddrN rfl rfl hAe Try.underlying46 Try.sz51 (by omega) (by omega)) ?_
      refine A_take (i := 4) rfl (by kernel_rfl) (by kernel_rfl) (by kernel_rfl) rfl hS (fun _ hw => r_load_agg (cs := [.int .i64 l[i].k, .int .i64 l[i].a, .int .i64 l[i].n, .slice Ab l[i].b.length cb]) rfl Try.underlying51 rfl Try.sz51 rfl (hcell _ hw.1)) ?_
      refine A_ready2 (i := 5) (j := 9) (by kernel_rfl) ?_ ?_
      · refine O_call rfl rfl (r_call Try.func27 Try.nm27 rfl) (rstep_spec R A c l[i] Ab cb _ (fun b hb ↦ Nat.lt_of_lt_of_le (hFlt b hb) (by first | exact hD.size | exact (hD.trans E9_9).size)) (hRA8.ext hFlt (by first | exact hD | exact hD.trans E9_9)) hDD.wr (by omega) hlb (fun x hx ↦ Nat.lt_of_lt_of_le hx hX.size) (Row.fext hrb (fun _ h ↦ h) hX)) ?_
        rintro v wy ⟨A', c', rfl, hRA', hE⟩
        replace B4_3 := Blk.ext B4_3 hE
        replace hX := hX.trans hE
        replace hS : Ext W wy ∧ Same (fun b : Nat => b = b4_3 ∨ False) wd9 wy := ⟨hX, fun b hb => Or.elim hb (fun q => by subst q; exact Blk.eq B4_3 DB4_3) (fun hb => hb.elim)⟩
        refine ⟨hS, ?_⟩
        have hE5 := hE
        refine A_take (i := 6) rfl (by kernel_rfl) (by kernel_rfl) (by kernel_rfl) rfl hS (fun _ hw => r_moveV (v := .tuple #[(R.rdoes l[i]).1.rv A' c', .int .i64 (R.rdoes l[i]).2]) rfl) ?_
        refine A_take (i := 7) rfl (by kernel_rfl) (by kernel_rfl) (by kernel_rfl) rfl hS (fun _ hw => r_extract (vs := [(R.rdoes l[i]).1.rv A' c', .int .i64 (R.rdoes l[i]).2]) rfl rfl) ?_
        refine A_take (i := 8) rfl (by kernel_rfl) (by kernel_rfl) (by kernel_rfl) rfl hS (fun _ hw => r_extract (vs := [(R.rdoes l[i]).1.rv A' c', .int .i64 (R.rdoes l[i]).2]) rfl rfl) ?_
        refine A_ready1 (i := 9) (by kernel_rfl) ?_
        refine O_new rfl rfl (r_alloc Try.zero40) ?_
        intro w9_9 b9_9 E9_9 B9_9 L9_9
        have hG9_9 : W.heap.size ≤ b9_9 := by have := hX.size; omega
        have hNb4_3_9_9 : b4_3 ≠ b9_9 := by have := Blk.lt B4_3; omega
        replace B4_3 := Blk.ext B4_3 E9_9
        replace hX := hX.trans E9_9
        replace hS : Ext W w9_9 ∧ Same (fun b : Nat => b = b4_3 ∨ False) wd9 w9_9 := ⟨hX, fun b hb => Or.elim hb (fun q => by subst q; exact Blk.eq B4_3 DB4_3) (fun hb => hb.elim)⟩
        refine ⟨hS, ?_⟩
        have hb99 := Blk.lt B9_9
        refine A_ready1 (i := 10) (by kernel_rfl) ?_
        refine O_storeRow rfl rfl rfl Try.sz40 B9_9 rfl rfl ?_
        intro w9_10 C9_10 BB9_10
        replace B4_3 := Chg.blk C9_10 B4_3 hNb4_3_9_9
        replace hX := hX.chg C9_10 hG9_9
        replace B9_9 := BB9_10
        replace hS : Ext W w9_10 ∧ Same (fun b : Nat => b = b4_3 ∨ False) wd9 w9_10 := ⟨hX, fun b hb => Or.elim hb (fun q => by subst q; exact Blk.eq B4_3 DB4_3) (fun hb => hb.elim)⟩
        refine ⟨hS, ?_⟩
        refine A_take (i := 11) rfl (by kernel_rfl) (by kernel_rfl) (by kernel_rfl) rfl hS (fun _ hw => r_assignV (v := .int .i64 (R.rdoes l[i]).2) rfl) ?_
        refine A_done (by kernel_rfl) ?_
        have hk9 : ∃ wx, Ext w2 wx ∧ Ext wx wy ∧ RA wy (Nw (fun b => F b ∧ b ≠ b4_3) wx wy) A' c' (R.rdoes l[i]).1 ∧ (b9_9 < wx.heap.size ∨ wy.heap.size ≤ b9_9) := by
          first
            | exact ⟨wd9, hD, hE5, hRA', Or.inr (by omega)⟩
            | exact ⟨w9_9, hD.trans E9_9, hE5, hRA', Or.inl hb99⟩
        have hE39 : Ext w2 w9_10 := by
          have z1 := hD.size
          have z2 := hE5.size
          first
            | exact Chg.ext ((hD.trans hE5).trans E9_9) (by omega) C9_10
            | exact Chg.ext ((hD.trans E9_9).trans hE5) (by omega) C9_10
        have hsm9 : ∀ b, b < wy.heap.size → b ≠ b9_9 → w9_10.heap[b]? = wy.heap[b]? := by
          intro b hb hne
          first
            | exact C9_10.block b hb hne
            | exact (C9_10.block b (Nat.lt_of_lt_of_le hb E9_9.size) hne).trans (E9_9.block b hb)
        have hsz9 : wy.heap.size ≤ w9_10.heap.size := by
          have := C9_10.size
          have := E9_9.size
          omega
        have h99 : w2.heap.size ≤ b9_9 ∧ b9_9 < w9_10.heap.size := by
          have z1 := hD.size
          have z2 := hE5.size
          have z3 := Blk.lt B9_9
          exact ⟨by omega, z3⟩
        refine W_seq ?_
        refine W_region ?_
        refine op rfl (r_loadRow rfl B9_9 Try.underlying40 rfl Try.sz40) ?_
        refine op_storeRow rfl rfl Try.sz40 B4_3 rfl rfl ?_
        intro w10_1 C10_1 BB10_1
        replace B9_9 := Chg.blk C10_1 B9_9 (fun q => hNb4_3_9_9 q.symm)
        replace hX := hX.chg C10_1 hG4_3
        replace B4_3 := BB10_1
        obtain ⟨wx, kx1, kx2, kx3, kx4⟩ := hk9
        have hDD2 := DD.step hDD hFA hFo kx1 kx2 kx3 hE39 hsm9 hsz9 h99 kx4 C10_1
        have hkk : 2 * long (l.take i) + 2 * (1 + l[i].b.length) = 2 * long (l.take (i + 1)) := by omega
        rw [hkk] at hDD2
        refine WL_nil ?_
        refine W_seq ?_
        refine W_seq ?_
        refine W_drawF (W0 := W) (fun b : Nat => b = b4_3 ∨ b = b9_9 ∨ False) Try.wd rfl ?_
        intro wd11 hD
        replace B4_3 := Blk.ext B4_3 hD
        replace B9_9 := Blk.ext B9_9 hD
        replace hX := hX.trans hD
        have DB4_3 := B4_3
        have DB9_9 := B9_9
        have hS : Ext W wd11 ∧ Same (fun b : Nat => b = b4_3 ∨ b = b9_9 ∨ False) wd11 wd11 := ⟨hX, fun _ _ => rfl⟩
        refine A_take (i := 0) rfl (by kernel_rfl) (by kernel_rfl) (by kernel_rfl) rfl hS (fun _ hw => r_moveV (v := .int _ _) rfl) ?_
        refine A_take (i := 1) rfl (by kernel_rfl) (by kernel_rfl) (by kernel_rfl) rfl hS (fun _ hw => r_moveV (v := .int .i64 (R.rdoes l[i]).2) rfl) ?_
        refine A_take (i := 2) rfl (by kernel_rfl) (by kernel_rfl) (by kernel_rfl) rfl hS (fun _ hw => r_neq rfl rfl) ?_
        refine A_false (i := 3) rfl (by kernel_rfl) (by kernel_rfl) (by kernel_rfl) rfl hS (fun _ _ => r_moveV (v := .bool (decide _)) rfl) (fun h => h hres) ?_
        refine A_takeG (i := 4) rfl (by kernel_rfl) (by kernel_rfl) (by kernel_rfl) rfl hS rfl rfl rfl rfl (fun _ hw => r_moveV (v := .pointer _) rfl) ?_
        refine A_takeG (i := 6) rfl (by kernel_rfl) (by kernel_rfl) (by kernel_rfl) rfl hS rfl rfl rfl rfl (fun _ hw => r_fieldAddr rfl Try.fld40_4 rfl) ?_
        refine A_takeG (i := 7) rfl (by kernel_rfl) (by kernel_rfl) (by kernel_rfl) rfl hS rfl rfl rfl rfl (fun _ hw => r_load (v := .bool _) rfl Try.underlying4 rfl (Blk.cell (Blk.at DB4_3 (hw.2 _ (Or.inl rfl))) rfl)) ?_
        refine A_ready1 (i := 5) (by kernel_rfl) ?_
        have hDDa := hDD2.ext hD
        refine O_callG rfl rfl rfl rfl rfl rfl (r_call Try.func22 Try.nm22 rfl) (dead_da hDDa.fa.da) ?_
        rintro v w61 ⟨rfl, hE⟩
        replace B4_3 := Blk.ext B4_3 hE
        replace B9_9 := Blk.ext B9_9 hE
        replace hX := hX.trans hE
        replace hS : Ext W w61 ∧ Same (fun b : Nat => b = b4_3 ∨ b = b9_9 ∨ False) wd11 w61 := ⟨hX, fun b hb => Or.elim hb (fun q => by subst q; exact Blk.eq B4_3 DB4_3) (fun hb => Or.elim hb (fun q => by subst q; exact Blk.eq B9_9 DB9_9) (fun hb => hb.elim))⟩
        refine ⟨hS, ?_⟩
        have hDDb := hDDa.ext hE
        refine A_takeG (i := 8) rfl (by kernel_rfl) (by kernel_rfl) (by kernel_rfl) rfl hS rfl rfl rfl rfl (fun _ hw => rb_neq rfl rfl Try.underlying4) ?_
        refine A_take (i := 9) rfl (by kernel_rfl) (by kernel_rfl) (by kernel_rfl) rfl hS (fun _ hw => r_pickFV (v := .bool _) rfl rfl) ?_
        refine A_false (i := 10) rfl (by kernel_rfl) (by kernel_rfl) (by kernel_rfl) rfl hS (fun _ _ => r_moveV (v := .bool (decide _)) rfl) (fun h => h hDDb.sim.dead.symm) ?_
        refine A_takeG (i := 11) rfl (by kernel_rfl) (by kernel_rfl) (by kernel_rfl) rfl hS rfl rfl rfl rfl (fun _ hw => r_moveV (v := .pointer _) rfl) ?_
        refine A_takeG (i := 13) rfl (by kernel_rfl) (by kernel_rfl) (by kernel_rfl) rfl hS rfl rfl rfl rfl (fun _ hw => r_loadRow rfl (Blk.at DB4_3 (hw.2 _ (Or.inl rfl))) Try.underlying40 rfl Try.sz40) ?_
        refine A_ready1 (i := 12) (by kernel_rfl) ?_
        refine O_callG rfl rfl rfl rfl rfl rfl (r_call Try.func18 Try.nm18 rfl) (used_da hDDb.fa.da hDDb.wd (by omega)) ?_
        rintro v w62 ⟨rfl, hE⟩
        replace B4_3 := Blk.ext B4_3 hE
        replace B9_9 := Blk.ext B9_9 hE
        replace hX := hX.trans hE
        replace hS : Ext W w62 ∧ Same (fun b : Nat => b = b4_3 ∨ b = b9_9 ∨ False) wd11 w62 := ⟨hX, fun b hb => Or.elim hb (fun q => by subst q; exact Blk.eq B4_3 DB4_3) (fun hb => Or.elim hb (fun q => by subst q; exact Blk.eq B9_9 DB9_9) (fun hb => hb.elim))⟩
        refine ⟨hS, ?_⟩
        have hDDc := hDDb.ext hE
        refine A_ready1 (i := 14) (by kernel_rfl) ?_
        refine O_callG rfl rfl rfl rfl rfl rfl (r_call Try.func20 Try.nm20 rfl) (rused_spec _ _ _ _ hDDc.lt hDDc.ra hDDc.wr (by omega)) ?_
        rintro v w63 ⟨rfl, hE⟩
        replace B4_3 := Blk.ext B4_3 hE
        replace B9_9 := Blk.ext B9_9 hE
        replace hX := hX.trans hE
        replace hS : Ext W w63 ∧ Same (fun b : Nat => b = b4_3 ∨ b = b9_9 ∨ False) wd11 w63 := ⟨hX, fun b hb => Or.elim hb (fun q => by subst q; exact Blk.eq B4_3 DB4_3) (fun hb => Or.elim hb (fun q => by subst q; exact Blk.eq B9_9 DB9_9) (fun hb => hb.elim))⟩
        refine ⟨hS, ?_⟩
        have hDD3 := hDDc.ext hE
        refine A_takeG (i := 15) rfl (by kernel_rfl) (by kernel_rfl) (by kernel_rfl) rfl hS rfl rfl rfl rfl (fun _ hw => r_neq rfl rfl) ?_
        refine A_take (i := 16) rfl (by kernel_rfl) (by kernel_rfl) (by kernel_rfl) rfl hS (fun _ hw => r_pickFV (v := .bool _) rfl rfl) ?_
        refine A_done (by kernel_rfl) ?_
        refine W_ifp rfl (fun ht62 => ?_) (fun ht62 => ?_)
        · exact absurd (congrArg Int.ofNat hDD3.sim.used.symm) ht62
        · refine W_skip ?_
          refine W_seq ?_
          refine W_region ?_
          refine op rfl (r_assignV (v := .int _ _) rfl) ?_
          refine WL_nil ?_
          refine W_block ?_
          refine W_loop [6, 13, 63, 64, 65, 66, 67, 68, 69, 70, 71, 72, 73, 74, 75, 76, 77, 78, 79, 80, 81, 82, 83, 84] (fun q e'' w'' => ∃ a : Int, q = (9 - a).toNat ∧ -1 ≤ a ∧ a ≤ 9 ∧ e'' 13 = .int .i64 a ∧ Ext W w'' ∧ Ext w63 w'' ∧ Blk w'' b4_3 ((R.rdoes l[i]).1.rc A' c') 40) (10) ?_ ?_
          · exact ⟨-1, by omega, by omega, by omega, rfl, hX, Ext.refl _, B4_3⟩
          intro k g w' hI
          obtain ⟨a, hq2, ha1, ha2, h13, hX', hXX', B4_3'⟩ := hI
          clear hX B4_3
          have hX := hX'
          have hXX := hXX'
          have B4_3 := B4_3'
          clear hX' B4_3' hXX'
          refine W_set (i := 13) h13 ?_
          refine W_seq ?_
          refine W_seq ?_
          refine W_region ?_
          refine op rfl (r_moveV (v := .int _ _) rfl) ?_
          refine op rfl (r_lss rfl rfl) ?_
          refine WL_nil ?_
          refine W_ifp rfl (fun ht64 => ?_) (fun ht64 => ?_)
          · refine W_skip ?_
            refine W_seq ?_
            refine W_block ?_
            refine W_seq ?_
            refine W_drawF (W0 := W) (fun b : Nat => b = b4_3 ∨ False) Try.wd rfl ?_
            intro wd16 hD
            replace B4_3 := Blk.ext B4_3 hD
            replace hX := hX.trans hD
            have DB4_3 := B4_3
            have hS : Ext W wd16 ∧ Same (fun b : Nat => b = b4_3 ∨ False) wd16 wd16 := ⟨hX, fun _ _ => rfl⟩
            refine A_take (i := 0) rfl (by kernel_rfl) (by kernel_rfl) (by kernel_rfl) rfl hS (fun _ hw => r_moveV (v := .pointer _) rfl) ?_
            refine A_take (i := 1) rfl (by kernel_rfl) (by kernel_rfl) (by kernel_rfl) rfl hS (fun _ hw => r_moveV (v := .int _ _) rfl) ?_
            refine A_take (i := 3) rfl (by kernel_rfl) (by kernel_rfl) (by kernel_rfl) rfl hS (fun _ hw => r_loadRow rfl (Blk.at DB4_3 (hw.2 _ (Or.inl rfl))) Try.underlying40 rfl Try.sz40) ?_
            refine A_take (i := 4) rfl (by kernel_rfl) (by kernel_rfl) (by kernel_rfl) rfl hS (fun _ hw => r_moveV (v := .int _ _) rfl) ?_
            refine A_ready1 (i := 2) (by kernel_rfl) ?_
            have hx1 := hXX.trans hD
            refine O_call rfl rfl (r_call Try.func14 Try.nm14 rfl) (read_da (hDD3.fa.da.ext hx1) hDD3.wd (by omega) a) ?_
            rintro v w71 ⟨Ar, cr, rfl, hE, hr1⟩
            replace B4_3 := Blk.ext B4_3 hE
            replace hX := hX.trans hE
            replace hS : Ext W w71 ∧ Same (fun b : Nat => b = b4_3 ∨ False) wd16 w71 := ⟨hX, fun b hb => Or.elim hb (fun q => by subst q; exact Blk.eq B4_3 DB4_3) (fun hb => hb.elim)⟩
            refine ⟨hS, ?_⟩
            have hx2 := hx1.trans hE
            refine A_ready1 (i := 5) (by kernel_rfl) ?_
            refine O_call rfl rfl (r_call Try.func28 Try.nm28 rfl) (rread_spec _ A' c' a _ (hDD3.ext hx2).lt (hDD3.ext hx2).ra) ?_
            rintro v w72 ⟨As, cs, rfl, hE, hr2⟩
            replace B4_3 := Blk.ext B4_3 hE
            replace hX := hX.trans hE
            replace hS : Ext W w72 ∧ Same (fun b : Nat => b = b4_3 ∨ False) wd16 w72 := ⟨hX, fun b hb => Or.elim hb (fun q => by subst q; exact Blk.eq B4_3 DB4_3) (fun hb => hb.elim)⟩
            refine ⟨hS, ?_⟩
            have hx3 := hx2.trans hE
            replace hr1 := hr1.ext hE
            refine A_ready1 (i := 6) (by kernel_rfl) ?_
            refine O_call rfl rfl (r_call Try.func16 Try.nm16 rfl) (same_spec Ar cr _ As cs _ _ hr1 hr2) ?_
            rintro v w73 ⟨rfl, hE⟩
            replace B4_3 := Blk.ext B4_3 hE
            replace hX := hX.trans hE
            replace hS : Ext W w73 ∧ Same (fun b : Nat => b = b4_3 ∨ False) wd16 w73 := ⟨hX, fun b hb => Or.elim hb (fun q => by subst q; exact Blk.eq B4_3 DB4_3) (fun hb => hb.elim)⟩
            refine ⟨hS, ?_⟩
            have hx4 := hx3.trans hE
            refine A_take (i := 7) rfl (by kernel_rfl) (by kernel_rfl) (by kernel_rfl) rfl hS (fun _ hw => r_notP rfl) ?_
            refine A_false (i := 8) rfl (by kernel_rfl) (by kernel_rfl) (by kernel_rfl) rfl hS (fun _ _ => r_moveV (v := .bool (decide _)) rfl) (fun h => h (hDD3.sim.read a).symm) ?_
            refine A_takeG (i := 9) rfl (by kernel_rfl) (by kernel_rfl) (by kernel_rfl) rfl hS rfl rfl rfl rfl (fun _ hw => r_moveV (v := .pointer _) rfl) ?_
            refine A_takeG (i := 10) rfl (by kernel_rfl) (by kernel_rfl) (by kernel_rfl) rfl hS rfl rfl rfl rfl (fun _ hw => r_moveV (v := .int _ _) rfl) ?_
            refine A_takeG (i := 12) rfl (by kernel_rfl) (by kernel_rfl) (by kernel_rfl) rfl hS rfl rfl rfl rfl (fun _ hw => r_loadRow rfl (Blk.at DB4_3 (hw.2 _ (Or.inl rfl))) Try.underlying40 rfl Try.sz40) ?_
            refine A_takeG (i := 13) rfl (by kernel_rfl) (by kernel_rfl) (by kernel_rfl) rfl hS rfl rfl rfl rfl (fun _ hw => r_moveV (v := .int _ _) rfl) ?_
            refine A_ready1 (i := 11) (by kernel_rfl) ?_
            refine O_callG rfl rfl rfl rfl rfl rfl (r_call Try.func17 Try.nm17 rfl) (lasting_da (hDD3.fa.da.ext hx4) hDD3.wd (by omega) a) ?_
            rintro v w74 ⟨At, ct, rfl, hE, hr3⟩
            replace B4_3 := Blk.ext B4_3 hE
            replace hX := hX.trans hE
            replace hS : Ext W w74 ∧ Same (fun b : Nat => b = b4_3 ∨ False) wd16 w74 := ⟨hX, fun b hb => Or.elim hb (fun q => by subst q; exact Blk.eq B4_3 DB4_3) (fun hb => hb.elim)⟩
            refine ⟨hS, ?_⟩
            have hx5 := hx4.trans hE
            refine A_ready1 (i := 14) (by kernel_rfl) ?_
            refine O_callG rfl rfl rfl rfl rfl rfl (r_call Try.func29 Try.nm29 rfl) (rlasting_spec _ A' c' a _ (hDD3.ext hx5).lt (hDD3.ext hx5).ra) ?_
            rintro v w75 ⟨Au, cu, rfl, hE, hr4⟩
            replace B4_3 := Blk.ext B4_3 hE
            replace hX := hX.trans hE
            replace hS : Ext W w75 ∧ Same (fun b : Nat => b = b4_3 ∨ False) wd16 w75 := ⟨hX, fun b hb => Or.elim hb (fun q => by subst q; exact Blk.eq B4_3 DB4_3) (fun hb => hb.elim)⟩
            refine ⟨hS, ?_⟩
            have hx6 := hx5.trans hE
            replace hr3 := hr3.ext hE
            refine A_ready1 (i := 15) (by kernel_rfl) ?_
            refine O_callG rfl rfl rfl rfl rfl rfl (r_call Try.func16 Try.nm16 rfl) (same_spec At ct _ Au cu _ _ hr3 hr4) ?_
            rintro v w76 ⟨rfl, hE⟩
            replace B4_3 := Blk.ext B4_3 hE
            replace hX := hX.trans hE
            replace hS : Ext W w76 ∧ Same (fun b : Nat => b = b4_3 ∨ False) wd16 w76 := ⟨hX, fun b hb => Or.elim hb (fun q => by subst q; exact Blk.eq B4_3 DB4_3) (fun hb => hb.elim)⟩
            refine ⟨hS, ?_⟩
            have hXe := hx6.trans hE
            refine A_takeG (i := 16) rfl (by kernel_rfl) (by kernel_rfl) (by kernel_rfl) rfl hS rfl rfl rfl rfl (fun _ hw => r_notP rfl) ?_
            refine A_take (i := 17) rfl (by kernel_rfl) (by kernel_rfl) (by kernel_rfl) rfl hS (fun _ hw => r_pickFV (v := .bool _) rfl rfl) ?_
            refine A_done (by kernel_rfl) ?_
            refine W_ifp rfl (fun ht84 => ?_) (fun ht84 => ?_)
            · exact absurd (hDD3.sim.lasting a).symm ht84
            · refine W_skip ?_
              refine W_region ?_
              refine op rfl (r_moveV (v := .int _ _) rfl) ?_
              refine op rfl (r_add' rfl rfl (wrap_i64 (by omega) (by omega))) ?_
              refine op rfl (r_assignV (v := .int _ _) rfl) ?_
              refine WL_nil ?_
              refine ⟨?_, by repeat (first | with_reducible exact Out.refl _ _ | with_reducible exact Out.mix | refine Out.put rfl ?_ | refine Out.mixin rfl ?_ | exact Out.refl _ _ | exact Out.mix)⟩
              exact ⟨(9 - (a + 1)).toNat, by omega, a + 1, rfl, by omega, by omega, rfl, hX, hXe, B4_3⟩
          · refine W_exit (blk_hit ?_)
            refine W_region ?_
            refine op rfl (r_moveV (v := .int _ _) rfl) ?_
            refine op rfl (r_add' rfl rfl (wrap_i64 (by omega) (by omega))) ?_
            refine op rfl (r_assignV (v := .int _ _) rfl) ?_
            refine WL_nil ?_
            refine ⟨?_, by repeat (first | with_reducible exact Out.refl _ _ | with_reducible exact Out.mix | refine Out.put rfl ?_ | refine Out.mixin rfl ?_ | exact Out.refl _ _ | exact Out.mix)⟩
            exact ⟨l.length - (i + 1), by omega, i + 1, _, _, _, _, _, rfl, by omega, rfl, hX, B4_3, hDD3.ext hXX⟩
      · refine O_new rfl rfl (r_alloc Try.zero40) ?_
        intro w9_9 b9_9 E9_9 B9_9 L9_9
        have hG9_9 : W.heap.size ≤ b9_9 := by have := hX.size; omega
        have hNb4_3_9_9 : b4_3 ≠ b9_9 := by have := Blk.lt B4_3; omega
        replace B4_3 := Blk.ext B4_3 E9_9
        replace hX := hX.trans E9_9
        replace hS : Ext W w9_9 ∧ Same (fun b : Nat => b = b4_3 ∨ False) wd9 w9_9 := ⟨hX, fun b hb => Or.elim hb (fun q => by subst q; exact Blk.eq B4_3 DB4_3) (fun hb => hb.elim)⟩
        refine ⟨hS, ?_⟩
        have hb99 := Blk.lt B9_9
        refine A_ready1 (i := 5) (by kernel_rfl) ?_
        refine O_call rfl rfl (r_call Try.func27 Try.nm27 rfl) (rstep_spec R A c l[i] Ab cb _ (fun b hb ↦ Nat.lt_of_lt_of_le (hFlt b hb) (by first | exact hD.size | exact (hD.trans E9_9).size)) (hRA8.ext hFlt (by first | exact hD | exact hD.trans E9_9)) hDD.wr (by omega) hlb (fun x hx ↦ Nat.lt_of_lt_of_le hx hX.size) (Row.fext hrb (fun _ h ↦ h) hX)) ?_
        rintro v wy ⟨A', c', rfl, hRA', hE⟩
        replace B4_3 := Blk.ext B4_3 hE
        replace B9_9 := Blk.ext B9_9 hE
        replace hX := hX.trans hE
        replace hS : Ext W wy ∧ Same (fun b : Nat => b = b4_3 ∨ False) wd9 wy := ⟨hX, fun b hb => Or.elim hb (fun q => by subst q; exact Blk.eq B4_3 DB4_3) (fun hb => hb.elim)⟩
        refine ⟨hS, ?_⟩
        have hE5 := hE
        refine A_take (i := 6) rfl (by kernel_rfl) (by kernel_rfl) (by kernel_rfl) rfl hS (fun _ hw => r_moveV (v := .tuple #[(R.rdoes l[i]).1.rv A' c', .int .i64 (R.rdoes l[i]).2]) rfl) ?_
        refine A_take (i := 7) rfl (by kernel_rfl) (by kernel_rfl) (by kernel_rfl) rfl hS (fun _ hw => r_extract (vs := [(R.rdoes l[i]).1.rv A' c', .int .i64 (R.rdoes l[i]).2]) rfl rfl) ?_
        refine A_take (i := 8) rfl (by kernel_rfl) (by kernel_rfl) (by kernel_rfl) rfl hS (fun _ hw => r_extract (vs := [(R.rdoes l[i]).1.rv A' c', .int .i64 (R.rdoes l[i]).2]) rfl rfl) ?_
        refine A_ready1 (i := 10) (by kernel_rfl) ?_
        refine O_storeRow rfl rfl rfl Try.sz40 B9_9 rfl rfl ?_
        intro w9_10 C9_10 BB9_10
        replace B4_3 := Chg.blk C9_10 B4_3 hNb4_3_9_9
        replace hX := hX.chg C9_10 hG9_9
        replace B9_9 := BB9_10
        replace hS : Ext W w9_10 ∧ Same (fun b : Nat => b = b4_3 ∨ False) wd9 w9_10 := ⟨hX, fun b hb => Or.elim hb (fun q => by subst q; exact Blk.eq B4_3 DB4_3) (fun hb => hb.elim)⟩
        refine ⟨hS, ?_⟩
        refine A_take (i := 11) rfl (by kernel_rfl) (by kernel_rfl) (by kernel_rfl) rfl hS (fun _ hw => r_assignV (v := .int .i64 (R.rdoes l[i]).2) rfl) ?_
        refine A_done (by kernel_rfl) ?_
        have hk9 : ∃ wx, Ext w2 wx ∧ Ext wx wy ∧ RA wy (Nw (fun b => F b ∧ b ≠ b4_3) wx wy) A' c' (R.rdoes l[i]).1 ∧ (b9_9 < wx.heap.size ∨ wy.heap.size ≤ b9_9) := by
          first
            | exact ⟨wd9, hD, hE5, hRA', Or.inr (by omega)⟩
            | exact ⟨w9_9, hD.trans E9_9, hE5, hRA', Or.inl hb99⟩
        have hE39 : Ext w2 w9_10 := by
          have z1 := hD.size
          have z2 := hE5.size
          first
            | exact Chg.ext ((hD.trans hE5).trans E9_9) (by omega) C9_10
            | exact Chg.ext ((hD.trans E9_9).trans hE5) (by omega) C9_10
        have hsm9 : ∀ b, b < wy.heap.size → b ≠ b9_9 → w9_10.heap[b]? = wy.heap[b]? := by
          intro b hb hne
          first
            | exact C9_10.block b hb hne
            | exact (C9_10.block b (Nat.lt_of_lt_of_le hb E9_9.size) hne).trans (E9_9.block b hb)
        have hsz9 : wy.heap.size ≤ w9_10.heap.size := by
          have := C9_10.size
          have := E9_9.size
          omega
        have h99 : w2.heap.size ≤ b9_9 ∧ b9_9 < w9_10.heap.size := by
          have z1 := hD.size
          have z2 := hE5.size
          have z3 := Blk.lt B9_9
          exact ⟨by omega, z3⟩
        refine W_seq ?_
        refine W_region ?_
        refine op rfl (r_loadRow rfl B9_9 Try.underlying40 rfl Try.sz40) ?_
        refine op_storeRow rfl rfl Try.sz40 B4_3 rfl rfl ?_
        intro w10_1 C10_1 BB10_1
        replace B9_9 := Chg.blk C10_1 B9_9 (fun q => hNb4_3_9_9 q.symm)
        replace hX := hX.chg C10_1 hG4_3
        replace B4_3 := BB10_1
        obtain ⟨wx, kx1, kx2, kx3, kx4⟩ := hk9
        have hDD2 := DD.step hDD hFA hFo kx1 kx2 kx3 hE39 hsm9 hsz9 h99 kx4 C10_1
        have hkk : 2 * long (l.take i) + 2 * (1 + l[i].b.length) = 2 * long (l.take (i + 1)) := by omega
        rw [hkk] at hDD2
        refine WL_nil ?_
        refine W_seq ?_
        refine W_seq ?_
        refine W_drawF (W0 := W) (fun b : Nat => b = b4_3 ∨ b = b9_9 ∨ False) Try.wd rfl ?_
        intro wd11 hD
        replace B4_3 := Blk.ext B4_3 hD
        replace B9_9 := Blk.ext B9_9 hD
        replace hX := hX.trans hD
        have DB4_3 := B4_3
        have DB9_9 := B9_9
        have hS : Ext W wd11 ∧ Same (fun b : Nat => b = b4_3 ∨ b = b9_9 ∨ False) wd11 wd11 := ⟨hX, fun _ _ => rfl⟩
        refine A_take (i := 0) rfl (by kernel_rfl) (by kernel_rfl) (by kernel_rfl) rfl hS (fun _ hw => r_moveV (v := .int _ _) rfl) ?_
        refine A_take (i := 1) rfl (by kernel_rfl) (by kernel_rfl) (by kernel_rfl) rfl hS (fun _ hw => r_moveV (v := .int .i64 (R.rdoes l[i]).2) rfl) ?_
        refine A_take (i := 2) rfl (by kernel_rfl) (by kernel_rfl) (by kernel_rfl) rfl hS (fun _ hw => r_neq rfl rfl) ?_
        refine A_false (i := 3) rfl (by kernel_rfl) (by kernel_rfl) (by kernel_rfl) rfl hS (fun _ _ => r_moveV (v := .bool (decide _)) rfl) (fun h => h hres) ?_
        refine A_takeG (i := 4) rfl (by kernel_rfl) (by kernel_rfl) (by kernel_rfl) rfl hS rfl rfl rfl rfl (fun _ hw => r_moveV (v := .pointer _) rfl) ?_
        refine A_takeG (i := 6) rfl (by kernel_rfl) (by kernel_rfl) (by kernel_rfl) rfl hS rfl rfl rfl rfl (fun _ hw => r_fieldAddr rfl Try.fld40_4 rfl) ?_
        refine A_takeG (i := 7) rfl (by kernel_rfl) (by kernel_rfl) (by kernel_rfl) rfl hS rfl rfl rfl rfl (fun _ hw => r_load (v := .bool _) rfl Try.underlying4 rfl (Blk.cell (Blk.at DB4_3 (hw.2 _ (Or.inl rfl))) rfl)) ?_
        refine A_ready1 (i := 5) (by kernel_rfl) ?_
        have hDDa := hDD2.ext hD
        refine O_callG rfl rfl rfl rfl rfl rfl (r_call Try.func22 Try.nm22 rfl) (dead_da hDDa.fa.da) ?_
        rintro v w61 ⟨rfl, hE⟩
        replace B4_3 := Blk.ext B4_3 hE
        replace B9_9 := Blk.ext B9_9 hE
        replace hX := hX.trans hE
        replace hS : Ext W w61 ∧ Same (fun b : Nat => b = b4_3 ∨ b = b9_9 ∨ False) wd11 w61 := ⟨hX, fun b hb => Or.elim hb (fun q => by subst q; exact Blk.eq B4_3 DB4_3) (fun hb => Or.elim hb (fun q => by subst q; exact Blk.eq B9_9 DB9_9) (fun hb => hb.elim))⟩
        refine ⟨hS, ?_⟩
        have hDDb := hDDa.ext hE
        refine A_takeG (i := 8) rfl (by kernel_rfl) (by kernel_rfl) (by kernel_rfl) rfl hS rfl rfl rfl rfl (fun _ hw => rb_neq rfl rfl Try.underlying4) ?_
        refine A_take (i := 9) rfl (by kernel_rfl) (by kernel_rfl) (by kernel_rfl) rfl hS (fun _ hw => r_pickFV (v := .bool _) rfl rfl) ?_
        refine A_false (i := 10) rfl (by kernel_rfl) (by kernel_rfl) (by kernel_rfl) rfl hS (fun _ _ => r_moveV (v := .bool (decide _)) rfl) (fun h => h hDDb.sim.dead.symm) ?_
        refine A_takeG (i := 11) rfl (by kernel_rfl) (by kernel_rfl) (by kernel_rfl) rfl hS rfl rfl rfl rfl (fun _ hw => r_moveV (v := .pointer _) rfl) ?_
        refine A_takeG (i := 13) rfl (by kernel_rfl) (by kernel_rfl) (by kernel_rfl) rfl hS rfl rfl rfl rfl (fun _ hw => r_loadRow rfl (Blk.at DB4_3 (hw.2 _ (Or.inl rfl))) Try.underlying40 rfl Try.sz40) ?_
        refine A_ready1 (i := 12) (by kernel_rfl) ?_
        refine O_callG rfl rfl rfl rfl rfl rfl (r_call Try.func18 Try.nm18 rfl) (used_da hDDb.fa.da hDDb.wd (by omega)) ?_
        rintro v w62 ⟨rfl, hE⟩
        replace B4_3 := Blk.ext B4_3 hE
        replace B9_9 := Blk.ext B9_9 hE
        replace hX := hX.trans hE
        replace hS : Ext W w62 ∧ Same (fun b : Nat => b = b4_3 ∨ b = b9_9 ∨ False) wd11 w62 := ⟨hX, fun b hb => Or.elim hb (fun q => by subst q; exact Blk.eq B4_3 DB4_3) (fun hb => Or.elim hb (fun q => by subst q; exact Blk.eq B9_9 DB9_9) (fun hb => hb.elim))⟩
        refine ⟨hS, ?_⟩
        have hDDc := hDDb.ext hE
        refine A_ready1 (i := 14) (by kernel_rfl) ?_
        refine O_callG rfl rfl rfl rfl rfl rfl (r_call Try.func20 Try.nm20 rfl) (rused_spec _ _ _ _ hDDc.lt hDDc.ra hDDc.wr (by omega)) ?_
        rintro v w63 ⟨rfl, hE⟩
        replace B4_3 := Blk.ext B4_3 hE
        replace B9_9 := Blk.ext B9_9 hE
        replace hX := hX.trans hE
        replace hS : Ext W w63 ∧ Same (fun b : Nat => b = b4_3 ∨ b = b9_9 ∨ False) wd11 w63 := ⟨hX, fun b hb => Or.elim hb (fun q => by subst q; exact Blk.eq B4_3 DB4_3) (fun hb => Or.elim hb (fun q => by subst q; exact Blk.eq B9_9 DB9_9) (fun hb => hb.elim))⟩
        refine ⟨hS, ?_⟩
        have hDD3 := hDDc.ext hE
        refine A_takeG (i := 15) rfl (by kernel_rfl) (by kernel_rfl) (by kernel_rfl) rfl hS rfl rfl rfl rfl (fun _ hw => r_neq rfl rfl) ?_
        refine A_take (i := 16) rfl (by kernel_rfl) (by kernel_rfl) (by kernel_rfl) rfl hS (fun _ hw => r_pickFV (v := .bool _) rfl rfl) ?_
        refine A_done (by kernel_rfl) ?_
        refine W_ifp rfl (fun ht62 => ?_) (fun ht62 => ?_)
        · exact absurd (congrArg Int.ofNat hDD3.sim.used.symm) ht62
        · refine W_skip ?_
          refine W_seq ?_
          refine W_region ?_
          refine op rfl (r_assignV (v := .int _ _) rfl) ?_
          refine WL_nil ?_
          refine W_block ?_
          refine W_loop [6, 13, 63, 64, 65, 66, 67, 68, 69, 70, 71, 72, 73, 74, 75, 76, 77, 78, 79, 80, 81, 82, 83, 84] (fun q e'' w'' => ∃ a : Int, q = (9 - a).toNat ∧ -1 ≤ a ∧ a ≤ 9 ∧ e'' 13 = .int .i64 a ∧ Ext W w'' ∧ Ext w63 w'' ∧ Blk w'' b4_3 ((R.rdoes l[i]).1.rc A' c') 40) (10) ?_ ?_
          · exact ⟨-1, by omega, by omega, by omega, rfl, hX, Ext.refl _, B4_3⟩
          intro k g w' hI
          obtain ⟨a, hq2, ha1, ha2, h13, hX', hXX', B4_3'⟩ := hI
          clear hX B4_3
          have hX := hX'
          have hXX := hXX'
          have B4_3 := B4_3'
          clear hX' B4_3' hXX'
          refine W_set (i := 13) h13 ?_
          refine W_seq ?_
          refine W_seq ?_
          refine W_region ?_
          refine op rfl (r_moveV (v := .int _ _) rfl) ?_
          refine op rfl (r_lss rfl rfl) ?_
          refine WL_nil ?_
          refine W_ifp rfl (fun ht64 => ?_) (fun ht64 => ?_)
          · refine W_skip ?_
            refine W_seq ?_
            refine W_block ?_
            refine W_seq ?_
            refine W_drawF (W0 := W) (fun b : Nat => b = b4_3 ∨ False) Try.wd rfl ?_
            intro wd16 hD
            replace B4_3 := Blk.ext B4_3 hD
            replace hX := hX.trans hD
            have DB4_3 := B4_3
            have hS : Ext W wd16 ∧ Same (fun b : Nat => b = b4_3 ∨ False) wd16 wd16 := ⟨hX, fun _ _ => rfl⟩
            refine A_take (i := 0) rfl (by kernel_rfl) (by kernel_rfl) (by kernel_rfl) rfl hS (fun _ hw => r_moveV (v := .pointer _) rfl) ?_
            refine A_take (i := 1) rfl (by kernel_rfl) (by kernel_rfl) (by kernel_rfl) rfl hS (fun _ hw => r_moveV (v := .int _ _) rfl) ?_
            refine A_take (i := 3) rfl (by kernel_rfl) (by kernel_rfl) (by kernel_rfl) rfl hS (fun _ hw => r_loadRow rfl (Blk.at DB4_3 (hw.2 _ (Or.inl rfl))) Try.underlying40 rfl Try.sz40) ?_
            refine A_take (i := 4) rfl (by kernel_rfl) (by kernel_rfl) (by kernel_rfl) rfl hS (fun _ hw => r_moveV (v := .int _ _) rfl) ?_
            refine A_ready1 (i := 2) (by kernel_rfl) ?_
            have hx1 := hXX.trans hD
            refine O_call rfl rfl (r_call Try.func14 Try.nm14 rfl) (read_da (hDD3.fa.da.ext hx1) hDD3.wd (by omega) a) ?_
            rintro v w71 ⟨Ar, cr, rfl, hE, hr1⟩
            replace B4_3 := Blk.ext B4_3 hE
            replace hX := hX.trans hE
            replace hS : Ext W w71 ∧ Same (fun b : Nat => b = b4_3 ∨ False) wd16 w71 := ⟨hX, fun b hb => Or.elim hb (fun q => by subst q; exact Blk.eq B4_3 DB4_3) (fun hb => hb.elim)⟩
            refine ⟨hS, ?_⟩
            have hx2 := hx1.trans hE
            refine A_ready1 (i := 5) (by kernel_rfl) ?_
            refine O_call rfl rfl (r_call Try.func28 Try.nm28 rfl) (rread_spec _ A' c' a _ (hDD3.ext hx2).lt (hDD3.ext hx2).ra) ?_
            rintro v w72 ⟨As, cs, rfl, hE, hr2⟩
            replace B4_3 := Blk.ext B4_3 hE
            replace hX := hX.trans hE
            replace hS : Ext W w72 ∧ Same (fun b : Nat => b = b4_3 ∨ False) wd16 w72 := ⟨hX, fun b hb => Or.elim hb (fun q => by subst q; exact Blk.eq B4_3 DB4_3) (fun hb => hb.elim)⟩
            refine ⟨hS, ?_⟩
            have hx3 := hx2.trans hE
            replace hr1 := hr1.ext hE
            refine A_ready1 (i := 6) (by kernel_rfl) ?_
            refine O_call rfl rfl (r_call Try.func16 Try.nm16 rfl) (same_spec Ar cr _ As cs _ _ hr1 hr2) ?_
            rintro v w73 ⟨rfl, hE⟩
            replace B4_3 := Blk.ext B4_3 hE
            replace hX := hX.trans hE
            replace hS : Ext W w73 ∧ Same (fun b : Nat => b = b4_3 ∨ False) wd16 w73 := ⟨hX, fun b hb => Or.elim hb (fun q => by subst q; exact Blk.eq B4_3 DB4_3) (fun hb => hb.elim)⟩
            refine ⟨hS, ?_⟩
            have hx4 := hx3.trans hE
            refine A_take (i := 7) rfl (by kernel_rfl) (by kernel_rfl) (by kernel_rfl) rfl hS (fun _ hw => r_notP rfl) ?_
            refine A_false (i := 8) rfl (by kernel_rfl) (by kernel_rfl) (by kernel_rfl) rfl hS (fun _ _ => r_moveV (v := .bool (decide _)) rfl) (fun h => h (hDD3.sim.read a).symm) ?_
            refine A_takeG (i := 9) rfl (by kernel_rfl) (by kernel_rfl) (by kernel_rfl) rfl hS rfl rfl rfl rfl (fun _ hw => r_moveV (v := .pointer _) rfl) ?_
            refine A_takeG (i := 10) rfl (by kernel_rfl) (by kernel_rfl) (by kernel_rfl) rfl hS rfl rfl rfl rfl (fun _ hw => r_moveV (v := .int _ _) rfl) ?_
            refine A_takeG (i := 12) rfl (by kernel_rfl) (by kernel_rfl) (by kernel_rfl) rfl hS rfl rfl rfl rfl (fun _ hw => r_loadRow rfl (Blk.at DB4_3 (hw.2 _ (Or.inl rfl))) Try.underlying40 rfl Try.sz40) ?_
            refine A_takeG (i := 13) rfl (by kernel_rfl) (by kernel_rfl) (by kernel_rfl) rfl hS rfl rfl rfl rfl (fun _ hw => r_moveV (v := .int _ _) rfl) ?_
            refine A_ready1 (i := 11) (by kernel_rfl) ?_
            refine O_callG rfl rfl rfl rfl rfl rfl (r_call Try.func17 Try.nm17 rfl) (lasting_da (hDD3.fa.da.ext hx4) hDD3.wd (by omega) a) ?_
            rintro v w74 ⟨At, ct, rfl, hE, hr3⟩
            replace B4_3 := Blk.ext B4_3 hE
            replace hX := hX.trans hE
            replace hS : Ext W w74 ∧ Same (fun b : Nat => b = b4_3 ∨ False) wd16 w74 := ⟨hX, fun b hb => Or.elim hb (fun q => by subst q; exact Blk.eq B4_3 DB4_3) (fun hb => hb.elim)⟩
            refine ⟨hS, ?_⟩
            have hx5 := hx4.trans hE
            refine A_ready1 (i := 14) (by kernel_rfl) ?_
            refine O_callG rfl rfl rfl rfl rfl rfl (r_call Try.func29 Try.nm29 rfl) (rlasting_spec _ A' c' a _ (hDD3.ext hx5).lt (hDD3.ext hx5).ra) ?_
            rintro v w75 ⟨Au, cu, rfl, hE, hr4⟩
            replace B4_3 := Blk.ext B4_3 hE
            replace hX := hX.trans hE
            replace hS : Ext W w75 ∧ Same (fun b : Nat => b = b4_3 ∨ False) wd16 w75 := ⟨hX, fun b hb => Or.elim hb (fun q => by subst q; exact Blk.eq B4_3 DB4_3) (fun hb => hb.elim)⟩
            refine ⟨hS, ?_⟩
            have hx6 := hx5.trans hE
            replace hr3 := hr3.ext hE
            refine A_ready1 (i := 15) (by kernel_rfl) ?_
            refine O_callG rfl rfl rfl rfl rfl rfl (r_call Try.func16 Try.nm16 rfl) (same_spec At ct _ Au cu _ _ hr3 hr4) ?_
            rintro v w76 ⟨rfl, hE⟩
            replace B4_3 := Blk.ext B4_3 hE
            replace hX := hX.trans hE
            replace hS : Ext W w76 ∧ Same (fun b : Nat => b = b4_3 ∨ False) wd16 w76 := ⟨hX, fun b hb => Or.elim hb (fun q => by subst q; exact Blk.eq B4_3 DB4_3) (fun hb => hb.elim)⟩
            refine ⟨hS, ?_⟩
            have hXe := hx6.trans hE
            refine A_takeG (i := 16) rfl (by kernel_rfl) (by kernel_rfl) (by kernel_rfl) rfl hS rfl rfl rfl rfl (fun _ hw => r_notP rfl) ?_
            refine A_take (i := 17) rfl (by kernel_rfl) (by kernel_rfl) (by kernel_rfl) rfl hS (fun _ hw => r_pickFV (v := .bool _) rfl rfl) ?_
            refine A_done (by kernel_rfl) ?_
            refine W_ifp rfl (fun ht84 => ?_) (fun ht84 => ?_)
            · exact absurd (hDD3.sim.lasting a).symm ht84
            · refine W_skip ?_
              refine W_region ?_
              refine op rfl (r_moveV (v := .int _ _) rfl) ?_
              refine op rfl (r_add' rfl rfl (wrap_i64 (by omega) (by omega))) ?_
              refine op rfl (r_assignV (v := .int _ _) rfl) ?_
              refine WL_nil ?_
              refine ⟨?_, by repeat (first | with_reducible exact Out.refl _ _ | with_reducible exact Out.mix | refine Out.put rfl ?_ | refine Out.mixin rfl ?_ | exact Out.refl _ _ | exact Out.mix)⟩
              exact ⟨(9 - (a + 1)).toNat, by omega, a + 1, rfl, by omega, by omega, rfl, hX, hXe, B4_3⟩
          · refine W_exit (blk_hit ?_)
            refine W_region ?_
            refine op rfl (r_moveV (v := .int _ _) rfl) ?_
            refine op rfl (r_add' rfl rfl (wrap_i64 (by omega) (by omega))) ?_
            refine op rfl (r_assignV (v := .int _ _) rfl) ?_
            refine WL_nil ?_
            refine ⟨?_, by repeat (first | with_reducible exact Out.refl _ _ | with_reducible exact Out.mix | refine Out.put rfl ?_ | refine Out.mixin rfl ?_ | exact Out.refl _ _ | exact Out.mix)⟩
            exact ⟨l.length - (i + 1), by omega, i + 1, _, _, _, _, _, rfl, by omega, rfl, hX, B4_3, hDD3.ext hXX⟩
    · refine W_exit (blk_hit ?_)
      refine W_seq ?_
      refine W_region ?_
      refine opCv rfl (r_call Try.func10 Try.nm10 rfl) (known_spec _) ?_
      rintro v w22 ⟨rfl, hE⟩
      replace B4_3 := Blk.ext B4_3 hE
      replace hX := hX.trans hE
      refine op rfl (r_assignV (v := .bool _) rfl) ?_
      refine WL_nil ?_
      refine W_ret (finX_ret ?_)
      refine fin1 ?_
      exact ⟨_, rfl, rfl, hX⟩
end Go.Proofs.Ytfgffaphpedimaa
