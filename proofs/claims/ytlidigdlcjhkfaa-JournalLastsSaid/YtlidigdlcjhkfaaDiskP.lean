/-
  The walks of package disk: a step is done, and pending.
-/
import Derived.Test.YtlidigdlcjhkfaaFacts
import Derived.Test.YtlidigdlcjhkfaaDiskW
namespace Go.Proofs.Ytlidigdlcjhkfaa
open Go Go.Eng Go.RowKit Go.Proofs
set_option linter.unusedVariables false
set_option linter.unusedSimpArgs false
set_option maxHeartbeats 1000000

theorem putG_spec {B : Nat} {H : Hd} {D : Dk} {w : World} (h : DR B w H D) (a : Nat) (ha : a < D.n) (c : UInt8) (hb : D.n ≤ 8) (hl : (D.ar a).now.length ≤ 1099511627776) (hp : (D.ar a).pend.length ≤ 1099511627776)  :
    Calls Try.prog 37 #[dp H, .int .i64 a, St.val (.grow c)] w (fun en w' => ∃ v, en = .returned v ∧ Post B H D (D.put a (.grow c)) w w') := by
  have hbp := h.bp
  obtain ⟨cs, hcs, hsz, h3⟩ := h.bg
  obtain ⟨q0, q1, q2⟩ := h3 a ha
  have q2' : cs[0 + (a : Int).toNat * 3 + 2]? = some (H.pv a) := by simpa using q2
  have hcp := h.cap
  have hlt2 : 0 + (a : Int).toNat * 3 + 2 < cs.size := by omega
  have hpv := h.pv a ha
  have hBw : B ≤ w.heap.size := by have := Blk.lt hbp; have := h.lo; omega
  refine calls' (n := 37) (rs := #[]) (l := [dp H, .int .i64 a, St.val (.grow c)]) Try.func37 rfl rfl rfl rfl rfl ?_
  refine W_seq ?_
  refine W_region ?_
  refine op rfl (r_moveV (v := .pointer _) rfl) ?_
  refine op rfl (r_nilCheck rfl) ?_
  refine op rfl (r_fieldAddr rfl Try.fld55_0 rfl) ?_
  refine op rfl (r_load (v := .slice (some ⟨H.g, 0, none⟩) D.n H.cap) rfl Try.underlying53 rfl (Blk.cell hbp rfl)) ?_
  refine op rfl (r_moveV (v := .int _ _) rfl) ?_
  refine op rfl (r_indexAddrN rfl rfl rfl Try.underlying53 Try.sz75 (by omega) (by omega)) ?_
  refine op rfl (r_assignV (v := .pointer _) rfl) ?_
  refine WL_nil ?_
  refine W_seq ?_
  refine W_region ?_
  refine op rfl (r_moveV (v := .pointer _) rfl) ?_
  refine op rfl (r_moveV (v := .pointer _) rfl) ?_
  refine op rfl (r_nilCheck rfl) ?_
  refine op rfl (r_fieldAddr rfl Try.fld75_2 rfl) ?_
  refine op rfl (r_load (v := H.pv a) rfl Try.underlying73 rfl (Blk.cell hcs q2')) ?_
  refine op rfl (r_moveV (v := St.val (.grow c)) rfl) ?_
  refine op_newS rfl (r_buildSlice (vs := [St.val (.grow c)]) Try.underlying73 Try.sz77 Try.zero77 rfl rfl rfl) ?_
  intro w1_6 b1_6 E1_6 B1_6 L1_6
  obtain ⟨v', w', hr, hO', hG, hvo⟩ := run_append (T := stT) (F := nobody) (P := Try.prog) (t := 73) (ty := 73) (m := [.grow c]) (c := 1) Try.underlying73 Try.sz77 Try.by77 Try.zero77 rfl (own_fext hpv E1_6) ((row_one (enc := St.val) (ok := fun _ => True) B1_6 trivial).srcF flat_st) (fun _ q => q.elim) (by simp only [List.length_singleton]; omega) (by simp only [List.length_singleton]; omega) (Nat.le_trans hBw E1_6.size)
  have hg6 : (H.pv a).ownBlock ≠ some H.g := fun q => (h.np a ha H.g q).2.1 rfl
  have hcs6 := hcs.ext E1_6
  have hcs7 := gro_blk hG hcs6 hg6
  refine op rfl (r_append rfl rfl hr) ?_
  refine op rfl (r_nilCheck rfl) ?_
  refine op rfl (r_fieldAddr rfl Try.fld75_2 rfl) ?_
  refine op_store (v := v') rfl rfl (own_one hO') Try.sz73 hcs7 hlt2 ?_
  intro w2 C2 B2
  obtain ⟨H1, ⟨hp1, hg1⟩, hR1, hn1, hU1, hO1⟩ := ((h.ext E1_6).setPend ha hcs6 hsz h3 hG hO' (Or.inr hvo) C2 (by simpa using B2)).pre E1_6
  have hn1' : a < (D.upd a { D.ar a with pend := (D.ar a).pend ++ [.grow c] }).n := ha
  refine WL_nil ?_
  refine W_drawA Try.wd rfl ?_
  intro wd2 hD
  have hS : anyW wd2 := trivial
  have hR2 := hR1.ext hD
  obtain ⟨cs2, hcs2, hsz2, h32⟩ := hR2.bg
  obtain ⟨q0b, q1b, q2b⟩ := h32 a ha
  rw [hg1] at hcs2
  have q0c : cs2[0 + (a : Int).toNat * 3 + 0 + 0]? = some (H1.nv a) := by simpa using q0b
  have hcp2 : D.n ≤ H1.cap := hR2.cap
  have hsz3 : cs2.size = H1.cap * 3 := hsz2
  have hlt0 : 0 + (a : Int).toNat * 3 + 0 + 0 < cs2.size := by rw [hsz3]; omega
  have hnw := hR2.nv a ha
  rw [upd_same] at hnw
  obtain ⟨A0, c0, hv0, hc0, hrow0⟩ := own_frow hnw
  rw [hv0] at q0c
  refine A_take (i := 0) rfl (by kernel_rfl) (by kernel_rfl) (by kernel_rfl) rfl hS (fun _ hw => r_moveV (v := .pointer _) rfl) ?_
  refine A_take (i := 1) rfl (by kernel_rfl) (by kernel_rfl) (by kernel_rfl) rfl hS (fun _ hw => r_moveV (v := St.val (.grow c)) rfl) ?_
  refine A_take (i := 2) rfl (by kernel_rfl) (by kernel_rfl) (by kernel_rfl) rfl hS (fun _ hw => r_moveV (v := .pointer _) rfl) ?_
  refine A_take (i := 3) rfl (by kernel_rfl) (by kernel_rfl) (by kernel_rfl) rfl hS (fun _ hw => r_nilCheck rfl) ?_
  refine A_take (i := 4) rfl (by kernel_rfl) (by kernel_rfl) (by kernel_rfl) rfl hS (fun _ hw => r_fieldAddr rfl Try.fld75_0 rfl) ?_
  refine A_take (i := 5) rfl (by kernel_rfl) (by kernel_rfl) (by kernel_rfl) rfl hS (fun _ hw => r_fieldAddr rfl Try.fld72_0 rfl) ?_
  refine A_take (i := 7) rfl (by kernel_rfl) (by kernel_rfl) (by kernel_rfl) rfl hS (fun _ hw => r_makeFunc) ?_
  refine A_take (i := 8) rfl (by kernel_rfl) (by kernel_rfl) (by kernel_rfl) rfl hS (fun _ hw => r_nilCheckM (xt := 69) rfl methGrow) ?_
  refine A_take (i := 9) rfl (by kernel_rfl) (by kernel_rfl) (by kernel_rfl) rfl hS (fun _ hw => r_moveV (v := St.val (.grow c)) rfl) ?_
  refine A_ready1 (i := 6) (by kernel_rfl) ?_
  refine O_val rfl rfl (r_load (v := .slice A0 (D.ar a).now.length c0) rfl Try.underlying23 rfl (Blk.cell hcs2 q0c)) (hS) ?_
  refine A_ready1 (i := 10) (by kernel_rfl) ?_
  refine O_call rfl rfl (r_invoke (xt := 69) (xs := [.tmp 29]) rfl methGrow Try.func72 Try.nm72 rfl) (growDo_spec (B := wd2.heap.size) c A0 c0 (D.ar a).now wd2 (Nat.le_refl _) hl (fun b hb ↦ hb) hrow0) ?_
  rintro v3 w3 ⟨hE3, hO3⟩
  replace hS := trivial
  refine ⟨hS, ?_⟩
  have hcs3 := hcs2.ext hE3
  refine A_take (i := 11) rfl (by kernel_rfl) (by kernel_rfl) (by kernel_rfl) rfl hS (fun _ hw => r_nilCheck rfl) ?_
  refine A_take (i := 12) rfl (by kernel_rfl) (by kernel_rfl) (by kernel_rfl) rfl hS (fun _ hw => r_fieldAddr rfl Try.fld75_0 rfl) ?_
  refine A_take (i := 13) rfl (by kernel_rfl) (by kernel_rfl) (by kernel_rfl) rfl hS (fun _ hw => r_fieldAddr rfl Try.fld72_0 rfl) ?_
  refine A_ready1 (i := 14) (by kernel_rfl) ?_
  refine O_store (v := v3) rfl rfl rfl (own_one hO3) Try.sz23 hcs3 hlt0 ?_
  intro w4 C4 B4
  refine ⟨trivial, ?_⟩
  rw [← hg1] at C4 B4 hcs3
  have hP := hR2.setNow hE3 hn1' hcs3 hsz2 h32 (hO3.low (Nat.le_trans hBw (Nat.le_trans (Nat.le_trans (Nat.le_trans E1_6.size hG.size) C2.size) hD.size))) (fun b q => (hO3.lt q).1) C4 (by simpa using B4)
  have hP2 := hP.pre hD
  refine A_done (by kernel_rfl) ?_
  refine fin0 ?_
  refine ⟨_, rfl, ?_⟩
  have hD2 : (D.upd a { D.ar a with pend := (D.ar a).pend ++ [.grow c] }).upd a { (D.upd a { D.ar a with pend := (D.ar a).pend ++ [.grow c] }).ar a with now := (D.ar a).now ++ [c] } = D.put a (.grow c) := by
    unfold Dk.put
    rw [upd_same]
    unfold Dk.upd
    congr 1
    funext i
    by_cases hi : i = a
    · subst hi; simp [St.run]
    · simp [hi]
  rw [hD2] at hP2
  exact Post.trans ⟨hp1, hg1⟩ hn1 hU1 hO1 hP2
theorem putC_spec {B : Nat} {H : Hd} {D : Dk} {w : World} (h : DR B w H D) (a : Nat) (ha : a < D.n) (n : Nat) (hb : D.n ≤ 8) (hl : (D.ar a).now.length ≤ 1099511627776) (hp : (D.ar a).pend.length ≤ 1099511627776) (hn : n ≤ (D.ar a).now.length) :
    Calls Try.prog 37 #[dp H, .int .i64 a, St.val (.cut n)] w (fun en w' => ∃ v, en = .returned v ∧ Post B H D (D.put a (.cut n)) w w') := by
  have hbp := h.bp
  obtain ⟨cs, hcs, hsz, h3⟩ := h.bg
  obtain ⟨q0, q1, q2⟩ := h3 a ha
  have q2' : cs[0 + (a : Int).toNat * 3 + 2]? = some (H.pv a) := by simpa using q2
  have hcp := h.cap
  have hlt2 : 0 + (a : Int).toNat * 3 + 2 < cs.size := by omega
  have hpv := h.pv a ha
  have hBw : B ≤ w.heap.size := by have := Blk.lt hbp; have := h.lo; omega
  refine calls' (n := 37) (rs := #[]) (l := [dp H, .int .i64 a, St.val (.cut n)]) Try.func37 rfl rfl rfl rfl rfl ?_
  refine W_seq ?_
  refine W_region ?_
  refine op rfl (r_moveV (v := .pointer _) rfl) ?_
  refine op rfl (r_nilCheck rfl) ?_
  refine op rfl (r_fieldAddr rfl Try.fld55_0 rfl) ?_
  refine op rfl (r_load (v := .slice (some ⟨H.g, 0, none⟩) D.n H.cap) rfl Try.underlying53 rfl (Blk.cell hbp rfl)) ?_
  refine op rfl (r_moveV (v := .int _ _) rfl) ?_
  refine op rfl (r_indexAddrN rfl rfl rfl Try.underlying53 Try.sz75 (by omega) (by omega)) ?_
  refine op rfl (r_assignV (v := .pointer _) rfl) ?_
  refine WL_nil ?_
  refine W_seq ?_
  refine W_region ?_
  refine op rfl (r_moveV (v := .pointer _) rfl) ?_
  refine op rfl (r_moveV (v := .pointer _) rfl) ?_
  refine op rfl (r_nilCheck rfl) ?_
  refine op rfl (r_fieldAddr rfl Try.fld75_2 rfl) ?_
  refine op rfl (r_load (v := H.pv a) rfl Try.underlying73 rfl (Blk.cell hcs q2')) ?_
  refine op rfl (r_moveV (v := St.val (.cut n)) rfl) ?_
  refine op_newS rfl (r_buildSlice (vs := [St.val (.cut n)]) Try.underlying73 Try.sz77 Try.zero77 rfl rfl rfl) ?_
  intro w1_6 b1_6 E1_6 B1_6 L1_6
  obtain ⟨v', w', hr, hO', hG, hvo⟩ := run_append (T := stT) (F := nobody) (P := Try.prog) (t := 73) (ty := 73) (m := [.cut n]) (c := 1) Try.underlying73 Try.sz77 Try.by77 Try.zero77 rfl (own_fext hpv E1_6) ((row_one (enc := St.val) (ok := fun _ => True) B1_6 trivial).srcF flat_st) (fun _ q => q.elim) (by simp only [List.length_singleton]; omega) (by simp only [List.length_singleton]; omega) (Nat.le_trans hBw E1_6.size)
  have hg6 : (H.pv a).ownBlock ≠ some H.g := fun q => (h.np a ha H.g q).2.1 rfl
  have hcs6 := hcs.ext E1_6
  have hcs7 := gro_blk hG hcs6 hg6
  refine op rfl (r_append rfl rfl hr) ?_
  refine op rfl (r_nilCheck rfl) ?_
  refine op rfl (r_fieldAddr rfl Try.fld75_2 rfl) ?_
  refine op_store (v := v') rfl rfl (own_one hO') Try.sz73 hcs7 hlt2 ?_
  intro w2 C2 B2
  obtain ⟨H1, ⟨hp1, hg1⟩, hR1, hn1, hU1, hO1⟩ := ((h.ext E1_6).setPend ha hcs6 hsz h3 hG hO' (Or.inr hvo) C2 (by simpa using B2)).pre E1_6
  have hn1' : a < (D.upd a { D.ar a with pend := (D.ar a).pend ++ [.cut n] }).n := ha
  refine WL_nil ?_
  refine W_drawA Try.wd rfl ?_
  intro wd2 hD
  have hS : anyW wd2 := trivial
  have hR2 := hR1.ext hD
  obtain ⟨cs2, hcs2, hsz2, h32⟩ := hR2.bg
  obtain ⟨q0b, q1b, q2b⟩ := h32 a ha
  rw [hg1] at hcs2
  have q0c : cs2[0 + (a : Int).toNat * 3 + 0 + 0]? = some (H1.nv a) := by simpa using q0b
  have hcp2 : D.n ≤ H1.cap := hR2.cap
  have hsz3 : cs2.size = H1.cap * 3 := hsz2
  have hlt0 : 0 + (a : Int).toNat * 3 + 0 + 0 < cs2.size := by rw [hsz3]; omega
  have hnw := hR2.nv a ha
  rw [upd_same] at hnw
  obtain ⟨A0, c0, hv0, hc0, hrow0⟩ := own_frow hnw
  rw [hv0] at q0c
  refine A_take (i := 0) rfl (by kernel_rfl) (by kernel_rfl) (by kernel_rfl) rfl hS (fun _ hw => r_moveV (v := .pointer _) rfl) ?_
  refine A_take (i := 1) rfl (by kernel_rfl) (by kernel_rfl) (by kernel_rfl) rfl hS (fun _ hw => r_moveV (v := St.val (.cut n)) rfl) ?_
  refine A_take (i := 2) rfl (by kernel_rfl) (by kernel_rfl) (by kernel_rfl) rfl hS (fun _ hw => r_moveV (v := .pointer _) rfl) ?_
  refine A_take (i := 3) rfl (by kernel_rfl) (by kernel_rfl) (by kernel_rfl) rfl hS (fun _ hw => r_nilCheck rfl) ?_
  refine A_take (i := 4) rfl (by kernel_rfl) (by kernel_rfl) (by kernel_rfl) rfl hS (fun _ hw => r_fieldAddr rfl Try.fld75_0 rfl) ?_
  refine A_take (i := 5) rfl (by kernel_rfl) (by kernel_rfl) (by kernel_rfl) rfl hS (fun _ hw => r_fieldAddr rfl Try.fld72_0 rfl) ?_
  refine A_take (i := 7) rfl (by kernel_rfl) (by kernel_rfl) (by kernel_rfl) rfl hS (fun _ hw => r_makeFunc) ?_
  refine A_take (i := 8) rfl (by kernel_rfl) (by kernel_rfl) (by kernel_rfl) rfl hS (fun _ hw => r_nilCheckM (xt := 87) rfl methCut) ?_
  refine A_take (i := 9) rfl (by kernel_rfl) (by kernel_rfl) (by kernel_rfl) rfl hS (fun _ hw => r_moveV (v := St.val (.cut n)) rfl) ?_
  refine A_ready1 (i := 6) (by kernel_rfl) ?_
  refine O_val rfl rfl (r_load (v := .slice A0 (D.ar a).now.length c0) rfl Try.underlying23 rfl (Blk.cell hcs2 q0c)) (hS) ?_
  refine A_ready1 (i := 10) (by kernel_rfl) ?_
  refine O_call rfl rfl (r_invoke (xt := 87) (xs := [.tmp 29]) rfl methCut Try.func73 Try.nm73 rfl) (cutDo_spec (B := wd2.heap.size) n A0 c0 (D.ar a).now wd2 (Nat.le_refl _) hn hc0 hl (fun b hb ↦ hb) hrow0) ?_
  rintro v3 w3 ⟨hE3, hO3⟩
  replace hS := trivial
  refine ⟨hS, ?_⟩
  have hcs3 := hcs2.ext hE3
  refine A_take (i := 11) rfl (by kernel_rfl) (by kernel_rfl) (by kernel_rfl) rfl hS (fun _ hw => r_nilCheck rfl) ?_
  refine A_take (i := 12) rfl (by kernel_rfl) (by kernel_rfl) (by kernel_rfl) rfl hS (fun _ hw => r_fieldAddr rfl Try.fld75_0 rfl) ?_
  refine A_take (i := 13) rfl (by kernel_rfl) (by kernel_rfl) (by kernel_rfl) rfl hS (fun _ hw => r_fieldAddr rfl Try.fld72_0 rfl) ?_
  refine A_ready1 (i := 14) (by kernel_rfl) ?_
  refine O_store (v := v3) rfl rfl rfl (own_one hO3) Try.sz23 hcs3 hlt0 ?_
  intro w4 C4 B4
  refine ⟨trivial, ?_⟩
  rw [← hg1] at C4 B4 hcs3
  have hP := hR2.setNow hE3 hn1' hcs3 hsz2 h32 (hO3.low (Nat.le_trans hBw (Nat.le_trans (Nat.le_trans (Nat.le_trans E1_6.size hG.size) C2.size) hD.size))) (fun b q => (hO3.lt q).1) C4 (by simpa using B4)
  have hP2 := hP.pre hD
  refine A_done (by kernel_rfl) ?_
  refine fin0 ?_
  refine ⟨_, rfl, ?_⟩
  have hD2 : (D.upd a { D.ar a with pend := (D.ar a).pend ++ [.cut n] }).upd a { (D.upd a { D.ar a with pend := (D.ar a).pend ++ [.cut n] }).ar a with now := (D.ar a).now.take n } = D.put a (.cut n) := by
    unfold Dk.put
    rw [upd_same]
    unfold Dk.upd
    congr 1
    funext i
    by_cases hi : i = a
    · subst hi; simp [St.run]
    · simp [hi]
  rw [hD2] at hP2
  exact Post.trans ⟨hp1, hg1⟩ hn1 hU1 hO1 hP2
end Go.Proofs.Ytlidigdlcjhkfaa
