/-
  The walks of package disk: Restart.
-/
import Derived.Test.YtlidigdlcjhkfaaFacts
import Derived.Test.YtlidigdlcjhkfaaDiskA
namespace Go.Proofs.Ytlidigdlcjhkfaa
open Go Go.Eng Go.RowKit Go.Proofs
set_option linter.unusedVariables false
set_option linter.unusedSimpArgs false
set_option maxHeartbeats 2000000

theorem doSt {w : World} {B c : Nat} {A : Option Addr} {s : St} {l : List UInt8} (hB : B ≤ w.heap.size) (hs : s.ok l) (hc : l.length ≤ c) (hl : l.length ≤ 1099511627776) (hA : Ty.byte.Row w (old w) A l) :
    ∃ f recv, (∀ {ρ : Operand → Value} {d : Option Tmp} {t : TypeId} {pos : String} {af : Array Edge} {g : Option (Nat × Bool)} {x y : Operand} {ts : Array TypeId}, ρ x = s.val → ρ y = .slice A l.length c →
      (execOp ρ ⟨d, .call { callee := .invoke x "quilter/disk.do", args := #[y], argTypes := ts }, t, pos, af, g⟩).run Try.prog w = .ok (.enter f #[recv, .slice A l.length c]) w) ∧ Calls Try.prog f #[recv, .slice A l.length c] w (fun en w' => ∃ v, en = .returned v ∧ (Ext w w' ∧ Bs B 5 w' v (s.run l))) := by
  cases s with
  | grow b =>
    refine ⟨_, _, ?_, growDo_spec b A c l w hB hl (fun b hb => hb) hA⟩
    intro ρ d t pos af g x y ts hx hy
    have := r_invoke (P := Try.prog) (w := w) (d := d) (t := t) (pos := pos) (af := af) (g := g) (ts := ts) (xt := 69) (xs := [y]) hx methGrow Try.func72 Try.nm72 rfl
    simp only [List.map_cons, List.map_nil, hy] at this
    exact this
  | cut n =>
    refine ⟨_, _, ?_, cutDo_spec n A c l w hB hs hc hl (fun b hb => hb) hA⟩
    intro ρ d t pos af g x y ts hx hy
    have := r_invoke (P := Try.prog) (w := w) (d := d) (t := t) (pos := pos) (af := af) (g := g) (ts := ts) (xt := 87) (xs := [y]) hx methCut Try.func73 Try.nm73 rfl
    simp only [List.map_cons, List.map_nil, hy] at this
    exact this
theorem nilSt {ρ : Operand → Value} {w : World} {d : Option Tmp} {t : TypeId} {pos : String} {af : Array Edge} {g : Option (Nat × Bool)} {x : Operand} {s : St} (hx : ρ x = .func (.method "quilter/disk.do") #[s.val] #[]) :
    (execOp ρ ⟨d, .nilCheck x, t, pos, af, g⟩).run Try.prog w = .ok (.value (.func (.method "quilter/disk.do") #[s.val] #[])) w := by
  cases s with
  | grow b => exact r_nilCheckM (xt := 69) hx methGrow
  | cut n => exact r_nilCheckM (xt := 87) hx methCut
def Dk.backTo (D : Dk) (keep : Int) (i : Nat) : Dk := { D with ar := fun j => if j < i then (D.ar j).back keep else D.ar j }
theorem backTo_zero (D : Dk) (keep : Int) : D.backTo keep 0 = D := by unfold Dk.backTo; simp
theorem backTo_at (D : Dk) (keep : Int) (i : Nat) : (D.backTo keep i).ar i = D.ar i := by unfold Dk.backTo; simp
theorem restart_spec {B : Nat} {H : Hd} {D : Dk} {w : World} (h : DR B w H D) {k : Nat} (hw : WF D k) (hk : k ≤ 1073741824) (keep : Int) : Calls Try.prog 17 #[dp H, .int .i64 keep] w (fun en w' => ∃ v, en = .returned v ∧ Post B H D (D.restart keep) w w') := by
  have hbp := h.bp
  have hn8 := hw.n8
  have hBw : B ≤ w.heap.size := by have := Blk.lt h.bp; have := h.lo; omega
  refine calls' (n := 74) (rs := #[]) (l := [dp H, .int .i64 keep]) Try.func17 rfl rfl rfl rfl rfl ?_
  refine W_seq ?_
  refine W_seq ?_
  refine W_region ?_
  refine op rfl (r_moveV (v := .pointer _) rfl) ?_
  refine op rfl (rp_eql rfl rfl Try.underlying25) ?_
  refine WL_nil ?_
  refine W_ifp rfl (fun ht9 => ?_) (fun ht9 => ?_)
  · exact ht9.elim
  · refine W_skip ?_
    refine W_seq ?_
    refine W_seq ?_
    refine W_region ?_
    refine op rfl (r_moveV (v := .pointer _) rfl) ?_
    refine op rfl (r_nilCheck rfl) ?_
    refine op rfl (r_fieldAddr rfl Try.fld55_0 rfl) ?_
    refine op rfl (r_load (v := .slice (some ⟨H.g, 0, none⟩) D.n H.cap) rfl Try.underlying53 rfl (Blk.cell hbp rfl)) ?_
    refine op rfl (r_len_slice rfl Try.underlying53) ?_
    refine op rfl (r_moveV (v := .int _ _) rfl) ?_
    refine WL_nil ?_
    refine W_block ?_
    refine W_loop [4, 5, 7, 15, 16, 17, 18, 19, 20, 21, 22, 23, 24, 25, 26, 27, 28, 29, 30, 31, 32, 33, 34, 35, 36, 37, 38, 39, 40, 41, 42, 43, 44, 45, 46, 47, 48, 49, 50, 51, 52, 53, 54, 55, 56, 57, 58, 59, 60, 61, 62, 63, 64, 65, 66, 67] (fun q e' w' => ∃ (i : Nat) (Hi : Hd), q = D.n - i ∧ i ≤ D.n ∧ e' 15 = .int .i64 i ∧ (Hi.p = H.p ∧ Hi.g = H.g) ∧ DR B w' Hi (D.backTo keep i) ∧ Upd (Off H D.n) w w' ∧ OffK H Hi D.n w.heap.size) (D.n) ?_ ?_
    · exact ⟨0, H, by omega, by omega, rfl, ⟨rfl, rfl⟩, by rw [backTo_zero]; exact h, Upd.refl _ _, OffK.refl _ _ _⟩
    intro k g w' hI
    obtain ⟨i, Hi, hq, hi, h15, hpi, hRi, hUi, hOi⟩ := hI
    have hbpi := hRi.bp
    rw [hpi.1, hpi.2] at hbpi
    refine W_set (i := 15) h15 ?_
    refine W_seq ?_
    refine W_region ?_
    refine op rfl (r_lss rfl rfl) ?_
    refine WL_nil ?_
    refine W_seq ?_
    refine W_ifp rfl (fun ht16 => ?_) (fun ht16 => ?_)
    · have hlt : i < D.n := by omega
      have hlti : i < (D.backTo keep i).n := hlt
      obtain ⟨cs, hcs, hsz, h3⟩ := hRi.bg
      rw [hpi.2] at hcs
      obtain ⟨q0, q1, q2⟩ := h3 i hlti
      have hpv := hRi.pv i hlti
      rw [backTo_at] at hpv
      obtain ⟨Ap, cp, hpve, hcp, hrowp⟩ := own_frow hpv
      have q2' : cs[0 + (i : Int).toNat * 3 + 2]? = some (.slice Ap (D.ar i).pend.length cp) := by rw [← hpve]; simpa using q2
      obtain ⟨m, hm⟩ : ∃ m : Nat, max 0 (min keep ((D.ar i).pend.length : Nat)) = (m : Int) := ⟨(max 0 (min keep ((D.ar i).pend.length : Nat))).toNat, by omega⟩
      have hml : m ≤ (D.ar i).pend.length := by omega
      have hval := hw.val i hlt
      have hlen := hw.len i hlt
      have htake : (D.ar i).pend.take m = (D.ar i).pend.take keep.toNat := by rw [List.take_eq_take_iff]; omega
      refine W_skip ?_
      refine W_seq ?_
      refine W_block ?_
      refine W_seq ?_
      refine W_region ?_
      refine op rfl (r_moveV (v := .int _ _) rfl) ?_
      refine op rfl (r_assignV (v := .int _ _) rfl) ?_
      refine WL_nil ?_
      refine W_seq ?_
      refine W_region ?_
      refine op rfl (r_moveV (v := .pointer _) rfl) ?_
      refine op rfl (r_nilCheck rfl) ?_
      refine op rfl (r_fieldAddr rfl Try.fld55_0 rfl) ?_
      refine op rfl (r_load (v := .slice (some ⟨H.g, 0, none⟩) D.n Hi.cap) rfl Try.underlying53 rfl (Blk.cell hbpi rfl)) ?_
      refine op rfl (r_moveV (v := .int _ _) rfl) ?_
      refine op rfl (r_indexAddrN rfl rfl rfl Try.underlying53 Try.sz75 (by omega) (by omega)) ?_
      refine op rfl (r_assignV (v := .pointer (some ⟨H.g, 0 + (i : Int).toNat * 3, none⟩)) rfl) ?_
      refine WL_nil ?_
      refine W_seq ?_
      refine W_seq ?_
      refine W_drawE Try.wd rfl ?_
      intro wd5 hS
      refine A_take (i := 0) rfl (by kernel_rfl) (by kernel_rfl) (by kernel_rfl) rfl hS (fun _ hw => r_moveV (v := .pointer _) rfl) ?_
      refine A_take (i := 1) rfl (by kernel_rfl) (by kernel_rfl) (by kernel_rfl) rfl hS (fun _ hw => r_nilCheck rfl) ?_
      refine A_take (i := 2) rfl (by kernel_rfl) (by kernel_rfl) (by kernel_rfl) rfl hS (fun _ hw => r_fieldAddr rfl Try.fld75_2 rfl) ?_
      refine A_take (i := 3) rfl (by kernel_rfl) (by kernel_rfl) (by kernel_rfl) rfl hS (fun _ hw => r_load (v := .slice Ap (D.ar i).pend.length cp) rfl Try.underlying73 rfl (Blk.cell (hcs.ext hw) q2')) ?_
      refine A_take (i := 4) rfl (by kernel_rfl) (by kernel_rfl) (by kernel_rfl) rfl hS (fun _ hw => r_moveV (v := .int _ _) rfl) ?_
      refine A_take (i := 5) rfl (by kernel_rfl) (by kernel_rfl) (by kernel_rfl) rfl hS (fun _ hw => r_moveV (v := .pointer _) rfl) ?_
      refine A_take (i := 6) rfl (by kernel_rfl) (by kernel_rfl) (by kernel_rfl) rfl hS (fun _ hw => r_nilCheck rfl) ?_
      refine A_take (i := 7) rfl (by kernel_rfl) (by kernel_rfl) (by kernel_rfl) rfl hS (fun _ hw => r_fieldAddr rfl Try.fld75_2 rfl) ?_
      refine A_take (i := 8) rfl (by kernel_rfl) (by kernel_rfl) (by kernel_rfl) rfl hS (fun _ hw => r_load (v := .slice Ap (D.ar i).pend.length cp) rfl Try.underlying73 rfl (Blk.cell (hcs.ext hw) q2')) ?_
      refine A_take (i := 9) rfl (by kernel_rfl) (by kernel_rfl) (by kernel_rfl) rfl hS (fun _ hw => r_len_slice rfl Try.underlying73) ?_
      refine A_take (i := 10) rfl (by kernel_rfl) (by kernel_rfl) (by kernel_rfl) rfl hS (fun _ hw => r_min2 rfl rfl) ?_
      refine A_take (i := 11) rfl (by kernel_rfl) (by kernel_rfl) (by kernel_rfl) rfl hS (fun _ hw => (show _ = Result.ok (Next.value (.int .i64 (m : Int))) _ from by rw [← hm]; exact r_max2 rfl rfl)) ?_
      refine A_take (i := 12) rfl (by kernel_rfl) (by kernel_rfl) (by kernel_rfl) rfl hS (fun _ hw => r_sliceHi (j := m) rfl rfl Try.underlying73 Try.sz77 (by omega)) ?_
      refine A_take (i := 13) rfl (by kernel_rfl) (by kernel_rfl) (by kernel_rfl) rfl hS (fun _ hw => r_len_slice rfl Try.underlying73) ?_
      refine A_take (i := 14) rfl (by kernel_rfl) (by kernel_rfl) (by kernel_rfl) rfl hS (fun _ hw => r_moveV (v := .int _ _) rfl) ?_
      refine A_done (by kernel_rfl) ?_
      have hRi0 := hRi.ext hS
      have hUi0 : Upd (Off H D.n) w wd5 := hUi.trans (G := fun _ => True) (Upd.of_ext hS) (fun _ _ _ => trivial)
      refine W_block ?_
      refine W_loop [7, 38, 39, 40, 41, 42, 43, 44, 45, 46, 47, 48, 49, 50, 51, 52, 53, 54] (fun q e' w' => ∃ (j : Nat) (Hj : Hd), q = m - j ∧ j ≤ m ∧ e' 38 = .int .i64 j ∧ (Hj.p = H.p ∧ Hj.g = H.g) ∧ Hj.pv = Hi.pv ∧ DR B w' Hj ((D.backTo keep i).upd i { (D.backTo keep i).ar i with lasts := runs ((D.ar i).pend.take j) (D.ar i).lasts }) ∧ Upd (Off H D.n) w w' ∧ OffK H Hj D.n w.heap.size) (m) ?_ ?_
      · refine ⟨0, Hi, by omega, by omega, rfl, hpi, rfl, ?_, hUi0, hOi⟩
        have e : (D.backTo keep i).upd i { (D.backTo keep i).ar i with lasts := runs ((D.ar i).pend.take 0) (D.ar i).lasts } = D.backTo keep i := by
          unfold Dk.upd
          rw [backTo_at]
          simp only [List.take_zero, runs, List.foldl_nil]
          cases D
          unfold Dk.backTo
          simp only [Dk.mk.injEq, true_and, and_true]
          funext x
          by_cases hx : x = i
          · subst hx; simp
          · simp [hx]
        rw [e]; exact hRi0
      intro k g w' hI
      obtain ⟨j, Hj, hq2, hj, h38, hpj, hpvj, hRj, hUj, hOj⟩ := hI
      refine W_set (i := 38) h38 ?_
      refine W_seq ?_
      refine W_region ?_
      refine op rfl (r_lss rfl rfl) ?_
      refine WL_nil ?_
      refine W_seq ?_
      refine W_ifp rfl (fun ht39 => ?_) (fun ht39 => ?_)
      · have hjm : j < m := by omega
        have hjl : j < (D.ar i).pend.length := by omega
        have hpv2 := hRj.pv i hlt
        rw [upd_same, backTo_at] at hpv2
        obtain ⟨Ap2, cp2, hpve2, _, hrowp2⟩ := own_frow hpv2
        rw [hpvj, hpve] at hpve2
        cases hpve2
        obtain ⟨ga, oa, hAe, hga, _, hcellp⟩ := Ty.Row.cell (enc := St.val) (ok := fun _ => True) hrowp2 hjl
        obtain ⟨Al, cl, _, hcl, hrowl, hcelll⟩ := hRj.lastsCell (i := i) hlt
        rw [upd_same] at hcl hrowl hcelll
        rw [hpj.2] at hcelll
        simp only at hcl hrowl hcelll
        have hcelll' : w'.cell? ⟨H.g, 0 + (i : Int).toNat * 3 + 1, none⟩ = some (.slice Al (runs ((D.ar i).pend.take j) (D.ar i).lasts).length cl) := by simpa using hcelll
        have hrl := runs_len ((D.ar i).pend.take j) (D.ar i).lasts
        have htl : ((D.ar i).pend.take j).length ≤ (D.ar i).pend.length := by simp; omega
        have hok := valid_ok hval hjl
        refine W_skip ?_
        refine W_seq ?_
        refine W_block ?_
        refine W_seq ?_
        refine W_region ?_
        refine op rfl (r_indexAddr1 rfl rfl hAe Try.underlying73 Try.sz77 (by omega) (by omega)) ?_
        refine op rfl (r_load (v := St.val (D.ar i).pend[j]) rfl Try.underlying77 rfl hcellp) ?_
        refine op rfl (r_assignV (v := St.val (D.ar i).pend[j]) rfl) ?_
        refine WL_nil ?_
        refine W_drawA Try.wd rfl ?_
        intro wd8 hD
        have hS : anyW wd8 := trivial
        refine A_take (i := 0) rfl (by kernel_rfl) (by kernel_rfl) (by kernel_rfl) rfl hS (fun _ hw => r_moveV (v := .pointer _) rfl) ?_
        refine A_take (i := 1) rfl (by kernel_rfl) (by kernel_rfl) (by kernel_rfl) rfl hS (fun _ hw => r_moveV (v := St.val (D.ar i).pend[j]) rfl) ?_
        refine A_take (i := 2) rfl (by kernel_rfl) (by kernel_rfl) (by kernel_rfl) rfl hS (fun _ hw => r_moveV (v := .pointer _) rfl) ?_
        refine A_take (i := 3) rfl (by kernel_rfl) (by kernel_rfl) (by kernel_rfl) rfl hS (fun _ hw => r_nilCheck rfl) ?_
        refine A_take (i := 4) rfl (by kernel_rfl) (by kernel_rfl) (by kernel_rfl) rfl hS (fun _ hw => r_fieldAddr rfl Try.fld75_1 rfl) ?_
        refine A_take (i := 6) rfl (by kernel_rfl) (by kernel_rfl) (by kernel_rfl) rfl hS (fun _ hw => r_makeFunc) ?_
        refine A_take (i := 7) rfl (by kernel_rfl) (by kernel_rfl) (by kernel_rfl) rfl hS (fun _ hw => nilSt (s := (D.ar i).pend[j]) rfl) ?_
        refine A_take (i := 8) rfl (by kernel_rfl) (by kernel_rfl) (by kernel_rfl) rfl hS (fun _ hw => r_moveV (v := St.val (D.ar i).pend[j]) rfl) ?_
        refine A_ready1 (i := 5) (by kernel_rfl) ?_
        have hcell8 := ext_cell hD hcelll'
        refine O_val rfl rfl (r_load (v := .slice Al (runs ((D.ar i).pend.take j) (D.ar i).lasts).length cl) rfl Try.underlying23 rfl hcell8) (hS) ?_
        refine A_ready1 (i := 9) (by kernel_rfl) ?_
        obtain ⟨fd, rcv, hrd, hcd⟩ := doSt (B := wd8.heap.size) (w := wd8) (s := (D.ar i).pend[j]) (A := Al) (c := cl) (l := runs ((D.ar i).pend.take j) (D.ar i).lasts) (Nat.le_refl _) hok hcl (by omega) (hrowl.ext hD)
        refine O_call rfl rfl (hrd rfl rfl) hcd ?_
        rintro v3 w3 ⟨hE3, hO3⟩
        refine ⟨trivial, ?_⟩
        obtain ⟨cs3, hcs3, hsz3, h33⟩ := hRj.bg
        have hcs3' := (hcs3.ext hD).ext hE3
        have hcs4 := hcs3'
        rw [hpj.2] at hcs4
        have hcp3 : D.n ≤ Hj.cap := hRj.cap
        have hlt1 : 0 + (i : Int).toNat * 3 + 1 < cs3.size := by omega
        refine A_take (i := 10) rfl (by kernel_rfl) (by kernel_rfl) (by kernel_rfl) rfl hS (fun _ hw => r_nilCheck rfl) ?_
        refine A_take (i := 11) rfl (by kernel_rfl) (by kernel_rfl) (by kernel_rfl) rfl hS (fun _ hw => r_fieldAddr rfl Try.fld75_1 rfl) ?_
        refine A_ready1 (i := 12) (by kernel_rfl) ?_
        refine O_store (v := v3) rfl rfl rfl (own_one hO3) Try.sz23 hcs4 hlt1 ?_
        intro w4 C4 B4
        refine ⟨trivial, ?_⟩
        rw [← hpj.2] at C4 B4
        have hBd : B ≤ wd8.heap.size := Nat.le_trans hBw (Nat.le_trans hUj.size hD.size)
        have hQ0 := (hRj.ext hD).setLastsX hE3 (a := i) hlt hcs3' hsz3 h33 (hO3.low hBd) (fun b q => (hO3.lt q).1) C4 (by simpa using B4)
        have hQ : _ ∧ Upd (Off Hj D.n) w' w4 ∧ True := ⟨hQ0.1, (Upd.of_ext hD).trans hQ0.2.1 (fun _ _ h => h), trivial⟩
        have hszj : w.heap.size ≤ wd8.heap.size := Nat.le_trans hUj.size hD.size
        have hOjn : OffK H { Hj with lv := fset Hj.lv i v3 } D.n w.heap.size := fun b hb => ⟨fun ho => (hQ0.2.2 b (Nat.lt_of_lt_of_le hb hszj)).1 ((hOj b hb).1 ho), fun ho => (hQ0.2.2 b (Nat.lt_of_lt_of_le hb hszj)).2 ((hOj b hb).2 ho)⟩
        refine A_done (by kernel_rfl) ?_
        refine W_region ?_
        refine op rfl (r_add' rfl rfl (wrap_i64 (by omega) (by omega))) ?_
        refine op rfl (r_moveV (v := .int _ _) rfl) ?_
        refine WL_nil ?_
        refine ⟨?_, by repeat (first | with_reducible exact Out.refl _ _ | with_reducible exact Out.mix | refine Out.put rfl ?_ | refine Out.mixin rfl ?_ | exact Out.refl _ _ | exact Out.mix)⟩
        refine ⟨m - (j + 1), by omega, j + 1, { Hj with lv := fset Hj.lv i v3 }, rfl, by omega, rfl, hpj, hpvj, ?_, hUj.trans hQ.2.1 (fun x hx ho => (hOj x hx).1 ho), hOjn⟩
        have e : ((D.backTo keep i).upd i { (D.backTo keep i).ar i with lasts := runs ((D.ar i).pend.take j) (D.ar i).lasts }).upd i { ((D.backTo keep i).upd i { (D.backTo keep i).ar i with lasts := runs ((D.ar i).pend.take j) (D.ar i).lasts }).ar i with lasts := St.run (D.ar i).pend[j] (runs ((D.ar i).pend.take j) (D.ar i).lasts) } = (D.backTo keep i).upd i { (D.backTo keep i).ar i with lasts := runs ((D.ar i).pend.take (j + 1)) (D.ar i).lasts } := by
          rw [upd_same, List.take_succ_eq_append_getElem hjl, runs_snoc]
          unfold Dk.upd
          congr 1
          funext x
          by_cases hx : x = i
          · simp [hx]
          · simp [hx]
        rw [← e]; exact hQ.1
      · obtain rfl : j = m := by omega
        obtain ⟨Al, cl, _, hcl, hrowl, hcelll⟩ := hRj.lastsCell (i := i) hlt
        rw [upd_same] at hcl hrowl hcelll
        rw [hpj.2] at hcelll
        simp only at hcl hrowl hcelll
        have hcelll' : w'.cell? ⟨H.g, 0 + (i : Int).toNat * 3 + 1, none⟩ = some (.slice Al (runs ((D.ar i).pend.take j) (D.ar i).lasts).length cl) := by simpa using hcelll
        have hrl := runs_len ((D.ar i).pend.take j) (D.ar i).lasts
        have htl : ((D.ar i).pend.take j).length ≤ (D.ar i).pend.length := by simp; omega
        obtain ⟨cs3, hcs3, hsz3, h33⟩ := hRj.bg
        refine W_exit (blk_hit ?_)
        refine W_region ?_
        refine op rfl (r_moveV (v := .pointer (some ⟨H.g, 0 + (i : Int).toNat * 3, none⟩)) rfl) ?_
        refine op rfl (r_moveV (v := .pointer (some ⟨H.g, 0 + (i : Int).toNat * 3, none⟩)) rfl) ?_
        refine op rfl (r_moveV (v := .pointer (some ⟨H.g, 0 + (i : Int).toNat * 3, none⟩)) rfl) ?_
        refine op rfl (r_nilCheck rfl) ?_
        refine op rfl (r_fieldAddr rfl Try.fld75_1 rfl) ?_
        refine op rfl (r_load (v := .slice Al (runs ((D.ar i).pend.take j) (D.ar i).lasts).length cl) rfl Try.underlying23 rfl hcelll') ?_
        refine opCv rfl (r_call Try.func42 Try.nm42 rfl) (clone_spec (B := w'.heap.size) Al cl _ w' (Nat.le_refl _) (by omega) (fun b hb ↦ hb) hrowl) ?_
        rintro v w5 ⟨hE5, hO5⟩
        refine op rfl (r_nilCheck rfl) ?_
        refine op rfl (r_fieldAddr rfl Try.fld75_0 rfl) ?_
        refine op rfl (r_fieldAddr rfl Try.fld72_0 rfl) ?_
        have hcs5 := hcs3.ext hE5
        have hcs5' := hcs5
        rw [hpj.2] at hcs5'
        have hcp3 : D.n ≤ Hj.cap := hRj.cap
        have hlt0 : 0 + (i : Int).toNat * 3 + 0 + 0 < cs3.size := by omega
        refine op_store (v := v) rfl rfl (own_one hO5) Try.sz23 hcs5' hlt0 ?_
        intro w6 C6 B6
        rw [← hpj.2] at C6 B6
        obtain ⟨H6, hp6, hR6, hn6, hU6, hO6⟩ := hRj.setNow hE5 (a := i) hlt hcs5 hsz3 h33 (hO5.low (Nat.le_trans hBw hUj.size)) (fun b q => (hO5.lt q).1) C6 (by simpa using B6)
        obtain ⟨cs6, hcs6, hsz6, h36⟩ := hR6.bg
        have hcp6 : D.n ≤ H6.cap := hR6.cap
        have hlt2 : 0 + (i : Int).toNat * 3 + 2 < cs6.size := by omega
        have hcs6' := hcs6
        rw [hp6.2, hpj.2] at hcs6'
        refine op rfl (r_nilCheck rfl) ?_
        refine op rfl (r_fieldAddr rfl Try.fld75_2 rfl) ?_
        refine op_store (v := .slice none 0 0) rfl rfl rfl Try.sz73 hcs6' hlt2 ?_
        intro w7 C7 B7
        rw [← hpj.2, ← hp6.2] at C7 B7
        have hP7 := hR6.setPend (a := i) (w' := w6) hlt hcs6 hsz6 h36 ⟨rfl, rfl, rfl, Nat.le_refl _, fun _ _ _ => rfl⟩ Own.nil (Or.inl rfl) C7 (by simpa using B7)
        obtain ⟨Hf, hpf0, hRf, hnf, hUf0, hOf0⟩ := Post.trans hp6 hn6 hU6 hO6 hP7
        have hpf : Hf.p = H.p ∧ Hf.g = H.g := ⟨hpf0.1.trans hpj.1, hpf0.2.trans hpj.2⟩
        have hUf : Upd (Off H D.n) w w7 := hUj.trans hUf0 (fun x hx ho => (hOj x hx).1 ho)
        have hOf : OffK H Hf D.n w.heap.size := fun x hx => ⟨fun ho => (hOf0 x (Nat.lt_of_lt_of_le hx hUj.size)).1 ((hOj x hx).1 ho), fun ho => (hOf0 x (Nat.lt_of_lt_of_le hx hUj.size)).2 ((hOj x hx).2 ho)⟩
        generalize hDg : Dk.upd _ i { now := _, lasts := _, pend := [] } = Df at hRf
        have hDf : Df = D.backTo keep (i + 1) := by
          rw [← hDg]
          simp only [upd_same]
          unfold Dk.upd Dk.backTo
          simp only [Dk.mk.injEq, true_and, and_true]
          funext x
          by_cases hx : x = i
          · subst hx; simp [Ar.back, htake]
          · have : (x < i + 1) ↔ (x < i) := by omega
            simp [hx, this]
        refine WL_nil ?_
        refine W_region ?_
        refine op rfl (r_add' rfl rfl (wrap_i64 (by omega) (by omega))) ?_
        refine op rfl (r_moveV (v := .int _ _) rfl) ?_
        refine WL_nil ?_
        refine ⟨?_, by repeat (first | with_reducible exact Out.refl _ _ | with_reducible exact Out.mix | refine Out.put rfl ?_ | refine Out.mixin rfl ?_ | exact Out.refl _ _ | exact Out.mix)⟩
        refine ⟨D.n - (i + 1), by omega, i + 1, _, rfl, by omega, rfl, hpf, ?_, hUf, hOf⟩
        rw [← hDf]; exact hRf
    · obtain rfl : i = D.n := by omega
      refine W_exit (blk_hit ?_)
      refine W_region ?_
      refine op rfl (r_moveV (v := .pointer _) rfl) ?_
      refine op rfl (r_moveV (v := .pointer _) rfl) ?_
      refine op rfl (r_nilCheck rfl) ?_
      refine op rfl (r_fieldAddr rfl Try.fld55_2 rfl) ?_
      refine op_store (v := .bool false) rfl rfl rfl Try.sz4 hbpi (Nat.le_of_ble_eq_true rfl) ?_
      intro w8 C8 B8
      refine op rfl (r_nilCheck rfl) ?_
      refine op rfl (r_fieldAddr rfl Try.fld55_4 rfl) ?_
      refine op_store (v := .bool false) rfl rfl rfl Try.sz4 B8 (Nat.le_of_ble_eq_true rfl) ?_
      intro w9 C9 B9
      rw [← hpi.1] at C8 C9 B9
      rw [← hpi.2] at B9
      have hP9 := hRi.setP (D' := { (D.backTo keep D.n) with armed := false, dead := false }) rfl rfl (C8.trans' C9) B9
      refine WL_nil ?_
      refine fin0 ?_
      exact ⟨_, rfl, Post.trans hpi rfl hUi hOi hP9⟩
end Go.Proofs.Ytlidigdlcjhkfaa
