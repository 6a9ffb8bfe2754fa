/-
  The walks of package disk: New, Append, Cut, Sync.
-/
import Derived.Test.YtlidigdlcjhkfaaFacts
import Derived.Test.YtlidigdlcjhkfaaDiskO
namespace Go.Proofs.Ytlidigdlcjhkfaa
open Go Go.Eng Go.RowKit Go.Proofs
set_option linter.unusedVariables false
set_option linter.unusedSimpArgs false
set_option maxHeartbeats 1000000

theorem made3 {n i k : Nat} (hi : i < n) (hk : k < 3) : (madeCells #[.slice none 0 0, .slice none 0 0, .slice none 0 0] (n * 3))[i * 3 + k]? = some (.slice none 0 0) := by
  unfold madeCells
  rw [Array.getElem?_map, Array.getElem?_range]
  have : i * 3 + k < n * 3 := by omega
  rw [if_pos this]
  simp only [Option.map_some, Option.some.injEq]
  have h3 : (i * 3 + k) % 3 = k := by omega
  show (#[Value.slice none 0 0, Value.slice none 0 0, Value.slice none 0 0])[(i * 3 + k) % 3]! = _
  rw [h3]
  have : k = 0 ∨ k = 1 ∨ k = 2 := by omega
  rcases this with rfl | rfl | rfl <;> rfl
theorem new_spec (areas room : Int) (w : World) : Calls Try.prog 8 #[.int .i64 areas, .int .i64 room] w (fun en w' => ∃ v, en = .returned v ∧ ∃ H, v = dp H ∧ Ext w w' ∧ DR w.heap.size w' H (Dk.new areas room)) := by
  obtain ⟨n, hn⟩ : ∃ n : Nat, max 0 (min areas 8) = (n : Int) := ⟨(max 0 (min areas 8)).toNat, by omega⟩
  obtain ⟨r, hr⟩ : ∃ r : Nat, max 0 (min room 4194304) = (r : Int) := ⟨(max 0 (min room 4194304)).toNat, by omega⟩
  have hD : Dk.new areas room = ⟨n, fun _ => ⟨[], [], []⟩, r, false, 0, false⟩ := by unfold Dk.new; rw [hn, hr]; rfl
  rw [hD]
  have hn8 : n ≤ 8 := by omega
  refine calls' (n := 14) (rs := #[.tmp 4]) (l := [.int .i64 areas, .int .i64 room]) Try.func8 rfl rfl rfl rfl rfl ?_
  refine W_seq ?_
  refine W_region ?_
  refine op rfl (r_assignV (v := .pointer _) rfl) ?_
  refine WL_nil ?_
  refine W_seq ?_
  refine W_region ?_
  refine op rfl (r_moveV (v := .int _ _) rfl) ?_
  refine op rfl (r_min2 rfl rfl) ?_
  refine op rfl ((show _ = Result.ok (Next.value (.int .i64 (n : Int))) _ from by rw [← hn]; exact r_max2 rfl rfl)) ?_
  refine op_newS2 rfl (r_makeSlice rfl rfl Try.underlying53 Try.sz75 Try.by75 Try.zero75 (by omega) (by omega) (by omega)) ?_
  intro w1_3 b1_3 E1_3 B1_3 L1_3
  refine op rfl (r_moveV (v := .int _ _) rfl) ?_
  refine op rfl (r_min2 rfl rfl) ?_
  refine op rfl ((show _ = Result.ok (Next.value (.int .i64 (r : Int))) _ from by rw [← hr]; exact r_max2 rfl rfl)) ?_
  refine op rfl (r_build (cs := [.slice _ _ _, .int _ _, .bool _, .int _ _, .bool _]) Try.lay55 (List.forall_mem_cons.2 ⟨rfl, List.forall_mem_cons.2 ⟨rfl, fun _ h => by cases h⟩⟩) rfl rfl) ?_
  refine op_box (v := .agg _) rfl rfl ?_
  intro w1_8 b1_8 E1_8 B1_8 L1_8
  refine op rfl (r_assignV (v := .pointer _) rfl) ?_
  refine WL_nil ?_
  refine W_ret (finX_ret ?_)
  refine fin1 ?_
  refine ⟨_, rfl, ⟨b1_8, b1_3, fun _ => .slice none 0 0, fun _ => .slice none 0 0, fun _ => .slice none 0 0, n⟩, rfl, E1_3.trans E1_8, ?_⟩
  refine ⟨B1_8, ⟨_, B1_3.ext E1_8, size_madeCells _ _, fun i hi => ⟨?_, made3 hi (by omega), made3 hi (by omega)⟩⟩, fun i hi => Own.nil, fun i hi => Own.nil, fun i hi => Own.nil, ?_, ?_, ?_, Nat.le_refl _⟩
  · have := made3 (n := n) (k := 0) hi (by omega)
    rw [Nat.add_zero] at this
    exact this
  · have := E1_3.size
    have hlt := Blk.lt B1_3
    refine ⟨?_, ?_, ?_⟩ <;> simp only <;> omega
  · intro i hi b hq
    rcases hq with hq | hq <;> cases hq
  · intro i hi b hq
    cases hq
theorem sync_spec {B : Nat} {H : Hd} {D : Dk} {w : World} (h : DR B w H D) {k : Nat} (hw : WF D k) (hk : k ≤ 1073741824) (a : Int) : Calls Try.prog 32 #[dp H, .int .i64 a] w (fun en w' => ∃ v, en = .returned v ∧ v = .int .i64 (D.sync a).2 ∧ Post B H D (D.sync a).1 w w') := by
  have hBw : B ≤ w.heap.size := by have := Blk.lt h.bp; have := h.lo; omega
  have hp1 := hw.p1
  have hp2 := hw.p2
  refine calls' (n := 36) (rs := #[.tmp 4]) (l := [dp H, .int .i64 a]) Try.func32 rfl rfl rfl rfl rfl ?_
  refine W_seq ?_
  refine W_region ?_
  refine op rfl (r_assignV (v := .int _ _) rfl) ?_
  refine WL_nil ?_
  refine W_seq ?_
  refine W_seq ?_
  refine W_region ?_
  refine op rfl (r_moveV (v := .pointer _) rfl) ?_
  refine op rfl (r_moveV (v := .int _ _) rfl) ?_
  refine opCv rfl (r_call Try.func34 Try.nm34 rfl) (may_spec h a) ?_
  rintro v w1 ⟨rfl, hE⟩
  have hR := h.ext hE
  refine op rfl (r_assignV (v := .int _ _) rfl) ?_
  refine WL_nil ?_
  refine W_seq ?_
  refine W_region ?_
  refine op rfl (r_moveV (v := .int _ _) rfl) ?_
  refine op rfl (r_neq rfl rfl) ?_
  refine WL_nil ?_
  refine W_ifp rfl (fun ht11 => ?_) (fun ht11 => ?_)
  · refine W_seq ?_
    refine W_region ?_
    refine op rfl (r_moveV (v := .int _ _) rfl) ?_
    refine op rfl (r_assignV (v := .int _ _) rfl) ?_
    refine WL_nil ?_
    refine W_ret (finX_ret ?_)
    refine fin1 ?_
    exact ⟨_, rfl, by unfold Dk.sync; rw [if_pos ht11] <;> rfl, by unfold Dk.sync; rw [if_pos ht11]; exact (Post.refl h).ext hE⟩
  · have hmay : D.may a = 0 := Classical.byContradiction ht11
    have hth : D.there a := by
      apply Classical.byContradiction
      intro q
      unfold Dk.may at hmay
      rw [if_neg q] at hmay
      cases hmay
    obtain ⟨ha1, ha2⟩ := there_nat hth
    refine W_skip ?_
    refine W_seq ?_
    refine W_seq ?_
    refine W_region ?_
    refine op rfl (r_moveV (v := .pointer _) rfl) ?_
    refine opCv rfl (r_call Try.func36 Try.nm36 rfl) (unit_spec hR (by omega) (by omega)) ?_
    rintro v w2 ⟨rfl, hP⟩
    obtain ⟨H1, ⟨hp, hg⟩, hR1, hn1, hU1, hO1⟩ := hP.pre hE
    have ha3 : a.toNat < D.unit.1.n := by rw [unit_n]; exact ha2
    have hn8 := hw.n8
    refine WL_nil ?_
    refine W_if rfl (fun ht14 => ?_) (fun ht14 => ?_)
    · have hbp := hR1.bp
      rw [hp] at hbp
      obtain ⟨cs, hcs, hsz, h3⟩ := hR1.bg
      obtain ⟨q0, q1, q2⟩ := h3 _ ha3
      obtain ⟨A, c, hv0, hc0, hrow, hcell⟩ := hR1.nowCell ha3
      have hcell' : w2.cell? ⟨H1.g, 0 + a.toNat * 3 + 0 + 0, none⟩ = some (.slice A (D.unit.1.ar a.toNat).now.length c) := by simpa using hcell
      have hln := hw.unit.len _ ha3
      have hcp1 := hR1.cap
      have hlt1 : 0 + a.toNat * 3 + 1 < cs.size := by omega
      refine W_seq ?_
      refine W_region ?_
      refine op rfl (r_moveV (v := .pointer _) rfl) ?_
      refine op rfl (r_nilCheck rfl) ?_
      refine op rfl (r_fieldAddr rfl Try.fld55_0 rfl) ?_
      refine op rfl (r_load (v := .slice (some ⟨H1.g, 0, none⟩) D.unit.1.n H1.cap) rfl Try.underlying53 rfl (Blk.cell hbp rfl)) ?_
      refine op rfl (r_moveV (v := .int _ _) rfl) ?_
      refine op rfl (r_indexAddrN rfl rfl rfl Try.underlying53 Try.sz75 (by omega) (by omega)) ?_
      refine op rfl (r_assignV (v := .pointer (some ⟨H1.g, 0 + a.toNat * 3, none⟩)) rfl) ?_
      refine WL_nil ?_
      refine W_region ?_
      refine op rfl (r_moveV (v := .pointer (some ⟨H1.g, 0 + a.toNat * 3, none⟩)) rfl) ?_
      refine op rfl (r_moveV (v := .pointer (some ⟨H1.g, 0 + a.toNat * 3, none⟩)) rfl) ?_
      refine op rfl (r_moveV (v := .pointer (some ⟨H1.g, 0 + a.toNat * 3, none⟩)) rfl) ?_
      refine op rfl (r_nilCheck rfl) ?_
      refine op rfl (r_fieldAddr rfl Try.fld75_0 rfl) ?_
      refine op rfl (r_fieldAddr rfl Try.fld72_0 rfl) ?_
      refine op rfl (r_load (v := .slice A (D.unit.1.ar a.toNat).now.length c) rfl Try.underlying23 rfl hcell') ?_
      refine opCv rfl (r_call Try.func42 Try.nm42 rfl) (clone_spec (B := w2.heap.size) A c _ w2 (Nat.le_refl _) (by omega) (fun b hb ↦ hb) hrow) ?_
      rintro v w3 ⟨hE3, hO3⟩
      refine op rfl (r_nilCheck rfl) ?_
      refine op rfl (r_fieldAddr rfl Try.fld75_1 rfl) ?_
      refine op_store (v := v) rfl rfl (own_one hO3) Try.sz23 (hcs.ext hE3) hlt1 ?_
      intro w4 C4 B4
      have hBw2 : B ≤ w2.heap.size := Nat.le_trans hBw hU1.size
      obtain ⟨H2, ⟨hp2', hg2⟩, hR2, hn2, hU2, hO2⟩ := hR1.setLasts hE3 ha3 (hcs.ext hE3) hsz h3 (hO3.low hBw2) (fun b q => (hO3.lt q).1) C4 (by simpa using B4)
      obtain ⟨cs2, hcs2, hsz2, h32⟩ := hR2.bg
      have hcp2 := Nat.le_trans (Nat.le_of_eq hn2.symm) hR2.cap
      have hlt2 : 0 + a.toNat * 3 + 2 < cs2.size := by omega
      have hcs2' := hcs2
      rw [hg2] at hcs2'
      refine op rfl (r_nilCheck rfl) ?_
      refine op rfl (r_fieldAddr rfl Try.fld75_2 rfl) ?_
      refine op_store (v := .slice none 0 0) rfl rfl rfl Try.sz73 hcs2' hlt2 ?_
      intro w5 C5 B5
      rw [← hg2] at C5 B5
      have hP5 := hR2.setPend (a := a.toNat) (w' := w4) (by rw [hn2]; exact ha3) hcs2 hsz2 h32 ⟨rfl, rfl, rfl, Nat.le_refl _, fun _ _ _ => rfl⟩ Own.nil (Or.inl rfl) C5 (by simpa using B5)
      have hD5 : (D.unit.1.upd a.toNat { D.unit.1.ar a.toNat with lasts := (D.unit.1.ar a.toNat).now }).upd a.toNat { (D.unit.1.upd a.toNat { D.unit.1.ar a.toNat with lasts := (D.unit.1.ar a.toNat).now }).ar a.toNat with pend := [] } = D.unit.1.synced a.toNat := by
        unfold Dk.synced
        rw [upd_same]
        unfold Dk.upd
        congr 1
        funext i
        by_cases hi : i = a.toNat
        · simp [hi]
        · simp [hi]
      rw [hD5] at hP5
      have hP6 : Post B H D (D.unit.1.synced a.toNat) w w5 := Post.trans ⟨hp, hg⟩ hn1 hU1 hO1 (Post.trans ⟨hp2', hg2⟩ hn2 hU2 hO2 hP5)
      obtain ⟨H3, ⟨hp3, hg3⟩, hR5, hn5, hU5, hO5⟩ := hP6
      have M5 : ∀ x, Calls Try.prog 34 #[dp H, .int .i64 x] w5 (fun en w' => ∃ v, en = .returned v ∧ v = .int .i64 ((D.unit.1.synced a.toNat).may x) ∧ Ext w5 w') := fun x => by
        have := may_spec hR5 x
        unfold dp at this
        rwa [hp3] at this
      refine WL_nil ?_
      refine W_seq ?_
      refine W_region ?_
      refine op rfl (r_moveV (v := .pointer _) rfl) ?_
      refine op rfl (r_moveV (v := .int _ _) rfl) ?_
      refine opCv rfl (r_call Try.func34 Try.nm34 rfl) (M5 a) ?_
      rintro v w6 ⟨rfl, hE6⟩
      refine op rfl (r_assignV (v := .int _ _) rfl) ?_
      refine WL_nil ?_
      refine W_ret (finX_ret ?_)
      refine fin1 ?_
      have e : D.sync a = (D.unit.1.synced a.toNat, (D.unit.1.synced a.toNat).may a) := by unfold Dk.sync; rw [if_neg (fun q => q hmay), if_pos ht14]
      rw [e]
      exact ⟨_, rfl, rfl, Post.ext ⟨H3, ⟨hp3, hg3⟩, hR5, hn5, hU5, hO5⟩ hE6⟩
    · have M5 : ∀ x, Calls Try.prog 34 #[dp H, .int .i64 x] w2 (fun en w' => ∃ v, en = .returned v ∧ v = .int .i64 (D.unit.1.may x) ∧ Ext w2 w') := fun x => by
        have := may_spec hR1 x
        unfold dp at this
        rwa [hp] at this
      refine W_skip ?_
      refine W_seq ?_
      refine W_region ?_
      refine op rfl (r_moveV (v := .pointer _) rfl) ?_
      refine op rfl (r_moveV (v := .int _ _) rfl) ?_
      refine opCv rfl (r_call Try.func34 Try.nm34 rfl) (M5 a) ?_
      rintro v w6 ⟨rfl, hE6⟩
      refine op rfl (r_assignV (v := .int _ _) rfl) ?_
      refine WL_nil ?_
      refine W_ret (finX_ret ?_)
      refine fin1 ?_
      have e : D.sync a = (D.unit.1, D.unit.1.may a) := by unfold Dk.sync; rw [if_neg (fun q => q hmay), if_neg (by rw [ht14]; exact Bool.false_ne_true)]
      rw [e]
      exact ⟨_, rfl, rfl, Post.ext ⟨H1, ⟨hp, hg⟩, hR1, hn1, hU1, hO1⟩ hE6⟩
/-- May, at a disk that is held by another handle. -/
theorem may_at {B : Nat} {H H' : Hd} {D : Dk} {w : World} (h : DR B w H' D) (hp : H'.p = H.p) (x : Int) : Calls Try.prog 34 #[dp H, .int .i64 x] w (fun en w' => ∃ v, en = .returned v ∧ v = .int .i64 (D.may x) ∧ Ext w w') := by
  have := may_spec h x
  unfold dp at this ⊢
  rwa [hp] at this
theorem may_there {D : Dk} {a : Int} (h : D.may a = 0) : D.there a := by
  apply Classical.byContradiction
  intro q
  unfold Dk.may at h
  rw [if_neg q] at h
  cases h
theorem cut_spec {B : Nat} {H : Hd} {D : Dk} {w : World} (h : DR B w H D) {k : Nat} (hw : WF D k) (hk : k ≤ 1073741824) (a n : Int) : Calls Try.prog 30 #[dp H, .int .i64 a, .int .i64 n] w (fun en w' => ∃ v, en = .returned v ∧ v = .int .i64 (D.cut a n).2 ∧ Post B H D (D.cut a n).1 w w') := by
  have hbp := h.bp
  have hp1 := hw.p1
  have hp2 := hw.p2
  have hn8 := hw.n8
  refine calls' (n := 39) (rs := #[.tmp 6]) (l := [dp H, .int .i64 a, .int .i64 n]) Try.func30 rfl rfl rfl rfl rfl ?_
  refine W_seq ?_
  refine W_region ?_
  refine op rfl (r_assignV (v := .int _ _) rfl) ?_
  refine WL_nil ?_
  refine W_seq ?_
  refine W_seq ?_
  refine W_region ?_
  refine op rfl (r_moveV (v := .pointer _) rfl) ?_
  refine op rfl (r_moveV (v := .int _ _) rfl) ?_
  refine opCv rfl (r_call Try.func34 Try.nm34 rfl) (may_spec h a) ?_
  rintro v w1 ⟨rfl, hE⟩
  have hR := h.ext hE
  replace hbp := hbp.ext hE
  refine op rfl (r_assignV (v := .int _ _) rfl) ?_
  refine WL_nil ?_
  refine W_seq ?_
  refine W_region ?_
  refine op rfl (r_moveV (v := .int _ _) rfl) ?_
  refine op rfl (r_neq rfl rfl) ?_
  refine WL_nil ?_
  refine W_ifp rfl (fun ht12 => ?_) (fun ht12 => ?_)
  · refine W_seq ?_
    refine W_region ?_
    refine op rfl (r_moveV (v := .int _ _) rfl) ?_
    refine op rfl (r_assignV (v := .int _ _) rfl) ?_
    refine WL_nil ?_
    refine W_ret (finX_ret ?_)
    refine fin1 ?_
    exact ⟨_, rfl, by unfold Dk.cut; rw [if_pos ht12] <;> rfl, by unfold Dk.cut; rw [if_pos ht12]; exact (Post.refl h).ext hE⟩
  · have hmay : D.may a = 0 := Classical.byContradiction ht12
    obtain ⟨ha1, ha2⟩ := there_nat (may_there hmay)
    obtain ⟨A, c, hv0, hc0, hrow, hcell⟩ := hR.nowCell ha2
    have hcell' : w1.cell? ⟨H.g, 0 + a.toNat * 3 + 0 + 0, none⟩ = some (.slice A (D.ar a.toNat).now.length c) := by simpa using hcell
    have hln := hw.len _ ha2
    refine W_skip ?_
    refine W_seq ?_
    refine W_seq ?_
    refine W_region ?_
    refine op rfl (r_moveV (v := .int _ _) rfl) ?_
    refine op rfl (r_lss rfl rfl) ?_
    refine op_split rfl (r_moveV (v := .bool (decide _)) rfl) (fun hg16 => ?_) (fun hg16 => ?_)
    · refine opG_no rfl rfl rfl rfl rfl ?_
      refine opG_no rfl rfl rfl rfl rfl ?_
      refine opG_no rfl rfl rfl rfl rfl ?_
      refine opG_no rfl rfl rfl rfl rfl ?_
      refine opG_no rfl rfl rfl rfl rfl ?_
      refine opG_no rfl rfl rfl rfl rfl ?_
      refine opG_no rfl rfl rfl rfl rfl ?_
      refine opG_no rfl rfl rfl rfl rfl ?_
      refine opG_no rfl rfl rfl rfl rfl ?_
      refine opG_no rfl rfl rfl rfl rfl ?_
      refine op rfl (r_pickTV (v := .bool _) rfl rfl) ?_
      refine WL_nil ?_
      refine W_then rfl ?_
      refine W_seq ?_
      refine W_region ?_
      refine op rfl (r_assignV (v := .int _ _) rfl) ?_
      refine WL_nil ?_
      refine W_ret (finX_ret ?_)
      refine fin1 ?_
      have e : D.cut a n = (D, 2) := by unfold Dk.cut; rw [if_neg (fun q => q hmay), if_pos (by omega)]
      rw [e]
      first
        | exact ⟨_, rfl, rfl, ((Post.refl h).ext hE).ext hE2⟩
        | exact ⟨_, rfl, rfl, (Post.refl h).ext hE⟩
    · refine opG_yes rfl rfl rfl rfl rfl (r_moveV (v := .int _ _) rfl) ?_
      refine opG_yes rfl rfl rfl rfl rfl (r_moveV (v := .pointer _) rfl) ?_
      refine opG_yes rfl rfl rfl rfl rfl (r_nilCheck rfl) ?_
      refine opG_yes rfl rfl rfl rfl rfl (r_fieldAddr rfl Try.fld55_0 rfl) ?_
      refine opG_yes rfl rfl rfl rfl rfl (r_load (v := .slice (some ⟨H.g, 0, none⟩) D.n H.cap) rfl Try.underlying53 rfl (Blk.cell hbp rfl)) ?_
      refine opG_yes rfl rfl rfl rfl rfl (r_moveV (v := .int _ _) rfl) ?_
      refine opG_yes rfl rfl rfl rfl rfl (r_indexAddrN rfl rfl rfl Try.underlying53 Try.sz75 (by omega) (by omega)) ?_
      refine opG_yes rfl rfl rfl rfl rfl (r_fieldAddr rfl Try.fld75_0 rfl) ?_
      refine opGCv_yes rfl rfl rfl rfl rfl (r_call Try.func47 Try.nm47 rfl) (size_spec hcell') ?_
      rintro v w2 ⟨rfl, hE2⟩
      refine opG_yes rfl rfl rfl rfl rfl (r_gtr rfl rfl) ?_
      refine op rfl (r_pickFV (v := .bool _) rfl rfl) ?_
      refine WL_nil ?_
      refine W_ifp rfl (fun ht27 => ?_) (fun ht27 => ?_)
      · refine W_seq ?_
        refine W_region ?_
        refine op rfl (r_assignV (v := .int _ _) rfl) ?_
        refine WL_nil ?_
        refine W_ret (finX_ret ?_)
        refine fin1 ?_
        first
          | (have e : D.cut a n = (D, 2) := by unfold Dk.cut; rw [if_neg (fun q => q hmay), if_pos (by omega)]
             rw [e]
             first
               | exact ⟨_, rfl, rfl, ((Post.refl h).ext hE).ext hE2⟩
               | exact ⟨_, rfl, rfl, (Post.refl h).ext hE⟩)
          | (have e : D.cut a n = (D.unit.1.put a.toNat (.cut n.toNat), (D.unit.1.put a.toNat (.cut n.toNat)).may a) := by unfold Dk.cut; rw [if_neg (fun q => q hmay), if_neg (by omega), if_pos ht29]
             rw [e]
             exact ⟨_, rfl, rfl, Post.ext ⟨H2, ⟨hp2', hg2⟩, hR2, hn2, hU2, hO2⟩ hE6⟩)
      · refine W_skip ?_
        refine W_seq ?_
        refine W_seq ?_
        refine W_region ?_
        refine op rfl (r_moveV (v := .pointer _) rfl) ?_
        refine opCv rfl (r_call Try.func36 Try.nm36 rfl) (unit_spec (hR.ext hE2) (by omega) (by omega)) ?_
        rintro v w3 ⟨rfl, hP⟩
        obtain ⟨H1, ⟨hp, hg⟩, hR1, hn1, hU1, hO1⟩ := (hP.pre hE2).pre hE
        have ha3 : a.toNat < D.unit.1.n := by rw [unit_n]; exact ha2
        have hln1 := hw.unit.len _ ha3
        have hnc : n.toNat ≤ (D.unit.1.ar a.toNat).now.length := by rw [unit_ar]; omega
        have PC : Calls Try.prog 37 #[dp H, .int .i64 a, .iface 87 (.agg #[.int .i64 n])] w3 (fun en w' => ∃ v, en = .returned v ∧ Post B H1 D.unit.1 (D.unit.1.put a.toNat (.cut n.toNat)) w3 w') := by
          have := putC_spec hR1 a.toNat ha3 n.toNat (by rw [unit_n]; exact hn8) (by omega) (by omega) hnc
          unfold dp at this ⊢
          rw [hp, ha1] at this
          have e : St.val (.cut n.toNat) = .iface 87 (.agg #[.int .i64 n]) := by
            show Value.iface 87 (.agg #[.int .i64 ((n.toNat : Nat) : Int)]) = _
            rw [show ((n.toNat : Nat) : Int) = n by omega]
          rwa [e] at this
        refine WL_nil ?_
        refine W_if rfl (fun ht29 => ?_) (fun ht29 => ?_)
        · refine W_region ?_
          refine op rfl (r_moveV (v := .pointer _) rfl) ?_
          refine op rfl (r_moveV (v := .int _ _) rfl) ?_
          refine op rfl (r_moveV (v := .int _ _) rfl) ?_
          refine op rfl (r_build (cs := [.int _ _]) Try.lay87 (List.forall_mem_cons.2 ⟨rfl, fun _ h => by cases h⟩) rfl rfl) ?_
          refine op rfl (r_makeIface (v := .agg _) rfl Try.underlying87 rfl) ?_
          refine opCv rfl (r_call Try.func37 Try.nm37 rfl) (PC) ?_
          rintro v w4 hP4
          obtain ⟨H2, ⟨hp2', hg2⟩, hR2, hn2, hU2, hO2⟩ := Post.trans ⟨hp, hg⟩ hn1 hU1 hO1 hP4
          have M5 := may_at hR2 hp2' a
          refine WL_nil ?_
          refine W_seq ?_
          refine W_region ?_
          refine op rfl (r_moveV (v := .pointer _) rfl) ?_
          refine op rfl (r_moveV (v := .int _ _) rfl) ?_
          refine opCv rfl (r_call Try.func34 Try.nm34 rfl) (M5) ?_
          rintro v w6 ⟨rfl, hE6⟩
          refine op rfl (r_assignV (v := .int _ _) rfl) ?_
          refine WL_nil ?_
          refine W_ret (finX_ret ?_)
          refine fin1 ?_
          first
            | (have e : D.cut a n = (D.unit.1.put a.toNat (.cut n.toNat), (D.unit.1.put a.toNat (.cut n.toNat)).may a) := by unfold Dk.cut; rw [if_neg (fun q => q hmay), if_neg (by omega), if_pos ht29]
               rw [e]
               exact ⟨_, rfl, rfl, Post.ext ⟨H2, ⟨hp2', hg2⟩, hR2, hn2, hU2, hO2⟩ hE6⟩)
            | (have e : D.cut a n = (D.unit.1, D.unit.1.may a) := by unfold Dk.cut; rw [if_neg (fun q => q hmay), if_neg (by omega), if_neg (by rw [ht29]; exact Bool.false_ne_true)]
               rw [e]
               exact ⟨_, rfl, rfl, Post.ext ⟨H1, ⟨hp, hg⟩, hR1, hn1, hU1, hO1⟩ hE6⟩)
        · have M5 := may_at hR1 hp a
          refine W_skip ?_
          refine W_seq ?_
          refine W_region ?_
          refine op rfl (r_moveV (v := .pointer _) rfl) ?_
          refine op rfl (r_moveV (v := .int _ _) rfl) ?_
          refine opCv rfl (r_call Try.func34 Try.nm34 rfl) (M5) ?_
          rintro v w6 ⟨rfl, hE6⟩
          refine op rfl (r_assignV (v := .int _ _) rfl) ?_
          refine WL_nil ?_
          refine W_ret (finX_ret ?_)
          refine fin1 ?_
          first
            | (have e : D.cut a n = (D.unit.1.put a.toNat (.cut n.toNat), (D.unit.1.put a.toNat (.cut n.toNat)).may a) := by unfold Dk.cut; rw [if_neg (fun q => q hmay), if_neg (by omega), if_pos ht29]
               rw [e]
               exact ⟨_, rfl, rfl, Post.ext ⟨H2, ⟨hp2', hg2⟩, hR2, hn2, hU2, hO2⟩ hE6⟩)
            | (have e : D.cut a n = (D.unit.1, D.unit.1.may a) := by unfold Dk.cut; rw [if_neg (fun q => q hmay), if_neg (by omega), if_neg (by rw [ht29]; exact Bool.false_ne_true)]
               rw [e]
               exact ⟨_, rfl, rfl, Post.ext ⟨H1, ⟨hp, hg⟩, hR1, hn1, hU1, hO1⟩ hE6⟩)
theorem unit_at {B : Nat} {H H' : Hd} {D : Dk} {w : World} (h : DR B w H' D) (hp : H'.p = H.p) (h1 : -1152921504606846976 ≤ D.power) (h2 : D.power ≤ 1152921504606846976) : Calls Try.prog 36 #[dp H] w (fun en w' => ∃ v, en = .returned v ∧ v = .bool D.unit.2 ∧ Post B H' D D.unit.1 w w') := by
  have := unit_spec h h1 h2
  unfold dp at this ⊢
  rwa [hp] at this
theorem append_spec {B : Nat} {H : Hd} {D : Dk} {w : World} (h : DR B w H D) {k : Nat} (hw : WF D k) (hk : k ≤ 536870912) (a : Int) (A : Option Addr) (c : Nat) (b : List UInt8) (hbl : b.length ≤ 140737488355328) {F : Nat → Prop} (hF : ∀ x, F x → x < w.heap.size ∧ Off H D.n x) (hA : Ty.byte.Row w F A b) :
    Calls Try.prog 11 #[dp H, .int .i64 a, .slice A b.length c] w (fun en w' => ∃ v, en = .returned v ∧ v = .int .i64 (D.append a b).2 ∧ Post B H D (D.append a b).1 w w') := by
  have hbp := h.bp
  have hn8 := hw.n8
  have hroom := hw.room
  have huse := hw.used
  refine calls' (n := 45) (rs := #[.tmp 6]) (l := [dp H, .int .i64 a, .slice A b.length c]) Try.func11 rfl rfl rfl rfl rfl ?_
  refine W_seq ?_
  refine W_region ?_
  refine op rfl (r_assignV (v := .int _ _) rfl) ?_
  refine WL_nil ?_
  refine W_scope ?_
  refine W_seq ?_
  refine W_seq ?_
  refine W_region ?_
  refine op rfl (r_moveV (v := .pointer _) rfl) ?_
  refine op rfl (r_moveV (v := .int _ _) rfl) ?_
  refine opCv rfl (r_call Try.func34 Try.nm34 rfl) (may_spec h a) ?_
  rintro v w1 ⟨rfl, hE⟩
  have hR := h.ext hE
  replace hbp := hbp.ext hE
  refine op rfl (r_assignV (v := .int _ _) rfl) ?_
  refine WL_nil ?_
  refine W_seq ?_
  refine W_region ?_
  refine op rfl (r_moveV (v := .int _ _) rfl) ?_
  refine op rfl (r_neq rfl rfl) ?_
  refine WL_nil ?_
  refine W_ifp rfl (fun ht14 => ?_) (fun ht14 => ?_)
  · refine W_seq ?_
    refine W_region ?_
    refine op rfl (r_moveV (v := .int _ _) rfl) ?_
    refine op rfl (r_assignV (v := .int _ _) rfl) ?_
    refine WL_nil ?_
    refine W_ret (scp_ret (finX_ret ?_))
    refine fin1 ?_
    exact ⟨_, rfl, by unfold Dk.append; rw [if_pos ht14] <;> rfl, by unfold Dk.append; rw [if_pos ht14]; exact (Post.refl h).ext hE⟩
  · have hmay : D.may a = 0 := Classical.byContradiction ht14
    obtain ⟨ha1, ha2⟩ := there_nat (may_there hmay)
    refine W_skip ?_
    refine W_seq ?_
    refine W_seq ?_
    refine W_drawA Try.wd rfl ?_
    intro wd4 hD
    have hS : anyW wd4 := trivial
    refine A_take (i := 0) rfl (by kernel_rfl) (by kernel_rfl) (by kernel_rfl) rfl hS (fun _ hw => r_moveV (v := .pointer _) rfl) ?_
    refine A_take (i := 2) rfl (by kernel_rfl) (by kernel_rfl) (by kernel_rfl) rfl hS (fun _ hw => r_moveV (v := .slice _ _ _) rfl) ?_
    refine A_take (i := 3) rfl (by kernel_rfl) (by kernel_rfl) (by kernel_rfl) rfl hS (fun _ hw => r_len_slice rfl Try.underlying23) ?_
    refine A_take (i := 5) rfl (by kernel_rfl) (by kernel_rfl) (by kernel_rfl) rfl hS (fun _ hw => r_moveV (v := .pointer _) rfl) ?_
    refine A_take (i := 6) rfl (by kernel_rfl) (by kernel_rfl) (by kernel_rfl) rfl hS (fun _ hw => r_nilCheck rfl) ?_
    refine A_take (i := 7) rfl (by kernel_rfl) (by kernel_rfl) (by kernel_rfl) rfl hS (fun _ hw => r_fieldAddr rfl Try.fld55_1 rfl) ?_
    refine A_ready2 (i := 1) (j := 8) (by kernel_rfl) ?_ ?_
    · refine O_call rfl rfl (r_call Try.func35 Try.nm35 rfl) (used_spec (hR.ext hD) hw (by omega)) ?_
      rintro v w2 ⟨rfl, hE2⟩
      replace hS := trivial
      refine ⟨hS, ?_⟩
      refine A_take (i := 4) rfl (by kernel_rfl) (by kernel_rfl) (by kernel_rfl) rfl hS (fun _ hw => r_add' rfl rfl (wrap_i64 (by omega) (by omega))) ?_
      refine A_ready1 (i := 8) (by kernel_rfl) ?_
      first
        | (have hbp4 := (hbp.ext hD).ext hE2)
        | (have hbp4 := hbp.ext hD)
      refine O_val rfl rfl (r_load (v := .int .i64 D.room) rfl Try.underlying3 rfl (Blk.cell hbp4 rfl)) (hS) ?_
      refine A_take (i := 9) rfl (by kernel_rfl) (by kernel_rfl) (by kernel_rfl) rfl hS (fun _ hw => r_gtr rfl rfl) ?_
      refine A_done (by kernel_rfl) ?_
      refine W_ifp rfl (fun ht25 => ?_) (fun ht25 => ?_)
      · refine W_seq ?_
        refine W_region ?_
        refine op rfl (r_assignV (v := .int _ _) rfl) ?_
        refine WL_nil ?_
        refine W_ret (scp_ret (finX_ret ?_))
        refine fin1 ?_
        first
          | (rw [hgo]
             exact ⟨_, rfl, rfl, Post.ext ⟨_, hp2, hRf, hn2, hU2, hO2⟩ hE6⟩)
          | (have e : D.append a b = (D, 8) := by unfold Dk.append; rw [if_neg (fun q => q hmay), if_pos (by omega)]
             rw [e]
             exact ⟨_, rfl, rfl, (((Post.refl h).ext hE).ext hD).ext hE2⟩)
      · have hX2 := (hE.trans hD).trans hE2
        have hR2 := (hR.ext hD).ext hE2
        have hgo : D.append a b = (D.grow a.toNat b, (D.grow a.toNat b).may a) := by unfold Dk.append; rw [if_neg (fun q => q hmay), if_neg (by omega)]
        refine W_skip ?_
        refine W_seq ?_
        refine W_label ?_
        refine W_seq ?_
        refine W_seq ?_
        refine W_region ?_
        refine op rfl (r_moveV (v := .slice _ _ _) rfl) ?_
        refine op rfl (r_len_slice rfl Try.underlying23) ?_
        refine op rfl (r_moveV (v := .int _ _) rfl) ?_
        refine WL_nil ?_
        refine W_block ?_
        refine W_loop [9, 28, 29, 30, 31, 32, 33, 34, 35, 36, 37, 38, 39, 40, 41] (fun q e' w' => ∃ (j : Nat) (Hj : Hd) (Dj : Dk), q = b.length - j ∧ j ≤ b.length ∧ e' 28 = .int .i64 j ∧ D.grow a.toNat b = Dj.grow a.toNat (b.drop j) ∧ WF Dj (k + 2 * j) ∧ (Hj.p = H.p ∧ Hj.g = H.g) ∧ DR B w' Hj Dj ∧ Dj.n = D.n ∧ Upd (Off H D.n) w w' ∧ OffK H Hj D.n w.heap.size) (b.length) ?_ ?_
        · exact ⟨0, H, D, by omega, by omega, rfl, by rw [List.drop_zero], hw.mono (by omega), ⟨rfl, rfl⟩, hR2, rfl, Upd.of_ext hX2, OffK.refl _ _ _⟩
        intro k g w' hI
        obtain ⟨j, Hj, Dj, hq, hj, h28, hgr, hwj, hpj, hRj, hnj, hUj, hOj⟩ := hI
        have hpj1 := hwj.p1
        have hpj2 := hwj.p2
        have hb4 : b.length ≤ 4194304 := by omega
        refine W_set (i := 28) h28 ?_
        refine W_seq ?_
        refine W_region ?_
        refine op rfl (r_lss rfl rfl) ?_
        refine WL_nil ?_
        refine W_seq ?_
        refine W_ifp rfl (fun ht29 => ?_) (fun ht29 => ?_)
        · have hlt : j < b.length := by omega
          obtain ⟨ga, oa, hAe, hga, _, hcell⟩ := Ty.Row.cell (hA.keep (fun x hx => hUj.block x (hF x hx).1 (hF x hx).2) (fun _ h => h) : Ty.byte.Row w' F A b) hlt
          refine W_skip ?_
          refine W_seq ?_
          refine W_block ?_
          refine W_seq ?_
          refine W_region ?_
          refine op rfl (r_indexAddr1 rfl rfl hAe Try.underlying23 Try.sz5 (by omega) (by omega)) ?_
          refine op rfl (r_load rfl Try.underlying5 rfl hcell) ?_
          refine op rfl (r_assignV (v := .int _ _) rfl) ?_
          refine WL_nil ?_
          refine W_seq ?_
          refine W_seq ?_
          refine W_region ?_
          refine op rfl (r_moveV (v := .pointer _) rfl) ?_
          refine opCv rfl (r_call Try.func36 Try.nm36 rfl) (unit_at hRj hpj.1 (by omega) (by omega)) ?_
          rintro v w3 ⟨rfl, hP⟩
          obtain ⟨H1, hp1', hR1, hn1, hU1, hO1⟩ := hP
          refine op rfl (r_notB (b := Dj.unit.2) rfl) ?_
          refine WL_nil ?_
          refine W_if rfl (fun ht34 => ?_) (fun ht34 => ?_)
          · have hut : Dj.unit.2 = false := by simpa using ht34
            have hgf : D.grow a.toNat b = Dj.unit.1 := by
              rw [hgr, List.drop_eq_getElem_cons hlt]
              show (if Dj.unit.2 = true then _ else _) = _
              rw [if_neg (by rw [hut]; exact Bool.false_ne_true)]
            obtain ⟨H2, hp2, hRf, hn2, hU2, hO2⟩ := Post.trans hpj hnj hUj hOj ⟨H1, hp1', hR1, hn1, hU1, hO1⟩
            rw [← hgf] at hRf hn2
            have M5 := may_at hRf hp2.1 a
            refine W_exit (blk_miss rfl (blk_hit ?_))
            refine W_seq ?_
            refine W_region ?_
            refine op rfl (r_moveV (v := .pointer _) rfl) ?_
            refine op rfl (r_moveV (v := .int _ _) rfl) ?_
            refine opCv rfl (r_call Try.func34 Try.nm34 rfl) (M5) ?_
            rintro v w6 ⟨rfl, hE6⟩
            refine op rfl (r_assignV (v := .int _ _) rfl) ?_
            refine WL_nil ?_
            refine W_ret (scp_ret (finX_ret ?_))
            refine fin1 ?_
            first
              | (rw [hgo]
                 exact ⟨_, rfl, rfl, Post.ext ⟨_, hp2, hRf, hn2, hU2, hO2⟩ hE6⟩)
              | (have e : D.append a b = (D, 8) := by unfold Dk.append; rw [if_neg (fun q => q hmay), if_pos (by omega)]
                 rw [e]
                 exact ⟨_, rfl, rfl, (((Post.refl h).ext hE).ext hD).ext hE2⟩)
          · have hut : Dj.unit.2 = true := by simpa using ht34
            have ha3 : a.toNat < Dj.unit.1.n := by rw [unit_n, hnj]; exact ha2
            have hln1 := hwj.unit.len _ ha3
            have PG : Calls Try.prog 37 #[dp H, .int .i64 a, St.val (.grow b[j])] w3 (fun en w' => ∃ v, en = .returned v ∧ Post B H1 Dj.unit.1 (Dj.unit.1.put a.toNat (.grow b[j])) w3 w') := by
              have := putG_spec hR1 a.toNat ha3 b[j] (by rw [unit_n, hnj]; exact hn8) (by omega) (by omega)
              unfold dp at this ⊢
              rwa [hp1'.1, hpj.1, ha1] at this
            refine W_skip ?_
            refine W_region ?_
            refine op rfl (r_moveV (v := .pointer _) rfl) ?_
            refine op rfl (r_moveV (v := .int _ _) rfl) ?_
            refine op rfl (r_moveV (v := .int _ _) rfl) ?_
            refine op rfl (r_build (cs := [.int _ _]) Try.lay69 (List.forall_mem_cons.2 ⟨rfl, fun _ h => by cases h⟩) rfl rfl) ?_
            refine op rfl (r_makeIface (v := .agg _) rfl Try.underlying69 rfl) ?_
            refine opCv rfl (r_call Try.func37 Try.nm37 rfl) (PG) ?_
            rintro v w4 hP4
            refine WL_nil ?_
            refine W_region ?_
            refine op rfl (r_add' rfl rfl (wrap_i64 (by omega) (by omega))) ?_
            refine op rfl (r_moveV (v := .int _ _) rfl) ?_
            refine WL_nil ?_
            refine ⟨?_, by repeat (first | with_reducible exact Out.refl _ _ | with_reducible exact Out.mix | refine Out.put rfl ?_ | refine Out.mixin rfl ?_ | exact Out.refl _ _ | exact Out.mix)⟩
            obtain ⟨H2, hp2, hR2', hn2, hU2, hO2⟩ := Post.trans hpj hnj hUj hOj (Post.trans hp1' hn1 hU1 hO1 hP4)
            refine ⟨b.length - (j + 1), by omega, j + 1, H2, _, rfl, by omega, rfl, ?_, ((hwj.unit.put (s := .grow b[j]) (a := a.toNat) (by rw [unit_n, hnj]; exact ha2) trivial).mono (by omega)), hp2, hR2', hn2, hU2, hO2⟩
            rw [hgr, List.drop_eq_getElem_cons hlt]
            show (if Dj.unit.2 = true then _ else _) = _
            rw [if_pos hut]
        · obtain rfl : j = b.length := by omega
          have hgf : D.grow a.toNat b = Dj := by rw [hgr, List.drop_of_length_le (Nat.le_refl _)]; rfl
          have hRf := hRj
          have hn2 := hnj
          have hp2 := hpj
          have hU2 := hUj
          have hO2 := hOj
          rw [← hgf] at hRf hn2
          have M5 := may_at hRf hp2.1 a
          refine W_exit (blk_hit ?_)
          refine W_seq ?_
          refine W_region ?_
          refine op rfl (r_moveV (v := .pointer _) rfl) ?_
          refine op rfl (r_moveV (v := .int _ _) rfl) ?_
          refine opCv rfl (r_call Try.func34 Try.nm34 rfl) (M5) ?_
          rintro v w6 ⟨rfl, hE6⟩
          refine op rfl (r_assignV (v := .int _ _) rfl) ?_
          refine WL_nil ?_
          refine W_ret (scp_ret (finX_ret ?_))
          refine fin1 ?_
          first
            | (rw [hgo]
               exact ⟨_, rfl, rfl, Post.ext ⟨_, hp2, hRf, hn2, hU2, hO2⟩ hE6⟩)
            | (have e : D.append a b = (D, 8) := by unfold Dk.append; rw [if_neg (fun q => q hmay), if_pos (by omega)]
               rw [e]
               exact ⟨_, rfl, rfl, (((Post.refl h).ext hE).ext hD).ext hE2⟩)
    · first
        | (have hbp4 := (hbp.ext hD).ext hE2)
        | (have hbp4 := hbp.ext hD)
      refine O_val rfl rfl (r_load (v := .int .i64 D.room) rfl Try.underlying3 rfl (Blk.cell hbp4 rfl)) (hS) ?_
      refine A_ready1 (i := 1) (by kernel_rfl) ?_
      refine O_call rfl rfl (r_call Try.func35 Try.nm35 rfl) (used_spec (hR.ext hD) hw (by omega)) ?_
      rintro v w2 ⟨rfl, hE2⟩
      replace hS := trivial
      refine ⟨hS, ?_⟩
      refine A_take (i := 4) rfl (by kernel_rfl) (by kernel_rfl) (by kernel_rfl) rfl hS (fun _ hw => r_add' rfl rfl (wrap_i64 (by omega) (by omega))) ?_
      refine A_take (i := 9) rfl (by kernel_rfl) (by kernel_rfl) (by kernel_rfl) rfl hS (fun _ hw => r_gtr rfl rfl) ?_
      refine A_done (by kernel_rfl) ?_
      refine W_ifp rfl (fun ht25 => ?_) (fun ht25 => ?_)
      · refine W_seq ?_
        refine W_region ?_
        refine op rfl (r_assignV (v := .int _ _) rfl) ?_
        refine WL_nil ?_
        refine W_ret (scp_ret (finX_ret ?_))
        refine fin1 ?_
        first
          | (rw [hgo]
             exact ⟨_, rfl, rfl, Post.ext ⟨_, hp2, hRf, hn2, hU2, hO2⟩ hE6⟩)
          | (have e : D.append a b = (D, 8) := by unfold Dk.append; rw [if_neg (fun q => q hmay), if_pos (by omega)]
             rw [e]
             exact ⟨_, rfl, rfl, (((Post.refl h).ext hE).ext hD).ext hE2⟩)
      · have hX2 := (hE.trans hD).trans hE2
        have hR2 := (hR.ext hD).ext hE2
        have hgo : D.append a b = (D.grow a.toNat b, (D.grow a.toNat b).may a) := by unfold Dk.append; rw [if_neg (fun q => q hmay), if_neg (by omega)]
        refine W_skip ?_
        refine W_seq ?_
        refine W_label ?_
        refine W_seq ?_
        refine W_seq ?_
        refine W_region ?_
        refine op rfl (r_moveV (v := .slice _ _ _) rfl) ?_
        refine op rfl (r_len_slice rfl Try.underlying23) ?_
        refine op rfl (r_moveV (v := .int _ _) rfl) ?_
        refine WL_nil ?_
        refine W_block ?_
        refine W_loop [9, 28, 29, 30, 31, 32, 33, 34, 35, 36, 37, 38, 39, 40, 41] (fun q e' w' => ∃ (j : Nat) (Hj : Hd) (Dj : Dk), q = b.length - j ∧ j ≤ b.length ∧ e' 28 = .int .i64 j ∧ D.grow a.toNat b = Dj.grow a.toNat (b.drop j) ∧ WF Dj (k + 2 * j) ∧ (Hj.p = H.p ∧ Hj.g = H.g) ∧ DR B w' Hj Dj ∧ Dj.n = D.n ∧ Upd (Off H D.n) w w' ∧ OffK H Hj D.n w.heap.size) (b.length) ?_ ?_
        · exact ⟨0, H, D, by omega, by omega, rfl, by rw [List.drop_zero], hw.mono (by omega), ⟨rfl, rfl⟩, hR2, rfl, Upd.of_ext hX2, OffK.refl _ _ _⟩
        intro k g w' hI
        obtain ⟨j, Hj, Dj, hq, hj, h28, hgr, hwj, hpj, hRj, hnj, hUj, hOj⟩ := hI
        have hpj1 := hwj.p1
        have hpj2 := hwj.p2
        have hb4 : b.length ≤ 4194304 := by omega
        refine W_set (i := 28) h28 ?_
        refine W_seq ?_
        refine W_region ?_
        refine op rfl (r_lss rfl rfl) ?_
        refine WL_nil ?_
        refine W_seq ?_
        refine W_ifp rfl (fun ht29 => ?_) (fun ht29 => ?_)
        · have hlt : j < b.length := by omega
          obtain ⟨ga, oa, hAe, hga, _, hcell⟩ := Ty.Row.cell (hA.keep (fun x hx => hUj.block x (hF x hx).1 (hF x hx).2) (fun _ h => h) : Ty.byte.Row w' F A b) hlt
          refine W_skip ?_
          refine W_seq ?_
          refine W_block ?_
          refine W_seq ?_
          refine W_region ?_
          refine op rfl (r_indexAddr1 rfl rfl hAe Try.underlying23 Try.sz5 (by omega) (by omega)) ?_
          refine op rfl (r_load rfl Try.underlying5 rfl hcell) ?_
          refine op rfl (r_assignV (v := .int _ _) rfl) ?_
          refine WL_nil ?_
          refine W_seq ?_
          refine W_seq ?_
          refine W_region ?_
          refine op rfl (r_moveV (v := .pointer _) rfl) ?_
          refine opCv rfl (r_call Try.func36 Try.nm36 rfl) (unit_at hRj hpj.1 (by omega) (by omega)) ?_
          rintro v w3 ⟨rfl, hP⟩
          obtain ⟨H1, hp1', hR1, hn1, hU1, hO1⟩ := hP
          refine op rfl (r_notB (b := Dj.unit.2) rfl) ?_
          refine WL_nil ?_
          refine W_if rfl (fun ht34 => ?_) (fun ht34 => ?_)
          · have hut : Dj.unit.2 = false := by simpa using ht34
            have hgf : D.grow a.toNat b = Dj.unit.1 := by
              rw [hgr, List.drop_eq_getElem_cons hlt]
              show (if Dj.unit.2 = true then _ else _) = _
              rw [if_neg (by rw [hut]; exact Bool.false_ne_true)]
            obtain ⟨H2, hp2, hRf, hn2, hU2, hO2⟩ := Post.trans hpj hnj hUj hOj ⟨H1, hp1', hR1, hn1, hU1, hO1⟩
            rw [← hgf] at hRf hn2
            have M5 := may_at hRf hp2.1 a
            refine W_exit (blk_miss rfl (blk_hit ?_))
            refine W_seq ?_
            refine W_region ?_
            refine op rfl (r_moveV (v := .pointer _) rfl) ?_
            refine op rfl (r_moveV (v := .int _ _) rfl) ?_
            refine opCv rfl (r_call Try.func34 Try.nm34 rfl) (M5) ?_
            rintro v w6 ⟨rfl, hE6⟩
            refine op rfl (r_assignV (v := .int _ _) rfl) ?_
            refine WL_nil ?_
            refine W_ret (scp_ret (finX_ret ?_))
            refine fin1 ?_
            first
              | (rw [hgo]
                 exact ⟨_, rfl, rfl, Post.ext ⟨_, hp2, hRf, hn2, hU2, hO2⟩ hE6⟩)
              | (have e : D.append a b = (D, 8) := by unfold Dk.append; rw [if_neg (fun q => q hmay), if_pos (by omega)]
                 rw [e]
                 exact ⟨_, rfl, rfl, (((Post.refl h).ext hE).ext hD).ext hE2⟩)
          · have hut : Dj.unit.2 = true := by simpa using ht34
            have ha3 : a.toNat < Dj.unit.1.n := by rw [unit_n, hnj]; exact ha2
            have hln1 := hwj.unit.len _ ha3
            have PG : Calls Try.prog 37 #[dp H, .int .i64 a, St.val (.grow b[j])] w3 (fun en w' => ∃ v, en = .returned v ∧ Post B H1 Dj.unit.1 (Dj.unit.1.put a.toNat (.grow b[j])) w3 w') := by
              have := putG_spec hR1 a.toNat ha3 b[j] (by rw [unit_n, hnj]; exact hn8) (by omega) (by omega)
              unfold dp at this ⊢
              rwa [hp1'.1, hpj.1, ha1] at this
            refine W_skip ?_
            refine W_region ?_
            refine op rfl (r_moveV (v := .pointer _) rfl) ?_
            refine op rfl (r_moveV (v := .int _ _) rfl) ?_
            refine op rfl (r_moveV (v := .int _ _) rfl) ?_
            refine op rfl (r_build (cs := [.int _ _]) Try.lay69 (List.forall_mem_cons.2 ⟨rfl, fun _ h => by cases h⟩) rfl rfl) ?_
            refine op rfl (r_makeIface (v := .agg _) rfl Try.underlying69 rfl) ?_
            refine opCv rfl (r_call Try.func37 Try.nm37 rfl) (PG) ?_
            rintro v w4 hP4
            refine WL_nil ?_
            refine W_region ?_
            refine op rfl (r_add' rfl rfl (wrap_i64 (by omega) (by omega))) ?_
            refine op rfl (r_moveV (v := .int _ _) rfl) ?_
            refine WL_nil ?_
            refine ⟨?_, by repeat (first | with_reducible exact Out.refl _ _ | with_reducible exact Out.mix | refine Out.put rfl ?_ | refine Out.mixin rfl ?_ | exact Out.refl _ _ | exact Out.mix)⟩
            obtain ⟨H2, hp2, hR2', hn2, hU2, hO2⟩ := Post.trans hpj hnj hUj hOj (Post.trans hp1' hn1 hU1 hO1 hP4)
            refine ⟨b.length - (j + 1), by omega, j + 1, H2, _, rfl, by omega, rfl, ?_, ((hwj.unit.put (s := .grow b[j]) (a := a.toNat) (by rw [unit_n, hnj]; exact ha2) trivial).mono (by omega)), hp2, hR2', hn2, hU2, hO2⟩
            rw [hgr, List.drop_eq_getElem_cons hlt]
            show (if Dj.unit.2 = true then _ else _) = _
            rw [if_pos hut]
        · obtain rfl : j = b.length := by omega
          have hgf : D.grow a.toNat b = Dj := by rw [hgr, List.drop_of_length_le (Nat.le_refl _)]; rfl
          have hRf := hRj
          have hn2 := hnj
          have hp2 := hpj
          have hU2 := hUj
          have hO2 := hOj
          rw [← hgf] at hRf hn2
          have M5 := may_at hRf hp2.1 a
          refine W_exit (blk_hit ?_)
          refine W_seq ?_
          refine W_region ?_
          refine op rfl (r_moveV (v := .pointer _) rfl) ?_
          refine op rfl (r_moveV (v := .int _ _) rfl) ?_
          refine opCv rfl (r_call Try.func34 Try.nm34 rfl) (M5) ?_
          rintro v w6 ⟨rfl, hE6⟩
          refine op rfl (r_assignV (v := .int _ _) rfl) ?_
          refine WL_nil ?_
          refine W_ret (scp_ret (finX_ret ?_))
          refine fin1 ?_
          first
            | (rw [hgo]
               exact ⟨_, rfl, rfl, Post.ext ⟨_, hp2, hRf, hn2, hU2, hO2⟩ hE6⟩)
            | (have e : D.append a b = (D, 8) := by unfold Dk.append; rw [if_neg (fun q => q hmay), if_pos (by omega)]
               rw [e]
               exact ⟨_, rfl, rfl, (((Post.refl h).ext hE).ext hD).ext hE2⟩)
end Go.Proofs.Ytlidigdlcjhkfaa
