/-
  The walks of package disk: Copy.
-/
import Derived.Test.YtlidigdlcjhkfaaFacts
import Derived.Test.YtlidigdlcjhkfaaDiskF
namespace Go.Proofs.Ytlidigdlcjhkfaa
open Go Go.Eng Go.RowKit Go.Proofs
set_option linter.unusedVariables false
set_option linter.unusedSimpArgs false
set_option maxHeartbeats 2000000

theorem cloneSt_spec (A : Option Addr) (c : Nat) (l : List St) (w : World) (hl : l.length ≤ 1099511627776) {F : Nat → Prop} (hF : ∀ b, F b → b < w.heap.size) (hA : stT.Row w F A l) :
    Calls Try.prog 44 #[.slice A l.length c] w (fun en w' => ∃ v, en = .returned v ∧ Ext w w' ∧ Eng.Own stT w' nobody w.heap.size 77 v l) := by
  refine calls' (n := 8) (rs := #[.tmp 2]) (l := [.slice A l.length c]) Try.func44 rfl rfl rfl rfl rfl ?_
  refine W_seq ?_
  refine W_region ?_
  refine op rfl (r_assignV (v := .slice _ _ _) rfl) ?_
  refine WL_nil ?_
  refine W_seq ?_
  refine W_seq ?_
  refine W_region ?_
  refine op rfl (r_moveV (v := .slice _ _ _) rfl) ?_
  refine op rfl (rl_eql rfl rfl Try.underlying73) ?_
  refine WL_nil ?_
  refine W_ifp rfl (fun ht4 => ?_) (fun ht4 => ?_)
  · subst ht4
    obtain rfl : l = [] := by
      rcases hA with h | ⟨g, off, c, t, fr, h, _⟩
      · exact h
      · cases h
    refine W_seq ?_
    refine W_region ?_
    refine op rfl (r_assignV (v := .slice _ _ _) rfl) ?_
    refine WL_nil ?_
    refine W_ret (finX_ret ?_)
    refine fin1 ?_
    exact ⟨_, rfl, Ext.refl _, Own.nil⟩
  · refine W_skip ?_
    refine W_seq ?_
    refine W_region ?_
    refine op_newS rfl (r_buildSlice (vs := []) Try.underlying73 Try.sz77 Try.zero77 rfl rfl rfl) ?_
    intro w3_0 b3_0 E3_0 B3_0 L3_0
    have hO : Eng.Own stT w3_0 nobody w.heap.size 77 (.slice (some ⟨b3_0, 0, none⟩) 0 0) [] := Own.of_blk (enc := St.val) (ok := fun _ => True) (l := []) (cap := 0) (Nat.le_of_eq L3_0) B3_0 (Nat.le_refl _) rfl (by simp) (by simp)
    refine op rfl (r_moveV (v := .slice _ _ _) rfl) ?_
    refine op_app flat_st rfl rfl rfl Try.underlying73 Try.sz77 Try.by77 Try.zero77 rfl (E3_0) (hO) (hA.keep (fun b hb => E3_0.block b (hF b hb)) (fun _ h => h)) (by simp only [List.length_nil]; omega) (by simp only [List.length_nil]; omega) ?_
    intro v3_2 w3_2 O3_2 X3_2 G3_2
    refine op rfl (r_assignV (v := v3_2) rfl) ?_
    refine WL_nil ?_
    refine W_ret (finX_ret ?_)
    refine fin1 ?_
    exact ⟨_, rfl, X3_2, by rw [List.nil_append] at O3_2; exact O3_2⟩
/-- An area's three cells. -/
def arT : Ty (Value × Value × Value) where
  sz := 3
  R := fun _ _ x cs => cs = [x.1, x.2.1, x.2.2] ∧ x.1.oneCell' = true ∧ x.2.1.oneCell' = true ∧ x.2.2.oneCell' = true
  len := by rintro _ _ _ _ ⟨rfl, _⟩; rfl
  one := by
    rintro _ _ x _ ⟨rfl, h1, h2, h3⟩ u hu
    simp only [List.mem_cons, List.not_mem_nil, or_false] at hu
    rcases hu with rfl | rfl | rfl <;> assumption
  keep := fun h _ _ => h
theorem flat_ar : Flat arT := fun h => h
def arL (i : Nat) (nv lv pv : Nat → Value) : List (Value × Value × Value) := (List.range i).map fun j => (nv j, lv j, pv j)
theorem arL_succ (i : Nat) (nv lv pv : Nat → Value) (a b c : Value) : arL (i + 1) (fset nv i a) (fset lv i b) (fset pv i c) = arL i nv lv pv ++ [(a, b, c)] := by
  unfold arL
  rw [List.range_succ, List.map_append]
  congr 1
  · apply List.map_congr_left
    intro j hj
    have : j ≠ i := by have := List.mem_range.1 hj; omega
    simp [fset_ne this]
  · simp [fset_same]
/-- A copy of i areas. -/
structure CR (B i : Nat) (w : World) (p : Nat) (cv : Value) (nv lv pv : Nat → Value) (D : Dk) : Prop where
  own : Eng.Own arT w nobody B 75 cv (arL i nv lv pv)
  hn : ∀ j, j < i → Bs B 5 w (nv j) (D.ar j).now
  hl : ∀ j, j < i → Bs B 5 w (lv j) (D.ar j).lasts
  hp : ∀ j, j < i → Eng.Own stT w nobody B 77 (pv j) (D.ar j).pend
  lo : B ≤ p ∧ p < w.heap.size
  cp : cv.ownBlock ≠ some p
  ne : ∀ j, j < i → ∀ b, ((nv j).ownBlock = some b ∨ (lv j).ownBlock = some b) → b ≠ p ∧ cv.ownBlock ≠ some b ∧ ∀ k, k < i → (pv k).ownBlock ≠ some b
  np : ∀ j, j < i → ∀ b, (pv j).ownBlock = some b → b ≠ p ∧ cv.ownBlock ≠ some b ∧ ∀ k, k < i → k ≠ j → (pv k).ownBlock ≠ some b
theorem CR.step {B i p : Nat} {w0 w1 w2 w3 w4 w5 w6 : World} {cv cv' nv' lv' pv' : Value} {nv lv pv : Nat → Value} {D : Dk} (h : CR B i w0 p cv nv lv pv D) (E1 : Ext w0 w1) (E2 : Ext w1 w2) (E3 : Ext w2 w3) (E4 : Ext w3 w4) (hB0 : B ≤ w0.heap.size)
    (hn : Bs w0.heap.size 5 w1 nv' (D.ar i).now) (hl : Bs w1.heap.size 5 w2 lv' (D.ar i).lasts) (hp : Eng.Own stT w3 nobody w2.heap.size 77 pv' (D.ar i).pend)
    (hG : Gro cv.ownBlock w4 w5) (hO : Eng.Own arT w5 nobody B 75 cv' (arL i nv lv pv ++ [(nv', lv', pv')])) (hv : cv'.ownBlock = cv.ownBlock ∨ ∃ g, cv'.ownBlock = some g ∧ w4.heap.size ≤ g) (hC : Chg p w5 w6) (hcp : cv'.ownBlock ≠ some p) :
    CR B (i + 1) w6 p cv' (fset nv i nv') (fset lv i lv') (fset pv i pv') D := by
  have s1 := E1.size
  have s2 := E2.size
  have s3 := E3.size
  have s4 := E4.size
  have s5 := hG.size
  have E04 : Ext w0 w4 := ((E1.trans E2).trans E3).trans E4
  have cvlt : ∀ b, cv.ownBlock = some b → b < w0.heap.size := fun b q => (h.own.lt q).2
  have cvb : ∀ b, cv'.ownBlock = some b → b < w0.heap.size ∧ cv.ownBlock = some b ∨ w4.heap.size ≤ b := fun b q => by
    rcases hv with e | ⟨g, e, hg⟩
    · rw [e] at q; exact Or.inl ⟨cvlt b q, q⟩
    · rw [e] at q; cases q; exact Or.inr hg
  -- what is there stays
  have keep : ∀ b, b < w4.heap.size → cv.ownBlock ≠ some b → b ≠ p → w6.heap[b]? = w4.heap[b]? := fun b hb h1 h2 => (hC.block b (by omega) h2).trans (hG.block b hb h1)
  have nlt : ∀ j, j < i → ∀ b, (nv j).ownBlock = some b → b < w0.heap.size := fun j hj b q => ((h.hn j hj).lt q).2
  have llt : ∀ j, j < i → ∀ b, (lv j).ownBlock = some b → b < w0.heap.size := fun j hj b q => ((h.hl j hj).lt q).2
  have plt : ∀ j, j < i → ∀ b, (pv j).ownBlock = some b → b < w0.heap.size := fun j hj b q => ((h.hp j hj).lt q).2
  have hpl := h.lo
  refine ⟨?_, ?_, ?_, ?_, ⟨hpl.1, by have := hC.size; omega⟩, hcp, ?_, ?_⟩
  · rw [arL_succ]
    exact own_at hO (fun g q => hC.block g (hO.lt q).2 (fun e => hcp (e ▸ q)))
  · intro j hj
    by_cases hji : j = i
    · subst hji
      rw [fset_same]
      exact own_at (own_fext hn ((E2.trans E3).trans E4) |>.low hB0) (fun g q => keep g (by have := (hn.lt q).2; omega) (fun q2 => by have := cvlt g q2; have := (hn.lt q).1; omega) (by have := (hn.lt q).1; omega))
    · rw [fset_ne hji]
      have hj' : j < i := by omega
      exact own_at (own_fext (h.hn j hj') E04) (fun g q => keep g (by have := nlt j hj' g q; omega) (h.ne j hj' g (Or.inl q)).2.1 (h.ne j hj' g (Or.inl q)).1)
  · intro j hj
    by_cases hji : j = i
    · subst hji
      rw [fset_same]
      exact own_at (own_fext hl (E3.trans E4) |>.low (by omega)) (fun g q => keep g (by have := (hl.lt q).2; omega) (fun q2 => by have := cvlt g q2; have := (hl.lt q).1; omega) (by have := (hl.lt q).1; omega))
    · rw [fset_ne hji]
      have hj' : j < i := by omega
      exact own_at (own_fext (h.hl j hj') E04) (fun g q => keep g (by have := llt j hj' g q; omega) (h.ne j hj' g (Or.inr q)).2.1 (h.ne j hj' g (Or.inr q)).1)
  · intro j hj
    by_cases hji : j = i
    · subst hji
      rw [fset_same]
      exact own_at (own_fext hp E4 |>.low (by omega)) (fun g q => keep g (by have := (hp.lt q).2; omega) (fun q2 => by have := cvlt g q2; have := (hp.lt q).1; omega) (by have := (hp.lt q).1; omega))
    · rw [fset_ne hji]
      have hj' : j < i := by omega
      exact own_at (own_fext (h.hp j hj') E04) (fun g q => keep g (by have := plt j hj' g q; omega) (h.np j hj' g q).2.1 (h.np j hj' g q).1)
  · intro j hj b hq
    by_cases hji : j = i
    · subst hji
      rw [fset_same, fset_same] at hq
      have hb : w0.heap.size ≤ b ∧ b < w2.heap.size := by
        rcases hq with q | q
        · have := hn.lt q; omega
        · have := hl.lt q; omega
      refine ⟨by omega, fun q => by rcases cvb b q with ⟨h1, _⟩ | h1 <;> omega, fun k hk q => ?_⟩
      by_cases hkj : k = j
      · subst hkj; rw [fset_same] at q; have := (hp.lt q).1; omega
      · rw [fset_ne hkj] at q; have := plt k (by omega) b q; omega
    · have hj' : j < i := by omega
      rw [fset_ne hji, fset_ne hji] at hq
      have hb : b < w0.heap.size := by rcases hq with q | q; exact nlt j hj' b q; exact llt j hj' b q
      obtain ⟨r1, r2, r3⟩ := h.ne j hj' b hq
      refine ⟨r1, fun q => by rcases cvb b q with ⟨_, h1⟩ | h1; exact r2 h1; omega, fun k hk q => ?_⟩
      by_cases hki : k = i
      · subst hki; rw [fset_same] at q; have := (hp.lt q).1; omega
      · rw [fset_ne hki] at q; exact r3 k (by omega) q
  · intro j hj b hq
    by_cases hji : j = i
    · subst hji
      rw [fset_same] at hq
      have hb := hp.lt hq
      refine ⟨by omega, fun q => by rcases cvb b q with ⟨h1, _⟩ | h1 <;> omega, fun k hk hkj q => ?_⟩
      rw [fset_ne hkj] at q
      have := plt k (by omega) b q
      omega
    · have hj' : j < i := by omega
      rw [fset_ne hji] at hq
      have hb := plt j hj' b hq
      obtain ⟨r1, r2, r3⟩ := h.np j hj' b hq
      refine ⟨r1, fun q => by rcases cvb b q with ⟨_, h1⟩ | h1; exact r2 h1; omega, fun k hk hkj q => ?_⟩
      by_cases hki : k = i
      · subst hki; rw [fset_same] at q; have := (hp.lt q).1; omega
      · rw [fset_ne hki] at q; exact r3 k (by omega) hkj q
/-- All areas: it is a disk. -/
theorem CR.dr {B n : Nat} {w : World} {p : Nat} {cv : Value} {nv lv pv : Nat → Value} {D : Dk} (h : CR B n w p cv nv lv pv D) (hD : D.n = n) (h0 : 0 < n) (hb : Blk w p #[cv, .int .i64 D.room, .bool D.armed, .int .i64 D.power, .bool D.dead] 55) :
    ∃ H : Hd, H.p = p ∧ DR B w H D := by
  have hlen : (arL n nv lv pv).length = n := by simp [arL]
  rcases h.own with ⟨_, e⟩ | ⟨g, cap, c, xs, rfl, h1, h2, h3, h4, h5, h6⟩
  · rw [e] at hlen; simp at hlen; omega
  · rw [hlen] at hb h3 h6
    refine ⟨⟨p, g, nv, lv, pv, cap⟩, rfl, ?_, ⟨c, h2, by simpa [arT] using h4, fun i hi => ?_⟩, fun i hi => h.hn i (by omega), fun i hi => h.hl i (by omega), fun i hi => h.hp i (by omega), ⟨h.lo.1, h1, fun q => h.cp (by rw [show p = g from q]; rfl)⟩, fun i hi b q => ?_, fun i hi b q => ?_, by show D.n ≤ cap; omega⟩
    · unfold Dk.cells
      rw [hD]
      exact hb
    · have hi' : i < n := by omega
      obtain ⟨y, ⟨hy, _⟩, h8⟩ := h5.get i (by rw [hlen]; exact hi')
      have hel : (arL n nv lv pv)[i]'(by rw [hlen]; exact hi') = (nv i, lv i, pv i) := by simp [arL]
      rw [hel] at hy
      have key : ∀ j, j < 3 → c[i * 3 + j]? = y[j]? := fun j hj => by
        have hsz : arT.sz = 3 := rfl
        have h9 := h8 j hj
        rw [hsz] at h9
        rw [← h9, ← h6, hsz, List.getElem?_take, if_pos (by omega)]
        simp
      have k0 := key 0 (by omega)
      rw [hy] at key k0
      exact ⟨by simpa using k0, by simpa using key 1 (by omega), by simpa using key 2 (by omega)⟩
    · obtain ⟨r1, r2, r3⟩ := h.ne i (by omega) b q
      exact ⟨r1, fun e => r2 (by rw [show b = g from e]; rfl), fun k hk => r3 k (by show k < n; rw [← hD]; exact hk)⟩
    · obtain ⟨r1, r2, r3⟩ := h.np i (by omega) b q
      exact ⟨r1, fun e => r2 (by rw [show b = g from e]; rfl), fun k hk hki => r3 k (by omega) hki⟩
theorem copy_spec {B : Nat} {H : Hd} {D : Dk} {w : World} (h : DR B w H D) {k : Nat} (hw : WF D k) (hk : k ≤ 1073741824) (hn0 : 0 < D.n) : Calls Try.prog 24 #[dp H] w (fun en w' => ∃ v, en = .returned v ∧ ∃ p, v = dq p ∧ Ext w w' ∧ DA p w.heap.size w' D) := by
  have hbp := h.bp
  have hn8 := hw.n8
  refine calls' (n := 39) (rs := #[.tmp 2]) (l := [dp H]) Try.func24 rfl rfl rfl rfl rfl ?_
  have hX := Ext.refl w
  refine W_seq ?_
  refine W_region ?_
  refine op rfl (r_assignV (v := .pointer _) rfl) ?_
  refine WL_nil ?_
  refine W_seq ?_
  refine W_seq ?_
  refine W_region ?_
  refine op rfl (r_moveV (v := .pointer _) rfl) ?_
  refine op rfl (rp_eql rfl rfl Try.underlying25) ?_
  refine WL_nil ?_
  refine W_ifp rfl (fun ht7 => ?_) (fun ht7 => ?_)
  · exact ht7.elim
  · refine W_skip ?_
    refine W_seq ?_
    refine W_region ?_
    refine op rfl (r_moveV (v := .pointer _) rfl) ?_
    refine op rfl (r_nilCheck rfl) ?_
    refine op rfl (r_loadRow rfl hbp Try.underlying55 rfl Try.sz55) ?_
    refine op_alloc rfl Try.zero55 ?_
    intro w3_3 b3_3 E3_3 B3_3 L3_3
    have hG3_3 : w.heap.size ≤ b3_3 := by have := hX.size; omega
    have hNH.p_3_3 : H.p ≠ b3_3 := by have := Blk.lt hbp; omega
    replace hbp := Blk.ext hbp E3_3
    replace hX := hX.trans E3_3
    refine op_storeRow rfl rfl Try.sz55 B3_3 rfl rfl ?_
    intro w3_4 C3_4 BB3_4
    replace hbp := Chg.blk C3_4 hbp hNH.p_3_3
    replace hX := hX.chg C3_4 hG3_3
    replace B3_3 := BB3_4
    refine WL_nil ?_
    refine W_seq ?_
    refine W_region ?_
    refine op rfl (r_fieldAddr rfl Try.fld55_0 rfl) ?_
    refine op_store (v := .slice _ _ _) rfl rfl rfl Try.sz53 B3_3 (Nat.le_of_ble_eq_true rfl) ?_
    intro w4_1 C4_1 BB4_1
    replace hbp := Chg.blk C4_1 hbp hNH.p_3_3
    replace hX := hX.chg C4_1 hG3_3
    replace B3_3 := BB4_1
    refine WL_nil ?_
    refine W_seq ?_
    refine W_seq ?_
    refine W_region ?_
    refine op rfl (r_moveV (v := .pointer _) rfl) ?_
    refine op rfl (r_nilCheck rfl) ?_
    refine op rfl (r_fieldAddr rfl Try.fld55_0 rfl) ?_
    refine op rfl (r_load (v := .slice (some ⟨H.g, 0, none⟩) D.n H.cap) rfl Try.underlying53 rfl (Blk.cell hbp rfl)) ?_
    refine op rfl (r_len_slice rfl Try.underlying53) ?_
    refine op rfl (r_moveV (v := .int _ _) rfl) ?_
    refine WL_nil ?_
    refine W_block ?_
    refine W_loop [5, 17, 18, 19, 20, 21, 22, 23, 24, 25, 26, 27, 28, 29, 30, 31, 32, 33, 34, 35, 36, 37, 38] (fun q e' w' => ∃ (i : Nat) (cv : Value) (nv lv pv : Nat → Value), q = D.n - i ∧ i ≤ D.n ∧ e' 17 = .int .i64 i ∧ CR w.heap.size i w' b3_3 cv nv lv pv D ∧ Blk w' b3_3 #[cv, .int .i64 D.room, .bool D.armed, .int .i64 D.power, .bool D.dead] 55 ∧ Ext w w') (D.n) ?_ ?_
    · exact ⟨0, .slice none 0 0, fun _ => .slice none 0 0, fun _ => .slice none 0 0, fun _ => .slice none 0 0, by omega, by omega, rfl, ⟨Own.nil, fun j hj => by omega, fun j hj => by omega, fun j hj => by omega, ⟨hG3_3, Blk.lt B3_3⟩, (by intro q; cases q), fun j hj => by omega, fun j hj => by omega⟩, B3_3, hX⟩
    intro k g w' hI
    obtain ⟨i, cv, nv, lv, pv, hq, hi, h17, hCR, Bx3, hX'⟩ := hI
    clear hX B3_3
    have hX := hX'
    have B3_3 := Bx3
    clear hX' Bx3
    refine W_set (i := 17) h17 ?_
    refine W_seq ?_
    refine W_region ?_
    refine op rfl (r_lss rfl rfl) ?_
    refine WL_nil ?_
    refine W_seq ?_
    refine W_ifp rfl (fun ht18 => ?_) (fun ht18 => ?_)
    · have hlt : i < D.n := by omega
      have hlnw := hw.len i hlt
      have hR := h.ext hX
      obtain ⟨cs, hcs, hsz, h3⟩ := hR.bg
      obtain ⟨q0, q1, q2⟩ := h3 i hlt
      obtain ⟨An, cn, hne, hcn, hrn⟩ := own_frow (hR.nv i hlt)
      obtain ⟨Al, cl, hle, hcl, hrl⟩ := own_frow (hR.lv i hlt)
      obtain ⟨Ap, cp, hpe, hcp, hrp⟩ := own_frow (hR.pv i hlt)
      rw [hne] at q0
      rw [hle] at q1
      rw [hpe] at q2
      have hcap := hR.cap
      have hcell3 : ∀ j, j < 3 → w'.cell? ⟨H.g, 0 + (i : Int).toNat * 3 + j, none⟩ = ([Value.slice An (D.ar i).now.length cn, .slice Al (D.ar i).lasts.length cl, .slice Ap (D.ar i).pend.length cp] : List Value)[j]? := fun j hj => by
        have e : 0 + (i : Int).toNat * 3 + j = i * 3 + j := by omega
        rw [e]
        have : j = 0 ∨ j = 1 ∨ j = 2 := by omega
        rcases this with rfl | rfl | rfl
        · exact Blk.cell hcs q0
        · exact Blk.cell hcs q1
        · exact Blk.cell hcs q2
      refine W_skip ?_
      refine W_seq ?_
      refine W_block ?_
      refine W_seq ?_
      refine W_region ?_
      refine op rfl (r_indexAddrN rfl rfl rfl Try.underlying53 Try.sz75 (by omega) (by omega)) ?_
      refine op rfl (r_load_agg rfl Try.underlying75 rfl Try.sz75 rfl hcell3) ?_
      have hX0 := hX
      refine op_alloc rfl Try.zero75 ?_
      intro w7_2 b7_2 E7_2 B7_2 L7_2
      have hG7_2 : w.heap.size ≤ b7_2 := by have := hX.size; omega
      have hNb3_3_7_2 : b3_3 ≠ b7_2 := by have := Blk.lt B3_3; omega
      replace B3_3 := Blk.ext B3_3 E7_2
      replace hX := hX.trans E7_2
      have hZ1 := E7_2
      refine op_storeRow rfl rfl Try.sz75 B7_2 rfl rfl ?_
      intro w7_3 C7_3 BB7_3
      replace B3_3 := Chg.blk C7_3 B3_3 hNb3_3_7_2
      replace hX := hX.chg C7_3 hG7_2
      replace B7_2 := BB7_3
      have hZ := Below.chg hZ1 C7_3 (by have := L7_2; omega)
      refine WL_nil ?_
      refine W_drawF (W0 := w) (fun b : Nat => b = b7_2 ∨ False) Try.wd rfl ?_
      intro wd8 hD
      replace B3_3 := Blk.ext B3_3 hD
      replace B7_2 := Blk.ext B7_2 hD
      replace hX := hX.trans hD
      have DB7_2 := B7_2
      have hS : Ext w wd8 ∧ Same (fun b : Nat => b = b7_2 ∨ False) wd8 wd8 := ⟨hX, fun _ _ => rfl⟩
      have hZd := hZ.trans hD
      refine A_take (i := 0) rfl (by kernel_rfl) (by kernel_rfl) (by kernel_rfl) rfl hS (fun _ hw => r_fieldAddr rfl Try.fld55_0 rfl) ?_
      refine A_take (i := 2) rfl (by kernel_rfl) (by kernel_rfl) (by kernel_rfl) rfl hS (fun _ hw => r_fieldAddr rfl Try.fld75_0 rfl) ?_
      refine A_take (i := 3) rfl (by kernel_rfl) (by kernel_rfl) (by kernel_rfl) rfl hS (fun _ hw => r_fieldAddr rfl Try.fld72_0 rfl) ?_
      refine A_take (i := 4) rfl (by kernel_rfl) (by kernel_rfl) (by kernel_rfl) rfl hS (fun _ hw => r_load (v := .slice _ _ _) rfl Try.underlying23 rfl (Blk.cell (Blk.at DB7_2 (hw.2 _ (Or.inl rfl))) rfl)) ?_
      refine A_take (i := 7) rfl (by kernel_rfl) (by kernel_rfl) (by kernel_rfl) rfl hS (fun _ hw => r_fieldAddr rfl Try.fld75_1 rfl) ?_
      refine A_take (i := 8) rfl (by kernel_rfl) (by kernel_rfl) (by kernel_rfl) rfl hS (fun _ hw => r_load (v := .slice _ _ _) rfl Try.underlying23 rfl (Blk.cell (Blk.at DB7_2 (hw.2 _ (Or.inl rfl))) rfl)) ?_
      refine A_take (i := 10) rfl (by kernel_rfl) (by kernel_rfl) (by kernel_rfl) rfl hS (fun _ hw => r_fieldAddr rfl Try.fld75_2 rfl) ?_
      refine A_take (i := 11) rfl (by kernel_rfl) (by kernel_rfl) (by kernel_rfl) rfl hS (fun _ hw => r_load (v := .slice _ _ _) rfl Try.underlying73 rfl (Blk.cell (Blk.at DB7_2 (hw.2 _ (Or.inl rfl))) rfl)) ?_
      refine A_ready2 (i := 1) (j := 5) (by kernel_rfl) ?_ ?_
      · refine O_val rfl rfl (r_load (v := cv) rfl Try.underlying53 rfl (Blk.cell B3_3 rfl)) (hS) ?_
        refine A_ready1 (i := 5) (by kernel_rfl) ?_
        refine O_call rfl rfl (r_call Try.func42 Try.nm42 rfl) (clone_spec0 An cn (D.ar i).now _ (by omega) (F := old wd8) (fun b hb ↦ hb) (hrn.ext hZd)) ?_
        rintro va wa ⟨hE, hOa⟩
        replace B3_3 := Blk.ext B3_3 hE
        replace B7_2 := Blk.ext B7_2 hE
        replace hX := hX.trans hE
        replace hS : Ext w wa ∧ Same (fun b : Nat => b = b7_2 ∨ False) wd8 wa := ⟨hX, fun b hb => Or.elim hb (fun q => by subst q; exact Blk.eq B7_2 DB7_2) (fun hb => hb.elim)⟩
        refine ⟨hS, ?_⟩
        have hEa := hE
        obtain ⟨Aa, cca, hae, _, _⟩ := own_frow hOa
        subst hae
        refine A_take (i := 6) rfl (by kernel_rfl) (by kernel_rfl) (by kernel_rfl) rfl hS (fun _ hw => r_build (cs := [.slice _ _ _]) Try.lay72 (List.forall_mem_cons.2 ⟨rfl, fun _ h => by cases h⟩) rfl rfl) ?_
        refine A_ready1 (i := 9) (by kernel_rfl) ?_
        refine O_call rfl rfl (r_call Try.func42 Try.nm42 rfl) (clone_spec0 Al cl (D.ar i).lasts _ (by omega) (F := old wa) (fun b hb ↦ hb) (hrl.ext (hZd.trans hEa))) ?_
        rintro vb wb ⟨hE, hOb⟩
        replace B3_3 := Blk.ext B3_3 hE
        replace B7_2 := Blk.ext B7_2 hE
        replace hX := hX.trans hE
        replace hS : Ext w wb ∧ Same (fun b : Nat => b = b7_2 ∨ False) wd8 wb := ⟨hX, fun b hb => Or.elim hb (fun q => by subst q; exact Blk.eq B7_2 DB7_2) (fun hb => hb.elim)⟩
        refine ⟨hS, ?_⟩
        have hEb := hE
        obtain ⟨Ab, ccb, hbe, _, _⟩ := own_frow hOb
        subst hbe
        refine A_ready1 (i := 12) (by kernel_rfl) ?_
        refine O_call rfl rfl (r_call Try.func44 Try.nm44 rfl) (cloneSt_spec Ap cp (D.ar i).pend _ (by omega) (F := old wb) (fun b hb ↦ hb) (hrp.ext ((hZd.trans hEa).trans hEb))) ?_
        rintro vc wc ⟨hE, hOc⟩
        replace B3_3 := Blk.ext B3_3 hE
        replace B7_2 := Blk.ext B7_2 hE
        replace hX := hX.trans hE
        replace hS : Ext w wc ∧ Same (fun b : Nat => b = b7_2 ∨ False) wd8 wc := ⟨hX, fun b hb => Or.elim hb (fun q => by subst q; exact Blk.eq B7_2 DB7_2) (fun hb => hb.elim)⟩
        refine ⟨hS, ?_⟩
        have hEc := hE
        obtain ⟨Ac, ccc, hce, _, _⟩ := own_frow hOc
        subst hce
        refine A_take (i := 13) rfl (by kernel_rfl) (by kernel_rfl) (by kernel_rfl) rfl hS (fun _ hw => r_build3 Try.lay75 rfl rfl rfl rfl rfl rfl rfl rfl) ?_
        refine A_ready1 (i := 14) (by kernel_rfl) ?_
        refine O_newS rfl rfl (r_buildRows (vs := [[.slice _ _ _, .slice _ _ _, .slice _ _ _]]) Try.underlying53 Try.sz75 Try.zero75 rfl rfl rfl) ?_
        intro w8_14 b8_14 E8_14 B8_14 L8_14
        have hG8_14 : w.heap.size ≤ b8_14 := by have := hX.size; omega
        have hNb3_3_8_14 : b3_3 ≠ b8_14 := by have := Blk.lt B3_3; omega
        replace B3_3 := Blk.ext B3_3 E8_14
        have hNb7_2_8_14 : b7_2 ≠ b8_14 := by have := Blk.lt B7_2; omega
        replace B7_2 := Blk.ext B7_2 E8_14
        replace hX := hX.trans E8_14
        replace hS : Ext w w8_14 ∧ Same (fun b : Nat => b = b7_2 ∨ False) wd8 w8_14 := ⟨hX, fun b hb => Or.elim hb (fun q => by subst q; exact Blk.eq B7_2 DB7_2) (fun hb => hb.elim)⟩
        refine ⟨hS, ?_⟩
        refine A_ready1 (i := 15) (by kernel_rfl) ?_
        have hZ14 : Ext w' w8_14 := ((((hZd.trans hEa).trans hEb).trans hEc).trans E8_14)
        have hOcv := own_fext hCR.own hZ14
        have hcvb : ∀ b, cv.ownBlock = some b → w.heap.size ≤ b ∧ b < w'.heap.size := fun b q => hCR.own.lt q
        have hrow8 : arT.Row w8_14 (old w8_14) (some ⟨b8_14, 0, none⟩) [(.slice Aa (D.ar i).now.length cca, .slice Ab (D.ar i).lasts.length ccb, .slice Ac (D.ar i).pend.length ccc)] := Blk.row B8_14 (Blk.lt B8_14) (fun q hq => by
          have hq0 : q = 0 := by simp at hq; omega
          subst hq0
          exact ⟨_, ⟨rfl, rfl, rfl, rfl⟩, fun j hj => by simp [arT]⟩)
        have hll : (arL i nv lv pv).length = i := by simp [arL]
        obtain ⟨cv', w5, hr5, hO5, hG5, hv5⟩ := run_append (T := arT) (F := nobody) (P := Try.prog) (t := 53) (ty := 53) (l := arL i nv lv pv) (m := [(.slice Aa (D.ar i).now.length cca, .slice Ab (D.ar i).lasts.length ccb, .slice Ac (D.ar i).pend.length ccc)]) (c := 1) Try.underlying53 Try.sz75 Try.by75 Try.zero75 rfl hOcv (hrow8.srcF flat_ar) (fun _ q => q.elim) (by rw [hll]; simp only [List.length_singleton]; omega) (by rw [hll]; simp only [List.length_singleton]; omega) (Nat.le_trans hX0.size hZ14.size)
        have hcp5 : cv'.ownBlock ≠ some b3_3 := fun q => by
          rcases hv5 with e | ⟨g, e, hg⟩
          · rw [e] at q; exact hCR.cp q
          · rw [e] at q; cases q; have := hCR.lo.2; have := hZ14.size; omega
        have e3 : cv.ownBlock ≠ some b3_3 := hCR.cp
        have e7 : cv.ownBlock ≠ some b7_2 := fun q => by have := (hcvb _ q).2; have := L7_2; omega
        replace hX := hX.gro hG5 hX.size (fun q hq => (hcvb q hq).1)
        have e14 : cv.ownBlock ≠ some b8_14 := fun q => by have := (hcvb _ q).2; have := hZ14.size; have := L8_14; have := ((hZd.trans hEa).trans hEb).trans hEc |>.size; omega
        replace B3_3 := gro_blk hG5 B3_3 e3
        replace B8_14 := gro_blk hG5 B8_14 e14
        replace B7_2 := gro_blk hG5 B7_2 e7
        obtain ⟨A5, c5, h5e, _, _⟩ := own_frow hO5
        replace hS : Ext w w5 ∧ Same (fun b : Nat => b = b7_2 ∨ False) wd8 w5 := ⟨hX, fun b hb => Or.elim hb (fun q => by subst q; exact Blk.eq B7_2 DB7_2) (fun q => q.elim)⟩
        refine O_val rfl rfl (r_append rfl rfl hr5) hS ?_
        subst h5e
        refine A_take (i := 16) rfl (by kernel_rfl) (by kernel_rfl) (by kernel_rfl) rfl hS (fun _ hw => r_fieldAddr rfl Try.fld55_0 rfl) ?_
        refine A_ready1 (i := 17) (by kernel_rfl) ?_
        refine O_store (v := .slice _ _ _) rfl rfl rfl rfl Try.sz53 B3_3 (Nat.le_of_ble_eq_true rfl) ?_
        intro w8_17 C8_17 BB8_17
        replace B7_2 := Chg.blk C8_17 B7_2 (fun q => hNb3_3_7_2 q.symm)
        replace B8_14 := Chg.blk C8_17 B8_14 (fun q => hNb3_3_8_14 q.symm)
        replace hX := hX.chg C8_17 hG3_3
        replace B3_3 := BB8_17
        replace hS : Ext w w8_17 ∧ Same (fun b : Nat => b = b7_2 ∨ False) wd8 w8_17 := ⟨hX, fun b hb => Or.elim hb (fun q => by subst q; exact Blk.eq B7_2 DB7_2) (fun hb => hb.elim)⟩
        refine ⟨hS, ?_⟩
        refine A_done (by kernel_rfl) ?_
        refine W_region ?_
        refine op rfl (r_add' rfl rfl (wrap_i64 (by omega) (by omega))) ?_
        refine op rfl (r_moveV (v := .int _ _) rfl) ?_
        refine WL_nil ?_
        refine ⟨?_, by repeat (first | with_reducible exact Out.refl _ _ | with_reducible exact Out.mix | refine Out.put rfl ?_ | refine Out.mixin rfl ?_ | exact Out.refl _ _ | exact Out.mix)⟩
        have hst := hCR.step (hZd.trans hEa) hEb hEc E8_14 hX0.size (hOa.low hZd.size) hOb hOc hG5 hO5 hv5 C8_17 hcp5
        exact ⟨D.n - (i + 1), by omega, i + 1, _, _, _, _, rfl, by omega, rfl, hst, B3_3, hX⟩
      · refine O_call rfl rfl (r_call Try.func42 Try.nm42 rfl) (clone_spec0 An cn (D.ar i).now _ (by omega) (F := old wd8) (fun b hb ↦ hb) (hrn.ext hZd)) ?_
        rintro va wa ⟨hE, hOa⟩
        replace B3_3 := Blk.ext B3_3 hE
        replace B7_2 := Blk.ext B7_2 hE
        replace hX := hX.trans hE
        replace hS : Ext w wa ∧ Same (fun b : Nat => b = b7_2 ∨ False) wd8 wa := ⟨hX, fun b hb => Or.elim hb (fun q => by subst q; exact Blk.eq B7_2 DB7_2) (fun hb => hb.elim)⟩
        refine ⟨hS, ?_⟩
        have hEa := hE
        obtain ⟨Aa, cca, hae, _, _⟩ := own_frow hOa
        subst hae
        refine A_take (i := 6) rfl (by kernel_rfl) (by kernel_rfl) (by kernel_rfl) rfl hS (fun _ hw => r_build (cs := [.slice _ _ _]) Try.lay72 (List.forall_mem_cons.2 ⟨rfl, fun _ h => by cases h⟩) rfl rfl) ?_
        refine A_ready2 (i := 1) (j := 9) (by kernel_rfl) ?_ ?_
        · refine O_val rfl rfl (r_load (v := cv) rfl Try.underlying53 rfl (Blk.cell B3_3 rfl)) (hS) ?_
          refine A_ready1 (i := 9) (by kernel_rfl) ?_
          refine O_call rfl rfl (r_call Try.func42 Try.nm42 rfl) (clone_spec0 Al cl (D.ar i).lasts _ (by omega) (F := old wa) (fun b hb ↦ hb) (hrl.ext (hZd.trans hEa))) ?_
          rintro vb wb ⟨hE, hOb⟩
          replace B3_3 := Blk.ext B3_3 hE
          replace B7_2 := Blk.ext B7_2 hE
          replace hX := hX.trans hE
          replace hS : Ext w wb ∧ Same (fun b : Nat => b = b7_2 ∨ False) wd8 wb := ⟨hX, fun b hb => Or.elim hb (fun q => by subst q; exact Blk.eq B7_2 DB7_2) (fun hb => hb.elim)⟩
          refine ⟨hS, ?_⟩
          have hEb := hE
          obtain ⟨Ab, ccb, hbe, _, _⟩ := own_frow hOb
          subst hbe
          refine A_ready1 (i := 12) (by kernel_rfl) ?_
          refine O_call rfl rfl (r_call Try.func44 Try.nm44 rfl) (cloneSt_spec Ap cp (D.ar i).pend _ (by omega) (F := old wb) (fun b hb ↦ hb) (hrp.ext ((hZd.trans hEa).trans hEb))) ?_
          rintro vc wc ⟨hE, hOc⟩
          replace B3_3 := Blk.ext B3_3 hE
          replace B7_2 := Blk.ext B7_2 hE
          replace hX := hX.trans hE
          replace hS : Ext w wc ∧ Same (fun b : Nat => b = b7_2 ∨ False) wd8 wc := ⟨hX, fun b hb => Or.elim hb (fun q => by subst q; exact Blk.eq B7_2 DB7_2) (fun hb => hb.elim)⟩
          refine ⟨hS, ?_⟩
          have hEc := hE
          obtain ⟨Ac, ccc, hce, _, _⟩ := own_frow hOc
          subst hce
          refine A_take (i := 13) rfl (by kernel_rfl) (by kernel_rfl) (by kernel_rfl) rfl hS (fun _ hw => r_build3 Try.lay75 rfl rfl rfl rfl rfl rfl rfl rfl) ?_
          refine A_ready1 (i := 14) (by kernel_rfl) ?_
          refine O_newS rfl rfl (r_buildRows (vs := [[.slice _ _ _, .slice _ _ _, .slice _ _ _]]) Try.underlying53 Try.sz75 Try.zero75 rfl rfl rfl) ?_
          intro w8_14 b8_14 E8_14 B8_14 L8_14
          have hG8_14 : w.heap.size ≤ b8_14 := by have := hX.size; omega
          have hNb3_3_8_14 : b3_3 ≠ b8_14 := by have := Blk.lt B3_3; omega
          replace B3_3 := Blk.ext B3_3 E8_14
          have hNb7_2_8_14 : b7_2 ≠ b8_14 := by have := Blk.lt B7_2; omega
          replace B7_2 := Blk.ext B7_2 E8_14
          replace hX := hX.trans E8_14
          replace hS : Ext w w8_14 ∧ Same (fun b : Nat => b = b7_2 ∨ False) wd8 w8_14 := ⟨hX, fun b hb => Or.elim hb (fun q => by subst q; exact Blk.eq B7_2 DB7_2) (fun hb => hb.elim)⟩
          refine ⟨hS, ?_⟩
          refine A_ready1 (i := 15) (by kernel_rfl) ?_
          have hZ14 : Ext w' w8_14 := ((((hZd.trans hEa).trans hEb).trans hEc).trans E8_14)
          have hOcv := own_fext hCR.own hZ14
          have hcvb : ∀ b, cv.ownBlock = some b → w.heap.size ≤ b ∧ b < w'.heap.size := fun b q => hCR.own.lt q
          have hrow8 : arT.Row w8_14 (old w8_14) (some ⟨b8_14, 0, none⟩) [(.slice Aa (D.ar i).now.length cca, .slice Ab (D.ar i).lasts.length ccb, .slice Ac (D.ar i).pend.length ccc)] := Blk.row B8_14 (Blk.lt B8_14) (fun q hq => by
            have hq0 : q = 0 := by simp at hq; omega
            subst hq0
            exact ⟨_, ⟨rfl, rfl, rfl, rfl⟩, fun j hj => by simp [arT]⟩)
          have hll : (arL i nv lv pv).length = i := by simp [arL]
          obtain ⟨cv', w5, hr5, hO5, hG5, hv5⟩ := run_append (T := arT) (F := nobody) (P := Try.prog) (t := 53) (ty := 53) (l := arL i nv lv pv) (m := [(.slice Aa (D.ar i).now.length cca, .slice Ab (D.ar i).lasts.length ccb, .slice Ac (D.ar i).pend.length ccc)]) (c := 1) Try.underlying53 Try.sz75 Try.by75 Try.zero75 rfl hOcv (hrow8.srcF flat_ar) (fun _ q => q.elim) (by rw [hll]; simp only [List.length_singleton]; omega) (by rw [hll]; simp only [List.length_singleton]; omega) (Nat.le_trans hX0.size hZ14.size)
          have hcp5 : cv'.ownBlock ≠ some b3_3 := fun q => by
            rcases hv5 with e | ⟨g, e, hg⟩
            · rw [e] at q; exact hCR.cp q
            · rw [e] at q; cases q; have := hCR.lo.2; have := hZ14.size; omega
          have e3 : cv.ownBlock ≠ some b3_3 := hCR.cp
          have e7 : cv.ownBlock ≠ some b7_2 := fun q => by have := (hcvb _ q).2; have := L7_2; omega
          replace hX := hX.gro hG5 hX.size (fun q hq => (hcvb q hq).1)
          have e14 : cv.ownBlock ≠ some b8_14 := fun q => by have := (hcvb _ q).2; have := hZ14.size; have := L8_14; have := ((hZd.trans hEa).trans hEb).trans hEc |>.size; omega
          replace B3_3 := gro_blk hG5 B3_3 e3
          replace B8_14 := gro_blk hG5 B8_14 e14
          replace B7_2 := gro_blk hG5 B7_2 e7
          obtain ⟨A5, c5, h5e, _, _⟩ := own_frow hO5
          replace hS : Ext w w5 ∧ Same (fun b : Nat => b = b7_2 ∨ False) wd8 w5 := ⟨hX, fun b hb => Or.elim hb (fun q => by subst q; exact Blk.eq B7_2 DB7_2) (fun q => q.elim)⟩
          refine O_val rfl rfl (r_append rfl rfl hr5) hS ?_
          subst h5e
          refine A_take (i := 16) rfl (by kernel_rfl) (by kernel_rfl) (by kernel_rfl) rfl hS (fun _ hw => r_fieldAddr rfl Try.fld55_0 rfl) ?_
          refine A_ready1 (i := 17) (by kernel_rfl) ?_
          refine O_store (v := .slice _ _ _) rfl rfl rfl rfl Try.sz53 B3_3 (Nat.le_of_ble_eq_true rfl) ?_
          intro w8_17 C8_17 BB8_17
          replace B7_2 := Chg.blk C8_17 B7_2 (fun q => hNb3_3_7_2 q.symm)
          replace B8_14 := Chg.blk C8_17 B8_14 (fun q => hNb3_3_8_14 q.symm)
          replace hX := hX.chg C8_17 hG3_3
          replace B3_3 := BB8_17
          replace hS : Ext w w8_17 ∧ Same (fun b : Nat => b = b7_2 ∨ False) wd8 w8_17 := ⟨hX, fun b hb => Or.elim hb (fun q => by subst q; exact Blk.eq B7_2 DB7_2) (fun hb => hb.elim)⟩
          refine ⟨hS, ?_⟩
          refine A_done (by kernel_rfl) ?_
          refine W_region ?_
          refine op rfl (r_add' rfl rfl (wrap_i64 (by omega) (by omega))) ?_
          refine op rfl (r_moveV (v := .int _ _) rfl) ?_
          refine WL_nil ?_
          refine ⟨?_, by repeat (first | with_reducible exact Out.refl _ _ | with_reducible exact Out.mix | refine Out.put rfl ?_ | refine Out.mixin rfl ?_ | exact Out.refl _ _ | exact Out.mix)⟩
          have hst := hCR.step (hZd.trans hEa) hEb hEc E8_14 hX0.size (hOa.low hZd.size) hOb hOc hG5 hO5 hv5 C8_17 hcp5
          exact ⟨D.n - (i + 1), by omega, i + 1, _, _, _, _, rfl, by omega, rfl, hst, B3_3, hX⟩
        · refine O_call rfl rfl (r_call Try.func42 Try.nm42 rfl) (clone_spec0 Al cl (D.ar i).lasts _ (by omega) (F := old wa) (fun b hb ↦ hb) (hrl.ext (hZd.trans hEa))) ?_
          rintro vb wb ⟨hE, hOb⟩
          replace B3_3 := Blk.ext B3_3 hE
          replace B7_2 := Blk.ext B7_2 hE
          replace hX := hX.trans hE
          replace hS : Ext w wb ∧ Same (fun b : Nat => b = b7_2 ∨ False) wd8 wb := ⟨hX, fun b hb => Or.elim hb (fun q => by subst q; exact Blk.eq B7_2 DB7_2) (fun hb => hb.elim)⟩
          refine ⟨hS, ?_⟩
          have hEb := hE
          obtain ⟨Ab, ccb, hbe, _, _⟩ := own_frow hOb
          subst hbe
          refine A_ready2 (i := 1) (j := 12) (by kernel_rfl) ?_ ?_
          · refine O_val rfl rfl (r_load (v := cv) rfl Try.underlying53 rfl (Blk.cell B3_3 rfl)) (hS) ?_
            refine A_ready1 (i := 12) (by kernel_rfl) ?_
            refine O_call rfl rfl (r_call Try.func44 Try.nm44 rfl) (cloneSt_spec Ap cp (D.ar i).pend _ (by omega) (F := old wb) (fun b hb ↦ hb) (hrp.ext ((hZd.trans hEa).trans hEb))) ?_
            rintro vc wc ⟨hE, hOc⟩
            replace B3_3 := Blk.ext B3_3 hE
            replace B7_2 := Blk.ext B7_2 hE
            replace hX := hX.trans hE
            replace hS : Ext w wc ∧ Same (fun b : Nat => b = b7_2 ∨ False) wd8 wc := ⟨hX, fun b hb => Or.elim hb (fun q => by subst q; exact Blk.eq B7_2 DB7_2) (fun hb => hb.elim)⟩
            refine ⟨hS, ?_⟩
            have hEc := hE
            obtain ⟨Ac, ccc, hce, _, _⟩ := own_frow hOc
            subst hce
            refine A_take (i := 13) rfl (by kernel_rfl) (by kernel_rfl) (by kernel_rfl) rfl hS (fun _ hw => r_build3 Try.lay75 rfl rfl rfl rfl rfl rfl rfl rfl) ?_
            refine A_ready1 (i := 14) (by kernel_rfl) ?_
            refine O_newS rfl rfl (r_buildRows (vs := [[.slice _ _ _, .slice _ _ _, .slice _ _ _]]) Try.underlying53 Try.sz75 Try.zero75 rfl rfl rfl) ?_
            intro w8_14 b8_14 E8_14 B8_14 L8_14
            have hG8_14 : w.heap.size ≤ b8_14 := by have := hX.size; omega
            have hNb3_3_8_14 : b3_3 ≠ b8_14 := by have := Blk.lt B3_3; omega
            replace B3_3 := Blk.ext B3_3 E8_14
            have hNb7_2_8_14 : b7_2 ≠ b8_14 := by have := Blk.lt B7_2; omega
            replace B7_2 := Blk.ext B7_2 E8_14
            replace hX := hX.trans E8_14
            replace hS : Ext w w8_14 ∧ Same (fun b : Nat => b = b7_2 ∨ False) wd8 w8_14 := ⟨hX, fun b hb => Or.elim hb (fun q => by subst q; exact Blk.eq B7_2 DB7_2) (fun hb => hb.elim)⟩
            refine ⟨hS, ?_⟩
            refine A_ready1 (i := 15) (by kernel_rfl) ?_
            have hZ14 : Ext w' w8_14 := ((((hZd.trans hEa).trans hEb).trans hEc).trans E8_14)
            have hOcv := own_fext hCR.own hZ14
            have hcvb : ∀ b, cv.ownBlock = some b → w.heap.size ≤ b ∧ b < w'.heap.size := fun b q => hCR.own.lt q
            have hrow8 : arT.Row w8_14 (old w8_14) (some ⟨b8_14, 0, none⟩) [(.slice Aa (D.ar i).now.length cca, .slice Ab (D.ar i).lasts.length ccb, .slice Ac (D.ar i).pend.length ccc)] := Blk.row B8_14 (Blk.lt B8_14) (fun q hq => by
              have hq0 : q = 0 := by simp at hq; omega
              subst hq0
              exact ⟨_, ⟨rfl, rfl, rfl, rfl⟩, fun j hj => by simp [arT]⟩)
            have hll : (arL i nv lv pv).length = i := by simp [arL]
            obtain ⟨cv', w5, hr5, hO5, hG5, hv5⟩ := run_append (T := arT) (F := nobody) (P := Try.prog) (t := 53) (ty := 53) (l := arL i nv lv pv) (m := [(.slice Aa (D.ar i).now.length cca, .slice Ab (D.ar i).lasts.length ccb, .slice Ac (D.ar i).pend.length ccc)]) (c := 1) Try.underlying53 Try.sz75 Try.by75 Try.zero75 rfl hOcv (hrow8.srcF flat_ar) (fun _ q => q.elim) (by rw [hll]; simp only [List.length_singleton]; omega) (by rw [hll]; simp only [List.length_singleton]; omega) (Nat.le_trans hX0.size hZ14.size)
            have hcp5 : cv'.ownBlock ≠ some b3_3 := fun q => by
              rcases hv5 with e | ⟨g, e, hg⟩
              · rw [e] at q; exact hCR.cp q
              · rw [e] at q; cases q; have := hCR.lo.2; have := hZ14.size; omega
            have e3 : cv.ownBlock ≠ some b3_3 := hCR.cp
            have e7 : cv.ownBlock ≠ some b7_2 := fun q => by have := (hcvb _ q).2; have := L7_2; omega
            replace hX := hX.gro hG5 hX.size (fun q hq => (hcvb q hq).1)
            have e14 : cv.ownBlock ≠ some b8_14 := fun q => by have := (hcvb _ q).2; have := hZ14.size; have := L8_14; have := ((hZd.trans hEa).trans hEb).trans hEc |>.size; omega
            replace B3_3 := gro_blk hG5 B3_3 e3
            replace B8_14 := gro_blk hG5 B8_14 e14
            replace B7_2 := gro_blk hG5 B7_2 e7
            obtain ⟨A5, c5, h5e, _, _⟩ := own_frow hO5
            replace hS : Ext w w5 ∧ Same (fun b : Nat => b = b7_2 ∨ False) wd8 w5 := ⟨hX, fun b hb => Or.elim hb (fun q => by subst q; exact Blk.eq B7_2 DB7_2) (fun q => q.elim)⟩
            refine O_val rfl rfl (r_append rfl rfl hr5) hS ?_
            subst h5e
            refine A_take (i := 16) rfl (by kernel_rfl) (by kernel_rfl) (by kernel_rfl) rfl hS (fun _ hw => r_fieldAddr rfl Try.fld55_0 rfl) ?_
            refine A_ready1 (i := 17) (by kernel_rfl) ?_
            refine O_store (v := .slice _ _ _) rfl rfl rfl rfl Try.sz53 B3_3 (Nat.le_of_ble_eq_true rfl) ?_
            intro w8_17 C8_17 BB8_17
            replace B7_2 := Chg.blk C8_17 B7_2 (fun q => hNb3_3_7_2 q.symm)
            replace B8_14 := Chg.blk C8_17 B8_14 (fun q => hNb3_3_8_14 q.symm)
            replace hX := hX.chg C8_17 hG3_3
            replace B3_3 := BB8_17
            replace hS : Ext w w8_17 ∧ Same (fun b : Nat => b = b7_2 ∨ False) wd8 w8_17 := ⟨hX, fun b hb => Or.elim hb (fun q => by subst q; exact Blk.eq B7_2 DB7_2) (fun hb => hb.elim)⟩
            refine ⟨hS, ?_⟩
            refine A_done (by kernel_rfl) ?_
            refine W_region ?_
            refine op rfl (r_add' rfl rfl (wrap_i64 (by omega) (by omega))) ?_
            refine op rfl (r_moveV (v := .int _ _) rfl) ?_
            refine WL_nil ?_
            refine ⟨?_, by repeat (first | with_reducible exact Out.refl _ _ | with_reducible exact Out.mix | refine Out.put rfl ?_ | refine Out.mixin rfl ?_ | exact Out.refl _ _ | exact Out.mix)⟩
            have hst := hCR.step (hZd.trans hEa) hEb hEc E8_14 hX0.size (hOa.low hZd.size) hOb hOc hG5 hO5 hv5 C8_17 hcp5
            exact ⟨D.n - (i + 1), by omega, i + 1, _, _, _, _, rfl, by omega, rfl, hst, B3_3, hX⟩
          · refine O_call rfl rfl (r_call Try.func44 Try.nm44 rfl) (cloneSt_spec Ap cp (D.ar i).pend _ (by omega) (F := old wb) (fun b hb ↦ hb) (hrp.ext ((hZd.trans hEa).trans hEb))) ?_
            rintro vc wc ⟨hE, hOc⟩
            replace B3_3 := Blk.ext B3_3 hE
            replace B7_2 := Blk.ext B7_2 hE
            replace hX := hX.trans hE
            replace hS : Ext w wc ∧ Same (fun b : Nat => b = b7_2 ∨ False) wd8 wc := ⟨hX, fun b hb => Or.elim hb (fun q => by subst q; exact Blk.eq B7_2 DB7_2) (fun hb => hb.elim)⟩
            refine ⟨hS, ?_⟩
            have hEc := hE
            obtain ⟨Ac, ccc, hce, _, _⟩ := own_frow hOc
            subst hce
            refine A_take (i := 13) rfl (by kernel_rfl) (by kernel_rfl) (by kernel_rfl) rfl hS (fun _ hw => r_build3 Try.lay75 rfl rfl rfl rfl rfl rfl rfl rfl) ?_
            refine A_ready2 (i := 1) (j := 14) (by kernel_rfl) ?_ ?_
            · refine O_val rfl rfl (r_load (v := cv) rfl Try.underlying53 rfl (Blk.cell B3_3 rfl)) (hS) ?_
              refine A_ready1 (i := 14) (by kernel_rfl) ?_
              refine O_newS rfl rfl (r_buildRows (vs := [[.slice _ _ _, .slice _ _ _, .slice _ _ _]]) Try.underlying53 Try.sz75 Try.zero75 rfl rfl rfl) ?_
              intro w8_14 b8_14 E8_14 B8_14 L8_14
              have hG8_14 : w.heap.size ≤ b8_14 := by have := hX.size; omega
              have hNb3_3_8_14 : b3_3 ≠ b8_14 := by have := Blk.lt B3_3; omega
              replace B3_3 := Blk.ext B3_3 E8_14
              have hNb7_2_8_14 : b7_2 ≠ b8_14 := by have := Blk.lt B7_2; omega
              replace B7_2 := Blk.ext B7_2 E8_14
              replace hX := hX.trans E8_14
              replace hS : Ext w w8_14 ∧ Same (fun b : Nat => b = b7_2 ∨ False) wd8 w8_14 := ⟨hX, fun b hb => Or.elim hb (fun q => by subst q; exact Blk.eq B7_2 DB7_2) (fun hb => hb.elim)⟩
              refine ⟨hS, ?_⟩
              refine A_ready1 (i := 15) (by kernel_rfl) ?_
              have hZ14 : Ext w' w8_14 := ((((hZd.trans hEa).trans hEb).trans hEc).trans E8_14)
              have hOcv := own_fext hCR.own hZ14
              have hcvb : ∀ b, cv.ownBlock = some b → w.heap.size ≤ b ∧ b < w'.heap.size := fun b q => hCR.own.lt q
              have hrow8 : arT.Row w8_14 (old w8_14) (some ⟨b8_14, 0, none⟩) [(.slice Aa (D.ar i).now.length cca, .slice Ab (D.ar i).lasts.length ccb, .slice Ac (D.ar i).pend.length ccc)] := Blk.row B8_14 (Blk.lt B8_14) (fun q hq => by
                have hq0 : q = 0 := by simp at hq; omega
                subst hq0
                exact ⟨_, ⟨rfl, rfl, rfl, rfl⟩, fun j hj => by simp [arT]⟩)
              have hll : (arL i nv lv pv).length = i := by simp [arL]
              obtain ⟨cv', w5, hr5, hO5, hG5, hv5⟩ := run_append (T := arT) (F := nobody) (P := Try.prog) (t := 53) (ty := 53) (l := arL i nv lv pv) (m := [(.slice Aa (D.ar i).now.length cca, .slice Ab (D.ar i).lasts.length ccb, .slice Ac (D.ar i).pend.length ccc)]) (c := 1) Try.underlying53 Try.sz75 Try.by75 Try.zero75 rfl hOcv (hrow8.srcF flat_ar) (fun _ q => q.elim) (by rw [hll]; simp only [List.length_singleton]; omega) (by rw [hll]; simp only [List.length_singleton]; omega) (Nat.le_trans hX0.size hZ14.size)
              have hcp5 : cv'.ownBlock ≠ some b3_3 := fun q => by
                rcases hv5 with e | ⟨g, e, hg⟩
                · rw [e] at q; exact hCR.cp q
                · rw [e] at q; cases q; have := hCR.lo.2; have := hZ14.size; omega
              have e3 : cv.ownBlock ≠ some b3_3 := hCR.cp
              have e7 : cv.ownBlock ≠ some b7_2 := fun q => by have := (hcvb _ q).2; have := L7_2; omega
              replace hX := hX.gro hG5 hX.size (fun q hq => (hcvb q hq).1)
              have e14 : cv.ownBlock ≠ some b8_14 := fun q => by have := (hcvb _ q).2; have := hZ14.size; have := L8_14; have := ((hZd.trans hEa).trans hEb).trans hEc |>.size; omega
              replace B3_3 := gro_blk hG5 B3_3 e3
              replace B8_14 := gro_blk hG5 B8_14 e14
              replace B7_2 := gro_blk hG5 B7_2 e7
              obtain ⟨A5, c5, h5e, _, _⟩ := own_frow hO5
              replace hS : Ext w w5 ∧ Same (fun b : Nat => b = b7_2 ∨ False) wd8 w5 := ⟨hX, fun b hb => Or.elim hb (fun q => by subst q; exact Blk.eq B7_2 DB7_2) (fun q => q.elim)⟩
              refine O_val rfl rfl (r_append rfl rfl hr5) hS ?_
              subst h5e
              refine A_take (i := 16) rfl (by kernel_rfl) (by kernel_rfl) (by kernel_rfl) rfl hS (fun _ hw => r_fieldAddr rfl Try.fld55_0 rfl) ?_
              refine A_ready1 (i := 17) (by kernel_rfl) ?_
              refine O_store (v := .slice _ _ _) rfl rfl rfl rfl Try.sz53 B3_3 (Nat.le_of_ble_eq_true rfl) ?_
              intro w8_17 C8_17 BB8_17
              replace B7_2 := Chg.blk C8_17 B7_2 (fun q => hNb3_3_7_2 q.symm)
              replace B8_14 := Chg.blk C8_17 B8_14 (fun q => hNb3_3_8_14 q.symm)
              replace hX := hX.chg C8_17 hG3_3
              replace B3_3 := BB8_17
              replace hS : Ext w w8_17 ∧ Same (fun b : Nat => b = b7_2 ∨ False) wd8 w8_17 := ⟨hX, fun b hb => Or.elim hb (fun q => by subst q; exact Blk.eq B7_2 DB7_2) (fun hb => hb.elim)⟩
              refine ⟨hS, ?_⟩
              refine A_done (by kernel_rfl) ?_
              refine W_region ?_
              refine op rfl (r_add' rfl rfl (wrap_i64 (by omega) (by omega))) ?_
              refine op rfl (r_moveV (v := .int _ _) rfl) ?_
              refine WL_nil ?_
              refine ⟨?_, by repeat (first | with_reducible exact Out.refl _ _ | with_reducible exact Out.mix | refine Out.put rfl ?_ | refine Out.mixin rfl ?_ | exact Out.refl _ _ | exact Out.mix)⟩
              have hst := hCR.step (hZd.trans hEa) hEb hEc E8_14 hX0.size (hOa.low hZd.size) hOb hOc hG5 hO5 hv5 C8_17 hcp5
              exact ⟨D.n - (i + 1), by omega, i + 1, _, _, _, _, rfl, by omega, rfl, hst, B3_3, hX⟩
            · refine O_newS rfl rfl (r_buildRows (vs := [[.slice _ _ _, .slice _ _ _, .slice _ _ _]]) Try.underlying53 Try.sz75 Try.zero75 rfl rfl rfl) ?_
              intro w8_14 b8_14 E8_14 B8_14 L8_14
              have hG8_14 : w.heap.size ≤ b8_14 := by have := hX.size; omega
              have hNb3_3_8_14 : b3_3 ≠ b8_14 := by have := Blk.lt B3_3; omega
              replace B3_3 := Blk.ext B3_3 E8_14
              have hNb7_2_8_14 : b7_2 ≠ b8_14 := by have := Blk.lt B7_2; omega
              replace B7_2 := Blk.ext B7_2 E8_14
              replace hX := hX.trans E8_14
              replace hS : Ext w w8_14 ∧ Same (fun b : Nat => b = b7_2 ∨ False) wd8 w8_14 := ⟨hX, fun b hb => Or.elim hb (fun q => by subst q; exact Blk.eq B7_2 DB7_2) (fun hb => hb.elim)⟩
              refine ⟨hS, ?_⟩
              refine A_ready1 (i := 1) (by kernel_rfl) ?_
              refine O_val rfl rfl (r_load (v := cv) rfl Try.underlying53 rfl (Blk.cell B3_3 rfl)) (hS) ?_
              refine A_ready1 (i := 15) (by kernel_rfl) ?_
              have hZ14 : Ext w' w8_14 := ((((hZd.trans hEa).trans hEb).trans hEc).trans E8_14)
              have hOcv := own_fext hCR.own hZ14
              have hcvb : ∀ b, cv.ownBlock = some b → w.heap.size ≤ b ∧ b < w'.heap.size := fun b q => hCR.own.lt q
              have hrow8 : arT.Row w8_14 (old w8_14) (some ⟨b8_14, 0, none⟩) [(.slice Aa (D.ar i).now.length cca, .slice Ab (D.ar i).lasts.length ccb, .slice Ac (D.ar i).pend.length ccc)] := Blk.row B8_14 (Blk.lt B8_14) (fun q hq => by
                have hq0 : q = 0 := by simp at hq; omega
                subst hq0
                exact ⟨_, ⟨rfl, rfl, rfl, rfl⟩, fun j hj => by simp [arT]⟩)
              have hll : (arL i nv lv pv).length = i := by simp [arL]
              obtain ⟨cv', w5, hr5, hO5, hG5, hv5⟩ := run_append (T := arT) (F := nobody) (P := Try.prog) (t := 53) (ty := 53) (l := arL i nv lv pv) (m := [(.slice Aa (D.ar i).now.length cca, .slice Ab (D.ar i).lasts.length ccb, .slice Ac (D.ar i).pend.length ccc)]) (c := 1) Try.underlying53 Try.sz75 Try.by75 Try.zero75 rfl hOcv (hrow8.srcF flat_ar) (fun _ q => q.elim) (by rw [hll]; simp only [List.length_singleton]; omega) (by rw [hll]; simp only [List.length_singleton]; omega) (Nat.le_trans hX0.size hZ14.size)
              have hcp5 : cv'.ownBlock ≠ some b3_3 := fun q => by
                rcases hv5 with e | ⟨g, e, hg⟩
                · rw [e] at q; exact hCR.cp q
                · rw [e] at q; cases q; have := hCR.lo.2; have := hZ14.size; omega
              have e3 : cv.ownBlock ≠ some b3_3 := hCR.cp
              have e7 : cv.ownBlock ≠ some b7_2 := fun q => by have := (hcvb _ q).2; have := L7_2; omega
              replace hX := hX.gro hG5 hX.size (fun q hq => (hcvb q hq).1)
              have e14 : cv.ownBlock ≠ some b8_14 := fun q => by have := (hcvb _ q).2; have := hZ14.size; have := L8_14; have := ((hZd.trans hEa).trans hEb).trans hEc |>.size; omega
              replace B3_3 := gro_blk hG5 B3_3 e3
              replace B8_14 := gro_blk hG5 B8_14 e14
              replace B7_2 := gro_blk hG5 B7_2 e7
              obtain ⟨A5, c5, h5e, _, _⟩ := own_frow hO5
              replace hS : Ext w w5 ∧ Same (fun b : Nat => b = b7_2 ∨ False) wd8 w5 := ⟨hX, fun b hb => Or.elim hb (fun q => by subst q; exact Blk.eq B7_2 DB7_2) (fun q => q.elim)⟩
              refine O_val rfl rfl (r_append rfl rfl hr5) hS ?_
              subst h5e
              refine A_take (i := 16) rfl (by kernel_rfl) (by kernel_rfl) (by kernel_rfl) rfl hS (fun _ hw => r_fieldAddr rfl Try.fld55_0 rfl) ?_
              refine A_ready1 (i := 17) (by kernel_rfl) ?_
              refine O_store (v := .slice _ _ _) rfl rfl rfl rfl Try.sz53 B3_3 (Nat.le_of_ble_eq_true rfl) ?_
              intro w8_17 C8_17 BB8_17
              replace B7_2 := Chg.blk C8_17 B7_2 (fun q => hNb3_3_7_2 q.symm)
              replace B8_14 := Chg.blk C8_17 B8_14 (fun q => hNb3_3_8_14 q.symm)
              replace hX := hX.chg C8_17 hG3_3
              replace B3_3 := BB8_17
              replace hS : Ext w w8_17 ∧ Same (fun b : Nat => b = b7_2 ∨ False) wd8 w8_17 := ⟨hX, fun b hb => Or.elim hb (fun q => by subst q; exact Blk.eq B7_2 DB7_2) (fun hb => hb.elim)⟩
              refine ⟨hS, ?_⟩
              refine A_done (by kernel_rfl) ?_
              refine W_region ?_
              refine op rfl (r_add' rfl rfl (wrap_i64 (by omega) (by omega))) ?_
              refine op rfl (r_moveV (v := .int _ _) rfl) ?_
              refine WL_nil ?_
              refine ⟨?_, by repeat (first | with_reducible exact Out.refl _ _ | with_reducible exact Out.mix | refine Out.put rfl ?_ | refine Out.mixin rfl ?_ | exact Out.refl _ _ | exact Out.mix)⟩
              have hst := hCR.step (hZd.trans hEa) hEb hEc E8_14 hX0.size (hOa.low hZd.size) hOb hOc hG5 hO5 hv5 C8_17 hcp5
              exact ⟨D.n - (i + 1), by omega, i + 1, _, _, _, _, rfl, by omega, rfl, hst, B3_3, hX⟩
    · obtain rfl : i = D.n := by omega
      obtain ⟨Hc, hc1, hc2⟩ := hCR.dr rfl hn0 B3_3
      refine W_exit (blk_hit ?_)
      refine W_seq ?_
      refine W_region ?_
      refine op rfl (r_assignV (v := .pointer _) rfl) ?_
      refine WL_nil ?_
      refine W_ret (finX_ret ?_)
      refine fin1 ?_
      exact ⟨_, rfl, b3_3, rfl, hX, Hc, hc1, hc2⟩
end Go.Proofs.Ytlidigdlcjhkfaa
