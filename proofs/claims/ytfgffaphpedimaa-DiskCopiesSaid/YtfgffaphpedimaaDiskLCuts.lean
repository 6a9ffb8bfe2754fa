/-
  Cut and grown, and synced, an area is what it is read as: the walk.
-/
import Derived.Test.YtfgffaphpedimaaFacts
import Derived.Test.YtfgffaphpedimaaDiskK
import Derived.Test.YtfgffaphpedimaaDiskV
import Derived.Test.YtfgffaphpedimaaDiskC
namespace Go.Proofs.Ytfgffaphpedimaa
open Go Go.Eng Go.RowKit Go.Proofs
set_option linter.unusedVariables false
set_option linter.unusedSimpArgs false
set_option maxHeartbeats 8000000
set_option maxRecDepth 20000

structure CS (D : Dk) (a0 a1 : Ar) : Prop where
  live : Live D
  n : D.n = 3
  room : D.room = 5000
  e0 : D.ar 0 = a0
  e1 : D.ar 1 = a1
  e2 : D.ar 2 = ⟨[], [], []⟩
theorem CS.used {D : Dk} {a0 a1 : Ar} (h : CS D a0 a1) : D.used = a0.now.length + a1.now.length := by
  unfold Dk.used
  rw [h.n]
  simp only [sumTo, h.e0, h.e1, h.e2]
  simp
theorem CS.t {D : Dk} {a0 a1 : Ar} (h : CS D a0 a1) {a : Int} (h0 : 0 ≤ a) (h1 : a ≤ 1) : D.there a := by unfold Dk.there; rw [h.n]; omega
theorem CS.new : CS (Dk.new 3 5000) ⟨[], [], []⟩ ⟨[], [], []⟩ := ⟨live_new _ _, rfl, rfl, rfl, rfl, rfl⟩
theorem CS.append0 {D : Dk} {a0 a1 : Ar} (h : CS D a0 a1) (b : List UInt8) (hb : a0.now.length + a1.now.length + b.length ≤ 5000) : (D.append 0 b).2 = 0 ∧ CS (D.append 0 b).1 ⟨a0.now ++ b, a0.lasts, a0.pend ++ b.map St.grow⟩ a1 := by
  obtain ⟨e1, l1, n1, r1, a1'⟩ := live_append h.live (a := 0) (b := b) (h.t (by omega) (by omega)) (by rw [h.used, h.room]; exact hb)
  have hz : (0 : Int).toNat = 0 := rfl
  rw [hz, h.e0] at a1'
  exact ⟨e1, l1, by rw [n1, h.n], by rw [r1, h.room], by rw [a1']; simp, by rw [a1']; simp [h.e1], by rw [a1']; simp [h.e2]⟩
theorem CS.append1 {D : Dk} {a0 a1 : Ar} (h : CS D a0 a1) (b : List UInt8) (hb : a0.now.length + a1.now.length + b.length ≤ 5000) : (D.append 1 b).2 = 0 ∧ CS (D.append 1 b).1 a0 ⟨a1.now ++ b, a1.lasts, a1.pend ++ b.map St.grow⟩ := by
  obtain ⟨e1, l1, n1, r1, a1'⟩ := live_append h.live (a := 1) (b := b) (h.t (by omega) (by omega)) (by rw [h.used, h.room]; exact hb)
  have hz : (1 : Int).toNat = 1 := rfl
  rw [hz, h.e1] at a1'
  exact ⟨e1, l1, by rw [n1, h.n], by rw [r1, h.room], by rw [a1']; simp [h.e0], by rw [a1']; simp, by rw [a1']; simp [h.e2]⟩
theorem CS.sync0 {D : Dk} {a0 a1 : Ar} (h : CS D a0 a1) : (D.sync 0).2 = 0 ∧ CS (D.sync 0).1 ⟨a0.now, a0.now, []⟩ a1 := by
  obtain ⟨e1, l1, n1, r1, a1'⟩ := live_sync h.live (a := 0) (h.t (by omega) (by omega))
  have hz : (0 : Int).toNat = 0 := rfl
  rw [hz, h.e0] at a1'
  exact ⟨e1, l1, by rw [n1, h.n], by rw [r1, h.room], by rw [a1']; simp, by rw [a1']; simp [h.e1], by rw [a1']; simp [h.e2]⟩
theorem CS.sync1 {D : Dk} {a0 a1 : Ar} (h : CS D a0 a1) : (D.sync 1).2 = 0 ∧ CS (D.sync 1).1 a0 ⟨a1.now, a1.now, []⟩ := by
  obtain ⟨e1, l1, n1, r1, a1'⟩ := live_sync h.live (a := 1) (h.t (by omega) (by omega))
  have hz : (1 : Int).toNat = 1 := rfl
  rw [hz, h.e1] at a1'
  exact ⟨e1, l1, by rw [n1, h.n], by rw [r1, h.room], by rw [a1']; simp [h.e0], by rw [a1']; simp, by rw [a1']; simp [h.e2]⟩
theorem CS.cut1 {D : Dk} {a0 a1 : Ar} (h : CS D a0 a1) (k : Nat) (hk : k ≤ a1.now.length) : (D.cut 1 k).2 = 0 ∧ CS (D.cut 1 k).1 a0 ⟨a1.now.take k, a1.lasts, a1.pend ++ [St.cut k]⟩ := by
  have hz : (1 : Int).toNat = 1 := rfl
  obtain ⟨e1, l1, n1, r1, a1'⟩ := live_cut h.live (a := 1) (n := k) (h.t (by omega) (by omega)) (by omega) (by rw [hz, h.e1]; omega)
  rw [hz, h.e1] at a1'
  have hk2 : (k : Int).toNat = k := by omega
  rw [hk2] at a1'
  exact ⟨e1, l1, by rw [n1, h.n], by rw [r1, h.room], by rw [a1']; simp [h.e0], by rw [a1']; simp, by rw [a1']; simp [h.e2]⟩
theorem CS.read {D : Dk} {a0 a1 : Ar} (h : CS D a0 a1) : D.read 1 = a1.now ∧ (D.restart 0).read 1 = a1.lasts ∧ (D.restart 0).read 0 = a0.lasts := by
  have hz : (1 : Int).toNat = 1 := rfl
  have hz0 : (0 : Int).toNat = 0 := rfl
  have t1 := h.t (a := 1) (by omega) (by omega)
  have t0 := h.t (a := 0) (by omega) (by omega)
  have t1' : (D.restart 0).there 1 := t1
  have t0' : (D.restart 0).there 0 := t0
  have hn := h.n
  refine ⟨?_, ?_, ?_⟩
  · unfold Dk.read; rw [if_pos t1, hz, h.e1]
  · unfold Dk.read; rw [if_pos t1', hz]
    simp only [Dk.restart, hn, show (1 : Nat) < 3 by omega, if_true, h.e1, Ar.back]
    simp [runs]
  · unfold Dk.read; rw [if_pos t0', hz0]
    simp only [Dk.restart, hn, show (0 : Nat) < 3 by omega, if_true, h.e0, Ar.back]
    simp [runs]
theorem copy_da {p B : Nat} {w : World} {D : Dk} (h : DA p B w D) {k : Nat} (hw : WF D k) (hk : k ≤ 1073741824) (hn : 0 < D.n) : Calls Try.prog 23 #[dq p] w (fun en w' => ∃ v, en = .returned v ∧ ∃ q, v = dq q ∧ Ext w w' ∧ DA q w.heap.size w' D) := by
  obtain ⟨H, rfl, hR⟩ := h
  exact copy_spec hR hw hk hn
/-- All that has come since is not the disk's. -/
theorem DA.all {p B : Nat} {w w' : World} {D : Dk} (h : DA p B w D) (he : Ext w w') : FA p B (fun b => w.heap.size ≤ b ∧ b < w'.heap.size) w' D := by
  obtain ⟨H, h1, h2⟩ := h
  exact ⟨H, h1, h2.ext he, fun b hb => ⟨hb.2, h2.off_lt hb.1, h2.off2_lt hb.1⟩⟩
/-- A disk whose blocks all come behind stays. -/
theorem DA.keepF {q Bq m : Nat} {w w' : World} {D : Dk} (h : DA q Bq w D) (hm : m ≤ Bq) (hS : Same (fun b => m ≤ b ∧ b < w.heap.size) w w') : DA q Bq w' D := by
  obtain ⟨H, h1, h2⟩ := h
  have hlo := h2.lo
  refine ⟨H, h1, h2.keep (hS _ ⟨by omega, Blk.lt h2.bp⟩) (hS _ ⟨by omega, by obtain ⟨cs, hc, _⟩ := h2.bg; exact Blk.lt hc⟩) (fun i hi b hb => ?_)⟩
  rcases hb with hb | hb | hb
  · have := (h2.nv i hi).lt hb; exact hS b ⟨by omega, this.2⟩
  · have := (h2.lv i hi).lt hb; exact hS b ⟨by omega, this.2⟩
  · have := (h2.pv i hi).lt hb; exact hS b ⟨by omega, this.2⟩
def other : List UInt8 := [111, 116, 104, 101, 114]
theorem diskCuts_walk (W : World) (A : Option Addr) (ca : Nat) (a : List UInt8) (hca : a.length ≤ ca) (ha : a.length ≤ big) (hA : Ty.byte.Row W (old W) A a) (n : Int) (hn : inK .u8 n)
    (Bb : Option Addr) (cb : Nat) (b : List UInt8) (hcb : b.length ≤ cb) (hb : b.length ≤ big) (hB : Ty.byte.Row W (old W) Bb b) :
    Calls Try.prog 7 #[.slice A a.length ca, .int .u8 n, .slice Bb b.length cb] W (fun e W' => ∃ v, e = .returned v ∧ v = .bool true ∧ Ext W W') := by
  have hla : a.length ≤ 140737488355328 := ha
  have hlb : b.length ≤ 140737488355328 := hb
  have hn0 : 0 ≤ n ∧ n ≤ 255 := by simp only [inK, lo, hi] at hn; exact hn
  clear ha hb hn
  obtain ⟨k, hk, hka⟩ : ∃ k : Nat, n.tmod ((a.length : Int) + 1) = k ∧ k ≤ a.length := by
    rw [Int.tmod_eq_emod_of_nonneg hn0.1]
    have h1 := Int.emod_nonneg n (b := (a.length : Int) + 1) (by omega)
    have h2 := Int.emod_lt_of_pos n (b := (a.length : Int) + 1) (by omega)
    exact ⟨(n % ((a.length : Int) + 1)).toNat, by omega, by omega⟩
  refine calls' (n := 94) (rs := #[.tmp 6]) (l := [.slice A a.length ca, .int .u8 n, .slice Bb b.length cb]) Try.func7 rfl rfl rfl rfl rfl ?_
  refine W_seq ?_
  refine W_region ?_
  refine op rfl (r_assignV (v := .bool _) rfl) ?_
  refine WL_nil ?_
  refine W_seq ?_
  refine W_seq ?_
  refine W_region ?_
  refine op rfl (r_moveV (v := .slice _ _ _) rfl) ?_
  refine op rfl (r_len_slice rfl Try.underlying23) ?_
  refine op rfl (r_moveV (v := .slice _ _ _) rfl) ?_
  refine op rfl (r_len_slice rfl Try.underlying23) ?_
  refine op rfl (r_add' rfl rfl (wrap_i64 (by omega) (by omega))) ?_
  refine op rfl (r_gtr rfl rfl) ?_
  refine WL_nil ?_
  refine W_ifp rfl (fun ht18 => ?_) (fun ht18 => ?_)
  · refine W_seq ?_
    refine W_region ?_
    refine opCv rfl (r_call Try.func10 Try.nm10 rfl) (known_spec _) ?_
    rintro v w2 ⟨rfl, hE2⟩
    refine op rfl (r_assignV (v := .bool _) rfl) ?_
    refine WL_nil ?_
    refine W_ret (finX_ret ?_)
    refine fin1 ?_
    first
      | exact ⟨_, rfl, rfl, hE2⟩
      | exact ⟨_, rfl, rfl, ((((((hX15.trans hE16).trans hE17).trans hE18).trans hE19).trans hE20).trans hE21).trans hE22⟩
  · have hab : a.length + b.length ≤ 600 := by omega
    have hol : other.length = 5 := rfl
    have c0 := CS.new
    obtain ⟨x1, c1⟩ := c0.append0 other (by simp [other])
    obtain ⟨x2, c2⟩ := c1.sync0
    obtain ⟨x3, c3⟩ := c2.append1 a (by simp [other]; omega)
    obtain ⟨x4, c4⟩ := c3.sync1
    obtain ⟨x5, c5⟩ := c4.cut1 k (by simp; exact hka)
    obtain ⟨x6, c6⟩ := c5.append1 b (by simp [other]; omega)
    obtain ⟨x7, c7⟩ := c6.sync1
    have f0 := WF.new 3 5000
    have f1 := f0.append 0 other
    have f2 := f1.sync 0
    have f3 := f2.append 1 a
    have f4 := f3.sync 1
    have f5 := f4.cut 1 k
    have f6 := f5.append 1 b
    have f7 := f6.sync 1
    rw [hol] at f1 f2 f3 f4 f5 f6 f7
    generalize hg1 : ((Dk.new 3 5000).append 0 other).1 = D1 at *
    generalize hg2 : (D1.sync 0).1 = D2 at *
    generalize hg3 : (D2.append 1 a).1 = D3 at *
    generalize hg4 : (D3.sync 1).1 = D4 at *
    generalize hg5 : (D4.cut 1 k).1 = D5 at *
    generalize hg6 : (D5.append 1 b).1 = D6 at *
    generalize hg7 : (D6.sync 1).1 = D7 at *
    have r6 := c6.read
    have r7 := c7.read
    have f6r := f6.restart 0
    have f7r := f7.restart 0
    simp only [List.nil_append] at r6 r7
    refine W_skip ?_
    refine W_seq ?_
    refine W_region ?_
    refine opCv rfl (r_call Try.func11 Try.nm11 rfl) (new_da 3 5000 W) ?_
    rintro v w1 ⟨p, rfl, hE1, hD0⟩
    refine op rfl (r_assignV (v := .pointer _) rfl) ?_
    refine WL_nil ?_
    refine W_seq ?_
    refine W_region ?_
    refine op rfl (r_moveV (v := .pointer _) rfl) ?_
    refine op_newS rfl (r_buildSlice (vs := [.int .u8 111, .int .u8 116, .int .u8 104, .int .u8 101, .int .u8 114]) Try.underlying23 Try.sz5 Try.zero5 rfl rfl rfl) ?_
    intro w4_1 b4_1 E4_1 B4_1 L4_1
    refine op_convB rfl rfl Try.underlying23 Try.underlying5 (by assumption) ?_
    intro w4_2 C4_2 B4_2
    refine opCv rfl (r_call Try.func12 Try.nm12 rfl) (append_lit (l := other) hD0 E4_1 L4_1 C4_2 B4_2 rfl (by decide) rfl f0 (by omega) 0) ?_
    rintro v w3 ⟨rfl, hD1, hB1, hle1⟩
    rw [hg1] at hD1
    have hX1 : Ext W w3 := Below.trans ((hE1.trans E4_1).chg C4_2 (by have := hE1.size; have := L4_1; omega)) hB1
    refine WL_nil ?_
    refine W_seq ?_
    refine W_region ?_
    refine op rfl (r_moveV (v := .pointer _) rfl) ?_
    refine opCv rfl (r_call Try.func13 Try.nm13 rfl) (sync_da hD1 f1 (by omega) 0) ?_
    rintro v w4 ⟨rfl, hD2, hB2⟩
    rw [hg2] at hD2
    have hX2 : Ext W w4 := Below.trans hX1 hB2
    refine WL_nil ?_
    refine W_seq ?_
    refine W_region ?_
    refine op rfl (r_moveV (v := .pointer _) rfl) ?_
    refine op rfl (r_moveV (v := .slice _ _ _) rfl) ?_
    refine opCv rfl (r_call Try.func12 Try.nm12 rfl) (append_da hD2 f2 (by omega) 1 A ca a hla (F := old W) (fun x hx ↦ hx) (hA.keep hX2.same (fun _ h ↦ h))) ?_
    rintro v w5 ⟨rfl, hD3, hB3⟩
    rw [hg3] at hD3
    have hX3 : Ext W w5 := Below.trans hX2 hB3
    refine WL_nil ?_
    refine W_seq ?_
    refine W_region ?_
    refine op rfl (r_moveV (v := .pointer _) rfl) ?_
    refine opCv rfl (r_call Try.func13 Try.nm13 rfl) (sync_da hD3 f3 (by omega) 1) ?_
    rintro v w6 ⟨rfl, hD4, hB4⟩
    rw [hg4] at hD4
    have hX4 : Ext W w6 := Below.trans hX3 hB4
    refine WL_nil ?_
    refine W_seq ?_
    refine W_region ?_
    refine op rfl (r_moveV (v := .int _ _) rfl) ?_
    refine op rfl (r_conv' rfl Try.underlying5 Try.underlying3 (wrap_i64 (by omega) (by omega))) ?_
    refine op rfl (r_moveV (v := .slice _ _ _) rfl) ?_
    refine op rfl (r_len_slice rfl Try.underlying23) ?_
    refine op rfl (r_add' rfl rfl (wrap_i64 (by omega) (by omega))) ?_
    refine op rfl (r_rem' rfl rfl (by omega) hk) ?_
    refine op rfl (r_assignV (v := .int _ _) rfl) ?_
    refine WL_nil ?_
    refine W_seq ?_
    refine W_seq ?_
    refine W_region ?_
    refine op rfl (r_moveV (v := .pointer _) rfl) ?_
    refine op rfl (r_moveV (v := .int _ _) rfl) ?_
    refine opCv rfl (r_call Try.func19 Try.nm19 rfl) (cut_da hD4 f4 (by omega) 1 k) ?_
    rintro v w7 ⟨rfl, hD5, hB5⟩
    rw [hg5] at hD5
    rw [x5]
    have hX5 : Ext W w7 := Below.trans hX4 hB5
    refine op rfl (r_neq rfl rfl) ?_
    refine op_false rfl (r_moveV (v := .bool (decide _)) rfl) (fun h => h rfl) ?_
    refine opG_yes rfl rfl rfl rfl rfl (r_moveV (v := .pointer _) rfl) ?_
    refine opG_yes rfl rfl rfl rfl rfl (r_moveV (v := .slice _ _ _) rfl) ?_
    refine opGCv_yes rfl rfl rfl rfl rfl (r_call Try.func12 Try.nm12 rfl) (append_da hD5 f5 (by omega) 1 Bb cb b hlb (F := old W) (fun x hx ↦ hx) (hB.keep hX5.same (fun _ h ↦ h))) ?_
    rintro v w8 ⟨rfl, hD6, hB6⟩
    rw [hg6] at hD6
    rw [x6]
    have hX6 : Ext W w8 := Below.trans hX5 hB6
    have htl : (a.take k).length = k := by simp; omega
    refine opG_yes rfl rfl rfl rfl rfl (r_neq rfl rfl) ?_
    refine op rfl (r_pickFV (v := .bool _) rfl rfl) ?_
    refine WL_nil ?_
    refine W_ifp rfl (fun ht47 => ?_) (fun ht47 => ?_)
    · exact absurd rfl ht47
    · refine W_skip ?_
      refine W_seq ?_
      refine W_region ?_
      refine op rfl (r_assignV (v := .slice _ _ _) rfl) ?_
      refine WL_nil ?_
      refine W_seq ?_
      refine W_region ?_
      refine op rfl (r_moveV (v := .slice _ _ _) rfl) ?_
      refine op rfl (r_moveV (v := .slice _ _ _) rfl) ?_
      refine op rfl (r_moveV (v := .int _ _) rfl) ?_
      refine op rfl (r_sliceHi (j := k) rfl rfl Try.underlying23 Try.sz5 (by omega)) ?_
      obtain ⟨wv, w9, hr9, hO9, hG9, hv9⟩ := append_run (B := w8.heap.size) (v := .slice none 0 0) (l := []) (m := a.take k) (A := A) (c := ca) (Nat.le_refl _) Own.nil ((hA.ext hX6).take k) (by simp only [List.length_nil]; omega)
      rw [htl] at hr9
      rw [List.nil_append] at hO9
      have hE9 : Ext w8 w9 := Gro.ext hG9
      refine op rfl (r_append rfl rfl hr9) ?_
      refine op rfl (r_assignV (v := wv) rfl) ?_
      refine WL_nil ?_
      refine W_seq ?_
      refine W_region ?_
      refine op rfl (r_moveV (v := wv) rfl) ?_
      refine op rfl (r_moveV (v := .slice _ _ _) rfl) ?_
      obtain ⟨wv2, w10, hr10, hO10, hG10, hv10⟩ := append_run (B := w8.heap.size) (c := cb) hE9.size hO9 (hB.ext (hX6.trans hE9)) (by omega)
      have hE10 : Ext w8 w10 := Below.trans hE9 (below_gro hO9 (Nat.le_refl _) hG10 hE9.size)
      refine op rfl (r_append rfl rfl hr10) ?_
      refine op rfl (r_assignV (v := wv2) rfl) ?_
      refine WL_nil ?_
      refine W_seq ?_
      refine W_region ?_
      refine op rfl (r_moveV (v := .pointer _) rfl) ?_
      refine opCv rfl (r_call Try.func23 Try.nm23 rfl) (copy_da (hD6.ext hE10) f6 (by omega) (by rw [c6.n]; omega)) ?_
      rintro v w11 ⟨q, rfl, hE11, hC6⟩
      refine op rfl (r_assignV (v := .pointer _) rfl) ?_
      refine WL_nil ?_
      refine W_seq ?_
      refine W_region ?_
      refine op rfl (r_moveV (v := .pointer _) rfl) ?_
      refine opCv rfl (r_call Try.func15 Try.nm15 rfl) (restart_da hC6 f6 (by omega) 0) ?_
      rintro v w12 ⟨hC8, hB12⟩
      have hE12 : Ext w10 w12 := Below.trans hE11 hB12
      have hE12a : Ext w8 w12 := hE10.trans hE12
      refine WL_nil ?_
      refine W_seq ?_
      refine W_region ?_
      refine op rfl (r_moveV (v := .pointer _) rfl) ?_
      refine opCv rfl (r_call Try.func14 Try.nm14 rfl) (read_fa (hD6.ext hE12a).fa f6 (by omega) 1) ?_
      rintro nw w13 ⟨hE13, hOn, hFA13⟩
      rw [r6.1] at hOn
      have hE13a := hE12a.trans hE13
      have hFd := hD6.all hE13a
      have hC13 := hC8.ext hE13
      have hOw13 := own_fext (own_fext hO10 hE12) hE13
      refine op rfl (r_assignV (v := nw) rfl) ?_
      refine WL_nil ?_
      refine W_seq ?_
      refine W_region ?_
      refine op rfl (r_moveV (v := .pointer _) rfl) ?_
      refine opCv rfl (r_call Try.func13 Try.nm13 rfl) (sync_fa hFd f6 (by omega) 1) ?_
      rintro v w14 ⟨rfl, hF14, hFo14⟩
      rw [hg7] at hF14
      rw [x7]
      refine op rfl (r_assignV (v := .int _ _) rfl) ?_
      refine WL_nil ?_
      refine W_seq ?_
      refine W_region ?_
      refine op rfl (r_moveV (v := .pointer _) rfl) ?_
      refine opCv rfl (r_call Try.func15 Try.nm15 rfl) (restart_fa hF14 f7 (by omega) 0) ?_
      rintro v w15 ⟨hF15, hFo15⟩
      have hX13 : Ext W w13 := hX6.trans hE13a
      have hX15 : Ext W w15 := Below.trans (Below.trans hX13 hFo14.below) hFo15.below
      have hSS : Same (fun b => w8.heap.size ≤ b ∧ b < w13.heap.size) w13 w15 := fun b hb => (hFo15.same b hb).trans (hFo14.same b hb)
      have hC15 := hC13.keepF (m := w8.heap.size) hE10.size hSS
      have hOw15 := own_at hOw13 (fun g qg => hSS g ⟨(hOw13.lt qg).1, (hOw13.lt qg).2⟩)
      have hOn15 := own_at hOn (fun g qg => hSS g ⟨by have := (hOn.lt qg).1; have := hE12a.size; omega, (hOn.lt qg).2⟩)
      obtain ⟨A16, c16, h16, _, hr16⟩ := own_frow hOw15
      obtain ⟨A17, c17, h17, _, hr17⟩ := own_frow hOn15
      subst h16
      subst h17
      refine WL_nil ?_
      refine W_seq ?_
      refine W_region ?_
      refine op rfl (r_moveV (v := .int _ _) rfl) ?_
      refine op rfl (r_eql rfl rfl) ?_
      refine op_true rfl (r_moveV (v := .bool (decide _)) rfl) (rfl) ?_
      refine opG_yes rfl rfl rfl rfl rfl (r_moveV (v := .slice A17 (a.take k ++ b).length c17) rfl) ?_
      refine opG_yes rfl rfl rfl rfl rfl (r_moveV (v := .slice A16 (a.take k ++ b).length c16) rfl) ?_
      refine opGCv_yes rfl rfl rfl rfl rfl (r_call Try.func16 Try.nm16 rfl) (same_spec A17 c17 _ A16 c16 _ _ hr17 hr16) ?_
      rintro v w16 ⟨rfl, hE16⟩
      refine op rfl (r_pickTV (v := .bool _) rfl rfl) ?_
      refine op_true rfl (r_moveV (v := .bool (decide _)) rfl) (rfl) ?_
      refine opG_yes rfl rfl rfl rfl rfl (r_moveV (v := .pointer _) rfl) ?_
      refine opGCv_yes rfl rfl rfl rfl rfl (r_call Try.func14 Try.nm14 rfl) (read_da (hC15.ext hE16) f6r (by omega) 1) ?_
      rintro v w17 ⟨A18, c18, rfl, hE17, hr18⟩
      refine opG_yes rfl rfl rfl rfl rfl (r_moveV (v := .slice _ _ _) rfl) ?_
      refine opGCv_yes rfl rfl rfl rfl rfl (r_call Try.func16 Try.nm16 rfl) (same_spec A18 c18 _ A ca a _ hr18 (hA.ext ((hX15.trans hE16).trans hE17))) ?_
      rintro v w18 ⟨rfl, hE18⟩
      refine op rfl (r_pickTV (v := .bool _) rfl rfl) ?_
      refine op_true rfl (r_moveV (v := .bool (decide _)) rfl) (by rw [r6.2.1]) ?_
      refine opG_yes rfl rfl rfl rfl rfl (r_moveV (v := .pointer _) rfl) ?_
      refine opGCv_yes rfl rfl rfl rfl rfl (r_call Try.func14 Try.nm14 rfl) (read_da (((hF15.da.ext hE16).ext hE17).ext hE18) f7r (by omega) 1) ?_
      rintro v w19 ⟨A20, c20, rfl, hE19, hr20⟩
      refine opG_yes rfl rfl rfl rfl rfl (r_moveV (v := .slice A16 (a.take k ++ b).length c16) rfl) ?_
      refine opGCv_yes rfl rfl rfl rfl rfl (r_call Try.func16 Try.nm16 rfl) (same_spec A20 c20 _ A16 c16 _ _ hr20 ((((hr16.ext hE16).ext hE17).ext hE18).ext hE19)) ?_
      rintro v w20 ⟨rfl, hE20⟩
      refine op rfl (r_pickTV (v := .bool _) rfl rfl) ?_
      refine op_true rfl (r_moveV (v := .bool (decide _)) rfl) (by rw [r7.2.1]) ?_
      refine opG_yes rfl rfl rfl rfl rfl (r_moveV (v := .pointer _) rfl) ?_
      refine opGCv_yes rfl rfl rfl rfl rfl (r_call Try.func14 Try.nm14 rfl) (read_da (((((hF15.da.ext hE16).ext hE17).ext hE18).ext hE19).ext hE20) f7r (by omega) 0) ?_
      rintro v w21 ⟨A22, c22, rfl, hE21, hr22⟩
      refine opG_yes rfl rfl rfl rfl rfl (r_str rfl Try.underlying23 Try.underlying5 Try.underlying9 hr22) ?_
      refine opG_yes rfl rfl rfl rfl rfl (rs_eql rfl rfl) ?_
      refine op rfl (r_pickTV (v := .bool _) rfl rfl) ?_
      refine op_true rfl (r_moveV (v := .bool (decide _)) rfl) (by rw [r7.2.2]; rfl) ?_
      refine opGCv_yes rfl rfl rfl rfl rfl (r_call Try.func10 Try.nm10 rfl) (known_spec _) ?_
      rintro v w22 ⟨rfl, hE22⟩
      refine op rfl (r_pickTV (v := .bool _) rfl rfl) ?_
      refine op rfl (r_assignV (v := .bool _) rfl) ?_
      refine WL_nil ?_
      refine W_ret (finX_ret ?_)
      refine fin1 ?_
      first
        | exact ⟨_, rfl, rfl, hE2⟩
        | exact ⟨_, rfl, rfl, ((((((hX15.trans hE16).trans hE17).trans hE18).trans hE19).trans hE20).trans hE21).trans hE22⟩
end Go.Proofs.Ytfgffaphpedimaa
