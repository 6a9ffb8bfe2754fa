/-
  A disk by its pointer; what the chapter's example fixes.
-/
import Derived.Test.YtlidigdlcjhkfaaFacts
import Derived.Test.YtlidigdlcjhkfaaDiskR
namespace Go.Proofs.Ytlidigdlcjhkfaa
open Go Go.Eng Go.RowKit Go.Proofs
set_option linter.unusedVariables false
set_option linter.unusedSimpArgs false
set_option maxHeartbeats 1000000
set_option maxRecDepth 20000

theorem WF.append {D : Dk} {k : Nat} (h : WF D k) (a : Int) (b : List UInt8) : WF (D.append a b).1 (k + 2 * b.length) := by
  unfold Dk.append
  split
  · exact h.mono (by omega)
  · rename_i hm
    split
    · exact h.mono (by omega)
    · exact h.grow (there_nat (may_there (Classical.byContradiction hm))).2
theorem WF.sync {D : Dk} {k : Nat} (h : WF D k) (a : Int) : WF (D.sync a).1 (k + 1) := by
  unfold Dk.sync
  split
  · exact h.mono (by omega)
  · split
    · exact h.unit.synced
    · exact h.unit
theorem WF.cut {D : Dk} {k : Nat} (h : WF D k) (a n : Int) : WF (D.cut a n).1 (k + 2) := by
  unfold Dk.cut
  split
  · exact h.mono (by omega)
  · rename_i hm
    split
    · exact h.mono (by omega)
    · split
      · refine (h.unit.put (by rw [unit_n]; exact (there_nat (may_there (Classical.byContradiction hm))).2) ?_).mono (by omega)
        show n.toNat ≤ _
        rw [unit_ar]; omega
      · exact h.unit.mono (by omega)
theorem append_n (D : Dk) (a : Int) (b : List UInt8) : (D.append a b).1.n = D.n := by
  unfold Dk.append
  split
  · rfl
  · split
    · rfl
    · exact grow_n _ _ _
/-- The disk at p. -/
def DA (p B : Nat) (w : World) (D : Dk) : Prop := ∃ H : Hd, H.p = p ∧ DR B w H D
abbrev dq (p : Nat) : Value := .pointer (some ⟨p, 0, none⟩)
theorem Post.da {B : Nat} {H : Hd} {D D' : Dk} {w w' : World} (h : DR B w H D) (k : Post B H D D' w w') (hBw : B ≤ w.heap.size) : DA H.p B w' D' ∧ Below B w w' := by
  obtain ⟨H', h1, h2, h3, h4, h5⟩ := k
  exact ⟨⟨H', h1.1, h2⟩, h4.os, h4.tape, h4.output, h4.size, fun b hb => h4.block b (by omega) (h.off_B hb)⟩
theorem DA.ext {p B : Nat} {w w' : World} {D : Dk} (h : DA p B w D) (he : Ext w w') : DA p B w' D := by
  obtain ⟨H, h1, h2⟩ := h; exact ⟨H, h1, h2.ext he⟩
theorem DA.le {p B : Nat} {w : World} {D : Dk} (h : DA p B w D) : B ≤ w.heap.size := by
  obtain ⟨H, h1, h2⟩ := h
  have := Blk.lt h2.bp; have := h2.lo; omega
theorem new_da (areas room : Int) (w : World) : Calls Try.prog 8 #[.int .i64 areas, .int .i64 room] w (fun en w' => ∃ v, en = .returned v ∧ ∃ p, v = dq p ∧ Ext w w' ∧ DA p w.heap.size w' (Dk.new areas room)) := by
  refine (new_spec areas room w).mono ?_
  rintro en w' ⟨v, rfl, H, rfl, h1, h2⟩
  exact ⟨_, rfl, H.p, rfl, h1, H, rfl, h2⟩
theorem append_da {p B : Nat} {w : World} {D : Dk} (h : DA p B w D) {k : Nat} (hw : WF D k) (hk : k ≤ 536870912) (a : Int) (A : Option Addr) (c : Nat) (b : List UInt8) (hbl : b.length ≤ 140737488355328) {F : Nat → Prop} (hF : ∀ x, F x → x < B) (hA : Ty.byte.Row w F A b) :
    Calls Try.prog 11 #[dq p, .int .i64 a, .slice A b.length c] w (fun en w' => ∃ v, en = .returned v ∧ v = .int .i64 (D.append a b).2 ∧ DA p B w' (D.append a b).1 ∧ Below B w w') := by
  have hle := h.le
  obtain ⟨H, rfl, hR⟩ := h
  refine (append_spec hR hw hk a A c b hbl (fun x hx => ⟨Nat.lt_of_lt_of_le (hF x hx) hle, hR.off_B (hF x hx)⟩) hA).mono ?_
  rintro en w' ⟨v, rfl, h1, h2⟩
  exact ⟨v, rfl, h1, h2.da hR hle⟩
theorem sync_da {p B : Nat} {w : World} {D : Dk} (h : DA p B w D) {k : Nat} (hw : WF D k) (hk : k ≤ 1073741824) (a : Int) :
    Calls Try.prog 32 #[dq p, .int .i64 a] w (fun en w' => ∃ v, en = .returned v ∧ v = .int .i64 (D.sync a).2 ∧ DA p B w' (D.sync a).1 ∧ Below B w w') := by
  have hle := h.le
  obtain ⟨H, rfl, hR⟩ := h
  refine (sync_spec hR hw hk a).mono ?_
  rintro en w' ⟨v, rfl, h1, h2⟩
  exact ⟨v, rfl, h1, h2.da hR hle⟩
theorem cut_da {p B : Nat} {w : World} {D : Dk} (h : DA p B w D) {k : Nat} (hw : WF D k) (hk : k ≤ 1073741824) (a n : Int) :
    Calls Try.prog 30 #[dq p, .int .i64 a, .int .i64 n] w (fun en w' => ∃ v, en = .returned v ∧ v = .int .i64 (D.cut a n).2 ∧ DA p B w' (D.cut a n).1 ∧ Below B w w') := by
  have hle := h.le
  obtain ⟨H, rfl, hR⟩ := h
  refine (cut_spec hR hw hk a n).mono ?_
  rintro en w' ⟨v, rfl, h1, h2⟩
  exact ⟨v, rfl, h1, h2.da hR hle⟩
theorem arm_da {p B : Nat} {w : World} {D : Dk} (h : DA p B w D) (n : Int) :
    Calls Try.prog 22 #[dq p, .int .i64 n] w (fun en w' => ∃ v, en = .returned v ∧ DA p B w' (D.arm n) ∧ Below B w w') := by
  have hle := h.le
  obtain ⟨H, rfl, hR⟩ := h
  refine (arm_spec hR n).mono ?_
  rintro en w' ⟨v, rfl, h2⟩
  exact ⟨v, rfl, h2.da hR hle⟩
theorem restart_da {p B : Nat} {w : World} {D : Dk} (h : DA p B w D) {k : Nat} (hw : WF D k) (hk : k ≤ 1073741824) (n : Int) :
    Calls Try.prog 17 #[dq p, .int .i64 n] w (fun en w' => ∃ v, en = .returned v ∧ DA p B w' (D.restart n) ∧ Below B w w') := by
  have hle := h.le
  obtain ⟨H, rfl, hR⟩ := h
  refine (restart_spec hR hw hk n).mono ?_
  rintro en w' ⟨v, rfl, h2⟩
  exact ⟨v, rfl, h2.da hR hle⟩
theorem read_da {p B : Nat} {w : World} {D : Dk} (h : DA p B w D) {k : Nat} (hw : WF D k) (hk : k ≤ 1073741824) (a : Int) :
    Calls Try.prog 20 #[dq p, .int .i64 a] w (fun en w' => ∃ v, en = .returned v ∧ ∃ A c, v = .slice A (D.read a).length c ∧ Ext w w' ∧ Ty.byte.Row w' (old w') A (D.read a)) := by
  obtain ⟨H, rfl, hR⟩ := h
  refine (read_spec hR hw hk a).mono ?_
  rintro en w' ⟨v, rfl, h1, h2⟩
  obtain ⟨A, c, e, _, hr⟩ := own_frow h2
  exact ⟨v, rfl, A, c, e, h1, hr⟩
theorem used_da {p B : Nat} {w : World} {D : Dk} (h : DA p B w D) {k : Nat} (hw : WF D k) (hk : k ≤ 1073741824) :
    Calls Try.prog 35 #[dq p] w (fun en w' => ∃ v, en = .returned v ∧ v = .int .i64 D.used ∧ Ext w w') := by
  obtain ⟨H, rfl, hR⟩ := h
  exact used_spec hR hw hk
theorem dead_da {p B : Nat} {w : World} {D : Dk} (h : DA p B w D) : Calls Try.prog 25 #[dq p] w (fun en w' => ∃ v, en = .returned v ∧ v = .bool D.dead ∧ Ext w w') := by
  obtain ⟨H, rfl, hR⟩ := h
  exact dead_spec hR
theorem same_spec (A1 : Option Addr) (c1 : Nat) (a : List UInt8) (A2 : Option Addr) (c2 : Nat) (b : List UInt8) (w : World) {F1 F2 : Nat → Prop} (hA : Ty.byte.Row w F1 A1 a) (hB : Ty.byte.Row w F2 A2 b) :
    Calls Try.prog 18 #[.slice A1 a.length c1, .slice A2 b.length c2] w (fun en w' => ∃ v, en = .returned v ∧ v = .bool (decide (a = b)) ∧ Ext w w') := by
  refine calls' (n := 10) (rs := #[.tmp 4]) (l := [.slice A1 a.length c1, .slice A2 b.length c2]) Try.func18 rfl rfl rfl rfl rfl ?_
  refine W_seq ?_
  refine W_region ?_
  refine op rfl (r_assignV (v := .bool _) rfl) ?_
  refine WL_nil ?_
  refine W_seq ?_
  refine W_region ?_
  refine op rfl (r_moveV (v := .slice _ _ _) rfl) ?_
  refine op rfl (r_str rfl Try.underlying23 Try.underlying5 Try.underlying9 hA) ?_
  refine op rfl (r_moveV (v := .slice _ _ _) rfl) ?_
  refine op rfl (r_str rfl Try.underlying23 Try.underlying5 Try.underlying9 hB) ?_
  refine op rfl (rs_eql rfl rfl) ?_
  refine op rfl (r_assignV (v := .bool _) rfl) ?_
  refine WL_nil ?_
  refine W_ret (finX_ret ?_)
  refine fin1 ?_
  exact ⟨_, rfl, by simp only [str_eq]; rfl, Ext.refl _⟩
theorem may_nil (a : Int) (w : World) : Calls Try.prog 34 #[.pointer none, .int .i64 a] w (fun en w' => ∃ v, en = .returned v ∧ v = .int .i64 1 ∧ Ext w w') := by
  refine calls' (n := 18) (rs := #[.tmp 4]) (l := [.pointer none, .int .i64 a]) Try.func34 rfl rfl rfl rfl rfl ?_
  refine W_seq ?_
  refine W_region ?_
  refine op rfl (r_assignV (v := .int _ _) rfl) ?_
  refine WL_nil ?_
  refine W_seq ?_
  refine W_block ?_
  refine W_seq ?_
  refine W_region ?_
  refine op rfl (r_moveV (v := .pointer none) rfl) ?_
  refine op rfl (rpn_eql rfl rfl Try.underlying25) ?_
  refine op rfl (r_assignV (v := .bool _) rfl) ?_
  refine WL_nil ?_
  refine W_then (rfl) ?_
  refine W_seq ?_
  refine W_region ?_
  refine op rfl (r_assignV (v := .int _ _) rfl) ?_
  refine WL_nil ?_
  refine W_ret (blk_ret (finX_ret ?_))
  refine fin1 ?_
  exact ⟨_, rfl, rfl, Ext.refl _⟩
theorem sync_nil (a : Int) (w : World) : Calls Try.prog 32 #[.pointer none, .int .i64 a] w (fun en w' => ∃ v, en = .returned v ∧ v = .int .i64 1 ∧ Ext w w') := by
  refine calls' (n := 36) (rs := #[.tmp 4]) (l := [.pointer none, .int .i64 a]) Try.func32 rfl rfl rfl rfl rfl ?_
  refine W_seq ?_
  refine W_region ?_
  refine op rfl (r_assignV (v := .int _ _) rfl) ?_
  refine WL_nil ?_
  refine W_seq ?_
  refine W_seq ?_
  refine W_region ?_
  refine op rfl (r_moveV (v := .pointer _) rfl) ?_
  refine op rfl (r_moveV (v := .int _ _) rfl) ?_
  refine opCv rfl (r_call Try.func34 Try.nm34 rfl) (may_nil a _) ?_
  rintro v w1 ⟨rfl, hE⟩
  refine op rfl (r_assignV (v := .int _ _) rfl) ?_
  refine WL_nil ?_
  refine W_seq ?_
  refine W_region ?_
  refine op rfl (r_moveV (v := .int _ _) rfl) ?_
  refine op rfl (r_neq rfl rfl) ?_
  refine WL_nil ?_
  refine W_then (rfl) ?_
  refine W_seq ?_
  refine W_region ?_
  refine op rfl (r_moveV (v := .int _ _) rfl) ?_
  refine op rfl (r_assignV (v := .int _ _) rfl) ?_
  refine WL_nil ?_
  refine W_ret (finX_ret ?_)
  refine fin1 ?_
  exact ⟨_, rfl, rfl, hE⟩
theorem DR.conv {B b : Nat} {w1 w2 w3 : World} {H : Hd} {D : Dk} (h : DR B w1 H D) (hE : Ext w1 w2) (hb : w1.heap.size ≤ b) (hC : Chg b w2 w3) : DR B w3 H D ∧ Off H D.n b := by
  have h2 := h.ext hE
  have ne : ∀ x, x < w1.heap.size → w3.heap[x]? = w2.heap[x]? := fun x hx => hC.block x (Nat.lt_of_lt_of_le hx hE.size) (by omega)
  refine ⟨h2.keep (ne _ (Blk.lt h.bp)) (ne _ (by obtain ⟨cs, hc, _⟩ := h.bg; exact Blk.lt hc)) (fun i hi x q => ne x ?_), h.off_lt hb⟩
  rcases q with q | q | q
  · exact ((h.nv i hi).lt q).2
  · exact ((h.lv i hi).lt q).2
  · exact ((h.pv i hi).lt q).2
/-- Bytes that were just written out. -/
theorem append_lit {p B b c m : Nat} {w1 w2 w3 : World} {D : Dk} {t : TypeId} {cs : Array Value} {fr : Nat × Nat} (h : DA p B w1 D) (hE : Ext w1 w2) (hb : w1.heap.size = b) (hC : Chg b w2 w3) (hB : w3.heap[b]? = some (.cells cs t fr)) {l : List UInt8} (hm : l.length = m) (hl : l.length ≤ 1000) (hcs : cs = (l.map fun x => Value.int .u8 x.toNat).toArray) {k : Nat} (hw : WF D k) (hk : k ≤ 536870912) (a : Int) :
    Calls Try.prog 11 #[dq p, .int .i64 a, .slice (some ⟨b, 0, none⟩) m c] w3 (fun en w' => ∃ v, en = .returned v ∧ v = .int .i64 (D.append a l).2 ∧ DA p B w' (D.append a l).1 ∧ Below B w3 w' ∧ B ≤ w3.heap.size) := by
  subst hm
  obtain ⟨H, rfl, hR⟩ := h
  obtain ⟨hR3, hoff⟩ := hR.conv hE (Nat.le_of_eq hb) hC
  have hlt : b < w3.heap.size := heap_lt hB
  have hle : B ≤ w3.heap.size := by have := Blk.lt hR3.bp; have := hR3.lo; omega
  refine (append_spec hR3 hw hk a (some ⟨b, 0, none⟩) c l (by omega) (F := fun x => x = b) (fun x hx => by subst hx; exact ⟨hlt, hoff⟩) (Blk.row hB rfl (fun i hi => ⟨[.int .u8 l[i].toNat], ⟨rfl, trivial⟩, fun j hj => ?_⟩))).mono ?_
  · have : j = 0 := by simp only [Ty.byte, Ty.scalar] at hj; omega
    subst this
    subst hcs
    simp [Ty.byte, Ty.scalar, hi]
  · rintro en w' ⟨v, rfl, h1, h2⟩
    obtain ⟨h3, h4⟩ := h2.da hR3 hle
    exact ⟨v, rfl, h1, h3, h4, hle⟩
end Go.Proofs.Ytlidigdlcjhkfaa
