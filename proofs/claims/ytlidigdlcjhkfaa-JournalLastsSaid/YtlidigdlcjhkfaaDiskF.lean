/-
  A disk beside slices that are not its own.
-/
import Derived.Test.YtlidigdlcjhkfaaFacts
import Derived.Test.YtlidigdlcjhkfaaDiskS
namespace Go.Proofs.Ytlidigdlcjhkfaa
open Go Go.Eng Go.RowKit Go.Proofs
set_option linter.unusedVariables false
set_option linter.unusedSimpArgs false
set_option maxHeartbeats 1000000

def FA (p B : Nat) (F : Nat → Prop) (w : World) (D : Dk) : Prop := ∃ H : Hd, H.p = p ∧ DR B w H D ∧ ∀ b, F b → b < w.heap.size ∧ Off H D.n b ∧ Off2 H D.n b
/-- What an operation leaves. -/
structure Fo (B : Nat) (F : Nat → Prop) (w w' : World) : Prop where
  same : Same F w w'
  below : Below B w w'
theorem FA.da {p B : Nat} {F : Nat → Prop} {w : World} {D : Dk} (h : FA p B F w D) : DA p B w D := by
  obtain ⟨H, h1, h2, _⟩ := h; exact ⟨H, h1, h2⟩
theorem DA.fa {p B : Nat} {w : World} {D : Dk} (h : DA p B w D) : FA p B (fun _ => False) w D := by
  obtain ⟨H, h1, h2⟩ := h; exact ⟨H, h1, h2, fun b hb => hb.elim⟩
theorem FA.le {p B : Nat} {F : Nat → Prop} {w : World} {D : Dk} (h : FA p B F w D) : B ≤ w.heap.size := h.da.le
theorem FA.ext {p B : Nat} {F : Nat → Prop} {w w' : World} {D : Dk} (h : FA p B F w D) (he : Ext w w') : FA p B F w' D := by
  obtain ⟨H, h1, h2, h3⟩ := h
  exact ⟨H, h1, h2.ext he, fun b hb => ⟨Nat.lt_of_lt_of_le (h3 b hb).1 he.size, (h3 b hb).2⟩⟩
theorem FA.weak {p B : Nat} {F G : Nat → Prop} {w : World} {D : Dk} (h : FA p B F w D) (hG : ∀ b, G b → F b) : FA p B G w D := by
  obtain ⟨H, h1, h2, h3⟩ := h
  exact ⟨H, h1, h2, fun b hb => h3 b (hG b hb)⟩
theorem DR.off2_lt {B b : Nat} {w : World} {H : Hd} {D : Dk} (h : DR B w H D) (hb : w.heap.size ≤ b) : Off2 H D.n b := fun i hi =>
  ⟨fun q => by have := ((h.nv i hi).lt q).2; omega, fun q => by have := ((h.lv i hi).lt q).2; omega⟩
/-- What is one's own has grown, or is new. -/
theorem FA.gro {p B : Nat} {F : Nat → Prop} {w w' : World} {D : Dk} {v v' : Value} (h : FA p B F w D) (hF : ∀ b, v.ownBlock = some b → F b) (hG : Gro v.ownBlock w w') (hv : v'.ownBlock = v.ownBlock ∨ ∃ g, v'.ownBlock = some g ∧ w.heap.size ≤ g) (hlt : ∀ b, v'.ownBlock = some b → b < w'.heap.size) :
    FA p B (fun b => F b ∨ v'.ownBlock = some b) w' D := by
  obtain ⟨H, h1, h2, h3⟩ := h
  have ne : ∀ x, x < w.heap.size → (∀ b, F b → b ≠ x) → w'.heap[x]? = w.heap[x]? := fun x hx hn => hG.block x hx (fun q => hn x (hF x q) rfl)
  refine ⟨H, h1, h2.keep (ne _ (Blk.lt h2.bp) (fun b hb => (h3 b hb).2.1.1)) (ne _ (by obtain ⟨cs, hc, _⟩ := h2.bg; exact Blk.lt hc) (fun b hb => (h3 b hb).2.1.2.1)) (fun i hi x q => ?_), fun b hb => ?_⟩
  · rcases q with q | q | q
    · exact ne x ((h2.nv i hi).lt q).2 (fun b hb e => ((h3 b hb).2.2 i hi).1 (e ▸ q))
    · exact ne x ((h2.lv i hi).lt q).2 (fun b hb e => ((h3 b hb).2.2 i hi).2 (e ▸ q))
    · exact ne x ((h2.pv i hi).lt q).2 (fun b hb e => (h3 b hb).2.1.2.2 i hi (e ▸ q))
  · rcases hb with hb | hb
    · exact ⟨Nat.lt_of_lt_of_le (h3 b hb).1 hG.size, (h3 b hb).2⟩
    · rcases hv with q | ⟨g, q, hg⟩
      · have := h3 b (hF b (q ▸ hb))
        exact ⟨hlt b hb, this.2⟩
      · rw [hb] at q
        cases q
        exact ⟨hlt b hb, h2.off_lt hg, h2.off2_lt hg⟩
theorem Post.fa {B : Nat} {F : Nat → Prop} {H : Hd} {D D' : Dk} {w w' : World} (h : DR B w H D) (hF : ∀ b, F b → b < w.heap.size ∧ Off H D.n b ∧ Off2 H D.n b) (k : Post B H D D' w w') (hBw : B ≤ w.heap.size) : FA H.p B F w' D' ∧ Fo B F w w' := by
  obtain ⟨H', h1, h2, h3, h4, h5⟩ := k
  refine ⟨⟨H', h1.1, h2, fun b hb => ⟨Nat.lt_of_lt_of_le (hF b hb).1 h4.size, ?_, ?_⟩⟩, fun b hb => h4.block b (hF b hb).1 (hF b hb).2.1, ⟨h4.os, h4.tape, h4.output, h4.size, fun b hb => h4.block b (by omega) (h.off_B hb)⟩⟩
  · rw [h3]; exact (h5 b (hF b hb).1).1 (hF b hb).2.1
  · rw [h3]; exact (h5 b (hF b hb).1).2 (hF b hb).2.2
theorem append_fa {p B : Nat} {F : Nat → Prop} {w : World} {D : Dk} (h : FA p B F w D) {k : Nat} (hw : WF D k) (hk : k ≤ 536870912) (a : Int) (A : Option Addr) (c : Nat) (b : List UInt8) (hbl : b.length ≤ 140737488355328) {G : Nat → Prop} (hG : ∀ x, G x → x < B) (hA : Ty.byte.Row w G A b) :
    Calls Try.prog 11 #[dq p, .int .i64 a, .slice A b.length c] w (fun en w' => ∃ v, en = .returned v ∧ v = .int .i64 (D.append a b).2 ∧ FA p B F w' (D.append a b).1 ∧ Fo B F w w') := by
  have hle := h.le
  obtain ⟨H, rfl, hR, h3⟩ := h
  refine (append_spec hR hw hk a A c b hbl (fun x hx => ⟨Nat.lt_of_lt_of_le (hG x hx) hle, hR.off_B (hG x hx)⟩) hA).mono ?_
  rintro en w' ⟨v, rfl, h1, h2⟩
  exact ⟨v, rfl, h1, h2.fa hR h3 hle⟩
theorem sync_fa {p B : Nat} {F : Nat → Prop} {w : World} {D : Dk} (h : FA p B F w D) {k : Nat} (hw : WF D k) (hk : k ≤ 1073741824) (a : Int) :
    Calls Try.prog 32 #[dq p, .int .i64 a] w (fun en w' => ∃ v, en = .returned v ∧ v = .int .i64 (D.sync a).2 ∧ FA p B F w' (D.sync a).1 ∧ Fo B F w w') := by
  have hle := h.le
  obtain ⟨H, rfl, hR, h3⟩ := h
  refine (sync_spec hR hw hk a).mono ?_
  rintro en w' ⟨v, rfl, h1, h2⟩
  exact ⟨v, rfl, h1, h2.fa hR h3 hle⟩
theorem cut_fa {p B : Nat} {F : Nat → Prop} {w : World} {D : Dk} (h : FA p B F w D) {k : Nat} (hw : WF D k) (hk : k ≤ 1073741824) (a n : Int) :
    Calls Try.prog 30 #[dq p, .int .i64 a, .int .i64 n] w (fun en w' => ∃ v, en = .returned v ∧ v = .int .i64 (D.cut a n).2 ∧ FA p B F w' (D.cut a n).1 ∧ Fo B F w w') := by
  have hle := h.le
  obtain ⟨H, rfl, hR, h3⟩ := h
  refine (cut_spec hR hw hk a n).mono ?_
  rintro en w' ⟨v, rfl, h1, h2⟩
  exact ⟨v, rfl, h1, h2.fa hR h3 hle⟩
theorem restart_fa {p B : Nat} {F : Nat → Prop} {w : World} {D : Dk} (h : FA p B F w D) {k : Nat} (hw : WF D k) (hk : k ≤ 1073741824) (n : Int) :
    Calls Try.prog 17 #[dq p, .int .i64 n] w (fun en w' => ∃ v, en = .returned v ∧ FA p B F w' (D.restart n) ∧ Fo B F w w') := by
  have hle := h.le
  obtain ⟨H, rfl, hR, h3⟩ := h
  refine (restart_spec hR hw hk n).mono ?_
  rintro en w' ⟨v, rfl, h2⟩
  exact ⟨v, rfl, h2.fa hR h3 hle⟩
theorem read_fa {p B : Nat} {F : Nat → Prop} {w : World} {D : Dk} (h : FA p B F w D) {k : Nat} (hw : WF D k) (hk : k ≤ 1073741824) (a : Int) :
    Calls Try.prog 20 #[dq p, .int .i64 a] w (fun en w' => ∃ v, en = .returned v ∧ Ext w w' ∧ Bs w.heap.size 5 w' v (D.read a) ∧ FA p B (fun b => F b ∨ v.ownBlock = some b) w' D) := by
  obtain ⟨H, rfl, hR, h3⟩ := h
  refine (read_spec hR hw hk a).mono ?_
  rintro en w' ⟨v, rfl, h1, h2⟩
  refine ⟨v, rfl, h1, h2, H, rfl, hR.ext h1, fun b hb => ?_⟩
  rcases hb with hb | hb
  · exact ⟨Nat.lt_of_lt_of_le (h3 b hb).1 h1.size, (h3 b hb).2⟩
  · exact ⟨(h2.lt hb).2, hR.off_lt (h2.lt hb).1, hR.off2_lt (h2.lt hb).1⟩
theorem _root_.Go.RowKit.Below.same' {B m : Nat} {w w' : World} (h : Below B w w') (hm : m ≤ B) : Same (fun b => b < m) w w' := fun b hb => h.block b (by omega)
/-- What is one's own stays. -/
theorem own_fo {α : Type} {T : Ty α} {B B' : Nat} {F : Nat → Prop} {w w' : World} {e : TypeId} {v : Value} {l : List α} (h : Eng.Own T w nobody B' e v l) (hF : ∀ b, v.ownBlock = some b → F b) (hS : Fo B F w w') : Eng.Own T w' nobody B' e v l :=
  own_at h (fun g q => hS.same g (hF g q))
/-- The other one's growth leaves it. -/
theorem own_gro {α : Type} {T : Ty α} {B' : Nat} {w w' : World} {e : TypeId} {v u : Value} {l : List α} (h : Eng.Own T w nobody B' e v l) (hG : Gro u.ownBlock w w') (hne : ∀ b, v.ownBlock = some b → u.ownBlock ≠ some b) : Eng.Own T w' nobody B' e v l :=
  own_at h (fun g q => hG.block g (h.lt q).2 (hne g q))
theorem append_run {B : Nat} {v : Value} {l m : List UInt8} {A : Option Addr} {c : Nat} {G : Nat → Prop} {w : World} (hB : B ≤ w.heap.size) (hO : Bs B 5 w v l) (hA : Ty.byte.Row w G A m) (hl : l.length + m.length ≤ 1099511627776) :
    ∃ v' w', (Builtin.append_ #[23, 23] 23 #[v, .slice A m.length c]).run Try.prog w = .ok v' w' ∧ Bs B 5 w' v' (l ++ m) ∧ Gro v.ownBlock w w' ∧ (v'.ownBlock = v.ownBlock ∨ ∃ g, v'.ownBlock = some g ∧ w.heap.size ≤ g) :=
  run_append (T := Ty.byte) (F := nobody) (P := Try.prog) (t := 23) (ty := 23) (m := m) (c := c) Try.underlying23 Try.sz5 Try.by5 Try.zero5 rfl hO (hA.srcF flat_byte) (fun _ q => q.elim) (by omega) (by omega) hB
theorem below_gro {B B0 : Nat} {w w' : World} {v : Value} {e : TypeId} {l : List UInt8} (hO : Bs B0 e w v l) (hB : B ≤ B0) (hG : Gro v.ownBlock w w') (hw : B ≤ w.heap.size) : Below B w w' :=
  ⟨hG.os, hG.tape, hG.output, hG.size, fun k hk => hG.block k (by omega) (fun q => by have := (hO.lt q).1; omega)⟩
end Go.Proofs.Ytlidigdlcjhkfaa
