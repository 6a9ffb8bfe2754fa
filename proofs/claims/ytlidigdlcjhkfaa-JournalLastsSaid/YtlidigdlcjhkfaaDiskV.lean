/-
  A disk whose power is not counted: plain Lean.
-/
import Derived.Test.YtlidigdlcjhkfaaDiskS
namespace Go.Proofs.Ytlidigdlcjhkfaa
open Go Go.Eng
set_option linter.unusedVariables false
set_option linter.unusedSimpArgs false

structure Live (D : Dk) : Prop where
  armed : D.armed = false
  dead : D.dead = false
theorem live_unit {D : Dk} (h : Live D) : D.unit = ({ D with power := D.power - 1 }, true) := by
  unfold Dk.unit; rw [if_neg (by rw [h.armed]; simp)]
theorem live_may {D : Dk} (h : Live D) (a : Int) : D.may a = if D.there a then 0 else 2 := by
  unfold Dk.may; rw [h.dead]; simp
theorem grow_live : ∀ (l : List UInt8) {D : Dk} (a : Nat), Live D → Live (D.grow a l) ∧ (D.grow a l).n = D.n ∧ (D.grow a l).room = D.room ∧
    (D.grow a l).ar = fun i => if i = a then ⟨(D.ar a).now ++ l, (D.ar a).lasts, (D.ar a).pend ++ l.map St.grow⟩ else D.ar i
  | [], D, a, h => by
    refine ⟨h, rfl, rfl, ?_⟩
    funext i
    by_cases hi : i = a
    · subst hi; simp [Dk.grow]
    · simp [Dk.grow, hi]
  | c :: l, D, a, h => by
    have hu := live_unit h
    have hg : D.grow a (c :: l) = (D.unit.1.put a (.grow c)).grow a l := by
      show (if D.unit.2 = true then _ else _) = _
      rw [hu]; simp
    have hl : Live (D.unit.1.put a (.grow c)) := by rw [hu]; exact ⟨h.armed, h.dead⟩
    obtain ⟨h1, h2, h3, h4⟩ := grow_live l a hl
    rw [hg]
    refine ⟨h1, by rw [h2, hu]; rfl, by rw [h3, hu]; rfl, ?_⟩
    rw [h4, hu]
    funext i
    by_cases hi : i = a
    · subst hi; simp [Dk.put, upd_same, St.run]
    · simp [Dk.put, hi, upd_ne hi]
theorem live_append {D : Dk} (h : Live D) {a : Int} {b : List UInt8} (ht : D.there a) (hr : D.used + b.length ≤ D.room) :
    (D.append a b).2 = 0 ∧ Live (D.append a b).1 ∧ (D.append a b).1.n = D.n ∧ (D.append a b).1.room = D.room ∧
    (D.append a b).1.ar = fun i => if i = a.toNat then ⟨(D.ar a.toNat).now ++ b, (D.ar a.toNat).lasts, (D.ar a.toNat).pend ++ b.map St.grow⟩ else D.ar i := by
  have hm : D.may a = 0 := by rw [live_may h, if_pos ht]
  obtain ⟨h1, h2, h3, h4⟩ := grow_live b a.toNat h
  have e : D.append a b = (D.grow a.toNat b, (D.grow a.toNat b).may a) := by unfold Dk.append; rw [if_neg (by omega), if_neg (by omega)]
  rw [e]
  refine ⟨?_, h1, h2, h3, h4⟩
  have ht2 : (D.grow a.toNat b).there a := by unfold Dk.there at *; rw [h2]; exact ht
  show (D.grow a.toNat b).may a = 0
  rw [live_may h1, if_pos ht2]
theorem live_full {D : Dk} (h : Live D) {a : Int} {b : List UInt8} (ht : D.there a) (hr : ¬ D.used + b.length ≤ D.room) : D.append a b = (D, 8) := by
  have hm : D.may a = 0 := by rw [live_may h, if_pos ht]
  unfold Dk.append; rw [if_neg (by omega), if_pos (by omega)]
theorem live_sync {D : Dk} (h : Live D) {a : Int} (ht : D.there a) :
    (D.sync a).2 = 0 ∧ Live (D.sync a).1 ∧ (D.sync a).1.n = D.n ∧ (D.sync a).1.room = D.room ∧
    (D.sync a).1.ar = fun i => if i = a.toNat then ⟨(D.ar a.toNat).now, (D.ar a.toNat).now, []⟩ else D.ar i := by
  have hm : D.may a = 0 := by rw [live_may h, if_pos ht]
  have hu := live_unit h
  have e : D.sync a = (D.unit.1.synced a.toNat, (D.unit.1.synced a.toNat).may a) := by unfold Dk.sync; rw [if_neg (by omega), hu]; simp
  rw [e, hu]
  have hl : Live (({ D with power := D.power - 1 } : Dk).synced a.toNat) := ⟨h.armed, h.dead⟩
  refine ⟨?_, hl, rfl, rfl, ?_⟩
  · exact (live_may hl a).trans (if_pos ht)
  · funext i
    by_cases hi : i = a.toNat
    · subst hi; simp [Dk.synced, upd_same]
    · simp [Dk.synced, hi, upd_ne hi]
theorem live_cut {D : Dk} (h : Live D) {a n : Int} (ht : D.there a) (h0 : 0 ≤ n) (hn : n ≤ (D.ar a.toNat).now.length) :
    (D.cut a n).2 = 0 ∧ Live (D.cut a n).1 ∧ (D.cut a n).1.n = D.n ∧ (D.cut a n).1.room = D.room ∧
    (D.cut a n).1.ar = fun i => if i = a.toNat then ⟨(D.ar a.toNat).now.take n.toNat, (D.ar a.toNat).lasts, (D.ar a.toNat).pend ++ [St.cut n.toNat]⟩ else D.ar i := by
  have hm : D.may a = 0 := by rw [live_may h, if_pos ht]
  have hu := live_unit h
  have e : D.cut a n = (D.unit.1.put a.toNat (.cut n.toNat), (D.unit.1.put a.toNat (.cut n.toNat)).may a) := by unfold Dk.cut; rw [if_neg (by omega), if_neg (by omega), hu]; simp
  rw [e, hu]
  have hl : Live (({ D with power := D.power - 1 } : Dk).put a.toNat (.cut n.toNat)) := ⟨h.armed, h.dead⟩
  refine ⟨?_, hl, rfl, rfl, ?_⟩
  · exact (live_may hl a).trans (if_pos ht)
  · funext i
    by_cases hi : i = a.toNat
    · subst hi; simp [Dk.put, upd_same, St.run]
    · simp [Dk.put, hi, upd_ne hi]
theorem no_append {D : Dk} {a : Int} {b : List UInt8} (h : ¬ D.there a) : D.append a b = (D, 2) := by
  have hm : D.may a = 2 := by unfold Dk.may; rw [if_neg h]
  unfold Dk.append; rw [if_pos (by omega), hm]
theorem no_sync {D : Dk} {a : Int} (h : ¬ D.there a) : D.sync a = (D, 2) := by
  have hm : D.may a = 2 := by unfold Dk.may; rw [if_neg h]
  unfold Dk.sync; rw [if_pos (by omega), hm]
theorem no_cut {D : Dk} {a n : Int} (h : ¬ D.there a) : D.cut a n = (D, 2) := by
  have hm : D.may a = 2 := by unfold Dk.may; rw [if_neg h]
  unfold Dk.cut; rw [if_pos (by omega), hm]
theorem live_new (areas room : Int) : Live (Dk.new areas room) := ⟨rfl, rfl⟩
theorem sumTo_zero {f : Nat → Nat} : ∀ {n : Nat}, (∀ i, i < n → f i = 0) → sumTo n f = 0
  | 0, _ => rfl
  | n + 1, h => by simp only [sumTo]; rw [sumTo_zero (fun i hi => h i (by omega)), h n (by omega)]
theorem new_used (areas room : Int) : (Dk.new areas room).used = 0 := sumTo_zero (fun i hi => rfl)
theorem there_of {D D' : Dk} (h : D'.n = D.n) (a : Int) : D'.there a ↔ D.there a := by unfold Dk.there; rw [h]

/-- All at once: what the law of areas asks. -/
theorem areas_law (areas a : Int) (b : List UInt8) (hb : b.length ≤ 200) :
    let D0 := Dk.new areas 1000
    let D1 := (D0.append a b).1
    let D2 := (D1.sync a).1
    let D3 := (D2.cut a 0).1
    let want : Int := if D0.there a then 0 else 2
    (D0.append a b).2 = want ∧ (D1.sync a).2 = want ∧ (D2.cut a 0).2 = want ∧ D3.read a = [] ∧ (D0.there a → D3.lasting a = b) ∧ (¬ D0.there a → D3.lasting a = []) := by
  intro D0 D1 D2 D3 want
  by_cases ht : D0.there a
  · have hroom : D0.room = 1000 := rfl
    obtain ⟨e1, l1, n1, r1, a1⟩ := live_append (live_new areas 1000) (b := b) ht (by rw [new_used]; show 0 + b.length ≤ 1000; omega)
    have t1 : D1.there a := (there_of n1 a).2 ht
    obtain ⟨e2, l2, n2, r2, a2⟩ := live_sync l1 t1
    have t2 : D2.there a := (there_of n2 a).2 t1
    obtain ⟨e3, l3, n3, r3, a3⟩ := live_cut l2 (n := 0) t2 (by omega) (by omega)
    have t3 : D3.there a := (there_of n3 a).2 t2
    have hw : want = 0 := if_pos ht
    refine ⟨by rw [hw]; exact e1, by rw [hw]; exact e2, by rw [hw]; exact e3, ?_, fun _ => ?_, fun q => absurd ht q⟩
    · unfold Dk.read; rw [if_pos t3, a3]; simp
    · unfold Dk.lasting; rw [if_pos t3, a3]
      simp only [if_true]
      rw [a2]
      simp only [if_true]
      rw [a1]
      simp only [if_true]
      rfl
  · have e1 : D0.append a b = (D0, 2) := no_append ht
    have d1 : D1 = D0 := by show (D0.append a b).1 = D0; rw [e1]
    have e2 : D1.sync a = (D1, 2) := no_sync (by rw [d1]; exact ht)
    have d2 : D2 = D1 := by show (D1.sync a).1 = D1; rw [e2]
    have e3 : D2.cut a 0 = (D2, 2) := no_cut (by rw [d2, d1]; exact ht)
    have d3 : D3 = D0 := by show (D2.cut a 0).1 = D0; rw [e3]; show D2 = D0; rw [d2, d1]
    have hw : want = 2 := if_neg ht
    refine ⟨by rw [hw, e1], by rw [hw, e2], by rw [hw, e3], ?_, fun q => absurd q ht, fun _ => ?_⟩
    · unfold Dk.read; rw [d3, if_neg ht]
    · unfold Dk.lasting; rw [d3, if_neg ht]
end Go.Proofs.Ytlidigdlcjhkfaa
