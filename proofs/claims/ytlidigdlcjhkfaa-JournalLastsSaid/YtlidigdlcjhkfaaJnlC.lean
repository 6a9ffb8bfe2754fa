/-
  A state in place of all, and what lasts when power is lost: plain.
-/
import Derived.Test.YtlidigdlcjhkfaaJnlK
import Derived.Test.YtlidigdlcjhkfaaDiskF
namespace Go.Proofs.Ytlidigdlcjhkfaa
open Go Go.Eng
set_option linter.unusedVariables false
set_option linter.unusedSimpArgs false

/-! What an operation comes to, with power or not. -/
structure Al (D : Dk) (r : Nat) (x : Nat → Ar) : Prop where
  n : D.n = 3
  room : D.room = r
  ar : ∀ i, i < 3 → D.ar i = x i
  dead : D.dead = false
structure De (D : Dk) (r : Nat) (x : Nat → Ar) : Prop where
  n : D.n = 3
  room : D.room = r
  ar : ∀ i, i < 3 → D.ar i = x i
theorem Al.de {D : Dk} {r : Nat} {x : Nat → Ar} (h : Al D r x) : De D r x := ⟨h.n, h.room, h.ar⟩
theorem Al.cast {D : Dk} {r : Nat} {x y : Nat → Ar} (h : Al D r x) (he : ∀ i, i < 3 → x i = y i) : Al D r y := ⟨h.n, h.room, fun i hi => (h.ar i hi).trans (he i hi), h.dead⟩
theorem De.cast {D : Dk} {r : Nat} {x y : Nat → Ar} (h : De D r x) (he : ∀ i, i < 3 → x i = y i) : De D r y := ⟨h.n, h.room, fun i hi => (h.ar i hi).trans (he i hi)⟩
theorem JP.al {D : Dk} {r : Nat} {x : Nat → Ar} (h : JP D r x) : Al D r x := ⟨h.n, h.room, h.ar, h.live.dead⟩
theorem Al.may {D : Dk} {r : Nat} {x : Nat → Ar} (h : Al D r x) {a : Nat} (ha : a < 3) : D.may (a : Int) = 0 := by
  have ht : D.there (a : Int) := by unfold Dk.there; rw [h.n]; omega
  unfold Dk.may; rw [if_pos ht, h.dead]; simp
theorem De.mayD {D : Dk} {r : Nat} {x : Nat → Ar} (h : De D r x) (hd : D.dead = true) {a : Nat} (ha : a < 3) : D.may (a : Int) = 10 := by
  have ht : D.there (a : Int) := by unfold Dk.there; rw [h.n]; omega
  unfold Dk.may; rw [if_pos ht, if_pos hd]
theorem Al.used {D : Dk} {r : Nat} {x : Nat → Ar} (h : Al D r x) : D.used = tot x := by
  unfold Dk.used tot
  rw [h.n]
  simp only [sumTo, h.ar 0 (by omega), h.ar 1 (by omega), h.ar 2 (by omega)]
  omega
theorem Al.unit {D : Dk} {r : Nat} {x : Nat → Ar} (h : Al D r x) : (D.unit.2 = true ∧ Al D.unit.1 r x) ∨ (D.unit.2 = false ∧ De D.unit.1 r x ∧ D.unit.1.dead = true) := by
  unfold Dk.unit
  split
  · exact Or.inr ⟨rfl, ⟨h.n, h.room, h.ar⟩, rfl⟩
  · exact Or.inl ⟨rfl, h.n, h.room, h.ar, h.dead⟩
theorem Al.put {D : Dk} {r : Nat} {x : Nat → Ar} (h : Al D r x) {a : Nat} (ha : a < 3) (s : St) : Al (D.put a s) r (up x a ⟨s.run (x a).now, (x a).lasts, (x a).pend ++ [s]⟩) := by
  refine ⟨h.n, h.room, fun i hi => ?_, h.dead⟩
  by_cases hia : i = a
  · subst hia; unfold Dk.put; rw [upd_same, up_same, h.ar i hi]
  · unfold Dk.put; rw [upd_ne hia, up_ne hia]; exact h.ar i hi
theorem Al.sync {D : Dk} {r : Nat} {x : Nat → Ar} (h : Al D r x) {a : Nat} (ha : a < 3) :
    ((D.sync (a : Int)).2 = 0 ∧ Al (D.sync (a : Int)).1 r (up x a ⟨(x a).now, (x a).now, []⟩)) ∨ ((D.sync (a : Int)).2 = 10 ∧ De (D.sync (a : Int)).1 r x) := by
  have hm := h.may ha
  rcases h.unit with ⟨hu, h1⟩ | ⟨hu, h1, hd⟩
  · have e : D.sync (a : Int) = (D.unit.1.synced a, (D.unit.1.synced a).may a) := by unfold Dk.sync; rw [if_neg (by omega), if_pos hu]; rfl
    have h2 : Al (D.unit.1.synced a) r (up x a ⟨(x a).now, (x a).now, []⟩) := by
      refine ⟨h1.n, h1.room, fun i hi => ?_, h1.dead⟩
      by_cases hia : i = a
      · subst hia; unfold Dk.synced; rw [upd_same, up_same, h1.ar i hi]
      · unfold Dk.synced; rw [upd_ne hia, up_ne hia]; exact h1.ar i hi
    rw [e]
    exact Or.inl ⟨h2.may ha, h2⟩
  · have e : D.sync (a : Int) = (D.unit.1, D.unit.1.may a) := by unfold Dk.sync; rw [if_neg (by omega), if_neg (by rw [hu]; simp)]
    rw [e]
    exact Or.inr ⟨h1.mayD hd ha, h1⟩
theorem Al.cut {D : Dk} {r : Nat} {x : Nat → Ar} (h : Al D r x) {a : Nat} (ha : a < 3) :
    ((D.cut (a : Int) 0).2 = 0 ∧ Al (D.cut (a : Int) 0).1 r (up x a ⟨[], (x a).lasts, (x a).pend ++ [St.cut 0]⟩)) ∨ ((D.cut (a : Int) 0).2 = 10 ∧ De (D.cut (a : Int) 0).1 r x) := by
  have hm := h.may ha
  rcases h.unit with ⟨hu, h1⟩ | ⟨hu, h1, hd⟩
  · have e : D.cut (a : Int) 0 = (D.unit.1.put a (.cut 0), (D.unit.1.put a (.cut 0)).may a) := by unfold Dk.cut; rw [if_neg (by omega), if_neg (by omega), if_pos hu]; rfl
    have h2 := h1.put ha (.cut 0)
    rw [e]
    refine Or.inl ⟨h2.may ha, h2.cast fun i hi => ?_⟩
    simp [St.run]
  · have e : D.cut (a : Int) 0 = (D.unit.1, D.unit.1.may a) := by unfold Dk.cut; rw [if_neg (by omega), if_neg (by omega), if_neg (by rw [hu]; simp)]
    rw [e]
    exact Or.inr ⟨h1.mayD hd ha, h1⟩
theorem Al.grow {r : Nat} {a : Nat} (ha : a < 3) : ∀ (l : List UInt8) {D : Dk} {x : Nat → Ar}, Al D r x →
    Al (D.grow a l) r (up x a ⟨(x a).now ++ l, (x a).lasts, (x a).pend ++ l.map St.grow⟩) ∨ (∃ m, m < l.length ∧ De (D.grow a l) r (up x a ⟨(x a).now ++ l.take m, (x a).lasts, (x a).pend ++ (l.take m).map St.grow⟩) ∧ (D.grow a l).dead = true)
  | [], D, x, h => Or.inl (h.cast fun i hi => by
      by_cases hia : i = a
      · subst hia; rw [up_same]; simp
      · rw [up_ne hia])
  | c :: l, D, x, h => by
    rcases h.unit with ⟨hu, h1⟩ | ⟨hu, h1, hd⟩
    · have e : D.grow a (c :: l) = (D.unit.1.put a (.grow c)).grow a l := by
        show (if D.unit.2 = true then _ else _) = _
        rw [if_pos hu]
      rw [e]
      have h2 := h1.put ha (.grow c)
      rcases Al.grow ha l h2 with h3 | ⟨m, hm, h3, hd⟩
      · refine Or.inl (h3.cast fun i hi => ?_)
        by_cases hia : i = a
        · subst hia; simp only [up_same]; simp [St.run]
        · simp only [up_ne hia]
      · refine Or.inr ⟨m + 1, by simp only [List.length_cons]; omega, h3.cast fun i hi => ?_, hd⟩
        by_cases hia : i = a
        · subst hia; simp only [up_same]; simp [St.run]
        · simp only [up_ne hia]
    · have e : D.grow a (c :: l) = D.unit.1 := by
        show (if D.unit.2 = true then _ else _) = _
        rw [if_neg (by rw [hu]; simp)]
      rw [e]
      refine Or.inr ⟨0, by simp, h1.cast fun i hi => ?_, hd⟩
      by_cases hia : i = a
      · subst hia; simp only [up_same]; simp
      · simp only [up_ne hia]
theorem Al.append {D : Dk} {r : Nat} {x : Nat → Ar} (h : Al D r x) {a : Nat} (ha : a < 3) (l : List UInt8) (hf : tot x + l.length ≤ r) :
    ((D.append (a : Int) l).2 = 0 ∧ Al (D.append (a : Int) l).1 r (up x a ⟨(x a).now ++ l, (x a).lasts, (x a).pend ++ l.map St.grow⟩)) ∨
    ((D.append (a : Int) l).2 = 10 ∧ ∃ m, m < l.length ∧ De (D.append (a : Int) l).1 r (up x a ⟨(x a).now ++ l.take m, (x a).lasts, (x a).pend ++ (l.take m).map St.grow⟩)) := by
  have hm := h.may ha
  have e : D.append (a : Int) l = (D.grow a l, (D.grow a l).may a) := by
    unfold Dk.append
    rw [if_neg (by omega), if_neg (by rw [h.used, h.room]; omega)]
    rfl
  rw [e]
  rcases h.grow ha l with h1 | ⟨m, hm, h1, hd⟩
  · exact Or.inl ⟨h1.may ha, h1⟩
  · exact Or.inr ⟨h1.mayD hd ha, m, hm, h1⟩
theorem De.restart {D : Dk} {r : Nat} {x : Nat → Ar} (h : De D r x) (keep : Int) : JP (D.restart keep) r (fun i => (x i).back keep) := JP.restart h.n h.room h.ar keep
/-! Checkpoint. -/
def sl (s : Nat) : Nat := (s + 1) % 2
theorem sl_lt (s : Nat) : sl s < 3 := by unfold sl; omega
def Dk.stp (s : Nat) (x : List UInt8) (i : Nat) (D : Dk) : Dk × Int :=
  match i with
  | 0 => D.cut (sl s : Nat) 0
  | 1 => D.append (sl s : Nat) (rec1 (s + 1) x)
  | 2 => D.sync (sl s : Nat)
  | 3 => D.cut 2 0
  | _ => D.sync 2
def Dk.stg (D : Dk) (s : Nat) (x : List UInt8) : Nat → Dk × Int
  | 0 => (D, 0)
  | i + 1 => Dk.stp s x i (D.stg s x i).1
/-- How far a Checkpoint comes. -/
inductive Ck (D : Dk) (s : Nat) (x : List UInt8) : Dk → Nat → Int → Prop
  | ok : (∀ i, i ≤ 5 → (D.stg s x i).2 = 0) → Ck D s x (D.stg s x 5).1 (s + 1) 0
  | no : ∀ i, i < 5 → (∀ k, k ≤ i → (D.stg s x k).2 = 0) → (D.stg s x (i + 1)).2 ≠ 0 → Ck D s x (D.stg s x (i + 1)).1 (if 3 ≤ i then s + 1 else s) (D.stg s x (i + 1)).2
theorem WF.stg {D : Dk} {k : Nat} (h : WF D k) (s : Nat) (x : List UInt8) {i : Nat} (hi : i ≤ 5) : WF (D.stg s x i).1 (k + 38 + 2 * x.length) := by
  have h1 : WF (D.stg s x 1).1 (k + 2) := h.cut _ 0
  have h2 : WF (D.stg s x 2).1 (k + 2 + 2 * (16 + x.length)) := by
    have := h1.append (sl s : Nat) (rec1 (s + 1) x)
    rw [rec1_len] at this
    exact this
  have h3 : WF (D.stg s x 3).1 (k + 2 + 2 * (16 + x.length) + 1) := h2.sync _
  have h4 : WF (D.stg s x 4).1 (k + 2 + 2 * (16 + x.length) + 1 + 2) := h3.cut 2 0
  have h5 : WF (D.stg s x 5).1 (k + 2 + 2 * (16 + x.length) + 1 + 2 + 1) := h4.sync 2
  rcases (by omega : i = 0 ∨ i = 1 ∨ i = 2 ∨ i = 3 ∨ i = 4 ∨ i = 5) with rfl | rfl | rfl | rfl | rfl | rfl
  · exact WF.mono (k := k) h (by omega)
  · exact h1.mono (by omega)
  · exact h2.mono (by omega)
  · exact h3.mono (by omega)
  · exact h4.mono (by omega)
  · exact h5.mono (by omega)
theorem Ck.ok_of {D D' : Dk} {s s' : Nat} {x : List UInt8} {e : Int} (h : Ck D s x D' s' e) (hz : ∀ i, i ≤ 5 → (D.stg s x i).2 = 0) : D' = (D.stg s x 5).1 ∧ s' = s + 1 ∧ e = 0 := by
  cases h with
  | ok _ => exact ⟨rfl, rfl, rfl⟩
  | no i hi _ hn => exact absurd (hz (i + 1) (by omega)) hn
theorem Ck.no_of {D D' : Dk} {s s' : Nat} {x : List UInt8} {e : Int} (h : Ck D s x D' s' e) {j : Nat} (hj : j < 5) (hz : ∀ k, k ≤ j → (D.stg s x k).2 = 0) (hn : (D.stg s x (j + 1)).2 ≠ 0) : D' = (D.stg s x (j + 1)).1 ∧ e = (D.stg s x (j + 1)).2 := by
  cases h with
  | ok ha => exact absurd (ha (j + 1) (by omega)) hn
  | no i hi hz' hn' =>
    have : i = j := by
      rcases Nat.lt_trichotomy i j with h | h | h
      · exact absurd (hz (i + 1) h) hn'
      · exact h
      · exact absurd (hz' (j + 1) h) hn
    subst this
    exact ⟨rfl, rfl⟩
/-! Power that is not counted. -/
theorem live_may10 {D : Dk} (h : Live D) (a : Int) : D.may a ≠ 10 := by rw [live_may h]; split <;> omega
theorem live_put {D : Dk} (h : Live D) (a : Nat) (s : St) : Live (D.put a s) := ⟨h.armed, h.dead⟩
theorem live_unit1 {D : Dk} (h : Live D) : Live D.unit.1 ∧ D.unit.2 = true := by rw [live_unit h]; exact ⟨⟨h.armed, h.dead⟩, rfl⟩
theorem live_cutL {D : Dk} (h : Live D) (a n : Int) : Live (D.cut a n).1 ∧ (D.cut a n).2 ≠ 10 := by
  obtain ⟨h1, h2⟩ := live_unit1 h
  unfold Dk.cut
  split
  · exact ⟨h, live_may10 h a⟩
  · split
    · exact ⟨h, by show (2 : Int) ≠ 10; omega⟩
    · exact ⟨live_put h1 _ _, live_may10 (live_put h1 _ _) a⟩
theorem live_syncL {D : Dk} (h : Live D) (a : Int) : Live (D.sync a).1 ∧ (D.sync a).2 ≠ 10 := by
  obtain ⟨h1, h2⟩ := live_unit1 h
  have h3 : Live (D.unit.1.synced a.toNat) := ⟨h1.armed, h1.dead⟩
  unfold Dk.sync
  split
  · exact ⟨h, live_may10 h a⟩
  · exact ⟨h3, live_may10 h3 a⟩
theorem live_appendL {D : Dk} (h : Live D) (a : Int) (b : List UInt8) : Live (D.append a b).1 ∧ (D.append a b).2 ≠ 10 := by
  obtain ⟨h1, _⟩ := grow_live b a.toNat h
  unfold Dk.append
  split
  · exact ⟨h, live_may10 h a⟩
  · split
    · exact ⟨h, by show (8 : Int) ≠ 10; omega⟩
    · exact ⟨h1, live_may10 h1 a⟩
theorem live_stg {D : Dk} (h : Live D) (s : Nat) (x : List UInt8) : ∀ i, i ≤ 5 → Live (D.stg s x i).1 ∧ (D.stg s x i).2 ≠ 10
  | 0, _ => ⟨h, by show (0 : Int) ≠ 10; omega⟩
  | 1, _ => live_cutL h _ _
  | 2, _ => live_appendL (live_stg h s x 1 (by omega)).1 _ _
  | 3, _ => live_syncL (live_stg h s x 2 (by omega)).1 _
  | 4, _ => live_cutL (live_stg h s x 3 (by omega)).1 _ _
  | 5, _ => live_syncL (live_stg h s x 4 (by omega)).1 _
end Go.Proofs.Ytlidigdlcjhkfaa
