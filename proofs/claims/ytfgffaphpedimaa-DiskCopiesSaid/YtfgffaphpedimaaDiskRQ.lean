/-
  The disk and the chapter's own, plain: all that is told is the same.
-/
import Derived.Test.YtfgffaphpedimaaDiskRR
namespace Go.Proofs.Ytfgffaphpedimaa
open Go Go.Eng
set_option linter.unusedVariables false
set_option linter.unusedSimpArgs false

theorem rgrow_n : ∀ (l : List UInt8) (D : Dk) (a : Nat), (D.rgrow a l).n = D.n
  | [], D, a => rfl
  | c :: l, D, a => by
    unfold Dk.rgrow
    split
    · rfl
    · rw [rgrow_n l, rput_n]
theorem WF.rgrow : ∀ {l : List UInt8} {D : Dk} {k a : Nat}, WF D k → a < D.n → WF (D.rgrow a l) (k + 2 * l.length)
  | [], D, k, a, h, _ => h
  | c :: l, D, k, a, h, ha => by
    unfold Dk.rgrow
    split
    · exact h.mono (by omega)
    · have h1 := (h.rput (s := .grow c) (a := a) ha trivial)
      have := WF.rgrow (l := l) h1 (by rw [rput_n]; exact ha)
      exact this.mono (by simp only [List.length_cons]; omega)
theorem WF.does {D : Dk} {k : Nat} (h : WF D k) (o : Do) : WF (D.does o).1 (k + 2 * (1 + o.b.length)) := by
  unfold Dk.does
  split
  · exact (h.append _ _).mono (by omega)
  · split
    · exact (h.cut _ _).mono (by omega)
    · split
      · exact (h.sync _).mono (by omega)
      · split
        · exact (h.arm _).mono (by omega)
        · split
          · exact (h.restart _).mono (by omega)
          · exact h.mono (by omega)
theorem WF.rdoes {D : Dk} {k : Nat} (h : WF D k) (o : Do) : WF (D.rdoes o).1 (k + 2 * (1 + o.b.length)) := by
  unfold Dk.rdoes
  split
  · unfold Dk.rappend
    split
    · exact h.mono (by omega)
    · rename_i hm
      split
      · exact h.mono (by omega)
      · exact (h.rgrow (there_nat (may_there (Classical.byContradiction hm))).2).mono (by omega)
  · split
    · unfold Dk.rcut
      split
      · exact h.mono (by omega)
      · rename_i hm
        split
        · exact h.mono (by omega)
        · exact (h.rput (there_nat (may_there (Classical.byContradiction hm))).2 (show o.n.toNat ≤ _ by omega)).mono (by omega)
    · split
      · unfold Dk.rsync
        split
        · exact h.mono (by omega)
        · split
          · exact h.runit.synced.mono (by omega)
          · exact h.runit.mono (by omega)
      · split
        · exact (h.arm _).mono (by omega)
        · split
          · exact (h.restart _).mono (by omega)
          · exact h.mono (by omega)
/-- The same, but for what power there is while it is not counted. -/
def Sim (D R : Dk) : Prop := ∃ p : Int, R = { D with power := p } ∧ (D.armed = true → p = D.power)
theorem sim_refl (D : Dk) : Sim D D := ⟨D.power, rfl, fun _ => rfl⟩
theorem Sim.dead {D R : Dk} (h : Sim D R) : R.dead = D.dead := by obtain ⟨p, rfl, _⟩ := h; rfl
theorem Sim.used {D R : Dk} (h : Sim D R) : R.used = D.used := by obtain ⟨p, rfl, _⟩ := h; rfl
theorem Sim.may {D R : Dk} (h : Sim D R) (a : Int) : R.may a = D.may a := by obtain ⟨p, rfl, _⟩ := h; rfl
theorem Sim.read {D R : Dk} (h : Sim D R) (a : Int) : R.read a = D.read a := by obtain ⟨p, rfl, _⟩ := h; rfl
theorem Sim.lasting {D R : Dk} (h : Sim D R) (a : Int) : R.lasting a = D.lasting a := by obtain ⟨p, rfl, _⟩ := h; rfl
theorem Sim.unit {D R : Dk} (h : Sim D R) : Sim D.unit.1 R.runit.1 ∧ R.runit.2 = D.unit.2 := by
  obtain ⟨p, rfl, hp⟩ := h
  unfold Dk.unit Dk.runit
  by_cases ha : D.armed = true
  · have e := hp ha
    subst e
    by_cases h0 : D.power = 0
    · simp only [ha, h0, and_self, if_true]
      exact ⟨⟨_, rfl, fun _ => rfl⟩, trivial⟩
    · simp only [ha, h0, and_false, if_true, if_false]
      exact ⟨⟨_, rfl, fun _ => rfl⟩, trivial⟩
  · have ha' : D.armed = false := by simpa using ha
    simp only [ha', Bool.false_eq_true, false_and, if_false]
    refine ⟨⟨p, ?_, fun q => ?_⟩, trivial⟩
    · rfl
    · simp [ha'] at q
theorem Sim.put {D R : Dk} (h : Sim D R) (a : Nat) (s : St) : Sim (D.put a s) (R.put a s) := by
  obtain ⟨p, rfl, hp⟩ := h
  exact ⟨p, rfl, hp⟩
theorem Sim.synced {D R : Dk} (h : Sim D R) (a : Nat) : Sim (D.synced a) (R.synced a) := by
  obtain ⟨p, rfl, hp⟩ := h
  exact ⟨p, rfl, hp⟩
theorem unit_dead {D : Dk} (hd : D.dead = false) : D.unit.1.dead = !D.unit.2 := by
  unfold Dk.unit
  split
  · rfl
  · simpa using hd
theorem rgrow_dead {D : Dk} (hd : D.dead = true) (a : Nat) (l : List UInt8) : D.rgrow a l = D := by
  cases l with
  | nil => rfl
  | cons c l => unfold Dk.rgrow; rw [if_pos hd]
theorem Sim.grow : ∀ (l : List UInt8) {D R : Dk} (a : Nat), Sim D R → D.dead = false → Sim (D.grow a l) (R.rgrow a l)
  | [], D, R, a, h, _ => h
  | c :: l, D, R, a, h, hd => by
    obtain ⟨h1, h2⟩ := h.unit
    have hdu := unit_dead hd
    unfold Dk.grow Dk.rgrow
    rw [if_neg (c := R.dead = true) (by rw [h.dead, hd]; exact Bool.false_ne_true)]
    unfold Dk.rput
    rw [h2]
    by_cases hu : D.unit.2 = true
    · rw [if_pos hu, if_pos hu]
      exact Sim.grow l a (h1.put a _) (by show D.unit.1.dead = false; rw [hdu, hu]; rfl)
    · rw [if_neg hu, if_neg hu]
      rw [rgrow_dead (by rw [h1.dead, hdu]; simpa using hu)]
      exact h1
theorem may_live {D : Dk} {a : Int} (h : D.may a = 0) : D.dead = false := by
  unfold Dk.may at h
  split at h
  · split at h
    · cases h
    · rename_i q; simpa using q
  · cases h
theorem Sim.does {D R : Dk} (h : Sim D R) (o : Do) : Sim (D.does o).1 (R.rdoes o).1 ∧ (R.rdoes o).2 = (D.does o).2 := by
  unfold Dk.does Dk.rdoes
  split
  · unfold Dk.append Dk.rappend
    rw [h.may, h.used]
    have hr : R.room = D.room := by obtain ⟨p, rfl, _⟩ := h; rfl
    rw [hr]
    split
    · exact ⟨h, rfl⟩
    · rename_i hm
      split
      · exact ⟨h, rfl⟩
      · have := Sim.grow o.b o.a.toNat h (may_live (Classical.byContradiction hm))
        exact ⟨this, this.may _⟩
  · split
    · unfold Dk.cut Dk.rcut
      rw [h.may]
      have hr : R.ar = D.ar := by obtain ⟨p, rfl, _⟩ := h; rfl
      rw [hr]
      split
      · exact ⟨h, rfl⟩
      · split
        · exact ⟨h, rfl⟩
        · unfold Dk.rput
          obtain ⟨h1, h2⟩ := h.unit
          rw [h2]
          split
          · exact ⟨h1.put _ _, (h1.put _ _).may _⟩
          · exact ⟨h1, h1.may _⟩
    · split
      · unfold Dk.sync Dk.rsync
        rw [h.may]
        split
        · exact ⟨h, rfl⟩
        · obtain ⟨h1, h2⟩ := h.unit
          rw [h2]
          split
          · exact ⟨h1.synced _, (h1.synced _).may _⟩
          · exact ⟨h1, h1.may _⟩
      · split
        · refine ⟨?_, rfl⟩
          obtain ⟨p, rfl, hp⟩ := h
          unfold Dk.arm
          by_cases hd : D.dead = true
          · rw [if_pos hd, if_pos hd]; exact ⟨p, rfl, hp⟩
          · rw [if_neg hd, if_neg hd]; exact ⟨_, rfl, fun _ => rfl⟩
        · split
          · refine ⟨?_, rfl⟩
            obtain ⟨p, rfl, hp⟩ := h
            exact ⟨p, rfl, fun q => by cases q⟩
          · exact ⟨h, rfl⟩
def long (l : List Do) : Nat := (l.map fun o => 1 + o.b.length).sum
theorem long_take {l : List Do} {i : Nat} (h : i < l.length) : long (l.take (i + 1)) = long (l.take i) + (1 + l[i].b.length) := by
  unfold long
  rw [← List.take_append_getElem h, List.map_append, List.sum_append]
  simp
theorem long_le (l : List Do) (i : Nat) : long (l.take i) ≤ long l := by
  unfold long
  have := List.take_append_drop i l
  have h2 : (l.map fun o => 1 + o.b.length).sum = ((l.take i).map fun o => 1 + o.b.length).sum + ((l.drop i).map fun o => 1 + o.b.length).sum := by
    rw [← List.sum_append, ← List.map_append, this]
  omega
theorem long_big {l : List Do} (h : ∀ o ∈ l, o.b.length ≤ 140737488355328) : long l ≤ l.length * 140737488355329 := by
  induction l with
  | nil => simp [long]
  | cons o l ih =>
    have h1 := h o (by simp)
    have h2 := ih (fun x hx => h x (by simp [hx]))
    unfold long at *
    simp only [List.map_cons, List.sum_cons, List.length_cons, Nat.add_mul, Nat.one_mul]
    omega
end Go.Proofs.Ytfgffaphpedimaa
