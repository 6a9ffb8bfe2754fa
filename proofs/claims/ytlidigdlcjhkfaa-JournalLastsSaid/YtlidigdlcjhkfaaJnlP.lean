/-
  Journals on a disk of three areas whose power is not counted: plain.
-/
import Derived.Test.YtlidigdlcjhkfaaJnlO
namespace Go.Proofs.Ytlidigdlcjhkfaa
open Go Go.Eng
set_option linter.unusedVariables false
set_option linter.unusedSimpArgs false

/-- Three areas, and no power counted. -/
structure JP (D : Dk) (r : Nat) (x : Nat → Ar) : Prop where
  live : Live D
  n : D.n = 3
  room : D.room = r
  ar : ∀ i, i < 3 → D.ar i = x i
def up (x : Nat → Ar) (a : Nat) (y : Ar) : Nat → Ar := fun i => if i = a then y else x i
theorem up_same (x : Nat → Ar) (a : Nat) (y : Ar) : up x a y a = y := if_pos rfl
theorem up_ne {x : Nat → Ar} {a i : Nat} {y : Ar} (h : i ≠ a) : up x a y i = x i := if_neg h
def tot (x : Nat → Ar) : Nat := (x 0).now.length + (x 1).now.length + (x 2).now.length
def none3 : Nat → Ar := fun _ => ⟨[], [], []⟩
theorem JP.new (room : Nat) (h : room ≤ 4194304) : JP (Dk.new 3 room) room none3 := ⟨live_new _ _, rfl, by simp [Dk.new]; omega, fun i hi => rfl⟩
theorem JP.used {D : Dk} {r : Nat} {x : Nat → Ar} (h : JP D r x) : D.used = tot x := by
  unfold Dk.used tot
  rw [h.n]
  simp only [sumTo, h.ar 0 (by omega), h.ar 1 (by omega), h.ar 2 (by omega)]
  omega
theorem JP.there {D : Dk} {r : Nat} {x : Nat → Ar} (h : JP D r x) {a : Nat} (ha : a < 3) : D.there (a : Int) := by unfold Dk.there; rw [h.n]; omega
theorem JP.read {D : Dk} {r : Nat} {x : Nat → Ar} (h : JP D r x) {a : Nat} (ha : a < 3) : D.read (a : Int) = (x a).now := by
  unfold Dk.read
  rw [if_pos (h.there ha), Int.toNat_natCast, h.ar a ha]
theorem JP.append {D : Dk} {r : Nat} {x : Nat → Ar} (h : JP D r x) {a : Nat} (ha : a < 3) (b : List UInt8) (hf : tot x + b.length ≤ r) :
    (D.append (a : Int) b).2 = 0 ∧ JP (D.append (a : Int) b).1 r (up x a ⟨(x a).now ++ b, (x a).lasts, (x a).pend ++ b.map St.grow⟩) := by
  obtain ⟨e, l, n, rm, ar⟩ := live_append h.live (a := (a : Int)) (b := b) (h.there ha) (by rw [h.used, h.room]; exact hf)
  refine ⟨e, l, by rw [n, h.n], by rw [rm, h.room], fun i hi => ?_⟩
  rw [ar]
  simp only [Int.toNat_natCast, up, h.ar a ha]
  split
  · rfl
  · exact h.ar i hi
theorem JP.full {D : Dk} {r : Nat} {x : Nat → Ar} (h : JP D r x) {a : Nat} (ha : a < 3) (b : List UInt8) (hf : ¬ tot x + b.length ≤ r) : D.append (a : Int) b = (D, 8) :=
  live_full h.live (h.there ha) (by rw [h.used, h.room]; exact hf)
theorem JP.sync {D : Dk} {r : Nat} {x : Nat → Ar} (h : JP D r x) {a : Nat} (ha : a < 3) :
    (D.sync (a : Int)).2 = 0 ∧ JP (D.sync (a : Int)).1 r (up x a ⟨(x a).now, (x a).now, []⟩) := by
  obtain ⟨e, l, n, rm, ar⟩ := live_sync h.live (a := (a : Int)) (h.there ha)
  refine ⟨e, l, by rw [n, h.n], by rw [rm, h.room], fun i hi => ?_⟩
  rw [ar]
  simp only [Int.toNat_natCast, up, h.ar a ha]
  split
  · rfl
  · exact h.ar i hi
theorem JP.cut {D : Dk} {r : Nat} {x : Nat → Ar} (h : JP D r x) {a : Nat} (ha : a < 3) (n : Nat) (hn : n ≤ (x a).now.length) :
    (D.cut (a : Int) (n : Int)).2 = 0 ∧ JP (D.cut (a : Int) (n : Int)).1 r (up x a ⟨(x a).now.take n, (x a).lasts, (x a).pend ++ [St.cut n]⟩) := by
  obtain ⟨e, l, hn', rm, ar⟩ := live_cut h.live (a := (a : Int)) (n := (n : Int)) (h.there ha) (by omega) (by rw [Int.toNat_natCast, h.ar a ha]; omega)
  refine ⟨e, l, by rw [hn', h.n], by rw [rm, h.room], fun i hi => ?_⟩
  rw [ar]
  simp only [Int.toNat_natCast, up, h.ar a ha]
  split
  · rfl
  · exact h.ar i hi
theorem JP.restart {D : Dk} {r : Nat} {x : Nat → Ar} (h : D.n = 3) (hr : D.room = r) (hx : ∀ i, i < 3 → D.ar i = x i) (keep : Int) : JP (D.restart keep) r (fun i => (x i).back keep) := by
  refine ⟨⟨rfl, rfl⟩, h, hr, fun i hi => ?_⟩
  unfold Dk.restart
  simp only [h, hi, if_true, hx i hi]
theorem back0 (x : Ar) : x.back 0 = ⟨x.lasts, x.lasts, []⟩ := by unfold Ar.back; simp [runs]
theorem JP.seqOf {D : Dk} {r : Nat} {x : Nat → Ar} (h : JP D r x) : D.seqOf = (chos (numd (x 0).now) (numd (x 1).now)).1 := by
  unfold Dk.seqOf
  rw [show D.read 0 = (x 0).now from h.read (a := 0) (by omega), show D.read 1 = (x 1).now from h.read (a := 1) (by omega)]
theorem JP.stateOf {D : Dk} {r : Nat} {x : Nat → Ar} (h : JP D r x) : D.stateOf = (chos (numd (x 0).now) (numd (x 1).now)).2 := by
  unfold Dk.stateOf
  rw [show D.read 0 = (x 0).now from h.read (a := 0) (by omega), show D.read 1 = (x 1).now from h.read (a := 1) (by omega)]
theorem JP.recsOf {D : Dk} {r : Nat} {x : Nat → Ar} (h : JP D r x) : D.recsOf = Recs (x 2).now D.seqOf := by
  unfold Dk.recsOf
  rw [show D.read 2 = (x 2).now from h.read (a := 2) (by omega)]
/-- What is open: what was there, but for what is no record. -/
theorem JP.opened {D : Dk} {r : Nat} {x : Nat → Ar} (h : JP D r x) : ∃ y, JP D.opened r (up x 2 y) ∧ y.now = (x 2).now.take D.recsOf.2 ∧ (D.recsOf.2 < (x 2).now.length ∧ y.lasts = y.now ∧ y.pend = [] ∨ D.recsOf.2 = (x 2).now.length ∧ y = x 2) := by
  have hr2 : D.read 2 = (x 2).now := h.read (a := 2) (by omega)
  have hle := (recs_le (x 2).now D.seqOf).1
  rw [← h.recsOf] at hle
  unfold Dk.opened
  rw [hr2]
  by_cases hlt : D.recsOf.2 < (x 2).now.length
  · rw [if_pos hlt]
    obtain ⟨e1, h1⟩ := h.cut (a := 2) (by omega) D.recsOf.2 (by omega)
    obtain ⟨e2, h2⟩ := h1.sync (a := 2) (by omega)
    refine ⟨⟨(x 2).now.take D.recsOf.2, (x 2).now.take D.recsOf.2, []⟩, ?_, rfl, Or.inl ⟨hlt, rfl, rfl⟩⟩
    refine ⟨h2.live, h2.n, h2.room, fun i hi => ?_⟩
    have := h2.ar i hi
    rw [show ((2 : Nat) : Int) = (2 : Int) from rfl] at this
    rw [this]
    simp only [up]
    split <;> simp_all
  · rw [if_neg hlt]
    have he : D.recsOf.2 = (x 2).now.length := by omega
    refine ⟨x 2, ⟨h.live, h.n, h.room, fun i hi => ?_⟩, by rw [he, List.take_length], Or.inr ⟨he, rfl⟩⟩
    rw [h.ar i hi]
    unfold up
    split
    · rename_i q; rw [q]
    · rfl
def tri (a b c : Ar) : Nat → Ar := fun i => if i = 0 then a else if i = 1 then b else c
theorem JP.cast {D : Dk} {r : Nat} {x y : Nat → Ar} (h : JP D r x) (he : ∀ i, i < 3 → x i = y i) : JP D r y := ⟨h.live, h.n, h.room, fun i hi => (h.ar i hi).trans (he i hi)⟩
abbrev J3 (D : Dk) (r : Nat) (a b c : Ar) : Prop := JP D r (tri a b c)
abbrev e3 : Ar := ⟨[], [], []⟩
theorem three {i : Nat} (h : i < 3) : i = 0 ∨ i = 1 ∨ i = 2 := by omega
theorem up_tri2 (a b c y : Ar) : ∀ i, i < 3 → up (tri a b c) 2 y i = tri a b y i := by
  intro i hi
  rcases three hi with rfl | rfl | rfl <;> rfl
theorem up_tri0 (a b c y : Ar) : ∀ i, i < 3 → up (tri a b c) 0 y i = tri y b c i := by
  intro i hi
  rcases three hi with rfl | rfl | rfl <;> rfl
theorem up_tri1 (a b c y : Ar) : ∀ i, i < 3 → up (tri a b c) 1 y i = tri a y c i := by
  intro i hi
  rcases three hi with rfl | rfl | rfl <;> rfl
theorem J3.new (room : Nat) (h : room ≤ 4194304) : J3 (Dk.new 3 room) room e3 e3 e3 := (JP.new room h).cast (fun i hi => by rcases three hi with rfl | rfl | rfl <;> rfl)
theorem J3.app2 {D : Dk} {r : Nat} {a b c : Ar} (h : J3 D r a b c) (l : List UInt8) (hf : a.now.length + b.now.length + c.now.length + l.length ≤ r) :
    (D.append 2 l).2 = 0 ∧ J3 (D.append 2 l).1 r a b ⟨c.now ++ l, c.lasts, c.pend ++ l.map St.grow⟩ := by
  obtain ⟨e, j⟩ := JP.append h (a := 2) (by omega) l (by show a.now.length + b.now.length + c.now.length + l.length ≤ r; exact hf)
  exact ⟨e, j.cast (up_tri2 _ _ _ _)⟩
theorem J3.full2 {D : Dk} {r : Nat} {a b c : Ar} (h : J3 D r a b c) (l : List UInt8) (hf : ¬ a.now.length + b.now.length + c.now.length + l.length ≤ r) : D.append 2 l = (D, 8) :=
  JP.full h (a := 2) (by omega) l hf
theorem J3.sync2 {D : Dk} {r : Nat} {a b c : Ar} (h : J3 D r a b c) : (D.sync 2).2 = 0 ∧ J3 (D.sync 2).1 r a b ⟨c.now, c.now, []⟩ := by
  obtain ⟨e, j⟩ := JP.sync h (a := 2) (by omega)
  exact ⟨e, j.cast (up_tri2 _ _ _ _)⟩
theorem J3.cut2 {D : Dk} {r : Nat} {a b c : Ar} (h : J3 D r a b c) (n : Nat) (hn : n ≤ c.now.length) : (D.cut 2 n).2 = 0 ∧ J3 (D.cut 2 n).1 r a b ⟨c.now.take n, c.lasts, c.pend ++ [St.cut n]⟩ := by
  obtain ⟨e, j⟩ := JP.cut h (a := 2) (by omega) n hn
  exact ⟨e, j.cast (up_tri2 _ _ _ _)⟩
theorem J3.restart {D : Dk} {r : Nat} {a b c : Ar} (h : J3 D r a b c) (keep : Int) : J3 (D.restart keep) r (a.back keep) (b.back keep) (c.back keep) :=
  (JP.restart h.n h.room h.ar keep).cast (fun i hi => by rcases three hi with rfl | rfl | rfl <;> rfl)
theorem J3.seqOf {D : Dk} {r : Nat} {a b c : Ar} (h : J3 D r a b c) : D.seqOf = (chos (numd a.now) (numd b.now)).1 := JP.seqOf h
theorem J3.stateOf {D : Dk} {r : Nat} {a b c : Ar} (h : J3 D r a b c) : D.stateOf = (chos (numd a.now) (numd b.now)).2 := JP.stateOf h
theorem J3.recsOf {D : Dk} {r : Nat} {a b c : Ar} (h : J3 D r a b c) : D.recsOf = Recs c.now D.seqOf := JP.recsOf h
theorem J3.read2 {D : Dk} {r : Nat} {a b c : Ar} (h : J3 D r a b c) : D.read 2 = c.now := JP.read h (a := 2) (by omega)
theorem J3.opened {D : Dk} {r : Nat} {a b c : Ar} (h : J3 D r a b c) : ∃ y, J3 D.opened r a b y ∧ y.now = c.now.take D.recsOf.2 ∧ (D.recsOf.2 < c.now.length ∧ y.lasts = y.now ∧ y.pend = [] ∨ D.recsOf.2 = c.now.length ∧ y = c) := by
  obtain ⟨y, j, h1, h2⟩ := JP.opened h
  exact ⟨y, j.cast (up_tri2 _ _ _ _), h1, h2⟩
theorem WF.opened {D : Dk} {k : Nat} (h : WF D k) : WF D.opened (k + 3) := by
  unfold Dk.opened
  split
  · exact (h.cut 2 _).sync 2
  · exact h.mono (by omega)
theorem recs_tail {s : Nat} (hs : s < 2 ^ 64) {l : List (List UInt8)} {t : List UInt8} (hl : ∀ x ∈ l, x.length ≤ 60000) (ht : ¬ Rok t s) : Recs (jd s l ++ t) s = (l, (jd s l).length) := by
  rw [recs_jd hs l t hl, Recs_none ht]; simp
theorem recs_all {s : Nat} (hs : s < 2 ^ 64) {l : List (List UInt8)} (hl : ∀ x ∈ l, x.length ≤ 60000) : Recs (jd s l) s = (l, (jd s l).length) := by
  have := recs_tail hs hl (rok_nil s)
  rwa [List.append_nil] at this
theorem chos_none : chos (numd []) (numd []) = (0, []) := by rw [numd_nil]; rfl
theorem jd_one (s : Nat) (x : List UInt8) : jd s [x] = rec1 s x := by simp [jd]
theorem flat_mem_le {l : List (List UInt8)} {x : List UInt8} (h : x ∈ l) : x.length ≤ l.flatten.length := by
  obtain ⟨i, hi, rfl⟩ := List.mem_iff_getElem.1 h
  have := congrArg (fun x => x.flatten.length) (List.take_append_drop i l)
  rw [List.drop_eq_getElem_cons hi] at this
  simp only [List.flatten_append, List.flatten_cons, List.length_append] at this
  omega
end Go.Proofs.Ytlidigdlcjhkfaa
