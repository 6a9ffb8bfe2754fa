/-
  Files, changes, trees: plain, and how they lie in memory.
-/
import Derived.Test.YtafcaigjijajnaaDoorPathM
import Derived.Test.YtafcaigjijajnaaDoorGenB
namespace Go.Proofs.YtafcaigjijajnaaDoor
open Go Go.Eng Go.RowKit
set_option linter.unusedVariables false
set_option linter.unusedSimpArgs false

/-- A file. -/
structure Fi where
  p : List UInt8
  b : List UInt8
/-- A change. -/
structure Dl where
  k : Int
  p : List UInt8
  b : List UInt8
def fiF (x : Fi) : ByteArray × List UInt8 := (str x.p, x.b)
def fiG (x : ByteArray × List UInt8) : Fi := ⟨x.1.data.toList, x.2⟩
def dlF (x : Dl) : Int × ByteArray × List UInt8 := (x.k, str x.p, x.b)
def dlG (x : Int × ByteArray × List UInt8) : Dl := ⟨x.1, x.2.1.data.toList, x.2.2⟩
abbrev fiT : Ty Fi := (Ty.string.pair Ty.byte.slice).iso fiF
abbrev dlT : Ty Dl := ((Ty.int .i64).pair (Ty.string.pair Ty.byte.slice)).iso dlF
section
variable {w : World} {F : Nat → Prop}
theorem fi_cells {x : Fi} {cs : List Value} (h : fiT.R w F x cs) : ∃ A c, cs = [.string (str x.p), .slice A x.b.length c] ∧ x.b.length ≤ c ∧ x.b.length ≤ 140737488355328 ∧ x.p.length ≤ 140737488355328 ∧ Ty.byte.Row w F A x.b := by
  obtain ⟨c1, c2, rfl, ⟨rfl, h1⟩, A, c, rfl, h2, h3, h4⟩ := h
  exact ⟨A, c, rfl, h2, h3, h1, h4⟩
theorem fi_mk {x : Fi} {A : Option Addr} {c : Nat} (h2 : x.b.length ≤ c) (h3 : x.b.length ≤ 140737488355328) (h1 : x.p.length ≤ 140737488355328) (h4 : Ty.byte.Row w F A x.b) : fiT.R w F x [.string (str x.p), .slice A x.b.length c] :=
  ⟨_, _, rfl, ⟨rfl, h1⟩, A, c, rfl, h2, h3, h4⟩
theorem dl_cells {x : Dl} {cs : List Value} (h : dlT.R w F x cs) : ∃ A c, cs = [.int .i64 x.k, .string (str x.p), .slice A x.b.length c] ∧ inK .i64 x.k ∧ x.b.length ≤ c ∧ x.b.length ≤ 140737488355328 ∧ x.p.length ≤ 140737488355328 ∧ Ty.byte.Row w F A x.b := by
  obtain ⟨c0, c12, rfl, ⟨rfl, h0⟩, c1, c2, rfl, ⟨rfl, h1⟩, A, c, rfl, h2, h3, h4⟩ := h
  exact ⟨A, c, rfl, h0, h2, h3, h1, h4⟩
theorem dl_mk {x : Dl} {A : Option Addr} {c : Nat} (h0 : inK .i64 x.k) (h2 : x.b.length ≤ c) (h3 : x.b.length ≤ 140737488355328) (h1 : x.p.length ≤ 140737488355328) (h4 : Ty.byte.Row w F A x.b) : dlT.R w F x [.int .i64 x.k, .string (str x.p), .slice A x.b.length c] :=
  ⟨_, _, rfl, ⟨rfl, h0⟩, _, _, rfl, ⟨rfl, h1⟩, A, c, rfl, h2, h3, h4⟩
end
abbrev Tree := List Fi
def hasT (t : Tree) (s : List UInt8) : Bool := t.any fun x => decide (x.p = s)
def dropT (t : Tree) (s : List UInt8) : Tree := t.filter fun x => !decide (x.p = s)
/-- Where a path goes. -/
def placeT (t : Tree) (s : List UInt8) : Nat := t.findIdx fun x => decide (bLt s x.p)
def putT (t : Tree) (f : Fi) : Tree := (dropT t f.p).take (placeT (dropT t f.p) f.p) ++ f :: (dropT t f.p).drop (placeT (dropT t f.p) f.p)
def stepT (t : Tree) (d : Dl) : Int × Tree :=
  if d.k < 1 ∨ 3 < d.k ∨ ¬ rightP d.p then (2, [])
  else if d.k = 1 ∧ hasT t d.p = true then (5, [])
  else if d.k ≠ 1 ∧ ¬ hasT t d.p = true then (6, [])
  else if d.k = 3 then (0, dropT t d.p)
  else (0, putT t ⟨d.p, d.b⟩)
def runT (t : Tree) : List Dl → Int × Tree
  | [] => (0, t)
  | d :: ds => if (stepT t d).1 = 0 then runT (stepT t d).2 ds else ((stepT t d).1, [])
/-- The directories, one above the other. -/
def dirsT (s : List UInt8) : List (List UInt8) := if h : s = [] then [] else s :: dirsT (dirP s)
termination_by s.length
decreasing_by exact dir_lt h
def isDir (t : Tree) (s : List UInt8) : Prop := ∃ x ∈ t, s ∈ dirsT (dirP x.p)
def fileOk (t : Tree) (i : Nat) (h : i < t.length) : Prop := rightP t[i].p ∧ (∀ h0 : 0 < i, bLt (t[i - 1]'(by omega)).p t[i].p) ∧ t[i].b.length ≤ 65536
def clashT (t : Tree) : Prop := ∃ x ∈ t, isDir t x.p
noncomputable instance (t : Tree) : Decidable (clashT t) := Classical.propDecidable _
def rightT (t : Tree) : Prop := t.length ≤ 1000 ∧ (∀ i (h : i < t.length), fileOk t i h) ∧ ¬ clashT t
noncomputable instance (t : Tree) : Decidable (rightT t) := Classical.propDecidable _
noncomputable def applyT (t : Tree) (ds : List Dl) : Int × Tree :=
  if (runT t ds).1 ≠ 0 then ((runT t ds).1, [])
  else if 1000 < (runT t ds).2.length ∨ (∃ x ∈ (runT t ds).2, 65536 < x.b.length) then (3, [])
  else if ¬ rightT (runT t ds).2 then (4, [])
  else (0, (runT t ds).2)
noncomputable instance (t : Tree) (ds : List Dl) : Decidable (1000 < (runT t ds).2.length ∨ (∃ x ∈ (runT t ds).2, 65536 < x.b.length)) := Classical.propDecidable _
theorem st2 {t : Tree} {d : Dl} (h : d.k < 1 ∨ 3 < d.k ∨ ¬ rightP d.p) : stepT t d = (2, []) := by unfold stepT; rw [if_pos h]
theorem st5 {t : Tree} {d : Dl} (h : ¬ (d.k < 1 ∨ 3 < d.k ∨ ¬ rightP d.p)) (h1 : d.k = 1) (h2 : hasT t d.p = true) : stepT t d = (5, []) := by unfold stepT; rw [if_neg h, if_pos ⟨h1, h2⟩]
theorem st6 {t : Tree} {d : Dl} (h : ¬ (d.k < 1 ∨ 3 < d.k ∨ ¬ rightP d.p)) (h1 : d.k ≠ 1) (h2 : ¬ hasT t d.p = true) : stepT t d = (6, []) := by unfold stepT; rw [if_neg h, if_neg (fun q => h1 q.1), if_pos ⟨h1, h2⟩]
theorem st3 {t : Tree} {d : Dl} (h : ¬ (d.k < 1 ∨ 3 < d.k ∨ ¬ rightP d.p)) (h1 : d.k = 3) (h2 : hasT t d.p = true) : stepT t d = (0, dropT t d.p) := by unfold stepT; rw [if_neg h, if_neg (fun q => by have := q.1; omega), if_neg (fun q => q.2 h2), if_pos h1]
theorem st0 {t : Tree} {d : Dl} (h : ¬ (d.k < 1 ∨ 3 < d.k ∨ ¬ rightP d.p)) (h1 : d.k ≠ 3) (h2 : d.k = 1 ↔ ¬ hasT t d.p = true) : stepT t d = (0, putT t ⟨d.p, d.b⟩) := by unfold stepT; rw [if_neg h, if_neg (fun q => (h2.1 q.1) q.2), if_neg (fun q => q.1 (h2.2 q.2)), if_neg h1]
theorem drop_len (t : Tree) (s : List UInt8) : (dropT t s).length ≤ t.length := List.length_filter_le _ _
theorem put_len (t : Tree) (f : Fi) : (putT t f).length ≤ t.length + 1 := by
  have := drop_len t f.p
  unfold putT
  simp only [List.length_append, List.length_take, List.length_cons, List.length_drop]
  omega
theorem step_len (t : Tree) (d : Dl) : (stepT t d).2.length ≤ t.length + 1 := by
  have h1 := drop_len t d.p
  have h2 := put_len t ⟨d.p, d.b⟩
  unfold stepT
  repeat' split
  all_goals first | (simp only [List.length_nil]; omega) | omega
theorem dirs_nil : dirsT [] = [] := by unfold dirsT; rfl
theorem dirs_cons {s : List UInt8} (h : s ≠ []) : dirsT s = s :: dirsT (dirP s) := by rw [dirsT]; rw [dif_neg h]
theorem run_cons0 {t : Tree} {d : Dl} {ds : List Dl} (h : (stepT t d).1 = 0) : runT t (d :: ds) = runT (stepT t d).2 ds := by rw [runT, if_pos h]
theorem run_consE {t : Tree} {d : Dl} {ds : List Dl} (h : (stepT t d).1 ≠ 0) : runT t (d :: ds) = ((stepT t d).1, []) := by rw [runT, if_neg h]
theorem apE {t : Tree} {ds : List Dl} {e : Int} (h : runT t ds = (e, [])) (h0 : e ≠ 0) : applyT t ds = (e, []) := by unfold applyT; rw [h, if_pos h0]
theorem ap3 {t u : Tree} {ds : List Dl} (h : runT t ds = (0, u)) (h0 : 1000 < u.length ∨ (∃ x ∈ u, 65536 < x.b.length)) : applyT t ds = (3, []) := by unfold applyT; rw [h, if_neg (fun q => q rfl), if_pos h0]
theorem ap4 {t u : Tree} {ds : List Dl} (h : runT t ds = (0, u)) (h0 : ¬ (1000 < u.length ∨ (∃ x ∈ u, 65536 < x.b.length))) (h1 : ¬ rightT u) : applyT t ds = (4, []) := by unfold applyT; rw [h, if_neg (fun q => q rfl), if_neg h0, if_pos h1]
theorem ap0 {t u : Tree} {ds : List Dl} (h : runT t ds = (0, u)) (h0 : ¬ (1000 < u.length ∨ (∃ x ∈ u, 65536 < x.b.length))) (h1 : rightT u) : applyT t ds = (0, u) := by unfold applyT; rw [h, if_neg (fun q => q rfl), if_neg h0, if_neg (fun q => q h1)]
end Go.Proofs.YtafcaigjijajnaaDoor
