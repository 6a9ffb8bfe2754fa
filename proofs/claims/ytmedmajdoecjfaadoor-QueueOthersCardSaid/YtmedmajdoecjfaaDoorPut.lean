/-
  A file that is there, modified: paths stay. Plain.
-/
import Derived.Test.YtmedmajdoecjfaaDoorTreeP
namespace Go.Proofs.YtmedmajdoecjfaaDoor
open Go Go.Eng
set_option linter.unusedVariables false
set_option linter.unusedSimpArgs false

abbrev sortedT (t : Tree) : Prop := t.Pairwise fun a b => bLt a.p b.p
theorem right_sorted {t : Tree} (h : rightT t) : sortedT t := by
  obtain ⟨h1, _⟩ := right_pairs.1 h
  exact List.pairwise_iff_getElem.2 (fun i j hi hj hij => ((h1 j hj).2.2 i hij).1)
theorem has_mem {t : Tree} {s : List UInt8} : hasT t s = true ↔ s ∈ t.map Fi.p := by
  unfold hasT
  rw [List.any_eq_true, List.mem_map]
  constructor
  · rintro ⟨x, h1, h2⟩; exact ⟨x, h1, of_decide_eq_true h2⟩
  · rintro ⟨x, h1, h2⟩; exact ⟨x, h1, decide_eq_true h2⟩
theorem put_paths : ∀ {t : Tree} (h : sortedT t) {f : Fi} (hf : hasT t f.p = true), (putT t f).map Fi.p = t.map Fi.p
  | [], _, f, hf => by simp [hasT] at hf
  | y :: ys, h, f, hf => by
    obtain ⟨h1, h2⟩ := List.pairwise_cons.1 h
    by_cases hy : y.p = f.p
    · have hd : dropT (y :: ys) f.p = ys := by
        unfold dropT
        rw [List.filter_cons, if_neg (by simp [hy])]
        exact List.filter_eq_self.2 (fun z hz => by
          have : z.p ≠ f.p := fun q => bl_irrefl f.p (by have := h1 z hz; rw [hy, q] at this; exact this)
          simp [this])
      have hp : placeT ys f.p = 0 := by
        cases ys with
        | nil => rfl
        | cons z zs =>
          unfold placeT
          rw [List.findIdx_cons]
          have := h1 z List.mem_cons_self
          rw [hy] at this
          simp [this]
      unfold putT
      rw [hd, hp]
      simp [hy]
    · have hf' : hasT ys f.p = true := by
        unfold hasT at hf ⊢
        simpa [hy] using hf
      have hlt : bLt y.p f.p := by
        obtain ⟨z, hz, he⟩ := List.mem_map.1 (has_mem.1 hf')
        rw [← he]; exact h1 z hz
      have hd : dropT (y :: ys) f.p = y :: dropT ys f.p := by
        unfold dropT
        rw [List.filter_cons, if_pos (by simp [hy])]
      have hp : placeT (y :: dropT ys f.p) f.p = placeT (dropT ys f.p) f.p + 1 := by
        unfold placeT
        rw [List.findIdx_cons]
        simp [bl_asymm hlt]
      have ih := put_paths h2 hf'
      unfold putT at ih ⊢
      rw [hd, hp, List.take_succ_cons, List.drop_succ_cons, List.cons_append, List.map_cons, List.map_cons, ih]
theorem right_congr {t u : Tree} (h : rightT t) (hm : u.map Fi.p = t.map Fi.p) (hb : ∀ x ∈ u, x.b.length ≤ 65536) : rightT u := by
  have hl : u.length = t.length := by simpa using congrArg List.length hm
  have hp : ∀ i (h : i < u.length), u[i].p = (t[i]'(by omega)).p := fun i h => by
    have h1 : (u.map Fi.p)[i]'(by simpa using h) = (t.map Fi.p)[i]'(by simp; omega) := by simp only [hm]
    simpa using h1
  obtain ⟨h1, h2⟩ := right_pairs.1 h
  refine right_pairs.2 ⟨fun i hi => ?_, by omega⟩
  obtain ⟨a, b, c⟩ := h1 i (by omega)
  rw [hp i hi]
  refine ⟨a, hb _ (List.getElem_mem hi), fun k hk => ?_⟩
  rw [hp k (by omega)]
  exact c k hk
theorem put_mem {t : Tree} {f x : Fi} (h : x ∈ putT t f) : x = f ∨ x ∈ t := by
  unfold putT at h
  rcases List.mem_append.1 h with q | q
  · exact Or.inr ((List.mem_filter.1 (List.mem_of_mem_take q)).1)
  · rcases List.mem_cons.1 q with q | q
    · exact Or.inl q
    · exact Or.inr ((List.mem_filter.1 (List.mem_of_mem_drop q)).1)
theorem modify_apply {t : Tree} (h : rightT t) {x a : List UInt8} (hx : hasT t x = true) (ha : a.length ≤ 65536) : ∃ u, applyT t [⟨2, x, a⟩] = (0, u) ∧ u.map Fi.p = t.map Fi.p ∧ rightT u := by
  have hpx : rightP x := by
    obtain ⟨z, hz, rfl⟩ := List.mem_map.1 (has_mem.1 hx)
    obtain ⟨i, hi, rfl⟩ := List.mem_iff_getElem.1 hz
    exact (h.2.1 i hi).1
  have hb0 : ∀ y ∈ t, y.b.length ≤ 65536 := fun y hy => by
    obtain ⟨i, hi, rfl⟩ := List.mem_iff_getElem.1 hy
    exact (h.2.1 i hi).2.2
  have hs : stepT t ⟨2, x, a⟩ = (0, putT t ⟨x, a⟩) :=
    st0 (d := ⟨2, x, a⟩) (fun q => q.elim (fun q => absurd q (show ¬ (2 : Int) < 1 by decide)) (fun q => q.elim (fun q => absurd q (show ¬ 3 < (2 : Int) by decide)) (fun q => q hpx))) (show (2 : Int) ≠ 3 by decide) ⟨fun q => absurd q (show ¬ (2 : Int) = 1 by decide), fun q => absurd hx q⟩
  have hm := put_paths (right_sorted h) (f := ⟨x, a⟩) hx
  have hbp : ∀ y ∈ putT t ⟨x, a⟩, y.b.length ≤ 65536 := fun y hy => by
    rcases put_mem hy with rfl | q
    · exact ha
    · exact hb0 y q
  have hr := right_congr h hm hbp
  refine ⟨putT t ⟨x, a⟩, ap0 ?_ ?_ hr, hm, hr⟩
  · rw [run_cons0 (by rw [hs])]; rw [hs]; rfl
  · rintro (q | ⟨y, hy, q⟩)
    · have := hr.1; omega
    · have := hbp y hy; omega
end Go.Proofs.YtmedmajdoecjfaaDoor
