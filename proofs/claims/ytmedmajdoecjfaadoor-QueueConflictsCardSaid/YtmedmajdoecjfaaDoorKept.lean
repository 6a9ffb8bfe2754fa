/-
  Rows of one's own that something else that changes does not touch; changes that may be.
-/
import Derived.Test.YtmedmajdoecjfaaDoorFacts
import Derived.Test.YtmedmajdoecjfaaDoorRefY
import Derived.Test.YtmedmajdoecjfaaDoorSpl
namespace Go.Proofs.YtmedmajdoecjfaaDoor
open Go Go.Eng Go.RowKit Go.Proofs
set_option linter.unusedVariables false
set_option linter.unusedSimpArgs false
set_option maxHeartbeats 1000000

/-- A row of one's own, none of which is in Z. -/
def Kept {α : Type} (T : Ty α) (el : TypeId) (Z : Nat → Prop) (w : World) (B : Nat) (v : Value) (l : List α) : Prop :=
  ∃ F, Eng.Own T w F B el v l ∧ (∀ b, F b → b < w.heap.size ∧ ¬ Z b ∧ v.ownBlock ≠ some b) ∧ ∀ b, v.ownBlock = some b → ¬ Z b
section
variable {α : Type} {T : Ty α} {el : TypeId} {Z : Nat → Prop} {w w' : World} {B : Nat} {v : Value} {l : List α}
theorem Kept.nil : Kept T el Z w B (.slice none 0 0) ([] : List α) := ⟨nobody, .nil, fun _ q => q.elim, fun _ q => by cases q⟩
theorem Kept.mv (h : Kept T el Z w B v l) (hM : Mv Z w w') {Z' : Nat → Prop} (hZ : ∀ b, Z' b → Z b ∨ w.heap.size ≤ b) : Kept T el Z' w' B v l := by
  obtain ⟨F, h1, h2, h3⟩ := h
  refine ⟨F, h1.keep (fun b hb => hM.block b (h2 b hb).1 (h2 b hb).2.1) (fun _ h => h) (fun g hg => hM.block g (h1.lt hg).2 (h3 g hg)), fun b hb => ⟨Nat.lt_of_lt_of_le (h2 b hb).1 hM.size, fun q => ?_, (h2 b hb).2.2⟩, fun b hb q => ?_⟩
  · rcases hZ b q with k | k
    · exact (h2 b hb).2.1 k
    · have := (h2 b hb).1; omega
  · rcases hZ b q with k | k
    · exact h3 b hb k
    · have := (h1.lt hb).2; omega
theorem Kept.ext (h : Kept T el Z w B v l) (hE : Ext w w') : Kept T el Z w' B v l := h.mv (Mv.of_ext hE) (fun b hb => Or.inl hb)
theorem Kept.read (h : Kept T el Z w B v l) : ∃ A cap, v = .slice A l.length cap ∧ l.length ≤ cap ∧ T.Row w (fun b => b < w.heap.size ∧ ¬ Z b) A l := by
  obtain ⟨F, h1, h2, h3⟩ := h
  obtain ⟨A, cap, e, hc, hr⟩ := h1.read
  refine ⟨A, cap, e, hc, hr.keep (fun _ _ => rfl) ?_⟩
  rintro b (q | q)
  · exact ⟨(h2 b q).1, (h2 b q).2.1⟩
  · exact ⟨(h1.lt q).2, h3 b q⟩
end
section
variable {α : Type} {T : Ty α} {P : Program} {w w0 : World} {n : Nat} {N : Env → World → Prop} {X : Exit → Env → World → Prop} {e : Env} {ops : Array Oper} {rest : List Oper} {d : Option Tmp} {ty : TypeId} {pos : String} {af : Array Edge}
/-- One more, of what was made since. -/
theorem op_kept {Z : Nat → Prop} {B : Nat} {s x : Operand} {t el : TypeId} {z : Value} {by_ c : Nat} {v : Value} {l : List α} {a : α} {A : Option Addr} (hd : dOk n d = true) (hsv : ev e s = v) (hx : ev e x = .slice A 1 c)
    (hu : P.underlying t = some (.slice el)) (hs : (P.info? el).map (·.size) = some T.sz) (hy : (P.info? el).map (·.bytes) = some by_) (hz : (P.info? el).bind (·.zero) = some z) (hzs : z.cells.size = T.sz)
    (hZ : ∀ b, Z b → b < w0.heap.size) (hB : B ≤ w0.heap.size) (hE : Ext w0 w) (hK : Kept T el Z w0 B v l) (hrow : Eng.Src T w (since w0 w) A [a]) (hsz : (l.length + 1) * by_ ≤ 140737488355328) (h63 : l.length + 1 ≤ 140737488355328)
    (h : ∀ v' w', Kept T el Z w' B v' (l ++ [a]) → Gro v.ownBlock w w' → (∀ g, v.ownBlock = some g → B ≤ g ∧ g < w0.heap.size ∧ ¬ Z g) → (v'.ownBlock = v.ownBlock ∨ ∃ g, v'.ownBlock = some g ∧ w.heap.size ≤ g) → WL P n ops N X rest (putO e d v') w') :
    WL P n ops N X (⟨d, .call { callee := .builtin .append, args := #[s, x], argTypes := #[t, t] }, ty, pos, af, none⟩ :: rest) e w := by
  obtain ⟨F, h1, h2, h3⟩ := hK
  have hown : Eng.Own T w (fun b => F b ∨ since w0 w b) B el v l := (h1.ext hE (fun b hb => (h2 b hb).1)).mono (fun b hb => Or.inl hb)
  have hne : ∀ g, v.ownBlock = some g → B ≤ g ∧ g < w0.heap.size ∧ ¬ Z g := fun g hg => ⟨(h1.lt hg).1, (h1.lt hg).2, h3 g hg⟩
  have hF : ∀ b, (F b ∨ since w0 w b) → b < w.heap.size ∧ v.ownBlock ≠ some b := fun b hb => hb.elim (fun q => ⟨Nat.lt_of_lt_of_le (h2 b q).1 hE.size, (h2 b q).2.2⟩) (fun q => ⟨q.2, fun k => by have := (hne b k).2.1; have := q.1; omega⟩)
  refine op_append (T := T) (F := fun b => F b ∨ since w0 w b) (l := l) (m := [a]) hd hsv hx hu hs hy hz hzs hown (by
    rcases hrow with q | ⟨g, off, xs, q1, q2, q3⟩
    · exact Or.inl q
    · exact Or.inr ⟨g, off, xs, q1, q2.keep (fun _ _ => rfl) (fun b hb => Or.inr hb), q3⟩) hF (by simpa using hsz) (by simpa using h63) (by have := hE.size; omega) ?_
  intro v' w' hO' hG hv'
  have hs0 := hE.size
  have hs1 := hG.size
  refine h v' w' ⟨fun b => F b ∨ since w0 w b, hO', fun b hb => ⟨by have := (hF b hb).1; omega, ?_, fun q => ?_⟩, fun b hb q => ?_⟩ hG hne hv'
  · rcases hb with q | q
    · exact (h2 b q).2.1
    · exact fun k => by have := hZ b k; have := q.1; omega
  · rcases hv' with k | ⟨g, k, hg⟩
    · exact (hF b hb).2 (k ▸ q)
    · rw [k] at q; simp only [Option.some.injEq] at q; have := (hF b hb).1; omega
  · rcases hv' with k | ⟨g, k, hg⟩
    · exact (hne b (k ▸ hb)).2.2 q
    · rw [k] at hb; simp only [Option.some.injEq] at hb; have := hZ b q; omega
end
/-- What may be applied has paths that may be. -/
theorem run_paths : ∀ {ds : List Dl} {t u : Tree}, runT t ds = (0, u) → ∀ d ∈ ds, rightP d.p
  | [], _, _, _, d, hd => by cases hd
  | d :: ds, t, u, h, d', hd' => by
    by_cases h0 : (stepT t d).1 = 0
    · rw [run_cons0 h0] at h
      rcases List.mem_cons.1 hd' with rfl | q
      · refine Classical.byContradiction fun hn => ?_
        rw [st2 (Or.inr (Or.inr hn))] at h0
        cases h0
      · exact run_paths h d' q
    · rw [run_consE h0] at h
      exact absurd (congrArg Prod.fst h) h0
theorem apply_run {t u : Tree} {ds : List Dl} (h : applyT t ds = (0, u)) : runT t ds = (0, u) := by
  unfold applyT at h
  split at h
  · rename_i q; exact absurd (congrArg Prod.fst h) q
  · rename_i q
    split at h
    · cases h
    · split at h
      · cases h
      · rw [Prod.ext_iff]
        exact ⟨Classical.not_not.1 q, by have := congrArg Prod.snd h; simpa using this⟩
theorem right_path_len {s : List UInt8} (h : rightP s) : s.length ≤ 1099511627776 := by
  have := h.2; omega
theorem tree_paths {t : Tree} (h : rightT t) : ∀ x ∈ t, x.p.length ≤ 1099511627776 := fun x hx => by
  obtain ⟨i, hi, rfl⟩ := List.mem_iff_getElem.1 hx
  exact right_path_len (h.2.1 i hi).1
/-- A commit that is one. -/
theorem commit_good {H : List Rv} {ds : List Dl} (h : (commitR H ds).2.2 = 0) : ∃ u, (commitR H ds).1 = H ++ [⟨ds, u⟩] ∧ (commitR H ds).2.1 = H.length ∧ applyT (headT H) ds = (0, u) := by
  unfold commitR at h ⊢
  split at h
  · cases h
  · rename_i h1
    split at h
    · cases h
    · rename_i h2
      split at h
      · rename_i q; exact absurd h q
      · rename_i h3
        rw [if_neg h1, if_neg h2, if_neg h3]
        exact ⟨_, rfl, rfl, Prod.ext (Classical.not_not.1 h3) rfl⟩
theorem commit_bad {H : List Rv} {ds : List Dl} (h : (commitR H ds).2.2 ≠ 0) : (commitR H ds).1 = H := by
  rcases commit_cases H ds with q | ⟨u, q⟩
  · exact q.1
  · exact absurd q.2.2 h
end Go.Proofs.YtmedmajdoecjfaaDoor
