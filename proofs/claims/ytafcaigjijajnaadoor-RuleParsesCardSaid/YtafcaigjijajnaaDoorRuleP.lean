/-
  Rules, plain: which may be, their text, and the way back.
-/
import Derived.Test.YtafcaigjijajnaaDoorRuleM
namespace Go.Proofs.YtafcaigjijajnaaDoor
open Go Go.Eng
set_option linter.unusedVariables false
set_option linter.unusedSimpArgs false

structure Ru where
  k : Int
  g : List UInt8
  o : List UInt8
  n : List UInt8
deriving DecidableEq
def wildC (c : UInt8) : Prop := plainC c ∨ c.toNat = 42 ∨ c.toNat = 63
instance (c : UInt8) : Decidable (wildC c) := by unfold wildC; exact inferInstance
/-- Two stars, side by side. -/
def twoS : List UInt8 → Prop
  | a :: b :: r => (a.toNat = 42 ∧ b.toNat = 42) ∨ twoS (b :: r)
  | _ => False
instance decTwoS : ∀ l : List UInt8, Decidable (twoS l)
  | [] => isFalse (fun h => h)
  | [_] => isFalse (fun h => h)
  | a :: b :: r => by
    have := decTwoS (b :: r)
    show Decidable ((a.toNat = 42 ∧ b.toNat = 42) ∨ twoS (b :: r))
    exact inferInstance
def nameW (p : List UInt8) : Prop := (∀ c ∈ p, wildC c) ∧ p ≠ [] ∧ p.length ≤ 30 ∧ p ≠ [46] ∧ p ≠ [46, 46]
instance (p : List UInt8) : Decidable (nameW p) := by unfold nameW; exact inferInstance
def patR (p : List UInt8) : Prop := p = [42, 42] ∨ (nameW p ∧ ¬ twoS p)
instance (p : List UInt8) : Decidable (patR p) := by unfold patR; exact inferInstance
def globR (g : List UInt8) : Prop := (∀ p ∈ parts 47 g, patR p) ∧ g.length ≤ 100
instance (g : List UInt8) : Decidable (globR g) := by unfold globR; exact inferInstance
def kindR (r : Ru) : Prop := (r.k = 1 ∧ tokR r.o) ∨ (r.k = 2 ∧ (10 : UInt8) ∉ r.o ∧ (10 : UInt8) ∉ r.n) ∨ (r.k = 3 ∧ (10 : UInt8) ∉ r.o ∧ r.n = []) ∨ (r.k = 4 ∧ rightP r.o ∧ rightP r.n) ∨ (r.k = 5 ∧ r.o = [] ∧ r.n = [])
instance (r : Ru) : Decidable (kindR r) := by unfold kindR; exact inferInstance
def ruR (r : Ru) : Prop := globR r.g ∧ r.o.length ≤ 100 ∧ r.n.length ≤ 100 ∧ kindR r
instance (r : Ru) : Decidable (ruR r) := by unfold ruR; exact inferInstance
def wordK (k : Int) : List UInt8 :=
  if k = 1 then [114, 101, 112, 108, 97, 99, 101] else if k = 2 then [105, 110, 115, 101, 114, 116] else if k = 3 then [115, 116, 114, 105, 107, 101]
  else if k = 4 then [114, 101, 110, 97, 109, 101] else if k = 5 then [114, 101, 109, 111, 118, 101] else []
def textsK (k : Int) : Nat := if k = 1 then 2 else if k = 2 then 2 else if k = 3 then 1 else if k = 4 then 2 else 0
/-- A rule's words, and its line. -/
def wordsR (r : Ru) : List (List UInt8) := wordK r.k :: r.g :: [quoteB r.o, quoteB r.n].take (textsK r.k)
def lineR (r : Ru) : List UInt8 := joinB 32 (wordsR r)
def textR (l : List Ru) : List UInt8 := l.flatMap fun r => lineR r ++ [10]
def printR (l : List Ru) : List UInt8 × Int := if ∀ r ∈ l, ruR r then (if l.length > 50 then ([], 3) else (textR l, 0)) else ([], 2)
/-- Which kind a word is of; 0: of none. -/
def kindK (w : List UInt8) : Int :=
  if w = [114, 101, 112, 108, 97, 99, 101] then 1 else if w = [105, 110, 115, 101, 114, 116] then 2 else if w = [115, 116, 114, 105, 107, 101] then 3
  else if w = [114, 101, 110, 97, 109, 101] then 4 else if w = [114, 101, 109, 111, 118, 101] then 5 else 0
/-- A line's words, as a rule. -/
def oneR : List (List UInt8) → Option Ru
  | w :: g :: ts =>
    if kindK w = 0 ∨ ts.length ≠ textsK (kindK w) then none
    else match ts with
      | [] => if ruR ⟨kindK w, g, [], []⟩ then some ⟨kindK w, g, [], []⟩ else none
      | [a] => match unqP a with
        | some o => if ruR ⟨kindK w, g, o, []⟩ then some ⟨kindK w, g, o, []⟩ else none
        | none => none
      | a :: b :: _ => match unqP a, unqP b with
        | some o, some n => if ruR ⟨kindK w, g, o, n⟩ then some ⟨kindK w, g, o, n⟩ else none
        | _, _ => none
  | _ => none
/-- The rules of lines: none: one is none. -/
def linesR : List (List UInt8) → Option (List Ru)
  | [] => some []
  | l :: r => if l = [] then linesR r else match oneR (parts 32 l) with
    | some x => (linesR r).map (x :: ·)
    | none => none
def parseR (s : List UInt8) : List Ru × Int := if s.length > 16384 then ([], 3) else match linesR (parts 10 s) with
  | some l => if l.length > 50 then ([], 3) else (l, 0)
  | none => ([], 11)
theorem kind_word {k : Int} (h : 1 ≤ k ∧ k ≤ 5) : kindK (wordK k) = k := by
  have : k = 1 ∨ k = 2 ∨ k = 3 ∨ k = 4 ∨ k = 5 := by omega
  rcases this with rfl | rfl | rfl | rfl | rfl <;> decide
theorem word_kind {w : List UInt8} (h : kindK w ≠ 0) : wordK (kindK w) = w ∧ 1 ≤ kindK w ∧ kindK w ≤ 5 := by
  unfold kindK at h ⊢
  split
  · rename_i h1; rw [h1]; decide
  · split
    · rename_i h1; rw [h1]; decide
    · split
      · rename_i h1; rw [h1]; decide
      · split
        · rename_i h1; rw [h1]; decide
        · split
          · rename_i h1; rw [h1]; decide
          · simp_all
theorem kind_range {r : Ru} (h : kindR r) : 1 ≤ r.k ∧ r.k ≤ 5 := by
  rcases h with h | h | h | h | h <;> have := h.1 <;> omega
theorem pat_sign {p : List UInt8} (h : patR p) : ∀ c ∈ p, 33 ≤ c.toNat ∧ c.toNat ≤ 126 := by
  intro c hc
  rcases h with h | h
  · rw [h] at hc
    simp only [List.mem_cons, List.not_mem_nil, or_false, or_self] at hc
    rw [hc]; decide
  · have := h.1.1 c hc
    unfold wildC plainC at this
    omega
theorem mem_parts {c x : UInt8} : ∀ {s : List UInt8}, x ∈ s → x ≠ c → ∃ p ∈ parts c s, x ∈ p
  | y :: l, h, hx => by
    unfold parts
    split
    · rename_i hy
      rcases List.mem_cons.1 h with k | k
      · exact absurd (k.trans hy) hx
      · obtain ⟨p, hp, hxp⟩ := mem_parts k hx
        exact ⟨p, List.mem_cons_of_mem _ hp, hxp⟩
    · rcases List.mem_cons.1 h with k | k
      · split
        · exact ⟨_, List.mem_cons_self, by rw [k]; exact List.mem_cons_self⟩
        · exact ⟨_, List.mem_cons_self, by rw [k]; exact List.mem_cons_self⟩
      · obtain ⟨p, hp, hxp⟩ := mem_parts k hx
        split
        · rename_i q r hq
          rw [hq] at hp
          rcases List.mem_cons.1 hp with j | j
          · exact ⟨_, List.mem_cons_self, by rw [← j]; exact List.mem_cons_of_mem _ hxp⟩
          · exact ⟨p, List.mem_cons_of_mem _ j, hxp⟩
        · rename_i hq
          exact absurd hq (parts_ne c l)
theorem glob_sign {g : List UInt8} (h : globR g) : ∀ c ∈ g, 33 ≤ c.toNat ∧ c.toNat ≤ 126 := by
  intro c hc
  by_cases h47 : c = 47
  · rw [h47]; decide
  · obtain ⟨p, hp, hcp⟩ := mem_parts hc h47
    exact pat_sign (h.1 p hp) c hcp
theorem glob_ne {g : List UInt8} (h : globR g) : g ≠ [] := by
  intro q
  subst q
  have := h.1 [] (by simp [parts])
  rcases this with k | k
  · cases k
  · exact k.1.2.1 rfl
theorem word_sign {k : Int} (h : 1 ≤ k ∧ k ≤ 5) : (∀ c ∈ wordK k, 33 ≤ c.toNat ∧ c.toNat ≤ 126) ∧ wordK k ≠ [] := by
  have : k = 1 ∨ k = 2 ∨ k = 3 ∨ k = 4 ∨ k = 5 := by omega
  rcases this with rfl | rfl | rfl | rfl | rfl <;> decide
theorem words_sign {r : Ru} (h : ruR r) : ∀ p ∈ wordsR r, ∀ c ∈ p, 33 ≤ c.toNat ∧ c.toNat ≤ 126 := by
  intro p hp c hc
  have hk := kind_range h.2.2.2
  unfold wordsR at hp
  rcases List.mem_cons.1 hp with k | hp
  · exact (word_sign hk).1 c (k ▸ hc)
  · rcases List.mem_cons.1 hp with k | hp
    · exact glob_sign h.1 c (k ▸ hc)
    · have := List.mem_of_mem_take hp
      simp only [List.mem_cons, List.not_mem_nil, or_false] at this
      rcases this with k | k
      · exact quote_word r.o c (k ▸ hc)
      · exact quote_word r.n c (k ▸ hc)
/-- A rule's words are read as the rule. -/
theorem one_words {r : Ru} (h : ruR r) : oneR (wordsR r) = some r := by
  have hk := kind_range h.2.2.2
  have hkw := kind_word hk
  obtain ⟨k, g, o, n⟩ := r
  have hkr := h.2.2.2
  unfold kindR at hkr
  simp only at hk hkw hkr
  have h0 : ¬ kindK (wordK k) = 0 := by rw [hkw]; omega
  rcases hkr with q | q | q | q | q
  · obtain ⟨rfl, -⟩ := q
    simp only [wordsR, textsK, oneR, hkw, if_true]
    simp [unqP_iff.2 (rfl : quoteB o = quoteB o), unqP_iff.2 (rfl : quoteB n = quoteB n), h]
  · obtain ⟨rfl, -⟩ := q
    simp only [wordsR, textsK, oneR, hkw, if_true]
    simp [unqP_iff.2 (rfl : quoteB o = quoteB o), unqP_iff.2 (rfl : quoteB n = quoteB n), h]
  · obtain ⟨rfl, -, rfl⟩ := q
    simp only [wordsR, textsK, oneR, hkw, if_true]
    simp [unqP_iff.2 (rfl : quoteB o = quoteB o), h]
  · obtain ⟨rfl, -⟩ := q
    simp only [wordsR, textsK, oneR, hkw, if_true]
    simp [unqP_iff.2 (rfl : quoteB o = quoteB o), unqP_iff.2 (rfl : quoteB n = quoteB n), h]
  · obtain ⟨rfl, rfl, rfl⟩ := q
    simp only [wordsR, textsK, oneR, hkw, if_true]
    simp [h]
theorem join_mem {c x : UInt8} : ∀ {l : List (List UInt8)}, x ∈ joinB c l → x = c ∨ ∃ p ∈ l, x ∈ p
  | [], h => by cases h
  | [p], h => Or.inr ⟨p, List.mem_cons_self, h⟩
  | p :: q :: r, h => by
    have h' : x ∈ p ++ c :: joinB c (q :: r) := h
    rcases List.mem_append.1 h' with k | k
    · exact Or.inr ⟨p, List.mem_cons_self, k⟩
    · rcases List.mem_cons.1 k with k | k
      · exact Or.inl k
      · rcases join_mem (l := q :: r) k with j | ⟨y, hy, hxy⟩
        · exact Or.inl j
        · exact Or.inr ⟨y, List.mem_cons_of_mem _ hy, hxy⟩
theorem line_words {r : Ru} (h : ruR r) : parts 32 (lineR r) = wordsR r :=
  parts_join (by unfold wordsR; simp) (fun p hp k => by have := (words_sign h p hp 32 k).1; revert this; decide)
theorem line_feed {r : Ru} (h : ruR r) : (10 : UInt8) ∉ lineR r := fun k => by
  rcases join_mem k with q | ⟨p, hp, hx⟩
  · revert q; decide
  · have := (words_sign h p hp 10 hx).1; revert this; decide
theorem line_ne {r : Ru} (h : ruR r) : lineR r ≠ [] := fun q => by
  have hw := line_words h
  rw [q] at hw
  have : wordsR r = [[]] := hw.symm
  unfold wordsR at this
  simp at this
/-- A text's lines. -/
theorem text_lines {l : List Ru} (h : ∀ r ∈ l, ruR r) : parts 10 (textR l) = l.map lineR ++ [[]] := by
  induction l with
  | nil => rfl
  | cons r l ih =>
    have e : textR (r :: l) = lineR r ++ 10 :: textR l := by unfold textR; simp
    rw [e, parts_app (line_feed (h r List.mem_cons_self)), ih (fun x hx => h x (List.mem_cons_of_mem _ hx))]
    rfl
theorem lines_app {a b : List (List UInt8)} : linesR (a ++ b) = match linesR a, linesR b with
    | some x, some y => some (x ++ y)
    | _, _ => none := by
  induction a with
  | nil => simp only [List.nil_append, linesR]; cases linesR b <;> rfl
  | cons p a ih =>
    simp only [List.cons_append, linesR]
    split
    · exact ih
    · split
      · rw [ih]
        cases linesR a <;> cases linesR b <;> rfl
      · cases linesR b <;> rfl
theorem lines_text {l : List Ru} (h : ∀ r ∈ l, ruR r) : linesR (l.map lineR) = some l := by
  induction l with
  | nil => rfl
  | cons r l ih =>
    have hr := h r List.mem_cons_self
    simp only [List.map_cons, linesR, if_neg (line_ne hr), line_words hr, one_words hr, ih (fun x hx => h x (List.mem_cons_of_mem _ hx)), Option.map_some]
/-- What is printed is parsed as it was. -/
theorem parse_text {l : List Ru} (h : ∀ r ∈ l, ruR r) : linesR (parts 10 (textR l)) = some l := by
  rw [text_lines h, lines_app, lines_text h]
  simp [linesR]
/-- A line that is a rule is the rule's line. -/
theorem one_line {s : List UInt8} {r : Ru} (h : oneR (parts 32 s) = some r) : ruR r ∧ s = lineR r := by
  have hj := join_parts (c := 32) s
  have key : ∀ ws, oneR ws = some r → ruR r ∧ ws = wordsR r := by
    intro ws hw
    rcases ws with _ | ⟨w, _ | ⟨g, ts⟩⟩
    · cases hw
    · cases hw
    · simp only [oneR] at hw
      split at hw
      · cases hw
      · rename_i hc
        have hk0 : kindK w ≠ 0 := fun q => hc (Or.inl q)
        have hlen : ts.length = textsK (kindK w) := Classical.byContradiction (fun q => hc (Or.inr q))
        obtain ⟨hw1, -, -⟩ := word_kind hk0
        split at hw
        · split at hw
          · rename_i hr
            cases hw
            refine ⟨hr, ?_⟩
            unfold wordsR
            simp only [List.length_nil] at hlen
            rw [hw1, ← hlen]; rfl
          · cases hw
        · split at hw
          · rename_i a o ho
            split at hw
            · rename_i hr
              cases hw
              refine ⟨hr, ?_⟩
              unfold wordsR
              simp only [List.length_cons, List.length_nil] at hlen
              rw [hw1, ← hlen, unqP_iff.1 ho]; rfl
            · cases hw
          · cases hw
        · rename_i a b rest
          split at hw
          · rename_i o n ho hn
            split at hw
            · rename_i hr
              cases hw
              refine ⟨hr, ?_⟩
              unfold wordsR
              simp only [List.length_cons] at hlen
              have ht : textsK (kindK w) ≤ 2 := by unfold textsK; split <;> (try split) <;> (try split) <;> (try split) <;> omega
              have hrest : rest = [] := List.length_eq_zero_iff.1 (by omega)
              subst hrest
              simp only [List.length_nil] at hlen
              rw [hw1, ← hlen, unqP_iff.1 ho, unqP_iff.1 hn]; rfl
            · cases hw
          · cases hw
  obtain ⟨h1, h2⟩ := key _ h
  refine ⟨h1, ?_⟩
  unfold lineR
  rw [← h2, hj]
theorem lines_right {ls : List (List UInt8)} : ∀ {l : List Ru}, linesR ls = some l → (∀ r ∈ l, ruR r) ∧ (textR l).length ≤ (ls.map fun p => p.length + 1).sum ∧ l.length ≤ ls.length := by
  induction ls with
  | nil => intro l h; cases h; exact ⟨(fun r hr => by cases hr), Nat.le_refl _, Nat.le_refl _⟩
  | cons p ls ih =>
    intro l h
    unfold linesR at h
    split at h
    · obtain ⟨h1, h2, h3⟩ := ih h
      exact ⟨h1, by simp only [List.map_cons, List.sum_cons]; omega, by simp only [List.length_cons]; omega⟩
    · split at h
      · rename_i x hx
        simp only [Option.map_eq_some_iff] at h
        obtain ⟨l', hl', rfl⟩ := h
        obtain ⟨h1, h2, h3⟩ := ih hl'
        obtain ⟨hr, hp⟩ := one_line hx
        refine ⟨fun r hr' => by rcases List.mem_cons.1 hr' with k | k; rw [k]; exact hr; exact h1 r k, ?_, by simp only [List.length_cons]; omega⟩
        have e : textR (x :: l') = lineR x ++ 10 :: textR l' := by unfold textR; simp
        rw [e, ← hp]
        simp only [List.length_append, List.length_cons, List.map_cons, List.sum_cons]; omega
      · cases h
theorem parts_sum {c : UInt8} : ∀ s : List UInt8, ((parts c s).map fun p => p.length + 1).sum = s.length + 1
  | [] => rfl
  | x :: l => by
    have ih := parts_sum (c := c) l
    unfold parts
    split
    · simp only [List.map_cons, List.sum_cons, ih, List.length_nil, List.length_cons]; omega
    · split
      · rename_i q r hq
        rw [hq] at ih
        simp only [List.map_cons, List.sum_cons, List.length_cons] at ih ⊢; omega
      · rename_i hq
        exact absurd hq (parts_ne c l)
end Go.Proofs.YtafcaigjijajnaaDoor
