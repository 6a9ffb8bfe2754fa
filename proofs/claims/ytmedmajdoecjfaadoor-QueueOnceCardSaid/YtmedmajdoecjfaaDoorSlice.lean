/-
  The engine: slices that are made, appended to, cut. Generic: no program.
-/
import Derived.Test.YtmedmajdoecjfaaDoorDraw
namespace Go.Eng
set_option linter.unusedVariables false
set_option linter.unusedSimpArgs false
open Go.RowKit

/-- Cells, one element behind the other. -/
def Cat {α : Type} (T : Ty α) (w : World) (F : Nat → Prop) : List α → List Value → Prop
  | [], xs => xs = []
  | x :: l, xs => ∃ c r, xs = c ++ r ∧ T.R w F x c ∧ Cat T w F l r
section
variable {α : Type} {T : Ty α} {w w' : World} {F F' : Nat → Prop}
theorem Cat.len : ∀ {l : List α} {xs : List Value}, Cat T w F l xs → xs.length = l.length * T.sz
  | [], _, h => by cases h; simp
  | x :: l, _, ⟨c, r, rfl, h1, h2⟩ => by rw [List.length_append, T.len h1, h2.len, List.length_cons, Nat.add_mul]; omega
theorem Cat.one : ∀ {l : List α} {xs : List Value}, Cat T w F l xs → ∀ u ∈ xs, u.oneCell' = true
  | [], _, h, u, hu => by cases h; cases hu
  | x :: l, _, ⟨c, r, rfl, h1, h2⟩, u, hu => (List.mem_append.1 hu).elim (T.one h1 u) (h2.one u)
theorem Cat.keep : ∀ {l : List α} {xs : List Value}, Cat T w F l xs → Same F w w' → (∀ b, F b → F' b) → Cat T w' F' l xs
  | [], _, h, _, _ => h
  | x :: l, _, ⟨c, r, rfl, h1, h2⟩, hs, hF => ⟨c, r, rfl, T.keep h1 hs hF, h2.keep hs hF⟩
theorem Cat.app : ∀ {l m : List α} {xs ys : List Value}, Cat T w F l xs → Cat T w F m ys → Cat T w F (l ++ m) (xs ++ ys)
  | [], m, xs, ys, h, k => by cases h; exact k
  | x :: l, m, _, ys, ⟨c, r, rfl, h1, h2⟩, k => ⟨c, r ++ ys, by simp, h1, h2.app k⟩
theorem Cat.get : ∀ {l : List α} {xs : List Value}, Cat T w F l xs → ∀ i (hi : i < l.length), ∃ c, T.R w F l[i] c ∧ ∀ j, j < T.sz → xs[i * T.sz + j]? = c[j]?
  | x :: l, _, ⟨c, r, rfl, h1, h2⟩, i, hi => by
    cases i with
    | zero => exact ⟨c, h1, fun j hj => by rw [List.getElem?_append_left (by rw [T.len h1]; omega)]; simp⟩
    | succ i =>
      obtain ⟨c', h3, h4⟩ := h2.get i (by simpa using hi)
      refine ⟨c', by simpa using h3, fun j hj => ?_⟩
      rw [← h4 j hj, List.getElem?_append_right (by rw [T.len h1, Nat.add_mul]; omega), T.len h1]
      congr 1
      rw [Nat.add_mul]; omega
theorem Cat.of_get : ∀ {l : List α} {xs : List Value}, xs.length = l.length * T.sz → (∀ i (hi : i < l.length), ∃ c, T.R w F l[i] c ∧ ∀ j, j < T.sz → xs[i * T.sz + j]? = c[j]?) → Cat T w F l xs
  | [], xs, hl, _ => by simpa [Cat] using hl
  | x :: l, xs, hl, h => by
    rw [List.length_cons, Nat.add_mul, Nat.one_mul] at hl
    obtain ⟨c, h1, h2⟩ := h 0 (by simp)
    refine ⟨c, xs.drop T.sz, ?_, by simpa using h1, Cat.of_get (by simp; omega) ?_⟩
    · have hc : c = xs.take T.sz := by
        apply List.ext_getElem?
        intro j
        by_cases hj : j < T.sz
        · rw [← h2 j hj]; simp [hj]
        · rw [List.getElem?_eq_none (by rw [T.len h1]; omega), List.getElem?_eq_none (by simp; omega)]
      rw [hc, List.take_append_drop]
    · intro i hi
      obtain ⟨c', h3, h4⟩ := h (i + 1) (by simpa using hi)
      refine ⟨c', by simpa using h3, fun j hj => ?_⟩
      rw [← h4 j hj, List.getElem?_drop]
      congr 1
      rw [Nat.add_mul]; omega
theorem Cat.of_one {x : α} {c : List Value} (h : T.R w F x c) : Cat T w F [x] c := ⟨c, [], by simp, h, rfl⟩
/-- A row's cells. -/
theorem Ty.Row.cat {A : Option Addr} {l : List α} (h : T.Row w F A l) : l = [] ∨ ∃ g off xs, A = some ⟨g, off, none⟩ ∧ F g ∧ Cat T w F l xs ∧ ∀ j u, xs[j]? = some u → w.cell? ⟨g, off + j, none⟩ = some u := by
  rcases h with h | ⟨g, off, c, t, fr, rfl, hg, hb, hr⟩
  · exact Or.inl h
  · refine Or.inr ⟨g, off, ?_⟩
    have hall : ∀ n, n ≤ l.length → ∃ xs, Cat T w F (l.take n) xs ∧ ∀ j u, xs[j]? = some u → c[off + j]? = some u := by
      intro n
      induction n with
      | zero => intro _; exact ⟨[], by simp [Cat], by simp⟩
      | succ n ih =>
        intro hn
        obtain ⟨xs, h1, h2⟩ := ih (by omega)
        obtain ⟨y, h3, h4⟩ := hr n (by omega)
        refine ⟨xs ++ y, ?_, ?_⟩
        · rw [List.take_succ_eq_append_getElem (by omega)]
          exact h1.app (Cat.of_one h3)
        · intro j u hu
          have hxl : xs.length = n * T.sz := by rw [h1.len]; simp [Nat.min_eq_left (by omega : n ≤ l.length)]
          by_cases hj : j < xs.length
          · rw [List.getElem?_append_left hj] at hu; exact h2 j u hu
          · rw [List.getElem?_append_right (by omega)] at hu
            have hjy : j - xs.length < T.sz := by
              rw [← T.len h3]
              rcases Nat.lt_or_ge (j - xs.length) y.length with h | h
              · exact h
              · rw [List.getElem?_eq_none h] at hu; cases hu
            rw [← h4 _ hjy] at hu
            rw [← hu]
            congr 1
            omega
    obtain ⟨xs, h1, h2⟩ := hall l.length (Nat.le_refl _)
    rw [List.take_length] at h1
    exact ⟨xs, rfl, hg, h1, fun j u hu => by rw [cell_of_row w g _ c t fr hb]; exact h2 j u hu⟩

/-- What is appended: its cells, wherever they lie. -/
def Src (T : Ty α) (w : World) (F : Nat → Prop) (A : Option Addr) (l : List α) : Prop :=
  l = [] ∨ ∃ g off xs, A = some ⟨g, off, none⟩ ∧ Cat T w F l xs ∧ ∀ j u, xs[j]? = some u → w.cell? ⟨g, off + j, none⟩ = some u
theorem Ty.Row.src {A : Option Addr} {l : List α} (h : T.Row w F A l) : Src T w F A l := by
  rcases h.cat with h | ⟨g, off, xs, h1, _, h3, h4⟩
  · exact Or.inl h
  · exact Or.inr ⟨g, off, xs, h1, h3, h4⟩
/-- A type whose reading hangs on no memory. -/
def Flat (T : Ty α) : Prop := ∀ {w w' : World} {F F' : Nat → Prop} {x cs}, T.R w F x cs → T.R w' F' x cs
theorem flat_scalar {enc : α → Value} {ok : α → Prop} {h1 : ∀ x, (enc x).oneCell' = true} : Flat (Ty.scalar enc ok h1) := fun h => h
theorem flat_byte : Flat Ty.byte := fun h => h
theorem flat_int {k : IntKind} : Flat (Ty.int k) := fun h => h
theorem flat_bool : Flat Ty.bool := fun h => h
theorem flat_string : Flat Ty.string := fun h => h
theorem Cat.flat (hf : Flat T) : ∀ {l : List α} {xs : List Value}, Cat T w F l xs → Cat T w' F' l xs
  | [], _, h => h
  | x :: l, _, ⟨c, r, rfl, h1, h2⟩ => ⟨c, r, rfl, hf h1, h2.flat hf⟩
theorem Ty.Row.srcF {A : Option Addr} {l : List α} (hf : Flat T) (h : T.Row w F A l) : Src T w F' A l := by
  rcases h.cat with h | ⟨g, off, xs, h1, _, h3, h4⟩
  · exact Or.inl h
  · exact Or.inr ⟨g, off, xs, h1, h3.flat hf, h4⟩
/-- One element, in a block that was just made. -/
theorem Src.blk {x : α} {c : List Value} {g : Nat} {t : TypeId} (h : Blk w g c.toArray t) (hR : T.R w F x c) : Src T w F (some ⟨g, 0, none⟩) [x] :=
  Or.inr ⟨g, 0, c, rfl, Cat.of_one hR, fun j u hu => by rw [cell_of_row w g _ _ t (0, 0) h]; simpa using hu⟩
/-- A slice that is one's own: nil, or the head of a block that nobody else has. -/
def Own (T : Ty α) (w : World) (F : Nat → Prop) (B : Nat) (e : TypeId) (v : Value) (l : List α) : Prop :=
  (v = .slice none 0 0 ∧ l = []) ∨ ∃ g cap c xs, v = .slice (some ⟨g, 0, none⟩) l.length cap ∧ B ≤ g ∧ Blk w g c e ∧ l.length ≤ cap ∧ c.size = cap * T.sz ∧ Cat T w F l xs ∧ c.toList.take (l.length * T.sz) = xs
theorem Own.nil {B : Nat} {e : TypeId} : Own T w F B e (.slice none 0 0) [] := Or.inl ⟨rfl, rfl⟩
theorem Own.keep {B : Nat} {e : TypeId} {v : Value} {l : List α} (h : Own T w F B e v l) (hs : Same F w w') (hF : ∀ b, F b → F' b) (hb : ∀ g, v.ownBlock = some g → w'.heap[g]? = w.heap[g]?) : Own T w' F' B e v l := by
  rcases h with h | ⟨g, cap, c, xs, rfl, h1, h2, h3, h4, h5, h6⟩
  · exact Or.inl h
  · exact Or.inr ⟨g, cap, c, xs, rfl, h1, by unfold Blk at *; rw [hb g rfl]; exact h2, h3, h4, h5.keep hs hF, h6⟩
theorem Own.lt {B : Nat} {e : TypeId} {v : Value} {l : List α} (h : Own T w F B e v l) {g : Nat} (hg : v.ownBlock = some g) : B ≤ g ∧ g < w.heap.size := by
  rcases h with ⟨rfl, _⟩ | ⟨g', cap, c, xs, rfl, h1, h2, _⟩
  · simp [Value.ownBlock] at hg
  · simp [Value.ownBlock] at hg; subst hg; exact ⟨h1, Blk.lt h2⟩
theorem Own.ext {B : Nat} {e : TypeId} {v : Value} {l : List α} (h : Own T w F B e v l) (he : Ext w w') (hF : ∀ b, F b → b < w.heap.size) : Own T w' F B e v l :=
  h.keep (fun b hb => he.block b (hF b hb)) (fun _ hb => hb) (fun g hg => he.block g (h.lt hg).2)
theorem Own.mono {B : Nat} {e : TypeId} {v : Value} {l : List α} (h : Own T w F B e v l) (hF : ∀ b, F b → F' b) : Own T w F' B e v l :=
  h.keep (fun _ _ => rfl) hF (fun _ _ => rfl)
/-- What is one's own, read. -/
theorem Own.read {B : Nat} {e : TypeId} {v : Value} {l : List α} (h : Own T w F B e v l) : ∃ A cap, v = .slice A l.length cap ∧ l.length ≤ cap ∧ T.Row w (fun b => F b ∨ v.ownBlock = some b) A l := by
  rcases h with ⟨rfl, rfl⟩ | ⟨g, cap, c, xs, rfl, h1, h2, h3, h4, h5, h6⟩
  · exact ⟨none, 0, rfl, Nat.le_refl _, Or.inl rfl⟩
  · refine ⟨_, cap, rfl, h3, Or.inr ⟨g, 0, c, e, (0, 0), rfl, Or.inr rfl, h2, fun i hi => ?_⟩⟩
    obtain ⟨y, h7, h8⟩ := h5.get i hi
    refine ⟨y, T.keep h7 (fun _ _ => rfl) (fun _ hb => Or.inl hb), fun j hj => ?_⟩
    rw [← h8 j hj, ← h6, List.getElem?_take, if_pos (by have : (i + 1) * T.sz ≤ l.length * T.sz := Nat.mul_le_mul_right _ hi; rw [Nat.add_mul] at this; omega)]
    simp
theorem Own.old {B : Nat} {e : TypeId} {v : Value} {l : List α} (h : Own T w F B e v l) (hF : ∀ b, F b → b < w.heap.size) : ∃ A cap, v = .slice A l.length cap ∧ l.length ≤ cap ∧ T.Row w (old w) A l := by
  obtain ⟨A, cap, h1, h2, h3⟩ := h.read
  refine ⟨A, cap, h1, h2, h3.keep (fun _ _ => rfl) ?_⟩
  rintro b (hb | hb)
  · exact hF b hb
  · exact (h.lt hb).2
end

/-- One's own, of elements of one cell each, written out. -/
theorem Own.scalar {α : Type} {enc : α → Value} {ok : α → Prop} {h1 : ∀ x, (enc x).oneCell' = true} {w : World} {F : Nat → Prop} {B : Nat} {e : TypeId} {v : Value} {l : List α} (h : Own (Ty.scalar enc ok h1) w F B e v l) (hne : l ≠ []) :
    ∃ g cap c, v = .slice (some ⟨g, 0, none⟩) l.length cap ∧ B ≤ g ∧ Blk w g c e ∧ l.length ≤ cap ∧ c.size = cap ∧ ∀ i (hi : i < l.length), c[i]? = some (enc l[i]) := by
  rcases h with ⟨_, rfl⟩ | ⟨g, cap, c, xs, rfl, h1, h2, h3, h4, h5, h6⟩
  · exact absurd rfl hne
  · refine ⟨g, cap, c, rfl, h1, h2, h3, by simpa [Ty.scalar] using h4, fun i hi => ?_⟩
    obtain ⟨y, h7, h8⟩ := h5.get i hi
    obtain ⟨rfl, _⟩ := h7
    have := h8 0 (Nat.lt_add_one 0)
    simp only [Ty.scalar, Nat.mul_one, Nat.add_zero, List.getElem?_cons_zero] at this
    rw [← h6, List.getElem?_take] at this
    simp only [Ty.scalar, Nat.mul_one, hi, if_true] at this
    simpa using this

/-! append -/
/-- What append leaves: blocks that are not the first slice's are as they were. -/
structure Gro (row : Option Nat) (w w' : World) : Prop where
  os : w'.os = w.os
  tape : w'.tape = w.tape
  output : w'.output = w.output
  size : w.heap.size ≤ w'.heap.size
  block : ∀ k, k < w.heap.size → row ≠ some k → w'.heap[k]? = w.heap[k]?
theorem Gro.ext {w w' : World} (h : Gro none w w') : Ext w w' := ⟨h.os, h.tape, h.output, h.size, fun k hk => h.block k hk (by simp)⟩
theorem _root_.Go.RowKit.Below.gro {B : Nat} {a w w' : World} {row : Option Nat} (h : Below B a w) (hg : Gro row w w') (hB : B ≤ w.heap.size) (hr : ∀ k, row = some k → B ≤ k) : Below B a w' :=
  h.trans ⟨hg.os, hg.tape, hg.output, hg.size, fun k hk => hg.block k (by omega) (fun e => by have := hr k e; omega)⟩
theorem Gro.same {w w' : World} {row : Option Nat} {F : Nat → Prop} (h : Gro row w w') (hF : ∀ b, F b → b < w.heap.size ∧ row ≠ some b) : Same F w w' := fun b hb => h.block b (hF b hb).1 (hF b hb).2

theorem info_of {P : Program} {e : TypeId} {sz by_ : Nat} {z : Value} (hs : (P.info? e).map (·.size) = some sz) (hy : (P.info? e).map (·.bytes) = some by_) (hz : (P.info? e).bind (·.zero) = some z) :
    ∃ i, P.info? e = some i ∧ i.size = sz ∧ i.bytes = by_ ∧ i.zero = some z := by
  cases h : P.info? e with
  | none => simp [h] at hs
  | some i => exact ⟨i, rfl, by simpa [h] using hs, by simpa [h] using hy, by simpa [h] using hz⟩

section
variable {α : Type} {T : Ty α} {P : Program} {w : World} {F : Nat → Prop}
/-- The run of 'append(s, x..)', s one's own. -/
theorem run_append {t ty e : TypeId} {z : Value} {by_ B : Nat} {v : Value} {l m : List α} {A : Option Addr} {c : Nat} (hu : P.underlying t = some (.slice e)) (hs : (P.info? e).map (·.size) = some T.sz) (hy : (P.info? e).map (·.bytes) = some by_)
    (hz : (P.info? e).bind (·.zero) = some z) (hzs : z.cells.size = T.sz) (hown : Own T w F B e v l) (hrow : Src T w F A m)
    (hF : ∀ b, F b → b < w.heap.size ∧ v.ownBlock ≠ some b) (hsz : (l.length + m.length) * by_ ≤ 140737488355328) (h63 : l.length + m.length ≤ 140737488355328) (hB : B ≤ w.heap.size) :
    ∃ v' w', (Builtin.append_ #[t, t] ty #[v, .slice A m.length c]).run P w = .ok v' w' ∧ Own T w' F B e v' (l ++ m) ∧ Gro v.ownBlock w w' ∧ (v'.ownBlock = v.ownBlock ∨ ∃ g, v'.ownBlock = some g ∧ w.heap.size ≤ g) := by
  obtain ⟨i, hi, his, hib, hiz⟩ := info_of hs hy hz
  have same0 : Gro v.ownBlock w w := ⟨rfl, rfl, rfl, Nat.le_refl _, fun _ _ _ => rfl⟩
  -- nothing is appended
  have hnil : m = [] → ∃ v' w', (Builtin.append_ #[t, t] ty #[v, .slice A m.length c]).run P w = .ok v' w' ∧ Own T w' F B e v' (l ++ m) ∧ Gro v.ownBlock w w' ∧ (v'.ownBlock = v.ownBlock ∨ ∃ g, v'.ownBlock = some g ∧ w.heap.size ≤ g) := by
    rintro rfl
    refine ⟨v, w, ?_, by simpa using hown, same0, Or.inl rfl⟩
    have hfc : ∀ A : Option Addr, (Builtin.firstCells T.sz 0 (.slice A 0 c)).run P w = .ok #[] w := by
      intro A
      cases A with
      | none => simp [Builtin.firstCells]
      | some a => simp [Builtin.firstCells, loadCells, loadCellsFrom]
    rcases hown with ⟨rfl, rfl⟩ | ⟨g, cap, cc, xs, rfl, h1, h2, h3, h4, h5, h6⟩
    · simp [Builtin.append_, run_underlying hu, sizeOf, typeInfo, hi, Builtin.lenOf, his, hfc]
    · simp [Builtin.append_, run_underlying hu, sizeOf, typeInfo, hi, Builtin.lenOf, his, hfc, h3, storeCells]
  rcases hrow with h0 | ⟨gx, offx, news, rfl, hcat, hcell⟩
  · exact hnil h0
  · by_cases hm0 : m = []
    · exact hnil hm0
    · have hmpos : 0 < m.length := List.length_pos_iff.2 hm0
      have hnl : news.length = m.length * i.size := by rw [his]; exact hcat.len
      have hnews : ∀ j u, news[j]? = some u → w.cell? ((⟨gx, offx, none⟩ : Addr).add j) = some u := fun j u hu => by rw [add_at]; exact hcell j u hu
      have mk : ∀ (old need : Nat) (xs : List Value), need = l.length + m.length → Cat T w F l xs →
          Own T (w.drew.alloc (.cells (xs.toArray ++ news.toArray ++ Builtin.zeroCells z.cells (grownCap w need old e - need)) e)) F B e (.slice (some ⟨w.heap.size, 0, none⟩) need (grownCap w need old e)) (l ++ m) ∧
          Gro v.ownBlock w (w.drew.alloc (.cells (xs.toArray ++ news.toArray ++ Builtin.zeroCells z.cells (grownCap w need old e - need)) e)) := by
        intro old need xs hneed hxs
        have hE : Ext w (w.drew.alloc (.cells (xs.toArray ++ news.toArray ++ Builtin.zeroCells z.cells (grownCap w need old e - need)) e)) := (Ext.drew (Ext.refl w)).of_alloc _
        have hge := grownCap_ge w need old e
        have hall : Cat T w F (l ++ m) (xs ++ news) := hxs.app hcat
        refine ⟨Or.inr ⟨w.heap.size, grownCap w need old e, _, xs ++ news, by rw [List.length_append, hneed], hB, heap_alloc_new w.drew _, by rw [List.length_append]; omega, ?_, hall.keep (fun b hb => hE.block b (hF b hb).1) (fun _ h => h), ?_⟩, ⟨hE.os, hE.tape, hE.output, hE.size, fun k hk _ => hE.block k hk⟩⟩
        · have h1 := hxs.len
          have h2 := hcat.len
          simp only [Array.size_append, List.size_toArray, size_zeroCells, hzs, h1, h2]
          rw [← Nat.add_mul, ← Nat.add_mul]
          congr 1
          omega
        · simp only [Array.toList_append]
          rw [← hall.len]
          exact List.take_left
      rcases hown with ⟨rfl, rfl⟩ | ⟨g, cap, cc, xs, rfl, h1, h2, h3, h4, h5, h6⟩
      · have hr := run_append_nil (P := P) w t ty e i z hu hi hiz ⟨gx, offx, none⟩ m.length c news hnl hnews hmpos (by omega) (by rw [hib]; simp only [List.length_nil, Nat.zero_add] at hsz; omega)
        have hmk := mk 0 m.length [] (by simp) rfl
        simp only [List.nil_append, Array.empty_append] at hmk hr
        exact ⟨_, _, hr, hmk.1, hmk.2, Or.inr ⟨w.heap.size, rfl, Nat.le_refl _⟩⟩
      · by_cases hroom : l.length + m.length ≤ cap
        · have hfit : l.length * i.size + news.length ≤ cc.size := by rw [hnl, h4, his, ← Nat.add_mul]; exact Nat.mul_le_mul_right _ hroom
          have hr := run_append_room (P := P) w t ty e i hu hi g l.length cap cc h2 ⟨gx, offx, none⟩ m.length c news hnl hnews hcat.one hroom hfit
          have hG : Gro (some g) w (w.setRow g (cc.toList.take (l.length * i.size) ++ news ++ cc.toList.drop (l.length * i.size + news.length)).toArray) :=
            ⟨rfl, rfl, rfl, by simp, fun k _ hk => setRow_other w g k _ (fun q => hk (by rw [q]))⟩
          refine ⟨_, _, hr, Or.inr ⟨g, cap, _, xs ++ news, by rw [List.length_append], h1, setRow_heap w g cc _ e _ h2, by rw [List.length_append]; exact hroom, ?_, (h5.app hcat).keep (hG.same hF) (fun _ h => h), ?_⟩, hG, Or.inl rfl⟩
          · simp only [List.size_toArray, List.length_append, List.length_take, List.length_drop, Array.length_toList]
            omega
          · have hlen : (l ++ m).length * T.sz = (xs ++ news).length := ((h5.app hcat).len).symm
            rw [his, h6, hlen]
            exact List.take_left
        · have holds : ∀ j u, xs[j]? = some u → w.cell? ((⟨g, 0, none⟩ : Addr).add j) = some u := by
            intro j u hu
            rw [add_at, cell_of_row w g _ cc e (0, 0) h2, Nat.zero_add]
            rw [← h6, List.getElem?_take] at hu
            split at hu
            · simpa using hu
            · cases hu
          have hxl : xs.length = l.length * i.size := by rw [his]; exact h5.len
          have hr := run_append_grow (P := P) w t ty e i z hu hi hiz ⟨g, 0, none⟩ l.length cap xs hxl holds ⟨gx, offx, none⟩ m.length c news hnl hnews (by omega) (by omega) (growslice_fits (by omega) (by rw [hib]; exact hsz))
          have hmk := mk cap (l.length + m.length) xs rfl h5
          exact ⟨_, _, hr, hmk.1, hmk.2, Or.inr ⟨w.heap.size, rfl, Nat.le_refl _⟩⟩

variable {n : Nat} {N : Env → World → Prop} {X : Exit → Env → World → Prop} {e : Env} {ops : Array Oper} {rest : List Oper} {d : Option Tmp} {ty : TypeId} {pos : String} {af : Array Edge} {g : Option (Nat × Bool)}
theorem r_append {ρ : Operand → Value} {s x : Operand} {t : TypeId} {v u v' : Value} {w' : World} (hs : ρ s = v) (hx : ρ x = u) (h : (Builtin.append_ #[t, t] ty #[v, u]).run P w = .ok v' w') :
    (execOp ρ ⟨d, .call { callee := .builtin .append, args := #[s, x], argTypes := #[t, t] }, ty, pos, af, g⟩).run P w = .ok (.value v') w' := by
  simp [execOp, resolve, invoke, builtin, hs, hx, h]
theorem op_append {s x : Operand} {t el : TypeId} {z : Value} {by_ B c : Nat} {v : Value} {l m : List α} {A : Option Addr} (hd : dOk n d = true) (hsv : ev e s = v) (hx : ev e x = .slice A m.length c)
    (hu : P.underlying t = some (.slice el)) (hs : (P.info? el).map (·.size) = some T.sz) (hy : (P.info? el).map (·.bytes) = some by_) (hz : (P.info? el).bind (·.zero) = some z) (hzs : z.cells.size = T.sz)
    (hown : Own T w F B el v l) (hrow : Src T w F A m) (hF : ∀ b, F b → b < w.heap.size ∧ v.ownBlock ≠ some b) (hsz : (l.length + m.length) * by_ ≤ 140737488355328) (h63 : l.length + m.length ≤ 140737488355328) (hB : B ≤ w.heap.size)
    (h : ∀ v' w', Own T w' F B el v' (l ++ m) → Gro v.ownBlock w w' → (v'.ownBlock = v.ownBlock ∨ ∃ g, v'.ownBlock = some g ∧ w.heap.size ≤ g) → WL P n ops N X rest (putO e d v') w') :
    WL P n ops N X (⟨d, .call { callee := .builtin .append, args := #[s, x], argTypes := #[t, t] }, ty, pos, af, none⟩ :: rest) e w := by
  obtain ⟨v', w', hr, h1, h2, h3⟩ := run_append (ty := ty) (c := c) hu hs hy hz hzs hown hrow hF hsz h63 hB
  exact op hd (r_append hsv hx hr) (h v' w' h1 h2 h3)
end

/-! cuts -/
def cutA (A : Option Addr) (cap k sz : Nat) : Option Addr := if cap = k then A else A.map (·.add (k * sz))
section
variable {α : Type} {T : Ty α} {P : Program} {w : World} {F : Nat → Prop} {A : Option Addr} {l : List α}
theorem Ty.Row.take (h : T.Row w F A l) (k : Nat) : T.Row w F A (l.take k) := by
  rcases h with rfl | ⟨g, off, c, t, fr, rfl, hg, hb, hr⟩
  · exact Or.inl (by simp)
  · refine Or.inr ⟨g, off, c, t, fr, rfl, hg, hb, fun i hi => ?_⟩
    have hi' : i < l.length := by simp at hi; omega
    obtain ⟨xs, h1, h2⟩ := hr i hi'
    exact ⟨xs, by simpa using h1, h2⟩
theorem Ty.Row.drop (h : T.Row w F A l) {cap k : Nat} (hc : l.length ≤ cap) : T.Row w F (cutA A cap k T.sz) (l.drop k) := by
  unfold cutA
  by_cases hk : l.length ≤ k
  · exact Or.inl (List.drop_eq_nil_of_le hk)
  · rw [if_neg (by omega)]
    rcases h with rfl | ⟨g, off, c, t, fr, rfl, hg, hb, hr⟩
    · exact Or.inl (by simp)
    · refine Or.inr ⟨g, off + k * T.sz, c, t, fr, by simp [add_at], hg, hb, fun i hi => ?_⟩
      have hi' : k + i < l.length := by simp at hi; omega
      obtain ⟨xs, h1, h2⟩ := hr (k + i) hi'
      refine ⟨xs, by simpa using h1, fun j hj => ?_⟩
      rw [← h2 j hj]
      congr 1
      rw [Nat.add_mul]; omega
variable {ρ : Operand → Value} {d : Option Tmp} {t : TypeId} {pos : String} {af : Array Edge} {g : Option (Nat × Bool)} {x y z : Operand} {ty e : TypeId} {ky kz : IntKind} {cap i j n : Nat}
theorem run_sliceBound (k : IntKind) (i y : Nat) (code : BoundsCode) (h : i ≤ y) : (Instr.sliceBound (.int k i) y code).run P w = .ok i w := by
  have h1 : (0 : Int) ≤ (i : Int) ∧ (i : Int) ≤ (y : Int) := ⟨Int.natCast_nonneg _, by omega⟩
  simp [Instr.sliceBound, asIntOf, h]
theorem run_sliceS (hx : ρ x = .slice A n cap) (hu : P.underlying ty = some (.slice e)) (lo hi mx : Option Operand) (l h m : Nat) {sz : Nat} (hs : (P.info? e).map (·.size) = some sz)
    (hb : (Instr.sliceBounds true n cap (lo.map ρ) (hi.map ρ) (mx.map ρ)).run P w = .ok (l, h, m) w) :
    (execOp ρ ⟨d, .slice ty x lo hi mx, t, pos, af, g⟩).run P w = .ok (.value (.slice (if m = l then A else A.map (·.add (l * sz))) (h - l) (m - l))) w := by
  cases hq : P.info? e with
  | none => simp [hq] at hs
  | some inf =>
    have hsz : inf.size = sz := by simpa [hq] using hs
    simp [execOp, Instr.sliceAt, Instr.slice, run_underlying hu, hx, hb, sizeOf, typeInfo, hq, hsz]
/-- 's[:j]'. -/
theorem r_sliceHi (hx : ρ x = .slice A n cap) (hy : ρ y = .int ky j) (hu : P.underlying ty = some (.slice e)) {sz : Nat} (hs : (P.info? e).map (·.size) = some sz) (hj : j ≤ cap) :
    (execOp ρ ⟨d, .slice ty x none (some y) none, t, pos, af, g⟩).run P w = .ok (.value (.slice A j cap)) w := by
  rw [run_sliceS hx hu none (some y) none 0 j cap hs (by simp [Instr.sliceBounds, hy, run_sliceBound _ _ _ _ hj])]
  congr 3
  · split
    · rfl
    · cases A <;> simp [Addr.add]
/-- 's[i:]'. -/
theorem r_sliceLo (hx : ρ x = .slice A n cap) (hy : ρ y = .int ky i) (hu : P.underlying ty = some (.slice e)) {sz : Nat} (hs : (P.info? e).map (·.size) = some sz) (hi : i ≤ n) :
    (execOp ρ ⟨d, .slice ty x (some y) none none, t, pos, af, g⟩).run P w = .ok (.value (.slice (cutA A cap i sz) (n - i) (cap - i))) w := by
  rw [run_sliceS hx hu (some y) none none i n cap hs (by simp [Instr.sliceBounds, hy, run_sliceBound _ _ _ _ hi])]
  rfl
/-- 's[i:j]'. -/
theorem r_sliceLoHi (hx : ρ x = .slice A n cap) (hy : ρ y = .int ky i) (hz : ρ z = .int kz j) (hu : P.underlying ty = some (.slice e)) {sz : Nat} (hs : (P.info? e).map (·.size) = some sz) (hij : i ≤ j) (hj : j ≤ cap) :
    (execOp ρ ⟨d, .slice ty x (some y) (some z) none, t, pos, af, g⟩).run P w = .ok (.value (.slice (cutA A cap i sz) (j - i) (cap - i))) w := by
  rw [run_sliceS hx hu (some y) (some z) none i j cap hs (by simp [Instr.sliceBounds, hy, hz, run_sliceBound _ _ _ _ hj, run_sliceBound _ _ _ _ hij])]
  rfl
/-- 's[i:j:k]'. -/
theorem r_slice3 {u : Operand} {ku : IntKind} {k : Nat} (hx : ρ x = .slice A n cap) (hy : ρ y = .int ky i) (hz : ρ z = .int kz j) (hw : ρ u = .int ku k) (hu : P.underlying ty = some (.slice e)) {sz : Nat} (hs : (P.info? e).map (·.size) = some sz) (hij : i ≤ j) (hj : j ≤ k) (hk : k ≤ cap) :
    (execOp ρ ⟨d, .slice ty x (some y) (some z) (some u), t, pos, af, g⟩).run P w = .ok (.value (.slice (cutA A k i sz) (j - i) (k - i))) w := by
  rw [run_sliceS hx hu (some y) (some z) (some u) i j k hs (by simp [Instr.sliceBounds, hy, hz, hw, run_sliceBound _ _ _ _ hj, run_sliceBound _ _ _ _ hij, run_sliceBound _ _ _ _ hk])]
  rfl
end

/-! make -/
section
variable {α : Type} {T : Ty α} {P : Program} {n : Nat} {N : Env → World → Prop} {X : Exit → Env → World → Prop} {e : Env} {w : World} {ops : Array Oper} {rest : List Oper} {d : Option Tmp} {t : TypeId} {pos : String} {af : Array Edge} {g : Option (Nat × Bool)}
theorem r_makeSlice {ρ : Operand → Value} {x y : Operand} {ty el : TypeId} {by_ m k sz : Nat} {z : Value} (hx : ρ x = .int .i64 m) (hy : ρ y = .int .i64 k) (hu : P.underlying ty = some (.slice el)) (hs : (P.info? el).map (·.size) = some sz)
    (hby : (P.info? el).map (·.bytes) = some by_) (hz : (P.info? el).bind (·.zero) = some z) (hmk : m ≤ k) (hb : k * by_ ≤ 140737488355328) (hk : k ≤ 140737488355328) :
    (execOp ρ ⟨d, .makeSlice ty x y, t, pos, af, g⟩).run P w = .ok (.value (.slice (some ⟨w.heap.size, 0, none⟩) m k)) (w.alloc (.cells (madeCells z.cells (k * sz)) el)) := by
  obtain ⟨inf, hi, his, hib, hiz⟩ := info_of hs hby hz
  have hbb : (inf.bytes : Int) * (k : Int) ≤ 281474976710656 := by
    rw [hib]
    have : ((by_ : Int) * (k : Int)) = ((k * by_ : Nat) : Int) := by rw [Int.natCast_mul, Int.mul_comm]
    rw [this]; omega
  have hr := run_make (P := P) (w := w) ty el inf z hu hi hiz .i64 .i64 m k (by omega) (by omega) hbb (by omega)
  rw [his] at hr
  simp only [Int.toNat_natCast] at hr
  simp [execOp, hx, hy, hr]
theorem madeCells_one (z : Value) (k : Nat) : madeCells #[z] (k * 1) = Array.replicate k z := by
  apply Array.toList_inj.1
  rw [toList_madeCells_one]
  simp
end
end Go.Eng
