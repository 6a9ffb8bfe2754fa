/-
  The engine: rows of elements as they lie, cell by cell; copy, append of zeros, clear. Generic: no program.
-/
import Derived.Test.YtmedmajdoecjfaaDoorStruct
import Derived.Test.YtmedmajdoecjfaaDoorDyn
import Derived.Lib.AppendZerosOnto
import Derived.Lib.Overlaps
namespace Go.Eng
set_option linter.unusedVariables false
set_option linter.unusedSimpArgs false
open Go.RowKit

def Raw (n : Nat) (r : List Value) : Prop := r.length = n ∧ ∀ u ∈ r, u.oneCell' = true
/-- Elements that are so many cells. -/
def rawT (n : Nat) : Ty (List Value) where
  sz := n
  R := fun _ _ x cs => cs = x ∧ Raw n x
  len := by rintro _ _ _ _ ⟨rfl, h⟩; exact h.1
  one := by rintro _ _ _ _ ⟨rfl, h⟩; exact h.2
  keep := fun h _ _ => h
theorem flat_raw {n : Nat} : Flat (rawT n) := fun h => h
/-- Each one its own. -/
def Al {α β : Type} (R : α → β → Prop) : List α → List β → Prop
  | [], [] => True
  | x :: l, y :: m => R x y ∧ Al R l m
  | _, _ => False
section
variable {α β : Type} {R S : α → β → Prop}
theorem Al.len : ∀ {l : List α} {m : List β}, Al R l m → l.length = m.length
  | [], [], _ => rfl
  | x :: l, y :: m, h => by simp [h.2.len]
  | [], _ :: _, h => h.elim
  | _ :: _, [], h => h.elim
theorem Al.of : ∀ {l : List α} {m : List β}, l.length = m.length → (∀ i (h : i < l.length) (h' : i < m.length), R l[i] m[i]) → Al R l m
  | [], [], _, _ => trivial
  | x :: l, y :: m, h, k => ⟨k 0 (by simp) (by simp), Al.of (by simpa using h) (fun i h1 h2 => by have := k (i + 1) (by simpa using h1) (by simpa using h2); simpa using this)⟩
  | [], _ :: _, h, _ => by simp at h
  | _ :: _, [], h, _ => by simp at h
theorem Al.get : ∀ {l : List α} {m : List β}, Al R l m → ∀ i (h : i < l.length) (h' : i < m.length), R l[i] m[i]
  | x :: l, y :: m, h, 0, _, _ => h.1
  | x :: l, y :: m, h, i + 1, h1, h2 => by have := h.2.get i (by simpa using h1) (by simpa using h2); simpa using this
  | _ :: _, [], h, _, _, _ => h.elim
  | [], _, _, i, h, _ => absurd h (by simp)
theorem Al.imp (k : ∀ x y, R x y → S x y) : ∀ {l : List α} {m : List β}, Al R l m → Al S l m
  | [], [], _ => trivial
  | x :: l, y :: m, h => ⟨k _ _ h.1, h.2.imp k⟩
  | [], _ :: _, h => h.elim
  | _ :: _, [], h => h.elim
theorem Al.app : ∀ {l l' : List α} {m m' : List β}, Al R l m → Al R l' m' → Al R (l ++ l') (m ++ m')
  | [], _, [], _, _, k => k
  | x :: l, _, y :: m, _, h, k => ⟨h.1, h.2.app k⟩
  | [], _, _ :: _, _, h, _ => h.elim
  | _ :: _, _, [], _, h, _ => h.elim
theorem Al.take : ∀ {l : List α} {m : List β} (i : Nat), Al R l m → Al R (l.take i) (m.take i)
  | [], [], _, _ => by simp [Al]
  | x :: l, y :: m, 0, h => by simp [Al]
  | x :: l, y :: m, i + 1, h => ⟨h.1, h.2.take i⟩
  | [], _ :: _, _, h => h.elim
  | _ :: _, [], _, h => h.elim
theorem Al.drop : ∀ {l : List α} {m : List β} (i : Nat), Al R l m → Al R (l.drop i) (m.drop i)
  | [], [], _, _ => by simp [Al]
  | x :: l, y :: m, 0, h => h
  | x :: l, y :: m, i + 1, h => h.2.drop i
  | [], _ :: _, _, h => h.elim
  | _ :: _, [], _, h => h.elim
theorem Al.filter {p : α → Bool} {q : β → Bool} (k : ∀ x y, R x y → p x = q y) : ∀ {l : List α} {m : List β}, Al R l m → Al R (l.filter p) (m.filter q)
  | [], [], _ => trivial
  | x :: l, y :: m, h => by
    simp only [List.filter, k _ _ h.1]
    cases q y
    · exact h.2.filter k
    · exact ⟨h.1, h.2.filter k⟩
  | [], _ :: _, h => h.elim
  | _ :: _, [], h => h.elim
theorem Al.all {p : α → Bool} {q : β → Bool} (k : ∀ x y, R x y → p x = q y) : ∀ {l : List α} {m : List β}, Al R l m → l.any p = m.any q
  | [], [], _ => rfl
  | x :: l, y :: m, h => by simp [List.any, k _ _ h.1, h.2.all k]
  | [], _ :: _, h => h.elim
  | _ :: _, [], h => h.elim
theorem Al.findIdx {p : α → Bool} {q : β → Bool} (k : ∀ x y, R x y → p x = q y) : ∀ {l : List α} {m : List β}, Al R l m → l.findIdx p = m.findIdx q
  | [], [], _ => rfl
  | x :: l, y :: m, h => by simp [List.findIdx_cons, k _ _ h.1, h.2.findIdx k]
  | [], _ :: _, h => h.elim
  | _ :: _, [], h => h.elim
theorem Al.mem {y : β} : ∀ {l : List α} {m : List β}, Al R l m → y ∈ m → ∃ x ∈ l, R x y
  | [], [], _, h => by cases h
  | x :: l, z :: m, h, k => by
    rcases List.mem_cons.1 k with rfl | k
    · exact ⟨x, by simp, h.1⟩
    · obtain ⟨x', h1, h2⟩ := h.2.mem k
      exact ⟨x', by simp [h1], h2⟩
  | [], _ :: _, h, _ => h.elim
  | _ :: _, [], h, _ => h.elim
theorem Al.meml {x : α} : ∀ {l : List α} {m : List β}, Al R l m → x ∈ l → ∃ y ∈ m, R x y
  | [], [], _, h => by cases h
  | z :: l, y :: m, h, k => by
    rcases List.mem_cons.1 k with rfl | k
    · exact ⟨y, by simp, h.1⟩
    · obtain ⟨x', h1, h2⟩ := h.2.meml k
      exact ⟨x', by simp [h1], h2⟩
  | [], _ :: _, h, _ => h.elim
  | _ :: _, [], h, _ => h.elim
end
section
variable {α : Type} {T : Ty α} {w w' : World} {F F' : Nat → Prop} {n : Nat}
theorem cat_raw : ∀ {rs : List (List Value)} {xs : List Value}, Cat (rawT n) w F rs xs ↔ xs = rs.flatten ∧ ∀ r ∈ rs, Raw n r
  | [], xs => by simp [Cat]
  | r :: rs, xs => by
    constructor
    · rintro ⟨c, r', rfl, ⟨rfl, h1⟩, h2⟩
      obtain ⟨rfl, h3⟩ := cat_raw.1 h2
      exact ⟨rfl, fun x hx => (List.mem_cons.1 hx).elim (fun e => e ▸ h1) (h3 x)⟩
    · rintro ⟨rfl, h⟩
      exact ⟨r, rs.flatten, rfl, ⟨rfl, h r (by simp)⟩, cat_raw.2 ⟨rfl, fun x hx => h x (by simp [hx])⟩⟩
theorem Ty.rawOf {x : α} {r : List Value} (h : T.R w F x r) : Raw T.sz r := ⟨T.len h, T.one h⟩
theorem cat_split : ∀ {l : List α} {xs : List Value}, Cat T w F l xs → ∃ rs, Al (T.R w F) l rs ∧ xs = rs.flatten
  | [], _, h => ⟨[], trivial, h⟩
  | x :: l, _, ⟨c, r, rfl, h1, h2⟩ => by
    obtain ⟨rs, h3, rfl⟩ := cat_split h2
    exact ⟨c :: rs, ⟨h1, h3⟩, rfl⟩
theorem cat_join : ∀ {l : List α} {rs : List (List Value)}, Al (T.R w F) l rs → Cat T w F l rs.flatten
  | [], [], _ => rfl
  | x :: l, r :: rs, h => ⟨r, rs.flatten, rfl, h.1, cat_join h.2⟩
  | [], _ :: _, h => h.elim
  | _ :: _, [], h => h.elim
theorem Al.raw {l : List α} {rs : List (List Value)} (h : Al (T.R w F) l rs) : ∀ r ∈ rs, Raw T.sz r := fun r hr => by
  obtain ⟨x, _, hx⟩ := h.mem hr
  exact Ty.rawOf hx
theorem Own.raw {B : Nat} {e : TypeId} {v : Value} {l : List α} (h : Own T w F B e v l) : ∃ rs, Al (T.R w F) l rs ∧ Own (rawT T.sz) w (fun _ => False) B e v rs := by
  rcases h with ⟨rfl, rfl⟩ | ⟨g, cap, c, xs, rfl, h1, h2, h3, h4, h5, h6⟩
  · exact ⟨[], trivial, .nil⟩
  · obtain ⟨rs, ha, rfl⟩ := cat_split h5
    have hl := ha.len
    exact ⟨rs, ha, Or.inr ⟨g, cap, c, rs.flatten, by rw [hl], h1, h2, by omega, h4, cat_raw.2 ⟨rfl, ha.raw⟩, by rw [← hl]; exact h6⟩⟩
theorem Own.of_raw {B : Nat} {e : TypeId} {v : Value} {l : List α} {rs : List (List Value)} {F' : Nat → Prop} (h : Own (rawT T.sz) w F' B e v rs) (ha : Al (T.R w F) l rs) : Own T w F B e v l := by
  have hl := ha.len
  rcases h with ⟨rfl, rfl⟩ | ⟨g, cap, c, xs, rfl, h1, h2, h3, h4, h5, h6⟩
  · cases l with
    | nil => exact .nil
    | cons _ _ => exact ha.elim
  · obtain ⟨rfl, _⟩ := cat_raw.1 h5
    exact Or.inr ⟨g, cap, c, _, by rw [hl], h1, h2, by omega, h4, cat_join ha, by rw [hl]; exact h6⟩
theorem Row.raw {A : Option Addr} {l : List α} (h : T.Row w F A l) : ∃ rs, Al (T.R w F) l rs ∧ (rawT T.sz).Row w F A rs := by
  rcases h with rfl | ⟨g, off, c, t, fr, rfl, hg, hb, hr⟩
  · exact ⟨[], trivial, Or.inl rfl⟩
  · have hex : ∀ i (h : i < l.length), ∃ xs, T.R w F l[i] xs ∧ ∀ j, j < T.sz → c[off + i * T.sz + j]? = xs[j]? := hr
    refine ⟨List.ofFn (fun i : Fin l.length => Classical.choose (hex i.1 i.2)), Al.of (by simp) (fun i h h' => ?_), Or.inr ⟨g, off, c, t, fr, rfl, hg, hb, fun i hi => ?_⟩⟩
    · rw [List.getElem_ofFn]; exact (Classical.choose_spec (hex i h)).1
    · have hi' : i < l.length := by simpa using hi
      rw [List.getElem_ofFn]
      exact ⟨_, ⟨rfl, Ty.rawOf (Classical.choose_spec (hex i hi')).1⟩, (Classical.choose_spec (hex i hi')).2⟩
theorem Row.of_raw {A : Option Addr} {l : List α} {rs : List (List Value)} (h : (rawT T.sz).Row w F A rs) (ha : Al (T.R w F) l rs) : T.Row w F A l := by
  have hl := ha.len
  rcases h with rfl | ⟨g, off, c, t, fr, rfl, hg, hb, hr⟩
  · cases l with
    | nil => exact Or.inl rfl
    | cons _ _ => exact ha.elim
  · refine Or.inr ⟨g, off, c, t, fr, rfl, hg, hb, fun i hi => ?_⟩
    obtain ⟨xs, ⟨rfl, _⟩, h2⟩ := hr i (by omega)
    exact ⟨_, ha.get i hi (by omega), h2⟩
/-- What is one's own, cell by cell. -/
theorem Own.cells {B : Nat} {e : TypeId} {v : Value} {rs : List (List Value)} (h : Own (rawT n) w F B e v rs) (hne : rs ≠ []) :
    ∃ g cap c, v = .slice (some ⟨g, 0, none⟩) rs.length cap ∧ B ≤ g ∧ Blk w g c e ∧ rs.length ≤ cap ∧ c.size = cap * n ∧ (∀ r ∈ rs, Raw n r) ∧ c.toList.take (rs.length * n) = rs.flatten := by
  rcases h with ⟨_, rfl⟩ | ⟨g, cap, c, xs, rfl, h1, h2, h3, h4, h5, h6⟩
  · exact absurd rfl hne
  · obtain ⟨rfl, h7⟩ := cat_raw.1 h5
    exact ⟨g, cap, c, rfl, h1, h2, h3, h4, h7, h6⟩
theorem Own.mkCells {B g cap k : Nat} {e : TypeId} {c : Array Value} {rs : List (List Value)} (h1 : B ≤ g) (h2 : Blk w g c e) (hk : k = rs.length) (h3 : rs.length ≤ cap) (h4 : c.size = cap * n) (h5 : ∀ r ∈ rs, Raw n r) (h6 : c.toList.take (rs.length * n) = rs.flatten) :
    Own (rawT n) w F B e (.slice (some ⟨g, 0, none⟩) k cap) rs := by
  subst hk
  exact Or.inr ⟨g, cap, c, _, rfl, h1, h2, h3, h4, cat_raw.2 ⟨rfl, h5⟩, h6⟩
theorem raw_flat : ∀ {rs : List (List Value)}, (∀ r ∈ rs, Raw n r) → rs.flatten.length = rs.length * n
  | [], _ => by simp
  | r :: rs, h => by
    rw [List.flatten_cons, List.length_append, raw_flat (fun x hx => h x (by simp [hx])), (h r (by simp)).1, List.length_cons, Nat.add_mul]
    omega
theorem raw_one {rs : List (List Value)} (h : ∀ r ∈ rs, Raw n r) : ∀ u ∈ rs.flatten, u.oneCell' = true := fun u hu => by
  obtain ⟨r, hr, hu⟩ := List.mem_flatten.1 hu
  exact (h r hr).2 u hu
theorem raw_take {rs : List (List Value)} (h : ∀ r ∈ rs, Raw n r) (i : Nat) (hi : i ≤ rs.length) : (rs.take i).flatten = rs.flatten.take (i * n) := by
  have e : rs.flatten = (rs.take i).flatten ++ (rs.drop i).flatten := by rw [← List.flatten_append, List.take_append_drop]
  have hl : (rs.take i).flatten.length = i * n := by
    rw [raw_flat (fun r hr => h r (List.mem_of_mem_take hr)), List.length_take, Nat.min_eq_left hi]
  rw [e, ← hl, List.take_left]
theorem raw_drop {rs : List (List Value)} (h : ∀ r ∈ rs, Raw n r) (i : Nat) (hi : i ≤ rs.length) : (rs.drop i).flatten = rs.flatten.drop (i * n) := by
  have e : rs.flatten = (rs.take i).flatten ++ (rs.drop i).flatten := by rw [← List.flatten_append, List.take_append_drop]
  have hl : (rs.take i).flatten.length = i * n := by
    rw [raw_flat (fun r hr => h r (List.mem_of_mem_take hr)), List.length_take, Nat.min_eq_left hi]
  rw [e, ← hl, List.drop_left]
/-- Where an element that is one's own lies. -/
theorem Own.rawAt {B : Nat} {e : TypeId} {v : Value} {rs : List (List Value)} (h : Own (rawT n) w F B e v rs) {i : Nat} (hi : i < rs.length) :
    ∃ g cap, v = .slice (some ⟨g, 0, none⟩) rs.length cap ∧ B ≤ g ∧ v.ownBlock = some g ∧ ∀ j, j < n → w.cell? ⟨g, i * n + j, none⟩ = rs[i][j]? := by
  obtain ⟨A, cap, rfl, hc, hrow⟩ := h.read
  obtain ⟨g, off, xs, rfl, hg, ⟨rfl, _⟩, hcell⟩ := hrow.cells hi
  rcases h with ⟨h, _⟩ | ⟨g', cap', c, ys, hv, h1, _⟩
  · cases h
  · simp only [Value.slice.injEq, Option.some.injEq, Addr.mk.injEq] at hv
    obtain ⟨⟨rfl, rfl, _⟩, _, rfl⟩ := hv
    exact ⟨g, cap, rfl, h1, rfl, fun j hj => by have := hcell j hj; simpa [rawT] using this⟩
end
theorem Own.none0 {w : World} {n B g : Nat} {e : TypeId} {F : Nat → Prop} (h1 : B ≤ g) (h2 : Blk w g #[] e) : Own (rawT n) w F B e (.slice (some ⟨g, 0, none⟩) 0 0) [] :=
  Own.mkCells (c := #[]) h1 h2 rfl (Nat.le_refl _) (by simp) (by simp) (by simp)
theorem Chg.trans {g : Nat} {a b c : World} (h : Chg g a b) (k : Chg g b c) : Chg g a c :=
  ⟨k.os.trans h.os, k.tape.trans h.tape, k.output.trans h.output, Nat.le_trans h.size k.size, fun i hi hne => (k.block i (Nat.lt_of_lt_of_le hi h.size) hne).trans (h.block i hi hne)⟩
theorem Chg.of_ext {g : Nat} {a b : World} (h : Ext a b) : Chg g a b := ⟨h.os, h.tape, h.output, h.size, fun i hi _ => h.block i hi⟩
theorem flatten_set {n : Nat} : ∀ {rs : List (List Value)} {i j : Nat} {u : Value}, (∀ r ∈ rs, Raw n r) → (hi : i < rs.length) → j < n → (rs.set i (rs[i].set j u)).flatten = rs.flatten.set (i * n + j) u
  | r :: rs, 0, j, u, h, _, hj => by
    have h0 := (h r (by simp)).1
    simp only [List.set_cons_zero, List.flatten_cons, Nat.zero_mul, Nat.zero_add, List.getElem_cons_zero]
    rw [List.set_append_left _ _ (by omega)]
  | r :: rs, i + 1, j, u, h, hi, hj => by
    have h0 := (h r (by simp)).1
    have ih := flatten_set (rs := rs) (i := i) (j := j) (u := u) (fun x hx => h x (by simp [hx])) (by simpa using hi) hj
    simp only [List.set_cons_succ, List.flatten_cons, List.getElem_cons_succ]
    rw [ih, List.set_append_right _ _ (by rw [h0, Nat.add_mul]; omega), h0]
    congr 2
    rw [Nat.add_mul]; omega
/-- One cell of an element that is one's own is set. -/
theorem Own.setCell {w : World} {F : Nat → Prop} {n B : Nat} {e : TypeId} {v : Value} {rs : List (List Value)} (h : Own (rawT n) w F B e v rs) {i j : Nat} (hi : i < rs.length) (hj : j < n) {u : Value} (hu : u.oneCell' = true) :
    ∃ g cap c, v = .slice (some ⟨g, 0, none⟩) rs.length cap ∧ B ≤ g ∧ Blk w g c e ∧ i * n + j < c.size ∧ ∀ w', Chg g w w' → Blk w' g (c.setIfInBounds (i * n + j) u) e → Own (rawT n) w' F B e v (rs.set i (rs[i].set j u)) := by
  obtain ⟨g, cap, c, rfl, h1, h2, h3, h4, h5, h6⟩ := h.cells (fun q => by rw [q] at hi; simp at hi)
  have hle : (i + 1) * n ≤ cap * n := Nat.mul_le_mul_right _ (by omega)
  rw [Nat.add_mul, Nat.one_mul] at hle
  refine ⟨g, cap, c, rfl, h1, h2, by omega, fun w' hC hb => Own.mkCells h1 hb (by simp) (by simpa using h3) (by simpa using h4) ?_ ?_⟩
  · intro r hr
    rcases List.mem_or_eq_of_mem_set hr with hr | rfl
    · exact h5 r hr
    · have h0 := h5 rs[i] (List.getElem_mem hi)
      refine ⟨by rw [List.length_set]; exact h0.1, fun x hx => ?_⟩
      rcases List.mem_or_eq_of_mem_set hx with hx | rfl
      · exact h0.2 x hx
      · exact hu
  · rw [flatten_set h5 hi hj, ← h6, List.length_set, Array.toList_setIfInBounds, List.take_set]
theorem ext_row {w w' : World} {g o n : Nat} {cs : List Value} (h : Ext w w') (hl : cs.length = n) (hc : ∀ j, j < n → w.cell? ⟨g, o + j, none⟩ = cs[j]?) : ∀ j, j < n → w'.cell? ⟨g, o + j, none⟩ = cs[j]? := fun j hj => by
  have := hc j hj
  rw [List.getElem?_eq_getElem (by omega)] at this ⊢
  exact ext_cell h this
/-! copy, clear, append -/
section
variable {P : Program}
theorem run_copyN (w : World) (dT sT ty elem : TypeId) (g o dLen dCap sz : Nat) (a : Addr) (sLen sCap : Nat) (cur : Array Value) (t : TypeId) (cs : List Value)
    (hu : P.underlying dT = some (.slice elem)) (hs : (P.info? elem).map (·.size) = some sz)
    (hg : Blk w g cur t) (hn : cs.length = Nat.min sLen dLen * sz)
    (hsrc : ∀ j v, cs[j]? = some v → w.cell? (a.add j) = some v) (hfit : o + cs.length ≤ cur.size) (h1 : ∀ v ∈ cs, v.oneCell' = true) :
    (Builtin.copy_ #[dT, sT] ty #[.slice (some ⟨g, o, none⟩) dLen dCap, .slice (some a) sLen sCap]).run P w =
      .ok (.int .i64 (Nat.min sLen dLen : Nat)) (w.setRow g (cur.toList.take o ++ cs ++ cur.toList.drop (o + cs.length)).toArray) := by
  have hl := run_loadCells_list (P := P) w a cs hsrc
  have hst := run_storeCells_at P g o t cs 0 cur w hg (by simpa using hfit) h1
  cases hq : P.info? elem with
  | none => simp [hq] at hs
  | some i =>
    have hi : i.size = sz := by simpa [hq] using hs
    simp [Builtin.copy_, run_underlying hu, Builtin.lenOf, Builtin.firstCells, sizeOf, typeInfo, hq, hi, ← hn, hl, hst, goInt]
theorem run_clearN (w : World) (t e ty : TypeId) {z : Value} {sz : Nat} (hu : P.underlying t = some (.slice e)) (hz : (P.info? e).bind (·.zero) = some z) (hzs : z.cells.size = sz) (hz1 : z.cells.toList.all (·.oneCell') = true) {g o m cap : Nat} {cur : Array Value} {tb : TypeId}
    (hb : Blk w g cur tb) (hm : 0 < m) (hfit : o + m * sz ≤ cur.size) :
    (Builtin.clear_ #[t] ty #[.slice (some ⟨g, o, none⟩) m cap]).run P w = .ok (.tuple #[]) (w.setRow g (cur.toList.take o ++ (Builtin.zeroCells z.cells m).toList ++ cur.toList.drop (o + m * sz)).toArray) := by
  have hzl : (Builtin.zeroCells z.cells m).toList.length = m * sz := by rw [Array.length_toList, size_zeroCells, hzs]
  have hone : ∀ v ∈ (Builtin.zeroCells z.cells m).toList, v.oneCell' = true := by
    intro v hv
    simp only [Builtin.zeroCells, Array.toList_map, List.mem_map] at hv
    obtain ⟨i, hi, rfl⟩ := hv
    by_cases h0 : z.cells.size = 0
    · rw [h0] at hi; simp at hi
    · have hlt : i % z.cells.size < z.cells.size := Nat.mod_lt _ (by omega)
      rw [getElem!_pos z.cells _ hlt]
      exact List.all_eq_true.1 hz1 _ (by rw [← Array.getElem_toList]; exact List.getElem_mem _)
  have hst := run_storeCells_at P g o tb (Builtin.zeroCells z.cells m).toList 0 cur w hb (by rw [hzl]; simpa using hfit) hone
  simp only [Nat.add_zero, hzl] at hst
  cases hq : P.info? e with
  | none => simp [hq] at hz
  | some inf =>
    have hz' : inf.zero = some z := by simpa [hq] using hz
    have hzv : (zeroValue e).run P w = .ok z w := by simp [zeroValue, typeInfo, hq, hz']
    obtain ⟨k, rfl⟩ : ∃ k, m = k + 1 := ⟨m - 1, by omega⟩
    simp [Builtin.clear_, run_underlying hu, hzv, hst]
theorem append_types (w : World) (t t2 ty e e2 : TypeId) (a b : Value) (h1 : P.underlying t = some (.slice e)) (h2 : P.underlying t2 = some (.slice e2)) {i : TypeInfo} (hi : P.info? e = some i) : (Builtin.append_ #[t, t2] ty #[a, b]).run P w = (Builtin.append_ #[t, t] ty #[a, b]).run P w := by
  cases a <;> simp [Builtin.append_, run_underlying h1, run_underlying h2, sizeOf, typeInfo, hi]
end
section
variable {P : Program} {ρ : Operand → Value} {w : World} {d : Option Tmp} {t : TypeId} {pos : String} {af : Array Edge} {g' : Option (Nat × Bool)}
theorem r_copyN {x y : Operand} {dT sT elem : TypeId} {g o dLen dCap sz sLen sCap : Nat} {a : Addr} {cur : Array Value} {tb : TypeId} {cs : List Value} (hx : ρ x = .slice (some ⟨g, o, none⟩) dLen dCap) (hy : ρ y = .slice (some a) sLen sCap)
    (hu : P.underlying dT = some (.slice elem)) (hs : (P.info? elem).map (·.size) = some sz) (hg : Blk w g cur tb) (hn : cs.length = Nat.min sLen dLen * sz)
    (hsrc : ∀ j v, cs[j]? = some v → w.cell? (a.add j) = some v) (hfit : o + cs.length ≤ cur.size) (h1 : ∀ v ∈ cs, v.oneCell' = true) :
    (execOp ρ ⟨d, .call { callee := .builtin .copy, args := #[x, y], argTypes := #[dT, sT] }, t, pos, af, g'⟩).run P w = .ok (.value (.int .i64 (Nat.min sLen dLen : Nat))) (w.setRow g (cur.toList.take o ++ cs ++ cur.toList.drop (o + cs.length)).toArray) := by
  have := run_copyN w dT sT t elem g o dLen dCap sz a sLen sCap cur tb cs hu hs hg hn hsrc hfit h1
  simp [execOp, resolve, invoke, builtin, hx, hy, this]
theorem r_clearN {x : Operand} {mt e : TypeId} {z : Value} {sz g o m cap : Nat} {cur : Array Value} {tb : TypeId} (hx : ρ x = .slice (some ⟨g, o, none⟩) m cap) (hu : P.underlying mt = some (.slice e)) (hz : (P.info? e).bind (·.zero) = some z) (hzs : z.cells.size = sz) (hz1 : z.cells.toList.all (·.oneCell') = true)
    (hb : Blk w g cur tb) (hm : 0 < m) (hfit : o + m * sz ≤ cur.size) :
    (execOp ρ ⟨d, .call { callee := .builtin .clear, args := #[x], argTypes := #[mt] }, t, pos, af, g'⟩).run P w = .ok (.value (.tuple #[])) (w.setRow g (cur.toList.take o ++ (Builtin.zeroCells z.cells m).toList ++ cur.toList.drop (o + m * sz)).toArray) := by
  have := run_clearN w mt e t hu hz hzs hz1 hb hm hfit (cap := cap)
  simp [execOp, resolve, invoke, builtin, hx, this]
theorem r_clear0 {x : Operand} {mt e : TypeId} {A : Option Addr} {cap : Nat} (hx : ρ x = .slice A 0 cap) (hu : P.underlying mt = some (.slice e)) :
    (execOp ρ ⟨d, .call { callee := .builtin .clear, args := #[x], argTypes := #[mt] }, t, pos, af, g'⟩).run P w = .ok (.value (.tuple #[])) w := by
  cases A <;> simp [execOp, resolve, invoke, builtin, hx, Builtin.clear_, run_underlying hu]
theorem r_cap {x : Operand} {mt e : TypeId} {A : Option Addr} {n cap : Nat} (hx : ρ x = .slice A n cap) (hu : P.underlying mt = some (.slice e)) :
    (execOp ρ ⟨d, .call { callee := .builtin .cap, args := #[x], argTypes := #[mt] }, t, pos, af, g'⟩).run P w = .ok (.value (.int .i64 cap)) w := by
  simp [execOp, resolve, invoke, builtin, Builtin.cap_, hx, run_underlying hu, goInt]
theorem r_buildNone {mt e : TypeId} {sz : Nat} (hu : P.underlying mt = some (.slice e)) (hs : (P.info? e).map (·.size) = some sz) :
    (execOp ρ ⟨d, .buildSlice mt 0 #[], t, pos, af, g'⟩).run P w = .ok (.value (.slice (some ⟨w.heap.size, 0, none⟩) 0 0)) (w.alloc (.cells #[] e)) := by
  cases hq : P.info? e with
  | none => simp [hq] at hs
  | some inf =>
    have hsz : inf.size = sz := by simpa [hq] using hs
    simp [execOp, Instr.buildSlice, run_underlying hu, sizeOf, typeInfo, hq, hsz, Instr.fill, newRow, newObj, Sem.run]
    congr 2
    apply Array.ext_getElem?
    intro i
    simp
theorem r_indexAddrK {x y : Operand} {ity e : TypeId} {b off n c sz : Nat} {k : IntKind} {i : Nat} (hx : ρ x = .slice (some ⟨b, off, none⟩) n c) (hy : ρ y = .int k (i : Nat))
    (hu : P.underlying ity = some (.slice e)) (hs : (P.info? e).map (·.size) = some sz) (hi : i < n) :
    (execOp ρ ⟨d, .indexAddr ity x y, t, pos, af, g'⟩).run P w = .ok (.value (.pointer (some ⟨b, off + i * sz, none⟩))) w := by
  rw [r_indexAddr hx hy hu hs (by omega) (by omega)]
  rfl
theorem r_indexAddrK0 {x y : Operand} {ity e : TypeId} {b n c sz : Nat} {k : IntKind} {i : Nat} (hx : ρ x = .slice (some ⟨b, 0, none⟩) n c) (hy : ρ y = .int k (i : Nat))
    (hu : P.underlying ity = some (.slice e)) (hs : (P.info? e).map (·.size) = some sz) (hi : i < n) :
    (execOp ρ ⟨d, .indexAddr ity x y, t, pos, af, g'⟩).run P w = .ok (.value (.pointer (some ⟨b, i * sz, none⟩))) w := by
  rw [r_indexAddrK hx hy hu hs hi, Nat.zero_add]
theorem r_sliceLo0 {x y : Operand} {sty e : TypeId} {b n cap i sz : Nat} {ky : IntKind} (hx : ρ x = .slice (some ⟨b, 0, none⟩) n cap) (hy : ρ y = .int ky (i : Nat)) (hu : P.underlying sty = some (.slice e)) (hs : (P.info? e).map (·.size) = some sz) (hi : i ≤ n) (hc : i < cap) :
    (execOp ρ ⟨d, .slice sty x (some y) none none, t, pos, af, g'⟩).run P w = .ok (.value (.slice (some ⟨b, i * sz, none⟩) (n - i) (cap - i))) w := by
  rw [r_sliceLo hx hy hu hs hi]
  unfold cutA
  rw [if_neg (by omega)]
  simp [add_at]
theorem r_overlaps {x y : Operand} {f : FuncId} {fn : Func} {tS tR el : TypeId} {sz b1 o1 b2 o2 la ca lb cb : Nat} {c1 c2 : Array Value} {t1 t2 : TypeId} {ts : Array TypeId} (hf : P.funcs[f]? = some fn) (hn : (fn.name == "runtime.NumGoroutine") = false) (hb : fn.body.isNone = true) (h1 : Extern.findNext fn = none) (h2 : Extern.find fn = some (Extern.SlicesOverlaps.overlaps #[tS, tS] #[tR]))
    (hx : ρ x = .slice (some ⟨b1, o1, none⟩) la ca) (hy : ρ y = .slice (some ⟨b2, o2, none⟩) lb cb) (hfn : ρ (.func f) = .func (.func f) #[] #[]) (hu : P.underlying tS = some (.slice el)) (hs : (P.info? el).map (·.size) = some sz)
    (hb1 : Blk w b1 c1 t1) (hb2 : Blk w b2 c2 t2) (hne : b1 ≠ b2) (h0 : c2.size ≠ 0) :
    (execOp ρ ⟨d, .call { callee := .value (.func f), args := #[x, y], argTypes := ts }, t, pos, af, g'⟩).run P w = .ok (.value (.bool (decide False))) w := by
  have hsz : ∀ w, (Go.sizeOf el).run P w = .ok sz w := by
    intro w
    cases hq : P.info? el with
    | none => simp [hq] at hs
    | some i =>
      have : i.size = sz := by simpa [hq] using hs
      simp [Go.sizeOf, typeInfo, hq, this]
  have hc := run_callFunc_extern (P := P) hf hn hb h1 h2 #[.slice (some ⟨b1, o1, none⟩) la ca, .slice (some ⟨b2, o2, none⟩) lb cb] w
  unfold Blk at hb1 hb2
  rw [Lib.run_overlaps_apart w tS tR el hu sz hsz ⟨b1, o1, none⟩ ⟨b2, o2, none⟩ la ca lb cb hne t1 t2 c1.size c2.size (by simp [World.shape?, hb1]) (by simp [World.shape?, hb2]) h0 (by simp [World.frozen?, hb1]) (by simp [World.frozen?, hb1])] at hc
  have : execOp ρ ⟨d, .call { callee := .value (.func f), args := #[x, y], argTypes := ts }, t, pos, af, g'⟩ = callFunc f #[.slice (some ⟨b1, o1, none⟩) la ca, .slice (some ⟨b2, o2, none⟩) lb cb] := by
    simp [execOp, resolve, hfn, invoke, go_sem, hx, hy]
  rw [this, hc]
  rfl
theorem r_append2 {s x : Operand} {t1 t2 e e2 : TypeId} {v u v' : Value} {w' : World} (hs : ρ s = v) (hx : ρ x = u) (h1 : P.underlying t1 = some (.slice e)) (h2 : P.underlying t2 = some (.slice e2)) {i : TypeInfo} (hi : P.info? e = some i) (h : (Builtin.append_ #[t1, t1] t #[v, u]).run P w = .ok v' w') :
    (execOp ρ ⟨d, .call { callee := .builtin .append, args := #[s, x], argTypes := #[t1, t2] }, t, pos, af, g'⟩).run P w = .ok (.value v') w' := by
  rw [← append_types w t1 t2 t e e2 v u h1 h2 hi] at h
  simp [execOp, resolve, invoke, builtin, hs, hx, h]
end
section
variable {P : Program} {n : Nat} {N : Env → World → Prop} {X : Exit → Env → World → Prop} {e : Env} {w : World} {ops : Array Oper} {rest : List Oper} {d : Option Tmp} {ty : TypeId} {pos : String} {af : Array Edge}
variable {α : Type} {T : Ty α} {F : Nat → Prop}
theorem op_append2 {s x : Operand} {t t2 el el2 : TypeId} {z : Value} {by_ B c : Nat} {v : Value} {l m : List α} {A : Option Addr} (hd : dOk n d = true) (hsv : ev e s = v) (hx : ev e x = .slice A m.length c)
    (hu : P.underlying t = some (.slice el)) (hu2 : P.underlying t2 = some (.slice el2)) (hs : (P.info? el).map (·.size) = some T.sz) (hy : (P.info? el).map (·.bytes) = some by_) (hz : (P.info? el).bind (·.zero) = some z) (hzs : z.cells.size = T.sz)
    (hown : Own T w F B el v l) (hrow : Src T w F A m) (hF : ∀ b, F b → b < w.heap.size ∧ v.ownBlock ≠ some b) (hsz : (l.length + m.length) * by_ ≤ 140737488355328) (h63 : l.length + m.length ≤ 140737488355328) (hB : B ≤ w.heap.size)
    (h : ∀ v' w', Own T w' F B el v' (l ++ m) → Gro v.ownBlock w w' → (v'.ownBlock = v.ownBlock ∨ ∃ g, v'.ownBlock = some g ∧ w.heap.size ≤ g) → WL P n ops N X rest (putO e d v') w') :
    WL P n ops N X (⟨d, .call { callee := .builtin .append, args := #[s, x], argTypes := #[t, t2] }, ty, pos, af, none⟩ :: rest) e w := by
  obtain ⟨v', w', hr, h1, h2, h3⟩ := run_append (ty := ty) (c := c) hu hs hy hz hzs hown hrow hF hsz h63 hB
  obtain ⟨i, hi, _⟩ := info_of hs hy hz
  exact op hd (r_append2 hsv hx hu hu2 hi hr) (h v' w' h1 h2 h3)
/-- 'append(s[:i], make([]T, k)..)' where there is no room. -/
theorem op_appendZ {s x : Operand} {t tn el : TypeId} {kn : IntKind} {z : Value} {by_ sz g m cap k : Nat} {c : Array Value} {tb : TypeId} (hd : dOk n d = true) (hsv : ev e s = .slice (some ⟨g, 0, none⟩) m cap) (hx : ev e x = .int .i64 (k : Nat))
    (hu : P.underlying t = some (.slice el)) (hun : P.underlying tn = some (.int kn)) (hs : (P.info? el).map (·.size) = some sz) (hy : (P.info? el).map (·.bytes) = some by_) (hz : (P.info? el).bind (·.zero) = some z) (hzs : z.cells.size = sz) (hsz0 : 0 < sz)
    {tot : Nat} (ht : m + k = tot) (hb : Blk w g c tb) (hm : m * sz ≤ c.size) (hk : 0 < k) (hg : cap < m + k) (hsz : (m + k) * by_ ≤ 140737488355328) (h63 : m + k ≤ 140737488355328)
    (h : ∀ w' b cap' c', Ext w w' → Blk w' b c' el → w.heap.size = b → tot ≤ cap' → c'.size = cap' * sz → c'.toList.take (m * sz) = c.toList.take (m * sz) → WL P n ops N X rest (putO e d (.slice (some ⟨b, 0, none⟩) tot cap')) w') :
    WL P n ops N X (⟨d, .call { callee := .builtin .append, args := #[s, x], argTypes := #[t, tn] }, ty, pos, af, none⟩ :: rest) e w := by
  subst ht
  obtain ⟨i, hi, his, hib, hiz⟩ := info_of hs hy hz
  have holds : ∀ j u, (c.toList.take (m * sz))[j]? = some u → w.drew.cell? ((⟨g, 0, none⟩ : Addr).add j) = some u := by
    intro j u hu
    have hcell : w.cell? ((⟨g, 0, none⟩ : Addr).add j) = some u := by
      rw [add_at, cell_of_row w g _ c tb (0, 0) hb, Nat.zero_add]
      rw [List.getElem?_take] at hu
      split at hu
      · simpa using hu
      · cases hu
    simpa using hcell
  have hold : (Builtin.firstCells i.size m (.slice (some ⟨g, 0, none⟩) m cap)).run P w.drew = .ok (c.toList.take (m * sz)).toArray w.drew :=
    run_firstCells_some (P := P) w.drew i.size m ⟨g, 0, none⟩ m cap (c.toList.take (m * sz)) (by rw [his, List.length_take, Array.length_toList]; omega) holds
  have hkb : k * by_ ≤ (m + k) * by_ := Nat.mul_le_mul_right _ (by omega)
  have hr := Lib.run_append_grow_zeros (P := P) w t tn ty el i z .i64 kn hu hun hi hiz (some ⟨g, 0, none⟩) m cap (c.toList.take (m * sz)) hold k hk (by omega) hg (by omega) (by rw [hib]; omega) (growslice_fits (by omega) (by rw [hib]; exact hsz))
  have hge := grownCap_ge w (m + k) cap el
  have hE : ∀ o, Ext w (w.drew.alloc o) := fun o => (Ext.drew (Ext.refl w)).of_alloc _
  obtain ⟨C, hC⟩ : ∃ C, C = (c.toList.take (m * sz)).toArray ++ Builtin.zeroCells z.cells k ++ Builtin.zeroCells z.cells (grownCap w (m + k) cap el - (m + k)) := ⟨_, rfl⟩
  rw [← hC] at hr
  refine op hd (v := .slice (some ⟨w.heap.size, 0, none⟩) (m + k) (grownCap w (m + k) cap el)) (w' := w.drew.alloc (.cells C el)) ?_ (h _ _ (grownCap w (m + k) cap el) C (hE _) (Blk.new w.drew _ _) rfl hge ?_ ?_)
  · simp [execOp, resolve, invoke, builtin, hsv, hx, hr]
  · rw [hC]
    simp only [Array.size_append, List.size_toArray, size_zeroCells, hzs, List.length_take, Array.length_toList]
    rw [Nat.min_eq_left hm, ← Nat.add_mul, ← Nat.add_mul]
    congr 1
    omega
  · have hl : (c.toList.take (m * sz)).length = m * sz := by rw [List.length_take, Array.length_toList]; omega
    rw [hC]
    simp only [Array.toList_append, List.append_assoc]
    have := List.take_left (l₁ := c.toList.take (m * sz)) (l₂ := (Builtin.zeroCells z.cells k).toList ++ (Builtin.zeroCells z.cells (grownCap w (m + k) cap el - (m + k))).toList)
    rw [hl] at this
    exact this
theorem op_copyN {x y : Operand} {dT sT elem : TypeId} {g o dLen dCap sz sLen sCap : Nat} {a : Addr} {cur : Array Value} {tb : TypeId} {cs : List Value} (hd : dOk n d = true) (hx : ev e x = .slice (some ⟨g, o, none⟩) dLen dCap) (hy : ev e y = .slice (some a) sLen sCap)
    (hu : P.underlying dT = some (.slice elem)) (hs : (P.info? elem).map (·.size) = some sz) (hg : Blk w g cur tb) (hn : cs.length = Nat.min sLen dLen * sz)
    (hsrc : ∀ j v, cs[j]? = some v → w.cell? (a.add j) = some v) (hfit : o + cs.length ≤ cur.size) (h1 : ∀ v ∈ cs, v.oneCell' = true)
    (h : ∀ w', Chg g w w' → Blk w' g (cur.toList.take o ++ cs ++ cur.toList.drop (o + cs.length)).toArray tb → WL P n ops N X rest (putO e d (.int .i64 (Nat.min sLen dLen : Nat))) w') :
    WL P n ops N X (⟨d, .call { callee := .builtin .copy, args := #[x, y], argTypes := #[dT, sT] }, ty, pos, af, none⟩ :: rest) e w :=
  op hd (r_copyN hx hy hu hs hg hn hsrc hfit h1) (h _ (Chg.setRow w g _) hg.setRow)
theorem op_storeAt {x y : Operand} {sty tb : TypeId} {b o : Nat} {c : Array Value} {xs : List Value} (hx : ev e x = .pointer (some ⟨b, o, none⟩)) (hy : ev e y = .agg xs.toArray)
    (hs : (P.info? sty).map (·.size) = some xs.length) (hb : Blk w b c tb) (ho : o + xs.length ≤ c.size) (h1 : xs.all (·.oneCell') = true)
    (h : ∀ w', Chg b w w' → Blk w' b (c.toList.take o ++ xs ++ c.toList.drop (o + xs.length)).toArray tb → WL P n ops N X rest e w') : WL P n ops N X (⟨none, .store sty x y, ty, pos, af, none⟩ :: rest) e w :=
  opU (r_storeAt hx hy hs hb ho h1) (h _ (Chg.setRow w b _) hb.setRow)
theorem op_clearN {x : Operand} {mt el : TypeId} {z : Value} {sz g o m cap : Nat} {cur : Array Value} {tb : TypeId} (hd : dOk n d = true) (hx : ev e x = .slice (some ⟨g, o, none⟩) m cap) (hu : P.underlying mt = some (.slice el)) (hz : (P.info? el).bind (·.zero) = some z) (hzs : z.cells.size = sz) (hz1 : z.cells.toList.all (·.oneCell') = true)
    (hb : Blk w g cur tb) (hm : 0 < m) (hfit : o + m * sz ≤ cur.size)
    (h : ∀ w' zs, Chg g w w' → zs.length = m * sz → Blk w' g (cur.toList.take o ++ zs ++ cur.toList.drop (o + m * sz)).toArray tb → WL P n ops N X rest (putO e d (.tuple #[])) w') :
    WL P n ops N X (⟨d, .call { callee := .builtin .clear, args := #[x], argTypes := #[mt] }, ty, pos, af, none⟩ :: rest) e w :=
  op hd (r_clearN hx hu hz hzs hz1 hb hm hfit) (h _ _ (Chg.setRow w g _) (by rw [Array.length_toList, size_zeroCells, hzs]) hb.setRow)
end
section
variable {P : Program} {n : Nat} {N : Env → World → Prop} {X : Exit → Env → World → Prop} {S : World → Prop} {ops : Array Oper} {fuel : Nat} {listed : Array Bool} {i : Nat} {e : Env} {w : World} {d : Option Tmp} {t : TypeId} {pos : String} {af : Array Edge}
theorem O_copyN {x y : Operand} {dT sT elem : TypeId} {g o dLen dCap sz sLen sCap : Nat} {a : Addr} {cur : Array Value} {tb : TypeId} {cs : List Value} (hi : ops[i]? = some ⟨d, .call { callee := .builtin .copy, args := #[x, y], argTypes := #[dT, sT] }, t, pos, af, none⟩) (hd : dOk n d = true) (hx : ev e x = .slice (some ⟨g, o, none⟩) dLen dCap) (hy : ev e y = .slice (some a) sLen sCap)
    (hu : P.underlying dT = some (.slice elem)) (hs : (P.info? elem).map (·.size) = some sz) (hg : Blk w g cur tb) (hn : cs.length = Nat.min sLen dLen * sz)
    (hsrc : ∀ j v, cs[j]? = some v → w.cell? (a.add j) = some v) (hfit : o + cs.length ≤ cur.size) (h1 : ∀ v ∈ cs, v.oneCell' = true)
    (h : ∀ w', Chg g w w' → Blk w' g (cur.toList.take o ++ cs ++ cur.toList.drop (o + cs.length)).toArray tb → S w' ∧ WA P n ops N X S fuel (listed.setIfInBounds i true) (putO e d (.int .i64 (Nat.min sLen dLen : Nat))) w') : WO P n ops N X S fuel listed i e w :=
  have h' := h _ (Chg.setRow w g _) hg.setRow
  O_val hi hd (r_copyN hx hy hu hs hg hn hsrc hfit h1) h'.1 h'.2
end
section
variable {P : Program} {n : Nat} {N : Env → World → Prop} {X : Exit → Env → World → Prop} {S : World → Prop} {ops : Array Oper} {fuel : Nat} {listed : Array Bool} {i : Nat} {e : Env} {w : World} {d : Option Tmp} {ty : TypeId} {pos : String} {af : Array Edge}
theorem O_append {α : Type} {T : Ty α} {F : Nat → Prop} {s x : Operand} {t el : TypeId} {z : Value} {by_ B c : Nat} {v : Value} {l m : List α} {A : Option Addr} (hi : ops[i]? = some ⟨d, .call { callee := .builtin .append, args := #[s, x], argTypes := #[t, t] }, ty, pos, af, none⟩) (hd : dOk n d = true) (hsv : ev e s = v) (hx : ev e x = .slice A m.length c)
    (hu : P.underlying t = some (.slice el)) (hs : (P.info? el).map (·.size) = some T.sz) (hy : (P.info? el).map (·.bytes) = some by_) (hz : (P.info? el).bind (·.zero) = some z) (hzs : z.cells.size = T.sz)
    (hown : Own T w F B el v l) (hrow : Src T w F A m) (hF : ∀ b, F b → b < w.heap.size ∧ v.ownBlock ≠ some b) (hsz : (l.length + m.length) * by_ ≤ 140737488355328) (h63 : l.length + m.length ≤ 140737488355328) (hB : B ≤ w.heap.size)
    (h : ∀ v' w', Own T w' F B el v' (l ++ m) → Gro v.ownBlock w w' → (v'.ownBlock = v.ownBlock ∨ ∃ g, v'.ownBlock = some g ∧ w.heap.size ≤ g) → S w' ∧ WA P n ops N X S fuel (listed.setIfInBounds i true) (putO e d v') w') :
    WO P n ops N X S fuel listed i e w := by
  obtain ⟨v', w', hr, h1, h2, h3⟩ := run_append (ty := ty) (c := c) hu hs hy hz hzs hown hrow hF hsz h63 hB
  obtain ⟨q1, q2⟩ := h v' w' h1 h2 h3
  exact O_val hi hd (r_append hsv hx hr) q1 q2
end
/-- The one cell of what has one. -/
def cellOf (v : Value) : Value := v.cells[0]?.getD v
theorem fill_cell {u : Value → Value} {places : Array (Nat × Nat)} : ∀ {parts : List (Nat × Value)} {cs : Array Value} {offs : List Nat}, (∀ q ∈ parts, q.2.cells = #[u q.2]) → (∀ q ∈ parts, ∃ o, offs[q.1]? = some o ∧ places[q.1]? = some (o, 1) ∧ o < cs.size) →
    Instr.fill (places[·]?) cs parts = some (setL cs.toList (parts.map fun q => ((offs[q.1]?).getD 0, u q.2))).toArray
  | [], cs, _, _, _ => by simp [Instr.fill, setL]
  | (i, v) :: r, cs, offs, h1, h2 => by
    obtain ⟨o, ho, hp, hlt⟩ := h2 (i, v) (List.mem_cons_self ..)
    have hv : v.cells = #[u v] := h1 (i, v) (List.mem_cons_self ..)
    have h2' : ∀ q ∈ r, ∃ o', offs[q.1]? = some o' ∧ places[q.1]? = some (o', 1) ∧ o' < (cs.setIfInBounds o (u v)).size := fun q hq => by
      have := h2 q (List.mem_cons_of_mem _ hq)
      simpa using this
    have ih := fill_cell (places := places) (cs := cs.setIfInBounds o (u v)) (offs := offs) (fun q hq => h1 q (List.mem_cons_of_mem _ hq)) h2'
    simp only [Instr.fill, hp, hv]
    have hsz : ¬ (1 ≠ 1 ∨ o + 1 > cs.size) := by omega
    simp only at ho
    simp [setL, ho, hsz, hlt]
    exact ⟨by omega, by simpa using ih⟩
section
variable {P : Program} {ρ : Operand → Value} {w : World} {d : Option Tmp} {t : TypeId} {pos : String} {af : Array Edge} {g : Option (Nat × Bool)}
/-- A struct is built of parts of one cell each, that may be structs. -/
theorem r_build1 (u : Value → Value) {parts : List (Nat × Operand)} {s : Nat} {zc : List Value} {offs : List Nat} {cs : List Value} (hl : layOf P s = some (zc, offs)) (h1 : ∀ q ∈ parts, (ρ q.2).cells = #[u (ρ q.2)]) (h2 : (parts.all fun q => ((offs[q.1]?).map fun o => Nat.blt o zc.length).getD false) = true)
    (hc : setL zc (parts.map fun q => ((offs[q.1]?).getD 0, u (ρ q.2))) = cs) :
    (execOp ρ ⟨d, .build s parts.toArray, t, pos, af, g⟩).run P w = .ok (.value (.agg cs.toArray)) w := by
  unfold layOf at hl
  cases hu : P.underlying s with
  | none => simp [hu] at hl
  | some td =>
    cases td <;> simp only [hu] at hl <;> try (cases hl; done)
    rename_i fs
    cases hzz : (P.info? s).bind (·.zero) with
    | none => simp [hzz] at hl
    | some z =>
      simp only [hzz] at hl
      split at hl
      rotate_left
      · cases hl
      rename_i hall
      obtain ⟨rfl, rfl⟩ : z.cells.toList = zc ∧ fs.toList.map (·.offset) = offs := by simpa using hl
      cases hin : P.info? s with
      | none => simp [hin] at hzz
      | some inf =>
        have hz' : inf.zero = some z := by simpa [hin] using hzz
        have hpl : fs.toList.mapM (fun f => (P.info? f.type).map fun i => (f.offset, i.size)) = some (fs.toList.map fun f => (f.offset, 1)) := by
          clear hl hc h2 hu
          generalize fs.toList = l at hall
          induction l with
          | nil => rfl
          | cons f l ih =>
            simp only [List.all_cons, Bool.and_eq_true, beq_iff_eq] at hall
            cases hfi : P.info? f.type with
            | none => simp [hfi] at hall
            | some i =>
              have hs1 : i.size = 1 := by simpa [hfi] using hall.1
              simp [List.mapM_cons, hfi, hs1, ih hall.2]
        have hb : P.built s (parts.toArray.map fun (q : Nat × Operand) => (q.1, ρ q.2)).toList = some cs.toArray := by
          unfold Program.built
          simp only [hin, hu, hz', hpl]
          have hf := fill_cell (u := u) (places := (fs.toList.map fun f => (f.offset, 1)).toArray) (cs := z.cells) (offs := fs.toList.map (·.offset)) (parts := parts.map fun q => (q.1, ρ q.2)) (by
            intro q hq
            obtain ⟨p, hp, rfl⟩ := List.mem_map.1 hq
            exact h1 p hp) (by
            intro q hq
            obtain ⟨p, hp, rfl⟩ := List.mem_map.1 hq
            have := List.all_eq_true.1 h2 p hp
            cases ho : (fs.toList.map (·.offset))[p.1]? with
            | none => rw [ho] at this; simp at this
            | some o =>
              rw [ho] at this
              refine ⟨o, rfl, ?_, by simpa [Nat.blt_eq] using this⟩
              simp only [List.getElem?_map, Option.map_eq_some_iff] at ho
              obtain ⟨f, hf, rfl⟩ := ho
              simp [hf])
          simp only [List.map_map] at hf
          rw [← hc]
          simpa [Function.comp_def] using hf
        have := run_build w s (parts.toArray.map fun (q : Nat × Operand) => (q.1, ρ q.2)) cs.toArray hb
        simp [execOp] at this ⊢
        simp [this]
end
/-- Cells that lie behind a place in a block. -/
theorem cells_src {w : World} {g n i : Nat} {c : Array Value} {tb : TypeId} {rs : List (List Value)} (hb : Blk w g c tb) (hr : ∀ r ∈ rs, Raw n r) (ht : c.toList.take (rs.length * n) = rs.flatten) (hi : i ≤ rs.length) :
    ∀ j v, (rs.drop i).flatten[j]? = some v → w.cell? ((⟨g, i * n, none⟩ : Addr).add j) = some v := by
  intro j v hv
  rw [raw_drop hr i hi, ← ht, List.getElem?_drop, List.getElem?_take] at hv
  split at hv
  · rw [add_at]
    exact Blk.cell hb (by simpa using hv)
  · cases hv
theorem blk_src {w : World} {g : Nat} {x : List Value} {tb : TypeId} (hb : Blk w g x.toArray tb) : ∀ j v, x[j]? = some v → w.cell? ((⟨g, 0, none⟩ : Addr).add j) = some v := by
  intro j v hv
  rw [add_at]
  exact Blk.cell hb (by simpa using hv)
end Go.Eng
