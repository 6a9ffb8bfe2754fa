/-
  Texts cut, and joined (by the shelf's contracts); the walk of rules' text.
-/
import Derived.Test.YtafcaigjijajnaaDoorFacts
import Derived.Test.YtafcaigjijajnaaDoorRuleOne
import Derived.Test.YtafcaigjijajnaaDoorRuleO
namespace Go.Proofs.YtafcaigjijajnaaDoor
open Go Go.Eng Go.RowKit Go.Proofs
set_option linter.unusedVariables false
set_option linter.unusedSimpArgs false
set_option maxHeartbeats 1000000
set_option maxRecDepth 20000

theorem join_eq (c : UInt8) : ∀ l : List (List UInt8), Lib.join l [c] = joinB c l
  | [] => rfl
  | [x] => by rw [Lib.join_one]; rfl
  | x :: y :: r => by
    have ih := join_eq c (y :: r)
    rw [Lib.join_cons] at ih ⊢
    show x ++ Lib.joinTail [c] (y :: r) = x ++ c :: joinB c (y :: r)
    rw [← ih]
    simp [Lib.joinTail]
theorem index_one (l : List UInt8) (c : UInt8) : Lib.index l [c] = Lib.indexByte l c := by
  induction l with
  | nil => rfl
  | cons b l ih =>
    rw [Lib.index, Lib.indexByte, ih]
    by_cases h : c = b
    · subst h; simp [List.isPrefixOf]
    · have h1 : (b == c) = false := by simpa using fun q : b = c => h q.symm
      have h2 : ([c] : List UInt8).isPrefixOf (b :: l) = false := by simp [List.isPrefixOf, h]
      rw [h1, h2]
theorem split_eq (c : UInt8) : ∀ (n : Nat) (l : List UInt8), l.length ≤ n → Lib.countB (str l) (str [c]) + 1 = (parts c l).length ∧ Lib.splitB (str [c]) 0 (Lib.countB (str l) (str [c])) (str l) = (parts c l).map str := by
  intro n
  induction n with
  | zero =>
    intro l hl
    have : l = [] := List.eq_nil_of_length_eq_zero (by omega)
    subst this
    have hi : Lib.indexB (str []) (str [c]) = -1 := by
      show Lib.index [] [c] = -1
      rfl
    rw [Lib.countB_miss _ _ hi]
    exact ⟨rfl, rfl⟩
  | succ n ih =>
    intro l hl
    have hix : Lib.indexB (str l) (str [c]) = Lib.indexByte l c := index_one l c
    rcases parts_index c l with ⟨h1, h2, _⟩ | ⟨i, h1, h2, h3, _, _⟩
    · rw [h1] at hix
      rw [Lib.countB_miss _ _ hix, h2]
      exact ⟨rfl, rfl⟩
    · rw [h1] at hix
      have hcnt := Lib.countB_hit (str l) (str [c]) i (by rw [str_size]; simp) hix
      have hex : (str l).extract (i + (str [c]).size) (str l).size = str (l.drop (i + 1)) := by
        rw [str_extract]
        congr 1
        rw [List.take_of_length_le (by rw [List.length_drop]; simp [str_size])]
        rfl
      rw [hex] at hcnt
      obtain ⟨q1, q2⟩ := ih (l.drop (i + 1)) (by rw [List.length_drop]; omega)
      rw [hcnt, h3]
      refine ⟨by rw [List.length_cons, ← q1]; omega, ?_⟩
      rw [Nat.add_comm 1, Lib.splitB_hit _ _ _ _ i hix, hex, q2, List.map_cons]
      congr 1
      rw [str_extract]
      simp
theorem split_spec (l : List UInt8) (c : UInt8) (w : World) (hG : Gl w) (hl : l.length ≤ 1000000) :
    Calls Tryd.prog 29 #[.string (str l), .string (str [c])] w (fun en w' => ∃ v, en = .returned v ∧ ∃ b, v = .slice (some ⟨b, 0, none⟩) (parts c l).length (parts c l).length ∧ strT'.Row w' (old w') (some ⟨b, 0, none⟩) (parts c l) ∧ Ext w w') := by
  obtain ⟨m, hm⟩ := hG.max
  obtain ⟨q1, q2⟩ := split_eq c l.length l (Nat.le_refl _)
  refine (Tryd.strings_Split (str l) (str [c]) m w (by rw [str_size]; omega) hm (by rw [str_size]; simp)).mono ?_
  rintro en w' ⟨rfl, rfl⟩
  refine ⟨_, rfl, w.heap.size, by rw [q1], ?_, Ext.alloc _ _⟩
  rw [q2]
  have hb : Blk (w.alloc (.cells (((parts c l).map str).map Value.string).toArray 9)) w.heap.size (((parts c l).map str).map Value.string).toArray 9 := Blk.new w _ _
  refine Blk.row hb (Blk.lt hb) fun i hi => ⟨[sv (parts c l)[i]], ⟨rfl, by
    show (parts c l)[i].length ≤ _
    have := parts_len c l _ (List.getElem_mem hi); omega⟩, fun j hj => ?_⟩
  have hj1 : j < 1 := hj
  obtain rfl : j = 0 := by omega
  have e : i * strT'.sz + 0 = i := by show i * 1 + 0 = i; omega
  rw [e]
  simp [hi]
theorem join_spec {A : Option Addr} {cp : Nat} {l : List (List UInt8)} {w : World} {G : Nat → Prop} (hrow : strT'.Row w G A l) (h0 : 0 < l.length) (hc : l.length ≤ cp) (hl : l.length ≤ 1000) (hlen : (joinB 32 l).length ≤ 1099511627776) :
    Calls Tryd.prog 40 #[.slice A l.length cp, .string (str [32])] w (fun en w' => ∃ v, en = .returned v ∧ v = sv (joinB 32 l) ∧ Ext w w') := by
  obtain ⟨g, off, rfl, hcell⟩ := row_str hrow h0
  have hmap : (l.map str).map (·.data.toList) = l := by rw [List.map_map]; exact List.map_id'' (fun x => rfl) l
  have hg : g < w.heap.size := World.block_lt_of_cell? _ _ (hcell 0 h0)
  have h := Tryd.strings_Join g off cp (l.map str) (str [32]) w (fun j x hx => by
    rw [List.getElem?_map] at hx
    cases hj : l[j]? with
    | none => rw [hj] at hx; cases hx
    | some y =>
      rw [hj] at hx
      cases hx
      obtain ⟨hlt, rfl⟩ := List.getElem?_eq_some_iff.1 hj
      exact hcell j hlt) hg (by rw [List.length_map]; omega) (by rw [List.length_map]; omega) (by rw [hmap]; show (Lib.join l [32]).length ≤ _; rw [join_eq]; omega)
  rw [hmap, List.length_map] at h
  refine h.mono ?_
  rintro en w' ⟨rfl, hb⟩
  exact ⟨_, rfl, by show Value.string (str (Lib.join l [32])) = _; rw [join_eq], hb⟩
end Go.Proofs.YtafcaigjijajnaaDoor
