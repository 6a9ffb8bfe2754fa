/-
  Which trees may be, told by pairs: plain.
-/
import Derived.Test.YtafcaigjijajnaaDoorTreeM
namespace Go.Proofs.YtafcaigjijajnaaDoor
open Go Go.Eng
set_option linter.unusedVariables false
set_option linter.unusedSimpArgs false

theorem lastIx_spec (c : UInt8) : ∀ (s : List UInt8), (lastIx c s = none ∧ ∀ j : Nat, s[j]? ≠ some c) ∨ ∃ i : Nat, lastIx c s = some i ∧ s[i]? = some c ∧ ∀ j : Nat, i < j → s[j]? ≠ some c
  | [] => Or.inl ⟨rfl, by simp⟩
  | x :: s => by
    rcases lastIx_spec c s with ⟨h1, h2⟩ | ⟨i, h1, h2, h3⟩
    · by_cases hx : x = c
      · refine Or.inr ⟨0, by simp [lastIx, h1, hx], by simp [hx], fun j hj => ?_⟩
        obtain ⟨k, rfl⟩ : ∃ k, j = k + 1 := ⟨j - 1, by omega⟩
        simpa using h2 k
      · refine Or.inl ⟨by simp [lastIx, h1, hx], fun j => ?_⟩
        cases j with
        | zero => simpa using hx
        | succ k => simpa using h2 k
    · refine Or.inr ⟨i + 1, by simp [lastIx, h1], by simpa using h2, fun j hj => ?_⟩
      obtain ⟨k, rfl⟩ : ∃ k, j = k + 1 := ⟨j - 1, by omega⟩
      simpa using h3 k (by omega)
/-- Is it below? -/
def underP (s d : List UInt8) : Prop := d.length < s.length ∧ s.take d.length = d ∧ s[d.length]? = some 47
theorem mem_dirs (n : Nat) : ∀ (s d : List UInt8), s.length ≤ n → (d ∈ dirsT (dirP s) ↔ d ≠ [] ∧ underP s d) := by
  induction n with
  | zero =>
    intro s d hn
    have : s = [] := List.length_eq_zero_iff.1 (by omega)
    subst this
    have h : dirP [] = [] := rfl
    rw [h, dirs_nil]
    simp [underP]
  | succ n ih =>
    intro s d hn
    rcases lastIx_spec 47 s with ⟨h1, h2⟩ | ⟨i, h1, h2, h3⟩
    · have h : dirP s = [] := by unfold dirP; rw [h1]
      rw [h, dirs_nil]
      simp only [List.not_mem_nil, false_iff]
      rintro ⟨_, _, _, h4⟩
      exact h2 _ h4
    · have hil : i < s.length := by
        rcases Nat.lt_or_ge i s.length with h | h
        · exact h
        · rw [List.getElem?_eq_none h] at h2; cases h2
      have h : dirP s = s.take i := by unfold dirP; rw [h1]
      rw [h]
      by_cases h0 : i = 0
      · subst h0
        rw [List.take_zero, dirs_nil]
        simp only [List.not_mem_nil, false_iff]
        rintro ⟨hd, h4, h5, h6⟩
        exact h3 d.length (List.length_pos_iff.2 hd) h6
      · have hne : s.take i ≠ [] := fun q => by
          have := congrArg List.length q
          rw [List.length_take, List.length_nil] at this
          omega
        have hlt : (s.take i).length = i := by rw [List.length_take]; omega
        rw [dirs_cons hne, List.mem_cons, ih (s.take i) d (by omega)]
        constructor
        · rintro (rfl | ⟨hd, h4, h5, h6⟩)
          · exact ⟨hne, by omega, by rw [hlt], by rw [hlt]; exact h2⟩
          · rw [hlt] at h4
            rw [List.take_take, Nat.min_eq_left (by omega)] at h5
            rw [List.getElem?_take, if_pos h4] at h6
            exact ⟨hd, by omega, h5, h6⟩
        · rintro ⟨hd, h4, h5, h6⟩
          have hle : d.length ≤ i := Nat.le_of_not_lt (fun q => h3 _ q h6)
          by_cases he : d.length = i
          · left; rw [← he, h5]
          · right
            refine ⟨hd, by rw [hlt]; omega, ?_, ?_⟩
            · rw [List.take_take, Nat.min_eq_left hle]; exact h5
            · rw [List.getElem?_take, if_pos (by omega)]; exact h6
theorem isDir_iff {t : Tree} {s : List UInt8} : isDir t s ↔ s ≠ [] ∧ ∃ x ∈ t, underP x.p s := by
  unfold isDir
  constructor
  · rintro ⟨x, hx, h⟩
    obtain ⟨h1, h2⟩ := (mem_dirs _ x.p s (Nat.le_refl _)).1 h
    exact ⟨h1, x, hx, h2⟩
  · rintro ⟨h1, x, hx, h2⟩
    exact ⟨x, hx, (mem_dirs _ x.p s (Nat.le_refl _)).2 ⟨h1, h2⟩⟩
theorem bl_pre : ∀ (d s : List UInt8), d.length < s.length → s.take d.length = d → bLt d s
  | [], [], h, _ => by simp at h
  | [], y :: s, _, _ => bl_nil_cons
  | x :: d, [], h, _ => by simp at h
  | x :: d, y :: s, h, k => by
    simp only [List.length_cons, List.take_succ_cons, List.cons.injEq] at k
    exact bl_cons.2 (Or.inr ⟨k.1.symm, bl_pre d s (by simpa using h) k.2⟩)
theorem right_ne {s : List UInt8} (h : rightP s) : s ≠ [] := by
  rintro rfl
  have := h.1 [] (by simp [parts])
  exact this.2.1 rfl
/-- By pairs. -/
def pairsT (t : Tree) : Prop := (∀ i (h : i < t.length), rightP t[i].p ∧ t[i].b.length ≤ 65536 ∧ ∀ k (hk : k < i), bLt (t[k]'(by omega)).p t[i].p ∧ ¬ ((t[k]'(by omega)).p = [] ∨ underP t[i].p (t[k]'(by omega)).p)) ∧ t.length ≤ 1000
theorem sorted_pairs {t : Tree} (h : ∀ i (h : i < t.length) (h0 : 0 < i), bLt (t[i - 1]'(by omega)).p t[i].p) : ∀ (d k : Nat) (hi : k + d + 1 < t.length), bLt (t[k]'(by omega)).p (t[k + d + 1]).p
  | 0, k, hi => by
    have := h (k + 0 + 1) hi (by omega)
    exact this
  | d + 1, k, hi => by
    have h1 := sorted_pairs h d k (by omega)
    have h2 := h (k + (d + 1) + 1) hi (by omega)
    exact bl_trans h1 h2
theorem right_pairs {t : Tree} : rightT t ↔ pairsT t := by
  constructor
  · rintro ⟨h1, h2, h3⟩
    refine ⟨fun i h => ⟨(h2 i h).1, (h2 i h).2.2, fun k hk => ⟨?_, ?_⟩⟩, h1⟩
    · have := sorted_pairs (fun i h h0 => (h2 i h).2.1 h0) (i - k - 1) k (by omega)
      have e : k + (i - k - 1) + 1 = i := by omega
      simpa only [e] using this
    · rintro (q | q)
      · exact right_ne (h2 k (by omega)).1 q
      · exact h3 ⟨t[k]'(by omega), List.getElem_mem _, isDir_iff.2 ⟨right_ne (h2 k (by omega)).1, t[i], List.getElem_mem _, q⟩⟩
  · rintro ⟨h1, h2⟩
    refine ⟨h2, fun i h => ⟨(h1 i h).1, fun h0 => ((h1 i h).2.2 (i - 1) (by omega)).1, (h1 i h).2.1⟩, ?_⟩
    rintro ⟨x, hx, hd⟩
    obtain ⟨hne, y, hy, hu⟩ := isDir_iff.1 hd
    obtain ⟨k, hk, rfl⟩ := List.mem_iff_getElem.1 hx
    obtain ⟨i, hi, rfl⟩ := List.mem_iff_getElem.1 hy
    rcases Nat.lt_trichotomy k i with q | q | q
    · exact ((h1 i hi).2.2 k q).2 (Or.inr hu)
    · subst q; exact Nat.lt_irrefl _ hu.1
    · exact bl_asymm ((h1 k hk).2.2 i q).1 (bl_pre _ _ hu.1 hu.2.1)
theorem parts_none {c : UInt8} : ∀ {l : List UInt8}, c ∉ l → parts c l = [l]
  | [], _ => rfl
  | x :: l, h => by
    have h1 : x ≠ c := fun q => h (by simp [q])
    have h2 : c ∉ l := fun q => h (by simp [q])
    simp [parts, h1, parts_none h2]
theorem parts_at {c : UInt8} : ∀ {l : List UInt8} {j : Nat}, c ∉ l.take j → l[j]? = some c → parts c l = l.take j :: parts c (l.drop (j + 1))
  | [], j, _, h => by simp at h
  | x :: l, 0, _, h => by
    have h1 : x = c := by simpa using h
    simp [parts, h1]
  | x :: l, j + 1, h, k => by
    have h1 : x ≠ c := fun q => h (by simp [q])
    have h2 : c ∉ l.take j := fun q => h (by simp [q])
    have := parts_at h2 (by simpa using k)
    simp [parts, h1, this]
end Go.Proofs.YtafcaigjijajnaaDoor
