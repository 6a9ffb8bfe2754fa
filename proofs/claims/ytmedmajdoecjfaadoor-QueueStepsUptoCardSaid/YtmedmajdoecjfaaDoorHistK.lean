/-
  What is known of histories.
-/
import Derived.Test.YtmedmajdoecjfaaDoorFacts
import Derived.Test.YtmedmajdoecjfaaDoorHistS
namespace Go.Proofs.YtmedmajdoecjfaaDoor
open Go Go.Eng Go.RowKit Go.Proofs
set_option linter.unusedVariables false
set_option linter.unusedSimpArgs false
set_option maxHeartbeats 2000000

theorem ext_mv {Z : Nat → Prop} {w w1 w2 : World} (h : Ext w w1) (hM : Mv Z w1 w2) (hZ : ∀ b, Z b → w.heap.size ≤ b) : Ext w w2 :=
  ⟨hM.os.trans h.os, hM.tape.trans h.tape, hM.output.trans h.output, Nat.le_trans h.size hM.size, fun k hk => (hM.block k (Nat.lt_of_lt_of_le hk h.size) (fun q => by have := hZ k q; omega)).trans (h.block k hk)⟩
theorem new_spec2 {A : Option Addr} {cap : Nat} {t : Tree} {w : World} {G : Nat → Prop} (hG : ∀ b, G b → b < w.heap.size) (hrow : fiT.Row w G A t) (hl : t.length * 40 ≤ 140737488355328) :
    Calls Tryd.prog 13 #[.slice A t.length cap] w (fun en w' => ∃ v, en = .returned v ∧ ∃ pv, v = .tuple #[pv, .int .i64 (if rightT t then 0 else 2)] ∧ (rightT t → ∃ p, pv = hp p ∧ Hist p (since w w') w' [⟨[], t⟩]) ∧ Ext w w') := by
  refine (new_spec (cap := cap) hG hrow hl).mono ?_; rintro en w' ⟨v, rfl, hE, ⟨hr, p, rfl, hH⟩ | ⟨hr, rfl⟩⟩
  · exact ⟨_, rfl, _, by rw [if_pos hr], fun _ => ⟨p, rfl, hH⟩, hE⟩
  · exact ⟨_, rfl, _, by rw [if_neg hr], fun q => absurd q hr, hE⟩
theorem right_nil : rightT [] := ⟨by simp, fun i h => absurd h (by simp), fun ⟨x, hx, _⟩ => by simp at hx⟩
theorem right_a : rightT [⟨[97], []⟩] := by
  refine ⟨by simp, fun i h => ?_, ?_⟩
  · obtain rfl : i = 0 := by simp at h; omega
    exact ⟨by show rightP [97]; decide, fun h0 => absurd h0 (Nat.lt_irrefl _), by simp⟩
  · rintro ⟨x, hx, y, hy, hd⟩
    rw [List.mem_singleton.1 hx, List.mem_singleton.1 hy] at hd
    have : dirP [97] = [] := by decide
    rw [this, dirs_nil] at hd
    cases hd
theorem known_apply : applyT [] [⟨1, [97], []⟩] = (0, [⟨[97], []⟩]) := by
  have hs : stepT [] ⟨1, [97], []⟩ = (0, [⟨[97], []⟩]) := by
    rw [st0 (fun q => q.elim (fun q => absurd q (by decide)) (fun q => q.elim (fun q => absurd q (by decide)) (fun q => q (by show rightP [97]; decide)))) (by decide) ⟨fun _ => by decide, fun _ => rfl⟩]
    rfl
  refine ap0 ?_ ?_ right_a
  · rw [run_cons0 (by rw [hs])]; rw [hs]; rfl
  · rintro (q | ⟨x, hx, q⟩)
    · simp at q
    · rw [List.mem_singleton.1 hx] at q; simp at q
theorem known_commit : commitR [⟨[], []⟩] [⟨1, [97], []⟩] = ([⟨[], []⟩, ⟨[⟨1, [97], []⟩], [⟨[97], []⟩]⟩], 1, 0) := by
  have h : headT [⟨[], []⟩] = [] := rfl; rw [c_ok (by simp) (by simp) (by rw [h, known_apply]), h, known_apply]
  rfl
theorem hist_len {p : Nat} {Z : Nat → Prop} {w : World} {H : List Rv} (h : Hist p Z w H) : 1 ≤ H.length ∧ H.length ≤ 100001 := by
  obtain ⟨m, v, F, h1, _⟩ := h; exact ⟨List.length_pos_iff.2 h1.ne, h1.sm⟩
theorem dl_pl {A : Option Addr} {t : List Dl} {w : World} {G : Nat → Prop} (hrow : dlT.Row w G A t) : ∀ i (h : i < t.length), t[i].p.length ≤ 140737488355328 := fun i h => by
  obtain ⟨g, off, xs, hA, _, hx, hc⟩ := hrow.cells h; obtain ⟨Ai, ci, rfl, _, _, _, h1, _⟩ := dl_cells hx; exact h1
theorem hist_ok {p : Nat} {Z : Nat → Prop} {w : World} {H : List Rv} (h : Hist p Z w H) : ∀ r ∈ H, RvOk r := by
  obtain ⟨m, v, F, h1, _⟩ := h; exact h1.ok
end Go.Proofs.YtmedmajdoecjfaaDoor
