/-
  What is known of histories.
-/
import Derived.Test.YtkdcmdcdjnmkaaaDoorFacts
import Derived.Test.YtkdcmdcdjnmkaaaDoorHistS
namespace Go.Proofs.YtkdcmdcdjnmkaaaDoor
open Go Go.Eng Go.RowKit Go.Proofs
set_option linter.unusedVariables false
set_option linter.unusedSimpArgs false
set_option maxHeartbeats 2000000

theorem ext_mv {Z : Nat → Prop} {w w1 w2 : World} (h : Ext w w1) (hM : Mv Z w1 w2) (hZ : ∀ b, Z b → w.heap.size ≤ b) : Ext w w2 :=
  ⟨hM.os.trans h.os, hM.tape.trans h.tape, hM.output.trans h.output, Nat.le_trans h.size hM.size, fun k hk => (hM.block k (Nat.lt_of_lt_of_le hk h.size) (fun q => by have := hZ k q; omega)).trans (h.block k hk)⟩
theorem new_spec2 {A : Option Addr} {cap : Nat} {t : Tree} {w : World} {G : Nat → Prop} (hG : ∀ b, G b → b < w.heap.size) (hrow : fiT.Row w G A t) (hl : t.length * 40 ≤ 140737488355328) :
    Calls Tryd.prog 11 #[.slice A t.length cap] w (fun en w' => ∃ v, en = .returned v ∧ ∃ pv, v = .tuple #[pv, .int .i64 (if rightT t then 0 else 2)] ∧ (rightT t → ∃ p, pv = hp p ∧ Hist p (since w w') w' [⟨[], t⟩]) ∧ Ext w w') := by
  refine (new_spec (cap := cap) hG hrow hl).mono ?_
  rintro en w' ⟨v, rfl, hE, ⟨hr, p, rfl, hH⟩ | ⟨hr, rfl⟩⟩
  · exact ⟨_, rfl, _, by rw [if_pos hr], fun _ => ⟨p, rfl, hH⟩, hE⟩
  · exact ⟨_, rfl, _, by rw [if_neg hr], fun q => absurd q hr, hE⟩
theorem right_nil : rightT [] := ⟨by simp, fun i h => absurd h (by simp), fun ⟨x, hx, _⟩ => by simp at hx⟩
theorem right_a : rightT [⟨[97], []⟩] := by
  refine ⟨by simp, fun i h => ?_, ?_⟩
  · obtain rfl : i = 0 := by simp at h; omega
    exact ⟨by show rightP [97]; decide, fun h0 => absurd h0 (Nat.lt_irrefl _), by simp⟩
  · rintro ⟨x, hx, y, hy, hd⟩
    rw [List.mem_singleton.1 hx, List.mem_singleton.1 hy] at hd
    have : dirP [97] = [] := by decide
    rw [this, dirs_nil] at hd
    cases hd
theorem known_apply : applyT [] [⟨1, [97], []⟩] = (0, [⟨[97], []⟩]) := by
  have hs : stepT [] ⟨1, [97], []⟩ = (0, [⟨[97], []⟩]) := by
    rw [st0 (fun q => q.elim (fun q => absurd q (by decide)) (fun q => q.elim (fun q => absurd q (by decide)) (fun q => q (by show rightP [97]; decide)))) (by decide) ⟨fun _ => by decide, fun _ => rfl⟩]
    rfl
  refine ap0 ?_ ?_ right_a
  · rw [run_cons0 (by rw [hs])]; rw [hs]; rfl
  · rintro (q | ⟨x, hx, q⟩)
    · simp at q
    · rw [List.mem_singleton.1 hx] at q; simp at q
theorem known_commit : commitR [⟨[], []⟩] [⟨1, [97], []⟩] = ([⟨[], []⟩, ⟨[⟨1, [97], []⟩], [⟨[97], []⟩]⟩], 1, 0) := by
  have h : headT [⟨[], []⟩] = [] := rfl
  rw [c_ok (by simp) (by simp) (by rw [h, known_apply]), h, known_apply]
  rfl
theorem known_spec (w : World) :
    Calls Tryd.prog 10 #[] w (fun en w' => ∃ v, en = .returned v ∧ v = .bool (decide True) ∧ Ext w w') := by
  have hnew : ∀ W, Calls Tryd.prog 11 #[.slice none 0 0] W (fun en w' => ∃ v, en = .returned v ∧ ∃ p, v = .tuple #[hp p, .int .i64 0] ∧ Hist p (since W w') w' [⟨[], []⟩] ∧ Ext W w') := fun W => by
    refine (new_spec (A := none) (cap := 0) (t := []) (w := W) (G := fun _ => False) (fun _ q => q.elim) (Or.inl rfl) (by simp)).mono ?_
    rintro en w' ⟨v, rfl, hE, ⟨hr, p, rfl, hH⟩ | ⟨hr, rfl⟩⟩
    · exact ⟨_, rfl, p, rfl, hH, hE⟩
    · exact absurd right_nil hr
  refine calls' (n := 42) (rs := #[.tmp 0]) (l := []) Tryd.func10 rfl rfl rfl rfl rfl ?_
  have hX := Ext.refl w
  refine W_seq ?_
  refine W_region ?_
  refine op rfl (r_assignV (v := .bool _) rfl) ?_
  refine WL_nil ?_
  refine W_seq ?_
  refine W_region ?_
  refine opCv rfl (r_call Tryd.func11 Tryd.nm11 rfl) (hnew _) ?_
  rintro v1 w1 ⟨p, rfl, hH, hE⟩
  replace hX := hX.trans hE
  refine op rfl (r_moveV (v := .tuple #[hp p, .int .i64 0]) rfl) ?_
  refine op rfl (r_extract (vs := [hp p, .int .i64 0]) rfl rfl) ?_
  refine op rfl (r_extract (vs := [hp p, .int .i64 0]) rfl rfl) ?_
  refine op rfl (r_assignV (v := hp p) rfl) ?_
  refine op rfl (r_assignV (v := .int .i64 0) rfl) ?_
  refine WL_nil ?_
  refine W_seq ?_
  refine W_region ?_
  refine op rfl (r_moveV (v := hp p) rfl) ?_
  refine op rfl (r_build (cs := [.int .i64 1, .string (str [97]), .slice none 0 0]) Tryd.lay36 (fun q hq => by rcases List.mem_cons.1 hq with rfl | hq <;> first | rfl | (rw [List.mem_singleton.1 hq]; rfl)) rfl rfl) ?_
  refine op_newS rfl (r_buildRows (vs := [[.int .i64 1, .string (str [97]), .slice none 0 0]]) Tryd.underlying33 Tryd.sz36 Tryd.zero36 rfl rfl rfl) ?_
  intro w2 b2 E2 B2 L2
  have hX1 := hX
  replace hX := hX.trans E2
  have hdr : dlT.Row w2 (fun k => k = b2) (some ⟨b2, 0, none⟩) [⟨1, [97], []⟩] := Blk.row B2 rfl (fun i hi => by
    obtain rfl : i = 0 := by simp at hi; omega
    exact ⟨_, dl_mk (x := ⟨1, [97], []⟩) (A := none) (c := 0) (by decide) (by simp) (by simp) (by simp) (Or.inl rfl), fun j hj => by simp⟩)
  refine opCv rfl (r_call Tryd.func12 Tryd.nm12 rfl) (commit_spec (cd := 1) (hH.ext E2) (ds := [⟨1, [97], []⟩]) (G := fun k ↦ k = b2) (fun k hk ↦ by subst hk; exact ⟨Blk.lt B2, fun q ↦ by have := q.2; omega⟩) hdr (by simp)) ?_
  rintro v3 w3 ⟨hv, hH2, hM⟩
  rw [known_commit] at hv hH2
  subst hv
  replace hX : Ext w w3 := ext_mv hX hM (fun b hb => by have := hb.1; omega)
  refine op rfl (r_moveV (v := .tuple #[.int .i64 1, .int .i64 0]) rfl) ?_
  refine op rfl (r_extract (vs := [.int .i64 1, .int .i64 0]) rfl rfl) ?_
  refine op rfl (r_extract (vs := [.int .i64 1, .int .i64 0]) rfl rfl) ?_
  refine op rfl (r_assignV (v := .int .i64 1) rfl) ?_
  refine op rfl (r_assignV (v := .int .i64 0) rfl) ?_
  refine WL_nil ?_
  refine W_seq ?_
  refine W_region ?_
  refine op rfl (r_assignV (v := .pointer _) rfl) ?_
  refine WL_nil ?_
  refine W_seq ?_
  refine W_region ?_
  refine op rfl (r_moveV (v := .int .i64 0) rfl) ?_
  refine op rfl (r_eql rfl rfl) ?_
  refine op_true rfl (r_moveV (v := .bool (decide _)) rfl) (rfl) ?_
  refine opG_yes rfl rfl rfl rfl rfl (r_moveV (v := .int .i64 0) rfl) ?_
  refine opG_yes rfl rfl rfl rfl rfl (r_eql rfl rfl) ?_
  refine op rfl (r_pickTV (v := .bool _) rfl rfl) ?_
  refine op_true rfl (r_moveV (v := .bool (decide _)) rfl) (rfl) ?_
  refine opG_yes rfl rfl rfl rfl rfl (r_moveV (v := .int .i64 1) rfl) ?_
  refine opG_yes rfl rfl rfl rfl rfl (r_eql rfl rfl) ?_
  refine op rfl (r_pickTV (v := .bool _) rfl rfl) ?_
  refine op_true rfl (r_moveV (v := .bool (decide _)) rfl) (rfl) ?_
  refine opG_yes rfl rfl rfl rfl rfl (r_moveV (v := hp p) rfl) ?_
  refine opGCv_yes rfl rfl rfl rfl rfl (r_call Tryd.func13 Tryd.nm13 rfl) (last_spec hH2 [97]) ?_
  rintro v4 w4 ⟨rfl, hE⟩
  replace hX := hX.trans hE
  replace hH2 := hH2.ext hE
  refine opG_yes rfl rfl rfl rfl rfl (r_eql rfl rfl) ?_
  refine op rfl (r_pickTV (v := .bool _) rfl rfl) ?_
  refine op_true rfl (r_moveV (v := .bool (decide _)) rfl) (by decide) ?_
  refine opG_yes rfl rfl rfl rfl rfl (r_moveV (v := hp p) rfl) ?_
  refine opGCv_yes rfl rfl rfl rfl rfl (r_call Tryd.func13 Tryd.nm13 rfl) (last_spec hH2 [98]) ?_
  rintro v5 w5 ⟨rfl, hE⟩
  replace hX := hX.trans hE
  refine opG_yes rfl rfl rfl rfl rfl (r_eql rfl rfl) ?_
  refine op rfl (r_pickTV (v := .bool _) rfl rfl) ?_
  refine op_true rfl (r_moveV (v := .bool (decide _)) rfl) (by decide) ?_
  refine opG_yes rfl rfl rfl rfl rfl (r_moveV (v := .pointer _) rfl) ?_
  refine opGCv_yes rfl rfl rfl rfl rfl (r_call Tryd.func15 Tryd.nm15 rfl) (headNil_spec _) ?_
  rintro v6 w6 ⟨rfl, hE⟩
  replace hX := hX.trans hE
  refine opG_yes rfl rfl rfl rfl rfl (r_eql rfl rfl) ?_
  refine op rfl (r_pickTV (v := .bool _) rfl rfl) ?_
  refine op rfl (r_assignV (v := .bool _) rfl) ?_
  refine WL_nil ?_
  refine W_ret (finX_ret ?_)
  refine fin1 ?_
  exact ⟨_, rfl, bool_iff (by decide), hX⟩
end Go.Proofs.YtkdcmdcdjnmkaaaDoor
