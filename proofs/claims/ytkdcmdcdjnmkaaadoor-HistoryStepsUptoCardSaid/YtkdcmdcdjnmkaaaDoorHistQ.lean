/-
  What chapter 03's laws share: the guard, what is known.
-/
import Derived.Test.YtkdcmdcdjnmkaaaDoorFacts
import Derived.Test.YtkdcmdcdjnmkaaaDoorHistK
namespace Go.Proofs.YtkdcmdcdjnmkaaaDoor
open Go Go.Eng Go.RowKit Go.Proofs
set_option linter.unusedVariables false
set_option linter.unusedSimpArgs false
set_option maxHeartbeats 2000000

theorem small_spec {A : Option Addr} {cap : Nat} {t : Tree} {Al : Option Addr} {cl : Nat} {l : List (List Dl)} {w : World} (hrow : fiT.Row w (old w) A t) (hl : t.length ≤ 140737488355328) (hrowl : dlsT.Row w (old w) Al l) (hll : l.length ≤ 140737488355328) :
    Calls Tryd.prog 9 #[.slice A t.length cap, .slice Al l.length cl] w (fun en w' => ∃ v, en = .returned v ∧ ∃ q : Prop, ∃ dq : Decidable q, v = .bool (@decide q dq) ∧ (q → t.length ≤ 30 ∧ l.length ≤ 25) ∧ Ext w w') := by
  refine calls' (n := 23) (rs := #[.tmp 4]) (l := [.slice A t.length cap, .slice Al l.length cl]) Tryd.func9 rfl rfl rfl rfl rfl ?_
  have hX := Ext.refl w
  refine W_seq ?_
  refine W_region ?_
  refine op rfl (r_assignV (v := .bool _) rfl) ?_
  refine WL_nil ?_
  refine W_seq ?_
  refine W_region ?_
  refine op rfl (r_moveV (v := .slice _ _ _) rfl) ?_
  refine op rfl (r_len_slice rfl Tryd.underlying23) ?_
  refine op rfl (r_leq rfl rfl) ?_
  refine op_split rfl (r_moveV (v := .bool (decide _)) rfl) (fun hg8 => ?_) (fun hg8 => ?_)
  · refine opG_yes rfl rfl rfl rfl rfl (r_moveV (v := .slice _ _ _) rfl) ?_
    refine opGCv_yes rfl rfl rfl rfl rfl (r_call Tryd.func30 Tryd.nm30 rfl) (long_spec (hrow.ext hX) hl) ?_
    rintro v2 w2 ⟨n2, rfl, hE⟩
    replace hX := hX.trans hE
    refine opG_yes rfl rfl rfl rfl rfl (r_leq rfl rfl) ?_
    refine op rfl (r_pickTV (v := .bool _) rfl rfl) ?_
    refine op_split rfl (r_moveV (v := .bool (decide _)) rfl) (fun hg13 => ?_) (fun hg13 => ?_)
    · refine opG_yes rfl rfl rfl rfl rfl (r_moveV (v := .slice _ _ _) rfl) ?_
      refine opG_yes rfl rfl rfl rfl rfl (r_len_slice rfl Tryd.underlying24) ?_
      refine opG_yes rfl rfl rfl rfl rfl (r_leq rfl rfl) ?_
      refine op rfl (r_pickTV (v := .bool _) rfl rfl) ?_
      refine op_split rfl (r_moveV (v := .bool (decide _)) rfl) (fun hg18 => ?_) (fun hg18 => ?_)
      · refine opG_yes rfl rfl rfl rfl rfl (r_moveV (v := .slice _ _ _) rfl) ?_
        refine opGCv_yes rfl rfl rfl rfl rfl (r_call Tryd.func31 Tryd.nm31 rfl) (longL_spec (hrowl.ext hX) hll) ?_
        rintro v3 w3 ⟨n3, rfl, hE⟩
        replace hX := hX.trans hE
        refine opG_yes rfl rfl rfl rfl rfl (r_leq rfl rfl) ?_
        refine op rfl (r_pickTV (v := .bool _) rfl rfl) ?_
        refine op rfl (r_assignV (v := .bool _) rfl) ?_
        refine WL_nil ?_
        refine W_ret (finX_ret ?_)
        refine fin1 ?_
        first
          | exact ⟨_, rfl, False, inferInstance, rfl, fun q => q.elim, hX⟩
          | exact ⟨_, rfl, _, _, rfl, fun _ => ⟨by omega, by omega⟩, hX⟩
      · refine opG_no rfl rfl rfl rfl rfl ?_
        refine opG_no rfl rfl rfl rfl rfl ?_
        refine opG_no rfl rfl rfl rfl rfl ?_
        refine op rfl (r_pickFV (v := .bool _) rfl rfl) ?_
        refine op rfl (r_assignV (v := .bool _) rfl) ?_
        refine WL_nil ?_
        refine W_ret (finX_ret ?_)
        refine fin1 ?_
        first
          | exact ⟨_, rfl, False, inferInstance, rfl, fun q => q.elim, hX⟩
          | exact ⟨_, rfl, _, _, rfl, fun _ => ⟨by omega, by omega⟩, hX⟩
    · refine opG_no rfl rfl rfl rfl rfl ?_
      refine opG_no rfl rfl rfl rfl rfl ?_
      refine opG_no rfl rfl rfl rfl rfl ?_
      refine op rfl (r_pickFV (v := .bool _) rfl rfl) ?_
      refine op rfl (r_moveV (v := .bool _) rfl) ?_
      refine opG_no rfl rfl rfl rfl rfl ?_
      refine opG_no rfl rfl rfl rfl rfl ?_
      refine opG_no rfl rfl rfl rfl rfl ?_
      refine op rfl (r_pickFV (v := .bool _) rfl rfl) ?_
      refine op rfl (r_assignV (v := .bool _) rfl) ?_
      refine WL_nil ?_
      refine W_ret (finX_ret ?_)
      refine fin1 ?_
      first
        | exact ⟨_, rfl, False, inferInstance, rfl, fun q => q.elim, hX⟩
        | exact ⟨_, rfl, _, _, rfl, fun _ => ⟨by omega, by omega⟩, hX⟩
  · refine opG_no rfl rfl rfl rfl rfl ?_
    refine opG_no rfl rfl rfl rfl rfl ?_
    refine opG_no rfl rfl rfl rfl rfl ?_
    refine op rfl (r_pickFV (v := .bool _) rfl rfl) ?_
    refine op rfl (r_moveV (v := .bool _) rfl) ?_
    refine opG_no rfl rfl rfl rfl rfl ?_
    refine opG_no rfl rfl rfl rfl rfl ?_
    refine opG_no rfl rfl rfl rfl rfl ?_
    refine op rfl (r_pickFV (v := .bool _) rfl rfl) ?_
    refine op rfl (r_moveV (v := .bool _) rfl) ?_
    refine opG_no rfl rfl rfl rfl rfl ?_
    refine opG_no rfl rfl rfl rfl rfl ?_
    refine opG_no rfl rfl rfl rfl rfl ?_
    refine op rfl (r_pickFV (v := .bool _) rfl rfl) ?_
    refine op rfl (r_assignV (v := .bool _) rfl) ?_
    refine WL_nil ?_
    refine W_ret (finX_ret ?_)
    refine fin1 ?_
    first
      | exact ⟨_, rfl, False, inferInstance, rfl, fun q => q.elim, hX⟩
      | exact ⟨_, rfl, _, _, rfl, fun _ => ⟨by omega, by omega⟩, hX⟩
theorem known_spec (w : World) :
    Calls Tryd.prog 10 #[] w (fun en w' => ∃ v, en = .returned v ∧ v = .bool (decide True) ∧ Ext w w') := by
  have hnew : ∀ W, Calls Tryd.prog 11 #[.slice none 0 0] W (fun en w' => ∃ v, en = .returned v ∧ ∃ p, v = .tuple #[hp p, .int .i64 0] ∧ Hist p (since W w') w' [⟨[], []⟩] ∧ Ext W w') := fun W => by
    refine (new_spec (A := none) (cap := 0) (t := []) (w := W) (G := fun _ => False) (fun _ q => q.elim) (Or.inl rfl) (by simp)).mono ?_
    rintro en w' ⟨v, rfl, hE, ⟨hr, p, rfl, hH⟩ | ⟨hr, rfl⟩⟩
    · exact ⟨_, rfl, p, rfl, hH, hE⟩
    · exact absurd right_nil hr
  refine calls' (n := 42) (rs := #[.tmp 0]) (l := []) Tryd.func10 rfl rfl rfl rfl rfl ?_
  have hX := Ext.refl w
  refine W_seq ?_
  refine W_region ?_
  refine op rfl (r_assignV (v := .bool _) rfl) ?_
  refine WL_nil ?_
  refine W_seq ?_
  refine W_region ?_
  refine opCv rfl (r_call Tryd.func11 Tryd.nm11 rfl) (hnew _) ?_
  rintro v1 w1 ⟨p, rfl, hH, hE⟩
  replace hX := hX.trans hE
  refine op rfl (r_moveV (v := .tuple #[hp p, .int .i64 0]) rfl) ?_
  refine op rfl (r_extract (vs := [hp p, .int .i64 0]) rfl rfl) ?_
  refine op rfl (r_extract (vs := [hp p, .int .i64 0]) rfl rfl) ?_
  refine op rfl (r_assignV (v := hp p) rfl) ?_
  refine op rfl (r_assignV (v := .int .i64 0) rfl) ?_
  refine WL_nil ?_
  refine W_seq ?_
  refine W_region ?_
  refine op rfl (r_moveV (v := hp p) rfl) ?_
  refine op rfl (r_build (cs := [.int .i64 1, .string (str [97]), .slice none 0 0]) Tryd.lay36 (fun q hq => by rcases List.mem_cons.1 hq with rfl | hq <;> first | rfl | (rw [List.mem_singleton.1 hq]; rfl)) rfl rfl) ?_
  refine op_newS rfl (r_buildRows (vs := [[.int .i64 1, .string (str [97]), .slice none 0 0]]) Tryd.underlying33 Tryd.sz36 Tryd.zero36 rfl rfl rfl) ?_
  intro w2 b2 E2 B2 L2
  have hX1 := hX
  replace hX := hX.trans E2
  have hdr : dlT.Row w2 (fun k => k = b2) (some ⟨b2, 0, none⟩) [⟨1, [97], []⟩] := Blk.row B2 rfl (fun i hi => by
    obtain rfl : i = 0 := by simp at hi; omega
    exact ⟨_, dl_mk (x := ⟨1, [97], []⟩) (A := none) (c := 0) (by decide) (by simp) (by simp) (by simp) (Or.inl rfl), fun j hj => by simp⟩)
  refine opCv rfl (r_call Tryd.func12 Tryd.nm12 rfl) (commit_spec (cd := 1) (hH.ext E2) (ds := [⟨1, [97], []⟩]) (G := fun k ↦ k = b2) (fun k hk ↦ by subst hk; exact ⟨Blk.lt B2, fun q ↦ by have := q.2; omega⟩) hdr (by simp)) ?_
  rintro v3 w3 ⟨hv, hH2, hM⟩
  rw [known_commit] at hv hH2
  subst hv
  replace hX : Ext w w3 := ext_mv hX hM (fun b hb => by have := hb.1; omega)
  refine op rfl (r_moveV (v := .tuple #[.int .i64 1, .int .i64 0]) rfl) ?_
  refine op rfl (r_extract (vs := [.int .i64 1, .int .i64 0]) rfl rfl) ?_
  refine op rfl (r_extract (vs := [.int .i64 1, .int .i64 0]) rfl rfl) ?_
  refine op rfl (r_assignV (v := .int .i64 1) rfl) ?_
  refine op rfl (r_assignV (v := .int .i64 0) rfl) ?_
  refine WL_nil ?_
  refine W_seq ?_
  refine W_region ?_
  refine op rfl (r_assignV (v := .pointer _) rfl) ?_
  refine WL_nil ?_
  refine W_seq ?_
  refine W_region ?_
  refine op rfl (r_moveV (v := .int .i64 0) rfl) ?_
  refine op rfl (r_eql rfl rfl) ?_
  refine op_true rfl (r_moveV (v := .bool (decide _)) rfl) (rfl) ?_
  refine opG_yes rfl rfl rfl rfl rfl (r_moveV (v := .int .i64 0) rfl) ?_
  refine opG_yes rfl rfl rfl rfl rfl (r_eql rfl rfl) ?_
  refine op rfl (r_pickTV (v := .bool _) rfl rfl) ?_
  refine op_true rfl (r_moveV (v := .bool (decide _)) rfl) (rfl) ?_
  refine opG_yes rfl rfl rfl rfl rfl (r_moveV (v := .int .i64 1) rfl) ?_
  refine opG_yes rfl rfl rfl rfl rfl (r_eql rfl rfl) ?_
  refine op rfl (r_pickTV (v := .bool _) rfl rfl) ?_
  refine op_true rfl (r_moveV (v := .bool (decide _)) rfl) (rfl) ?_
  refine opG_yes rfl rfl rfl rfl rfl (r_moveV (v := hp p) rfl) ?_
  refine opGCv_yes rfl rfl rfl rfl rfl (r_call Tryd.func13 Tryd.nm13 rfl) (last_spec hH2 [97]) ?_
  rintro v4 w4 ⟨rfl, hE⟩
  replace hX := hX.trans hE
  replace hH2 := hH2.ext hE
  refine opG_yes rfl rfl rfl rfl rfl (r_eql rfl rfl) ?_
  refine op rfl (r_pickTV (v := .bool _) rfl rfl) ?_
  refine op_true rfl (r_moveV (v := .bool (decide _)) rfl) (by decide) ?_
  refine opG_yes rfl rfl rfl rfl rfl (r_moveV (v := hp p) rfl) ?_
  refine opGCv_yes rfl rfl rfl rfl rfl (r_call Tryd.func13 Tryd.nm13 rfl) (last_spec hH2 [98]) ?_
  rintro v5 w5 ⟨rfl, hE⟩
  replace hX := hX.trans hE
  refine opG_yes rfl rfl rfl rfl rfl (r_eql rfl rfl) ?_
  refine op rfl (r_pickTV (v := .bool _) rfl rfl) ?_
  refine op_true rfl (r_moveV (v := .bool (decide _)) rfl) (by decide) ?_
  refine opG_yes rfl rfl rfl rfl rfl (r_moveV (v := .pointer _) rfl) ?_
  refine opGCv_yes rfl rfl rfl rfl rfl (r_call Tryd.func15 Tryd.nm15 rfl) (headNil_spec _) ?_
  rintro v6 w6 ⟨rfl, hE⟩
  replace hX := hX.trans hE
  refine opG_yes rfl rfl rfl rfl rfl (r_eql rfl rfl) ?_
  refine op rfl (r_pickTV (v := .bool _) rfl rfl) ?_
  refine op rfl (r_assignV (v := .bool _) rfl) ?_
  refine WL_nil ?_
  refine W_ret (finX_ret ?_)
  refine fin1 ?_
  exact ⟨_, rfl, bool_iff (by decide), hX⟩
end Go.Proofs.YtkdcmdcdjnmkaaaDoor
