/-
  A request that passes lands just if nothing of it was changed behind its base: the walk.
-/
import Derived.Test.YtmedmajdoecjfaaDoorFacts
import Derived.Test.YtmedmajdoecjfaaDoorQueH
import Derived.Test.YtmedmajdoecjfaaDoorLong
import Derived.Test.YtmedmajdoecjfaaDoorRefY
import Derived.Test.YtmedmajdoecjfaaDoorKept
namespace Go.Proofs.YtmedmajdoecjfaaDoor
open Go Go.Eng Go.RowKit Go.Proofs
set_option linter.unusedVariables false
set_option linter.unusedSimpArgs false
set_option maxHeartbeats 1000000
set_option maxRecDepth 20000

theorem conf {H : List Rv} {r : Rq} (h2 : H.length ≤ 100000) (hl : r.l.length ≠ 0) : ∃ a H', answerR H r true = (H', a) ∧ a.id = r.id ∧ (a.kind = 2 ↔ lateR H r) ∧ (¬ lateR H r → (a.kind = 1 ↔ (applyT (headT H) r.l).1 = 0)) ∧ (a.kind = 4 → a.e = (applyT (headT H) r.l).1) ∧ (a.kind ≠ 1 → H' = H) ∧ (a.kind = 1 → a.rev = H.length ∧ H' = H ++ [⟨r.l, (applyT (headT H) r.l).2⟩]) := by
  by_cases h : lateR H r
  · exact ⟨_, _, ans2 h, rfl, ⟨fun _ => h, fun _ => rfl⟩, fun q => absurd h q, fun q => absurd q (show ¬ (2 : Int) = 4 by decide), fun _ => rfl, fun q => absurd q (show ¬ (2 : Int) = 1 by decide)⟩
  · by_cases h3 : (applyT (headT H) r.l).1 = 0
    · have hc := c_ok hl (by omega) h3
      refine ⟨_, _, ans1 h (by decide) (by rw [hc]; simp), rfl, ⟨fun q => absurd q (show ¬ (1 : Int) = 2 by decide), fun q => absurd q h⟩, fun _ => ⟨fun _ => h3, fun _ => rfl⟩, fun q => absurd q (show ¬ (1 : Int) = 4 by decide), fun q => absurd rfl q, fun _ => ?_⟩
      rw [hc]; exact ⟨rfl, rfl⟩
    · have hc := c_err hl (by omega) h3
      refine ⟨_, _, ans4 h (by decide) (by rw [hc]; exact h3), rfl, ⟨fun q => absurd q (show ¬ (4 : Int) = 2 by decide), fun q => absurd q h⟩, fun _ => ⟨fun q => absurd q (show ¬ (4 : Int) = 1 by decide), fun q => absurd q h3⟩, fun _ => ?_, fun _ => ?_, fun q => absurd q (show ¬ (4 : Int) = 1 by decide)⟩
      · show (commitR H r.l).2.2 = _; rw [hc]
      · rw [hc]
abbrev cQ (H : List Rv) : Qs := ⟨H, [], 1, fun _ => none⟩
theorem c_sub {H : List Rv} {b : Int} {l : List Dl} (hb : 0 ≤ b ∧ b ≤ (H.length : Int) - 1) (hl : l.length ≠ 0) : submitR (cQ H) ⟨1, b, l⟩ = ({ cQ H with ws := [⟨1, b, l⟩], tk := setK (cQ H).tk 1 none }, 0) :=
  sub0 (fun k => k.elim (fun k => absurd k (show ¬ (1 : Int) < 1 by decide)) (fun k => hl k)) (fun k => k.elim (fun k => by have : b < 0 := k; omega) (fun k => by have : b > (H.length : Int) - 1 := k; omega)) (by simp) (by simp)
theorem queueConflicts_walk {At : Option Addr} {ct : Nat} {t : Tree} {Af : Option Addr} {cf : Nat} {fs : List (List Dl)} {kb : Int} {Al : Option Addr} {cl : Nat} {l : List Dl} {w : World} (ht : fiT.Row w (old w) At t) (htl : t.length ≤ 140737488355328) (hf : dlsT.Row w (old w) Af fs) (hfl : fs.length ≤ 140737488355328) (hkb : 0 ≤ kb ∧ kb ≤ 255) (hl : dlT.Row w (old w) Al l) (hll : l.length * 48 ≤ 140737488355328) :
    Calls Tryd.prog 5 #[.slice At t.length ct, .slice Af fs.length cf, .int .u8 kb, .slice Al l.length cl] w (fun en w' => ∃ v, en = .returned v ∧ v = .bool true ∧ Ext w w') := by
  have hlat := dl_atL hl
  refine calls' (n := 210) (rs := #[.tmp 8]) (l := [.slice At t.length ct, .slice Af fs.length cf, .int .u8 kb, .slice Al l.length cl]) Tryd.func5 rfl rfl rfl rfl rfl ?_
  have hX := Ext.refl w
  refine W_seq ?_
  refine W_region ?_
  refine op rfl (r_assignV (v := .bool _) rfl) ?_
  refine WL_nil ?_
  refine W_seq ?_
  refine W_seq ?_
  refine W_region ?_
  refine op rfl (r_moveV (v := .slice _ _ _) rfl) ?_
  refine op rfl (r_len_slice rfl Tryd.underlying23) ?_
  refine op rfl (r_gtr rfl rfl) ?_
  refine op_split rfl (r_moveV (v := .bool (decide _)) rfl) (fun hg30 => ?_) (fun hg30 => ?_)
  · refine opG_no rfl rfl rfl rfl rfl ?_
    refine opG_no rfl rfl rfl rfl rfl ?_
    refine opG_no rfl rfl rfl rfl rfl ?_
    refine op rfl (r_pickTV (v := .bool _) rfl rfl) ?_
    refine op rfl (r_moveV (v := .bool _) rfl) ?_
    refine opG_no rfl rfl rfl rfl rfl ?_
    refine opG_no rfl rfl rfl rfl rfl ?_
    refine opG_no rfl rfl rfl rfl rfl ?_
    refine op rfl (r_pickTV (v := .bool _) rfl rfl) ?_
    refine op rfl (r_moveV (v := .bool _) rfl) ?_
    refine opG_no rfl rfl rfl rfl rfl ?_
    refine opG_no rfl rfl rfl rfl rfl ?_
    refine opG_no rfl rfl rfl rfl rfl ?_
    refine op rfl (r_pickTV (v := .bool _) rfl rfl) ?_
    refine op rfl (r_moveV (v := .bool _) rfl) ?_
    refine opG_no rfl rfl rfl rfl rfl ?_
    refine opG_no rfl rfl rfl rfl rfl ?_
    refine opG_no rfl rfl rfl rfl rfl ?_
    refine op rfl (r_pickTV (v := .bool _) rfl rfl) ?_
    refine op rfl (r_moveV (v := .bool _) rfl) ?_
    refine opG_no rfl rfl rfl rfl rfl ?_
    refine opG_no rfl rfl rfl rfl rfl ?_
    refine opG_no rfl rfl rfl rfl rfl ?_
    refine op rfl (r_pickTV (v := .bool _) rfl rfl) ?_
    refine op rfl (r_moveV (v := .bool _) rfl) ?_
    refine opG_no rfl rfl rfl rfl rfl ?_
    refine opG_no rfl rfl rfl rfl rfl ?_
    refine opG_no rfl rfl rfl rfl rfl ?_
    refine op rfl (r_pickTV (v := .bool _) rfl rfl) ?_
    refine WL_nil ?_
    refine W_then rfl ?_
    refine W_seq ?_
    refine W_region ?_
    refine opCv rfl (r_call Tryd.func12 Tryd.nm12 rfl) (known13_spec _) ?_
    rintro v9 w9 ⟨rfl, hE⟩
    replace hX := hX.trans hE
    refine op rfl (r_assignV (v := .bool _) rfl) ?_
    refine WL_nil ?_
    refine W_ret (finX_ret ?_)
    refine fin1 ?_
    exact ⟨_, rfl, by first | rfl | exact (bool_tt trivial).symm, by first | exact hX | exact (hX22.trans hX27).trans hX | exact (hX22.trans hX31).trans hX⟩
  · refine opG_yes rfl rfl rfl rfl rfl (r_moveV (v := .slice _ _ _) rfl) ?_
    refine opGCv_yes rfl rfl rfl rfl rfl (r_call Tryd.func10 Tryd.nm10 rfl) (longF_spec (ht.ext hX) (by omega)) ?_
    rintro v1 w1 ⟨n1, rfl, hn1, hE⟩
    replace hX := hX.trans hE
    refine opG_yes rfl rfl rfl rfl rfl (r_gtr rfl rfl) ?_
    refine op rfl (r_pickFV (v := .bool _) rfl rfl) ?_
    refine op_split rfl (r_moveV (v := .bool (decide _)) rfl) (fun hg35 => ?_) (fun hg35 => ?_)
    · refine opG_no rfl rfl rfl rfl rfl ?_
      refine opG_no rfl rfl rfl rfl rfl ?_
      refine opG_no rfl rfl rfl rfl rfl ?_
      refine op rfl (r_pickTV (v := .bool _) rfl rfl) ?_
      refine op rfl (r_moveV (v := .bool _) rfl) ?_
      refine opG_no rfl rfl rfl rfl rfl ?_
      refine opG_no rfl rfl rfl rfl rfl ?_
      refine opG_no rfl rfl rfl rfl rfl ?_
      refine op rfl (r_pickTV (v := .bool _) rfl rfl) ?_
      refine op rfl (r_moveV (v := .bool _) rfl) ?_
      refine opG_no rfl rfl rfl rfl rfl ?_
      refine opG_no rfl rfl rfl rfl rfl ?_
      refine opG_no rfl rfl rfl rfl rfl ?_
      refine op rfl (r_pickTV (v := .bool _) rfl rfl) ?_
      refine op rfl (r_moveV (v := .bool _) rfl) ?_
      refine opG_no rfl rfl rfl rfl rfl ?_
      refine opG_no rfl rfl rfl rfl rfl ?_
      refine opG_no rfl rfl rfl rfl rfl ?_
      refine op rfl (r_pickTV (v := .bool _) rfl rfl) ?_
      refine op rfl (r_moveV (v := .bool _) rfl) ?_
      refine opG_no rfl rfl rfl rfl rfl ?_
      refine opG_no rfl rfl rfl rfl rfl ?_
      refine opG_no rfl rfl rfl rfl rfl ?_
      refine op rfl (r_pickTV (v := .bool _) rfl rfl) ?_
      refine WL_nil ?_
      refine W_then rfl ?_
      refine W_seq ?_
      refine W_region ?_
      refine opCv rfl (r_call Tryd.func12 Tryd.nm12 rfl) (known13_spec _) ?_
      rintro v9 w9 ⟨rfl, hE⟩
      replace hX := hX.trans hE
      refine op rfl (r_assignV (v := .bool _) rfl) ?_
      refine WL_nil ?_
      refine W_ret (finX_ret ?_)
      refine fin1 ?_
      exact ⟨_, rfl, by first | rfl | exact (bool_tt trivial).symm, by first | exact hX | exact (hX22.trans hX27).trans hX | exact (hX22.trans hX31).trans hX⟩
    · refine opG_yes rfl rfl rfl rfl rfl (r_moveV (v := .slice _ _ _) rfl) ?_
      refine opG_yes rfl rfl rfl rfl rfl (r_len_slice rfl Tryd.underlying52) ?_
      refine opG_yes rfl rfl rfl rfl rfl (r_gtr rfl rfl) ?_
      refine op rfl (r_pickFV (v := .bool _) rfl rfl) ?_
      refine op_split rfl (r_moveV (v := .bool (decide _)) rfl) (fun hg40 => ?_) (fun hg40 => ?_)
      · refine opG_no rfl rfl rfl rfl rfl ?_
        refine opG_no rfl rfl rfl rfl rfl ?_
        refine opG_no rfl rfl rfl rfl rfl ?_
        refine op rfl (r_pickTV (v := .bool _) rfl rfl) ?_
        refine op rfl (r_moveV (v := .bool _) rfl) ?_
        refine opG_no rfl rfl rfl rfl rfl ?_
        refine opG_no rfl rfl rfl rfl rfl ?_
        refine opG_no rfl rfl rfl rfl rfl ?_
        refine op rfl (r_pickTV (v := .bool _) rfl rfl) ?_
        refine op rfl (r_moveV (v := .bool _) rfl) ?_
        refine opG_no rfl rfl rfl rfl rfl ?_
        refine opG_no rfl rfl rfl rfl rfl ?_
        refine opG_no rfl rfl rfl rfl rfl ?_
        refine op rfl (r_pickTV (v := .bool _) rfl rfl) ?_
        refine op rfl (r_moveV (v := .bool _) rfl) ?_
        refine opG_no rfl rfl rfl rfl rfl ?_
        refine opG_no rfl rfl rfl rfl rfl ?_
        refine opG_no rfl rfl rfl rfl rfl ?_
        refine op rfl (r_pickTV (v := .bool _) rfl rfl) ?_
        refine WL_nil ?_
        refine W_then rfl ?_
        refine W_seq ?_
        refine W_region ?_
        refine opCv rfl (r_call Tryd.func12 Tryd.nm12 rfl) (known13_spec _) ?_
        rintro v9 w9 ⟨rfl, hE⟩
        replace hX := hX.trans hE
        refine op rfl (r_assignV (v := .bool _) rfl) ?_
        refine WL_nil ?_
        refine W_ret (finX_ret ?_)
        refine fin1 ?_
        exact ⟨_, rfl, by first | rfl | exact (bool_tt trivial).symm, by first | exact hX | exact (hX22.trans hX27).trans hX | exact (hX22.trans hX31).trans hX⟩
      · refine opG_yes rfl rfl rfl rfl rfl (r_moveV (v := .slice _ _ _) rfl) ?_
        refine opGCv_yes rfl rfl rfl rfl rfl (r_call Tryd.func20 Tryd.nm20 rfl) (longL_spec (hf.ext hX) hfl) ?_
        rintro v2 w2 ⟨n2, rfl, hE⟩
        replace hX := hX.trans hE
        refine opG_yes rfl rfl rfl rfl rfl (r_gtr rfl rfl) ?_
        refine op rfl (r_pickFV (v := .bool _) rfl rfl) ?_
        refine op_split rfl (r_moveV (v := .bool (decide _)) rfl) (fun hg45 => ?_) (fun hg45 => ?_)
        · refine opG_no rfl rfl rfl rfl rfl ?_
          refine opG_no rfl rfl rfl rfl rfl ?_
          refine opG_no rfl rfl rfl rfl rfl ?_
          refine op rfl (r_pickTV (v := .bool _) rfl rfl) ?_
          refine op rfl (r_moveV (v := .bool _) rfl) ?_
          refine opG_no rfl rfl rfl rfl rfl ?_
          refine opG_no rfl rfl rfl rfl rfl ?_
          refine opG_no rfl rfl rfl rfl rfl ?_
          refine op rfl (r_pickTV (v := .bool _) rfl rfl) ?_
          refine op rfl (r_moveV (v := .bool _) rfl) ?_
          refine opG_no rfl rfl rfl rfl rfl ?_
          refine opG_no rfl rfl rfl rfl rfl ?_
          refine opG_no rfl rfl rfl rfl rfl ?_
          refine op rfl (r_pickTV (v := .bool _) rfl rfl) ?_
          refine WL_nil ?_
          refine W_then rfl ?_
          refine W_seq ?_
          refine W_region ?_
          refine opCv rfl (r_call Tryd.func12 Tryd.nm12 rfl) (known13_spec _) ?_
          rintro v9 w9 ⟨rfl, hE⟩
          replace hX := hX.trans hE
          refine op rfl (r_assignV (v := .bool _) rfl) ?_
          refine WL_nil ?_
          refine W_ret (finX_ret ?_)
          refine fin1 ?_
          exact ⟨_, rfl, by first | rfl | exact (bool_tt trivial).symm, by first | exact hX | exact (hX22.trans hX27).trans hX | exact (hX22.trans hX31).trans hX⟩
        · refine opG_yes rfl rfl rfl rfl rfl (r_moveV (v := .slice _ _ _) rfl) ?_
          refine opG_yes rfl rfl rfl rfl rfl (r_len_slice rfl Tryd.underlying39) ?_
          refine opG_yes rfl rfl rfl rfl rfl (r_gtr rfl rfl) ?_
          refine op rfl (r_pickFV (v := .bool _) rfl rfl) ?_
          refine op_split rfl (r_moveV (v := .bool (decide _)) rfl) (fun hg50 => ?_) (fun hg50 => ?_)
          · refine opG_no rfl rfl rfl rfl rfl ?_
            refine opG_no rfl rfl rfl rfl rfl ?_
            refine opG_no rfl rfl rfl rfl rfl ?_
            refine op rfl (r_pickTV (v := .bool _) rfl rfl) ?_
            refine op rfl (r_moveV (v := .bool _) rfl) ?_
            refine opG_no rfl rfl rfl rfl rfl ?_
            refine opG_no rfl rfl rfl rfl rfl ?_
            refine opG_no rfl rfl rfl rfl rfl ?_
            refine op rfl (r_pickTV (v := .bool _) rfl rfl) ?_
            refine WL_nil ?_
            refine W_then rfl ?_
            refine W_seq ?_
            refine W_region ?_
            refine opCv rfl (r_call Tryd.func12 Tryd.nm12 rfl) (known13_spec _) ?_
            rintro v9 w9 ⟨rfl, hE⟩
            replace hX := hX.trans hE
            refine op rfl (r_assignV (v := .bool _) rfl) ?_
            refine WL_nil ?_
            refine W_ret (finX_ret ?_)
            refine fin1 ?_
            exact ⟨_, rfl, by first | rfl | exact (bool_tt trivial).symm, by first | exact hX | exact (hX22.trans hX27).trans hX | exact (hX22.trans hX31).trans hX⟩
          · refine opG_yes rfl rfl rfl rfl rfl (r_moveV (v := .slice _ _ _) rfl) ?_
            refine opGCv_yes rfl rfl rfl rfl rfl (r_call Tryd.func21 Tryd.nm21 rfl) (longE_spec (hl.ext hX) (by omega)) ?_
            rintro v3 w3 ⟨n3, rfl, hn3, hE⟩
            replace hX := hX.trans hE
            refine opG_yes rfl rfl rfl rfl rfl (r_gtr rfl rfl) ?_
            refine op rfl (r_pickFV (v := .bool _) rfl rfl) ?_
            refine op_split rfl (r_moveV (v := .bool (decide _)) rfl) (fun hg55 => ?_) (fun hg55 => ?_)
            · refine opG_no rfl rfl rfl rfl rfl ?_
              refine opG_no rfl rfl rfl rfl rfl ?_
              refine opG_no rfl rfl rfl rfl rfl ?_
              refine op rfl (r_pickTV (v := .bool _) rfl rfl) ?_
              refine WL_nil ?_
              refine W_then rfl ?_
              refine W_seq ?_
              refine W_region ?_
              refine opCv rfl (r_call Tryd.func12 Tryd.nm12 rfl) (known13_spec _) ?_
              rintro v9 w9 ⟨rfl, hE⟩
              replace hX := hX.trans hE
              refine op rfl (r_assignV (v := .bool _) rfl) ?_
              refine WL_nil ?_
              refine W_ret (finX_ret ?_)
              refine fin1 ?_
              exact ⟨_, rfl, by first | rfl | exact (bool_tt trivial).symm, by first | exact hX | exact (hX22.trans hX27).trans hX | exact (hX22.trans hX31).trans hX⟩
            · refine opG_yes rfl rfl rfl rfl rfl (r_moveV (v := .slice _ _ _) rfl) ?_
              refine opG_yes rfl rfl rfl rfl rfl (r_len_slice rfl Tryd.underlying39) ?_
              refine opG_yes rfl rfl rfl rfl rfl (r_eql rfl rfl) ?_
              refine op rfl (r_pickFV (v := .bool _) rfl rfl) ?_
              refine WL_nil ?_
              refine W_ifp rfl (fun ht59 => ?_) (fun ht59 => ?_)
              · refine W_seq ?_
                refine W_region ?_
                refine opCv rfl (r_call Tryd.func12 Tryd.nm12 rfl) (known13_spec _) ?_
                rintro v9 w9 ⟨rfl, hE⟩
                replace hX := hX.trans hE
                refine op rfl (r_assignV (v := .bool _) rfl) ?_
                refine WL_nil ?_
                refine W_ret (finX_ret ?_)
                refine fin1 ?_
                exact ⟨_, rfl, by first | rfl | exact (bool_tt trivial).symm, by first | exact hX | exact (hX22.trans hX27).trans hX | exact (hX22.trans hX31).trans hX⟩
              · have hX0 := hX
                have hl0 : l.length ≠ 0 := by omega
                have hl10 : l.length ≤ 10 := by omega
                have hf10 : fs.length ≤ 10 := by omega
                have hlp : ∀ d ∈ l, d.p.length ≤ 1099511627776 := fun d hd => by have := (hn3 d hd).1; omega
                refine W_skip ?_
                refine W_seq ?_
                refine W_region ?_
                refine op rfl (r_moveV (v := .slice _ _ _) rfl) ?_
                refine opCv rfl (r_call Tryd.func13 Tryd.nm13 rfl) (new_spec2 (cap := ct) (G := old w) (fun b hb ↦ Nat.lt_of_lt_of_le hb hX.size) (ht.keep (fun b hb ↦ hX.block b hb) (fun _ h ↦ h)) (by omega)) ?_
                rintro v4 w4 ⟨pv, rfl, hH, hE⟩
                replace hX := hX.trans hE
                have hE3 := hE
                refine op rfl (r_moveV (v := .tuple #[pv, .int .i64 (if rightT t then 0 else 2)]) rfl) ?_
                refine op rfl (r_extract (vs := [pv, .int .i64 (if rightT t then 0 else 2)]) rfl rfl) ?_
                refine op rfl (r_extract (vs := [pv, .int .i64 (if rightT t then 0 else 2)]) rfl rfl) ?_
                refine op rfl (r_assignV (v := pv) rfl) ?_
                refine op rfl (r_assignV (v := .int .i64 (if rightT t then 0 else 2)) rfl) ?_
                refine WL_nil ?_
                refine W_seq ?_
                refine W_seq ?_
                refine W_region ?_
                refine op rfl (r_moveV (v := .int .i64 (if rightT t then 0 else 2)) rfl) ?_
                refine op rfl (r_neq rfl rfl) ?_
                refine WL_nil ?_
                refine W_ifp rfl (fun ht67 => ?_) (fun ht67 => ?_)
                · refine W_seq ?_
                  refine W_region ?_
                  refine opCv rfl (r_call Tryd.func12 Tryd.nm12 rfl) (known13_spec _) ?_
                  rintro v9 w9 ⟨rfl, hE⟩
                  replace hX := hX.trans hE
                  refine op rfl (r_assignV (v := .bool _) rfl) ?_
                  refine WL_nil ?_
                  refine W_ret (finX_ret ?_)
                  refine fin1 ?_
                  exact ⟨_, rfl, by first | rfl | exact (bool_tt trivial).symm, by first | exact hX | exact (hX22.trans hX27).trans hX | exact (hX22.trans hX31).trans hX⟩
                · have hr : rightT t := Classical.byContradiction (fun q => ht67 (by rw [if_neg q]; decide))
                  obtain ⟨ph, hpv, hH0⟩ := hH hr
                  have hG0 : HG w nobody ph w4 [⟨[], t⟩] := HG.second (fun b q => q.elim) hX0 hH0 hE3
                  refine W_skip ?_
                  refine W_seq ?_
                  refine W_seq ?_
                  refine W_region ?_
                  refine op rfl (r_assignV (v := .int _ _) rfl) ?_
                  refine WL_nil ?_
                  refine W_block ?_
                  refine W_loop [11, 69, 70, 71, 72, 73, 74, 75, 76, 77, 78, 79, 80] (fun qq e' w' => ∃ (i : Nat) (H : List Rv), qq = fs.length - i ∧ i ≤ fs.length ∧ e' 11 = .int .i64 i ∧ HG w nobody ph w' H ∧ H.length ≤ i + 1) (fs.length) ?_ ?_
                  · exact ⟨0, _, by omega, by omega, rfl, hG0, by simp⟩
                  intro k g w' hI
                  obtain ⟨i, H, hq, hi, h11, hG', hHl⟩ := hI
                  clear hX
                  have hX := Ext.refl w'
                  obtain ⟨w0i, hw0i⟩ : ∃ x, x = w' := ⟨_, rfl⟩
                  subst hw0i
                  refine W_set (i := 11) h11 ?_
                  refine W_seq ?_
                  refine W_seq ?_
                  refine W_region ?_
                  refine op rfl (r_moveV (v := .int _ _) rfl) ?_
                  refine op rfl (r_moveV (v := .slice _ _ _) rfl) ?_
                  refine op rfl (r_len_slice rfl Tryd.underlying52) ?_
                  refine op rfl (r_lss rfl rfl) ?_
                  refine WL_nil ?_
                  refine W_ifp rfl (fun ht72 => ?_) (fun ht72 => ?_)
                  · have hlt : i < fs.length := by omega
                    obtain ⟨g1, off1, Ai, ci, hA, -, hcell, hci, hbl, hrr⟩ := hf.cellW hlt
                    refine W_skip ?_
                    refine W_seq ?_
                    refine W_block ?_
                    refine W_region ?_
                    refine op rfl (r_moveV (v := hp ph) (by rw [← hpv]; rfl)) ?_
                    refine op rfl (r_moveV (v := .slice _ _ _) rfl) ?_
                    refine op rfl (r_moveV (v := .int _ _) rfl) ?_
                    refine op rfl (r_indexAddr1 rfl rfl hA Tryd.underlying52 Tryd.sz39 (by omega) (by omega)) ?_
                    refine op rfl (r_load (v := .slice Ai fs[i].length ci) rfl Tryd.underlying39 rfl (ext_cell (hG'.ext.trans hX) hcell)) ?_
                    refine opCv rfl (r_call Tryd.func22 Tryd.nm22 rfl) (commitH (cd := ci) hG' (G := old w) (fun b hb ↦ Or.inl hb) (hrr.keep (fun b hb ↦ hG'.ext.block b hb) (fun _ h ↦ h)) hbl) ?_
                    rintro v9 w9a ⟨hv9, hG9, hK9⟩
                    subst hv9
                    clear hX
                    have hX := Ext.refl w9a
                    refine WL_nil ?_
                    refine W_region ?_
                    refine op rfl (r_moveV (v := .int _ _) rfl) ?_
                    refine op rfl (r_add' (r := ((i + 1 : Nat) : Int)) rfl rfl (by rw [wrap_i64 (by omega) (by omega)]; omega)) ?_
                    refine op rfl (r_assignV (v := .int _ _) rfl) ?_
                    refine WL_nil ?_
                    refine ⟨?_, by repeat (first | with_reducible exact Out.refl _ _ | with_reducible exact Out.mix | refine Out.put rfl ?_ | refine Out.mixin rfl ?_ | exact Out.refl _ _ | exact Out.mix)⟩
                    exact ⟨fs.length - (i + 1), by omega, i + 1, _, rfl, by omega, rfl, hG9, by rcases commit_cases H fs[i] with q | ⟨u, q⟩ <;> rw [q.1] <;> (try rw [List.length_append, List.length_singleton]) <;> omega⟩
                  · have hHl1 := (hist_len hG'.his).1
                    obtain ⟨b, hb⟩ : ∃ b, b = kb % (H.length : Int) := ⟨_, rfl⟩
                    have hb1 : 0 ≤ b ∧ b < (H.length : Int) := by rw [hb]; exact ⟨Int.emod_nonneg _ (by omega), Int.emod_lt_of_pos _ (by omega)⟩
                    obtain ⟨n, hn⟩ : ∃ n : Int, n = (H.length : Int) - 1 := ⟨_, rfl⟩
                    refine W_exit (blk_hit ?_)
                    refine W_seq ?_
                    refine W_region ?_
                    refine op rfl (r_moveV (v := hp ph) (by rw [← hpv]; rfl)) ?_
                    refine opCv rfl (r_call Tryd.func17 Tryd.nm17 rfl) (head_spec (hG'.his.ext hX)) ?_
                    rintro v10 w10 ⟨hv10, hE⟩
                    replace hX := hX.trans hE
                    rw [← hn] at hv10
                    subst hv10
                    have hX10 := hX
                    refine op rfl (r_assignV (v := .int _ _) rfl) ?_
                    refine WL_nil ?_
                    refine W_seq ?_
                    refine W_region ?_
                    refine op rfl (r_moveV (v := .int _ _) rfl) ?_
                    refine op rfl (r_conv' (r := kb) rfl Tryd.underlying5 Tryd.underlying3 (wrap_i64 (by omega) (by omega))) ?_
                    refine op rfl (r_moveV (v := .int _ _) rfl) ?_
                    refine op rfl (r_add' (r := (H.length : Int)) rfl rfl (by rw [wrap_i64 (by omega) (by omega)]; omega)) ?_
                    refine op rfl (r_rem' (r := b) rfl rfl (by omega) (by rw [Int.tmod_eq_emod_of_nonneg hkb.1]; exact hb.symm)) ?_
                    refine op rfl (r_assignV (v := .int _ _) rfl) ?_
                    refine WL_nil ?_
                    refine W_seq ?_
                    refine W_region ?_
                    refine op rfl (r_moveV (v := hp ph) (by rw [← hpv]; rfl)) ?_
                    refine opCv rfl (r_call Tryd.func14 Tryd.nm14 rfl) (newG (hG'.mv (Y := nobody) (B' := nobody) (Mv.of_ext hX) (fun b q ↦ q.elim) (fun b q ↦ q.elim)) 1 (by decide)) ?_
                    rintro v12 w12 ⟨pq, rfl, hQ, hE⟩
                    replace hX := hX.trans hE
                    have hQ12 : QG w nobody pq ph w12 (cQ H) := hQ
                    have hX12 := hQ12.ext
                    clear hX
                    have hX := Ext.refl w12
                    refine op rfl (r_assignV (v := .pointer _) rfl) ?_
                    refine WL_nil ?_
                    refine W_seq ?_
                    refine W_seq ?_
                    refine W_region ?_
                    refine op rfl (r_moveV (v := hp pq) rfl) ?_
                    refine op rfl (r_moveV (v := .int _ _) rfl) ?_
                    refine op rfl (r_moveV (v := .slice _ _ _) rfl) ?_
                    refine op rfl (r_build (cs := [.int .i64 1, .int .i64 b, .slice Al l.length cl]) Tryd.lay41 (List.forall_mem_cons.2 ⟨rfl, List.forall_mem_cons.2 ⟨rfl, List.forall_mem_cons.2 ⟨rfl, fun _ h => absurd h List.not_mem_nil⟩⟩⟩) rfl rfl) ?_
                    refine opCv rfl (r_call Tryd.func15 Tryd.nm15 rfl) (submitG hQ12 ⟨1, b, l⟩ (c := cl) (G := old w) (fun k hk ↦ Or.inl hk) (hl.keep (fun b hb ↦ hX12.block b hb) (fun _ h ↦ h)) (show inK .i64 (1 : Int) by decide) (show inK .i64 b by constructor <;> simp only [lo, Go.Eng.hi] <;> omega) hll) ?_
                    rintro v13 w13 ⟨hv13, hQ13, hK13⟩
                    rw [c_sub (by omega) hl0] at hv13 hQ13
                    subst hv13
                    clear hX
                    have hX := Ext.refl w13
                    obtain ⟨q1, hq1⟩ : ∃ q1 : Qs, q1 = { cQ H with ws := [⟨1, b, l⟩], tk := setK (cQ H).tk 1 none } := ⟨_, rfl⟩
                    have hQ13' : QG w nobody pq ph w13 q1 := by rw [hq1]; exact hQ13
                    have hq1H : q1.H = H := by rw [hq1]
                    have hX13 := hQ13'.ext
                    have hH13 := hQ13'.que.hist
                    rw [hq1H] at hH13
                    refine op rfl (r_neq rfl rfl) ?_
                    refine WL_nil ?_
                    refine W_ifp rfl (fun ht95 => ?_) (fun ht95 => ?_)
                    · exact absurd rfl ht95
                    · refine W_skip ?_
                      refine W_seq ?_
                      refine W_region ?_
                      refine op rfl (r_assignV (v := .bool _) rfl) ?_
                      refine WL_nil ?_
                      refine W_seq ?_
                      refine W_seq ?_
                      refine W_region ?_
                      refine op rfl (r_assignV (v := .int _ _) rfl) ?_
                      refine WL_nil ?_
                      refine W_block ?_
                      refine W_loop [15, 16, 96, 97, 98, 99, 100, 101, 102, 103, 104, 105, 106, 107, 108, 109, 110, 111, 112, 113] (fun qq e' w' => ∃ (i : Nat) (z : Bool), qq = l.length - i ∧ i ≤ l.length ∧ e' 16 = .int .i64 i ∧ e' 15 = .bool z ∧ (z = true ↔ ∃ d ∈ l.take i, b < (lastR H d.p : Int)) ∧ Ext w13 w') (l.length) ?_ ?_
                      · exact ⟨0, false, by omega, by omega, rfl, rfl, by simp, hX⟩
                      intro k g w' hI
                      obtain ⟨m, z, hqm, hml, h16, h15, hz, hX'⟩ := hI
                      clear hX
                      have hX := hX'
                      obtain ⟨w19, hw19⟩ : ∃ x, x = w' := ⟨_, rfl⟩
                      subst hw19
                      refine W_set (i := 16) h16 ?_
                      refine W_set (i := 15) h15 ?_
                      refine W_seq ?_
                      refine W_seq ?_
                      refine W_region ?_
                      refine op rfl (r_moveV (v := .int _ _) rfl) ?_
                      refine op rfl (r_moveV (v := .slice _ _ _) rfl) ?_
                      refine op rfl (r_len_slice rfl Tryd.underlying39) ?_
                      refine op rfl (r_lss rfl rfl) ?_
                      refine WL_nil ?_
                      refine W_ifp rfl (fun ht99 => ?_) (fun ht99 => ?_)
                      · have hltm : m < l.length := by omega
                        obtain ⟨g2, off2, Aj, cj, hA2, hpl2, -, hcell2⟩ := hlat m hltm
                        refine W_skip ?_
                        refine W_seq ?_
                        refine W_block ?_
                        refine W_region ?_
                        refine op rfl (r_moveV (v := .bool _) rfl) ?_
                        refine op_splitB rfl (r_moveV (v := .bool _) rfl) (fun hg103 => ?_) (fun hg103 => ?_)
                        · refine opG_no rfl rfl rfl rfl rfl ?_
                          refine opG_no rfl rfl rfl rfl rfl ?_
                          refine opG_no rfl rfl rfl rfl rfl ?_
                          refine opG_no rfl rfl rfl rfl rfl ?_
                          refine opG_no rfl rfl rfl rfl rfl ?_
                          refine opG_no rfl rfl rfl rfl rfl ?_
                          refine opG_no rfl rfl rfl rfl rfl ?_
                          refine opG_no rfl rfl rfl rfl rfl ?_
                          refine opG_no rfl rfl rfl rfl rfl ?_
                          refine op rfl (r_pickTV (v := .bool _) rfl rfl) ?_
                          refine op rfl (r_assignV (v := .bool _) rfl) ?_
                          refine WL_nil ?_
                          refine W_region ?_
                          refine op rfl (r_moveV (v := .int _ _) rfl) ?_
                          refine op rfl (r_add' (r := ((m + 1 : Nat) : Int)) rfl rfl (by rw [wrap_i64 (by omega) (by omega)]; omega)) ?_
                          refine op rfl (r_assignV (v := .int _ _) rfl) ?_
                          refine WL_nil ?_
                          refine ⟨?_, by repeat (first | with_reducible exact Out.refl _ _ | with_reducible exact Out.mix | refine Out.put rfl ?_ | refine Out.mixin rfl ?_ | exact Out.refl _ _ | exact Out.mix)⟩
                          first
                            | exact ⟨l.length - (m + 1), by omega, m + 1, true, rfl, by omega, rfl, rfl, ⟨fun _ => by obtain ⟨d, h1, h2⟩ := hz.1 hg103; exact ⟨d, by rw [List.take_succ_eq_append_getElem hltm]; exact List.mem_append_left _ h1, h2⟩, fun _ => rfl⟩, hX⟩
                            | exact ⟨l.length - (m + 1), by omega, m + 1, decide ((lastR H l[m].p : Int) > b), rfl, by omega, rfl, rfl, ⟨fun h => ⟨l[m], by rw [List.take_succ_eq_append_getElem hltm]; exact List.mem_append_right _ (List.mem_singleton.2 rfl), of_decide_eq_true h⟩, fun ⟨d, h1, h2⟩ => by
                                rw [List.take_succ_eq_append_getElem hltm] at h1
                                rcases List.mem_append.1 h1 with k | k
                                · rw [hz.2 ⟨d, k, h2⟩] at hg103; cases hg103
                                · rw [List.mem_singleton.1 k] at h2; exact decide_eq_true h2⟩, hX⟩
                        · refine opG_yes rfl rfl rfl rfl rfl (r_moveV (v := hp ph) (by rw [← hpv]; rfl)) ?_
                          refine opG_yes rfl rfl rfl rfl rfl (r_moveV (v := .slice _ _ _) rfl) ?_
                          refine opG_yes rfl rfl rfl rfl rfl (r_moveV (v := .int _ _) rfl) ?_
                          refine opG_yes rfl rfl rfl rfl rfl (r_indexAddrK (by rw [← hA2]; rfl) rfl Tryd.underlying39 Tryd.sz38 hltm) ?_
                          refine opG_yes rfl rfl rfl rfl rfl (r_fieldAddr rfl Tryd.fld38_1 rfl) ?_
                          refine opG_yes rfl rfl rfl rfl rfl (r_load (v := .string (str l[m].p)) rfl Tryd.underlying9 rfl (ext_cell (hX13.trans hX) (hcell2 1 (by decide)))) ?_
                          refine opGCv_yes rfl rfl rfl rfl rfl (r_call Tryd.func18 Tryd.nm18 rfl) (last_spec (hH13.ext hX) l[m].p) ?_
                          rintro v19 w19a ⟨rfl, hE⟩
                          replace hX := hX.trans hE
                          refine opG_yes rfl rfl rfl rfl rfl (r_moveV (v := .int _ _) rfl) ?_
                          refine opG_yes rfl rfl rfl rfl rfl (r_gtr rfl rfl) ?_
                          refine op rfl (r_pickFV (v := .bool _) rfl rfl) ?_
                          refine op rfl (r_assignV (v := .bool _) rfl) ?_
                          refine WL_nil ?_
                          refine W_region ?_
                          refine op rfl (r_moveV (v := .int _ _) rfl) ?_
                          refine op rfl (r_add' (r := ((m + 1 : Nat) : Int)) rfl rfl (by rw [wrap_i64 (by omega) (by omega)]; omega)) ?_
                          refine op rfl (r_assignV (v := .int _ _) rfl) ?_
                          refine WL_nil ?_
                          refine ⟨?_, by repeat (first | with_reducible exact Out.refl _ _ | with_reducible exact Out.mix | refine Out.put rfl ?_ | refine Out.mixin rfl ?_ | exact Out.refl _ _ | exact Out.mix)⟩
                          first
                            | exact ⟨l.length - (m + 1), by omega, m + 1, true, rfl, by omega, rfl, rfl, ⟨fun _ => by obtain ⟨d, h1, h2⟩ := hz.1 hg103; exact ⟨d, by rw [List.take_succ_eq_append_getElem hltm]; exact List.mem_append_left _ h1, h2⟩, fun _ => rfl⟩, hX⟩
                            | exact ⟨l.length - (m + 1), by omega, m + 1, decide ((lastR H l[m].p : Int) > b), rfl, by omega, rfl, rfl, ⟨fun h => ⟨l[m], by rw [List.take_succ_eq_append_getElem hltm]; exact List.mem_append_right _ (List.mem_singleton.2 rfl), of_decide_eq_true h⟩, fun ⟨d, h1, h2⟩ => by
                                rw [List.take_succ_eq_append_getElem hltm] at h1
                                rcases List.mem_append.1 h1 with k | k
                                · rw [hz.2 ⟨d, k, h2⟩] at hg103; cases hg103
                                · rw [List.mem_singleton.1 k] at h2; exact decide_eq_true h2⟩, hX⟩
                      · have hml2 : m = l.length := by omega
                        rw [hml2, List.take_length] at hz
                        have hz' : z = true ↔ lateR H ⟨1, b, l⟩ := hz
                        obtain ⟨a, H', hans, haid, ha2, ha1, ha4, hsame, hnew⟩ := conf (H := H) (r := ⟨1, b, l⟩) (by omega) hl0
                        have hzz : decide (a.kind = 2) = z := by rw [Bool.eq_iff_iff]; simp only [decide_eq_true_eq]; exact ha2.trans hz'.symm
                        have hst : stepQ q1 true = ({ q1 with H := H', ws := [], tk := setK q1.tk 1 (some a) }, a, true) := by
                          have e : stepQ q1 true = ({ q1 with H := (answerR H ⟨1, b, l⟩ true).1, ws := [], tk := setK q1.tk 1 (some (answerR H ⟨1, b, l⟩ true).2) }, (answerR H ⟨1, b, l⟩ true).2, true) := by rw [hq1]; rfl
                          rw [e, hans]
                        have hok := hist_ok hH13
                        have hgt : rightT (headT H) := by
                          have h := (getR_at (H := H) (r := H.length - 1) (by omega)).1
                          have h' : headT H = (H[H.length - 1]'(by omega)).t := by
                            show (getR H ((H.length : Int) - 1)).t = _
                            rw [show ((H.length : Int) - 1) = ((H.length - 1 : Nat) : Int) by omega, h]
                          rw [h']; exact (hok _ (List.getElem_mem _)).1
                        refine W_exit (blk_hit ?_)
                        refine W_seq ?_
                        refine W_region ?_
                        refine op rfl (r_moveV (v := hp ph) (by rw [← hpv]; rfl)) ?_
                        refine op rfl (r_moveV (v := .int _ _) rfl) ?_
                        refine opCv rfl (r_call Tryd.func23 Tryd.nm23 rfl) (histAt_spec (hH13.ext hX) n) ?_
                        rintro v20 w20 ⟨v20', rfl, hO20, hE⟩
                        replace hX := hX.trans hE
                        have hO20 : OwnT w19 w20 v20' (headT H) := by rw [hn] at hO20; exact hO20
                        obtain ⟨A20, c20, rfl, hc20, hr20⟩ := hO20.rd
                        have hE20 := hE
                        have hX20 := hX
                        have hs19 := hX'.size
                        refine op rfl (r_moveV (v := .tuple #[.slice A20 (headT H).length c20, .int .i64 (errR H n)]) rfl) ?_
                        refine op rfl (r_extract (vs := [.slice A20 (headT H).length c20, .int .i64 (errR H n)]) rfl rfl) ?_
                        refine op rfl (r_extract (vs := [.slice A20 (headT H).length c20, .int .i64 (errR H n)]) rfl rfl) ?_
                        refine op rfl (r_assignV (v := .slice A20 (headT H).length c20) rfl) ?_
                        refine op rfl (r_assignV (v := .int .i64 (errR H n)) rfl) ?_
                        refine WL_nil ?_
                        refine W_seq ?_
                        refine W_region ?_
                        refine op rfl (r_moveV (v := .slice A20 (headT H).length c20) rfl) ?_
                        refine op rfl (r_moveV (v := .slice _ _ _) rfl) ?_
                        refine opCv rfl (r_call Tryd.func24 Tryd.nm24 rfl) (refApply_spec (G := fun b ↦ b < w.heap.size ∨ (w19.heap.size ≤ b ∧ b < w20.heap.size)) (fun b hb ↦ hb.elim (fun q ↦ Nat.lt_of_lt_of_le q (hX13.trans hX20).size) (fun q ↦ q.2)) (hr20.keep (fun _ _ ↦ rfl) (fun _ h ↦ Or.inr h)) (hl.keep (fun b hb ↦ (hX13.trans hX20).block b hb) (fun _ h ↦ Or.inl h)) (by have := hgt.1; omega) hc20 (tree_paths hgt) hlp) ?_
                        rintro v21 w21 ⟨v21', rfl, hR21, hE⟩
                        replace hX := hX.trans hE
                        obtain ⟨A21, c21, rfl, hc21, hr21⟩ := hR21
                        have hE21 := hE
                        refine op rfl (r_moveV (v := .tuple #[.slice A21 (applyT (headT H) l).2.length c21, .int .i64 (applyT (headT H) l).1]) rfl) ?_
                        refine op rfl (r_extract (vs := [.slice A21 (applyT (headT H) l).2.length c21, .int .i64 (applyT (headT H) l).1]) rfl rfl) ?_
                        refine op rfl (r_extract (vs := [.slice A21 (applyT (headT H) l).2.length c21, .int .i64 (applyT (headT H) l).1]) rfl rfl) ?_
                        refine op rfl (r_assignV (v := .slice A21 (applyT (headT H) l).2.length c21) rfl) ?_
                        refine op rfl (r_assignV (v := .int .i64 (applyT (headT H) l).1) rfl) ?_
                        refine WL_nil ?_
                        refine W_seq ?_
                        refine W_region ?_
                        refine op rfl (r_moveV (v := hp pq) rfl) ?_
                        have hG22 := hQ13'.all hX
                        have hs20 := hE20.size
                        have hs21 := hE21.size
                        have hs13 := hX13.size
                        refine opCv rfl (r_call Tryd.func16 Tryd.nm16 rfl) (stepG hG22 true) ?_
                        rintro v22 w22 ⟨hv22, hQ22, hK22⟩
                        rw [hst] at hv22 hQ22
                        subst hv22
                        have hs22 := hK22.size
                        have hwas : fiT.Row w22 (old w22) A20 (headT H) := hr20.keep (fun b hb => (hK22.same b (Or.inr (Or.inr ⟨by omega, by omega⟩))).trans (hE21.block b hb.2)) (fun b hb => by show b < w22.heap.size; omega)
                        have hnow : fiT.Row w22 (old w22) A21 (applyT (headT H) l).2 := hr21.keep (fun b hb => hK22.same b (by
                          rcases hb with (k | k) | k
                          · exact Or.inl k
                          · exact Or.inr (Or.inr ⟨by omega, by omega⟩)
                          · exact Or.inr (Or.inr ⟨by have := k.1; omega, k.2⟩))) (fun b hb => by
                          show b < w22.heap.size
                          rcases hb with (k | k) | k
                          · omega
                          · omega
                          · have := k.2; omega)
                        have hH22 : Hist ph _ w22 H' := hQ22.que.hist
                        have hX22 := hQ22.ext
                        clear hX
                        have hX := Ext.refl w22
                        refine op rfl (r_moveV (v := .tuple #[.agg a.vals.toArray, .bool (decide True)]) rfl) ?_
                        refine op rfl (r_extract (vs := [.agg a.vals.toArray, .bool (decide True)]) rfl rfl) ?_
                        refine op rfl (r_extract (vs := [.agg a.vals.toArray, .bool (decide True)]) rfl rfl) ?_
                        refine op_alloc rfl Tryd.zero43 ?_
                        intro w22_5 b22_5 E22_5 B22_5 L22_5
                        have hG22_5 : w22.heap.size ≤ b22_5 := by have := hX.size; omega
                        replace hX := hX.trans E22_5
                        refine op_storeRow rfl rfl Tryd.sz43 B22_5 rfl rfl ?_
                        intro w22_6 C22_6 BB22_6
                        replace hX := hX.chg C22_6 hG22_5
                        replace B22_5 := BB22_6
                        refine op rfl (r_assignV (v := .bool (decide True)) rfl) ?_
                        refine WL_nil ?_
                        refine W_seq ?_
                        refine W_seq ?_
                        refine W_region ?_
                        refine op rfl (r_moveV (v := .bool (decide True)) rfl) ?_
                        refine op rfl (r_notP rfl) ?_
                        refine op_false rfl (r_moveV (v := .bool (decide _)) rfl) (fun h => h trivial) ?_
                        refine opG_yes rfl rfl rfl rfl rfl (r_fieldAddr rfl Tryd.fld43_0 rfl) ?_
                        refine opG_yes rfl rfl rfl rfl rfl (r_load (v := .int .i64 a.id) rfl Tryd.underlying3 rfl (Blk.cell B22_5 rfl)) ?_
                        refine opG_yes rfl rfl rfl rfl rfl (r_neq rfl rfl) ?_
                        refine op rfl (r_pickFV (v := .bool _) rfl rfl) ?_
                        refine op_false rfl (r_moveV (v := .bool (decide _)) rfl) (fun h => h haid) ?_
                        refine opG_yes rfl rfl rfl rfl rfl (r_fieldAddr rfl Tryd.fld43_1 rfl) ?_
                        refine opG_yes rfl rfl rfl rfl rfl (r_load (v := .int .i64 a.kind) rfl Tryd.underlying3 rfl (Blk.cell B22_5 rfl)) ?_
                        refine opG_yes rfl rfl rfl rfl rfl (r_eql rfl rfl) ?_
                        refine opG_yes rfl rfl rfl rfl rfl (r_moveV (v := .bool z) rfl) ?_
                        refine opG_yes rfl rfl rfl rfl rfl (rb_neq rfl rfl Tryd.underlying4) ?_
                        refine op rfl (r_pickFV (v := .bool _) rfl rfl) ?_
                        refine op_false rfl (r_moveV (v := .bool (decide _)) rfl) (fun h => h hzz) ?_
                        refine opG_yes rfl rfl rfl rfl rfl (r_moveV (v := .bool (decide (z = true))) (by rw [show decide (z = true) = z by cases z <;> rfl]; rfl)) ?_
                        refine opG_yes rfl rfl rfl rfl rfl (r_notP rfl) ?_
                        refine opG_split rfl rfl rfl rfl rfl (r_moveV (v := .bool (decide _)) rfl) (fun hg148 => ?_) (fun hg148 => ?_)
                        · refine opG_yes rfl rfl rfl rfl rfl (r_fieldAddr rfl Tryd.fld43_1 rfl) ?_
                          refine opG_yes rfl rfl rfl rfl rfl (r_load (v := .int .i64 a.kind) rfl Tryd.underlying3 rfl (Blk.cell B22_5 rfl)) ?_
                          refine opG_yes rfl rfl rfl rfl rfl (r_eql rfl rfl) ?_
                          refine opG_yes rfl rfl rfl rfl rfl (r_moveV (v := .int .i64 (applyT (headT H) l).1) rfl) ?_
                          refine opG_yes rfl rfl rfl rfl rfl (r_eql rfl rfl) ?_
                          refine opG_yes rfl rfl rfl rfl rfl (rb_neq rfl rfl Tryd.underlying4) ?_
                          refine opG_yes rfl rfl rfl rfl rfl (r_pickTV (v := .bool _) rfl rfl) ?_
                          refine op rfl (r_pickFV (v := .bool _) rfl rfl) ?_
                          refine op_false rfl (r_moveV (v := .bool (decide _)) rfl) (fun h => h (decide_eq_decide.2 (ha1 (fun q => hg148 (hz'.2 q))))) ?_
                          refine opG_yes rfl rfl rfl rfl rfl (r_fieldAddr rfl Tryd.fld43_1 rfl) ?_
                          refine opG_yes rfl rfl rfl rfl rfl (r_load (v := .int .i64 a.kind) rfl Tryd.underlying3 rfl (Blk.cell B22_5 rfl)) ?_
                          refine opG_yes rfl rfl rfl rfl rfl (r_eql rfl rfl) ?_
                          refine opG_split rfl rfl rfl rfl rfl (r_moveV (v := .bool (decide _)) rfl) (fun hg161 => ?_) (fun hg161 => ?_)
                          · refine opG_yes rfl rfl rfl rfl rfl (r_fieldAddr rfl Tryd.fld43_3 rfl) ?_
                            refine opG_yes rfl rfl rfl rfl rfl (r_load (v := .int .i64 a.e) rfl Tryd.underlying3 rfl (Blk.cell B22_5 rfl)) ?_
                            refine opG_yes rfl rfl rfl rfl rfl (r_moveV (v := .int .i64 (applyT (headT H) l).1) rfl) ?_
                            refine opG_yes rfl rfl rfl rfl rfl (r_neq rfl rfl) ?_
                            refine opG_yes rfl rfl rfl rfl rfl (r_pickTV (v := .bool _) rfl rfl) ?_
                            refine op rfl (r_pickFV (v := .bool _) rfl rfl) ?_
                            refine WL_nil ?_
                            refine W_ifp rfl (fun ht167 => ?_) (fun ht167 => ?_)
                            · first | exact absurd (ha4 hg161).symm ht167 | exact absurd (ha4 hg161) ht167 | exact ht167.elim | cases ht167
                            · refine W_skip ?_
                              refine W_seq ?_
                              refine W_seq ?_
                              refine W_region ?_
                              refine op rfl (r_fieldAddr rfl Tryd.fld43_1 rfl) ?_
                              refine op rfl (r_load (v := .int .i64 a.kind) rfl Tryd.underlying3 rfl (Blk.cell B22_5 rfl)) ?_
                              refine op rfl (r_neq rfl rfl) ?_
                              refine WL_nil ?_
                              refine W_ifp rfl (fun ht170 => ?_) (fun ht170 => ?_)
                              · have hH' := hsame ht170
                                rw [hH'] at hH22
                                refine W_seq ?_
                                refine W_region ?_
                                refine op rfl (r_moveV (v := hp ph) (by rw [← hpv]; rfl)) ?_
                                refine op rfl (r_moveV (v := hp ph) (by rw [← hpv]; rfl)) ?_
                                refine opCv rfl (r_call Tryd.func17 Tryd.nm17 rfl) (head_spec (hH22.ext hX)) ?_
                                rintro v26 w26 ⟨hv26, hE⟩
                                replace B22_5 := Blk.ext B22_5 hE
                                replace hX := hX.trans hE
                                rw [← hn] at hv26
                                subst hv26
                                refine opCv rfl (r_call Tryd.func23 Tryd.nm23 rfl) (histAt_spec (hH22.ext hX) n) ?_
                                rintro v27 w27 ⟨v27', rfl, hO27, hE⟩
                                replace B22_5 := Blk.ext B22_5 hE
                                replace hX := hX.trans hE
                                have hO27 : OwnT w26 w27 v27' (headT H) := by rw [hn] at hO27; exact hO27
                                obtain ⟨A27, c27, rfl, hc27, hr27⟩ := hO27.rd
                                have hr27' : fiT.Row w27 (old w27) A27 (headT H) := hr27.keep (fun _ _ => rfl) (fun b hb => hb.2)
                                have hX27 := hX
                                clear hX
                                have hX := Ext.refl w27
                                refine op rfl (r_moveV (v := .tuple #[.slice A27 (headT H).length c27, .int .i64 (errR H n)]) rfl) ?_
                                refine op rfl (r_extract (vs := [.slice A27 (headT H).length c27, .int .i64 (errR H n)]) rfl rfl) ?_
                                refine op rfl (r_extract (vs := [.slice A27 (headT H).length c27, .int .i64 (errR H n)]) rfl rfl) ?_
                                refine op rfl (r_assignV (v := .slice A27 (headT H).length c27) rfl) ?_
                                refine op rfl (r_assignV (v := .int .i64 (errR H n)) rfl) ?_
                                refine WL_nil ?_
                                refine W_seq ?_
                                refine W_region ?_
                                refine op rfl (r_moveV (v := hp ph) (by rw [← hpv]; rfl)) ?_
                                refine opCv rfl (r_call Tryd.func17 Tryd.nm17 rfl) (head_spec (hH22.ext (hX27.trans hX))) ?_
                                rintro v28 w28 ⟨hv28, hE⟩
                                replace B22_5 := Blk.ext B22_5 hE
                                replace hX := hX.trans hE
                                rw [← hn] at hv28
                                subst hv28
                                refine op rfl (r_moveV (v := .int _ _) rfl) ?_
                                refine op rfl (r_eql rfl rfl) ?_
                                refine op_true rfl (r_moveV (v := .bool (decide _)) rfl) (rfl) ?_
                                refine opG_yes rfl rfl rfl rfl rfl (r_moveV (v := .slice A27 (headT H).length c27) rfl) ?_
                                refine opG_yes rfl rfl rfl rfl rfl (r_moveV (v := .slice A20 (headT H).length c20) rfl) ?_
                                refine opGCv_yes rfl rfl rfl rfl rfl (r_call Tryd.func25 Tryd.nm25 rfl) (same_spec (hr27'.ext hX) (hwas.ext (hX27.trans hX)) (by have := hgt.1; omega)) ?_
                                rintro v29 w29 ⟨rfl, hE⟩
                                replace B22_5 := Blk.ext B22_5 hE
                                replace hX := hX.trans hE
                                refine op rfl (r_pickTV (v := .bool _) rfl rfl) ?_
                                refine op_true rfl (r_moveV (v := .bool (decide _)) rfl) (rfl) ?_
                                refine opGCv_yes rfl rfl rfl rfl rfl (r_call Tryd.func12 Tryd.nm12 rfl) (known13_spec _) ?_
                                rintro v30 w30 ⟨rfl, hE⟩
                                replace B22_5 := Blk.ext B22_5 hE
                                replace hX := hX.trans hE
                                refine op rfl (r_pickTV (v := .bool _) rfl rfl) ?_
                                refine op rfl (r_assignV (v := .bool _) rfl) ?_
                                refine WL_nil ?_
                                refine W_ret (finX_ret ?_)
                                refine fin1 ?_
                                exact ⟨_, rfl, by first | rfl | exact (bool_tt trivial).symm, by first | exact hX | exact (hX22.trans hX27).trans hX | exact (hX22.trans hX31).trans hX⟩
                              · obtain ⟨hrev, hH'⟩ := hnew (Classical.not_not.1 ht170)
                                refine W_skip ?_
                                refine W_seq ?_
                                refine W_region ?_
                                refine op rfl (r_moveV (v := hp ph) (by rw [← hpv]; rfl)) ?_
                                refine op rfl (r_fieldAddr rfl Tryd.fld43_2 rfl) ?_
                                refine op rfl (r_load (v := .int .i64 a.rev) rfl Tryd.underlying3 rfl (Blk.cell B22_5 rfl)) ?_
                                refine opCv rfl (r_call Tryd.func23 Tryd.nm23 rfl) (histAt_spec (hH22.ext hX) a.rev) ?_
                                rintro v31 w31 ⟨v31', rfl, hO31, hE⟩
                                replace B22_5 := Blk.ext B22_5 hE
                                replace hX := hX.trans hE
                                have hgr : (getR H' a.rev).t = (applyT (headT H) l).2 := by
                                  rw [hrev]
                                  have h := (getR_at (H := H') (r := H.length) (by rw [hH']; simp)).1
                                  rw [h]; simp [hH']
                                rw [hgr] at hO31
                                obtain ⟨A31, c31, rfl, hc31, hr31⟩ := OwnT.rd hO31
                                have hr31' : fiT.Row w31 (old w31) A31 (applyT (headT H) l).2 := hr31.keep (fun _ _ => rfl) (fun b hb => hb.2)
                                have hlen31 : (applyT (headT H) l).2.length ≤ 140737488355328 := by have := (getR_ok (hist_ok hH22) a.rev).1; rw [hgr] at this; omega
                                have hX31 := hX
                                clear hX
                                have hX := Ext.refl w31
                                refine op rfl (r_moveV (v := .tuple #[.slice A31 (applyT (headT H) l).2.length c31, .int .i64 (errR H' a.rev)]) rfl) ?_
                                refine op rfl (r_extract (vs := [.slice A31 (applyT (headT H) l).2.length c31, .int .i64 (errR H' a.rev)]) rfl rfl) ?_
                                refine op rfl (r_extract (vs := [.slice A31 (applyT (headT H) l).2.length c31, .int .i64 (errR H' a.rev)]) rfl rfl) ?_
                                refine op rfl (r_assignV (v := .slice A31 (applyT (headT H) l).2.length c31) rfl) ?_
                                refine op rfl (r_assignV (v := .int .i64 (errR H' a.rev)) rfl) ?_
                                refine WL_nil ?_
                                refine W_seq ?_
                                refine W_region ?_
                                refine op rfl (r_fieldAddr rfl Tryd.fld43_2 rfl) ?_
                                refine op rfl (r_load (v := .int .i64 a.rev) rfl Tryd.underlying3 rfl (Blk.cell B22_5 rfl)) ?_
                                refine op rfl (r_moveV (v := .int _ _) rfl) ?_
                                refine op rfl (r_add' (r := (H.length : Int)) rfl rfl (by rw [wrap_i64 (by omega) (by omega)]; omega)) ?_
                                refine op rfl (r_eql rfl rfl) ?_
                                refine op_true rfl (r_moveV (v := .bool (decide _)) rfl) (hrev) ?_
                                refine opG_yes rfl rfl rfl rfl rfl (r_moveV (v := .slice A31 (applyT (headT H) l).2.length c31) rfl) ?_
                                refine opG_yes rfl rfl rfl rfl rfl (r_moveV (v := .slice A21 (applyT (headT H) l).2.length c21) rfl) ?_
                                refine opGCv_yes rfl rfl rfl rfl rfl (r_call Tryd.func25 Tryd.nm25 rfl) (same_spec (hr31'.ext hX) (hnow.ext (hX31.trans hX)) hlen31) ?_
                                rintro v32 w32 ⟨rfl, hE⟩
                                replace B22_5 := Blk.ext B22_5 hE
                                replace hX := hX.trans hE
                                refine op rfl (r_pickTV (v := .bool _) rfl rfl) ?_
                                refine op_true rfl (r_moveV (v := .bool (decide _)) rfl) (rfl) ?_
                                refine opGCv_yes rfl rfl rfl rfl rfl (r_call Tryd.func12 Tryd.nm12 rfl) (known13_spec _) ?_
                                rintro v33 w33 ⟨rfl, hE⟩
                                replace B22_5 := Blk.ext B22_5 hE
                                replace hX := hX.trans hE
                                refine op rfl (r_pickTV (v := .bool _) rfl rfl) ?_
                                refine op rfl (r_assignV (v := .bool _) rfl) ?_
                                refine WL_nil ?_
                                refine W_ret (finX_ret ?_)
                                refine fin1 ?_
                                exact ⟨_, rfl, by first | rfl | exact (bool_tt trivial).symm, by first | exact hX | exact (hX22.trans hX27).trans hX | exact (hX22.trans hX31).trans hX⟩
                          · refine opG_no rfl rfl rfl rfl rfl ?_
                            refine opG_no rfl rfl rfl rfl rfl ?_
                            refine opG_no rfl rfl rfl rfl rfl ?_
                            refine opG_no rfl rfl rfl rfl rfl ?_
                            refine opG_yes rfl rfl rfl rfl rfl (r_pickFV (v := .bool _) rfl rfl) ?_
                            refine op rfl (r_pickFV (v := .bool _) rfl rfl) ?_
                            refine WL_nil ?_
                            refine W_else rfl ?_
                            refine W_skip ?_
                            refine W_seq ?_
                            refine W_seq ?_
                            refine W_region ?_
                            refine op rfl (r_fieldAddr rfl Tryd.fld43_1 rfl) ?_
                            refine op rfl (r_load (v := .int .i64 a.kind) rfl Tryd.underlying3 rfl (Blk.cell B22_5 rfl)) ?_
                            refine op rfl (r_neq rfl rfl) ?_
                            refine WL_nil ?_
                            refine W_ifp rfl (fun ht170 => ?_) (fun ht170 => ?_)
                            · have hH' := hsame ht170
                              rw [hH'] at hH22
                              refine W_seq ?_
                              refine W_region ?_
                              refine op rfl (r_moveV (v := hp ph) (by rw [← hpv]; rfl)) ?_
                              refine op rfl (r_moveV (v := hp ph) (by rw [← hpv]; rfl)) ?_
                              refine opCv rfl (r_call Tryd.func17 Tryd.nm17 rfl) (head_spec (hH22.ext hX)) ?_
                              rintro v26 w26 ⟨hv26, hE⟩
                              replace B22_5 := Blk.ext B22_5 hE
                              replace hX := hX.trans hE
                              rw [← hn] at hv26
                              subst hv26
                              refine opCv rfl (r_call Tryd.func23 Tryd.nm23 rfl) (histAt_spec (hH22.ext hX) n) ?_
                              rintro v27 w27 ⟨v27', rfl, hO27, hE⟩
                              replace B22_5 := Blk.ext B22_5 hE
                              replace hX := hX.trans hE
                              have hO27 : OwnT w26 w27 v27' (headT H) := by rw [hn] at hO27; exact hO27
                              obtain ⟨A27, c27, rfl, hc27, hr27⟩ := hO27.rd
                              have hr27' : fiT.Row w27 (old w27) A27 (headT H) := hr27.keep (fun _ _ => rfl) (fun b hb => hb.2)
                              have hX27 := hX
                              clear hX
                              have hX := Ext.refl w27
                              refine op rfl (r_moveV (v := .tuple #[.slice A27 (headT H).length c27, .int .i64 (errR H n)]) rfl) ?_
                              refine op rfl (r_extract (vs := [.slice A27 (headT H).length c27, .int .i64 (errR H n)]) rfl rfl) ?_
                              refine op rfl (r_extract (vs := [.slice A27 (headT H).length c27, .int .i64 (errR H n)]) rfl rfl) ?_
                              refine op rfl (r_assignV (v := .slice A27 (headT H).length c27) rfl) ?_
                              refine op rfl (r_assignV (v := .int .i64 (errR H n)) rfl) ?_
                              refine WL_nil ?_
                              refine W_seq ?_
                              refine W_region ?_
                              refine op rfl (r_moveV (v := hp ph) (by rw [← hpv]; rfl)) ?_
                              refine opCv rfl (r_call Tryd.func17 Tryd.nm17 rfl) (head_spec (hH22.ext (hX27.trans hX))) ?_
                              rintro v28 w28 ⟨hv28, hE⟩
                              replace B22_5 := Blk.ext B22_5 hE
                              replace hX := hX.trans hE
                              rw [← hn] at hv28
                              subst hv28
                              refine op rfl (r_moveV (v := .int _ _) rfl) ?_
                              refine op rfl (r_eql rfl rfl) ?_
                              refine op_true rfl (r_moveV (v := .bool (decide _)) rfl) (rfl) ?_
                              refine opG_yes rfl rfl rfl rfl rfl (r_moveV (v := .slice A27 (headT H).length c27) rfl) ?_
                              refine opG_yes rfl rfl rfl rfl rfl (r_moveV (v := .slice A20 (headT H).length c20) rfl) ?_
                              refine opGCv_yes rfl rfl rfl rfl rfl (r_call Tryd.func25 Tryd.nm25 rfl) (same_spec (hr27'.ext hX) (hwas.ext (hX27.trans hX)) (by have := hgt.1; omega)) ?_
                              rintro v29 w29 ⟨rfl, hE⟩
                              replace B22_5 := Blk.ext B22_5 hE
                              replace hX := hX.trans hE
                              refine op rfl (r_pickTV (v := .bool _) rfl rfl) ?_
                              refine op_true rfl (r_moveV (v := .bool (decide _)) rfl) (rfl) ?_
                              refine opGCv_yes rfl rfl rfl rfl rfl (r_call Tryd.func12 Tryd.nm12 rfl) (known13_spec _) ?_
                              rintro v30 w30 ⟨rfl, hE⟩
                              replace B22_5 := Blk.ext B22_5 hE
                              replace hX := hX.trans hE
                              refine op rfl (r_pickTV (v := .bool _) rfl rfl) ?_
                              refine op rfl (r_assignV (v := .bool _) rfl) ?_
                              refine WL_nil ?_
                              refine W_ret (finX_ret ?_)
                              refine fin1 ?_
                              exact ⟨_, rfl, by first | rfl | exact (bool_tt trivial).symm, by first | exact hX | exact (hX22.trans hX27).trans hX | exact (hX22.trans hX31).trans hX⟩
                            · obtain ⟨hrev, hH'⟩ := hnew (Classical.not_not.1 ht170)
                              refine W_skip ?_
                              refine W_seq ?_
                              refine W_region ?_
                              refine op rfl (r_moveV (v := hp ph) (by rw [← hpv]; rfl)) ?_
                              refine op rfl (r_fieldAddr rfl Tryd.fld43_2 rfl) ?_
                              refine op rfl (r_load (v := .int .i64 a.rev) rfl Tryd.underlying3 rfl (Blk.cell B22_5 rfl)) ?_
                              refine opCv rfl (r_call Tryd.func23 Tryd.nm23 rfl) (histAt_spec (hH22.ext hX) a.rev) ?_
                              rintro v31 w31 ⟨v31', rfl, hO31, hE⟩
                              replace B22_5 := Blk.ext B22_5 hE
                              replace hX := hX.trans hE
                              have hgr : (getR H' a.rev).t = (applyT (headT H) l).2 := by
                                rw [hrev]
                                have h := (getR_at (H := H') (r := H.length) (by rw [hH']; simp)).1
                                rw [h]; simp [hH']
                              rw [hgr] at hO31
                              obtain ⟨A31, c31, rfl, hc31, hr31⟩ := OwnT.rd hO31
                              have hr31' : fiT.Row w31 (old w31) A31 (applyT (headT H) l).2 := hr31.keep (fun _ _ => rfl) (fun b hb => hb.2)
                              have hlen31 : (applyT (headT H) l).2.length ≤ 140737488355328 := by have := (getR_ok (hist_ok hH22) a.rev).1; rw [hgr] at this; omega
                              have hX31 := hX
                              clear hX
                              have hX := Ext.refl w31
                              refine op rfl (r_moveV (v := .tuple #[.slice A31 (applyT (headT H) l).2.length c31, .int .i64 (errR H' a.rev)]) rfl) ?_
                              refine op rfl (r_extract (vs := [.slice A31 (applyT (headT H) l).2.length c31, .int .i64 (errR H' a.rev)]) rfl rfl) ?_
                              refine op rfl (r_extract (vs := [.slice A31 (applyT (headT H) l).2.length c31, .int .i64 (errR H' a.rev)]) rfl rfl) ?_
                              refine op rfl (r_assignV (v := .slice A31 (applyT (headT H) l).2.length c31) rfl) ?_
                              refine op rfl (r_assignV (v := .int .i64 (errR H' a.rev)) rfl) ?_
                              refine WL_nil ?_
                              refine W_seq ?_
                              refine W_region ?_
                              refine op rfl (r_fieldAddr rfl Tryd.fld43_2 rfl) ?_
                              refine op rfl (r_load (v := .int .i64 a.rev) rfl Tryd.underlying3 rfl (Blk.cell B22_5 rfl)) ?_
                              refine op rfl (r_moveV (v := .int _ _) rfl) ?_
                              refine op rfl (r_add' (r := (H.length : Int)) rfl rfl (by rw [wrap_i64 (by omega) (by omega)]; omega)) ?_
                              refine op rfl (r_eql rfl rfl) ?_
                              refine op_true rfl (r_moveV (v := .bool (decide _)) rfl) (hrev) ?_
                              refine opG_yes rfl rfl rfl rfl rfl (r_moveV (v := .slice A31 (applyT (headT H) l).2.length c31) rfl) ?_
                              refine opG_yes rfl rfl rfl rfl rfl (r_moveV (v := .slice A21 (applyT (headT H) l).2.length c21) rfl) ?_
                              refine opGCv_yes rfl rfl rfl rfl rfl (r_call Tryd.func25 Tryd.nm25 rfl) (same_spec (hr31'.ext hX) (hnow.ext (hX31.trans hX)) hlen31) ?_
                              rintro v32 w32 ⟨rfl, hE⟩
                              replace B22_5 := Blk.ext B22_5 hE
                              replace hX := hX.trans hE
                              refine op rfl (r_pickTV (v := .bool _) rfl rfl) ?_
                              refine op_true rfl (r_moveV (v := .bool (decide _)) rfl) (rfl) ?_
                              refine opGCv_yes rfl rfl rfl rfl rfl (r_call Tryd.func12 Tryd.nm12 rfl) (known13_spec _) ?_
                              rintro v33 w33 ⟨rfl, hE⟩
                              replace B22_5 := Blk.ext B22_5 hE
                              replace hX := hX.trans hE
                              refine op rfl (r_pickTV (v := .bool _) rfl rfl) ?_
                              refine op rfl (r_assignV (v := .bool _) rfl) ?_
                              refine WL_nil ?_
                              refine W_ret (finX_ret ?_)
                              refine fin1 ?_
                              exact ⟨_, rfl, by first | rfl | exact (bool_tt trivial).symm, by first | exact hX | exact (hX22.trans hX27).trans hX | exact (hX22.trans hX31).trans hX⟩
                        · refine opG_no rfl rfl rfl rfl rfl ?_
                          refine opG_no rfl rfl rfl rfl rfl ?_
                          refine opG_no rfl rfl rfl rfl rfl ?_
                          refine opG_no rfl rfl rfl rfl rfl ?_
                          refine opG_no rfl rfl rfl rfl rfl ?_
                          refine opG_no rfl rfl rfl rfl rfl ?_
                          refine opG_yes rfl rfl rfl rfl rfl (r_pickFV (v := .bool _) rfl rfl) ?_
                          refine op rfl (r_pickFV (v := .bool _) rfl rfl) ?_
                          refine op rfl (r_moveV (v := .bool _) rfl) ?_
                          refine opG_yes rfl rfl rfl rfl rfl (r_fieldAddr rfl Tryd.fld43_1 rfl) ?_
                          refine opG_yes rfl rfl rfl rfl rfl (r_load (v := .int .i64 a.kind) rfl Tryd.underlying3 rfl (Blk.cell B22_5 rfl)) ?_
                          refine opG_yes rfl rfl rfl rfl rfl (r_eql rfl rfl) ?_
                          refine opG_split rfl rfl rfl rfl rfl (r_moveV (v := .bool (decide _)) rfl) (fun hg161 => ?_) (fun hg161 => ?_)
                          · refine opG_yes rfl rfl rfl rfl rfl (r_fieldAddr rfl Tryd.fld43_3 rfl) ?_
                            refine opG_yes rfl rfl rfl rfl rfl (r_load (v := .int .i64 a.e) rfl Tryd.underlying3 rfl (Blk.cell B22_5 rfl)) ?_
                            refine opG_yes rfl rfl rfl rfl rfl (r_moveV (v := .int .i64 (applyT (headT H) l).1) rfl) ?_
                            refine opG_yes rfl rfl rfl rfl rfl (r_neq rfl rfl) ?_
                            refine opG_yes rfl rfl rfl rfl rfl (r_pickTV (v := .bool _) rfl rfl) ?_
                            refine op rfl (r_pickFV (v := .bool _) rfl rfl) ?_
                            refine WL_nil ?_
                            refine W_ifp rfl (fun ht167 => ?_) (fun ht167 => ?_)
                            · first | exact absurd (ha4 hg161).symm ht167 | exact absurd (ha4 hg161) ht167 | exact ht167.elim | cases ht167
                            · refine W_skip ?_
                              refine W_seq ?_
                              refine W_seq ?_
                              refine W_region ?_
                              refine op rfl (r_fieldAddr rfl Tryd.fld43_1 rfl) ?_
                              refine op rfl (r_load (v := .int .i64 a.kind) rfl Tryd.underlying3 rfl (Blk.cell B22_5 rfl)) ?_
                              refine op rfl (r_neq rfl rfl) ?_
                              refine WL_nil ?_
                              refine W_ifp rfl (fun ht170 => ?_) (fun ht170 => ?_)
                              · have hH' := hsame ht170
                                rw [hH'] at hH22
                                refine W_seq ?_
                                refine W_region ?_
                                refine op rfl (r_moveV (v := hp ph) (by rw [← hpv]; rfl)) ?_
                                refine op rfl (r_moveV (v := hp ph) (by rw [← hpv]; rfl)) ?_
                                refine opCv rfl (r_call Tryd.func17 Tryd.nm17 rfl) (head_spec (hH22.ext hX)) ?_
                                rintro v26 w26 ⟨hv26, hE⟩
                                replace B22_5 := Blk.ext B22_5 hE
                                replace hX := hX.trans hE
                                rw [← hn] at hv26
                                subst hv26
                                refine opCv rfl (r_call Tryd.func23 Tryd.nm23 rfl) (histAt_spec (hH22.ext hX) n) ?_
                                rintro v27 w27 ⟨v27', rfl, hO27, hE⟩
                                replace B22_5 := Blk.ext B22_5 hE
                                replace hX := hX.trans hE
                                have hO27 : OwnT w26 w27 v27' (headT H) := by rw [hn] at hO27; exact hO27
                                obtain ⟨A27, c27, rfl, hc27, hr27⟩ := hO27.rd
                                have hr27' : fiT.Row w27 (old w27) A27 (headT H) := hr27.keep (fun _ _ => rfl) (fun b hb => hb.2)
                                have hX27 := hX
                                clear hX
                                have hX := Ext.refl w27
                                refine op rfl (r_moveV (v := .tuple #[.slice A27 (headT H).length c27, .int .i64 (errR H n)]) rfl) ?_
                                refine op rfl (r_extract (vs := [.slice A27 (headT H).length c27, .int .i64 (errR H n)]) rfl rfl) ?_
                                refine op rfl (r_extract (vs := [.slice A27 (headT H).length c27, .int .i64 (errR H n)]) rfl rfl) ?_
                                refine op rfl (r_assignV (v := .slice A27 (headT H).length c27) rfl) ?_
                                refine op rfl (r_assignV (v := .int .i64 (errR H n)) rfl) ?_
                                refine WL_nil ?_
                                refine W_seq ?_
                                refine W_region ?_
                                refine op rfl (r_moveV (v := hp ph) (by rw [← hpv]; rfl)) ?_
                                refine opCv rfl (r_call Tryd.func17 Tryd.nm17 rfl) (head_spec (hH22.ext (hX27.trans hX))) ?_
                                rintro v28 w28 ⟨hv28, hE⟩
                                replace B22_5 := Blk.ext B22_5 hE
                                replace hX := hX.trans hE
                                rw [← hn] at hv28
                                subst hv28
                                refine op rfl (r_moveV (v := .int _ _) rfl) ?_
                                refine op rfl (r_eql rfl rfl) ?_
                                refine op_true rfl (r_moveV (v := .bool (decide _)) rfl) (rfl) ?_
                                refine opG_yes rfl rfl rfl rfl rfl (r_moveV (v := .slice A27 (headT H).length c27) rfl) ?_
                                refine opG_yes rfl rfl rfl rfl rfl (r_moveV (v := .slice A20 (headT H).length c20) rfl) ?_
                                refine opGCv_yes rfl rfl rfl rfl rfl (r_call Tryd.func25 Tryd.nm25 rfl) (same_spec (hr27'.ext hX) (hwas.ext (hX27.trans hX)) (by have := hgt.1; omega)) ?_
                                rintro v29 w29 ⟨rfl, hE⟩
                                replace B22_5 := Blk.ext B22_5 hE
                                replace hX := hX.trans hE
                                refine op rfl (r_pickTV (v := .bool _) rfl rfl) ?_
                                refine op_true rfl (r_moveV (v := .bool (decide _)) rfl) (rfl) ?_
                                refine opGCv_yes rfl rfl rfl rfl rfl (r_call Tryd.func12 Tryd.nm12 rfl) (known13_spec _) ?_
                                rintro v30 w30 ⟨rfl, hE⟩
                                replace B22_5 := Blk.ext B22_5 hE
                                replace hX := hX.trans hE
                                refine op rfl (r_pickTV (v := .bool _) rfl rfl) ?_
                                refine op rfl (r_assignV (v := .bool _) rfl) ?_
                                refine WL_nil ?_
                                refine W_ret (finX_ret ?_)
                                refine fin1 ?_
                                exact ⟨_, rfl, by first | rfl | exact (bool_tt trivial).symm, by first | exact hX | exact (hX22.trans hX27).trans hX | exact (hX22.trans hX31).trans hX⟩
                              · obtain ⟨hrev, hH'⟩ := hnew (Classical.not_not.1 ht170)
                                refine W_skip ?_
                                refine W_seq ?_
                                refine W_region ?_
                                refine op rfl (r_moveV (v := hp ph) (by rw [← hpv]; rfl)) ?_
                                refine op rfl (r_fieldAddr rfl Tryd.fld43_2 rfl) ?_
                                refine op rfl (r_load (v := .int .i64 a.rev) rfl Tryd.underlying3 rfl (Blk.cell B22_5 rfl)) ?_
                                refine opCv rfl (r_call Tryd.func23 Tryd.nm23 rfl) (histAt_spec (hH22.ext hX) a.rev) ?_
                                rintro v31 w31 ⟨v31', rfl, hO31, hE⟩
                                replace B22_5 := Blk.ext B22_5 hE
                                replace hX := hX.trans hE
                                have hgr : (getR H' a.rev).t = (applyT (headT H) l).2 := by
                                  rw [hrev]
                                  have h := (getR_at (H := H') (r := H.length) (by rw [hH']; simp)).1
                                  rw [h]; simp [hH']
                                rw [hgr] at hO31
                                obtain ⟨A31, c31, rfl, hc31, hr31⟩ := OwnT.rd hO31
                                have hr31' : fiT.Row w31 (old w31) A31 (applyT (headT H) l).2 := hr31.keep (fun _ _ => rfl) (fun b hb => hb.2)
                                have hlen31 : (applyT (headT H) l).2.length ≤ 140737488355328 := by have := (getR_ok (hist_ok hH22) a.rev).1; rw [hgr] at this; omega
                                have hX31 := hX
                                clear hX
                                have hX := Ext.refl w31
                                refine op rfl (r_moveV (v := .tuple #[.slice A31 (applyT (headT H) l).2.length c31, .int .i64 (errR H' a.rev)]) rfl) ?_
                                refine op rfl (r_extract (vs := [.slice A31 (applyT (headT H) l).2.length c31, .int .i64 (errR H' a.rev)]) rfl rfl) ?_
                                refine op rfl (r_extract (vs := [.slice A31 (applyT (headT H) l).2.length c31, .int .i64 (errR H' a.rev)]) rfl rfl) ?_
                                refine op rfl (r_assignV (v := .slice A31 (applyT (headT H) l).2.length c31) rfl) ?_
                                refine op rfl (r_assignV (v := .int .i64 (errR H' a.rev)) rfl) ?_
                                refine WL_nil ?_
                                refine W_seq ?_
                                refine W_region ?_
                                refine op rfl (r_fieldAddr rfl Tryd.fld43_2 rfl) ?_
                                refine op rfl (r_load (v := .int .i64 a.rev) rfl Tryd.underlying3 rfl (Blk.cell B22_5 rfl)) ?_
                                refine op rfl (r_moveV (v := .int _ _) rfl) ?_
                                refine op rfl (r_add' (r := (H.length : Int)) rfl rfl (by rw [wrap_i64 (by omega) (by omega)]; omega)) ?_
                                refine op rfl (r_eql rfl rfl) ?_
                                refine op_true rfl (r_moveV (v := .bool (decide _)) rfl) (hrev) ?_
                                refine opG_yes rfl rfl rfl rfl rfl (r_moveV (v := .slice A31 (applyT (headT H) l).2.length c31) rfl) ?_
                                refine opG_yes rfl rfl rfl rfl rfl (r_moveV (v := .slice A21 (applyT (headT H) l).2.length c21) rfl) ?_
                                refine opGCv_yes rfl rfl rfl rfl rfl (r_call Tryd.func25 Tryd.nm25 rfl) (same_spec (hr31'.ext hX) (hnow.ext (hX31.trans hX)) hlen31) ?_
                                rintro v32 w32 ⟨rfl, hE⟩
                                replace B22_5 := Blk.ext B22_5 hE
                                replace hX := hX.trans hE
                                refine op rfl (r_pickTV (v := .bool _) rfl rfl) ?_
                                refine op_true rfl (r_moveV (v := .bool (decide _)) rfl) (rfl) ?_
                                refine opGCv_yes rfl rfl rfl rfl rfl (r_call Tryd.func12 Tryd.nm12 rfl) (known13_spec _) ?_
                                rintro v33 w33 ⟨rfl, hE⟩
                                replace B22_5 := Blk.ext B22_5 hE
                                replace hX := hX.trans hE
                                refine op rfl (r_pickTV (v := .bool _) rfl rfl) ?_
                                refine op rfl (r_assignV (v := .bool _) rfl) ?_
                                refine WL_nil ?_
                                refine W_ret (finX_ret ?_)
                                refine fin1 ?_
                                exact ⟨_, rfl, by first | rfl | exact (bool_tt trivial).symm, by first | exact hX | exact (hX22.trans hX27).trans hX | exact (hX22.trans hX31).trans hX⟩
                          · refine opG_no rfl rfl rfl rfl rfl ?_
                            refine opG_no rfl rfl rfl rfl rfl ?_
                            refine opG_no rfl rfl rfl rfl rfl ?_
                            refine opG_no rfl rfl rfl rfl rfl ?_
                            refine opG_yes rfl rfl rfl rfl rfl (r_pickFV (v := .bool _) rfl rfl) ?_
                            refine op rfl (r_pickFV (v := .bool _) rfl rfl) ?_
                            refine WL_nil ?_
                            refine W_else rfl ?_
                            refine W_skip ?_
                            refine W_seq ?_
                            refine W_seq ?_
                            refine W_region ?_
                            refine op rfl (r_fieldAddr rfl Tryd.fld43_1 rfl) ?_
                            refine op rfl (r_load (v := .int .i64 a.kind) rfl Tryd.underlying3 rfl (Blk.cell B22_5 rfl)) ?_
                            refine op rfl (r_neq rfl rfl) ?_
                            refine WL_nil ?_
                            refine W_ifp rfl (fun ht170 => ?_) (fun ht170 => ?_)
                            · have hH' := hsame ht170
                              rw [hH'] at hH22
                              refine W_seq ?_
                              refine W_region ?_
                              refine op rfl (r_moveV (v := hp ph) (by rw [← hpv]; rfl)) ?_
                              refine op rfl (r_moveV (v := hp ph) (by rw [← hpv]; rfl)) ?_
                              refine opCv rfl (r_call Tryd.func17 Tryd.nm17 rfl) (head_spec (hH22.ext hX)) ?_
                              rintro v26 w26 ⟨hv26, hE⟩
                              replace B22_5 := Blk.ext B22_5 hE
                              replace hX := hX.trans hE
                              rw [← hn] at hv26
                              subst hv26
                              refine opCv rfl (r_call Tryd.func23 Tryd.nm23 rfl) (histAt_spec (hH22.ext hX) n) ?_
                              rintro v27 w27 ⟨v27', rfl, hO27, hE⟩
                              replace B22_5 := Blk.ext B22_5 hE
                              replace hX := hX.trans hE
                              have hO27 : OwnT w26 w27 v27' (headT H) := by rw [hn] at hO27; exact hO27
                              obtain ⟨A27, c27, rfl, hc27, hr27⟩ := hO27.rd
                              have hr27' : fiT.Row w27 (old w27) A27 (headT H) := hr27.keep (fun _ _ => rfl) (fun b hb => hb.2)
                              have hX27 := hX
                              clear hX
                              have hX := Ext.refl w27
                              refine op rfl (r_moveV (v := .tuple #[.slice A27 (headT H).length c27, .int .i64 (errR H n)]) rfl) ?_
                              refine op rfl (r_extract (vs := [.slice A27 (headT H).length c27, .int .i64 (errR H n)]) rfl rfl) ?_
                              refine op rfl (r_extract (vs := [.slice A27 (headT H).length c27, .int .i64 (errR H n)]) rfl rfl) ?_
                              refine op rfl (r_assignV (v := .slice A27 (headT H).length c27) rfl) ?_
                              refine op rfl (r_assignV (v := .int .i64 (errR H n)) rfl) ?_
                              refine WL_nil ?_
                              refine W_seq ?_
                              refine W_region ?_
                              refine op rfl (r_moveV (v := hp ph) (by rw [← hpv]; rfl)) ?_
                              refine opCv rfl (r_call Tryd.func17 Tryd.nm17 rfl) (head_spec (hH22.ext (hX27.trans hX))) ?_
                              rintro v28 w28 ⟨hv28, hE⟩
                              replace B22_5 := Blk.ext B22_5 hE
                              replace hX := hX.trans hE
                              rw [← hn] at hv28
                              subst hv28
                              refine op rfl (r_moveV (v := .int _ _) rfl) ?_
                              refine op rfl (r_eql rfl rfl) ?_
                              refine op_true rfl (r_moveV (v := .bool (decide _)) rfl) (rfl) ?_
                              refine opG_yes rfl rfl rfl rfl rfl (r_moveV (v := .slice A27 (headT H).length c27) rfl) ?_
                              refine opG_yes rfl rfl rfl rfl rfl (r_moveV (v := .slice A20 (headT H).length c20) rfl) ?_
                              refine opGCv_yes rfl rfl rfl rfl rfl (r_call Tryd.func25 Tryd.nm25 rfl) (same_spec (hr27'.ext hX) (hwas.ext (hX27.trans hX)) (by have := hgt.1; omega)) ?_
                              rintro v29 w29 ⟨rfl, hE⟩
                              replace B22_5 := Blk.ext B22_5 hE
                              replace hX := hX.trans hE
                              refine op rfl (r_pickTV (v := .bool _) rfl rfl) ?_
                              refine op_true rfl (r_moveV (v := .bool (decide _)) rfl) (rfl) ?_
                              refine opGCv_yes rfl rfl rfl rfl rfl (r_call Tryd.func12 Tryd.nm12 rfl) (known13_spec _) ?_
                              rintro v30 w30 ⟨rfl, hE⟩
                              replace B22_5 := Blk.ext B22_5 hE
                              replace hX := hX.trans hE
                              refine op rfl (r_pickTV (v := .bool _) rfl rfl) ?_
                              refine op rfl (r_assignV (v := .bool _) rfl) ?_
                              refine WL_nil ?_
                              refine W_ret (finX_ret ?_)
                              refine fin1 ?_
                              exact ⟨_, rfl, by first | rfl | exact (bool_tt trivial).symm, by first | exact hX | exact (hX22.trans hX27).trans hX | exact (hX22.trans hX31).trans hX⟩
                            · obtain ⟨hrev, hH'⟩ := hnew (Classical.not_not.1 ht170)
                              refine W_skip ?_
                              refine W_seq ?_
                              refine W_region ?_
                              refine op rfl (r_moveV (v := hp ph) (by rw [← hpv]; rfl)) ?_
                              refine op rfl (r_fieldAddr rfl Tryd.fld43_2 rfl) ?_
                              refine op rfl (r_load (v := .int .i64 a.rev) rfl Tryd.underlying3 rfl (Blk.cell B22_5 rfl)) ?_
                              refine opCv rfl (r_call Tryd.func23 Tryd.nm23 rfl) (histAt_spec (hH22.ext hX) a.rev) ?_
                              rintro v31 w31 ⟨v31', rfl, hO31, hE⟩
                              replace B22_5 := Blk.ext B22_5 hE
                              replace hX := hX.trans hE
                              have hgr : (getR H' a.rev).t = (applyT (headT H) l).2 := by
                                rw [hrev]
                                have h := (getR_at (H := H') (r := H.length) (by rw [hH']; simp)).1
                                rw [h]; simp [hH']
                              rw [hgr] at hO31
                              obtain ⟨A31, c31, rfl, hc31, hr31⟩ := OwnT.rd hO31
                              have hr31' : fiT.Row w31 (old w31) A31 (applyT (headT H) l).2 := hr31.keep (fun _ _ => rfl) (fun b hb => hb.2)
                              have hlen31 : (applyT (headT H) l).2.length ≤ 140737488355328 := by have := (getR_ok (hist_ok hH22) a.rev).1; rw [hgr] at this; omega
                              have hX31 := hX
                              clear hX
                              have hX := Ext.refl w31
                              refine op rfl (r_moveV (v := .tuple #[.slice A31 (applyT (headT H) l).2.length c31, .int .i64 (errR H' a.rev)]) rfl) ?_
                              refine op rfl (r_extract (vs := [.slice A31 (applyT (headT H) l).2.length c31, .int .i64 (errR H' a.rev)]) rfl rfl) ?_
                              refine op rfl (r_extract (vs := [.slice A31 (applyT (headT H) l).2.length c31, .int .i64 (errR H' a.rev)]) rfl rfl) ?_
                              refine op rfl (r_assignV (v := .slice A31 (applyT (headT H) l).2.length c31) rfl) ?_
                              refine op rfl (r_assignV (v := .int .i64 (errR H' a.rev)) rfl) ?_
                              refine WL_nil ?_
                              refine W_seq ?_
                              refine W_region ?_
                              refine op rfl (r_fieldAddr rfl Tryd.fld43_2 rfl) ?_
                              refine op rfl (r_load (v := .int .i64 a.rev) rfl Tryd.underlying3 rfl (Blk.cell B22_5 rfl)) ?_
                              refine op rfl (r_moveV (v := .int _ _) rfl) ?_
                              refine op rfl (r_add' (r := (H.length : Int)) rfl rfl (by rw [wrap_i64 (by omega) (by omega)]; omega)) ?_
                              refine op rfl (r_eql rfl rfl) ?_
                              refine op_true rfl (r_moveV (v := .bool (decide _)) rfl) (hrev) ?_
                              refine opG_yes rfl rfl rfl rfl rfl (r_moveV (v := .slice A31 (applyT (headT H) l).2.length c31) rfl) ?_
                              refine opG_yes rfl rfl rfl rfl rfl (r_moveV (v := .slice A21 (applyT (headT H) l).2.length c21) rfl) ?_
                              refine opGCv_yes rfl rfl rfl rfl rfl (r_call Tryd.func25 Tryd.nm25 rfl) (same_spec (hr31'.ext hX) (hnow.ext (hX31.trans hX)) hlen31) ?_
                              rintro v32 w32 ⟨rfl, hE⟩
                              replace B22_5 := Blk.ext B22_5 hE
                              replace hX := hX.trans hE
                              refine op rfl (r_pickTV (v := .bool _) rfl rfl) ?_
                              refine op_true rfl (r_moveV (v := .bool (decide _)) rfl) (rfl) ?_
                              refine opGCv_yes rfl rfl rfl rfl rfl (r_call Tryd.func12 Tryd.nm12 rfl) (known13_spec _) ?_
                              rintro v33 w33 ⟨rfl, hE⟩
                              replace B22_5 := Blk.ext B22_5 hE
                              replace hX := hX.trans hE
                              refine op rfl (r_pickTV (v := .bool _) rfl rfl) ?_
                              refine op rfl (r_assignV (v := .bool _) rfl) ?_
                              refine WL_nil ?_
                              refine W_ret (finX_ret ?_)
                              refine fin1 ?_
                              exact ⟨_, rfl, by first | rfl | exact (bool_tt trivial).symm, by first | exact hX | exact (hX22.trans hX27).trans hX | exact (hX22.trans hX31).trans hX⟩
theorem queueConflicts_row (W : World) (A0 : Option Addr) (c0 : Nat) (l0 : List Fi) (h0 : l0.length ≤ c0) (b0 : l0.length ≤ big) (r0 : fiT.Row W (old W) A0 l0) (A1 : Option Addr) (c1 : Nat) (l1 : List (List Dl)) (h1 : l1.length ≤ c1) (b1 : l1.length ≤ big) (r1 : dlsT.Row W (old W) A1 l1) (i : Int) (hi : inK .u8 i) (A2 : Option Addr) (c2 : Nat) (l2 : List Dl) (h2 : l2.length ≤ c2) (b2 : l2.length * 48 ≤ big) (r2 : dlT.Row W (old W) A2 l2) :
    Calls Tryd.prog 5 #[.slice A0 l0.length c0, .slice A1 l1.length c1, .int .u8 i, .slice A2 l2.length c2] W (fun e W' => ∃ v, e = .returned v ∧ v = .bool true ∧ Ext W W') :=
  queueConflicts_walk r0 b0 r1 b1 (by simp only [inK, lo, Go.Eng.hi] at hi; exact hi) r2 b2
end Go.Proofs.YtmedmajdoecjfaaDoor
