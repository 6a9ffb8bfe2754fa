/-
  There are as many areas as were asked for; of all others nothing is read, and nothing done: the walk.
-/
import Derived.Test.YtfgffaphpedimaaFacts
import Derived.Test.YtfgffaphpedimaaDiskK
import Derived.Test.YtfgffaphpedimaaDiskV
namespace Go.Proofs.Ytfgffaphpedimaa
open Go Go.Eng Go.RowKit Go.Proofs
set_option linter.unusedVariables false
set_option maxHeartbeats 2000000
set_option maxRecDepth 20000

theorem diskAreas_walk (W : World) (areas : Int) (ha : inK .i64 areas) (a : Int) (hai : inK .i64 a) (A : Option Addr) (c : Nat) (b : List UInt8) (hc : b.length ≤ c) (hb : b.length ≤ big) (hA : Ty.byte.Row W (old W) A b) :
    Calls Try.prog 6 #[.int .i64 areas, .int .i64 a, .slice A b.length c] W (fun e W' => ∃ v, e = .returned v ∧ v = .bool true ∧ Ext W W') := by
  clear ha hai
  have hbb : b.length ≤ 140737488355328 := hb
  clear hb
  refine calls' (n := 82) (rs := #[.tmp 6]) (l := [.int .i64 areas, .int .i64 a, .slice A b.length c]) Try.func6 rfl rfl rfl rfl rfl ?_
  refine W_seq ?_
  refine W_region ?_
  refine op rfl (r_assignV (v := .bool _) rfl) ?_
  refine WL_nil ?_
  refine W_seq ?_
  refine W_seq ?_
  refine W_region ?_
  refine op rfl (r_moveV (v := .slice _ _ _) rfl) ?_
  refine op rfl (r_len_slice rfl Try.underlying23) ?_
  refine op rfl (r_gtr rfl rfl) ?_
  refine WL_nil ?_
  refine W_ifp rfl (fun ht15 => ?_) (fun ht15 => ?_)
  · refine W_seq ?_
    refine W_region ?_
    refine opCv rfl (r_call Try.func10 Try.nm10 rfl) (known_spec _) ?_
    rintro v w2 ⟨rfl, hE2⟩
    refine op rfl (r_assignV (v := .bool _) rfl) ?_
    refine WL_nil ?_
    refine W_ret (finX_ret ?_)
    refine fin1 ?_
    exact ⟨_, rfl, rfl, hE2⟩
  · have hb200 : b.length ≤ 200 := by omega
    obtain ⟨hl1, hl2, hl3, hl4, hl5, hl6⟩ := areas_law areas a b hb200
    have hw0 := WF.new areas 1000
    have hw1 := hw0.append a b
    have hw2 := hw1.sync a
    have hw3 := hw2.cut a 0
    have hth : (Dk.new areas 1000).there a ↔ (0 ≤ a ∧ a < max 0 (min areas 8)) := by
      unfold Dk.there; simp only [Dk.new]; omega
    generalize hgD0 : Dk.new areas 1000 = D0 at hl1 hl2 hl3 hl4 hl5 hl6 hw0 hw1 hw2 hw3 hth
    generalize hgD1 : (D0.append a b).1 = D1 at hl1 hl2 hl3 hl4 hl5 hl6 hw1 hw2 hw3
    generalize hgD2 : (D1.sync a).1 = D2 at hl1 hl2 hl3 hl4 hl5 hl6 hw2 hw3
    generalize hgD3 : (D2.cut a 0).1 = D3 at hl1 hl2 hl3 hl4 hl5 hl6 hw3
    obtain ⟨wnt, hwnt⟩ : ∃ q : Int, (if D0.there a then 0 else 2) = q := ⟨_, rfl⟩
    rw [hwnt] at hl1 hl2 hl3
    refine W_skip ?_
    refine W_seq ?_
    refine W_region ?_
    refine op rfl (r_moveV (v := .int _ _) rfl) ?_
    refine opCv rfl (r_call Try.func11 Try.nm11 rfl) (new_da areas 1000 _) ?_
    rintro v w1 ⟨p, rfl, hE1, hD0⟩
    rw [hgD0] at hD0
    refine op rfl (r_assignV (v := .pointer _) rfl) ?_
    refine WL_nil ?_
    refine W_cut [8, 19, 20, 21, 22, 23, 24, 25, 26, 27] (fun e' w' => e' 8 = .bool (decide (D0.there a)) ∧ Ext W w' ∧ DA p W.heap.size w' D0) ?_ ?_
    · refine W_region ?_
      refine op rfl (r_moveV (v := .int _ _) rfl) ?_
      refine op rfl (r_geq rfl rfl) ?_
      refine op_split rfl (r_moveV (v := .bool (decide _)) rfl) (fun hg21 => ?_) (fun hg21 => ?_)
      · refine opG_yes rfl rfl rfl rfl rfl (r_moveV (v := .int _ _) rfl) ?_
        refine opG_yes rfl rfl rfl rfl rfl (r_moveV (v := .int _ _) rfl) ?_
        refine opG_yes rfl rfl rfl rfl rfl (r_min2 rfl rfl) ?_
        refine opG_yes rfl rfl rfl rfl rfl (r_max2 rfl rfl) ?_
        refine opG_yes rfl rfl rfl rfl rfl (r_lss rfl rfl) ?_
        refine op rfl (r_pickTV (v := .bool _) rfl rfl) ?_
        refine op rfl (r_assignV (v := .bool _) rfl) ?_
        refine WL_nil ?_
        refine ⟨?_, by repeat (first | with_reducible exact Out.refl _ _ | with_reducible exact Out.mix | refine Out.put rfl ?_ | refine Out.mixin rfl ?_ | exact Out.refl _ _ | exact Out.mix)⟩
        exact ⟨by first | exact bool_ff (by rw [hth]; omega) | exact bool_iff (by rw [hth]; omega), hE1, hD0⟩
      · refine opG_no rfl rfl rfl rfl rfl ?_
        refine opG_no rfl rfl rfl rfl rfl ?_
        refine opG_no rfl rfl rfl rfl rfl ?_
        refine opG_no rfl rfl rfl rfl rfl ?_
        refine opG_no rfl rfl rfl rfl rfl ?_
        refine op rfl (r_pickFV (v := .bool _) rfl rfl) ?_
        refine op rfl (r_assignV (v := .bool _) rfl) ?_
        refine WL_nil ?_
        refine ⟨?_, by repeat (first | with_reducible exact Out.refl _ _ | with_reducible exact Out.mix | refine Out.put rfl ?_ | refine Out.mixin rfl ?_ | exact Out.refl _ _ | exact Out.mix)⟩
        exact ⟨by first | exact bool_ff (by rw [hth]; omega) | exact bool_iff (by rw [hth]; omega), hE1, hD0⟩
    rintro gregion4 w' hJ
    obtain ⟨h8, hE1', hD0'⟩ := hJ
    clear hE1 hD0
    have hE1 := hE1'
    have hD0 := hD0'
    clear hE1' hD0'
    refine W_set (i := 8) h8 ?_
    refine W_seq ?_
    refine W_region ?_
    refine op rfl (r_moveV (v := .pointer _) rfl) ?_
    refine op rfl (r_moveV (v := .int _ _) rfl) ?_
    refine op rfl (r_moveV (v := .slice _ _ _) rfl) ?_
    refine opCv rfl (r_call Try.func12 Try.nm12 rfl) (append_da hD0 hw0 (by omega) a A c b hbb (F := old W) (fun x hx ↦ hx) (hA.keep hE1.same (fun _ h ↦ h))) ?_
    rintro v w2 ⟨rfl, hD1, hB1⟩
    rw [hgD1] at hD1
    rw [hl1]
    have hX1 : Ext W w2 := Below.trans hE1 hB1
    refine op rfl (r_assignV (v := .int _ _) rfl) ?_
    refine WL_nil ?_
    refine W_seq ?_
    refine W_region ?_
    refine op rfl (r_moveV (v := .pointer _) rfl) ?_
    refine op rfl (r_moveV (v := .int _ _) rfl) ?_
    refine opCv rfl (r_call Try.func13 Try.nm13 rfl) (sync_da hD1 hw1 (by omega) a) ?_
    rintro v w3 ⟨rfl, hD2, hB2⟩
    rw [hgD2] at hD2
    rw [hl2]
    have hX2 : Ext W w3 := Below.trans hX1 hB2
    refine op rfl (r_assignV (v := .int _ _) rfl) ?_
    refine WL_nil ?_
    refine W_seq ?_
    refine W_region ?_
    refine op rfl (r_moveV (v := .pointer _) rfl) ?_
    refine op rfl (r_moveV (v := .int _ _) rfl) ?_
    refine opCv rfl (r_call Try.func19 Try.nm19 rfl) (cut_da hD2 hw2 (by omega) a 0) ?_
    rintro v w4 ⟨rfl, hD3, hB3⟩
    rw [hgD3] at hD3
    rw [hl3]
    have hX3 : Ext W w4 := Below.trans hX2 hB3
    refine op rfl (r_assignV (v := .int _ _) rfl) ?_
    refine WL_nil ?_
    refine W_seq ?_
    refine W_region ?_
    refine op rfl (r_assignV (v := .int _ _) rfl) ?_
    refine WL_nil ?_
    refine W_cut [12, 38, 39] (fun e' w' => e' 12 = .int .i64 wnt ∧ Ext W w' ∧ DA p W.heap.size w' D3) ?_ ?_
    · refine W_seq ?_
      refine W_region ?_
      refine op rfl (r_moveV (v := .bool _) rfl) ?_
      refine op rfl (r_notP rfl) ?_
      refine WL_nil ?_
      refine W_ifp rfl (fun ht39 => ?_) (fun ht39 => ?_)
      · refine W_region ?_
        refine op rfl (r_assignV (v := .int _ _) rfl) ?_
        refine WL_nil ?_
        refine ⟨?_, by repeat (first | with_reducible exact Out.refl _ _ | with_reducible exact Out.mix | refine Out.put rfl ?_ | refine Out.mixin rfl ?_ | exact Out.refl _ _ | exact Out.mix)⟩
        exact ⟨by rw [← hwnt]; first | (rw [if_neg ht39] <;> rfl) | (rw [if_pos (Classical.byContradiction ht39)] <;> rfl), hX3, hD3⟩
      · refine W_skip ?_
        refine ⟨?_, by repeat (first | with_reducible exact Out.refl _ _ | with_reducible exact Out.mix | refine Out.put rfl ?_ | refine Out.mixin rfl ?_ | exact Out.refl _ _ | exact Out.mix)⟩
        exact ⟨by rw [← hwnt]; first | (rw [if_neg ht39] <;> rfl) | (rw [if_pos (Classical.byContradiction ht39)] <;> rfl), hX3, hD3⟩
    rintro gift39 w' hJ
    obtain ⟨h12, hX3', hD3'⟩ := hJ
    clear hX3 hD3
    have hX3 := hX3'
    have hD3 := hD3'
    clear hX3' hD3'
    refine W_set (i := 12) h12 ?_
    refine W_seq ?_
    refine W_seq ?_
    refine W_region ?_
    refine op rfl (r_moveV (v := .int _ _) rfl) ?_
    refine op rfl (r_moveV (v := .int _ _) rfl) ?_
    refine op rfl (r_neq rfl rfl) ?_
    refine op_false rfl (r_moveV (v := .bool (decide _)) rfl) (fun h => h rfl) ?_
    refine opG_yes rfl rfl rfl rfl rfl (r_moveV (v := .int _ _) rfl) ?_
    refine opG_yes rfl rfl rfl rfl rfl (r_moveV (v := .int _ _) rfl) ?_
    refine opG_yes rfl rfl rfl rfl rfl (r_neq rfl rfl) ?_
    refine op rfl (r_pickFV (v := .bool _) rfl rfl) ?_
    refine op_false rfl (r_moveV (v := .bool (decide _)) rfl) (fun h => h rfl) ?_
    refine opG_yes rfl rfl rfl rfl rfl (r_moveV (v := .int _ _) rfl) ?_
    refine opG_yes rfl rfl rfl rfl rfl (r_moveV (v := .int _ _) rfl) ?_
    refine opG_yes rfl rfl rfl rfl rfl (r_neq rfl rfl) ?_
    refine op rfl (r_pickFV (v := .bool _) rfl rfl) ?_
    refine WL_nil ?_
    refine W_ifp rfl (fun ht52 => ?_) (fun ht52 => ?_)
    · exact absurd rfl ht52
    · refine W_skip ?_
      refine W_seq ?_
      refine W_region ?_
      refine op rfl (r_moveV (v := .pointer _) rfl) ?_
      refine op rfl (r_moveV (v := .int _ _) rfl) ?_
      refine opCv rfl (r_call Try.func14 Try.nm14 rfl) (read_da hD3 hw3 (by omega) a) ?_
      rintro v w5 ⟨A5, c5, rfl, hE5, hR5⟩
      have hX5 := hX3.trans hE5
      have hD5 := hD3.ext hE5
      refine op rfl (r_len_slice rfl Try.underlying23) ?_
      refine op rfl (r_eql rfl rfl) ?_
      refine op_true rfl (r_moveV (v := .bool (decide _)) rfl) (by rw [hl4]; rfl) ?_
      refine opG_yes rfl rfl rfl rfl rfl (r_moveV (v := .bool _) rfl) ?_
      refine opG_split rfl rfl rfl rfl rfl (r_moveV (v := .bool (decide _)) rfl) (fun hg60 => ?_) (fun hg60 => ?_)
      · refine opG_yes rfl rfl rfl rfl rfl (r_moveV (v := .pointer _) rfl) ?_
        refine opG_yes rfl rfl rfl rfl rfl (r_moveV (v := .int _ _) rfl) ?_
        refine opGCv_yes rfl rfl rfl rfl rfl (r_call Try.func17 Try.nm17 rfl) (lasting_da hD5 hw3 (by omega) a) ?_
        rintro v w6 ⟨A6, c6, rfl, hE6, hR6⟩
        have hX6 := hX5.trans hE6
        refine opG_yes rfl rfl rfl rfl rfl (r_moveV (v := .slice _ _ _) rfl) ?_
        refine opGCv_yes rfl rfl rfl rfl rfl (r_call Try.func16 Try.nm16 rfl) (same_spec A6 c6 _ A c b _ hR6 (hA.ext hX6)) ?_
        rintro v w7 ⟨rfl, hE7⟩
        have hX7 := hX6.trans hE7
        refine opG_yes rfl rfl rfl rfl rfl (r_pickTV (v := .bool _) rfl rfl) ?_
        refine opG_true rfl rfl rfl rfl rfl (r_moveV (v := .bool (decide _)) rfl) (hl5 hg60) ?_
        refine opG_no rfl rfl rfl rfl rfl ?_
        refine opG_no rfl rfl rfl rfl rfl ?_
        refine opG_no rfl rfl rfl rfl rfl ?_
        refine opG_none rfl rfl rfl rfl ?_
        refine opG_none rfl rfl rfl rfl ?_
        refine opG_none rfl rfl rfl rfl ?_
        refine opG_none rfl rfl rfl rfl ?_
        refine opG_none rfl rfl rfl rfl ?_
        refine opG_no rfl rfl rfl rfl rfl ?_
        refine opG_yes rfl rfl rfl rfl rfl (r_pickTV (v := .bool _) rfl rfl) ?_
        refine op rfl (r_pickTV (v := .bool _) rfl rfl) ?_
        refine op rfl (r_moveV (v := .bool _) rfl) ?_
        refine opGCv_yes rfl rfl rfl rfl rfl (r_call Try.func10 Try.nm10 rfl) (known_spec _) ?_
        rintro v w8 ⟨rfl, hE8⟩
        refine op rfl (r_pickTV (v := .bool _) rfl rfl) ?_
        refine op rfl (r_assignV (v := .bool _) rfl) ?_
        refine WL_nil ?_
        refine W_ret (finX_ret ?_)
        refine fin1 ?_
        exact ⟨_, rfl, rfl, hX7.trans hE8⟩
      · refine opG_no rfl rfl rfl rfl rfl ?_
        refine opG_no rfl rfl rfl rfl rfl ?_
        refine opG_no rfl rfl rfl rfl rfl ?_
        refine opG_no rfl rfl rfl rfl rfl ?_
        refine opG_no rfl rfl rfl rfl rfl ?_
        refine opG_yes rfl rfl rfl rfl rfl (r_pickFV (v := .bool _) rfl rfl) ?_
        refine opG_yes rfl rfl rfl rfl rfl (r_moveV (v := .bool _) rfl) ?_
        refine opG_yes rfl rfl rfl rfl rfl (r_moveV (v := .bool _) rfl) ?_
        refine opG_yes rfl rfl rfl rfl rfl (r_notP rfl) ?_
        refine opG_true rfl rfl rfl rfl rfl (r_moveV (v := .bool (decide _)) rfl) (hg60) ?_
        refine opG_yes rfl rfl rfl rfl rfl (r_moveV (v := .pointer _) rfl) ?_
        refine opG_yes rfl rfl rfl rfl rfl (r_moveV (v := .int _ _) rfl) ?_
        refine opGCv_yes rfl rfl rfl rfl rfl (r_call Try.func17 Try.nm17 rfl) (lasting_da hD5 hw3 (by omega) a) ?_
        rintro v w6 ⟨A6, c6, rfl, hE6, hR6⟩
        have hX7 := hX5.trans hE6
        refine opG_yes rfl rfl rfl rfl rfl (r_len_slice rfl Try.underlying23) ?_
        refine opG_yes rfl rfl rfl rfl rfl (r_eql rfl rfl) ?_
        refine opG_yes rfl rfl rfl rfl rfl (r_pickTV (v := .bool _) rfl rfl) ?_
        refine opG_yes rfl rfl rfl rfl rfl (r_pickFV (v := .bool _) rfl rfl) ?_
        refine op rfl (r_pickTV (v := .bool _) rfl rfl) ?_
        refine op_true rfl (r_moveV (v := .bool (decide _)) rfl) (by rw [hl6 hg60]; rfl) ?_
        refine opGCv_yes rfl rfl rfl rfl rfl (r_call Try.func10 Try.nm10 rfl) (known_spec _) ?_
        rintro v w8 ⟨rfl, hE8⟩
        refine op rfl (r_pickTV (v := .bool _) rfl rfl) ?_
        refine op rfl (r_assignV (v := .bool _) rfl) ?_
        refine WL_nil ?_
        refine W_ret (finX_ret ?_)
        refine fin1 ?_
        exact ⟨_, rfl, rfl, hX7.trans hE8⟩
end Go.Proofs.Ytfgffaphpedimaa
