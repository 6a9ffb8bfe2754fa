/-
  What is printed is parsed as it was; what is parsed is printed, and parsed again; lines without a byte make no difference: the walk.
-/
import Derived.Test.YtafcaigjijajnaaDoorFacts
import Derived.Test.YtafcaigjijajnaaDoorRulePl
namespace Go.Proofs.YtafcaigjijajnaaDoor
open Go Go.Eng Go.RowKit Go.Proofs
set_option linter.unusedVariables false
set_option linter.unusedSimpArgs false
set_option maxHeartbeats 1000000
set_option maxRecDepth 20000

theorem parse_wrapped {l : List Ru} (h : ∀ r ∈ l, ruR r) (hl : l.length ≤ 50) (hn : (textR l).length + 2 ≤ 16384) : parseR (([10] ++ textR l) ++ [10]) = (l, 0) := by
  have e : ([10] ++ textR l) ++ [10] = [] ++ 10 :: (textR l ++ ([] ++ 10 :: [])) := by simp
  unfold parseR
  rw [if_neg (by rw [e]; simp; omega), e, parts_app (by simp), text_parts h, parts_app (by simp)]
  have h1 : linesR ([] :: (l.map lineR ++ [] :: parts 10 [])) = some l := by
    have h2 := lines_text h
    show linesR (l.map lineR ++ [[], []]) = some l
    rw [lines_app, h2]
    simp [linesR]
  rw [h1]
  simp only
  rw [if_neg (by omega)]
theorem parse_err {s : List UInt8} (h : (parseR s).2 ≠ 0) : (parseR s).1 = [] := by
  unfold parseR at h ⊢
  split
  · rfl
  · rename_i h1
    rw [if_neg h1] at h
    split at h
    · rename_i l hl
      split at h
      · rename_i h2; simp only [hl, h2, if_true]
      · exact absurd rfl h
    · rename_i hl; simp only [hl]
/-- What is parsed is printed, and parsed again. -/
theorem parse_again {s : List UInt8} (hs : s.length ≤ 1500) (h : (parseR s).2 = 0) :
    (∀ r ∈ (parseR s).1, ruR r) ∧ (parseR s).1.length ≤ 50 ∧ printR (parseR s).1 = (textR (parseR s).1, 0) ∧ parseR (textR (parseR s).1) = ((parseR s).1, 0) ∧ (textR (parseR s).1).length ≤ 1501 := by
  unfold parseR at h
  rw [if_neg (by omega)] at h
  split at h
  · rename_i l hl
    split at h
    · cases h
    · rename_i h50
      have hp : parseR s = (l, 0) := by unfold parseR; rw [if_neg (by omega), hl]; simp only; rw [if_neg h50]
      obtain ⟨q1, q2, q3⟩ := lines_right hl
      rw [parts_sum] at q2
      rw [hp]
      refine ⟨q1, by show l.length ≤ 50; omega, ?_, ?_, by show (textR l).length ≤ 1501; omega⟩
      · show printR l = _
        unfold printR
        rw [if_pos q1, if_neg h50]
      · show parseR (textR l) = _
        unfold parseR
        rw [if_neg (by omega), parse_text q1]
        simp only
        rw [if_neg h50]
  · cases h
theorem ruleBack_walk {A : Option Addr} {c : Nat} {l : List Ru} (s : List UInt8) (W : World) (hG : Gl W) (hl : l.length ≤ big) (hA : ruT.Row W (old W) A l) (hs : s.length ≤ big) :
    Calls Tryd.prog 5 #[.slice A l.length c, .string (str s)] W (fun en w' => ∃ v, en = .returned v ∧ v = .bool true ∧ Ext W w') := by
  have hbig : big = 140737488355328 := rfl
  have hPl : ∀ w, Gl w → Ext W w → l.length ≤ 1000 → (l.map lenRu).sum ≤ 2500 → Calls Tryd.prog 22 #[.slice A l.length c] w (fun en w' => ∃ v, en = .returned v ∧ v = .tuple #[sv (printR l).1, .int .i64 (printR l).2] ∧ Ext w w') := fun w hw hE h1 h2 => print_spec hw (hA.ext hE) h1 (len_each h2 (by omega))
  refine calls' (n := 112) (rs := #[.tmp 4]) (l := [.slice A l.length c, .string (str s)]) Tryd.func5 rfl rfl rfl rfl rfl ?_
  have hX := Ext.refl W
  refine W_seq ?_
  refine W_region ?_
  refine op rfl (r_assignV (v := .bool _) rfl) ?_
  refine WL_nil ?_
  refine W_seq ?_
  refine W_seq ?_
  refine W_region ?_
  refine op rfl (r_moveV (v := .slice _ _ _) rfl) ?_
  refine op rfl (r_len_slice rfl Tryd.underlying23) ?_
  refine op rfl (r_gtr rfl rfl) ?_
  refine op_split rfl (r_moveV (v := .bool (decide _)) rfl) (fun hg19 => ?_) (fun hg19 => ?_)
  · refine opG_no rfl rfl rfl rfl rfl ?_
    refine opG_no rfl rfl rfl rfl rfl ?_
    refine opG_no rfl rfl rfl rfl rfl ?_
    refine op rfl (r_pickTV (v := .bool _) rfl rfl) ?_
    refine op rfl (r_moveV (v := .bool _) rfl) ?_
    refine opG_no rfl rfl rfl rfl rfl ?_
    refine opG_no rfl rfl rfl rfl rfl ?_
    refine opG_no rfl rfl rfl rfl rfl ?_
    refine op rfl (r_pickTV (v := .bool _) rfl rfl) ?_
    refine WL_nil ?_
    refine W_then rfl ?_
    refine W_seq ?_
    refine W_region ?_
    refine opCv rfl (r_call Tryd.func11 Tryd.nm11 rfl) (known11_spec _ (hG.ext hX)) ?_
    rintro v2 w2 ⟨rfl, hE⟩
    replace hX := hX.trans hE
    refine op rfl (r_assignV (v := .bool _) rfl) ?_
    refine WL_nil ?_
    refine W_ret (finX_ret ?_)
    refine fin1 ?_
    exact ⟨_, rfl, rfl, hX⟩
  · refine opG_yes rfl rfl rfl rfl rfl (r_moveV (v := .slice _ _ _) rfl) ?_
    refine opGCv_yes rfl rfl rfl rfl rfl (r_call Tryd.func21 Tryd.nm21 rfl) (longRu_spec (hA.ext hX) (by omega)) ?_
    rintro v1 w1 ⟨rfl, hE⟩
    replace hX := hX.trans hE
    refine opG_yes rfl rfl rfl rfl rfl (r_gtr rfl rfl) ?_
    refine op rfl (r_pickFV (v := .bool _) rfl rfl) ?_
    refine op_split rfl (r_moveV (v := .bool (decide _)) rfl) (fun hg24 => ?_) (fun hg24 => ?_)
    · refine opG_no rfl rfl rfl rfl rfl ?_
      refine opG_no rfl rfl rfl rfl rfl ?_
      refine opG_no rfl rfl rfl rfl rfl ?_
      refine op rfl (r_pickTV (v := .bool _) rfl rfl) ?_
      refine WL_nil ?_
      refine W_then rfl ?_
      refine W_seq ?_
      refine W_region ?_
      refine opCv rfl (r_call Tryd.func11 Tryd.nm11 rfl) (known11_spec _ (hG.ext hX)) ?_
      rintro v2 w2 ⟨rfl, hE⟩
      replace hX := hX.trans hE
      refine op rfl (r_assignV (v := .bool _) rfl) ?_
      refine WL_nil ?_
      refine W_ret (finX_ret ?_)
      refine fin1 ?_
      exact ⟨_, rfl, rfl, hX⟩
    · refine opG_yes rfl rfl rfl rfl rfl (r_moveV (v := .string _) rfl) ?_
      refine opG_yes rfl rfl rfl rfl rfl (rt_len rfl Tryd.underlying9) ?_
      refine opG_yes rfl rfl rfl rfl rfl (r_gtr rfl rfl) ?_
      refine op rfl (r_pickFV (v := .bool _) rfl rfl) ?_
      refine WL_nil ?_
      refine W_ifp rfl (fun ht28 => ?_) (fun ht28 => ?_)
      · refine W_seq ?_
        refine W_region ?_
        refine opCv rfl (r_call Tryd.func11 Tryd.nm11 rfl) (known11_spec _ (hG.ext hX)) ?_
        rintro v2 w2 ⟨rfl, hE⟩
        replace hX := hX.trans hE
        refine op rfl (r_assignV (v := .bool _) rfl) ?_
        refine WL_nil ?_
        refine W_ret (finX_ret ?_)
        refine fin1 ?_
        exact ⟨_, rfl, rfl, hX⟩
      · have h50 : l.length ≤ 50 := by omega
        have hsum : (l.map lenRu).sum ≤ 2500 := by omega
        have hs15 : s.length ≤ 1500 := by omega
        refine W_skip ?_
        refine W_seq ?_
        refine W_region ?_
        refine op rfl (r_moveV (v := .slice _ _ _) rfl) ?_
        refine opCv rfl (r_call Tryd.func22 Tryd.nm22 rfl) (hPl _ (hG.ext hX) hX (by omega) hsum) ?_
        rintro v3 w3 ⟨rfl, hE⟩
        replace hX := hX.trans hE
        have hX3 := hX
        refine op rfl (r_moveV (v := .tuple #[sv (printR l).1, .int .i64 (printR l).2]) rfl) ?_
        refine op rfl (r_extract (vs := [sv (printR l).1, .int .i64 (printR l).2]) rfl rfl) ?_
        refine op rfl (r_extract (vs := [sv (printR l).1, .int .i64 (printR l).2]) rfl rfl) ?_
        refine op rfl (r_assignV (v := sv (printR l).1) rfl) ?_
        refine op rfl (r_assignV (v := .int .i64 (printR l).2) rfl) ?_
        refine WL_nil ?_
        refine W_cut [4, 7, 8, 35, 36, 37, 38, 39, 40, 41, 42, 43, 44, 45, 46, 47, 48, 49, 50, 51, 52, 53, 54, 55, 56, 57, 58, 59, 60, 61, 62] (fun e' w' => Ext W w') ?_ ?_
        · refine W_seq ?_
          refine W_region ?_
          refine op rfl (r_moveV (v := .int .i64 (printR l).2) rfl) ?_
          refine op rfl (r_eql rfl rfl) ?_
          refine op_split rfl (r_moveV (v := .bool (decide _)) rfl) (fun hg37 => ?_) (fun hg37 => ?_)
          · refine opG_yes rfl rfl rfl rfl rfl (r_moveV (v := sv (printR l).1) rfl) ?_
            refine opG_yes rfl rfl rfl rfl rfl (rt_len rfl Tryd.underlying9) ?_
            refine opG_yes rfl rfl rfl rfl rfl (r_leq rfl rfl) ?_
            refine op rfl (r_pickTV (v := .bool _) rfl rfl) ?_
            refine WL_nil ?_
            refine W_ifp rfl (fun ht41 => ?_) (fun ht41 => ?_)
            · obtain ⟨hr, -, hp⟩ := print_ok (l := l) (by omega)
              have lta := text_len hr
              have hl1 : (printR l).1.length = (textR l).length := by rw [hp]
              have hR : ∀ w, Gl w → Calls Tryd.prog 12 #[sv (([10] ++ textR l) ++ [10])] w (fun en w' => ∃ v, en = .returned v ∧ ∃ r, v = .tuple #[r, .int .i64 (parseR (([10] ++ textR l) ++ [10])).2] ∧ OwnRu w' w.heap.size r (parseR (([10] ++ textR l) ++ [10])).1 ∧ Ext w w') := fun w hw => parse_spec _ w hw (by simp; omega)
              refine W_seq ?_
              refine W_region ?_
              refine op rfl (r_moveV (v := sv (textR l)) (by rw [show textR l = (printR l).1 by rw [hp]]; rfl)) ?_
              refine op rfl (rt_add (a := [10]) (b := textR l) rfl rfl (by simp; omega)) ?_
              refine op rfl (rt_add (a := [10] ++ textR l) (b := [10]) rfl rfl (by simp; omega)) ?_
              refine opCv rfl (r_call Tryd.func12 Tryd.nm12 rfl) (hR _ (hG.ext hX)) ?_
              rintro v5 w5 ⟨r5, rfl, hO5, hE⟩
              replace hX := hX.trans hE
              obtain ⟨A5, c5, rfl, hc5, hr5⟩ := own_frow hO5
              have hX5 := hX
              refine op rfl (r_moveV (v := .tuple #[.slice A5 (parseR (([10] ++ textR l) ++ [10])).1.length c5, .int .i64 (parseR (([10] ++ textR l) ++ [10])).2]) rfl) ?_
              refine op rfl (r_extract (vs := [.slice A5 (parseR (([10] ++ textR l) ++ [10])).1.length c5, .int .i64 (parseR (([10] ++ textR l) ++ [10])).2]) rfl rfl) ?_
              refine op rfl (r_extract (vs := [.slice A5 (parseR (([10] ++ textR l) ++ [10])).1.length c5, .int .i64 (parseR (([10] ++ textR l) ++ [10])).2]) rfl rfl) ?_
              refine op rfl (r_assignV (v := .slice A5 (parseR (([10] ++ textR l) ++ [10])).1.length c5) rfl) ?_
              refine op rfl (r_assignV (v := .int .i64 (parseR (([10] ++ textR l) ++ [10])).2) rfl) ?_
              refine WL_nil ?_
              refine W_seq ?_
              refine W_region ?_
              refine op rfl (r_moveV (v := sv (printR l).1) rfl) ?_
              refine op rfl (rt_len rfl Tryd.underlying9) ?_
              refine op rfl (r_add' rfl rfl (wrap_i64 (by omega) (by omega))) ?_
              refine op rfl (r_leq rfl rfl) ?_
              refine op_split rfl (r_moveV (v := .bool (decide _)) rfl) (fun hg53 => ?_) (fun hg53 => ?_)
              · have hpw := parse_wrapped hr h50 (by omega)
                have hS : Calls Tryd.prog 16 #[.slice A l.length c, .slice A5 (parseR (([10] ++ textR l) ++ [10])).1.length c5] w5 (fun en w' => ∃ v, en = .returned v ∧ v = .bool (decide (l = l)) ∧ Ext w5 w') := by
                  have h1 := hA.ext hX5
                  have h2 := hr5
                  rw [hpw] at h2 ⊢
                  exact sameRu_spec h1 h2 (by omega)
                refine opG_yes rfl rfl rfl rfl rfl (r_moveV (v := .int .i64 (parseR (([10] ++ textR l) ++ [10])).2) rfl) ?_
                refine opG_yes rfl rfl rfl rfl rfl (r_neq rfl rfl) ?_
                refine opG_false rfl rfl rfl rfl rfl (r_moveV (v := .bool (decide _)) rfl) (by rw [hpw]; simp) ?_
                refine opG_yes rfl rfl rfl rfl rfl (r_moveV (v := .slice _ _ _) rfl) ?_
                refine opG_yes rfl rfl rfl rfl rfl (r_moveV (v := .slice A5 (parseR (([10] ++ textR l) ++ [10])).1.length c5) rfl) ?_
                refine opGCv_yes rfl rfl rfl rfl rfl (r_call Tryd.func16 Tryd.nm16 rfl) (hS) ?_
                rintro v6 w6 ⟨rfl, hE⟩
                replace hX := hX.trans hE
                refine opG_yes rfl rfl rfl rfl rfl (r_notP rfl) ?_
                refine opG_yes rfl rfl rfl rfl rfl (r_pickFV (v := .bool _) rfl rfl) ?_
                refine op rfl (r_pickTV (v := .bool _) rfl rfl) ?_
                refine WL_nil ?_
                refine W_ifp rfl (fun ht62 => ?_) (fun ht62 => ?_)
                · exact absurd ht62 (by simp)
                · refine W_skip ?_
                  refine ⟨?_, by repeat (first | with_reducible exact Out.refl _ _ | with_reducible exact Out.mix | refine Out.put rfl ?_ | refine Out.mixin rfl ?_ | exact Out.refl _ _ | exact Out.mix)⟩
                  exact hX
              · refine opG_no rfl rfl rfl rfl rfl ?_
                refine opG_no rfl rfl rfl rfl rfl ?_
                refine opG_no rfl rfl rfl rfl rfl ?_
                refine opG_none rfl rfl rfl rfl ?_
                refine opG_none rfl rfl rfl rfl ?_
                refine opG_none rfl rfl rfl rfl ?_
                refine opG_none rfl rfl rfl rfl ?_
                refine opG_no rfl rfl rfl rfl rfl ?_
                refine op rfl (r_pickFV (v := .bool _) rfl rfl) ?_
                refine WL_nil ?_
                refine W_else rfl ?_
                refine W_skip ?_
                refine ⟨?_, by repeat (first | with_reducible exact Out.refl _ _ | with_reducible exact Out.mix | refine Out.put rfl ?_ | refine Out.mixin rfl ?_ | exact Out.refl _ _ | exact Out.mix)⟩
                exact hX
            · refine W_skip ?_
              refine ⟨?_, by repeat (first | with_reducible exact Out.refl _ _ | with_reducible exact Out.mix | refine Out.put rfl ?_ | refine Out.mixin rfl ?_ | exact Out.refl _ _ | exact Out.mix)⟩
              exact hX
          · refine opG_no rfl rfl rfl rfl rfl ?_
            refine opG_no rfl rfl rfl rfl rfl ?_
            refine opG_no rfl rfl rfl rfl rfl ?_
            refine op rfl (r_pickFV (v := .bool _) rfl rfl) ?_
            refine WL_nil ?_
            refine W_else rfl ?_
            refine W_skip ?_
            refine ⟨?_, by repeat (first | with_reducible exact Out.refl _ _ | with_reducible exact Out.mix | refine Out.put rfl ?_ | refine Out.mixin rfl ?_ | exact Out.refl _ _ | exact Out.mix)⟩
            exact hX
        rintro gift41 w' hJ
        clear hX
        have hX := hJ
        refine W_seq ?_
        refine W_region ?_
        refine op rfl (r_moveV (v := .string _) rfl) ?_
        refine opCv rfl (r_call Tryd.func12 Tryd.nm12 rfl) (parse_spec s _ (hG.ext hX) (by omega)) ?_
        rintro v8 w8 ⟨r8, rfl, hO8, hE⟩
        replace hX := hX.trans hE
        obtain ⟨A8, c8, rfl, hc8, hr8⟩ := own_frow hO8
        have hX8 := hX
        refine op rfl (r_moveV (v := .tuple #[.slice A8 (parseR s).1.length c8, .int .i64 (parseR s).2]) rfl) ?_
        refine op rfl (r_extract (vs := [.slice A8 (parseR s).1.length c8, .int .i64 (parseR s).2]) rfl rfl) ?_
        refine op rfl (r_extract (vs := [.slice A8 (parseR s).1.length c8, .int .i64 (parseR s).2]) rfl rfl) ?_
        refine op rfl (r_assignV (v := .slice A8 (parseR s).1.length c8) rfl) ?_
        refine op rfl (r_assignV (v := .int .i64 (parseR s).2) rfl) ?_
        refine WL_nil ?_
        refine W_seq ?_
        refine W_seq ?_
        refine W_region ?_
        refine op rfl (r_moveV (v := .int .i64 (parseR s).2) rfl) ?_
        refine op rfl (r_neq rfl rfl) ?_
        refine WL_nil ?_
        refine W_ifp rfl (fun ht69 => ?_) (fun ht69 => ?_)
        · refine W_seq ?_
          refine W_region ?_
          refine op rfl (r_moveV (v := .slice A8 (parseR s).1.length c8) rfl) ?_
          refine op rfl (r_len_slice rfl Tryd.underlying23) ?_
          refine op rfl (r_eql rfl rfl) ?_
          refine op_true rfl (r_moveV (v := .bool (decide _)) rfl) (by rw [parse_err (by omega)]; rfl) ?_
          refine opGCv_yes rfl rfl rfl rfl rfl (r_call Tryd.func11 Tryd.nm11 rfl) (known11_spec _ (hG.ext hX)) ?_
          rintro v10 w10 ⟨rfl, hE⟩
          replace hX := hX.trans hE
          refine op rfl (r_pickTV (v := .bool _) rfl rfl) ?_
          refine op rfl (r_assignV (v := .bool _) rfl) ?_
          refine WL_nil ?_
          refine W_ret (finX_ret ?_)
          refine fin1 ?_
          exact ⟨_, rfl, rfl, hX⟩
        · obtain ⟨hr, hn50, hp, hpp, htl⟩ := parse_again hs15 (by omega)
          obtain ⟨N, hN⟩ : ∃ N, N = (parseR s).1 := ⟨_, rfl⟩
          rw [← hN] at hr hn50 hp hpp htl
          have hr8' : ruT.Row w8 (old w8) A8 N := by rw [hN]; exact hr8
          have hP : Calls Tryd.prog 22 #[.slice A8 (parseR s).1.length c8] w8 (fun en w' => ∃ v, en = .returned v ∧ v = .tuple #[sv (textR N), .int .i64 0] ∧ Ext w8 w') := by
            have := print_spec (c := c8) (hG.ext hX8) hr8' (by omega) (fun r h => by
              have := hr r h
              have h1 := this.1.2
              have h2 := this.2.1
              have h3 := this.2.2.1
              omega)
            rw [hp] at this
            rw [← hN]
            exact this
          have hR : ∀ w, Gl w → Calls Tryd.prog 12 #[sv (textR N)] w (fun en w' => ∃ v, en = .returned v ∧ ∃ r, v = .tuple #[r, .int .i64 0] ∧ OwnRu w' w.heap.size r N ∧ Ext w w') := fun w hw => by
            have := parse_spec (textR N) w hw (by omega)
            rw [hpp] at this
            exact this
          have hNl : ((parseR s).1.length : Int) = N.length := by rw [hN]
          have hat := ru_at hr8'
          refine W_skip ?_
          refine W_seq ?_
          refine W_region ?_
          refine op rfl (r_moveV (v := .slice A8 (parseR s).1.length c8) rfl) ?_
          refine opCv rfl (r_call Tryd.func22 Tryd.nm22 rfl) (hP) ?_
          rintro v11 w11 ⟨rfl, hE⟩
          replace hX := hX.trans hE
          have hX11 := hE
          refine op rfl (r_moveV (v := .tuple #[sv (textR N), .int .i64 0]) rfl) ?_
          refine op rfl (r_extract (vs := [sv (textR N), .int .i64 0]) rfl rfl) ?_
          refine op rfl (r_extract (vs := [sv (textR N), .int .i64 0]) rfl rfl) ?_
          refine op rfl (r_assignV (v := sv (textR N)) rfl) ?_
          refine op rfl (r_assignV (v := .int .i64 0) rfl) ?_
          refine WL_nil ?_
          refine W_seq ?_
          refine W_region ?_
          refine op rfl (r_moveV (v := sv (textR N)) rfl) ?_
          refine opCv rfl (r_call Tryd.func12 Tryd.nm12 rfl) (hR _ (hG.ext hX)) ?_
          rintro v12 w12 ⟨r12, rfl, hO12, hE⟩
          replace hX := hX.trans hE
          obtain ⟨A12, c12, rfl, hc12, hr12⟩ := own_frow hO12
          have hX12 := hX
          have hE11 := hE
          refine op rfl (r_moveV (v := .tuple #[.slice A12 N.length c12, .int .i64 0]) rfl) ?_
          refine op rfl (r_extract (vs := [.slice A12 N.length c12, .int .i64 0]) rfl rfl) ?_
          refine op rfl (r_extract (vs := [.slice A12 N.length c12, .int .i64 0]) rfl rfl) ?_
          refine op rfl (r_assignV (v := .slice A12 N.length c12) rfl) ?_
          refine op rfl (r_assignV (v := .int .i64 0) rfl) ?_
          refine WL_nil ?_
          refine W_seq ?_
          refine W_seq ?_
          refine W_region ?_
          refine op rfl (r_assignV (v := .int _ _) rfl) ?_
          refine WL_nil ?_
          refine W_block ?_
          refine W_loop [4, 15, 86, 87, 88, 89, 90, 91, 92, 93, 94, 95, 96, 97] (fun q e' w' => ∃ i : Nat, q = N.length - i ∧ i ≤ N.length ∧ e' 15 = .int .i64 i ∧ Ext w12 w' ∧ Ext W w') (N.length) ?_ ?_
          · exact ⟨0, by omega, by omega, rfl, Ext.refl _, hX⟩
          intro k g w' hI
          obtain ⟨i, hq, hi, h15, hE12, hX'⟩ := hI
          clear hX
          have hX := hX'
          refine W_set (i := 15) h15 ?_
          refine W_seq ?_
          refine W_seq ?_
          refine W_region ?_
          refine op rfl (r_moveV (v := .int _ _) rfl) ?_
          refine op rfl (r_moveV (v := .slice A8 (parseR s).1.length c8) rfl) ?_
          refine op rfl (r_len_slice rfl Tryd.underlying23) ?_
          refine op rfl (r_lss rfl rfl) ?_
          refine WL_nil ?_
          refine W_ifp rfl (fun ht89 => ?_) (fun ht89 => ?_)
          · have hlt : i < N.length := by omega
            obtain ⟨g1, o1, hA1, _, hk, hg, ho, hn, hc⟩ := hat i hlt
            have hri := hr _ (List.getElem_mem hlt)
            have hi1 := hri.1.2
            have hi2 := hri.2.1
            have hi3 := hri.2.2.1
            have hE8 : Ext w8 w' := (hX11.trans hE11).trans hE12
            refine W_skip ?_
            refine W_seq ?_
            refine W_block ?_
            refine W_seq ?_
            refine W_region ?_
            refine op rfl (r_moveV (v := .slice A8 (parseR s).1.length c8) rfl) ?_
            refine op rfl (r_moveV (v := .int _ _) rfl) ?_
            refine op rfl (r_indexAddrK (i := i) (by rw [← hA1]; rfl) rfl Tryd.underlying23 Tryd.sz35 (by rw [← hN]; exact hlt)) ?_
            refine op rfl (r_load_agg (cs := N[i].vals) rfl Tryd.underlying35 rfl Tryd.sz35 rfl (ext_row hE8 rfl hc)) ?_
            refine opCv rfl (r_call Tryd.func24 Tryd.nm24 rfl) (rright_spec N[i] _ (ext_cell hX hG.max.choose_spec) (by omega) (by omega) (by omega)) ?_
            rintro v16 w16 ⟨rfl, hE⟩
            replace hX := hX.trans hE
            refine op rfl (r_notP rfl) ?_
            refine WL_nil ?_
            refine W_ifp rfl (fun ht97 => ?_) (fun ht97 => ?_)
            · exact absurd hri ht97
            · refine W_skip ?_
              refine W_region ?_
              refine op rfl (r_moveV (v := .int _ _) rfl) ?_
              refine op rfl (r_add' (r := ((i + 1 : Nat) : Int)) rfl rfl (by rw [wrap_i64 (by omega) (by omega)]; omega)) ?_
              refine op rfl (r_assignV (v := .int _ _) rfl) ?_
              refine WL_nil ?_
              refine ⟨?_, by repeat (first | with_reducible exact Out.refl _ _ | with_reducible exact Out.mix | refine Out.put rfl ?_ | refine Out.mixin rfl ?_ | exact Out.refl _ _ | exact Out.mix)⟩
              exact ⟨N.length - (i + 1), by omega, i + 1, rfl, by omega, rfl, hE12.trans hE, hX⟩
          · refine W_exit (blk_hit ?_)
            refine W_seq ?_
            refine W_region ?_
            refine op rfl (r_moveV (v := .int .i64 0) rfl) ?_
            refine op rfl (r_eql rfl rfl) ?_
            refine op_true rfl (r_moveV (v := .bool (decide _)) rfl) (rfl) ?_
            refine opG_yes rfl rfl rfl rfl rfl (r_moveV (v := .int .i64 0) rfl) ?_
            refine opG_yes rfl rfl rfl rfl rfl (r_eql rfl rfl) ?_
            refine op rfl (r_pickTV (v := .bool _) rfl rfl) ?_
            refine op_true rfl (r_moveV (v := .bool (decide _)) rfl) (rfl) ?_
            refine opG_yes rfl rfl rfl rfl rfl (r_moveV (v := .slice A8 (parseR s).1.length c8) rfl) ?_
            refine opG_yes rfl rfl rfl rfl rfl (r_moveV (v := .slice A12 N.length c12) rfl) ?_
            have hS : Calls Tryd.prog 16 #[.slice A8 (parseR s).1.length c8, .slice A12 N.length c12] w' (fun en w'' => ∃ v, en = .returned v ∧ v = .bool (decide (N = N)) ∧ Ext w' w'') := by
              rw [← hN]
              exact sameRu_spec (hr8'.ext ((hX11.trans hE11).trans hE12)) (hr12.ext hE12) (by omega)
            refine opGCv_yes rfl rfl rfl rfl rfl (r_call Tryd.func16 Tryd.nm16 rfl) (hS) ?_
            rintro v18 w18 ⟨rfl, hE⟩
            replace hX := hX.trans hE
            refine op rfl (r_pickTV (v := .bool _) rfl rfl) ?_
            refine op_true rfl (r_moveV (v := .bool (decide _)) rfl) (rfl) ?_
            refine opGCv_yes rfl rfl rfl rfl rfl (r_call Tryd.func11 Tryd.nm11 rfl) (known11_spec _ (hG.ext hX)) ?_
            rintro v18b w18b ⟨rfl, hE⟩
            replace hX := hX.trans hE
            refine op rfl (r_pickTV (v := .bool _) rfl rfl) ?_
            refine op rfl (r_assignV (v := .bool _) rfl) ?_
            refine WL_nil ?_
            refine W_ret (finX_ret ?_)
            refine fin1 ?_
            exact ⟨_, rfl, rfl, hX⟩
theorem ruleBack_row (W : World) (hG : Gl W) (A : Option Addr) (c : Nat) (l : List Ru) (hc : l.length ≤ c) (hl : l.length ≤ big) (hA : ruT.Row W (old W) A l) (s : ByteArray) (hs : s.size ≤ big) :
    Calls Tryd.prog 5 #[.slice A l.length c, .string s] W (fun e W' => ∃ v, e = .returned v ∧ v = .bool true ∧ Ext W W') := by
  obtain ⟨p, rfl⟩ : ∃ l, s = str l := ⟨s.data.toList, (str_of s).symm⟩
  exact ruleBack_walk p W hG hl hA hs
end Go.Proofs.YtafcaigjijajnaaDoor
