/-
  Any text is the rules that the chapter says, or none, and why; so is it as a word, and a word as a text, and whether it is a token: the walk.
-/
import Derived.Test.YtafcaigjijajnaaDoorFacts
import Derived.Test.YtafcaigjijajnaaDoorRuleRq
namespace Go.Proofs.YtafcaigjijajnaaDoor
open Go Go.Eng Go.RowKit Go.Proofs
set_option linter.unusedVariables false
set_option linter.unusedSimpArgs false
set_option maxHeartbeats 1000000
set_option maxRecDepth 20000

theorem ruleParses_walk (s : List UInt8) (W : World) (hG : Gl W) (hs : s.length ≤ big) :
    Calls Tryd.prog 3 #[.string (str s)] W (fun en w' => ∃ v, en = .returned v ∧ v = .bool true ∧ Ext W w') := by
  have hbig : big = 140737488355328 := rfl
  have hus := unq_same s
  have hlp : (parseR s).1.length ≤ 140737488355328 := by
    unfold parseR
    split
    · simp
    · split
      · split
        · simp
        · simp only; omega
      · simp
  refine calls' (n := 70) (rs := #[.tmp 2]) (l := [.string (str s)]) Tryd.func3 rfl rfl rfl rfl rfl ?_
  have hX := Ext.refl W
  refine W_seq ?_
  refine W_region ?_
  refine op rfl (r_assignV (v := .bool _) rfl) ?_
  refine WL_nil ?_
  refine W_seq ?_
  refine W_seq ?_
  refine W_region ?_
  refine op rfl (r_moveV (v := .string _) rfl) ?_
  refine op rfl (rt_len rfl Tryd.underlying9) ?_
  refine op rfl (r_gtr rfl rfl) ?_
  refine WL_nil ?_
  refine W_ifp rfl (fun ht13 => ?_) (fun ht13 => ?_)
  · refine W_seq ?_
    refine W_region ?_
    refine opCv rfl (r_call Tryd.func11 Tryd.nm11 rfl) (known11_spec _ (hG.ext hX)) ?_
    rintro v2 w2 ⟨rfl, hE⟩
    replace hX := hX.trans hE
    refine op rfl (r_assignV (v := .bool _) rfl) ?_
    refine WL_nil ?_
    refine W_ret (finX_ret ?_)
    refine fin1 ?_
    exact ⟨_, rfl, rfl, hX⟩
  · refine W_skip ?_
    refine W_seq ?_
    refine W_region ?_
    refine op rfl (r_moveV (v := .string _) rfl) ?_
    refine opCv rfl (r_call Tryd.func12 Tryd.nm12 rfl) (parse_spec s _ (hG.ext hX) (by omega)) ?_
    rintro v3 w3 ⟨r3, rfl, hO3, hE⟩
    replace hX := hX.trans hE
    obtain ⟨A3, c3, rfl, hc3, hr3⟩ := own_frow hO3
    refine op rfl (r_moveV (v := .tuple #[.slice A3 (parseR s).1.length c3, .int .i64 (parseR s).2]) rfl) ?_
    refine op rfl (r_extract (vs := [.slice A3 (parseR s).1.length c3, .int .i64 (parseR s).2]) rfl rfl) ?_
    refine op rfl (r_extract (vs := [.slice A3 (parseR s).1.length c3, .int .i64 (parseR s).2]) rfl rfl) ?_
    refine op rfl (r_assignV (v := .slice A3 (parseR s).1.length c3) rfl) ?_
    refine op rfl (r_assignV (v := .int .i64 (parseR s).2) rfl) ?_
    refine WL_nil ?_
    refine W_seq ?_
    refine W_region ?_
    refine op rfl (r_moveV (v := .string _) rfl) ?_
    refine opCv rfl (r_call Tryd.func13 Tryd.nm13 rfl) (refParse_spec s _ (by omega)) ?_
    rintro v4 w4 ⟨r4, rfl, hO4, hE⟩
    replace hX := hX.trans hE
    obtain ⟨A4, c4, rfl, hc4, hr4⟩ := own_frow hO4
    have hr3' := hr3.ext hE
    have hX4 := hX
    refine op rfl (r_moveV (v := .tuple #[.slice A4 (parseR s).1.length c4, .int .i64 (parseR s).2]) rfl) ?_
    refine op rfl (r_extract (vs := [.slice A4 (parseR s).1.length c4, .int .i64 (parseR s).2]) rfl rfl) ?_
    refine op rfl (r_extract (vs := [.slice A4 (parseR s).1.length c4, .int .i64 (parseR s).2]) rfl rfl) ?_
    refine op rfl (r_assignV (v := .slice A4 (parseR s).1.length c4) rfl) ?_
    refine op rfl (r_assignV (v := .int .i64 (parseR s).2) rfl) ?_
    refine WL_nil ?_
    refine W_seq ?_
    refine W_region ?_
    refine op rfl (r_moveV (v := .string _) rfl) ?_
    refine opCv rfl (r_call Tryd.func14 Tryd.nm14 rfl) (unquote_spec s _ (hG.ext hX) (by omega)) ?_
    rintro v5 w5 ⟨rfl, hE⟩
    replace hX := hX.trans hE
    have hE5 := hE
    refine op rfl (r_moveV (v := .tuple #[sv ((unqP s).getD []), .bool (decide ((unqP s).isSome = true))]) rfl) ?_
    refine op rfl (r_extract (vs := [sv ((unqP s).getD []), .bool (decide ((unqP s).isSome = true))]) rfl rfl) ?_
    refine op rfl (r_extract (vs := [sv ((unqP s).getD []), .bool (decide ((unqP s).isSome = true))]) rfl rfl) ?_
    refine op rfl (r_assignV (v := sv ((unqP s).getD [])) rfl) ?_
    refine op rfl (r_assignV (v := .bool (decide ((unqP s).isSome = true))) rfl) ?_
    refine WL_nil ?_
    refine W_seq ?_
    refine W_region ?_
    refine op rfl (r_moveV (v := .string _) rfl) ?_
    refine opCv rfl (r_call Tryd.func15 Tryd.nm15 rfl) (refUnquote_spec s _ (by omega)) ?_
    rintro v6 w6 ⟨rfl, hE⟩
    replace hX := hX.trans hE
    have hE6 := hE5.trans hE
    refine op rfl (r_moveV (v := .tuple #[sv ((unqF s).getD []), .bool (decide ((unqF s).isSome = true))]) rfl) ?_
    refine op rfl (r_extract (vs := [sv ((unqF s).getD []), .bool (decide ((unqF s).isSome = true))]) rfl rfl) ?_
    refine op rfl (r_extract (vs := [sv ((unqF s).getD []), .bool (decide ((unqF s).isSome = true))]) rfl rfl) ?_
    refine op rfl (r_assignV (v := sv ((unqF s).getD [])) rfl) ?_
    refine op rfl (r_assignV (v := .bool (decide ((unqF s).isSome = true))) rfl) ?_
    refine WL_nil ?_
    refine W_seq ?_
    refine W_region ?_
    refine op rfl (r_moveV (v := .slice A3 (parseR s).1.length c3) rfl) ?_
    refine op rfl (r_moveV (v := .slice A4 (parseR s).1.length c4) rfl) ?_
    refine opCv rfl (r_call Tryd.func16 Tryd.nm16 rfl) (sameRu_spec (hr3'.ext hE6) (hr4.ext hE6) hlp) ?_
    rintro v7 w7 ⟨rfl, hE⟩
    replace hX := hX.trans hE
    refine op_true rfl (r_moveV (v := .bool (decide _)) rfl) (rfl) ?_
    refine opG_yes rfl rfl rfl rfl rfl (r_moveV (v := .int .i64 (parseR s).2) rfl) ?_
    refine opG_yes rfl rfl rfl rfl rfl (r_moveV (v := .int .i64 (parseR s).2) rfl) ?_
    refine opG_yes rfl rfl rfl rfl rfl (r_eql rfl rfl) ?_
    refine op rfl (r_pickTV (v := .bool _) rfl rfl) ?_
    refine op_true rfl (r_moveV (v := .bool (decide _)) rfl) (rfl) ?_
    refine opG_yes rfl rfl rfl rfl rfl (r_moveV (v := sv ((unqP s).getD [])) rfl) ?_
    refine opG_yes rfl rfl rfl rfl rfl (r_moveV (v := sv ((unqF s).getD [])) rfl) ?_
    refine opG_yes rfl rfl rfl rfl rfl (rt_eql rfl rfl) ?_
    refine op rfl (r_pickTV (v := .bool _) rfl rfl) ?_
    refine op_true rfl (r_moveV (v := .bool (decide _)) rfl) (by rw [hus]) ?_
    refine opG_yes rfl rfl rfl rfl rfl (r_moveV (v := .bool (decide ((unqP s).isSome = true))) rfl) ?_
    refine opG_yes rfl rfl rfl rfl rfl (r_moveV (v := .bool (decide ((unqF s).isSome = true))) rfl) ?_
    refine opG_yes rfl rfl rfl rfl rfl (rb_eql rfl rfl Tryd.underlying4) ?_
    refine op rfl (r_pickTV (v := .bool _) rfl rfl) ?_
    refine op_true rfl (r_moveV (v := .bool (decide _)) rfl) (by rw [hus]) ?_
    refine opG_yes rfl rfl rfl rfl rfl (r_moveV (v := .string _) rfl) ?_
    refine opGCv_yes rfl rfl rfl rfl rfl (r_call Tryd.func17 Tryd.nm17 rfl) (quote_spec s _ (by omega)) ?_
    rintro v7b w7b ⟨rfl, hE⟩
    replace hX := hX.trans hE
    refine opG_yes rfl rfl rfl rfl rfl (r_moveV (v := .string _) rfl) ?_
    refine opGCv_yes rfl rfl rfl rfl rfl (r_call Tryd.func18 Tryd.nm18 rfl) (refQuote_spec s _ (by omega)) ?_
    rintro v7c w7c ⟨rfl, hE⟩
    replace hX := hX.trans hE
    refine opG_yes rfl rfl rfl rfl rfl (rt_eql rfl rfl) ?_
    refine op rfl (r_pickTV (v := .bool _) rfl rfl) ?_
    refine op_true rfl (r_moveV (v := .bool (decide _)) rfl) (rfl) ?_
    refine opG_yes rfl rfl rfl rfl rfl (r_moveV (v := .string _) rfl) ?_
    refine opGCv_yes rfl rfl rfl rfl rfl (r_call Tryd.func19 Tryd.nm19 rfl) (token_spec s _ (by omega)) ?_
    rintro v7d w7d ⟨rfl, hE⟩
    replace hX := hX.trans hE
    refine opG_yes rfl rfl rfl rfl rfl (r_moveV (v := .string _) rfl) ?_
    refine opGCv_yes rfl rfl rfl rfl rfl (r_call Tryd.func20 Tryd.nm20 rfl) (refToken_spec s _ (by omega)) ?_
    rintro v7e w7e ⟨rfl, hE⟩
    replace hX := hX.trans hE
    refine opG_yes rfl rfl rfl rfl rfl (rb_eql rfl rfl Tryd.underlying4) ?_
    refine op rfl (r_pickTV (v := .bool _) rfl rfl) ?_
    refine op_true rfl (r_moveV (v := .bool (decide _)) rfl) (rfl) ?_
    refine opGCv_yes rfl rfl rfl rfl rfl (r_call Tryd.func11 Tryd.nm11 rfl) (known11_spec _ (hG.ext hX)) ?_
    rintro v7f w7f ⟨rfl, hE⟩
    replace hX := hX.trans hE
    refine op rfl (r_pickTV (v := .bool _) rfl rfl) ?_
    refine op rfl (r_assignV (v := .bool _) rfl) ?_
    refine WL_nil ?_
    refine W_ret (finX_ret ?_)
    refine fin1 ?_
    exact ⟨_, rfl, rfl, hX⟩
theorem ruleParses_row (W : World) (hG : Gl W) (s : ByteArray) (hs : s.size ≤ big) :
    Calls Tryd.prog 3 #[.string s] W (fun e W' => ∃ v, e = .returned v ∧ v = .bool true ∧ Ext W W') := by
  obtain ⟨p, rfl⟩ : ∃ l, s = str l := ⟨s.data.toList, (str_of s).symm⟩
  exact ruleParses_walk p W hG hs
end Go.Proofs.YtafcaigjijajnaaDoor
