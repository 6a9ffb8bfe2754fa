/-
  The walk of the reference: rules of a text.
-/
import Derived.Test.YtafcaigjijajnaaDoorFacts
import Derived.Test.YtafcaigjijajnaaDoorRuleRo
namespace Go.Proofs.YtafcaigjijajnaaDoor
open Go Go.Eng Go.RowKit Go.Proofs
set_option linter.unusedVariables false
set_option linter.unusedSimpArgs false
set_option maxHeartbeats 1000000
set_option maxRecDepth 20000

theorem lines_take {ls : List (List UInt8)} {i : Nat} (h : i < ls.length) : ls.take (i + 1) = ls.take i ++ [ls[i]] := List.take_succ_eq_append_getElem h
theorem refParse_spec (s : List UInt8) (w : World) (hs : s.length ≤ 1099511627776) :
    Calls Tryd.prog 13 #[.string (str s)] w (fun en w' => ∃ v, en = .returned v ∧ ∃ r, v = .tuple #[r, .int .i64 (parseR s).2] ∧ OwnRu w' w.heap.size r (parseR s).1 ∧ Ext w w') := by
  refine calls' (n := 44) (rs := #[.tmp 2, .tmp 3]) (l := [.string (str s)]) Tryd.func13 rfl rfl rfl rfl rfl ?_
  have hX := Ext.refl w
  refine W_seq ?_
  refine W_region ?_
  refine op rfl (r_assignV (v := .slice _ _ _) rfl) ?_
  refine op rfl (r_assignV (v := .int _ _) rfl) ?_
  refine WL_nil ?_
  refine W_seq ?_
  refine W_seq ?_
  refine W_region ?_
  refine op rfl (r_moveV (v := .string _) rfl) ?_
  refine op rfl (rt_len rfl Tryd.underlying9) ?_
  refine op rfl (r_gtr rfl rfl) ?_
  refine WL_nil ?_
  refine W_ifp rfl (fun ht11 => ?_) (fun ht11 => ?_)
  · refine W_seq ?_
    refine W_region ?_
    refine op rfl (r_assignV (v := .slice _ _ _) rfl) ?_
    refine op rfl (r_assignV (v := .int _ _) rfl) ?_
    refine WL_nil ?_
    refine W_ret (finX_ret ?_)
    refine fin2 ?_
    first
      | (have hp : parseR s = ([], 3) := by unfold parseR; rw [if_pos (by omega)]
         exact ⟨_, rfl, .slice none 0 0, by rw [hp]; rfl, by rw [hp]; exact .nil, hX⟩)
      | (have hp : parseR s = ([], 11) := by unfold parseR; rw [if_neg (by omega), hbad]
         exact ⟨_, rfl, .slice none 0 0, by rw [hp]; rfl, by rw [hp]; exact .nil, hXw.trans hX⟩)
      | (have hp : parseR s = ([], 3) := by unfold parseR; rw [if_neg (by omega), hlin]; simp only; rw [if_pos (by omega)]
         exact ⟨_, rfl, .slice none 0 0, by rw [hp]; rfl, by rw [hp]; exact .nil, hXw.trans hX⟩)
      | (have hp : parseR s = (out, 0) := by unfold parseR; rw [if_neg (by omega), hlin]; simp only; rw [if_neg (by omega)]
         exact ⟨_, rfl, .slice Ao out.length co, by rw [hp]; rfl, by rw [hp]; exact Own.low hOut hXw.size, hXw.trans hX⟩)
  · have hs16 : s.length ≤ 16384 := by omega
    refine W_skip ?_
    refine W_seq ?_
    refine W_region ?_
    refine op rfl (r_assignV (v := .slice _ _ _) rfl) ?_
    refine WL_nil ?_
    refine W_seq ?_
    refine W_region ?_
    refine op rfl (r_moveV (v := .string _) rfl) ?_
    refine opCv rfl (r_call Tryd.func30 Tryd.nm30 rfl) (refSplit_spec s 10 _ hs) ?_
    rintro v1 w1 ⟨hO, hln, hE⟩
    replace hX := hX.trans hE
    obtain ⟨A1, c1, rfl, hc1, hr1⟩ := own_frow hO
    have hXw := hX
    clear hX
    have hX := Ext.refl w1
    refine op rfl (r_assignV (v := .slice _ _ _) rfl) ?_
    refine WL_nil ?_
    refine W_seq ?_
    refine W_seq ?_
    refine W_region ?_
    refine op rfl (r_assignV (v := .int _ _) rfl) ?_
    refine WL_nil ?_
    refine W_block ?_
    refine W_loop [2, 3, 4, 6, 7, 8, 14, 15, 16, 17, 18, 19, 20, 21, 22, 23, 24, 25, 26, 27, 28, 29, 30, 31, 32, 33, 34, 35, 36, 37, 38, 39] (fun q e' w' => ∃ (i : Nat) (out : List Ru) (v : Value), q = (parts 10 s).length - i ∧ i ≤ (parts 10 s).length ∧ e' 6 = .int .i64 i ∧ e' 4 = v ∧ OwnRu w' w1.heap.size v out ∧ linesR ((parts 10 s).take i) = some out ∧ Ext w1 w') ((parts 10 s).length) ?_ ?_
    · exact ⟨0, [], _, by omega, by omega, rfl, rfl, .nil, rfl, hX⟩
    intro k g w' hI
    obtain ⟨i, out, vo, hq, hi, h6, h4, hOut, hlin, hX'⟩ := hI
    clear hX
    have hX := hX'
    have hlr := lines_right hlin
    have htk : ((parts 10 s).take i).length ≤ (parts 10 s).length := by rw [List.length_take]; omega
    obtain ⟨w0i, hw0i⟩ : ∃ y, y = w' := ⟨_, rfl⟩
    subst hw0i
    have hXi := Ext.refl w0i
    refine W_set (i := 6) h6 ?_
    refine W_set (i := 4) h4 ?_
    refine W_seq ?_
    refine W_seq ?_
    refine W_region ?_
    refine op rfl (r_moveV (v := .int _ _) rfl) ?_
    refine op rfl (r_moveV (v := .slice _ _ _) rfl) ?_
    refine op rfl (r_len_slice rfl Tryd.underlying49) ?_
    refine op rfl (r_lss rfl rfl) ?_
    refine WL_nil ?_
    refine W_ifp rfl (fun ht17 => ?_) (fun ht17 => ?_)
    · have hlt : i < (parts 10 s).length := by omega
      obtain ⟨g1, off1, hA1, _, hsl, hcell⟩ := (hr1.ext hX).cell hlt
      have hpl := parts_len 10 s _ (List.getElem_mem hlt)
      refine W_skip ?_
      refine W_seq ?_
      refine W_block ?_
      refine W_seq ?_
      refine W_seq ?_
      refine W_region ?_
      refine op rfl (r_moveV (v := .slice _ _ _) rfl) ?_
      refine op rfl (r_moveV (v := .int _ _) rfl) ?_
      refine op rfl (r_indexAddr1 rfl rfl hA1 Tryd.underlying49 Tryd.sz9 (by omega) (by omega)) ?_
      refine op rfl (r_load (v := sv (parts 10 s)[i]) rfl Tryd.underlying9 rfl hcell) ?_
      refine op rfl (rt_eql rfl rfl) ?_
      refine WL_nil ?_
      refine W_ifp rfl (fun ht24 => ?_) (fun ht24 => ?_)
      · refine W_exit (blk_hit ?_)
        refine W_region ?_
        refine op rfl (r_moveV (v := .int _ _) rfl) ?_
        refine op rfl (r_add' (r := ((i + 1 : Nat) : Int)) rfl rfl (by rw [wrap_i64 (by omega) (by omega)]; omega)) ?_
        refine op rfl (r_assignV (v := .int _ _) rfl) ?_
        refine WL_nil ?_
        refine ⟨?_, by repeat (first | with_reducible exact Out.refl _ _ | with_reducible exact Out.mix | refine Out.put rfl ?_ | refine Out.mixin rfl ?_ | exact Out.refl _ _ | exact Out.mix)⟩
        first
          | exact ⟨(parts 10 s).length - (i + 1), by omega, i + 1, out, vo, rfl, by omega, rfl, rfl, hOut, by rw [lines_take hlt, ht24]; exact lines_snil hlin, hX⟩
          | exact ⟨(parts 10 s).length - (i + 1), by omega, i + 1, out ++ [r1], v13, rfl, by omega, rfl, rfl, hO13, by rw [lines_take hlt]; exact lines_snoc hlin ht24 hone, hX13⟩
      · refine W_skip ?_
        refine W_seq ?_
        refine W_region ?_
        refine op rfl (r_moveV (v := .slice _ _ _) rfl) ?_
        refine op rfl (r_moveV (v := .int _ _) rfl) ?_
        refine op rfl (r_indexAddr1 rfl rfl hA1 Tryd.underlying49 Tryd.sz9 (by omega) (by omega)) ?_
        refine op rfl (r_load (v := sv (parts 10 s)[i]) rfl Tryd.underlying9 rfl hcell) ?_
        refine opCv rfl (r_call Tryd.func30 Tryd.nm30 rfl) (refSplit_spec (parts 10 s)[i] 32 _ (by omega)) ?_
        rintro v9 w9 ⟨hO9, hln9, hE⟩
        replace hX := hX.trans hE
        replace hXi := hXi.trans hE
        obtain ⟨A9, c9, rfl, hc9, hr9⟩ := own_frow hO9
        have hsp := refOne_spec (c := c9) hr9 (List.length_pos_iff.2 (parts_ne 32 (parts 10 s)[i])) (by omega) (fun p hp => by have := parts_len 32 (parts 10 s)[i] p hp; omega)
        refine opCv rfl (r_call Tryd.func31 Tryd.nm31 rfl) (hsp) ?_
        rintro v9b w9b ⟨⟨r1, rfl, hr1v⟩, hE⟩
        replace hX := hX.trans hE
        replace hXi := hXi.trans hE
        refine op rfl (r_moveV (v := .tuple #[.agg r1.vals.toArray, .bool (decide ((oneR (parts 32 (parts 10 s)[i])).isSome = true))]) rfl) ?_
        refine op rfl (r_extract (vs := [.agg r1.vals.toArray, .bool (decide ((oneR (parts 32 (parts 10 s)[i])).isSome = true))]) rfl rfl) ?_
        refine op rfl (r_extract (vs := [.agg r1.vals.toArray, .bool (decide ((oneR (parts 32 (parts 10 s)[i])).isSome = true))]) rfl rfl) ?_
        refine op_alloc rfl Tryd.zero35 ?_
        intro w9_9 b9_9 E9_9 B9_9 L9_9
        have hG9_9 : w1.heap.size ≤ b9_9 := by have := hX.size; omega
        replace hX := hX.trans E9_9
        have hb99 : w0i.heap.size ≤ b9_9 := by have := hXi.size; omega
        replace hXi := hXi.trans E9_9
        refine op_storeRow rfl rfl Tryd.sz35 B9_9 rfl rfl ?_
        intro w9_10 C9_10 BB9_10
        replace hX := hX.chg C9_10 hG9_9
        replace B9_9 := BB9_10
        replace hXi := hXi.chg C9_10 hb99
        refine op rfl (r_assignV (v := .bool (decide ((oneR (parts 32 (parts 10 s)[i])).isSome = true))) rfl) ?_
        refine WL_nil ?_
        refine W_seq ?_
        refine W_seq ?_
        refine W_region ?_
        refine op rfl (r_moveV (v := .bool (decide ((oneR (parts 32 (parts 10 s)[i])).isSome = true))) rfl) ?_
        refine op rfl (r_notP rfl) ?_
        refine WL_nil ?_
        refine W_ifp rfl (fun ht35 => ?_) (fun ht35 => ?_)
        · have hone : oneR (parts 32 (parts 10 s)[i]) = none := by
            cases h : oneR (parts 32 (parts 10 s)[i]) with
            | none => rfl
            | some y => rw [h] at ht35; exact absurd rfl ht35
          have hbad : linesR (parts 10 s) = none := lines_bad ht24 hone (List.getElem_mem hlt)
          refine W_seq ?_
          refine W_region ?_
          refine op rfl (r_assignV (v := .slice _ _ _) rfl) ?_
          refine op rfl (r_assignV (v := .int _ _) rfl) ?_
          refine WL_nil ?_
          refine W_ret (blk_ret (blk_ret (finX_ret ?_)))
          refine fin2 ?_
          first
            | (have hp : parseR s = ([], 3) := by unfold parseR; rw [if_pos (by omega)]
               exact ⟨_, rfl, .slice none 0 0, by rw [hp]; rfl, by rw [hp]; exact .nil, hX⟩)
            | (have hp : parseR s = ([], 11) := by unfold parseR; rw [if_neg (by omega), hbad]
               exact ⟨_, rfl, .slice none 0 0, by rw [hp]; rfl, by rw [hp]; exact .nil, hXw.trans hX⟩)
            | (have hp : parseR s = ([], 3) := by unfold parseR; rw [if_neg (by omega), hlin]; simp only; rw [if_pos (by omega)]
               exact ⟨_, rfl, .slice none 0 0, by rw [hp]; rfl, by rw [hp]; exact .nil, hXw.trans hX⟩)
            | (have hp : parseR s = (out, 0) := by unfold parseR; rw [if_neg (by omega), hlin]; simp only; rw [if_neg (by omega)]
               exact ⟨_, rfl, .slice Ao out.length co, by rw [hp]; rfl, by rw [hp]; exact Own.low hOut hXw.size, hXw.trans hX⟩)
        · obtain ⟨y, hy⟩ : ∃ y, oneR (parts 32 (parts 10 s)[i]) = some y := Option.isSome_iff_exists.1 (Classical.not_not.1 ht35)
          obtain rfl := hr1v y hy
          have hone : oneR (parts 32 (parts 10 s)[i]) = some r1 := hy
          have hri := (one_line hone).1
          refine W_skip ?_
          refine W_region ?_
          refine op rfl (r_moveV (v := vo) rfl) ?_
          refine op rfl (r_loadRow rfl B9_9 Tryd.underlying35 rfl Tryd.sz35) ?_
          refine op_newS rfl (r_buildRows (vs := [r1.vals]) Tryd.underlying23 Tryd.sz35 Tryd.zero35 rfl rfl rfl) ?_
          intro w10_2 b10_2 E10_2 B10_2 L10_2
          have B10 : Blk w10_2 b10_2 r1.vals.toArray 35 := B10_2
          replace hX := hX.trans E10_2
          replace hXi := hXi.trans E10_2
          have hO10 : OwnRu w10_2 w1.heap.size vo out := hOut.keep (fun _ q => q.elim) (fun _ q => q) (fun g hg => hXi.block g (hOut.lt hg).2)
          refine op_append (T := ruT) (F := nobody) (l := out) (m := [r1]) rfl rfl rfl Tryd.underlying23 Tryd.sz35 Tryd.by35 Tryd.zero35 rfl hO10 (Src.blk B10 (ru_right hri)) (fun _ q => q.elim) (by simp; omega) (by simp; omega) hX.size ?_
          intro v13 w13 hO13 hG13 hv13
          have hX13 : Ext w1 w13 := hX.gro hG13 hX.size (fun k hk => (hO10.lt hk).1)
          refine op rfl (r_assignV (v := v13) rfl) ?_
          refine WL_nil ?_
          refine W_region ?_
          refine op rfl (r_moveV (v := .int _ _) rfl) ?_
          refine op rfl (r_add' (r := ((i + 1 : Nat) : Int)) rfl rfl (by rw [wrap_i64 (by omega) (by omega)]; omega)) ?_
          refine op rfl (r_assignV (v := .int _ _) rfl) ?_
          refine WL_nil ?_
          refine ⟨?_, by repeat (first | with_reducible exact Out.refl _ _ | with_reducible exact Out.mix | refine Out.put rfl ?_ | refine Out.mixin rfl ?_ | exact Out.refl _ _ | exact Out.mix)⟩
          first
            | exact ⟨(parts 10 s).length - (i + 1), by omega, i + 1, out, vo, rfl, by omega, rfl, rfl, hOut, by rw [lines_take hlt, ht24]; exact lines_snil hlin, hX⟩
            | exact ⟨(parts 10 s).length - (i + 1), by omega, i + 1, out ++ [r1], v13, rfl, by omega, rfl, rfl, hO13, by rw [lines_take hlt]; exact lines_snoc hlin ht24 hone, hX13⟩
    · obtain rfl : i = (parts 10 s).length := by omega
      rw [List.take_length] at hlin
      obtain ⟨Ao, co, rfl, hco, hro⟩ := own_frow hOut
      refine W_exit (blk_hit ?_)
      refine W_seq ?_
      refine W_seq ?_
      refine W_region ?_
      refine op rfl (r_moveV (v := .slice Ao out.length co) rfl) ?_
      refine op rfl (r_len_slice rfl Tryd.underlying23) ?_
      refine op rfl (r_gtr rfl rfl) ?_
      refine WL_nil ?_
      refine W_ifp rfl (fun ht42 => ?_) (fun ht42 => ?_)
      · refine W_seq ?_
        refine W_region ?_
        refine op rfl (r_assignV (v := .slice _ _ _) rfl) ?_
        refine op rfl (r_assignV (v := .int _ _) rfl) ?_
        refine WL_nil ?_
        refine W_ret (finX_ret ?_)
        refine fin2 ?_
        first
          | (have hp : parseR s = ([], 3) := by unfold parseR; rw [if_pos (by omega)]
             exact ⟨_, rfl, .slice none 0 0, by rw [hp]; rfl, by rw [hp]; exact .nil, hX⟩)
          | (have hp : parseR s = ([], 11) := by unfold parseR; rw [if_neg (by omega), hbad]
             exact ⟨_, rfl, .slice none 0 0, by rw [hp]; rfl, by rw [hp]; exact .nil, hXw.trans hX⟩)
          | (have hp : parseR s = ([], 3) := by unfold parseR; rw [if_neg (by omega), hlin]; simp only; rw [if_pos (by omega)]
             exact ⟨_, rfl, .slice none 0 0, by rw [hp]; rfl, by rw [hp]; exact .nil, hXw.trans hX⟩)
          | (have hp : parseR s = (out, 0) := by unfold parseR; rw [if_neg (by omega), hlin]; simp only; rw [if_neg (by omega)]
             exact ⟨_, rfl, .slice Ao out.length co, by rw [hp]; rfl, by rw [hp]; exact Own.low hOut hXw.size, hXw.trans hX⟩)
      · refine W_skip ?_
        refine W_seq ?_
        refine W_region ?_
        refine op rfl (r_moveV (v := .slice Ao out.length co) rfl) ?_
        refine op rfl (r_assignV (v := .slice Ao out.length co) rfl) ?_
        refine op rfl (r_assignV (v := .int _ _) rfl) ?_
        refine WL_nil ?_
        refine W_ret (finX_ret ?_)
        refine fin2 ?_
        first
          | (have hp : parseR s = ([], 3) := by unfold parseR; rw [if_pos (by omega)]
             exact ⟨_, rfl, .slice none 0 0, by rw [hp]; rfl, by rw [hp]; exact .nil, hX⟩)
          | (have hp : parseR s = ([], 11) := by unfold parseR; rw [if_neg (by omega), hbad]
             exact ⟨_, rfl, .slice none 0 0, by rw [hp]; rfl, by rw [hp]; exact .nil, hXw.trans hX⟩)
          | (have hp : parseR s = ([], 3) := by unfold parseR; rw [if_neg (by omega), hlin]; simp only; rw [if_pos (by omega)]
             exact ⟨_, rfl, .slice none 0 0, by rw [hp]; rfl, by rw [hp]; exact .nil, hXw.trans hX⟩)
          | (have hp : parseR s = (out, 0) := by unfold parseR; rw [if_neg (by omega), hlin]; simp only; rw [if_neg (by omega)]
             exact ⟨_, rfl, .slice Ao out.length co, by rw [hp]; rfl, by rw [hp]; exact Own.low hOut hXw.size, hXw.trans hX⟩)
end Go.Proofs.YtafcaigjijajnaaDoor
