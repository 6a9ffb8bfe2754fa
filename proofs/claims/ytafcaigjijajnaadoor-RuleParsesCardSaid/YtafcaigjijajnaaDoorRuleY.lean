/-
  The walk of a word as a text.
-/
import Derived.Test.YtafcaigjijajnaaDoorFacts
import Derived.Test.YtafcaigjijajnaaDoorRuleX
namespace Go.Proofs.YtafcaigjijajnaaDoor
open Go Go.Eng Go.RowKit Go.Proofs
set_option linter.unusedVariables false
set_option linter.unusedSimpArgs false
set_option maxHeartbeats 1000000
set_option maxRecDepth 20000

theorem two_cons {α : Type} : ∀ {r : List α}, 1 < r.length → ∃ a b t, r = a :: b :: t
  | [], h => by simp at h
  | [_], h => by simp at h
  | a :: b :: t, _ => ⟨a, b, t, rfl⟩
theorem unquote_spec (s : List UInt8) (w : World) (hG : Gl w) (hs : s.length ≤ 1099511627776) :
    Calls Tryd.prog 14 #[.string (str s)] w (fun en w' => ∃ v, en = .returned v ∧ v = .tuple #[.string (str ((unqP s).getD [])), .bool (decide ((unqP s).isSome = true))] ∧ Ext w w') := by
  refine calls' (n := 48) (rs := #[.tmp 2, .tmp 3]) (l := [.string (str s)]) Tryd.func14 rfl rfl rfl rfl rfl ?_
  have hX := Ext.refl w
  refine W_seq ?_
  refine W_region ?_
  refine op rfl (r_assignV (v := .string _) rfl) ?_
  refine op rfl (r_assignV (v := .bool _) rfl) ?_
  refine WL_nil ?_
  refine W_seq ?_
  refine W_seq ?_
  refine W_region ?_
  refine op rfl (r_moveV (v := .string _) rfl) ?_
  refine op rfl (rt_eql rfl rfl) ?_
  refine WL_nil ?_
  refine W_ifp rfl (fun ht10 => ?_) (fun ht10 => ?_)
  · refine W_seq ?_
    refine W_region ?_
    refine op rfl (r_assignV (v := .string _) rfl) ?_
    refine op rfl (r_assignV (v := .bool _) rfl) ?_
    refine WL_nil ?_
    refine W_ret (finX_ret ?_)
    refine fin2 ?_
    first
      | (have hu : unqP s = some [] := by unfold unqP; rw [if_pos (by assumption)]
         exact ⟨_, rfl, by rw [hu]; rfl, hX⟩)
      | (have hu : unqP s = none := by unfold unqP; rw [if_neg (by assumption), hdec, decP_bad ht32]; rfl
         exact ⟨_, rfl, by rw [hu]; rfl, hX'.trans hX⟩)
      | (have hu : unqP s = none := by unfold unqP; rw [if_neg (by assumption), hdec']; simp only; rw [if_neg (by assumption)]
         exact ⟨_, rfl, by rw [hu]; rfl, hX'.trans hX⟩)
      | (have hu : unqP s = some out := by unfold unqP; rw [if_neg (by assumption), hdec']; simp only; rw [if_pos (Classical.not_not.1 (by assumption))]
         exact ⟨_, rfl, by rw [hu]; rfl, hX'.trans hX⟩)
  · refine W_skip ?_
    refine W_seq ?_
    refine W_region ?_
    refine op rfl (r_assignV (v := .slice _ _ _) rfl) ?_
    refine WL_nil ?_
    refine W_seq ?_
    refine W_seq ?_
    refine W_region ?_
    refine op rfl (r_moveV (v := .string _) rfl) ?_
    refine op rfl (r_assignV (v := .string _) rfl) ?_
    refine WL_nil ?_
    refine W_block ?_
    refine W_loop [2, 3, 4, 5, 6, 7, 8, 12, 13, 14, 15, 16, 17, 18, 19, 20, 21, 22, 23, 24, 25, 26, 27, 28, 29, 30, 31, 32, 33, 34, 35, 36, 37, 38, 39, 40] (fun q e' w' => ∃ (r out : List UInt8) (v : Value), q = r.length ∧ e' 5 = .string (str r) ∧ e' 4 = v ∧ Eng.Own Ty.byte w' nobody w.heap.size 5 v out ∧ (decP s = (decP r).map (out ++ ·)) ∧ out.length + r.length ≤ s.length ∧ Ext w w') (s.length) ?_ ?_
    · exact ⟨s, [], _, rfl, rfl, rfl, .nil, by simp, by simp, hX⟩
    intro k g w' hI
    obtain ⟨r, out, v, hq, h5, h4, hO, hdec, hol, hX'⟩ := hI
    clear hX
    have hX := Ext.refl w'
    obtain ⟨w0i, hw0i⟩ : ∃ y, y = w' := ⟨_, rfl⟩
    subst hw0i
    refine W_set (i := 5) h5 ?_
    refine W_set (i := 4) h4 ?_
    refine W_seq ?_
    refine W_seq ?_
    refine W_region ?_
    refine op rfl (r_moveV (v := .string _) rfl) ?_
    refine op rfl (rt_neq rfl rfl) ?_
    refine WL_nil ?_
    refine W_ifp rfl (fun ht13 => ?_) (fun ht13 => ?_)
    · obtain ⟨c, r1, rfl⟩ : ∃ c r1, r = c :: r1 := by cases r with | nil => exact absurd rfl ht13 | cons c r1 => exact ⟨c, r1, rfl⟩
      refine W_skip ?_
      refine W_block ?_
      refine W_seq ?_
      refine W_region ?_
      refine op rfl (r_moveV (v := .string _) rfl) ?_
      refine op rfl (rt_index (l := c :: r1) (i := 0) rfl rfl Tryd.underlying9 (by simp)) ?_
      refine op rfl (r_assignV (v := .int _ _) rfl) ?_
      refine WL_nil ?_
      refine W_seq ?_
      refine W_region ?_
      refine op rfl (r_moveV (v := .string _) rfl) ?_
      refine op rfl (rt_sliceLo (l := c :: r1) (i := 1) rfl rfl Tryd.underlying9 (by simp)) ?_
      refine op rfl (r_assignV (v := .string _) rfl) ?_
      refine WL_nil ?_
      refine W_cut [2, 3, 5, 6, 7, 8, 18, 19, 20, 21, 22, 23, 24, 25, 26, 27, 28, 29, 30, 31, 32, 33, 34, 35, 36] (fun e' w' => ∃ (c' : UInt8) (r' : List UInt8), e' 6 = .int .u8 (c'.toNat : Int) ∧ e' 5 = .string (str r') ∧ decP (c :: r1) = (decP r').map (c' :: ·) ∧ r'.length ≤ r1.length ∧ Ext w0i w') ?_ ?_
      · refine W_seq ?_
        refine W_region ?_
        refine op rfl (r_moveV (v := .int .u8 (c.toNat : Nat)) rfl) ?_
        refine op rfl (r_eql rfl rfl) ?_
        refine op_split rfl (r_moveV (v := .bool (decide _)) rfl) (fun hg20 => ?_) (fun hg20 => ?_)
        · refine opG_yes rfl rfl rfl rfl rfl (r_moveV (v := .string (str r1)) rfl) ?_
          refine opG_yes rfl rfl rfl rfl rfl (rt_len rfl Tryd.underlying9) ?_
          refine opG_yes rfl rfl rfl rfl rfl (r_gtr rfl rfl) ?_
          refine op rfl (r_pickTV (v := .bool _) rfl rfl) ?_
          refine WL_nil ?_
          refine W_ifp rfl (fun ht24 => ?_) (fun ht24 => ?_)
          · obtain ⟨a, b, r2, rfl⟩ := two_cons (show 1 < r1.length by omega)
            have hc37 : c = 37 := UInt8.toNat_inj.1 (by have : c.toNat = 37 := by omega
                                                        exact this)
            subst hc37
            refine W_seq ?_
            refine W_region ?_
            refine op rfl (r_moveV (v := .string (str (a :: b :: r2))) rfl) ?_
            refine op rfl (rt_sliceHi (l := a :: b :: r2) (j := 2) rfl rfl Tryd.underlying9 (by simp)) ?_
            refine opCv rfl (r_call Tryd.func32 Tryd.nm32 rfl) (parseU_spec [a, b] _ ((hG.ext hX').ext hX) rfl) ?_
            rintro v9 w9 ⟨x, rr, rfl, hx1, hx2, hx3, hx4, hE⟩
            replace hX := hX.trans hE
            refine op rfl (r_moveV (v := .tuple #[.int .u64 x, rr]) rfl) ?_
            refine op rfl (r_extract (vs := [.int .u64 x, rr]) rfl rfl) ?_
            refine op rfl (r_extract (vs := [.int .u64 x, rr]) rfl rfl) ?_
            refine op rfl (r_assignV (v := .int .u64 x) rfl) ?_
            refine op rfl (r_assignV (v := rr) rfl) ?_
            refine WL_nil ?_
            refine W_seq ?_
            refine W_seq ?_
            refine W_region ?_
            refine op rfl (r_moveV (v := rr) rfl) ?_
            refine op rfl (ri_neq_dec (p := hexL [a, b] = none) (dp := inferInstance) rfl rfl Tryd.underlying60 hx2 hx3) ?_
            refine WL_nil ?_
            refine W_ifp rfl (fun ht32 => ?_) (fun ht32 => ?_)
            · refine W_seq ?_
              refine W_region ?_
              refine op rfl (r_assignV (v := .string _) rfl) ?_
              refine op rfl (r_assignV (v := .bool _) rfl) ?_
              refine WL_nil ?_
              refine W_ret (blk_ret (blk_ret (finX_ret ?_)))
              refine fin2 ?_
              first
                | (have hu : unqP s = some [] := by unfold unqP; rw [if_pos (by assumption)]
                   exact ⟨_, rfl, by rw [hu]; rfl, hX⟩)
                | (have hu : unqP s = none := by unfold unqP; rw [if_neg (by assumption), hdec, decP_bad ht32]; rfl
                   exact ⟨_, rfl, by rw [hu]; rfl, hX'.trans hX⟩)
                | (have hu : unqP s = none := by unfold unqP; rw [if_neg (by assumption), hdec']; simp only; rw [if_neg (by assumption)]
                   exact ⟨_, rfl, by rw [hu]; rfl, hX'.trans hX⟩)
                | (have hu : unqP s = some out := by unfold unqP; rw [if_neg (by assumption), hdec']; simp only; rw [if_pos (Classical.not_not.1 (by assumption))]
                   exact ⟨_, rfl, by rw [hu]; rfl, hX'.trans hX⟩)
            · obtain ⟨n, hn⟩ : ∃ n, hexL [a, b] = some n := by
                cases hh : hexL [a, b] with
                | none => exact absurd hh ht32
                | some n => exact ⟨n, rfl⟩
              obtain rfl := hx1 n hn
              have hx256 := hexL_lt hn
              refine W_skip ?_
              refine W_drawF (W0 := w0i) (fun b : Nat => False) Tryd.wd rfl ?_
              intro wd12 hD
              replace hX := hX.trans hD
              have hS : Ext w0i wd12 ∧ Same (fun b : Nat => False) wd12 wd12 := ⟨hX, fun _ _ => rfl⟩
              refine A_take (i := 0) rfl (by kernel_rfl) (by kernel_rfl) (by kernel_rfl) rfl hS (fun _ hw => r_moveV (v := .int .u64 (x : Nat)) rfl) ?_
              refine A_take (i := 1) rfl (by kernel_rfl) (by kernel_rfl) (by kernel_rfl) rfl hS (fun _ hw => r_conv' (m := (x : Int)) (r := (x : Int)) rfl Tryd.underlying58 Tryd.underlying5 (wrap_u8 (by omega) (by omega))) ?_
              refine A_take (i := 2) rfl (by kernel_rfl) (by kernel_rfl) (by kernel_rfl) rfl hS (fun _ hw => r_moveV (v := .string (str (a :: b :: r2))) rfl) ?_
              refine A_take (i := 3) rfl (by kernel_rfl) (by kernel_rfl) (by kernel_rfl) rfl hS (fun _ hw => rt_sliceLo (l := a :: b :: r2) (i := 2) rfl rfl Tryd.underlying9 (by simp)) ?_
              refine A_take (i := 4) rfl (by kernel_rfl) (by kernel_rfl) (by kernel_rfl) rfl hS (fun _ hw => r_assignV (v := .int _ _) rfl) ?_
              refine A_take (i := 5) rfl (by kernel_rfl) (by kernel_rfl) (by kernel_rfl) rfl hS (fun _ hw => r_assignV (v := .string _) rfl) ?_
              refine A_done (by kernel_rfl) ?_
              refine ⟨?_, by repeat (first | with_reducible exact Out.refl _ _ | with_reducible exact Out.mix | refine Out.put rfl ?_ | refine Out.mixin rfl ?_ | exact Out.refl _ _ | exact Out.mix)⟩
              first
                | exact ⟨UInt8.ofNat x, r2, by rw [UInt8.toNat_ofNat', Nat.mod_eq_of_lt (by omega)]; rfl, rfl, decP_hit hn, by simp only [List.length_cons]; omega, hX⟩
                | exact ⟨c, r1, rfl, rfl, decP_one (by omega), Nat.le_refl _, hX⟩
          · refine W_skip ?_
            refine ⟨?_, by repeat (first | with_reducible exact Out.refl _ _ | with_reducible exact Out.mix | refine Out.put rfl ?_ | refine Out.mixin rfl ?_ | exact Out.refl _ _ | exact Out.mix)⟩
            first
              | exact ⟨UInt8.ofNat x, r2, by rw [UInt8.toNat_ofNat', Nat.mod_eq_of_lt (by omega)]; rfl, rfl, decP_hit hn, by simp only [List.length_cons]; omega, hX⟩
              | exact ⟨c, r1, rfl, rfl, decP_one (by omega), Nat.le_refl _, hX⟩
        · refine opG_no rfl rfl rfl rfl rfl ?_
          refine opG_no rfl rfl rfl rfl rfl ?_
          refine opG_no rfl rfl rfl rfl rfl ?_
          refine op rfl (r_pickFV (v := .bool _) rfl rfl) ?_
          refine WL_nil ?_
          refine W_else rfl ?_
          refine W_skip ?_
          refine ⟨?_, by repeat (first | with_reducible exact Out.refl _ _ | with_reducible exact Out.mix | refine Out.put rfl ?_ | refine Out.mixin rfl ?_ | exact Out.refl _ _ | exact Out.mix)⟩
          first
            | exact ⟨UInt8.ofNat x, r2, by rw [UInt8.toNat_ofNat', Nat.mod_eq_of_lt (by omega)]; rfl, rfl, decP_hit hn, by simp only [List.length_cons]; omega, hX⟩
            | exact ⟨c, r1, rfl, rfl, decP_one (by omega), Nat.le_refl _, hX⟩
      rintro gift24 w' hJ
      obtain ⟨c', r', h6, h5', hcj, hrl, hX1⟩ := hJ
      clear hX
      obtain ⟨w11, hw11⟩ : ∃ y, y = w' := ⟨_, rfl⟩
      subst hw11
      have hX := hX1
      refine W_set (i := 6) h6 ?_
      refine W_set (i := 5) h5' ?_
      refine W_region ?_
      refine op rfl (r_moveV (v := v) rfl) ?_
      refine op rfl (r_moveV (v := .int _ _) rfl) ?_
      refine op_newS rfl (r_buildSlice (vs := [.int .u8 (c'.toNat : Int)]) Tryd.underlying45 Tryd.sz5 Tryd.zero5 rfl rfl rfl) ?_
      intro w12 b12 E12 B12 L12
      replace hX := hX.trans E12
      have hO12 := own_fext hO hX
      have hXw := hX'.trans hX
      refine op_append (T := Ty.byte) (F := nobody) (m := [c']) rfl rfl rfl Tryd.underlying45 Tryd.sz5 Tryd.by5 Tryd.zero5 rfl hO12 ((row_one B12 trivial : Ty.byte.Row w12 (old w12) (some ⟨b12, 0, none⟩) [c']).srcF flat_byte) (fun _ q => q.elim) (by simp only [List.length_singleton]; simp only [List.length_cons] at hol; omega) (by simp only [List.length_singleton]; simp only [List.length_cons] at hol; omega) hXw.size ?_
      intro v13 w13 hO11 hG13 hv13
      have hX13 : Ext w w13 := hXw.gro hG13 hXw.size (fun k hk => (hO12.lt hk).1)
      clear hX
      have hX := hX13
      refine op rfl (r_assignV (v := v13) rfl) ?_
      refine WL_nil ?_
      refine ⟨?_, by repeat (first | with_reducible exact Out.refl _ _ | with_reducible exact Out.mix | refine Out.put rfl ?_ | refine Out.mixin rfl ?_ | exact Out.refl _ _ | exact Out.mix)⟩
      exact ⟨r'.length, by simp only [List.length_cons] at hq; omega, r', out ++ [c'], _, rfl, rfl, rfl, hO11, by rw [hdec, hcj, Option.map_map]; congr 1; funext t; simp, by rw [List.length_append, List.length_singleton]; simp only [List.length_cons] at hol; omega, hX13⟩
    · obtain rfl : r = [] := Classical.not_not.1 ht13
      have hdec' : decP s = some out := by rw [hdec]; simp [decP]
      have hO' := hO
      obtain ⟨A12, c12, rfl, hc12, hr12⟩ := own_frow hO
      have hol' : out.length ≤ s.length := by omega
      refine W_exit (blk_hit ?_)
      refine W_seq ?_
      refine W_seq ?_
      refine W_region ?_
      refine op rfl (r_moveV (v := .slice _ _ _) rfl) ?_
      refine op rfl (rt_str (l := out) rfl Tryd.underlying45 Tryd.underlying5 Tryd.underlying9 hr12) ?_
      refine opCv rfl (r_call Tryd.func17 Tryd.nm17 rfl) (quote_spec out _ (by omega)) ?_
      rintro v14 w14 ⟨rfl, hE⟩
      replace hX := hX.trans hE
      refine op rfl (r_moveV (v := .string _) rfl) ?_
      refine op rfl (rt_neq rfl rfl) ?_
      refine WL_nil ?_
      refine W_ifp rfl (fun ht45 => ?_) (fun ht45 => ?_)
      · refine W_seq ?_
        refine W_region ?_
        refine op rfl (r_assignV (v := .string _) rfl) ?_
        refine op rfl (r_assignV (v := .bool _) rfl) ?_
        refine WL_nil ?_
        refine W_ret (finX_ret ?_)
        refine fin2 ?_
        first
          | (have hu : unqP s = some [] := by unfold unqP; rw [if_pos (by assumption)]
             exact ⟨_, rfl, by rw [hu]; rfl, hX⟩)
          | (have hu : unqP s = none := by unfold unqP; rw [if_neg (by assumption), hdec, decP_bad ht32]; rfl
             exact ⟨_, rfl, by rw [hu]; rfl, hX'.trans hX⟩)
          | (have hu : unqP s = none := by unfold unqP; rw [if_neg (by assumption), hdec']; simp only; rw [if_neg (by assumption)]
             exact ⟨_, rfl, by rw [hu]; rfl, hX'.trans hX⟩)
          | (have hu : unqP s = some out := by unfold unqP; rw [if_neg (by assumption), hdec']; simp only; rw [if_pos (Classical.not_not.1 (by assumption))]
             exact ⟨_, rfl, by rw [hu]; rfl, hX'.trans hX⟩)
      · refine W_skip ?_
        refine W_seq ?_
        refine W_region ?_
        refine op rfl (r_moveV (v := .slice _ _ _) rfl) ?_
        refine op rfl (rt_str (l := out) rfl Tryd.underlying45 Tryd.underlying5 Tryd.underlying9 (hr12.ext hX)) ?_
        refine op rfl (r_assignV (v := .string _) rfl) ?_
        refine op rfl (r_assignV (v := .bool _) rfl) ?_
        refine WL_nil ?_
        refine W_ret (finX_ret ?_)
        refine fin2 ?_
        first
          | (have hu : unqP s = some [] := by unfold unqP; rw [if_pos (by assumption)]
             exact ⟨_, rfl, by rw [hu]; rfl, hX⟩)
          | (have hu : unqP s = none := by unfold unqP; rw [if_neg (by assumption), hdec, decP_bad ht32]; rfl
             exact ⟨_, rfl, by rw [hu]; rfl, hX'.trans hX⟩)
          | (have hu : unqP s = none := by unfold unqP; rw [if_neg (by assumption), hdec']; simp only; rw [if_neg (by assumption)]
             exact ⟨_, rfl, by rw [hu]; rfl, hX'.trans hX⟩)
          | (have hu : unqP s = some out := by unfold unqP; rw [if_neg (by assumption), hdec']; simp only; rw [if_pos (Classical.not_not.1 (by assumption))]
             exact ⟨_, rfl, by rw [hu]; rfl, hX'.trans hX⟩)
end Go.Proofs.YtafcaigjijajnaaDoor
