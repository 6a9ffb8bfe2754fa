/-
  A text with one line that is none has no rules, whatever else it has: the walk.
-/
import Derived.Test.YtafcaigjijajnaaDoorFacts
import Derived.Test.YtafcaigjijajnaaDoorRulePl
namespace Go.Proofs.YtafcaigjijajnaaDoor
open Go Go.Eng Go.RowKit Go.Proofs
set_option linter.unusedVariables false
set_option linter.unusedSimpArgs false
set_option maxHeartbeats 1000000
set_option maxRecDepth 20000

abbrev oddL : List (List UInt8) := [[114, 101, 112, 108, 97, 99, 101], [120, 32, 42, 42, 32, 97, 32, 98], [114, 101, 112, 108, 97, 99, 101, 32, 42, 42, 32, 97, 45, 98, 32, 99], [114, 101, 109, 111, 118, 101], [114, 101, 109, 111, 118, 101, 32, 42, 42, 32, 97], [115, 116, 114, 105, 107, 101, 32, 42, 42, 32, 97, 32, 98]]
theorem odd_at : ∀ i : Fin 6, oddL[i] ≠ [] ∧ oneR (parts 32 oddL[i]) = none ∧ (10 : UInt8) ∉ oddL[i] ∧ oddL[i].length ≤ 16 := by decide +kernel
theorem parse_odd {a b : List Ru} {o : List UInt8} (ha : ∀ r ∈ a, ruR r) (hb : ∀ r ∈ b, ruR r) (h1 : o ≠ []) (h2 : oneR (parts 32 o) = none) (h3 : (10 : UInt8) ∉ o) (h4 : o.length ≤ 16) (hl : a.length + b.length ≤ 20) :
    parseR (((textR a ++ o) ++ [10]) ++ textR b) = ([], 11) := by
  have e : ((textR a ++ o) ++ [10]) ++ textR b = textR a ++ (o ++ 10 :: textR b) := by simp
  have la := text_len ha
  have lb := text_len hb
  unfold parseR
  rw [if_neg (by rw [e]; simp; omega), e, text_parts ha, parts_app h3, lines_bad h1 h2 (by simp)]
theorem ruleWrong_walk {A : Option Addr} {c : Nat} {l : List Ru} (n a : UInt8) (W : World) (hG : Gl W) (hc : l.length ≤ c) (hrow : ruT.Row W (old W) A l) (hl : l.length ≤ big) :
    Calls Tryd.prog 10 #[.slice A l.length c, .int .u8 (n.toNat : Nat), .int .u8 (a.toNat : Nat)] W (fun en w' => ∃ v, en = .returned v ∧ v = .bool true ∧ Ext W w') := by
  have ha256 : a.toNat < 256 := a.toNat_lt
  have hn256 : n.toNat < 256 := n.toNat_lt
  have hbig : big = 140737488355328 := rfl
  obtain ⟨k, hk⟩ : ∃ k, k = a.toNat % (l.length + 1) := ⟨_, rfl⟩
  have hkl : k ≤ l.length := by have := Nat.mod_lt a.toNat (show 0 < l.length + 1 by omega); omega
  have hP : ∀ w, Gl w → Ext W w → l.length ≤ 20 → (l.map lenRu).sum ≤ 1000 → Calls Tryd.prog 22 #[.slice A k c] w (fun en w' => ∃ v, en = .returned v ∧ v = .tuple #[sv (printR (l.take k)).1, .int .i64 (printR (l.take k)).2] ∧ Ext w w') := fun w hw hE h1 h2 => by
    have := print_spec (c := c) (l := l.take k) hw ((hrow.ext hE).take k) (by rw [List.length_take]; omega) (len_each (len_take k h2).1 (by omega))
    rw [List.length_take, Nat.min_eq_left hkl] at this
    exact this
  have hQ : ∀ w, Gl w → Ext W w → l.length ≤ 20 → (l.map lenRu).sum ≤ 1000 → Calls Tryd.prog 22 #[.slice (cutA A c k 4) (l.length - k) (c - k)] w (fun en w' => ∃ v, en = .returned v ∧ v = .tuple #[sv (printR (l.drop k)).1, .int .i64 (printR (l.drop k)).2] ∧ Ext w w') := fun w hw hE h1 h2 => by
    have := print_spec (c := c - k) (l := l.drop k) hw ((hrow.ext hE).drop (k := k) hc) (by rw [List.length_drop]; omega) (len_each (len_take k h2).2 (by omega))
    rw [List.length_drop] at this
    exact this
  refine calls' (n := 77) (rs := #[.tmp 6]) (l := [.slice A l.length c, .int .u8 (n.toNat : Nat), .int .u8 (a.toNat : Nat)]) Tryd.func10 rfl rfl rfl rfl rfl ?_
  have hX := Ext.refl W
  refine W_seq ?_
  refine W_region ?_
  refine op rfl (r_assignV (v := .bool _) rfl) ?_
  refine WL_nil ?_
  refine W_seq ?_
  refine W_seq ?_
  refine W_region ?_
  refine op rfl (r_moveV (v := .slice _ _ _) rfl) ?_
  refine op rfl (r_len_slice rfl Tryd.underlying23) ?_
  refine op rfl (r_gtr rfl rfl) ?_
  refine op_split rfl (r_moveV (v := .bool (decide _)) rfl) (fun hg18 => ?_) (fun hg18 => ?_)
  · refine opG_no rfl rfl rfl rfl rfl ?_
    refine opG_no rfl rfl rfl rfl rfl ?_
    refine opG_no rfl rfl rfl rfl rfl ?_
    refine op rfl (r_pickTV (v := .bool _) rfl rfl) ?_
    refine WL_nil ?_
    refine W_then rfl ?_
    refine W_seq ?_
    refine W_region ?_
    refine opCv rfl (r_call Tryd.func11 Tryd.nm11 rfl) (known11_spec _ (hG.ext hX)) ?_
    rintro v2 w2 ⟨rfl, hE⟩
    replace hX := hX.trans hE
    refine op rfl (r_assignV (v := .bool _) rfl) ?_
    refine WL_nil ?_
    refine W_ret (finX_ret ?_)
    refine fin1 ?_
    exact ⟨_, rfl, rfl, hX⟩
  · refine opG_yes rfl rfl rfl rfl rfl (r_moveV (v := .slice _ _ _) rfl) ?_
    refine opGCv_yes rfl rfl rfl rfl rfl (r_call Tryd.func21 Tryd.nm21 rfl) (longRu_spec hrow (by omega)) ?_
    rintro v1 w1 ⟨rfl, hE⟩
    replace hX := hX.trans hE
    refine opG_yes rfl rfl rfl rfl rfl (r_gtr rfl rfl) ?_
    refine op rfl (r_pickFV (v := .bool _) rfl rfl) ?_
    refine WL_nil ?_
    refine W_ifp rfl (fun ht22 => ?_) (fun ht22 => ?_)
    · refine W_seq ?_
      refine W_region ?_
      refine opCv rfl (r_call Tryd.func11 Tryd.nm11 rfl) (known11_spec _ (hG.ext hX)) ?_
      rintro v2 w2 ⟨rfl, hE⟩
      replace hX := hX.trans hE
      refine op rfl (r_assignV (v := .bool _) rfl) ?_
      refine WL_nil ?_
      refine W_ret (finX_ret ?_)
      refine fin1 ?_
      exact ⟨_, rfl, rfl, hX⟩
    · have h20 : l.length ≤ 20 := by omega
      have h1000 : (l.map lenRu).sum ≤ 1000 := by omega
      refine W_skip ?_
      refine W_seq ?_
      refine W_region ?_
      refine op rfl (r_moveV (v := .int _ _) rfl) ?_
      refine op rfl (r_conv' rfl Tryd.underlying5 Tryd.underlying3 (wrap_i64 (by omega) (by omega))) ?_
      refine op rfl (r_moveV (v := .slice _ _ _) rfl) ?_
      refine op rfl (r_len_slice rfl Tryd.underlying23) ?_
      refine op rfl (r_add' rfl rfl (wrap_i64 (by omega) (by omega))) ?_
      refine op rfl (r_rem' (m := (a.toNat : Int)) (n := ((l.length : Int) + 1)) (r := (k : Int)) rfl rfl (by omega) (by rw [Int.tmod_eq_emod_of_nonneg (by omega), hk]; norm_cast)) ?_
      refine op rfl (r_assignV (v := .int _ _) rfl) ?_
      refine WL_nil ?_
      refine W_seq ?_
      refine W_region ?_
      refine op rfl (r_moveV (v := .slice _ _ _) rfl) ?_
      refine op rfl (r_moveV (v := .int _ _) rfl) ?_
      refine op rfl (r_sliceHi (j := k) rfl rfl Tryd.underlying23 Tryd.sz35 (by omega)) ?_
      refine opCv rfl (r_call Tryd.func22 Tryd.nm22 rfl) (hP _ (hG.ext hX) hX h20 h1000) ?_
      rintro v4 w4 ⟨rfl, hE⟩
      replace hX := hX.trans hE
      refine op rfl (r_moveV (v := .tuple #[sv (printR (l.take k)).1, .int .i64 (printR (l.take k)).2]) rfl) ?_
      refine op rfl (r_extract (vs := [sv (printR (l.take k)).1, .int .i64 (printR (l.take k)).2]) rfl rfl) ?_
      refine op rfl (r_extract (vs := [sv (printR (l.take k)).1, .int .i64 (printR (l.take k)).2]) rfl rfl) ?_
      refine op rfl (r_assignV (v := sv (printR (l.take k)).1) rfl) ?_
      refine op rfl (r_assignV (v := .int .i64 (printR (l.take k)).2) rfl) ?_
      refine WL_nil ?_
      refine W_seq ?_
      refine W_region ?_
      refine op rfl (r_moveV (v := .slice _ _ _) rfl) ?_
      refine op rfl (r_moveV (v := .int _ _) rfl) ?_
      refine op rfl (r_sliceLo (i := k) rfl rfl Tryd.underlying23 Tryd.sz35 (by omega)) ?_
      refine opCv rfl (r_call Tryd.func22 Tryd.nm22 rfl) (hQ _ (hG.ext hX) hX h20 h1000) ?_
      rintro v5 w5 ⟨rfl, hE⟩
      replace hX := hX.trans hE
      refine op rfl (r_moveV (v := .tuple #[sv (printR (l.drop k)).1, .int .i64 (printR (l.drop k)).2]) rfl) ?_
      refine op rfl (r_extract (vs := [sv (printR (l.drop k)).1, .int .i64 (printR (l.drop k)).2]) rfl rfl) ?_
      refine op rfl (r_extract (vs := [sv (printR (l.drop k)).1, .int .i64 (printR (l.drop k)).2]) rfl rfl) ?_
      refine op rfl (r_assignV (v := sv (printR (l.drop k)).1) rfl) ?_
      refine op rfl (r_assignV (v := .int .i64 (printR (l.drop k)).2) rfl) ?_
      refine WL_nil ?_
      refine W_seq ?_
      refine W_seq ?_
      refine W_region ?_
      refine op rfl (r_moveV (v := .int .i64 (printR (l.take k)).2) rfl) ?_
      refine op rfl (r_neq rfl rfl) ?_
      refine op_split rfl (r_moveV (v := .bool (decide _)) rfl) (fun hg46 => ?_) (fun hg46 => ?_)
      · refine opG_no rfl rfl rfl rfl rfl ?_
        refine opG_no rfl rfl rfl rfl rfl ?_
        refine op rfl (r_pickTV (v := .bool _) rfl rfl) ?_
        refine WL_nil ?_
        refine W_then rfl ?_
        refine W_seq ?_
        refine W_region ?_
        refine opCv rfl (r_call Tryd.func11 Tryd.nm11 rfl) (known11_spec _ (hG.ext hX)) ?_
        rintro v7 w7 ⟨rfl, hE⟩
        replace hX := hX.trans hE
        refine op rfl (r_assignV (v := .bool _) rfl) ?_
        refine WL_nil ?_
        refine W_ret (finX_ret ?_)
        refine fin1 ?_
        exact ⟨_, rfl, rfl, hX⟩
      · refine opG_yes rfl rfl rfl rfl rfl (r_moveV (v := .int .i64 (printR (l.drop k)).2) rfl) ?_
        refine opG_yes rfl rfl rfl rfl rfl (r_neq rfl rfl) ?_
        refine op rfl (r_pickFV (v := .bool _) rfl rfl) ?_
        refine WL_nil ?_
        refine W_ifp rfl (fun ht49 => ?_) (fun ht49 => ?_)
        · refine W_seq ?_
          refine W_region ?_
          refine opCv rfl (r_call Tryd.func11 Tryd.nm11 rfl) (known11_spec _ (hG.ext hX)) ?_
          rintro v7 w7 ⟨rfl, hE⟩
          replace hX := hX.trans hE
          refine op rfl (r_assignV (v := .bool _) rfl) ?_
          refine WL_nil ?_
          refine W_ret (finX_ret ?_)
          refine fin1 ?_
          exact ⟨_, rfl, rfl, hX⟩
        · obtain ⟨hra, hla, hpa⟩ := print_ok (l := l.take k) (by omega)
          obtain ⟨hrb, hlb, hpb⟩ := print_ok (l := l.drop k) (by omega)
          obtain ⟨i, hi⟩ : ∃ i, i = n.toNat % 6 := ⟨_, rfl⟩
          have hi6 : i < 6 := by omega
          obtain ⟨d1, d2, d3, d4⟩ := odd_at ⟨i, hi6⟩
          have hlen : (l.take k).length + (l.drop k).length ≤ 20 := by rw [List.length_take, List.length_drop]; omega
          have hpo := parse_odd (o := oddL[i]) hra hrb d1 d2 d3 d4 hlen
          have lta := text_len hra
          have ltb := text_len hrb
          have hlt1 : (l.take k).length ≤ 20 := by omega
          have hlt2 : (l.drop k).length ≤ 20 := by omega
          have d4' : oddL[i].length ≤ 16 := d4
          have hR : ∀ w, Gl w → Calls Tryd.prog 12 #[sv (((textR (l.take k) ++ oddL[i]) ++ [10]) ++ textR (l.drop k))] w (fun en w' => ∃ v, en = .returned v ∧ ∃ r, v = .tuple #[r, .int .i64 11] ∧ OwnRu w' w.heap.size r [] ∧ Ext w w') := fun w hw => by
            have := parse_spec _ w hw (show (((textR (l.take k) ++ oddL[i]) ++ [10]) ++ textR (l.drop k)).length ≤ 1099511627776 by simp only [List.length_append, List.length_singleton]; omega)
            rw [hpo] at this
            exact this
          refine W_skip ?_
          refine W_seq ?_
          refine W_region ?_
          refine op_newS rfl (r_buildSlice (vs := [.string _, .string _, .string _, .string _, .string _, .string _]) Tryd.underlying49 Tryd.sz9 Tryd.zero9 rfl rfl rfl) ?_
          intro w8_0 b8_0 E8_0 B8_0 L8_0
          have hG8_0 : W.heap.size ≤ b8_0 := by have := hX.size; omega
          replace hX := hX.trans E8_0
          refine op rfl (r_moveV (v := .int _ _) rfl) ?_
          refine op rfl (r_conv' rfl Tryd.underlying5 Tryd.underlying3 (wrap_i64 (by omega) (by omega))) ?_
          refine op rfl (r_rem' (m := (n.toNat : Int)) (n := 6) (r := (i : Int)) rfl rfl (by omega) (by rw [Int.tmod_eq_emod_of_nonneg (by omega), hi]; norm_cast)) ?_
          refine op rfl (r_indexAddr1 rfl rfl rfl Tryd.underlying49 Tryd.sz9 (by omega) (by omega)) ?_
          refine op rfl (r_load (v := sv oddL[i]) rfl Tryd.underlying9 rfl (by
      have : i = 0 ∨ i = 1 ∨ i = 2 ∨ i = 3 ∨ i = 4 ∨ i = 5 := by omega
      rcases this with h | h | h | h | h | h <;> subst h <;> exact Blk.cell B8_0 rfl)) ?_
          refine op rfl (r_assignV (v := .string _) rfl) ?_
          refine WL_nil ?_
          refine W_seq ?_
          refine W_region ?_
          refine op rfl (r_moveV (v := sv (textR (l.take k))) (by rw [show textR (l.take k) = (printR (l.take k)).1 by rw [hpa]]; rfl)) ?_
          refine op rfl (r_moveV (v := .string _) rfl) ?_
          refine op rfl (rt_add rfl rfl (by omega)) ?_
          refine op rfl (rt_add rfl rfl (by simp only [List.length_append, List.length_singleton]; omega)) ?_
          refine op rfl (r_moveV (v := sv (textR (l.drop k))) (by rw [show textR (l.drop k) = (printR (l.drop k)).1 by rw [hpb]]; rfl)) ?_
          refine op rfl (rt_add rfl rfl (by simp only [List.length_append, List.length_singleton]; omega)) ?_
          refine opCv rfl (r_call Tryd.func12 Tryd.nm12 rfl) (hR _ (hG.ext hX)) ?_
          rintro v9 w9 ⟨r9, rfl, hO9, hE⟩
          replace B8_0 := Blk.ext B8_0 hE
          replace hX := hX.trans hE
          obtain ⟨A9, c9, rfl, hc9, hr9⟩ := own_frow hO9
          refine op rfl (r_moveV (v := .tuple #[.slice A9 0 c9, .int .i64 11]) rfl) ?_
          refine op rfl (r_extract (vs := [.slice A9 0 c9, .int .i64 11]) rfl rfl) ?_
          refine op rfl (r_extract (vs := [.slice A9 0 c9, .int .i64 11]) rfl rfl) ?_
          refine op rfl (r_assignV (v := .slice A9 0 c9) rfl) ?_
          refine op rfl (r_assignV (v := .int .i64 11) rfl) ?_
          refine WL_nil ?_
          refine W_seq ?_
          refine W_region ?_
          refine op rfl (r_moveV (v := .int .i64 11) rfl) ?_
          refine op rfl (r_eql rfl rfl) ?_
          refine op_true rfl (r_moveV (v := .bool (decide _)) rfl) (rfl) ?_
          refine opG_yes rfl rfl rfl rfl rfl (r_moveV (v := .slice A9 0 c9) rfl) ?_
          refine opG_yes rfl rfl rfl rfl rfl (r_len_slice rfl Tryd.underlying23) ?_
          refine opG_yes rfl rfl rfl rfl rfl (r_eql rfl rfl) ?_
          refine op rfl (r_pickTV (v := .bool _) rfl rfl) ?_
          refine op_true rfl (r_moveV (v := .bool (decide _)) rfl) (rfl) ?_
          refine opGCv_yes rfl rfl rfl rfl rfl (r_call Tryd.func11 Tryd.nm11 rfl) (known11_spec _ (hG.ext hX)) ?_
          rintro v10 w10 ⟨rfl, hE⟩
          replace B8_0 := Blk.ext B8_0 hE
          replace hX := hX.trans hE
          refine op rfl (r_pickTV (v := .bool _) rfl rfl) ?_
          refine op rfl (r_assignV (v := .bool _) rfl) ?_
          refine WL_nil ?_
          refine W_ret (finX_ret ?_)
          refine fin1 ?_
          exact ⟨_, rfl, rfl, hX⟩
theorem u8_of {c : Int} (hc : inK .u8 c) : c = ((UInt8.ofNat c.toNat).toNat : Nat) := by
  simp only [inK, lo, hi] at hc
  rw [UInt8.toNat_ofNat', Nat.mod_eq_of_lt (by omega)]; omega
theorem ruleWrong_row (W : World) (hG : Gl W) (A : Option Addr) (c : Nat) (l : List Ru) (hc : l.length ≤ c) (hl : l.length ≤ big) (hrow : ruT.Row W (old W) A l) (n : Int) (hn : inK .u8 n) (a : Int) (ha : inK .u8 a) :
    Calls Tryd.prog 10 #[.slice A l.length c, .int .u8 n, .int .u8 a] W (fun e W' => ∃ v, e = .returned v ∧ v = .bool true ∧ Ext W W') := by
  rw [u8_of hn, u8_of ha]
  exact ruleWrong_walk _ _ W hG hc hrow hl
end Go.Proofs.YtafcaigjijajnaaDoor
