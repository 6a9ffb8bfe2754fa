/-
  The walks of package slices at files: find, tell, clone, delete, insert. By elements as they lie.
-/
import Derived.Test.YtmedmajdoecjfaaDoorFacts
import Derived.Test.YtmedmajdoecjfaaDoorGenB
import Derived.Test.YtmedmajdoecjfaaDoorGenA
namespace Go.Proofs.YtmedmajdoecjfaaDoor
open Go Go.Eng Go.RowKit Go.Proofs
set_option linter.unusedVariables false
set_option linter.unusedSimpArgs false
set_option maxHeartbeats 2000000

def FileR (r : List Value) : Prop := ∃ s A n c, r = [.string s, .slice A n c]
structure PredC (gf : Nat) (lb : List Value) (p : List Value → Bool) (Q : List Value → Prop) (K : World → Prop) : Prop where
  fn : ∃ fn, Tryd.prog.funcs[gf]? = some fn ∧ (fn.name == "runtime.NumGoroutine") = false ∧ fn.body.isNone = false
  run : ∀ r W, Q r → K W → Calls Tryd.prog gf ([Value.agg r.toArray] ++ lb).toArray W (fun en W' => ∃ v, en = .returned v ∧ v = .bool (decide (p r = true)) ∧ Ext W W')
  ext : ∀ W W', K W → Ext W W' → K W'
def ixI (i n : Nat) : Int := if i < n then (i : Int) else -1
theorem findIdx_at {α : Type} {p : α → Bool} : ∀ {l : List α} {i : Nat} (hi : i < l.length), (∀ k (h : k < l.length), k < i → p l[k] = false) → p l[i] = true → l.findIdx p = i
  | x :: l, 0, _, _, h => by
    have h' : p x = true := h
    simp [List.findIdx_cons, h']
  | x :: l, i + 1, hi, hall, h => by
    have h0 : p x = false := hall 0 (by simp) (by omega); have := findIdx_at (l := l) (i := i) (by simpa using hi) (fun k hk hki => by have := hall (k + 1) (by simpa using hk) (by omega); simpa using this) (by simpa using h)
    simp [List.findIdx_cons, h0, this]
theorem findIdx_none {α : Type} {p : α → Bool} : ∀ {l : List α}, (∀ k (h : k < l.length), p l[k] = false) → l.findIdx p = l.length
  | [], _ => rfl
  | x :: l, hall => by
    have h0 : p x = false := hall 0 (by simp); have := findIdx_none (l := l) (fun k hk => by have := hall (k + 1) (by simpa using hk); simpa using this)
    simp [List.findIdx_cons, h0, this]
theorem any_findIdx {α : Type} {p : α → Bool} : ∀ {l : List α}, l.any p = decide (l.findIdx p < l.length)
  | [] => rfl
  | x :: l => by
    cases h : p x
    · simp [List.findIdx_cons, h, any_findIdx (l := l)]
    · simp [List.findIdx_cons, h]
theorem ixI_spec {α : Type} (p : α → Bool) (l : List α) : (ixI (l.findIdx p) l.length = -1 ∧ ∀ x ∈ l, p x = false) ∨ ∃ (i : Nat) (h : i < l.length), ixI (l.findIdx p) l.length = i ∧ p l[i] = true ∧ ∀ k (h : k < l.length), k < i → p l[k] = false := by
  by_cases h : l.findIdx p < l.length
  · exact Or.inr ⟨l.findIdx p, h, by unfold ixI; rw [if_pos h], List.findIdx_getElem, fun k hk hki => by
      have := List.not_of_lt_findIdx hki
      simpa using this⟩
  · refine Or.inl ⟨by unfold ixI; rw [if_neg h], fun x hx => ?_⟩
    have : l.findIdx p = l.length := by have := List.findIdx_le_length (p := p) (xs := l); omega
    have := List.findIdx_eq_length.1 this x hx
    simpa using this
theorem indexFunc_spec {gf : Nat} {lb : List Value} {p : List Value → Bool} {Q : List Value → Prop} {K : World → Prop} (hp : PredC gf lb p Q K) {rs : List (List Value)} {A : Option Addr} {cap : Nat} {w : World} (hrow : (rawT 2).Row w (old w) A rs) (hQ : ∀ r ∈ rs, Q r) (hK : K w) (hl : rs.length ≤ 140737488355328) :
    Calls Tryd.prog 77 #[.slice A rs.length cap, .func (.func gf) #[] lb.toArray] w (fun en w' => ∃ v, en = .returned v ∧ v = .int .i64 (ixI (rs.findIdx p) rs.length) ∧ Ext w w') := by
  obtain ⟨fn, hf1, hf2, hf3⟩ := hp.fn; refine calls' (n := 19) (rs := #[.tmp 4]) (l := [.slice A rs.length cap, .func (.func gf) #[] lb.toArray]) Tryd.func77 rfl rfl rfl rfl rfl ?_; have hX := Ext.refl w; refine W_seq ?_; refine W_region ?_; refine op rfl (r_assignV (v := .int _ _) rfl) ?_; refine WL_nil ?_; refine W_seq ?_; refine W_seq ?_; refine W_region ?_; refine op rfl (r_moveV (v := .slice _ _ _) rfl) ?_; refine op rfl (r_len_slice rfl Tryd.underlying23) ?_; refine op rfl (r_moveV (v := .int _ _) rfl) ?_; refine WL_nil ?_; refine W_block ?_; refine W_loop [4, 5, 8, 9, 10, 11, 12, 13, 14, 15, 16, 17, 18] (fun q e' w' => ∃ i : Nat, q = rs.length - i ∧ i ≤ rs.length ∧ e' 8 = .int .i64 i ∧ (∀ k (h : k < rs.length), k < i → p rs[k] = false) ∧ Ext w w') (rs.length) ?_ ?_
  · exact ⟨0, by omega, by omega, rfl, fun k _ h => absurd h (Nat.not_lt_zero k), hX⟩
  intro k g w' hI; obtain ⟨i, hq, hi, h8, hall, hE2⟩ := hI; clear hX; have hX := hE2; refine W_set (i := 8) h8 ?_; refine W_seq ?_; refine W_region ?_; refine op rfl (r_lss rfl rfl) ?_; refine WL_nil ?_; refine W_seq ?_; refine W_ifp rfl (fun ht9 => ?_) (fun ht9 => ?_)
  · have hlt : i < rs.length := by omega
    obtain ⟨g, off, xs, hA, _, ⟨rfl, hr2⟩, hcell⟩ := (hrow.ext hX).cells hlt; refine W_skip ?_; refine W_seq ?_; refine W_block ?_; refine W_seq ?_; refine W_region ?_; refine op rfl (r_moveV (v := .int _ _) rfl) ?_; refine op rfl (r_assignV (v := .int _ _) rfl) ?_; refine WL_nil ?_; refine W_seq ?_; refine W_region ?_; refine op rfl (r_moveV (v := .func (.func gf) #[] lb.toArray) rfl) ?_; refine op rfl (r_moveV (v := .slice _ _ _) rfl) ?_; refine op rfl (r_moveV (v := .int _ _) rfl) ?_; refine op rfl (r_indexAddrN rfl rfl hA Tryd.underlying23 Tryd.sz35 (by omega) (by omega)) ?_; refine op rfl (r_load_agg (cs := rs[i]) rfl Tryd.underlying35 rfl Tryd.sz35 hr2.1 hcell) ?_; refine opCv rfl (r_callV (lb := lb) rfl hf1 hf2 hf3) (hp.run rs[i] _ (hQ _ (List.getElem_mem hlt)) (hp.ext _ _ hK hX)) ?_; rintro v w4 ⟨rfl, hE⟩; replace hX := hX.trans hE; refine WL_nil ?_; refine W_ifp rfl (fun ht16 => ?_) (fun ht16 => ?_)
    · refine W_seq ?_; refine W_region ?_; refine op rfl (r_moveV (v := .int _ _) rfl) ?_; refine op rfl (r_assignV (v := .int _ _) rfl) ?_; refine WL_nil ?_; refine W_ret (blk_ret (blk_ret (finX_ret ?_))); refine fin1 ?_
      first
        | exact ⟨_, rfl, by unfold ixI; rw [hfi, if_neg (Nat.lt_irrefl _)]; rfl, hX⟩
        | exact ⟨_, rfl, by rw [findIdx_at hlt hall (by simpa using ht16)]; unfold ixI; rw [if_pos hlt]; rfl, hX⟩
    · refine W_skip ?_; refine W_region ?_; refine op rfl (r_add' rfl rfl (wrap_i64 (by omega) (by omega))) ?_; refine op rfl (r_moveV (v := .int _ _) rfl) ?_; refine WL_nil ?_; refine ⟨?_, by repeat (first | with_reducible exact Out.refl _ _ | with_reducible exact Out.mix | refine Out.put rfl ?_ | refine Out.mixin rfl ?_ | exact Out.refl _ _ | exact Out.mix)⟩; refine ⟨rs.length - (i + 1), by omega, i + 1, rfl, by omega, rfl, fun k h hk => ?_, hX⟩
      by_cases hki : k = i
      · subst hki; simpa using ht16
      · exact hall k h (by omega)
  · obtain rfl : i = rs.length := by omega
    have hfi := findIdx_none (p := p) (fun k h => hall k h h); refine W_exit (blk_hit ?_); refine W_seq ?_; refine W_region ?_; refine op rfl (r_assignV (v := .int _ _) rfl) ?_; refine WL_nil ?_; refine W_ret (finX_ret ?_); refine fin1 ?_
    first
      | exact ⟨_, rfl, by unfold ixI; rw [hfi, if_neg (Nat.lt_irrefl _)]; rfl, hX⟩
      | exact ⟨_, rfl, by rw [findIdx_at hlt hall (by simpa using ht16)]; unfold ixI; rw [if_pos hlt]; rfl, hX⟩
theorem containsFunc_spec {gf : Nat} {lb : List Value} {p : List Value → Bool} {Q : List Value → Prop} {K : World → Prop} (hp : PredC gf lb p Q K) {rs : List (List Value)} {A : Option Addr} {cap : Nat} {w : World} (hrow : (rawT 2).Row w (old w) A rs) (hQ : ∀ r ∈ rs, Q r) (hK : K w) (hl : rs.length ≤ 140737488355328) :
    Calls Tryd.prog 63 #[.slice A rs.length cap, .func (.func gf) #[] lb.toArray] w (fun en w' => ∃ v, en = .returned v ∧ v = .bool (rs.any p) ∧ Ext w w') := by
  refine calls' (n := 9) (rs := #[.tmp 4]) (l := [.slice A rs.length cap, .func (.func gf) #[] lb.toArray]) Tryd.func63 rfl rfl rfl rfl rfl ?_; have hX := Ext.refl w; refine W_seq ?_; refine W_region ?_; refine op rfl (r_assignV (v := .bool _) rfl) ?_; refine WL_nil ?_; refine W_seq ?_; refine W_region ?_; refine op rfl (r_moveV (v := .slice _ _ _) rfl) ?_; refine op rfl (r_moveV (v := .func (.func gf) #[] lb.toArray) rfl) ?_; refine opCv rfl (r_call Tryd.func77 Tryd.nm77 rfl) (indexFunc_spec hp (hrow.ext hX) hQ (hp.ext _ _ hK hX) hl) ?_; rintro v w2 ⟨rfl, hE⟩; replace hX := hX.trans hE; refine op rfl (r_geq rfl rfl) ?_; refine op rfl (r_assignV (v := .bool _) rfl) ?_; refine WL_nil ?_; refine W_ret (finX_ret ?_); refine fin1 ?_; refine ⟨_, rfl, ?_, hX⟩; rw [any_findIdx]
  unfold ixI
  exact bool_iff (by split <;> omega)
theorem cloneB_spec (A : Option Addr) (c : Nat) (l : List UInt8) (w : World) (hl : l.length * 1 ≤ 140737488355328) {F : Nat → Prop} (hF : ∀ b, F b → b < w.heap.size) (hA : (Ty.byte).Row w F A l) :
    Calls Tryd.prog 47 #[.slice A l.length c] w (fun en w' => ∃ v, en = .returned v ∧ Ext w w' ∧ Eng.Own (Ty.byte) w' nobody w.heap.size 5 v l) := by
  refine calls' (n := 8) (rs := #[.tmp 2]) (l := [.slice A l.length c]) Tryd.func47 rfl rfl rfl rfl rfl ?_; refine W_seq ?_; refine W_region ?_; refine op rfl (r_assignV (v := .slice _ _ _) rfl) ?_; refine WL_nil ?_; refine W_seq ?_; refine W_seq ?_; refine W_region ?_; refine op rfl (r_moveV (v := .slice _ _ _) rfl) ?_; refine op rfl (rl_eql rfl rfl Tryd.underlying24) ?_; refine WL_nil ?_; refine W_ifp rfl (fun ht4 => ?_) (fun ht4 => ?_)
  · subst ht4
    obtain rfl : l = [] := by
      rcases hA with h | ⟨g, off, c, t, fr, h, _⟩
      · exact h
      · cases h
    refine W_seq ?_; refine W_region ?_; refine op rfl (r_assignV (v := .slice _ _ _) rfl) ?_; refine WL_nil ?_; refine W_ret (finX_ret ?_); refine fin1 ?_; exact ⟨_, rfl, Ext.refl _, Eng.Own.nil⟩
  · refine W_skip ?_; refine W_seq ?_; refine W_region ?_; refine op_newS rfl (r_buildSlice (vs := []) Tryd.underlying24 Tryd.sz5 Tryd.zero5 rfl rfl rfl) ?_; intro w3_0 b3_0 E3_0 B3_0 L3_0; have hO : Eng.Own Ty.byte w3_0 nobody w.heap.size 5 (.slice (some ⟨b3_0, 0, none⟩) 0 0) [] := Eng.Own.of_blk (l := []) (cap := 0) (Nat.le_of_eq L3_0) B3_0 (Nat.le_refl _) rfl (by simp) (by simp); refine op rfl (r_moveV (v := .slice _ _ _) rfl) ?_; refine op_app flat_byte rfl rfl rfl Tryd.underlying24 Tryd.sz5 Tryd.by5 Tryd.zero5 rfl (E3_0) (hO) (hA.keep (fun b hb => E3_0.block b (hF b hb)) (fun _ h => h)) (by simp only [List.length_nil]; omega) (by simp only [List.length_nil]; omega) ?_; intro v3_2 w3_2 O3_2 X3_2 G3_2; refine op rfl (r_assignV (v := v3_2) rfl) ?_; refine WL_nil ?_; refine W_ret (finX_ret ?_); refine fin1 ?_; exact ⟨_, rfl, X3_2, by rw [List.nil_append] at O3_2; exact O3_2⟩
theorem cloneF_spec (A : Option Addr) (c : Nat) (l : List (List Value)) (w : World) (hl : l.length * 40 ≤ 140737488355328) {F : Nat → Prop} (hF : ∀ b, F b → b < w.heap.size) (hA : (rawT 2).Row w F A l) :
    Calls Tryd.prog 78 #[.slice A l.length c] w (fun en w' => ∃ v, en = .returned v ∧ Ext w w' ∧ Eng.Own (rawT 2) w' nobody w.heap.size 35 v l) := by
  refine calls' (n := 8) (rs := #[.tmp 2]) (l := [.slice A l.length c]) Tryd.func78 rfl rfl rfl rfl rfl ?_; refine W_seq ?_; refine W_region ?_; refine op rfl (r_assignV (v := .slice _ _ _) rfl) ?_; refine WL_nil ?_; refine W_seq ?_; refine W_seq ?_; refine W_region ?_; refine op rfl (r_moveV (v := .slice _ _ _) rfl) ?_; refine op rfl (rl_eql rfl rfl Tryd.underlying23) ?_; refine WL_nil ?_; refine W_ifp rfl (fun ht4 => ?_) (fun ht4 => ?_)
  · subst ht4
    obtain rfl : l = [] := by
      rcases hA with h | ⟨g, off, c, t, fr, h, _⟩
      · exact h
      · cases h
    refine W_seq ?_; refine W_region ?_; refine op rfl (r_assignV (v := .slice _ _ _) rfl) ?_; refine WL_nil ?_; refine W_ret (finX_ret ?_); refine fin1 ?_; exact ⟨_, rfl, Ext.refl _, Eng.Own.nil⟩
  · refine W_skip ?_; refine W_seq ?_; refine W_region ?_; refine op_newS rfl (r_buildNone Tryd.underlying23 Tryd.sz35) ?_; intro w3_0 b3_0 E3_0 B3_0 L3_0; have hO : Eng.Own (rawT 2) w3_0 nobody w.heap.size 35 (.slice (some ⟨b3_0, 0, none⟩) 0 0) [] := Eng.Own.none0 (Nat.le_of_eq L3_0) B3_0; refine op rfl (r_moveV (v := .slice _ _ _) rfl) ?_; refine op_app flat_raw rfl rfl rfl Tryd.underlying23 Tryd.sz35 Tryd.by35 Tryd.zero35 rfl (E3_0) (hO) (hA.keep (fun b hb => E3_0.block b (hF b hb)) (fun _ h => h)) (by simp only [List.length_nil]; omega) (by simp only [List.length_nil]; omega) ?_; intro v3_2 w3_2 O3_2 X3_2 G3_2; refine op rfl (r_assignV (v := v3_2) rfl) ?_; refine WL_nil ?_; refine W_ret (finX_ret ?_); refine fin1 ?_; exact ⟨_, rfl, X3_2, by rw [List.nil_append] at O3_2; exact O3_2⟩
theorem cloneD_spec (A : Option Addr) (c : Nat) (l : List (List Value)) (w : World) (hl : l.length * 48 ≤ 140737488355328) {F : Nat → Prop} (hF : ∀ b, F b → b < w.heap.size) (hA : (rawT 3).Row w F A l) :
    Calls Tryd.prog 46 #[.slice A l.length c] w (fun en w' => ∃ v, en = .returned v ∧ Ext w w' ∧ Eng.Own (rawT 3) w' nobody w.heap.size 38 v l) := by
  refine calls' (n := 8) (rs := #[.tmp 2]) (l := [.slice A l.length c]) Tryd.func46 rfl rfl rfl rfl rfl ?_; refine W_seq ?_; refine W_region ?_; refine op rfl (r_assignV (v := .slice _ _ _) rfl) ?_; refine WL_nil ?_; refine W_seq ?_; refine W_seq ?_; refine W_region ?_; refine op rfl (r_moveV (v := .slice _ _ _) rfl) ?_; refine op rfl (rl_eql rfl rfl Tryd.underlying39) ?_; refine WL_nil ?_; refine W_ifp rfl (fun ht4 => ?_) (fun ht4 => ?_)
  · subst ht4
    obtain rfl : l = [] := by
      rcases hA with h | ⟨g, off, c, t, fr, h, _⟩
      · exact h
      · cases h
    refine W_seq ?_; refine W_region ?_; refine op rfl (r_assignV (v := .slice _ _ _) rfl) ?_; refine WL_nil ?_; refine W_ret (finX_ret ?_); refine fin1 ?_; exact ⟨_, rfl, Ext.refl _, Eng.Own.nil⟩
  · refine W_skip ?_; refine W_seq ?_; refine W_region ?_; refine op_newS rfl (r_buildNone Tryd.underlying39 Tryd.sz38) ?_; intro w3_0 b3_0 E3_0 B3_0 L3_0; have hO : Eng.Own (rawT 3) w3_0 nobody w.heap.size 38 (.slice (some ⟨b3_0, 0, none⟩) 0 0) [] := Eng.Own.none0 (Nat.le_of_eq L3_0) B3_0; refine op rfl (r_moveV (v := .slice _ _ _) rfl) ?_; refine op_app flat_raw rfl rfl rfl Tryd.underlying39 Tryd.sz38 Tryd.by38 Tryd.zero38 rfl (E3_0) (hO) (hA.keep (fun b hb => E3_0.block b (hF b hb)) (fun _ h => h)) (by simp only [List.length_nil]; omega) (by simp only [List.length_nil]; omega) ?_; intro v3_2 w3_2 O3_2 X3_2 G3_2; refine op rfl (r_assignV (v := v3_2) rfl) ?_; refine WL_nil ?_; refine W_ret (finX_ret ?_); refine fin1 ?_; exact ⟨_, rfl, X3_2, by rw [List.nil_append] at O3_2; exact O3_2⟩

theorem filter_take {α : Type} {p : α → Bool} {l : List α} {j : Nat} (hj : j < l.length) : (l.take (j + 1)).filter p = (l.take j).filter p ++ (if p l[j] then [l[j]] else []) := by
  rw [List.take_succ_eq_append_getElem hj, List.filter_append]
  congr 1
  cases h : p l[j] <;> simp [h]
theorem take_set_succ {α : Type} {l : List α} {i : Nat} {x : α} (h : i < l.length) : (l.set i x).take (i + 1) = l.take i ++ [x] := by
  rw [List.take_succ_eq_append_getElem (by simpa using h), List.take_set_of_le (Nat.le_refl _), List.getElem_set_self]
theorem drop_succ_of {α : Type} {l m : List α} {j : Nat} (h : l.drop j = m.drop j) : l.drop (j + 1) = m.drop (j + 1) := by
  have := congrArg (List.drop 1) h
  simpa [List.drop_drop] using this
theorem filter_none {α : Type} {p : α → Bool} {l : List α} (h : ∀ x ∈ l, p x = true) : l.filter p = l := by
  rw [List.filter_eq_self]; exact h
theorem deleteFunc_spec {gf : Nat} {lb : List Value} {p : List Value → Bool} {Q : List Value → Prop} {K : World → Prop} (hp : PredC gf lb p Q K) {rs : List (List Value)} {gb cap B : Nat} {w : World} (hO : Eng.Own (rawT 2) w nobody B 35 (.slice (some ⟨gb, 0, none⟩) rs.length cap) rs) (hQ : ∀ r ∈ rs, Q r) (hS : ∀ r ∈ rs, FileR r) (hK : K w)
    (hKc : ∀ W W', K W → Chg gb W W' → K W') (hl : rs.length ≤ 140737488355328) :
    Calls Tryd.prog 85 #[.slice (some ⟨gb, 0, none⟩) rs.length cap, .func (.func gf) #[] lb.toArray] w (fun en w' => ∃ v, en = .returned v ∧ v = .slice (some ⟨gb, 0, none⟩) (rs.filter (fun r => !p r)).length cap ∧ Eng.Own (rawT 2) w' nobody B 35 v (rs.filter (fun r => !p r)) ∧ Chg gb w w') := by
  obtain ⟨fn, hf1, hf2, hf3⟩ := hp.fn
  have hrow : (rawT 2).Row w (old w) (some ⟨gb, 0, none⟩) rs := by
    obtain ⟨A, cp, hv, _, h⟩ := hO.old (fun _ q => q.elim)
    simp only [Value.slice.injEq] at hv
    rw [← hv.1] at h; exact h
  have hcap : rs.length ≤ cap := by
    obtain ⟨A, cp, hv, h, _⟩ := hO.old (fun _ q => q.elim)
    simp only [Value.slice.injEq] at hv
    rw [hv.2.2]; exact h
  have hraw : ∀ r ∈ rs, Raw 2 r := by
    rcases hO with ⟨_, h⟩ | ⟨_, _, _, _, _, _, _, _, _, h, _⟩
    · rw [h]; simp
    · exact (cat_raw.1 h).2
  have hix := ixI_spec p rs; obtain ⟨z, hz⟩ : ∃ z, z = ixI (rs.findIdx p) rs.length := ⟨_, rfl⟩
  rw [← hz] at hix
  refine calls' (n := 42) (rs := #[.tmp 4]) (l := [.slice (some ⟨gb, 0, none⟩) rs.length cap, .func (.func gf) #[] lb.toArray]) Tryd.func85 rfl rfl rfl rfl rfl ?_; have hX := Ext.refl w; refine W_seq ?_; refine W_region ?_; refine op rfl (r_assignV (v := .slice _ _ _) rfl) ?_; refine WL_nil ?_; refine W_seq ?_; refine W_region ?_; refine op rfl (r_moveV (v := .slice _ _ _) rfl) ?_; refine op rfl (r_moveV (v := .func (.func gf) #[] lb.toArray) rfl) ?_; refine opCv rfl (r_call Tryd.func77 Tryd.nm77 rfl) (indexFunc_spec hp (hrow.ext hX) hQ (hp.ext _ _ hK hX) hl) ?_; rintro v w2 ⟨hv, hE⟩; replace hX := hX.trans hE
  rw [← hz] at hv
  subst hv; have hX2 := hX; refine op rfl (r_assignV (v := .int _ _) rfl) ?_; refine WL_nil ?_; refine W_seq ?_; refine W_seq ?_; refine W_region ?_; refine op rfl (r_moveV (v := .int _ _) rfl) ?_; refine op rfl (r_eql rfl rfl) ?_; refine WL_nil ?_; refine W_ifp rfl (fun ht12 => ?_) (fun ht12 => ?_)
  · have hnone : ∀ r ∈ rs, p r = false := by
      rcases hix with ⟨_, h⟩ | ⟨i0, h, _⟩
      · exact h
      · omega
    have hff : rs.filter (fun r => !p r) = rs := filter_none (fun r hr => by rw [hnone r hr]; rfl); refine W_seq ?_; refine W_region ?_; refine op rfl (r_moveV (v := .slice _ _ _) rfl) ?_; refine op rfl (r_assignV (v := .slice _ _ _) rfl) ?_; refine WL_nil ?_; refine W_ret (finX_ret ?_); refine fin1 ?_; exact ⟨_, rfl, by rw [hff]; rfl, by rw [hff]; exact own_fext hO hX, Chg.of_ext hX⟩
  · obtain ⟨i0, hi0, rfl, hpi, hall⟩ := hix.resolve_left (fun q => ht12 q.1)
    have hne : rs ≠ [] := fun q => by rw [q] at hi0; simp at hi0
    refine W_skip ?_; refine W_seq ?_; refine W_seq ?_; refine W_region ?_; refine op rfl (r_moveV (v := .int _ _) rfl) ?_; refine op rfl (r_add' (r := ((i0 + 1 : Nat) : Int)) rfl rfl (by rw [wrap_i64 (by omega) (by omega)]; omega)) ?_; refine op rfl (r_assignV (v := .int _ _) rfl) ?_; refine WL_nil ?_; refine W_block ?_; refine W_loop [5, 6, 7, 16, 17, 18, 19, 20, 21, 22, 23, 24, 25, 26, 27, 28, 29, 30, 31, 32, 33, 34, 35] (fun q e' w' => ∃ (i j : Nat) (cur : List (List Value)), q = rs.length - j ∧ j ≤ rs.length ∧ i < j ∧ e' 5 = .int .i64 i ∧ e' 6 = .int .i64 j ∧ cur.length = rs.length ∧ cur.take i = (rs.take j).filter (fun r => !p r) ∧ cur.drop j = rs.drop j ∧ i = ((rs.take j).filter (fun r => !p r)).length ∧ Eng.Own (rawT 2) w' nobody B 35 (.slice (some ⟨gb, 0, none⟩) rs.length cap) cur ∧ Chg gb w w' ∧ K w') (rs.length - (i0 + 1)) ?_ ?_
    · have hft : (rs.take i0).filter (fun r => !p r) = rs.take i0 := filter_none (fun r hr => by
        obtain ⟨k, hk, rfl⟩ := List.mem_iff_getElem.1 hr
        simp only [List.length_take] at hk
        rw [List.getElem_take, hall k (by omega) (by omega)]; rfl)
      exact ⟨i0, i0 + 1, rs, by omega, by omega, by omega, rfl, rfl, rfl, by rw [filter_take hi0, hft, hpi]; simp, rfl, by rw [filter_take hi0, hft, hpi]; simp; omega, own_fext hO hX2, Chg.of_ext hX2, hp.ext _ _ hK hX2⟩
    intro k g w' hI; obtain ⟨i, j, cur, hq, hj, hij, h5, h6, hcl, htk, hdr, hil, hO', hC', hK'⟩ := hI; clear hX hO; have hX := Ext.refl w'; refine W_set (i := 6) h6 ?_; refine W_set (i := 5) h5 ?_; refine W_seq ?_; refine W_seq ?_; refine W_region ?_; refine op rfl (r_moveV (v := .int _ _) rfl) ?_; refine op rfl (r_moveV (v := .slice _ _ _) rfl) ?_; refine op rfl (r_len_slice rfl Tryd.underlying23) ?_; refine op rfl (r_lss rfl rfl) ?_; refine WL_nil ?_; refine W_ifp rfl (fun ht19 => ?_) (fun ht19 => ?_)
    · have hlt : j < rs.length := by omega
      have hcj : cur[j]'(by omega) = rs[j] := by
        have h1 : (cur.drop j)[0]? = (rs.drop j)[0]? := by rw [hdr]
        simp only [List.getElem?_drop, Nat.add_zero] at h1
        rw [List.getElem?_eq_getElem (by omega), List.getElem?_eq_getElem hlt] at h1
        exact Option.some.inj h1
      obtain ⟨g1, cap1, hv1, hBg, _, hcell⟩ := Own.rawAt hO' (i := j) (by omega)
      simp only [Value.slice.injEq, Option.some.injEq, Addr.mk.injEq, and_true, true_and] at hv1
      obtain ⟨hg1, -, -⟩ := hv1; subst hg1
      rw [hcj] at hcell
      have hrj : Raw 2 rs[j] := hraw _ (List.getElem_mem hlt); obtain ⟨sj, Aj, nj, kj, hsj⟩ := hS _ (List.getElem_mem hlt)
      have hpr : ∀ W, K W → Calls Tryd.prog gf ([Value.agg #[.string sj, .slice Aj nj kj]] ++ lb).toArray W (fun en W' => ∃ v, en = .returned v ∧ v = .bool (decide (p rs[j] = true)) ∧ Ext W W') := fun W hW => by
        have := hp.run rs[j] W (hQ _ (List.getElem_mem hlt)) hW
        rw [show Value.agg rs[j].toArray = .agg #[.string sj, .slice Aj nj kj] from by rw [hsj]] at this
        exact this
      refine W_skip ?_; refine W_seq ?_; refine W_block ?_; refine W_seq ?_; refine W_region ?_; refine op rfl (r_moveV (v := .slice _ _ _) rfl) ?_; refine op rfl (r_moveV (v := .int _ _) rfl) ?_; refine op rfl (r_indexAddrK0 rfl rfl Tryd.underlying23 Tryd.sz35 hlt) ?_; refine op rfl (r_load_agg (cs := [.string sj, .slice Aj nj kj]) rfl Tryd.underlying35 rfl Tryd.sz35 rfl (by rw [← hsj]; exact hcell)) ?_; refine op_alloc rfl Tryd.zero35 ?_; intro w7_4 b7_4 E7_4 B7_4 L7_4
      have hG7_4 : w'.heap.size ≤ b7_4 := by have := hX.size; omega
      replace hX := hX.trans E7_4; refine op_storeRow rfl rfl Tryd.sz35 B7_4 rfl rfl ?_; intro w7_5 C7_5 BB7_5; replace hX := hX.chg C7_5 hG7_4; replace B7_4 := BB7_5; refine WL_nil ?_; refine W_seq ?_; refine W_region ?_; refine op rfl (r_moveV (v := .func (.func gf) #[] lb.toArray) rfl) ?_; refine op rfl (r_loadRow rfl B7_4 Tryd.underlying35 rfl Tryd.sz35) ?_; refine opCv rfl (r_callV (lb := lb) rfl hf1 hf2 hf3) (hpr _ (hp.ext _ _ hK' hX)) ?_; rintro v w4 ⟨rfl, hE⟩; replace B7_4 := Blk.ext B7_4 hE; replace hX := hX.trans hE; refine op rfl (r_notP rfl) ?_; refine WL_nil ?_; refine W_ifp rfl (fun ht29 => ?_) (fun ht29 => ?_)
      · refine W_seq ?_; refine W_region ?_; have hO9 := own_fext hO' hX; have hK9 := hp.ext _ _ hK' hX; obtain ⟨g', cap', c', hv', hcap', hBg', hb', hfit', hxl', hx1', hnew'⟩ := Eng.Own.storeAt hO9 (i := i) (by omega) (x := rs[j]) (F := nobody) ⟨rfl, hrj⟩ (fun _ q => q.elim)
        simp only [Value.slice.injEq, Option.some.injEq, Addr.mk.injEq, and_true, true_and] at hv'
        obtain ⟨hg', -, -⟩ := hv'; subst hg'; refine op rfl (r_moveV (v := .slice _ _ _) rfl) ?_; refine op rfl (r_moveV (v := .int _ _) rfl) ?_; refine op rfl (r_loadRow rfl B7_4 Tryd.underlying35 rfl Tryd.sz35) ?_; refine op rfl (r_indexAddrK0 rfl rfl Tryd.underlying23 Tryd.sz35 (by omega)) ?_; refine op_storeAt (o := i * 2) (xs := rs[j]) rfl (by rw [hsj]; rfl) (by rw [hxl']; exact Tryd.sz35) hb' hfit' hx1' ?_; intro w9 C9 BB9; have hO10 := hnew' _ C9 BB9; refine WL_nil ?_; refine W_region ?_; refine op rfl (r_moveV (v := .int _ _) rfl) ?_; refine op rfl (r_add' (r := ((i + 1 : Nat) : Int)) rfl rfl (by rw [wrap_i64 (by omega) (by omega)]; omega)) ?_; refine op rfl (r_assignV (v := .int _ _) rfl) ?_; refine WL_nil ?_; refine W_region ?_; refine op rfl (r_moveV (v := .int _ _) rfl) ?_; refine op rfl (r_add' (r := ((j + 1 : Nat) : Int)) rfl rfl (by rw [wrap_i64 (by omega) (by omega)]; omega)) ?_; refine op rfl (r_assignV (v := .int _ _) rfl) ?_; refine WL_nil ?_; refine ⟨?_, by repeat (first | with_reducible exact Out.refl _ _ | with_reducible exact Out.mix | refine Out.put rfl ?_ | refine Out.mixin rfl ?_ | exact Out.refl _ _ | exact Out.mix)⟩
        first
          | (have hpj : p rs[j] = false := by simpa using ht29
             refine ⟨_, ?_, i + 1, j + 1, cur.set i rs[j], rfl, by omega, by omega, rfl, rfl, by rw [List.length_set]; exact hcl, ?_, ?_, ?_, hO10, hC'.trans ((Chg.of_ext hX).trans C9), hKc _ _ hK9 C9⟩
             · omega
             · rw [filter_take hlt, hpj]; simp; rw [← htk]; exact take_set_succ (by omega)
             · rw [List.drop_set, if_pos (by omega)]; exact drop_succ_of hdr
             · rw [filter_take hlt, hpj]; simp; exact hil)
          | (have hpj : p rs[j] = true := by simpa using ht29
             refine ⟨_, ?_, i, j + 1, cur, rfl, by omega, by omega, rfl, rfl, hcl, ?_, drop_succ_of hdr, ?_, own_fext hO' hX, hC'.trans (Chg.of_ext hX), hp.ext _ _ hK' hX⟩
             · omega
             · rw [filter_take hlt, hpj]; simpa using htk
             · rw [filter_take hlt, hpj]; simpa using hil)
      · refine W_skip ?_; refine W_region ?_; refine op rfl (r_moveV (v := .int _ _) rfl) ?_; refine op rfl (r_add' (r := ((j + 1 : Nat) : Int)) rfl rfl (by rw [wrap_i64 (by omega) (by omega)]; omega)) ?_; refine op rfl (r_assignV (v := .int _ _) rfl) ?_; refine WL_nil ?_; refine ⟨?_, by repeat (first | with_reducible exact Out.refl _ _ | with_reducible exact Out.mix | refine Out.put rfl ?_ | refine Out.mixin rfl ?_ | exact Out.refl _ _ | exact Out.mix)⟩
        first
          | (have hpj : p rs[j] = false := by simpa using ht29
             refine ⟨_, ?_, i + 1, j + 1, cur.set i rs[j], rfl, by omega, by omega, rfl, rfl, by rw [List.length_set]; exact hcl, ?_, ?_, ?_, hO10, hC'.trans ((Chg.of_ext hX).trans C9), hKc _ _ hK9 C9⟩
             · omega
             · rw [filter_take hlt, hpj]; simp; rw [← htk]; exact take_set_succ (by omega)
             · rw [List.drop_set, if_pos (by omega)]; exact drop_succ_of hdr
             · rw [filter_take hlt, hpj]; simp; exact hil)
          | (have hpj : p rs[j] = true := by simpa using ht29
             refine ⟨_, ?_, i, j + 1, cur, rfl, by omega, by omega, rfl, rfl, hcl, ?_, drop_succ_of hdr, ?_, own_fext hO' hX, hC'.trans (Chg.of_ext hX), hp.ext _ _ hK' hX⟩
             · omega
             · rw [filter_take hlt, hpj]; simpa using htk
             · rw [filter_take hlt, hpj]; simpa using hil)
    · obtain rfl : j = rs.length := by omega
      rw [List.take_length] at htk hil
      have hil' := Nat.le_of_lt hij; obtain ⟨g1, cap1, c1, hv1, hB1, hb1, hc1, hs1, hr1, ht1⟩ := Own.cells hO' (fun q => by rw [q] at hcl; simp at hcl; omega)
      simp only [Value.slice.injEq, Option.some.injEq, Addr.mk.injEq, and_true, true_and] at hv1
      obtain ⟨hg1, hv2, hv3⟩ := hv1; subst hg1 hv3; refine W_exit (blk_hit ?_); refine W_seq ?_; refine W_region ?_; refine op rfl (r_moveV (v := .slice _ _ _) rfl) ?_; refine op rfl (r_moveV (v := .int _ _) rfl) ?_; refine op rfl (r_sliceLo rfl rfl Tryd.underlying23 Tryd.sz35 (by omega)) ?_; refine op_clearN (sz := 2) (g := gb) (o := i * 2) (m := rs.length - i) (cap := cap - i) rfl ?_ Tryd.underlying23 Tryd.zero35 rfl rfl hb1 (by omega) (by omega) ?_
      · show Value.slice (cutA (some ⟨gb, 0, none⟩) cap i 2) (rs.length - i) (cap - i) = _
        unfold cutA
        rw [if_neg (by omega)]
        simp [add_at]
      intro w11 zs C11 hzl BB11; refine WL_nil ?_; refine W_seq ?_; refine W_region ?_; refine op rfl (r_moveV (v := .slice _ _ _) rfl) ?_; refine op rfl (r_moveV (v := .int _ _) rfl) ?_; refine op rfl (r_sliceHi rfl rfl Tryd.underlying23 Tryd.sz35 (by omega)) ?_; refine op rfl (r_assignV (v := .slice _ _ _) rfl) ?_; refine WL_nil ?_; refine W_ret (finX_ret ?_); refine fin1 ?_; have hcf : cur.flatten.length = cur.length * 2 := raw_flat hr1; have hcl1 : c1.toList.length = c1.size := Array.length_toList; subst hil; refine ⟨_, rfl, rfl, Eng.Own.mkCells hB1 BB11 rfl (by omega) ?_ (fun r hr => hraw r (List.mem_filter.1 hr).1) ?_, hC'.trans C11⟩
      · simp only [List.size_toArray, List.length_append, List.length_take, List.length_drop, hzl, hcl1]
        omega
      · rw [List.toList_toArray, List.append_assoc, List.take_left' (by simp; omega), ← htk, raw_take hr1 _ (by omega), ← ht1, List.take_take, Nat.min_eq_left (by omega), List.length_take, Nat.min_eq_left (by omega)]

theorem findNext_ovl : Extern.findNext Tryd.f91 = none := by kernel_rfl
theorem find_ovl : Extern.find Tryd.f91 = some (Extern.SlicesOverlaps.overlaps #[22, 22] #[4]) := by kernel_rfl
theorem insert_spec {rs : List (List Value)} {A : Option Addr} {cap B i b2 : Nat} {x : List Value} {w : World} (hO : Eng.Own (rawT 2) w nobody B 35 (.slice A rs.length cap) rs) (hi : i ≤ rs.length) (hx : Raw 2 x) (hb2 : Blk w b2 x.toArray 35) (hne2 : (Value.slice A rs.length cap).ownBlock ≠ some b2)
    (hl : (rs.length + 1) * 40 ≤ 140737488355328) (hB : B ≤ w.heap.size) :
    Calls Tryd.prog 87 #[.slice A rs.length cap, .int .i64 (i : Nat), .slice (some ⟨b2, 0, none⟩) 1 1] w (fun en w' => ∃ v, en = .returned v ∧ Eng.Own (rawT 2) w' nobody B 35 v (rs.take i ++ x :: rs.drop i) ∧ Gro (Value.slice A rs.length cap).ownBlock w w' ∧ (v.ownBlock = (Value.slice A rs.length cap).ownBlock ∨ ∃ g, v.ownBlock = some g ∧ w.heap.size ≤ g)) := by
  have hcap : rs.length ≤ cap := by
    obtain ⟨A', cp, hv, h, _⟩ := hO.old (fun _ q => q.elim)
    simp only [Value.slice.injEq] at hv
    rw [hv.2.2]; exact h
  have hraw : ∀ r ∈ rs, Raw 2 r := by
    rcases hO with ⟨_, h⟩ | ⟨_, _, _, _, _, _, _, _, _, h, _⟩
    · rw [h]; simp
    · exact (cat_raw.1 h).2
  have hraw' : ∀ r ∈ rs.take i ++ x :: rs.drop i, Raw 2 r := fun r hr => by
    rcases List.mem_append.1 hr with h | h
    · exact hraw r (List.mem_of_mem_take h)
    · rcases List.mem_cons.1 h with rfl | h
      · exact hx
      · exact hraw r (List.mem_of_mem_drop h)
  have hlen : (rs.take i ++ x :: rs.drop i).length = rs.length + 1 := by simp; omega
  have hfa : (rs.take i).flatten.length = i * 2 := by rw [raw_flat (fun r hr => hraw r (List.mem_of_mem_take hr)), List.length_take, Nat.min_eq_left hi]
  have hfd : (rs.drop i).flatten.length = (rs.length - i) * 2 := by rw [raw_flat (fun r hr => hraw r (List.mem_of_mem_drop hr)), List.length_drop]
  have hx1 := hx.1
  have hfl : (rs.take i ++ x :: rs.drop i).flatten = (rs.take i).flatten ++ x ++ (rs.drop i).flatten := by simp
  refine calls' (n := 95) (rs := #[.tmp 6]) (l := [.slice A rs.length cap, .int .i64 (i : Nat), .slice (some ⟨b2, 0, none⟩) 1 1]) Tryd.func87 rfl rfl rfl rfl rfl ?_; refine W_seq ?_; refine W_region ?_; refine op rfl (r_assignV (v := .slice _ _ _) rfl) ?_; refine WL_nil ?_; refine W_seq ?_; refine W_region ?_; refine op rfl (r_moveV (v := .slice _ _ _) rfl) ?_; refine op rfl (r_moveV (v := .int _ _) rfl) ?_; refine op rfl (r_sliceLo rfl rfl Tryd.underlying23 Tryd.sz35 hi) ?_; refine WL_nil ?_; refine W_seq ?_; refine W_region ?_; refine op rfl (r_moveV (v := .slice _ _ _) rfl) ?_; refine op rfl (r_len_slice rfl Tryd.underlying22) ?_; refine op rfl (r_assignV (v := .int _ _) rfl) ?_; refine WL_nil ?_; refine W_seq ?_; refine W_seq ?_; refine W_region ?_; refine op rfl (r_moveV (v := .int _ _) rfl) ?_; refine op rfl (r_eql rfl rfl) ?_; refine WL_nil ?_; refine W_ifp rfl (fun ht16 => ?_) (fun ht16 => ?_)
  · exact absurd ht16 (by decide)
  · refine W_skip ?_; refine W_seq ?_; refine W_region ?_; refine op rfl (r_moveV (v := .slice _ _ _) rfl) ?_; refine op rfl (r_len_slice rfl Tryd.underlying23) ?_; refine op rfl (r_assignV (v := .int _ _) rfl) ?_; refine WL_nil ?_; refine W_seq ?_; refine W_seq ?_; refine W_region ?_; refine op rfl (r_moveV (v := .int _ _) rfl) ?_; refine op rfl (r_moveV (v := .int _ _) rfl) ?_; refine op rfl (r_eql rfl rfl) ?_; refine WL_nil ?_; refine W_ifp rfl (fun ht22 => ?_) (fun ht22 => ?_)
    · refine W_seq ?_; refine W_region ?_; refine op rfl (r_moveV (v := .slice _ _ _) rfl) ?_; refine op rfl (r_moveV (v := .slice _ _ _) rfl) ?_; refine op_append2 (l := rs) (m := [x]) (T := rawT 2) rfl rfl rfl Tryd.underlying23 Tryd.underlying22 Tryd.sz35 Tryd.by35 Tryd.zero35 rfl hO (Src.blk hb2 ⟨rfl, hx⟩) (fun _ q => q.elim) (by simpa using hl) (by simp; omega) hB ?_; intro v' w7 hO7 hG7 hv7; refine op rfl (r_assignV (v := v') rfl) ?_; refine WL_nil ?_; refine W_ret (finX_ret ?_); refine fin1 ?_
      first
        | (obtain rfl : i = rs.length := by omega
           refine ⟨_, rfl, ?_, hG7, hv7⟩
           rw [List.take_length, List.drop_length]; exact hO7)
        | (refine ⟨_, rfl, Eng.Own.mkCells (by omega) Bz12 hlen.symm (by omega) ?_ hraw' ?_, ⟨hE11.os, hE11.tape, hE11.output, hE11.size, fun k hk _ => hE11.block k hk⟩, Or.inr ⟨bz, rfl, by omega⟩⟩
           · simp only [List.size_toArray, List.length_append, List.length_take, List.length_drop]; omega
           · rw [hlen, hfl, List.toList_toArray]
             have e : (cz.toList.take (i * 2) ++ x ++ cz.toList.drop (i * 2 + x.length)).take ((i + 1) * 2) = (rs.take i).flatten ++ x := by
               rw [htz, hta]; exact List.take_left' (by simp only [List.length_append]; omega)
             rw [List.toList_toArray, e]
             exact List.take_left' (by simp only [List.length_append]; omega))
        | (have hC := (Chg.of_ext hD).trans (C15.trans C16)
           refine ⟨_, rfl, Eng.Own.mkCells hB1 B16 hlen.symm (by omega) ?_ hraw' ?_, ⟨hC.os, hC.tape, hC.output, hC.size, fun k hk hne => hC.block k hk (fun q => hne (by rw [q]; rfl))⟩, Or.inl rfl⟩
           · simp only [List.size_toArray, List.length_append, List.length_take, List.length_drop]; omega
           · rw [hlen, hfl, List.toList_toArray]
             have e1 : (c1.toList.take ((i + 1) * 2) ++ (rs.drop i).flatten ++ c1.toList.drop ((i + 1) * 2 + (rs.drop i).flatten.length)).take (i * 2) = (rs.take i).flatten := by
               rw [List.append_assoc, List.take_append_of_le_length (by rw [List.length_take]; omega), List.take_take, Nat.min_eq_left (by omega), hta]
             have e2 : (c1.toList.take ((i + 1) * 2) ++ (rs.drop i).flatten ++ c1.toList.drop ((i + 1) * 2 + (rs.drop i).flatten.length)).drop (i * 2 + x.length) = (rs.drop i).flatten ++ c1.toList.drop ((i + 1) * 2 + (rs.drop i).flatten.length) := by
               rw [List.append_assoc]; exact List.drop_left' (by rw [List.length_take]; omega)
             rw [List.toList_toArray, e1, e2, ← List.append_assoc]
             exact List.take_left' (by simp only [List.length_append]; omega))
    · have hlt : i < rs.length := by omega
      obtain ⟨gb, cap1, c1, hv1, hB1, hb1, hc1, hs1, hr1, ht1⟩ := Own.cells hO (fun q => by rw [q] at hlt; simp at hlt)
      simp only [Value.slice.injEq, true_and] at hv1
      obtain ⟨hA1, hcap1⟩ := hv1; subst hA1 hcap1; have hcl1 : c1.toList.length = c1.size := Array.length_toList
      have hta : c1.toList.take (i * 2) = (rs.take i).flatten := by rw [raw_take hraw i hi, ← ht1, List.take_take, Nat.min_eq_left (by omega)]
      have hgb2 : gb ≠ b2 := fun q => hne2 (by rw [q]; rfl)
      refine W_skip ?_; refine W_seq ?_; refine W_seq ?_; refine W_region ?_; refine op rfl (r_moveV (v := .int _ _) rfl) ?_; refine op rfl (r_moveV (v := .int _ _) rfl) ?_; refine op rfl (r_add' (r := ((rs.length + 1 : Nat) : Int)) rfl rfl (by rw [wrap_i64 (by omega) (by omega)]; omega)) ?_; refine op rfl (r_moveV (v := .slice _ _ _) rfl) ?_; refine op rfl (r_cap rfl Tryd.underlying23) ?_; refine op rfl (r_gtr rfl rfl) ?_; refine WL_nil ?_; refine W_ifp rfl (fun ht31 => ?_) (fun ht31 => ?_)
      · refine W_seq ?_; refine W_region ?_; refine op rfl (r_moveV (v := .slice _ _ _) rfl) ?_; refine op rfl (r_moveV (v := .int _ _) rfl) ?_; refine op rfl (r_sliceHi rfl rfl Tryd.underlying23 Tryd.sz35 (by omega)) ?_; refine op rfl (r_moveV (v := .int _ _) rfl) ?_; refine op rfl (r_moveV (v := .int _ _) rfl) ?_; refine op rfl (r_add' (r := ((rs.length + 1 : Nat) : Int)) rfl rfl (by rw [wrap_i64 (by omega) (by omega)]; omega)) ?_; refine op rfl (r_moveV (v := .int _ _) rfl) ?_; refine op rfl (r_sub' (r := ((rs.length + 1 - i : Nat) : Int)) rfl rfl (by rw [wrap_i64 (by omega) (by omega)]; omega)) ?_; refine op_appendZ (sz := 2) (m := i) (k := rs.length + 1 - i) (tot := rs.length + 1) rfl rfl rfl Tryd.underlying23 Tryd.underlying3 Tryd.sz35 Tryd.by35 Tryd.zero35 rfl (by omega) (by omega) hb1 (by omega) (by omega) (by omega) (by omega) (by omega) ?_; intro w9 bz capz cz E9 Bz Lz hcz hsz htz; have hczl : cz.toList.length = cz.size := Array.length_toList; have hb19 := Blk.ext hb1 E9; have hb29 := Blk.ext hb2 E9; refine op rfl (r_assignV (v := .slice _ _ _) rfl) ?_; refine WL_nil ?_; refine W_seq ?_; refine W_region ?_; refine op rfl (r_moveV (v := .slice _ _ _) rfl) ?_; refine op rfl (r_moveV (v := .int _ _) rfl) ?_; refine op rfl (r_sliceLo0 rfl rfl Tryd.underlying23 Tryd.sz35 (by omega) (by omega)) ?_; refine op rfl (r_moveV (v := .slice _ _ _) rfl) ?_; refine op_copyN (o := i * 2) (cs := x) rfl rfl rfl Tryd.underlying23 Tryd.sz35 Bz (by rw [hx1]; show 2 = min _ _ * 2; omega) (blk_src hb29) (by omega) hx.2 ?_; intro w10 C10 Bz10
        have hgz : gb ≠ bz := by have := Blk.lt hb1; omega
        have hb110 := Chg.blk C10 hb19 hgz; have hE10 : Ext w w10 := Chg.ext E9 (by omega) C10; refine WL_nil ?_; refine W_seq ?_; refine W_drawA Tryd.wd rfl ?_; intro wd11 hD; have hS : anyW wd11 := trivial; refine A_take (i := 0) rfl (by kernel_rfl) (by kernel_rfl) (by kernel_rfl) rfl hS (fun _ hw => r_moveV (v := .slice _ _ _) rfl) ?_; refine A_take (i := 1) rfl (by kernel_rfl) (by kernel_rfl) (by kernel_rfl) rfl hS (fun _ hw => r_moveV (v := .int _ _) rfl) ?_; refine A_take (i := 2) rfl (by kernel_rfl) (by kernel_rfl) (by kernel_rfl) rfl hS (fun _ hw => r_moveV (v := .int _ _) rfl) ?_; refine A_take (i := 3) rfl (by kernel_rfl) (by kernel_rfl) (by kernel_rfl) rfl hS (fun _ hw => r_add' (r := ((i + 1 : Nat) : Int)) rfl rfl (by rw [wrap_i64 (by omega) (by omega)]; omega)) ?_; refine A_take (i := 4) rfl (by kernel_rfl) (by kernel_rfl) (by kernel_rfl) rfl hS (fun _ hw => r_sliceLo0 rfl rfl Tryd.underlying23 Tryd.sz35 (by omega) (by omega)) ?_; refine A_take (i := 5) rfl (by kernel_rfl) (by kernel_rfl) (by kernel_rfl) rfl hS (fun _ hw => r_moveV (v := .slice _ _ _) rfl) ?_; refine A_take (i := 6) rfl (by kernel_rfl) (by kernel_rfl) (by kernel_rfl) rfl hS (fun _ hw => r_moveV (v := .int _ _) rfl) ?_; refine A_take (i := 7) rfl (by kernel_rfl) (by kernel_rfl) (by kernel_rfl) rfl hS (fun _ hw => r_sliceLo0 rfl rfl Tryd.underlying23 Tryd.sz35 (by omega) (by omega)) ?_; refine A_ready1 (i := 8) (by kernel_rfl) ?_; have hb111 := Blk.ext hb110 hD; have Bz11 := Blk.ext Bz10 hD; refine O_copyN (o := (i + 1) * 2) (cs := (rs.drop i).flatten) rfl rfl rfl rfl Tryd.underlying23 Tryd.sz35 Bz11 (by rw [hfd]; exact congrArg (· * 2) (by show _ = min _ _; omega)) (cells_src hb111 hraw ht1 hi) (by rw [hfd]; simp only [List.size_toArray, List.length_append, List.length_take, List.length_drop]; omega) (raw_one (fun r hr => hraw r (List.mem_of_mem_drop hr))) ?_; intro w11 C11 Bz12; have hE11 : Ext w w11 := Chg.ext (hE10.trans hD) (by omega) C11; refine ⟨trivial, ?_⟩; refine A_done (by kernel_rfl) ?_; refine W_seq ?_; refine W_region ?_; refine op rfl (r_moveV (v := .slice _ _ _) rfl) ?_; refine op rfl (r_assignV (v := .slice _ _ _) rfl) ?_; refine WL_nil ?_; refine W_ret (finX_ret ?_); refine fin1 ?_
        first
          | (obtain rfl : i = rs.length := by omega
             refine ⟨_, rfl, ?_, hG7, hv7⟩
             rw [List.take_length, List.drop_length]; exact hO7)
          | (refine ⟨_, rfl, Eng.Own.mkCells (by omega) Bz12 hlen.symm (by omega) ?_ hraw' ?_, ⟨hE11.os, hE11.tape, hE11.output, hE11.size, fun k hk _ => hE11.block k hk⟩, Or.inr ⟨bz, rfl, by omega⟩⟩
             · simp only [List.size_toArray, List.length_append, List.length_take, List.length_drop]; omega
             · rw [hlen, hfl, List.toList_toArray]
               have e : (cz.toList.take (i * 2) ++ x ++ cz.toList.drop (i * 2 + x.length)).take ((i + 1) * 2) = (rs.take i).flatten ++ x := by
                 rw [htz, hta]; exact List.take_left' (by simp only [List.length_append]; omega)
               rw [List.toList_toArray, e]
               exact List.take_left' (by simp only [List.length_append]; omega))
          | (have hC := (Chg.of_ext hD).trans (C15.trans C16)
             refine ⟨_, rfl, Eng.Own.mkCells hB1 B16 hlen.symm (by omega) ?_ hraw' ?_, ⟨hC.os, hC.tape, hC.output, hC.size, fun k hk hne => hC.block k hk (fun q => hne (by rw [q]; rfl))⟩, Or.inl rfl⟩
             · simp only [List.size_toArray, List.length_append, List.length_take, List.length_drop]; omega
             · rw [hlen, hfl, List.toList_toArray]
               have e1 : (c1.toList.take ((i + 1) * 2) ++ (rs.drop i).flatten ++ c1.toList.drop ((i + 1) * 2 + (rs.drop i).flatten.length)).take (i * 2) = (rs.take i).flatten := by
                 rw [List.append_assoc, List.take_append_of_le_length (by rw [List.length_take]; omega), List.take_take, Nat.min_eq_left (by omega), hta]
               have e2 : (c1.toList.take ((i + 1) * 2) ++ (rs.drop i).flatten ++ c1.toList.drop ((i + 1) * 2 + (rs.drop i).flatten.length)).drop (i * 2 + x.length) = (rs.drop i).flatten ++ c1.toList.drop ((i + 1) * 2 + (rs.drop i).flatten.length) := by
                 rw [List.append_assoc]; exact List.drop_left' (by rw [List.length_take]; omega)
               rw [List.toList_toArray, e1, e2, ← List.append_assoc]
               exact List.take_left' (by simp only [List.length_append]; omega))
      · refine W_skip ?_; refine W_seq ?_; refine W_region ?_; refine op rfl (r_moveV (v := .slice _ _ _) rfl) ?_; refine op rfl (r_moveV (v := .int _ _) rfl) ?_; refine op rfl (r_moveV (v := .int _ _) rfl) ?_; refine op rfl (r_add' (r := ((rs.length + 1 : Nat) : Int)) rfl rfl (by rw [wrap_i64 (by omega) (by omega)]; omega)) ?_; refine op rfl (r_sliceHi rfl rfl Tryd.underlying23 Tryd.sz35 (by omega)) ?_; refine op rfl (r_assignV (v := .slice _ _ _) rfl) ?_; refine WL_nil ?_; refine W_seq ?_; refine W_seq ?_; refine W_region ?_; refine op rfl (r_moveV (v := .slice _ _ _) rfl) ?_; refine op rfl (r_moveV (v := .slice _ _ _) rfl) ?_; refine op rfl (r_moveV (v := .int _ _) rfl) ?_; refine op rfl (r_moveV (v := .int _ _) rfl) ?_; refine op rfl (r_add' (r := ((i + 1 : Nat) : Int)) rfl rfl (by rw [wrap_i64 (by omega) (by omega)]; omega)) ?_; refine op rfl (r_sliceLo0 rfl rfl Tryd.underlying23 Tryd.sz35 (by omega) (by omega)) ?_; refine op rfl (r_overlaps Tryd.func91 Tryd.nm91 rfl findNext_ovl find_ovl rfl rfl rfl Tryd.underlying22 Tryd.sz35 hb2 hb1 (fun q => hgb2 q.symm) (by omega)) ?_; refine op rfl (r_notP rfl) ?_; refine WL_nil ?_; refine W_ifp rfl (fun ht68 => ?_) (fun ht68 => ?_)
        · refine W_seq ?_; refine W_drawA Tryd.wd rfl ?_; intro wd15 hD; have hS : anyW wd15 := trivial; refine A_take (i := 0) rfl (by kernel_rfl) (by kernel_rfl) (by kernel_rfl) rfl hS (fun _ hw => r_moveV (v := .slice _ _ _) rfl) ?_; refine A_take (i := 1) rfl (by kernel_rfl) (by kernel_rfl) (by kernel_rfl) rfl hS (fun _ hw => r_moveV (v := .int _ _) rfl) ?_; refine A_take (i := 2) rfl (by kernel_rfl) (by kernel_rfl) (by kernel_rfl) rfl hS (fun _ hw => r_moveV (v := .int _ _) rfl) ?_; refine A_take (i := 3) rfl (by kernel_rfl) (by kernel_rfl) (by kernel_rfl) rfl hS (fun _ hw => r_add' (r := ((i + 1 : Nat) : Int)) rfl rfl (by rw [wrap_i64 (by omega) (by omega)]; omega)) ?_; refine A_take (i := 4) rfl (by kernel_rfl) (by kernel_rfl) (by kernel_rfl) rfl hS (fun _ hw => r_sliceLo0 rfl rfl Tryd.underlying23 Tryd.sz35 (by omega) (by omega)) ?_; refine A_take (i := 5) rfl (by kernel_rfl) (by kernel_rfl) (by kernel_rfl) rfl hS (fun _ hw => r_moveV (v := .slice _ _ _) rfl) ?_; refine A_take (i := 6) rfl (by kernel_rfl) (by kernel_rfl) (by kernel_rfl) rfl hS (fun _ hw => r_moveV (v := .int _ _) rfl) ?_; refine A_take (i := 7) rfl (by kernel_rfl) (by kernel_rfl) (by kernel_rfl) rfl hS (fun _ hw => r_sliceLo0 rfl rfl Tryd.underlying23 Tryd.sz35 (by omega) (by omega)) ?_; refine A_ready1 (i := 8) (by kernel_rfl) ?_; have hb115 := Blk.ext hb1 hD; have hb215 := Blk.ext hb2 hD; refine O_copyN (o := (i + 1) * 2) (cs := (rs.drop i).flatten) rfl rfl rfl rfl Tryd.underlying23 Tryd.sz35 hb115 (by rw [hfd]; exact congrArg (· * 2) (by show _ = min _ _; omega)) (cells_src hb115 hraw ht1 hi) (by rw [hfd]; omega) (raw_one (fun r hr => hraw r (List.mem_of_mem_drop hr))) ?_; intro w15 C15 B15; have hb216 := Chg.blk C15 hb215 (fun q => hgb2 q.symm); refine ⟨trivial, ?_⟩; refine A_done (by kernel_rfl) ?_; refine W_seq ?_; refine W_region ?_; refine op rfl (r_moveV (v := .slice _ _ _) rfl) ?_; refine op rfl (r_moveV (v := .int _ _) rfl) ?_; refine op rfl (r_sliceLo0 rfl rfl Tryd.underlying23 Tryd.sz35 (by omega) (by omega)) ?_; refine op rfl (r_moveV (v := .slice _ _ _) rfl) ?_; refine op_copyN (o := i * 2) (cs := x) rfl rfl rfl Tryd.underlying23 Tryd.sz35 B15 (by rw [hx1]; show 2 = min _ _ * 2; omega) (blk_src hb216) (by simp only [List.size_toArray, List.length_append, List.length_take, List.length_drop]; omega) hx.2 ?_; intro w16 C16 B16; refine WL_nil ?_; refine W_seq ?_; refine W_region ?_; refine op rfl (r_moveV (v := .slice _ _ _) rfl) ?_; refine op rfl (r_assignV (v := .slice _ _ _) rfl) ?_; refine WL_nil ?_; refine W_ret (finX_ret ?_); refine fin1 ?_
          first
            | (obtain rfl : i = rs.length := by omega
               refine ⟨_, rfl, ?_, hG7, hv7⟩
               rw [List.take_length, List.drop_length]; exact hO7)
            | (refine ⟨_, rfl, Eng.Own.mkCells (by omega) Bz12 hlen.symm (by omega) ?_ hraw' ?_, ⟨hE11.os, hE11.tape, hE11.output, hE11.size, fun k hk _ => hE11.block k hk⟩, Or.inr ⟨bz, rfl, by omega⟩⟩
               · simp only [List.size_toArray, List.length_append, List.length_take, List.length_drop]; omega
               · rw [hlen, hfl, List.toList_toArray]
                 have e : (cz.toList.take (i * 2) ++ x ++ cz.toList.drop (i * 2 + x.length)).take ((i + 1) * 2) = (rs.take i).flatten ++ x := by
                   rw [htz, hta]; exact List.take_left' (by simp only [List.length_append]; omega)
                 rw [List.toList_toArray, e]
                 exact List.take_left' (by simp only [List.length_append]; omega))
            | (have hC := (Chg.of_ext hD).trans (C15.trans C16)
               refine ⟨_, rfl, Eng.Own.mkCells hB1 B16 hlen.symm (by omega) ?_ hraw' ?_, ⟨hC.os, hC.tape, hC.output, hC.size, fun k hk hne => hC.block k hk (fun q => hne (by rw [q]; rfl))⟩, Or.inl rfl⟩
               · simp only [List.size_toArray, List.length_append, List.length_take, List.length_drop]; omega
               · rw [hlen, hfl, List.toList_toArray]
                 have e1 : (c1.toList.take ((i + 1) * 2) ++ (rs.drop i).flatten ++ c1.toList.drop ((i + 1) * 2 + (rs.drop i).flatten.length)).take (i * 2) = (rs.take i).flatten := by
                   rw [List.append_assoc, List.take_append_of_le_length (by rw [List.length_take]; omega), List.take_take, Nat.min_eq_left (by omega), hta]
                 have e2 : (c1.toList.take ((i + 1) * 2) ++ (rs.drop i).flatten ++ c1.toList.drop ((i + 1) * 2 + (rs.drop i).flatten.length)).drop (i * 2 + x.length) = (rs.drop i).flatten ++ c1.toList.drop ((i + 1) * 2 + (rs.drop i).flatten.length) := by
                   rw [List.append_assoc]; exact List.drop_left' (by rw [List.length_take]; omega)
                 rw [List.toList_toArray, e1, e2, ← List.append_assoc]
                 exact List.take_left' (by simp only [List.length_append]; omega))
        · exact absurd (fun q => q) ht68
end Go.Proofs.YtmedmajdoecjfaaDoor
