/-
  Rules in two texts are those of both, up to as many as there may be: the walk.
-/
import Derived.Test.YtafcaigjijajnaaDoorFacts
import Derived.Test.YtafcaigjijajnaaDoorRulePl
namespace Go.Proofs.YtafcaigjijajnaaDoor
open Go Go.Eng Go.RowKit Go.Proofs
set_option linter.unusedVariables false
set_option linter.unusedSimpArgs false
set_option maxHeartbeats 1000000
set_option maxRecDepth 20000

theorem flat_ru : Flat ruT := fun h => h
theorem sum_le_all {l : List Ru} {M : Nat} (h : ∀ r ∈ l, lenRu r ≤ M) : (l.map lenRu).sum ≤ l.length * M := by
  induction l with
  | nil => simp
  | cons r l ih =>
    have h1 := h r List.mem_cons_self
    have h2 := ih (fun x hx => h x (List.mem_cons_of_mem _ hx))
    rw [List.map_cons, List.sum_cons, List.length_cons, Nat.add_mul]
    omega
theorem sum_big {A : Option Addr} {l : List Ru} {w : World} {G : Nat → Prop} (hrow : ruT.Row w G A l) : (l.map lenRu).sum ≤ l.length * 422212465065985 :=
  sum_le_all fun r hr => by
    obtain ⟨i, hi, rfl⟩ := List.mem_iff_getElem.1 hr
    obtain ⟨_, _, _, _, _, h1, h2, h3, _⟩ := ru_at hrow i hi
    unfold lenRu; omega
theorem ruleLines_walk {A B : Option Addr} {c d : Nat} {a b : List Ru} (W : World) (hG : Gl W) (ha : a.length ≤ big) (hb : b.length ≤ big) (hA : ruT.Row W (old W) A a) (hB : ruT.Row W (old W) B b) :
    Calls Tryd.prog 7 #[.slice A a.length c, .slice B b.length d] W (fun en w' => ∃ v, en = .returned v ∧ v = .bool true ∧ Ext W w') := by
  have hbig : big = 140737488355328 := rfl
  have hPa : ∀ w, Gl w → Ext W w → a.length ≤ 1000 → (a.map lenRu).sum ≤ 2500 → Calls Tryd.prog 22 #[.slice A a.length c] w (fun en w' => ∃ v, en = .returned v ∧ v = .tuple #[sv (printR a).1, .int .i64 (printR a).2] ∧ Ext w w') := fun w hw hE h1 h2 => print_spec hw (hA.ext hE) h1 (len_each h2 (by omega))
  have hPb : ∀ w, Gl w → Ext W w → b.length ≤ 1000 → (b.map lenRu).sum ≤ 2500 → Calls Tryd.prog 22 #[.slice B b.length d] w (fun en w' => ∃ v, en = .returned v ∧ v = .tuple #[sv (printR b).1, .int .i64 (printR b).2] ∧ Ext w w') := fun w hw hE h1 h2 => print_spec hw (hB.ext hE) h1 (len_each h2 (by omega))
  refine calls' (n := 90) (rs := #[.tmp 4]) (l := [.slice A a.length c, .slice B b.length d]) Tryd.func7 rfl rfl rfl rfl rfl ?_
  have hX := Ext.refl W
  refine W_seq ?_
  refine W_region ?_
  refine op rfl (r_assignV (v := .bool _) rfl) ?_
  refine WL_nil ?_
  refine W_seq ?_
  refine W_seq ?_
  refine W_region ?_
  refine op rfl (r_moveV (v := .slice _ _ _) rfl) ?_
  refine op rfl (r_len_slice rfl Tryd.underlying23) ?_
  refine op rfl (r_gtr rfl rfl) ?_
  refine op_split rfl (r_moveV (v := .bool (decide _)) rfl) (fun hg15 => ?_) (fun hg15 => ?_)
  · refine opG_no rfl rfl rfl rfl rfl ?_
    refine opG_no rfl rfl rfl rfl rfl ?_
    refine opG_no rfl rfl rfl rfl rfl ?_
    refine op rfl (r_pickTV (v := .bool _) rfl rfl) ?_
    refine op rfl (r_moveV (v := .bool _) rfl) ?_
    refine opG_no rfl rfl rfl rfl rfl ?_
    refine opG_no rfl rfl rfl rfl rfl ?_
    refine opG_no rfl rfl rfl rfl rfl ?_
    refine opG_no rfl rfl rfl rfl rfl ?_
    refine opG_no rfl rfl rfl rfl rfl ?_
    refine opG_no rfl rfl rfl rfl rfl ?_
    refine op rfl (r_pickTV (v := .bool _) rfl rfl) ?_
    refine WL_nil ?_
    refine W_then rfl ?_
    refine W_seq ?_
    refine W_region ?_
    refine opCv rfl (r_call Tryd.func11 Tryd.nm11 rfl) (known11_spec _ (hG.ext hX)) ?_
    rintro v2 w2 ⟨rfl, hE⟩
    replace hX := hX.trans hE
    refine op rfl (r_assignV (v := .bool _) rfl) ?_
    refine WL_nil ?_
    refine W_ret (finX_ret ?_)
    refine fin1 ?_
    exact ⟨_, rfl, rfl, hX⟩
  · refine opG_yes rfl rfl rfl rfl rfl (r_moveV (v := .slice _ _ _) rfl) ?_
    refine opG_yes rfl rfl rfl rfl rfl (r_len_slice rfl Tryd.underlying23) ?_
    refine opG_yes rfl rfl rfl rfl rfl (r_gtr rfl rfl) ?_
    refine op rfl (r_pickFV (v := .bool _) rfl rfl) ?_
    refine op_split rfl (r_moveV (v := .bool (decide _)) rfl) (fun hg20 => ?_) (fun hg20 => ?_)
    · refine opG_no rfl rfl rfl rfl rfl ?_
      refine opG_no rfl rfl rfl rfl rfl ?_
      refine opG_no rfl rfl rfl rfl rfl ?_
      refine opG_no rfl rfl rfl rfl rfl ?_
      refine opG_no rfl rfl rfl rfl rfl ?_
      refine opG_no rfl rfl rfl rfl rfl ?_
      refine op rfl (r_pickTV (v := .bool _) rfl rfl) ?_
      refine WL_nil ?_
      refine W_then rfl ?_
      refine W_seq ?_
      refine W_region ?_
      refine opCv rfl (r_call Tryd.func11 Tryd.nm11 rfl) (known11_spec _ (hG.ext hX)) ?_
      rintro v2 w2 ⟨rfl, hE⟩
      replace hX := hX.trans hE
      refine op rfl (r_assignV (v := .bool _) rfl) ?_
      refine WL_nil ?_
      refine W_ret (finX_ret ?_)
      refine fin1 ?_
      exact ⟨_, rfl, rfl, hX⟩
    · refine opG_yes rfl rfl rfl rfl rfl (r_moveV (v := .slice _ _ _) rfl) ?_
      refine opGCv_yes rfl rfl rfl rfl rfl (r_call Tryd.func21 Tryd.nm21 rfl) (longRu_spec (hA.ext hX) (by omega)) ?_
      rintro v1 w1 ⟨rfl, hE⟩
      replace hX := hX.trans hE
      refine opG_yes rfl rfl rfl rfl rfl (r_moveV (v := .slice _ _ _) rfl) ?_
      refine opGCv_yes rfl rfl rfl rfl rfl (r_call Tryd.func21 Tryd.nm21 rfl) (longRu_spec (hB.ext hX) (by omega)) ?_
      rintro v1b w1b ⟨rfl, hE⟩
      replace hX := hX.trans hE
      have hsa := sum_big hA
      have hsb := sum_big hB
      refine opG_yes rfl rfl rfl rfl rfl (r_add' (r := (((a.map lenRu).sum + (b.map lenRu).sum : Nat) : Int)) rfl rfl (by rw [wrap_i64 (by omega) (by omega)]; omega)) ?_
      refine opG_yes rfl rfl rfl rfl rfl (r_gtr rfl rfl) ?_
      refine op rfl (r_pickFV (v := .bool _) rfl rfl) ?_
      refine WL_nil ?_
      refine W_ifp rfl (fun ht27 => ?_) (fun ht27 => ?_)
      · refine W_seq ?_
        refine W_region ?_
        refine opCv rfl (r_call Tryd.func11 Tryd.nm11 rfl) (known11_spec _ (hG.ext hX)) ?_
        rintro v2 w2 ⟨rfl, hE⟩
        replace hX := hX.trans hE
        refine op rfl (r_assignV (v := .bool _) rfl) ?_
        refine WL_nil ?_
        refine W_ret (finX_ret ?_)
        refine fin1 ?_
        exact ⟨_, rfl, rfl, hX⟩
      · have h40a : a.length ≤ 40 := by omega
        have h40b : b.length ≤ 40 := by omega
        have hsum : (a.map lenRu).sum + (b.map lenRu).sum ≤ 2500 := by omega
        refine W_skip ?_
        refine W_seq ?_
        refine W_region ?_
        refine op rfl (r_moveV (v := .slice _ _ _) rfl) ?_
        refine opCv rfl (r_call Tryd.func22 Tryd.nm22 rfl) (hPa _ (hG.ext hX) hX (by omega) (by omega)) ?_
        rintro v3 w3 ⟨rfl, hE⟩
        replace hX := hX.trans hE
        refine op rfl (r_moveV (v := .tuple #[sv (printR a).1, .int .i64 (printR a).2]) rfl) ?_
        refine op rfl (r_extract (vs := [sv (printR a).1, .int .i64 (printR a).2]) rfl rfl) ?_
        refine op rfl (r_extract (vs := [sv (printR a).1, .int .i64 (printR a).2]) rfl rfl) ?_
        refine op rfl (r_assignV (v := sv (printR a).1) rfl) ?_
        refine op rfl (r_assignV (v := .int .i64 (printR a).2) rfl) ?_
        refine WL_nil ?_
        refine W_seq ?_
        refine W_region ?_
        refine op rfl (r_moveV (v := .slice _ _ _) rfl) ?_
        refine opCv rfl (r_call Tryd.func22 Tryd.nm22 rfl) (hPb _ (hG.ext hX) hX (by omega) (by omega)) ?_
        rintro v4 w4 ⟨rfl, hE⟩
        replace hX := hX.trans hE
        refine op rfl (r_moveV (v := .tuple #[sv (printR b).1, .int .i64 (printR b).2]) rfl) ?_
        refine op rfl (r_extract (vs := [sv (printR b).1, .int .i64 (printR b).2]) rfl rfl) ?_
        refine op rfl (r_extract (vs := [sv (printR b).1, .int .i64 (printR b).2]) rfl rfl) ?_
        refine op rfl (r_assignV (v := sv (printR b).1) rfl) ?_
        refine op rfl (r_assignV (v := .int .i64 (printR b).2) rfl) ?_
        refine WL_nil ?_
        refine W_seq ?_
        refine W_seq ?_
        refine W_region ?_
        refine op rfl (r_moveV (v := .int .i64 (printR a).2) rfl) ?_
        refine op rfl (r_neq rfl rfl) ?_
        refine op_split rfl (r_moveV (v := .bool (decide _)) rfl) (fun hg41 => ?_) (fun hg41 => ?_)
        · refine opG_no rfl rfl rfl rfl rfl ?_
          refine opG_no rfl rfl rfl rfl rfl ?_
          refine op rfl (r_pickTV (v := .bool _) rfl rfl) ?_
          refine op rfl (r_moveV (v := .bool _) rfl) ?_
          refine opG_no rfl rfl rfl rfl rfl ?_
          refine opG_no rfl rfl rfl rfl rfl ?_
          refine opG_no rfl rfl rfl rfl rfl ?_
          refine opG_no rfl rfl rfl rfl rfl ?_
          refine opG_no rfl rfl rfl rfl rfl ?_
          refine opG_no rfl rfl rfl rfl rfl ?_
          refine op rfl (r_pickTV (v := .bool _) rfl rfl) ?_
          refine WL_nil ?_
          refine W_then rfl ?_
          refine W_seq ?_
          refine W_region ?_
          refine opCv rfl (r_call Tryd.func11 Tryd.nm11 rfl) (known11_spec _ (hG.ext hX)) ?_
          rintro v6 w6 ⟨rfl, hE⟩
          replace hX := hX.trans hE
          refine op rfl (r_assignV (v := .bool _) rfl) ?_
          refine WL_nil ?_
          refine W_ret (finX_ret ?_)
          refine fin1 ?_
          exact ⟨_, rfl, rfl, hX⟩
        · refine opG_yes rfl rfl rfl rfl rfl (r_moveV (v := .int .i64 (printR b).2) rfl) ?_
          refine opG_yes rfl rfl rfl rfl rfl (r_neq rfl rfl) ?_
          refine op rfl (r_pickFV (v := .bool _) rfl rfl) ?_
          refine op_split rfl (r_moveV (v := .bool (decide _)) rfl) (fun hg45 => ?_) (fun hg45 => ?_)
          · refine opG_no rfl rfl rfl rfl rfl ?_
            refine opG_no rfl rfl rfl rfl rfl ?_
            refine opG_no rfl rfl rfl rfl rfl ?_
            refine opG_no rfl rfl rfl rfl rfl ?_
            refine opG_no rfl rfl rfl rfl rfl ?_
            refine opG_no rfl rfl rfl rfl rfl ?_
            refine op rfl (r_pickTV (v := .bool _) rfl rfl) ?_
            refine WL_nil ?_
            refine W_then rfl ?_
            refine W_seq ?_
            refine W_region ?_
            refine opCv rfl (r_call Tryd.func11 Tryd.nm11 rfl) (known11_spec _ (hG.ext hX)) ?_
            rintro v6 w6 ⟨rfl, hE⟩
            replace hX := hX.trans hE
            refine op rfl (r_assignV (v := .bool _) rfl) ?_
            refine WL_nil ?_
            refine W_ret (finX_ret ?_)
            refine fin1 ?_
            exact ⟨_, rfl, rfl, hX⟩
          · refine opG_yes rfl rfl rfl rfl rfl (r_moveV (v := sv (printR a).1) rfl) ?_
            refine opG_yes rfl rfl rfl rfl rfl (rt_len rfl Tryd.underlying9) ?_
            refine opG_yes rfl rfl rfl rfl rfl (r_moveV (v := sv (printR b).1) rfl) ?_
            refine opG_yes rfl rfl rfl rfl rfl (rt_len rfl Tryd.underlying9) ?_
            obtain ⟨hra, hla, hpa⟩ := print_ok (l := a) (by omega)
            obtain ⟨hrb, hlb, hpb⟩ := print_ok (l := b) (by omega)
            have lta := text_len hra
            have ltb := text_len hrb
            have hl1 : (printR a).1.length = (textR a).length := by rw [hpa]
            have hl2 : (printR b).1.length = (textR b).length := by rw [hpb]
            refine opG_yes rfl rfl rfl rfl rfl (r_add' rfl rfl (wrap_i64 (by omega) (by omega))) ?_
            refine opG_yes rfl rfl rfl rfl rfl (r_gtr rfl rfl) ?_
            refine op rfl (r_pickFV (v := .bool _) rfl rfl) ?_
            refine WL_nil ?_
            refine W_ifp rfl (fun ht52 => ?_) (fun ht52 => ?_)
            · refine W_seq ?_
              refine W_region ?_
              refine opCv rfl (r_call Tryd.func11 Tryd.nm11 rfl) (known11_spec _ (hG.ext hX)) ?_
              rintro v6 w6 ⟨rfl, hE⟩
              replace hX := hX.trans hE
              refine op rfl (r_assignV (v := .bool _) rfl) ?_
              refine WL_nil ?_
              refine W_ret (finX_ret ?_)
              refine fin1 ?_
              exact ⟨_, rfl, rfl, hX⟩
            · have htl : (textR a).length + (textR b).length ≤ 16384 := by omega
              have hpar : parseR (textR a ++ textR b) = if 50 < a.length + b.length then ([], 3) else (a ++ b, 0) := by
                unfold parseR
                rw [if_neg (by rw [List.length_append]; omega), text_ok hra hrb]
                simp only [List.length_append]
              have hR : ∀ w, Gl w → Calls Tryd.prog 12 #[sv (textR a ++ textR b)] w (fun en w' => ∃ v, en = .returned v ∧ ∃ r, v = .tuple #[r, .int .i64 (parseR (textR a ++ textR b)).2] ∧ OwnRu w' w.heap.size r (parseR (textR a ++ textR b)).1 ∧ Ext w w') := fun w hw => parse_spec _ w hw (by rw [List.length_append]; omega)
              refine W_skip ?_
              refine W_seq ?_
              refine W_region ?_
              refine op rfl (r_moveV (v := sv (textR a)) (by rw [show textR a = (printR a).1 by rw [hpa]]; rfl)) ?_
              refine op rfl (r_moveV (v := sv (textR b)) (by rw [show textR b = (printR b).1 by rw [hpb]]; rfl)) ?_
              refine op rfl (rt_add rfl rfl (by omega)) ?_
              refine opCv rfl (r_call Tryd.func12 Tryd.nm12 rfl) (hR _ (hG.ext hX)) ?_
              rintro v7 w7 ⟨r7, rfl, hO7, hE⟩
              replace hX := hX.trans hE
              obtain ⟨A7, c7, rfl, hc7, hr7⟩ := own_frow hO7
              refine op rfl (r_moveV (v := .tuple #[.slice A7 (parseR (textR a ++ textR b)).1.length c7, .int .i64 (parseR (textR a ++ textR b)).2]) rfl) ?_
              refine op rfl (r_extract (vs := [.slice A7 (parseR (textR a ++ textR b)).1.length c7, .int .i64 (parseR (textR a ++ textR b)).2]) rfl rfl) ?_
              refine op rfl (r_extract (vs := [.slice A7 (parseR (textR a ++ textR b)).1.length c7, .int .i64 (parseR (textR a ++ textR b)).2]) rfl rfl) ?_
              refine op rfl (r_assignV (v := .slice A7 (parseR (textR a ++ textR b)).1.length c7) rfl) ?_
              refine op rfl (r_assignV (v := .int .i64 (parseR (textR a ++ textR b)).2) rfl) ?_
              refine WL_nil ?_
              refine W_seq ?_
              refine W_region ?_
              refine op rfl (r_assignV (v := .slice _ _ _) rfl) ?_
              refine WL_nil ?_
              refine W_seq ?_
              refine W_region ?_
              refine op rfl (r_moveV (v := .slice _ _ _) rfl) ?_
              refine op rfl (r_moveV (v := .slice _ _ _) rfl) ?_
              have hX9 := hX
              refine op_append (T := ruT) (F := nobody) (B := w7.heap.size) (l := []) (m := a) rfl rfl rfl Tryd.underlying23 Tryd.sz35 Tryd.by35 Tryd.zero35 rfl .nil ((hA.ext hX).srcF flat_ru) (fun _ q => q.elim) (by simp; omega) (by simp; omega) (Nat.le_refl _) ?_
              intro v9 w9 hO9 hG9 hv9
              have hX91 : Ext w7 w9 := Gro.ext hG9
              refine op rfl (r_assignV (v := v9) rfl) ?_
              refine WL_nil ?_
              refine W_seq ?_
              refine W_region ?_
              refine op rfl (r_moveV (v := v9) rfl) ?_
              refine op rfl (r_moveV (v := .slice _ _ _) rfl) ?_
              have hX10 := hX9.trans hX91
              refine op_append (T := ruT) (F := nobody) (B := w7.heap.size) (l := [] ++ a) (m := b) rfl rfl rfl Tryd.underlying23 Tryd.sz35 Tryd.by35 Tryd.zero35 rfl hO9 ((hB.ext hX10).srcF flat_ru) (fun _ q => q.elim) (by simp; omega) (by simp; omega) hX91.size ?_
              intro v10 w10 hO10 hG10 hv10
              have hX7a : Ext w7 w10 := hX91.gro hG10 hX91.size (fun k hk => (hO9.lt hk).1)
              clear hX
              have hX := hX9.trans hX7a
              obtain ⟨A10, c10, rfl, hc10, hr10⟩ := own_frow hO10
              have hl10 : ([] ++ a ++ b).length = a.length + b.length := by simp
              have hl10' : (([] ++ a ++ b).length : Int) = a.length + b.length := by rw [hl10]; omega
              refine op rfl (r_assignV (v := .slice A10 ([] ++ a ++ b).length c10) rfl) ?_
              refine WL_nil ?_
              refine W_seq ?_
              refine W_seq ?_
              refine W_region ?_
              refine op rfl (r_moveV (v := .slice A10 ([] ++ a ++ b).length c10) rfl) ?_
              refine op rfl (r_len_slice rfl Tryd.underlying23) ?_
              refine op rfl (r_gtr rfl rfl) ?_
              refine WL_nil ?_
              refine W_ifp rfl (fun ht69 => ?_) (fun ht69 => ?_)
              · have h50 : 50 < a.length + b.length := by omega
                rw [if_pos h50] at hpar
                refine W_seq ?_
                refine W_region ?_
                refine op rfl (r_moveV (v := .int .i64 (parseR (textR a ++ textR b)).2) rfl) ?_
                refine op rfl (r_eql rfl rfl) ?_
                refine op_true rfl (r_moveV (v := .bool (decide _)) rfl) (by rw [hpar]) ?_
                refine opG_yes rfl rfl rfl rfl rfl (r_moveV (v := .slice A7 (parseR (textR a ++ textR b)).1.length c7) rfl) ?_
                refine opG_yes rfl rfl rfl rfl rfl (r_len_slice rfl Tryd.underlying23) ?_
                refine opG_yes rfl rfl rfl rfl rfl (r_eql rfl rfl) ?_
                refine op rfl (r_pickTV (v := .bool _) rfl rfl) ?_
                refine op_true rfl (r_moveV (v := .bool (decide _)) rfl) (by first | (rw [hpar]; done) | (rw [hpar]; rfl)) ?_
                refine opGCv_yes rfl rfl rfl rfl rfl (r_call Tryd.func11 Tryd.nm11 rfl) (known11_spec _ (hG.ext hX)) ?_
                rintro v12 w12 ⟨rfl, hE⟩
                replace hX := hX.trans hE
                refine op rfl (r_pickTV (v := .bool _) rfl rfl) ?_
                refine op rfl (r_assignV (v := .bool _) rfl) ?_
                refine WL_nil ?_
                refine W_ret (finX_ret ?_)
                refine fin1 ?_
                exact ⟨_, rfl, rfl, hX⟩
              · have h50 : ¬ 50 < a.length + b.length := by omega
                rw [if_neg h50] at hpar
                have hr7' : ruT.Row w10 (old w10) A7 (a ++ b) := by
                  have := hr7.ext hX7a
                  rw [hpar] at this
                  exact this
                have hr10' : ruT.Row w10 (old w10) A10 (a ++ b) := by
                  have := hr10
                  simpa using this
                have hS : ∀ w, Ext w10 w → Calls Tryd.prog 16 #[.slice A7 (parseR (textR a ++ textR b)).1.length c7, .slice A10 ([] ++ a ++ b).length c10] w (fun en w' => ∃ v, en = .returned v ∧ v = .bool (decide (a ++ b = a ++ b)) ∧ Ext w w') := fun w hE => by
                  have e1 : (parseR (textR a ++ textR b)).1.length = (a ++ b).length := by rw [hpar]
                  rw [e1]
                  exact sameRu_spec (hr7'.ext hE) (hr10'.ext hE) (by rw [List.length_append]; omega)
                refine W_skip ?_
                refine W_seq ?_
                refine W_region ?_
                refine op rfl (r_moveV (v := .int .i64 (parseR (textR a ++ textR b)).2) rfl) ?_
                refine op rfl (r_eql rfl rfl) ?_
                refine op_true rfl (r_moveV (v := .bool (decide _)) rfl) (by rw [hpar]) ?_
                refine opG_yes rfl rfl rfl rfl rfl (r_moveV (v := .slice A7 (parseR (textR a ++ textR b)).1.length c7) rfl) ?_
                refine opG_yes rfl rfl rfl rfl rfl (r_moveV (v := .slice A10 ([] ++ a ++ b).length c10) rfl) ?_
                refine opGCv_yes rfl rfl rfl rfl rfl (r_call Tryd.func16 Tryd.nm16 rfl) (hS _ (Ext.refl _)) ?_
                rintro v13 w13 ⟨rfl, hE⟩
                replace hX := hX.trans hE
                refine op rfl (r_pickTV (v := .bool _) rfl rfl) ?_
                refine op_true rfl (r_moveV (v := .bool (decide _)) rfl) (rfl) ?_
                refine opGCv_yes rfl rfl rfl rfl rfl (r_call Tryd.func11 Tryd.nm11 rfl) (known11_spec _ (hG.ext hX)) ?_
                rintro v13b w13b ⟨rfl, hE⟩
                replace hX := hX.trans hE
                refine op rfl (r_pickTV (v := .bool _) rfl rfl) ?_
                refine op rfl (r_assignV (v := .bool _) rfl) ?_
                refine WL_nil ?_
                refine W_ret (finX_ret ?_)
                refine fin1 ?_
                exact ⟨_, rfl, rfl, hX⟩
theorem ruleLines_row (W : World) (hG : Gl W) (A : Option Addr) (c : Nat) (a : List Ru) (hc : a.length ≤ c) (ha : a.length ≤ big) (hA : ruT.Row W (old W) A a) (B : Option Addr) (d : Nat) (b : List Ru) (hd : b.length ≤ d) (hb : b.length ≤ big) (hB : ruT.Row W (old W) B b) :
    Calls Tryd.prog 7 #[.slice A a.length c, .slice B b.length d] W (fun e W' => ∃ v, e = .returned v ∧ v = .bool true ∧ Ext W W') :=
  ruleLines_walk W hG ha hb hA hB
end Go.Proofs.YtafcaigjijajnaaDoor
