/-
  The walk of a line's words, as a rule.
-/
import Derived.Test.YtafcaigjijajnaaDoorFacts
import Derived.Test.YtafcaigjijajnaaDoorRuleForms
namespace Go.Proofs.YtafcaigjijajnaaDoor
open Go Go.Eng Go.RowKit Go.Proofs
set_option linter.unusedVariables false
set_option linter.unusedSimpArgs false
set_option maxHeartbeats 1000000
set_option maxRecDepth 20000

theorem row_str {A : Option Addr} {l : List (List UInt8)} {w : World} {G : Nat → Prop} (hrow : strT'.Row w G A l) (h0 : 0 < l.length) : ∃ g off, A = some ⟨g, off, none⟩ ∧ ∀ i (h : i < l.length), w.cell? ⟨g, off + i, none⟩ = some (sv l[i]) := by
  obtain ⟨g, off, hA, _, _, _⟩ := hrow.cell h0
  refine ⟨g, off, hA, fun i h => ?_⟩
  obtain ⟨g', off', hA', _, _, hc⟩ := hrow.cell h
  rw [hA] at hA'
  cases hA'
  exact hc
theorem texts_le (k : Int) : textsK k ≤ 2 := by unfold textsK; (repeat' split) <;> omega
theorem texts_zero : textsK 0 = 0 := rfl
theorem r_lookF {ρ : Operand → Value} {w : World} {d : Option Tmp} {t : TypeId} {pos : String} {af : Array Edge} {g : Option (Nat × Bool)} {x y : Operand} {m : Nat} {s : List UInt8} (hx : ρ x = .map (some m)) (hy : ρ y = sv s) (hm : MapAt .string w m formsF) :
    (execOp ρ ⟨d, .lookup 82 x y true, t, pos, af, g⟩).run Tryd.prog w = .ok (.value (.tuple #[kv (kindK s) (textsK (kindK s)), .bool (decide (kindK s ≠ 0))])) w := by
  rw [rk_lookupOk hx hy Tryd.underlying82 Tryd.underlying9 trivial Tryd.zero80 hm, formsF_at]
  by_cases h : kindK s = 0
  · simp only [h, if_true]; rfl
  · simp [h]
theorem one_short {l : List (List UInt8)} (h0 : 0 < l.length) (h : ¬ l.length = 2 + textsK (kindK l[0])) : oneR l = none := by
  rcases l with _ | ⟨a, _ | ⟨b, ts⟩⟩
  · simp at h0
  · rfl
  · simp only [List.getElem_cons_zero, List.length_cons] at h
    simp only [oneR]
    rw [if_pos (Or.inr (by omega))]
theorem one_kind {l : List (List UInt8)} (h0 : 0 < l.length) (h : kindK l[0] = 0) : oneR l = none := by
  rcases l with _ | ⟨a, _ | ⟨b, ts⟩⟩
  · simp at h0
  · rfl
  · simp only [List.getElem_cons_zero] at h
    simp only [oneR]
    rw [if_pos (Or.inl h)]
theorem one_shape {l : List (List UInt8)} {n : Nat} (h : l.length = 2 + n) : ∃ a b ts, l = a :: b :: ts ∧ ts.length = n := by
  rcases l with _ | ⟨a, _ | ⟨b, ts⟩⟩
  · simp at h; omega
  · simp at h; omega
  · exact ⟨a, b, ts, rfl, by simp only [List.length_cons] at h; omega⟩
theorem one_bad {a b : List UInt8} {ts : List (List UInt8)} {i : Nat} (hi : i < ts.length) (h2 : ts.length ≤ 2) (hu : unqP ts[i] = none) : oneR (a :: b :: ts) = none := by
  simp only [oneR]
  split
  · rfl
  · rcases ts with _ | ⟨x, _ | ⟨y, ts⟩⟩
    · simp at hi
    · obtain rfl : i = 0 := by simp at hi; omega
      simp only [List.getElem_cons_zero] at hu
      simp only [hu]
    · have : i = 0 ∨ i = 1 := by simp only [List.length_cons] at hi h2; omega
      rcases this with rfl | rfl
      · simp only [List.getElem_cons_zero] at hu
        simp only [hu]
      · simp only [List.getElem_cons_succ, List.getElem_cons_zero] at hu
        simp only [hu]
        cases unqP x <;> rfl
theorem one_val {a b o n : List UInt8} {ts : List (List UInt8)} (hk : kindK a ≠ 0) (ht : ts.length = textsK (kindK a)) (ho : ∀ h : 0 < ts.length, unqP ts[0] = some o) (ho0 : ts.length = 0 → o = []) (hn : ∀ h : 1 < ts.length, unqP ts[1] = some n) (hn0 : ts.length ≤ 1 → n = []) :
    oneR (a :: b :: ts) = if ruR ⟨kindK a, b, o, n⟩ then some ⟨kindK a, b, o, n⟩ else none := by
  simp only [oneR]
  rw [if_neg (fun q => q.elim hk (fun q => q ht))]
  rcases ts with _ | ⟨x, _ | ⟨y, ts⟩⟩
  · have h1 := ho0 rfl
    have h2 := hn0 (by simp)
    subst h1; subst h2; rfl
  · have h1 := ho (by simp)
    have h2 := hn0 (by simp)
    subst h2
    simp only [List.getElem_cons_zero] at h1
    simp only [h1]
  · have h1 := ho (by simp)
    have h2 := hn (by simp)
    simp only [List.getElem_cons_zero] at h1
    simp only [List.getElem_cons_succ, List.getElem_cons_zero] at h2
    simp only [h1, h2]
theorem one_badL {l : List (List UInt8)} {i : Nat} (hi : 2 + i < l.length) (h4 : l.length ≤ 4) (hu : unqP l[2 + i] = none) : oneR l = none := by
  obtain ⟨a, b, ts, rfl, hts⟩ := one_shape (l := l) (n := l.length - 2) (by omega)
  simp only [List.length_cons] at hi h4
  have e : (a :: b :: ts)[2 + i]'(by simp only [List.length_cons]; omega) = ts[i]'(by omega) := by
    have e2 : 2 + i = i + 1 + 1 := by omega
    simp only [e2, List.getElem_cons_succ]
  rw [e] at hu
  exact one_bad (by omega) (by omega) hu
theorem one_valL {l : List (List UInt8)} {o n : List UInt8} (h1 : 1 < l.length) (hk : kindK l[0] ≠ 0) (ht : l.length = 2 + textsK (kindK l[0])) (ho : ∀ h : 2 < l.length, unqP l[2] = some o) (ho0 : l.length = 2 → o = []) (hn : ∀ h : 3 < l.length, unqP l[3] = some n) (hn0 : l.length ≤ 3 → n = []) :
    oneR l = if ruR ⟨kindK l[0], l[1], o, n⟩ then some ⟨kindK l[0], l[1], o, n⟩ else none := by
  obtain ⟨a, b, ts, rfl, hts⟩ := one_shape (l := l) (n := l.length - 2) (by omega)
  have hlc : (a :: b :: ts).length = ts.length + 2 := rfl
  have ht' : ts.length = textsK (kindK a) := by
    have : ts.length + 2 = 2 + textsK (kindK a) := ht
    omega
  exact one_val hk ht' (fun h => ho (by rw [hlc]; omega)) (fun h => ho0 (by rw [hlc]; omega)) (fun h => hn (by rw [hlc]; omega)) (fun h => hn0 (by rw [hlc]; omega))
theorem quote_ge (s : List UInt8) : s.length ≤ (quoteB s).length := by
  unfold quoteB
  split
  · rename_i h; subst h; simp
  · have : ∀ l : List UInt8, l.length ≤ (l.flatMap quo1).length := fun l => by
      induction l with
      | nil => simp
      | cons c l ih =>
        rw [List.flatMap_cons, List.length_append, List.length_cons]
        have : 1 ≤ (quo1 c).length := by unfold quo1; split <;> simp
        omega
    exact this s
theorem unq_len {s t : List UInt8} (h : unqP s = some t) : t.length ≤ s.length := by
  rw [unqP_iff.1 h]; exact quote_ge t
/-- What comes of words. -/
def OneV (l : List (List UInt8)) (v : Value) : Prop := ∃ r : Ru, v = .tuple #[.agg r.vals.toArray, .bool (decide ((oneR l).isSome = true))] ∧ ∀ x, oneR l = some x → r = x
theorem one_spec {A : Option Addr} {c : Nat} {l : List (List UInt8)} {w : World} {G : Nat → Prop} (hG : Gl w) (hrow : strT'.Row w G A l) (h0 : 0 < l.length) (hl : l.length ≤ 1099511627776) (hw : ∀ s ∈ l, s.length ≤ 20000) :
    Calls Tryd.prog 28 #[.slice A l.length c] w (fun en w' => ∃ v, en = .returned v ∧ OneV l v ∧ Ext w w') := by
  obtain ⟨g, off, rfl, hcell⟩ := row_str hrow h0
  obtain ⟨mx, hmx⟩ := hG.max
  have htl := texts_le (kindK l[0])
  refine calls' (n := 64) (rs := #[.cell 2 35, .tmp 3]) (l := [.slice (some ⟨g, off, none⟩) l.length c]) Tryd.func28 rfl rfl rfl rfl rfl ?_
  have hX := Ext.refl w
  refine W_seq ?_
  refine W_region ?_
  refine op_alloc rfl Tryd.zero35 ?_
  intro w0_0 b0_0 E0_0 B0_0 L0_0
  have hG0_0 : w.heap.size ≤ b0_0 := by have := hX.size; omega
  replace hX := hX.trans E0_0
  refine op rfl (r_assignV (v := .bool _) rfl) ?_
  refine WL_nil ?_
  refine W_cut [4, 5, 9, 10, 11, 12, 13, 14, 15, 16] (fun e' w' => ∃ b4, e' 4 = .pointer (some ⟨b4, 0, none⟩) ∧ e' 5 = .bool (decide (kindK l[0] ≠ 0)) ∧ Blk w' b4 #[.int .i64 (kindK l[0]), .int .i64 (textsK (kindK l[0]) : Nat)] 80 ∧ Blk w' b0_0 (Ru.vals ⟨0, [], [], []⟩).toArray 35 ∧ b0_0 ≠ b4 ∧ w.heap.size ≤ b4 ∧ Ext w w') ?_ ?_
  · refine W_drawF (W0 := w) (fun b : Nat => b = b0_0 ∨ False) Tryd.wd rfl ?_
    intro wd1 hD
    replace B0_0 := Blk.ext B0_0 hD
    replace hX := hX.trans hD
    have DB0_0 := B0_0
    have hS : Ext w wd1 ∧ Same (fun b : Nat => b = b0_0 ∨ False) wd1 wd1 := ⟨hX, fun _ _ => rfl⟩
    refine A_take (i := 1) rfl (by kernel_rfl) (by kernel_rfl) (by kernel_rfl) rfl hS (fun _ hw => r_moveV (v := .slice _ _ _) rfl) ?_
    refine A_take (i := 2) rfl (by kernel_rfl) (by kernel_rfl) (by kernel_rfl) rfl hS (fun _ hw => r_indexAddr1 rfl rfl rfl Tryd.underlying49 Tryd.sz9 (by omega) (by omega)) ?_
    refine A_take (i := 3) rfl (by kernel_rfl) (by kernel_rfl) (by kernel_rfl) rfl hS (fun _ hw => r_load (v := sv l[0]) rfl Tryd.underlying9 rfl (ext_cell hw.1 (hcell 0 h0))) ?_
    refine A_ready2 (i := 0) (j := 8) (by kernel_rfl) ?_ ?_
    · refine O_call rfl rfl (r_call Tryd.func51 Tryd.nm51 rfl) (forms_spec _) ?_
      rintro v1 w1 ⟨m, rfl, M1, hm, hE⟩
      replace B0_0 := Blk.ext B0_0 hE
      replace hX := hX.trans hE
      replace hS : Ext w w1 ∧ Same (fun b : Nat => b = b0_0 ∨ False) wd1 w1 := ⟨hX, fun b hb => Or.elim hb (fun q => by subst q; exact Blk.eq B0_0 DB0_0) (fun hb => hb.elim)⟩
      refine ⟨hS, ?_⟩
      refine A_ready2 (i := 4) (j := 8) (by kernel_rfl) ?_ ?_
      · refine O_val rfl rfl ((by first | exact r_lookF rfl rfl M1 | exact r_lookF rfl rfl (M1.ext E1_8))) (hS) ?_
        refine A_take (i := 5) rfl (by kernel_rfl) (by kernel_rfl) (by kernel_rfl) rfl hS (fun _ hw => r_moveV (v := .tuple #[kv (kindK l[0]) (textsK (kindK l[0])), .bool (decide (kindK l[0] ≠ 0))]) rfl) ?_
        refine A_take (i := 6) rfl (by kernel_rfl) (by kernel_rfl) (by kernel_rfl) rfl hS (fun _ hw => r_extract (vs := [kv (kindK l[0]) (textsK (kindK l[0])), .bool (decide (kindK l[0] ≠ 0))]) (v := kv (kindK l[0]) (textsK (kindK l[0]))) rfl rfl) ?_
        refine A_take (i := 7) rfl (by kernel_rfl) (by kernel_rfl) (by kernel_rfl) rfl hS (fun _ hw => r_extract (vs := [kv (kindK l[0]) (textsK (kindK l[0])), .bool (decide (kindK l[0] ≠ 0))]) (v := .bool (decide (kindK l[0] ≠ 0))) rfl rfl) ?_
        refine A_ready1 (i := 8) (by kernel_rfl) ?_
        refine O_new rfl rfl (r_alloc Tryd.zero80) ?_
        intro w1_8 b1_8 E1_8 B1_8 L1_8
        have hG1_8 : w.heap.size ≤ b1_8 := by have := hX.size; omega
        have hNb0_0_1_8 : b0_0 ≠ b1_8 := by have := Blk.lt B0_0; omega
        replace B0_0 := Blk.ext B0_0 E1_8
        replace hX := hX.trans E1_8
        replace hS : Ext w w1_8 ∧ Same (fun b : Nat => b = b0_0 ∨ False) wd1 w1_8 := ⟨hX, fun b hb => Or.elim hb (fun q => by subst q; exact Blk.eq B0_0 DB0_0) (fun hb => hb.elim)⟩
        refine ⟨hS, ?_⟩
        refine A_ready1 (i := 9) (by kernel_rfl) ?_
        refine O_storeRow rfl rfl rfl Tryd.sz80 B1_8 rfl rfl ?_
        intro w1_9 C1_9 BB1_9
        replace B0_0 := Chg.blk C1_9 B0_0 hNb0_0_1_8
        replace hX := hX.chg C1_9 hG1_8
        replace B1_8 := BB1_9
        replace hS : Ext w w1_9 ∧ Same (fun b : Nat => b = b0_0 ∨ False) wd1 w1_9 := ⟨hX, fun b hb => Or.elim hb (fun q => by subst q; exact Blk.eq B0_0 DB0_0) (fun hb => hb.elim)⟩
        refine ⟨hS, ?_⟩
        refine A_take (i := 10) rfl (by kernel_rfl) (by kernel_rfl) (by kernel_rfl) rfl hS (fun _ hw => r_assignV (v := .bool (decide (kindK l[0] ≠ 0))) rfl) ?_
        refine A_done (by kernel_rfl) ?_
        refine ⟨?_, by repeat (first | with_reducible exact Out.refl _ _ | with_reducible exact Out.mix | refine Out.put rfl ?_ | refine Out.mixin rfl ?_ | exact Out.refl _ _ | exact Out.mix)⟩
        exact ⟨b1_8, rfl, rfl, B1_8, B0_0, hNb0_0_1_8, hG1_8, hX⟩
      · refine O_new rfl rfl (r_alloc Tryd.zero80) ?_
        intro w1_8 b1_8 E1_8 B1_8 L1_8
        have hG1_8 : w.heap.size ≤ b1_8 := by have := hX.size; omega
        have hNb0_0_1_8 : b0_0 ≠ b1_8 := by have := Blk.lt B0_0; omega
        replace B0_0 := Blk.ext B0_0 E1_8
        replace hX := hX.trans E1_8
        replace hS : Ext w w1_8 ∧ Same (fun b : Nat => b = b0_0 ∨ False) wd1 w1_8 := ⟨hX, fun b hb => Or.elim hb (fun q => by subst q; exact Blk.eq B0_0 DB0_0) (fun hb => hb.elim)⟩
        refine ⟨hS, ?_⟩
        refine A_ready1 (i := 4) (by kernel_rfl) ?_
        refine O_val rfl rfl ((by first | exact r_lookF rfl rfl M1 | exact r_lookF rfl rfl (M1.ext E1_8))) (hS) ?_
        refine A_take (i := 5) rfl (by kernel_rfl) (by kernel_rfl) (by kernel_rfl) rfl hS (fun _ hw => r_moveV (v := .tuple #[kv (kindK l[0]) (textsK (kindK l[0])), .bool (decide (kindK l[0] ≠ 0))]) rfl) ?_
        refine A_take (i := 6) rfl (by kernel_rfl) (by kernel_rfl) (by kernel_rfl) rfl hS (fun _ hw => r_extract (vs := [kv (kindK l[0]) (textsK (kindK l[0])), .bool (decide (kindK l[0] ≠ 0))]) (v := kv (kindK l[0]) (textsK (kindK l[0]))) rfl rfl) ?_
        refine A_take (i := 7) rfl (by kernel_rfl) (by kernel_rfl) (by kernel_rfl) rfl hS (fun _ hw => r_extract (vs := [kv (kindK l[0]) (textsK (kindK l[0])), .bool (decide (kindK l[0] ≠ 0))]) (v := .bool (decide (kindK l[0] ≠ 0))) rfl rfl) ?_
        refine A_ready1 (i := 9) (by kernel_rfl) ?_
        refine O_storeRow rfl rfl rfl Tryd.sz80 B1_8 rfl rfl ?_
        intro w1_9 C1_9 BB1_9
        replace B0_0 := Chg.blk C1_9 B0_0 hNb0_0_1_8
        replace hX := hX.chg C1_9 hG1_8
        replace B1_8 := BB1_9
        replace hS : Ext w w1_9 ∧ Same (fun b : Nat => b = b0_0 ∨ False) wd1 w1_9 := ⟨hX, fun b hb => Or.elim hb (fun q => by subst q; exact Blk.eq B0_0 DB0_0) (fun hb => hb.elim)⟩
        refine ⟨hS, ?_⟩
        refine A_take (i := 10) rfl (by kernel_rfl) (by kernel_rfl) (by kernel_rfl) rfl hS (fun _ hw => r_assignV (v := .bool (decide (kindK l[0] ≠ 0))) rfl) ?_
        refine A_done (by kernel_rfl) ?_
        refine ⟨?_, by repeat (first | with_reducible exact Out.refl _ _ | with_reducible exact Out.mix | refine Out.put rfl ?_ | refine Out.mixin rfl ?_ | exact Out.refl _ _ | exact Out.mix)⟩
        exact ⟨b1_8, rfl, rfl, B1_8, B0_0, hNb0_0_1_8, hG1_8, hX⟩
    · refine O_new rfl rfl (r_alloc Tryd.zero80) ?_
      intro w1_8 b1_8 E1_8 B1_8 L1_8
      have hG1_8 : w.heap.size ≤ b1_8 := by have := hX.size; omega
      have hNb0_0_1_8 : b0_0 ≠ b1_8 := by have := Blk.lt B0_0; omega
      replace B0_0 := Blk.ext B0_0 E1_8
      replace hX := hX.trans E1_8
      replace hS : Ext w w1_8 ∧ Same (fun b : Nat => b = b0_0 ∨ False) wd1 w1_8 := ⟨hX, fun b hb => Or.elim hb (fun q => by subst q; exact Blk.eq B0_0 DB0_0) (fun hb => hb.elim)⟩
      refine ⟨hS, ?_⟩
      refine A_ready1 (i := 0) (by kernel_rfl) ?_
      refine O_call rfl rfl (r_call Tryd.func51 Tryd.nm51 rfl) (forms_spec _) ?_
      rintro v1 w1 ⟨m, rfl, M1, hm, hE⟩
      replace B0_0 := Blk.ext B0_0 hE
      replace B1_8 := Blk.ext B1_8 hE
      replace hX := hX.trans hE
      replace hS : Ext w w1 ∧ Same (fun b : Nat => b = b0_0 ∨ False) wd1 w1 := ⟨hX, fun b hb => Or.elim hb (fun q => by subst q; exact Blk.eq B0_0 DB0_0) (fun hb => hb.elim)⟩
      refine ⟨hS, ?_⟩
      refine A_ready1 (i := 4) (by kernel_rfl) ?_
      refine O_val rfl rfl ((by first | exact r_lookF rfl rfl M1 | exact r_lookF rfl rfl (M1.ext E1_8))) (hS) ?_
      refine A_take (i := 5) rfl (by kernel_rfl) (by kernel_rfl) (by kernel_rfl) rfl hS (fun _ hw => r_moveV (v := .tuple #[kv (kindK l[0]) (textsK (kindK l[0])), .bool (decide (kindK l[0] ≠ 0))]) rfl) ?_
      refine A_take (i := 6) rfl (by kernel_rfl) (by kernel_rfl) (by kernel_rfl) rfl hS (fun _ hw => r_extract (vs := [kv (kindK l[0]) (textsK (kindK l[0])), .bool (decide (kindK l[0] ≠ 0))]) (v := kv (kindK l[0]) (textsK (kindK l[0]))) rfl rfl) ?_
      refine A_take (i := 7) rfl (by kernel_rfl) (by kernel_rfl) (by kernel_rfl) rfl hS (fun _ hw => r_extract (vs := [kv (kindK l[0]) (textsK (kindK l[0])), .bool (decide (kindK l[0] ≠ 0))]) (v := .bool (decide (kindK l[0] ≠ 0))) rfl rfl) ?_
      refine A_ready1 (i := 9) (by kernel_rfl) ?_
      refine O_storeRow rfl rfl rfl Tryd.sz80 B1_8 rfl rfl ?_
      intro w1_9 C1_9 BB1_9
      replace B0_0 := Chg.blk C1_9 B0_0 hNb0_0_1_8
      replace hX := hX.chg C1_9 hG1_8
      replace B1_8 := BB1_9
      replace hS : Ext w w1_9 ∧ Same (fun b : Nat => b = b0_0 ∨ False) wd1 w1_9 := ⟨hX, fun b hb => Or.elim hb (fun q => by subst q; exact Blk.eq B0_0 DB0_0) (fun hb => hb.elim)⟩
      refine ⟨hS, ?_⟩
      refine A_take (i := 10) rfl (by kernel_rfl) (by kernel_rfl) (by kernel_rfl) rfl hS (fun _ hw => r_assignV (v := .bool (decide (kindK l[0] ≠ 0))) rfl) ?_
      refine A_done (by kernel_rfl) ?_
      refine ⟨?_, by repeat (first | with_reducible exact Out.refl _ _ | with_reducible exact Out.mix | refine Out.put rfl ?_ | refine Out.mixin rfl ?_ | exact Out.refl _ _ | exact Out.mix)⟩
      exact ⟨b1_8, rfl, rfl, B1_8, B0_0, hNb0_0_1_8, hG1_8, hX⟩
  rintro gregion1 w' hJ
  obtain ⟨b1_8, h4, h5, B1_8', B0', hNb0_0_1_8, hG1_8, hX'⟩ := hJ
  clear hX B0_0
  have hX := hX'
  have B0_0 := B0'
  have B1_8 := B1_8'
  refine W_set (i := 4) h4 ?_
  refine W_set (i := 5) h5 ?_
  refine W_seq ?_
  refine W_seq ?_
  refine W_region ?_
  refine op rfl (r_moveV (v := .bool _) rfl) ?_
  refine op rfl (r_notP rfl) ?_
  refine op_split rfl (r_moveV (v := .bool (decide _)) rfl) (fun hg19 => ?_) (fun hg19 => ?_)
  · refine opG_no rfl rfl rfl rfl rfl ?_
    refine opG_no rfl rfl rfl rfl rfl ?_
    refine opG_no rfl rfl rfl rfl rfl ?_
    refine opG_no rfl rfl rfl rfl rfl ?_
    refine opG_no rfl rfl rfl rfl rfl ?_
    refine opG_no rfl rfl rfl rfl rfl ?_
    refine op rfl (r_pickTV (v := .bool _) rfl rfl) ?_
    refine WL_nil ?_
    refine W_then rfl ?_
    refine W_seq ?_
    refine W_region ?_
    refine op rfl (r_build (cs := [.int _ _, .string _, .string _, .string _]) Tryd.lay35 (fun _ h => by cases h) rfl rfl) ?_
    refine op_storeRow rfl rfl Tryd.sz35 B0_0 rfl rfl ?_
    intro w3_1 C3_1 BB3_1
    replace B1_8 := Chg.blk C3_1 B1_8 (fun q => hNb0_0_1_8 q.symm)
    replace hX := hX.chg C3_1 hG0_0
    replace B0_0 := BB3_1
    refine op rfl (r_assignV (v := .bool _) rfl) ?_
    refine WL_nil ?_
    refine W_ret (finX_ret ?_)
    refine fin_cell1 rfl B0_0 Tryd.underlying35 rfl Tryd.sz35 ?_
    first
      | (have hno : oneR l = none := one_kind h0 (Classical.not_not.1 hg19)
         exact ⟨_, rfl, ⟨⟨0, [], [], []⟩, by rw [hno]; rfl, fun x h => by rw [hno] at h; cases h⟩, hX⟩)
      | (have hno : oneR l = none := one_short h0 (by omega)
         exact ⟨_, rfl, ⟨⟨0, [], [], []⟩, by rw [hno]; rfl, fun x h => by rw [hno] at h; cases h⟩, hX⟩)
      | (have hno : oneR l = none := one_badL (i := i) (by omega) (by omega) (by
           cases hu : unqP l[2 + i] with
           | none => rfl
           | some u => rw [hu] at ht58; exact absurd rfl ht58)
         exact ⟨_, rfl, ⟨⟨0, [], [], []⟩, by rw [hno]; rfl, fun x h => by rw [hno] at h; cases h⟩, hX⟩)
      | (refine ⟨_, rfl, ⟨⟨kindK l[0], l[1], o, n⟩, ?_, fun x h => ?_⟩, hX⟩
         · rw [hone]
           by_cases hr : ruR ⟨kindK l[0], l[1], o, n⟩
           · rw [if_pos hr]; simp [hr]; rfl
           · rw [if_neg hr]; simp [hr]; rfl
         · rw [hone] at h
           split at h
           · exact Option.some.inj h
           · cases h)
  · refine opG_yes rfl rfl rfl rfl rfl (r_moveV (v := .slice _ _ _) rfl) ?_
    refine opG_yes rfl rfl rfl rfl rfl (r_len_slice rfl Tryd.underlying49) ?_
    refine opG_yes rfl rfl rfl rfl rfl (r_fieldAddr rfl Tryd.fld80_1 rfl) ?_
    refine opG_yes rfl rfl rfl rfl rfl (r_load (v := .int .i64 (textsK (kindK l[0]) : Nat)) rfl Tryd.underlying3 rfl (Blk.cell B1_8 rfl)) ?_
    refine opG_yes rfl rfl rfl rfl rfl (r_add' (m := 2) (n := (textsK (kindK l[0]) : Nat)) (r := ((2 + textsK (kindK l[0]) : Nat) : Int)) rfl rfl (by have := texts_le (kindK l[0]); rw [wrap_i64 (by omega) (by omega)]; omega)) ?_
    refine opG_yes rfl rfl rfl rfl rfl (r_neq rfl rfl) ?_
    refine op rfl (r_pickFV (v := .bool _) rfl rfl) ?_
    refine WL_nil ?_
    refine W_ifp rfl (fun ht26 => ?_) (fun ht26 => ?_)
    · refine W_seq ?_
      refine W_region ?_
      refine op rfl (r_build (cs := [.int _ _, .string _, .string _, .string _]) Tryd.lay35 (fun _ h => by cases h) rfl rfl) ?_
      refine op_storeRow rfl rfl Tryd.sz35 B0_0 rfl rfl ?_
      intro w3_1 C3_1 BB3_1
      replace B1_8 := Chg.blk C3_1 B1_8 (fun q => hNb0_0_1_8 q.symm)
      replace hX := hX.chg C3_1 hG0_0
      replace B0_0 := BB3_1
      refine op rfl (r_assignV (v := .bool _) rfl) ?_
      refine WL_nil ?_
      refine W_ret (finX_ret ?_)
      refine fin_cell1 rfl B0_0 Tryd.underlying35 rfl Tryd.sz35 ?_
      first
        | (have hno : oneR l = none := one_kind h0 (Classical.not_not.1 hg19)
           exact ⟨_, rfl, ⟨⟨0, [], [], []⟩, by rw [hno]; rfl, fun x h => by rw [hno] at h; cases h⟩, hX⟩)
        | (have hno : oneR l = none := one_short h0 (by omega)
           exact ⟨_, rfl, ⟨⟨0, [], [], []⟩, by rw [hno]; rfl, fun x h => by rw [hno] at h; cases h⟩, hX⟩)
        | (have hno : oneR l = none := one_badL (i := i) (by omega) (by omega) (by
             cases hu : unqP l[2 + i] with
             | none => rfl
             | some u => rw [hu] at ht58; exact absurd rfl ht58)
           exact ⟨_, rfl, ⟨⟨0, [], [], []⟩, by rw [hno]; rfl, fun x h => by rw [hno] at h; cases h⟩, hX⟩)
        | (refine ⟨_, rfl, ⟨⟨kindK l[0], l[1], o, n⟩, ?_, fun x h => ?_⟩, hX⟩
           · rw [hone]
             by_cases hr : ruR ⟨kindK l[0], l[1], o, n⟩
             · rw [if_pos hr]; simp [hr]; rfl
             · rw [if_neg hr]; simp [hr]; rfl
           · rw [hone] at h
             split at h
             · exact Option.some.inj h
             · cases h)
    · have hk : kindK l[0] ≠ 0 := Classical.not_not.1 hg19
      have hlen : l.length = 2 + textsK (kindK l[0]) := by omega
      refine W_skip ?_
      refine W_seq ?_
      refine W_drawF (W0 := w) (fun b : Nat => b = b0_0 ∨ b = b1_8 ∨ False) Tryd.wd rfl ?_
      intro wd4 hD
      replace B0_0 := Blk.ext B0_0 hD
      replace B1_8 := Blk.ext B1_8 hD
      replace hX := hX.trans hD
      have DB0_0 := B0_0
      have DB1_8 := B1_8
      have hS : Ext w wd4 ∧ Same (fun b : Nat => b = b0_0 ∨ b = b1_8 ∨ False) wd4 wd4 := ⟨hX, fun _ _ => rfl⟩
      refine A_take (i := 0) rfl (by kernel_rfl) (by kernel_rfl) (by kernel_rfl) rfl hS (fun _ hw => r_fieldAddr rfl Tryd.fld80_0 rfl) ?_
      refine A_take (i := 1) rfl (by kernel_rfl) (by kernel_rfl) (by kernel_rfl) rfl hS (fun _ hw => r_load (v := .int .i64 (kindK l[0])) rfl Tryd.underlying3 rfl (Blk.cell (Blk.at DB1_8 (hw.2 _ (Or.inr (Or.inl rfl)))) rfl)) ?_
      refine A_take (i := 2) rfl (by kernel_rfl) (by kernel_rfl) (by kernel_rfl) rfl hS (fun _ hw => r_moveV (v := .slice _ _ _) rfl) ?_
      refine A_take (i := 3) rfl (by kernel_rfl) (by kernel_rfl) (by kernel_rfl) rfl hS (fun _ hw => r_indexAddr1 rfl rfl rfl Tryd.underlying49 Tryd.sz9 (by omega) (by omega)) ?_
      refine A_take (i := 4) rfl (by kernel_rfl) (by kernel_rfl) (by kernel_rfl) rfl hS (fun _ hw => r_load (v := sv l[1]) rfl Tryd.underlying9 rfl (ext_cell hw.1 (hcell 1 (by omega)))) ?_
      refine A_take (i := 5) rfl (by kernel_rfl) (by kernel_rfl) (by kernel_rfl) rfl hS (fun _ hw => r_build (cs := [.int .i64 (kindK l[0]), sv l[1], sv [], sv []]) Tryd.lay35 (List.forall_mem_cons.2 ⟨rfl, List.forall_mem_cons.2 ⟨rfl, fun _ h => absurd h List.not_mem_nil⟩⟩) rfl rfl) ?_
      refine A_ready1 (i := 6) (by kernel_rfl) ?_
      refine O_new rfl rfl (r_alloc Tryd.zero35) ?_
      intro w4_6 b4_6 E4_6 B4_6 L4_6
      have hG4_6 : w.heap.size ≤ b4_6 := by have := hX.size; omega
      have hNb0_0_4_6 : b0_0 ≠ b4_6 := by have := Blk.lt B0_0; omega
      replace B0_0 := Blk.ext B0_0 E4_6
      have hNb1_8_4_6 : b1_8 ≠ b4_6 := by have := Blk.lt B1_8; omega
      replace B1_8 := Blk.ext B1_8 E4_6
      replace hX := hX.trans E4_6
      replace hS : Ext w w4_6 ∧ Same (fun b : Nat => b = b0_0 ∨ b = b1_8 ∨ False) wd4 w4_6 := ⟨hX, fun b hb => Or.elim hb (fun q => by subst q; exact Blk.eq B0_0 DB0_0) (fun hb => Or.elim hb (fun q => by subst q; exact Blk.eq B1_8 DB1_8) (fun hb => hb.elim))⟩
      refine ⟨hS, ?_⟩
      refine A_ready1 (i := 7) (by kernel_rfl) ?_
      refine O_storeRow rfl rfl rfl Tryd.sz35 B4_6 rfl rfl ?_
      intro w4_7 C4_7 BB4_7
      replace B0_0 := Chg.blk C4_7 B0_0 hNb0_0_4_6
      replace B1_8 := Chg.blk C4_7 B1_8 hNb1_8_4_6
      replace hX := hX.chg C4_7 hG4_6
      replace B4_6 := BB4_7
      replace hS : Ext w w4_7 ∧ Same (fun b : Nat => b = b0_0 ∨ b = b1_8 ∨ False) wd4 w4_7 := ⟨hX, fun b hb => Or.elim hb (fun q => by subst q; exact Blk.eq B0_0 DB0_0) (fun hb => Or.elim hb (fun q => by subst q; exact Blk.eq B1_8 DB1_8) (fun hb => hb.elim))⟩
      refine ⟨hS, ?_⟩
      refine A_done (by kernel_rfl) ?_
      refine W_seq ?_
      refine W_seq ?_
      refine W_region ?_
      refine op rfl (r_fieldAddr rfl Tryd.fld35_2 rfl) ?_
      refine op rfl (r_fieldAddr rfl Tryd.fld35_3 rfl) ?_
      refine op_newS rfl (r_buildSlice (vs := [.pointer _, .pointer _]) Tryd.underlying84 Tryd.sz85 Tryd.zero85 rfl rfl rfl) ?_
      intro w5_2 b5_2 E5_2 B5_2 L5_2
      have hG5_2 : w.heap.size ≤ b5_2 := by have := hX.size; omega
      have hNb0_0_5_2 : b0_0 ≠ b5_2 := by have := Blk.lt B0_0; omega
      replace B0_0 := Blk.ext B0_0 E5_2
      have hNb1_8_5_2 : b1_8 ≠ b5_2 := by have := Blk.lt B1_8; omega
      replace B1_8 := Blk.ext B1_8 E5_2
      have hNb4_6_5_2 : b4_6 ≠ b5_2 := by have := Blk.lt B4_6; omega
      replace B4_6 := Blk.ext B4_6 E5_2
      replace hX := hX.trans E5_2
      refine op rfl (r_fieldAddr rfl Tryd.fld80_1 rfl) ?_
      refine op rfl (r_load (v := .int .i64 (textsK (kindK l[0]) : Nat)) rfl Tryd.underlying3 rfl (Blk.cell B1_8 rfl)) ?_
      refine op rfl (r_sliceHi (j := textsK (kindK l[0])) rfl rfl Tryd.underlying84 Tryd.sz85 htl) ?_
      refine op rfl (r_len_slice rfl Tryd.underlying84) ?_
      refine op rfl (r_moveV (v := .int _ _) rfl) ?_
      refine WL_nil ?_
      refine W_block ?_
      refine W_loop [3, 5, 7, 8, 41, 42, 43, 44, 45, 46, 47, 48, 49, 50, 51, 52, 53, 54, 55, 56, 57, 58, 59, 60] (fun q e' w' => ∃ (i : Nat) (o n : List UInt8), q = textsK (kindK l[0]) - i ∧ i ≤ textsK (kindK l[0]) ∧ e' 41 = .int .i64 i ∧ Blk w' b4_6 (Ru.vals ⟨kindK l[0], l[1], o, n⟩).toArray 35 ∧ Blk w' b0_0 (Ru.vals ⟨0, [], [], []⟩).toArray 35 ∧ Blk w' b5_2 #[.pointer (some ⟨b4_6, 2, none⟩), .pointer (some ⟨b4_6, 3, none⟩)] 85 ∧ (∀ h : 2 < l.length, 0 < i → unqP l[2] = some o) ∧ (i = 0 → o = []) ∧ (∀ h : 3 < l.length, 1 < i → unqP l[3] = some n) ∧ (i ≤ 1 → n = []) ∧ Ext w w') (textsK (kindK l[0])) ?_ ?_
      · exact ⟨0, [], [], by omega, by omega, rfl, B4_6, B0_0, B5_2, fun _ h => by omega, fun _ => rfl, fun _ h => by omega, fun _ => rfl, hX⟩
      intro k g w' hI
      obtain ⟨i, o, n, hq, hi, h41, B4', B0', B5', ho, ho0, hn, hn0, hX'⟩ := hI
      clear hX B4_6 B0_0 B5_2
      have hX := hX'
      have B4_6 := B4'
      have B0_0 := B0'
      have B5_2 := B5'
      refine W_set (i := 41) h41 ?_
      refine W_seq ?_
      refine W_region ?_
      refine op rfl (r_lss rfl rfl) ?_
      refine WL_nil ?_
      refine W_seq ?_
      refine W_ifp rfl (fun ht42 => ?_) (fun ht42 => ?_)
      · have hlt : i < textsK (kindK l[0]) := by omega
        have hp : w'.cell? ⟨b5_2, 0 + i, none⟩ = some (.pointer (some ⟨b4_6, 2 + i, none⟩)) := by
          have hi01 : i = 0 ∨ i = 1 := by omega
          rcases hi01 with rfl | rfl
          · exact Blk.cell B5_2 rfl
          · exact Blk.cell B5_2 rfl
        refine W_skip ?_
        refine W_seq ?_
        refine W_block ?_
        refine W_seq ?_
        refine W_region ?_
        refine op rfl (r_moveV (v := .int _ _) rfl) ?_
        refine op rfl (r_indexAddr1 rfl rfl rfl Tryd.underlying84 Tryd.sz85 (by omega) (by omega)) ?_
        refine op rfl (r_load (v := .pointer (some ⟨b4_6, 2 + i, none⟩)) rfl Tryd.underlying85 rfl hp) ?_
        refine op rfl (r_assignV (v := .int _ _) rfl) ?_
        refine op rfl (r_assignV (v := .pointer _) rfl) ?_
        refine WL_nil ?_
        refine W_seq ?_
        refine W_region ?_
        refine op rfl (r_moveV (v := .pointer _) rfl) ?_
        refine op rfl (r_moveV (v := .slice _ _ _) rfl) ?_
        refine op rfl (r_moveV (v := .int _ _) rfl) ?_
        refine op rfl (r_add' (m := 2) (n := i) (r := ((2 + i : Nat) : Int)) rfl rfl (by rw [wrap_i64 (by omega) (by omega)]; omega)) ?_
        refine op rfl (r_indexAddr1 rfl rfl rfl Tryd.underlying49 Tryd.sz9 (by omega) (by omega)) ?_
        refine op rfl (r_load (v := sv l[2 + i]) rfl Tryd.underlying9 rfl (ext_cell hX (hcell (2 + i) (by omega)))) ?_
        refine opCv rfl (r_call Tryd.func14 Tryd.nm14 rfl) (unquote_spec l[2 + i] _ (hG.ext hX) (by have := hw _ (List.getElem_mem (show 2 + i < l.length by omega)); omega)) ?_
        rintro v8 w8 ⟨rfl, hE⟩
        replace B0_0 := Blk.ext B0_0 hE
        replace B4_6 := Blk.ext B4_6 hE
        replace B5_2 := Blk.ext B5_2 hE
        replace hX := hX.trans hE
        refine op rfl (r_moveV (v := .tuple #[sv ((unqP l[2 + i]).getD []), .bool (decide ((unqP l[2 + i]).isSome = true))]) rfl) ?_
        refine op rfl (r_extract (vs := [sv ((unqP l[2 + i]).getD []), .bool (decide ((unqP l[2 + i]).isSome = true))]) rfl rfl) ?_
        refine op rfl (r_extract (vs := [sv ((unqP l[2 + i]).getD []), .bool (decide ((unqP l[2 + i]).isSome = true))]) rfl rfl) ?_
        refine op rfl (r_nilCheck rfl) ?_
        refine op_store (v := sv ((unqP l[2 + i]).getD [])) rfl rfl rfl Tryd.sz9 B4_6 (by show 2 + i < 4; omega) ?_
        intro w9 C9 BB9
        replace B0_0 := Chg.blk C9 B0_0 hNb0_0_4_6
        replace B5_2 := Chg.blk C9 B5_2 (fun q => hNb4_6_5_2 q.symm)
        replace hX := hX.chg C9 hG4_6
        replace B4_6 := BB9
        refine op rfl (r_assignV (v := .bool (decide ((unqP l[2 + i]).isSome = true))) rfl) ?_
        refine WL_nil ?_
        refine W_seq ?_
        refine W_region ?_
        refine op rfl (r_moveV (v := .bool (decide ((unqP l[2 + i]).isSome = true))) rfl) ?_
        refine op rfl (r_notP rfl) ?_
        refine WL_nil ?_
        refine W_ifp rfl (fun ht58 => ?_) (fun ht58 => ?_)
        · refine W_seq ?_
          refine W_region ?_
          refine op rfl (r_build (cs := [.int _ _, .string _, .string _, .string _]) Tryd.lay35 (fun _ h => by cases h) rfl rfl) ?_
          refine op_storeRow rfl rfl Tryd.sz35 B0_0 rfl rfl ?_
          intro w10_1 C10_1 BB10_1
          replace B4_6 := Chg.blk C10_1 B4_6 (fun q => hNb0_0_4_6 q.symm)
          replace B5_2 := Chg.blk C10_1 B5_2 (fun q => hNb0_0_5_2 q.symm)
          replace hX := hX.chg C10_1 hG0_0
          replace B0_0 := BB10_1
          refine op rfl (r_assignV (v := .bool _) rfl) ?_
          refine WL_nil ?_
          refine W_ret (blk_ret (blk_ret (finX_ret ?_)))
          refine fin_cell1 rfl B0_0 Tryd.underlying35 rfl Tryd.sz35 ?_
          first
            | (have hno : oneR l = none := one_kind h0 (Classical.not_not.1 hg19)
               exact ⟨_, rfl, ⟨⟨0, [], [], []⟩, by rw [hno]; rfl, fun x h => by rw [hno] at h; cases h⟩, hX⟩)
            | (have hno : oneR l = none := one_short h0 (by omega)
               exact ⟨_, rfl, ⟨⟨0, [], [], []⟩, by rw [hno]; rfl, fun x h => by rw [hno] at h; cases h⟩, hX⟩)
            | (have hno : oneR l = none := one_badL (i := i) (by omega) (by omega) (by
                 cases hu : unqP l[2 + i] with
                 | none => rfl
                 | some u => rw [hu] at ht58; exact absurd rfl ht58)
               exact ⟨_, rfl, ⟨⟨0, [], [], []⟩, by rw [hno]; rfl, fun x h => by rw [hno] at h; cases h⟩, hX⟩)
            | (refine ⟨_, rfl, ⟨⟨kindK l[0], l[1], o, n⟩, ?_, fun x h => ?_⟩, hX⟩
               · rw [hone]
                 by_cases hr : ruR ⟨kindK l[0], l[1], o, n⟩
                 · rw [if_pos hr]; simp [hr]; rfl
                 · rw [if_neg hr]; simp [hr]; rfl
               · rw [hone] at h
                 split at h
                 · exact Option.some.inj h
                 · cases h)
        · refine W_skip ?_
          refine W_region ?_
          refine op rfl (r_add' (r := ((i + 1 : Nat) : Int)) rfl rfl (by rw [wrap_i64 (by omega) (by omega)]; omega)) ?_
          refine op rfl (r_moveV (v := .int _ _) rfl) ?_
          refine WL_nil ?_
          refine ⟨?_, by repeat (first | with_reducible exact Out.refl _ _ | with_reducible exact Out.mix | refine Out.put rfl ?_ | refine Out.mixin rfl ?_ | exact Out.refl _ _ | exact Out.mix)⟩
          obtain ⟨u, hu⟩ : ∃ u, unqP l[2 + i] = some u := Option.isSome_iff_exists.1 (Classical.not_not.1 ht58)
          rw [hu] at B4_6
          have hi01 : i = 0 ∨ i = 1 := by omega
          rcases hi01 with rfl | rfl
          · exact ⟨textsK (kindK l[0]) - 1, by omega, 1, u, n, rfl, by omega, rfl, B4_6, B0_0, B5_2, fun _ _ => hu, fun h => by omega, fun _ h => by omega, fun _ => hn0 (by omega), hX⟩
          · exact ⟨textsK (kindK l[0]) - 2, by omega, 2, o, u, rfl, by omega, rfl, B4_6, B0_0, B5_2, fun h _ => ho h (by omega), fun h => by omega, fun _ _ => hu, fun h => by omega, hX⟩
      · have hiT : i = textsK (kindK l[0]) := by omega
        have hol : o.length ≤ 20000 := by
          by_cases h : 2 < l.length
          · have := unq_len (ho h (by omega))
            have := hw _ (List.getElem_mem h)
            omega
          · rw [ho0 (by omega)]; simp
        have hnl : n.length ≤ 20000 := by
          by_cases h : 3 < l.length
          · have := unq_len (hn h (by omega))
            have := hw _ (List.getElem_mem h)
            omega
          · rw [hn0 (by omega)]; simp
        have hgl : l[1].length ≤ 20000 := hw _ (List.getElem_mem (by omega))
        have hone := one_valL (l := l) (o := o) (n := n) (by omega) hk hlen (fun h => ho h (by omega)) (fun h => ho0 (by omega)) (fun h => hn h (by omega)) (fun h => hn0 (by omega))
        refine W_exit (blk_hit ?_)
        refine W_seq ?_
        refine W_drawF (W0 := w) (fun b : Nat => b = b4_6 ∨ b = b5_2 ∨ False) Tryd.wd rfl ?_
        intro wd12 hD
        replace B0_0 := Blk.ext B0_0 hD
        replace B4_6 := Blk.ext B4_6 hD
        replace B5_2 := Blk.ext B5_2 hD
        replace hX := hX.trans hD
        have DB4_6 := B4_6
        have DB5_2 := B5_2
        have hS : Ext w wd12 ∧ Same (fun b : Nat => b = b4_6 ∨ b = b5_2 ∨ False) wd12 wd12 := ⟨hX, fun _ _ => rfl⟩
        refine A_take (i := 0) rfl (by kernel_rfl) (by kernel_rfl) (by kernel_rfl) rfl hS (fun _ hw => r_loadRow rfl (Blk.at DB4_6 (hw.2 _ (Or.inl rfl))) Tryd.underlying35 rfl Tryd.sz35) ?_
        refine A_take (i := 1) rfl (by kernel_rfl) (by kernel_rfl) (by kernel_rfl) rfl hS (fun _ hw => r_loadRow rfl (Blk.at DB4_6 (hw.2 _ (Or.inl rfl))) Tryd.underlying35 rfl Tryd.sz35) ?_
        refine A_ready1 (i := 2) (by kernel_rfl) ?_
        refine O_call rfl rfl (r_call Tryd.func24 Tryd.nm24 rfl) (rright_spec ⟨kindK l[0], l[1], o, n⟩ _ (ext_cell hX hmx) (by show l[1].length ≤ _; omega) (by show o.length ≤ _; omega) (by show n.length ≤ _; omega)) ?_
        rintro v12 w12 ⟨rfl, hE⟩
        replace B0_0 := Blk.ext B0_0 hE
        replace B4_6 := Blk.ext B4_6 hE
        replace B5_2 := Blk.ext B5_2 hE
        replace hX := hX.trans hE
        replace hS : Ext w w12 ∧ Same (fun b : Nat => b = b4_6 ∨ b = b5_2 ∨ False) wd12 w12 := ⟨hX, fun b hb => Or.elim hb (fun q => by subst q; exact Blk.eq B4_6 DB4_6) (fun hb => Or.elim hb (fun q => by subst q; exact Blk.eq B5_2 DB5_2) (fun hb => hb.elim))⟩
        refine ⟨hS, ?_⟩
        refine A_ready1 (i := 3) (by kernel_rfl) ?_
        refine O_storeRow rfl rfl rfl Tryd.sz35 B0_0 rfl rfl ?_
        intro w12_3 C12_3 BB12_3
        replace B4_6 := Chg.blk C12_3 B4_6 (fun q => hNb0_0_4_6 q.symm)
        replace B5_2 := Chg.blk C12_3 B5_2 (fun q => hNb0_0_5_2 q.symm)
        replace hX := hX.chg C12_3 hG0_0
        replace B0_0 := BB12_3
        replace hS : Ext w w12_3 ∧ Same (fun b : Nat => b = b4_6 ∨ b = b5_2 ∨ False) wd12 w12_3 := ⟨hX, fun b hb => Or.elim hb (fun q => by subst q; exact Blk.eq B4_6 DB4_6) (fun hb => Or.elim hb (fun q => by subst q; exact Blk.eq B5_2 DB5_2) (fun hb => hb.elim))⟩
        refine ⟨hS, ?_⟩
        refine A_take (i := 4) rfl (by kernel_rfl) (by kernel_rfl) (by kernel_rfl) rfl hS (fun _ hw => r_assignV (v := .bool _) rfl) ?_
        refine A_done (by kernel_rfl) ?_
        refine W_ret (finX_ret ?_)
        refine fin_cell1 rfl B0_0 Tryd.underlying35 rfl Tryd.sz35 ?_
        first
          | (have hno : oneR l = none := one_kind h0 (Classical.not_not.1 hg19)
             exact ⟨_, rfl, ⟨⟨0, [], [], []⟩, by rw [hno]; rfl, fun x h => by rw [hno] at h; cases h⟩, hX⟩)
          | (have hno : oneR l = none := one_short h0 (by omega)
             exact ⟨_, rfl, ⟨⟨0, [], [], []⟩, by rw [hno]; rfl, fun x h => by rw [hno] at h; cases h⟩, hX⟩)
          | (have hno : oneR l = none := one_badL (i := i) (by omega) (by omega) (by
               cases hu : unqP l[2 + i] with
               | none => rfl
               | some u => rw [hu] at ht58; exact absurd rfl ht58)
             exact ⟨_, rfl, ⟨⟨0, [], [], []⟩, by rw [hno]; rfl, fun x h => by rw [hno] at h; cases h⟩, hX⟩)
          | (refine ⟨_, rfl, ⟨⟨kindK l[0], l[1], o, n⟩, ?_, fun x h => ?_⟩, hX⟩
             · rw [hone]
               by_cases hr : ruR ⟨kindK l[0], l[1], o, n⟩
               · rw [if_pos hr]; simp [hr]; rfl
               · rw [if_neg hr]; simp [hr]; rfl
             · rw [hone] at h
               split at h
               · exact Option.some.inj h
               · cases h)
end Go.Proofs.YtafcaigjijajnaaDoor
