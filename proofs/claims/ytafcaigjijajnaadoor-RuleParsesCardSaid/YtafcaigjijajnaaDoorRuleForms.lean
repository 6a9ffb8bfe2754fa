/-
  The walks of kinds by words: the map, a kind's word.
-/
import Derived.Test.YtafcaigjijajnaaDoorFacts
import Derived.Test.YtafcaigjijajnaaDoorRuleY
import Derived.Test.YtafcaigjijajnaaDoorGenB
namespace Go.Proofs.YtafcaigjijajnaaDoor
open Go Go.Eng Go.RowKit Go.Proofs
set_option linter.unusedVariables false
set_option linter.unusedSimpArgs false
set_option maxHeartbeats 1000000
set_option maxRecDepth 20000

abbrev kv (k n : Int) : Value := .agg #[.int .i64 k, .int .i64 n]
abbrev sv (l : List UInt8) : Value := .string (str l)
noncomputable def formsF : Value → Option Value :=
  fput (fput (fput (fput (fput (fun _ => none) (sv (wordK 1)) (kv 1 2)) (sv (wordK 2)) (kv 2 2)) (sv (wordK 3)) (kv 3 1)) (sv (wordK 4)) (kv 4 2)) (sv (wordK 5)) (kv 5 0)
theorem sv_eq {a b : List UInt8} : sv a = sv b ↔ a = b := ⟨fun h => str_inj (by simpa [sv] using h), fun h => by rw [h]⟩
theorem formsF_at (s : List UInt8) : formsF (sv s) = if kindK s = 0 then none else some (kv (kindK s) (textsK (kindK s))) := by
  unfold formsF fput kindK
  simp only [sv_eq]
  show (if s = wordK 5 then _ else if s = wordK 4 then _ else if s = wordK 3 then _ else if s = wordK 2 then _ else if s = wordK 1 then _ else none) = _
  simp only [wordK]
  by_cases h1 : s = [114, 101, 112, 108, 97, 99, 101]
  · subst h1; simp; rfl
  by_cases h2 : s = [105, 110, 115, 101, 114, 116]
  · subst h2; simp; rfl
  by_cases h3 : s = [115, 116, 114, 105, 107, 101]
  · subst h3; simp; rfl
  by_cases h4 : s = [114, 101, 110, 97, 109, 101]
  · subst h4; simp; rfl
  by_cases h5 : s = [114, 101, 109, 111, 118, 101]
  · subst h5; simp; rfl
  simp [h1, h2, h3, h4, h5]
theorem formsF_key {k v : Value} (h : formsF k = some v) : ∃ s, k = sv s := by
  unfold formsF fput at h
  by_cases h5 : k = sv (wordK 5)
  · exact ⟨_, h5⟩
  by_cases h4 : k = sv (wordK 4)
  · exact ⟨_, h4⟩
  by_cases h3 : k = sv (wordK 3)
  · exact ⟨_, h3⟩
  by_cases h2 : k = sv (wordK 2)
  · exact ⟨_, h2⟩
  by_cases h1 : k = sv (wordK 1)
  · exact ⟨_, h1⟩
  rw [if_neg h5, if_neg h4, if_neg h3, if_neg h2, if_neg h1] at h
  cases h
theorem forms_spec (w : World) :
    Calls Tryd.prog 51 #[] w (fun en w' => ∃ v, en = .returned v ∧ ∃ m, v = .map (some m) ∧ MapAt .string w' m formsF ∧ w.heap.size ≤ m ∧ Ext w w') := by
  refine calls' (n := 8) (rs := #[.tmp 0]) (l := []) Tryd.func51 rfl rfl rfl rfl rfl ?_
  have hX := Ext.refl w
  refine W_seq ?_
  refine W_region ?_
  refine op rfl (r_assignV (v := .map none) rfl) ?_
  refine WL_nil ?_
  refine W_seq ?_
  refine W_region ?_
  refine op_makeMapK .string rfl ?_
  intro w1 m E1 M1 L1
  have hm : w.heap.size ≤ m := by omega
  replace hX := hX.trans E1
  refine op rfl (r_build (cs := [.int _ _, .int _ _]) Tryd.lay80 (List.forall_mem_cons.2 ⟨rfl, List.forall_mem_cons.2 ⟨rfl, fun _ h => by cases h⟩⟩) rfl rfl) ?_
  refine op_insertK (k := sv (wordK 1)) (v := kv 1 2) rfl rfl rfl Tryd.underlying82 Tryd.underlying9 trivial M1 ?_
  intro w2 C2 M2
  replace hX := hX.chg C2 hm
  refine op rfl (r_build (cs := [.int _ _, .int _ _]) Tryd.lay80 (List.forall_mem_cons.2 ⟨rfl, List.forall_mem_cons.2 ⟨rfl, fun _ h => by cases h⟩⟩) rfl rfl) ?_
  refine op_insertK (k := sv (wordK 2)) (v := kv 2 2) rfl rfl rfl Tryd.underlying82 Tryd.underlying9 trivial M2 ?_
  intro w3 C3 M3
  replace hX := hX.chg C3 hm
  refine op rfl (r_build (cs := [.int _ _, .int _ _]) Tryd.lay80 (List.forall_mem_cons.2 ⟨rfl, List.forall_mem_cons.2 ⟨rfl, fun _ h => by cases h⟩⟩) rfl rfl) ?_
  refine op_insertK (k := sv (wordK 3)) (v := kv 3 1) rfl rfl rfl Tryd.underlying82 Tryd.underlying9 trivial M3 ?_
  intro w4 C4 M4
  replace hX := hX.chg C4 hm
  refine op rfl (r_build (cs := [.int _ _, .int _ _]) Tryd.lay80 (List.forall_mem_cons.2 ⟨rfl, List.forall_mem_cons.2 ⟨rfl, fun _ h => by cases h⟩⟩) rfl rfl) ?_
  refine op_insertK (k := sv (wordK 4)) (v := kv 4 2) rfl rfl rfl Tryd.underlying82 Tryd.underlying9 trivial M4 ?_
  intro w5 C5 M5
  replace hX := hX.chg C5 hm
  refine op rfl (r_build (cs := [.int _ _, .int _ _]) Tryd.lay80 (List.forall_mem_cons.2 ⟨rfl, List.forall_mem_cons.2 ⟨rfl, fun _ h => by cases h⟩⟩) rfl rfl) ?_
  refine op_insertK (k := sv (wordK 5)) (v := kv 5 0) rfl rfl rfl Tryd.underlying82 Tryd.underlying9 trivial M5 ?_
  intro w6 C6 M6
  replace hX := hX.chg C6 hm
  refine op rfl (r_moveV (v := .map (some m)) rfl) ?_
  refine op rfl (r_assignV (v := .map (some m)) rfl) ?_
  refine WL_nil ?_
  refine W_ret (finX_ret ?_)
  refine fin1 ?_
  exact ⟨_, rfl, m, rfl, M6, hm, hX⟩
theorem word_spec (kd : Int) (w : World) (hk : 1 ≤ kd ∧ kd ≤ 5) :
    Calls Tryd.prog 38 #[.int .i64 kd] w (fun en w' => ∃ v, en = .returned v ∧ v = .tuple #[sv (wordK kd), .int .i64 (textsK kd : Nat)] ∧ Ext w w') := by
  refine calls' (n := 20) (rs := #[.tmp 2, .tmp 3]) (l := [.int .i64 kd]) Tryd.func38 rfl rfl rfl rfl rfl ?_
  have hX := Ext.refl w
  refine W_seq ?_
  refine W_region ?_
  refine op rfl (r_assignV (v := .string _) rfl) ?_
  refine op rfl (r_assignV (v := .int _ _) rfl) ?_
  refine WL_nil ?_
  refine W_seq ?_
  refine W_seq ?_
  refine W_region ?_
  refine opCv rfl (r_call Tryd.func51 Tryd.nm51 rfl) (forms_spec _) ?_
  rintro v1 w1 ⟨m, rfl, M1, hm, hE⟩
  replace hX := hX.trans hE
  obtain ⟨es, clock, hes, hst, hkeys, hiff⟩ := M1
  refine op_range rfl rfl Tryd.underlying82 hes hst ?_
  intro w2 it E2 R2 L2
  replace hX := hX.trans E2
  have hXb := hX
  have hit : w.heap.size ≤ it := by have := hE.size; omega
  refine WL_nil ?_
  refine W_block ?_
  refine W_loop [2, 3, 4, 5, 8, 9, 10, 11, 12, 13, 14, 15, 16, 17, 18, 19] (fun q e' w' => ∃ (seen : Array Nat), q = (leftOf es seen).size ∧ RangeAt w' it m es seen ∧ (∀ en ∈ es.toList, seen.contains en.born = true → en.key ≠ sv (wordK kd)) ∧ Ext w w') ((leftOf es #[]).size) ?_ ?_
  · exact ⟨#[], rfl, R2, fun en _ h => by simp at h, hX⟩
  intro k g w' hI
  obtain ⟨seen, hq, hR, hno, hX'⟩ := hI
  clear hX
  have hX := hX'
  refine W_seq ?_
  refine W_region ?_
  refine op_next rfl rfl hR ?_
  intro w3 nb nk nv C3 hnf hnt
  replace hX := hX.chg C3 hit
  refine op rfl (r_extNext rfl) ?_
  refine WL_nil ?_
  refine W_seq ?_
  refine W_if rfl (fun ht9 => ?_) (fun ht9 => ?_)
  · obtain ⟨en, hen, rfl, rfl, hR3⟩ := hnt ht9
    have hff := (hiff en.key en.val).2 ⟨en, (mem_left hen).1, rfl, rfl⟩
    obtain ⟨s, hek⟩ := formsF_key hff
    rw [hek, formsF_at] at hff
    have hks : kindK s ≠ 0 := fun q => by rw [if_pos q] at hff; cases hff
    rw [if_neg hks, Option.some.injEq] at hff
    have hev : en.val = kv (kindK s) (textsK (kindK s)) := hff.symm
    have hmi : m ≠ it := by have := heap_lt hes; omega
    refine W_skip ?_
    refine W_block ?_
    refine W_seq ?_
    refine W_region ?_
    refine op rfl (r_entryG rfl hR3 (mem_left hen).1) ?_
    refine op rfl (r_extract (vs := [en.key, en.val]) (v := sv s) rfl (by rw [← hek]; rfl)) ?_
    refine op rfl (r_extract (vs := [en.key, en.val]) (v := kv (kindK s) (textsK (kindK s))) rfl (by rw [← hev]; rfl)) ?_
    refine op_alloc rfl Tryd.zero80 ?_
    intro w3_3 b3_3 E3_3 B3_3 L3_3
    have hG3_3 : w.heap.size ≤ b3_3 := by have := hX.size; omega
    replace hX := hX.trans E3_3
    have hb3 : it ≠ b3_3 := by have := hR3.lt; omega
    have hb3m : m ≠ b3_3 := by have := hR3.lt; omega
    refine op rfl (r_assignV (v := sv s) rfl) ?_
    refine op_storeRow rfl rfl Tryd.sz80 B3_3 rfl rfl ?_
    intro w3_5 C3_5 BB3_5
    replace hX := hX.chg C3_5 hG3_3
    replace B3_3 := BB3_5
    have hR4 : RangeAt w3_5 it m es (seen.push en.born) := (hR3.ext E3_3).chg C3_5 hb3 hb3m
    refine WL_nil ?_
    refine W_seq ?_
    refine W_region ?_
    refine op rfl (r_fieldAddr rfl Tryd.fld80_0 rfl) ?_
    refine op rfl (r_load (v := .int .i64 (kindK s)) rfl Tryd.underlying3 rfl (Blk.cell B3_3 rfl)) ?_
    refine op rfl (r_moveV (v := .int _ _) rfl) ?_
    refine op rfl (r_eql rfl rfl) ?_
    refine WL_nil ?_
    refine W_ifp rfl (fun ht16 => ?_) (fun ht16 => ?_)
    · obtain ⟨hws, -, -⟩ := word_kind hks
      rw [ht16] at hws
      subst hws
      refine W_seq ?_
      refine W_drawF (W0 := w) (fun b : Nat => b = b3_3 ∨ False) Tryd.wd rfl ?_
      intro wd5 hD
      replace B3_3 := Blk.ext B3_3 hD
      replace hX := hX.trans hD
      have DB3_3 := B3_3
      have hS : Ext w wd5 ∧ Same (fun b : Nat => b = b3_3 ∨ False) wd5 wd5 := ⟨hX, fun _ _ => rfl⟩
      refine A_take (i := 0) rfl (by kernel_rfl) (by kernel_rfl) (by kernel_rfl) rfl hS (fun _ hw => r_moveV (v := sv (wordK kd)) rfl) ?_
      refine A_take (i := 1) rfl (by kernel_rfl) (by kernel_rfl) (by kernel_rfl) rfl hS (fun _ hw => r_fieldAddr rfl Tryd.fld80_1 rfl) ?_
      refine A_take (i := 2) rfl (by kernel_rfl) (by kernel_rfl) (by kernel_rfl) rfl hS (fun _ hw => r_load (v := .int .i64 (textsK (kindK (wordK kd)) : Nat)) rfl Tryd.underlying3 rfl (Blk.cell (Blk.at DB3_3 (hw.2 _ (Or.inl rfl))) rfl)) ?_
      refine A_take (i := 3) rfl (by kernel_rfl) (by kernel_rfl) (by kernel_rfl) rfl hS (fun _ hw => r_assignV (v := sv (wordK kd)) rfl) ?_
      refine A_take (i := 4) rfl (by kernel_rfl) (by kernel_rfl) (by kernel_rfl) rfl hS (fun _ hw => r_assignV (v := .int _ _) rfl) ?_
      refine A_done (by kernel_rfl) ?_
      refine W_ret (blk_ret (blk_ret (finX_ret ?_)))
      refine fin2 ?_
      first
        | exact ⟨_, rfl, by rw [kind_word hk]; rfl, hX⟩
        | (exfalso
           obtain ⟨h0, -⟩ := hnf ht9
           have hf := formsF_at (wordK kd)
           rw [kind_word hk, if_neg (by omega)] at hf
           obtain ⟨en, hen, h1, -⟩ := (hiff _ _).1 hf
           exact hno en hen (all_seen es seen h0 en hen) h1)
    · refine W_skip ?_
      refine ⟨?_, by repeat (first | with_reducible exact Out.refl _ _ | with_reducible exact Out.mix | refine Out.put rfl ?_ | refine Out.mixin rfl ?_ | exact Out.refl _ _ | exact Out.mix)⟩
      refine ⟨(leftOf es (seen.push en.born)).size, by rw [hq]; exact left_shrinks es seen en hen, _, rfl, hR4, fun x hx hxs hxk => ?_, hX⟩
      rw [contains_push] at hxs
      cases hc : seen.contains x.born with
      | true => exact hno x hx hc hxk
      | false =>
        rw [hc, Bool.false_or, beq_iff_eq] at hxs
        have := born_inj hst.2.1 hx (mem_left hen).1 hxs
        subst this
        rw [hxk] at hek
        have := sv_eq.1 hek
        subst this
        exact ht16 (kind_word hk)
  · refine W_exit (blk_hit ?_)
    refine W_seq ?_
    refine W_region ?_
    refine op rfl (r_assignV (v := .string _) rfl) ?_
    refine op rfl (r_assignV (v := .int _ _) rfl) ?_
    refine WL_nil ?_
    refine W_ret (finX_ret ?_)
    refine fin2 ?_
    first
      | exact ⟨_, rfl, by rw [kind_word hk]; rfl, hX⟩
      | (exfalso
         obtain ⟨h0, -⟩ := hnf ht9
         have hf := formsF_at (wordK kd)
         rw [kind_word hk, if_neg (by omega)] at hf
         obtain ⟨en, hen, h1, -⟩ := (hiff _ _).1 hf
         exact hno en hen (all_seen es seen h0 en hen) h1)
end Go.Proofs.YtafcaigjijajnaaDoor
