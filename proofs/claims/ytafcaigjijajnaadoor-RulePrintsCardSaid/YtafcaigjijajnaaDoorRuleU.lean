/-
  The walk: which rules may be.
-/
import Derived.Test.YtafcaigjijajnaaDoorFacts
import Derived.Test.YtafcaigjijajnaaDoorRuleT
namespace Go.Proofs.YtafcaigjijajnaaDoor
open Go Go.Eng Go.RowKit Go.Proofs
set_option linter.unusedVariables false
set_option linter.unusedSimpArgs false
set_option maxHeartbeats 2000000
set_option maxRecDepth 20000

theorem rright_spec (r : Ru) (w : World) {m : Int} (hm : w.cell? ⟨gMax, 0, none⟩ = some (.int .i64 m)) (hg : r.g.length ≤ 1099511627776) (ho : r.o.length ≤ 1099511627776) (hn : r.n.length ≤ 1099511627776) :
    Calls Tryd.prog 24 #[.agg r.vals.toArray] w (fun en w' => ∃ v, en = .returned v ∧ v = .bool (decide (ruR r)) ∧ Ext w w') := by
  refine calls' (n := 66) (rs := #[.tmp 2]) (l := [.agg r.vals.toArray]) Tryd.func24 rfl rfl rfl rfl rfl ?_
  have hX := Ext.refl w
  refine W_seq ?_
  refine W_region ?_
  refine op_box (v := .agg _) rfl rfl ?_
  intro w0_0 b0_0 E0_0 B0_0 L0_0
  have hG0_0 : w.heap.size ≤ b0_0 := by have := hX.size; omega
  replace hX := hX.trans E0_0
  refine op rfl (r_assignV (v := .bool _) rfl) ?_
  refine WL_nil ?_
  refine W_seq ?_
  refine W_seq ?_
  refine W_region ?_
  refine op rfl (r_fieldAddr rfl Tryd.fld35_1 rfl) ?_
  refine op rfl (r_load (v := .string (str r.g)) rfl Tryd.underlying9 rfl (Blk.cell B0_0 rfl)) ?_
  refine opCv rfl (r_call Tryd.func43 Tryd.nm43 rfl) (glob_spec r.g _ (ext_cell hX hm) hg) ?_
  rintro v1 w1 ⟨rfl, hE⟩
  replace B0_0 := Blk.ext B0_0 hE
  replace hX := hX.trans hE
  refine op rfl (r_notP rfl) ?_
  refine op_split rfl (r_moveV (v := .bool (decide _)) rfl) (fun hg7 => ?_) (fun hg7 => ?_)
  · refine opG_no rfl rfl rfl rfl rfl ?_
    refine opG_no rfl rfl rfl rfl rfl ?_
    refine opG_no rfl rfl rfl rfl rfl ?_
    refine opG_no rfl rfl rfl rfl rfl ?_
    refine opG_no rfl rfl rfl rfl rfl ?_
    refine opG_no rfl rfl rfl rfl rfl ?_
    refine opG_no rfl rfl rfl rfl rfl ?_
    refine op rfl (r_pickTV (v := .bool _) rfl rfl) ?_
    refine WL_nil ?_
    refine W_then rfl ?_
    refine W_seq ?_
    refine W_region ?_
    refine op rfl (r_assignV (v := .bool _) rfl) ?_
    refine WL_nil ?_
    refine W_ret (finX_ret ?_)
    refine fin1 ?_
    refine ⟨_, rfl, ?_, hX⟩
    first
      | exact bool_ff (fun h => absurd h.1 (by assumption))
      | exact bool_ff (fun h => absurd (hsh.2 ⟨h.2.1, h.2.2.1⟩) (by assumption))
      | exact bool_ff (fun h => (by assumption : ¬ ∀ s ∈ [r.o, r.n], s.length ≤ 100) (hsh.2 ⟨h.2.1, h.2.2.1⟩))
      | exact bool_ff (fun h => by
          have hk := h.2.2.2
          unfold kindR at hk
          rcases hk with k | k | k | k | k <;> first | omega | exact absurd k.2 (by assumption) | exact absurd k.2.1 (by assumption) | exact absurd k.2.2 (by assumption) | (simp_all; done))
      | exact bool_iff (by
          unfold ruR kindR
          simp_all)
  · refine opG_yes rfl rfl rfl rfl rfl (r_fieldAddr rfl Tryd.fld35_2 rfl) ?_
    refine opG_yes rfl rfl rfl rfl rfl (r_load (v := .string (str r.o)) rfl Tryd.underlying9 rfl (Blk.cell B0_0 rfl)) ?_
    refine opG_yes rfl rfl rfl rfl rfl (r_fieldAddr rfl Tryd.fld35_3 rfl) ?_
    refine opG_yes rfl rfl rfl rfl rfl (r_load (v := .string (str r.n)) rfl Tryd.underlying9 rfl (Blk.cell B0_0 rfl)) ?_
    refine op_newSG rfl rfl rfl rfl rfl (r_buildSlice (vs := [.string (str r.o), .string (str r.n)]) Tryd.underlying49 Tryd.sz9 Tryd.zero9 rfl rfl rfl) ?_
    intro w9 b9 E9 B9 L9
    have hrow9 : strT'.Row w9 (old w9) (some ⟨b9, 0, none⟩) [r.o, r.n] := by
      refine Blk.row B9 (Blk.lt B9) fun i hi => ?_
      rcases i with _ | _ | i
      · exact ⟨[.string (str r.o)], ⟨rfl, by show r.o.length ≤ _; omega⟩, fun j hj => by
          have hj1 : j < 1 := hj
          obtain rfl : j = 0 := by omega
          rfl⟩
      · exact ⟨[.string (str r.n)], ⟨rfl, by show r.n.length ≤ _; omega⟩, fun j hj => by
          have hj1 : j < 1 := hj
          obtain rfl : j = 0 := by omega
          rfl⟩
      · simp at hi; omega
    have hsp : Calls Tryd.prog 44 #[.slice (some ⟨b9, 0, none⟩) 2 2] w9 (fun en w' => ∃ v, en = .returned v ∧ v = .bool (decide (∀ s ∈ [r.o, r.n], s.length ≤ 100)) ∧ Ext w9 w') := short_spec (c := 2) (l := [r.o, r.n]) hrow9 (by simp)
    replace B0_0 := Blk.ext B0_0 E9
    replace hX := hX.trans E9
    refine opGCv_yes rfl rfl rfl rfl rfl (r_call Tryd.func44 Tryd.nm44 rfl) (hsp) ?_
    rintro v10 w10 ⟨rfl, hE⟩
    replace B0_0 := Blk.ext B0_0 hE
    replace hX := hX.trans hE
    have hsh : (∀ s ∈ [r.o, r.n], s.length ≤ 100) ↔ (r.o.length ≤ 100 ∧ r.n.length ≤ 100) := by simp
    refine opG_yes rfl rfl rfl rfl rfl (r_notP rfl) ?_
    refine op rfl (r_pickFV (v := .bool _) rfl rfl) ?_
    refine WL_nil ?_
    refine W_ifp rfl (fun ht15 => ?_) (fun ht15 => ?_)
    · refine W_seq ?_
      refine W_region ?_
      refine op rfl (r_assignV (v := .bool _) rfl) ?_
      refine WL_nil ?_
      refine W_ret (finX_ret ?_)
      refine fin1 ?_
      refine ⟨_, rfl, ?_, hX⟩
      first
        | exact bool_ff (fun h => absurd h.1 (by assumption))
        | exact bool_ff (fun h => absurd (hsh.2 ⟨h.2.1, h.2.2.1⟩) (by assumption))
        | exact bool_ff (fun h => (by assumption : ¬ ∀ s ∈ [r.o, r.n], s.length ≤ 100) (hsh.2 ⟨h.2.1, h.2.2.1⟩))
        | exact bool_ff (fun h => by
            have hk := h.2.2.2
            unfold kindR at hk
            rcases hk with k | k | k | k | k <;> first | omega | exact absurd k.2 (by assumption) | exact absurd k.2.1 (by assumption) | exact absurd k.2.2 (by assumption) | (simp_all; done))
        | exact bool_iff (by
            unfold ruR kindR
            simp_all)
    · have hgl : globR r.g := Classical.not_not.1 hg7
      obtain ⟨l1, l2⟩ := hsh.1 (Classical.not_not.1 ht15)
      refine W_skip ?_
      refine W_seq ?_
      refine W_seq ?_
      refine W_region ?_
      refine op rfl (r_fieldAddr rfl Tryd.fld35_0 rfl) ?_
      refine op rfl (r_load (v := .int .i64 r.k) rfl Tryd.underlying3 rfl (Blk.cell B0_0 rfl)) ?_
      refine WL_nil ?_
      refine W_block ?_
      refine W_seq ?_
      refine W_region ?_
      refine op rfl (r_eql rfl rfl) ?_
      refine op rfl (r_assignV (v := .bool _) rfl) ?_
      refine WL_nil ?_
      refine W_ifp rfl (fun ht18 => ?_) (fun ht18 => ?_)
      · refine W_seq ?_
        refine W_region ?_
        refine op rfl (r_fieldAddr rfl Tryd.fld35_2 rfl) ?_
        refine op rfl (r_load (v := .string (str r.o)) rfl Tryd.underlying9 rfl (Blk.cell B0_0 rfl)) ?_
        refine opCv rfl (r_call Tryd.func19 Tryd.nm19 rfl) (token_spec r.o _ (by omega)) ?_
        rintro v5 w5 ⟨rfl, hE⟩
        replace B0_0 := Blk.ext B0_0 hE
        replace hX := hX.trans hE
        refine op rfl (r_assignV (v := .bool _) rfl) ?_
        refine WL_nil ?_
        refine W_ret (blk_ret (finX_ret ?_))
        refine fin1 ?_
        refine ⟨_, rfl, ?_, hX⟩
        first
          | exact bool_ff (fun h => absurd h.1 (by assumption))
          | exact bool_ff (fun h => absurd (hsh.2 ⟨h.2.1, h.2.2.1⟩) (by assumption))
          | exact bool_ff (fun h => (by assumption : ¬ ∀ s ∈ [r.o, r.n], s.length ≤ 100) (hsh.2 ⟨h.2.1, h.2.2.1⟩))
          | exact bool_ff (fun h => by
              have hk := h.2.2.2
              unfold kindR at hk
              rcases hk with k | k | k | k | k <;> first | omega | exact absurd k.2 (by assumption) | exact absurd k.2.1 (by assumption) | exact absurd k.2.2 (by assumption) | (simp_all; done))
          | exact bool_iff (by
              unfold ruR kindR
              simp_all)
      · refine W_seq ?_
        refine W_region ?_
        refine op rfl (r_eql rfl rfl) ?_
        refine op rfl (r_assignV (v := .bool _) rfl) ?_
        refine WL_nil ?_
        refine W_ifp rfl (fun ht23 => ?_) (fun ht23 => ?_)
        · refine W_seq ?_
          refine W_region ?_
          refine op rfl (r_fieldAddr rfl Tryd.fld35_2 rfl) ?_
          refine op rfl (r_load (v := .string (str r.o)) rfl Tryd.underlying9 rfl (Blk.cell B0_0 rfl)) ?_
          refine op rfl (r_fieldAddr rfl Tryd.fld35_3 rfl) ?_
          refine op rfl (r_load (v := .string (str r.n)) rfl Tryd.underlying9 rfl (Blk.cell B0_0 rfl)) ?_
          refine op rfl (rt_add rfl rfl (by omega)) ?_
          refine opCv rfl (r_call Tryd.func45 Tryd.nm45 rfl) (contains1_spec (r.o ++ r.n) 10 _) ?_
          rintro v7 w7 ⟨rfl, hE⟩
          replace B0_0 := Blk.ext B0_0 hE
          replace hX := hX.trans hE
          refine op rfl (r_notP rfl) ?_
          refine op rfl (r_assignV (v := .bool _) rfl) ?_
          refine WL_nil ?_
          refine W_ret (blk_ret (finX_ret ?_))
          refine fin1 ?_
          refine ⟨_, rfl, ?_, hX⟩
          first
            | exact bool_ff (fun h => absurd h.1 (by assumption))
            | exact bool_ff (fun h => absurd (hsh.2 ⟨h.2.1, h.2.2.1⟩) (by assumption))
            | exact bool_ff (fun h => (by assumption : ¬ ∀ s ∈ [r.o, r.n], s.length ≤ 100) (hsh.2 ⟨h.2.1, h.2.2.1⟩))
            | exact bool_ff (fun h => by
                have hk := h.2.2.2
                unfold kindR at hk
                rcases hk with k | k | k | k | k <;> first | omega | exact absurd k.2 (by assumption) | exact absurd k.2.1 (by assumption) | exact absurd k.2.2 (by assumption) | (simp_all; done))
            | exact bool_iff (by
                unfold ruR kindR
                simp_all)
        · refine W_seq ?_
          refine W_region ?_
          refine op rfl (r_eql rfl rfl) ?_
          refine op rfl (r_assignV (v := .bool _) rfl) ?_
          refine WL_nil ?_
          refine W_ifp rfl (fun ht32 => ?_) (fun ht32 => ?_)
          · refine W_seq ?_
            refine W_region ?_
            refine op rfl (r_fieldAddr rfl Tryd.fld35_2 rfl) ?_
            refine op rfl (r_load (v := .string (str r.o)) rfl Tryd.underlying9 rfl (Blk.cell B0_0 rfl)) ?_
            refine opCv rfl (r_call Tryd.func45 Tryd.nm45 rfl) (contains1_spec r.o 10 _) ?_
            rintro v9 w9 ⟨rfl, hE⟩
            replace B0_0 := Blk.ext B0_0 hE
            replace hX := hX.trans hE
            refine op rfl (r_notP rfl) ?_
            refine op_split rfl (r_moveV (v := .bool (decide _)) rfl) (fun hg38 => ?_) (fun hg38 => ?_)
            · refine opG_yes rfl rfl rfl rfl rfl (r_fieldAddr rfl Tryd.fld35_3 rfl) ?_
              refine opG_yes rfl rfl rfl rfl rfl (r_load (v := .string (str r.n)) rfl Tryd.underlying9 rfl (Blk.cell B0_0 rfl)) ?_
              refine opG_yes rfl rfl rfl rfl rfl (rt_eql rfl rfl) ?_
              refine op rfl (r_pickTV (v := .bool _) rfl rfl) ?_
              refine op rfl (r_assignV (v := .bool _) rfl) ?_
              refine WL_nil ?_
              refine W_ret (blk_ret (finX_ret ?_))
              refine fin1 ?_
              refine ⟨_, rfl, ?_, hX⟩
              first
                | exact bool_ff (fun h => absurd h.1 (by assumption))
                | exact bool_ff (fun h => absurd (hsh.2 ⟨h.2.1, h.2.2.1⟩) (by assumption))
                | exact bool_ff (fun h => (by assumption : ¬ ∀ s ∈ [r.o, r.n], s.length ≤ 100) (hsh.2 ⟨h.2.1, h.2.2.1⟩))
                | exact bool_ff (fun h => by
                    have hk := h.2.2.2
                    unfold kindR at hk
                    rcases hk with k | k | k | k | k <;> first | omega | exact absurd k.2 (by assumption) | exact absurd k.2.1 (by assumption) | exact absurd k.2.2 (by assumption) | (simp_all; done))
                | exact bool_iff (by
                    unfold ruR kindR
                    simp_all)
            · refine opG_no rfl rfl rfl rfl rfl ?_
              refine opG_no rfl rfl rfl rfl rfl ?_
              refine opG_no rfl rfl rfl rfl rfl ?_
              refine op rfl (r_pickFV (v := .bool _) rfl rfl) ?_
              refine op rfl (r_assignV (v := .bool _) rfl) ?_
              refine WL_nil ?_
              refine W_ret (blk_ret (finX_ret ?_))
              refine fin1 ?_
              refine ⟨_, rfl, ?_, hX⟩
              first
                | exact bool_ff (fun h => absurd h.1 (by assumption))
                | exact bool_ff (fun h => absurd (hsh.2 ⟨h.2.1, h.2.2.1⟩) (by assumption))
                | exact bool_ff (fun h => (by assumption : ¬ ∀ s ∈ [r.o, r.n], s.length ≤ 100) (hsh.2 ⟨h.2.1, h.2.2.1⟩))
                | exact bool_ff (fun h => by
                    have hk := h.2.2.2
                    unfold kindR at hk
                    rcases hk with k | k | k | k | k <;> first | omega | exact absurd k.2 (by assumption) | exact absurd k.2.1 (by assumption) | exact absurd k.2.2 (by assumption) | (simp_all; done))
                | exact bool_iff (by
                    unfold ruR kindR
                    simp_all)
          · refine W_seq ?_
            refine W_region ?_
            refine op rfl (r_eql rfl rfl) ?_
            refine op rfl (r_assignV (v := .bool _) rfl) ?_
            refine WL_nil ?_
            refine W_ifp rfl (fun ht43 => ?_) (fun ht43 => ?_)
            · refine W_seq ?_
              refine W_region ?_
              refine op rfl (r_fieldAddr rfl Tryd.fld35_2 rfl) ?_
              refine op rfl (r_load (v := .string (str r.o)) rfl Tryd.underlying9 rfl (Blk.cell B0_0 rfl)) ?_
              refine opCv rfl (r_call Tryd.func46 Tryd.nm46 rfl) (right_spec r.o _ (by omega)) ?_
              rintro v11 w11 ⟨rfl, hE⟩
              replace B0_0 := Blk.ext B0_0 hE
              replace hX := hX.trans hE
              refine op_split rfl (r_moveV (v := .bool (decide _)) rfl) (fun hg48 => ?_) (fun hg48 => ?_)
              · refine opG_yes rfl rfl rfl rfl rfl (r_fieldAddr rfl Tryd.fld35_3 rfl) ?_
                refine opG_yes rfl rfl rfl rfl rfl (r_load (v := .string (str r.n)) rfl Tryd.underlying9 rfl (Blk.cell B0_0 rfl)) ?_
                refine opGCv_yes rfl rfl rfl rfl rfl (r_call Tryd.func46 Tryd.nm46 rfl) (right_spec r.n _ (by omega)) ?_
                rintro v11b w11b ⟨rfl, hE⟩
                replace B0_0 := Blk.ext B0_0 hE
                replace hX := hX.trans hE
                refine op rfl (r_pickTV (v := .bool _) rfl rfl) ?_
                refine op rfl (r_assignV (v := .bool _) rfl) ?_
                refine WL_nil ?_
                refine W_ret (blk_ret (finX_ret ?_))
                refine fin1 ?_
                refine ⟨_, rfl, ?_, hX⟩
                first
                  | exact bool_ff (fun h => absurd h.1 (by assumption))
                  | exact bool_ff (fun h => absurd (hsh.2 ⟨h.2.1, h.2.2.1⟩) (by assumption))
                  | exact bool_ff (fun h => (by assumption : ¬ ∀ s ∈ [r.o, r.n], s.length ≤ 100) (hsh.2 ⟨h.2.1, h.2.2.1⟩))
                  | exact bool_ff (fun h => by
                      have hk := h.2.2.2
                      unfold kindR at hk
                      rcases hk with k | k | k | k | k <;> first | omega | exact absurd k.2 (by assumption) | exact absurd k.2.1 (by assumption) | exact absurd k.2.2 (by assumption) | (simp_all; done))
                  | exact bool_iff (by
                      unfold ruR kindR
                      simp_all)
              · refine opG_no rfl rfl rfl rfl rfl ?_
                refine opG_no rfl rfl rfl rfl rfl ?_
                refine opG_no rfl rfl rfl rfl rfl ?_
                refine op rfl (r_pickFV (v := .bool _) rfl rfl) ?_
                refine op rfl (r_assignV (v := .bool _) rfl) ?_
                refine WL_nil ?_
                refine W_ret (blk_ret (finX_ret ?_))
                refine fin1 ?_
                refine ⟨_, rfl, ?_, hX⟩
                first
                  | exact bool_ff (fun h => absurd h.1 (by assumption))
                  | exact bool_ff (fun h => absurd (hsh.2 ⟨h.2.1, h.2.2.1⟩) (by assumption))
                  | exact bool_ff (fun h => (by assumption : ¬ ∀ s ∈ [r.o, r.n], s.length ≤ 100) (hsh.2 ⟨h.2.1, h.2.2.1⟩))
                  | exact bool_ff (fun h => by
                      have hk := h.2.2.2
                      unfold kindR at hk
                      rcases hk with k | k | k | k | k <;> first | omega | exact absurd k.2 (by assumption) | exact absurd k.2.1 (by assumption) | exact absurd k.2.2 (by assumption) | (simp_all; done))
                  | exact bool_iff (by
                      unfold ruR kindR
                      simp_all)
            · refine W_skip ?_
              refine W_seq ?_
              refine W_region ?_
              refine op rfl (r_fieldAddr rfl Tryd.fld35_0 rfl) ?_
              refine op rfl (r_load (v := .int .i64 r.k) rfl Tryd.underlying3 rfl (Blk.cell B0_0 rfl)) ?_
              refine op rfl (r_eql rfl rfl) ?_
              refine op_split rfl (r_moveV (v := .bool (decide _)) rfl) (fun hg56 => ?_) (fun hg56 => ?_)
              · refine opG_yes rfl rfl rfl rfl rfl (r_fieldAddr rfl Tryd.fld35_2 rfl) ?_
                refine opG_yes rfl rfl rfl rfl rfl (r_load (v := .string (str r.o)) rfl Tryd.underlying9 rfl (Blk.cell B0_0 rfl)) ?_
                refine opG_yes rfl rfl rfl rfl rfl (rt_eql rfl rfl) ?_
                refine op rfl (r_pickTV (v := .bool _) rfl rfl) ?_
                refine op_split rfl (r_moveV (v := .bool (decide _)) rfl) (fun hg61 => ?_) (fun hg61 => ?_)
                · refine opG_yes rfl rfl rfl rfl rfl (r_fieldAddr rfl Tryd.fld35_3 rfl) ?_
                  refine opG_yes rfl rfl rfl rfl rfl (r_load (v := .string (str r.n)) rfl Tryd.underlying9 rfl (Blk.cell B0_0 rfl)) ?_
                  refine opG_yes rfl rfl rfl rfl rfl (rt_eql rfl rfl) ?_
                  refine op rfl (r_pickTV (v := .bool _) rfl rfl) ?_
                  refine op rfl (r_assignV (v := .bool _) rfl) ?_
                  refine WL_nil ?_
                  refine W_ret (finX_ret ?_)
                  refine fin1 ?_
                  refine ⟨_, rfl, ?_, hX⟩
                  first
                    | exact bool_ff (fun h => absurd h.1 (by assumption))
                    | exact bool_ff (fun h => absurd (hsh.2 ⟨h.2.1, h.2.2.1⟩) (by assumption))
                    | exact bool_ff (fun h => (by assumption : ¬ ∀ s ∈ [r.o, r.n], s.length ≤ 100) (hsh.2 ⟨h.2.1, h.2.2.1⟩))
                    | exact bool_ff (fun h => by
                        have hk := h.2.2.2
                        unfold kindR at hk
                        rcases hk with k | k | k | k | k <;> first | omega | exact absurd k.2 (by assumption) | exact absurd k.2.1 (by assumption) | exact absurd k.2.2 (by assumption) | (simp_all; done))
                    | exact bool_iff (by
                        unfold ruR kindR
                        simp_all)
                · refine opG_no rfl rfl rfl rfl rfl ?_
                  refine opG_no rfl rfl rfl rfl rfl ?_
                  refine opG_no rfl rfl rfl rfl rfl ?_
                  refine op rfl (r_pickFV (v := .bool _) rfl rfl) ?_
                  refine op rfl (r_assignV (v := .bool _) rfl) ?_
                  refine WL_nil ?_
                  refine W_ret (finX_ret ?_)
                  refine fin1 ?_
                  refine ⟨_, rfl, ?_, hX⟩
                  first
                    | exact bool_ff (fun h => absurd h.1 (by assumption))
                    | exact bool_ff (fun h => absurd (hsh.2 ⟨h.2.1, h.2.2.1⟩) (by assumption))
                    | exact bool_ff (fun h => (by assumption : ¬ ∀ s ∈ [r.o, r.n], s.length ≤ 100) (hsh.2 ⟨h.2.1, h.2.2.1⟩))
                    | exact bool_ff (fun h => by
                        have hk := h.2.2.2
                        unfold kindR at hk
                        rcases hk with k | k | k | k | k <;> first | omega | exact absurd k.2 (by assumption) | exact absurd k.2.1 (by assumption) | exact absurd k.2.2 (by assumption) | (simp_all; done))
                    | exact bool_iff (by
                        unfold ruR kindR
                        simp_all)
              · refine opG_no rfl rfl rfl rfl rfl ?_
                refine opG_no rfl rfl rfl rfl rfl ?_
                refine opG_no rfl rfl rfl rfl rfl ?_
                refine op rfl (r_pickFV (v := .bool _) rfl rfl) ?_
                refine op rfl (r_moveV (v := .bool _) rfl) ?_
                refine opG_no rfl rfl rfl rfl rfl ?_
                refine opG_no rfl rfl rfl rfl rfl ?_
                refine opG_no rfl rfl rfl rfl rfl ?_
                refine op rfl (r_pickFV (v := .bool _) rfl rfl) ?_
                refine op rfl (r_assignV (v := .bool _) rfl) ?_
                refine WL_nil ?_
                refine W_ret (finX_ret ?_)
                refine fin1 ?_
                refine ⟨_, rfl, ?_, hX⟩
                first
                  | exact bool_ff (fun h => absurd h.1 (by assumption))
                  | exact bool_ff (fun h => absurd (hsh.2 ⟨h.2.1, h.2.2.1⟩) (by assumption))
                  | exact bool_ff (fun h => (by assumption : ¬ ∀ s ∈ [r.o, r.n], s.length ≤ 100) (hsh.2 ⟨h.2.1, h.2.2.1⟩))
                  | exact bool_ff (fun h => by
                      have hk := h.2.2.2
                      unfold kindR at hk
                      rcases hk with k | k | k | k | k <;> first | omega | exact absurd k.2 (by assumption) | exact absurd k.2.1 (by assumption) | exact absurd k.2.2 (by assumption) | (simp_all; done))
                  | exact bool_iff (by
                      unfold ruR kindR
                      simp_all)
end Go.Proofs.YtafcaigjijajnaaDoor
