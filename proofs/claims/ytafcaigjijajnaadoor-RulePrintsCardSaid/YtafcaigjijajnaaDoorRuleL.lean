/-
  The walks of the reference: which rules may be.
-/
import Derived.Test.YtafcaigjijajnaaDoorFacts
import Derived.Test.YtafcaigjijajnaaDoorRuleK
namespace Go.Proofs.YtafcaigjijajnaaDoor
open Go Go.Eng Go.RowKit Go.Proofs
set_option linter.unusedVariables false
set_option linter.unusedSimpArgs false
set_option maxHeartbeats 1000000
set_option maxRecDepth 20000

theorem refRight_spec (r : Ru) (w : World) (hg : r.g.length ≤ 1099511627776) (ho : r.o.length ≤ 1099511627776) (hn : r.n.length ≤ 1099511627776) :
    Calls Tryd.prog 25 #[.agg r.vals.toArray] w (fun en w' => ∃ v, en = .returned v ∧ v = .bool (decide (ruR r)) ∧ Ext w w') := by
  refine calls' (n := 69) (rs := #[.tmp 2]) (l := [.agg r.vals.toArray]) Tryd.func25 rfl rfl rfl rfl rfl ?_
  have hX := Ext.refl w
  refine W_seq ?_
  refine W_region ?_
  refine op_box (v := .agg _) rfl rfl ?_
  intro w0_0 b0_0 E0_0 B0_0 L0_0
  have hG0_0 : w.heap.size ≤ b0_0 := by have := hX.size; omega
  replace hX := hX.trans E0_0
  refine op rfl (r_assignV (v := .bool _) rfl) ?_
  refine WL_nil ?_
  refine W_seq ?_
  refine W_seq ?_
  refine W_region ?_
  refine op rfl (r_fieldAddr rfl Tryd.fld35_1 rfl) ?_
  refine op rfl (r_load (v := .string (str r.g)) rfl Tryd.underlying9 rfl (Blk.cell B0_0 rfl)) ?_
  refine opCv rfl (r_call Tryd.func47 Tryd.nm47 rfl) (refGlob_spec r.g _ hg) ?_
  rintro v1 w1 ⟨rfl, hE⟩
  replace B0_0 := Blk.ext B0_0 hE
  replace hX := hX.trans hE
  refine op rfl (r_notP rfl) ?_
  refine op_split rfl (r_moveV (v := .bool (decide _)) rfl) (fun hg7 => ?_) (fun hg7 => ?_)
  · refine opG_no rfl rfl rfl rfl rfl ?_
    refine opG_no rfl rfl rfl rfl rfl ?_
    refine opG_no rfl rfl rfl rfl rfl ?_
    refine opG_no rfl rfl rfl rfl rfl ?_
    refine op rfl (r_pickTV (v := .bool _) rfl rfl) ?_
    refine op rfl (r_moveV (v := .bool _) rfl) ?_
    refine opG_no rfl rfl rfl rfl rfl ?_
    refine opG_no rfl rfl rfl rfl rfl ?_
    refine opG_no rfl rfl rfl rfl rfl ?_
    refine opG_no rfl rfl rfl rfl rfl ?_
    refine op rfl (r_pickTV (v := .bool _) rfl rfl) ?_
    refine WL_nil ?_
    refine W_then rfl ?_
    refine W_seq ?_
    refine W_region ?_
    refine op rfl (r_assignV (v := .bool _) rfl) ?_
    refine WL_nil ?_
    refine W_ret (finX_ret ?_)
    refine fin1 ?_
    refine ⟨_, rfl, ?_, hX⟩
    first
      | exact bool_ff (fun h => by have h1 := h.1; have h2 := h.2.1; have h3 := h.2.2.1; first | omega | exact absurd h1 (by assumption))
      | exact bool_ff (fun h => by
          have hk := h.2.2.2
          unfold kindR at hk
          rcases hk with k | k | k | k | k <;> first | omega | exact absurd k.2 (by assumption) | exact absurd k.2.1 (by assumption) | exact absurd k.2.2 (by assumption) | (simp_all; done))
      | exact bool_iff (by
          have l1 : r.o.length ≤ 100 := by omega
          have l2 : r.n.length ≤ 100 := by omega
          unfold ruR kindR
          simp_all)
  · refine opG_yes rfl rfl rfl rfl rfl (r_fieldAddr rfl Tryd.fld35_2 rfl) ?_
    refine opG_yes rfl rfl rfl rfl rfl (r_load (v := .string (str r.o)) rfl Tryd.underlying9 rfl (Blk.cell B0_0 rfl)) ?_
    refine opG_yes rfl rfl rfl rfl rfl (rt_len rfl Tryd.underlying9) ?_
    refine opG_yes rfl rfl rfl rfl rfl (r_gtr rfl rfl) ?_
    refine op rfl (r_pickFV (v := .bool _) rfl rfl) ?_
    refine op_split rfl (r_moveV (v := .bool (decide _)) rfl) (fun hg13 => ?_) (fun hg13 => ?_)
    · refine opG_no rfl rfl rfl rfl rfl ?_
      refine opG_no rfl rfl rfl rfl rfl ?_
      refine opG_no rfl rfl rfl rfl rfl ?_
      refine opG_no rfl rfl rfl rfl rfl ?_
      refine op rfl (r_pickTV (v := .bool _) rfl rfl) ?_
      refine WL_nil ?_
      refine W_then rfl ?_
      refine W_seq ?_
      refine W_region ?_
      refine op rfl (r_assignV (v := .bool _) rfl) ?_
      refine WL_nil ?_
      refine W_ret (finX_ret ?_)
      refine fin1 ?_
      refine ⟨_, rfl, ?_, hX⟩
      first
        | exact bool_ff (fun h => by have h1 := h.1; have h2 := h.2.1; have h3 := h.2.2.1; first | omega | exact absurd h1 (by assumption))
        | exact bool_ff (fun h => by
            have hk := h.2.2.2
            unfold kindR at hk
            rcases hk with k | k | k | k | k <;> first | omega | exact absurd k.2 (by assumption) | exact absurd k.2.1 (by assumption) | exact absurd k.2.2 (by assumption) | (simp_all; done))
        | exact bool_iff (by
            have l1 : r.o.length ≤ 100 := by omega
            have l2 : r.n.length ≤ 100 := by omega
            unfold ruR kindR
            simp_all)
    · refine opG_yes rfl rfl rfl rfl rfl (r_fieldAddr rfl Tryd.fld35_3 rfl) ?_
      refine opG_yes rfl rfl rfl rfl rfl (r_load (v := .string (str r.n)) rfl Tryd.underlying9 rfl (Blk.cell B0_0 rfl)) ?_
      refine opG_yes rfl rfl rfl rfl rfl (rt_len rfl Tryd.underlying9) ?_
      refine opG_yes rfl rfl rfl rfl rfl (r_gtr rfl rfl) ?_
      refine op rfl (r_pickFV (v := .bool _) rfl rfl) ?_
      refine WL_nil ?_
      refine W_ifp rfl (fun ht18 => ?_) (fun ht18 => ?_)
      · refine W_seq ?_
        refine W_region ?_
        refine op rfl (r_assignV (v := .bool _) rfl) ?_
        refine WL_nil ?_
        refine W_ret (finX_ret ?_)
        refine fin1 ?_
        refine ⟨_, rfl, ?_, hX⟩
        first
          | exact bool_ff (fun h => by have h1 := h.1; have h2 := h.2.1; have h3 := h.2.2.1; first | omega | exact absurd h1 (by assumption))
          | exact bool_ff (fun h => by
              have hk := h.2.2.2
              unfold kindR at hk
              rcases hk with k | k | k | k | k <;> first | omega | exact absurd k.2 (by assumption) | exact absurd k.2.1 (by assumption) | exact absurd k.2.2 (by assumption) | (simp_all; done))
          | exact bool_iff (by
              have l1 : r.o.length ≤ 100 := by omega
              have l2 : r.n.length ≤ 100 := by omega
              unfold ruR kindR
              simp_all)
      · refine W_skip ?_
        refine W_seq ?_
        refine W_seq ?_
        refine W_region ?_
        refine op rfl (r_fieldAddr rfl Tryd.fld35_0 rfl) ?_
        refine op rfl (r_load (v := .int .i64 r.k) rfl Tryd.underlying3 rfl (Blk.cell B0_0 rfl)) ?_
        refine WL_nil ?_
        refine W_block ?_
        refine W_seq ?_
        refine W_region ?_
        refine op rfl (r_eql rfl rfl) ?_
        refine op rfl (r_assignV (v := .bool _) rfl) ?_
        refine WL_nil ?_
        refine W_ifp rfl (fun ht21 => ?_) (fun ht21 => ?_)
        · refine W_seq ?_
          refine W_region ?_
          refine op rfl (r_fieldAddr rfl Tryd.fld35_2 rfl) ?_
          refine op rfl (r_load (v := .string (str r.o)) rfl Tryd.underlying9 rfl (Blk.cell B0_0 rfl)) ?_
          refine opCv rfl (r_call Tryd.func20 Tryd.nm20 rfl) (refToken_spec r.o _ (by omega)) ?_
          rintro v5 w5 ⟨rfl, hE⟩
          replace B0_0 := Blk.ext B0_0 hE
          replace hX := hX.trans hE
          refine op rfl (r_assignV (v := .bool _) rfl) ?_
          refine WL_nil ?_
          refine W_ret (blk_ret (finX_ret ?_))
          refine fin1 ?_
          refine ⟨_, rfl, ?_, hX⟩
          first
            | exact bool_ff (fun h => by have h1 := h.1; have h2 := h.2.1; have h3 := h.2.2.1; first | omega | exact absurd h1 (by assumption))
            | exact bool_ff (fun h => by
                have hk := h.2.2.2
                unfold kindR at hk
                rcases hk with k | k | k | k | k <;> first | omega | exact absurd k.2 (by assumption) | exact absurd k.2.1 (by assumption) | exact absurd k.2.2 (by assumption) | (simp_all; done))
            | exact bool_iff (by
                have l1 : r.o.length ≤ 100 := by omega
                have l2 : r.n.length ≤ 100 := by omega
                unfold ruR kindR
                simp_all)
        · refine W_seq ?_
          refine W_region ?_
          refine op rfl (r_eql rfl rfl) ?_
          refine op rfl (r_assignV (v := .bool _) rfl) ?_
          refine WL_nil ?_
          refine W_ifp rfl (fun ht26 => ?_) (fun ht26 => ?_)
          · refine W_seq ?_
            refine W_region ?_
            refine op rfl (r_fieldAddr rfl Tryd.fld35_2 rfl) ?_
            refine op rfl (r_load (v := .string (str r.o)) rfl Tryd.underlying9 rfl (Blk.cell B0_0 rfl)) ?_
            refine opCv rfl (r_call Tryd.func48 Tryd.nm48 rfl) (feed_spec r.o _ ho) ?_
            rintro v7 w7 ⟨rfl, hE⟩
            replace B0_0 := Blk.ext B0_0 hE
            replace hX := hX.trans hE
            refine op rfl (r_notP rfl) ?_
            refine op_split rfl (r_moveV (v := .bool (decide _)) rfl) (fun hg32 => ?_) (fun hg32 => ?_)
            · refine opG_yes rfl rfl rfl rfl rfl (r_fieldAddr rfl Tryd.fld35_3 rfl) ?_
              refine opG_yes rfl rfl rfl rfl rfl (r_load (v := .string (str r.n)) rfl Tryd.underlying9 rfl (Blk.cell B0_0 rfl)) ?_
              refine opGCv_yes rfl rfl rfl rfl rfl (r_call Tryd.func48 Tryd.nm48 rfl) (feed_spec r.n _ hn) ?_
              rintro v7b w7b ⟨rfl, hE⟩
              replace B0_0 := Blk.ext B0_0 hE
              replace hX := hX.trans hE
              refine opG_yes rfl rfl rfl rfl rfl (r_notP rfl) ?_
              refine op rfl (r_pickTV (v := .bool _) rfl rfl) ?_
              refine op rfl (r_assignV (v := .bool _) rfl) ?_
              refine WL_nil ?_
              refine W_ret (blk_ret (finX_ret ?_))
              refine fin1 ?_
              refine ⟨_, rfl, ?_, hX⟩
              first
                | exact bool_ff (fun h => by have h1 := h.1; have h2 := h.2.1; have h3 := h.2.2.1; first | omega | exact absurd h1 (by assumption))
                | exact bool_ff (fun h => by
                    have hk := h.2.2.2
                    unfold kindR at hk
                    rcases hk with k | k | k | k | k <;> first | omega | exact absurd k.2 (by assumption) | exact absurd k.2.1 (by assumption) | exact absurd k.2.2 (by assumption) | (simp_all; done))
                | exact bool_iff (by
                    have l1 : r.o.length ≤ 100 := by omega
                    have l2 : r.n.length ≤ 100 := by omega
                    unfold ruR kindR
                    simp_all)
            · refine opG_no rfl rfl rfl rfl rfl ?_
              refine opG_no rfl rfl rfl rfl rfl ?_
              refine opG_no rfl rfl rfl rfl rfl ?_
              refine opG_no rfl rfl rfl rfl rfl ?_
              refine op rfl (r_pickFV (v := .bool _) rfl rfl) ?_
              refine op rfl (r_assignV (v := .bool _) rfl) ?_
              refine WL_nil ?_
              refine W_ret (blk_ret (finX_ret ?_))
              refine fin1 ?_
              refine ⟨_, rfl, ?_, hX⟩
              first
                | exact bool_ff (fun h => by have h1 := h.1; have h2 := h.2.1; have h3 := h.2.2.1; first | omega | exact absurd h1 (by assumption))
                | exact bool_ff (fun h => by
                    have hk := h.2.2.2
                    unfold kindR at hk
                    rcases hk with k | k | k | k | k <;> first | omega | exact absurd k.2 (by assumption) | exact absurd k.2.1 (by assumption) | exact absurd k.2.2 (by assumption) | (simp_all; done))
                | exact bool_iff (by
                    have l1 : r.o.length ≤ 100 := by omega
                    have l2 : r.n.length ≤ 100 := by omega
                    unfold ruR kindR
                    simp_all)
          · refine W_seq ?_
            refine W_region ?_
            refine op rfl (r_eql rfl rfl) ?_
            refine op rfl (r_assignV (v := .bool _) rfl) ?_
            refine WL_nil ?_
            refine W_ifp rfl (fun ht38 => ?_) (fun ht38 => ?_)
            · refine W_seq ?_
              refine W_region ?_
              refine op rfl (r_fieldAddr rfl Tryd.fld35_2 rfl) ?_
              refine op rfl (r_load (v := .string (str r.o)) rfl Tryd.underlying9 rfl (Blk.cell B0_0 rfl)) ?_
              refine opCv rfl (r_call Tryd.func48 Tryd.nm48 rfl) (feed_spec r.o _ ho) ?_
              rintro v9 w9 ⟨rfl, hE⟩
              replace B0_0 := Blk.ext B0_0 hE
              replace hX := hX.trans hE
              refine op rfl (r_notP rfl) ?_
              refine op_split rfl (r_moveV (v := .bool (decide _)) rfl) (fun hg44 => ?_) (fun hg44 => ?_)
              · refine opG_yes rfl rfl rfl rfl rfl (r_fieldAddr rfl Tryd.fld35_3 rfl) ?_
                refine opG_yes rfl rfl rfl rfl rfl (r_load (v := .string (str r.n)) rfl Tryd.underlying9 rfl (Blk.cell B0_0 rfl)) ?_
                refine opG_yes rfl rfl rfl rfl rfl (rt_eql rfl rfl) ?_
                refine op rfl (r_pickTV (v := .bool _) rfl rfl) ?_
                refine op rfl (r_assignV (v := .bool _) rfl) ?_
                refine WL_nil ?_
                refine W_ret (blk_ret (finX_ret ?_))
                refine fin1 ?_
                refine ⟨_, rfl, ?_, hX⟩
                first
                  | exact bool_ff (fun h => by have h1 := h.1; have h2 := h.2.1; have h3 := h.2.2.1; first | omega | exact absurd h1 (by assumption))
                  | exact bool_ff (fun h => by
                      have hk := h.2.2.2
                      unfold kindR at hk
                      rcases hk with k | k | k | k | k <;> first | omega | exact absurd k.2 (by assumption) | exact absurd k.2.1 (by assumption) | exact absurd k.2.2 (by assumption) | (simp_all; done))
                  | exact bool_iff (by
                      have l1 : r.o.length ≤ 100 := by omega
                      have l2 : r.n.length ≤ 100 := by omega
                      unfold ruR kindR
                      simp_all)
              · refine opG_no rfl rfl rfl rfl rfl ?_
                refine opG_no rfl rfl rfl rfl rfl ?_
                refine opG_no rfl rfl rfl rfl rfl ?_
                refine op rfl (r_pickFV (v := .bool _) rfl rfl) ?_
                refine op rfl (r_assignV (v := .bool _) rfl) ?_
                refine WL_nil ?_
                refine W_ret (blk_ret (finX_ret ?_))
                refine fin1 ?_
                refine ⟨_, rfl, ?_, hX⟩
                first
                  | exact bool_ff (fun h => by have h1 := h.1; have h2 := h.2.1; have h3 := h.2.2.1; first | omega | exact absurd h1 (by assumption))
                  | exact bool_ff (fun h => by
                      have hk := h.2.2.2
                      unfold kindR at hk
                      rcases hk with k | k | k | k | k <;> first | omega | exact absurd k.2 (by assumption) | exact absurd k.2.1 (by assumption) | exact absurd k.2.2 (by assumption) | (simp_all; done))
                  | exact bool_iff (by
                      have l1 : r.o.length ≤ 100 := by omega
                      have l2 : r.n.length ≤ 100 := by omega
                      unfold ruR kindR
                      simp_all)
            · refine W_seq ?_
              refine W_region ?_
              refine op rfl (r_eql rfl rfl) ?_
              refine op rfl (r_assignV (v := .bool _) rfl) ?_
              refine WL_nil ?_
              refine W_ifp rfl (fun ht49 => ?_) (fun ht49 => ?_)
              · refine W_seq ?_
                refine W_region ?_
                refine op rfl (r_fieldAddr rfl Tryd.fld35_2 rfl) ?_
                refine op rfl (r_load (v := .string (str r.o)) rfl Tryd.underlying9 rfl (Blk.cell B0_0 rfl)) ?_
                refine opCv rfl (r_call Tryd.func49 Tryd.nm49 rfl) (refPathRight_spec r.o _ ho) ?_
                rintro v11 w11 ⟨rfl, hE⟩
                replace B0_0 := Blk.ext B0_0 hE
                replace hX := hX.trans hE
                refine op_split rfl (r_moveV (v := .bool (decide _)) rfl) (fun hg54 => ?_) (fun hg54 => ?_)
                · refine opG_yes rfl rfl rfl rfl rfl (r_fieldAddr rfl Tryd.fld35_3 rfl) ?_
                  refine opG_yes rfl rfl rfl rfl rfl (r_load (v := .string (str r.n)) rfl Tryd.underlying9 rfl (Blk.cell B0_0 rfl)) ?_
                  refine opGCv_yes rfl rfl rfl rfl rfl (r_call Tryd.func49 Tryd.nm49 rfl) (refPathRight_spec r.n _ hn) ?_
                  rintro v11b w11b ⟨rfl, hE⟩
                  replace B0_0 := Blk.ext B0_0 hE
                  replace hX := hX.trans hE
                  refine op rfl (r_pickTV (v := .bool _) rfl rfl) ?_
                  refine op rfl (r_assignV (v := .bool _) rfl) ?_
                  refine WL_nil ?_
                  refine W_ret (blk_ret (finX_ret ?_))
                  refine fin1 ?_
                  refine ⟨_, rfl, ?_, hX⟩
                  first
                    | exact bool_ff (fun h => by have h1 := h.1; have h2 := h.2.1; have h3 := h.2.2.1; first | omega | exact absurd h1 (by assumption))
                    | exact bool_ff (fun h => by
                        have hk := h.2.2.2
                        unfold kindR at hk
                        rcases hk with k | k | k | k | k <;> first | omega | exact absurd k.2 (by assumption) | exact absurd k.2.1 (by assumption) | exact absurd k.2.2 (by assumption) | (simp_all; done))
                    | exact bool_iff (by
                        have l1 : r.o.length ≤ 100 := by omega
                        have l2 : r.n.length ≤ 100 := by omega
                        unfold ruR kindR
                        simp_all)
                · refine opG_no rfl rfl rfl rfl rfl ?_
                  refine opG_no rfl rfl rfl rfl rfl ?_
                  refine opG_no rfl rfl rfl rfl rfl ?_
                  refine op rfl (r_pickFV (v := .bool _) rfl rfl) ?_
                  refine op rfl (r_assignV (v := .bool _) rfl) ?_
                  refine WL_nil ?_
                  refine W_ret (blk_ret (finX_ret ?_))
                  refine fin1 ?_
                  refine ⟨_, rfl, ?_, hX⟩
                  first
                    | exact bool_ff (fun h => by have h1 := h.1; have h2 := h.2.1; have h3 := h.2.2.1; first | omega | exact absurd h1 (by assumption))
                    | exact bool_ff (fun h => by
                        have hk := h.2.2.2
                        unfold kindR at hk
                        rcases hk with k | k | k | k | k <;> first | omega | exact absurd k.2 (by assumption) | exact absurd k.2.1 (by assumption) | exact absurd k.2.2 (by assumption) | (simp_all; done))
                    | exact bool_iff (by
                        have l1 : r.o.length ≤ 100 := by omega
                        have l2 : r.n.length ≤ 100 := by omega
                        unfold ruR kindR
                        simp_all)
              · refine W_seq ?_
                refine W_region ?_
                refine op rfl (r_eql rfl rfl) ?_
                refine op rfl (r_assignV (v := .bool _) rfl) ?_
                refine WL_nil ?_
                refine W_ifp rfl (fun ht59 => ?_) (fun ht59 => ?_)
                · refine W_seq ?_
                  refine W_region ?_
                  refine op rfl (r_fieldAddr rfl Tryd.fld35_2 rfl) ?_
                  refine op rfl (r_load (v := .string (str r.o)) rfl Tryd.underlying9 rfl (Blk.cell B0_0 rfl)) ?_
                  refine op rfl (rt_eql rfl rfl) ?_
                  refine op_split rfl (r_moveV (v := .bool (decide _)) rfl) (fun hg64 => ?_) (fun hg64 => ?_)
                  · refine opG_yes rfl rfl rfl rfl rfl (r_fieldAddr rfl Tryd.fld35_3 rfl) ?_
                    refine opG_yes rfl rfl rfl rfl rfl (r_load (v := .string (str r.n)) rfl Tryd.underlying9 rfl (Blk.cell B0_0 rfl)) ?_
                    refine opG_yes rfl rfl rfl rfl rfl (rt_eql rfl rfl) ?_
                    refine op rfl (r_pickTV (v := .bool _) rfl rfl) ?_
                    refine op rfl (r_assignV (v := .bool _) rfl) ?_
                    refine WL_nil ?_
                    refine W_ret (blk_ret (finX_ret ?_))
                    refine fin1 ?_
                    refine ⟨_, rfl, ?_, hX⟩
                    first
                      | exact bool_ff (fun h => by have h1 := h.1; have h2 := h.2.1; have h3 := h.2.2.1; first | omega | exact absurd h1 (by assumption))
                      | exact bool_ff (fun h => by
                          have hk := h.2.2.2
                          unfold kindR at hk
                          rcases hk with k | k | k | k | k <;> first | omega | exact absurd k.2 (by assumption) | exact absurd k.2.1 (by assumption) | exact absurd k.2.2 (by assumption) | (simp_all; done))
                      | exact bool_iff (by
                          have l1 : r.o.length ≤ 100 := by omega
                          have l2 : r.n.length ≤ 100 := by omega
                          unfold ruR kindR
                          simp_all)
                  · refine opG_no rfl rfl rfl rfl rfl ?_
                    refine opG_no rfl rfl rfl rfl rfl ?_
                    refine opG_no rfl rfl rfl rfl rfl ?_
                    refine op rfl (r_pickFV (v := .bool _) rfl rfl) ?_
                    refine op rfl (r_assignV (v := .bool _) rfl) ?_
                    refine WL_nil ?_
                    refine W_ret (blk_ret (finX_ret ?_))
                    refine fin1 ?_
                    refine ⟨_, rfl, ?_, hX⟩
                    first
                      | exact bool_ff (fun h => by have h1 := h.1; have h2 := h.2.1; have h3 := h.2.2.1; first | omega | exact absurd h1 (by assumption))
                      | exact bool_ff (fun h => by
                          have hk := h.2.2.2
                          unfold kindR at hk
                          rcases hk with k | k | k | k | k <;> first | omega | exact absurd k.2 (by assumption) | exact absurd k.2.1 (by assumption) | exact absurd k.2.2 (by assumption) | (simp_all; done))
                      | exact bool_iff (by
                          have l1 : r.o.length ≤ 100 := by omega
                          have l2 : r.n.length ≤ 100 := by omega
                          unfold ruR kindR
                          simp_all)
                · refine W_skip ?_
                  refine W_seq ?_
                  refine W_region ?_
                  refine op rfl (r_assignV (v := .bool _) rfl) ?_
                  refine WL_nil ?_
                  refine W_ret (finX_ret ?_)
                  refine fin1 ?_
                  refine ⟨_, rfl, ?_, hX⟩
                  first
                    | exact bool_ff (fun h => by have h1 := h.1; have h2 := h.2.1; have h3 := h.2.2.1; first | omega | exact absurd h1 (by assumption))
                    | exact bool_ff (fun h => by
                        have hk := h.2.2.2
                        unfold kindR at hk
                        rcases hk with k | k | k | k | k <;> first | omega | exact absurd k.2 (by assumption) | exact absurd k.2.1 (by assumption) | exact absurd k.2.2 (by assumption) | (simp_all; done))
                    | exact bool_iff (by
                        have l1 : r.o.length ≤ 100 := by omega
                        have l2 : r.n.length ≤ 100 := by omega
                        unfold ruR kindR
                        simp_all)
end Go.Proofs.YtafcaigjijajnaaDoor
