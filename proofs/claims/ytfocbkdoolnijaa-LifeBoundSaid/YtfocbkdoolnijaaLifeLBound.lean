/-
  With more retries, a longer review, or longer pauses, the bound is no less: the walk.
-/
import Derived.Test.YtfocbkdoolnijaaFacts
import Derived.Test.YtfocbkdoolnijaaLifeK
namespace Go.Proofs.Ytfocbkdoolnijaa
open Go Go.Eng Go.RowKit Go.Proofs
set_option linter.unusedVariables false
set_option maxRecDepth 20000

def Lim.max (a b : Lim) : Lim := ⟨Max.max a.retries b.retries, Max.max a.review b.review, Max.max a.backoff b.backoff⟩
theorem max_may {a b : Lim} (ha : a.May) (hb : b.May) : (a.max b).May := by
  unfold Lim.May at *; simp only [Lim.max]; omega
theorem bound_le {a c : Lim} (ha : a.May) (hc : c.May) (h1 : a.retries ≤ c.retries) (h2 : a.review ≤ c.review) (h3 : a.backoff ≤ c.backoff) : a.bound ≤ c.bound := by
  unfold Lim.bound
  rw [if_pos ha, if_pos hc]
  unfold Lim.May at *
  exact Int.mul_le_mul (by omega) (by omega) (by omega) (by omega)
theorem bound_review {a : Lim} (ha : a.May) : a.review ≤ a.bound := by
  unfold Lim.bound
  rw [if_pos ha]
  unfold Lim.May at ha
  have := Int.mul_le_mul (a := 1) (b := a.review + a.backoff) (c := a.retries + 1) (d := a.review + a.backoff) (by omega) (by omega) (by omega) (by omega)
  omega
theorem bound_no {a : Lim} (ha : ¬ a.May) : a.bound = 0 := by unfold Lim.bound; rw [if_neg ha]
theorem lifeBound_walk (W : World) (a : Lim) (ha : ∀ i ∈ [a.retries, a.review, a.backoff], inK .i64 i) (b : Lim) (hb : ∀ i ∈ [b.retries, b.review, b.backoff], inK .i64 i) :
    Calls Try.prog 8 #[a.val, b.val] W (fun e W' => ∃ v, e = .returned v ∧ v = .bool true ∧ Ext W W') := by
  clear ha hb
  refine calls' (n := 79) (rs := #[.tmp 4]) (l := [a.val, b.val]) Try.func8 rfl rfl rfl rfl rfl ?_
  have hX := Ext.refl W
  refine W_seq ?_
  refine W_region ?_
  refine op_box (v := .agg _) rfl rfl ?_
  intro w0_0 b0_0 E0_0 B0_0 L0_0
  have hG0_0 : W.heap.size ≤ b0_0 := by have := hX.size; omega
  replace hX := hX.trans E0_0
  refine op_box (v := .agg _) rfl rfl ?_
  intro w0_1 b0_1 E0_1 B0_1 L0_1
  have hG0_1 : W.heap.size ≤ b0_1 := by have := hX.size; omega
  have hNb0_0_0_1 : b0_0 ≠ b0_1 := by have := Blk.lt B0_0; omega
  replace B0_0 := Blk.ext B0_0 E0_1
  replace hX := hX.trans E0_1
  refine op rfl (r_assignV (v := .bool _) rfl) ?_
  refine WL_nil ?_
  refine W_seq ?_
  refine W_seq ?_
  refine W_region ?_
  refine op rfl (r_loadRow rfl B0_0 Try.underlying24 rfl Try.sz24) ?_
  refine opCv rfl (r_call Try.func15 Try.nm15 rfl) (may_spec a _) ?_
  rintro v w2 ⟨rfl, hE⟩
  replace B0_0 := Blk.ext B0_0 hE
  replace B0_1 := Blk.ext B0_1 hE
  replace hX := hX.trans hE
  refine op rfl (r_notP rfl) ?_
  refine op_split rfl (r_moveV (v := .bool (decide _)) rfl) (fun hg9 => ?_) (fun hg9 => ?_)
  · refine opG_no rfl rfl rfl rfl rfl ?_
    refine opG_no rfl rfl rfl rfl rfl ?_
    refine opG_no rfl rfl rfl rfl rfl ?_
    refine op rfl (r_pickTV (v := .bool _) rfl rfl) ?_
    refine WL_nil ?_
    refine W_then rfl ?_
    refine W_seq ?_
    refine W_region ?_
    refine op rfl (r_loadRow rfl B0_0 Try.underlying24 rfl Try.sz24) ?_
    refine opCv rfl (r_call Try.func15 Try.nm15 rfl) (may_spec a _) ?_
    rintro v w4 ⟨rfl, hE⟩
    replace B0_0 := Blk.ext B0_0 hE
    replace B0_1 := Blk.ext B0_1 hE
    replace hX := hX.trans hE
    refine op_split rfl (r_moveV (v := .bool (decide _)) rfl) (fun hg16 => ?_) (fun hg16 => ?_)
    · refine opG_no rfl rfl rfl rfl rfl ?_
      refine opG_no rfl rfl rfl rfl rfl ?_
      refine opG_no rfl rfl rfl rfl rfl ?_
      refine op rfl (r_pickTV (v := .bool _) rfl rfl) ?_
      refine op rfl (r_moveV (v := .bool _) rfl) ?_
      refine opG_yes rfl rfl rfl rfl rfl (r_loadRow rfl B0_1 Try.underlying24 rfl Try.sz24) ?_
      refine opGCv_yes rfl rfl rfl rfl rfl (r_call Try.func15 Try.nm15 rfl) (may_spec b _) ?_
      rintro v w6 ⟨rfl, hE⟩
      replace B0_0 := Blk.ext B0_0 hE
      replace B0_1 := Blk.ext B0_1 hE
      replace hX := hX.trans hE
      refine opG_split rfl rfl rfl rfl rfl (r_moveV (v := .bool (decide _)) rfl) (fun hg24 => ?_) (fun hg24 => ?_)
      · refine opG_no rfl rfl rfl rfl rfl ?_
        refine opG_no rfl rfl rfl rfl rfl ?_
        refine opG_no rfl rfl rfl rfl rfl ?_
        refine opG_yes rfl rfl rfl rfl rfl (r_pickTV (v := .bool _) rfl rfl) ?_
        refine op rfl (r_pickTV (v := .bool _) rfl rfl) ?_
        refine op rfl (r_moveV (v := .bool _) rfl) ?_
        refine opGCv_yes rfl rfl rfl rfl rfl (r_call Try.func10 Try.nm10 rfl) (known_spec _) ?_
        rintro v w8 ⟨rfl, hE⟩
        replace B0_0 := Blk.ext B0_0 hE
        replace B0_1 := Blk.ext B0_1 hE
        replace hX := hX.trans hE
        refine op rfl (r_pickTV (v := .bool _) rfl rfl) ?_
        refine op rfl (r_assignV (v := .bool _) rfl) ?_
        refine WL_nil ?_
        refine W_ret (finX_ret ?_)
        refine fin1 ?_
        exact ⟨_, rfl, rfl, hX⟩
      · refine opG_yes rfl rfl rfl rfl rfl (r_loadRow rfl B0_1 Try.underlying24 rfl Try.sz24) ?_
        refine opGCv_yes rfl rfl rfl rfl rfl (r_call Try.func14 Try.nm14 rfl) (bound_spec b _) ?_
        rintro v w7 ⟨rfl, hE⟩
        replace B0_0 := Blk.ext B0_0 hE
        replace B0_1 := Blk.ext B0_1 hE
        replace hX := hX.trans hE
        refine opG_yes rfl rfl rfl rfl rfl (r_eql (m := b.bound) (n := 0) rfl rfl) ?_
        refine opG_yes rfl rfl rfl rfl rfl (r_pickFV (v := .bool _) rfl rfl) ?_
        refine op rfl (r_pickTV (v := .bool _) rfl rfl) ?_
        refine op_true rfl (r_moveV (v := .bool (decide _)) rfl) (bound_no hg24) ?_
        refine opGCv_yes rfl rfl rfl rfl rfl (r_call Try.func10 Try.nm10 rfl) (known_spec _) ?_
        rintro v w8 ⟨rfl, hE⟩
        replace B0_0 := Blk.ext B0_0 hE
        replace B0_1 := Blk.ext B0_1 hE
        replace hX := hX.trans hE
        refine op rfl (r_pickTV (v := .bool _) rfl rfl) ?_
        refine op rfl (r_assignV (v := .bool _) rfl) ?_
        refine WL_nil ?_
        refine W_ret (finX_ret ?_)
        refine fin1 ?_
        exact ⟨_, rfl, rfl, hX⟩
    · refine opG_yes rfl rfl rfl rfl rfl (r_loadRow rfl B0_0 Try.underlying24 rfl Try.sz24) ?_
      refine opGCv_yes rfl rfl rfl rfl rfl (r_call Try.func14 Try.nm14 rfl) (bound_spec a _) ?_
      rintro v w5 ⟨rfl, hE⟩
      replace B0_0 := Blk.ext B0_0 hE
      replace B0_1 := Blk.ext B0_1 hE
      replace hX := hX.trans hE
      refine opG_yes rfl rfl rfl rfl rfl (r_eql (m := a.bound) (n := 0) rfl rfl) ?_
      refine op rfl (r_pickFV (v := .bool _) rfl rfl) ?_
      refine op_true rfl (r_moveV (v := .bool (decide _)) rfl) (bound_no hg16) ?_
      refine opG_yes rfl rfl rfl rfl rfl (r_loadRow rfl B0_1 Try.underlying24 rfl Try.sz24) ?_
      refine opGCv_yes rfl rfl rfl rfl rfl (r_call Try.func15 Try.nm15 rfl) (may_spec b _) ?_
      rintro v w6 ⟨rfl, hE⟩
      replace B0_0 := Blk.ext B0_0 hE
      replace B0_1 := Blk.ext B0_1 hE
      replace hX := hX.trans hE
      refine opG_split rfl rfl rfl rfl rfl (r_moveV (v := .bool (decide _)) rfl) (fun hg24 => ?_) (fun hg24 => ?_)
      · refine opG_no rfl rfl rfl rfl rfl ?_
        refine opG_no rfl rfl rfl rfl rfl ?_
        refine opG_no rfl rfl rfl rfl rfl ?_
        refine opG_yes rfl rfl rfl rfl rfl (r_pickTV (v := .bool _) rfl rfl) ?_
        refine op rfl (r_pickTV (v := .bool _) rfl rfl) ?_
        refine op rfl (r_moveV (v := .bool _) rfl) ?_
        refine opGCv_yes rfl rfl rfl rfl rfl (r_call Try.func10 Try.nm10 rfl) (known_spec _) ?_
        rintro v w8 ⟨rfl, hE⟩
        replace B0_0 := Blk.ext B0_0 hE
        replace B0_1 := Blk.ext B0_1 hE
        replace hX := hX.trans hE
        refine op rfl (r_pickTV (v := .bool _) rfl rfl) ?_
        refine op rfl (r_assignV (v := .bool _) rfl) ?_
        refine WL_nil ?_
        refine W_ret (finX_ret ?_)
        refine fin1 ?_
        exact ⟨_, rfl, rfl, hX⟩
      · refine opG_yes rfl rfl rfl rfl rfl (r_loadRow rfl B0_1 Try.underlying24 rfl Try.sz24) ?_
        refine opGCv_yes rfl rfl rfl rfl rfl (r_call Try.func14 Try.nm14 rfl) (bound_spec b _) ?_
        rintro v w7 ⟨rfl, hE⟩
        replace B0_0 := Blk.ext B0_0 hE
        replace B0_1 := Blk.ext B0_1 hE
        replace hX := hX.trans hE
        refine opG_yes rfl rfl rfl rfl rfl (r_eql (m := b.bound) (n := 0) rfl rfl) ?_
        refine opG_yes rfl rfl rfl rfl rfl (r_pickFV (v := .bool _) rfl rfl) ?_
        refine op rfl (r_pickTV (v := .bool _) rfl rfl) ?_
        refine op_true rfl (r_moveV (v := .bool (decide _)) rfl) (bound_no hg24) ?_
        refine opGCv_yes rfl rfl rfl rfl rfl (r_call Try.func10 Try.nm10 rfl) (known_spec _) ?_
        rintro v w8 ⟨rfl, hE⟩
        replace B0_0 := Blk.ext B0_0 hE
        replace B0_1 := Blk.ext B0_1 hE
        replace hX := hX.trans hE
        refine op rfl (r_pickTV (v := .bool _) rfl rfl) ?_
        refine op rfl (r_assignV (v := .bool _) rfl) ?_
        refine WL_nil ?_
        refine W_ret (finX_ret ?_)
        refine fin1 ?_
        exact ⟨_, rfl, rfl, hX⟩
  · refine opG_yes rfl rfl rfl rfl rfl (r_loadRow rfl B0_1 Try.underlying24 rfl Try.sz24) ?_
    refine opGCv_yes rfl rfl rfl rfl rfl (r_call Try.func15 Try.nm15 rfl) (may_spec b _) ?_
    rintro v w3 ⟨rfl, hE⟩
    replace B0_0 := Blk.ext B0_0 hE
    replace B0_1 := Blk.ext B0_1 hE
    replace hX := hX.trans hE
    refine opG_yes rfl rfl rfl rfl rfl (r_notP rfl) ?_
    refine op rfl (r_pickFV (v := .bool _) rfl rfl) ?_
    refine WL_nil ?_
    refine W_ifp rfl (fun ht13 => ?_) (fun ht13 => ?_)
    · refine W_seq ?_
      refine W_region ?_
      refine op rfl (r_loadRow rfl B0_0 Try.underlying24 rfl Try.sz24) ?_
      refine opCv rfl (r_call Try.func15 Try.nm15 rfl) (may_spec a _) ?_
      rintro v w4 ⟨rfl, hE⟩
      replace B0_0 := Blk.ext B0_0 hE
      replace B0_1 := Blk.ext B0_1 hE
      replace hX := hX.trans hE
      refine op_split rfl (r_moveV (v := .bool (decide _)) rfl) (fun hg16 => ?_) (fun hg16 => ?_)
      · refine opG_no rfl rfl rfl rfl rfl ?_
        refine opG_no rfl rfl rfl rfl rfl ?_
        refine opG_no rfl rfl rfl rfl rfl ?_
        refine op rfl (r_pickTV (v := .bool _) rfl rfl) ?_
        refine op rfl (r_moveV (v := .bool _) rfl) ?_
        refine opG_yes rfl rfl rfl rfl rfl (r_loadRow rfl B0_1 Try.underlying24 rfl Try.sz24) ?_
        refine opGCv_yes rfl rfl rfl rfl rfl (r_call Try.func15 Try.nm15 rfl) (may_spec b _) ?_
        rintro v w6 ⟨rfl, hE⟩
        replace B0_0 := Blk.ext B0_0 hE
        replace B0_1 := Blk.ext B0_1 hE
        replace hX := hX.trans hE
        refine opG_split rfl rfl rfl rfl rfl (r_moveV (v := .bool (decide _)) rfl) (fun hg24 => ?_) (fun hg24 => ?_)
        · refine opG_no rfl rfl rfl rfl rfl ?_
          refine opG_no rfl rfl rfl rfl rfl ?_
          refine opG_no rfl rfl rfl rfl rfl ?_
          refine opG_yes rfl rfl rfl rfl rfl (r_pickTV (v := .bool _) rfl rfl) ?_
          refine op rfl (r_pickTV (v := .bool _) rfl rfl) ?_
          refine op rfl (r_moveV (v := .bool _) rfl) ?_
          refine opGCv_yes rfl rfl rfl rfl rfl (r_call Try.func10 Try.nm10 rfl) (known_spec _) ?_
          rintro v w8 ⟨rfl, hE⟩
          replace B0_0 := Blk.ext B0_0 hE
          replace B0_1 := Blk.ext B0_1 hE
          replace hX := hX.trans hE
          refine op rfl (r_pickTV (v := .bool _) rfl rfl) ?_
          refine op rfl (r_assignV (v := .bool _) rfl) ?_
          refine WL_nil ?_
          refine W_ret (finX_ret ?_)
          refine fin1 ?_
          exact ⟨_, rfl, rfl, hX⟩
        · refine opG_yes rfl rfl rfl rfl rfl (r_loadRow rfl B0_1 Try.underlying24 rfl Try.sz24) ?_
          refine opGCv_yes rfl rfl rfl rfl rfl (r_call Try.func14 Try.nm14 rfl) (bound_spec b _) ?_
          rintro v w7 ⟨rfl, hE⟩
          replace B0_0 := Blk.ext B0_0 hE
          replace B0_1 := Blk.ext B0_1 hE
          replace hX := hX.trans hE
          refine opG_yes rfl rfl rfl rfl rfl (r_eql (m := b.bound) (n := 0) rfl rfl) ?_
          refine opG_yes rfl rfl rfl rfl rfl (r_pickFV (v := .bool _) rfl rfl) ?_
          refine op rfl (r_pickTV (v := .bool _) rfl rfl) ?_
          refine op_true rfl (r_moveV (v := .bool (decide _)) rfl) (bound_no hg24) ?_
          refine opGCv_yes rfl rfl rfl rfl rfl (r_call Try.func10 Try.nm10 rfl) (known_spec _) ?_
          rintro v w8 ⟨rfl, hE⟩
          replace B0_0 := Blk.ext B0_0 hE
          replace B0_1 := Blk.ext B0_1 hE
          replace hX := hX.trans hE
          refine op rfl (r_pickTV (v := .bool _) rfl rfl) ?_
          refine op rfl (r_assignV (v := .bool _) rfl) ?_
          refine WL_nil ?_
          refine W_ret (finX_ret ?_)
          refine fin1 ?_
          exact ⟨_, rfl, rfl, hX⟩
      · refine opG_yes rfl rfl rfl rfl rfl (r_loadRow rfl B0_0 Try.underlying24 rfl Try.sz24) ?_
        refine opGCv_yes rfl rfl rfl rfl rfl (r_call Try.func14 Try.nm14 rfl) (bound_spec a _) ?_
        rintro v w5 ⟨rfl, hE⟩
        replace B0_0 := Blk.ext B0_0 hE
        replace B0_1 := Blk.ext B0_1 hE
        replace hX := hX.trans hE
        refine opG_yes rfl rfl rfl rfl rfl (r_eql (m := a.bound) (n := 0) rfl rfl) ?_
        refine op rfl (r_pickFV (v := .bool _) rfl rfl) ?_
        refine op_true rfl (r_moveV (v := .bool (decide _)) rfl) (bound_no hg16) ?_
        refine opG_yes rfl rfl rfl rfl rfl (r_loadRow rfl B0_1 Try.underlying24 rfl Try.sz24) ?_
        refine opGCv_yes rfl rfl rfl rfl rfl (r_call Try.func15 Try.nm15 rfl) (may_spec b _) ?_
        rintro v w6 ⟨rfl, hE⟩
        replace B0_0 := Blk.ext B0_0 hE
        replace B0_1 := Blk.ext B0_1 hE
        replace hX := hX.trans hE
        refine opG_split rfl rfl rfl rfl rfl (r_moveV (v := .bool (decide _)) rfl) (fun hg24 => ?_) (fun hg24 => ?_)
        · refine opG_no rfl rfl rfl rfl rfl ?_
          refine opG_no rfl rfl rfl rfl rfl ?_
          refine opG_no rfl rfl rfl rfl rfl ?_
          refine opG_yes rfl rfl rfl rfl rfl (r_pickTV (v := .bool _) rfl rfl) ?_
          refine op rfl (r_pickTV (v := .bool _) rfl rfl) ?_
          refine op rfl (r_moveV (v := .bool _) rfl) ?_
          refine opGCv_yes rfl rfl rfl rfl rfl (r_call Try.func10 Try.nm10 rfl) (known_spec _) ?_
          rintro v w8 ⟨rfl, hE⟩
          replace B0_0 := Blk.ext B0_0 hE
          replace B0_1 := Blk.ext B0_1 hE
          replace hX := hX.trans hE
          refine op rfl (r_pickTV (v := .bool _) rfl rfl) ?_
          refine op rfl (r_assignV (v := .bool _) rfl) ?_
          refine WL_nil ?_
          refine W_ret (finX_ret ?_)
          refine fin1 ?_
          exact ⟨_, rfl, rfl, hX⟩
        · refine opG_yes rfl rfl rfl rfl rfl (r_loadRow rfl B0_1 Try.underlying24 rfl Try.sz24) ?_
          refine opGCv_yes rfl rfl rfl rfl rfl (r_call Try.func14 Try.nm14 rfl) (bound_spec b _) ?_
          rintro v w7 ⟨rfl, hE⟩
          replace B0_0 := Blk.ext B0_0 hE
          replace B0_1 := Blk.ext B0_1 hE
          replace hX := hX.trans hE
          refine opG_yes rfl rfl rfl rfl rfl (r_eql (m := b.bound) (n := 0) rfl rfl) ?_
          refine opG_yes rfl rfl rfl rfl rfl (r_pickFV (v := .bool _) rfl rfl) ?_
          refine op rfl (r_pickTV (v := .bool _) rfl rfl) ?_
          refine op_true rfl (r_moveV (v := .bool (decide _)) rfl) (bound_no hg24) ?_
          refine opGCv_yes rfl rfl rfl rfl rfl (r_call Try.func10 Try.nm10 rfl) (known_spec _) ?_
          rintro v w8 ⟨rfl, hE⟩
          replace B0_0 := Blk.ext B0_0 hE
          replace B0_1 := Blk.ext B0_1 hE
          replace hX := hX.trans hE
          refine op rfl (r_pickTV (v := .bool _) rfl rfl) ?_
          refine op rfl (r_assignV (v := .bool _) rfl) ?_
          refine WL_nil ?_
          refine W_ret (finX_ret ?_)
          refine fin1 ?_
          exact ⟨_, rfl, rfl, hX⟩
    · have ha : a.May := Classical.byContradiction hg9
      have hb : b.May := Classical.byContradiction ht13
      have hc := max_may ha hb
      have la : a.bound ≤ (a.max b).bound := bound_le ha hc (Int.le_max_left _ _) (Int.le_max_left _ _) (Int.le_max_left _ _)
      have lb : b.bound ≤ (a.max b).bound := bound_le hb hc (Int.le_max_right _ _) (Int.le_max_right _ _) (Int.le_max_right _ _)
      have lr := bound_review ha
      refine W_skip ?_
      refine W_seq ?_
      refine W_region ?_
      refine op rfl (r_fieldAddr rfl Try.fld24_0 rfl) ?_
      refine op rfl (r_load (v := .int _ _) rfl Try.underlying3 rfl (Blk.cell B0_0 rfl)) ?_
      refine op rfl (r_fieldAddr rfl Try.fld24_0 rfl) ?_
      refine op rfl (r_load (v := .int _ _) rfl Try.underlying3 rfl (Blk.cell B0_1 rfl)) ?_
      refine op rfl (r_max2 rfl rfl) ?_
      refine op rfl (r_fieldAddr rfl Try.fld24_1 rfl) ?_
      refine op rfl (r_load (v := .int _ _) rfl Try.underlying3 rfl (Blk.cell B0_0 rfl)) ?_
      refine op rfl (r_fieldAddr rfl Try.fld24_1 rfl) ?_
      refine op rfl (r_load (v := .int _ _) rfl Try.underlying3 rfl (Blk.cell B0_1 rfl)) ?_
      refine op rfl (r_max2 rfl rfl) ?_
      refine op rfl (r_fieldAddr rfl Try.fld24_2 rfl) ?_
      refine op rfl (r_load (v := .int _ _) rfl Try.underlying3 rfl (Blk.cell B0_0 rfl)) ?_
      refine op rfl (r_fieldAddr rfl Try.fld24_2 rfl) ?_
      refine op rfl (r_load (v := .int _ _) rfl Try.underlying3 rfl (Blk.cell B0_1 rfl)) ?_
      refine op rfl (r_max2 rfl rfl) ?_
      refine op rfl (r_build (cs := [.int _ _, .int _ _, .int _ _]) Try.lay24 (List.forall_mem_cons.2 ⟨rfl, List.forall_mem_cons.2 ⟨rfl, List.forall_mem_cons.2 ⟨rfl, fun _ h => by cases h⟩⟩⟩) rfl rfl) ?_
      refine op_alloc rfl Try.zero24 ?_
      intro w3_16 b3_16 E3_16 B3_16 L3_16
      have hG3_16 : W.heap.size ≤ b3_16 := by have := hX.size; omega
      have hNb0_0_3_16 : b0_0 ≠ b3_16 := by have := Blk.lt B0_0; omega
      replace B0_0 := Blk.ext B0_0 E3_16
      have hNb0_1_3_16 : b0_1 ≠ b3_16 := by have := Blk.lt B0_1; omega
      replace B0_1 := Blk.ext B0_1 E3_16
      replace hX := hX.trans E3_16
      refine op_storeRow rfl rfl Try.sz24 B3_16 rfl rfl ?_
      intro w3_17 C3_17 BB3_17
      replace B0_0 := Chg.blk C3_17 B0_0 hNb0_0_3_16
      replace B0_1 := Chg.blk C3_17 B0_1 hNb0_1_3_16
      replace hX := hX.chg C3_17 hG3_16
      replace B3_16 := BB3_17
      refine WL_nil ?_
      refine W_seq ?_
      refine W_drawF (W0 := W) (fun b : Nat => b = b0_0 ∨ b = b0_1 ∨ b = b3_16 ∨ False) Try.wd rfl ?_
      intro wd4 hD
      replace B0_0 := Blk.ext B0_0 hD
      replace B0_1 := Blk.ext B0_1 hD
      replace B3_16 := Blk.ext B3_16 hD
      replace hX := hX.trans hD
      have DB0_0 := B0_0
      have DB0_1 := B0_1
      have DB3_16 := B3_16
      have hS : Ext W wd4 ∧ Same (fun b : Nat => b = b0_0 ∨ b = b0_1 ∨ b = b3_16 ∨ False) wd4 wd4 := ⟨hX, fun _ _ => rfl⟩
      refine A_take (i := 0) rfl (by kernel_rfl) (by kernel_rfl) (by kernel_rfl) rfl hS (fun _ hw => r_loadRow rfl (Blk.at DB3_16 (hw.2 _ (Or.inr (Or.inr (Or.inl rfl))))) Try.underlying24 rfl Try.sz24) ?_
      refine A_ready1 (i := 1) (by kernel_rfl) ?_
      refine O_call rfl rfl (r_call Try.func15 Try.nm15 rfl) (may_spec (a.max b) _) ?_
      rintro v w2 ⟨rfl, hE⟩
      replace B0_0 := Blk.ext B0_0 hE
      replace B0_1 := Blk.ext B0_1 hE
      replace B3_16 := Blk.ext B3_16 hE
      replace hX := hX.trans hE
      replace hS : Ext W w2 ∧ Same (fun b : Nat => b = b0_0 ∨ b = b0_1 ∨ b = b3_16 ∨ False) wd4 w2 := ⟨hX, fun b hb => Or.elim hb (fun q => by subst q; exact Blk.eq B0_0 DB0_0) (fun hb => Or.elim hb (fun q => by subst q; exact Blk.eq B0_1 DB0_1) (fun hb => Or.elim hb (fun q => by subst q; exact Blk.eq B3_16 DB3_16) (fun hb => hb.elim)))⟩
      refine ⟨hS, ?_⟩
      refine A_true (i := 2) rfl (by kernel_rfl) (by kernel_rfl) (by kernel_rfl) rfl hS (fun _ _ => r_moveV (v := .bool (decide _)) rfl) (hc) ?_
      refine A_takeG (i := 3) rfl (by kernel_rfl) (by kernel_rfl) (by kernel_rfl) rfl hS rfl rfl rfl rfl (fun _ hw => r_loadRow rfl (Blk.at DB3_16 (hw.2 _ (Or.inr (Or.inr (Or.inl rfl))))) Try.underlying24 rfl Try.sz24) ?_
      refine A_takeG (i := 5) rfl (by kernel_rfl) (by kernel_rfl) (by kernel_rfl) rfl hS rfl rfl rfl rfl (fun _ hw => r_loadRow rfl (Blk.at DB0_0 (hw.2 _ (Or.inl rfl))) Try.underlying24 rfl Try.sz24) ?_
      refine A_ready1 (i := 4) (by kernel_rfl) ?_
      refine O_callG rfl rfl rfl rfl rfl rfl (r_call Try.func14 Try.nm14 rfl) (bound_spec (a.max b) _) ?_
      rintro v w2 ⟨rfl, hE⟩
      replace B0_0 := Blk.ext B0_0 hE
      replace B0_1 := Blk.ext B0_1 hE
      replace B3_16 := Blk.ext B3_16 hE
      replace hX := hX.trans hE
      replace hS : Ext W w2 ∧ Same (fun b : Nat => b = b0_0 ∨ b = b0_1 ∨ b = b3_16 ∨ False) wd4 w2 := ⟨hX, fun b hb => Or.elim hb (fun q => by subst q; exact Blk.eq B0_0 DB0_0) (fun hb => Or.elim hb (fun q => by subst q; exact Blk.eq B0_1 DB0_1) (fun hb => Or.elim hb (fun q => by subst q; exact Blk.eq B3_16 DB3_16) (fun hb => hb.elim)))⟩
      refine ⟨hS, ?_⟩
      refine A_ready1 (i := 6) (by kernel_rfl) ?_
      refine O_callG rfl rfl rfl rfl rfl rfl (r_call Try.func14 Try.nm14 rfl) (bound_spec a _) ?_
      rintro v w2 ⟨rfl, hE⟩
      replace B0_0 := Blk.ext B0_0 hE
      replace B0_1 := Blk.ext B0_1 hE
      replace B3_16 := Blk.ext B3_16 hE
      replace hX := hX.trans hE
      replace hS : Ext W w2 ∧ Same (fun b : Nat => b = b0_0 ∨ b = b0_1 ∨ b = b3_16 ∨ False) wd4 w2 := ⟨hX, fun b hb => Or.elim hb (fun q => by subst q; exact Blk.eq B0_0 DB0_0) (fun hb => Or.elim hb (fun q => by subst q; exact Blk.eq B0_1 DB0_1) (fun hb => Or.elim hb (fun q => by subst q; exact Blk.eq B3_16 DB3_16) (fun hb => hb.elim)))⟩
      refine ⟨hS, ?_⟩
      refine A_takeG (i := 7) rfl (by kernel_rfl) (by kernel_rfl) (by kernel_rfl) rfl hS rfl rfl rfl rfl (fun _ hw => r_geq rfl rfl) ?_
      refine A_take (i := 8) rfl (by kernel_rfl) (by kernel_rfl) (by kernel_rfl) rfl hS (fun _ hw => r_pickTV (v := .bool _) rfl rfl) ?_
      refine A_true (i := 9) rfl (by kernel_rfl) (by kernel_rfl) (by kernel_rfl) rfl hS (fun _ _ => r_moveV (v := .bool (decide _)) rfl) (la) ?_
      refine A_takeG (i := 10) rfl (by kernel_rfl) (by kernel_rfl) (by kernel_rfl) rfl hS rfl rfl rfl rfl (fun _ hw => r_loadRow rfl (Blk.at DB3_16 (hw.2 _ (Or.inr (Or.inr (Or.inl rfl))))) Try.underlying24 rfl Try.sz24) ?_
      refine A_takeG (i := 12) rfl (by kernel_rfl) (by kernel_rfl) (by kernel_rfl) rfl hS rfl rfl rfl rfl (fun _ hw => r_loadRow rfl (Blk.at DB0_1 (hw.2 _ (Or.inr (Or.inl rfl)))) Try.underlying24 rfl Try.sz24) ?_
      refine A_ready1 (i := 11) (by kernel_rfl) ?_
      refine O_callG rfl rfl rfl rfl rfl rfl (r_call Try.func14 Try.nm14 rfl) (bound_spec (a.max b) _) ?_
      rintro v w2 ⟨rfl, hE⟩
      replace B0_0 := Blk.ext B0_0 hE
      replace B0_1 := Blk.ext B0_1 hE
      replace B3_16 := Blk.ext B3_16 hE
      replace hX := hX.trans hE
      replace hS : Ext W w2 ∧ Same (fun b : Nat => b = b0_0 ∨ b = b0_1 ∨ b = b3_16 ∨ False) wd4 w2 := ⟨hX, fun b hb => Or.elim hb (fun q => by subst q; exact Blk.eq B0_0 DB0_0) (fun hb => Or.elim hb (fun q => by subst q; exact Blk.eq B0_1 DB0_1) (fun hb => Or.elim hb (fun q => by subst q; exact Blk.eq B3_16 DB3_16) (fun hb => hb.elim)))⟩
      refine ⟨hS, ?_⟩
      refine A_ready1 (i := 13) (by kernel_rfl) ?_
      refine O_callG rfl rfl rfl rfl rfl rfl (r_call Try.func14 Try.nm14 rfl) (bound_spec b _) ?_
      rintro v w2 ⟨rfl, hE⟩
      replace B0_0 := Blk.ext B0_0 hE
      replace B0_1 := Blk.ext B0_1 hE
      replace B3_16 := Blk.ext B3_16 hE
      replace hX := hX.trans hE
      replace hS : Ext W w2 ∧ Same (fun b : Nat => b = b0_0 ∨ b = b0_1 ∨ b = b3_16 ∨ False) wd4 w2 := ⟨hX, fun b hb => Or.elim hb (fun q => by subst q; exact Blk.eq B0_0 DB0_0) (fun hb => Or.elim hb (fun q => by subst q; exact Blk.eq B0_1 DB0_1) (fun hb => Or.elim hb (fun q => by subst q; exact Blk.eq B3_16 DB3_16) (fun hb => hb.elim)))⟩
      refine ⟨hS, ?_⟩
      refine A_takeG (i := 14) rfl (by kernel_rfl) (by kernel_rfl) (by kernel_rfl) rfl hS rfl rfl rfl rfl (fun _ hw => r_geq rfl rfl) ?_
      refine A_take (i := 15) rfl (by kernel_rfl) (by kernel_rfl) (by kernel_rfl) rfl hS (fun _ hw => r_pickTV (v := .bool _) rfl rfl) ?_
      refine A_true (i := 16) rfl (by kernel_rfl) (by kernel_rfl) (by kernel_rfl) rfl hS (fun _ _ => r_moveV (v := .bool (decide _)) rfl) (lb) ?_
      refine A_takeG (i := 17) rfl (by kernel_rfl) (by kernel_rfl) (by kernel_rfl) rfl hS rfl rfl rfl rfl (fun _ hw => r_loadRow rfl (Blk.at DB0_0 (hw.2 _ (Or.inl rfl))) Try.underlying24 rfl Try.sz24) ?_
      refine A_takeG (i := 19) rfl (by kernel_rfl) (by kernel_rfl) (by kernel_rfl) rfl hS rfl rfl rfl rfl (fun _ hw => r_fieldAddr rfl Try.fld24_1 rfl) ?_
      refine A_takeG (i := 20) rfl (by kernel_rfl) (by kernel_rfl) (by kernel_rfl) rfl hS rfl rfl rfl rfl (fun _ hw => r_load (v := .int _ _) rfl Try.underlying3 rfl (Blk.cell (Blk.at DB0_0 (hw.2 _ (Or.inl rfl))) rfl)) ?_
      refine A_ready1 (i := 18) (by kernel_rfl) ?_
      refine O_callG rfl rfl rfl rfl rfl rfl (r_call Try.func14 Try.nm14 rfl) (bound_spec a _) ?_
      rintro v w2 ⟨rfl, hE⟩
      replace B0_0 := Blk.ext B0_0 hE
      replace B0_1 := Blk.ext B0_1 hE
      replace B3_16 := Blk.ext B3_16 hE
      replace hX := hX.trans hE
      replace hS : Ext W w2 ∧ Same (fun b : Nat => b = b0_0 ∨ b = b0_1 ∨ b = b3_16 ∨ False) wd4 w2 := ⟨hX, fun b hb => Or.elim hb (fun q => by subst q; exact Blk.eq B0_0 DB0_0) (fun hb => Or.elim hb (fun q => by subst q; exact Blk.eq B0_1 DB0_1) (fun hb => Or.elim hb (fun q => by subst q; exact Blk.eq B3_16 DB3_16) (fun hb => hb.elim)))⟩
      refine ⟨hS, ?_⟩
      refine A_takeG (i := 21) rfl (by kernel_rfl) (by kernel_rfl) (by kernel_rfl) rfl hS rfl rfl rfl rfl (fun _ hw => r_geq rfl rfl) ?_
      refine A_take (i := 22) rfl (by kernel_rfl) (by kernel_rfl) (by kernel_rfl) rfl hS (fun _ hw => r_pickTV (v := .bool _) rfl rfl) ?_
      refine A_true (i := 23) rfl (by kernel_rfl) (by kernel_rfl) (by kernel_rfl) rfl hS (fun _ _ => r_moveV (v := .bool (decide _)) rfl) (lr) ?_
      refine A_takeG (i := 24) rfl (by kernel_rfl) (by kernel_rfl) (by kernel_rfl) rfl hS rfl rfl rfl rfl (fun _ hw => r_loadRow rfl (Blk.at DB3_16 (hw.2 _ (Or.inr (Or.inr (Or.inl rfl))))) Try.underlying24 rfl Try.sz24) ?_
      refine A_ready1 (i := 25) (by kernel_rfl) ?_
      refine O_callG rfl rfl rfl rfl rfl rfl (r_call Try.func18 Try.nm18 rfl) (refMay_spec (a.max b) _) ?_
      rintro v w2 ⟨rfl, hE⟩
      replace B0_0 := Blk.ext B0_0 hE
      replace B0_1 := Blk.ext B0_1 hE
      replace B3_16 := Blk.ext B3_16 hE
      replace hX := hX.trans hE
      replace hS : Ext W w2 ∧ Same (fun b : Nat => b = b0_0 ∨ b = b0_1 ∨ b = b3_16 ∨ False) wd4 w2 := ⟨hX, fun b hb => Or.elim hb (fun q => by subst q; exact Blk.eq B0_0 DB0_0) (fun hb => Or.elim hb (fun q => by subst q; exact Blk.eq B0_1 DB0_1) (fun hb => Or.elim hb (fun q => by subst q; exact Blk.eq B3_16 DB3_16) (fun hb => hb.elim)))⟩
      refine ⟨hS, ?_⟩
      refine A_take (i := 26) rfl (by kernel_rfl) (by kernel_rfl) (by kernel_rfl) rfl hS (fun _ hw => r_pickTV (v := .bool _) rfl rfl) ?_
      refine A_true (i := 27) rfl (by kernel_rfl) (by kernel_rfl) (by kernel_rfl) rfl hS (fun _ _ => r_moveV (v := .bool (decide _)) rfl) (hc) ?_
      refine A_ready1 (i := 28) (by kernel_rfl) ?_
      refine O_callG rfl rfl rfl rfl rfl rfl (r_call Try.func10 Try.nm10 rfl) (known_spec _) ?_
      rintro v w8 ⟨rfl, hE⟩
      replace B0_0 := Blk.ext B0_0 hE
      replace B0_1 := Blk.ext B0_1 hE
      replace B3_16 := Blk.ext B3_16 hE
      replace hX := hX.trans hE
      replace hS : Ext W w8 ∧ Same (fun b : Nat => b = b0_0 ∨ b = b0_1 ∨ b = b3_16 ∨ False) wd4 w8 := ⟨hX, fun b hb => Or.elim hb (fun q => by subst q; exact Blk.eq B0_0 DB0_0) (fun hb => Or.elim hb (fun q => by subst q; exact Blk.eq B0_1 DB0_1) (fun hb => Or.elim hb (fun q => by subst q; exact Blk.eq B3_16 DB3_16) (fun hb => hb.elim)))⟩
      refine ⟨hS, ?_⟩
      refine A_take (i := 29) rfl (by kernel_rfl) (by kernel_rfl) (by kernel_rfl) rfl hS (fun _ hw => r_pickTV (v := .bool _) rfl rfl) ?_
      refine A_take (i := 30) rfl (by kernel_rfl) (by kernel_rfl) (by kernel_rfl) rfl hS (fun _ hw => r_assignV (v := .bool _) rfl) ?_
      refine A_done (by kernel_rfl) ?_
      refine W_ret (finX_ret ?_)
      refine fin1 ?_
      exact ⟨_, rfl, rfl, hX⟩
end Go.Proofs.Ytfocbkdoolnijaa
