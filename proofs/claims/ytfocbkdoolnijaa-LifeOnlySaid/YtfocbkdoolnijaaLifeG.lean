/-
  The walks of package life: waits, Right.
-/
import Derived.Test.YtfocbkdoolnijaaFacts
import Derived.Test.YtfocbkdoolnijaaLifeK
import Derived.Test.YtfocbkdoolnijaaLifeP
namespace Go.Proofs.Ytfocbkdoolnijaa
open Go Go.Eng Go.RowKit Go.Proofs
set_option linter.unusedVariables false
set_option linter.unusedSimpArgs false
set_option maxRecDepth 20000

section
variable {P : Program} {ρ : Operand → Value} {w : World} {d : Option Tmp} {t : TypeId} {pos : String} {af : Array Edge} {g : Option (Nat × Bool)} {x y : Operand} {xt yt : TypeId}
theorem r_neqP {p q : Prop} {dp : Decidable p} {dq : Decidable q} (hx : ρ x = .bool (@decide p dp)) (hy : ρ y = .bool (@decide q dq)) (hu : P.underlying xt = some .bool) : (execOp ρ ⟨d, .binOp .neq xt x y yt, t, pos, af, g⟩).run P w = .ok (.value (.bool (decide (¬ (p ↔ q))))) w := by
  rw [rb_neq hx hy hu]
  congr 3
  by_cases hp : p <;> by_cases hq : q <;> simp [hp, hq]
end
def Lf.least (s : Int) : Int := if s = 2 ∨ s = 5 then 1 else 0
def Lim.most (m : Lim) (s : Int) : Int := if s = 2 then m.review else if s = 5 then m.backoff else 0
def Lf.Right (x : Lf) (m : Lim) : Prop := m.May ∧ 0 ≤ x.state ∧ x.state ≤ 7 ∧ Lf.least x.state ≤ x.wait ∧ x.wait ≤ m.most x.state ∧ 0 ≤ x.rev ∧ (x.rev > 0 → x.state = 6) ∧ (x.state = 4 ↔ x.request > 0) ∧ 0 ≤ x.request ∧
  ((x.state = 7 ∧ x.why = 3) ↔ x.tries = m.retries + 1) ∧ 0 ≤ x.tries ∧ x.tries ≤ m.retries + 1 ∧ (x.state ≠ 7 → x.why = 0) ∧ (x.state = 7 → 1 ≤ x.why ∧ x.why ≤ 5)
instance (x : Lf) (m : Lim) : Decidable (x.Right m) := by unfold Lf.Right; exact inferInstance
theorem waits_spec (m : Lim) (s : Int) (w : World) : Calls Try.prog 21 #[m.val, .int .i64 s] w (fun en w' => ∃ v, en = .returned v ∧ v = .tuple #[.int .i64 (Lf.least s), .int .i64 (m.most s)] ∧ Ext w w') := by
  refine calls' (n := 15) (rs := #[.tmp 4, .tmp 5]) (l := [m.val, .int .i64 s]) Try.func21 rfl rfl rfl rfl rfl ?_
  have hX := Ext.refl w
  refine W_seq ?_
  refine W_region ?_
  refine op_box (v := .agg _) rfl rfl ?_
  intro w0_0 b0_0 E0_0 B0_0 L0_0
  have hG0_0 : w.heap.size ≤ b0_0 := by have := hX.size; omega
  replace hX := hX.trans E0_0
  refine op rfl (r_assignV (v := .int _ _) rfl) ?_
  refine op rfl (r_assignV (v := .int _ _) rfl) ?_
  refine WL_nil ?_
  refine W_seq ?_
  refine W_seq ?_
  refine W_region ?_
  refine op rfl (r_moveV (v := .int _ _) rfl) ?_
  refine WL_nil ?_
  refine W_block ?_
  refine W_seq ?_
  refine W_region ?_
  refine op rfl (r_eql rfl rfl) ?_
  refine op rfl (r_assignV (v := .bool _) rfl) ?_
  refine WL_nil ?_
  refine W_ifp rfl (fun ht7 => ?_) (fun ht7 => ?_)
  · refine W_seq ?_
    refine W_drawF (W0 := w) (fun b : Nat => b = b0_0 ∨ False) Try.wd rfl ?_
    intro wd3 hD
    replace B0_0 := Blk.ext B0_0 hD
    replace hX := hX.trans hD
    have DB0_0 := B0_0
    have hS : Ext w wd3 ∧ Same (fun b : Nat => b = b0_0 ∨ False) wd3 wd3 := ⟨hX, fun _ _ => rfl⟩
    refine A_take (i := 0) rfl (by kernel_rfl) (by kernel_rfl) (by kernel_rfl) rfl hS (fun _ hw => r_fieldAddr rfl Try.fld24_1 rfl) ?_
    refine A_take (i := 1) rfl (by kernel_rfl) (by kernel_rfl) (by kernel_rfl) rfl hS (fun _ hw => r_load (v := .int _ _) rfl Try.underlying3 rfl (Blk.cell (Blk.at DB0_0 (hw.2 _ (Or.inl rfl))) rfl)) ?_
    refine A_take (i := 2) rfl (by kernel_rfl) (by kernel_rfl) (by kernel_rfl) rfl hS (fun _ hw => r_assignV (v := .int _ _) rfl) ?_
    refine A_take (i := 3) rfl (by kernel_rfl) (by kernel_rfl) (by kernel_rfl) rfl hS (fun _ hw => r_assignV (v := .int _ _) rfl) ?_
    refine A_done (by kernel_rfl) ?_
    refine W_ret (blk_ret (finX_ret ?_))
    refine fin2 ?_
    exact ⟨_, rfl, by unfold Lf.least Lim.most; rw [if_pos (Or.inl ht7), if_pos ht7] <;> rfl, hX⟩
  · refine W_seq ?_
    refine W_region ?_
    refine op rfl (r_eql rfl rfl) ?_
    refine op rfl (r_assignV (v := .bool _) rfl) ?_
    refine WL_nil ?_
    refine W_ifp rfl (fun ht11 => ?_) (fun ht11 => ?_)
    · refine W_seq ?_
      refine W_drawF (W0 := w) (fun b : Nat => b = b0_0 ∨ False) Try.wd rfl ?_
      intro wd5 hD
      replace B0_0 := Blk.ext B0_0 hD
      replace hX := hX.trans hD
      have DB0_0 := B0_0
      have hS : Ext w wd5 ∧ Same (fun b : Nat => b = b0_0 ∨ False) wd5 wd5 := ⟨hX, fun _ _ => rfl⟩
      refine A_take (i := 0) rfl (by kernel_rfl) (by kernel_rfl) (by kernel_rfl) rfl hS (fun _ hw => r_fieldAddr rfl Try.fld24_2 rfl) ?_
      refine A_take (i := 1) rfl (by kernel_rfl) (by kernel_rfl) (by kernel_rfl) rfl hS (fun _ hw => r_load (v := .int _ _) rfl Try.underlying3 rfl (Blk.cell (Blk.at DB0_0 (hw.2 _ (Or.inl rfl))) rfl)) ?_
      refine A_take (i := 2) rfl (by kernel_rfl) (by kernel_rfl) (by kernel_rfl) rfl hS (fun _ hw => r_assignV (v := .int _ _) rfl) ?_
      refine A_take (i := 3) rfl (by kernel_rfl) (by kernel_rfl) (by kernel_rfl) rfl hS (fun _ hw => r_assignV (v := .int _ _) rfl) ?_
      refine A_done (by kernel_rfl) ?_
      refine W_ret (blk_ret (finX_ret ?_))
      refine fin2 ?_
      exact ⟨_, rfl, by unfold Lf.least Lim.most; rw [if_pos (Or.inr ht11), if_neg ht7, if_pos ht11] <;> rfl, hX⟩
    · refine W_skip ?_
      refine W_seq ?_
      refine W_region ?_
      refine op rfl (r_assignV (v := .int _ _) rfl) ?_
      refine op rfl (r_assignV (v := .int _ _) rfl) ?_
      refine WL_nil ?_
      refine W_ret (finX_ret ?_)
      refine fin2 ?_
      exact ⟨_, rfl, by unfold Lf.least Lim.most; rw [if_neg (by omega), if_neg ht7, if_neg ht11] <;> rfl, hX⟩
theorem right_spec (m : Lim) (x : Lf) (w : World) : Calls Try.prog 19 #[m.val, x.val] w (fun en w' => ∃ v, en = .returned v ∧ v = .bool (decide (x.Right m)) ∧ Ext w w') := by
  obtain ⟨lst, hlst⟩ : ∃ q, Lf.least x.state = q := ⟨_, rfl⟩
  obtain ⟨mst, hmst⟩ : ∃ q, m.most x.state = q := ⟨_, rfl⟩
  have WS : ∀ w, Calls Try.prog 21 #[m.val, .int .i64 x.state] w (fun en w' => ∃ v, en = .returned v ∧ v = .tuple #[.int .i64 lst, .int .i64 mst] ∧ Ext w w') := fun w => by
    have := waits_spec m x.state w
    rwa [hlst, hmst] at this
  have hR : x.Right m ↔ (m.May ∧ 0 ≤ x.state ∧ x.state ≤ 7 ∧ lst ≤ x.wait ∧ x.wait ≤ mst ∧ 0 ≤ x.rev ∧ (x.rev > 0 → x.state = 6) ∧ (x.state = 4 ↔ x.request > 0) ∧ 0 ≤ x.request ∧
    ((x.state = 7 ∧ x.why = 3) ↔ x.tries = m.retries + 1) ∧ 0 ≤ x.tries ∧ x.tries ≤ m.retries + 1 ∧ (x.state ≠ 7 → x.why = 0) ∧ (x.state = 7 → 1 ≤ x.why ∧ x.why ≤ 5)) := by
    unfold Lf.Right; rw [hlst, hmst]
  have hMay : m.May → 0 ≤ m.retries ∧ m.retries ≤ 100 := fun h => ⟨h.1, h.2.1⟩
  refine calls' (n := 97) (rs := #[.tmp 4]) (l := [m.val, x.val]) Try.func19 rfl rfl rfl rfl rfl ?_
  have hX := Ext.refl w
  refine W_seq ?_
  refine W_region ?_
  refine op_box (v := .agg _) rfl rfl ?_
  intro w0_0 b0_0 E0_0 B0_0 L0_0
  have hG0_0 : w.heap.size ≤ b0_0 := by have := hX.size; omega
  replace hX := hX.trans E0_0
  refine op_box (v := .agg _) rfl rfl ?_
  intro w0_1 b0_1 E0_1 B0_1 L0_1
  have hG0_1 : w.heap.size ≤ b0_1 := by have := hX.size; omega
  have hNb0_0_0_1 : b0_0 ≠ b0_1 := by have := Blk.lt B0_0; omega
  replace B0_0 := Blk.ext B0_0 E0_1
  replace hX := hX.trans E0_1
  refine op rfl (r_assignV (v := .bool _) rfl) ?_
  refine WL_nil ?_
  refine W_seq ?_
  refine W_region ?_
  refine op rfl (r_loadRow rfl B0_0 Try.underlying24 rfl Try.sz24) ?_
  refine op rfl (r_fieldAddr rfl Try.fld27_0 rfl) ?_
  refine op rfl (r_load (v := .int _ _) rfl Try.underlying3 rfl (Blk.cell B0_1 rfl)) ?_
  refine opCv rfl (r_call Try.func21 Try.nm21 rfl) (WS _) ?_
  rintro v w2 ⟨rfl, hE⟩
  replace B0_0 := Blk.ext B0_0 hE
  replace B0_1 := Blk.ext B0_1 hE
  replace hX := hX.trans hE
  refine op rfl (r_moveV (v := .tuple #[.int .i64 lst, .int .i64 mst]) rfl) ?_
  refine op rfl (r_extract (vs := [.int .i64 lst, .int .i64 mst]) rfl rfl) ?_
  refine op rfl (r_extract (vs := [.int .i64 lst, .int .i64 mst]) rfl rfl) ?_
  refine op rfl (r_assignV (v := .int .i64 lst) rfl) ?_
  refine op rfl (r_assignV (v := .int .i64 mst) rfl) ?_
  refine WL_nil ?_
  refine W_seq ?_
  refine W_region ?_
  refine op rfl (r_fieldAddr rfl Try.fld27_0 rfl) ?_
  refine op rfl (r_load (v := .int _ _) rfl Try.underlying3 rfl (Blk.cell B0_1 rfl)) ?_
  refine op rfl (r_eql rfl rfl) ?_
  refine op_split rfl (r_moveV (v := .bool (decide _)) rfl) (fun hg18 => ?_) (fun hg18 => ?_)
  · refine opG_yes rfl rfl rfl rfl rfl (r_fieldAddr rfl Try.fld27_1 rfl) ?_
    refine opG_yes rfl rfl rfl rfl rfl (r_load (v := .int _ _) rfl Try.underlying3 rfl (Blk.cell B0_1 rfl)) ?_
    refine opG_yes rfl rfl rfl rfl rfl (r_eql rfl rfl) ?_
    refine op rfl (r_pickTV (v := .bool _) rfl rfl) ?_
    refine op rfl (r_assignV (v := .bool _) rfl) ?_
    refine WL_nil ?_
    refine W_seq ?_
    refine W_block ?_
    refine W_seq ?_
    refine W_block ?_
    refine W_seq ?_
    refine W_block ?_
    refine W_seq ?_
    refine W_block ?_
    refine W_seq ?_
    refine W_block ?_
    refine W_block ?_
    refine W_seq ?_
    refine W_seq ?_
    refine W_seq ?_
    refine W_seq ?_
    refine W_region ?_
    refine op rfl (r_loadRow rfl B0_0 Try.underlying24 rfl Try.sz24) ?_
    refine opCv rfl (r_call Try.func15 Try.nm15 rfl) (may_spec m _) ?_
    rintro v w3 ⟨rfl, hE⟩
    replace B0_0 := Blk.ext B0_0 hE
    replace B0_1 := Blk.ext B0_1 hE
    replace hX := hX.trans hE
    refine op rfl (r_notP rfl) ?_
    refine op rfl (r_assignV (v := .bool _) rfl) ?_
    refine WL_nil ?_
    refine W_ifp rfl (fun ht23 => ?_) (fun ht23 => ?_)
    · refine W_skip ?_
      refine W_then (congrArg Value.bool (decide_eq_true ht23)) ?_
      refine W_exit (blk_hit ?_)
      refine W_seq ?_
      refine W_seq ?_
      refine W_region ?_
      refine op rfl (r_assignV (v := .bool _) rfl) ?_
      refine WL_nil ?_
      refine W_ret (blk_ret (blk_ret (blk_ret (blk_ret (finX_ret ?_)))))
      refine fin1 ?_
      exact ⟨_, rfl, by first | exact bool_ff (fun h => ht23 h.1) | exact bool_ff (by rw [hR]; omega) | exact bool_ff (by rw [hR]; intro hh; clear WS hR; simp only [false_iff, Classical.not_not] at *; omega) | exact bool_iff (by rw [hR]; clear WS hR; try simp only [false_iff, Classical.not_not] at *; refine ⟨fun h => ⟨hmm, ?_, ?_, ?_, ?_, ?_, ?_, ?_, ?_, ?_, ?_, ?_, ?_, ?_⟩, fun h => ?_⟩ <;> first | omega | (intro hq; omega) | (constructor <;> intro hq <;> omega)) | exact bool_ff (by rw [hR]; intro hh; have h7 := hh.2.2.2.2.2.2.2.2.2.2.2.2.2; have h8 := hh.2.2.2.2.2.2.2.2.2.1; clear WS hR; simp only [false_iff, Classical.not_not] at *; omega), hX⟩
    · first
        | (have hmm : m.May := Classical.byContradiction ht23
           have hmr := hMay hmm)
        | skip
      refine W_seq ?_
      refine W_region ?_
      refine op rfl (r_fieldAddr rfl Try.fld27_0 rfl) ?_
      refine op rfl (r_load (v := .int _ _) rfl Try.underlying3 rfl (Blk.cell B0_1 rfl)) ?_
      refine op rfl (r_lss rfl rfl) ?_
      refine op rfl (r_assignV (v := .bool _) rfl) ?_
      refine WL_nil ?_
      refine W_ifp rfl (fun ht23 => ?_) (fun ht23 => ?_)
      · refine W_skip ?_
        refine W_then (congrArg Value.bool (decide_eq_true ht23)) ?_
        refine W_exit (blk_hit ?_)
        refine W_seq ?_
        refine W_seq ?_
        refine W_region ?_
        refine op rfl (r_assignV (v := .bool _) rfl) ?_
        refine WL_nil ?_
        refine W_ret (blk_ret (blk_ret (blk_ret (blk_ret (finX_ret ?_)))))
        refine fin1 ?_
        exact ⟨_, rfl, by first | exact bool_ff (fun h => ht23 h.1) | exact bool_ff (by rw [hR]; omega) | exact bool_ff (by rw [hR]; intro hh; clear WS hR; simp only [false_iff, Classical.not_not] at *; omega) | exact bool_iff (by rw [hR]; clear WS hR; try simp only [false_iff, Classical.not_not] at *; refine ⟨fun h => ⟨hmm, ?_, ?_, ?_, ?_, ?_, ?_, ?_, ?_, ?_, ?_, ?_, ?_, ?_⟩, fun h => ?_⟩ <;> first | omega | (intro hq; omega) | (constructor <;> intro hq <;> omega)) | exact bool_ff (by rw [hR]; intro hh; have h7 := hh.2.2.2.2.2.2.2.2.2.2.2.2.2; have h8 := hh.2.2.2.2.2.2.2.2.2.1; clear WS hR; simp only [false_iff, Classical.not_not] at *; omega), hX⟩
      · first
          | (have hmm : m.May := Classical.byContradiction ht23
             have hmr := hMay hmm)
          | skip
        refine W_region ?_
        refine op rfl (r_fieldAddr rfl Try.fld27_0 rfl) ?_
        refine op rfl (r_load (v := .int _ _) rfl Try.underlying3 rfl (Blk.cell B0_1 rfl)) ?_
        refine op rfl (r_gtr rfl rfl) ?_
        refine op rfl (r_assignV (v := .bool _) rfl) ?_
        refine WL_nil ?_
        refine W_ifp rfl (fun ht23 => ?_) (fun ht23 => ?_)
        · refine W_exit (blk_hit ?_)
          refine W_seq ?_
          refine W_seq ?_
          refine W_region ?_
          refine op rfl (r_assignV (v := .bool _) rfl) ?_
          refine WL_nil ?_
          refine W_ret (blk_ret (blk_ret (blk_ret (blk_ret (finX_ret ?_)))))
          refine fin1 ?_
          exact ⟨_, rfl, by first | exact bool_ff (fun h => ht23 h.1) | exact bool_ff (by rw [hR]; omega) | exact bool_ff (by rw [hR]; intro hh; clear WS hR; simp only [false_iff, Classical.not_not] at *; omega) | exact bool_iff (by rw [hR]; clear WS hR; try simp only [false_iff, Classical.not_not] at *; refine ⟨fun h => ⟨hmm, ?_, ?_, ?_, ?_, ?_, ?_, ?_, ?_, ?_, ?_, ?_, ?_, ?_⟩, fun h => ?_⟩ <;> first | omega | (intro hq; omega) | (constructor <;> intro hq <;> omega)) | exact bool_ff (by rw [hR]; intro hh; have h7 := hh.2.2.2.2.2.2.2.2.2.2.2.2.2; have h8 := hh.2.2.2.2.2.2.2.2.2.1; clear WS hR; simp only [false_iff, Classical.not_not] at *; omega), hX⟩
        · first
            | (have hmm : m.May := Classical.byContradiction ht23
               have hmr := hMay hmm)
            | skip
          refine W_skip ?_
          refine W_seq ?_
          refine W_seq ?_
          refine W_seq ?_
          refine W_region ?_
          refine op rfl (r_fieldAddr rfl Try.fld27_3 rfl) ?_
          refine op rfl (r_load (v := .int _ _) rfl Try.underlying3 rfl (Blk.cell B0_1 rfl)) ?_
          refine op rfl (r_moveV (v := .int .i64 lst) rfl) ?_
          refine op rfl (r_lss rfl rfl) ?_
          refine op rfl (r_assignV (v := .bool _) rfl) ?_
          refine WL_nil ?_
          refine W_ifp rfl (fun ht33 => ?_) (fun ht33 => ?_)
          · refine W_skip ?_
            refine W_then (congrArg Value.bool (decide_eq_true ht33)) ?_
            refine W_exit (blk_miss rfl (blk_hit ?_))
            refine W_seq ?_
            refine W_seq ?_
            refine W_region ?_
            refine op rfl (r_assignV (v := .bool _) rfl) ?_
            refine WL_nil ?_
            refine W_ret (blk_ret (blk_ret (blk_ret (blk_ret (finX_ret ?_)))))
            refine fin1 ?_
            exact ⟨_, rfl, by first | exact bool_ff (fun h => ht23 h.1) | exact bool_ff (by rw [hR]; omega) | exact bool_ff (by rw [hR]; intro hh; clear WS hR; simp only [false_iff, Classical.not_not] at *; omega) | exact bool_iff (by rw [hR]; clear WS hR; try simp only [false_iff, Classical.not_not] at *; refine ⟨fun h => ⟨hmm, ?_, ?_, ?_, ?_, ?_, ?_, ?_, ?_, ?_, ?_, ?_, ?_, ?_⟩, fun h => ?_⟩ <;> first | omega | (intro hq; omega) | (constructor <;> intro hq <;> omega)) | exact bool_ff (by rw [hR]; intro hh; have h7 := hh.2.2.2.2.2.2.2.2.2.2.2.2.2; have h8 := hh.2.2.2.2.2.2.2.2.2.1; clear WS hR; simp only [false_iff, Classical.not_not] at *; omega), hX⟩
          · refine W_seq ?_
            refine W_region ?_
            refine op rfl (r_fieldAddr rfl Try.fld27_3 rfl) ?_
            refine op rfl (r_load (v := .int _ _) rfl Try.underlying3 rfl (Blk.cell B0_1 rfl)) ?_
            refine op rfl (r_moveV (v := .int .i64 mst) rfl) ?_
            refine op rfl (r_gtr rfl rfl) ?_
            refine op rfl (r_assignV (v := .bool _) rfl) ?_
            refine WL_nil ?_
            refine W_ifp rfl (fun ht33 => ?_) (fun ht33 => ?_)
            · refine W_skip ?_
              refine W_then (congrArg Value.bool (decide_eq_true ht33)) ?_
              refine W_exit (blk_miss rfl (blk_hit ?_))
              refine W_seq ?_
              refine W_seq ?_
              refine W_region ?_
              refine op rfl (r_assignV (v := .bool _) rfl) ?_
              refine WL_nil ?_
              refine W_ret (blk_ret (blk_ret (blk_ret (blk_ret (finX_ret ?_)))))
              refine fin1 ?_
              exact ⟨_, rfl, by first | exact bool_ff (fun h => ht23 h.1) | exact bool_ff (by rw [hR]; omega) | exact bool_ff (by rw [hR]; intro hh; clear WS hR; simp only [false_iff, Classical.not_not] at *; omega) | exact bool_iff (by rw [hR]; clear WS hR; try simp only [false_iff, Classical.not_not] at *; refine ⟨fun h => ⟨hmm, ?_, ?_, ?_, ?_, ?_, ?_, ?_, ?_, ?_, ?_, ?_, ?_, ?_⟩, fun h => ?_⟩ <;> first | omega | (intro hq; omega) | (constructor <;> intro hq <;> omega)) | exact bool_ff (by rw [hR]; intro hh; have h7 := hh.2.2.2.2.2.2.2.2.2.2.2.2.2; have h8 := hh.2.2.2.2.2.2.2.2.2.1; clear WS hR; simp only [false_iff, Classical.not_not] at *; omega), hX⟩
            · refine W_seq ?_
              refine W_region ?_
              refine op rfl (r_fieldAddr rfl Try.fld27_5 rfl) ?_
              refine op rfl (r_load (v := .int _ _) rfl Try.underlying3 rfl (Blk.cell B0_1 rfl)) ?_
              refine op rfl (r_lss rfl rfl) ?_
              refine op rfl (r_assignV (v := .bool _) rfl) ?_
              refine WL_nil ?_
              refine W_ifp rfl (fun ht33 => ?_) (fun ht33 => ?_)
              · refine W_skip ?_
                refine W_then (congrArg Value.bool (decide_eq_true ht33)) ?_
                refine W_exit (blk_miss rfl (blk_hit ?_))
                refine W_seq ?_
                refine W_seq ?_
                refine W_region ?_
                refine op rfl (r_assignV (v := .bool _) rfl) ?_
                refine WL_nil ?_
                refine W_ret (blk_ret (blk_ret (blk_ret (blk_ret (finX_ret ?_)))))
                refine fin1 ?_
                exact ⟨_, rfl, by first | exact bool_ff (fun h => ht23 h.1) | exact bool_ff (by rw [hR]; omega) | exact bool_ff (by rw [hR]; intro hh; clear WS hR; simp only [false_iff, Classical.not_not] at *; omega) | exact bool_iff (by rw [hR]; clear WS hR; try simp only [false_iff, Classical.not_not] at *; refine ⟨fun h => ⟨hmm, ?_, ?_, ?_, ?_, ?_, ?_, ?_, ?_, ?_, ?_, ?_, ?_, ?_⟩, fun h => ?_⟩ <;> first | omega | (intro hq; omega) | (constructor <;> intro hq <;> omega)) | exact bool_ff (by rw [hR]; intro hh; have h7 := hh.2.2.2.2.2.2.2.2.2.2.2.2.2; have h8 := hh.2.2.2.2.2.2.2.2.2.1; clear WS hR; simp only [false_iff, Classical.not_not] at *; omega), hX⟩
              · refine W_region ?_
                refine op rfl (r_fieldAddr rfl Try.fld27_5 rfl) ?_
                refine op rfl (r_load (v := .int _ _) rfl Try.underlying3 rfl (Blk.cell B0_1 rfl)) ?_
                refine op rfl (r_gtr rfl rfl) ?_
                refine op_split rfl (r_moveV (v := .bool (decide _)) rfl) (fun hg48 => ?_) (fun hg48 => ?_)
                · refine opG_yes rfl rfl rfl rfl rfl (r_fieldAddr rfl Try.fld27_0 rfl) ?_
                  refine opG_yes rfl rfl rfl rfl rfl (r_load (v := .int _ _) rfl Try.underlying3 rfl (Blk.cell B0_1 rfl)) ?_
                  refine opG_yes rfl rfl rfl rfl rfl (r_neq rfl rfl) ?_
                  refine op rfl (r_pickTV (v := .bool _) rfl rfl) ?_
                  refine op rfl (r_assignV (v := .bool _) rfl) ?_
                  refine WL_nil ?_
                  refine W_ifp rfl (fun ht33 => ?_) (fun ht33 => ?_)
                  · refine W_exit (blk_miss rfl (blk_hit ?_))
                    refine W_seq ?_
                    refine W_seq ?_
                    refine W_region ?_
                    refine op rfl (r_assignV (v := .bool _) rfl) ?_
                    refine WL_nil ?_
                    refine W_ret (blk_ret (blk_ret (blk_ret (blk_ret (finX_ret ?_)))))
                    refine fin1 ?_
                    exact ⟨_, rfl, by first | exact bool_ff (fun h => ht23 h.1) | exact bool_ff (by rw [hR]; omega) | exact bool_ff (by rw [hR]; intro hh; clear WS hR; simp only [false_iff, Classical.not_not] at *; omega) | exact bool_iff (by rw [hR]; clear WS hR; try simp only [false_iff, Classical.not_not] at *; refine ⟨fun h => ⟨hmm, ?_, ?_, ?_, ?_, ?_, ?_, ?_, ?_, ?_, ?_, ?_, ?_, ?_⟩, fun h => ?_⟩ <;> first | omega | (intro hq; omega) | (constructor <;> intro hq <;> omega)) | exact bool_ff (by rw [hR]; intro hh; have h7 := hh.2.2.2.2.2.2.2.2.2.2.2.2.2; have h8 := hh.2.2.2.2.2.2.2.2.2.1; clear WS hR; simp only [false_iff, Classical.not_not] at *; omega), hX⟩
                  · refine W_skip ?_
                    refine W_seq ?_
                    refine W_seq ?_
                    refine W_seq ?_
                    refine W_region ?_
                    refine op rfl (r_fieldAddr rfl Try.fld27_0 rfl) ?_
                    refine op rfl (r_load (v := .int _ _) rfl Try.underlying3 rfl (Blk.cell B0_1 rfl)) ?_
                    refine op rfl (r_eql rfl rfl) ?_
                    refine op rfl (r_fieldAddr rfl Try.fld27_4 rfl) ?_
                    refine op rfl (r_load (v := .int _ _) rfl Try.underlying3 rfl (Blk.cell B0_1 rfl)) ?_
                    refine op rfl (r_gtr rfl rfl) ?_
                    refine op rfl (r_neqP rfl rfl Try.underlying4) ?_
                    refine op rfl (r_assignV (v := .bool _) rfl) ?_
                    refine WL_nil ?_
                    refine W_ifp rfl (fun ht53 => ?_) (fun ht53 => ?_)
                    · refine W_skip ?_
                      refine W_then (congrArg Value.bool (decide_eq_true ht53)) ?_
                      refine W_exit (blk_miss rfl (blk_miss rfl (blk_hit ?_)))
                      refine W_seq ?_
                      refine W_seq ?_
                      refine W_region ?_
                      refine op rfl (r_assignV (v := .bool _) rfl) ?_
                      refine WL_nil ?_
                      refine W_ret (blk_ret (blk_ret (blk_ret (finX_ret ?_))))
                      refine fin1 ?_
                      exact ⟨_, rfl, by first | exact bool_ff (fun h => ht23 h.1) | exact bool_ff (by rw [hR]; omega) | exact bool_ff (by rw [hR]; intro hh; clear WS hR; simp only [false_iff, Classical.not_not] at *; omega) | exact bool_iff (by rw [hR]; clear WS hR; try simp only [false_iff, Classical.not_not] at *; refine ⟨fun h => ⟨hmm, ?_, ?_, ?_, ?_, ?_, ?_, ?_, ?_, ?_, ?_, ?_, ?_, ?_⟩, fun h => ?_⟩ <;> first | omega | (intro hq; omega) | (constructor <;> intro hq <;> omega)) | exact bool_ff (by rw [hR]; intro hh; have h7 := hh.2.2.2.2.2.2.2.2.2.2.2.2.2; have h8 := hh.2.2.2.2.2.2.2.2.2.1; clear WS hR; simp only [false_iff, Classical.not_not] at *; omega), hX⟩
                    · refine W_region ?_
                      refine op rfl (r_fieldAddr rfl Try.fld27_4 rfl) ?_
                      refine op rfl (r_load (v := .int _ _) rfl Try.underlying3 rfl (Blk.cell B0_1 rfl)) ?_
                      refine op rfl (r_lss rfl rfl) ?_
                      refine op rfl (r_assignV (v := .bool _) rfl) ?_
                      refine WL_nil ?_
                      refine W_ifp rfl (fun ht53 => ?_) (fun ht53 => ?_)
                      · refine W_exit (blk_miss rfl (blk_miss rfl (blk_hit ?_)))
                        refine W_seq ?_
                        refine W_seq ?_
                        refine W_region ?_
                        refine op rfl (r_assignV (v := .bool _) rfl) ?_
                        refine WL_nil ?_
                        refine W_ret (blk_ret (blk_ret (blk_ret (finX_ret ?_))))
                        refine fin1 ?_
                        exact ⟨_, rfl, by first | exact bool_ff (fun h => ht23 h.1) | exact bool_ff (by rw [hR]; omega) | exact bool_ff (by rw [hR]; intro hh; clear WS hR; simp only [false_iff, Classical.not_not] at *; omega) | exact bool_iff (by rw [hR]; clear WS hR; try simp only [false_iff, Classical.not_not] at *; refine ⟨fun h => ⟨hmm, ?_, ?_, ?_, ?_, ?_, ?_, ?_, ?_, ?_, ?_, ?_, ?_, ?_⟩, fun h => ?_⟩ <;> first | omega | (intro hq; omega) | (constructor <;> intro hq <;> omega)) | exact bool_ff (by rw [hR]; intro hh; have h7 := hh.2.2.2.2.2.2.2.2.2.2.2.2.2; have h8 := hh.2.2.2.2.2.2.2.2.2.1; clear WS hR; simp only [false_iff, Classical.not_not] at *; omega), hX⟩
                      · refine W_skip ?_
                        refine W_seq ?_
                        refine W_seq ?_
                        refine W_seq ?_
                        refine W_region ?_
                        refine op rfl (r_moveV (v := .bool _) rfl) ?_
                        refine op rfl (r_fieldAddr rfl Try.fld27_2 rfl) ?_
                        refine op rfl (r_load (v := .int _ _) rfl Try.underlying3 rfl (Blk.cell B0_1 rfl)) ?_
                        refine op rfl (r_fieldAddr rfl Try.fld24_0 rfl) ?_
                        refine op rfl (r_load (v := .int _ _) rfl Try.underlying3 rfl (Blk.cell B0_0 rfl)) ?_
                        refine op rfl (r_add' rfl rfl (wrap_i64 (by omega) (by omega))) ?_
                        refine op rfl (r_eql rfl rfl) ?_
                        refine op rfl ((by first | exact r_neqP rfl rfl Try.underlying4 | exact r_neqP (p := False) rfl rfl Try.underlying4)) ?_
                        refine op rfl (r_assignV (v := .bool _) rfl) ?_
                        refine WL_nil ?_
                        refine W_ifp rfl (fun ht64 => ?_) (fun ht64 => ?_)
                        · refine W_skip ?_
                          refine W_then (congrArg Value.bool (decide_eq_true ht64)) ?_
                          refine W_exit (blk_miss rfl (blk_miss rfl (blk_miss rfl (blk_hit ?_))))
                          refine W_seq ?_
                          refine W_seq ?_
                          refine W_region ?_
                          refine op rfl (r_assignV (v := .bool _) rfl) ?_
                          refine WL_nil ?_
                          refine W_ret (blk_ret (blk_ret (finX_ret ?_)))
                          refine fin1 ?_
                          exact ⟨_, rfl, by first | exact bool_ff (fun h => ht23 h.1) | exact bool_ff (by rw [hR]; omega) | exact bool_ff (by rw [hR]; intro hh; clear WS hR; simp only [false_iff, Classical.not_not] at *; omega) | exact bool_iff (by rw [hR]; clear WS hR; try simp only [false_iff, Classical.not_not] at *; refine ⟨fun h => ⟨hmm, ?_, ?_, ?_, ?_, ?_, ?_, ?_, ?_, ?_, ?_, ?_, ?_, ?_⟩, fun h => ?_⟩ <;> first | omega | (intro hq; omega) | (constructor <;> intro hq <;> omega)) | exact bool_ff (by rw [hR]; intro hh; have h7 := hh.2.2.2.2.2.2.2.2.2.2.2.2.2; have h8 := hh.2.2.2.2.2.2.2.2.2.1; clear WS hR; simp only [false_iff, Classical.not_not] at *; omega), hX⟩
                        · refine W_seq ?_
                          refine W_region ?_
                          refine op rfl (r_fieldAddr rfl Try.fld27_2 rfl) ?_
                          refine op rfl (r_load (v := .int _ _) rfl Try.underlying3 rfl (Blk.cell B0_1 rfl)) ?_
                          refine op rfl (r_lss rfl rfl) ?_
                          refine op rfl (r_assignV (v := .bool _) rfl) ?_
                          refine WL_nil ?_
                          refine W_ifp rfl (fun ht64 => ?_) (fun ht64 => ?_)
                          · refine W_skip ?_
                            refine W_then (congrArg Value.bool (decide_eq_true ht64)) ?_
                            refine W_exit (blk_miss rfl (blk_miss rfl (blk_miss rfl (blk_hit ?_))))
                            refine W_seq ?_
                            refine W_seq ?_
                            refine W_region ?_
                            refine op rfl (r_assignV (v := .bool _) rfl) ?_
                            refine WL_nil ?_
                            refine W_ret (blk_ret (blk_ret (finX_ret ?_)))
                            refine fin1 ?_
                            exact ⟨_, rfl, by first | exact bool_ff (fun h => ht23 h.1) | exact bool_ff (by rw [hR]; omega) | exact bool_ff (by rw [hR]; intro hh; clear WS hR; simp only [false_iff, Classical.not_not] at *; omega) | exact bool_iff (by rw [hR]; clear WS hR; try simp only [false_iff, Classical.not_not] at *; refine ⟨fun h => ⟨hmm, ?_, ?_, ?_, ?_, ?_, ?_, ?_, ?_, ?_, ?_, ?_, ?_, ?_⟩, fun h => ?_⟩ <;> first | omega | (intro hq; omega) | (constructor <;> intro hq <;> omega)) | exact bool_ff (by rw [hR]; intro hh; have h7 := hh.2.2.2.2.2.2.2.2.2.2.2.2.2; have h8 := hh.2.2.2.2.2.2.2.2.2.1; clear WS hR; simp only [false_iff, Classical.not_not] at *; omega), hX⟩
                          · refine W_region ?_
                            refine op rfl (r_fieldAddr rfl Try.fld27_2 rfl) ?_
                            refine op rfl (r_load (v := .int _ _) rfl Try.underlying3 rfl (Blk.cell B0_1 rfl)) ?_
                            refine op rfl (r_fieldAddr rfl Try.fld24_0 rfl) ?_
                            refine op rfl (r_load (v := .int _ _) rfl Try.underlying3 rfl (Blk.cell B0_0 rfl)) ?_
                            refine op rfl (r_add' rfl rfl (wrap_i64 (by omega) (by omega))) ?_
                            refine op rfl (r_gtr rfl rfl) ?_
                            refine op rfl (r_assignV (v := .bool _) rfl) ?_
                            refine WL_nil ?_
                            refine W_ifp rfl (fun ht64 => ?_) (fun ht64 => ?_)
                            · refine W_exit (blk_miss rfl (blk_miss rfl (blk_miss rfl (blk_hit ?_))))
                              refine W_seq ?_
                              refine W_seq ?_
                              refine W_region ?_
                              refine op rfl (r_assignV (v := .bool _) rfl) ?_
                              refine WL_nil ?_
                              refine W_ret (blk_ret (blk_ret (finX_ret ?_)))
                              refine fin1 ?_
                              exact ⟨_, rfl, by first | exact bool_ff (fun h => ht23 h.1) | exact bool_ff (by rw [hR]; omega) | exact bool_ff (by rw [hR]; intro hh; clear WS hR; simp only [false_iff, Classical.not_not] at *; omega) | exact bool_iff (by rw [hR]; clear WS hR; try simp only [false_iff, Classical.not_not] at *; refine ⟨fun h => ⟨hmm, ?_, ?_, ?_, ?_, ?_, ?_, ?_, ?_, ?_, ?_, ?_, ?_, ?_⟩, fun h => ?_⟩ <;> first | omega | (intro hq; omega) | (constructor <;> intro hq <;> omega)) | exact bool_ff (by rw [hR]; intro hh; have h7 := hh.2.2.2.2.2.2.2.2.2.2.2.2.2; have h8 := hh.2.2.2.2.2.2.2.2.2.1; clear WS hR; simp only [false_iff, Classical.not_not] at *; omega), hX⟩
                            · refine W_skip ?_
                              refine W_seq ?_
                              refine W_region ?_
                              refine op rfl (r_fieldAddr rfl Try.fld27_0 rfl) ?_
                              refine op rfl (r_load (v := .int _ _) rfl Try.underlying3 rfl (Blk.cell B0_1 rfl)) ?_
                              refine op rfl (r_neq rfl rfl) ?_
                              refine op rfl (r_assignV (v := .bool _) rfl) ?_
                              refine WL_nil ?_
                              refine W_ifp rfl (fun ht82 => ?_) (fun ht82 => ?_)
                              · refine W_exit (blk_miss rfl (blk_miss rfl (blk_miss rfl (blk_miss rfl (blk_hit ?_)))))
                                refine W_seq ?_
                                refine W_seq ?_
                                refine W_region ?_
                                refine op rfl (r_fieldAddr rfl Try.fld27_1 rfl) ?_
                                refine op rfl (r_load (v := .int _ _) rfl Try.underlying3 rfl (Blk.cell B0_1 rfl)) ?_
                                refine op rfl (r_eql rfl rfl) ?_
                                refine op rfl (r_assignV (v := .bool _) rfl) ?_
                                refine WL_nil ?_
                                refine W_ret (blk_ret (finX_ret ?_))
                                refine fin1 ?_
                                exact ⟨_, rfl, by first | exact bool_ff (fun h => ht23 h.1) | exact bool_ff (by rw [hR]; omega) | exact bool_ff (by rw [hR]; intro hh; clear WS hR; simp only [false_iff, Classical.not_not] at *; omega) | exact bool_iff (by rw [hR]; clear WS hR; try simp only [false_iff, Classical.not_not] at *; refine ⟨fun h => ⟨hmm, ?_, ?_, ?_, ?_, ?_, ?_, ?_, ?_, ?_, ?_, ?_, ?_, ?_⟩, fun h => ?_⟩ <;> first | omega | (intro hq; omega) | (constructor <;> intro hq <;> omega)) | exact bool_ff (by rw [hR]; intro hh; have h7 := hh.2.2.2.2.2.2.2.2.2.2.2.2.2; have h8 := hh.2.2.2.2.2.2.2.2.2.1; clear WS hR; simp only [false_iff, Classical.not_not] at *; omega), hX⟩
                              · refine W_skip ?_
                                refine W_exit (blk_miss rfl (blk_miss rfl (blk_miss rfl (blk_miss rfl (blk_miss rfl (blk_hit ?_))))))
                                refine W_seq ?_
                                refine W_region ?_
                                refine op rfl (r_fieldAddr rfl Try.fld27_1 rfl) ?_
                                refine op rfl (r_load (v := .int _ _) rfl Try.underlying3 rfl (Blk.cell B0_1 rfl)) ?_
                                refine op rfl (r_geq rfl rfl) ?_
                                refine op_split rfl (r_moveV (v := .bool (decide _)) rfl) (fun hg92 => ?_) (fun hg92 => ?_)
                                · refine opG_yes rfl rfl rfl rfl rfl (r_fieldAddr rfl Try.fld27_1 rfl) ?_
                                  refine opG_yes rfl rfl rfl rfl rfl (r_load (v := .int _ _) rfl Try.underlying3 rfl (Blk.cell B0_1 rfl)) ?_
                                  refine opG_yes rfl rfl rfl rfl rfl (r_leq rfl rfl) ?_
                                  refine op rfl (r_pickTV (v := .bool _) rfl rfl) ?_
                                  refine op rfl (r_assignV (v := .bool _) rfl) ?_
                                  refine WL_nil ?_
                                  refine W_ret (finX_ret ?_)
                                  refine fin1 ?_
                                  exact ⟨_, rfl, by first | exact bool_ff (fun h => ht23 h.1) | exact bool_ff (by rw [hR]; omega) | exact bool_ff (by rw [hR]; intro hh; clear WS hR; simp only [false_iff, Classical.not_not] at *; omega) | exact bool_iff (by rw [hR]; clear WS hR; try simp only [false_iff, Classical.not_not] at *; refine ⟨fun h => ⟨hmm, ?_, ?_, ?_, ?_, ?_, ?_, ?_, ?_, ?_, ?_, ?_, ?_, ?_⟩, fun h => ?_⟩ <;> first | omega | (intro hq; omega) | (constructor <;> intro hq <;> omega)) | exact bool_ff (by rw [hR]; intro hh; have h7 := hh.2.2.2.2.2.2.2.2.2.2.2.2.2; have h8 := hh.2.2.2.2.2.2.2.2.2.1; clear WS hR; simp only [false_iff, Classical.not_not] at *; omega), hX⟩
                                · refine opG_no rfl rfl rfl rfl rfl ?_
                                  refine opG_no rfl rfl rfl rfl rfl ?_
                                  refine opG_no rfl rfl rfl rfl rfl ?_
                                  refine op rfl (r_pickFV (v := .bool _) rfl rfl) ?_
                                  refine op rfl (r_assignV (v := .bool _) rfl) ?_
                                  refine WL_nil ?_
                                  refine W_ret (finX_ret ?_)
                                  refine fin1 ?_
                                  exact ⟨_, rfl, by first | exact bool_ff (fun h => ht23 h.1) | exact bool_ff (by rw [hR]; omega) | exact bool_ff (by rw [hR]; intro hh; clear WS hR; simp only [false_iff, Classical.not_not] at *; omega) | exact bool_iff (by rw [hR]; clear WS hR; try simp only [false_iff, Classical.not_not] at *; refine ⟨fun h => ⟨hmm, ?_, ?_, ?_, ?_, ?_, ?_, ?_, ?_, ?_, ?_, ?_, ?_, ?_⟩, fun h => ?_⟩ <;> first | omega | (intro hq; omega) | (constructor <;> intro hq <;> omega)) | exact bool_ff (by rw [hR]; intro hh; have h7 := hh.2.2.2.2.2.2.2.2.2.2.2.2.2; have h8 := hh.2.2.2.2.2.2.2.2.2.1; clear WS hR; simp only [false_iff, Classical.not_not] at *; omega), hX⟩
                · refine opG_no rfl rfl rfl rfl rfl ?_
                  refine opG_no rfl rfl rfl rfl rfl ?_
                  refine opG_no rfl rfl rfl rfl rfl ?_
                  refine op rfl (r_pickFV (v := .bool _) rfl rfl) ?_
                  refine op rfl (r_assignV (v := .bool _) rfl) ?_
                  refine WL_nil ?_
                  refine W_else rfl ?_
                  refine W_skip ?_
                  refine W_seq ?_
                  refine W_seq ?_
                  refine W_seq ?_
                  refine W_region ?_
                  refine op rfl (r_fieldAddr rfl Try.fld27_0 rfl) ?_
                  refine op rfl (r_load (v := .int _ _) rfl Try.underlying3 rfl (Blk.cell B0_1 rfl)) ?_
                  refine op rfl (r_eql rfl rfl) ?_
                  refine op rfl (r_fieldAddr rfl Try.fld27_4 rfl) ?_
                  refine op rfl (r_load (v := .int _ _) rfl Try.underlying3 rfl (Blk.cell B0_1 rfl)) ?_
                  refine op rfl (r_gtr rfl rfl) ?_
                  refine op rfl (r_neqP rfl rfl Try.underlying4) ?_
                  refine op rfl (r_assignV (v := .bool _) rfl) ?_
                  refine WL_nil ?_
                  refine W_ifp rfl (fun ht53 => ?_) (fun ht53 => ?_)
                  · refine W_skip ?_
                    refine W_then (congrArg Value.bool (decide_eq_true ht53)) ?_
                    refine W_exit (blk_miss rfl (blk_miss rfl (blk_hit ?_)))
                    refine W_seq ?_
                    refine W_seq ?_
                    refine W_region ?_
                    refine op rfl (r_assignV (v := .bool _) rfl) ?_
                    refine WL_nil ?_
                    refine W_ret (blk_ret (blk_ret (blk_ret (finX_ret ?_))))
                    refine fin1 ?_
                    exact ⟨_, rfl, by first | exact bool_ff (fun h => ht23 h.1) | exact bool_ff (by rw [hR]; omega) | exact bool_ff (by rw [hR]; intro hh; clear WS hR; simp only [false_iff, Classical.not_not] at *; omega) | exact bool_iff (by rw [hR]; clear WS hR; try simp only [false_iff, Classical.not_not] at *; refine ⟨fun h => ⟨hmm, ?_, ?_, ?_, ?_, ?_, ?_, ?_, ?_, ?_, ?_, ?_, ?_, ?_⟩, fun h => ?_⟩ <;> first | omega | (intro hq; omega) | (constructor <;> intro hq <;> omega)) | exact bool_ff (by rw [hR]; intro hh; have h7 := hh.2.2.2.2.2.2.2.2.2.2.2.2.2; have h8 := hh.2.2.2.2.2.2.2.2.2.1; clear WS hR; simp only [false_iff, Classical.not_not] at *; omega), hX⟩
                  · refine W_region ?_
                    refine op rfl (r_fieldAddr rfl Try.fld27_4 rfl) ?_
                    refine op rfl (r_load (v := .int _ _) rfl Try.underlying3 rfl (Blk.cell B0_1 rfl)) ?_
                    refine op rfl (r_lss rfl rfl) ?_
                    refine op rfl (r_assignV (v := .bool _) rfl) ?_
                    refine WL_nil ?_
                    refine W_ifp rfl (fun ht53 => ?_) (fun ht53 => ?_)
                    · refine W_exit (blk_miss rfl (blk_miss rfl (blk_hit ?_)))
                      refine W_seq ?_
                      refine W_seq ?_
                      refine W_region ?_
                      refine op rfl (r_assignV (v := .bool _) rfl) ?_
                      refine WL_nil ?_
                      refine W_ret (blk_ret (blk_ret (blk_ret (finX_ret ?_))))
                      refine fin1 ?_
                      exact ⟨_, rfl, by first | exact bool_ff (fun h => ht23 h.1) | exact bool_ff (by rw [hR]; omega) | exact bool_ff (by rw [hR]; intro hh; clear WS hR; simp only [false_iff, Classical.not_not] at *; omega) | exact bool_iff (by rw [hR]; clear WS hR; try simp only [false_iff, Classical.not_not] at *; refine ⟨fun h => ⟨hmm, ?_, ?_, ?_, ?_, ?_, ?_, ?_, ?_, ?_, ?_, ?_, ?_, ?_⟩, fun h => ?_⟩ <;> first | omega | (intro hq; omega) | (constructor <;> intro hq <;> omega)) | exact bool_ff (by rw [hR]; intro hh; have h7 := hh.2.2.2.2.2.2.2.2.2.2.2.2.2; have h8 := hh.2.2.2.2.2.2.2.2.2.1; clear WS hR; simp only [false_iff, Classical.not_not] at *; omega), hX⟩
                    · refine W_skip ?_
                      refine W_seq ?_
                      refine W_seq ?_
                      refine W_seq ?_
                      refine W_region ?_
                      refine op rfl (r_moveV (v := .bool _) rfl) ?_
                      refine op rfl (r_fieldAddr rfl Try.fld27_2 rfl) ?_
                      refine op rfl (r_load (v := .int _ _) rfl Try.underlying3 rfl (Blk.cell B0_1 rfl)) ?_
                      refine op rfl (r_fieldAddr rfl Try.fld24_0 rfl) ?_
                      refine op rfl (r_load (v := .int _ _) rfl Try.underlying3 rfl (Blk.cell B0_0 rfl)) ?_
                      refine op rfl (r_add' rfl rfl (wrap_i64 (by omega) (by omega))) ?_
                      refine op rfl (r_eql rfl rfl) ?_
                      refine op rfl ((by first | exact r_neqP rfl rfl Try.underlying4 | exact r_neqP (p := False) rfl rfl Try.underlying4)) ?_
                      refine op rfl (r_assignV (v := .bool _) rfl) ?_
                      refine WL_nil ?_
                      refine W_ifp rfl (fun ht64 => ?_) (fun ht64 => ?_)
                      · refine W_skip ?_
                        refine W_then (congrArg Value.bool (decide_eq_true ht64)) ?_
                        refine W_exit (blk_miss rfl (blk_miss rfl (blk_miss rfl (blk_hit ?_))))
                        refine W_seq ?_
                        refine W_seq ?_
                        refine W_region ?_
                        refine op rfl (r_assignV (v := .bool _) rfl) ?_
                        refine WL_nil ?_
                        refine W_ret (blk_ret (blk_ret (finX_ret ?_)))
                        refine fin1 ?_
                        exact ⟨_, rfl, by first | exact bool_ff (fun h => ht23 h.1) | exact bool_ff (by rw [hR]; omega) | exact bool_ff (by rw [hR]; intro hh; clear WS hR; simp only [false_iff, Classical.not_not] at *; omega) | exact bool_iff (by rw [hR]; clear WS hR; try simp only [false_iff, Classical.not_not] at *; refine ⟨fun h => ⟨hmm, ?_, ?_, ?_, ?_, ?_, ?_, ?_, ?_, ?_, ?_, ?_, ?_, ?_⟩, fun h => ?_⟩ <;> first | omega | (intro hq; omega) | (constructor <;> intro hq <;> omega)) | exact bool_ff (by rw [hR]; intro hh; have h7 := hh.2.2.2.2.2.2.2.2.2.2.2.2.2; have h8 := hh.2.2.2.2.2.2.2.2.2.1; clear WS hR; simp only [false_iff, Classical.not_not] at *; omega), hX⟩
                      · refine W_seq ?_
                        refine W_region ?_
                        refine op rfl (r_fieldAddr rfl Try.fld27_2 rfl) ?_
                        refine op rfl (r_load (v := .int _ _) rfl Try.underlying3 rfl (Blk.cell B0_1 rfl)) ?_
                        refine op rfl (r_lss rfl rfl) ?_
                        refine op rfl (r_assignV (v := .bool _) rfl) ?_
                        refine WL_nil ?_
                        refine W_ifp rfl (fun ht64 => ?_) (fun ht64 => ?_)
                        · refine W_skip ?_
                          refine W_then (congrArg Value.bool (decide_eq_true ht64)) ?_
                          refine W_exit (blk_miss rfl (blk_miss rfl (blk_miss rfl (blk_hit ?_))))
                          refine W_seq ?_
                          refine W_seq ?_
                          refine W_region ?_
                          refine op rfl (r_assignV (v := .bool _) rfl) ?_
                          refine WL_nil ?_
                          refine W_ret (blk_ret (blk_ret (finX_ret ?_)))
                          refine fin1 ?_
                          exact ⟨_, rfl, by first | exact bool_ff (fun h => ht23 h.1) | exact bool_ff (by rw [hR]; omega) | exact bool_ff (by rw [hR]; intro hh; clear WS hR; simp only [false_iff, Classical.not_not] at *; omega) | exact bool_iff (by rw [hR]; clear WS hR; try simp only [false_iff, Classical.not_not] at *; refine ⟨fun h => ⟨hmm, ?_, ?_, ?_, ?_, ?_, ?_, ?_, ?_, ?_, ?_, ?_, ?_, ?_⟩, fun h => ?_⟩ <;> first | omega | (intro hq; omega) | (constructor <;> intro hq <;> omega)) | exact bool_ff (by rw [hR]; intro hh; have h7 := hh.2.2.2.2.2.2.2.2.2.2.2.2.2; have h8 := hh.2.2.2.2.2.2.2.2.2.1; clear WS hR; simp only [false_iff, Classical.not_not] at *; omega), hX⟩
                        · refine W_region ?_
                          refine op rfl (r_fieldAddr rfl Try.fld27_2 rfl) ?_
                          refine op rfl (r_load (v := .int _ _) rfl Try.underlying3 rfl (Blk.cell B0_1 rfl)) ?_
                          refine op rfl (r_fieldAddr rfl Try.fld24_0 rfl) ?_
                          refine op rfl (r_load (v := .int _ _) rfl Try.underlying3 rfl (Blk.cell B0_0 rfl)) ?_
                          refine op rfl (r_add' rfl rfl (wrap_i64 (by omega) (by omega))) ?_
                          refine op rfl (r_gtr rfl rfl) ?_
                          refine op rfl (r_assignV (v := .bool _) rfl) ?_
                          refine WL_nil ?_
                          refine W_ifp rfl (fun ht64 => ?_) (fun ht64 => ?_)
                          · refine W_exit (blk_miss rfl (blk_miss rfl (blk_miss rfl (blk_hit ?_))))
                            refine W_seq ?_
                            refine W_seq ?_
                            refine W_region ?_
                            refine op rfl (r_assignV (v := .bool _) rfl) ?_
                            refine WL_nil ?_
                            refine W_ret (blk_ret (blk_ret (finX_ret ?_)))
                            refine fin1 ?_
                            exact ⟨_, rfl, by first | exact bool_ff (fun h => ht23 h.1) | exact bool_ff (by rw [hR]; omega) | exact bool_ff (by rw [hR]; intro hh; clear WS hR; simp only [false_iff, Classical.not_not] at *; omega) | exact bool_iff (by rw [hR]; clear WS hR; try simp only [false_iff, Classical.not_not] at *; refine ⟨fun h => ⟨hmm, ?_, ?_, ?_, ?_, ?_, ?_, ?_, ?_, ?_, ?_, ?_, ?_, ?_⟩, fun h => ?_⟩ <;> first | omega | (intro hq; omega) | (constructor <;> intro hq <;> omega)) | exact bool_ff (by rw [hR]; intro hh; have h7 := hh.2.2.2.2.2.2.2.2.2.2.2.2.2; have h8 := hh.2.2.2.2.2.2.2.2.2.1; clear WS hR; simp only [false_iff, Classical.not_not] at *; omega), hX⟩
                          · refine W_skip ?_
                            refine W_seq ?_
                            refine W_region ?_
                            refine op rfl (r_fieldAddr rfl Try.fld27_0 rfl) ?_
                            refine op rfl (r_load (v := .int _ _) rfl Try.underlying3 rfl (Blk.cell B0_1 rfl)) ?_
                            refine op rfl (r_neq rfl rfl) ?_
                            refine op rfl (r_assignV (v := .bool _) rfl) ?_
                            refine WL_nil ?_
                            refine W_ifp rfl (fun ht82 => ?_) (fun ht82 => ?_)
                            · refine W_exit (blk_miss rfl (blk_miss rfl (blk_miss rfl (blk_miss rfl (blk_hit ?_)))))
                              refine W_seq ?_
                              refine W_seq ?_
                              refine W_region ?_
                              refine op rfl (r_fieldAddr rfl Try.fld27_1 rfl) ?_
                              refine op rfl (r_load (v := .int _ _) rfl Try.underlying3 rfl (Blk.cell B0_1 rfl)) ?_
                              refine op rfl (r_eql rfl rfl) ?_
                              refine op rfl (r_assignV (v := .bool _) rfl) ?_
                              refine WL_nil ?_
                              refine W_ret (blk_ret (finX_ret ?_))
                              refine fin1 ?_
                              exact ⟨_, rfl, by first | exact bool_ff (fun h => ht23 h.1) | exact bool_ff (by rw [hR]; omega) | exact bool_ff (by rw [hR]; intro hh; clear WS hR; simp only [false_iff, Classical.not_not] at *; omega) | exact bool_iff (by rw [hR]; clear WS hR; try simp only [false_iff, Classical.not_not] at *; refine ⟨fun h => ⟨hmm, ?_, ?_, ?_, ?_, ?_, ?_, ?_, ?_, ?_, ?_, ?_, ?_, ?_⟩, fun h => ?_⟩ <;> first | omega | (intro hq; omega) | (constructor <;> intro hq <;> omega)) | exact bool_ff (by rw [hR]; intro hh; have h7 := hh.2.2.2.2.2.2.2.2.2.2.2.2.2; have h8 := hh.2.2.2.2.2.2.2.2.2.1; clear WS hR; simp only [false_iff, Classical.not_not] at *; omega), hX⟩
                            · refine W_skip ?_
                              refine W_exit (blk_miss rfl (blk_miss rfl (blk_miss rfl (blk_miss rfl (blk_miss rfl (blk_hit ?_))))))
                              refine W_seq ?_
                              refine W_region ?_
                              refine op rfl (r_fieldAddr rfl Try.fld27_1 rfl) ?_
                              refine op rfl (r_load (v := .int _ _) rfl Try.underlying3 rfl (Blk.cell B0_1 rfl)) ?_
                              refine op rfl (r_geq rfl rfl) ?_
                              refine op_split rfl (r_moveV (v := .bool (decide _)) rfl) (fun hg92 => ?_) (fun hg92 => ?_)
                              · refine opG_yes rfl rfl rfl rfl rfl (r_fieldAddr rfl Try.fld27_1 rfl) ?_
                                refine opG_yes rfl rfl rfl rfl rfl (r_load (v := .int _ _) rfl Try.underlying3 rfl (Blk.cell B0_1 rfl)) ?_
                                refine opG_yes rfl rfl rfl rfl rfl (r_leq rfl rfl) ?_
                                refine op rfl (r_pickTV (v := .bool _) rfl rfl) ?_
                                refine op rfl (r_assignV (v := .bool _) rfl) ?_
                                refine WL_nil ?_
                                refine W_ret (finX_ret ?_)
                                refine fin1 ?_
                                exact ⟨_, rfl, by first | exact bool_ff (fun h => ht23 h.1) | exact bool_ff (by rw [hR]; omega) | exact bool_ff (by rw [hR]; intro hh; clear WS hR; simp only [false_iff, Classical.not_not] at *; omega) | exact bool_iff (by rw [hR]; clear WS hR; try simp only [false_iff, Classical.not_not] at *; refine ⟨fun h => ⟨hmm, ?_, ?_, ?_, ?_, ?_, ?_, ?_, ?_, ?_, ?_, ?_, ?_, ?_⟩, fun h => ?_⟩ <;> first | omega | (intro hq; omega) | (constructor <;> intro hq <;> omega)) | exact bool_ff (by rw [hR]; intro hh; have h7 := hh.2.2.2.2.2.2.2.2.2.2.2.2.2; have h8 := hh.2.2.2.2.2.2.2.2.2.1; clear WS hR; simp only [false_iff, Classical.not_not] at *; omega), hX⟩
                              · refine opG_no rfl rfl rfl rfl rfl ?_
                                refine opG_no rfl rfl rfl rfl rfl ?_
                                refine opG_no rfl rfl rfl rfl rfl ?_
                                refine op rfl (r_pickFV (v := .bool _) rfl rfl) ?_
                                refine op rfl (r_assignV (v := .bool _) rfl) ?_
                                refine WL_nil ?_
                                refine W_ret (finX_ret ?_)
                                refine fin1 ?_
                                exact ⟨_, rfl, by first | exact bool_ff (fun h => ht23 h.1) | exact bool_ff (by rw [hR]; omega) | exact bool_ff (by rw [hR]; intro hh; clear WS hR; simp only [false_iff, Classical.not_not] at *; omega) | exact bool_iff (by rw [hR]; clear WS hR; try simp only [false_iff, Classical.not_not] at *; refine ⟨fun h => ⟨hmm, ?_, ?_, ?_, ?_, ?_, ?_, ?_, ?_, ?_, ?_, ?_, ?_, ?_⟩, fun h => ?_⟩ <;> first | omega | (intro hq; omega) | (constructor <;> intro hq <;> omega)) | exact bool_ff (by rw [hR]; intro hh; have h7 := hh.2.2.2.2.2.2.2.2.2.2.2.2.2; have h8 := hh.2.2.2.2.2.2.2.2.2.1; clear WS hR; simp only [false_iff, Classical.not_not] at *; omega), hX⟩
  · refine opG_no rfl rfl rfl rfl rfl ?_
    refine opG_no rfl rfl rfl rfl rfl ?_
    refine opG_no rfl rfl rfl rfl rfl ?_
    refine op rfl (r_pickFV (v := .bool _) rfl rfl) ?_
    refine op rfl (r_assignV (v := .bool _) rfl) ?_
    refine WL_nil ?_
    refine W_seq ?_
    refine W_block ?_
    refine W_seq ?_
    refine W_block ?_
    refine W_seq ?_
    refine W_block ?_
    refine W_seq ?_
    refine W_block ?_
    refine W_seq ?_
    refine W_block ?_
    refine W_block ?_
    refine W_seq ?_
    refine W_seq ?_
    refine W_seq ?_
    refine W_seq ?_
    refine W_region ?_
    refine op rfl (r_loadRow rfl B0_0 Try.underlying24 rfl Try.sz24) ?_
    refine opCv rfl (r_call Try.func15 Try.nm15 rfl) (may_spec m _) ?_
    rintro v w3 ⟨rfl, hE⟩
    replace B0_0 := Blk.ext B0_0 hE
    replace B0_1 := Blk.ext B0_1 hE
    replace hX := hX.trans hE
    refine op rfl (r_notP rfl) ?_
    refine op rfl (r_assignV (v := .bool _) rfl) ?_
    refine WL_nil ?_
    refine W_ifp rfl (fun ht23 => ?_) (fun ht23 => ?_)
    · refine W_skip ?_
      refine W_then (congrArg Value.bool (decide_eq_true ht23)) ?_
      refine W_exit (blk_hit ?_)
      refine W_seq ?_
      refine W_seq ?_
      refine W_region ?_
      refine op rfl (r_assignV (v := .bool _) rfl) ?_
      refine WL_nil ?_
      refine W_ret (blk_ret (blk_ret (blk_ret (blk_ret (finX_ret ?_)))))
      refine fin1 ?_
      exact ⟨_, rfl, by first | exact bool_ff (fun h => ht23 h.1) | exact bool_ff (by rw [hR]; omega) | exact bool_ff (by rw [hR]; intro hh; clear WS hR; simp only [false_iff, Classical.not_not] at *; omega) | exact bool_iff (by rw [hR]; clear WS hR; try simp only [false_iff, Classical.not_not] at *; refine ⟨fun h => ⟨hmm, ?_, ?_, ?_, ?_, ?_, ?_, ?_, ?_, ?_, ?_, ?_, ?_, ?_⟩, fun h => ?_⟩ <;> first | omega | (intro hq; omega) | (constructor <;> intro hq <;> omega)) | exact bool_ff (by rw [hR]; intro hh; have h7 := hh.2.2.2.2.2.2.2.2.2.2.2.2.2; have h8 := hh.2.2.2.2.2.2.2.2.2.1; clear WS hR; simp only [false_iff, Classical.not_not] at *; omega), hX⟩
    · first
        | (have hmm : m.May := Classical.byContradiction ht23
           have hmr := hMay hmm)
        | skip
      refine W_seq ?_
      refine W_region ?_
      refine op rfl (r_fieldAddr rfl Try.fld27_0 rfl) ?_
      refine op rfl (r_load (v := .int _ _) rfl Try.underlying3 rfl (Blk.cell B0_1 rfl)) ?_
      refine op rfl (r_lss rfl rfl) ?_
      refine op rfl (r_assignV (v := .bool _) rfl) ?_
      refine WL_nil ?_
      refine W_ifp rfl (fun ht23 => ?_) (fun ht23 => ?_)
      · refine W_skip ?_
        refine W_then (congrArg Value.bool (decide_eq_true ht23)) ?_
        refine W_exit (blk_hit ?_)
        refine W_seq ?_
        refine W_seq ?_
        refine W_region ?_
        refine op rfl (r_assignV (v := .bool _) rfl) ?_
        refine WL_nil ?_
        refine W_ret (blk_ret (blk_ret (blk_ret (blk_ret (finX_ret ?_)))))
        refine fin1 ?_
        exact ⟨_, rfl, by first | exact bool_ff (fun h => ht23 h.1) | exact bool_ff (by rw [hR]; omega) | exact bool_ff (by rw [hR]; intro hh; clear WS hR; simp only [false_iff, Classical.not_not] at *; omega) | exact bool_iff (by rw [hR]; clear WS hR; try simp only [false_iff, Classical.not_not] at *; refine ⟨fun h => ⟨hmm, ?_, ?_, ?_, ?_, ?_, ?_, ?_, ?_, ?_, ?_, ?_, ?_, ?_⟩, fun h => ?_⟩ <;> first | omega | (intro hq; omega) | (constructor <;> intro hq <;> omega)) | exact bool_ff (by rw [hR]; intro hh; have h7 := hh.2.2.2.2.2.2.2.2.2.2.2.2.2; have h8 := hh.2.2.2.2.2.2.2.2.2.1; clear WS hR; simp only [false_iff, Classical.not_not] at *; omega), hX⟩
      · first
          | (have hmm : m.May := Classical.byContradiction ht23
             have hmr := hMay hmm)
          | skip
        refine W_region ?_
        refine op rfl (r_fieldAddr rfl Try.fld27_0 rfl) ?_
        refine op rfl (r_load (v := .int _ _) rfl Try.underlying3 rfl (Blk.cell B0_1 rfl)) ?_
        refine op rfl (r_gtr rfl rfl) ?_
        refine op rfl (r_assignV (v := .bool _) rfl) ?_
        refine WL_nil ?_
        refine W_ifp rfl (fun ht23 => ?_) (fun ht23 => ?_)
        · refine W_exit (blk_hit ?_)
          refine W_seq ?_
          refine W_seq ?_
          refine W_region ?_
          refine op rfl (r_assignV (v := .bool _) rfl) ?_
          refine WL_nil ?_
          refine W_ret (blk_ret (blk_ret (blk_ret (blk_ret (finX_ret ?_)))))
          refine fin1 ?_
          exact ⟨_, rfl, by first | exact bool_ff (fun h => ht23 h.1) | exact bool_ff (by rw [hR]; omega) | exact bool_ff (by rw [hR]; intro hh; clear WS hR; simp only [false_iff, Classical.not_not] at *; omega) | exact bool_iff (by rw [hR]; clear WS hR; try simp only [false_iff, Classical.not_not] at *; refine ⟨fun h => ⟨hmm, ?_, ?_, ?_, ?_, ?_, ?_, ?_, ?_, ?_, ?_, ?_, ?_, ?_⟩, fun h => ?_⟩ <;> first | omega | (intro hq; omega) | (constructor <;> intro hq <;> omega)) | exact bool_ff (by rw [hR]; intro hh; have h7 := hh.2.2.2.2.2.2.2.2.2.2.2.2.2; have h8 := hh.2.2.2.2.2.2.2.2.2.1; clear WS hR; simp only [false_iff, Classical.not_not] at *; omega), hX⟩
        · first
            | (have hmm : m.May := Classical.byContradiction ht23
               have hmr := hMay hmm)
            | skip
          refine W_skip ?_
          refine W_seq ?_
          refine W_seq ?_
          refine W_seq ?_
          refine W_region ?_
          refine op rfl (r_fieldAddr rfl Try.fld27_3 rfl) ?_
          refine op rfl (r_load (v := .int _ _) rfl Try.underlying3 rfl (Blk.cell B0_1 rfl)) ?_
          refine op rfl (r_moveV (v := .int .i64 lst) rfl) ?_
          refine op rfl (r_lss rfl rfl) ?_
          refine op rfl (r_assignV (v := .bool _) rfl) ?_
          refine WL_nil ?_
          refine W_ifp rfl (fun ht33 => ?_) (fun ht33 => ?_)
          · refine W_skip ?_
            refine W_then (congrArg Value.bool (decide_eq_true ht33)) ?_
            refine W_exit (blk_miss rfl (blk_hit ?_))
            refine W_seq ?_
            refine W_seq ?_
            refine W_region ?_
            refine op rfl (r_assignV (v := .bool _) rfl) ?_
            refine WL_nil ?_
            refine W_ret (blk_ret (blk_ret (blk_ret (blk_ret (finX_ret ?_)))))
            refine fin1 ?_
            exact ⟨_, rfl, by first | exact bool_ff (fun h => ht23 h.1) | exact bool_ff (by rw [hR]; omega) | exact bool_ff (by rw [hR]; intro hh; clear WS hR; simp only [false_iff, Classical.not_not] at *; omega) | exact bool_iff (by rw [hR]; clear WS hR; try simp only [false_iff, Classical.not_not] at *; refine ⟨fun h => ⟨hmm, ?_, ?_, ?_, ?_, ?_, ?_, ?_, ?_, ?_, ?_, ?_, ?_, ?_⟩, fun h => ?_⟩ <;> first | omega | (intro hq; omega) | (constructor <;> intro hq <;> omega)) | exact bool_ff (by rw [hR]; intro hh; have h7 := hh.2.2.2.2.2.2.2.2.2.2.2.2.2; have h8 := hh.2.2.2.2.2.2.2.2.2.1; clear WS hR; simp only [false_iff, Classical.not_not] at *; omega), hX⟩
          · refine W_seq ?_
            refine W_region ?_
            refine op rfl (r_fieldAddr rfl Try.fld27_3 rfl) ?_
            refine op rfl (r_load (v := .int _ _) rfl Try.underlying3 rfl (Blk.cell B0_1 rfl)) ?_
            refine op rfl (r_moveV (v := .int .i64 mst) rfl) ?_
            refine op rfl (r_gtr rfl rfl) ?_
            refine op rfl (r_assignV (v := .bool _) rfl) ?_
            refine WL_nil ?_
            refine W_ifp rfl (fun ht33 => ?_) (fun ht33 => ?_)
            · refine W_skip ?_
              refine W_then (congrArg Value.bool (decide_eq_true ht33)) ?_
              refine W_exit (blk_miss rfl (blk_hit ?_))
              refine W_seq ?_
              refine W_seq ?_
              refine W_region ?_
              refine op rfl (r_assignV (v := .bool _) rfl) ?_
              refine WL_nil ?_
              refine W_ret (blk_ret (blk_ret (blk_ret (blk_ret (finX_ret ?_)))))
              refine fin1 ?_
              exact ⟨_, rfl, by first | exact bool_ff (fun h => ht23 h.1) | exact bool_ff (by rw [hR]; omega) | exact bool_ff (by rw [hR]; intro hh; clear WS hR; simp only [false_iff, Classical.not_not] at *; omega) | exact bool_iff (by rw [hR]; clear WS hR; try simp only [false_iff, Classical.not_not] at *; refine ⟨fun h => ⟨hmm, ?_, ?_, ?_, ?_, ?_, ?_, ?_, ?_, ?_, ?_, ?_, ?_, ?_⟩, fun h => ?_⟩ <;> first | omega | (intro hq; omega) | (constructor <;> intro hq <;> omega)) | exact bool_ff (by rw [hR]; intro hh; have h7 := hh.2.2.2.2.2.2.2.2.2.2.2.2.2; have h8 := hh.2.2.2.2.2.2.2.2.2.1; clear WS hR; simp only [false_iff, Classical.not_not] at *; omega), hX⟩
            · refine W_seq ?_
              refine W_region ?_
              refine op rfl (r_fieldAddr rfl Try.fld27_5 rfl) ?_
              refine op rfl (r_load (v := .int _ _) rfl Try.underlying3 rfl (Blk.cell B0_1 rfl)) ?_
              refine op rfl (r_lss rfl rfl) ?_
              refine op rfl (r_assignV (v := .bool _) rfl) ?_
              refine WL_nil ?_
              refine W_ifp rfl (fun ht33 => ?_) (fun ht33 => ?_)
              · refine W_skip ?_
                refine W_then (congrArg Value.bool (decide_eq_true ht33)) ?_
                refine W_exit (blk_miss rfl (blk_hit ?_))
                refine W_seq ?_
                refine W_seq ?_
                refine W_region ?_
                refine op rfl (r_assignV (v := .bool _) rfl) ?_
                refine WL_nil ?_
                refine W_ret (blk_ret (blk_ret (blk_ret (blk_ret (finX_ret ?_)))))
                refine fin1 ?_
                exact ⟨_, rfl, by first | exact bool_ff (fun h => ht23 h.1) | exact bool_ff (by rw [hR]; omega) | exact bool_ff (by rw [hR]; intro hh; clear WS hR; simp only [false_iff, Classical.not_not] at *; omega) | exact bool_iff (by rw [hR]; clear WS hR; try simp only [false_iff, Classical.not_not] at *; refine ⟨fun h => ⟨hmm, ?_, ?_, ?_, ?_, ?_, ?_, ?_, ?_, ?_, ?_, ?_, ?_, ?_⟩, fun h => ?_⟩ <;> first | omega | (intro hq; omega) | (constructor <;> intro hq <;> omega)) | exact bool_ff (by rw [hR]; intro hh; have h7 := hh.2.2.2.2.2.2.2.2.2.2.2.2.2; have h8 := hh.2.2.2.2.2.2.2.2.2.1; clear WS hR; simp only [false_iff, Classical.not_not] at *; omega), hX⟩
              · refine W_region ?_
                refine op rfl (r_fieldAddr rfl Try.fld27_5 rfl) ?_
                refine op rfl (r_load (v := .int _ _) rfl Try.underlying3 rfl (Blk.cell B0_1 rfl)) ?_
                refine op rfl (r_gtr rfl rfl) ?_
                refine op_split rfl (r_moveV (v := .bool (decide _)) rfl) (fun hg48 => ?_) (fun hg48 => ?_)
                · refine opG_yes rfl rfl rfl rfl rfl (r_fieldAddr rfl Try.fld27_0 rfl) ?_
                  refine opG_yes rfl rfl rfl rfl rfl (r_load (v := .int _ _) rfl Try.underlying3 rfl (Blk.cell B0_1 rfl)) ?_
                  refine opG_yes rfl rfl rfl rfl rfl (r_neq rfl rfl) ?_
                  refine op rfl (r_pickTV (v := .bool _) rfl rfl) ?_
                  refine op rfl (r_assignV (v := .bool _) rfl) ?_
                  refine WL_nil ?_
                  refine W_ifp rfl (fun ht33 => ?_) (fun ht33 => ?_)
                  · refine W_exit (blk_miss rfl (blk_hit ?_))
                    refine W_seq ?_
                    refine W_seq ?_
                    refine W_region ?_
                    refine op rfl (r_assignV (v := .bool _) rfl) ?_
                    refine WL_nil ?_
                    refine W_ret (blk_ret (blk_ret (blk_ret (blk_ret (finX_ret ?_)))))
                    refine fin1 ?_
                    exact ⟨_, rfl, by first | exact bool_ff (fun h => ht23 h.1) | exact bool_ff (by rw [hR]; omega) | exact bool_ff (by rw [hR]; intro hh; clear WS hR; simp only [false_iff, Classical.not_not] at *; omega) | exact bool_iff (by rw [hR]; clear WS hR; try simp only [false_iff, Classical.not_not] at *; refine ⟨fun h => ⟨hmm, ?_, ?_, ?_, ?_, ?_, ?_, ?_, ?_, ?_, ?_, ?_, ?_, ?_⟩, fun h => ?_⟩ <;> first | omega | (intro hq; omega) | (constructor <;> intro hq <;> omega)) | exact bool_ff (by rw [hR]; intro hh; have h7 := hh.2.2.2.2.2.2.2.2.2.2.2.2.2; have h8 := hh.2.2.2.2.2.2.2.2.2.1; clear WS hR; simp only [false_iff, Classical.not_not] at *; omega), hX⟩
                  · refine W_skip ?_
                    refine W_seq ?_
                    refine W_seq ?_
                    refine W_seq ?_
                    refine W_region ?_
                    refine op rfl (r_fieldAddr rfl Try.fld27_0 rfl) ?_
                    refine op rfl (r_load (v := .int _ _) rfl Try.underlying3 rfl (Blk.cell B0_1 rfl)) ?_
                    refine op rfl (r_eql rfl rfl) ?_
                    refine op rfl (r_fieldAddr rfl Try.fld27_4 rfl) ?_
                    refine op rfl (r_load (v := .int _ _) rfl Try.underlying3 rfl (Blk.cell B0_1 rfl)) ?_
                    refine op rfl (r_gtr rfl rfl) ?_
                    refine op rfl (r_neqP rfl rfl Try.underlying4) ?_
                    refine op rfl (r_assignV (v := .bool _) rfl) ?_
                    refine WL_nil ?_
                    refine W_ifp rfl (fun ht53 => ?_) (fun ht53 => ?_)
                    · refine W_skip ?_
                      refine W_then (congrArg Value.bool (decide_eq_true ht53)) ?_
                      refine W_exit (blk_miss rfl (blk_miss rfl (blk_hit ?_)))
                      refine W_seq ?_
                      refine W_seq ?_
                      refine W_region ?_
                      refine op rfl (r_assignV (v := .bool _) rfl) ?_
                      refine WL_nil ?_
                      refine W_ret (blk_ret (blk_ret (blk_ret (finX_ret ?_))))
                      refine fin1 ?_
                      exact ⟨_, rfl, by first | exact bool_ff (fun h => ht23 h.1) | exact bool_ff (by rw [hR]; omega) | exact bool_ff (by rw [hR]; intro hh; clear WS hR; simp only [false_iff, Classical.not_not] at *; omega) | exact bool_iff (by rw [hR]; clear WS hR; try simp only [false_iff, Classical.not_not] at *; refine ⟨fun h => ⟨hmm, ?_, ?_, ?_, ?_, ?_, ?_, ?_, ?_, ?_, ?_, ?_, ?_, ?_⟩, fun h => ?_⟩ <;> first | omega | (intro hq; omega) | (constructor <;> intro hq <;> omega)) | exact bool_ff (by rw [hR]; intro hh; have h7 := hh.2.2.2.2.2.2.2.2.2.2.2.2.2; have h8 := hh.2.2.2.2.2.2.2.2.2.1; clear WS hR; simp only [false_iff, Classical.not_not] at *; omega), hX⟩
                    · refine W_region ?_
                      refine op rfl (r_fieldAddr rfl Try.fld27_4 rfl) ?_
                      refine op rfl (r_load (v := .int _ _) rfl Try.underlying3 rfl (Blk.cell B0_1 rfl)) ?_
                      refine op rfl (r_lss rfl rfl) ?_
                      refine op rfl (r_assignV (v := .bool _) rfl) ?_
                      refine WL_nil ?_
                      refine W_ifp rfl (fun ht53 => ?_) (fun ht53 => ?_)
                      · refine W_exit (blk_miss rfl (blk_miss rfl (blk_hit ?_)))
                        refine W_seq ?_
                        refine W_seq ?_
                        refine W_region ?_
                        refine op rfl (r_assignV (v := .bool _) rfl) ?_
                        refine WL_nil ?_
                        refine W_ret (blk_ret (blk_ret (blk_ret (finX_ret ?_))))
                        refine fin1 ?_
                        exact ⟨_, rfl, by first | exact bool_ff (fun h => ht23 h.1) | exact bool_ff (by rw [hR]; omega) | exact bool_ff (by rw [hR]; intro hh; clear WS hR; simp only [false_iff, Classical.not_not] at *; omega) | exact bool_iff (by rw [hR]; clear WS hR; try simp only [false_iff, Classical.not_not] at *; refine ⟨fun h => ⟨hmm, ?_, ?_, ?_, ?_, ?_, ?_, ?_, ?_, ?_, ?_, ?_, ?_, ?_⟩, fun h => ?_⟩ <;> first | omega | (intro hq; omega) | (constructor <;> intro hq <;> omega)) | exact bool_ff (by rw [hR]; intro hh; have h7 := hh.2.2.2.2.2.2.2.2.2.2.2.2.2; have h8 := hh.2.2.2.2.2.2.2.2.2.1; clear WS hR; simp only [false_iff, Classical.not_not] at *; omega), hX⟩
                      · refine W_skip ?_
                        refine W_seq ?_
                        refine W_seq ?_
                        refine W_seq ?_
                        refine W_region ?_
                        refine op rfl (r_moveV (v := .bool _) rfl) ?_
                        refine op rfl (r_fieldAddr rfl Try.fld27_2 rfl) ?_
                        refine op rfl (r_load (v := .int _ _) rfl Try.underlying3 rfl (Blk.cell B0_1 rfl)) ?_
                        refine op rfl (r_fieldAddr rfl Try.fld24_0 rfl) ?_
                        refine op rfl (r_load (v := .int _ _) rfl Try.underlying3 rfl (Blk.cell B0_0 rfl)) ?_
                        refine op rfl (r_add' rfl rfl (wrap_i64 (by omega) (by omega))) ?_
                        refine op rfl (r_eql rfl rfl) ?_
                        refine op rfl ((by first | exact r_neqP rfl rfl Try.underlying4 | exact r_neqP (p := False) rfl rfl Try.underlying4)) ?_
                        refine op rfl (r_assignV (v := .bool _) rfl) ?_
                        refine WL_nil ?_
                        refine W_ifp rfl (fun ht64 => ?_) (fun ht64 => ?_)
                        · refine W_skip ?_
                          refine W_then (congrArg Value.bool (decide_eq_true ht64)) ?_
                          refine W_exit (blk_miss rfl (blk_miss rfl (blk_miss rfl (blk_hit ?_))))
                          refine W_seq ?_
                          refine W_seq ?_
                          refine W_region ?_
                          refine op rfl (r_assignV (v := .bool _) rfl) ?_
                          refine WL_nil ?_
                          refine W_ret (blk_ret (blk_ret (finX_ret ?_)))
                          refine fin1 ?_
                          exact ⟨_, rfl, by first | exact bool_ff (fun h => ht23 h.1) | exact bool_ff (by rw [hR]; omega) | exact bool_ff (by rw [hR]; intro hh; clear WS hR; simp only [false_iff, Classical.not_not] at *; omega) | exact bool_iff (by rw [hR]; clear WS hR; try simp only [false_iff, Classical.not_not] at *; refine ⟨fun h => ⟨hmm, ?_, ?_, ?_, ?_, ?_, ?_, ?_, ?_, ?_, ?_, ?_, ?_, ?_⟩, fun h => ?_⟩ <;> first | omega | (intro hq; omega) | (constructor <;> intro hq <;> omega)) | exact bool_ff (by rw [hR]; intro hh; have h7 := hh.2.2.2.2.2.2.2.2.2.2.2.2.2; have h8 := hh.2.2.2.2.2.2.2.2.2.1; clear WS hR; simp only [false_iff, Classical.not_not] at *; omega), hX⟩
                        · refine W_seq ?_
                          refine W_region ?_
                          refine op rfl (r_fieldAddr rfl Try.fld27_2 rfl) ?_
                          refine op rfl (r_load (v := .int _ _) rfl Try.underlying3 rfl (Blk.cell B0_1 rfl)) ?_
                          refine op rfl (r_lss rfl rfl) ?_
                          refine op rfl (r_assignV (v := .bool _) rfl) ?_
                          refine WL_nil ?_
                          refine W_ifp rfl (fun ht64 => ?_) (fun ht64 => ?_)
                          · refine W_skip ?_
                            refine W_then (congrArg Value.bool (decide_eq_true ht64)) ?_
                            refine W_exit (blk_miss rfl (blk_miss rfl (blk_miss rfl (blk_hit ?_))))
                            refine W_seq ?_
                            refine W_seq ?_
                            refine W_region ?_
                            refine op rfl (r_assignV (v := .bool _) rfl) ?_
                            refine WL_nil ?_
                            refine W_ret (blk_ret (blk_ret (finX_ret ?_)))
                            refine fin1 ?_
                            exact ⟨_, rfl, by first | exact bool_ff (fun h => ht23 h.1) | exact bool_ff (by rw [hR]; omega) | exact bool_ff (by rw [hR]; intro hh; clear WS hR; simp only [false_iff, Classical.not_not] at *; omega) | exact bool_iff (by rw [hR]; clear WS hR; try simp only [false_iff, Classical.not_not] at *; refine ⟨fun h => ⟨hmm, ?_, ?_, ?_, ?_, ?_, ?_, ?_, ?_, ?_, ?_, ?_, ?_, ?_⟩, fun h => ?_⟩ <;> first | omega | (intro hq; omega) | (constructor <;> intro hq <;> omega)) | exact bool_ff (by rw [hR]; intro hh; have h7 := hh.2.2.2.2.2.2.2.2.2.2.2.2.2; have h8 := hh.2.2.2.2.2.2.2.2.2.1; clear WS hR; simp only [false_iff, Classical.not_not] at *; omega), hX⟩
                          · refine W_region ?_
                            refine op rfl (r_fieldAddr rfl Try.fld27_2 rfl) ?_
                            refine op rfl (r_load (v := .int _ _) rfl Try.underlying3 rfl (Blk.cell B0_1 rfl)) ?_
                            refine op rfl (r_fieldAddr rfl Try.fld24_0 rfl) ?_
                            refine op rfl (r_load (v := .int _ _) rfl Try.underlying3 rfl (Blk.cell B0_0 rfl)) ?_
                            refine op rfl (r_add' rfl rfl (wrap_i64 (by omega) (by omega))) ?_
                            refine op rfl (r_gtr rfl rfl) ?_
                            refine op rfl (r_assignV (v := .bool _) rfl) ?_
                            refine WL_nil ?_
                            refine W_ifp rfl (fun ht64 => ?_) (fun ht64 => ?_)
                            · refine W_exit (blk_miss rfl (blk_miss rfl (blk_miss rfl (blk_hit ?_))))
                              refine W_seq ?_
                              refine W_seq ?_
                              refine W_region ?_
                              refine op rfl (r_assignV (v := .bool _) rfl) ?_
                              refine WL_nil ?_
                              refine W_ret (blk_ret (blk_ret (finX_ret ?_)))
                              refine fin1 ?_
                              exact ⟨_, rfl, by first | exact bool_ff (fun h => ht23 h.1) | exact bool_ff (by rw [hR]; omega) | exact bool_ff (by rw [hR]; intro hh; clear WS hR; simp only [false_iff, Classical.not_not] at *; omega) | exact bool_iff (by rw [hR]; clear WS hR; try simp only [false_iff, Classical.not_not] at *; refine ⟨fun h => ⟨hmm, ?_, ?_, ?_, ?_, ?_, ?_, ?_, ?_, ?_, ?_, ?_, ?_, ?_⟩, fun h => ?_⟩ <;> first | omega | (intro hq; omega) | (constructor <;> intro hq <;> omega)) | exact bool_ff (by rw [hR]; intro hh; have h7 := hh.2.2.2.2.2.2.2.2.2.2.2.2.2; have h8 := hh.2.2.2.2.2.2.2.2.2.1; clear WS hR; simp only [false_iff, Classical.not_not] at *; omega), hX⟩
                            · refine W_skip ?_
                              refine W_seq ?_
                              refine W_region ?_
                              refine op rfl (r_fieldAddr rfl Try.fld27_0 rfl) ?_
                              refine op rfl (r_load (v := .int _ _) rfl Try.underlying3 rfl (Blk.cell B0_1 rfl)) ?_
                              refine op rfl (r_neq rfl rfl) ?_
                              refine op rfl (r_assignV (v := .bool _) rfl) ?_
                              refine WL_nil ?_
                              refine W_ifp rfl (fun ht82 => ?_) (fun ht82 => ?_)
                              · refine W_exit (blk_miss rfl (blk_miss rfl (blk_miss rfl (blk_miss rfl (blk_hit ?_)))))
                                refine W_seq ?_
                                refine W_seq ?_
                                refine W_region ?_
                                refine op rfl (r_fieldAddr rfl Try.fld27_1 rfl) ?_
                                refine op rfl (r_load (v := .int _ _) rfl Try.underlying3 rfl (Blk.cell B0_1 rfl)) ?_
                                refine op rfl (r_eql rfl rfl) ?_
                                refine op rfl (r_assignV (v := .bool _) rfl) ?_
                                refine WL_nil ?_
                                refine W_ret (blk_ret (finX_ret ?_))
                                refine fin1 ?_
                                exact ⟨_, rfl, by first | exact bool_ff (fun h => ht23 h.1) | exact bool_ff (by rw [hR]; omega) | exact bool_ff (by rw [hR]; intro hh; clear WS hR; simp only [false_iff, Classical.not_not] at *; omega) | exact bool_iff (by rw [hR]; clear WS hR; try simp only [false_iff, Classical.not_not] at *; refine ⟨fun h => ⟨hmm, ?_, ?_, ?_, ?_, ?_, ?_, ?_, ?_, ?_, ?_, ?_, ?_, ?_⟩, fun h => ?_⟩ <;> first | omega | (intro hq; omega) | (constructor <;> intro hq <;> omega)) | exact bool_ff (by rw [hR]; intro hh; have h7 := hh.2.2.2.2.2.2.2.2.2.2.2.2.2; have h8 := hh.2.2.2.2.2.2.2.2.2.1; clear WS hR; simp only [false_iff, Classical.not_not] at *; omega), hX⟩
                              · refine W_skip ?_
                                refine W_exit (blk_miss rfl (blk_miss rfl (blk_miss rfl (blk_miss rfl (blk_miss rfl (blk_hit ?_))))))
                                refine W_seq ?_
                                refine W_region ?_
                                refine op rfl (r_fieldAddr rfl Try.fld27_1 rfl) ?_
                                refine op rfl (r_load (v := .int _ _) rfl Try.underlying3 rfl (Blk.cell B0_1 rfl)) ?_
                                refine op rfl (r_geq rfl rfl) ?_
                                refine op_split rfl (r_moveV (v := .bool (decide _)) rfl) (fun hg92 => ?_) (fun hg92 => ?_)
                                · refine opG_yes rfl rfl rfl rfl rfl (r_fieldAddr rfl Try.fld27_1 rfl) ?_
                                  refine opG_yes rfl rfl rfl rfl rfl (r_load (v := .int _ _) rfl Try.underlying3 rfl (Blk.cell B0_1 rfl)) ?_
                                  refine opG_yes rfl rfl rfl rfl rfl (r_leq rfl rfl) ?_
                                  refine op rfl (r_pickTV (v := .bool _) rfl rfl) ?_
                                  refine op rfl (r_assignV (v := .bool _) rfl) ?_
                                  refine WL_nil ?_
                                  refine W_ret (finX_ret ?_)
                                  refine fin1 ?_
                                  exact ⟨_, rfl, by first | exact bool_ff (fun h => ht23 h.1) | exact bool_ff (by rw [hR]; omega) | exact bool_ff (by rw [hR]; intro hh; clear WS hR; simp only [false_iff, Classical.not_not] at *; omega) | exact bool_iff (by rw [hR]; clear WS hR; try simp only [false_iff, Classical.not_not] at *; refine ⟨fun h => ⟨hmm, ?_, ?_, ?_, ?_, ?_, ?_, ?_, ?_, ?_, ?_, ?_, ?_, ?_⟩, fun h => ?_⟩ <;> first | omega | (intro hq; omega) | (constructor <;> intro hq <;> omega)) | exact bool_ff (by rw [hR]; intro hh; have h7 := hh.2.2.2.2.2.2.2.2.2.2.2.2.2; have h8 := hh.2.2.2.2.2.2.2.2.2.1; clear WS hR; simp only [false_iff, Classical.not_not] at *; omega), hX⟩
                                · refine opG_no rfl rfl rfl rfl rfl ?_
                                  refine opG_no rfl rfl rfl rfl rfl ?_
                                  refine opG_no rfl rfl rfl rfl rfl ?_
                                  refine op rfl (r_pickFV (v := .bool _) rfl rfl) ?_
                                  refine op rfl (r_assignV (v := .bool _) rfl) ?_
                                  refine WL_nil ?_
                                  refine W_ret (finX_ret ?_)
                                  refine fin1 ?_
                                  exact ⟨_, rfl, by first | exact bool_ff (fun h => ht23 h.1) | exact bool_ff (by rw [hR]; omega) | exact bool_ff (by rw [hR]; intro hh; clear WS hR; simp only [false_iff, Classical.not_not] at *; omega) | exact bool_iff (by rw [hR]; clear WS hR; try simp only [false_iff, Classical.not_not] at *; refine ⟨fun h => ⟨hmm, ?_, ?_, ?_, ?_, ?_, ?_, ?_, ?_, ?_, ?_, ?_, ?_, ?_⟩, fun h => ?_⟩ <;> first | omega | (intro hq; omega) | (constructor <;> intro hq <;> omega)) | exact bool_ff (by rw [hR]; intro hh; have h7 := hh.2.2.2.2.2.2.2.2.2.2.2.2.2; have h8 := hh.2.2.2.2.2.2.2.2.2.1; clear WS hR; simp only [false_iff, Classical.not_not] at *; omega), hX⟩
                · refine opG_no rfl rfl rfl rfl rfl ?_
                  refine opG_no rfl rfl rfl rfl rfl ?_
                  refine opG_no rfl rfl rfl rfl rfl ?_
                  refine op rfl (r_pickFV (v := .bool _) rfl rfl) ?_
                  refine op rfl (r_assignV (v := .bool _) rfl) ?_
                  refine WL_nil ?_
                  refine W_else rfl ?_
                  refine W_skip ?_
                  refine W_seq ?_
                  refine W_seq ?_
                  refine W_seq ?_
                  refine W_region ?_
                  refine op rfl (r_fieldAddr rfl Try.fld27_0 rfl) ?_
                  refine op rfl (r_load (v := .int _ _) rfl Try.underlying3 rfl (Blk.cell B0_1 rfl)) ?_
                  refine op rfl (r_eql rfl rfl) ?_
                  refine op rfl (r_fieldAddr rfl Try.fld27_4 rfl) ?_
                  refine op rfl (r_load (v := .int _ _) rfl Try.underlying3 rfl (Blk.cell B0_1 rfl)) ?_
                  refine op rfl (r_gtr rfl rfl) ?_
                  refine op rfl (r_neqP rfl rfl Try.underlying4) ?_
                  refine op rfl (r_assignV (v := .bool _) rfl) ?_
                  refine WL_nil ?_
                  refine W_ifp rfl (fun ht53 => ?_) (fun ht53 => ?_)
                  · refine W_skip ?_
                    refine W_then (congrArg Value.bool (decide_eq_true ht53)) ?_
                    refine W_exit (blk_miss rfl (blk_miss rfl (blk_hit ?_)))
                    refine W_seq ?_
                    refine W_seq ?_
                    refine W_region ?_
                    refine op rfl (r_assignV (v := .bool _) rfl) ?_
                    refine WL_nil ?_
                    refine W_ret (blk_ret (blk_ret (blk_ret (finX_ret ?_))))
                    refine fin1 ?_
                    exact ⟨_, rfl, by first | exact bool_ff (fun h => ht23 h.1) | exact bool_ff (by rw [hR]; omega) | exact bool_ff (by rw [hR]; intro hh; clear WS hR; simp only [false_iff, Classical.not_not] at *; omega) | exact bool_iff (by rw [hR]; clear WS hR; try simp only [false_iff, Classical.not_not] at *; refine ⟨fun h => ⟨hmm, ?_, ?_, ?_, ?_, ?_, ?_, ?_, ?_, ?_, ?_, ?_, ?_, ?_⟩, fun h => ?_⟩ <;> first | omega | (intro hq; omega) | (constructor <;> intro hq <;> omega)) | exact bool_ff (by rw [hR]; intro hh; have h7 := hh.2.2.2.2.2.2.2.2.2.2.2.2.2; have h8 := hh.2.2.2.2.2.2.2.2.2.1; clear WS hR; simp only [false_iff, Classical.not_not] at *; omega), hX⟩
                  · refine W_region ?_
                    refine op rfl (r_fieldAddr rfl Try.fld27_4 rfl) ?_
                    refine op rfl (r_load (v := .int _ _) rfl Try.underlying3 rfl (Blk.cell B0_1 rfl)) ?_
                    refine op rfl (r_lss rfl rfl) ?_
                    refine op rfl (r_assignV (v := .bool _) rfl) ?_
                    refine WL_nil ?_
                    refine W_ifp rfl (fun ht53 => ?_) (fun ht53 => ?_)
                    · refine W_exit (blk_miss rfl (blk_miss rfl (blk_hit ?_)))
                      refine W_seq ?_
                      refine W_seq ?_
                      refine W_region ?_
                      refine op rfl (r_assignV (v := .bool _) rfl) ?_
                      refine WL_nil ?_
                      refine W_ret (blk_ret (blk_ret (blk_ret (finX_ret ?_))))
                      refine fin1 ?_
                      exact ⟨_, rfl, by first | exact bool_ff (fun h => ht23 h.1) | exact bool_ff (by rw [hR]; omega) | exact bool_ff (by rw [hR]; intro hh; clear WS hR; simp only [false_iff, Classical.not_not] at *; omega) | exact bool_iff (by rw [hR]; clear WS hR; try simp only [false_iff, Classical.not_not] at *; refine ⟨fun h => ⟨hmm, ?_, ?_, ?_, ?_, ?_, ?_, ?_, ?_, ?_, ?_, ?_, ?_, ?_⟩, fun h => ?_⟩ <;> first | omega | (intro hq; omega) | (constructor <;> intro hq <;> omega)) | exact bool_ff (by rw [hR]; intro hh; have h7 := hh.2.2.2.2.2.2.2.2.2.2.2.2.2; have h8 := hh.2.2.2.2.2.2.2.2.2.1; clear WS hR; simp only [false_iff, Classical.not_not] at *; omega), hX⟩
                    · refine W_skip ?_
                      refine W_seq ?_
                      refine W_seq ?_
                      refine W_seq ?_
                      refine W_region ?_
                      refine op rfl (r_moveV (v := .bool _) rfl) ?_
                      refine op rfl (r_fieldAddr rfl Try.fld27_2 rfl) ?_
                      refine op rfl (r_load (v := .int _ _) rfl Try.underlying3 rfl (Blk.cell B0_1 rfl)) ?_
                      refine op rfl (r_fieldAddr rfl Try.fld24_0 rfl) ?_
                      refine op rfl (r_load (v := .int _ _) rfl Try.underlying3 rfl (Blk.cell B0_0 rfl)) ?_
                      refine op rfl (r_add' rfl rfl (wrap_i64 (by omega) (by omega))) ?_
                      refine op rfl (r_eql rfl rfl) ?_
                      refine op rfl ((by first | exact r_neqP rfl rfl Try.underlying4 | exact r_neqP (p := False) rfl rfl Try.underlying4)) ?_
                      refine op rfl (r_assignV (v := .bool _) rfl) ?_
                      refine WL_nil ?_
                      refine W_ifp rfl (fun ht64 => ?_) (fun ht64 => ?_)
                      · refine W_skip ?_
                        refine W_then (congrArg Value.bool (decide_eq_true ht64)) ?_
                        refine W_exit (blk_miss rfl (blk_miss rfl (blk_miss rfl (blk_hit ?_))))
                        refine W_seq ?_
                        refine W_seq ?_
                        refine W_region ?_
                        refine op rfl (r_assignV (v := .bool _) rfl) ?_
                        refine WL_nil ?_
                        refine W_ret (blk_ret (blk_ret (finX_ret ?_)))
                        refine fin1 ?_
                        exact ⟨_, rfl, by first | exact bool_ff (fun h => ht23 h.1) | exact bool_ff (by rw [hR]; omega) | exact bool_ff (by rw [hR]; intro hh; clear WS hR; simp only [false_iff, Classical.not_not] at *; omega) | exact bool_iff (by rw [hR]; clear WS hR; try simp only [false_iff, Classical.not_not] at *; refine ⟨fun h => ⟨hmm, ?_, ?_, ?_, ?_, ?_, ?_, ?_, ?_, ?_, ?_, ?_, ?_, ?_⟩, fun h => ?_⟩ <;> first | omega | (intro hq; omega) | (constructor <;> intro hq <;> omega)) | exact bool_ff (by rw [hR]; intro hh; have h7 := hh.2.2.2.2.2.2.2.2.2.2.2.2.2; have h8 := hh.2.2.2.2.2.2.2.2.2.1; clear WS hR; simp only [false_iff, Classical.not_not] at *; omega), hX⟩
                      · refine W_seq ?_
                        refine W_region ?_
                        refine op rfl (r_fieldAddr rfl Try.fld27_2 rfl) ?_
                        refine op rfl (r_load (v := .int _ _) rfl Try.underlying3 rfl (Blk.cell B0_1 rfl)) ?_
                        refine op rfl (r_lss rfl rfl) ?_
                        refine op rfl (r_assignV (v := .bool _) rfl) ?_
                        refine WL_nil ?_
                        refine W_ifp rfl (fun ht64 => ?_) (fun ht64 => ?_)
                        · refine W_skip ?_
                          refine W_then (congrArg Value.bool (decide_eq_true ht64)) ?_
                          refine W_exit (blk_miss rfl (blk_miss rfl (blk_miss rfl (blk_hit ?_))))
                          refine W_seq ?_
                          refine W_seq ?_
                          refine W_region ?_
                          refine op rfl (r_assignV (v := .bool _) rfl) ?_
                          refine WL_nil ?_
                          refine W_ret (blk_ret (blk_ret (finX_ret ?_)))
                          refine fin1 ?_
                          exact ⟨_, rfl, by first | exact bool_ff (fun h => ht23 h.1) | exact bool_ff (by rw [hR]; omega) | exact bool_ff (by rw [hR]; intro hh; clear WS hR; simp only [false_iff, Classical.not_not] at *; omega) | exact bool_iff (by rw [hR]; clear WS hR; try simp only [false_iff, Classical.not_not] at *; refine ⟨fun h => ⟨hmm, ?_, ?_, ?_, ?_, ?_, ?_, ?_, ?_, ?_, ?_, ?_, ?_, ?_⟩, fun h => ?_⟩ <;> first | omega | (intro hq; omega) | (constructor <;> intro hq <;> omega)) | exact bool_ff (by rw [hR]; intro hh; have h7 := hh.2.2.2.2.2.2.2.2.2.2.2.2.2; have h8 := hh.2.2.2.2.2.2.2.2.2.1; clear WS hR; simp only [false_iff, Classical.not_not] at *; omega), hX⟩
                        · refine W_region ?_
                          refine op rfl (r_fieldAddr rfl Try.fld27_2 rfl) ?_
                          refine op rfl (r_load (v := .int _ _) rfl Try.underlying3 rfl (Blk.cell B0_1 rfl)) ?_
                          refine op rfl (r_fieldAddr rfl Try.fld24_0 rfl) ?_
                          refine op rfl (r_load (v := .int _ _) rfl Try.underlying3 rfl (Blk.cell B0_0 rfl)) ?_
                          refine op rfl (r_add' rfl rfl (wrap_i64 (by omega) (by omega))) ?_
                          refine op rfl (r_gtr rfl rfl) ?_
                          refine op rfl (r_assignV (v := .bool _) rfl) ?_
                          refine WL_nil ?_
                          refine W_ifp rfl (fun ht64 => ?_) (fun ht64 => ?_)
                          · refine W_exit (blk_miss rfl (blk_miss rfl (blk_miss rfl (blk_hit ?_))))
                            refine W_seq ?_
                            refine W_seq ?_
                            refine W_region ?_
                            refine op rfl (r_assignV (v := .bool _) rfl) ?_
                            refine WL_nil ?_
                            refine W_ret (blk_ret (blk_ret (finX_ret ?_)))
                            refine fin1 ?_
                            exact ⟨_, rfl, by first | exact bool_ff (fun h => ht23 h.1) | exact bool_ff (by rw [hR]; omega) | exact bool_ff (by rw [hR]; intro hh; clear WS hR; simp only [false_iff, Classical.not_not] at *; omega) | exact bool_iff (by rw [hR]; clear WS hR; try simp only [false_iff, Classical.not_not] at *; refine ⟨fun h => ⟨hmm, ?_, ?_, ?_, ?_, ?_, ?_, ?_, ?_, ?_, ?_, ?_, ?_, ?_⟩, fun h => ?_⟩ <;> first | omega | (intro hq; omega) | (constructor <;> intro hq <;> omega)) | exact bool_ff (by rw [hR]; intro hh; have h7 := hh.2.2.2.2.2.2.2.2.2.2.2.2.2; have h8 := hh.2.2.2.2.2.2.2.2.2.1; clear WS hR; simp only [false_iff, Classical.not_not] at *; omega), hX⟩
                          · refine W_skip ?_
                            refine W_seq ?_
                            refine W_region ?_
                            refine op rfl (r_fieldAddr rfl Try.fld27_0 rfl) ?_
                            refine op rfl (r_load (v := .int _ _) rfl Try.underlying3 rfl (Blk.cell B0_1 rfl)) ?_
                            refine op rfl (r_neq rfl rfl) ?_
                            refine op rfl (r_assignV (v := .bool _) rfl) ?_
                            refine WL_nil ?_
                            refine W_ifp rfl (fun ht82 => ?_) (fun ht82 => ?_)
                            · refine W_exit (blk_miss rfl (blk_miss rfl (blk_miss rfl (blk_miss rfl (blk_hit ?_)))))
                              refine W_seq ?_
                              refine W_seq ?_
                              refine W_region ?_
                              refine op rfl (r_fieldAddr rfl Try.fld27_1 rfl) ?_
                              refine op rfl (r_load (v := .int _ _) rfl Try.underlying3 rfl (Blk.cell B0_1 rfl)) ?_
                              refine op rfl (r_eql rfl rfl) ?_
                              refine op rfl (r_assignV (v := .bool _) rfl) ?_
                              refine WL_nil ?_
                              refine W_ret (blk_ret (finX_ret ?_))
                              refine fin1 ?_
                              exact ⟨_, rfl, by first | exact bool_ff (fun h => ht23 h.1) | exact bool_ff (by rw [hR]; omega) | exact bool_ff (by rw [hR]; intro hh; clear WS hR; simp only [false_iff, Classical.not_not] at *; omega) | exact bool_iff (by rw [hR]; clear WS hR; try simp only [false_iff, Classical.not_not] at *; refine ⟨fun h => ⟨hmm, ?_, ?_, ?_, ?_, ?_, ?_, ?_, ?_, ?_, ?_, ?_, ?_, ?_⟩, fun h => ?_⟩ <;> first | omega | (intro hq; omega) | (constructor <;> intro hq <;> omega)) | exact bool_ff (by rw [hR]; intro hh; have h7 := hh.2.2.2.2.2.2.2.2.2.2.2.2.2; have h8 := hh.2.2.2.2.2.2.2.2.2.1; clear WS hR; simp only [false_iff, Classical.not_not] at *; omega), hX⟩
                            · refine W_skip ?_
                              refine W_exit (blk_miss rfl (blk_miss rfl (blk_miss rfl (blk_miss rfl (blk_miss rfl (blk_hit ?_))))))
                              refine W_seq ?_
                              refine W_region ?_
                              refine op rfl (r_fieldAddr rfl Try.fld27_1 rfl) ?_
                              refine op rfl (r_load (v := .int _ _) rfl Try.underlying3 rfl (Blk.cell B0_1 rfl)) ?_
                              refine op rfl (r_geq rfl rfl) ?_
                              refine op_split rfl (r_moveV (v := .bool (decide _)) rfl) (fun hg92 => ?_) (fun hg92 => ?_)
                              · refine opG_yes rfl rfl rfl rfl rfl (r_fieldAddr rfl Try.fld27_1 rfl) ?_
                                refine opG_yes rfl rfl rfl rfl rfl (r_load (v := .int _ _) rfl Try.underlying3 rfl (Blk.cell B0_1 rfl)) ?_
                                refine opG_yes rfl rfl rfl rfl rfl (r_leq rfl rfl) ?_
                                refine op rfl (r_pickTV (v := .bool _) rfl rfl) ?_
                                refine op rfl (r_assignV (v := .bool _) rfl) ?_
                                refine WL_nil ?_
                                refine W_ret (finX_ret ?_)
                                refine fin1 ?_
                                exact ⟨_, rfl, by first | exact bool_ff (fun h => ht23 h.1) | exact bool_ff (by rw [hR]; omega) | exact bool_ff (by rw [hR]; intro hh; clear WS hR; simp only [false_iff, Classical.not_not] at *; omega) | exact bool_iff (by rw [hR]; clear WS hR; try simp only [false_iff, Classical.not_not] at *; refine ⟨fun h => ⟨hmm, ?_, ?_, ?_, ?_, ?_, ?_, ?_, ?_, ?_, ?_, ?_, ?_, ?_⟩, fun h => ?_⟩ <;> first | omega | (intro hq; omega) | (constructor <;> intro hq <;> omega)) | exact bool_ff (by rw [hR]; intro hh; have h7 := hh.2.2.2.2.2.2.2.2.2.2.2.2.2; have h8 := hh.2.2.2.2.2.2.2.2.2.1; clear WS hR; simp only [false_iff, Classical.not_not] at *; omega), hX⟩
                              · refine opG_no rfl rfl rfl rfl rfl ?_
                                refine opG_no rfl rfl rfl rfl rfl ?_
                                refine opG_no rfl rfl rfl rfl rfl ?_
                                refine op rfl (r_pickFV (v := .bool _) rfl rfl) ?_
                                refine op rfl (r_assignV (v := .bool _) rfl) ?_
                                refine WL_nil ?_
                                refine W_ret (finX_ret ?_)
                                refine fin1 ?_
                                exact ⟨_, rfl, by first | exact bool_ff (fun h => ht23 h.1) | exact bool_ff (by rw [hR]; omega) | exact bool_ff (by rw [hR]; intro hh; clear WS hR; simp only [false_iff, Classical.not_not] at *; omega) | exact bool_iff (by rw [hR]; clear WS hR; try simp only [false_iff, Classical.not_not] at *; refine ⟨fun h => ⟨hmm, ?_, ?_, ?_, ?_, ?_, ?_, ?_, ?_, ?_, ?_, ?_, ?_, ?_⟩, fun h => ?_⟩ <;> first | omega | (intro hq; omega) | (constructor <;> intro hq <;> omega)) | exact bool_ff (by rw [hR]; intro hh; have h7 := hh.2.2.2.2.2.2.2.2.2.2.2.2.2; have h8 := hh.2.2.2.2.2.2.2.2.2.1; clear WS hR; simp only [false_iff, Classical.not_not] at *; omega), hX⟩
end Go.Proofs.Ytfocbkdoolnijaa
