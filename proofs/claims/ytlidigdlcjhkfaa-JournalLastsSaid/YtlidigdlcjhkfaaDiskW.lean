/-
  The walks of package disk: one thing at a time.
-/
import Derived.Test.YtlidigdlcjhkfaaFacts
import Derived.Test.YtlidigdlcjhkfaaDiskM
namespace Go.Proofs.Ytlidigdlcjhkfaa
open Go Go.Eng Go.RowKit Go.Proofs
set_option linter.unusedVariables false
set_option linter.unusedSimpArgs false

theorem methGrow : methOf Try.prog 69 "quilter/disk.do" = some 72 := by kernel_rfl
theorem methCut : methOf Try.prog 87 "quilter/disk.do" = some 73 := by kernel_rfl
abbrev dp (H : Hd) : Value := .pointer (some ⟨H.p, 0, none⟩)
theorem clone_spec0 (A : Option Addr) (c : Nat) (l : List UInt8) (w : World) (hl : l.length ≤ 140737488355328) {F : Nat → Prop} (hF : ∀ b, F b → b < w.heap.size) (hA : Ty.byte.Row w F A l) :
    Calls Try.prog 42 #[.slice A l.length c] w (fun en w' => ∃ v, en = .returned v ∧ Ext w w' ∧ Bs w.heap.size 5 w' v l) := by
  refine calls' (n := 8) (rs := #[.tmp 2]) (l := [.slice A l.length c]) Try.func42 rfl rfl rfl rfl rfl ?_
  refine W_seq ?_
  refine W_region ?_
  refine op rfl (r_assignV (v := .slice _ _ _) rfl) ?_
  refine WL_nil ?_
  refine W_seq ?_
  refine W_seq ?_
  refine W_region ?_
  refine op rfl (r_moveV (v := .slice _ _ _) rfl) ?_
  refine op rfl (rl_eql rfl rfl Try.underlying23) ?_
  refine WL_nil ?_
  refine W_ifp rfl (fun ht4 => ?_) (fun ht4 => ?_)
  · subst ht4
    obtain rfl : l = [] := by
      rcases hA with h | ⟨g, off, c, t, fr, h, _⟩
      · exact h
      · cases h
    refine W_seq ?_
    refine W_region ?_
    refine op rfl (r_assignV (v := .slice _ _ _) rfl) ?_
    refine WL_nil ?_
    refine W_ret (finX_ret ?_)
    refine fin1 ?_
    exact ⟨_, rfl, Ext.refl _, Own.nil⟩
  · refine W_skip ?_
    refine W_seq ?_
    refine W_region ?_
    refine op_newS rfl (r_buildSlice (vs := []) Try.underlying23 Try.sz5 Try.zero5 rfl rfl rfl) ?_
    intro w3_0 b3_0 E3_0 B3_0 L3_0
    have hO : Bs w.heap.size 5 w3_0 (.slice (some ⟨b3_0, 0, none⟩) 0 0) [] := Own.of_blk (l := []) (cap := 0) (Nat.le_of_eq L3_0) B3_0 (Nat.le_refl _) rfl (by simp) (by simp)
    refine op rfl (r_moveV (v := .slice _ _ _) rfl) ?_
    refine op_app flat_byte rfl rfl rfl Try.underlying23 Try.sz5 Try.by5 Try.zero5 rfl (E3_0) (hO) (hA.keep (fun b hb => E3_0.block b (hF b hb)) (fun _ h => h)) (by simp only [List.length_nil]; omega) (by simp only [List.length_nil]; omega) ?_
    intro v3_2 w3_2 O3_2 X3_2 G3_2
    refine op rfl (r_assignV (v := v3_2) rfl) ?_
    refine WL_nil ?_
    refine W_ret (finX_ret ?_)
    refine fin1 ?_
    exact ⟨_, rfl, X3_2, by rw [List.nil_append] at O3_2; exact O3_2⟩
theorem clone_spec {B : Nat} (A : Option Addr) (c : Nat) (l : List UInt8) (w : World) (hB : B ≤ w.heap.size) (hl : l.length ≤ 140737488355328) {F : Nat → Prop} (hF : ∀ b, F b → b < w.heap.size) (hA : Ty.byte.Row w F A l) :
    Calls Try.prog 42 #[.slice A l.length c] w (fun en w' => ∃ v, en = .returned v ∧ Ext w w' ∧ Bs B 5 w' v l) := by
  refine (clone_spec0 A c l w hl hF hA).mono ?_
  rintro en w' ⟨v, h1, h2, h3⟩
  exact ⟨v, h1, h2, h3.low hB⟩
theorem there_spec {B : Nat} {H : Hd} {D : Dk} {w : World} (h : DR B w H D) (a : Int) : Calls Try.prog 43 #[dp H, .int .i64 a] w (fun en w' => ∃ v, en = .returned v ∧ v = .bool (decide (D.there a)) ∧ Ext w w') := by
  have hbp := h.bp
  refine calls' (n := 20) (rs := #[.tmp 4]) (l := [dp H, .int .i64 a]) Try.func43 rfl rfl rfl rfl rfl ?_
  have hX := Ext.refl w
  refine W_seq ?_
  refine W_region ?_
  refine op rfl (r_assignV (v := .bool _) rfl) ?_
  refine WL_nil ?_
  refine W_seq ?_
  refine W_region ?_
  refine op rfl (r_moveV (v := .pointer _) rfl) ?_
  refine op rfl (rp_neq rfl rfl Try.underlying25) ?_
  refine op_true rfl (r_moveV (v := .bool (decide _)) rfl) (trivial) ?_
  refine opG_yes rfl rfl rfl rfl rfl (r_moveV (v := .int _ _) rfl) ?_
  refine opG_yes rfl rfl rfl rfl rfl (r_geq rfl rfl) ?_
  refine op rfl (r_pickTV (v := .bool _) rfl rfl) ?_
  refine op_split rfl (r_moveV (v := .bool (decide _)) rfl) (fun hg11 => ?_) (fun hg11 => ?_)
  · refine opG_yes rfl rfl rfl rfl rfl (r_moveV (v := .int _ _) rfl) ?_
    refine opG_yes rfl rfl rfl rfl rfl (r_moveV (v := .pointer _) rfl) ?_
    refine opG_yes rfl rfl rfl rfl rfl (r_nilCheck rfl) ?_
    refine opG_yes rfl rfl rfl rfl rfl (r_fieldAddr rfl Try.fld55_0 rfl) ?_
    refine opG_yes rfl rfl rfl rfl rfl (r_load (v := .slice (some ⟨H.g, 0, none⟩) D.n H.cap) rfl Try.underlying53 rfl (Blk.cell hbp rfl)) ?_
    refine opG_yes rfl rfl rfl rfl rfl (r_len_slice rfl Try.underlying53) ?_
    refine opG_yes rfl rfl rfl rfl rfl (r_lss rfl rfl) ?_
    refine op rfl (r_pickTV (v := .bool _) rfl rfl) ?_
    refine op rfl (r_assignV (v := .bool _) rfl) ?_
    refine WL_nil ?_
    refine W_ret (finX_ret ?_)
    refine fin1 ?_
    exact ⟨_, rfl, by unfold Dk.there; first | exact bool_ff (by omega) | exact bool_iff (by omega), hX⟩
  · refine opG_no rfl rfl rfl rfl rfl ?_
    refine opG_no rfl rfl rfl rfl rfl ?_
    refine opG_no rfl rfl rfl rfl rfl ?_
    refine opG_no rfl rfl rfl rfl rfl ?_
    refine opG_no rfl rfl rfl rfl rfl ?_
    refine opG_no rfl rfl rfl rfl rfl ?_
    refine opG_no rfl rfl rfl rfl rfl ?_
    refine op rfl (r_pickFV (v := .bool _) rfl rfl) ?_
    refine op rfl (r_assignV (v := .bool _) rfl) ?_
    refine WL_nil ?_
    refine W_ret (finX_ret ?_)
    refine fin1 ?_
    exact ⟨_, rfl, by unfold Dk.there; first | exact bool_ff (by omega) | exact bool_iff (by omega), hX⟩
theorem may_spec {B : Nat} {H : Hd} {D : Dk} {w : World} (h : DR B w H D) (a : Int) : Calls Try.prog 34 #[dp H, .int .i64 a] w (fun en w' => ∃ v, en = .returned v ∧ v = .int .i64 (D.may a) ∧ Ext w w') := by
  have hbp := h.bp
  refine calls' (n := 18) (rs := #[.tmp 4]) (l := [dp H, .int .i64 a]) Try.func34 rfl rfl rfl rfl rfl ?_
  have hX := Ext.refl w
  refine W_seq ?_
  refine W_region ?_
  refine op rfl (r_assignV (v := .int _ _) rfl) ?_
  refine WL_nil ?_
  refine W_seq ?_
  refine W_block ?_
  refine W_seq ?_
  refine W_region ?_
  refine op rfl (r_moveV (v := .pointer _) rfl) ?_
  refine op rfl (rp_eql rfl rfl Try.underlying25) ?_
  refine op rfl (r_assignV (v := .bool _) rfl) ?_
  refine WL_nil ?_
  refine W_ifp rfl (fun ht5 => ?_) (fun ht5 => ?_)
  · exact ht5.elim
  · refine W_seq ?_
    refine W_region ?_
    refine op rfl (r_moveV (v := .pointer _) rfl) ?_
    refine op rfl (r_moveV (v := .int _ _) rfl) ?_
    refine opCv rfl (r_call Try.func43 Try.nm43 rfl) (there_spec (h.ext hX) a) ?_
    rintro v w2 ⟨rfl, hE⟩
    replace hbp := Blk.ext hbp hE
    replace hX := hX.trans hE
    refine op rfl (r_notP rfl) ?_
    refine op rfl (r_assignV (v := .bool _) rfl) ?_
    refine WL_nil ?_
    refine W_ifp rfl (fun ht8 => ?_) (fun ht8 => ?_)
    · refine W_seq ?_
      refine W_region ?_
      refine op rfl (r_assignV (v := .int _ _) rfl) ?_
      refine WL_nil ?_
      refine W_ret (blk_ret (finX_ret ?_))
      refine fin1 ?_
      exact ⟨_, rfl, by unfold Dk.may; rw [if_neg ht8] <;> rfl, hX⟩
    · refine W_seq ?_
      refine W_region ?_
      refine op rfl (r_moveV (v := .pointer _) rfl) ?_
      refine op rfl (r_nilCheck rfl) ?_
      refine op rfl (r_fieldAddr rfl Try.fld55_4 rfl) ?_
      refine op rfl (r_load (v := .bool D.dead) rfl Try.underlying4 rfl (Blk.cell hbp rfl)) ?_
      refine op rfl (r_assignV (v := .bool _) rfl) ?_
      refine WL_nil ?_
      refine W_if rfl (fun ht13 => ?_) (fun ht13 => ?_)
      · refine W_seq ?_
        refine W_region ?_
        refine op rfl (r_assignV (v := .int _ _) rfl) ?_
        refine WL_nil ?_
        refine W_ret (blk_ret (finX_ret ?_))
        refine fin1 ?_
        exact ⟨_, rfl, by unfold Dk.may; rw [if_pos (Classical.byContradiction ht8), if_pos ht13] <;> rfl, hX⟩
      · refine W_skip ?_
        refine W_seq ?_
        refine W_region ?_
        refine op rfl (r_assignV (v := .int _ _) rfl) ?_
        refine WL_nil ?_
        refine W_ret (finX_ret ?_)
        refine fin1 ?_
        exact ⟨_, rfl, by unfold Dk.may; rw [if_pos (Classical.byContradiction ht8), if_neg (by rw [ht13]; exact Bool.false_ne_true)] <;> rfl, hX⟩
theorem dead_spec {B : Nat} {H : Hd} {D : Dk} {w : World} (h : DR B w H D) : Calls Try.prog 25 #[dp H] w (fun en w' => ∃ v, en = .returned v ∧ v = .bool D.dead ∧ Ext w w') := by
  have hbp := h.bp
  refine calls' (n := 11) (rs := #[.tmp 2]) (l := [dp H]) Try.func25 rfl rfl rfl rfl rfl ?_
  have hX := Ext.refl w
  refine W_seq ?_
  refine W_region ?_
  refine op rfl (r_assignV (v := .bool _) rfl) ?_
  refine WL_nil ?_
  refine W_seq ?_
  refine W_region ?_
  refine op rfl (r_moveV (v := .pointer _) rfl) ?_
  refine op rfl (rp_neq rfl rfl Try.underlying25) ?_
  refine op_true rfl (r_moveV (v := .bool (decide _)) rfl) (trivial) ?_
  refine opG_yes rfl rfl rfl rfl rfl (r_moveV (v := .pointer _) rfl) ?_
  refine opG_yes rfl rfl rfl rfl rfl (r_nilCheck rfl) ?_
  refine opG_yes rfl rfl rfl rfl rfl (r_fieldAddr rfl Try.fld55_4 rfl) ?_
  refine opG_yes rfl rfl rfl rfl rfl (r_load (v := .bool D.dead) rfl Try.underlying4 rfl (Blk.cell hbp rfl)) ?_
  refine op rfl (r_pickTV (v := .bool _) rfl rfl) ?_
  refine op rfl (r_assignV (v := .bool _) rfl) ?_
  refine WL_nil ?_
  refine W_ret (finX_ret ?_)
  refine fin1 ?_
  exact ⟨_, rfl, rfl, hX⟩
theorem unit_spec {B : Nat} {H : Hd} {D : Dk} {w : World} (h : DR B w H D) (h1 : -1152921504606846976 ≤ D.power) (h2 : D.power ≤ 1152921504606846976) : Calls Try.prog 36 #[dp H] w (fun en w' => ∃ v, en = .returned v ∧ v = .bool D.unit.2 ∧ Post B H D D.unit.1 w w') := by
  have hbp := h.bp
  refine calls' (n := 24) (rs := #[.tmp 2]) (l := [dp H]) Try.func36 rfl rfl rfl rfl rfl ?_
  refine W_seq ?_
  refine W_region ?_
  refine op rfl (r_assignV (v := .bool _) rfl) ?_
  refine WL_nil ?_
  refine W_seq ?_
  refine W_seq ?_
  refine W_region ?_
  refine op rfl (r_moveV (v := .pointer _) rfl) ?_
  refine op rfl (r_nilCheck rfl) ?_
  refine op rfl (r_fieldAddr rfl Try.fld55_2 rfl) ?_
  refine op rfl (r_load (v := .bool D.armed) rfl Try.underlying4 rfl (Blk.cell hbp rfl)) ?_
  refine op_splitB rfl (r_moveV (v := .bool _) rfl) (fun hg7 => ?_) (fun hg7 => ?_)
  · refine opG_yes rfl rfl rfl rfl rfl (r_moveV (v := .pointer _) rfl) ?_
    refine opG_yes rfl rfl rfl rfl rfl (r_nilCheck rfl) ?_
    refine opG_yes rfl rfl rfl rfl rfl (r_fieldAddr rfl Try.fld55_3 rfl) ?_
    refine opG_yes rfl rfl rfl rfl rfl (r_load (v := .int .i64 D.power) rfl Try.underlying3 rfl (Blk.cell hbp rfl)) ?_
    refine opG_yes rfl rfl rfl rfl rfl (r_eql rfl rfl) ?_
    refine op rfl (r_pickTV (v := .bool _) rfl rfl) ?_
    refine WL_nil ?_
    refine W_ifp rfl (fun ht13 => ?_) (fun ht13 => ?_)
    · refine W_seq ?_
      refine W_region ?_
      refine op rfl (r_moveV (v := .pointer _) rfl) ?_
      refine op rfl (r_nilCheck rfl) ?_
      refine op rfl (r_fieldAddr rfl Try.fld55_4 rfl) ?_
      refine op_store (v := .bool true) rfl rfl rfl Try.sz4 hbp (Nat.le_of_ble_eq_true rfl) ?_
      intro w2 C2 B2
      refine WL_nil ?_
      refine W_seq ?_
      refine W_region ?_
      refine op rfl (r_assignV (v := .bool _) rfl) ?_
      refine WL_nil ?_
      refine W_ret (finX_ret ?_)
      refine fin1 ?_
      have hu : D.unit = ({ D with dead := true }, false) := by unfold Dk.unit; rw [if_pos ⟨hg7, ht13⟩]
      rw [hu]
      exact ⟨_, rfl, rfl, h.setP rfl rfl C2 B2⟩
    · refine W_skip ?_
      refine W_seq ?_
      refine W_region ?_
      refine op rfl (r_moveV (v := .pointer _) rfl) ?_
      refine op rfl (r_nilCheck rfl) ?_
      refine op rfl (r_fieldAddr rfl Try.fld55_3 rfl) ?_
      refine op rfl (r_load (v := .int .i64 D.power) rfl Try.underlying3 rfl (Blk.cell hbp rfl)) ?_
      refine op rfl (r_sub' rfl rfl (wrap_i64 (by omega) (by omega))) ?_
      refine op rfl (r_nilCheck rfl) ?_
      refine op rfl (r_fieldAddr rfl Try.fld55_3 rfl) ?_
      refine op_store (v := .int .i64 (D.power - 1)) rfl rfl rfl Try.sz3 hbp (Nat.le_of_ble_eq_true rfl) ?_
      intro w2 C2 B2
      refine WL_nil ?_
      refine W_seq ?_
      refine W_region ?_
      refine op rfl (r_assignV (v := .bool _) rfl) ?_
      refine WL_nil ?_
      refine W_ret (finX_ret ?_)
      refine fin1 ?_
      have hu : D.unit = ({ D with power := D.power - 1 }, true) := by unfold Dk.unit; rw [if_neg (by first | exact fun q => ht13 q.2 | (intro q; rw [hg7] at q; cases q.1))]
      rw [hu]
      exact ⟨_, rfl, rfl, h.setP rfl rfl C2 B2⟩
  · refine opG_no rfl rfl rfl rfl rfl ?_
    refine opG_no rfl rfl rfl rfl rfl ?_
    refine opG_no rfl rfl rfl rfl rfl ?_
    refine opG_no rfl rfl rfl rfl rfl ?_
    refine opG_no rfl rfl rfl rfl rfl ?_
    refine op rfl (r_pickFV (v := .bool _) rfl rfl) ?_
    refine WL_nil ?_
    refine W_else rfl ?_
    refine W_skip ?_
    refine W_seq ?_
    refine W_region ?_
    refine op rfl (r_moveV (v := .pointer _) rfl) ?_
    refine op rfl (r_nilCheck rfl) ?_
    refine op rfl (r_fieldAddr rfl Try.fld55_3 rfl) ?_
    refine op rfl (r_load (v := .int .i64 D.power) rfl Try.underlying3 rfl (Blk.cell hbp rfl)) ?_
    refine op rfl (r_sub' rfl rfl (wrap_i64 (by omega) (by omega))) ?_
    refine op rfl (r_nilCheck rfl) ?_
    refine op rfl (r_fieldAddr rfl Try.fld55_3 rfl) ?_
    refine op_store (v := .int .i64 (D.power - 1)) rfl rfl rfl Try.sz3 hbp (Nat.le_of_ble_eq_true rfl) ?_
    intro w2 C2 B2
    refine WL_nil ?_
    refine W_seq ?_
    refine W_region ?_
    refine op rfl (r_assignV (v := .bool _) rfl) ?_
    refine WL_nil ?_
    refine W_ret (finX_ret ?_)
    refine fin1 ?_
    have hu : D.unit = ({ D with power := D.power - 1 }, true) := by unfold Dk.unit; rw [if_neg (by first | exact fun q => ht13 q.2 | (intro q; rw [hg7] at q; cases q.1))]
    rw [hu]
    exact ⟨_, rfl, rfl, h.setP rfl rfl C2 B2⟩
theorem append1 {B b : Nat} {v : Value} {l : List UInt8} {x : UInt8} {w : World} (hB : B ≤ w.heap.size) (hO : Bs B 5 w v l) (hb : Blk w b #[.int .u8 x.toNat] 5) (hl : l.length ≤ 1099511627776) :
    ∃ v' w', (Builtin.append_ #[23, 23] 23 #[v, .slice (some ⟨b, 0, none⟩) 1 1]).run Try.prog w = .ok v' w' ∧ Bs B 5 w' v' (l ++ [x]) ∧ Gro v.ownBlock w w' := by
  obtain ⟨v', w', h1, h2, h3, _⟩ := run_append (T := Ty.byte) (F := nobody) (P := Try.prog) (t := 23) (ty := 23) (m := [x]) (c := 1) Try.underlying23 Try.sz5 Try.by5 Try.zero5 rfl hO ((row_one hb trivial : Ty.byte.Row w (old w) (some ⟨b, 0, none⟩) [x]).srcF flat_byte) (fun _ q => q.elim) (by simp only [List.length_singleton]; omega) (by simp only [List.length_singleton]; omega) hB
  exact ⟨v', w', h1, h2, h3⟩
theorem growDo_spec {B : Nat} (x : UInt8) (A : Option Addr) (c : Nat) (l : List UInt8) (w : World) (hB : B ≤ w.heap.size) (hl : l.length ≤ 1099511627776) {F : Nat → Prop} (hF : ∀ b, F b → b < w.heap.size) (hA : Ty.byte.Row w F A l) :
    Calls Try.prog 72 #[.agg #[.int .u8 x.toNat], .slice A l.length c] w (fun en w' => ∃ v, en = .returned v ∧ Ext w w' ∧ Bs B 5 w' v (l ++ [x])) := by
  have hA' : ∀ w', Ext w w' → Ty.byte.Row w' F A l := fun w' he => hA.keep (fun b hb => he.block b (hF b hb)) (fun _ h => h)
  have hF' : ∀ w', Ext w w' → ∀ b, F b → b < w'.heap.size := fun w' he b hb => Nat.lt_of_lt_of_le (hF b hb) he.size
  refine calls' (n := 11) (rs := #[.tmp 4]) (l := [.agg #[.int .u8 x.toNat], .slice A l.length c]) Try.func72 rfl rfl rfl rfl rfl ?_
  have hX := Ext.refl w
  refine W_seq ?_
  refine W_region ?_
  refine op_box (v := .agg _) rfl rfl ?_
  intro w0_0 b0_0 E0_0 B0_0 L0_0
  have hG0_0 : w.heap.size ≤ b0_0 := by have := hX.size; omega
  replace hX := hX.trans E0_0
  refine op rfl (r_assignV (v := .slice _ _ _) rfl) ?_
  refine WL_nil ?_
  refine W_seq ?_
  refine W_drawF (W0 := w) (fun b : Nat => False) Try.wd rfl ?_
  intro wd1 hD
  replace B0_0 := Blk.ext B0_0 hD
  replace hX := hX.trans hD
  have hS : Ext w wd1 ∧ Same (fun b : Nat => False) wd1 wd1 := ⟨hX, fun _ _ => rfl⟩
  refine A_take (i := 0) rfl (by kernel_rfl) (by kernel_rfl) (by kernel_rfl) rfl hS (fun _ hw => r_moveV (v := .slice _ _ _) rfl) ?_
  refine A_take (i := 2) rfl (by kernel_rfl) (by kernel_rfl) (by kernel_rfl) rfl hS (fun _ hw => r_fieldAddr rfl Try.fld69_0 rfl) ?_
  refine A_ready2 (i := 1) (j := 3) (by kernel_rfl) ?_ ?_
  · refine O_call rfl rfl (r_call Try.func42 Try.nm42 rfl) (clone_spec (B := w.heap.size) A c l _ hX.size (by omega) (hF' _ hX) (hA' _ hX)) ?_
    rintro v w2 ⟨hE, hO⟩
    replace B0_0 := Blk.ext B0_0 hE
    replace hX := hX.trans hE
    replace hS : Ext w w2 ∧ Same (fun b : Nat => False) wd1 w2 := ⟨hX, fun b hb => hb.elim⟩
    refine ⟨hS, ?_⟩
    refine A_ready1 (i := 3) (by kernel_rfl) ?_
    refine O_val rfl rfl (r_load (v := .int _ _) rfl Try.underlying5 rfl (Blk.cell B0_0 rfl)) (hS) ?_
    refine A_ready1 (i := 4) (by kernel_rfl) ?_
    refine O_newS rfl rfl (r_buildSlice (vs := [.int _ _]) Try.underlying23 Try.sz5 Try.zero5 rfl rfl rfl) ?_
    intro w1_4 b1_4 E1_4 B1_4 L1_4
    have hG1_4 : w.heap.size ≤ b1_4 := by have := hX.size; omega
    have hNb0_0_1_4 : b0_0 ≠ b1_4 := by have := Blk.lt B0_0; omega
    replace B0_0 := Blk.ext B0_0 E1_4
    replace hX := hX.trans E1_4
    replace hS : Ext w w1_4 ∧ Same (fun b : Nat => False) wd1 w1_4 := ⟨hX, fun b hb => hb.elim⟩
    refine ⟨hS, ?_⟩
    refine A_ready1 (i := 5) (by kernel_rfl) ?_
    first
      | (obtain ⟨v', w', hr, hO', hG⟩ := append1 hX.size (own_fext hO E1_4) B1_4 hl
         replace hX := hX.gro hG hX.size (fun k hk => ((own_fext hO E1_4).lt hk).1))
      | (obtain ⟨v', w', hr, hO', hG⟩ := append1 hX.size hO B1_4 hl
         replace hX := hX.gro hG hX.size (fun k hk => (hO.lt hk).1))
    replace hS : Ext w w' ∧ Same (fun b : Nat => False) wd1 w' := ⟨hX, fun _ h => h.elim⟩
    refine O_val rfl rfl (r_append rfl rfl hr) hS ?_
    refine A_take (i := 6) rfl (by kernel_rfl) (by kernel_rfl) (by kernel_rfl) rfl hS (fun _ hw => r_assignV (v := v') rfl) ?_
    refine A_done (by kernel_rfl) ?_
    refine W_ret (finX_ret ?_)
    refine fin1 ?_
    exact ⟨_, rfl, hX, hO'.low hB⟩
  · refine O_val rfl rfl (r_load (v := .int _ _) rfl Try.underlying5 rfl (Blk.cell B0_0 rfl)) (hS) ?_
    refine A_ready2 (i := 1) (j := 4) (by kernel_rfl) ?_ ?_
    · refine O_call rfl rfl (r_call Try.func42 Try.nm42 rfl) (clone_spec (B := w.heap.size) A c l _ hX.size (by omega) (hF' _ hX) (hA' _ hX)) ?_
      rintro v w2 ⟨hE, hO⟩
      replace B0_0 := Blk.ext B0_0 hE
      replace hX := hX.trans hE
      replace hS : Ext w w2 ∧ Same (fun b : Nat => False) wd1 w2 := ⟨hX, fun b hb => hb.elim⟩
      refine ⟨hS, ?_⟩
      refine A_ready1 (i := 4) (by kernel_rfl) ?_
      refine O_newS rfl rfl (r_buildSlice (vs := [.int _ _]) Try.underlying23 Try.sz5 Try.zero5 rfl rfl rfl) ?_
      intro w1_4 b1_4 E1_4 B1_4 L1_4
      have hG1_4 : w.heap.size ≤ b1_4 := by have := hX.size; omega
      have hNb0_0_1_4 : b0_0 ≠ b1_4 := by have := Blk.lt B0_0; omega
      replace B0_0 := Blk.ext B0_0 E1_4
      replace hX := hX.trans E1_4
      replace hS : Ext w w1_4 ∧ Same (fun b : Nat => False) wd1 w1_4 := ⟨hX, fun b hb => hb.elim⟩
      refine ⟨hS, ?_⟩
      refine A_ready1 (i := 5) (by kernel_rfl) ?_
      first
        | (obtain ⟨v', w', hr, hO', hG⟩ := append1 hX.size (own_fext hO E1_4) B1_4 hl
           replace hX := hX.gro hG hX.size (fun k hk => ((own_fext hO E1_4).lt hk).1))
        | (obtain ⟨v', w', hr, hO', hG⟩ := append1 hX.size hO B1_4 hl
           replace hX := hX.gro hG hX.size (fun k hk => (hO.lt hk).1))
      replace hS : Ext w w' ∧ Same (fun b : Nat => False) wd1 w' := ⟨hX, fun _ h => h.elim⟩
      refine O_val rfl rfl (r_append rfl rfl hr) hS ?_
      refine A_take (i := 6) rfl (by kernel_rfl) (by kernel_rfl) (by kernel_rfl) rfl hS (fun _ hw => r_assignV (v := v') rfl) ?_
      refine A_done (by kernel_rfl) ?_
      refine W_ret (finX_ret ?_)
      refine fin1 ?_
      exact ⟨_, rfl, hX, hO'.low hB⟩
    · refine O_newS rfl rfl (r_buildSlice (vs := [.int _ _]) Try.underlying23 Try.sz5 Try.zero5 rfl rfl rfl) ?_
      intro w1_4 b1_4 E1_4 B1_4 L1_4
      have hG1_4 : w.heap.size ≤ b1_4 := by have := hX.size; omega
      have hNb0_0_1_4 : b0_0 ≠ b1_4 := by have := Blk.lt B0_0; omega
      replace B0_0 := Blk.ext B0_0 E1_4
      replace hX := hX.trans E1_4
      replace hS : Ext w w1_4 ∧ Same (fun b : Nat => False) wd1 w1_4 := ⟨hX, fun b hb => hb.elim⟩
      refine ⟨hS, ?_⟩
      refine A_ready1 (i := 1) (by kernel_rfl) ?_
      refine O_call rfl rfl (r_call Try.func42 Try.nm42 rfl) (clone_spec (B := w.heap.size) A c l _ hX.size (by omega) (hF' _ hX) (hA' _ hX)) ?_
      rintro v w2 ⟨hE, hO⟩
      replace B0_0 := Blk.ext B0_0 hE
      replace B1_4 := Blk.ext B1_4 hE
      replace hX := hX.trans hE
      replace hS : Ext w w2 ∧ Same (fun b : Nat => False) wd1 w2 := ⟨hX, fun b hb => hb.elim⟩
      refine ⟨hS, ?_⟩
      refine A_ready1 (i := 5) (by kernel_rfl) ?_
      first
        | (obtain ⟨v', w', hr, hO', hG⟩ := append1 hX.size (own_fext hO E1_4) B1_4 hl
           replace hX := hX.gro hG hX.size (fun k hk => ((own_fext hO E1_4).lt hk).1))
        | (obtain ⟨v', w', hr, hO', hG⟩ := append1 hX.size hO B1_4 hl
           replace hX := hX.gro hG hX.size (fun k hk => (hO.lt hk).1))
      replace hS : Ext w w' ∧ Same (fun b : Nat => False) wd1 w' := ⟨hX, fun _ h => h.elim⟩
      refine O_val rfl rfl (r_append rfl rfl hr) hS ?_
      refine A_take (i := 6) rfl (by kernel_rfl) (by kernel_rfl) (by kernel_rfl) rfl hS (fun _ hw => r_assignV (v := v') rfl) ?_
      refine A_done (by kernel_rfl) ?_
      refine W_ret (finX_ret ?_)
      refine fin1 ?_
      exact ⟨_, rfl, hX, hO'.low hB⟩
theorem cutDo_spec {B : Nat} (n : Nat) (A : Option Addr) (c : Nat) (l : List UInt8) (w : World) (hB : B ≤ w.heap.size) (hn : n ≤ l.length) (hc : l.length ≤ c) (hl : l.length ≤ 1099511627776) {F : Nat → Prop} (hF : ∀ b, F b → b < w.heap.size) (hA : Ty.byte.Row w F A l) :
    Calls Try.prog 73 #[.agg #[.int .i64 n], .slice A l.length c] w (fun en w' => ∃ v, en = .returned v ∧ Ext w w' ∧ Bs B 5 w' v (l.take n)) := by
  have hA' : ∀ w', Ext w w' → Ty.byte.Row w' F A (l.take n) := fun w' he => (hA.keep (fun b hb => he.block b (hF b hb)) (fun _ h => h) : Ty.byte.Row w' F A l).take n
  have hF' : ∀ w', Ext w w' → ∀ b, F b → b < w'.heap.size := fun w' he b hb => Nat.lt_of_lt_of_le (hF b hb) he.size
  have hln : (l.take n).length = n := by simp; omega
  have CS : ∀ w', Ext w w' → Calls Try.prog 42 #[.slice A n c] w' (fun en w'' => ∃ v, en = .returned v ∧ Ext w' w'' ∧ Bs B 5 w'' v (l.take n)) := fun w' he => by
    have := clone_spec (B := B) A c (l.take n) w' (Nat.le_trans hB he.size) (by rw [hln]; omega) (hF' _ he) (hA' _ he)
    rwa [hln] at this
  refine calls' (n := 10) (rs := #[.tmp 4]) (l := [.agg #[.int .i64 n], .slice A l.length c]) Try.func73 rfl rfl rfl rfl rfl ?_
  have hX := Ext.refl w
  refine W_seq ?_
  refine W_region ?_
  refine op_box (v := .agg _) rfl rfl ?_
  intro w0_0 b0_0 E0_0 B0_0 L0_0
  have hG0_0 : w.heap.size ≤ b0_0 := by have := hX.size; omega
  replace hX := hX.trans E0_0
  refine op rfl (r_assignV (v := .slice _ _ _) rfl) ?_
  refine WL_nil ?_
  refine W_seq ?_
  refine W_region ?_
  refine op rfl (r_moveV (v := .slice _ _ _) rfl) ?_
  refine op rfl (r_fieldAddr rfl Try.fld87_0 rfl) ?_
  refine op rfl (r_load (v := .int _ _) rfl Try.underlying3 rfl (Blk.cell B0_0 rfl)) ?_
  refine op rfl (r_sliceHi (j := n) rfl rfl Try.underlying23 Try.sz5 (by omega)) ?_
  refine opCv rfl (r_call Try.func42 Try.nm42 rfl) (CS _ hX) ?_
  rintro v w2 ⟨hE, hO⟩
  replace B0_0 := Blk.ext B0_0 hE
  replace hX := hX.trans hE
  refine op rfl (r_assignV (v := v) rfl) ?_
  refine WL_nil ?_
  refine W_ret (finX_ret ?_)
  refine fin1 ?_
  exact ⟨_, rfl, hX, hO⟩
end Go.Proofs.Ytlidigdlcjhkfaa
