/-
  A review that nobody answers is given up when its time is over; a pause ends then, too: the walk.
-/
import Derived.Test.YtfocbkdoolnijaaFacts
import Derived.Test.YtfocbkdoolnijaaLifeK
import Derived.Test.YtfocbkdoolnijaaLifeP
namespace Go.Proofs.Ytfocbkdoolnijaa
open Go Go.Eng Go.RowKit Go.Proofs
set_option linter.unusedVariables false
set_option maxRecDepth 20000

def tickR (wt : Int) : Lf := if wt > 1 then ⟨2, 0, 0, wt - 1, 0, 0⟩ else ⟨7, 2, 0, 0, 0, 0⟩
def tickP (wt : Int) : Lf := if wt > 1 then ⟨5, 0, 0, wt - 1, 0, 0⟩ else ⟨1, 0, 0, 0, 0, 0⟩
theorem dec_eq {wt : Int} (h1 : 1 ≤ wt) (h2 : wt ≤ 500) : dec wt = wt - 1 := wrap_i64 (by omega) (by omega)
theorem step_R (m : Lim) {wt : Int} (h1 : 1 ≤ wt) (h2 : wt ≤ 500) : (Lf.mk 2 0 0 wt 0 0).step m 8 0 = tickR wt := by
  show (Lf.mk 2 0 0 wt 0 0).tick (fun y => y.given 2) = tickR wt
  unfold Lf.tick tickR
  rw [dec_eq h1 h2]
  by_cases h : wt > 1
  · rw [if_pos (by omega), if_pos h]
  · rw [if_neg (by omega), if_neg h]; rfl
theorem step_P (m : Lim) {wt : Int} (h1 : 1 ≤ wt) (h2 : wt ≤ 500) : (Lf.mk 5 0 0 wt 0 0).step m 8 0 = tickP wt := by
  show (Lf.mk 5 0 0 wt 0 0).tick (fun y => y.to 1) = tickP wt
  unfold Lf.tick tickP
  rw [dec_eq h1 h2]
  by_cases h : wt > 1
  · rw [if_pos (by omega), if_pos h]
  · rw [if_neg (by omega), if_neg h]; rfl
theorem tickR_state {wt : Int} (h1 : 1 ≤ wt) : (tickR wt).state = 7 ↔ wt = 1 := by
  unfold tickR; split
  · simp; omega
  · simp; omega
theorem tickR_why {wt : Int} (h : (tickR wt).state = 7) : (tickR wt).why = 2 := by
  unfold tickR at *; split at h
  · cases h
  · rename_i hn; rw [if_neg hn]
theorem tickP_state {wt : Int} (h1 : 1 ≤ wt) : (tickP wt).state = 1 ↔ wt = 1 := by
  unfold tickP; split
  · simp; omega
  · simp; omega
theorem dec_ne {p q : Prop} {dp : Decidable p} {dq : Decidable q} (h : p ↔ q) : ¬ (@decide p dp ≠ @decide q dq) := by
  intro hn
  apply hn
  by_cases hp : p
  · rw [decide_eq_true hp, decide_eq_true (h.1 hp)]
  · rw [decide_eq_false hp, decide_eq_false (fun hq => hp (h.2 hq))]
theorem pw_mono {k : Int} : pw k ≤ pw (k + 1) := by unfold pw; omega
theorem pause_mono (m : Lim) (k : Int) : m.pause k ≤ m.pause (k + 1) := by
  unfold Lim.pause
  have := Nat.pow_le_pow_right (n := 2) (by decide) (pw_mono (k := k))
  omega
theorem pause_pos (m : Lim) (k : Int) (h : 0 ≤ m.backoff) : 0 ≤ m.pause k ∧ m.pause k ≤ m.backoff ∧ (0 < m.backoff → 1 ≤ m.pause k) := by
  unfold Lim.pause
  have := Nat.one_le_two_pow (n := pw k)
  omega
theorem lifeWaits_walk (W : World) (m : Lim) (hm : ∀ i ∈ [m.retries, m.review, m.backoff], inK .i64 i) (t : Int) (ht : inK .u8 t) :
    Calls Try.prog 4 #[m.val, .int .u8 t] W (fun e W' => ∃ v, e = .returned v ∧ v = .bool true ∧ Ext W W') := by
  clear hm
  have ht0 : 0 ≤ t ∧ t ≤ 255 := by simp only [inK, lo, hi] at ht; exact ht
  obtain ⟨kk, hkk⟩ : ∃ kk, t.tmod 60 = kk := ⟨_, rfl⟩
  have hk0 : 0 ≤ kk ∧ kk < 60 := by
    rw [Int.tmod_eq_emod_of_nonneg ht0.1] at hkk
    omega
  have hz : (Lf.mk 0 0 0 0 0 0).val.cells = (Lf.mk 0 0 0 0 0 0).val.cells := rfl
  refine calls' (n := 131) (rs := #[.tmp 4]) (l := [m.val, .int .u8 t]) Try.func4 rfl rfl rfl rfl rfl ?_
  have hX := Ext.refl W
  refine W_seq ?_
  refine W_region ?_
  refine op_box (v := .agg _) rfl rfl ?_
  intro w0_0 b0_0 E0_0 B0_0 L0_0
  have hG0_0 : W.heap.size ≤ b0_0 := by have := hX.size; omega
  replace hX := hX.trans E0_0
  refine op rfl (r_assignV (v := .bool _) rfl) ?_
  refine WL_nil ?_
  refine W_seq ?_
  refine W_seq ?_
  refine W_region ?_
  refine op rfl (r_loadRow rfl B0_0 Try.underlying24 rfl Try.sz24) ?_
  refine opCv rfl (r_call Try.func15 Try.nm15 rfl) (may_spec m _) ?_
  rintro v w2 ⟨rfl, hE⟩
  replace B0_0 := Blk.ext B0_0 hE
  replace hX := hX.trans hE
  refine op rfl (r_notP rfl) ?_
  refine op_split rfl (r_moveV (v := .bool (decide _)) rfl) (fun hg19 => ?_) (fun hg19 => ?_)
  · refine opG_no rfl rfl rfl rfl rfl ?_
    refine opG_no rfl rfl rfl rfl rfl ?_
    refine opG_no rfl rfl rfl rfl rfl ?_
    refine op rfl (r_pickTV (v := .bool _) rfl rfl) ?_
    refine op rfl (r_moveV (v := .bool _) rfl) ?_
    refine opG_no rfl rfl rfl rfl rfl ?_
    refine opG_no rfl rfl rfl rfl rfl ?_
    refine opG_no rfl rfl rfl rfl rfl ?_
    refine op rfl (r_pickTV (v := .bool _) rfl rfl) ?_
    refine WL_nil ?_
    refine W_then rfl ?_
    refine W_seq ?_
    refine W_region ?_
    refine opCv rfl (r_call Try.func10 Try.nm10 rfl) (known_spec _) ?_
    rintro v w2 ⟨rfl, hE⟩
    replace B0_0 := Blk.ext B0_0 hE
    replace hX := hX.trans hE
    refine op rfl (r_assignV (v := .bool _) rfl) ?_
    refine WL_nil ?_
    refine W_ret (finX_ret ?_)
    refine fin1 ?_
    exact ⟨_, rfl, rfl, hX⟩
  · refine opG_yes rfl rfl rfl rfl rfl (r_fieldAddr rfl Try.fld24_1 rfl) ?_
    refine opG_yes rfl rfl rfl rfl rfl (r_load (v := .int _ _) rfl Try.underlying3 rfl (Blk.cell B0_0 rfl)) ?_
    refine opG_yes rfl rfl rfl rfl rfl (r_gtr rfl rfl) ?_
    refine op rfl (r_pickFV (v := .bool _) rfl rfl) ?_
    refine op_split rfl (r_moveV (v := .bool (decide _)) rfl) (fun hg24 => ?_) (fun hg24 => ?_)
    · refine opG_no rfl rfl rfl rfl rfl ?_
      refine opG_no rfl rfl rfl rfl rfl ?_
      refine opG_no rfl rfl rfl rfl rfl ?_
      refine op rfl (r_pickTV (v := .bool _) rfl rfl) ?_
      refine WL_nil ?_
      refine W_then rfl ?_
      refine W_seq ?_
      refine W_region ?_
      refine opCv rfl (r_call Try.func10 Try.nm10 rfl) (known_spec _) ?_
      rintro v w2 ⟨rfl, hE⟩
      replace B0_0 := Blk.ext B0_0 hE
      replace hX := hX.trans hE
      refine op rfl (r_assignV (v := .bool _) rfl) ?_
      refine WL_nil ?_
      refine W_ret (finX_ret ?_)
      refine fin1 ?_
      exact ⟨_, rfl, rfl, hX⟩
    · refine opG_yes rfl rfl rfl rfl rfl (r_fieldAddr rfl Try.fld24_2 rfl) ?_
      refine opG_yes rfl rfl rfl rfl rfl (r_load (v := .int _ _) rfl Try.underlying3 rfl (Blk.cell B0_0 rfl)) ?_
      refine opG_yes rfl rfl rfl rfl rfl (r_gtr rfl rfl) ?_
      refine op rfl (r_pickFV (v := .bool _) rfl rfl) ?_
      refine WL_nil ?_
      refine W_ifp rfl (fun ht28 => ?_) (fun ht28 => ?_)
      · refine W_seq ?_
        refine W_region ?_
        refine opCv rfl (r_call Try.func10 Try.nm10 rfl) (known_spec _) ?_
        rintro v w2 ⟨rfl, hE⟩
        replace B0_0 := Blk.ext B0_0 hE
        replace hX := hX.trans hE
        refine op rfl (r_assignV (v := .bool _) rfl) ?_
        refine WL_nil ?_
        refine W_ret (finX_ret ?_)
        refine fin1 ?_
        exact ⟨_, rfl, rfl, hX⟩
      · have hmay : m.May := Classical.byContradiction hg19
        have hmay' := hmay
        unfold Lim.May at hmay'
        obtain ⟨p, hp⟩ : ∃ p, m.pause kk = p := ⟨_, rfl⟩
        have hpp := pause_pos m kk (by omega)
        have hpm := pause_mono m kk
        rw [hp] at hpp hpm
        have P1 : ∀ w, Calls Try.prog 17 #[m.val, .int .i64 kk] w (fun en w' => ∃ v, en = .returned v ∧ v = .int .i64 p ∧ Ext w w') := fun w => by
          have := pause_spec m kk w
          rwa [hp] at this
        have R1 : ∀ w A, evT.Row w (old w) A [(3, 0)] → Calls Try.prog 16 #[m.val, (Lf.mk 1 0 0 0 0 0).val, .slice A 1 1] w (fun en w' => ∃ v, en = .returned v ∧ v = .tuple #[(Lf.mk 2 0 0 m.review 0 0).val, .int .i64 1] ∧ Ext w w') := fun w A hA => run_spec m ⟨1, 0, 0, 0, 0, 0⟩ A 1 [(3, 0)] w (by decide) hA
        have SR : ∀ wt w, 1 ≤ wt → wt ≤ 500 → Calls Try.prog 13 #[m.val, (Lf.mk 2 0 0 wt 0 0).val, .agg #[.int .i64 8, .int .i64 0]] w (fun en w' => ∃ v, en = .returned v ∧ v = .tuple #[(tickR wt).val, .bool true] ∧ Ext w w') := fun wt w h1 h2 => by
          have := step_spec m ⟨2, 0, 0, wt, 0, 0⟩ 8 0 w
          rw [step_R m h1 h2] at this
          exact this
        have SP : ∀ wt w, 1 ≤ wt → wt ≤ 500 → Calls Try.prog 13 #[m.val, (Lf.mk 5 0 0 wt 0 0).val, .agg #[.int .i64 8, .int .i64 0]] w (fun en w' => ∃ v, en = .returned v ∧ v = .tuple #[(tickP wt).val, .bool true] ∧ Ext w w') := fun wt w h1 h2 => by
          have := step_spec m ⟨5, 0, 0, wt, 0, 0⟩ 8 0 w
          rw [step_P m h1 h2] at this
          exact this
        refine W_skip ?_
        refine W_cut [5, 6, 30, 31, 32, 33, 34, 35, 36, 37] (fun e' w' => ∃ b3_8, e' 5 = .pointer (some ⟨b3_8, 0, none⟩) ∧ Ext W w' ∧ Blk w' b0_0 m.val.cells 24 ∧ Blk w' b3_8 (Lf.mk 2 0 0 m.review 0 0).val.cells 27 ∧ W.heap.size ≤ b3_8 ∧ b0_0 ≠ b3_8) ?_ ?_
        · refine W_drawF (W0 := W) (fun b : Nat => b = b0_0 ∨ False) Try.wd rfl ?_
          intro wd3 hD
          replace B0_0 := Blk.ext B0_0 hD
          replace hX := hX.trans hD
          have DB0_0 := B0_0
          have hS : Ext W wd3 ∧ Same (fun b : Nat => b = b0_0 ∨ False) wd3 wd3 := ⟨hX, fun _ _ => rfl⟩
          refine A_take (i := 0) rfl (by kernel_rfl) (by kernel_rfl) (by kernel_rfl) rfl hS (fun _ hw => r_loadRow rfl (Blk.at DB0_0 (hw.2 _ (Or.inl rfl))) Try.underlying24 rfl Try.sz24) ?_
          refine A_take (i := 2) rfl (by kernel_rfl) (by kernel_rfl) (by kernel_rfl) rfl hS (fun _ hw => r_build (cs := [.int _ _, .int _ _]) Try.lay31 (List.forall_mem_cons.2 ⟨rfl, fun _ h => by cases h⟩) rfl rfl) ?_
          refine A_ready3 (i := 1) (j := 3) (k := 8) (by kernel_rfl) ?_ ?_ ?_
          · refine O_call rfl rfl (r_call Try.func11 Try.nm11 rfl) (new_spec false _) ?_
            rintro v w2 ⟨rfl, hE⟩
            replace B0_0 := Blk.ext B0_0 hE
            replace hX := hX.trans hE
            replace hS : Ext W w2 ∧ Same (fun b : Nat => b = b0_0 ∨ False) wd3 w2 := ⟨hX, fun b hb => Or.elim hb (fun q => by subst q; exact Blk.eq B0_0 DB0_0) (fun hb => hb.elim)⟩
            refine ⟨hS, ?_⟩
            refine A_ready2 (i := 3) (j := 8) (by kernel_rfl) ?_ ?_
            · refine O_newS rfl rfl (r_buildRows (vs := [[.int _ _, .int _ _]]) Try.underlying41 Try.sz31 Try.zero31 rfl rfl rfl) ?_
              intro w3_3 b3_3 E3_3 B3_3 L3_3
              have hG3_3 : W.heap.size ≤ b3_3 := by have := hX.size; omega
              have hNb0_0_3_3 : b0_0 ≠ b3_3 := by have := Blk.lt B0_0; omega
              replace B0_0 := Blk.ext B0_0 E3_3
              replace hX := hX.trans E3_3
              replace hS : Ext W w3_3 ∧ Same (fun b : Nat => b = b0_0 ∨ False) wd3 w3_3 := ⟨hX, fun b hb => Or.elim hb (fun q => by subst q; exact Blk.eq B0_0 DB0_0) (fun hb => hb.elim)⟩
              refine ⟨hS, ?_⟩
              refine A_ready2 (i := 4) (j := 8) (by kernel_rfl) ?_ ?_
              · refine O_call rfl rfl (r_call Try.func16 Try.nm16 rfl) (R1 _ _ (row_ints B3_3 (Blk.lt B3_3) (by decide))) ?_
                rintro v w3 ⟨rfl, hE⟩
                replace B0_0 := Blk.ext B0_0 hE
                replace B3_3 := Blk.ext B3_3 hE
                replace hX := hX.trans hE
                replace hS : Ext W w3 ∧ Same (fun b : Nat => b = b0_0 ∨ False) wd3 w3 := ⟨hX, fun b hb => Or.elim hb (fun q => by subst q; exact Blk.eq B0_0 DB0_0) (fun hb => hb.elim)⟩
                refine ⟨hS, ?_⟩
                refine A_take (i := 5) rfl (by kernel_rfl) (by kernel_rfl) (by kernel_rfl) rfl hS (fun _ hw => r_moveV (v := .tuple #[(Lf.mk 2 0 0 m.review 0 0).val, .int .i64 1]) rfl) ?_
                refine A_take (i := 6) rfl (by kernel_rfl) (by kernel_rfl) (by kernel_rfl) rfl hS (fun _ hw => r_extract (vs := [(Lf.mk 2 0 0 m.review 0 0).val, .int .i64 1]) rfl rfl) ?_
                refine A_take (i := 7) rfl (by kernel_rfl) (by kernel_rfl) (by kernel_rfl) rfl hS (fun _ hw => r_extract (vs := [(Lf.mk 2 0 0 m.review 0 0).val, .int .i64 1]) rfl rfl) ?_
                refine A_ready1 (i := 8) (by kernel_rfl) ?_
                refine O_new rfl rfl (r_alloc Try.zero27) ?_
                intro w3_8 b3_8 E3_8 B3_8 L3_8
                have hG3_8 : W.heap.size ≤ b3_8 := by have := hX.size; omega
                have hNb0_0_3_8 : b0_0 ≠ b3_8 := by have := Blk.lt B0_0; omega
                replace B0_0 := Blk.ext B0_0 E3_8
                have hNb3_3_3_8 : b3_3 ≠ b3_8 := by have := Blk.lt B3_3; omega
                replace B3_3 := Blk.ext B3_3 E3_8
                replace hX := hX.trans E3_8
                replace hS : Ext W w3_8 ∧ Same (fun b : Nat => b = b0_0 ∨ False) wd3 w3_8 := ⟨hX, fun b hb => Or.elim hb (fun q => by subst q; exact Blk.eq B0_0 DB0_0) (fun hb => hb.elim)⟩
                refine ⟨hS, ?_⟩
                refine A_ready1 (i := 9) (by kernel_rfl) ?_
                refine O_storeRow rfl rfl rfl Try.sz27 B3_8 rfl rfl ?_
                intro w3_9 C3_9 BB3_9
                replace B0_0 := Chg.blk C3_9 B0_0 hNb0_0_3_8
                replace B3_3 := Chg.blk C3_9 B3_3 hNb3_3_3_8
                replace hX := hX.chg C3_9 hG3_8
                replace B3_8 := BB3_9
                replace hS : Ext W w3_9 ∧ Same (fun b : Nat => b = b0_0 ∨ False) wd3 w3_9 := ⟨hX, fun b hb => Or.elim hb (fun q => by subst q; exact Blk.eq B0_0 DB0_0) (fun hb => hb.elim)⟩
                refine ⟨hS, ?_⟩
                refine A_take (i := 10) rfl (by kernel_rfl) (by kernel_rfl) (by kernel_rfl) rfl hS (fun _ hw => r_assignV (v := .int .i64 1) rfl) ?_
                refine A_done (by kernel_rfl) ?_
                refine ⟨?_, by repeat (first | with_reducible exact Out.refl _ _ | with_reducible exact Out.mix | refine Out.put rfl ?_ | refine Out.mixin rfl ?_ | exact Out.refl _ _ | exact Out.mix)⟩
                exact ⟨b3_8, rfl, hX, B0_0, B3_8, hG3_8, hNb0_0_3_8⟩
              · refine O_new rfl rfl (r_alloc Try.zero27) ?_
                intro w3_8 b3_8 E3_8 B3_8 L3_8
                have hG3_8 : W.heap.size ≤ b3_8 := by have := hX.size; omega
                have hNb0_0_3_8 : b0_0 ≠ b3_8 := by have := Blk.lt B0_0; omega
                replace B0_0 := Blk.ext B0_0 E3_8
                have hNb3_3_3_8 : b3_3 ≠ b3_8 := by have := Blk.lt B3_3; omega
                replace B3_3 := Blk.ext B3_3 E3_8
                replace hX := hX.trans E3_8
                replace hS : Ext W w3_8 ∧ Same (fun b : Nat => b = b0_0 ∨ False) wd3 w3_8 := ⟨hX, fun b hb => Or.elim hb (fun q => by subst q; exact Blk.eq B0_0 DB0_0) (fun hb => hb.elim)⟩
                refine ⟨hS, ?_⟩
                refine A_ready1 (i := 4) (by kernel_rfl) ?_
                refine O_call rfl rfl (r_call Try.func16 Try.nm16 rfl) (R1 _ _ (row_ints B3_3 (Blk.lt B3_3) (by decide))) ?_
                rintro v w3 ⟨rfl, hE⟩
                replace B0_0 := Blk.ext B0_0 hE
                replace B3_3 := Blk.ext B3_3 hE
                replace B3_8 := Blk.ext B3_8 hE
                replace hX := hX.trans hE
                replace hS : Ext W w3 ∧ Same (fun b : Nat => b = b0_0 ∨ False) wd3 w3 := ⟨hX, fun b hb => Or.elim hb (fun q => by subst q; exact Blk.eq B0_0 DB0_0) (fun hb => hb.elim)⟩
                refine ⟨hS, ?_⟩
                refine A_take (i := 5) rfl (by kernel_rfl) (by kernel_rfl) (by kernel_rfl) rfl hS (fun _ hw => r_moveV (v := .tuple #[(Lf.mk 2 0 0 m.review 0 0).val, .int .i64 1]) rfl) ?_
                refine A_take (i := 6) rfl (by kernel_rfl) (by kernel_rfl) (by kernel_rfl) rfl hS (fun _ hw => r_extract (vs := [(Lf.mk 2 0 0 m.review 0 0).val, .int .i64 1]) rfl rfl) ?_
                refine A_take (i := 7) rfl (by kernel_rfl) (by kernel_rfl) (by kernel_rfl) rfl hS (fun _ hw => r_extract (vs := [(Lf.mk 2 0 0 m.review 0 0).val, .int .i64 1]) rfl rfl) ?_
                refine A_ready1 (i := 9) (by kernel_rfl) ?_
                refine O_storeRow rfl rfl rfl Try.sz27 B3_8 rfl rfl ?_
                intro w3_9 C3_9 BB3_9
                replace B0_0 := Chg.blk C3_9 B0_0 hNb0_0_3_8
                replace B3_3 := Chg.blk C3_9 B3_3 hNb3_3_3_8
                replace hX := hX.chg C3_9 hG3_8
                replace B3_8 := BB3_9
                replace hS : Ext W w3_9 ∧ Same (fun b : Nat => b = b0_0 ∨ False) wd3 w3_9 := ⟨hX, fun b hb => Or.elim hb (fun q => by subst q; exact Blk.eq B0_0 DB0_0) (fun hb => hb.elim)⟩
                refine ⟨hS, ?_⟩
                refine A_take (i := 10) rfl (by kernel_rfl) (by kernel_rfl) (by kernel_rfl) rfl hS (fun _ hw => r_assignV (v := .int .i64 1) rfl) ?_
                refine A_done (by kernel_rfl) ?_
                refine ⟨?_, by repeat (first | with_reducible exact Out.refl _ _ | with_reducible exact Out.mix | refine Out.put rfl ?_ | refine Out.mixin rfl ?_ | exact Out.refl _ _ | exact Out.mix)⟩
                exact ⟨b3_8, rfl, hX, B0_0, B3_8, hG3_8, hNb0_0_3_8⟩
            · refine O_new rfl rfl (r_alloc Try.zero27) ?_
              intro w3_8 b3_8 E3_8 B3_8 L3_8
              have hG3_8 : W.heap.size ≤ b3_8 := by have := hX.size; omega
              have hNb0_0_3_8 : b0_0 ≠ b3_8 := by have := Blk.lt B0_0; omega
              replace B0_0 := Blk.ext B0_0 E3_8
              replace hX := hX.trans E3_8
              replace hS : Ext W w3_8 ∧ Same (fun b : Nat => b = b0_0 ∨ False) wd3 w3_8 := ⟨hX, fun b hb => Or.elim hb (fun q => by subst q; exact Blk.eq B0_0 DB0_0) (fun hb => hb.elim)⟩
              refine ⟨hS, ?_⟩
              refine A_ready1 (i := 3) (by kernel_rfl) ?_
              refine O_newS rfl rfl (r_buildRows (vs := [[.int _ _, .int _ _]]) Try.underlying41 Try.sz31 Try.zero31 rfl rfl rfl) ?_
              intro w3_3 b3_3 E3_3 B3_3 L3_3
              have hG3_3 : W.heap.size ≤ b3_3 := by have := hX.size; omega
              have hNb0_0_3_3 : b0_0 ≠ b3_3 := by have := Blk.lt B0_0; omega
              replace B0_0 := Blk.ext B0_0 E3_3
              have hNb3_8_3_3 : b3_8 ≠ b3_3 := by have := Blk.lt B3_8; omega
              replace B3_8 := Blk.ext B3_8 E3_3
              replace hX := hX.trans E3_3
              replace hS : Ext W w3_3 ∧ Same (fun b : Nat => b = b0_0 ∨ False) wd3 w3_3 := ⟨hX, fun b hb => Or.elim hb (fun q => by subst q; exact Blk.eq B0_0 DB0_0) (fun hb => hb.elim)⟩
              refine ⟨hS, ?_⟩
              refine A_ready1 (i := 4) (by kernel_rfl) ?_
              refine O_call rfl rfl (r_call Try.func16 Try.nm16 rfl) (R1 _ _ (row_ints B3_3 (Blk.lt B3_3) (by decide))) ?_
              rintro v w3 ⟨rfl, hE⟩
              replace B0_0 := Blk.ext B0_0 hE
              replace B3_8 := Blk.ext B3_8 hE
              replace B3_3 := Blk.ext B3_3 hE
              replace hX := hX.trans hE
              replace hS : Ext W w3 ∧ Same (fun b : Nat => b = b0_0 ∨ False) wd3 w3 := ⟨hX, fun b hb => Or.elim hb (fun q => by subst q; exact Blk.eq B0_0 DB0_0) (fun hb => hb.elim)⟩
              refine ⟨hS, ?_⟩
              refine A_take (i := 5) rfl (by kernel_rfl) (by kernel_rfl) (by kernel_rfl) rfl hS (fun _ hw => r_moveV (v := .tuple #[(Lf.mk 2 0 0 m.review 0 0).val, .int .i64 1]) rfl) ?_
              refine A_take (i := 6) rfl (by kernel_rfl) (by kernel_rfl) (by kernel_rfl) rfl hS (fun _ hw => r_extract (vs := [(Lf.mk 2 0 0 m.review 0 0).val, .int .i64 1]) rfl rfl) ?_
              refine A_take (i := 7) rfl (by kernel_rfl) (by kernel_rfl) (by kernel_rfl) rfl hS (fun _ hw => r_extract (vs := [(Lf.mk 2 0 0 m.review 0 0).val, .int .i64 1]) rfl rfl) ?_
              refine A_ready1 (i := 9) (by kernel_rfl) ?_
              refine O_storeRow rfl rfl rfl Try.sz27 B3_8 rfl rfl ?_
              intro w3_9 C3_9 BB3_9
              replace B0_0 := Chg.blk C3_9 B0_0 hNb0_0_3_8
              replace B3_3 := Chg.blk C3_9 B3_3 (fun q => hNb3_8_3_3 q.symm)
              replace hX := hX.chg C3_9 hG3_8
              replace B3_8 := BB3_9
              replace hS : Ext W w3_9 ∧ Same (fun b : Nat => b = b0_0 ∨ False) wd3 w3_9 := ⟨hX, fun b hb => Or.elim hb (fun q => by subst q; exact Blk.eq B0_0 DB0_0) (fun hb => hb.elim)⟩
              refine ⟨hS, ?_⟩
              refine A_take (i := 10) rfl (by kernel_rfl) (by kernel_rfl) (by kernel_rfl) rfl hS (fun _ hw => r_assignV (v := .int .i64 1) rfl) ?_
              refine A_done (by kernel_rfl) ?_
              refine ⟨?_, by repeat (first | with_reducible exact Out.refl _ _ | with_reducible exact Out.mix | refine Out.put rfl ?_ | refine Out.mixin rfl ?_ | exact Out.refl _ _ | exact Out.mix)⟩
              exact ⟨b3_8, rfl, hX, B0_0, B3_8, hG3_8, hNb0_0_3_8⟩
          · refine O_newS rfl rfl (r_buildRows (vs := [[.int _ _, .int _ _]]) Try.underlying41 Try.sz31 Try.zero31 rfl rfl rfl) ?_
            intro w3_3 b3_3 E3_3 B3_3 L3_3
            have hG3_3 : W.heap.size ≤ b3_3 := by have := hX.size; omega
            have hNb0_0_3_3 : b0_0 ≠ b3_3 := by have := Blk.lt B0_0; omega
            replace B0_0 := Blk.ext B0_0 E3_3
            replace hX := hX.trans E3_3
            replace hS : Ext W w3_3 ∧ Same (fun b : Nat => b = b0_0 ∨ False) wd3 w3_3 := ⟨hX, fun b hb => Or.elim hb (fun q => by subst q; exact Blk.eq B0_0 DB0_0) (fun hb => hb.elim)⟩
            refine ⟨hS, ?_⟩
            refine A_ready2 (i := 1) (j := 8) (by kernel_rfl) ?_ ?_
            · refine O_call rfl rfl (r_call Try.func11 Try.nm11 rfl) (new_spec false _) ?_
              rintro v w2 ⟨rfl, hE⟩
              replace B0_0 := Blk.ext B0_0 hE
              replace B3_3 := Blk.ext B3_3 hE
              replace hX := hX.trans hE
              replace hS : Ext W w2 ∧ Same (fun b : Nat => b = b0_0 ∨ False) wd3 w2 := ⟨hX, fun b hb => Or.elim hb (fun q => by subst q; exact Blk.eq B0_0 DB0_0) (fun hb => hb.elim)⟩
              refine ⟨hS, ?_⟩
              refine A_ready2 (i := 4) (j := 8) (by kernel_rfl) ?_ ?_
              · refine O_call rfl rfl (r_call Try.func16 Try.nm16 rfl) (R1 _ _ (row_ints B3_3 (Blk.lt B3_3) (by decide))) ?_
                rintro v w3 ⟨rfl, hE⟩
                replace B0_0 := Blk.ext B0_0 hE
                replace B3_3 := Blk.ext B3_3 hE
                replace hX := hX.trans hE
                replace hS : Ext W w3 ∧ Same (fun b : Nat => b = b0_0 ∨ False) wd3 w3 := ⟨hX, fun b hb => Or.elim hb (fun q => by subst q; exact Blk.eq B0_0 DB0_0) (fun hb => hb.elim)⟩
                refine ⟨hS, ?_⟩
                refine A_take (i := 5) rfl (by kernel_rfl) (by kernel_rfl) (by kernel_rfl) rfl hS (fun _ hw => r_moveV (v := .tuple #[(Lf.mk 2 0 0 m.review 0 0).val, .int .i64 1]) rfl) ?_
                refine A_take (i := 6) rfl (by kernel_rfl) (by kernel_rfl) (by kernel_rfl) rfl hS (fun _ hw => r_extract (vs := [(Lf.mk 2 0 0 m.review 0 0).val, .int .i64 1]) rfl rfl) ?_
                refine A_take (i := 7) rfl (by kernel_rfl) (by kernel_rfl) (by kernel_rfl) rfl hS (fun _ hw => r_extract (vs := [(Lf.mk 2 0 0 m.review 0 0).val, .int .i64 1]) rfl rfl) ?_
                refine A_ready1 (i := 8) (by kernel_rfl) ?_
                refine O_new rfl rfl (r_alloc Try.zero27) ?_
                intro w3_8 b3_8 E3_8 B3_8 L3_8
                have hG3_8 : W.heap.size ≤ b3_8 := by have := hX.size; omega
                have hNb0_0_3_8 : b0_0 ≠ b3_8 := by have := Blk.lt B0_0; omega
                replace B0_0 := Blk.ext B0_0 E3_8
                have hNb3_3_3_8 : b3_3 ≠ b3_8 := by have := Blk.lt B3_3; omega
                replace B3_3 := Blk.ext B3_3 E3_8
                replace hX := hX.trans E3_8
                replace hS : Ext W w3_8 ∧ Same (fun b : Nat => b = b0_0 ∨ False) wd3 w3_8 := ⟨hX, fun b hb => Or.elim hb (fun q => by subst q; exact Blk.eq B0_0 DB0_0) (fun hb => hb.elim)⟩
                refine ⟨hS, ?_⟩
                refine A_ready1 (i := 9) (by kernel_rfl) ?_
                refine O_storeRow rfl rfl rfl Try.sz27 B3_8 rfl rfl ?_
                intro w3_9 C3_9 BB3_9
                replace B0_0 := Chg.blk C3_9 B0_0 hNb0_0_3_8
                replace B3_3 := Chg.blk C3_9 B3_3 hNb3_3_3_8
                replace hX := hX.chg C3_9 hG3_8
                replace B3_8 := BB3_9
                replace hS : Ext W w3_9 ∧ Same (fun b : Nat => b = b0_0 ∨ False) wd3 w3_9 := ⟨hX, fun b hb => Or.elim hb (fun q => by subst q; exact Blk.eq B0_0 DB0_0) (fun hb => hb.elim)⟩
                refine ⟨hS, ?_⟩
                refine A_take (i := 10) rfl (by kernel_rfl) (by kernel_rfl) (by kernel_rfl) rfl hS (fun _ hw => r_assignV (v := .int .i64 1) rfl) ?_
                refine A_done (by kernel_rfl) ?_
                refine ⟨?_, by repeat (first | with_reducible exact Out.refl _ _ | with_reducible exact Out.mix | refine Out.put rfl ?_ | refine Out.mixin rfl ?_ | exact Out.refl _ _ | exact Out.mix)⟩
                exact ⟨b3_8, rfl, hX, B0_0, B3_8, hG3_8, hNb0_0_3_8⟩
              · refine O_new rfl rfl (r_alloc Try.zero27) ?_
                intro w3_8 b3_8 E3_8 B3_8 L3_8
                have hG3_8 : W.heap.size ≤ b3_8 := by have := hX.size; omega
                have hNb0_0_3_8 : b0_0 ≠ b3_8 := by have := Blk.lt B0_0; omega
                replace B0_0 := Blk.ext B0_0 E3_8
                have hNb3_3_3_8 : b3_3 ≠ b3_8 := by have := Blk.lt B3_3; omega
                replace B3_3 := Blk.ext B3_3 E3_8
                replace hX := hX.trans E3_8
                replace hS : Ext W w3_8 ∧ Same (fun b : Nat => b = b0_0 ∨ False) wd3 w3_8 := ⟨hX, fun b hb => Or.elim hb (fun q => by subst q; exact Blk.eq B0_0 DB0_0) (fun hb => hb.elim)⟩
                refine ⟨hS, ?_⟩
                refine A_ready1 (i := 4) (by kernel_rfl) ?_
                refine O_call rfl rfl (r_call Try.func16 Try.nm16 rfl) (R1 _ _ (row_ints B3_3 (Blk.lt B3_3) (by decide))) ?_
                rintro v w3 ⟨rfl, hE⟩
                replace B0_0 := Blk.ext B0_0 hE
                replace B3_3 := Blk.ext B3_3 hE
                replace B3_8 := Blk.ext B3_8 hE
                replace hX := hX.trans hE
                replace hS : Ext W w3 ∧ Same (fun b : Nat => b = b0_0 ∨ False) wd3 w3 := ⟨hX, fun b hb => Or.elim hb (fun q => by subst q; exact Blk.eq B0_0 DB0_0) (fun hb => hb.elim)⟩
                refine ⟨hS, ?_⟩
                refine A_take (i := 5) rfl (by kernel_rfl) (by kernel_rfl) (by kernel_rfl) rfl hS (fun _ hw => r_moveV (v := .tuple #[(Lf.mk 2 0 0 m.review 0 0).val, .int .i64 1]) rfl) ?_
                refine A_take (i := 6) rfl (by kernel_rfl) (by kernel_rfl) (by kernel_rfl) rfl hS (fun _ hw => r_extract (vs := [(Lf.mk 2 0 0 m.review 0 0).val, .int .i64 1]) rfl rfl) ?_
                refine A_take (i := 7) rfl (by kernel_rfl) (by kernel_rfl) (by kernel_rfl) rfl hS (fun _ hw => r_extract (vs := [(Lf.mk 2 0 0 m.review 0 0).val, .int .i64 1]) rfl rfl) ?_
                refine A_ready1 (i := 9) (by kernel_rfl) ?_
                refine O_storeRow rfl rfl rfl Try.sz27 B3_8 rfl rfl ?_
                intro w3_9 C3_9 BB3_9
                replace B0_0 := Chg.blk C3_9 B0_0 hNb0_0_3_8
                replace B3_3 := Chg.blk C3_9 B3_3 hNb3_3_3_8
                replace hX := hX.chg C3_9 hG3_8
                replace B3_8 := BB3_9
                replace hS : Ext W w3_9 ∧ Same (fun b : Nat => b = b0_0 ∨ False) wd3 w3_9 := ⟨hX, fun b hb => Or.elim hb (fun q => by subst q; exact Blk.eq B0_0 DB0_0) (fun hb => hb.elim)⟩
                refine ⟨hS, ?_⟩
                refine A_take (i := 10) rfl (by kernel_rfl) (by kernel_rfl) (by kernel_rfl) rfl hS (fun _ hw => r_assignV (v := .int .i64 1) rfl) ?_
                refine A_done (by kernel_rfl) ?_
                refine ⟨?_, by repeat (first | with_reducible exact Out.refl _ _ | with_reducible exact Out.mix | refine Out.put rfl ?_ | refine Out.mixin rfl ?_ | exact Out.refl _ _ | exact Out.mix)⟩
                exact ⟨b3_8, rfl, hX, B0_0, B3_8, hG3_8, hNb0_0_3_8⟩
            · refine O_new rfl rfl (r_alloc Try.zero27) ?_
              intro w3_8 b3_8 E3_8 B3_8 L3_8
              have hG3_8 : W.heap.size ≤ b3_8 := by have := hX.size; omega
              have hNb0_0_3_8 : b0_0 ≠ b3_8 := by have := Blk.lt B0_0; omega
              replace B0_0 := Blk.ext B0_0 E3_8
              have hNb3_3_3_8 : b3_3 ≠ b3_8 := by have := Blk.lt B3_3; omega
              replace B3_3 := Blk.ext B3_3 E3_8
              replace hX := hX.trans E3_8
              replace hS : Ext W w3_8 ∧ Same (fun b : Nat => b = b0_0 ∨ False) wd3 w3_8 := ⟨hX, fun b hb => Or.elim hb (fun q => by subst q; exact Blk.eq B0_0 DB0_0) (fun hb => hb.elim)⟩
              refine ⟨hS, ?_⟩
              refine A_ready1 (i := 1) (by kernel_rfl) ?_
              refine O_call rfl rfl (r_call Try.func11 Try.nm11 rfl) (new_spec false _) ?_
              rintro v w2 ⟨rfl, hE⟩
              replace B0_0 := Blk.ext B0_0 hE
              replace B3_3 := Blk.ext B3_3 hE
              replace B3_8 := Blk.ext B3_8 hE
              replace hX := hX.trans hE
              replace hS : Ext W w2 ∧ Same (fun b : Nat => b = b0_0 ∨ False) wd3 w2 := ⟨hX, fun b hb => Or.elim hb (fun q => by subst q; exact Blk.eq B0_0 DB0_0) (fun hb => hb.elim)⟩
              refine ⟨hS, ?_⟩
              refine A_ready1 (i := 4) (by kernel_rfl) ?_
              refine O_call rfl rfl (r_call Try.func16 Try.nm16 rfl) (R1 _ _ (row_ints B3_3 (Blk.lt B3_3) (by decide))) ?_
              rintro v w3 ⟨rfl, hE⟩
              replace B0_0 := Blk.ext B0_0 hE
              replace B3_3 := Blk.ext B3_3 hE
              replace B3_8 := Blk.ext B3_8 hE
              replace hX := hX.trans hE
              replace hS : Ext W w3 ∧ Same (fun b : Nat => b = b0_0 ∨ False) wd3 w3 := ⟨hX, fun b hb => Or.elim hb (fun q => by subst q; exact Blk.eq B0_0 DB0_0) (fun hb => hb.elim)⟩
              refine ⟨hS, ?_⟩
              refine A_take (i := 5) rfl (by kernel_rfl) (by kernel_rfl) (by kernel_rfl) rfl hS (fun _ hw => r_moveV (v := .tuple #[(Lf.mk 2 0 0 m.review 0 0).val, .int .i64 1]) rfl) ?_
              refine A_take (i := 6) rfl (by kernel_rfl) (by kernel_rfl) (by kernel_rfl) rfl hS (fun _ hw => r_extract (vs := [(Lf.mk 2 0 0 m.review 0 0).val, .int .i64 1]) rfl rfl) ?_
              refine A_take (i := 7) rfl (by kernel_rfl) (by kernel_rfl) (by kernel_rfl) rfl hS (fun _ hw => r_extract (vs := [(Lf.mk 2 0 0 m.review 0 0).val, .int .i64 1]) rfl rfl) ?_
              refine A_ready1 (i := 9) (by kernel_rfl) ?_
              refine O_storeRow rfl rfl rfl Try.sz27 B3_8 rfl rfl ?_
              intro w3_9 C3_9 BB3_9
              replace B0_0 := Chg.blk C3_9 B0_0 hNb0_0_3_8
              replace B3_3 := Chg.blk C3_9 B3_3 hNb3_3_3_8
              replace hX := hX.chg C3_9 hG3_8
              replace B3_8 := BB3_9
              replace hS : Ext W w3_9 ∧ Same (fun b : Nat => b = b0_0 ∨ False) wd3 w3_9 := ⟨hX, fun b hb => Or.elim hb (fun q => by subst q; exact Blk.eq B0_0 DB0_0) (fun hb => hb.elim)⟩
              refine ⟨hS, ?_⟩
              refine A_take (i := 10) rfl (by kernel_rfl) (by kernel_rfl) (by kernel_rfl) rfl hS (fun _ hw => r_assignV (v := .int .i64 1) rfl) ?_
              refine A_done (by kernel_rfl) ?_
              refine ⟨?_, by repeat (first | with_reducible exact Out.refl _ _ | with_reducible exact Out.mix | refine Out.put rfl ?_ | refine Out.mixin rfl ?_ | exact Out.refl _ _ | exact Out.mix)⟩
              exact ⟨b3_8, rfl, hX, B0_0, B3_8, hG3_8, hNb0_0_3_8⟩
          · refine O_new rfl rfl (r_alloc Try.zero27) ?_
            intro w3_8 b3_8 E3_8 B3_8 L3_8
            have hG3_8 : W.heap.size ≤ b3_8 := by have := hX.size; omega
            have hNb0_0_3_8 : b0_0 ≠ b3_8 := by have := Blk.lt B0_0; omega
            replace B0_0 := Blk.ext B0_0 E3_8
            replace hX := hX.trans E3_8
            replace hS : Ext W w3_8 ∧ Same (fun b : Nat => b = b0_0 ∨ False) wd3 w3_8 := ⟨hX, fun b hb => Or.elim hb (fun q => by subst q; exact Blk.eq B0_0 DB0_0) (fun hb => hb.elim)⟩
            refine ⟨hS, ?_⟩
            refine A_ready2 (i := 1) (j := 3) (by kernel_rfl) ?_ ?_
            · refine O_call rfl rfl (r_call Try.func11 Try.nm11 rfl) (new_spec false _) ?_
              rintro v w2 ⟨rfl, hE⟩
              replace B0_0 := Blk.ext B0_0 hE
              replace B3_8 := Blk.ext B3_8 hE
              replace hX := hX.trans hE
              replace hS : Ext W w2 ∧ Same (fun b : Nat => b = b0_0 ∨ False) wd3 w2 := ⟨hX, fun b hb => Or.elim hb (fun q => by subst q; exact Blk.eq B0_0 DB0_0) (fun hb => hb.elim)⟩
              refine ⟨hS, ?_⟩
              refine A_ready1 (i := 3) (by kernel_rfl) ?_
              refine O_newS rfl rfl (r_buildRows (vs := [[.int _ _, .int _ _]]) Try.underlying41 Try.sz31 Try.zero31 rfl rfl rfl) ?_
              intro w3_3 b3_3 E3_3 B3_3 L3_3
              have hG3_3 : W.heap.size ≤ b3_3 := by have := hX.size; omega
              have hNb0_0_3_3 : b0_0 ≠ b3_3 := by have := Blk.lt B0_0; omega
              replace B0_0 := Blk.ext B0_0 E3_3
              have hNb3_8_3_3 : b3_8 ≠ b3_3 := by have := Blk.lt B3_8; omega
              replace B3_8 := Blk.ext B3_8 E3_3
              replace hX := hX.trans E3_3
              replace hS : Ext W w3_3 ∧ Same (fun b : Nat => b = b0_0 ∨ False) wd3 w3_3 := ⟨hX, fun b hb => Or.elim hb (fun q => by subst q; exact Blk.eq B0_0 DB0_0) (fun hb => hb.elim)⟩
              refine ⟨hS, ?_⟩
              refine A_ready1 (i := 4) (by kernel_rfl) ?_
              refine O_call rfl rfl (r_call Try.func16 Try.nm16 rfl) (R1 _ _ (row_ints B3_3 (Blk.lt B3_3) (by decide))) ?_
              rintro v w3 ⟨rfl, hE⟩
              replace B0_0 := Blk.ext B0_0 hE
              replace B3_8 := Blk.ext B3_8 hE
              replace B3_3 := Blk.ext B3_3 hE
              replace hX := hX.trans hE
              replace hS : Ext W w3 ∧ Same (fun b : Nat => b = b0_0 ∨ False) wd3 w3 := ⟨hX, fun b hb => Or.elim hb (fun q => by subst q; exact Blk.eq B0_0 DB0_0) (fun hb => hb.elim)⟩
              refine ⟨hS, ?_⟩
              refine A_take (i := 5) rfl (by kernel_rfl) (by kernel_rfl) (by kernel_rfl) rfl hS (fun _ hw => r_moveV (v := .tuple #[(Lf.mk 2 0 0 m.review 0 0).val, .int .i64 1]) rfl) ?_
              refine A_take (i := 6) rfl (by kernel_rfl) (by kernel_rfl) (by kernel_rfl) rfl hS (fun _ hw => r_extract (vs := [(Lf.mk 2 0 0 m.review 0 0).val, .int .i64 1]) rfl rfl) ?_
              refine A_take (i := 7) rfl (by kernel_rfl) (by kernel_rfl) (by kernel_rfl) rfl hS (fun _ hw => r_extract (vs := [(Lf.mk 2 0 0 m.review 0 0).val, .int .i64 1]) rfl rfl) ?_
              refine A_ready1 (i := 9) (by kernel_rfl) ?_
              refine O_storeRow rfl rfl rfl Try.sz27 B3_8 rfl rfl ?_
              intro w3_9 C3_9 BB3_9
              replace B0_0 := Chg.blk C3_9 B0_0 hNb0_0_3_8
              replace B3_3 := Chg.blk C3_9 B3_3 (fun q => hNb3_8_3_3 q.symm)
              replace hX := hX.chg C3_9 hG3_8
              replace B3_8 := BB3_9
              replace hS : Ext W w3_9 ∧ Same (fun b : Nat => b = b0_0 ∨ False) wd3 w3_9 := ⟨hX, fun b hb => Or.elim hb (fun q => by subst q; exact Blk.eq B0_0 DB0_0) (fun hb => hb.elim)⟩
              refine ⟨hS, ?_⟩
              refine A_take (i := 10) rfl (by kernel_rfl) (by kernel_rfl) (by kernel_rfl) rfl hS (fun _ hw => r_assignV (v := .int .i64 1) rfl) ?_
              refine A_done (by kernel_rfl) ?_
              refine ⟨?_, by repeat (first | with_reducible exact Out.refl _ _ | with_reducible exact Out.mix | refine Out.put rfl ?_ | refine Out.mixin rfl ?_ | exact Out.refl _ _ | exact Out.mix)⟩
              exact ⟨b3_8, rfl, hX, B0_0, B3_8, hG3_8, hNb0_0_3_8⟩
            · refine O_newS rfl rfl (r_buildRows (vs := [[.int _ _, .int _ _]]) Try.underlying41 Try.sz31 Try.zero31 rfl rfl rfl) ?_
              intro w3_3 b3_3 E3_3 B3_3 L3_3
              have hG3_3 : W.heap.size ≤ b3_3 := by have := hX.size; omega
              have hNb0_0_3_3 : b0_0 ≠ b3_3 := by have := Blk.lt B0_0; omega
              replace B0_0 := Blk.ext B0_0 E3_3
              have hNb3_8_3_3 : b3_8 ≠ b3_3 := by have := Blk.lt B3_8; omega
              replace B3_8 := Blk.ext B3_8 E3_3
              replace hX := hX.trans E3_3
              replace hS : Ext W w3_3 ∧ Same (fun b : Nat => b = b0_0 ∨ False) wd3 w3_3 := ⟨hX, fun b hb => Or.elim hb (fun q => by subst q; exact Blk.eq B0_0 DB0_0) (fun hb => hb.elim)⟩
              refine ⟨hS, ?_⟩
              refine A_ready1 (i := 1) (by kernel_rfl) ?_
              refine O_call rfl rfl (r_call Try.func11 Try.nm11 rfl) (new_spec false _) ?_
              rintro v w2 ⟨rfl, hE⟩
              replace B0_0 := Blk.ext B0_0 hE
              replace B3_8 := Blk.ext B3_8 hE
              replace B3_3 := Blk.ext B3_3 hE
              replace hX := hX.trans hE
              replace hS : Ext W w2 ∧ Same (fun b : Nat => b = b0_0 ∨ False) wd3 w2 := ⟨hX, fun b hb => Or.elim hb (fun q => by subst q; exact Blk.eq B0_0 DB0_0) (fun hb => hb.elim)⟩
              refine ⟨hS, ?_⟩
              refine A_ready1 (i := 4) (by kernel_rfl) ?_
              refine O_call rfl rfl (r_call Try.func16 Try.nm16 rfl) (R1 _ _ (row_ints B3_3 (Blk.lt B3_3) (by decide))) ?_
              rintro v w3 ⟨rfl, hE⟩
              replace B0_0 := Blk.ext B0_0 hE
              replace B3_8 := Blk.ext B3_8 hE
              replace B3_3 := Blk.ext B3_3 hE
              replace hX := hX.trans hE
              replace hS : Ext W w3 ∧ Same (fun b : Nat => b = b0_0 ∨ False) wd3 w3 := ⟨hX, fun b hb => Or.elim hb (fun q => by subst q; exact Blk.eq B0_0 DB0_0) (fun hb => hb.elim)⟩
              refine ⟨hS, ?_⟩
              refine A_take (i := 5) rfl (by kernel_rfl) (by kernel_rfl) (by kernel_rfl) rfl hS (fun _ hw => r_moveV (v := .tuple #[(Lf.mk 2 0 0 m.review 0 0).val, .int .i64 1]) rfl) ?_
              refine A_take (i := 6) rfl (by kernel_rfl) (by kernel_rfl) (by kernel_rfl) rfl hS (fun _ hw => r_extract (vs := [(Lf.mk 2 0 0 m.review 0 0).val, .int .i64 1]) rfl rfl) ?_
              refine A_take (i := 7) rfl (by kernel_rfl) (by kernel_rfl) (by kernel_rfl) rfl hS (fun _ hw => r_extract (vs := [(Lf.mk 2 0 0 m.review 0 0).val, .int .i64 1]) rfl rfl) ?_
              refine A_ready1 (i := 9) (by kernel_rfl) ?_
              refine O_storeRow rfl rfl rfl Try.sz27 B3_8 rfl rfl ?_
              intro w3_9 C3_9 BB3_9
              replace B0_0 := Chg.blk C3_9 B0_0 hNb0_0_3_8
              replace B3_3 := Chg.blk C3_9 B3_3 (fun q => hNb3_8_3_3 q.symm)
              replace hX := hX.chg C3_9 hG3_8
              replace B3_8 := BB3_9
              replace hS : Ext W w3_9 ∧ Same (fun b : Nat => b = b0_0 ∨ False) wd3 w3_9 := ⟨hX, fun b hb => Or.elim hb (fun q => by subst q; exact Blk.eq B0_0 DB0_0) (fun hb => hb.elim)⟩
              refine ⟨hS, ?_⟩
              refine A_take (i := 10) rfl (by kernel_rfl) (by kernel_rfl) (by kernel_rfl) rfl hS (fun _ hw => r_assignV (v := .int .i64 1) rfl) ?_
              refine A_done (by kernel_rfl) ?_
              refine ⟨?_, by repeat (first | with_reducible exact Out.refl _ _ | with_reducible exact Out.mix | refine Out.put rfl ?_ | refine Out.mixin rfl ?_ | exact Out.refl _ _ | exact Out.mix)⟩
              exact ⟨b3_8, rfl, hX, B0_0, B3_8, hG3_8, hNb0_0_3_8⟩
        rintro gregion3 w' hJ
        obtain ⟨b3_8, h5, hX', Bx0, Bx1, hG3_8, hNb0_0_3_8⟩ := hJ
        clear hX B0_0
        have hX := hX'
        have B0_0 := Bx0
        have B3_8 := Bx1
        clear hX' Bx0 Bx1
        refine W_set (i := 5) h5 ?_
        refine W_seq ?_
        refine W_seq ?_
        refine W_region ?_
        refine op rfl (r_assignV (v := .int _ _) rfl) ?_
        refine WL_nil ?_
        refine W_block ?_
        refine W_loop [4, 7, 8, 9, 38, 39, 40, 41, 42, 43, 44, 45, 46, 47, 48, 49, 50, 51, 52, 53, 54, 55, 56, 57, 58, 59, 60, 61, 62, 63, 64, 65, 66, 67, 68, 69, 70, 71, 72, 73] (fun k e' w' => ∃ (i : Int) (y : Lf), k = (m.review + 1 - i).toNat ∧ 1 ≤ i ∧ i ≤ m.review + 1 ∧ e' 7 = .int .i64 i ∧ (i ≤ m.review → y = ⟨2, 0, 0, m.review - (i - 1), 0, 0⟩) ∧ Ext W w' ∧ Blk w' b0_0 m.val.cells 24 ∧ Blk w' b3_8 y.val.cells 27) (m.review.toNat) ?_ ?_
        · exact ⟨1, ⟨2, 0, 0, m.review, 0, 0⟩, by omega, by omega, by omega, rfl, fun _ => by simp, hX, B0_0, B3_8⟩
        intro k g w' hI
        obtain ⟨i, y, hk, hi1, hi2, h7, hy, hX', Bx0, Bx1⟩ := hI
        clear hX B0_0 B3_8
        have hX := hX'
        have B0_0 := Bx0
        have B3_8 := Bx1
        clear hX' Bx0 Bx1
        refine W_set (i := 7) h7 ?_
        refine W_seq ?_
        refine W_seq ?_
        refine W_region ?_
        refine op rfl (r_moveV (v := .int _ _) rfl) ?_
        refine op rfl (r_fieldAddr rfl Try.fld24_1 rfl) ?_
        refine op rfl (r_load (v := .int _ _) rfl Try.underlying3 rfl (Blk.cell B0_0 rfl)) ?_
        refine op rfl (r_leq rfl rfl) ?_
        refine WL_nil ?_
        refine W_ifp rfl (fun ht41 => ?_) (fun ht41 => ?_)
        · obtain rfl := hy ht41
          refine W_skip ?_
          refine W_seq ?_
          refine W_block ?_
          refine W_seq ?_
          refine W_region ?_
          refine op rfl (r_loadRow rfl B0_0 Try.underlying24 rfl Try.sz24) ?_
          refine op rfl (r_loadRow rfl B3_8 Try.underlying27 rfl Try.sz27) ?_
          refine op rfl (r_build (cs := [.int _ _, .int _ _]) Try.lay31 (List.forall_mem_cons.2 ⟨rfl, fun _ h => by cases h⟩) rfl rfl) ?_
          refine opCv rfl (r_call Try.func13 Try.nm13 rfl) (SR (m.review - (i - 1)) _ (by omega) (by omega)) ?_
          rintro v w4 ⟨rfl, hE⟩
          replace B0_0 := Blk.ext B0_0 hE
          replace B3_8 := Blk.ext B3_8 hE
          replace hX := hX.trans hE
          refine op rfl (r_moveV (v := .tuple #[(tickR (m.review - (i - 1))).val, .bool true]) rfl) ?_
          refine op rfl (r_extract (vs := [(tickR (m.review - (i - 1))).val, .bool true]) rfl rfl) ?_
          refine op rfl (r_extract (vs := [(tickR (m.review - (i - 1))).val, .bool true]) rfl rfl) ?_
          refine op_alloc rfl Try.zero27 ?_
          intro w7_7 b7_7 E7_7 B7_7 L7_7
          have hG7_7 : W.heap.size ≤ b7_7 := by have := hX.size; omega
          have hNb0_0_7_7 : b0_0 ≠ b7_7 := by have := Blk.lt B0_0; omega
          replace B0_0 := Blk.ext B0_0 E7_7
          have hNb3_8_7_7 : b3_8 ≠ b7_7 := by have := Blk.lt B3_8; omega
          replace B3_8 := Blk.ext B3_8 E7_7
          replace hX := hX.trans E7_7
          refine op_storeRow rfl rfl Try.sz27 B7_7 rfl rfl ?_
          intro w7_8 C7_8 BB7_8
          replace B0_0 := Chg.blk C7_8 B0_0 hNb0_0_7_7
          replace B3_8 := Chg.blk C7_8 B3_8 hNb3_8_7_7
          replace hX := hX.chg C7_8 hG7_7
          replace B7_7 := BB7_8
          refine op rfl (r_assignV (v := .bool true) rfl) ?_
          refine WL_nil ?_
          refine W_seq ?_
          refine W_seq ?_
          refine W_region ?_
          refine op rfl (r_moveV (v := .bool true) rfl) ?_
          refine op rfl (r_notP (p := True) rfl) ?_
          refine op_false rfl (r_moveV (v := .bool (decide _)) rfl) (fun h => h trivial) ?_
          refine opG_yes rfl rfl rfl rfl rfl (r_fieldAddr rfl Try.fld27_0 rfl) ?_
          refine opG_yes rfl rfl rfl rfl rfl (r_load (v := .int _ _) rfl Try.underlying3 rfl (Blk.cell B7_7 rfl)) ?_
          refine opG_yes rfl rfl rfl rfl rfl (r_eql rfl rfl) ?_
          refine opG_yes rfl rfl rfl rfl rfl (r_moveV (v := .int _ _) rfl) ?_
          refine opG_yes rfl rfl rfl rfl rfl (r_fieldAddr rfl Try.fld24_1 rfl) ?_
          refine opG_yes rfl rfl rfl rfl rfl (r_load (v := .int _ _) rfl Try.underlying3 rfl (Blk.cell B0_0 rfl)) ?_
          refine opG_yes rfl rfl rfl rfl rfl (r_eql rfl rfl) ?_
          refine opG_yes rfl rfl rfl rfl rfl (rb_neq rfl rfl Try.underlying4) ?_
          refine op rfl (r_pickFV (v := .bool _) rfl rfl) ?_
          refine op_false rfl (r_moveV (v := .bool (decide _)) rfl) (dec_ne (by rw [tickR_state (by omega)]; omega)) ?_
          refine opG_yes rfl rfl rfl rfl rfl (r_fieldAddr rfl Try.fld27_0 rfl) ?_
          refine opG_yes rfl rfl rfl rfl rfl (r_load (v := .int _ _) rfl Try.underlying3 rfl (Blk.cell B7_7 rfl)) ?_
          refine opG_yes rfl rfl rfl rfl rfl (r_eql rfl rfl) ?_
          refine opG_split rfl rfl rfl rfl rfl (r_moveV (v := .bool (decide _)) rfl) (fun hg67 => ?_) (fun hg67 => ?_)
          · refine opG_yes rfl rfl rfl rfl rfl (r_fieldAddr rfl Try.fld27_1 rfl) ?_
            refine opG_yes rfl rfl rfl rfl rfl (r_load (v := .int _ _) rfl Try.underlying3 rfl (Blk.cell B7_7 rfl)) ?_
            refine opG_yes rfl rfl rfl rfl rfl (r_neq rfl rfl) ?_
            refine opG_yes rfl rfl rfl rfl rfl (r_pickTV (v := .bool _) rfl rfl) ?_
            refine op rfl (r_pickFV (v := .bool _) rfl rfl) ?_
            refine WL_nil ?_
            refine W_ifp rfl (fun ht72 => ?_) (fun ht72 => ?_)
            · exact absurd (tickR_why hg67) ht72
            · refine W_skip ?_
              refine W_region ?_
              refine op rfl (r_loadRow rfl B7_7 Try.underlying27 rfl Try.sz27) ?_
              refine op_storeRow rfl rfl Try.sz27 B3_8 rfl rfl ?_
              intro w10_1 C10_1 BB10_1
              replace B0_0 := Chg.blk C10_1 B0_0 hNb0_0_3_8
              replace B7_7 := Chg.blk C10_1 B7_7 (fun q => hNb3_8_7_7 q.symm)
              replace hX := hX.chg C10_1 hG3_8
              replace B3_8 := BB10_1
              refine WL_nil ?_
              refine W_region ?_
              refine op rfl (r_moveV (v := .int _ _) rfl) ?_
              refine op rfl (r_add' rfl rfl (wrap_i64 (by omega) (by omega))) ?_
              refine op rfl (r_assignV (v := .int _ _) rfl) ?_
              refine WL_nil ?_
              refine ⟨?_, by repeat (first | with_reducible exact Out.refl _ _ | with_reducible exact Out.mix | refine Out.put rfl ?_ | refine Out.mixin rfl ?_ | exact Out.refl _ _ | exact Out.mix)⟩
              exact ⟨(m.review + 1 - (i + 1)).toNat, by omega, i + 1, tickR (m.review - (i - 1)), rfl, by omega, by omega, rfl, fun h => by unfold tickR; rw [if_pos (by omega)]; congr 1; omega, hX, B0_0, B3_8⟩
          · refine opG_no rfl rfl rfl rfl rfl ?_
            refine opG_no rfl rfl rfl rfl rfl ?_
            refine opG_no rfl rfl rfl rfl rfl ?_
            refine opG_yes rfl rfl rfl rfl rfl (r_pickFV (v := .bool _) rfl rfl) ?_
            refine op rfl (r_pickFV (v := .bool _) rfl rfl) ?_
            refine WL_nil ?_
            refine W_else rfl ?_
            refine W_skip ?_
            refine W_region ?_
            refine op rfl (r_loadRow rfl B7_7 Try.underlying27 rfl Try.sz27) ?_
            refine op_storeRow rfl rfl Try.sz27 B3_8 rfl rfl ?_
            intro w10_1 C10_1 BB10_1
            replace B0_0 := Chg.blk C10_1 B0_0 hNb0_0_3_8
            replace B7_7 := Chg.blk C10_1 B7_7 (fun q => hNb3_8_7_7 q.symm)
            replace hX := hX.chg C10_1 hG3_8
            replace B3_8 := BB10_1
            refine WL_nil ?_
            refine W_region ?_
            refine op rfl (r_moveV (v := .int _ _) rfl) ?_
            refine op rfl (r_add' rfl rfl (wrap_i64 (by omega) (by omega))) ?_
            refine op rfl (r_assignV (v := .int _ _) rfl) ?_
            refine WL_nil ?_
            refine ⟨?_, by repeat (first | with_reducible exact Out.refl _ _ | with_reducible exact Out.mix | refine Out.put rfl ?_ | refine Out.mixin rfl ?_ | exact Out.refl _ _ | exact Out.mix)⟩
            exact ⟨(m.review + 1 - (i + 1)).toNat, by omega, i + 1, tickR (m.review - (i - 1)), rfl, by omega, by omega, rfl, fun h => by unfold tickR; rw [if_pos (by omega)]; congr 1; omega, hX, B0_0, B3_8⟩
        · refine W_exit (blk_hit ?_)
          refine W_seq ?_
          refine W_region ?_
          refine op rfl (r_moveV (v := .int _ _) rfl) ?_
          refine op rfl (r_conv' rfl Try.underlying5 Try.underlying3 (wrap_i64 (by omega) (by omega))) ?_
          refine op rfl (r_rem' rfl rfl (by decide) hkk) ?_
          refine op rfl (r_assignV (v := .int _ _) rfl) ?_
          refine WL_nil ?_
          refine W_seq ?_
          refine W_region ?_
          refine op rfl (r_loadRow rfl B0_0 Try.underlying24 rfl Try.sz24) ?_
          refine op rfl (r_moveV (v := .int _ _) rfl) ?_
          refine opCv rfl (r_call Try.func17 Try.nm17 rfl) (P1 _) ?_
          rintro v w5 ⟨rfl, hE⟩
          replace B0_0 := Blk.ext B0_0 hE
          replace B3_8 := Blk.ext B3_8 hE
          replace hX := hX.trans hE
          refine op rfl (r_assignV (v := .int _ _) rfl) ?_
          refine WL_nil ?_
          refine W_seq ?_
          refine W_seq ?_
          refine W_region ?_
          refine op rfl (r_moveV (v := .int _ _) rfl) ?_
          refine op rfl (r_loadRow rfl B0_0 Try.underlying24 rfl Try.sz24) ?_
          refine op rfl (r_moveV (v := .int _ _) rfl) ?_
          refine op rfl (r_add' rfl rfl (wrap_i64 (by omega) (by omega))) ?_
          refine opCv rfl (r_call Try.func17 Try.nm17 rfl) (pause_spec m (kk + 1) _) ?_
          rintro v w6 ⟨rfl, hE⟩
          replace B0_0 := Blk.ext B0_0 hE
          replace B3_8 := Blk.ext B3_8 hE
          replace hX := hX.trans hE
          refine op rfl (r_gtr rfl rfl) ?_
          refine op_false rfl (r_moveV (v := .bool (decide _)) rfl) (by omega) ?_
          refine opG_yes rfl rfl rfl rfl rfl (r_moveV (v := .int _ _) rfl) ?_
          refine opG_yes rfl rfl rfl rfl rfl (r_fieldAddr rfl Try.fld24_2 rfl) ?_
          refine opG_yes rfl rfl rfl rfl rfl (r_load (v := .int _ _) rfl Try.underlying3 rfl (Blk.cell B0_0 rfl)) ?_
          refine opG_yes rfl rfl rfl rfl rfl (r_gtr rfl rfl) ?_
          refine op rfl (r_pickFV (v := .bool _) rfl rfl) ?_
          refine op_false rfl (r_moveV (v := .bool (decide _)) rfl) (by omega) ?_
          refine opG_yes rfl rfl rfl rfl rfl (r_fieldAddr rfl Try.fld24_2 rfl) ?_
          refine opG_yes rfl rfl rfl rfl rfl (r_load (v := .int _ _) rfl Try.underlying3 rfl (Blk.cell B0_0 rfl)) ?_
          refine opG_yes rfl rfl rfl rfl rfl (r_gtr rfl rfl) ?_
          refine opG_split rfl rfl rfl rfl rfl (r_moveV (v := .bool (decide _)) rfl) (fun hg96 => ?_) (fun hg96 => ?_)
          · refine opG_yes rfl rfl rfl rfl rfl (r_moveV (v := .int _ _) rfl) ?_
            refine opG_yes rfl rfl rfl rfl rfl (r_lss rfl rfl) ?_
            refine opG_yes rfl rfl rfl rfl rfl (r_pickTV (v := .bool _) rfl rfl) ?_
            refine op rfl (r_pickFV (v := .bool _) rfl rfl) ?_
            refine WL_nil ?_
            refine W_ifp rfl (fun ht100 => ?_) (fun ht100 => ?_)
            · exact absurd (hpp.2.2 hg96) (by omega)
            · refine W_skip ?_
              refine W_seq ?_
              refine W_seq ?_
              refine W_region ?_
              refine op rfl (r_moveV (v := .int _ _) rfl) ?_
              refine op rfl (r_eql rfl rfl) ?_
              refine WL_nil ?_
              refine W_ifp rfl (fun ht102 => ?_) (fun ht102 => ?_)
              · refine W_seq ?_
                refine W_region ?_
                refine opCv rfl (r_call Try.func10 Try.nm10 rfl) (known_spec _) ?_
                rintro v w2 ⟨rfl, hE⟩
                replace B0_0 := Blk.ext B0_0 hE
                replace B3_8 := Blk.ext B3_8 hE
                replace hX := hX.trans hE
                refine op rfl (r_assignV (v := .bool _) rfl) ?_
                refine WL_nil ?_
                refine W_ret (finX_ret ?_)
                refine fin1 ?_
                exact ⟨_, rfl, rfl, hX⟩
              · refine W_skip ?_
                refine W_seq ?_
                refine W_region ?_
                refine op rfl (r_moveV (v := .int _ _) rfl) ?_
                refine op rfl (r_build (cs := [.int _ _, .int _ _, .int _ _, .int _ _, .int _ _, .int _ _]) Try.lay27 (List.forall_mem_cons.2 ⟨rfl, List.forall_mem_cons.2 ⟨rfl, fun _ h => by cases h⟩⟩) rfl rfl) ?_
                refine op_alloc rfl Try.zero27 ?_
                intro w17_2 b17_2 E17_2 B17_2 L17_2
                have hG17_2 : W.heap.size ≤ b17_2 := by have := hX.size; omega
                have hNb0_0_17_2 : b0_0 ≠ b17_2 := by have := Blk.lt B0_0; omega
                replace B0_0 := Blk.ext B0_0 E17_2
                have hNb3_8_17_2 : b3_8 ≠ b17_2 := by have := Blk.lt B3_8; omega
                replace B3_8 := Blk.ext B3_8 E17_2
                replace hX := hX.trans E17_2
                refine op_storeRow rfl rfl Try.sz27 B17_2 rfl rfl ?_
                intro w17_3 C17_3 BB17_3
                replace B0_0 := Chg.blk C17_3 B0_0 hNb0_0_17_2
                replace B3_8 := Chg.blk C17_3 B3_8 hNb3_8_17_2
                replace hX := hX.chg C17_3 hG17_2
                replace B17_2 := BB17_3
                refine WL_nil ?_
                refine W_seq ?_
                refine W_seq ?_
                refine W_region ?_
                refine op rfl (r_assignV (v := .int _ _) rfl) ?_
                refine WL_nil ?_
                refine W_block ?_
                refine W_loop [4, 13, 14, 15, 106, 107, 108, 109, 110, 111, 112, 113, 114, 115, 116, 117, 118, 119, 120, 121, 122, 123, 124, 125, 126, 127, 128, 129] (fun k e' w' => ∃ (i : Int) (y : Lf), k = (p + 1 - i).toNat ∧ 1 ≤ i ∧ i ≤ p + 1 ∧ e' 13 = .int .i64 i ∧ (i ≤ p → y = ⟨5, 0, 0, p - (i - 1), 0, 0⟩) ∧ Ext W w' ∧ Blk w' b0_0 m.val.cells 24 ∧ Blk w' b17_2 y.val.cells 27) (p.toNat) ?_ ?_
                · exact ⟨1, ⟨5, 0, 0, p, 0, 0⟩, by omega, by omega, by omega, rfl, fun _ => by simp, hX, B0_0, B17_2⟩
                intro k g w' hI
                obtain ⟨i, y, hk, hi1, hi2, h13, hy, hX', Bx0, Bx1⟩ := hI
                clear hX B0_0 B17_2
                have hX := hX'
                have B0_0 := Bx0
                have B17_2 := Bx1
                clear hX' Bx0 Bx1
                refine W_set (i := 13) h13 ?_
                refine W_seq ?_
                refine W_seq ?_
                refine W_region ?_
                refine op rfl (r_moveV (v := .int _ _) rfl) ?_
                refine op rfl (r_moveV (v := .int _ _) rfl) ?_
                refine op rfl (r_leq rfl rfl) ?_
                refine WL_nil ?_
                refine W_ifp rfl (fun ht108 => ?_) (fun ht108 => ?_)
                · obtain rfl := hy ht108
                  refine W_skip ?_
                  refine W_seq ?_
                  refine W_block ?_
                  refine W_seq ?_
                  refine W_region ?_
                  refine op rfl (r_loadRow rfl B0_0 Try.underlying24 rfl Try.sz24) ?_
                  refine op rfl (r_loadRow rfl B17_2 Try.underlying27 rfl Try.sz27) ?_
                  refine op rfl (r_build (cs := [.int _ _, .int _ _]) Try.lay31 (List.forall_mem_cons.2 ⟨rfl, fun _ h => by cases h⟩) rfl rfl) ?_
                  refine opCv rfl (r_call Try.func13 Try.nm13 rfl) (SP (p - (i - 1)) _ (by omega) (by omega)) ?_
                  rintro v w4 ⟨rfl, hE⟩
                  replace B0_0 := Blk.ext B0_0 hE
                  replace B17_2 := Blk.ext B17_2 hE
                  replace hX := hX.trans hE
                  refine op rfl (r_moveV (v := .tuple #[(tickP (p - (i - 1))).val, .bool true]) rfl) ?_
                  refine op rfl (r_extract (vs := [(tickP (p - (i - 1))).val, .bool true]) rfl rfl) ?_
                  refine op rfl (r_extract (vs := [(tickP (p - (i - 1))).val, .bool true]) rfl rfl) ?_
                  refine op_alloc rfl Try.zero27 ?_
                  intro w21_7 b21_7 E21_7 B21_7 L21_7
                  have hG21_7 : W.heap.size ≤ b21_7 := by have := hX.size; omega
                  have hNb0_0_21_7 : b0_0 ≠ b21_7 := by have := Blk.lt B0_0; omega
                  replace B0_0 := Blk.ext B0_0 E21_7
                  have hNb17_2_21_7 : b17_2 ≠ b21_7 := by have := Blk.lt B17_2; omega
                  replace B17_2 := Blk.ext B17_2 E21_7
                  replace hX := hX.trans E21_7
                  refine op_storeRow rfl rfl Try.sz27 B21_7 rfl rfl ?_
                  intro w21_8 C21_8 BB21_8
                  replace B0_0 := Chg.blk C21_8 B0_0 hNb0_0_21_7
                  replace B17_2 := Chg.blk C21_8 B17_2 hNb17_2_21_7
                  replace hX := hX.chg C21_8 hG21_7
                  replace B21_7 := BB21_8
                  refine op rfl (r_assignV (v := .bool true) rfl) ?_
                  refine WL_nil ?_
                  refine W_seq ?_
                  refine W_seq ?_
                  refine W_region ?_
                  refine op rfl (r_moveV (v := .bool true) rfl) ?_
                  refine op rfl (r_notP (p := True) rfl) ?_
                  refine op_false rfl (r_moveV (v := .bool (decide _)) rfl) (fun h => h trivial) ?_
                  refine opG_yes rfl rfl rfl rfl rfl (r_fieldAddr rfl Try.fld27_0 rfl) ?_
                  refine opG_yes rfl rfl rfl rfl rfl (r_load (v := .int _ _) rfl Try.underlying3 rfl (Blk.cell B21_7 rfl)) ?_
                  refine opG_yes rfl rfl rfl rfl rfl (r_eql rfl rfl) ?_
                  refine opG_yes rfl rfl rfl rfl rfl (r_moveV (v := .int _ _) rfl) ?_
                  refine opG_yes rfl rfl rfl rfl rfl (r_moveV (v := .int _ _) rfl) ?_
                  refine opG_yes rfl rfl rfl rfl rfl (r_eql rfl rfl) ?_
                  refine opG_yes rfl rfl rfl rfl rfl (rb_neq rfl rfl Try.underlying4) ?_
                  refine op rfl (r_pickFV (v := .bool _) rfl rfl) ?_
                  refine WL_nil ?_
                  refine W_ifp rfl (fun ht128 => ?_) (fun ht128 => ?_)
                  · exact absurd ht128 (dec_ne (by rw [tickP_state (by omega)]; omega))
                  · refine W_skip ?_
                    refine W_region ?_
                    refine op rfl (r_loadRow rfl B21_7 Try.underlying27 rfl Try.sz27) ?_
                    refine op_storeRow rfl rfl Try.sz27 B17_2 rfl rfl ?_
                    intro w24_1 C24_1 BB24_1
                    replace B0_0 := Chg.blk C24_1 B0_0 hNb0_0_17_2
                    replace B21_7 := Chg.blk C24_1 B21_7 (fun q => hNb17_2_21_7 q.symm)
                    replace hX := hX.chg C24_1 hG17_2
                    replace B17_2 := BB24_1
                    refine WL_nil ?_
                    refine W_region ?_
                    refine op rfl (r_moveV (v := .int _ _) rfl) ?_
                    refine op rfl (r_add' rfl rfl (wrap_i64 (by omega) (by omega))) ?_
                    refine op rfl (r_assignV (v := .int _ _) rfl) ?_
                    refine WL_nil ?_
                    refine ⟨?_, by repeat (first | with_reducible exact Out.refl _ _ | with_reducible exact Out.mix | refine Out.put rfl ?_ | refine Out.mixin rfl ?_ | exact Out.refl _ _ | exact Out.mix)⟩
                    exact ⟨(p + 1 - (i + 1)).toNat, by omega, i + 1, tickP (p - (i - 1)), rfl, by omega, by omega, rfl, fun h => by unfold tickP; rw [if_pos (by omega)]; congr 1; omega, hX, B0_0, B17_2⟩
                · refine W_exit (blk_hit ?_)
                  refine W_seq ?_
                  refine W_region ?_
                  refine opCv rfl (r_call Try.func10 Try.nm10 rfl) (known_spec _) ?_
                  rintro v w2 ⟨rfl, hE⟩
                  replace B0_0 := Blk.ext B0_0 hE
                  replace B17_2 := Blk.ext B17_2 hE
                  replace hX := hX.trans hE
                  refine op rfl (r_assignV (v := .bool _) rfl) ?_
                  refine WL_nil ?_
                  refine W_ret (finX_ret ?_)
                  refine fin1 ?_
                  exact ⟨_, rfl, rfl, hX⟩
          · refine opG_no rfl rfl rfl rfl rfl ?_
            refine opG_no rfl rfl rfl rfl rfl ?_
            refine opG_yes rfl rfl rfl rfl rfl (r_pickFV (v := .bool _) rfl rfl) ?_
            refine op rfl (r_pickFV (v := .bool _) rfl rfl) ?_
            refine WL_nil ?_
            refine W_else rfl ?_
            refine W_skip ?_
            refine W_seq ?_
            refine W_seq ?_
            refine W_region ?_
            refine op rfl (r_moveV (v := .int _ _) rfl) ?_
            refine op rfl (r_eql rfl rfl) ?_
            refine WL_nil ?_
            refine W_ifp rfl (fun ht102 => ?_) (fun ht102 => ?_)
            · refine W_seq ?_
              refine W_region ?_
              refine opCv rfl (r_call Try.func10 Try.nm10 rfl) (known_spec _) ?_
              rintro v w2 ⟨rfl, hE⟩
              replace B0_0 := Blk.ext B0_0 hE
              replace B3_8 := Blk.ext B3_8 hE
              replace hX := hX.trans hE
              refine op rfl (r_assignV (v := .bool _) rfl) ?_
              refine WL_nil ?_
              refine W_ret (finX_ret ?_)
              refine fin1 ?_
              exact ⟨_, rfl, rfl, hX⟩
            · refine W_skip ?_
              refine W_seq ?_
              refine W_region ?_
              refine op rfl (r_moveV (v := .int _ _) rfl) ?_
              refine op rfl (r_build (cs := [.int _ _, .int _ _, .int _ _, .int _ _, .int _ _, .int _ _]) Try.lay27 (List.forall_mem_cons.2 ⟨rfl, List.forall_mem_cons.2 ⟨rfl, fun _ h => by cases h⟩⟩) rfl rfl) ?_
              refine op_alloc rfl Try.zero27 ?_
              intro w17_2 b17_2 E17_2 B17_2 L17_2
              have hG17_2 : W.heap.size ≤ b17_2 := by have := hX.size; omega
              have hNb0_0_17_2 : b0_0 ≠ b17_2 := by have := Blk.lt B0_0; omega
              replace B0_0 := Blk.ext B0_0 E17_2
              have hNb3_8_17_2 : b3_8 ≠ b17_2 := by have := Blk.lt B3_8; omega
              replace B3_8 := Blk.ext B3_8 E17_2
              replace hX := hX.trans E17_2
              refine op_storeRow rfl rfl Try.sz27 B17_2 rfl rfl ?_
              intro w17_3 C17_3 BB17_3
              replace B0_0 := Chg.blk C17_3 B0_0 hNb0_0_17_2
              replace B3_8 := Chg.blk C17_3 B3_8 hNb3_8_17_2
              replace hX := hX.chg C17_3 hG17_2
              replace B17_2 := BB17_3
              refine WL_nil ?_
              refine W_seq ?_
              refine W_seq ?_
              refine W_region ?_
              refine op rfl (r_assignV (v := .int _ _) rfl) ?_
              refine WL_nil ?_
              refine W_block ?_
              refine W_loop [4, 13, 14, 15, 106, 107, 108, 109, 110, 111, 112, 113, 114, 115, 116, 117, 118, 119, 120, 121, 122, 123, 124, 125, 126, 127, 128, 129] (fun k e' w' => ∃ (i : Int) (y : Lf), k = (p + 1 - i).toNat ∧ 1 ≤ i ∧ i ≤ p + 1 ∧ e' 13 = .int .i64 i ∧ (i ≤ p → y = ⟨5, 0, 0, p - (i - 1), 0, 0⟩) ∧ Ext W w' ∧ Blk w' b0_0 m.val.cells 24 ∧ Blk w' b17_2 y.val.cells 27) (p.toNat) ?_ ?_
              · exact ⟨1, ⟨5, 0, 0, p, 0, 0⟩, by omega, by omega, by omega, rfl, fun _ => by simp, hX, B0_0, B17_2⟩
              intro k g w' hI
              obtain ⟨i, y, hk, hi1, hi2, h13, hy, hX', Bx0, Bx1⟩ := hI
              clear hX B0_0 B17_2
              have hX := hX'
              have B0_0 := Bx0
              have B17_2 := Bx1
              clear hX' Bx0 Bx1
              refine W_set (i := 13) h13 ?_
              refine W_seq ?_
              refine W_seq ?_
              refine W_region ?_
              refine op rfl (r_moveV (v := .int _ _) rfl) ?_
              refine op rfl (r_moveV (v := .int _ _) rfl) ?_
              refine op rfl (r_leq rfl rfl) ?_
              refine WL_nil ?_
              refine W_ifp rfl (fun ht108 => ?_) (fun ht108 => ?_)
              · obtain rfl := hy ht108
                refine W_skip ?_
                refine W_seq ?_
                refine W_block ?_
                refine W_seq ?_
                refine W_region ?_
                refine op rfl (r_loadRow rfl B0_0 Try.underlying24 rfl Try.sz24) ?_
                refine op rfl (r_loadRow rfl B17_2 Try.underlying27 rfl Try.sz27) ?_
                refine op rfl (r_build (cs := [.int _ _, .int _ _]) Try.lay31 (List.forall_mem_cons.2 ⟨rfl, fun _ h => by cases h⟩) rfl rfl) ?_
                refine opCv rfl (r_call Try.func13 Try.nm13 rfl) (SP (p - (i - 1)) _ (by omega) (by omega)) ?_
                rintro v w4 ⟨rfl, hE⟩
                replace B0_0 := Blk.ext B0_0 hE
                replace B17_2 := Blk.ext B17_2 hE
                replace hX := hX.trans hE
                refine op rfl (r_moveV (v := .tuple #[(tickP (p - (i - 1))).val, .bool true]) rfl) ?_
                refine op rfl (r_extract (vs := [(tickP (p - (i - 1))).val, .bool true]) rfl rfl) ?_
                refine op rfl (r_extract (vs := [(tickP (p - (i - 1))).val, .bool true]) rfl rfl) ?_
                refine op_alloc rfl Try.zero27 ?_
                intro w21_7 b21_7 E21_7 B21_7 L21_7
                have hG21_7 : W.heap.size ≤ b21_7 := by have := hX.size; omega
                have hNb0_0_21_7 : b0_0 ≠ b21_7 := by have := Blk.lt B0_0; omega
                replace B0_0 := Blk.ext B0_0 E21_7
                have hNb17_2_21_7 : b17_2 ≠ b21_7 := by have := Blk.lt B17_2; omega
                replace B17_2 := Blk.ext B17_2 E21_7
                replace hX := hX.trans E21_7
                refine op_storeRow rfl rfl Try.sz27 B21_7 rfl rfl ?_
                intro w21_8 C21_8 BB21_8
                replace B0_0 := Chg.blk C21_8 B0_0 hNb0_0_21_7
                replace B17_2 := Chg.blk C21_8 B17_2 hNb17_2_21_7
                replace hX := hX.chg C21_8 hG21_7
                replace B21_7 := BB21_8
                refine op rfl (r_assignV (v := .bool true) rfl) ?_
                refine WL_nil ?_
                refine W_seq ?_
                refine W_seq ?_
                refine W_region ?_
                refine op rfl (r_moveV (v := .bool true) rfl) ?_
                refine op rfl (r_notP (p := True) rfl) ?_
                refine op_false rfl (r_moveV (v := .bool (decide _)) rfl) (fun h => h trivial) ?_
                refine opG_yes rfl rfl rfl rfl rfl (r_fieldAddr rfl Try.fld27_0 rfl) ?_
                refine opG_yes rfl rfl rfl rfl rfl (r_load (v := .int _ _) rfl Try.underlying3 rfl (Blk.cell B21_7 rfl)) ?_
                refine opG_yes rfl rfl rfl rfl rfl (r_eql rfl rfl) ?_
                refine opG_yes rfl rfl rfl rfl rfl (r_moveV (v := .int _ _) rfl) ?_
                refine opG_yes rfl rfl rfl rfl rfl (r_moveV (v := .int _ _) rfl) ?_
                refine opG_yes rfl rfl rfl rfl rfl (r_eql rfl rfl) ?_
                refine opG_yes rfl rfl rfl rfl rfl (rb_neq rfl rfl Try.underlying4) ?_
                refine op rfl (r_pickFV (v := .bool _) rfl rfl) ?_
                refine WL_nil ?_
                refine W_ifp rfl (fun ht128 => ?_) (fun ht128 => ?_)
                · exact absurd ht128 (dec_ne (by rw [tickP_state (by omega)]; omega))
                · refine W_skip ?_
                  refine W_region ?_
                  refine op rfl (r_loadRow rfl B21_7 Try.underlying27 rfl Try.sz27) ?_
                  refine op_storeRow rfl rfl Try.sz27 B17_2 rfl rfl ?_
                  intro w24_1 C24_1 BB24_1
                  replace B0_0 := Chg.blk C24_1 B0_0 hNb0_0_17_2
                  replace B21_7 := Chg.blk C24_1 B21_7 (fun q => hNb17_2_21_7 q.symm)
                  replace hX := hX.chg C24_1 hG17_2
                  replace B17_2 := BB24_1
                  refine WL_nil ?_
                  refine W_region ?_
                  refine op rfl (r_moveV (v := .int _ _) rfl) ?_
                  refine op rfl (r_add' rfl rfl (wrap_i64 (by omega) (by omega))) ?_
                  refine op rfl (r_assignV (v := .int _ _) rfl) ?_
                  refine WL_nil ?_
                  refine ⟨?_, by repeat (first | with_reducible exact Out.refl _ _ | with_reducible exact Out.mix | refine Out.put rfl ?_ | refine Out.mixin rfl ?_ | exact Out.refl _ _ | exact Out.mix)⟩
                  exact ⟨(p + 1 - (i + 1)).toNat, by omega, i + 1, tickP (p - (i - 1)), rfl, by omega, by omega, rfl, fun h => by unfold tickP; rw [if_pos (by omega)]; congr 1; omega, hX, B0_0, B17_2⟩
              · refine W_exit (blk_hit ?_)
                refine W_seq ?_
                refine W_region ?_
                refine opCv rfl (r_call Try.func10 Try.nm10 rfl) (known_spec _) ?_
                rintro v w2 ⟨rfl, hE⟩
                replace B0_0 := Blk.ext B0_0 hE
                replace B17_2 := Blk.ext B17_2 hE
                replace hX := hX.trans hE
                refine op rfl (r_assignV (v := .bool _) rfl) ?_
                refine WL_nil ?_
                refine W_ret (finX_ret ?_)
                refine fin1 ?_
                exact ⟨_, rfl, rfl, hX⟩
end Go.Proofs.Ytfocbkdoolnijaa
