/-
  What the chapter's example fixes.
-/
import Derived.Test.YtfgffaphpedimaaFacts
import Derived.Test.YtfgffaphpedimaaDiskS
namespace Go.Proofs.Ytfgffaphpedimaa
open Go Go.Eng Go.RowKit Go.Proofs
set_option linter.unusedVariables false
set_option linter.unusedSimpArgs false
set_option maxHeartbeats 1000000
set_option maxRecDepth 20000

def kD1 : Dk := ((Dk.new 1 99).append 0 [97, 98]).1
def kD2 : Dk := (kD1.sync 0).1
def kD3 : Dk := (kD2.append 0 [99, 100]).1
def kD4 : Dk := kD3.restart 1
theorem kW1 : WF kD1 4 := (WF.new 1 99).append 0 [97, 98]
theorem kW2 : WF kD2 5 := kW1.sync 0
theorem kW3 : WF kD3 9 := kW2.append 0 [99, 100]
theorem kW4 : WF kD4 9 := kW3.restart 1
theorem kE1 : ((Dk.new 1 99).append 0 [97, 98]).2 = 0 := by decide +kernel
theorem kE2 : (kD1.sync 0).2 = 0 := by decide +kernel
theorem kE3 : (kD2.append 0 [99, 100]).2 = 0 := by decide +kernel
theorem kE4 : kD4.read 0 = [97, 98, 99] := by decide +kernel
theorem known_spec (w : World) : Calls Try.prog 10 #[] w (fun en w' => ∃ v, en = .returned v ∧ v = .bool true ∧ Ext w w') := by
  have hw0 := WF.new 1 99
  have hw1 := kW1
  have hw2 := kW2
  have hw3 := kW3
  have hw4 := kW4
  refine calls' (n := 40) (rs := #[.tmp 0]) (l := []) Try.func10 rfl rfl rfl rfl rfl ?_
  refine W_seq ?_
  refine W_region ?_
  refine op rfl (r_assignV (v := .bool _) rfl) ?_
  refine WL_nil ?_
  refine W_seq ?_
  refine W_region ?_
  refine opCv rfl (r_call Try.func11 Try.nm11 rfl) (new_da 1 99 _) ?_
  rintro v w1 ⟨p, rfl, hE1, hD0⟩
  refine op rfl (r_assignV (v := .pointer _) rfl) ?_
  refine WL_nil ?_
  refine W_seq ?_
  refine W_region ?_
  refine op rfl (r_moveV (v := .pointer _) rfl) ?_
  refine op_newS rfl (r_buildSlice (vs := [.int .u8 97, .int .u8 98]) Try.underlying23 Try.sz5 Try.zero5 rfl rfl rfl) ?_
  intro w2_1 b2_1 E2_1 B2_1 L2_1
  refine op_convB rfl rfl Try.underlying23 Try.underlying5 (by assumption) ?_
  intro w2_2 C2_2 B2_2
  refine opCv rfl (r_call Try.func12 Try.nm12 rfl) (append_lit (l := [97, 98]) hD0 E2_1 L2_1 C2_2 B2_2 rfl (by decide) rfl hw0 (by omega) 0) ?_
  rintro v w3 ⟨rfl, hD1', hB1, hle1⟩
  have hD1 : DA p w.heap.size w3 kD1 := hD1'
  refine op rfl (r_assignV (v := .int _ _) rfl) ?_
  refine WL_nil ?_
  refine W_seq ?_
  refine W_region ?_
  refine op rfl (r_moveV (v := .pointer _) rfl) ?_
  refine opCv rfl (r_call Try.func13 Try.nm13 rfl) (sync_da hD1 hw1 (by omega) 0) ?_
  rintro v w4 ⟨rfl, hD2', hB2⟩
  have hD2 : DA p w.heap.size w4 kD2 := hD2'
  refine op rfl (r_assignV (v := .int _ _) rfl) ?_
  refine WL_nil ?_
  refine W_seq ?_
  refine W_region ?_
  refine op rfl (r_moveV (v := .pointer _) rfl) ?_
  refine op_newS rfl (r_buildSlice (vs := [.int .u8 99, .int .u8 100]) Try.underlying23 Try.sz5 Try.zero5 rfl rfl rfl) ?_
  intro w4_1 b4_1 E4_1 B4_1 L4_1
  refine op_convB rfl rfl Try.underlying23 Try.underlying5 (by assumption) ?_
  intro w4_2 C4_2 B4_2
  refine opCv rfl (r_call Try.func12 Try.nm12 rfl) (append_lit (l := [99, 100]) hD2 E4_1 L4_1 C4_2 B4_2 rfl (by decide) rfl hw2 (by omega) 0) ?_
  rintro v w5 ⟨rfl, hD3', hB3, hle3⟩
  have hD3 : DA p w.heap.size w5 kD3 := hD3'
  refine op rfl (r_assignV (v := .int _ _) rfl) ?_
  refine WL_nil ?_
  refine W_seq ?_
  refine W_region ?_
  refine op rfl (r_moveV (v := .pointer _) rfl) ?_
  refine opCv rfl (r_call Try.func15 Try.nm15 rfl) (restart_da hD3 hw3 (by omega) 1) ?_
  rintro v w6 ⟨hD4', hB4⟩
  have hD4 : DA p w.heap.size w6 kD4 := hD4'
  have hX : Ext w w6 := by
    have x1 : Ext w w1 := hE1
    have x2 := (x1.trans E2_1)
    have x3 : Ext w w2_2 := x2.chg C2_2 (by have := x1.size; have := L2_1; omega)
    have x4 : Ext w w3 := Below.trans x3 hB1
    have x5 : Ext w w4 := Below.trans x4 hB2
    have x6 := x5.trans E4_1
    have x7 : Ext w w4_2 := x6.chg C4_2 (by have := x5.size; have := L4_1; omega)
    exact Below.trans (Below.trans x7 hB3) hB4
  refine WL_nil ?_
  refine W_seq ?_
  refine W_region ?_
  refine op rfl (r_assignV (v := .pointer none) rfl) ?_
  refine WL_nil ?_
  refine W_seq ?_
  refine W_region ?_
  refine op rfl (r_moveV (v := .int _ _) rfl) ?_
  refine op rfl (r_eql rfl rfl) ?_
  refine op_true rfl (r_moveV (v := .bool (decide _)) rfl) (kE1) ?_
  refine opG_yes rfl rfl rfl rfl rfl (r_moveV (v := .int _ _) rfl) ?_
  refine opG_yes rfl rfl rfl rfl rfl (r_eql rfl rfl) ?_
  refine op rfl (r_pickTV (v := .bool _) rfl rfl) ?_
  refine op_true rfl (r_moveV (v := .bool (decide _)) rfl) (kE2) ?_
  refine opG_yes rfl rfl rfl rfl rfl (r_moveV (v := .int _ _) rfl) ?_
  refine opG_yes rfl rfl rfl rfl rfl (r_eql rfl rfl) ?_
  refine op rfl (r_pickTV (v := .bool _) rfl rfl) ?_
  refine op_true rfl (r_moveV (v := .bool (decide _)) rfl) (kE3) ?_
  refine opG_yes rfl rfl rfl rfl rfl (r_moveV (v := .pointer _) rfl) ?_
  refine opGCv_yes rfl rfl rfl rfl rfl (r_call Try.func14 Try.nm14 rfl) (read_da hD4 hw4 (by omega) 0) ?_
  rintro v w7 ⟨A, c, rfl, hE7, hR7⟩
  refine opG_yes rfl rfl rfl rfl rfl (r_str rfl Try.underlying23 Try.underlying5 Try.underlying9 hR7) ?_
  refine opG_yes rfl rfl rfl rfl rfl (rs_eql rfl rfl) ?_
  refine op rfl (r_pickTV (v := .bool _) rfl rfl) ?_
  refine op_true rfl (r_moveV (v := .bool (decide _)) rfl) (by rw [kE4]; rfl) ?_
  refine opG_yes rfl rfl rfl rfl rfl (r_moveV (v := .pointer none) rfl) ?_
  refine opGCv_yes rfl rfl rfl rfl rfl (r_call Try.func13 Try.nm13 rfl) (sync_nil 0 _) ?_
  rintro v w8 ⟨rfl, hE8⟩
  refine opG_yes rfl rfl rfl rfl rfl (r_eql rfl rfl) ?_
  refine op rfl (r_pickTV (v := .bool _) rfl rfl) ?_
  refine op rfl (r_assignV (v := .bool _) rfl) ?_
  refine WL_nil ?_
  refine W_ret (finX_ret ?_)
  refine fin1 ?_
  exact ⟨_, rfl, rfl, (hX.trans hE7).trans hE8⟩
end Go.Proofs.Ytfgffaphpedimaa
