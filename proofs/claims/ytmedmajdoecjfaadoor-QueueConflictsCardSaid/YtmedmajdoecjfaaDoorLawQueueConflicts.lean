/-
  A request that passes lands just if no path of it was changed behind its base: the row, and its card.
-/
import Derived.Test.YtmedmajdoecjfaaDoorTie
import Derived.Test.YtmedmajdoecjfaaDoorCards
import Derived.SevenTiedAt
import Derived.LaidMore
import Derived.Lay
import Derived.Stop.Joined
import Derived.Test.YtmedmajdoecjfaaDoorInts
import Derived.Test.YtmedmajdoecjfaaDoorQueLConflicts
namespace Go.Proofs.YtmedmajdoecjfaaDoor.queueConflicts
open Go Go.Eng Go.ChangeShapes Go.WideShapes Go.ChangeAt Go.RowKit
set_option linter.unusedVariables false
theorem own : ownKnob Tryd.prog.godebug = none := by kernel_rfl
theorem laidOut : laidOutB Tryd.prog = true := by kernel_rfl
def laidL : List (String × DataW Unit) := [("unicode/utf8.acceptRanges", Rows.laid_unicode_utf8_acceptRanges), ("unicode/utf8.first", Rows.laid_unicode_utf8_first)]
set_option maxRecDepth 100000 in
theorem lifted (os : Os) (started : os.Started) (H : Type) (enc : TypeId × Value → H) :
    ReturnsInHanded {} Tryd.checked os 5 .any (fun w args => (Rows.queueConflictsSpec.pre enc Tryd.prog Tryd.f5 Rows.queueConflictsRow.domain false w args ∧ laidMetH Tryd.prog laidL w) ∧ sizedMet enc Tryd.prog Tryd.f5 (OpenSpec.ofChange Rows.queueConflictsSpec) false w args)
      (Rows.queueConflictsSpec.post enc Tryd.prog Tryd.f5 false true false false) := by
  refine returnsInHanded_of_change_and (C := Tryd.checked) (X := fun w _ => laidMetH Tryd.prog laidL w) (fun _ _ _ hh h => h.of_heap hh) own started (by kernel_rfl) Tryd.func5
    (ChangeSpec.witness_shaped (enc := enc) (C := Tryd.checked) (os := os) (X := fun w _ => laidMetH Tryd.prog laidL w) false (World.laidAll Tryd.prog os laidL) #[.slice none 0 0, .slice none 0 0, .int .u8 0, .slice none 0 0] 8 (World.laidAll_os _ _ _)
      (World.shaped_of_ZipB (by kernel_rfl) (by kernel_rfl)) (by kernel_rfl) (by kernel_rfl) (by kernel_rfl)
      (by rw [MakeChecks.laidMetH_plain _ _ _ (by kernel_rfl)]; exact laidMet_laidAll _ (by kernel_rfl) (by kernel_rfl))) ?_
  intro W base args ds gs before hval0 hW hcnd hsz0 hLd _
  have hsz : (DataW.weightsEach Tryd.prog (Tryd.f5.params.toList ++ Rows.queueConflictsSpec.plain.varTypes Tryd.prog) (ds ++ gs)).all (· ≤ reachBytes) = true := hsz0
  have hval : ∀ (j : Nat) t v, Tryd.f5.params[j]? = some t → args[j]? = some v → Value.okWide Tryd.prog W .any base t v := hval0
  have hW' := hW
  obtain ⟨p, q, hA0, hV, rfl, hfz, hnd⟩ := hW
  have hA : DataW.TrodAll enc Tryd.prog W 0 (fun _ => true) true Tryd.f5.params.toList args.toList ds p := hA0
  rw [Tryd.params5] at hA hval hsz
  obtain ⟨v0, vs0, d0, ds0, p0, q0, hargs, rfl, rfl, h0, r0⟩ := trodAll_cons hA
  obtain ⟨v1, vs1, d1, ds1, p1, q1, rfl, rfl, rfl, h1, r1⟩ := trodAll_cons r0
  obtain ⟨v2, vs2, d2, ds2, p2, q2, rfl, rfl, rfl, h2, r2⟩ := trodAll_cons r1
  obtain ⟨v3, vs3, d3, ds3, p3, q3, rfl, rfl, rfl, h3, r3⟩ := trodAll_cons r2
  obtain ⟨rfl, rfl, rfl⟩ := trodAll_nil r3
  obtain rfl : args = #[v0, v1, v2, v3] := by cases args; simp_all
  obtain ⟨rfl, rfl⟩ := trodVars_none hV
  have k0 := h0
  have lt0 : ∀ x ∈ p0, x.block < W.heap.size := by obtain ⟨m, hm⟩ := k0; exact DataW.trod_lt m _ _ _ hm
  obtain ⟨A0, c0, l0, rfl, w0, x0, y0, z0⟩ := arg_slice Tryd.underlying23 (Rd.slice Tryd.underlying23 (by kernel_rfl) rfl (by kernel_rfl) (Rd.iso Go.Proofs.YtmedmajdoecjfaaDoor.fiF Go.Proofs.YtmedmajdoecjfaaDoor.fiG (fun _ => rfl) (Rd.struct (es := [9, 24]) (by kernel_rfl) (Rds.cons (Rd.string Tryd.underlying9) (Rds.one (Rd.slice Tryd.underlying24 (by kernel_rfl) rfl (by kernel_rfl) (Rd.byte Tryd.underlying5))))))) (hval 0 23 v0 rfl rfl) h0 (weights_of hsz (j := 0) rfl rfl)
  have k1 := h1
  have lt1 : ∀ x ∈ p1, x.block < W.heap.size := by obtain ⟨m, hm⟩ := k1; exact DataW.trod_lt m _ _ _ hm
  obtain ⟨A1, c1, l1, rfl, w1, x1, y1, z1⟩ := arg_slice Tryd.underlying52 (Rd.slice Tryd.underlying52 (by kernel_rfl) rfl (by kernel_rfl) (Rd.sliceW (k := 48) Tryd.underlying39 (by kernel_rfl) rfl (by kernel_rfl) (by kernel_rfl) (Rd.iso Go.Proofs.YtmedmajdoecjfaaDoor.dlF Go.Proofs.YtmedmajdoecjfaaDoor.dlG (fun _ => rfl) (Rd.struct (es := [3, 9, 24]) (by kernel_rfl) (Rds.cons (Rd.int Tryd.underlying3) (Rds.cons (Rd.string Tryd.underlying9) (Rds.one (Rd.slice Tryd.underlying24 (by kernel_rfl) rfl (by kernel_rfl) (Rd.byte Tryd.underlying5))))))))) (hval 1 52 v1 rfl rfl) h1 (weights_of hsz (j := 1) rfl rfl)
  have k2 := h2
  have lt2 : ∀ x ∈ p2, x.block < W.heap.size := by obtain ⟨m, hm⟩ := k2; exact DataW.trod_lt m _ _ _ hm
  obtain ⟨a2, rfl, w2⟩ := arg_int Tryd.underlying5 (hval 2 5 v2 rfl rfl) h2
  have k3 := h3
  have lt3 : ∀ x ∈ p3, x.block < W.heap.size := by obtain ⟨m, hm⟩ := k3; exact DataW.trod_lt m _ _ _ hm
  obtain ⟨A3, c3, l3, rfl, w3, x3, y3, z3⟩ := arg_sliceW Tryd.underlying39 (Rd.sliceW (k := 48) Tryd.underlying39 (by kernel_rfl) rfl (by kernel_rfl) (by kernel_rfl) (Rd.iso Go.Proofs.YtmedmajdoecjfaaDoor.dlF Go.Proofs.YtmedmajdoecjfaaDoor.dlG (fun _ => rfl) (Rd.struct (es := [3, 9, 24]) (by kernel_rfl) (Rds.cons (Rd.int Tryd.underlying3) (Rds.cons (Rd.string Tryd.underlying9) (Rds.one (Rd.slice Tryd.underlying24 (by kernel_rfl) rfl (by kernel_rfl) (Rd.byte Tryd.underlying5)))))))) (hval 3 39 v3 rfl rfl) h3 (weights_of hsz (j := 3) rfl rfl)
  clear hA0 hval0 hsz0 hsz
  refine (queueConflicts_row W A0 c0 l0 w0 x0 y0 A1 c1 l1 w1 x1 y1 a2 w2 A3 c3 l3 w3 x3 y3).mono fun e W' ⟨v, he, hv, bel⟩ => ?_
  subst hv; subst he
  exact ⟨_, rfl, _, _, _, [], _, [], hW', trodAll_mk1 (shut_bool Tryd.underlying4 _), (trodAll_cons_mk (Below.trod laidOut (by kernel_rfl) (of_decide_eq_true (by kernel_rfl)) k0 bel lt0) (trodAll_cons_mk (Below.trod laidOut (by kernel_rfl) (of_decide_eq_true (by kernel_rfl)) k1 bel lt1) (trodAll_cons_mk (Below.trod laidOut (by kernel_rfl) (of_decide_eq_true (by kernel_rfl)) k2 bel lt2) (trodAll_cons_mk (Below.trod laidOut (by kernel_rfl) (of_decide_eq_true (by kernel_rfl)) k3 bel lt3) trodAll_mk0)))), rfl, bel.frame _, fun h => by cases h⟩
theorem over : Rows.queueConflictsRow.holds Tryd.pinned (OpenSpec.ofChange Rows.queueConflictsSpec) :=
  OpenClaim.holds_of_wide 5 Tryd.f5 rfl rfl rfl rfl rfl rfl rfl ⟨rfl, rfl, rfl, rfl, rfl⟩ rfl rfl rfl rfl rfl (by kernel_rfl) Tryd.func5 (by kernel_rfl)
    (of_decide_eq_true (by kernel_rfl)) (by unfold Func.isWrapper; first | (rw [if_pos (by decide +kernel)]; kernel_rfl) | (rw [if_neg (by decide +kernel)]; exact ⟨rfl, rfl⟩))
    (fun os started H enc _ => lifted os started H enc)
theorem proved0 : Rows.QueueConflictsSaid := over
theorem proved : Rows.QueueConflictsCardSaid :=
  Claim7.holds_tied_plain_at .later [] [.data, .pinned] true (true, "3c6695a6ba06469a539ab21ceb4fa95b4147059ce9d79785b50f5d9686f95113") false proved0 (fun _ h => by cases h) (by kernel_rfl) (fun _ h => by cases h) queueConflicts_row_tie rfl ⟨rfl, rfl⟩ (by kernel_rfl) rfl
    (fun f fn hf hfn => by
      obtain rfl : f = 5 := Option.some.inj ((show Tryd.prog.funcNamed "quilter/quilterlaw13.QueueConflicts" = some 5 by kernel_rfl).symm.trans hf) |>.symm
      obtain rfl : fn = Tryd.f5 := (Option.some.inj (Tryd.func5.symm.trans hfn)).symm
      exact ⟨by kernel_rfl, fun j t ht => by
        rw [Tryd.params5] at ht
        have hm : t ∈ [23, 52, 5, 39] := by simpa using Array.mem_of_getElem? ht
        have hall : ([23, 52, 5, 39].all fun u => !Tryd.prog.wantsStandIn u) = true := by kernel_rfl
        exact (show Tryd.prog.wantsStandIn t = false by simpa using List.all_eq_true.1 hall t hm)⟩)
    (by kernel_rfl)
end Go.Proofs.YtmedmajdoecjfaaDoor.queueConflicts
namespace Go.Proofs.YtmedmajdoecjfaaDoor
/-- The statement. -/
theorem queueConflicts_card_holds : Rows.QueueConflictsCardSaid := queueConflicts.proved
#print axioms queueConflicts_card_holds
end Go.Proofs.YtmedmajdoecjfaaDoor
