/-
  A queue is what the reference tells: the row in its second form, where what comes in is of bulk at most 1048576, and its card.
-/
import Derived.Test.YtmedmajdoecjfaaDoorTie
import Derived.Test.YtmedmajdoecjfaaDoorCards
import Derived.SevenTiedAt
import Derived.LaidMore
import Derived.Lay
import Derived.Stop.Joined
import Derived.Test.YtmedmajdoecjfaaDoorGenB
import Derived.Test.YtmedmajdoecjfaaDoorBulk
import Derived.Test.YtmedmajdoecjfaaDoorQueLSteps
import Derived.Deep.DeepHandedRow
namespace Go.Proofs.YtmedmajdoecjfaaDoor.queueSteps
open Go Go.Eng Go.ChangeShapes Go.WideShapes Go.ChangeAt Go.RowKit
set_option linter.unusedVariables false
theorem own : ownKnob Tryd.prog.godebug = none := by kernel_rfl
theorem laidOut : laidOutB Tryd.prog = true := by kernel_rfl
def laidL : List (String × DataW Unit) := [("unicode/utf8.acceptRanges", Rows.laid_unicode_utf8_acceptRanges), ("unicode/utf8.first", Rows.laid_unicode_utf8_first)]
set_option maxRecDepth 100000 in
theorem lifted (os : Os) (started : os.Started) (H : Type) (enc : TypeId × Value → H) (F : Stop.Interp) :
    ReturnsInHanded {} Tryd.checked os 9 .any ((Rows.OpenSpec.upto Rows.queueStepsSpec).preRow enc Tryd.prog Tryd.f9 Rows.queueStepsUptoRow.domain false laidL) (((Rows.OpenSpec.upto Rows.queueStepsSpec).at F).post enc Tryd.prog Tryd.f9 false true false false) := by
  have hok0 : Input.okWideB Tryd.prog ((World.laidAll Tryd.prog os laidL).forCall (fun _ _ => 0) ⟨#[], #[.slice none 0 0, .int .i64 0, .slice none 0 0], []⟩) 9 ⟨#[], #[.slice none 0 0, .int .i64 0, .slice none 0 0], []⟩ = true := by kernel_rfl
  refine returnsInHanded_of_row (C := Tryd.checked) (s := Rows.OpenSpec.upto Rows.queueStepsSpec) own started (by kernel_rfl) Tryd.func9
    ⟨World.laidAll Tryd.prog os laidL, fun _ _ => 0, ⟨#[], #[.slice none 0 0, .int .i64 0, .slice none 0 0], []⟩, World.laidAll_os _ _ _, World.shaped_of_ZipB (by kernel_rfl) (by kernel_rfl), (Input.okWide_of_okWideB (base := 0) hok0).1, (Input.okWide_of_okWideB hok0).2,
      OpenSpec.preRow_of_cond 8 (x := ([.nil, .lit (.int .i64 0), .nil], [], [])) (by kernel_rfl) (by kernel_rfl) (fun k hk => by cases hk; kernel_rfl) (by kernel_rfl) (by rw [MakeChecks.laidMetH_plain _ _ _ (by kernel_rfl)]; exact laidMet_laidAll _ (by kernel_rfl) (by kernel_rfl)),
      by simp only [Assume.holds]; exact ⟨by simp, by simp, fun _ => Modest.zero, by simp, by simp⟩⟩ ?_
  intro W base args ds gs before hval0 hW hcnd hk0 hsz0 hLd _ _; have hk := hk0 _ rfl; have hsz : (DataW.weightsEach Tryd.prog (Tryd.f9.params.toList ++ (Rows.OpenSpec.upto Rows.queueStepsSpec).bare.plain.varTypes Tryd.prog) (ds ++ gs)).all (· ≤ reachBytes) = true := hsz0; have hval : ∀ (j : Nat) t v, Tryd.f9.params[j]? = some t → args[j]? = some v → Value.okWide Tryd.prog W .any base t v := hval0; have hW' := hW; obtain ⟨p, q, hA0, hV, rfl, hfz, hnd⟩ := hW; have hA : DataW.TrodAll enc Tryd.prog W 0 (fun _ => true) true Tryd.f9.params.toList args.toList ds p := hA0
  rw [Tryd.params9] at hA hval hsz
  obtain ⟨v0, vs0, d0, ds0, p0, q0, hargs, rfl, rfl, h0, r0⟩ := trodAll_cons hA; obtain ⟨v1, vs1, d1, ds1, p1, q1, rfl, rfl, rfl, h1, r1⟩ := trodAll_cons r0; obtain ⟨v2, vs2, d2, ds2, p2, q2, rfl, rfl, rfl, h2, r2⟩ := trodAll_cons r1; obtain ⟨rfl, rfl, rfl⟩ := trodAll_nil r2
  obtain rfl : args = #[v0, v1, v2] := by cases args; simp_all
  obtain ⟨rfl, rfl⟩ := trodVars_none hV; have k0 := h0
  have lt0 : ∀ x ∈ p0, x.block < W.heap.size := by obtain ⟨m, hm⟩ := k0; exact DataW.trod_lt m _ _ _ hm
  obtain ⟨A0, c0, l0, rfl, w0, x0, y0, z0⟩ := arg_slice Tryd.underlying23 (Rd.slice Tryd.underlying23 (by kernel_rfl) rfl (by kernel_rfl) (Rd.iso Go.Proofs.YtmedmajdoecjfaaDoor.fiF Go.Proofs.YtmedmajdoecjfaaDoor.fiG (fun _ => rfl) (Rd.struct (es := [9, 24]) (by kernel_rfl) (Rds.cons (Rd.string Tryd.underlying9) (Rds.one (Rd.slice Tryd.underlying24 (by kernel_rfl) rfl (by kernel_rfl) (Rd.byte Tryd.underlying5))))))) (hval 0 23 v0 rfl rfl) h0 (weights_of hsz (j := 0) rfl rfl); have k1 := h1
  have lt1 : ∀ x ∈ p1, x.block < W.heap.size := by obtain ⟨m, hm⟩ := k1; exact DataW.trod_lt m _ _ _ hm
  obtain ⟨a1, rfl, w1⟩ := arg_int Tryd.underlying3 (hval 1 3 v1 rfl rfl) h1; have k2 := h2
  have lt2 : ∀ x ∈ p2, x.block < W.heap.size := by obtain ⟨m, hm⟩ := k2; exact DataW.trod_lt m _ _ _ hm
  obtain ⟨A2, c2, l2, rfl, w2, x2, y2, z2⟩ := arg_slice Tryd.underlying66 (Rd.slice Tryd.underlying66 (by kernel_rfl) rfl (by kernel_rfl) (Rd.iso Go.Proofs.YtmedmajdoecjfaaDoor.dqF Go.Proofs.YtmedmajdoecjfaaDoor.dqG (fun _ => rfl) (Rd.struct (es := [3, 41]) (by kernel_rfl) (Rds.cons (Rd.int Tryd.underlying3) (Rds.one (Rd.struct (es := [3, 3, 39]) (by kernel_rfl) (Rds.cons (Rd.int Tryd.underlying3) (Rds.cons (Rd.int Tryd.underlying3) (Rds.one (Rd.sliceW (k := 48) Tryd.underlying39 (by kernel_rfl) rfl (by kernel_rfl) (by kernel_rfl) (Rd.iso Go.Proofs.YtmedmajdoecjfaaDoor.dlF Go.Proofs.YtmedmajdoecjfaaDoor.dlG (fun _ => rfl) (Rd.struct (es := [3, 9, 24]) (by kernel_rfl) (Rds.cons (Rd.int Tryd.underlying3) (Rds.cons (Rd.string Tryd.underlying9) (Rds.one (Rd.slice Tryd.underlying24 (by kernel_rfl) rfl (by kernel_rfl) (Rd.byte Tryd.underlying5))))))))))))))))) (hval 2 66 v2 rfl rfl) h2 (weights_of hsz (j := 2) rfl rfl); clear hA0 hval0 hsz0 hsz
  refine (queueSteps_row W A0 c0 l0 w0 x0 y0 (Bulk.small hk z0 (by simp)) a1 w1 A2 c2 l2 w2 x2 y2 (Bulk.small hk z2 (by simp))).mono fun e W' ⟨v, he, hv, bel⟩ => ?_
  subst hv; subst he
  exact ⟨_, rfl, _, _, _, [], _, [], hW', trodAll_mk1 (shut_bool Tryd.underlying4 _), (trodAll_cons_mk (Below.trod laidOut (by kernel_rfl) (of_decide_eq_true (by kernel_rfl)) k0 bel lt0) (trodAll_cons_mk (Below.trod laidOut (by kernel_rfl) (of_decide_eq_true (by kernel_rfl)) k1 bel lt1) (trodAll_cons_mk (Below.trod laidOut (by kernel_rfl) (of_decide_eq_true (by kernel_rfl)) k2 bel lt2) trodAll_mk0))), rfl, bel.frame _, fun h => by cases h⟩
theorem over : Rows.queueStepsUptoRow.holds Tryd.pinned (Rows.OpenSpec.upto Rows.queueStepsSpec) :=
  OpenClaim.holds_of_cond 9 Tryd.f9 rfl rfl rfl rfl rfl rfl rfl ⟨rfl, rfl, rfl, rfl, rfl⟩ rfl rfl rfl rfl rfl (by kernel_rfl) Tryd.func9 (by kernel_rfl)
    (of_decide_eq_true (by kernel_rfl)) (by unfold Func.isWrapper; first | (rw [if_pos (by decide +kernel)]; kernel_rfl) | (rw [if_neg (by decide +kernel)]; exact ⟨rfl, rfl⟩))
    (fun os started H enc _ F => by rw [OpenClaim.pre_eq_preRow]; exact lifted os started H enc F)
theorem proved0 : Rows.QueueStepsUptoSaid := over
theorem proved : Rows.QueueStepsUptoCardSaid :=
  Claim7.holds_tied_plain_at .later [] [.data, .pinned] true (true, "3c6695a6ba06469a539ab21ceb4fa95b4147059ce9d79785b50f5d9686f95113") false proved0 (fun _ h => by cases h) (by kernel_rfl) (fun _ h => by cases h) queueStepsUpto_row_tie rfl ⟨rfl, rfl⟩ (by kernel_rfl) rfl
    (fun f fn hf hfn => by
      obtain rfl : f = 9 := Option.some.inj ((show Tryd.prog.funcNamed "quilter/quilterlaw13.QueueSteps" = some 9 by kernel_rfl).symm.trans hf) |>.symm; obtain rfl : fn = Tryd.f9 := (Option.some.inj (Tryd.func9.symm.trans hfn)).symm
      exact ⟨by kernel_rfl, fun j t ht => by
        rw [Tryd.params9] at ht
        have hm : t ∈ [23, 3, 66] := by simpa using Array.mem_of_getElem? ht
        have hall : ([23, 3, 66].all fun u => !Tryd.prog.wantsStandIn u) = true := by kernel_rfl
        exact (show Tryd.prog.wantsStandIn t = false by simpa using List.all_eq_true.1 hall t hm)⟩)
    (by kernel_rfl)
end Go.Proofs.YtmedmajdoecjfaaDoor.queueSteps
namespace Go.Proofs.YtmedmajdoecjfaaDoor
theorem queueSteps_card_holds : Rows.QueueStepsUptoCardSaid := queueSteps.proved
#print axioms queueSteps_card_holds
end Go.Proofs.YtmedmajdoecjfaaDoor
