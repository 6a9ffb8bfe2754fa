/-
  Each state that is laid is of a number one more, by turns in both slots; then there are no records; opened anew the number is the same: the row. For every input, no condition.
-/
import Derived.Test.YtlidigdlcjhkfaaRows
import Derived.Test.YtlidigdlcjhkfaaInts
import Derived.Test.YtlidigdlcjhkfaaJnlLSeqs
namespace Go.Proofs.Ytlidigdlcjhkfaa.journalSeqs
open Go Go.Eng Go.ChangeShapes Go.WideShapes Go.ChangeAt Go.RowKit
set_option linter.unusedVariables false
theorem own : ownKnob Try.prog.godebug = none := by kernel_rfl
theorem laidOut : laidOutB Try.prog = true := by kernel_rfl
set_option maxRecDepth 100000 in
theorem lifted (os : Os) (started : os.Started) (H : Type) (enc : TypeId × Value → H) :
    ReturnsInHanded {} Try.checked os 5 .any (Rows.journalSeqsSpec.pre6 enc Try.prog Try.f5 Rows.journalSeqsRow.domain false) (Rows.journalSeqsSpec.post enc Try.prog Try.f5 false true false false) := by
  refine returnsInHanded_of_change_sized (C := Try.checked) own started (by kernel_rfl) Try.func5
    (ChangeSpec.witness6 (enc := enc) (C := Try.checked) false ⟨#[], #[.slice none 0 0], []⟩ 8 (by kernel_rfl) (by kernel_rfl) (by kernel_rfl) (by kernel_rfl)) ?_
  intro W base args ds gs before hval0 hW hcnd hsz0 _
  have hsz : (DataW.weightsEach Try.prog (Try.f5.params.toList ++ Rows.journalSeqsSpec.plain.varTypes Try.prog) (ds ++ gs)).all (· ≤ reachBytes) = true := hsz0
  have hval : ∀ (j : Nat) t v, Try.f5.params[j]? = some t → args[j]? = some v → Value.okWide Try.prog W .any base t v := hval0
  have hW' := hW
  obtain ⟨p, q, hA0, hV, rfl, hfz, hnd⟩ := hW
  have hA : DataW.TrodAll enc Try.prog W 0 (fun _ => true) true Try.f5.params.toList args.toList ds p := hA0
  rw [Try.params5] at hA hval hsz
  obtain ⟨v0, vs0, d0, ds0, p0, q0, hargs, rfl, rfl, h0, r0⟩ := trodAll_cons hA
  obtain ⟨rfl, rfl, rfl⟩ := trodAll_nil r0
  obtain rfl : args = #[v0] := by cases args; simp_all
  obtain ⟨rfl, rfl⟩ := trodVars_none hV
  have k0 := h0
  have lt0 : ∀ x ∈ p0, x.block < W.heap.size := by obtain ⟨m, hm⟩ := k0; exact DataW.trod_lt m _ _ _ hm
  obtain ⟨A0, c0, l0, rfl, w0, x0, y0, z0⟩ := arg_slice Try.underlying22 (Rd.slice Try.underlying22 (by kernel_rfl) rfl (by kernel_rfl) (Rd.slice Try.underlying23 (by kernel_rfl) rfl (by kernel_rfl) (Rd.byte Try.underlying5))) (hval 0 22 v0 rfl rfl) h0 (weights_of hsz (j := 0) rfl rfl)
  clear hA0 hval0 hsz0 hsz
  refine (journalSeqs_walk W A0 c0 l0 w0 x0 y0).mono fun e W' ⟨v, he, hv, bel⟩ => ?_
  subst hv; subst he
  exact ⟨_, rfl, _, _, _, [], _, [], hW', trodAll_mk1 (shut_bool Try.underlying4 _), (trodAll_cons_mk (Below.trod laidOut (by kernel_rfl) (of_decide_eq_true (by kernel_rfl)) k0 bel lt0) trodAll_mk0), rfl, bel.frame _, fun h => by cases h⟩
theorem over : Rows.journalSeqsRow.holds Try.pinned (OpenSpec.ofChange Rows.journalSeqsSpec) :=
  OpenClaim.holds_of_wide 5 Try.f5 rfl rfl rfl rfl rfl rfl rfl ⟨rfl, rfl, rfl, rfl, rfl⟩ rfl rfl rfl rfl rfl (by kernel_rfl) Try.func5 (by kernel_rfl)
    (of_decide_eq_true (by kernel_rfl)) (by unfold Func.isWrapper; first | (rw [if_pos (by decide +kernel)]; kernel_rfl) | (rw [if_neg (by decide +kernel)]; exact ⟨rfl, rfl⟩))
    (fun os started H enc _ => lifted os started H enc)
theorem proved : Rows.JournalSeqsSaid := over
end Go.Proofs.Ytlidigdlcjhkfaa.journalSeqs
namespace Go.Proofs.Ytlidigdlcjhkfaa
/-- The statement. -/
theorem journalSeqs_holds : Rows.JournalSeqsSaid := journalSeqs.proved
#print axioms journalSeqs_holds
end Go.Proofs.Ytlidigdlcjhkfaa
