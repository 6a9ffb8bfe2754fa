/-
  Any rules' text, and whether any one may be, is what the chapter says: the row, and its card.
-/
import Derived.Test.YtafcaigjijajnaaDoorTie
import Derived.Test.YtafcaigjijajnaaDoorCards
import Derived.SevenTiedAt
import Derived.LaidMore
import Derived.Lay
import Derived.Stop.Joined
import Derived.Test.YtafcaigjijajnaaDoorGenB
import Derived.Test.YtafcaigjijajnaaDoorRuleLPrints
namespace Go.Proofs.YtafcaigjijajnaaDoor.rulePrints
open Go Go.Eng Go.ChangeShapes Go.WideShapes Go.ChangeAt Go.RowKit
set_option linter.unusedVariables false
theorem own : ownKnob Tryd.prog.godebug = none := by kernel_rfl
theorem laidOut : laidOutB Tryd.prog = true := by kernel_rfl
def laidL : List (String × DataW Unit) := [("math/bits.deBruijn32tab", Rows.laid_math_bits_deBruijn32tab), ("math/bits.deBruijn64tab", Rows.laid_math_bits_deBruijn64tab), ("internal/strconv.uint64pow10", Rows.laid_internal_strconv_uint64pow10), ("unicode/utf8.acceptRanges", Rows.laid_unicode_utf8_acceptRanges), ("strconv.ErrRange", Rows.laid_strconv_ErrRange), ("strconv.ErrSyntax", Rows.laid_strconv_ErrSyntax), ("unicode/utf8.first", Rows.laid_unicode_utf8_first)]
set_option maxRecDepth 100000 in
theorem lifted (os : Os) (started : os.Started) (H : Type) (enc : TypeId × Value → H) :
    ReturnsInHanded {} Tryd.checked os 4 .any (fun w args => (Rows.rulePrintsSpec.pre enc Tryd.prog Tryd.f4 Rows.rulePrintsRow.domain false w args ∧ laidMetH Tryd.prog laidL w) ∧ sizedMet enc Tryd.prog Tryd.f4 (OpenSpec.ofChange Rows.rulePrintsSpec) false w args)
      (Rows.rulePrintsSpec.post enc Tryd.prog Tryd.f4 false true false false) := by
  refine of_change_and_shaped (C := Tryd.checked) (X := fun w _ => laidMetH Tryd.prog laidL w) (fun _ _ _ hh h => h.of_heap hh) own started (by kernel_rfl) Tryd.func4
    (ChangeSpec.witness_shaped (enc := enc) (C := Tryd.checked) (os := os) (X := fun w _ => laidMetH Tryd.prog laidL w) false (World.laidAll Tryd.prog os laidL) #[.slice none 0 0, .agg #[.int .i64 0, .string ByteArray.empty, .string ByteArray.empty, .string ByteArray.empty]] 8 (World.laidAll_os _ _ _)
      (World.shaped_of_ZipB (by kernel_rfl) (by kernel_rfl)) (by kernel_rfl) (by kernel_rfl) (by kernel_rfl)
      (by rw [MakeChecks.laidMetH_plain _ _ _ (by kernel_rfl)]; exact laidMet_laidAll _ (by kernel_rfl) (by kernel_rfl))) ?_
  intro W base args ds gs before hval0 hW hcnd hsz0 hLd hshp _
  have hGl := gl_of hshp (by rw [MakeChecks.laidMetH_plain _ _ _ (by kernel_rfl)] at hLd; exact hLd)
  have hsz : (DataW.weightsEach Tryd.prog (Tryd.f4.params.toList ++ Rows.rulePrintsSpec.plain.varTypes Tryd.prog) (ds ++ gs)).all (· ≤ reachBytes) = true := hsz0
  have hval : ∀ (j : Nat) t v, Tryd.f4.params[j]? = some t → args[j]? = some v → Value.okWide Tryd.prog W .any base t v := hval0
  have hW' := hW
  obtain ⟨p, q, hA0, hV, rfl, hfz, hnd⟩ := hW
  have hA : DataW.TrodAll enc Tryd.prog W 0 (fun _ => true) true Tryd.f4.params.toList args.toList ds p := hA0
  rw [Tryd.params4] at hA hval hsz
  obtain ⟨v0, vs0, d0, ds0, p0, q0, hargs, rfl, rfl, h0, r0⟩ := trodAll_cons hA
  obtain ⟨v1, vs1, d1, ds1, p1, q1, rfl, rfl, rfl, h1, r1⟩ := trodAll_cons r0
  obtain ⟨rfl, rfl, rfl⟩ := trodAll_nil r1
  obtain rfl : args = #[v0, v1] := by cases args; simp_all
  obtain ⟨rfl, rfl⟩ := trodVars_none hV
  have k0 := h0
  have lt0 : ∀ x ∈ p0, x.block < W.heap.size := by obtain ⟨m, hm⟩ := k0; exact DataW.trod_lt m _ _ _ hm
  obtain ⟨A0, c0, l0, rfl, w0, x0, y0, z0⟩ := arg_slice Tryd.underlying23 (Rd.slice Tryd.underlying23 (by kernel_rfl) rfl (by kernel_rfl) (Rd.iso Go.Proofs.YtafcaigjijajnaaDoor.ruF Go.Proofs.YtafcaigjijajnaaDoor.ruG (fun _ => rfl) (Rd.struct (es := [3, 9, 9, 9]) (by kernel_rfl) (Rds.cons (Rd.int Tryd.underlying3) (Rds.cons (Rd.string Tryd.underlying9) (Rds.cons (Rd.string Tryd.underlying9) (Rds.one (Rd.string Tryd.underlying9)))))))) (hval 0 23 v0 rfl rfl) h0 (weights_of hsz (j := 0) rfl rfl)
  have k1 := h1
  have lt1 : ∀ x ∈ p1, x.block < W.heap.size := by obtain ⟨m, hm⟩ := k1; exact DataW.trod_lt m _ _ _ hm
  obtain ⟨y1, cs1, rfl, w1, z1⟩ := arg_struct (es := [3, 9, 9, 9]) (by kernel_rfl) (Rd.iso Go.Proofs.YtafcaigjijajnaaDoor.ruF Go.Proofs.YtafcaigjijajnaaDoor.ruG (fun _ => rfl) (Rd.struct (es := [3, 9, 9, 9]) (by kernel_rfl) (Rds.cons (Rd.int Tryd.underlying3) (Rds.cons (Rd.string Tryd.underlying9) (Rds.cons (Rd.string Tryd.underlying9) (Rds.one (Rd.string Tryd.underlying9))))))) (hval 1 35 v1 rfl rfl) h1 (weights_of hsz (j := 1) rfl rfl)
  clear hA0 hval0 hsz0 hsz
  refine (rulePrints_row W hGl A0 c0 l0 w0 x0 y0 y1 cs1 w1).mono fun e W' ⟨v, he, hv, bel⟩ => ?_
  subst hv; subst he
  exact ⟨_, rfl, _, _, _, [], _, [], hW', trodAll_mk1 (shut_bool Tryd.underlying4 _), (trodAll_cons_mk (Below.trod laidOut (by kernel_rfl) (of_decide_eq_true (by kernel_rfl)) k0 bel lt0) (trodAll_cons_mk (Below.trod laidOut (by kernel_rfl) (of_decide_eq_true (by kernel_rfl)) k1 bel lt1) trodAll_mk0)), rfl, bel.frame _, fun h => by cases h⟩
theorem over : Rows.rulePrintsRow.holds Tryd.pinned (OpenSpec.ofChange Rows.rulePrintsSpec) :=
  OpenClaim.holds_of_wide 4 Tryd.f4 rfl rfl rfl rfl rfl rfl rfl ⟨rfl, rfl, rfl, rfl, rfl⟩ rfl rfl rfl rfl rfl (by kernel_rfl) Tryd.func4 (by kernel_rfl)
    (of_decide_eq_true (by kernel_rfl)) (by unfold Func.isWrapper; first | (rw [if_pos (by decide +kernel)]; kernel_rfl) | (rw [if_neg (by decide +kernel)]; exact ⟨rfl, rfl⟩))
    (fun os started H enc _ => lifted os started H enc)
theorem proved0 : Rows.RulePrintsSaid := over
theorem proved : Rows.RulePrintsCardSaid :=
  Claim7.holds_tied_plain_at .later [] [.data, .data, .data, .data, .sentinel, .sentinel, .pinned] true (true, "2c48dfbbfaaab42c57fcee7358216843d5a576efcc92178f6e4508da0b5242d3") true proved0 (fun _ h => by cases h) (by kernel_rfl) (fun _ h => by cases h) rulePrints_row_tie rfl ⟨rfl, rfl⟩ (by kernel_rfl) rfl
    (fun f fn hf hfn => by
      obtain rfl : f = 4 := Option.some.inj ((show Tryd.prog.funcNamed "quilter/quilterlaw11.RulePrints" = some 4 by kernel_rfl).symm.trans hf) |>.symm
      obtain rfl : fn = Tryd.f4 := (Option.some.inj (Tryd.func4.symm.trans hfn)).symm
      exact ⟨by kernel_rfl, fun j t ht => by
        rw [Tryd.params4] at ht
        have hm : t ∈ [23, 35] := by simpa using Array.mem_of_getElem? ht
        have hall : ([23, 35].all fun u => !Tryd.prog.wantsStandIn u) = true := by kernel_rfl
        exact (show Tryd.prog.wantsStandIn t = false by simpa using List.all_eq_true.1 hall t hm)⟩)
    (by kernel_rfl)
end Go.Proofs.YtafcaigjijajnaaDoor.rulePrints
namespace Go.Proofs.YtafcaigjijajnaaDoor
/-- The statement. -/
theorem rulePrints_card_holds : Rows.RulePrintsCardSaid := rulePrints.proved
#print axioms rulePrints_card_holds
end Go.Proofs.YtafcaigjijajnaaDoor
