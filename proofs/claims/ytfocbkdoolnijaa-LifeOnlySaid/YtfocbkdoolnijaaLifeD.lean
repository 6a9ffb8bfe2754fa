/-
  What life.does makes: a map, its entries in whatever order.
-/
import Derived.Test.YtfocbkdoolnijaaFacts
import Derived.Test.YtfocbkdoolnijaaLifeC
import Derived.Test.YtfocbkdoolnijaaLit
namespace Go.Proofs.Ytfocbkdoolnijaa
open Go Go.Eng Go.RowKit Go.Proofs
set_option linter.unusedVariables false
set_option maxRecDepth 20000

inductive Do where
  | to (s : Int)
  | given (s : Int)
  | made
  | done
  | sent
  | again
  | tickTo (s : Int)
  | tickGiven (s : Int)
def Do.run (D : Do) (m : Lim) (x : Lf) (n : Int) : Lf := match D with
  | .to s => x.to s
  | .given s => x.given s
  | .made => x.made m
  | .done => x.done n
  | .sent => x.sent n
  | .again => x.again m
  | .tickTo s => x.tick (fun y => y.to s)
  | .tickGiven s => x.tick (fun y => y.given s)
def Do.K (D : Do) (v : Value) (w : World) : Prop := ∃ f fn, ∃ lb : List Value, v = .func (.func f) #[] lb.toArray ∧ Try.prog.funcs[f]? = some fn ∧ (fn.name == "runtime.NumGoroutine") = false ∧ fn.body.isNone = false ∧
  ∀ m x n w', CK w w' → Calls Try.prog f ([Lim.val m, Lf.val x, .int .i64 n] ++ lb).toArray w' (fun en w'' => ∃ v, en = .returned v ∧ v = (D.run m x n).val ∧ Ext w' w'')
theorem Do.keep (D : Do) (v : Value) (w w' : World) (h : D.K v w) (hc : CK w w') : D.K v w' := by
  obtain ⟨f, fn, lb, h1, h2, h3, h4, h5⟩ := h
  exact ⟨f, fn, lb, h1, h2, h3, h4, fun m x n w'' hk => h5 m x n w'' (hc.trans hk)⟩
theorem to_do (s : Int) (w : World) : Calls Try.prog 22 #[.int .i64 s] w (fun en w' => ∃ v, en = .returned v ∧ Do.K (.to s) v w' ∧ Ext w w') := by
  refine (to_spec s w).mono ?_
  rintro en w' ⟨v, rfl, bs, rfl, hE, hB, _⟩
  exact ⟨_, rfl, ⟨_, _, [.pointer (some ⟨bs, 0, none⟩)], rfl, Try.func29, Try.nm29, rfl, fun m x n w'' hc => to1_spec bs s m x n w'' (hB.ck hc)⟩, hE⟩
theorem given_do (s : Int) (w : World) : Calls Try.prog 23 #[.int .i64 s] w (fun en w' => ∃ v, en = .returned v ∧ Do.K (.given s) v w' ∧ Ext w w') := by
  refine (given_spec s w).mono ?_
  rintro en w' ⟨v, rfl, bs, rfl, hE, hB, _⟩
  exact ⟨_, rfl, ⟨_, _, [.pointer (some ⟨bs, 0, none⟩)], rfl, Try.func30, Try.nm30, rfl, fun m x n w'' hc => given1_spec bs s m x n w'' (hB.ck hc)⟩, hE⟩
theorem tick_do (v : Value) (D D' : Do) (hD : ∀ m x n, D'.run m x n = x.tick (fun y => D.run m y n)) (w : World) (hv : D.K v w) : Calls Try.prog 26 #[v] w (fun en w' => ∃ v, en = .returned v ∧ D'.K v w' ∧ Ext w w') := by
  obtain ⟨f, fn, lb, rfl, h2, h3, h4, h5⟩ := hv
  refine (tick_spec f lb.toArray w).mono ?_
  rintro en w' ⟨v, rfl, bs, rfl, hE, hB, _⟩
  refine ⟨_, rfl, ⟨_, _, [.pointer (some ⟨bs, 0, none⟩)], rfl, Try.func31, Try.nm31, rfl, fun m x n w'' hc => ?_⟩, hE⟩
  rw [hD]
  exact tick1_spec bs f fn lb (fun y => D.run m y n) m x n w'' (hB.ck hc) h2 h3 h4 (fun y w3 he => h5 m y n w3 (((CK.of hE).trans hc).trans (CK.of he)))
theorem made_K (w : World) : Do.K .made (.func (.func 24) #[] #[]) w :=
  ⟨_, _, [], rfl, Try.func24, Try.nm24, rfl, fun m x n w' _ => made_spec m x n w'⟩
theorem done_K (w : World) : Do.K .done (.func (.func 25) #[] #[]) w :=
  ⟨_, _, [], rfl, Try.func25, Try.nm25, rfl, fun m x n w' _ => done_spec m x n w'⟩
theorem sent_K (w : World) : Do.K .sent (.func (.func 27) #[] #[]) w :=
  ⟨_, _, [], rfl, Try.func27, Try.nm27, rfl, fun m x n w' _ => sent_spec m x n w'⟩
theorem again_K (w : World) : Do.K .again (.func (.func 28) #[] #[]) w :=
  ⟨_, _, [], rfl, Try.func28, Try.nm28, rfl, fun m x n w' _ => again_spec m x n w'⟩
def dT : List (Kd Do) := [.mk 1, .key 2 [0, 1], .fn 3 (.to 1), .ins [0, 1] (.to 1), .key 4 [0, 2], .fn 5 (.given 4), .ins [0, 2] (.given 4), .key 6 [1, 3], .ins [1, 3] .made, .key 7 [1, 4], .ins [1, 4] .done, .key 8 [1, 5], .fn 9 (.given 5), .ins [1, 5] (.given 5), .key 10 [2, 6], .fn 11 (.to 3), .ins [2, 6] (.to 3), .key 12 [2, 7], .fn 13 (.given 1), .ins [2, 7] (.given 1), .key 14 [2, 8], .fn 15 (.given 2), .fn 16 (.tickGiven 2), .ins [2, 8] (.tickGiven 2), .key 17 [3, 9], .ins [3, 9] .sent, .key 18 [4, 10], .ins [4, 10] .done, .key 19 [4, 5], .fn 20 (.given 5), .ins [4, 5] (.given 5), .key 21 [4, 11], .ins [4, 11] .again, .key 22 [4, 12], .ins [4, 12] .again, .key 23 [5, 8], .fn 24 (.to 1), .fn 25 (.tickTo 1), .ins [5, 8] (.tickTo 1), .mv 26, .mv 0]
theorem dT_apart : apart dT = true := by decide +kernel
theorem does_spec (w : World) : Calls Try.prog 20 #[] w (fun en w' => ∃ v, en = .returned v ∧ LitDone Do.K dT w v w' ∧ Ext w w') := by
  refine calls' (n := 27) (rs := #[.tmp 0]) (l := []) Try.func20 rfl rfl rfl rfl rfl ?_
  refine W_seq ?_
  refine W_region ?_
  refine op rfl (r_assignV (v := .map _) rfl) ?_
  refine WL_nil ?_
  refine W_seq ?_
  refine W_lit (K := Do.K) (T := dT) (q := 40) (d := 0) (k := 41) Try.wd rfl rfl (by kernel_rfl) rfl rfl ?_ ?_
  · refine ⟨q_make Do.keep dT_apart rfl (by decide) rfl rfl, ?_⟩
    refine ⟨q_key Do.keep dT_apart rfl rfl rfl rfl (fun e w => r_build (cs := [.int .i64 0, .int .i64 1]) Try.lay56 (List.forall_mem_cons.2 ⟨rfl, List.forall_mem_cons.2 ⟨rfl, fun _ h => by cases h⟩⟩) rfl rfl), ?_⟩
    refine ⟨q_call Do.keep dT_apart rfl rfl rfl rfl (fun L e w hL hi => ⟨_, _, r_call Try.func22 Try.nm22 rfl, to_do 1 w⟩), ?_⟩
    refine ⟨q_ins (m := 2) (kj := 1) Do.keep dT_apart rfl rfl rfl rfl rfl rfl rfl Try.underlying53 Try.ints56 rfl (fun L e w hL hi => hL.fn (j := 2) dT_apart rfl hi rfl), ?_⟩
    refine ⟨q_key Do.keep dT_apart rfl rfl rfl rfl (fun e w => r_build (cs := [.int .i64 0, .int .i64 2]) Try.lay56 (List.forall_mem_cons.2 ⟨rfl, List.forall_mem_cons.2 ⟨rfl, fun _ h => by cases h⟩⟩) rfl rfl), ?_⟩
    refine ⟨q_call Do.keep dT_apart rfl rfl rfl rfl (fun L e w hL hi => ⟨_, _, r_call Try.func23 Try.nm23 rfl, given_do 4 w⟩), ?_⟩
    refine ⟨q_ins (m := 2) (kj := 4) Do.keep dT_apart rfl rfl rfl rfl rfl rfl rfl Try.underlying53 Try.ints56 rfl (fun L e w hL hi => hL.fn (j := 5) dT_apart rfl hi rfl), ?_⟩
    refine ⟨q_key Do.keep dT_apart rfl rfl rfl rfl (fun e w => r_build (cs := [.int .i64 1, .int .i64 3]) Try.lay56 (List.forall_mem_cons.2 ⟨rfl, List.forall_mem_cons.2 ⟨rfl, fun _ h => by cases h⟩⟩) rfl rfl), ?_⟩
    refine ⟨q_ins (m := 2) (kj := 7) Do.keep dT_apart rfl rfl rfl rfl rfl rfl rfl Try.underlying53 Try.ints56 rfl (fun L e w hL hi => made_K w), ?_⟩
    refine ⟨q_key Do.keep dT_apart rfl rfl rfl rfl (fun e w => r_build (cs := [.int .i64 1, .int .i64 4]) Try.lay56 (List.forall_mem_cons.2 ⟨rfl, List.forall_mem_cons.2 ⟨rfl, fun _ h => by cases h⟩⟩) rfl rfl), ?_⟩
    refine ⟨q_ins (m := 2) (kj := 9) Do.keep dT_apart rfl rfl rfl rfl rfl rfl rfl Try.underlying53 Try.ints56 rfl (fun L e w hL hi => done_K w), ?_⟩
    refine ⟨q_key Do.keep dT_apart rfl rfl rfl rfl (fun e w => r_build (cs := [.int .i64 1, .int .i64 5]) Try.lay56 (List.forall_mem_cons.2 ⟨rfl, List.forall_mem_cons.2 ⟨rfl, fun _ h => by cases h⟩⟩) rfl rfl), ?_⟩
    refine ⟨q_call Do.keep dT_apart rfl rfl rfl rfl (fun L e w hL hi => ⟨_, _, r_call Try.func23 Try.nm23 rfl, given_do 5 w⟩), ?_⟩
    refine ⟨q_ins (m := 2) (kj := 11) Do.keep dT_apart rfl rfl rfl rfl rfl rfl rfl Try.underlying53 Try.ints56 rfl (fun L e w hL hi => hL.fn (j := 12) dT_apart rfl hi rfl), ?_⟩
    refine ⟨q_key Do.keep dT_apart rfl rfl rfl rfl (fun e w => r_build (cs := [.int .i64 2, .int .i64 6]) Try.lay56 (List.forall_mem_cons.2 ⟨rfl, List.forall_mem_cons.2 ⟨rfl, fun _ h => by cases h⟩⟩) rfl rfl), ?_⟩
    refine ⟨q_call Do.keep dT_apart rfl rfl rfl rfl (fun L e w hL hi => ⟨_, _, r_call Try.func22 Try.nm22 rfl, to_do 3 w⟩), ?_⟩
    refine ⟨q_ins (m := 2) (kj := 14) Do.keep dT_apart rfl rfl rfl rfl rfl rfl rfl Try.underlying53 Try.ints56 rfl (fun L e w hL hi => hL.fn (j := 15) dT_apart rfl hi rfl), ?_⟩
    refine ⟨q_key Do.keep dT_apart rfl rfl rfl rfl (fun e w => r_build (cs := [.int .i64 2, .int .i64 7]) Try.lay56 (List.forall_mem_cons.2 ⟨rfl, List.forall_mem_cons.2 ⟨rfl, fun _ h => by cases h⟩⟩) rfl rfl), ?_⟩
    refine ⟨q_call Do.keep dT_apart rfl rfl rfl rfl (fun L e w hL hi => ⟨_, _, r_call Try.func23 Try.nm23 rfl, given_do 1 w⟩), ?_⟩
    refine ⟨q_ins (m := 2) (kj := 17) Do.keep dT_apart rfl rfl rfl rfl rfl rfl rfl Try.underlying53 Try.ints56 rfl (fun L e w hL hi => hL.fn (j := 18) dT_apart rfl hi rfl), ?_⟩
    refine ⟨q_key Do.keep dT_apart rfl rfl rfl rfl (fun e w => r_build (cs := [.int .i64 2, .int .i64 8]) Try.lay56 (List.forall_mem_cons.2 ⟨rfl, List.forall_mem_cons.2 ⟨rfl, fun _ h => by cases h⟩⟩) rfl rfl), ?_⟩
    refine ⟨q_call Do.keep dT_apart rfl rfl rfl rfl (fun L e w hL hi => ⟨_, _, r_call Try.func23 Try.nm23 rfl, given_do 2 w⟩), ?_⟩
    refine ⟨q_call Do.keep dT_apart rfl rfl rfl rfl (fun L e w hL hi => ⟨_, _, r_call Try.func26 Try.nm26 rfl, tick_do _ (.given 2) (.tickGiven 2) (fun _ _ _ => rfl) w (hL.fn (j := 21) dT_apart rfl hi rfl)⟩), ?_⟩
    refine ⟨q_ins (m := 2) (kj := 20) Do.keep dT_apart rfl rfl rfl rfl rfl rfl rfl Try.underlying53 Try.ints56 rfl (fun L e w hL hi => hL.fn (j := 22) dT_apart rfl hi rfl), ?_⟩
    refine ⟨q_key Do.keep dT_apart rfl rfl rfl rfl (fun e w => r_build (cs := [.int .i64 3, .int .i64 9]) Try.lay56 (List.forall_mem_cons.2 ⟨rfl, List.forall_mem_cons.2 ⟨rfl, fun _ h => by cases h⟩⟩) rfl rfl), ?_⟩
    refine ⟨q_ins (m := 2) (kj := 24) Do.keep dT_apart rfl rfl rfl rfl rfl rfl rfl Try.underlying53 Try.ints56 rfl (fun L e w hL hi => sent_K w), ?_⟩
    refine ⟨q_key Do.keep dT_apart rfl rfl rfl rfl (fun e w => r_build (cs := [.int .i64 4, .int .i64 10]) Try.lay56 (List.forall_mem_cons.2 ⟨rfl, List.forall_mem_cons.2 ⟨rfl, fun _ h => by cases h⟩⟩) rfl rfl), ?_⟩
    refine ⟨q_ins (m := 2) (kj := 26) Do.keep dT_apart rfl rfl rfl rfl rfl rfl rfl Try.underlying53 Try.ints56 rfl (fun L e w hL hi => done_K w), ?_⟩
    refine ⟨q_key Do.keep dT_apart rfl rfl rfl rfl (fun e w => r_build (cs := [.int .i64 4, .int .i64 5]) Try.lay56 (List.forall_mem_cons.2 ⟨rfl, List.forall_mem_cons.2 ⟨rfl, fun _ h => by cases h⟩⟩) rfl rfl), ?_⟩
    refine ⟨q_call Do.keep dT_apart rfl rfl rfl rfl (fun L e w hL hi => ⟨_, _, r_call Try.func23 Try.nm23 rfl, given_do 5 w⟩), ?_⟩
    refine ⟨q_ins (m := 2) (kj := 28) Do.keep dT_apart rfl rfl rfl rfl rfl rfl rfl Try.underlying53 Try.ints56 rfl (fun L e w hL hi => hL.fn (j := 29) dT_apart rfl hi rfl), ?_⟩
    refine ⟨q_key Do.keep dT_apart rfl rfl rfl rfl (fun e w => r_build (cs := [.int .i64 4, .int .i64 11]) Try.lay56 (List.forall_mem_cons.2 ⟨rfl, List.forall_mem_cons.2 ⟨rfl, fun _ h => by cases h⟩⟩) rfl rfl), ?_⟩
    refine ⟨q_ins (m := 2) (kj := 31) Do.keep dT_apart rfl rfl rfl rfl rfl rfl rfl Try.underlying53 Try.ints56 rfl (fun L e w hL hi => again_K w), ?_⟩
    refine ⟨q_key Do.keep dT_apart rfl rfl rfl rfl (fun e w => r_build (cs := [.int .i64 4, .int .i64 12]) Try.lay56 (List.forall_mem_cons.2 ⟨rfl, List.forall_mem_cons.2 ⟨rfl, fun _ h => by cases h⟩⟩) rfl rfl), ?_⟩
    refine ⟨q_ins (m := 2) (kj := 33) Do.keep dT_apart rfl rfl rfl rfl rfl rfl rfl Try.underlying53 Try.ints56 rfl (fun L e w hL hi => again_K w), ?_⟩
    refine ⟨q_key Do.keep dT_apart rfl rfl rfl rfl (fun e w => r_build (cs := [.int .i64 5, .int .i64 8]) Try.lay56 (List.forall_mem_cons.2 ⟨rfl, List.forall_mem_cons.2 ⟨rfl, fun _ h => by cases h⟩⟩) rfl rfl), ?_⟩
    refine ⟨q_call Do.keep dT_apart rfl rfl rfl rfl (fun L e w hL hi => ⟨_, _, r_call Try.func22 Try.nm22 rfl, to_do 1 w⟩), ?_⟩
    refine ⟨q_call Do.keep dT_apart rfl rfl rfl rfl (fun L e w hL hi => ⟨_, _, r_call Try.func26 Try.nm26 rfl, tick_do _ (.to 1) (.tickTo 1) (fun _ _ _ => rfl) w (hL.fn (j := 36) dT_apart rfl hi rfl)⟩), ?_⟩
    refine ⟨q_ins (m := 2) (kj := 35) Do.keep dT_apart rfl rfl rfl rfl rfl rfl rfl Try.underlying53 Try.ints56 rfl (fun L e w hL hi => hL.fn (j := 37) dT_apart rfl hi rfl), ?_⟩
    refine ⟨q_mv (j := 0) (d' := 1) Do.keep dT_apart rfl (Or.inl rfl) rfl rfl rfl rfl (Or.inl rfl) (fun e w r h => r_moveV h), ?_⟩
    refine ⟨q_mv (j := 39) (d' := 26) Do.keep dT_apart rfl (Or.inr rfl) rfl rfl rfl rfl (Or.inr rfl) (fun e w r h => r_assignV h), ?_⟩
    exact trivial
  intro e' w' hmk hX hL
  refine W_ret (finX_ret ?_)
  exact fin1 (h := ⟨_, rfl, hL, hX⟩) (hm := hmk)
end Go.Proofs.Ytfocbkdoolnijaa
