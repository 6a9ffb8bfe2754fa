/-
  The engine: nil checks, interface values and their methods, nil compared. Generic: no program.
-/
import Derived.Test.YtmedmajdoecjfaaDoorInts
namespace Go.Eng
set_option linter.unusedVariables false
set_option linter.unusedSimpArgs false
open Go.RowKit

/-- Which function a method of a type that is no pointer is. -/
def methOf (P : Program) (t : TypeId) (name : String) : Option FuncId :=
  match (P.info? t).bind (fun i => i.methods.find? (·.name == name)) with
  | some m => if m.path.isEmpty then (match m.func with
    | some (f, false) => (match P.underlying t with
      | some (.pointer _) => none
      | some _ => some f
      | none => none)
    | _ => none) else none
  | none => none
theorem methOf_spec {P : Program} {t : TypeId} {name : String} {f : FuncId} (h : methOf P t name = some f) : ∃ i m td, P.info? t = some i ∧ i.methods.find? (·.name == name) = some m ∧ m.path = #[] ∧ m.func = some (f, false) ∧ P.underlying t = some td ∧ ∀ e, td ≠ .pointer e := by
  unfold methOf at h
  cases hi : P.info? t with
  | none => simp [hi] at h
  | some i =>
    cases hm : i.methods.find? (·.name == name) with
    | none => simp [hi, hm] at h
    | some m =>
      simp only [hi, hm, Option.bind_some] at h
      split at h
      rotate_left
      · cases h
      rename_i hp
      cases hf : m.func with
      | none => simp [hf] at h
      | some q =>
        obtain ⟨f', b⟩ := q
        cases b
        rotate_left
        · simp [hf] at h
        cases hu : P.underlying t with
        | none => simp [hf, hu] at h
        | some td =>
          refine ⟨i, m, td, rfl, hm, by simpa using hp, ?_, rfl, ?_⟩
          · cases td <;> simp_all
          · intro e he; subst he; simp [hf, hu] at h
section
variable {P : Program} {ρ : Operand → Value} {w : World} {d : Option Tmp} {t : TypeId} {pos : String} {af : Array Edge} {g : Option (Nat × Bool)} {x y : Operand} {xt yt el : TypeId}
theorem r_nilCheck {a : Addr} (hx : ρ x = .pointer (some a)) : (execOp ρ ⟨d, .nilCheck x, t, pos, af, g⟩).run P w = .ok (.value (.pointer (some a))) w := by simp [execOp, hx]
theorem r_makeIface {v : Value} {td : TypeDesc} (hx : ρ x = v) (hu : P.underlying xt = some td) (hn : (match td with | .interface _ => false | _ => true) = true) : (execOp ρ ⟨d, .makeInterface xt x, t, pos, af, g⟩).run P w = .ok (.value (.iface xt v)) w := by
  cases td <;> simp_all [execOp, Instr.makeInterface, run_underlying hu]
theorem rp_eql {a : Addr} (hx : ρ x = .pointer (some a)) (hy : ρ y = .pointer none) (hu : P.underlying xt = some (.pointer el)) : (execOp ρ ⟨d, .binOp .eql xt x y yt, t, pos, af, g⟩).run P w = .ok (.value (.bool (decide False))) w := by
  have h : ∀ n, (Op.equalIn (n + 1) xt (.pointer (some a)) (.pointer none)).run P w = .ok false w := fun n => by simp only [Op.equalIn, Sem.run_bind, run_underlying hu, Result.andThen_ok]; rfl
  have h' : (Op.equal xt (.pointer (some a)) (.pointer none)).run P w = .ok false w := h 9999
  simp [execOp, hx, hy, eqGuard, binOp, h']
theorem rp_neq {a : Addr} (hx : ρ x = .pointer (some a)) (hy : ρ y = .pointer none) (hu : P.underlying xt = some (.pointer el)) : (execOp ρ ⟨d, .binOp .neq xt x y yt, t, pos, af, g⟩).run P w = .ok (.value (.bool (decide True))) w := by
  have h : ∀ n, (Op.equalIn (n + 1) xt (.pointer (some a)) (.pointer none)).run P w = .ok false w := fun n => by simp only [Op.equalIn, Sem.run_bind, run_underlying hu, Result.andThen_ok]; rfl
  have h' : (Op.equal xt (.pointer (some a)) (.pointer none)).run P w = .ok false w := h 9999
  simp [execOp, hx, hy, eqGuard, binOp, h']
theorem rpn_eql (hx : ρ x = .pointer none) (hy : ρ y = .pointer none) (hu : P.underlying xt = some (.pointer el)) : (execOp ρ ⟨d, .binOp .eql xt x y yt, t, pos, af, g⟩).run P w = .ok (.value (.bool (decide True))) w := by
  have h : ∀ n, (Op.equalIn (n + 1) xt (.pointer none) (.pointer none)).run P w = .ok true w := fun n => by simp only [Op.equalIn, Sem.run_bind, run_underlying hu, Result.andThen_ok]; rfl
  have h' : (Op.equal xt (.pointer none) (.pointer none)).run P w = .ok true w := h 9999
  simp [execOp, hx, hy, eqGuard, binOp, h']
/-- A slice and nil. -/
theorem rl_eql {A : Option Addr} {n c : Nat} (hx : ρ x = .slice A n c) (hy : ρ y = .slice none 0 0) (hu : P.underlying xt = some (.slice el)) : (execOp ρ ⟨d, .binOp .eql xt x y yt, t, pos, af, g⟩).run P w = .ok (.value (.bool (decide (A = none)))) w := by
  have h : ∀ q, (Op.equalIn (q + 1) xt (.slice A n c) (.slice none 0 0)).run P w = .ok (decide (A = none)) w := fun q => by
    cases A with
    | none => simp only [Op.equalIn, Sem.run_bind, run_underlying hu, Result.andThen_ok]; rfl
    | some a => simp only [Op.equalIn, Sem.run_bind, run_underlying hu, Result.andThen_ok]; rfl
  have h' : (Op.equal xt (.slice A n c) (.slice none 0 0)).run P w = .ok (decide (A = none)) w := h 9999
  simp [execOp, hx, hy, eqGuard, binOp, h']
theorem fuel_succ (n : Nat) : ∃ k, n + Made.depth = k + 1 := ⟨n + 99, by unfold Made.depth; omega⟩
theorem run_program : (program).run P w = .ok P w := by simp [program, Sem.run]
theorem run_typeInfo {i : TypeInfo} (h : P.info? t = some i) : (typeInfo t).run P w = .ok i w := by
  unfold typeInfo
  rw [Sem.run_bind, run_program, Result.andThen_ok]
  simp [h]
theorem run_follow_nil {v : Value} : (follow [] t (Place.val v)).run P w = .ok (t, Place.val v) w := by simp [follow]
theorem run_followB_nil {v : Option Value} : (followBlind [] t v).run P w = .ok (.ok (t, v)) w := by simp [followBlind]
theorem run_method {v : Value} {name : String} {f : FuncId} (hm : methOf P t name = some f) (k : Nat) : (method (k + 1) t v name).run P w = .ok (f, v) w := by
  obtain ⟨i, m, td, h1, h2, h3, h4, h5, h6⟩ := methOf_spec hm
  have h2' : i.methods.find? (fun x => x.name == name) = some m := h2
  have hra : ∀ wr, (receiverAt t (Place.val v) false wr).run P w = .ok v w := fun wr => by
    unfold receiverAt
    rw [Sem.run_bind, run_underlying h5, Result.andThen_ok]
    cases td <;> first | rfl | exact absurd rfl (h6 _)
  unfold method
  rw [Sem.run_bind, run_typeInfo h1, Result.andThen_ok]
  simp only [h2', h3, h4, Array.toList_empty]
  rw [Sem.run_bind, run_follow_nil, Result.andThen_ok]
  simp only [Sem.run_bind, hra, Result.andThen_ok, Sem.run_pure]
theorem run_nilAhead {v : Value} {name : String} {f : FuncId} (hm : methOf P t name = some f) (k : Nat) : (nilAhead (k + 1) t v name).run P w = .ok (some false) w := by
  obtain ⟨i, m, td, h1, h2, h3, h4, h5, h6⟩ := methOf_spec hm
  have h2' : i.methods.find? (fun x => x.name == name) = some m := h2
  unfold nilAhead
  rw [Sem.run_bind, run_typeInfo h1, Result.andThen_ok]
  simp only [h2', h3, h4, Array.toList_empty]
  rw [Sem.run_bind, run_followB_nil, Result.andThen_ok]
  simp only [Sem.run_bind, run_underlying h5, Result.andThen_ok]
  cases td <;> first | rfl | exact absurd rfl (h6 _)
theorem r_invoke {v : Value} {name : String} {f : FuncId} {fn : Func} {xs : List Operand} {ts : Array TypeId} {xt : TypeId} (hx : ρ x = .iface xt v) (hm : methOf P xt name = some f) (hf : P.funcs[f]? = some fn) (hn : (fn.name == "runtime.NumGoroutine") = false) (hb : fn.body.isNone = false) :
    (execOp ρ ⟨d, .call { callee := .invoke x name, args := xs.toArray, argTypes := ts }, t, pos, af, g⟩).run P w = .ok (.enter f (v :: xs.map ρ).toArray) w := by
  have hn' : ¬ fn.name = "runtime.NumGoroutine" := by simpa using hn
  have hb' : ¬ fn.body = none := by intro h; rw [h] at hb; simp at hb
  have hk : ∀ k, (method (k + 1) xt v name).run P w = .ok (f, v) w := fun k => run_method hm k
  obtain ⟨k, hk2⟩ := fuel_succ P.types.size
  have hcf : (callFunc f (#[v] ++ xs.toArray.map ρ)).run P w = .ok (.enter f (v :: xs.map ρ).toArray) w := by
    simp [callFunc, program, Sem.run, hf, hn', hb']
  have hcm : (callMethod (.iface xt v) name (xs.toArray.map ρ)).run P w = .ok (.enter f (v :: xs.map ρ).toArray) w := by
    unfold callMethod
    simp only [Sem.run_bind, run_program, Result.andThen_ok, hk2, hk k]
    exact hcf
  have hinv : (invoke (.fn (.method name) #[]) (#[Value.iface xt v] ++ xs.toArray.map ρ)).run P w = .ok (.enter f (v :: xs.map ρ).toArray) w := by
    unfold invoke
    have e : (#[Value.iface xt v] ++ xs.toArray.map ρ).extract 1 (#[Value.iface xt v] ++ xs.toArray.map ρ).size = xs.toArray.map ρ := by
      apply Array.toList_inj.1
      simp
      exact List.take_of_length_le (by simp)
    simp only [show (#[Value.iface xt v] ++ xs.toArray.map ρ)[0]? = some (Value.iface xt v) by simp, e]
    exact hcm
  show ((do let d ← resolve ρ { callee := .invoke x name, args := xs.toArray, argTypes := ts } t; invoke d.target d.args) : Sem Next).run P w = _
  simp only [resolve, Sem.run_bind, Sem.run_pure, Result.andThen_ok, hx]
  exact hinv
theorem r_nilCheckM {v : Value} {name : String} {f : FuncId} {xt : TypeId} (hx : ρ x = .func (.method name) #[.iface xt v] #[]) (hm : methOf P xt name = some f) :
    (execOp ρ ⟨d, .nilCheck x, t, pos, af, g⟩).run P w = .ok (.value (.func (.method name) #[.iface xt v] #[])) w := by
  obtain ⟨k, hk2⟩ := fuel_succ P.types.size
  have hna := run_nilAhead (w := w) (v := v) hm k
  simp only [execOp, hx, show (#[Value.iface xt v] : Array Value)[0]? = some (Value.iface xt v) from rfl, Sem.run_bind, run_program, Result.andThen_ok, hk2, hna]
  simp
end
theorem W_drawA {P : Program} {n : Nat} {N : Env → World → Prop} {X : Exit → Env → World → Prop} {e : Env} {w : World} {id : Nat} {l : List Oper} {k : Nat} (hm : P.follows .mixedOrders = true) (hk : l.toArray.size = k)
    (h : ∀ w', Ext w w' → WA P n l.toArray N X anyW k (Array.replicate k false) e w') : W P n (.region id l.toArray true) N X e w :=
  W_draw anyW hm hk (h _ (ext_drawn w))
/-- What is guarded by one that was passed over is passed over too. -/
theorem opG_none {P : Program} {n : Nat} {N : Env → World → Prop} {X : Exit → Env → World → Prop} {e : Env} {w : World} {ops : Array Oper} {rest : List Oper} {d : Option Tmp} {x : Op} {t : TypeId} {pos : String} {af : Array Edge} {j : Nat} {want : Bool} {dj : Tmp}
    (hj : (ops[j]?).bind (·.dst) = some dj) (hjn : Nat.blt dj n = true) (hb : e dj = undef) (hd : dOk n d = true)
    (h : WL P n ops N X rest (putO e d undef) w) : WL P n ops N X (⟨d, x, t, pos, af, some (j, want)⟩ :: rest) e w := by
  intro ro a ha
  have hlt : dj < a.tmps.size := by rw [ha.size]; simpa [Nat.blt_eq] using hjn
  have hy : yielded ops a.tmps j = none := by
    unfold yielded
    have hg := ha.at (d := dj) (by simpa [Nat.blt_eq] using hjn)
    simp [hlt, hb] at hg
    simp [hj, hlt, hg, undef]
  refine wpListIn_step fun K hK => ?_
  have hwt : Region.wanted ⟨d, x, t, pos, af, some (j, want)⟩ (yielded ops a.tmps) = false := by
    simp only [Region.wanted, hy]
    rfl
  rw [hwt]
  simp only [Bool.false_eq_true, if_false]
  exact ⟨fun _ _ => trivial, hK _ _ (h _ _ (ha.put hd undef))⟩
section
variable {P : Program} {n : Nat} {N : Env → World → Prop} {X : Exit → Env → World → Prop} {S : World → Prop} {e : Env} {w : World} {ops : Array Oper} {fuel : Nat} {listed : Array Bool}
variable {i : Nat} {d : Option Tmp} {x : Op} {t : TypeId} {pos : String} {af : Array Edge} {j : Nat} {want : Bool} {dj : Tmp} {b : Bool} {p : Prop} {dp : Decidable p}
theorem A_trueG (hi : ops[i]? = some ⟨d, x, t, pos, af, some (j, want)⟩) (hs : Region.noSelect ops = true) (hf : Region.free .any ops listed i = true) (hr : (Region.ready .any ops listed).contains i = true)
    (hd : dOk n d = true) (hS : S w) (hj : (ops[j]?).bind (·.dst) = some dj) (hjn : Nat.blt dj n = true) (hb : e dj = .bool b) (he : (b == want) = true) (hy : ∀ w', S w' → (execOp (ev e) ⟨d, x, t, pos, af, some (j, want)⟩).run P w' = .ok (.value (.bool (@decide p dp))) w') (hp : p)
    (h1 : WA P n ops N X S fuel (listed.setIfInBounds i true) (putO e d (.bool true)) w) : WA P n ops N X S (fuel + 1) listed e w :=
  A_takeG hi hs hf hr hd hS hj hjn hb he hy (by simpa [hp] using h1)
theorem A_falseG (hi : ops[i]? = some ⟨d, x, t, pos, af, some (j, want)⟩) (hs : Region.noSelect ops = true) (hf : Region.free .any ops listed i = true) (hr : (Region.ready .any ops listed).contains i = true)
    (hd : dOk n d = true) (hS : S w) (hj : (ops[j]?).bind (·.dst) = some dj) (hjn : Nat.blt dj n = true) (hb : e dj = .bool b) (he : (b == want) = true) (hy : ∀ w', S w' → (execOp (ev e) ⟨d, x, t, pos, af, some (j, want)⟩).run P w' = .ok (.value (.bool (@decide p dp))) w') (hp : ¬ p)
    (h1 : WA P n ops N X S fuel (listed.setIfInBounds i true) (putO e d (.bool false)) w) : WA P n ops N X S (fuel + 1) listed e w :=
  A_takeG hi hs hf hr hd hS hj hjn hb he hy (by simpa [hp] using h1)
theorem A_splitG (hi : ops[i]? = some ⟨d, x, t, pos, af, some (j, want)⟩) (hs : Region.noSelect ops = true) (hf : Region.free .any ops listed i = true) (hr : (Region.ready .any ops listed).contains i = true)
    (hd : dOk n d = true) (hS : S w) (hj : (ops[j]?).bind (·.dst) = some dj) (hjn : Nat.blt dj n = true) (hb : e dj = .bool b) (he : (b == want) = true) (hy : ∀ w', S w' → (execOp (ev e) ⟨d, x, t, pos, af, some (j, want)⟩).run P w' = .ok (.value (.bool (@decide p dp))) w')
    (h1 : p → WA P n ops N X S fuel (listed.setIfInBounds i true) (putO e d (.bool true)) w) (h2 : ¬ p → WA P n ops N X S fuel (listed.setIfInBounds i true) (putO e d (.bool false)) w) : WA P n ops N X S (fuel + 1) listed e w := by
  by_cases hp : p
  · exact A_trueG hi hs hf hr hd hS hj hjn hb he hy hp (h1 hp)
  · exact A_falseG hi hs hf hr hd hS hj hjn hb he hy hp (h2 hp)
/-- Guarded by one that was passed over. -/
theorem A_skipN (hi : ops[i]? = some ⟨d, x, t, pos, af, some (j, want)⟩) (hs : Region.noSelect ops = true) (hf : Region.free .any ops listed i = true) (hr : (Region.ready .any ops listed).contains i = true)
    (hd : dOk n d = true) (hS : S w) (hj : (ops[j]?).bind (·.dst) = some dj) (hjn : Nat.blt dj n = true) (hb : e dj = undef)
    (h : WA P n ops N X S fuel (listed.setIfInBounds i true) (putO e d undef) w) : WA P n ops N X S (fuel + 1) listed e w := by
  intro ro a ha
  refine wpAnyHI_take hi hs hf hr lift_panic (Or.inr ⟨?_, rfl⟩) hS (h _ _ (ha.put hd undef))
  have hlt : dj < a.tmps.size := by rw [ha.size]; simpa [Nat.blt_eq] using hjn
  have hy : yielded ops a.tmps j = none := by
    unfold yielded
    have hg := ha.at (d := dj) (by simpa [Nat.blt_eq] using hjn)
    simp [hlt, hb] at hg
    simp [hj, hlt, hg, undef]
  simp only [Region.wanted, hy]
  rfl
end
/-- A struct of three cells, its first field a struct of one. -/
theorem r_build3 {P : Program} {ρ : Operand → Value} {w : World} {d : Option Tmp} {t : TypeId} {pos : String} {af : Array Edge} {g : Option (Nat × Bool)} {x y z : Operand} {s : Nat} {zc : List Value} {offs : List Nat} {a b c : Value} (hl : layOf P s = some (zc, offs)) (hx : ρ x = .agg #[a]) (hy : ρ y = b) (hz : ρ z = c) (ha : a.oneCell' = true) (hb : b.oneCell' = true) (hc : c.oneCell' = true)
    (h2 : ([0, 1, 2].all fun i => ((offs[i]?).map fun o => Nat.blt o zc.length).getD false) = true) (h3 : setL zc [((offs[0]?).getD 0, a), ((offs[1]?).getD 0, b), ((offs[2]?).getD 0, c)] = [a, b, c]) :
    (execOp ρ ⟨d, .build s #[(0, x), (1, y), (2, z)], t, pos, af, g⟩).run P w = .ok (.value (.agg #[a, b, c])) w := by
  let ρ' : Operand → Value := fun o => match o with
    | .tmp 0 => a
    | .tmp 1 => b
    | _ => c
  have h := r_build (P := P) (ρ := ρ') (w := w) (d := d) (t := t) (pos := pos) (af := af) (g := g) (parts := [(0, .tmp 0), (1, .tmp 1), (2, .tmp 2)]) (s := s) (cs := [a, b, c]) hl (by
    intro q hq
    simp only [List.mem_cons, List.not_mem_nil, or_false] at hq
    rcases hq with rfl | rfl | rfl
    · exact ha
    · exact hb
    · exact hc) (by simpa using h2) h3
  have e : Instr.build s (#[(0, x), (1, y), (2, z)].map fun (q : Nat × Operand) => (q.1, ρ q.2)) = Instr.build s (([(0, .tmp 0), (1, .tmp 1), (2, .tmp 2)] : List (Nat × Operand)).toArray.map fun (q : Nat × Operand) => (q.1, ρ' q.2)) := by
    have e1 : (#[(0, x), (1, y), (2, z)].map fun (q : Nat × Operand) => (q.1, ρ q.2)) = #[(0, .agg #[a]), (1, b), (2, c)] := by simp [hx, hy, hz]
    have e2 : (([(0, .tmp 0), (1, .tmp 1), (2, .tmp 2)] : List (Nat × Operand)).toArray.map fun (q : Nat × Operand) => (q.1, ρ' q.2)) = #[(0, a), (1, b), (2, c)] := by simp [ρ']
    rw [e1, e2]
    have ac : a.cells = (Value.agg #[a]).cells := by rw [one_cells ha]; rfl
    unfold Instr.build
    simp only [Instr.fill, ← ac]
  have h' : (execOp ρ ⟨d, .build s #[(0, x), (1, y), (2, z)], t, pos, af, g⟩) = (execOp ρ' ⟨d, .build s ([(0, .tmp 0), (1, .tmp 1), (2, .tmp 2)] : List (Nat × Operand)).toArray, t, pos, af, g⟩) := by
    show (do pure (Next.value (← Instr.build s (#[(0, x), (1, y), (2, z)].map fun (q : Nat × Operand) => (q.1, ρ q.2)))) : Sem Next) = (do pure (Next.value (← Instr.build s (([(0, .tmp 0), (1, .tmp 1), (2, .tmp 2)] : List (Nat × Operand)).toArray.map fun (q : Nat × Operand) => (q.1, ρ' q.2)))) : Sem Next)
    rw [e]
  rw [h']
  exact h
end Go.Eng
