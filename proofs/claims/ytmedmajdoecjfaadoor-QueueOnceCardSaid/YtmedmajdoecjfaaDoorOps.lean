/-
  The engine: what single operations come to. Generic: no program.
-/
import Derived.Test.YtmedmajdoecjfaaDoorEng
namespace Go.Eng
set_option linter.unusedVariables false
set_option linter.unusedSimpArgs false
variable {P : Program} {ρ : Operand → Value} {w : World} {d : Option Tmp} {t : TypeId} {pos : String} {af : Array Edge} {g : Option (Nat × Bool)}

theorem r_move {x : Operand} : (execOp ρ ⟨d, .move x, t, pos, af, g⟩).run P w = .ok (.value (ρ x)) w := rfl
theorem r_assign {x : Operand} : (execOp ρ ⟨d, .assign x, t, pos, af, g⟩).run P w = .ok (.value (ρ x)) w := rfl
theorem r_moveV {x : Operand} {v : Value} (hx : ρ x = v) : (execOp ρ ⟨d, .move x, t, pos, af, g⟩).run P w = .ok (.value v) w := hx ▸ rfl
theorem r_assignV {x : Operand} {v : Value} (hx : ρ x = v) : (execOp ρ ⟨d, .assign x, t, pos, af, g⟩).run P w = .ok (.value v) w := hx ▸ rfl
theorem r_pick {c x y : Operand} {b : Bool} (hc : ρ c = .bool b) : (execOp ρ ⟨d, .pick c x y, t, pos, af, g⟩).run P w = .ok (.value (if b then ρ x else ρ y)) w := by
  simp [execOp, hc, asBool]
theorem r_pickT {c x y : Operand} (hc : ρ c = .bool true) : (execOp ρ ⟨d, .pick c x y, t, pos, af, g⟩).run P w = .ok (.value (ρ x)) w := by
  simp [execOp, hc, asBool]
theorem r_pickF {c x y : Operand} (hc : ρ c = .bool false) : (execOp ρ ⟨d, .pick c x y, t, pos, af, g⟩).run P w = .ok (.value (ρ y)) w := by
  simp [execOp, hc, asBool]

theorem r_pickTV {c x y : Operand} {v : Value} (hc : ρ c = .bool true) (hx : ρ x = v) : (execOp ρ ⟨d, .pick c x y, t, pos, af, g⟩).run P w = .ok (.value v) w := by rw [r_pickT hc, hx]
theorem r_pickFV {c x y : Operand} {v : Value} (hc : ρ c = .bool false) (hx : ρ y = v) : (execOp ρ ⟨d, .pick c x y, t, pos, af, g⟩).run P w = .ok (.value v) w := by rw [r_pickF hc, hx]

/-! whole numbers -/
section ints
variable {x y : Operand} {k : IntKind} {m n : Int} {xt yt : TypeId}
theorem r_add (hx : ρ x = .int k m) (hy : ρ y = .int k n) : (execOp ρ ⟨d, .binOp .add xt x y yt, t, pos, af, g⟩).run P w = .ok (.value (.int k (k.wrap (m + n)))) w := by
  simp [execOp, hx, hy, eqGuard, binOp, Op.intArith]
theorem r_sub (hx : ρ x = .int k m) (hy : ρ y = .int k n) : (execOp ρ ⟨d, .binOp .sub xt x y yt, t, pos, af, g⟩).run P w = .ok (.value (.int k (k.wrap (m - n)))) w := by
  simp [execOp, hx, hy, eqGuard, binOp, Op.intArith]
theorem r_mul (hx : ρ x = .int k m) (hy : ρ y = .int k n) : (execOp ρ ⟨d, .binOp .mul xt x y yt, t, pos, af, g⟩).run P w = .ok (.value (.int k (k.wrap (m * n)))) w := by
  simp [execOp, hx, hy, eqGuard, binOp, Op.intArith]
theorem r_add' {r : Int} (hx : ρ x = .int k m) (hy : ρ y = .int k n) (hr : k.wrap (m + n) = r) : (execOp ρ ⟨d, .binOp .add xt x y yt, t, pos, af, g⟩).run P w = .ok (.value (.int k r)) w := hr ▸ r_add hx hy
theorem r_sub' {r : Int} (hx : ρ x = .int k m) (hy : ρ y = .int k n) (hr : k.wrap (m - n) = r) : (execOp ρ ⟨d, .binOp .sub xt x y yt, t, pos, af, g⟩).run P w = .ok (.value (.int k r)) w := hr ▸ r_sub hx hy
theorem r_mul' {r : Int} (hx : ρ x = .int k m) (hy : ρ y = .int k n) (hr : k.wrap (m * n) = r) : (execOp ρ ⟨d, .binOp .mul xt x y yt, t, pos, af, g⟩).run P w = .ok (.value (.int k r)) w := hr ▸ r_mul hx hy
theorem r_quo (hx : ρ x = .int k m) (hy : ρ y = .int k n) (hn : n ≠ 0) : (execOp ρ ⟨d, .binOp .quo xt x y yt, t, pos, af, g⟩).run P w = .ok (.value (.int k (k.wrap (m.tdiv n)))) w := by
  simp [execOp, hx, hy, eqGuard, binOp, Op.intDiv, hn]
theorem r_rem (hx : ρ x = .int k m) (hy : ρ y = .int k n) (hn : n ≠ 0) : (execOp ρ ⟨d, .binOp .rem xt x y yt, t, pos, af, g⟩).run P w = .ok (.value (.int k (m.tmod n))) w := by
  simp [execOp, hx, hy, eqGuard, binOp, Op.intDiv, hn]
theorem r_and (hx : ρ x = .int k m) (hy : ρ y = .int k n) : (execOp ρ ⟨d, .binOp .and xt x y yt, t, pos, af, g⟩).run P w = .ok (.value (.int k (bits .and k m n))) w := by
  simp [execOp, hx, hy, eqGuard, binOp, Op.intBits, bits]
theorem r_or (hx : ρ x = .int k m) (hy : ρ y = .int k n) : (execOp ρ ⟨d, .binOp .or xt x y yt, t, pos, af, g⟩).run P w = .ok (.value (.int k (bits .or k m n))) w := by
  simp [execOp, hx, hy, eqGuard, binOp, Op.intBits, bits]
theorem r_xor (hx : ρ x = .int k m) (hy : ρ y = .int k n) : (execOp ρ ⟨d, .binOp .xor xt x y yt, t, pos, af, g⟩).run P w = .ok (.value (.int k (bits .xor k m n))) w := by
  simp [execOp, hx, hy, eqGuard, binOp, Op.intBits, bits]
theorem r_shl {ky : IntKind} (hx : ρ x = .int k m) (hy : ρ y = .int ky n) (hn : 0 ≤ n) : (execOp ρ ⟨d, .binOp .shl xt x y yt, t, pos, af, g⟩).run P w = .ok (.value (.int k (k.wrap (m * 2 ^ (min n.toNat k.bits))))) w := by
  have : ¬ n < 0 := by omega
  simp [execOp, hx, hy, eqGuard, binOp, Op.shift, this]
theorem r_shr {ky : IntKind} (hx : ρ x = .int k m) (hy : ρ y = .int ky n) (hn : 0 ≤ n) : (execOp ρ ⟨d, .binOp .shr xt x y yt, t, pos, af, g⟩).run P w = .ok (.value (.int k (m.fdiv (2 ^ (min n.toNat k.bits))))) w := by
  have : ¬ n < 0 := by omega
  simp [execOp, hx, hy, eqGuard, binOp, Op.shift, this]
theorem r_eql (hx : ρ x = .int k m) (hy : ρ y = .int k n) : (execOp ρ ⟨d, .binOp .eql xt x y yt, t, pos, af, g⟩).run P w = .ok (.value (.bool (decide (m = n)))) w := by
  have : (m == n) = decide (m = n) := by by_cases h : m = n <;> simp [h]
  simp [execOp, hx, hy, eqGuard, binOp, Op.intCmp, this]
theorem r_neq (hx : ρ x = .int k m) (hy : ρ y = .int k n) : (execOp ρ ⟨d, .binOp .neq xt x y yt, t, pos, af, g⟩).run P w = .ok (.value (.bool (decide (m ≠ n)))) w := by
  have : (m != n) = decide (m ≠ n) := by by_cases h : m = n <;> simp [h]
  simp [execOp, hx, hy, eqGuard, binOp, Op.intCmp, this]
theorem r_lss (hx : ρ x = .int k m) (hy : ρ y = .int k n) : (execOp ρ ⟨d, .binOp .lss xt x y yt, t, pos, af, g⟩).run P w = .ok (.value (.bool (decide (m < n)))) w := by
  simp [execOp, hx, hy, eqGuard, binOp, Op.intCmp]
theorem r_leq (hx : ρ x = .int k m) (hy : ρ y = .int k n) : (execOp ρ ⟨d, .binOp .leq xt x y yt, t, pos, af, g⟩).run P w = .ok (.value (.bool (decide (m ≤ n)))) w := by
  simp [execOp, hx, hy, eqGuard, binOp, Op.intCmp]
theorem r_gtr (hx : ρ x = .int k m) (hy : ρ y = .int k n) : (execOp ρ ⟨d, .binOp .gtr xt x y yt, t, pos, af, g⟩).run P w = .ok (.value (.bool (decide (m > n)))) w := by
  simp [execOp, hx, hy, eqGuard, binOp, Op.intCmp]
theorem r_geq (hx : ρ x = .int k m) (hy : ρ y = .int k n) : (execOp ρ ⟨d, .binOp .geq xt x y yt, t, pos, af, g⟩).run P w = .ok (.value (.bool (decide (m ≥ n)))) w := by
  simp [execOp, hx, hy, eqGuard, binOp, Op.intCmp]
theorem r_conv {st dt : TypeId} {k' : IntKind} {td : TypeDesc} (hx : ρ x = .int k m) (hs : P.underlying st = some td) (hd : P.underlying dt = some (.int k')) : (execOp ρ ⟨d, .convert st dt x, t, pos, af, g⟩).run P w = .ok (.value (.int k' (k'.wrap m))) w := by
  cases td <;> simp [execOp, hx, convert, run_underlying hs, run_underlying hd, Conv.intToInt]
end ints
/-! wraps -/
theorem wrap_i64 {x : Int} (h1 : -9223372036854775808 ≤ x) (h2 : x ≤ 9223372036854775807) : IntKind.wrap .i64 x = x := by
  simp only [IntKind.wrap, IntKind.bits, IntKind.signed]
  simp
  split <;> omega
theorem wrap_u64 {x : Int} (h1 : 0 ≤ x) (h2 : x ≤ 18446744073709551615) : IntKind.wrap .u64 x = x := by
  simp only [IntKind.wrap, IntKind.bits, IntKind.signed]
  simp
  omega
theorem wrap_u32 {x : Int} (h1 : 0 ≤ x) (h2 : x ≤ 4294967295) : IntKind.wrap .u32 x = x := by
  simp only [IntKind.wrap, IntKind.bits, IntKind.signed]
  simp
  omega
theorem wrap_u8 {x : Int} (h1 : 0 ≤ x) (h2 : x ≤ 255) : IntKind.wrap .u8 x = x := by
  simp only [IntKind.wrap, IntKind.bits, IntKind.signed]
  simp
  omega
theorem wrap_u32_mod (x : Int) : IntKind.wrap .u32 x = x % 4294967296 := by simp [IntKind.wrap, IntKind.bits, IntKind.signed]
theorem wrap_u8_mod (x : Int) : IntKind.wrap .u8 x = x % 256 := by simp [IntKind.wrap, IntKind.bits, IntKind.signed]
theorem wrap_u64_mod (x : Int) : IntKind.wrap .u64 x = x % 18446744073709551616 := by simp [IntKind.wrap, IntKind.bits, IntKind.signed]

theorem r_notB {x : Operand} {xt : TypeId} {b : Bool} (hx : ρ x = .bool b) : (execOp ρ ⟨d, .unOp .not xt x, t, pos, af, g⟩).run P w = .ok (.value (.bool (!b))) w := by
  simp [execOp, hx, Op.unary]
theorem r_notP {x : Operand} {xt : TypeId} {p : Prop} [Decidable p] (hx : ρ x = .bool (decide p)) : (execOp ρ ⟨d, .unOp .not xt x, t, pos, af, g⟩).run P w = .ok (.value (.bool (decide (¬ p)))) w := by
  rw [r_notB hx]; by_cases h : p <;> simp [h]
theorem r_neg {x : Operand} {xt : TypeId} {k : IntKind} {m : Int} (hx : ρ x = .int k m) : (execOp ρ ⟨d, .unOp .neg xt x, t, pos, af, g⟩).run P w = .ok (.value (.int k (k.wrap (0 - m)))) w := by
  simp [execOp, hx, Op.unary, Op.intArith]
theorem r_xor1 {x : Operand} {xt : TypeId} {k : IntKind} {m : Int} (hx : ρ x = .int k m) : (execOp ρ ⟨d, .unOp .xor xt x, t, pos, af, g⟩).run P w = .ok (.value (.int k (bits .xor k (if k.signed then -1 else k.max) m))) w := by
  simp [execOp, hx, Op.unary, Op.intBits, bits]


/-! a call of a function by its name -/
theorem r_call {e : Env} {f : FuncId} {fn : Func} {xs : List Operand} {ts : Array TypeId} (hf : P.funcs[f]? = some fn) (hn : (fn.name == "runtime.NumGoroutine") = false) (hb : fn.body.isNone = false) :
    (execOp (ev e) ⟨d, .call { callee := .value (.func f), args := xs.toArray, argTypes := ts }, t, pos, af, g⟩).run P w =
      .ok (.enter f (List.map (ev e) xs).toArray) w := by
  have : execOp (ev e) ⟨d, .call { callee := .value (.func f), args := xs.toArray, argTypes := ts }, t, pos, af, g⟩ = callFunc f (#[] ++ xs.toArray.map (ev e) ++ #[]) := rfl
  rw [this]
  have hn' : ¬ fn.name = "runtime.NumGoroutine" := by simpa using hn
  have hb' : ¬ fn.body = none := by intro h; rw [h] at hb; simp at hb
  simp [callFunc, program, Sem.run, hf, hn', hb']

theorem r_conv' {x : Operand} {k : IntKind} {m r : Int} {st dt : TypeId} {k' : IntKind} {td : TypeDesc} (hx : ρ x = .int k m) (hs : P.underlying st = some td) (hd : P.underlying dt = some (.int k')) (hr : k'.wrap m = r) :
    (execOp ρ ⟨d, .convert st dt x, t, pos, af, g⟩).run P w = .ok (.value (.int k' r)) w := hr ▸ r_conv hx hs hd
theorem r_extract {x : Operand} {i : Nat} {vs : List Value} {v : Value} (hx : ρ x = .tuple vs.toArray) (hv : vs[i]? = some v) : (execOp ρ ⟨d, .extract x i, t, pos, af, g⟩).run P w = .ok (.value v) w := by
  simp [execOp, Instr.extract, hx, hv]
theorem r_makeFunc {fn : Fn} {first cap : List Operand} : (execOp ρ ⟨d, .makeFunc fn first.toArray cap.toArray, t, pos, af, g⟩).run P w = .ok (.value (.func fn (first.map ρ).toArray (cap.map ρ).toArray)) w := by
  simp [execOp, Instr.makeFunc]

section split
variable {n : Nat} {N : Env → World → Prop} {X : Exit → Env → World → Prop} {e : Env} {ops : Array Oper} {rest : List Oper} {x : Op} {w' : World} {p : Prop} {dp : Decidable p}
theorem op_true (hd : dOk n d = true) (hr : (execOp (ev e) ⟨d, x, t, pos, af, none⟩).run P w = .ok (.value (.bool (@decide p dp))) w') (hp : p)
    (h : WL P n ops N X rest (putO e d (.bool true)) w') : WL P n ops N X (⟨d, x, t, pos, af, none⟩ :: rest) e w :=
  op hd hr (by simpa [hp] using h)
theorem op_false (hd : dOk n d = true) (hr : (execOp (ev e) ⟨d, x, t, pos, af, none⟩).run P w = .ok (.value (.bool (@decide p dp))) w') (hp : ¬ p)
    (h : WL P n ops N X rest (putO e d (.bool false)) w') : WL P n ops N X (⟨d, x, t, pos, af, none⟩ :: rest) e w :=
  op hd hr (by simpa [hp] using h)
theorem op_split (hd : dOk n d = true) (hr : (execOp (ev e) ⟨d, x, t, pos, af, none⟩).run P w = .ok (.value (.bool (@decide p dp))) w')
    (h1 : p → WL P n ops N X rest (putO e d (.bool true)) w') (h2 : ¬ p → WL P n ops N X rest (putO e d (.bool false)) w') : WL P n ops N X (⟨d, x, t, pos, af, none⟩ :: rest) e w := by
  by_cases hp : p
  · exact op_true hd hr hp (h1 hp)
  · exact op_false hd hr hp (h2 hp)
theorem op_splitB {b : Bool} (hd : dOk n d = true) (hr : (execOp (ev e) ⟨d, x, t, pos, af, none⟩).run P w = .ok (.value (.bool b)) w')
    (h1 : b = true → WL P n ops N X rest (putO e d (.bool true)) w') (h2 : b = false → WL P n ops N X rest (putO e d (.bool false)) w') : WL P n ops N X (⟨d, x, t, pos, af, none⟩ :: rest) e w := by
  cases b
  · exact op hd hr (h2 rfl)
  · exact op hd hr (h1 rfl)
variable {j : Nat} {want : Bool} {dj : Tmp} {b : Bool}
theorem opG_true (hj : (ops[j]?).bind (·.dst) = some dj) (hjn : Nat.blt dj n = true) (hb : e dj = .bool b) (he : (b == want) = true) (hd : dOk n d = true)
    (hr : (execOp (ev e) ⟨d, x, t, pos, af, some (j, want)⟩).run P w = .ok (.value (.bool (@decide p dp))) w') (hp : p)
    (h : WL P n ops N X rest (putO e d (.bool true)) w') : WL P n ops N X (⟨d, x, t, pos, af, some (j, want)⟩ :: rest) e w :=
  opG_yes hj hjn hb hd he hr (by simpa [hp] using h)
theorem opG_false (hj : (ops[j]?).bind (·.dst) = some dj) (hjn : Nat.blt dj n = true) (hb : e dj = .bool b) (he : (b == want) = true) (hd : dOk n d = true)
    (hr : (execOp (ev e) ⟨d, x, t, pos, af, some (j, want)⟩).run P w = .ok (.value (.bool (@decide p dp))) w') (hp : ¬ p)
    (h : WL P n ops N X rest (putO e d (.bool false)) w') : WL P n ops N X (⟨d, x, t, pos, af, some (j, want)⟩ :: rest) e w :=
  opG_yes hj hjn hb hd he hr (by simpa [hp] using h)
theorem opG_split (hj : (ops[j]?).bind (·.dst) = some dj) (hjn : Nat.blt dj n = true) (hb : e dj = .bool b) (he : (b == want) = true) (hd : dOk n d = true)
    (hr : (execOp (ev e) ⟨d, x, t, pos, af, some (j, want)⟩).run P w = .ok (.value (.bool (@decide p dp))) w')
    (h1 : p → WL P n ops N X rest (putO e d (.bool true)) w') (h2 : ¬ p → WL P n ops N X rest (putO e d (.bool false)) w') : WL P n ops N X (⟨d, x, t, pos, af, some (j, want)⟩ :: rest) e w := by
  by_cases hp : p
  · exact opG_true hj hjn hb he hd hr hp (h1 hp)
  · exact opG_false hj hjn hb he hd hr hp (h2 hp)
theorem opGCv_yes {f : FuncId} {args : Array Value} {w₁ : World} {R : Value → World → Prop}
    (hj : (ops[j]?).bind (·.dst) = some dj) (hjn : Nat.blt dj n = true) (hb : e dj = .bool b) (he : (b == want) = true) (hd : dOk n d = true)
    (hr : (execOp (ev e) ⟨d, x, t, pos, af, some (j, want)⟩).run P w = .ok (.enter f args) w₁)
    (hc : Calls P f args w₁ (fun en w' => ∃ v, en = .returned v ∧ R v w'))
    (h : ∀ v w', R v w' → WL P n ops N X rest (putO e d v) w') : WL P n ops N X (⟨d, x, t, pos, af, some (j, want)⟩ :: rest) e w :=
  opGC_yes hj hjn hb hd he hr hc fun _ w' ⟨v, he, hR⟩ => ⟨v, he, h v w' hR⟩
end split

section more
variable {x y z : Operand} {xt yt : TypeId} {k : IntKind} {m n q r : Int}
theorem r_rem' (hx : ρ x = .int k m) (hy : ρ y = .int k n) (hn : n ≠ 0) (hr : m.tmod n = r) : (execOp ρ ⟨d, .binOp .rem xt x y yt, t, pos, af, g⟩).run P w = .ok (.value (.int k r)) w := hr ▸ r_rem hx hy hn
theorem r_quo' (hx : ρ x = .int k m) (hy : ρ y = .int k n) (hn : n ≠ 0) (hr : k.wrap (m.tdiv n) = r) : (execOp ρ ⟨d, .binOp .quo xt x y yt, t, pos, af, g⟩).run P w = .ok (.value (.int k r)) w := hr ▸ r_quo hx hy hn
theorem run_equal_bool {a b : Bool} (hu : P.underlying xt = some .bool) : (Op.equal xt (.bool a) (.bool b)).run P w = .ok (a == b) w := by
  have h : ∀ n, (Op.equalIn (n + 1) xt (.bool a) (.bool b)).run P w = .ok (a == b) w := fun n => by simp only [Op.equalIn, Sem.run_bind, run_underlying hu, Result.andThen_ok]; rfl
  exact h 9999
theorem rb_eql {a b : Bool} (hx : ρ x = .bool a) (hy : ρ y = .bool b) (hu : P.underlying xt = some .bool) : (execOp ρ ⟨d, .binOp .eql xt x y yt, t, pos, af, g⟩).run P w = .ok (.value (.bool (decide (a = b)))) w := by
  have : (a == b) = decide (a = b) := by cases a <;> cases b <;> rfl
  simp [execOp, hx, hy, eqGuard, binOp, run_equal_bool hu, this]
theorem rb_neq {a b : Bool} (hx : ρ x = .bool a) (hy : ρ y = .bool b) (hu : P.underlying xt = some .bool) : (execOp ρ ⟨d, .binOp .neq xt x y yt, t, pos, af, g⟩).run P w = .ok (.value (.bool (decide (a ≠ b)))) w := by
  have : (!(a == b)) = decide (a ≠ b) := by cases a <;> cases b <;> rfl
  simp [execOp, hx, hy, eqGuard, binOp, run_equal_bool hu]
  cases a <;> cases b <;> rfl
end more

section minmax
variable {x y z : Operand} {ts : Array TypeId} {k : IntKind} {m n q : Int}
theorem ite_min (m n : Int) : (if n < m then n else m) = min m n := by rw [Int.min_def]; split <;> split <;> omega
theorem ite_max (m n : Int) : (if n > m then n else m) = max m n := by rw [Int.max_def]; split <;> split <;> omega
theorem r_min2 (hx : ρ x = .int k m) (hy : ρ y = .int k n) : (execOp ρ ⟨d, .call { callee := .builtin .min, args := #[x, y], argTypes := ts }, t, pos, af, g⟩).run P w = .ok (.value (.int k (min m n))) w := by
  rw [← ite_min]; simp [execOp, resolve, invoke, builtin, Builtin.min_, Builtin.min2, hx, hy]
theorem r_max2 (hx : ρ x = .int k m) (hy : ρ y = .int k n) : (execOp ρ ⟨d, .call { callee := .builtin .max, args := #[x, y], argTypes := ts }, t, pos, af, g⟩).run P w = .ok (.value (.int k (max m n))) w := by
  rw [← ite_max]; simp [execOp, resolve, invoke, builtin, Builtin.max_, Builtin.max2, hx, hy]
theorem r_min3 (hx : ρ x = .int k m) (hy : ρ y = .int k n) (hz : ρ z = .int k q) : (execOp ρ ⟨d, .call { callee := .builtin .min, args := #[x, y, z], argTypes := ts }, t, pos, af, g⟩).run P w = .ok (.value (.int k (min (min m n) q))) w := by
  rw [← ite_min m n, ← ite_min _ q]; simp [execOp, resolve, invoke, builtin, Builtin.min_, Builtin.min2, hx, hy, hz]
theorem r_min3n {a b c : Nat} (hx : ρ x = .int k a) (hy : ρ y = .int k b) (hz : ρ z = .int k c) : (execOp ρ ⟨d, .call { callee := .builtin .min, args := #[x, y, z], argTypes := ts }, t, pos, af, g⟩).run P w = .ok (.value (.int k (min (min a b) c : Nat))) w := by
  rw [r_min3 hx hy hz]; congr 3; omega
end minmax

end Go.Eng
