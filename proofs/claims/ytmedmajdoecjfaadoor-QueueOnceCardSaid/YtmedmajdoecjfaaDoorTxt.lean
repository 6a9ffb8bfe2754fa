/-
  The engine: strings as lists of bytes. Generic: no program.
-/
import Derived.Test.YtmedmajdoecjfaaDoorStr
import Derived.Lib.Bytealg
import Derived.Laws.Externs
namespace Go.Eng
set_option linter.unusedVariables false
set_option linter.unusedSimpArgs false
open Go.RowKit

theorem str_size (l : List UInt8) : (str l).size = l.length := rfl
theorem str_of (s : ByteArray) : str s.data.toList = s := rfl
theorem str_append (a b : List UInt8) : str a ++ str b = str (a ++ b) := by
  apply ByteArray.ext
  simp [str]
theorem str_extract (l : List UInt8) (a b : Nat) : (str l).extract a b = str ((l.drop a).take (b - a)) := ByteArray.extract_mk l a b
/-- Ahead of, byte by byte. -/
abbrev bLt (a b : List UInt8) : Prop := Op.bytesLess a b = true
theorem bl_irrefl : ∀ a : List UInt8, ¬ bLt a a
  | [] => by simp [Op.bytesLess]
  | c :: a => by
    have := bl_irrefl a
    simp only [bLt, Bool.not_eq_true] at this
    simp [Op.bytesLess, this]
theorem bl_cons {x y : UInt8} {a b : List UInt8} : bLt (x :: a) (y :: b) ↔ x < y ∨ (x = y ∧ bLt a b) := by simp [bLt, Op.bytesLess]
theorem bl_nil_cons {y : UInt8} {b : List UInt8} : bLt [] (y :: b) := by simp [bLt, Op.bytesLess]
theorem bl_nil {a : List UInt8} : ¬ bLt a [] := by cases a <;> simp [bLt, Op.bytesLess]
theorem bl_trans : ∀ {a b c : List UInt8}, bLt a b → bLt b c → bLt a c
  | _, _, [], _, h => (bl_nil h).elim
  | _, [], _ :: _, h, _ => (bl_nil h).elim
  | [], _ :: _, _ :: _, _, _ => bl_nil_cons
  | x :: a, y :: b, z :: c, h, k => by
    rw [bl_cons] at h k ⊢
    rcases h with h | ⟨rfl, h⟩ <;> rcases k with k | ⟨rfl, k⟩
    · exact Or.inl (UInt8.lt_trans h k)
    · exact Or.inl h
    · exact Or.inl k
    · exact Or.inr ⟨rfl, bl_trans h k⟩
theorem bl_tri : ∀ (a b : List UInt8), bLt a b ∨ a = b ∨ bLt b a
  | [], [] => Or.inr (Or.inl rfl)
  | [], _ :: _ => Or.inl bl_nil_cons
  | _ :: _, [] => Or.inr (Or.inr bl_nil_cons)
  | x :: a, y :: b => by
    rw [bl_cons, bl_cons]
    rcases UInt8.lt_or_lt_of_ne (a := x) (b := y) |> fun h => Classical.em (x = y) |>.imp id h with h | h | h
    · subst h
      rcases bl_tri a b with h | h | h
      · exact Or.inl (Or.inr ⟨rfl, h⟩)
      · exact Or.inr (Or.inl (by rw [h]))
      · exact Or.inr (Or.inr (Or.inr ⟨rfl, h⟩))
    · exact Or.inl (Or.inl h)
    · exact Or.inr (Or.inr (Or.inl h))
theorem bl_asymm {a b : List UInt8} (h : bLt a b) : ¬ bLt b a := fun k => bl_irrefl a (bl_trans h k)
theorem bl_ne {a b : List UInt8} (h : bLt a b) : a ≠ b := by rintro rfl; exact bl_irrefl _ h
section
variable {P : Program} {ρ : Operand → Value} {w : World} {d : Option Tmp} {t : TypeId} {pos : String} {af : Array Edge} {g : Option (Nat × Bool)} {x y z : Operand} {xt yt : TypeId} {a b l : List UInt8}
theorem rt_eql (hx : ρ x = .string (str a)) (hy : ρ y = .string (str b)) : (execOp ρ ⟨d, .binOp .eql xt x y yt, t, pos, af, g⟩).run P w = .ok (.value (.bool (decide (a = b)))) w := by
  rw [rs_eql hx hy]; congr 3; simp [str_eq]
theorem rt_neq (hx : ρ x = .string (str a)) (hy : ρ y = .string (str b)) : (execOp ρ ⟨d, .binOp .neq xt x y yt, t, pos, af, g⟩).run P w = .ok (.value (.bool (decide (a ≠ b)))) w := by
  rw [rs_neq hx hy]; congr 3; simp [str_eq]
theorem rt_lss (hx : ρ x = .string (str a)) (hy : ρ y = .string (str b)) : (execOp ρ ⟨d, .binOp .lss xt x y yt, t, pos, af, g⟩).run P w = .ok (.value (.bool (decide (bLt a b)))) w := by
  rw [rs_lss hx hy, str_list, str_list]
theorem bl_le {a b : List UInt8} : (Op.bytesLess a b || a == b) = decide (¬ bLt b a) := by
  rcases bl_tri a b with h | h | h
  · have h' : Op.bytesLess a b = true := h
    simp [h', bl_asymm h]
  · subst h; simp [bl_irrefl]
  · have h1 : ¬ bLt a b := bl_asymm h
    have h2 : a ≠ b := (bl_ne h).symm
    simp only [bLt, Bool.not_eq_true] at h1
    simp [h1, h2, h]
theorem rt_leq (hx : ρ x = .string (str a)) (hy : ρ y = .string (str b)) : (execOp ρ ⟨d, .binOp .leq xt x y yt, t, pos, af, g⟩).run P w = .ok (.value (.bool (decide (¬ bLt b a)))) w := by
  have := bl_le (a := a) (b := b)
  simp [execOp, hx, hy, eqGuard, binOp, Op.stringOp, str_list, this]
theorem rt_gtr (hx : ρ x = .string (str a)) (hy : ρ y = .string (str b)) : (execOp ρ ⟨d, .binOp .gtr xt x y yt, t, pos, af, g⟩).run P w = .ok (.value (.bool (decide (bLt b a)))) w := by
  have := bl_le (a := a) (b := b)
  have h2 : (!(Op.bytesLess a b || a == b)) = decide (bLt b a) := by rw [this]; simp
  simp only [execOp, hx, hy, eqGuard, binOp, Op.stringOp, str_list]
  simp [h2]
theorem rt_geq (hx : ρ x = .string (str a)) (hy : ρ y = .string (str b)) : (execOp ρ ⟨d, .binOp .geq xt x y yt, t, pos, af, g⟩).run P w = .ok (.value (.bool (decide (¬ bLt a b)))) w := by
  simp [execOp, hx, hy, eqGuard, binOp, Op.stringOp, str_list]
theorem rt_add (hx : ρ x = .string (str a)) (hy : ρ y = .string (str b)) (hl : a.length + b.length ≤ 9223372036854775807) : (execOp ρ ⟨d, .binOp .add xt x y yt, t, pos, af, g⟩).run P w = .ok (.value (.string (str (a ++ b)))) w := by
  have h : ¬ (((str a).size + (str b).size : Nat) : Int) > IntKind.i64.max := by
    rw [str_size, str_size]
    show ¬ _ > (9223372036854775807 : Int)
    omega
  simp only [execOp, hx, hy, eqGuard, binOp, Op.stringOp]
  have hl' : (((str a).size : Nat) : Int) + (((str b).size : Nat) : Int) ≤ 9223372036854775807 := by rw [str_size, str_size]; omega
  simp [h, str_append]
  exact hl'
theorem rt_len {ty : TypeId} (hx : ρ x = .string (str l)) (hu : P.underlying ty = some .string) :
    (execOp ρ ⟨d, .call { callee := .builtin .len, args := #[x], argTypes := #[ty] }, t, pos, af, g⟩).run P w = .ok (.value (.int .i64 l.length)) w := r_len_string hx hu
theorem rt_sliceHi {ty : TypeId} {k : IntKind} {j : Nat} (hx : ρ x = .string (str l)) (hy : ρ y = .int k j) (hu : P.underlying ty = some .string) (hj : j ≤ l.length) :
    (execOp ρ ⟨d, .slice ty x none (some y) none, t, pos, af, g⟩).run P w = .ok (.value (.string (str (l.take j)))) w := by
  have : j ≤ (str l).size := by rw [str_size]; exact hj
  simp [execOp, hx, hy, Instr.sliceAt, Instr.slice, run_underlying hu, Instr.sliceBounds, Instr.sliceBound, asIntOf, this, str_extract]
theorem rt_sliceLo {ty : TypeId} {k : IntKind} {i : Nat} (hx : ρ x = .string (str l)) (hy : ρ y = .int k i) (hu : P.underlying ty = some .string) (hi : i ≤ l.length) :
    (execOp ρ ⟨d, .slice ty x (some y) none none, t, pos, af, g⟩).run P w = .ok (.value (.string (str (l.drop i)))) w := by
  have h1 : i ≤ (str l).size := by rw [str_size]; exact hi
  have h2 : (l.drop i).take ((str l).size - i) = l.drop i := List.take_of_length_le (by rw [str_size]; simp)
  simp [execOp, hx, hy, Instr.sliceAt, Instr.slice, run_underlying hu, Instr.sliceBounds, Instr.sliceBound, asIntOf, h1, str_extract, h2]
theorem rt_sliceLoHi {ty : TypeId} {k k' : IntKind} {i j : Nat} (hx : ρ x = .string (str l)) (hy : ρ y = .int k i) (hz : ρ z = .int k' j) (hu : P.underlying ty = some .string) (hi : i ≤ j) (hj : j ≤ l.length) :
    (execOp ρ ⟨d, .slice ty x (some y) (some z) none, t, pos, af, g⟩).run P w = .ok (.value (.string (str ((l.drop i).take (j - i))))) w := by
  have h1 : j ≤ (str l).size := by rw [str_size]; exact hj
  simp [execOp, hx, hy, hz, Instr.sliceAt, Instr.slice, run_underlying hu, Instr.sliceBounds, Instr.sliceBound, asIntOf, h1, hi, str_extract]
theorem rt_index {ty : TypeId} {k : IntKind} {i : Nat} (hx : ρ x = .string (str l)) (hy : ρ y = .int k i) (hu : P.underlying ty = some .string) (hi : i < l.length) :
    (execOp ρ ⟨d, .index ty x y, t, pos, af, g⟩).run P w = .ok (.value (.int .u8 (l[i].toNat : Nat))) w := by
  have h : (str l)[i]? = some l[i] := by
    show (if h : i < (str l).size then some ((str l)[i]) else none) = _
    rw [dif_pos (by rw [str_size]; exact hi)]
    rfl
  simp [execOp, hx, hy, Instr.index, asIntOf, run_underlying hu, h]
/-- The bytes of a slice, as a string. -/
theorem rt_str {st dt el : TypeId} {A : Option Addr} {c : Nat} {F : Nat → Prop} (hx : ρ x = .slice A l.length c) (hs : P.underlying st = some (.slice el)) (he : P.underlying el = some (.int .u8)) (hd : P.underlying dt = some .string) (hR : Ty.byte.Row w F A l) :
    (execOp ρ ⟨d, .convert st dt x, t, pos, af, g⟩).run P w = .ok (.value (.string (str l))) w := r_str hx hs he hd hR
end
section
variable {P : Program} {n : Nat} {N : Env → World → Prop} {X : Exit → Env → World → Prop} {e : Env} {w : World} {ops : Array Oper} {rest : List Oper} {d : Option Tmp} {t : TypeId} {pos : String} {af : Array Edge}
/-- '[]byte(s)': new bytes. -/
theorem op_bytes {x : Operand} {st dt el : TypeId} {l : List UInt8} (hd : dOk n d = true) (hx : ev e x = .string (str l)) (hs : P.underlying st = some .string) (hu : P.underlying dt = some (.slice el)) (he : P.underlying el = some (.int .u8))
    (h : ∀ w' b c, Ext w w' → w.heap.size = b → b < w'.heap.size → l.length ≤ c → Ty.byte.Row w' (fun g => g = b) (some ⟨b, 0, none⟩) l → WL P n ops N X rest (putO e d (.slice (some ⟨b, 0, none⟩) l.length c)) w') : WL P n ops N X (⟨d, .convert st dt x, t, pos, af, none⟩ :: rest) e w := by
  have hr := run_bytes_of_string (P := P) w st dt el (str l) hs hu he
  have hc : (str l).size ≤ grownCap w (str l).size 0 el := grownCap_ge w _ 0 el
  refine op hd (v := .slice (some ⟨w.heap.size, 0, none⟩) (str l).size (grownCap w (str l).size 0 el)) (w' := w.drew.alloc (.cells (bytesRow (str l) (grownCap w (str l).size 0 el)) el ((bytesRow (str l) (grownCap w (str l).size 0 el)).size, (bytesRow (str l) (grownCap w (str l).size 0 el)).size + 1))) ?_ (h _ _ _ ((Ext.drew (Ext.refl w)).of_alloc _) rfl ?_ hc ?_)
  · simp only [execOp, hx]
    rw [Sem.run_bind, hr]
    rfl
  · show w.heap.size < (w.heap.push _).size
    simp
  · generalize grownCap w (str l).size 0 el = cap at *
    refine Or.inr ⟨w.heap.size, 0, _, el, _, rfl, rfl, heap_alloc_new w.drew _, fun i hi => ⟨[.int .u8 (l[i].toNat : Nat)], ⟨rfl, trivial⟩, fun j hj => ?_⟩⟩
    obtain rfl : j = 0 := by simpa [Ty.byte, Ty.scalar] using hj
    have := bytesRow_at (str l) cap i (by simpa [str] using hi)
    simp only [Ty.byte, Ty.scalar, Nat.zero_add, Nat.mul_one, Nat.add_zero, List.getElem?_cons_zero]
    rw [this]
    rfl
end
section
variable {P : Program} {ρ : Operand → Value} {w : World} {d : Option Tmp} {t : TypeId} {pos : String} {af : Array Edge} {g : Option (Nat × Bool)} {x y : Operand} {l : List UInt8}
/-- Where a byte is: the machine's own. -/
theorem r_indexByteS {f : FuncId} {fn : Func} {c : UInt8} {ts : Array TypeId} (hf : P.funcs[f]? = some fn) (hn : (fn.name == "runtime.NumGoroutine") = false) (hb : fn.body.isNone = true) (h1 : Extern.findNext fn = none) (h2 : Extern.find fn = some Extern.BytealgIndexByte.indexByte)
    (hx : ρ x = .string (str l)) (hy : ρ y = .int .u8 (c.toNat : Nat)) (hfn : ρ (.func f) = .func (.func f) #[] #[]) :
    (execOp ρ ⟨d, .call { callee := .value (.func f), args := #[x, y], argTypes := ts }, t, pos, af, g⟩).run P w = .ok (.value (.int .i64 (Lib.indexByte l c))) w := by
  have hc := run_callFunc_extern (P := P) hf hn hb h1 h2 #[.string (str l), .int .u8 (c.toNat : Nat)] w
  rw [Lib.run_indexByteString] at hc
  have e : ((c.toNat : Nat) : Int).toNat.toUInt8 = c := by simp
  rw [e] at hc
  have : execOp ρ ⟨d, .call { callee := .value (.func f), args := #[x, y], argTypes := ts }, t, pos, af, g⟩ = callFunc f #[.string (str l), .int .u8 (c.toNat : Nat)] := by
    simp [execOp, resolve, hfn, invoke, go_sem, hx, hy]
  rw [this, hc]
  rfl
end
end Go.Eng
