/-
  The engine: strings, and bytes as one. Generic: no program.
-/
import Derived.Test.YtmedmajdoecjfaaDoorRnd
import Derived.Laws.IdiomStrings
namespace Go.Eng
set_option linter.unusedVariables false
set_option linter.unusedSimpArgs false
open Go.RowKit

def str (l : List UInt8) : ByteArray := ⟨l.toArray⟩
theorem str_list (l : List UInt8) : (str l).toList = l := ByteArray.toList_mk l
theorem str_inj {a b : List UInt8} (h : str a = str b) : a = b := by rw [← str_list a, ← str_list b, h]
theorem str_eq {a b : List UInt8} : str a = str b ↔ a = b := ⟨str_inj, fun h => by rw [h]⟩
theorem bytes_eq {a b : ByteArray} : (a.toList == b.toList) = decide (a = b) := by
  rw [ByteArray.toList_eq, ByteArray.toList_eq]
  by_cases h : a = b
  · subst h; simp
  · have : ¬ a.data = b.data := fun q => h (by cases a; cases b; simp at q; rw [q])
    simp [h, this]
section
variable {P : Program} {ρ : Operand → Value} {w : World} {d : Option Tmp} {t : TypeId} {pos : String} {af : Array Edge} {g : Option (Nat × Bool)} {x y : Operand} {xt yt : TypeId} {a b : ByteArray}
theorem rs_eql (hx : ρ x = .string a) (hy : ρ y = .string b) : (execOp ρ ⟨d, .binOp .eql xt x y yt, t, pos, af, g⟩).run P w = .ok (.value (.bool (decide (a = b)))) w := by
  simp [execOp, hx, hy, eqGuard, binOp, Op.stringOp, bytes_eq]
theorem rs_neq (hx : ρ x = .string a) (hy : ρ y = .string b) : (execOp ρ ⟨d, .binOp .neq xt x y yt, t, pos, af, g⟩).run P w = .ok (.value (.bool (decide (a ≠ b)))) w := by
  have : (a.toList != b.toList) = decide (a ≠ b) := by
    have := bytes_eq (a := a) (b := b)
    simp only [bne, this, decide_not]
  simp [execOp, hx, hy, eqGuard, binOp, Op.stringOp, bytes_eq]
theorem rs_lss (hx : ρ x = .string a) (hy : ρ y = .string b) : (execOp ρ ⟨d, .binOp .lss xt x y yt, t, pos, af, g⟩).run P w = .ok (.value (.bool (decide (Op.bytesLess a.toList b.toList = true)))) w := by
  simp [execOp, hx, hy, eqGuard, binOp, Op.stringOp]
/-- The bytes of a slice, as a string. -/
theorem r_str {st dt el : TypeId} {A : Option Addr} {c : Nat} {F : Nat → Prop} {l : List UInt8} (hx : ρ x = .slice A l.length c) (hs : P.underlying st = some (.slice el)) (he : P.underlying el = some (.int .u8)) (hd : P.underlying dt = some .string) (hR : Ty.byte.Row w F A l) :
    (execOp ρ ⟨d, .convert st dt x, t, pos, af, g⟩).run P w = .ok (.value (.string (str l))) w := by
  have hr : (convert st dt (.slice A l.length c)).run P w = .ok (.string (str l)) w := by
    cases A with
    | none =>
      rcases hR with rfl | ⟨_, _, _, _, _, h, _⟩
      · rw [run_convert_bytes_string w st dt el none _ c hs he hd]
        rfl
      · cases h
    | some ad =>
      by_cases hl : l = []
      · subst hl
        exact run_convert_bytes_back w st dt el ad c [] hs he hd (fun j hj => by simp at hj)
      · refine run_convert_bytes_back w st dt el ad c l hs he hd (fun j hj => ?_)
        obtain ⟨g, off, hA, _, _, hc⟩ := hR.cell hj
        cases hA
        rw [add_at]
        exact hc
  simp [execOp, hx, hr]
end
/-! Numbers. -/
section
variable {P : Program} {ρ : Operand → Value} {w : World} {d : Option Tmp} {t : TypeId} {pos : String} {af : Array Edge} {g : Option (Nat × Bool)} {x y : Operand} {xt yt : TypeId} {k : IntKind} {m n r : Int} {ts : Array TypeId}
theorem r_min' (hx : ρ x = .int k m) (hy : ρ y = .int k n) (hr : min m n = r) : (execOp ρ ⟨d, .call { callee := .builtin .min, args := #[x, y], argTypes := ts }, t, pos, af, g⟩).run P w = .ok (.value (.int k r)) w := hr ▸ r_min2 hx hy
theorem r_max' (hx : ρ x = .int k m) (hy : ρ y = .int k n) (hr : max m n = r) : (execOp ρ ⟨d, .call { callee := .builtin .max, args := #[x, y], argTypes := ts }, t, pos, af, g⟩).run P w = .ok (.value (.int k r)) w := hr ▸ r_max2 hx hy
theorem r_shl' {ky : IntKind} (hx : ρ x = .int k m) (hy : ρ y = .int ky n) (hn : 0 ≤ n) (hr : k.wrap (m * 2 ^ (min n.toNat k.bits)) = r) : (execOp ρ ⟨d, .binOp .shl xt x y yt, t, pos, af, g⟩).run P w = .ok (.value (.int k r)) w := hr ▸ r_shl hx hy hn
theorem wrap8_nat (n : Nat) : IntKind.wrap .u8 (n : Int) = ((UInt8.ofNat n).toNat : Int) := by
  rw [wrap_u8_mod]
  simp
theorem u64_of {n : Int} (h : inK .u64 n) : ∃ N : Nat, n = N ∧ N < 2 ^ 64 := by
  simp only [inK, lo, hi] at h
  exact ⟨n.toNat, by omega, by omega⟩
theorem i64_of {n : Int} (h : inK .i64 n) : -9223372036854775808 ≤ n ∧ n ≤ 9223372036854775807 := by
  simpa only [inK, lo, hi] using h
theorem r_shr64 {n k : Nat} {ky : IntKind} (hx : ρ x = .int .u64 n) (hy : ρ y = .int ky k) (hk : k ≤ 64) : (execOp ρ ⟨d, .binOp .shr xt x y yt, t, pos, af, g⟩).run P w = .ok (.value (.int .u64 (n / 2 ^ k : Nat))) w := by
  rw [r_shr hx hy (Int.natCast_nonneg _)]
  have : min (k : Int).toNat IntKind.u64.bits = k := by
    simp [IntKind.bits]; omega
  rw [this]
  congr 3
  rw [Int.fdiv_eq_ediv_of_nonneg _ (Int.le_of_lt (Int.pow_pos (by decide)))]
  simp
theorem r_shl8 {n : Nat} {ky : IntKind} (hx : ρ x = .int .u64 n) (hy : ρ y = .int ky 8) (hn : n * 256 < 2 ^ 64) : (execOp ρ ⟨d, .binOp .shl xt x y yt, t, pos, af, g⟩).run P w = .ok (.value (.int .u64 (n * 256 : Nat))) w := by
  rw [r_shl hx hy (by decide)]
  have : min (8 : Int).toNat IntKind.u64.bits = 8 := rfl
  rw [this, wrap_u64 (by omega) (by omega)]
  simp
theorem r_or8 {n c : Nat} (hx : ρ x = .int .u64 ((n * 256 : Nat) : Int)) (hy : ρ y = .int .u64 c) (hn : n * 256 < 2 ^ 64) (hc : c < 256) : (execOp ρ ⟨d, .binOp .or xt x y yt, t, pos, af, g⟩).run P w = .ok (.value (.int .u64 (n * 256 + c : Nat))) w := by
  have h1 : (n * 256) = (BitVec.ofNat 64 (n * 256)).toNat := by simp; omega
  have h2 : c = (BitVec.ofNat 64 c).toNat := by simp; omega
  rw [r_or64 (a := BitVec.ofNat 64 (n * 256)) (b := BitVec.ofNat 64 c) (by rw [hx]; congr 2) (by rw [hy]; congr 2)]
  congr 4
  rw [BitVec.toNat_or, ← h1, ← h2]
  have := Nat.shiftLeft_add_eq_or_of_lt (i := 8) (b := c) (by simpa using hc) n
  rw [Nat.shiftLeft_eq] at this
  exact this.symm
end

/-! Bytes of one's own. -/
theorem Own.of_blk {α : Type} {enc : α → Value} {ok : α → Prop} {h1 : ∀ x, (enc x).oneCell' = true} {w : World} {F : Nat → Prop} {B g cap : Nat} {e : TypeId} {c : Array Value} {l : List α}
    (hB : B ≤ g) (hb : Blk w g c e) (hl : l.length ≤ cap) (hc : c.size = cap) (hok : ∀ x ∈ l, ok x) (hv : ∀ i (hi : i < l.length), c[i]? = some (enc l[i])) : Own (Ty.scalar enc ok h1) w F B e (.slice (some ⟨g, 0, none⟩) l.length cap) l := by
  refine Or.inr ⟨g, cap, c, c.toList.take l.length, rfl, hB, hb, hl, by simpa [Ty.scalar] using hc, Cat.of_get ?_ ?_, by simp [Ty.scalar]⟩
  · simp [Ty.scalar]; omega
  · intro i hi
    refine ⟨[enc l[i]], ⟨rfl, hok _ (List.getElem_mem hi)⟩, fun j hj => ?_⟩
    simp only [Ty.scalar] at hj ⊢
    obtain rfl : j = 0 := by omega
    rw [List.getElem?_take, if_pos (by omega)]
    have := hv i hi
    simpa using this
theorem Own.low {α : Type} {T : Ty α} {w : World} {F : Nat → Prop} {B B' : Nat} {e : TypeId} {v : Value} {l : List α} (h : Own T w F B e v l) (hB : B' ≤ B) : Own T w F B' e v l := by
  rcases h with h | ⟨g, cap, c, xs, h0, h1, h2⟩
  · exact Or.inl h
  · exact Or.inr ⟨g, cap, c, xs, h0, Nat.le_trans hB h1, h2⟩
abbrev nobody : Nat → Prop := fun _ => False
/-- Bytes that nobody else has, in a block from B on. -/
abbrev Bs (B : Nat) (e : TypeId) (w : World) (v : Value) (l : List UInt8) : Prop := Own Ty.byte w nobody B e v l
theorem own_fext {α : Type} {T : Ty α} {w w' : World} {B : Nat} {e : TypeId} {v : Value} {l : List α} (h : Own T w nobody B e v l) (he : Ext w w') : Own T w' nobody B e v l := h.ext he (fun _ q => q.elim)
theorem own_frow {α : Type} {T : Ty α} {w : World} {B : Nat} {e : TypeId} {v : Value} {l : List α} (h : Own T w nobody B e v l) : ∃ A cap, v = .slice A l.length cap ∧ l.length ≤ cap ∧ T.Row w (old w) A l := h.old (fun _ q => q.elim)
section
variable {α : Type} {T : Ty α} {P : Program} {w W0 : World} {n : Nat} {N : Env → World → Prop} {X : Exit → Env → World → Prop} {e : Env} {ops : Array Oper} {rest : List Oper} {d : Option Tmp} {ty : TypeId} {pos : String} {af : Array Edge}
/-- Something is appended to what is one's own, of elements that hang on no memory. -/
theorem op_app (hf : Flat T) {s x : Operand} {t el : TypeId} {z : Value} {by_ c : Nat} {v : Value} {l m : List α} {A : Option Addr} (hd : dOk n d = true) (hsv : ev e s = v) (hx : ev e x = .slice A m.length c)
    (hu : P.underlying t = some (.slice el)) (hs : (P.info? el).map (·.size) = some T.sz) (hy : (P.info? el).map (·.bytes) = some by_) (hz : (P.info? el).bind (·.zero) = some z) (hzs : z.cells.size = T.sz)
    (hE : Ext W0 w) (hown : Own T w nobody W0.heap.size el v l) {F : Nat → Prop} (hrow : T.Row w F A m) (hsz : (l.length + m.length) * by_ ≤ 140737488355328) (h63 : l.length + m.length ≤ 140737488355328)
    (h : ∀ v' w', Own T w' nobody W0.heap.size el v' (l ++ m) → Ext W0 w' → Gro v.ownBlock w w' → WL P n ops N X rest (putO e d v') w') :
    WL P n ops N X (⟨d, .call { callee := .builtin .append, args := #[s, x], argTypes := #[t, t] }, ty, pos, af, none⟩ :: rest) e w :=
  op_append hd hsv hx hu hs hy hz hzs hown (hrow.srcF hf) (fun _ q => q.elim) hsz h63 hE.size fun v' w' ho hg _ => h v' w' ho (hE.gro hg hE.size (fun k hk => (hown.lt hk).1)) hg
/-- The same, the block's bound apart. -/
theorem op_app0 (hf : Flat T) {s x : Operand} {t el : TypeId} {z : Value} {by_ c B : Nat} {v : Value} {l m : List α} {A : Option Addr} (hd : dOk n d = true) (hsv : ev e s = v) (hx : ev e x = .slice A m.length c)
    (hu : P.underlying t = some (.slice el)) (hs : (P.info? el).map (·.size) = some T.sz) (hy : (P.info? el).map (·.bytes) = some by_) (hz : (P.info? el).bind (·.zero) = some z) (hzs : z.cells.size = T.sz)
    (hB : B ≤ w.heap.size) (hown : Own T w nobody B el v l) {F : Nat → Prop} (hrow : T.Row w F A m) (hsz : (l.length + m.length) * by_ ≤ 140737488355328) (h63 : l.length + m.length ≤ 140737488355328)
    (h : ∀ v' w', Own T w' nobody B el v' (l ++ m) → Gro v.ownBlock w w' → WL P n ops N X rest (putO e d v') w') :
    WL P n ops N X (⟨d, .call { callee := .builtin .append, args := #[s, x], argTypes := #[t, t] }, ty, pos, af, none⟩ :: rest) e w :=
  op_append hd hsv hx hu hs hy hz hzs hown (hrow.srcF hf) (fun _ q => q.elim) hsz h63 hB fun v' w' ho hg _ => h v' w' ho hg
end
theorem gro_blk {row : Option Nat} {w w' : World} {g : Nat} {c : Array Value} {t : TypeId} (h : Gro row w w') (hb : Blk w g c t) (hne : row ≠ some g) : Blk w' g c t := by
  unfold Blk at *; rw [h.block g (heap_lt hb) hne]; exact hb
theorem own_ne {α : Type} {T : Ty α} {w : World} {F : Nat → Prop} {B : Nat} {e : TypeId} {v : Value} {l : List α} {g : Nat} {c : Array Value} {t : TypeId} {fr : Nat × Nat} (h : Own T w F B e v l) (hb : w.heap[g]? = some (.cells c t fr)) (ht : t ≠ e) : v.ownBlock ≠ some g := by
  rcases h with ⟨rfl, _⟩ | ⟨g', cap, cc, xs, rfl, h1, h2, _⟩
  · simp [Value.ownBlock]
  · intro q
    simp [Value.ownBlock] at q; subst q
    unfold Blk at h2; rw [h2] at hb; cases hb; exact ht rfl
theorem own_cell {α : Type} {T : Ty α} {w : World} {F : Nat → Prop} {B : Nat} {e : TypeId} {v : Value} {l : List α} (h : Own T w F B e v l) : v.oneCell' = true := by
  rcases h with ⟨rfl, _⟩ | ⟨g', cap, cc, xs, rfl, _⟩ <;> rfl
/-- One element of one cell, in a block of its own. -/
theorem row_one {α : Type} {enc : α → Value} {ok : α → Prop} {h1 : ∀ x, (enc x).oneCell' = true} {w : World} {g : Nat} {t : TypeId} {x : α} (hb : Blk w g #[enc x] t) (hok : ok x) : (Ty.scalar enc ok h1).Row w (old w) (some ⟨g, 0, none⟩) [x] :=
  Blk.row hb (Blk.lt hb) fun i hi => by
    obtain rfl : i = 0 := by simp at hi; omega
    exact ⟨[enc x], ⟨rfl, hok⟩, fun j hj => by
      simp only [Ty.scalar] at hj
      obtain rfl : j = 0 := by omega
      rfl⟩
end Go.Eng
