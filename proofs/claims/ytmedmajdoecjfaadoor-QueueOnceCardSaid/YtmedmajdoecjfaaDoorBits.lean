/-
  The engine: unsigned numbers as bit vectors. Generic: no program.
-/
import Derived.Test.YtmedmajdoecjfaaDoorMem
namespace Go.Eng
set_option linter.unusedVariables false
set_option linter.unusedSimpArgs false

theorem ofInt_nat (n : Nat) (x : BitVec n) : BitVec.ofInt n (x.toNat : Int) = x := by
  apply BitVec.eq_of_toNat_eq
  simp [BitVec.toNat_ofInt]
theorem wrap_u32_nat (x : BitVec 32) : IntKind.wrap .u32 (x.toNat : Int) = (x.toNat : Int) := wrap_u32 (Int.natCast_nonneg _) (by have := x.isLt; omega)
theorem wrap_u8_nat (x : BitVec 8) : IntKind.wrap .u8 (x.toNat : Int) = (x.toNat : Int) := wrap_u8 (Int.natCast_nonneg _) (by have := x.isLt; omega)
theorem wrap_u64_nat (x : BitVec 64) : IntKind.wrap .u64 (x.toNat : Int) = (x.toNat : Int) := wrap_u64 (Int.natCast_nonneg _) (by have := x.isLt; omega)
theorem bits_xor32 (a b : BitVec 32) : bits .xor .u32 (a.toNat : Int) (b.toNat : Int) = ((a ^^^ b).toNat : Int) := by
  show IntKind.wrap .u32 _ = _
  rw [show BitVec.ofInt IntKind.u32.bits (a.toNat : Int) = a from ofInt_nat 32 a, show BitVec.ofInt IntKind.u32.bits (b.toNat : Int) = b from ofInt_nat 32 b]
  exact wrap_u32_nat (a ^^^ b)
theorem bits_and32 (a b : BitVec 32) : bits .and .u32 (a.toNat : Int) (b.toNat : Int) = ((a &&& b).toNat : Int) := by
  show IntKind.wrap .u32 _ = _
  rw [show BitVec.ofInt IntKind.u32.bits (a.toNat : Int) = a from ofInt_nat 32 a, show BitVec.ofInt IntKind.u32.bits (b.toNat : Int) = b from ofInt_nat 32 b]
  exact wrap_u32_nat (a &&& b)
theorem bits_xor8 (a b : BitVec 8) : bits .xor .u8 (a.toNat : Int) (b.toNat : Int) = ((a ^^^ b).toNat : Int) := by
  show IntKind.wrap .u8 _ = _
  rw [show BitVec.ofInt IntKind.u8.bits (a.toNat : Int) = a from ofInt_nat 8 a, show BitVec.ofInt IntKind.u8.bits (b.toNat : Int) = b from ofInt_nat 8 b]
  exact wrap_u8_nat (a ^^^ b)
theorem bits_or64 (a b : BitVec 64) : bits .or .u64 (a.toNat : Int) (b.toNat : Int) = ((a ||| b).toNat : Int) := by
  show IntKind.wrap .u64 _ = _
  rw [show BitVec.ofInt IntKind.u64.bits (a.toNat : Int) = a from ofInt_nat 64 a, show BitVec.ofInt IntKind.u64.bits (b.toNat : Int) = b from ofInt_nat 64 b]
  exact wrap_u64_nat (a ||| b)
theorem xor1_32 (a : BitVec 32) : bits .xor .u32 (if IntKind.u32.signed then -1 else IntKind.u32.max) (a.toNat : Int) = ((~~~ a).toNat : Int) := by
  have h : (if IntKind.u32.signed then (-1 : Int) else IntKind.u32.max) = ((BitVec.allOnes 32).toNat : Int) := by decide
  rw [h, bits_xor32]
  congr 2
theorem fdiv_shr {n : Nat} (a : BitVec n) (k : Nat) : (a.toNat : Int).fdiv (2 ^ k) = ((a >>> k).toNat : Int) := by
  rw [BitVec.toNat_ushiftRight, Nat.shiftRight_eq_div_pow]
  rw [Int.fdiv_eq_ediv_of_nonneg _ (Int.le_of_lt (Int.pow_pos (by decide)))]
  simp

theorem xor_ones (a : BitVec 32) : a ^^^ 0xffffffff#32 = ~~~ a := by
  rw [show (0xffffffff#32 : BitVec 32) = BitVec.allOnes 32 from by decide, BitVec.xor_allOnes]
theorem u32_of {n : Int} (h : inK .u32 n) : ∃ N : BitVec 32, n = N.toNat := by
  simp only [inK, lo, hi] at h
  refine ⟨BitVec.ofNat 32 n.toNat, ?_⟩
  simp
  omega
theorem u8_of {n : Int} (h : inK .u8 n) : ∃ N : UInt8, n = N.toNat := by
  simp only [inK, lo, hi] at h
  refine ⟨UInt8.ofNat n.toNat, ?_⟩
  simp
  omega
theorem tmod2 {k : Nat} (a : BitVec k) : ((a.toNat : Int).tmod 2 = 1) ↔ a.getLsbD 0 = true := by
  rw [Int.tmod_eq_emod_of_nonneg (Int.natCast_nonneg _)]
  simp [BitVec.getLsbD, Nat.testBit_zero]
  omega
theorem u32_ne {a b : BitVec 32} : ((a.toNat : Int) = b.toNat) ↔ a = b := by
  constructor
  · intro h; exact BitVec.eq_of_toNat_eq (by omega)
  · rintro rfl; rfl

section
variable {P : Program} {ρ : Operand → Value} {w : World} {d : Option Tmp} {t : TypeId} {pos : String} {af : Array Edge} {g : Option (Nat × Bool)} {x y : Operand} {xt yt : TypeId}
theorem r_xor32 {a b : BitVec 32} (hx : ρ x = .int .u32 a.toNat) (hy : ρ y = .int .u32 b.toNat) : (execOp ρ ⟨d, .binOp .xor xt x y yt, t, pos, af, g⟩).run P w = .ok (.value (.int .u32 (a ^^^ b).toNat)) w := by
  rw [r_xor hx hy, bits_xor32]
theorem r_and32 {a b : BitVec 32} (hx : ρ x = .int .u32 a.toNat) (hy : ρ y = .int .u32 b.toNat) : (execOp ρ ⟨d, .binOp .and xt x y yt, t, pos, af, g⟩).run P w = .ok (.value (.int .u32 (a &&& b).toNat)) w := by
  rw [r_and hx hy, bits_and32]
theorem r_xor8 {a b : BitVec 8} (hx : ρ x = .int .u8 a.toNat) (hy : ρ y = .int .u8 b.toNat) : (execOp ρ ⟨d, .binOp .xor xt x y yt, t, pos, af, g⟩).run P w = .ok (.value (.int .u8 (a ^^^ b).toNat)) w := by
  rw [r_xor hx hy, bits_xor8]
theorem r_or64 {a b : BitVec 64} (hx : ρ x = .int .u64 a.toNat) (hy : ρ y = .int .u64 b.toNat) : (execOp ρ ⟨d, .binOp .or xt x y yt, t, pos, af, g⟩).run P w = .ok (.value (.int .u64 (a ||| b).toNat)) w := by
  rw [r_or hx hy, bits_or64]
theorem r_mul32 {a b : BitVec 32} (hx : ρ x = .int .u32 a.toNat) (hy : ρ y = .int .u32 b.toNat) : (execOp ρ ⟨d, .binOp .mul xt x y yt, t, pos, af, g⟩).run P w = .ok (.value (.int .u32 (a * b).toNat)) w := by
  rw [r_mul hx hy, wrap_u32_mod, BitVec.toNat_mul]
  simp
theorem r_not32 {a : BitVec 32} (hx : ρ x = .int .u32 a.toNat) : (execOp ρ ⟨d, .unOp .xor xt x, t, pos, af, g⟩).run P w = .ok (.value (.int .u32 (~~~ a).toNat)) w := by
  rw [r_xor1 hx, xor1_32]
theorem r_shr32 {a : BitVec 32} {ky : IntKind} {k : Nat} (hx : ρ x = .int .u32 a.toNat) (hy : ρ y = .int ky k) (hk : Nat.ble k 32 = true) : (execOp ρ ⟨d, .binOp .shr xt x y yt, t, pos, af, g⟩).run P w = .ok (.value (.int .u32 (a >>> k).toNat)) w := by
  rw [r_shr hx hy (Int.natCast_nonneg _)]
  have : min (k : Int).toNat IntKind.u32.bits = k := by
    have : k ≤ 32 := by simpa using hk
    simp [IntKind.bits]; omega
  rw [this, fdiv_shr]
theorem r_conv32_8 {a : BitVec 32} {st dt : TypeId} {td : TypeDesc} (hx : ρ x = .int .u32 a.toNat) (hs : P.underlying st = some td) (hd : P.underlying dt = some (.int .u8)) : (execOp ρ ⟨d, .convert st dt x, t, pos, af, g⟩).run P w = .ok (.value (.int .u8 (a.setWidth 8).toNat)) w := by
  rw [r_conv hx hs hd, wrap_u8_mod, BitVec.toNat_setWidth]
  simp
theorem r_xorFF32 {a : BitVec 32} (hx : ρ x = .int .u32 a.toNat) (hy : ρ y = .int .u32 4294967295) : (execOp ρ ⟨d, .binOp .xor xt x y yt, t, pos, af, g⟩).run P w = .ok (.value (.int .u32 (~~~ a).toNat)) w := by
  rw [r_xor32 (b := 0xffffffff#32) hx hy, xor_ones]
theorem r_half32 {a : BitVec 32} (hx : ρ x = .int .u32 a.toNat) (hy : ρ y = .int .u32 2) : (execOp ρ ⟨d, .binOp .quo xt x y yt, t, pos, af, g⟩).run P w = .ok (.value (.int .u32 (a >>> 1).toNat)) w := by
  rw [r_quo hx hy (by decide)]
  have h1 : (a.toNat : Int).tdiv 2 = ((a >>> 1).toNat : Int) := by
    rw [BitVec.toNat_ushiftRight, Nat.shiftRight_eq_div_pow, Int.tdiv_eq_ediv_of_nonneg (Int.natCast_nonneg _)]
    simp
  rw [h1, wrap_u32_nat]
theorem r_conv8_32 {a : BitVec 8} {st dt : TypeId} {td : TypeDesc} (hx : ρ x = .int .u8 a.toNat) (hs : P.underlying st = some td) (hd : P.underlying dt = some (.int .u32)) : (execOp ρ ⟨d, .convert st dt x, t, pos, af, g⟩).run P w = .ok (.value (.int .u32 (a.setWidth 32).toNat)) w := by
  rw [r_conv hx hs hd, BitVec.toNat_setWidth]
  have := a.isLt
  rw [wrap_u32 (Int.natCast_nonneg _) (by omega), Nat.mod_eq_of_lt (by omega)]
end
end Go.Eng
