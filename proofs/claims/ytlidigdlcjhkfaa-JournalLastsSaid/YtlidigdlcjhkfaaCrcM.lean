/-
  CRC-32 over bit vectors: the plain mathematics. No program.
-/
import Derived.Test.YtlidigdlcjhkfaaMem
namespace Go.Crc
open Go Go.Eng

abbrev B := BitVec 32
def poly : B := 0xedb88320#32
def step (n : B) : B := (n >>> 1) ^^^ (bif n.getLsbD 0 then poly else 0#32)
def steps : Nat → B → B
  | 0, n => n
  | k + 1, n => steps k (step n)
def byte (n : B) (c : UInt8) : B := steps 8 (n ^^^ c.toBitVec.setWidth 32)
def upd (n : B) (l : List UInt8) : B := l.foldl byte n
def more (n : B) (l : List UInt8) : B := ~~~ (upd (~~~ n) l)
def sum (l : List (List UInt8)) : B := l.foldl more 0#32

theorem step_xor (a b : B) : step (a ^^^ b) = step a ^^^ step b := by
  unfold step
  rw [BitVec.ushiftRight_xor_distrib, BitVec.getLsbD_xor]
  cases a.getLsbD 0 <;> cases b.getLsbD 0 <;> simp
  · rw [BitVec.xor_assoc]
  · ac_rfl
  · have : a >>> 1 ^^^ poly ^^^ (b >>> 1 ^^^ poly) = a >>> 1 ^^^ b >>> 1 ^^^ (poly ^^^ poly) := by ac_rfl
    rw [this, BitVec.xor_self, BitVec.xor_zero]
theorem step_zero : step 0#32 = 0#32 := by decide
theorem steps_xor (k : Nat) : ∀ a b, steps k (a ^^^ b) = steps k a ^^^ steps k b := by
  induction k with
  | zero => intro a b; rfl
  | succ k ih => intro a b; simp only [steps, step_xor, ih]
theorem steps_zero (k : Nat) : steps k 0#32 = 0#32 := by
  induction k with
  | zero => rfl
  | succ k ih => simp only [steps, step_zero, ih]
theorem steps_add (j k : Nat) : ∀ n, steps (j + k) n = steps k (steps j n) := by
  induction j with
  | zero => intro n; simp [steps]
  | succ j ih => intro n; rw [Nat.succ_add]; simp only [steps]; exact ih _
theorem steps_succ (k : Nat) (n : B) : steps (k + 1) n = step (steps k n) := by rw [steps_add]; rfl

/-- The top bit of a step is the lowest bit. -/
theorem step_top (n : B) : (step n).getLsbD 31 = n.getLsbD 0 := by
  unfold step
  rw [BitVec.getLsbD_xor]
  have h1 : (n >>> 1).getLsbD 31 = false := by simp
  rw [h1]
  cases n.getLsbD 0 <;> simp [poly]
theorem step_inj {a b : B} (h : step a = step b) : a = b := by
  have h0 : a.getLsbD 0 = b.getLsbD 0 := by rw [← step_top a, ← step_top b, h]
  have h1 : a >>> 1 = b >>> 1 := by
    unfold step at h
    rw [h0] at h
    have : ∀ x y z : B, x ^^^ z = y ^^^ z → x = y := fun x y z e => by
      have e2 : (x ^^^ z) ^^^ z = (y ^^^ z) ^^^ z := by rw [e]
      rwa [BitVec.xor_assoc, BitVec.xor_assoc, BitVec.xor_self, BitVec.xor_zero, BitVec.xor_zero] at e2
    exact this _ _ _ h
  apply BitVec.eq_of_getLsbD_eq
  intro i hi
  cases i with
  | zero => exact h0
  | succ i =>
    have := congrArg (fun x => BitVec.getLsbD x i) h1
    simp only [BitVec.getLsbD_ushiftRight] at this
    rwa [Nat.add_comm 1 i] at this
theorem steps_inj (k : Nat) : ∀ {a b}, steps k a = steps k b → a = b := by
  induction k with
  | zero => intro a b h; exact h
  | succ k ih => intro a b h; exact step_inj (ih h)

/-- A step of what ends in a bit 0 is a shift. -/
theorem step_shift (m : B) (k : Nat) (hk : k < 8) (h : m.toNat < 2 ^ 24) : step (m <<< (k + 1)) = m <<< k := by
  have h0 : (m <<< (k + 1)).getLsbD 0 = false := by simp
  unfold step
  rw [h0]
  simp only [cond_false, BitVec.xor_zero]
  apply BitVec.eq_of_toNat_eq
  simp only [BitVec.toNat_ushiftRight, BitVec.toNat_shiftLeft, Nat.shiftLeft_eq, Nat.shiftRight_eq_div_pow]
  have hp : 2 ^ (k + 1) ≤ 2 ^ 8 := Nat.pow_le_pow_right (by omega) (by omega)
  have hp' : 2 ^ k ≤ 2 ^ 7 := Nat.pow_le_pow_right (by omega) (by omega)
  have e : 2 ^ (k + 1) = 2 * 2 ^ k := by rw [Nat.pow_succ, Nat.mul_comm]
  have hlt : m.toNat * 2 ^ (k + 1) < 2 ^ 32 := Nat.lt_of_lt_of_le (Nat.mul_lt_mul_of_pos_right h (Nat.two_pow_pos _)) (by
    calc 2 ^ 24 * 2 ^ (k + 1) ≤ 2 ^ 24 * 2 ^ 8 := Nat.mul_le_mul_left _ hp
      _ = 2 ^ 32 := by decide)
  have hlt' : m.toNat * 2 ^ k < 2 ^ 32 := Nat.lt_of_le_of_lt (Nat.mul_le_mul_left _ (by rw [e]; omega)) hlt
  rw [Nat.mod_eq_of_lt hlt, Nat.mod_eq_of_lt hlt', e]
  rw [show m.toNat * (2 * 2 ^ k) = (m.toNat * 2 ^ k) * 2 from by rw [Nat.mul_comm 2, Nat.mul_assoc]]
  simp
theorem steps_shift (m : B) (h : m.toNat < 2 ^ 24) : ∀ k, k ≤ 8 → steps k (m <<< k) = m := by
  intro k
  induction k with
  | zero => intro _; simp [steps]
  | succ k ih =>
    intro hk
    simp only [steps]
    rw [step_shift m k (by omega) h]
    exact ih (by omega)
/-- The table's round. -/
theorem byte_table (n : B) (c : UInt8) : (n >>> 8) ^^^ steps 8 ((n.setWidth 8 ^^^ c.toBitVec).setWidth 32) = byte n c := by
  unfold byte
  have hn : n ^^^ c.toBitVec.setWidth 32 = ((n >>> 8) <<< 8) ^^^ (n.setWidth 8 ^^^ c.toBitVec).setWidth 32 := by
    apply BitVec.eq_of_getLsbD_eq
    intro i hi
    simp only [BitVec.getLsbD_xor, BitVec.getLsbD_shiftLeft, BitVec.getLsbD_ushiftRight, BitVec.getLsbD_setWidth]
    by_cases h8 : i < 8
    · simp [h8, hi]
    · have : 8 + (i - 8) = i := by omega
      simp [h8, hi, this]
  rw [hn, steps_xor, steps_shift (n >>> 8) _ 8 (Nat.le_refl _)]
  simp only [BitVec.toNat_ushiftRight, Nat.shiftRight_eq_div_pow]
  have := n.isLt
  omega
theorem upd_append (n : B) (a b : List UInt8) : upd n (a ++ b) = upd (upd n a) b := by simp [upd]
theorem more_append (n : B) (a b : List UInt8) : more n (a ++ b) = more (more n a) b := by simp [more, upd_append]
theorem more_nil (n : B) : more n [] = n := by simp [more, upd]
theorem sum_snoc (l : List (List UInt8)) (x : List UInt8) : sum (l ++ [x]) = more (sum l) x := by simp [sum]
theorem sum_one (a : List UInt8) : sum [a] = more 0#32 a := rfl
theorem sum_two (a b : List UInt8) : sum [a, b] = more 0#32 (a ++ b) := by rw [more_append]; rfl

theorem byte_xor (m n : B) (c d : UInt8) : byte (m ^^^ n) (c ^^^ d) = byte m c ^^^ byte n d := by
  unfold byte
  rw [← steps_xor]
  congr 1
  have : (c ^^^ d).toBitVec = c.toBitVec ^^^ d.toBitVec := by simp
  rw [this, BitVec.setWidth_xor]
  ac_rfl
theorem byte_inj {m n : B} {c : UInt8} (h : byte m c = byte n c) : m = n := by
  have := steps_inj 8 h
  have e2 : (m ^^^ c.toBitVec.setWidth 32) ^^^ c.toBitVec.setWidth 32 = (n ^^^ c.toBitVec.setWidth 32) ^^^ c.toBitVec.setWidth 32 := by rw [this]
  rwa [BitVec.xor_assoc, BitVec.xor_assoc, BitVec.xor_self, BitVec.xor_zero, BitVec.xor_zero] at e2
theorem upd_inj (l : List UInt8) : ∀ {m n : B}, upd m l = upd n l → m = n := by
  induction l with
  | nil => intro m n h; exact h
  | cons c l ih => intro m n h; exact byte_inj (ih h)
theorem not_inj {m n : B} (h : ~~~ m = ~~~ n) : m = n := by
  have := congrArg (fun x => ~~~ x) h
  simpa using this
theorem more_inj {m n : B} {l : List UInt8} (h : more m l = more n l) : m = n := not_inj (upd_inj l (not_inj h))

/-! bits that are others -/
def byteAt (x : B) (i : Nat) : UInt8 := UInt8.ofBitVec ((x >>> (8 * i)).setWidth 8)
def bytes4 (x : B) : List UInt8 := [byteAt x 0, byteAt x 1, byteAt x 2, byteAt x 3]
theorem steps8_split (s m : B) : byte s (UInt8.ofBitVec (m.setWidth 8)) = steps 8 (s ^^^ m) ^^^ (m >>> 8) := by
  have hm : m = (m.setWidth 8).setWidth 32 ^^^ ((m >>> 8) <<< 8) := by
    apply BitVec.eq_of_getLsbD_eq
    intro i hi
    simp only [BitVec.getLsbD_xor, BitVec.getLsbD_shiftLeft, BitVec.getLsbD_ushiftRight, BitVec.getLsbD_setWidth]
    by_cases h8 : i < 8
    · simp [h8, hi]
    · have : 8 + (i - 8) = i := by omega
      simp [h8, hi, this]
  have e : s ^^^ m = (s ^^^ (m.setWidth 8).setWidth 32) ^^^ ((m >>> 8) <<< 8) := by
    rw [BitVec.xor_assoc, ← hm]
  have hlt : (m >>> 8).toNat < 2 ^ 24 := by
    simp only [BitVec.toNat_ushiftRight, Nat.shiftRight_eq_div_pow]
    have := m.isLt
    omega
  rw [e, steps_xor, steps_shift _ hlt 8 (Nat.le_refl _), BitVec.xor_assoc, BitVec.xor_self, BitVec.xor_zero]
  rfl
theorem upd_bytes4 (s x : B) : upd s (bytes4 x) = steps 32 (s ^^^ x) := by
  have h := fun (s : B) (i : Nat) => steps8_split s (x >>> (8 * i))
  have hs : ∀ i, (x >>> (8 * i)) >>> 8 = x >>> (8 * (i + 1)) := fun i => by rw [← BitVec.shiftRight_add]; rfl
  have step1 : ∀ (y : B) (i : Nat), byte (y ^^^ x >>> (8 * i)) (byteAt x i) = steps 8 y ^^^ x >>> (8 * (i + 1)) := fun y i => by
    unfold byteAt
    rw [h, hs, BitVec.xor_assoc, BitVec.xor_self, BitVec.xor_zero]
  simp only [upd, bytes4, List.foldl_cons, List.foldl_nil]
  have e0 : s = (s ^^^ x) ^^^ x >>> (8 * 0) := by simp [BitVec.xor_assoc]
  conv => lhs; arg 1; arg 1; arg 1; rw [e0]
  rw [step1, step1, step1, step1]
  have : x >>> (8 * (3 + 1)) = 0#32 := by
    apply BitVec.eq_of_toNat_eq
    simp only [BitVec.toNat_ushiftRight, Nat.shiftRight_eq_div_pow]
    have := x.isLt
    simp
    omega
  rw [this, BitVec.xor_zero, ← steps_add, ← steps_add, ← steps_add]
theorem upd_zip : ∀ (a b : List UInt8) (m n : B), a.length = b.length → upd (m ^^^ n) (List.zipWith (· ^^^ ·) a b) = upd m a ^^^ upd n b
  | [], [], _, _, _ => rfl
  | c :: a, d :: b, m, n, h => by
    have := upd_zip a b (byte m c) (byte n d) (by simpa using h)
    simp only [List.zipWith_cons_cons, upd, List.foldl_cons, byte_xor] at this ⊢
    exact this
theorem burst (s x : B) (q : List UInt8) (hq : q.length = 4) (hx : x ≠ 0#32) : upd s q ≠ upd s (List.zipWith (· ^^^ ·) q (bytes4 x)) := by
  intro h
  have h2 := upd_zip q (bytes4 x) s 0#32 (by rw [hq]; rfl)
  rw [BitVec.xor_zero, ← h, upd_bytes4] at h2
  have h3 : steps 32 (0#32 ^^^ x) = 0#32 := by
    have e := congrArg (fun y => upd s q ^^^ y) h2
    simp only [BitVec.xor_self] at e
    rw [← BitVec.xor_assoc, BitVec.xor_self, BitVec.zero_xor] at e
    exact e.symm
  rw [BitVec.zero_xor, ← steps_zero 32] at h3
  exact hx (steps_inj 32 h3)
/-- The bytes, so many of those from k on xored. -/
def flipTo (b : List UInt8) (k : Nat) (x : B) (i : Nat) : List UInt8 := b.mapIdx fun j c => if k ≤ j ∧ j < k + i then c ^^^ byteAt x (j - k) else c
theorem flipTo_length (b : List UInt8) (k : Nat) (x : B) (i : Nat) : (flipTo b k x i).length = b.length := by simp [flipTo]
theorem flipTo_zero (b : List UInt8) (k : Nat) (x : B) : flipTo b k x 0 = b := by
  apply List.ext_getElem?
  intro j
  simp only [flipTo, List.getElem?_mapIdx]
  have : ¬ (k ≤ j ∧ j < k + 0) := by omega
  simp only [this, if_false]
  cases b[j]? <;> rfl
theorem flipTo_get (b : List UInt8) (k : Nat) (x : B) (i : Nat) (h : k + i < b.length) : (flipTo b k x i)[k + i]'(by rw [flipTo_length]; exact h) = b[k + i] := by
  simp [flipTo]
theorem flipTo_set (b : List UInt8) (k : Nat) (x : B) (i : Nat) (h : k + i < b.length) : (flipTo b k x i).set (k + i) (b[k + i] ^^^ byteAt x i) = flipTo b k x (i + 1) := by
  apply List.ext_getElem?
  intro j
  rw [List.getElem?_set]
  simp only [flipTo, List.getElem?_mapIdx, List.length_mapIdx]
  by_cases hj : k + i = j
  · subst hj
    simp [h]
  · rw [if_neg hj]
    cases b[j]? with
    | none => rfl
    | some v =>
      have : (k ≤ j ∧ j < k + i) ↔ (k ≤ j ∧ j < k + (i + 1)) := by omega
      simp only [Option.map_some, this]
theorem flipTo_split (b : List UInt8) (k : Nat) (x : B) (h : k + 4 ≤ b.length) :
    flipTo b k x 4 = b.take k ++ (List.zipWith (· ^^^ ·) ((b.drop k).take 4) (bytes4 x) ++ b.drop (k + 4)) := by
  apply List.ext_getElem?
  intro j
  simp only [flipTo, List.getElem?_mapIdx]
  by_cases h1 : j < k
  · rw [List.getElem?_append_left (by simp; omega), List.getElem?_take, if_pos h1]
    have : ¬ (k ≤ j ∧ j < k + 4) := by omega
    simp only [this, if_false]
    cases b[j]? <;> rfl
  · rw [List.getElem?_append_right (by simp; omega)]
    have hl : (b.take k).length = k := by simp; omega
    rw [hl]
    by_cases h2 : j < k + 4
    · have hz : (List.zipWith (fun a c => a ^^^ c) ((b.drop k).take 4) (bytes4 x)).length = 4 := by simp [bytes4]; omega
      rw [List.getElem?_append_left (by rw [hz]; omega), List.getElem?_zipWith, List.getElem?_take, if_pos (by omega), List.getElem?_drop]
      have e : k + (j - k) = j := by omega
      rw [e]
      have hj : j < b.length := by omega
      rw [List.getElem?_eq_getElem hj]
      have h3 : k ≤ j ∧ j < k + 4 := by omega
      simp only [Option.map_some, h3, and_self, if_true]
      have : j - k = 0 ∨ j - k = 1 ∨ j - k = 2 ∨ j - k = 3 := by omega
      rcases this with h | h | h | h <;> rw [h] <;> rfl
    · have hz : (List.zipWith (fun a c => a ^^^ c) ((b.drop k).take 4) (bytes4 x)).length = 4 := by simp [bytes4]; omega
      rw [List.getElem?_append_right (by rw [hz]; omega), hz, List.getElem?_drop]
      have e : k + 4 + (j - k - 4) = j := by omega
      rw [e]
      have : ¬ (k ≤ j ∧ j < k + 4) := by omega
      simp only [this, if_false]
      cases b[j]? <;> rfl
theorem flip_ne (b : List UInt8) (k : Nat) (x : B) (h : k + 4 ≤ b.length) (hx : x ≠ 0#32) : sum [b] ≠ sum [flipTo b k x 4] := by
  rw [sum_one, sum_one]
  intro he
  have he := not_inj he
  have hb : b = b.take k ++ ((b.drop k).take 4 ++ b.drop (k + 4)) := by
    rw [← List.drop_drop, List.take_append_drop, List.take_append_drop]
  rw [flipTo_split b k x h] at he
  conv at he => lhs; rw [hb]
  rw [upd_append, upd_append, upd_append, upd_append] at he
  exact burst _ x _ (by simp; omega) hx (upd_inj _ he)
/-! three, xored -/
theorem upd_zip3 (a b c : List UInt8) (s : B) (h1 : a.length = b.length) (h2 : b.length = c.length) :
    upd s (List.zipWith (· ^^^ ·) (List.zipWith (· ^^^ ·) a b) c) = upd s a ^^^ upd s b ^^^ upd s c := by
  have h := upd_zip (List.zipWith (· ^^^ ·) a b) c (s ^^^ s) s (by simp; omega)
  rw [upd_zip a b s s h1] at h
  rw [← h]
  congr 1
  rw [BitVec.xor_self, BitVec.zero_xor]
theorem more_zip3 (a b c : List UInt8) (s : B) (h1 : a.length = b.length) (h2 : b.length = c.length) :
    more s (List.zipWith (· ^^^ ·) (List.zipWith (· ^^^ ·) a b) c) = more s a ^^^ more s b ^^^ more s c := by
  unfold more
  rw [upd_zip3 a b c _ h1 h2]
  apply BitVec.eq_of_getLsbD_eq
  intro i hi
  simp [hi]
end Go.Crc
