/-
  Frames, as plain mathematics: numbers' bytes, frames, what they begin with.
-/
import Derived.Test.YtlidigdlcjhkfaaCrcM
namespace Go.Proofs.Ytlidigdlcjhkfaa
namespace Frame
set_option linter.unusedVariables false

/-- A number's last w bytes. -/
def num (n : Nat) : Nat → List UInt8
  | 0 => []
  | w + 1 => UInt8.ofNat (n / 256 ^ w) :: num n w
theorem num_length (n w : Nat) : (num n w).length = w := by induction w with
  | zero => rfl
  | succ w ih => simp [num, ih]
theorem num_get (n w i : Nat) (h : i < (num n w).length) : (num n w)[i] = UInt8.ofNat (n / 256 ^ (w - 1 - i)) := by
  induction w generalizing i with
  | zero => simp [num] at h
  | succ w ih =>
    cases i with
    | zero => simp [num]
    | succ i =>
      simp only [num, List.getElem_cons_succ]
      rw [ih]
      congr 2
      congr 1
      omega
/-- How many bytes there are, of as many as are asked for. -/
def wid (n : Int) : Nat := (max 0 (min n 8)).toNat
theorem wid_le (n : Int) : wid n ≤ 8 := by unfold wid; omega
theorem wid_eq (n : Int) : max 0 (min n 8) = (wid n : Int) := by unfold wid; omega
/-- Bytes as a number. -/
def val (l : List UInt8) : Nat := l.foldl (fun n c => n * 256 + c.toNat) 0
theorem foldl_val (l : List UInt8) : ∀ n, l.foldl (fun n c => n * 256 + c.toNat) n = n * 256 ^ l.length + val l := by
  unfold val
  induction l with
  | nil => intro n; simp
  | cons c l ih =>
    intro n
    simp only [List.foldl_cons, List.length_cons]
    rw [ih, ih (0 * 256 + c.toNat)]
    rw [Nat.pow_succ, Nat.add_mul, Nat.zero_mul, Nat.zero_add, Nat.mul_assoc, Nat.mul_comm 256, Nat.add_assoc]
theorem val_nil : val [] = 0 := rfl
theorem val_append (a b : List UInt8) : val (a ++ b) = val a * 256 ^ b.length + val b := by
  unfold val
  rw [List.foldl_append, foldl_val]
  rfl
theorem val_snoc (a : List UInt8) (c : UInt8) : val (a ++ [c]) = val a * 256 + c.toNat := by
  rw [val_append]; simp [val]
theorem val_lt (l : List UInt8) : val l < 256 ^ l.length := by
  induction l with
  | nil => simp [val]
  | cons c l ih =>
    have h : val (c :: l) = c.toNat * 256 ^ l.length + val l := by
      have := val_append [c] l
      simpa [val] using this
    have hc := c.toNat_lt
    rw [h, List.length_cons, Nat.pow_succ]
    have : c.toNat * 256 ^ l.length ≤ 255 * 256 ^ l.length := Nat.mul_le_mul_right _ (by omega)
    omega
/-- The number that the last eight of them make. -/
def get (l : List UInt8) : Nat := val l % 2 ^ 64
theorem get_lt (l : List UInt8) : get l < 2 ^ 64 := Nat.mod_lt _ (by decide)
theorem get_short {l : List UInt8} (h : l.length ≤ 8) : get l = val l := by
  have h1 := val_lt l
  have h2 : 256 ^ l.length ≤ 256 ^ 8 := Nat.pow_le_pow_right (by decide) h
  exact Nat.mod_eq_of_lt (by have : (256 : Nat) ^ 8 = 2 ^ 64 := by decide
                             omega)
theorem get_last (l : List UInt8) : get l = val (l.drop (l.length - 8)) := by
  by_cases h : l.length ≤ 8
  · rw [get_short h, show l.length - 8 = 0 from by omega]; rfl
  · have hl := val_append (l.take (l.length - 8)) (l.drop (l.length - 8))
    rw [List.take_append_drop] at hl
    have hd : (l.drop (l.length - 8)).length = 8 := by simp; omega
    have h1 := val_lt (l.drop (l.length - 8))
    rw [hd] at hl h1
    have : (256 : Nat) ^ 8 = 2 ^ 64 := by decide
    rw [this] at hl h1
    unfold get
    rw [hl, Nat.mul_add_mod_self_right, Nat.mod_eq_of_lt h1]
theorem num_snoc (n w : Nat) : num n (w + 1) = num (n / 256) w ++ [UInt8.ofNat n] := by
  induction w with
  | zero => simp [num]
  | succ w ih =>
    rw [show num n (w + 1 + 1) = UInt8.ofNat (n / 256 ^ (w + 1)) :: num n (w + 1) from rfl, ih]
    rw [show num (n / 256) (w + 1) = UInt8.ofNat (n / 256 / 256 ^ w) :: num (n / 256) w from rfl]
    rw [Nat.div_div_eq_div_mul, Nat.pow_succ, Nat.mul_comm 256]
    rfl
theorem val_num (w : Nat) : ∀ n, val (num n w) = n % 256 ^ w := by
  induction w with
  | zero => intro n; simp [num, val, Nat.mod_one]
  | succ w ih =>
    intro n
    rw [num_snoc, val_snoc, ih, Nat.pow_succ, Nat.mul_comm (256 ^ w), Nat.mod_mul]
    have : (UInt8.ofNat n).toNat = n % 256 := by simp
    rw [this]
    omega
theorem num_val (l : List UInt8) : num (val l) l.length = l := by
  have key : ∀ k (l : List UInt8), l.length = k → num (val l) k = l := by
    intro k
    induction k with
    | zero => intro l h; rw [List.length_eq_zero_iff.1 h]; rfl
    | succ k ih =>
      intro l h
      have hne : l ≠ [] := by rintro rfl; simp at h
      obtain ⟨a, c, rfl⟩ : ∃ a c, l = a ++ [c] := ⟨l.dropLast, l.getLast hne, (List.dropLast_concat_getLast hne).symm⟩
      have ha : a.length = k := by simpa using h
      have hc := c.toNat_lt
      rw [num_snoc, val_snoc]
      rw [show (val a * 256 + c.toNat) / 256 = val a from by omega, ih a ha]
      congr 2
      apply UInt8.toNat_inj.1
      simp
  exact key _ l rfl
theorem get_num {n w : Nat} (hw : w ≤ 8) : get (num n w) = n % 256 ^ w := by
  rw [get_short (by rw [num_length]; exact hw), val_num]
theorem num_inj {m n w : Nat} (hm : m < 256 ^ w) (hn : n < 256 ^ w) (h : num m w = num n w) : m = n := by
  have := congrArg val h
  rwa [val_num, val_num, Nat.mod_eq_of_lt hm, Nat.mod_eq_of_lt hn] at this

/-- A frame's sum, as a number. -/
def csum (l : List (List UInt8)) : Nat := (Crc.sum l).toNat
theorem csum_lt (l : List (List UInt8)) : csum l < 256 ^ 4 := (Crc.sum l).isLt
def frame (b : List UInt8) : List UInt8 := num b.length 4 ++ num (csum [num b.length 4, b]) 4 ++ b
def encode (b : List UInt8) : List UInt8 := if b.length ≤ 65536 then frame b else []
def errOf (b : List UInt8) : Nat := if b.length ≤ 65536 then 0 else 3
theorem frame_length (b : List UInt8) : (frame b).length = 8 + b.length := by simp [frame, num_length]; omega

/-- The first frame, and how many bytes it has; 0: there is none. -/
def next (b : List UInt8) : List UInt8 × Nat :=
  if b.length < 8 then ([], 0)
  else if get (b.take 4) > 65536 ∨ get (b.take 4) > b.length - 8 then ([], 0)
  else if csum [b.take 4, (b.drop 8).take (get (b.take 4))] = get ((b.drop 4).take 4) then ((b.drop 8).take (get (b.take 4)), 8 + get (b.take 4))
  else ([], 0)
theorem next_le (b : List UInt8) : (next b).2 ≤ b.length := by
  unfold next
  split
  · simp
  · split
    · simp
    · split
      · simp; omega
      · simp
theorem next_body (b : List UInt8) (h : (next b).2 ≠ 0) : (next b).1 = (b.drop 8).take ((next b).2 - 8) ∧ 8 ≤ (next b).2 ∧ (next b).1.length = (next b).2 - 8 := by
  unfold next at *
  split at h
  · simp at h
  · split at h
    · simp at h
    · split at h
      · rename_i h1 h2 h3
        rw [if_neg h1, if_neg h2, if_pos h3]
        refine ⟨by simp, by simp, by simp; omega⟩
      · simp at h
/-- The frames of b up to where l ends. -/
inductive To (b : List UInt8) : List (List UInt8) → Nat → Prop
  | nil : To b [] 0
  | snoc {l : List (List UInt8)} {at_ : Nat} : To b l at_ → (next (b.drop at_)).2 ≠ 0 → To b (l ++ [(next (b.drop at_)).1]) (at_ + (next (b.drop at_)).2)
theorem To.le {b : List UInt8} {l : List (List UInt8)} {at_ : Nat} (h : To b l at_) : at_ ≤ b.length := by
  induction h with
  | nil => exact Nat.zero_le _
  | snoc h1 h2 ih =>
    have := next_le (b.drop ‹Nat›)
    rw [List.length_drop] at this
    omega
theorem To.len {b : List UInt8} {l : List (List UInt8)} {at_ : Nat} (h : To b l at_) : l.length * 8 ≤ at_ := by
  induction h with
  | nil => exact Nat.zero_le _
  | snoc h1 h2 ih =>
    have := (next_body _ h2).2.1
    simp only [List.length_append, List.length_cons, List.length_nil]
    omega
/-- All of them: as long as there are any. -/
def all : Nat → List UInt8 → List (List UInt8) × Nat
  | 0, _ => ([], 0)
  | k + 1, b => if (next b).2 = 0 then ([], 0) else ((next b).1 :: (all k (b.drop (next b).2)).1, (next b).2 + (all k (b.drop (next b).2)).2)
def Alls (b : List UInt8) : List (List UInt8) × Nat := all b.length b
theorem all_more : ∀ (k m : Nat) (b : List UInt8), b.length ≤ k → k ≤ m → all m b = all k b := by
  intro k
  induction k with
  | zero =>
    intro m b hb _
    cases m with
    | zero => rfl
    | succ m =>
      have h := next_le b
      have : (next b).2 = 0 := by omega
      simp [all, this]
  | succ k ih =>
    intro m b hb hm
    cases m with
    | zero => omega
    | succ m =>
      simp only [all]
      by_cases hz : (next b).2 = 0
      · simp [hz]
      · have h8 := (next_body b hz).2.1
        rw [if_neg hz, if_neg hz, ih m (b.drop (next b).2) (by simp; omega) (by omega)]
theorem Alls_none {b : List UInt8} (h : (next b).2 = 0) : Alls b = ([], 0) := by
  unfold Alls
  cases hb : b.length with
  | zero => rfl
  | succ k => simp [all, h]
theorem Alls_some {b : List UInt8} (h : (next b).2 ≠ 0) : Alls b = ((next b).1 :: (Alls (b.drop (next b).2)).1, (next b).2 + (Alls (b.drop (next b).2)).2) := by
  have h8 := (next_body b h).2.1
  have hle := next_le b
  unfold Alls
  cases hb : b.length with
  | zero => omega
  | succ k =>
    simp only [all, if_neg h]
    rw [all_more (b.drop (next b).2).length k _ (Nat.le_refl _) (by simp; omega)]
theorem To.alls {b : List UInt8} {l : List (List UInt8)} {at_ : Nat} (h : To b l at_) : Alls b = (l ++ (Alls (b.drop at_)).1, at_ + (Alls (b.drop at_)).2) := by
  induction h with
  | nil => simp
  | snoc h1 h2 ih =>
    rw [ih, Alls_some h2]
    rw [List.drop_drop]
    refine Prod.ext ?_ ?_
    · simp
    · simp; omega
theorem To.done {b : List UInt8} {l : List (List UInt8)} {at_ : Nat} (h : To b l at_) (hz : (next (b.drop at_)).2 = 0) : Alls b = (l, at_) := by
  rw [h.alls, Alls_none hz]; simp

theorem all_len : ∀ (k : Nat) (b : List UInt8), (all k b).1.length * 8 ≤ (all k b).2 ∧ (all k b).2 ≤ b.length
  | 0, b => by simp [all]
  | k + 1, b => by
    simp only [all]
    by_cases hz : (next b).2 = 0
    · simp [hz]
    · rw [if_neg hz]
      obtain ⟨h1, h2⟩ := all_len k (b.drop (next b).2)
      have h8 := (next_body b hz).2.1
      have hle := next_le b
      simp only [List.length_cons, List.length_drop] at *
      omega
theorem alls_len (b : List UInt8) : (Alls b).1.length ≤ b.length := by
  have := all_len b.length b
  unfold Alls
  omega
/-- What the definition says of the first is what the program says. -/
theorem next_def (b : List UInt8) (h8 : ¬ b.length < 8) (hn : ¬ (get (b.take 4) > 65536 ∨ get (b.take 4) > b.length - 8)) :
    (frame ((b.drop 8).take (get (b.take 4))) = b.take (8 + get (b.take 4))) ↔ csum [b.take 4, (b.drop 8).take (get (b.take 4))] = get ((b.drop 4).take 4) := by
  have h4 : (b.take 4).length = 4 := by simp; omega
  have hk : ((b.drop 4).take 4).length = 4 := by simp; omega
  have hbl : ((b.drop 8).take (get (b.take 4))).length = get (b.take 4) := by simp; omega
  have hnum : num (get (b.take 4)) 4 = b.take 4 := by
    have := num_val (b.take 4)
    rw [h4] at this
    rw [get_short (by omega)]
    exact this
  have hsplit : b.take (8 + get (b.take 4)) = b.take 4 ++ ((b.drop 4).take 4 ++ (b.drop 8).take (get (b.take 4))) := by
    rw [show 8 + get (b.take 4) = 4 + (4 + get (b.take 4)) from by omega, List.take_add, List.take_add, List.drop_drop]
  unfold frame
  rw [hbl, hnum, hsplit, List.append_assoc, List.append_cancel_left_eq]
  constructor
  · intro h
    have h1 := List.append_inj_left h (by rw [num_length, hk])
    rw [← h1, get_num (by omega)]
    rw [Nat.mod_eq_of_lt (csum_lt _)]
  · intro h
    rw [h]
    have := num_val ((b.drop 4).take 4)
    rw [hk] at this
    rw [get_short (by omega), this]
theorem next_frame (b r : List UInt8) (hb : b.length ≤ 65536) : next (frame b ++ r) = (b, 8 + b.length) := by
  have hfl := frame_length b
  have hn4 := num_length b.length 4
  have h4 : (frame b ++ r).take 4 = num b.length 4 := by
    unfold frame
    rw [List.append_assoc, List.append_assoc, List.take_append_of_le_length (by omega), List.take_of_length_le (by omega)]
  have hg : get (num b.length 4) = b.length := by rw [get_num (by omega)]; exact Nat.mod_eq_of_lt (by omega)
  have hk : ((frame b ++ r).drop 4).take 4 = num (csum [num b.length 4, b]) 4 := by
    unfold frame
    rw [List.append_assoc, List.append_assoc, List.drop_append_of_le_length (by omega), List.drop_of_length_le (by omega), List.nil_append,
      List.take_append_of_le_length (by rw [num_length]; omega), List.take_of_length_le (by rw [num_length]; omega)]
  have hd : ((frame b ++ r).drop 8).take b.length = b := by
    have : (frame b ++ r).drop 8 = b ++ r := by
      unfold frame
      rw [List.append_assoc, List.drop_append_of_le_length (by simp [num_length]), List.drop_of_length_le (by simp [num_length]), List.nil_append]
    rw [this, List.take_append_of_le_length (Nat.le_refl _), List.take_length]
  unfold next
  rw [if_neg (by simp; omega), h4, hg, if_neg (by simp; omega), hk, hd, if_pos (by rw [get_num (by omega), Nat.mod_eq_of_lt (csum_lt _)])]
def joined (l : List (List UInt8)) : List UInt8 := (l.map frame).flatten
theorem joined_cons (b : List UInt8) (l : List (List UInt8)) : joined (b :: l) = frame b ++ joined l := rfl
theorem joined_snoc (l : List (List UInt8)) (b : List UInt8) : joined (l ++ [b]) = joined l ++ frame b := by simp [joined]
theorem next_short {b : List UInt8} (h : b.length < 8) : next b = ([], 0) := by unfold next; rw [if_pos h]
theorem alls_joined (l : List (List UInt8)) : ∀ r, (∀ b ∈ l, b.length ≤ 65536) → Alls (joined l ++ r) = (l ++ (Alls r).1, (joined l).length + (Alls r).2) := by
  induction l with
  | nil => intro r _; simp [joined]
  | cons b l ih =>
    intro r hl
    have hb := hl b (List.mem_cons_self ..)
    have hn := next_frame b (joined l ++ r) hb
    rw [joined_cons, List.append_assoc]
    rw [Alls_some (by rw [hn]; simp), hn]
    have hd : (frame b ++ (joined l ++ r)).drop (8 + b.length) = joined l ++ r := by
      rw [← frame_length, List.drop_append_of_le_length (Nat.le_refl _), List.drop_length, List.nil_append]
    simp only [hd]
    rw [ih r (fun x hx => hl x (List.mem_cons_of_mem _ hx))]
    simp [frame_length]
    omega
/-- A frame that is cut short is none. -/
theorem next_cut (b r : List UInt8) (k : Nat) (hb : b.length ≤ 65536) (hk : k < 8 + b.length) : (next ((frame b ++ r).take k)).2 = 0 := by
  have hfl := frame_length b
  by_cases h8 : k < 8
  · rw [next_short (by simp; omega)]
  · have hlen : ((frame b ++ r).take k).length = k := by simp; omega
    have h4 : ((frame b ++ r).take k).take 4 = num b.length 4 := by
      rw [List.take_take, Nat.min_eq_left (by omega)]
      unfold frame
      have hn4 := num_length b.length 4
      rw [List.append_assoc, List.append_assoc, List.take_append_of_le_length (by omega), List.take_of_length_le (by omega)]
    have hg : get (num b.length 4) = b.length := by rw [get_num (by omega)]; exact Nat.mod_eq_of_lt (by omega)
    unfold next
    rw [if_neg (by omega), h4, hg, if_pos (by right; omega)]
end Frame
end Go.Proofs.Ytlidigdlcjhkfaa
