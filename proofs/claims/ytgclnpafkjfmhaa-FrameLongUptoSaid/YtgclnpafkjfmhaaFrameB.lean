/-
  A frame with one byte another one, as plain mathematics.
-/
import Derived.Test.YtgclnpafkjfmhaaFrameM
namespace Go.Proofs.Ytgclnpafkjfmhaa
namespace Frame
set_option linter.unusedVariables false

theorem byte_inj2 {n : Crc.B} {c d : UInt8} (h : Crc.byte n c = Crc.byte n d) : c = d := by
  have h1 := Crc.steps_inj 8 h
  have h2 : c.toBitVec.setWidth 32 = d.toBitVec.setWidth 32 := by
    have := congrArg (fun x => n ^^^ x) h1
    simpa [← BitVec.xor_assoc] using this
  have h3 := congrArg BitVec.toNat h2
  simp only [BitVec.toNat_setWidth] at h3
  have hc := c.toNat_lt
  have hd := d.toNat_lt
  have e1 : c.toBitVec.toNat = c.toNat := rfl
  have e2 : d.toBitVec.toNat = d.toNat := rfl
  rw [e1, e2, Nat.mod_eq_of_lt (by omega), Nat.mod_eq_of_lt (by omega)] at h3
  exact UInt8.toNat_inj.1 h3
theorem upd_set {l : List UInt8} {j : Nat} {c : UInt8} {n : Crc.B} (hj : j < l.length) (h : Crc.upd n (l.set j c) = Crc.upd n l) : c = l[j] := by
  have h1 : l = l.take j ++ l[j] :: l.drop (j + 1) := by rw [← List.drop_eq_getElem_cons hj, List.take_append_drop]
  have h2 : l.set j c = l.take j ++ c :: l.drop (j + 1) := by rw [List.set_eq_take_append_cons_drop, if_pos hj]
  have h3 : Crc.upd n l = Crc.upd n (l.take j ++ l[j] :: l.drop (j + 1)) := congrArg (Crc.upd n) h1
  rw [h2, h3, Crc.upd_append, Crc.upd_append] at h
  exact byte_inj2 (Crc.upd_inj _ h)
theorem csum_set {p l : List UInt8} {j : Nat} {c : UInt8} (hj : j < l.length) (hc : c ≠ l[j]) : csum [p, l.set j c] ≠ csum [p, l] := by
  intro h
  have h1 : Crc.sum [p, l.set j c] = Crc.sum [p, l] := BitVec.eq_of_toNat_eq h
  have h2 : Crc.more (Crc.sum [p]) (l.set j c) = Crc.more (Crc.sum [p]) l := h1
  exact hc (upd_set hj (Crc.not_inj h2))
theorem frame_take4 (b : List UInt8) : (frame b).take 4 = num b.length 4 := by
  have hn4 := num_length b.length 4
  unfold frame
  rw [List.append_assoc, List.take_append_of_le_length (by omega), List.take_of_length_le (by omega)]
theorem frame_sum (b : List UInt8) : ((frame b).drop 4).take 4 = num (csum [num b.length 4, b]) 4 := by
  unfold frame
  rw [List.append_assoc, List.drop_append_of_le_length (by rw [num_length]; omega), List.drop_of_length_le (by rw [num_length]; omega), List.nil_append,
    List.take_append_of_le_length (by rw [num_length]; omega), List.take_of_length_le (by rw [num_length]; omega)]
theorem frame_body (b : List UInt8) : (frame b).drop 8 = b := by
  unfold frame
  rw [List.drop_append_of_le_length (by simp [num_length]), List.drop_of_length_le (by simp [num_length]), List.nil_append]
theorem get_len {b : List UInt8} (hb : b.length ≤ 65536) : get (num b.length 4) = b.length := by rw [get_num (by omega)]; exact Nat.mod_eq_of_lt (by omega)
theorem get4_inj {x y : List UInt8} (hx : x.length = 4) (hy : y.length = 4) (h : get x = get y) : x = y := by
  have h1 := num_val x
  have h2 := num_val y
  rw [hx] at h1
  rw [hy] at h2
  rw [get_short (by omega), get_short (by omega)] at h
  rw [← h1, ← h2, h]
theorem set_ne {l : List UInt8} {j : Nat} {c : UInt8} (hj : j < l.length) (hc : c ≠ l[j]) : l.set j c ≠ l := by
  intro h
  have := congrArg (fun q => q[j]?) h
  simp [hj] at this
  exact hc this
theorem next_flip_low (b : List UInt8) (k : Nat) (c : UInt8) (hb : b.length ≤ 65536) (hk : k < 4) (h : k < (frame b).length) (hc : c ≠ (frame b)[k]) : (next ((frame b).set k c)).2 ≠ 8 + b.length := by
  have hfl := frame_length b
  have h4 : ((frame b).set k c).take 4 = ((frame b).take 4).set k c := by rw [List.take_set]
  have hl4 : ((frame b).take 4).length = 4 := by simp; omega
  have hne : ((frame b).take 4).set k c ≠ (frame b).take 4 := set_ne (by omega) (by simpa using hc)
  have hg : get (((frame b).set k c).take 4) ≠ b.length := by
    intro q
    rw [h4] at q
    refine hne (get4_inj (by simp; omega) hl4 ?_)
    rw [q, frame_take4, get_len hb]
  have hz : (0 : Nat) ≠ 8 + b.length := by omega
  unfold next
  split
  · exact hz
  · split
    · exact hz
    · split
      · intro q
        exact hg (by simpa using q)
      · exact hz
theorem next_flip_high (b : List UInt8) (k : Nat) (c : UInt8) (hb : b.length ≤ 65536) (hk : 4 ≤ k) (h : k < (frame b).length) (hc : c ≠ (frame b)[k]) : next ((frame b).set k c) = ([], 0) := by
  have hfl := frame_length b
  have h4 : ((frame b).set k c).take 4 = num b.length 4 := by rw [List.take_set_of_le hk, frame_take4]
  have hlen : ((frame b).set k c).length = 8 + b.length := by simp [hfl]
  unfold next
  rw [if_neg (by omega), h4, get_len hb, if_neg (by omega), if_neg]
  by_cases h8 : k < 8
  · have hd : ((frame b).set k c).drop 8 = b := by rw [List.drop_set_of_lt h8, frame_body]
    have hs : (((frame b).set k c).drop 4).take 4 = (((frame b).drop 4).take 4).set (k - 4) c := by rw [List.drop_set, if_neg (by omega), List.take_set]
    have hl : (((frame b).drop 4).take 4).length = 4 := by simp; omega
    have hne : (((frame b).drop 4).take 4).set (k - 4) c ≠ ((frame b).drop 4).take 4 := set_ne (by omega) (by
      simp only [List.getElem_take, List.getElem_drop]
      simpa [show 4 + (k - 4) = k from by omega] using hc)
    rw [hd, hs, List.take_of_length_le (Nat.le_refl _)]
    intro q
    refine hne (get4_inj (by simp; omega) hl ?_)
    rw [← q, frame_sum, get_num (by omega), Nat.mod_eq_of_lt (csum_lt _)]
  · have hd : ((frame b).set k c).drop 8 = b.set (k - 8) c := by rw [List.drop_set, if_neg (by omega), frame_body]
    have hs : (((frame b).set k c).drop 4).take 4 = ((frame b).drop 4).take 4 := by rw [List.drop_set, if_neg (by omega), List.take_set_of_le (by omega)]
    have hkb : k - 8 < b.length := by omega
    have hcb : c ≠ b[k - 8] := by
      have h1 : (frame b)[k] = b[k - 8] := by
        have h2 : ((frame b).drop 8)[k - 8]? = b[k - 8]? := by rw [frame_body]
        rw [List.getElem?_drop, show 8 + (k - 8) = k from by omega, List.getElem?_eq_getElem h, List.getElem?_eq_getElem hkb] at h2
        exact Option.some.inj h2
      rw [← h1]; exact hc
    rw [hd, hs, List.take_of_length_le (by simp), frame_sum, get_num (by omega), Nat.mod_eq_of_lt (csum_lt _)]
    exact csum_set hkb hcb
end Frame
end Go.Proofs.Ytgclnpafkjfmhaa
