/-
  How many bytes some lists have; frames cut short.
-/
import Derived.Test.YtgclnpafkjfmhaaFacts
import Derived.Test.YtgclnpafkjfmhaaFrameK
namespace Go.Proofs.Ytgclnpafkjfmhaa
open Go Go.Eng Go.RowKit Go.Proofs
set_option linter.unusedVariables false

theorem rows_le {w : World} {F : Nat → Prop} {A : Option Addr} {l : List (List UInt8)} (h : Ty.byte.slice.Row w F A l) : ∀ x ∈ l, x.length ≤ big := by
  intro x hx
  obtain ⟨i, hi, rfl⟩ := List.getElem_of_mem hx
  obtain ⟨_, _, _, _, _, _, _, _, h1, _⟩ := h.cellS hi
  exact h1
theorem flat_le {m : Nat} : ∀ {l : List (List UInt8)}, (∀ x ∈ l, x.length ≤ m) → l.flatten.length ≤ l.length * m
  | [], _ => by simp
  | x :: l, h => by
    have h1 := flat_le (l := l) (fun y hy => h y (List.mem_cons_of_mem _ hy))
    have h2 := h x (List.mem_cons_self ..)
    simp only [List.flatten_cons, List.length_append, List.length_cons, Nat.add_mul, Nat.one_mul]
    omega
theorem flat_take (l : List (List UInt8)) (i : Nat) (h : i < l.length) : (l.take (i + 1)).flatten.length = (l.take i).flatten.length + l[i].length := by
  rw [List.take_succ_eq_append_getElem h, List.flatten_append, List.length_append]
  simp only [List.flatten_cons, List.flatten_nil, List.append_nil]
theorem flat_mem {l : List (List UInt8)} {x : List UInt8} (h : x ∈ l) : x.length ≤ l.flatten.length := by
  obtain ⟨s, t, rfl⟩ := List.append_of_mem h
  simp; omega
theorem joined_len (l : List (List UInt8)) : (Frame.joined l).length = 8 * l.length + l.flatten.length := by
  induction l with
  | nil => rfl
  | cons x l ih =>
    rw [Frame.joined_cons, List.length_append, ih, Frame.frame_length]
    simp; omega
theorem flat_take_le (l : List (List UInt8)) (i : Nat) : (l.take i).flatten.length ≤ l.flatten.length := by
  have h : l.flatten.length = (l.take i).flatten.length + (l.drop i).flatten.length := by
    rw [← List.length_append, ← List.flatten_append, List.take_append_drop]
  omega
theorem alls_nil : Frame.Alls [] = ([], 0) := Frame.Alls_none (by rw [Frame.next_short (by simp)])
theorem alls_exact {l : List (List UInt8)} (h : ∀ x ∈ l, x.length ≤ 65536) : Frame.Alls (Frame.joined l) = (l, (Frame.joined l).length) := by
  have := Frame.alls_joined l [] h
  rw [List.append_nil, alls_nil] at this
  simpa using this
theorem alls_tail {l : List (List UInt8)} {t : List UInt8} (h : ∀ x ∈ l, x.length ≤ 65536) (ht : t.length ≤ 7) : Frame.Alls (Frame.joined l ++ t) = (l, (Frame.joined l).length) := by
  rw [Frame.alls_joined l t h, Frame.Alls_none (by rw [Frame.next_short (by omega)])]
  simp
theorem alls_cut {l : List (List UInt8)} {i k : Nat} (h : ∀ x ∈ l, x.length ≤ 65536) (hi : i ≤ l.length) (h1 : (Frame.joined (l.take i)).length ≤ k) (h2 : ∀ hil : i < l.length, k < (Frame.joined (l.take i)).length + 8 + l[i].length) :
    Frame.Alls ((Frame.joined l).take k) = (l.take i, (Frame.joined (l.take i)).length) := by
  have hs : Frame.joined l = Frame.joined (l.take i) ++ Frame.joined (l.drop i) := by
    conv => lhs; rw [← List.take_append_drop i l]
    simp only [Frame.joined, List.map_append, List.flatten_append]
  rw [hs, List.take_append, List.take_of_length_le h1]
  rw [Frame.alls_joined (l.take i) _ (fun x hx => h x (List.mem_of_mem_take hx))]
  have hz : (Frame.next ((Frame.joined (l.drop i)).take (k - (Frame.joined (l.take i)).length))).2 = 0 := by
    by_cases hil : i < l.length
    · rw [List.drop_eq_getElem_cons hil, Frame.joined_cons]
      have := h2 hil
      exact Frame.next_cut l[i] _ _ (h _ (List.getElem_mem hil)) (by omega)
    · rw [List.drop_of_length_le (by omega)]
      rw [Frame.next_short (by simp [Frame.joined])]
  rw [Frame.Alls_none hz]
  simp

theorem long_spec (A : Option Addr) (c : Nat) (l : List (List UInt8)) (w : World) (hs : l.length + l.flatten.length < 4611686018427387904) (hA : BytesL w A l) :
    Calls Try.prog 15 #[.slice A l.length c] w (fun en w' => ∃ v, en = .returned v ∧ v = .int .i64 (l.length + l.flatten.length : Nat) ∧ w' = w) := by
  refine calls' (n := 20) (rs := #[.tmp 2]) (l := [.slice A l.length c]) Try.func15 rfl rfl rfl rfl rfl ?_
  refine W_seq ?_
  refine W_region ?_
  refine op rfl (r_assignV (v := .int _ _) rfl) ?_
  refine WL_nil ?_
  refine W_seq ?_
  refine W_region ?_
  refine op rfl (r_assignV (v := .int _ _) rfl) ?_
  refine WL_nil ?_
  refine W_seq ?_
  refine W_seq ?_
  refine W_region ?_
  refine op rfl (r_assignV (v := .int _ _) rfl) ?_
  refine WL_nil ?_
  refine W_block ?_
  refine W_loop [3, 4, 5, 6, 7, 8, 9, 10, 11, 12, 13, 14, 15, 16, 17, 18] (fun k g w' => ∃ i : Nat, g 4 = .int .i64 i ∧ i ≤ l.length ∧ k = l.length - i ∧ g 3 = .int .i64 (i + (l.take i).flatten.length : Nat) ∧ w = w') (l.length) ?_ ?_
  · exact ⟨0, rfl, by omega, by omega, rfl, rfl⟩
  intro k g w' hI
  obtain ⟨i, h4, hi, rfl, h3, rfl⟩ := hI
  refine W_set (i := 4) h4 ?_
  refine W_set (i := 3) h3 ?_
  refine W_seq ?_
  refine W_seq ?_
  refine W_region ?_
  refine op rfl (r_moveV (v := .int _ _) rfl) ?_
  refine op rfl (r_moveV (v := .slice _ _ _) rfl) ?_
  refine op rfl (r_len_slice rfl Try.underlying26) ?_
  refine op rfl (r_lss rfl rfl) ?_
  refine WL_nil ?_
  refine W_ifp rfl (fun ht8 => ?_) (fun ht8 => ?_)
  · replace ht8 : i < l.length := by omega
    obtain ⟨b1, o1, Ai, ci, hAe, _, hc, hci, hcm, hr⟩ := hA.cellS ht8
    have hft := flat_take l i ht8
    have hfl := flat_take_le l (i + 1)
    refine W_skip ?_
    refine W_seq ?_
    refine W_block ?_
    refine W_region ?_
    refine op rfl (r_moveV (v := .int _ _) rfl) ?_
    refine op rfl (r_add' (r := ((i + (l.take i).flatten.length + 1 : Nat) : Int)) rfl rfl (by rw [wrap_i64 (by omega) (by omega)]; omega)) ?_
    refine op rfl (r_moveV (v := .slice _ _ _) rfl) ?_
    refine op rfl (r_moveV (v := .int _ _) rfl) ?_
    refine op rfl (r_indexAddr1 rfl rfl (by assumption) Try.underlying26 Try.sz22 (by omega) (by omega)) ?_
    refine op rfl (r_load rfl Try.underlying22 rfl (by assumption)) ?_
    refine op rfl (r_len_slice rfl Try.underlying22) ?_
    refine op rfl (r_add' (r := ((i + 1 + (l.take (i + 1)).flatten.length : Nat) : Int)) rfl rfl (by rw [wrap_i64 (by omega) (by omega)]; omega)) ?_
    refine op rfl (r_assignV (v := .int _ _) rfl) ?_
    refine WL_nil ?_
    refine W_region ?_
    refine op rfl (r_moveV (v := .int _ _) rfl) ?_
    refine op rfl (r_add' rfl rfl (wrap_i64 (by omega) (by omega))) ?_
    refine op rfl (r_assignV (v := .int _ _) rfl) ?_
    refine WL_nil ?_
    refine ⟨?_, by repeat (first | exact Out.refl _ _ | exact Out.mix | refine Out.put rfl ?_ | refine Out.mixin rfl ?_)⟩
    exact ⟨l.length - (i + 1), by omega, i + 1, rfl, by omega, rfl, rfl, rfl⟩
  · obtain rfl : i = l.length := by omega
    refine W_exit (blk_hit ?_)
    refine W_seq ?_
    refine W_region ?_
    refine op rfl (r_moveV (v := .int _ _) rfl) ?_
    refine op rfl (r_assignV (v := .int _ _) rfl) ?_
    refine WL_nil ?_
    refine W_ret (finX_ret ?_)
    refine fin1 ?_
    exact ⟨_, rfl, by rw [List.take_length]; rfl, rfl⟩
end Go.Proofs.Ytgclnpafkjfmhaa
