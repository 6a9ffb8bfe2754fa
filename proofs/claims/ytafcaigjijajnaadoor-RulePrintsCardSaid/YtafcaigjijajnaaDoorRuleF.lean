/-
  The walks of the reference: words.
-/
import Derived.Test.YtafcaigjijajnaaDoorFacts
import Derived.Test.YtafcaigjijajnaaDoorRuleW
namespace Go.Proofs.YtafcaigjijajnaaDoor
open Go Go.Eng Go.RowKit Go.Proofs
set_option linter.unusedVariables false
set_option linter.unusedSimpArgs false
set_option maxHeartbeats 1000000
set_option maxRecDepth 20000

abbrev hexS : List UInt8 := [48, 49, 50, 51, 52, 53, 54, 55, 56, 57, 97, 98, 99, 100, 101, 102]
theorem hexS_V : ∀ n : Fin 16, hexV hexS[n] = some n.1 := by decide
theorem V_hexS (c : UInt8) (n : Nat) (h : hexV c = some n) : ∃ k : n < 16, hexS[n] = c := by
  unfold hexV at h
  split at h
  · cases h
    refine ⟨by omega, ?_⟩
    rename_i hc
    have : c.toNat - 48 = 0 ∨ c.toNat - 48 = 1 ∨ c.toNat - 48 = 2 ∨ c.toNat - 48 = 3 ∨ c.toNat - 48 = 4 ∨ c.toNat - 48 = 5 ∨ c.toNat - 48 = 6 ∨ c.toNat - 48 = 7 ∨ c.toNat - 48 = 8 ∨ c.toNat - 48 = 9 := by omega
    rcases this with q | q | q | q | q | q | q | q | q | q <;> (simp only [q]; apply UInt8.toNat_inj.1; simp; omega)
  · split at h
    · cases h
      refine ⟨by omega, ?_⟩
      rename_i hc
      have : c.toNat - 87 = 10 ∨ c.toNat - 87 = 11 ∨ c.toNat - 87 = 12 ∨ c.toNat - 87 = 13 ∨ c.toNat - 87 = 14 ∨ c.toNat - 87 = 15 := by omega
      rcases this with q | q | q | q | q | q <;> (simp only [q]; apply UInt8.toNat_inj.1; simp; omega)
    · cases h
def digV (c : UInt8) : Int := match hexV c with
  | some n => (n : Int)
  | none => -1
theorem digit_spec (c : UInt8) (w : World) :
    Calls Tryd.prog 33 #[.int .u8 (c.toNat : Nat)] w (fun en w' => ∃ v, en = .returned v ∧ v = .int .i64 (digV c) ∧ Ext w w') := by
  refine calls' (n := 13) (rs := #[.tmp 2]) (l := [.int .u8 (c.toNat : Nat)]) Tryd.func33 rfl rfl rfl rfl rfl ?_
  have hX := Ext.refl w
  refine W_seq ?_
  refine W_region ?_
  refine op rfl (r_assignV (v := .int _ _) rfl) ?_
  refine WL_nil ?_
  refine W_seq ?_
  refine W_seq ?_
  refine W_region ?_
  refine op rfl (r_assignV (v := .int _ _) rfl) ?_
  refine WL_nil ?_
  refine W_block ?_
  refine W_loop [2, 3, 4, 5, 6, 7, 8, 9, 10, 11, 12] (fun q e' w' => ∃ i : Nat, q = 16 - i ∧ i ≤ 16 ∧ e' 3 = .int .i64 i ∧ (∀ k (h : k < 16), k < i → hexS[k] ≠ c) ∧ Ext w w') (16) ?_ ?_
  · exact ⟨0, by omega, by omega, rfl, fun k _ h => absurd h (Nat.not_lt_zero k), hX⟩
  intro k g w' hI
  obtain ⟨i, hq, hi, h3, hall, hX'⟩ := hI
  clear hX
  have hX := hX'
  refine W_set (i := 3) h3 ?_
  refine W_seq ?_
  refine W_seq ?_
  refine W_region ?_
  refine op rfl (r_moveV (v := .int _ _) rfl) ?_
  refine op rfl (r_lss rfl rfl) ?_
  refine WL_nil ?_
  refine W_ifp rfl (fun ht5 => ?_) (fun ht5 => ?_)
  · have hlt : i < 16 := by omega
    refine W_skip ?_
    refine W_seq ?_
    refine W_block ?_
    refine W_seq ?_
    refine W_region ?_
    refine op rfl (r_moveV (v := .int _ _) rfl) ?_
    refine op rfl (rt_index (l := hexS) (i := i) rfl rfl Tryd.underlying9 hlt) ?_
    refine op rfl (r_moveV (v := .int _ _) rfl) ?_
    refine op rfl (r_eql rfl rfl) ?_
    refine WL_nil ?_
    refine W_ifp rfl (fun ht11 => ?_) (fun ht11 => ?_)
    · refine W_seq ?_
      refine W_region ?_
      refine op rfl (r_moveV (v := .int _ _) rfl) ?_
      refine op rfl (r_assignV (v := .int _ _) rfl) ?_
      refine WL_nil ?_
      refine W_ret (blk_ret (blk_ret (finX_ret ?_)))
      refine fin1 ?_
      first
        | (have hc : hexS[i] = c := UInt8.toNat_inj.1 (by omega)
           have hv := hexS_V ⟨i, hlt⟩
           have hv' : hexV c = some i := by rw [← hc]; exact hv
           exact ⟨_, rfl, by unfold digV; rw [hv']; rfl, hX⟩)
        | (have hn : hexV c = none := by
             cases hv : hexV c with
             | none => rfl
             | some n =>
               obtain ⟨k, hk⟩ := V_hexS c n hv
               exact absurd hk (hall n k (by omega))
           exact ⟨_, rfl, by unfold digV; rw [hn]; rfl, hX⟩)
    · refine W_skip ?_
      refine W_region ?_
      refine op rfl (r_moveV (v := .int _ _) rfl) ?_
      refine op rfl (r_add' (r := ((i + 1 : Nat) : Int)) rfl rfl (by rw [wrap_i64 (by omega) (by omega)]; omega)) ?_
      refine op rfl (r_assignV (v := .int _ _) rfl) ?_
      refine WL_nil ?_
      refine ⟨?_, by repeat (first | with_reducible exact Out.refl _ _ | with_reducible exact Out.mix | refine Out.put rfl ?_ | refine Out.mixin rfl ?_ | exact Out.refl _ _ | exact Out.mix)⟩
      refine ⟨16 - (i + 1), by omega, i + 1, rfl, by omega, rfl, fun k h hk => ?_, hX⟩
      by_cases hki : k = i
      · subst hki
        intro q
        exact ht11 (by rw [q])
      · exact hall k h (by omega)
  · refine W_exit (blk_hit ?_)
    refine W_seq ?_
    refine W_region ?_
    refine op rfl (r_assignV (v := .int _ _) rfl) ?_
    refine WL_nil ?_
    refine W_ret (finX_ret ?_)
    refine fin1 ?_
    first
      | (have hc : hexS[i] = c := UInt8.toNat_inj.1 (by omega)
         have hv := hexS_V ⟨i, hlt⟩
         have hv' : hexV c = some i := by rw [← hc]; exact hv
         exact ⟨_, rfl, by unfold digV; rw [hv']; rfl, hX⟩)
      | (have hn : hexV c = none := by
           cases hv : hexV c with
           | none => rfl
           | some n =>
             obtain ⟨k, hk⟩ := V_hexS c n hv
             exact absurd hk (hall n k (by omega))
         exact ⟨_, rfl, by unfold digV; rw [hn]; rfl, hX⟩)
theorem hexS_D : ∀ n : Fin 16, hexS[n] = hexD n := by decide
theorem hex_at (n : Nat) (h : n < 16) : (hexS.drop n).take 1 = [hexD n] := by
  have := hexS_D ⟨n, h⟩
  rw [List.drop_eq_getElem_cons (by exact h)]
  simp only [List.take_succ_cons, List.take_zero]
  rw [show hexS[n] = hexD n from this]
theorem flat_take {s : List UInt8} {i : Nat} (h : i < s.length) : (s.take (i + 1)).flatMap quo1 = (s.take i).flatMap quo1 ++ quo1 s[i] := by
  rw [List.take_succ_eq_append_getElem h, List.flatMap_append, List.flatMap_cons, List.flatMap_nil, List.append_nil]
theorem flat_len (l : List UInt8) : (l.flatMap quo1).length ≤ 3 * l.length := by
  induction l with
  | nil => simp
  | cons c l ih =>
    rw [List.flatMap_cons, List.length_append, List.length_cons]
    have : (quo1 c).length ≤ 3 := by unfold quo1; split <;> simp
    omega
end Go.Proofs.YtafcaigjijajnaaDoor
