/-
  The walks of package crc.
-/
import Derived.Test.YtlidigdlcjhkfaaFacts
import Derived.Test.YtlidigdlcjhkfaaBits
import Derived.Test.YtlidigdlcjhkfaaCrcM
namespace Go.Proofs.Ytlidigdlcjhkfaa
open Go Go.Eng Go.RowKit Go.Proofs

theorem step_eq (n : Crc.B) : n >>> 1 ^^^ Crc.poly * (n &&& 1#32) = Crc.step n := by
  unfold Crc.step
  congr 1
  have h : n &&& 1#32 = if n.getLsbD 0 then 1#32 else 0#32 := by
    apply BitVec.eq_of_getLsbD_eq
    intro i hi
    cases i with
    | zero => cases h : n.getLsbD 0 <;> simp_all
    | succ i => cases n.getLsbD 0 <;> simp
  rw [h]
  cases n.getLsbD 0 <;> simp
theorem step_spec (n : Crc.B) (w : World) : Calls Try.prog 56 #[.int .u32 n.toNat] w (fun en w' => ∃ v, en = .returned v ∧ v = .int .u32 (Crc.step n).toNat ∧ w' = w) := by
  refine calls' (n := 9) (rs := #[.tmp 2]) (l := [.int .u32 n.toNat]) Try.func56 rfl rfl rfl rfl rfl ?_
  refine W_seq ?_
  refine W_region ?_
  refine op rfl (r_assignV (v := .int _ _) rfl) ?_
  refine WL_nil ?_
  refine W_seq ?_
  refine W_region ?_
  refine op rfl (r_moveV (v := .int _ _) rfl) ?_
  refine op rfl (r_shr32 (k := 1) rfl rfl rfl) ?_
  refine op rfl (r_moveV (v := .int _ _) rfl) ?_
  refine op rfl (r_and32 (b := 1#32) rfl rfl) ?_
  refine op rfl (r_mul32 (a := Crc.poly) rfl rfl) ?_
  refine op rfl (r_xor32 rfl rfl) ?_
  refine op rfl (r_assignV (v := .int _ _) rfl) ?_
  refine WL_nil ?_
  refine W_ret (finX_ret ?_)
  refine fin1 ?_
  exact ⟨_, rfl, by rw [← step_eq]; rfl, rfl⟩

def tabV : Array Value := ((List.range 256).map fun i => Value.int .u32 (Crc.steps 8 (BitVec.ofNat 32 i)).toNat).toArray
def tabTo (i : Nat) : Array Value := ((List.range 256).map fun j => if j < i then Value.int .u32 (Crc.steps 8 (BitVec.ofNat 32 j)).toNat else .int .u32 0).toArray
theorem tabTo_zero : tabTo 0 = Array.replicate 256 (.int .u32 0) := by
  apply Array.ext_getElem?
  intro i
  simp only [tabTo, List.getElem?_toArray, List.getElem?_map, Array.getElem?_replicate]
  by_cases h : i < 256 <;> simp [h]
theorem tabTo_all : tabTo 256 = tabV := by
  apply Array.ext_getElem?
  intro j
  simp only [tabTo, tabV, List.getElem?_toArray, List.getElem?_map]
  by_cases hj : j < 256 <;> simp [hj]
theorem tabTo_size (i : Nat) : (tabTo i).size = 256 := by simp [tabTo]
theorem tabTo_set (i : Nat) (h : i < 256) : (tabTo i).setIfInBounds i (.int .u32 (Crc.steps 8 (BitVec.ofNat 32 i)).toNat) = tabTo (i + 1) := by
  apply Array.ext_getElem?
  intro j
  simp only [tabTo, Array.getElem?_setIfInBounds, List.getElem?_toArray, List.getElem?_map]
  by_cases hij : i = j
  · subst hij; simp [h]
  · by_cases hj : j < 256
    · have : (j < i) ↔ (j < i + 1) := by omega
      simp [hij, hj, this]
    · simp [hij, hj]
theorem tabTo_get (i j : Nat) (h : j < 256) : ∃ v, (tabTo i)[j]? = some v := ⟨_, by simp [tabTo, h]; rfl⟩
theorem tabTo_one (i : Nat) : (tabTo i).all (·.oneCell') = true := by
  rw [Array.all_eq_true]
  intro j hj
  have hj' : j < 256 := by simpa [tabTo] using hj
  simp only [tabTo]
  simp
  split <;> rfl

theorem table_spec (w : World) : Calls Try.prog 55 #[] w (fun en w' => ∃ v, en = .returned v ∧ v = .agg tabV ∧ Ext w w') := by
  refine calls' (n := 19) (rs := #[.cell 0 98]) (l := []) Try.func55 rfl rfl rfl rfl rfl ?_
  refine W_seq ?_
  refine W_region ?_
  refine op_alloc rfl Try.zero98 ?_
  intro w0_0 b0_0 E0_0 B0_0 L0_0
  refine WL_nil ?_
  refine W_seq ?_
  refine W_region ?_
  refine op_alloc rfl Try.zero98 ?_
  intro w1_0 b1_0 E1_0 B1_0 L1_0
  have hlt := Blk.lt B0_0
  replace B0_0 := B0_0.ext E1_0
  have E1 := E0_0.trans E1_0
  refine WL_nil ?_
  refine W_seq ?_
  refine W_seq ?_
  refine W_region ?_
  refine op rfl (r_moveV (v := .int _ _) rfl) ?_
  refine WL_nil ?_
  refine W_block ?_
  refine W_loop [2, 3, 4, 5, 6, 7, 8, 9, 10, 11, 12, 13, 14, 15, 16, 17] (fun k g w' => ∃ i : Nat, g 4 = .int .i64 i ∧ i ≤ 256 ∧ k = 256 - i ∧ Below w.heap.size w w' ∧ Blk w' b0_0 (Array.replicate 256 (.int .u32 0)) 98 ∧ Blk w' b1_0 (tabTo i) 98) (256) ?_ ?_
  · exact ⟨0, rfl, by omega, by omega, E1, B0_0, by rw [tabTo_zero]; exact B1_0⟩
  intro k g w' hI
  obtain ⟨i, h4, hi, rfl, HE, HB0, HB⟩ := hI
  refine W_set (i := 4) h4 ?_
  refine W_seq ?_
  refine W_region ?_
  refine op rfl (r_lss rfl rfl) ?_
  refine WL_nil ?_
  refine W_seq ?_
  refine W_ifp rfl (fun ht5 => ?_) (fun ht5 => ?_)
  · refine W_skip ?_
    refine W_seq ?_
    refine W_block ?_
    refine W_seq ?_
    refine W_region ?_
    refine op rfl (r_moveV (v := .int _ _) rfl) ?_
    refine op rfl (r_assignV (v := .int _ _) rfl) ?_
    refine WL_nil ?_
    refine W_seq ?_
    refine W_region ?_
    refine op rfl (r_moveV (v := .int _ _) rfl) ?_
    refine op rfl (r_conv' rfl Try.underlying3 Try.underlying92 (r := ((BitVec.ofNat 32 i).toNat : Int)) (by rw [wrap_u32_mod]; simp)) ?_
    refine op rfl (r_assignV (v := .int _ _) rfl) ?_
    refine WL_nil ?_
    refine W_seq ?_
    refine W_seq ?_
    refine W_region ?_
    refine op rfl (r_moveV (v := .int _ _) rfl) ?_
    refine WL_nil ?_
    refine W_block ?_
    refine W_loop [3, 9, 10, 11, 12, 13] (fun k g w'' => ∃ j : Nat, g 9 = .int .i64 j ∧ j ≤ 8 ∧ k = 8 - j ∧ g 3 = .int .u32 (Crc.steps j (BitVec.ofNat 32 i)).toNat ∧ w'' = w') (8) ?_ ?_
    · exact ⟨0, rfl, by omega, by omega, rfl, rfl⟩
    intro k g w' hI
    obtain ⟨j, h9, hj, rfl, h3, rfl⟩ := hI
    refine W_set (i := 9) h9 ?_
    refine W_set (i := 3) h3 ?_
    refine W_seq ?_
    refine W_region ?_
    refine op rfl (r_lss rfl rfl) ?_
    refine WL_nil ?_
    refine W_seq ?_
    refine W_ifp rfl (fun ht10 => ?_) (fun ht10 => ?_)
    · refine W_skip ?_
      refine W_seq ?_
      refine W_block ?_
      refine W_region ?_
      refine op rfl (r_moveV (v := .int _ _) rfl) ?_
      refine opCv rfl (r_call Try.func56 Try.nm56 rfl) (step_spec _ _) ?_
      rintro v w2 ⟨rfl, rfl⟩
      refine op rfl (r_assignV (v := .int _ _) rfl) ?_
      refine WL_nil ?_
      refine W_region ?_
      refine op rfl (r_add' rfl rfl (wrap_i64 (by omega) (by omega))) ?_
      refine op rfl (r_moveV (v := .int _ _) rfl) ?_
      refine WL_nil ?_
      refine ⟨?_, by repeat (first | with_reducible exact Out.refl _ _ | with_reducible exact Out.mix | refine Out.put rfl ?_ | refine Out.mixin rfl ?_ | exact Out.refl _ _ | exact Out.mix)⟩
      exact ⟨8 - (j + 1), by omega, j + 1, rfl, by omega, rfl, by rw [Crc.steps_succ]; rfl, rfl⟩
    · obtain rfl : j = 8 := by omega
      refine W_exit (blk_hit ?_)
      refine W_region ?_
      refine op rfl (r_moveV (v := .int _ _) rfl) ?_
      refine op rfl (r_moveV (v := .int _ _) rfl) ?_
      refine op rfl (r_indexAddr_arr1 rfl rfl Try.underlying98 Try.sz92 (by omega) (by omega)) ?_
      obtain ⟨v0, hv0⟩ := tabTo_get i i (by omega)
      have hc0 : w'.cell? ⟨b1_0, 0 + (i : Int).toNat, none⟩ = some v0 := HB.cell (by simpa using hv0)
      have hf0 : w'.frozen? ⟨b1_0, 0 + (i : Int).toNat, none⟩ = false := HB.free
      refine opU (r_store (v := .int _ _) rfl rfl rfl Try.sz92 hc0 hf0) ?_
      refine WL_nil ?_
      refine W_region ?_
      refine op rfl (r_add' rfl rfl (wrap_i64 (by omega) (by omega))) ?_
      refine op rfl (r_moveV (v := .int _ _) rfl) ?_
      refine WL_nil ?_
      refine ⟨?_, by repeat (first | with_reducible exact Out.refl _ _ | with_reducible exact Out.mix | refine Out.put rfl ?_ | refine Out.mixin rfl ?_ | exact Out.refl _ _ | exact Out.mix)⟩
      exact ⟨256 - (i + 1), by omega, i + 1, rfl, by omega, rfl, below_setCell HE (by show w.heap.size ≤ b1_0; omega) _, HB0.set_other (by show b0_0 ≠ b1_0; omega) _, by have := HB.set (i := i) (Value.int .u32 (Crc.steps 8 (BitVec.ofNat 32 i)).toNat); rw [tabTo_set i (by omega)] at this; simpa using this⟩
  · obtain rfl : i = 256 := by omega
    refine W_exit (blk_hit ?_)
    refine W_seq ?_
    refine W_region ?_
    refine op rfl (r_load_row (c := tabV) rfl Try.underlying98 rfl (by rw [← tabTo_all, tabTo_size]; exact Try.sz98) (by rw [← tabTo_all]; exact HB)) ?_
    refine opU (r_store_row rfl rfl (by rw [← tabTo_all, tabTo_size]; exact Try.sz98) HB0 (by rw [← tabTo_all, tabTo_size]; simp) (by rw [← tabTo_all]; exact tabTo_one 256)) ?_
    refine WL_nil ?_
    refine W_ret (finX_ret ?_)
    refine fin_cell rfl (HB0.setRow (c' := tabV)) Try.underlying98 rfl (by rw [← tabTo_all, tabTo_size]; exact Try.sz98) ?_
    exact ⟨_, rfl, rfl, below_setRow HE (Nat.le_of_eq L0_0) _⟩

theorem tabV_get (c : BitVec 8) : tabV[0 + (c.toNat : Int).toNat]? = some (.int .u32 (Crc.steps 8 (c.setWidth 32)).toNat) := by
  have := c.isLt
  have e : c.setWidth 32 = BitVec.ofNat 32 c.toNat := by
    apply BitVec.eq_of_toNat_eq
    simp
  simp only [tabV, List.getElem?_toArray, List.getElem?_map, e]
  rw [show 0 + (c.toNat : Int).toNat = c.toNat from by omega, List.getElem?_range (by omega)]
  rfl

/-- The bytes of a slice, in memory that was there. -/
abbrev Bytes (w : World) (A : Option Addr) (l : List UInt8) : Prop := Ty.byte.Row w (old w) A l

theorem more_spec (n : Crc.B) (A : Option Addr) (c : Nat) (l : List UInt8) (w : World) (hl : l.length ≤ big) (hA : Bytes w A l) :
    Calls Try.prog 54 #[.int .u32 n.toNat, .slice A l.length c] w (fun en w' => ∃ v, en = .returned v ∧ v = .int .u32 (Crc.more n l).toNat ∧ Ext w w') := by
  unfold big at hl
  refine calls' (n := 29) (rs := #[.tmp 4]) (l := [.int .u32 n.toNat, .slice A l.length c]) Try.func54 rfl rfl rfl rfl rfl ?_
  refine W_seq ?_
  refine W_region ?_
  refine op rfl (r_assignV (v := .int _ _) rfl) ?_
  refine WL_nil ?_
  refine W_seq ?_
  refine W_region ?_
  refine opCv rfl (r_call Try.func55 Try.nm55 rfl) (table_spec _) ?_
  rintro v w1 ⟨rfl, E1⟩
  refine op_alloc rfl Try.zero98 ?_
  intro w1_1 b1_1 E1_1 B1_1 L1_1
  refine opU (r_store_row (c' := tabV) rfl rfl (by rw [← tabTo_all, tabTo_size]; exact Try.sz98) B1_1 (by rw [← tabTo_all, tabTo_size]; exact Array.size_replicate) (by rw [← tabTo_all]; exact tabTo_one 256)) ?_
  have HB := B1_1.setRow (c' := tabV)
  have HE : Ext w (w1_1.setRow b1_1 tabV) := below_setRow (E1.trans E1_1) (by have := E1.size; omega) _
  have HA := hA.ext HE
  clear B1_1 E1_1 L1_1
  generalize w1_1.setRow b1_1 tabV = w2 at HB HE HA ⊢
  clear E1
  refine WL_nil ?_
  refine W_seq ?_
  refine W_region ?_
  refine op rfl (r_moveV (v := .int _ _) rfl) ?_
  refine op rfl (r_not32 rfl) ?_
  refine op rfl (r_assignV (v := .int _ _) rfl) ?_
  refine WL_nil ?_
  refine W_seq ?_
  refine W_seq ?_
  refine W_region ?_
  refine op rfl (r_moveV (v := .slice _ _ _) rfl) ?_
  refine op rfl (r_len_slice rfl Try.underlying23) ?_
  refine op rfl (r_moveV (v := .int _ _) rfl) ?_
  refine WL_nil ?_
  refine W_block ?_
  refine W_loop [0, 7, 13, 14, 15, 16, 17, 18, 19, 20, 21, 22, 23, 24, 25, 26] (fun k g w' => ∃ i : Nat, g 13 = .int .i64 i ∧ i ≤ l.length ∧ k = l.length - i ∧ g 0 = .int .u32 (Crc.upd (~~~ n) (l.take i)).toNat ∧ w' = w2) (l.length) ?_ ?_
  · exact ⟨0, rfl, by omega, by omega, rfl, rfl⟩
  intro k g w' hI
  obtain ⟨i, h13, hi, rfl, h0, rfl⟩ := hI
  refine W_set (i := 13) h13 ?_
  refine W_set (i := 0) h0 ?_
  refine W_seq ?_
  refine W_region ?_
  refine op rfl (r_lss rfl rfl) ?_
  refine WL_nil ?_
  refine W_seq ?_
  refine W_ifp rfl (fun ht14 => ?_) (fun ht14 => ?_)
  · replace ht14 : i < l.length := by omega
    obtain ⟨b1, o1, hAe, _, _, hc⟩ := HA.cell ht14
    refine W_skip ?_
    refine W_seq ?_
    refine W_block ?_
    refine W_seq ?_
    refine W_region ?_
    refine op rfl (r_indexAddr1 rfl rfl (by assumption) Try.underlying23 Try.sz5 (by omega) (by omega)) ?_
    refine op rfl (r_load rfl Try.underlying5 rfl (by assumption)) ?_
    refine op rfl (r_assignV (v := .int _ _) rfl) ?_
    refine WL_nil ?_
    refine W_region ?_
    refine op rfl (r_moveV (v := .int _ _) rfl) ?_
    refine op rfl (r_shr32 (k := 8) rfl rfl rfl) ?_
    refine op rfl (r_moveV (v := .int _ _) rfl) ?_
    refine op rfl (r_conv32_8 rfl Try.underlying92 Try.underlying5) ?_
    refine op rfl (r_moveV (v := .int _ _) rfl) ?_
    refine op rfl (r_xor8 (b := l[i].toBitVec) rfl rfl) ?_
    refine op rfl (r_indexAddr_arr1 rfl rfl Try.underlying98 Try.sz92 (Int.natCast_nonneg _) (by have := BitVec.isLt ((Crc.upd (~~~ n) (l.take i)).setWidth 8 ^^^ l[i].toBitVec); omega)) ?_
    refine op rfl (r_load rfl Try.underlying92 rfl (HB.cell (tabV_get _))) ?_
    refine op rfl (r_xor32 rfl rfl) ?_
    refine op rfl (r_assignV (v := .int _ _) rfl) ?_
    refine WL_nil ?_
    refine W_region ?_
    refine op rfl (r_add' rfl rfl (wrap_i64 (by omega) (by omega))) ?_
    refine op rfl (r_moveV (v := .int _ _) rfl) ?_
    refine WL_nil ?_
    refine ⟨?_, by repeat (first | with_reducible exact Out.refl _ _ | with_reducible exact Out.mix | refine Out.put rfl ?_ | refine Out.mixin rfl ?_ | exact Out.refl _ _ | exact Out.mix)⟩
    exact ⟨l.length - (i + 1), by omega, i + 1, rfl, by omega, rfl, by rw [List.take_succ_eq_append_getElem ht14, Crc.upd_append]; exact congrArg (fun x : Crc.B => Value.int .u32 (x.toNat : Int)) (Crc.byte_table _ _), rfl⟩
  · have hil : i = l.length := by omega
    refine W_exit (blk_hit ?_)
    refine W_seq ?_
    refine W_region ?_
    refine op rfl (r_moveV (v := .int _ _) rfl) ?_
    refine op rfl (r_not32 rfl) ?_
    refine op rfl (r_assignV (v := .int _ _) rfl) ?_
    refine WL_nil ?_
    refine W_ret (finX_ret ?_)
    refine fin1 ?_
    exact ⟨_, rfl, by rw [hil, List.take_length]; rfl, HE⟩

abbrev BytesL (w : World) (A : Option Addr) (l : List (List UInt8)) : Prop := Ty.byte.slice.Row w (old w) A l

theorem sum_spec (A : Option Addr) (c : Nat) (l : List (List UInt8)) (w : World) (hl : l.length ≤ big) (hA : BytesL w A l) :
    Calls Try.prog 52 #[.slice A l.length c] w (fun en w' => ∃ v, en = .returned v ∧ v = .int .u32 (Crc.sum l).toNat ∧ Ext w w') := by
  unfold big at hl
  refine calls' (n := 17) (rs := #[.tmp 2]) (l := [.slice A l.length c]) Try.func52 rfl rfl rfl rfl rfl ?_
  refine W_seq ?_
  refine W_region ?_
  refine op rfl (r_assignV (v := .int _ _) rfl) ?_
  refine WL_nil ?_
  refine W_seq ?_
  refine W_region ?_
  refine op rfl (r_assignV (v := .int _ _) rfl) ?_
  refine WL_nil ?_
  refine W_seq ?_
  refine W_seq ?_
  refine W_region ?_
  refine op rfl (r_moveV (v := .slice _ _ _) rfl) ?_
  refine op rfl (r_len_slice rfl Try.underlying22) ?_
  refine op rfl (r_moveV (v := .int _ _) rfl) ?_
  refine WL_nil ?_
  refine W_block ?_
  refine W_loop [3, 5, 8, 9, 10, 11, 12, 13, 14, 15] (fun k g w' => ∃ i : Nat, g 8 = .int .i64 i ∧ i ≤ l.length ∧ k = l.length - i ∧ g 3 = .int .u32 (Crc.sum (l.take i)).toNat ∧ Ext w w') (l.length) ?_ ?_
  · exact ⟨0, rfl, by omega, by omega, rfl, Ext.refl _⟩
  intro k g w' hI
  obtain ⟨i, h8, hi, rfl, h3, HE⟩ := hI
  refine W_set (i := 8) h8 ?_
  refine W_set (i := 3) h3 ?_
  refine W_seq ?_
  refine W_region ?_
  refine op rfl (r_lss rfl rfl) ?_
  refine WL_nil ?_
  refine W_seq ?_
  refine W_ifp rfl (fun ht9 => ?_) (fun ht9 => ?_)
  · replace ht9 : i < l.length := by omega
    obtain ⟨b1, o1, Ai, ci, hAe, _, hc, hci, hcm, hr⟩ := (hA.ext HE).cellS ht9
    refine W_skip ?_
    refine W_seq ?_
    refine W_block ?_
    refine W_seq ?_
    refine W_region ?_
    refine op rfl (r_indexAddr1 rfl rfl (by assumption) Try.underlying22 Try.sz23 (by omega) (by omega)) ?_
    refine op rfl (r_load rfl Try.underlying23 rfl (by assumption)) ?_
    refine op rfl (r_assignV (v := .slice _ _ _) rfl) ?_
    refine WL_nil ?_
    refine W_region ?_
    refine op rfl (r_moveV (v := .int _ _) rfl) ?_
    refine op rfl (r_moveV (v := .slice _ _ _) rfl) ?_
    refine opCv rfl (r_call Try.func54 Try.nm54 rfl) (more_spec _ _ _ _ _ hcm hr) ?_
    rintro v w2 ⟨rfl, hE⟩
    refine op rfl (r_assignV (v := .int _ _) rfl) ?_
    refine WL_nil ?_
    refine W_region ?_
    refine op rfl (r_add' rfl rfl (wrap_i64 (by omega) (by omega))) ?_
    refine op rfl (r_moveV (v := .int _ _) rfl) ?_
    refine WL_nil ?_
    refine ⟨?_, by repeat (first | with_reducible exact Out.refl _ _ | with_reducible exact Out.mix | refine Out.put rfl ?_ | refine Out.mixin rfl ?_ | exact Out.refl _ _ | exact Out.mix)⟩
    exact ⟨l.length - (i + 1), by omega, i + 1, rfl, by omega, rfl, by rw [List.take_succ_eq_append_getElem ht9, Crc.sum_snoc]; rfl, HE.trans hE⟩
  · have hil : i = l.length := by omega
    refine W_exit (blk_hit ?_)
    refine W_seq ?_
    refine W_region ?_
    refine op rfl (r_moveV (v := .int _ _) rfl) ?_
    refine op rfl (r_assignV (v := .int _ _) rfl) ?_
    refine WL_nil ?_
    refine W_ret (finX_ret ?_)
    refine fin1 ?_
    exact ⟨_, rfl, by rw [hil, List.take_length]; rfl, HE⟩
end Go.Proofs.Ytlidigdlcjhkfaa
