/-
  The walks of what paths need of Go's library, and of package path.
-/
import Derived.Test.YtafcaigjijajnaaDoorFacts
import Derived.Test.YtafcaigjijajnaaDoorPathM
import Derived.Test.YtafcaigjijajnaaDoorGenB
import Derived.Test.YtafcaigjijajnaaDoorGenA
namespace Go.Proofs.YtafcaigjijajnaaDoor
open Go Go.Eng Go.RowKit Go.Proofs
set_option linter.unusedVariables false
set_option linter.unusedSimpArgs false
set_option maxHeartbeats 2000000

theorem findNext_ibs : Extern.findNext Tryd.f90 = none := by kernel_rfl
theorem find_ibs : Extern.find Tryd.f90 = some Extern.BytealgIndexByte.indexByte := by rfl
theorem indexByte_spec (l : List UInt8) (c : UInt8) (w : World) :
    Calls Tryd.prog 85 #[.string (str l), .int .u8 (c.toNat : Nat)] w (fun en w' => ∃ v, en = .returned v ∧ v = .int .i64 (Lib.indexByte l c) ∧ Ext w w') := by
  refine calls' (n := 8) (rs := #[.tmp 4]) (l := [.string (str l), .int .u8 (c.toNat : Nat)]) Tryd.func85 rfl rfl rfl rfl rfl ?_
  refine W_seq ?_
  refine W_region ?_
  refine op rfl (r_assignV (v := .int _ _) rfl) ?_
  refine WL_nil ?_
  refine W_seq ?_
  refine W_region ?_
  refine op rfl (r_moveV (v := .string _) rfl) ?_
  refine op rfl (r_moveV (v := .int _ _) rfl) ?_
  refine op rfl (r_indexByteS Tryd.func90 Tryd.nm90 rfl findNext_ibs find_ibs rfl rfl rfl) ?_
  refine op rfl (r_assignV (v := .int _ _) rfl) ?_
  refine WL_nil ?_
  refine W_ret (finX_ret ?_)
  refine fin1 ?_
  exact ⟨_, rfl, rfl, Ext.refl _⟩
theorem index_self (c : UInt8) : Lib.indexByte [c] c = 0 := by simp [Lib.indexByte]
/-- Where a sign of one byte is. -/
theorem sindex_spec (l : List UInt8) (c : UInt8) (w : World) :
    Calls Tryd.prog 76 #[.string (str l), .string (str [c])] w (fun en w' => ∃ v, en = .returned v ∧ v = .int .i64 (Lib.indexByte l c) ∧ Ext w w') := by
  refine calls' (n := 143) (rs := #[.tmp 4]) (l := [.string (str l), .string (str [c])]) Tryd.func76 rfl rfl rfl rfl rfl ?_
  have hX := Ext.refl w
  refine W_seq ?_
  refine W_region ?_
  refine op rfl (r_assignV (v := .int _ _) rfl) ?_
  refine WL_nil ?_
  refine W_seq ?_
  refine W_region ?_
  refine op rfl (r_moveV (v := .string _) rfl) ?_
  refine op rfl (rt_len rfl Tryd.underlying9) ?_
  refine op rfl (r_assignV (v := .int _ _) rfl) ?_
  refine WL_nil ?_
  refine W_seq ?_
  refine W_block ?_
  refine W_seq ?_
  refine W_region ?_
  refine op rfl (r_moveV (v := .int _ _) rfl) ?_
  refine op rfl (r_eql rfl rfl) ?_
  refine op_false rfl (r_moveV (v := .bool (decide _)) rfl) (by simp) ?_
  refine opG_yes rfl rfl rfl rfl rfl (r_moveV (v := .string _) rfl) ?_
  refine opG_yes rfl rfl rfl rfl rfl (r_moveV (v := .string _) rfl) ?_
  refine opG_yes rfl rfl rfl rfl rfl (rt_eql rfl rfl) ?_
  refine op rfl (r_pickFV (v := .bool _) rfl rfl) ?_
  refine op rfl (r_assignV (v := .bool _) rfl) ?_
  refine WL_nil ?_
  refine W_ifp rfl (fun ht16 => ?_) (fun ht16 => ?_)
  · refine W_seq ?_
    refine W_region ?_
    refine op rfl (r_assignV (v := .int _ _) rfl) ?_
    refine WL_nil ?_
    refine W_ret (blk_ret (finX_ret ?_))
    refine fin1 ?_
    first
      | exact ⟨_, rfl, rfl, hX⟩
      | (have e : l = [c] := ht16.symm
         subst e
         exact ⟨_, rfl, by rw [index_self]; rfl, hX⟩)
  · refine W_seq ?_
    refine W_region ?_
    refine op rfl (r_moveV (v := .int _ _) rfl) ?_
    refine op rfl (r_eql rfl rfl) ?_
    refine op rfl (r_assignV (v := .bool _) rfl) ?_
    refine WL_nil ?_
    refine W_ifp rfl (fun ht24 => ?_) (fun ht24 => ?_)
    · refine W_seq ?_
      refine W_region ?_
      refine op rfl (r_moveV (v := .string _) rfl) ?_
      refine op rfl (r_moveV (v := .string _) rfl) ?_
      refine op rfl (rt_index (i := 0) rfl rfl Tryd.underlying9 (by simp)) ?_
      refine opCv rfl (r_call Tryd.func85 Tryd.nm85 rfl) (indexByte_spec l c _) ?_
      rintro v w2 ⟨rfl, hE⟩
      replace hX := hX.trans hE
      refine op rfl (r_assignV (v := .int _ _) rfl) ?_
      refine WL_nil ?_
      refine W_ret (blk_ret (finX_ret ?_))
      refine fin1 ?_
      first
        | exact ⟨_, rfl, rfl, hX⟩
        | (have e : l = [c] := ht16.symm
           subst e
           exact ⟨_, rfl, by rw [index_self]; rfl, hX⟩)
    · exact absurd (by simp) ht24
theorem index_spec (l : List UInt8) (c : UInt8) (w : World) :
    Calls Tryd.prog 58 #[.string (str l), .string (str [c])] w (fun en w' => ∃ v, en = .returned v ∧ v = .int .i64 (Lib.indexByte l c) ∧ Ext w w') := by
  refine calls' (n := 8) (rs := #[.tmp 4]) (l := [.string (str l), .string (str [c])]) Tryd.func58 rfl rfl rfl rfl rfl ?_
  have hX := Ext.refl w
  refine W_seq ?_
  refine W_region ?_
  refine op rfl (r_assignV (v := .int _ _) rfl) ?_
  refine WL_nil ?_
  refine W_seq ?_
  refine W_region ?_
  refine op rfl (r_moveV (v := .string _) rfl) ?_
  refine op rfl (r_moveV (v := .string _) rfl) ?_
  refine opCv rfl (r_call Tryd.func76 Tryd.nm76 rfl) (sindex_spec l c _) ?_
  rintro v w2 ⟨rfl, hE⟩
  replace hX := hX.trans hE
  refine op rfl (r_assignV (v := .int _ _) rfl) ?_
  refine WL_nil ?_
  refine W_ret (finX_ret ?_)
  refine fin1 ?_
  exact ⟨_, rfl, rfl, hX⟩
/-- What the pieces of a text need of the loop: their three cells. -/
structure Ks (b1 b2 b3 : Nat) (w w' : World) : Prop where
  size : w.heap.size ≤ w'.heap.size
  s1 : w'.heap[b1]? = w.heap[b1]?
  s2 : w'.heap[b2]? = w.heap[b2]?
  s3 : w'.heap[b3]? = w.heap[b3]?
theorem Ks.trans {b1 b2 b3 : Nat} {a b c : World} (h : Ks b1 b2 b3 a b) (k : Ks b1 b2 b3 b c) : Ks b1 b2 b3 a c :=
  ⟨Nat.le_trans h.size k.size, k.s1.trans h.s1, k.s2.trans h.s2, k.s3.trans h.s3⟩
theorem Ks.ext {b1 b2 b3 : Nat} {w w' : World} (h : Ext w w') (h1 : b1 < w.heap.size) (h2 : b2 < w.heap.size) (h3 : b3 < w.heap.size) : Ks b1 b2 b3 w w' := ⟨h.size, h.block _ h1, h.block _ h2, h.block _ h3⟩
theorem Ks.turn {b1 b2 b3 B : Nat} {w w' : World} (h : Turn B w w') (h1 : b1 < B) (h2 : b2 < B) (h3 : b3 < B) (hw : B ≤ w.heap.size) : Ks b1 b2 b3 w w' := ⟨h.size, h.block _ (by omega) (Or.inl h1), h.block _ (by omega) (Or.inl h2), h.block _ (by omega) (Or.inl h3)⟩
theorem split_iter (b1 b2 b3 : Nat) (c : UInt8) (l : List UInt8) (w : World) (B1 : Blk w b1 #[.string (str [c])] 9) (B2 : Blk w b2 #[.string (str l)] 9) (B3 : Blk w b3 #[.int .i64 0] 3) (h12 : b1 ≠ b2) (h23 : b2 ≠ b3) (hl : l.length ≤ 9223372036854775800) :
    IterZ (fun b => b = b2) Tryd.prog 63 #[.pointer (some ⟨b1, 0, none⟩), .pointer (some ⟨b2, 0, none⟩), .pointer (some ⟨b3, 0, none⟩)] (fun p : List UInt8 => #[.string (str p)]) (Ks b1 b2 b3) (fun xs _ => ∃ r, xs ++ r = parts c l) (fun xs => xs = parts c l) (fun pre => ∃ r, pre ++ r = parts c l) w := by
  intro q J Jx W hW hJ hJx hY h0
  replace B1 := B1.ext hW
  replace B2 := B2.ext hW
  replace B3 := B3.ext hW
  show Calls Tryd.prog 63 #[.func (.yield q) #[] #[], .pointer (some ⟨b1, 0, none⟩), .pointer (some ⟨b2, 0, none⟩), .pointer (some ⟨b3, 0, none⟩)] W _
  refine calls' (n := 52) (rs := #[]) (l := [.func (.yield q) #[] #[], .pointer (some ⟨b1, 0, none⟩), .pointer (some ⟨b2, 0, none⟩), .pointer (some ⟨b3, 0, none⟩)]) Tryd.func63 rfl rfl rfl rfl rfl ?_
  have hX := Ext.refl W
  refine W_seq ?_
  refine W_seq ?_
  refine W_region ?_
  refine op rfl (r_load (v := .string (str [c])) rfl Tryd.underlying9 rfl (Blk.cell B1 rfl)) ?_
  refine op rfl (rt_len rfl Tryd.underlying9) ?_
  refine op rfl (r_eql rfl rfl) ?_
  refine WL_nil ?_
  refine W_ifp rfl (fun ht11 => ?_) (fun ht11 => ?_)
  · exact absurd ht11 (by simp)
  · refine W_skip ?_
    refine W_seq ?_
    refine W_block ?_
    refine W_loop [7, 8, 29, 30, 31, 32, 33, 34, 35, 36, 37, 38, 39, 40, 41, 42, 43, 44, 45, 46, 47, 48] (fun k e' w' => ∃ (pre : List (List UInt8)) (r : List UInt8), k = r.length ∧ Blk w' b1 #[.string (str [c])] 9 ∧ Blk w' b2 #[.string (str r)] 9 ∧ Blk w' b3 #[.int .i64 0] 3 ∧ pre ++ parts c r = parts c l ∧ r.length ≤ l.length ∧ J pre w') (l.length) ?_ ?_
    · exact ⟨[], l, rfl, B1, B2, B3, rfl, Nat.le_refl _, h0⟩
    intro k g w' hI
    obtain ⟨pre, r, rfl, B1', B2', B3', hpp, hrl, hj⟩ := hI
    clear B1 B2 B3 hX
    have B1 := B1'
    have B2 := B2'
    have B3 := B3'
    clear B1' B2' B3'
    have hX := Ext.refl w'
    have hpi := parts_index c r
    refine W_block ?_
    refine W_seq ?_
    refine W_region ?_
    refine op rfl (r_load (v := .string (str r)) rfl Tryd.underlying9 rfl (Blk.cell B2 rfl)) ?_
    refine op rfl (r_load (v := .string (str [c])) rfl Tryd.underlying9 rfl (Blk.cell B1 rfl)) ?_
    refine opCv rfl (r_call Tryd.func58 Tryd.nm58 rfl) (index_spec r c _) ?_
    rintro v w5 ⟨rfl, hE⟩
    replace B1 := Blk.ext B1 hE
    replace B2 := Blk.ext B2 hE
    replace B3 := Blk.ext B3 hE
    replace hX := hX.trans hE
    have hj5 := hJ _ _ _ hj (Mv.of_ext hE)
    refine op rfl (r_assignV (v := .int _ _) rfl) ?_
    refine WL_nil ?_
    refine W_seq ?_
    refine W_seq ?_
    refine W_region ?_
    refine op rfl (r_moveV (v := .int _ _) rfl) ?_
    refine op rfl (r_lss rfl rfl) ?_
    refine WL_nil ?_
    refine W_ifp rfl (fun ht33 => ?_) (fun ht33 => ?_)
    · have hp3 : parts c r = [r] := by
        rcases hpi with ⟨_, h, _⟩ | ⟨i, h, _⟩
        · exact h
        · omega
      rw [hp3] at hpp
      refine W_exit (blk_miss rfl (blk_hit ?_))
      refine W_region ?_
      refine op rfl (r_moveV (v := .func (.yield q) #[] #[]) rfl) ?_
      refine op rfl (r_load (v := .string (str r)) rfl Tryd.underlying9 rfl (Blk.cell B2 rfl)) ?_
      refine op_yield rfl rfl (r_yield rfl) (hY pre r w5 hj5 ⟨[], by rw [List.append_nil]; exact hpp⟩) ?_
      rintro en w10_2 (⟨rfl, hJ8, hK8⟩ | ⟨rfl, hJ8⟩)
      · refine ⟨_, rfl, ?_⟩
        refine WL_nil ?_
        refine fin0 ?_
        first
          | exact ⟨⟨_, rfl⟩, Or.inl ⟨_, rfl, ⟨[], by rw [List.append_nil]⟩, by rw [← hpp]; exact hJ8⟩⟩
          | exact ⟨⟨_, rfl⟩, Or.inr ⟨_, ⟨[], by rw [List.append_nil]; exact hpp⟩, hJ8⟩⟩
          | exact ⟨⟨_, rfl⟩, Or.inr ⟨_, ⟨_, by rw [List.append_assoc]; exact hpp⟩, hJ8⟩⟩
      · refine ⟨_, rfl, ?_⟩
        refine WL_nil ?_
        refine fin0 ?_
        first
          | exact ⟨⟨_, rfl⟩, Or.inl ⟨_, rfl, ⟨[], by rw [List.append_nil]⟩, by rw [← hpp]; exact hJ8⟩⟩
          | exact ⟨⟨_, rfl⟩, Or.inr ⟨_, ⟨[], by rw [List.append_nil]; exact hpp⟩, hJ8⟩⟩
          | exact ⟨⟨_, rfl⟩, Or.inr ⟨_, ⟨_, by rw [List.append_assoc]; exact hpp⟩, hJ8⟩⟩
    · obtain ⟨i, hi0, hi1, hp3, _, _⟩ := hpi.resolve_left (fun q => by have := q.1; omega)
      rw [hp3] at hpp
      refine W_skip ?_
      refine W_seq ?_
      refine W_region ?_
      refine op rfl (r_load (v := .string (str r)) rfl Tryd.underlying9 rfl (Blk.cell B2 rfl)) ?_
      refine op rfl (r_moveV (v := .int _ _) rfl) ?_
      refine op rfl (r_load (v := .int .i64 0) rfl Tryd.underlying3 rfl (Blk.cell B3 rfl)) ?_
      refine op rfl (r_add' (r := (i : Int)) rfl rfl (by rw [hi0, wrap_i64 (by omega) (by omega)]; omega)) ?_
      refine op rfl (rt_sliceHi (j := i) rfl rfl Tryd.underlying9 (by omega)) ?_
      refine op rfl (r_assignV (v := .string _) rfl) ?_
      refine WL_nil ?_
      refine W_seq ?_
      refine W_seq ?_
      refine W_region ?_
      refine op rfl (r_moveV (v := .func (.yield q) #[] #[]) rfl) ?_
      refine op rfl (r_moveV (v := .string _) rfl) ?_
      refine op_yield rfl rfl (r_yield rfl) (hY pre (r.take i) w5 hj5 ⟨parts c (r.drop (i + 1)), by rw [List.append_assoc]; exact hpp⟩) ?_
      rintro en w8_2 (⟨rfl, hJ8, hK8⟩ | ⟨rfl, hJ8⟩)
      · refine ⟨_, rfl, ?_⟩
        replace B1 := B1.at hK8.s1
        replace B2 := B2.at hK8.s2
        replace B3 := B3.at hK8.s3
        refine op rfl (r_notB rfl) ?_
        refine WL_nil ?_
        refine W_else rfl ?_
        refine W_skip ?_
        refine W_region ?_
        refine op rfl (r_load (v := .string (str r)) rfl Tryd.underlying9 rfl (Blk.cell B2 rfl)) ?_
        refine op rfl (r_moveV (v := .int _ _) rfl) ?_
        refine op rfl (r_load (v := .string (str [c])) rfl Tryd.underlying9 rfl (Blk.cell B1 rfl)) ?_
        refine op rfl (rt_len rfl Tryd.underlying9) ?_
        refine op rfl (r_add' (r := ((i + 1 : Nat) : Int)) rfl rfl (by rw [hi0]; simp only [List.length_singleton]; rw [wrap_i64 (by omega) (by omega)]; omega)) ?_
        refine op rfl (rt_sliceLo (i := i + 1) rfl rfl Tryd.underlying9 (by omega)) ?_
        refine op_store (v := .string (str (r.drop (i + 1)))) rfl rfl rfl Tryd.sz9 B2 (Nat.le_of_ble_eq_true rfl) ?_
        intro w9 C9 BB9
        replace BB9 : Blk w9 b2 #[.string (str (r.drop (i + 1)))] 9 := BB9
        replace B1 := Chg.blk C9 B1 h12
        replace B3 := Chg.blk C9 B3 (fun q => h23 q.symm)
        have hJ9 := hJ _ _ _ hJ8 (Mv.of_chg C9 rfl)
        refine WL_nil ?_
        refine ⟨?_, by repeat (first | with_reducible exact Out.refl _ _ | with_reducible exact Out.mix | refine Out.put rfl ?_ | refine Out.mixin rfl ?_ | exact Out.refl _ _ | exact Out.mix)⟩
        exact ⟨(r.drop (i + 1)).length, by simp; omega, pre ++ [r.take i], r.drop (i + 1), rfl, B1, BB9, B3, by rw [List.append_assoc]; exact hpp, by simp; omega, hJ9⟩
      · refine ⟨_, rfl, ?_⟩
        refine op rfl (r_notB rfl) ?_
        refine WL_nil ?_
        refine W_then rfl ?_
        refine W_ret (blk_ret (blk_ret (finX_ret ?_)))
        refine fin0 ?_
        first
          | exact ⟨⟨_, rfl⟩, Or.inl ⟨_, rfl, ⟨[], by rw [List.append_nil]⟩, by rw [← hpp]; exact hJ8⟩⟩
          | exact ⟨⟨_, rfl⟩, Or.inr ⟨_, ⟨[], by rw [List.append_nil]; exact hpp⟩, hJ8⟩⟩
          | exact ⟨⟨_, rfl⟩, Or.inr ⟨_, ⟨_, by rw [List.append_assoc]; exact hpp⟩, hJ8⟩⟩
theorem splitSeq_spec (l : List UInt8) (c : UInt8) (w : World) :
    Calls Tryd.prog 27 #[.string (str l), .string (str [c])] w (fun en w' => ∃ v, en = .returned v ∧ ∃ b1 b2 b3, v = .func (.func 63) #[] #[.pointer (some ⟨b1, 0, none⟩), .pointer (some ⟨b2, 0, none⟩), .pointer (some ⟨b3, 0, none⟩)] ∧ Ext w w' ∧
      Blk w' b1 #[.string (str [c])] 9 ∧ Blk w' b2 #[.string (str l)] 9 ∧ Blk w' b3 #[.int .i64 0] 3 ∧ b1 ≠ b2 ∧ b2 ≠ b3 ∧ w.heap.size ≤ b1 ∧ w.heap.size ≤ b2 ∧ w.heap.size ≤ b3) := by
  have inner : Calls Tryd.prog 50 #[.string (str l), .string (str [c]), .int .i64 0] w (fun en w' => ∃ v, en = .returned v ∧ ∃ b1 b2 b3, v = .func (.func 63) #[] #[.pointer (some ⟨b1, 0, none⟩), .pointer (some ⟨b2, 0, none⟩), .pointer (some ⟨b3, 0, none⟩)] ∧ Ext w w' ∧
      Blk w' b1 #[.string (str [c])] 9 ∧ Blk w' b2 #[.string (str l)] 9 ∧ Blk w' b3 #[.int .i64 0] 3 ∧ b1 ≠ b2 ∧ b2 ≠ b3 ∧ w.heap.size ≤ b1 ∧ w.heap.size ≤ b2 ∧ w.heap.size ≤ b3) := by
    refine calls' (n := 8) (rs := #[.tmp 6]) (l := [.string (str l), .string (str [c]), .int .i64 0]) Tryd.func50 rfl rfl rfl rfl rfl ?_
    have hX := Ext.refl w
    refine W_seq ?_
    refine W_region ?_
    refine op_box (v := .string _) rfl rfl ?_
    intro w0_0 b0_0 E0_0 B0_0 L0_0
    have hG0_0 : w.heap.size ≤ b0_0 := by have := hX.size; omega
    replace hX := hX.trans E0_0
    refine op_box (v := .string _) rfl rfl ?_
    intro w0_1 b0_1 E0_1 B0_1 L0_1
    have hG0_1 : w.heap.size ≤ b0_1 := by have := hX.size; omega
    have hNb0_0_0_1 : b0_0 ≠ b0_1 := by have := Blk.lt B0_0; omega
    replace B0_0 := Blk.ext B0_0 E0_1
    replace hX := hX.trans E0_1
    refine op_box (v := .int _ _) rfl rfl ?_
    intro w0_2 b0_2 E0_2 B0_2 L0_2
    have hG0_2 : w.heap.size ≤ b0_2 := by have := hX.size; omega
    have hNb0_0_0_2 : b0_0 ≠ b0_2 := by have := Blk.lt B0_0; omega
    replace B0_0 := Blk.ext B0_0 E0_2
    have hNb0_1_0_2 : b0_1 ≠ b0_2 := by have := Blk.lt B0_1; omega
    replace B0_1 := Blk.ext B0_1 E0_2
    replace hX := hX.trans E0_2
    refine op rfl (r_assignV (v := .nilFunc) rfl) ?_
    refine WL_nil ?_
    refine W_seq ?_
    refine W_region ?_
    refine op rfl (r_makeFunc) ?_
    refine op rfl (r_assignV (v := .func (.func 63) #[] #[.pointer (some ⟨b0_1, 0, none⟩), .pointer (some ⟨b0_0, 0, none⟩), .pointer (some ⟨b0_2, 0, none⟩)]) rfl) ?_
    refine WL_nil ?_
    refine W_ret (finX_ret ?_)
    refine fin1 ?_
    exact ⟨_, rfl, b0_1, b0_0, b0_2, rfl, hX, B0_1, B0_0, B0_2, (fun q => hNb0_0_0_1 q.symm), hNb0_0_0_2, hG0_1, hG0_0, hG0_2⟩
  refine calls' (n := 8) (rs := #[.tmp 4]) (l := [.string (str l), .string (str [c])]) Tryd.func27 rfl rfl rfl rfl rfl ?_
  have hX := Ext.refl w
  refine W_seq ?_
  refine W_region ?_
  refine op rfl (r_assignV (v := .nilFunc) rfl) ?_
  refine WL_nil ?_
  refine W_seq ?_
  refine W_region ?_
  refine op rfl (r_moveV (v := .string _) rfl) ?_
  refine op rfl (r_moveV (v := .string _) rfl) ?_
  refine opCv rfl (r_call Tryd.func50 Tryd.nm50 rfl) (inner) ?_
  rintro v w2 ⟨b1, b2, b3, rfl, hE, h1, h2, h3, h4, h5, h6, h7, h8⟩
  replace hX := hX.trans hE
  refine op rfl (r_assignV (v := .func (.func 63) #[] #[.pointer (some ⟨b1, 0, none⟩), .pointer (some ⟨b2, 0, none⟩), .pointer (some ⟨b3, 0, none⟩)]) rfl) ?_
  refine WL_nil ?_
  refine W_ret (finX_ret ?_)
  refine fin1 ?_
  exact ⟨_, rfl, b1, b2, b3, rfl, hX, h1, h2, h3, h4, h5, h6, h7, h8⟩
theorem plain_spec (c : UInt8) (w : World) :
    Calls Tryd.prog 60 #[.int .u8 (c.toNat : Nat)] w (fun en w' => ∃ v, en = .returned v ∧ v = .bool (decide (plainC c)) ∧ Ext w w') := by
  refine calls' (n := 33) (rs := #[.tmp 2]) (l := [.int .u8 (c.toNat : Nat)]) Tryd.func60 rfl rfl rfl rfl rfl ?_
  have hX := Ext.refl w
  refine W_seq ?_
  refine W_region ?_
  refine op rfl (r_assignV (v := .bool _) rfl) ?_
  refine WL_nil ?_
  refine W_seq ?_
  refine W_block ?_
  refine W_seq ?_
  refine W_block ?_
  refine W_block ?_
  refine W_seq ?_
  refine W_seq ?_
  refine W_seq ?_
  refine W_region ?_
  refine op rfl (r_moveV (v := .int _ _) rfl) ?_
  refine op rfl (r_geq rfl rfl) ?_
  refine op_split rfl (r_moveV (v := .bool (decide _)) rfl) (fun hg6 => ?_) (fun hg6 => ?_)
  · refine opG_yes rfl rfl rfl rfl rfl (r_moveV (v := .int _ _) rfl) ?_
    refine opG_yes rfl rfl rfl rfl rfl (r_leq rfl rfl) ?_
    refine op rfl (r_pickTV (v := .bool _) rfl rfl) ?_
    refine op rfl (r_assignV (v := .bool _) rfl) ?_
    refine WL_nil ?_
    refine W_ifp rfl (fun ht3 => ?_) (fun ht3 => ?_)
    · refine W_exit (blk_hit ?_)
      refine W_seq ?_
      refine W_seq ?_
      refine W_region ?_
      refine op rfl (r_assignV (v := .bool _) rfl) ?_
      refine WL_nil ?_
      refine W_ret (blk_ret (finX_ret ?_))
      refine fin1 ?_
      first
        | exact ⟨_, rfl, by first | exact bool_tt (by unfold plainC; omega) | exact bool_ff (by unfold plainC; omega) | exact bool_iff (by unfold plainC; omega), hX⟩
    · refine W_skip ?_
      refine W_seq ?_
      refine W_seq ?_
      refine W_region ?_
      refine op rfl (r_moveV (v := .int _ _) rfl) ?_
      refine op rfl (r_geq rfl rfl) ?_
      refine op_split rfl (r_moveV (v := .bool (decide _)) rfl) (fun hg13 => ?_) (fun hg13 => ?_)
      · refine opG_yes rfl rfl rfl rfl rfl (r_moveV (v := .int _ _) rfl) ?_
        refine opG_yes rfl rfl rfl rfl rfl (r_leq rfl rfl) ?_
        refine op rfl (r_pickTV (v := .bool _) rfl rfl) ?_
        refine op rfl (r_assignV (v := .bool _) rfl) ?_
        refine WL_nil ?_
        refine W_ifp rfl (fun ht10 => ?_) (fun ht10 => ?_)
        · refine W_skip ?_
          refine W_then (congrArg Value.bool (decide_eq_true ht10)) ?_
          refine W_exit (blk_miss rfl (blk_hit ?_))
          refine W_seq ?_
          refine W_seq ?_
          refine W_region ?_
          refine op rfl (r_assignV (v := .bool _) rfl) ?_
          refine WL_nil ?_
          refine W_ret (blk_ret (finX_ret ?_))
          refine fin1 ?_
          first
            | exact ⟨_, rfl, by first | exact bool_tt (by unfold plainC; omega) | exact bool_ff (by unfold plainC; omega) | exact bool_iff (by unfold plainC; omega), hX⟩
        · refine W_region ?_
          refine op rfl (r_moveV (v := .int _ _) rfl) ?_
          refine op rfl (r_geq rfl rfl) ?_
          refine op_split rfl (r_moveV (v := .bool (decide _)) rfl) (fun hg19 => ?_) (fun hg19 => ?_)
          · refine opG_yes rfl rfl rfl rfl rfl (r_moveV (v := .int _ _) rfl) ?_
            refine opG_yes rfl rfl rfl rfl rfl (r_leq rfl rfl) ?_
            refine op rfl (r_pickTV (v := .bool _) rfl rfl) ?_
            refine op rfl (r_assignV (v := .bool _) rfl) ?_
            refine WL_nil ?_
            refine W_ifp rfl (fun ht10 => ?_) (fun ht10 => ?_)
            · refine W_exit (blk_miss rfl (blk_hit ?_))
              refine W_seq ?_
              refine W_seq ?_
              refine W_region ?_
              refine op rfl (r_assignV (v := .bool _) rfl) ?_
              refine WL_nil ?_
              refine W_ret (blk_ret (finX_ret ?_))
              refine fin1 ?_
              first
                | exact ⟨_, rfl, by first | exact bool_tt (by unfold plainC; omega) | exact bool_ff (by unfold plainC; omega) | exact bool_iff (by unfold plainC; omega), hX⟩
            · refine W_skip ?_
              refine W_exit (blk_miss rfl (blk_miss rfl (blk_hit ?_)))
              refine W_seq ?_
              refine W_region ?_
              refine op rfl (r_moveV (v := .int _ _) rfl) ?_
              refine op rfl (r_eql rfl rfl) ?_
              refine op_split rfl (r_moveV (v := .bool (decide _)) rfl) (fun hg25 => ?_) (fun hg25 => ?_)
              · refine opG_no rfl rfl rfl rfl rfl ?_
                refine opG_no rfl rfl rfl rfl rfl ?_
                refine op rfl (r_pickTV (v := .bool _) rfl rfl) ?_
                refine op rfl (r_moveV (v := .bool _) rfl) ?_
                refine opG_no rfl rfl rfl rfl rfl ?_
                refine opG_no rfl rfl rfl rfl rfl ?_
                refine op rfl (r_pickTV (v := .bool _) rfl rfl) ?_
                refine op rfl (r_assignV (v := .bool _) rfl) ?_
                refine WL_nil ?_
                refine W_ret (finX_ret ?_)
                refine fin1 ?_
                first
                  | exact ⟨_, rfl, by first | exact bool_tt (by unfold plainC; omega) | exact bool_ff (by unfold plainC; omega) | exact bool_iff (by unfold plainC; omega), hX⟩
              · refine opG_yes rfl rfl rfl rfl rfl (r_moveV (v := .int _ _) rfl) ?_
                refine opG_yes rfl rfl rfl rfl rfl (r_eql rfl rfl) ?_
                refine op rfl (r_pickFV (v := .bool _) rfl rfl) ?_
                refine op_split rfl (r_moveV (v := .bool (decide _)) rfl) (fun hg29 => ?_) (fun hg29 => ?_)
                · refine opG_no rfl rfl rfl rfl rfl ?_
                  refine opG_no rfl rfl rfl rfl rfl ?_
                  refine op rfl (r_pickTV (v := .bool _) rfl rfl) ?_
                  refine op rfl (r_assignV (v := .bool _) rfl) ?_
                  refine WL_nil ?_
                  refine W_ret (finX_ret ?_)
                  refine fin1 ?_
                  first
                    | exact ⟨_, rfl, by first | exact bool_tt (by unfold plainC; omega) | exact bool_ff (by unfold plainC; omega) | exact bool_iff (by unfold plainC; omega), hX⟩
                · refine opG_yes rfl rfl rfl rfl rfl (r_moveV (v := .int _ _) rfl) ?_
                  refine opG_yes rfl rfl rfl rfl rfl (r_eql rfl rfl) ?_
                  refine op rfl (r_pickFV (v := .bool _) rfl rfl) ?_
                  refine op rfl (r_assignV (v := .bool _) rfl) ?_
                  refine WL_nil ?_
                  refine W_ret (finX_ret ?_)
                  refine fin1 ?_
                  first
                    | exact ⟨_, rfl, by first | exact bool_tt (by unfold plainC; omega) | exact bool_ff (by unfold plainC; omega) | exact bool_iff (by unfold plainC; omega), hX⟩
          · refine opG_no rfl rfl rfl rfl rfl ?_
            refine opG_no rfl rfl rfl rfl rfl ?_
            refine op rfl (r_pickFV (v := .bool _) rfl rfl) ?_
            refine op rfl (r_assignV (v := .bool _) rfl) ?_
            refine WL_nil ?_
            refine W_else rfl ?_
            refine W_skip ?_
            refine W_exit (blk_miss rfl (blk_miss rfl (blk_hit ?_)))
            refine W_seq ?_
            refine W_region ?_
            refine op rfl (r_moveV (v := .int _ _) rfl) ?_
            refine op rfl (r_eql rfl rfl) ?_
            refine op_split rfl (r_moveV (v := .bool (decide _)) rfl) (fun hg25 => ?_) (fun hg25 => ?_)
            · refine opG_no rfl rfl rfl rfl rfl ?_
              refine opG_no rfl rfl rfl rfl rfl ?_
              refine op rfl (r_pickTV (v := .bool _) rfl rfl) ?_
              refine op rfl (r_moveV (v := .bool _) rfl) ?_
              refine opG_no rfl rfl rfl rfl rfl ?_
              refine opG_no rfl rfl rfl rfl rfl ?_
              refine op rfl (r_pickTV (v := .bool _) rfl rfl) ?_
              refine op rfl (r_assignV (v := .bool _) rfl) ?_
              refine WL_nil ?_
              refine W_ret (finX_ret ?_)
              refine fin1 ?_
              first
                | exact ⟨_, rfl, by first | exact bool_tt (by unfold plainC; omega) | exact bool_ff (by unfold plainC; omega) | exact bool_iff (by unfold plainC; omega), hX⟩
            · refine opG_yes rfl rfl rfl rfl rfl (r_moveV (v := .int _ _) rfl) ?_
              refine opG_yes rfl rfl rfl rfl rfl (r_eql rfl rfl) ?_
              refine op rfl (r_pickFV (v := .bool _) rfl rfl) ?_
              refine op_split rfl (r_moveV (v := .bool (decide _)) rfl) (fun hg29 => ?_) (fun hg29 => ?_)
              · refine opG_no rfl rfl rfl rfl rfl ?_
                refine opG_no rfl rfl rfl rfl rfl ?_
                refine op rfl (r_pickTV (v := .bool _) rfl rfl) ?_
                refine op rfl (r_assignV (v := .bool _) rfl) ?_
                refine WL_nil ?_
                refine W_ret (finX_ret ?_)
                refine fin1 ?_
                first
                  | exact ⟨_, rfl, by first | exact bool_tt (by unfold plainC; omega) | exact bool_ff (by unfold plainC; omega) | exact bool_iff (by unfold plainC; omega), hX⟩
              · refine opG_yes rfl rfl rfl rfl rfl (r_moveV (v := .int _ _) rfl) ?_
                refine opG_yes rfl rfl rfl rfl rfl (r_eql rfl rfl) ?_
                refine op rfl (r_pickFV (v := .bool _) rfl rfl) ?_
                refine op rfl (r_assignV (v := .bool _) rfl) ?_
                refine WL_nil ?_
                refine W_ret (finX_ret ?_)
                refine fin1 ?_
                first
                  | exact ⟨_, rfl, by first | exact bool_tt (by unfold plainC; omega) | exact bool_ff (by unfold plainC; omega) | exact bool_iff (by unfold plainC; omega), hX⟩
      · refine opG_no rfl rfl rfl rfl rfl ?_
        refine opG_no rfl rfl rfl rfl rfl ?_
        refine op rfl (r_pickFV (v := .bool _) rfl rfl) ?_
        refine op rfl (r_assignV (v := .bool _) rfl) ?_
        refine WL_nil ?_
        refine W_else rfl ?_
        refine W_region ?_
        refine op rfl (r_moveV (v := .int _ _) rfl) ?_
        refine op rfl (r_geq rfl rfl) ?_
        refine op_split rfl (r_moveV (v := .bool (decide _)) rfl) (fun hg19 => ?_) (fun hg19 => ?_)
        · refine opG_yes rfl rfl rfl rfl rfl (r_moveV (v := .int _ _) rfl) ?_
          refine opG_yes rfl rfl rfl rfl rfl (r_leq rfl rfl) ?_
          refine op rfl (r_pickTV (v := .bool _) rfl rfl) ?_
          refine op rfl (r_assignV (v := .bool _) rfl) ?_
          refine WL_nil ?_
          refine W_ifp rfl (fun ht10 => ?_) (fun ht10 => ?_)
          · refine W_exit (blk_miss rfl (blk_hit ?_))
            refine W_seq ?_
            refine W_seq ?_
            refine W_region ?_
            refine op rfl (r_assignV (v := .bool _) rfl) ?_
            refine WL_nil ?_
            refine W_ret (blk_ret (finX_ret ?_))
            refine fin1 ?_
            first
              | exact ⟨_, rfl, by first | exact bool_tt (by unfold plainC; omega) | exact bool_ff (by unfold plainC; omega) | exact bool_iff (by unfold plainC; omega), hX⟩
          · refine W_skip ?_
            refine W_exit (blk_miss rfl (blk_miss rfl (blk_hit ?_)))
            refine W_seq ?_
            refine W_region ?_
            refine op rfl (r_moveV (v := .int _ _) rfl) ?_
            refine op rfl (r_eql rfl rfl) ?_
            refine op_split rfl (r_moveV (v := .bool (decide _)) rfl) (fun hg25 => ?_) (fun hg25 => ?_)
            · refine opG_no rfl rfl rfl rfl rfl ?_
              refine opG_no rfl rfl rfl rfl rfl ?_
              refine op rfl (r_pickTV (v := .bool _) rfl rfl) ?_
              refine op rfl (r_moveV (v := .bool _) rfl) ?_
              refine opG_no rfl rfl rfl rfl rfl ?_
              refine opG_no rfl rfl rfl rfl rfl ?_
              refine op rfl (r_pickTV (v := .bool _) rfl rfl) ?_
              refine op rfl (r_assignV (v := .bool _) rfl) ?_
              refine WL_nil ?_
              refine W_ret (finX_ret ?_)
              refine fin1 ?_
              first
                | exact ⟨_, rfl, by first | exact bool_tt (by unfold plainC; omega) | exact bool_ff (by unfold plainC; omega) | exact bool_iff (by unfold plainC; omega), hX⟩
            · refine opG_yes rfl rfl rfl rfl rfl (r_moveV (v := .int _ _) rfl) ?_
              refine opG_yes rfl rfl rfl rfl rfl (r_eql rfl rfl) ?_
              refine op rfl (r_pickFV (v := .bool _) rfl rfl) ?_
              refine op_split rfl (r_moveV (v := .bool (decide _)) rfl) (fun hg29 => ?_) (fun hg29 => ?_)
              · refine opG_no rfl rfl rfl rfl rfl ?_
                refine opG_no rfl rfl rfl rfl rfl ?_
                refine op rfl (r_pickTV (v := .bool _) rfl rfl) ?_
                refine op rfl (r_assignV (v := .bool _) rfl) ?_
                refine WL_nil ?_
                refine W_ret (finX_ret ?_)
                refine fin1 ?_
                first
                  | exact ⟨_, rfl, by first | exact bool_tt (by unfold plainC; omega) | exact bool_ff (by unfold plainC; omega) | exact bool_iff (by unfold plainC; omega), hX⟩
              · refine opG_yes rfl rfl rfl rfl rfl (r_moveV (v := .int _ _) rfl) ?_
                refine opG_yes rfl rfl rfl rfl rfl (r_eql rfl rfl) ?_
                refine op rfl (r_pickFV (v := .bool _) rfl rfl) ?_
                refine op rfl (r_assignV (v := .bool _) rfl) ?_
                refine WL_nil ?_
                refine W_ret (finX_ret ?_)
                refine fin1 ?_
                first
                  | exact ⟨_, rfl, by first | exact bool_tt (by unfold plainC; omega) | exact bool_ff (by unfold plainC; omega) | exact bool_iff (by unfold plainC; omega), hX⟩
        · refine opG_no rfl rfl rfl rfl rfl ?_
          refine opG_no rfl rfl rfl rfl rfl ?_
          refine op rfl (r_pickFV (v := .bool _) rfl rfl) ?_
          refine op rfl (r_assignV (v := .bool _) rfl) ?_
          refine WL_nil ?_
          refine W_else rfl ?_
          refine W_skip ?_
          refine W_exit (blk_miss rfl (blk_miss rfl (blk_hit ?_)))
          refine W_seq ?_
          refine W_region ?_
          refine op rfl (r_moveV (v := .int _ _) rfl) ?_
          refine op rfl (r_eql rfl rfl) ?_
          refine op_split rfl (r_moveV (v := .bool (decide _)) rfl) (fun hg25 => ?_) (fun hg25 => ?_)
          · refine opG_no rfl rfl rfl rfl rfl ?_
            refine opG_no rfl rfl rfl rfl rfl ?_
            refine op rfl (r_pickTV (v := .bool _) rfl rfl) ?_
            refine op rfl (r_moveV (v := .bool _) rfl) ?_
            refine opG_no rfl rfl rfl rfl rfl ?_
            refine opG_no rfl rfl rfl rfl rfl ?_
            refine op rfl (r_pickTV (v := .bool _) rfl rfl) ?_
            refine op rfl (r_assignV (v := .bool _) rfl) ?_
            refine WL_nil ?_
            refine W_ret (finX_ret ?_)
            refine fin1 ?_
            first
              | exact ⟨_, rfl, by first | exact bool_tt (by unfold plainC; omega) | exact bool_ff (by unfold plainC; omega) | exact bool_iff (by unfold plainC; omega), hX⟩
          · refine opG_yes rfl rfl rfl rfl rfl (r_moveV (v := .int _ _) rfl) ?_
            refine opG_yes rfl rfl rfl rfl rfl (r_eql rfl rfl) ?_
            refine op rfl (r_pickFV (v := .bool _) rfl rfl) ?_
            refine op_split rfl (r_moveV (v := .bool (decide _)) rfl) (fun hg29 => ?_) (fun hg29 => ?_)
            · refine opG_no rfl rfl rfl rfl rfl ?_
              refine opG_no rfl rfl rfl rfl rfl ?_
              refine op rfl (r_pickTV (v := .bool _) rfl rfl) ?_
              refine op rfl (r_assignV (v := .bool _) rfl) ?_
              refine WL_nil ?_
              refine W_ret (finX_ret ?_)
              refine fin1 ?_
              first
                | exact ⟨_, rfl, by first | exact bool_tt (by unfold plainC; omega) | exact bool_ff (by unfold plainC; omega) | exact bool_iff (by unfold plainC; omega), hX⟩
            · refine opG_yes rfl rfl rfl rfl rfl (r_moveV (v := .int _ _) rfl) ?_
              refine opG_yes rfl rfl rfl rfl rfl (r_eql rfl rfl) ?_
              refine op rfl (r_pickFV (v := .bool _) rfl rfl) ?_
              refine op rfl (r_assignV (v := .bool _) rfl) ?_
              refine WL_nil ?_
              refine W_ret (finX_ret ?_)
              refine fin1 ?_
              first
                | exact ⟨_, rfl, by first | exact bool_tt (by unfold plainC; omega) | exact bool_ff (by unfold plainC; omega) | exact bool_iff (by unfold plainC; omega), hX⟩
  · refine opG_no rfl rfl rfl rfl rfl ?_
    refine opG_no rfl rfl rfl rfl rfl ?_
    refine op rfl (r_pickFV (v := .bool _) rfl rfl) ?_
    refine op rfl (r_assignV (v := .bool _) rfl) ?_
    refine WL_nil ?_
    refine W_else rfl ?_
    refine W_skip ?_
    refine W_seq ?_
    refine W_seq ?_
    refine W_region ?_
    refine op rfl (r_moveV (v := .int _ _) rfl) ?_
    refine op rfl (r_geq rfl rfl) ?_
    refine op_split rfl (r_moveV (v := .bool (decide _)) rfl) (fun hg13 => ?_) (fun hg13 => ?_)
    · refine opG_yes rfl rfl rfl rfl rfl (r_moveV (v := .int _ _) rfl) ?_
      refine opG_yes rfl rfl rfl rfl rfl (r_leq rfl rfl) ?_
      refine op rfl (r_pickTV (v := .bool _) rfl rfl) ?_
      refine op rfl (r_assignV (v := .bool _) rfl) ?_
      refine WL_nil ?_
      refine W_ifp rfl (fun ht10 => ?_) (fun ht10 => ?_)
      · refine W_skip ?_
        refine W_then (congrArg Value.bool (decide_eq_true ht10)) ?_
        refine W_exit (blk_miss rfl (blk_hit ?_))
        refine W_seq ?_
        refine W_seq ?_
        refine W_region ?_
        refine op rfl (r_assignV (v := .bool _) rfl) ?_
        refine WL_nil ?_
        refine W_ret (blk_ret (finX_ret ?_))
        refine fin1 ?_
        first
          | exact ⟨_, rfl, by first | exact bool_tt (by unfold plainC; omega) | exact bool_ff (by unfold plainC; omega) | exact bool_iff (by unfold plainC; omega), hX⟩
      · refine W_region ?_
        refine op rfl (r_moveV (v := .int _ _) rfl) ?_
        refine op rfl (r_geq rfl rfl) ?_
        refine op_split rfl (r_moveV (v := .bool (decide _)) rfl) (fun hg19 => ?_) (fun hg19 => ?_)
        · refine opG_yes rfl rfl rfl rfl rfl (r_moveV (v := .int _ _) rfl) ?_
          refine opG_yes rfl rfl rfl rfl rfl (r_leq rfl rfl) ?_
          refine op rfl (r_pickTV (v := .bool _) rfl rfl) ?_
          refine op rfl (r_assignV (v := .bool _) rfl) ?_
          refine WL_nil ?_
          refine W_ifp rfl (fun ht10 => ?_) (fun ht10 => ?_)
          · refine W_exit (blk_miss rfl (blk_hit ?_))
            refine W_seq ?_
            refine W_seq ?_
            refine W_region ?_
            refine op rfl (r_assignV (v := .bool _) rfl) ?_
            refine WL_nil ?_
            refine W_ret (blk_ret (finX_ret ?_))
            refine fin1 ?_
            first
              | exact ⟨_, rfl, by first | exact bool_tt (by unfold plainC; omega) | exact bool_ff (by unfold plainC; omega) | exact bool_iff (by unfold plainC; omega), hX⟩
          · refine W_skip ?_
            refine W_exit (blk_miss rfl (blk_miss rfl (blk_hit ?_)))
            refine W_seq ?_
            refine W_region ?_
            refine op rfl (r_moveV (v := .int _ _) rfl) ?_
            refine op rfl (r_eql rfl rfl) ?_
            refine op_split rfl (r_moveV (v := .bool (decide _)) rfl) (fun hg25 => ?_) (fun hg25 => ?_)
            · refine opG_no rfl rfl rfl rfl rfl ?_
              refine opG_no rfl rfl rfl rfl rfl ?_
              refine op rfl (r_pickTV (v := .bool _) rfl rfl) ?_
              refine op rfl (r_moveV (v := .bool _) rfl) ?_
              refine opG_no rfl rfl rfl rfl rfl ?_
              refine opG_no rfl rfl rfl rfl rfl ?_
              refine op rfl (r_pickTV (v := .bool _) rfl rfl) ?_
              refine op rfl (r_assignV (v := .bool _) rfl) ?_
              refine WL_nil ?_
              refine W_ret (finX_ret ?_)
              refine fin1 ?_
              first
                | exact ⟨_, rfl, by first | exact bool_tt (by unfold plainC; omega) | exact bool_ff (by unfold plainC; omega) | exact bool_iff (by unfold plainC; omega), hX⟩
            · refine opG_yes rfl rfl rfl rfl rfl (r_moveV (v := .int _ _) rfl) ?_
              refine opG_yes rfl rfl rfl rfl rfl (r_eql rfl rfl) ?_
              refine op rfl (r_pickFV (v := .bool _) rfl rfl) ?_
              refine op_split rfl (r_moveV (v := .bool (decide _)) rfl) (fun hg29 => ?_) (fun hg29 => ?_)
              · refine opG_no rfl rfl rfl rfl rfl ?_
                refine opG_no rfl rfl rfl rfl rfl ?_
                refine op rfl (r_pickTV (v := .bool _) rfl rfl) ?_
                refine op rfl (r_assignV (v := .bool _) rfl) ?_
                refine WL_nil ?_
                refine W_ret (finX_ret ?_)
                refine fin1 ?_
                first
                  | exact ⟨_, rfl, by first | exact bool_tt (by unfold plainC; omega) | exact bool_ff (by unfold plainC; omega) | exact bool_iff (by unfold plainC; omega), hX⟩
              · refine opG_yes rfl rfl rfl rfl rfl (r_moveV (v := .int _ _) rfl) ?_
                refine opG_yes rfl rfl rfl rfl rfl (r_eql rfl rfl) ?_
                refine op rfl (r_pickFV (v := .bool _) rfl rfl) ?_
                refine op rfl (r_assignV (v := .bool _) rfl) ?_
                refine WL_nil ?_
                refine W_ret (finX_ret ?_)
                refine fin1 ?_
                first
                  | exact ⟨_, rfl, by first | exact bool_tt (by unfold plainC; omega) | exact bool_ff (by unfold plainC; omega) | exact bool_iff (by unfold plainC; omega), hX⟩
        · refine opG_no rfl rfl rfl rfl rfl ?_
          refine opG_no rfl rfl rfl rfl rfl ?_
          refine op rfl (r_pickFV (v := .bool _) rfl rfl) ?_
          refine op rfl (r_assignV (v := .bool _) rfl) ?_
          refine WL_nil ?_
          refine W_else rfl ?_
          refine W_skip ?_
          refine W_exit (blk_miss rfl (blk_miss rfl (blk_hit ?_)))
          refine W_seq ?_
          refine W_region ?_
          refine op rfl (r_moveV (v := .int _ _) rfl) ?_
          refine op rfl (r_eql rfl rfl) ?_
          refine op_split rfl (r_moveV (v := .bool (decide _)) rfl) (fun hg25 => ?_) (fun hg25 => ?_)
          · refine opG_no rfl rfl rfl rfl rfl ?_
            refine opG_no rfl rfl rfl rfl rfl ?_
            refine op rfl (r_pickTV (v := .bool _) rfl rfl) ?_
            refine op rfl (r_moveV (v := .bool _) rfl) ?_
            refine opG_no rfl rfl rfl rfl rfl ?_
            refine opG_no rfl rfl rfl rfl rfl ?_
            refine op rfl (r_pickTV (v := .bool _) rfl rfl) ?_
            refine op rfl (r_assignV (v := .bool _) rfl) ?_
            refine WL_nil ?_
            refine W_ret (finX_ret ?_)
            refine fin1 ?_
            first
              | exact ⟨_, rfl, by first | exact bool_tt (by unfold plainC; omega) | exact bool_ff (by unfold plainC; omega) | exact bool_iff (by unfold plainC; omega), hX⟩
          · refine opG_yes rfl rfl rfl rfl rfl (r_moveV (v := .int _ _) rfl) ?_
            refine opG_yes rfl rfl rfl rfl rfl (r_eql rfl rfl) ?_
            refine op rfl (r_pickFV (v := .bool _) rfl rfl) ?_
            refine op_split rfl (r_moveV (v := .bool (decide _)) rfl) (fun hg29 => ?_) (fun hg29 => ?_)
            · refine opG_no rfl rfl rfl rfl rfl ?_
              refine opG_no rfl rfl rfl rfl rfl ?_
              refine op rfl (r_pickTV (v := .bool _) rfl rfl) ?_
              refine op rfl (r_assignV (v := .bool _) rfl) ?_
              refine WL_nil ?_
              refine W_ret (finX_ret ?_)
              refine fin1 ?_
              first
                | exact ⟨_, rfl, by first | exact bool_tt (by unfold plainC; omega) | exact bool_ff (by unfold plainC; omega) | exact bool_iff (by unfold plainC; omega), hX⟩
            · refine opG_yes rfl rfl rfl rfl rfl (r_moveV (v := .int _ _) rfl) ?_
              refine opG_yes rfl rfl rfl rfl rfl (r_eql rfl rfl) ?_
              refine op rfl (r_pickFV (v := .bool _) rfl rfl) ?_
              refine op rfl (r_assignV (v := .bool _) rfl) ?_
              refine WL_nil ?_
              refine W_ret (finX_ret ?_)
              refine fin1 ?_
              first
                | exact ⟨_, rfl, by first | exact bool_tt (by unfold plainC; omega) | exact bool_ff (by unfold plainC; omega) | exact bool_iff (by unfold plainC; omega), hX⟩
    · refine opG_no rfl rfl rfl rfl rfl ?_
      refine opG_no rfl rfl rfl rfl rfl ?_
      refine op rfl (r_pickFV (v := .bool _) rfl rfl) ?_
      refine op rfl (r_assignV (v := .bool _) rfl) ?_
      refine WL_nil ?_
      refine W_else rfl ?_
      refine W_region ?_
      refine op rfl (r_moveV (v := .int _ _) rfl) ?_
      refine op rfl (r_geq rfl rfl) ?_
      refine op_split rfl (r_moveV (v := .bool (decide _)) rfl) (fun hg19 => ?_) (fun hg19 => ?_)
      · refine opG_yes rfl rfl rfl rfl rfl (r_moveV (v := .int _ _) rfl) ?_
        refine opG_yes rfl rfl rfl rfl rfl (r_leq rfl rfl) ?_
        refine op rfl (r_pickTV (v := .bool _) rfl rfl) ?_
        refine op rfl (r_assignV (v := .bool _) rfl) ?_
        refine WL_nil ?_
        refine W_ifp rfl (fun ht10 => ?_) (fun ht10 => ?_)
        · refine W_exit (blk_miss rfl (blk_hit ?_))
          refine W_seq ?_
          refine W_seq ?_
          refine W_region ?_
          refine op rfl (r_assignV (v := .bool _) rfl) ?_
          refine WL_nil ?_
          refine W_ret (blk_ret (finX_ret ?_))
          refine fin1 ?_
          first
            | exact ⟨_, rfl, by first | exact bool_tt (by unfold plainC; omega) | exact bool_ff (by unfold plainC; omega) | exact bool_iff (by unfold plainC; omega), hX⟩
        · refine W_skip ?_
          refine W_exit (blk_miss rfl (blk_miss rfl (blk_hit ?_)))
          refine W_seq ?_
          refine W_region ?_
          refine op rfl (r_moveV (v := .int _ _) rfl) ?_
          refine op rfl (r_eql rfl rfl) ?_
          refine op_split rfl (r_moveV (v := .bool (decide _)) rfl) (fun hg25 => ?_) (fun hg25 => ?_)
          · refine opG_no rfl rfl rfl rfl rfl ?_
            refine opG_no rfl rfl rfl rfl rfl ?_
            refine op rfl (r_pickTV (v := .bool _) rfl rfl) ?_
            refine op rfl (r_moveV (v := .bool _) rfl) ?_
            refine opG_no rfl rfl rfl rfl rfl ?_
            refine opG_no rfl rfl rfl rfl rfl ?_
            refine op rfl (r_pickTV (v := .bool _) rfl rfl) ?_
            refine op rfl (r_assignV (v := .bool _) rfl) ?_
            refine WL_nil ?_
            refine W_ret (finX_ret ?_)
            refine fin1 ?_
            first
              | exact ⟨_, rfl, by first | exact bool_tt (by unfold plainC; omega) | exact bool_ff (by unfold plainC; omega) | exact bool_iff (by unfold plainC; omega), hX⟩
          · refine opG_yes rfl rfl rfl rfl rfl (r_moveV (v := .int _ _) rfl) ?_
            refine opG_yes rfl rfl rfl rfl rfl (r_eql rfl rfl) ?_
            refine op rfl (r_pickFV (v := .bool _) rfl rfl) ?_
            refine op_split rfl (r_moveV (v := .bool (decide _)) rfl) (fun hg29 => ?_) (fun hg29 => ?_)
            · refine opG_no rfl rfl rfl rfl rfl ?_
              refine opG_no rfl rfl rfl rfl rfl ?_
              refine op rfl (r_pickTV (v := .bool _) rfl rfl) ?_
              refine op rfl (r_assignV (v := .bool _) rfl) ?_
              refine WL_nil ?_
              refine W_ret (finX_ret ?_)
              refine fin1 ?_
              first
                | exact ⟨_, rfl, by first | exact bool_tt (by unfold plainC; omega) | exact bool_ff (by unfold plainC; omega) | exact bool_iff (by unfold plainC; omega), hX⟩
            · refine opG_yes rfl rfl rfl rfl rfl (r_moveV (v := .int _ _) rfl) ?_
              refine opG_yes rfl rfl rfl rfl rfl (r_eql rfl rfl) ?_
              refine op rfl (r_pickFV (v := .bool _) rfl rfl) ?_
              refine op rfl (r_assignV (v := .bool _) rfl) ?_
              refine WL_nil ?_
              refine W_ret (finX_ret ?_)
              refine fin1 ?_
              first
                | exact ⟨_, rfl, by first | exact bool_tt (by unfold plainC; omega) | exact bool_ff (by unfold plainC; omega) | exact bool_iff (by unfold plainC; omega), hX⟩
      · refine opG_no rfl rfl rfl rfl rfl ?_
        refine opG_no rfl rfl rfl rfl rfl ?_
        refine op rfl (r_pickFV (v := .bool _) rfl rfl) ?_
        refine op rfl (r_assignV (v := .bool _) rfl) ?_
        refine WL_nil ?_
        refine W_else rfl ?_
        refine W_skip ?_
        refine W_exit (blk_miss rfl (blk_miss rfl (blk_hit ?_)))
        refine W_seq ?_
        refine W_region ?_
        refine op rfl (r_moveV (v := .int _ _) rfl) ?_
        refine op rfl (r_eql rfl rfl) ?_
        refine op_split rfl (r_moveV (v := .bool (decide _)) rfl) (fun hg25 => ?_) (fun hg25 => ?_)
        · refine opG_no rfl rfl rfl rfl rfl ?_
          refine opG_no rfl rfl rfl rfl rfl ?_
          refine op rfl (r_pickTV (v := .bool _) rfl rfl) ?_
          refine op rfl (r_moveV (v := .bool _) rfl) ?_
          refine opG_no rfl rfl rfl rfl rfl ?_
          refine opG_no rfl rfl rfl rfl rfl ?_
          refine op rfl (r_pickTV (v := .bool _) rfl rfl) ?_
          refine op rfl (r_assignV (v := .bool _) rfl) ?_
          refine WL_nil ?_
          refine W_ret (finX_ret ?_)
          refine fin1 ?_
          first
            | exact ⟨_, rfl, by first | exact bool_tt (by unfold plainC; omega) | exact bool_ff (by unfold plainC; omega) | exact bool_iff (by unfold plainC; omega), hX⟩
        · refine opG_yes rfl rfl rfl rfl rfl (r_moveV (v := .int _ _) rfl) ?_
          refine opG_yes rfl rfl rfl rfl rfl (r_eql rfl rfl) ?_
          refine op rfl (r_pickFV (v := .bool _) rfl rfl) ?_
          refine op_split rfl (r_moveV (v := .bool (decide _)) rfl) (fun hg29 => ?_) (fun hg29 => ?_)
          · refine opG_no rfl rfl rfl rfl rfl ?_
            refine opG_no rfl rfl rfl rfl rfl ?_
            refine op rfl (r_pickTV (v := .bool _) rfl rfl) ?_
            refine op rfl (r_assignV (v := .bool _) rfl) ?_
            refine WL_nil ?_
            refine W_ret (finX_ret ?_)
            refine fin1 ?_
            first
              | exact ⟨_, rfl, by first | exact bool_tt (by unfold plainC; omega) | exact bool_ff (by unfold plainC; omega) | exact bool_iff (by unfold plainC; omega), hX⟩
          · refine opG_yes rfl rfl rfl rfl rfl (r_moveV (v := .int _ _) rfl) ?_
            refine opG_yes rfl rfl rfl rfl rfl (r_eql rfl rfl) ?_
            refine op rfl (r_pickFV (v := .bool _) rfl rfl) ?_
            refine op rfl (r_assignV (v := .bool _) rfl) ?_
            refine WL_nil ?_
            refine W_ret (finX_ret ?_)
            refine fin1 ?_
            first
              | exact ⟨_, rfl, by first | exact bool_tt (by unfold plainC; omega) | exact bool_ff (by unfold plainC; omega) | exact bool_iff (by unfold plainC; omega), hX⟩
theorem name_spec (p : List UInt8) (w : World) (hp : p.length ≤ 9223372036854775800) :
    Calls Tryd.prog 59 #[.string (str p), .func (.func 60) #[] #[]] w (fun en w' => ∃ v, en = .returned v ∧ v = .bool (decide (nameR p)) ∧ Ext w w') := by
  refine calls' (n := 34) (rs := #[.tmp 4]) (l := [.string (str p), .func (.func 60) #[] #[]]) Tryd.func59 rfl rfl rfl rfl rfl ?_
  have hX := Ext.refl w
  refine W_seq ?_
  refine W_region ?_
  refine op rfl (r_assignV (v := .bool _) rfl) ?_
  refine WL_nil ?_
  refine W_seq ?_
  refine W_seq ?_
  refine W_region ?_
  refine op rfl (r_moveV (v := .string _) rfl) ?_
  refine op_bytes rfl rfl Tryd.underlying9 Tryd.underlying45 Tryd.underlying5 ?_
  intro w2 b2 c2 E2 L2 hb2 hc2 hrow
  replace hX := hX.trans E2
  have hX2 := hX
  refine op rfl (r_len_slice rfl Tryd.underlying45) ?_
  refine op rfl (r_moveV (v := .int _ _) rfl) ?_
  refine WL_nil ?_
  refine W_block ?_
  refine W_loop [4, 6, 10, 11, 12, 13, 14, 15, 16, 17, 18] (fun q e' w' => ∃ i : Nat, q = p.length - i ∧ i ≤ p.length ∧ e' 10 = .int .i64 i ∧ (∀ k (h : k < p.length), k < i → plainC p[k]) ∧ Ext w2 w') (p.length) ?_ ?_
  · exact ⟨0, by omega, by omega, rfl, fun k _ h => absurd h (Nat.not_lt_zero k), Ext.refl _⟩
  intro k g w' hI
  obtain ⟨i, hq, hi, h10, hall, hE2⟩ := hI
  clear hX
  have hX := hX2.trans hE2
  refine W_set (i := 10) h10 ?_
  refine W_seq ?_
  refine W_region ?_
  refine op rfl (r_lss rfl rfl) ?_
  refine WL_nil ?_
  refine W_seq ?_
  refine W_ifp rfl (fun ht11 => ?_) (fun ht11 => ?_)
  · have hlt : i < p.length := by omega
    obtain ⟨g, off, hA, _, _, hcell⟩ := (hrow.keep (fun b hb => by rw [hb]; exact hE2.block b2 hb2) (fun _ h => h) : Ty.byte.Row w' (fun g => g = b2) (some ⟨b2, 0, none⟩) p).cell hlt
    cases hA
    refine W_skip ?_
    refine W_seq ?_
    refine W_block ?_
    refine W_seq ?_
    refine W_region ?_
    refine op rfl (r_indexAddr1 rfl rfl rfl Tryd.underlying45 Tryd.sz5 (by omega) (by omega)) ?_
    refine op rfl (r_load (v := .int .u8 (p[i].toNat : Nat)) rfl Tryd.underlying5 rfl hcell) ?_
    refine op rfl (r_assignV (v := .int _ _) rfl) ?_
    refine WL_nil ?_
    refine W_seq ?_
    refine W_region ?_
    refine op rfl (r_moveV (v := .func (.func 60) #[] #[]) rfl) ?_
    refine op rfl (r_moveV (v := .int _ _) rfl) ?_
    refine opCv rfl (r_callV (lb := []) rfl Tryd.func60 Tryd.nm60 rfl) (plain_spec p[i] _) ?_
    rintro v w4 ⟨rfl, hE⟩
    replace hX := hX.trans hE
    have hE4 := hE
    refine op rfl (r_notP rfl) ?_
    refine WL_nil ?_
    refine W_ifp rfl (fun ht17 => ?_) (fun ht17 => ?_)
    · refine W_seq ?_
      refine W_region ?_
      refine op rfl (r_assignV (v := .bool _) rfl) ?_
      refine WL_nil ?_
      refine W_ret (blk_ret (blk_ret (finX_ret ?_)))
      refine fin1 ?_
      first
        | exact ⟨_, rfl, bool_iff ⟨fun h => ⟨hall', hg21, by omega, hg30, h⟩, fun h => h.2.2.2.2⟩, hX⟩
        | exact ⟨_, rfl, bool_ff (fun h => hg30 h.2.2.2.1), hX⟩
        | exact ⟨_, rfl, bool_ff (fun h => by have := h.2.2.1; omega), hX⟩
        | exact ⟨_, rfl, bool_ff (fun h => hg21 h.2.1), hX⟩
        | exact ⟨_, rfl, bool_ff (fun h => ht17 (h.1 _ (List.getElem_mem hlt))), hX⟩
    · refine W_skip ?_
      refine W_region ?_
      refine op rfl (r_add' rfl rfl (wrap_i64 (by omega) (by omega))) ?_
      refine op rfl (r_moveV (v := .int _ _) rfl) ?_
      refine WL_nil ?_
      refine ⟨?_, by repeat (first | with_reducible exact Out.refl _ _ | with_reducible exact Out.mix | refine Out.put rfl ?_ | refine Out.mixin rfl ?_ | exact Out.refl _ _ | exact Out.mix)⟩
      refine ⟨p.length - (i + 1), by omega, i + 1, rfl, by omega, rfl, fun k h hk => ?_, hE2.trans hE4⟩
      by_cases hki : k = i
      · subst hki; exact Classical.byContradiction ht17
      · exact hall k h (by omega)
  · obtain rfl : i = p.length := by omega
    have hall' : ∀ c ∈ p, plainC c := fun c hc => by
      obtain ⟨k, hk, rfl⟩ := List.mem_iff_getElem.1 hc
      exact hall k hk hk
    refine W_exit (blk_hit ?_)
    refine W_seq ?_
    refine W_region ?_
    refine op rfl (r_moveV (v := .string _) rfl) ?_
    refine op rfl (rt_neq rfl rfl) ?_
    refine op_split rfl (r_moveV (v := .bool (decide _)) rfl) (fun hg21 => ?_) (fun hg21 => ?_)
    · refine opG_yes rfl rfl rfl rfl rfl (r_moveV (v := .string _) rfl) ?_
      refine opG_yes rfl rfl rfl rfl rfl (rt_len rfl Tryd.underlying9) ?_
      refine opG_yes rfl rfl rfl rfl rfl (r_leq rfl rfl) ?_
      refine op rfl (r_pickTV (v := .bool _) rfl rfl) ?_
      refine op_split rfl (r_moveV (v := .bool (decide _)) rfl) (fun hg26 => ?_) (fun hg26 => ?_)
      · refine opG_yes rfl rfl rfl rfl rfl (r_moveV (v := .string _) rfl) ?_
        refine opG_yes rfl rfl rfl rfl rfl (rt_neq rfl rfl) ?_
        refine op rfl (r_pickTV (v := .bool _) rfl rfl) ?_
        refine op_split rfl (r_moveV (v := .bool (decide _)) rfl) (fun hg30 => ?_) (fun hg30 => ?_)
        · refine opG_yes rfl rfl rfl rfl rfl (r_moveV (v := .string _) rfl) ?_
          refine opG_yes rfl rfl rfl rfl rfl (rt_neq rfl rfl) ?_
          refine op rfl (r_pickTV (v := .bool _) rfl rfl) ?_
          refine op rfl (r_assignV (v := .bool _) rfl) ?_
          refine WL_nil ?_
          refine W_ret (finX_ret ?_)
          refine fin1 ?_
          first
            | exact ⟨_, rfl, bool_iff ⟨fun h => ⟨hall', hg21, by omega, hg30, h⟩, fun h => h.2.2.2.2⟩, hX⟩
            | exact ⟨_, rfl, bool_ff (fun h => hg30 h.2.2.2.1), hX⟩
            | exact ⟨_, rfl, bool_ff (fun h => by have := h.2.2.1; omega), hX⟩
            | exact ⟨_, rfl, bool_ff (fun h => hg21 h.2.1), hX⟩
            | exact ⟨_, rfl, bool_ff (fun h => ht17 (h.1 _ (List.getElem_mem hlt))), hX⟩
        · refine opG_no rfl rfl rfl rfl rfl ?_
          refine opG_no rfl rfl rfl rfl rfl ?_
          refine op rfl (r_pickFV (v := .bool _) rfl rfl) ?_
          refine op rfl (r_assignV (v := .bool _) rfl) ?_
          refine WL_nil ?_
          refine W_ret (finX_ret ?_)
          refine fin1 ?_
          first
            | exact ⟨_, rfl, bool_iff ⟨fun h => ⟨hall', hg21, by omega, hg30, h⟩, fun h => h.2.2.2.2⟩, hX⟩
            | exact ⟨_, rfl, bool_ff (fun h => hg30 h.2.2.2.1), hX⟩
            | exact ⟨_, rfl, bool_ff (fun h => by have := h.2.2.1; omega), hX⟩
            | exact ⟨_, rfl, bool_ff (fun h => hg21 h.2.1), hX⟩
            | exact ⟨_, rfl, bool_ff (fun h => ht17 (h.1 _ (List.getElem_mem hlt))), hX⟩
      · refine opG_no rfl rfl rfl rfl rfl ?_
        refine opG_no rfl rfl rfl rfl rfl ?_
        refine op rfl (r_pickFV (v := .bool _) rfl rfl) ?_
        refine op rfl (r_moveV (v := .bool _) rfl) ?_
        refine opG_no rfl rfl rfl rfl rfl ?_
        refine opG_no rfl rfl rfl rfl rfl ?_
        refine op rfl (r_pickFV (v := .bool _) rfl rfl) ?_
        refine op rfl (r_assignV (v := .bool _) rfl) ?_
        refine WL_nil ?_
        refine W_ret (finX_ret ?_)
        refine fin1 ?_
        first
          | exact ⟨_, rfl, bool_iff ⟨fun h => ⟨hall', hg21, by omega, hg30, h⟩, fun h => h.2.2.2.2⟩, hX⟩
          | exact ⟨_, rfl, bool_ff (fun h => hg30 h.2.2.2.1), hX⟩
          | exact ⟨_, rfl, bool_ff (fun h => by have := h.2.2.1; omega), hX⟩
          | exact ⟨_, rfl, bool_ff (fun h => hg21 h.2.1), hX⟩
          | exact ⟨_, rfl, bool_ff (fun h => ht17 (h.1 _ (List.getElem_mem hlt))), hX⟩
    · refine opG_no rfl rfl rfl rfl rfl ?_
      refine opG_no rfl rfl rfl rfl rfl ?_
      refine opG_no rfl rfl rfl rfl rfl ?_
      refine op rfl (r_pickFV (v := .bool _) rfl rfl) ?_
      refine op rfl (r_moveV (v := .bool _) rfl) ?_
      refine opG_no rfl rfl rfl rfl rfl ?_
      refine opG_no rfl rfl rfl rfl rfl ?_
      refine op rfl (r_pickFV (v := .bool _) rfl rfl) ?_
      refine op rfl (r_moveV (v := .bool _) rfl) ?_
      refine opG_no rfl rfl rfl rfl rfl ?_
      refine opG_no rfl rfl rfl rfl rfl ?_
      refine op rfl (r_pickFV (v := .bool _) rfl rfl) ?_
      refine op rfl (r_assignV (v := .bool _) rfl) ?_
      refine WL_nil ?_
      refine W_ret (finX_ret ?_)
      refine fin1 ?_
      first
        | exact ⟨_, rfl, bool_iff ⟨fun h => ⟨hall', hg21, by omega, hg30, h⟩, fun h => h.2.2.2.2⟩, hX⟩
        | exact ⟨_, rfl, bool_ff (fun h => hg30 h.2.2.2.1), hX⟩
        | exact ⟨_, rfl, bool_ff (fun h => by have := h.2.2.1; omega), hX⟩
        | exact ⟨_, rfl, bool_ff (fun h => hg21 h.2.1), hX⟩
        | exact ⟨_, rfl, bool_ff (fun h => ht17 (h.1 _ (List.getElem_mem hlt))), hX⟩
theorem right_spec (s : List UInt8) (w : World) (hs : s.length ≤ 140737488355328) :
    Calls Tryd.prog 46 #[.string (str s)] w (fun en w' => ∃ v, en = .returned v ∧ v = .bool (decide (rightP s)) ∧ Ext w w') := by
  have hpl : ∀ q r, q ++ r = parts 47 s → ∀ p ∈ q, p.length ≤ s.length := fun q r h p hp => parts_len 47 s p (by rw [← h]; exact List.mem_append_left _ hp)
  refine calls' (n := 13) (rs := #[.cell 2 4]) (l := [.string (str s)]) Tryd.func46 rfl rfl rfl rfl rfl ?_
  have hX := Ext.refl w
  refine W_seq ?_
  refine W_region ?_
  refine op_alloc rfl Tryd.zero4 ?_
  intro w0_0 b0_0 E0_0 B0_0 L0_0
  have hG0_0 : w.heap.size ≤ b0_0 := by have := hX.size; omega
  replace hX := hX.trans E0_0
  refine WL_nil ?_
  refine W_seq ?_
  refine W_seq ?_
  refine W_region ?_
  refine op rfl (r_moveV (v := .string _) rfl) ?_
  have hX1 := hX
  have lB0 := Blk.lt B0_0
  refine opCv rfl (r_call Tryd.func27 Tryd.nm27 rfl) (splitSeq_spec s 47 _) ?_
  rintro v w2 ⟨b1, b2, b3, rfl, hE, B1, B2, B3, h12, h23, g1, g2, g3⟩
  replace B0_0 := Blk.ext B0_0 hE
  replace hX := hX.trans hE
  have hnb : b0_0 ≠ b2 := by have := Blk.lt B0_0; have := hX1.size; have := hE.size; intro q; subst q; omega
  have l1 := Blk.lt B1
  have l2 := Blk.lt B2
  have l3 := Blk.lt B3
  have hX2 := hX
  have hs0 := hX1.size
  refine WL_nil ?_
  refine W_block ?_
  refine W_rangeFuncZ (Z := (fun b => b = b2)) (encs := fun x => #[.string (str x)]) (Kp := Ks b1 b2 b3) (Pr := (fun xs _ => ∃ r, xs ++ r = parts 47 s)) rfl rfl (callFunc_run Tryd.func63 Tryd.nm63 rfl) (split_iter b1 b2 b3 47 s w2 B1 B2 B3 h12 h23 (by omega)) ((fun k hk => by subst hk; exact l2)) (Ext.refl _) (fun _ => rfl) (fun x => [(6, .string (str x))]) (fun _ => by simp) (fun _ => rfl) [3, 6, 7, 8, 9] (fun x g => g 3 = .string (str x)) (fun xs W => (∀ p ∈ xs, nameR p) ∧ Blk W b0_0 #[.bool false] 4 ∧ Ext w W ∧ w2.heap.size ≤ W.heap.size) (fun c xs W => c = .ret ∧ (∃ p ∈ xs, ¬ nameR p) ∧ Blk W b0_0 #[.bool false] 4 ∧ Ext w W ∧ w2.heap.size ≤ W.heap.size) (fun h k => Ks.trans h k) (fun W W' hs h => Ks.turn h l1 l2 l3 hs) (fun s W W' ⟨q1, q2, q3, q4⟩ h => ⟨q1, Turn.blk q2 h, Turn.ext q3 hX2.size h, Nat.le_trans q4 h.size⟩) (fun c s W W' ⟨q0, q1, q2, q3, q4⟩ h => ⟨q0, q1, Turn.blk q2 h, Turn.ext q3 hX2.size h, Nat.le_trans q4 h.size⟩) (fun _ _ _ h _ => h) (fun s W W' ⟨q1, q2, q3, q4⟩ h => ⟨q1, h.blk q2 hnb, h.below q3 (fun k hk => by subst hk; omega) q3.size, Nat.le_trans q4 h.size⟩) (fun c s W W' ⟨q0, q1, q2, q3, q4⟩ h => ⟨q0, q1, h.blk q2 hnb, h.below q3 (fun k hk => by subst hk; omega) q3.size, Nat.le_trans q4 h.size⟩) (⟨by simp, B0_0, hX, Nat.le_refl _⟩) ?_ ?_ ?_ ?_
  · intro l pre x w' hI hP
    dsimp only [putL]
    refine W_region ?_
    refine op rfl (r_assignV (v := .string _) rfl) ?_
    refine WL_nil ?_
    refine ⟨?_, by repeat (first | with_reducible exact Out.refl _ _ | with_reducible exact Out.mix | refine Out.put rfl ?_ | refine Out.mixin rfl ?_ | exact Out.refl _ _ | exact Out.mix)⟩
    exact ⟨Nc.of_ext (Ext.refl _), ⟨Nat.le_refl _, rfl, rfl, rfl⟩, hI, hP, rfl⟩
  · intro l pre x g w' hI hP hA
    have h3 := hA
    obtain ⟨q1, q2, q3, q4⟩ := hI
    clear hX B0_0
    have hX := q3
    have B0_0 := q2
    obtain ⟨pr, hpr⟩ := hP
    have hxl := hpl _ _ hpr x (by simp)
    refine W_set (i := 3) h3 ?_
    refine W_block ?_
    refine W_seq ?_
    refine W_region ?_
    refine op rfl (r_moveV (v := .string _) rfl) ?_
    refine opCv rfl (r_call Tryd.func59 Tryd.nm59 rfl) (name_spec x _ (by omega)) ?_
    rintro v w3 ⟨rfl, hE⟩
    replace B0_0 := Blk.ext B0_0 hE
    replace hX := hX.trans hE
    have hE3 := hE
    refine op rfl (r_notP rfl) ?_
    refine WL_nil ?_
    refine W_ifp rfl (fun ht9 => ?_) (fun ht9 => ?_)
    · refine W_seq ?_
      refine W_region ?_
      have B40 := B0_0
      refine op_store (v := .bool _) rfl rfl rfl Tryd.sz4 B0_0 (Nat.le_of_ble_eq_true rfl) ?_
      intro w4_0 C4_0 BB4_0
      replace hX := hX.chg C4_0 hG0_0
      replace B0_0 := BB4_0
      refine WL_nil ?_
      refine W_ret (blk_ret (?_))
      exact ⟨(Nc.of_ext hE3).trans (Nc.of_chg C4_0 B40), rfl, ⟨x, by simp, ht9⟩, B0_0, hX, by have := hE3.size; have := C4_0.size; omega⟩
    · refine W_skip ?_
      exact ⟨Nc.of_ext hE3, Ks.ext hE3 (by omega) (by omega) (by omega), (fun p hp => (List.mem_append.1 hp).elim (q1 p) (fun h => by rw [List.mem_singleton.1 h]; exact Classical.byContradiction ht9)), B0_0, hX, by have := hE3.size; omega⟩
  · intro Db xs w' hDb hS hI hP hD
    obtain ⟨q1, q2, q3, q4⟩ := hI
    clear hX B0_0
    have hX := q3
    have B0_0 := q2
    have hDm := hD
    have hS7 : xs = parts 47 s := hS
    clear hD hS
    refine W_seq ?_
    refine W_region ?_
    refine op rfl (r_moveV (v := .string _) rfl) ?_
    refine op rfl (rt_len rfl Tryd.underlying9) ?_
    refine op rfl (r_leq rfl rfl) ?_
    refine op_store (v := .bool _) rfl rfl rfl Tryd.sz4 B0_0 (Nat.le_of_ble_eq_true rfl) ?_
    intro w5_3 C5_3 BB5_3
    replace hX := hX.chg C5_3 hG0_0
    replace B0_0 := BB5_3
    refine WL_nil ?_
    refine W_ret (finX_ret ?_)
    have hD5 := chg_heap hDm C5_3 (by have := Blk.lt B0_0; have := hX1.size; omega)
    refine fin_mark rfl hD5 ?_
    intro wM hM
    have hTu : Turn w2.heap.size w5_3 wM := by rw [← hM]; exact .putObj _ hDb hD5 rfl
    refine fin_cellV rfl (Blk.cell (Turn.blk B0_0 hTu) rfl) Tryd.underlying4 rfl ?_
    exact ⟨_, rfl, bool_iff ⟨fun h => ⟨fun p hp => q1 p (by rw [hS7]; exact hp), by omega⟩, fun h => by have := h.2; omega⟩, Turn.ext hX hX2.size hTu⟩
  · intro Db c pre w' hDb hS hI hD
    obtain ⟨rfl, ⟨p, hp, hn⟩, q2, q3, q4⟩ := hI
    obtain ⟨r, hr⟩ := hS
    refine W_ret (blk_ret (finX_ret ?_))
    refine fin_mark rfl hD ?_
    intro wM hM
    have hTu : Turn w2.heap.size w' wM := by rw [← hM]; exact .putObj _ hDb hD rfl
    refine fin_cellV rfl (Blk.cell (Turn.blk q2 hTu) rfl) Tryd.underlying4 rfl ?_
    exact ⟨_, rfl, bool_ff (fun h => hn (h.1 p (by rw [← hr]; exact List.mem_append_left _ hp))), Turn.ext q3 hX2.size hTu⟩
end Go.Proofs.YtafcaigjijajnaaDoor
