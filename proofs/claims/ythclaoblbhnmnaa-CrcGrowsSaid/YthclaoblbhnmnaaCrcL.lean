/-
  The walks of the laws of chapter 04, but for the rows.
-/
import Derived.Test.YthclaoblbhnmnaaFacts
import Derived.Test.YthclaoblbhnmnaaSlice
import Derived.Test.YthclaoblbhnmnaaCrcR
namespace Go.Proofs.Ythclaoblbhnmnaa
open Go Go.Eng Go.RowKit Go.Proofs

theorem bytes_blk {w : World} {F : Nat → Prop} {g : Nat} {l : List UInt8} {t : TypeId} {fr : Nat × Nat} (h : w.heap[g]? = some (.cells (l.map fun b => Value.int .u8 b.toNat).toArray t fr)) (hF : F g) : Ty.byte.Row w F (some ⟨g, 0, none⟩) l :=
  Blk.row h hF fun i hi => ⟨[.int .u8 l[i].toNat], ⟨rfl, trivial⟩, fun j hj => by
    simp only [Ty.byte, Ty.scalar] at hj ⊢
    obtain rfl : j = 0 := by omega
    simp [hi]⟩
theorem known_sum : Crc.sum [[49, 50, 51, 52], [53, 54, 55, 56, 57]] = 0xcbf43926#32 := by decide +kernel
theorem known_step : Crc.step 1#32 = 0xedb88320#32 := by decide +kernel
theorem known_spec (w : World) : Calls Try.prog 9 #[] w (fun en w' => ∃ v, en = .returned v ∧ v = .bool true ∧ Ext w w') := by
  refine calls' (n := 12) (rs := #[.tmp 0]) (l := []) Try.func9 rfl rfl rfl rfl ?_
  refine W_seq ?_
  refine W_region ?_
  refine op rfl (r_assignV (v := .bool _) rfl) ?_
  refine WL_nil ?_
  refine W_seq ?_
  refine W_region ?_
  refine op_newS rfl (r_buildSlice (vs := [.int .u8 49, .int .u8 50, .int .u8 51, .int .u8 52]) Try.underlying24 Try.sz5 Try.zero5 rfl rfl rfl) ?_
  intro w1_0 b1_0 E1_0 B1_0 L1_0
  refine op_convB rfl rfl Try.underlying24 Try.underlying5 (by assumption) ?_
  intro w1_1 C1_1 B1_1
  have X1 : Ext w w1_1 := (E1_0).chg C1_1 (by omega)
  refine op_newS rfl (r_buildSlice (vs := [.int .u8 53, .int .u8 54, .int .u8 55, .int .u8 56, .int .u8 57]) Try.underlying24 Try.sz5 Try.zero5 rfl rfl rfl) ?_
  intro w1_2 b1_2 E1_2 B1_2 L1_2
  refine op_convB rfl rfl Try.underlying24 Try.underlying5 (by assumption) ?_
  intro w1_3 C1_3 B1_3
  have X3 : Ext w w1_3 := (X1.trans E1_2).chg C1_3 (by have := X1.size; omega)
  have h1 := heap_lt B1_1
  have H1 := chg_heap (ext_heap B1_1 E1_2) C1_3 (by omega)
  have h3 := heap_lt B1_3
  refine op_newS rfl (r_buildSlice (vs := [.slice _ _ _, .slice _ _ _]) Try.underlying23 Try.sz24 Try.zero24 rfl rfl rfl) ?_
  intro w1_4 b1_4 E1_4 B1_4 L1_4
  have X4 : Ext w w1_4 := X3.trans E1_4
  have R4 : BytesL w1_4 (some ⟨b1_4, 0, none⟩) [[49, 50, 51, 52], [53, 54, 55, 56, 57]] := by
    refine Blk.row B1_4 (Blk.lt B1_4) ?_
    intro i hi
    match i, hi with
    | 0, _ => exact ⟨_, ⟨_, _, rfl, Nat.le_refl _, (by show 4 ≤ 140737488355328; omega), bytes_blk (l := [49, 50, 51, 52]) (ext_heap H1 E1_4) (heap_lt (ext_heap H1 E1_4))⟩, fun j hj => by simp [Ty.slice] at hj; subst hj; rfl⟩
    | 1, _ => exact ⟨_, ⟨_, _, rfl, Nat.le_refl _, (by show 5 ≤ 140737488355328; omega), bytes_blk (l := [53, 54, 55, 56, 57]) (ext_heap B1_3 E1_4) (heap_lt (ext_heap B1_3 E1_4))⟩, fun j hj => by simp [Ty.slice] at hj; subst hj; rfl⟩
  refine opCv rfl (r_call Try.func12 Try.nm12 rfl) (sum_spec _ _ [[49, 50, 51, 52], [53, 54, 55, 56, 57]] _ (by decide) R4) ?_
  rintro v w2 ⟨rfl, hE⟩
  refine op rfl (r_eql rfl rfl) ?_
  refine op_true rfl (r_moveV (v := .bool (decide _)) rfl) (by rw [known_sum]; rfl) ?_
  refine opGCv_yes rfl rfl rfl rfl rfl (r_call Try.func14 Try.nm14 rfl) (step_spec 1#32 _) ?_
  rintro v w3 ⟨rfl, rfl⟩
  refine opG_yes rfl rfl rfl rfl rfl (r_eql rfl rfl) ?_
  refine op rfl (r_pickTV (v := .bool _) rfl rfl) ?_
  refine op rfl (r_assignV (v := .bool _) rfl) ?_
  refine WL_nil ?_
  refine W_ret (finX_ret ?_)
  refine fin1 ?_
  exact ⟨_, rfl, by rw [known_step]; rfl, X4.trans hE⟩

theorem u16_of {n : Int} (h : inK .u16 n) : ∃ m : Nat, n = m ∧ m ≤ 65535 := by
  simp only [inK, lo, hi] at h
  exact ⟨n.toNat, by omega, by omega⟩
/-- Slices in a block, as rows of rows. -/
theorem bytesL_one {w : World} {g : Nat} {A : Option Addr} {c : Nat} {l : List UInt8} {t : TypeId} (h : Blk w g #[.slice A l.length c] t) (hc : l.length ≤ c) (hb : l.length ≤ big) (hr : Bytes w A l) : BytesL w (some ⟨g, 0, none⟩) [l] :=
  Blk.row h (Blk.lt h) fun i hi => by
    obtain rfl : i = 0 := by simp at hi; omega
    exact ⟨_, ⟨_, _, rfl, hc, hb, hr⟩, fun j hj => by simp [Ty.slice] at hj; subst hj; rfl⟩
theorem bytesL_two {w : World} {g : Nat} {A A' : Option Addr} {c c' : Nat} {l l' : List UInt8} {t : TypeId} (h : Blk w g #[.slice A l.length c, .slice A' l'.length c'] t) (hc : l.length ≤ c) (hb : l.length ≤ big) (hr : Bytes w A l)
    (hc' : l'.length ≤ c') (hb' : l'.length ≤ big) (hr' : Bytes w A' l') : BytesL w (some ⟨g, 0, none⟩) [l, l'] :=
  Blk.row h (Blk.lt h) fun i hi => by
    match i, hi with
    | 0, _ => exact ⟨_, ⟨_, _, rfl, hc, hb, hr⟩, fun j hj => by simp [Ty.slice] at hj; subst hj; rfl⟩
    | 1, _ => exact ⟨_, ⟨_, _, rfl, hc', hb', hr'⟩, fun j hj => by simp [Ty.slice] at hj; subst hj; rfl⟩
end Go.Proofs.Ythclaoblbhnmnaa
