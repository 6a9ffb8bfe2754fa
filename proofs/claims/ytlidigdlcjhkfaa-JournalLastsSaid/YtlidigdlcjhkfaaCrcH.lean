/-
  Bytes in blocks, as rows.
-/
import Derived.Test.YtlidigdlcjhkfaaStr
import Derived.Test.YtlidigdlcjhkfaaCrcW
namespace Go.Proofs.Ytlidigdlcjhkfaa
open Go Go.Eng Go.RowKit Go.Proofs
theorem bytes_blk {w : World} {F : Nat → Prop} {g : Nat} {l : List UInt8} {t : TypeId} {fr : Nat × Nat} (h : w.heap[g]? = some (.cells (l.map fun b => Value.int .u8 b.toNat).toArray t fr)) (hF : F g) : Ty.byte.Row w F (some ⟨g, 0, none⟩) l :=
  Blk.row h hF fun i hi => ⟨[.int .u8 l[i].toNat], ⟨rfl, trivial⟩, fun j hj => by
    simp only [Ty.byte, Ty.scalar] at hj ⊢
    obtain rfl : j = 0 := by omega
    simp [hi]⟩
theorem u16_of {n : Int} (h : inK .u16 n) : ∃ m : Nat, n = m ∧ m ≤ 65535 := by
  simp only [inK, lo, hi] at h
  exact ⟨n.toNat, by omega, by omega⟩
/-- Slices in a block, as rows of rows. -/
theorem bytesL_one {w : World} {g : Nat} {A : Option Addr} {c : Nat} {l : List UInt8} {t : TypeId} (h : Blk w g #[.slice A l.length c] t) (hc : l.length ≤ c) (hb : l.length ≤ big) (hr : Bytes w A l) : BytesL w (some ⟨g, 0, none⟩) [l] :=
  Blk.row h (Blk.lt h) fun i hi => by
    obtain rfl : i = 0 := by simp at hi; omega
    exact ⟨_, ⟨_, _, rfl, hc, hb, hr⟩, fun j hj => by simp [Ty.slice] at hj; subst hj; rfl⟩
theorem bytesL_two {w : World} {g : Nat} {A A' : Option Addr} {c c' : Nat} {l l' : List UInt8} {t : TypeId} (h : Blk w g #[.slice A l.length c, .slice A' l'.length c'] t) (hc : l.length ≤ c) (hb : l.length ≤ big) (hr : Bytes w A l)
    (hc' : l'.length ≤ c') (hb' : l'.length ≤ big) (hr' : Bytes w A' l') : BytesL w (some ⟨g, 0, none⟩) [l, l'] :=
  Blk.row h (Blk.lt h) fun i hi => by
    match i, hi with
    | 0, _ => exact ⟨_, ⟨_, _, rfl, hc, hb, hr⟩, fun j hj => by simp [Ty.slice] at hj; subst hj; rfl⟩
    | 1, _ => exact ⟨_, ⟨_, _, rfl, hc', hb', hr'⟩, fun j hj => by simp [Ty.slice] at hj; subst hj; rfl⟩
end Go.Proofs.Ytlidigdlcjhkfaa
