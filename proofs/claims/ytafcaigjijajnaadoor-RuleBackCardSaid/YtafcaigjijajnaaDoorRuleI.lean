/-
  Rules as they lie in memory; the walks of the reference: line feeds, how long.
-/
import Derived.Test.YtafcaigjijajnaaDoorFacts
import Derived.Test.YtafcaigjijajnaaDoorRuleH
import Derived.Test.YtafcaigjijajnaaDoorRefW
import Derived.Test.YtafcaigjijajnaaDoorGenB
namespace Go.Proofs.YtafcaigjijajnaaDoor
open Go Go.Eng Go.RowKit Go.Proofs
set_option linter.unusedVariables false
set_option linter.unusedSimpArgs false
set_option maxHeartbeats 1000000
set_option maxRecDepth 20000

def ruF (r : Ru) : Int × ByteArray × ByteArray × ByteArray := (r.k, str r.g, str r.o, str r.n)
def ruG (x : Int × ByteArray × ByteArray × ByteArray) : Ru := ⟨x.1, x.2.1.data.toList, x.2.2.1.data.toList, x.2.2.2.data.toList⟩
abbrev ruT : Ty Ru := ((Ty.int .i64).pair (Ty.string.pair (Ty.string.pair Ty.string))).iso ruF
abbrev Ru.vals (r : Ru) : List Value := [.int .i64 r.k, .string (str r.g), .string (str r.o), .string (str r.n)]
theorem ru_cells {w : World} {F : Nat → Prop} {r : Ru} {cs : List Value} (h : ruT.R w F r cs) : cs = r.vals ∧ inK .i64 r.k ∧ r.g.length ≤ 140737488355328 ∧ r.o.length ≤ 140737488355328 ∧ r.n.length ≤ 140737488355328 := by
  obtain ⟨c1, c2, rfl, ⟨rfl, h1⟩, c3, c4, rfl, ⟨rfl, h2⟩, c5, c6, rfl, ⟨rfl, h3⟩, ⟨rfl, h4⟩⟩ := h
  exact ⟨rfl, h1, h2, h3, h4⟩
theorem ru_at {A : Option Addr} {l : List Ru} {w : World} {G : Nat → Prop} (hrow : ruT.Row w G A l) : ∀ i (h : i < l.length), ∃ g off, A = some ⟨g, off, none⟩ ∧ G g ∧ inK .i64 l[i].k ∧ l[i].g.length ≤ 140737488355328 ∧ l[i].o.length ≤ 140737488355328 ∧ l[i].n.length ≤ 140737488355328 ∧ ∀ j, j < 4 → w.cell? ⟨g, off + i * 4 + j, none⟩ = l[i].vals[j]? := fun i h => by
  obtain ⟨g, off, xs, hA, hg, hx, hc⟩ := hrow.cells h
  obtain ⟨rfl, h1, h2, h3, h4⟩ := ru_cells hx
  exact ⟨g, off, hA, hg, h1, h2, h3, h4, hc⟩
theorem parts_more {c : UInt8} : ∀ s : List UInt8, 1 < (parts c s).length ↔ c ∈ s
  | [] => by simp [parts]
  | x :: l => by
    have ih := parts_more (c := c) l
    unfold parts
    split
    · rename_i hx
      have := List.length_pos_iff.2 (parts_ne c l)
      simp only [List.length_cons, hx, List.mem_cons, true_or, iff_true]; omega
    · rename_i hx
      split
      · rename_i p r hp
        rw [hp] at ih
        simp only [List.length_cons] at ih ⊢
        rw [ih]
        simp only [List.mem_cons]
        exact ⟨Or.inr, fun q => q.elim (fun q => absurd q.symm hx) id⟩
      · rename_i hp
        exact absurd hp (parts_ne c l)
theorem feed_spec (s : List UInt8) (w : World) (hs : s.length ≤ 1099511627776) :
    Calls Tryd.prog 48 #[.string (str s)] w (fun en w' => ∃ v, en = .returned v ∧ v = .bool (decide ((10 : UInt8) ∈ s)) ∧ Ext w w') := by
  refine calls' (n := 7) (rs := #[.tmp 2]) (l := [.string (str s)]) Tryd.func48 rfl rfl rfl rfl rfl ?_
  have hX := Ext.refl w
  refine W_seq ?_
  refine W_region ?_
  refine op rfl (r_assignV (v := .bool _) rfl) ?_
  refine WL_nil ?_
  refine W_seq ?_
  refine W_region ?_
  refine op rfl (r_moveV (v := .string _) rfl) ?_
  refine opCv rfl (r_call Tryd.func30 Tryd.nm30 rfl) (refSplit_spec s 10 _ hs) ?_
  rintro v1 w1 ⟨hO, hl, hE⟩
  replace hX := hX.trans hE
  obtain ⟨A1, c1, rfl, -, -⟩ := own_frow hO
  refine op rfl (r_len_slice rfl Tryd.underlying49) ?_
  refine op rfl (r_gtr rfl rfl) ?_
  refine op rfl (r_assignV (v := .bool _) rfl) ?_
  refine WL_nil ?_
  refine W_ret (finX_ret ?_)
  refine fin1 ?_
  exact ⟨_, rfl, bool_iff (by rw [← parts_more]; omega), hX⟩
end Go.Proofs.YtafcaigjijajnaaDoor
