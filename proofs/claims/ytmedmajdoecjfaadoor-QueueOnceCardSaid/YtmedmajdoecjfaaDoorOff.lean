/-
  Numbers of one's own in a row that begins anywhere in its block: append, cut off ahead, read. Generic: no program.
-/
import Derived.Test.YtmedmajdoecjfaaDoorSlice
namespace Go.Eng
set_option linter.unusedVariables false
set_option linter.unusedSimpArgs false
open Go.RowKit

/-- Numbers of one's own. -/
def IntO (w : World) (B : Nat) (e : TypeId) (v : Value) (l : List Int) : Prop :=
  (∀ x ∈ l, inK .i64 x) ∧ ((v = .slice none 0 0 ∧ l = []) ∨ ∃ g o cap c, v = .slice (some ⟨g, o, none⟩) l.length cap ∧ B ≤ g ∧ Blk w g c e ∧ l.length ≤ cap ∧ o + cap ≤ c.size ∧ ∀ i (h : i < l.length), c[o + i]? = some (.int .i64 l[i]))
theorem IntO.nil {w : World} {B : Nat} {e : TypeId} : IntO w B e (.slice none 0 0) [] := ⟨(fun x h => by cases h), Or.inl ⟨rfl, rfl⟩⟩
theorem IntO.keep {w w' : World} {B : Nat} {e : TypeId} {v : Value} {l : List Int} (h : IntO w B e v l) (hb : ∀ g, v.ownBlock = some g → w'.heap[g]? = w.heap[g]?) : IntO w' B e v l := by
  refine ⟨h.1, ?_⟩
  rcases h.2 with h | ⟨g, o, cap, c, rfl, h1, h2, h3⟩
  · exact Or.inl h
  · exact Or.inr ⟨g, o, cap, c, rfl, h1, by unfold Blk at *; rw [hb g rfl]; exact h2, h3⟩
theorem IntO.lt {w : World} {B : Nat} {e : TypeId} {v : Value} {l : List Int} (h : IntO w B e v l) {g : Nat} (hg : v.ownBlock = some g) : B ≤ g ∧ g < w.heap.size := by
  rcases h.2 with ⟨rfl, _⟩ | ⟨g', o, cap, c, rfl, h1, h2, _⟩
  · simp [Value.ownBlock] at hg
  · simp [Value.ownBlock] at hg; subst hg; exact ⟨h1, Blk.lt h2⟩
theorem IntO.read {w : World} {B : Nat} {e : TypeId} {v : Value} {l : List Int} (h : IntO w B e v l) : ∃ A cap, v = .slice A l.length cap ∧ l.length ≤ cap ∧ (Ty.int .i64).Row w (fun b => v.ownBlock = some b) A l := by
  rcases h.2 with ⟨rfl, rfl⟩ | ⟨g, o, cap, c, rfl, h1, h2, h3, h4, h5⟩
  · exact ⟨none, 0, rfl, Nat.le_refl _, Or.inl rfl⟩
  · refine ⟨_, cap, rfl, h3, Or.inr ⟨g, o, c, e, (0, 0), rfl, rfl, h2, fun i hi => ⟨[.int .i64 l[i]], ⟨rfl, h.1 _ (List.getElem_mem hi)⟩, fun j hj => ?_⟩⟩⟩
    have hj0 : j = 0 := by have : j < 1 := hj; omega
    subst hj0
    have : (Ty.int .i64).sz = 1 := rfl
    rw [this, Nat.mul_one, Nat.add_zero, h5 i hi]; rfl
theorem IntO.ne_slice {w : World} {B : Nat} {e : TypeId} {v : Value} {l : List Int} (h : IntO w B e v l) : ∃ A cap, v = .slice A l.length cap ∧ l.length ≤ cap := by
  obtain ⟨A, cap, h1, h2, _⟩ := h.read
  exact ⟨A, cap, h1, h2⟩
/-- All but the first. -/
theorem IntO.tail {w : World} {B : Nat} {e : TypeId} {A : Option Addr} {n cap : Nat} {x : Int} {l : List Int} (h : IntO w B e (.slice A n cap) (x :: l)) : n = l.length + 1 ∧ IntO w B e (.slice (cutA A cap 1 1) l.length (cap - 1)) l ∧ (Value.slice (cutA A cap 1 1) l.length (cap - 1)).ownBlock = (Value.slice A n cap).ownBlock := by
  obtain ⟨h0, h⟩ := h
  rcases h with ⟨_, h⟩ | ⟨g, o, cap', c, hv, h1, h2, h3, h4, h5⟩
  · cases h
  · simp only [Value.slice.injEq] at hv
    obtain ⟨rfl, rfl, rfl⟩ := hv
    refine ⟨by simp, ⟨fun y hy => h0 y (List.mem_cons_of_mem _ hy), ?_⟩, ?_⟩
    · simp only [List.length_cons] at h3 h5
      by_cases hc : cap = 1
      · have hl : l = [] := List.length_eq_zero_iff.1 (by omega)
        subst hl
        refine Or.inr ⟨g, o, 0, c, by unfold cutA; rw [if_pos hc, hc], h1, h2, Nat.le_refl _, by omega, fun i hi => absurd hi (Nat.not_lt_zero i)⟩
      · refine Or.inr ⟨g, o + 1, cap - 1, c, by unfold cutA; rw [if_neg hc]; rfl, h1, h2, by omega, by omega, fun i hi => ?_⟩
        have := h5 (i + 1) (by omega)
        rw [show o + 1 + i = o + (i + 1) by omega, this]; rfl
    · unfold cutA
      split <;> rfl
section
variable {P : Program} {w : World}
/-- One more. -/
theorem run_append_int {t ty e : TypeId} {z : Value} {by_ B c : Nat} {v : Value} {l : List Int} {g2 : Nat} {x : Int} {t2 : TypeId} (hu : P.underlying t = some (.slice e)) (hs : (P.info? e).map (·.size) = some 1) (hy : (P.info? e).map (·.bytes) = some by_)
    (hz : (P.info? e).bind (·.zero) = some z) (hzs : z.cells.size = 1) (hown : IntO w B e v l) (hrow : Blk w g2 #[.int .i64 x] t2) (hx : inK .i64 x) (hsz : (l.length + 1) * by_ ≤ 140737488355328) (h63 : l.length + 1 ≤ 140737488355328) (hB : B ≤ w.heap.size) :
    ∃ v' w', (Builtin.append_ #[t, t] ty #[v, .slice (some ⟨g2, 0, none⟩) 1 c]).run P w = .ok v' w' ∧ IntO w' B e v' (l ++ [x]) ∧ Gro v.ownBlock w w' ∧ (v'.ownBlock = v.ownBlock ∨ ∃ g, v'.ownBlock = some g ∧ w.heap.size ≤ g) := by
  have hnews : ∀ j u, ([.int .i64 x] : List Value)[j]? = some u → w.cell? ((⟨g2, 0, none⟩ : Addr).add j) = some u := by
    intro j u hj
    cases j with
    | zero => simp only [List.getElem?_cons_zero, Option.some.injEq] at hj; subst hj; exact Blk.cell hrow rfl
    | succ j => simp at hj
  have hone : ∀ u ∈ ([.int .i64 x] : List Value), u.oneCell' = true := fun u hu => by rw [List.mem_singleton.1 hu]; rfl
  obtain ⟨h0, h⟩ := hown
  have hok : ∀ y ∈ l ++ [x], inK .i64 y := fun y hy => by
    rcases List.mem_append.1 hy with k | k
    · exact h0 y k
    · rw [List.mem_singleton.1 k]; exact hx
  rcases h with ⟨rfl, rfl⟩ | ⟨g, o, cap, cc, rfl, h1, h2, h3, h4, h5⟩
  · have hT : Own (Ty.int .i64) w (fun _ => False) B e (.slice none 0 0) [] := Own.nil
    have hSrc : Src (Ty.int .i64) w (fun _ => False) (some ⟨g2, 0, none⟩) [x] := Or.inr ⟨g2, 0, [.int .i64 x], rfl, ⟨[.int .i64 x], [], rfl, ⟨rfl, hx⟩, rfl⟩, fun j u hj => by have := hnews j u hj; rw [add_at] at this; exact this⟩
    obtain ⟨v', w', hr, hO, hG, hv⟩ := run_append (T := Ty.int .i64) (F := fun _ => False) (m := [x]) (c := c) (ty := ty) hu hs hy hz hzs hT hSrc (fun b q => q.elim) (by simpa using hsz) (by simp) hB
    refine ⟨v', w', hr, ⟨hok, ?_⟩, hG, hv⟩
    rcases hO with ⟨_, q⟩ | ⟨g', cap', c', xs, rfl, k1, k2, k3, k4, k5, k6⟩
    · cases q
    · refine Or.inr ⟨g', 0, cap', c', rfl, k1, k2, k3, by rw [k4]; have : (Ty.int .i64).sz = 1 := rfl; rw [this]; omega, fun i hi => ?_⟩
      obtain ⟨y, h7, h8⟩ := k5.get i hi
      obtain ⟨rfl, _⟩ := h7
      have := h8 0 (Nat.lt_add_one 0)
      have h1' : (Ty.int .i64).sz = 1 := rfl
      rw [h1'] at this k6
      simp only [Nat.mul_one, Nat.add_zero, List.getElem?_cons_zero] at this k6
      rw [← k6, List.getElem?_take, if_pos hi] at this
      simpa using this
  · obtain ⟨i, hi, his, hib, hiz⟩ := info_of hs hy hz
    by_cases hroom : l.length + 1 ≤ cap
    · have hf := run_firstCells_some (P := P) w i.size 1 ⟨g2, 0, none⟩ 1 c [.int .i64 x] (by rw [his]; rfl) hnews
      have hst := run_storeCells_at P g (o + l.length * i.size) e [.int .i64 x] 0 cc w h2 (by rw [his]; simp; omega) hone
      simp only [Nat.add_zero] at hst
      have hr : (Builtin.append_ #[t, t] ty #[.slice (some ⟨g, o, none⟩) l.length cap, .slice (some ⟨g2, 0, none⟩) 1 c]).run P w = .ok (.slice (some ⟨g, o, none⟩) (l.length + 1) cap) (w.setRow g (cc.toList.take (o + l.length * i.size) ++ [Value.int .i64 x] ++ cc.toList.drop (o + l.length * i.size + 1)).toArray) := by
        simp [Builtin.append_, run_underlying hu, sizeOf, typeInfo, hi, Builtin.lenOf, hroom, hf, Addr.add_lit, hst]
      rw [his, Nat.mul_one] at hr
      have hcl : cc.toList.length = cc.size := Array.length_toList
      have hlen : o + l.length < cc.toList.length := by omega
      refine ⟨_, _, hr, ⟨hok, Or.inr ⟨g, o, cap, _, by rw [List.length_append]; rfl, h1, setRow_heap w g cc _ e _ h2, by rw [List.length_append]; exact hroom, ?_, fun j hj => ?_⟩⟩, ⟨rfl, rfl, rfl, by simp, fun k hk hk' => setRow_other w g k _ (fun q => hk' (by rw [q]; rfl))⟩, Or.inl rfl⟩
      · simp only [List.size_toArray, List.length_append, List.length_take, List.length_drop, Array.length_toList, List.length_cons, List.length_nil] at hlen ⊢
        omega
      · rw [List.length_append, List.length_singleton] at hj
        rw [List.getElem?_toArray]
        by_cases hjl : j < l.length
        · rw [List.append_assoc, List.getElem?_append_left (by rw [List.length_take]; omega), List.getElem?_take, if_pos (by omega), List.getElem_append_left hjl, ← h5 j hjl]
          simp
        · have hjj : j = l.length := by omega
          subst hjj
          rw [List.append_assoc, List.getElem?_append_right (by rw [List.length_take]; omega), List.length_take, Nat.min_eq_left (by omega), Nat.sub_self]
          simp
    · have holds : ∀ j u, (l.map fun y => Value.int .i64 y)[j]? = some u → w.cell? ((⟨g, o, none⟩ : Addr).add j) = some u := by
        intro j u hu
        have hj : j < l.length := by
          rcases Nat.lt_or_ge j l.length with q | q
          · exact q
          · rw [List.getElem?_eq_none (by simpa using q)] at hu; cases hu
        rw [add_at]
        rw [List.getElem?_map, List.getElem?_eq_getElem hj] at hu
        simp only [Option.map_some, Option.some.injEq] at hu
        subst hu
        exact Blk.cell h2 (h5 j hj)
      have hr := run_append_grow (P := P) w t ty e i z hu hi hiz ⟨g, o, none⟩ l.length cap (l.map fun y => Value.int .i64 y) (by rw [List.length_map, his, Nat.mul_one]) holds ⟨g2, 0, none⟩ 1 c [.int .i64 x] (by rw [his]; rfl) hnews (by omega) (by omega) (growslice_fits (by omega) (by rw [hib]; exact hsz))
      have hge := grownCap_ge w (l.length + 1) cap e
      refine ⟨_, _, hr, ⟨hok, Or.inr ⟨w.heap.size, 0, grownCap w (l.length + 1) cap e, _, by rw [List.length_append]; rfl, hB, heap_alloc_new w.drew _, by rw [List.length_append]; exact hge, ?_, fun j hj => ?_⟩⟩, ?_, Or.inr ⟨w.heap.size, rfl, Nat.le_refl _⟩⟩
      · simp only [Array.size_append, List.size_toArray, size_zeroCells, hzs, List.length_map, List.length_cons, List.length_nil]
        omega
      · rw [List.length_append, List.length_singleton] at hj
        rw [Nat.zero_add, Array.getElem?_append_left (by simp; omega)]
        have hcc : (l.map fun y => Value.int .i64 y).toArray ++ [Value.int .i64 x].toArray = ((l ++ [x]).map fun y => Value.int .i64 y).toArray := by simp
        rw [hcc, List.getElem?_toArray, List.getElem?_map, List.getElem?_eq_getElem (by simp; omega)]; rfl
      · have hE : Ext w (w.drew.alloc (.cells ((l.map fun y => Value.int .i64 y).toArray ++ #[Value.int .i64 x] ++ Builtin.zeroCells z.cells (grownCap w (l.length + 1) cap e - (l.length + 1))) e)) := (Ext.drew (Ext.refl w)).of_alloc _
        exact ⟨hE.os, hE.tape, hE.output, hE.size, fun k hk _ => hE.block k hk⟩
variable {n : Nat} {N : Env → World → Prop} {X : Exit → Env → World → Prop} {e : Env} {ops : Array Oper} {rest : List Oper} {d : Option Tmp} {ty : TypeId} {pos : String} {af : Array Edge}
theorem op_appInt {s y : Operand} {t el : TypeId} {z : Value} {by_ B c : Nat} {v : Value} {l : List Int} {g2 : Nat} {x : Int} {t2 : TypeId} (hd : dOk n d = true) (hsv : ev e s = v) (hx : ev e y = .slice (some ⟨g2, 0, none⟩) 1 c)
    (hu : P.underlying t = some (.slice el)) (hs : (P.info? el).map (·.size) = some 1) (hy : (P.info? el).map (·.bytes) = some by_) (hz : (P.info? el).bind (·.zero) = some z) (hzs : z.cells.size = 1)
    (hown : IntO w B el v l) (hrow : Blk w g2 #[.int .i64 x] t2) (hk : inK .i64 x) (hsz : (l.length + 1) * by_ ≤ 140737488355328) (h63 : l.length + 1 ≤ 140737488355328) (hB : B ≤ w.heap.size)
    (h : ∀ v' w', IntO w' B el v' (l ++ [x]) → Gro v.ownBlock w w' → (v'.ownBlock = v.ownBlock ∨ ∃ g, v'.ownBlock = some g ∧ w.heap.size ≤ g) → WL P n ops N X rest (putO e d v') w') :
    WL P n ops N X (⟨d, .call { callee := .builtin .append, args := #[s, y], argTypes := #[t, t] }, ty, pos, af, none⟩ :: rest) e w := by
  obtain ⟨v', w', hr, h1, h2, h3⟩ := run_append_int (ty := ty) (c := c) hu hs hy hz hzs hown hrow hk hsz h63 hB
  exact op hd (r_append hsv hx hr) (h v' w' h1 h2 h3)
end
end Go.Eng
