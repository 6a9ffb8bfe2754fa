/-
  The engine: structs of any fields, read; a struct stored into a row. Generic: no program.
-/
import Derived.Test.YtmedmajdoecjfaaDoorInts
import Derived.Test.YtmedmajdoecjfaaDoorRec
import Derived.Laws.CopyRow
namespace Go.Eng
set_option linter.unusedVariables false
set_option linter.unusedSimpArgs false
open Go.RowKit Go.ChangeShapes Go.WideShapes Go.ChangeAt

/-- Cells that are so many fields, one behind the other. -/
def Fits {H : Type} (enc : TypeId × Value → H) (P : Program) (w : World) (fuel : Nat) : List TypeId → List Value → List (DataW H × List MemPlace) → Prop
  | [], cs, xs => cs = [] ∧ xs = []
  | e :: es, cs, xs => ∃ x xs', xs = x :: xs' ∧ DataW.trod enc P w 0 (fun _ => true) true fuel e (cs.take (P.cellsOf e)) = some x ∧ Fits enc P w fuel es (cs.drop (P.cellsOf e)) xs'
/-- What fields read as. -/
def Rds (P : Program) {α : Type} (es : List TypeId) (T : Ty α) (μ : α → Nat) : Prop :=
  ∀ {H : Type} {enc : TypeId × Value → H} {w : World} {fuel : Nat} {cs : List Value} {xs : List (DataW H × List MemPlace)}, Fits enc P w fuel es cs xs → (∀ n ∈ DataW.weightsEach P es (xs.map (·.1)), n ≤ reachBytes) →
    ∃ y, T.R w (old w) y cs ∧ ∀ β : DataW H → Nat, Bulk β → μ y ≤ ((xs.map (·.1)).map β).sum
theorem Rds.one {P : Program} {α : Type} {e : TypeId} {T : Ty α} {μ : α → Nat} (h : Rd P e T μ) : Rds P [e] T μ := by
  rintro H enc w fuel cs xs ⟨x, xs', rfl, h1, h2, rfl⟩ hz
  obtain ⟨y, h3, h4⟩ := h h1 (fun n hn => hz n (by simp [DataW.weightsEach, hn]))
  refine ⟨y, ?_, fun β hβ => by simpa using h4 β hβ⟩
  have : cs.take (P.cellsOf e) = cs := by
    have := List.take_append_drop (P.cellsOf e) cs
    rwa [h2, List.append_nil] at this
  rwa [this] at h3
theorem Rds.cons {P : Program} {α γ : Type} {e : TypeId} {es : List TypeId} {S : Ty α} {T : Ty γ} {μ : α → Nat} {ν : γ → Nat} (h : Rd P e S μ) (k : Rds P es T ν) : Rds P (e :: es) (S.pair T) (fun x => μ x.1 + ν x.2) := by
  rintro H enc w fuel cs xs ⟨x, xs', rfl, h1, h2⟩ hz
  obtain ⟨y, h3, h4⟩ := h h1 (fun n hn => hz n (by simp [DataW.weightsEach, hn]))
  obtain ⟨z, h5, h6⟩ := k h2 (fun n hn => hz n (by simp [DataW.weightsEach]; exact Or.inr (by simpa using hn)))
  refine ⟨(y, z), ⟨_, _, (List.take_append_drop (P.cellsOf e) cs).symm, h3, h5⟩, fun β hβ => ?_⟩
  have a := h4 β hβ
  have b := h6 β hβ
  simp only [List.map_cons, List.sum_cons]
  omega
def fitsGo (P : Program) : Nat → List Field → List TypeId → Bool
  | off, [], [] => true
  | off, f :: fs, e :: es => f.type == e && f.offset == off && fitsGo P (off + P.cellsOf e) fs es
  | _, _, _ => false
def fitsB (P : Program) (t : TypeId) (es : List TypeId) : Bool := match P.underlying t with
  | some (.struct fs) => fitsGo P 0 fs.toList es && (P.cellsOf t == (es.map P.cellsOf).sum)
  | _ => false
theorem fits_of {H : Type} {enc : TypeId × Value → H} {P : Program} {w : World} {n : Nat} {cs : List Value} : ∀ (es : List TypeId) (fs : List Field) (off : Nat) (xs : List (DataW H × List MemPlace)), fitsGo P off fs es = true → xs.length = fs.length → (cs.drop off).length = (es.map P.cellsOf).sum →
    (∀ (i : Nat) (f : Field), fs[i]? = some f → DataW.trod enc P w 0 (fun _ => true) true n f.type ((cs.drop f.offset).take (P.cellsOf f.type)) = xs[i]?) → Fits enc P w n es (cs.drop off) xs
  | [], [], off, xs, _, hl, hc, _ => ⟨List.length_eq_zero_iff.1 (by simpa using hc), List.length_eq_zero_iff.1 (by simpa using hl)⟩
  | [], _ :: _, _, _, h, _, _, _ => by simp [fitsGo] at h
  | _ :: _, [], _, _, h, _, _, _ => by simp [fitsGo] at h
  | e :: es, f :: fs, off, [], h, hl, _, _ => by simp at hl
  | e :: es, f :: fs, off, x :: xs, h, hl, hc, hf => by
    simp only [fitsGo, Bool.and_eq_true, beq_iff_eq] at h
    obtain ⟨⟨h1, h2⟩, h3⟩ := h
    refine ⟨x, xs, rfl, ?_, ?_⟩
    · have := hf 0 f rfl
      rw [h1, h2] at this
      simpa using this
    · rw [List.drop_drop]
      refine fits_of es fs _ xs h3 (by simpa using hl) ?_ (fun i g hg => by have := hf (i + 1) g (by simpa using hg); simpa using this)
      simp only [List.length_drop, List.map_cons, List.sum_cons] at hc ⊢
      omega
theorem trod_fits {H : Type} {enc : TypeId × Value → H} {P : Program} {w : World} {fuel : Nat} {t : TypeId} {es : List TypeId} {cs : List Value} {x : DataW H × List MemPlace} (hf : fitsB P t es = true) (h : DataW.trod enc P w 0 (fun _ => true) true fuel t cs = some x) :
    ∃ fs xs n, P.underlying t = some (.struct fs) ∧ x.1 = .agg (xs.map (·.1)) ∧ fs.toList.map (fun f : Field => f.type) = es ∧ Fits enc P w n es cs xs := by
  unfold fitsB at hf
  cases hu : P.underlying t with
  | none => rw [hu] at hf; cases hf
  | some td =>
    cases td with
    | struct fs =>
      rw [hu] at hf
      simp only [Bool.and_eq_true, beq_iff_eq] at hf
      obtain ⟨xs, n, _, rfl, hlen, hxl, hff⟩ := DataW.trod_struct hu h
      refine ⟨fs, xs, n, rfl, rfl, ?_, ?_⟩
      · have : ∀ (fl : List Field) (es : List TypeId) (off : Nat), fitsGo P off fl es = true → fl.map (fun f : Field => f.type) = es := by
          intro fl
          induction fl with
          | nil => intro es off h; cases es with
            | nil => rfl
            | cons _ _ => simp [fitsGo] at h
          | cons f fl ih => intro es off h; cases es with
            | nil => simp [fitsGo] at h
            | cons e es =>
              simp only [fitsGo, Bool.and_eq_true, beq_iff_eq] at h
              simp [h.1.1, ih es _ h.2]
        exact this _ _ _ hf.1
      · have := fits_of (cs := cs) (w := w) (n := n) (enc := enc) es fs.toList 0 xs hf.1 (by rw [hxl]; simp) (by simp [hlen, hf.2]) (fun i f hi => hff i f (by simpa using hi))
        simpa using this
    | _ => rw [hu] at hf; cases hf
theorem weights_fits {H : Type} {P : Program} {t : TypeId} {es : List TypeId} {fs : Array Field} {ds : List (DataW H)} (hu : P.underlying t = some (.struct fs)) (he : fs.toList.map (fun f : Field => f.type) = es) : (DataW.agg ds : DataW H).weights P t = DataW.weightsEach P es ds := by
  subst he
  simp [DataW.weights, hu]
theorem Rd.struct {P : Program} {α : Type} {t : TypeId} {es : List TypeId} {T : Ty α} {μ : α → Nat} (hf : fitsB P t es = true) (h : Rds P es T μ) : Rd P t T (fun x => μ x + 1) := by
  intro H enc w fuel cs x hx hz
  obtain ⟨fs, xs, n, hu, h1, h2, h3⟩ := trod_fits hf hx
  rw [h1, weights_fits hu h2] at hz
  obtain ⟨y, h4, h5⟩ := h h3 hz
  refine ⟨y, h4, fun β hβ => ?_⟩
  rw [h1]
  exact Nat.le_trans (Nat.add_le_add_right (h5 β hβ) 1) (hβ.agg _)
theorem Rd.iso {P : Program} {α γ : Type} {t : TypeId} {T : Ty α} {μ : α → Nat} (f : γ → α) (g : α → γ) (hg : ∀ x, f (g x) = x) (h : Rd P t T μ) : Rd P t (T.iso f) (fun x => μ (f x)) := by
  intro H enc w fuel cs x hx hz
  obtain ⟨y, h1, h2⟩ := h hx hz
  refine ⟨g y, ?_, fun β hβ => ?_⟩
  · show T.R _ _ (f (g y)) _
    rw [hg]; exact h1
  · show μ (f (g y)) ≤ _
    rw [hg]; exact h2 β hβ
theorem arg_struct {H : Type} {enc : TypeId × Value → H} {P : Program} {W : World} {base : Nat} {t : TypeId} {v : Value} {d : DataW H} {p : List MemPlace} {α : Type} {es : List TypeId} {T : Ty α} {μ : α → Nat} (hf : fitsB P t es = true) (h : Rd P t T μ) (hv : Value.okWide P W .any base t v) (hx : DataW.Trod enc P W 0 (fun _ => true) true t v d p) (hz : ∀ n ∈ d.weights P t, n ≤ reachBytes) :
    ∃ y cs, v = .agg cs.toArray ∧ T.R W (old W) y cs ∧ ∀ β : DataW H → Nat, Bulk β → μ y ≤ β d := by
  obtain ⟨fuel, hfu⟩ := hx
  obtain ⟨fs, xs, n, hu, _⟩ := trod_fits hf hfu
  obtain ⟨cs, rfl, _⟩ := okWide_struct hu hv
  obtain ⟨y, h1, h2⟩ := h hfu hz
  exact ⟨y, _, by simp [Value.cells], h1, h2⟩

theorem fin4 {P : Program} {t u s r : Tmp} {R : Ending → World → Prop} {e : Env} {w : World} (h : R (.returned (.tuple #[e t, e u, e s, e r])) w) (hm : e slotM = undef := by rfl) (k1 : Nat.beq t slotM = false := by rfl) (k2 : Nat.beq u slotM = false := by rfl) (k3 : Nat.beq s slotM = false := by rfl) (k4 : Nat.beq r slotM = false := by rfl) : fin P #[.tmp t, .tmp u, .tmp s, .tmp r] R e w := by
  refine fin_plain hm ?_
  intro tmps ht
  refine ⟨.tuple #[e t, e u, e s, e r], ?_, h⟩
  have h1 := ht t (by rw [beq_eq] at k1; simpa using k1)
  have h2 := ht u (by rw [beq_eq] at k2; simpa using k2)
  have h3 := ht s (by rw [beq_eq] at k3; simpa using k3)
  have h4 := ht r (by rw [beq_eq] at k4; simpa using k4)
  simp at h1 h2 h3 h4
  simp [h1, h2, h3, h4]
/-! a struct stored into a row -/
theorem r_storeAt {P : Program} {ρ : Operand → Value} {w : World} {d : Option Tmp} {t : TypeId} {pos : String} {af : Array Edge} {g : Option (Nat × Bool)} {x y : Operand} {ty tb : TypeId} {b o : Nat} {c : Array Value} {xs : List Value} (hx : ρ x = .pointer (some ⟨b, o, none⟩)) (hy : ρ y = .agg xs.toArray)
    (hs : (P.info? ty).map (·.size) = some xs.length) (hb : Blk w b c tb) (ho : o + xs.length ≤ c.size) (h1 : xs.all (·.oneCell') = true) :
    (execOp ρ ⟨d, .store ty x y, t, pos, af, g⟩).run P w = .ok .skip (w.setRow b (c.toList.take o ++ xs ++ c.toList.drop (o + xs.length)).toArray) := by
  have h := run_storeCells_at (P := P) b o tb xs 0 c w hb (by simpa using ho) (List.all_eq_true.1 h1)
  simp only [Nat.add_zero] at h
  cases hq : P.info? ty with
  | none => simp [hq] at hs
  | some inf =>
    have hsz : inf.size = xs.length := by simpa [hq] using hs
    simp [execOp, Instr.storeAt, Instr.sureAddr, hx, hy, storeVar, sizeOf, typeInfo, hq, Value.cells, hsz, h]
theorem take_mid {α : Type} {c xs : List α} {o j : Nat} (ho : o + xs.length ≤ c.length) : (c.take o ++ xs ++ c.drop (o + xs.length))[j]? = if o ≤ j ∧ j < o + xs.length then xs[j - o]? else c[j]? := by
  have hl : (c.take o).length = o := by simp; omega
  by_cases h1 : j < o
  · rw [if_neg (by omega), List.append_assoc, List.getElem?_append_left (by omega), List.getElem?_take, if_pos h1]
  · by_cases h2 : j < o + xs.length
    · rw [if_pos ⟨by omega, h2⟩, List.getElem?_append_left (by simp; omega), List.getElem?_append_right (by omega), hl]
    · rw [if_neg (by omega), List.getElem?_append_right (by simp; omega), List.getElem?_drop]
      congr 1
      simp only [List.length_append, hl]
      omega
theorem mul_sep {i k n j : Nat} (hj : j < n) (hik : i ≠ k) : ¬ (k * n ≤ i * n + j ∧ i * n + j < k * n + n) := by
  rintro ⟨h1, h2⟩
  rcases Nat.lt_or_ge i k with h | h
  · have := Nat.mul_le_mul_right n h
    rw [Nat.succ_mul] at this
    omega
  · have h' : k + 1 ≤ i := by omega
    have := Nat.mul_le_mul_right n h'
    rw [Nat.add_mul, Nat.one_mul] at this
    omega
/-- An element of what is one's own is stored anew. -/
theorem Own.storeAt {α : Type} {T : Ty α} {w : World} {F : Nat → Prop} {B : Nat} {e : TypeId} {v : Value} {l : List α} (h : Own T w F B e v l) {i : Nat} (hi : i < l.length) {x : α} {xs : List Value} (hR : T.R w F x xs) (hF : ∀ b, F b → b < B) :
    ∃ g cap c, v = .slice (some ⟨g, 0, none⟩) l.length cap ∧ l.length ≤ cap ∧ B ≤ g ∧ Blk w g c e ∧ i * T.sz + xs.length ≤ c.size ∧ xs.length = T.sz ∧ xs.all (·.oneCell') = true ∧ ∀ w', Chg g w w' → Blk w' g (c.toList.take (i * T.sz) ++ xs ++ c.toList.drop (i * T.sz + xs.length)).toArray e → Own T w' F B e v (l.set i x) := by
  have hxl := T.len hR
  rcases h with ⟨_, rfl⟩ | ⟨g, cap, c, ys, rfl, h1, h2, h3, h4, h5, h6⟩
  · simp at hi
  · have hll : (l.set i x).length = l.length := List.length_set
    have hcl : c.toList.length = c.size := Array.length_toList
    have hle : (i + 1) * T.sz ≤ cap * T.sz := Nat.mul_le_mul_right _ (by omega)
    rw [Nat.add_mul, Nat.one_mul] at hle
    have hmid : i * T.sz + xs.length ≤ c.toList.length := by omega
    refine ⟨g, cap, c, rfl, h3, h1, h2, by omega, hxl, List.all_eq_true.2 (T.one hR), fun w' hC hB => Or.inr ⟨g, cap, _, (c.toList.take (i * T.sz) ++ xs ++ c.toList.drop (i * T.sz + xs.length)).take ((l.set i x).length * T.sz), by rw [List.length_set], h1, hB, by rw [List.length_set]; exact h3, ?_, ?_, rfl⟩⟩
    · simp only [List.size_toArray, List.length_append, List.length_take, List.length_drop, Array.length_toList]; omega
    · have hsm : Same F w w' := fun b hb => by
        by_cases hbw : b < w.heap.size
        · exact hC.block b hbw (by have := hF b hb; omega)
        · have := hF b hb; have := Blk.lt h2; omega
      have hlen : l.length * T.sz ≤ cap * T.sz := Nat.mul_le_mul_right _ h3
      have hyl : ∀ j, j < l.length * T.sz → ys[j]? = c.toList[j]? := fun j hj => by rw [← h6, List.getElem?_take, if_pos hj]
      refine Cat.of_get ?_ ?_
      · simp only [List.length_set, List.length_take, List.length_append, List.length_drop, Array.length_toList]; omega
      · intro k hk
        rw [List.length_set] at hk
        have hkl : (k + 1) * T.sz ≤ l.length * T.sz := Nat.mul_le_mul_right _ hk
        rw [Nat.add_mul, Nat.one_mul] at hkl
        by_cases hki : k = i
        · subst hki
          refine ⟨xs, by rw [List.getElem_set_self]; exact T.keep hR hsm (fun _ h => h), fun j hj => ?_⟩
          rw [List.getElem?_take, if_pos (by rw [hll]; omega)]
          rw [take_mid hmid, if_pos (by omega)]
          congr 1; omega
        · obtain ⟨cs, h7, h8⟩ := h5.get k hk
          refine ⟨cs, by rw [List.getElem_set_ne (fun q => hki q.symm)]; exact T.keep h7 hsm (fun _ h => h), fun j hj => ?_⟩
          rw [List.getElem?_take, if_pos (by rw [hll]; omega)]
          rw [take_mid hmid, if_neg (by rw [hxl]; exact mul_sep hj hki), ← hyl _ (by omega)]
          exact h8 j hj
end Go.Eng
