/-
  The engine, all of it that names no program, part two.
-/
import Derived.Test.YtafcaigjijajnaaDoorGenA
import Derived.ProofKit
import Derived.OpenShut
import Derived.ShutString
import Derived.ChangeOld
import Derived.SizedLaws
import Derived.Deep.Slices
import Derived.Laws.CopyRow
import Derived.Laws.IdiomRangeMap
import Derived.Lib.Bytealg
import Derived.Laws.Externs
import Derived.Lib.AppendZerosOnto
import Derived.Lib.Overlaps
import Derived.WideShapes
import Derived.Laws.RangeString
import Derived.Laws.RangeAny
import Derived.Lib.Builder
import Derived.Lib.UnsafeStr
import Derived.HandedShaped
import Derived.LaidLaws
import Derived.Shelf.Vars
import Derived.Stop.LaidErr
/-
  The engine: what came in, read as data. Generic: no program.
-/
namespace Go.Eng
set_option linter.unusedVariables false
set_option linter.unusedSimpArgs false
open Go.RowKit Go.ChangeShapes Go.WideShapes Go.ChangeAt

/-- A measure of data that counts each value once at least. -/
structure Bulk {H : Type} (β : DataW H → Nat) : Prop where
  lit : ∀ l, 1 ≤ β (.lit l)
  str : ∀ b, b.length + 1 ≤ β (.lit (.string b))
  nil : 1 ≤ β .nil
  slice : ∀ es sp, (es.map β).sum + 1 ≤ β (.slice es sp)
  agg : ∀ ps, (ps.map β).sum + 1 ≤ β (.agg ps)
/-- Whatever reads as a datum of type t reads as T tells; μ measures it. -/
def Rd (P : Program) {α : Type} (t : TypeId) (T : Ty α) (μ : α → Nat) : Prop :=
  ∀ {H : Type} {enc : TypeId × Value → H} {w : World} {fuel : Nat} {cs : List Value} {x : DataW H × List MemPlace}, DataW.trod enc P w 0 (fun _ => true) true fuel t cs = some x → (∀ n ∈ x.1.weights P t, n ≤ reachBytes) →
    ∃ y, T.R w (old w) y cs ∧ ∀ β : DataW H → Nat, Bulk β → μ y ≤ β x.1

theorem wf_inK {k : IntKind} {n : Int} (h : (Lit.int k n).wf = true) : inK k n := by
  cases k <;> simp [Lit.wf, IntKind.min, IntKind.max, IntKind.signed, IntKind.bits] at h <;> exact ⟨by simp [lo]; omega, by simp [hi]; omega⟩
theorem Rd.int {P : Program} {t : TypeId} {k : IntKind} (ht : P.underlying t = some (.int k)) : Rd P t (Ty.int k) (fun _ => 1) := by
  intro H enc w fuel cs x h hz
  obtain ⟨n, rfl, hx, hw⟩ := DataW.trod_int ht h
  exact ⟨n, ⟨rfl, wf_inK hw⟩, fun β hβ => by rw [hx]; exact hβ.lit _⟩
theorem Rd.byte {P : Program} {t : TypeId} (ht : P.underlying t = some (.int .u8)) : Rd P t Ty.byte (fun _ => 1) := by
  intro H enc w fuel cs x h hz
  obtain ⟨n, rfl, hx, hw⟩ := DataW.trod_int ht h
  have hk := wf_inK hw
  simp only [inK, lo, hi] at hk
  refine ⟨UInt8.ofNat n.toNat, ⟨?_, trivial⟩, fun β hβ => by rw [hx]; exact hβ.lit _⟩
  have : ((UInt8.ofNat n.toNat).toNat : Int) = n := by
    simp
    omega
  show [Value.int IntKind.u8 n] = [Value.int IntKind.u8 ((UInt8.ofNat n.toNat).toNat : Int)]
  rw [this]
theorem Rd.bool {P : Program} {t : TypeId} (ht : P.underlying t = some .bool) : Rd P t Ty.bool (fun _ => 1) := by
  intro H enc w fuel cs x h hz
  obtain ⟨b, rfl, hx⟩ := DataW.trod_bool ht h
  exact ⟨b, ⟨rfl, trivial⟩, fun β hβ => by rw [hx]; exact hβ.lit _⟩
theorem Rd.string {P : Program} {t : TypeId} (ht : P.underlying t = some .string) : Rd P t Ty.string (fun s => s.size + 1) := by
  intro H enc w fuel cs x h hz
  obtain ⟨s, rfl, rfl, hs⟩ := DataW.trod_string ht h
  have := hz s.data.toList.length (by simp [DataW.weights])
  have e : s.data.toList.length = s.size := by simp
  rw [e] at this
  exact ⟨s, ⟨rfl, Nat.le_trans this (by decide)⟩, fun β hβ => by have := hβ.str s.data.toList; rw [e] at this; exact this⟩
theorem sum_le {α β : Type} (f : α → Nat) (g : β → Nat) : ∀ (l : List α) (m : List β), l.length = m.length → (∀ i (h : i < l.length) (h' : i < m.length), f l[i] ≤ g m[i]) → (l.map f).sum ≤ (m.map g).sum
  | [], _, _, _ => by simp
  | _ :: _, [], h, _ => by simp at h
  | x :: l, y :: m, h, hl => by
    have h0 := hl 0 (by simp) (by simp)
    have h1 := sum_le f g l m (by simpa using h) (fun i a b => by have := hl (i + 1) (by simpa using a) (by simpa using b); simpa using this)
    simp only [List.map_cons, List.sum_cons]
    simp only [List.getElem_cons_zero] at h0
    omega
theorem weightsAll_mem {H : Type} {P : Program} {e : TypeId} : ∀ {l : List (DataW H)} {d : DataW H} {n : Nat}, d ∈ l → n ∈ d.weights P e → n ∈ DataW.weightsAll P e l
  | d0 :: l, d, n, hd, hn => by
    simp only [DataW.weightsAll, List.mem_append]
    rcases List.mem_cons.1 hd with rfl | hd
    · exact Or.inl hn
    · exact Or.inr (weightsAll_mem hd hn)
theorem list_of {α : Type} {n : Nat} {p : Nat → α → Prop} (h : ∀ i, i < n → ∃ y, p i y) : ∃ l : List α, l.length = n ∧ ∀ i (hi : i < l.length), p i l[i] := by
  induction n with
  | zero => exact ⟨[], rfl, fun i hi => absurd hi (Nat.not_lt_zero _)⟩
  | succ n ih =>
    obtain ⟨l, hl, hp⟩ := ih fun i hi => h i (Nat.lt_succ_of_lt hi)
    obtain ⟨y, hy⟩ := h n (Nat.lt_succ_self n)
    refine ⟨l ++ [y], by simp [hl], fun i hi => ?_⟩
    by_cases hlt : i < l.length
    · rw [List.getElem_append_left hlt]; exact hp i hlt
    · have : i = n := by simp at hi; omega
      subst this
      rw [List.getElem_append_right (by omega)]
      simpa using hy
theorem Rd.slice {P : Program} {α : Type} {T : Ty α} {t e : TypeId} (ht : P.underlying t = some (.slice e)) (hc : P.cellsOf e = T.sz) (h1 : Nat.ble 1 T.sz = true) (hb1 : Nat.ble 1 (P.bytesOf e) = true) {μ : α → Nat} (hT : Rd P e T μ) : Rd P t T.slice (fun l => (l.map μ).sum + 1) := by
  intro H enc w fuel cs x h hz
  rcases Go.Deep.open_slice ht h with ⟨rfl, _⟩ | ⟨a, len, cap, m, n, D, Pl, rfl, hb, hl, hm, hmm, rfl, hel⟩
  · refine ⟨[], ⟨none, 0, rfl, Nat.zero_le _, Nat.zero_le _, Ty.Row.nil⟩, fun β hβ => ?_⟩
    have h1 := hβ.nil
    rename_i hx
    rw [hx]
    simpa using h1
  · simp only [if_true] at hmm
    subst hmm
    have hpos : 1 ≤ T.sz := by simpa using h1
    have hall : ∀ i, i < len → ∃ y, (∃ cs', w.cells? 0 (a.add (i * T.sz)) T.sz = some cs' ∧ T.R w (old w) y cs') ∧ ∀ β : DataW H → Nat, Bulk β → μ y ≤ β (D i) := by
      intro i hi
      obtain ⟨cs', h2, h3⟩ := hel i (by omega)
      rw [hc] at h2
      obtain ⟨y, hy, hbl⟩ := hT h3 (fun n hn => hz n (by
        simp only [DataW.weights, ht, List.mem_cons, List.mem_append]
        exact Or.inr (Or.inl (weightsAll_mem (List.mem_map.2 ⟨i, List.mem_range.2 hi, rfl⟩) hn))))
      exact ⟨y, ⟨cs', h2, hy⟩, hbl⟩
    obtain ⟨l, hlen, hpp⟩ := list_of hall
    have hp := fun i hi => (hpp i hi).1
    have hbig : len ≤ big := by
      have := hz ((len + (m - len)) * P.bytesOf e) (by simp [DataW.weights, ht])
      have h2 : 1 ≤ P.bytesOf e := by simpa using hb1
      have h3 : len * 1 ≤ (len + (m - len)) * P.bytesOf e := Nat.mul_le_mul (by omega) h2
      have h4 : reachBytes ≤ big := by decide
      omega
    refine ⟨l, ⟨some a, m, by rw [hlen], by omega, by omega, ?_⟩, fun β hβ => ?_⟩
    rotate_left
    · refine Nat.le_trans (Nat.add_le_add_right (sum_le μ β l ((List.range len).map D) (by simp [hlen]) fun i hi hi' => ?_) 1) (hβ.slice _ _)
      have := (hpp i hi).2 β hβ
      simpa using this
    by_cases h0 : l = []
    · exact Or.inl h0
    · have hlp : 0 < l.length := List.length_pos_iff.2 h0
      -- the block
      obtain ⟨cs0, hc0, hR0⟩ := hp 0 hlp
      have key : ∀ (b : Addr) (cs' : List Value), w.cells? 0 b T.sz = some cs' → ∀ j, j < T.sz → w.cell? (b.add j) = cs'[j]? := by
        intro b cs' hb j hj
        unfold World.cells? at hb
        simp only [Nat.zero_le, if_true] at hb
        have hlen2 : cs'.length = T.sz := by
          have := mapM_some_length hb
          simpa using this
        have := mapM_some_get hb j j (List.getElem?_range hj)
        exact this
      have hcell0 := key _ _ hc0 0 (by omega)
      have hl0 : cs0.length = T.sz := T.len hR0
      have hsome : ∃ v, w.cell? a = some v := by
        simp only [Nat.zero_mul] at hcell0
        have ha : (a.add 0).add 0 = a := by simp [Addr.add]
        rw [ha] at hcell0
        refine ⟨cs0[0]'(by omega), ?_⟩
        rw [hcell0]
        exact List.getElem?_eq_getElem (by omega)
      obtain ⟨v, hv⟩ := hsome
      obtain ⟨g, off, spot⟩ := a
      unfold World.cell? at hv
      simp only at hv
      cases hh : w.heap[g]? with
      | none => rw [hh] at hv; cases hv
      | some o =>
        cases o with
        | cells c t' fr =>
          rw [hh] at hv
          simp only at hv
          cases hsp : spot with
          | some q => rw [hsp] at hv; simp at hv
          | none =>
            subst hsp
            refine Or.inr ⟨g, off, c, t', fr, rfl, (Array.getElem?_eq_some_iff.1 hh).1, hh, ?_⟩
            intro i hi
            obtain ⟨cs', h2, h3⟩ := hp i hi
            refine ⟨cs', h3, fun j hj => ?_⟩
            have := key _ _ h2 j hj
            rw [add_at, add_at, cell_of_row w g _ c t' fr hh] at this
            exact this
        | _ => rw [hh] at hv; cases hv

/-! A law's arguments. -/
section
variable {H : Type} {enc : TypeId × Value → H} {P : Program} {W : World} {base : Nat} {t : TypeId} {v : Value} {d : DataW H} {p : List MemPlace}
theorem arg_int {k : IntKind} (ht : P.underlying t = some (.int k)) (hv : Value.okWide P W .any base t v) (h : DataW.Trod enc P W 0 (fun _ => true) true t v d p) : ∃ n, v = .int k n ∧ inK k n := by
  obtain ⟨n, rfl, _, _, hw⟩ := open_int ht hv h
  exact ⟨n, rfl, wf_inK hw⟩
theorem arg_bool (ht : P.underlying t = some .bool) (hv : Value.okWide P W .any base t v) (h : DataW.Trod enc P W 0 (fun _ => true) true t v d p) : ∃ b, v = .bool b := by
  obtain ⟨n, rfl, _, _⟩ := open_bool ht hv h
  exact ⟨n, rfl⟩
theorem arg_string (ht : P.underlying t = some .string) (hv : Value.okWide P W .any base t v) (h : DataW.Trod enc P W 0 (fun _ => true) true t v d p) (hz : ∀ n ∈ d.weights P t, n ≤ reachBytes) : ∃ s, v = .string s ∧ s.size ≤ big := by
  obtain ⟨s, rfl, rfl, _⟩ := Go.ChangeMaps.open_string ht hv h
  have := hz s.data.toList.length (by simp [DataW.weights])
  have e : s.data.toList.length = s.size := by simp
  rw [e] at this
  exact ⟨s, rfl, Nat.le_trans this (by decide)⟩
theorem arg_slice {α : Type} {T : Ty α} {e : TypeId} (ht : P.underlying t = some (.slice e)) {μ : List α → Nat} (hR : Rd P t T.slice μ) (hv : Value.okWide P W .any base t v) (h : DataW.Trod enc P W 0 (fun _ => true) true t v d p)
    (hz : ∀ n ∈ d.weights P t, n ≤ reachBytes) : ∃ A cap l, v = .slice A l.length cap ∧ l.length ≤ cap ∧ l.length ≤ big ∧ T.Row W (old W) A l ∧ ∀ β : DataW H → Nat, Bulk β → μ l ≤ β d := by
  obtain ⟨a, len, cap, rfl⟩ := okWide_slice ht hv
  obtain ⟨fuel, hf⟩ := h
  obtain ⟨l, ⟨A, c, hcs, h1, h2, h3⟩, hbl⟩ := hR hf hz
  simp only [Value.cells, List.cons.injEq, and_true, Value.slice.injEq] at hcs
  obtain ⟨rfl, rfl, rfl⟩ := hcs
  exact ⟨_, _, l, rfl, h1, h2, h3, hbl⟩
theorem weights_of {ts : List TypeId} {ds : List (DataW H)} (hsz : (DataW.weightsEach P ts ds).all (· ≤ reachBytes) = true) {j : Nat} (ht : ts[j]? = some t) (hd : ds[j]? = some d) : ∀ n ∈ d.weights P t, n ≤ reachBytes := by
  intro n hn
  simpa using List.all_eq_true.1 hsz n (DataW.weights_mem_each ht hd n hn)
end
end Go.Eng

/-
  The engine: rows of structs of ints. Generic: no program.
-/
namespace Go.Eng
set_option linter.unusedVariables false
set_option linter.unusedSimpArgs false
open Go.RowKit Go.ChangeShapes Go.WideShapes Go.ChangeAt

instance (k : IntKind) (n : Int) : Decidable (inK k n) := by unfold inK; exact inferInstance
/-- A struct of n ints: what the cells are. -/
def Ty.ints {α : Type} (n : Nat) (f : α → List Int) : Ty α where
  sz := n
  R := fun _ _ x cs => cs = (f x).map (Value.int .i64) ∧ (f x).length = n ∧ ∀ i ∈ f x, inK .i64 i
  len := by rintro _ _ _ _ ⟨rfl, h, _⟩; simpa using h
  one := by
    rintro _ _ x _ ⟨rfl, _⟩ u hu
    obtain ⟨i, _, rfl⟩ := List.mem_map.1 hu
    rfl
  keep := fun h _ _ => h
theorem flat_ints {α : Type} {n : Nat} {f : α → List Int} : Flat (Ty.ints n f) := fun h => h
def intsCells (P : Program) (t n : Nat) : Bool := P.cellsOf t == n && (match P.underlying t with | some (.struct fs) => fs.toList.all (fun f => P.cellsOf f.type == 1) | _ => false)
theorem trod_ints {H : Type} {enc : TypeId × Value → H} {P : Program} {w : World} {base fuel : Nat} {sp : Nat → Bool} {held : Bool} {t n : Nat} {cs : List Value} {x : DataW H × List MemPlace} (h : intsOf P t = some n) (hc : intsCells P t n = true) (hx : DataW.trod enc P w base sp held fuel t cs = some x) :
    ∃ xs : List Int, xs.length = n ∧ cs = xs.map (Value.int .i64) ∧ (∀ i ∈ xs, inK .i64 i) ∧ ∃ ps, x.1 = .agg ps := by
  obtain ⟨fs, hu, _, _, hk, hl⟩ := intsOf_spec h
  unfold intsCells at hc
  rw [hu] at hc
  simp only [Bool.and_eq_true, beq_iff_eq, List.all_eq_true] at hc
  obtain ⟨xs, m, _, rfl, hlen, hxl, hf⟩ := DataW.trod_struct hu hx
  have hoff : ∀ (l : List Field) (k : Nat), okFields P k l = true → ∀ i f, l[i]? = some f → f.offset = k + i ∧ P.underlying f.type = some (.int .i64) := by
    intro l
    induction l with
    | nil => intro k _ i f hf; simp at hf
    | cons f0 l ih =>
      intro k hok i f hif
      simp only [okFields, Bool.and_eq_true, bne_iff_ne, ne_eq, beq_iff_eq] at hok
      obtain ⟨⟨⟨_, ho⟩, hu'⟩, hr⟩ := hok
      cases i with
      | zero =>
        simp only [List.getElem?_cons_zero, Option.some.injEq] at hif
        subst hif
        refine ⟨by omega, ?_⟩
        split at hu'
        · assumption
        · cases hu'
      | succ i =>
        obtain ⟨h1, h2⟩ := ih (k + 1) hr i f (by simpa using hif)
        exact ⟨by omega, h2⟩
  have hall : ∀ i, i < n → ∃ y : Int, cs[i]? = some (.int .i64 y) ∧ inK .i64 y := by
    intro i hi
    have hil : i < fs.toList.length := by omega
    have hfi : fs[i]? = some fs.toList[i] := by rw [← Array.getElem?_toList]; exact List.getElem?_eq_getElem hil
    obtain ⟨ho, hut⟩ := hoff fs.toList 0 hk i fs.toList[i] (List.getElem?_eq_getElem hil)
    have hc1 := hc.2 fs.toList[i] (List.getElem_mem hil)
    have hh := hf i _ hfi
    rw [hc1, ho, Nat.zero_add] at hh
    have hxi : i < xs.length := by rw [hxl]; simpa using hil
    rw [List.getElem?_eq_getElem hxi] at hh
    obtain ⟨y, h1, _, h3⟩ := DataW.trod_int hut hh
    refine ⟨y, ?_, wf_inK h3⟩
    have := congrArg (fun l => l[0]?) h1
    simp only [List.getElem?_take, List.getElem?_drop] at this
    simpa using this
  obtain ⟨ys, h1, h2⟩ := list_of hall
  refine ⟨ys, h1, ?_, ?_, _, rfl⟩
  · apply List.ext_getElem?
    intro i
    by_cases hi : i < ys.length
    · rw [(h2 i hi).1]; simp [hi]
    · rw [List.getElem?_eq_none (by omega), List.getElem?_eq_none (by simp; omega)]
  · intro y hy
    obtain ⟨i, hi, rfl⟩ := List.mem_iff_getElem.1 hy
    exact (h2 i hi).2
theorem Rd.ints {P : Program} {t n : Nat} {α : Type} (f : α → List Int) (g : List Int → α) (hg : ∀ xs : List Int, xs.length = n → f (g xs) = xs) (h : intsOf P t = some n) (hc : intsCells P t n = true) : Rd P t (Ty.ints n f) (fun _ => 1) := by
  intro H enc w fuel cs x hx hz
  obtain ⟨xs, h1, h2, h3, ps, h4⟩ := trod_ints h hc hx
  refine ⟨g xs, ⟨by rw [hg _ h1]; exact h2, by rw [hg _ h1]; exact h1, by rw [hg _ h1]; exact h3⟩, fun β hβ => ?_⟩
  rw [h4]
  exact Nat.le_trans (Nat.le_add_left 1 _) (hβ.agg ps)
theorem arg_ints {H : Type} {enc : TypeId × Value → H} {P : Program} {W : World} {base : Nat} {t n : Nat} {v : Value} {d : DataW H} {p : List MemPlace} (h : intsOf P t = some n) (hc : intsCells P t n = true) (hv : Value.okWide P W .any base t v) (hx : DataW.Trod enc P W 0 (fun _ => true) true t v d p) :
    ∃ xs : List Int, xs.length = n ∧ v = .agg (vi xs) ∧ ∀ i ∈ xs, inK .i64 i := by
  obtain ⟨fs, hu, _⟩ := intsOf_spec h
  obtain ⟨cs, rfl, _⟩ := okWide_struct hu hv
  obtain ⟨fuel, hf⟩ := hx
  obtain ⟨xs, h1, h2, h3, _⟩ := trod_ints h hc hf
  refine ⟨xs, h1, ?_, h3⟩
  simp only [Value.cells] at h2
  rw [vi, ← h2]

theorem len2 {xs : List Int} (h : xs.length = 2) : ∃ a b, xs = [a, b] := by
  match xs, h with
  | [a, b], _ => exact ⟨a, b, rfl⟩
theorem len3 {xs : List Int} (h : xs.length = 3) : ∃ a b c, xs = [a, b, c] := by
  match xs, h with
  | [a, b, c], _ => exact ⟨a, b, c, rfl⟩
theorem len6 {xs : List Int} (h : xs.length = 6) : ∃ a b c d e f, xs = [a, b, c, d, e, f] := by
  match xs, h with
  | [a, b, c, d, e, f], _ => exact ⟨a, b, c, d, e, f, rfl⟩
/-! Slices that are written out, of structs. -/
theorem fold_get (off : Nat) : ∀ (l : List Value) (j : Nat) (a : Array Value), off + j + l.length ≤ a.size → ((l.zipIdx j).foldl (fun cs p => cs.setIfInBounds (off + p.2) p.1) a).size = a.size ∧
    ∀ i, ((l.zipIdx j).foldl (fun cs p => cs.setIfInBounds (off + p.2) p.1) a)[i]? = if off + j ≤ i ∧ i < off + j + l.length then l[i - (off + j)]? else a[i]?
  | [], j, a, h => by simp; intro i h1 h2; omega
  | v :: l, j, a, h => by
    simp only [List.length_cons] at h
    simp only [List.zipIdx_cons, List.foldl_cons]
    obtain ⟨h1, h2⟩ := fold_get off l (j + 1) (a.setIfInBounds (off + j) v) (by simp; omega)
    refine ⟨by rw [h1]; simp, fun i => ?_⟩
    rw [h2 i]
    by_cases hi : i = off + j
    · subst hi
      have hlt : off + j < a.size := by omega
      rw [if_neg (by omega), if_pos (by simp)]
      simp [hlt]
    · by_cases h3 : off + (j + 1) ≤ i ∧ i < off + (j + 1) + l.length
      · rw [if_pos h3, if_pos (by simp; omega)]
        have : i - (off + j) = (i - (off + (j + 1))) + 1 := by omega
        rw [this, List.getElem?_cons_succ]
      · rw [if_neg h3, if_neg (by simp; omega), Array.getElem?_setIfInBounds_ne (by omega)]
theorem fill_rows {sz : Nat} : ∀ (vs : List (List Value)) (k : Nat) (a : Array Value), a.size = (k + vs.length) * sz → (∀ cs ∈ vs, cs.length = sz) →
    ∃ r, Instr.fill (fun i => some (i * sz, sz)) a (enum k (vs.map fun cs => Value.agg cs.toArray)) = some r ∧ r.size = a.size ∧ ∀ i, r[i]? = if i < k * sz then a[i]? else vs.flatten[i - k * sz]?
  | [], k, a, h, _ => by
    refine ⟨a, by simp [enum, Instr.fill], rfl, fun i => ?_⟩
    by_cases hi : i < k * sz
    · rw [if_pos hi]
    · rw [if_neg hi, Array.getElem?_eq_none (by simp at h; omega)]; simp
  | cs :: vs, k, a, h, hl => by
    have hcs := hl cs (by simp)
    simp only [List.length_cons] at h
    have e1 : (k + (vs.length + 1)) * sz = k * sz + (vs.length * sz + sz) := by rw [Nat.add_mul, Nat.add_mul, Nat.one_mul]
    obtain ⟨h1, h2⟩ := fold_get (k * sz) cs 0 a (by omega)
    obtain ⟨r, h3, h4, h5⟩ := fill_rows (sz := sz) vs (k + 1) ((cs.zipIdx 0).foldl (fun c p => c.setIfInBounds (k * sz + p.2) p.1) a) (by rw [h1, h]; congr 1; omega) (fun c hc => hl c (by simp [hc]))
    refine ⟨r, ?_, by rw [h4, h1], fun i => ?_⟩
    · have hno : ¬ ((Value.agg cs.toArray).cells.size ≠ sz ∨ k * sz + (Value.agg cs.toArray).cells.size > a.size) := by
        simp only [Value.cells, List.size_toArray]
        omega
      have hfo : ((Value.agg cs.toArray).cells.zipIdx.foldl (fun cs (p : Value × Nat) => cs.setIfInBounds (k * sz + p.2) p.1) a) = ((cs.zipIdx 0).foldl (fun c p => c.setIfInBounds (k * sz + p.2) p.1) a) := by
        rw [← Array.foldl_toList]
        simp [Array.toList_zipIdx, Value.cells]
      rw [← h3, ← hfo, List.map_cons]
      simp only [enum, Instr.fill]
      rw [if_neg (by simpa using hno)]
    · rw [h5 i]
      have e2 : (k + 1) * sz = k * sz + sz := by rw [Nat.add_mul, Nat.one_mul]
      by_cases hi : i < k * sz
      · rw [if_pos (by omega), if_pos hi, h2 i, if_neg (by omega)]
      · rw [if_neg hi]
        by_cases hi2 : i < (k + 1) * sz
        · rw [if_pos hi2, h2 i, if_pos (by omega), List.flatten_cons, List.getElem?_append_left (by omega)]
          simp
        · rw [if_neg hi2, List.flatten_cons, List.getElem?_append_right (by omega)]
          congr 1
          omega
section
variable {P : Program} {ρ : Operand → Value} {w : World} {d : Option Tmp} {t : TypeId} {pos : String} {af : Array Edge} {g : Option (Nat × Bool)}
theorem r_buildRows {ty e : TypeId} {z : Value} {parts : List (Nat × Operand)} {vs : List (List Value)} {m sz : Nat} (hu : P.underlying ty = some (.slice e)) (hs : (P.info? e).map (·.size) = some sz) (hz : (P.info? e).bind (·.zero) = some z)
    (hp : parts.map (fun q => (q.1, ρ q.2)) = enum 0 (vs.map fun cs => Value.agg cs.toArray)) (hl : (Nat.beq m vs.length && (Nat.ble (m * sz) 1000000 && vs.all fun cs => Nat.beq cs.length sz)) = true) (h0 : Nat.blt 0 (m * sz) = true) :
    (execOp ρ ⟨d, .buildSlice ty m parts.toArray, t, pos, af, g⟩).run P w = .ok (.value (.slice (some ⟨w.heap.size, 0, none⟩) m m)) (w.alloc (.cells vs.flatten.toArray e)) := by
  simp only [Bool.and_eq_true, Nat.ble_eq, List.all_eq_true] at hl
  obtain ⟨hl1, hl2, hl3⟩ := hl
  have hl1 : m = vs.length := Nat.eq_of_beq_eq_true hl1
  subst hl1
  simp only [Nat.blt_eq] at h0
  cases hq : P.info? e with
  | none => simp [hq] at hz
  | some inf =>
    have hz' : inf.zero = some z := by simpa [hq] using hz
    have hsz : inf.size = sz := by simpa [hq] using hs
    have hzv : (zeroValue e).run P w = .ok z w := by simp [zeroValue, typeInfo, hq, hz']
    have hbig : ¬ vs.length * sz > 2 ^ 24 := by omega
    have hne : ¬ vs.length * sz = 0 := by omega
    obtain ⟨r, hf, hr1, hr2⟩ := fill_rows (sz := sz) vs 0 ((Array.range (vs.length * sz)).map (z.cells[· % z.cells.size]!)) (by simp) (fun cs hcs => Nat.eq_of_beq_eq_true (hl3 cs hcs))
    have hr : r = vs.flatten.toArray := by
      apply Array.ext_getElem?
      intro i
      rw [hr2 i]; simp
    subst hr
    have hpp : (parts.toArray.map fun q => (q.1, ρ q.2)).toList = enum 0 (vs.map fun cs => Value.agg cs.toArray) := by simpa using hp
    simp only [execOp, Instr.buildSlice, Sem.run_bind, run_underlying hu, Result.andThen_ok, sizeOf, typeInfo, program]
    simp [Sem.run, hq, hsz, hne, hzv, hbig]
    simp at hf hpp
    simp [hpp, hf, newRow, newObj, Sem.run]
end
/-- Structs of ints, one behind the other in a block. -/
theorem row_ints {α : Type} {n : Nat} {f : α → List Int} {w : World} {F : Nat → Prop} {b : Nat} {t : TypeId} {l : List α} (h : Blk w b (l.map fun x => (f x).map (Value.int .i64)).flatten.toArray t) (hF : F b) (hl : ∀ x ∈ l, (f x).length = n ∧ ∀ i ∈ f x, inK .i64 i) : (Ty.ints n f).Row w F (some ⟨b, 0, none⟩) l := by
  have hc : Cat (Ty.ints n f) w F l (l.map fun x => (f x).map (Value.int .i64)).flatten := by
    clear h
    induction l with
    | nil => rfl
    | cons x l ih => exact ⟨_, _, rfl, ⟨rfl, hl x (by simp)⟩, ih (fun y hy => hl y (by simp [hy]))⟩
  refine Blk.row h hF (fun i hi => ?_)
  obtain ⟨c, h1, h2⟩ := hc.get i hi
  exact ⟨c, h1, fun j hj => by rw [← h2 j hj]; simp⟩
end Go.Eng

/-
  The engine: nil checks, interface values and their methods, nil compared. Generic: no program.
-/
namespace Go.Eng
set_option linter.unusedVariables false
set_option linter.unusedSimpArgs false
open Go.RowKit

/-- Which function a method of a type that is no pointer is. -/
def methOf (P : Program) (t : TypeId) (name : String) : Option FuncId :=
  match (P.info? t).bind (fun i => i.methods.find? (·.name == name)) with
  | some m => if m.path.isEmpty then (match m.func with
    | some (f, false) => (match P.underlying t with
      | some (.pointer _) => none
      | some _ => some f
      | none => none)
    | _ => none) else none
  | none => none
theorem methOf_spec {P : Program} {t : TypeId} {name : String} {f : FuncId} (h : methOf P t name = some f) : ∃ i m td, P.info? t = some i ∧ i.methods.find? (·.name == name) = some m ∧ m.path = #[] ∧ m.func = some (f, false) ∧ P.underlying t = some td ∧ ∀ e, td ≠ .pointer e := by
  unfold methOf at h
  cases hi : P.info? t with
  | none => simp [hi] at h
  | some i =>
    cases hm : i.methods.find? (·.name == name) with
    | none => simp [hi, hm] at h
    | some m =>
      simp only [hi, hm, Option.bind_some] at h
      split at h
      rotate_left
      · cases h
      rename_i hp
      cases hf : m.func with
      | none => simp [hf] at h
      | some q =>
        obtain ⟨f', b⟩ := q
        cases b
        rotate_left
        · simp [hf] at h
        cases hu : P.underlying t with
        | none => simp [hf, hu] at h
        | some td =>
          refine ⟨i, m, td, rfl, hm, by simpa using hp, ?_, rfl, ?_⟩
          · cases td <;> simp_all
          · intro e he; subst he; simp [hf, hu] at h
section
variable {P : Program} {ρ : Operand → Value} {w : World} {d : Option Tmp} {t : TypeId} {pos : String} {af : Array Edge} {g : Option (Nat × Bool)} {x y : Operand} {xt yt el : TypeId}
theorem r_nilCheck {a : Addr} (hx : ρ x = .pointer (some a)) : (execOp ρ ⟨d, .nilCheck x, t, pos, af, g⟩).run P w = .ok (.value (.pointer (some a))) w := by simp [execOp, hx]
theorem r_makeIface {v : Value} {td : TypeDesc} (hx : ρ x = v) (hu : P.underlying xt = some td) (hn : (match td with | .interface _ => false | _ => true) = true) : (execOp ρ ⟨d, .makeInterface xt x, t, pos, af, g⟩).run P w = .ok (.value (.iface xt v)) w := by
  cases td <;> simp_all [execOp, Instr.makeInterface, run_underlying hu]
theorem rp_eql {a : Addr} (hx : ρ x = .pointer (some a)) (hy : ρ y = .pointer none) (hu : P.underlying xt = some (.pointer el)) : (execOp ρ ⟨d, .binOp .eql xt x y yt, t, pos, af, g⟩).run P w = .ok (.value (.bool (decide False))) w := by
  have h : ∀ n, (Op.equalIn (n + 1) xt (.pointer (some a)) (.pointer none)).run P w = .ok false w := fun n => by simp only [Op.equalIn, Sem.run_bind, run_underlying hu, Result.andThen_ok]; rfl
  have h' : (Op.equal xt (.pointer (some a)) (.pointer none)).run P w = .ok false w := h 9999
  simp [execOp, hx, hy, eqGuard, binOp, h']
theorem rp_neq {a : Addr} (hx : ρ x = .pointer (some a)) (hy : ρ y = .pointer none) (hu : P.underlying xt = some (.pointer el)) : (execOp ρ ⟨d, .binOp .neq xt x y yt, t, pos, af, g⟩).run P w = .ok (.value (.bool (decide True))) w := by
  have h : ∀ n, (Op.equalIn (n + 1) xt (.pointer (some a)) (.pointer none)).run P w = .ok false w := fun n => by simp only [Op.equalIn, Sem.run_bind, run_underlying hu, Result.andThen_ok]; rfl
  have h' : (Op.equal xt (.pointer (some a)) (.pointer none)).run P w = .ok false w := h 9999
  simp [execOp, hx, hy, eqGuard, binOp, h']
theorem rpn_eql (hx : ρ x = .pointer none) (hy : ρ y = .pointer none) (hu : P.underlying xt = some (.pointer el)) : (execOp ρ ⟨d, .binOp .eql xt x y yt, t, pos, af, g⟩).run P w = .ok (.value (.bool (decide True))) w := by
  have h : ∀ n, (Op.equalIn (n + 1) xt (.pointer none) (.pointer none)).run P w = .ok true w := fun n => by simp only [Op.equalIn, Sem.run_bind, run_underlying hu, Result.andThen_ok]; rfl
  have h' : (Op.equal xt (.pointer none) (.pointer none)).run P w = .ok true w := h 9999
  simp [execOp, hx, hy, eqGuard, binOp, h']
/-- A slice and nil. -/
theorem rl_eql {A : Option Addr} {n c : Nat} (hx : ρ x = .slice A n c) (hy : ρ y = .slice none 0 0) (hu : P.underlying xt = some (.slice el)) : (execOp ρ ⟨d, .binOp .eql xt x y yt, t, pos, af, g⟩).run P w = .ok (.value (.bool (decide (A = none)))) w := by
  have h : ∀ q, (Op.equalIn (q + 1) xt (.slice A n c) (.slice none 0 0)).run P w = .ok (decide (A = none)) w := fun q => by
    cases A with
    | none => simp only [Op.equalIn, Sem.run_bind, run_underlying hu, Result.andThen_ok]; rfl
    | some a => simp only [Op.equalIn, Sem.run_bind, run_underlying hu, Result.andThen_ok]; rfl
  have h' : (Op.equal xt (.slice A n c) (.slice none 0 0)).run P w = .ok (decide (A = none)) w := h 9999
  simp [execOp, hx, hy, eqGuard, binOp, h']
theorem fuel_succ (n : Nat) : ∃ k, n + Made.depth = k + 1 := ⟨n + 99, by unfold Made.depth; omega⟩
theorem run_program : (program).run P w = .ok P w := by simp [program, Sem.run]
theorem run_typeInfo {i : TypeInfo} (h : P.info? t = some i) : (typeInfo t).run P w = .ok i w := by
  unfold typeInfo
  rw [Sem.run_bind, run_program, Result.andThen_ok]
  simp [h]
theorem run_follow_nil {v : Value} : (follow [] t (Place.val v)).run P w = .ok (t, Place.val v) w := by simp [follow]
theorem run_followB_nil {v : Option Value} : (followBlind [] t v).run P w = .ok (.ok (t, v)) w := by simp [followBlind]
theorem run_method {v : Value} {name : String} {f : FuncId} (hm : methOf P t name = some f) (k : Nat) : (method (k + 1) t v name).run P w = .ok (f, v) w := by
  obtain ⟨i, m, td, h1, h2, h3, h4, h5, h6⟩ := methOf_spec hm
  have h2' : i.methods.find? (fun x => x.name == name) = some m := h2
  have hra : ∀ wr, (receiverAt t (Place.val v) false wr).run P w = .ok v w := fun wr => by
    unfold receiverAt
    rw [Sem.run_bind, run_underlying h5, Result.andThen_ok]
    cases td <;> first | rfl | exact absurd rfl (h6 _)
  unfold method
  rw [Sem.run_bind, run_typeInfo h1, Result.andThen_ok]
  simp only [h2', h3, h4, Array.toList_empty]
  rw [Sem.run_bind, run_follow_nil, Result.andThen_ok]
  simp only [Sem.run_bind, hra, Result.andThen_ok, Sem.run_pure]
theorem run_nilAhead {v : Value} {name : String} {f : FuncId} (hm : methOf P t name = some f) (k : Nat) : (nilAhead (k + 1) t v name).run P w = .ok (some false) w := by
  obtain ⟨i, m, td, h1, h2, h3, h4, h5, h6⟩ := methOf_spec hm
  have h2' : i.methods.find? (fun x => x.name == name) = some m := h2
  unfold nilAhead
  rw [Sem.run_bind, run_typeInfo h1, Result.andThen_ok]
  simp only [h2', h3, h4, Array.toList_empty]
  rw [Sem.run_bind, run_followB_nil, Result.andThen_ok]
  simp only [Sem.run_bind, run_underlying h5, Result.andThen_ok]
  cases td <;> first | rfl | exact absurd rfl (h6 _)
theorem r_invoke {v : Value} {name : String} {f : FuncId} {fn : Func} {xs : List Operand} {ts : Array TypeId} {xt : TypeId} (hx : ρ x = .iface xt v) (hm : methOf P xt name = some f) (hf : P.funcs[f]? = some fn) (hn : (fn.name == "runtime.NumGoroutine") = false) (hb : fn.body.isNone = false) :
    (execOp ρ ⟨d, .call { callee := .invoke x name, args := xs.toArray, argTypes := ts }, t, pos, af, g⟩).run P w = .ok (.enter f (v :: xs.map ρ).toArray) w := by
  have hn' : ¬ fn.name = "runtime.NumGoroutine" := by simpa using hn
  have hb' : ¬ fn.body = none := by intro h; rw [h] at hb; simp at hb
  have hk : ∀ k, (method (k + 1) xt v name).run P w = .ok (f, v) w := fun k => run_method hm k
  obtain ⟨k, hk2⟩ := fuel_succ P.types.size
  have hcf : (callFunc f (#[v] ++ xs.toArray.map ρ)).run P w = .ok (.enter f (v :: xs.map ρ).toArray) w := by
    simp [callFunc, program, Sem.run, hf, hn', hb']
  have hcm : (callMethod (.iface xt v) name (xs.toArray.map ρ)).run P w = .ok (.enter f (v :: xs.map ρ).toArray) w := by
    unfold callMethod
    simp only [Sem.run_bind, run_program, Result.andThen_ok, hk2, hk k]
    exact hcf
  have hinv : (invoke (.fn (.method name) #[]) (#[Value.iface xt v] ++ xs.toArray.map ρ)).run P w = .ok (.enter f (v :: xs.map ρ).toArray) w := by
    unfold invoke
    have e : (#[Value.iface xt v] ++ xs.toArray.map ρ).extract 1 (#[Value.iface xt v] ++ xs.toArray.map ρ).size = xs.toArray.map ρ := by
      apply Array.toList_inj.1
      simp
      exact List.take_of_length_le (by simp)
    simp only [show (#[Value.iface xt v] ++ xs.toArray.map ρ)[0]? = some (Value.iface xt v) by simp, e]
    exact hcm
  show ((do let d ← resolve ρ { callee := .invoke x name, args := xs.toArray, argTypes := ts } t; invoke d.target d.args) : Sem Next).run P w = _
  simp only [resolve, Sem.run_bind, Sem.run_pure, Result.andThen_ok, hx]
  exact hinv
theorem r_nilCheckM {v : Value} {name : String} {f : FuncId} {xt : TypeId} (hx : ρ x = .func (.method name) #[.iface xt v] #[]) (hm : methOf P xt name = some f) :
    (execOp ρ ⟨d, .nilCheck x, t, pos, af, g⟩).run P w = .ok (.value (.func (.method name) #[.iface xt v] #[])) w := by
  obtain ⟨k, hk2⟩ := fuel_succ P.types.size
  have hna := run_nilAhead (w := w) (v := v) hm k
  simp only [execOp, hx, show (#[Value.iface xt v] : Array Value)[0]? = some (Value.iface xt v) from rfl, Sem.run_bind, run_program, Result.andThen_ok, hk2, hna]
  simp
end
theorem W_drawA {P : Program} {n : Nat} {N : Env → World → Prop} {X : Exit → Env → World → Prop} {e : Env} {w : World} {id : Nat} {l : List Oper} {k : Nat} (hm : P.follows .mixedOrders = true) (hk : l.toArray.size = k)
    (h : ∀ w', Ext w w' → WA P n l.toArray N X anyW k (Array.replicate k false) e w') : W P n (.region id l.toArray true) N X e w :=
  W_draw anyW hm hk (h _ (ext_drawn w))
/-- What is guarded by one that was passed over is passed over too. -/
theorem opG_none {P : Program} {n : Nat} {N : Env → World → Prop} {X : Exit → Env → World → Prop} {e : Env} {w : World} {ops : Array Oper} {rest : List Oper} {d : Option Tmp} {x : Op} {t : TypeId} {pos : String} {af : Array Edge} {j : Nat} {want : Bool} {dj : Tmp}
    (hj : (ops[j]?).bind (·.dst) = some dj) (hjn : Nat.blt dj n = true) (hb : e dj = undef) (hd : dOk n d = true)
    (h : WL P n ops N X rest (putO e d undef) w) : WL P n ops N X (⟨d, x, t, pos, af, some (j, want)⟩ :: rest) e w := by
  intro ro a ha
  have hlt : dj < a.tmps.size := by rw [ha.size]; simpa [Nat.blt_eq] using hjn
  have hy : yielded ops a.tmps j = none := by
    unfold yielded
    have hg := ha.at (d := dj) (by simpa [Nat.blt_eq] using hjn)
    simp [hlt, hb] at hg
    simp [hj, hlt, hg, undef]
  refine wpListIn_step fun K hK => ?_
  have hwt : Region.wanted ⟨d, x, t, pos, af, some (j, want)⟩ (yielded ops a.tmps) = false := by
    simp only [Region.wanted, hy]
    rfl
  rw [hwt]
  simp only [Bool.false_eq_true, if_false]
  exact ⟨fun _ _ => trivial, hK _ _ (h _ _ (ha.put hd undef))⟩
section
variable {P : Program} {n : Nat} {N : Env → World → Prop} {X : Exit → Env → World → Prop} {S : World → Prop} {e : Env} {w : World} {ops : Array Oper} {fuel : Nat} {listed : Array Bool}
variable {i : Nat} {d : Option Tmp} {x : Op} {t : TypeId} {pos : String} {af : Array Edge} {j : Nat} {want : Bool} {dj : Tmp} {b : Bool} {p : Prop} {dp : Decidable p}
theorem A_trueG (hi : ops[i]? = some ⟨d, x, t, pos, af, some (j, want)⟩) (hs : Region.noSelect ops = true) (hf : Region.free .any ops listed i = true) (hr : (Region.ready .any ops listed).contains i = true)
    (hd : dOk n d = true) (hS : S w) (hj : (ops[j]?).bind (·.dst) = some dj) (hjn : Nat.blt dj n = true) (hb : e dj = .bool b) (he : (b == want) = true) (hy : ∀ w', S w' → (execOp (ev e) ⟨d, x, t, pos, af, some (j, want)⟩).run P w' = .ok (.value (.bool (@decide p dp))) w') (hp : p)
    (h1 : WA P n ops N X S fuel (listed.setIfInBounds i true) (putO e d (.bool true)) w) : WA P n ops N X S (fuel + 1) listed e w :=
  A_takeG hi hs hf hr hd hS hj hjn hb he hy (by simpa [hp] using h1)
theorem A_falseG (hi : ops[i]? = some ⟨d, x, t, pos, af, some (j, want)⟩) (hs : Region.noSelect ops = true) (hf : Region.free .any ops listed i = true) (hr : (Region.ready .any ops listed).contains i = true)
    (hd : dOk n d = true) (hS : S w) (hj : (ops[j]?).bind (·.dst) = some dj) (hjn : Nat.blt dj n = true) (hb : e dj = .bool b) (he : (b == want) = true) (hy : ∀ w', S w' → (execOp (ev e) ⟨d, x, t, pos, af, some (j, want)⟩).run P w' = .ok (.value (.bool (@decide p dp))) w') (hp : ¬ p)
    (h1 : WA P n ops N X S fuel (listed.setIfInBounds i true) (putO e d (.bool false)) w) : WA P n ops N X S (fuel + 1) listed e w :=
  A_takeG hi hs hf hr hd hS hj hjn hb he hy (by simpa [hp] using h1)
theorem A_splitG (hi : ops[i]? = some ⟨d, x, t, pos, af, some (j, want)⟩) (hs : Region.noSelect ops = true) (hf : Region.free .any ops listed i = true) (hr : (Region.ready .any ops listed).contains i = true)
    (hd : dOk n d = true) (hS : S w) (hj : (ops[j]?).bind (·.dst) = some dj) (hjn : Nat.blt dj n = true) (hb : e dj = .bool b) (he : (b == want) = true) (hy : ∀ w', S w' → (execOp (ev e) ⟨d, x, t, pos, af, some (j, want)⟩).run P w' = .ok (.value (.bool (@decide p dp))) w')
    (h1 : p → WA P n ops N X S fuel (listed.setIfInBounds i true) (putO e d (.bool true)) w) (h2 : ¬ p → WA P n ops N X S fuel (listed.setIfInBounds i true) (putO e d (.bool false)) w) : WA P n ops N X S (fuel + 1) listed e w := by
  by_cases hp : p
  · exact A_trueG hi hs hf hr hd hS hj hjn hb he hy hp (h1 hp)
  · exact A_falseG hi hs hf hr hd hS hj hjn hb he hy hp (h2 hp)
/-- Guarded by one that was passed over. -/
theorem A_skipN (hi : ops[i]? = some ⟨d, x, t, pos, af, some (j, want)⟩) (hs : Region.noSelect ops = true) (hf : Region.free .any ops listed i = true) (hr : (Region.ready .any ops listed).contains i = true)
    (hd : dOk n d = true) (hS : S w) (hj : (ops[j]?).bind (·.dst) = some dj) (hjn : Nat.blt dj n = true) (hb : e dj = undef)
    (h : WA P n ops N X S fuel (listed.setIfInBounds i true) (putO e d undef) w) : WA P n ops N X S (fuel + 1) listed e w := by
  intro ro a ha
  refine wpAnyHI_take hi hs hf hr lift_panic (Or.inr ⟨?_, rfl⟩) hS (h _ _ (ha.put hd undef))
  have hlt : dj < a.tmps.size := by rw [ha.size]; simpa [Nat.blt_eq] using hjn
  have hy : yielded ops a.tmps j = none := by
    unfold yielded
    have hg := ha.at (d := dj) (by simpa [Nat.blt_eq] using hjn)
    simp [hlt, hb] at hg
    simp [hj, hlt, hg, undef]
  simp only [Region.wanted, hy]
  rfl
end
/-- A struct of three cells, its first field a struct of one. -/
theorem r_build3 {P : Program} {ρ : Operand → Value} {w : World} {d : Option Tmp} {t : TypeId} {pos : String} {af : Array Edge} {g : Option (Nat × Bool)} {x y z : Operand} {s : Nat} {zc : List Value} {offs : List Nat} {a b c : Value} (hl : layOf P s = some (zc, offs)) (hx : ρ x = .agg #[a]) (hy : ρ y = b) (hz : ρ z = c) (ha : a.oneCell' = true) (hb : b.oneCell' = true) (hc : c.oneCell' = true)
    (h2 : ([0, 1, 2].all fun i => ((offs[i]?).map fun o => Nat.blt o zc.length).getD false) = true) (h3 : setL zc [((offs[0]?).getD 0, a), ((offs[1]?).getD 0, b), ((offs[2]?).getD 0, c)] = [a, b, c]) :
    (execOp ρ ⟨d, .build s #[(0, x), (1, y), (2, z)], t, pos, af, g⟩).run P w = .ok (.value (.agg #[a, b, c])) w := by
  let ρ' : Operand → Value := fun o => match o with
    | .tmp 0 => a
    | .tmp 1 => b
    | _ => c
  have h := r_build (P := P) (ρ := ρ') (w := w) (d := d) (t := t) (pos := pos) (af := af) (g := g) (parts := [(0, .tmp 0), (1, .tmp 1), (2, .tmp 2)]) (s := s) (cs := [a, b, c]) hl (by
    intro q hq
    simp only [List.mem_cons, List.not_mem_nil, or_false] at hq
    rcases hq with rfl | rfl | rfl
    · exact ha
    · exact hb
    · exact hc) (by simpa using h2) h3
  have e : Instr.build s (#[(0, x), (1, y), (2, z)].map fun (q : Nat × Operand) => (q.1, ρ q.2)) = Instr.build s (([(0, .tmp 0), (1, .tmp 1), (2, .tmp 2)] : List (Nat × Operand)).toArray.map fun (q : Nat × Operand) => (q.1, ρ' q.2)) := by
    have e1 : (#[(0, x), (1, y), (2, z)].map fun (q : Nat × Operand) => (q.1, ρ q.2)) = #[(0, .agg #[a]), (1, b), (2, c)] := by simp [hx, hy, hz]
    have e2 : (([(0, .tmp 0), (1, .tmp 1), (2, .tmp 2)] : List (Nat × Operand)).toArray.map fun (q : Nat × Operand) => (q.1, ρ' q.2)) = #[(0, a), (1, b), (2, c)] := by simp [ρ']
    rw [e1, e2]
    have ac : a.cells = (Value.agg #[a]).cells := by rw [one_cells ha]; rfl
    unfold Instr.build
    simp only [Instr.fill, ← ac]
  have h' : (execOp ρ ⟨d, .build s #[(0, x), (1, y), (2, z)], t, pos, af, g⟩) = (execOp ρ' ⟨d, .build s ([(0, .tmp 0), (1, .tmp 1), (2, .tmp 2)] : List (Nat × Operand)).toArray, t, pos, af, g⟩) := by
    show (do pure (Next.value (← Instr.build s (#[(0, x), (1, y), (2, z)].map fun (q : Nat × Operand) => (q.1, ρ q.2)))) : Sem Next) = (do pure (Next.value (← Instr.build s (([(0, .tmp 0), (1, .tmp 1), (2, .tmp 2)] : List (Nat × Operand)).toArray.map fun (q : Nat × Operand) => (q.1, ρ' q.2)))) : Sem Next)
    rw [e]
  rw [h']
  exact h
end Go.Eng

/-
  The engine: structs of any fields, read; a struct stored into a row. Generic: no program.
-/
namespace Go.Eng
set_option linter.unusedVariables false
set_option linter.unusedSimpArgs false
open Go.RowKit Go.ChangeShapes Go.WideShapes Go.ChangeAt

/-- Cells that are so many fields, one behind the other. -/
def Fits {H : Type} (enc : TypeId × Value → H) (P : Program) (w : World) (fuel : Nat) : List TypeId → List Value → List (DataW H × List MemPlace) → Prop
  | [], cs, xs => cs = [] ∧ xs = []
  | e :: es, cs, xs => ∃ x xs', xs = x :: xs' ∧ DataW.trod enc P w 0 (fun _ => true) true fuel e (cs.take (P.cellsOf e)) = some x ∧ Fits enc P w fuel es (cs.drop (P.cellsOf e)) xs'
/-- What fields read as. -/
def Rds (P : Program) {α : Type} (es : List TypeId) (T : Ty α) (μ : α → Nat) : Prop :=
  ∀ {H : Type} {enc : TypeId × Value → H} {w : World} {fuel : Nat} {cs : List Value} {xs : List (DataW H × List MemPlace)}, Fits enc P w fuel es cs xs → (∀ n ∈ DataW.weightsEach P es (xs.map (·.1)), n ≤ reachBytes) →
    ∃ y, T.R w (old w) y cs ∧ ∀ β : DataW H → Nat, Bulk β → μ y ≤ ((xs.map (·.1)).map β).sum
theorem Rds.one {P : Program} {α : Type} {e : TypeId} {T : Ty α} {μ : α → Nat} (h : Rd P e T μ) : Rds P [e] T μ := by
  rintro H enc w fuel cs xs ⟨x, xs', rfl, h1, h2, rfl⟩ hz
  obtain ⟨y, h3, h4⟩ := h h1 (fun n hn => hz n (by simp [DataW.weightsEach, hn]))
  refine ⟨y, ?_, fun β hβ => by simpa using h4 β hβ⟩
  have : cs.take (P.cellsOf e) = cs := by
    have := List.take_append_drop (P.cellsOf e) cs
    rwa [h2, List.append_nil] at this
  rwa [this] at h3
theorem Rds.cons {P : Program} {α γ : Type} {e : TypeId} {es : List TypeId} {S : Ty α} {T : Ty γ} {μ : α → Nat} {ν : γ → Nat} (h : Rd P e S μ) (k : Rds P es T ν) : Rds P (e :: es) (S.pair T) (fun x => μ x.1 + ν x.2) := by
  rintro H enc w fuel cs xs ⟨x, xs', rfl, h1, h2⟩ hz
  obtain ⟨y, h3, h4⟩ := h h1 (fun n hn => hz n (by simp [DataW.weightsEach, hn]))
  obtain ⟨z, h5, h6⟩ := k h2 (fun n hn => hz n (by simp [DataW.weightsEach]; exact Or.inr (by simpa using hn)))
  refine ⟨(y, z), ⟨_, _, (List.take_append_drop (P.cellsOf e) cs).symm, h3, h5⟩, fun β hβ => ?_⟩
  have a := h4 β hβ
  have b := h6 β hβ
  simp only [List.map_cons, List.sum_cons]
  omega
def fitsGo (P : Program) : Nat → List Field → List TypeId → Bool
  | off, [], [] => true
  | off, f :: fs, e :: es => f.type == e && f.offset == off && fitsGo P (off + P.cellsOf e) fs es
  | _, _, _ => false
def fitsB (P : Program) (t : TypeId) (es : List TypeId) : Bool := match P.underlying t with
  | some (.struct fs) => fitsGo P 0 fs.toList es && (P.cellsOf t == (es.map P.cellsOf).sum)
  | _ => false
theorem fits_of {H : Type} {enc : TypeId × Value → H} {P : Program} {w : World} {n : Nat} {cs : List Value} : ∀ (es : List TypeId) (fs : List Field) (off : Nat) (xs : List (DataW H × List MemPlace)), fitsGo P off fs es = true → xs.length = fs.length → (cs.drop off).length = (es.map P.cellsOf).sum →
    (∀ (i : Nat) (f : Field), fs[i]? = some f → DataW.trod enc P w 0 (fun _ => true) true n f.type ((cs.drop f.offset).take (P.cellsOf f.type)) = xs[i]?) → Fits enc P w n es (cs.drop off) xs
  | [], [], off, xs, _, hl, hc, _ => ⟨List.length_eq_zero_iff.1 (by simpa using hc), List.length_eq_zero_iff.1 (by simpa using hl)⟩
  | [], _ :: _, _, _, h, _, _, _ => by simp [fitsGo] at h
  | _ :: _, [], _, _, h, _, _, _ => by simp [fitsGo] at h
  | e :: es, f :: fs, off, [], h, hl, _, _ => by simp at hl
  | e :: es, f :: fs, off, x :: xs, h, hl, hc, hf => by
    simp only [fitsGo, Bool.and_eq_true, beq_iff_eq] at h
    obtain ⟨⟨h1, h2⟩, h3⟩ := h
    refine ⟨x, xs, rfl, ?_, ?_⟩
    · have := hf 0 f rfl
      rw [h1, h2] at this
      simpa using this
    · rw [List.drop_drop]
      refine fits_of es fs _ xs h3 (by simpa using hl) ?_ (fun i g hg => by have := hf (i + 1) g (by simpa using hg); simpa using this)
      simp only [List.length_drop, List.map_cons, List.sum_cons] at hc ⊢
      omega
theorem trod_fits {H : Type} {enc : TypeId × Value → H} {P : Program} {w : World} {fuel : Nat} {t : TypeId} {es : List TypeId} {cs : List Value} {x : DataW H × List MemPlace} (hf : fitsB P t es = true) (h : DataW.trod enc P w 0 (fun _ => true) true fuel t cs = some x) :
    ∃ fs xs n, P.underlying t = some (.struct fs) ∧ x.1 = .agg (xs.map (·.1)) ∧ fs.toList.map (fun f : Field => f.type) = es ∧ Fits enc P w n es cs xs := by
  unfold fitsB at hf
  cases hu : P.underlying t with
  | none => rw [hu] at hf; cases hf
  | some td =>
    cases td with
    | struct fs =>
      rw [hu] at hf
      simp only [Bool.and_eq_true, beq_iff_eq] at hf
      obtain ⟨xs, n, _, rfl, hlen, hxl, hff⟩ := DataW.trod_struct hu h
      refine ⟨fs, xs, n, rfl, rfl, ?_, ?_⟩
      · have : ∀ (fl : List Field) (es : List TypeId) (off : Nat), fitsGo P off fl es = true → fl.map (fun f : Field => f.type) = es := by
          intro fl
          induction fl with
          | nil => intro es off h; cases es with
            | nil => rfl
            | cons _ _ => simp [fitsGo] at h
          | cons f fl ih => intro es off h; cases es with
            | nil => simp [fitsGo] at h
            | cons e es =>
              simp only [fitsGo, Bool.and_eq_true, beq_iff_eq] at h
              simp [h.1.1, ih es _ h.2]
        exact this _ _ _ hf.1
      · have := fits_of (cs := cs) (w := w) (n := n) (enc := enc) es fs.toList 0 xs hf.1 (by rw [hxl]; simp) (by simp [hlen, hf.2]) (fun i f hi => hff i f (by simpa using hi))
        simpa using this
    | _ => rw [hu] at hf; cases hf
theorem weights_fits {H : Type} {P : Program} {t : TypeId} {es : List TypeId} {fs : Array Field} {ds : List (DataW H)} (hu : P.underlying t = some (.struct fs)) (he : fs.toList.map (fun f : Field => f.type) = es) : (DataW.agg ds : DataW H).weights P t = DataW.weightsEach P es ds := by
  subst he
  simp [DataW.weights, hu]
theorem Rd.struct {P : Program} {α : Type} {t : TypeId} {es : List TypeId} {T : Ty α} {μ : α → Nat} (hf : fitsB P t es = true) (h : Rds P es T μ) : Rd P t T (fun x => μ x + 1) := by
  intro H enc w fuel cs x hx hz
  obtain ⟨fs, xs, n, hu, h1, h2, h3⟩ := trod_fits hf hx
  rw [h1, weights_fits hu h2] at hz
  obtain ⟨y, h4, h5⟩ := h h3 hz
  refine ⟨y, h4, fun β hβ => ?_⟩
  rw [h1]
  exact Nat.le_trans (Nat.add_le_add_right (h5 β hβ) 1) (hβ.agg _)
theorem Rd.iso {P : Program} {α γ : Type} {t : TypeId} {T : Ty α} {μ : α → Nat} (f : γ → α) (g : α → γ) (hg : ∀ x, f (g x) = x) (h : Rd P t T μ) : Rd P t (T.iso f) (fun x => μ (f x)) := by
  intro H enc w fuel cs x hx hz
  obtain ⟨y, h1, h2⟩ := h hx hz
  refine ⟨g y, ?_, fun β hβ => ?_⟩
  · show T.R _ _ (f (g y)) _
    rw [hg]; exact h1
  · show μ (f (g y)) ≤ _
    rw [hg]; exact h2 β hβ
theorem arg_struct {H : Type} {enc : TypeId × Value → H} {P : Program} {W : World} {base : Nat} {t : TypeId} {v : Value} {d : DataW H} {p : List MemPlace} {α : Type} {es : List TypeId} {T : Ty α} {μ : α → Nat} (hf : fitsB P t es = true) (h : Rd P t T μ) (hv : Value.okWide P W .any base t v) (hx : DataW.Trod enc P W 0 (fun _ => true) true t v d p) (hz : ∀ n ∈ d.weights P t, n ≤ reachBytes) :
    ∃ y cs, v = .agg cs.toArray ∧ T.R W (old W) y cs ∧ ∀ β : DataW H → Nat, Bulk β → μ y ≤ β d := by
  obtain ⟨fuel, hfu⟩ := hx
  obtain ⟨fs, xs, n, hu, _⟩ := trod_fits hf hfu
  obtain ⟨cs, rfl, _⟩ := okWide_struct hu hv
  obtain ⟨y, h1, h2⟩ := h hfu hz
  exact ⟨y, _, by simp [Value.cells], h1, h2⟩

theorem fin4 {P : Program} {t u s r : Tmp} {R : Ending → World → Prop} {e : Env} {w : World} (h : R (.returned (.tuple #[e t, e u, e s, e r])) w) (hm : e slotM = undef := by rfl) (k1 : Nat.beq t slotM = false := by rfl) (k2 : Nat.beq u slotM = false := by rfl) (k3 : Nat.beq s slotM = false := by rfl) (k4 : Nat.beq r slotM = false := by rfl) : fin P #[.tmp t, .tmp u, .tmp s, .tmp r] R e w := by
  refine fin_plain hm ?_
  intro tmps ht
  refine ⟨.tuple #[e t, e u, e s, e r], ?_, h⟩
  have h1 := ht t (by rw [beq_eq] at k1; simpa using k1)
  have h2 := ht u (by rw [beq_eq] at k2; simpa using k2)
  have h3 := ht s (by rw [beq_eq] at k3; simpa using k3)
  have h4 := ht r (by rw [beq_eq] at k4; simpa using k4)
  simp at h1 h2 h3 h4
  simp [h1, h2, h3, h4]
/-! a struct stored into a row -/
theorem r_storeAt {P : Program} {ρ : Operand → Value} {w : World} {d : Option Tmp} {t : TypeId} {pos : String} {af : Array Edge} {g : Option (Nat × Bool)} {x y : Operand} {ty tb : TypeId} {b o : Nat} {c : Array Value} {xs : List Value} (hx : ρ x = .pointer (some ⟨b, o, none⟩)) (hy : ρ y = .agg xs.toArray)
    (hs : (P.info? ty).map (·.size) = some xs.length) (hb : Blk w b c tb) (ho : o + xs.length ≤ c.size) (h1 : xs.all (·.oneCell') = true) :
    (execOp ρ ⟨d, .store ty x y, t, pos, af, g⟩).run P w = .ok .skip (w.setRow b (c.toList.take o ++ xs ++ c.toList.drop (o + xs.length)).toArray) := by
  have h := run_storeCells_at (P := P) b o tb xs 0 c w hb (by simpa using ho) (List.all_eq_true.1 h1)
  simp only [Nat.add_zero] at h
  cases hq : P.info? ty with
  | none => simp [hq] at hs
  | some inf =>
    have hsz : inf.size = xs.length := by simpa [hq] using hs
    simp [execOp, Instr.storeAt, Instr.sureAddr, hx, hy, storeVar, sizeOf, typeInfo, hq, Value.cells, hsz, h]
theorem take_mid {α : Type} {c xs : List α} {o j : Nat} (ho : o + xs.length ≤ c.length) : (c.take o ++ xs ++ c.drop (o + xs.length))[j]? = if o ≤ j ∧ j < o + xs.length then xs[j - o]? else c[j]? := by
  have hl : (c.take o).length = o := by simp; omega
  by_cases h1 : j < o
  · rw [if_neg (by omega), List.append_assoc, List.getElem?_append_left (by omega), List.getElem?_take, if_pos h1]
  · by_cases h2 : j < o + xs.length
    · rw [if_pos ⟨by omega, h2⟩, List.getElem?_append_left (by simp; omega), List.getElem?_append_right (by omega), hl]
    · rw [if_neg (by omega), List.getElem?_append_right (by simp; omega), List.getElem?_drop]
      congr 1
      simp only [List.length_append, hl]
      omega
theorem mul_sep {i k n j : Nat} (hj : j < n) (hik : i ≠ k) : ¬ (k * n ≤ i * n + j ∧ i * n + j < k * n + n) := by
  rintro ⟨h1, h2⟩
  rcases Nat.lt_or_ge i k with h | h
  · have := Nat.mul_le_mul_right n h
    rw [Nat.succ_mul] at this
    omega
  · have h' : k + 1 ≤ i := by omega
    have := Nat.mul_le_mul_right n h'
    rw [Nat.add_mul, Nat.one_mul] at this
    omega
/-- An element of what is one's own is stored anew. -/
theorem Own.storeAt {α : Type} {T : Ty α} {w : World} {F : Nat → Prop} {B : Nat} {e : TypeId} {v : Value} {l : List α} (h : Own T w F B e v l) {i : Nat} (hi : i < l.length) {x : α} {xs : List Value} (hR : T.R w F x xs) (hF : ∀ b, F b → b < B) :
    ∃ g cap c, v = .slice (some ⟨g, 0, none⟩) l.length cap ∧ l.length ≤ cap ∧ B ≤ g ∧ Blk w g c e ∧ i * T.sz + xs.length ≤ c.size ∧ xs.length = T.sz ∧ xs.all (·.oneCell') = true ∧ ∀ w', Chg g w w' → Blk w' g (c.toList.take (i * T.sz) ++ xs ++ c.toList.drop (i * T.sz + xs.length)).toArray e → Own T w' F B e v (l.set i x) := by
  have hxl := T.len hR
  rcases h with ⟨_, rfl⟩ | ⟨g, cap, c, ys, rfl, h1, h2, h3, h4, h5, h6⟩
  · simp at hi
  · have hll : (l.set i x).length = l.length := List.length_set
    have hcl : c.toList.length = c.size := Array.length_toList
    have hle : (i + 1) * T.sz ≤ cap * T.sz := Nat.mul_le_mul_right _ (by omega)
    rw [Nat.add_mul, Nat.one_mul] at hle
    have hmid : i * T.sz + xs.length ≤ c.toList.length := by omega
    refine ⟨g, cap, c, rfl, h3, h1, h2, by omega, hxl, List.all_eq_true.2 (T.one hR), fun w' hC hB => Or.inr ⟨g, cap, _, (c.toList.take (i * T.sz) ++ xs ++ c.toList.drop (i * T.sz + xs.length)).take ((l.set i x).length * T.sz), by rw [List.length_set], h1, hB, by rw [List.length_set]; exact h3, ?_, ?_, rfl⟩⟩
    · simp only [List.size_toArray, List.length_append, List.length_take, List.length_drop, Array.length_toList]; omega
    · have hsm : Same F w w' := fun b hb => by
        by_cases hbw : b < w.heap.size
        · exact hC.block b hbw (by have := hF b hb; omega)
        · have := hF b hb; have := Blk.lt h2; omega
      have hlen : l.length * T.sz ≤ cap * T.sz := Nat.mul_le_mul_right _ h3
      have hyl : ∀ j, j < l.length * T.sz → ys[j]? = c.toList[j]? := fun j hj => by rw [← h6, List.getElem?_take, if_pos hj]
      refine Cat.of_get ?_ ?_
      · simp only [List.length_set, List.length_take, List.length_append, List.length_drop, Array.length_toList]; omega
      · intro k hk
        rw [List.length_set] at hk
        have hkl : (k + 1) * T.sz ≤ l.length * T.sz := Nat.mul_le_mul_right _ hk
        rw [Nat.add_mul, Nat.one_mul] at hkl
        by_cases hki : k = i
        · subst hki
          refine ⟨xs, by rw [List.getElem_set_self]; exact T.keep hR hsm (fun _ h => h), fun j hj => ?_⟩
          rw [List.getElem?_take, if_pos (by rw [hll]; omega)]
          rw [take_mid hmid, if_pos (by omega)]
          congr 1; omega
        · obtain ⟨cs, h7, h8⟩ := h5.get k hk
          refine ⟨cs, by rw [List.getElem_set_ne (fun q => hki q.symm)]; exact T.keep h7 hsm (fun _ h => h), fun j hj => ?_⟩
          rw [List.getElem?_take, if_pos (by rw [hll]; omega)]
          rw [take_mid hmid, if_neg (by rw [hxl]; exact mul_sep hj hki), ← hyl _ (by omega)]
          exact h8 j hj
end Go.Eng

/-
  The engine: maps whose keys are bools, whole numbers, or strings. Generic: no program.
-/
namespace Go.Eng
set_option linter.unusedVariables false
set_option linter.unusedSimpArgs false
open Go.RowKit Go.MapKept Classical

/-- A map at r whose entries are what f tells. -/
def MapAt (d : TypeDesc) (w : World) (r : Nat) (f : Value → Option Value) : Prop :=
  ∃ es clock, w.heap[r]? = some (.map es clock) ∧ Stamped es clock ∧ (∀ x ∈ es.toList, IsKey d x.key) ∧ ∀ k v, f k = some v ↔ ∃ e ∈ es.toList, e.key = k ∧ e.val = v
noncomputable def fput (f : Value → Option Value) (k v : Value) : Value → Option Value := fun x => if x = k then some v else f x
theorem fput_same (f : Value → Option Value) (k v : Value) : fput f k v k = some v := if_pos rfl
theorem fput_ne {f : Value → Option Value} {k v x : Value} (h : x ≠ k) : fput f k v x = f x := if_neg h
theorem MapAt.lt {d : TypeDesc} {w : World} {r : Nat} {f : Value → Option Value} (h : MapAt d w r f) : r < w.heap.size := by
  obtain ⟨es, clock, h1, _⟩ := h; exact heap_lt h1
theorem MapAt.at {d : TypeDesc} {w w' : World} {r : Nat} {f : Value → Option Value} (h : MapAt d w r f) (he : w'.heap[r]? = w.heap[r]?) : MapAt d w' r f := by
  obtain ⟨es, clock, h1, h2⟩ := h; exact ⟨es, clock, by rw [he]; exact h1, h2⟩
theorem MapAt.ext {d : TypeDesc} {w w' : World} {r : Nat} {f : Value → Option Value} (h : MapAt d w r f) (he : Ext w w') : MapAt d w' r f := h.at (he.block r h.lt)
theorem MapAt.chg {d : TypeDesc} {w w' : World} {r b : Nat} {f : Value → Option Value} (h : MapAt d w r f) (hc : Chg b w w') (hne : r ≠ b) : MapAt d w' r f := h.at (hc.block r h.lt hne)
theorem MapAt.new (d : TypeDesc) (w : World) : MapAt d (w.alloc (.map #[] 0)) w.heap.size (fun _ => none) :=
  ⟨#[], 0, Go.heap_alloc_new w _, stamped_empty 0, by simp, by simp⟩
theorem MapAt.not_cells {d : TypeDesc} {w : World} {r : Nat} {f : Value → Option Value} (h : MapAt d w r f) {c : Array Value} {t : TypeId} {fr : Nat × Nat} : w.heap[r]? ≠ some (.cells c t fr) := by
  obtain ⟨es, clock, h1, _⟩ := h; rw [h1]; simp
theorem MapAt.ne_cells {d : TypeDesc} {w : World} {r g : Nat} {f : Value → Option Value} (h : MapAt d w r f) {c : Array Value} {t : TypeId} {fr : Nat × Nat} (hg : w.heap[g]? = some (.cells c t fr)) : r ≠ g := by
  rintro rfl; exact h.not_cells hg
theorem key_inj {l : List MapEntry} (hn : (l.map (·.key)).Nodup) {x e : MapEntry} (hx : x ∈ l) (he : e ∈ l) (h : x.key = e.key) : x = e := by
  induction l with
  | nil => cases hx
  | cons y l ih =>
    have hn' : y.key ∉ l.map (·.key) ∧ (l.map (·.key)).Nodup := List.nodup_cons.1 hn
    rcases List.mem_cons.1 hx with rfl | hx' <;> rcases List.mem_cons.1 he with rfl | he'
    · rfl
    · exact absurd (List.mem_map.2 ⟨e, he', h.symm⟩) hn'.1
    · exact absurd (List.mem_map.2 ⟨x, hx', h⟩) hn'.1
    · exact ih hn'.2 hx' he'
section
variable {P : Program} {ρ : Operand → Value} {w : World} {d : Option Tmp} {t : TypeId} {pos : String} {af : Array Edge} {g : Option (Nat × Bool)} {x y z : Operand} {mt kt et : TypeId} {kd : TypeDesc} {r : Nat} {f : Value → Option Value} {k v zv : Value}
theorem run_zero (hzv : (P.info? et).bind (·.zero) = some zv) : (zeroValue et).run P w = .ok zv w := by
  cases hi : P.info? et with
  | none => simp [hi] at hzv
  | some inf =>
    have : inf.zero = some zv := by simpa [hi] using hzv
    simp [zeroValue, typeInfo, hi, this]
theorem run_lookup (hu : P.underlying mt = some (.map kt et)) (hd : P.underlying kt = some kd) (hk : IsKey kd k) (hzv : (P.info? et).bind (·.zero) = some zv) (hm : MapAt kd w r f) (ok : Bool) :
    (Instr.lookup mt (.map (some r)) k ok).run P w = .ok (if ok then .tuple #[(f k).getD zv, .bool (f k).isSome] else (f k).getD zv) w := by
  obtain ⟨es, clock, h1, h2, h3, h4⟩ := hm
  have hc : (Instr.checkKey es.isEmpty 10000 kt k).run P w = .ok () w := Go.MapKept.run_checkKey hd hk _ 9999
  unfold Instr.lookup
  rcases findNow_spec hk es.toList 0 h3 with ⟨q1, q2⟩ | ⟨j, e, q1, q2, q3⟩
  · have hf : f k = none := by
      cases hfk : f k with
      | none => rfl
      | some v =>
        obtain ⟨e, he, hek, _⟩ := (h4 k v).1 hfk
        exact absurd hek (q2 e he)
    simp only [Sem.run_bind, run_underlying hu, Result.andThen_ok, Go.MapKept.run_getObj_map h1, Sem.run_pure, hc, Go.MapKept.run_findKey hd q1, run_zero hzv, hf]
    cases ok <;> rfl
  · have hf : f k = some e.val := (h4 k e.val).2 ⟨e, List.mem_of_getElem? q2, q3, rfl⟩
    simp only [Sem.run_bind, run_underlying hu, Result.andThen_ok, Go.MapKept.run_getObj_map h1, Sem.run_pure, hc, Go.MapKept.run_findKey hd q1, hf]
    cases ok <;> rfl
/-- What a key leads to, or nothing. -/
theorem rk_lookup (hx : ρ x = .map (some r)) (hy : ρ y = k) (hu : P.underlying mt = some (.map kt et)) (hd : P.underlying kt = some kd) (hk : IsKey kd k) (hzv : (P.info? et).bind (·.zero) = some zv) (hm : MapAt kd w r f) :
    (execOp ρ ⟨d, .lookup mt x y false, t, pos, af, g⟩).run P w = .ok (.value ((f k).getD zv)) w := by
  have := run_lookup hu hd hk hzv hm false
  simp [execOp, hx, hy, this]
theorem rk_lookupV {u : Value} (hx : ρ x = .map (some r)) (hy : ρ y = k) (hu : P.underlying mt = some (.map kt et)) (hd : P.underlying kt = some kd) (hk : IsKey kd k) (hzv : (P.info? et).bind (·.zero) = some zv) (hm : MapAt kd w r f) (hv : (f k).getD zv = u) :
    (execOp ρ ⟨d, .lookup mt x y false, t, pos, af, g⟩).run P w = .ok (.value u) w := by
  rw [← hv]; exact rk_lookup hx hy hu hd hk hzv hm
theorem rk_lookupOk (hx : ρ x = .map (some r)) (hy : ρ y = k) (hu : P.underlying mt = some (.map kt et)) (hd : P.underlying kt = some kd) (hk : IsKey kd k) (hzv : (P.info? et).bind (·.zero) = some zv) (hm : MapAt kd w r f) :
    (execOp ρ ⟨d, .lookup mt x y true, t, pos, af, g⟩).run P w = .ok (.value (.tuple #[(f k).getD zv, .bool (f k).isSome])) w := by
  have := run_lookup hu hd hk hzv hm true
  simp [execOp, hx, hy, this]
theorem Chg.putObj (w : World) (r : Nat) (o : Obj) : Chg r w (w.putObj r o) :=
  ⟨rfl, rfl, rfl, by simp, fun k _ hne => World.putObj_heap_other hne⟩
theorem run_insert (hu : P.underlying mt = some (.map kt et)) (hd : P.underlying kt = some kd) (hk : IsKey kd k) (hm : MapAt kd w r f) :
    ∃ w', (Instr.mapUpdate mt (.map (some r)) k v).run P w = .ok () w' ∧ Chg r w w' ∧ MapAt kd w' r (fput f k v) := by
  obtain ⟨es, clock, h1, h2, h3, h4⟩ := hm
  rcases findNow_spec hk es.toList 0 h3 with ⟨q1, q2⟩ | ⟨j, e, q1, q2, q3⟩
  · refine ⟨w.putObj r (.map (es.push { key := k, val := v, born := clock }) (clock + 1)), ?_, Chg.putObj _ _ _, ?_⟩
    · simp [Instr.mapUpdate, run_underlying hu, Go.MapKept.run_getObj_map h1, Go.MapKept.run_checkKey hd hk, Go.MapKept.run_findKey hd q1, Go.MapKept.run_setObj_map _ h1, Result.andThen, World.putObj]
    · refine ⟨_, _, World.putObj_heap_same (heap_lt h1), stamped_push h2 q2, ?_, fun k' v' => ?_⟩
      · intro x hx
        simp only [Array.toList_push, List.mem_append, List.mem_singleton] at hx
        rcases hx with hx | rfl
        · exact h3 x hx
        · exact hk
      · simp only [Array.toList_push, List.mem_append, List.mem_singleton]
        by_cases hkk : k' = k
        · subst hkk
          rw [fput_same]
          constructor
          · intro q; cases q; exact ⟨_, Or.inr rfl, rfl, rfl⟩
          · rintro ⟨e, he | rfl, q3, q4⟩
            · exact absurd q3 (q2 e he)
            · rw [← q4]
        · rw [fput_ne hkk, h4]
          constructor
          · rintro ⟨e, he, q⟩; exact ⟨e, Or.inl he, q⟩
          · rintro ⟨e, he | rfl, q3, q4⟩
            · exact ⟨e, he, q3, q4⟩
            · exact absurd q3.symm hkk
  · have hj : es[j]? = some e := by simpa using q2
    have hjl : j < es.size := (Array.getElem?_eq_some_iff.1 hj).1
    refine ⟨w.putObj r (.map (es.modify j fun e => { e with key := k, val := v }) clock), ?_, Chg.putObj _ _ _, ?_⟩
    · simp [Instr.mapUpdate, run_underlying hu, Go.MapKept.run_getObj_map h1, Go.MapKept.run_checkKey hd hk, Go.MapKept.run_findKey hd q1, hj, q3, Go.MapKept.run_keyThatStays hk, Go.MapKept.run_setObj_map _ h1, Result.andThen, World.putObj]
    · have hkey : ∀ e', es[j]? = some e' → ({ e' with key := k, val := v } : MapEntry).key = e'.key := fun e' he' => by rw [hj] at he'; cases he'; exact q3.symm
      refine ⟨_, _, World.putObj_heap_same (heap_lt h1), stamped_modify h2 _ _ (fun _ _ => rfl) (fun e' _ he' => hkey e' he'), isKey_modify h3 _ _ hkey, fun k' v' => ?_⟩
      have hmem : ∀ e', e' ∈ (es.modify j fun e => { e with key := k, val := v }).toList ↔ (e' = { e with key := k, val := v } ∨ (e' ∈ es.toList ∧ e'.key ≠ k)) := by
        intro e'
        constructor
        · intro hm
          obtain ⟨i, hi, rfl⟩ := List.mem_iff_getElem.1 hm
          simp only [Array.getElem_toList, Array.getElem_modify]
          have hi' : i < es.size := by simpa using hi
          by_cases hij : j = i
          · subst hij
            left
            have : es[j] = e := by rw [Array.getElem?_eq_getElem hjl] at hj; exact Option.some.inj hj
            simp [this]
          · right
            rw [if_neg hij]
            refine ⟨by simp, fun q => ?_⟩
            have e1 : es[i] = e := key_inj h2.2.2 (by simp) (List.mem_of_getElem? q2) (q.trans q3.symm)
            have hb := List.pairwise_iff_getElem.1 h2.2.1
            have hv : ∀ a b, a < b → ∀ (ha : a < es.size) (hb' : b < es.size), es[a] = es[b] → False := fun a b hab ha hb' hq => hb a b (by simpa using ha) (by simpa using hb') hab (by simp [hq])
            have ej : es[j] = e := by rw [Array.getElem?_eq_getElem hjl] at hj; exact Option.some.inj hj
            rcases Nat.lt_or_gt_of_ne hij with h | h
            · exact hv j i h hjl hi' (ej.trans e1.symm)
            · exact hv i j h hi' hjl (e1.trans ej.symm)
        · rintro (rfl | ⟨hm, hk'⟩)
          · refine List.mem_iff_getElem.2 ⟨j, by simpa using hjl, ?_⟩
            have : es[j] = e := by rw [Array.getElem?_eq_getElem hjl] at hj; exact Option.some.inj hj
            simp [Array.getElem_modify, this]
          · obtain ⟨i, hi, rfl⟩ := List.mem_iff_getElem.1 hm
            have hi' : i < es.size := by simpa using hi
            refine List.mem_iff_getElem.2 ⟨i, by simpa using hi', ?_⟩
            have hij : j ≠ i := by
              rintro rfl
              apply hk'
              have : es[j] = e := by rw [Array.getElem?_eq_getElem hjl] at hj; exact Option.some.inj hj
              simp [this, q3]
            simp [Array.getElem_modify, hij]
      by_cases hkk : k' = k
      · subst hkk
        rw [fput_same]
        constructor
        · intro q; cases q; exact ⟨_, (hmem _).2 (Or.inl rfl), rfl, rfl⟩
        · rintro ⟨e', he', q4, q5⟩
          rcases (hmem e').1 he' with rfl | ⟨_, hne⟩
          · rw [← q5]
          · exact absurd q4 hne
      · rw [fput_ne hkk, h4]
        constructor
        · rintro ⟨e', he', q4, q5⟩; exact ⟨e', (hmem e').2 (Or.inr ⟨he', by rw [q4]; exact hkk⟩), q4, q5⟩
        · rintro ⟨e', he', q4, q5⟩
          rcases (hmem e').1 he' with rfl | ⟨hm, _⟩
          · exact absurd q4.symm hkk
          · exact ⟨e', hm, q4, q5⟩
end
section
variable {P : Program} {n : Nat} {N : Env → World → Prop} {X : Exit → Env → World → Prop} {e : Env} {w : World} {ops : Array Oper} {rest : List Oper} {d : Option Tmp} {t : TypeId} {pos : String} {af : Array Edge} {mt kt et : TypeId} {kd : TypeDesc} {r : Nat} {f : Value → Option Value} {k v zv : Value}
theorem op_insertK {x y z : Operand} (hx : ev e x = .map (some r)) (hy : ev e y = k) (hz : ev e z = v) (hu : P.underlying mt = some (.map kt et)) (hd : P.underlying kt = some kd) (hk : IsKey kd k) (hm : MapAt kd w r f)
    (h : ∀ w', Chg r w w' → MapAt kd w' r (fput f k v) → WL P n ops N X rest e w') : WL P n ops N X (⟨none, .insert mt x y z, t, pos, af, none⟩ :: rest) e w := by
  obtain ⟨w', h1, h2, h3⟩ := run_insert (v := v) hu hd hk hm
  exact opU (by simp [execOp, hx, hy, hz, h1]) (h w' h2 h3)
theorem op_updateK {x y z : Operand} (hx : ev e x = .map (some r)) (hy : ev e y = k) (hz : ev e z = v) (hu : P.underlying mt = some (.map kt et)) (hd : P.underlying kt = some kd) (hk : IsKey kd k) (hm : MapAt kd w r f)
    (h : ∀ w', Chg r w w' → MapAt kd w' r (fput f k v) → WL P n ops N X rest e w') : WL P n ops N X (⟨none, .mapUpdate mt x y z, t, pos, af, none⟩ :: rest) e w := by
  obtain ⟨w', h1, h2, h3⟩ := run_insert (v := v) hu hd hk hm
  exact opU (by simp [execOp, hx, hy, hz, h1]) (h w' h2 h3)
theorem op_makeMapK (kd : TypeDesc) (hd : dOk n d = true) (h : ∀ w' r, Ext w w' → MapAt kd w' r (fun _ => none) → w.heap.size = r → WL P n ops N X rest (putO e d (.map (some r))) w') : WL P n ops N X (⟨d, .makeMap mt none, t, pos, af, none⟩ :: rest) e w :=
  op hd r_makeMap (h _ _ (Ext.alloc _ _) (MapAt.new kd w) rfl)
end
section
variable {P : Program} {n : Nat} {N : Env → World → Prop} {X : Exit → Env → World → Prop} {S : World → Prop} {ops : Array Oper} {fuel : Nat} {listed : Array Bool} {i : Nat} {e : Env} {w : World} {t : TypeId} {pos : String} {af : Array Edge} {x y z : Operand} {mt kt et : TypeId} {kd : TypeDesc} {r : Nat} {f : Value → Option Value} {k v : Value}
theorem O_updateK (hi : ops[i]? = some ⟨none, .mapUpdate mt x y z, t, pos, af, none⟩) (hx : ev e x = .map (some r)) (hy : ev e y = k) (hz : ev e z = v) (hu : P.underlying mt = some (.map kt et)) (hd : P.underlying kt = some kd) (hk : IsKey kd k) (hm : MapAt kd w r f)
    (h : ∀ w', Chg r w w' → MapAt kd w' r (fput f k v) → S w' ∧ WA P n ops N X S fuel (listed.setIfInBounds i true) e w') : WO P n ops N X S fuel listed i e w := by
  obtain ⟨w', h1, h2, h3⟩ := run_insert (v := v) hu hd hk hm
  obtain ⟨q1, q2⟩ := h w' h2 h3
  exact O_unit hi (by simp [execOp, hx, hy, hz, h1]) q1 q2
end
end Go.Eng

/-
  The engine: loops over functions that change blocks of their own. Generic: no program.
-/
namespace Go.Eng
set_option linter.unusedVariables false
set_option linter.unusedSimpArgs false
open Go.RowKit

/-- Blocks that Z names may be other ones; there may be more. -/
structure Mv (Z : Nat → Prop) (w w' : World) : Prop where
  os : w'.os = w.os
  tape : w'.tape = w.tape
  output : w'.output = w.output
  size : w.heap.size ≤ w'.heap.size
  block : ∀ k, k < w.heap.size → ¬ Z k → w'.heap[k]? = w.heap[k]?
theorem Mv.of_ext {Z : Nat → Prop} {w w' : World} (h : Ext w w') : Mv Z w w' := ⟨h.os, h.tape, h.output, h.size, fun k hk _ => h.block k hk⟩
theorem Mv.of_chg {Z : Nat → Prop} {w w' : World} {b : Nat} (h : Chg b w w') (hb : Z b) : Mv Z w w' := ⟨h.os, h.tape, h.output, h.size, fun k hk hn => h.block k hk (fun q => hn (q ▸ hb))⟩
theorem Mv.trans {Z : Nat → Prop} {a b c : World} (h : Mv Z a b) (k : Mv Z b c) : Mv Z a c :=
  ⟨k.os.trans h.os, k.tape.trans h.tape, k.output.trans h.output, Nat.le_trans h.size k.size, fun i hi hn => (k.block i (Nat.lt_of_lt_of_le hi h.size) hn).trans (h.block i hi hn)⟩
theorem Mv.heap {Z : Nat → Prop} {w w' : World} {g : Nat} {o : Obj} (hx : Mv Z w w') (h : w.heap[g]? = some o) (hn : ¬ Z g) : w'.heap[g]? = some o := by rw [hx.block g (heap_lt h) hn]; exact h
theorem Mv.blk {Z : Nat → Prop} {w w' : World} {g : Nat} {c : Array Value} {t : TypeId} (hx : Mv Z w w') (h : Blk w g c t) (hn : ¬ Z g) : Blk w' g c t := Mv.heap hx h hn
theorem Mv.below {Z : Nat → Prop} {B : Nat} {a w w' : World} (h : Below B a w) (hx : Mv Z w w') (hZ : ∀ k, Z k → B ≤ k) (hB : B ≤ w.heap.size) : Below B a w' :=
  h.trans ⟨hx.os, hx.tape, hx.output, hx.size, fun k hk => hx.block k (by omega) (fun q => by have := hZ k q; omega)⟩
theorem Mv.same {Z F : Nat → Prop} {w w' : World} (hx : Mv Z w w') (hF : ∀ b, F b → b < w.heap.size ∧ ¬ Z b) : Same F w w' := fun b hb => hx.block b (hF b hb).1 (hF b hb).2
/-- What a function that is ranged over promises, where it changes blocks of its own (Z). -/
def IterZ {α : Type} (Z : Nat → Prop) (P : Program) (g : Nat) (lb : Array Value) (encs : α → Array Value) (Kp : World → World → Prop) (Pr : List α → World → Prop) (S Sp : List α → Prop) (w : World) : Prop :=
  ∀ (l : Nat) (J Jx : List α → World → Prop) (W : World), Ext w W → (∀ s A B, J s A → Mv Z A B → J s B) → (∀ s A B, Jx s A → Mv Z A B → Jx s B) →
    (∀ pre x W1, J pre W1 → Pr (pre ++ [x]) W1 → YieldAt (fen none) 0 P l (encs x) W1 fun e W' =>
      (e = .returned (.bool true) ∧ J (pre ++ [x]) W' ∧ Kp W1 W') ∨ (e = .returned (.bool false) ∧ Jx (pre ++ [x]) W')) →
    J [] W → Calls P g (#[.func (.yield l) #[] #[]] ++ lb) W fun e W' => (∃ v, e = .returned v) ∧ ((∃ xs, S xs ∧ Pr xs W' ∧ J xs W') ∨ (∃ pre, Sp pre ∧ Jx pre W'))
section
variable {P : Program} {n : Nat} {N : Env → World → Prop} {X : Exit → Env → World → Prop} {e : Env} {w : World}
theorem W_rangeFuncZ {Z : Nat → Prop} {α : Type} {g : Operand} {ps : Array Tmp} {assign body : Code} {gf : Nat} {lb : Array Value} {encs : α → Array Value} {Kp : World → World → Prop} {Pr : List α → World → Prop} {S Sp : List α → Prop} {w0 : World}
    (hm : e slotM = undef) (hg : ev e g = .func (.func gf) #[] lb) (eg : ∀ args w, (callFunc gf args).run P w = .ok (.enter gf args) w)
    (hseq : IterZ Z P gf lb encs Kp Pr S Sp w0) (hZ : ∀ k, Z k → k < w0.heap.size) (hb0 : Ext w0 w) (hps : ∀ x, (encs x).size = ps.size) (zs : α → List (Nat × Value)) (hz : ∀ x, (ps.zip (encs x)).toList = zs x) (hzn : ∀ x, (zs x).all (fun q => Nat.blt q.1 n) = true)
    (D : List Nat) (A : α → Env → Prop) (I : List α → World → Prop) (Ix : Code → List α → World → Prop)
    (hKt : ∀ {A B C : World}, Kp A B → Kp B C → Kp A C) (hKb : ∀ W W', w.heap.size ≤ W.heap.size → Turn w.heap.size W W' → Kp W W')
    (hI : ∀ s W W', I s W → Turn w.heap.size W W' → I s W') (hIx : ∀ c s W W', Ix c s W → Turn w.heap.size W W' → Ix c s W') (hPr : ∀ s W W', Pr s W → Turn w.heap.size W W' → Pr s W') (hIZ : ∀ s W W', I s W → Mv Z W W' → I s W') (hIxZ : ∀ c s W W', Ix c s W → Mv Z W W' → Ix c s W') (h0 : I [] w)
    (hassign : ∀ l pre x W', I pre W' → Pr (pre ++ [x]) W' → W P n assign (fun e' W'' => (Nc w.heap.size W' W'' ∧ Kp W' W'' ∧ I pre W'' ∧ Pr (pre ++ [x]) W'' ∧ A x e') ∧ Out (slotM :: D) e' e) (fun _ _ _ => False) (put (putL e (zs x)) slotM (.int .i64 (l : Nat))) W')
    (hbody : ∀ l pre x g' W', I pre W' → Pr (pre ++ [x]) W' → A x g' → W P n body (fun _ W'' => Nc w.heap.size W' W'' ∧ Kp W' W'' ∧ I (pre ++ [x]) W'') (jump w.heap.size W' fun c W'' => Ix c (pre ++ [x]) W'') (put (mix D g' e) slotM (.int .i64 (l : Nat))) W')
    (hdone : ∀ Db xs W', w.heap.size ≤ Db → S xs → I xs W' → Pr xs W' → W'.heap[Db]? = some (.deferred (some [])) → N (put e slotM (.tuple #[.int .i64 (Db : Nat)])) W')
    (hstop : ∀ Db c pre W', w.heap.size ≤ Db → Sp pre → Ix c pre W' → W'.heap[Db]? = some (.deferred (some [])) → W P n c N X (put e slotM (.tuple #[.int .i64 (Db : Nat)])) W') :
    W P n (.rangeFunc g ps assign body) N X e w := by
  intro ro a ha
  have hro : ro = none := by have := ha.ro; rw [hm] at this; exact this.symm
  subst hro
  have hdf : a.defers = [] := by rw [ha.defers, hm]; rfl
  have hmark : ∀ Db : Nat, Rel none n (put e slotM (.tuple #[.int .i64 (Db : Nat)])) { a with defers := { target := .collected Db, args := #[] } :: a.defers } := fun Db =>
    ⟨ha.size, ha.lt, fun i hi => by rw [put_ne _ _ _ _ hi]; exact ha.get i hi, by rw [put_same, hdf]; simp [marks], by rw [put_same]; rfl⟩
  refine wpIn_rangeFunc ?_
  intro fn hfn
  obtain ⟨rec, hrec⟩ : ∃ rec : LoopState → Option Code → Loop, rec = fun st pe => { state := st, pending := pe, fn, tmps := a.tmps, params := ps, assign, body, defers := w.heap.size } := ⟨_, rfl⟩
  obtain ⟨W1, hW1⟩ : ∃ W1, (w.alloc (.deferred (some []))).alloc (.loop (rec .ready none)) = W1 := ⟨_, rfl⟩
  have hE1 : Ext w W1 := by rw [← hW1]; exact (Ext.alloc _ _).trans (Ext.alloc _ _)
  have hL1 : W1.heap[w.heap.size + 1]? = some (.loop (rec .ready none)) := by
    rw [← hW1]; have := World.alloc_heap_new (w.alloc (.deferred (some []))) (.loop (rec .ready none)); rwa [World.size_alloc] at this
  have hK1 : W1.heap[w.heap.size]? = some (.deferred (some [])) := by
    rw [← hW1]; exact (Below.heap_alloc _ _ _ (by simp)).trans (World.alloc_heap_new w _)
  have hzl : ¬ Z (w.heap.size + 1) := fun q => by have := hZ _ q; have := hb0.size; omega
  have hzd : ¬ Z w.heap.size := fun q => by have := hZ _ q; have := hb0.size; omega
  refine ⟨w.heap.size + 1, [{ target := .collected w.heap.size, args := #[] }], W1, { target := .fn (.func gf) lb, args := #[.func (.yield (w.heap.size + 1)) #[] #[]] }, W1, gf,
    #[.func (.yield (w.heap.size + 1)) #[] #[]] ++ lb, W1, ?_, ?_, fun _ _ => trivial, ?_, (fun q => by simp [fen, Fence.wide] at q), ?_⟩
  · rw [← hW1, hrec]; exact run_enterLoop_outer _ _ _ _ _
  · rw [ha.eval]
    simp only [resolve, hg]
    simp [go_sem, ev]
  · simp [invoke, go_sem, eg]
  · refine callsIn_fen.2 ((hseq (w.heap.size + 1)
      (fun pre W => I pre W ∧ W.heap[w.heap.size + 1]? = some (.loop (rec .ready none)) ∧ W.heap[w.heap.size]? = some (.deferred (some [])))
      (fun pre W => ∃ c, Ix c pre W ∧ W.heap[w.heap.size + 1]? = some (.loop (rec .done (some c))) ∧ W.heap[w.heap.size]? = some (.deferred (some [])))
      W1 (hb0.trans hE1) (fun s A B h hx => ⟨hIZ s A B h.1 hx, hx.heap h.2.1 hzl, hx.heap h.2.2 hzd⟩) (fun s A B h hx => by
        obtain ⟨c, h1, h2, h3⟩ := h
        exact ⟨c, hIxZ c s A B h1 hx, hx.heap h2 hzl, hx.heap h3 hzd⟩) ?_ ⟨hI _ _ _ h0 (.of_ext hE1), hL1, hK1⟩).mono ?_)
    · rintro pre x W ⟨hi, hl, hk⟩ hp
      have hy := run_yield (P := P) (args := encs x) hl (by rw [hrec]; exact hps x)
      rw [hrec] at hy
      refine ⟨fn, _, assign, body, hy, roundIn_of_wpIn hfn ?_⟩
      have hzl : ((ps.zip (encs x)).foldl (fun t q => t.setIfInBounds q.1 q.2) a.tmps) = (zs x).foldl (fun t q => t.setIfInBounds q.1 q.2) a.tmps := by rw [← Array.foldl_toList, hz x]
      have hzlt : ∀ q ∈ zs x, q.1 < n := fun q hq => by have := List.all_eq_true.1 (hzn x) q hq; simpa [Nat.blt_eq] using this
      obtain ⟨hs1, hs2⟩ := rel_setL (zs x) e a.tmps ha.size hzlt ha.get
      have hrel : Rel (some (w.heap.size + 1)) n (put (putL e (zs x)) slotM (.int .i64 ((w.heap.size + 1 : Nat) : Int))) { tmps := (ps.zip (encs x)).foldl (fun t q => t.setIfInBounds q.1 q.2) a.tmps, defers := [] } := by
        refine ⟨by rw [hzl]; exact hs1, ha.lt, fun i hi => ?_, by rw [put_same]; rfl, by rw [put_same]; simp [roOf]⟩
        show ((ps.zip (encs x)).foldl _ a.tmps).getD i undef = _
        rw [put_ne _ _ _ _ hi, hzl]
        exact hs2 i hi
      refine wpIn_mono (hassign (w.heap.size + 1) pre x W hi hp _ _ hrel) ?_
      intro ex a1 W2 hq
      cases ex with
      | normal =>
        obtain ⟨e1, he1, ⟨hn1, hk1, hi1, hp1, hA1⟩, hO⟩ := hq
        have hl1 := hn1.same _ _ (Nat.le_succ _) hl rfl
        have hd1 := hn1.same _ _ (Nat.le_refl _) hk rfl
        refine ⟨_, run_beginRound hl1 (by rw [hrec]), ?_⟩
        have hlt : w.heap.size + 1 < W2.heap.size := heap_lt hl1
        have ht2 : Turn w.heap.size W2 (W2.putObj (w.heap.size + 1) (.loop { rec .ready none with state := .busy })) := .putObj _ (Nat.le_succ _) hl1 rfl
        have hl2 : (W2.putObj (w.heap.size + 1) (.loop { rec .ready none with state := .busy })).heap[w.heap.size + 1]? = some (.loop { rec .ready none with state := .busy }) := World.putObj_heap_same hlt
        have hk2 : (W2.putObj (w.heap.size + 1) (.loop { rec .ready none with state := .busy })).heap[w.heap.size]? = some (.deferred (some [])) := (World.putObj_heap_other (by omega)).trans hd1
        have hr1 : Rel (some (w.heap.size + 1)) n (put (mix D e1 e) slotM (.int .i64 ((w.heap.size + 1 : Nat) : Int))) a1 := by
          refine he1.slot (fun i hi => ?_) (by
            rw [put_same]
            have h1 := he1.defers
            have h2 := he1.ro
            rw [h1]
            cases hq : e1 slotM with
            | int k q => rfl
            | _ => rw [hq] at h2; simp [roOf] at h2) (by rw [put_same]; simp [roOf])
          rw [put_ne _ _ _ _ hi]
          cases hD : mem i D with
          | true => simp only [mix, hD, cond_true]
          | false =>
            simp only [mix, hD, cond_false]
            refine (hO i ?_).symm
            have : Nat.beq i slotM = false := by rw [beq_eq]; simp [hi]
            simp only [mem, this, cond_false, hD]
        refine wpIn_mono (hbody (w.heap.size + 1) pre x e1 _ (hI _ _ _ hi1 ht2) (hPr _ _ _ hp1 ht2) hA1 _ _ hr1) ?_
        have fin : ∀ (jump : Option Code) (W3 : World), Nc w.heap.size (W2.putObj (w.heap.size + 1) (.loop { rec .ready none with state := .busy })) W3 →
            (Instr.endRound (w.heap.size + 1) jump).run P W3 = .ok (.bool jump.isNone) (W3.putObj (w.heap.size + 1) (.loop (rec (if jump.isNone then .ready else .done) jump))) ∧
            (w.heap.size ≤ W3.heap.size ∧ Turn w.heap.size W3 (W3.putObj (w.heap.size + 1) (.loop (rec (if jump.isNone then .ready else .done) jump)))) ∧
            (W3.putObj (w.heap.size + 1) (.loop (rec (if jump.isNone then .ready else .done) jump))).heap[w.heap.size + 1]? = some (.loop (rec (if jump.isNone then .ready else .done) jump)) ∧
            (W3.putObj (w.heap.size + 1) (.loop (rec (if jump.isNone then .ready else .done) jump))).heap[w.heap.size]? = some (.deferred (some [])) := fun jump W3 hk3 => by
          have hl3 := hk3.same _ _ (Nat.le_succ _) hl2 rfl
          have := run_endRound (P := P) jump hl3
          rw [hrec] at this ⊢
          exact ⟨this, ⟨by have := heap_lt hl3; omega, .putObj _ (Nat.le_succ _) hl3 rfl⟩, World.putObj_heap_same (heap_lt hl3), (World.putObj_heap_other (by omega)).trans (hk3.same _ _ (Nat.le_refl _) hk2 rfl)⟩
        rintro e3 a3 W3 hp3
        cases e3 with
        | normal =>
          obtain ⟨_, _, hk3, hkp3, hi3⟩ := hp3
          obtain ⟨hr, ⟨hsz3, ht3⟩, hl4, hk4⟩ := fin none W3 hk3
          exact ⟨_, _, hr, .inl ⟨rfl, ⟨hI _ _ _ hi3 ht3, hl4, hk4⟩, hKt hk1 (hKt (hKt (hKb _ _ (by omega) ht2) hkp3) (hKb _ _ hsz3 ht3))⟩⟩
        | ret =>
          obtain ⟨_, _, hk3, hi3⟩ := hp3
          obtain ⟨hr, ⟨hsz3, ht3⟩, hl4, hk4⟩ := fin (some .ret) W3 hk3
          exact ⟨_, _, hr, .inr ⟨rfl, .ret, hIx _ _ _ _ hi3 ht3, hl4, hk4⟩⟩
        | exit id =>
          obtain ⟨_, _, hk3, hi3⟩ := hp3
          obtain ⟨hr, ⟨hsz3, ht3⟩, hl4, hk4⟩ := fin (some (.exit id)) W3 hk3
          exact ⟨_, _, hr, .inr ⟨rfl, .exit id, hIx _ _ _ _ hi3 ht3, hl4, hk4⟩⟩
        | goto t =>
          obtain ⟨_, _, hk3, hi3⟩ := hp3
          obtain ⟨hr, ⟨hsz3, ht3⟩, hl4, hk4⟩ := fin (some (.goto t)) W3 hk3
          exact ⟨_, _, hr, .inr ⟨rfl, .goto t, hIx _ _ _ _ hi3 ht3, hl4, hk4⟩⟩
        | panic ch => exact hp3.elim
        | outgrown => exact hp3.elim
      | panic c => exact hq
      | outgrown => exact hq
      | ret => obtain ⟨_, _, q⟩ := hq; exact q.elim
      | exit _ => obtain ⟨_, _, q⟩ := hq; exact q.elim
      | goto _ => obtain ⟨_, _, q⟩ := hq; exact q.elim
    · rintro en W2 ⟨⟨v, rfl⟩, (⟨xs, hS, hp, hi, hl, hk⟩ | ⟨pre, hSp, c, hi, hl, hk⟩)⟩
      · have ht : Turn w.heap.size W2 (W2.putObj (w.heap.size + 1) (.loop { rec .ready none with state := .exhausted })) := .putObj _ (Nat.le_succ _) hl rfl
        refine ⟨none, _, by have := run_endLoop (P := P) hl (by rw [hrec]; simp); rw [hrec] at this; exact this, ?_⟩
        rw [hrec] at ht
        exact ⟨_, hmark _, hdone _ xs _ (Nat.le_refl _) hS (hI _ _ _ hi ht) (hPr _ _ _ hp ht) ((World.putObj_heap_other (by omega)).trans hk)⟩
      · have ht : Turn w.heap.size W2 (W2.putObj (w.heap.size + 1) (.loop { rec .done (some c) with state := .exhausted })) := .putObj _ (Nat.le_succ _) hl rfl
        refine ⟨some c, _, by have := run_endLoop (P := P) hl (by rw [hrec]; simp); rw [hrec] at this; exact this, ?_⟩
        rw [hrec] at ht
        exact hstop _ c pre _ (Nat.le_refl _) hSp (hIx _ _ _ _ hi ht) ((World.putObj_heap_other (by omega)).trans hk) _ _ (hmark _)
end
/-- A result of one cell. -/
theorem fin_cellV {P : Program} {p : Tmp} {ty : TypeId} {R : Ending → World → Prop} {e : Env} {w : World} {a : Addr} {v : Value} {td : TypeDesc}
    (hp : e p = .pointer (some a)) (hc : w.cell? a = some v) (hu : P.underlying ty = some td) (h1 : oneCellT td = true)
    (h : R (.returned v) w) (hm : e slotM = undef := by rfl) (k1 : Nat.beq p slotM = false := by rfl) : fin P #[.cell p ty] R e w := by
  refine fin_plain hm ?_
  intro tmps ht
  refine ⟨v, ?_, h⟩
  have h1' := ht p (by rw [beq_eq] at k1; simpa using k1)
  simp at h1'
  have hagg : (isAgg ty).run P w = .ok false w := by
    unfold isAgg
    rw [Sem.run_bind, run_underlying hu w]
    cases td <;> simp_all [oneCellT]
  simp [h1', hp, asAddr, loadVar, hagg, load, Sem.run, hc]
end Go.Eng

/-
  The engine: strings as lists of bytes. Generic: no program.
-/
namespace Go.Eng
set_option linter.unusedVariables false
set_option linter.unusedSimpArgs false
open Go.RowKit

theorem str_size (l : List UInt8) : (str l).size = l.length := rfl
theorem str_of (s : ByteArray) : str s.data.toList = s := rfl
theorem str_append (a b : List UInt8) : str a ++ str b = str (a ++ b) := by
  apply ByteArray.ext
  simp [str]
theorem str_extract (l : List UInt8) (a b : Nat) : (str l).extract a b = str ((l.drop a).take (b - a)) := ByteArray.extract_mk l a b
/-- Ahead of, byte by byte. -/
abbrev bLt (a b : List UInt8) : Prop := Op.bytesLess a b = true
theorem bl_irrefl : ∀ a : List UInt8, ¬ bLt a a
  | [] => by simp [Op.bytesLess]
  | c :: a => by
    have := bl_irrefl a
    simp only [bLt, Bool.not_eq_true] at this
    simp [Op.bytesLess, this]
theorem bl_cons {x y : UInt8} {a b : List UInt8} : bLt (x :: a) (y :: b) ↔ x < y ∨ (x = y ∧ bLt a b) := by simp [bLt, Op.bytesLess]
theorem bl_nil_cons {y : UInt8} {b : List UInt8} : bLt [] (y :: b) := by simp [bLt, Op.bytesLess]
theorem bl_nil {a : List UInt8} : ¬ bLt a [] := by cases a <;> simp [bLt, Op.bytesLess]
theorem bl_trans : ∀ {a b c : List UInt8}, bLt a b → bLt b c → bLt a c
  | _, _, [], _, h => (bl_nil h).elim
  | _, [], _ :: _, h, _ => (bl_nil h).elim
  | [], _ :: _, _ :: _, _, _ => bl_nil_cons
  | x :: a, y :: b, z :: c, h, k => by
    rw [bl_cons] at h k ⊢
    rcases h with h | ⟨rfl, h⟩ <;> rcases k with k | ⟨rfl, k⟩
    · exact Or.inl (UInt8.lt_trans h k)
    · exact Or.inl h
    · exact Or.inl k
    · exact Or.inr ⟨rfl, bl_trans h k⟩
theorem bl_tri : ∀ (a b : List UInt8), bLt a b ∨ a = b ∨ bLt b a
  | [], [] => Or.inr (Or.inl rfl)
  | [], _ :: _ => Or.inl bl_nil_cons
  | _ :: _, [] => Or.inr (Or.inr bl_nil_cons)
  | x :: a, y :: b => by
    rw [bl_cons, bl_cons]
    rcases UInt8.lt_or_lt_of_ne (a := x) (b := y) |> fun h => Classical.em (x = y) |>.imp id h with h | h | h
    · subst h
      rcases bl_tri a b with h | h | h
      · exact Or.inl (Or.inr ⟨rfl, h⟩)
      · exact Or.inr (Or.inl (by rw [h]))
      · exact Or.inr (Or.inr (Or.inr ⟨rfl, h⟩))
    · exact Or.inl (Or.inl h)
    · exact Or.inr (Or.inr (Or.inl h))
theorem bl_asymm {a b : List UInt8} (h : bLt a b) : ¬ bLt b a := fun k => bl_irrefl a (bl_trans h k)
theorem bl_ne {a b : List UInt8} (h : bLt a b) : a ≠ b := by rintro rfl; exact bl_irrefl _ h
section
variable {P : Program} {ρ : Operand → Value} {w : World} {d : Option Tmp} {t : TypeId} {pos : String} {af : Array Edge} {g : Option (Nat × Bool)} {x y z : Operand} {xt yt : TypeId} {a b l : List UInt8}
theorem rt_eql (hx : ρ x = .string (str a)) (hy : ρ y = .string (str b)) : (execOp ρ ⟨d, .binOp .eql xt x y yt, t, pos, af, g⟩).run P w = .ok (.value (.bool (decide (a = b)))) w := by
  rw [rs_eql hx hy]; congr 3; simp [str_eq]
theorem rt_neq (hx : ρ x = .string (str a)) (hy : ρ y = .string (str b)) : (execOp ρ ⟨d, .binOp .neq xt x y yt, t, pos, af, g⟩).run P w = .ok (.value (.bool (decide (a ≠ b)))) w := by
  rw [rs_neq hx hy]; congr 3; simp [str_eq]
theorem rt_lss (hx : ρ x = .string (str a)) (hy : ρ y = .string (str b)) : (execOp ρ ⟨d, .binOp .lss xt x y yt, t, pos, af, g⟩).run P w = .ok (.value (.bool (decide (bLt a b)))) w := by
  rw [rs_lss hx hy, str_list, str_list]
theorem bl_le {a b : List UInt8} : (Op.bytesLess a b || a == b) = decide (¬ bLt b a) := by
  rcases bl_tri a b with h | h | h
  · have h' : Op.bytesLess a b = true := h
    simp [h', bl_asymm h]
  · subst h; simp [bl_irrefl]
  · have h1 : ¬ bLt a b := bl_asymm h
    have h2 : a ≠ b := (bl_ne h).symm
    simp only [bLt, Bool.not_eq_true] at h1
    simp [h1, h2, h]
theorem rt_leq (hx : ρ x = .string (str a)) (hy : ρ y = .string (str b)) : (execOp ρ ⟨d, .binOp .leq xt x y yt, t, pos, af, g⟩).run P w = .ok (.value (.bool (decide (¬ bLt b a)))) w := by
  have := bl_le (a := a) (b := b)
  simp [execOp, hx, hy, eqGuard, binOp, Op.stringOp, str_list, this]
theorem rt_gtr (hx : ρ x = .string (str a)) (hy : ρ y = .string (str b)) : (execOp ρ ⟨d, .binOp .gtr xt x y yt, t, pos, af, g⟩).run P w = .ok (.value (.bool (decide (bLt b a)))) w := by
  have := bl_le (a := a) (b := b)
  have h2 : (!(Op.bytesLess a b || a == b)) = decide (bLt b a) := by rw [this]; simp
  simp only [execOp, hx, hy, eqGuard, binOp, Op.stringOp, str_list]
  simp [h2]
theorem rt_geq (hx : ρ x = .string (str a)) (hy : ρ y = .string (str b)) : (execOp ρ ⟨d, .binOp .geq xt x y yt, t, pos, af, g⟩).run P w = .ok (.value (.bool (decide (¬ bLt a b)))) w := by
  simp [execOp, hx, hy, eqGuard, binOp, Op.stringOp, str_list]
theorem rt_add (hx : ρ x = .string (str a)) (hy : ρ y = .string (str b)) (hl : a.length + b.length ≤ 9223372036854775807) : (execOp ρ ⟨d, .binOp .add xt x y yt, t, pos, af, g⟩).run P w = .ok (.value (.string (str (a ++ b)))) w := by
  have h : ¬ (((str a).size + (str b).size : Nat) : Int) > IntKind.i64.max := by
    rw [str_size, str_size]
    show ¬ _ > (9223372036854775807 : Int)
    omega
  simp only [execOp, hx, hy, eqGuard, binOp, Op.stringOp]
  have hl' : (((str a).size : Nat) : Int) + (((str b).size : Nat) : Int) ≤ 9223372036854775807 := by rw [str_size, str_size]; omega
  simp [h, str_append]
  exact hl'
theorem rt_len {ty : TypeId} (hx : ρ x = .string (str l)) (hu : P.underlying ty = some .string) :
    (execOp ρ ⟨d, .call { callee := .builtin .len, args := #[x], argTypes := #[ty] }, t, pos, af, g⟩).run P w = .ok (.value (.int .i64 l.length)) w := r_len_string hx hu
theorem rt_sliceHi {ty : TypeId} {k : IntKind} {j : Nat} (hx : ρ x = .string (str l)) (hy : ρ y = .int k j) (hu : P.underlying ty = some .string) (hj : j ≤ l.length) :
    (execOp ρ ⟨d, .slice ty x none (some y) none, t, pos, af, g⟩).run P w = .ok (.value (.string (str (l.take j)))) w := by
  have : j ≤ (str l).size := by rw [str_size]; exact hj
  simp [execOp, hx, hy, Instr.sliceAt, Instr.slice, run_underlying hu, Instr.sliceBounds, Instr.sliceBound, asIntOf, this, str_extract]
theorem rt_sliceLo {ty : TypeId} {k : IntKind} {i : Nat} (hx : ρ x = .string (str l)) (hy : ρ y = .int k i) (hu : P.underlying ty = some .string) (hi : i ≤ l.length) :
    (execOp ρ ⟨d, .slice ty x (some y) none none, t, pos, af, g⟩).run P w = .ok (.value (.string (str (l.drop i)))) w := by
  have h1 : i ≤ (str l).size := by rw [str_size]; exact hi
  have h2 : (l.drop i).take ((str l).size - i) = l.drop i := List.take_of_length_le (by rw [str_size]; simp)
  simp [execOp, hx, hy, Instr.sliceAt, Instr.slice, run_underlying hu, Instr.sliceBounds, Instr.sliceBound, asIntOf, h1, str_extract, h2]
theorem rt_sliceLoHi {ty : TypeId} {k k' : IntKind} {i j : Nat} (hx : ρ x = .string (str l)) (hy : ρ y = .int k i) (hz : ρ z = .int k' j) (hu : P.underlying ty = some .string) (hi : i ≤ j) (hj : j ≤ l.length) :
    (execOp ρ ⟨d, .slice ty x (some y) (some z) none, t, pos, af, g⟩).run P w = .ok (.value (.string (str ((l.drop i).take (j - i))))) w := by
  have h1 : j ≤ (str l).size := by rw [str_size]; exact hj
  simp [execOp, hx, hy, hz, Instr.sliceAt, Instr.slice, run_underlying hu, Instr.sliceBounds, Instr.sliceBound, asIntOf, h1, hi, str_extract]
theorem rt_index {ty : TypeId} {k : IntKind} {i : Nat} (hx : ρ x = .string (str l)) (hy : ρ y = .int k i) (hu : P.underlying ty = some .string) (hi : i < l.length) :
    (execOp ρ ⟨d, .index ty x y, t, pos, af, g⟩).run P w = .ok (.value (.int .u8 (l[i].toNat : Nat))) w := by
  have h : (str l)[i]? = some l[i] := by
    show (if h : i < (str l).size then some ((str l)[i]) else none) = _
    rw [dif_pos (by rw [str_size]; exact hi)]
    rfl
  simp [execOp, hx, hy, Instr.index, asIntOf, run_underlying hu, h]
/-- The bytes of a slice, as a string. -/
theorem rt_str {st dt el : TypeId} {A : Option Addr} {c : Nat} {F : Nat → Prop} (hx : ρ x = .slice A l.length c) (hs : P.underlying st = some (.slice el)) (he : P.underlying el = some (.int .u8)) (hd : P.underlying dt = some .string) (hR : Ty.byte.Row w F A l) :
    (execOp ρ ⟨d, .convert st dt x, t, pos, af, g⟩).run P w = .ok (.value (.string (str l))) w := r_str hx hs he hd hR
end
section
variable {P : Program} {n : Nat} {N : Env → World → Prop} {X : Exit → Env → World → Prop} {e : Env} {w : World} {ops : Array Oper} {rest : List Oper} {d : Option Tmp} {t : TypeId} {pos : String} {af : Array Edge}
/-- '[]byte(s)': new bytes. -/
theorem op_bytes {x : Operand} {st dt el : TypeId} {l : List UInt8} (hd : dOk n d = true) (hx : ev e x = .string (str l)) (hs : P.underlying st = some .string) (hu : P.underlying dt = some (.slice el)) (he : P.underlying el = some (.int .u8))
    (h : ∀ w' b c, Ext w w' → w.heap.size = b → b < w'.heap.size → l.length ≤ c → Ty.byte.Row w' (fun g => g = b) (some ⟨b, 0, none⟩) l → WL P n ops N X rest (putO e d (.slice (some ⟨b, 0, none⟩) l.length c)) w') : WL P n ops N X (⟨d, .convert st dt x, t, pos, af, none⟩ :: rest) e w := by
  have hr := run_bytes_of_string (P := P) w st dt el (str l) hs hu he
  have hc : (str l).size ≤ grownCap w (str l).size 0 el := grownCap_ge w _ 0 el
  refine op hd (v := .slice (some ⟨w.heap.size, 0, none⟩) (str l).size (grownCap w (str l).size 0 el)) (w' := w.drew.alloc (.cells (bytesRow (str l) (grownCap w (str l).size 0 el)) el ((bytesRow (str l) (grownCap w (str l).size 0 el)).size, (bytesRow (str l) (grownCap w (str l).size 0 el)).size + 1))) ?_ (h _ _ _ ((Ext.drew (Ext.refl w)).of_alloc _) rfl ?_ hc ?_)
  · simp only [execOp, hx]
    rw [Sem.run_bind, hr]
    rfl
  · show w.heap.size < (w.heap.push _).size
    simp
  · generalize grownCap w (str l).size 0 el = cap at *
    refine Or.inr ⟨w.heap.size, 0, _, el, _, rfl, rfl, heap_alloc_new w.drew _, fun i hi => ⟨[.int .u8 (l[i].toNat : Nat)], ⟨rfl, trivial⟩, fun j hj => ?_⟩⟩
    obtain rfl : j = 0 := by simpa [Ty.byte, Ty.scalar] using hj
    have := bytesRow_at (str l) cap i (by simpa [str] using hi)
    simp only [Ty.byte, Ty.scalar, Nat.zero_add, Nat.mul_one, Nat.add_zero, List.getElem?_cons_zero]
    rw [this]
    rfl
end
section
variable {P : Program} {ρ : Operand → Value} {w : World} {d : Option Tmp} {t : TypeId} {pos : String} {af : Array Edge} {g : Option (Nat × Bool)} {x y : Operand} {l : List UInt8}
/-- Where a byte is: the machine's own. -/
theorem r_indexByteS {f : FuncId} {fn : Func} {c : UInt8} {ts : Array TypeId} (hf : P.funcs[f]? = some fn) (hn : (fn.name == "runtime.NumGoroutine") = false) (hb : fn.body.isNone = true) (h1 : Extern.findNext fn = none) (h2 : Extern.find fn = some Extern.BytealgIndexByte.indexByte)
    (hx : ρ x = .string (str l)) (hy : ρ y = .int .u8 (c.toNat : Nat)) (hfn : ρ (.func f) = .func (.func f) #[] #[]) :
    (execOp ρ ⟨d, .call { callee := .value (.func f), args := #[x, y], argTypes := ts }, t, pos, af, g⟩).run P w = .ok (.value (.int .i64 (Lib.indexByte l c))) w := by
  have hc := run_callFunc_extern (P := P) hf hn hb h1 h2 #[.string (str l), .int .u8 (c.toNat : Nat)] w
  rw [Lib.run_indexByteString] at hc
  have e : ((c.toNat : Nat) : Int).toNat.toUInt8 = c := by simp
  rw [e] at hc
  have : execOp ρ ⟨d, .call { callee := .value (.func f), args := #[x, y], argTypes := ts }, t, pos, af, g⟩ = callFunc f #[.string (str l), .int .u8 (c.toNat : Nat)] := by
    simp [execOp, resolve, hfn, invoke, go_sem, hx, hy]
  rw [this, hc]
  rfl
end
end Go.Eng

/-
  The engine: rows of elements as they lie, cell by cell; copy, append of zeros, clear. Generic: no program.
-/
namespace Go.Eng
set_option linter.unusedVariables false
set_option linter.unusedSimpArgs false
open Go.RowKit

def Raw (n : Nat) (r : List Value) : Prop := r.length = n ∧ ∀ u ∈ r, u.oneCell' = true
/-- Elements that are so many cells. -/
def rawT (n : Nat) : Ty (List Value) where
  sz := n
  R := fun _ _ x cs => cs = x ∧ Raw n x
  len := by rintro _ _ _ _ ⟨rfl, h⟩; exact h.1
  one := by rintro _ _ _ _ ⟨rfl, h⟩; exact h.2
  keep := fun h _ _ => h
theorem flat_raw {n : Nat} : Flat (rawT n) := fun h => h
/-- Each one its own. -/
def Al {α β : Type} (R : α → β → Prop) : List α → List β → Prop
  | [], [] => True
  | x :: l, y :: m => R x y ∧ Al R l m
  | _, _ => False
section
variable {α β : Type} {R S : α → β → Prop}
theorem Al.len : ∀ {l : List α} {m : List β}, Al R l m → l.length = m.length
  | [], [], _ => rfl
  | x :: l, y :: m, h => by simp [h.2.len]
  | [], _ :: _, h => h.elim
  | _ :: _, [], h => h.elim
theorem Al.of : ∀ {l : List α} {m : List β}, l.length = m.length → (∀ i (h : i < l.length) (h' : i < m.length), R l[i] m[i]) → Al R l m
  | [], [], _, _ => trivial
  | x :: l, y :: m, h, k => ⟨k 0 (by simp) (by simp), Al.of (by simpa using h) (fun i h1 h2 => by have := k (i + 1) (by simpa using h1) (by simpa using h2); simpa using this)⟩
  | [], _ :: _, h, _ => by simp at h
  | _ :: _, [], h, _ => by simp at h
theorem Al.get : ∀ {l : List α} {m : List β}, Al R l m → ∀ i (h : i < l.length) (h' : i < m.length), R l[i] m[i]
  | x :: l, y :: m, h, 0, _, _ => h.1
  | x :: l, y :: m, h, i + 1, h1, h2 => by have := h.2.get i (by simpa using h1) (by simpa using h2); simpa using this
  | _ :: _, [], h, _, _, _ => h.elim
  | [], _, _, i, h, _ => absurd h (by simp)
theorem Al.imp (k : ∀ x y, R x y → S x y) : ∀ {l : List α} {m : List β}, Al R l m → Al S l m
  | [], [], _ => trivial
  | x :: l, y :: m, h => ⟨k _ _ h.1, h.2.imp k⟩
  | [], _ :: _, h => h.elim
  | _ :: _, [], h => h.elim
theorem Al.app : ∀ {l l' : List α} {m m' : List β}, Al R l m → Al R l' m' → Al R (l ++ l') (m ++ m')
  | [], _, [], _, _, k => k
  | x :: l, _, y :: m, _, h, k => ⟨h.1, h.2.app k⟩
  | [], _, _ :: _, _, h, _ => h.elim
  | _ :: _, _, [], _, h, _ => h.elim
theorem Al.take : ∀ {l : List α} {m : List β} (i : Nat), Al R l m → Al R (l.take i) (m.take i)
  | [], [], _, _ => by simp [Al]
  | x :: l, y :: m, 0, h => by simp [Al]
  | x :: l, y :: m, i + 1, h => ⟨h.1, h.2.take i⟩
  | [], _ :: _, _, h => h.elim
  | _ :: _, [], _, h => h.elim
theorem Al.drop : ∀ {l : List α} {m : List β} (i : Nat), Al R l m → Al R (l.drop i) (m.drop i)
  | [], [], _, _ => by simp [Al]
  | x :: l, y :: m, 0, h => h
  | x :: l, y :: m, i + 1, h => h.2.drop i
  | [], _ :: _, _, h => h.elim
  | _ :: _, [], _, h => h.elim
theorem Al.filter {p : α → Bool} {q : β → Bool} (k : ∀ x y, R x y → p x = q y) : ∀ {l : List α} {m : List β}, Al R l m → Al R (l.filter p) (m.filter q)
  | [], [], _ => trivial
  | x :: l, y :: m, h => by
    simp only [List.filter, k _ _ h.1]
    cases q y
    · exact h.2.filter k
    · exact ⟨h.1, h.2.filter k⟩
  | [], _ :: _, h => h.elim
  | _ :: _, [], h => h.elim
theorem Al.all {p : α → Bool} {q : β → Bool} (k : ∀ x y, R x y → p x = q y) : ∀ {l : List α} {m : List β}, Al R l m → l.any p = m.any q
  | [], [], _ => rfl
  | x :: l, y :: m, h => by simp [List.any, k _ _ h.1, h.2.all k]
  | [], _ :: _, h => h.elim
  | _ :: _, [], h => h.elim
theorem Al.findIdx {p : α → Bool} {q : β → Bool} (k : ∀ x y, R x y → p x = q y) : ∀ {l : List α} {m : List β}, Al R l m → l.findIdx p = m.findIdx q
  | [], [], _ => rfl
  | x :: l, y :: m, h => by simp [List.findIdx_cons, k _ _ h.1, h.2.findIdx k]
  | [], _ :: _, h => h.elim
  | _ :: _, [], h => h.elim
theorem Al.mem {y : β} : ∀ {l : List α} {m : List β}, Al R l m → y ∈ m → ∃ x ∈ l, R x y
  | [], [], _, h => by cases h
  | x :: l, z :: m, h, k => by
    rcases List.mem_cons.1 k with rfl | k
    · exact ⟨x, by simp, h.1⟩
    · obtain ⟨x', h1, h2⟩ := h.2.mem k
      exact ⟨x', by simp [h1], h2⟩
  | [], _ :: _, h, _ => h.elim
  | _ :: _, [], h, _ => h.elim
theorem Al.meml {x : α} : ∀ {l : List α} {m : List β}, Al R l m → x ∈ l → ∃ y ∈ m, R x y
  | [], [], _, h => by cases h
  | z :: l, y :: m, h, k => by
    rcases List.mem_cons.1 k with rfl | k
    · exact ⟨y, by simp, h.1⟩
    · obtain ⟨x', h1, h2⟩ := h.2.meml k
      exact ⟨x', by simp [h1], h2⟩
  | [], _ :: _, h, _ => h.elim
  | _ :: _, [], h, _ => h.elim
end
section
variable {α : Type} {T : Ty α} {w w' : World} {F F' : Nat → Prop} {n : Nat}
theorem cat_raw : ∀ {rs : List (List Value)} {xs : List Value}, Cat (rawT n) w F rs xs ↔ xs = rs.flatten ∧ ∀ r ∈ rs, Raw n r
  | [], xs => by simp [Cat]
  | r :: rs, xs => by
    constructor
    · rintro ⟨c, r', rfl, ⟨rfl, h1⟩, h2⟩
      obtain ⟨rfl, h3⟩ := cat_raw.1 h2
      exact ⟨rfl, fun x hx => (List.mem_cons.1 hx).elim (fun e => e ▸ h1) (h3 x)⟩
    · rintro ⟨rfl, h⟩
      exact ⟨r, rs.flatten, rfl, ⟨rfl, h r (by simp)⟩, cat_raw.2 ⟨rfl, fun x hx => h x (by simp [hx])⟩⟩
theorem Ty.rawOf {x : α} {r : List Value} (h : T.R w F x r) : Raw T.sz r := ⟨T.len h, T.one h⟩
theorem cat_split : ∀ {l : List α} {xs : List Value}, Cat T w F l xs → ∃ rs, Al (T.R w F) l rs ∧ xs = rs.flatten
  | [], _, h => ⟨[], trivial, h⟩
  | x :: l, _, ⟨c, r, rfl, h1, h2⟩ => by
    obtain ⟨rs, h3, rfl⟩ := cat_split h2
    exact ⟨c :: rs, ⟨h1, h3⟩, rfl⟩
theorem cat_join : ∀ {l : List α} {rs : List (List Value)}, Al (T.R w F) l rs → Cat T w F l rs.flatten
  | [], [], _ => rfl
  | x :: l, r :: rs, h => ⟨r, rs.flatten, rfl, h.1, cat_join h.2⟩
  | [], _ :: _, h => h.elim
  | _ :: _, [], h => h.elim
theorem Al.raw {l : List α} {rs : List (List Value)} (h : Al (T.R w F) l rs) : ∀ r ∈ rs, Raw T.sz r := fun r hr => by
  obtain ⟨x, _, hx⟩ := h.mem hr
  exact Ty.rawOf hx
theorem Own.raw {B : Nat} {e : TypeId} {v : Value} {l : List α} (h : Own T w F B e v l) : ∃ rs, Al (T.R w F) l rs ∧ Own (rawT T.sz) w (fun _ => False) B e v rs := by
  rcases h with ⟨rfl, rfl⟩ | ⟨g, cap, c, xs, rfl, h1, h2, h3, h4, h5, h6⟩
  · exact ⟨[], trivial, .nil⟩
  · obtain ⟨rs, ha, rfl⟩ := cat_split h5
    have hl := ha.len
    exact ⟨rs, ha, Or.inr ⟨g, cap, c, rs.flatten, by rw [hl], h1, h2, by omega, h4, cat_raw.2 ⟨rfl, ha.raw⟩, by rw [← hl]; exact h6⟩⟩
theorem Own.of_raw {B : Nat} {e : TypeId} {v : Value} {l : List α} {rs : List (List Value)} {F' : Nat → Prop} (h : Own (rawT T.sz) w F' B e v rs) (ha : Al (T.R w F) l rs) : Own T w F B e v l := by
  have hl := ha.len
  rcases h with ⟨rfl, rfl⟩ | ⟨g, cap, c, xs, rfl, h1, h2, h3, h4, h5, h6⟩
  · cases l with
    | nil => exact .nil
    | cons _ _ => exact ha.elim
  · obtain ⟨rfl, _⟩ := cat_raw.1 h5
    exact Or.inr ⟨g, cap, c, _, by rw [hl], h1, h2, by omega, h4, cat_join ha, by rw [hl]; exact h6⟩
theorem Row.raw {A : Option Addr} {l : List α} (h : T.Row w F A l) : ∃ rs, Al (T.R w F) l rs ∧ (rawT T.sz).Row w F A rs := by
  rcases h with rfl | ⟨g, off, c, t, fr, rfl, hg, hb, hr⟩
  · exact ⟨[], trivial, Or.inl rfl⟩
  · have hex : ∀ i (h : i < l.length), ∃ xs, T.R w F l[i] xs ∧ ∀ j, j < T.sz → c[off + i * T.sz + j]? = xs[j]? := hr
    refine ⟨List.ofFn (fun i : Fin l.length => Classical.choose (hex i.1 i.2)), Al.of (by simp) (fun i h h' => ?_), Or.inr ⟨g, off, c, t, fr, rfl, hg, hb, fun i hi => ?_⟩⟩
    · rw [List.getElem_ofFn]; exact (Classical.choose_spec (hex i h)).1
    · have hi' : i < l.length := by simpa using hi
      rw [List.getElem_ofFn]
      exact ⟨_, ⟨rfl, Ty.rawOf (Classical.choose_spec (hex i hi')).1⟩, (Classical.choose_spec (hex i hi')).2⟩
theorem Row.of_raw {A : Option Addr} {l : List α} {rs : List (List Value)} (h : (rawT T.sz).Row w F A rs) (ha : Al (T.R w F) l rs) : T.Row w F A l := by
  have hl := ha.len
  rcases h with rfl | ⟨g, off, c, t, fr, rfl, hg, hb, hr⟩
  · cases l with
    | nil => exact Or.inl rfl
    | cons _ _ => exact ha.elim
  · refine Or.inr ⟨g, off, c, t, fr, rfl, hg, hb, fun i hi => ?_⟩
    obtain ⟨xs, ⟨rfl, _⟩, h2⟩ := hr i (by omega)
    exact ⟨_, ha.get i hi (by omega), h2⟩
/-- What is one's own, cell by cell. -/
theorem Own.cells {B : Nat} {e : TypeId} {v : Value} {rs : List (List Value)} (h : Own (rawT n) w F B e v rs) (hne : rs ≠ []) :
    ∃ g cap c, v = .slice (some ⟨g, 0, none⟩) rs.length cap ∧ B ≤ g ∧ Blk w g c e ∧ rs.length ≤ cap ∧ c.size = cap * n ∧ (∀ r ∈ rs, Raw n r) ∧ c.toList.take (rs.length * n) = rs.flatten := by
  rcases h with ⟨_, rfl⟩ | ⟨g, cap, c, xs, rfl, h1, h2, h3, h4, h5, h6⟩
  · exact absurd rfl hne
  · obtain ⟨rfl, h7⟩ := cat_raw.1 h5
    exact ⟨g, cap, c, rfl, h1, h2, h3, h4, h7, h6⟩
theorem Own.mkCells {B g cap k : Nat} {e : TypeId} {c : Array Value} {rs : List (List Value)} (h1 : B ≤ g) (h2 : Blk w g c e) (hk : k = rs.length) (h3 : rs.length ≤ cap) (h4 : c.size = cap * n) (h5 : ∀ r ∈ rs, Raw n r) (h6 : c.toList.take (rs.length * n) = rs.flatten) :
    Own (rawT n) w F B e (.slice (some ⟨g, 0, none⟩) k cap) rs := by
  subst hk
  exact Or.inr ⟨g, cap, c, _, rfl, h1, h2, h3, h4, cat_raw.2 ⟨rfl, h5⟩, h6⟩
theorem raw_flat : ∀ {rs : List (List Value)}, (∀ r ∈ rs, Raw n r) → rs.flatten.length = rs.length * n
  | [], _ => by simp
  | r :: rs, h => by
    rw [List.flatten_cons, List.length_append, raw_flat (fun x hx => h x (by simp [hx])), (h r (by simp)).1, List.length_cons, Nat.add_mul]
    omega
theorem raw_one {rs : List (List Value)} (h : ∀ r ∈ rs, Raw n r) : ∀ u ∈ rs.flatten, u.oneCell' = true := fun u hu => by
  obtain ⟨r, hr, hu⟩ := List.mem_flatten.1 hu
  exact (h r hr).2 u hu
theorem raw_take {rs : List (List Value)} (h : ∀ r ∈ rs, Raw n r) (i : Nat) (hi : i ≤ rs.length) : (rs.take i).flatten = rs.flatten.take (i * n) := by
  have e : rs.flatten = (rs.take i).flatten ++ (rs.drop i).flatten := by rw [← List.flatten_append, List.take_append_drop]
  have hl : (rs.take i).flatten.length = i * n := by
    rw [raw_flat (fun r hr => h r (List.mem_of_mem_take hr)), List.length_take, Nat.min_eq_left hi]
  rw [e, ← hl, List.take_left]
theorem raw_drop {rs : List (List Value)} (h : ∀ r ∈ rs, Raw n r) (i : Nat) (hi : i ≤ rs.length) : (rs.drop i).flatten = rs.flatten.drop (i * n) := by
  have e : rs.flatten = (rs.take i).flatten ++ (rs.drop i).flatten := by rw [← List.flatten_append, List.take_append_drop]
  have hl : (rs.take i).flatten.length = i * n := by
    rw [raw_flat (fun r hr => h r (List.mem_of_mem_take hr)), List.length_take, Nat.min_eq_left hi]
  rw [e, ← hl, List.drop_left]
/-- Where an element that is one's own lies. -/
theorem Own.rawAt {B : Nat} {e : TypeId} {v : Value} {rs : List (List Value)} (h : Own (rawT n) w F B e v rs) {i : Nat} (hi : i < rs.length) :
    ∃ g cap, v = .slice (some ⟨g, 0, none⟩) rs.length cap ∧ B ≤ g ∧ v.ownBlock = some g ∧ ∀ j, j < n → w.cell? ⟨g, i * n + j, none⟩ = rs[i][j]? := by
  obtain ⟨A, cap, rfl, hc, hrow⟩ := h.read
  obtain ⟨g, off, xs, rfl, hg, ⟨rfl, _⟩, hcell⟩ := hrow.cells hi
  rcases h with ⟨h, _⟩ | ⟨g', cap', c, ys, hv, h1, _⟩
  · cases h
  · simp only [Value.slice.injEq, Option.some.injEq, Addr.mk.injEq] at hv
    obtain ⟨⟨rfl, rfl, _⟩, _, rfl⟩ := hv
    exact ⟨g, cap, rfl, h1, rfl, fun j hj => by have := hcell j hj; simpa [rawT] using this⟩
end
theorem Own.none0 {w : World} {n B g : Nat} {e : TypeId} {F : Nat → Prop} (h1 : B ≤ g) (h2 : Blk w g #[] e) : Own (rawT n) w F B e (.slice (some ⟨g, 0, none⟩) 0 0) [] :=
  Own.mkCells (c := #[]) h1 h2 rfl (Nat.le_refl _) (by simp) (by simp) (by simp)
theorem Chg.trans {g : Nat} {a b c : World} (h : Chg g a b) (k : Chg g b c) : Chg g a c :=
  ⟨k.os.trans h.os, k.tape.trans h.tape, k.output.trans h.output, Nat.le_trans h.size k.size, fun i hi hne => (k.block i (Nat.lt_of_lt_of_le hi h.size) hne).trans (h.block i hi hne)⟩
theorem Chg.of_ext {g : Nat} {a b : World} (h : Ext a b) : Chg g a b := ⟨h.os, h.tape, h.output, h.size, fun i hi _ => h.block i hi⟩
theorem flatten_set {n : Nat} : ∀ {rs : List (List Value)} {i j : Nat} {u : Value}, (∀ r ∈ rs, Raw n r) → (hi : i < rs.length) → j < n → (rs.set i (rs[i].set j u)).flatten = rs.flatten.set (i * n + j) u
  | r :: rs, 0, j, u, h, _, hj => by
    have h0 := (h r (by simp)).1
    simp only [List.set_cons_zero, List.flatten_cons, Nat.zero_mul, Nat.zero_add, List.getElem_cons_zero]
    rw [List.set_append_left _ _ (by omega)]
  | r :: rs, i + 1, j, u, h, hi, hj => by
    have h0 := (h r (by simp)).1
    have ih := flatten_set (rs := rs) (i := i) (j := j) (u := u) (fun x hx => h x (by simp [hx])) (by simpa using hi) hj
    simp only [List.set_cons_succ, List.flatten_cons, List.getElem_cons_succ]
    rw [ih, List.set_append_right _ _ (by rw [h0, Nat.add_mul]; omega), h0]
    congr 2
    rw [Nat.add_mul]; omega
/-- One cell of an element that is one's own is set. -/
theorem Own.setCell {w : World} {F : Nat → Prop} {n B : Nat} {e : TypeId} {v : Value} {rs : List (List Value)} (h : Own (rawT n) w F B e v rs) {i j : Nat} (hi : i < rs.length) (hj : j < n) {u : Value} (hu : u.oneCell' = true) :
    ∃ g cap c, v = .slice (some ⟨g, 0, none⟩) rs.length cap ∧ B ≤ g ∧ Blk w g c e ∧ i * n + j < c.size ∧ ∀ w', Chg g w w' → Blk w' g (c.setIfInBounds (i * n + j) u) e → Own (rawT n) w' F B e v (rs.set i (rs[i].set j u)) := by
  obtain ⟨g, cap, c, rfl, h1, h2, h3, h4, h5, h6⟩ := h.cells (fun q => by rw [q] at hi; simp at hi)
  have hle : (i + 1) * n ≤ cap * n := Nat.mul_le_mul_right _ (by omega)
  rw [Nat.add_mul, Nat.one_mul] at hle
  refine ⟨g, cap, c, rfl, h1, h2, by omega, fun w' hC hb => Own.mkCells h1 hb (by simp) (by simpa using h3) (by simpa using h4) ?_ ?_⟩
  · intro r hr
    rcases List.mem_or_eq_of_mem_set hr with hr | rfl
    · exact h5 r hr
    · have h0 := h5 rs[i] (List.getElem_mem hi)
      refine ⟨by rw [List.length_set]; exact h0.1, fun x hx => ?_⟩
      rcases List.mem_or_eq_of_mem_set hx with hx | rfl
      · exact h0.2 x hx
      · exact hu
  · rw [flatten_set h5 hi hj, ← h6, List.length_set, Array.toList_setIfInBounds, List.take_set]
theorem ext_row {w w' : World} {g o n : Nat} {cs : List Value} (h : Ext w w') (hl : cs.length = n) (hc : ∀ j, j < n → w.cell? ⟨g, o + j, none⟩ = cs[j]?) : ∀ j, j < n → w'.cell? ⟨g, o + j, none⟩ = cs[j]? := fun j hj => by
  have := hc j hj
  rw [List.getElem?_eq_getElem (by omega)] at this ⊢
  exact ext_cell h this
/-! copy, clear, append -/
section
variable {P : Program}
theorem run_copyN (w : World) (dT sT ty elem : TypeId) (g o dLen dCap sz : Nat) (a : Addr) (sLen sCap : Nat) (cur : Array Value) (t : TypeId) (cs : List Value)
    (hu : P.underlying dT = some (.slice elem)) (hs : (P.info? elem).map (·.size) = some sz)
    (hg : Blk w g cur t) (hn : cs.length = Nat.min sLen dLen * sz)
    (hsrc : ∀ j v, cs[j]? = some v → w.cell? (a.add j) = some v) (hfit : o + cs.length ≤ cur.size) (h1 : ∀ v ∈ cs, v.oneCell' = true) :
    (Builtin.copy_ #[dT, sT] ty #[.slice (some ⟨g, o, none⟩) dLen dCap, .slice (some a) sLen sCap]).run P w =
      .ok (.int .i64 (Nat.min sLen dLen : Nat)) (w.setRow g (cur.toList.take o ++ cs ++ cur.toList.drop (o + cs.length)).toArray) := by
  have hl := run_loadCells_list (P := P) w a cs hsrc
  have hst := run_storeCells_at P g o t cs 0 cur w hg (by simpa using hfit) h1
  cases hq : P.info? elem with
  | none => simp [hq] at hs
  | some i =>
    have hi : i.size = sz := by simpa [hq] using hs
    simp [Builtin.copy_, run_underlying hu, Builtin.lenOf, Builtin.firstCells, sizeOf, typeInfo, hq, hi, ← hn, hl, hst, goInt]
theorem run_clearN (w : World) (t e ty : TypeId) {z : Value} {sz : Nat} (hu : P.underlying t = some (.slice e)) (hz : (P.info? e).bind (·.zero) = some z) (hzs : z.cells.size = sz) (hz1 : z.cells.toList.all (·.oneCell') = true) {g o m cap : Nat} {cur : Array Value} {tb : TypeId}
    (hb : Blk w g cur tb) (hm : 0 < m) (hfit : o + m * sz ≤ cur.size) :
    (Builtin.clear_ #[t] ty #[.slice (some ⟨g, o, none⟩) m cap]).run P w = .ok (.tuple #[]) (w.setRow g (cur.toList.take o ++ (Builtin.zeroCells z.cells m).toList ++ cur.toList.drop (o + m * sz)).toArray) := by
  have hzl : (Builtin.zeroCells z.cells m).toList.length = m * sz := by rw [Array.length_toList, size_zeroCells, hzs]
  have hone : ∀ v ∈ (Builtin.zeroCells z.cells m).toList, v.oneCell' = true := by
    intro v hv
    simp only [Builtin.zeroCells, Array.toList_map, List.mem_map] at hv
    obtain ⟨i, hi, rfl⟩ := hv
    by_cases h0 : z.cells.size = 0
    · rw [h0] at hi; simp at hi
    · have hlt : i % z.cells.size < z.cells.size := Nat.mod_lt _ (by omega)
      rw [getElem!_pos z.cells _ hlt]
      exact List.all_eq_true.1 hz1 _ (by rw [← Array.getElem_toList]; exact List.getElem_mem _)
  have hst := run_storeCells_at P g o tb (Builtin.zeroCells z.cells m).toList 0 cur w hb (by rw [hzl]; simpa using hfit) hone
  simp only [Nat.add_zero, hzl] at hst
  cases hq : P.info? e with
  | none => simp [hq] at hz
  | some inf =>
    have hz' : inf.zero = some z := by simpa [hq] using hz
    have hzv : (zeroValue e).run P w = .ok z w := by simp [zeroValue, typeInfo, hq, hz']
    obtain ⟨k, rfl⟩ : ∃ k, m = k + 1 := ⟨m - 1, by omega⟩
    simp [Builtin.clear_, run_underlying hu, hzv, hst]
theorem append_types (w : World) (t t2 ty e e2 : TypeId) (a b : Value) (h1 : P.underlying t = some (.slice e)) (h2 : P.underlying t2 = some (.slice e2)) {i : TypeInfo} (hi : P.info? e = some i) : (Builtin.append_ #[t, t2] ty #[a, b]).run P w = (Builtin.append_ #[t, t] ty #[a, b]).run P w := by
  cases a <;> simp [Builtin.append_, run_underlying h1, run_underlying h2, sizeOf, typeInfo, hi]
end
section
variable {P : Program} {ρ : Operand → Value} {w : World} {d : Option Tmp} {t : TypeId} {pos : String} {af : Array Edge} {g' : Option (Nat × Bool)}
theorem r_copyN {x y : Operand} {dT sT elem : TypeId} {g o dLen dCap sz sLen sCap : Nat} {a : Addr} {cur : Array Value} {tb : TypeId} {cs : List Value} (hx : ρ x = .slice (some ⟨g, o, none⟩) dLen dCap) (hy : ρ y = .slice (some a) sLen sCap)
    (hu : P.underlying dT = some (.slice elem)) (hs : (P.info? elem).map (·.size) = some sz) (hg : Blk w g cur tb) (hn : cs.length = Nat.min sLen dLen * sz)
    (hsrc : ∀ j v, cs[j]? = some v → w.cell? (a.add j) = some v) (hfit : o + cs.length ≤ cur.size) (h1 : ∀ v ∈ cs, v.oneCell' = true) :
    (execOp ρ ⟨d, .call { callee := .builtin .copy, args := #[x, y], argTypes := #[dT, sT] }, t, pos, af, g'⟩).run P w = .ok (.value (.int .i64 (Nat.min sLen dLen : Nat))) (w.setRow g (cur.toList.take o ++ cs ++ cur.toList.drop (o + cs.length)).toArray) := by
  have := run_copyN w dT sT t elem g o dLen dCap sz a sLen sCap cur tb cs hu hs hg hn hsrc hfit h1
  simp [execOp, resolve, invoke, builtin, hx, hy, this]
theorem r_clearN {x : Operand} {mt e : TypeId} {z : Value} {sz g o m cap : Nat} {cur : Array Value} {tb : TypeId} (hx : ρ x = .slice (some ⟨g, o, none⟩) m cap) (hu : P.underlying mt = some (.slice e)) (hz : (P.info? e).bind (·.zero) = some z) (hzs : z.cells.size = sz) (hz1 : z.cells.toList.all (·.oneCell') = true)
    (hb : Blk w g cur tb) (hm : 0 < m) (hfit : o + m * sz ≤ cur.size) :
    (execOp ρ ⟨d, .call { callee := .builtin .clear, args := #[x], argTypes := #[mt] }, t, pos, af, g'⟩).run P w = .ok (.value (.tuple #[])) (w.setRow g (cur.toList.take o ++ (Builtin.zeroCells z.cells m).toList ++ cur.toList.drop (o + m * sz)).toArray) := by
  have := run_clearN w mt e t hu hz hzs hz1 hb hm hfit (cap := cap)
  simp [execOp, resolve, invoke, builtin, hx, this]
theorem r_clear0 {x : Operand} {mt e : TypeId} {A : Option Addr} {cap : Nat} (hx : ρ x = .slice A 0 cap) (hu : P.underlying mt = some (.slice e)) :
    (execOp ρ ⟨d, .call { callee := .builtin .clear, args := #[x], argTypes := #[mt] }, t, pos, af, g'⟩).run P w = .ok (.value (.tuple #[])) w := by
  cases A <;> simp [execOp, resolve, invoke, builtin, hx, Builtin.clear_, run_underlying hu]
theorem r_cap {x : Operand} {mt e : TypeId} {A : Option Addr} {n cap : Nat} (hx : ρ x = .slice A n cap) (hu : P.underlying mt = some (.slice e)) :
    (execOp ρ ⟨d, .call { callee := .builtin .cap, args := #[x], argTypes := #[mt] }, t, pos, af, g'⟩).run P w = .ok (.value (.int .i64 cap)) w := by
  simp [execOp, resolve, invoke, builtin, Builtin.cap_, hx, run_underlying hu, goInt]
theorem r_buildNone {mt e : TypeId} {sz : Nat} (hu : P.underlying mt = some (.slice e)) (hs : (P.info? e).map (·.size) = some sz) :
    (execOp ρ ⟨d, .buildSlice mt 0 #[], t, pos, af, g'⟩).run P w = .ok (.value (.slice (some ⟨w.heap.size, 0, none⟩) 0 0)) (w.alloc (.cells #[] e)) := by
  cases hq : P.info? e with
  | none => simp [hq] at hs
  | some inf =>
    have hsz : inf.size = sz := by simpa [hq] using hs
    simp [execOp, Instr.buildSlice, run_underlying hu, sizeOf, typeInfo, hq, hsz, Instr.fill, newRow, newObj, Sem.run]
    congr 2
    apply Array.ext_getElem?
    intro i
    simp
theorem r_indexAddrK {x y : Operand} {ity e : TypeId} {b off n c sz : Nat} {k : IntKind} {i : Nat} (hx : ρ x = .slice (some ⟨b, off, none⟩) n c) (hy : ρ y = .int k (i : Nat))
    (hu : P.underlying ity = some (.slice e)) (hs : (P.info? e).map (·.size) = some sz) (hi : i < n) :
    (execOp ρ ⟨d, .indexAddr ity x y, t, pos, af, g'⟩).run P w = .ok (.value (.pointer (some ⟨b, off + i * sz, none⟩))) w := by
  rw [r_indexAddr hx hy hu hs (by omega) (by omega)]
  rfl
theorem r_indexAddrK0 {x y : Operand} {ity e : TypeId} {b n c sz : Nat} {k : IntKind} {i : Nat} (hx : ρ x = .slice (some ⟨b, 0, none⟩) n c) (hy : ρ y = .int k (i : Nat))
    (hu : P.underlying ity = some (.slice e)) (hs : (P.info? e).map (·.size) = some sz) (hi : i < n) :
    (execOp ρ ⟨d, .indexAddr ity x y, t, pos, af, g'⟩).run P w = .ok (.value (.pointer (some ⟨b, i * sz, none⟩))) w := by
  rw [r_indexAddrK hx hy hu hs hi, Nat.zero_add]
theorem r_sliceLo0 {x y : Operand} {sty e : TypeId} {b n cap i sz : Nat} {ky : IntKind} (hx : ρ x = .slice (some ⟨b, 0, none⟩) n cap) (hy : ρ y = .int ky (i : Nat)) (hu : P.underlying sty = some (.slice e)) (hs : (P.info? e).map (·.size) = some sz) (hi : i ≤ n) (hc : i < cap) :
    (execOp ρ ⟨d, .slice sty x (some y) none none, t, pos, af, g'⟩).run P w = .ok (.value (.slice (some ⟨b, i * sz, none⟩) (n - i) (cap - i))) w := by
  rw [r_sliceLo hx hy hu hs hi]
  unfold cutA
  rw [if_neg (by omega)]
  simp [add_at]
theorem r_overlaps {x y : Operand} {f : FuncId} {fn : Func} {tS tR el : TypeId} {sz b1 o1 b2 o2 la ca lb cb : Nat} {c1 c2 : Array Value} {t1 t2 : TypeId} {ts : Array TypeId} (hf : P.funcs[f]? = some fn) (hn : (fn.name == "runtime.NumGoroutine") = false) (hb : fn.body.isNone = true) (h1 : Extern.findNext fn = none) (h2 : Extern.find fn = some (Extern.SlicesOverlaps.overlaps #[tS, tS] #[tR]))
    (hx : ρ x = .slice (some ⟨b1, o1, none⟩) la ca) (hy : ρ y = .slice (some ⟨b2, o2, none⟩) lb cb) (hfn : ρ (.func f) = .func (.func f) #[] #[]) (hu : P.underlying tS = some (.slice el)) (hs : (P.info? el).map (·.size) = some sz)
    (hb1 : Blk w b1 c1 t1) (hb2 : Blk w b2 c2 t2) (hne : b1 ≠ b2) (h0 : c2.size ≠ 0) :
    (execOp ρ ⟨d, .call { callee := .value (.func f), args := #[x, y], argTypes := ts }, t, pos, af, g'⟩).run P w = .ok (.value (.bool (decide False))) w := by
  have hsz : ∀ w, (Go.sizeOf el).run P w = .ok sz w := by
    intro w
    cases hq : P.info? el with
    | none => simp [hq] at hs
    | some i =>
      have : i.size = sz := by simpa [hq] using hs
      simp [Go.sizeOf, typeInfo, hq, this]
  have hc := run_callFunc_extern (P := P) hf hn hb h1 h2 #[.slice (some ⟨b1, o1, none⟩) la ca, .slice (some ⟨b2, o2, none⟩) lb cb] w
  unfold Blk at hb1 hb2
  rw [Lib.run_overlaps_apart w tS tR el hu sz hsz ⟨b1, o1, none⟩ ⟨b2, o2, none⟩ la ca lb cb hne t1 t2 c1.size c2.size (by simp [World.shape?, hb1]) (by simp [World.shape?, hb2]) h0 (by simp [World.frozen?, hb1]) (by simp [World.frozen?, hb1])] at hc
  have : execOp ρ ⟨d, .call { callee := .value (.func f), args := #[x, y], argTypes := ts }, t, pos, af, g'⟩ = callFunc f #[.slice (some ⟨b1, o1, none⟩) la ca, .slice (some ⟨b2, o2, none⟩) lb cb] := by
    simp [execOp, resolve, hfn, invoke, go_sem, hx, hy]
  rw [this, hc]
  rfl
theorem r_append2 {s x : Operand} {t1 t2 e e2 : TypeId} {v u v' : Value} {w' : World} (hs : ρ s = v) (hx : ρ x = u) (h1 : P.underlying t1 = some (.slice e)) (h2 : P.underlying t2 = some (.slice e2)) {i : TypeInfo} (hi : P.info? e = some i) (h : (Builtin.append_ #[t1, t1] t #[v, u]).run P w = .ok v' w') :
    (execOp ρ ⟨d, .call { callee := .builtin .append, args := #[s, x], argTypes := #[t1, t2] }, t, pos, af, g'⟩).run P w = .ok (.value v') w' := by
  rw [← append_types w t1 t2 t e e2 v u h1 h2 hi] at h
  simp [execOp, resolve, invoke, builtin, hs, hx, h]
end
section
variable {P : Program} {n : Nat} {N : Env → World → Prop} {X : Exit → Env → World → Prop} {e : Env} {w : World} {ops : Array Oper} {rest : List Oper} {d : Option Tmp} {ty : TypeId} {pos : String} {af : Array Edge}
variable {α : Type} {T : Ty α} {F : Nat → Prop}
theorem op_append2 {s x : Operand} {t t2 el el2 : TypeId} {z : Value} {by_ B c : Nat} {v : Value} {l m : List α} {A : Option Addr} (hd : dOk n d = true) (hsv : ev e s = v) (hx : ev e x = .slice A m.length c)
    (hu : P.underlying t = some (.slice el)) (hu2 : P.underlying t2 = some (.slice el2)) (hs : (P.info? el).map (·.size) = some T.sz) (hy : (P.info? el).map (·.bytes) = some by_) (hz : (P.info? el).bind (·.zero) = some z) (hzs : z.cells.size = T.sz)
    (hown : Own T w F B el v l) (hrow : Src T w F A m) (hF : ∀ b, F b → b < w.heap.size ∧ v.ownBlock ≠ some b) (hsz : (l.length + m.length) * by_ ≤ 140737488355328) (h63 : l.length + m.length ≤ 140737488355328) (hB : B ≤ w.heap.size)
    (h : ∀ v' w', Own T w' F B el v' (l ++ m) → Gro v.ownBlock w w' → (v'.ownBlock = v.ownBlock ∨ ∃ g, v'.ownBlock = some g ∧ w.heap.size ≤ g) → WL P n ops N X rest (putO e d v') w') :
    WL P n ops N X (⟨d, .call { callee := .builtin .append, args := #[s, x], argTypes := #[t, t2] }, ty, pos, af, none⟩ :: rest) e w := by
  obtain ⟨v', w', hr, h1, h2, h3⟩ := run_append (ty := ty) (c := c) hu hs hy hz hzs hown hrow hF hsz h63 hB
  obtain ⟨i, hi, _⟩ := info_of hs hy hz
  exact op hd (r_append2 hsv hx hu hu2 hi hr) (h v' w' h1 h2 h3)
/-- 'append(s[:i], make([]T, k)..)' where there is no room. -/
theorem op_appendZ {s x : Operand} {t tn el : TypeId} {kn : IntKind} {z : Value} {by_ sz g m cap k : Nat} {c : Array Value} {tb : TypeId} (hd : dOk n d = true) (hsv : ev e s = .slice (some ⟨g, 0, none⟩) m cap) (hx : ev e x = .int .i64 (k : Nat))
    (hu : P.underlying t = some (.slice el)) (hun : P.underlying tn = some (.int kn)) (hs : (P.info? el).map (·.size) = some sz) (hy : (P.info? el).map (·.bytes) = some by_) (hz : (P.info? el).bind (·.zero) = some z) (hzs : z.cells.size = sz) (hsz0 : 0 < sz)
    {tot : Nat} (ht : m + k = tot) (hb : Blk w g c tb) (hm : m * sz ≤ c.size) (hk : 0 < k) (hg : cap < m + k) (hsz : (m + k) * by_ ≤ 140737488355328) (h63 : m + k ≤ 140737488355328)
    (h : ∀ w' b cap' c', Ext w w' → Blk w' b c' el → w.heap.size = b → tot ≤ cap' → c'.size = cap' * sz → c'.toList.take (m * sz) = c.toList.take (m * sz) → WL P n ops N X rest (putO e d (.slice (some ⟨b, 0, none⟩) tot cap')) w') :
    WL P n ops N X (⟨d, .call { callee := .builtin .append, args := #[s, x], argTypes := #[t, tn] }, ty, pos, af, none⟩ :: rest) e w := by
  subst ht
  obtain ⟨i, hi, his, hib, hiz⟩ := info_of hs hy hz
  have holds : ∀ j u, (c.toList.take (m * sz))[j]? = some u → w.drew.cell? ((⟨g, 0, none⟩ : Addr).add j) = some u := by
    intro j u hu
    have hcell : w.cell? ((⟨g, 0, none⟩ : Addr).add j) = some u := by
      rw [add_at, cell_of_row w g _ c tb (0, 0) hb, Nat.zero_add]
      rw [List.getElem?_take] at hu
      split at hu
      · simpa using hu
      · cases hu
    simpa using hcell
  have hold : (Builtin.firstCells i.size m (.slice (some ⟨g, 0, none⟩) m cap)).run P w.drew = .ok (c.toList.take (m * sz)).toArray w.drew :=
    run_firstCells_some (P := P) w.drew i.size m ⟨g, 0, none⟩ m cap (c.toList.take (m * sz)) (by rw [his, List.length_take, Array.length_toList]; omega) holds
  have hkb : k * by_ ≤ (m + k) * by_ := Nat.mul_le_mul_right _ (by omega)
  have hr := Lib.run_append_grow_zeros (P := P) w t tn ty el i z .i64 kn hu hun hi hiz (some ⟨g, 0, none⟩) m cap (c.toList.take (m * sz)) hold k hk (by omega) hg (by omega) (by rw [hib]; omega) (growslice_fits (by omega) (by rw [hib]; exact hsz))
  have hge := grownCap_ge w (m + k) cap el
  have hE : ∀ o, Ext w (w.drew.alloc o) := fun o => (Ext.drew (Ext.refl w)).of_alloc _
  obtain ⟨C, hC⟩ : ∃ C, C = (c.toList.take (m * sz)).toArray ++ Builtin.zeroCells z.cells k ++ Builtin.zeroCells z.cells (grownCap w (m + k) cap el - (m + k)) := ⟨_, rfl⟩
  rw [← hC] at hr
  refine op hd (v := .slice (some ⟨w.heap.size, 0, none⟩) (m + k) (grownCap w (m + k) cap el)) (w' := w.drew.alloc (.cells C el)) ?_ (h _ _ (grownCap w (m + k) cap el) C (hE _) (Blk.new w.drew _ _) rfl hge ?_ ?_)
  · simp [execOp, resolve, invoke, builtin, hsv, hx, hr]
  · rw [hC]
    simp only [Array.size_append, List.size_toArray, size_zeroCells, hzs, List.length_take, Array.length_toList]
    rw [Nat.min_eq_left hm, ← Nat.add_mul, ← Nat.add_mul]
    congr 1
    omega
  · have hl : (c.toList.take (m * sz)).length = m * sz := by rw [List.length_take, Array.length_toList]; omega
    rw [hC]
    simp only [Array.toList_append, List.append_assoc]
    have := List.take_left (l₁ := c.toList.take (m * sz)) (l₂ := (Builtin.zeroCells z.cells k).toList ++ (Builtin.zeroCells z.cells (grownCap w (m + k) cap el - (m + k))).toList)
    rw [hl] at this
    exact this
theorem op_copyN {x y : Operand} {dT sT elem : TypeId} {g o dLen dCap sz sLen sCap : Nat} {a : Addr} {cur : Array Value} {tb : TypeId} {cs : List Value} (hd : dOk n d = true) (hx : ev e x = .slice (some ⟨g, o, none⟩) dLen dCap) (hy : ev e y = .slice (some a) sLen sCap)
    (hu : P.underlying dT = some (.slice elem)) (hs : (P.info? elem).map (·.size) = some sz) (hg : Blk w g cur tb) (hn : cs.length = Nat.min sLen dLen * sz)
    (hsrc : ∀ j v, cs[j]? = some v → w.cell? (a.add j) = some v) (hfit : o + cs.length ≤ cur.size) (h1 : ∀ v ∈ cs, v.oneCell' = true)
    (h : ∀ w', Chg g w w' → Blk w' g (cur.toList.take o ++ cs ++ cur.toList.drop (o + cs.length)).toArray tb → WL P n ops N X rest (putO e d (.int .i64 (Nat.min sLen dLen : Nat))) w') :
    WL P n ops N X (⟨d, .call { callee := .builtin .copy, args := #[x, y], argTypes := #[dT, sT] }, ty, pos, af, none⟩ :: rest) e w :=
  op hd (r_copyN hx hy hu hs hg hn hsrc hfit h1) (h _ (Chg.setRow w g _) hg.setRow)
theorem op_storeAt {x y : Operand} {sty tb : TypeId} {b o : Nat} {c : Array Value} {xs : List Value} (hx : ev e x = .pointer (some ⟨b, o, none⟩)) (hy : ev e y = .agg xs.toArray)
    (hs : (P.info? sty).map (·.size) = some xs.length) (hb : Blk w b c tb) (ho : o + xs.length ≤ c.size) (h1 : xs.all (·.oneCell') = true)
    (h : ∀ w', Chg b w w' → Blk w' b (c.toList.take o ++ xs ++ c.toList.drop (o + xs.length)).toArray tb → WL P n ops N X rest e w') : WL P n ops N X (⟨none, .store sty x y, ty, pos, af, none⟩ :: rest) e w :=
  opU (r_storeAt hx hy hs hb ho h1) (h _ (Chg.setRow w b _) hb.setRow)
theorem op_clearN {x : Operand} {mt el : TypeId} {z : Value} {sz g o m cap : Nat} {cur : Array Value} {tb : TypeId} (hd : dOk n d = true) (hx : ev e x = .slice (some ⟨g, o, none⟩) m cap) (hu : P.underlying mt = some (.slice el)) (hz : (P.info? el).bind (·.zero) = some z) (hzs : z.cells.size = sz) (hz1 : z.cells.toList.all (·.oneCell') = true)
    (hb : Blk w g cur tb) (hm : 0 < m) (hfit : o + m * sz ≤ cur.size)
    (h : ∀ w' zs, Chg g w w' → zs.length = m * sz → Blk w' g (cur.toList.take o ++ zs ++ cur.toList.drop (o + m * sz)).toArray tb → WL P n ops N X rest (putO e d (.tuple #[])) w') :
    WL P n ops N X (⟨d, .call { callee := .builtin .clear, args := #[x], argTypes := #[mt] }, ty, pos, af, none⟩ :: rest) e w :=
  op hd (r_clearN hx hu hz hzs hz1 hb hm hfit) (h _ _ (Chg.setRow w g _) (by rw [Array.length_toList, size_zeroCells, hzs]) hb.setRow)
end
section
variable {P : Program} {n : Nat} {N : Env → World → Prop} {X : Exit → Env → World → Prop} {S : World → Prop} {ops : Array Oper} {fuel : Nat} {listed : Array Bool} {i : Nat} {e : Env} {w : World} {d : Option Tmp} {t : TypeId} {pos : String} {af : Array Edge}
theorem O_copyN {x y : Operand} {dT sT elem : TypeId} {g o dLen dCap sz sLen sCap : Nat} {a : Addr} {cur : Array Value} {tb : TypeId} {cs : List Value} (hi : ops[i]? = some ⟨d, .call { callee := .builtin .copy, args := #[x, y], argTypes := #[dT, sT] }, t, pos, af, none⟩) (hd : dOk n d = true) (hx : ev e x = .slice (some ⟨g, o, none⟩) dLen dCap) (hy : ev e y = .slice (some a) sLen sCap)
    (hu : P.underlying dT = some (.slice elem)) (hs : (P.info? elem).map (·.size) = some sz) (hg : Blk w g cur tb) (hn : cs.length = Nat.min sLen dLen * sz)
    (hsrc : ∀ j v, cs[j]? = some v → w.cell? (a.add j) = some v) (hfit : o + cs.length ≤ cur.size) (h1 : ∀ v ∈ cs, v.oneCell' = true)
    (h : ∀ w', Chg g w w' → Blk w' g (cur.toList.take o ++ cs ++ cur.toList.drop (o + cs.length)).toArray tb → S w' ∧ WA P n ops N X S fuel (listed.setIfInBounds i true) (putO e d (.int .i64 (Nat.min sLen dLen : Nat))) w') : WO P n ops N X S fuel listed i e w :=
  have h' := h _ (Chg.setRow w g _) hg.setRow
  O_val hi hd (r_copyN hx hy hu hs hg hn hsrc hfit h1) h'.1 h'.2
end
section
variable {P : Program} {n : Nat} {N : Env → World → Prop} {X : Exit → Env → World → Prop} {S : World → Prop} {ops : Array Oper} {fuel : Nat} {listed : Array Bool} {i : Nat} {e : Env} {w : World} {d : Option Tmp} {ty : TypeId} {pos : String} {af : Array Edge}
theorem O_append {α : Type} {T : Ty α} {F : Nat → Prop} {s x : Operand} {t el : TypeId} {z : Value} {by_ B c : Nat} {v : Value} {l m : List α} {A : Option Addr} (hi : ops[i]? = some ⟨d, .call { callee := .builtin .append, args := #[s, x], argTypes := #[t, t] }, ty, pos, af, none⟩) (hd : dOk n d = true) (hsv : ev e s = v) (hx : ev e x = .slice A m.length c)
    (hu : P.underlying t = some (.slice el)) (hs : (P.info? el).map (·.size) = some T.sz) (hy : (P.info? el).map (·.bytes) = some by_) (hz : (P.info? el).bind (·.zero) = some z) (hzs : z.cells.size = T.sz)
    (hown : Own T w F B el v l) (hrow : Src T w F A m) (hF : ∀ b, F b → b < w.heap.size ∧ v.ownBlock ≠ some b) (hsz : (l.length + m.length) * by_ ≤ 140737488355328) (h63 : l.length + m.length ≤ 140737488355328) (hB : B ≤ w.heap.size)
    (h : ∀ v' w', Own T w' F B el v' (l ++ m) → Gro v.ownBlock w w' → (v'.ownBlock = v.ownBlock ∨ ∃ g, v'.ownBlock = some g ∧ w.heap.size ≤ g) → S w' ∧ WA P n ops N X S fuel (listed.setIfInBounds i true) (putO e d v') w') :
    WO P n ops N X S fuel listed i e w := by
  obtain ⟨v', w', hr, h1, h2, h3⟩ := run_append (ty := ty) (c := c) hu hs hy hz hzs hown hrow hF hsz h63 hB
  obtain ⟨q1, q2⟩ := h v' w' h1 h2 h3
  exact O_val hi hd (r_append hsv hx hr) q1 q2
end
/-- The one cell of what has one. -/
def cellOf (v : Value) : Value := v.cells[0]?.getD v
theorem fill_cell {u : Value → Value} {places : Array (Nat × Nat)} : ∀ {parts : List (Nat × Value)} {cs : Array Value} {offs : List Nat}, (∀ q ∈ parts, q.2.cells = #[u q.2]) → (∀ q ∈ parts, ∃ o, offs[q.1]? = some o ∧ places[q.1]? = some (o, 1) ∧ o < cs.size) →
    Instr.fill (places[·]?) cs parts = some (setL cs.toList (parts.map fun q => ((offs[q.1]?).getD 0, u q.2))).toArray
  | [], cs, _, _, _ => by simp [Instr.fill, setL]
  | (i, v) :: r, cs, offs, h1, h2 => by
    obtain ⟨o, ho, hp, hlt⟩ := h2 (i, v) (List.mem_cons_self ..)
    have hv : v.cells = #[u v] := h1 (i, v) (List.mem_cons_self ..)
    have h2' : ∀ q ∈ r, ∃ o', offs[q.1]? = some o' ∧ places[q.1]? = some (o', 1) ∧ o' < (cs.setIfInBounds o (u v)).size := fun q hq => by
      have := h2 q (List.mem_cons_of_mem _ hq)
      simpa using this
    have ih := fill_cell (places := places) (cs := cs.setIfInBounds o (u v)) (offs := offs) (fun q hq => h1 q (List.mem_cons_of_mem _ hq)) h2'
    simp only [Instr.fill, hp, hv]
    have hsz : ¬ (1 ≠ 1 ∨ o + 1 > cs.size) := by omega
    simp only at ho
    simp [setL, ho, hsz, hlt]
    exact ⟨by omega, by simpa using ih⟩
section
variable {P : Program} {ρ : Operand → Value} {w : World} {d : Option Tmp} {t : TypeId} {pos : String} {af : Array Edge} {g : Option (Nat × Bool)}
/-- A struct is built of parts of one cell each, that may be structs. -/
theorem r_build1 (u : Value → Value) {parts : List (Nat × Operand)} {s : Nat} {zc : List Value} {offs : List Nat} {cs : List Value} (hl : layOf P s = some (zc, offs)) (h1 : ∀ q ∈ parts, (ρ q.2).cells = #[u (ρ q.2)]) (h2 : (parts.all fun q => ((offs[q.1]?).map fun o => Nat.blt o zc.length).getD false) = true)
    (hc : setL zc (parts.map fun q => ((offs[q.1]?).getD 0, u (ρ q.2))) = cs) :
    (execOp ρ ⟨d, .build s parts.toArray, t, pos, af, g⟩).run P w = .ok (.value (.agg cs.toArray)) w := by
  unfold layOf at hl
  cases hu : P.underlying s with
  | none => simp [hu] at hl
  | some td =>
    cases td <;> simp only [hu] at hl <;> try (cases hl; done)
    rename_i fs
    cases hzz : (P.info? s).bind (·.zero) with
    | none => simp [hzz] at hl
    | some z =>
      simp only [hzz] at hl
      split at hl
      rotate_left
      · cases hl
      rename_i hall
      obtain ⟨rfl, rfl⟩ : z.cells.toList = zc ∧ fs.toList.map (·.offset) = offs := by simpa using hl
      cases hin : P.info? s with
      | none => simp [hin] at hzz
      | some inf =>
        have hz' : inf.zero = some z := by simpa [hin] using hzz
        have hpl : fs.toList.mapM (fun f => (P.info? f.type).map fun i => (f.offset, i.size)) = some (fs.toList.map fun f => (f.offset, 1)) := by
          clear hl hc h2 hu
          generalize fs.toList = l at hall
          induction l with
          | nil => rfl
          | cons f l ih =>
            simp only [List.all_cons, Bool.and_eq_true, beq_iff_eq] at hall
            cases hfi : P.info? f.type with
            | none => simp [hfi] at hall
            | some i =>
              have hs1 : i.size = 1 := by simpa [hfi] using hall.1
              simp [List.mapM_cons, hfi, hs1, ih hall.2]
        have hb : P.built s (parts.toArray.map fun (q : Nat × Operand) => (q.1, ρ q.2)).toList = some cs.toArray := by
          unfold Program.built
          simp only [hin, hu, hz', hpl]
          have hf := fill_cell (u := u) (places := (fs.toList.map fun f => (f.offset, 1)).toArray) (cs := z.cells) (offs := fs.toList.map (·.offset)) (parts := parts.map fun q => (q.1, ρ q.2)) (by
            intro q hq
            obtain ⟨p, hp, rfl⟩ := List.mem_map.1 hq
            exact h1 p hp) (by
            intro q hq
            obtain ⟨p, hp, rfl⟩ := List.mem_map.1 hq
            have := List.all_eq_true.1 h2 p hp
            cases ho : (fs.toList.map (·.offset))[p.1]? with
            | none => rw [ho] at this; simp at this
            | some o =>
              rw [ho] at this
              refine ⟨o, rfl, ?_, by simpa [Nat.blt_eq] using this⟩
              simp only [List.getElem?_map, Option.map_eq_some_iff] at ho
              obtain ⟨f, hf, rfl⟩ := ho
              simp [hf])
          simp only [List.map_map] at hf
          rw [← hc]
          simpa [Function.comp_def] using hf
        have := run_build w s (parts.toArray.map fun (q : Nat × Operand) => (q.1, ρ q.2)) cs.toArray hb
        simp [execOp] at this ⊢
        simp [this]
end
/-- Cells that lie behind a place in a block. -/
theorem cells_src {w : World} {g n i : Nat} {c : Array Value} {tb : TypeId} {rs : List (List Value)} (hb : Blk w g c tb) (hr : ∀ r ∈ rs, Raw n r) (ht : c.toList.take (rs.length * n) = rs.flatten) (hi : i ≤ rs.length) :
    ∀ j v, (rs.drop i).flatten[j]? = some v → w.cell? ((⟨g, i * n, none⟩ : Addr).add j) = some v := by
  intro j v hv
  rw [raw_drop hr i hi, ← ht, List.getElem?_drop, List.getElem?_take] at hv
  split at hv
  · rw [add_at]
    exact Blk.cell hb (by simpa using hv)
  · cases hv
theorem blk_src {w : World} {g : Nat} {x : List Value} {tb : TypeId} (hb : Blk w g x.toArray tb) : ∀ j v, x[j]? = some v → w.cell? ((⟨g, 0, none⟩ : Addr).add j) = some v := by
  intro j v hv
  rw [add_at]
  exact Blk.cell hb (by simpa using hv)
end Go.Eng

/-
  The engine: slices of which the bytes are told. Generic: no program.
-/
namespace Go.Eng
set_option linter.unusedVariables false
set_option linter.unusedSimpArgs false
open Go.RowKit

/-- A slice that came in: so many bytes for each element. -/
def Ty.sliceW {α : Type} (T : Ty α) (k : Nat) : Ty (List α) where
  sz := 1
  R := fun w F l cs => T.slice.R w F l cs ∧ l.length * k ≤ 140737488355328
  len := fun h => T.slice.len h.1
  one := fun h => T.slice.one h.1
  keep := fun h hs hF => ⟨T.slice.keep h.1 hs hF, h.2⟩
theorem Rd.sliceW {P : Program} {α : Type} {T : Ty α} {t e : TypeId} {k : Nat} (ht : P.underlying t = some (.slice e)) (hc : P.cellsOf e = T.sz) (h1 : Nat.ble 1 T.sz = true) (hb1 : Nat.ble 1 (P.bytesOf e) = true) (hk : P.bytesOf e = k) {μ : α → Nat} (hT : Rd P e T μ) : Rd P t (T.sliceW k) (fun l => (l.map μ).sum + 1) := by
  intro H enc w fuel cs x h hz
  obtain ⟨y, hR, hβ⟩ := Rd.slice ht hc h1 hb1 hT h hz
  refine ⟨y, ⟨hR, ?_⟩, hβ⟩
  obtain ⟨A, cap, hcs, _, _, _⟩ := hR
  rcases Go.Deep.open_slice ht h with ⟨h0, _⟩ | ⟨a, len, cap', m, n, D, Pl, h0, hb, hl, hm, hmm, hx, hel⟩
  · rw [hcs] at h0
    simp only [List.cons.injEq, Value.slice.injEq, and_true] at h0
    rw [h0.2.1]; omega
  · rw [hcs] at h0
    simp only [List.cons.injEq, Value.slice.injEq, and_true] at h0
    rw [h0.2.1]
    have hq := hz ((len + (m - len)) * P.bytesOf e) (by simp only [if_true] at hmm; subst hmm; rw [hx]; simp [DataW.weights, ht])
    rw [hk] at hq
    have h3 : len * k ≤ (len + (m - len)) * k := Nat.mul_le_mul_right _ (by omega)
    have h4 : reachBytes ≤ 140737488355328 := by decide
    omega
open Go.ChangeShapes Go.WideShapes Go.ChangeAt in
theorem arg_sliceW {P : Program} {H : Type} {enc : TypeId × Value → H} {W : World} {base : Nat} {t : TypeId} {v : Value} {d : DataW H} {p : List MemPlace} {α : Type} {T : Ty α} {e : TypeId} {k : Nat} (ht : P.underlying t = some (.slice e)) {μ : List α → Nat} (hR : Rd P t (T.sliceW k) μ) (hv : Value.okWide P W .any base t v) (h : DataW.Trod enc P W 0 (fun _ => true) true t v d p)
    (hz : ∀ n ∈ d.weights P t, n ≤ reachBytes) : ∃ A cap l, v = .slice A l.length cap ∧ l.length ≤ cap ∧ l.length * k ≤ 140737488355328 ∧ T.Row W (old W) A l ∧ ∀ β : DataW H → Nat, Bulk β → μ l ≤ β d := by
  obtain ⟨a, len, cap, rfl⟩ := okWide_slice ht hv
  obtain ⟨fuel, hf⟩ := h
  obtain ⟨l, ⟨⟨A, c, hcs, h1, h2, h3⟩, h4⟩, hbl⟩ := hR hf hz
  simp only [Value.cells, List.cons.injEq, and_true, Value.slice.injEq] at hcs
  obtain ⟨rfl, rfl, rfl⟩ := hcs
  exact ⟨_, _, l, rfl, h1, h4, h3, hbl⟩
theorem Ty.Row.cellW {α : Type} {T : Ty α} {k : Nat} {w : World} {F : Nat → Prop} {A : Option Addr} {l : List (List α)} (h : (T.sliceW k).Row w F A l) {i : Nat} (hi : i < l.length) :
    ∃ g off Ai ci, A = some ⟨g, off, none⟩ ∧ F g ∧ w.cell? ⟨g, off + i, none⟩ = some (.slice Ai l[i].length ci) ∧ l[i].length ≤ ci ∧ l[i].length * k ≤ 140737488355328 ∧ T.Row w F Ai l[i] := by
  obtain ⟨g, off, xs, rfl, hg, ⟨⟨Ai, ci, rfl, h1, h2, h3⟩, h4⟩, hc⟩ := h.cells hi
  have := hc 0 (Nat.lt_add_one 0)
  simp only [Ty.sliceW, Nat.mul_one, Nat.add_zero] at this
  exact ⟨g, off, Ai, ci, rfl, hg, by simpa using this, h1, h4, h3⟩
end Go.Eng

/-
  The engine: a loop over a map, in whatever order. Generic: no program.
-/
namespace Go.Eng
set_option linter.unusedVariables false
set_option linter.unusedSimpArgs false
open Go.RowKit Go.MapKept

/-- What goes over a map: the entries, and those that were seen. -/
def RangeAt (w : World) (it bm : Nat) (es : Array MapEntry) (seen : Array Nat) : Prop :=
  ∃ clock since, w.heap[bm]? = some (.map es clock) ∧ w.heap[it]? = some (.mapIter (some bm) since seen clock) ∧ (∀ x ∈ es.toList, x.born < since) ∧ since ≤ clock ∧ (es.toList.map (·.born)).Nodup
theorem RangeAt.chg {w w' : World} {it bm b : Nat} {es : Array MapEntry} {seen : Array Nat} (h : RangeAt w it bm es seen) (hc : Chg b w w') (h1 : it ≠ b) (h2 : bm ≠ b) : RangeAt w' it bm es seen := by
  obtain ⟨clock, since, q1, q2, q3⟩ := h
  exact ⟨clock, since, by rw [hc.block bm (heap_lt q1) h2]; exact q1, by rw [hc.block it (heap_lt q2) h1]; exact q2, q3⟩
theorem RangeAt.lt {w : World} {it bm : Nat} {es : Array MapEntry} {seen : Array Nat} (h : RangeAt w it bm es seen) : it < w.heap.size ∧ bm < w.heap.size := by
  obtain ⟨clock, since, q1, q2, q3⟩ := h
  exact ⟨heap_lt q2, heap_lt q1⟩
theorem RangeAt.ext {w w' : World} {it bm : Nat} {es : Array MapEntry} {seen : Array Nat} (h : RangeAt w it bm es seen) (he : Ext w w') : RangeAt w' it bm es seen := by
  obtain ⟨clock, since, q1, q2, q3⟩ := h
  exact ⟨clock, since, ext_heap q1 he, ext_heap q2 he, q3⟩
section
variable {P : Program} {w : World}
theorem run_nextG {ty : TypeId} {it bm : Nat} {es : Array MapEntry} {seen : Array Nat} (h : RangeAt w it bm es seen) :
    ((leftOf es seen).size = 0 ∧ (Instr.next (.pointer (some ⟨it, 0, none⟩)) false ty).run P w = .ok (.tuple #[.bool false]) w) ∨
    ∃ e ∈ (leftOf es seen).toList, ∃ w', (Instr.next (.pointer (some ⟨it, 0, none⟩)) false ty).run P w = .ok (.tuple #[.bool true, e.key, e.val]) w' ∧ Chg it w w' ∧ RangeAt w' it bm es (seen.push e.born) := by
  obtain ⟨clock, since, hb, hi, hold, hsk, hnd⟩ := h
  have hne : bm ≠ it := fun q => by rw [q, hi] at hb; cases hb
  have hgi : (getObj it).run P w = .ok (.mapIter (some bm) since seen clock) w := by simp [getObj, Sem.run, hi]
  have hgb : (getObj bm).run P w = .ok (.map es clock) w := by simp [getObj, Sem.run, hb]
  simp only [Instr.next, getObj, Sem.run_bind, Sem.run, hi, hb, Result.andThen, next_test_false seen es since clock hold hsk, Bool.false_eq_true, if_false]
  unfold leftOf
  have hmem : ∀ x ∈ (Array.filter (fun e => !seen.contains e.born) es).toList, x.born < since := fun x hx => hold x (by simp at hx ⊢; exact hx.1)
  generalize Array.filter (fun e => !seen.contains e.born) es = L at hmem ⊢
  have e1 : L.filter (fun x => decide (x.born < since)) = L := Array.filter_eq_self.2 (fun x hx => by simpa using hmem x (by simpa using hx))
  have e2 : L.filter (fun x => decide (x.born ≥ since)) = #[] := by
    rw [Array.filter_eq_empty_iff]
    intro x hx
    have := hmem x (by simpa using hx)
    simp
    omega
  simp only [e1, e2, Array.append_empty]
  by_cases h0 : L.size = 0
  · left
    have : L = #[] := Array.eq_empty_of_size_eq_zero h0
    subst this
    refine ⟨rfl, ?_⟩
    simp [choose, Sem.run, Question.forced]
  · right
    have hne' : L.isEmpty = false := by simp [Array.isEmpty, h0]
    simp only [hne', Bool.false_eq_true, if_false, Array.empty_append, Array.size_map]
    have hch : ∃ (j : Nat) (w1 : World), j < L.size ∧ w1.heap = w.heap ∧ w1.os = w.os ∧ w1.tape = w.tape ∧ w1.output = w.output ∧ (choose (Question.mapNext L.size)).run P w = .ok j w1 := by
      by_cases hf : L.size ≤ 1
      · exact ⟨0, w, by omega, rfl, rfl, rfl, rfl, by simp [choose, Sem.run, Question.forced, hf]⟩
      · exact ⟨_, w.drew, Nat.mod_lt _ (by omega), rfl, rfl, rfl, rfl, by
          simp only [choose, Sem.run, Question.forced, decide_eq_true_eq, hf, if_false, Question.cut]
          rfl⟩
    obtain ⟨j, w1, hj, h1, h2, h3, h4, hrun⟩ := hch
    refine ⟨L[j], by simp, { w1 with heap := w1.heap.setIfInBounds it (.mapIter (some bm) since (seen.push L[j].born) clock) }, ?_, ?_, ?_⟩
    · have hset : (setObj it (.mapIter (some bm) since (seen.push L[j].born) clock)).run P w1 = .ok () { w1 with heap := w1.heap.setIfInBounds it (.mapIter (some bm) since (seen.push L[j].born) clock) } := by
        simp [setObj, Sem.run, h1, hi]
      simp only [hrun, Array.getElem?_map, Array.getElem?_eq_getElem hj, Option.map_some, Sem.run_bind, hset, Result.andThen]
      rfl
    · refine ⟨h2, h3, h4, by simp [h1], fun k hk hne2 => ?_⟩
      show (w1.heap.setIfInBounds it _)[k]? = _
      rw [h1, Array.getElem?_setIfInBounds_ne (fun q => hne2 q.symm)]
    · refine ⟨clock, since, ?_, ?_, hold, hsk, hnd⟩
      · show (w1.heap.setIfInBounds it _)[bm]? = _
        rw [h1, Array.getElem?_setIfInBounds_ne (fun q => hne q.symm)]; exact hb
      · show (w1.heap.setIfInBounds it _)[it]? = _
        rw [h1, Array.getElem?_setIfInBounds_self_of_lt (heap_lt hi)]
theorem run_entryG {it bm : Nat} {es : Array MapEntry} {seen : Array Nat} {e : MapEntry} (h : RangeAt w it bm es (seen.push e.born)) (he : e ∈ es.toList) :
    (Instr.entry (.pointer (some ⟨it, 0, none⟩))).run P w = .ok (.tuple #[e.key, e.val]) w := by
  obtain ⟨clock, since, hb, hi, hold, hsk, hnd⟩ := h
  have hf : es.find? (·.born == e.born) = some e := by rw [← Array.find?_toList]; exact find_born e es.toList hnd he
  simp only [Instr.entry, getObj, Sem.run_bind, Sem.run, hi, hb, Result.andThen, Array.back?_push, bne_self_eq_false, Bool.false_eq_true, if_false, hf]
  rfl
end
/-- What a step tells. -/
def nextV (b : Bool) (k v : Value) : Value := if b then .tuple #[.bool true, k, v] else .tuple #[.bool false]
section
variable {P : Program} {n : Nat} {N : Env → World → Prop} {X : Exit → Env → World → Prop} {e : Env} {ops : Array Oper} {rest : List Oper} {d : Option Tmp} {ty : TypeId} {pos : String} {af : Array Edge} {w : World}
theorem op_range {x : Operand} {t kt et : TypeId} {bm : Nat} {es : Array MapEntry} {clock : Nat} (hd : dOk n d = true) (hx : ev e x = .map (some bm)) (hu : P.underlying t = some (.map kt et)) (hb : w.heap[bm]? = some (.map es clock)) (hs : Stamped es clock)
    (h : ∀ w' it, Ext w w' → RangeAt w' it bm es #[] → w.heap.size = it → WL P n ops N X rest (putO e d (.pointer (some ⟨it, 0, none⟩))) w') : WL P n ops N X (⟨d, .range t x, ty, pos, af, none⟩ :: rest) e w := by
  refine op hd (v := .pointer (some ⟨w.heap.size, 0, none⟩)) (w' := w.alloc (.mapIter (some bm) clock #[] clock)) ?_ (h _ _ (Ext.alloc _ _) ⟨clock, clock, ?_, Go.heap_alloc_new w _, hs.1, Nat.le_refl _, hs.2.1⟩ rfl)
  · simp [execOp, hx, run_range_map w t kt et bm es clock hu hb]
  · rw [Go.heap_alloc_old w _ (heap_lt hb)]; exact hb
theorem op_next {x : Operand} {it bm : Nat} {es : Array MapEntry} {seen : Array Nat} (hd : dOk n d = true) (hx : ev e x = .pointer (some ⟨it, 0, none⟩)) (hr : RangeAt w it bm es seen)
    (h : ∀ w' b k v, Chg it w w' → (b = false → (leftOf es seen).size = 0 ∧ RangeAt w' it bm es seen) → (b = true → ∃ en ∈ (leftOf es seen).toList, k = en.key ∧ v = en.val ∧ RangeAt w' it bm es (seen.push en.born)) → WL P n ops N X rest (putO e d (nextV b k v)) w') :
    WL P n ops N X (⟨d, .next x false, ty, pos, af, none⟩ :: rest) e w := by
  rcases run_nextG (P := P) (ty := ty) hr with ⟨h1, h2⟩ | ⟨en, h1, w', h2, h3, h4⟩
  · exact op hd (v := .tuple #[.bool false]) (by simp [execOp, hx, h2]) (h w false (.bool false) (.bool false) (Chg.of_ext (Ext.refl _)) (fun _ => ⟨h1, hr⟩) (fun q => by cases q))
  · exact op hd (v := .tuple #[.bool true, en.key, en.val]) (by simp [execOp, hx, h2]) (h w' true en.key en.val h3 (fun q => by cases q) (fun _ => ⟨en, h1, rfl, rfl, h4⟩))
theorem r_extNext {ρ : Operand → Value} {x : Operand} {g : Option (Nat × Bool)} {b : Bool} {k v : Value} (hx : ρ x = nextV b k v) : (execOp ρ ⟨d, .extract x 0, ty, pos, af, g⟩).run P w = .ok (.value (.bool b)) w := by
  cases b <;> simp [execOp, Instr.extract, hx, nextV]
theorem r_entryG {ρ : Operand → Value} {x : Operand} {g : Option (Nat × Bool)} {it bm : Nat} {es : Array MapEntry} {seen : Array Nat} {en : MapEntry} (hx : ρ x = .pointer (some ⟨it, 0, none⟩)) (h : RangeAt w it bm es (seen.push en.born)) (he : en ∈ es.toList) :
    (execOp ρ ⟨d, .entry x, ty, pos, af, g⟩).run P w = .ok (.value (.tuple #[en.key, en.val])) w := by
  simp [execOp, hx, run_entryG h he]
end
/-- What has been seen, of a map that takes each. -/
def SeenF (f : Value → Option Value) (es : Array MapEntry) (seen : Array Nat) : Prop := ∀ k v, f k = some v ↔ ∃ en ∈ es.toList, seen.contains en.born = true ∧ en.key = k ∧ en.val = v
theorem SeenF.nil (es : Array MapEntry) : SeenF (fun _ => none) es #[] := fun k v => ⟨(fun q => by cases q), fun ⟨en, _, h, _⟩ => by simp at h⟩
theorem SeenF.put {f : Value → Option Value} {es : Array MapEntry} {seen : Array Nat} (h : SeenF f es seen) (hk : (es.toList.map (·.key)).Nodup) (hb : (es.toList.map (·.born)).Nodup) {en : MapEntry} (he : en ∈ es.toList) : SeenF (fput f en.key en.val) es (seen.push en.born) := by
  intro k v
  by_cases hkk : k = en.key
  · subst hkk
    rw [fput_same]
    constructor
    · intro q; cases q
      exact ⟨en, he, by rw [contains_push]; simp, rfl, rfl⟩
    · rintro ⟨x, hx, _, h2, h3⟩
      have := key_inj hk hx he h2
      subst this; rw [h3]
  · rw [fput_ne hkk, h k v]
    constructor
    · rintro ⟨x, hx, h1, h2⟩
      exact ⟨x, hx, by rw [contains_push, h1]; rfl, h2⟩
    · rintro ⟨x, hx, h1, h2, h3⟩
      refine ⟨x, hx, ?_, h2, h3⟩
      rw [contains_push] at h1
      cases hc : seen.contains x.born with
      | true => rfl
      | false =>
        rw [hc, Bool.false_or, beq_iff_eq] at h1
        have := born_inj hb hx he h1
        subst this
        exact absurd h2.symm hkk
theorem SeenF.all {f : Value → Option Value} {es : Array MapEntry} {seen : Array Nat} (h : SeenF f es seen) (h0 : (leftOf es seen).size = 0) : ∀ k v, f k = some v ↔ ∃ en ∈ es.toList, en.key = k ∧ en.val = v := fun k v => by
  rw [h k v]
  exact ⟨fun ⟨x, h1, _, h2⟩ => ⟨x, h1, h2⟩, fun ⟨x, h1, h2⟩ => ⟨x, h1, all_seen es seen h0 x h1, h2⟩⟩
end Go.Eng

/-
  The engine: structs of ints, bools, strings, and of such structs, compared. Generic: no program.
-/
namespace Go.Eng
set_option linter.unusedVariables false
set_option linter.unusedSimpArgs false
open Go.RowKit

inductive Leaf where
  | int (q : IntKind)
  | bool
  | str
def Leaf.fits : Leaf → Value → Prop
  | .int q, v => ∃ n, v = .int q n
  | .bool, v => ∃ b, v = .bool b
  | .str, v => ∃ s, v = .string s
def Fit : List Leaf → List Value → Prop
  | [], [] => True
  | a :: l, v :: vs => a.fits v ∧ Fit l vs
  | _, _ => False
theorem Fit.len : ∀ {l : List Leaf} {vs : List Value}, Fit l vs → vs.length = l.length
  | [], [], _ => rfl
  | _ :: _, _ :: _, h => by simp [Fit.len h.2]
  | [], _ :: _, h => h.elim
  | _ :: _, [], h => h.elim
theorem Fit.split : ∀ {a b : List Leaf} {vs : List Value}, Fit (a ++ b) vs → ∃ x y, vs = x ++ y ∧ Fit a x ∧ Fit b y
  | [], b, vs, h => ⟨[], vs, rfl, trivial, h⟩
  | _ :: _, _, [], h => h.elim
  | a :: l, b, v :: vs, h => by
    obtain ⟨x, y, rfl, h1, h2⟩ := Fit.split (a := l) h.2
    exact ⟨v :: x, y, rfl, ⟨h.1, h1⟩, h2⟩
def leavesGo (P : Program) (g : TypeId → Option (List Leaf)) : Nat → List Field → Option (List Leaf)
  | _, [] => some []
  | k, f :: fs => if f.name != "_" && f.offset == k then
      match g f.type with
      | some l => if (P.info? f.type).map (·.size) == some l.length then (leavesGo P g (k + l.length) fs).map (l ++ ·) else none
      | none => none
    else none
def leavesOf (P : Program) : Nat → TypeId → Option (List Leaf)
  | 0, _ => none
  | d + 1, t => match P.underlying t with
    | some (.int q) => some [.int q]
    | some .bool => some [.bool]
    | some .string => some [.str]
    | some (.struct fs) => if P.stoodInHeld t then none else leavesGo P (leavesOf P d) 0 fs.toList
    | _ => none
/-- A struct's leaves, where it may be compared. -/
def eqsOf (P : Program) (t : TypeId) : Option (List Leaf) := match P.underlying t with
  | some (.struct _) => if P.eqGuardType P.depth t then none else leavesOf P 8 t
  | _ => none
def valOf (P : Program) (t : TypeId) (cs : List Value) : Value := match P.underlying t with
  | some (.struct _) => .agg cs.toArray
  | _ => cs.headD (.agg #[])
section
variable {P : Program}
def EqL (P : Program) (dd : Nat) (t : TypeId) (ls : List Leaf) : Prop :=
  ∀ (w : World) (xs ys : List Value), Fit ls xs → Fit ls ys → ∃ r : Bool, (Op.equalIn dd t (valOf P t xs) (valOf P t ys)).run P w = .ok r w ∧ (r = true ↔ xs = ys)
theorem leaves_shape {d : Nat} {t : TypeId} {ls : List Leaf} (h : leavesOf P d t = some ls) : (∃ fs, P.underlying t = some (.struct fs)) ∨ ((∃ a, ls = [a]) ∧ ∃ td, P.underlying t = some td ∧ oneCellT td = true ∧ ∀ fs, td ≠ .struct fs) := by
  cases d with
  | zero => simp [leavesOf] at h
  | succ d =>
    unfold leavesOf at h
    cases hu : P.underlying t with
    | none => simp [hu] at h
    | some td =>
      cases td <;> simp only [hu] at h <;> try (cases h; done)
      case bool => simp only [Option.some.injEq] at h; exact Or.inr ⟨⟨_, h.symm⟩, _, rfl, rfl, fun fs q => by cases q⟩
      case int q => simp only [Option.some.injEq] at h; exact Or.inr ⟨⟨_, h.symm⟩, _, rfl, rfl, fun fs q => by cases q⟩
      case string => simp only [Option.some.injEq] at h; exact Or.inr ⟨⟨_, h.symm⟩, _, rfl, rfl, fun fs q => by cases q⟩
      case struct fs => exact Or.inl ⟨fs, rfl⟩
theorem run_part_leaf {w : World} {d : Nat} {t : TypeId} {ls : List Leaf} (h : leavesOf P d t = some ls) (hs : (P.info? t).map (·.size) = some ls.length) {px xs qx : List Value} (hx : Fit ls xs) :
    (part t (px ++ (xs ++ qx)).toArray px.length).run P w = .ok (valOf P t xs) w := by
  rcases leaves_shape h with ⟨fs, hu⟩ | ⟨⟨a, rfl⟩, td, hu, ho, hn⟩
  · have hagg : (isAgg t).run P w = .ok true w := by
      unfold isAgg
      rw [Sem.run_bind, run_underlying hu w]
      rfl
    cases hi : P.info? t with
    | none => rw [hi] at hs; simp at hs
    | some i =>
      have hsz : i.size = ls.length := by rw [hi] at hs; simpa using hs
      have hl := hx.len
      unfold part
      rw [Sem.run_bind, hagg]
      simp [Result.andThen, sizeOf, typeInfo, hi, hsz, valOf, hu]
      rw [← hl]
      simp
  · have hagg : (isAgg t).run P w = .ok false w := by
      unfold isAgg
      rw [Sem.run_bind, run_underlying hu w]
      cases td <;> simp_all [oneCellT]
    cases xs with
    | nil => exact hx.elim
    | cons v vs =>
      cases vs with
      | cons _ _ => exact hx.2.elim
      | nil =>
        have hv : valOf P t [v] = v := by
          unfold valOf
          rw [hu]
          cases td <;> first | rfl | exact absurd rfl (hn _)
        unfold part
        rw [Sem.run_bind, hagg, hv]
        simp [Result.andThen]
theorem run_fields_leaf {w : World} {d dd : Nat} (IH : ∀ t ls, leavesOf P d t = some ls → EqL P dd t ls) : ∀ (fs : List Field) (k : Nat) (ls : List Leaf), leavesGo P (leavesOf P d) k fs = some ls → ∀ (px py xs ys : List Value), px.length = k → py.length = k → Fit ls xs → Fit ls ys →
    ∃ r : Bool, (Op.eqFields dd (px ++ xs).toArray (py ++ ys).toArray fs).run P w = .ok r w ∧ (r = true ↔ xs = ys)
  | [], k, ls, h, px, py, xs, ys, h1, h2, hx, hy => by
    simp only [leavesGo, Option.some.injEq] at h
    subst h
    cases xs with
    | cons _ _ => exact hx.elim
    | nil =>
      cases ys with
      | cons _ _ => exact hy.elim
      | nil => exact ⟨true, by simp [Op.eqFields], by simp⟩
  | f :: fs, k, ls, h, px, py, xs, ys, h1, h2, hx, hy => by
    unfold leavesGo at h
    split at h
    rotate_left
    · cases h
    rename_i hc
    simp only [Bool.and_eq_true, bne_iff_ne, ne_eq, beq_iff_eq] at hc
    obtain ⟨hn, ho⟩ := hc
    cases hg : leavesOf P d f.type with
    | none => rw [hg] at h; simp at h
    | some l =>
      rw [hg] at h
      simp only at h
      split at h
      rotate_left
      · cases h
      rename_i hsz
      simp only [beq_iff_eq] at hsz
      simp only [Option.map_eq_some_iff] at h
      obtain ⟨l2, hl2, rfl⟩ := h
      obtain ⟨xa, xb, rfl, hxa, hxb⟩ := hx.split
      obtain ⟨ya, yb, rfl, hya, hyb⟩ := hy.split
      have p1 := run_part_leaf (w := w) hg hsz (px := px) (qx := xb) hxa
      have p2 := run_part_leaf (w := w) hg hsz (px := py) (qx := yb) hya
      rw [h1] at p1
      rw [h2] at p2
      obtain ⟨r, hr, hri⟩ := IH f.type l hg w xa ya hxa hya
      obtain ⟨r', hr', hri'⟩ := run_fields_leaf (w := w) IH fs (k + l.length) l2 hl2 (px ++ xa) (py ++ ya) xb yb (by rw [List.length_append, h1, hxa.len]) (by rw [List.length_append, h2, hya.len]) hxb hyb
      rw [List.append_assoc, List.append_assoc] at hr'
      simp only [Op.eqFields, hn, ne_eq, not_false_eq_true, if_true, ho, Sem.run_bind, p1, p2, Result.andThen_ok, hr]
      have hla : xa.length = ya.length := by rw [hxa.len, hya.len]
      cases r with
      | false => exact ⟨false, by simp, by
          constructor
          · intro q; cases q
          · intro q; exact absurd (hri.2 (List.append_inj q hla).1) (by simp)⟩
      | true => exact ⟨r', by simpa using hr', by
          rw [hri', hri.1 rfl]; simp⟩
theorem run_eqL : ∀ (d : Nat) (t : TypeId) (ls : List Leaf), leavesOf P d t = some ls → ∀ dd, EqL P (dd + d) t ls
  | 0, t, ls, h, dd => by simp [leavesOf] at h
  | d + 1, t, ls, h, dd => by
    intro w xs ys hx hy
    have h0 := h
    unfold leavesOf at h
    cases hu : P.underlying t with
    | none => simp [hu] at h
    | some td =>
      cases td <;> simp only [hu] at h <;> try (cases h; done)
      case bool =>
        simp only [Option.some.injEq] at h; subst h
        obtain ⟨x, rfl⟩ : ∃ v, xs = [v] := by cases xs with
          | nil => exact hx.elim
          | cons v vs => cases vs with
            | nil => exact ⟨v, rfl⟩
            | cons _ _ => exact hx.2.elim
        obtain ⟨y, rfl⟩ : ∃ v, ys = [v] := by cases ys with
          | nil => exact hy.elim
          | cons v vs => cases vs with
            | nil => exact ⟨v, rfl⟩
            | cons _ _ => exact hy.2.elim
        obtain ⟨a, rfl⟩ := hx.1
        obtain ⟨b, rfl⟩ := hy.1
        have e1 : valOf P t [.bool a] = .bool a := by unfold valOf; rw [hu]; rfl
        have e2 : valOf P t [.bool b] = .bool b := by unfold valOf; rw [hu]; rfl
        rw [e1, e2]
        exact ⟨a == b, run_equalIn_bool' w (dd + d) t a b hu, by simp⟩
      case int q =>
        simp only [Option.some.injEq] at h; subst h
        obtain ⟨x, rfl⟩ : ∃ v, xs = [v] := by cases xs with
          | nil => exact hx.elim
          | cons v vs => cases vs with
            | nil => exact ⟨v, rfl⟩
            | cons _ _ => exact hx.2.elim
        obtain ⟨y, rfl⟩ : ∃ v, ys = [v] := by cases ys with
          | nil => exact hy.elim
          | cons v vs => cases vs with
            | nil => exact ⟨v, rfl⟩
            | cons _ _ => exact hy.2.elim
        obtain ⟨a, rfl⟩ := hx.1
        obtain ⟨b, rfl⟩ := hy.1
        have e1 : valOf P t [.int q a] = .int q a := by unfold valOf; rw [hu]; rfl
        have e2 : valOf P t [.int q b] = .int q b := by unfold valOf; rw [hu]; rfl
        rw [e1, e2]
        exact ⟨a == b, run_equalIn_int w (dd + d) t q q a b hu, by simp⟩
      case string =>
        simp only [Option.some.injEq] at h; subst h
        obtain ⟨x, rfl⟩ : ∃ v, xs = [v] := by cases xs with
          | nil => exact hx.elim
          | cons v vs => cases vs with
            | nil => exact ⟨v, rfl⟩
            | cons _ _ => exact hx.2.elim
        obtain ⟨y, rfl⟩ : ∃ v, ys = [v] := by cases ys with
          | nil => exact hy.elim
          | cons v vs => cases vs with
            | nil => exact ⟨v, rfl⟩
            | cons _ _ => exact hy.2.elim
        obtain ⟨a, rfl⟩ := hx.1
        obtain ⟨b, rfl⟩ := hy.1
        have e1 : valOf P t [.string a] = .string a := by unfold valOf; rw [hu]; rfl
        have e2 : valOf P t [.string b] = .string b := by unfold valOf; rw [hu]; rfl
        rw [e1, e2]
        refine ⟨a.toList == b.toList, run_equalIn_string w (dd + d) t a b hu, ?_⟩
        rw [beq_iff_eq, ByteArray.toList_eq, ByteArray.toList_eq]
        exact ⟨fun q => by rw [show a = b from Go.WideShapes.bytes_inj q], fun q => by simp only [List.cons.injEq, Value.string.injEq, and_true] at q; rw [q]⟩
      case struct fs =>
        split at h
        · cases h
        rename_i hp
        have hf : P.fieldsOf t = fs := by simp [Program.fieldsOf, hu]
        have e : ∀ zs : List Value, valOf P t zs = .agg zs.toArray := fun zs => by unfold valOf; rw [hu]
        rw [e, e]
        have hr := run_equalIn_struct (P := P) w (dd + d) t xs.toArray ys.toArray (by rw [hf]; exact hu) (by simpa using hp)
        rw [hf] at hr
        obtain ⟨r, h1, h2⟩ := run_fields_leaf (w := w) (fun t' ls' h' => run_eqL d t' ls' h' dd) fs.toList 0 ls h [] [] xs ys rfl rfl hx hy
        exact ⟨r, by rw [show dd + (d + 1) = (dd + d) + 1 from rfl, hr]; simpa using h1, h2⟩
end
section
variable {P : Program} {ρ : Operand → Value} {w : World} {d : Option Tmp} {t : TypeId} {pos : String} {af : Array Edge} {g : Option (Nat × Bool)} {x y : Operand} {xt yt : TypeId} {ls : List Leaf} {xs ys : List Value}
theorem eqs_run (h : eqsOf P xt = some ls) (h1 : Fit ls xs) (h2 : Fit ls ys) : P.eqGuardType P.depth xt = false ∧ ∃ r : Bool, (Op.equal xt (.agg xs.toArray) (.agg ys.toArray)).run P w = .ok r w ∧ (r = true ↔ xs = ys) := by
  unfold eqsOf at h
  cases hu : P.underlying xt with
  | none => simp [hu] at h
  | some td =>
    cases td <;> simp only [hu] at h <;> try (cases h; done)
    rename_i fs
    split at h
    · cases h
    rename_i hg
    refine ⟨by simpa using hg, ?_⟩
    have e : ∀ zs : List Value, valOf P xt zs = .agg zs.toArray := fun zs => by unfold valOf; rw [hu]
    have := run_eqL (P := P) 8 xt ls h 9992 w xs ys h1 h2
    rw [e, e] at this
    exact this
theorem rq_eql {p : Prop} {dp : Decidable p} (h : eqsOf P xt = some ls) (hx : ρ x = .agg xs.toArray) (hy : ρ y = .agg ys.toArray) (h1 : Fit ls xs) (h2 : Fit ls ys) (hp : p ↔ xs = ys) :
    (execOp ρ ⟨d, .binOp .eql xt x y yt, t, pos, af, g⟩).run P w = .ok (.value (.bool (@decide p dp))) w := by
  obtain ⟨hg, r, hr, hi⟩ := eqs_run (P := P) (w := w) h h1 h2
  have : r = decide p := by rw [Bool.eq_iff_iff, hi, decide_eq_true_eq, hp]
  simp [execOp, hx, hy, eqGuard, binOp, hr, hg, this]
theorem rq_neq {p : Prop} {dp : Decidable p} (h : eqsOf P xt = some ls) (hx : ρ x = .agg xs.toArray) (hy : ρ y = .agg ys.toArray) (h1 : Fit ls xs) (h2 : Fit ls ys) (hp : p ↔ xs = ys) :
    (execOp ρ ⟨d, .binOp .neq xt x y yt, t, pos, af, g⟩).run P w = .ok (.value (.bool (decide (¬ p)))) w := by
  obtain ⟨hg, r, hr, hi⟩ := eqs_run (P := P) (w := w) h h1 h2
  have : r = decide p := by rw [Bool.eq_iff_iff, hi, decide_eq_true_eq, hp]
  simp [execOp, hx, hy, eqGuard, binOp, hr, hg, this]
end
end Go.Eng

/-
  The engine: a loop over a string's signs. Generic: no program.
-/
namespace Go.Eng
set_option linter.unusedVariables false
set_option linter.unusedSimpArgs false
open Go.RowKit

/-- What goes over a string, and where it is. -/
def StrAt (w : World) (it : Nat) (l : List UInt8) (pos : Nat) : Prop := w.heap[it]? = some (.stringIter (str l) pos)
theorem StrAt.ext {w w' : World} {it : Nat} {l : List UInt8} {pos : Nat} (h : StrAt w it l pos) (he : Ext w w') : StrAt w' it l pos := by
  unfold StrAt at *; rw [he.block it (heap_lt h)]; exact h
/-- A sign that is one byte is that byte; all others are behind 127. -/
def signAt (l : List UInt8) (pos : Nat) (r : Int) (n : Nat) : Prop := ∃ h : pos < l.length, 1 ≤ n ∧ ((l[pos]'h).toNat < 128 → r = (l[pos]'h).toNat ∧ n = 1) ∧ (128 ≤ (l[pos]'h).toNat → 128 ≤ r)
section
variable {P : Program} {w : World}
theorem run_nextS {ty : TypeId} {it : Nat} {l : List UInt8} {pos : Nat} (h : StrAt w it l pos) :
    (l.length ≤ pos ∧ (Instr.next (.pointer (some ⟨it, 0, none⟩)) true ty).run P w = .ok (.tuple #[.bool false]) w) ∨
    ∃ r n w', signAt l pos r n ∧ (Instr.next (.pointer (some ⟨it, 0, none⟩)) true ty).run P w = .ok (.tuple #[.bool true, .int .i64 pos, .int .i32 r]) w' ∧ Chg it w w' ∧ StrAt w' it l (pos + n) := by
  have hsz : (str l).size = l.length := by simp [str, ByteArray.size]
  have hi : w.heap[it]? = some (.stringIter (str l) pos) := h
  by_cases hp : pos < (str l).size
  · right
    have hpl : pos < l.length := by omega
    have hb : (str l)[pos]'hp = l[pos]'hpl := by
      show (str l).data[pos] = _
      simp [str]
    refine ⟨((Utf8.decode (str l) pos).1 : Int), (Utf8.decode (str l) pos).2, { w with heap := w.heap.setIfInBounds it (.stringIter (str l) (pos + (Utf8.decode (str l) pos).2)) }, ?_, ?_, ?_, ?_⟩
    · by_cases ha : ((str l)[pos]'hp).toNat < 128
      · rw [decode_ascii (str l) pos hp ha]
        rw [hb] at ha ⊢
        exact ⟨hpl, Nat.le_refl _, fun _ => ⟨rfl, rfl⟩, fun q => by omega⟩
      · obtain ⟨h1, h2⟩ := decode_high (str l) pos hp (by omega)
        rw [hb] at ha
        exact ⟨hpl, h2, fun q => absurd q ha, fun _ => by omega⟩
    · simp [Instr.next, getObj, setObj, Sem.run, hi, hp, goInt]
    · exact ⟨rfl, rfl, rfl, by simp, fun k hk hne => by
        show (w.heap.setIfInBounds it _)[k]? = _
        rw [Array.getElem?_setIfInBounds_ne (fun q => hne q.symm)]⟩
    · show (w.heap.setIfInBounds it _)[it]? = _
      rw [Array.getElem?_setIfInBounds_self_of_lt (heap_lt hi)]
  · left
    refine ⟨by omega, ?_⟩
    simp [Instr.next, getObj, Sem.run, hi, hp]
end
section
variable {P : Program} {n : Nat} {N : Env → World → Prop} {X : Exit → Env → World → Prop} {e : Env} {ops : Array Oper} {rest : List Oper} {d : Option Tmp} {ty : TypeId} {pos : String} {af : Array Edge} {w : World}
theorem op_rangeS {x : Operand} {t : TypeId} {l : List UInt8} (hd : dOk n d = true) (hx : ev e x = .string (str l)) (hu : P.underlying t = some .string)
    (h : ∀ w' it, Ext w w' → StrAt w' it l 0 → w.heap.size = it → WL P n ops N X rest (putO e d (.pointer (some ⟨it, 0, none⟩))) w') : WL P n ops N X (⟨d, .range t x, ty, pos, af, none⟩ :: rest) e w := by
  refine op hd (v := .pointer (some ⟨w.heap.size, 0, none⟩)) (w' := w.iter (str l) 0) ?_ (h _ _ (Ext.alloc _ _) (World.iter_heap w _ _) rfl)
  simp [execOp, hx, run_range_string w t (str l) hu]
theorem op_nextS {x : Operand} {it : Nat} {l : List UInt8} {p : Nat} (hd : dOk n d = true) (hx : ev e x = .pointer (some ⟨it, 0, none⟩)) (hr : StrAt w it l p)
    (h : ∀ w' b i r, Chg it w w' → (b = false → l.length ≤ p ∧ StrAt w' it l p) → (b = true → i = .int .i64 p ∧ ∃ c m, r = .int .i32 c ∧ signAt l p c m ∧ StrAt w' it l (p + m)) → WL P n ops N X rest (putO e d (nextV b i r)) w') :
    WL P n ops N X (⟨d, .next x true, ty, pos, af, none⟩ :: rest) e w := by
  rcases run_nextS (P := P) (ty := ty) hr with ⟨h1, h2⟩ | ⟨c, m, w', h1, h2, h3, h4⟩
  · exact op hd (v := .tuple #[.bool false]) (by simp [execOp, hx, h2]) (h w false (.bool false) (.bool false) (Chg.of_ext (Ext.refl _)) (fun _ => ⟨h1, hr⟩) (fun q => by cases q))
  · exact op hd (v := .tuple #[.bool true, .int .i64 p, .int .i32 c]) (by simp [execOp, hx, h2]) (h w' true (.int .i64 p) (.int .i32 c) h3 (fun q => by cases q) (fun _ => ⟨rfl, c, m, rfl, h1, h4⟩))
end
end Go.Eng

/-
  The engine: a buffer (strings.Builder): pointers turned to unsafe.Pointer and back, its bytes as a string. Generic: no program.
-/
namespace Go.Eng
set_option linter.unusedVariables false
set_option linter.unusedSimpArgs false
open Go.RowKit

section
variable {P : Program} {ρ : Operand → Value} {w : World} {d : Option Tmp} {t : TypeId} {pos : String} {af : Array Edge} {g : Option (Nat × Bool)} {x y : Operand} {xt yt el : TypeId}
/-- A pointer, whatever it is, and nil. -/
theorem rp_nil {A : Option Addr} (hx : ρ x = .pointer A) (hy : ρ y = .pointer none) (hu : P.underlying xt = some (.pointer el)) : (execOp ρ ⟨d, .binOp .eql xt x y yt, t, pos, af, g⟩).run P w = .ok (.value (.bool (decide (A = none)))) w := by
  cases A with
  | none => rw [rpn_eql hx hy hu]; rfl
  | some a => rw [rp_eql hx hy hu]; simp
theorem rp_same {a : Addr} {j : TypeInfo} (hx : ρ x = .pointer (some a)) (hy : ρ y = .pointer (some a)) (hu : P.underlying xt = some (.pointer el)) (hi : P.info? el = some j) : (execOp ρ ⟨d, .binOp .neq xt x y yt, t, pos, af, g⟩).run P w = .ok (.value (.bool (decide False))) w := by
  have h := Lib.run_neq_ptr_same (P := P) w a hu hi
  simp [execOp, hx, hy, eqGuard, h]
theorem r_toUnsafe {b : Nat} {c : Array Value} {src dst tb te : TypeId} {j : TypeInfo} (hx : ρ x = .pointer (some ⟨b, 0, none⟩)) (hs : P.underlying src = some (.pointer te)) (hd : P.underlying dst = some .unsafePointer) (ht : P.info? te = some j) (hj : j.size ≠ 0) (hb : Blk w b c tb) (hc : 0 < c.size) :
    (execOp ρ ⟨d, .convert src dst x, t, pos, af, g⟩).run P w = .ok (.value (.pointer (some ⟨b, 0, none⟩))) w := by
  have hsh : w.shape? b = some (tb, c.size) := by unfold Blk at hb; simp [World.shape?, hb]
  have h := Lib.run_to_unsafe (P := P) w (src := src) (dst := dst) ⟨b, 0, none⟩ hs hd ht hj hsh hc
  simp [execOp, hx, h]
theorem r_fromUnsafe {b : Nat} {c : Array Value} {src dst tb tu : TypeId} {j : TypeInfo} (hx : ρ x = .pointer (some ⟨b, 0, none⟩)) (hs : P.underlying src = some .unsafePointer) (hd : P.underlying dst = some (.pointer tu)) (hu : P.info? tu = some j) (hb : Blk w b c tb) (hl : liesAt P P.depth tb (c.size / P.cellsOf tb) 0 tu 1 = true) :
    (execOp ρ ⟨d, .convert src dst x, t, pos, af, g⟩).run P w = .ok (.value (.pointer (some ⟨b, 0, none⟩))) w := by
  have hsh : w.shape? b = some (tb, c.size) := by unfold Blk at hb; simp [World.shape?, hb]
  have h := Lib.run_from_unsafe (P := P) w (src := src) (dst := dst) ⟨b, 0, none⟩ hs hd hu hsh hl
  simp [execOp, hx, h]
theorem r_noEscape {f : FuncId} {fn : Func} {v : Value} {ts : Array TypeId} (hf : P.funcs[f]? = some fn) (hn : (fn.name == "runtime.NumGoroutine") = false) (hb : fn.body.isNone = true) (h1 : Extern.findNext fn = none) (h2 : Extern.find fn = some Extern.AbiNoEscape.same)
    (hx : ρ x = v) (hfn : ρ (.func f) = .func (.func f) #[] #[]) :
    (execOp ρ ⟨d, .call { callee := .value (.func f), args := #[x], argTypes := ts }, t, pos, af, g⟩).run P w = .ok (.value v) w := by
  have hc := run_callFunc_extern (P := P) hf hn hb h1 h2 #[v] w
  rw [Lib.run_noEscape] at hc
  have : execOp ρ ⟨d, .call { callee := .value (.func f), args := #[x], argTypes := ts }, t, pos, af, g⟩ = callFunc f #[v] := by
    simp [execOp, resolve, hfn, invoke, go_sem, hx]
  rw [this, hc]
  rfl
end

/-- A buffer in block b: its bytes in a row of its own, from B on. -/
def BufAt (T e : TypeId) (B b : Nat) (w : World) (bs : List UInt8) : Prop :=
  ∃ A v, Blk w b #[.pointer A, v] T ∧ (A = none ∨ A = some ⟨b, 0, none⟩) ∧ w.ownsRow B e 1 v bs.length (Lib.byteCells bs) ∧ (bs = [] → v = .slice none 0 0)
theorem BufAt.new {T e : TypeId} {b : Nat} (B : Nat) {w : World} (h : Blk w b #[.pointer none, .slice none 0 0] T) : BufAt T e B b w [] := ⟨none, _, h, Or.inl rfl, World.ownsRow_nil w B e 1, fun _ => rfl⟩
theorem BufAt.lt {T e : TypeId} {B b : Nat} {w : World} {bs : List UInt8} (h : BufAt T e B b w bs) : b < w.heap.size := by obtain ⟨_, _, hb, _⟩ := h; exact hb.lt
/-- What a buffer's turn may touch. -/
abbrev bufZ (B b : Nat) : Nat → Prop := fun k => k = b ∨ B ≤ k
theorem owns_ne {w : World} {B b n : Nat} {e T : TypeId} {v : Value} {xs : List Value} {c : Array Value} (h : w.ownsRow B e 1 v n xs) (hb : Blk w b c T) (hT : T ≠ e) : v.ownBlock ≠ some b := Lib.ownBlock_ne h hb hT
theorem owns_at {w w' : World} {B n : Nat} {e : TypeId} {v : Value} {xs : List Value} (h : w.ownsRow B e 1 v n xs) (hs : ∀ k, v.ownBlock = some k → w'.heap[k]? = w.heap[k]?) : w'.ownsRow B e 1 v n xs := by
  obtain ⟨h1, h2⟩ := h
  refine ⟨h1, ?_⟩
  rcases h2 with h2 | ⟨g, cap, cur, rfl, h3, h4, h5⟩
  · exact Or.inl h2
  · exact Or.inr ⟨g, cap, cur, rfl, h3, by rw [hs g rfl]; exact h4, h5⟩
theorem owns_ext {w w' : World} {B n : Nat} {e : TypeId} {v : Value} {xs : List Value} (h : w.ownsRow B e 1 v n xs) (he : Ext w w') : w'.ownsRow B e 1 v n xs := owns_at h (fun k hk => he.block k (h.lt k hk).2)
theorem owns_cell {w : World} {B n : Nat} {e : TypeId} {v : Value} {xs : List Value} (h : w.ownsRow B e 1 v n xs) : v.oneCell' = true := by
  rcases h.2 with ⟨rfl, _⟩ | ⟨g, cap, cur, rfl, _⟩ <;> rfl
theorem owns_slice {w : World} {B n : Nat} {e : TypeId} {v : Value} {xs : List Value} (h : w.ownsRow B e 1 v n xs) : ∃ A c, v = .slice A n c := by
  rcases h.2 with ⟨rfl, rfl⟩ | ⟨g, cap, cur, rfl, _⟩
  · exact ⟨_, _, rfl⟩
  · exact ⟨_, _, rfl⟩
/-- Whatever else happens. -/
theorem BufAt.mv {T e : TypeId} {B b : Nat} {Z : Nat → Prop} {w w' : World} {bs : List UInt8} (h : BufAt T e B b w bs) (he : Mv Z w w') (h1 : ¬ Z b) (h2 : ∀ k, B ≤ k → k < w.heap.size → ¬ Z k) : BufAt T e B b w' bs := by
  obtain ⟨A, v, hb, hA, hO, hn⟩ := h
  exact ⟨A, v, he.blk hb h1, hA, owns_at hO (fun k hk => he.block k (hO.lt k hk).2 (h2 k (hO.lt k hk).1 (hO.lt k hk).2)), hn⟩
theorem BufAt.ext {T e : TypeId} {B b : Nat} {w w' : World} {bs : List UInt8} (h : BufAt T e B b w bs) (he : Ext w w') : BufAt T e B b w' bs := h.mv (Z := fun _ => False) (Mv.of_ext he) id (fun _ _ _ => id)
theorem Mv.mono {Z Z' : Nat → Prop} {w w' : World} (h : Mv Z w w') (hz : ∀ k, k < w.heap.size → Z k → Z' k) : Mv Z' w w' := ⟨h.os, h.tape, h.output, h.size, fun k hk hn => h.block k hk (fun q => hn (hz k hk q))⟩
theorem Mv.of_grown {B b : Nat} {w w' : World} {r : Option Nat} (h : w.grownBy w' r) (hr : ∀ k, r = some k → B ≤ k) : Mv (bufZ B b) w w' :=
  ⟨h.os, h.tape, h.output, h.size, fun k hk hn => h.block k hk (fun q => hn (Or.inr (hr k q.symm)))⟩
/-- Outside: nothing that was there was touched. -/
theorem Mv.buf_ext {B b : Nat} {a w w' : World} (h : Ext a w) (hm : Mv (bufZ B b) w w') (h1 : a.heap.size ≤ b) (h2 : a.heap.size ≤ B) : Ext a w' :=
  Below.trans h ⟨hm.os, hm.tape, hm.output, hm.size, fun k (hk : k < a.heap.size) => hm.block k (by have := h.size; omega) (fun q => by rcases q with q | q <;> omega)⟩
theorem grown_blk {w w' : World} {r : Option Nat} {g : Nat} {c : Array Value} {t : TypeId} (h : w.grownBy w' r) (hb : Blk w g c t) (hne : r ≠ some g) : Blk w' g c t := by
  unfold Blk at *; rw [h.block g (heap_lt hb) (fun q => hne q.symm)]; exact hb
section
variable {P : Program} {w : World} {n : Nat} {N : Env → World → Prop} {X : Exit → Env → World → Prop} {e : Env} {ops : Array Oper} {rest : List Oper} {d : Option Tmp} {ty : TypeId} {pos : String} {af : Array Edge}
/-- A string is appended to bytes of one's own. -/
theorem op_appStr {s x : Operand} {t u el : TypeId} {B : Nat} {v : Value} {l m : List UInt8} (hd : dOk n d = true) (hsv : ev e s = v) (hx : ev e x = .string (str m)) (hu : P.underlying t = some (.slice el)) (hus : P.underlying u = some .string)
    (hs : (P.info? el).map (·.size) = some 1) (hy : (P.info? el).map (·.bytes) = some 1) (hz : (P.info? el).bind (·.zero) = some (.int .u8 0)) (hown : w.ownsRow B el 1 v l.length (Lib.byteCells l)) (hsz : l.length + m.length ≤ 140737488355328) (hB : B ≤ w.heap.size)
    (h : ∀ v' w', w'.ownsRow B el 1 v' (l ++ m).length (Lib.byteCells (l ++ m)) → w.grownBy w' v.ownBlock → (l ++ m = [] → v = .slice none 0 0 → v' = .slice none 0 0) → WL P n ops N X rest (putO e d v') w') :
    WL P n ops N X (⟨d, .call { callee := .builtin .append, args := #[s, x], argTypes := #[t, u] }, ty, pos, af, none⟩ :: rest) e w := by
  obtain ⟨i, hi, his, hib, hiz⟩ := info_of hs hy hz
  obtain ⟨v', w', hr, h1, h2, h3⟩ := Lib.run_append_own_string (P := P) w B t u ty el i hu hus hi hiz his hib v l.length _ hown (str m) (by rw [str_size]; unfold maxLen; omega) (by rw [str_size]; exact hsz) hB
  refine op hd (by simp [execOp, resolve, invoke, builtin, hsv, hx, hr]) (h v' w' ?_ h2 (fun q k => h3.2 ⟨k, by have := (List.append_eq_nil_iff.1 q).2; subst this; rfl⟩))
  rw [List.length_append, Lib.byteCells_append]
  exact h1
/-- Bytes of a row. -/
theorem op_appRow {s x : Operand} {t el : TypeId} {B c : Nat} {v : Value} {a : Addr} {l m : List UInt8} (hd : dOk n d = true) (hsv : ev e s = v) (hx : ev e x = .slice (some a) m.length c) (hu : P.underlying t = some (.slice el))
    (hs : (P.info? el).map (·.size) = some 1) (hy : (P.info? el).map (·.bytes) = some 1) (hz : (P.info? el).bind (·.zero) = some (.int .u8 0)) (hown : w.ownsRow B el 1 v l.length (Lib.byteCells l)) (hm : ∀ j u, (Lib.byteCells m)[j]? = some u → w.cell? (a.add j) = some u) (hsz : l.length + m.length ≤ 140737488355328) (hB : B ≤ w.heap.size)
    (h : ∀ v' w', w'.ownsRow B el 1 v' (l ++ m).length (Lib.byteCells (l ++ m)) → w.grownBy w' v.ownBlock → (l ++ m = [] → v = .slice none 0 0 → v' = .slice none 0 0) → WL P n ops N X rest (putO e d v') w') :
    WL P n ops N X (⟨d, .call { callee := .builtin .append, args := #[s, x], argTypes := #[t, t] }, ty, pos, af, none⟩ :: rest) e w := by
  obtain ⟨i, hi, his, hib, hiz⟩ := info_of hs hy hz
  obtain ⟨v', w', hr, h1, h2, h3⟩ := run_append_own (P := P) w B t ty el i (.int .u8 0) 1 1 hu hi hiz his hib rfl (by decide) v l.length _ hown a m.length c (Lib.byteCells m) (by rw [Lib.byteCells_length, Nat.mul_one]) hm
    (fun u hu => by simp only [Lib.byteCells, List.mem_map] at hu; obtain ⟨b, _, rfl⟩ := hu; rfl) (by unfold maxLen; omega) (by rw [Nat.mul_one]; exact hsz) hB
  refine op hd (by simp [execOp, resolve, invoke, builtin, hsv, hx, hr]) (h v' w' ?_ h2 (fun q k => h3.2 ⟨k, by have := (List.append_eq_nil_iff.1 q).2; subst this; rfl⟩))
  rw [List.length_append, Lib.byteCells_append]
  exact h1
end
section
variable {P : Program} {ρ : Operand → Value} {w : World} {d : Option Tmp} {t : TypeId} {pos : String} {af : Array Edge} {g : Option (Nat × Bool)} {x y : Operand} {ts : Array TypeId} {pt it el : TypeId}
theorem r_sliceData {A : Option Addr} {n c : Nat} (hx : ρ x = .slice A n c) (hc : A = none ∨ c ≠ 0) : (execOp ρ ⟨d, .call { callee := .builtin .unsafeSliceData, args := #[x], argTypes := ts }, t, pos, af, g⟩).run P w = .ok (.value (.pointer A)) w := by
  have h : (Builtin.unsafeSliceData_ ts t #[.slice A n c]).run P w = .ok (.pointer A) w := by
    cases A with
    | none => rfl
    | some a => exact Lib.run_unsafeSliceData_row w ts t a n c (hc.resolve_left (by simp))
  simp [execOp, resolve, invoke, builtin, hx, h]
theorem r_unsafeStr {A : Option Addr} {n : Int} {v : Value} {w' : World} (hx : ρ x = .pointer A) (hy : ρ y = .int .i64 n) (h : (Builtin.unsafeString_ ts t #[.pointer A, .int .i64 n]).run P w = .ok v w') : (execOp ρ ⟨d, .call { callee := .builtin .unsafeString, args := #[x, y], argTypes := ts }, t, pos, af, g⟩).run P w = .ok (.value v) w' := by
  simp [execOp, resolve, invoke, builtin, hx, hy, h]
/-- The bytes of a row of one's own, as a string: they are frozen. -/
theorem run_string {B : Nat} {A : Option Addr} {c : Nat} {l : List UInt8} (hown : w.ownsRow B el 1 (.slice A l.length c) l.length (Lib.byteCells l)) (hp : P.underlying pt = some (.pointer el)) (hc : P.cellsOf el = 1) (hl : l.length ≤ 9223372036854775807) :
    ∃ w', (Builtin.unsafeString_ #[pt, it] t #[.pointer A, .int .i64 l.length]).run P w = .ok (.string (str l)) w' ∧ Mv (fun k => B ≤ k) w w' := by
  by_cases h0 : l = []
  · subst h0
    refine ⟨w, ?_, Mv.of_ext (Ext.refl w)⟩
    exact Lib.run_unsafeString_none w pt it t A
  · rcases hown.2 with ⟨hv, hn⟩ | ⟨gg, cap, cur, hv, h1, h2, h3, h4, h5, h6⟩
    · exact absurd (List.eq_nil_of_length_eq_zero hn) h0
    · simp only [Value.slice.injEq] at hv
      obtain ⟨rfl, -, rfl⟩ := hv
      have hsh : w.shape? gg = some (el, cur.size) := by simp [World.shape?, h2]
      refine ⟨_, Lib.run_unsafeString_row w pt it t el hp hc gg cur.size hsh l h0 (by omega) hl (fun j x hj => ?_), ?_⟩
      · exact hown.cells rfl j _ (by rw [Lib.byteCells, List.getElem?_map, hj]; rfl)
      · exact (Mv.of_chg (Chg.freeze w ⟨gg, 0, none⟩ l.length) (Z := fun k => B ≤ k) h1)
end
section
variable {P : Program} {ρ : Operand → Value} {w : World} {d : Option Tmp} {t : TypeId} {pos : String} {af : Array Edge} {g : Option (Nat × Bool)} {x y : Operand} {xt yt : TypeId}
theorem r_shrU8 {n k : Nat} {ky : IntKind} (hx : ρ x = .int .u8 n) (hy : ρ y = .int ky k) (hk : k ≤ 8) : (execOp ρ ⟨d, .binOp .shr xt x y yt, t, pos, af, g⟩).run P w = .ok (.value (.int .u8 (n / 2 ^ k : Nat))) w := by
  rw [r_shr hx hy (Int.natCast_nonneg _)]
  have : min (k : Int).toNat IntKind.u8.bits = k := by
    simp [IntKind.bits]; omega
  rw [this]
  congr 3
  rw [Int.fdiv_eq_ediv_of_nonneg _ (Int.le_of_lt (Int.pow_pos (by decide)))]
  simp
theorem and15 : ∀ n : Fin 256, bits .and .u8 (n.1 : Int) 15 = ((n.1 % 16 : Nat) : Int) := by decide +kernel
theorem r_and15 {n : Nat} (hx : ρ x = .int .u8 n) (hy : ρ y = .int .u8 15) (hn : n < 256) : (execOp ρ ⟨d, .binOp .and xt x y yt, t, pos, af, g⟩).run P w = .ok (.value (.int .u8 (n % 16 : Nat))) w := by
  rw [r_and hx hy, and15 ⟨n, hn⟩]
end
section
variable {P : Program} {ρ : Operand → Value} {w : World} {d : Option Tmp} {t : TypeId} {pos : String} {af : Array Edge} {g : Option (Nat × Bool)} {x y : Operand} {xt yt tx : TypeId} {vx : Value} {ms : Array (String × TypeId)}
/-! interface values and nil -/
theorem ri_neq_nil {c : Value} (hx : ρ x = .nilIface) (hy : ρ (.const c) = .nilIface) (hu : P.underlying xt = some (.interface ms)) : (execOp ρ ⟨d, .binOp .neq xt x (.const c) yt, t, pos, af, g⟩).run P w = .ok (.value (.bool (decide False))) w := by
  have h : ∀ n, (Op.equalIn (n + 1) xt .nilIface .nilIface).run P w = .ok true w := fun n => by simp only [Op.equalIn, Sem.run_bind, run_underlying hu, Result.andThen_ok]; rfl
  have h' : (Op.equal xt .nilIface .nilIface).run P w = .ok true w := h 9999
  simp [execOp, hx, hy, go_sem, binOp, h']
theorem ri_neq_some (hx : ρ x = .iface tx vx) (hy : ρ y = .nilIface) (hu : P.underlying xt = some (.interface ms)) : (execOp ρ ⟨d, .binOp .neq xt x y yt, t, pos, af, g⟩).run P w = .ok (.value (.bool (decide True))) w := by
  have h : ∀ n, (Op.equalIn (n + 1) xt (.iface tx vx) .nilIface).run P w = .ok false w := fun n => by simp only [Op.equalIn, Sem.run_bind, run_underlying hu, Result.andThen_ok]; rfl
  have h' : (Op.equal xt (.iface tx vx) .nilIface).run P w = .ok false w := h 9999
  simp [execOp, hx, hy, go_sem, binOp, h']
theorem ri_neq_dec {c : Value} {rr : Value} {p : Prop} {dp : Decidable p} (hx : ρ x = rr) (hy : ρ (.const c) = .nilIface) (hu : P.underlying xt = some (.interface ms)) (h0 : ¬ p → rr = .nilIface) (h1 : p → ∃ tx vx, rr = .iface tx vx) :
    (execOp ρ ⟨d, .binOp .neq xt x (.const c) yt, t, pos, af, g⟩).run P w = .ok (.value (.bool (@decide p dp))) w := by
  by_cases hp : p
  · obtain ⟨tx, vx, rfl⟩ := h1 hp
    rw [ri_neq_some hx hy hu]; simp [hp]
  · have := h0 hp
    subst this
    rw [ri_neq_nil hx hy hu]; simp [hp]
end
end Go.Eng

/-
  The engine: from a walk to the row, the world's shape at hand. Generic: no program.
-/
namespace Go.Eng
open Go
variable {H : Type} {enc : TypeId × Value → H}
/-- A condition on what is laid, and the world's shape. -/
theorem of_change_and_shaped {a : Assume} {C : Checked} {os : Os} {f : FuncId} {fn : Func} {s : ChangeSpec} {conds : List PathCond} {apart fresh handsOn again : Bool} {X : World → Array Value → Prop}
    (hX : ∀ (w w' : World) (args : Array Value), w.heap = w'.heap → X w args → X w' args)
    (own : ownKnob C.prog.godebug = none) (started : os.Started) (noInit : C.prog.inits.idxOf? f = none) (hfn : C.prog.funcs[f]? = some fn)
    (witness : ∃ (w : World) (tape : Tape) (i : Input), w.os = os ∧ (w.forCall tape i).Shaped C.prog ∧ i.vars = [] ∧ Input.okWide C.prog (w.forCall tape i) .any w.heap.size f i ∧
      ((s.pre enc C.prog fn conds apart (w.forCall tape i).memory i.args ∧ X (w.forCall tape i).memory i.args) ∧ sizedMet enc C.prog fn (OpenSpec.ofChange s) apart (w.forCall tape i).memory i.args) ∧ a.holds C.prog (lone (Frame.enter C.prog f i.args .normal) [] (w.forCall tape i)))
    (contract : ∀ (W : World) (base : Nat) (args : Array Value) (ds gs : List (DataW H)) (before : List MemPlace),
      (∀ (j : Nat) t v, fn.params[j]? = some t → args[j]? = some v → Value.okWide C.prog W .any base t v) →
      DataW.Whole enc C.prog fn.params.toList s.vars apart W args.toList ds gs before →
      conds.all (PathCond.test C.prog ⟨fn.params.toList, ds, s.plain.varTypes C.prog, gs⟩) = true →
      (DataW.weightsEach C.prog (fn.params.toList ++ s.plain.varTypes C.prog) (ds ++ gs)).all (· ≤ reachBytes) = true → X W args → W.ShapedOpen C.prog →
      a.holds C.prog (lone (Frame.enter C.prog f args .normal) [] W) →
      Calls C.prog f args W fun e W' => ∃ v, e = .returned v ∧ s.post enc C.prog fn apart fresh handsOn again W args v W') :
    ReturnsInHanded a C os f .any (fun w args => (s.pre enc C.prog fn conds apart w args ∧ X w args) ∧ sizedMet enc C.prog fn (OpenSpec.ofChange s) apart w args) (s.post enc C.prog fn apart fresh handsOn again) := by
  refine returnsInHanded_of_calls own started noInit witness ?_
  intro w tape i _ hsh _ hok hpre hholds
  obtain ⟨_, _, _, fn', hfn', _, _, _, _, hval⟩ := hok
  have e : fn' = fn := Option.some.inj (hfn'.symm.trans hfn)
  subst e
  obtain ⟨⟨⟨ds, gs, before, hw, hc⟩, hx⟩, hz⟩ := hpre
  have hw' := DataW.Whole.of_heap (w' := w.forCall tape i) (by rfl) hw
  refine (contract (w.forCall tape i) w.heap.size i.args ds gs before hval hw' hc (hz.weights hw) (hX _ _ _ (by rfl) hx) hsh hholds).mono fun e W' ⟨v, he, hp⟩ => ?_
  subst he
  exact ChangeSpec.post_blind hp
end Go.Eng

