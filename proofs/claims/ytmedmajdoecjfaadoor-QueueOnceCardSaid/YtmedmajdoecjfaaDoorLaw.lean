/-
  The engine: what came in, read as data. Generic: no program.
-/
import Derived.Test.YtmedmajdoecjfaaDoorMem
import Derived.ProofKit
import Derived.OpenShut
import Derived.ShutString
import Derived.ChangeOld
import Derived.SizedLaws
import Derived.Deep.Slices
namespace Go.Eng
set_option linter.unusedVariables false
set_option linter.unusedSimpArgs false
open Go.RowKit Go.ChangeShapes Go.WideShapes Go.ChangeAt

/-- A measure of data that counts each value once at least. -/
structure Bulk {H : Type} (β : DataW H → Nat) : Prop where
  lit : ∀ l, 1 ≤ β (.lit l)
  str : ∀ b, b.length + 1 ≤ β (.lit (.string b))
  nil : 1 ≤ β .nil
  slice : ∀ es sp, (es.map β).sum + 1 ≤ β (.slice es sp)
  agg : ∀ ps, (ps.map β).sum + 1 ≤ β (.agg ps)
/-- Whatever reads as a datum of type t reads as T tells; μ measures it. -/
def Rd (P : Program) {α : Type} (t : TypeId) (T : Ty α) (μ : α → Nat) : Prop :=
  ∀ {H : Type} {enc : TypeId × Value → H} {w : World} {fuel : Nat} {cs : List Value} {x : DataW H × List MemPlace}, DataW.trod enc P w 0 (fun _ => true) true fuel t cs = some x → (∀ n ∈ x.1.weights P t, n ≤ reachBytes) →
    ∃ y, T.R w (old w) y cs ∧ ∀ β : DataW H → Nat, Bulk β → μ y ≤ β x.1

theorem wf_inK {k : IntKind} {n : Int} (h : (Lit.int k n).wf = true) : inK k n := by
  cases k <;> simp [Lit.wf, IntKind.min, IntKind.max, IntKind.signed, IntKind.bits] at h <;> exact ⟨by simp [lo]; omega, by simp [hi]; omega⟩
theorem Rd.int {P : Program} {t : TypeId} {k : IntKind} (ht : P.underlying t = some (.int k)) : Rd P t (Ty.int k) (fun _ => 1) := by
  intro H enc w fuel cs x h hz
  obtain ⟨n, rfl, hx, hw⟩ := DataW.trod_int ht h
  exact ⟨n, ⟨rfl, wf_inK hw⟩, fun β hβ => by rw [hx]; exact hβ.lit _⟩
theorem Rd.byte {P : Program} {t : TypeId} (ht : P.underlying t = some (.int .u8)) : Rd P t Ty.byte (fun _ => 1) := by
  intro H enc w fuel cs x h hz
  obtain ⟨n, rfl, hx, hw⟩ := DataW.trod_int ht h
  have hk := wf_inK hw
  simp only [inK, lo, hi] at hk
  refine ⟨UInt8.ofNat n.toNat, ⟨?_, trivial⟩, fun β hβ => by rw [hx]; exact hβ.lit _⟩
  have : ((UInt8.ofNat n.toNat).toNat : Int) = n := by
    simp
    omega
  show [Value.int IntKind.u8 n] = [Value.int IntKind.u8 ((UInt8.ofNat n.toNat).toNat : Int)]
  rw [this]
theorem Rd.bool {P : Program} {t : TypeId} (ht : P.underlying t = some .bool) : Rd P t Ty.bool (fun _ => 1) := by
  intro H enc w fuel cs x h hz
  obtain ⟨b, rfl, hx⟩ := DataW.trod_bool ht h
  exact ⟨b, ⟨rfl, trivial⟩, fun β hβ => by rw [hx]; exact hβ.lit _⟩
theorem Rd.string {P : Program} {t : TypeId} (ht : P.underlying t = some .string) : Rd P t Ty.string (fun s => s.size + 1) := by
  intro H enc w fuel cs x h hz
  obtain ⟨s, rfl, rfl, hs⟩ := DataW.trod_string ht h
  have := hz s.data.toList.length (by simp [DataW.weights])
  have e : s.data.toList.length = s.size := by simp
  rw [e] at this
  exact ⟨s, ⟨rfl, Nat.le_trans this (by decide)⟩, fun β hβ => by have := hβ.str s.data.toList; rw [e] at this; exact this⟩
theorem sum_le {α β : Type} (f : α → Nat) (g : β → Nat) : ∀ (l : List α) (m : List β), l.length = m.length → (∀ i (h : i < l.length) (h' : i < m.length), f l[i] ≤ g m[i]) → (l.map f).sum ≤ (m.map g).sum
  | [], _, _, _ => by simp
  | _ :: _, [], h, _ => by simp at h
  | x :: l, y :: m, h, hl => by
    have h0 := hl 0 (by simp) (by simp)
    have h1 := sum_le f g l m (by simpa using h) (fun i a b => by have := hl (i + 1) (by simpa using a) (by simpa using b); simpa using this)
    simp only [List.map_cons, List.sum_cons]
    simp only [List.getElem_cons_zero] at h0
    omega
theorem weightsAll_mem {H : Type} {P : Program} {e : TypeId} : ∀ {l : List (DataW H)} {d : DataW H} {n : Nat}, d ∈ l → n ∈ d.weights P e → n ∈ DataW.weightsAll P e l
  | d0 :: l, d, n, hd, hn => by
    simp only [DataW.weightsAll, List.mem_append]
    rcases List.mem_cons.1 hd with rfl | hd
    · exact Or.inl hn
    · exact Or.inr (weightsAll_mem hd hn)
theorem list_of {α : Type} {n : Nat} {p : Nat → α → Prop} (h : ∀ i, i < n → ∃ y, p i y) : ∃ l : List α, l.length = n ∧ ∀ i (hi : i < l.length), p i l[i] := by
  induction n with
  | zero => exact ⟨[], rfl, fun i hi => absurd hi (Nat.not_lt_zero _)⟩
  | succ n ih =>
    obtain ⟨l, hl, hp⟩ := ih fun i hi => h i (Nat.lt_succ_of_lt hi)
    obtain ⟨y, hy⟩ := h n (Nat.lt_succ_self n)
    refine ⟨l ++ [y], by simp [hl], fun i hi => ?_⟩
    by_cases hlt : i < l.length
    · rw [List.getElem_append_left hlt]; exact hp i hlt
    · have : i = n := by simp at hi; omega
      subst this
      rw [List.getElem_append_right (by omega)]
      simpa using hy
theorem Rd.slice {P : Program} {α : Type} {T : Ty α} {t e : TypeId} (ht : P.underlying t = some (.slice e)) (hc : P.cellsOf e = T.sz) (h1 : Nat.ble 1 T.sz = true) (hb1 : Nat.ble 1 (P.bytesOf e) = true) {μ : α → Nat} (hT : Rd P e T μ) : Rd P t T.slice (fun l => (l.map μ).sum + 1) := by
  intro H enc w fuel cs x h hz
  rcases Go.Deep.open_slice ht h with ⟨rfl, _⟩ | ⟨a, len, cap, m, n, D, Pl, rfl, hb, hl, hm, hmm, rfl, hel⟩
  · refine ⟨[], ⟨none, 0, rfl, Nat.zero_le _, Nat.zero_le _, Ty.Row.nil⟩, fun β hβ => ?_⟩
    have h1 := hβ.nil
    rename_i hx
    rw [hx]
    simpa using h1
  · simp only [if_true] at hmm
    subst hmm
    have hpos : 1 ≤ T.sz := by simpa using h1
    have hall : ∀ i, i < len → ∃ y, (∃ cs', w.cells? 0 (a.add (i * T.sz)) T.sz = some cs' ∧ T.R w (old w) y cs') ∧ ∀ β : DataW H → Nat, Bulk β → μ y ≤ β (D i) := by
      intro i hi
      obtain ⟨cs', h2, h3⟩ := hel i (by omega)
      rw [hc] at h2
      obtain ⟨y, hy, hbl⟩ := hT h3 (fun n hn => hz n (by
        simp only [DataW.weights, ht, List.mem_cons, List.mem_append]
        exact Or.inr (Or.inl (weightsAll_mem (List.mem_map.2 ⟨i, List.mem_range.2 hi, rfl⟩) hn))))
      exact ⟨y, ⟨cs', h2, hy⟩, hbl⟩
    obtain ⟨l, hlen, hpp⟩ := list_of hall
    have hp := fun i hi => (hpp i hi).1
    have hbig : len ≤ big := by
      have := hz ((len + (m - len)) * P.bytesOf e) (by simp [DataW.weights, ht])
      have h2 : 1 ≤ P.bytesOf e := by simpa using hb1
      have h3 : len * 1 ≤ (len + (m - len)) * P.bytesOf e := Nat.mul_le_mul (by omega) h2
      have h4 : reachBytes ≤ big := by decide
      omega
    refine ⟨l, ⟨some a, m, by rw [hlen], by omega, by omega, ?_⟩, fun β hβ => ?_⟩
    rotate_left
    · refine Nat.le_trans (Nat.add_le_add_right (sum_le μ β l ((List.range len).map D) (by simp [hlen]) fun i hi hi' => ?_) 1) (hβ.slice _ _)
      have := (hpp i hi).2 β hβ
      simpa using this
    by_cases h0 : l = []
    · exact Or.inl h0
    · have hlp : 0 < l.length := List.length_pos_iff.2 h0
      -- the block
      obtain ⟨cs0, hc0, hR0⟩ := hp 0 hlp
      have key : ∀ (b : Addr) (cs' : List Value), w.cells? 0 b T.sz = some cs' → ∀ j, j < T.sz → w.cell? (b.add j) = cs'[j]? := by
        intro b cs' hb j hj
        unfold World.cells? at hb
        simp only [Nat.zero_le, if_true] at hb
        have hlen2 : cs'.length = T.sz := by
          have := mapM_some_length hb
          simpa using this
        have := mapM_some_get hb j j (List.getElem?_range hj)
        exact this
      have hcell0 := key _ _ hc0 0 (by omega)
      have hl0 : cs0.length = T.sz := T.len hR0
      have hsome : ∃ v, w.cell? a = some v := by
        simp only [Nat.zero_mul] at hcell0
        have ha : (a.add 0).add 0 = a := by simp [Addr.add]
        rw [ha] at hcell0
        refine ⟨cs0[0]'(by omega), ?_⟩
        rw [hcell0]
        exact List.getElem?_eq_getElem (by omega)
      obtain ⟨v, hv⟩ := hsome
      obtain ⟨g, off, spot⟩ := a
      unfold World.cell? at hv
      simp only at hv
      cases hh : w.heap[g]? with
      | none => rw [hh] at hv; cases hv
      | some o =>
        cases o with
        | cells c t' fr =>
          rw [hh] at hv
          simp only at hv
          cases hsp : spot with
          | some q => rw [hsp] at hv; simp at hv
          | none =>
            subst hsp
            refine Or.inr ⟨g, off, c, t', fr, rfl, (Array.getElem?_eq_some_iff.1 hh).1, hh, ?_⟩
            intro i hi
            obtain ⟨cs', h2, h3⟩ := hp i hi
            refine ⟨cs', h3, fun j hj => ?_⟩
            have := key _ _ h2 j hj
            rw [add_at, add_at, cell_of_row w g _ c t' fr hh] at this
            exact this
        | _ => rw [hh] at hv; cases hv

/-! A law's arguments. -/
section
variable {H : Type} {enc : TypeId × Value → H} {P : Program} {W : World} {base : Nat} {t : TypeId} {v : Value} {d : DataW H} {p : List MemPlace}
theorem arg_int {k : IntKind} (ht : P.underlying t = some (.int k)) (hv : Value.okWide P W .any base t v) (h : DataW.Trod enc P W 0 (fun _ => true) true t v d p) : ∃ n, v = .int k n ∧ inK k n := by
  obtain ⟨n, rfl, _, _, hw⟩ := open_int ht hv h
  exact ⟨n, rfl, wf_inK hw⟩
theorem arg_bool (ht : P.underlying t = some .bool) (hv : Value.okWide P W .any base t v) (h : DataW.Trod enc P W 0 (fun _ => true) true t v d p) : ∃ b, v = .bool b := by
  obtain ⟨n, rfl, _, _⟩ := open_bool ht hv h
  exact ⟨n, rfl⟩
theorem arg_string (ht : P.underlying t = some .string) (hv : Value.okWide P W .any base t v) (h : DataW.Trod enc P W 0 (fun _ => true) true t v d p) (hz : ∀ n ∈ d.weights P t, n ≤ reachBytes) : ∃ s, v = .string s ∧ s.size ≤ big := by
  obtain ⟨s, rfl, rfl, _⟩ := Go.ChangeMaps.open_string ht hv h
  have := hz s.data.toList.length (by simp [DataW.weights])
  have e : s.data.toList.length = s.size := by simp
  rw [e] at this
  exact ⟨s, rfl, Nat.le_trans this (by decide)⟩
theorem arg_slice {α : Type} {T : Ty α} {e : TypeId} (ht : P.underlying t = some (.slice e)) {μ : List α → Nat} (hR : Rd P t T.slice μ) (hv : Value.okWide P W .any base t v) (h : DataW.Trod enc P W 0 (fun _ => true) true t v d p)
    (hz : ∀ n ∈ d.weights P t, n ≤ reachBytes) : ∃ A cap l, v = .slice A l.length cap ∧ l.length ≤ cap ∧ l.length ≤ big ∧ T.Row W (old W) A l ∧ ∀ β : DataW H → Nat, Bulk β → μ l ≤ β d := by
  obtain ⟨a, len, cap, rfl⟩ := okWide_slice ht hv
  obtain ⟨fuel, hf⟩ := h
  obtain ⟨l, ⟨A, c, hcs, h1, h2, h3⟩, hbl⟩ := hR hf hz
  simp only [Value.cells, List.cons.injEq, and_true, Value.slice.injEq] at hcs
  obtain ⟨rfl, rfl, rfl⟩ := hcs
  exact ⟨_, _, l, rfl, h1, h2, h3, hbl⟩
theorem weights_of {ts : List TypeId} {ds : List (DataW H)} (hsz : (DataW.weightsEach P ts ds).all (· ≤ reachBytes) = true) {j : Nat} (ht : ts[j]? = some t) (hd : ds[j]? = some d) : ∀ n ∈ d.weights P t, n ≤ reachBytes := by
  intro n hn
  simpa using List.all_eq_true.1 hsz n (DataW.weights_mem_each ht hd n hn)
end
end Go.Eng
