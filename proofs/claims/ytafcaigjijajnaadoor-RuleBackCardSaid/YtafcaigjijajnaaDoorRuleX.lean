/-
  The walks of strconv.ParseUint at two digits, and of a word as a text.
-/
import Derived.Test.YtafcaigjijajnaaDoorFacts
import Derived.Test.YtafcaigjijajnaaDoorRuleV
namespace Go.Proofs.YtafcaigjijajnaaDoor
open Go Go.Eng Go.RowKit Go.Proofs
set_option linter.unusedVariables false
set_option linter.unusedSimpArgs false
set_option maxHeartbeats 1000000
set_option maxRecDepth 20000

/-- What is read of variables of Go's library. -/
structure Gl (w : World) : Prop where
  max : ∃ m, w.cell? ⟨gMax, 0, none⟩ = some (.int .i64 m)
  syn : ∃ ev, w.cell? ⟨0, 0, none⟩ = some ev ∧ (ev = .nilIface ∨ ∃ te pe, ev = .iface te pe)
theorem Gl.ext {w w' : World} (h : Gl w) (he : Ext w w') : Gl w' := by
  obtain ⟨⟨m, h1⟩, ⟨ev, h2, h3⟩⟩ := h
  exact ⟨⟨m, ext_cell he h1⟩, ⟨ev, ext_cell he h2, h3⟩⟩
theorem parseU_ok (l : List UInt8) (n : Nat) (w : World) (hl : l.length = 2) (hh : hexL l = some n) :
    Calls Tryd.prog 32 #[.string (str l), .int .i64 16, .int .i64 8] w (fun en w' => ∃ v, en = .returned v ∧ v = .tuple #[.int .u64 (n : Nat), .nilIface] ∧ Ext w w') := by
  have hp : ∀ w, Calls Tryd.prog 53 #[.string (str l), .int .i64 16, .int .i64 8] w (fun en w' => ∃ v, en = .returned v ∧ v = .tuple #[.int .u64 (n : Nat), .nilIface] ∧ Ext w w') := fun w => by
    have := parse16_spec l w hl
    rw [hh] at this
    exact this
  refine calls' (n := 26) (rs := #[.tmp 6, .tmp 7]) (l := [.string (str l), .int .i64 16, .int .i64 8]) Tryd.func32 rfl rfl rfl rfl rfl ?_
  have hX := Ext.refl w
  refine W_seq ?_
  refine W_region ?_
  refine op rfl (r_assignV (v := .int _ _) rfl) ?_
  refine op rfl (r_assignV (v := _) rfl) ?_
  refine WL_nil ?_
  refine W_seq ?_
  refine W_region ?_
  refine op rfl (r_moveV (v := .string _) rfl) ?_
  refine op rfl (r_moveV (v := .int _ _) rfl) ?_
  refine op rfl (r_moveV (v := .int _ _) rfl) ?_
  refine opCv rfl (r_call Tryd.func53 Tryd.nm53 rfl) (hp _) ?_
  rintro v1 w1 ⟨rfl, hE⟩
  replace hX := hX.trans hE
  refine op rfl (r_moveV (v := .tuple #[.int .u64 (n : Nat), .nilIface]) rfl) ?_
  refine op rfl (r_extract (vs := [.int .u64 (n : Nat), .nilIface]) rfl rfl) ?_
  refine op rfl (r_extract (vs := [.int .u64 (n : Nat), .nilIface]) rfl rfl) ?_
  refine op rfl (r_assignV (v := .int .u64 (n : Nat)) rfl) ?_
  refine op rfl (r_assignV (v := .nilIface) rfl) ?_
  refine WL_nil ?_
  refine W_seq ?_
  refine W_seq ?_
  refine W_region ?_
  refine op rfl (r_moveV (v := .nilIface) rfl) ?_
  refine op rfl (ri_neq_nil rfl rfl Tryd.underlying60) ?_
  refine WL_nil ?_
  refine W_ifp rfl (fun ht18 => ?_) (fun ht18 => ?_)
  · exact ht18.elim
  · refine W_skip ?_
    refine W_seq ?_
    refine W_region ?_
    refine op rfl (r_moveV (v := .int .u64 (n : Nat)) rfl) ?_
    refine op rfl (r_assignV (v := .int .u64 (n : Nat)) rfl) ?_
    refine op rfl (r_assignV (v := _) rfl) ?_
    refine WL_nil ?_
    refine W_ret (finX_ret ?_)
    refine fin2 ?_
    exact ⟨_, rfl, rfl, hX⟩
theorem parseU_bad (l : List UInt8) (w : World) (hG : Gl w) (hl : l.length = 2) (hh : hexL l = none) :
    Calls Tryd.prog 32 #[.string (str l), .int .i64 16, .int .i64 8] w (fun en w' => ∃ v, en = .returned v ∧ ∃ N, v = .tuple #[.int .u64 0, .iface 98 (.pointer (some ⟨N, 0, none⟩))] ∧ Ext w w') := by
  have hp : ∀ w, Calls Tryd.prog 53 #[.string (str l), .int .i64 16, .int .i64 8] w (fun en w' => ∃ v, en = .returned v ∧ v = .tuple #[.int .u64 0, .iface 96 (.int .i64 2)] ∧ Ext w w') := fun w => by
    have := parse16_spec l w hl
    rw [hh] at this
    exact this
  have ht : ∀ w fn, Gl w → Calls Tryd.prog 54 #[.string fn, .string (str l), .int .i64 16, .int .i64 8, .iface 96 (.int .i64 2)] w (fun en w' => ∃ v, en = .returned v ∧ ∃ N, v = .iface 98 (.pointer (some ⟨N, 0, none⟩)) ∧ Ext w w') := fun w fn hG => by
    obtain ⟨ev, h2, h3⟩ := hG.syn
    refine (Tryd.strconv_toError_syntax fn (str l) 16 8 ev w (by rw [str_size]; omega) h2 h3).mono ?_
    rintro en w' ⟨N, rfl, -, -, hb⟩
    exact ⟨_, rfl, N, rfl, hb⟩
  refine calls' (n := 26) (rs := #[.tmp 6, .tmp 7]) (l := [.string (str l), .int .i64 16, .int .i64 8]) Tryd.func32 rfl rfl rfl rfl rfl ?_
  have hX := Ext.refl w
  refine W_seq ?_
  refine W_region ?_
  refine op rfl (r_assignV (v := .int _ _) rfl) ?_
  refine op rfl (r_assignV (v := _) rfl) ?_
  refine WL_nil ?_
  refine W_seq ?_
  refine W_region ?_
  refine op rfl (r_moveV (v := .string _) rfl) ?_
  refine op rfl (r_moveV (v := .int _ _) rfl) ?_
  refine op rfl (r_moveV (v := .int _ _) rfl) ?_
  refine opCv rfl (r_call Tryd.func53 Tryd.nm53 rfl) (hp _) ?_
  rintro v1 w1 ⟨rfl, hE⟩
  replace hX := hX.trans hE
  refine op rfl (r_moveV (v := .tuple #[.int .u64 0, .iface 96 (.int .i64 2)]) rfl) ?_
  refine op rfl (r_extract (vs := [.int .u64 0, .iface 96 (.int .i64 2)]) rfl rfl) ?_
  refine op rfl (r_extract (vs := [.int .u64 0, .iface 96 (.int .i64 2)]) rfl rfl) ?_
  refine op rfl (r_assignV (v := .int .u64 0) rfl) ?_
  refine op rfl (r_assignV (v := .iface 96 (.int .i64 2)) rfl) ?_
  refine WL_nil ?_
  refine W_seq ?_
  refine W_seq ?_
  refine W_region ?_
  refine op rfl (r_moveV (v := .iface 96 (.int .i64 2)) rfl) ?_
  refine op rfl (ri_neq_some rfl rfl Tryd.underlying60) ?_
  refine WL_nil ?_
  refine W_ifp rfl (fun ht18 => ?_) (fun ht18 => ?_)
  · refine W_seq ?_
    refine W_region ?_
    refine op rfl (r_moveV (v := .int .u64 0) rfl) ?_
    refine op rfl (r_moveV (v := .string _) rfl) ?_
    refine op rfl (r_moveV (v := .int _ _) rfl) ?_
    refine op rfl (r_moveV (v := .int _ _) rfl) ?_
    refine op rfl (r_moveV (v := .iface 96 (.int .i64 2)) rfl) ?_
    refine opCv rfl (r_call Tryd.func54 Tryd.nm54 rfl) (ht _ _ (hG.ext hX)) ?_
    rintro v3 w3 ⟨N, rfl, hE⟩
    replace hX := hX.trans hE
    refine op rfl (r_assignV (v := .int .u64 0) rfl) ?_
    refine op rfl (r_assignV (v := .iface 98 (.pointer (some ⟨N, 0, none⟩))) rfl) ?_
    refine WL_nil ?_
    refine W_ret (finX_ret ?_)
    refine fin2 ?_
    exact ⟨_, rfl, N, rfl, hX⟩
  · exact absurd trivial ht18
theorem parseU_spec (l : List UInt8) (w : World) (hG : Gl w) (hl : l.length = 2) :
    Calls Tryd.prog 32 #[.string (str l), .int .i64 16, .int .i64 8] w (fun en w' => ∃ v, en = .returned v ∧ ∃ (x : Nat) (rr : Value), v = .tuple #[.int .u64 x, rr] ∧ (∀ n, hexL l = some n → x = n) ∧ (¬ hexL l = none → rr = .nilIface) ∧ (hexL l = none → ∃ tx vx, rr = .iface tx vx) ∧ rr.oneCell' = true ∧ Ext w w') := by
  cases hh : hexL l with
  | some n =>
    refine (parseU_ok l n w hl hh).mono ?_
    rintro en w' ⟨v, rfl, rfl, hE⟩
    exact ⟨_, rfl, n, _, rfl, fun m hm => (by cases hm; rfl), fun _ => rfl, fun q => (by cases q), rfl, hE⟩
  | none =>
    refine (parseU_bad l w hG hl hh).mono ?_
    rintro en w' ⟨v, rfl, N, rfl, hE⟩
    exact ⟨_, rfl, 0, _, rfl, fun m hm => (by cases hm), fun q => absurd rfl q, fun _ => ⟨_, _, rfl⟩, rfl, hE⟩
theorem decP_hit {a b : UInt8} {r : List UInt8} {n : Nat} (hh : hexL [a, b] = some n) : decP (37 :: a :: b :: r) = (decP r).map (UInt8.ofNat n :: ·) := by
  simp only [hexL, List.foldl_cons, List.foldl_nil, Option.bind_some] at hh
  cases hx : hexU a with
  | none => rw [hx] at hh; simp at hh
  | some x =>
    cases hy : hexU b with
    | none => rw [hx, hy] at hh; simp at hh
    | some y =>
      rw [hx, hy] at hh
      simp at hh
      simp only [decP, hx, hy]
      rw [← hh]; rfl
theorem decP_bad {a b : UInt8} {r : List UInt8} (hh : hexL [a, b] = none) : decP (37 :: a :: b :: r) = none := by
  simp only [hexL, List.foldl_cons, List.foldl_nil, Option.bind_some] at hh
  cases hx : hexU a with
  | none => simp only [decP, hx]; rfl
  | some x =>
    cases hy : hexU b with
    | none => simp only [decP, hx, hy]; rfl
    | some y => rw [hx, hy] at hh; simp at hh
theorem decP_one {c : UInt8} {r : List UInt8} (h : ¬ (c.toNat = 37 ∧ 1 < r.length)) : decP (c :: r) = (decP r).map (c :: ·) := by
  rcases r with _ | ⟨a, _ | ⟨b, r⟩⟩
  · simp [decP]
  · simp [decP]
  · have hc : ¬ c.toNat = 37 := fun q => h ⟨q, by simp⟩
    simp [decP, hc]
theorem hexL_lt {a b : UInt8} {n : Nat} (hh : hexL [a, b] = some n) : n < 256 := by
  simp only [hexL, List.foldl_cons, List.foldl_nil, Option.bind_some] at hh
  have h16 : ∀ (c : UInt8) d, hexU c = some d → d < 16 := fun c d h => by
    rw [hexU_dig] at h
    cases hd : digN c.toNat with
    | none => rw [hd] at h; simp at h
    | some e => rw [hd] at h; simp at h; omega
  cases hx : hexU a with
  | none => rw [hx] at hh; simp at hh
  | some x =>
    cases hy : hexU b with
    | none => rw [hx, hy] at hh; simp at hh
    | some y =>
      rw [hx, hy] at hh
      simp at hh
      have := h16 a x hx
      have := h16 b y hy
      omega
end Go.Proofs.YtafcaigjijajnaaDoor
