/-
  No request is committed twice: the walk.
-/
import Derived.Test.YtmedmajdoecjfaaDoorFacts
import Derived.Test.YtmedmajdoecjfaaDoorQueE
namespace Go.Proofs.YtmedmajdoecjfaaDoor
open Go Go.Eng Go.RowKit Go.Proofs
set_option linter.unusedVariables false
set_option linter.unusedSimpArgs false
set_option maxHeartbeats 1000000
set_option maxRecDepth 20000

theorem sub_cases (q : Qs) (r : Rq) : ((submitR q r).1 = q ∧ (submitR q r).2 ≠ 0) ∨ ((submitR q r).2 = 0 ∧ (submitR q r).1 = { q with ws := q.ws ++ [r], tk := setK q.tk r.id none } ∧ ¬ (q.tk r.id).isSome = true ∧ 1 ≤ r.id) := by
  by_cases h : r.id < 1 ∨ r.l.length = 0
  · rw [sub2 h]; exact Or.inl ⟨rfl, by simp⟩
  by_cases h1 : r.base < 0 ∨ r.base > (q.H.length : Int) - 1
  · rw [sub7 h h1]; exact Or.inl ⟨rfl, by simp⟩
  by_cases h2 : (q.tk r.id).isSome = true
  · rw [sub12 h h1 h2]; exact Or.inl ⟨rfl, by simp⟩
  by_cases h3 : (q.ws.length : Int) ≥ q.room
  · rw [sub8 h h1 h2 h3]; exact Or.inl ⟨rfl, by simp⟩
  rw [sub0 h h1 h2 h3]; exact Or.inr ⟨rfl, rfl, h2, by omega⟩
theorem ans_cases (H : List Rv) (r : Rq) (p : Bool) : (answerR H r p).2.id = r.id ∧ (((answerR H r p).2.kind = 1 ∧ (answerR H r p).1.length = H.length + 1 ∧ (answerR H r p).2.rev = H.length) ∨ ((answerR H r p).2.kind ≠ 1 ∧ (answerR H r p).1.length = H.length)) := by
  unfold answerR
  split
  · exact ⟨rfl, Or.inr ⟨show ¬ (2 : Int) = 1 by decide, rfl⟩⟩
  · split
    · exact ⟨rfl, Or.inr ⟨show ¬ (3 : Int) = 1 by decide, rfl⟩⟩
    · split
      · rename_i h
        rcases commit_cases H r.l with k | ⟨u, k⟩
        · exact ⟨rfl, Or.inr ⟨show ¬ (4 : Int) = 1 by decide, by rw [k.1]⟩⟩
        · exact absurd k.2.2 h
      · rename_i h
        rcases commit_cases H r.l with k | ⟨u, k⟩
        · exact absurd k.2 h
        · exact ⟨rfl, Or.inl ⟨rfl, by rw [k.1, List.length_append]; rfl, k.2.1⟩⟩
/-- A step, and what it leaves. -/
theorem once (q : Qs) (d : Dq) (hp : ∀ r ∈ q.ws, 1 ≤ r.id) : ∃ q1 t, didR q d = (q1, t) ∧ (∀ r ∈ q1.ws, 1 ≤ r.id) ∧ q.H.length ≤ q1.H.length ∧ q1.H.length ≤ q.H.length + 1 ∧
    ((d.k = 1 ∧ q1.H = q.H ∧ t.is = false ∧ ((t.e = 0 ∧ q1.ws.map Rq.id = q.ws.map Rq.id ++ [d.r.id]) ∨ (t.e ≠ 0 ∧ q1.ws.map Rq.id = q.ws.map Rq.id)))
      ∨ (d.k ≠ 1 ∧ t.is = false ∧ q1.ws = q.ws)
      ∨ (d.k ≠ 1 ∧ t.is = true ∧ ∃ x tl, q.ws = x :: tl ∧ x.id = t.a.id ∧ q1.ws = tl ∧ (q1.tk x.id).isSome = true ∧ ((t.a.kind = 1 ∧ q1.H.length = q.H.length + 1 ∧ t.a.rev = q.H.length) ∨ (t.a.kind ≠ 1 ∧ q1.H.length = q.H.length)))) := by
  by_cases h1 : d.k = 1
  · refine ⟨_, _, did1 h1, ?_⟩
    rcases sub_cases q d.r with k | ⟨k0, k, -, k1⟩
    · refine ⟨by rw [k.1]; exact hp, by rw [k.1]; exact Nat.le_refl _, by rw [k.1]; omega, Or.inl ⟨h1, by rw [k.1], rfl, Or.inr ⟨k.2, by rw [k.1]⟩⟩⟩
    · refine ⟨by rw [k]; intro r hr; rcases List.mem_append.1 hr with j | j; exact hp r j; rw [List.mem_singleton.1 j]; exact k1, by rw [k]; exact Nat.le_refl _, by rw [k]; exact Nat.le_succ _, Or.inl ⟨h1, by rw [k], rfl, Or.inl ⟨k0, by rw [k]; simp⟩⟩⟩
  · by_cases h2 : d.k = 2 ∨ d.k = 3
    · refine ⟨_, _, did2 h2, ?_⟩
      cases hw : q.ws with
      | nil =>
        have hs : stepQ q (decide (d.k = 2)) = (q, no, false) := by unfold stepQ; rw [hw]
        rw [hs]
        exact ⟨hp, Nat.le_refl _, Nat.le_succ _, Or.inr (Or.inl ⟨h1, rfl, hw⟩)⟩
      | cons x tl =>
        have hs : stepQ q (decide (d.k = 2)) = ({ q with H := (answerR q.H x (decide (d.k = 2))).1, ws := tl, tk := setK q.tk x.id (some (answerR q.H x (decide (d.k = 2))).2) }, (answerR q.H x (decide (d.k = 2))).2, true) := by unfold stepQ; rw [hw]
        rw [hs]
        obtain ⟨a1, a2⟩ := ans_cases q.H x (decide (d.k = 2))
        refine ⟨fun r hr => hp r (by rw [hw]; exact List.mem_cons_of_mem _ hr), ?_, ?_, Or.inr (Or.inr ⟨h1, rfl, x, tl, rfl, a1.symm, rfl, ?_, a2⟩)⟩
        · show q.H.length ≤ (answerR q.H x (decide (d.k = 2))).1.length
          rcases a2 with k | k <;> omega
        · show (answerR q.H x (decide (d.k = 2))).1.length ≤ q.H.length + 1
          rcases a2 with k | k <;> omega
        · show (setK q.tk x.id _ x.id).isSome = true
          unfold setK; rw [if_pos rfl]; rfl
    · by_cases h4 : d.k = 4
      · refine ⟨_, _, did4 h4, hp, ?_, ?_, Or.inr (Or.inl ⟨h1, rfl, rfl⟩)⟩
        · show q.H.length ≤ (commitR q.H d.r.l).1.length
          rcases commit_cases q.H d.r.l with k | ⟨u, k⟩ <;> rw [k.1] <;> simp
        · show (commitR q.H d.r.l).1.length ≤ q.H.length + 1
          rcases commit_cases q.H d.r.l with k | ⟨u, k⟩ <;> rw [k.1] <;> simp
      · exact ⟨_, _, did0 h1 h2 h4, hp, Nat.le_refl _, Nat.le_succ _, Or.inr (Or.inl ⟨h1, rfl, rfl⟩)⟩
/-- Revisions that rise, all behind some. -/
def RvR (rv : List Int) (n : Nat) : Prop := rv.Pairwise (· < ·) ∧ ∀ x ∈ rv, x < (n : Int)
theorem RvR.mono {rv : List Int} {n m : Nat} (h : RvR rv n) (k : n ≤ m) : RvR rv m := ⟨h.1, fun x hx => by have := h.2 x hx; omega⟩
theorem RvR.add {rv : List Int} {n : Nat} {r : Int} (h : RvR rv n) (hr : r = n) : RvR (rv ++ [r]) (n + 1) := by
  subst hr
  refine ⟨List.pairwise_append.2 ⟨h.1, List.pairwise_singleton _ _, fun a ha b hb => by rw [List.mem_singleton.1 hb]; exact h.2 a ha⟩, fun x hx => ?_⟩
  rcases List.mem_append.1 hx with k | k
  · have := h.2 x k; omega
  · rw [List.mem_singleton.1 k]; omega
theorem waits_pos {q : Qs} (hp : ∀ r ∈ q.ws, 1 ≤ r.id) : (q.ws.map Rq.id).filter (fun k => !decide (k < 1)) = q.ws.map Rq.id := by
  rw [List.filter_eq_self]
  intro a ha
  obtain ⟨r, hr, rfl⟩ := List.mem_map.1 ha
  have := hp r hr
  simp only [Bool.not_eq_true', decide_eq_false_iff_not]; omega
theorem QG.wl {w0 w : World} {B : Nat → Prop} {pq ph : Nat} {q : Qs} (h : QG w0 B pq ph w q) : q.ws.length ≤ 100 := by
  obtain ⟨pm, mt, v, F, Zh, hA, -⟩ := h.que
  have := hA.wl; have := hA.ro; omega
theorem QG.gro2 {w0 w w1 : World} {B : Nat → Prop} {pq ph : Nat} {q : Qs} {v v' : Value} (h : QG w0 B pq ph w q) (hv : ∀ g, v.ownBlock = some g → w0.heap.size ≤ g ∧ B g) (hG : Gro v.ownBlock w w1) (hv' : v'.ownBlock = v.ownBlock ∨ ∃ g, v'.ownBlock = some g ∧ w.heap.size ≤ g) (hlt : ∀ g, v'.ownBlock = some g → g < w1.heap.size) : QG w0 (fun b => B b ∨ v'.ownBlock = some b) pq ph w1 q :=
  h.mv (Y := fun b => v.ownBlock = some b) ⟨hG.os, hG.tape, hG.output, hG.size, fun k hk hn => hG.block k hk hn⟩ (fun b k => ⟨(hv b k).1, fun _ => (hv b k).2⟩) (fun b k => k.elim (fun k => ⟨Or.inl k, Nat.lt_of_lt_of_le (h.bl b k) hG.size⟩) (fun k => ⟨by
    rcases hv' with j | ⟨g, j, hg⟩
    · exact Or.inl (hv b (j ▸ k)).2
    · rw [j] at k; simp only [Option.some.injEq] at k; exact Or.inr (by omega), hlt b k⟩))
theorem gro_keep {α : Type} {T : Ty α} {w w' : World} {r : Option Nat} {B : Nat} {e : TypeId} {v : Value} {l : List α} (h : Eng.Own T w nobody B e v l) (hG : Gro r w w') (hn : ∀ g, v.ownBlock = some g → r ≠ some g) : Eng.Own T w' nobody B e v l :=
  h.keep (fun _ q => q.elim) (fun _ h => h) (fun g hg => hG.block g (h.lt hg).2 (hn g hg))
theorem row_oneI {w : World} {b : Nat} {x : Int} {t : TypeId} (B : Blk w b #[.int .i64 x] t) (h : inK .i64 x) : (Ty.int .i64).Row w (old w) (some ⟨b, 0, none⟩) [x] := Blk.row B (Blk.lt B) (fun i hi => by
  obtain rfl : i = 0 := by simp at hi; omega
  exact ⟨_, ⟨rfl, h⟩, fun j hj => by obtain rfl : j = 0 := by have : j < 1 := hj; omega
                                     rfl⟩)
/-- The law's state: the queue, who waits, which revisions were told. -/
structure OS (w : World) (B : Nat → Prop) (pq ph : Nat) (u : World) (q : Qs) (v8 : Value) (od : List Int) (v9 : Value) (rv : List Int) : Prop where
  que : QG w B pq ph u q
  od : IntO u w.heap.size 3 v8 od
  rv : Eng.Own (Ty.int .i64) u nobody w.heap.size 3 v9 rv
  b8 : ∀ g, v8.ownBlock = some g → B g
  b9 : ∀ g, v9.ownBlock = some g → B g
  ne : ∀ g, v8.ownBlock = some g → v9.ownBlock ≠ some g
section
variable {w : World} {B : Nat → Prop} {pq ph : Nat} {u u1 u2 : World} {q q1 : Qs} {v8 v8' : Value} {od od' : List Int} {v9 v9' : Value} {rv rv' : List Int} {bx : Nat} {t : Td}
theorem OS.ext (h : OS w B pq ph u q v8 od v9 rv) (he : Ext u u1) : OS w (fun b => B b ∨ since u u1 b) pq ph u1 q v8 od v9 rv :=
  ⟨h.que.all he, h.od.keep (fun g hg => he.block g (h.od.lt hg).2), own_fext h.rv he, fun g hg => Or.inl (h.b8 g hg), fun g hg => Or.inl (h.b9 g hg), h.ne⟩
theorem OS.call (h : OS w B pq ph u q v8 od v9 rv) (hQ : QG w B pq ph u1 q1) (hK : Kp w B u u1) : OS w B pq ph u1 q1 v8 od v9 rv :=
  ⟨hQ, h.od.keep (fun g hg => hK.same g (Or.inr (h.b8 g hg))), h.rv.keep (fun _ q => q.elim) (fun _ h => h) (fun g hg => hK.same g (Or.inr (h.b9 g hg))), h.b8, h.b9, h.ne⟩
theorem OS.app8 (h : OS w B pq ph u q v8 od v9 rv) (hI : IntO u1 w.heap.size 3 v8' od') (hG : Gro v8.ownBlock u u1) (hv : v8'.ownBlock = v8.ownBlock ∨ ∃ g, v8'.ownBlock = some g ∧ u.heap.size ≤ g) : OS w (fun b => B b ∨ v8'.ownBlock = some b) pq ph u1 q v8' od' v9 rv :=
  ⟨h.que.gro2 (fun g hg => ⟨(h.od.lt hg).1, h.b8 g hg⟩) hG hv (fun g hg => (hI.lt hg).2), hI, gro_keep h.rv hG (fun g hg k => h.ne g k hg), fun g hg => Or.inr hg, fun g hg => Or.inl (h.b9 g hg), fun g hg k => by
    rcases hv with j | ⟨g', j, hg'⟩
    · exact h.ne g (j ▸ hg) k
    · rw [j] at hg; simp only [Option.some.injEq] at hg; have := (h.rv.lt k).2; omega⟩
theorem OS.app9 (h : OS w B pq ph u q v8 od v9 rv) (hI : Eng.Own (Ty.int .i64) u1 nobody w.heap.size 3 v9' rv') (hG : Gro v9.ownBlock u u1) (hv : v9'.ownBlock = v9.ownBlock ∨ ∃ g, v9'.ownBlock = some g ∧ u.heap.size ≤ g) : OS w (fun b => B b ∨ v9'.ownBlock = some b) pq ph u1 q v8 od v9' rv' :=
  ⟨h.que.gro2 (fun g hg => ⟨(h.rv.lt hg).1, h.b9 g hg⟩) hG hv (fun g hg => (hI.lt hg).2), h.od.keep (fun g hg => hG.block g (h.od.lt hg).2 (fun k => h.ne g hg k)), hI, fun g hg => Or.inl (h.b8 g hg), fun g hg => Or.inr hg, fun g hg k => by
    rcases hv with j | ⟨g', j, hg'⟩
    · exact h.ne g hg (j ▸ k)
    · rw [j] at k; simp only [Option.some.injEq] at k; have := (h.od.lt hg).2; omega⟩
theorem OS.tail {A : Option Addr} {n cap : Nat} {x : Int} (h : OS w B pq ph u q (.slice A n cap) (x :: od) v9 rv) : OS w B pq ph u q (.slice (cutA A cap 1 1) od.length (cap - 1)) od v9 rv := by
  obtain ⟨h1, h2, h3⟩ := h.od.tail
  exact ⟨h.que, h2, h.rv, fun g hg => h.b8 g (h3 ▸ hg), h.b9, fun g hg => h.ne g (h3 ▸ hg)⟩
/-- .. and what was told last. -/
structure OT (w : World) (B : Nat → Prop) (pq ph : Nat) (u : World) (q : Qs) (v8 : Value) (od : List Int) (v9 : Value) (rv : List Int) (bx : Nat) (t : Td) : Prop where
  os : OS w B pq ph u q v8 od v9 rv
  bk : Blk u bx t.vals.toArray 69
  n8 : v8.ownBlock ≠ some bx
  n9 : v9.ownBlock ≠ some bx
  bb : B bx
theorem OT.ext (h : OT w B pq ph u q v8 od v9 rv bx t) (he : Ext u u1) : OT w (fun b => B b ∨ since u u1 b) pq ph u1 q v8 od v9 rv bx t :=
  ⟨h.os.ext he, Blk.ext h.bk he, h.n8, h.n9, Or.inl h.bb⟩
theorem OT.call (h : OT w B pq ph u q v8 od v9 rv bx t) (hQ : QG w B pq ph u1 q1) (hK : Kp w B u u1) : OT w B pq ph u1 q1 v8 od v9 rv bx t :=
  ⟨h.os.call hQ hK, h.bk.at (hK.same bx (Or.inr h.bb)), h.n8, h.n9, h.bb⟩
theorem OT.app8 (h : OT w B pq ph u q v8 od v9 rv bx t) (hI : IntO u1 w.heap.size 3 v8' od') (hG : Gro v8.ownBlock u u1) (hv : v8'.ownBlock = v8.ownBlock ∨ ∃ g, v8'.ownBlock = some g ∧ u.heap.size ≤ g) : OT w (fun b => B b ∨ v8'.ownBlock = some b) pq ph u1 q v8' od' v9 rv bx t :=
  ⟨h.os.app8 hI hG hv, h.bk.at (hG.block bx (Blk.lt h.bk) h.n8), fun k => by
    rcases hv with j | ⟨g', j, hg'⟩
    · exact h.n8 (j ▸ k)
    · rw [j] at k; simp only [Option.some.injEq] at k; have := Blk.lt h.bk; omega, h.n9, Or.inl h.bb⟩
theorem OT.app9 (h : OT w B pq ph u q v8 od v9 rv bx t) (hI : Eng.Own (Ty.int .i64) u1 nobody w.heap.size 3 v9' rv') (hG : Gro v9.ownBlock u u1) (hv : v9'.ownBlock = v9.ownBlock ∨ ∃ g, v9'.ownBlock = some g ∧ u.heap.size ≤ g) : OT w (fun b => B b ∨ v9'.ownBlock = some b) pq ph u1 q v8 od v9' rv' bx t :=
  ⟨h.os.app9 hI hG hv, h.bk.at (hG.block bx (Blk.lt h.bk) h.n9), h.n8, fun k => by
    rcases hv with j | ⟨g', j, hg'⟩
    · exact h.n9 (j ▸ k)
    · rw [j] at k; simp only [Option.some.injEq] at k; have := Blk.lt h.bk; omega, Or.inl h.bb⟩
theorem OT.tail {A : Option Addr} {n cap : Nat} {x : Int} (h : OT w B pq ph u q (.slice A n cap) (x :: od) v9 rv bx t) : OT w B pq ph u q (.slice (cutA A cap 1 1) od.length (cap - 1)) od v9 rv bx t :=
  ⟨h.os.tail, h.bk, fun k => h.n8 (h.os.od.tail.2.2 ▸ k), h.n9, h.bb⟩
end
theorem queueOnce_walk {At : Option Addr} {ct : Nat} {tr : Tree} {Al : Option Addr} {cl : Nat} {l : List Dq} {w : World} (ht : fiT.Row w (old w) At tr) (htl : tr.length ≤ 140737488355328) (hl : doT.Row w (old w) Al l) (hll : l.length ≤ 140737488355328) :
    Calls Tryd.prog 7 #[.slice At tr.length ct, .slice Al l.length cl] w (fun en w' => ∃ v, en = .returned v ∧ v = .bool true ∧ Ext w w') := by
  have hat := do_at hl
  refine calls' (n := 184) (rs := #[.tmp 4]) (l := [.slice At tr.length ct, .slice Al l.length cl]) Tryd.func7 rfl rfl rfl rfl rfl ?_
  have hX := Ext.refl w
  refine W_seq ?_
  refine W_region ?_
  refine op rfl (r_assignV (v := .bool _) rfl) ?_
  refine WL_nil ?_
  refine W_seq ?_
  refine W_seq ?_
  refine W_region ?_
  refine op rfl (r_moveV (v := .slice _ _ _) rfl) ?_
  refine op rfl (r_moveV (v := .slice _ _ _) rfl) ?_
  refine opCv rfl (r_call Tryd.func29 Tryd.nm29 rfl) (smallQ_spec (ht.ext hX) htl (hl.ext hX) hll) ?_
  rintro v1 w1 ⟨sm, dsm, rfl, hsm, hE⟩
  replace hX := hX.trans hE
  refine op rfl (r_notP rfl) ?_
  refine WL_nil ?_
  refine W_ifp rfl (fun ht17 => ?_) (fun ht17 => ?_)
  · refine W_seq ?_
    refine W_region ?_
    refine opCv rfl (r_call Tryd.func12 Tryd.nm12 rfl) (known13_spec _) ?_
    rintro v9 w9 ⟨rfl, hE⟩
    replace hX := hX.trans hE
    refine op rfl (r_assignV (v := .bool _) rfl) ?_
    refine WL_nil ?_
    refine W_ret (finX_ret ?_)
    refine fin1 ?_
    exact ⟨_, rfl, by first | rfl | exact (bool_tt trivial).symm, by first | exact hX | exact hO.que.ext.trans hX⟩
  · have hX0 := hX
    have hl30 := (hsm (Classical.not_not.1 ht17)).2
    have htr20 := (hsm (Classical.not_not.1 ht17)).1
    refine W_skip ?_
    refine W_seq ?_
    refine W_region ?_
    refine op rfl (r_moveV (v := .slice _ _ _) rfl) ?_
    refine opCv rfl (r_call Tryd.func13 Tryd.nm13 rfl) (new_spec2 (cap := ct) (G := old w) (fun b hb ↦ Nat.lt_of_lt_of_le hb hX.size) (ht.keep (fun b hb ↦ hX.block b hb) (fun _ h ↦ h)) (by omega)) ?_
    rintro v4 w4 ⟨pv, rfl, hH, hE⟩
    replace hX := hX.trans hE
    have hE3 := hE
    refine op rfl (r_moveV (v := .tuple #[pv, .int .i64 (if rightT tr then 0 else 2)]) rfl) ?_
    refine op rfl (r_extract (vs := [pv, .int .i64 (if rightT tr then 0 else 2)]) rfl rfl) ?_
    refine op rfl (r_extract (vs := [pv, .int .i64 (if rightT tr then 0 else 2)]) rfl rfl) ?_
    refine op rfl (r_assignV (v := pv) rfl) ?_
    refine op rfl (r_assignV (v := .int .i64 (if rightT tr then 0 else 2)) rfl) ?_
    refine WL_nil ?_
    refine W_seq ?_
    refine W_seq ?_
    refine W_region ?_
    refine op rfl (r_moveV (v := .int .i64 (if rightT tr then 0 else 2)) rfl) ?_
    refine op rfl (r_neq rfl rfl) ?_
    refine WL_nil ?_
    refine W_ifp rfl (fun ht25 => ?_) (fun ht25 => ?_)
    · refine W_seq ?_
      refine W_region ?_
      refine opCv rfl (r_call Tryd.func12 Tryd.nm12 rfl) (known13_spec _) ?_
      rintro v9 w9 ⟨rfl, hE⟩
      replace hX := hX.trans hE
      refine op rfl (r_assignV (v := .bool _) rfl) ?_
      refine WL_nil ?_
      refine W_ret (finX_ret ?_)
      refine fin1 ?_
      exact ⟨_, rfl, by first | rfl | exact (bool_tt trivial).symm, by first | exact hX | exact hO.que.ext.trans hX⟩
    · have hr : rightT tr := Classical.byContradiction (fun q => ht25 (by rw [if_neg q]; decide))
      obtain ⟨ph, hpv, hH0⟩ := hH hr
      have hG0 : HG w nobody ph w4 [⟨[], tr⟩] := HG.second (fun b q => q.elim) hX0 hH0 hE3
      refine W_skip ?_
      refine W_seq ?_
      refine W_region ?_
      refine op rfl (r_moveV (v := hp ph) (by rw [← hpv]; rfl)) ?_
      refine opCv rfl (r_call Tryd.func14 Tryd.nm14 rfl) (newG hG0 100 (by decide)) ?_
      rintro v6 w6 ⟨pq, rfl, hQ, hE⟩
      replace hX := hX.trans hE
      have hQ6 : QG w nobody pq ph w6 ⟨[⟨[], tr⟩], [], 100, fun _ => none⟩ := hQ
      have hO6 : OS w nobody pq ph w6 ⟨[⟨[], tr⟩], [], 100, fun _ => none⟩ (.slice none 0 0) [] (.slice none 0 0) [] := ⟨hQ6, IntO.nil, .nil, (fun g hg => by cases hg), (fun g hg => by cases hg), fun g hg => by cases hg⟩
      refine op rfl (r_assignV (v := .pointer _) rfl) ?_
      refine WL_nil ?_
      refine W_seq ?_
      refine W_region ?_
      refine op rfl (r_assignV (v := .slice _ _ _) rfl) ?_
      refine WL_nil ?_
      refine W_seq ?_
      refine W_region ?_
      refine op rfl (r_assignV (v := .slice _ _ _) rfl) ?_
      refine WL_nil ?_
      refine W_seq ?_
      refine W_seq ?_
      refine W_region ?_
      refine op rfl (r_assignV (v := .int _ _) rfl) ?_
      refine WL_nil ?_
      refine W_block ?_
      refine W_loop (4 :: 8 :: 9 :: 10 :: 11 :: 12 :: 29 :: 30 :: 31 :: 32 :: 33 :: 34 :: 35 :: 36 :: 37 :: 38 :: 39 :: 40 :: 41 :: 42 :: 43 :: 44 :: 45 :: 46 :: 47 :: 48 :: 49 :: 50 :: 51 :: 52 :: 53 :: 54 :: 55 :: 56 :: 57 :: 58 :: 59 :: 60 :: 61 :: 62 :: 63 :: 64 :: 65 :: 66 :: 67 :: 68 :: 69 :: 70 :: 71 :: 72 :: 73 :: 74 :: 75 :: 76 :: 77 :: 78 :: 79 :: 80 :: 81 :: 82 :: 83 :: 84 :: 85 :: 86 :: 87 :: 88 :: 89 :: 90 :: 91 :: 92 :: 93 :: 94 :: 95 :: 96 :: 97 :: 98 :: 99 :: 100 :: 101 :: 102 :: 103 :: 104 :: 105 :: 106 :: 107 :: 108 :: 109 :: 110 :: 111 :: 112 :: 113 :: 114 :: 115 :: 116 :: 117 :: 118 :: 119 :: 120 :: 121 :: 122 :: 123 :: 124 :: 125 :: 126 :: 127 :: 128 :: 129 :: 130 :: 131 :: 132 :: 133 :: 134 :: 135 :: 136 :: 137 :: 138 :: 139 :: 140 :: 141 :: 142 :: 143 :: 144 :: 145 :: 146 :: 147 :: 148 :: 149 :: 150 :: 151 :: 152 :: 153 :: 154 :: 155 :: 156 :: 157 :: 158 :: 159 :: 160 :: 161 :: 162 :: 163 :: 164 :: 165 :: 166 :: []) (fun qq e' w' => ∃ (i : Nat) (B : Nat → Prop) (v8 v9 : Value) (rv : List Int) (q : Qs), qq = l.length - i ∧ i ≤ l.length ∧ e' 10 = .int .i64 i ∧ e' 8 = v8 ∧ e' 9 = v9 ∧ OS w B pq ph w' q v8 (q.ws.map Rq.id) v9 rv ∧ (∀ r ∈ q.ws, 1 ≤ r.id) ∧ RvR rv q.H.length ∧ rv.length ≤ i) (l.length) ?_ ?_
      · exact ⟨0, _, _, _, _, _, by omega, by omega, rfl, rfl, rfl, hO6, (fun r hr => by cases hr), ⟨List.Pairwise.nil, fun x hx => by cases hx⟩, Nat.le_refl _⟩
      intro k g w' hI
      obtain ⟨i, B, v8, v9, rv, q, hq, hi, h10, h8, h9, hO, hpos, hRv, hrl⟩ := hI
      clear hX
      have hX := Ext.refl w'
      obtain ⟨w0i, hw0i⟩ : ∃ x, x = w' := ⟨_, rfl⟩
      subst hw0i
      obtain ⟨nn, hnn⟩ : ∃ n : Int, n = (q.H.length : Int) - 1 := ⟨_, rfl⟩
      have hHl := (hist_len hO.que.que.hist)
      have hwl := hO.que.wl
      have hwl' : (q.ws.map Rq.id).length ≤ 100 := by rw [List.length_map]; exact hwl
      refine W_set (i := 10) h10 ?_
      refine W_set (i := 8) h8 ?_
      refine W_set (i := 9) h9 ?_
      refine W_seq ?_
      refine W_seq ?_
      refine W_region ?_
      refine op rfl (r_moveV (v := .int _ _) rfl) ?_
      refine op rfl (r_moveV (v := .slice _ _ _) rfl) ?_
      refine op rfl (r_len_slice rfl Tryd.underlying66) ?_
      refine op rfl (r_lss rfl rfl) ?_
      refine WL_nil ?_
      refine W_ifp rfl (fun ht32 => ?_) (fun ht32 => ?_)
      · have hlt : i < l.length := by omega
        have hwr : IntKind.i64.wrap ((i : Int) + 1) = ((i + 1 : Nat) : Int) := by rw [wrap_i64 (by omega) (by omega)]; omega
        have hd1 : l.length - (i + 1) < k := by rw [hq]; omega
        obtain ⟨g1, off1, Ai, ci, hA, hdk, hdi, hdb, hci, hdl, hrr, hcr, hcell⟩ := hat i hlt
        obtain ⟨q1, t, hd, hpos1, hHa, hHb, hcase⟩ := once q l[i] hpos
        have hodA : l[i].k = 1 → t.e = 0 → (q.ws.map Rq.id ++ [l[i].r.id]) = bif t.is then q.ws.map Rq.id else q1.ws.map Rq.id := fun k1 k2 => by
          rcases hcase with ⟨_, _, c3, c4⟩ | ⟨c, _⟩ | ⟨c, _⟩
          · rw [c3]; rcases c4 with c | c
            · exact c.2.symm
            · exact absurd k2 c.1
          · exact absurd k1 c
          · exact absurd k1 c
        have hodB : ¬ (l[i].k = 1 ∧ t.e = 0) → q.ws.map Rq.id = bif t.is then q.ws.map Rq.id else q1.ws.map Rq.id := fun k => by
          rcases hcase with ⟨c1, _, c3, c4⟩ | ⟨_, c, d⟩ | ⟨_, c, _⟩
          · rw [c3]; rcases c4 with c | c
            · exact absurd ⟨c1, c.1⟩ k
            · exact c.2.symm
          · rw [c, d]; rfl
          · rw [c]; rfl
        have hH1 : l[i].k = 1 → q1.H = q.H := fun k => by
          rcases hcase with ⟨_, c, _⟩ | ⟨c, _⟩ | ⟨c, _⟩
          · exact c
          · exact absurd k c
          · exact absurd k c
        refine W_skip ?_
        refine W_seq ?_
        refine W_block ?_
        refine W_seq ?_
        refine W_region ?_
        refine op rfl (r_moveV (v := hp ph) (by rw [← hpv]; rfl)) ?_
        refine opCv rfl (r_call Tryd.func17 Tryd.nm17 rfl) (head_spec (hO.que.que.hist.ext hX)) ?_
        rintro v12 w12 ⟨hv12, hE⟩
        replace hX := hX.trans hE
        rw [← hnn] at hv12
        subst hv12
        refine op rfl (r_assignV (v := .int _ _) rfl) ?_
        refine WL_nil ?_
        refine W_seq ?_
        refine W_region ?_
        refine op rfl (r_moveV (v := hp pq) rfl) ?_
        refine op rfl (r_moveV (v := .slice _ _ _) rfl) ?_
        refine op rfl (r_moveV (v := .int _ _) rfl) ?_
        refine op rfl (r_indexAddrK (by rw [← hA]; rfl) rfl Tryd.underlying66 Tryd.sz72 hlt) ?_
        refine op rfl (r_load_agg (cs := [.int .i64 l[i].k, .int .i64 l[i].r.id, .int .i64 l[i].r.base, .slice Ai l[i].r.l.length ci]) rfl Tryd.underlying72 rfl Tryd.sz72 rfl (ext_row (hO.que.ext.trans hX) rfl hcell)) ?_
        have hO13 := hO.ext hX
        refine opCv rfl (r_call Tryd.func30 Tryd.nm30 rfl) (did_spec hO13.que l[i] (c := ci) (G := old w) (fun b hb ↦ Or.inl hb) (hrr.keep (fun b hb ↦ hO13.que.ext.block b hb) (fun _ h ↦ h)) hdi hdb hdl) ?_
        rintro v13 w13 ⟨hv13, hQ13, hK13⟩
        rw [hd] at hv13 hQ13
        have hv13' : v13 = .agg t.vals.toArray := hv13
        subst hv13'
        have hP13 := hO13.call hQ13 hK13
        clear hX
        have hX := Ext.refl w13
        refine op_alloc rfl Tryd.zero69 ?_
        intro w13_6 b13_6 E13_6 B13_6 L13_6
        have hG13_6 : w13.heap.size ≤ b13_6 := by have := hX.size; omega
        replace hX := hX.trans E13_6
        refine op_storeRow rfl rfl Tryd.sz69 B13_6 rfl rfl ?_
        intro w13_7 C13_7 BB13_7
        replace hX := hX.chg C13_7 hG13_6
        replace B13_6 := BB13_7
        have hT := OT.mk (t := t) (hP13.ext hX) B13_6 (fun k => by have := (hP13.od.lt k).2; omega) (fun k => by have := (hP13.rv.lt k).2; omega) (Or.inr ⟨hG13_6, Blk.lt B13_6⟩)
        clear hX
        have hX := Ext.refl w13_7
        refine WL_nil ?_
        refine W_cut [8, 43, 44, 45, 46, 47, 48, 49, 50, 51, 52, 53, 54, 55, 56, 57, 58, 59, 60, 61, 62] (fun e' w' => ∃ (v : Value) (od : List Int) (B' : Nat → Prop), e' 8 = v ∧ od = (bif t.is then q.ws.map Rq.id else q1.ws.map Rq.id) ∧ OT w B' pq ph w' q1 v od v9 rv b13_6 t) ?_ ?_
        · refine W_seq ?_
          refine W_region ?_
          refine op rfl (r_moveV (v := .slice _ _ _) rfl) ?_
          refine op rfl (r_moveV (v := .int _ _) rfl) ?_
          refine op rfl (r_indexAddrK (by rw [← hA]; rfl) rfl Tryd.underlying66 Tryd.sz72 hlt) ?_
          refine op rfl (r_fieldAddr rfl Tryd.fld72_0 rfl) ?_
          refine op rfl (r_load (v := .int .i64 l[i].k) rfl Tryd.underlying3 rfl (ext_cell (hT.os.que.ext.trans hX) (hcell 0 (by decide)))) ?_
          refine op rfl (r_eql rfl rfl) ?_
          refine op_split rfl (r_moveV (v := .bool (decide _)) rfl) (fun hg49 => ?_) (fun hg49 => ?_)
          · refine opG_yes rfl rfl rfl rfl rfl (r_fieldAddr rfl Tryd.fld69_0 rfl) ?_
            refine opG_yes rfl rfl rfl rfl rfl (r_load (v := .int .i64 t.e) rfl Tryd.underlying3 rfl (Blk.cell B13_6 rfl)) ?_
            refine opG_yes rfl rfl rfl rfl rfl (r_eql rfl rfl) ?_
            refine op rfl (r_pickTV (v := .bool _) rfl rfl) ?_
            refine WL_nil ?_
            refine W_ifp rfl (fun ht53 => ?_) (fun ht53 => ?_)
            · refine W_region ?_
              refine op rfl (r_moveV (v := v8) rfl) ?_
              refine op rfl (r_moveV (v := .slice _ _ _) rfl) ?_
              refine op rfl (r_moveV (v := .int _ _) rfl) ?_
              refine op rfl (r_indexAddrK (by rw [← hA]; rfl) rfl Tryd.underlying66 Tryd.sz72 hlt) ?_
              refine op rfl (r_fieldAddr rfl Tryd.fld72_1 rfl) ?_
              refine op rfl (r_fieldAddr rfl Tryd.fld41_0 rfl) ?_
              refine op rfl (r_load (v := .int .i64 l[i].r.id) rfl Tryd.underlying3 rfl (ext_cell (hT.os.que.ext.trans hX) (hcell 1 (by decide)))) ?_
              refine op_newS rfl (r_buildSlice (vs := [.int .i64 l[i].r.id]) Tryd.underlying49 Tryd.sz3 Tryd.zero3 rfl rfl rfl) ?_
              intro w15 b15 E15 B15 L15
              replace hX := hX.trans E15
              have hT15a := hT.ext hX
              refine op_appInt (v := v8) (l := q.ws.map Rq.id) rfl rfl rfl Tryd.underlying49 Tryd.sz3 Tryd.by3 Tryd.zero3 rfl hT15a.os.od B15 hdi (by omega) (by omega) hT15a.os.que.ext.size ?_
              intro v15 w15a hI15 hGr15 hv15
              have hT15 := hT15a.app8 hI15 hGr15 hv15
              clear hX B13_6
              have hX := Ext.refl w15a
              have B13_6 := hT15.bk
              refine op rfl (r_assignV (v := v15) rfl) ?_
              refine WL_nil ?_
              refine ⟨?_, by repeat (first | with_reducible exact Out.refl _ _ | with_reducible exact Out.mix | refine Out.put rfl ?_ | refine Out.mixin rfl ?_ | exact Out.refl _ _ | exact Out.mix)⟩
              first
                | exact ⟨_, _, _, rfl, hodA hg49 ht53, hT15⟩
                | exact ⟨_, _, _, rfl, hodB (fun k => ht53 k.2), hT.ext hX⟩
                | exact ⟨_, _, _, rfl, hodB (fun k => hg49 k.1), hT.ext hX⟩
            · refine W_skip ?_
              refine ⟨?_, by repeat (first | with_reducible exact Out.refl _ _ | with_reducible exact Out.mix | refine Out.put rfl ?_ | refine Out.mixin rfl ?_ | exact Out.refl _ _ | exact Out.mix)⟩
              first
                | exact ⟨_, _, _, rfl, hodA hg49 ht53, hT15⟩
                | exact ⟨_, _, _, rfl, hodB (fun k => ht53 k.2), hT.ext hX⟩
                | exact ⟨_, _, _, rfl, hodB (fun k => hg49 k.1), hT.ext hX⟩
          · refine opG_no rfl rfl rfl rfl rfl ?_
            refine opG_no rfl rfl rfl rfl rfl ?_
            refine opG_no rfl rfl rfl rfl rfl ?_
            refine op rfl (r_pickFV (v := .bool _) rfl rfl) ?_
            refine WL_nil ?_
            refine W_else rfl ?_
            refine W_skip ?_
            refine ⟨?_, by repeat (first | with_reducible exact Out.refl _ _ | with_reducible exact Out.mix | refine Out.put rfl ?_ | refine Out.mixin rfl ?_ | exact Out.refl _ _ | exact Out.mix)⟩
            first
              | exact ⟨_, _, _, rfl, hodA hg49 ht53, hT15⟩
              | exact ⟨_, _, _, rfl, hodB (fun k => ht53 k.2), hT.ext hX⟩
              | exact ⟨_, _, _, rfl, hodB (fun k => hg49 k.1), hT.ext hX⟩
        rintro gift53 w' hJ
        obtain ⟨v16, od, B16, h8', hod, hT16⟩ := hJ
        clear hX B13_6
        obtain ⟨w16, hw16⟩ : ∃ x, x = w' := ⟨_, rfl⟩
        subst hw16
        have hX := Ext.refl w16
        have B13_6 := hT16.bk
        refine W_set (i := 8) h8' ?_
        refine W_cut [4, 63, 64, 65, 66, 67, 68, 69, 70, 71, 72, 73, 74] (fun e' w' => Ext w16 w') ?_ ?_
        · refine W_seq ?_
          refine W_region ?_
          refine op rfl (r_moveV (v := .slice _ _ _) rfl) ?_
          refine op rfl (r_moveV (v := .int _ _) rfl) ?_
          refine op rfl (r_indexAddrK (by rw [← hA]; rfl) rfl Tryd.underlying66 Tryd.sz72 hlt) ?_
          refine op rfl (r_fieldAddr rfl Tryd.fld72_0 rfl) ?_
          refine op rfl (r_load (v := .int .i64 l[i].k) rfl Tryd.underlying3 rfl (ext_cell (hT16.os.que.ext.trans hX) (hcell 0 (by decide)))) ?_
          refine op rfl (r_eql rfl rfl) ?_
          refine op_split rfl (r_moveV (v := .bool (decide _)) rfl) (fun hg69 => ?_) (fun hg69 => ?_)
          · refine opG_yes rfl rfl rfl rfl rfl (r_moveV (v := hp ph) (by rw [← hpv]; rfl)) ?_
            refine opGCv_yes rfl rfl rfl rfl rfl (r_call Tryd.func17 Tryd.nm17 rfl) (head_spec (hT16.os.que.que.hist.ext hX)) ?_
            rintro v16a w16a ⟨rfl, hE⟩
            replace B13_6 := Blk.ext B13_6 hE
            replace hX := hX.trans hE
            refine opG_yes rfl rfl rfl rfl rfl (r_moveV (v := .int _ _) rfl) ?_
            refine opG_yes rfl rfl rfl rfl rfl (r_neq rfl rfl) ?_
            refine op rfl (r_pickTV (v := .bool _) rfl rfl) ?_
            refine WL_nil ?_
            refine W_ifp rfl (fun ht74 => ?_) (fun ht74 => ?_)
            · first | exact absurd (by rw [hH1 hg69, hnn]) ht74 | exact ht74.elim | cases ht74
            · refine W_skip ?_
              refine ⟨?_, by repeat (first | with_reducible exact Out.refl _ _ | with_reducible exact Out.mix | refine Out.put rfl ?_ | refine Out.mixin rfl ?_ | exact Out.refl _ _ | exact Out.mix)⟩
              exact hX
          · refine opG_no rfl rfl rfl rfl rfl ?_
            refine opG_no rfl rfl rfl rfl rfl ?_
            refine opG_no rfl rfl rfl rfl rfl ?_
            refine opG_no rfl rfl rfl rfl rfl ?_
            refine op rfl (r_pickFV (v := .bool _) rfl rfl) ?_
            refine WL_nil ?_
            refine W_else rfl ?_
            refine W_skip ?_
            refine ⟨?_, by repeat (first | with_reducible exact Out.refl _ _ | with_reducible exact Out.mix | refine Out.put rfl ?_ | refine Out.mixin rfl ?_ | exact Out.refl _ _ | exact Out.mix)⟩
            exact hX
        rintro gift74 w' hJ
        clear hX B13_6
        obtain ⟨w18, hw18⟩ : ∃ x, x = w' := ⟨_, rfl⟩
        subst hw18
        have hT18 := hT16.ext hJ
        have hX := Ext.refl w18
        have B13_6 := hT18.bk
        refine W_cut (4 :: 8 :: 9 :: 75 :: 76 :: 77 :: 78 :: 79 :: 80 :: 81 :: 82 :: 83 :: 84 :: 85 :: 86 :: 87 :: 88 :: 89 :: 90 :: 91 :: 92 :: 93 :: 94 :: 95 :: 96 :: 97 :: 98 :: 99 :: 100 :: 101 :: 102 :: 103 :: 104 :: 105 :: 106 :: 107 :: 108 :: 109 :: 110 :: 111 :: 112 :: 113 :: 114 :: 115 :: 116 :: 117 :: 118 :: 119 :: 120 :: 121 :: 122 :: 123 :: 124 :: 125 :: 126 :: 127 :: 128 :: 129 :: 130 :: 131 :: 132 :: 133 :: 134 :: 135 :: 136 :: 137 :: 138 :: 139 :: 140 :: 141 :: 142 :: 143 :: 144 :: 145 :: 146 :: 147 :: 148 :: 149 :: 150 :: 151 :: 152 :: 153 :: 154 :: 155 :: 156 :: 157 :: 158 :: 159 :: 160 :: 161 :: []) (fun e' w' => ∃ (v v' : Value) (B' : Nat → Prop) (rv3 : List Int) (q3 : Qs), e' 8 = v ∧ e' 9 = v' ∧ OS w B' pq ph w' q3 v (q3.ws.map Rq.id) v' rv3 ∧ (∀ r ∈ q3.ws, 1 ≤ r.id) ∧ RvR rv3 q3.H.length ∧ rv3.length ≤ i + 1) ?_ ?_
        · refine W_seq ?_
          refine W_region ?_
          refine op rfl (r_fieldAddr rfl Tryd.fld69_2 rfl) ?_
          refine op rfl (r_load (v := .bool (decide (t.is = true))) rfl Tryd.underlying4 rfl (by rw [show decide (t.is = true) = t.is by cases t.is <;> rfl]; exact Blk.cell B13_6 rfl)) ?_
          refine WL_nil ?_
          refine W_ifp rfl (fun ht76 => ?_) (fun ht76 => ?_)
          · have hc3 : ∃ x tl, q.ws = x :: tl ∧ x.id = t.a.id ∧ q1.ws = tl ∧ (q1.tk x.id).isSome = true ∧ ((t.a.kind = 1 ∧ q1.H.length = q.H.length + 1 ∧ t.a.rev = q.H.length) ∨ (t.a.kind ≠ 1 ∧ q1.H.length = q.H.length)) := by
              rcases hcase with ⟨_, _, c, _⟩ | ⟨_, c, _⟩ | ⟨_, _, c⟩
              · rw [c] at ht76; cases ht76
              · rw [c] at ht76; cases ht76
              · exact c
            obtain ⟨x, tl, hws, hid, hws1, htk, hkind⟩ := hc3
            rw [ht76] at hod
            have hod' : od = x.id :: tl.map Rq.id := by rw [hod, hws]; rfl
            subst hod'
            obtain ⟨A, cap, hv16, hcap, hrow⟩ := hT18.os.od.read
            subst hv16
            obtain ⟨g3, o3, hA3, _, _, hc3⟩ := Ty.Row.cell hrow (i := 0) (by simp)
            have hT18t := hT18.tail
            have htll : (tl.map Rq.id).length ≤ 100 := by rw [hws] at hwl; simp only [List.length_cons] at hwl; rw [List.length_map]; omega
            have hiff : t.a.kind = 1 ↔ (q1.H.length : Int) - 1 = nn + 1 := by
              rcases hkind with ⟨c1, c2, _⟩ | ⟨c1, c2⟩
              · exact ⟨fun _ => by omega, fun _ => c1⟩
              · exact ⟨fun k => absurd k c1, fun k => by omega⟩
            have hrev : t.a.kind = 1 → t.a.rev = nn + 1 := fun k => by
              rcases hkind with ⟨c1, c2, c3⟩ | ⟨c1, c2⟩
              · omega
              · exact absurd k c1
            refine W_cut [4, 77, 78, 79, 80, 81, 82, 83, 84, 85, 86, 87, 88, 89, 90, 91, 92, 93, 94, 95, 96, 97, 98, 99, 100, 101, 102, 103, 104, 105, 106, 107, 108, 109, 110, 111, 112, 113, 114] (fun e' w' => Ext w18 w') ?_ ?_
            · refine W_seq ?_
              refine W_drawF (W0 := w18) (fun b : Nat => b = b13_6 ∨ False) Tryd.wd rfl ?_
              intro wd19 hD
              replace B13_6 := Blk.ext B13_6 hD
              replace hX := hX.trans hD
              have DB13_6 := B13_6
              have hS : Ext w18 wd19 ∧ Same (fun b : Nat => b = b13_6 ∨ False) wd19 wd19 := ⟨hX, fun _ _ => rfl⟩
              refine A_take (i := 0) rfl (by kernel_rfl) (by kernel_rfl) (by kernel_rfl) rfl hS (fun _ hw => r_moveV (v := .slice _ _ _) rfl) ?_
              refine A_take (i := 1) rfl (by kernel_rfl) (by kernel_rfl) (by kernel_rfl) rfl hS (fun _ hw => r_len_slice rfl Tryd.underlying49) ?_
              refine A_take (i := 2) rfl (by kernel_rfl) (by kernel_rfl) (by kernel_rfl) rfl hS (fun _ hw => r_eql rfl rfl) ?_
              refine A_false (i := 3) rfl (by kernel_rfl) (by kernel_rfl) (by kernel_rfl) rfl hS (fun _ _ => r_moveV (v := .bool (decide _)) rfl) (fun h => by simp only [List.length_cons] at h; omega) ?_
              refine A_takeG (i := 4) rfl (by kernel_rfl) (by kernel_rfl) (by kernel_rfl) rfl hS rfl rfl rfl rfl (fun _ hw => r_moveV (v := .slice _ _ _) rfl) ?_
              refine A_takeG (i := 5) rfl (by kernel_rfl) (by kernel_rfl) (by kernel_rfl) rfl hS rfl rfl rfl rfl (fun _ hw => r_indexAddr1 rfl rfl hA3 Tryd.underlying49 Tryd.sz3 (by omega) (by simp only [List.length_cons]; omega)) ?_
              refine A_takeG (i := 6) rfl (by kernel_rfl) (by kernel_rfl) (by kernel_rfl) rfl hS rfl rfl rfl rfl (fun _ hw => r_load (v := .int .i64 x.id) rfl Tryd.underlying3 rfl (ext_cell hw.1 hc3)) ?_
              refine A_takeG (i := 7) rfl (by kernel_rfl) (by kernel_rfl) (by kernel_rfl) rfl hS rfl rfl rfl rfl (fun _ hw => r_fieldAddr rfl Tryd.fld69_1 rfl) ?_
              refine A_takeG (i := 8) rfl (by kernel_rfl) (by kernel_rfl) (by kernel_rfl) rfl hS rfl rfl rfl rfl (fun _ hw => r_fieldAddr rfl Tryd.fld43_0 rfl) ?_
              refine A_takeG (i := 9) rfl (by kernel_rfl) (by kernel_rfl) (by kernel_rfl) rfl hS rfl rfl rfl rfl (fun _ hw => r_load (v := .int .i64 t.a.id) rfl Tryd.underlying3 rfl (Blk.cell (Blk.at DB13_6 (hw.2 _ (Or.inl rfl))) rfl)) ?_
              refine A_takeG (i := 10) rfl (by kernel_rfl) (by kernel_rfl) (by kernel_rfl) rfl hS rfl rfl rfl rfl (fun _ hw => r_neq rfl rfl) ?_
              refine A_take (i := 11) rfl (by kernel_rfl) (by kernel_rfl) (by kernel_rfl) rfl hS (fun _ hw => r_pickFV (v := .bool _) rfl rfl) ?_
              refine A_false (i := 12) rfl (by kernel_rfl) (by kernel_rfl) (by kernel_rfl) rfl hS (fun _ _ => r_moveV (v := .bool (decide _)) rfl) (fun h => h hid) ?_
              refine A_takeG (i := 13) rfl (by kernel_rfl) (by kernel_rfl) (by kernel_rfl) rfl hS rfl rfl rfl rfl (fun _ hw => r_fieldAddr rfl Tryd.fld69_1 rfl) ?_
              refine A_takeG (i := 14) rfl (by kernel_rfl) (by kernel_rfl) (by kernel_rfl) rfl hS rfl rfl rfl rfl (fun _ hw => r_fieldAddr rfl Tryd.fld43_1 rfl) ?_
              refine A_takeG (i := 15) rfl (by kernel_rfl) (by kernel_rfl) (by kernel_rfl) rfl hS rfl rfl rfl rfl (fun _ hw => r_load (v := .int .i64 t.a.kind) rfl Tryd.underlying3 rfl (Blk.cell (Blk.at DB13_6 (hw.2 _ (Or.inl rfl))) rfl)) ?_
              refine A_takeG (i := 16) rfl (by kernel_rfl) (by kernel_rfl) (by kernel_rfl) rfl hS rfl rfl rfl rfl (fun _ hw => r_eql rfl rfl) ?_
              refine A_takeG (i := 17) rfl (by kernel_rfl) (by kernel_rfl) (by kernel_rfl) rfl hS rfl rfl rfl rfl (fun _ hw => r_moveV (v := hp ph) (by rw [← hpv]; rfl)) ?_
              refine A_takeG (i := 19) rfl (by kernel_rfl) (by kernel_rfl) (by kernel_rfl) rfl hS rfl rfl rfl rfl (fun _ hw => r_moveV (v := .int _ _) rfl) ?_
              refine A_takeG (i := 20) rfl (by kernel_rfl) (by kernel_rfl) (by kernel_rfl) rfl hS rfl rfl rfl rfl (fun _ hw => r_add' (m := nn) (n := 1) (r := nn + 1) rfl rfl (by rw [wrap_i64 (by omega) (by omega)])) ?_
              refine A_ready1 (i := 18) (by kernel_rfl) ?_
              refine O_callG rfl rfl rfl rfl rfl rfl (r_call Tryd.func17 Tryd.nm17 rfl) (head_spec (hT18.os.que.que.hist.ext hX)) ?_
              rintro v19 w19 ⟨rfl, hE⟩
              replace B13_6 := Blk.ext B13_6 hE
              replace hX := hX.trans hE
              replace hS : Ext w18 w19 ∧ Same (fun b : Nat => b = b13_6 ∨ False) wd19 w19 := ⟨hX, fun b hb => Or.elim hb (fun q => by subst q; exact Blk.eq B13_6 DB13_6) (fun hb => hb.elim)⟩
              refine ⟨hS, ?_⟩
              refine A_takeG (i := 21) rfl (by kernel_rfl) (by kernel_rfl) (by kernel_rfl) rfl hS rfl rfl rfl rfl (fun _ hw => r_eql rfl rfl) ?_
              refine A_takeG (i := 22) rfl (by kernel_rfl) (by kernel_rfl) (by kernel_rfl) rfl hS rfl rfl rfl rfl (fun _ hw => rb_neq rfl rfl Tryd.underlying4) ?_
              refine A_take (i := 23) rfl (by kernel_rfl) (by kernel_rfl) (by kernel_rfl) rfl hS (fun _ hw => r_pickFV (v := .bool _) rfl rfl) ?_
              refine A_false (i := 24) rfl (by kernel_rfl) (by kernel_rfl) (by kernel_rfl) rfl hS (fun _ _ => r_moveV (v := .bool (decide _)) rfl) (fun h => h (decide_eq_decide.2 hiff)) ?_
              refine A_takeG (i := 25) rfl (by kernel_rfl) (by kernel_rfl) (by kernel_rfl) rfl hS rfl rfl rfl rfl (fun _ hw => r_fieldAddr rfl Tryd.fld69_1 rfl) ?_
              refine A_takeG (i := 26) rfl (by kernel_rfl) (by kernel_rfl) (by kernel_rfl) rfl hS rfl rfl rfl rfl (fun _ hw => r_fieldAddr rfl Tryd.fld43_1 rfl) ?_
              refine A_takeG (i := 27) rfl (by kernel_rfl) (by kernel_rfl) (by kernel_rfl) rfl hS rfl rfl rfl rfl (fun _ hw => r_load (v := .int .i64 t.a.kind) rfl Tryd.underlying3 rfl (Blk.cell (Blk.at DB13_6 (hw.2 _ (Or.inl rfl))) rfl)) ?_
              refine A_takeG (i := 28) rfl (by kernel_rfl) (by kernel_rfl) (by kernel_rfl) rfl hS rfl rfl rfl rfl (fun _ hw => r_eql rfl rfl) ?_
              refine A_splitG (i := 29) rfl (by kernel_rfl) (by kernel_rfl) (by kernel_rfl) rfl hS rfl rfl rfl rfl (fun _ _ => r_moveV (v := .bool (decide _)) rfl) (fun hg106 => ?_) (fun hg106 => ?_)
              · refine A_takeG (i := 30) rfl (by kernel_rfl) (by kernel_rfl) (by kernel_rfl) rfl hS rfl rfl rfl rfl (fun _ hw => r_fieldAddr rfl Tryd.fld69_1 rfl) ?_
                refine A_takeG (i := 31) rfl (by kernel_rfl) (by kernel_rfl) (by kernel_rfl) rfl hS rfl rfl rfl rfl (fun _ hw => r_fieldAddr rfl Tryd.fld43_2 rfl) ?_
                refine A_takeG (i := 32) rfl (by kernel_rfl) (by kernel_rfl) (by kernel_rfl) rfl hS rfl rfl rfl rfl (fun _ hw => r_load (v := .int .i64 t.a.rev) rfl Tryd.underlying3 rfl (Blk.cell (Blk.at DB13_6 (hw.2 _ (Or.inl rfl))) rfl)) ?_
                refine A_takeG (i := 33) rfl (by kernel_rfl) (by kernel_rfl) (by kernel_rfl) rfl hS rfl rfl rfl rfl (fun _ hw => r_moveV (v := .int _ _) rfl) ?_
                refine A_takeG (i := 34) rfl (by kernel_rfl) (by kernel_rfl) (by kernel_rfl) rfl hS rfl rfl rfl rfl (fun _ hw => r_add' (m := nn) (n := 1) (r := nn + 1) rfl rfl (by rw [wrap_i64 (by omega) (by omega)])) ?_
                refine A_takeG (i := 35) rfl (by kernel_rfl) (by kernel_rfl) (by kernel_rfl) rfl hS rfl rfl rfl rfl (fun _ hw => r_neq rfl rfl) ?_
                refine A_takeG (i := 36) rfl (by kernel_rfl) (by kernel_rfl) (by kernel_rfl) rfl hS rfl rfl rfl rfl (fun _ hw => r_pickTV (v := .bool _) rfl rfl) ?_
                refine A_take (i := 37) rfl (by kernel_rfl) (by kernel_rfl) (by kernel_rfl) rfl hS (fun _ hw => r_pickFV (v := .bool _) rfl rfl) ?_
                refine A_done (by kernel_rfl) ?_
                refine W_ifp rfl (fun ht114 => ?_) (fun ht114 => ?_)
                · first | exact absurd (hrev hg106) ht114 | exact ht114.elim | cases ht114
                · refine W_skip ?_
                  refine ⟨?_, by repeat (first | with_reducible exact Out.refl _ _ | with_reducible exact Out.mix | refine Out.put rfl ?_ | refine Out.mixin rfl ?_ | exact Out.refl _ _ | exact Out.mix)⟩
                  exact hX
              · refine A_skip (i := 30) rfl (by kernel_rfl) (by kernel_rfl) (by kernel_rfl) rfl hS rfl rfl rfl rfl ?_
                refine A_skip (i := 31) rfl (by kernel_rfl) (by kernel_rfl) (by kernel_rfl) rfl hS rfl rfl rfl rfl ?_
                refine A_skip (i := 32) rfl (by kernel_rfl) (by kernel_rfl) (by kernel_rfl) rfl hS rfl rfl rfl rfl ?_
                refine A_skip (i := 33) rfl (by kernel_rfl) (by kernel_rfl) (by kernel_rfl) rfl hS rfl rfl rfl rfl ?_
                refine A_skip (i := 34) rfl (by kernel_rfl) (by kernel_rfl) (by kernel_rfl) rfl hS rfl rfl rfl rfl ?_
                refine A_skip (i := 35) rfl (by kernel_rfl) (by kernel_rfl) (by kernel_rfl) rfl hS rfl rfl rfl rfl ?_
                refine A_takeG (i := 36) rfl (by kernel_rfl) (by kernel_rfl) (by kernel_rfl) rfl hS rfl rfl rfl rfl (fun _ hw => r_pickFV (v := .bool _) rfl rfl) ?_
                refine A_take (i := 37) rfl (by kernel_rfl) (by kernel_rfl) (by kernel_rfl) rfl hS (fun _ hw => r_pickFV (v := .bool _) rfl rfl) ?_
                refine A_done (by kernel_rfl) ?_
                refine W_else rfl ?_
                refine W_skip ?_
                refine ⟨?_, by repeat (first | with_reducible exact Out.refl _ _ | with_reducible exact Out.mix | refine Out.put rfl ?_ | refine Out.mixin rfl ?_ | exact Out.refl _ _ | exact Out.mix)⟩
                exact hX
            rintro gift114 w' hJ
            clear hX B13_6
            obtain ⟨w21, hw21⟩ : ∃ x, x = w' := ⟨_, rfl⟩
            subst hw21
            have hT21 := hT18t.ext hJ
            have hX := Ext.refl w21
            have B13_6 := hT21.bk
            refine W_seq ?_
            refine W_region ?_
            refine op rfl (r_moveV (v := .slice _ _ _) rfl) ?_
            refine op rfl (r_sliceLo (i := 1) rfl rfl Tryd.underlying49 Tryd.sz3 (by simp)) ?_
            refine op rfl (r_assignV (v := .slice (cutA A cap 1 1) (tl.map Rq.id).length (cap - 1)) rfl) ?_
            refine WL_nil ?_
            refine W_cut [9, 117, 118, 119, 120, 121, 122, 123, 124, 125, 126] (fun e' w' => ∃ (v' : Value) (rv' : List Int) (B' : Nat → Prop), e' 9 = v' ∧ OT w B' pq ph w' q1 (.slice (cutA A cap 1 1) (tl.map Rq.id).length (cap - 1)) (tl.map Rq.id) v' rv' b13_6 t ∧ RvR rv' q1.H.length ∧ rv'.length ≤ i + 1) ?_ ?_
            · refine W_seq ?_
              refine W_region ?_
              refine op rfl (r_fieldAddr rfl Tryd.fld69_1 rfl) ?_
              refine op rfl (r_fieldAddr rfl Tryd.fld43_1 rfl) ?_
              refine op rfl (r_load (v := .int .i64 t.a.kind) rfl Tryd.underlying3 rfl (Blk.cell B13_6 rfl)) ?_
              refine op rfl (r_eql rfl rfl) ?_
              refine WL_nil ?_
              refine W_ifp rfl (fun ht120 => ?_) (fun ht120 => ?_)
              · have hrk : inK .i64 t.a.rev := by rw [hrev ht120]; constructor <;> simp only [lo, Go.Eng.hi] <;> omega
                have hRv23 : RvR (rv ++ [t.a.rev]) q1.H.length := by
                  rcases hkind with ⟨c1, c2, c3⟩ | ⟨c1, c2⟩
                  · rw [c2]; exact hRv.add c3
                  · exact absurd ht120 c1
                refine W_region ?_
                refine op rfl (r_moveV (v := v9) rfl) ?_
                refine op rfl (r_fieldAddr rfl Tryd.fld69_1 rfl) ?_
                refine op rfl (r_fieldAddr rfl Tryd.fld43_2 rfl) ?_
                refine op rfl (r_load (v := .int .i64 t.a.rev) rfl Tryd.underlying3 rfl (Blk.cell B13_6 rfl)) ?_
                refine op_newS rfl (r_buildSlice (vs := [.int .i64 t.a.rev]) Tryd.underlying49 Tryd.sz3 Tryd.zero3 rfl rfl rfl) ?_
                intro w23 b23 E23 B23 L23
                replace hX := hX.trans E23
                have hT23a := hT21.ext hX
                refine op_append (T := Ty.int .i64) (F := nobody) (l := rv) (m := [t.a.rev]) rfl rfl rfl Tryd.underlying49 Tryd.sz3 Tryd.by3 Tryd.zero3 rfl hT23a.os.rv ((row_oneI B23 hrk).srcF flat_int) (fun _ q => q.elim) (by simp only [List.length_singleton]; omega) (by simp only [List.length_singleton]; omega) hT23a.os.que.ext.size ?_
                intro v23 w23a hO23 hGr23 hv23
                have hT23 := hT23a.app9 hO23 hGr23 hv23
                clear hX B13_6
                have hX := Ext.refl w23a
                have B13_6 := hT23.bk
                refine op rfl (r_assignV (v := v23) rfl) ?_
                refine WL_nil ?_
                refine ⟨?_, by repeat (first | with_reducible exact Out.refl _ _ | with_reducible exact Out.mix | refine Out.put rfl ?_ | refine Out.mixin rfl ?_ | exact Out.refl _ _ | exact Out.mix)⟩
                first
                  | exact ⟨_, _, _, rfl, hT23, hRv23, by rw [List.length_append]; simp only [List.length_singleton]; omega⟩
                  | exact ⟨_, _, _, rfl, hT21.ext hX, hRv.mono hHa, by omega⟩
              · refine W_skip ?_
                refine ⟨?_, by repeat (first | with_reducible exact Out.refl _ _ | with_reducible exact Out.mix | refine Out.put rfl ?_ | refine Out.mixin rfl ?_ | exact Out.refl _ _ | exact Out.mix)⟩
                first
                  | exact ⟨_, _, _, rfl, hT23, hRv23, by rw [List.length_append]; simp only [List.length_singleton]; omega⟩
                  | exact ⟨_, _, _, rfl, hT21.ext hX, hRv.mono hHa, by omega⟩
            rintro gift120 w' hJ
            obtain ⟨v24, rv2, B24, h9', hT24, hRv24, hrl24⟩ := hJ
            clear hX B13_6
            obtain ⟨w24, hw24⟩ : ∃ x, x = w' := ⟨_, rfl⟩
            subst hw24
            have hXr := Ext.refl w24
            have hX := hT24.os.que.ext
            have B13_6 := hT24.bk
            obtain ⟨q2, hq2⟩ : ∃ y, y = (submitR q1 l[i].r).1 := ⟨_, rfl⟩
            obtain ⟨e24, he24⟩ : ∃ y, y = (submitR q1 l[i].r).2 := ⟨_, rfl⟩
            have hsub := sub_cases q1 l[i].r
            rw [← hq2, ← he24] at hsub
            have hne : e24 = 0 → ¬ l[i].r.id = t.a.id := fun k j => by
              rcases hsub with c | ⟨_, _, c, _⟩
              · exact c.2 k
              · rw [j, ← hid] at c; exact c htk
            have hpos2 : ∀ r ∈ q2.ws, 1 ≤ r.id := by
              rcases hsub with c | ⟨_, c, _, c'⟩
              · rw [c.1]; exact hpos1
              · rw [c]; intro r hr
                rcases List.mem_append.1 hr with j | j
                · exact hpos1 r j
                · rw [List.mem_singleton.1 j]; exact c'
            have hRv2 : RvR rv2 q2.H.length := by
              rcases hsub with c | ⟨_, c, _⟩
              · rw [c.1]; exact hRv24
              · rw [c]; exact hRv24
            have hrl2 := hrl24
            have hodC : e24 = 0 → q2.ws.map Rq.id = tl.map Rq.id ++ [l[i].r.id] := fun k => by
              rcases hsub with c | ⟨_, c, _⟩
              · exact absurd k c.2
              · rw [c, ← hws1]; simp
            have hodD : ¬ e24 = 0 → q2.ws.map Rq.id = tl.map Rq.id := fun k => by
              rcases hsub with c | ⟨c, _⟩
              · rw [c.1, hws1]
              · exact absurd c k
            refine W_set (i := 9) h9' ?_
            refine W_cut [4, 127, 128, 129, 130, 131, 132, 133, 134, 135, 136, 137, 138, 139, 140, 141, 142, 143, 144, 145, 146] (fun e' w' => ∃ B', OT w B' pq ph w' q2 (.slice (cutA A cap 1 1) (tl.map Rq.id).length (cap - 1)) (tl.map Rq.id) v24 rv2 b13_6 t) ?_ ?_
            · refine W_seq ?_
              refine W_drawF (W0 := w) (fun b : Nat => b = b13_6 ∨ False) Tryd.wd rfl ?_
              intro wd24 hD
              replace B13_6 := Blk.ext B13_6 hD
              replace hX := hX.trans hD
              have DB13_6 := B13_6
              have hS : Ext w wd24 ∧ Same (fun b : Nat => b = b13_6 ∨ False) wd24 wd24 := ⟨hX, fun _ _ => rfl⟩
              refine A_take (i := 0) rfl (by kernel_rfl) (by kernel_rfl) (by kernel_rfl) rfl hS (fun _ hw => r_moveV (v := hp pq) rfl) ?_
              refine A_take (i := 1) rfl (by kernel_rfl) (by kernel_rfl) (by kernel_rfl) rfl hS (fun _ hw => r_moveV (v := .slice _ _ _) rfl) ?_
              refine A_take (i := 2) rfl (by kernel_rfl) (by kernel_rfl) (by kernel_rfl) rfl hS (fun _ hw => r_moveV (v := .int _ _) rfl) ?_
              refine A_take (i := 3) rfl (by kernel_rfl) (by kernel_rfl) (by kernel_rfl) rfl hS (fun _ hw => r_indexAddrK (by rw [← hA]; rfl) rfl Tryd.underlying66 Tryd.sz72 hlt) ?_
              refine A_take (i := 4) rfl (by kernel_rfl) (by kernel_rfl) (by kernel_rfl) rfl hS (fun _ hw => r_fieldAddr rfl Tryd.fld72_1 rfl) ?_
              refine A_take (i := 5) rfl (by kernel_rfl) (by kernel_rfl) (by kernel_rfl) rfl hS (fun _ hw => r_load_agg (cs := [.int .i64 l[i].r.id, .int .i64 l[i].r.base, .slice Ai l[i].r.l.length ci]) rfl Tryd.underlying41 rfl Tryd.sz41 rfl (ext_row hw.1 rfl hcr)) ?_
              refine A_ready1 (i := 6) (by kernel_rfl) ?_
              have hT24a := hT24.ext (hXr.trans hD)
              refine O_call rfl rfl (r_call Tryd.func15 Tryd.nm15 rfl) (submitG hT24a.os.que l[i].r (c := ci) (G := old w) (fun b hb ↦ Or.inl hb) (hrr.keep (fun b hb ↦ hT24a.os.que.ext.block b hb) (fun _ h ↦ h)) hdi hdb hdl) ?_
              rintro vs24 w24a ⟨hv24, hQ24, hK24⟩
              have hT25 := hT24a.call hQ24 hK24
              rw [← hq2] at hT25
              rw [← he24] at hv24
              subst hv24
              clear hX B13_6
              have B13_6 := hT25.bk
              have hX := hT25.os.que.ext
              replace hS : Ext w w24a ∧ Same (fun b : Nat => b = b13_6 ∨ False) wd24 w24a := ⟨hX, fun b hb => hb.elim (fun q => by subst q; exact Blk.eq B13_6 DB13_6) False.elim⟩
              refine ⟨hS, ?_⟩
              refine A_take (i := 7) rfl (by kernel_rfl) (by kernel_rfl) (by kernel_rfl) rfl hS (fun _ hw => r_eql rfl rfl) ?_
              refine A_split (i := 8) rfl (by kernel_rfl) (by kernel_rfl) (by kernel_rfl) rfl hS (fun _ _ => r_moveV (v := .bool (decide _)) rfl) (fun hg135 => ?_) (fun hg135 => ?_)
              · refine A_takeG (i := 9) rfl (by kernel_rfl) (by kernel_rfl) (by kernel_rfl) rfl hS rfl rfl rfl rfl (fun _ hw => r_moveV (v := .slice _ _ _) rfl) ?_
                refine A_takeG (i := 10) rfl (by kernel_rfl) (by kernel_rfl) (by kernel_rfl) rfl hS rfl rfl rfl rfl (fun _ hw => r_moveV (v := .int _ _) rfl) ?_
                refine A_takeG (i := 11) rfl (by kernel_rfl) (by kernel_rfl) (by kernel_rfl) rfl hS rfl rfl rfl rfl (fun _ hw => r_indexAddrK (by rw [← hA]; rfl) rfl Tryd.underlying66 Tryd.sz72 hlt) ?_
                refine A_takeG (i := 12) rfl (by kernel_rfl) (by kernel_rfl) (by kernel_rfl) rfl hS rfl rfl rfl rfl (fun _ hw => r_fieldAddr rfl Tryd.fld72_1 rfl) ?_
                refine A_takeG (i := 13) rfl (by kernel_rfl) (by kernel_rfl) (by kernel_rfl) rfl hS rfl rfl rfl rfl (fun _ hw => r_fieldAddr rfl Tryd.fld41_0 rfl) ?_
                refine A_takeG (i := 14) rfl (by kernel_rfl) (by kernel_rfl) (by kernel_rfl) rfl hS rfl rfl rfl rfl (fun _ hw => r_load (v := .int .i64 l[i].r.id) rfl Tryd.underlying3 rfl (ext_cell hw.1 (hcell 1 (by decide)))) ?_
                refine A_takeG (i := 15) rfl (by kernel_rfl) (by kernel_rfl) (by kernel_rfl) rfl hS rfl rfl rfl rfl (fun _ hw => r_fieldAddr rfl Tryd.fld69_1 rfl) ?_
                refine A_takeG (i := 16) rfl (by kernel_rfl) (by kernel_rfl) (by kernel_rfl) rfl hS rfl rfl rfl rfl (fun _ hw => r_fieldAddr rfl Tryd.fld43_0 rfl) ?_
                refine A_takeG (i := 17) rfl (by kernel_rfl) (by kernel_rfl) (by kernel_rfl) rfl hS rfl rfl rfl rfl (fun _ hw => r_load (v := .int .i64 t.a.id) rfl Tryd.underlying3 rfl (Blk.cell (Blk.at DB13_6 (hw.2 _ (Or.inl rfl))) rfl)) ?_
                refine A_takeG (i := 18) rfl (by kernel_rfl) (by kernel_rfl) (by kernel_rfl) rfl hS rfl rfl rfl rfl (fun _ hw => r_eql rfl rfl) ?_
                refine A_take (i := 19) rfl (by kernel_rfl) (by kernel_rfl) (by kernel_rfl) rfl hS (fun _ hw => r_pickTV (v := .bool _) rfl rfl) ?_
                refine A_done (by kernel_rfl) ?_
                refine W_ifp rfl (fun ht146 => ?_) (fun ht146 => ?_)
                · first | exact absurd ht146 (hne hg135) | exact ht146.elim | cases ht146
                · refine W_skip ?_
                  refine ⟨?_, by repeat (first | with_reducible exact Out.refl _ _ | with_reducible exact Out.mix | refine Out.put rfl ?_ | refine Out.mixin rfl ?_ | exact Out.refl _ _ | exact Out.mix)⟩
                  exact ⟨_, hT25⟩
              · refine A_skip (i := 9) rfl (by kernel_rfl) (by kernel_rfl) (by kernel_rfl) rfl hS rfl rfl rfl rfl ?_
                refine A_skip (i := 10) rfl (by kernel_rfl) (by kernel_rfl) (by kernel_rfl) rfl hS rfl rfl rfl rfl ?_
                refine A_skip (i := 11) rfl (by kernel_rfl) (by kernel_rfl) (by kernel_rfl) rfl hS rfl rfl rfl rfl ?_
                refine A_skip (i := 12) rfl (by kernel_rfl) (by kernel_rfl) (by kernel_rfl) rfl hS rfl rfl rfl rfl ?_
                refine A_skip (i := 13) rfl (by kernel_rfl) (by kernel_rfl) (by kernel_rfl) rfl hS rfl rfl rfl rfl ?_
                refine A_skip (i := 14) rfl (by kernel_rfl) (by kernel_rfl) (by kernel_rfl) rfl hS rfl rfl rfl rfl ?_
                refine A_skip (i := 15) rfl (by kernel_rfl) (by kernel_rfl) (by kernel_rfl) rfl hS rfl rfl rfl rfl ?_
                refine A_skip (i := 16) rfl (by kernel_rfl) (by kernel_rfl) (by kernel_rfl) rfl hS rfl rfl rfl rfl ?_
                refine A_skip (i := 17) rfl (by kernel_rfl) (by kernel_rfl) (by kernel_rfl) rfl hS rfl rfl rfl rfl ?_
                refine A_skip (i := 18) rfl (by kernel_rfl) (by kernel_rfl) (by kernel_rfl) rfl hS rfl rfl rfl rfl ?_
                refine A_take (i := 19) rfl (by kernel_rfl) (by kernel_rfl) (by kernel_rfl) rfl hS (fun _ hw => r_pickFV (v := .bool _) rfl rfl) ?_
                refine A_done (by kernel_rfl) ?_
                refine W_else rfl ?_
                refine W_skip ?_
                refine ⟨?_, by repeat (first | with_reducible exact Out.refl _ _ | with_reducible exact Out.mix | refine Out.put rfl ?_ | refine Out.mixin rfl ?_ | exact Out.refl _ _ | exact Out.mix)⟩
                exact ⟨_, hT25⟩
            rintro gift146 w' hJ
            obtain ⟨B26, hT26⟩ := hJ
            clear hX B13_6
            obtain ⟨w26, hw26⟩ : ∃ x, x = w' := ⟨_, rfl⟩
            subst hw26
            have hX := Ext.refl w26
            have B13_6 := hT26.bk
            refine W_seq ?_
            refine W_region ?_
            refine op rfl (r_moveV (v := hp pq) rfl) ?_
            refine opCv rfl (r_call Tryd.func19 Tryd.nm19 rfl) (que_waits_spec (hT26.os.que.que.ext hX)) ?_
            rintro v26 w26a ⟨hO26, hE⟩
            replace B13_6 := Blk.ext B13_6 hE
            replace hX := hX.trans hE
            rw [waits_pos hpos2] at hO26
            obtain ⟨A26, c26, rfl, hc26, hr26⟩ := own_frow hO26
            have hX26 := hX
            refine op rfl (r_len_slice rfl Tryd.underlying49) ?_
            refine op rfl (r_moveV (v := .slice (cutA A cap 1 1) (tl.map Rq.id).length (cap - 1)) rfl) ?_
            refine op rfl (r_len_slice rfl Tryd.underlying49) ?_
            refine op rfl (r_gtr rfl rfl) ?_
            refine WL_nil ?_
            refine W_ifp rfl (fun ht152 => ?_) (fun ht152 => ?_)
            · have hee : e24 = 0 := Classical.byContradiction (fun k => by rw [hodD k] at ht152; omega)
              refine W_region ?_
              refine op rfl (r_moveV (v := .slice (cutA A cap 1 1) (tl.map Rq.id).length (cap - 1)) rfl) ?_
              refine op rfl (r_moveV (v := .slice _ _ _) rfl) ?_
              refine op rfl (r_moveV (v := .int _ _) rfl) ?_
              refine op rfl (r_indexAddrK (by rw [← hA]; rfl) rfl Tryd.underlying66 Tryd.sz72 hlt) ?_
              refine op rfl (r_fieldAddr rfl Tryd.fld72_1 rfl) ?_
              refine op rfl (r_fieldAddr rfl Tryd.fld41_0 rfl) ?_
              refine op rfl (r_load (v := .int .i64 l[i].r.id) rfl Tryd.underlying3 rfl (ext_cell (hT26.os.que.ext.trans hX) (hcell 1 (by decide)))) ?_
              refine op_newS rfl (r_buildSlice (vs := [.int .i64 l[i].r.id]) Tryd.underlying49 Tryd.sz3 Tryd.zero3 rfl rfl rfl) ?_
              intro w27 b27 E27 B27 L27
              replace hX := hX.trans E27
              have hT27a := hT26.ext hX
              refine op_appInt (v := .slice (cutA A cap 1 1) (tl.map Rq.id).length (cap - 1)) (l := tl.map Rq.id) rfl rfl rfl Tryd.underlying49 Tryd.sz3 Tryd.by3 Tryd.zero3 rfl hT27a.os.od B27 hdi (by omega) (by omega) hT27a.os.que.ext.size ?_
              intro v27 w27a hI27 hGr27 hv27
              have hT27 := hT27a.app8 hI27 hGr27 hv27
              clear hX B13_6
              have hX := Ext.refl w27a
              have B13_6 := hT27.bk
              refine op rfl (r_assignV (v := v27) rfl) ?_
              refine WL_nil ?_
              refine ⟨?_, by repeat (first | with_reducible exact Out.refl _ _ | with_reducible exact Out.mix | refine Out.put rfl ?_ | refine Out.mixin rfl ?_ | exact Out.refl _ _ | exact Out.mix)⟩
              first
                | exact ⟨_, _, _, _, q1, rfl, rfl, by have := (hT18.ext hX).os; rw [hod, hisf ht76] at this; exact this, hpos1, hRv.mono hHa, by omega⟩
                | exact ⟨_, _, _, _, q2, rfl, rfl, by rw [hodC hee]; exact hT27.os, hpos2, hRv2, hrl2⟩
                | exact ⟨_, _, _, _, q2, rfl, rfl, by rw [hodD hee]; exact (hT26.ext hX26).os, hpos2, hRv2, hrl2⟩
            · have hee : ¬ e24 = 0 := fun k => by rw [hodC k, List.length_append, List.length_singleton] at ht152; omega
              refine W_skip ?_
              refine ⟨?_, by repeat (first | with_reducible exact Out.refl _ _ | with_reducible exact Out.mix | refine Out.put rfl ?_ | refine Out.mixin rfl ?_ | exact Out.refl _ _ | exact Out.mix)⟩
              first
                | exact ⟨_, _, _, _, q1, rfl, rfl, by have := (hT18.ext hX).os; rw [hod, hisf ht76] at this; exact this, hpos1, hRv.mono hHa, by omega⟩
                | exact ⟨_, _, _, _, q2, rfl, rfl, by rw [hodC hee]; exact hT27.os, hpos2, hRv2, hrl2⟩
                | exact ⟨_, _, _, _, q2, rfl, rfl, by rw [hodD hee]; exact (hT26.ext hX26).os, hpos2, hRv2, hrl2⟩
          · have hisf : ¬ t.is = true → (bif t.is then q.ws.map Rq.id else q1.ws.map Rq.id) = q1.ws.map Rq.id := fun k => by
              rw [show t.is = false by cases h : t.is with | true => exact absurd h k | false => rfl]; rfl
            refine W_skip ?_
            refine ⟨?_, by repeat (first | with_reducible exact Out.refl _ _ | with_reducible exact Out.mix | refine Out.put rfl ?_ | refine Out.mixin rfl ?_ | exact Out.refl _ _ | exact Out.mix)⟩
            first
              | exact ⟨_, _, _, _, q1, rfl, rfl, by have := (hT18.ext hX).os; rw [hod, hisf ht76] at this; exact this, hpos1, hRv.mono hHa, by omega⟩
              | exact ⟨_, _, _, _, q2, rfl, rfl, by rw [hodC hee]; exact hT27.os, hpos2, hRv2, hrl2⟩
              | exact ⟨_, _, _, _, q2, rfl, rfl, by rw [hodD hee]; exact (hT26.ext hX26).os, hpos2, hRv2, hrl2⟩
        rintro gift76 w' hJ
        obtain ⟨v28, v28', B28, rv3, q3, h8'', h9'', hO3, hpos3, hRv3, hrl3⟩ := hJ
        clear hX B13_6
        obtain ⟨w28i, hw28i⟩ : ∃ x, x = w' := ⟨_, rfl⟩
        subst hw28i
        have hX := Ext.refl w28i
        obtain ⟨A29, c29, rfl, -, hr29⟩ := hO3.od.read
        refine W_set (i := 8) h8'' ?_
        refine W_set (i := 9) h9'' ?_
        refine W_seq ?_
        refine W_region ?_
        refine op rfl (r_moveV (v := hp pq) rfl) ?_
        refine opCv rfl (r_call Tryd.func19 Tryd.nm19 rfl) (que_waits_spec (hO3.que.que.ext hX)) ?_
        rintro v28 w28 ⟨hO28, hE⟩
        replace hX := hX.trans hE
        rw [waits_pos hpos3] at hO28
        obtain ⟨A28, c28, rfl, hc28, hr28⟩ := own_frow hO28
        refine op rfl (r_moveV (v := .slice _ _ _) rfl) ?_
        refine opCv rfl (r_call Tryd.func31 Tryd.nm31 rfl) (sameI_spec hr28 ((hr29.keep (fun _ _ ↦ rfl) (fun b hb ↦ (hO3.od.lt hb).2)).ext hX) (by have := hO3.que.wl; rw [List.length_map]; omega)) ?_
        rintro v28a w28a ⟨rfl, hE⟩
        replace hX := hX.trans hE
        refine op rfl (r_notP rfl) ?_
        refine WL_nil ?_
        refine W_ifp rfl (fun ht166 => ?_) (fun ht166 => ?_)
        · exact absurd rfl ht166
        · refine W_skip ?_
          refine W_region ?_
          refine op rfl (r_moveV (v := .int _ _) rfl) ?_
          refine op rfl (r_add' (r := ((i + 1 : Nat) : Int)) rfl rfl hwr) ?_
          refine op rfl (r_assignV (v := .int _ _) rfl) ?_
          refine WL_nil ?_
          refine ⟨?_, by repeat (first | with_reducible exact Out.refl _ _ | with_reducible exact Out.mix | refine Out.put rfl ?_ | refine Out.mixin rfl ?_ | exact Out.refl _ _ | exact Out.mix)⟩
          exact ⟨l.length - (i + 1), hd1, i + 1, _, _, _, rv3, q3, rfl, hlt, rfl, rfl, rfl, hO3.ext hX, hpos3, hRv3, hrl3⟩
      · obtain ⟨A9, c9, rfl, -, hr9⟩ := own_frow hO.rv
        refine W_exit (blk_hit ?_)
        refine W_seq ?_
        refine W_seq ?_
        refine W_region ?_
        refine op rfl (r_assignV (v := .int _ _) rfl) ?_
        refine WL_nil ?_
        refine W_block ?_
        refine W_loop [4, 13, 167, 168, 169, 170, 171, 172, 173, 174, 175, 176, 177, 178, 179, 180, 181, 182] (fun qq e' w' => ∃ (j : Nat), qq = rv.length + 1 - j ∧ 1 ≤ j ∧ e' 13 = .int .i64 j ∧ Ext w0i w') (rv.length) ?_ ?_
        · exact ⟨1, by omega, by omega, rfl, hX⟩
        intro k g w' hI
        obtain ⟨j, hqj, hj1, h13, hX'⟩ := hI
        clear hX
        have hX := hX'
        refine W_set (i := 13) h13 ?_
        refine W_seq ?_
        refine W_seq ?_
        refine W_region ?_
        refine op rfl (r_moveV (v := .int _ _) rfl) ?_
        refine op rfl (r_moveV (v := .slice _ _ _) rfl) ?_
        refine op rfl (r_len_slice rfl Tryd.underlying49) ?_
        refine op rfl (r_lss rfl rfl) ?_
        refine WL_nil ?_
        refine W_ifp rfl (fun ht170 => ?_) (fun ht170 => ?_)
        · have hltj : j < rv.length := by omega
          obtain ⟨ga, oa, hAa, _, _, hca⟩ := Ty.Row.cell hr9 hltj
          obtain ⟨gb, ob, hAb, _, _, hcb⟩ := Ty.Row.cell hr9 (i := j - 1) (by omega)
          refine W_skip ?_
          refine W_seq ?_
          refine W_block ?_
          refine W_seq ?_
          refine W_drawF (W0 := w0i) (fun b : Nat => False) Tryd.wd rfl ?_
          intro wd33 hD
          replace hX := hX.trans hD
          have hS : Ext w0i wd33 ∧ Same (fun b : Nat => False) wd33 wd33 := ⟨hX, fun _ _ => rfl⟩
          refine A_take (i := 0) rfl (by kernel_rfl) (by kernel_rfl) (by kernel_rfl) rfl hS (fun _ hw => r_moveV (v := .slice _ _ _) rfl) ?_
          refine A_take (i := 1) rfl (by kernel_rfl) (by kernel_rfl) (by kernel_rfl) rfl hS (fun _ hw => r_moveV (v := .int _ _) rfl) ?_
          refine A_take (i := 2) rfl (by kernel_rfl) (by kernel_rfl) (by kernel_rfl) rfl hS (fun _ hw => r_indexAddr1 rfl rfl hAa Tryd.underlying49 Tryd.sz3 (by omega) (by omega)) ?_
          refine A_take (i := 3) rfl (by kernel_rfl) (by kernel_rfl) (by kernel_rfl) rfl hS (fun _ hw => r_load (v := .int .i64 rv[j]) rfl Tryd.underlying3 rfl (ext_cell hw.1 hca)) ?_
          refine A_take (i := 4) rfl (by kernel_rfl) (by kernel_rfl) (by kernel_rfl) rfl hS (fun _ hw => r_moveV (v := .slice _ _ _) rfl) ?_
          refine A_take (i := 5) rfl (by kernel_rfl) (by kernel_rfl) (by kernel_rfl) rfl hS (fun _ hw => r_moveV (v := .int _ _) rfl) ?_
          refine A_take (i := 6) rfl (by kernel_rfl) (by kernel_rfl) (by kernel_rfl) rfl hS (fun _ hw => r_sub' (m := (j : Int)) (n := 1) (r := ((j - 1 : Nat) : Int)) rfl rfl (by rw [wrap_i64 (by omega) (by omega)]; omega)) ?_
          refine A_take (i := 7) rfl (by kernel_rfl) (by kernel_rfl) (by kernel_rfl) rfl hS (fun _ hw => r_indexAddr1 rfl rfl hAb Tryd.underlying49 Tryd.sz3 (by omega) (by omega)) ?_
          refine A_take (i := 8) rfl (by kernel_rfl) (by kernel_rfl) (by kernel_rfl) rfl hS (fun _ hw => r_load (v := .int .i64 (rv[j - 1]'(by omega))) rfl Tryd.underlying3 rfl (ext_cell hw.1 hcb)) ?_
          refine A_take (i := 9) rfl (by kernel_rfl) (by kernel_rfl) (by kernel_rfl) rfl hS (fun _ hw => r_leq rfl rfl) ?_
          refine A_done (by kernel_rfl) ?_
          refine W_ifp rfl (fun ht182 => ?_) (fun ht182 => ?_)
          · exact absurd (List.pairwise_iff_getElem.1 hRv.1 (j - 1) j (by omega) hltj (by omega)) (Int.not_lt.2 ht182)
          · refine W_skip ?_
            refine W_region ?_
            refine op rfl (r_moveV (v := .int _ _) rfl) ?_
            refine op rfl (r_add' (r := ((j + 1 : Nat) : Int)) rfl rfl (by rw [wrap_i64 (by omega) (by omega)]; omega)) ?_
            refine op rfl (r_assignV (v := .int _ _) rfl) ?_
            refine WL_nil ?_
            refine ⟨?_, by repeat (first | with_reducible exact Out.refl _ _ | with_reducible exact Out.mix | refine Out.put rfl ?_ | refine Out.mixin rfl ?_ | exact Out.refl _ _ | exact Out.mix)⟩
            exact ⟨rv.length + 1 - (j + 1), by omega, j + 1, rfl, by omega, rfl, hX⟩
        · refine W_exit (blk_hit ?_)
          refine W_seq ?_
          refine W_region ?_
          refine opCv rfl (r_call Tryd.func12 Tryd.nm12 rfl) (known13_spec _) ?_
          rintro v35 w35 ⟨rfl, hE⟩
          replace hX := hX.trans hE
          refine op rfl (r_assignV (v := .bool _) rfl) ?_
          refine WL_nil ?_
          refine W_ret (finX_ret ?_)
          refine fin1 ?_
          exact ⟨_, rfl, by first | rfl | exact (bool_tt trivial).symm, by first | exact hX | exact hO.que.ext.trans hX⟩
theorem queueOnce_row (W : World) (A0 : Option Addr) (c0 : Nat) (l0 : List Fi) (h0 : l0.length ≤ c0) (b0 : l0.length ≤ big) (r0 : fiT.Row W (old W) A0 l0) (A1 : Option Addr) (c1 : Nat) (l1 : List Dq) (h1 : l1.length ≤ c1) (b1 : l1.length ≤ big) (r1 : doT.Row W (old W) A1 l1) :
    Calls Tryd.prog 7 #[.slice A0 l0.length c0, .slice A1 l1.length c1] W (fun e W' => ∃ v, e = .returned v ∧ v = .bool true ∧ Ext W W') :=
  queueOnce_walk r0 b0 r1 b1
end Go.Proofs.YtmedmajdoecjfaaDoor
