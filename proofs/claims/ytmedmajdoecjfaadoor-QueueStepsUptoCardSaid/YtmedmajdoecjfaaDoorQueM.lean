/-
  Package queue: plain, and how it lies in memory.
-/
import Derived.Test.YtmedmajdoecjfaaDoorFacts
import Derived.Test.YtmedmajdoecjfaaDoorHistK
import Derived.Test.YtmedmajdoecjfaaDoorHistSame
import Derived.Test.YtmedmajdoecjfaaDoorGenB
namespace Go.Proofs.YtmedmajdoecjfaaDoor
open Go Go.Eng Go.RowKit Go.Proofs
set_option linter.unusedVariables false
set_option linter.unusedSimpArgs false
set_option maxHeartbeats 1000000

structure Rq where
  id : Int
  base : Int
  l : List Dl
structure An where
  id : Int
  kind : Int
  rev : Int
  e : Int
deriving DecidableEq
abbrev An.vals (a : An) : List Value := [.int .i64 a.id, .int .i64 a.kind, .int .i64 a.rev, .int .i64 a.e]
abbrev rqT : Ty Rq := ((Ty.int .i64).pair ((Ty.int .i64).pair dlT.slice)).iso fun r : Rq => (r.id, r.base, r.l)
theorem rq_cells {w : World} {F : Nat → Prop} {r : Rq} {cs : List Value} (h : rqT.R w F r cs) : ∃ A c, cs = [.int .i64 r.id, .int .i64 r.base, .slice A r.l.length c] ∧ inK .i64 r.id ∧ inK .i64 r.base ∧ r.l.length ≤ c ∧ r.l.length ≤ 140737488355328 ∧ dlT.Row w F A r.l := by
  obtain ⟨c1, c2, rfl, ⟨rfl, h1⟩, c3, c4, rfl, ⟨rfl, h2⟩, A, c, rfl, h3, h4, h5⟩ := h; exact ⟨A, c, rfl, h1, h2, h3, h4, h5⟩
theorem rq_mk {w : World} {F : Nat → Prop} {r : Rq} {A : Option Addr} {c : Nat} (h1 : inK .i64 r.id) (h2 : inK .i64 r.base) (h3 : r.l.length ≤ c) (h4 : r.l.length ≤ 140737488355328) (h5 : dlT.Row w F A r.l) : rqT.R w F r [.int .i64 r.id, .int .i64 r.base, .slice A r.l.length c] :=
  ⟨_, _, rfl, ⟨rfl, h1⟩, _, _, rfl, ⟨rfl, h2⟩, A, c, rfl, h3, h4, h5⟩
structure Qs where
  H : List Rv
  ws : List Rq
  room : Int
  tk : Int → Option (Option An)
def setK (tk : Int → Option (Option An)) (k : Int) (v : Option An) : Int → Option (Option An) := fun x => if x = k then some v else tk x
noncomputable def submitR (q : Qs) (r : Rq) : Qs × Int :=
  if r.id < 1 ∨ r.l.length = 0 then (q, 2)
  else if r.base < 0 ∨ r.base > (q.H.length : Int) - 1 then (q, 7)
  else if (q.tk r.id).isSome = true then (q, 12)
  else if (q.ws.length : Int) ≥ q.room then (q, 8)
  else ({ q with ws := q.ws ++ [r], tk := setK q.tk r.id none }, 0)
def lateR (H : List Rv) (r : Rq) : Prop := ∃ d ∈ r.l, r.base < (lastR H d.p : Int)
noncomputable instance (H : List Rv) (r : Rq) : Decidable (lateR H r) := Classical.propDecidable _
noncomputable def answerR (H : List Rv) (r : Rq) (pass : Bool) : List Rv × An :=
  if lateR H r then (H, ⟨r.id, 2, 0, 0⟩)
  else if pass = false then (H, ⟨r.id, 3, 0, 0⟩)
  else if (commitR H r.l).2.2 ≠ 0 then ((commitR H r.l).1, ⟨r.id, 4, 0, (commitR H r.l).2.2⟩)
  else ((commitR H r.l).1, ⟨r.id, 1, (commitR H r.l).2.1, 0⟩)
noncomputable def stepQ (q : Qs) (pass : Bool) : Qs × An × Bool := match q.ws with
  | [] => (q, ⟨0, 0, 0, 0⟩, false)
  | r :: ws => ({ q with H := (answerR q.H r pass).1, ws := ws, tk := setK q.tk r.id (some (answerR q.H r pass).2) }, (answerR q.H r pass).2, true)
def TkF (f : Value → Option Value) (tk : Int → Option (Option An)) (w : World) (F : Nat → Prop) : Prop := ∀ k : Int,
  (tk k = none → f (.int .i64 k) = none) ∧ (tk k = some none → f (.int .i64 k) = some (.pointer none)) ∧
  ∀ a, tk k = some (some a) → ∃ b, f (.int .i64 k) = some (.pointer (some ⟨b, 0, none⟩)) ∧ F b ∧ Blk w b a.vals.toArray 43
theorem TkF.keep {f : Value → Option Value} {tk : Int → Option (Option An)} {w w' : World} {F F' : Nat → Prop} (h : TkF f tk w F) (hs : Same F w w') (hF : ∀ b, F b → F' b) : TkF f tk w' F' := fun k => by
  obtain ⟨h1, h2, h3⟩ := h k; refine ⟨h1, h2, fun a ha => ?_⟩; obtain ⟨b, h4, h5, h6⟩ := h3 a ha; exact ⟨b, h4, hF b h5, h6.at (hs b h5)⟩
theorem int_inj {a b : Int} (h : Value.int .i64 a = .int .i64 b) : a = b := by injection h
theorem TkF.put0 {f : Value → Option Value} {tk : Int → Option (Option An)} {w : World} {F : Nat → Prop} (h : TkF f tk w F) (k : Int) : TkF (fput f (.int .i64 k) (.pointer none)) (setK tk k none) w F := fun x => by
  unfold setK
  by_cases hx : x = k
  · subst hx; rw [if_pos rfl, fput_same]; exact ⟨(fun q => by cases q), fun _ => rfl, (fun a q => by cases q)⟩
  · rw [if_neg hx, fput_ne (fun q => hx (int_inj q))]; exact h x
theorem TkF.put1 {f : Value → Option Value} {tk : Int → Option (Option An)} {w : World} {F : Nat → Prop} (h : TkF f tk w F) (k : Int) (a : An) {b : Nat} (hF : F b) (hb : Blk w b a.vals.toArray 43) : TkF (fput f (.int .i64 k) (.pointer (some ⟨b, 0, none⟩))) (setK tk k (some a)) w F := fun x => by
  unfold setK
  by_cases hx : x = k
  · subst hx; rw [if_pos rfl, fput_same]; exact ⟨(fun q => by cases q), (fun q => by cases q), fun a' q => by cases q; exact ⟨b, rfl, hF, hb⟩⟩
  · rw [if_neg hx, fput_ne (fun q => hx (int_inj q))]; exact h x
structure QueAt (pq pm ph mt : Nat) (v : Value) (F Zh : Nat → Prop) (w : World) (q : Qs) : Prop where
  bq : Blk w pq #[.pointer (some ⟨pm, 0, none⟩), v, .int .i64 q.room, .map (some mt)] 113
  bm : Blk w pm #[hp ph] 108
  his : Hist ph Zh w q.H
  own : Eng.Own rqT w F 0 41 v q.ws
  map : ∃ f, MapAt (.int .i64) w mt f ∧ TkF f q.tk w F
  ne : pq ≠ pm
  F1 : ∀ b, F b → b < w.heap.size ∧ b ≠ pq ∧ b ≠ pm ∧ b ≠ mt ∧ v.ownBlock ≠ some b ∧ ¬ Zh b
  Z1 : ∀ b, Zh b → b < w.heap.size ∧ b ≠ pq ∧ b ≠ pm ∧ b ≠ mt ∧ v.ownBlock ≠ some b
  O1 : ∀ b, v.ownBlock = some b → b ≠ pq ∧ b ≠ pm ∧ b ≠ mt
  ro : 1 ≤ q.room ∧ q.room ≤ 100
  wl : (q.ws.length : Int) ≤ q.room
  ok : ∀ r ∈ q.ws, r.l.length * 48 ≤ 140737488355328
def QueF (pq pm mt : Nat) (v : Value) (F Zh : Nat → Prop) : Nat → Prop := fun b => b = pq ∨ b = pm ∨ b = mt ∨ v.ownBlock = some b ∨ F b ∨ Zh b
def Que (pq ph : Nat) (Z : Nat → Prop) (w : World) (q : Qs) : Prop := ∃ pm mt v F Zh, QueAt pq pm ph mt v F Zh w q ∧ ∀ b, QueF pq pm mt v F Zh b → Z b
theorem QueAt.lt {pq pm ph mt : Nat} {v : Value} {F Zh : Nat → Prop} {w : World} {q : Qs} (h : QueAt pq pm ph mt v F Zh w q) : ∀ b, QueF pq pm mt v F Zh b → b < w.heap.size := by
  obtain ⟨f, hm, _⟩ := h.map; rintro b (rfl | rfl | rfl | k | k | k)
  · exact Blk.lt h.bq
  · exact Blk.lt h.bm
  · exact hm.lt
  · exact (h.own.lt k).2
  · exact (h.F1 b k).1
  · exact (h.Z1 b k).1
theorem QueAt.keep {pq pm ph mt : Nat} {v : Value} {F Zh : Nat → Prop} {w w' : World} {q : Qs} (h : QueAt pq pm ph mt v F Zh w q) (hsz : w.heap.size ≤ w'.heap.size) (hs : Same (QueF pq pm mt v F Zh) w w') : QueAt pq pm ph mt v F Zh w' q := by
  obtain ⟨f, hm, hf⟩ := h.map
  have hF : Same F w w' := fun b hb => hs b (Or.inr (Or.inr (Or.inr (Or.inr (Or.inl hb)))))
  exact ⟨h.bq.at (hs pq (Or.inl rfl)), h.bm.at (hs pm (Or.inr (Or.inl rfl))), h.his.keep (fun b hb => hs b (Or.inr (Or.inr (Or.inr (Or.inr (Or.inr hb)))))), h.own.keep hF (fun _ h => h) (fun g hg => hs g (Or.inr (Or.inr (Or.inr (Or.inl hg))))),
    ⟨f, hm.at (hs mt (Or.inr (Or.inr (Or.inl rfl)))), hf.keep hF (fun _ h => h)⟩, h.ne, fun b hb => ⟨Nat.lt_of_lt_of_le (h.F1 b hb).1 hsz, (h.F1 b hb).2⟩, fun b hb => ⟨Nat.lt_of_lt_of_le (h.Z1 b hb).1 hsz, (h.Z1 b hb).2⟩, h.O1, h.ro, h.wl, h.ok⟩
theorem Que.ext {pq ph : Nat} {Z : Nat → Prop} {w w' : World} {q : Qs} (h : Que pq ph Z w q) (he : Ext w w') : Que pq ph Z w' q := by
  obtain ⟨pm, mt, v, F, Zh, h1, h2⟩ := h; exact ⟨pm, mt, v, F, Zh, h1.keep he.size (fun b hb => he.block b (h1.lt b hb)), h2⟩
theorem Que.lt {pq ph : Nat} {Z : Nat → Prop} {w : World} {q : Qs} (h : Que pq ph Z w q) : Que pq ph (fun b => Z b ∧ b < w.heap.size) w q := by
  obtain ⟨pm, mt, v, F, Zh, h1, h2⟩ := h; exact ⟨pm, mt, v, F, Zh, h1, fun b hb => ⟨h2 b hb, h1.lt b hb⟩⟩
theorem Que.keep {pq ph : Nat} {Z : Nat → Prop} {w w' : World} {q : Qs} (h : Que pq ph Z w q) (hsz : w.heap.size ≤ w'.heap.size) (hs : Same Z w w') : Que pq ph Z w' q := by
  obtain ⟨pm, mt, v, F, Zh, h1, h2⟩ := h; exact ⟨pm, mt, v, F, Zh, h1.keep hsz (hs.of h2), h2⟩
theorem Que.hist {pq ph : Nat} {Z : Nat → Prop} {w : World} {q : Qs} (h : Que pq ph Z w q) : Hist ph Z w q.H := by
  obtain ⟨pm, mt, v, F, Zh, h1, h2⟩ := h; obtain ⟨m, v', F', h3, h4⟩ := h1.his; exact ⟨m, v', F', h3, fun b hb => h2 b (Or.inr (Or.inr (Or.inr (Or.inr (Or.inr (h4 b hb))))))⟩
theorem Que.widen {pq ph : Nat} {Z Z' : Nat → Prop} {w : World} {q : Qs} (h : Que pq ph Z w q) (hz : ∀ b, Z b → Z' b) : Que pq ph Z' w q := by
  obtain ⟨pm, mt, v, F, Zh, h1, h2⟩ := h; exact ⟨pm, mt, v, F, Zh, h1, fun b hb => hz b (h2 b hb)⟩
end Go.Proofs.YtmedmajdoecjfaaDoor
