/-
  Queues and histories beside what a law holds of its own.
-/
import Derived.Test.YtmedmajdoecjfaaDoorFacts
import Derived.Test.YtmedmajdoecjfaaDoorQueK
namespace Go.Proofs.YtmedmajdoecjfaaDoor
open Go Go.Eng Go.RowKit Go.Proofs
set_option linter.unusedVariables false
set_option linter.unusedSimpArgs false
set_option maxHeartbeats 1000000
set_option maxRecDepth 20000

def Zf (w0 : World) (B : Nat → Prop) (w : World) : Nat → Prop := fun b => w0.heap.size ≤ b ∧ ¬ B b ∧ b < w.heap.size
def Kf (w0 : World) (B : Nat → Prop) : Nat → Prop := fun b => b < w0.heap.size ∨ B b
theorem mv_wide {Z Z' : Nat → Prop} {w w' : World} (h : Mv Z w w') (hz : ∀ b, Z b → Z' b) : Mv Z' w w' := ⟨h.os, h.tape, h.output, h.size, fun k hk hn => h.block k hk (fun q => hn (hz k q))⟩
structure HG (w0 : World) (B : Nat → Prop) (p : Nat) (w : World) (H : List Rv) : Prop where
  his : Hist p (Zf w0 B w) w H
  ext : Ext w0 w
  bl : ∀ b, B b → b < w.heap.size
structure QG (w0 : World) (B : Nat → Prop) (pq ph : Nat) (w : World) (q : Qs) : Prop where
  que : Que pq ph (Zf w0 B w) w q
  ext : Ext w0 w
  bl : ∀ b, B b → b < w.heap.size
structure Kp (w0 : World) (B : Nat → Prop) (w w' : World) : Prop where
  same : Same (Kf w0 B) w w'
  size : w.heap.size ≤ w'.heap.size
theorem Zf.new {w0 w w1 : World} {B B' : Nat → Prop} (hs : w.heap.size ≤ w1.heap.size) (hB : ∀ b, B' b → B b ∨ w.heap.size ≤ b) : ∀ b, Zf w0 B w b → Zf w0 B' w1 b := fun b hb =>
  ⟨hb.1, fun q => (hB b q).elim hb.2.1 (fun k => by have := hb.2.2; omega), Nat.lt_of_lt_of_le hb.2.2 hs⟩
theorem Kp.of_mv {w0 w w' : World} {B : Nat → Prop} (hM : Mv (Zf w0 B w) w w') (he : Ext w0 w) (hb : ∀ b, B b → b < w.heap.size) : Kp w0 B w w' :=
  ⟨fun b k => hM.block b (k.elim (fun k => Nat.lt_of_lt_of_le k he.size) (hb b)) (fun q => k.elim (fun k => by have := q.1; omega) q.2.1), hM.size⟩
theorem HG.mv {w0 w w1 : World} {B B' Y : Nat → Prop} {p : Nat} {H : List Rv} (h : HG w0 B p w H) (hM : Mv Y w w1) (hY : ∀ b, Y b → w0.heap.size ≤ b ∧ (b < w.heap.size → B b)) (hB : ∀ b, B' b → (B b ∨ w.heap.size ≤ b) ∧ b < w1.heap.size) : HG w0 B' p w1 H :=
  ⟨(h.his.mv hM (fun b k q => k.2.1 ((hY b q).2 k.2.2))).widen (Zf.new hM.size (fun b k => (hB b k).1)), ext_mv h.ext hM (fun b k => (hY b k).1), fun b k => (hB b k).2⟩
theorem QG.mv {w0 w w1 : World} {B B' Y : Nat → Prop} {pq ph : Nat} {q : Qs} (h : QG w0 B pq ph w q) (hM : Mv Y w w1) (hY : ∀ b, Y b → w0.heap.size ≤ b ∧ (b < w.heap.size → B b)) (hB : ∀ b, B' b → (B b ∨ w.heap.size ≤ b) ∧ b < w1.heap.size) : QG w0 B' pq ph w1 q :=
  ⟨(h.que.keep hM.size (fun b k => hM.block b k.2.2 (fun j => k.2.1 ((hY b j).2 k.2.2)))).widen (Zf.new hM.size (fun b k => (hB b k).1)), ext_mv h.ext hM (fun b k => (hY b k).1), fun b k => (hB b k).2⟩
theorem HG.all {w0 w w1 : World} {B : Nat → Prop} {p : Nat} {H : List Rv} (h : HG w0 B p w H) (he : Ext w w1) : HG w0 (fun b => B b ∨ since w w1 b) p w1 H :=
  h.mv (Y := nobody) (Mv.of_ext he) (fun b q => q.elim) (fun b k => k.elim (fun k => ⟨Or.inl k, Nat.lt_of_lt_of_le (h.bl b k) he.size⟩) (fun k => ⟨Or.inr k.1, k.2⟩))
theorem QG.all {w0 w w1 : World} {B : Nat → Prop} {pq ph : Nat} {q : Qs} (h : QG w0 B pq ph w q) (he : Ext w w1) : QG w0 (fun b => B b ∨ since w w1 b) pq ph w1 q :=
  h.mv (Y := nobody) (Mv.of_ext he) (fun b q => q.elim) (fun b k => k.elim (fun k => ⟨Or.inl k, Nat.lt_of_lt_of_le (h.bl b k) he.size⟩) (fun k => ⟨Or.inr k.1, k.2⟩))
theorem HG.second {w0 w w1 : World} {B : Nat → Prop} {p : Nat} {H : List Rv} (hg : ∀ b, B b → b < w.heap.size) (he0 : Ext w0 w) (h : Hist p (since w w1) w1 H) (he : Ext w w1) : HG w0 B p w1 H :=
  ⟨h.widen (fun b k => ⟨Nat.le_trans he0.size k.1, fun q => by have := hg b q; have := k.1; omega, k.2⟩), he0.trans he, fun b q => Nat.lt_of_lt_of_le (hg b q) he.size⟩
theorem newG {w0 w : World} {B : Nat → Prop} {ph : Nat} {H : List Rv} (h : HG w0 B ph w H) (room : Int) (hro : inK .i64 room) :
    Calls Tryd.prog 14 #[hp ph, .int .i64 room] w (fun en w' => ∃ v, en = .returned v ∧ ∃ pq, v = hp pq ∧ QG w0 B pq ph w' ⟨H, [], max 1 (min room 100), fun _ => none⟩ ∧ Ext w w') := by
  refine (que_new_spec h.his room hro).mono ?_; rintro en w' ⟨v, rfl, pq, rfl, hQ, hE⟩; have hs := hE.size; have hs0 := h.ext.size; refine ⟨_, rfl, pq, rfl, ⟨hQ.widen (fun b hb => ?_), h.ext.trans hE, fun b hb => Nat.lt_of_lt_of_le (h.bl b hb) hs⟩, hE⟩
  rcases hb with k | k
  · exact ⟨k.1, k.2.1, by have := k.2.2; omega⟩
  · exact ⟨by have := k.1; omega, fun q => by have := h.bl b q; have := k.1; omega, k.2⟩
theorem QG.next {w0 w w' : World} {B : Nat → Prop} {pq ph : Nat} {q q' : Qs} (h : QG w0 B pq ph w q) (hQ : Que pq ph (fun b => Zf w0 B w b ∨ since w w' b) w' q') (hM : Mv (Zf w0 B w) w w') : QG w0 B pq ph w' q' ∧ Kp w0 B w w' := by
  have hs := hM.size; have hs0 := h.ext.size; refine ⟨⟨hQ.widen (fun b hb => ?_), ext_mv h.ext hM (fun b hb => hb.1), fun b hb => Nat.lt_of_lt_of_le (h.bl b hb) hs⟩, .of_mv hM h.ext h.bl⟩
  rcases hb with k | k
  · exact ⟨k.1, k.2.1, by have := k.2.2; omega⟩
  · exact ⟨by have := k.1; omega, fun q => by have := h.bl b q; have := k.1; omega, k.2⟩
theorem HG.next {w0 w w' : World} {B : Nat → Prop} {p : Nat} {H H' : List Rv} (h : HG w0 B p w H) (hQ : Hist p (fun b => Zf w0 B w b ∨ since w w' b) w' H') (hM : Mv (Zf w0 B w) w w') : HG w0 B p w' H' ∧ Kp w0 B w w' := by
  have hs := hM.size; have hs0 := h.ext.size; refine ⟨⟨hQ.widen (fun b hb => ?_), ext_mv h.ext hM (fun b hb => hb.1), fun b hb => Nat.lt_of_lt_of_le (h.bl b hb) hs⟩, .of_mv hM h.ext h.bl⟩
  rcases hb with k | k
  · exact ⟨k.1, k.2.1, by have := k.2.2; omega⟩
  · exact ⟨by have := k.1; omega, fun q => by have := h.bl b q; have := k.1; omega, k.2⟩
theorem kf_lt {w0 w : World} {B : Nat → Prop} (he : Ext w0 w) (hb : ∀ b, B b → b < w.heap.size) : ∀ b, Kf w0 B b → b < w.heap.size := fun b k => k.elim (fun k => Nat.lt_of_lt_of_le k he.size) (hb b)
theorem submitG {w0 w : World} {B : Nat → Prop} {pq ph : Nat} {q : Qs} (h : QG w0 B pq ph w q) (r : Rq) {A : Option Addr} {c : Nat} {G : Nat → Prop} (hG : ∀ b, G b → Kf w0 B b) (hrow : dlT.Row w G A r.l) (hid : inK .i64 r.id) (hbase : inK .i64 r.base) (hdl : r.l.length * 48 ≤ 140737488355328) :
    Calls Tryd.prog 15 #[hp pq, .agg #[.int .i64 r.id, .int .i64 r.base, .slice A r.l.length c]] w (fun en w' => ∃ u, en = .returned u ∧ u = .int .i64 (submitR q r).2 ∧ QG w0 B pq ph w' (submitR q r).1 ∧ Kp w0 B w w') := by
  refine (submit_spec h.que r (fun b hb => kf_lt h.ext h.bl b (hG b hb)) hrow hid hbase hdl).mono ?_; rintro en w' ⟨u, rfl, rfl, hQ, hM⟩; exact ⟨_, rfl, rfl, h.next hQ hM⟩
theorem stepG {w0 w : World} {B : Nat → Prop} {pq ph : Nat} {q : Qs} (h : QG w0 B pq ph w q) (pass : Bool) :
    Calls Tryd.prog 16 #[hp pq, .bool pass] w (fun en w' => ∃ u, en = .returned u ∧ u = .tuple #[.agg (stepQ q pass).2.1.vals.toArray, .bool (stepQ q pass).2.2] ∧ QG w0 B pq ph w' (stepQ q pass).1 ∧ Kp w0 B w w') := by
  refine (stepQ_spec h.que pass).mono ?_; rintro en w' ⟨u, rfl, rfl, hQ, hM⟩; exact ⟨_, rfl, rfl, h.next hQ hM⟩
theorem commitH {w0 w : World} {B : Nat → Prop} {p : Nat} {H : List Rv} (h : HG w0 B p w H) {Ad : Option Addr} {cd : Nat} {ds : List Dl} {G : Nat → Prop} (hG : ∀ b, G b → Kf w0 B b) (hrow : dlT.Row w G Ad ds) (hdl : ds.length * 48 ≤ 140737488355328) :
    Calls Tryd.prog 22 #[hp p, .slice Ad ds.length cd] w (fun en w' => ∃ v, en = .returned v ∧ v = .tuple #[.int .i64 (commitR H ds).2.1, .int .i64 (commitR H ds).2.2] ∧ HG w0 B p w' (commitR H ds).1 ∧ Kp w0 B w w') := by
  refine (commit_spec h.his (fun b hb => ⟨kf_lt h.ext h.bl b (hG b hb), fun q => (hG b hb).elim (fun k => by have := q.1; omega) q.2.1⟩) hrow hdl).mono ?_; rintro en w' ⟨u, rfl, rfl, hQ, hM⟩; exact ⟨_, rfl, rfl, h.next hQ hM⟩
theorem commitG {w0 w : World} {B : Nat → Prop} {pq ph : Nat} {q : Qs} (h : QG w0 B pq ph w q) {Ad : Option Addr} {cd : Nat} {ds : List Dl} {G : Nat → Prop} (hG : ∀ b, G b → Kf w0 B b) (hrow : dlT.Row w G Ad ds) (hdl : ds.length * 48 ≤ 140737488355328) :
    Calls Tryd.prog 22 #[hp ph, .slice Ad ds.length cd] w (fun en w' => ∃ v, en = .returned v ∧ v = .tuple #[.int .i64 (commitR q.H ds).2.1, .int .i64 (commitR q.H ds).2.2] ∧ QG w0 B pq ph w' { q with H := (commitR q.H ds).1 } ∧ Kp w0 B w w') := by
  have hQ := h.que; obtain ⟨pm, mt, v, F, Zh, hA, hZ⟩ := hQ
  have hzz : ∀ b, Zh b → Zf w0 B w b := fun b k => hZ b (Or.inr (Or.inr (Or.inr (Or.inr (Or.inr k)))))
  refine (commit_spec hA.his (fun b hb => ⟨kf_lt h.ext h.bl b (hG b hb), fun q => (hG b hb).elim (fun k => by have := (hzz b q).1; omega) (hzz b q).2.1⟩) hrow hdl).mono ?_; rintro en w' ⟨u, rfl, rfl, hH, hM⟩; have hs := hM.size; obtain ⟨f, hm, hf⟩ := hA.map; have hlt := hA.lt
  have hk : ∀ b, b < w.heap.size → ¬ Zh b → w'.heap[b]? = w.heap[b]? := fun b h1 h2 => hM.block b h1 h2
  have hSF : Same F w w' := fun b hb => hk b (hA.F1 b hb).1 (hA.F1 b hb).2.2.2.2.2
  have hno : ∀ b, Zh b → b ≠ pq ∧ b ≠ pm ∧ b ≠ mt ∧ v.ownBlock ≠ some b := fun b k => (hA.Z1 b k).2
  have hQn : QueAt pq pm ph mt v F (fun b => (Zh b ∨ since w w' b) ∧ b < w'.heap.size) w' { q with H := (commitR q.H ds).1 } := by
    refine ⟨hA.bq.at (hk pq (hlt pq (Or.inl rfl)) (fun k => (hno _ k).1 rfl)), hA.bm.at (hk pm (hlt pm (Or.inr (Or.inl rfl))) (fun k => (hno _ k).2.1 rfl)), hH.lt, hA.own.keep hSF (fun _ h => h) (fun g hg => hk g (hlt g (Or.inr (Or.inr (Or.inr (Or.inl hg))))) (fun k => (hno _ k).2.2.2 hg)), ⟨f, hm.at (hk mt hm.lt (fun k => (hno _ k).2.2.1 rfl)), hf.keep hSF (fun _ h => h)⟩, hA.ne, fun b hb => ?_, fun b hb => ?_, hA.O1, hA.ro, hA.wl, hA.ok⟩
    · obtain ⟨q1, q2, q3, q4, q5, q6⟩ := hA.F1 b hb; exact ⟨by omega, q2, q3, q4, q5, fun k => k.1.elim q6 (fun j => by have := j.1; omega)⟩
    · rcases hb.1 with k | k
      · obtain ⟨q1, q2⟩ := hA.Z1 b k; exact ⟨hb.2, q2⟩
      · have hp := hlt pq (Or.inl rfl); have hpm := hlt pm (Or.inr (Or.inl rfl)); have hmt := hm.lt; have := k.1; exact ⟨hb.2, by omega, by omega, by omega, fun j => by have := hlt b (Or.inr (Or.inr (Or.inr (Or.inl j)))); omega⟩
  have hQ' : Que pq ph (fun b => Zf w0 B w b ∨ since w w' b) w' { q with H := (commitR q.H ds).1 } := ⟨pm, mt, v, F, _, hQn, by
    rintro b (k | k | k | k | k | k)
    · exact Or.inl (hZ b (Or.inl k))
    · exact Or.inl (hZ b (Or.inr (Or.inl k)))
    · exact Or.inl (hZ b (Or.inr (Or.inr (Or.inl k))))
    · exact Or.inl (hZ b (Or.inr (Or.inr (Or.inr (Or.inl k)))))
    · exact Or.inl (hZ b (Or.inr (Or.inr (Or.inr (Or.inr (Or.inl k))))))
    · exact k.1.elim (fun j => Or.inl (hzz b j)) Or.inr⟩
  exact ⟨_, rfl, rfl, h.next hQ' (mv_wide hM hzz)⟩
end Go.Proofs.YtmedmajdoecjfaaDoor
