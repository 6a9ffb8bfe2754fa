/-
  Package history: how it lies in memory; the walks.
-/
import Derived.Test.YtmedmajdoecjfaaDoorFacts
import Derived.Test.YtmedmajdoecjfaaDoorTreeA
namespace Go.Proofs.YtmedmajdoecjfaaDoor
open Go Go.Eng Go.RowKit Go.Proofs
set_option linter.unusedVariables false
set_option linter.unusedSimpArgs false
set_option maxHeartbeats 2000000

abbrev OwnD (w0 w : World) (v : Value) (l : List Dl) : Prop := Eng.Own dlT w (newF w0 w v) w0.heap.size 38 v l
theorem deltas_spec {A : Option Addr} {cap : Nat} {l : List Dl} {w : World} {G : Nat → Prop} (hG : ∀ b, G b → b < w.heap.size) (hrow : dlT.Row w G A l) (hl : l.length * 48 ≤ 140737488355328) :
    Calls Tryd.prog 51 #[.slice A l.length cap] w (fun en w' => ∃ v, en = .returned v ∧ OwnD w w' v l ∧ Ext w w') := by
  obtain ⟨rs, hal, hrr⟩ := Row.raw hrow; have hlen := hal.len
  have hcl : ∀ w', Ext w w' → Calls Tryd.prog 46 #[.slice A l.length cap] w' (fun en w'' => ∃ v, en = .returned v ∧ Ext w' w'' ∧ Eng.Own (rawT 3) w'' nobody w'.heap.size 38 v rs) := fun w' he => by
    have := cloneD_spec A cap rs w' (by omega) (fun b hb => Nat.lt_of_lt_of_le (hG b hb) he.size) (hrr.keep (fun b hb => he.block b (hG b hb)) (fun _ h => h))
    rw [← hlen] at this; exact this
  refine calls' (n := 24) (rs := #[.tmp 2]) (l := [.slice A l.length cap]) Tryd.func51 rfl rfl rfl rfl rfl ?_; have hX := Ext.refl w; refine W_seq ?_; refine W_region ?_; refine op rfl (r_assignV (v := .slice _ _ _) rfl) ?_; refine WL_nil ?_; refine W_seq ?_; refine W_region ?_; refine op rfl (r_moveV (v := .slice _ _ _) rfl) ?_; refine opCv rfl (r_call Tryd.func46 Tryd.nm46 rfl) (hcl _ hX) ?_; rintro v w2 ⟨hE, hO⟩; replace hX := hX.trans hE; obtain ⟨A1, cap1, rfl, hc1, -⟩ := hO.read; refine op rfl (r_assignV (v := .slice _ _ _) rfl) ?_; refine WL_nil ?_; refine W_seq ?_; refine W_seq ?_; refine W_region ?_; refine op rfl (r_moveV (v := .slice _ _ _) rfl) ?_; refine op rfl (r_len_slice rfl Tryd.underlying39) ?_; refine op rfl (r_moveV (v := .int _ _) rfl) ?_; refine WL_nil ?_; refine W_block ?_; refine W_loop [4, 5, 10, 11, 12, 13, 14, 15, 16, 17, 18, 19, 20, 21, 22] (fun q e' w' => ∃ (i : Nat) (ds : List (List Value)), q = rs.length - i ∧ i ≤ rs.length ∧ e' 10 = .int .i64 i ∧ ds.length = i ∧ Al (dlT.R w' (newF w w' (.slice A1 rs.length cap1))) (l.take i) ds ∧ Eng.Own (rawT 3) w' nobody w.heap.size 38 (.slice A1 rs.length cap1) (ds ++ rs.drop i) ∧ Ext w w') (rs.length) ?_ ?_
  · exact ⟨0, [], by omega, by omega, rfl, rfl, by simp [Al], by simpa using hO, hX⟩
  intro k g w' hI; obtain ⟨i, ds, hq, hi, h10, hdl, hda, hO', hX'⟩ := hI; clear hX hO; have hX := Ext.refl w'; refine W_set (i := 10) h10 ?_; refine W_seq ?_; refine W_region ?_; refine op rfl (r_lss rfl rfl) ?_; refine WL_nil ?_; refine W_seq ?_; refine W_ifp rfl (fun ht11 => ?_) (fun ht11 => ?_)
  · have hlt : i < rs.length := by omega
    have hcur : (ds ++ rs.drop i)[i]'(by simp; omega) = rs[i] := by
      rw [List.getElem_append_right (by omega)]
      simp [hdl]
    have hRi := hal.get i (by omega) hlt; obtain ⟨Ai, ci, hri, hik, hbc, hbl, hpl, hbrow⟩ := dl_cells hRi
    have hset0 : ∀ u, (ds ++ rs.drop i).set i (rs[i].set 2 u) = (ds ++ [[.int .i64 l[i].k, .string (str l[i].p), u]]) ++ rs.drop (i + 1) := fun u => by
      rw [List.drop_eq_getElem_cons hlt, List.set_append_right _ _ (by omega), hdl, Nat.sub_self, List.set_cons_zero, hri]
      simp
    obtain ⟨gb, cap2, hv2, hB2, _, hcell⟩ := Own.rawAt hO' (i := i) (by simp; omega)
    rw [hcur, hri] at hcell
    simp only [Value.slice.injEq] at hv2
    obtain ⟨hA1, -, -⟩ := hv2; subst hA1; have hgl : gb < w'.heap.size := (hO'.lt (g := gb) rfl).2; refine W_skip ?_; refine W_seq ?_; refine W_block ?_; refine W_seq ?_; refine W_region ?_; refine op rfl (r_moveV (v := .int _ _) rfl) ?_; refine op rfl (r_indexAddrK0 rfl rfl Tryd.underlying39 Tryd.sz38 hlt) ?_; refine op rfl (r_load_agg (cs := [.int .i64 l[i].k, .string (str l[i].p), .slice Ai l[i].b.length ci]) rfl Tryd.underlying38 rfl Tryd.sz38 rfl hcell) ?_; refine op_alloc rfl Tryd.zero38 ?_; intro w4_3 b4_3 E4_3 B4_3 L4_3
    have hG4_3 : w'.heap.size ≤ b4_3 := by have := hX.size; omega
    replace hX := hX.trans E4_3; refine op rfl (r_assignV (v := .int _ _) rfl) ?_; refine op_storeRow rfl rfl Tryd.sz38 B4_3 rfl rfl ?_; intro w4_5 C4_5 BB4_5; replace hX := hX.chg C4_5 hG4_3; replace B4_3 := BB4_5; refine WL_nil ?_; refine W_region ?_; refine op rfl (r_moveV (v := .slice _ _ _) rfl) ?_; refine op rfl (r_moveV (v := .int _ _) rfl) ?_; refine op rfl (r_fieldAddr rfl Tryd.fld38_2 rfl) ?_; refine op rfl (r_load (v := .slice _ _ _) rfl Tryd.underlying24 rfl (Blk.cell B4_3 rfl)) ?_; have hX4 := hX; refine opCv rfl (r_call Tryd.func47 Tryd.nm47 rfl) (cloneB_spec Ai ci l[i].b _ (by omega) (fun b hb ↦ Nat.lt_of_lt_of_le (hG b hb) (hX'.trans hX).size) (hbrow.keep (fun b hb ↦ (hX'.trans hX).block b (hG b hb)) (fun _ h ↦ h))) ?_; rintro v w5 ⟨hE, hOb⟩; replace B4_3 := Blk.ext B4_3 hE; replace hX := hX.trans hE; refine op rfl (r_indexAddrK0 rfl rfl Tryd.underlying39 Tryd.sz38 hlt) ?_; refine op rfl (r_fieldAddr rfl Tryd.fld38_2 rfl) ?_; obtain ⟨Ab, cb, hvb, hcb, hrb⟩ := hOb.read
    have hv1 : v.oneCell' = true := by rw [hvb]; rfl
    have hO5 := own_fext hO' hX; obtain ⟨g3, cap3, c3, hv3, hB3, hb3, hlt3, hnew3⟩ := Own.setCell hO5 (i := i) (j := 2) (by simp; omega) (by omega) hv1
    rw [hcur] at hnew3
    simp only [Value.slice.injEq, Option.some.injEq, Addr.mk.injEq, and_true] at hv3
    obtain ⟨hg3, -, -⟩ := hv3; subst hg3; refine op_store (v := v) rfl rfl hv1 Tryd.sz24 hb3 hlt3 ?_; intro w7 C7 B7; have hO7 := hnew3 _ C7 B7; have hset := hset0 v
    rw [hset] at hO7
    have hX7 : Ext w w7 := Chg.ext (hX'.trans hX) hB2 C7; have hsz5 := hX.size; have hsz4 := hX4.size
    have hnew : dlT.R w7 (newF w w7 (.slice (some ⟨gb, 0, none⟩) rs.length cap1)) l[i] [.int .i64 l[i].k, .string (str l[i].p), v] := by
      rw [hvb]; refine dl_mk hik hcb hbl hpl (hrb.keep ?_ ?_)
      · rintro b (q | q)
        · exact q.elim
        · have := hOb.lt q; exact C7.block b this.2 (by omega)
      · rintro b (q | q)
        · exact q.elim
        · have := hOb.lt q; have := C7.size; have := hX'.size; exact ⟨by omega, by omega, fun q => by simp only [Value.ownBlock, Option.some.injEq] at q; omega⟩
    refine WL_nil ?_; refine W_region ?_; refine op rfl (r_add' rfl rfl (wrap_i64 (by omega) (by omega))) ?_; refine op rfl (r_moveV (v := .int _ _) rfl) ?_; refine WL_nil ?_; refine ⟨?_, by repeat (first | with_reducible exact Out.refl _ _ | with_reducible exact Out.mix | refine Out.put rfl ?_ | refine Out.mixin rfl ?_ | exact Out.refl _ _ | exact Out.mix)⟩; refine ⟨rs.length - (i + 1), by omega, i + 1, ds ++ [[.int .i64 l[i].k, .string (str l[i].p), v]], rfl, by omega, rfl, by simp [hdl], ?_, hO7, hX7⟩; rw [List.take_succ_eq_append_getElem (by omega)]; exact (hda.imp (fun x y h => dlT.keep h (fun b hb => (C7.block b (Nat.lt_of_lt_of_le hb.2.1 hX.size) (fun q => hb.2.2 (by rw [q]; rfl))).trans (hX.block b hb.2.1)) (fun b hb => ⟨hb.1, Nat.lt_of_lt_of_le hb.2.1 (Nat.le_trans hX.size C7.size), hb.2.2⟩))).app ⟨hnew, trivial⟩
  · obtain rfl : i = rs.length := by omega
    refine W_exit (blk_hit ?_); refine W_seq ?_; refine W_region ?_; refine op rfl (r_moveV (v := .slice _ _ _) rfl) ?_; refine op rfl (r_assignV (v := .slice _ _ _) rfl) ?_; refine WL_nil ?_; refine W_ret (finX_ret ?_); refine fin1 ?_
    rw [show l.take rs.length = l from by rw [← hlen, List.take_length]] at hda
    rw [List.drop_length, List.append_nil] at hO'
    exact ⟨_, rfl, Own.of_raw hO' hda, hX'⟩
theorem OwnD.rd {w0 w : World} {v : Value} {l : List Dl} (h : OwnD w0 w v l) : ∃ A cap, v = .slice A l.length cap ∧ l.length ≤ cap ∧ dlT.Row w (fun b => w0.heap.size ≤ b ∧ b < w.heap.size) A l := by
  obtain ⟨A, cap, h1, h2, h3⟩ := h.read; refine ⟨A, cap, h1, h2, h3.keep (fun _ _ => rfl) ?_⟩; rintro b (q | q)
  · exact ⟨q.1, q.2.1⟩
  · exact h.lt q
structure Rv where
  d : List Dl
  t : Tree
abbrev revT : Ty Rv := (dlT.slice.pair fiT.slice).iso fun r : Rv => (r.d, r.t)
def touch (r : Rv) (s : List UInt8) : Bool := r.d.any fun d => decide (d.p = s)
def lastGo (s : List UInt8) : Nat → Nat → List Rv → Nat
  | _, a, [] => a
  | i, a, r :: rs => lastGo s (i + 1) (if touch r s then i else a) rs
def lastR (H : List Rv) (s : List UInt8) : Nat := lastGo s 0 0 H
theorem lastGo_snoc (s : List UInt8) (r : Rv) : ∀ (H : List Rv) (i a : Nat), lastGo s i a (H ++ [r]) = if touch r s then i + H.length else lastGo s i a H
  | [], i, a => by simp [lastGo]
  | x :: H, i, a => by
    simp only [List.cons_append, lastGo, lastGo_snoc s r H]
    split
    · simp; omega
    · rfl
theorem lastR_snoc (H : List Rv) (r : Rv) (s : List UInt8) : lastR (H ++ [r]) s = if touch r s then H.length else lastR H s := by
  unfold lastR; rw [lastGo_snoc]; simp
def LastF (f : Value → Option Value) (H : List Rv) : Prop := ∀ s, (f (.string (str s))).getD (.int .i64 0) = .int .i64 (lastR H s : Nat)
def RvOk (r : Rv) : Prop := rightT r.t ∧ r.d.length * 48 ≤ 140737488355328
structure HistAt (p m : Nat) (v : Value) (F : Nat → Prop) (w : World) (H : List Rv) : Prop where
  bp : Blk w p #[v, .map (some m)] 105
  own : Eng.Own revT w F 0 101 v H
  map : ∃ f, MapAt .string w m f ∧ LastF f H
  opv : v.ownBlock ≠ some p
  F1 : ∀ b, F b → b < w.heap.size ∧ b ≠ p ∧ b ≠ m ∧ v.ownBlock ≠ some b
  ok : ∀ r ∈ H, RvOk r
  ne : H ≠ []
  sm : H.length ≤ 100001
def HistF (p m : Nat) (v : Value) (F : Nat → Prop) : Nat → Prop := fun b => b = p ∨ b = m ∨ v.ownBlock = some b ∨ F b
def Hist (p : Nat) (Z : Nat → Prop) (w : World) (H : List Rv) : Prop := ∃ m v F, HistAt p m v F w H ∧ ∀ b, HistF p m v F b → Z b
theorem HistAt.lt {p m : Nat} {v : Value} {F : Nat → Prop} {w : World} {H : List Rv} (h : HistAt p m v F w H) : ∀ b, HistF p m v F b → b < w.heap.size := by
  obtain ⟨f, hm, _⟩ := h.map; rintro b (rfl | rfl | q | q)
  · exact Blk.lt h.bp
  · exact hm.lt
  · exact (h.own.lt q).2
  · exact (h.F1 b q).1
theorem HistAt.keep {p m : Nat} {v : Value} {F : Nat → Prop} {w w' : World} {H : List Rv} (h : HistAt p m v F w H) (hs : Same (HistF p m v F) w w') : HistAt p m v F w' H := by
  obtain ⟨f, hm, hf⟩ := h.map
  have hlt : ∀ b, F b → b < w'.heap.size := fun b hb => by
    have h1 := (h.F1 b hb).1; have h2 := hs b (Or.inr (Or.inr (Or.inr hb)))
    rw [Array.getElem?_eq_getElem h1] at h2
    exact heap_lt h2
  exact ⟨h.bp.at (hs p (Or.inl rfl)), h.own.keep (fun b hb => hs b (Or.inr (Or.inr (Or.inr hb)))) (fun _ h => h) (fun g hg => hs g (Or.inr (Or.inr (Or.inl hg)))),
    ⟨f, hm.at (hs m (Or.inr (Or.inl rfl))), hf⟩, h.opv, fun b hb => ⟨hlt b hb, (h.F1 b hb).2⟩, h.ok, h.ne, h.sm⟩
theorem Hist.keep {p : Nat} {Z : Nat → Prop} {w w' : World} {H : List Rv} (h : Hist p Z w H) (hs : Same Z w w') : Hist p Z w' H := by
  obtain ⟨m, v, F, h1, h2⟩ := h; exact ⟨m, v, F, h1.keep (hs.of h2), h2⟩
theorem Hist.ext {p : Nat} {Z : Nat → Prop} {w w' : World} {H : List Rv} (h : Hist p Z w H) (he : Ext w w') : Hist p Z w' H := by
  obtain ⟨m, v, F, h1, h2⟩ := h; exact ⟨m, v, F, h1.keep (fun b hb => he.block b (h1.lt b hb)), h2⟩
abbrev hp (p : Nat) : Value := .pointer (some ⟨p, 0, none⟩)
end Go.Proofs.YtmedmajdoecjfaaDoor
