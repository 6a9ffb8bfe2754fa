/-
  The walks of the references: histories.
-/
import Derived.Test.YtmedmajdoecjfaaDoorFacts
import Derived.Test.YtmedmajdoecjfaaDoorKept
import Derived.Test.YtmedmajdoecjfaaDoorHistV
namespace Go.Proofs.YtmedmajdoecjfaaDoor
open Go Go.Eng Go.RowKit Go.Proofs
set_option linter.unusedVariables false
set_option linter.unusedSimpArgs false
set_option maxHeartbeats 1000000
set_option maxRecDepth 20000

theorem fin_cell2 {P : Program} {p u y : Tmp} {ty t : TypeId} {R : Ending → World → Prop} {e : Env} {w : World} {g : Nat} {c : Array Value} {fr : Nat × Nat} {td : TypeDesc}
    (hp : e p = .pointer (some ⟨g, 0, none⟩)) (hb : w.heap[g]? = some (.cells c t fr)) (hu : P.underlying ty = some td) (h1 : oneCellT td = false) (hs : (P.info? ty).map (·.size) = some c.size)
    (h : R (.returned (.tuple #[.agg c, e u, e y])) w) (hm : e slotM = undef := by rfl) (k1 : Nat.beq p slotM = false := by rfl) (k2 : Nat.beq u slotM = false := by rfl) (k3 : Nat.beq y slotM = false := by rfl) : fin P #[.cell p ty, .tmp u, .tmp y] R e w := by
  refine fin_plain hm ?_; intro tmps ht; refine ⟨.tuple #[.agg c, e u, e y], ?_, h⟩; have h1' := ht p (by rw [beq_eq] at k1; simpa using k1); have h2' := ht u (by rw [beq_eq] at k2; simpa using k2); have h3' := ht y (by rw [beq_eq] at k3; simpa using k3)
  simp at h1' h2' h3'
  have := run_loadVar_row (P := P) w g t ty c fr td hb hu (by cases td <;> simp_all [oneCellT]) hs
  simp [h1', h2', h3', hp, asAddr, this]
def RefH (G : Nat → Prop) (w : World) (v : Value) (H : List Rv) : Prop := ∃ AT cT AM cM, v = .agg #[.slice AT H.length cT, .slice AM H.length cM] ∧ H.length ≤ cT ∧ H.length ≤ cM ∧ fiT.slice.Row w G AT (H.map Rv.t) ∧ dlT.slice.Row w G AM (H.map Rv.d)
theorem RefH.keep {G G' : Nat → Prop} {w w' : World} {v : Value} {H : List Rv} (h : RefH G w v H) (hs : Same G w w') (hG : ∀ b, G b → G' b) : RefH G' w' v H := by
  obtain ⟨AT, cT, AM, cM, h1, h2, h3, h4, h5⟩ := h; exact ⟨AT, cT, AM, cM, h1, h2, h3, h4.keep hs hG, h5.keep hs hG⟩
theorem row_slice {α : Type} {T : Ty α} {w : World} {G : Nat → Prop} {A : Option Addr} {l : List (List α)} (h : T.slice.Row w G A l) {i : Nat} (hi : i < l.length) : ∃ g off Ai ci, A = some ⟨g, off, none⟩ ∧ w.cell? ⟨g, off + i, none⟩ = some (.slice Ai l[i].length ci) ∧ l[i].length ≤ ci ∧ l[i].length ≤ 140737488355328 ∧ T.Row w G Ai l[i] := by
  obtain ⟨g, off, xs, hA, _, hx, hc⟩ := h.cells hi; obtain ⟨Ai, ci, rfl, h1, h2, h3⟩ := hx; have := hc 0 (Nat.lt_add_one 0)
  simp only [Ty.slice, Nat.mul_one, Nat.add_zero] at this
  exact ⟨g, off, Ai, ci, hA, by simpa using this, h1, h2, h3⟩
theorem refHead_spec {AT : Option Addr} {n cT : Nat} (w : World) (hn : n ≤ 140737488355328) (v2 : Value) (hv2 : v2.oneCell' = true) :
    Calls Tryd.prog 37 #[.agg #[.slice AT n cT, v2]] w (fun en w' => ∃ v, en = .returned v ∧ v = .int .i64 ((n : Int) - 1) ∧ Ext w w') := by
  refine calls' (n := 7) (rs := #[.tmp 2]) (l := [.agg #[.slice AT n cT, v2]]) Tryd.func37 rfl rfl rfl rfl rfl ?_; have hX := Ext.refl w; refine W_seq ?_; refine W_region ?_; refine op_box (v := .agg _) rfl rfl ?_; intro w0_0 b0_0 E0_0 B0_0 L0_0
  have hG0_0 : w.heap.size ≤ b0_0 := by have := hX.size; omega
  replace hX := hX.trans E0_0; refine op rfl (r_assignV (v := .int _ _) rfl) ?_; refine WL_nil ?_; refine W_seq ?_; refine W_region ?_; refine op rfl (r_fieldAddr rfl Tryd.fld79_0 rfl) ?_; refine op rfl (r_load (v := .slice AT n cT) rfl Tryd.underlying77 rfl (Blk.cell B0_0 rfl)) ?_; refine op rfl (r_len_slice rfl Tryd.underlying77) ?_; refine op rfl (r_sub' (r := (n : Int) - 1) rfl rfl (by rw [wrap_i64 (by omega) (by omega)])) ?_; refine op rfl (r_assignV (v := .int _ _) rfl) ?_; refine WL_nil ?_; refine W_ret (finX_ret ?_); refine fin1 ?_; exact ⟨_, rfl, rfl, hX⟩
theorem inR_iff {H : List Rv} {r : Int} : inR H r ↔ ¬ r < 0 ∧ ¬ r > (H.length : Int) - 1 := by unfold inR; omega
theorem getR_no {H : List Rv} {r : Int} (h : ¬ inR H r) : getR H r = ⟨[], []⟩ ∧ errR H r = 7 := by
  unfold getR errR; rw [dif_neg h, if_neg h]; exact ⟨rfl, rfl⟩
theorem getR_yes {H : List Rv} {r : Int} (h : inR H r) : ∃ i : Nat, r = i ∧ ∃ hi : i < H.length, getR H r = H[i] ∧ errR H r = 0 := by
  obtain ⟨i, rfl⟩ : ∃ i : Nat, r = i := ⟨r.toNat, by have := h.1; omega⟩
  have hi : i < H.length := by have := h.2; omega
  have := hi; refine ⟨i, rfl, hi, ?_⟩
  unfold getR errR; rw [dif_pos h, if_pos h]; exact ⟨rfl, rfl⟩
theorem refAt_spec {G : Nat → Prop} {w : World} {v : Value} {H : List Rv} (hR : RefH G w v H) (hl : H.length ≤ 100001) (hG : ∀ b, G b → b < w.heap.size) (r : Int) :
    Calls Tryd.prog 40 #[v, .int .i64 r] w (fun en w' => ∃ v', en = .returned v' ∧ ∃ A c, v' = .tuple #[.slice A (getR H r).t.length c, .int .i64 (errR H r)] ∧ (getR H r).t.length ≤ c ∧ fiT.Row w' G A (getR H r).t ∧ Ext w w') := by
  obtain ⟨AT, cT, AM, cM, rfl, hcT, hcM, hT, hM⟩ := hR; refine calls' (n := 19) (rs := #[.tmp 4, .tmp 5]) (l := [.agg #[.slice AT H.length cT, .slice AM H.length cM], .int .i64 r]) Tryd.func40 rfl rfl rfl rfl rfl ?_; have hX := Ext.refl w; refine W_seq ?_; refine W_region ?_; refine op_box (v := .agg _) rfl rfl ?_; intro w0_0 b0_0 E0_0 B0_0 L0_0
  have hG0_0 : w.heap.size ≤ b0_0 := by have := hX.size; omega
  replace hX := hX.trans E0_0; refine op rfl (r_assignV (v := .slice _ _ _) rfl) ?_; refine op rfl (r_assignV (v := .int _ _) rfl) ?_; refine WL_nil ?_; refine W_seq ?_; refine W_seq ?_; refine W_region ?_; refine op rfl (r_moveV (v := .int _ _) rfl) ?_; refine op rfl (r_lss rfl rfl) ?_; refine op_split rfl (r_moveV (v := .bool (decide _)) rfl) (fun hg8 => ?_) (fun hg8 => ?_)
  · refine opG_no rfl rfl rfl rfl rfl ?_; refine opG_no rfl rfl rfl rfl rfl ?_; refine opG_no rfl rfl rfl rfl rfl ?_; refine opG_no rfl rfl rfl rfl rfl ?_; refine op rfl (r_pickTV (v := .bool _) rfl rfl) ?_; refine WL_nil ?_; refine W_then rfl ?_; refine W_seq ?_; refine W_region ?_; refine op rfl (r_assignV (v := .slice _ _ _) rfl) ?_; refine op rfl (r_assignV (v := .int _ _) rfl) ?_; refine WL_nil ?_; refine W_ret (finX_ret ?_); refine fin2 ?_
    first
      | (have hno := getR_no (H := H) (r := r) (fun q => (inR_iff.1 q).1 hg8)
         rw [hno.1, hno.2]; exact ⟨_, rfl, none, 0, rfl, Nat.le_refl _, Or.inl rfl, hX⟩)
      | (have hno := getR_no (H := H) (r := r) (fun q => (inR_iff.1 q).2 ht13)
         rw [hno.1, hno.2]; exact ⟨_, rfl, none, 0, rfl, Nat.le_refl _, Or.inl rfl, hX⟩)
      | (rw [hgr.1, hgr.2]; exact ⟨_, rfl, Ai, ci, rfl, hc1, hrr.keep (fun b hb => hX.block b (hG b hb)) (fun _ h => h), hX⟩)
  · refine opG_yes rfl rfl rfl rfl rfl (r_moveV (v := .int _ _) rfl) ?_; refine opG_yes rfl rfl rfl rfl rfl (r_loadRow rfl B0_0 Tryd.underlying79 rfl Tryd.sz79) ?_; refine opGCv_yes rfl rfl rfl rfl rfl (r_call Tryd.func37 Tryd.nm37 rfl) (refHead_spec _ (by omega) _ rfl) ?_; rintro v2 w2 ⟨rfl, hE⟩; replace B0_0 := Blk.ext B0_0 hE; replace hX := hX.trans hE; refine opG_yes rfl rfl rfl rfl rfl (r_gtr rfl rfl) ?_; refine op rfl (r_pickFV (v := .bool _) rfl rfl) ?_; refine WL_nil ?_; refine W_ifp rfl (fun ht13 => ?_) (fun ht13 => ?_)
    · refine W_seq ?_; refine W_region ?_; refine op rfl (r_assignV (v := .slice _ _ _) rfl) ?_; refine op rfl (r_assignV (v := .int _ _) rfl) ?_; refine WL_nil ?_; refine W_ret (finX_ret ?_); refine fin2 ?_
      first
        | (have hno := getR_no (H := H) (r := r) (fun q => (inR_iff.1 q).1 hg8)
           rw [hno.1, hno.2]; exact ⟨_, rfl, none, 0, rfl, Nat.le_refl _, Or.inl rfl, hX⟩)
        | (have hno := getR_no (H := H) (r := r) (fun q => (inR_iff.1 q).2 ht13)
           rw [hno.1, hno.2]; exact ⟨_, rfl, none, 0, rfl, Nat.le_refl _, Or.inl rfl, hX⟩)
        | (rw [hgr.1, hgr.2]; exact ⟨_, rfl, Ai, ci, rfl, hc1, hrr.keep (fun b hb => hX.block b (hG b hb)) (fun _ h => h), hX⟩)
    · have hin : inR H r := inR_iff.2 ⟨hg8, ht13⟩; obtain ⟨i, rfl, hi, hgr⟩ := getR_yes hin
      have him : i < (H.map Rv.t).length := by rw [List.length_map]; exact hi
      obtain ⟨g, off, Ai, ci, hA, hcell, hc1, hc2, hrr⟩ := row_slice hT him
      simp only [List.getElem_map] at hcell hc1 hc2 hrr
      refine W_skip ?_; refine W_seq ?_; refine W_region ?_; refine op rfl (r_fieldAddr rfl Tryd.fld79_0 rfl) ?_; refine op rfl (r_load (v := .slice AT H.length cT) rfl Tryd.underlying77 rfl (Blk.cell B0_0 rfl)) ?_; refine op rfl (r_moveV (v := .int _ _) rfl) ?_; refine op rfl (r_indexAddr1 rfl rfl hA Tryd.underlying77 Tryd.sz23 (by omega) (by omega)) ?_; refine op rfl (r_load (v := .slice Ai H[i].t.length ci) rfl Tryd.underlying23 rfl (ext_cell hX hcell)) ?_; refine op rfl (r_assignV (v := .slice _ _ _) rfl) ?_; refine op rfl (r_assignV (v := .int _ _) rfl) ?_; refine WL_nil ?_; refine W_ret (finX_ret ?_); refine fin2 ?_
      first
        | (have hno := getR_no (H := H) (r := r) (fun q => (inR_iff.1 q).1 hg8)
           rw [hno.1, hno.2]; exact ⟨_, rfl, none, 0, rfl, Nat.le_refl _, Or.inl rfl, hX⟩)
        | (have hno := getR_no (H := H) (r := r) (fun q => (inR_iff.1 q).2 ht13)
           rw [hno.1, hno.2]; exact ⟨_, rfl, none, 0, rfl, Nat.le_refl _, Or.inl rfl, hX⟩)
        | (rw [hgr.1, hgr.2]; exact ⟨_, rfl, Ai, ci, rfl, hc1, hrr.keep (fun b hb => hX.block b (hG b hb)) (fun _ h => h), hX⟩)
theorem refNew_spec {A : Option Addr} {cap : Nat} {t : Tree} {w : World} {G : Nat → Prop} (hG : ∀ b, G b → b < w.heap.size) (hrow : fiT.Row w G A t) (hct : t.length ≤ cap) (hl : t.length * 40 ≤ 140737488355328) (hps : ∀ x ∈ t, x.p.length ≤ 1099511627776) :
    Calls Tryd.prog 33 #[.slice A t.length cap] w (fun en w' => ∃ v, en = .returned v ∧ ∃ v1, v = .tuple #[v1, .int .i64 (if rightT t then 0 else 2)] ∧ RefH (fun b => G b ∨ since w w' b) w' v1 (if rightT t then [⟨[], t⟩] else []) ∧ Ext w w') := by
  refine calls' (n := 12) (rs := #[.cell 2 79, .tmp 3]) (l := [.slice A t.length cap]) Tryd.func33 rfl rfl rfl rfl rfl ?_; have hX := Ext.refl w; refine W_seq ?_; refine W_region ?_; refine op_alloc rfl Tryd.zero79 ?_; intro w0_0 b0_0 E0_0 B0_0 L0_0
  have hG0_0 : w.heap.size ≤ b0_0 := by have := hX.size; omega
  replace hX := hX.trans E0_0; refine op rfl (r_assignV (v := .int _ _) rfl) ?_; refine WL_nil ?_; refine W_seq ?_; refine W_seq ?_; refine W_region ?_; refine op rfl (r_moveV (v := .slice _ _ _) rfl) ?_; have lb0 := Blk.lt B0_0; refine opCv rfl (r_call Tryd.func11 Tryd.nm11 rfl) (refTreeRight_spec (hrow.keep (fun b hb ↦ hX.block b (hG b hb)) (fun _ h ↦ h)) hl hps) ?_; rintro v1 w1 ⟨rfl, hE⟩; replace B0_0 := Blk.ext B0_0 hE; replace hX := hX.trans hE; refine op rfl (r_notP rfl) ?_; refine WL_nil ?_; refine W_ifp rfl (fun ht6 => ?_) (fun ht6 => ?_)
  · refine W_seq ?_; refine W_region ?_; refine op rfl (r_build (cs := [.slice _ _ _, .slice _ _ _]) Tryd.lay79 (fun _ h => by cases h) rfl rfl) ?_; refine op_storeRow rfl rfl Tryd.sz79 B0_0 rfl rfl ?_; intro w2_1 C2_1 BB2_1; replace hX := hX.chg C2_1 hG0_0; replace B0_0 := BB2_1; refine op rfl (r_assignV (v := .int _ _) rfl) ?_; refine WL_nil ?_; refine W_ret (finX_ret ?_); refine fin_cell1 rfl B0_0 Tryd.underlying79 rfl Tryd.sz79 ?_
    first
      | (rw [if_neg ht6, if_neg ht6]
         exact ⟨_, rfl, _, rfl, ⟨none, 0, none, 0, rfl, Nat.le_refl _, Nat.le_refl _, Or.inl rfl, Or.inl rfl⟩, hX⟩)
      | (have hr := Classical.not_not.1 ht6
         rw [if_pos hr, if_pos hr]; have hb0 := Blk.lt B0_0; have hs3 := E3.size; have hs4 := E4.size; have hs1 := hE.size; have hs0 := E0_0.size
         have hb3 : b3 ≠ b0_0 := by omega
         have hb4 : b4 ≠ b0_0 := by omega
         have hs5 := C3_4.size; have B3' := Chg.blk C3_4 (B3.ext E4) hb3; have B4' := Chg.blk C3_4 B4 hb4; have hl3 := Blk.lt B3'; have hl4 := Blk.lt B4'; refine ⟨_, rfl, _, rfl, ⟨some ⟨b3, 0, none⟩, 1, some ⟨b4, 0, none⟩, 1, rfl, Nat.le_refl _, Nat.le_refl _, ?_, ?_⟩, hX⟩
         · refine Blk.row B3' (Or.inr ⟨by omega, hl3⟩) (fun i hi => ?_)
           obtain rfl : i = 0 := by simp at hi; omega
           exact ⟨_, ⟨A, cap, rfl, hct, by show t.length ≤ 140737488355328; omega, hrow.keep (fun b hb => hX.block b (hG b hb)) (fun b hb => Or.inl hb)⟩, fun j hj => by
             have e : fiT.slice.sz = 1 := rfl
             rw [e] at hj ⊢
             obtain rfl : j = 0 := by omega
             rfl⟩
         · refine Blk.row B4' (Or.inr ⟨by omega, hl4⟩) (fun i hi => ?_)
           obtain rfl : i = 0 := by simp at hi; omega
           exact ⟨_, ⟨none, 0, rfl, Nat.le_refl _, Nat.zero_le _, Or.inl rfl⟩, fun j hj => by
             have e : dlT.slice.sz = 1 := rfl
             rw [e] at hj ⊢
             obtain rfl : j = 0 := by omega
             rfl⟩)
  · refine W_skip ?_; refine W_seq ?_; refine W_region ?_; refine op rfl (r_moveV (v := .slice _ _ _) rfl) ?_; refine op_newS rfl (r_buildSlice (vs := [.slice A t.length cap]) Tryd.underlying77 Tryd.sz23 Tryd.zero23 rfl rfl rfl) ?_; intro w3 b3 E3 B3 L3; replace hX := hX.trans E3; replace B0_0 := Blk.ext B0_0 E3; refine op_newS rfl (r_buildSlice (vs := [.slice none 0 0]) Tryd.underlying52 Tryd.sz39 Tryd.zero39 rfl rfl rfl) ?_; intro w4 b4 E4 B4 L4; replace hX := hX.trans E4; replace B0_0 := Blk.ext B0_0 E4; refine op rfl (r_build (cs := [.slice (some ⟨b3, 0, none⟩) 1 1, .slice (some ⟨b4, 0, none⟩) 1 1]) Tryd.lay79 (List.forall_mem_cons.2 ⟨rfl, List.forall_mem_cons.2 ⟨rfl, fun _ h => absurd h List.not_mem_nil⟩⟩) rfl rfl) ?_; refine op_storeRow rfl rfl Tryd.sz79 B0_0 rfl rfl ?_; intro w3_4 C3_4 BB3_4; replace hX := hX.chg C3_4 hG0_0; replace B0_0 := BB3_4; refine op rfl (r_assignV (v := .int _ _) rfl) ?_; refine WL_nil ?_; refine W_ret (finX_ret ?_); refine fin_cell1 rfl B0_0 Tryd.underlying79 rfl Tryd.sz79 ?_
    first
      | (rw [if_neg ht6, if_neg ht6]
         exact ⟨_, rfl, _, rfl, ⟨none, 0, none, 0, rfl, Nat.le_refl _, Nat.le_refl _, Or.inl rfl, Or.inl rfl⟩, hX⟩)
      | (have hr := Classical.not_not.1 ht6
         rw [if_pos hr, if_pos hr]; have hb0 := Blk.lt B0_0; have hs3 := E3.size; have hs4 := E4.size; have hs1 := hE.size; have hs0 := E0_0.size
         have hb3 : b3 ≠ b0_0 := by omega
         have hb4 : b4 ≠ b0_0 := by omega
         have hs5 := C3_4.size; have B3' := Chg.blk C3_4 (B3.ext E4) hb3; have B4' := Chg.blk C3_4 B4 hb4; have hl3 := Blk.lt B3'; have hl4 := Blk.lt B4'; refine ⟨_, rfl, _, rfl, ⟨some ⟨b3, 0, none⟩, 1, some ⟨b4, 0, none⟩, 1, rfl, Nat.le_refl _, Nat.le_refl _, ?_, ?_⟩, hX⟩
         · refine Blk.row B3' (Or.inr ⟨by omega, hl3⟩) (fun i hi => ?_)
           obtain rfl : i = 0 := by simp at hi; omega
           exact ⟨_, ⟨A, cap, rfl, hct, by show t.length ≤ 140737488355328; omega, hrow.keep (fun b hb => hX.block b (hG b hb)) (fun b hb => Or.inl hb)⟩, fun j hj => by
             have e : fiT.slice.sz = 1 := rfl
             rw [e] at hj ⊢
             obtain rfl : j = 0 := by omega
             rfl⟩
         · refine Blk.row B4' (Or.inr ⟨by omega, hl4⟩) (fun i hi => ?_)
           obtain rfl : i = 0 := by simp at hi; omega
           exact ⟨_, ⟨none, 0, rfl, Nat.le_refl _, Nat.zero_le _, Or.inl rfl⟩, fun j hj => by
             have e : dlT.slice.sz = 1 := rfl
             rw [e] at hj ⊢
             obtain rfl : j = 0 := by omega
             rfl⟩)
abbrev above (x y : Nat) (w : World) : Nat → Prop := fun b => x < b ∧ y < b ∧ b < w.heap.size
theorem refCommit_spec {G : Nat → Prop} {w : World} {v : Value} {H : List Rv} (hR : RefH G w v H) (h1 : 1 ≤ H.length) (hl : H.length ≤ 100001) (hG : ∀ b, G b → b < w.heap.size) {Ad : Option Addr} {cd : Nat} {ds : List Dl} (hdrow : dlT.Row w G Ad ds) (hcd : ds.length ≤ cd) (hdl : ds.length * 48 ≤ 140737488355328) (hp2 : ∀ d ∈ ds, d.p.length ≤ 1099511627776) (hok : ∀ r ∈ H, RvOk r) :
    Calls Tryd.prog 58 #[v, .slice Ad ds.length cd] w (fun en w' => ∃ v', en = .returned v' ∧ ∃ v1, v' = .tuple #[v1, .int .i64 (commitR H ds).2.1, .int .i64 (commitR H ds).2.2] ∧ RefH (fun b => G b ∨ since w w' b) w' v1 (commitR H ds).1 ∧ Ext w w') := by
  have hR0 := hR; obtain ⟨AT, cT, AM, cM, rfl, hcT, hcM, hT, hM⟩ := hR
  have hun : ∀ W, Ext w W → RefH (fun b => G b ∨ since w W b) W (.agg #[.slice AT H.length cT, .slice AM H.length cM]) H := fun W he => hR0.keep (fun b hb => he.block b (hG b hb)) (fun b hb => Or.inl hb)
  have him : H.length - 1 < (H.map Rv.t).length := by rw [List.length_map]; omega
  obtain ⟨gT, oT, Ah, ch, hAT, hcell, hch, hlh, hrh⟩ := row_slice hT him; have hcell0 := hcell
  have hHe : (H.map Rv.t)[H.length - 1] = headT H := by rw [List.getElem_map, headT_eq h1]
  rw [hHe] at hcell hch hlh hrh
  have hrH : rightT (headT H) := by rw [headT_eq h1]; exact (hok _ (List.getElem_mem _)).1
  have hAp : ∀ W, Ext w W → Calls Tryd.prog 24 #[.slice Ah (headT H).length ch, .slice Ad ds.length cd] W (fun en w' => ∃ v, en = .returned v ∧ ∃ v1, v = .tuple #[v1, .int .i64 (applyT (headT H) ds).1] ∧ RowS G W w' v1 (applyT (headT H) ds).2 ∧ Ext W w') := fun W he =>
    refApply_spec (cap := ch) (cd := cd) (w := W) (G := G) (fun b hb => Nat.lt_of_lt_of_le (hG b hb) he.size) (hrh.keep (fun b hb => he.block b (hG b hb)) (fun _ h => h)) (hdrow.keep (fun b hb => he.block b (hG b hb)) (fun _ h => h)) (by have := hrH.1; omega) hch (tree_paths hrH) hp2
  refine calls' (n := 56) (rs := #[.cell 4 79, .tmp 5, .tmp 6]) (l := [.agg #[.slice AT H.length cT, .slice AM H.length cM], .slice Ad ds.length cd]) Tryd.func58 rfl rfl rfl rfl rfl ?_; have hX := Ext.refl w; refine W_seq ?_; refine W_region ?_; refine op_box (v := .agg _) rfl rfl ?_; intro w0_0 b0_0 E0_0 B0_0 L0_0
  have hG0_0 : w.heap.size ≤ b0_0 := by have := hX.size; omega
  replace hX := hX.trans E0_0; refine op_alloc rfl Tryd.zero79 ?_; intro w0_1 b0_1 E0_1 B0_1 L0_1
  have hG0_1 : w.heap.size ≤ b0_1 := by have := hX.size; omega
  have hNb0_0_0_1 : b0_0 ≠ b0_1 := by have := Blk.lt B0_0; omega
  replace B0_0 := Blk.ext B0_0 E0_1; replace hX := hX.trans E0_1; refine op rfl (r_assignV (v := .int _ _) rfl) ?_; refine op rfl (r_assignV (v := .int _ _) rfl) ?_; refine WL_nil ?_; refine W_seq ?_; refine W_seq ?_; refine W_region ?_; refine op rfl (r_moveV (v := .slice _ _ _) rfl) ?_; refine op rfl (r_len_slice rfl Tryd.underlying39) ?_; refine op rfl (r_eql rfl rfl) ?_; refine WL_nil ?_; refine W_ifp rfl (fun ht13 => ?_) (fun ht13 => ?_)
  · refine W_seq ?_; refine W_region ?_; refine op rfl (r_loadRow rfl B0_0 Tryd.underlying79 rfl Tryd.sz79) ?_; refine op_storeRow rfl rfl Tryd.sz79 B0_1 rfl rfl ?_; intro w2_1 C2_1 BB2_1; replace B0_0 := Chg.blk C2_1 B0_0 hNb0_0_0_1; replace hX := hX.chg C2_1 hG0_1; replace B0_1 := BB2_1; refine op rfl (r_assignV (v := .int _ _) rfl) ?_; refine op rfl (r_assignV (v := .int _ _) rfl) ?_; refine WL_nil ?_; refine W_ret (finX_ret ?_); refine fin_cell2 rfl B0_1 Tryd.underlying79 rfl Tryd.sz79 ?_
    first
      | (rw [c_nil (by omega)]; exact ⟨_, rfl, _, rfl, hun _ hX, hX⟩)
      | (rw [c_full (by omega) (by omega)]; exact ⟨_, rfl, _, rfl, hun _ hX, hX⟩)
      | (rw [c_err (by omega) (by omega) ht31]; exact ⟨_, rfl, _, rfl, hun _ hX, hX⟩)
      | (rw [c_ok (by omega) (by omega) hz0, ← hu]
         have hl1 : ([] ++ H.map Rv.t ++ [u]).length = (H ++ [(⟨ds, u⟩ : Rv)]).length := by simp
         have hl2 : ([] ++ H.map Rv.d ++ [ds]).length = (H ++ [(⟨ds, u⟩ : Rv)]).length := by simp
         have he1 : [] ++ H.map Rv.t ++ [u] = (H ++ [(⟨ds, u⟩ : Rv)]).map Rv.t := by simp
         have he2 : [] ++ H.map Rv.d ++ [ds] = (H ++ [(⟨ds, u⟩ : Rv)]).map Rv.d := by simp
         have hs15 := C14_6.size
         have hl0 : w.heap.size ≤ b0_1 := by assumption
         refine ⟨_, rfl, _, rfl, ⟨A11, c11, A14, c14, by rw [hl1, hl2], by rw [← hl1]; exact hc11, by rw [← hl2]; exact hc14, ?_, ?_⟩, hX⟩
         · rw [← he1]; refine hr11'.keep (fun b hb => ?_) (fun b hb => hb.imp_right (fun q => ⟨by have := q.2.1; omega, by have := q.2.2; omega⟩)); have h9 := hG11' b hb
           rw [C14_6.block b (by omega) (fun q => by
             subst q
             rcases hb with q | q
             · have := hG _ q; omega
             · have := q.2.1; omega)]
           exact hE1114 b h9
         · rw [← he2]; refine hr14.keep (fun b hb => ?_) (fun b hb => ?_)
           · refine C14_6.block b ?_ (fun q => ?_)
             · rcases hb with q | q
               · have := hG11' b q; omega
               · exact (hO14.lt q).2
             · subst q
               rcases hb with (q | q) | q
               · have := hG _ q; omega
               · have := q.2.1; omega
               · have := (hO14.lt q).1; omega
           · rcases hb with (q | q) | q
             · exact Or.inl q
             · exact Or.inr ⟨by have := q.2.1; omega, by have := q.2.2; omega⟩
             · have := hO14.lt q; exact Or.inr ⟨by have := hX11.size; omega, by omega⟩)
  · refine W_skip ?_; refine W_seq ?_; refine W_seq ?_; refine W_region ?_; refine op rfl (r_loadRow rfl B0_0 Tryd.underlying79 rfl Tryd.sz79) ?_; refine opCv rfl (r_call Tryd.func37 Tryd.nm37 rfl) (refHead_spec _ (by omega) _ rfl) ?_; rintro v2 w2 ⟨rfl, hE⟩; replace B0_0 := Blk.ext B0_0 hE; replace B0_1 := Blk.ext B0_1 hE; replace hX := hX.trans hE; refine op rfl (r_geq rfl rfl) ?_; refine WL_nil ?_; refine W_ifp rfl (fun ht17 => ?_) (fun ht17 => ?_)
    · refine W_seq ?_; refine W_region ?_; refine op rfl (r_loadRow rfl B0_0 Tryd.underlying79 rfl Tryd.sz79) ?_; refine op_storeRow rfl rfl Tryd.sz79 B0_1 rfl rfl ?_; intro w4_1 C4_1 BB4_1; replace B0_0 := Chg.blk C4_1 B0_0 hNb0_0_0_1; replace hX := hX.chg C4_1 hG0_1; replace B0_1 := BB4_1; refine op rfl (r_assignV (v := .int _ _) rfl) ?_; refine op rfl (r_assignV (v := .int _ _) rfl) ?_; refine WL_nil ?_; refine W_ret (finX_ret ?_); refine fin_cell2 rfl B0_1 Tryd.underlying79 rfl Tryd.sz79 ?_
      first
        | (rw [c_nil (by omega)]; exact ⟨_, rfl, _, rfl, hun _ hX, hX⟩)
        | (rw [c_full (by omega) (by omega)]; exact ⟨_, rfl, _, rfl, hun _ hX, hX⟩)
        | (rw [c_err (by omega) (by omega) ht31]; exact ⟨_, rfl, _, rfl, hun _ hX, hX⟩)
        | (rw [c_ok (by omega) (by omega) hz0, ← hu]
           have hl1 : ([] ++ H.map Rv.t ++ [u]).length = (H ++ [(⟨ds, u⟩ : Rv)]).length := by simp
           have hl2 : ([] ++ H.map Rv.d ++ [ds]).length = (H ++ [(⟨ds, u⟩ : Rv)]).length := by simp
           have he1 : [] ++ H.map Rv.t ++ [u] = (H ++ [(⟨ds, u⟩ : Rv)]).map Rv.t := by simp
           have he2 : [] ++ H.map Rv.d ++ [ds] = (H ++ [(⟨ds, u⟩ : Rv)]).map Rv.d := by simp
           have hs15 := C14_6.size
           have hl0 : w.heap.size ≤ b0_1 := by assumption
           refine ⟨_, rfl, _, rfl, ⟨A11, c11, A14, c14, by rw [hl1, hl2], by rw [← hl1]; exact hc11, by rw [← hl2]; exact hc14, ?_, ?_⟩, hX⟩
           · rw [← he1]; refine hr11'.keep (fun b hb => ?_) (fun b hb => hb.imp_right (fun q => ⟨by have := q.2.1; omega, by have := q.2.2; omega⟩)); have h9 := hG11' b hb
             rw [C14_6.block b (by omega) (fun q => by
               subst q
               rcases hb with q | q
               · have := hG _ q; omega
               · have := q.2.1; omega)]
             exact hE1114 b h9
           · rw [← he2]; refine hr14.keep (fun b hb => ?_) (fun b hb => ?_)
             · refine C14_6.block b ?_ (fun q => ?_)
               · rcases hb with q | q
                 · have := hG11' b q; omega
                 · exact (hO14.lt q).2
               · subst q
                 rcases hb with (q | q) | q
                 · have := hG _ q; omega
                 · have := q.2.1; omega
                 · have := (hO14.lt q).1; omega
             · rcases hb with (q | q) | q
               · exact Or.inl q
               · exact Or.inr ⟨by have := q.2.1; omega, by have := q.2.2; omega⟩
               · have := hO14.lt q; exact Or.inr ⟨by have := hX11.size; omega, by omega⟩)
    · refine W_skip ?_; refine W_seq ?_; refine W_drawF (W0 := w) (fun b : Nat => b = b0_0 ∨ b = b0_1 ∨ False) Tryd.wd rfl ?_; intro wd5 hD; replace B0_0 := Blk.ext B0_0 hD; replace B0_1 := Blk.ext B0_1 hD; replace hX := hX.trans hD; have DB0_0 := B0_0; have DB0_1 := B0_1; have hS : Ext w wd5 ∧ Same (fun b : Nat => b = b0_0 ∨ b = b0_1 ∨ False) wd5 wd5 := ⟨hX, fun _ _ => rfl⟩; refine A_take (i := 0) rfl (by kernel_rfl) (by kernel_rfl) (by kernel_rfl) rfl hS (fun _ hw => r_fieldAddr rfl Tryd.fld79_0 rfl) ?_; refine A_take (i := 1) rfl (by kernel_rfl) (by kernel_rfl) (by kernel_rfl) rfl hS (fun _ hw => r_load (v := .slice AT H.length cT) rfl Tryd.underlying77 rfl (Blk.cell (Blk.at DB0_0 (hw.2 _ (Or.inl rfl))) rfl)) ?_; refine A_take (i := 2) rfl (by kernel_rfl) (by kernel_rfl) (by kernel_rfl) rfl hS (fun _ hw => r_loadRow rfl (Blk.at DB0_0 (hw.2 _ (Or.inl rfl))) Tryd.underlying79 rfl Tryd.sz79) ?_; refine A_take (i := 6) rfl (by kernel_rfl) (by kernel_rfl) (by kernel_rfl) rfl hS (fun _ hw => r_moveV (v := .slice _ _ _) rfl) ?_; refine A_ready1 (i := 3) (by kernel_rfl) ?_; refine O_call rfl rfl (r_call Tryd.func37 Tryd.nm37 rfl) (refHead_spec _ (by omega) _ rfl) ?_; rintro v3 w3 ⟨rfl, hE⟩; replace B0_0 := Blk.ext B0_0 hE; replace B0_1 := Blk.ext B0_1 hE; replace hX := hX.trans hE; replace hS : Ext w w3 ∧ Same (fun b : Nat => b = b0_0 ∨ b = b0_1 ∨ False) wd5 w3 := ⟨hX, fun b hb => Or.elim hb (fun q => by subst q; exact Blk.eq B0_0 DB0_0) (fun hb => Or.elim hb (fun q => by subst q; exact Blk.eq B0_1 DB0_1) (fun hb => hb.elim))⟩; refine ⟨hS, ?_⟩; refine A_take (i := 4) rfl (by kernel_rfl) (by kernel_rfl) (by kernel_rfl) rfl hS (fun _ hw => r_indexAddr1 rfl rfl hAT Tryd.underlying77 Tryd.sz23 (by omega) (by omega)) ?_; refine A_take (i := 5) rfl (by kernel_rfl) (by kernel_rfl) (by kernel_rfl) rfl hS (fun _ hw => r_load (v := .slice Ah (headT H).length ch) rfl Tryd.underlying23 rfl (ext_cell hw.1 (by rw [show ((H.length : Int) - 1).toNat = H.length - 1 by omega]; exact hcell))) ?_; refine A_ready1 (i := 7) (by kernel_rfl) ?_; have hs5 := hX.size; have la0 := Blk.lt B0_0; have la1 := Blk.lt B0_1; refine O_call rfl rfl (r_call Tryd.func24 Tryd.nm24 rfl) (hAp _ hX) ?_; rintro v4 w4 ⟨v5, rfl, hR5, hE⟩; replace B0_0 := Blk.ext B0_0 hE; replace B0_1 := Blk.ext B0_1 hE; replace hX := hX.trans hE; replace hS : Ext w w4 ∧ Same (fun b : Nat => b = b0_0 ∨ b = b0_1 ∨ False) wd5 w4 := ⟨hX, fun b hb => Or.elim hb (fun q => by subst q; exact Blk.eq B0_0 DB0_0) (fun hb => Or.elim hb (fun q => by subst q; exact Blk.eq B0_1 DB0_1) (fun hb => hb.elim))⟩; refine ⟨hS, ?_⟩; obtain ⟨A5, c5, rfl, hc5, hr5⟩ := hR5; have hr5' : fiT.Row w4 (fun b => G b ∨ above b0_0 b0_1 w4 b) A5 (applyT (headT H) ds).2 := hr5.keep (fun _ _ => rfl) (fun b hb => hb.imp_right (fun q => ⟨by have := q.1; omega, by have := q.1; omega, q.2⟩)); have hX4 := hX
      have hG4 : ∀ b, (G b ∨ above b0_0 b0_1 w4 b) → b < w4.heap.size := fun b hb => hb.elim (fun q => Nat.lt_of_lt_of_le (hG b q) hX4.size) (fun q => q.2.2)
      have lb0 := Blk.lt B0_0; have lb1 := Blk.lt B0_1; refine A_take (i := 8) rfl (by kernel_rfl) (by kernel_rfl) (by kernel_rfl) rfl hS (fun _ hw => r_moveV (v := .tuple #[.slice A5 (applyT (headT H) ds).2.length c5, .int .i64 (applyT (headT H) ds).1]) rfl) ?_; refine A_take (i := 9) rfl (by kernel_rfl) (by kernel_rfl) (by kernel_rfl) rfl hS (fun _ hw => r_extract (vs := [.slice A5 (applyT (headT H) ds).2.length c5, .int .i64 (applyT (headT H) ds).1]) rfl rfl) ?_; refine A_take (i := 10) rfl (by kernel_rfl) (by kernel_rfl) (by kernel_rfl) rfl hS (fun _ hw => r_extract (vs := [.slice A5 (applyT (headT H) ds).2.length c5, .int .i64 (applyT (headT H) ds).1]) rfl rfl) ?_; refine A_take (i := 11) rfl (by kernel_rfl) (by kernel_rfl) (by kernel_rfl) rfl hS (fun _ hw => r_assignV (v := .slice A5 (applyT (headT H) ds).2.length c5) rfl) ?_; refine A_take (i := 12) rfl (by kernel_rfl) (by kernel_rfl) (by kernel_rfl) rfl hS (fun _ hw => r_assignV (v := .int .i64 (applyT (headT H) ds).1) rfl) ?_; refine A_done (by kernel_rfl) ?_; refine W_seq ?_; refine W_seq ?_; refine W_region ?_; refine op rfl (r_moveV (v := .int .i64 (applyT (headT H) ds).1) rfl) ?_; refine op rfl (r_neq rfl rfl) ?_; refine WL_nil ?_; refine W_ifp rfl (fun ht31 => ?_) (fun ht31 => ?_)
      · refine W_seq ?_; refine W_region ?_; refine op rfl (r_loadRow rfl B0_0 Tryd.underlying79 rfl Tryd.sz79) ?_; refine op rfl (r_moveV (v := .int .i64 (applyT (headT H) ds).1) rfl) ?_; refine op_storeRow rfl rfl Tryd.sz79 B0_1 rfl rfl ?_; intro w7_2 C7_2 BB7_2; replace B0_0 := Chg.blk C7_2 B0_0 hNb0_0_0_1; replace hX := hX.chg C7_2 hG0_1; replace B0_1 := BB7_2; refine op rfl (r_assignV (v := .int _ _) rfl) ?_; refine op rfl (r_assignV (v := .int .i64 (applyT (headT H) ds).1) rfl) ?_; refine WL_nil ?_; refine W_ret (finX_ret ?_); refine fin_cell2 rfl B0_1 Tryd.underlying79 rfl Tryd.sz79 ?_
        first
          | (rw [c_nil (by omega)]; exact ⟨_, rfl, _, rfl, hun _ hX, hX⟩)
          | (rw [c_full (by omega) (by omega)]; exact ⟨_, rfl, _, rfl, hun _ hX, hX⟩)
          | (rw [c_err (by omega) (by omega) ht31]; exact ⟨_, rfl, _, rfl, hun _ hX, hX⟩)
          | (rw [c_ok (by omega) (by omega) hz0, ← hu]
             have hl1 : ([] ++ H.map Rv.t ++ [u]).length = (H ++ [(⟨ds, u⟩ : Rv)]).length := by simp
             have hl2 : ([] ++ H.map Rv.d ++ [ds]).length = (H ++ [(⟨ds, u⟩ : Rv)]).length := by simp
             have he1 : [] ++ H.map Rv.t ++ [u] = (H ++ [(⟨ds, u⟩ : Rv)]).map Rv.t := by simp
             have he2 : [] ++ H.map Rv.d ++ [ds] = (H ++ [(⟨ds, u⟩ : Rv)]).map Rv.d := by simp
             have hs15 := C14_6.size
             have hl0 : w.heap.size ≤ b0_1 := by assumption
             refine ⟨_, rfl, _, rfl, ⟨A11, c11, A14, c14, by rw [hl1, hl2], by rw [← hl1]; exact hc11, by rw [← hl2]; exact hc14, ?_, ?_⟩, hX⟩
             · rw [← he1]; refine hr11'.keep (fun b hb => ?_) (fun b hb => hb.imp_right (fun q => ⟨by have := q.2.1; omega, by have := q.2.2; omega⟩)); have h9 := hG11' b hb
               rw [C14_6.block b (by omega) (fun q => by
                 subst q
                 rcases hb with q | q
                 · have := hG _ q; omega
                 · have := q.2.1; omega)]
               exact hE1114 b h9
             · rw [← he2]; refine hr14.keep (fun b hb => ?_) (fun b hb => ?_)
               · refine C14_6.block b ?_ (fun q => ?_)
                 · rcases hb with q | q
                   · have := hG11' b q; omega
                   · exact (hO14.lt q).2
                 · subst q
                   rcases hb with (q | q) | q
                   · have := hG _ q; omega
                   · have := q.2.1; omega
                   · have := (hO14.lt q).1; omega
               · rcases hb with (q | q) | q
                 · exact Or.inl q
                 · exact Or.inr ⟨by have := q.2.1; omega, by have := q.2.2; omega⟩
                 · have := hO14.lt q; exact Or.inr ⟨by have := hX11.size; omega, by omega⟩)
      · have hz0 : (applyT (headT H) ds).1 = 0 := Classical.not_not.1 ht31; have hru : rightT (applyT (headT H) ds).2 := apply_right (ds := ds) (t := headT H) (Prod.ext hz0 rfl); obtain ⟨u, hu⟩ : ∃ x, x = (applyT (headT H) ds).2 := ⟨_, rfl⟩
        rw [← hu] at hr5' hru hc5
        have hHm1 : (H.map Rv.t).length = H.length := List.length_map ..; have hHm2 : (H.map Rv.d).length = H.length := List.length_map ..; refine W_skip ?_; refine W_seq ?_; refine W_region ?_; refine op rfl (r_assignV (v := .slice _ _ _) rfl) ?_; refine WL_nil ?_; refine W_seq ?_; refine W_region ?_; refine op rfl (r_moveV (v := .slice _ _ _) rfl) ?_; refine op rfl (r_fieldAddr rfl Tryd.fld79_0 rfl) ?_; refine op rfl (r_load (v := .slice AT H.length cT) rfl Tryd.underlying77 rfl (Blk.cell B0_0 rfl)) ?_; refine op_append (T := fiT.slice) (F := fun b => G b ∨ above b0_0 b0_1 w4 b) (B := w4.heap.size) (l := []) (m := H.map Rv.t) (A := AT) (c := cT) rfl rfl (by rw [hHm1]; rfl) Tryd.underlying77 Tryd.sz23 Tryd.by23 Tryd.zero23 rfl .nil (hT.keep (fun b hb => hX4.block b (hG b hb)) (fun b hb => Or.inl hb)).src (fun b hb => ⟨hG4 b hb, fun q => by cases q⟩) (by simp only [List.length_nil]; omega) (by simp only [List.length_nil]; omega) (Nat.le_refl _) ?_; intro v9 w9 hO9 hG9 hv9; have hE9 : Ext w4 w9 := ⟨hG9.os, hG9.tape, hG9.output, hG9.size, fun k hk => hG9.block k hk (fun q => by cases q)⟩; replace hX := hX.trans hE9; replace B0_0 := Blk.ext B0_0 hE9; replace B0_1 := Blk.ext B0_1 hE9; refine op rfl (r_assignV (v := v9) rfl) ?_; refine WL_nil ?_; refine W_seq ?_; refine W_region ?_; refine op rfl (r_moveV (v := v9) rfl) ?_; refine op rfl (r_moveV (v := .slice A5 u.length c5) (by rw [hu]; rfl)) ?_; refine op_newS rfl (r_buildSlice (vs := [.slice A5 u.length c5]) Tryd.underlying77 Tryd.sz23 Tryd.zero23 rfl rfl rfl) ?_; intro w10 b10 E10 B10 L10; replace hX := hX.trans E10; have hs9 := hE9.size; have hs10 := E10.size; refine op_append (T := fiT.slice) (F := fun b => G b ∨ above b0_0 b0_1 w4 b) (B := w4.heap.size) (l := [] ++ H.map Rv.t) (m := [u]) rfl rfl rfl Tryd.underlying77 Tryd.sz23 Tryd.by23 Tryd.zero23 rfl (hO9.ext E10 (fun b hb => by have := hG4 b hb; omega)) (Src.blk B10 ⟨A5, c5, rfl, hc5, Nat.le_trans hru.1 (by decide), hr5'.keep (fun b hb => (hE9.trans E10).block b (hG4 b hb)) (fun _ h => h)⟩) (fun b hb => ⟨by have := hG4 b hb; omega, fun q => by have := (hO9.lt q).1; have := hG4 b hb; omega⟩) (by simp only [List.length_append, List.length_nil, List.length_singleton]; omega) (by simp only [List.length_append, List.length_nil, List.length_singleton]; omega) (by omega) ?_; intro v11 w11 hO11 hG11 hv11; have hs11 := hG11.size; have hX10 := hX; have hX11 : Ext w w11 := hX10.gro hG11 hX10.size (fun k hk => by have := (hO9.lt hk).1; have := hX4.size; omega); clear hX; have hX := hX11
        have hE411 : ∀ b, b < w4.heap.size → w11.heap[b]? = w4.heap[b]? := fun b hb => by
          rw [hG11.block b (by omega) (fun q => by have := (hO9.lt q).1; omega), E10.block b (by omega), hE9.block b hb]
        replace B0_0 : Blk w11 b0_0 _ _ := Blk.at (Blk.ext B0_0 E10) (hG11.block b0_0 (by omega) (fun q => by have := (hO9.lt q).1; omega))
        replace B0_1 : Blk w11 b0_1 _ _ := Blk.at (Blk.ext B0_1 E10) (hG11.block b0_1 (by omega) (fun q => by have := (hO9.lt q).1; omega))
        obtain ⟨A11, c11, rfl, hc11, hr11⟩ := hO11.read
        have hr11' : fiT.slice.Row w11 (fun b => G b ∨ above b0_0 b0_1 w11 b) A11 ([] ++ H.map Rv.t ++ [u]) := hr11.keep (fun _ _ => rfl) (fun b hb => by
          rcases hb with (q | q) | q
          · exact Or.inl q
          · exact Or.inr ⟨q.1, q.2.1, by have := q.2.2; omega⟩
          · have := hO11.lt q; exact Or.inr ⟨by omega, by omega, this.2⟩)
        have hG11' : ∀ b, (G b ∨ above b0_0 b0_1 w11 b) → b < w11.heap.size := fun b hb => hb.elim (fun q => by have := hG4 b (Or.inl q); omega) (fun q => q.2.2)
        refine op rfl (r_assignV (v := .slice A11 ([] ++ H.map Rv.t ++ [u]).length c11) rfl) ?_; refine WL_nil ?_; refine W_seq ?_; refine W_region ?_; refine op rfl (r_assignV (v := .slice _ _ _) rfl) ?_; refine WL_nil ?_; refine W_seq ?_; refine W_region ?_; refine op rfl (r_moveV (v := .slice _ _ _) rfl) ?_; refine op rfl (r_fieldAddr rfl Tryd.fld79_1 rfl) ?_; refine op rfl (r_load (v := .slice AM H.length cM) rfl Tryd.underlying52 rfl (Blk.cell B0_0 rfl)) ?_; refine op_append (T := dlT.slice) (F := fun b => G b ∨ above b0_0 b0_1 w11 b) (B := w11.heap.size) (l := []) (m := H.map Rv.d) (A := AM) (c := cM) rfl rfl (by rw [hHm2]; rfl) Tryd.underlying52 Tryd.sz39 Tryd.by39 Tryd.zero39 rfl .nil (hM.keep (fun b hb => hX11.block b (hG b hb)) (fun b hb => Or.inl hb)).src (fun b hb => ⟨hG11' b hb, fun q => by cases q⟩) (by simp only [List.length_nil]; omega) (by simp only [List.length_nil]; omega) (Nat.le_refl _) ?_; intro v12 w12 hO12 hG12 hv12; have hE12 : Ext w11 w12 := ⟨hG12.os, hG12.tape, hG12.output, hG12.size, fun k hk => hG12.block k hk (fun q => by cases q)⟩; replace hX := hX.trans hE12; replace B0_0 := Blk.ext B0_0 hE12; replace B0_1 := Blk.ext B0_1 hE12; refine op rfl (r_assignV (v := v12) rfl) ?_; refine WL_nil ?_; refine W_seq ?_; refine W_region ?_; refine op rfl (r_moveV (v := v12) rfl) ?_; refine op rfl (r_moveV (v := .slice _ _ _) rfl) ?_; refine op_newS rfl (r_buildSlice (vs := [.slice Ad ds.length cd]) Tryd.underlying52 Tryd.sz39 Tryd.zero39 rfl rfl rfl) ?_; intro w13 b13 E13 B13 L13; replace hX := hX.trans E13; have hs12 := hE12.size; have hs13 := E13.size; refine op_append (T := dlT.slice) (F := fun b => G b ∨ above b0_0 b0_1 w11 b) (B := w11.heap.size) (l := [] ++ H.map Rv.d) (m := [ds]) rfl rfl rfl Tryd.underlying52 Tryd.sz39 Tryd.by39 Tryd.zero39 rfl (hO12.ext E13 (fun b hb => by have := hG11' b hb; omega)) (Src.blk B13 ⟨Ad, cd, rfl, hcd, by show ds.length ≤ 140737488355328; omega, hdrow.keep (fun b hb => hX.block b (hG b hb)) (fun b hb => Or.inl hb)⟩) (fun b hb => ⟨by have := hG11' b hb; omega, fun q => by have := (hO12.lt q).1; have := hG11' b hb; omega⟩) (by simp only [List.length_append, List.length_nil, List.length_singleton]; omega) (by simp only [List.length_append, List.length_nil, List.length_singleton]; omega) (by omega) ?_; intro v14 w14 hO14 hG14 hv14; have hs14 := hG14.size; have hX13 := hX; have hX14 : Ext w w14 := hX13.gro hG14 hX13.size (fun k hk => by have := (hO12.lt hk).1; have := hX11.size; omega); clear hX; have hX := hX14
        have hE1114 : ∀ b, b < w11.heap.size → w14.heap[b]? = w11.heap[b]? := fun b hb => by
          rw [hG14.block b (by omega) (fun q => by have := (hO12.lt q).1; omega), E13.block b (by omega), hE12.block b hb]
        replace B0_0 : Blk w14 b0_0 _ _ := Blk.at (Blk.ext B0_0 E13) (hG14.block b0_0 (by omega) (fun q => by have := (hO12.lt q).1; omega))
        replace B0_1 : Blk w14 b0_1 _ _ := Blk.at (Blk.ext B0_1 E13) (hG14.block b0_1 (by omega) (fun q => by have := (hO12.lt q).1; omega))
        obtain ⟨A14, c14, rfl, hc14, hr14⟩ := hO14.read; refine op rfl (r_assignV (v := .slice A14 ([] ++ H.map Rv.d ++ [ds]).length c14) rfl) ?_; refine WL_nil ?_; refine W_seq ?_; refine W_region ?_; refine op rfl (r_moveV (v := .slice A11 ([] ++ H.map Rv.t ++ [u]).length c11) rfl) ?_; refine op rfl (r_moveV (v := .slice A14 ([] ++ H.map Rv.d ++ [ds]).length c14) rfl) ?_; refine op rfl (r_build (cs := [.slice A11 ([] ++ H.map Rv.t ++ [u]).length c11, .slice A14 ([] ++ H.map Rv.d ++ [ds]).length c14]) Tryd.lay79 (List.forall_mem_cons.2 ⟨rfl, List.forall_mem_cons.2 ⟨rfl, fun _ h => absurd h List.not_mem_nil⟩⟩) rfl rfl) ?_; refine op rfl (r_moveV (v := .slice A11 ([] ++ H.map Rv.t ++ [u]).length c11) rfl) ?_; refine op rfl (r_len_slice rfl Tryd.underlying77) ?_; refine op rfl (r_sub' (r := (H.length : Int)) rfl rfl (by simp only [List.length_append, List.length_nil, List.length_singleton]; rw [wrap_i64 (by omega) (by omega)]; omega)) ?_; refine op_storeRow rfl rfl Tryd.sz79 B0_1 rfl rfl ?_; intro w14_6 C14_6 BB14_6; replace B0_0 := Chg.blk C14_6 B0_0 hNb0_0_0_1; replace hX := hX.chg C14_6 hG0_1; replace B0_1 := BB14_6; refine op rfl (r_assignV (v := .int _ _) rfl) ?_; refine op rfl (r_assignV (v := .int _ _) rfl) ?_; refine WL_nil ?_; refine W_ret (finX_ret ?_); refine fin_cell2 rfl B0_1 Tryd.underlying79 rfl Tryd.sz79 ?_
        first
          | (rw [c_nil (by omega)]; exact ⟨_, rfl, _, rfl, hun _ hX, hX⟩)
          | (rw [c_full (by omega) (by omega)]; exact ⟨_, rfl, _, rfl, hun _ hX, hX⟩)
          | (rw [c_err (by omega) (by omega) ht31]; exact ⟨_, rfl, _, rfl, hun _ hX, hX⟩)
          | (rw [c_ok (by omega) (by omega) hz0, ← hu]
             have hl1 : ([] ++ H.map Rv.t ++ [u]).length = (H ++ [(⟨ds, u⟩ : Rv)]).length := by simp
             have hl2 : ([] ++ H.map Rv.d ++ [ds]).length = (H ++ [(⟨ds, u⟩ : Rv)]).length := by simp
             have he1 : [] ++ H.map Rv.t ++ [u] = (H ++ [(⟨ds, u⟩ : Rv)]).map Rv.t := by simp
             have he2 : [] ++ H.map Rv.d ++ [ds] = (H ++ [(⟨ds, u⟩ : Rv)]).map Rv.d := by simp
             have hs15 := C14_6.size
             have hl0 : w.heap.size ≤ b0_1 := by assumption
             refine ⟨_, rfl, _, rfl, ⟨A11, c11, A14, c14, by rw [hl1, hl2], by rw [← hl1]; exact hc11, by rw [← hl2]; exact hc14, ?_, ?_⟩, hX⟩
             · rw [← he1]; refine hr11'.keep (fun b hb => ?_) (fun b hb => hb.imp_right (fun q => ⟨by have := q.2.1; omega, by have := q.2.2; omega⟩)); have h9 := hG11' b hb
               rw [C14_6.block b (by omega) (fun q => by
                 subst q
                 rcases hb with q | q
                 · have := hG _ q; omega
                 · have := q.2.1; omega)]
               exact hE1114 b h9
             · rw [← he2]; refine hr14.keep (fun b hb => ?_) (fun b hb => ?_)
               · refine C14_6.block b ?_ (fun q => ?_)
                 · rcases hb with q | q
                   · have := hG11' b q; omega
                   · exact (hO14.lt q).2
                 · subst q
                   rcases hb with (q | q) | q
                   · have := hG _ q; omega
                   · have := q.2.1; omega
                   · have := (hO14.lt q).1; omega
               · rcases hb with (q | q) | q
                 · exact Or.inl q
                 · exact Or.inr ⟨by have := q.2.1; omega, by have := q.2.2; omega⟩
                 · have := hO14.lt q; exact Or.inr ⟨by have := hX11.size; omega, by omega⟩)
end Go.Proofs.YtmedmajdoecjfaaDoor
