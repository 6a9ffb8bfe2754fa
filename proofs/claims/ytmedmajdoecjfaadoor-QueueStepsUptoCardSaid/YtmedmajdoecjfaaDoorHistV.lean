/-
  The walks of package history: what is read.
-/
import Derived.Test.YtmedmajdoecjfaaDoorFacts
import Derived.Test.YtmedmajdoecjfaaDoorHistW
import Derived.Test.YtmedmajdoecjfaaDoorGenB
namespace Go.Proofs.YtmedmajdoecjfaaDoor
open Go Go.Eng Go.RowKit Go.Proofs
set_option linter.unusedVariables false
set_option linter.unusedSimpArgs false
set_option maxHeartbeats 2000000

abbrev strT : Ty (List UInt8) := Ty.scalar (fun l => Value.string (str l)) (fun l => l.length ≤ big) (fun _ => rfl)
theorem rev_cells {w : World} {F : Nat → Prop} {r : Rv} {cs : List Value} (h : revT.R w F r cs) : ∃ Ad cd At ct, cs = [.slice Ad r.d.length cd, .slice At r.t.length ct] ∧ r.d.length ≤ cd ∧ r.t.length ≤ ct ∧ dlT.Row w F Ad r.d ∧ fiT.Row w F At r.t := by
  obtain ⟨c1, c2, rfl, ⟨Ad, cd, rfl, h1, h2, h3⟩, At, ct, rfl, h4, h5, h6⟩ := h; exact ⟨Ad, cd, At, ct, rfl, h1, h4, h3, h6⟩
def inR (H : List Rv) (r : Int) : Prop := 0 ≤ r ∧ r < H.length
instance (H : List Rv) (r : Int) : Decidable (inR H r) := by unfold inR; exact inferInstance
def errR (H : List Rv) (r : Int) : Int := if inR H r then 0 else 7
def getR (H : List Rv) (r : Int) : Rv := if h : inR H r then H[r.toNat]'(by have := h.1; have := h.2; omega) else ⟨[], []⟩
theorem apply_nil {t : Tree} (h : rightT t) : applyT t [] = (0, t) := by
  refine ap0 rfl ?_ h; rintro (q | ⟨x, hx, q⟩)
  · have := h.1; omega
  · obtain ⟨i, hi, rfl⟩ := List.mem_iff_getElem.1 hx; have := (h.2.1 i hi).2.2
    omega
theorem getR_ok {H : List Rv} (h : ∀ r ∈ H, RvOk r) (r : Int) : (getR H r).t.length ≤ 1000 ∧ (getR H r).d.length * 48 ≤ 140737488355328 ∧ applyT (getR H r).t [] = (0, (getR H r).t) := by
  unfold getR
  split
  · have hr := h _ (List.getElem_mem (l := H) (n := r.toNat) (by rename_i q; have := q.1; have := q.2; omega)); exact ⟨hr.1.1, hr.2, apply_nil hr.1⟩
  · refine ⟨by simp, by simp, apply_nil ⟨by simp, fun i h => absurd h (by simp), fun ⟨x, hx, _⟩ => by simp at hx⟩⟩
theorem getR_out {H : List Rv} {r : Int} (h : errR H r ≠ 0) : getR H r = ⟨[], []⟩ ∧ errR H r = 7 := by
  unfold errR at h ⊢
  unfold getR
  split at h
  · exact absurd rfl h
  · rename_i q
    rw [dif_neg q, if_neg q]; exact ⟨rfl, rfl⟩
theorem head_spec {p : Nat} {Z : Nat → Prop} {w : World} {H : List Rv} (hH : Hist p Z w H) :
    Calls Tryd.prog 17 #[hp p] w (fun en w' => ∃ v, en = .returned v ∧ v = .int .i64 ((H.length : Int) - 1) ∧ Ext w w') := by
  obtain ⟨m, v, F, h, hZ⟩ := hH; obtain ⟨A, cap, rfl, hc, -⟩ := h.own.read; have hbp := h.bp; have hsm := h.sm; refine calls' (n := 11) (rs := #[.tmp 2]) (l := [hp p]) Tryd.func17 rfl rfl rfl rfl rfl ?_; have hX := Ext.refl w; refine W_seq ?_; refine W_region ?_; refine op rfl (r_assignV (v := .int _ _) rfl) ?_; refine WL_nil ?_; refine W_seq ?_; refine W_seq ?_; refine W_region ?_; refine op rfl (r_moveV (v := .pointer _) rfl) ?_; refine op rfl (rp_eql rfl rfl Tryd.underlying28) ?_; refine WL_nil ?_; refine W_ifp rfl (fun ht4 => ?_) (fun ht4 => ?_)
  · exact ht4.elim
  · refine W_skip ?_; refine W_seq ?_; refine W_region ?_; refine op rfl (r_moveV (v := .pointer _) rfl) ?_; refine op rfl (r_nilCheck rfl) ?_; refine op rfl (r_fieldAddr rfl Tryd.fld105_0 rfl) ?_; refine op rfl (r_load (v := .slice A H.length cap) rfl Tryd.underlying102 rfl (Blk.cell hbp rfl)) ?_; refine op rfl (r_len_slice rfl Tryd.underlying102) ?_; refine op rfl (r_sub' (r := (H.length : Int) - 1) rfl rfl (by rw [wrap_i64 (by omega) (by omega)])) ?_; refine op rfl (r_assignV (v := .int _ _) rfl) ?_; refine WL_nil ?_; refine W_ret (finX_ret ?_); refine fin1 ?_; exact ⟨_, rfl, rfl, hX⟩
theorem last_spec {p : Nat} {Z : Nat → Prop} {w : World} {H : List Rv} (hH : Hist p Z w H) (s : List UInt8) :
    Calls Tryd.prog 18 #[hp p, .string (str s)] w (fun en w' => ∃ v, en = .returned v ∧ v = .int .i64 (lastR H s : Nat) ∧ Ext w w') := by
  obtain ⟨m, v, F, h, hZ⟩ := hH; have hbp := h.bp; obtain ⟨f, hm, hf⟩ := h.map; refine calls' (n := 13) (rs := #[.tmp 4]) (l := [hp p, .string (str s)]) Tryd.func18 rfl rfl rfl rfl rfl ?_; have hX := Ext.refl w; refine W_seq ?_; refine W_region ?_; refine op rfl (r_assignV (v := .int _ _) rfl) ?_; refine WL_nil ?_; refine W_seq ?_; refine W_seq ?_; refine W_region ?_; refine op rfl (r_moveV (v := .pointer _) rfl) ?_; refine op rfl (rp_eql rfl rfl Tryd.underlying28) ?_; refine WL_nil ?_; refine W_ifp rfl (fun ht6 => ?_) (fun ht6 => ?_)
  · exact ht6.elim
  · refine W_skip ?_; refine W_seq ?_; refine W_region ?_; refine op rfl (r_moveV (v := .pointer _) rfl) ?_; refine op rfl (r_nilCheck rfl) ?_; refine op rfl (r_fieldAddr rfl Tryd.fld105_1 rfl) ?_; refine op rfl (r_load (v := .map (some m)) rfl Tryd.underlying103 rfl (Blk.cell hbp rfl)) ?_; refine op rfl (r_moveV (v := .string _) rfl) ?_; refine op rfl (rk_lookupV rfl rfl Tryd.underlying103 Tryd.underlying9 (by trivial) Tryd.zero3 (hm.ext hX) (hf s)) ?_; refine op rfl (r_assignV (v := .int _ _) rfl) ?_; refine WL_nil ?_; refine W_ret (finX_ret ?_); refine fin1 ?_; exact ⟨_, rfl, rfl, hX⟩
theorem at_spec {p : Nat} {Z : Nat → Prop} {w : World} {H : List Rv} (hH : Hist p Z w H) (r : Int) :
    Calls Tryd.prog 52 #[hp p, .int .i64 r] w (fun en w' => ∃ v, en = .returned v ∧ ∃ c1 c2, v = .tuple #[.agg #[c1, c2], .int .i64 (errR H r)] ∧ revT.R w' (old w') (getR H r) [c1, c2] ∧ Ext w w') := by
  obtain ⟨m, v, F, h, hZ⟩ := hH; have hlt := h.lt; obtain ⟨A, cap, rfl, hc, hrow⟩ := h.own.read; have hbp := h.bp; have hrow' : revT.Row w (old w) A H := hrow.keep (fun _ _ => rfl) (fun b hb => hb.elim (fun q => hlt b (Or.inr (Or.inr (Or.inr q)))) (fun q => hlt b (Or.inr (Or.inr (Or.inl q)))))
  have hz : ∀ w', revT.R w' (old w') ⟨[], []⟩ [.slice none 0 0, .slice none 0 0] := fun w' => ⟨_, _, rfl, ⟨none, 0, rfl, Nat.le_refl _, Nat.zero_le _, Or.inl rfl⟩, none, 0, rfl, Nat.le_refl _, Nat.zero_le _, Or.inl rfl⟩
  refine calls' (n := 30) (rs := #[.cell 4 101, .tmp 5]) (l := [hp p, .int .i64 r]) Tryd.func52 rfl rfl rfl rfl rfl ?_; have hX := Ext.refl w; refine W_seq ?_; refine W_region ?_; refine op_alloc rfl Tryd.zero101 ?_; intro w0_0 b0_0 E0_0 B0_0 L0_0
  have hG0_0 : w.heap.size ≤ b0_0 := by have := hX.size; omega
  have hNp_0_0 : p ≠ b0_0 := by have := Blk.lt hbp; omega
  replace hbp := Blk.ext hbp E0_0; replace hX := hX.trans E0_0; refine op rfl (r_assignV (v := .int _ _) rfl) ?_; refine WL_nil ?_; refine W_seq ?_; refine W_block ?_; refine W_seq ?_; refine W_region ?_; refine op rfl (r_moveV (v := .pointer _) rfl) ?_; refine op rfl (rp_eql rfl rfl Tryd.underlying28) ?_; refine op rfl (r_assignV (v := .bool _) rfl) ?_; refine WL_nil ?_; refine W_ifp rfl (fun ht6 => ?_) (fun ht6 => ?_)
  · exact ht6.elim
  · refine W_seq ?_; refine W_region ?_; refine op rfl (r_moveV (v := .int _ _) rfl) ?_; refine op rfl (r_lss rfl rfl) ?_; refine op_split rfl (r_moveV (v := .bool (decide _)) rfl) (fun hg13 => ?_) (fun hg13 => ?_)
    · refine opG_no rfl rfl rfl rfl rfl ?_; refine opG_no rfl rfl rfl rfl rfl ?_; refine opG_no rfl rfl rfl rfl rfl ?_; refine opG_no rfl rfl rfl rfl rfl ?_; refine opG_no rfl rfl rfl rfl rfl ?_; refine opG_no rfl rfl rfl rfl rfl ?_; refine opG_no rfl rfl rfl rfl rfl ?_; refine op rfl (r_pickTV (v := .bool _) rfl rfl) ?_; refine op rfl (r_assignV (v := .bool _) rfl) ?_; refine WL_nil ?_; refine W_then rfl ?_; refine W_seq ?_; refine W_region ?_; refine op rfl (r_build (cs := [.slice none 0 0, .slice none 0 0]) Tryd.lay101 (by intro q hq; cases hq) rfl rfl) ?_; refine op_storeRow rfl rfl Tryd.sz101 B0_0 rfl rfl ?_; intro w4_1 C4_1 BB4_1; replace hbp := Chg.blk C4_1 hbp hNp_0_0; replace hX := hX.chg C4_1 hG0_0; replace B0_0 := BB4_1; refine op rfl (r_assignV (v := .int _ _) rfl) ?_; refine WL_nil ?_; refine W_ret (blk_ret (finX_ret ?_)); refine fin_cell1 rfl B0_0 Tryd.underlying101 rfl Tryd.sz101 ?_
      first
        | (rw [hget, herr]; exact ⟨_, rfl, _, _, rfl, hz _, hX⟩)
        | (rw [hget, herr]; exact ⟨_, rfl, _, _, rfl, revT.ext hx hX, hX⟩)
        | (have hnin : ¬ inR H r := by unfold inR; omega
           have hget : getR H r = ⟨[], []⟩ := by unfold getR; rw [dif_neg hnin]
           have herr : errR H r = 7 := by unfold errR; rw [if_neg hnin]
           rw [hget, herr]; exact ⟨_, rfl, _, _, rfl, hz _, hX⟩)
    · refine opG_yes rfl rfl rfl rfl rfl (r_moveV (v := .int _ _) rfl) ?_; refine opG_yes rfl rfl rfl rfl rfl (r_moveV (v := .pointer _) rfl) ?_; refine opG_yes rfl rfl rfl rfl rfl (r_nilCheck rfl) ?_; refine opG_yes rfl rfl rfl rfl rfl (r_fieldAddr rfl Tryd.fld105_0 rfl) ?_; refine opG_yes rfl rfl rfl rfl rfl (r_load (v := .slice A H.length cap) rfl Tryd.underlying102 rfl (Blk.cell hbp rfl)) ?_; refine opG_yes rfl rfl rfl rfl rfl (r_len_slice rfl Tryd.underlying102) ?_; refine opG_yes rfl rfl rfl rfl rfl (r_geq rfl rfl) ?_; refine op rfl (r_pickFV (v := .bool _) rfl rfl) ?_; refine op rfl (r_assignV (v := .bool _) rfl) ?_; refine WL_nil ?_; refine W_ifp rfl (fun ht10 => ?_) (fun ht10 => ?_)
      · have hnin : ¬ inR H r := by unfold inR; omega
        have hget : getR H r = ⟨[], []⟩ := by unfold getR; rw [dif_neg hnin]
        have herr : errR H r = 7 := by unfold errR; rw [if_neg hnin]
        refine W_seq ?_; refine W_region ?_; refine op rfl (r_build (cs := [.slice none 0 0, .slice none 0 0]) Tryd.lay101 (by intro q hq; cases hq) rfl rfl) ?_; refine op_storeRow rfl rfl Tryd.sz101 B0_0 rfl rfl ?_; intro w4_1 C4_1 BB4_1; replace hbp := Chg.blk C4_1 hbp hNp_0_0; replace hX := hX.chg C4_1 hG0_0; replace B0_0 := BB4_1; refine op rfl (r_assignV (v := .int _ _) rfl) ?_; refine WL_nil ?_; refine W_ret (blk_ret (finX_ret ?_)); refine fin_cell1 rfl B0_0 Tryd.underlying101 rfl Tryd.sz101 ?_
        first
          | (rw [hget, herr]; exact ⟨_, rfl, _, _, rfl, hz _, hX⟩)
          | (rw [hget, herr]; exact ⟨_, rfl, _, _, rfl, revT.ext hx hX, hX⟩)
          | (have hnin : ¬ inR H r := by unfold inR; omega
             have hget : getR H r = ⟨[], []⟩ := by unfold getR; rw [dif_neg hnin]
             have herr : errR H r = 7 := by unfold errR; rw [if_neg hnin]
             rw [hget, herr]; exact ⟨_, rfl, _, _, rfl, hz _, hX⟩)
      · have hin : inR H r := by unfold inR; omega
        obtain ⟨i, hi, hri⟩ : ∃ i : Nat, i < H.length ∧ r = i := ⟨r.toNat, by have := hin.1; have := hin.2; omega, by have := hin.1; omega⟩; subst hri; obtain ⟨g, off, xs, hA, _, hx, hcell⟩ := hrow'.cells hi; obtain ⟨Ad, cd, At, ct, rfl, -⟩ := rev_cells hx
        have hget : getR H (i : Int) = H[i] := by unfold getR; rw [dif_pos hin]; rfl
        have herr : errR H (i : Int) = 0 := by unfold errR; rw [if_pos hin]
        refine W_skip ?_; refine W_seq ?_; refine W_region ?_; refine op rfl (r_moveV (v := .pointer _) rfl) ?_; refine op rfl (r_nilCheck rfl) ?_; refine op rfl (r_fieldAddr rfl Tryd.fld105_0 rfl) ?_; refine op rfl (r_load (v := .slice A H.length cap) rfl Tryd.underlying102 rfl (Blk.cell hbp rfl)) ?_; refine op rfl (r_moveV (v := .int _ _) rfl) ?_; refine op rfl (r_indexAddrK (by rw [← hA]; rfl) rfl Tryd.underlying102 Tryd.sz101 hi) ?_; refine op rfl (r_load_agg (cs := [.slice Ad H[i].d.length cd, .slice At H[i].t.length ct]) rfl Tryd.underlying101 rfl Tryd.sz101 rfl (ext_row hX rfl hcell)) ?_; refine op_storeRow rfl rfl Tryd.sz101 B0_0 rfl rfl ?_; intro w5_7 C5_7 BB5_7; replace hbp := Chg.blk C5_7 hbp hNp_0_0; replace hX := hX.chg C5_7 hG0_0; replace B0_0 := BB5_7; refine op rfl (r_assignV (v := .int _ _) rfl) ?_; refine WL_nil ?_; refine W_ret (finX_ret ?_); refine fin_cell1 rfl B0_0 Tryd.underlying101 rfl Tryd.sz101 ?_
        first
          | (rw [hget, herr]; exact ⟨_, rfl, _, _, rfl, hz _, hX⟩)
          | (rw [hget, herr]; exact ⟨_, rfl, _, _, rfl, revT.ext hx hX, hX⟩)
          | (have hnin : ¬ inR H r := by unfold inR; omega
             have hget : getR H r = ⟨[], []⟩ := by unfold getR; rw [dif_neg hnin]
             have herr : errR H r = 7 := by unfold errR; rw [if_neg hnin]
             rw [hget, herr]; exact ⟨_, rfl, _, _, rfl, hz _, hX⟩)
theorem histAt_spec {p : Nat} {Z : Nat → Prop} {w : World} {H : List Rv} (hH : Hist p Z w H) (r : Int) :
    Calls Tryd.prog 23 #[hp p, .int .i64 r] w (fun en w' => ∃ v, en = .returned v ∧ ∃ v1, v = .tuple #[v1, .int .i64 (errR H r)] ∧ OwnT w w' v1 (getR H r).t ∧ Ext w w') := by
  have hok : ∀ x ∈ H, RvOk x := let ⟨m, v, F, h, _⟩ := hH; h.ok
  obtain ⟨hk1, hk2, hk3⟩ := getR_ok hok r; refine calls' (n := 22) (rs := #[.tmp 4, .tmp 5]) (l := [hp p, .int .i64 r]) Tryd.func23 rfl rfl rfl rfl rfl ?_; have hX := Ext.refl w; refine W_seq ?_; refine W_region ?_; refine op rfl (r_assignV (v := .slice _ _ _) rfl) ?_; refine op rfl (r_assignV (v := .int _ _) rfl) ?_; refine WL_nil ?_; refine W_seq ?_; refine W_region ?_; refine op rfl (r_moveV (v := .pointer _) rfl) ?_; refine op rfl (r_moveV (v := .int _ _) rfl) ?_; refine opCv rfl (r_call Tryd.func52 Tryd.nm52 rfl) (at_spec (hH.ext hX) r) ?_; rintro v2 w2 ⟨c1, c2, rfl, hR, hE⟩; replace hX := hX.trans hE; obtain ⟨Ad, cd, At, ct, hcs, -, -, -, htr⟩ := rev_cells hR
  simp only [List.cons.injEq, and_true] at hcs
  obtain ⟨rfl, rfl⟩ := hcs; have hX2 := hX
  have hap : ∀ W, Ext w2 W → Calls Tryd.prog 44 #[.slice At (getR H r).t.length ct, .slice none 0 0] W (fun en w' => ∃ v, en = .returned v ∧ ∃ v1, v = .tuple #[v1, .int .i64 0] ∧ OwnT W w' v1 (getR H r).t ∧ Ext W w') := fun W he => by
    have := apply_spec (cap := ct) (Ad := none) (cd := 0) (ds := []) (w := W) (G := old W) (fun b hb => hb) (htr.ext he) (Or.inl rfl) (by simp; omega)
    rw [hk3] at this
    exact this
  refine op rfl (r_moveV (v := .tuple #[.agg #[.slice Ad (getR H r).d.length cd, .slice At (getR H r).t.length ct], .int .i64 (errR H r)]) rfl) ?_; refine op rfl (r_extract (vs := [.agg #[.slice Ad (getR H r).d.length cd, .slice At (getR H r).t.length ct], .int .i64 (errR H r)]) rfl rfl) ?_; refine op rfl (r_extract (vs := [.agg #[.slice Ad (getR H r).d.length cd, .slice At (getR H r).t.length ct], .int .i64 (errR H r)]) rfl rfl) ?_; refine op_alloc rfl Tryd.zero101 ?_; intro w1_6 b1_6 E1_6 B1_6 L1_6
  have hG1_6 : w.heap.size ≤ b1_6 := by have := hX.size; omega
  replace hX := hX.trans E1_6; refine op_storeRow rfl rfl Tryd.sz101 B1_6 rfl rfl ?_; intro w1_7 C1_7 BB1_7; replace hX := hX.chg C1_7 hG1_6; replace B1_6 := BB1_7; refine op rfl (r_assignV (v := .int .i64 (errR H r)) rfl) ?_; refine WL_nil ?_; refine W_seq ?_; refine W_seq ?_; refine W_region ?_; refine op rfl (r_moveV (v := .int .i64 (errR H r)) rfl) ?_; refine op rfl (r_neq rfl rfl) ?_; refine WL_nil ?_; refine W_ifp rfl (fun ht15 => ?_) (fun ht15 => ?_)
  · refine W_seq ?_; refine W_region ?_; refine op rfl (r_moveV (v := .int .i64 (errR H r)) rfl) ?_; refine op rfl (r_assignV (v := .slice _ _ _) rfl) ?_; refine op rfl (r_assignV (v := .int .i64 (errR H r)) rfl) ?_; refine WL_nil ?_; refine W_ret (finX_ret ?_); refine fin2 ?_
    first
      | (obtain ⟨q1, q2⟩ := getR_out ht15
         rw [q1]; exact ⟨_, rfl, _, rfl, .nil, hX⟩)
      | (have he0 : errR H r = 0 := Classical.not_not.1 ht15
         rw [he0]; exact ⟨_, rfl, _, rfl, hO, hX⟩)
  · refine W_skip ?_; refine W_seq ?_; refine W_region ?_; refine op rfl (r_fieldAddr rfl Tryd.fld101_1 rfl) ?_; refine op rfl (r_load (v := .slice At (getR H r).t.length ct) rfl Tryd.underlying23 rfl (Blk.cell B1_6 rfl)) ?_; have hXl := hX.size; refine opCv rfl (r_call Tryd.func44 Tryd.nm44 rfl) (hap _ (Chg.ext E1_6 (by omega) C1_7)) ?_; rintro v5 w5 ⟨v6, rfl, hO, hE⟩; replace B1_6 := Blk.ext B1_6 hE; replace hX := hX.trans hE; replace hO := OwnT.low hO hXl; refine op rfl (r_extract (vs := [v6, .int .i64 0]) rfl rfl) ?_; refine op rfl (r_extract (vs := [v6, .int .i64 0]) rfl rfl) ?_; refine op rfl (r_assignV (v := v6) rfl) ?_; refine op rfl (r_assignV (v := .int .i64 0) rfl) ?_; refine WL_nil ?_; refine W_ret (finX_ret ?_); refine fin2 ?_
    first
      | (obtain ⟨q1, q2⟩ := getR_out ht15
         rw [q1]; exact ⟨_, rfl, _, rfl, .nil, hX⟩)
      | (have he0 : errR H r = 0 := Classical.not_not.1 ht15
         rw [he0]; exact ⟨_, rfl, _, rfl, hO, hX⟩)
def sinceR (H : List Rv) (r : Int) (ss : List (List UInt8)) : List (List UInt8) := ss.filter fun s => decide (r < lastR H s)
theorem since_spec {p : Nat} {Z : Nat → Prop} {w : World} {H : List Rv} (hH : Hist p Z w H) (r : Int) {As : Option Addr} {cs : Nat} {ss : List (List UInt8)} (hrow : strT.Row w (old w) As ss) (hl : ss.length * 16 ≤ 140737488355328) :
    Calls Tryd.prog 69 #[hp p, .int .i64 r, .slice As ss.length cs] w (fun en w' => ∃ v, en = .returned v ∧ Eng.Own strT w' nobody w.heap.size 9 v (sinceR H r ss) ∧ Ext w w') := by
  have hH0 := hH; obtain ⟨m, v, F, h, hZ⟩ := hH; have hbp := h.bp; refine calls' (n := 29) (rs := #[.tmp 6]) (l := [hp p, .int .i64 r, .slice As ss.length cs]) Tryd.func69 rfl rfl rfl rfl rfl ?_; have hX := Ext.refl w; refine W_seq ?_; refine W_region ?_; refine op rfl (r_assignV (v := .slice _ _ _) rfl) ?_; refine WL_nil ?_; refine W_scope ?_; refine W_seq ?_; refine W_seq ?_; refine W_region ?_; refine op rfl (r_moveV (v := .pointer _) rfl) ?_; refine op rfl (rp_eql rfl rfl Tryd.underlying28) ?_; refine WL_nil ?_; refine W_ifp rfl (fun ht11 => ?_) (fun ht11 => ?_)
  · exact ht11.elim
  · refine W_skip ?_; refine W_seq ?_; refine W_region ?_; refine op rfl (r_assignV (v := .slice _ _ _) rfl) ?_; refine WL_nil ?_; refine W_seq ?_; refine W_label ?_; refine W_seq ?_; refine W_seq ?_; refine W_region ?_; refine op rfl (r_moveV (v := .slice _ _ _) rfl) ?_; refine op rfl (r_len_slice rfl Tryd.underlying132) ?_; refine op rfl (r_moveV (v := .int _ _) rfl) ?_; refine WL_nil ?_; refine W_block ?_; refine W_loop [7, 9, 14, 15, 16, 17, 18, 19, 20, 21, 22, 23, 24, 25, 26, 27] (fun q e' w' => ∃ (i : Nat) (v : Value), q = ss.length - i ∧ i ≤ ss.length ∧ e' 14 = .int .i64 i ∧ e' 7 = v ∧ Eng.Own strT w' nobody w.heap.size 9 v (sinceR H r (ss.take i)) ∧ Ext w w') (ss.length) ?_ ?_
    · exact ⟨0, _, by omega, by omega, rfl, rfl, .nil, hX⟩
    intro k g w' hI; obtain ⟨i, v, hq, hi, h14, h7, hO, hX'⟩ := hI; clear hX; have hX := hX'; refine W_set (i := 14) h14 ?_; refine W_set (i := 7) h7 ?_; refine W_seq ?_; refine W_region ?_; refine op rfl (r_lss rfl rfl) ?_; refine WL_nil ?_; refine W_seq ?_; refine W_ifp rfl (fun ht15 => ?_) (fun ht15 => ?_)
    · have hlt : i < ss.length := by omega
      obtain ⟨g, off, hA, _, hsl, hcell⟩ := hrow.cell hlt; refine W_skip ?_; refine W_seq ?_; refine W_block ?_; refine W_seq ?_; refine W_region ?_; refine op rfl (r_indexAddr1 rfl rfl hA Tryd.underlying132 Tryd.sz9 (by omega) (by omega)) ?_; refine op rfl (r_load (v := .string (str ss[i])) rfl Tryd.underlying9 rfl (ext_cell hX hcell)) ?_; refine op rfl (r_assignV (v := .string _) rfl) ?_; refine WL_nil ?_; refine W_seq ?_; refine W_seq ?_; refine W_region ?_; refine op rfl (r_moveV (v := .pointer _) rfl) ?_; refine op rfl (r_moveV (v := .string _) rfl) ?_; refine opCv rfl (r_call Tryd.func18 Tryd.nm18 rfl) (last_spec (hH0.ext hX) ss[i]) ?_; rintro v7 w7 ⟨rfl, hE⟩; replace hX := hX.trans hE; replace hO := own_fext hO hE; refine op rfl (r_moveV (v := .int _ _) rfl) ?_; refine op rfl (r_leq rfl rfl) ?_; refine WL_nil ?_; refine W_ifp rfl (fun ht22 => ?_) (fun ht22 => ?_)
      · have hnl : sinceR H r (ss.take (i + 1)) = sinceR H r (ss.take i) := by
          unfold sinceR
          rw [List.take_succ_eq_append_getElem hlt, List.filter_append]
          have : decide (r < (lastR H ss[i] : Nat)) = false := by simpa using ht22
          simp [this]
        refine W_exit (blk_hit ?_); refine W_region ?_; refine op rfl (r_add' rfl rfl (wrap_i64 (by omega) (by omega))) ?_; refine op rfl (r_moveV (v := .int _ _) rfl) ?_; refine WL_nil ?_; refine ⟨?_, by repeat (first | with_reducible exact Out.refl _ _ | with_reducible exact Out.mix | refine Out.put rfl ?_ | refine Out.mixin rfl ?_ | exact Out.refl _ _ | exact Out.mix)⟩
        first
          | exact ⟨ss.length - (i + 1), by omega, i + 1, _, rfl, by omega, rfl, rfl, by rw [hnl]; exact O8_3, hX⟩
          | exact ⟨ss.length - (i + 1), by omega, i + 1, _, rfl, by omega, rfl, rfl, by rw [hnl]; exact hO, hX⟩
      · have hnl : sinceR H r (ss.take (i + 1)) = sinceR H r (ss.take i) ++ [ss[i]] := by
          unfold sinceR
          rw [List.take_succ_eq_append_getElem hlt, List.filter_append]
          have : decide (r < (lastR H ss[i] : Nat)) = true := by simpa using ht22
          simp [this]
        refine W_skip ?_; refine W_region ?_; refine op rfl (r_moveV (v := v) rfl) ?_; refine op rfl (r_moveV (v := .string _) rfl) ?_; refine op_newS rfl (r_buildSlice (vs := [.string (str ss[i])]) Tryd.underlying132 Tryd.sz9 Tryd.zero9 rfl rfl rfl) ?_; intro w8_2 b8_2 E8_2 B8_2 L8_2; replace hX := hX.trans E8_2; have hsz := hl; have hft := List.length_filter_le (fun s => decide (r < lastR H s)) (ss.take i)
        have hft2 : (sinceR H r (ss.take i)).length ≤ i := by unfold sinceR; rw [List.length_take] at hft; omega
        refine op_app (v := v) flat_scalar rfl rfl rfl Tryd.underlying132 Tryd.sz9 Tryd.by9 Tryd.zero9 rfl (hX) (own_fext hO E8_2) ((row_one B8_2 (by omega) : strT.Row w8_2 (old w8_2) (some ⟨b8_2, 0, none⟩) [ss[i]])) (by simp only [List.length_singleton]; omega) (by simp only [List.length_singleton]; omega) ?_; intro v8_3 w8_3 O8_3 X8_3 G8_3; replace hX := X8_3; refine op rfl (r_assignV (v := v8_3) rfl) ?_; refine WL_nil ?_; refine W_region ?_; refine op rfl (r_add' rfl rfl (wrap_i64 (by omega) (by omega))) ?_; refine op rfl (r_moveV (v := .int _ _) rfl) ?_; refine WL_nil ?_; refine ⟨?_, by repeat (first | with_reducible exact Out.refl _ _ | with_reducible exact Out.mix | refine Out.put rfl ?_ | refine Out.mixin rfl ?_ | exact Out.refl _ _ | exact Out.mix)⟩
        first
          | exact ⟨ss.length - (i + 1), by omega, i + 1, _, rfl, by omega, rfl, rfl, by rw [hnl]; exact O8_3, hX⟩
          | exact ⟨ss.length - (i + 1), by omega, i + 1, _, rfl, by omega, rfl, rfl, by rw [hnl]; exact hO, hX⟩
    · obtain rfl : i = ss.length := by omega
      rw [List.take_length] at hO
      refine W_exit (blk_hit ?_); refine W_seq ?_; refine W_region ?_; refine op rfl (r_moveV (v := v) rfl) ?_; refine op rfl (r_assignV (v := v) rfl) ?_; refine WL_nil ?_; refine W_ret (scp_ret (finX_ret ?_)); refine fin1 ?_; exact ⟨_, rfl, hO, hX⟩
end Go.Proofs.YtmedmajdoecjfaaDoor
