/-
  A copy knows nothing of what it was made of, and is the same: the walk.
-/
import Derived.Test.YtkdcmdcdjnmkaaaDoorFacts
import Derived.Test.YtkdcmdcdjnmkaaaDoorHistC
import Derived.Test.YtkdcmdcdjnmkaaaDoorHistSame
import Derived.Test.YtkdcmdcdjnmkaaaDoorHistQ
namespace Go.Proofs.YtkdcmdcdjnmkaaaDoor
open Go Go.Eng Go.RowKit Go.Proofs
set_option linter.unusedVariables false
set_option linter.unusedSimpArgs false
set_option maxHeartbeats 1000000
set_option maxRecDepth 20000

/-- What has grown out of a history. -/
def Grown (H K : List Rv) (s : List UInt8) : Prop := H.length ≤ K.length ∧ (∀ r : Nat, r < H.length → K[r]? = H[r]?) ∧ lastR H s ≤ lastR K s
theorem grown_commit {H K : List Rv} {s : List UInt8} (h : Grown H K s) (h1 : 1 ≤ H.length) (ds : List Dl) : Grown H (commitR K ds).1 s := by
  rcases commit_cases K ds with ⟨q, _⟩ | ⟨u, q, _⟩
  · rw [q]; exact h
  · rw [q]
    obtain ⟨a, b, c⟩ := h
    refine ⟨by simp; omega, fun r hr => ?_, ?_⟩
    · rw [List.getElem?_append_left (by omega)]; exact b r hr
    · rw [lastR_snoc]
      split
      · have := lastR_lt s h1; omega
      · exact c
theorem grown_get {H K : List Rv} {s : List UInt8} (h : Grown H K s) (h1 : 1 ≤ H.length) : getR K ((H.length : Int) - 1) = getR H ((H.length : Int) - 1) ∧ errR K ((H.length : Int) - 1) = 0 ∧ errR H ((H.length : Int) - 1) = 0 := by
  have hi : (H.length : Int) - 1 = ((H.length - 1 : Nat) : Int) := by omega
  rw [hi]
  have h2 := getR_at (H := H) (r := H.length - 1) (by omega)
  have h3 := getR_at (H := K) (r := H.length - 1) (by have := h.1; omega)
  refine ⟨?_, h3.2, h2.2⟩
  rw [h2.1, h3.1]
  have := h.2.1 (H.length - 1) (by omega)
  rw [List.getElem?_eq_getElem (by have := h.1; omega), List.getElem?_eq_getElem (by omega)] at this
  exact Option.some.inj this
theorem historyCopies_walk {A : Option Addr} {cap : Nat} {t : Tree} {Al : Option Addr} {cl : Nat} {l : List (List Dl)} {Am : Option Addr} {cm : Nat} {m : List (List Dl)} {s : List UInt8} {w : World} (hrow : fiT.Row w (old w) A t) (hl : t.length ≤ 140737488355328) (hrowl : dlsT.Row w (old w) Al l) (hll : l.length ≤ 140737488355328) (hrowm : dlsT.Row w (old w) Am m) (hlm : m.length ≤ 140737488355328) :
    Calls Tryd.prog 7 #[.slice A t.length cap, .slice Al l.length cl, .slice Am m.length cm, .string (str s)] w (fun en w' => ∃ v, en = .returned v ∧ v = .bool true ∧ Ext w w') := by
  refine calls' (n := 139) (rs := #[.tmp 8]) (l := [.slice A t.length cap, .slice Al l.length cl, .slice Am m.length cm, .string (str s)]) Tryd.func7 rfl rfl rfl rfl rfl ?_
  have hX := Ext.refl w
  refine W_seq ?_
  refine W_region ?_
  refine op rfl (r_assignV (v := .bool _) rfl) ?_
  refine WL_nil ?_
  refine W_seq ?_
  refine W_seq ?_
  refine W_region ?_
  refine op rfl (r_moveV (v := .slice _ _ _) rfl) ?_
  refine op rfl (r_moveV (v := .slice _ _ _) rfl) ?_
  refine opCv rfl (r_call Tryd.func9 Tryd.nm9 rfl) (small_spec (hrow.ext hX) hl (hrowl.ext hX) hll) ?_
  rintro v2 w2 ⟨q, dq, rfl, hq, hE⟩
  replace hX := hX.trans hE
  refine op rfl (r_notP rfl) ?_
  refine op_split rfl (r_moveV (v := .bool (decide _)) rfl) (fun hg26 => ?_) (fun hg26 => ?_)
  · refine opG_no rfl rfl rfl rfl rfl ?_
    refine opG_no rfl rfl rfl rfl rfl ?_
    refine opG_no rfl rfl rfl rfl rfl ?_
    refine op rfl (r_pickTV (v := .bool _) rfl rfl) ?_
    refine op rfl (r_moveV (v := .bool _) rfl) ?_
    refine opG_no rfl rfl rfl rfl rfl ?_
    refine opG_no rfl rfl rfl rfl rfl ?_
    refine opG_no rfl rfl rfl rfl rfl ?_
    refine op rfl (r_pickTV (v := .bool _) rfl rfl) ?_
    refine WL_nil ?_
    refine W_then rfl ?_
    refine W_seq ?_
    refine W_region ?_
    refine opCv rfl (r_call Tryd.func10 Tryd.nm10 rfl) (known_spec _) ?_
    rintro v9 w9 ⟨rfl, hE⟩
    replace hX := hX.trans hE
    refine op rfl (r_assignV (v := .bool _) rfl) ?_
    refine WL_nil ?_
    refine W_ret (finX_ret ?_)
    refine fin1 ?_
    exact ⟨_, rfl, by first | rfl | exact (bool_tt trivial).symm, hX⟩
  · refine opG_yes rfl rfl rfl rfl rfl (r_moveV (v := .slice _ _ _) rfl) ?_
    refine opGCv_yes rfl rfl rfl rfl rfl (r_call Tryd.func9 Tryd.nm9 rfl) (small_spec (A := none) (t := []) (Or.inl rfl) (by simp) (hrowm.ext hX) hlm) ?_
    rintro v1 w1 ⟨q2, dq2, rfl, hq2, hE⟩
    replace hX := hX.trans hE
    refine opG_yes rfl rfl rfl rfl rfl (r_notP rfl) ?_
    refine op rfl (r_pickFV (v := .bool _) rfl rfl) ?_
    refine op_split rfl (r_moveV (v := .bool (decide _)) rfl) (fun hg31 => ?_) (fun hg31 => ?_)
    · refine opG_no rfl rfl rfl rfl rfl ?_
      refine opG_no rfl rfl rfl rfl rfl ?_
      refine opG_no rfl rfl rfl rfl rfl ?_
      refine op rfl (r_pickTV (v := .bool _) rfl rfl) ?_
      refine WL_nil ?_
      refine W_then rfl ?_
      refine W_seq ?_
      refine W_region ?_
      refine opCv rfl (r_call Tryd.func10 Tryd.nm10 rfl) (known_spec _) ?_
      rintro v9 w9 ⟨rfl, hE⟩
      replace hX := hX.trans hE
      refine op rfl (r_assignV (v := .bool _) rfl) ?_
      refine WL_nil ?_
      refine W_ret (finX_ret ?_)
      refine fin1 ?_
      exact ⟨_, rfl, by first | rfl | exact (bool_tt trivial).symm, hX⟩
    · refine opG_yes rfl rfl rfl rfl rfl (r_moveV (v := .string _) rfl) ?_
      refine opG_yes rfl rfl rfl rfl rfl (rt_len rfl Tryd.underlying9) ?_
      refine opG_yes rfl rfl rfl rfl rfl (r_gtr rfl rfl) ?_
      refine op rfl (r_pickFV (v := .bool _) rfl rfl) ?_
      refine WL_nil ?_
      refine W_ifp rfl (fun ht35 => ?_) (fun ht35 => ?_)
      · refine W_seq ?_
        refine W_region ?_
        refine opCv rfl (r_call Tryd.func10 Tryd.nm10 rfl) (known_spec _) ?_
        rintro v9 w9 ⟨rfl, hE⟩
        replace hX := hX.trans hE
        refine op rfl (r_assignV (v := .bool _) rfl) ?_
        refine WL_nil ?_
        refine W_ret (finX_ret ?_)
        refine fin1 ?_
        exact ⟨_, rfl, by first | rfl | exact (bool_tt trivial).symm, hX⟩
      · have hq' := hq (Classical.not_not.1 hg26)
        have hq2' := hq2 (Classical.not_not.1 hg31)
        refine W_skip ?_
        refine W_seq ?_
        refine W_region ?_
        refine op rfl (r_moveV (v := .slice _ _ _) rfl) ?_
        have hX1 := hX
        refine opCv rfl (r_call Tryd.func11 Tryd.nm11 rfl) (new_spec2 (G := old w) (fun b hb ↦ Nat.lt_of_lt_of_le hb hX.size) (hrow.keep (fun b hb ↦ hX.block b hb) (fun _ h ↦ h)) (by omega)) ?_
        rintro v3 w3 ⟨pv, rfl, hH, hE⟩
        replace hX := hX.trans hE
        refine op rfl (r_moveV (v := .tuple #[pv, .int .i64 (if rightT t then 0 else 2)]) rfl) ?_
        refine op rfl (r_extract (vs := [pv, .int .i64 (if rightT t then 0 else 2)]) rfl rfl) ?_
        refine op rfl (r_extract (vs := [pv, .int .i64 (if rightT t then 0 else 2)]) rfl rfl) ?_
        refine op rfl (r_assignV (v := pv) rfl) ?_
        refine op rfl (r_assignV (v := .int .i64 (if rightT t then 0 else 2)) rfl) ?_
        refine WL_nil ?_
        refine W_seq ?_
        refine W_seq ?_
        refine W_region ?_
        refine op rfl (r_moveV (v := .int .i64 (if rightT t then 0 else 2)) rfl) ?_
        refine op rfl (r_neq rfl rfl) ?_
        refine WL_nil ?_
        refine W_ifp rfl (fun ht43 => ?_) (fun ht43 => ?_)
        · refine W_seq ?_
          refine W_region ?_
          refine opCv rfl (r_call Tryd.func10 Tryd.nm10 rfl) (known_spec _) ?_
          rintro v9 w9 ⟨rfl, hE⟩
          replace hX := hX.trans hE
          refine op rfl (r_assignV (v := .bool _) rfl) ?_
          refine WL_nil ?_
          refine W_ret (finX_ret ?_)
          refine fin1 ?_
          exact ⟨_, rfl, by first | rfl | exact (bool_tt trivial).symm, hX⟩
        · have hr : rightT t := Classical.byContradiction (fun q => ht43 (by rw [if_neg q]; decide))
          obtain ⟨p, hpv, hH0⟩ := hH hr
          refine W_skip ?_
          refine W_seq ?_
          refine W_seq ?_
          refine W_region ?_
          refine op rfl (r_assignV (v := .int _ _) rfl) ?_
          refine WL_nil ?_
          refine W_block ?_
          refine W_loop [11, 45, 46, 47, 48, 49, 50, 51, 52, 53, 54, 55, 56] (fun q e' w' => ∃ (i : Nat) (H : List Rv) (Z : Nat → Prop), q = l.length - i ∧ i ≤ l.length ∧ e' 11 = .int .i64 i ∧ Hist p Z w' H ∧ (∀ b, Z b → w.heap.size ≤ b) ∧ Ext w w') (l.length) ?_ ?_
          · exact ⟨0, [⟨[], t⟩], _, by omega, by omega, rfl, hH0, fun b hb => by have := hb.1; have := hX1.size; omega, hX⟩
          intro k g w' hI
          obtain ⟨i, H, Z, hq0, hi, h11, hH', hZ, hX'⟩ := hI
          clear hX
          have hX := hX'
          have hHl := hist_len hH'
          obtain ⟨w0i, hw0i⟩ : ∃ x, x = w' := ⟨_, rfl⟩
          subst hw0i
          refine W_set (i := 11) h11 ?_
          refine W_seq ?_
          refine W_seq ?_
          refine W_region ?_
          refine op rfl (r_moveV (v := .int _ _) rfl) ?_
          refine op rfl (r_moveV (v := .slice _ _ _) rfl) ?_
          refine op rfl (r_len_slice rfl Tryd.underlying24) ?_
          refine op rfl (r_lss rfl rfl) ?_
          refine WL_nil ?_
          refine W_ifp rfl (fun ht48 => ?_) (fun ht48 => ?_)
          · have hlt : i < l.length := by omega
            obtain ⟨g1, off1, Ai, ci, hA, -, hcell, -, hbl, hrr⟩ := hrowl.cellW hlt
            refine W_skip ?_
            refine W_seq ?_
            refine W_block ?_
            refine W_region ?_
            refine op rfl (r_moveV (v := hp p) (by rw [← hpv]; rfl)) ?_
            refine op rfl (r_moveV (v := .slice _ _ _) rfl) ?_
            refine op rfl (r_moveV (v := .int _ _) rfl) ?_
            refine op rfl (r_indexAddr1 rfl rfl hA Tryd.underlying24 Tryd.sz33 (by omega) (by omega)) ?_
            refine op rfl (r_load (v := .slice Ai l[i].length ci) rfl Tryd.underlying33 rfl (ext_cell hX hcell)) ?_
            refine opCv rfl (r_call Tryd.func12 Tryd.nm12 rfl) (commit_spec (cd := ci) hH' (fun b hb ↦ ⟨Nat.lt_of_lt_of_le hb hX.size, fun q ↦ by have := hZ b q; have : b < w.heap.size := hb; omega⟩) (hrr.keep (fun b hb ↦ hX.block b hb) (fun _ h ↦ h)) hbl) ?_
            rintro v4 w4 ⟨rfl, hH4, hM⟩
            have hX4 : Ext w w4 := ext_mv hX hM hZ
            clear hX
            have hX := hX4
            have hZ4 : ∀ b, (Z b ∨ since w0i w4 b) → w.heap.size ≤ b := fun b hb => hb.elim (hZ b) (fun q => by have := q.1; have := hX'.size; omega)
            refine WL_nil ?_
            refine W_region ?_
            refine op rfl (r_moveV (v := .int _ _) rfl) ?_
            refine op rfl (r_add' (r := ((i + 1 : Nat) : Int)) rfl rfl (by rw [wrap_i64 (by omega) (by omega)]; omega)) ?_
            refine op rfl (r_assignV (v := .int _ _) rfl) ?_
            refine WL_nil ?_
            refine ⟨?_, by repeat (first | with_reducible exact Out.refl _ _ | with_reducible exact Out.mix | refine Out.put rfl ?_ | refine Out.mixin rfl ?_ | exact Out.refl _ _ | exact Out.mix)⟩
            exact ⟨l.length - (i + 1), by omega, i + 1, _, _, by omega, by omega, rfl, hH4, hZ4, hX⟩
          · obtain ⟨wh, hwh⟩ : ∃ x, x = w0i := ⟨_, rfl⟩
            subst hwh
            have hHw := hH'.lt
            refine W_exit (blk_hit ?_)
            refine W_seq ?_
            refine W_region ?_
            refine op rfl (r_moveV (v := hp p) (by rw [← hpv]; rfl)) ?_
            refine opCv rfl (r_call Tryd.func22 Tryd.nm22 rfl) (copy_spec hHw) ?_
            rintro v5 w5 ⟨p2, rfl, hK, hE⟩
            replace hX := hX.trans hE
            have hH5 := hHw.ext hE
            have hs5 := hE.size
            refine op rfl (r_assignV (v := .pointer _) rfl) ?_
            refine WL_nil ?_
            refine W_seq ?_
            refine W_region ?_
            refine op rfl (r_moveV (v := hp p) (by rw [← hpv]; rfl)) ?_
            refine opCv rfl (r_call Tryd.func15 Tryd.nm15 rfl) (head_spec hH5) ?_
            rintro v6 w6 ⟨rfl, hE⟩
            replace hX := hX.trans hE
            have hH6 := hH5.ext hE
            have hK6 := hK.ext hE
            have hs6 := hE.size
            refine op rfl (r_assignV (v := .int _ _) rfl) ?_
            refine WL_nil ?_
            refine W_seq ?_
            refine W_region ?_
            refine op rfl (r_moveV (v := hp p) (by rw [← hpv]; rfl)) ?_
            refine op rfl (r_moveV (v := .string _) rfl) ?_
            refine opCv rfl (r_call Tryd.func13 Tryd.nm13 rfl) (last_spec hH6 s) ?_
            rintro v7 w7 ⟨rfl, hE⟩
            replace hX := hX.trans hE
            have hH7 := hH6.ext hE
            have hK7 := hK6.ext hE
            have hs7 := hE.size
            refine op rfl (r_assignV (v := .int _ _) rfl) ?_
            refine WL_nil ?_
            refine W_seq ?_
            refine W_region ?_
            refine op rfl (r_moveV (v := hp p) (by rw [← hpv]; rfl)) ?_
            refine op rfl (r_moveV (v := .int _ _) rfl) ?_
            refine opCv rfl (r_call Tryd.func16 Tryd.nm16 rfl) (histAt_spec hH7 ((H.length : Int) - 1)) ?_
            rintro v8 w8 ⟨v9, rfl, hO, hE⟩
            replace hX := hX.trans hE
            have hO : OwnT w7 w8 v9 (headT H) := hO
            obtain ⟨A9, c9, rfl, hc9, hr9⟩ := hO.rd
            have hH8 := hH7.ext hE
            have hK8 := hK7.ext hE
            have hs8 := hE.size
            have hrH : rightT (headT H) := by
              rw [headT_eq hHl.1]
              exact (hist_ok hH' _ (List.getElem_mem _)).1
            refine op rfl (r_moveV (v := .tuple #[.slice A9 (headT H).length c9, .int .i64 (errR H ((H.length : Int) - 1))]) rfl) ?_
            refine op rfl (r_extract (vs := [.slice A9 (headT H).length c9, .int .i64 (errR H ((H.length : Int) - 1))]) rfl rfl) ?_
            refine op rfl (r_extract (vs := [.slice A9 (headT H).length c9, .int .i64 (errR H ((H.length : Int) - 1))]) rfl rfl) ?_
            refine op rfl (r_assignV (v := .slice A9 (headT H).length c9) rfl) ?_
            refine op rfl (r_assignV (v := .int .i64 (errR H ((H.length : Int) - 1))) rfl) ?_
            refine WL_nil ?_
            refine W_seq ?_
            refine W_seq ?_
            refine W_region ?_
            refine op rfl (r_assignV (v := .int _ _) rfl) ?_
            refine WL_nil ?_
            refine W_block ?_
            refine W_loop [17, 70, 71, 72, 73, 74, 75, 76, 77, 78, 79, 80, 81] (fun q e' w' => ∃ (i : Nat) (K : List Rv) (Zc : Nat → Prop), q = m.length - i ∧ i ≤ m.length ∧ e' 17 = .int .i64 i ∧ Grown H K s ∧ Hist p2 Zc w' K ∧ (∀ b, Zc b → wh.heap.size ≤ b ∧ (b < w7.heap.size ∨ w8.heap.size ≤ b)) ∧ Hist p (fun b => Z b ∧ b < wh.heap.size) w' H ∧ fiT.Row w' (fun b => w7.heap.size ≤ b ∧ b < w8.heap.size) A9 (headT H) ∧ w8.heap.size ≤ w'.heap.size ∧ Ext w w') (m.length) ?_ ?_
            · exact ⟨0, H, _, by omega, by omega, rfl, ⟨Nat.le_refl _, fun _ _ => rfl, Nat.le_refl _⟩, hK8, fun b hb => ⟨hb.1, Or.inl (by have := hb.2; omega)⟩, hH8, hr9, Nat.le_refl _, hX⟩
            intro k g w' hI
            obtain ⟨j, K, Zc, hqj, hj, h17, hGr, hK', hZc, hHp, hR9, hw8, hX''⟩ := hI
            clear hX
            have hX := hX''
            obtain ⟨w1i, hw1i⟩ : ∃ x, x = w' := ⟨_, rfl⟩
            subst hw1i
            refine W_set (i := 17) h17 ?_
            refine W_seq ?_
            refine W_seq ?_
            refine W_region ?_
            refine op rfl (r_moveV (v := .int _ _) rfl) ?_
            refine op rfl (r_moveV (v := .slice _ _ _) rfl) ?_
            refine op rfl (r_len_slice rfl Tryd.underlying24) ?_
            refine op rfl (r_lss rfl rfl) ?_
            refine WL_nil ?_
            refine W_ifp rfl (fun ht73 => ?_) (fun ht73 => ?_)
            · have hltm : j < m.length := by omega
              obtain ⟨g2, off2, Bi, di, hA2, -, hcell2, -, hbl2, hrr2⟩ := hrowm.cellW hltm
              refine W_skip ?_
              refine W_seq ?_
              refine W_block ?_
              refine W_region ?_
              refine op rfl (r_moveV (v := .pointer _) rfl) ?_
              refine op rfl (r_moveV (v := .slice _ _ _) rfl) ?_
              refine op rfl (r_moveV (v := .int _ _) rfl) ?_
              refine op rfl (r_indexAddr1 rfl rfl hA2 Tryd.underlying24 Tryd.sz33 (by omega) (by omega)) ?_
              refine op rfl (r_load (v := .slice Bi m[j].length di) rfl Tryd.underlying33 rfl (ext_cell hX hcell2)) ?_
              refine opCv rfl (r_call Tryd.func12 Tryd.nm12 rfl) (commit_spec (cd := di) hK' (fun b hb ↦ ⟨Nat.lt_of_lt_of_le hb hX.size, fun q ↦ by have := (hZc b q).1; have : b < w.heap.size := hb; have := hX'.size; omega⟩) (hrr2.keep (fun b hb ↦ hX.block b hb) (fun _ h ↦ h)) hbl2) ?_
              rintro v11 w11 ⟨rfl, hK11, hM11⟩
              have hX11 : Ext w w11 := ext_mv hX hM11 (fun b hb => by have := (hZc b hb).1; have := hX'.size; omega)
              clear hX
              have hX := hX11
              have hZ11 : ∀ b, (Zc b ∨ since w1i w11 b) → wh.heap.size ≤ b ∧ (b < w7.heap.size ∨ w8.heap.size ≤ b) := fun b hb => hb.elim (hZc b) (fun q => by have := q.1; exact ⟨by omega, Or.inr (by omega)⟩)
              have hH11 := hHp.mv hM11 (fun b hb q => by have := (hZc b q).1; have := hb.2; omega)
              have hR11 := hR9.keep (w' := w11) (fun b hb => hM11.block b (by have := hb.2; omega) (fun q => by have := (hZc b q).2; have := hb.1; have := hb.2; omega)) (fun _ h => h)
              refine WL_nil ?_
              refine W_region ?_
              refine op rfl (r_moveV (v := .int _ _) rfl) ?_
              refine op rfl (r_add' (r := ((j + 1 : Nat) : Int)) rfl rfl (by rw [wrap_i64 (by omega) (by omega)]; omega)) ?_
              refine op rfl (r_assignV (v := .int _ _) rfl) ?_
              refine WL_nil ?_
              refine ⟨?_, by repeat (first | with_reducible exact Out.refl _ _ | with_reducible exact Out.mix | refine Out.put rfl ?_ | refine Out.mixin rfl ?_ | exact Out.refl _ _ | exact Out.mix)⟩
              exact ⟨m.length - (j + 1), by omega, j + 1, _, _, by omega, by omega, rfl, grown_commit hGr hHl.1 _, hK11, hZ11, hH11, hR11, by have := hM11.size; omega, hX⟩
            · have hgg := grown_get hGr hHl.1
              refine W_exit (blk_hit ?_)
              refine W_seq ?_
              refine W_region ?_
              refine op rfl (r_moveV (v := hp p) (by rw [← hpv]; rfl)) ?_
              refine op rfl (r_moveV (v := .int _ _) rfl) ?_
              refine opCv rfl (r_call Tryd.func16 Tryd.nm16 rfl) (histAt_spec hHp ((H.length : Int) - 1)) ?_
              rintro v12 w12 ⟨v13, rfl, hO12, hE⟩
              replace hX := hX.trans hE
              have hO12 : OwnT w1i w12 v13 (headT H) := hO12
              obtain ⟨A13, c13, rfl, hc13, hr13⟩ := hO12.rd
              have hE12 := hE
              refine op rfl (r_moveV (v := .tuple #[.slice A13 (headT H).length c13, .int .i64 (errR H ((H.length : Int) - 1))]) rfl) ?_
              refine op rfl (r_extract (vs := [.slice A13 (headT H).length c13, .int .i64 (errR H ((H.length : Int) - 1))]) rfl rfl) ?_
              refine op rfl (r_extract (vs := [.slice A13 (headT H).length c13, .int .i64 (errR H ((H.length : Int) - 1))]) rfl rfl) ?_
              refine op rfl (r_assignV (v := .slice A13 (headT H).length c13) rfl) ?_
              refine op rfl (r_assignV (v := .int .i64 (errR H ((H.length : Int) - 1))) rfl) ?_
              refine WL_nil ?_
              refine W_seq ?_
              refine W_region ?_
              refine op rfl (r_moveV (v := .pointer _) rfl) ?_
              refine op rfl (r_moveV (v := .int _ _) rfl) ?_
              refine opCv rfl (r_call Tryd.func16 Tryd.nm16 rfl) (histAt_spec (hK'.ext hE12) ((H.length : Int) - 1)) ?_
              rintro v14 w14 ⟨v15, rfl, hO14, hE⟩
              replace hX := hX.trans hE
              rw [hgg.1] at hO14
              have hO14 : OwnT w12 w14 v15 (headT H) := hO14
              obtain ⟨A15, c15, rfl, hc15, hr15⟩ := hO14.rd
              have hE14 := hE12.trans hE
              have hE1214 := hE
              have hHz := hHp.ext hE14
              have hKz := hK'.ext hE14
              refine op rfl (r_moveV (v := .tuple #[.slice A15 (headT H).length c15, .int .i64 (errR K ((H.length : Int) - 1))]) rfl) ?_
              refine op rfl (r_extract (vs := [.slice A15 (headT H).length c15, .int .i64 (errR K ((H.length : Int) - 1))]) rfl rfl) ?_
              refine op rfl (r_extract (vs := [.slice A15 (headT H).length c15, .int .i64 (errR K ((H.length : Int) - 1))]) rfl rfl) ?_
              refine op rfl (r_assignV (v := .slice A15 (headT H).length c15) rfl) ?_
              refine op rfl (r_assignV (v := .int .i64 (errR K ((H.length : Int) - 1))) rfl) ?_
              refine WL_nil ?_
              refine W_seq ?_
              refine W_region ?_
              refine op rfl (r_moveV (v := hp p) (by rw [← hpv]; rfl)) ?_
              refine opCv rfl (r_call Tryd.func15 Tryd.nm15 rfl) (head_spec hHz) ?_
              rintro v16 w16 ⟨rfl, hE⟩
              replace hX := hX.trans hE
              have hE16 := hE
              refine op rfl (r_moveV (v := .int _ _) rfl) ?_
              refine op rfl (r_eql rfl rfl) ?_
              refine op_true rfl (r_moveV (v := .bool (decide _)) rfl) (rfl) ?_
              refine opG_yes rfl rfl rfl rfl rfl (r_moveV (v := hp p) (by rw [← hpv]; rfl)) ?_
              refine opG_yes rfl rfl rfl rfl rfl (r_moveV (v := .string _) rfl) ?_
              refine opGCv_yes rfl rfl rfl rfl rfl (r_call Tryd.func13 Tryd.nm13 rfl) (last_spec (hHz.ext hE16) s) ?_
              rintro v17 w17 ⟨rfl, hE⟩
              replace hX := hX.trans hE
              have hE17 := hE16.trans hE
              refine opG_yes rfl rfl rfl rfl rfl (r_moveV (v := .int _ _) rfl) ?_
              refine opG_yes rfl rfl rfl rfl rfl (r_eql rfl rfl) ?_
              refine op rfl (r_pickTV (v := .bool _) rfl rfl) ?_
              refine op_true rfl (r_moveV (v := .bool (decide _)) rfl) (rfl) ?_
              refine opG_yes rfl rfl rfl rfl rfl (r_moveV (v := .int .i64 (errR H ((H.length : Int) - 1))) rfl) ?_
              refine opG_yes rfl rfl rfl rfl rfl (r_eql rfl rfl) ?_
              refine op rfl (r_pickTV (v := .bool _) rfl rfl) ?_
              refine op_true rfl (r_moveV (v := .bool (decide _)) rfl) (hgg.2.2) ?_
              refine opG_yes rfl rfl rfl rfl rfl (r_moveV (v := .int .i64 (errR K ((H.length : Int) - 1))) rfl) ?_
              refine opG_yes rfl rfl rfl rfl rfl (r_eql rfl rfl) ?_
              refine op rfl (r_pickTV (v := .bool _) rfl rfl) ?_
              refine op_true rfl (r_moveV (v := .bool (decide _)) rfl) (hgg.2.1) ?_
              refine opG_yes rfl rfl rfl rfl rfl (r_moveV (v := .slice A9 (headT H).length c9) rfl) ?_
              refine opG_yes rfl rfl rfl rfl rfl (r_moveV (v := .slice A13 (headT H).length c13) rfl) ?_
              refine opGCv_yes rfl rfl rfl rfl rfl (r_call Tryd.func18 Tryd.nm18 rfl) (same_spec (hR9.keep (fun b hb ↦ (hE14.trans hE17).block b (by have := hb.2; omega)) (fun b hb ↦ by have := hb.2; have := (hE14.trans hE17).size; show b < _; omega)) (hr13.keep (fun b hb ↦ (hE1214.trans hE17).block b hb.2) (fun b hb ↦ Nat.lt_of_lt_of_le hb.2 (hE1214.trans hE17).size)) (by have := hrH.1; omega)) ?_
              rintro v18 w18 ⟨rfl, hE⟩
              replace hX := hX.trans hE
              have hE18 := hE17.trans hE
              refine op rfl (r_pickTV (v := .bool _) rfl rfl) ?_
              refine op_true rfl (r_moveV (v := .bool (decide _)) rfl) (rfl) ?_
              refine opG_yes rfl rfl rfl rfl rfl (r_moveV (v := .slice A9 (headT H).length c9) rfl) ?_
              refine opG_yes rfl rfl rfl rfl rfl (r_moveV (v := .slice A15 (headT H).length c15) rfl) ?_
              refine opGCv_yes rfl rfl rfl rfl rfl (r_call Tryd.func18 Tryd.nm18 rfl) (same_spec (hR9.keep (fun b hb ↦ (hE14.trans hE18).block b (by have := hb.2; omega)) (fun b hb ↦ by have := hb.2; have := (hE14.trans hE18).size; show b < _; omega)) (hr15.keep (fun b hb ↦ hE18.block b hb.2) (fun b hb ↦ Nat.lt_of_lt_of_le hb.2 hE18.size)) (by have := hrH.1; omega)) ?_
              rintro v19 w19 ⟨rfl, hE⟩
              replace hX := hX.trans hE
              have hE19 := hE18.trans hE
              refine op rfl (r_pickTV (v := .bool _) rfl rfl) ?_
              refine op_true rfl (r_moveV (v := .bool (decide _)) rfl) (rfl) ?_
              refine opG_yes rfl rfl rfl rfl rfl (r_moveV (v := .pointer _) rfl) ?_
              refine opGCv_yes rfl rfl rfl rfl rfl (r_call Tryd.func15 Tryd.nm15 rfl) (head_spec (hKz.ext hE19)) ?_
              rintro v20 w20 ⟨rfl, hE⟩
              replace hX := hX.trans hE
              have hE20 := hE19.trans hE
              refine opG_yes rfl rfl rfl rfl rfl (r_moveV (v := .int _ _) rfl) ?_
              refine opG_yes rfl rfl rfl rfl rfl (r_geq rfl rfl) ?_
              refine op rfl (r_pickTV (v := .bool _) rfl rfl) ?_
              refine op_true rfl (r_moveV (v := .bool (decide _)) rfl) (by have := hGr.1; omega) ?_
              refine opG_yes rfl rfl rfl rfl rfl (r_moveV (v := .pointer _) rfl) ?_
              refine opG_yes rfl rfl rfl rfl rfl (r_moveV (v := .string _) rfl) ?_
              refine opGCv_yes rfl rfl rfl rfl rfl (r_call Tryd.func13 Tryd.nm13 rfl) (last_spec (hKz.ext hE20) s) ?_
              rintro v21 w21 ⟨rfl, hE⟩
              replace hX := hX.trans hE
              refine opG_yes rfl rfl rfl rfl rfl (r_moveV (v := .int _ _) rfl) ?_
              refine opG_yes rfl rfl rfl rfl rfl (r_geq rfl rfl) ?_
              refine op rfl (r_pickTV (v := .bool _) rfl rfl) ?_
              refine op_true rfl (r_moveV (v := .bool (decide _)) rfl) (by have := hGr.2.2; omega) ?_
              refine opGCv_yes rfl rfl rfl rfl rfl (r_call Tryd.func10 Tryd.nm10 rfl) (known_spec _) ?_
              rintro v22 w22 ⟨rfl, hE⟩
              replace hX := hX.trans hE
              refine op rfl (r_pickTV (v := .bool _) rfl rfl) ?_
              refine op rfl (r_assignV (v := .bool _) rfl) ?_
              refine WL_nil ?_
              refine W_ret (finX_ret ?_)
              refine fin1 ?_
              exact ⟨_, rfl, by first | rfl | exact (bool_tt trivial).symm, hX⟩
theorem historyCopies_row (W : World) (At : Option Addr) (ct : Nat) (t : List Fi) (hct : t.length ≤ ct) (ht : t.length ≤ big) (hT : fiT.Row W (old W) At t)
  (Al : Option Addr) (cl : Nat) (l : List (List Dl)) (hcl : l.length ≤ cl) (hl : l.length ≤ big) (hL : dlsT.Row W (old W) Al l)
  (Am : Option Addr) (cm : Nat) (m : List (List Dl)) (hcm : m.length ≤ cm) (hm : m.length ≤ big) (hM : dlsT.Row W (old W) Am m) (s : ByteArray) (hs : s.size ≤ big) :
    Calls Tryd.prog 7 #[.slice At t.length ct, .slice Al l.length cl, .slice Am m.length cm, .string s] W (fun e W' => ∃ v, e = .returned v ∧ v = .bool true ∧ Ext W W') := by
  obtain ⟨q, rfl⟩ : ∃ l, s = str l := ⟨s.data.toList, (str_of s).symm⟩
  exact historyCopies_walk hT ht hL hl hM hm
end Go.Proofs.YtkdcmdcdjnmkaaaDoor
