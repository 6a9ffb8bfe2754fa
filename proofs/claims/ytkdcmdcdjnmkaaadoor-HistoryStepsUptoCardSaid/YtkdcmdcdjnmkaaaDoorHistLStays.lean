/-
  What was stays as it was: the walk.
-/
import Derived.Test.YtkdcmdcdjnmkaaaDoorFacts
import Derived.Test.YtkdcmdcdjnmkaaaDoorKept
import Derived.Test.YtkdcmdcdjnmkaaaDoorHistQ
namespace Go.Proofs.YtkdcmdcdjnmkaaaDoor
open Go Go.Eng Go.RowKit Go.Proofs
set_option linter.unusedVariables false
set_option linter.unusedSimpArgs false
set_option maxHeartbeats 1000000
set_option maxRecDepth 20000

theorem row_old {w : World} {G : Nat → Prop} {A : Option Addr} {t : Tree} (h : fiT.Row w G A t) (hG : ∀ b, G b → b < w.heap.size) : fiT.Row w (old w) A t := h.keep (fun _ _ => rfl) hG
theorem historyStays_walk {A : Option Addr} {cap : Nat} {t : Tree} {Al : Option Addr} {cl : Nat} {l : List (List Dl)} {w : World} (hrow : fiT.Row w (old w) A t) (hl : t.length ≤ 140737488355328) (hrowl : dlsT.Row w (old w) Al l) (hll : l.length ≤ 140737488355328) :
    Calls Tryd.prog 4 #[.slice A t.length cap, .slice Al l.length cl] w (fun en w' => ∃ v, en = .returned v ∧ v = .bool true ∧ Ext w w') := by
  have hlat : ∀ W, Ext w W → ∀ i (hi : i < l.length), ∃ g off Ai ci, Al = some ⟨g, off, none⟩ ∧ W.cell? ⟨g, off + i, none⟩ = some (.slice Ai l[i].length ci) ∧ l[i].length * 48 ≤ 140737488355328 ∧ dlT.Row W (old w) Ai l[i] := fun W he i hi => by
    obtain ⟨g, off, Ai, ci, hA, _, hc, _, h2, h3⟩ := hrowl.cellW hi
    exact ⟨g, off, Ai, ci, hA, ext_cell he hc, h2, h3.keep (fun b hb => he.block b hb) (fun _ h => h)⟩
  refine calls' (n := 146) (rs := #[.tmp 4]) (l := [.slice A t.length cap, .slice Al l.length cl]) Tryd.func4 rfl rfl rfl rfl rfl ?_
  have hX := Ext.refl w
  refine W_seq ?_
  refine W_region ?_
  refine op rfl (r_assignV (v := .bool _) rfl) ?_
  refine WL_nil ?_
  refine W_seq ?_
  refine W_seq ?_
  refine W_region ?_
  refine op rfl (r_moveV (v := .slice _ _ _) rfl) ?_
  refine op rfl (r_moveV (v := .slice _ _ _) rfl) ?_
  refine opCv rfl (r_call Tryd.func9 Tryd.nm9 rfl) (small_spec (hrow.ext hX) hl (hrowl.ext hX) hll) ?_
  rintro v2 w2 ⟨q, dq, rfl, hq, hE⟩
  replace hX := hX.trans hE
  refine op rfl (r_notP rfl) ?_
  refine WL_nil ?_
  refine W_ifp rfl (fun ht24 => ?_) (fun ht24 => ?_)
  · refine W_seq ?_
    refine W_region ?_
    refine opCv rfl (r_call Tryd.func10 Tryd.nm10 rfl) (known_spec _) ?_
    rintro v9 w9 ⟨rfl, hE⟩
    replace hX := hX.trans hE
    refine op rfl (r_assignV (v := .bool _) rfl) ?_
    refine WL_nil ?_
    refine W_ret (finX_ret ?_)
    refine fin1 ?_
    first
      | exact ⟨_, rfl, by first | rfl | exact (bool_tt trivial).symm, hX⟩
      | exact ⟨_, rfl, by first | rfl | exact (bool_tt trivial).symm, hX'.trans hX⟩
  · have hq' := hq (Classical.not_not.1 ht24)
    refine W_skip ?_
    refine W_seq ?_
    refine W_region ?_
    refine op rfl (r_moveV (v := .slice _ _ _) rfl) ?_
    have hX1 := hX
    refine opCv rfl (r_call Tryd.func11 Tryd.nm11 rfl) (new_spec2 (G := old w) (fun b hb ↦ Nat.lt_of_lt_of_le hb hX.size) (hrow.keep (fun b hb ↦ hX.block b hb) (fun _ h ↦ h)) (by omega)) ?_
    rintro v3 w3 ⟨pv, rfl, hH, hE⟩
    replace hX := hX.trans hE
    refine op rfl (r_moveV (v := .tuple #[pv, .int .i64 (if rightT t then 0 else 2)]) rfl) ?_
    refine op rfl (r_extract (vs := [pv, .int .i64 (if rightT t then 0 else 2)]) rfl rfl) ?_
    refine op rfl (r_extract (vs := [pv, .int .i64 (if rightT t then 0 else 2)]) rfl rfl) ?_
    refine op rfl (r_assignV (v := pv) rfl) ?_
    refine op rfl (r_assignV (v := .int .i64 (if rightT t then 0 else 2)) rfl) ?_
    refine WL_nil ?_
    refine W_seq ?_
    refine W_seq ?_
    refine W_region ?_
    refine op rfl (r_moveV (v := .int .i64 (if rightT t then 0 else 2)) rfl) ?_
    refine op rfl (r_neq rfl rfl) ?_
    refine WL_nil ?_
    refine W_ifp rfl (fun ht32 => ?_) (fun ht32 => ?_)
    · refine W_seq ?_
      refine W_region ?_
      refine opCv rfl (r_call Tryd.func10 Tryd.nm10 rfl) (known_spec _) ?_
      rintro v9 w9 ⟨rfl, hE⟩
      replace hX := hX.trans hE
      refine op rfl (r_assignV (v := .bool _) rfl) ?_
      refine WL_nil ?_
      refine W_ret (finX_ret ?_)
      refine fin1 ?_
      first
        | exact ⟨_, rfl, by first | rfl | exact (bool_tt trivial).symm, hX⟩
        | exact ⟨_, rfl, by first | rfl | exact (bool_tt trivial).symm, hX'.trans hX⟩
    · have hr : rightT t := Classical.byContradiction (fun q => ht32 (by rw [if_neg q]; decide))
      obtain ⟨p, hpv, hH0⟩ := hH hr
      have hH0' := hH0.lt
      have hg0 := getR_at (H := [(⟨[], t⟩ : Rv)]) (r := 0) (by simp)
      refine W_skip ?_
      refine W_seq ?_
      refine W_region ?_
      refine op rfl (r_assignV (v := .slice _ _ _) rfl) ?_
      refine WL_nil ?_
      refine W_seq ?_
      refine W_region ?_
      refine op rfl (r_moveV (v := hp p) (by rw [← hpv]; rfl)) ?_
      refine opCv rfl (r_call Tryd.func16 Tryd.nm16 rfl) (histAt_spec hH0' ((0 : Nat) : Int)) ?_
      rintro v5 w5 ⟨v6, rfl, hO, hE⟩
      replace hX := hX.trans hE
      rw [hg0.1] at hO
      have hO : OwnT w3 w5 v6 t := hO
      obtain ⟨A6, c6, rfl, hc6, hr6⟩ := hO.rd
      have hH5 := hH0'.ext hE
      have hX3 : Ext w w3 := hX1.trans (by assumption)
      refine op rfl (r_moveV (v := .tuple #[.slice A6 t.length c6, .int .i64 (errR [⟨[], t⟩] ((0 : Nat) : Int))]) rfl) ?_
      refine op rfl (r_extract (vs := [.slice A6 t.length c6, .int .i64 (errR [⟨[], t⟩] ((0 : Nat) : Int))]) rfl rfl) ?_
      refine op rfl (r_extract (vs := [.slice A6 t.length c6, .int .i64 (errR [⟨[], t⟩] ((0 : Nat) : Int))]) rfl rfl) ?_
      refine op rfl (r_assignV (v := .slice A6 t.length c6) rfl) ?_
      refine op rfl (r_assignV (v := .int .i64 (errR [⟨[], t⟩] ((0 : Nat) : Int))) rfl) ?_
      refine WL_nil ?_
      refine W_seq ?_
      refine W_region ?_
      refine op rfl (r_moveV (v := .slice _ _ _) rfl) ?_
      refine op rfl (r_moveV (v := .slice A6 t.length c6) rfl) ?_
      refine op_newS rfl (r_buildSlice (vs := [.slice A6 t.length c6]) Tryd.underlying42 Tryd.sz23 Tryd.zero23 rfl rfl rfl) ?_
      intro w7 b7 E7 B7 L7
      have hX7 := hX.trans E7
      have hr7 : fiT.Row w7 (since w3 w7) A6 t := hr6.keep (fun b hb => E7.block b hb.2) (fun b hb => ⟨hb.1, Nat.lt_of_lt_of_le hb.2 E7.size⟩)
      refine op_kept (T := fiT.slice) (w0 := w3) (B := w.heap.size) (a := t) rfl rfl rfl Tryd.underlying42 Tryd.sz23 Tryd.by23 Tryd.zero23 rfl (fun b hb => hb.2) (by have := hX3.size; omega) (hE.trans E7) (Kept.nil (Z := fun b => since w2 w3 b ∧ b < w3.heap.size)) (Src.blk B7 ⟨A6, c6, rfl, hc6, by omega, hr7⟩) (by simp) (by simp) ?_
      intro v8 w8 K8 G8 N8 V8
      have hX8 : Ext w w8 := hX7.gro G8 (by have := hX7.size; omega) (fun k hk => (N8 k hk).1)
      have hs35 := hE.size
      have hs57 := E7.size
      have hs78 := G8.size
      have hs2 := hX1.size
      have hX78 : Ext w7 w8 := ⟨G8.os, G8.tape, G8.output, G8.size, fun k hk => G8.block k hk (fun q => by cases q)⟩
      have hH8' := (hH5.ext E7).ext hX78
      have hZ8 : ∀ b, (since w2 w3 b ∧ b < w3.heap.size) → w.heap.size ≤ b ∧ (b < w3.heap.size ∨ w5.heap.size ≤ b) ∧ b < w8.heap.size := fun b hb => ⟨by have := hb.1.1; omega, Or.inl hb.2, by have := hb.2; omega⟩
      have hv58 : ∀ g, v8.ownBlock = some g → w5.heap.size ≤ g := fun g hg => by
        rcases V8 with q | ⟨g', q, hg'⟩
        · rw [q] at hg; cases hg
        · rw [q] at hg; simp only [Option.some.injEq] at hg; omega
      have hR8 : fiT.Row w8 (since w3 w5) A6 t := hr6.keep (fun b hb => (hX78.block b (by have := hb.2; omega)).trans (E7.block b hb.2)) (fun _ h => h)
      have hs58 : w5.heap.size ≤ w8.heap.size := by omega
      clear hX
      have hX := hX8
      refine op rfl (r_assignV (v := v8) rfl) ?_
      refine WL_nil ?_
      refine W_seq ?_
      refine W_seq ?_
      refine W_region ?_
      refine op rfl (r_assignV (v := .int _ _) rfl) ?_
      refine WL_nil ?_
      refine W_block ?_
      refine W_loop (4 :: 7 :: 10 :: 11 :: 12 :: 13 :: 14 :: 15 :: 16 :: 17 :: 43 :: 44 :: 45 :: 46 :: 47 :: 48 :: 49 :: 50 :: 51 :: 52 :: 53 :: 54 :: 55 :: 56 :: 57 :: 58 :: 59 :: 60 :: 61 :: 62 :: 63 :: 64 :: 65 :: 66 :: 67 :: 68 :: 69 :: 70 :: 71 :: 72 :: 73 :: 74 :: 75 :: 76 :: 77 :: 78 :: 79 :: 80 :: 81 :: 82 :: 83 :: 84 :: 85 :: 86 :: 87 :: 88 :: 89 :: 90 :: 91 :: 92 :: 93 :: 94 :: 95 :: 96 :: 97 :: 98 :: 99 :: 100 :: 101 :: 102 :: 103 :: 104 :: 105 :: 106 :: 107 :: 108 :: 109 :: 110 :: 111 :: 112 :: 113 :: 114 :: 115 :: 116 :: 117 :: 118 :: 119 :: 120 :: []) (fun q e' w' => ∃ (i : Nat) (H : List Rv) (Z : Nat → Prop) (v : Value), q = l.length - i ∧ i ≤ l.length ∧ e' 10 = .int .i64 i ∧ e' 7 = v ∧ Chain t H ∧ Hist p Z w' H ∧ (∀ b, Z b → w.heap.size ≤ b ∧ (b < w3.heap.size ∨ w5.heap.size ≤ b) ∧ b < w'.heap.size) ∧ Kept fiT.slice 23 Z w' w.heap.size v (H.map Rv.t) ∧ (∀ g, v.ownBlock = some g → w5.heap.size ≤ g) ∧ fiT.Row w' (since w3 w5) A6 t ∧ w5.heap.size ≤ w'.heap.size ∧ Ext w w') (l.length) ?_ ?_
      · exact ⟨0, [⟨[], t⟩], _, v8, by omega, by omega, rfl, rfl, chain_one t, hH8', hZ8, K8, hv58, hR8, hs58, hX⟩
      intro k g w' hI
      obtain ⟨i, H, Z, v, hq0, hi, h10, h7, hch, hH', hZ, hK, hv5, hR6, hw5, hX'⟩ := hI
      clear hX
      have hX := hX'
      have hHl := hist_len hH'
      obtain ⟨w0i, hw0i⟩ : ∃ x, x = w' := ⟨_, rfl⟩
      subst hw0i
      refine W_set (i := 10) h10 ?_
      refine W_set (i := 7) h7 ?_
      refine W_seq ?_
      refine W_seq ?_
      refine W_region ?_
      refine op rfl (r_moveV (v := .int _ _) rfl) ?_
      refine op rfl (r_moveV (v := .slice _ _ _) rfl) ?_
      refine op rfl (r_len_slice rfl Tryd.underlying24) ?_
      refine op rfl (r_lss rfl rfl) ?_
      refine WL_nil ?_
      refine W_ifp rfl (fun ht46 => ?_) (fun ht46 => ?_)
      · have hlt : i < l.length := by omega
        obtain ⟨g1, off1, Ai, ci, hA, -, hcell, -, hbl, hrr⟩ := hrowl.cellW hlt
        have hrrW : ∀ W, Ext w W → dlT.Row W (old w) Ai l[i] := fun W he => hrr.keep (fun b hb => he.block b hb) (fun _ h => h)
        refine W_skip ?_
        refine W_seq ?_
        refine W_block ?_
        refine W_seq ?_
        refine W_region ?_
        refine op rfl (r_moveV (v := hp p) (by rw [← hpv]; rfl)) ?_
        refine opCv rfl (r_call Tryd.func15 Tryd.nm15 rfl) (head_spec hH') ?_
        rintro v10 w10 ⟨rfl, hE⟩
        replace hX := hX.trans hE
        have hE12 := hE
        have hH12 := hH'.ext hE
        refine op rfl (r_assignV (v := .int _ _) rfl) ?_
        refine WL_nil ?_
        refine W_seq ?_
        refine W_region ?_
        refine op rfl (r_moveV (v := hp p) (by rw [← hpv]; rfl)) ?_
        refine op rfl (r_moveV (v := .slice _ _ _) rfl) ?_
        refine op rfl (r_moveV (v := .int _ _) rfl) ?_
        refine op rfl (r_indexAddr1 rfl rfl hA Tryd.underlying24 Tryd.sz33 (by omega) (by omega)) ?_
        refine op rfl (r_load (v := .slice Ai l[i].length ci) rfl Tryd.underlying33 rfl (ext_cell hX hcell)) ?_
        refine opCv rfl (r_call Tryd.func12 Tryd.nm12 rfl) (commit_spec (cd := ci) hH12 (fun b hb ↦ ⟨Nat.lt_of_lt_of_le hb hX.size, fun q ↦ by have := (hZ b q).1; omega⟩) (hrrW _ hX) hbl) ?_
        rintro v4 w4 ⟨hv4, hH4, hM⟩
        obtain ⟨H1, hH1⟩ : ∃ x, x = (commitR H l[i]).1 := ⟨_, rfl⟩
        obtain ⟨rn, hrn⟩ : ∃ x, x = (commitR H l[i]).2.1 := ⟨_, rfl⟩
        obtain ⟨ec, hec⟩ : ∃ x, x = (commitR H l[i]).2.2 := ⟨_, rfl⟩
        rw [← hrn, ← hec] at hv4
        subst hv4
        rw [← hH1] at hH4
        have hgood : ec = 0 → ∃ u, H1 = H ++ [⟨l[i], u⟩] ∧ rn = H.length ∧ applyT (headT H) l[i] = (0, u) := fun h => by
          rw [hH1, hrn]; exact commit_good (hec ▸ h)
        have hbad : ec ≠ 0 → H1 = H := fun h => by rw [hH1]; exact commit_bad (hec ▸ h)
        have hM4 : Mv Z w0i w4 := (Mv.of_ext hE12).trans hM
        have hX4 : Ext w w4 := ext_mv hX' hM4 (fun b hb => (hZ b hb).1)
        clear hX
        have hX := hX4
        have hch1 : Chain t H1 := by rw [hH1]; exact chain_commit hch hHl.1 _
        have hH1l : (H1.length : Int) = if ec = 0 then (H.length : Int) + 1 else H.length := by
          split
          · rename_i h; obtain ⟨u, h1, -⟩ := hgood h; rw [h1]; simp
          · rename_i h; rw [hbad h]
        have hs4 := hM4.size
        have hs12 := hE12.size
        have hZ4 : ∀ b, (Z b ∨ since w10 w4 b) → w.heap.size ≤ b ∧ (b < w3.heap.size ∨ w5.heap.size ≤ b) ∧ b < w4.heap.size := fun b hb => by
          rcases hb with q | q
          · obtain ⟨q1, q2, q3⟩ := hZ b q; exact ⟨q1, q2, by omega⟩
          · have := q.1; have := q.2; have := hX'.size; exact ⟨by omega, Or.inr (by omega), by omega⟩
        have K4 : Kept fiT.slice 23 (fun b => Z b ∨ since w10 w4 b) w4 w.heap.size v (H.map Rv.t) := hK.mv hM4 (fun b hb => hb.imp_right (fun q => by have := q.1; omega))
        have hR4 : fiT.Row w4 (since w3 w5) A6 t := hR6.keep (fun b hb => hM4.block b (by have := hb.2; omega) (fun q => by have := (hZ b q).2.1; have := hb.1; have := hb.2; omega)) (fun _ h => h)
        refine op rfl (r_moveV (v := .tuple #[.int .i64 rn, .int .i64 ec]) rfl) ?_
        refine op rfl (r_extract (vs := [.int .i64 rn, .int .i64 ec]) rfl rfl) ?_
        refine op rfl (r_extract (vs := [.int .i64 rn, .int .i64 ec]) rfl rfl) ?_
        refine op rfl (r_assignV (v := .int .i64 rn) rfl) ?_
        refine op rfl (r_assignV (v := .int .i64 ec) rfl) ?_
        refine WL_nil ?_
        refine W_seq ?_
        refine W_seq ?_
        refine W_region ?_
        refine op rfl (r_moveV (v := .int .i64 ec) rfl) ?_
        refine op rfl (r_eql rfl rfl) ?_
        refine op rfl (r_moveV (v := hp p) (by rw [← hpv]; rfl)) ?_
        refine opCv rfl (r_call Tryd.func15 Tryd.nm15 rfl) (head_spec hH4) ?_
        rintro v11 w11 ⟨rfl, hE⟩
        replace hX := hX.trans hE
        have hE14 := hE
        refine op rfl (r_moveV (v := .int _ _) rfl) ?_
        refine op rfl (r_add' (r := (H.length : Int)) rfl rfl (by rw [wrap_i64 (by omega) (by omega)]; omega)) ?_
        refine op rfl (r_eql rfl rfl) ?_
        refine op rfl (rb_neq rfl rfl Tryd.underlying4) ?_
        refine op_false rfl (r_moveV (v := .bool (decide _)) rfl) (fun h => h (decide_eq_decide.2 ⟨fun q => by rw [if_pos q] at hH1l; omega, fun q => Classical.byContradiction fun hn => by rw [if_neg hn] at hH1l; omega⟩)) ?_
        refine opG_yes rfl rfl rfl rfl rfl (r_moveV (v := .int .i64 ec) rfl) ?_
        refine opG_yes rfl rfl rfl rfl rfl (r_eql rfl rfl) ?_
        refine opG_split rfl rfl rfl rfl rfl (r_moveV (v := .bool (decide _)) rfl) (fun hg71 => ?_) (fun hg71 => ?_)
        · refine opG_yes rfl rfl rfl rfl rfl (r_moveV (v := .int .i64 rn) rfl) ?_
          refine opG_yes rfl rfl rfl rfl rfl (r_moveV (v := .int _ _) rfl) ?_
          refine opG_yes rfl rfl rfl rfl rfl (r_add' (r := (H.length : Int)) rfl rfl (by rw [wrap_i64 (by omega) (by omega)]; omega)) ?_
          refine opG_yes rfl rfl rfl rfl rfl (r_neq rfl rfl) ?_
          refine opG_yes rfl rfl rfl rfl rfl (r_pickTV (v := .bool _) rfl rfl) ?_
          refine op rfl (r_pickFV (v := .bool _) rfl rfl) ?_
          refine op_false rfl (r_moveV (v := .bool (decide _)) rfl) (fun h => h (by obtain ⟨_, _, h1, _⟩ := hgood hg71; rw [h1])) ?_
          refine opG_yes rfl rfl rfl rfl rfl (r_moveV (v := .int .i64 ec) rfl) ?_
          refine opG_yes rfl rfl rfl rfl rfl (r_neq rfl rfl) ?_
          refine opG_false rfl rfl rfl rfl rfl (r_moveV (v := .bool (decide _)) rfl) (fun h => h hg71) ?_
          refine opG_no rfl rfl rfl rfl rfl ?_
          refine opG_no rfl rfl rfl rfl rfl ?_
          refine opG_no rfl rfl rfl rfl rfl ?_
          refine opG_no rfl rfl rfl rfl rfl ?_
          refine opG_yes rfl rfl rfl rfl rfl (r_pickFV (v := .bool _) rfl rfl) ?_
          refine op rfl (r_pickFV (v := .bool _) rfl rfl) ?_
          refine WL_nil ?_
          refine W_else rfl ?_
          refine W_skip ?_
          refine W_seq ?_
          refine W_region ?_
          refine op rfl (r_moveV (v := .int .i64 ec) rfl) ?_
          refine op rfl (r_eql rfl rfl) ?_
          refine WL_nil ?_
          refine W_ifp rfl (fun ht89 => ?_) (fun ht89 => ?_)
          · obtain ⟨u, hu1, hrn1, hap⟩ := hgood ht89
            have hgu : getR H1 (H.length : Int) = ⟨l[i], u⟩ := by
              have h := (getR_at (H := H1) (r := H.length) (by rw [hu1]; simp)).1
              rw [h]; simp [hu1]
            have hH14 := hH4.ext hE14
            refine W_seq ?_
            refine W_region ?_
            refine op rfl (r_moveV (v := hp p) (by rw [← hpv]; rfl)) ?_
            refine op rfl (r_moveV (v := .int .i64 (H.length : Int)) (by rw [← hrn1]; rfl)) ?_
            refine opCv rfl (r_call Tryd.func16 Tryd.nm16 rfl) (histAt_spec hH14 (H.length : Int)) ?_
            rintro v13 w13 ⟨v14, rfl, hO, hE⟩
            replace hX := hX.trans hE
            rw [hgu] at hO
            have hO : OwnT w11 w13 v14 u := hO
            obtain ⟨A9, c9, rfl, hc9, hr9⟩ := hO.rd
            have hru : rightT u := apply_right hap
            refine op rfl (r_moveV (v := .tuple #[.slice A9 u.length c9, .int .i64 (errR H1 (H.length : Int))]) rfl) ?_
            refine op rfl (r_extract (vs := [.slice A9 u.length c9, .int .i64 (errR H1 (H.length : Int))]) rfl rfl) ?_
            refine op rfl (r_extract (vs := [.slice A9 u.length c9, .int .i64 (errR H1 (H.length : Int))]) rfl rfl) ?_
            refine op rfl (r_assignV (v := .slice A9 u.length c9) rfl) ?_
            refine op rfl (r_assignV (v := .int .i64 (errR H1 (H.length : Int))) rfl) ?_
            refine WL_nil ?_
            refine W_seq ?_
            refine W_region ?_
            refine op rfl (r_moveV (v := v) rfl) ?_
            refine op rfl (r_moveV (v := .slice A9 u.length c9) rfl) ?_
            refine op_newS rfl (r_buildSlice (vs := [.slice A9 u.length c9]) Tryd.underlying42 Tryd.sz23 Tryd.zero23 rfl rfl rfl) ?_
            intro w15 b15 E15 B15 L15
            have hX15 := hX.trans E15
            have hr15 : fiT.Row w15 (since w11 w15) A9 u := hr9.keep (fun b hb => E15.block b hb.2) (fun b hb => ⟨hb.1, Nat.lt_of_lt_of_le hb.2 E15.size⟩)
            refine op_kept (T := fiT.slice) (w0 := w11) (B := w.heap.size) (a := u) rfl rfl rfl Tryd.underlying42 Tryd.sz23 Tryd.by23 Tryd.zero23 rfl (fun b hb => by have := (hZ4 b hb).2.2; have := hE14.size; omega) (by have := hX4.size; have := hE14.size; omega) (hE.trans E15) (K4.ext hE14) (Src.blk B15 ⟨A9, c9, rfl, hc9, Nat.le_trans hru.1 (by decide), hr15⟩) (by rw [List.length_map]; omega) (by rw [List.length_map]; omega) ?_
            intro v16 w16 K16 G16 N16 V16
            have hX16 : Ext w w16 := hX15.gro G16 hX15.size (fun k hk => (N16 k hk).1)
            have hE115 := hE.trans E15
            have hE415 := hE14.trans hE115
            have hH15 := hH4.ext hE415
            have hH16 := hH15.keep (fun b hb => G16.block b (by have := (hZ4 b hb).2.2; have := hE415.size; omega) (fun q => (N16 b q).2.2 hb))
            have hv16 : ∀ g, v16.ownBlock = some g → w5.heap.size ≤ g := fun g hg => by
              rcases V16 with q | ⟨g', q, hg'⟩
              · exact hv5 g (q ▸ hg)
              · rw [q] at hg; simp only [Option.some.injEq] at hg; have := hE415.size; omega
            have hR16 : fiT.Row w16 (since w3 w5) A6 t := hR4.keep (fun b hb => (G16.block b (by have := hb.2; have := hE415.size; omega) (fun q => by have := hv5 b q; have := hb.2; omega)).trans (hE415.block b (by have := hb.2; omega))) (fun _ h => h)
            have hru16 : fiT.Row w16 (since w11 w16) A9 u := hr15.keep (fun b hb => G16.block b hb.2 (fun q => by have := (N16 b q).2.1; have := hb.1; omega)) (fun b hb => ⟨hb.1, Nat.lt_of_lt_of_le hb.2 G16.size⟩)
            have hs16 : w4.heap.size ≤ w16.heap.size := by have := hE415.size; have := G16.size; omega
            have hXw := hX16
            clear hX
            have hX := Ext.refl w16
            obtain ⟨AT, cT, rfl, hcT, hrT⟩ := K16.read
            have hHi : H.length - 1 < (H.map Rv.t ++ [u]).length := by simp; omega
            have hHe : (H.map Rv.t ++ [u])[H.length - 1] = headT H := by
              rw [List.getElem_append_left (by rw [List.length_map]; omega), List.getElem_map, headT_eq hHl.1]
            obtain ⟨gT, oT, xT, hAT, hgT, hxT, hcellT⟩ := hrT.cells hHi
            obtain ⟨Ah, ch, rfl, hch0, hlh, hrh⟩ := hxT
            rw [hHe] at hch0 hlh hrh hcellT
            have hrH : rightT (headT H) := by
              rw [headT_eq hHl.1]
              exact (hist_ok hH' _ (List.getElem_mem _)).1
            have hcT2 : w16.cell? ⟨gT, oT + (H.length - 1), none⟩ = some (.slice Ah (headT H).length ch) := by
              have := hcellT 0 (Nat.lt_add_one 0)
              simp only [Ty.slice, Nat.mul_one, Nat.add_zero] at this
              simpa using this
            have hAt : ∀ W, Ext w16 W → Calls Tryd.prog 17 #[.slice Ah (headT H).length ch, .slice Ai l[i].length ci] W (fun en w' => ∃ v, en = .returned v ∧ ∃ v1, v = .tuple #[v1, .int .i64 0] ∧ RowS (old W) W w' v1 u ∧ Ext W w') := fun W he => by
              have := refApply_spec (cap := ch) (cd := ci) (w := W) (G := old W) (fun b hb => hb) (hrh.keep (fun b hb => he.block b hb.1) (fun b hb => Nat.lt_of_lt_of_le hb.1 he.size)) ((hrrW W (hXw.trans he)).keep (fun _ _ => rfl) (fun b hb => Nat.lt_of_lt_of_le hb (hXw.trans he).size)) (by have := hrH.1; omega) hch0 (tree_paths hrH) (fun d hd => right_path_len (run_paths (apply_run hap) d hd))
              rw [hap] at this
              exact this
            refine op rfl (r_assignV (v := .slice AT (H.map Rv.t ++ [u]).length cT) rfl) ?_
            refine WL_nil ?_
            refine W_seq ?_
            refine W_drawF (W0 := w16) (fun b : Nat => False) Tryd.wd rfl ?_
            intro wd19 hD
            replace hX := hX.trans hD
            have hS : Ext w16 wd19 ∧ Same (fun b : Nat => False) wd19 wd19 := ⟨hX, fun _ _ => rfl⟩
            refine A_take (i := 0) rfl (by kernel_rfl) (by kernel_rfl) (by kernel_rfl) rfl hS (fun _ hw => r_moveV (v := .slice AT (H.map Rv.t ++ [u]).length cT) rfl) ?_
            refine A_take (i := 1) rfl (by kernel_rfl) (by kernel_rfl) (by kernel_rfl) rfl hS (fun _ hw => r_moveV (v := .int .i64 (H.length : Int)) (by rw [← hrn1]; rfl)) ?_
            refine A_take (i := 2) rfl (by kernel_rfl) (by kernel_rfl) (by kernel_rfl) rfl hS (fun _ hw => r_sub' (r := ((H.length - 1 : Nat) : Int)) rfl rfl (by rw [wrap_i64 (by omega) (by omega)]; omega)) ?_
            refine A_take (i := 3) rfl (by kernel_rfl) (by kernel_rfl) (by kernel_rfl) rfl hS (fun _ hw => r_indexAddr1 rfl rfl hAT Tryd.underlying42 Tryd.sz23 (by omega) (by omega)) ?_
            refine A_take (i := 4) rfl (by kernel_rfl) (by kernel_rfl) (by kernel_rfl) rfl hS (fun _ hw => r_load (v := .slice Ah (headT H).length ch) rfl Tryd.underlying23 rfl (ext_cell hw.1 hcT2)) ?_
            refine A_take (i := 5) rfl (by kernel_rfl) (by kernel_rfl) (by kernel_rfl) rfl hS (fun _ hw => r_moveV (v := .slice Al l.length cl) rfl) ?_
            refine A_take (i := 6) rfl (by kernel_rfl) (by kernel_rfl) (by kernel_rfl) rfl hS (fun _ hw => r_moveV (v := .int _ _) rfl) ?_
            refine A_take (i := 7) rfl (by kernel_rfl) (by kernel_rfl) (by kernel_rfl) rfl hS (fun _ hw => r_indexAddr1 rfl rfl hA Tryd.underlying24 Tryd.sz33 (by omega) (by omega)) ?_
            refine A_take (i := 8) rfl (by kernel_rfl) (by kernel_rfl) (by kernel_rfl) rfl hS (fun _ hw => r_load (v := .slice Ai l[i].length ci) rfl Tryd.underlying33 rfl (ext_cell (hXw.trans hw.1) hcell)) ?_
            refine A_ready1 (i := 9) (by kernel_rfl) ?_
            refine O_call rfl rfl (r_call Tryd.func17 Tryd.nm17 rfl) (hAt _ hX) ?_
            rintro v17 w17 ⟨v18, rfl, hR18, hE⟩
            replace hX := hX.trans hE
            replace hS : Ext w16 w17 ∧ Same (fun b : Nat => False) wd19 w17 := ⟨hX, fun b hb => hb.elim⟩
            refine ⟨hS, ?_⟩
            obtain ⟨A10, c10, rfl, hc10, hr10⟩ := hR18
            have hs19 := hE.size
            refine A_take (i := 10) rfl (by kernel_rfl) (by kernel_rfl) (by kernel_rfl) rfl hS (fun _ hw => r_moveV (v := .tuple #[.slice A10 u.length c10, .int .i64 0]) rfl) ?_
            refine A_take (i := 11) rfl (by kernel_rfl) (by kernel_rfl) (by kernel_rfl) rfl hS (fun _ hw => r_extract (vs := [.slice A10 u.length c10, .int .i64 0]) rfl rfl) ?_
            refine A_take (i := 12) rfl (by kernel_rfl) (by kernel_rfl) (by kernel_rfl) rfl hS (fun _ hw => r_extract (vs := [.slice A10 u.length c10, .int .i64 0]) rfl rfl) ?_
            refine A_take (i := 13) rfl (by kernel_rfl) (by kernel_rfl) (by kernel_rfl) rfl hS (fun _ hw => r_assignV (v := .slice A10 u.length c10) rfl) ?_
            refine A_take (i := 14) rfl (by kernel_rfl) (by kernel_rfl) (by kernel_rfl) rfl hS (fun _ hw => r_assignV (v := .int .i64 0) rfl) ?_
            refine A_done (by kernel_rfl) ?_
            refine W_seq ?_
            refine W_region ?_
            refine op rfl (r_moveV (v := .int .i64 0) rfl) ?_
            refine op rfl (r_neq rfl rfl) ?_
            refine op_false rfl (r_moveV (v := .bool (decide _)) rfl) (fun h => h rfl) ?_
            refine opG_yes rfl rfl rfl rfl rfl (r_moveV (v := .slice A9 u.length c9) rfl) ?_
            refine opG_yes rfl rfl rfl rfl rfl (r_moveV (v := .slice A10 u.length c10) rfl) ?_
            have hr10' := hr10
            refine opGCv_yes rfl rfl rfl rfl rfl (r_call Tryd.func18 Tryd.nm18 rfl) (same_spec (hru16.keep (fun b hb ↦ hX.block b hb.2) (fun b hb ↦ Nat.lt_of_lt_of_le hb.2 hX.size)) (row_old hr10' (fun b hb ↦ by rcases hb with q | q; exact Nat.lt_of_lt_of_le q hs19; exact q.2)) (by have := hru.1; omega)) ?_
            rintro v19 w19 ⟨rfl, hE⟩
            replace hX := hX.trans hE
            refine opG_yes rfl rfl rfl rfl rfl (r_notP rfl) ?_
            refine op rfl (r_pickFV (v := .bool _) rfl rfl) ?_
            refine WL_nil ?_
            refine W_ifp rfl (fun ht120 => ?_) (fun ht120 => ?_)
            · exact absurd rfl ht120
            · refine W_skip ?_
              refine W_region ?_
              refine op rfl (r_moveV (v := .int _ _) rfl) ?_
              refine op rfl (r_add' (r := ((i + 1 : Nat) : Int)) rfl rfl (by rw [wrap_i64 (by omega) (by omega)]; omega)) ?_
              refine op rfl (r_assignV (v := .int _ _) rfl) ?_
              refine WL_nil ?_
              refine ⟨?_, by repeat (first | with_reducible exact Out.refl _ _ | with_reducible exact Out.mix | refine Out.put rfl ?_ | refine Out.mixin rfl ?_ | exact Out.refl _ _ | exact Out.mix)⟩
              first
                | exact ⟨l.length - (i + 1), by omega, i + 1, _, _, v, rfl, by omega, rfl, rfl, hch1, hH4.ext hE14, fun b hb => ⟨(hZ4 b hb).1, (hZ4 b hb).2.1, by have := (hZ4 b hb).2.2; have := hE14.size; omega⟩, by rw [hbad ht89]; exact K4.ext hE14, hv5, hR4.keep (fun b hb => hE14.block b (by have := hb.2; omega)) (fun _ h => h), by have := hE14.size; omega, hX⟩
                | exact ⟨l.length - (i + 1), by omega, i + 1, _, _, _, rfl, by omega, rfl, rfl, hch1, hH16.ext hX, fun b hb => ⟨(hZ4 b hb).1, (hZ4 b hb).2.1, by have := (hZ4 b hb).2.2; have := hX.size; omega⟩, by rw [hu1, List.map_append]; exact K16.ext hX, hv16, hR16.keep (fun b hb => hX.block b (by have := hb.2; omega)) (fun _ h => h), by have := hX.size; omega, hXw.trans hX⟩
          · refine W_skip ?_
            refine W_region ?_
            refine op rfl (r_moveV (v := .int _ _) rfl) ?_
            refine op rfl (r_add' (r := ((i + 1 : Nat) : Int)) rfl rfl (by rw [wrap_i64 (by omega) (by omega)]; omega)) ?_
            refine op rfl (r_assignV (v := .int _ _) rfl) ?_
            refine WL_nil ?_
            refine ⟨?_, by repeat (first | with_reducible exact Out.refl _ _ | with_reducible exact Out.mix | refine Out.put rfl ?_ | refine Out.mixin rfl ?_ | exact Out.refl _ _ | exact Out.mix)⟩
            first
              | exact ⟨l.length - (i + 1), by omega, i + 1, _, _, v, rfl, by omega, rfl, rfl, hch1, hH4.ext hE14, fun b hb => ⟨(hZ4 b hb).1, (hZ4 b hb).2.1, by have := (hZ4 b hb).2.2; have := hE14.size; omega⟩, by rw [hbad ht89]; exact K4.ext hE14, hv5, hR4.keep (fun b hb => hE14.block b (by have := hb.2; omega)) (fun _ h => h), by have := hE14.size; omega, hX⟩
              | exact ⟨l.length - (i + 1), by omega, i + 1, _, _, _, rfl, by omega, rfl, rfl, hch1, hH16.ext hX, fun b hb => ⟨(hZ4 b hb).1, (hZ4 b hb).2.1, by have := (hZ4 b hb).2.2; have := hX.size; omega⟩, by rw [hu1, List.map_append]; exact K16.ext hX, hv16, hR16.keep (fun b hb => hX.block b (by have := hb.2; omega)) (fun _ h => h), by have := hX.size; omega, hXw.trans hX⟩
        · refine opG_no rfl rfl rfl rfl rfl ?_
          refine opG_no rfl rfl rfl rfl rfl ?_
          refine opG_no rfl rfl rfl rfl rfl ?_
          refine opG_no rfl rfl rfl rfl rfl ?_
          refine opG_yes rfl rfl rfl rfl rfl (r_pickFV (v := .bool _) rfl rfl) ?_
          refine op rfl (r_pickFV (v := .bool _) rfl rfl) ?_
          refine op rfl (r_moveV (v := .bool _) rfl) ?_
          refine opG_yes rfl rfl rfl rfl rfl (r_moveV (v := .int .i64 ec) rfl) ?_
          refine opG_yes rfl rfl rfl rfl rfl (r_neq rfl rfl) ?_
          refine opG_true rfl rfl rfl rfl rfl (r_moveV (v := .bool (decide _)) rfl) (hg71) ?_
          refine opG_yes rfl rfl rfl rfl rfl (r_moveV (v := hp p) (by rw [← hpv]; rfl)) ?_
          refine opGCv_yes rfl rfl rfl rfl rfl (r_call Tryd.func15 Tryd.nm15 rfl) (head_spec (hH4.ext hE14)) ?_
          rintro v12 w12 ⟨rfl, hE⟩
          replace hX := hX.trans hE
          have hE14' := hE14
          clear hE14
          have hE14 := hE14'.trans hE
          refine opG_yes rfl rfl rfl rfl rfl (r_moveV (v := .int _ _) rfl) ?_
          refine opG_yes rfl rfl rfl rfl rfl (r_neq rfl rfl) ?_
          refine opG_yes rfl rfl rfl rfl rfl (r_pickTV (v := .bool _) rfl rfl) ?_
          refine op rfl (r_pickFV (v := .bool _) rfl rfl) ?_
          refine WL_nil ?_
          refine W_ifp rfl (fun ht87 => ?_) (fun ht87 => ?_)
          · exact absurd (by rw [hH1l, if_neg hg71]) ht87
          · refine W_skip ?_
            refine W_seq ?_
            refine W_region ?_
            refine op rfl (r_moveV (v := .int .i64 ec) rfl) ?_
            refine op rfl (r_eql rfl rfl) ?_
            refine WL_nil ?_
            refine W_ifp rfl (fun ht89 => ?_) (fun ht89 => ?_)
            · exact absurd ht89 hg71
            · refine W_skip ?_
              refine W_region ?_
              refine op rfl (r_moveV (v := .int _ _) rfl) ?_
              refine op rfl (r_add' (r := ((i + 1 : Nat) : Int)) rfl rfl (by rw [wrap_i64 (by omega) (by omega)]; omega)) ?_
              refine op rfl (r_assignV (v := .int _ _) rfl) ?_
              refine WL_nil ?_
              refine ⟨?_, by repeat (first | with_reducible exact Out.refl _ _ | with_reducible exact Out.mix | refine Out.put rfl ?_ | refine Out.mixin rfl ?_ | exact Out.refl _ _ | exact Out.mix)⟩
              first
                | exact ⟨l.length - (i + 1), by omega, i + 1, _, _, v, rfl, by omega, rfl, rfl, hch1, hH4.ext hE14, fun b hb => ⟨(hZ4 b hb).1, (hZ4 b hb).2.1, by have := (hZ4 b hb).2.2; have := hE14.size; omega⟩, by rw [hbad ht89]; exact K4.ext hE14, hv5, hR4.keep (fun b hb => hE14.block b (by have := hb.2; omega)) (fun _ h => h), by have := hE14.size; omega, hX⟩
                | exact ⟨l.length - (i + 1), by omega, i + 1, _, _, _, rfl, by omega, rfl, rfl, hch1, hH16.ext hX, fun b hb => ⟨(hZ4 b hb).1, (hZ4 b hb).2.1, by have := (hZ4 b hb).2.2; have := hX.size; omega⟩, by rw [hu1, List.map_append]; exact K16.ext hX, hv16, hR16.keep (fun b hb => hX.block b (by have := hb.2; omega)) (fun _ h => h), by have := hX.size; omega, hXw.trans hX⟩
      · obtain ⟨AT, cT, rfl, hcT, hrT⟩ := hK.read
        have hHm : (H.map Rv.t).length = H.length := List.length_map ..
        have hXe := hX
        obtain ⟨we, hwe⟩ : ∃ x, x = w0i := ⟨_, rfl⟩
        subst hwe
        refine W_exit (blk_hit ?_)
        refine W_seq ?_
        refine W_seq ?_
        refine W_region ?_
        refine op rfl (r_assignV (v := .int _ _) rfl) ?_
        refine WL_nil ?_
        refine W_block ?_
        refine W_loop [4, 18, 19, 20, 121, 122, 123, 124, 125, 126, 127, 128, 129, 130, 131, 132, 133, 134, 135, 136, 137, 138, 139] (fun q e' w' => ∃ (r : Nat), q = H.length - r ∧ r ≤ H.length ∧ e' 18 = .int .i64 r ∧ Ext we w') (H.length) ?_ ?_
        · exact ⟨0, by omega, by omega, rfl, Ext.refl _⟩
        intro k g w' hI
        obtain ⟨r, hqr, hrl, h18, hX''⟩ := hI
        clear hX
        have hX := hX''
        refine W_set (i := 18) h18 ?_
        refine W_seq ?_
        refine W_seq ?_
        refine W_region ?_
        refine op rfl (r_moveV (v := .int _ _) rfl) ?_
        refine op rfl (r_moveV (v := .slice _ _ _) rfl) ?_
        refine op rfl (r_len_slice rfl Tryd.underlying42) ?_
        refine op rfl (r_lss rfl rfl) ?_
        refine WL_nil ?_
        refine W_ifp rfl (fun ht124 => ?_) (fun ht124 => ?_)
        · have hrl' : r < H.length := by omega
          have hgr := (getR_at hrl').1
          have hri : r < (H.map Rv.t).length := by omega
          obtain ⟨gT, oT, xT, hAT, hgT, hxT, hcellT⟩ := hrT.cells hri
          obtain ⟨Ah, ch, rfl, hch0, hlh, hrh⟩ := hxT
          have hHe : (H.map Rv.t)[r] = H[r].t := List.getElem_map ..
          rw [hHe] at hch0 hlh hrh hcellT
          have hcT2 : we.cell? ⟨gT, oT + r, none⟩ = some (.slice Ah H[r].t.length ch) := by
            have := hcellT 0 (Nat.lt_add_one 0)
            simp only [Ty.slice, Nat.mul_one, Nat.add_zero] at this
            simpa using this
          refine W_skip ?_
          refine W_seq ?_
          refine W_block ?_
          refine W_seq ?_
          refine W_region ?_
          refine op rfl (r_moveV (v := hp p) (by rw [← hpv]; rfl)) ?_
          refine op rfl (r_moveV (v := .int _ _) rfl) ?_
          refine opCv rfl (r_call Tryd.func16 Tryd.nm16 rfl) (histAt_spec (hH'.ext hX) (r : Int)) ?_
          rintro v20 w20 ⟨v21, rfl, hO, hE⟩
          replace hX := hX.trans hE
          rw [hgr] at hO
          obtain ⟨A11, c11, rfl, hc11, hr11⟩ := hO.rd
          refine op rfl (r_moveV (v := .tuple #[.slice A11 H[r].t.length c11, .int .i64 (errR H (r : Int))]) rfl) ?_
          refine op rfl (r_extract (vs := [.slice A11 H[r].t.length c11, .int .i64 (errR H (r : Int))]) rfl rfl) ?_
          refine op rfl (r_extract (vs := [.slice A11 H[r].t.length c11, .int .i64 (errR H (r : Int))]) rfl rfl) ?_
          refine op rfl (r_assignV (v := .slice A11 H[r].t.length c11) rfl) ?_
          refine op rfl (r_assignV (v := .int .i64 (errR H (r : Int))) rfl) ?_
          refine WL_nil ?_
          refine W_seq ?_
          refine W_region ?_
          refine op rfl (r_moveV (v := .slice A11 H[r].t.length c11) rfl) ?_
          refine op rfl (r_moveV (v := .slice _ _ _) rfl) ?_
          refine op rfl (r_moveV (v := .int _ _) rfl) ?_
          refine op rfl (r_indexAddr1 rfl rfl hAT Tryd.underlying42 Tryd.sz23 (by omega) (by omega)) ?_
          refine op rfl (r_load (v := .slice Ah H[r].t.length ch) rfl Tryd.underlying23 rfl (ext_cell hX hcT2)) ?_
          refine opCv rfl (r_call Tryd.func18 Tryd.nm18 rfl) (same_spec (row_old hr11 (fun b hb ↦ hb.2)) (hrh.keep (fun b hb ↦ hX.block b hb.1) (fun b hb ↦ Nat.lt_of_lt_of_le hb.1 hX.size)) (by omega)) ?_
          rintro v22 w22 ⟨rfl, hE⟩
          replace hX := hX.trans hE
          refine op rfl (r_notP rfl) ?_
          refine WL_nil ?_
          refine W_ifp rfl (fun ht139 => ?_) (fun ht139 => ?_)
          · exact absurd rfl ht139
          · refine W_skip ?_
            refine W_region ?_
            refine op rfl (r_moveV (v := .int _ _) rfl) ?_
            refine op rfl (r_add' (r := ((r + 1 : Nat) : Int)) rfl rfl (by rw [wrap_i64 (by omega) (by omega)]; omega)) ?_
            refine op rfl (r_assignV (v := .int _ _) rfl) ?_
            refine WL_nil ?_
            refine ⟨?_, by repeat (first | with_reducible exact Out.refl _ _ | with_reducible exact Out.mix | refine Out.put rfl ?_ | refine Out.mixin rfl ?_ | exact Out.refl _ _ | exact Out.mix)⟩
            exact ⟨H.length - (r + 1), by omega, r + 1, by omega, by omega, rfl, hX⟩
        · refine W_exit (blk_hit ?_)
          refine W_seq ?_
          refine W_region ?_
          refine op rfl (r_moveV (v := .slice A6 t.length c6) rfl) ?_
          refine op rfl (r_moveV (v := .slice _ _ _) rfl) ?_
          refine opCv rfl (r_call Tryd.func18 Tryd.nm18 rfl) (same_spec (hR6.keep (fun b hb ↦ hX.block b (by have := hb.2; omega)) (fun b hb ↦ by have := hb.2; have := hX.size; omega)) (hrow.ext (hX'.trans hX)) hl) ?_
          rintro v23 w23 ⟨rfl, hE⟩
          replace hX := hX.trans hE
          refine op_true rfl (r_moveV (v := .bool (decide _)) rfl) (rfl) ?_
          refine opGCv_yes rfl rfl rfl rfl rfl (r_call Tryd.func10 Tryd.nm10 rfl) (known_spec _) ?_
          rintro v24 w24 ⟨rfl, hE⟩
          replace hX := hX.trans hE
          refine op rfl (r_pickTV (v := .bool _) rfl rfl) ?_
          refine op rfl (r_assignV (v := .bool _) rfl) ?_
          refine WL_nil ?_
          refine W_ret (finX_ret ?_)
          refine fin1 ?_
          first
            | exact ⟨_, rfl, by first | rfl | exact (bool_tt trivial).symm, hX⟩
            | exact ⟨_, rfl, by first | rfl | exact (bool_tt trivial).symm, hX'.trans hX⟩
theorem historyStays_row (W : World) (At : Option Addr) (ct : Nat) (t : List Fi) (hct : t.length ≤ ct) (ht : t.length ≤ big) (hT : fiT.Row W (old W) At t)
  (Al : Option Addr) (cl : Nat) (l : List (List Dl)) (hcl : l.length ≤ cl) (hl : l.length ≤ big) (hL : dlsT.Row W (old W) Al l) :
    Calls Tryd.prog 4 #[.slice At t.length ct, .slice Al l.length cl] W (fun e W' => ∃ v, e = .returned v ∧ v = .bool true ∧ Ext W W') :=
  historyStays_walk hT ht hL hl
end Go.Proofs.YtkdcmdcdjnmkaaaDoor
