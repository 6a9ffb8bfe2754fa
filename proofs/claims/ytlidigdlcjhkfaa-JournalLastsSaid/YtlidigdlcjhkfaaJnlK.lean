/-
  What the chapter's example fixes; lists beside lists.
-/
import Derived.Test.YtlidigdlcjhkfaaFacts
import Derived.Test.YtlidigdlcjhkfaaJnlP
namespace Go.Proofs.Ytlidigdlcjhkfaa
open Go Go.Eng Go.RowKit Go.Proofs
set_option linter.unusedVariables false
set_option linter.unusedSimpArgs false
set_option maxHeartbeats 4000000
set_option maxRecDepth 20000

theorem sameLists_spec (A1 : Option Addr) (c1 : Nat) (a : List (List UInt8)) (A2 : Option Addr) (c2 : Nat) (b : List (List UInt8)) (w : World) (ha : a.length ≤ big) (hA : BytesL w A1 a) (hB : BytesL w A2 b) :
    Calls Try.prog 13 #[.slice A1 a.length c1, .slice A2 b.length c2] w (fun en w' => ∃ v, en = .returned v ∧ v = .bool (decide (a = b)) ∧ Ext w w') := by
  unfold big at ha
  refine calls' (n := 28) (rs := #[.tmp 4]) (l := [.slice A1 a.length c1, .slice A2 b.length c2]) Try.func13 rfl rfl rfl rfl rfl ?_
  refine W_seq ?_
  refine W_region ?_
  refine op rfl (r_assignV (v := .bool _) rfl) ?_
  refine WL_nil ?_
  refine W_seq ?_
  refine W_seq ?_
  refine W_region ?_
  refine op rfl (r_moveV (v := .slice _ _ _) rfl) ?_
  refine op rfl (r_len_slice rfl Try.underlying22) ?_
  refine op rfl (r_moveV (v := .slice _ _ _) rfl) ?_
  refine op rfl (r_len_slice rfl Try.underlying22) ?_
  refine op rfl (r_neq rfl rfl) ?_
  refine WL_nil ?_
  refine W_ifp rfl (fun ht10 => ?_) (fun ht10 => ?_)
  · refine W_seq ?_
    refine W_region ?_
    refine op rfl (r_assignV (v := .bool _) rfl) ?_
    refine WL_nil ?_
    refine W_ret (finX_ret ?_)
    refine fin1 ?_
    exact ⟨_, rfl, by rw [decide_eq_false (show ¬ a = b from fun q => ht10 (by rw [q]))]; rfl, Ext.refl _⟩
  · have hab : a.length = b.length := by omega
    refine W_skip ?_
    refine W_seq ?_
    refine W_seq ?_
    refine W_region ?_
    refine op rfl (r_assignV (v := .int _ _) rfl) ?_
    refine WL_nil ?_
    refine W_block ?_
    refine W_loop [4, 5, 11, 12, 13, 14, 15, 16, 17, 18, 19, 20, 21, 22, 23, 24, 25, 26, 27] (fun k g w' => ∃ i : Nat, g 5 = .int .i64 i ∧ i ≤ a.length ∧ k = a.length - i ∧ a.take i = b.take i ∧ Ext w w') (a.length) ?_ ?_
    · exact ⟨0, rfl, by omega, by omega, by simp, Ext.refl _⟩
    intro k g w' hI
    obtain ⟨i, h5, hi, rfl, htk, HE⟩ := hI
    refine W_set (i := 5) h5 ?_
    refine W_seq ?_
    refine W_seq ?_
    refine W_region ?_
    refine op rfl (r_moveV (v := .int _ _) rfl) ?_
    refine op rfl (r_moveV (v := .slice _ _ _) rfl) ?_
    refine op rfl (r_len_slice rfl Try.underlying22) ?_
    refine op rfl (r_lss rfl rfl) ?_
    refine WL_nil ?_
    refine W_ifp rfl (fun ht14 => ?_) (fun ht14 => ?_)
    · replace ht14 : i < a.length := by omega
      have hib : i < b.length := by omega
      obtain ⟨b1, o1, Ai, ci, hAe, _, hc, hci, hcm, hr⟩ := hA.cellS ht14
      obtain ⟨b2, o2, Bi, di, hBe, _, hd, hdi, hdm, hq⟩ := hB.cellS hib
      refine W_skip ?_
      refine W_seq ?_
      refine W_block ?_
      refine W_seq ?_
      refine W_drawS (HE) Try.wd rfl ?_
      intro wd6 hD hS
      refine A_take (i := 0) rfl (by kernel_rfl) (by kernel_rfl) (by kernel_rfl) rfl hS (fun _ hw => r_moveV (v := .slice _ _ _) rfl) ?_
      refine A_take (i := 1) rfl (by kernel_rfl) (by kernel_rfl) (by kernel_rfl) rfl hS (fun _ hw => r_moveV (v := .int _ _) rfl) ?_
      refine A_take (i := 2) rfl (by kernel_rfl) (by kernel_rfl) (by kernel_rfl) rfl hS (fun _ hw => r_indexAddr1 rfl rfl hAe Try.underlying22 Try.sz23 (by omega) (by omega)) ?_
      refine A_take (i := 3) rfl (by kernel_rfl) (by kernel_rfl) (by kernel_rfl) rfl hS (fun _ hw => r_load rfl Try.underlying23 rfl (ext_cell hw hc)) ?_
      refine A_take (i := 4) rfl (by kernel_rfl) (by kernel_rfl) (by kernel_rfl) rfl hS (fun _ hw => r_str rfl Try.underlying23 Try.underlying5 Try.underlying9 (hr.ext hw)) ?_
      refine A_take (i := 5) rfl (by kernel_rfl) (by kernel_rfl) (by kernel_rfl) rfl hS (fun _ hw => r_moveV (v := .slice _ _ _) rfl) ?_
      refine A_take (i := 6) rfl (by kernel_rfl) (by kernel_rfl) (by kernel_rfl) rfl hS (fun _ hw => r_moveV (v := .int _ _) rfl) ?_
      refine A_take (i := 7) rfl (by kernel_rfl) (by kernel_rfl) (by kernel_rfl) rfl hS (fun _ hw => r_indexAddr1 rfl rfl hBe Try.underlying22 Try.sz23 (by omega) (by omega)) ?_
      refine A_take (i := 8) rfl (by kernel_rfl) (by kernel_rfl) (by kernel_rfl) rfl hS (fun _ hw => r_load rfl Try.underlying23 rfl (ext_cell hw hd)) ?_
      refine A_take (i := 9) rfl (by kernel_rfl) (by kernel_rfl) (by kernel_rfl) rfl hS (fun _ hw => r_str rfl Try.underlying23 Try.underlying5 Try.underlying9 (hq.ext hw)) ?_
      refine A_take (i := 10) rfl (by kernel_rfl) (by kernel_rfl) (by kernel_rfl) rfl hS (fun _ hw => rs_neq rfl rfl) ?_
      refine A_done (by kernel_rfl) ?_
      refine W_ifp rfl (fun ht27 => ?_) (fun ht27 => ?_)
      · refine W_seq ?_
        refine W_region ?_
        refine op rfl (r_assignV (v := .bool _) rfl) ?_
        refine WL_nil ?_
        refine W_ret (blk_ret (blk_ret (finX_ret ?_)))
        refine fin1 ?_
        exact ⟨_, rfl, by rw [decide_eq_false (show ¬ a = b from fun q => ht27 (by subst q; rfl))]; rfl, hS⟩
      · have hgi : a[i] = b[i] := str_inj (Classical.byContradiction fun q => ht27 q)
        refine W_skip ?_
        refine W_region ?_
        refine op rfl (r_moveV (v := .int _ _) rfl) ?_
        refine op rfl (r_add' rfl rfl (wrap_i64 (by omega) (by omega))) ?_
        refine op rfl (r_assignV (v := .int _ _) rfl) ?_
        refine WL_nil ?_
        refine ⟨?_, by repeat (first | with_reducible exact Out.refl _ _ | with_reducible exact Out.mix | refine Out.put rfl ?_ | refine Out.mixin rfl ?_ | exact Out.refl _ _ | exact Out.mix)⟩
        exact ⟨a.length - (i + 1), by omega, i + 1, rfl, by omega, rfl, by rw [List.take_succ_eq_append_getElem ht14, List.take_succ_eq_append_getElem hib, htk, hgi], hS⟩
    · obtain rfl : i = a.length := by omega
      rw [List.take_length, hab, List.take_length] at htk
      refine W_exit (blk_hit ?_)
      refine W_seq ?_
      refine W_region ?_
      refine op rfl (r_assignV (v := .bool _) rfl) ?_
      refine WL_nil ?_
      refine W_ret (finX_ret ?_)
      refine fin1 ?_
      exact ⟨_, rfl, by rw [decide_eq_true htk]; rfl, HE⟩
theorem longNil_spec (w : World) : Calls Try.prog 14 #[.slice none 0 0] w (fun en w' => ∃ v, en = .returned v ∧ v = .int .i64 0 ∧ Ext w w') := by
  refine calls' (n := 21) (rs := #[.tmp 2]) (l := [.slice none 0 0]) Try.func14 rfl rfl rfl rfl rfl ?_
  have hX := Ext.refl w
  refine W_seq ?_
  refine W_region ?_
  refine op rfl (r_assignV (v := .int _ _) rfl) ?_
  refine WL_nil ?_
  refine W_seq ?_
  refine W_region ?_
  refine op rfl (r_assignV (v := .int _ _) rfl) ?_
  refine WL_nil ?_
  refine W_seq ?_
  refine W_seq ?_
  refine W_region ?_
  refine op rfl (r_assignV (v := .int _ _) rfl) ?_
  refine WL_nil ?_
  refine W_block ?_
  refine W_loop [3, 4, 5, 6, 7, 8, 9, 10, 11, 12, 13, 14, 15, 16, 17, 18, 19] (fun q e' w' => e' 4 = .int .i64 0 ∧ e' 3 = .int .i64 0 ∧ Ext w w') (0) ?_ ?_
  · exact ⟨rfl, rfl, hX⟩
  intro k g w' hI
  obtain ⟨h4, h3, hX'⟩ := hI
  clear hX
  have hX := hX'
  refine W_set (i := 4) h4 ?_
  refine W_set (i := 3) h3 ?_
  refine W_seq ?_
  refine W_seq ?_
  refine W_region ?_
  refine op rfl (r_moveV (v := .int _ _) rfl) ?_
  refine op rfl (r_moveV (v := .slice _ _ _) rfl) ?_
  refine op rfl (r_len_slice rfl Try.underlying46) ?_
  refine op rfl (r_lss rfl rfl) ?_
  refine WL_nil ?_
  refine W_ifp rfl (fun ht8 => ?_) (fun ht8 => ?_)
  · exact absurd ht8 (by omega)
  · refine W_exit (blk_hit ?_)
    refine W_seq ?_
    refine W_region ?_
    refine op rfl (r_moveV (v := .int _ _) rfl) ?_
    refine op rfl (r_assignV (v := .int _ _) rfl) ?_
    refine WL_nil ?_
    refine W_ret (finX_ret ?_)
    refine fin1 ?_
    exact ⟨_, rfl, rfl, hX⟩
theorem JA.chg {jb p B b : Nat} {F : Nat → Prop} {w w' : World} {D : Dk} {s : Nat} (h : JA jb p B F w D s) (hb : F b) (hne : b ≠ jb) (hC : Chg b w w') : JA jb p B F w' D s :=
  ⟨hC.blk h.bj (fun q => hne q.symm), h.fa.chg hb hC, h.fj, h.lo⟩
theorem JA.weak {jb p B : Nat} {F G : Nat → Prop} {w : World} {D : Dk} {s : Nat} (h : JA jb p B F w D s) (hG : ∀ b, G b → F b) (hj : G jb) : JA jb p B G w D s := ⟨h.bj, h.fa.weak hG, hj, h.lo⟩
theorem bytes_of {w : World} {g : Nat} {cs : Array Value} {t : TypeId} {fr : Nat × Nat} {l : List UInt8} (h : w.heap[g]? = some (.cells cs t fr)) (hcs : cs = (l.map fun x => Value.int .u8 x.toNat).toArray) : Bytes w (some ⟨g, 0, none⟩) l := by
  subst hcs
  exact bytes_blk h (heap_lt h)
def kl : List UInt8 := [97, 98]
theorem known_spec (w : World) : Calls Try.prog 7 #[] w (fun en w' => ∃ v, en = .returned v ∧ v = .bool true ∧ Ext w w') := by
  have hz : ((999 : Nat) : Int) = 999 := rfl
  have j0 := J3.new 999 (by omega)
  rw [hz] at j0
  have f0 := WF.new 3 999
  have q0 : (Dk.new 3 999).seqOf = 0 := by rw [j0.seqOf]; show (chos (numd []) (numd [])).1 = 0; rw [chos_none]
  have r0 : (Dk.new 3 999).recsOf = ([], 0) := by rw [j0.recsOf]; exact Recs_none (rok_nil _)
  obtain ⟨y1, j1, y1n, y1o⟩ := j0.opened
  obtain rfl : y1 = e3 := by
    rcases y1o with q | q
    · rw [r0] at q; simp at q
    · exact q.2
  have f1 := f0.opened
  generalize hg1 : (Dk.new 3 999).opened = D1 at *
  have hrl : (rec1 0 kl).length = 18 := by rw [rec1_len]; rfl
  obtain ⟨x2, j2⟩ := j1.app2 (rec1 0 kl) (by rw [hrl]; simp)
  have f2 := f1.append 2 (rec1 0 kl)
  rw [hrl] at f2
  generalize hg2 : (D1.append 2 (rec1 0 kl)).1 = D2 at *
  obtain ⟨x3, j3⟩ := j2.sync2
  have f3 := f2.sync 2
  generalize hg3 : (D2.sync 2).1 = D3 at *
  have j4 := j3.restart 0
  have f4 := f3.restart 0
  generalize hg4 : D3.restart 0 = D4 at *
  simp only [back0, List.nil_append] at j4
  have s4 : D4.stateOf = [] := by rw [j4.stateOf]; show (chos (numd []) (numd [])).2 = []; rw [chos_none]
  have q4 : D4.seqOf = 0 := by rw [j4.seqOf]; show (chos (numd []) (numd [])).1 = 0; rw [chos_none]
  have r4 : D4.recsOf.1 = [kl] := by
    rw [j4.recsOf, q4]
    show (Recs (rec1 0 kl) 0).1 = [kl]
    rw [← jd_one, recs_all (by decide) (by simp [kl])]
  refine calls' (n := 72) (rs := #[.tmp 0]) (l := []) Try.func7 rfl rfl rfl rfl rfl ?_
  have hX := Ext.refl w
  refine W_seq ?_
  refine W_region ?_
  refine op rfl (r_assignV (v := .bool _) rfl) ?_
  refine WL_nil ?_
  refine W_seq ?_
  refine W_region ?_
  refine opCv rfl (r_call Try.func8 Try.nm8 rfl) (new_da 3 999 _) ?_
  rintro v w1 ⟨p, rfl, hE, hD0⟩
  replace hX := hX.trans hE
  refine op rfl (r_assignV (v := .pointer _) rfl) ?_
  refine WL_nil ?_
  refine W_seq ?_
  refine W_region ?_
  refine op rfl (r_moveV (v := .pointer _) rfl) ?_
  refine opCv rfl (r_call Try.func9 Try.nm9 rfl) (open_spec hD0.fa f0 (by omega) j0.live j0.n) ?_
  rintro v w2 ⟨F2, jb, A1, c1, A2, c2, rfl, hF2, hJ2, _, _, _, _, hFo2⟩
  rw [hg1, q0] at hJ2
  have hX2 : Ext w w2 := Below.trans hX hFo2.below
  replace hX := hX2
  refine op rfl (r_moveV (v := .tuple #[jq jb, .slice A1 (Dk.new 3 999).stateOf.length c1, .slice A2 (Dk.new 3 999).recsOf.1.length c2, .int .i64 0]) rfl) ?_
  refine op rfl (r_extract (vs := [jq jb, .slice A1 (Dk.new 3 999).stateOf.length c1, .slice A2 (Dk.new 3 999).recsOf.1.length c2, .int .i64 0]) rfl rfl) ?_
  refine op rfl (r_extract (vs := [jq jb, .slice A1 (Dk.new 3 999).stateOf.length c1, .slice A2 (Dk.new 3 999).recsOf.1.length c2, .int .i64 0]) rfl rfl) ?_
  refine op rfl (r_extract (vs := [jq jb, .slice A1 (Dk.new 3 999).stateOf.length c1, .slice A2 (Dk.new 3 999).recsOf.1.length c2, .int .i64 0]) rfl rfl) ?_
  refine op rfl (r_extract (vs := [jq jb, .slice A1 (Dk.new 3 999).stateOf.length c1, .slice A2 (Dk.new 3 999).recsOf.1.length c2, .int .i64 0]) rfl rfl) ?_
  refine op rfl (r_assignV (v := jq jb) rfl) ?_
  refine op rfl (r_assignV (v := .slice A1 (Dk.new 3 999).stateOf.length c1) rfl) ?_
  refine op rfl (r_assignV (v := .slice A2 (Dk.new 3 999).recsOf.1.length c2) rfl) ?_
  refine op rfl (r_assignV (v := .int .i64 0) rfl) ?_
  refine WL_nil ?_
  refine W_seq ?_
  refine W_region ?_
  refine op rfl (r_moveV (v := jq jb) rfl) ?_
  refine op_newS rfl (r_buildSlice (vs := [.int .u8 97, .int .u8 98]) Try.underlying23 Try.sz5 Try.zero5 rfl rfl rfl) ?_
  intro w3_1 b3_1 E3_1 B3_1 L3_1
  have hG3_1 : w.heap.size ≤ b3_1 := by have := hX.size; omega
  replace hX := hX.trans E3_1
  have hJ3 := hJ2.nw E3_1
  have hmb : Nw F2 w2 w3_1 b3_1 := Or.inr ⟨Nat.le_of_eq L3_1, Blk.lt B3_1⟩
  have hne : b3_1 ≠ jb := by have := Blk.lt hJ2.bj; omega
  refine op_convB rfl rfl Try.underlying23 Try.underlying5 B3_1 ?_
  intro w3_2 C3_2 B3_2
  have hJ3b := hJ3.chg hmb hne C3_2
  have hX3 : Ext w w3_2 := Chg.ext hX hG3_1 C3_2
  replace hX := hX3
  refine opCv rfl (r_call Try.func10 Try.nm10 rfl) (jappend_spec hJ3b (by decide) f1 (by omega) (some ⟨b3_1, 0, none⟩) 2 kl (by decide) (by decide) (bytes_of B3_2 rfl)) ?_
  rintro v w3 ⟨rfl, hJ4, hFo4⟩
  rw [hg2] at hJ4
  rw [x2]
  have hX4 : Ext w w3 := Below.trans hX hFo4.below
  replace hX := hX4
  refine op rfl (r_assignV (v := .int _ _) rfl) ?_
  refine WL_nil ?_
  refine W_seq ?_
  refine W_region ?_
  refine op rfl (r_moveV (v := jq jb) rfl) ?_
  refine opCv rfl (r_call Try.func15 Try.nm15 rfl) (jsync_spec hJ4 f2 (by omega)) ?_
  rintro v w4 ⟨rfl, hJ5, hFo5⟩
  rw [hg3] at hJ5
  rw [x3]
  have hX5 : Ext w w4 := Below.trans hX hFo5.below
  replace hX := hX5
  refine op rfl (r_assignV (v := .int _ _) rfl) ?_
  refine WL_nil ?_
  refine W_seq ?_
  refine W_region ?_
  refine op rfl (r_moveV (v := .pointer _) rfl) ?_
  refine opCv rfl (r_call Try.func17 Try.nm17 rfl) (restart_fa hJ5.fa f3 (by omega) 0) ?_
  rintro v w5 ⟨hF6, hFo6⟩
  rw [hg4] at hF6
  have hX6 : Ext w w5 := Below.trans hX hFo6.below
  replace hX := hX6
  refine WL_nil ?_
  refine W_seq ?_
  refine W_region ?_
  refine op rfl (r_moveV (v := .pointer _) rfl) ?_
  refine opCv rfl (r_call Try.func9 Try.nm9 rfl) (open_spec hF6 f4 (by omega) j4.live j4.n) ?_
  rintro v w6 ⟨F7, jb7, A7, c7, A8, c8, rfl, hF7, hJ7, _, _, _, hr7, hFo7⟩
  have hX7 : Ext w w6 := Below.trans hX hFo7.below
  replace hX := hX7
  rw [s4, r4] at *
  obtain ⟨g8, o8, A9, c9, hA8, _, hc9, _, _, hr9⟩ := Ty.Row.cellS hr7 (i := 0) (by decide)
  refine op rfl (r_moveV (v := .tuple #[jq jb7, .slice A7 ([] : List UInt8).length c7, .slice A8 [kl].length c8, .int .i64 0]) rfl) ?_
  refine op rfl (r_extract (vs := [jq jb7, .slice A7 ([] : List UInt8).length c7, .slice A8 [kl].length c8, .int .i64 0]) rfl rfl) ?_
  refine op rfl (r_extract (vs := [jq jb7, .slice A7 ([] : List UInt8).length c7, .slice A8 [kl].length c8, .int .i64 0]) rfl rfl) ?_
  refine op rfl (r_extract (vs := [jq jb7, .slice A7 ([] : List UInt8).length c7, .slice A8 [kl].length c8, .int .i64 0]) rfl rfl) ?_
  refine op rfl (r_extract (vs := [jq jb7, .slice A7 ([] : List UInt8).length c7, .slice A8 [kl].length c8, .int .i64 0]) rfl rfl) ?_
  refine op rfl (r_assignV (v := jq jb7) rfl) ?_
  refine op rfl (r_assignV (v := .slice A7 ([] : List UInt8).length c7) rfl) ?_
  refine op rfl (r_assignV (v := .slice A8 [kl].length c8) rfl) ?_
  refine op rfl (r_assignV (v := .int .i64 0) rfl) ?_
  refine WL_nil ?_
  refine W_seq ?_
  refine W_region ?_
  refine op rfl (r_assignV (v := .pointer _) rfl) ?_
  refine WL_nil ?_
  refine W_seq ?_
  refine W_region ?_
  refine op rfl (r_moveV (v := .int .i64 0) rfl) ?_
  refine op rfl (r_eql rfl rfl) ?_
  refine op_true rfl (r_moveV (v := .bool (decide _)) rfl) (rfl) ?_
  refine opG_yes rfl rfl rfl rfl rfl (r_moveV (v := .int _ _) rfl) ?_
  refine opG_yes rfl rfl rfl rfl rfl (r_eql rfl rfl) ?_
  refine op rfl (r_pickTV (v := .bool _) rfl rfl) ?_
  refine op_true rfl (r_moveV (v := .bool (decide _)) rfl) (rfl) ?_
  refine opG_yes rfl rfl rfl rfl rfl (r_moveV (v := .int _ _) rfl) ?_
  refine opG_yes rfl rfl rfl rfl rfl (r_eql rfl rfl) ?_
  refine op rfl (r_pickTV (v := .bool _) rfl rfl) ?_
  refine op_true rfl (r_moveV (v := .bool (decide _)) rfl) (rfl) ?_
  refine opG_yes rfl rfl rfl rfl rfl (r_moveV (v := .int .i64 0) rfl) ?_
  refine opG_yes rfl rfl rfl rfl rfl (r_eql rfl rfl) ?_
  refine op rfl (r_pickTV (v := .bool _) rfl rfl) ?_
  refine op_true rfl (r_moveV (v := .bool (decide _)) rfl) (rfl) ?_
  refine opG_yes rfl rfl rfl rfl rfl (r_moveV (v := .slice A7 ([] : List UInt8).length c7) rfl) ?_
  refine opG_yes rfl rfl rfl rfl rfl (r_len_slice rfl Try.underlying23) ?_
  refine opG_yes rfl rfl rfl rfl rfl (r_eql rfl rfl) ?_
  refine op rfl (r_pickTV (v := .bool _) rfl rfl) ?_
  refine op_true rfl (r_moveV (v := .bool (decide _)) rfl) (rfl) ?_
  refine opG_yes rfl rfl rfl rfl rfl (r_moveV (v := .slice A8 [kl].length c8) rfl) ?_
  refine opG_yes rfl rfl rfl rfl rfl (r_len_slice rfl Try.underlying22) ?_
  refine opG_yes rfl rfl rfl rfl rfl (r_eql rfl rfl) ?_
  refine op rfl (r_pickTV (v := .bool _) rfl rfl) ?_
  refine op_true rfl (r_moveV (v := .bool (decide _)) rfl) (rfl) ?_
  refine opG_yes rfl rfl rfl rfl rfl (r_moveV (v := .slice A8 [kl].length c8) rfl) ?_
  refine opG_yes rfl rfl rfl rfl rfl (r_indexAddr1 (i := 0) rfl rfl hA8 Try.underlying22 Try.sz23 (by omega) (by decide)) ?_
  refine opG_yes rfl rfl rfl rfl rfl (r_load (v := .slice A9 kl.length c9) rfl Try.underlying23 rfl hc9) ?_
  refine opG_yes rfl rfl rfl rfl rfl (r_str rfl Try.underlying23 Try.underlying5 Try.underlying9 hr9) ?_
  refine opG_yes rfl rfl rfl rfl rfl (rs_eql rfl rfl) ?_
  refine op rfl (r_pickTV (v := .bool _) rfl rfl) ?_
  refine op_true rfl (r_moveV (v := .bool (decide _)) rfl) (rfl) ?_
  refine opG_yes rfl rfl rfl rfl rfl (r_moveV (v := .pointer _) rfl) ?_
  refine opGCv_yes rfl rfl rfl rfl rfl (r_call Try.func15 Try.nm15 rfl) (jsyncNil_spec _) ?_
  rintro v w8 ⟨rfl, hE⟩
  replace hX := hX.trans hE
  refine opG_yes rfl rfl rfl rfl rfl (r_eql rfl rfl) ?_
  refine op rfl (r_pickTV (v := .bool _) rfl rfl) ?_
  refine op rfl (r_assignV (v := .bool _) rfl) ?_
  refine WL_nil ?_
  refine W_ret (finX_ret ?_)
  refine fin1 ?_
  exact ⟨_, rfl, rfl, hX⟩
end Go.Proofs.Ytlidigdlcjhkfaa
