/-
  Where there is no room, that is told, and what was there is there still: the walk.
-/
import Derived.Test.YtlidigdlcjhkfaaFacts
import Derived.Test.YtlidigdlcjhkfaaJnlN
import Derived.Test.YtlidigdlcjhkfaaJnlD
namespace Go.Proofs.Ytlidigdlcjhkfaa
open Go Go.Eng Go.RowKit Go.Proofs
set_option linter.unusedVariables false
set_option linter.unusedSimpArgs false
set_option maxHeartbeats 8000000
set_option maxRecDepth 20000

theorem okL_new {D : Dk} {x : List UInt8} (h : okL D x [] 0) : D.stateOf = x ∧ D.recsOf.1 = [] := by
  refine ⟨h.1, ?_⟩
  have := h.2.2.1
  exact List.length_eq_zero_iff.1 (by simpa using this)
theorem okL_all {D : Dk} {st : List UInt8} {rs : List (List UInt8)} (h : okL D st rs rs.length) : D.stateOf = st ∧ D.recsOf.1 = rs := by
  obtain ⟨h1, h2, h3, h4⟩ := h
  have : D.recsOf.1.length = rs.length := by omega
  rw [this, List.take_length] at h4
  exact ⟨h1, h4⟩
theorem journalFull_walk (W : World) (Ao : Option Addr) (co : Nat) (l : List (List UInt8)) (hco : l.length ≤ co) (hl : l.length ≤ big) (hA : Ty.byte.slice.Row W (old W) Ao l)
    (As : Option Addr) (cs : Nat) (st : List UInt8) (hcs : st.length ≤ cs) (hst : st.length ≤ big) (hS : Ty.byte.Row W (old W) As st) (room : Int) (hroom : inK .u16 room) :
    Calls Try.prog 4 #[.slice Ao l.length co, .slice As st.length cs, .int .u16 room] W (fun e W' => ∃ v, e = .returned v ∧ v = .bool true ∧ Ext W W') := by
  have hl' : l.length ≤ 140737488355328 := hl
  have hst' : st.length ≤ 140737488355328 := hst
  simp only [inK, lo, hi] at hroom
  clear hl hst
  refine calls' (n := 134) (rs := #[.tmp 6]) (l := [.slice Ao l.length co, .slice As st.length cs, .int .u16 room]) Try.func4 rfl rfl rfl rfl rfl ?_
  have hX := Ext.refl W
  refine W_seq ?_
  refine W_region ?_
  refine op rfl (r_assignV (v := .bool _) rfl) ?_
  refine WL_nil ?_
  refine W_seq ?_
  refine W_region ?_
  refine op rfl (r_assignV (v := .int _ _) rfl) ?_
  refine WL_nil ?_
  refine W_seq ?_
  refine W_seq ?_
  refine W_region ?_
  refine op rfl (r_assignV (v := .int _ _) rfl) ?_
  refine WL_nil ?_
  refine W_block ?_
  refine W_loop [7, 8, 22, 23, 24, 25, 26, 27, 28, 29, 30, 31, 32, 33, 34, 35] (fun q e' w' => ∃ (i : Nat) (s : Int), q = l.length - i ∧ i ≤ l.length ∧ e' 8 = .int .i64 i ∧ e' 7 = .int .i64 s ∧ (l.length ≤ 20 → s = i + (l.take i).flatten.length) ∧ (l.take i).flatten.length ≤ i * 140737488355328 ∧ Ext W w') (l.length) ?_ ?_
  · exact ⟨0, 0, by omega, by omega, rfl, rfl, fun _ => by simp, by simp, hX⟩
  intro k g w' hI
  obtain ⟨i, s, hq, hi, h8, h7, hs, hsb, hX'⟩ := hI
  clear hX
  have hX := hX'
  clear hX'
  refine W_set (i := 8) h8 ?_
  refine W_set (i := 7) h7 ?_
  refine W_seq ?_
  refine W_seq ?_
  refine W_region ?_
  refine op rfl (r_moveV (v := .int _ _) rfl) ?_
  refine op rfl (r_moveV (v := .slice _ _ _) rfl) ?_
  refine op rfl (r_len_slice rfl Try.underlying22) ?_
  refine op rfl (r_lss rfl rfl) ?_
  refine WL_nil ?_
  refine W_ifp rfl (fun ht25 => ?_) (fun ht25 => ?_)
  · have hlt : i < l.length := by omega
    obtain ⟨ga, oa, Ai, ci, hAe, hga, hcell, hci, hbig, hrow⟩ := Ty.Row.cellS (hA.ext hX) hlt
    have hbig' : l[i].length ≤ 140737488355328 := hbig
    refine W_skip ?_
    refine W_seq ?_
    refine W_block ?_
    refine W_region ?_
    refine op rfl (r_moveV (v := .int _ _) rfl) ?_
    refine op rfl (r_add rfl rfl) ?_
    refine op rfl (r_moveV (v := .slice _ _ _) rfl) ?_
    refine op rfl (r_moveV (v := .int _ _) rfl) ?_
    refine op rfl (r_indexAddr1 rfl rfl hAe Try.underlying22 Try.sz23 (by omega) (by omega)) ?_
    refine op rfl (r_load (v := .slice Ai l[i].length ci) rfl Try.underlying23 rfl hcell) ?_
    refine op rfl (r_len_slice rfl Try.underlying23) ?_
    refine op rfl (r_add rfl rfl) ?_
    refine op rfl (r_assignV (v := .int _ _) rfl) ?_
    refine WL_nil ?_
    refine W_region ?_
    refine op rfl (r_moveV (v := .int _ _) rfl) ?_
    refine op rfl (r_add' rfl rfl (wrap_i64 (by omega) (by omega))) ?_
    refine op rfl (r_assignV (v := .int _ _) rfl) ?_
    refine WL_nil ?_
    refine ⟨?_, by repeat (first | with_reducible exact Out.refl _ _ | with_reducible exact Out.mix | refine Out.put rfl ?_ | refine Out.mixin rfl ?_ | exact Out.refl _ _ | exact Out.mix)⟩
    refine ⟨l.length - (i + 1), by omega, i + 1, _, rfl, by omega, rfl, rfl, fun h20 => ?_, by rw [fl_succ hlt]; omega, hX⟩
    rw [hs h20, fl_succ hlt, wrap_i64 (x := (i : Int) + ((l.take i).flatten.length : Nat) + 1) (by omega) (by omega), wrap_i64 (by omega) (by omega)]
    omega
  · obtain rfl : i = l.length := by omega
    rw [List.take_length] at hs hsb
    obtain ⟨w0, hw0⟩ : ∃ w0, w0 = w' := ⟨_, rfl⟩
    subst hw0
    refine W_exit (blk_hit ?_)
    refine W_seq ?_
    refine W_seq ?_
    refine W_region ?_
    refine op rfl (r_moveV (v := .int _ _) rfl) ?_
    refine op rfl (r_gtr rfl rfl) ?_
    refine op_split rfl (r_moveV (v := .bool (decide _)) rfl) (fun hg38 => ?_) (fun hg38 => ?_)
    · refine opG_no rfl rfl rfl rfl rfl ?_
      refine opG_no rfl rfl rfl rfl rfl ?_
      refine opG_no rfl rfl rfl rfl rfl ?_
      refine op rfl (r_pickTV (v := .bool _) rfl rfl) ?_
      refine op rfl (r_moveV (v := .bool _) rfl) ?_
      refine opG_no rfl rfl rfl rfl rfl ?_
      refine opG_no rfl rfl rfl rfl rfl ?_
      refine opG_no rfl rfl rfl rfl rfl ?_
      refine op rfl (r_pickTV (v := .bool _) rfl rfl) ?_
      refine WL_nil ?_
      refine W_then rfl ?_
      refine W_seq ?_
      refine W_region ?_
      refine opCv rfl (r_call Try.func7 Try.nm7 rfl) (known_spec _) ?_
      rintro v w2 ⟨rfl, hE⟩
      replace hX := hX.trans hE
      refine op rfl (r_assignV (v := .bool _) rfl) ?_
      refine WL_nil ?_
      refine W_ret (finX_ret ?_)
      refine fin1 ?_
      exact ⟨_, rfl, rfl, hX⟩
    · refine opG_yes rfl rfl rfl rfl rfl (r_moveV (v := .slice _ _ _) rfl) ?_
      refine opG_yes rfl rfl rfl rfl rfl (r_len_slice rfl Try.underlying22) ?_
      refine opG_yes rfl rfl rfl rfl rfl (r_gtr rfl rfl) ?_
      refine op rfl (r_pickFV (v := .bool _) rfl rfl) ?_
      refine op_split rfl (r_moveV (v := .bool (decide _)) rfl) (fun hg43 => ?_) (fun hg43 => ?_)
      · refine opG_no rfl rfl rfl rfl rfl ?_
        refine opG_no rfl rfl rfl rfl rfl ?_
        refine opG_no rfl rfl rfl rfl rfl ?_
        refine op rfl (r_pickTV (v := .bool _) rfl rfl) ?_
        refine WL_nil ?_
        refine W_then rfl ?_
        refine W_seq ?_
        refine W_region ?_
        refine opCv rfl (r_call Try.func7 Try.nm7 rfl) (known_spec _) ?_
        rintro v w2 ⟨rfl, hE⟩
        replace hX := hX.trans hE
        refine op rfl (r_assignV (v := .bool _) rfl) ?_
        refine WL_nil ?_
        refine W_ret (finX_ret ?_)
        refine fin1 ?_
        exact ⟨_, rfl, rfl, hX⟩
      · refine opG_yes rfl rfl rfl rfl rfl (r_moveV (v := .slice _ _ _) rfl) ?_
        refine opG_yes rfl rfl rfl rfl rfl (r_len_slice rfl Try.underlying23) ?_
        refine opG_yes rfl rfl rfl rfl rfl (r_gtr rfl rfl) ?_
        refine op rfl (r_pickFV (v := .bool _) rfl rfl) ?_
        refine WL_nil ?_
        refine W_ifp rfl (fun ht47 => ?_) (fun ht47 => ?_)
        · refine W_seq ?_
          refine W_region ?_
          refine opCv rfl (r_call Try.func7 Try.nm7 rfl) (known_spec _) ?_
          rintro v w2 ⟨rfl, hE⟩
          replace hX := hX.trans hE
          refine op rfl (r_assignV (v := .bool _) rfl) ?_
          refine WL_nil ?_
          refine W_ret (finX_ret ?_)
          refine fin1 ?_
          exact ⟨_, rfl, rfl, hX⟩
        · have hn20 : l.length ≤ 20 := by omega
          have hsum : l.length + l.flatten.length ≤ 600 := by have := hs hn20; omega
          have hs200 : st.length ≤ 200 := by omega
          have hmem : ∀ x ∈ l, x.length ≤ 600 := fun x hx => by have := flat_mem_le hx; omega
          clear hs hsb
          obtain ⟨r, hr, hr600⟩ : ∃ r : Nat, Int.tmod room 600 = r ∧ r < 600 := ⟨(room % 600).toNat, by rw [Int.tmod_eq_emod_of_nonneg (by omega)]; omega, by omega⟩
          have i0 := Inv.new r (by omega)
          have l0 := live_new 3 r
          have f0 := WF.new 3 r
          obtain ⟨q0, _, _, o0⟩ := i0.open l0 (by decide) (by simp)
          have hX8 := hX
          refine W_skip ?_
          refine W_seq ?_
          refine W_region ?_
          refine op rfl (r_moveV (v := .int _ _) rfl) ?_
          refine op rfl (r_conv' (r := room) rfl Try.underlying37 Try.underlying3 (wrap_i64 (by omega) (by omega))) ?_
          refine op rfl (r_rem' (r := (r : Int)) rfl rfl (by omega) hr) ?_
          refine opCv rfl (r_call Try.func8 Try.nm8 rfl) (new_da 3 r _) ?_
          rintro v w1 ⟨p, rfl, hE, hD0⟩
          replace hX := hX.trans hE
          refine op rfl (r_assignV (v := .pointer _) rfl) ?_
          refine WL_nil ?_
          refine W_seq ?_
          refine W_region ?_
          refine op rfl (r_moveV (v := .pointer _) rfl) ?_
          refine opCv rfl (r_call Try.func9 Try.nm9 rfl) (open_spec hD0.fa f0 (by omega) l0 i0.al.n) ?_
          rintro v w2 ⟨F2, jb, A1, c1, A2, c2, rfl, hF2, hJ2, _, _, _, _, hFo2⟩
          rw [q0, o0] at hJ2
          have hX2 : Ext W w2 := Below.trans hX (hFo2.below.mono hX8.size)
          replace hX := hX2
          generalize Dk.new 3 (r : Int) = D0 at *
          refine op rfl (r_moveV (v := .tuple #[jq jb, .slice A1 D0.stateOf.length c1, .slice A2 D0.recsOf.1.length c2, .int .i64 0]) rfl) ?_
          refine op rfl (r_extract (vs := [jq jb, .slice A1 D0.stateOf.length c1, .slice A2 D0.recsOf.1.length c2, .int .i64 0]) rfl rfl) ?_
          refine op rfl (r_extract (vs := [jq jb, .slice A1 D0.stateOf.length c1, .slice A2 D0.recsOf.1.length c2, .int .i64 0]) rfl rfl) ?_
          refine op rfl (r_extract (vs := [jq jb, .slice A1 D0.stateOf.length c1, .slice A2 D0.recsOf.1.length c2, .int .i64 0]) rfl rfl) ?_
          refine op rfl (r_extract (vs := [jq jb, .slice A1 D0.stateOf.length c1, .slice A2 D0.recsOf.1.length c2, .int .i64 0]) rfl rfl) ?_
          refine op rfl (r_assignV (v := jq jb) rfl) ?_
          refine op rfl (r_assignV (v := .slice A1 D0.stateOf.length c1) rfl) ?_
          refine op rfl (r_assignV (v := .slice A2 D0.recsOf.1.length c2) rfl) ?_
          refine op rfl (r_assignV (v := .int .i64 0) rfl) ?_
          refine WL_nil ?_
          refine W_seq ?_
          refine W_seq ?_
          refine W_region ?_
          refine op rfl (r_moveV (v := .int .i64 0) rfl) ?_
          refine op rfl (r_neq rfl rfl) ?_
          refine WL_nil ?_
          refine W_ifp rfl (fun ht61 => ?_) (fun ht61 => ?_)
          · exact absurd rfl ht61
          · refine W_skip ?_
            refine W_seq ?_
            refine W_region ?_
            refine op rfl (r_assignV (v := .slice _ _ _) rfl) ?_
            refine WL_nil ?_
            refine W_seq ?_
            refine W_seq ?_
            refine W_region ?_
            refine op rfl (r_assignV (v := .int _ _) rfl) ?_
            refine WL_nil ?_
            refine W_block ?_
            refine W_loop [6, 14, 15, 16, 62, 63, 64, 65, 66, 67, 68, 69, 70, 71, 72, 73, 74, 75, 76, 77, 78, 79, 80, 81, 82, 83, 84] (fun q e' w' => ∃ (i : Nat) (D : Dk) (mine : List (List UInt8)) (C : Ar) (u : Value) (F : Nat → Prop), q = l.length - i ∧ i ≤ l.length ∧ e' 15 = .int .i64 i ∧ e' 14 = u ∧ Inv D r 0 [] mine 0 e3 e3 C ∧ Live D ∧ WF D (i * 5000) ∧ JA jb p w0.heap.size F w' D 0 ∧ (∀ y ∈ mine, y.length ≤ 600) ∧ mine.length ≤ i ∧ Eng.Own Ty.byte.slice w' (old W) w0.heap.size 23 u mine ∧ (∀ b, u.ownBlock = some b → F b ∧ b ≠ jb) ∧ Ext W w') (l.length) ?_ ?_
            · exact ⟨0, D0, [], e3, .slice none 0 0, F2, by omega, by omega, rfl, rfl, i0, l0, f0, hJ2, by simp, Nat.le_refl _, Own.nil, (fun b q => by cases q), hX⟩
            intro k g w' hI
            obtain ⟨i, D, mine, C, u, F, hq2, hi2, h10, h14, hInv, hLv, hWF, hJ, hml, hmi, hOu, hub, hX'⟩ := hI
            clear hX
            have hX := hX'
            clear hX'
            refine W_set (i := 15) h10 ?_
            refine W_set (i := 14) h14 ?_
            refine W_seq ?_
            refine W_seq ?_
            refine W_region ?_
            refine op rfl (r_moveV (v := .int _ _) rfl) ?_
            refine op rfl (r_moveV (v := .slice _ _ _) rfl) ?_
            refine op rfl (r_len_slice rfl Try.underlying22) ?_
            refine op rfl (r_lss rfl rfl) ?_
            refine WL_nil ?_
            refine W_ifp rfl (fun ht65 => ?_) (fun ht65 => ?_)
            · have hlt : i < l.length := by omega
              obtain ⟨ga, oa, Ai, ci, hAe, hga, hcell, hci, hbig, hrow⟩ := Ty.Row.cellS hA hlt
              have hxi := hmem _ (List.getElem_mem hlt)
              have hr1 := rec1_len 0 l[i]
              have hL1 := live_appendL hLv 2 (rec1 0 l[i])
              have f1 := hWF.append 2 (rec1 0 l[i])
              have hcase : ((D.append 2 (rec1 0 l[i])).2 = 0 ∧ ∃ C', Inv (D.append 2 (rec1 0 l[i])).1 r 0 [] (mine ++ [l[i]]) 0 e3 e3 C') ∨ (D.append 2 (rec1 0 l[i])) = (D, 8) := by
                by_cases hf : 0 + 0 + C.now.length + (16 + l[i].length) ≤ r
                · obtain ⟨a1, C1, hI1, _⟩ := (hInv.append l[i] hf).resolve_right (fun q => hL1.2 q.1)
                  exact Or.inl ⟨a1, C1, hI1⟩
                · exact Or.inr (JP.full (hInv.jp hLv) (a := 2) (by omega) _ (by rw [tot_pos, hr1]; exact hf))
              refine W_skip ?_
              refine W_seq ?_
              refine W_block ?_
              refine W_seq ?_
              refine W_region ?_
              refine op rfl (r_moveV (v := jq jb) rfl) ?_
              refine op rfl (r_moveV (v := .slice _ _ _) rfl) ?_
              refine op rfl (r_moveV (v := .int _ _) rfl) ?_
              refine op rfl (r_indexAddr1 rfl rfl hAe Try.underlying22 Try.sz23 (by omega) (by omega)) ?_
              refine op rfl (r_load (v := .slice Ai l[i].length ci) rfl Try.underlying23 rfl (ext_cell hX hcell)) ?_
              refine opCv rfl (r_call Try.func10 Try.nm10 rfl) (jappend_spec hJ (by omega) hWF (by omega) Ai ci l[i] hci (by omega) (hrow.ext hX)) ?_
              rintro v w3 ⟨rfl, hJ3, hFo3⟩
              have hX3 : Ext W w3 := Below.trans hX (hFo3.below.mono hX8.size)
              replace hX := hX3
              have hOu3 := hOu.keep (w' := w3) (fun b hb => hFo3.below.block b (Nat.lt_of_lt_of_le hb hX8.size)) (fun _ h => h) (fun g hg => hFo3.same g (hub g hg).1)
              refine op rfl (r_assignV (v := .int _ _) rfl) ?_
              refine WL_nil ?_
              refine W_seq ?_
              refine W_region ?_
              refine op rfl (r_moveV (v := .int _ _) rfl) ?_
              refine op rfl (r_eql rfl rfl) ?_
              refine WL_nil ?_
              refine W_ifp rfl (fun ht75 => ?_) (fun ht75 => ?_)
              · obtain ⟨C1, hI1⟩ : ∃ C', Inv (D.append 2 (rec1 0 l[i])).1 r 0 [] (mine ++ [l[i]]) 0 e3 e3 C' := by
                  rcases hcase with ⟨_, q⟩ | q
                  · exact q
                  · rw [q] at ht75; exact absurd (show (8 : Int) = 0 from ht75) (by decide)
                refine W_region ?_
                refine op rfl (r_moveV (v := u) rfl) ?_
                refine op rfl (r_moveV (v := .slice _ _ _) rfl) ?_
                refine op rfl (r_moveV (v := .int _ _) rfl) ?_
                refine op rfl (r_indexAddr1 rfl rfl hAe Try.underlying22 Try.sz23 (by omega) (by omega)) ?_
                refine op rfl (r_load (v := .slice Ai l[i].length ci) rfl Try.underlying23 rfl (ext_cell hX hcell)) ?_
                refine op_newS rfl (r_buildSlice (vs := [.slice _ _ _]) Try.underlying22 Try.sz23 Try.zero23 rfl rfl rfl) ?_
                intro w18_5 b18_5 E18_5 B18_5 L18_5
                have hG18_5 : W.heap.size ≤ b18_5 := by have := hX.size; omega
                replace hX := hX.trans E18_5
                have hb0 : ∀ b, old W b → b < w0.heap.size := fun b hb => Nat.lt_of_lt_of_le hb hX8.size
                have hOu4 := hOu3.ext E18_5 (fun b hb => Nat.lt_of_lt_of_le hb (hX3.size))
                obtain ⟨vb, w19, hrb, hOb, hGb, hnb⟩ := run_append (T := Ty.byte.slice) (F := old W) (P := Try.prog) (t := 22) (ty := 22) (m := [l[i]]) (c := 1) (A := some ⟨b18_5, 0, none⟩) (B := w0.heap.size) Try.underlying22 Try.sz23 Try.by23 Try.zero23 rfl hOu4 (Src.blk (c := [.slice Ai l[i].length ci]) B18_5 ⟨Ai, ci, rfl, hci, hbig, hrow.keep hX.same (fun _ h => h)⟩) (fun b hb => ⟨Nat.lt_of_lt_of_le hb hX.size, fun q => by have := (hOu4.lt q).1; have := hb0 b hb; omega⟩) (by simp only [List.length_singleton]; omega) (by simp only [List.length_singleton]; omega) (by have := hJ3.fa.le; have := E18_5.size; omega)
                have hJ4 := hJ3.ext E18_5
                have hjlt := Blk.lt hJ4.bj
                have hJ5 := hJ4.gro hGb hub hnb (fun b q => (hOb.lt q).2)
                have hX19 : Ext W w19 := Below.gro hX hGb hX.size (fun k hk => Nat.le_trans hX8.size (hOu4.lt hk).1)
                replace hX := hX19
                have hub5 : ∀ b, vb.ownBlock = some b → (F b ∨ vb.ownBlock = some b) ∧ b ≠ jb := fun b q => ⟨Or.inr q, fun e => by
                  rcases hnb with h | ⟨g, h, hg⟩
                  · rw [h] at q; exact (hub b q).2 e
                  · rw [h] at q; cases q; omega⟩
                refine op rfl (r_append rfl rfl hrb) ?_
                refine op rfl (r_assignV (v := vb) rfl) ?_
                have hEnd : Inv (D.append 2 (rec1 0 l[i])).1 r 0 [] (mine ++ [l[i]]) 0 e3 e3 C1 ∧ Live (D.append 2 (rec1 0 l[i])).1 ∧ WF (D.append 2 (rec1 0 l[i])).1 ((i + 1) * 5000) ∧ JA jb p w0.heap.size (fun b => F b ∨ vb.ownBlock = some b) w19 (D.append 2 (rec1 0 l[i])).1 0 ∧ (∀ y ∈ mine ++ [l[i]], y.length ≤ 600) ∧ (mine ++ [l[i]]).length ≤ i + 1 ∧ Eng.Own Ty.byte.slice w19 (old W) w0.heap.size 23 vb (mine ++ [l[i]]) ∧ (∀ b, vb.ownBlock = some b → (F b ∨ vb.ownBlock = some b) ∧ b ≠ jb) ∧ Ext W w19 :=
                  ⟨hI1, hL1.1, f1.mono (by rw [hr1]; omega), hJ5, (fun y hy => by
                    rcases List.mem_append.1 hy with q | q
                    · exact hml y q
                    · have : y = l[i] := by simpa using q
                      rw [this]; exact hxi), by simp only [List.length_append, List.length_singleton]; omega, hOb, hub5, hX⟩
                refine WL_nil ?_
                refine W_region ?_
                refine op rfl (r_moveV (v := .int _ _) rfl) ?_
                refine op rfl (r_add' rfl rfl (wrap_i64 (by omega) (by omega))) ?_
                refine op rfl (r_assignV (v := .int _ _) rfl) ?_
                refine WL_nil ?_
                refine ⟨?_, by repeat (first | with_reducible exact Out.refl _ _ | with_reducible exact Out.mix | refine Out.put rfl ?_ | refine Out.mixin rfl ?_ | exact Out.refl _ _ | exact Out.mix)⟩
                exact ⟨l.length - (i + 1), by omega, i + 1, _, _, _, _, _, rfl, by omega, rfl, rfl, hEnd⟩
              · have hap : D.append 2 (rec1 0 l[i]) = (D, 8) := by
                  rcases hcase with ⟨q, _⟩ | q
                  · exact absurd (by rw [q]) ht75
                  · exact q
                rw [hap] at hJ3
                refine W_seq ?_
                refine W_region ?_
                refine op rfl (r_moveV (v := .int _ _) rfl) ?_
                refine op rfl (r_neq rfl rfl) ?_
                refine WL_nil ?_
                refine W_ifp rfl (fun ht84 => ?_) (fun ht84 => ?_)
                · exact absurd (by rw [hap]) ht84
                · have hEnd : Inv D r 0 [] mine 0 e3 e3 C ∧ Live D ∧ WF D ((i + 1) * 5000) ∧ JA jb p w0.heap.size F w3 D 0 ∧ (∀ y ∈ mine, y.length ≤ 600) ∧ mine.length ≤ i + 1 ∧ Eng.Own Ty.byte.slice w3 (old W) w0.heap.size 23 u mine ∧ (∀ b, u.ownBlock = some b → F b ∧ b ≠ jb) ∧ Ext W w3 := ⟨hInv, hLv, hWF.mono (by omega), hJ3, hml, by omega, hOu3, hub, hX⟩
                  refine W_skip ?_
                  refine W_region ?_
                  refine op rfl (r_moveV (v := .int _ _) rfl) ?_
                  refine op rfl (r_add' rfl rfl (wrap_i64 (by omega) (by omega))) ?_
                  refine op rfl (r_assignV (v := .int _ _) rfl) ?_
                  refine WL_nil ?_
                  refine ⟨?_, by repeat (first | with_reducible exact Out.refl _ _ | with_reducible exact Out.mix | refine Out.put rfl ?_ | refine Out.mixin rfl ?_ | exact Out.refl _ _ | exact Out.mix)⟩
                  exact ⟨l.length - (i + 1), by omega, i + 1, _, _, _, _, _, rfl, by omega, rfl, rfl, hEnd⟩
            · obtain rfl : i = l.length := by omega
              have hWF' : WF D 100000 := hWF.mono (by omega)
              obtain ⟨zs, Cs, hIs, _⟩ := hInv.sync.resolve_right (fun q => (live_syncL hLv 2).2 q.1)
              have hLs := (live_syncL hLv 2).1
              have fs := hWF'.sync 2
              have z1 := (live_cutL hLs (sl 0 : Nat) 0)
              refine W_exit (blk_hit ?_)
              refine W_seq ?_
              refine W_seq ?_
              refine W_region ?_
              refine op rfl (r_moveV (v := jq jb) rfl) ?_
              refine opCv rfl (r_call Try.func15 Try.nm15 rfl) (jsync_spec hJ hWF' (by omega)) ?_
              rintro v w4 ⟨rfl, hJ4, hFo4⟩
              have hX4 : Ext W w4 := Below.trans hX (hFo4.below.mono hX8.size)
              replace hX := hX4
              have hOu4 := hOu.keep (w' := w4) (fun b hb => hFo4.below.block b (Nat.lt_of_lt_of_le hb hX8.size)) (fun _ h => h) (fun g hg => hFo4.same g (hub g hg).1)
              refine op rfl (r_neq rfl rfl) ?_
              refine WL_nil ?_
              refine W_ifp rfl (fun ht87 => ?_) (fun ht87 => ?_)
              · exact absurd zs ht87
              · refine W_skip ?_
                refine W_seq ?_
                refine W_region ?_
                refine op rfl (r_moveV (v := jq jb) rfl) ?_
                refine op rfl (r_moveV (v := .slice _ _ _) rfl) ?_
                refine opCv rfl (r_call Try.func16 Try.nm16 rfl) (ckpt_spec hJ4 fs (by omega) (by decide) As cs st hcs (by omega) (hS.ext hX)) ?_
                rintro v w5 ⟨e, rfl, D', s', hCk, hJ5, hFo5⟩
                have hX5 : Ext W w5 := Below.trans hX (hFo5.below.mono hX8.size)
                replace hX := hX5
                have hOu5 := hOu4.keep (w' := w5) (fun b hb => hFo5.below.block b (Nat.lt_of_lt_of_le hb hX8.size)) (fun _ h => h) (fun g hg => hFo5.same g (hub g hg))
                obtain ⟨f5, hn5, hfin⟩ : WF D' 200000 ∧ D'.n = 3 ∧ ((e = 0 ∧ okL (D'.restart 0) st [] 0) ∨ (e = 8 ∧ okL (D'.restart 0) [] mine mine.length)) := by
                  by_cases hf : (e3 : Ar).now.length + Cs.now.length + (16 + st.length) ≤ r
                  · obtain ⟨z, C2, hI2, _⟩ := (hIs.ckpt st (by omega) (by decide) (fun y hy => by have := hml y hy; omega) hf).resolve_right (by rintro ⟨k, hk, _, q, _⟩; exact (live_stg hLs 0 st (k + 1) (by omega)).2 q)
                    obtain ⟨rfl, rfl, rfl⟩ := hCk.ok_of z
                    refine ⟨(fs.stg 0 st (i := 5) (by omega)).mono (by omega), hI2.al.n, Or.inl ⟨rfl, ?_⟩⟩
                    exact (hI2.old hI2.al.de 0).okL (by decide) (by simp) (by simp)
                  · obtain ⟨z, z8, n2, ok2⟩ := hIs.ckpt_full hLs st (by omega) (by decide) (fun y hy => by have := hml y hy; omega) rfl hf
                    obtain ⟨rfl, rfl⟩ := hCk.no_of (j := 1) (by omega) z (by rw [z8]; decide)
                    refine ⟨(fs.stg 0 st (i := 2) (by omega)).mono (by omega), ?_, Or.inr ⟨z8, ok2 0⟩⟩
                    exact n2
                have hL6 : Live (D'.restart 0) := ⟨rfl, rfl⟩
                have f6 := f5.restart 0
                have hn6 : (D'.restart 0).n = 3 := hn5
                refine op rfl (r_assignV (v := .int _ _) rfl) ?_
                refine WL_nil ?_
                refine W_seq ?_
                refine W_region ?_
                refine op rfl (r_moveV (v := .pointer _) rfl) ?_
                refine opCv rfl (r_call Try.func17 Try.nm17 rfl) (restart_fa hJ5.fa f5 (by omega) 0) ?_
                rintro v w6 ⟨hF6, hFo6⟩
                have hX6 : Ext W w6 := Below.trans hX (hFo6.below.mono hX8.size)
                replace hX := hX6
                have hOu6 := hOu5.keep (w' := w6) (fun b hb => hFo6.below.block b (Nat.lt_of_lt_of_le hb hX8.size)) (fun _ h => h) (fun g hg => hFo6.same g (hub g hg).1)
                generalize D'.restart 0 = D6 at *
                refine WL_nil ?_
                refine W_seq ?_
                refine W_region ?_
                refine op rfl (r_moveV (v := .pointer _) rfl) ?_
                refine opCv rfl (r_call Try.func9 Try.nm9 rfl) (open_spec hF6 f6 (by omega) hL6 hn6) ?_
                rintro v w7 ⟨F7, jb7, A6, c6, A7, c7, rfl, hF7, hJ7, hc6, hr6, hc7, hr7, hFo7⟩
                have hX7 : Ext W w7 := Below.trans hX (hFo7.below.mono hX8.size)
                replace hX := hX7
                have hOu7 := hOu6.keep (w' := w7) (fun b hb => hFo7.below.block b (Nat.lt_of_lt_of_le hb hX8.size)) (fun _ h => h) (fun g hg => hFo7.same g (hub g hg).1)
                refine op rfl (r_moveV (v := .tuple #[jq jb7, .slice A6 D6.stateOf.length c6, .slice A7 D6.recsOf.1.length c7, .int .i64 0]) rfl) ?_
                refine op rfl (r_extract (vs := [jq jb7, .slice A6 D6.stateOf.length c6, .slice A7 D6.recsOf.1.length c7, .int .i64 0]) rfl rfl) ?_
                refine op rfl (r_extract (vs := [jq jb7, .slice A6 D6.stateOf.length c6, .slice A7 D6.recsOf.1.length c7, .int .i64 0]) rfl rfl) ?_
                refine op rfl (r_extract (vs := [jq jb7, .slice A6 D6.stateOf.length c6, .slice A7 D6.recsOf.1.length c7, .int .i64 0]) rfl rfl) ?_
                refine op rfl (r_extract (vs := [jq jb7, .slice A6 D6.stateOf.length c6, .slice A7 D6.recsOf.1.length c7, .int .i64 0]) rfl rfl) ?_
                refine op rfl (r_assignV (v := jq jb7) rfl) ?_
                refine op rfl (r_assignV (v := .slice A6 D6.stateOf.length c6) rfl) ?_
                refine op rfl (r_assignV (v := .slice A7 D6.recsOf.1.length c7) rfl) ?_
                refine op rfl (r_assignV (v := .int .i64 0) rfl) ?_
                refine WL_nil ?_
                refine W_seq ?_
                refine W_seq ?_
                refine W_region ?_
                refine op rfl (r_moveV (v := .int .i64 0) rfl) ?_
                refine op rfl (r_neq rfl rfl) ?_
                refine op_false rfl (r_moveV (v := .bool (decide _)) rfl) (fun h => h rfl) ?_
                refine opG_yes rfl rfl rfl rfl rfl (r_moveV (v := .int _ _) rfl) ?_
                refine opG_yes rfl rfl rfl rfl rfl (r_neq rfl rfl) ?_
                refine opG_split rfl rfl rfl rfl rfl (r_moveV (v := .bool (decide _)) rfl) (fun hg105 => ?_) (fun hg105 => ?_)
                · refine opG_yes rfl rfl rfl rfl rfl (r_moveV (v := .int _ _) rfl) ?_
                  refine opG_yes rfl rfl rfl rfl rfl (r_neq rfl rfl) ?_
                  refine opG_yes rfl rfl rfl rfl rfl (r_pickTV (v := .bool _) rfl rfl) ?_
                  refine op rfl (r_pickFV (v := .bool _) rfl rfl) ?_
                  refine WL_nil ?_
                  refine W_ifp rfl (fun ht109 => ?_) (fun ht109 => ?_)
                  · rcases hfin with ⟨q, _⟩ | ⟨q, _⟩
                    · exact absurd q hg105
                    · exact absurd q ht109
                  · refine W_skip ?_
                    refine W_seq ?_
                    refine W_seq ?_
                    refine W_region ?_
                    refine op rfl (r_moveV (v := .int _ _) rfl) ?_
                    refine op rfl (r_eql rfl rfl) ?_
                    refine WL_nil ?_
                    refine W_ifp rfl (fun ht111 => ?_) (fun ht111 => ?_)
                    · obtain ⟨k1, k2⟩ : D6.stateOf = st ∧ D6.recsOf.1 = [] := by
                        rcases hfin with ⟨_, q⟩ | ⟨q, _⟩
                        · exact okL_new q
                        · rw [q] at ht111; exact absurd ht111 (by decide)
                      refine W_seq ?_
                      refine W_region ?_
                      refine op rfl (r_moveV (v := .slice A6 D6.stateOf.length c6) rfl) ?_
                      refine op rfl (r_moveV (v := .slice _ _ _) rfl) ?_
                      refine opCv rfl (r_call Try.func18 Try.nm18 rfl) (same_spec A6 c6 D6.stateOf As cs st _ (row_old hr6 hJ7.fa.lt) (hS.ext hX)) ?_
                      rintro v w8 ⟨rfl, hE⟩
                      replace hX := hX.trans hE
                      refine op_true rfl (r_moveV (v := .bool (decide _)) rfl) (k1) ?_
                      refine opG_yes rfl rfl rfl rfl rfl (r_moveV (v := .slice A7 D6.recsOf.1.length c7) rfl) ?_
                      refine opG_yes rfl rfl rfl rfl rfl (r_len_slice rfl Try.underlying22) ?_
                      refine opG_yes rfl rfl rfl rfl rfl (r_eql rfl rfl) ?_
                      refine op rfl (r_pickTV (v := .bool _) rfl rfl) ?_
                      refine op_true rfl (r_moveV (v := .bool (decide _)) rfl) (by rw [k2]; rfl) ?_
                      refine opGCv_yes rfl rfl rfl rfl rfl (r_call Try.func7 Try.nm7 rfl) (known_spec _) ?_
                      rintro v w9 ⟨rfl, hE⟩
                      replace hX := hX.trans hE
                      refine op rfl (r_pickTV (v := .bool _) rfl rfl) ?_
                      refine op rfl (r_assignV (v := .bool _) rfl) ?_
                      refine WL_nil ?_
                      refine W_ret (finX_ret ?_)
                      refine fin1 ?_
                      exact ⟨_, rfl, rfl, hX⟩
                    · obtain ⟨k1, k2⟩ : D6.stateOf = [] ∧ D6.recsOf.1 = mine := by
                        rcases hfin with ⟨q, _⟩ | ⟨_, q⟩
                        · exact absurd q ht111
                        · exact okL_all q
                      obtain ⟨Am, cm, hum, hcm, hrm⟩ := hOu7.old (fun b hb => Nat.lt_of_lt_of_le hb hX.size)
                      subst hum
                      have SL := sameLists_spec A7 c7 D6.recsOf.1 Am cm mine w7 (by rw [k2]; exact bigs _ (by omega)) (row_old hr7 hJ7.fa.lt) hrm
                      refine W_skip ?_
                      refine W_seq ?_
                      refine W_region ?_
                      refine op rfl (r_moveV (v := .slice A6 D6.stateOf.length c6) rfl) ?_
                      refine op rfl (r_len_slice rfl Try.underlying23) ?_
                      refine op rfl (r_eql rfl rfl) ?_
                      refine op_true rfl (r_moveV (v := .bool (decide _)) rfl) (by rw [k1]; rfl) ?_
                      refine opG_yes rfl rfl rfl rfl rfl (r_moveV (v := .slice A7 D6.recsOf.1.length c7) rfl) ?_
                      refine opG_yes rfl rfl rfl rfl rfl (r_moveV (v := .slice Am mine.length cm) rfl) ?_
                      refine opGCv_yes rfl rfl rfl rfl rfl (r_call Try.func13 Try.nm13 rfl) (SL) ?_
                      rintro v w8 ⟨rfl, hE⟩
                      replace hX := hX.trans hE
                      refine op rfl (r_pickTV (v := .bool _) rfl rfl) ?_
                      refine op_true rfl (r_moveV (v := .bool (decide _)) rfl) (k2) ?_
                      refine opGCv_yes rfl rfl rfl rfl rfl (r_call Try.func7 Try.nm7 rfl) (known_spec _) ?_
                      rintro v w9 ⟨rfl, hE⟩
                      replace hX := hX.trans hE
                      refine op rfl (r_pickTV (v := .bool _) rfl rfl) ?_
                      refine op rfl (r_assignV (v := .bool _) rfl) ?_
                      refine WL_nil ?_
                      refine W_ret (finX_ret ?_)
                      refine fin1 ?_
                      exact ⟨_, rfl, rfl, hX⟩
                · refine opG_no rfl rfl rfl rfl rfl ?_
                  refine opG_no rfl rfl rfl rfl rfl ?_
                  refine opG_yes rfl rfl rfl rfl rfl (r_pickFV (v := .bool _) rfl rfl) ?_
                  refine op rfl (r_pickFV (v := .bool _) rfl rfl) ?_
                  refine WL_nil ?_
                  refine W_else rfl ?_
                  refine W_skip ?_
                  refine W_seq ?_
                  refine W_seq ?_
                  refine W_region ?_
                  refine op rfl (r_moveV (v := .int _ _) rfl) ?_
                  refine op rfl (r_eql rfl rfl) ?_
                  refine WL_nil ?_
                  refine W_ifp rfl (fun ht111 => ?_) (fun ht111 => ?_)
                  · obtain ⟨k1, k2⟩ : D6.stateOf = st ∧ D6.recsOf.1 = [] := by
                      rcases hfin with ⟨_, q⟩ | ⟨q, _⟩
                      · exact okL_new q
                      · rw [q] at ht111; exact absurd ht111 (by decide)
                    refine W_seq ?_
                    refine W_region ?_
                    refine op rfl (r_moveV (v := .slice A6 D6.stateOf.length c6) rfl) ?_
                    refine op rfl (r_moveV (v := .slice _ _ _) rfl) ?_
                    refine opCv rfl (r_call Try.func18 Try.nm18 rfl) (same_spec A6 c6 D6.stateOf As cs st _ (row_old hr6 hJ7.fa.lt) (hS.ext hX)) ?_
                    rintro v w8 ⟨rfl, hE⟩
                    replace hX := hX.trans hE
                    refine op_true rfl (r_moveV (v := .bool (decide _)) rfl) (k1) ?_
                    refine opG_yes rfl rfl rfl rfl rfl (r_moveV (v := .slice A7 D6.recsOf.1.length c7) rfl) ?_
                    refine opG_yes rfl rfl rfl rfl rfl (r_len_slice rfl Try.underlying22) ?_
                    refine opG_yes rfl rfl rfl rfl rfl (r_eql rfl rfl) ?_
                    refine op rfl (r_pickTV (v := .bool _) rfl rfl) ?_
                    refine op_true rfl (r_moveV (v := .bool (decide _)) rfl) (by rw [k2]; rfl) ?_
                    refine opGCv_yes rfl rfl rfl rfl rfl (r_call Try.func7 Try.nm7 rfl) (known_spec _) ?_
                    rintro v w9 ⟨rfl, hE⟩
                    replace hX := hX.trans hE
                    refine op rfl (r_pickTV (v := .bool _) rfl rfl) ?_
                    refine op rfl (r_assignV (v := .bool _) rfl) ?_
                    refine WL_nil ?_
                    refine W_ret (finX_ret ?_)
                    refine fin1 ?_
                    exact ⟨_, rfl, rfl, hX⟩
                  · obtain ⟨k1, k2⟩ : D6.stateOf = [] ∧ D6.recsOf.1 = mine := by
                      rcases hfin with ⟨q, _⟩ | ⟨_, q⟩
                      · exact absurd q ht111
                      · exact okL_all q
                    obtain ⟨Am, cm, hum, hcm, hrm⟩ := hOu7.old (fun b hb => Nat.lt_of_lt_of_le hb hX.size)
                    subst hum
                    have SL := sameLists_spec A7 c7 D6.recsOf.1 Am cm mine w7 (by rw [k2]; exact bigs _ (by omega)) (row_old hr7 hJ7.fa.lt) hrm
                    refine W_skip ?_
                    refine W_seq ?_
                    refine W_region ?_
                    refine op rfl (r_moveV (v := .slice A6 D6.stateOf.length c6) rfl) ?_
                    refine op rfl (r_len_slice rfl Try.underlying23) ?_
                    refine op rfl (r_eql rfl rfl) ?_
                    refine op_true rfl (r_moveV (v := .bool (decide _)) rfl) (by rw [k1]; rfl) ?_
                    refine opG_yes rfl rfl rfl rfl rfl (r_moveV (v := .slice A7 D6.recsOf.1.length c7) rfl) ?_
                    refine opG_yes rfl rfl rfl rfl rfl (r_moveV (v := .slice Am mine.length cm) rfl) ?_
                    refine opGCv_yes rfl rfl rfl rfl rfl (r_call Try.func13 Try.nm13 rfl) (SL) ?_
                    rintro v w8 ⟨rfl, hE⟩
                    replace hX := hX.trans hE
                    refine op rfl (r_pickTV (v := .bool _) rfl rfl) ?_
                    refine op_true rfl (r_moveV (v := .bool (decide _)) rfl) (k2) ?_
                    refine opGCv_yes rfl rfl rfl rfl rfl (r_call Try.func7 Try.nm7 rfl) (known_spec _) ?_
                    rintro v w9 ⟨rfl, hE⟩
                    replace hX := hX.trans hE
                    refine op rfl (r_pickTV (v := .bool _) rfl rfl) ?_
                    refine op rfl (r_assignV (v := .bool _) rfl) ?_
                    refine WL_nil ?_
                    refine W_ret (finX_ret ?_)
                    refine fin1 ?_
                    exact ⟨_, rfl, rfl, hX⟩
end Go.Proofs.Ytlidigdlcjhkfaa
