/-
  What is no record is cut off: the walk.
-/
import Derived.Test.YtlidigdlcjhkfaaFacts
import Derived.Test.YtlidigdlcjhkfaaJnlK
namespace Go.Proofs.Ytlidigdlcjhkfaa
open Go Go.Eng Go.RowKit Go.Proofs
set_option linter.unusedVariables false
set_option linter.unusedSimpArgs false
set_option maxHeartbeats 8000000
set_option maxRecDepth 20000

theorem fl_succ {l : List (List UInt8)} {i : Nat} (h : i < l.length) : (l.take (i + 1)).flatten.length = (l.take i).flatten.length + l[i].length := by
  rw [List.take_succ_eq_append_getElem h, List.flatten_append, List.length_append]; simp
theorem fl_le (l : List (List UInt8)) (i : Nat) : (l.take i).flatten.length ≤ l.flatten.length := by
  have := congrArg (fun x => x.flatten.length) (List.take_append_drop i l)
  simp only [List.flatten_append, List.length_append] at this
  omega
theorem jd_succ {l : List (List UInt8)} {i : Nat} (s : Nat) (h : i < l.length) : jd s (l.take i) ++ rec1 s l[i] = jd s (l.take (i + 1)) := by
  rw [List.take_succ_eq_append_getElem h, jd_snoc]
theorem jd_take_len (s : Nat) (l : List (List UInt8)) {i : Nat} (h : i ≤ l.length) : (jd s (l.take i)).length = 16 * i + (l.take i).flatten.length := by
  rw [jd_len, List.length_take, Nat.min_eq_left h]
theorem row_old {α : Type} {T : Ty α} {w : World} {F : Nat → Prop} {A : Option Addr} {l : List α} (h : T.Row w F A l) (hF : ∀ b, F b → b < w.heap.size) : T.Row w (old w) A l := h.keep (fun _ _ => rfl) hF
theorem open0 {D : Dk} {r : Nat} {c : Ar} (h : J3 D r e3 e3 c) {l : List (List UInt8)} {t : List UInt8} (hc : c.now = jd 0 l ++ t) (hl : ∀ x ∈ l, x.length ≤ 60000) (ht : ¬ Rok t 0) :
    D.seqOf = 0 ∧ D.stateOf = [] ∧ D.recsOf.1 = l ∧ ∃ y, J3 D.opened r e3 e3 y ∧ y.now = jd 0 l := by
  have q : D.seqOf = 0 := by rw [h.seqOf]; show (chos (numd []) (numd [])).1 = 0; rw [chos_none]
  have s : D.stateOf = [] := by rw [h.stateOf]; show (chos (numd []) (numd [])).2 = []; rw [chos_none]
  have rr : D.recsOf = (l, (jd 0 l).length) := by rw [h.recsOf, q, hc]; exact recs_tail (by decide) hl ht
  refine ⟨q, s, by rw [rr], ?_⟩
  obtain ⟨y, j, hy, _⟩ := h.opened
  refine ⟨y, j, ?_⟩
  rw [hy, rr, hc]
  exact List.take_left
theorem journalTails_walk (W : World) (Ao : Option Addr) (co : Nat) (l : List (List UInt8)) (hco : l.length ≤ co) (hl : l.length ≤ big) (hA : Ty.byte.slice.Row W (old W) Ao l)
    (At : Option Addr) (ct : Nat) (t : List UInt8) (hct : t.length ≤ ct) (ht : t.length ≤ big) (hT : Ty.byte.Row W (old W) At t)
    (Am : Option Addr) (cm : Nat) (m : List UInt8) (hcm : m.length ≤ cm) (hm : m.length ≤ big) (hM : Ty.byte.Row W (old W) Am m) :
    Calls Try.prog 3 #[.slice Ao l.length co, .slice At t.length ct, .slice Am m.length cm] W (fun e W' => ∃ v, e = .returned v ∧ v = .bool true ∧ Ext W W') := by
  have hl' : l.length ≤ 140737488355328 := hl
  have ht' : t.length ≤ 140737488355328 := ht
  have hm' : m.length ≤ 140737488355328 := hm
  clear hl ht hm
  refine calls' (n := 151) (rs := #[.tmp 6]) (l := [.slice Ao l.length co, .slice At t.length ct, .slice Am m.length cm]) Try.func3 rfl rfl rfl rfl rfl ?_
  have hX := Ext.refl W
  refine W_seq ?_
  refine W_region ?_
  refine op rfl (r_assignV (v := .bool _) rfl) ?_
  refine WL_nil ?_
  refine W_seq ?_
  refine W_region ?_
  refine op rfl (r_assignV (v := .int _ _) rfl) ?_
  refine WL_nil ?_
  refine W_seq ?_
  refine W_seq ?_
  refine W_region ?_
  refine op rfl (r_assignV (v := .int _ _) rfl) ?_
  refine WL_nil ?_
  refine W_block ?_
  refine W_loop [7, 8, 26, 27, 28, 29, 30, 31, 32, 33, 34, 35, 36, 37, 38, 39] (fun q e' w' => ∃ (i : Nat) (s : Int), q = l.length - i ∧ i ≤ l.length ∧ e' 8 = .int .i64 i ∧ e' 7 = .int .i64 s ∧ (l.length ≤ 20 → s = i + (l.take i).flatten.length) ∧ (l.take i).flatten.length ≤ i * 140737488355328 ∧ Ext W w') (l.length) ?_ ?_
  · exact ⟨0, 0, by omega, by omega, rfl, rfl, fun _ => by simp, by simp, hX⟩
  intro k g w' hI
  obtain ⟨i, s, hq, hi, h8, h7, hs, hsb, hX'⟩ := hI
  clear hX
  have hX := hX'
  clear hX'
  refine W_set (i := 8) h8 ?_
  refine W_set (i := 7) h7 ?_
  refine W_seq ?_
  refine W_seq ?_
  refine W_region ?_
  refine op rfl (r_moveV (v := .int _ _) rfl) ?_
  refine op rfl (r_moveV (v := .slice _ _ _) rfl) ?_
  refine op rfl (r_len_slice rfl Try.underlying22) ?_
  refine op rfl (r_lss rfl rfl) ?_
  refine WL_nil ?_
  refine W_ifp rfl (fun ht29 => ?_) (fun ht29 => ?_)
  · have hlt : i < l.length := by omega
    obtain ⟨ga, oa, Ai, ci, hAe, hga, hcell, hci, hbig, hrow⟩ := Ty.Row.cellS (hA.ext hX) hlt
    have hbig' : l[i].length ≤ 140737488355328 := hbig
    refine W_skip ?_
    refine W_seq ?_
    refine W_block ?_
    refine W_region ?_
    refine op rfl (r_moveV (v := .int _ _) rfl) ?_
    refine op rfl (r_add rfl rfl) ?_
    refine op rfl (r_moveV (v := .slice _ _ _) rfl) ?_
    refine op rfl (r_moveV (v := .int _ _) rfl) ?_
    refine op rfl (r_indexAddr1 rfl rfl hAe Try.underlying22 Try.sz23 (by omega) (by omega)) ?_
    refine op rfl (r_load (v := .slice Ai l[i].length ci) rfl Try.underlying23 rfl hcell) ?_
    refine op rfl (r_len_slice rfl Try.underlying23) ?_
    refine op rfl (r_add rfl rfl) ?_
    refine op rfl (r_assignV (v := .int _ _) rfl) ?_
    refine WL_nil ?_
    refine W_region ?_
    refine op rfl (r_moveV (v := .int _ _) rfl) ?_
    refine op rfl (r_add' rfl rfl (wrap_i64 (by omega) (by omega))) ?_
    refine op rfl (r_assignV (v := .int _ _) rfl) ?_
    refine WL_nil ?_
    refine ⟨?_, by repeat (first | with_reducible exact Out.refl _ _ | with_reducible exact Out.mix | refine Out.put rfl ?_ | refine Out.mixin rfl ?_ | exact Out.refl _ _ | exact Out.mix)⟩
    refine ⟨l.length - (i + 1), by omega, i + 1, _, rfl, by omega, rfl, rfl, fun h20 => ?_, by rw [fl_succ hlt]; omega, hX⟩
    rw [hs h20, fl_succ hlt, wrap_i64 (x := (i : Int) + ((l.take i).flatten.length : Nat) + 1) (by omega) (by omega), wrap_i64 (by omega) (by omega)]
    omega
  · obtain rfl : i = l.length := by omega
    rw [List.take_length] at hs hsb
    obtain ⟨w0, hw0⟩ : ∃ w0, w0 = w' := ⟨_, rfl⟩
    subst hw0
    refine W_exit (blk_hit ?_)
    refine W_seq ?_
    refine W_seq ?_
    refine W_region ?_
    refine op rfl (r_moveV (v := .int _ _) rfl) ?_
    refine op rfl (r_gtr rfl rfl) ?_
    refine op_split rfl (r_moveV (v := .bool (decide _)) rfl) (fun hg42 => ?_) (fun hg42 => ?_)
    · refine opG_no rfl rfl rfl rfl rfl ?_
      refine opG_no rfl rfl rfl rfl rfl ?_
      refine opG_no rfl rfl rfl rfl rfl ?_
      refine op rfl (r_pickTV (v := .bool _) rfl rfl) ?_
      refine op rfl (r_moveV (v := .bool _) rfl) ?_
      refine opG_no rfl rfl rfl rfl rfl ?_
      refine opG_no rfl rfl rfl rfl rfl ?_
      refine opG_no rfl rfl rfl rfl rfl ?_
      refine op rfl (r_pickTV (v := .bool _) rfl rfl) ?_
      refine op rfl (r_moveV (v := .bool _) rfl) ?_
      refine opG_no rfl rfl rfl rfl rfl ?_
      refine opG_no rfl rfl rfl rfl rfl ?_
      refine opG_no rfl rfl rfl rfl rfl ?_
      refine op rfl (r_pickTV (v := .bool _) rfl rfl) ?_
      refine WL_nil ?_
      refine W_then rfl ?_
      refine W_seq ?_
      refine W_region ?_
      refine opCv rfl (r_call Try.func7 Try.nm7 rfl) (known_spec _) ?_
      rintro v w2 ⟨rfl, hE⟩
      replace hX := hX.trans hE
      refine op rfl (r_assignV (v := .bool _) rfl) ?_
      refine WL_nil ?_
      refine W_ret (finX_ret ?_)
      refine fin1 ?_
      exact ⟨_, rfl, rfl, hX⟩
    · refine opG_yes rfl rfl rfl rfl rfl (r_moveV (v := .slice _ _ _) rfl) ?_
      refine opG_yes rfl rfl rfl rfl rfl (r_len_slice rfl Try.underlying22) ?_
      refine opG_yes rfl rfl rfl rfl rfl (r_gtr rfl rfl) ?_
      refine op rfl (r_pickFV (v := .bool _) rfl rfl) ?_
      refine op_split rfl (r_moveV (v := .bool (decide _)) rfl) (fun hg47 => ?_) (fun hg47 => ?_)
      · refine opG_no rfl rfl rfl rfl rfl ?_
        refine opG_no rfl rfl rfl rfl rfl ?_
        refine opG_no rfl rfl rfl rfl rfl ?_
        refine op rfl (r_pickTV (v := .bool _) rfl rfl) ?_
        refine op rfl (r_moveV (v := .bool _) rfl) ?_
        refine opG_no rfl rfl rfl rfl rfl ?_
        refine opG_no rfl rfl rfl rfl rfl ?_
        refine opG_no rfl rfl rfl rfl rfl ?_
        refine op rfl (r_pickTV (v := .bool _) rfl rfl) ?_
        refine WL_nil ?_
        refine W_then rfl ?_
        refine W_seq ?_
        refine W_region ?_
        refine opCv rfl (r_call Try.func7 Try.nm7 rfl) (known_spec _) ?_
        rintro v w2 ⟨rfl, hE⟩
        replace hX := hX.trans hE
        refine op rfl (r_assignV (v := .bool _) rfl) ?_
        refine WL_nil ?_
        refine W_ret (finX_ret ?_)
        refine fin1 ?_
        exact ⟨_, rfl, rfl, hX⟩
      · refine opG_yes rfl rfl rfl rfl rfl (r_moveV (v := .slice _ _ _) rfl) ?_
        refine opG_yes rfl rfl rfl rfl rfl (r_len_slice rfl Try.underlying23) ?_
        refine opG_yes rfl rfl rfl rfl rfl (r_gtr rfl rfl) ?_
        refine op rfl (r_pickFV (v := .bool _) rfl rfl) ?_
        refine op_split rfl (r_moveV (v := .bool (decide _)) rfl) (fun hg52 => ?_) (fun hg52 => ?_)
        · refine opG_no rfl rfl rfl rfl rfl ?_
          refine opG_no rfl rfl rfl rfl rfl ?_
          refine opG_no rfl rfl rfl rfl rfl ?_
          refine op rfl (r_pickTV (v := .bool _) rfl rfl) ?_
          refine WL_nil ?_
          refine W_then rfl ?_
          refine W_seq ?_
          refine W_region ?_
          refine opCv rfl (r_call Try.func7 Try.nm7 rfl) (known_spec _) ?_
          rintro v w2 ⟨rfl, hE⟩
          replace hX := hX.trans hE
          refine op rfl (r_assignV (v := .bool _) rfl) ?_
          refine WL_nil ?_
          refine W_ret (finX_ret ?_)
          refine fin1 ?_
          exact ⟨_, rfl, rfl, hX⟩
        · refine opG_yes rfl rfl rfl rfl rfl (r_moveV (v := .slice _ _ _) rfl) ?_
          refine opG_yes rfl rfl rfl rfl rfl (r_len_slice rfl Try.underlying23) ?_
          refine opG_yes rfl rfl rfl rfl rfl (r_gtr rfl rfl) ?_
          refine op rfl (r_pickFV (v := .bool _) rfl rfl) ?_
          refine WL_nil ?_
          refine W_ifp rfl (fun ht56 => ?_) (fun ht56 => ?_)
          · refine W_seq ?_
            refine W_region ?_
            refine opCv rfl (r_call Try.func7 Try.nm7 rfl) (known_spec _) ?_
            rintro v w2 ⟨rfl, hE⟩
            replace hX := hX.trans hE
            refine op rfl (r_assignV (v := .bool _) rfl) ?_
            refine WL_nil ?_
            refine W_ret (finX_ret ?_)
            refine fin1 ?_
            exact ⟨_, rfl, rfl, hX⟩
          · have hn20 : l.length ≤ 20 := by omega
            have hsum : l.length + l.flatten.length ≤ 600 := by have := hs hn20; omega
            have ht15 : t.length ≤ 15 := by omega
            have hm200 : m.length ≤ 200 := by omega
            have hmem : ∀ x ∈ l, x.length ≤ 60000 := fun x hx => by have := flat_mem_le hx; omega
            clear hs hsb
            have j0 := J3.new 90000 (by omega)
            rw [show ((90000 : Nat) : Int) = 90000 from rfl] at j0
            have f0 := WF.new 3 90000
            obtain ⟨q0, _, _, y1, j1, y1n⟩ := open0 j0 (l := []) (t := []) rfl (by simp) (rok_nil _)
            have f1 := f0.opened
            have hX8 := hX
            refine W_skip ?_
            refine W_seq ?_
            refine W_region ?_
            refine opCv rfl (r_call Try.func8 Try.nm8 rfl) (new_da 3 90000 _) ?_
            rintro v w1 ⟨p, rfl, hE, hD0⟩
            replace hX := hX.trans hE
            refine op rfl (r_assignV (v := .pointer _) rfl) ?_
            refine WL_nil ?_
            refine W_seq ?_
            refine W_region ?_
            refine op rfl (r_moveV (v := .pointer _) rfl) ?_
            refine opCv rfl (r_call Try.func9 Try.nm9 rfl) (open_spec hD0.fa f0 (by omega) j0.live j0.n) ?_
            rintro v w2 ⟨F2, jb, A1, c1, A2, c2, rfl, hF2, hJ2, _, _, _, _, hFo2⟩
            rw [q0] at hJ2
            have hX2 : Ext W w2 := Below.trans hX (hFo2.below.mono hX8.size)
            replace hX := hX2
            generalize (Dk.new 3 90000).opened = D1 at *
            refine op rfl (r_moveV (v := .tuple #[jq jb, .slice A1 (Dk.new 3 90000).stateOf.length c1, .slice A2 (Dk.new 3 90000).recsOf.1.length c2, .int .i64 0]) rfl) ?_
            refine op rfl (r_extract (vs := [jq jb, .slice A1 (Dk.new 3 90000).stateOf.length c1, .slice A2 (Dk.new 3 90000).recsOf.1.length c2, .int .i64 0]) rfl rfl) ?_
            refine op rfl (r_extract (vs := [jq jb, .slice A1 (Dk.new 3 90000).stateOf.length c1, .slice A2 (Dk.new 3 90000).recsOf.1.length c2, .int .i64 0]) rfl rfl) ?_
            refine op rfl (r_extract (vs := [jq jb, .slice A1 (Dk.new 3 90000).stateOf.length c1, .slice A2 (Dk.new 3 90000).recsOf.1.length c2, .int .i64 0]) rfl rfl) ?_
            refine op rfl (r_extract (vs := [jq jb, .slice A1 (Dk.new 3 90000).stateOf.length c1, .slice A2 (Dk.new 3 90000).recsOf.1.length c2, .int .i64 0]) rfl rfl) ?_
            refine op rfl (r_assignV (v := jq jb) rfl) ?_
            refine op rfl (r_assignV (v := .slice A1 (Dk.new 3 90000).stateOf.length c1) rfl) ?_
            refine op rfl (r_assignV (v := .slice A2 (Dk.new 3 90000).recsOf.1.length c2) rfl) ?_
            refine op rfl (r_assignV (v := .int .i64 0) rfl) ?_
            refine WL_nil ?_
            refine W_seq ?_
            refine W_seq ?_
            refine W_region ?_
            refine op rfl (r_assignV (v := .int _ _) rfl) ?_
            refine WL_nil ?_
            refine W_block ?_
            refine W_loop [6, 14, 66, 67, 68, 69, 70, 71, 72, 73, 74, 75, 76, 77, 78] (fun q e' w' => ∃ (i : Nat) (D : Dk) (y : Ar), q = l.length - i ∧ i ≤ l.length ∧ e' 14 = .int .i64 i ∧ J3 D 90000 e3 e3 y ∧ y.now = jd 0 (l.take i) ∧ WF D (0 + 3 + 2 * (jd 0 (l.take i)).length) ∧ JA jb p w0.heap.size F2 w' D 0 ∧ Ext W w') (l.length) ?_ ?_
            · exact ⟨0, D1, y1, by omega, by omega, rfl, j1, y1n, f1.mono (by omega), hJ2, hX⟩
            intro k g w' hI
            obtain ⟨i, D, y, hq2, hi2, h14, j2, y2, f2, hJ, hX'⟩ := hI
            clear hX
            have hX := hX'
            clear hX'
            refine W_set (i := 14) h14 ?_
            refine W_seq ?_
            refine W_seq ?_
            refine W_region ?_
            refine op rfl (r_moveV (v := .int _ _) rfl) ?_
            refine op rfl (r_moveV (v := .slice _ _ _) rfl) ?_
            refine op rfl (r_len_slice rfl Try.underlying22) ?_
            refine op rfl (r_lss rfl rfl) ?_
            refine WL_nil ?_
            refine W_ifp rfl (fun ht69 => ?_) (fun ht69 => ?_)
            · have hlt : i < l.length := by omega
              obtain ⟨ga, oa, Ai, ci, hAe, hga, hcell, hci, hbig, hrow⟩ := Ty.Row.cellS (hA.ext hX) hlt
              have hxi : l[i].length ≤ 600 := by have := flat_mem_le (List.getElem_mem hlt); omega
              have hjl := jd_take_len 0 l (i := i) (by omega)
              have hjl1 := jd_take_len 0 l (i := i + 1) (by omega)
              have hf1 := fl_le l i
              have hf2 := fl_le l (i + 1)
              have hrl := rec1_len 0 l[i]
              have hfs := fl_succ hlt
              obtain ⟨x3, j3⟩ := j2.app2 (rec1 0 l[i]) (by rw [y2, hjl, hrl]; simp only [List.length_nil]; omega)
              have f3 := (f2.append 2 (rec1 0 l[i])).mono (m := 0 + 3 + 2 * (jd 0 (l.take (i + 1))).length) (by rw [hjl, hjl1, hrl]; omega)
              refine W_skip ?_
              refine W_seq ?_
              refine W_block ?_
              refine W_seq ?_
              refine W_region ?_
              refine op rfl (r_moveV (v := jq jb) rfl) ?_
              refine op rfl (r_moveV (v := .slice _ _ _) rfl) ?_
              refine op rfl (r_moveV (v := .int _ _) rfl) ?_
              refine op rfl (r_indexAddr1 rfl rfl hAe Try.underlying22 Try.sz23 (by omega) (by omega)) ?_
              refine op rfl (r_load (v := .slice Ai l[i].length ci) rfl Try.underlying23 rfl hcell) ?_
              refine opCv rfl (r_call Try.func10 Try.nm10 rfl) (jappend_spec hJ (by decide) f2 (by rw [hjl]; omega) Ai ci l[i] hci (by omega) hrow) ?_
              rintro v w3 ⟨rfl, hJ3, hFo3⟩
              rw [x3]
              have hX3 : Ext W w3 := Below.trans hX (hFo3.below.mono hX8.size)
              replace hX := hX3
              refine op rfl (r_neq rfl rfl) ?_
              refine WL_nil ?_
              refine W_ifp rfl (fun ht78 => ?_) (fun ht78 => ?_)
              · exact absurd rfl ht78
              · refine W_skip ?_
                refine W_region ?_
                refine op rfl (r_moveV (v := .int _ _) rfl) ?_
                refine op rfl (r_add' rfl rfl (wrap_i64 (by omega) (by omega))) ?_
                refine op rfl (r_assignV (v := .int _ _) rfl) ?_
                refine WL_nil ?_
                refine ⟨?_, by repeat (first | with_reducible exact Out.refl _ _ | with_reducible exact Out.mix | refine Out.put rfl ?_ | refine Out.mixin rfl ?_ | exact Out.refl _ _ | exact Out.mix)⟩
                exact ⟨l.length - (i + 1), by omega, i + 1, _, _, rfl, by omega, rfl, j3, by rw [← jd_succ 0 hlt]; show y.now ++ _ = _; rw [y2], f3, hJ3, hX⟩
            · obtain rfl : i = l.length := by omega
              rw [List.take_length] at y2 f2
              have hjl := jd_len 0 l
              obtain ⟨x4, j4⟩ := j2.app2 t (by rw [y2, hjl]; simp only [List.length_nil]; omega)
              have f4 := f2.append 2 t
              obtain ⟨q4, s4, r4, y5, j5, y5n⟩ := open0 j4 (l := l) (t := t) (by show y.now ++ t = _; rw [y2]) hmem (rok_short 0 ht15)
              have f5 := f4.opened
              have rd4 := j4.read2
              have rd5 := j5.read2
              have hrm := rec1_len 0 m
              obtain ⟨x6, j6⟩ := j5.app2 (rec1 0 m) (by rw [y5n, hjl, hrm]; simp only [List.length_nil]; omega)
              have f6 := f5.append 2 (rec1 0 m)
              obtain ⟨q7, s7, r7, y8, j8, y8n⟩ := open0 j6 (l := l ++ [m]) (t := []) (by show y5.now ++ rec1 0 m = _; rw [y5n, jd_snoc, List.append_nil]) (by
                intro x hx
                rcases List.mem_append.1 hx with q | q
                · exact hmem x q
                · have : x = m := by simpa using q
                  subst this; omega) (rok_nil _)
              have rl4 : ((y.now ++ t : List UInt8)).length = (jd 0 l).length + t.length := by rw [y2, List.length_append]
              refine W_exit (blk_hit ?_)
              refine W_seq ?_
              refine W_region ?_
              refine op rfl (r_moveV (v := .pointer _) rfl) ?_
              refine op rfl (r_moveV (v := .slice _ _ _) rfl) ?_
              refine opCv rfl (r_call Try.func11 Try.nm11 rfl) (append_fa hJ.fa f2 (by rw [hjl]; omega) 2 At ct t (by omega) (G := old W) (fun x hx ↦ Nat.lt_of_lt_of_le hx hX8.size) (hT.keep hX.same (fun _ h ↦ h))) ?_
              rintro v w4 ⟨rfl, hFA4, hFo4⟩
              have hJ4 := hJ.op hFA4 hFo4
              rw [x4]
              have hX4 : Ext W w4 := Below.trans hX (hFo4.below.mono hX8.size)
              replace hX := hX4
              generalize hg4 : (D.append 2 t).1 = D4 at *
              refine op rfl (r_assignV (v := .int _ _) rfl) ?_
              refine WL_nil ?_
              refine W_seq ?_
              refine W_region ?_
              refine op rfl (r_moveV (v := jq jb) rfl) ?_
              refine opCv rfl (r_call Try.func12 Try.nm12 rfl) (jused_spec hJ4 f4 (by rw [hjl]; omega)) ?_
              rintro v w5 ⟨rfl, hE⟩
              replace hX := hX.trans hE
              rw [rd4]
              refine op rfl (r_assignV (v := .int _ _) rfl) ?_
              refine WL_nil ?_
              refine W_seq ?_
              refine W_region ?_
              refine op rfl (r_moveV (v := .pointer _) rfl) ?_
              refine opCv rfl (r_call Try.func9 Try.nm9 rfl) (open_spec (hJ4.fa.ext hE) f4 (by rw [hjl]; omega) j4.live j4.n) ?_
              rintro v w6 ⟨F6, jb6, A6, c6, A7, c7, rfl, hF6, hJ6, _, _, hc7, hr7, hFo6⟩
              rw [q4] at hJ6
              have hX6 : Ext W w6 := Below.trans hX (hFo6.below.mono hX8.size)
              replace hX := hX6
              have SL7 := sameLists_spec A7 c7 D4.recsOf.1 Ao co l w6 (by rw [r4]; exact hl') (row_old hr7 hJ6.fa.lt) (hA.ext hX)
              refine op rfl (r_moveV (v := .tuple #[jq jb6, .slice A6 D4.stateOf.length c6, .slice A7 D4.recsOf.1.length c7, .int .i64 0]) rfl) ?_
              refine op rfl (r_extract (vs := [jq jb6, .slice A6 D4.stateOf.length c6, .slice A7 D4.recsOf.1.length c7, .int .i64 0]) rfl rfl) ?_
              refine op rfl (r_extract (vs := [jq jb6, .slice A6 D4.stateOf.length c6, .slice A7 D4.recsOf.1.length c7, .int .i64 0]) rfl rfl) ?_
              refine op rfl (r_extract (vs := [jq jb6, .slice A6 D4.stateOf.length c6, .slice A7 D4.recsOf.1.length c7, .int .i64 0]) rfl rfl) ?_
              refine op rfl (r_extract (vs := [jq jb6, .slice A6 D4.stateOf.length c6, .slice A7 D4.recsOf.1.length c7, .int .i64 0]) rfl rfl) ?_
              refine op rfl (r_assignV (v := jq jb6) rfl) ?_
              refine op rfl (r_assignV (v := .slice A6 D4.stateOf.length c6) rfl) ?_
              refine op rfl (r_assignV (v := .slice A7 D4.recsOf.1.length c7) rfl) ?_
              refine op rfl (r_assignV (v := .int .i64 0) rfl) ?_
              refine WL_nil ?_
              refine W_seq ?_
              refine W_seq ?_
              refine W_region ?_
              refine op rfl (r_moveV (v := .int .i64 0) rfl) ?_
              refine op rfl (r_neq rfl rfl) ?_
              refine op_false rfl (r_moveV (v := .bool (decide _)) rfl) (fun h => h rfl) ?_
              refine opG_yes rfl rfl rfl rfl rfl (r_moveV (v := .int _ _) rfl) ?_
              refine opG_yes rfl rfl rfl rfl rfl (r_neq rfl rfl) ?_
              refine op rfl (r_pickFV (v := .bool _) rfl rfl) ?_
              refine op_false rfl (r_moveV (v := .bool (decide _)) rfl) (fun h => h rfl) ?_
              refine opG_yes rfl rfl rfl rfl rfl (r_moveV (v := .int .i64 0) rfl) ?_
              refine opG_yes rfl rfl rfl rfl rfl (r_neq rfl rfl) ?_
              refine op rfl (r_pickFV (v := .bool _) rfl rfl) ?_
              refine op_false rfl (r_moveV (v := .bool (decide _)) rfl) (fun h => h rfl) ?_
              refine opG_yes rfl rfl rfl rfl rfl (r_moveV (v := .slice A7 D4.recsOf.1.length c7) rfl) ?_
              refine opG_yes rfl rfl rfl rfl rfl (r_moveV (v := .slice _ _ _) rfl) ?_
              refine opGCv_yes rfl rfl rfl rfl rfl (r_call Try.func13 Try.nm13 rfl) (SL7) ?_
              rintro v w7 ⟨rfl, hE⟩
              replace hX := hX.trans hE
              refine opG_yes rfl rfl rfl rfl rfl (r_notP rfl) ?_
              refine op rfl (r_pickFV (v := .bool _) rfl rfl) ?_
              refine op_false rfl (r_moveV (v := .bool (decide _)) rfl) (fun h => h r4) ?_
              refine opG_yes rfl rfl rfl rfl rfl (r_moveV (v := jq jb6) rfl) ?_
              have hJ7 := hJ6.ext hE
              have JU := jused_spec hJ7 f5 (by rw [hjl]; omega)
              rw [rd5, y5n] at JU
              refine opGCv_yes rfl rfl rfl rfl rfl (r_call Try.func12 Try.nm12 rfl) (JU) ?_
              rintro v w8 ⟨rfl, hE⟩
              replace hX := hX.trans hE
              have hJ8 := hJ7.ext hE
              refine opG_yes rfl rfl rfl rfl rfl (r_moveV (v := .int _ _) rfl) ?_
              refine opG_yes rfl rfl rfl rfl rfl (r_moveV (v := .slice _ _ _) rfl) ?_
              refine opG_yes rfl rfl rfl rfl rfl (r_len_slice rfl Try.underlying23) ?_
              refine opG_yes rfl rfl rfl rfl rfl (r_sub' (r := ((jd 0 l).length : Nat)) rfl rfl (by rw [rl4, wrap_i64 (by omega) (by omega)]; omega)) ?_
              refine opG_yes rfl rfl rfl rfl rfl (r_neq rfl rfl) ?_
              refine op rfl (r_pickFV (v := .bool _) rfl rfl) ?_
              refine WL_nil ?_
              refine W_ifp rfl (fun ht115 => ?_) (fun ht115 => ?_)
              · exact absurd rfl ht115
              · refine W_skip ?_
                refine W_seq ?_
                refine W_region ?_
                refine op rfl (r_moveV (v := jq jb6) rfl) ?_
                refine op rfl (r_moveV (v := .slice _ _ _) rfl) ?_
                refine opCv rfl (r_call Try.func10 Try.nm10 rfl) (jappend_spec hJ8 (by decide) f5 (by rw [hjl]; omega) Am cm m hcm (by omega) (hM.ext hX)) ?_
                rintro v w9 ⟨rfl, hJ9, hFo9⟩
                rw [x6]
                have hX9 : Ext W w9 := Below.trans hX (hFo9.below.mono hX8.size)
                replace hX := hX9
                generalize hg6 : (D4.opened.append 2 (rec1 0 m)).1 = D6 at *
                refine op rfl (r_assignV (v := .int _ _) rfl) ?_
                refine WL_nil ?_
                refine W_seq ?_
                refine W_region ?_
                refine op rfl (r_moveV (v := .pointer _) rfl) ?_
                refine opCv rfl (r_call Try.func9 Try.nm9 rfl) (open_spec hJ9.fa f6 (by rw [hjl, hrm]; omega) j6.live j6.n) ?_
                rintro v w10 ⟨F10, jb10, A10, c10, A11, c11, rfl, hF10, hJ10, _, _, hc11, hr11, hFo10⟩
                have hX10 : Ext W w10 := Below.trans hX (hFo10.below.mono hX8.size)
                replace hX := hX10
                have hr11' := row_old hr11 hJ10.fa.lt
                refine op rfl (r_moveV (v := .tuple #[jq jb10, .slice A10 D6.stateOf.length c10, .slice A11 D6.recsOf.1.length c11, .int .i64 0]) rfl) ?_
                refine op rfl (r_extract (vs := [jq jb10, .slice A10 D6.stateOf.length c10, .slice A11 D6.recsOf.1.length c11, .int .i64 0]) rfl rfl) ?_
                refine op rfl (r_extract (vs := [jq jb10, .slice A10 D6.stateOf.length c10, .slice A11 D6.recsOf.1.length c11, .int .i64 0]) rfl rfl) ?_
                refine op rfl (r_extract (vs := [jq jb10, .slice A10 D6.stateOf.length c10, .slice A11 D6.recsOf.1.length c11, .int .i64 0]) rfl rfl) ?_
                refine op rfl (r_extract (vs := [jq jb10, .slice A10 D6.stateOf.length c10, .slice A11 D6.recsOf.1.length c11, .int .i64 0]) rfl rfl) ?_
                refine op rfl (r_assignV (v := jq jb10) rfl) ?_
                refine op rfl (r_assignV (v := .slice A10 D6.stateOf.length c10) rfl) ?_
                refine op rfl (r_assignV (v := .slice A11 D6.recsOf.1.length c11) rfl) ?_
                refine op rfl (r_assignV (v := .int .i64 0) rfl) ?_
                refine WL_nil ?_
                refine W_seq ?_
                refine W_region ?_
                refine op rfl (r_assignV (v := .slice _ _ _) rfl) ?_
                refine WL_nil ?_
                refine W_seq ?_
                refine W_region ?_
                refine op rfl (r_moveV (v := .slice _ _ _) rfl) ?_
                refine op rfl (r_moveV (v := .slice _ _ _) rfl) ?_
                obtain ⟨va, w11, hra, hOa, hGa, _⟩ := run_append (T := Ty.byte.slice) (F := old W) (P := Try.prog) (t := 22) (ty := 22) (m := l) (c := co) (v := .slice none 0 0) (l := []) (B := w10.heap.size) Try.underlying22 Try.sz23 Try.by23 Try.zero23 rfl Own.nil (hA.keep hX.same (fun _ h => h) : Ty.byte.slice.Row w10 (old W) Ao l).src (fun b hb => ⟨Nat.lt_of_lt_of_le hb hX.size, fun q => by cases q⟩) (by simp only [List.length_nil]; omega) (by simp only [List.length_nil]; omega) (Nat.le_refl _)
                rw [List.nil_append] at hOa
                have hE11 : Ext w10 w11 := Gro.ext hGa
                replace hX := hX.trans hE11
                refine op rfl (r_append rfl rfl hra) ?_
                refine op rfl (r_assignV (v := va) rfl) ?_
                refine WL_nil ?_
                refine W_seq ?_
                refine W_region ?_
                refine op rfl (r_moveV (v := va) rfl) ?_
                refine op rfl (r_moveV (v := .slice _ _ _) rfl) ?_
                refine op_newS rfl (r_buildSlice (vs := [.slice _ _ _]) Try.underlying22 Try.sz23 Try.zero23 rfl rfl rfl) ?_
                intro w24_2 b24_2 E24_2 B24_2 L24_2
                have hG24_2 : W.heap.size ≤ b24_2 := by have := hX.size; omega
                replace hX := hX.trans E24_2
                have hOa2 := hOa.ext E24_2 (fun b hb => by have hb' : b < W.heap.size := hb; have := hX10.size; have := hE11.size; omega)
                obtain ⟨vb, w12, hrb, hOb, hGb, _⟩ := run_append (T := Ty.byte.slice) (F := old W) (P := Try.prog) (t := 22) (ty := 22) (m := [m]) (c := 1) (A := some ⟨b24_2, 0, none⟩) (B := w10.heap.size) Try.underlying22 Try.sz23 Try.by23 Try.zero23 rfl hOa2 (Src.blk (c := [.slice Am m.length cm]) B24_2 ⟨Am, cm, rfl, hcm, bigs _ (by omega), hM.keep hX.same (fun _ h => h)⟩) (fun b hb => ⟨Nat.lt_of_lt_of_le hb hX.size, fun q => by have := (hOa2.lt q).1; have := hX10.size; have hb' : b < W.heap.size := hb; omega⟩) (by simp only [List.length_singleton]; omega) (by simp only [List.length_singleton]; omega) (Nat.le_trans hE11.size E24_2.size)
                have hE12 : Ext w10 w12 := Below.gro (hE11.trans E24_2) hGb (hE11.trans E24_2).size (fun k hk => (hOa2.lt hk).1)
                have hX12 : Ext W w12 := hX10.trans hE12
                replace hX := hX12
                obtain ⟨Ab, cb, hvb, hcb, hrowb⟩ := hOb.old (fun b hb => Nat.lt_of_lt_of_le hb hX12.size)
                subst hvb
                refine op rfl (r_append rfl rfl hrb) ?_
                refine op rfl (r_assignV (v := .slice Ab (l ++ [m]).length cb) rfl) ?_
                refine WL_nil ?_
                refine W_seq ?_
                refine W_region ?_
                refine op rfl (r_moveV (v := .int _ _) rfl) ?_
                refine op rfl (r_eql rfl rfl) ?_
                refine op_true rfl (r_moveV (v := .bool (decide _)) rfl) (rfl) ?_
                refine opG_yes rfl rfl rfl rfl rfl (r_moveV (v := .int .i64 0) rfl) ?_
                refine opG_yes rfl rfl rfl rfl rfl (r_eql rfl rfl) ?_
                refine op rfl (r_pickTV (v := .bool _) rfl rfl) ?_
                refine op_true rfl (r_moveV (v := .bool (decide _)) rfl) (rfl) ?_
                refine opG_yes rfl rfl rfl rfl rfl (r_moveV (v := .slice A11 D6.recsOf.1.length c11) rfl) ?_
                refine opG_yes rfl rfl rfl rfl rfl (r_moveV (v := .slice Ab (l ++ [m]).length cb) rfl) ?_
                have SL12 := sameLists_spec A11 c11 D6.recsOf.1 Ab cb (l ++ [m]) w12 (by rw [r7]; exact bigs _ (by simp only [List.length_append, List.length_singleton]; omega)) (hr11'.ext hE12) hrowb
                refine opGCv_yes rfl rfl rfl rfl rfl (r_call Try.func13 Try.nm13 rfl) (SL12) ?_
                rintro v w13 ⟨rfl, hE⟩
                replace hX := hX.trans hE
                refine op rfl (r_pickTV (v := .bool _) rfl rfl) ?_
                refine op_true rfl (r_moveV (v := .bool (decide _)) rfl) (r7) ?_
                refine opGCv_yes rfl rfl rfl rfl rfl (r_call Try.func14 Try.nm14 rfl) (longNil_spec _) ?_
                rintro v w14 ⟨rfl, hE⟩
                replace hX := hX.trans hE
                refine opG_yes rfl rfl rfl rfl rfl (r_eql rfl rfl) ?_
                refine op rfl (r_pickTV (v := .bool _) rfl rfl) ?_
                refine op_true rfl (r_moveV (v := .bool (decide _)) rfl) (rfl) ?_
                refine opGCv_yes rfl rfl rfl rfl rfl (r_call Try.func7 Try.nm7 rfl) (known_spec _) ?_
                rintro v w15 ⟨rfl, hE⟩
                replace hX := hX.trans hE
                refine op rfl (r_pickTV (v := .bool _) rfl rfl) ?_
                refine op rfl (r_assignV (v := .bool _) rfl) ?_
                refine WL_nil ?_
                refine W_ret (finX_ret ?_)
                refine fin1 ?_
                exact ⟨_, rfl, rfl, hX⟩
end Go.Proofs.Ytlidigdlcjhkfaa
