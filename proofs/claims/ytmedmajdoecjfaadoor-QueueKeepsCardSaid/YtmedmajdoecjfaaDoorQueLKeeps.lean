/-
  What was handed in, spoilt behind that, is committed as it was: the walk.
-/
import Derived.Test.YtmedmajdoecjfaaDoorFacts
import Derived.Test.YtmedmajdoecjfaaDoorQueH
namespace Go.Proofs.YtmedmajdoecjfaaDoor
open Go Go.Eng Go.RowKit Go.Proofs
set_option linter.unusedVariables false
set_option linter.unusedSimpArgs false
set_option maxHeartbeats 1000000
set_option maxRecDepth 20000

theorem right_ab (b : List UInt8) (hb : b.length ≤ 65536) : rightT [⟨[97], b⟩] := by
  refine ⟨by simp, fun i h => ?_, ?_⟩
  · obtain rfl : i = 0 := by simp at h; omega
    exact ⟨by show rightP [97]; decide, fun h0 => absurd h0 (Nat.lt_irrefl _), hb⟩
  · rintro ⟨x, hx, y, hy, hd⟩
    rw [List.mem_singleton.1 hx, List.mem_singleton.1 hy] at hd
    have : dirP [97] = [] := by decide
    rw [this, dirs_nil] at hd
    cases hd
theorem keeps_apply (b : List UInt8) (hb : b.length ≤ 65536) : applyT [] [⟨1, [97], b⟩] = (0, [⟨[97], b⟩]) := by
  have hs : stepT [] ⟨1, [97], b⟩ = (0, [⟨[97], b⟩]) := by
    rw [st0 (fun q => q.elim (fun q => absurd q (show ¬ (1 : Int) < 1 by decide)) (fun q => q.elim (fun q => absurd q (show ¬ 3 < (1 : Int) by decide)) (fun q => q (by show rightP [97]; decide)))) (show (1 : Int) ≠ 3 by decide) ⟨fun _ => (show ¬ hasT [] [97] = true by decide), fun _ => rfl⟩]
    rfl
  refine ap0 ?_ ?_ (right_ab b hb)
  · rw [run_cons0 (by rw [hs])]; rw [hs]; rfl
  · rintro (q | ⟨x, hx, q⟩)
    · simp at q
    · rw [List.mem_singleton.1 hx] at q; simp at q; omega
abbrev addB (b : List UInt8) : List Dl := [⟨1, [97], b⟩]
theorem keeps_commit (b : List UInt8) (hb : b.length ≤ 65536) : commitR [⟨[], []⟩] (addB b) = ([⟨[], []⟩, ⟨addB b, [⟨[97], b⟩]⟩], 1, 0) := by
  have h : headT [⟨[], []⟩] = [] := rfl
  rw [c_ok (by simp) (by simp) (by rw [h, keeps_apply b hb]), h, keeps_apply b hb]
  rfl
abbrev q3 : Qs := ⟨[⟨[], []⟩], [], 3, fun _ => none⟩
abbrev r7 (b : List UInt8) : Rq := ⟨7, 0, addB b⟩
abbrev q4 (b : List UInt8) : Qs := { q3 with ws := [r7 b], tk := setK q3.tk 7 none }
theorem keeps_sub (b : List UInt8) : submitR q3 (r7 b) = (q4 b, 0) := by
  rw [sub0 (by simp) (by simp) (by simp) (by simp)]; rfl
abbrev q5 (b : List UInt8) : Qs := ⟨[⟨[], []⟩, ⟨addB b, [⟨[97], b⟩]⟩], [], 3, setK (setK q3.tk 7 none) 7 (some ⟨7, 1, 1, 0⟩)⟩
theorem keeps_step (b : List UInt8) (hb : b.length ≤ 65536) : stepQ (q4 b) true = (q5 b, ⟨7, 1, 1, 0⟩, true) := by
  have ha : answerR [⟨[], []⟩] (r7 b) true = ([⟨[], []⟩, ⟨addB b, [⟨[97], b⟩]⟩], ⟨7, 1, 1, 0⟩) := by
    rw [ans1 (notlate_fresh (Int.le_refl 0)) (by decide) (by show ¬ (commitR [⟨[], []⟩] (addB b)).2.2 ≠ 0; rw [keeps_commit b hb]; simp)]
    show ((commitR [⟨[], []⟩] (addB b)).1, (⟨7, 1, (commitR [⟨[], []⟩] (addB b)).2.1, 0⟩ : An)) = _
    rw [keeps_commit b hb]
  show ({ q3 with H := (answerR [⟨[], []⟩] (r7 b) true).1, ws := [], tk := setK (setK q3.tk 7 none) 7 (some (answerR [⟨[], []⟩] (r7 b) true).2) }, (answerR [⟨[], []⟩] (r7 b) true).2, true) = _
  rw [ha]
theorem addB_row {w : World} {b c : Nat} {Am : Option Addr} {body : List UInt8} {G : Nat → Prop} (B : Blk w b #[.int .i64 1, .string (str [97]), .slice Am body.length c] 38) (hG : G b) (hc : body.length ≤ c) (hl : body.length ≤ 140737488355328) (hr : Ty.byte.Row w G Am body) : dlT.Row w G (some ⟨b, 0, none⟩) (addB body) := Blk.row B hG (fun i hi => by
  obtain rfl : i = 0 := by simp at hi; omega
  exact ⟨_, dl_mk (x := ⟨1, [97], body⟩) (A := Am) (c := c) (show inK .i64 (1 : Int) by decide) hc hl (by simp) hr, fun j hj => by simp⟩)
theorem set_mid {c : Array Value} {i : Nat} {v : Value} (h : i < c.size) : c.setIfInBounds i v = (c.toList.take i ++ [v] ++ c.toList.drop (i + 1)).toArray := by
  apply Array.ext'
  simp [List.set_eq_take_append_cons_drop, h]
theorem queueKeeps_walk {Ab : Option Addr} {cb : Nat} {body : List UInt8} {Ao : Option Addr} {co : Nat} {other : List UInt8} {w : World} (hb : Ty.byte.Row w (old w) Ab body) (hcb : body.length ≤ cb) (hbl : body.length ≤ 140737488355328) (hco : other.length ≤ co) (hol : other.length ≤ 140737488355328) :
    Calls Tryd.prog 6 #[.slice Ab body.length cb, .slice Ao other.length co] w (fun en w' => ∃ v, en = .returned v ∧ v = .bool true ∧ Ext w w') := by
  refine calls' (n := 111) (rs := #[.tmp 4]) (l := [.slice Ab body.length cb, .slice Ao other.length co]) Tryd.func6 rfl rfl rfl rfl rfl ?_
  have hX := Ext.refl w
  refine W_seq ?_
  refine W_region ?_
  refine op rfl (r_assignV (v := .bool _) rfl) ?_
  refine WL_nil ?_
  refine W_seq ?_
  refine W_seq ?_
  refine W_region ?_
  refine op rfl (r_moveV (v := .slice _ _ _) rfl) ?_
  refine op rfl (r_len_slice rfl Tryd.underlying24) ?_
  refine op rfl (r_moveV (v := .slice _ _ _) rfl) ?_
  refine op rfl (r_len_slice rfl Tryd.underlying24) ?_
  refine op rfl (r_add' (r := ((body.length + other.length : Nat) : Int)) rfl rfl (by rw [wrap_i64 (by omega) (by omega)]; omega)) ?_
  refine op rfl (r_gtr rfl rfl) ?_
  refine WL_nil ?_
  refine W_ifp rfl (fun ht21 => ?_) (fun ht21 => ?_)
  · refine W_seq ?_
    refine W_region ?_
    refine opCv rfl (r_call Tryd.func12 Tryd.nm12 rfl) (known13_spec _) ?_
    rintro v9 w9 ⟨rfl, hE⟩
    replace hX := hX.trans hE
    refine op rfl (r_assignV (v := .bool _) rfl) ?_
    refine WL_nil ?_
    refine W_ret (finX_ret ?_)
    refine fin1 ?_
    exact ⟨_, rfl, by first | rfl | exact (bool_tt trivial).symm, by first | exact hX | exact (hXw13.trans hX14).trans hX⟩
  · have hbs : body.length ≤ 400 := by omega
    have hX0 := hX
    refine W_skip ?_
    refine W_seq ?_
    refine W_region ?_
    refine opCv rfl (r_call Tryd.func13 Tryd.nm13 rfl) (que_new2 (A := none) (cap := 0) (t := []) (G := fun _ ↦ False) (fun _ q ↦ q.elim) (Or.inl rfl) right_nil) ?_
    rintro v1 w1 ⟨ph, rfl, hH, hE⟩
    replace hX := hX.trans hE
    have hG1 : HG w nobody ph w1 _ := HG.second (fun b q => q.elim) hX0 hH hE
    refine op rfl (r_moveV (v := .tuple #[hp ph, .int .i64 0]) rfl) ?_
    refine op rfl (r_extract (vs := [hp ph, .int .i64 0]) rfl rfl) ?_
    refine op rfl (r_extract (vs := [hp ph, .int .i64 0]) rfl rfl) ?_
    refine op rfl (r_assignV (v := hp ph) rfl) ?_
    refine op rfl (r_assignV (v := .int .i64 0) rfl) ?_
    refine WL_nil ?_
    refine W_seq ?_
    refine W_region ?_
    refine op rfl (r_moveV (v := hp ph) rfl) ?_
    refine opCv rfl (r_call Tryd.func14 Tryd.nm14 rfl) (newG hG1 3 (by decide)) ?_
    rintro v2 w2 ⟨pq, rfl, hQ, hE⟩
    replace hX := hX.trans hE
    have hQ2 : QG w nobody pq ph w2 q3 := hQ
    have hX2 := hX
    have hb2 : Ty.byte.Row w2 (old w) Ab body := hb.keep (fun b hb => hX2.block b hb) (fun _ h => h)
    clear hX
    have hX := Ext.refl w2
    refine op rfl (r_assignV (v := .pointer _) rfl) ?_
    refine WL_nil ?_
    refine W_seq ?_
    refine W_region ?_
    refine op rfl (r_moveV (v := .slice _ _ _) rfl) ?_
    refine opCv rfl (r_call Tryd.func26 Tryd.nm26 rfl) (copyB_spec (fun b (hb : b < w.heap.size) ↦ Nat.lt_of_lt_of_le hb hX2.size) hb2 hbl) ?_
    rintro v5 w5 ⟨hO5, hE⟩
    replace hX := hX.trans hE
    obtain ⟨Am, cm, rfl, hcm, hrm⟩ := hO5.read
    have hE5 := hE
    refine op rfl (r_assignV (v := .slice _ _ _) rfl) ?_
    refine WL_nil ?_
    refine W_seq ?_
    refine W_region ?_
    refine op rfl (r_moveV (v := .slice _ _ _) rfl) ?_
    refine op rfl (r_build (cs := [.int .i64 1, .string (str [97]), .slice Am body.length cm]) Tryd.lay38 (List.forall_mem_cons.2 ⟨rfl, List.forall_mem_cons.2 ⟨rfl, List.forall_mem_cons.2 ⟨rfl, fun _ h => absurd h List.not_mem_nil⟩⟩⟩) rfl rfl) ?_
    refine op_newS rfl (r_buildRows (vs := [[.int .i64 1, .string (str [97]), .slice Am body.length cm]]) Tryd.underlying39 Tryd.sz38 Tryd.zero38 rfl rfl rfl) ?_
    intro w6 b6 E6 B6 L6
    replace hX := hX.trans E6
    have hs5 := hE5.size
    have hs6 := E6.size
    have hrm6 : Ty.byte.Row w6 (since w2 w6) Am body := hrm.keep (fun b hb => E6.block b (hb.elim (fun q => q.elim) (fun q => (hO5.lt q).2))) (fun b hb => hb.elim (fun q => q.elim) (fun q => by have := hO5.lt q; exact ⟨this.1, by omega⟩))
    have hrow6 : dlT.Row w6 (since w2 w6) (some ⟨b6, 0, none⟩) (addB body) := addB_row B6 ⟨by omega, Blk.lt B6⟩ hcm hbl hrm6
    have hG6 := hQ2.all hX
    have lb6 := Blk.lt B6
    have hO6 := own_fext hO5 E6
    refine op rfl (r_assignV (v := .slice _ _ _) rfl) ?_
    refine WL_nil ?_
    refine W_seq ?_
    refine W_region ?_
    refine op rfl (r_moveV (v := hp pq) rfl) ?_
    refine op rfl (r_moveV (v := .slice _ _ _) rfl) ?_
    refine op rfl (r_build (cs := [.int .i64 7, .int .i64 0, .slice (some ⟨b6, 0, none⟩) 1 1]) Tryd.lay41 (List.forall_mem_cons.2 ⟨rfl, List.forall_mem_cons.2 ⟨rfl, fun _ h => absurd h List.not_mem_nil⟩⟩) rfl rfl) ?_
    refine opCv rfl (r_call Tryd.func15 Tryd.nm15 rfl) (submitG hG6 (r7 body) (c := 1) (fun k hk ↦ Or.inr (Or.inr hk)) hrow6 (show inK .i64 (7 : Int) by decide) (show inK .i64 (0 : Int) by decide) (by simp)) ?_
    rintro v7 w7 ⟨hv7, hQ7, hK7⟩
    rw [keeps_sub] at hv7 hQ7
    subst hv7
    have D6 := B6.at (hK7.same b6 (Or.inr (Or.inr ⟨by omega, Blk.lt B6⟩)))
    have hO7 : Eng.Own Ty.byte w7 nobody w2.heap.size 5 (.slice Am body.length cm) body := hO6.keep (fun _ q => q.elim) (fun _ h => h) (fun g hg => hK7.same g (Or.inr (Or.inr (hO6.lt hg))))
    have hoA : ∀ g, (Value.slice Am body.length cm).ownBlock = some g → w2.heap.size ≤ g ∧ g < w5.heap.size ∧ g ≠ b6 := fun g hg => by have := hO5.lt hg; exact ⟨this.1, this.2, by omega⟩
    have hs2 := hX2.size
    have hs7 := hK7.size
    clear hX
    have hX := Ext.refl w7
    refine op rfl (r_assignV (v := .int _ _) rfl) ?_
    refine WL_nil ?_
    refine W_seq ?_
    refine W_seq ?_
    refine W_region ?_
    refine op rfl (r_assignV (v := .int _ _) rfl) ?_
    refine WL_nil ?_
    refine W_block ?_
    refine W_loop [11, 38, 39, 40, 41, 42, 43, 44, 45, 46, 47, 48, 49, 50, 51] (fun qq e' w' => ∃ (i : Nat) (l : List UInt8), qq = body.length - i ∧ i ≤ body.length ∧ e' 11 = .int .i64 i ∧ l.length = body.length ∧ Eng.Own Ty.byte w' nobody w2.heap.size 5 (.slice Am body.length cm) l ∧ QG w (fun b => nobody b ∨ since w2 w6 b) pq ph w' (q4 body) ∧ Blk w' b6 #[.int .i64 1, .string (str [97]), .slice Am body.length cm] 38 ∧ Same (old w) w7 w' ∧ w7.heap.size ≤ w'.heap.size) (body.length) ?_ ?_
    · exact ⟨0, body, by omega, by omega, rfl, rfl, hO7, hQ7, D6, fun _ _ => rfl, Nat.le_refl _⟩
    intro k g w' hI
    obtain ⟨i, l, hq, hi, h11, hll, hO', hQ', D6', hS', hs'⟩ := hI
    clear hX
    have hX := Ext.refl w'
    obtain ⟨w0i, hw0i⟩ : ∃ x, x = w' := ⟨_, rfl⟩
    subst hw0i
    refine W_set (i := 11) h11 ?_
    refine W_seq ?_
    refine W_seq ?_
    refine W_region ?_
    refine op rfl (r_moveV (v := .int _ _) rfl) ?_
    refine op rfl (r_moveV (v := .slice _ _ _) rfl) ?_
    refine op rfl (r_len_slice rfl Tryd.underlying24) ?_
    refine op rfl (r_lss rfl rfl) ?_
    refine WL_nil ?_
    refine W_ifp rfl (fun ht41 => ?_) (fun ht41 => ?_)
    · have hlt : i < l.length := by omega
      obtain ⟨Ar, cr, hve, hcr, hrr⟩ := hO'.read
      simp only [Value.slice.injEq] at hve
      obtain ⟨rfl, hle, rfl⟩ := hve
      obtain ⟨ga, oa, hAe, hga, _, hcell⟩ := Ty.Row.cell hrr hlt
      obtain ⟨g, cap, c, hve, hcap, hBg, hBk, hfit, hxl, hx1, hset⟩ := hO'.storeAt hlt (x := l[i] ^^^ 255) (xs := [.int .u8 (l[i].toBitVec ^^^ 255#8).toNat]) ⟨rfl, trivial⟩ (fun _ q => q.elim)
      simp only [Value.slice.injEq] at hve
      obtain ⟨hve, -, -⟩ := hve
      have e1 : Ty.byte.sz = 1 := rfl
      rw [e1, Nat.mul_one] at hfit
      simp only [List.length_singleton] at hfit
      refine W_skip ?_
      refine W_seq ?_
      refine W_block ?_
      refine W_region ?_
      refine op rfl (r_moveV (v := .slice _ _ _) rfl) ?_
      refine op rfl (r_moveV (v := .int _ _) rfl) ?_
      refine op rfl (r_moveV (v := .slice _ _ _) rfl) ?_
      refine op rfl (r_moveV (v := .int _ _) rfl) ?_
      refine op rfl (r_indexAddr1 rfl rfl hAe Tryd.underlying24 Tryd.sz5 (by omega) (by omega)) ?_
      refine op rfl (r_load (v := .int .u8 (l[i].toBitVec).toNat) rfl Tryd.underlying5 rfl hcell) ?_
      refine op rfl (r_xor8 (a := l[i].toBitVec) (b := 255#8) rfl rfl) ?_
      refine op rfl (r_indexAddr1 rfl rfl hve Tryd.underlying24 Tryd.sz5 (by omega) (by omega)) ?_
      refine op_store (v := .int .u8 (l[i].toBitVec ^^^ 255#8).toNat) rfl rfl rfl Tryd.sz5 hBk (by omega) ?_
      intro w9 C9 B9
      have hgo := hoA g (by rw [hve]; rfl)
      have hO9 := hset w9 C9 (by rw [Nat.zero_add, set_mid (by omega)] at B9; rw [e1, Nat.mul_one]; exact B9)
      have hQ9 : QG w (fun b => nobody b ∨ since w2 w6 b) pq ph w9 (q4 body) := hQ'.mv (Y := fun b => b = g) (Mv.of_chg C9 rfl) (fun b q => by subst q; exact ⟨by omega, fun _ => Or.inr ⟨by omega, by omega⟩⟩) (fun b q => ⟨Or.inl q, Nat.lt_of_lt_of_le (hQ'.bl b q) C9.size⟩)
      have D9 := Chg.blk C9 D6' (by omega)
      have hS9 : Same (old w) w7 w9 := fun b (hb : b < w.heap.size) => (C9.block b (by omega) (by omega)).trans (hS' b hb)
      have hs9 : w7.heap.size ≤ w9.heap.size := Nat.le_trans hs' C9.size
      refine WL_nil ?_
      refine W_region ?_
      refine op rfl (r_moveV (v := .int _ _) rfl) ?_
      refine op rfl (r_add' (r := ((i + 1 : Nat) : Int)) rfl rfl (by rw [wrap_i64 (by omega) (by omega)]; omega)) ?_
      refine op rfl (r_assignV (v := .int _ _) rfl) ?_
      refine WL_nil ?_
      refine ⟨?_, by repeat (first | with_reducible exact Out.refl _ _ | with_reducible exact Out.mix | refine Out.put rfl ?_ | refine Out.mixin rfl ?_ | exact Out.refl _ _ | exact Out.mix)⟩
      exact ⟨body.length - (i + 1), by omega, i + 1, _, rfl, by omega, rfl, by rw [List.length_set]; exact hll, hO9, hQ9, D9, hS9, hs9⟩
    · refine W_exit (blk_hit ?_)
      refine W_seq ?_
      refine W_region ?_
      refine op rfl (r_moveV (v := .slice _ _ _) rfl) ?_
      refine op rfl (r_moveV (v := .slice _ _ _) rfl) ?_
      refine op rfl (r_build (cs := [.int .i64 1, .string (str [98]), .slice Ao other.length co]) Tryd.lay38 (List.forall_mem_cons.2 ⟨rfl, List.forall_mem_cons.2 ⟨rfl, List.forall_mem_cons.2 ⟨rfl, fun _ h => absurd h List.not_mem_nil⟩⟩⟩) rfl rfl) ?_
      refine op rfl (r_indexAddrK (i := 0) rfl rfl Tryd.underlying39 Tryd.sz38 (Nat.lt_add_one 0)) ?_
      refine op_storeRow (c' := #[.int .i64 1, .string (str [98]), .slice Ao other.length co]) rfl rfl Tryd.sz38 D6' rfl rfl ?_
      intro w12 C12 B12
      have hQ12 : QG w (fun b => nobody b ∨ since w2 w6 b) pq ph w12 (q4 body) := hQ'.mv (Y := fun b => b = b6) (Mv.of_chg C12 rfl) (fun b q => by subst q; exact ⟨by omega, fun _ => Or.inr ⟨by omega, by omega⟩⟩) (fun b q => ⟨Or.inl q, Nat.lt_of_lt_of_le (hQ'.bl b q) C12.size⟩)
      clear hX
      have hX := Ext.refl w12
      refine WL_nil ?_
      refine W_seq ?_
      refine W_region ?_
      refine op rfl (r_moveV (v := hp pq) rfl) ?_
      refine opCv rfl (r_call Tryd.func16 Tryd.nm16 rfl) (stepG hQ12 true) ?_
      rintro v13 w13 ⟨hv13, hQ13, hK13⟩
      rw [keeps_step body (by omega)] at hv13 hQ13
      subst hv13
      have hXw13 := hQ13.ext
      have hH13 := hQ13.que.hist
      clear hX
      have hX := Ext.refl w13
      refine op rfl (r_moveV (v := .tuple #[.agg #[.int .i64 7, .int .i64 1, .int .i64 1, .int .i64 0], .bool true]) rfl) ?_
      refine op rfl (r_extract (vs := [.agg #[.int .i64 7, .int .i64 1, .int .i64 1, .int .i64 0], .bool true]) rfl rfl) ?_
      refine op rfl (r_extract (vs := [.agg #[.int .i64 7, .int .i64 1, .int .i64 1, .int .i64 0], .bool true]) rfl rfl) ?_
      refine op_alloc rfl Tryd.zero43 ?_
      intro w13_5 b13_5 E13_5 B13_5 L13_5
      have hG13_5 : w13.heap.size ≤ b13_5 := by have := hX.size; omega
      replace hX := hX.trans E13_5
      refine op_storeRow rfl rfl Tryd.sz43 B13_5 rfl rfl ?_
      intro w13_6 C13_6 BB13_6
      replace hX := hX.chg C13_6 hG13_5
      replace B13_5 := BB13_6
      refine op rfl (r_assignV (v := .bool true) rfl) ?_
      refine WL_nil ?_
      refine W_seq ?_
      refine W_region ?_
      refine op rfl (r_moveV (v := hp ph) rfl) ?_
      refine opCv rfl (r_call Tryd.func23 Tryd.nm23 rfl) (histAt_spec (hH13.ext hX) 1) ?_
      rintro v14 w14 ⟨v15, rfl, hO14, hE⟩
      replace B13_5 := Blk.ext B13_5 hE
      replace hX := hX.trans hE
      have hg14 : getR (q5 body).H 1 = ⟨addB body, [⟨[97], body⟩]⟩ := rfl
      rw [hg14] at hO14
      have hO14 : OwnT _ w14 v15 [⟨[97], body⟩] := hO14
      obtain ⟨A14, c14, rfl, hc14, hr14⟩ := hO14.rd
      obtain ⟨g14, o14, cs14, hA14, _, hx14, hcell14⟩ := hr14.cells (i := 0) (by simp)
      obtain ⟨Ab14, cb14, rfl, hcb14, _, _, hrb14⟩ := fi_cells hx14
      have hX14 := hX
      clear hX
      have hX := Ext.refl w14
      refine op rfl (r_moveV (v := .tuple #[.slice A14 1 c14, .int .i64 0]) rfl) ?_
      refine op rfl (r_extract (vs := [.slice A14 1 c14, .int .i64 0]) rfl rfl) ?_
      refine op rfl (r_extract (vs := [.slice A14 1 c14, .int .i64 0]) rfl rfl) ?_
      refine op rfl (r_assignV (v := .slice A14 1 c14) rfl) ?_
      refine op rfl (r_assignV (v := .int .i64 0) rfl) ?_
      refine WL_nil ?_
      refine W_seq ?_
      refine W_region ?_
      refine op rfl (r_moveV (v := .int .i64 0) rfl) ?_
      refine op rfl (r_eql rfl rfl) ?_
      refine op_true rfl (r_moveV (v := .bool (decide _)) rfl) (rfl) ?_
      refine opG_yes rfl rfl rfl rfl rfl (r_moveV (v := .int _ _) rfl) ?_
      refine opG_yes rfl rfl rfl rfl rfl (r_eql rfl rfl) ?_
      refine op rfl (r_pickTV (v := .bool _) rfl rfl) ?_
      refine op_true rfl (r_moveV (v := .bool (decide _)) rfl) (rfl) ?_
      refine opG_yes rfl rfl rfl rfl rfl (r_moveV (v := .int .i64 0) rfl) ?_
      refine opG_yes rfl rfl rfl rfl rfl (r_eql rfl rfl) ?_
      refine op rfl (r_pickTV (v := .bool _) rfl rfl) ?_
      refine op_true rfl (r_moveV (v := .bool (decide _)) rfl) (rfl) ?_
      refine opG_yes rfl rfl rfl rfl rfl (r_moveV (v := .bool true) rfl) ?_
      refine op rfl (r_pickTV (v := .bool _) rfl rfl) ?_
      refine op_splitB rfl (r_moveV (v := .bool _) rfl) (fun hg79 => ?_) (fun hg79 => ?_)
      · refine opG_yes rfl rfl rfl rfl rfl (r_fieldAddr rfl Tryd.fld43_1 rfl) ?_
        refine opG_yes rfl rfl rfl rfl rfl (r_load (v := .int .i64 1) rfl Tryd.underlying3 rfl (Blk.cell B13_5 rfl)) ?_
        refine opG_yes rfl rfl rfl rfl rfl (r_eql rfl rfl) ?_
        refine op rfl (r_pickTV (v := .bool _) rfl rfl) ?_
        refine op_true rfl (r_moveV (v := .bool (decide _)) rfl) (rfl) ?_
        refine opG_yes rfl rfl rfl rfl rfl (r_moveV (v := .slice A14 1 c14) rfl) ?_
        refine opG_yes rfl rfl rfl rfl rfl (r_len_slice rfl Tryd.underlying23) ?_
        refine opG_yes rfl rfl rfl rfl rfl (r_eql rfl rfl) ?_
        refine op rfl (r_pickTV (v := .bool _) rfl rfl) ?_
        refine op_true rfl (r_moveV (v := .bool (decide _)) rfl) (rfl) ?_
        refine opG_yes rfl rfl rfl rfl rfl (r_moveV (v := .slice A14 1 c14) rfl) ?_
        refine opG_yes rfl rfl rfl rfl rfl (r_indexAddrK (i := 0) (by rw [← hA14]; rfl) rfl Tryd.underlying23 Tryd.sz35 (Nat.lt_add_one 0)) ?_
        refine opG_yes rfl rfl rfl rfl rfl (r_fieldAddr rfl Tryd.fld35_0 rfl) ?_
        refine opG_yes rfl rfl rfl rfl rfl (r_load (v := .string (str [97])) rfl Tryd.underlying9 rfl (ext_cell hX (hcell14 0 (by decide)))) ?_
        refine opG_yes rfl rfl rfl rfl rfl (rs_eql rfl rfl) ?_
        refine op rfl (r_pickTV (v := .bool _) rfl rfl) ?_
        refine op_true rfl (r_moveV (v := .bool (decide _)) rfl) (rfl) ?_
        refine opG_yes rfl rfl rfl rfl rfl (r_moveV (v := .slice A14 1 c14) rfl) ?_
        refine opG_yes rfl rfl rfl rfl rfl (r_indexAddrK (i := 0) (by rw [← hA14]; rfl) rfl Tryd.underlying23 Tryd.sz35 (Nat.lt_add_one 0)) ?_
        refine opG_yes rfl rfl rfl rfl rfl (r_fieldAddr rfl Tryd.fld35_1 rfl) ?_
        refine opG_yes rfl rfl rfl rfl rfl (r_load (v := .slice Ab14 body.length cb14) rfl Tryd.underlying24 rfl (ext_cell hX (hcell14 1 (by decide)))) ?_
        refine opG_yes rfl rfl rfl rfl rfl (r_moveV (v := .slice _ _ _) rfl) ?_
        refine opGCv_yes rfl rfl rfl rfl rfl (r_call Tryd.func27 Tryd.nm27 rfl) (sameB_spec hrb14 (hb.keep (fun b hb ↦ (hXw13.trans hX14).block b hb) (fun _ h ↦ h))) ?_
        rintro v16 w16 ⟨rfl, hE⟩
        replace B13_5 := Blk.ext B13_5 hE
        replace hX := hX.trans hE
        refine op rfl (r_pickTV (v := .bool _) rfl rfl) ?_
        refine op_true rfl (r_moveV (v := .bool (decide _)) rfl) (rfl) ?_
        refine opGCv_yes rfl rfl rfl rfl rfl (r_call Tryd.func28 Tryd.nm28 rfl) (long13nil_spec _) ?_
        rintro v17 w17 ⟨rfl, hE⟩
        replace B13_5 := Blk.ext B13_5 hE
        replace hX := hX.trans hE
        refine opG_yes rfl rfl rfl rfl rfl (r_eql rfl rfl) ?_
        refine op rfl (r_pickTV (v := .bool _) rfl rfl) ?_
        refine op_true rfl (r_moveV (v := .bool (decide _)) rfl) (rfl) ?_
        refine opGCv_yes rfl rfl rfl rfl rfl (r_call Tryd.func12 Tryd.nm12 rfl) (known13_spec _) ?_
        rintro v18 w18 ⟨rfl, hE⟩
        replace B13_5 := Blk.ext B13_5 hE
        replace hX := hX.trans hE
        refine op rfl (r_pickTV (v := .bool _) rfl rfl) ?_
        refine op rfl (r_assignV (v := .bool _) rfl) ?_
        refine WL_nil ?_
        refine W_ret (finX_ret ?_)
        refine fin1 ?_
        exact ⟨_, rfl, by first | rfl | exact (bool_tt trivial).symm, by first | exact hX | exact (hXw13.trans hX14).trans hX⟩
      · cases hg79
theorem queueKeeps_row (W : World) (A0 : Option Addr) (c0 : Nat) (l0 : List UInt8) (h0 : l0.length ≤ c0) (b0 : l0.length ≤ big) (r0 : Ty.byte.Row W (old W) A0 l0) (A1 : Option Addr) (c1 : Nat) (l1 : List UInt8) (h1 : l1.length ≤ c1) (b1 : l1.length ≤ big) (r1 : Ty.byte.Row W (old W) A1 l1) :
    Calls Tryd.prog 6 #[.slice A0 l0.length c0, .slice A1 l1.length c1] W (fun e W' => ∃ v, e = .returned v ∧ v = .bool true ∧ Ext W W') :=
  queueKeeps_walk r0 h0 b0 h1 b1
end Go.Proofs.YtmedmajdoecjfaaDoor
