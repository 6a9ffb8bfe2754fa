/-
  What is known of queues.
  (facts that are wanted: Tryd.nm3 Tryd.nm4 Tryd.nm5 Tryd.nm6 Tryd.nm7 Tryd.nm8 Tryd.nm9 Tryd.nm10 Tryd.nm11 Tryd.nm12 Tryd.nm13 Tryd.nm14 Tryd.nm15 Tryd.nm16 Tryd.nm17 Tryd.nm18 Tryd.nm19 Tryd.nm20 Tryd.nm21 Tryd.nm22 Tryd.nm23 Tryd.nm24 Tryd.nm25 Tryd.nm26 Tryd.nm27 Tryd.nm28 Tryd.nm29 Tryd.nm30 Tryd.nm31 Tryd.nm32 Tryd.nm33 Tryd.nm34 Tryd.nm35 Tryd.nm36 Tryd.nm37 Tryd.nm38 Tryd.nm39 Tryd.nm40 Tryd.nm41 Tryd.nm42 Tryd.nm43 Tryd.nm44 Tryd.nm45 Tryd.nm46 Tryd.nm47 Tryd.nm48 Tryd.nm49 Tryd.nm50 Tryd.nm51 Tryd.nm52 Tryd.nm53 Tryd.nm54 Tryd.nm55 Tryd.nm56 Tryd.nm57 Tryd.nm58 Tryd.nm59 Tryd.nm60 Tryd.nm61 Tryd.nm62 Tryd.nm63 Tryd.nm64 Tryd.nm65 Tryd.nm66 Tryd.nm67 Tryd.nm68 Tryd.nm69 Tryd.nm70 Tryd.nm71 Tryd.nm72 Tryd.nm73 Tryd.nm74 Tryd.nm75 Tryd.sz3 Tryd.zero3 Tryd.by3 Tryd.sz9 Tryd.zero9 Tryd.by9 Tryd.sz5 Tryd.zero5 Tryd.by5 Tryd.sz38 Tryd.zero38 Tryd.by38 Tryd.sz35 Tryd.zero35 Tryd.by35 Tryd.sz43 Tryd.zero43 Tryd.by43 Tryd.sz4 Tryd.zero4 Tryd.by4 Tryd.ints43 Tryd.lay43 Tryd.lay35 Tryd.lay41 Tryd.lay38)
-/
import Derived.Test.YtmedmajdoecjfaaDoorFacts
import Derived.Test.YtmedmajdoecjfaaDoorQueA
import Derived.Test.YtmedmajdoecjfaaDoorGenB
import Derived.Test.YtmedmajdoecjfaaDoorGenA
namespace Go.Proofs.YtmedmajdoecjfaaDoor
open Go Go.Eng Go.RowKit Go.Proofs
set_option linter.unusedVariables false
set_option linter.unusedSimpArgs false
set_option maxHeartbeats 1000000
set_option maxRecDepth 20000

theorem noneNil_spec (w : World) :
    Calls Tryd.prog 45 #[.pointer none] w (fun en w' => ∃ v, en = .returned v ∧ v = .bool (decide True) ∧ Ext w w') := by
  refine calls' (n := 15) (rs := #[.tmp 2]) (l := [.pointer none]) Tryd.func45 rfl rfl rfl rfl rfl ?_; have hX := Ext.refl w; refine W_seq ?_; refine W_region ?_; refine op rfl (r_assignV (v := .bool _) rfl) ?_; refine WL_nil ?_; refine W_seq ?_; refine W_region ?_; refine op rfl (r_moveV (v := .pointer _) rfl) ?_; refine op rfl (rpn_eql rfl rfl Tryd.underlying32) ?_; refine op_true rfl (r_moveV (v := .bool (decide _)) rfl) (trivial) ?_; refine opG_no rfl rfl rfl rfl rfl ?_; refine opG_no rfl rfl rfl rfl rfl ?_; refine opG_no rfl rfl rfl rfl rfl ?_; refine opG_no rfl rfl rfl rfl rfl ?_; refine opG_no rfl rfl rfl rfl rfl ?_; refine opG_no rfl rfl rfl rfl rfl ?_; refine opG_no rfl rfl rfl rfl rfl ?_; refine opG_no rfl rfl rfl rfl rfl ?_; refine op rfl (r_pickTV (v := .bool _) rfl rfl) ?_; refine op rfl (r_assignV (v := .bool _) rfl) ?_; refine WL_nil ?_; refine W_ret (finX_ret ?_); refine fin1 ?_; exact ⟨_, rfl, rfl, hX⟩
theorem submitNil_spec (w : World) (id base : Int) (A : Option Addr) (n c : Nat) :
    Calls Tryd.prog 15 #[.pointer none, .agg #[.int .i64 id, .int .i64 base, .slice A n c]] w (fun en w' => ∃ v, en = .returned v ∧ v = .int .i64 1 ∧ Ext w w') := by
  refine calls' (n := 90) (rs := #[.tmp 4]) (l := [.pointer none, .agg #[.int .i64 id, .int .i64 base, .slice A n c]]) Tryd.func15 rfl rfl rfl rfl rfl ?_; have hX := Ext.refl w; refine W_seq ?_; refine W_region ?_; refine op_box (v := .agg _) rfl rfl ?_; intro w0_0 b0_0 E0_0 B0_0 L0_0
  have hG0_0 : w.heap.size ≤ b0_0 := by have := hX.size; omega
  replace hX := hX.trans E0_0; refine op rfl (r_assignV (v := .int _ _) rfl) ?_; refine WL_nil ?_; refine W_seq ?_; refine W_seq ?_; refine W_region ?_; refine op rfl (r_moveV (v := .pointer _) rfl) ?_; refine opCv rfl (r_call Tryd.func45 Tryd.nm45 rfl) (noneNil_spec _) ?_; rintro v1 w1 ⟨rfl, hE⟩; replace B0_0 := Blk.ext B0_0 hE; replace hX := hX.trans hE; refine WL_nil ?_; refine W_then (rfl) ?_; refine W_seq ?_; refine W_region ?_; refine op rfl (r_assignV (v := .int _ _) rfl) ?_; refine WL_nil ?_; refine W_ret (finX_ret ?_); refine fin1 ?_; exact ⟨_, rfl, rfl, hX⟩
abbrev addA : List Dl := [⟨1, [97], []⟩]
abbrev q0 : Qs := ⟨[⟨[], []⟩], [], 5, fun _ => none⟩
abbrev r5 : Rq := ⟨5, 0, addA⟩
theorem last_fresh (t : Tree) (s : List UInt8) : lastR [⟨[], t⟩] s = 0 := by unfold lastR lastGo lastGo; split <;> rfl
theorem notlate_fresh {t : Tree} {r : Rq} (h : 0 ≤ r.base) : ¬ lateR [⟨[], t⟩] r := by
  rintro ⟨d, _, hd⟩
  rw [last_fresh] at hd
  have : r.base < 0 := hd
  omega
theorem known_sub : submitR q0 r5 = ({ q0 with ws := [r5], tk := setK q0.tk 5 none }, 0) := by
  rw [sub0 (by decide) (by decide) (by decide) (by decide)]; rfl
theorem known_step : stepQ { q0 with ws := [r5], tk := setK q0.tk 5 none } true = (⟨[⟨[], []⟩, ⟨addA, [⟨[97], []⟩]⟩], [], 5, setK (setK q0.tk 5 none) 5 (some ⟨5, 1, 1, 0⟩)⟩, ⟨5, 1, 1, 0⟩, true) := by
  have ha : answerR [⟨[], []⟩] r5 true = ([⟨[], []⟩, ⟨addA, [⟨[97], []⟩]⟩], ⟨5, 1, 1, 0⟩) := by
    rw [ans1 (notlate_fresh (Int.le_refl 0)) (by decide) (by show ¬ (commitR [⟨[], []⟩] addA).2.2 ≠ 0; rw [known_commit]; simp)]
    show ((commitR [⟨[], []⟩] addA).1, (⟨5, 1, (commitR [⟨[], []⟩] addA).2.1, 0⟩ : An)) = _
    rw [known_commit]
  show ({ q0 with H := (answerR [⟨[], []⟩] r5 true).1, ws := [], tk := setK (setK q0.tk 5 none) 5 (some (answerR [⟨[], []⟩] r5 true).2) }, (answerR [⟨[], []⟩] r5 true).2, true) = _
  rw [ha]
theorem known_twice : submitR ⟨[⟨[], []⟩, ⟨addA, [⟨[97], []⟩]⟩], [], 5, setK (setK q0.tk 5 none) 5 (some ⟨5, 1, 1, 0⟩)⟩ r5 = (⟨[⟨[], []⟩, ⟨addA, [⟨[97], []⟩]⟩], [], 5, setK (setK q0.tk 5 none) 5 (some ⟨5, 1, 1, 0⟩)⟩, 12) :=
  sub12 (by decide) (by decide) (by decide)
theorem que_new2 {t : Tree} {w : World} {A : Option Addr} {cap : Nat} {G : Nat → Prop} (hG : ∀ b, G b → b < w.heap.size) (hrow : fiT.Row w G A t) (hr : rightT t) : Calls Tryd.prog 13 #[.slice A t.length cap] w (fun en w' => ∃ v, en = .returned v ∧ ∃ p, v = .tuple #[hp p, .int .i64 0] ∧ Hist p (since w w') w' [⟨[], t⟩] ∧ Ext w w') := by
  refine (new_spec (cap := cap) hG hrow (by have := hr.1; omega)).mono ?_; rintro en w' ⟨v, rfl, hE, ⟨_, p, rfl, hH⟩ | ⟨hn, rfl⟩⟩
  · exact ⟨_, rfl, p, rfl, hH, hE⟩
  · exact absurd hr hn
theorem add_row {w : World} {b : Nat} (B : Blk w b #[.int .i64 1, .string (str [97]), .slice none 0 0] 38) : dlT.Row w (fun k => k = b) (some ⟨b, 0, none⟩) addA := Blk.row B rfl (fun i hi => by
  obtain rfl : i = 0 := by simp at hi; omega
  exact ⟨_, dl_mk (x := ⟨1, [97], []⟩) (A := none) (c := 0) (by decide) (by simp) (by simp) (by simp) (Or.inl rfl), fun j hj => by simp⟩)
theorem known13_spec (w : World) :
    Calls Tryd.prog 12 #[] w (fun en w' => ∃ v, en = .returned v ∧ v = .bool (decide True) ∧ Ext w w') := by
  refine calls' (n := 54) (rs := #[.tmp 0]) (l := []) Tryd.func12 rfl rfl rfl rfl rfl ?_; have hX := Ext.refl w; refine W_seq ?_; refine W_region ?_; refine op rfl (r_assignV (v := .bool _) rfl) ?_; refine WL_nil ?_; refine W_seq ?_; refine W_region ?_; refine opCv rfl (r_call Tryd.func13 Tryd.nm13 rfl) (que_new2 (A := none) (cap := 0) (t := []) (G := fun _ ↦ False) (fun _ q ↦ q.elim) (Or.inl rfl) right_nil) ?_; rintro v1 w1 ⟨ph, rfl, hH, hE⟩; replace hX := hX.trans hE; have hX1 := hX; refine op rfl (r_moveV (v := .tuple #[hp ph, .int .i64 0]) rfl) ?_; refine op rfl (r_extract (vs := [hp ph, .int .i64 0]) rfl rfl) ?_; refine op rfl (r_extract (vs := [hp ph, .int .i64 0]) rfl rfl) ?_; refine op rfl (r_assignV (v := hp ph) rfl) ?_; refine op rfl (r_assignV (v := .int .i64 0) rfl) ?_; refine WL_nil ?_; refine W_seq ?_; refine W_region ?_; refine op rfl (r_moveV (v := hp ph) rfl) ?_; refine opCv rfl (r_call Tryd.func14 Tryd.nm14 rfl) (que_new_spec hH 5 (by decide)) ?_; rintro v2 w2 ⟨pq, rfl, hQ, hE⟩; replace hX := hX.trans hE; have hs1 := hX1.size; have hQ2 : Que pq ph (fun b => w.heap.size ≤ b ∧ b < w2.heap.size) w2 q0 := (hQ.lt).widen (fun b hb => ⟨by rcases hb.1 with k | k; exact k.1; have := k.1; omega, hb.2⟩); have hXw2 := hX; clear hX; have hX := Ext.refl w2; have hs2 := hXw2.size; refine op rfl (r_assignV (v := .pointer _) rfl) ?_; refine WL_nil ?_; refine W_seq ?_; refine W_region ?_; refine op rfl (r_build (cs := [.int .i64 1, .string (str [97]), .slice none 0 0]) Tryd.lay38 (List.forall_mem_cons.2 ⟨rfl, List.forall_mem_cons.2 ⟨rfl, fun _ h => absurd h List.not_mem_nil⟩⟩) rfl rfl) ?_; refine op_newS rfl (r_buildRows (vs := [[.int .i64 1, .string (str [97]), .slice none 0 0]]) Tryd.underlying39 Tryd.sz38 Tryd.zero38 rfl rfl rfl) ?_; intro w3 b3 E3 B3 L3; replace hX := hX.trans E3; refine op rfl (r_build (cs := [.int .i64 5, .int .i64 0, .slice (some ⟨b3, 0, none⟩) 1 1]) Tryd.lay41 (List.forall_mem_cons.2 ⟨rfl, List.forall_mem_cons.2 ⟨rfl, fun _ h => absurd h List.not_mem_nil⟩⟩) rfl rfl) ?_; refine op_alloc rfl Tryd.zero41 ?_; intro w3_3 b3_3 E3_3 B3_3 L3_3
  have hG3_3 : w2.heap.size ≤ b3_3 := by have := hX.size; omega
  replace hX := hX.trans E3_3; refine op_storeRow rfl rfl Tryd.sz41 B3_3 rfl rfl ?_; intro w3_4 C3_4 BB3_4; replace hX := hX.chg C3_4 hG3_3; replace B3_3 := BB3_4; refine WL_nil ?_; refine W_seq ?_; refine W_region ?_; refine op rfl (r_moveV (v := hp pq) rfl) ?_; refine op rfl (r_loadRow rfl B3_3 Tryd.underlying41 rfl Tryd.sz41) ?_; have lb3 := Blk.lt B3
  have hb33 : w3.heap.size ≤ b3_3 := by omega
  have C3 : Blk w3_4 b3 _ _ := Chg.blk C3_4 (Blk.ext B3 E3_3) (by omega); have lb33 := Blk.lt B3_3; have lb3' := Blk.lt C3; have hsW4 := hX.size; refine opCv rfl (r_call Tryd.func15 Tryd.nm15 rfl) (submit_spec (hQ2.ext hX) r5 (c := 1) (G := fun k ↦ k = b3) (fun k hk ↦ by subst hk; exact Blk.lt C3) (add_row C3) (by decide) (by decide) (by decide)) ?_; rintro v4 w4 ⟨hv4, hQ4, hM4⟩
  rw [known_sub] at hv4 hQ4
  subst hv4; have D3 := hM4.blk C3 (fun q => by have := q.2; omega); have D33 := hM4.blk B3_3 (fun q => by have := q.2; omega); have hs4 := hM4.size; have hXw4 : Ext w w4 := ext_mv (hXw2.trans hX) hM4 (fun b hb => hb.1); clear hX B3_3; have hX := Ext.refl w4; have B3_3 := D33
  have hQ4 : Que pq ph (fun b => w.heap.size ≤ b ∧ b ≠ b3 ∧ b ≠ b3_3 ∧ b < w4.heap.size) w4 { q0 with ws := [r5], tk := setK q0.tk 5 none } := hQ4.lt.widen (fun b hb => by
    have := hb.2
    rcases hb.1 with k | k
    · exact ⟨k.1, by have := k.2; omega, by have := k.2; omega, hb.2⟩
    · have := k.1; exact ⟨by omega, by omega, by omega, hb.2⟩)
  refine op rfl (r_assignV (v := .int .i64 0) rfl) ?_; refine WL_nil ?_; refine W_seq ?_; refine W_region ?_; refine op rfl (r_moveV (v := hp pq) rfl) ?_; refine opCv rfl (r_call Tryd.func16 Tryd.nm16 rfl) (stepQ_spec hQ4 true) ?_; rintro v5 w5 ⟨hv5, hQ5, hM5⟩
  rw [known_step] at hv5 hQ5
  subst hv5; have E3' := hM5.blk D3 (fun q => q.2.1 rfl); have E33 := hM5.blk B3_3 (fun q => q.2.2.1 rfl); have hs5 := hM5.size; have hXw5 : Ext w w5 := ext_mv hXw4 hM5 (fun b hb => hb.1); clear hX B3_3; have hX := Ext.refl w5; have B3_3 := E33; refine op rfl (r_moveV (v := .tuple #[.agg #[.int .i64 5, .int .i64 1, .int .i64 1, .int .i64 0], .bool true]) rfl) ?_; refine op rfl (r_extract (vs := [.agg #[.int .i64 5, .int .i64 1, .int .i64 1, .int .i64 0], .bool true]) rfl rfl) ?_; refine op rfl (r_extract (vs := [.agg #[.int .i64 5, .int .i64 1, .int .i64 1, .int .i64 0], .bool true]) rfl rfl) ?_; refine op_alloc rfl Tryd.zero43 ?_; intro w5_5 b5_5 E5_5 B5_5 L5_5
  have hG5_5 : w5.heap.size ≤ b5_5 := by have := hX.size; omega
  have hNb3_3_5_5 : b3_3 ≠ b5_5 := by have := Blk.lt B3_3; omega
  replace B3_3 := Blk.ext B3_3 E5_5; replace hX := hX.trans E5_5; refine op_storeRow rfl rfl Tryd.sz43 B5_5 rfl rfl ?_; intro w5_6 C5_6 BB5_6; replace B3_3 := Chg.blk C5_6 B3_3 hNb3_3_5_5; replace hX := hX.chg C5_6 hG5_5; replace B5_5 := BB5_6; refine op rfl (r_assignV (v := .bool true) rfl) ?_; refine WL_nil ?_; refine W_seq ?_; refine W_region ?_; refine op rfl (r_moveV (v := hp pq) rfl) ?_; refine op rfl (r_loadRow rfl B3_3 Tryd.underlying41 rfl Tryd.sz41) ?_; have F3 : Blk w5_6 b3 _ _ := Chg.blk C5_6 (Blk.ext E3' E5_5) (by have := Blk.lt E3'; omega); have lb55 := Blk.lt B5_5
  have hb55 : w5.heap.size ≤ b5_5 := by omega
  have lbF := Blk.lt E3'; refine opCv rfl (r_call Tryd.func15 Tryd.nm15 rfl) (submit_spec (hQ5.lt.ext hX) r5 (c := 1) (G := fun k ↦ k = b3) (fun k hk ↦ by subst hk; exact Blk.lt F3) (add_row F3) (by decide) (by decide) (by decide)) ?_; rintro v6 w6 ⟨hv6, hQ6, hM6⟩
  rw [known_twice] at hv6
  subst hv6
  have G33 := hM6.blk B3_3 (fun q => by
    rcases q.1 with k | k
    · exact k.2.2.1 rfl
    · have := k.1; omega)
  have G55 := hM6.blk B5_5 (fun q => by have := q.2; omega)
  have hXw6 : Ext w w6 := ext_mv (hXw5.trans hX) hM6 (fun b hb => by
    rcases hb.1 with k | k
    · exact k.1
    · have := k.1; have := hXw4.size; omega)
  clear hX B3_3 B5_5; have hX := hXw6; have B3_3 := G33; have B5_5 := G55; refine op rfl (r_assignV (v := .int .i64 12) rfl) ?_; refine WL_nil ?_; refine W_seq ?_; refine W_region ?_; refine op rfl (r_assignV (v := .pointer _) rfl) ?_; refine WL_nil ?_; refine W_seq ?_; refine W_region ?_; refine op rfl (r_moveV (v := .int .i64 0) rfl) ?_; refine op rfl (r_eql rfl rfl) ?_; refine op_true rfl (r_moveV (v := .bool (decide _)) rfl) (rfl) ?_; refine opG_yes rfl rfl rfl rfl rfl (r_moveV (v := .int .i64 0) rfl) ?_; refine opG_yes rfl rfl rfl rfl rfl (r_eql rfl rfl) ?_; refine op rfl (r_pickTV (v := .bool _) rfl rfl) ?_; refine op_true rfl (r_moveV (v := .bool (decide _)) rfl) (rfl) ?_; refine opG_yes rfl rfl rfl rfl rfl (r_moveV (v := .bool true) rfl) ?_; refine op rfl (r_pickTV (v := .bool _) rfl rfl) ?_; refine op_splitB rfl (r_moveV (v := .bool _) rfl) (fun hg39 => ?_) (fun hg39 => ?_)
  · refine opG_yes rfl rfl rfl rfl rfl (r_loadRow rfl B5_5 Tryd.underlying43 rfl Tryd.sz43) ?_; refine opG_yes rfl rfl rfl rfl rfl (r_build (cs := [.int .i64 5, .int .i64 1, .int .i64 1, .int .i64 0]) Tryd.lay43 (List.forall_mem_cons.2 ⟨rfl, List.forall_mem_cons.2 ⟨rfl, List.forall_mem_cons.2 ⟨rfl, fun _ h => absurd h List.not_mem_nil⟩⟩⟩) rfl rfl) ?_; refine opG_yes rfl rfl rfl rfl rfl (ri_eql Tryd.ints43 (xs := [5, 1, 1, 0]) (ys := [5, 1, 1, 0]) rfl rfl rfl rfl) ?_; refine op rfl (r_pickTV (v := .bool _) rfl rfl) ?_; refine op_true rfl (r_moveV (v := .bool (decide _)) rfl) (rfl) ?_; refine opG_yes rfl rfl rfl rfl rfl (r_moveV (v := .int .i64 12) rfl) ?_; refine opG_yes rfl rfl rfl rfl rfl (r_eql rfl rfl) ?_; refine op rfl (r_pickTV (v := .bool _) rfl rfl) ?_; refine op_true rfl (r_moveV (v := .bool (decide _)) rfl) (rfl) ?_; refine opG_yes rfl rfl rfl rfl rfl (r_moveV (v := .pointer _) rfl) ?_; refine opG_yes rfl rfl rfl rfl rfl (r_loadRow rfl B3_3 Tryd.underlying41 rfl Tryd.sz41) ?_; refine opGCv_yes rfl rfl rfl rfl rfl (r_call Tryd.func15 Tryd.nm15 rfl) (submitNil_spec _ _ _ _ _ _) ?_; rintro v8 w8 ⟨rfl, hE⟩; replace B3_3 := Blk.ext B3_3 hE; replace B5_5 := Blk.ext B5_5 hE; replace hX := hX.trans hE; refine opG_yes rfl rfl rfl rfl rfl (r_eql rfl rfl) ?_; refine op rfl (r_pickTV (v := .bool _) rfl rfl) ?_; refine op rfl (r_assignV (v := .bool _) rfl) ?_; refine WL_nil ?_; refine W_ret (finX_ret ?_); refine fin1 ?_; exact ⟨_, rfl, by first | rfl | exact bool_iff (by decide), hX⟩
  · cases hg39
end Go.Proofs.YtmedmajdoecjfaaDoor
