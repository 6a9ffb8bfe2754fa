/-
  The walks of package queue: what is read, a new one.
-/
import Derived.Test.YtmedmajdoecjfaaDoorFacts
import Derived.Test.YtmedmajdoecjfaaDoorQueM
import Derived.Test.YtmedmajdoecjfaaDoorGenB
namespace Go.Proofs.YtmedmajdoecjfaaDoor
open Go Go.Eng Go.RowKit Go.Proofs
set_option linter.unusedVariables false
set_option linter.unusedSimpArgs false
set_option maxHeartbeats 1000000
set_option maxRecDepth 20000

theorem mainNone_spec {pq pm ph mt : Nat} {v : Value} {F Zh : Nat → Prop} {w : World} {q : Qs} (h : QueAt pq pm ph mt v F Zh w q) :
    Calls Tryd.prog 45 #[hp pq] w (fun en w' => ∃ v, en = .returned v ∧ v = .bool (decide False) ∧ Ext w w') := by
  have hbq := h.bq; have hbm := h.bm; refine calls' (n := 15) (rs := #[.tmp 2]) (l := [hp pq]) Tryd.func45 rfl rfl rfl rfl rfl ?_; have hX := Ext.refl w; refine W_seq ?_; refine W_region ?_; refine op rfl (r_assignV (v := .bool _) rfl) ?_; refine WL_nil ?_; refine W_seq ?_; refine W_region ?_; refine op rfl (r_moveV (v := .pointer _) rfl) ?_; refine op rfl (rp_eql rfl rfl Tryd.underlying32) ?_; refine op_split rfl (r_moveV (v := .bool (decide _)) rfl) (fun hg5 => ?_) (fun hg5 => ?_)
  · refine opG_no rfl rfl rfl rfl rfl ?_; refine opG_no rfl rfl rfl rfl rfl ?_; refine opG_no rfl rfl rfl rfl rfl ?_; refine opG_no rfl rfl rfl rfl rfl ?_; refine opG_no rfl rfl rfl rfl rfl ?_; refine opG_no rfl rfl rfl rfl rfl ?_; refine opG_no rfl rfl rfl rfl rfl ?_; refine opG_no rfl rfl rfl rfl rfl ?_; refine op rfl (r_pickTV (v := .bool _) rfl rfl) ?_; refine op rfl (r_assignV (v := .bool _) rfl) ?_; refine WL_nil ?_; refine W_ret (finX_ret ?_); refine fin1 ?_
    first
      | exact hg5.elim
      | exact ⟨_, rfl, rfl, hX⟩
  · refine opG_yes rfl rfl rfl rfl rfl (r_moveV (v := .pointer _) rfl) ?_; refine opG_yes rfl rfl rfl rfl rfl (r_nilCheck rfl) ?_; refine opG_yes rfl rfl rfl rfl rfl (r_fieldAddr rfl Tryd.fld113_0 rfl) ?_; refine opG_yes rfl rfl rfl rfl rfl (r_load (v := hp pm) rfl Tryd.underlying106 rfl (Blk.cell (Blk.ext hbq hX) rfl)) ?_; refine opG_yes rfl rfl rfl rfl rfl (r_nilCheck rfl) ?_; refine opG_yes rfl rfl rfl rfl rfl (r_fieldAddr rfl Tryd.fld108_0 rfl) ?_; refine opG_yes rfl rfl rfl rfl rfl (r_load (v := hp ph) rfl Tryd.underlying28 rfl (Blk.cell (Blk.ext hbm hX) rfl)) ?_; refine opG_yes rfl rfl rfl rfl rfl (rp_eql rfl rfl Tryd.underlying28) ?_; refine op rfl (r_pickFV (v := .bool _) rfl rfl) ?_; refine op rfl (r_assignV (v := .bool _) rfl) ?_; refine WL_nil ?_; refine W_ret (finX_ret ?_); refine fin1 ?_
    first
      | exact hg5.elim
      | exact ⟨_, rfl, rfl, hX⟩
theorem que_new_spec {ph : Nat} {Zh : Nat → Prop} {w : World} {H : List Rv} (hH : Hist ph Zh w H) (room : Int) (hro : inK .i64 room) :
    Calls Tryd.prog 14 #[hp ph, .int .i64 room] w (fun en w' => ∃ v, en = .returned v ∧ ∃ pq, v = hp pq ∧ Que pq ph (fun b => Zh b ∨ since w w' b) w' ⟨H, [], max 1 (min room 100), fun _ => none⟩ ∧ Ext w w') := by
  refine calls' (n := 14) (rs := #[.tmp 4]) (l := [hp ph, .int .i64 room]) Tryd.func14 rfl rfl rfl rfl rfl ?_; have hX := Ext.refl w; refine W_seq ?_; refine W_region ?_; refine op rfl (r_assignV (v := .pointer _) rfl) ?_; refine WL_nil ?_; refine W_seq ?_; refine W_region ?_; refine op rfl (r_moveV (v := .pointer _) rfl) ?_; refine op rfl (r_build (cs := [.pointer _]) Tryd.lay108 (List.forall_mem_cons.2 ⟨rfl, fun _ h => by cases h⟩) rfl rfl) ?_; refine op_box (v := .agg _) rfl rfl ?_; intro w1_2 b1_2 E1_2 B1_2 L1_2
  have hG1_2 : w.heap.size ≤ b1_2 := by have := hX.size; omega
  replace hX := hX.trans E1_2; refine op rfl (r_moveV (v := .int _ _) rfl) ?_; refine op rfl (r_min2 rfl rfl) ?_; refine op rfl (r_max2 rfl rfl) ?_; refine op_makeMapK (.int .i64) rfl ?_; intro w7 mt E7 M7 L7; replace hX := hX.trans E7; refine op rfl (r_build (cs := [.pointer (some ⟨b1_2, 0, none⟩), .slice none 0 0, .int .i64 (max 1 (min room 100)), .map (some mt)]) Tryd.lay113 (List.forall_mem_cons.2 ⟨rfl, List.forall_mem_cons.2 ⟨rfl, List.forall_mem_cons.2 ⟨rfl, fun _ h => absurd h List.not_mem_nil⟩⟩⟩) rfl rfl) ?_; refine op_box rfl rfl ?_; intro w8 pq E8 B8 L8; have hX7 := hX; replace hX := hX.trans E8; refine op rfl (r_assignV (v := hp pq) rfl) ?_; refine WL_nil ?_; refine W_ret (finX_ret ?_); refine fin1 ?_; have B2 := Blk.ext (Blk.ext B1_2 E7) E8; have M8 := M7.ext E8; have hs2 := E1_2.size; have hs7 := E7.size; have hs8 := E8.size; have hb1 := Blk.lt B1_2; have hm7 := M7.lt; have hq8 := Blk.lt B8; have hH8 := hH.lt.ext hX
  have hro' : 1 ≤ max 1 (min room 100) ∧ max 1 (min room 100) ≤ 100 := by omega
  have hQ : QueAt pq b1_2 ph mt (.slice none 0 0) nobody (fun b => Zh b ∧ b < w.heap.size) w8 ⟨H, [], max 1 (min room 100), fun _ => none⟩ :=
    ⟨B8, B2, hH8, .nil, ⟨_, M8, fun k => ⟨fun _ => rfl, (fun q => by cases q), (fun a q => by cases q)⟩⟩, by omega, fun b q => q.elim, fun b hb => ⟨by have := hb.2; omega, by have := hb.2; omega, by have := hb.2; omega, by have := hb.2; omega, fun q => by cases q⟩, (fun b q => by cases q), hro', by show ((0 : Nat) : Int) ≤ max 1 (min room 100); omega, (fun r hr => by cases hr)⟩
  refine ⟨_, rfl, pq, rfl, ⟨b1_2, mt, _, _, _, hQ, ?_⟩, hX⟩; rintro b (q | q | q | q | q | q)
  · exact Or.inr ⟨by omega, by omega⟩
  · exact Or.inr ⟨by omega, by omega⟩
  · exact Or.inr ⟨by omega, by omega⟩
  · cases q
  · exact q.elim
  · exact Or.inl q.1
theorem cloneR_spec (A : Option Addr) (c : Nat) (l : List (List Value)) (w : World) (hl : l.length * 40 ≤ 140737488355328) {F : Nat → Prop} (hF : ∀ b, F b → b < w.heap.size) (hA : (rawT 3).Row w F A l) :
    Calls Tryd.prog 68 #[.slice A l.length c] w (fun en w' => ∃ v, en = .returned v ∧ Ext w w' ∧ Eng.Own (rawT 3) w' nobody w.heap.size 41 v l) := by
  refine calls' (n := 8) (rs := #[.tmp 2]) (l := [.slice A l.length c]) Tryd.func68 rfl rfl rfl rfl rfl ?_; refine W_seq ?_; refine W_region ?_; refine op rfl (r_assignV (v := .slice _ _ _) rfl) ?_; refine WL_nil ?_; refine W_seq ?_; refine W_seq ?_; refine W_region ?_; refine op rfl (r_moveV (v := .slice _ _ _) rfl) ?_; refine op rfl (rl_eql rfl rfl Tryd.underlying82) ?_; refine WL_nil ?_; refine W_ifp rfl (fun ht4 => ?_) (fun ht4 => ?_)
  · subst ht4
    obtain rfl : l = [] := by
      rcases hA with h | ⟨g, off, c, t, fr, h, _⟩
      · exact h
      · cases h
    refine W_seq ?_; refine W_region ?_; refine op rfl (r_assignV (v := .slice _ _ _) rfl) ?_; refine WL_nil ?_; refine W_ret (finX_ret ?_); refine fin1 ?_; exact ⟨_, rfl, Ext.refl _, Eng.Own.nil⟩
  · refine W_skip ?_; refine W_seq ?_; refine W_region ?_; refine op_newS rfl (r_buildNone Tryd.underlying82 Tryd.sz41) ?_; intro w3_0 b3_0 E3_0 B3_0 L3_0; have hO : Eng.Own (rawT 3) w3_0 nobody w.heap.size 41 (.slice (some ⟨b3_0, 0, none⟩) 0 0) [] := Eng.Own.none0 (Nat.le_of_eq L3_0) B3_0; refine op rfl (r_moveV (v := .slice _ _ _) rfl) ?_; refine op_app flat_raw rfl rfl rfl Tryd.underlying82 Tryd.sz41 Tryd.by41 Tryd.zero41 rfl (E3_0) (hO) (hA.keep (fun b hb => E3_0.block b (hF b hb)) (fun _ h => h)) (by simp only [List.length_nil]; omega) (by simp only [List.length_nil]; omega) ?_; intro v3_2 w3_2 O3_2 X3_2 G3_2; refine op rfl (r_assignV (v := v3_2) rfl) ?_; refine WL_nil ?_; refine W_ret (finX_ret ?_); refine fin1 ?_; exact ⟨_, rfl, X3_2, by rw [List.nil_append] at O3_2; exact O3_2⟩
theorem que_history_spec {pq ph : Nat} {Z : Nat → Prop} {w : World} {q : Qs} (hQ : Que pq ph Z w q) :
    Calls Tryd.prog 39 #[hp pq] w (fun en w' => ∃ v, en = .returned v ∧ v = hp ph ∧ Ext w w') := by
  obtain ⟨pm, mt, v, F, Zh, h, -⟩ := hQ; have hbq := h.bq; have hbm := h.bm; refine calls' (n := 12) (rs := #[.tmp 2]) (l := [hp pq]) Tryd.func39 rfl rfl rfl rfl rfl ?_; have hX := Ext.refl w; refine W_seq ?_; refine W_region ?_; refine op rfl (r_assignV (v := .pointer _) rfl) ?_; refine WL_nil ?_; refine W_seq ?_; refine W_seq ?_; refine W_region ?_; refine op rfl (r_moveV (v := .pointer _) rfl) ?_; refine op rfl (rp_eql rfl rfl Tryd.underlying32) ?_; refine WL_nil ?_; refine W_ifp rfl (fun ht4 => ?_) (fun ht4 => ?_)
  · exact ht4.elim
  · refine W_skip ?_; refine W_seq ?_; refine W_region ?_; refine op rfl (r_moveV (v := .pointer _) rfl) ?_; refine op rfl (r_nilCheck rfl) ?_; refine op rfl (r_fieldAddr rfl Tryd.fld113_0 rfl) ?_; refine op rfl (r_load (v := hp pm) rfl Tryd.underlying106 rfl (Blk.cell (Blk.ext hbq hX) rfl)) ?_; refine op rfl (r_nilCheck rfl) ?_; refine op rfl (r_fieldAddr rfl Tryd.fld108_0 rfl) ?_; refine op rfl (r_load (v := hp ph) rfl Tryd.underlying28 rfl (Blk.cell (Blk.ext hbm hX) rfl)) ?_; refine op rfl (r_assignV (v := .pointer _) rfl) ?_; refine WL_nil ?_; refine W_ret (finX_ret ?_); refine fin1 ?_; exact ⟨_, rfl, rfl, hX⟩
theorem rpo_eql {P : Program} {ρ : Operand → Value} {w : World} {d : Option Tmp} {t : TypeId} {pos : String} {af : Array Edge} {g : Option (Nat × Bool)} {x y : Operand} {xt yt el : TypeId} {o : Option Addr} (hx : ρ x = .pointer o) (hy : ρ y = .pointer none) (hu : P.underlying xt = some (.pointer el)) : (execOp ρ ⟨d, .binOp .eql xt x y yt, t, pos, af, g⟩).run P w = .ok (.value (.bool (decide (o = none)))) w := by
  cases o with
  | none => simpa using rpn_eql (d := d) (t := t) (pos := pos) (af := af) (g := g) (yt := yt) hx hy hu
  | some a => simpa using rp_eql (d := d) (t := t) (pos := pos) (af := af) (g := g) (yt := yt) hx hy hu
def askR (q : Qs) (k : Int) : Option An := (q.tk k).getD none
def askA (q : Qs) (k : Int) : An := (askR q k).getD ⟨0, 0, 0, 0⟩
theorem que_ask_spec {pq ph : Nat} {Z : Nat → Prop} {w : World} {q : Qs} (hQ : Que pq ph Z w q) (k : Int) (hk : inK .i64 k) :
    Calls Tryd.prog 32 #[hp pq, .int .i64 k] w (fun en w' => ∃ v, en = .returned v ∧ v = .tuple #[.agg (askA q k).vals.toArray, .bool (decide ((askR q k).isSome = true))] ∧ Ext w w') := by
  obtain ⟨pm, mt, v, F, Zh, h, -⟩ := hQ; have hbq := h.bq; obtain ⟨f, hm, hf⟩ := h.map; obtain ⟨hf1, hf2, hf3⟩ := hf k
  obtain ⟨o, hpv, hcase⟩ : ∃ o, (f (.int .i64 k)).getD (.pointer none) = .pointer o ∧ ((askR q k = none ∧ o = none) ∨ ∃ a b, askR q k = some a ∧ o = some ⟨b, 0, none⟩ ∧ Blk w b a.vals.toArray 43) := by
    cases htk : q.tk k with
    | none => exact ⟨none, by rw [hf1 htk]; rfl, Or.inl ⟨by unfold askR; rw [htk]; rfl, rfl⟩⟩
    | some x => cases x with
      | none => exact ⟨none, by rw [hf2 htk]; rfl, Or.inl ⟨by unfold askR; rw [htk]; rfl, rfl⟩⟩
      | some a =>
        obtain ⟨b, h1, h2, h3⟩ := hf3 a htk; exact ⟨some ⟨b, 0, none⟩, by rw [h1]; rfl, Or.inr ⟨a, b, by unfold askR; rw [htk]; rfl, rfl, h3⟩⟩
  refine calls' (n := 26) (rs := #[.cell 4 43, .tmp 5]) (l := [hp pq, .int .i64 k]) Tryd.func32 rfl rfl rfl rfl rfl ?_; have hX := Ext.refl w; refine W_seq ?_; refine W_region ?_; refine op_alloc rfl Tryd.zero43 ?_; intro w0_0 b0_0 E0_0 B0_0 L0_0
  have hG0_0 : w.heap.size ≤ b0_0 := by have := hX.size; omega
  replace hX := hX.trans E0_0; refine op rfl (r_assignV (v := .bool _) rfl) ?_; refine WL_nil ?_; refine W_seq ?_; refine W_seq ?_; refine W_region ?_; refine op rfl (r_moveV (v := .pointer _) rfl) ?_; refine opCv rfl (r_call Tryd.func45 Tryd.nm45 rfl) (mainNone_spec (h.keep hX.size (fun b hb ↦ hX.block b (h.lt b hb)))) ?_; rintro v1 w1 ⟨rfl, hE⟩; replace B0_0 := Blk.ext B0_0 hE; replace hX := hX.trans hE; refine op_false rfl (r_moveV (v := .bool (decide _)) rfl) (fun h => h) ?_; refine opG_yes rfl rfl rfl rfl rfl (r_moveV (v := .pointer _) rfl) ?_; refine opG_yes rfl rfl rfl rfl rfl (r_nilCheck rfl) ?_; refine opG_yes rfl rfl rfl rfl rfl (r_fieldAddr rfl Tryd.fld113_3 rfl) ?_; refine opG_yes rfl rfl rfl rfl rfl (r_load (v := .map (some mt)) rfl Tryd.underlying109 rfl (Blk.cell (Blk.ext hbq hX) rfl)) ?_; refine opG_yes rfl rfl rfl rfl rfl (r_moveV (v := .int _ _) rfl) ?_; refine opG_yes rfl rfl rfl rfl rfl (rk_lookupV rfl rfl Tryd.underlying109 Tryd.underlying3 (by trivial) Tryd.zero114 (hm.ext hX) hpv) ?_; refine opG_yes rfl rfl rfl rfl rfl (rpo_eql rfl rfl Tryd.underlying114) ?_; refine op rfl (r_pickFV (v := .bool _) rfl rfl) ?_; refine WL_nil ?_; refine W_ifp rfl (fun ht16 => ?_) (fun ht16 => ?_)
  · refine W_seq ?_; refine W_region ?_; refine op rfl (r_build (cs := [.int _ _, .int _ _, .int _ _, .int _ _]) Tryd.lay43 (fun _ h => by cases h) rfl rfl) ?_; refine op_storeRow rfl rfl Tryd.sz43 B0_0 rfl rfl ?_; intro w2_1 C2_1 BB2_1; replace hX := hX.chg C2_1 hG0_0; replace B0_0 := BB2_1; refine op rfl (r_assignV (v := .bool _) rfl) ?_; refine WL_nil ?_; refine W_ret (finX_ret ?_); refine fin_cell1 rfl B0_0 Tryd.underlying43 rfl Tryd.sz43 ?_
    first
      | (have hn : askR q k = none := by
           rcases hcase with h1 | ⟨a, b, h1, h2, _⟩
           · exact h1.1
           · rw [h2] at ht16; cases ht16
         unfold askA; rw [hn]; exact ⟨_, rfl, rfl, hX⟩)
      | (unfold askA; rw [hask]; exact ⟨_, rfl, rfl, hX⟩)
  · obtain ⟨a, b, hask, rfl, hab⟩ := hcase.resolve_left (fun q => ht16 q.2); refine W_skip ?_; refine W_seq ?_; refine W_region ?_; refine op rfl (r_moveV (v := .pointer _) rfl) ?_; refine op rfl (r_nilCheck rfl) ?_; refine op rfl (r_fieldAddr rfl Tryd.fld113_3 rfl) ?_; refine op rfl (r_load (v := .map (some mt)) rfl Tryd.underlying109 rfl (Blk.cell (Blk.ext hbq hX) rfl)) ?_; refine op rfl (r_moveV (v := .int _ _) rfl) ?_; refine op rfl (rk_lookupV rfl rfl Tryd.underlying109 Tryd.underlying3 (by trivial) Tryd.zero114 (hm.ext hX) hpv) ?_; refine op rfl (r_nilCheck (a := ⟨b, 0, none⟩) rfl) ?_; refine op rfl (r_loadRow (c := a.vals.toArray) (by rfl) (Blk.ext hab hX) Tryd.underlying43 rfl Tryd.sz43) ?_; refine op_storeRow rfl rfl Tryd.sz43 B0_0 rfl rfl ?_; intro w3_8 C3_8 BB3_8; replace hX := hX.chg C3_8 hG0_0; replace B0_0 := BB3_8; refine op rfl (r_assignV (v := .bool _) rfl) ?_; refine WL_nil ?_; refine W_ret (finX_ret ?_); refine fin_cell1 rfl B0_0 Tryd.underlying43 rfl Tryd.sz43 ?_
    first
      | (have hn : askR q k = none := by
           rcases hcase with h1 | ⟨a, b, h1, h2, _⟩
           · exact h1.1
           · rw [h2] at ht16; cases ht16
         unfold askA; rw [hn]; exact ⟨_, rfl, rfl, hX⟩)
      | (unfold askA; rw [hask]; exact ⟨_, rfl, rfl, hX⟩)
theorem que_waits_spec {pq ph : Nat} {Z : Nat → Prop} {w : World} {q : Qs} (hQ : Que pq ph Z w q) :
    Calls Tryd.prog 19 #[hp pq] w (fun en w' => ∃ v, en = .returned v ∧ Eng.Own (Ty.int .i64) w' nobody w.heap.size 3 v ((q.ws.map Rq.id).filter (fun k => !decide (k < 1))) ∧ Ext w w') := by
  obtain ⟨pm, mt, vw, F, Zh, h, -⟩ := hQ; have hbq := h.bq; obtain ⟨Aw, cw, rfl, hcw, hrow⟩ := h.own.read
  have hat : ∀ i (hi : i < q.ws.length), ∃ g off A c, Aw = some ⟨g, off, none⟩ ∧ inK .i64 q.ws[i].id ∧ ∀ j, j < 3 → w.cell? ⟨g, off + i * 3 + j, none⟩ = [Value.int .i64 q.ws[i].id, .int .i64 q.ws[i].base, .slice A q.ws[i].l.length c][j]? := fun i hi => by
    obtain ⟨g, off, xs, hA, _, hx, hc⟩ := hrow.cells hi; obtain ⟨A, c, rfl, h1, _⟩ := rq_cells hx; exact ⟨g, off, A, c, hA, h1, hc⟩
  refine calls' (n := 28) (rs := #[.tmp 2]) (l := [hp pq]) Tryd.func19 rfl rfl rfl rfl rfl ?_; have hX := Ext.refl w; refine W_seq ?_; refine W_region ?_; refine op rfl (r_assignV (v := .slice _ _ _) rfl) ?_; refine WL_nil ?_; refine W_scope ?_; refine W_seq ?_; refine W_seq ?_; refine W_region ?_; refine op rfl (r_moveV (v := .pointer _) rfl) ?_; refine opCv rfl (r_call Tryd.func45 Tryd.nm45 rfl) (mainNone_spec (h.keep hX.size (fun b hb ↦ hX.block b (h.lt b hb)))) ?_; rintro v1 w1 ⟨rfl, hE⟩; replace hX := hX.trans hE; refine WL_nil ?_; refine W_ifp rfl (fun ht7 => ?_) (fun ht7 => ?_)
  · exact ht7.elim
  · refine W_skip ?_; refine W_seq ?_; refine W_region ?_; refine op rfl (r_assignV (v := .slice _ _ _) rfl) ?_; refine WL_nil ?_; refine W_seq ?_; refine W_label ?_; refine W_seq ?_; refine W_seq ?_; refine W_region ?_; refine op rfl (r_moveV (v := .pointer _) rfl) ?_; refine op rfl (r_nilCheck rfl) ?_; refine op rfl (r_fieldAddr rfl Tryd.fld113_1 rfl) ?_; refine op rfl (r_fieldAddr rfl Tryd.fld111_0 rfl) ?_; refine op rfl (r_load (v := .slice Aw q.ws.length cw) rfl Tryd.underlying82 rfl (Blk.cell (Blk.ext hbq hX) rfl)) ?_; refine op rfl (r_len_slice rfl Tryd.underlying82) ?_; refine op rfl (r_moveV (v := .int _ _) rfl) ?_; refine WL_nil ?_; refine W_block ?_; refine W_loop [3, 5, 14, 15, 16, 17, 18, 19, 20, 21, 22, 23, 24, 25, 26] (fun qq e' w' => ∃ (i : Nat) (v : Value), qq = q.ws.length - i ∧ i ≤ q.ws.length ∧ e' 14 = .int .i64 i ∧ e' 3 = v ∧ Eng.Own (Ty.int .i64) w' nobody w.heap.size 3 v (((q.ws.take i).map Rq.id).filter (fun k => !decide (k < 1))) ∧ Ext w w') (q.ws.length) ?_ ?_
    · exact ⟨0, _, by omega, by omega, rfl, rfl, .nil, hX⟩
    intro k g w' hI; obtain ⟨i, v, hq, hi, h14, h3, hO, hX'⟩ := hI; clear hX; have hX := hX'; refine W_set (i := 14) h14 ?_; refine W_set (i := 3) h3 ?_; refine W_seq ?_; refine W_region ?_; refine op rfl (r_lss rfl rfl) ?_; refine WL_nil ?_; refine W_seq ?_; refine W_ifp rfl (fun ht15 => ?_) (fun ht15 => ?_)
    · have hlt : i < q.ws.length := by omega
      have hl100 : q.ws.length ≤ 100 := by have := h.wl; have := h.ro.2; omega
      obtain ⟨g1, o1, Ai, ci, hA1, hik, hc1⟩ := hat i hlt; have hfl := List.length_filter_le (fun k => !decide (k < 1)) ((q.ws.take i).map Rq.id)
      rw [List.length_map, List.length_take] at hfl
      obtain ⟨w0i, hw0i⟩ : ∃ x, x = w' := ⟨_, rfl⟩; refine W_skip ?_; refine W_seq ?_; refine W_block ?_; refine W_seq ?_; refine W_region ?_; refine op rfl (r_indexAddrK (by rw [← hA1]; rfl) rfl Tryd.underlying82 Tryd.sz41 hlt) ?_; refine op rfl (r_load_agg (cs := [.int .i64 q.ws[i].id, .int .i64 q.ws[i].base, .slice Ai q.ws[i].l.length ci]) rfl Tryd.underlying41 rfl Tryd.sz41 rfl (ext_row hX rfl hc1)) ?_; refine op_alloc rfl Tryd.zero41 ?_; intro w6_2 b6_2 E6_2 B6_2 L6_2
      have hG6_2 : w.heap.size ≤ b6_2 := by have := hX.size; omega
      replace hX := hX.trans E6_2; refine op_storeRow rfl rfl Tryd.sz41 B6_2 rfl rfl ?_; intro w6_3 C6_3 BB6_3; replace hX := hX.chg C6_3 hG6_2; replace B6_2 := BB6_3; refine WL_nil ?_; refine W_seq ?_; refine W_seq ?_; refine W_region ?_; refine op rfl (r_fieldAddr rfl Tryd.fld41_0 rfl) ?_; refine op rfl (r_load (v := .int .i64 q.ws[i].id) rfl Tryd.underlying3 rfl (Blk.cell B6_2 rfl)) ?_; refine op rfl (r_lss rfl rfl) ?_; refine WL_nil ?_; refine W_ifp rfl (fun ht20 => ?_) (fun ht20 => ?_)
      · refine W_exit (blk_hit ?_); refine W_region ?_; refine op rfl (r_add' rfl rfl (wrap_i64 (by omega) (by omega))) ?_; refine op rfl (r_moveV (v := .int _ _) rfl) ?_; refine WL_nil ?_; refine ⟨?_, by repeat (first | with_reducible exact Out.refl _ _ | with_reducible exact Out.mix | refine Out.put rfl ?_ | refine Out.mixin rfl ?_ | exact Out.refl _ _ | exact Out.mix)⟩
        have htk : ((q.ws.take (i + 1)).map Rq.id).filter (fun k => !decide (k < 1)) = ((q.ws.take i).map Rq.id).filter (fun k => !decide (k < 1)) ++ [q.ws[i].id].filter (fun k => !decide (k < 1)) := by
          rw [List.take_succ_eq_append_getElem hlt, List.map_append, List.filter_append]; rfl
        have hf1 : q.ws[i].id < 1 → [q.ws[i].id].filter (fun k => !decide (k < 1)) = [] := fun q => by simp [q]
        have hf2 : ¬ q.ws[i].id < 1 → [q.ws[i].id].filter (fun k => !decide (k < 1)) = [q.ws[i].id] := fun q => by simp [q]
        first
          | exact ⟨q.ws.length - (i + 1), by omega, i + 1, _, by omega, by omega, rfl, rfl, by rw [htk, hf2 ht20]; exact O8_4, hX⟩
          | exact ⟨q.ws.length - (i + 1), by omega, i + 1, _, by omega, by omega, rfl, rfl, by rw [htk, hf1 ht20, List.append_nil]; exact own_fext hO (Chg.ext E6_2 (Nat.le_of_eq L6_2) C6_3), hX⟩
      · refine W_skip ?_; refine W_region ?_; refine op rfl (r_moveV (v := v) rfl) ?_; refine op rfl (r_fieldAddr rfl Tryd.fld41_0 rfl) ?_; refine op rfl (r_load (v := .int .i64 q.ws[i].id) rfl Tryd.underlying3 rfl (Blk.cell B6_2 rfl)) ?_; refine op_newS rfl (r_buildSlice (vs := [.int .i64 q.ws[i].id]) Tryd.underlying49 Tryd.sz3 Tryd.zero3 rfl rfl rfl) ?_; intro w8 b8 E8 B8 L8; replace hX := hX.trans E8; have hO8 := own_fext hO ((Chg.ext E6_2 (Nat.le_of_eq L6_2) C6_3).trans E8); refine op_app (v := v) flat_int rfl rfl rfl Tryd.underlying49 Tryd.sz3 Tryd.by3 Tryd.zero3 rfl (hX) (hO8) ((row_one B8 hik : (Ty.int .i64).Row w8 (old w8) (some ⟨b8, 0, none⟩) [q.ws[i].id])) (by simp only [List.length_singleton]; omega) (by simp only [List.length_singleton]; omega) ?_; intro v8_4 w8_4 O8_4 X8_4 G8_4; replace hX := X8_4; refine op rfl (r_assignV (v := v8_4) rfl) ?_; refine WL_nil ?_; refine W_region ?_; refine op rfl (r_add' rfl rfl (wrap_i64 (by omega) (by omega))) ?_; refine op rfl (r_moveV (v := .int _ _) rfl) ?_; refine WL_nil ?_; refine ⟨?_, by repeat (first | with_reducible exact Out.refl _ _ | with_reducible exact Out.mix | refine Out.put rfl ?_ | refine Out.mixin rfl ?_ | exact Out.refl _ _ | exact Out.mix)⟩
        have htk : ((q.ws.take (i + 1)).map Rq.id).filter (fun k => !decide (k < 1)) = ((q.ws.take i).map Rq.id).filter (fun k => !decide (k < 1)) ++ [q.ws[i].id].filter (fun k => !decide (k < 1)) := by
          rw [List.take_succ_eq_append_getElem hlt, List.map_append, List.filter_append]; rfl
        have hf1 : q.ws[i].id < 1 → [q.ws[i].id].filter (fun k => !decide (k < 1)) = [] := fun q => by simp [q]
        have hf2 : ¬ q.ws[i].id < 1 → [q.ws[i].id].filter (fun k => !decide (k < 1)) = [q.ws[i].id] := fun q => by simp [q]
        first
          | exact ⟨q.ws.length - (i + 1), by omega, i + 1, _, by omega, by omega, rfl, rfl, by rw [htk, hf2 ht20]; exact O8_4, hX⟩
          | exact ⟨q.ws.length - (i + 1), by omega, i + 1, _, by omega, by omega, rfl, rfl, by rw [htk, hf1 ht20, List.append_nil]; exact own_fext hO (Chg.ext E6_2 (Nat.le_of_eq L6_2) C6_3), hX⟩
    · refine W_exit (blk_hit ?_); refine W_seq ?_; refine W_region ?_; refine op rfl (r_moveV (v := v) rfl) ?_; refine op rfl (r_assignV (v := v) rfl) ?_; refine WL_nil ?_; refine W_ret (scp_ret (finX_ret ?_)); refine fin1 ?_
      first
        | exact ht7.elim
        | (have hil : i = q.ws.length := by omega
           rw [hil, List.take_length] at hO
           exact ⟨_, rfl, hO, hX⟩)
end Go.Proofs.YtmedmajdoecjfaaDoor
