/-
  The walks of package queue: Submit.
-/
import Derived.Test.YtmedmajdoecjfaaDoorFacts
import Derived.Test.YtmedmajdoecjfaaDoorQueW
import Derived.Test.YtmedmajdoecjfaaDoorGenB
namespace Go.Proofs.YtmedmajdoecjfaaDoor
open Go Go.Eng Go.RowKit Go.Proofs
set_option linter.unusedVariables false
set_option linter.unusedSimpArgs false
set_option maxHeartbeats 1000000
set_option maxRecDepth 20000

theorem put_req_spec {pq : Nat} {v x0 x2 x3 : Value} {F : Nat → Prop} {w : World} {ws : List Rq} {r : Rq} {A : Option Addr} {c : Nat} (hbq : Blk w pq #[x0, v, x2, x3] 113) (hO : Eng.Own rqT w F 0 41 v ws) (hF : ∀ b, F b → b < w.heap.size ∧ v.ownBlock ≠ some b) (hFq : ∀ b, F b → b ≠ pq) (hvq : v.ownBlock ≠ some pq) (hR : rqT.R w F r [.int .i64 r.id, .int .i64 r.base, .slice A r.l.length c]) (hl : ws.length ≤ 100) :
    Calls Tryd.prog 48 #[.pointer (some ⟨pq, 1, none⟩), .agg #[.int .i64 r.id, .int .i64 r.base, .slice A r.l.length c]] w (fun en w' => ∃ u, en = .returned u ∧ ∃ v', Blk w' pq #[x0, v', x2, x3] 113 ∧ Eng.Own rqT w' F 0 41 v' (ws ++ [r]) ∧ Mv (fun b => b = pq ∨ v.ownBlock = some b) w w' ∧ (v'.ownBlock = v.ownBlock ∨ ∃ g, v'.ownBlock = some g ∧ w.heap.size ≤ g)) := by
  obtain ⟨Aw, cw, rfl, hcw, -⟩ := hO.read; have hpql := Blk.lt hbq; refine calls' (n := 14) (rs := #[]) (l := [.pointer (some ⟨pq, 1, none⟩), .agg #[.int .i64 r.id, .int .i64 r.base, .slice A r.l.length c]]) Tryd.func48 rfl rfl rfl rfl rfl ?_; have hX := Ext.refl w; refine W_seq ?_; refine W_region ?_; refine op_box (v := .agg _) rfl rfl ?_; intro w0_0 b0_0 E0_0 B0_0 L0_0
  have hG0_0 : w.heap.size ≤ b0_0 := by have := hX.size; omega
  replace hX := hX.trans E0_0; refine WL_nil ?_; refine W_drawA Tryd.wd rfl ?_; intro wd1 hD; have hS : anyW wd1 := trivial; replace B0_0 := Blk.ext B0_0 hD; replace hX := hX.trans hD; refine A_take (i := 0) rfl (by kernel_rfl) (by kernel_rfl) (by kernel_rfl) rfl hS (fun _ hw => r_moveV (v := .pointer _) rfl) ?_; refine A_take (i := 1) rfl (by kernel_rfl) (by kernel_rfl) (by kernel_rfl) rfl hS (fun _ hw => r_moveV (v := .pointer _) rfl) ?_; refine A_take (i := 2) rfl (by kernel_rfl) (by kernel_rfl) (by kernel_rfl) rfl hS (fun _ hw => r_nilCheck rfl) ?_; refine A_take (i := 3) rfl (by kernel_rfl) (by kernel_rfl) (by kernel_rfl) rfl hS (fun _ hw => r_fieldAddr rfl Tryd.fld111_0 rfl) ?_; refine A_ready2 (i := 4) (j := 5) (by kernel_rfl) ?_ ?_
  · refine O_val rfl rfl (r_load (v := .slice Aw ws.length cw) rfl Tryd.underlying82 rfl (Blk.cell (by first | exact Blk.ext hbq hX | exact Blk.ext hbq (hX.trans E6)) rfl)) (hS) ?_; refine A_ready1 (i := 5) (by kernel_rfl) ?_; refine O_val rfl rfl (r_loadRow (c := #[.int .i64 r.id, .int .i64 r.base, .slice A r.l.length c]) (by rfl) B0_0 Tryd.underlying41 rfl Tryd.sz41) (hS) ?_; refine A_ready1 (i := 6) (by kernel_rfl) ?_; refine O_newS rfl rfl (r_buildRows (vs := [[.int .i64 r.id, .int .i64 r.base, .slice A r.l.length c]]) Tryd.underlying82 Tryd.sz41 Tryd.zero41 rfl rfl rfl) ?_; intro w6 b6 E6 B6 L6; refine ⟨trivial, ?_⟩; refine A_ready1 (i := 7) (by kernel_rfl) ?_; have hX6 := hX.trans E6; have hs6 := hX6.size; refine O_append (T := rqT) (F := F) (l := ws) (m := [r]) rfl rfl rfl rfl Tryd.underlying82 Tryd.sz41 Tryd.by41 Tryd.zero41 rfl (hO.ext hX6 (fun b hb => (hF b hb).1)) (Src.blk B6 (rqT.keep hR (fun b hb => hX6.block b (hF b hb).1) (fun _ h => h))) (fun b hb => ⟨by have := (hF b hb).1; omega, (hF b hb).2⟩) (by simp only [List.length_singleton]; omega) (by simp only [List.length_singleton]; omega) (Nat.zero_le _) ?_; intro v7 w7 hO7 hG7 hv7; refine ⟨trivial, ?_⟩; obtain ⟨A7, c7, rfl, hc7, -⟩ := hO7.read; refine A_take (i := 8) rfl (by kernel_rfl) (by kernel_rfl) (by kernel_rfl) rfl hS (fun _ hw => r_nilCheck rfl) ?_; refine A_take (i := 9) rfl (by kernel_rfl) (by kernel_rfl) (by kernel_rfl) rfl hS (fun _ hw => r_fieldAddr rfl Tryd.fld111_0 rfl) ?_; refine A_ready1 (i := 10) (by kernel_rfl) ?_; have hbq6 : Blk _ pq _ _ := Blk.ext hbq hX6
    have hbq7 : Blk w7 pq #[x0, .slice Aw ws.length cw, x2, x3] 113 := hbq6.at (hG7.block pq (by omega) hvq)
    refine O_store (v := .slice A7 (ws ++ [r]).length c7) rfl rfl rfl rfl Tryd.sz82 hbq7 (Nat.le_of_ble_eq_true rfl) ?_; intro w8 C8 B8; refine ⟨trivial, ?_⟩; refine A_done (by kernel_rfl) ?_; refine fin0 ?_; have hs7 := hG7.size
    have hown7 : ∀ g, (Value.slice A7 (ws ++ [r]).length c7).ownBlock = some g → g ≠ pq := fun g hg q => by
      subst q
      rcases hv7 with k | ⟨g', k, hg'⟩
      · exact hvq (k ▸ hg)
      · rw [k] at hg; simp only [Option.some.injEq] at hg; omega
    refine ⟨_, rfl, .slice A7 (ws ++ [r]).length c7, B8, hO7.keep (fun b hb => C8.block b (by have := (hF b hb).1; omega) (hFq b hb)) (fun _ h => h) (fun g hg => C8.block g (hO7.lt hg).2 (hown7 g hg)), ((Mv.of_ext hX6).trans ⟨hG7.os, hG7.tape, hG7.output, hG7.size, fun k hk hn => hG7.block k hk (fun q => hn (Or.inr q))⟩).trans (Mv.of_chg C8 (Or.inl rfl)), ?_⟩
    rcases hv7 with k | ⟨g, k, hg⟩
    · exact Or.inl k
    · exact Or.inr ⟨g, k, by omega⟩
  · refine O_val rfl rfl (r_loadRow (c := #[.int .i64 r.id, .int .i64 r.base, .slice A r.l.length c]) (by rfl) B0_0 Tryd.underlying41 rfl Tryd.sz41) (hS) ?_; refine A_ready2 (i := 4) (j := 6) (by kernel_rfl) ?_ ?_
    · refine O_val rfl rfl (r_load (v := .slice Aw ws.length cw) rfl Tryd.underlying82 rfl (Blk.cell (by first | exact Blk.ext hbq hX | exact Blk.ext hbq (hX.trans E6)) rfl)) (hS) ?_; refine A_ready1 (i := 6) (by kernel_rfl) ?_; refine O_newS rfl rfl (r_buildRows (vs := [[.int .i64 r.id, .int .i64 r.base, .slice A r.l.length c]]) Tryd.underlying82 Tryd.sz41 Tryd.zero41 rfl rfl rfl) ?_; intro w6 b6 E6 B6 L6; refine ⟨trivial, ?_⟩; refine A_ready1 (i := 7) (by kernel_rfl) ?_; have hX6 := hX.trans E6; have hs6 := hX6.size; refine O_append (T := rqT) (F := F) (l := ws) (m := [r]) rfl rfl rfl rfl Tryd.underlying82 Tryd.sz41 Tryd.by41 Tryd.zero41 rfl (hO.ext hX6 (fun b hb => (hF b hb).1)) (Src.blk B6 (rqT.keep hR (fun b hb => hX6.block b (hF b hb).1) (fun _ h => h))) (fun b hb => ⟨by have := (hF b hb).1; omega, (hF b hb).2⟩) (by simp only [List.length_singleton]; omega) (by simp only [List.length_singleton]; omega) (Nat.zero_le _) ?_; intro v7 w7 hO7 hG7 hv7; refine ⟨trivial, ?_⟩; obtain ⟨A7, c7, rfl, hc7, -⟩ := hO7.read; refine A_take (i := 8) rfl (by kernel_rfl) (by kernel_rfl) (by kernel_rfl) rfl hS (fun _ hw => r_nilCheck rfl) ?_; refine A_take (i := 9) rfl (by kernel_rfl) (by kernel_rfl) (by kernel_rfl) rfl hS (fun _ hw => r_fieldAddr rfl Tryd.fld111_0 rfl) ?_; refine A_ready1 (i := 10) (by kernel_rfl) ?_; have hbq6 : Blk _ pq _ _ := Blk.ext hbq hX6
      have hbq7 : Blk w7 pq #[x0, .slice Aw ws.length cw, x2, x3] 113 := hbq6.at (hG7.block pq (by omega) hvq)
      refine O_store (v := .slice A7 (ws ++ [r]).length c7) rfl rfl rfl rfl Tryd.sz82 hbq7 (Nat.le_of_ble_eq_true rfl) ?_; intro w8 C8 B8; refine ⟨trivial, ?_⟩; refine A_done (by kernel_rfl) ?_; refine fin0 ?_; have hs7 := hG7.size
      have hown7 : ∀ g, (Value.slice A7 (ws ++ [r]).length c7).ownBlock = some g → g ≠ pq := fun g hg q => by
        subst q
        rcases hv7 with k | ⟨g', k, hg'⟩
        · exact hvq (k ▸ hg)
        · rw [k] at hg; simp only [Option.some.injEq] at hg; omega
      refine ⟨_, rfl, .slice A7 (ws ++ [r]).length c7, B8, hO7.keep (fun b hb => C8.block b (by have := (hF b hb).1; omega) (hFq b hb)) (fun _ h => h) (fun g hg => C8.block g (hO7.lt hg).2 (hown7 g hg)), ((Mv.of_ext hX6).trans ⟨hG7.os, hG7.tape, hG7.output, hG7.size, fun k hk hn => hG7.block k hk (fun q => hn (Or.inr q))⟩).trans (Mv.of_chg C8 (Or.inl rfl)), ?_⟩
      rcases hv7 with k | ⟨g, k, hg⟩
      · exact Or.inl k
      · exact Or.inr ⟨g, k, by omega⟩
    · refine O_newS rfl rfl (r_buildRows (vs := [[.int .i64 r.id, .int .i64 r.base, .slice A r.l.length c]]) Tryd.underlying82 Tryd.sz41 Tryd.zero41 rfl rfl rfl) ?_; intro w6 b6 E6 B6 L6; refine ⟨trivial, ?_⟩; refine A_ready1 (i := 4) (by kernel_rfl) ?_; refine O_val rfl rfl (r_load (v := .slice Aw ws.length cw) rfl Tryd.underlying82 rfl (Blk.cell (by first | exact Blk.ext hbq hX | exact Blk.ext hbq (hX.trans E6)) rfl)) (hS) ?_; refine A_ready1 (i := 7) (by kernel_rfl) ?_; have hX6 := hX.trans E6; have hs6 := hX6.size; refine O_append (T := rqT) (F := F) (l := ws) (m := [r]) rfl rfl rfl rfl Tryd.underlying82 Tryd.sz41 Tryd.by41 Tryd.zero41 rfl (hO.ext hX6 (fun b hb => (hF b hb).1)) (Src.blk B6 (rqT.keep hR (fun b hb => hX6.block b (hF b hb).1) (fun _ h => h))) (fun b hb => ⟨by have := (hF b hb).1; omega, (hF b hb).2⟩) (by simp only [List.length_singleton]; omega) (by simp only [List.length_singleton]; omega) (Nat.zero_le _) ?_; intro v7 w7 hO7 hG7 hv7; refine ⟨trivial, ?_⟩; obtain ⟨A7, c7, rfl, hc7, -⟩ := hO7.read; refine A_take (i := 8) rfl (by kernel_rfl) (by kernel_rfl) (by kernel_rfl) rfl hS (fun _ hw => r_nilCheck rfl) ?_; refine A_take (i := 9) rfl (by kernel_rfl) (by kernel_rfl) (by kernel_rfl) rfl hS (fun _ hw => r_fieldAddr rfl Tryd.fld111_0 rfl) ?_; refine A_ready1 (i := 10) (by kernel_rfl) ?_; have hbq6 : Blk _ pq _ _ := Blk.ext hbq hX6
      have hbq7 : Blk w7 pq #[x0, .slice Aw ws.length cw, x2, x3] 113 := hbq6.at (hG7.block pq (by omega) hvq)
      refine O_store (v := .slice A7 (ws ++ [r]).length c7) rfl rfl rfl rfl Tryd.sz82 hbq7 (Nat.le_of_ble_eq_true rfl) ?_; intro w8 C8 B8; refine ⟨trivial, ?_⟩; refine A_done (by kernel_rfl) ?_; refine fin0 ?_; have hs7 := hG7.size
      have hown7 : ∀ g, (Value.slice A7 (ws ++ [r]).length c7).ownBlock = some g → g ≠ pq := fun g hg q => by
        subst q
        rcases hv7 with k | ⟨g', k, hg'⟩
        · exact hvq (k ▸ hg)
        · rw [k] at hg; simp only [Option.some.injEq] at hg; omega
      refine ⟨_, rfl, .slice A7 (ws ++ [r]).length c7, B8, hO7.keep (fun b hb => C8.block b (by have := (hF b hb).1; omega) (hFq b hb)) (fun _ h => h) (fun g hg => C8.block g (hO7.lt hg).2 (hown7 g hg)), ((Mv.of_ext hX6).trans ⟨hG7.os, hG7.tape, hG7.output, hG7.size, fun k hk hn => hG7.block k hk (fun q => hn (Or.inr q))⟩).trans (Mv.of_chg C8 (Or.inl rfl)), ?_⟩
      rcases hv7 with k | ⟨g, k, hg⟩
      · exact Or.inl k
      · exact Or.inr ⟨g, k, by omega⟩
theorem sub2 {q : Qs} {r : Rq} (h : r.id < 1 ∨ r.l.length = 0) : submitR q r = (q, 2) := by unfold submitR; rw [if_pos h]
theorem sub7 {q : Qs} {r : Rq} (h : ¬ (r.id < 1 ∨ r.l.length = 0)) (h1 : r.base < 0 ∨ r.base > (q.H.length : Int) - 1) : submitR q r = (q, 7) := by unfold submitR; rw [if_neg h, if_pos h1]
theorem sub12 {q : Qs} {r : Rq} (h : ¬ (r.id < 1 ∨ r.l.length = 0)) (h1 : ¬ (r.base < 0 ∨ r.base > (q.H.length : Int) - 1)) (h2 : (q.tk r.id).isSome = true) : submitR q r = (q, 12) := by unfold submitR; rw [if_neg h, if_neg h1, if_pos h2]
theorem sub8 {q : Qs} {r : Rq} (h : ¬ (r.id < 1 ∨ r.l.length = 0)) (h1 : ¬ (r.base < 0 ∨ r.base > (q.H.length : Int) - 1)) (h2 : ¬ (q.tk r.id).isSome = true) (h3 : (q.ws.length : Int) ≥ q.room) : submitR q r = (q, 8) := by unfold submitR; rw [if_neg h, if_neg h1, if_neg h2, if_pos h3]
theorem sub0 {q : Qs} {r : Rq} (h : ¬ (r.id < 1 ∨ r.l.length = 0)) (h1 : ¬ (r.base < 0 ∨ r.base > (q.H.length : Int) - 1)) (h2 : ¬ (q.tk r.id).isSome = true) (h3 : ¬ (q.ws.length : Int) ≥ q.room) : submitR q r = ({ q with ws := q.ws ++ [r], tk := setK q.tk r.id none }, 0) := by unfold submitR; rw [if_neg h, if_neg h1, if_neg h2, if_neg h3]
theorem submit_spec {pq ph : Nat} {Z : Nat → Prop} {w : World} {q : Qs} (hQ : Que pq ph Z w q) (r : Rq) {A : Option Addr} {c : Nat} {G : Nat → Prop} (hG : ∀ b, G b → b < w.heap.size) (hrow : dlT.Row w G A r.l) (hid : inK .i64 r.id) (hbase : inK .i64 r.base) (hdl : r.l.length * 48 ≤ 140737488355328) :
    Calls Tryd.prog 15 #[hp pq, .agg #[.int .i64 r.id, .int .i64 r.base, .slice A r.l.length c]] w (fun en w' => ∃ u, en = .returned u ∧ u = .int .i64 (submitR q r).2 ∧ Que pq ph (fun b => Z b ∨ since w w' b) w' (submitR q r).1 ∧ Mv Z w w') := by
  have hQ0 := hQ; obtain ⟨pm, mt, v, F, Zh, h, hZ⟩ := hQ; have hlt := h.lt; have hbq := h.bq; have hbm := h.bm; obtain ⟨f, hm, hf⟩ := h.map; obtain ⟨Aw, cw, rfl, hcw, -⟩ := h.own.read; have hwl := h.wl; have hro := h.ro; obtain ⟨m0, v0, F0, hHA, hHZ⟩ := h.his; have hHl : 1 ≤ q.H.length ∧ q.H.length ≤ 100001 := ⟨List.length_pos_iff.2 hHA.ne, hHA.sm⟩; have hHis := h.his; obtain ⟨rs, hal, hrr⟩ := Row.raw hrow; have hlen := hal.len
  have hcl : ∀ W, Ext w W → Calls Tryd.prog 46 #[.slice A r.l.length c] W (fun en w'' => ∃ v, en = .returned v ∧ Ext W w'' ∧ Eng.Own (rawT 3) w'' nobody W.heap.size 38 v rs) := fun W he => by
    have := cloneD_spec A c rs W (by omega) (fun b hb => Nat.lt_of_lt_of_le (hG b hb) he.size) (hrr.keep (fun b hb => he.block b (hG b hb)) (fun _ h => h))
    rw [← hlen] at this; exact this
  have hun : ∀ W, Ext w W → Que pq ph (fun b => Z b ∨ since w W b) W q ∧ Mv Z w W := fun W he => ⟨by
    obtain ⟨pm', mt', v', F', Zh', h1, h2⟩ := hQ0.ext he
    exact ⟨pm', mt', v', F', Zh', h1, fun b hb => Or.inl (h2 b hb)⟩, Mv.of_ext he⟩
  have hsome : (f (.int .i64 r.id)).isSome = (q.tk r.id).isSome := by
    obtain ⟨h1, h2, h3⟩ := hf r.id
    cases htk : q.tk r.id with
    | none => rw [h1 htk]; rfl
    | some x => cases x with
      | none => rw [h2 htk]; rfl
      | some a => obtain ⟨b, h4, _⟩ := h3 a htk; rw [h4]; rfl
  refine calls' (n := 90) (rs := #[.tmp 4]) (l := [hp pq, .agg #[.int .i64 r.id, .int .i64 r.base, .slice A r.l.length c]]) Tryd.func15 rfl rfl rfl rfl rfl ?_; have hX := Ext.refl w; refine W_seq ?_; refine W_region ?_; refine op_box (v := .agg _) rfl rfl ?_; intro w0_0 b0_0 E0_0 B0_0 L0_0
  have hG0_0 : w.heap.size ≤ b0_0 := by have := hX.size; omega
  replace hX := hX.trans E0_0; refine op rfl (r_assignV (v := .int _ _) rfl) ?_; refine WL_nil ?_; refine W_seq ?_; refine W_seq ?_; refine W_region ?_; refine op rfl (r_moveV (v := .pointer _) rfl) ?_; refine opCv rfl (r_call Tryd.func45 Tryd.nm45 rfl) (mainNone_spec (h.keep hX.size (fun b hb ↦ hX.block b (hlt b hb)))) ?_; rintro v1 w1 ⟨rfl, hE⟩; replace B0_0 := Blk.ext B0_0 hE; replace hX := hX.trans hE; refine WL_nil ?_; refine W_ifp rfl (fun ht10 => ?_) (fun ht10 => ?_)
  · exact ht10.elim
  · refine W_skip ?_; refine W_seq ?_; refine W_drawF (W0 := w) (fun b : Nat => b = b0_0 ∨ False) Tryd.wd rfl ?_; intro wd3 hD; replace B0_0 := Blk.ext B0_0 hD; replace hX := hX.trans hD; have DB0_0 := B0_0; have hS : Ext w wd3 ∧ Same (fun b : Nat => b = b0_0 ∨ False) wd3 wd3 := ⟨hX, fun _ _ => rfl⟩; refine A_take (i := 0) rfl (by kernel_rfl) (by kernel_rfl) (by kernel_rfl) rfl hS (fun _ hw => r_moveV (v := .pointer _) rfl) ?_; refine A_take (i := 1) rfl (by kernel_rfl) (by kernel_rfl) (by kernel_rfl) rfl hS (fun _ hw => r_nilCheck rfl) ?_; refine A_take (i := 2) rfl (by kernel_rfl) (by kernel_rfl) (by kernel_rfl) rfl hS (fun _ hw => r_fieldAddr rfl Tryd.fld113_3 rfl) ?_; refine A_take (i := 3) rfl (by kernel_rfl) (by kernel_rfl) (by kernel_rfl) rfl hS (fun _ hw => r_load (v := .map (some mt)) rfl Tryd.underlying109 rfl (Blk.cell (Blk.ext hbq hw.1) rfl)) ?_; refine A_take (i := 4) rfl (by kernel_rfl) (by kernel_rfl) (by kernel_rfl) rfl hS (fun _ hw => r_fieldAddr rfl Tryd.fld41_0 rfl) ?_; refine A_take (i := 5) rfl (by kernel_rfl) (by kernel_rfl) (by kernel_rfl) rfl hS (fun _ hw => r_load (v := .int .i64 r.id) rfl Tryd.underlying3 rfl (Blk.cell (Blk.at DB0_0 (hw.2 _ (Or.inl rfl))) rfl)) ?_; refine A_ready1 (i := 6) (by kernel_rfl) ?_; refine O_val rfl rfl (rk_lookupOk rfl rfl Tryd.underlying109 Tryd.underlying3 (by trivial) Tryd.zero114 (hm.ext hX)) (hS) ?_; refine A_take (i := 7) rfl (by kernel_rfl) (by kernel_rfl) (by kernel_rfl) rfl hS (fun _ hw => r_moveV (v := .tuple #[(f (.int .i64 r.id)).getD (.pointer none), .bool (f (.int .i64 r.id)).isSome]) rfl) ?_; refine A_take (i := 8) rfl (by kernel_rfl) (by kernel_rfl) (by kernel_rfl) rfl hS (fun _ hw => r_extract (vs := [(f (.int .i64 r.id)).getD (.pointer none), .bool (f (.int .i64 r.id)).isSome]) (v := (f (.int .i64 r.id)).getD (.pointer none)) rfl rfl) ?_; refine A_take (i := 9) rfl (by kernel_rfl) (by kernel_rfl) (by kernel_rfl) rfl hS (fun _ hw => r_extract (vs := [(f (.int .i64 r.id)).getD (.pointer none), .bool (f (.int .i64 r.id)).isSome]) (v := .bool (f (.int .i64 r.id)).isSome) rfl rfl) ?_; refine A_take (i := 10) rfl (by kernel_rfl) (by kernel_rfl) (by kernel_rfl) rfl hS (fun _ hw => r_assignV (v := (f (.int .i64 r.id)).getD (.pointer none)) rfl) ?_; refine A_take (i := 11) rfl (by kernel_rfl) (by kernel_rfl) (by kernel_rfl) rfl hS (fun _ hw => r_assignV (v := .bool (f (.int .i64 r.id)).isSome) rfl) ?_; refine A_done (by kernel_rfl) ?_; refine W_seq ?_; refine W_block ?_; refine W_seq ?_; refine W_seq ?_; refine W_region ?_; refine op rfl (r_fieldAddr rfl Tryd.fld41_0 rfl) ?_; refine op rfl (r_load (v := .int .i64 r.id) rfl Tryd.underlying3 rfl (Blk.cell B0_0 rfl)) ?_; refine op rfl (r_lss rfl rfl) ?_; refine op rfl (r_assignV (v := .bool _) rfl) ?_; refine WL_nil ?_; refine W_ifp rfl (fun ht21 => ?_) (fun ht21 => ?_)
    · refine W_skip ?_; refine W_then (congrArg Value.bool (decide_eq_true ht21)) ?_; refine W_seq ?_; refine W_region ?_; refine op rfl (r_assignV (v := .int _ _) rfl) ?_; refine WL_nil ?_; refine W_ret (blk_ret (finX_ret ?_)); refine fin1 ?_
      first
        | exact ht10.elim
        | (rw [sub2 (by omega)]; exact ⟨_, rfl, rfl, hun _ hX⟩)
        | (rw [sub7 (by omega) (by omega)]; exact ⟨_, rfl, rfl, hun _ hX⟩)
        | (rw [sub12 (by omega) (by omega) (by rw [← hsome]; exact ht44)]; exact ⟨_, rfl, rfl, hun _ hX⟩)
        | (rw [sub8 (by omega) (by omega) (by rw [← hsome]; simp [ht44]) (by omega)]; exact ⟨_, rfl, rfl, hun _ hX⟩)
        | (rw [sub0 (by omega) (by omega) (by rw [← hsome]; simp [ht44]) (by omega)]
           have hs22 := hM21.size; have hM20 : Mv Z w w20 := (Mv.of_ext (hX'.trans hX20)).trans (Mv.of_chg C20 (hZ mt (Or.inr (Or.inr (Or.inl rfl))))); have hMe : Mv Z w w21 := (hM20.trans (Mv.of_ext hX)).trans ⟨hM21.os, hM21.tape, hM21.output, hM21.size, fun k hk hn => hM21.block k hk (fun q => hn (q.elim (fun q => hZ k (Or.inl q)) (fun q => hZ k (Or.inr (Or.inr (Or.inr (Or.inl q)))))))⟩
           have hkM : ∀ b, b < wd21.heap.size → b ≠ pq → (Value.slice Aw q.ws.length cw).ownBlock ≠ some b → w21.heap[b]? = wd21.heap[b]? := fun b h1 h2 h3 => hM21.block b h1 (fun q => q.elim h2 h3)
           have hoc : ∀ b, v21.ownBlock = some b → (Value.slice Aw q.ws.length cw).ownBlock = some b ∨ wd21.heap.size ≤ b := fun b hb => by
             rcases hv21 with k | ⟨g, k, hg⟩
             · exact Or.inl (k ▸ hb)
             · rw [k] at hb; simp only [Option.some.injEq] at hb; exact Or.inr (by omega)
           have hpqo : (Value.slice Aw q.ws.length cw).ownBlock ≠ some pm := fun k => (h.O1 pm k).2.1 rfl
           have hmto : (Value.slice Aw q.ws.length cw).ownBlock ≠ some mt := fun k => (h.O1 mt k).2.2 rfl
           have hQn : QueAt pq pm ph mt v21 (fun b => F b ∨ since w w0i b) Zh w21 { q with ws := q.ws ++ [r], tk := setK q.tk r.id none } := by
             refine ⟨B21, (hbm.at (hkw pm hpml hmpm.symm)).at (hkM pm (by omega) h.ne.symm hpqo), ?_, hO21', ⟨_, (M20.ext hX).at (hkM mt (by omega) hmpq hmto), ?_⟩, h.ne, fun b hb => ?_, fun b hb => ?_, fun b hb => ?_, h.ro, by show ((q.ws ++ [r]).length : Int) ≤ q.room; simp; omega, fun x hx => ?_⟩
             · exact hHis.keep (fun b hb => (hkM b (by have := (h.Z1 b hb).1; omega) (h.Z1 b hb).2.1 (h.Z1 b hb).2.2.2.2).trans (hkw b (h.Z1 b hb).1 (h.Z1 b hb).2.2.2.1))
             · exact (hf.keep (w' := w21) (F' := fun b => F b ∨ since w w0i b) (fun b hb => (hkM b (by have := (h.F1 b hb).1; omega) (h.F1 b hb).2.1 (h.F1 b hb).2.2.2.2.1).trans (hkw b (h.F1 b hb).1 (h.F1 b hb).2.2.2.1)) (fun b hb => Or.inl hb)).put0 r.id
             · have hb1 := (hF21 b hb).1; refine ⟨by omega, hFq21 b hb, ?_, ?_, fun k => ?_, fun k => ?_⟩
               · rcases hb with k | k
                 · exact (h.F1 b k).2.2.1
                 · have := k.1; omega
               · rcases hb with k | k
                 · exact (h.F1 b k).2.2.2.1
                 · have := k.1; omega
               · rcases hoc b k with j | j
                 · exact (hF21 b hb).2 j
                 · omega
               · rcases hb with j | j
                 · exact (h.F1 b j).2.2.2.2.2 k
                 · have := (h.Z1 b k).1; have := j.1; omega
             · obtain ⟨z1, z2, z3, z4, z5⟩ := h.Z1 b hb
               exact ⟨by omega, z2, z3, z4, fun k => by
                 rcases hoc b k with j | j
                 · exact z5 j
                 · omega⟩
             · rcases hoc b hb with j | j
               · exact h.O1 b j
               · exact ⟨by omega, by omega, by omega⟩
             · rcases List.mem_append.1 hx with k | k
               · exact h.ok x k
               · rw [List.mem_singleton.1 k]; exact hdl
           refine ⟨_, rfl, rfl, ⟨pm, mt, v21, _, Zh, hQn, ?_⟩, hMe⟩; rintro b (k | k | k | k | k | k)
           · exact Or.inl (hZ b (Or.inl k))
           · exact Or.inl (hZ b (Or.inr (Or.inl k)))
           · exact Or.inl (hZ b (Or.inr (Or.inr (Or.inl k))))
           · rcases hoc b k with j | j
             · exact Or.inl (hZ b (Or.inr (Or.inr (Or.inr (Or.inl j)))))
             · exact Or.inr ⟨by omega, (hQn.lt b (Or.inr (Or.inr (Or.inr (Or.inl k)))))⟩
           · rcases k with k | k
             · exact Or.inl (hZ b (Or.inr (Or.inr (Or.inr (Or.inr (Or.inl k))))))
             · exact Or.inr ⟨k.1, by have := k.2; omega⟩
           · exact Or.inl (hZ b (Or.inr (Or.inr (Or.inr (Or.inr (Or.inr k)))))))
    · refine W_region ?_; refine op rfl (r_fieldAddr rfl Tryd.fld41_2 rfl) ?_; refine op rfl (r_load (v := .slice A r.l.length c) rfl Tryd.underlying39 rfl (Blk.cell B0_0 rfl)) ?_; refine op rfl (r_len_slice rfl Tryd.underlying39) ?_; refine op rfl (r_eql rfl rfl) ?_; refine op rfl (r_assignV (v := .bool _) rfl) ?_; refine WL_nil ?_; refine W_ifp rfl (fun ht21 => ?_) (fun ht21 => ?_)
      · refine W_seq ?_; refine W_region ?_; refine op rfl (r_assignV (v := .int _ _) rfl) ?_; refine WL_nil ?_; refine W_ret (blk_ret (finX_ret ?_)); refine fin1 ?_
        first
          | exact ht10.elim
          | (rw [sub2 (by omega)]; exact ⟨_, rfl, rfl, hun _ hX⟩)
          | (rw [sub7 (by omega) (by omega)]; exact ⟨_, rfl, rfl, hun _ hX⟩)
          | (rw [sub12 (by omega) (by omega) (by rw [← hsome]; exact ht44)]; exact ⟨_, rfl, rfl, hun _ hX⟩)
          | (rw [sub8 (by omega) (by omega) (by rw [← hsome]; simp [ht44]) (by omega)]; exact ⟨_, rfl, rfl, hun _ hX⟩)
          | (rw [sub0 (by omega) (by omega) (by rw [← hsome]; simp [ht44]) (by omega)]
             have hs22 := hM21.size; have hM20 : Mv Z w w20 := (Mv.of_ext (hX'.trans hX20)).trans (Mv.of_chg C20 (hZ mt (Or.inr (Or.inr (Or.inl rfl))))); have hMe : Mv Z w w21 := (hM20.trans (Mv.of_ext hX)).trans ⟨hM21.os, hM21.tape, hM21.output, hM21.size, fun k hk hn => hM21.block k hk (fun q => hn (q.elim (fun q => hZ k (Or.inl q)) (fun q => hZ k (Or.inr (Or.inr (Or.inr (Or.inl q)))))))⟩
             have hkM : ∀ b, b < wd21.heap.size → b ≠ pq → (Value.slice Aw q.ws.length cw).ownBlock ≠ some b → w21.heap[b]? = wd21.heap[b]? := fun b h1 h2 h3 => hM21.block b h1 (fun q => q.elim h2 h3)
             have hoc : ∀ b, v21.ownBlock = some b → (Value.slice Aw q.ws.length cw).ownBlock = some b ∨ wd21.heap.size ≤ b := fun b hb => by
               rcases hv21 with k | ⟨g, k, hg⟩
               · exact Or.inl (k ▸ hb)
               · rw [k] at hb; simp only [Option.some.injEq] at hb; exact Or.inr (by omega)
             have hpqo : (Value.slice Aw q.ws.length cw).ownBlock ≠ some pm := fun k => (h.O1 pm k).2.1 rfl
             have hmto : (Value.slice Aw q.ws.length cw).ownBlock ≠ some mt := fun k => (h.O1 mt k).2.2 rfl
             have hQn : QueAt pq pm ph mt v21 (fun b => F b ∨ since w w0i b) Zh w21 { q with ws := q.ws ++ [r], tk := setK q.tk r.id none } := by
               refine ⟨B21, (hbm.at (hkw pm hpml hmpm.symm)).at (hkM pm (by omega) h.ne.symm hpqo), ?_, hO21', ⟨_, (M20.ext hX).at (hkM mt (by omega) hmpq hmto), ?_⟩, h.ne, fun b hb => ?_, fun b hb => ?_, fun b hb => ?_, h.ro, by show ((q.ws ++ [r]).length : Int) ≤ q.room; simp; omega, fun x hx => ?_⟩
               · exact hHis.keep (fun b hb => (hkM b (by have := (h.Z1 b hb).1; omega) (h.Z1 b hb).2.1 (h.Z1 b hb).2.2.2.2).trans (hkw b (h.Z1 b hb).1 (h.Z1 b hb).2.2.2.1))
               · exact (hf.keep (w' := w21) (F' := fun b => F b ∨ since w w0i b) (fun b hb => (hkM b (by have := (h.F1 b hb).1; omega) (h.F1 b hb).2.1 (h.F1 b hb).2.2.2.2.1).trans (hkw b (h.F1 b hb).1 (h.F1 b hb).2.2.2.1)) (fun b hb => Or.inl hb)).put0 r.id
               · have hb1 := (hF21 b hb).1; refine ⟨by omega, hFq21 b hb, ?_, ?_, fun k => ?_, fun k => ?_⟩
                 · rcases hb with k | k
                   · exact (h.F1 b k).2.2.1
                   · have := k.1; omega
                 · rcases hb with k | k
                   · exact (h.F1 b k).2.2.2.1
                   · have := k.1; omega
                 · rcases hoc b k with j | j
                   · exact (hF21 b hb).2 j
                   · omega
                 · rcases hb with j | j
                   · exact (h.F1 b j).2.2.2.2.2 k
                   · have := (h.Z1 b k).1; have := j.1; omega
               · obtain ⟨z1, z2, z3, z4, z5⟩ := h.Z1 b hb
                 exact ⟨by omega, z2, z3, z4, fun k => by
                   rcases hoc b k with j | j
                   · exact z5 j
                   · omega⟩
               · rcases hoc b hb with j | j
                 · exact h.O1 b j
                 · exact ⟨by omega, by omega, by omega⟩
               · rcases List.mem_append.1 hx with k | k
                 · exact h.ok x k
                 · rw [List.mem_singleton.1 k]; exact hdl
             refine ⟨_, rfl, rfl, ⟨pm, mt, v21, _, Zh, hQn, ?_⟩, hMe⟩; rintro b (k | k | k | k | k | k)
             · exact Or.inl (hZ b (Or.inl k))
             · exact Or.inl (hZ b (Or.inr (Or.inl k)))
             · exact Or.inl (hZ b (Or.inr (Or.inr (Or.inl k))))
             · rcases hoc b k with j | j
               · exact Or.inl (hZ b (Or.inr (Or.inr (Or.inr (Or.inl j)))))
               · exact Or.inr ⟨by omega, (hQn.lt b (Or.inr (Or.inr (Or.inr (Or.inl k)))))⟩
             · rcases k with k | k
               · exact Or.inl (hZ b (Or.inr (Or.inr (Or.inr (Or.inr (Or.inl k))))))
               · exact Or.inr ⟨k.1, by have := k.2; omega⟩
             · exact Or.inl (hZ b (Or.inr (Or.inr (Or.inr (Or.inr (Or.inr k)))))))
      · refine W_seq ?_; refine W_seq ?_; refine W_region ?_; refine op rfl (r_fieldAddr rfl Tryd.fld41_1 rfl) ?_; refine op rfl (r_load (v := .int .i64 r.base) rfl Tryd.underlying3 rfl (Blk.cell B0_0 rfl)) ?_; refine op rfl (r_lss rfl rfl) ?_; refine op rfl (r_assignV (v := .bool _) rfl) ?_; refine WL_nil ?_; refine W_ifp rfl (fun ht29 => ?_) (fun ht29 => ?_)
        · refine W_skip ?_; refine W_then (congrArg Value.bool (decide_eq_true ht29)) ?_; refine W_seq ?_; refine W_region ?_; refine op rfl (r_assignV (v := .int _ _) rfl) ?_; refine WL_nil ?_; refine W_ret (blk_ret (finX_ret ?_)); refine fin1 ?_
          first
            | exact ht10.elim
            | (rw [sub2 (by omega)]; exact ⟨_, rfl, rfl, hun _ hX⟩)
            | (rw [sub7 (by omega) (by omega)]; exact ⟨_, rfl, rfl, hun _ hX⟩)
            | (rw [sub12 (by omega) (by omega) (by rw [← hsome]; exact ht44)]; exact ⟨_, rfl, rfl, hun _ hX⟩)
            | (rw [sub8 (by omega) (by omega) (by rw [← hsome]; simp [ht44]) (by omega)]; exact ⟨_, rfl, rfl, hun _ hX⟩)
            | (rw [sub0 (by omega) (by omega) (by rw [← hsome]; simp [ht44]) (by omega)]
               have hs22 := hM21.size; have hM20 : Mv Z w w20 := (Mv.of_ext (hX'.trans hX20)).trans (Mv.of_chg C20 (hZ mt (Or.inr (Or.inr (Or.inl rfl))))); have hMe : Mv Z w w21 := (hM20.trans (Mv.of_ext hX)).trans ⟨hM21.os, hM21.tape, hM21.output, hM21.size, fun k hk hn => hM21.block k hk (fun q => hn (q.elim (fun q => hZ k (Or.inl q)) (fun q => hZ k (Or.inr (Or.inr (Or.inr (Or.inl q)))))))⟩
               have hkM : ∀ b, b < wd21.heap.size → b ≠ pq → (Value.slice Aw q.ws.length cw).ownBlock ≠ some b → w21.heap[b]? = wd21.heap[b]? := fun b h1 h2 h3 => hM21.block b h1 (fun q => q.elim h2 h3)
               have hoc : ∀ b, v21.ownBlock = some b → (Value.slice Aw q.ws.length cw).ownBlock = some b ∨ wd21.heap.size ≤ b := fun b hb => by
                 rcases hv21 with k | ⟨g, k, hg⟩
                 · exact Or.inl (k ▸ hb)
                 · rw [k] at hb; simp only [Option.some.injEq] at hb; exact Or.inr (by omega)
               have hpqo : (Value.slice Aw q.ws.length cw).ownBlock ≠ some pm := fun k => (h.O1 pm k).2.1 rfl
               have hmto : (Value.slice Aw q.ws.length cw).ownBlock ≠ some mt := fun k => (h.O1 mt k).2.2 rfl
               have hQn : QueAt pq pm ph mt v21 (fun b => F b ∨ since w w0i b) Zh w21 { q with ws := q.ws ++ [r], tk := setK q.tk r.id none } := by
                 refine ⟨B21, (hbm.at (hkw pm hpml hmpm.symm)).at (hkM pm (by omega) h.ne.symm hpqo), ?_, hO21', ⟨_, (M20.ext hX).at (hkM mt (by omega) hmpq hmto), ?_⟩, h.ne, fun b hb => ?_, fun b hb => ?_, fun b hb => ?_, h.ro, by show ((q.ws ++ [r]).length : Int) ≤ q.room; simp; omega, fun x hx => ?_⟩
                 · exact hHis.keep (fun b hb => (hkM b (by have := (h.Z1 b hb).1; omega) (h.Z1 b hb).2.1 (h.Z1 b hb).2.2.2.2).trans (hkw b (h.Z1 b hb).1 (h.Z1 b hb).2.2.2.1))
                 · exact (hf.keep (w' := w21) (F' := fun b => F b ∨ since w w0i b) (fun b hb => (hkM b (by have := (h.F1 b hb).1; omega) (h.F1 b hb).2.1 (h.F1 b hb).2.2.2.2.1).trans (hkw b (h.F1 b hb).1 (h.F1 b hb).2.2.2.1)) (fun b hb => Or.inl hb)).put0 r.id
                 · have hb1 := (hF21 b hb).1; refine ⟨by omega, hFq21 b hb, ?_, ?_, fun k => ?_, fun k => ?_⟩
                   · rcases hb with k | k
                     · exact (h.F1 b k).2.2.1
                     · have := k.1; omega
                   · rcases hb with k | k
                     · exact (h.F1 b k).2.2.2.1
                     · have := k.1; omega
                   · rcases hoc b k with j | j
                     · exact (hF21 b hb).2 j
                     · omega
                   · rcases hb with j | j
                     · exact (h.F1 b j).2.2.2.2.2 k
                     · have := (h.Z1 b k).1; have := j.1; omega
                 · obtain ⟨z1, z2, z3, z4, z5⟩ := h.Z1 b hb
                   exact ⟨by omega, z2, z3, z4, fun k => by
                     rcases hoc b k with j | j
                     · exact z5 j
                     · omega⟩
                 · rcases hoc b hb with j | j
                   · exact h.O1 b j
                   · exact ⟨by omega, by omega, by omega⟩
                 · rcases List.mem_append.1 hx with k | k
                   · exact h.ok x k
                   · rw [List.mem_singleton.1 k]; exact hdl
               refine ⟨_, rfl, rfl, ⟨pm, mt, v21, _, Zh, hQn, ?_⟩, hMe⟩; rintro b (k | k | k | k | k | k)
               · exact Or.inl (hZ b (Or.inl k))
               · exact Or.inl (hZ b (Or.inr (Or.inl k)))
               · exact Or.inl (hZ b (Or.inr (Or.inr (Or.inl k))))
               · rcases hoc b k with j | j
                 · exact Or.inl (hZ b (Or.inr (Or.inr (Or.inr (Or.inl j)))))
                 · exact Or.inr ⟨by omega, (hQn.lt b (Or.inr (Or.inr (Or.inr (Or.inl k)))))⟩
               · rcases k with k | k
                 · exact Or.inl (hZ b (Or.inr (Or.inr (Or.inr (Or.inr (Or.inl k))))))
                 · exact Or.inr ⟨k.1, by have := k.2; omega⟩
               · exact Or.inl (hZ b (Or.inr (Or.inr (Or.inr (Or.inr (Or.inr k)))))))
        · refine W_drawF (W0 := w) (fun b : Nat => b = b0_0 ∨ False) Tryd.wd rfl ?_; intro wd8 hD; replace B0_0 := Blk.ext B0_0 hD; replace hX := hX.trans hD; have DB0_0 := B0_0; have hS : Ext w wd8 ∧ Same (fun b : Nat => b = b0_0 ∨ False) wd8 wd8 := ⟨hX, fun _ _ => rfl⟩; refine A_take (i := 0) rfl (by kernel_rfl) (by kernel_rfl) (by kernel_rfl) rfl hS (fun _ hw => r_fieldAddr rfl Tryd.fld41_1 rfl) ?_; refine A_take (i := 1) rfl (by kernel_rfl) (by kernel_rfl) (by kernel_rfl) rfl hS (fun _ hw => r_load (v := .int .i64 r.base) rfl Tryd.underlying3 rfl (Blk.cell (Blk.at DB0_0 (hw.2 _ (Or.inl rfl))) rfl)) ?_; refine A_take (i := 2) rfl (by kernel_rfl) (by kernel_rfl) (by kernel_rfl) rfl hS (fun _ hw => r_moveV (v := .pointer _) rfl) ?_; refine A_take (i := 3) rfl (by kernel_rfl) (by kernel_rfl) (by kernel_rfl) rfl hS (fun _ hw => r_nilCheck rfl) ?_; refine A_take (i := 4) rfl (by kernel_rfl) (by kernel_rfl) (by kernel_rfl) rfl hS (fun _ hw => r_fieldAddr rfl Tryd.fld113_0 rfl) ?_; refine A_take (i := 5) rfl (by kernel_rfl) (by kernel_rfl) (by kernel_rfl) rfl hS (fun _ hw => r_load (v := hp pm) rfl Tryd.underlying106 rfl (Blk.cell (Blk.ext hbq hw.1) rfl)) ?_; refine A_take (i := 6) rfl (by kernel_rfl) (by kernel_rfl) (by kernel_rfl) rfl hS (fun _ hw => r_nilCheck rfl) ?_; refine A_take (i := 7) rfl (by kernel_rfl) (by kernel_rfl) (by kernel_rfl) rfl hS (fun _ hw => r_fieldAddr rfl Tryd.fld108_0 rfl) ?_; refine A_take (i := 8) rfl (by kernel_rfl) (by kernel_rfl) (by kernel_rfl) rfl hS (fun _ hw => r_load (v := hp ph) rfl Tryd.underlying28 rfl (Blk.cell (Blk.ext hbm hw.1) rfl)) ?_; refine A_ready1 (i := 9) (by kernel_rfl) ?_; refine O_call rfl rfl (r_call Tryd.func17 Tryd.nm17 rfl) (head_spec (hHis.ext hX)) ?_; rintro v8 w8 ⟨rfl, hE⟩; replace B0_0 := Blk.ext B0_0 hE; replace hX := hX.trans hE; replace hS : Ext w w8 ∧ Same (fun b : Nat => b = b0_0 ∨ False) wd8 w8 := ⟨hX, fun b hb => Or.elim hb (fun q => by subst q; exact Blk.eq B0_0 DB0_0) (fun hb => hb.elim)⟩; refine ⟨hS, ?_⟩; refine A_take (i := 10) rfl (by kernel_rfl) (by kernel_rfl) (by kernel_rfl) rfl hS (fun _ hw => r_gtr rfl rfl) ?_; refine A_take (i := 11) rfl (by kernel_rfl) (by kernel_rfl) (by kernel_rfl) rfl hS (fun _ hw => r_assignV (v := .bool _) rfl) ?_; refine A_done (by kernel_rfl) ?_; refine W_ifp rfl (fun ht29 => ?_) (fun ht29 => ?_)
          · refine W_seq ?_; refine W_region ?_; refine op rfl (r_assignV (v := .int _ _) rfl) ?_; refine WL_nil ?_; refine W_ret (blk_ret (finX_ret ?_)); refine fin1 ?_
            first
              | exact ht10.elim
              | (rw [sub2 (by omega)]; exact ⟨_, rfl, rfl, hun _ hX⟩)
              | (rw [sub7 (by omega) (by omega)]; exact ⟨_, rfl, rfl, hun _ hX⟩)
              | (rw [sub12 (by omega) (by omega) (by rw [← hsome]; exact ht44)]; exact ⟨_, rfl, rfl, hun _ hX⟩)
              | (rw [sub8 (by omega) (by omega) (by rw [← hsome]; simp [ht44]) (by omega)]; exact ⟨_, rfl, rfl, hun _ hX⟩)
              | (rw [sub0 (by omega) (by omega) (by rw [← hsome]; simp [ht44]) (by omega)]
                 have hs22 := hM21.size; have hM20 : Mv Z w w20 := (Mv.of_ext (hX'.trans hX20)).trans (Mv.of_chg C20 (hZ mt (Or.inr (Or.inr (Or.inl rfl))))); have hMe : Mv Z w w21 := (hM20.trans (Mv.of_ext hX)).trans ⟨hM21.os, hM21.tape, hM21.output, hM21.size, fun k hk hn => hM21.block k hk (fun q => hn (q.elim (fun q => hZ k (Or.inl q)) (fun q => hZ k (Or.inr (Or.inr (Or.inr (Or.inl q)))))))⟩
                 have hkM : ∀ b, b < wd21.heap.size → b ≠ pq → (Value.slice Aw q.ws.length cw).ownBlock ≠ some b → w21.heap[b]? = wd21.heap[b]? := fun b h1 h2 h3 => hM21.block b h1 (fun q => q.elim h2 h3)
                 have hoc : ∀ b, v21.ownBlock = some b → (Value.slice Aw q.ws.length cw).ownBlock = some b ∨ wd21.heap.size ≤ b := fun b hb => by
                   rcases hv21 with k | ⟨g, k, hg⟩
                   · exact Or.inl (k ▸ hb)
                   · rw [k] at hb; simp only [Option.some.injEq] at hb; exact Or.inr (by omega)
                 have hpqo : (Value.slice Aw q.ws.length cw).ownBlock ≠ some pm := fun k => (h.O1 pm k).2.1 rfl
                 have hmto : (Value.slice Aw q.ws.length cw).ownBlock ≠ some mt := fun k => (h.O1 mt k).2.2 rfl
                 have hQn : QueAt pq pm ph mt v21 (fun b => F b ∨ since w w0i b) Zh w21 { q with ws := q.ws ++ [r], tk := setK q.tk r.id none } := by
                   refine ⟨B21, (hbm.at (hkw pm hpml hmpm.symm)).at (hkM pm (by omega) h.ne.symm hpqo), ?_, hO21', ⟨_, (M20.ext hX).at (hkM mt (by omega) hmpq hmto), ?_⟩, h.ne, fun b hb => ?_, fun b hb => ?_, fun b hb => ?_, h.ro, by show ((q.ws ++ [r]).length : Int) ≤ q.room; simp; omega, fun x hx => ?_⟩
                   · exact hHis.keep (fun b hb => (hkM b (by have := (h.Z1 b hb).1; omega) (h.Z1 b hb).2.1 (h.Z1 b hb).2.2.2.2).trans (hkw b (h.Z1 b hb).1 (h.Z1 b hb).2.2.2.1))
                   · exact (hf.keep (w' := w21) (F' := fun b => F b ∨ since w w0i b) (fun b hb => (hkM b (by have := (h.F1 b hb).1; omega) (h.F1 b hb).2.1 (h.F1 b hb).2.2.2.2.1).trans (hkw b (h.F1 b hb).1 (h.F1 b hb).2.2.2.1)) (fun b hb => Or.inl hb)).put0 r.id
                   · have hb1 := (hF21 b hb).1; refine ⟨by omega, hFq21 b hb, ?_, ?_, fun k => ?_, fun k => ?_⟩
                     · rcases hb with k | k
                       · exact (h.F1 b k).2.2.1
                       · have := k.1; omega
                     · rcases hb with k | k
                       · exact (h.F1 b k).2.2.2.1
                       · have := k.1; omega
                     · rcases hoc b k with j | j
                       · exact (hF21 b hb).2 j
                       · omega
                     · rcases hb with j | j
                       · exact (h.F1 b j).2.2.2.2.2 k
                       · have := (h.Z1 b k).1; have := j.1; omega
                   · obtain ⟨z1, z2, z3, z4, z5⟩ := h.Z1 b hb
                     exact ⟨by omega, z2, z3, z4, fun k => by
                       rcases hoc b k with j | j
                       · exact z5 j
                       · omega⟩
                   · rcases hoc b hb with j | j
                     · exact h.O1 b j
                     · exact ⟨by omega, by omega, by omega⟩
                   · rcases List.mem_append.1 hx with k | k
                     · exact h.ok x k
                     · rw [List.mem_singleton.1 k]; exact hdl
                 refine ⟨_, rfl, rfl, ⟨pm, mt, v21, _, Zh, hQn, ?_⟩, hMe⟩; rintro b (k | k | k | k | k | k)
                 · exact Or.inl (hZ b (Or.inl k))
                 · exact Or.inl (hZ b (Or.inr (Or.inl k)))
                 · exact Or.inl (hZ b (Or.inr (Or.inr (Or.inl k))))
                 · rcases hoc b k with j | j
                   · exact Or.inl (hZ b (Or.inr (Or.inr (Or.inr (Or.inl j)))))
                   · exact Or.inr ⟨by omega, (hQn.lt b (Or.inr (Or.inr (Or.inr (Or.inl k)))))⟩
                 · rcases k with k | k
                   · exact Or.inl (hZ b (Or.inr (Or.inr (Or.inr (Or.inr (Or.inl k))))))
                   · exact Or.inr ⟨k.1, by have := k.2; omega⟩
                 · exact Or.inl (hZ b (Or.inr (Or.inr (Or.inr (Or.inr (Or.inr k)))))))
          · refine W_seq ?_; refine W_region ?_; refine op rfl (r_moveV (v := .bool (f (.int .i64 r.id)).isSome) rfl) ?_; refine op rfl (r_assignV (v := .bool (f (.int .i64 r.id)).isSome) rfl) ?_; refine WL_nil ?_; refine W_if rfl (fun ht44 => ?_) (fun ht44 => ?_)
            · refine W_seq ?_; refine W_region ?_; refine op rfl (r_assignV (v := .int _ _) rfl) ?_; refine WL_nil ?_; refine W_ret (blk_ret (finX_ret ?_)); refine fin1 ?_
              first
                | exact ht10.elim
                | (rw [sub2 (by omega)]; exact ⟨_, rfl, rfl, hun _ hX⟩)
                | (rw [sub7 (by omega) (by omega)]; exact ⟨_, rfl, rfl, hun _ hX⟩)
                | (rw [sub12 (by omega) (by omega) (by rw [← hsome]; exact ht44)]; exact ⟨_, rfl, rfl, hun _ hX⟩)
                | (rw [sub8 (by omega) (by omega) (by rw [← hsome]; simp [ht44]) (by omega)]; exact ⟨_, rfl, rfl, hun _ hX⟩)
                | (rw [sub0 (by omega) (by omega) (by rw [← hsome]; simp [ht44]) (by omega)]
                   have hs22 := hM21.size; have hM20 : Mv Z w w20 := (Mv.of_ext (hX'.trans hX20)).trans (Mv.of_chg C20 (hZ mt (Or.inr (Or.inr (Or.inl rfl))))); have hMe : Mv Z w w21 := (hM20.trans (Mv.of_ext hX)).trans ⟨hM21.os, hM21.tape, hM21.output, hM21.size, fun k hk hn => hM21.block k hk (fun q => hn (q.elim (fun q => hZ k (Or.inl q)) (fun q => hZ k (Or.inr (Or.inr (Or.inr (Or.inl q)))))))⟩
                   have hkM : ∀ b, b < wd21.heap.size → b ≠ pq → (Value.slice Aw q.ws.length cw).ownBlock ≠ some b → w21.heap[b]? = wd21.heap[b]? := fun b h1 h2 h3 => hM21.block b h1 (fun q => q.elim h2 h3)
                   have hoc : ∀ b, v21.ownBlock = some b → (Value.slice Aw q.ws.length cw).ownBlock = some b ∨ wd21.heap.size ≤ b := fun b hb => by
                     rcases hv21 with k | ⟨g, k, hg⟩
                     · exact Or.inl (k ▸ hb)
                     · rw [k] at hb; simp only [Option.some.injEq] at hb; exact Or.inr (by omega)
                   have hpqo : (Value.slice Aw q.ws.length cw).ownBlock ≠ some pm := fun k => (h.O1 pm k).2.1 rfl
                   have hmto : (Value.slice Aw q.ws.length cw).ownBlock ≠ some mt := fun k => (h.O1 mt k).2.2 rfl
                   have hQn : QueAt pq pm ph mt v21 (fun b => F b ∨ since w w0i b) Zh w21 { q with ws := q.ws ++ [r], tk := setK q.tk r.id none } := by
                     refine ⟨B21, (hbm.at (hkw pm hpml hmpm.symm)).at (hkM pm (by omega) h.ne.symm hpqo), ?_, hO21', ⟨_, (M20.ext hX).at (hkM mt (by omega) hmpq hmto), ?_⟩, h.ne, fun b hb => ?_, fun b hb => ?_, fun b hb => ?_, h.ro, by show ((q.ws ++ [r]).length : Int) ≤ q.room; simp; omega, fun x hx => ?_⟩
                     · exact hHis.keep (fun b hb => (hkM b (by have := (h.Z1 b hb).1; omega) (h.Z1 b hb).2.1 (h.Z1 b hb).2.2.2.2).trans (hkw b (h.Z1 b hb).1 (h.Z1 b hb).2.2.2.1))
                     · exact (hf.keep (w' := w21) (F' := fun b => F b ∨ since w w0i b) (fun b hb => (hkM b (by have := (h.F1 b hb).1; omega) (h.F1 b hb).2.1 (h.F1 b hb).2.2.2.2.1).trans (hkw b (h.F1 b hb).1 (h.F1 b hb).2.2.2.1)) (fun b hb => Or.inl hb)).put0 r.id
                     · have hb1 := (hF21 b hb).1; refine ⟨by omega, hFq21 b hb, ?_, ?_, fun k => ?_, fun k => ?_⟩
                       · rcases hb with k | k
                         · exact (h.F1 b k).2.2.1
                         · have := k.1; omega
                       · rcases hb with k | k
                         · exact (h.F1 b k).2.2.2.1
                         · have := k.1; omega
                       · rcases hoc b k with j | j
                         · exact (hF21 b hb).2 j
                         · omega
                       · rcases hb with j | j
                         · exact (h.F1 b j).2.2.2.2.2 k
                         · have := (h.Z1 b k).1; have := j.1; omega
                     · obtain ⟨z1, z2, z3, z4, z5⟩ := h.Z1 b hb
                       exact ⟨by omega, z2, z3, z4, fun k => by
                         rcases hoc b k with j | j
                         · exact z5 j
                         · omega⟩
                     · rcases hoc b hb with j | j
                       · exact h.O1 b j
                       · exact ⟨by omega, by omega, by omega⟩
                     · rcases List.mem_append.1 hx with k | k
                       · exact h.ok x k
                       · rw [List.mem_singleton.1 k]; exact hdl
                   refine ⟨_, rfl, rfl, ⟨pm, mt, v21, _, Zh, hQn, ?_⟩, hMe⟩; rintro b (k | k | k | k | k | k)
                   · exact Or.inl (hZ b (Or.inl k))
                   · exact Or.inl (hZ b (Or.inr (Or.inl k)))
                   · exact Or.inl (hZ b (Or.inr (Or.inr (Or.inl k))))
                   · rcases hoc b k with j | j
                     · exact Or.inl (hZ b (Or.inr (Or.inr (Or.inr (Or.inl j)))))
                     · exact Or.inr ⟨by omega, (hQn.lt b (Or.inr (Or.inr (Or.inr (Or.inl k)))))⟩
                   · rcases k with k | k
                     · exact Or.inl (hZ b (Or.inr (Or.inr (Or.inr (Or.inr (Or.inl k))))))
                     · exact Or.inr ⟨k.1, by have := k.2; omega⟩
                   · exact Or.inl (hZ b (Or.inr (Or.inr (Or.inr (Or.inr (Or.inr k)))))))
            · refine W_seq ?_; refine W_drawF (W0 := w) (fun b : Nat => b = b0_0 ∨ False) Tryd.wd rfl ?_; intro wd12 hD; replace B0_0 := Blk.ext B0_0 hD; replace hX := hX.trans hD; have DB0_0 := B0_0; have hS : Ext w wd12 ∧ Same (fun b : Nat => b = b0_0 ∨ False) wd12 wd12 := ⟨hX, fun _ _ => rfl⟩; refine A_take (i := 0) rfl (by kernel_rfl) (by kernel_rfl) (by kernel_rfl) rfl hS (fun _ hw => r_moveV (v := .pointer _) rfl) ?_; refine A_take (i := 1) rfl (by kernel_rfl) (by kernel_rfl) (by kernel_rfl) rfl hS (fun _ hw => r_nilCheck rfl) ?_; refine A_take (i := 2) rfl (by kernel_rfl) (by kernel_rfl) (by kernel_rfl) rfl hS (fun _ hw => r_fieldAddr rfl Tryd.fld113_1 rfl) ?_; refine A_take (i := 3) rfl (by kernel_rfl) (by kernel_rfl) (by kernel_rfl) rfl hS (fun _ hw => r_fieldAddr rfl Tryd.fld111_0 rfl) ?_; refine A_take (i := 4) rfl (by kernel_rfl) (by kernel_rfl) (by kernel_rfl) rfl hS (fun _ hw => r_load (v := .slice Aw q.ws.length cw) rfl Tryd.underlying82 rfl (Blk.cell (Blk.ext hbq hw.1) rfl)) ?_; refine A_take (i := 5) rfl (by kernel_rfl) (by kernel_rfl) (by kernel_rfl) rfl hS (fun _ hw => r_len_slice rfl Tryd.underlying82) ?_; refine A_take (i := 6) rfl (by kernel_rfl) (by kernel_rfl) (by kernel_rfl) rfl hS (fun _ hw => r_moveV (v := .pointer _) rfl) ?_; refine A_take (i := 7) rfl (by kernel_rfl) (by kernel_rfl) (by kernel_rfl) rfl hS (fun _ hw => r_nilCheck rfl) ?_; refine A_take (i := 8) rfl (by kernel_rfl) (by kernel_rfl) (by kernel_rfl) rfl hS (fun _ hw => r_fieldAddr rfl Tryd.fld113_2 rfl) ?_; refine A_take (i := 9) rfl (by kernel_rfl) (by kernel_rfl) (by kernel_rfl) rfl hS (fun _ hw => r_load (v := .int .i64 q.room) rfl Tryd.underlying3 rfl (Blk.cell (Blk.ext hbq hw.1) rfl)) ?_; refine A_take (i := 10) rfl (by kernel_rfl) (by kernel_rfl) (by kernel_rfl) rfl hS (fun _ hw => r_geq rfl rfl) ?_; refine A_take (i := 11) rfl (by kernel_rfl) (by kernel_rfl) (by kernel_rfl) rfl hS (fun _ hw => r_assignV (v := .bool _) rfl) ?_; refine A_done (by kernel_rfl) ?_; refine W_ifp rfl (fun ht46 => ?_) (fun ht46 => ?_)
              · refine W_seq ?_; refine W_region ?_; refine op rfl (r_assignV (v := .int _ _) rfl) ?_; refine WL_nil ?_; refine W_ret (blk_ret (finX_ret ?_)); refine fin1 ?_
                first
                  | exact ht10.elim
                  | (rw [sub2 (by omega)]; exact ⟨_, rfl, rfl, hun _ hX⟩)
                  | (rw [sub7 (by omega) (by omega)]; exact ⟨_, rfl, rfl, hun _ hX⟩)
                  | (rw [sub12 (by omega) (by omega) (by rw [← hsome]; exact ht44)]; exact ⟨_, rfl, rfl, hun _ hX⟩)
                  | (rw [sub8 (by omega) (by omega) (by rw [← hsome]; simp [ht44]) (by omega)]; exact ⟨_, rfl, rfl, hun _ hX⟩)
                  | (rw [sub0 (by omega) (by omega) (by rw [← hsome]; simp [ht44]) (by omega)]
                     have hs22 := hM21.size; have hM20 : Mv Z w w20 := (Mv.of_ext (hX'.trans hX20)).trans (Mv.of_chg C20 (hZ mt (Or.inr (Or.inr (Or.inl rfl))))); have hMe : Mv Z w w21 := (hM20.trans (Mv.of_ext hX)).trans ⟨hM21.os, hM21.tape, hM21.output, hM21.size, fun k hk hn => hM21.block k hk (fun q => hn (q.elim (fun q => hZ k (Or.inl q)) (fun q => hZ k (Or.inr (Or.inr (Or.inr (Or.inl q)))))))⟩
                     have hkM : ∀ b, b < wd21.heap.size → b ≠ pq → (Value.slice Aw q.ws.length cw).ownBlock ≠ some b → w21.heap[b]? = wd21.heap[b]? := fun b h1 h2 h3 => hM21.block b h1 (fun q => q.elim h2 h3)
                     have hoc : ∀ b, v21.ownBlock = some b → (Value.slice Aw q.ws.length cw).ownBlock = some b ∨ wd21.heap.size ≤ b := fun b hb => by
                       rcases hv21 with k | ⟨g, k, hg⟩
                       · exact Or.inl (k ▸ hb)
                       · rw [k] at hb; simp only [Option.some.injEq] at hb; exact Or.inr (by omega)
                     have hpqo : (Value.slice Aw q.ws.length cw).ownBlock ≠ some pm := fun k => (h.O1 pm k).2.1 rfl
                     have hmto : (Value.slice Aw q.ws.length cw).ownBlock ≠ some mt := fun k => (h.O1 mt k).2.2 rfl
                     have hQn : QueAt pq pm ph mt v21 (fun b => F b ∨ since w w0i b) Zh w21 { q with ws := q.ws ++ [r], tk := setK q.tk r.id none } := by
                       refine ⟨B21, (hbm.at (hkw pm hpml hmpm.symm)).at (hkM pm (by omega) h.ne.symm hpqo), ?_, hO21', ⟨_, (M20.ext hX).at (hkM mt (by omega) hmpq hmto), ?_⟩, h.ne, fun b hb => ?_, fun b hb => ?_, fun b hb => ?_, h.ro, by show ((q.ws ++ [r]).length : Int) ≤ q.room; simp; omega, fun x hx => ?_⟩
                       · exact hHis.keep (fun b hb => (hkM b (by have := (h.Z1 b hb).1; omega) (h.Z1 b hb).2.1 (h.Z1 b hb).2.2.2.2).trans (hkw b (h.Z1 b hb).1 (h.Z1 b hb).2.2.2.1))
                       · exact (hf.keep (w' := w21) (F' := fun b => F b ∨ since w w0i b) (fun b hb => (hkM b (by have := (h.F1 b hb).1; omega) (h.F1 b hb).2.1 (h.F1 b hb).2.2.2.2.1).trans (hkw b (h.F1 b hb).1 (h.F1 b hb).2.2.2.1)) (fun b hb => Or.inl hb)).put0 r.id
                       · have hb1 := (hF21 b hb).1; refine ⟨by omega, hFq21 b hb, ?_, ?_, fun k => ?_, fun k => ?_⟩
                         · rcases hb with k | k
                           · exact (h.F1 b k).2.2.1
                           · have := k.1; omega
                         · rcases hb with k | k
                           · exact (h.F1 b k).2.2.2.1
                           · have := k.1; omega
                         · rcases hoc b k with j | j
                           · exact (hF21 b hb).2 j
                           · omega
                         · rcases hb with j | j
                           · exact (h.F1 b j).2.2.2.2.2 k
                           · have := (h.Z1 b k).1; have := j.1; omega
                       · obtain ⟨z1, z2, z3, z4, z5⟩ := h.Z1 b hb
                         exact ⟨by omega, z2, z3, z4, fun k => by
                           rcases hoc b k with j | j
                           · exact z5 j
                           · omega⟩
                       · rcases hoc b hb with j | j
                         · exact h.O1 b j
                         · exact ⟨by omega, by omega, by omega⟩
                       · rcases List.mem_append.1 hx with k | k
                         · exact h.ok x k
                         · rw [List.mem_singleton.1 k]; exact hdl
                     refine ⟨_, rfl, rfl, ⟨pm, mt, v21, _, Zh, hQn, ?_⟩, hMe⟩; rintro b (k | k | k | k | k | k)
                     · exact Or.inl (hZ b (Or.inl k))
                     · exact Or.inl (hZ b (Or.inr (Or.inl k)))
                     · exact Or.inl (hZ b (Or.inr (Or.inr (Or.inl k))))
                     · rcases hoc b k with j | j
                       · exact Or.inl (hZ b (Or.inr (Or.inr (Or.inr (Or.inl j)))))
                       · exact Or.inr ⟨by omega, (hQn.lt b (Or.inr (Or.inr (Or.inr (Or.inl k)))))⟩
                     · rcases k with k | k
                       · exact Or.inl (hZ b (Or.inr (Or.inr (Or.inr (Or.inr (Or.inl k))))))
                       · exact Or.inr ⟨k.1, by have := k.2; omega⟩
                     · exact Or.inl (hZ b (Or.inr (Or.inr (Or.inr (Or.inr (Or.inr k)))))))
              · refine W_skip ?_; refine W_seq ?_; refine W_region ?_; refine op rfl (r_fieldAddr rfl Tryd.fld41_2 rfl) ?_; refine op rfl (r_load (v := .slice A r.l.length c) rfl Tryd.underlying39 rfl (Blk.cell B0_0 rfl)) ?_; have hb14 := Blk.lt B0_0; have hX14 := hX; refine opCv rfl (r_call Tryd.func46 Tryd.nm46 rfl) (hcl _ hX) ?_; rintro v14 w14 ⟨hE, hO⟩; replace B0_0 := Blk.ext B0_0 hE; replace hX := hX.trans hE; obtain ⟨A1, cap1, rfl, hc1, -⟩ := hO.read; obtain ⟨n14, hO14, hn14, hbn⟩ : ∃ n, Eng.Own (rawT 3) w14 nobody n 38 (.slice A1 rs.length cap1) rs ∧ w.heap.size ≤ n ∧ b0_0 < n := ⟨_, hO, hX14.size, hb14⟩; have hX14' := hX; refine op rfl (r_fieldAddr rfl Tryd.fld41_2 rfl) ?_; refine op_store (v := .slice _ _ _) rfl rfl rfl Tryd.sz39 B0_0 (Nat.le_of_ble_eq_true rfl) ?_; intro w14_4 C14_4 BB14_4; replace hX := hX.chg C14_4 hG0_0; replace B0_0 := BB14_4; refine WL_nil ?_; refine W_seq ?_; refine W_seq ?_; refine W_region ?_
                have hO15 : ∀ _ : Unit, Eng.Own (rawT 3) w14_4 nobody n14 38 (.slice A1 rs.length cap1) rs := fun _ => hO14.keep (fun _ q => q.elim) (fun _ q => q.elim) (fun g hg => C14_4.block g (hO14.lt hg).2 (fun q => by have := (hO14.lt hg).1; omega))
                refine op rfl (r_fieldAddr rfl Tryd.fld41_2 rfl) ?_; refine op rfl (r_load (v := .slice A1 rs.length cap1) rfl Tryd.underlying39 rfl (Blk.cell B0_0 rfl)) ?_; refine op rfl (r_len_slice rfl Tryd.underlying39) ?_; refine op rfl (r_moveV (v := .int _ _) rfl) ?_; refine WL_nil ?_; refine W_block ?_; refine W_loop [7, 8, 65, 66, 67, 68, 69, 70, 71, 72, 73, 74, 75, 76, 77, 78] (fun qq e' w' => ∃ (i : Nat) (ds : List (List Value)), qq = rs.length - i ∧ i ≤ rs.length ∧ e' 65 = .int .i64 i ∧ ds.length = i ∧ Al (dlT.R w' (newF w w' (.slice A1 rs.length cap1))) (r.l.take i) ds ∧ Eng.Own (rawT 3) w' nobody n14 38 (.slice A1 rs.length cap1) (ds ++ rs.drop i) ∧ Blk w' b0_0 #[.int .i64 r.id, .int .i64 r.base, .slice A1 rs.length cap1] 41 ∧ Ext w w') (rs.length) ?_ ?_
                · exact ⟨0, [], by omega, by omega, rfl, rfl, by simp [Al], by simpa using hO15 (), B0_0, hX⟩
                intro k g w' hI; obtain ⟨i, ds, hq, hi, h65, hdl', hda, hO', B0', hX'⟩ := hI; clear hX B0_0; obtain ⟨w0i, hw0i⟩ : ∃ x, x = w' := ⟨_, rfl⟩; subst hw0i; have hX := Ext.refl w0i; have B0_0 := B0'; refine W_set (i := 65) h65 ?_; refine W_seq ?_; refine W_region ?_; refine op rfl (r_lss rfl rfl) ?_; refine WL_nil ?_; refine W_seq ?_; refine W_ifp rfl (fun ht66 => ?_) (fun ht66 => ?_)
                · have hlt' : i < rs.length := by omega
                  have hcur : (ds ++ rs.drop i)[i]'(by simp; omega) = rs[i] := by
                    rw [List.getElem_append_right (by omega)]
                    simp [hdl']
                  have hRi := hal.get i (by omega) hlt'; obtain ⟨Ai, ci, hri, hik, hbc, hbl, hpl, hbrow⟩ := dl_cells hRi
                  have hset0 : ∀ u, (ds ++ rs.drop i).set i (rs[i].set 2 u) = (ds ++ [[.int .i64 r.l[i].k, .string (str r.l[i].p), u]]) ++ rs.drop (i + 1) := fun u => by
                    rw [List.drop_eq_getElem_cons hlt', List.set_append_right _ _ (by omega), hdl', Nat.sub_self, List.set_cons_zero, hri]
                    simp
                  obtain ⟨gb, cap2, hv2, hB2, _, hcell⟩ := Own.rawAt hO' (i := i) (by simp; omega)
                  rw [hcur, hri] at hcell
                  simp only [Value.slice.injEq] at hv2
                  obtain ⟨hA1, -, -⟩ := hv2; subst hA1; have hgl : gb < w0i.heap.size := (hO'.lt (g := gb) rfl).2; refine W_skip ?_; refine W_seq ?_; refine W_block ?_; refine W_seq ?_; refine W_region ?_; refine op rfl (r_moveV (v := .int _ _) rfl) ?_; refine op rfl (r_indexAddrK0 rfl rfl Tryd.underlying39 Tryd.sz38 hlt') ?_; refine op rfl (r_load_agg (cs := [.int .i64 r.l[i].k, .string (str r.l[i].p), .slice Ai r.l[i].b.length ci]) rfl Tryd.underlying38 rfl Tryd.sz38 rfl hcell) ?_; refine op_alloc rfl Tryd.zero38 ?_; intro w17_3 b17_3 E17_3 B17_3 L17_3
                  have hG17_3 : w0i.heap.size ≤ b17_3 := by have := hX.size; omega
                  have hNb0_0_17_3 : b0_0 ≠ b17_3 := by have := Blk.lt B0_0; omega
                  replace B0_0 := Blk.ext B0_0 E17_3; replace hX := hX.trans E17_3; refine op rfl (r_assignV (v := .int _ _) rfl) ?_; refine op_storeRow rfl rfl Tryd.sz38 B17_3 rfl rfl ?_; intro w17_5 C17_5 BB17_5; replace B0_0 := Chg.blk C17_5 B0_0 hNb0_0_17_3; replace hX := hX.chg C17_5 hG17_3; replace B17_3 := BB17_5; refine WL_nil ?_; refine W_drawA Tryd.wd rfl ?_; intro wd18 hD; have hS : anyW wd18 := trivial; replace B0_0 := Blk.ext B0_0 hD; replace B17_3 := Blk.ext B17_3 hD; replace hX := hX.trans hD; refine A_take (i := 0) rfl (by kernel_rfl) (by kernel_rfl) (by kernel_rfl) rfl hS (fun _ hw => r_fieldAddr rfl Tryd.fld41_2 rfl) ?_; refine A_take (i := 2) rfl (by kernel_rfl) (by kernel_rfl) (by kernel_rfl) rfl hS (fun _ hw => r_moveV (v := .int _ _) rfl) ?_; refine A_take (i := 3) rfl (by kernel_rfl) (by kernel_rfl) (by kernel_rfl) rfl hS (fun _ hw => r_fieldAddr rfl Tryd.fld38_2 rfl) ?_; refine A_ready2 (i := 1) (j := 4) (by kernel_rfl) ?_ ?_
                  · refine O_val rfl rfl (r_load (v := .slice (some ⟨gb, 0, none⟩) rs.length cap1) rfl Tryd.underlying39 rfl (Blk.cell B0_0 rfl)) (hS) ?_; refine A_ready1 (i := 4) (by kernel_rfl) ?_; refine O_val rfl rfl (r_load (v := .slice Ai r.l[i].b.length ci) rfl Tryd.underlying24 rfl (Blk.cell B17_3 rfl)) (hS) ?_; refine A_ready1 (i := 5) (by kernel_rfl) ?_; have hX4 := hX; refine O_call rfl rfl (r_call Tryd.func47 Tryd.nm47 rfl) (cloneB_spec Ai ci r.l[i].b _ (by omega) (fun b hb ↦ Nat.lt_of_lt_of_le (hG b hb) (hX'.trans hX).size) (hbrow.keep (fun b hb ↦ (hX'.trans hX).block b (hG b hb)) (fun _ h ↦ h))) ?_; rintro v5 w5 ⟨hE, hOb⟩; replace hS := trivial; refine ⟨hS, ?_⟩; replace B0_0 := Blk.ext B0_0 hE; replace B17_3 := Blk.ext B17_3 hE; replace hX := hX.trans hE; refine A_take (i := 6) rfl (by kernel_rfl) (by kernel_rfl) (by kernel_rfl) rfl hS (fun _ hw => r_indexAddrK0 rfl rfl Tryd.underlying39 Tryd.sz38 hlt') ?_; refine A_take (i := 7) rfl (by kernel_rfl) (by kernel_rfl) (by kernel_rfl) rfl hS (fun _ hw => r_fieldAddr rfl Tryd.fld38_2 rfl) ?_; refine A_ready1 (i := 8) (by kernel_rfl) ?_; obtain ⟨Ab, cb, hvb, hcb, hrb⟩ := hOb.read
                    have hv1 : v5.oneCell' = true := by rw [hvb]; rfl
                    have hO5 := own_fext hO' hX; obtain ⟨g3, cap3, c3, hv3, hB3, hb3, hlt3, hnew3⟩ := Own.setCell hO5 (i := i) (j := 2) (by simp; omega) (by omega) hv1
                    rw [hcur] at hnew3
                    simp only [Value.slice.injEq, Option.some.injEq, Addr.mk.injEq, and_true] at hv3
                    obtain ⟨hg3, -, -⟩ := hv3; subst hg3; refine O_store (v := v5) rfl rfl rfl hv1 Tryd.sz24 hb3 hlt3 ?_; intro w7 C7 B7; refine ⟨trivial, ?_⟩; have hO7 := hnew3 _ C7 B7; have hset := hset0 v5
                    rw [hset] at hO7
                    have hX7 : Ext w w7 := Chg.ext (hX'.trans hX) (by omega) C7; have B7b : Blk w7 b0_0 _ _ := Chg.blk C7 B0_0 (by omega); have hsz5 := hX.size; have hsz4 := hX4.size
                    have hnew : dlT.R w7 (newF w w7 (.slice (some ⟨gb, 0, none⟩) rs.length cap1)) r.l[i] [.int .i64 r.l[i].k, .string (str r.l[i].p), v5] := by
                      rw [hvb]; refine dl_mk hik hcb hbl hpl (hrb.keep ?_ ?_)
                      · rintro b (q | q)
                        · exact q.elim
                        · have := hOb.lt q; exact C7.block b this.2 (by omega)
                      · rintro b (q | q)
                        · exact q.elim
                        · have := hOb.lt q; have := C7.size; have := hX'.size; exact ⟨by omega, by omega, fun q => by simp only [Value.ownBlock, Option.some.injEq] at q; omega⟩
                    refine A_done (by kernel_rfl) ?_; refine W_region ?_; refine op rfl (r_add' (r := ((i + 1 : Nat) : Int)) rfl rfl (by rw [wrap_i64 (by omega) (by omega)]; omega)) ?_; refine op rfl (r_moveV (v := .int _ _) rfl) ?_; refine WL_nil ?_; refine ⟨?_, by repeat (first | with_reducible exact Out.refl _ _ | with_reducible exact Out.mix | refine Out.put rfl ?_ | refine Out.mixin rfl ?_ | exact Out.refl _ _ | exact Out.mix)⟩; refine ⟨rs.length - (i + 1), by omega, i + 1, ds ++ [[.int .i64 r.l[i].k, .string (str r.l[i].p), v5]], by omega, by omega, rfl, by simp [hdl'], ?_, hO7, B7b, hX7⟩; rw [List.take_succ_eq_append_getElem (by omega)]; exact (hda.imp (fun x y h => dlT.keep h (fun b hb => (C7.block b (Nat.lt_of_lt_of_le hb.2.1 hX.size) (fun q => hb.2.2 (by rw [q]; rfl))).trans (hX.block b hb.2.1)) (fun b hb => ⟨hb.1, Nat.lt_of_lt_of_le hb.2.1 (Nat.le_trans hX.size C7.size), hb.2.2⟩))).app ⟨hnew, trivial⟩
                  · refine O_val rfl rfl (r_load (v := .slice Ai r.l[i].b.length ci) rfl Tryd.underlying24 rfl (Blk.cell B17_3 rfl)) (hS) ?_; refine A_ready2 (i := 1) (j := 5) (by kernel_rfl) ?_ ?_
                    · refine O_val rfl rfl (r_load (v := .slice (some ⟨gb, 0, none⟩) rs.length cap1) rfl Tryd.underlying39 rfl (Blk.cell B0_0 rfl)) (hS) ?_; refine A_ready1 (i := 5) (by kernel_rfl) ?_; have hX4 := hX; refine O_call rfl rfl (r_call Tryd.func47 Tryd.nm47 rfl) (cloneB_spec Ai ci r.l[i].b _ (by omega) (fun b hb ↦ Nat.lt_of_lt_of_le (hG b hb) (hX'.trans hX).size) (hbrow.keep (fun b hb ↦ (hX'.trans hX).block b (hG b hb)) (fun _ h ↦ h))) ?_; rintro v5 w5 ⟨hE, hOb⟩; replace hS := trivial; refine ⟨hS, ?_⟩; replace B0_0 := Blk.ext B0_0 hE; replace B17_3 := Blk.ext B17_3 hE; replace hX := hX.trans hE; refine A_take (i := 6) rfl (by kernel_rfl) (by kernel_rfl) (by kernel_rfl) rfl hS (fun _ hw => r_indexAddrK0 rfl rfl Tryd.underlying39 Tryd.sz38 hlt') ?_; refine A_take (i := 7) rfl (by kernel_rfl) (by kernel_rfl) (by kernel_rfl) rfl hS (fun _ hw => r_fieldAddr rfl Tryd.fld38_2 rfl) ?_; refine A_ready1 (i := 8) (by kernel_rfl) ?_; obtain ⟨Ab, cb, hvb, hcb, hrb⟩ := hOb.read
                      have hv1 : v5.oneCell' = true := by rw [hvb]; rfl
                      have hO5 := own_fext hO' hX; obtain ⟨g3, cap3, c3, hv3, hB3, hb3, hlt3, hnew3⟩ := Own.setCell hO5 (i := i) (j := 2) (by simp; omega) (by omega) hv1
                      rw [hcur] at hnew3
                      simp only [Value.slice.injEq, Option.some.injEq, Addr.mk.injEq, and_true] at hv3
                      obtain ⟨hg3, -, -⟩ := hv3; subst hg3; refine O_store (v := v5) rfl rfl rfl hv1 Tryd.sz24 hb3 hlt3 ?_; intro w7 C7 B7; refine ⟨trivial, ?_⟩; have hO7 := hnew3 _ C7 B7; have hset := hset0 v5
                      rw [hset] at hO7
                      have hX7 : Ext w w7 := Chg.ext (hX'.trans hX) (by omega) C7; have B7b : Blk w7 b0_0 _ _ := Chg.blk C7 B0_0 (by omega); have hsz5 := hX.size; have hsz4 := hX4.size
                      have hnew : dlT.R w7 (newF w w7 (.slice (some ⟨gb, 0, none⟩) rs.length cap1)) r.l[i] [.int .i64 r.l[i].k, .string (str r.l[i].p), v5] := by
                        rw [hvb]; refine dl_mk hik hcb hbl hpl (hrb.keep ?_ ?_)
                        · rintro b (q | q)
                          · exact q.elim
                          · have := hOb.lt q; exact C7.block b this.2 (by omega)
                        · rintro b (q | q)
                          · exact q.elim
                          · have := hOb.lt q; have := C7.size; have := hX'.size; exact ⟨by omega, by omega, fun q => by simp only [Value.ownBlock, Option.some.injEq] at q; omega⟩
                      refine A_done (by kernel_rfl) ?_; refine W_region ?_; refine op rfl (r_add' (r := ((i + 1 : Nat) : Int)) rfl rfl (by rw [wrap_i64 (by omega) (by omega)]; omega)) ?_; refine op rfl (r_moveV (v := .int _ _) rfl) ?_; refine WL_nil ?_; refine ⟨?_, by repeat (first | with_reducible exact Out.refl _ _ | with_reducible exact Out.mix | refine Out.put rfl ?_ | refine Out.mixin rfl ?_ | exact Out.refl _ _ | exact Out.mix)⟩; refine ⟨rs.length - (i + 1), by omega, i + 1, ds ++ [[.int .i64 r.l[i].k, .string (str r.l[i].p), v5]], by omega, by omega, rfl, by simp [hdl'], ?_, hO7, B7b, hX7⟩; rw [List.take_succ_eq_append_getElem (by omega)]; exact (hda.imp (fun x y h => dlT.keep h (fun b hb => (C7.block b (Nat.lt_of_lt_of_le hb.2.1 hX.size) (fun q => hb.2.2 (by rw [q]; rfl))).trans (hX.block b hb.2.1)) (fun b hb => ⟨hb.1, Nat.lt_of_lt_of_le hb.2.1 (Nat.le_trans hX.size C7.size), hb.2.2⟩))).app ⟨hnew, trivial⟩
                    · have hX4 := hX; refine O_call rfl rfl (r_call Tryd.func47 Tryd.nm47 rfl) (cloneB_spec Ai ci r.l[i].b _ (by omega) (fun b hb ↦ Nat.lt_of_lt_of_le (hG b hb) (hX'.trans hX).size) (hbrow.keep (fun b hb ↦ (hX'.trans hX).block b (hG b hb)) (fun _ h ↦ h))) ?_; rintro v5 w5 ⟨hE, hOb⟩; replace hS := trivial; refine ⟨hS, ?_⟩; replace B0_0 := Blk.ext B0_0 hE; replace B17_3 := Blk.ext B17_3 hE; replace hX := hX.trans hE; refine A_ready1 (i := 1) (by kernel_rfl) ?_; refine O_val rfl rfl (r_load (v := .slice (some ⟨gb, 0, none⟩) rs.length cap1) rfl Tryd.underlying39 rfl (Blk.cell B0_0 rfl)) (hS) ?_; refine A_take (i := 6) rfl (by kernel_rfl) (by kernel_rfl) (by kernel_rfl) rfl hS (fun _ hw => r_indexAddrK0 rfl rfl Tryd.underlying39 Tryd.sz38 hlt') ?_; refine A_take (i := 7) rfl (by kernel_rfl) (by kernel_rfl) (by kernel_rfl) rfl hS (fun _ hw => r_fieldAddr rfl Tryd.fld38_2 rfl) ?_; refine A_ready1 (i := 8) (by kernel_rfl) ?_; obtain ⟨Ab, cb, hvb, hcb, hrb⟩ := hOb.read
                      have hv1 : v5.oneCell' = true := by rw [hvb]; rfl
                      have hO5 := own_fext hO' hX; obtain ⟨g3, cap3, c3, hv3, hB3, hb3, hlt3, hnew3⟩ := Own.setCell hO5 (i := i) (j := 2) (by simp; omega) (by omega) hv1
                      rw [hcur] at hnew3
                      simp only [Value.slice.injEq, Option.some.injEq, Addr.mk.injEq, and_true] at hv3
                      obtain ⟨hg3, -, -⟩ := hv3; subst hg3; refine O_store (v := v5) rfl rfl rfl hv1 Tryd.sz24 hb3 hlt3 ?_; intro w7 C7 B7; refine ⟨trivial, ?_⟩; have hO7 := hnew3 _ C7 B7; have hset := hset0 v5
                      rw [hset] at hO7
                      have hX7 : Ext w w7 := Chg.ext (hX'.trans hX) (by omega) C7; have B7b : Blk w7 b0_0 _ _ := Chg.blk C7 B0_0 (by omega); have hsz5 := hX.size; have hsz4 := hX4.size
                      have hnew : dlT.R w7 (newF w w7 (.slice (some ⟨gb, 0, none⟩) rs.length cap1)) r.l[i] [.int .i64 r.l[i].k, .string (str r.l[i].p), v5] := by
                        rw [hvb]; refine dl_mk hik hcb hbl hpl (hrb.keep ?_ ?_)
                        · rintro b (q | q)
                          · exact q.elim
                          · have := hOb.lt q; exact C7.block b this.2 (by omega)
                        · rintro b (q | q)
                          · exact q.elim
                          · have := hOb.lt q; have := C7.size; have := hX'.size; exact ⟨by omega, by omega, fun q => by simp only [Value.ownBlock, Option.some.injEq] at q; omega⟩
                      refine A_done (by kernel_rfl) ?_; refine W_region ?_; refine op rfl (r_add' (r := ((i + 1 : Nat) : Int)) rfl rfl (by rw [wrap_i64 (by omega) (by omega)]; omega)) ?_; refine op rfl (r_moveV (v := .int _ _) rfl) ?_; refine WL_nil ?_; refine ⟨?_, by repeat (first | with_reducible exact Out.refl _ _ | with_reducible exact Out.mix | refine Out.put rfl ?_ | refine Out.mixin rfl ?_ | exact Out.refl _ _ | exact Out.mix)⟩; refine ⟨rs.length - (i + 1), by omega, i + 1, ds ++ [[.int .i64 r.l[i].k, .string (str r.l[i].p), v5]], by omega, by omega, rfl, by simp [hdl'], ?_, hO7, B7b, hX7⟩; rw [List.take_succ_eq_append_getElem (by omega)]; exact (hda.imp (fun x y h => dlT.keep h (fun b hb => (C7.block b (Nat.lt_of_lt_of_le hb.2.1 hX.size) (fun q => hb.2.2 (by rw [q]; rfl))).trans (hX.block b hb.2.1)) (fun b hb => ⟨hb.1, Nat.lt_of_lt_of_le hb.2.1 (Nat.le_trans hX.size C7.size), hb.2.2⟩))).app ⟨hnew, trivial⟩
                · obtain rfl : i = rs.length := by omega
                  rw [show r.l.take rs.length = r.l from by rw [← hlen, List.take_length]] at hda
                  rw [List.drop_length, List.append_nil] at hO'
                  have hOd : Eng.Own dlT w0i (newF w w0i (.slice A1 rs.length cap1)) n14 38 (.slice A1 rs.length cap1) r.l := Own.of_raw hO' hda; obtain ⟨Ax, cx, hex, hcx, hrx⟩ := hOd.read
                  simp only [Value.slice.injEq] at hex
                  obtain ⟨rfl, hlx, rfl⟩ := hex
                  have hRr : rqT.R w0i (since w w0i) r [.int .i64 r.id, .int .i64 r.base, .slice A1 r.l.length cap1] := rq_mk hid hbase hcx (by omega) (hrx.keep (fun _ _ => rfl) (fun b hb => by
                    rcases hb with k | k
                    · exact ⟨k.1, k.2.1⟩
                    · have := hOd.lt k; exact ⟨by omega, this.2⟩))
                  have hmt : mt < w.heap.size := hm.lt; have hs0i := hX'.size; refine W_exit (blk_hit ?_); refine W_seq ?_; refine W_drawA Tryd.wd rfl ?_; intro wd20 hD; have hS : anyW wd20 := trivial; replace B0_0 := Blk.ext B0_0 hD; replace hX := hX.trans hD; refine A_take (i := 0) rfl (by kernel_rfl) (by kernel_rfl) (by kernel_rfl) rfl hS (fun _ hw => r_moveV (v := .pointer _) rfl) ?_; refine A_take (i := 1) rfl (by kernel_rfl) (by kernel_rfl) (by kernel_rfl) rfl hS (fun _ hw => r_nilCheck rfl) ?_; refine A_take (i := 2) rfl (by kernel_rfl) (by kernel_rfl) (by kernel_rfl) rfl hS (fun _ hw => r_fieldAddr rfl Tryd.fld113_3 rfl) ?_; refine A_take (i := 4) rfl (by kernel_rfl) (by kernel_rfl) (by kernel_rfl) rfl hS (fun _ hw => r_fieldAddr rfl Tryd.fld41_0 rfl) ?_; refine A_ready2 (i := 3) (j := 5) (by kernel_rfl) ?_ ?_
                  · refine O_val rfl rfl (r_load (v := .map (some mt)) rfl Tryd.underlying109 rfl (Blk.cell (Blk.ext hbq (hX'.trans hX)) rfl)) (hS) ?_; refine A_ready1 (i := 5) (by kernel_rfl) ?_; refine O_val rfl rfl (r_load (v := .int .i64 r.id) rfl Tryd.underlying3 rfl (Blk.cell B0_0 rfl)) (hS) ?_; refine A_ready1 (i := 6) (by kernel_rfl) ?_; refine O_updateK (k := .int .i64 r.id) (v := .pointer none) rfl (by rfl) (by rfl) (by rfl) Tryd.underlying109 Tryd.underlying3 (by trivial) (hm.ext (hX'.trans hX)) ?_; intro w20 C20 M20; refine ⟨trivial, ?_⟩; have hX20 := hX
                    have hb0w : w.heap.size ≤ b0_0 := by omega
                    have B20 : Blk w20 b0_0 _ _ := Chg.blk C20 B0_0 (by omega); clear hX B0_0; have hX := Ext.refl w20; have B0_0 := B20; have hs20 := hX20.size; have hs20' := C20.size; refine A_done (by kernel_rfl) ?_; refine W_seq ?_; refine W_drawA Tryd.wd rfl ?_; intro wd21 hD; have hS : anyW wd21 := trivial; replace B0_0 := Blk.ext B0_0 hD; replace hX := hX.trans hD; refine A_take (i := 0) rfl (by kernel_rfl) (by kernel_rfl) (by kernel_rfl) rfl hS (fun _ hw => r_moveV (v := .pointer _) rfl) ?_; refine A_take (i := 1) rfl (by kernel_rfl) (by kernel_rfl) (by kernel_rfl) rfl hS (fun _ hw => r_nilCheck rfl) ?_; refine A_take (i := 2) rfl (by kernel_rfl) (by kernel_rfl) (by kernel_rfl) rfl hS (fun _ hw => r_fieldAddr rfl Tryd.fld113_1 rfl) ?_; refine A_ready1 (i := 3) (by kernel_rfl) ?_; refine O_val rfl rfl (r_loadRow (c := #[.int .i64 r.id, .int .i64 r.base, .slice A1 rs.length cap1]) (by rfl) B0_0 Tryd.underlying41 rfl Tryd.sz41) (hS) ?_; refine A_ready1 (i := 4) (by kernel_rfl) ?_
                    have hk : ∀ b, b < w0i.heap.size → b ≠ mt → wd21.heap[b]? = w0i.heap[b]? := fun b h1 h2 => by
                      rw [hX.block b (by omega), C20.block b (by omega) h2, hX20.block b h1]
                    have hkw : ∀ b, b < w.heap.size → b ≠ mt → wd21.heap[b]? = w.heap[b]? := fun b h1 h2 => by
                      rw [hk b (by omega) h2, hX'.block b h1]
                    have hs21 := hX.size; have hmpq : mt ≠ pq := hm.ne_cells hbq; have hmpm : mt ≠ pm := hm.ne_cells hbm; have hpql := Blk.lt hbq; have hpml := Blk.lt hbm
                    have hbq21 : Blk wd21 pq #[.pointer (some ⟨pm, 0, none⟩), .slice Aw q.ws.length cw, .int .i64 q.room, .map (some mt)] 113 := hbq.at (hkw pq hpql hmpq.symm)
                    have hO21 : Eng.Own rqT wd21 (fun b => F b ∨ since w w0i b) 0 41 (.slice Aw q.ws.length cw) q.ws := h.own.keep (fun b hb => hkw b (h.F1 b hb).1 (h.F1 b hb).2.2.2.1) (fun b hb => Or.inl hb) (fun g hg => hkw g (h.own.lt hg).2 (h.O1 g hg).2.2)
                    have hF21 : ∀ b, (F b ∨ since w w0i b) → b < wd21.heap.size ∧ (Value.slice Aw q.ws.length cw).ownBlock ≠ some b := fun b hb => by
                      rcases hb with k | k
                      · exact ⟨by have := (h.F1 b k).1; omega, (h.F1 b k).2.2.2.2.1⟩
                      · exact ⟨by have := k.2; omega, fun j => by have := (h.own.lt j).2; have := k.1; omega⟩
                    have hFq21 : ∀ b, (F b ∨ since w w0i b) → b ≠ pq := fun b hb => hb.elim (fun k => (h.F1 b k).2.1) (fun k => by have := k.1; omega)
                    have hR21 : rqT.R wd21 (fun b => F b ∨ since w w0i b) r [.int .i64 r.id, .int .i64 r.base, .slice A1 r.l.length cap1] := rqT.keep hRr (fun b hb => hk b hb.2 (by have := hb.1; omega)) (fun b hb => Or.inr hb)
                    have hl100 : q.ws.length ≤ 100 := by have := hro.2; omega
                    rw [show rs.length = r.l.length from by omega]; refine O_call rfl rfl (r_call Tryd.func48 Tryd.nm48 rfl) (put_req_spec hbq21 hO21 hF21 hFq21 (fun k ↦ (h.O1 pq k).1 rfl) hR21 hl100) ?_; rintro u21 w21 ⟨v21, B21, hO21', hM21, hv21⟩; replace hS := trivial; refine ⟨hS, ?_⟩; refine A_done (by kernel_rfl) ?_; refine W_seq ?_; refine W_region ?_; refine op rfl (r_assignV (v := .int _ _) rfl) ?_; refine WL_nil ?_; refine W_ret (finX_ret ?_); refine fin1 ?_
                    first
                      | exact ht10.elim
                      | (rw [sub2 (by omega)]; exact ⟨_, rfl, rfl, hun _ hX⟩)
                      | (rw [sub7 (by omega) (by omega)]; exact ⟨_, rfl, rfl, hun _ hX⟩)
                      | (rw [sub12 (by omega) (by omega) (by rw [← hsome]; exact ht44)]; exact ⟨_, rfl, rfl, hun _ hX⟩)
                      | (rw [sub8 (by omega) (by omega) (by rw [← hsome]; simp [ht44]) (by omega)]; exact ⟨_, rfl, rfl, hun _ hX⟩)
                      | (rw [sub0 (by omega) (by omega) (by rw [← hsome]; simp [ht44]) (by omega)]
                         have hs22 := hM21.size; have hM20 : Mv Z w w20 := (Mv.of_ext (hX'.trans hX20)).trans (Mv.of_chg C20 (hZ mt (Or.inr (Or.inr (Or.inl rfl))))); have hMe : Mv Z w w21 := (hM20.trans (Mv.of_ext hX)).trans ⟨hM21.os, hM21.tape, hM21.output, hM21.size, fun k hk hn => hM21.block k hk (fun q => hn (q.elim (fun q => hZ k (Or.inl q)) (fun q => hZ k (Or.inr (Or.inr (Or.inr (Or.inl q)))))))⟩
                         have hkM : ∀ b, b < wd21.heap.size → b ≠ pq → (Value.slice Aw q.ws.length cw).ownBlock ≠ some b → w21.heap[b]? = wd21.heap[b]? := fun b h1 h2 h3 => hM21.block b h1 (fun q => q.elim h2 h3)
                         have hoc : ∀ b, v21.ownBlock = some b → (Value.slice Aw q.ws.length cw).ownBlock = some b ∨ wd21.heap.size ≤ b := fun b hb => by
                           rcases hv21 with k | ⟨g, k, hg⟩
                           · exact Or.inl (k ▸ hb)
                           · rw [k] at hb; simp only [Option.some.injEq] at hb; exact Or.inr (by omega)
                         have hpqo : (Value.slice Aw q.ws.length cw).ownBlock ≠ some pm := fun k => (h.O1 pm k).2.1 rfl
                         have hmto : (Value.slice Aw q.ws.length cw).ownBlock ≠ some mt := fun k => (h.O1 mt k).2.2 rfl
                         have hQn : QueAt pq pm ph mt v21 (fun b => F b ∨ since w w0i b) Zh w21 { q with ws := q.ws ++ [r], tk := setK q.tk r.id none } := by
                           refine ⟨B21, (hbm.at (hkw pm hpml hmpm.symm)).at (hkM pm (by omega) h.ne.symm hpqo), ?_, hO21', ⟨_, (M20.ext hX).at (hkM mt (by omega) hmpq hmto), ?_⟩, h.ne, fun b hb => ?_, fun b hb => ?_, fun b hb => ?_, h.ro, by show ((q.ws ++ [r]).length : Int) ≤ q.room; simp; omega, fun x hx => ?_⟩
                           · exact hHis.keep (fun b hb => (hkM b (by have := (h.Z1 b hb).1; omega) (h.Z1 b hb).2.1 (h.Z1 b hb).2.2.2.2).trans (hkw b (h.Z1 b hb).1 (h.Z1 b hb).2.2.2.1))
                           · exact (hf.keep (w' := w21) (F' := fun b => F b ∨ since w w0i b) (fun b hb => (hkM b (by have := (h.F1 b hb).1; omega) (h.F1 b hb).2.1 (h.F1 b hb).2.2.2.2.1).trans (hkw b (h.F1 b hb).1 (h.F1 b hb).2.2.2.1)) (fun b hb => Or.inl hb)).put0 r.id
                           · have hb1 := (hF21 b hb).1; refine ⟨by omega, hFq21 b hb, ?_, ?_, fun k => ?_, fun k => ?_⟩
                             · rcases hb with k | k
                               · exact (h.F1 b k).2.2.1
                               · have := k.1; omega
                             · rcases hb with k | k
                               · exact (h.F1 b k).2.2.2.1
                               · have := k.1; omega
                             · rcases hoc b k with j | j
                               · exact (hF21 b hb).2 j
                               · omega
                             · rcases hb with j | j
                               · exact (h.F1 b j).2.2.2.2.2 k
                               · have := (h.Z1 b k).1; have := j.1; omega
                           · obtain ⟨z1, z2, z3, z4, z5⟩ := h.Z1 b hb
                             exact ⟨by omega, z2, z3, z4, fun k => by
                               rcases hoc b k with j | j
                               · exact z5 j
                               · omega⟩
                           · rcases hoc b hb with j | j
                             · exact h.O1 b j
                             · exact ⟨by omega, by omega, by omega⟩
                           · rcases List.mem_append.1 hx with k | k
                             · exact h.ok x k
                             · rw [List.mem_singleton.1 k]; exact hdl
                         refine ⟨_, rfl, rfl, ⟨pm, mt, v21, _, Zh, hQn, ?_⟩, hMe⟩; rintro b (k | k | k | k | k | k)
                         · exact Or.inl (hZ b (Or.inl k))
                         · exact Or.inl (hZ b (Or.inr (Or.inl k)))
                         · exact Or.inl (hZ b (Or.inr (Or.inr (Or.inl k))))
                         · rcases hoc b k with j | j
                           · exact Or.inl (hZ b (Or.inr (Or.inr (Or.inr (Or.inl j)))))
                           · exact Or.inr ⟨by omega, (hQn.lt b (Or.inr (Or.inr (Or.inr (Or.inl k)))))⟩
                         · rcases k with k | k
                           · exact Or.inl (hZ b (Or.inr (Or.inr (Or.inr (Or.inr (Or.inl k))))))
                           · exact Or.inr ⟨k.1, by have := k.2; omega⟩
                         · exact Or.inl (hZ b (Or.inr (Or.inr (Or.inr (Or.inr (Or.inr k)))))))
                  · refine O_val rfl rfl (r_load (v := .int .i64 r.id) rfl Tryd.underlying3 rfl (Blk.cell B0_0 rfl)) (hS) ?_; refine A_ready1 (i := 3) (by kernel_rfl) ?_; refine O_val rfl rfl (r_load (v := .map (some mt)) rfl Tryd.underlying109 rfl (Blk.cell (Blk.ext hbq (hX'.trans hX)) rfl)) (hS) ?_; refine A_ready1 (i := 6) (by kernel_rfl) ?_; refine O_updateK (k := .int .i64 r.id) (v := .pointer none) rfl (by rfl) (by rfl) (by rfl) Tryd.underlying109 Tryd.underlying3 (by trivial) (hm.ext (hX'.trans hX)) ?_; intro w20 C20 M20; refine ⟨trivial, ?_⟩; have hX20 := hX
                    have hb0w : w.heap.size ≤ b0_0 := by omega
                    have B20 : Blk w20 b0_0 _ _ := Chg.blk C20 B0_0 (by omega); clear hX B0_0; have hX := Ext.refl w20; have B0_0 := B20; have hs20 := hX20.size; have hs20' := C20.size; refine A_done (by kernel_rfl) ?_; refine W_seq ?_; refine W_drawA Tryd.wd rfl ?_; intro wd21 hD; have hS : anyW wd21 := trivial; replace B0_0 := Blk.ext B0_0 hD; replace hX := hX.trans hD; refine A_take (i := 0) rfl (by kernel_rfl) (by kernel_rfl) (by kernel_rfl) rfl hS (fun _ hw => r_moveV (v := .pointer _) rfl) ?_; refine A_take (i := 1) rfl (by kernel_rfl) (by kernel_rfl) (by kernel_rfl) rfl hS (fun _ hw => r_nilCheck rfl) ?_; refine A_take (i := 2) rfl (by kernel_rfl) (by kernel_rfl) (by kernel_rfl) rfl hS (fun _ hw => r_fieldAddr rfl Tryd.fld113_1 rfl) ?_; refine A_ready1 (i := 3) (by kernel_rfl) ?_; refine O_val rfl rfl (r_loadRow (c := #[.int .i64 r.id, .int .i64 r.base, .slice A1 rs.length cap1]) (by rfl) B0_0 Tryd.underlying41 rfl Tryd.sz41) (hS) ?_; refine A_ready1 (i := 4) (by kernel_rfl) ?_
                    have hk : ∀ b, b < w0i.heap.size → b ≠ mt → wd21.heap[b]? = w0i.heap[b]? := fun b h1 h2 => by
                      rw [hX.block b (by omega), C20.block b (by omega) h2, hX20.block b h1]
                    have hkw : ∀ b, b < w.heap.size → b ≠ mt → wd21.heap[b]? = w.heap[b]? := fun b h1 h2 => by
                      rw [hk b (by omega) h2, hX'.block b h1]
                    have hs21 := hX.size; have hmpq : mt ≠ pq := hm.ne_cells hbq; have hmpm : mt ≠ pm := hm.ne_cells hbm; have hpql := Blk.lt hbq; have hpml := Blk.lt hbm
                    have hbq21 : Blk wd21 pq #[.pointer (some ⟨pm, 0, none⟩), .slice Aw q.ws.length cw, .int .i64 q.room, .map (some mt)] 113 := hbq.at (hkw pq hpql hmpq.symm)
                    have hO21 : Eng.Own rqT wd21 (fun b => F b ∨ since w w0i b) 0 41 (.slice Aw q.ws.length cw) q.ws := h.own.keep (fun b hb => hkw b (h.F1 b hb).1 (h.F1 b hb).2.2.2.1) (fun b hb => Or.inl hb) (fun g hg => hkw g (h.own.lt hg).2 (h.O1 g hg).2.2)
                    have hF21 : ∀ b, (F b ∨ since w w0i b) → b < wd21.heap.size ∧ (Value.slice Aw q.ws.length cw).ownBlock ≠ some b := fun b hb => by
                      rcases hb with k | k
                      · exact ⟨by have := (h.F1 b k).1; omega, (h.F1 b k).2.2.2.2.1⟩
                      · exact ⟨by have := k.2; omega, fun j => by have := (h.own.lt j).2; have := k.1; omega⟩
                    have hFq21 : ∀ b, (F b ∨ since w w0i b) → b ≠ pq := fun b hb => hb.elim (fun k => (h.F1 b k).2.1) (fun k => by have := k.1; omega)
                    have hR21 : rqT.R wd21 (fun b => F b ∨ since w w0i b) r [.int .i64 r.id, .int .i64 r.base, .slice A1 r.l.length cap1] := rqT.keep hRr (fun b hb => hk b hb.2 (by have := hb.1; omega)) (fun b hb => Or.inr hb)
                    have hl100 : q.ws.length ≤ 100 := by have := hro.2; omega
                    rw [show rs.length = r.l.length from by omega]; refine O_call rfl rfl (r_call Tryd.func48 Tryd.nm48 rfl) (put_req_spec hbq21 hO21 hF21 hFq21 (fun k ↦ (h.O1 pq k).1 rfl) hR21 hl100) ?_; rintro u21 w21 ⟨v21, B21, hO21', hM21, hv21⟩; replace hS := trivial; refine ⟨hS, ?_⟩; refine A_done (by kernel_rfl) ?_; refine W_seq ?_; refine W_region ?_; refine op rfl (r_assignV (v := .int _ _) rfl) ?_; refine WL_nil ?_; refine W_ret (finX_ret ?_); refine fin1 ?_
                    first
                      | exact ht10.elim
                      | (rw [sub2 (by omega)]; exact ⟨_, rfl, rfl, hun _ hX⟩)
                      | (rw [sub7 (by omega) (by omega)]; exact ⟨_, rfl, rfl, hun _ hX⟩)
                      | (rw [sub12 (by omega) (by omega) (by rw [← hsome]; exact ht44)]; exact ⟨_, rfl, rfl, hun _ hX⟩)
                      | (rw [sub8 (by omega) (by omega) (by rw [← hsome]; simp [ht44]) (by omega)]; exact ⟨_, rfl, rfl, hun _ hX⟩)
                      | (rw [sub0 (by omega) (by omega) (by rw [← hsome]; simp [ht44]) (by omega)]
                         have hs22 := hM21.size; have hM20 : Mv Z w w20 := (Mv.of_ext (hX'.trans hX20)).trans (Mv.of_chg C20 (hZ mt (Or.inr (Or.inr (Or.inl rfl))))); have hMe : Mv Z w w21 := (hM20.trans (Mv.of_ext hX)).trans ⟨hM21.os, hM21.tape, hM21.output, hM21.size, fun k hk hn => hM21.block k hk (fun q => hn (q.elim (fun q => hZ k (Or.inl q)) (fun q => hZ k (Or.inr (Or.inr (Or.inr (Or.inl q)))))))⟩
                         have hkM : ∀ b, b < wd21.heap.size → b ≠ pq → (Value.slice Aw q.ws.length cw).ownBlock ≠ some b → w21.heap[b]? = wd21.heap[b]? := fun b h1 h2 h3 => hM21.block b h1 (fun q => q.elim h2 h3)
                         have hoc : ∀ b, v21.ownBlock = some b → (Value.slice Aw q.ws.length cw).ownBlock = some b ∨ wd21.heap.size ≤ b := fun b hb => by
                           rcases hv21 with k | ⟨g, k, hg⟩
                           · exact Or.inl (k ▸ hb)
                           · rw [k] at hb; simp only [Option.some.injEq] at hb; exact Or.inr (by omega)
                         have hpqo : (Value.slice Aw q.ws.length cw).ownBlock ≠ some pm := fun k => (h.O1 pm k).2.1 rfl
                         have hmto : (Value.slice Aw q.ws.length cw).ownBlock ≠ some mt := fun k => (h.O1 mt k).2.2 rfl
                         have hQn : QueAt pq pm ph mt v21 (fun b => F b ∨ since w w0i b) Zh w21 { q with ws := q.ws ++ [r], tk := setK q.tk r.id none } := by
                           refine ⟨B21, (hbm.at (hkw pm hpml hmpm.symm)).at (hkM pm (by omega) h.ne.symm hpqo), ?_, hO21', ⟨_, (M20.ext hX).at (hkM mt (by omega) hmpq hmto), ?_⟩, h.ne, fun b hb => ?_, fun b hb => ?_, fun b hb => ?_, h.ro, by show ((q.ws ++ [r]).length : Int) ≤ q.room; simp; omega, fun x hx => ?_⟩
                           · exact hHis.keep (fun b hb => (hkM b (by have := (h.Z1 b hb).1; omega) (h.Z1 b hb).2.1 (h.Z1 b hb).2.2.2.2).trans (hkw b (h.Z1 b hb).1 (h.Z1 b hb).2.2.2.1))
                           · exact (hf.keep (w' := w21) (F' := fun b => F b ∨ since w w0i b) (fun b hb => (hkM b (by have := (h.F1 b hb).1; omega) (h.F1 b hb).2.1 (h.F1 b hb).2.2.2.2.1).trans (hkw b (h.F1 b hb).1 (h.F1 b hb).2.2.2.1)) (fun b hb => Or.inl hb)).put0 r.id
                           · have hb1 := (hF21 b hb).1; refine ⟨by omega, hFq21 b hb, ?_, ?_, fun k => ?_, fun k => ?_⟩
                             · rcases hb with k | k
                               · exact (h.F1 b k).2.2.1
                               · have := k.1; omega
                             · rcases hb with k | k
                               · exact (h.F1 b k).2.2.2.1
                               · have := k.1; omega
                             · rcases hoc b k with j | j
                               · exact (hF21 b hb).2 j
                               · omega
                             · rcases hb with j | j
                               · exact (h.F1 b j).2.2.2.2.2 k
                               · have := (h.Z1 b k).1; have := j.1; omega
                           · obtain ⟨z1, z2, z3, z4, z5⟩ := h.Z1 b hb
                             exact ⟨by omega, z2, z3, z4, fun k => by
                               rcases hoc b k with j | j
                               · exact z5 j
                               · omega⟩
                           · rcases hoc b hb with j | j
                             · exact h.O1 b j
                             · exact ⟨by omega, by omega, by omega⟩
                           · rcases List.mem_append.1 hx with k | k
                             · exact h.ok x k
                             · rw [List.mem_singleton.1 k]; exact hdl
                         refine ⟨_, rfl, rfl, ⟨pm, mt, v21, _, Zh, hQn, ?_⟩, hMe⟩; rintro b (k | k | k | k | k | k)
                         · exact Or.inl (hZ b (Or.inl k))
                         · exact Or.inl (hZ b (Or.inr (Or.inl k)))
                         · exact Or.inl (hZ b (Or.inr (Or.inr (Or.inl k))))
                         · rcases hoc b k with j | j
                           · exact Or.inl (hZ b (Or.inr (Or.inr (Or.inr (Or.inl j)))))
                           · exact Or.inr ⟨by omega, (hQn.lt b (Or.inr (Or.inr (Or.inr (Or.inl k)))))⟩
                         · rcases k with k | k
                           · exact Or.inl (hZ b (Or.inr (Or.inr (Or.inr (Or.inr (Or.inl k))))))
                           · exact Or.inr ⟨k.1, by have := k.2; omega⟩
                         · exact Or.inl (hZ b (Or.inr (Or.inr (Or.inr (Or.inr (Or.inr k)))))))
end Go.Proofs.YtmedmajdoecjfaaDoor
