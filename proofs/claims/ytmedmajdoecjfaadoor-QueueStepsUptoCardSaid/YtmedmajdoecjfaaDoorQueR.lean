/-
  The walks of the references: queues.
-/
import Derived.Test.YtmedmajdoecjfaaDoorFacts
import Derived.Test.YtmedmajdoecjfaaDoorQueE
import Derived.Test.YtmedmajdoecjfaaDoorRef3L
import Derived.Test.YtmedmajdoecjfaaDoorGenB
namespace Go.Proofs.YtmedmajdoecjfaaDoor
open Go Go.Eng Go.RowKit Go.Proofs
set_option linter.unusedVariables false
set_option linter.unusedSimpArgs false
set_option maxHeartbeats 1000000
set_option maxRecDepth 20000

theorem fin_cells {P : Program} {p q : Tmp} {ty tz t t' : TypeId} {R : Ending → World → Prop} {e : Env} {w : World} {g g' : Nat} {c c' : Array Value} {fr fr' : Nat × Nat} {td td' : TypeDesc}
    (hp : e p = .pointer (some ⟨g, 0, none⟩)) (hb : w.heap[g]? = some (.cells c t fr)) (hu : P.underlying ty = some td) (h1 : oneCellT td = false) (hs : (P.info? ty).map (·.size) = some c.size)
    (hp' : e q = .pointer (some ⟨g', 0, none⟩)) (hb' : w.heap[g']? = some (.cells c' t' fr')) (hu' : P.underlying tz = some td') (h1' : oneCellT td' = false) (hs' : (P.info? tz).map (·.size) = some c'.size)
    (h : R (.returned (.tuple #[.agg c, .agg c'])) w) (hm : e slotM = undef := by rfl) (k1 : Nat.beq p slotM = false := by rfl) (k2 : Nat.beq q slotM = false := by rfl) : fin P #[.cell p ty, .cell q tz] R e w := by
  refine fin_plain hm ?_; intro tmps ht; refine ⟨.tuple #[.agg c, .agg c'], ?_, h⟩; have h1'' := ht p (by rw [beq_eq] at k1; simpa using k1); have h2'' := ht q (by rw [beq_eq] at k2; simpa using k2)
  simp at h1'' h2''
  have r1 := run_loadVar_row (P := P) w g t ty c fr td hb hu (by cases td <;> simp_all [oneCellT]) hs; have r2 := run_loadVar_row (P := P) w g' t' tz c' fr' td' hb' hu' (by cases td' <;> simp_all [oneCellT]) hs'
  simp [h1'', h2'', hp, hp', asAddr, r1, r2]
theorem fin_cells1 {P : Program} {p q u : Tmp} {ty tz t t' : TypeId} {R : Ending → World → Prop} {e : Env} {w : World} {g g' : Nat} {c c' : Array Value} {fr fr' : Nat × Nat} {td td' : TypeDesc}
    (hp : e p = .pointer (some ⟨g, 0, none⟩)) (hb : w.heap[g]? = some (.cells c t fr)) (hu : P.underlying ty = some td) (h1 : oneCellT td = false) (hs : (P.info? ty).map (·.size) = some c.size)
    (hp' : e q = .pointer (some ⟨g', 0, none⟩)) (hb' : w.heap[g']? = some (.cells c' t' fr')) (hu' : P.underlying tz = some td') (h1' : oneCellT td' = false) (hs' : (P.info? tz).map (·.size) = some c'.size)
    (h : R (.returned (.tuple #[.agg c, .agg c', e u])) w) (hm : e slotM = undef := by rfl) (k1 : Nat.beq p slotM = false := by rfl) (k2 : Nat.beq q slotM = false := by rfl) (k3 : Nat.beq u slotM = false := by rfl) : fin P #[.cell p ty, .cell q tz, .tmp u] R e w := by
  refine fin_plain hm ?_; intro tmps ht; refine ⟨.tuple #[.agg c, .agg c', e u], ?_, h⟩; have h1'' := ht p (by rw [beq_eq] at k1; simpa using k1); have h2'' := ht q (by rw [beq_eq] at k2; simpa using k2); have h3'' := ht u (by rw [beq_eq] at k3; simpa using k3)
  simp at h1'' h2'' h3''
  have r1 := run_loadVar_row (P := P) w g t ty c fr td hb hu (by cases td <;> simp_all [oneCellT]) hs; have r2 := run_loadVar_row (P := P) w g' t' tz c' fr' td' hb' hu' (by cases td' <;> simp_all [oneCellT]) hs'
  simp [h1'', h2'', h3'', hp, hp', asAddr, r1, r2]
theorem own_base {α : Type} {T : Ty α} {w : World} {F : Nat → Prop} {B B' : Nat} {e : TypeId} {v : Value} {l : List α} (h : Eng.Own T w F B e v l) (hB : B' ≤ B) : Eng.Own T w F B' e v l := by
  rcases h with h | ⟨g, cap, c, xs, rfl, h1, h2⟩
  · exact Or.inl h
  · exact Or.inr ⟨g, cap, c, xs, rfl, by omega, h2⟩
def anT : Ty An where
  sz := 4
  R := fun _ _ a cs => cs = a.vals
  len := by rintro _ _ _ _ rfl; rfl
  one := by
    rintro _ _ a _ rfl u hu
    simp only [An.vals, List.mem_cons, List.not_mem_nil, or_false] at hu
    rcases hu with rfl | rfl | rfl | rfl <;> rfl
  keep := fun h _ _ => h
abbrev rqS : Ty Rq := ((Ty.int .i64).pair ((Ty.int .i64).pair (dlT.sliceW 48))).iso fun r : Rq => (r.id, r.base, r.l)
theorem rqs_cells {w : World} {F : Nat → Prop} {r : Rq} {cs : List Value} (h : rqS.R w F r cs) : ∃ A c, cs = [.int .i64 r.id, .int .i64 r.base, .slice A r.l.length c] ∧ inK .i64 r.id ∧ inK .i64 r.base ∧ r.l.length ≤ c ∧ r.l.length * 48 ≤ 140737488355328 ∧ dlT.Row w F A r.l := by
  obtain ⟨c1, c2, rfl, ⟨rfl, h1⟩, c3, c4, rfl, ⟨rfl, h2⟩, ⟨A, c, rfl, h4, h5, h6⟩, h7⟩ := h; exact ⟨A, c, rfl, h1, h2, h4, h7, h6⟩
theorem rqs_mk {w : World} {F : Nat → Prop} {r : Rq} {A : Option Addr} {c : Nat} (h1 : inK .i64 r.id) (h2 : inK .i64 r.base) (h3 : r.l.length ≤ c) (h4 : r.l.length * 48 ≤ 140737488355328) (h5 : dlT.Row w F A r.l) : rqS.R w F r [.int .i64 r.id, .int .i64 r.base, .slice A r.l.length c] :=
  ⟨_, _, rfl, ⟨rfl, h1⟩, _, _, rfl, ⟨rfl, h2⟩, ⟨A, c, rfl, h3, by show r.l.length ≤ 140737488355328; omega, h5⟩, h4⟩
structure Rt where
  H : List Rv
  ws : List Rq
  room : Int
  ids : List Int
  an : List An
abbrev rt6 (AT : Option Addr) (cT : Nat) (AM : Option Addr) (cM : Nat) (AW : Option Addr) (cW : Nat) (AI : Option Addr) (cI : Nat) (AA : Option Addr) (cA : Nat) (r : Rt) : List Value :=
  [.slice AT r.H.length cT, .slice AM r.H.length cM, .slice AW r.ws.length cW, .int .i64 r.room, .slice AI r.ids.length cI, .slice AA r.an.length cA]
def RefQ (G : Nat → Prop) (w : World) (v : Value) (r : Rt) : Prop := ∃ AT cT AM cM AW cW AI cI AA cA, v = .agg (rt6 AT cT AM cM AW cW AI cI AA cA r).toArray ∧ RefH G w (.agg #[.slice AT r.H.length cT, .slice AM r.H.length cM]) r.H ∧ r.ws.length ≤ cW ∧ rqS.Row w G AW r.ws ∧ (Ty.int .i64).Row w G AI r.ids ∧ anT.Row w G AA r.an
theorem RefQ.keep {G G' : Nat → Prop} {w w' : World} {v : Value} {r : Rt} (h : RefQ G w v r) (hs : Same G w w') (hG : ∀ b, G b → G' b) : RefQ G' w' v r := by
  obtain ⟨AT, cT, AM, cM, AW, cW, AI, cI, AA, cA, h1, h2, h3, h4, h5, h6⟩ := h; exact ⟨AT, cT, AM, cM, AW, cW, AI, cI, AA, cA, h1, h2.keep hs hG, h3, h4.keep hs hG, h5.keep hs hG, h6.keep hs hG⟩
structure RtOk (r : Rt) : Prop where
  h1 : 1 ≤ r.H.length
  h2 : r.H.length ≤ 100001
  ws : r.ws.length ≤ 1000
  ids : r.ids.length ≤ 1000
  an : r.an.length ≤ 1000
theorem blk2 {w : World} {b : Nat} {x0 x1 x2 x3 x4 x5 : Value} {t : TypeId} (B : Blk w b #[x0, x1, x2, x3, x4, x5] t) : ∀ j, j < 2 → w.cell? ⟨b, 0 + j, none⟩ = [x0, x1][j]? := fun j hj => by
  rcases j with _ | _ | j
  · exact Blk.cell B rfl
  · exact Blk.cell B rfl
  · omega
theorem rq_at {A : Option Addr} {l : List Rq} {w : World} {G : Nat → Prop} (hrow : rqS.Row w G A l) : ∀ i (h : i < l.length), ∃ g off Ai ci, A = some ⟨g, off, none⟩ ∧ inK .i64 l[i].id ∧ inK .i64 l[i].base ∧ l[i].l.length ≤ ci ∧ l[i].l.length * 48 ≤ 140737488355328 ∧ dlT.Row w G Ai l[i].l ∧ ∀ j, j < 3 → w.cell? ⟨g, off + i * 3 + j, none⟩ = [Value.int .i64 l[i].id, .int .i64 l[i].base, .slice Ai l[i].l.length ci][j]? := fun i h => by
  obtain ⟨g, off, xs, hA, _, hx, hc⟩ := hrow.cells h; obtain ⟨Ai, ci, rfl, h1, h2, h3, h4, h5⟩ := rqs_cells hx; exact ⟨g, off, Ai, ci, hA, h1, h2, h3, h4, h5, hc⟩
theorem an_at {A : Option Addr} {l : List An} {w : World} {G : Nat → Prop} (hrow : anT.Row w G A l) : ∀ i (h : i < l.length), ∃ g off, A = some ⟨g, off, none⟩ ∧ ∀ j, j < 4 → w.cell? ⟨g, off + i * 4 + j, none⟩ = l[i].vals[j]? := fun i h => by
  obtain ⟨g, off, xs, hA, _, hx, hc⟩ := hrow.cells h; have hx' : xs = l[i].vals := hx; subst hx'; exact ⟨g, off, hA, hc⟩
theorem refQNew_spec {G : Nat → Prop} {w : World} {v : Value} {H : List Rv} (hR : RefH G w v H) (hG : ∀ b, G b → b < w.heap.size) (room : Int) :
    Calls Tryd.prog 34 #[v, .int .i64 room] w (fun en w' => ∃ u, en = .returned u ∧ RefQ G w' u ⟨H, [], max 1 (min room 100), [], []⟩ ∧ Ext w w') := by
  have hR0 := hR; obtain ⟨AT, cT, AM, cM, rfl, hcT, hcM, hT, hM⟩ := hR; refine calls' (n := 10) (rs := #[.cell 4 85]) (l := [.agg #[.slice AT H.length cT, .slice AM H.length cM], .int .i64 room]) Tryd.func34 rfl rfl rfl rfl rfl ?_; have hX := Ext.refl w; refine W_seq ?_; refine W_region ?_; refine op_box (v := .agg _) rfl rfl ?_; intro w0_0 b0_0 E0_0 B0_0 L0_0
  have hG0_0 : w.heap.size ≤ b0_0 := by have := hX.size; omega
  replace hX := hX.trans E0_0; refine op_alloc rfl Tryd.zero85 ?_; intro w0_1 b0_1 E0_1 B0_1 L0_1
  have hG0_1 : w.heap.size ≤ b0_1 := by have := hX.size; omega
  have hNb0_0_0_1 : b0_0 ≠ b0_1 := by have := Blk.lt B0_0; omega
  replace B0_0 := Blk.ext B0_0 E0_1; replace hX := hX.trans E0_1; refine WL_nil ?_; refine W_seq ?_; refine W_region ?_; refine op rfl (r_loadRow rfl B0_0 Tryd.underlying79 rfl Tryd.sz79) ?_; refine op rfl (r_moveV (v := .int _ _) rfl) ?_; refine op rfl (r_min2 rfl rfl) ?_; refine op rfl (r_max2 rfl rfl) ?_; refine op rfl (r_buildN (cs := rt6 AT cT AM cM none 0 none 0 none 0 ⟨H, [], max 1 (min room 100), [], []⟩) Tryd.layn85 rfl) ?_; refine op_storeRow rfl rfl Tryd.sz85 B0_1 rfl rfl ?_; intro w1_5 C1_5 BB1_5; replace B0_0 := Chg.blk C1_5 B0_0 hNb0_0_0_1; replace hX := hX.chg C1_5 hG0_1; replace B0_1 := BB1_5; refine WL_nil ?_; refine W_ret (finX_ret ?_); refine fin_cell rfl B0_1 Tryd.underlying85 rfl Tryd.sz85 ?_; exact ⟨_, rfl, ⟨AT, cT, AM, cM, none, 0, none, 0, none, 0, rfl, hR0.keep (fun b hb => hX.block b (hG b hb)) (fun _ h => h), Nat.le_refl _, Or.inl rfl, Or.inl rfl, Or.inl rfl⟩, hX⟩
theorem refTaken_spec {G : Nat → Prop} {w : World} {x0 x1 x2 x3 x5 : Value} {AI : Option Addr} {cI : Nat} {ids : List Int} (h1 : ([x0, x1, x2, x3, x5].all (·.oneCell')) = true) (hI : (Ty.int .i64).Row w G AI ids) (hl : ids.length ≤ 1000) (id : Int) :
    Calls Tryd.prog 70 #[.agg #[x0, x1, x2, x3, .slice AI ids.length cI, x5], .int .i64 id] w (fun en w' => ∃ v, en = .returned v ∧ v = .bool (decide (id ∈ ids)) ∧ Ext w w') := by
  refine calls' (n := 20) (rs := #[.tmp 4]) (l := [.agg #[x0, x1, x2, x3, .slice AI ids.length cI, x5], .int .i64 id]) Tryd.func70 rfl rfl rfl rfl rfl ?_; have hX := Ext.refl w; refine W_seq ?_; refine W_region ?_; refine op_box (v := .agg _) rfl rfl ?_; intro w0_0 b0_0 E0_0 B0_0 L0_0
  have hG0_0 : w.heap.size ≤ b0_0 := by have := hX.size; omega
  replace hX := hX.trans E0_0; refine op rfl (r_assignV (v := .bool _) rfl) ?_; refine WL_nil ?_; refine W_seq ?_; refine W_seq ?_; refine W_region ?_; refine op rfl (r_assignV (v := .int _ _) rfl) ?_; refine WL_nil ?_; refine W_block ?_; refine W_loop [4, 5, 6, 7, 8, 9, 10, 11, 12, 13, 14, 15, 16, 17, 18, 19] (fun q e' w' => ∃ (i : Nat), q = ids.length - i ∧ i ≤ ids.length ∧ e' 5 = .int .i64 i ∧ (∀ j (h : j < ids.length), j < i → ids[j] ≠ id) ∧ Blk w' b0_0 #[x0, x1, x2, x3, .slice AI ids.length cI, x5] 85 ∧ Ext w w') (ids.length) ?_ ?_
  · exact ⟨0, by omega, by omega, rfl, fun j _ h => absurd h (Nat.not_lt_zero j), B0_0, hX⟩
  intro k g w' hI; clear B0_0; obtain ⟨i, hq, hi, h5, hall, B0_0, hX'⟩ := hI; clear hX; have hX := hX'; refine W_set (i := 5) h5 ?_; refine W_seq ?_; refine W_seq ?_; refine W_region ?_; refine op rfl (r_moveV (v := .int _ _) rfl) ?_; refine op rfl (r_fieldAddr rfl Tryd.fld85_3 rfl) ?_; refine op rfl (r_load (v := .slice AI ids.length cI) rfl Tryd.underlying49 rfl (Blk.cell B0_0 rfl)) ?_; refine op rfl (r_len_slice rfl Tryd.underlying49) ?_; refine op rfl (r_lss rfl rfl) ?_; refine WL_nil ?_; refine W_ifp rfl (fun ht10 => ?_) (fun ht10 => ?_)
  · have hlt : i < ids.length := by omega
    obtain ⟨g1, o1, hA1, _, _, hc1⟩ := Ty.Row.cell hI hlt; refine W_skip ?_; refine W_seq ?_; refine W_block ?_; refine W_seq ?_; refine W_region ?_; refine op rfl (r_fieldAddr rfl Tryd.fld85_3 rfl) ?_; refine op rfl (r_load (v := .slice AI ids.length cI) rfl Tryd.underlying49 rfl (Blk.cell B0_0 rfl)) ?_; refine op rfl (r_moveV (v := .int _ _) rfl) ?_; refine op rfl (r_indexAddr1 rfl rfl hA1 Tryd.underlying49 Tryd.sz3 (by omega) (by omega)) ?_; refine op rfl (r_load (v := .int .i64 ids[i]) rfl Tryd.underlying3 rfl (ext_cell hX hc1)) ?_; refine op rfl (r_moveV (v := .int _ _) rfl) ?_; refine op rfl (r_eql rfl rfl) ?_; refine WL_nil ?_; refine W_ifp rfl (fun ht19 => ?_) (fun ht19 => ?_)
    · refine W_seq ?_; refine W_region ?_; refine op rfl (r_assignV (v := .bool _) rfl) ?_; refine WL_nil ?_; refine W_ret (blk_ret (blk_ret (finX_ret ?_))); refine fin1 ?_
      first
        | exact ⟨_, rfl, bool_tt (by rw [← ht19]; exact List.getElem_mem hlt), hX⟩
        | exact ⟨_, rfl, bool_ff (fun h => by obtain ⟨j, hj, hje⟩ := List.mem_iff_getElem.1 h; exact hall j hj (by omega) hje), hX⟩
    · refine W_skip ?_; refine W_region ?_; refine op rfl (r_moveV (v := .int _ _) rfl) ?_; refine op rfl (r_add' (r := ((i + 1 : Nat) : Int)) rfl rfl (by rw [wrap_i64 (by omega) (by omega)]; omega)) ?_; refine op rfl (r_assignV (v := .int _ _) rfl) ?_; refine WL_nil ?_; refine ⟨?_, by repeat (first | with_reducible exact Out.refl _ _ | with_reducible exact Out.mix | refine Out.put rfl ?_ | refine Out.mixin rfl ?_ | exact Out.refl _ _ | exact Out.mix)⟩; refine ⟨ids.length - (i + 1), by omega, i + 1, rfl, by omega, rfl, fun j h hj => ?_, B0_0, hX⟩
      by_cases hji : j = i
      · subst hji; exact ht19
      · exact hall j h (by omega)
  · refine W_exit (blk_hit ?_); refine W_seq ?_; refine W_region ?_; refine op rfl (r_assignV (v := .bool _) rfl) ?_; refine WL_nil ?_; refine W_ret (finX_ret ?_); refine fin1 ?_
    first
      | exact ⟨_, rfl, bool_tt (by rw [← ht19]; exact List.getElem_mem hlt), hX⟩
      | exact ⟨_, rfl, bool_ff (fun h => by obtain ⟨j, hj, hje⟩ := List.mem_iff_getElem.1 h; exact hall j hj (by omega) hje), hX⟩
def askF (r : Rt) (k : Int) : Option An := r.an.find? fun a => decide (a.id = k)
theorem refAsk_spec {G : Nat → Prop} {w : World} {v : Value} {r : Rt} (hR : RefQ G w v r) (hk : RtOk r) (kk : Int) :
    Calls Tryd.prog 38 #[v, .int .i64 kk] w (fun en w' => ∃ u, en = .returned u ∧ u = .tuple #[.agg ((askF r kk).getD no).vals.toArray, .bool (decide ((askF r kk).isSome = true))] ∧ Ext w w') := by
  obtain ⟨AT, cT, AM, cM, AW, cW, AI, cI, AA, cA, rfl, hH, hcW, hW, hI, hA⟩ := hR; have hat := an_at hA; have hka := hk.an; refine calls' (n := 28) (rs := #[.cell 4 43, .tmp 5]) (l := [.agg (rt6 AT cT AM cM AW cW AI cI AA cA r).toArray, .int .i64 kk]) Tryd.func38 rfl rfl rfl rfl rfl ?_; have hX := Ext.refl w; refine W_seq ?_; refine W_region ?_; refine op_box (v := .agg _) rfl rfl ?_; intro w0_0 b0_0 E0_0 B0_0 L0_0
  have hG0_0 : w.heap.size ≤ b0_0 := by have := hX.size; omega
  replace hX := hX.trans E0_0; refine op_alloc rfl Tryd.zero43 ?_; intro w0_1 b0_1 E0_1 B0_1 L0_1
  have hG0_1 : w.heap.size ≤ b0_1 := by have := hX.size; omega
  have hNb0_0_0_1 : b0_0 ≠ b0_1 := by have := Blk.lt B0_0; omega
  replace B0_0 := Blk.ext B0_0 E0_1; replace hX := hX.trans E0_1; refine op rfl (r_assignV (v := .bool _) rfl) ?_; refine WL_nil ?_; refine W_seq ?_; refine W_seq ?_; refine W_region ?_; refine op rfl (r_assignV (v := .int _ _) rfl) ?_; refine WL_nil ?_; refine W_block ?_; refine W_loop [5, 6, 7, 8, 9, 10, 11, 12, 13, 14, 15, 16, 17, 18, 19, 20, 21, 22, 23, 24, 25, 26] (fun q e' w' => ∃ (i : Nat), q = r.an.length - i ∧ i ≤ r.an.length ∧ e' 6 = .int .i64 i ∧ (∀ j (h : j < r.an.length), j < i → r.an[j].id ≠ kk) ∧ Blk w' b0_0 (rt6 AT cT AM cM AW cW AI cI AA cA r).toArray 85 ∧ Blk w' b0_1 #[.int .i64 0, .int .i64 0, .int .i64 0, .int .i64 0] 43 ∧ Ext w w') (r.an.length) ?_ ?_
  · exact ⟨0, by omega, by omega, rfl, fun j _ h => absurd h (Nat.not_lt_zero j), B0_0, B0_1, hX⟩
  intro k g w' hI; clear B0_0 B0_1; obtain ⟨i, hq, hi, h6, hall, B0_0, B0_1, hX'⟩ := hI; clear hX; have hX := hX'; refine W_set (i := 6) h6 ?_; refine W_seq ?_; refine W_seq ?_; refine W_region ?_; refine op rfl (r_moveV (v := .int _ _) rfl) ?_; refine op rfl (r_fieldAddr rfl Tryd.fld85_4 rfl) ?_; refine op rfl (r_load (v := .slice AA r.an.length cA) rfl Tryd.underlying83 rfl (Blk.cell B0_0 rfl)) ?_; refine op rfl (r_len_slice rfl Tryd.underlying83) ?_; refine op rfl (r_lss rfl rfl) ?_; refine WL_nil ?_; refine W_ifp rfl (fun ht11 => ?_) (fun ht11 => ?_)
  · have hlt : i < r.an.length := by omega
    obtain ⟨g1, o1, hA1, hc1⟩ := hat i hlt; refine W_skip ?_; refine W_seq ?_; refine W_block ?_; refine W_seq ?_; refine W_region ?_; refine op rfl (r_fieldAddr rfl Tryd.fld85_4 rfl) ?_; refine op rfl (r_load (v := .slice AA r.an.length cA) rfl Tryd.underlying83 rfl (Blk.cell B0_0 rfl)) ?_; refine op rfl (r_moveV (v := .int _ _) rfl) ?_; refine op rfl (r_indexAddrK (by rw [← hA1]; rfl) rfl Tryd.underlying83 Tryd.sz43 hlt) ?_; refine op rfl (r_fieldAddr rfl Tryd.fld43_0 rfl) ?_; refine op rfl (r_load (v := .int .i64 r.an[i].id) rfl Tryd.underlying3 rfl (ext_cell hX (hc1 0 (by decide)))) ?_; refine op rfl (r_moveV (v := .int _ _) rfl) ?_; refine op rfl (r_eql rfl rfl) ?_; refine WL_nil ?_; refine W_ifp rfl (fun ht21 => ?_) (fun ht21 => ?_)
    · refine W_seq ?_; refine W_region ?_; refine op rfl (r_fieldAddr rfl Tryd.fld85_4 rfl) ?_; refine op rfl (r_load (v := .slice AA r.an.length cA) rfl Tryd.underlying83 rfl (Blk.cell B0_0 rfl)) ?_; refine op rfl (r_moveV (v := .int _ _) rfl) ?_; refine op rfl (r_indexAddrK (by rw [← hA1]; rfl) rfl Tryd.underlying83 Tryd.sz43 hlt) ?_; refine op rfl (r_load_agg (cs := r.an[i].vals) rfl Tryd.underlying43 rfl Tryd.sz43 rfl (ext_row hX rfl hc1)) ?_; refine op_storeRow rfl rfl Tryd.sz43 B0_1 rfl rfl ?_; intro w5_5 C5_5 BB5_5; replace B0_0 := Chg.blk C5_5 B0_0 hNb0_0_0_1; replace hX := hX.chg C5_5 hG0_1; replace B0_1 := BB5_5; refine op rfl (r_assignV (v := .bool _) rfl) ?_; refine WL_nil ?_; refine W_ret (blk_ret (blk_ret (finX_ret ?_))); refine fin_cell1 rfl B0_1 Tryd.underlying43 rfl Tryd.sz43 ?_
      first
        | (have hf : askF r kk = some r.an[i] := by
             unfold askF
             rw [List.find?_eq_some_iff_getElem]; exact ⟨by simpa using ht21, i, hlt, rfl, fun j (hj : j < i) => by have := hall j (Nat.lt_trans hj hlt) hj; simpa using this⟩
           rw [hf]; exact ⟨_, rfl, rfl, hX⟩)
        | (have hf : askF r kk = none := by
             unfold askF
             rw [List.find?_eq_none]; intro a ha; obtain ⟨j, hj, rfl⟩ := List.mem_iff_getElem.1 ha
             simpa using hall j hj (by omega)
           rw [hf]; exact ⟨_, rfl, rfl, hX⟩)
    · refine W_skip ?_; refine W_region ?_; refine op rfl (r_moveV (v := .int _ _) rfl) ?_; refine op rfl (r_add' (r := ((i + 1 : Nat) : Int)) rfl rfl (by rw [wrap_i64 (by omega) (by omega)]; omega)) ?_; refine op rfl (r_assignV (v := .int _ _) rfl) ?_; refine WL_nil ?_; refine ⟨?_, by repeat (first | with_reducible exact Out.refl _ _ | with_reducible exact Out.mix | refine Out.put rfl ?_ | refine Out.mixin rfl ?_ | exact Out.refl _ _ | exact Out.mix)⟩; refine ⟨r.an.length - (i + 1), by omega, i + 1, rfl, by omega, rfl, fun j h hj => ?_, B0_0, B0_1, hX⟩
      by_cases hji : j = i
      · subst hji; exact ht21
      · exact hall j h (by omega)
  · refine W_exit (blk_hit ?_); refine W_seq ?_; refine W_region ?_; refine op rfl (r_build (cs := [.int _ _, .int _ _, .int _ _, .int _ _]) Tryd.lay43 (fun _ h => by cases h) rfl rfl) ?_; refine op_storeRow rfl rfl Tryd.sz43 B0_1 rfl rfl ?_; intro w6_1 C6_1 BB6_1; replace B0_0 := Chg.blk C6_1 B0_0 hNb0_0_0_1; replace hX := hX.chg C6_1 hG0_1; replace B0_1 := BB6_1; refine op rfl (r_assignV (v := .bool _) rfl) ?_; refine WL_nil ?_; refine W_ret (finX_ret ?_); refine fin_cell1 rfl B0_1 Tryd.underlying43 rfl Tryd.sz43 ?_
    first
      | (have hf : askF r kk = some r.an[i] := by
           unfold askF
           rw [List.find?_eq_some_iff_getElem]; exact ⟨by simpa using ht21, i, hlt, rfl, fun j (hj : j < i) => by have := hall j (Nat.lt_trans hj hlt) hj; simpa using this⟩
         rw [hf]; exact ⟨_, rfl, rfl, hX⟩)
      | (have hf : askF r kk = none := by
           unfold askF
           rw [List.find?_eq_none]; intro a ha; obtain ⟨j, hj, rfl⟩ := List.mem_iff_getElem.1 ha
           simpa using hall j hj (by omega)
         rw [hf]; exact ⟨_, rfl, rfl, hX⟩)
theorem refWaits_spec {G : Nat → Prop} {w : World} {v : Value} {r : Rt} (hR : RefQ G w v r) (hk : RtOk r) (hG : ∀ b, G b → b < w.heap.size) :
    Calls Tryd.prog 36 #[v] w (fun en w' => ∃ u, en = .returned u ∧ Eng.Own (Ty.int .i64) w' nobody w.heap.size 3 u (r.ws.map Rq.id) ∧ Ext w w') := by
  obtain ⟨AT, cT, AM, cM, AW, cW, AI, cI, AA, cA, rfl, hH, hcW, hW, hI, hA⟩ := hR; have hat := rq_at hW; have hka := hk.ws; refine calls' (n := 22) (rs := #[.tmp 2]) (l := [.agg (rt6 AT cT AM cM AW cW AI cI AA cA r).toArray]) Tryd.func36 rfl rfl rfl rfl rfl ?_; have hX := Ext.refl w; refine W_seq ?_; refine W_region ?_; refine op_box (v := .agg _) rfl rfl ?_; intro w0_0 b0_0 E0_0 B0_0 L0_0
  have hG0_0 : w.heap.size ≤ b0_0 := by have := hX.size; omega
  replace hX := hX.trans E0_0; refine op rfl (r_assignV (v := .slice _ _ _) rfl) ?_; refine WL_nil ?_; refine W_seq ?_; refine W_region ?_; refine op rfl (r_assignV (v := .slice _ _ _) rfl) ?_; refine WL_nil ?_; refine W_seq ?_; refine W_seq ?_; refine W_region ?_; refine op rfl (r_assignV (v := .int _ _) rfl) ?_; refine WL_nil ?_; refine W_block ?_; refine W_loop [3, 4, 5, 6, 7, 8, 9, 10, 11, 12, 13, 14, 15, 16, 17, 18, 19, 20] (fun q e' w' => ∃ (i : Nat) (v : Value), q = r.ws.length - i ∧ i ≤ r.ws.length ∧ e' 4 = .int .i64 i ∧ e' 3 = v ∧ Eng.Own (Ty.int .i64) w' nobody (b0_0 + 1) 3 v ((r.ws.take i).map Rq.id) ∧ Blk w' b0_0 (rt6 AT cT AM cM AW cW AI cI AA cA r).toArray 85 ∧ Ext w w') (r.ws.length) ?_ ?_
  · exact ⟨0, _, by omega, by omega, rfl, rfl, .nil, B0_0, hX⟩
  intro k g w' hI; have lb0 := Blk.lt B0_0; have hsz0 := E0_0.size; clear B0_0; obtain ⟨i, v, hq, hi, h4, h3, hO, B0_0, hX'⟩ := hI; clear hX; have hX := hX'; refine W_set (i := 4) h4 ?_; refine W_set (i := 3) h3 ?_; refine W_seq ?_; refine W_seq ?_; refine W_region ?_; refine op rfl (r_moveV (v := .int _ _) rfl) ?_; refine op rfl (r_fieldAddr rfl Tryd.fld85_1 rfl) ?_; refine op rfl (r_load (v := .slice AW r.ws.length cW) rfl Tryd.underlying82 rfl (Blk.cell B0_0 rfl)) ?_; refine op rfl (r_len_slice rfl Tryd.underlying82) ?_; refine op rfl (r_lss rfl rfl) ?_; refine WL_nil ?_; refine W_ifp rfl (fun ht9 => ?_) (fun ht9 => ?_)
  · have hlt : i < r.ws.length := by omega
    obtain ⟨g1, o1, Ai, ci, hA1, hid, _, _, _, _, hc1⟩ := hat i hlt; refine W_skip ?_; refine W_seq ?_; refine W_block ?_; refine W_region ?_; refine op rfl (r_moveV (v := v) rfl) ?_; refine op rfl (r_fieldAddr rfl Tryd.fld85_1 rfl) ?_; refine op rfl (r_load (v := .slice AW r.ws.length cW) rfl Tryd.underlying82 rfl (Blk.cell B0_0 rfl)) ?_; refine op rfl (r_moveV (v := .int _ _) rfl) ?_; refine op rfl (r_indexAddrK (by rw [← hA1]; rfl) rfl Tryd.underlying82 Tryd.sz41 hlt) ?_; refine op rfl (r_fieldAddr rfl Tryd.fld41_0 rfl) ?_; refine op rfl (r_load (v := .int .i64 r.ws[i].id) rfl Tryd.underlying3 rfl (ext_cell hX (hc1 0 (by decide)))) ?_; refine op_newS rfl (r_buildSlice (vs := [.int .i64 r.ws[i].id]) Tryd.underlying49 Tryd.sz3 Tryd.zero3 rfl rfl rfl) ?_; intro w5 b5 E5 B5 L5; replace hX := hX.trans E5; have hsx := hX.size
    have hlO : ((r.ws.take i).map Rq.id).length ≤ 1000 := by rw [List.length_map, List.length_take]; omega
    refine op_append (T := Ty.int .i64) (F := nobody) (m := [r.ws[i].id]) rfl rfl rfl Tryd.underlying49 Tryd.sz3 Tryd.by3 Tryd.zero3 rfl (own_fext hO E5) ((row_one B5 hid : (Ty.int .i64).Row w5 (old w5) (some ⟨b5, 0, none⟩) [r.ws[i].id]).srcF flat_int) (fun _ q => q.elim) (by simp only [List.length_singleton]; omega) (by simp only [List.length_singleton]; omega) (by have := E5.size; have := Blk.lt B0_0; omega) ?_; intro v6 w6 hO5 hG5 hv5
    have B0' := (Blk.ext B0_0 E5).at (hG5.block b0_0 (by have := E5.size; have := Blk.lt B0_0; omega) (fun q => by have := (hO.lt q).1; omega))
    have hX6 : Ext w w6 := hX.gro hG5 hX.size (fun k hk => by have := (hO.lt hk).1; omega); clear hX B0_0; have hX := hX6; have B0_0 := B0'; refine op rfl (r_assignV (v := v6) rfl) ?_; refine WL_nil ?_; refine W_region ?_; refine op rfl (r_moveV (v := .int _ _) rfl) ?_; refine op rfl (r_add' (r := ((i + 1 : Nat) : Int)) rfl rfl (by rw [wrap_i64 (by omega) (by omega)]; omega)) ?_; refine op rfl (r_assignV (v := .int _ _) rfl) ?_; refine WL_nil ?_; refine ⟨?_, by repeat (first | with_reducible exact Out.refl _ _ | with_reducible exact Out.mix | refine Out.put rfl ?_ | refine Out.mixin rfl ?_ | exact Out.refl _ _ | exact Out.mix)⟩; exact ⟨r.ws.length - (i + 1), by omega, i + 1, _, rfl, by omega, rfl, rfl, by rw [List.take_succ_eq_append_getElem hlt, List.map_append]; exact hO5, B0_0, hX⟩
  · have hie : i = r.ws.length := by omega
    subst hie
    rw [List.take_length] at hO
    refine W_exit (blk_hit ?_); refine W_seq ?_; refine W_region ?_; refine op rfl (r_moveV (v := v) rfl) ?_; refine op rfl (r_assignV (v := v) rfl) ?_; refine WL_nil ?_; refine W_ret (finX_ret ?_); refine fin1 ?_; exact ⟨_, rfl, own_base hO (by omega), hX⟩
end Go.Proofs.YtmedmajdoecjfaaDoor
