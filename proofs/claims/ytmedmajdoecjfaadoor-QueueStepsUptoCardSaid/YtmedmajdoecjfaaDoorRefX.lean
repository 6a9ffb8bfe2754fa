/-
  The walks of the references: trees.
-/
import Derived.Test.YtmedmajdoecjfaaDoorFacts
import Derived.Test.YtmedmajdoecjfaaDoorRefW
import Derived.Test.YtmedmajdoecjfaaDoorHistSame
namespace Go.Proofs.YtmedmajdoecjfaaDoor
open Go Go.Eng Go.RowKit Go.Proofs
set_option linter.unusedVariables false
set_option linter.unusedSimpArgs false
set_option maxHeartbeats 1000000

section
variable {α : Type} {T : Ty α} {P : Program} {w W0 : World} {n : Nat} {N : Env → World → Prop} {X : Exit → Env → World → Prop} {e : Env} {ops : Array Oper} {rest : List Oper} {d : Option Tmp} {ty : TypeId} {pos : String} {af : Array Edge}
theorem op_appG {F : Nat → Prop} {s x : Operand} {t el : TypeId} {z : Value} {by_ c : Nat} {v : Value} {l m : List α} {A : Option Addr} (hd : dOk n d = true) (hsv : ev e s = v) (hx : ev e x = .slice A m.length c)
    (hu : P.underlying t = some (.slice el)) (hs : (P.info? el).map (·.size) = some T.sz) (hy : (P.info? el).map (·.bytes) = some by_) (hz : (P.info? el).bind (·.zero) = some z) (hzs : z.cells.size = T.sz)
    (hF : ∀ b, F b → b < W0.heap.size) (hE : Ext W0 w) (hown : Eng.Own T w F W0.heap.size el v l) (hrow : Eng.Src T w F A m) (hsz : (l.length + m.length) * by_ ≤ 140737488355328) (h63 : l.length + m.length ≤ 140737488355328)
    (h : ∀ v' w', Eng.Own T w' F W0.heap.size el v' (l ++ m) → Ext W0 w' → WL P n ops N X rest (putO e d v') w') :
    WL P n ops N X (⟨d, .call { callee := .builtin .append, args := #[s, x], argTypes := #[t, t] }, ty, pos, af, none⟩ :: rest) e w :=
  op_append hd hsv hx hu hs hy hz hzs hown hrow (fun b hb => ⟨Nat.lt_of_lt_of_le (hF b hb) hE.size, fun q => by have := (hown.lt q).1; have := hF b hb; omega⟩) hsz h63 hE.size fun v' w' ho hg _ => h v' w' ho (hE.gro hg hE.size (fun k hk => (hown.lt hk).1))
end
theorem fi_at3 {A : Option Addr} {t : Tree} {w : World} {G : Nat → Prop} (hrow : fiT.Row w G A t) : ∀ i (h : i < t.length), ∃ g off Ai ci, A = some ⟨g, off, none⟩ ∧ fiT.R w G t[i] [Value.string (str t[i].p), .slice Ai t[i].b.length ci] ∧ ∀ j, j < 2 → w.cell? ⟨g, off + i * 2 + j, none⟩ = [Value.string (str t[i].p), .slice Ai t[i].b.length ci][j]? := fun i h => by
  obtain ⟨g, off, xs, hA, _, hx, hc⟩ := hrow.cells h; have hx0 := hx; obtain ⟨Ai, ci, rfl, -⟩ := fi_cells hx; exact ⟨g, off, Ai, ci, hA, hx0, hc⟩
theorem refFind_spec {A : Option Addr} {cap : Nat} {t : Tree} (s : List UInt8) {w : World} {G : Nat → Prop} (hrow : fiT.Row w G A t) (hl : t.length * 40 ≤ 140737488355328) :
    Calls Tryd.prog 53 #[.slice A t.length cap, .string (str s)] w (fun en w' => ∃ v, en = .returned v ∧ ∃ k : Int, v = .int .i64 k ∧ (0 ≤ k ↔ hasT t s = true) ∧ Ext w w') := by
  have hat := fi_at hrow; refine calls' (n := 20) (rs := #[.tmp 4]) (l := [.slice A t.length cap, .string (str s)]) Tryd.func53 rfl rfl rfl rfl rfl ?_; have hX := Ext.refl w; refine W_seq ?_; refine W_region ?_; refine op rfl (r_assignV (v := .int _ _) rfl) ?_; refine WL_nil ?_; refine W_seq ?_; refine W_seq ?_; refine W_region ?_; refine op rfl (r_assignV (v := .int _ _) rfl) ?_; refine WL_nil ?_; refine W_block ?_; refine W_loop [4, 5, 6, 7, 8, 9, 10, 11, 12, 13, 14, 15, 16, 17, 18, 19] (fun q e' w' => ∃ (i : Nat), q = t.length - i ∧ i ≤ t.length ∧ e' 5 = .int .i64 i ∧ (∀ j (h : j < t.length), j < i → t[j].p ≠ s) ∧ Ext w w') (t.length) ?_ ?_
  · exact ⟨0, by omega, by omega, rfl, fun j _ h => absurd h (Nat.not_lt_zero j), hX⟩
  intro k g w' hI; obtain ⟨i, hq, hi, h5, hall, hX'⟩ := hI; clear hX; have hX := hX'; refine W_set (i := 5) h5 ?_; refine W_seq ?_; refine W_seq ?_; refine W_region ?_; refine op rfl (r_moveV (v := .int _ _) rfl) ?_; refine op rfl (r_moveV (v := .slice _ _ _) rfl) ?_; refine op rfl (r_len_slice rfl Tryd.underlying23) ?_; refine op rfl (r_lss rfl rfl) ?_; refine WL_nil ?_; refine W_ifp rfl (fun ht9 => ?_) (fun ht9 => ?_)
  · have hlt : i < t.length := by omega
    obtain ⟨g1, o1, Ai, ci, hA1, hc1⟩ := hat i hlt; refine W_skip ?_; refine W_seq ?_; refine W_block ?_; refine W_seq ?_; refine W_region ?_; refine op rfl (r_moveV (v := .slice _ _ _) rfl) ?_; refine op rfl (r_moveV (v := .int _ _) rfl) ?_; refine op rfl (r_indexAddrK (by rw [← hA1]; rfl) rfl Tryd.underlying23 Tryd.sz35 hlt) ?_; refine op rfl (r_fieldAddr rfl Tryd.fld35_0 rfl) ?_; refine op rfl (r_load (v := .string (str t[i].p)) rfl Tryd.underlying9 rfl (ext_cell hX (hc1 0 (by omega)))) ?_; refine op rfl (r_moveV (v := .string _) rfl) ?_; refine op rfl (rt_eql rfl rfl) ?_; refine WL_nil ?_; refine W_ifp rfl (fun ht18 => ?_) (fun ht18 => ?_)
    · refine W_seq ?_; refine W_region ?_; refine op rfl (r_moveV (v := .int _ _) rfl) ?_; refine op rfl (r_assignV (v := .int _ _) rfl) ?_; refine WL_nil ?_; refine W_ret (blk_ret (blk_ret (finX_ret ?_))); refine fin1 ?_
      first
        | exact ⟨_, rfl, _, rfl, ⟨fun _ => List.any_eq_true.2 ⟨t[i], List.getElem_mem hlt, decide_eq_true ht18⟩, fun _ => by omega⟩, hX⟩
        | (refine ⟨_, rfl, _, rfl, ⟨fun h => absurd h (by omega), fun h => ?_⟩, hX⟩
           obtain ⟨x, hx, hp⟩ := List.any_eq_true.1 h; obtain ⟨j, hj, rfl⟩ := List.mem_iff_getElem.1 hx
           exact absurd (of_decide_eq_true hp) (hall j hj (by omega)))
    · refine W_skip ?_; refine W_region ?_; refine op rfl (r_moveV (v := .int _ _) rfl) ?_; refine op rfl (r_add' (r := ((i + 1 : Nat) : Int)) rfl rfl (by rw [wrap_i64 (by omega) (by omega)]; omega)) ?_; refine op rfl (r_assignV (v := .int _ _) rfl) ?_; refine WL_nil ?_; refine ⟨?_, by repeat (first | with_reducible exact Out.refl _ _ | with_reducible exact Out.mix | refine Out.put rfl ?_ | refine Out.mixin rfl ?_ | exact Out.refl _ _ | exact Out.mix)⟩; refine ⟨t.length - (i + 1), by omega, i + 1, rfl, by omega, rfl, fun j h hj => ?_, hX⟩
      by_cases hji : j = i
      · subst hji; exact ht18
      · exact hall j h (by omega)
  · refine W_exit (blk_hit ?_); refine W_seq ?_; refine W_region ?_; refine op rfl (r_assignV (v := .int _ _) rfl) ?_; refine WL_nil ?_; refine W_ret (finX_ret ?_); refine fin1 ?_
    first
      | exact ⟨_, rfl, _, rfl, ⟨fun _ => List.any_eq_true.2 ⟨t[i], List.getElem_mem hlt, decide_eq_true ht18⟩, fun _ => by omega⟩, hX⟩
      | (refine ⟨_, rfl, _, rfl, ⟨fun h => absurd h (by omega), fun h => ?_⟩, hX⟩
         obtain ⟨x, hx, hp⟩ := List.any_eq_true.1 h; obtain ⟨j, hj, rfl⟩ := List.mem_iff_getElem.1 hx
         exact absurd (of_decide_eq_true hp) (hall j hj (by omega)))
theorem dropT_app (a b : Tree) (s : List UInt8) : dropT (a ++ b) s = dropT a s ++ dropT b s := List.filter_append ..
theorem refDrop_spec {A : Option Addr} {cap : Nat} {l : Tree} (s : List UInt8) {w : World} {G : Nat → Prop} (hG : ∀ b, G b → b < w.heap.size) (hrow : fiT.Row w G A l) (hl : l.length * 40 ≤ 140737488355328) :
    Calls Tryd.prog 54 #[.slice A l.length cap, .string (str s)] w (fun en w' => ∃ v, en = .returned v ∧ Eng.Own fiT w' G w.heap.size 35 v (dropT l s) ∧ Ext w w') := by
  have hat := fi_at3 hrow; refine calls' (n := 28) (rs := #[.tmp 4]) (l := [.slice A l.length cap, .string (str s)]) Tryd.func54 rfl rfl rfl rfl rfl ?_; have hX := Ext.refl w; refine W_seq ?_; refine W_region ?_; refine op rfl (r_assignV (v := .slice _ _ _) rfl) ?_; refine WL_nil ?_; refine W_seq ?_; refine W_region ?_; refine op rfl (r_assignV (v := .slice _ _ _) rfl) ?_; refine WL_nil ?_; refine W_seq ?_; refine W_seq ?_; refine W_region ?_; refine op rfl (r_assignV (v := .int _ _) rfl) ?_; refine WL_nil ?_; refine W_block ?_; refine W_loop [5, 6, 7, 8, 9, 10, 11, 12, 13, 14, 15, 16, 17, 18, 19, 20, 21, 22, 23, 24, 25, 26] (fun q e' w' => ∃ (i : Nat) (v : Value), q = l.length - i ∧ i ≤ l.length ∧ e' 6 = .int .i64 i ∧ e' 5 = v ∧ Eng.Own fiT w' G w.heap.size 35 v (dropT (l.take i) s) ∧ Ext w w') (l.length) ?_ ?_
  · exact ⟨0, _, by omega, by omega, rfl, rfl, .nil, hX⟩
  intro k g w' hI; obtain ⟨i, v, hq, hi, h6, h5, hO, hX'⟩ := hI; clear hX; have hX := hX'; refine W_set (i := 6) h6 ?_; refine W_set (i := 5) h5 ?_; refine W_seq ?_; refine W_seq ?_; refine W_region ?_; refine op rfl (r_moveV (v := .int _ _) rfl) ?_; refine op rfl (r_moveV (v := .slice _ _ _) rfl) ?_; refine op rfl (r_len_slice rfl Tryd.underlying23) ?_; refine op rfl (r_lss rfl rfl) ?_; refine WL_nil ?_; refine W_ifp rfl (fun ht10 => ?_) (fun ht10 => ?_)
  · have hlt : i < l.length := by omega
    obtain ⟨g1, o1, Ai, ci, hA1, hR1, hc1⟩ := hat i hlt; have hdl := drop_len (l.take i) s
    have htl : (l.take i).length = i := by rw [List.length_take]; omega
    refine W_skip ?_; refine W_seq ?_; refine W_block ?_; refine W_seq ?_; refine W_region ?_; refine op rfl (r_moveV (v := .slice _ _ _) rfl) ?_; refine op rfl (r_moveV (v := .int _ _) rfl) ?_; refine op rfl (r_indexAddrK (by rw [← hA1]; rfl) rfl Tryd.underlying23 Tryd.sz35 hlt) ?_; refine op rfl (r_fieldAddr rfl Tryd.fld35_0 rfl) ?_; refine op rfl (r_load (v := .string (str l[i].p)) rfl Tryd.underlying9 rfl (ext_cell hX (hc1 0 (by omega)))) ?_; refine op rfl (r_moveV (v := .string _) rfl) ?_; refine op rfl (rt_neq rfl rfl) ?_; refine WL_nil ?_; refine W_ifp rfl (fun ht19 => ?_) (fun ht19 => ?_)
    · refine W_region ?_; refine op rfl (r_moveV (v := v) rfl) ?_; refine op rfl (r_moveV (v := .slice _ _ _) rfl) ?_; refine op rfl (r_moveV (v := .int _ _) rfl) ?_; refine op rfl (r_indexAddrK (by rw [← hA1]; rfl) rfl Tryd.underlying23 Tryd.sz35 hlt) ?_; refine op rfl (r_load_agg (cs := [.string (str l[i].p), .slice Ai l[i].b.length ci]) rfl Tryd.underlying35 rfl Tryd.sz35 rfl (ext_row hX rfl hc1)) ?_; refine op_newS rfl (r_buildRows (vs := [[.string (str l[i].p), .slice Ai l[i].b.length ci]]) Tryd.underlying23 Tryd.sz35 Tryd.zero35 rfl rfl rfl) ?_; intro w7 b7 E7 B7 L7; have hX7 := hX.trans E7; refine op_appG (T := fiT) (F := G) (m := [l[i]]) rfl rfl rfl Tryd.underlying23 Tryd.sz35 Tryd.by35 Tryd.zero35 rfl hG hX7 (hO.ext E7 (fun b hb => Nat.lt_of_lt_of_le (hG b hb) hX.size)) (Src.blk B7 (fiT.keep hR1 (fun b hb => hX7.block b (hG b hb)) (fun _ h => h))) (by simp only [List.length_singleton]; omega) (by simp only [List.length_singleton]; omega) ?_; intro v8 w8 O8 X8; clear hX; have hX := X8; refine op rfl (r_assignV (v := v8) rfl) ?_; refine WL_nil ?_; refine W_region ?_; refine op rfl (r_moveV (v := .int _ _) rfl) ?_; refine op rfl (r_add' (r := ((i + 1 : Nat) : Int)) rfl rfl (by rw [wrap_i64 (by omega) (by omega)]; omega)) ?_; refine op rfl (r_assignV (v := .int _ _) rfl) ?_; refine WL_nil ?_; refine ⟨?_, by repeat (first | with_reducible exact Out.refl _ _ | with_reducible exact Out.mix | refine Out.put rfl ?_ | refine Out.mixin rfl ?_ | exact Out.refl _ _ | exact Out.mix)⟩
      have htk : dropT (l.take (i + 1)) s = dropT (l.take i) s ++ dropT [l[i]] s := by rw [List.take_succ_eq_append_getElem hlt, dropT_app]
      first
        | (refine ⟨l.length - (i + 1), by omega, i + 1, v8, rfl, by omega, rfl, rfl, ?_, hX⟩
           rw [htk, show dropT [l[i]] s = [l[i]] from by simp [dropT, ht19]]
           exact O8)
        | (refine ⟨l.length - (i + 1), by omega, i + 1, v, rfl, by omega, rfl, rfl, ?_, hX⟩
           rw [htk, show dropT [l[i]] s = [] from by simp [dropT, Classical.not_not.1 ht19], List.append_nil]
           exact hO.ext (Ext.refl _) (fun b hb => Nat.lt_of_lt_of_le (hG b hb) hX.size))
    · refine W_skip ?_; refine W_region ?_; refine op rfl (r_moveV (v := .int _ _) rfl) ?_; refine op rfl (r_add' (r := ((i + 1 : Nat) : Int)) rfl rfl (by rw [wrap_i64 (by omega) (by omega)]; omega)) ?_; refine op rfl (r_assignV (v := .int _ _) rfl) ?_; refine WL_nil ?_; refine ⟨?_, by repeat (first | with_reducible exact Out.refl _ _ | with_reducible exact Out.mix | refine Out.put rfl ?_ | refine Out.mixin rfl ?_ | exact Out.refl _ _ | exact Out.mix)⟩
      have htk : dropT (l.take (i + 1)) s = dropT (l.take i) s ++ dropT [l[i]] s := by rw [List.take_succ_eq_append_getElem hlt, dropT_app]
      first
        | (refine ⟨l.length - (i + 1), by omega, i + 1, v8, rfl, by omega, rfl, rfl, ?_, hX⟩
           rw [htk, show dropT [l[i]] s = [l[i]] from by simp [dropT, ht19]]
           exact O8)
        | (refine ⟨l.length - (i + 1), by omega, i + 1, v, rfl, by omega, rfl, rfl, ?_, hX⟩
           rw [htk, show dropT [l[i]] s = [] from by simp [dropT, Classical.not_not.1 ht19], List.append_nil]
           exact hO.ext (Ext.refl _) (fun b hb => Nat.lt_of_lt_of_le (hG b hb) hX.size))
  · refine W_exit (blk_hit ?_); refine W_seq ?_; refine W_region ?_; refine op rfl (r_moveV (v := v) rfl) ?_; refine op rfl (r_assignV (v := v) rfl) ?_; refine WL_nil ?_; refine W_ret (finX_ret ?_); refine fin1 ?_
    obtain rfl : i = l.length := by omega
    rw [List.take_length] at hO
    exact ⟨_, rfl, hO, hX⟩
def outP (t : Tree) (f : Fi) (k i : Nat) : Tree := if k < i then t.take k ++ f :: (t.take i).drop k else t.take i
theorem outP_lt {t : Tree} {f : Fi} {k i : Nat} (hi : i < t.length) (h : i < k) : outP t f k (i + 1) = outP t f k i ++ [t[i]] := by
  unfold outP
  rw [if_neg (by omega), if_neg (by omega), List.take_succ_eq_append_getElem hi]
theorem outP_eq {t : Tree} {f : Fi} {i : Nat} (hi : i < t.length) : outP t f i (i + 1) = outP t f i i ++ [f] ++ [t[i]] := by
  unfold outP
  rw [if_pos (by omega), if_neg (by omega), List.take_succ_eq_append_getElem hi, List.drop_append_of_le_length (by rw [List.length_take]; omega), List.drop_of_length_le (by rw [List.length_take]; omega)]
  simp
theorem outP_gt {t : Tree} {f : Fi} {k i : Nat} (hi : i < t.length) (h : k < i) : outP t f k (i + 1) = outP t f k i ++ [t[i]] := by
  unfold outP
  rw [if_pos (by omega), if_pos h, List.take_succ_eq_append_getElem hi, List.drop_append_of_le_length (by rw [List.length_take]; omega)]
  simp
theorem outP_len (t : Tree) (f : Fi) (k i : Nat) : (outP t f k i).length ≤ i + 1 := by
  unfold outP
  split
  · simp only [List.length_append, List.length_take, List.length_cons, List.length_drop]; omega
  · rw [List.length_take]; omega
theorem outP_end {t : Tree} {f : Fi} {k : Nat} (h : k < t.length) : outP t f k t.length = t.take k ++ f :: t.drop k := by
  unfold outP
  rw [if_pos h, List.take_length]
theorem outP_end0 {t : Tree} {f : Fi} : outP t f t.length t.length ++ [f] = t.take t.length ++ f :: t.drop t.length := by
  unfold outP
  rw [if_neg (by omega), List.take_length, List.drop_length]
theorem refPut_spec {A : Option Addr} {cap : Nat} {l : Tree} {f : Fi} {Af : Option Addr} {cf : Nat} {w : World} {G : Nat → Prop} (hG : ∀ b, G b → b < w.heap.size) (hrow : fiT.Row w G A l) (hl : (l.length + 1) * 40 ≤ 140737488355328) (hRf : fiT.R w G f [.string (str f.p), .slice Af f.b.length cf]) :
    Calls Tryd.prog 55 #[.slice A l.length cap, .agg #[.string (str f.p), .slice Af f.b.length cf]] w (fun en w' => ∃ v, en = .returned v ∧ (∃ A' cap', v = .slice A' (putT l f).length cap' ∧ (putT l f).length ≤ cap' ∧ fiT.Row w' (fun b => G b ∨ since w w' b) A' (putT l f)) ∧ Ext w w') := by
  have hdl := drop_len l f.p
  have hdr : ∀ W, Ext w W → Calls Tryd.prog 54 #[.slice A l.length cap, .string (str f.p)] W (fun en w' => ∃ v, en = .returned v ∧ Eng.Own fiT w' G W.heap.size 35 v (dropT l f.p) ∧ Ext W w') := fun W he => refDrop_spec f.p (fun b hb => Nat.lt_of_lt_of_le (hG b hb) he.size) (hrow.keep (fun b hb => he.block b (hG b hb)) (fun _ h => h)) (by omega)
  refine calls' (n := 49) (rs := #[.tmp 4]) (l := [.slice A l.length cap, .agg #[.string (str f.p), .slice Af f.b.length cf]]) Tryd.func55 rfl rfl rfl rfl rfl ?_; have hX := Ext.refl w; refine W_seq ?_; refine W_region ?_; refine op_box (v := .agg _) rfl rfl ?_; intro w0_0 b0_0 E0_0 B0_0 L0_0
  have hG0_0 : w.heap.size ≤ b0_0 := by have := hX.size; omega
  replace hX := hX.trans E0_0; refine op rfl (r_assignV (v := .slice _ _ _) rfl) ?_; refine WL_nil ?_; refine W_seq ?_; refine W_region ?_; refine op rfl (r_moveV (v := .slice _ _ _) rfl) ?_; refine op rfl (r_fieldAddr rfl Tryd.fld35_0 rfl) ?_; refine op rfl (r_load (v := .string (str f.p)) rfl Tryd.underlying9 rfl (Blk.cell B0_0 rfl)) ?_; have lb0 := Blk.lt B0_0; have hX1 := hX; refine opCv rfl (r_call Tryd.func54 Tryd.nm54 rfl) (hdr _ hX) ?_; rintro v2 w2 ⟨hO, hE⟩; replace B0_0 := Blk.ext B0_0 hE; replace hX := hX.trans hE; have hs02 := hE.size; have hs00 := hX1.size; obtain ⟨t2, ht2⟩ : ∃ t2, t2 = dropT l f.p := ⟨_, rfl⟩
  rw [← ht2] at hO hdl
  obtain ⟨kp, hk⟩ : ∃ k, k = placeT t2 f.p := ⟨_, rfl⟩
  have hkl : kp ≤ t2.length := by rw [hk]; exact List.findIdx_le_length
  have hkno : ∀ i (h : i < t2.length), i < kp → ¬ bLt f.p t2[i].p := fun i h hi => by
    have := List.not_of_lt_findIdx (p := fun x : Fi => decide (bLt f.p x.p)) (by show i < placeT t2 f.p; omega)
    simpa using this
  have hkat : ∀ (h : kp < t2.length), bLt f.p t2[kp].p := fun h => by
    subst hk; exact of_decide_eq_true (List.findIdx_getElem (p := fun x : Fi => decide (bLt f.p x.p)) (xs := t2) (w := h))
  obtain ⟨A2, cap2, rfl, hc2, hr2⟩ := hO.read
  have hF2 : ∀ b, (G b ∨ (Value.slice A2 t2.length cap2).ownBlock = some b) → b < w2.heap.size := fun b hb => hb.elim (fun q => by have := hG b q; omega) (fun q => (hO.lt q).2)
  have hat := fi_at3 hr2; have hXs := hX; have B0s := B0_0; refine op rfl (r_assignV (v := .slice _ _ _) rfl) ?_; refine WL_nil ?_; refine W_seq ?_; refine W_region ?_; refine op rfl (r_assignV (v := .slice _ _ _) rfl) ?_; refine WL_nil ?_; refine W_seq ?_; refine W_region ?_; refine op rfl (r_assignV (v := .bool _) rfl) ?_; refine WL_nil ?_; refine W_seq ?_; refine W_seq ?_; refine W_region ?_; refine op rfl (r_assignV (v := .int _ _) rfl) ?_; refine WL_nil ?_; refine W_block ?_; refine W_loop [6, 7, 8, 13, 14, 15, 16, 17, 18, 19, 20, 21, 22, 23, 24, 25, 26, 27, 28, 29, 30, 31, 32, 33, 34, 35, 36, 37, 38, 39, 40, 41] (fun q e' w' => ∃ (i : Nat) (v : Value), q = t2.length - i ∧ i ≤ t2.length ∧ e' 8 = .int .i64 i ∧ e' 6 = v ∧ e' 7 = .bool (decide (kp < i)) ∧ Eng.Own fiT w' (fun b => G b ∨ (Value.slice A2 t2.length cap2).ownBlock = some b) w2.heap.size 35 v (outP t2 f kp i) ∧ Ext w2 w' ∧ Blk w' b0_0 #[.string (str f.p), .slice Af f.b.length cf] 35) (t2.length) ?_ ?_
  · exact ⟨0, _, by omega, by omega, rfl, rfl, by rw [decide_eq_false (by omega)]; rfl, .nil, Ext.refl _, B0_0⟩
  intro k g w' hI; obtain ⟨i, v, hq, hi, h8, h6, h7, hOv, hX', B0'⟩ := hI; clear hX B0_0; have hX := hX'; have B0_0 := B0'; refine W_set (i := 8) h8 ?_; refine W_set (i := 6) h6 ?_; refine W_set (i := 7) h7 ?_; refine W_seq ?_; refine W_seq ?_; refine W_region ?_; refine op rfl (r_moveV (v := .int _ _) rfl) ?_; refine op rfl (r_moveV (v := .slice _ _ _) rfl) ?_; refine op rfl (r_len_slice rfl Tryd.underlying23) ?_; refine op rfl (r_lss rfl rfl) ?_; refine WL_nil ?_; refine W_ifp rfl (fun ht16 => ?_) (fun ht16 => ?_)
  · have hlt : i < t2.length := by omega
    obtain ⟨g1, o1, Ai, ci, hA1, hR1, hc1⟩ := hat i hlt; have hol := outP_len t2 f kp i; have hOc := hOv; have hoc := hol; refine W_skip ?_; refine W_seq ?_; refine W_block ?_; refine W_seq ?_; refine W_seq ?_; refine W_drawF (W0 := w2) (fun b : Nat => b = b0_0 ∨ False) Tryd.wd rfl ?_; intro wd7 hD; replace B0_0 := Blk.ext B0_0 hD; replace hX := hX.trans hD; have DB0_0 := B0_0; have hS : Ext w2 wd7 ∧ Same (fun b : Nat => b = b0_0 ∨ False) wd7 wd7 := ⟨hX, fun _ _ => rfl⟩; refine A_take (i := 0) rfl (by kernel_rfl) (by kernel_rfl) (by kernel_rfl) rfl hS (fun _ hw => r_moveV (v := .bool _) rfl) ?_; refine A_take (i := 1) rfl (by kernel_rfl) (by kernel_rfl) (by kernel_rfl) rfl hS (fun _ hw => r_notP rfl) ?_; refine A_split (i := 2) rfl (by kernel_rfl) (by kernel_rfl) (by kernel_rfl) rfl hS (fun _ _ => r_moveV (v := .bool (decide _)) rfl) (fun hg21 => ?_) (fun hg21 => ?_)
    · refine A_takeG (i := 3) rfl (by kernel_rfl) (by kernel_rfl) (by kernel_rfl) rfl hS rfl rfl rfl rfl (fun _ hw => r_moveV (v := .slice _ _ _) rfl) ?_; refine A_takeG (i := 4) rfl (by kernel_rfl) (by kernel_rfl) (by kernel_rfl) rfl hS rfl rfl rfl rfl (fun _ hw => r_moveV (v := .int _ _) rfl) ?_; refine A_takeG (i := 5) rfl (by kernel_rfl) (by kernel_rfl) (by kernel_rfl) rfl hS rfl rfl rfl rfl (fun _ hw => r_indexAddrK (by rw [← hA1]; rfl) rfl Tryd.underlying23 Tryd.sz35 hlt) ?_; refine A_takeG (i := 6) rfl (by kernel_rfl) (by kernel_rfl) (by kernel_rfl) rfl hS rfl rfl rfl rfl (fun _ hw => r_fieldAddr rfl Tryd.fld35_0 rfl) ?_; refine A_takeG (i := 7) rfl (by kernel_rfl) (by kernel_rfl) (by kernel_rfl) rfl hS rfl rfl rfl rfl (fun _ hw => r_load (v := .string (str t2[i].p)) rfl Tryd.underlying9 rfl (ext_cell hw.1 (hc1 0 (by omega)))) ?_; refine A_takeG (i := 8) rfl (by kernel_rfl) (by kernel_rfl) (by kernel_rfl) rfl hS rfl rfl rfl rfl (fun _ hw => r_fieldAddr rfl Tryd.fld35_0 rfl) ?_; refine A_takeG (i := 9) rfl (by kernel_rfl) (by kernel_rfl) (by kernel_rfl) rfl hS rfl rfl rfl rfl (fun _ hw => r_load (v := .string (str f.p)) rfl Tryd.underlying9 rfl (Blk.cell (Blk.at DB0_0 (hw.2 _ (Or.inl rfl))) rfl)) ?_; refine A_takeG (i := 10) rfl (by kernel_rfl) (by kernel_rfl) (by kernel_rfl) rfl hS rfl rfl rfl rfl (fun _ hw => rt_gtr rfl rfl) ?_; refine A_take (i := 11) rfl (by kernel_rfl) (by kernel_rfl) (by kernel_rfl) rfl hS (fun _ hw => r_pickTV (v := .bool _) rfl rfl) ?_; refine A_done (by kernel_rfl) ?_; refine W_ifp rfl (fun ht30 => ?_) (fun ht30 => ?_)
      · refine W_seq ?_; refine W_region ?_; refine op rfl (r_moveV (v := v) rfl) ?_; refine op rfl (r_loadRow (c := #[.string (str f.p), .slice Af f.b.length cf]) (by rfl) B0_0 Tryd.underlying35 rfl Tryd.sz35) ?_; refine op_newS rfl (r_buildRows (vs := [[.string (str f.p), .slice Af f.b.length cf]]) Tryd.underlying23 Tryd.sz35 Tryd.zero35 rfl rfl rfl) ?_; intro w7 b7 E7 B7 L7; have hX7 := hX.trans E7; have hX7w := hXs.trans hX7; refine op_appG (W0 := w2) (T := fiT) (F := fun b => G b ∨ (Value.slice A2 t2.length cap2).ownBlock = some b) (m := [f]) rfl rfl rfl Tryd.underlying23 Tryd.sz35 Tryd.by35 Tryd.zero35 rfl hF2 hX7 (hOv.ext (hD.trans E7) (fun b hb => Nat.lt_of_lt_of_le (hF2 b hb) hX'.size)) (Src.blk B7 (fiT.keep hRf (fun b hb => hX7w.block b (hG b hb)) (fun b hb => Or.inl hb))) (by simp only [List.length_singleton]; omega) (by simp only [List.length_singleton]; omega) ?_; intro v8 w8 O8 X8; clear hX B0_0; have hX := X8; have B0_0 := Blk.ext B0s X8; have hOc := O8
        have hik : i = kp := by
          rcases Nat.lt_trichotomy i kp with q | q | q
          · exact absurd ht30 (hkno i hlt q)
          · exact q
          · omega
        have hlo : outP t2 f kp (i + 1) = (outP t2 f kp i ++ [f]) ++ [t2[i]] := by subst hik; exact outP_eq hlt
        have hoc : (outP t2 f kp i ++ [f]).length ≤ i + 1 := by
          have : (outP t2 f kp i).length = i := by subst hik; unfold outP; rw [if_neg (by omega), List.length_take]; omega
          simp [this]
        refine op rfl (r_assignV (v := v8) rfl) ?_; refine WL_nil ?_; refine W_region ?_; refine op rfl (r_assignV (v := .bool _) rfl) ?_; refine WL_nil ?_; refine W_region ?_; refine op rfl (r_moveV (v := _) rfl) ?_; refine op rfl (r_moveV (v := .slice _ _ _) rfl) ?_; refine op rfl (r_moveV (v := .int _ _) rfl) ?_; refine op rfl (r_indexAddrK (by rw [← hA1]; rfl) rfl Tryd.underlying23 Tryd.sz35 hlt) ?_; refine op rfl (r_load_agg (cs := [.string (str t2[i].p), .slice Ai t2[i].b.length ci]) rfl Tryd.underlying35 rfl Tryd.sz35 rfl (ext_row hX rfl hc1)) ?_; refine op_newS rfl (r_buildRows (vs := [[.string (str t2[i].p), .slice Ai t2[i].b.length ci]]) Tryd.underlying23 Tryd.sz35 Tryd.zero35 rfl rfl rfl) ?_; intro w9 b9 E9 B9 L9; have hX9 := hX.trans E9
        first
          | have hOd := hOc.ext E9 (fun b hb => Nat.lt_of_lt_of_le (hF2 b hb) hX.size)
          | have hOd := hOc.ext (hD.trans E9) (fun b hb => Nat.lt_of_lt_of_le (hF2 b hb) hX'.size)
        refine op_appG (W0 := w2) (T := fiT) (F := fun b => G b ∨ (Value.slice A2 t2.length cap2).ownBlock = some b) (m := [t2[i]]) rfl rfl rfl Tryd.underlying23 Tryd.sz35 Tryd.by35 Tryd.zero35 rfl hF2 hX9 hOd (Src.blk B9 (fiT.keep hR1 (fun b hb => hX9.block b (hF2 b hb)) (fun b hb => hb))) (by simp only [List.length_singleton]; omega) (by simp only [List.length_singleton]; omega) ?_; intro v10 w10 O10 X10; clear hX B0_0; have hX := X10; have B0_0 := Blk.ext B0s X10; refine op rfl (r_assignV (v := v10) rfl) ?_; refine WL_nil ?_; refine W_region ?_; refine op rfl (r_moveV (v := .int _ _) rfl) ?_; refine op rfl (r_add' (r := ((i + 1 : Nat) : Int)) rfl rfl (by rw [wrap_i64 (by omega) (by omega)]; omega)) ?_; refine op rfl (r_assignV (v := .int _ _) rfl) ?_; refine WL_nil ?_; refine ⟨?_, by repeat (first | with_reducible exact Out.refl _ _ | with_reducible exact Out.mix | refine Out.put rfl ?_ | refine Out.mixin rfl ?_ | exact Out.refl _ _ | exact Out.mix)⟩
        have hOut : Eng.Own fiT w10 (fun b => G b ∨ (Value.slice A2 t2.length cap2).ownBlock = some b) w2.heap.size 35 v10 (outP t2 f kp (i + 1)) := by
          first
            | (rw [hlo]; exact O10)
            | (rw [outP_gt hlt (by omega)]; exact O10)
            | (refine (outP_lt hlt ?_) ▸ O10
               rcases Nat.lt_trichotomy i kp with q | q | q
               · exact q
               · subst q; exact absurd (hkat hlt) (by assumption)
               · omega)
        refine ⟨t2.length - (i + 1), by omega, i + 1, _, rfl, by omega, rfl, rfl, ?_, hOut, hX, B0_0⟩
        first
          | (have h1 : kp < i + 1 := by omega
             rw [decide_eq_true h1]; rfl)
          | (have h1 : kp < i + 1 := by omega
             have h2 : kp < i := by omega
             show Value.bool (decide (kp < i)) = _
             rw [decide_eq_true h1, decide_eq_true h2])
          | (have hni : ¬ kp < i + 1 := fun q => by
               have q2 : i = kp := by omega
               subst q2; exact absurd (hkat hlt) (by assumption)
             have h2 : ¬ kp < i := by omega
             show Value.bool (decide (kp < i)) = _
             rw [decide_eq_false hni, decide_eq_false h2])
      · refine W_skip ?_; refine W_region ?_; refine op rfl (r_moveV (v := _) rfl) ?_; refine op rfl (r_moveV (v := .slice _ _ _) rfl) ?_; refine op rfl (r_moveV (v := .int _ _) rfl) ?_; refine op rfl (r_indexAddrK (by rw [← hA1]; rfl) rfl Tryd.underlying23 Tryd.sz35 hlt) ?_; refine op rfl (r_load_agg (cs := [.string (str t2[i].p), .slice Ai t2[i].b.length ci]) rfl Tryd.underlying35 rfl Tryd.sz35 rfl (ext_row hX rfl hc1)) ?_; refine op_newS rfl (r_buildRows (vs := [[.string (str t2[i].p), .slice Ai t2[i].b.length ci]]) Tryd.underlying23 Tryd.sz35 Tryd.zero35 rfl rfl rfl) ?_; intro w9 b9 E9 B9 L9; have hX9 := hX.trans E9
        first
          | have hOd := hOc.ext E9 (fun b hb => Nat.lt_of_lt_of_le (hF2 b hb) hX.size)
          | have hOd := hOc.ext (hD.trans E9) (fun b hb => Nat.lt_of_lt_of_le (hF2 b hb) hX'.size)
        refine op_appG (W0 := w2) (T := fiT) (F := fun b => G b ∨ (Value.slice A2 t2.length cap2).ownBlock = some b) (m := [t2[i]]) rfl rfl rfl Tryd.underlying23 Tryd.sz35 Tryd.by35 Tryd.zero35 rfl hF2 hX9 hOd (Src.blk B9 (fiT.keep hR1 (fun b hb => hX9.block b (hF2 b hb)) (fun b hb => hb))) (by simp only [List.length_singleton]; omega) (by simp only [List.length_singleton]; omega) ?_; intro v10 w10 O10 X10; clear hX B0_0; have hX := X10; have B0_0 := Blk.ext B0s X10; refine op rfl (r_assignV (v := v10) rfl) ?_; refine WL_nil ?_; refine W_region ?_; refine op rfl (r_moveV (v := .int _ _) rfl) ?_; refine op rfl (r_add' (r := ((i + 1 : Nat) : Int)) rfl rfl (by rw [wrap_i64 (by omega) (by omega)]; omega)) ?_; refine op rfl (r_assignV (v := .int _ _) rfl) ?_; refine WL_nil ?_; refine ⟨?_, by repeat (first | with_reducible exact Out.refl _ _ | with_reducible exact Out.mix | refine Out.put rfl ?_ | refine Out.mixin rfl ?_ | exact Out.refl _ _ | exact Out.mix)⟩
        have hOut : Eng.Own fiT w10 (fun b => G b ∨ (Value.slice A2 t2.length cap2).ownBlock = some b) w2.heap.size 35 v10 (outP t2 f kp (i + 1)) := by
          first
            | (rw [hlo]; exact O10)
            | (rw [outP_gt hlt (by omega)]; exact O10)
            | (refine (outP_lt hlt ?_) ▸ O10
               rcases Nat.lt_trichotomy i kp with q | q | q
               · exact q
               · subst q; exact absurd (hkat hlt) (by assumption)
               · omega)
        refine ⟨t2.length - (i + 1), by omega, i + 1, _, rfl, by omega, rfl, rfl, ?_, hOut, hX, B0_0⟩
        first
          | (have h1 : kp < i + 1 := by omega
             rw [decide_eq_true h1]; rfl)
          | (have h1 : kp < i + 1 := by omega
             have h2 : kp < i := by omega
             show Value.bool (decide (kp < i)) = _
             rw [decide_eq_true h1, decide_eq_true h2])
          | (have hni : ¬ kp < i + 1 := fun q => by
               have q2 : i = kp := by omega
               subst q2; exact absurd (hkat hlt) (by assumption)
             have h2 : ¬ kp < i := by omega
             show Value.bool (decide (kp < i)) = _
             rw [decide_eq_false hni, decide_eq_false h2])
    · refine A_skip (i := 3) rfl (by kernel_rfl) (by kernel_rfl) (by kernel_rfl) rfl hS rfl rfl rfl rfl ?_; refine A_skip (i := 4) rfl (by kernel_rfl) (by kernel_rfl) (by kernel_rfl) rfl hS rfl rfl rfl rfl ?_; refine A_skip (i := 5) rfl (by kernel_rfl) (by kernel_rfl) (by kernel_rfl) rfl hS rfl rfl rfl rfl ?_; refine A_skip (i := 6) rfl (by kernel_rfl) (by kernel_rfl) (by kernel_rfl) rfl hS rfl rfl rfl rfl ?_; refine A_skip (i := 7) rfl (by kernel_rfl) (by kernel_rfl) (by kernel_rfl) rfl hS rfl rfl rfl rfl ?_; refine A_skip (i := 8) rfl (by kernel_rfl) (by kernel_rfl) (by kernel_rfl) rfl hS rfl rfl rfl rfl ?_; refine A_skip (i := 9) rfl (by kernel_rfl) (by kernel_rfl) (by kernel_rfl) rfl hS rfl rfl rfl rfl ?_; refine A_skip (i := 10) rfl (by kernel_rfl) (by kernel_rfl) (by kernel_rfl) rfl hS rfl rfl rfl rfl ?_; refine A_take (i := 11) rfl (by kernel_rfl) (by kernel_rfl) (by kernel_rfl) rfl hS (fun _ hw => r_pickFV (v := .bool _) rfl rfl) ?_; refine A_done (by kernel_rfl) ?_; refine W_else rfl ?_; refine W_skip ?_; refine W_region ?_; refine op rfl (r_moveV (v := _) rfl) ?_; refine op rfl (r_moveV (v := .slice _ _ _) rfl) ?_; refine op rfl (r_moveV (v := .int _ _) rfl) ?_; refine op rfl (r_indexAddrK (by rw [← hA1]; rfl) rfl Tryd.underlying23 Tryd.sz35 hlt) ?_; refine op rfl (r_load_agg (cs := [.string (str t2[i].p), .slice Ai t2[i].b.length ci]) rfl Tryd.underlying35 rfl Tryd.sz35 rfl (ext_row hX rfl hc1)) ?_; refine op_newS rfl (r_buildRows (vs := [[.string (str t2[i].p), .slice Ai t2[i].b.length ci]]) Tryd.underlying23 Tryd.sz35 Tryd.zero35 rfl rfl rfl) ?_; intro w9 b9 E9 B9 L9; have hX9 := hX.trans E9
      first
        | have hOd := hOc.ext E9 (fun b hb => Nat.lt_of_lt_of_le (hF2 b hb) hX.size)
        | have hOd := hOc.ext (hD.trans E9) (fun b hb => Nat.lt_of_lt_of_le (hF2 b hb) hX'.size)
      refine op_appG (W0 := w2) (T := fiT) (F := fun b => G b ∨ (Value.slice A2 t2.length cap2).ownBlock = some b) (m := [t2[i]]) rfl rfl rfl Tryd.underlying23 Tryd.sz35 Tryd.by35 Tryd.zero35 rfl hF2 hX9 hOd (Src.blk B9 (fiT.keep hR1 (fun b hb => hX9.block b (hF2 b hb)) (fun b hb => hb))) (by simp only [List.length_singleton]; omega) (by simp only [List.length_singleton]; omega) ?_; intro v10 w10 O10 X10; clear hX B0_0; have hX := X10; have B0_0 := Blk.ext B0s X10; refine op rfl (r_assignV (v := v10) rfl) ?_; refine WL_nil ?_; refine W_region ?_; refine op rfl (r_moveV (v := .int _ _) rfl) ?_; refine op rfl (r_add' (r := ((i + 1 : Nat) : Int)) rfl rfl (by rw [wrap_i64 (by omega) (by omega)]; omega)) ?_; refine op rfl (r_assignV (v := .int _ _) rfl) ?_; refine WL_nil ?_; refine ⟨?_, by repeat (first | with_reducible exact Out.refl _ _ | with_reducible exact Out.mix | refine Out.put rfl ?_ | refine Out.mixin rfl ?_ | exact Out.refl _ _ | exact Out.mix)⟩
      have hOut : Eng.Own fiT w10 (fun b => G b ∨ (Value.slice A2 t2.length cap2).ownBlock = some b) w2.heap.size 35 v10 (outP t2 f kp (i + 1)) := by
        first
          | (rw [hlo]; exact O10)
          | (rw [outP_gt hlt (by omega)]; exact O10)
          | (refine (outP_lt hlt ?_) ▸ O10
             rcases Nat.lt_trichotomy i kp with q | q | q
             · exact q
             · subst q; exact absurd (hkat hlt) (by assumption)
             · omega)
      refine ⟨t2.length - (i + 1), by omega, i + 1, _, rfl, by omega, rfl, rfl, ?_, hOut, hX, B0_0⟩
      first
        | (have h1 : kp < i + 1 := by omega
           rw [decide_eq_true h1]; rfl)
        | (have h1 : kp < i + 1 := by omega
           have h2 : kp < i := by omega
           show Value.bool (decide (kp < i)) = _
           rw [decide_eq_true h1, decide_eq_true h2])
        | (have hni : ¬ kp < i + 1 := fun q => by
             have q2 : i = kp := by omega
             subst q2; exact absurd (hkat hlt) (by assumption)
           have h2 : ¬ kp < i := by omega
           show Value.bool (decide (kp < i)) = _
           rw [decide_eq_false hni, decide_eq_false h2])
  · have hin : i = t2.length := by omega
    have hol := outP_len t2 f kp i; refine W_exit (blk_hit ?_); refine W_seq ?_; refine W_seq ?_; refine W_region ?_; refine op rfl (r_moveV (v := .bool _) rfl) ?_; refine op rfl (r_notP rfl) ?_; refine WL_nil ?_; refine W_ifp rfl (fun ht43 => ?_) (fun ht43 => ?_)
    · refine W_region ?_; refine op rfl (r_moveV (v := v) rfl) ?_; refine op rfl (r_loadRow (c := #[.string (str f.p), .slice Af f.b.length cf]) (by rfl) B0_0 Tryd.underlying35 rfl Tryd.sz35) ?_; refine op_newS rfl (r_buildRows (vs := [[.string (str f.p), .slice Af f.b.length cf]]) Tryd.underlying23 Tryd.sz35 Tryd.zero35 rfl rfl rfl) ?_; intro w11 b11 E11 B11 L11; have hX11 := hX.trans E11; have hX11w := hXs.trans hX11
      have hoe : (outP t2 f kp i).length ≤ i := by unfold outP; rw [if_neg (by omega), List.length_take]; omega
      refine op_appG (W0 := w2) (T := fiT) (F := fun b => G b ∨ (Value.slice A2 t2.length cap2).ownBlock = some b) (m := [f]) rfl rfl rfl Tryd.underlying23 Tryd.sz35 Tryd.by35 Tryd.zero35 rfl hF2 hX11 (hOv.ext E11 (fun b hb => Nat.lt_of_lt_of_le (hF2 b hb) hX.size)) (Src.blk B11 (fiT.keep hRf (fun b hb => hX11w.block b (hG b hb)) (fun b hb => Or.inl hb))) (by simp only [List.length_singleton]; omega) (by simp only [List.length_singleton]; omega) ?_; intro v12 w12 O12 X12; clear hX; have hX := X12; refine op rfl (r_assignV (v := v12) rfl) ?_; refine WL_nil ?_; refine W_seq ?_; refine W_region ?_; refine op rfl (r_moveV (v := _) rfl) ?_; refine op rfl (r_assignV (v := _) rfl) ?_; refine WL_nil ?_; refine W_ret (finX_ret ?_); refine fin1 ?_
      have hput : putT l f = t2.take kp ++ f :: t2.drop kp := by unfold putT; rw [← ht2, ← hk]
      subst hin
      have hend : ∀ {v' : Value} {W : World}, Ext w2 W → Eng.Own fiT W (fun b => G b ∨ (Value.slice A2 t2.length cap2).ownBlock = some b) w2.heap.size 35 v' (putT l f) → ∃ A' cap', v' = .slice A' (putT l f).length cap' ∧ (putT l f).length ≤ cap' ∧ fiT.Row W (fun b => G b ∨ since w W b) A' (putT l f) := fun {v' W} hW hO' => by
        obtain ⟨A3, cap3, e3, hc3, hr3⟩ := hO'.read; refine ⟨A3, cap3, e3, hc3, hr3.keep (fun _ _ => rfl) ?_⟩; have hs := hW.size; have hs1 := hXs.size; rintro b ((q | q) | q)
        · exact Or.inl q
        · have := hO.lt q; exact Or.inr ⟨by omega, by omega⟩
        · have := hO'.lt q; exact Or.inr ⟨by omega, by omega⟩
      first
        | (refine ⟨_, rfl, hend hX ?_, hXs.trans hX⟩
           have hkk : kp = t2.length := by omega
           have he : outP t2 f kp t2.length ++ [f] = t2.take kp ++ f :: t2.drop kp := by rw [hkk]; exact outP_end0
           rw [hput, ← he]
           exact O12)
        | (refine ⟨_, rfl, hend hX ?_, hXs.trans hX⟩
           rw [hput, ← outP_end (by omega)]
           exact hOv)
    · refine W_skip ?_; refine W_seq ?_; refine W_region ?_; refine op rfl (r_moveV (v := _) rfl) ?_; refine op rfl (r_assignV (v := _) rfl) ?_; refine WL_nil ?_; refine W_ret (finX_ret ?_); refine fin1 ?_
      have hput : putT l f = t2.take kp ++ f :: t2.drop kp := by unfold putT; rw [← ht2, ← hk]
      subst hin
      have hend : ∀ {v' : Value} {W : World}, Ext w2 W → Eng.Own fiT W (fun b => G b ∨ (Value.slice A2 t2.length cap2).ownBlock = some b) w2.heap.size 35 v' (putT l f) → ∃ A' cap', v' = .slice A' (putT l f).length cap' ∧ (putT l f).length ≤ cap' ∧ fiT.Row W (fun b => G b ∨ since w W b) A' (putT l f) := fun {v' W} hW hO' => by
        obtain ⟨A3, cap3, e3, hc3, hr3⟩ := hO'.read; refine ⟨A3, cap3, e3, hc3, hr3.keep (fun _ _ => rfl) ?_⟩; have hs := hW.size; have hs1 := hXs.size; rintro b ((q | q) | q)
        · exact Or.inl q
        · have := hO.lt q; exact Or.inr ⟨by omega, by omega⟩
        · have := hO'.lt q; exact Or.inr ⟨by omega, by omega⟩
      first
        | (refine ⟨_, rfl, hend hX ?_, hXs.trans hX⟩
           have hkk : kp = t2.length := by omega
           have he : outP t2 f kp t2.length ++ [f] = t2.take kp ++ f :: t2.drop kp := by rw [hkk]; exact outP_end0
           rw [hput, ← he]
           exact O12)
        | (refine ⟨_, rfl, hend hX ?_, hXs.trans hX⟩
           rw [hput, ← outP_end (by omega)]
           exact hOv)
end Go.Proofs.YtmedmajdoecjfaaDoor
