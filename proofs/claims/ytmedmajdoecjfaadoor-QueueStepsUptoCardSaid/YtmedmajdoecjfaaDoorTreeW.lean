/-
  The walks of package tree: changes.
-/
import Derived.Test.YtmedmajdoecjfaaDoorFacts
import Derived.Test.YtmedmajdoecjfaaDoorPathW
import Derived.Test.YtmedmajdoecjfaaDoorSlcW
import Derived.Test.YtmedmajdoecjfaaDoorTreeM
namespace Go.Proofs.YtmedmajdoecjfaaDoor
open Go Go.Eng Go.RowKit Go.Proofs
set_option linter.unusedVariables false
set_option linter.unusedSimpArgs false
set_option maxHeartbeats 2000000

theorem deleteFuncA_spec {gf : Nat} {lb : List Value} {p : List Value → Bool} {Q : List Value → Prop} {K : World → Prop} (hp : PredC gf lb p Q K) {rs : List (List Value)} {A : Option Addr} {cap B : Nat} {w : World} (hO : Eng.Own (rawT 2) w nobody B 35 (.slice A rs.length cap) rs) (hQ : ∀ r ∈ rs, Q r) (hS : ∀ r ∈ rs, FileR r) (hK : K w)
    (hKc : ∀ g W W', (Value.slice A rs.length cap).ownBlock = some g → K W → Chg g W W' → K W') (hl : rs.length ≤ 140737488355328) :
    Calls Tryd.prog 85 #[.slice A rs.length cap, .func (.func gf) #[] lb.toArray] w (fun en w' => ∃ v, en = .returned v ∧ Eng.Own (rawT 2) w' nobody B 35 v (rs.filter (fun r => !p r)) ∧ v.ownBlock = (Value.slice A rs.length cap).ownBlock ∧ Gro (Value.slice A rs.length cap).ownBlock w w') := by
  have hO0 := hO
  rcases hO with ⟨hv, rfl⟩ | ⟨g, cap', c, xs, hv, _⟩
  · simp only [Value.slice.injEq] at hv
    obtain ⟨rfl, _, rfl⟩ := hv; have hix : ixI (([] : List (List Value)).findIdx p) ([] : List (List Value)).length = -1 := rfl; refine calls' (n := 42) (rs := #[.tmp 4]) (l := [.slice none 0 0, .func (.func gf) #[] lb.toArray]) Tryd.func85 rfl rfl rfl rfl rfl ?_; have hX := Ext.refl w; refine W_seq ?_; refine W_region ?_; refine op rfl (r_assignV (v := .slice _ _ _) rfl) ?_; refine WL_nil ?_; refine W_seq ?_; refine W_region ?_; refine op rfl (r_moveV (v := .slice _ _ _) rfl) ?_; refine op rfl (r_moveV (v := .func (.func gf) #[] lb.toArray) rfl) ?_; refine opCv rfl (r_call Tryd.func77 Tryd.nm77 rfl) (indexFunc_spec hp (rs := []) (Or.inl rfl) (by simp) (hp.ext _ _ hK hX) (by simp)) ?_; rintro v w2 ⟨rfl, hE⟩; replace hX := hX.trans hE; refine op rfl (r_assignV (v := .int _ _) rfl) ?_; refine WL_nil ?_; refine W_seq ?_; refine W_seq ?_; refine W_region ?_; refine op rfl (r_moveV (v := .int _ _) rfl) ?_; refine op rfl (r_eql rfl rfl) ?_; refine WL_nil ?_; refine W_ifp rfl (fun ht12 => ?_) (fun ht12 => ?_)
    · refine W_seq ?_; refine W_region ?_; refine op rfl (r_moveV (v := .slice _ _ _) rfl) ?_; refine op rfl (r_assignV (v := .slice _ _ _) rfl) ?_; refine WL_nil ?_; refine W_ret (finX_ret ?_); refine fin1 ?_; exact ⟨_, rfl, .nil, rfl, ⟨hX.os, hX.tape, hX.output, hX.size, fun k hk _ => hX.block k hk⟩⟩
    · exact absurd hix ht12
  · simp only [Value.slice.injEq] at hv
    obtain ⟨rfl, _, rfl⟩ := hv; refine (deleteFunc_spec hp hO0 hQ hS hK (fun W W' => hKc g W W' rfl) hl).mono ?_; rintro en w' ⟨v, rfl, rfl, h1, h2⟩; exact ⟨_, rfl, h1, rfl, ⟨h2.os, h2.tape, h2.output, h2.size, fun k hk hne => h2.block k hk (fun q => hne (by rw [q]; rfl))⟩⟩
def isP (s : List UInt8) (r : List Value) : Bool := match r with
  | .string q :: _ => decide (q.data.toList = s)
  | _ => false
def gtP (s : List UInt8) (r : List Value) : Bool := match r with
  | .string q :: _ => decide (bLt s q.data.toList)
  | _ => false
theorem fi_raw {w : World} {F : Nat → Prop} {x : Fi} {r : List Value} (h : fiT.R w F x r) : FileR r := by
  obtain ⟨A, c, rfl, _⟩ := fi_cells h; exact ⟨_, _, _, _, rfl⟩
theorem isP_fi {w : World} {F : Nat → Prop} {x : Fi} {r : List Value} {s : List UInt8} (h : fiT.R w F x r) : isP s r = decide (x.p = s) := by
  obtain ⟨A, c, rfl, _⟩ := fi_cells h
  rfl
theorem gtP_fi {w : World} {F : Nat → Prop} {x : Fi} {r : List Value} {s : List UInt8} (h : fiT.R w F x r) : gtP s r = decide (bLt s x.p) := by
  obtain ⟨A, c, rfl, _⟩ := fi_cells h
  rfl
theorem is_spec (s : List UInt8) (w : World) :
    Calls Tryd.prog 79 #[.string (str s)] w (fun en w' => ∃ v, en = .returned v ∧ ∃ b, v = .func (.func 84) #[] #[.pointer (some ⟨b, 0, none⟩)] ∧ Ext w w' ∧ Blk w' b #[.string (str s)] 9 ∧ w.heap.size ≤ b) := by
  refine calls' (n := 4) (rs := #[.tmp 2]) (l := [.string (str s)]) Tryd.func79 rfl rfl rfl rfl rfl ?_; have hX := Ext.refl w; refine W_seq ?_; refine W_region ?_; refine op_box (v := .string _) rfl rfl ?_; intro w0_0 b0_0 E0_0 B0_0 L0_0
  have hG0_0 : w.heap.size ≤ b0_0 := by have := hX.size; omega
  replace hX := hX.trans E0_0; refine op rfl (r_assignV (v := .nilFunc) rfl) ?_; refine WL_nil ?_; refine W_seq ?_; refine W_region ?_; refine op rfl (r_makeFunc) ?_; refine op rfl (r_assignV (v := .func (.func 84) #[] #[.pointer (some ⟨b0_0, 0, none⟩)]) rfl) ?_; refine WL_nil ?_; refine W_ret (finX_ret ?_); refine fin1 ?_; exact ⟨_, rfl, b0_0, rfl, hX, B0_0, hG0_0⟩
theorem is_pred (b : Nat) (s : List UInt8) : PredC 84 [.pointer (some ⟨b, 0, none⟩)] (isP s) FileR (fun W => Blk W b #[.string (str s)] 9) := by
  refine ⟨⟨_, Tryd.func84, Tryd.nm84, rfl⟩, ?_, fun W W' h he => h.ext he⟩; rintro r W ⟨q, A, n, c, rfl⟩ hb; obtain ⟨q, rfl⟩ : ∃ l, q = str l := ⟨q.data.toList, (str_of q).symm⟩
  show Calls Tryd.prog 84 #[.agg #[.string (str q), .slice A n c], .pointer (some ⟨b, 0, none⟩)] W _
  refine calls' (n := 8) (rs := #[.tmp 3]) (l := [.agg #[.string (str q), .slice A n c], .pointer (some ⟨b, 0, none⟩)]) Tryd.func84 rfl rfl rfl rfl rfl ?_; have hX := Ext.refl W; refine W_seq ?_; refine W_region ?_; refine op_box (v := .agg _) rfl rfl ?_; intro w0_0 b0_0 E0_0 B0_0 L0_0
  have hG0_0 : W.heap.size ≤ b0_0 := by have := hX.size; omega
  have hNb_0_0 : b ≠ b0_0 := by have := Blk.lt hb; omega
  replace hb := Blk.ext hb E0_0; replace hX := hX.trans E0_0; refine op rfl (r_assignV (v := .bool _) rfl) ?_; refine WL_nil ?_; refine W_seq ?_; refine W_region ?_; refine op rfl (r_fieldAddr rfl Tryd.fld35_0 rfl) ?_; refine op rfl (r_load (v := .string (str q)) rfl Tryd.underlying9 rfl (Blk.cell B0_0 rfl)) ?_; refine op rfl (r_load (v := .string (str s)) rfl Tryd.underlying9 rfl (Blk.cell hb rfl)) ?_; refine op rfl (rt_eql rfl rfl) ?_; refine op rfl (r_assignV (v := .bool _) rfl) ?_; refine WL_nil ?_; refine W_ret (finX_ret ?_); refine fin1 ?_; exact ⟨_, rfl, bool_iff (by show q = s ↔ decide (q = s) = true; exact decide_eq_true_iff.symm), hX⟩
theorem gt_pred (b : Nat) (s : List UInt8) (v : Value) : PredC 86 [.pointer (some ⟨b, 0, none⟩)] (gtP s) FileR (fun W => Blk W b #[.string (str s), v] 35) := by
  refine ⟨⟨_, Tryd.func86, Tryd.nm86, rfl⟩, ?_, fun W W' h he => h.ext he⟩; rintro r W ⟨q, A, n, c, rfl⟩ hb; obtain ⟨q, rfl⟩ : ∃ l, q = str l := ⟨q.data.toList, (str_of q).symm⟩
  show Calls Tryd.prog 86 #[.agg #[.string (str q), .slice A n c], .pointer (some ⟨b, 0, none⟩)] W _
  refine calls' (n := 9) (rs := #[.tmp 3]) (l := [.agg #[.string (str q), .slice A n c], .pointer (some ⟨b, 0, none⟩)]) Tryd.func86 rfl rfl rfl rfl rfl ?_; have hX := Ext.refl W; refine W_seq ?_; refine W_region ?_; refine op_box (v := .agg _) rfl rfl ?_; intro w0_0 b0_0 E0_0 B0_0 L0_0
  have hG0_0 : W.heap.size ≤ b0_0 := by have := hX.size; omega
  have hNb_0_0 : b ≠ b0_0 := by have := Blk.lt hb; omega
  replace hb := Blk.ext hb E0_0; replace hX := hX.trans E0_0; refine op rfl (r_assignV (v := .bool _) rfl) ?_; refine WL_nil ?_; refine W_seq ?_; refine W_region ?_; refine op rfl (r_fieldAddr rfl Tryd.fld35_0 rfl) ?_; refine op rfl (r_load (v := .string (str q)) rfl Tryd.underlying9 rfl (Blk.cell B0_0 rfl)) ?_; refine op rfl (r_fieldAddr rfl Tryd.fld35_0 rfl) ?_; refine op rfl (r_load (v := .string (str s)) rfl Tryd.underlying9 rfl (Blk.cell hb rfl)) ?_; refine op rfl (rt_gtr rfl rfl) ?_; refine op rfl (r_assignV (v := .bool _) rfl) ?_; refine WL_nil ?_; refine W_ret (finX_ret ?_); refine fin1 ?_; exact ⟨_, rfl, bool_iff (by show bLt s q ↔ decide (bLt s q) = true; exact decide_eq_true_iff.symm), hX⟩
abbrev newF (w w' : World) (v : Value) : Nat → Prop := fun b => w.heap.size ≤ b ∧ b < w'.heap.size ∧ v.ownBlock ≠ some b
abbrev OwnT (w0 w : World) (v : Value) (l : Tree) : Prop := Eng.Own fiT w (newF w0 w v) w0.heap.size 35 v l
theorem OwnT.ext {w0 w w' : World} {v : Value} {l : Tree} (h : OwnT w0 w v l) (he : Ext w w') : OwnT w0 w' v l :=
  h.keep (fun b hb => he.block b hb.2.1) (fun b hb => ⟨hb.1, Nat.lt_of_lt_of_le hb.2.1 he.size, hb.2.2⟩) (fun g hg => he.block g (h.lt hg).2)
theorem OwnT.low {w0 w1 w : World} {v : Value} {l : Tree} (h : OwnT w1 w v l) (hs : w0.heap.size ≤ w1.heap.size) : OwnT w0 w v l :=
  (Eng.Own.low h hs).mono (fun b hb => ⟨Nat.le_trans hs hb.1, hb.2⟩)
theorem copied_spec {A : Option Addr} {cap : Nat} {l : Tree} {w : World} {G : Nat → Prop} (hG : ∀ b, G b → b < w.heap.size) (hrow : fiT.Row w G A l) (hl : l.length * 40 ≤ 140737488355328) :
    Calls Tryd.prog 65 #[.slice A l.length cap] w (fun en w' => ∃ v, en = .returned v ∧ OwnT w w' v l ∧ Ext w w') := by
  obtain ⟨rs, hal, hrr⟩ := Row.raw hrow; have hlen := hal.len
  have hcl : ∀ w', Ext w w' → Calls Tryd.prog 78 #[.slice A l.length cap] w' (fun en w'' => ∃ v, en = .returned v ∧ Ext w' w'' ∧ Eng.Own (rawT 2) w'' nobody w'.heap.size 35 v rs) := fun w' he => by
    have := cloneF_spec A cap rs w' (by omega) (fun b hb => Nat.lt_of_lt_of_le (hG b hb) he.size) (hrr.keep (fun b hb => he.block b (hG b hb)) (fun _ h => h))
    rw [← hlen] at this; exact this
  refine calls' (n := 24) (rs := #[.tmp 2]) (l := [.slice A l.length cap]) Tryd.func65 rfl rfl rfl rfl rfl ?_; have hX := Ext.refl w; refine W_seq ?_; refine W_region ?_; refine op rfl (r_assignV (v := .slice _ _ _) rfl) ?_; refine WL_nil ?_; refine W_seq ?_; refine W_region ?_; refine op rfl (r_moveV (v := .slice _ _ _) rfl) ?_; refine opCv rfl (r_call Tryd.func78 Tryd.nm78 rfl) (hcl _ hX) ?_; rintro v w2 ⟨hE, hO⟩; replace hX := hX.trans hE; obtain ⟨A1, cap1, rfl, hc1, -⟩ := hO.read; refine op rfl (r_assignV (v := .slice _ _ _) rfl) ?_; refine WL_nil ?_; refine W_seq ?_; refine W_seq ?_; refine W_region ?_; refine op rfl (r_moveV (v := .slice _ _ _) rfl) ?_; refine op rfl (r_len_slice rfl Tryd.underlying23) ?_; refine op rfl (r_moveV (v := .int _ _) rfl) ?_; refine WL_nil ?_; refine W_block ?_; refine W_loop [4, 5, 10, 11, 12, 13, 14, 15, 16, 17, 18, 19, 20, 21, 22] (fun q e' w' => ∃ (i : Nat) (ds : List (List Value)), q = rs.length - i ∧ i ≤ rs.length ∧ e' 10 = .int .i64 i ∧ ds.length = i ∧ Al (fiT.R w' (newF w w' (.slice A1 rs.length cap1))) (l.take i) ds ∧ Eng.Own (rawT 2) w' nobody w.heap.size 35 (.slice A1 rs.length cap1) (ds ++ rs.drop i) ∧ Ext w w') (rs.length) ?_ ?_
  · exact ⟨0, [], by omega, by omega, rfl, rfl, by simp [Al], by simpa using hO, hX⟩
  intro k g w' hI; obtain ⟨i, ds, hq, hi, h10, hdl, hda, hO', hX'⟩ := hI; clear hX hO; have hX := Ext.refl w'; refine W_set (i := 10) h10 ?_; refine W_seq ?_; refine W_region ?_; refine op rfl (r_lss rfl rfl) ?_; refine WL_nil ?_; refine W_seq ?_; refine W_ifp rfl (fun ht11 => ?_) (fun ht11 => ?_)
  · have hlt : i < rs.length := by omega
    have hcur : (ds ++ rs.drop i)[i]'(by simp; omega) = rs[i] := by
      rw [List.getElem_append_right (by omega)]
      simp [hdl]
    have hRi := hal.get i (by omega) hlt; obtain ⟨Ai, ci, hri, hbc, hbl, hpl, hbrow⟩ := fi_cells hRi
    have hset0 : ∀ u, (ds ++ rs.drop i).set i (rs[i].set 1 u) = (ds ++ [[.string (str l[i].p), u]]) ++ rs.drop (i + 1) := fun u => by
      rw [List.drop_eq_getElem_cons hlt, List.set_append_right _ _ (by omega), hdl, Nat.sub_self, List.set_cons_zero, hri]
      simp
    obtain ⟨gb, cap2, hv2, hB2, _, hcell⟩ := Own.rawAt hO' (i := i) (by simp; omega)
    rw [hcur, hri] at hcell
    simp only [Value.slice.injEq] at hv2
    obtain ⟨hA1, -, -⟩ := hv2; subst hA1; have hgl : gb < w'.heap.size := (hO'.lt (g := gb) rfl).2; refine W_skip ?_; refine W_seq ?_; refine W_block ?_; refine W_seq ?_; refine W_region ?_; refine op rfl (r_moveV (v := .int _ _) rfl) ?_; refine op rfl (r_indexAddrK0 rfl rfl Tryd.underlying23 Tryd.sz35 hlt) ?_; refine op rfl (r_load_agg (cs := [.string (str l[i].p), .slice Ai l[i].b.length ci]) rfl Tryd.underlying35 rfl Tryd.sz35 rfl hcell) ?_; refine op_alloc rfl Tryd.zero35 ?_; intro w4_3 b4_3 E4_3 B4_3 L4_3
    have hG4_3 : w'.heap.size ≤ b4_3 := by have := hX.size; omega
    replace hX := hX.trans E4_3; refine op rfl (r_assignV (v := .int _ _) rfl) ?_; refine op_storeRow rfl rfl Tryd.sz35 B4_3 rfl rfl ?_; intro w4_5 C4_5 BB4_5; replace hX := hX.chg C4_5 hG4_3; replace B4_3 := BB4_5; refine WL_nil ?_; refine W_region ?_; refine op rfl (r_moveV (v := .slice _ _ _) rfl) ?_; refine op rfl (r_moveV (v := .int _ _) rfl) ?_; refine op rfl (r_fieldAddr rfl Tryd.fld35_1 rfl) ?_; refine op rfl (r_load (v := .slice _ _ _) rfl Tryd.underlying24 rfl (Blk.cell B4_3 rfl)) ?_; have hX4 := hX; refine opCv rfl (r_call Tryd.func47 Tryd.nm47 rfl) (cloneB_spec Ai ci l[i].b _ (by omega) (fun b hb ↦ Nat.lt_of_lt_of_le (hG b hb) (hX'.trans hX).size) (hbrow.keep (fun b hb ↦ (hX'.trans hX).block b (hG b hb)) (fun _ h ↦ h))) ?_; rintro v w5 ⟨hE, hOb⟩; replace B4_3 := Blk.ext B4_3 hE; replace hX := hX.trans hE; refine op rfl (r_indexAddrK0 rfl rfl Tryd.underlying23 Tryd.sz35 hlt) ?_; refine op rfl (r_fieldAddr rfl Tryd.fld35_1 rfl) ?_; obtain ⟨Ab, cb, hvb, hcb, hrb⟩ := hOb.read
    have hv1 : v.oneCell' = true := by rw [hvb]; rfl
    have hO5 := own_fext hO' hX; obtain ⟨g3, cap3, c3, hv3, hB3, hb3, hlt3, hnew3⟩ := Own.setCell hO5 (i := i) (j := 1) (by simp; omega) (by omega) hv1
    rw [hcur] at hnew3
    simp only [Value.slice.injEq, Option.some.injEq, Addr.mk.injEq, and_true] at hv3
    obtain ⟨hg3, -, -⟩ := hv3; subst hg3; refine op_store (v := v) rfl rfl hv1 Tryd.sz24 hb3 hlt3 ?_; intro w7 C7 B7; have hO7 := hnew3 _ C7 B7; have hset := hset0 v
    rw [hset] at hO7
    have hX7 : Ext w w7 := Chg.ext (hX'.trans hX) hB2 C7; have hsz5 := hX.size; have hsz4 := hX4.size
    have hnew : fiT.R w7 (newF w w7 (.slice (some ⟨gb, 0, none⟩) rs.length cap1)) l[i] [.string (str l[i].p), v] := by
      rw [hvb]; refine fi_mk hcb hbl hpl (hrb.keep ?_ ?_)
      · rintro b (q | q)
        · exact q.elim
        · have := hOb.lt q; exact C7.block b this.2 (by omega)
      · rintro b (q | q)
        · exact q.elim
        · have := hOb.lt q; have := C7.size; have := hX'.size; exact ⟨by omega, by omega, fun q => by simp only [Value.ownBlock, Option.some.injEq] at q; omega⟩
    refine WL_nil ?_; refine W_region ?_; refine op rfl (r_add' rfl rfl (wrap_i64 (by omega) (by omega))) ?_; refine op rfl (r_moveV (v := .int _ _) rfl) ?_; refine WL_nil ?_; refine ⟨?_, by repeat (first | with_reducible exact Out.refl _ _ | with_reducible exact Out.mix | refine Out.put rfl ?_ | refine Out.mixin rfl ?_ | exact Out.refl _ _ | exact Out.mix)⟩; refine ⟨rs.length - (i + 1), by omega, i + 1, ds ++ [[.string (str l[i].p), v]], rfl, by omega, rfl, by simp [hdl], ?_, hO7, hX7⟩; rw [List.take_succ_eq_append_getElem (by omega)]; exact (hda.imp (fun x y h => fiT.keep h (fun b hb => (C7.block b (Nat.lt_of_lt_of_le hb.2.1 hX.size) (fun q => hb.2.2 (by rw [q]; rfl))).trans (hX.block b hb.2.1)) (fun b hb => ⟨hb.1, Nat.lt_of_lt_of_le hb.2.1 (Nat.le_trans hX.size C7.size), hb.2.2⟩))).app ⟨hnew, trivial⟩
  · obtain rfl : i = rs.length := by omega
    refine W_exit (blk_hit ?_); refine W_seq ?_; refine W_region ?_; refine op rfl (r_moveV (v := .slice _ _ _) rfl) ?_; refine op rfl (r_assignV (v := .slice _ _ _) rfl) ?_; refine WL_nil ?_; refine W_ret (finX_ret ?_); refine fin1 ?_
    rw [show l.take rs.length = l from by rw [← hlen, List.take_length]] at hda
    rw [List.drop_length, List.append_nil] at hO'
    exact ⟨_, rfl, Own.of_raw hO' hda, hX'⟩
theorem OwnT.rd {w0 w : World} {v : Value} {l : Tree} (h : OwnT w0 w v l) : ∃ A cap, v = .slice A l.length cap ∧ l.length ≤ cap ∧ fiT.Row w (fun b => w0.heap.size ≤ b ∧ b < w.heap.size) A l := by
  obtain ⟨A, cap, h1, h2, h3⟩ := h.read; refine ⟨A, cap, h1, h2, h3.keep (fun _ _ => rfl) ?_⟩; rintro b (q | q)
  · exact ⟨q.1, q.2.1⟩
  · exact h.lt q
theorem drop_spec {A : Option Addr} {cap : Nat} {l : Tree} {s : List UInt8} {w : World} {G : Nat → Prop} (hG : ∀ b, G b → b < w.heap.size) (hrow : fiT.Row w G A l) (hl : l.length * 40 ≤ 140737488355328) :
    Calls Tryd.prog 80 #[.slice A l.length cap, .string (str s)] w (fun en w' => ∃ v, en = .returned v ∧ OwnT w w' v (dropT l s) ∧ Ext w w') := by
  refine calls' (n := 10) (rs := #[.tmp 4]) (l := [.slice A l.length cap, .string (str s)]) Tryd.func80 rfl rfl rfl rfl rfl ?_; have hX := Ext.refl w; refine W_seq ?_; refine W_region ?_; refine op rfl (r_assignV (v := .slice _ _ _) rfl) ?_; refine WL_nil ?_; refine W_seq ?_; refine W_region ?_; refine op rfl (r_moveV (v := .slice _ _ _) rfl) ?_; refine opCv rfl (r_call Tryd.func65 Tryd.nm65 rfl) (copied_spec (fun b hb ↦ Nat.lt_of_lt_of_le (hG b hb) hX.size) (hrow.keep (fun b hb ↦ hX.block b (hG b hb)) (fun _ h ↦ h)) hl) ?_; rintro v w2 ⟨hO, hE⟩; replace hX := hX.trans hE; refine op rfl (r_moveV (v := .string _) rfl) ?_; have hX0 := hX; have hO2 := hO; refine opCv rfl (r_call Tryd.func79 Tryd.nm79 rfl) (is_spec s _) ?_; rintro v3 w3 ⟨b, rfl, hE, hb, hbl⟩; replace hX := hX.trans hE; replace hO := hO.ext hE; have hbn : b < w3.heap.size := Blk.lt hb; obtain ⟨rs, hal, hO'⟩ := hO.raw; obtain ⟨A1, cap1, hv1, hc1, -⟩ := hO'.read; subst hv1; have hlen := hal.len
  have hFi : ∀ r ∈ rs, FileR r := fun r hr => by
    obtain ⟨x, _, hx⟩ := hal.mem hr; exact fi_raw hx
  have hown : ∀ g, (Value.slice A1 rs.length cap1).ownBlock = some g → g ≠ b := fun g hg q => by
    subst q; have h0 := hX0.size; have := (hO2.lt hg).2
    omega
  refine opCv rfl (r_call Tryd.func85 Tryd.nm85 rfl) (deleteFuncA_spec (is_pred b s) hO' hFi hFi hb (fun g W W' hg hK hC ↦ Chg.blk hC hK (fun q ↦ hown g hg q.symm)) (by omega)) ?_; rintro v4 w4 ⟨hO4, hob, hG4⟩; refine op rfl (r_assignV (v := v4) rfl) ?_; refine WL_nil ?_; refine W_ret (finX_ret ?_); refine fin1 ?_; have hX4 : Ext w w4 := hX.gro hG4 hX.size (fun k hk => (hO.lt hk).1); refine ⟨_, rfl, Own.of_raw hO4 (Al.filter (fun x r h => by rw [isP_fi h]) (hal.imp (fun x r h => fiT.keep h (fun k hk => hG4.block k hk.2.1 (fun q => hk.2.2 q)) (fun k hk => ⟨hk.1, Nat.lt_of_lt_of_le hk.2.1 hG4.size, fun q => hk.2.2 (hob.symm.trans q)⟩)))), hX4⟩
theorem put_spec {A : Option Addr} {cap : Nat} {l : Tree} {f : Fi} {Af : Option Addr} {cf : Nat} {w : World} {G : Nat → Prop} (hG : ∀ b, G b → b < w.heap.size) (hrow : fiT.Row w G A l) (hl : (l.length + 1) * 40 ≤ 140737488355328) (hfc : f.b.length ≤ cf) (hfl : f.b.length ≤ 140737488355328) (hpl : f.p.length ≤ 140737488355328) (hfrow : Ty.byte.Row w G Af f.b) :
    Calls Tryd.prog 81 #[.slice A l.length cap, .agg #[.string (str f.p), .slice Af f.b.length cf]] w (fun en w' => ∃ v, en = .returned v ∧ OwnT w w' v (putT l f) ∧ Ext w w') := by
  refine calls' (n := 27) (rs := #[.tmp 4]) (l := [.slice A l.length cap, .agg #[.string (str f.p), .slice Af f.b.length cf]]) Tryd.func81 rfl rfl rfl rfl rfl ?_; have hX := Ext.refl w; refine W_seq ?_; refine W_region ?_; refine op_box (v := .agg _) rfl rfl ?_; intro w0_0 b0_0 E0_0 B0_0 L0_0
  have hG0_0 : w.heap.size ≤ b0_0 := by have := hX.size; omega
  replace hX := hX.trans E0_0; refine op rfl (r_assignV (v := .slice _ _ _) rfl) ?_; refine WL_nil ?_; refine W_seq ?_; refine W_region ?_; refine op rfl (r_moveV (v := .slice _ _ _) rfl) ?_; refine op rfl (r_fieldAddr rfl Tryd.fld35_0 rfl) ?_; refine op rfl (r_load (v := .string (str f.p)) rfl Tryd.underlying9 rfl (Blk.cell B0_0 rfl)) ?_; have lb0 := Blk.lt B0_0; refine opCv rfl (r_call Tryd.func80 Tryd.nm80 rfl) (drop_spec (s := f.p) (fun b hb ↦ Nat.lt_of_lt_of_le (hG b hb) hX.size) (hrow.keep (fun b hb ↦ hX.block b (hG b hb)) (fun _ h ↦ h)) (by omega)) ?_; rintro v2 w2 ⟨hO, hE⟩; replace B0_0 := Blk.ext B0_0 hE; replace hX := hX.trans hE; have hdl := drop_len l f.p; have hs02 := hE.size; obtain ⟨t2, ht2⟩ : ∃ t2, t2 = dropT l f.p := ⟨_, rfl⟩
  rw [← ht2] at hO hdl
  obtain ⟨rs, hal, hO'⟩ := hO.raw; obtain ⟨A1, cap1, hv1, hc1, -⟩ := hO'.read; subst hv1; have hlen := hal.len
  have hFi : ∀ r ∈ rs, FileR r := fun r hr => by
    obtain ⟨x, _, hx⟩ := hal.mem hr; exact fi_raw hx
  have hix : rs.findIdx (gtP f.p) = placeT t2 f.p := (Al.findIdx (p := fun x : Fi => decide (bLt f.p x.p)) (q := gtP f.p) (fun x r h => (gtP_fi h).symm) hal).symm; have hw0 := E0_0.size; have hB0l := Blk.lt B0_0; refine op rfl (r_assignV (v := .slice _ _ _) rfl) ?_; refine WL_nil ?_; refine W_seq ?_; refine W_region ?_; refine op rfl (r_moveV (v := .slice _ _ _) rfl) ?_; refine op rfl (r_makeFunc) ?_; have hX2 := hX; refine opCv rfl (r_call Tryd.func77 Tryd.nm77 rfl) (indexFunc_spec (gt_pred b0_0 f.p _) (by have := hO'.old (fun _ q ↦ q.elim); obtain ⟨A', c', q1, _, q2⟩ := this; simp only [Value.slice.injEq] at q1; rw [q1.1]; exact q2) hFi B0_0 (by omega)) ?_; rintro v3 w3 ⟨rfl, hE⟩; replace B0_0 := Blk.ext B0_0 hE; replace hX := hX.trans hE; have hpl0 : placeT t2 f.p ≤ t2.length := List.findIdx_le_length; have hE3 := hE
  rw [hix] at *
  refine op rfl (r_assignV (v := .int _ _) rfl) ?_; refine WL_nil ?_; refine W_seq ?_; refine W_seq ?_; refine W_region ?_; refine op rfl (r_moveV (v := .int _ _) rfl) ?_; refine op rfl (r_lss rfl rfl) ?_; refine WL_nil ?_; refine W_ifp rfl (fun ht15 => ?_) (fun ht15 => ?_)
  · have hpe : placeT t2 f.p = rs.length := by
      unfold ixI at ht15
      split at ht15 <;> omega
    refine W_region ?_; refine op rfl (r_moveV (v := .slice _ _ _) rfl) ?_; refine op rfl (r_len_slice rfl Tryd.underlying23) ?_; refine op rfl (r_assignV (v := .int _ _) rfl) ?_; refine WL_nil ?_; refine W_seq ?_; refine W_region ?_; refine op rfl (r_fieldAddr rfl Tryd.fld35_1 rfl) ?_; refine op rfl (r_load (v := .slice Af f.b.length cf) rfl Tryd.underlying24 rfl (Blk.cell B0_0 rfl)) ?_; refine opCv rfl (r_call Tryd.func47 Tryd.nm47 rfl) (cloneB_spec Af cf f.b _ (by omega) (fun b hb ↦ Nat.lt_of_lt_of_le (hG b hb) hX.size) (hfrow.keep (fun b hb ↦ hX.block b (hG b hb)) (fun _ h ↦ h))) ?_; rintro v5 w5 ⟨hE, hOb⟩; replace B0_0 := Blk.ext B0_0 hE; replace hX := hX.trans hE; have hE5 := hE; obtain ⟨Ab, cb, hvb, hcb, hrb⟩ := hOb.read
    have hv1 : v5.oneCell' = true := by rw [hvb]; rfl
    have hraw1 : Raw 2 [.string (str f.p), v5] := ⟨rfl, fun u hu => by
      rcases List.mem_cons.1 hu with rfl | hu
      · rfl
      · rw [List.mem_singleton.1 hu]; exact hv1⟩
    refine op rfl (r_fieldAddr rfl Tryd.fld35_1 rfl) ?_; refine op_store (v := v5) rfl rfl hv1 Tryd.sz24 B0_0 (Nat.le_of_ble_eq_true rfl) ?_; intro w6 C6 B6; refine WL_nil ?_; refine W_seq ?_; refine W_region ?_; refine op rfl (r_moveV (v := .slice _ _ _) rfl) ?_; refine op rfl (r_moveV (v := .int .i64 (placeT t2 f.p : Nat)) (by first | (rw [hpe]; rfl) | (rw [← hpe]; rfl))) ?_; refine op rfl (r_loadRow (c := #[.string (str f.p), v5]) rfl B6 Tryd.underlying35 rfl Tryd.sz35) ?_; refine op_newS rfl (r_buildRows (vs := [[.string (str f.p), v5]]) Tryd.underlying22 Tryd.sz35 Tryd.zero35 rfl rfl rfl) ?_; intro w7 b7 E7 B7 L7
    have hgb : ∀ k, (Value.slice A1 rs.length cap1).ownBlock = some k → w0_0.heap.size ≤ k ∧ k < w2.heap.size := fun k hk => hO'.lt hk
    have hs23 := hE3.size; have hs35 := hE5.size; have hs56 := C6.size; have hs67 := E7.size
    have hbig : ∀ k, w0_0.heap.size ≤ k → k < w2.heap.size → w7.heap[k]? = w2.heap[k]? := fun k h1 h2 => by
      rw [E7.block k (by omega), C6.block k (by omega) (by omega), hE5.block k (by omega), hE3.block k h2]
    have hO7 := hO'.keep (w' := w7) (F' := nobody) (fun _ q => q.elim) (fun _ q => q.elim) (fun g hg => hbig g (hgb g hg).1 (hgb g hg).2); have hX7 : Ext w w7 := (Chg.ext hX (by omega) C6).trans E7; refine opCv rfl (r_call Tryd.func87 Tryd.nm87 rfl) (insert_spec (i := placeT t2 f.p) (x := [.string (str f.p), v5]) (b2 := b7) hO7 (by omega) hraw1 B7 (fun q => by have := hgb _ q; omega) (by omega) (by omega)) ?_; rintro v8 w8 ⟨hO8, hG8, hv8⟩; have hs78 := hG8.size; have hX8 : Ext w w8 := hX7.gro hG8 (by omega) (fun k hk => by have := hgb k hk; omega); refine op rfl (r_assignV (v := v8) rfl) ?_; refine WL_nil ?_; refine W_ret (finX_ret ?_); refine fin1 ?_; refine ⟨_, rfl, Own.mono (Own.low (Own.of_raw (T := fiT) (F := newF w w8 v8) hO8 ?_) (by omega)) (fun _ h => h), hX8⟩; have hs0 := E0_0.size
    have hnot : ∀ k, (Value.slice A1 rs.length cap1).ownBlock ≠ some k → k < w7.heap.size → v8.ownBlock ≠ some k := fun k h1 h2 q => by
      rcases hv8 with h | ⟨g8, h, h3⟩
      · exact h1 (h.symm.trans q)
      · rw [h] at q; simp only [Option.some.injEq] at q; omega
    unfold putT
    rw [← ht2]
    have hold : Al (fiT.R w8 (newF w w8 v8)) t2 rs := hal.imp fun x r h => fiT.keep h (fun k hk => (hG8.block k (by have := hk.2.1; omega) (fun q => hk.2.2 q)).trans (hbig k hk.1 hk.2.1)) (fun k hk => ⟨by have := hk.1; omega, by have := hk.2.1; omega, hnot k (fun q => hk.2.2 q) (by have := hk.2.1; omega)⟩)
    refine (hold.take _).app ⟨?_, hold.drop _⟩; rw [hvb]; refine fi_mk hcb hfl hpl (hrb.keep ?_ ?_)
    · rintro k (q | q)
      · exact q.elim
      · have h1 := hOb.lt q; have h2 := h1.1; have h3 := h1.2; rw [hG8.block k (by omega) (fun q => by have := hgb k q; omega), E7.block k (by omega), C6.block k h3 (by omega)]
    · rintro k (q | q)
      · exact q.elim
      · have h1 := hOb.lt q; have h2 := h1.1; have h3 := h1.2; exact ⟨by omega, by omega, hnot k (fun q => by have := hgb k q; omega) (by omega)⟩
  · have hpe : ixI (placeT t2 f.p) rs.length = (placeT t2 f.p : Nat) := by
      unfold ixI at ht15 ⊢
      split at ht15
      · rw [if_pos (by assumption)]
      · omega
    refine W_skip ?_; refine W_seq ?_; refine W_region ?_; refine op rfl (r_fieldAddr rfl Tryd.fld35_1 rfl) ?_; refine op rfl (r_load (v := .slice Af f.b.length cf) rfl Tryd.underlying24 rfl (Blk.cell B0_0 rfl)) ?_; refine opCv rfl (r_call Tryd.func47 Tryd.nm47 rfl) (cloneB_spec Af cf f.b _ (by omega) (fun b hb ↦ Nat.lt_of_lt_of_le (hG b hb) hX.size) (hfrow.keep (fun b hb ↦ hX.block b (hG b hb)) (fun _ h ↦ h))) ?_; rintro v5 w5 ⟨hE, hOb⟩; replace B0_0 := Blk.ext B0_0 hE; replace hX := hX.trans hE; have hE5 := hE; obtain ⟨Ab, cb, hvb, hcb, hrb⟩ := hOb.read
    have hv1 : v5.oneCell' = true := by rw [hvb]; rfl
    have hraw1 : Raw 2 [.string (str f.p), v5] := ⟨rfl, fun u hu => by
      rcases List.mem_cons.1 hu with rfl | hu
      · rfl
      · rw [List.mem_singleton.1 hu]; exact hv1⟩
    refine op rfl (r_fieldAddr rfl Tryd.fld35_1 rfl) ?_; refine op_store (v := v5) rfl rfl hv1 Tryd.sz24 B0_0 (Nat.le_of_ble_eq_true rfl) ?_; intro w6 C6 B6; refine WL_nil ?_; refine W_seq ?_; refine W_region ?_; refine op rfl (r_moveV (v := .slice _ _ _) rfl) ?_; refine op rfl (r_moveV (v := .int .i64 (placeT t2 f.p : Nat)) (by first | (rw [hpe]; rfl) | (rw [← hpe]; rfl))) ?_; refine op rfl (r_loadRow (c := #[.string (str f.p), v5]) rfl B6 Tryd.underlying35 rfl Tryd.sz35) ?_; refine op_newS rfl (r_buildRows (vs := [[.string (str f.p), v5]]) Tryd.underlying22 Tryd.sz35 Tryd.zero35 rfl rfl rfl) ?_; intro w7 b7 E7 B7 L7
    have hgb : ∀ k, (Value.slice A1 rs.length cap1).ownBlock = some k → w0_0.heap.size ≤ k ∧ k < w2.heap.size := fun k hk => hO'.lt hk
    have hs23 := hE3.size; have hs35 := hE5.size; have hs56 := C6.size; have hs67 := E7.size
    have hbig : ∀ k, w0_0.heap.size ≤ k → k < w2.heap.size → w7.heap[k]? = w2.heap[k]? := fun k h1 h2 => by
      rw [E7.block k (by omega), C6.block k (by omega) (by omega), hE5.block k (by omega), hE3.block k h2]
    have hO7 := hO'.keep (w' := w7) (F' := nobody) (fun _ q => q.elim) (fun _ q => q.elim) (fun g hg => hbig g (hgb g hg).1 (hgb g hg).2); have hX7 : Ext w w7 := (Chg.ext hX (by omega) C6).trans E7; refine opCv rfl (r_call Tryd.func87 Tryd.nm87 rfl) (insert_spec (i := placeT t2 f.p) (x := [.string (str f.p), v5]) (b2 := b7) hO7 (by omega) hraw1 B7 (fun q => by have := hgb _ q; omega) (by omega) (by omega)) ?_; rintro v8 w8 ⟨hO8, hG8, hv8⟩; have hs78 := hG8.size; have hX8 : Ext w w8 := hX7.gro hG8 (by omega) (fun k hk => by have := hgb k hk; omega); refine op rfl (r_assignV (v := v8) rfl) ?_; refine WL_nil ?_; refine W_ret (finX_ret ?_); refine fin1 ?_; refine ⟨_, rfl, Own.mono (Own.low (Own.of_raw (T := fiT) (F := newF w w8 v8) hO8 ?_) (by omega)) (fun _ h => h), hX8⟩; have hs0 := E0_0.size
    have hnot : ∀ k, (Value.slice A1 rs.length cap1).ownBlock ≠ some k → k < w7.heap.size → v8.ownBlock ≠ some k := fun k h1 h2 q => by
      rcases hv8 with h | ⟨g8, h, h3⟩
      · exact h1 (h.symm.trans q)
      · rw [h] at q; simp only [Option.some.injEq] at q; omega
    unfold putT
    rw [← ht2]
    have hold : Al (fiT.R w8 (newF w w8 v8)) t2 rs := hal.imp fun x r h => fiT.keep h (fun k hk => (hG8.block k (by have := hk.2.1; omega) (fun q => hk.2.2 q)).trans (hbig k hk.1 hk.2.1)) (fun k hk => ⟨by have := hk.1; omega, by have := hk.2.1; omega, hnot k (fun q => hk.2.2 q) (by have := hk.2.1; omega)⟩)
    refine (hold.take _).app ⟨?_, hold.drop _⟩; rw [hvb]; refine fi_mk hcb hfl hpl (hrb.keep ?_ ?_)
    · rintro k (q | q)
      · exact q.elim
      · have h1 := hOb.lt q; have h2 := h1.1; have h3 := h1.2; rw [hG8.block k (by omega) (fun q => by have := hgb k q; omega), E7.block k (by omega), C6.block k h3 (by omega)]
    · rintro k (q | q)
      · exact q.elim
      · have h1 := hOb.lt q; have h2 := h1.1; have h3 := h1.2; exact ⟨by omega, by omega, hnot k (fun q => by have := hgb k q; omega) (by omega)⟩
end Go.Proofs.YtmedmajdoecjfaaDoor
